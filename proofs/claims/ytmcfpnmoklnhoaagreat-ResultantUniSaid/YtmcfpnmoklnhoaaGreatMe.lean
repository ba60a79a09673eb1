/- Me -/
import Derived.Test.YtmcfpnmoklnhoaaGreatMd
import Derived.StillTailTactics
set_option linter.unusedVariables false
set_option maxRecDepth 100000
set_option maxHeartbeats 400000000
set_option linter.unusedSimpArgs false
namespace Go.Proofs.YtmcfpnmoklnhoaaGreat
open Go.RowKit
theorem Tryz.zH:(Tryz.prog.info? 33).map (λi=>(i.zero,i.size,i.bytes))=some (some (.agg #[.int .i64 0,.bool false,.slice none 0 0,.slice none 0 0]),4,64):=by kernel_rfl
theorem qtG{j:Nat}{l:List Tm}{m:Mo}(h:∀t∈l,∀k,j<k->k<=4->t.2.get k=m.get k):aL (nI j l) (ru j m)=aL l m:=by
 induction l with
 |nil=>rfl
 |cons t l ih=>
  have e1:=ih λu hu=>h u (List.mem_cons_of_mem _ hu)
  have e2:ru j t.2=ru j m↔t.2=m:=by
   constructor
   ·intro hc;refine Mo.ext_get λk h1 h4=>?_
    by_cases hk:k<=j
    ·have:=congrArg (λq=>Mo.get q k) hc;simp only[Kk,ai hk]at this;exact this
    ·exact h t List.mem_cons_self k (by omega) h4
   ·intro hc;rw[hc]
  show(if ru j t.2=ru j m then t.1 else 0)+aL (nI j l) (ru j m)=(if t.2=m then t.1 else 0)+aL l m;rw[e1]
  by_cases hm:t.2=m
  ·rw[ai hm,ai (e2.2 hm)]
  ·rw[ah hm,ah (λq=>hm (e2.1 q))]
theorem qtI(L:Nat)(e:Int)(l:List Tm)(m:Mo)(hm:m.get L=e):aL (rT L e l) m=aL l m:=by
 induction l with
 |nil=>rfl
 |cons t l ih=>
  unfold rT at ih⊢;rw[List.filter_cons]
  by_cases ht:t.2.get L=e
  ·rw[ai (by simpa using ht)];show(if t.2=m then t.1 else 0)+_=(if t.2=m then t.1 else 0)+_;rw[ih]
  ·rw[ah (by simpa using ht),ih];show _=(if t.2=m then t.1 else 0)+_;rw[ah (λq=>ht (by rw[q];exact hm))];simp
theorem qtH{n:Nat}{z:Nat->Int}{x:Nat->TE}(h:Canon (eZ n z x))(h0:0<n):aL (eZ n z x) (x 0).m=z 0/\z 0≠0:=by
 have e:=YK 1 n z x (by omega);have e1:eZ 1 z x=[(z 0,(x 0).m)]:=rfl;rw[e1]at e;rw[e]at h⊢;exact⟨Canon.EW (t:=(z 0,(x 0).m)) h,(h.2 (z 0,(x 0).m) List.mem_cons_self).1⟩
theorem Ej(i:Nat):arr (Value.agg #[.int .i64 0,.bool false,.slice none 0 0,.slice none 0 0]).cells (i%4)=gN i:=by
 have h:=Nat.mod_lt i (show 4>0 by omega);unfold gN;generalize i%4=k at*
 match k,h with
 |0,_=>rfl
 |1,_=>rfl
 |2,_=>rfl
 |3,_=>rfl
theorem qte(L:Nat)(xN:L<=4)(ih:∀D,D<L->YQ D):YQ L:=by
 intro M v n z x w hM hX hI hC hA hE;obtain⟨va,vc,rfl⟩:=hX.form;obtain⟨i0,hi,hz0,hz1,hz2⟩:=info_parts Tryz.zH;have gH:=hX.1;have HI:=ae hI;have HC:=ae hC;have HA:=ae hA;have HE:=ae hE;have HX:=ae hX;have jQ:Mb (Mx M w.heap.size (w.heap.size+1)) (w.alloc (.cells #[.int .i64 0,.bool false,.slice none 0 0,.slice none 0 0] 33)):=Mx.mb hM (by simp) (by simp);have kH:=ae jQ;clear hI hC hA hE hX jQ;have o8:=aG.bq w #[.int .i64 0,.bool false,.slice none 0 0,.slice none 0 0] 33 4 rfl;have Du:Ext w (w.alloc (.cells #[.int .i64 0,.bool false,.slice none 0 0,.slice none 0 0] 33)):=(aA w).alloc _;have jJ:=ae o8;have jo:=ae Du;clear o8 Du
 by_cases h0:n=0
 ·subst h0
  go_enter Tryz.func99,Tryz.ntmps99
  go_wp2;refine bu (v:=.agg #[.int .i64 0,.bool false,.slice none 0 0,.slice none 0 0]) (by simp[results,Tryz.results99,go_sem]) rfl ⟨_,_,_,_,rfl,?_,?_⟩
  ·exact CR.zero _ _ _
  ·exact jo.out
 ·have t0:((n:Int)==0)=false:=by simp;omega
  obtain⟨b,off,rfl,mi,iB,hb,x0,x1,x2,x3,x4,x5⟩:=HX.out.at 0 (by omega);rw[Nat.zero_mul,Nat.add_zero]at x0 x1 x2 x3 x4 x5;have xu:=ae (qd4 x2 x3 x4 x5);have hL0:(0:Int)<=(L:Int):=iw _
  have hL5:(L:Int)<=4:=by omega
  go_enter Tryz.func99,Tryz.ntmps99
  go_wp2
  go_loopw [1] (λi wr=>∃lv:Nat,lv<=L/\i=.int .i64 lv/\Hid (Agree lv (eZ n z x))/\Hid (nI lv (eZ n z x)=nI L (eZ n z x))/\w.alloc (.cells #[.int .i64 0,.bool false,.slice none 0 0,.slice none 0 0] 33)=wr) (λi _=>(intOf i).toNat)
  case atStart=>exact⟨L,aI _,rfl,HA,rfl,rfl⟩
  case round=>
   obtain⟨lv,iJ,rfl,rF,qi,rfl⟩:=hrel
   by_cases hl0:lv=0
   ·subst hl0
    have HN:Hid (n=1):=by
     rcases Nat.lt_or_ge 1 n with kR|hle
     ·exfalso;have h1:=qiR HC.out (i:=0) (j:=1) (by omega) kR;refine Mo.K9 h1 (Mo.ext_get λk hk mI=>rF.out _ (BZ kR) _ (BZ (by omega)) k (by omega) mI)
     ·show _=_;omega
    have HF:Hid (CR M w L (.int .i64 0) (.bool (x 0).b) (.slice (x 0).a (x 0).n (x 0).p) (.slice none 0 0) (nI L (eZ n z x))):=by
     refine(CR.const (HI.out 0 (by omega)) L).dh ?_;rw[<-qi.out,HN.out];have:ru 0 (x 0).m=Mo.zero:=rfl;simp[nI,eZ,this,af.refl]
    go_wp2;refine bu (v:=.agg #[.int .i64 0,.bool (x 0).b,.slice (x 0).a (x 0).n (x 0).p,.slice none 0 0]) (by simp[results,Tryz.results99,go_sem]) rfl ⟨_,_,_,_,rfl,?_,?_⟩
    ·exact HF.out.ext ((aA w).alloc _)
    ·exact(aA w).alloc _
   ·obtain⟨j,rfl⟩:∃j,lv=j+1:=⟨lv-1,by omega⟩
    have FE:j<4:=by omega
    have lj0:(0:Int)<=(j:Int):=iw _
    have lj1:(j:Int)<4:=by omega
    have y0:=xu.out j FE
    by_cases yg:(x 0).m.get (j+1)=0
    ·rw[yg]at y0
     have HZ:Hid (∀t∈eZ n z x,t.2.get (j+1)=0):=by
      intro t ht;obtain⟨i,WM,rfl⟩:=Jq ht;have h1:=QK HC.out rF.out (by omega) (by omega) (bK i) WM;have h2:=wZ (HC.out.2 _ (BZ WM)).2 (j+1);simp only at h2⊢;omega
     have yo:Hid (Agree j (eZ n z x)):=rF.out.next λs hs t ht=>by rw[HZ.out s hs,HZ.out t ht]
     have Zl:Hid (nI j (eZ n z x)=nI L (eZ n z x)):=(qtW (L:=j+1) (by omega) (by omega) HZ.out).trans qi.out;clear yg;go_wp2
     go_roundw
     case rel=>exact⟨j,by omega,rfl,yo,Zl,by first|rfl|trivial⟩
     case measure=>simp[intOf]
    ·have qnw:((x 0).m.get (j+1)==0)=false:=by simpa using yg
     obtain⟨E,aV⟩:∃E:Nat,(x 0).m.get (j+1)=E:=⟨((x 0).m.get (j+1)).toNat,by have:=wZ (HC.out.2 _ (BZ (show 0<n by omega))).2 (j+1);simp only at this;omega⟩;have gI:=ae aV;rw[aV]at y0 qnw
     have NB:(E:Int)<=1073741824:=by rw[<-aV];exact HE.out 0 (by omega) _
     clear yg aV;have dE:decide (1073741824<(E:Int))=false:=decide_eq_false (by omega)
     go_wp2_with (first|(refine wpList_make_full _ rfl _ _ _ rfl (w.heap.size+1) 33 i0 (.agg #[.int .i64 0,.bool false,.slice none 0 0,.slice none 0 0]) 4 Tryz.underlying31 hi hz0 hz1 .i64 .i64 _ _ (E+1) rfl rfl ?c4 ?c5 ?c2 ?c3 ?c6 ?_))
     case c2=>rw[hz2];omega
     case c3=>unfold maxLen;omega
     case c4=>simp
     case c5=>simp
     case c6=>simp
     intro w1 hown hgrow
     try simp only[World.size_alloc]at hown
     have cO:=(aG.made hown rfl (by omega)).congr (f':=gN) (by
      intro i _
      exact Ej i)
     have az:=nL hgrow;clear hown hgrow;have dF:Hid (aG w1 w.heap.size 33 4 (arr #[.int .i64 0,.bool false,.slice none 0 0,.slice none 0 0])):=jJ.out.ext az;have aJ:Ext w w1:=jo.out.trans az
     have eU:w.heap.size+2<=w1.heap.size:=by have:=cO.lt;omega
     have hKf:Kids (Mx M w.heap.size (w.heap.size+2)) w1 j (w.heap.size+1) (E+1) (λ_=>[]):=Kids.fresh (by simpa using cO);have qm:=ae hKf;clear hKf cO az;go_wp2
     go_loopw [6] (λi wr=>∃s:Nat,s<=n/\i=.int .i64 s/\w.heap.size+2<=wr.heap.size/\Hid (Kids (Mx M w.heap.size (w.heap.size+2)) wr j (w.heap.size+1) (E+1) (λi=>nI j (rT (j+1) (i:Int) (eZ s z x))))/\Hid (∀i k,i<s->s<=k->k<n->(x k).m.get (j+1)≠(x i).m.get (j+1))/\Hid (Ext w wr)/\Hid (aG wr w.heap.size 33 4 (arr #[.int .i64 0,.bool false,.slice none 0 0,.slice none 0 0]))) (λi _=>n-(intOf i).toNat)
     case atStart=>exact⟨0,bK _,rfl,eU,qm.out,λi k h=>by omega,aJ,dF⟩
     case round=>
      clear qm eU aJ dF;obtain⟨s,hs,rfl,hsz,HK,qhw,cZ,uO⟩:=hrel
      by_cases hlt:s<n
      ·obtain⟨bb,oo,e1,_,_,_,z0,z1,z2,z3,z4,z5⟩:=HX.out.at s hlt;simp only[Option.some.injEq,Addr.mk.injEq,and_true]at e1;obtain⟨rfl,rfl⟩:=e1;have zj:=qd4 z2 z3 z4 z5 j FE;rw[<-cZ.out.cell hb]at zj
       have jE:b<wr.heap.size:=by omega
       obtain⟨e,p8⟩:∃e:Nat,(x s).m.get (j+1)=e:=⟨((x s).m.get (j+1)).toNat,by have:=wZ (HC.out.2 _ (BZ hlt)).2 (j+1);simp only at this;omega⟩;have aS:=ae p8;rw[p8]at zj
       have heE:e<=E:=by have:=QK HC.out rF.out (by omega) (by omega) (bK s) hlt;rw[p8,gI.out]at this;omega
       clear p8 z0 z1 z2 z3 z4 z5;go_wp2;obtain⟨wo,rfl⟩:∃wo:World,wo=wr:=⟨_,rfl⟩
       go_loopw [8] (λi wq=>∃q:Nat,s<=q/\q<=n/\i=.int .i64 q/\Hid (∀k,s<=k->k<q->(x k).m.get (j+1)=e)/\wo=wq) (λi _=>n-(intOf i).toNat)
       case atStart=>exact⟨s,aI _,hs,rfl,λk h1 h2=>by omega,rfl⟩
       case round=>
        obtain⟨q,hq1,hq2,rfl,HQ,rfl⟩:=hrel
        have qxV:(q<n/\(x q).m.get (j+1)=e)\/(q<n/\(x q).m.get (j+1)≠e)\/q=n:=by omega
        have Rf:q<n->wo.cell? ⟨b,off+q*6+2+j,none⟩=some (.int .i64 ((x q).m.get (j+1))):=by
         intro x8;obtain⟨bb,oo,e1,_,_,_,z0,z1,z2,z3,z4,z5⟩:=HX.out.at q x8;simp only[Option.some.injEq,Addr.mk.injEq,and_true]at e1;obtain⟨rfl,rfl⟩:=e1;rw[cZ.out.cell hb];exact qd4 z2 z3 z4 z5 j FE
        rcases qxV with⟨x8,heq⟩|hstop
        ·have zq:=Rf x8;rw[heq]at zq
         have HQ1:Hid (∀k,s<=k->k<q+1->(x k).m.get (j+1)=e):=λk h1 h2=>if hk:k<q then HQ.out k h1 hk else by
          have:k=q:=by omega
          subst this;exact heq
         clear Rf heq;go_wp2
         go_roundw
         case rel=>exact⟨q+1,by omega,by omega,by go_num,HQ1,by first|rfl|trivial⟩
         case measure=>simp[intOf];omega
        ·have Iw:s<q:=by
          rcases Nat.lt_or_ge s q with h|h
          ·exact h
          ·have:q=s:=by omega
           subst this;rcases hstop with⟨_,h⟩|h
           ·exact absurd aS.out h
           ·omega
         have HQE:Hid (q<n->(x q).m.get (j+1)≠e):=λh=>by rcases hstop with⟨_,h⟩|h;exact h;omega
         have Gu:=ae (o6.ext ((HX.out.sub s q hq1 hq2).more (M':=Mx M w.heap.size (w.heap.size+2)) (Mx.more (aI _))) cZ.out);have UY:Hid (∀i,i<q-s->ek (Mx M w.heap.size (w.heap.size+2)) wo (.bool (x (s+i)).b) (.slice (x (s+i)).a (x (s+i)).n (x (s+i)).p) (z (s+i))):=λi hi=>((HI.out (s+i) (by omega)).more (Mx.more (aI _))).ext cZ.out;have HMO:Hid (Mb (Mx M w.heap.size (w.heap.size+2)) wo):=Mx.mb hM cZ.out.size hsz
         have HAG:Hid (Agree j (eZ (q-s) (λi=>z (s+i)) (λi=>x (s+i)))):=by
          refine Agree.next (L:=j+1) (rF.out.sub λt ht=>?_) λt1 Iz t2 ht2=>?_
          ·obtain⟨i,Ru,rfl⟩:=Jq ht;exact BZ (i:=s+i) (by omega)
          ·obtain⟨i1,h1,rfl⟩:=Jq Iz;obtain⟨i2,h2,rfl⟩:=Jq ht2;simp only;rw[HQ.out _ (by omega) (by omega),HQ.out _ (by omega) (by omega)]
         have hbq:∀hh:Prop,hh->hh:=λ_ h=>h;have qlV:=ih j (by omega) _ _ _ _ _ _ HMO.out Gu.out UY.out (HC.out.sub s q hq1 hq2) HAG.out (λi hi k=>HE.out (s+i) (by omega) k);have aW:=ae qlV;clear qlV hbq
         have Jz:Hid (∀i,i<E+1->af (if i=e then nI j (eZ (q-s) (λi=>z (s+i)) (λi=>x (s+i)))else nI j (rT (j+1) (i:Int) (eZ s z x))) (nI j (rT (j+1) (i:Int) (eZ q z x)))):=by
          intro i _;rw[YK s q z x hq1,qvC]
          by_cases NY:i=e
          ·subst NY;rw[ai rfl,qj8 (l:=eZ s z x),qvD,List.nil_append]
           ·exact af.refl _
           ·intro t ht;obtain⟨i1,h1,rfl⟩:=Jq ht;exact HQ.out _ (by omega) (by omega)
           ·intro t ht;obtain⟨i1,h1,rfl⟩:=Jq ht;have:=qhw.out i1 s h1 (aI _) hlt;rw[aS.out]at this;exactλq=>this q.symm
          ·rw[ah NY,qj8 (l:=eZ (q-s) _ _),List.append_nil]
           ·exact af.refl _
           ·intro t ht;obtain⟨i1,h1,rfl⟩:=Jq ht;simp only;rw[HQ.out _ (by omega) (by omega)];omega
         have qsx:Hid (∀i k,i<q->q<=k->k<n->(x k).m.get (j+1)≠(x i).m.get (j+1)):=by
          intro i k h1 h2 h3
          by_cases his:i<s
          ·exact qhw.out i k his (by omega) h3
          ·rw[HQ.out i (by omega) h1];have g1:=QK HC.out rF.out (by omega) (by omega) h2 h3;have g2:=QK HC.out rF.out (by omega) (by omega) hq1 (show q<n by omega);have g3:=HQE.out (by omega);rw[aS.out]at g2;omega
         have hdec:(decide (q<n)=true/\q<n/\((x q).m.get (j+1)==(e:Int))=false)\/(decide (q<n)=false/\¬q<n):=by
          rcases hstop with⟨h1,h2⟩|h1
          ·exact .inl ⟨decide_eq_true h1,h1,by simpa using h2⟩
          ·exact .inr ⟨decide_eq_false (by omega),by omega⟩
         clear hstop;rcases hdec with⟨dq,x8,hne⟩|⟨dq,x8⟩
         all_goals
          try have zq:=Rf x8
          clear Rf;go_wp2_with (fail);refine(aW.out).mono ?_;rintro e2 w4 ⟨c0,c1,c2,c3,rfl,dG,bB⟩;obtain⟨rD,b',a',n',p',ka,kn,kp,rfl,rfl,rfl,rfl,_⟩:=dG.form;have fo:=HK.out.ext bB;obtain⟨⟨_,k0⟩,⟨_,k1⟩,⟨_,k2⟩,⟨_,k3⟩,bA,nO⟩:=fo.at e (by omega);have fV:=bA (e*4);have fP:=bA (e*4+1);have iU:=bA (e*4+2);have p9:=bA (e*4+3)
          have KI:(e:Int)<(E:Int)+1:=by omega
          have lV:=ae ((fo.set (Mx.at (by omega)) e (by omega) dG).congr Jz.out);have dV:Hid (Ext w (aM w4 (w.heap.size+1) (e*4) (.int .i64 rD) (.bool b') (.slice a' n' p') (.slice ka kn kp))):=(cZ.out.trans bB).aM (by omega) _ _ _ _ _;have oQ:Hid (aG (aM w4 (w.heap.size+1) (e*4) (.int .i64 rD) (.bool b') (.slice a' n' p') (.slice ka kn kp)) w.heap.size 33 4 (arr #[.int .i64 0,.bool false,.slice none 0 0,.slice none 0 0])):=(uO.out.ext bB).of_heap (iI _ _ _ _ _ _ _ _ (by omega))
          have qnk:w.heap.size+2<=(aM w4 (w.heap.size+1) (e*4) (.int .i64 rD) (.bool b') (.slice a' n' p') (.slice ka kn kp)).heap.size:=by rw[nW];have:=bB.size;omega
          have rf:=ae qnk;clear fo bA dG bB qnk;go_wp2
          go_roundw
          case rel=>exact⟨q,hq2,rfl,rf.out,lV,qsx,dV,oQ⟩
          case measure=>simp[intOf];omega
      ·have hsn:s=n:=by omega
       subst hsn;obtain⟨⟨q0,q1,q2,q3⟩,⟨f0,f1,f2,f3⟩,⟨r0,r1,r2,r3⟩,hk,hf⟩:=AR (M':=Mx M w.heap.size (w.heap.size+2)) (w:=w) (.int .i64 ((j:Int)+1)) (.bool false) (.slice none 0 0) (.slice (some ⟨w.heap.size+1,0,none⟩) (E+1) (E+1)) uO.out (Mx.at (by omega)) (aI _) cZ.out
       have iN:E≠0:=by simpa using qnw
       have HF:Hid (CR M (aM wr w.heap.size 0 (.int .i64 ((j:Int)+1)) (.bool false) (.slice none 0 0) (.slice (some ⟨w.heap.size+1,0,none⟩) (E+1) (E+1))) L (.int .i64 ((j:Int)+1)) (.bool false) (.slice none 0 0) (.slice (some ⟨w.heap.size+1,0,none⟩) (E+1) (E+1)) (nI L (eZ s z x))):=by
        have hK:=HK.out.kp (iI wr w.heap.size 0 (.int .i64 ((j:Int)+1)) (.bool false) (.slice none 0 0) (.slice (some ⟨w.heap.size+1,0,none⟩) (E+1) (E+1)) (w.heap.size+1) (by omega)) hk;refine(CR.dh (CR.node (D:=j) (by omega) (by omega) (by omega) (aI _) (by unfold maxLen;omega) (by rw[nW];omega) (hM.new (by omega)) (λi hi=>hK.bN (M':=M) Mx.less i hi) ?_) ?_).up (by omega)
        ·intro hs0;have h1:=hs0 (ru j (x 0).m)
         have vK:(x 0).m.get (j+1)=((E+1-1:Nat):Int):=by rw[gI.out];simp
         rw[qtG,qtI _ _ _ _ vK]at h1
         ·have h2:=qtH HC.out (by omega);exact h2.2 (h2.1.symm.trans h1)
         ·intro t ht k j5 jf;have Iz:=List.mem_filter.1 ht;rcases Nat.lt_or_ge (j+1) k with hkk|hkk
          ·exact rF.out t Iz.1 _ (BZ (by omega)) k hkk jf
          ·have:k=j+1:=by omega
           subst this;rw[vK];simpa using Iz.2
        ·rw[<-qi.out];refine qBr (j+1) (E+1) _ (by omega) (by omega) λt ht=>?_;obtain⟨i,Ru,rfl⟩:=Jq ht;have h1:=QK HC.out rF.out (by omega) (by omega) (bK i) Ru;have h2:=wZ (HC.out.2 _ (BZ Ru)).2 (j+1);rw[gI.out]at h1;simp only at h2⊢;omega
       have dI:=ae hf;unfold aM at r0 r1 r2 r3;simp only[arr]at q0 q1 q2 q3;have R0:=ae r0;have R1:=ae r1;have R2:=ae r2;have R3:=ae r3;clear hk hf r0 r1 r2 r3;go_wp2;exact bu (v:=.agg #[.int .i64 ((j:Int)+1),.bool false,.slice none 0 0,.slice (some ⟨w.heap.size+1,0,none⟩) (E+1) (E+1)]) (by simp[results,Tryz.results99,go_sem,R0.out,R1.out,R2.out,R3.out]) rfl ⟨_,_,_,_,rfl,HF.out,dI.out⟩
theorem qAW(L:Nat)(hL:L<=4):YQ L:=by
 induction L using Nat.strongRecOn with
 |_ L ih=>exact qte L hL λD hD=>ih D hD (by omega)
theorem vR{M M':Nat->Prop}{w W:World}{g:Nat}{t:TypeId}{f:Nat->Value}{L:Nat}{l:List Tm}{c0 c1 c2 c3:Value}(hB:aG W g t 4 f)(hg:M' g)(hw:w.heap.size<=g)(he:Ext w W)(hc:CR M' W L c0 c1 c2 c3 l)(hm:∀g,M g->M' g):
 (W.cell? ⟨g,0,none⟩=some (f 0)/\W.cell? ⟨g,1,none⟩=some (f 1)/\W.cell? ⟨g,2,none⟩=some (f 2)/\W.cell? ⟨g,3,none⟩=some (f 3))/\
 (W.frozen? ⟨g,0,none⟩=false/\W.frozen? ⟨g,1,none⟩=false/\W.frozen? ⟨g,2,none⟩=false/\W.frozen? ⟨g,3,none⟩=false)/\
 (((((W.setCell ⟨g,0,none⟩ c0).setCell ⟨g,1,none⟩ c1).setCell ⟨g,2,none⟩ c2).setCell ⟨g,3,none⟩ c3).cell? ⟨g,0,none⟩=some c0/\((((W.setCell ⟨g,0,none⟩ c0).setCell ⟨g,1,none⟩ c1).setCell ⟨g,2,none⟩ c2).setCell ⟨g,3,none⟩ c3).cell? ⟨g,1,none⟩=some c1/\
  ((((W.setCell ⟨g,0,none⟩ c0).setCell ⟨g,1,none⟩ c1).setCell ⟨g,2,none⟩ c2).setCell ⟨g,3,none⟩ c3).cell? ⟨g,2,none⟩=some c2/\((((W.setCell ⟨g,0,none⟩ c0).setCell ⟨g,1,none⟩ c1).setCell ⟨g,2,none⟩ c2).setCell ⟨g,3,none⟩ c3).cell? ⟨g,3,none⟩=some c3)/\
 Hid (vY M w L l (.returned (.agg #[c0,c1,c2,c3])) ((((W.setCell ⟨g,0,none⟩ c0).setCell ⟨g,1,none⟩ c1).setCell ⟨g,2,none⟩ c2).setCell ⟨g,3,none⟩ c3)):=by
 obtain⟨h1,h2,h3,h4,h5⟩:=AR (M':=M') (w:=w) c0 c1 c2 c3 hB hg hw he;exact⟨h1,h2,h3,c0,c1,c2,c3,rfl,(hc.kp h4).more (λg hg=>.inl (hm g hg)),h5⟩
theorem Mx.sub{M:Nat->Prop}{n k:Nat}:∀g,M g->Mx M n k g:=λ_ h=>.inl h
theorem RR.cr{M:Nat->Prop}{w:World}{d:Nat}{t:RT d}{c0 c1 c2 c3:Value}(h:RR M w d t c0 c1 c2 c3)(hc:gM d t=true):CR M w 4 c0 c1 c2 c3 (terms d t):=by
 cases d with
 |zero=>exact h.elim
 |succ d=>
  have hl:=ES hc;obtain⟨u,k1,k2,k3,k4,_⟩:=qeD 4 h hc (by show t.1<=_;omega);have k3':u.1=t.1:=k3;exact⟨u,k1,k2,by omega,by rw[k4];exact af.refl _⟩
theorem qeX:∀(d:Nat)(t:RT d),∀s∈terms d t,s.2.nn=true
 |0,_,s,hs=>by cases hs
 |d+1,t,s,hs=>by
  unfold terms at hs
  split at hs
  ·simp only[List.mem_singleton]at hs;subst hs;exact(by decide:Mo.zero.nn=true)
  ·split at hs
   ·cases hs
   ·obtain⟨i,hi,u,hu,rfl⟩:=FX hs;have h1:=qeX d _ u hu;rw[Mo.BN]at h1⊢;simp only[Mo.add,xp];refine⟨?_,?_,?_,?_⟩<;>(split<;>omega)
theorem qBs{l:List Tm}(h:∀s∈l,s.2.nn=true):af (norm l) l:=by
 intro m;rw[OC];unfold sD
 split
 ·rfl
 ·rename_i hm;exact(rQ λt ht e=>hm (by rw[<-e];exact h t ht)).symm
theorem uV.fB{M:Nat->Prop}{base:Nat}{w:World}{v:Value}{n:Nat}{z:Nat->Int}{x:Nat->TE}(h:uV M base w v n z x)(hM:∀g,base<=g->¬M g)(hn:n<=1099511627776):Qg M w v (eZ n z x):=by
 obtain⟨h1,h2⟩:=h;refine o6.v ⟨hn,?_,λi hi=>(h2 i hi).more λg hg=>.inl (.inl hg)⟩
 by_cases h0:n=0
 ·subst h0;rcases h1 with⟨rfl,_⟩|⟨g,cap,F,rfl,hg,hB,hc,hm,hF⟩
  ·exact .inl ⟨⟨none,0,rfl,bK _⟩,rfl⟩
  ·exact .inr ⟨g,0,cap,rfl,hc,hm,⟨hB.lt,hM g hg⟩,λi hi=>by omega⟩
 ·obtain⟨g,cap,F,rfl,hg,hB,hc,hm,hF⟩:=h1.some (by omega);refine .inr ⟨g,0,cap,rfl,hc,hm,⟨hB.lt,hM g hg⟩,λi hi=>?_⟩
  have hcell:∀k,k<6->w.cell? ⟨g,0+i*6+k,none⟩=some (tx x (i*6+k)):=λk hk=>by
   rw[Nat.zero_add,hB.cell (by omega),hF _ (by omega)]
  have a0:=hcell 0 (by omega);have a1:=hcell 1 (by omega);have a2:=hcell 2 (by omega);have a3:=hcell 3 (by omega);have a4:=hcell 4 (by omega);have a5:=hcell 5 (by omega);unfold tx at a0 a1 a2 a3 a4 a5;rw[Nat.add_zero,Nat.add_zero,OW]at a0;rw[OX]at a1;rw[TA]at a2;rw[TC]at a3;rw[TD]at a4;rw[TF]at a5;exact⟨a0,a1,a2,a3,a4,a5⟩
theorem qs2(l:List Tm):Agree 4 l:=λ_ _ _ _ k h1 h2=>by omega
theorem qAQ{d:Nat}(h:d<=1000):Room d Mo.zero:=λk=>by rw[uw];omega
def TB(d:Nat)(t:RT d):Prop:=d<=1000/\(terms d t).length<=1099511627776/\aH (aK (terms d t))<=1099511627776/\∀s∈terms d t,∀k,s.2.get k<=1073741824
theorem qtd{M:Nat->Prop}{w:World}{B:Nat}{v:Value}{l:List Tm}(hM:Mb M w)(h:AB M B w v (norm l))(he:∀s∈l,∀k,s.2.get k<=1073741824):
 Calls Tryz.prog 99 #[v,.int .i64 4] w (vY M w 4 (norm l)):=by
 obtain⟨n,z,x,hx,hl,hI⟩:=h.x
 have hb:=qAW 4 (aI _) M v n z x w hM hx hI (by rw[<-hl];exact sF l) (qs2 _) (λi hi k=>by
  have hm:=BZ (z:=z) (x:=x) hi;rw[<-hl]at hm;obtain⟨s,hs,e⟩:=qoP hm;have:=he s hs k
  rw[e]at this;exact this)
 rw[<-hl,qtU]at hb;exact hb
theorem vY.dh{M:Nat->Prop}{w w':World}{L:Nat}{l r:List Tm}{e:Ending}(h:vY M w L l e w')(hs:af l r):vY M w L r e w':=by
 obtain⟨c0,c1,c2,c3,h1,h2,h3⟩:=h;exact⟨c0,c1,c2,c3,h1,h2.dh hs,h3⟩
theorem qAX(M:Nat->Prop)(d:Nat)(t:RT d)(c0 c1 c2 c3:Value)(w:World)(hM:Mb M w)(h:RR M w d t c0 c1 c2 c3)(hT:gM d t=true\/TB d t):
 Calls Tryz.prog 71 #[.agg #[c0,c1,c2,c3]] w (vY M w 4 (terms d t)):=by
 cases d with
 |zero=>exact h.elim
 |succ d=>
 obtain⟨rfl,rfl,⟨a,p,rfl⟩,ka,kp,rfl⟩:=h.form;have aV:Ext w ((w.alloc (.cells #[.int .i64 t.1,.bool t.2.1.neg,.slice a t.2.1.n p,.slice ka t.2.2.1 kp] 33)).alloc (.cells #[.int .i64 0,.bool false,.slice none 0 0,.slice none 0 0] 33)):=((aA w).alloc _).alloc _;have bL:=(aG.bq w #[.int .i64 t.1,.bool t.2.1.neg,.slice a t.2.1.n p,.slice ka t.2.2.1 kp] 33 4 rfl).alloc (.cells #[.int .i64 0,.bool false,.slice none 0 0,.slice none 0 0] 33);have dm:=aG.bq (w.alloc (.cells #[.int .i64 t.1,.bool t.2.1.neg,.slice a t.2.1.n p,.slice ka t.2.2.1 kp] 33)) #[.int .i64 0,.bool false,.slice none 0 0,.slice none 0 0] 33 4 rfl;have h2:RR (Mx M w.heap.size (w.heap.size+2)) _ (d+1) t _ _ _ _:=(RR.more (Mx.more (aI _)) h).ext aV;have fu:Mb (Mx M w.heap.size (w.heap.size+2)) ((w.alloc (.cells #[.int .i64 t.1,.bool t.2.1.neg,.slice a t.2.1.n p,.slice ka t.2.2.1 kp] 33)).alloc (.cells #[.int .i64 0,.bool false,.slice none 0 0,.slice none 0 0] 33)):=Mx.mb hM (by simp;omega) (by simp);simp only[World.size_alloc]at dm;have NT:=qp1 (d+1) _ t _ _ _ _ _ h2;cases hc:gM (d+1) t
 ·have wO:TB (d+1) t:=hT.resolve_left (by rw[hc];exact Bool.false_ne_true);rw[hc]at NT
  go_enter Tryz.func71,Tryz.ntmps71
  go_wp2_with (fail);refine NT.mono ?_;rintro e w1 ⟨rfl,az⟩;have dJ:=bL.ext az;have x0:=dJ.cell (i:=0) (by omega);have x1:=dJ.cell (i:=1) (by omega);have x2:=dJ.cell (i:=2) (by omega);have x3:=dJ.cell (i:=3) (by omega);simp only[arr]at x0 x1 x2 x3;have HX:Hid (RR (Mx M w.heap.size (w.heap.size+2)) w1 (d+1) t (.int .i64 t.1) (.bool t.2.1.neg) (.slice a t.2.1.n p) (.slice ka t.2.2.1 kp)):=RR.ext h2 az;have gJ:=ae (fu.ext az);have lT:=ae (dm.ext az);have dM:=ae (aV.trans az);have hco:=qp0 (d+1) (Mx M w.heap.size (w.heap.size+2)) w1.heap.size t _ _ _ _ (.slice none 0 0) 0 (λ_=>0) (λ_=>⟨false,none,0,0,Mo.zero⟩) Mo.zero w1 (aI _) (RR.more (λg hg=>hg) HX.out) ⟨Own.nil _ _ _ _ _,λi hi=>by omega⟩ (by have:=wO.2.1;omega) (qAQ wO.1);have HCO:=ae hco;have HT2:=ae wO;clear hco wO hT h h2 aV bL dm fu NT az;go_wp2_with (fail);refine HCO.out.mono ?_;rintro e w2 ⟨v',n',z',x',rfl,hR,hx,hg,_⟩
  have II:eZ n' z' x'=terms (d+1) t:=by rw[hx,FZ];rfl
  have HXL:=ae II;have aJ:Ext w1 w2:=nL hg
  have Br:n'<=1099511627776:=by have:=congrArg List.length II;rw[TW]at this;have:=HT2.out.2.1;omega
  have hV:=hR.fB (λg hg=>gJ.out.new hg) Br;rw[II]at hV;have HV:=ae hV;clear hx II hR hg hV Br;go_wp2_with (fail);refine(qBw _ v' (terms (d+1) t) w2 (gJ.out.ext aJ) HV.out HT2.out.2.2.1).mono ?_;rintro e w3 ⟨u,rfl,hu,bg⟩;have HU:=ae hu;clear hu;go_wp2_with (fail);refine(qtd (gJ.out.ext (aJ.trans bg)) HU.out HT2.out.2.2.2).mono ?_;rintro e w4 ⟨d0,d1,d2,d3,rfl,dG,bB⟩;obtain⟨lv,bb,a',n',p',BH,Ee,FV,rfl,rfl,rfl,rfl,_⟩:=dG.form;have fI:=(aJ.trans bg).trans bB;obtain⟨⟨q0,q1,q2,q3⟩,⟨f0,f1,f2,f3⟩,⟨r0,r1,r2,r3⟩,HF⟩:=vR (M:=M) (w:=w) (lT.out.ext fI) (Mx.at (by omega)) (by omega) (dM.out.trans fI) (dG.dh (qBs (qeX _ t))) Mx.sub;clear dG fI bB aJ bg;go_wp2;exact bu (v:=.agg #[.int .i64 lv,.bool bb,.slice a' n' p',.slice BH Ee FV]) (by simp[results,Tryz.results71,go_sem,r0,r1,r2,r3]) rfl HF.out
 ·rw[hc]at NT;have LV:=ae (RR.cr h2 hc);clear hT hc
  go_enter Tryz.func71,Tryz.ntmps71
  go_wp2_with (fail);refine NT.mono ?_;rintro e w1 ⟨rfl,az⟩;have dJ:=bL.ext az;have x0:=dJ.cell (i:=0) (by omega);have x1:=dJ.cell (i:=1) (by omega);have x2:=dJ.cell (i:=2) (by omega);have x3:=dJ.cell (i:=3) (by omega);simp only[arr]at x0 x1 x2 x3;obtain⟨⟨q0,q1,q2,q3⟩,⟨f0,f1,f2,f3⟩,⟨r0,r1,r2,r3⟩,HF⟩:=vR (M:=M) (w:=w) (dm.ext az) (Mx.at (by omega)) (by omega) (aV.trans az) (LV.out.ext az) Mx.sub;clear h h2 aV bL dm fu NT az dJ;go_wp2;exact bu (v:=.agg #[.int .i64 t.1,.bool t.2.1.neg,.slice a t.2.1.n p,.slice ka t.2.2.1 kp]) (by simp[results,Tryz.results71,go_sem,r0,r1,r2,r3]) rfl HF.out
def YY(D:Nat):Prop:=∀(M:Nat->Prop)(l:List Tm)(c0 c1 c2 c3:Value)(w:World),Mb M w->CR M w D c0 c1 c2 c3 l->Calls Tryz.prog 57 #[.agg #[c0,c1,c2,c3]] w (vY M w D l)
theorem qtP(L:Nat)(ih:∀D,D<L->YY D):YY L:=by
 intro M l c0 c1 c2 c3 w hM h;obtain⟨i0,hi,hz0,hz1,hz2⟩:=info_parts Tryz.zH;obtain⟨lv,bb,a,n0,p,ka,n,cap,rfl,rfl,rfl,rfl,hl0,RB,KN⟩:=h.form;have aV:Ext w ((w.alloc (.cells #[.int .i64 lv,.bool bb,.slice a n0 p,.slice ka n cap] 33)).alloc (.cells #[.int .i64 0,.bool false,.slice none 0 0,.slice none 0 0] 33)):=((aA w).alloc _).alloc _;have bL:=(aG.bq w #[.int .i64 lv,.bool bb,.slice a n0 p,.slice ka n cap] 33 4 rfl).alloc (.cells #[.int .i64 0,.bool false,.slice none 0 0,.slice none 0 0] 33);have dm:=aG.bq (w.alloc (.cells #[.int .i64 lv,.bool bb,.slice a n0 p,.slice ka n cap] 33)) #[.int .i64 0,.bool false,.slice none 0 0,.slice none 0 0] 33 4 rfl;simp only[World.size_alloc]at dm
 by_cases hz:lv=0
 ·subst hz;obtain⟨z,hI,hS,hN,_⟩:=h.Nj;have Hf:ek (Mx M w.heap.size (w.heap.size+2)) _ _ _ z:=(hI.more (Mx.more (aI _))).ext aV;have Af:=ae Hf;have fu:Mb (Mx M w.heap.size (w.heap.size+2)) ((w.alloc (.cells #[.int .i64 0,.bool bb,.slice a n0 p,.slice ka n cap] 33)).alloc (.cells #[.int .i64 0,.bool false,.slice none 0 0,.slice none 0 0] 33)):=Mx.mb hM (by simp;omega) (by simp);have gJ:=ae fu;have HS:=ae hS;clear hI Hf fu hS h
  go_enter Tryz.func57,Tryz.ntmps57
  go_wp2_with (fail);refine(Ou _ _ z _ gJ.out Af.out.fB).mono ?_;rintro e w1 ⟨d0,d1,rfl,hc,he⟩;obtain⟨b2,a2,n2,p2,rfl,rfl⟩:=hc.form;obtain⟨⟨q0,q1,q2,q3⟩,⟨f0,f1,f2,f3⟩,⟨r0,r1,r2,r3⟩,HF⟩:=vR (M:=M) (w:=w) (dm.ext he) (Mx.at (by omega)) (by omega) (aV.trans he) ((CR.const hc L).dh HS.out) Mx.sub;clear bL dm he aV hc;go_wp2;exact bu (v:=.agg #[.int .i64 0,.bool b2,.slice a2 n2 p2,.slice none 0 0]) (by simp[results,Tryz.results57,go_sem,r0,r1,r2,r3]) rfl HF.out
 ·obtain⟨D,rfl,l7,vG,a',p',b,off,n1,xH,P,fF,fw,oI,mg,gH,mi,iB,hb,qC,hk,dB,fQ,fJ,_⟩:=h.IY hz;simp only[Value.bool.injEq,Value.slice.injEq]at fF fw oI;obtain⟨rfl,rfl,rfl⟩:=oI;obtain⟨rfl,rfl,rfl⟩:=fw;subst fF;have yz:=ae hk;have EB:=ae fQ;have Gv:=ae fJ;have vE:(0:Int)<=(D:Int):=iw _
  have yV:((D:Int)+1==0)=false:=by simp;omega
  have Ad:=ae (ih D (by omega));clear hk dB fQ fJ h hz ih
  go_enter Tryz.func57,Tryz.ntmps57
  go_wp2_with (first|(refine wpList_make_full _ rfl _ _ _ rfl (w.heap.size+2) 33 i0 (.agg #[.int .i64 0,.bool false,.slice none 0 0,.slice none 0 0]) 4 Tryz.underlying31 hi hz0 hz1 .i64 .i64 _ _ n rfl rfl ?c4 ?c5 ?c2 ?c3 ?c6 ?_))
  case c2=>rw[hz2];omega
  case c3=>unfold maxLen;omega
  case c4=>simp
  case c5=>simp
  case c6=>simp
  intro w1 hown hgrow;have cO:=(aG.made hown rfl (by omega)).congr (f':=gN) (λi _=>Ej i);have az:=nL hgrow;have ll:=bL.ext az;have dF:=ae (dm.ext az);have aS:=ae (aV.trans az)
  have eU:w.heap.size+3<=w1.heap.size:=by have:=cO.lt;omega
  have qm:Hid (Kids (Mx M w.heap.size (w.heap.size+3)) w1 D (w.heap.size+2) n (λ_=>[])):=Kids.fresh cO;have x2:=ll.cell (i:=3) (by omega);simp only[arr]at x2
  have Sd:w.heap.size<w1.heap.size:=by omega
  have dY:=ae ll;clear hown hgrow cO az ll bL dm aV;go_wp2
  go_loopw [20] (λi wr=>∃k:Nat,k<=n/\i=.int .i64 k/\w.heap.size+3<=wr.heap.size/\Hid (Kids (Mx M w.heap.size (w.heap.size+3)) wr D (w.heap.size+2) n (λi=>if i<k then P i else[]))/\Hid (Ext w wr)/\Hid (aG wr w.heap.size 33 4 (arr #[.int .i64 ((D:Int)+1),.bool false,.slice a 0 p,.slice (some ⟨b,off,none⟩) n cap]))/\
   Hid (aG wr (w.heap.size+1) 33 4 (arr #[.int .i64 0,.bool false,.slice none 0 0,.slice none 0 0]))) (λi _=>n-(intOf i).toNat)
  case atStart=>exact⟨0,bK _,rfl,eU,qm.out.congr λi _=>by rw[ah (by omega)];exact af.refl _,aS,dY,dF⟩
  case round=>
   clear qm aS dY dF x2 eU Sd;obtain⟨k,hk,rfl,hsz,HK,cZ,uO,jJ⟩:=hrel
   by_cases hlt:k<n
   ·obtain⟨e0,e1,e2,e3,y0,y1,y2,y3,dG⟩:=yz.out k hlt;rw[<-cZ.out.cell hb]at y0 y1 y2 y3
    have jE:b<wr.heap.size:=by omega
    obtain⟨rD,b',a',n',p',BH,Ee,FV,rfl,rfl,rfl,rfl,_⟩:=dG.form;have aT:Ext wr (wr.alloc (.cells #[.int .i64 rD,.bool b',.slice a' n' p',.slice BH Ee FV] 33)):=(aA wr).alloc _;have QV:CR (Mx M w.heap.size (w.heap.size+3)) _ D _ _ _ _ (P k):=((dG.more (Mx.more (aI _))).ext cZ.out).ext aT;have jD:Mb (Mx M w.heap.size (w.heap.size+3)) (wr.alloc (.cells #[.int .i64 rD,.bool b',.slice a' n' p',.slice BH Ee FV] 33)):=Mx.mb hM (by simp;omega) (by simp;omega);have aW:=ae (Ad.out _ _ _ _ _ _ _ jD QV);have fH:=ae aT;clear dG QV jD aT;go_wp2_with (fail);refine(aW.out).mono ?_;rintro e w4 ⟨d0,d1,d2,d3,rfl,dG,bB⟩;obtain⟨mr,b2,a2,n2,p2,jH,lD,jI,rfl,rfl,rfl,rfl,_⟩:=dG.form;have bn:=fH.out.trans bB;have fo:=HK.out.ext bn;obtain⟨⟨_,k0⟩,⟨_,k1⟩,⟨_,k2⟩,⟨_,k3⟩,bA,nO⟩:=fo.at k hlt;have fV:=bA (k*4);have fP:=bA (k*4+1);have iU:=bA (k*4+2);have p9:=bA (k*4+3)
    have lV:Hid (Kids (Mx M w.heap.size (w.heap.size+3)) (aM w4 (w.heap.size+2) (k*4) (.int .i64 mr) (.bool b2) (.slice a2 n2 p2) (.slice jH lD jI)) D (w.heap.size+2) n (λi=>if i<k+1 then P i else[])):=by
     refine(fo.set (Mx.at (by omega)) k hlt dG).congr λi _=>?_
     by_cases iq:i=k
     ·subst iq;rw[ai rfl,ai (by omega)];exact af.refl _
     ·rw[ah iq]
      by_cases h3:i<k
      ·rw[ai h3,ai (by omega)];exact af.refl _
      ·rw[ah h3,ah (by omega)];exact af.refl _
    have dV:Hid (Ext w (aM w4 (w.heap.size+2) (k*4) (.int .i64 mr) (.bool b2) (.slice a2 n2 p2) (.slice jH lD jI))):=(cZ.out.trans bn).aM (by omega) _ _ _ _ _;have oQ:Hid (aG (aM w4 (w.heap.size+2) (k*4) (.int .i64 mr) (.bool b2) (.slice a2 n2 p2) (.slice jH lD jI)) w.heap.size _ _ _):=(uO.out.ext bn).of_heap (iI _ _ _ _ _ _ _ _ (by omega));have oU:Hid (aG (aM w4 (w.heap.size+2) (k*4) (.int .i64 mr) (.bool b2) (.slice a2 n2 p2) (.slice jH lD jI)) (w.heap.size+1) _ _ _):=(jJ.out.ext bn).of_heap (iI _ _ _ _ _ _ _ _ (by omega))
    have rf:Hid (w.heap.size+3<=(aM w4 (w.heap.size+2) (k*4) (.int .i64 mr) (.bool b2) (.slice a2 n2 p2) (.slice jH lD jI)).heap.size):=by show _<=_;rw[nW];have:=bn.size;omega
    clear fo bA dG bB bn;go_wp2
    go_roundw
    case rel=>exact⟨k+1,by omega,by go_num,rf.out,lV,dV,oQ,oU⟩
    case measure=>simp[intOf];omega
   ·have hkn:k=n:=by omega
    subst hkn;have y0:=uO.out.cell (i:=0) (by omega);simp only[arr]at y0
    have Sd:w.heap.size<wr.heap.size:=by omega
    have dI:Hid (CR (Mx M w.heap.size (w.heap.size+2)) wr L (.int .i64 ((D:Int)+1)) (.bool false) (.slice none 0 0) (.slice (some ⟨w.heap.size+2,0,none⟩) k k) l):=by
     refine(CR.dh (CR.node (D:=D) l7 mg gH (aI _) (by unfold maxLen;omega) (by omega) (λhh=>hh.elim (hM.new (by omega)) (by omega)) (λi hi=>HK.out.bN (λg hg=>.inl (hg.imp id λh=>by omega)) i hi) ?_) ?_).up vG
     ·rw[ai (by omega)];exact EB.out
     ·exact(tT _ _ _ _ λi hi=>by rw[ai hi];exact af.refl _).trans Gv.out
    obtain⟨⟨q0,q1,q2,q3⟩,⟨f0,f1,f2,f3⟩,⟨r0,r1,r2,r3⟩,HF⟩:=vR (M:=M) (w:=w) jJ.out (Mx.at (by omega)) (by omega) cZ.out dI.out Mx.sub;simp only[arr]at q0 q1 q2 q3;go_wp2;exact bu (v:=.agg #[.int .i64 ((D:Int)+1),.bool false,.slice none 0 0,.slice (some ⟨w.heap.size+2,0,none⟩) k k]) (by simp[results,Tryz.results57,go_sem,r0,r1,r2,r3]) rfl HF.out
theorem qAY(L:Nat):YY L:=by
 induction L using Nat.strongRecOn with
 |_ L ih=>exact qtP L λD hD=>ih D hD
def uK(l r:List Tm):Bool:=decide (norm l=norm r)
theorem CR.nn{M:Nat->Prop}{w:World}{L:Nat}{c0 c1 c2 c3:Value}{l:List Tm}(h:CR M w L c0 c1 c2 c3 l)(m:Mo)(hm:m.nn=false):aL l m=0:=by
 obtain⟨t,h1,h2,h3,h4⟩:=h;rw[<-h4 m]
 exact rQ λs hs e=>by have:=qeX _ t s hs;rw[e,hm]at this;cases this
theorem qeR{l r:List Tm}(hl:∀m:Mo,m.nn=false->aL l m=0)(hr:∀m:Mo,m.nn=false->aL r m=0):uK l r=true↔af l r:=by
 unfold uK;rw[decide_eq_true_iff];constructor
 ·intro h m;cases hm:m.nn
  ·rw[hl m hm,hr m hm]
  ·exact qzB h m hm
 ·exactλh=>h.norm
theorem qpm{D n:Nat}{P Q:Nat->List Tm}(hD:D+1<=4)(hP:∀i,i<n->eH D (P i))(hQ:∀i,i<n->eH D (Q i))(h:af (aQ (D+1) n P) (aQ (D+1) n Q))(i:Nat)(hi:i<n):af (P i) (Q i):=by
 intro m
 by_cases hm:m.get (D+1)=0
 ·have:=h (Mo.add m (xp (D+1) (i:Int)))
  rwa[Qt (by omega) hD (λi hi=>hP i hi) i hi m hm,Qt (by omega) hD (λi hi=>hQ i hi) i hi m hm]at this
 ·rw[(hP i hi).vw (by omega) hD hm,(hQ i hi).vw (by omega) hD hm]
theorem CR.uniq{M M':Nat->Prop}{w w':World}{L L':Nat}{lv rD:Int}{c1 c2 d1 d2:Value}{ka BH:Option Addr}{kn Ee kp FV:Nat}{l r:List Tm}(h:CR M w L (.int .i64 lv) c1 c2 (.slice ka kn kp) l)(k:CR M' w' L' (.int .i64 rD) d1 d2 (.slice BH Ee FV) r)(hs:af l r):lv=rD/\kn=Ee:=by
 obtain⟨t,h1,h2,h3,h4⟩:=h;obtain⟨u,k1,k2,k3,k4⟩:=k;obtain⟨g1,g2,_,_⟩:=qti h2 k2 h1.ok k1.ok (h4.trans (hs.trans k4.symm));obtain⟨e1,_,_,a1,p1,e2⟩:=h1.form;obtain⟨e3,_,_,a2,p2,e4⟩:=k1.form;simp only[Value.int.injEq,true_and]at e1 e3;simp only[Value.slice.injEq]at e2 e4;exact⟨by omega,by omega⟩
def qaV(L:Nat):Prop:=∀(M:Nat->Prop)(l r:List Tm)(c0 c1 c2 c3 d0 d1 d2 d3:Value)(w:World),CR M w L c0 c1 c2 c3 l->CR M w L d0 d1 d2 d3 r->Calls Tryz.prog 70 #[.agg #[c0,c1,c2,c3],.agg #[d0,d1,d2,d3]] w λe w'=>e=.returned (.bool (uK l r))/\Ext w w'
theorem qBc(L:Nat)(ih:∀D,D<L->qaV D):qaV L:=by
 intro M l r c0 c1 c2 c3 d0 d1 d2 d3 w h k;obtain⟨lv,bb,a,n0,p,ka,n,cap,rfl,rfl,rfl,rfl,hl0,RB,KN⟩:=h.form;obtain⟨rD,Qk,a',Td,p',BH,n',cap',rfl,rfl,rfl,rfl,kl0,klL,kl4⟩:=k.form;have xA:Hid (uK l r=true↔af l r):=qeR h.nn k.nn;have JM:Hid (af l r->lv=rD/\n=n'):=λhs=>h.uniq k hs;have aV:Ext w ((w.alloc (.cells #[.int .i64 lv,.bool bb,.slice a n0 p,.slice ka n cap] 33)).alloc (.cells #[.int .i64 rD,.bool Qk,.slice a' Td p',.slice BH n' cap'] 33)):=((aA w).alloc _).alloc _
 by_cases iJ:¬lv=rD
 ·have hd:(lv !=rD)=true:=by simpa using iJ
  have HR:Hid (uK l r=false):=by
   cases hb:uK l r
   ·rfl
   ·exact absurd (JM.out (xA.out.1 hb)).1 iJ
  clear h k iJ
  go_enter Tryz.func70,Tryz.ntmps70
  go_wp2;go_ret;exact⟨by rw[HR.out];rfl,aV⟩
 obtain rfl:lv=rD:=Decidable.not_not.1 iJ;clear iJ
 have hd:(lv !=lv)=false:=by simp
 by_cases hn:¬n=n'
 ·have tK:((n:Int)!=(n':Int))=true:=by simp;omega
  have HR:Hid (uK l r=false):=by
   cases hb:uK l r
   ·rfl
   ·exact absurd (JM.out (xA.out.1 hb)).2 hn
  clear h k hn
  go_enter Tryz.func70,Tryz.ntmps70
  go_wp2;go_ret;exact⟨by rw[HR.out];rfl,aV⟩
 obtain rfl:n=n':=Decidable.not_not.1 hn;clear hn
 have tK:((n:Int)!=(n:Int))=false:=by simp
 by_cases hz:lv=0
 ·subst hz;obtain⟨x,hI,hS,_⟩:=h.Nj;obtain⟨y,hJ,hT,_⟩:=k.Nj
  have HR:Hid (decide (x=y)=uK l r):=by
   show _=_;rw[Bool.eq_iff_iff,xA.out,decide_eq_true_iff];constructor
   ·rintro rfl;exact hS.symm.trans hT
   ·intro hh;have:=(hS.trans (hh.trans hT.symm)) Mo.zero;simpa[aL]using this
  have HI:=ae (hI.fB.ext aV);have HJ:=ae (hJ.fB.ext aV);clear h k hI hJ hS hT
  go_enter Tryz.func70,Tryz.ntmps70
  go_wp2_with (fail);refine(qdX _ _ _ _ x y _ HI.out HJ.out).mono ?_;rintro e w1 ⟨rfl,he⟩;go_wp2;go_ret;exact⟨by rw[<-HR.out];rfl,aV.trans he⟩
 ·obtain⟨D,rfl,l7,vG,_,_,b,off,n1,xH,P,fF,fw,oI,mg,gH,mi,iB,hb,qC,dP,dB,fQ,fJ,_⟩:=h.IY hz;obtain⟨D',Kr,_,_,_,_,b',off',n1',qtl,Q,XJ,XK,SG,lD,knL,knc,kcm,kb,kMb,SH,SI,XN,K7,_⟩:=k.IY hz
  have:D'=D:=by omega
  subst this;simp only[Value.slice.injEq]at oI SG;obtain⟨rfl,rfl,rfl⟩:=oI;obtain⟨rfl,rfl,rfl⟩:=SG;clear fF fw XJ XK;have yz:=ae dP;have Ah:=ae SH;have qrM:Hid (af l r->∀i,i<n->af (P i) (Q i)):=λhs=>qpm l7 dB SI (fJ.trans (hs.trans K7.symm));have qrr:Hid ((∀i,i<n->af (P i) (Q i))->af l r):=λhs=>fJ.symm.trans ((tT _ _ _ _ hs).trans K7);have vE:(0:Int)<=(D':Int):=iw _
  have yV:((D':Int)+1==0)=false:=by simp;omega
  have Ad:=ae (ih D' (by omega));clear h k dP SH dB SI fQ XN fJ K7 hz ih Kr;have B0:=(aG.bq w #[.int .i64 ((D':Int)+1),.bool bb,.slice a n0 p,.slice (some ⟨b,off,none⟩) n cap] 33 4 rfl).alloc (.cells #[.int .i64 ((D':Int)+1),.bool Qk,.slice a' Td p',.slice (some ⟨b',off',none⟩) n cap'] 33);have B1:=aG.bq (w.alloc (.cells #[.int .i64 ((D':Int)+1),.bool bb,.slice a n0 p,.slice (some ⟨b,off,none⟩) n cap] 33)) #[.int .i64 ((D':Int)+1),.bool Qk,.slice a' Td p',.slice (some ⟨b',off',none⟩) n cap'] 33 4 rfl;simp only[World.size_alloc]at B1;have dY:=ae B0;have dF:=ae B1;have gI:=ae aV;clear B0 B1
  go_enter Tryz.func70,Tryz.ntmps70
  go_wp2
  go_loopw [31] (λi wr=>∃k:Nat,k<=n/\i=.int .i64 k/\Hid (∀i,i<k->af (P i) (Q i))/\Hid (Ext ((w.alloc (.cells #[.int .i64 ((D':Int)+1),.bool bb,.slice a n0 p,.slice (some ⟨b,off,none⟩) n cap] 33)).alloc (.cells #[.int .i64 ((D':Int)+1),.bool Qk,.slice a' Td p',.slice (some ⟨b',off',none⟩) n cap'] 33)) wr)) (λi _=>n-(intOf i).toNat)
  case atStart=>exact⟨0,bK _,rfl,λi hi=>by omega,aA _⟩
  case round=>
   obtain⟨k,hk,rfl,HQ,jo⟩:=hrel;have hsz:=jo.out.size;simp only[World.size_alloc]at hsz;have cZ:=ae (gI.out.trans jo.out);have z3:=(dY.out.ext jo.out).cell (i:=3) (by omega);have z7:=(dF.out.ext jo.out).cell (i:=3) (by omega);simp only[arr]at z3 z7
   have jE:b<wr.heap.size:=by omega
   have qDN:b'<wr.heap.size:=by omega
   have yf:w.heap.size<wr.heap.size:=by omega
   have hw1:w.heap.size+1<wr.heap.size:=by omega
   by_cases hlt:k<n
   ·obtain⟨e0,e1,e2,e3,y0,y1,y2,y3,dG⟩:=yz.out k hlt;obtain⟨f0,f1,f2,f3,u0,u1,u2,u3,XI⟩:=Ah.out k hlt;rw[<-cZ.out.cell hb]at y0 y1 y2 y3;rw[<-cZ.out.cell kb]at u0 u1 u2 u3;obtain⟨lv1,b1,a1,n1,p1,ka1,kn1,kp1,rfl,rfl,rfl,rfl,_⟩:=dG.form;obtain⟨mr,b2,a2,n2,p2,jH,lD,jI,rfl,rfl,rfl,rfl,_⟩:=XI.form;have aW:=ae (Ad.out _ _ _ _ _ _ _ _ _ _ _ _ ((dG.ext cZ.out).ext (aA wr).drew) ((XI.ext cZ.out).ext (aA wr).drew));have HSK:Hid (uK (P k) (Q k)=true↔af (P k) (Q k)):=qeR dG.nn XI.nn;clear dG XI
    have hlt':(k:Int)<(n:Int):=by omega
    have iO:(0:Int)<=(k:Int):=by omega
    cases KU:uK (P k) (Q k)
    ·rw[KU]at aW;go_wp2
     go_still_tail 10,(by kernel_rfl)
     change wpList _ _ _ _ _ wr.drew;go_wp2_with (fail);refine(aW.out).mono ?_;rintro e w1 ⟨rfl,he⟩;have HF:Hid (Ext w w1):=cZ.out.trans (((aA wr).drew).trans he)
     have HR:Hid (uK l r=false):=by
      cases DC:uK l r
      ·rfl
      ·have:=HSK.out.2 (qrM.out (xA.out.1 DC) k hlt);rw[KU]at this;cases this
     clear he;go_wp2;go_ret;exact⟨by rw[HR.out];rfl,HF.out⟩
    ·rw[KU]at aW;go_wp2
     go_still_tail 10,(by kernel_rfl)
     change wpList _ _ _ _ _ wr.drew;go_wp2_with (fail);refine(aW.out).mono ?_;rintro e w1 ⟨rfl,he⟩;have HF:Hid (Ext ((w.alloc (.cells #[.int .i64 ((D':Int)+1),.bool bb,.slice a n0 p,.slice (some ⟨b,off,none⟩) n cap] 33)).alloc (.cells #[.int .i64 ((D':Int)+1),.bool Qk,.slice a' Td p',.slice (some ⟨b',off',none⟩) n cap'] 33)) w1):=jo.out.trans (((aA wr).drew).trans he)
     have qy:Hid (∀i,i<k+1->af (P i) (Q i)):=λi hi=>if h:i<k then HQ.out i h else by
      have:i=k:=by omega
      subst this;exact HSK.out.1 KU
     clear he;go_wp2
     go_roundw
     case rel=>exact⟨k+1,by omega,by go_num,qy,HF⟩
     case measure=>simp[intOf];omega
   ·have hkn:k=n:=by omega
    subst hkn;have HR:Hid (uK l r=true):=xA.out.2 (qrr.out HQ.out);go_wp2;go_ret;exact⟨by rw[HR.out];rfl,cZ.out⟩
theorem qA0(L:Nat):qaV L:=by
 induction L using Nat.strongRecOn with
 |_ L ih=>exact qBc L λD hD=>ih D hD
def eY(M:Nat->Prop)(w:World)(D:Nat)(v:Value)(N:Nat)(P:Nat->List Tm):Prop:=
 N<=1099511627776/\((v=.slice none 0 0/\N=0)\/∃b off cap,v=.slice (some ⟨b,off,none⟩) N cap/\N<=cap/\cap<=maxLen/\(b<w.heap.size/\¬M b)/\∀i,i<N->uU M w D b (off+i*4) (P i))
section
variable{M M':Nat->Prop}{w w':World}{D:Nat}{v:Value}{N:Nat}{P Q:Nat->List Tm}
theorem uU.kp{b o:Nat}{l:List Tm}(h:uU M w D b o l)(hb:b<w.heap.size)(hM:¬M b)(he:Kp M w w'):uU M w' D b o l:=by
 obtain⟨e0,e1,e2,e3,x0,x1,x2,x3,hc⟩:=h;exact⟨e0,e1,e2,e3,by rw[he.cell hb hM];exact x0,by rw[he.cell hb hM];exact x1,by rw[he.cell hb hM];exact x2,by rw[he.cell hb hM];exact x3,hc.kp he⟩
theorem uU.more{b o:Nat}{l:List Tm}(h:uU M w D b o l)(hm:∀g,M' g->M g\/w.heap.size<=g):uU M' w D b o l:=by
 obtain⟨e0,e1,e2,e3,x0,x1,x2,x3,hc⟩:=h;exact⟨e0,e1,e2,e3,x0,x1,x2,x3,hc.more hm⟩
theorem uU.dh{b o:Nat}{l r:List Tm}(h:uU M w D b o l)(hs:af l r):uU M w D b o r:=by
 obtain⟨e0,e1,e2,e3,x0,x1,x2,x3,hc⟩:=h;exact⟨e0,e1,e2,e3,x0,x1,x2,x3,hc.dh hs⟩
theorem eY.kp(h:eY M w D v N P)(he:Kp M w w'):eY M w' D v N P:=by
 obtain⟨h1,h2⟩:=h;refine⟨h1,?_⟩;rcases h2 with h2|⟨b,off,cap,hv,hn,hc,hb,hk⟩
 ·exact .inl h2
 ·exact .inr ⟨b,off,cap,hv,hn,hc,⟨dH hb.1 he.1,hb.2⟩,λi hi=>(hk i hi).kp hb.1 hb.2 he⟩
theorem eY.ext(h:eY M w D v N P)(he:Ext w w'):eY M w' D v N P:=h.kp (Kp.kV he)
theorem eY.more(h:eY M w D v N P)(hm:∀g,M' g->M g\/w.heap.size<=g):eY M' w D v N P:=by
 obtain⟨h1,h2⟩:=h;refine⟨h1,?_⟩;rcases h2 with h2|⟨b,off,cap,hv,hn,hc,hb,hk⟩
 ·exact .inl h2
 ·exact .inr ⟨b,off,cap,hv,hn,hc,⟨hb.1,λk=>(hm b k).elim hb.2 (by omega)⟩,λi hi=>(hk i hi).more hm⟩
theorem eY.form(h:eY M w D v N P):∃a cap,v=.slice a N cap:=by
 rcases h.2 with⟨rfl,rfl⟩|⟨b,off,cap,rfl,_⟩
 ·exact⟨_,_,rfl⟩
 ·exact⟨_,_,rfl⟩
theorem eY.at{a:Option Addr}{cap:Nat}(h:eY M w D (.slice a N cap) N P)(i:Nat)(hi:i<N):∃b off,a=some ⟨b,off,none⟩/\N<=cap/\cap<=maxLen/\b<w.heap.size/\¬M b/\uU M w D b (off+i*4) (P i):=by
 rcases h.2 with⟨_,h0⟩|⟨b,off,cap',hv,hn,hc,hb,hk⟩
 ·omega
 ·simp only[Value.slice.injEq,true_and]at hv;obtain⟨rfl,rfl⟩:=hv;exact⟨b,off,rfl,hn,hc,hb.1,hb.2,hk i hi⟩
theorem eY.qem{g:Nat}(h:Kids M w D g N P)(hg:¬M g)(hN:N<=1099511627776):eY M w D (.slice (some ⟨g,0,none⟩) N N) N P:=by
 refine⟨hN,.inr ⟨g,0,N,rfl,aI _,by unfold maxLen;omega,⟨?_,hg⟩,λi hi=>h.bN (λg hg=>.inl hg) i hi⟩⟩;obtain⟨f,hB,_⟩:=h;exact hB.lt
theorem eY.congr(h:eY M w D v N P)(hs:∀i,i<N->af (P i) (Q i)):eY M w D v N Q:=by
 obtain⟨h1,h2⟩:=h;refine⟨h1,?_⟩;rcases h2 with h2|⟨b,off,cap,hv,hn,hc,hb,hk⟩
 ·exact .inl h2
 ·exact .inr ⟨b,off,cap,hv,hn,hc,hb,λi hi=>(hk i hi).dh (hs i hi)⟩
end
theorem OL{L n N:Nat}{P:Nat->List Tm}(h:n<=N)(hz:∀i,n<=i->i<N->af (P i) []):af (aQ L n P) (aQ L N P):=by
 obtain⟨k,rfl⟩:∃k,N=n+k:=⟨N-n,by omega⟩;clear h
 induction k with
 |zero=>exact af.refl _
 |succ k ih=>
  rw[<-Nat.add_assoc,gT];refine(ih λi h1 h2=>hz i h1 (by omega)).trans ?_;have h1:=((hz (n+k) (by omega) (by omega)).shift (xp L ((n+k:Nat):Int)));have h2:=(af.refl (aQ L (n+k) P)).append h1.symm;simpa[shift]using h2
theorem qq3(L:Nat):xp L 0=Mo.zero:=by unfold xp Mo.zero;simp
theorem qpo(L:Nat)(P:Nat->List Tm):af (aQ L 1 P) (P 0):=by
 rw[gT,FY,List.nil_append];show af (shift (xp L ((0:Nat):Int)) (P 0)) (P 0);rw[show((0:Nat):Int)=0 from rfl,qq3,FZ];exact af.refl _
theorem qeJ(M:Nat->Prop)(D:Nat)(v:Value)(N:Nat)(P:Nat->List Tm)(w:World)(hM:Mb M w)(hD:D+1<=4)(h:eY M w D v N P):
 Calls Tryz.prog 58 #[.int .i64 ((D:Int)+1),v] w (vY M w (D+1) (aQ (D+1) N P)):=by
 obtain⟨a,cap,rfl⟩:=h.form;have HR:=ae h;have NH:=h.1;have aV:Ext w (w.alloc (.cells #[.int .i64 0,.bool false,.slice none 0 0,.slice none 0 0] 33)):=(aA w).alloc _;have bL:=aG.bq w #[.int .i64 0,.bool false,.slice none 0 0,.slice none 0 0] 33 4 rfl;have gI:=ae aV;have dY:=ae bL;clear h aV bL
 go_enter Tryz.func58,Tryz.ntmps58
 go_wp2
 go_loopw [5] (λi wr=>∃k:Nat,k<=N/\i=.int .i64 k/\Hid (∀i,k<=i->i<N->af (P i) [])/\Hid (Ext (w.alloc (.cells #[.int .i64 0,.bool false,.slice none 0 0,.slice none 0 0] 33)) wr)) (λi _=>(intOf i).toNat)
 case atStart=>exact⟨N,aI _,rfl,λi h1 h2=>by omega,aA _⟩
 case round=>
  obtain⟨k,hk,rfl,HZ,jo⟩:=hrel;have hsz:=jo.out.size;simp only[World.size_alloc]at hsz;have cZ:=ae (gI.out.trans jo.out);have jJ:=ae (dY.out.ext jo.out);have lX:=ae ((HR.out.more (M':=Mx M w.heap.size (w.heap.size+1)) (Mx.more (aI _))).ext cZ.out)
  by_cases iO:k=0
  ·subst iO;obtain⟨⟨q0,q1,q2,q3⟩,⟨f0,f1,f2,f3⟩,⟨r0,r1,r2,r3⟩,HF⟩:=vR (M:=M) (w:=w) jJ.out (Mx.at (by omega)) (by omega) cZ.out ((CR.zero (Mx M w.heap.size (w.heap.size+1)) wr (D+1)).dh (OL (P:=P) (L:=D+1) (bK N) HZ.out)) Mx.sub;simp only[arr]at q0 q1 q2 q3;go_wp2;exact bu (v:=.agg #[.int .i64 0,.bool false,.slice none 0 0,.slice none 0 0]) (by simp[results,Tryz.results58,go_sem,r0,r1,r2,r3]) rfl HF.out
  ·obtain⟨j,rfl⟩:∃j,k=j+1:=⟨k-1,by omega⟩;obtain⟨b,off,rfl,mi,iB,hb,qC,qb8⟩:=lX.out.at j (by omega);obtain⟨e0,e1,e2,e3,y0,y1,y2,y3,dG⟩:=qb8;obtain⟨rD,b',a',n',p',BH,Ee,FV,rfl,rfl,rfl,rfl,FJ,_⟩:=dG.form
   have WO:(0:Int)<=(j:Int):=by omega
   have hjN:(j:Int)<(N:Int):=by omega
   have Xy:=dG.SB;have bf:=Jf rD b' a' n' p' BH Ee FV wr;cases FQ:oK rD n'
   ·rw[FQ]at bf
    have EB:Hid (¬af (P j) []):=λhs=>by have:=Xy.2 hs;rw[FQ]at this;cases this
    clear dG Xy
    by_cases hj:j=0
    ·subst hj;obtain⟨b2,vO,e5,_,_,_,_,e0,e1,e2,e3,u0,u1,u2,u3,dG⟩:=lX.out.at 0 (by omega);simp only[Option.some.injEq,Addr.mk.injEq,and_true]at e5;obtain⟨rfl,rfl⟩:=e5;rw[Nat.zero_mul,Nat.add_zero]at u0 u1 u2 u3 y0 y1 y2 y3;rw[y0]at u0;rw[y1]at u1;rw[y2]at u2;rw[y3]at u3;cases u0;cases u1;cases u2;cases u3;go_wp2_with (fail);refine bf.mono ?_;rintro e w1 ⟨rfl,az⟩;have qxX:=az.size;rw[<-az.cell hb]at y0 y1 y2 y3;obtain⟨⟨q0,q1,q2,q3⟩,⟨f0,f1,f2,f3⟩,⟨r0,r1,r2,r3⟩,HF⟩:=vR (M:=M) (w:=w) (L:=D+1) (jJ.out.ext az) (Mx.at (by omega)) (by omega) (cZ.out.trans az) (((dG.ext az).up (show D<=D+1 by omega)).dh ((qpo (D+1) P).symm.trans (OL (P:=P) (L:=D+1) (show 1<=N by omega) HZ.out))) Mx.sub;simp only[arr]at q0 q1 q2 q3
     have hb1:b<w1.heap.size:=by omega
     clear dG az bf;go_wp2;exact bu (v:=.agg #[.int .i64 rD,.bool b',.slice a' n' p',.slice BH Ee FV]) (by simp[results,Tryz.results58,go_sem,r0,r1,r2,r3]) rfl HF.out
    ·have dj:((j:Int)+1==1)=false:=by simp;omega
     have dj0:((j:Int)+1==0)=false:=by simp;omega
     go_wp2_with (fail);refine bf.mono ?_;rintro e w1 ⟨rfl,az⟩
     have tF:CR (Mx M w.heap.size (w.heap.size+1)) w1 (D+1) (.int .i64 ((D:Int)+1)) (.bool false) (.slice none 0 0) (.slice (some ⟨b,off,none⟩) (j+1) (j+1)) (aQ (D+1) N P):=by
      refine CR.dh (CR.node (D:=D) hD (by omega) (by omega) (aI _) (by unfold maxLen;omega) (by have:=az.size;omega) qC (λi hi=>?_) ?_) (OL (P:=P) hk HZ.out)
      ·obtain⟨b2,vO,e5,_,_,jR,fu,qb8⟩:=lX.out.at i (by omega);simp only[Option.some.injEq,Addr.mk.injEq,and_true]at e5;obtain⟨rfl,rfl⟩:=e5;exact qb8.kp jR fu (Kp.kV az)
      ·exact EB.out
     obtain⟨⟨q0,q1,q2,q3⟩,⟨f0,f1,f2,f3⟩,⟨r0,r1,r2,r3⟩,HF⟩:=vR (M:=M) (w:=w) (jJ.out.ext az) (Mx.at (by omega)) (by omega) (cZ.out.trans az) tF Mx.sub;simp only[arr]at q0 q1 q2 q3;clear az bf tF;go_wp2;exact bu (v:=.agg #[.int .i64 ((D:Int)+1),.bool false,.slice none 0 0,.slice (some ⟨b,off,none⟩) (j+1) (j+1)]) (by simp[results,Tryz.results58,go_sem,r0,r1,r2,r3]) rfl HF.out
   ·rw[FQ]at bf
    have HZ2:Hid (∀i,j<=i->i<N->af (P i) []):=λi h1 h2=>if h:i=j then by subst h;exact Xy.1 FQ else HZ.out i (by omega) h2
    clear dG Xy;go_wp2_with (fail);refine bf.mono ?_;rintro e w1 ⟨rfl,az⟩;have aZ:=ae (jo.out.trans az);clear az bf;go_wp2
    go_roundw
    case rel=>exact⟨j,by omega,rfl,HZ2,aZ⟩
    case measure=>simp[intOf]
structure PE where
 lv:Int
 b:Bool
 a:Option Addr
 n:Nat
 p:Nat
 ka:Option Addr
 kn:Nat
 kp:Nat
def PE.z:PE:=⟨0,false,none,0,0,none,0,0⟩
abbrev ak(x:PE):Array Value:= #[.int .i64 x.lv,.bool x.b,.slice x.a x.n x.p,.slice x.ka x.kn x.kp]
def aN(M:Nat->Prop)(w:World)(D:Nat)(x:PE)(l:List Tm):Prop:=CR M w D (.int .i64 x.lv) (.bool x.b) (.slice x.a x.n x.p) (.slice x.ka x.kn x.kp) l
def px(x:Nat->PE):Nat->Value:=λj=>if j%4=0 then .int .i64 (x (j/4)).lv else if j%4=1 then .bool (x (j/4)).b else if j%4=2 then .slice (x (j/4)).a (x (j/4)).n (x (j/4)).p else .slice (x (j/4)).ka (x (j/4)).kn (x (j/4)).kp
theorem Ls(x:Nat->PE)(i:Nat):px x (i*4)=.int .i64 (x i).lv:=by unfold px;rw[ai (by omega),show i*4/4=i by omega]
theorem Lt(x:Nat->PE)(i:Nat):px x (i*4+1)=.bool (x i).b:=by unfold px;rw[ah (by omega),ai (by omega),show(i*4+1)/4=i by omega]
theorem Lu(x:Nat->PE)(i:Nat):px x (i*4+2)=.slice (x i).a (x i).n (x i).p:=by unfold px;rw[ah (by omega),ah (by omega),ai (by omega),show(i*4+2)/4=i by omega]
theorem Lx(x:Nat->PE)(i:Nat):px x (i*4+3)=.slice (x i).ka (x i).kn (x i).kp:=by unfold px;rw[ah (by omega),ah (by omega),ah (by omega),show(i*4+3)/4=i by omega]
def snoc{α:Type}(x:Nat->α)(n:Nat)(t:α):Nat->α:=λi=>if i=n then t else x i
theorem uL{α:Type}(x:Nat->α)(n:Nat)(t:α):snoc x n t n=t:=by unfold snoc;rw[ai rfl]
theorem zN{α:Type}(x:Nat->α)(n:Nat)(t:α)(i:Nat)(h:i<n):snoc x n t i=x i:=by unfold snoc;rw[ah (by omega)]
theorem Tu(x:Nat->PE)(n:Nat)(t:PE)(j:Nat)(hj:j<(n+1)*4):app (px x) (n*4) (arr (ak t)) j=px (snoc x n t) j:=by
 unfold app
 by_cases h:j<n*4
 ·rw[ai h];unfold px;rw[zN _ _ _ _ (by omega)]
 ·rw[ah h];obtain⟨r,rfl,hr⟩:∃r,j=n*4+r/\r<4:=⟨j-n*4,by omega,by omega⟩;rw[Nat.add_sub_cancel_left]
  match r,hr with
  |0,_=>rw[Nat.add_zero,Ls,uL];rfl
  |1,_=>rw[Lt,uL];rfl
  |2,_=>rw[Lu,uL];rfl
  |3,_=>rw[Lx,uL];rfl
theorem Tq(x:PE)(j:Nat)(hj:j<4):(arr (ak x) j).oneCell'=true:=by
 match j,hj with
 |0,_=>rfl
 |1,_=>rfl
 |2,_=>rfl
 |3,_=>rfl
section
variable{M M':Nat->Prop}{w w':World}{D:Nat}{x:PE}{l r:List Tm}
theorem aN.kp(h:aN M w D x l)(he:Kp M w w'):aN M w' D x l:=CR.kp h he
theorem aN.ext(h:aN M w D x l)(he:Ext w w'):aN M w' D x l:=CR.ext h he
theorem aN.more(h:aN M w D x l)(hm:∀g,M' g->M g\/w.heap.size<=g):aN M' w D x l:=CR.more h hm
theorem CR.pe{c0 c1 c2 c3:Value}(h:CR M w D c0 c1 c2 c3 l):∃x:PE,c0=.int .i64 x.lv/\c1=.bool x.b/\c2=.slice x.a x.n x.p/\c3=.slice x.ka x.kn x.kp/\aN M w D x l/\0<=x.lv/\x.lv<=D/\x.lv<=4:=by
 obtain⟨lv,b,a,n,p,ka,kn,kp,rfl,rfl,rfl,rfl,h1,h2,h3⟩:=h.form;exact⟨⟨lv,b,a,n,p,ka,kn,kp⟩,rfl,rfl,rfl,rfl,h,h1,h2,h3⟩
end
def jK(w:World)(b o:Nat)(x:PE):Prop:=w.cell? ⟨b,o,none⟩=some (.int .i64 x.lv)/\w.cell? ⟨b,o+1,none⟩=some (.bool x.b)/\w.cell? ⟨b,o+2,none⟩=some (.slice x.a x.n x.p)/\w.cell? ⟨b,o+3,none⟩=some (.slice x.ka x.kn x.kp)
theorem jK.ext{w w':World}{b o:Nat}{x:PE}(h:jK w b o x)(hb:b<w.heap.size)(he:Ext w w'):jK w' b o x:=by
 unfold jK;rw[he.cell hb,he.cell hb,he.cell hb,he.cell hb];exact h
theorem eY.x{M:Nat->Prop}{w:World}{D:Nat}{a:Option Addr}{N cap:Nat}{P:Nat->List Tm}(h:eY M w D (.slice a N cap) N P):∃x:Nat->PE,∀i,i<N->(∃b off,a=some ⟨b,off,none⟩/\N<=cap/\cap<=maxLen/\b<w.heap.size/\¬M b/\jK w b (off+i*4) (x i))/\aN M w D (x i) (P i)/\0<=(x i).lv/\(x i).lv<=D/\(x i).lv<=4:=by
 refine pick PE.z (n:=N) (Q:=λi x=>(∃b off,a=some ⟨b,off,none⟩/\N<=cap/\cap<=maxLen/\b<w.heap.size/\¬M b/\jK w b (off+i*4) x)/\aN M w D x (P i)/\0<=x.lv/\x.lv<=D/\x.lv<=4) λi hi=>?_;obtain⟨b,off,rfl,h1,h2,h3,h4,e0,e1,e2,e3,y0,y1,y2,y3,hc⟩:=h.at i hi;obtain⟨x,rfl,rfl,rfl,rfl,hx,h5⟩:=hc.pe;exact⟨x,⟨b,off,rfl,h1,h2,h3,h4,y0,y1,y2,y3⟩,hx,h5⟩
theorem Own.toK{M:Nat->Prop}{base:Nat}{w:World}{D:Nat}{v:Value}{c:Nat}{x:Nat->PE}{S:Nat->List Tm}(h:Own w base 33 4 v c (px x))(hS:∀i,i<c->aN M w D (x i) (S i))(hM:∀g,base<=g->¬M g)(hc:c<=1099511627776):eY M w D v c S:=by
 refine⟨hc,?_⟩;rcases h with⟨rfl,rfl⟩|⟨g,cap,F,rfl,hg,hB,gW,iB,hF⟩
 ·exact .inl ⟨rfl,rfl⟩
 ·refine .inr ⟨g,0,cap,rfl,gW,iB,⟨hB.lt,hM g hg⟩,λi hi=>?_⟩;rw[Nat.zero_add];refine⟨_,_,_,_,?_,?_,?_,?_,hS i hi⟩
  ·rw[hB.cell (by omega),hF _ (by omega),Ls]
  ·rw[hB.cell (by omega),hF _ (by omega),Lt]
  ·rw[hB.cell (by omega),hF _ (by omega),Lu]
  ·rw[hB.cell (by omega),hF _ (by omega),Lx]
def bP(N:Nat)(P:Nat->List Tm):List Tm:=(List.range N).flatMap P
theorem qpB(P:Nat->List Tm):bP 0 P=[]:=rfl
theorem lF(N:Nat)(P:Nat->List Tm):bP (N+1) P=bP N P++P N:=by
 unfold bP;rw[List.range_succ,List.flatMap_append];simp
theorem qpy{N:Nat}{P Q:Nat->List Tm}(h:∀i,i<N->P i=Q i):bP N P=bP N Q:=by
 induction N with
 |zero=>rfl
 |succ N ih=>rw[lF,lF,ih λi hi=>h i (by omega),h N (by omega)]
theorem Lr{N:Nat}{P Q:Nat->List Tm}(h:∀i,i<N->af (P i) (Q i)):af (bP N P) (bP N Q):=by
 induction N with
 |zero=>exact af.refl _
 |succ N ih=>rw[lF,lF];exact(ih λi hi=>h i (by omega)).append (h N (by omega))
theorem qpz{N:Nat}{P Q:Nat->List Tm}(h:∀i,i<N->aK (P i)<=aK (Q i)):aK (bP N P)<=aK (bP N Q):=by
 induction N with
 |zero=>exact aI _
 |succ N ih=>rw[lF,lF,lN,lN];have:=ih λi hi=>h i (by omega);have:=h N (by omega);omega
theorem qew(N:Nat)(P:Nat->List Tm)(l:List Tm):bP (N+1) (snoc P N l)=bP N P++l:=by
 rw[lF,uL,qpy λi hi=>zN P N l i hi]
theorem qtL(N:Nat)(P:Nat->List Tm)(m:Mo):aL (bP (N+1) P) m=aL (bP N P) m+aL (P N) m:=by rw[lF,iZ]
theorem qAm(L n N:Nat)(R:Nat->Nat->List Tm):af (aQ L n λe=>bP N (R e)) (bP N λi=>aQ L n λe=>R e i):=by
 induction N with
 |zero=>
  have:∀n,aQ L n (λe=>bP 0 (R e))=[]:=by
   intro n
   induction n with
   |zero=>rfl
   |succ n ih=>rw[gT,ih];rfl
  rw[this];exact af.refl _
 |succ N ih=>
  rw[lF];refine af.trans ?_ (ih.append (af.refl _));clear ih
  induction n with
  |zero=>exact af.refl _
  |succ n ih=>
   rw[gT,gT,gT,lF,Yt];intro m;have:=ih m;simp only[iZ]at this⊢;omega
theorem qAv(z:Nat->Int)(N:Nat):af [(Ca z N,Mo.zero)] (bP N λi=>[(z i,Mo.zero)]):=by
 induction N with
 |zero=>intro m;simp[bP,aL,Ca]
 |succ N ih=>
  intro m;have:=ih m;rw[qtL, <-this];simp only[aL,Ca]
  split<;>omega
theorem qC6(z:Nat->Int)(N:Nat)(P:Nat->List Tm)(h:∀i,i<N->(z i).natAbs<=aK (P i)):zZ z N<=aK (bP N P):=by
 induction N with
 |zero=>exact bK _
 |succ N ih=>rw[lF,lN];have:=ih λi hi=>h i (by omega);have:=h N (by omega);simp only[zZ];omega
def kg(x:Nat->PE):Nat->Int
 |0=>0
 |k+1=>if kg x k<(x k).lv then(x k).lv else kg x k
def kD(x:Nat->PE):Nat->Nat
 |0=>0
 |k+1=>if kg x k<(x k).lv then(x k).kn else if(x k).lv=kg x k then(if kD x k<(x k).kn then(x k).kn else kD x k)else kD x k
theorem qzh(x:Nat->PE)(k:Nat):0<=kg x k:=by
 induction k with
 |zero=>exact Int.le_refl _
 |succ k ih=>unfold kg;split<;>omega
theorem qd6(x:Nat->PE)(k i:Nat)(h:i<k):(x i).lv<=kg x k:=by
 induction k with
 |zero=>omega
 |succ k ih=>
  unfold kg
  by_cases hi:i=k
  ·subst hi;split<;>omega
  ·have:=ih (by omega);split<;>omega
theorem qop(x:Nat->PE)(k:Nat)(B:Int)(hB:0<=B)(h:∀i,i<k->(x i).lv<=B):kg x k<=B:=by
 induction k with
 |zero=>exact hB
 |succ k ih=>unfold kg;have:=ih λi hi=>h i (by omega);have:=h k (by omega);split<;>omega
theorem qzi(x:Nat->PE)(k i:Nat)(h:i<k)(he:(x i).lv=kg x k):(x i).kn<=kD x k:=by
 induction k with
 |zero=>omega
 |succ k ih=>
  unfold kD;unfold kg at he
  by_cases hi:i=k
  ·subst hi
   by_cases h1:kg x i<(x i).lv
   ·rw[ai h1];exact aI _
   ·rw[ah h1]at he⊢;rw[ai he];split<;>omega
  ·have:=qd6 x k i (by omega)
   by_cases h1:kg x k<(x k).lv
   ·rw[ai h1]at he;omega
   ·rw[ah h1]at he⊢;have:=ih (by omega) he
    split
    ·split<;>omega
    ·exact this
theorem qoq(x:Nat->PE)(k B:Nat)(h:∀i,i<k->(x i).kn<=B):kD x k<=B:=by
 induction k with
 |zero=>exact bK _
 |succ k ih=>
  unfold kD;have:=ih λi hi=>h i (by omega);have:=h k (by omega)
  split
  ·omega
  ·split
   ·split<;>omega
   ·omega
theorem aN.XM{M:Nat->Prop}{w:World}{D:Nat}{x:PE}{l:List Tm}(h:aN M w D x l):x.kn<=1099511627776:=by
 obtain⟨t,h1,_⟩:=h;obtain⟨_,_,_,ka,kp,e⟩:=h1.form;simp only[Value.slice.injEq]at e;rw[e.2.1];exact h1.2.2.2.1
end Go.Proofs.YtmcfpnmoklnhoaaGreat
