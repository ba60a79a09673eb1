/- Me -/
import Derived.Test.YtmcfpnmoklnhoaaGreatMd
import Derived.StillTailTactics
set_option linter.unusedVariables false
set_option maxRecDepth 100000
set_option maxHeartbeats 400000000
set_option linter.unusedSimpArgs false
namespace Go.Proofs.YtmcfpnmoklnhoaaGreat
open Go.RowKit
theorem Tryz.yo:(Tryz.prog.info? 33).map (λi=>(i.zero,i.size,i.bytes))=some (some (.agg #[.int .i64 0,.bool false,.slice none 0 0,.slice none 0 0]),4,64):=by kernel_rfl
theorem qrv{j:Nat}{l:List Tm}{m:Mo}(h:∀t∈l,∀k,j<k->k<=4->t.2.get k=m.get k):aB (lL j l) (qi j m)=aB l m:=by
 induction l with
 |nil=>rfl
 |cons t l ih=>
  have e1:=ih λu hu=>h u (List.mem_cons_of_mem _ hu)
  have e2:qi j t.2=qi j m↔t.2=m:=by
   constructor
   ·intro hc;refine Mo.ext_get λk h1 h4=>?_
    by_cases hk:k<=j
    ·have:=congrArg (λq=>Mo.get q k) hc;simp only[IV,if_pos hk]at this;exact this
    ·exact h t List.mem_cons_self k (by omega) h4
   ·intro hc;rw[hc]
  show(if qi j t.2=qi j m then t.1 else 0)+aB (lL j l) (qi j m)=(if t.2=m then t.1 else 0)+aB l m;rw[e1]
  by_cases hm:t.2=m
  ·rw[if_pos hm,if_pos (e2.2 hm)]
  ·rw[if_neg hm,if_neg (λq=>hm (e2.1 q))]
theorem qrx(L:Nat)(e:Int)(l:List Tm)(m:Mo)(hm:m.get L=e):aB (qL L e l) m=aB l m:=by
 induction l with
 |nil=>rfl
 |cons t l ih=>
  unfold qL at ih⊢;rw[List.filter_cons]
  by_cases ht:t.2.get L=e
  ·rw[if_pos (by simpa using ht)];show(if t.2=m then t.1 else 0)+_=(if t.2=m then t.1 else 0)+_;rw[ih]
  ·rw[if_neg (by simpa using ht),ih];show _=(if t.2=m then t.1 else 0)+_;rw[if_neg (λq=>ht (by rw[q];exact hm))];simp
theorem qrw{n:Nat}{z:Nat->Int}{x:Nat->TE}(h:Canon (dQ n z x))(h0:0<n):aB (dQ n z x) (x 0).m=z 0/\z 0≠0:=by
 have e:=WE 1 n z x (by omega);have e1:dQ 1 z x=[(z 0,(x 0).m)]:=rfl;rw[e1]at e;rw[e]at h⊢;exact⟨Canon.DU (t:=(z 0,(x 0).m)) h,(h.2 (z 0,(x 0).m) List.mem_cons_self).1⟩
theorem CY(i:Nat):arr (Value.agg #[.int .i64 0,.bool false,.slice none 0 0,.slice none 0 0]).cells (i%4)=fu i:=by
 have h:=Nat.mod_lt i (show 4>0 by omega);unfold fu;generalize i%4=k at*
 match k,h with
 |0,_=>rfl
 |1,_=>rfl
 |2,_=>rfl
 |3,_=>rfl
theorem qq4(L:Nat)(wC:L<=4)(ih:∀D,D<L->WN D):WN L:=by
 intro M v n z x w hM hX hI hC hA hE;obtain⟨va,vc,rfl⟩:=hX.form;obtain⟨i0,hi,hz0,hz1,hz2⟩:=info_parts Tryz.yo;have eu:=hX.1;have HI:=Lib.hid hI;have HC:=Lib.hid hC;have HA:=Lib.hid hA;have HE:=Lib.hid hE;have HX:=Lib.hid hX;have lg:Mb (Mx M w.heap.size (w.heap.size+1)) (w.alloc (.cells #[.int .i64 0,.bool false,.slice none 0 0,.slice none 0 0] 33)):=Mx.mb hM (by simp) (by simp);have kW:=Lib.hid lg;clear hI hC hA hE hX lg;have qM:=ak.bf w #[.int .i64 0,.bool false,.slice none 0 0,.slice none 0 0] 33 4 rfl;have BK:Ext w (w.alloc (.cells #[.int .i64 0,.bool false,.slice none 0 0,.slice none 0 0] 33)):=(Ext.refl w).alloc _;have jD:=Lib.hid qM;have gD:=Lib.hid BK;clear qM BK
 by_cases h0:n=0
 ·subst h0
  go_enter Tryz.func99,Tryz.ntmps99
  go_wp2;refine bodyPost_ret (v:=.agg #[.int .i64 0,.bool false,.slice none 0 0,.slice none 0 0]) (by simp[results,Tryz.results99,go_sem]) rfl ⟨_,_,_,_,rfl,?_,?_⟩
  ·exact CR.zero _ _ _
  ·exact gD.out
 ·have t0:((n:Int)==0)=false:=by simp;omega
  obtain⟨b,off,rfl,kP,gm,hb,x0,x1,x2,x3,x4,x5⟩:=HX.out.at 0 (by omega);rw[Nat.zero_mul,Nat.add_zero]at x0 x1 x2 x3 x4 x5;have vU:=Lib.hid (qcJ x2 x3 x4 x5);have hL0:(0:Int)<=(L:Int):=Int.natCast_nonneg _
  have hL5:(L:Int)<=4:=by omega
  go_enter Tryz.func99,Tryz.ntmps99
  go_wp2
  go_loopw [1] (λi wr=>∃lv:Nat,lv<=L/\i=.int .i64 lv/\Hid (Agree lv (dQ n z x))/\Hid (lL lv (dQ n z x)=lL L (dQ n z x))/\w.alloc (.cells #[.int .i64 0,.bool false,.slice none 0 0,.slice none 0 0] 33)=wr) (λi _=>(intOf i).toNat)
  case atStart=>exact⟨L,Nat.le_refl _,rfl,HA,rfl,rfl⟩
  case round=>
   obtain⟨lv,gI,rfl,qC,mf,rfl⟩:=hrel
   by_cases hl0:lv=0
   ·subst hl0
    have HN:Hid (n=1):=by
     rcases Nat.lt_or_ge 1 n with jR|hle
     ·exfalso;have h1:=qg0 HC.out (i:=0) (j:=1) (by omega) jR;refine Mo.JF h1 (Mo.ext_get λk hk ll=>qC.out _ (Az jR) _ (Az (by omega)) k (by omega) ll)
     ·show _=_;omega
    have HF:Hid (CR M w L (.int .i64 0) (.bool (x 0).b) (.slice (x 0).a (x 0).n (x 0).p) (.slice none 0 0) (lL L (dQ n z x))):=by
     refine(CR.const (HI.out 0 (by omega)) L).bZ ?_;rw[<-mf.out,HN.out];have:qi 0 (x 0).m=Mo.zero:=rfl;simp[lL,dQ,this,ae.refl]
    go_wp2;refine bodyPost_ret (v:=.agg #[.int .i64 0,.bool (x 0).b,.slice (x 0).a (x 0).n (x 0).p,.slice none 0 0]) (by simp[results,Tryz.results99,go_sem]) rfl ⟨_,_,_,_,rfl,?_,?_⟩
    ·exact HF.out.ext ((Ext.refl w).alloc _)
    ·exact(Ext.refl w).alloc _
   ·obtain⟨j,rfl⟩:∃j,lv=j+1:=⟨lv-1,by omega⟩
    have Ep:j<4:=by omega
    have lj0:(0:Int)<=(j:Int):=Int.natCast_nonneg _
    have lj1:(j:Int)<4:=by omega
    have y0:=vU.out j Ep
    by_cases wU:(x 0).m.get (j+1)=0
    ·rw[wU]at y0
     have HZ:Hid (∀t∈dQ n z x,t.2.get (j+1)=0):=by
      intro t ht;obtain⟨i,UT,rfl⟩:=Ht ht;have h1:=OW HC.out qC.out (by omega) (by omega) (Nat.zero_le i) UT;have h2:=vL (HC.out.2 _ (Az UT)).2 (j+1);simp only at h2⊢;omega
     have Nt:Hid (Agree j (dQ n z x)):=qC.out.next λs hs t ht=>by rw[HZ.out s hs,HZ.out t ht]
     have Xx:Hid (lL j (dQ n z x)=lL L (dQ n z x)):=(qrK (L:=j+1) (by omega) (by omega) HZ.out).trans mf.out;clear wU;go_wp2
     go_roundw
     case rel=>exact⟨j,by omega,rfl,Nt,Xx,by first|rfl|trivial⟩
     case measure=>simp[intOf]
    ·have qlB:((x 0).m.get (j+1)==0)=false:=by simpa using wU
     obtain⟨E,aQ⟩:∃E:Nat,(x 0).m.get (j+1)=E:=⟨((x 0).m.get (j+1)).toNat,by have:=vL (HC.out.2 _ (Az (show 0<n by omega))).2 (j+1);simp only at this;omega⟩;have gB:=Lib.hid aQ;rw[aQ]at y0 qlB
     have Lt:(E:Int)<=1073741824:=by rw[<-aQ];exact HE.out 0 (by omega) _
     clear wU aQ;have dE:decide (1073741824<(E:Int))=false:=decide_eq_false (by omega)
     go_wp2_with (first|(refine wpList_make_full _ rfl _ _ _ rfl (w.heap.size+1) 33 i0 (.agg #[.int .i64 0,.bool false,.slice none 0 0,.slice none 0 0]) 4 Tryz.underlying31 hi hz0 hz1 .i64 .i64 _ _ (E+1) rfl rfl ?c4 ?c5 ?c2 ?c3 ?c6 ?_))
     case c2=>rw[hz2];omega
     case c3=>unfold maxLen;omega
     case c4=>simp
     case c5=>simp
     case c6=>simp
     intro w1 hown hgrow
     try simp only[World.size_alloc]at hown
     have bI:=(ak.made hown rfl (by omega)).congr (f':=fu) (by
      intro i _
      exact CY i)
     have af:=lM hgrow;clear hown hgrow;have cB:Hid (ak w1 w.heap.size 33 4 (arr #[.int .i64 0,.bool false,.slice none 0 0,.slice none 0 0])):=jD.out.ext af;have aA:Ext w w1:=gD.out.trans af
     have dP:w.heap.size+2<=w1.heap.size:=by have:=bI.lt;omega
     have hKf:Kids (Mx M w.heap.size (w.heap.size+2)) w1 j (w.heap.size+1) (E+1) (λ_=>[]):=Kids.fresh (by simpa using bI);have oP:=Lib.hid hKf;clear hKf bI af;go_wp2
     go_loopw [6] (λi wr=>∃s:Nat,s<=n/\i=.int .i64 s/\w.heap.size+2<=wr.heap.size/\Hid (Kids (Mx M w.heap.size (w.heap.size+2)) wr j (w.heap.size+1) (E+1) (λi=>lL j (qL (j+1) (i:Int) (dQ s z x))))/\Hid (∀i k,i<s->s<=k->k<n->(x k).m.get (j+1)≠(x i).m.get (j+1))/\Hid (Ext w wr)/\Hid (ak wr w.heap.size 33 4 (arr #[.int .i64 0,.bool false,.slice none 0 0,.slice none 0 0]))) (λi _=>n-(intOf i).toNat)
     case atStart=>exact⟨0,Nat.zero_le _,rfl,dP,oP.out,λi k h=>by omega,aA,cB⟩
     case round=>
      clear oP dP aA cB;obtain⟨s,hs,rfl,hsz,HK,qfD,bL,tN⟩:=hrel
      by_cases hlt:s<n
      ·obtain⟨bb,oo,e1,_,_,_,z0,z1,z2,z3,z4,z5⟩:=HX.out.at s hlt;simp only[Option.some.injEq,Addr.mk.injEq,and_true]at e1;obtain⟨rfl,rfl⟩:=e1;have zj:=qcJ z2 z3 z4 z5 j Ep;rw[<-bL.out.cell hb]at zj
       have iH:b<wr.heap.size:=by omega
       obtain⟨e,kM⟩:∃e:Nat,(x s).m.get (j+1)=e:=⟨((x s).m.get (j+1)).toNat,by have:=vL (HC.out.2 _ (Az hlt)).2 (j+1);simp only at this;omega⟩;have aL:=Lib.hid kM;rw[kM]at zj
       have heE:e<=E:=by have:=OW HC.out qC.out (by omega) (by omega) (Nat.zero_le s) hlt;rw[kM,gB.out]at this;omega
       clear kM z0 z1 z2 z3 z4 z5;go_wp2;obtain⟨wo,rfl⟩:∃wo:World,wo=wr:=⟨_,rfl⟩
       go_loopw [8] (λi wq=>∃q:Nat,s<=q/\q<=n/\i=.int .i64 q/\Hid (∀k,s<=k->k<q->(x k).m.get (j+1)=e)/\wo=wq) (λi _=>n-(intOf i).toNat)
       case atStart=>exact⟨s,Nat.le_refl _,hs,rfl,λk h1 h2=>by omega,rfl⟩
       case round=>
        obtain⟨q,hq1,hq2,rfl,HQ,rfl⟩:=hrel
        have qvo:(q<n/\(x q).m.get (j+1)=e)\/(q<n/\(x q).m.get (j+1)≠e)\/q=n:=by omega
        have Pz:q<n->wo.cell? ⟨b,off+q*6+2+j,none⟩=some (.int .i64 ((x q).m.get (j+1))):=by
         intro wQ;obtain⟨bb,oo,e1,_,_,_,z0,z1,z2,z3,z4,z5⟩:=HX.out.at q wQ;simp only[Option.some.injEq,Addr.mk.injEq,and_true]at e1;obtain⟨rfl,rfl⟩:=e1;rw[bL.out.cell hb];exact qcJ z2 z3 z4 z5 j Ep
        rcases qvo with⟨wQ,heq⟩|hstop
        ·have zq:=Pz wQ;rw[heq]at zq
         have HQ1:Hid (∀k,s<=k->k<q+1->(x k).m.get (j+1)=e):=λk h1 h2=>if hk:k<q then HQ.out k h1 hk else by
          have:k=q:=by omega
          subst this;exact heq
         clear Pz heq;go_wp2
         go_roundw
         case rel=>exact⟨q+1,by omega,by omega,by go_num,HQ1,by first|rfl|trivial⟩
         case measure=>simp[intOf];omega
        ·have GG:s<q:=by
          rcases Nat.lt_or_ge s q with h|h
          ·exact h
          ·have:q=s:=by omega
           subst this;rcases hstop with⟨_,h⟩|h
           ·exact absurd aL.out h
           ·omega
         have HQE:Hid (q<n->(x q).m.get (j+1)≠e):=λh=>by rcases hstop with⟨_,h⟩|h;exact h;omega
         have Fu:=Lib.hid (mD.ext ((HX.out.sub s q hq1 hq2).more (M':=Mx M w.heap.size (w.heap.size+2)) (Mx.more (Nat.le_refl _))) bL.out);have SI:Hid (∀i,i<q-s->dJ (Mx M w.heap.size (w.heap.size+2)) wo (.bool (x (s+i)).b) (.slice (x (s+i)).a (x (s+i)).n (x (s+i)).p) (z (s+i))):=λi hi=>((HI.out (s+i) (by omega)).more (Mx.more (Nat.le_refl _))).ext bL.out;have HMO:Hid (Mb (Mx M w.heap.size (w.heap.size+2)) wo):=Mx.mb hM bL.out.size hsz
         have HAG:Hid (Agree j (dQ (q-s) (λi=>z (s+i)) (λi=>x (s+i)))):=by
          refine Agree.next (L:=j+1) (qC.out.sub λt ht=>?_) λt1 GI t2 ht2=>?_
          ·obtain⟨i,PT,rfl⟩:=Ht ht;exact Az (i:=s+i) (by omega)
          ·obtain⟨i1,h1,rfl⟩:=Ht GI;obtain⟨i2,h2,rfl⟩:=Ht ht2;simp only;rw[HQ.out _ (by omega) (by omega),HQ.out _ (by omega) (by omega)]
         have hbq:∀hh:Prop,hh->hh:=λ_ h=>h;have qj6:=ih j (by omega) _ _ _ _ _ _ HMO.out Fu.out SI.out (HC.out.sub s q hq1 hq2) HAG.out (λi hi k=>HE.out (s+i) (by omega) k);have aO:=Lib.hid qj6;clear qj6 hbq
         have H9:Hid (∀i,i<E+1->ae (if i=e then lL j (dQ (q-s) (λi=>z (s+i)) (λi=>x (s+i)))else lL j (qL (j+1) (i:Int) (dQ s z x))) (lL j (qL (j+1) (i:Int) (dQ q z x)))):=by
          intro i _;rw[WE s q z x hq1,qtb]
          by_cases LZ:i=e
          ·subst LZ;rw[if_pos rfl,qig (l:=dQ s z x),qtc,List.nil_append]
           ·exact ae.refl _
           ·intro t ht;obtain⟨i1,h1,rfl⟩:=Ht ht;exact HQ.out _ (by omega) (by omega)
           ·intro t ht;obtain⟨i1,h1,rfl⟩:=Ht ht;have:=qfD.out i1 s h1 (Nat.le_refl _) hlt;rw[aL.out]at this;exactλq=>this q.symm
          ·rw[if_neg LZ,qig (l:=dQ (q-s) _ _),List.append_nil]
           ·exact ae.refl _
           ·intro t ht;obtain⟨i1,h1,rfl⟩:=Ht ht;simp only;rw[HQ.out _ (by omega) (by omega)];omega
         have qqj:Hid (∀i k,i<q->q<=k->k<n->(x k).m.get (j+1)≠(x i).m.get (j+1)):=by
          intro i k h1 h2 h3
          by_cases his:i<s
          ·exact qfD.out i k his (by omega) h3
          ·rw[HQ.out i (by omega) h1];have g1:=OW HC.out qC.out (by omega) (by omega) h2 h3;have g2:=OW HC.out qC.out (by omega) (by omega) hq1 (show q<n by omega);have g3:=HQE.out (by omega);rw[aL.out]at g2;omega
         have hdec:(decide (q<n)=true/\q<n/\((x q).m.get (j+1)==(e:Int))=false)\/(decide (q<n)=false/\¬q<n):=by
          rcases hstop with⟨h1,h2⟩|h1
          ·exact .inl ⟨decide_eq_true h1,h1,by simpa using h2⟩
          ·exact .inr ⟨decide_eq_false (by omega),by omega⟩
         clear hstop;rcases hdec with⟨dq,wQ,hne⟩|⟨dq,wQ⟩
         all_goals
          try have zq:=Pz wQ
          clear Pz;go_wp2_with (fail);refine(aO.out).mono ?_;rintro e2 w4 ⟨c0,c1,c2,c3,rfl,bR,aW⟩;obtain⟨qy,b',a',n',p',ka,kn,kp,rfl,rfl,rfl,rfl,_⟩:=bR.form;have eF:=HK.out.ext aW;obtain⟨⟨_,k0⟩,⟨_,k1⟩,⟨_,k2⟩,⟨_,k3⟩,aV,l5⟩:=eF.at e (by omega);have fB:=aV (e*4);have fo:=aV (e*4+1);have lh:=aV (e*4+2);have pG:=aV (e*4+3)
          have Jh:(e:Int)<(E:Int)+1:=by omega
          have lJ:=Lib.hid ((eF.set (Mx.at (by omega)) e (by omega) bR).congr H9.out);have eD:Hid (Ext w (aH w4 (w.heap.size+1) (e*4) (.int .i64 qy) (.bool b') (.slice a' n' p') (.slice ka kn kp))):=(bL.out.trans aW).aH (by omega) _ _ _ _ _;have vQ:Hid (ak (aH w4 (w.heap.size+1) (e*4) (.int .i64 qy) (.bool b') (.slice a' n' p') (.slice ka kn kp)) w.heap.size 33 4 (arr #[.int .i64 0,.bool false,.slice none 0 0,.slice none 0 0])):=(tN.out.ext aW).of_heap (il _ _ _ _ _ _ _ _ (by omega))
          have qlp:w.heap.size+2<=(aH w4 (w.heap.size+1) (e*4) (.int .i64 qy) (.bool b') (.slice a' n' p') (.slice ka kn kp)).heap.size:=by rw[lU];have:=aW.size;omega
          have p8:=Lib.hid qlp;clear eF aV bR aW qlp;go_wp2
          go_roundw
          case rel=>exact⟨q,hq2,rfl,p8.out,lJ,qqj,eD,vQ⟩
          case measure=>simp[intOf];omega
      ·have hsn:s=n:=by omega
       subst hsn;obtain⟨⟨q0,q1,q2,q3⟩,⟨f0,f1,f2,f3⟩,⟨r0,r1,r2,r3⟩,hk,hf⟩:=BI (M':=Mx M w.heap.size (w.heap.size+2)) (w:=w) (.int .i64 ((j:Int)+1)) (.bool false) (.slice none 0 0) (.slice (some ⟨w.heap.size+1,0,none⟩) (E+1) (E+1)) tN.out (Mx.at (by omega)) (Nat.le_refl _) bL.out
       have ig:E≠0:=by simpa using qlB
       have HF:Hid (CR M (aH wr w.heap.size 0 (.int .i64 ((j:Int)+1)) (.bool false) (.slice none 0 0) (.slice (some ⟨w.heap.size+1,0,none⟩) (E+1) (E+1))) L (.int .i64 ((j:Int)+1)) (.bool false) (.slice none 0 0) (.slice (some ⟨w.heap.size+1,0,none⟩) (E+1) (E+1)) (lL L (dQ s z x))):=by
        have hK:=HK.out.kp (il wr w.heap.size 0 (.int .i64 ((j:Int)+1)) (.bool false) (.slice none 0 0) (.slice (some ⟨w.heap.size+1,0,none⟩) (E+1) (E+1)) (w.heap.size+1) (by omega)) hk;refine(CR.bZ (CR.node (D:=j) (by omega) (by omega) (by omega) (Nat.le_refl _) (by unfold maxLen;omega) (by rw[lU];omega) (hM.new (by omega)) (λi hi=>hK.bu (M':=M) Mx.less i hi) ?_) ?_).up (by omega)
        ·intro hs0;have h1:=hs0 (qi j (x 0).m)
         have rO:(x 0).m.get (j+1)=((E+1-1:Nat):Int):=by rw[gB.out];simp
         rw[qrv,qrx _ _ _ _ rO]at h1
         ·have h2:=qrw HC.out (by omega);exact h2.2 (h2.1.symm.trans h1)
         ·intro t ht k iq kz;have GI:=List.mem_filter.1 ht;rcases Nat.lt_or_ge (j+1) k with hkk|hkk
          ·exact qC.out t GI.1 _ (Az (by omega)) k hkk kz
          ·have:k=j+1:=by omega
           subst this;rw[rO];simpa using GI.2
        ·rw[<-mf.out];refine qyU (j+1) (E+1) _ (by omega) (by omega) λt ht=>?_;obtain⟨i,PT,rfl⟩:=Ht ht;have h1:=OW HC.out qC.out (by omega) (by omega) (Nat.zero_le i) PT;have h2:=vL (HC.out.2 _ (Az PT)).2 (j+1);rw[gB.out]at h1;simp only at h2⊢;omega
       have dY:=Lib.hid hf;unfold aH at r0 r1 r2 r3;simp only[arr]at q0 q1 q2 q3;have R0:=Lib.hid r0;have R1:=Lib.hid r1;have R2:=Lib.hid r2;have R3:=Lib.hid r3;clear hk hf r0 r1 r2 r3;go_wp2;exact bodyPost_ret (v:=.agg #[.int .i64 ((j:Int)+1),.bool false,.slice none 0 0,.slice (some ⟨w.heap.size+1,0,none⟩) (E+1) (E+1)]) (by simp[results,Tryz.results99,go_sem,R0.out,R1.out,R2.out,R3.out]) rfl ⟨_,_,_,_,rfl,HF.out,dY.out⟩
theorem qyu(L:Nat)(hL:L<=4):WN L:=by
 induction L using Nat.strongRecOn with
 |_ L ih=>exact qq4 L hL λD hD=>ih D hD (by omega)
theorem uH{M M':Nat->Prop}{w W:World}{g:Nat}{t:TypeId}{f:Nat->Value}{L:Nat}{l:List Tm}{c0 c1 c2 c3:Value}(hB:ak W g t 4 f)(hg:M' g)(hw:w.heap.size<=g)(he:Ext w W)(hc:CR M' W L c0 c1 c2 c3 l)(hm:∀g,M g->M' g):
 (W.cell? ⟨g,0,none⟩=some (f 0)/\W.cell? ⟨g,1,none⟩=some (f 1)/\W.cell? ⟨g,2,none⟩=some (f 2)/\W.cell? ⟨g,3,none⟩=some (f 3))/\
 (W.frozen? ⟨g,0,none⟩=false/\W.frozen? ⟨g,1,none⟩=false/\W.frozen? ⟨g,2,none⟩=false/\W.frozen? ⟨g,3,none⟩=false)/\
 (((((W.setCell ⟨g,0,none⟩ c0).setCell ⟨g,1,none⟩ c1).setCell ⟨g,2,none⟩ c2).setCell ⟨g,3,none⟩ c3).cell? ⟨g,0,none⟩=some c0/\((((W.setCell ⟨g,0,none⟩ c0).setCell ⟨g,1,none⟩ c1).setCell ⟨g,2,none⟩ c2).setCell ⟨g,3,none⟩ c3).cell? ⟨g,1,none⟩=some c1/\
  ((((W.setCell ⟨g,0,none⟩ c0).setCell ⟨g,1,none⟩ c1).setCell ⟨g,2,none⟩ c2).setCell ⟨g,3,none⟩ c3).cell? ⟨g,2,none⟩=some c2/\((((W.setCell ⟨g,0,none⟩ c0).setCell ⟨g,1,none⟩ c1).setCell ⟨g,2,none⟩ c2).setCell ⟨g,3,none⟩ c3).cell? ⟨g,3,none⟩=some c3)/\
 Hid (uK M w L l (.returned (.agg #[c0,c1,c2,c3])) ((((W.setCell ⟨g,0,none⟩ c0).setCell ⟨g,1,none⟩ c1).setCell ⟨g,2,none⟩ c2).setCell ⟨g,3,none⟩ c3)):=by
 obtain⟨h1,h2,h3,h4,h5⟩:=BI (M':=M') (w:=w) c0 c1 c2 c3 hB hg hw he;exact⟨h1,h2,h3,c0,c1,c2,c3,rfl,(hc.kp h4).more (λg hg=>.inl (hm g hg)),h5⟩
theorem Mx.sub{M:Nat->Prop}{n k:Nat}:∀g,M g->Mx M n k g:=λ_ h=>.inl h
theorem RR.cr{M:Nat->Prop}{w:World}{d:Nat}{t:RT d}{c0 c1 c2 c3:Value}(h:RR M w d t c0 c1 c2 c3)(hc:fC d t=true):CR M w 4 c0 c1 c2 c3 (terms d t):=by
 cases d with
 |zero=>exact h.elim
 |succ d=>
  have hl:=FM hc;obtain⟨u,k1,k2,k3,k4,_⟩:=qdk 4 h hc (by show t.1<=_;omega);have k3':u.1=t.1:=k3;exact⟨u,k1,k2,by omega,by rw[k4];exact ae.refl _⟩
theorem Wo:∀(d:Nat)(t:RT d),∀s∈terms d t,s.2.nn=true
 |0,_,s,hs=>by cases hs
 |d+1,t,s,hs=>by
  unfold terms at hs
  split at hs
  ·simp only[List.mem_singleton]at hs;subst hs;exact(by decide:Mo.zero.nn=true)
  ·split at hs
   ·cases hs
   ·obtain⟨i,hi,u,hu,rfl⟩:=EN hs;have h1:=Wo d _ u hu;rw[Mo.Ap]at h1⊢;simp only[Mo.add,xp];refine⟨?_,?_,?_,?_⟩<;>(split<;>omega)
theorem qyV{l:List Tm}(h:∀s∈l,s.2.nn=true):ae (norm l) l:=by
 intro m;rw[MJ];unfold qz
 split
 ·rfl
 ·rename_i hm;exact(qh λt ht e=>hm (by rw[<-e];exact h t ht)).symm
theorem ui.eH{M:Nat->Prop}{base:Nat}{w:World}{v:Value}{n:Nat}{z:Nat->Int}{x:Nat->TE}(h:ui M base w v n z x)(hM:∀g,base<=g->¬M g)(hn:n<=1099511627776):uW M w v (dQ n z x):=by
 obtain⟨h1,h2⟩:=h;refine mD.v ⟨hn,?_,λi hi=>(h2 i hi).more λg hg=>.inl (.inl hg)⟩
 by_cases h0:n=0
 ·subst h0;rcases h1 with⟨rfl,_⟩|⟨g,cap,F,rfl,hg,hB,hc,hm,hF⟩
  ·exact .inl ⟨⟨none,0,rfl,Nat.zero_le _⟩,rfl⟩
  ·exact .inr ⟨g,0,cap,rfl,hc,hm,⟨hB.lt,hM g hg⟩,λi hi=>by omega⟩
 ·obtain⟨g,cap,F,rfl,hg,hB,hc,hm,hF⟩:=h1.some (by omega);refine .inr ⟨g,0,cap,rfl,hc,hm,⟨hB.lt,hM g hg⟩,λi hi=>?_⟩
  have hcell:∀k,k<6->w.cell? ⟨g,0+i*6+k,none⟩=some (tx x (i*6+k)):=λk hk=>by
   rw[Nat.zero_add,hB.cell (by omega),hF _ (by omega)]
  have a0:=hcell 0 (by omega);have a1:=hcell 1 (by omega);have a2:=hcell 2 (by omega);have a3:=hcell 3 (by omega);have a4:=hcell 4 (by omega);have a5:=hcell 5 (by omega);unfold tx at a0 a1 a2 a3 a4 a5;rw[Nat.add_zero,Nat.add_zero,M4]at a0;rw[M5]at a1;rw[Ri]at a2;rw[Rj]at a3;rw[Rk]at a4;rw[Rl]at a5;exact⟨a0,a1,a2,a3,a4,a5⟩
theorem qqT(l:List Tm):Agree 4 l:=λ_ _ _ _ k h1 h2=>by omega
theorem qyn{d:Nat}(h:d<=1000):Room d Mo.zero:=λk=>by rw[ve];omega
def TB(d:Nat)(t:RT d):Prop:=d<=1000/\(terms d t).length<=1099511627776/\az (aC (terms d t))<=1099511627776/\∀s∈terms d t,∀k,s.2.get k<=1073741824
theorem qq3{M:Nat->Prop}{w:World}{B:Nat}{v:Value}{l:List Tm}(hM:Mb M w)(h:uV M B w v (norm l))(he:∀s∈l,∀k,s.2.get k<=1073741824):
 Calls Tryz.prog 99 #[v,.int .i64 4] w (uK M w 4 (norm l)):=by
 obtain⟨n,z,x,hx,hl,hI⟩:=h.x
 have hb:=qyu 4 (Nat.le_refl _) M v n z x w hM hx hI (by rw[<-hl];exact qZ l) (qqT _) (λi hi k=>by
  have hm:=Az (z:=z) (x:=x) hi;rw[<-hl]at hm;obtain⟨s,hs,e⟩:=qmM hm;have:=he s hs k
  rw[e]at this;exact this)
 rw[<-hl,qrI]at hb;exact hb
theorem uK.bZ{M:Nat->Prop}{w w':World}{L:Nat}{l r:List Tm}{e:Ending}(h:uK M w L l e w')(hs:ae l r):uK M w L r e w':=by
 obtain⟨c0,c1,c2,c3,h1,h2,h3⟩:=h;exact⟨c0,c1,c2,c3,h1,h2.bZ hs,h3⟩
theorem qyv(M:Nat->Prop)(d:Nat)(t:RT d)(c0 c1 c2 c3:Value)(w:World)(hM:Mb M w)(h:RR M w d t c0 c1 c2 c3)(hT:fC d t=true\/TB d t):
 Calls Tryz.prog 71 #[.agg #[c0,c1,c2,c3]] w (uK M w 4 (terms d t)):=by
 cases d with
 |zero=>exact h.elim
 |succ d=>
 obtain⟨rfl,rfl,⟨a,p,rfl⟩,ka,kp,rfl⟩:=h.form;have aQ:Ext w ((w.alloc (.cells #[.int .i64 t.1,.bool t.2.1.neg,.slice a t.2.1.n p,.slice ka t.2.2.1 kp] 33)).alloc (.cells #[.int .i64 0,.bool false,.slice none 0 0,.slice none 0 0] 33)):=((Ext.refl w).alloc _).alloc _;have bO:=(ak.bf w #[.int .i64 t.1,.bool t.2.1.neg,.slice a t.2.1.n p,.slice ka t.2.2.1 kp] 33 4 rfl).alloc (.cells #[.int .i64 0,.bool false,.slice none 0 0,.slice none 0 0] 33);have bM:=ak.bf (w.alloc (.cells #[.int .i64 t.1,.bool t.2.1.neg,.slice a t.2.1.n p,.slice ka t.2.2.1 kp] 33)) #[.int .i64 0,.bool false,.slice none 0 0,.slice none 0 0] 33 4 rfl;have h2:RR (Mx M w.heap.size (w.heap.size+2)) _ (d+1) t _ _ _ _:=(RR.more (Mx.more (Nat.le_refl _)) h).ext aQ;have eG:Mb (Mx M w.heap.size (w.heap.size+2)) ((w.alloc (.cells #[.int .i64 t.1,.bool t.2.1.neg,.slice a t.2.1.n p,.slice ka t.2.2.1 kp] 33)).alloc (.cells #[.int .i64 0,.bool false,.slice none 0 0,.slice none 0 0] 33)):=Mx.mb hM (by simp;omega) (by simp);simp only[World.size_alloc]at bM;have LU:=qnW (d+1) _ t _ _ _ _ _ h2;cases hc:fC (d+1) t
 ·have vC:TB (d+1) t:=hT.resolve_left (by rw[hc];exact Bool.false_ne_true);rw[hc]at LU
  go_enter Tryz.func71,Tryz.ntmps71
  go_wp2_with (fail);refine LU.mono ?_;rintro e w1 ⟨rfl,af⟩;have cZ:=bO.ext af;have x0:=cZ.cell (i:=0) (by omega);have x1:=cZ.cell (i:=1) (by omega);have x2:=cZ.cell (i:=2) (by omega);have x3:=cZ.cell (i:=3) (by omega);simp only[arr]at x0 x1 x2 x3;have HX:Hid (RR (Mx M w.heap.size (w.heap.size+2)) w1 (d+1) t (.int .i64 t.1) (.bool t.2.1.neg) (.slice a t.2.1.n p) (.slice ka t.2.2.1 kp)):=RR.ext h2 af;have jb:=Lib.hid (eG.ext af);have og:=Lib.hid (bM.ext af);have eP:=Lib.hid (aQ.trans af);have hco:=qnV (d+1) (Mx M w.heap.size (w.heap.size+2)) w1.heap.size t _ _ _ _ (.slice none 0 0) 0 (λ_=>0) (λ_=>⟨false,none,0,0,Mo.zero⟩) Mo.zero w1 (Nat.le_refl _) (RR.more (λg hg=>hg) HX.out) ⟨Own.nil _ _ _ _ _,λi hi=>by omega⟩ (by have:=vC.2.1;omega) (qyn vC.1);have HCO:=Lib.hid hco;have YG:=Lib.hid vC;clear hco vC hT h h2 aQ bO bM eG LU af;go_wp2_with (fail);refine HCO.out.mono ?_;rintro e w2 ⟨v',n',z',x',rfl,hR,hx,hg,_⟩
  have Mq:dQ n' z' x'=terms (d+1) t:=by rw[hx,Rc];rfl
  have HXL:=Lib.hid Mq;have aA:Ext w1 w2:=lM hg
  have zW:n'<=1099511627776:=by have:=congrArg List.length Mq;rw[Rx]at this;have:=YG.out.2.1;omega
  have hV:=hR.eH (λg hg=>jb.out.new hg) zW;rw[Mq]at hV;have HV:=Lib.hid hV;clear hx Mq hR hg hV zW;go_wp2_with (fail);refine(qy1 _ v' (terms (d+1) t) w2 (jb.out.ext aA) HV.out YG.out.2.2.1).mono ?_;rintro e w3 ⟨u,rfl,hu,aT⟩;have HU:=Lib.hid hu;clear hu;go_wp2_with (fail);refine(qq3 (jb.out.ext (aA.trans aT)) HU.out YG.out.2.2.2).mono ?_;rintro e w4 ⟨d0,d1,d2,d3,rfl,bR,aW⟩;obtain⟨lv,bb,a',n',p',Aj,Cs,EL,rfl,rfl,rfl,rfl,_⟩:=bR.form;have eU:=(aA.trans aT).trans aW;obtain⟨⟨q0,q1,q2,q3⟩,⟨f0,f1,f2,f3⟩,⟨r0,r1,r2,r3⟩,HF⟩:=uH (M:=M) (w:=w) (og.out.ext eU) (Mx.at (by omega)) (by omega) (eP.out.trans eU) (bR.bZ (qyV (Wo _ t))) Mx.sub;clear bR eU aW aA aT;go_wp2;exact bodyPost_ret (v:=.agg #[.int .i64 lv,.bool bb,.slice a' n' p',.slice Aj Cs EL]) (by simp[results,Tryz.results71,go_sem,r0,r1,r2,r3]) rfl HF.out
 ·rw[hc]at LU;have Xz:=Lib.hid (RR.cr h2 hc);clear hT hc
  go_enter Tryz.func71,Tryz.ntmps71
  go_wp2_with (fail);refine LU.mono ?_;rintro e w1 ⟨rfl,af⟩;have cZ:=bO.ext af;have x0:=cZ.cell (i:=0) (by omega);have x1:=cZ.cell (i:=1) (by omega);have x2:=cZ.cell (i:=2) (by omega);have x3:=cZ.cell (i:=3) (by omega);simp only[arr]at x0 x1 x2 x3;obtain⟨⟨q0,q1,q2,q3⟩,⟨f0,f1,f2,f3⟩,⟨r0,r1,r2,r3⟩,HF⟩:=uH (M:=M) (w:=w) (bM.ext af) (Mx.at (by omega)) (by omega) (aQ.trans af) (Xz.out.ext af) Mx.sub;clear h h2 aQ bO bM eG LU af cZ;go_wp2;exact bodyPost_ret (v:=.agg #[.int .i64 t.1,.bool t.2.1.neg,.slice a t.2.1.n p,.slice ka t.2.2.1 kp]) (by simp[results,Tryz.results71,go_sem,r0,r1,r2,r3]) rfl HF.out
def WT(D:Nat):Prop:=∀(M:Nat->Prop)(l:List Tm)(c0 c1 c2 c3:Value)(w:World),Mb M w->CR M w D c0 c1 c2 c3 l->Calls Tryz.prog 57 #[.agg #[c0,c1,c2,c3]] w (uK M w D l)
theorem qrF(L:Nat)(ih:∀D,D<L->WT D):WT L:=by
 intro M l c0 c1 c2 c3 w hM h;obtain⟨i0,hi,hz0,hz1,hz2⟩:=info_parts Tryz.yo;obtain⟨lv,bb,a,n0,p,ka,n,cap,rfl,rfl,rfl,rfl,hl0,PZ,Jl⟩:=h.form;have aQ:Ext w ((w.alloc (.cells #[.int .i64 lv,.bool bb,.slice a n0 p,.slice ka n cap] 33)).alloc (.cells #[.int .i64 0,.bool false,.slice none 0 0,.slice none 0 0] 33)):=((Ext.refl w).alloc _).alloc _;have bO:=(ak.bf w #[.int .i64 lv,.bool bb,.slice a n0 p,.slice ka n cap] 33 4 rfl).alloc (.cells #[.int .i64 0,.bool false,.slice none 0 0,.slice none 0 0] 33);have bM:=ak.bf (w.alloc (.cells #[.int .i64 lv,.bool bb,.slice a n0 p,.slice ka n cap] 33)) #[.int .i64 0,.bool false,.slice none 0 0,.slice none 0 0] 33 4 rfl;simp only[World.size_alloc]at bM
 by_cases hz:lv=0
 ·subst hz;obtain⟨z,hI,hS,hN,_⟩:=h.Lb;have F3:dJ (Mx M w.heap.size (w.heap.size+2)) _ _ _ z:=(hI.more (Mx.more (Nat.le_refl _))).ext aQ;have yL:=Lib.hid F3;have eG:Mb (Mx M w.heap.size (w.heap.size+2)) ((w.alloc (.cells #[.int .i64 0,.bool bb,.slice a n0 p,.slice ka n cap] 33)).alloc (.cells #[.int .i64 0,.bool false,.slice none 0 0,.slice none 0 0] 33)):=Mx.mb hM (by simp;omega) (by simp);have jb:=Lib.hid eG;have HS:=Lib.hid hS;clear hI F3 eG hS h
  go_enter Tryz.func57,Tryz.ntmps57
  go_wp2_with (fail);refine(QH _ _ z _ jb.out yL.out.eH).mono ?_;rintro e w1 ⟨d0,d1,rfl,hc,he⟩;obtain⟨b2,a2,n2,p2,rfl,rfl⟩:=hc.form;obtain⟨⟨q0,q1,q2,q3⟩,⟨f0,f1,f2,f3⟩,⟨r0,r1,r2,r3⟩,HF⟩:=uH (M:=M) (w:=w) (bM.ext he) (Mx.at (by omega)) (by omega) (aQ.trans he) ((CR.const hc L).bZ HS.out) Mx.sub;clear bO bM he aQ hc;go_wp2;exact bodyPost_ret (v:=.agg #[.int .i64 0,.bool b2,.slice a2 n2 p2,.slice none 0 0]) (by simp[results,Tryz.results57,go_sem,r0,r1,r2,r3]) rfl HF.out
 ·obtain⟨D,rfl,jk,uw,a',p',b,off,n1,uj,P,dR,dO,oH,lu,eu,kP,gm,hb,pq,hk,bT,fF,eB,_⟩:=h.GX hz;simp only[Value.bool.injEq,Value.slice.injEq]at dR dO oH;obtain⟨rfl,rfl,rfl⟩:=oH;obtain⟨rfl,rfl,rfl⟩:=dO;subst dR;have xq:=Lib.hid hk;have Dq:=Lib.hid fF;have Fv:=Lib.hid eB;have uu:(0:Int)<=(D:Int):=Int.natCast_nonneg _
  have xS:((D:Int)+1==0)=false:=by simp;omega
  have yJ:=Lib.hid (ih D (by omega));clear hk bT fF eB h hz ih
  go_enter Tryz.func57,Tryz.ntmps57
  go_wp2_with (first|(refine wpList_make_full _ rfl _ _ _ rfl (w.heap.size+2) 33 i0 (.agg #[.int .i64 0,.bool false,.slice none 0 0,.slice none 0 0]) 4 Tryz.underlying31 hi hz0 hz1 .i64 .i64 _ _ n rfl rfl ?c4 ?c5 ?c2 ?c3 ?c6 ?_))
  case c2=>rw[hz2];omega
  case c3=>unfold maxLen;omega
  case c4=>simp
  case c5=>simp
  case c6=>simp
  intro w1 hown hgrow;have bI:=(ak.made hown rfl (by omega)).congr (f':=fu) (λi _=>CY i);have af:=lM hgrow;have jZ:=bO.ext af;have cB:=Lib.hid (bM.ext af);have aL:=Lib.hid (aQ.trans af)
  have dP:w.heap.size+3<=w1.heap.size:=by have:=bI.lt;omega
  have oP:Hid (Kids (Mx M w.heap.size (w.heap.size+3)) w1 D (w.heap.size+2) n (λ_=>[])):=Kids.fresh bI;have x2:=jZ.cell (i:=3) (by omega);simp only[arr]at x2
  have Qu:w.heap.size<w1.heap.size:=by omega
  have gQ:=Lib.hid jZ;clear hown hgrow bI af jZ bO bM aQ;go_wp2
  go_loopw [20] (λi wr=>∃k:Nat,k<=n/\i=.int .i64 k/\w.heap.size+3<=wr.heap.size/\Hid (Kids (Mx M w.heap.size (w.heap.size+3)) wr D (w.heap.size+2) n (λi=>if i<k then P i else[]))/\Hid (Ext w wr)/\Hid (ak wr w.heap.size 33 4 (arr #[.int .i64 ((D:Int)+1),.bool false,.slice a 0 p,.slice (some ⟨b,off,none⟩) n cap]))/\
   Hid (ak wr (w.heap.size+1) 33 4 (arr #[.int .i64 0,.bool false,.slice none 0 0,.slice none 0 0]))) (λi _=>n-(intOf i).toNat)
  case atStart=>exact⟨0,Nat.zero_le _,rfl,dP,oP.out.congr λi _=>by rw[if_neg (by omega)];exact ae.refl _,aL,gQ,cB⟩
  case round=>
   clear oP aL gQ cB x2 dP Qu;obtain⟨k,hk,rfl,hsz,HK,bL,tN,jD⟩:=hrel
   by_cases hlt:k<n
   ·obtain⟨e0,e1,e2,e3,y0,y1,y2,y3,bR⟩:=xq.out k hlt;rw[<-bL.out.cell hb]at y0 y1 y2 y3
    have iH:b<wr.heap.size:=by omega
    obtain⟨qy,b',a',n',p',Aj,Cs,EL,rfl,rfl,rfl,rfl,_⟩:=bR.form;have aN:Ext wr (wr.alloc (.cells #[.int .i64 qy,.bool b',.slice a' n' p',.slice Aj Cs EL] 33)):=(Ext.refl wr).alloc _;have O7:CR (Mx M w.heap.size (w.heap.size+3)) _ D _ _ _ _ (P k):=((bR.more (Mx.more (Nat.le_refl _))).ext bL.out).ext aN;have jf:Mb (Mx M w.heap.size (w.heap.size+3)) (wr.alloc (.cells #[.int .i64 qy,.bool b',.slice a' n' p',.slice Aj Cs EL] 33)):=Mx.mb hM (by simp;omega) (by simp;omega);have aO:=Lib.hid (yJ.out _ _ _ _ _ _ _ jf O7);have dW:=Lib.hid aN;clear bR O7 jf aN;go_wp2_with (fail);refine(aO.out).mono ?_;rintro e w4 ⟨d0,d1,d2,d3,rfl,bR,aW⟩;obtain⟨kS,b2,a2,n2,p2,iU,j6,iV,rfl,rfl,rfl,rfl,_⟩:=bR.form;have aR:=dW.out.trans aW;have eF:=HK.out.ext aR;obtain⟨⟨_,k0⟩,⟨_,k1⟩,⟨_,k2⟩,⟨_,k3⟩,aV,l5⟩:=eF.at k hlt;have fB:=aV (k*4);have fo:=aV (k*4+1);have lh:=aV (k*4+2);have pG:=aV (k*4+3)
    have lJ:Hid (Kids (Mx M w.heap.size (w.heap.size+3)) (aH w4 (w.heap.size+2) (k*4) (.int .i64 kS) (.bool b2) (.slice a2 n2 p2) (.slice iU j6 iV)) D (w.heap.size+2) n (λi=>if i<k+1 then P i else[])):=by
     refine(eF.set (Mx.at (by omega)) k hlt bR).congr λi _=>?_
     by_cases gH:i=k
     ·subst gH;rw[if_pos rfl,if_pos (by omega)];exact ae.refl _
     ·rw[if_neg gH]
      by_cases h3:i<k
      ·rw[if_pos h3,if_pos (by omega)];exact ae.refl _
      ·rw[if_neg h3,if_neg (by omega)];exact ae.refl _
    have eD:Hid (Ext w (aH w4 (w.heap.size+2) (k*4) (.int .i64 kS) (.bool b2) (.slice a2 n2 p2) (.slice iU j6 iV))):=(bL.out.trans aR).aH (by omega) _ _ _ _ _;have vQ:Hid (ak (aH w4 (w.heap.size+2) (k*4) (.int .i64 kS) (.bool b2) (.slice a2 n2 p2) (.slice iU j6 iV)) w.heap.size _ _ _):=(tN.out.ext aR).of_heap (il _ _ _ _ _ _ _ _ (by omega));have jV:Hid (ak (aH w4 (w.heap.size+2) (k*4) (.int .i64 kS) (.bool b2) (.slice a2 n2 p2) (.slice iU j6 iV)) (w.heap.size+1) _ _ _):=(jD.out.ext aR).of_heap (il _ _ _ _ _ _ _ _ (by omega))
    have p8:Hid (w.heap.size+3<=(aH w4 (w.heap.size+2) (k*4) (.int .i64 kS) (.bool b2) (.slice a2 n2 p2) (.slice iU j6 iV)).heap.size):=by show _<=_;rw[lU];have:=aR.size;omega
    clear eF aV bR aW aR;go_wp2
    go_roundw
    case rel=>exact⟨k+1,by omega,by go_num,p8.out,lJ,eD,vQ,jV⟩
    case measure=>simp[intOf];omega
   ·have hkn:k=n:=by omega
    subst hkn;have y0:=tN.out.cell (i:=0) (by omega);simp only[arr]at y0
    have Qu:w.heap.size<wr.heap.size:=by omega
    have dY:Hid (CR (Mx M w.heap.size (w.heap.size+2)) wr L (.int .i64 ((D:Int)+1)) (.bool false) (.slice none 0 0) (.slice (some ⟨w.heap.size+2,0,none⟩) k k) l):=by
     refine(CR.bZ (CR.node (D:=D) jk lu eu (Nat.le_refl _) (by unfold maxLen;omega) (by omega) (λhh=>hh.elim (hM.new (by omega)) (by omega)) (λi hi=>HK.out.bu (λg hg=>.inl (hg.imp id λh=>by omega)) i hi) ?_) ?_).up uw
     ·rw[if_pos (by omega)];exact Dq.out
     ·exact(sZ _ _ _ _ λi hi=>by rw[if_pos hi];exact ae.refl _).trans Fv.out
    obtain⟨⟨q0,q1,q2,q3⟩,⟨f0,f1,f2,f3⟩,⟨r0,r1,r2,r3⟩,HF⟩:=uH (M:=M) (w:=w) jD.out (Mx.at (by omega)) (by omega) bL.out dY.out Mx.sub;simp only[arr]at q0 q1 q2 q3;go_wp2;exact bodyPost_ret (v:=.agg #[.int .i64 ((D:Int)+1),.bool false,.slice none 0 0,.slice (some ⟨w.heap.size+2,0,none⟩) k k]) (by simp[results,Tryz.results57,go_sem,r0,r1,r2,r3]) rfl HF.out
theorem qyw(L:Nat):WT L:=by
 induction L using Nat.strongRecOn with
 |_ L ih=>exact qrF L λD hD=>ih D hD
def tF(l r:List Tm):Bool:=decide (norm l=norm r)
theorem CR.nn{M:Nat->Prop}{w:World}{L:Nat}{c0 c1 c2 c3:Value}{l:List Tm}(h:CR M w L c0 c1 c2 c3 l)(m:Mo)(hm:m.nn=false):aB l m=0:=by
 obtain⟨t,h1,h2,h3,h4⟩:=h;rw[<-h4 m]
 exact qh λs hs e=>by have:=Wo _ t s hs;rw[e,hm]at this;cases this
theorem qds{l r:List Tm}(hl:∀m:Mo,m.nn=false->aB l m=0)(hr:∀m:Mo,m.nn=false->aB r m=0):tF l r=true↔ae l r:=by
 unfold tF;rw[decide_eq_true_iff];constructor
 ·intro h m;cases hm:m.nn
  ·rw[hl m hm,hr m hm]
  ·exact qw5 h m hm
 ·exactλh=>h.norm
theorem qnk{D n:Nat}{P Q:Nat->List Tm}(hD:D+1<=4)(hP:∀i,i<n->dN D (P i))(hQ:∀i,i<n->dN D (Q i))(h:ae (aJ (D+1) n P) (aJ (D+1) n Q))(i:Nat)(hi:i<n):ae (P i) (Q i):=by
 intro m
 by_cases hm:m.get (D+1)=0
 ·have:=h (Mo.add m (xp (D+1) (i:Int)))
  rwa[Ub (by omega) hD (λi hi=>hP i hi) i hi m hm,Ub (by omega) hD (λi hi=>hQ i hi) i hi m hm]at this
 ·rw[(hP i hi).uX (by omega) hD hm,(hQ i hi).uX (by omega) hD hm]
theorem CR.uniq{M M':Nat->Prop}{w w':World}{L L':Nat}{lv qy:Int}{c1 c2 d1 d2:Value}{ka Aj:Option Addr}{kn Cs kp EL:Nat}{l r:List Tm}(h:CR M w L (.int .i64 lv) c1 c2 (.slice ka kn kp) l)(k:CR M' w' L' (.int .i64 qy) d1 d2 (.slice Aj Cs EL) r)(hs:ae l r):lv=qy/\kn=Cs:=by
 obtain⟨t,h1,h2,h3,h4⟩:=h;obtain⟨u,k1,k2,k3,k4⟩:=k;obtain⟨g1,g2,_,_⟩:=qq7 h2 k2 h1.ok k1.ok (h4.trans (hs.trans k4.symm));obtain⟨e1,_,_,a1,p1,e2⟩:=h1.form;obtain⟨e3,_,_,a2,p2,e4⟩:=k1.form;simp only[Value.int.injEq,true_and]at e1 e3;simp only[Value.slice.injEq]at e2 e4;exact⟨by omega,by omega⟩
def ZF(L:Nat):Prop:=∀(M:Nat->Prop)(l r:List Tm)(c0 c1 c2 c3 d0 d1 d2 d3:Value)(w:World),CR M w L c0 c1 c2 c3 l->CR M w L d0 d1 d2 d3 r->Calls Tryz.prog 70 #[.agg #[c0,c1,c2,c3],.agg #[d0,d1,d2,d3]] w λe w'=>e=.returned (.bool (tF l r))/\Ext w w'
theorem qyG(L:Nat)(ih:∀D,D<L->ZF D):ZF L:=by
 intro M l r c0 c1 c2 c3 d0 d1 d2 d3 w h k;obtain⟨lv,bb,a,n0,p,ka,n,cap,rfl,rfl,rfl,rfl,hl0,PZ,Jl⟩:=h.form;obtain⟨qy,Oz,a',QT,p',Aj,n',cap',rfl,rfl,rfl,rfl,kl0,klL,kl4⟩:=k.form;have Bc:Hid (tF l r=true↔ae l r):=qds h.nn k.nn;have Dy:Hid (ae l r->lv=qy/\n=n'):=λhs=>h.uniq k hs;have aQ:Ext w ((w.alloc (.cells #[.int .i64 lv,.bool bb,.slice a n0 p,.slice ka n cap] 33)).alloc (.cells #[.int .i64 qy,.bool Oz,.slice a' QT p',.slice Aj n' cap'] 33)):=((Ext.refl w).alloc _).alloc _
 by_cases gI:¬lv=qy
 ·have hd:(lv !=qy)=true:=by simpa using gI
  have HR:Hid (tF l r=false):=by
   cases hb:tF l r
   ·rfl
   ·exact absurd (Dy.out (Bc.out.1 hb)).1 gI
  clear h k gI
  go_enter Tryz.func70,Tryz.ntmps70
  go_wp2;go_ret;exact⟨by rw[HR.out];rfl,aQ⟩
 obtain rfl:lv=qy:=Decidable.not_not.1 gI;clear gI
 have hd:(lv !=lv)=false:=by simp
 by_cases hn:¬n=n'
 ·have rM:((n:Int)!=(n':Int))=true:=by simp;omega
  have HR:Hid (tF l r=false):=by
   cases hb:tF l r
   ·rfl
   ·exact absurd (Dy.out (Bc.out.1 hb)).2 hn
  clear h k hn
  go_enter Tryz.func70,Tryz.ntmps70
  go_wp2;go_ret;exact⟨by rw[HR.out];rfl,aQ⟩
 obtain rfl:n=n':=Decidable.not_not.1 hn;clear hn
 have rM:((n:Int)!=(n:Int))=false:=by simp
 by_cases hz:lv=0
 ·subst hz;obtain⟨x,hI,hS,_⟩:=h.Lb;obtain⟨y,hJ,hT,_⟩:=k.Lb
  have HR:Hid (decide (x=y)=tF l r):=by
   show _=_;rw[Bool.eq_iff_iff,Bc.out,decide_eq_true_iff];constructor
   ·rintro rfl;exact hS.symm.trans hT
   ·intro hh;have:=(hS.trans (hh.trans hT.symm)) Mo.zero;simpa[aB]using this
  have HI:=Lib.hid (hI.eH.ext aQ);have HJ:=Lib.hid (hJ.eH.ext aQ);clear h k hI hJ hS hT
  go_enter Tryz.func70,Tryz.ntmps70
  go_wp2_with (fail);refine(qlX _ _ _ _ x y _ HI.out HJ.out).mono ?_;rintro e w1 ⟨rfl,he⟩;go_wp2;go_ret;exact⟨by rw[<-HR.out];rfl,aQ.trans he⟩
 ·obtain⟨D,rfl,jk,uw,_,_,b,off,n1,uj,P,dR,dO,oH,lu,eu,kP,gm,hb,pq,dh,bT,fF,eB,_⟩:=h.GX hz;obtain⟨D',hDD,_,_,_,_,b',off',n1',qra,Q,Vr,Vs,QK,j6,knL,knc,kcm,kb,kMb,QL,QM,Vv,JD,_⟩:=k.GX hz
  have:D'=D:=by omega
  subst this;simp only[Value.slice.injEq]at oH QK;obtain⟨rfl,rfl,rfl⟩:=oH;obtain⟨rfl,rfl,rfl⟩:=QK;clear dR dO Vr Vs;have xq:=Lib.hid dh;have yM:=Lib.hid QL;have qpy:Hid (ae l r->∀i,i<n->ae (P i) (Q i)):=λhs=>qnk jk bT QM (eB.trans (hs.trans JD.symm));have qpd:Hid ((∀i,i<n->ae (P i) (Q i))->ae l r):=λhs=>eB.symm.trans ((sZ _ _ _ _ hs).trans JD);have uu:(0:Int)<=(D':Int):=Int.natCast_nonneg _
  have xS:((D':Int)+1==0)=false:=by simp;omega
  have yJ:=Lib.hid (ih D' (by omega));clear h k dh QL bT QM fF Vv eB JD hz ih hDD;have B0:=(ak.bf w #[.int .i64 ((D':Int)+1),.bool bb,.slice a n0 p,.slice (some ⟨b,off,none⟩) n cap] 33 4 rfl).alloc (.cells #[.int .i64 ((D':Int)+1),.bool Oz,.slice a' QT p',.slice (some ⟨b',off',none⟩) n cap'] 33);have B1:=ak.bf (w.alloc (.cells #[.int .i64 ((D':Int)+1),.bool bb,.slice a n0 p,.slice (some ⟨b,off,none⟩) n cap] 33)) #[.int .i64 ((D':Int)+1),.bool Oz,.slice a' QT p',.slice (some ⟨b',off',none⟩) n cap'] 33 4 rfl;simp only[World.size_alloc]at B1;have gQ:=Lib.hid B0;have cB:=Lib.hid B1;have gB:=Lib.hid aQ;clear B0 B1
  go_enter Tryz.func70,Tryz.ntmps70
  go_wp2
  go_loopw [31] (λi wr=>∃k:Nat,k<=n/\i=.int .i64 k/\Hid (∀i,i<k->ae (P i) (Q i))/\Hid (Ext ((w.alloc (.cells #[.int .i64 ((D':Int)+1),.bool bb,.slice a n0 p,.slice (some ⟨b,off,none⟩) n cap] 33)).alloc (.cells #[.int .i64 ((D':Int)+1),.bool Oz,.slice a' QT p',.slice (some ⟨b',off',none⟩) n cap'] 33)) wr)) (λi _=>n-(intOf i).toNat)
  case atStart=>exact⟨0,Nat.zero_le _,rfl,λi hi=>by omega,Ext.refl _⟩
  case round=>
   obtain⟨k,hk,rfl,HQ,gD⟩:=hrel;have hsz:=gD.out.size;simp only[World.size_alloc]at hsz;have bL:=Lib.hid (gB.out.trans gD.out);have z3:=(gQ.out.ext gD.out).cell (i:=3) (by omega);have z7:=(cB.out.ext gD.out).cell (i:=3) (by omega);simp only[arr]at z3 z7
   have iH:b<wr.heap.size:=by omega
   have qBe:b'<wr.heap.size:=by omega
   have wT:w.heap.size<wr.heap.size:=by omega
   have hw1:w.heap.size+1<wr.heap.size:=by omega
   by_cases hlt:k<n
   ·obtain⟨e0,e1,e2,e3,y0,y1,y2,y3,bR⟩:=xq.out k hlt;obtain⟨f0,f1,f2,f3,u0,u1,u2,u3,Vq⟩:=yM.out k hlt;rw[<-bL.out.cell hb]at y0 y1 y2 y3;rw[<-bL.out.cell kb]at u0 u1 u2 u3;obtain⟨lv1,b1,a1,n1,p1,ka1,kn1,kp1,rfl,rfl,rfl,rfl,_⟩:=bR.form;obtain⟨kS,b2,a2,n2,p2,iU,j6,iV,rfl,rfl,rfl,rfl,_⟩:=Vq.form;have aO:=Lib.hid (yJ.out _ _ _ _ _ _ _ _ _ _ _ _ ((bR.ext bL.out).ext (Ext.refl wr).drew) ((Vq.ext bL.out).ext (Ext.refl wr).drew));have HSK:Hid (tF (P k) (Q k)=true↔ae (P k) (Q k)):=qds bR.nn Vq.nn;clear bR Vq
    have hlt':(k:Int)<(n:Int):=by omega
    have fJ:(0:Int)<=(k:Int):=by omega
    cases Js:tF (P k) (Q k)
    ·rw[Js]at aO;go_wp2
     go_still_tail 10,(by kernel_rfl)
     change wpList _ _ _ _ _ wr.drew;go_wp2_with (fail);refine(aO.out).mono ?_;rintro e w1 ⟨rfl,he⟩;have HF:Hid (Ext w w1):=bL.out.trans (((Ext.refl wr).drew).trans he)
     have HR:Hid (tF l r=false):=by
      cases BS:tF l r
      ·rfl
      ·have:=HSK.out.2 (qpy.out (Bc.out.1 BS) k hlt);rw[Js]at this;cases this
     clear he;go_wp2;go_ret;exact⟨by rw[HR.out];rfl,HF.out⟩
    ·rw[Js]at aO;go_wp2
     go_still_tail 10,(by kernel_rfl)
     change wpList _ _ _ _ _ wr.drew;go_wp2_with (fail);refine(aO.out).mono ?_;rintro e w1 ⟨rfl,he⟩;have HF:Hid (Ext ((w.alloc (.cells #[.int .i64 ((D':Int)+1),.bool bb,.slice a n0 p,.slice (some ⟨b,off,none⟩) n cap] 33)).alloc (.cells #[.int .i64 ((D':Int)+1),.bool Oz,.slice a' QT p',.slice (some ⟨b',off',none⟩) n cap'] 33)) w1):=gD.out.trans (((Ext.refl wr).drew).trans he)
     have oW:Hid (∀i,i<k+1->ae (P i) (Q i)):=λi hi=>if h:i<k then HQ.out i h else by
      have:i=k:=by omega
      subst this;exact HSK.out.1 Js
     clear he;go_wp2
     go_roundw
     case rel=>exact⟨k+1,by omega,by go_num,oW,HF⟩
     case measure=>simp[intOf];omega
   ·have hkn:k=n:=by omega
    subst hkn;have HR:Hid (tF l r=true):=Bc.out.2 (qpd.out HQ.out);go_wp2;go_ret;exact⟨by rw[HR.out];rfl,bL.out⟩
theorem qyy(L:Nat):ZF L:=by
 induction L using Nat.strongRecOn with
 |_ L ih=>exact qyG L λD hD=>ih D hD
def dV(M:Nat->Prop)(w:World)(D:Nat)(v:Value)(N:Nat)(P:Nat->List Tm):Prop:=
 N<=1099511627776/\((v=.slice none 0 0/\N=0)\/∃b off cap,v=.slice (some ⟨b,off,none⟩) N cap/\N<=cap/\cap<=maxLen/\(b<w.heap.size/\¬M b)/\∀i,i<N->uh M w D b (off+i*4) (P i))
section
variable{M M':Nat->Prop}{w w':World}{D:Nat}{v:Value}{N:Nat}{P Q:Nat->List Tm}
theorem uh.kp{b o:Nat}{l:List Tm}(h:uh M w D b o l)(hb:b<w.heap.size)(hM:¬M b)(he:Kp M w w'):uh M w' D b o l:=by
 obtain⟨e0,e1,e2,e3,x0,x1,x2,x3,hc⟩:=h;exact⟨e0,e1,e2,e3,by rw[he.cell hb hM];exact x0,by rw[he.cell hb hM];exact x1,by rw[he.cell hb hM];exact x2,by rw[he.cell hb hM];exact x3,hc.kp he⟩
theorem uh.more{b o:Nat}{l:List Tm}(h:uh M w D b o l)(hm:∀g,M' g->M g\/w.heap.size<=g):uh M' w D b o l:=by
 obtain⟨e0,e1,e2,e3,x0,x1,x2,x3,hc⟩:=h;exact⟨e0,e1,e2,e3,x0,x1,x2,x3,hc.more hm⟩
theorem uh.bZ{b o:Nat}{l r:List Tm}(h:uh M w D b o l)(hs:ae l r):uh M w D b o r:=by
 obtain⟨e0,e1,e2,e3,x0,x1,x2,x3,hc⟩:=h;exact⟨e0,e1,e2,e3,x0,x1,x2,x3,hc.bZ hs⟩
theorem dV.kp(h:dV M w D v N P)(he:Kp M w w'):dV M w' D v N P:=by
 obtain⟨h1,h2⟩:=h;refine⟨h1,?_⟩;rcases h2 with h2|⟨b,off,cap,hv,hn,hc,hb,hk⟩
 ·exact .inl h2
 ·exact .inr ⟨b,off,cap,hv,hn,hc,⟨Nat.lt_of_lt_of_le hb.1 he.1,hb.2⟩,λi hi=>(hk i hi).kp hb.1 hb.2 he⟩
theorem dV.ext(h:dV M w D v N P)(he:Ext w w'):dV M w' D v N P:=h.kp (Kp.jC he)
theorem dV.more(h:dV M w D v N P)(hm:∀g,M' g->M g\/w.heap.size<=g):dV M' w D v N P:=by
 obtain⟨h1,h2⟩:=h;refine⟨h1,?_⟩;rcases h2 with h2|⟨b,off,cap,hv,hn,hc,hb,hk⟩
 ·exact .inl h2
 ·exact .inr ⟨b,off,cap,hv,hn,hc,⟨hb.1,λk=>(hm b k).elim hb.2 (by omega)⟩,λi hi=>(hk i hi).more hm⟩
theorem dV.form(h:dV M w D v N P):∃a cap,v=.slice a N cap:=by
 rcases h.2 with⟨rfl,rfl⟩|⟨b,off,cap,rfl,_⟩
 ·exact⟨_,_,rfl⟩
 ·exact⟨_,_,rfl⟩
theorem dV.at{a:Option Addr}{cap:Nat}(h:dV M w D (.slice a N cap) N P)(i:Nat)(hi:i<N):∃b off,a=some ⟨b,off,none⟩/\N<=cap/\cap<=maxLen/\b<w.heap.size/\¬M b/\uh M w D b (off+i*4) (P i):=by
 rcases h.2 with⟨_,h0⟩|⟨b,off,cap',hv,hn,hc,hb,hk⟩
 ·omega
 ·simp only[Value.slice.injEq,true_and]at hv;obtain⟨rfl,rfl⟩:=hv;exact⟨b,off,rfl,hn,hc,hb.1,hb.2,hk i hi⟩
theorem dV.qcX{g:Nat}(h:Kids M w D g N P)(hg:¬M g)(hN:N<=1099511627776):dV M w D (.slice (some ⟨g,0,none⟩) N N) N P:=by
 refine⟨hN,.inr ⟨g,0,N,rfl,Nat.le_refl _,by unfold maxLen;omega,⟨?_,hg⟩,λi hi=>h.bu (λg hg=>.inl hg) i hi⟩⟩;obtain⟨f,hB,_⟩:=h;exact hB.lt
theorem dV.congr(h:dV M w D v N P)(hs:∀i,i<N->ae (P i) (Q i)):dV M w D v N Q:=by
 obtain⟨h1,h2⟩:=h;refine⟨h1,?_⟩;rcases h2 with h2|⟨b,off,cap,hv,hn,hc,hb,hk⟩
 ·exact .inl h2
 ·exact .inr ⟨b,off,cap,hv,hn,hc,hb,λi hi=>(hk i hi).bZ (hs i hi)⟩
end
theorem MQ{L n N:Nat}{P:Nat->List Tm}(h:n<=N)(hz:∀i,n<=i->i<N->ae (P i) []):ae (aJ L n P) (aJ L N P):=by
 obtain⟨k,rfl⟩:∃k,N=n+k:=⟨N-n,by omega⟩;clear h
 induction k with
 |zero=>exact ae.refl _
 |succ k ih=>
  rw[<-Nat.add_assoc,fK];refine(ih λi h1 h2=>hz i h1 (by omega)).trans ?_;have h1:=((hz (n+k) (by omega) (by omega)).shift (xp L ((n+k:Nat):Int)));have h2:=(ae.refl (aJ L (n+k) P)).append h1.symm;simpa[shift]using h2
theorem qoR(L:Nat):xp L 0=Mo.zero:=by unfold xp Mo.zero;simp
theorem qnm(L:Nat)(P:Nat->List Tm):ae (aJ L 1 P) (P 0):=by
 rw[fK,EO,List.nil_append];show ae (shift (xp L ((0:Nat):Int)) (P 0)) (P 0);rw[show((0:Nat):Int)=0 from rfl,qoR,Rc];exact ae.refl _
theorem qdo(M:Nat->Prop)(D:Nat)(v:Value)(N:Nat)(P:Nat->List Tm)(w:World)(hM:Mb M w)(hD:D+1<=4)(h:dV M w D v N P):
 Calls Tryz.prog 58 #[.int .i64 ((D:Int)+1),v] w (uK M w (D+1) (aJ (D+1) N P)):=by
 obtain⟨a,cap,rfl⟩:=h.form;have HR:=Lib.hid h;have LD:=h.1;have aQ:Ext w (w.alloc (.cells #[.int .i64 0,.bool false,.slice none 0 0,.slice none 0 0] 33)):=(Ext.refl w).alloc _;have bO:=ak.bf w #[.int .i64 0,.bool false,.slice none 0 0,.slice none 0 0] 33 4 rfl;have gB:=Lib.hid aQ;have gQ:=Lib.hid bO;clear h aQ bO
 go_enter Tryz.func58,Tryz.ntmps58
 go_wp2
 go_loopw [5] (λi wr=>∃k:Nat,k<=N/\i=.int .i64 k/\Hid (∀i,k<=i->i<N->ae (P i) [])/\Hid (Ext (w.alloc (.cells #[.int .i64 0,.bool false,.slice none 0 0,.slice none 0 0] 33)) wr)) (λi _=>(intOf i).toNat)
 case atStart=>exact⟨N,Nat.le_refl _,rfl,λi h1 h2=>by omega,Ext.refl _⟩
 case round=>
  obtain⟨k,hk,rfl,HZ,gD⟩:=hrel;have hsz:=gD.out.size;simp only[World.size_alloc]at hsz;have bL:=Lib.hid (gB.out.trans gD.out);have jD:=Lib.hid (gQ.out.ext gD.out);have ou:=Lib.hid ((HR.out.more (M':=Mx M w.heap.size (w.heap.size+1)) (Mx.more (Nat.le_refl _))).ext bL.out)
  by_cases fJ:k=0
  ·subst fJ;obtain⟨⟨q0,q1,q2,q3⟩,⟨f0,f1,f2,f3⟩,⟨r0,r1,r2,r3⟩,HF⟩:=uH (M:=M) (w:=w) jD.out (Mx.at (by omega)) (by omega) bL.out ((CR.zero (Mx M w.heap.size (w.heap.size+1)) wr (D+1)).bZ (MQ (P:=P) (L:=D+1) (Nat.zero_le N) HZ.out)) Mx.sub;simp only[arr]at q0 q1 q2 q3;go_wp2;exact bodyPost_ret (v:=.agg #[.int .i64 0,.bool false,.slice none 0 0,.slice none 0 0]) (by simp[results,Tryz.results58,go_sem,r0,r1,r2,r3]) rfl HF.out
  ·obtain⟨j,rfl⟩:∃j,k=j+1:=⟨k-1,by omega⟩;obtain⟨b,off,rfl,kP,gm,hb,pq,qaR⟩:=ou.out.at j (by omega);obtain⟨e0,e1,e2,e3,y0,y1,y2,y3,bR⟩:=qaR;obtain⟨qy,b',a',n',p',Aj,Cs,EL,rfl,rfl,rfl,rfl,Ev,_⟩:=bR.form
   have hj0:(0:Int)<=(j:Int):=by omega
   have hjN:(j:Int)<(N:Int):=by omega
   have Vl:=bR.QJ;have aS:=He qy b' a' n' p' Aj Cs EL wr;cases EH:mM qy n'
   ·rw[EH]at aS
    have Dq:Hid (¬ae (P j) []):=λhs=>by have:=Vl.2 hs;rw[EH]at this;cases this
    clear bR Vl
    by_cases hj:j=0
    ·subst hj;obtain⟨b2,uF,e5,_,_,_,_,e0,e1,e2,e3,u0,u1,u2,u3,bR⟩:=ou.out.at 0 (by omega);simp only[Option.some.injEq,Addr.mk.injEq,and_true]at e5;obtain⟨rfl,rfl⟩:=e5;rw[Nat.zero_mul,Nat.add_zero]at u0 u1 u2 u3 y0 y1 y2 y3;rw[y0]at u0;rw[y1]at u1;rw[y2]at u2;rw[y3]at u3;cases u0;cases u1;cases u2;cases u3;go_wp2_with (fail);refine aS.mono ?_;rintro e w1 ⟨rfl,af⟩;have qvq:=af.size;rw[<-af.cell hb]at y0 y1 y2 y3;obtain⟨⟨q0,q1,q2,q3⟩,⟨f0,f1,f2,f3⟩,⟨r0,r1,r2,r3⟩,HF⟩:=uH (M:=M) (w:=w) (L:=D+1) (jD.out.ext af) (Mx.at (by omega)) (by omega) (bL.out.trans af) (((bR.ext af).up (show D<=D+1 by omega)).bZ ((qnm (D+1) P).symm.trans (MQ (P:=P) (L:=D+1) (show 1<=N by omega) HZ.out))) Mx.sub;simp only[arr]at q0 q1 q2 q3
     have hb1:b<w1.heap.size:=by omega
     clear bR af aS;go_wp2;exact bodyPost_ret (v:=.agg #[.int .i64 qy,.bool b',.slice a' n' p',.slice Aj Cs EL]) (by simp[results,Tryz.results58,go_sem,r0,r1,r2,r3]) rfl HF.out
    ·have dj:((j:Int)+1==1)=false:=by simp;omega
     have dj0:((j:Int)+1==0)=false:=by simp;omega
     go_wp2_with (fail);refine aS.mono ?_;rintro e w1 ⟨rfl,af⟩
     have vg:CR (Mx M w.heap.size (w.heap.size+1)) w1 (D+1) (.int .i64 ((D:Int)+1)) (.bool false) (.slice none 0 0) (.slice (some ⟨b,off,none⟩) (j+1) (j+1)) (aJ (D+1) N P):=by
      refine CR.bZ (CR.node (D:=D) hD (by omega) (by omega) (Nat.le_refl _) (by unfold maxLen;omega) (by have:=af.size;omega) pq (λi hi=>?_) ?_) (MQ (P:=P) hk HZ.out)
      ·obtain⟨b2,uF,e5,_,_,gX,eG,qaR⟩:=ou.out.at i (by omega);simp only[Option.some.injEq,Addr.mk.injEq,and_true]at e5;obtain⟨rfl,rfl⟩:=e5;exact qaR.kp gX eG (Kp.jC af)
      ·exact Dq.out
     obtain⟨⟨q0,q1,q2,q3⟩,⟨f0,f1,f2,f3⟩,⟨r0,r1,r2,r3⟩,HF⟩:=uH (M:=M) (w:=w) (jD.out.ext af) (Mx.at (by omega)) (by omega) (bL.out.trans af) vg Mx.sub;simp only[arr]at q0 q1 q2 q3;clear af aS vg;go_wp2;exact bodyPost_ret (v:=.agg #[.int .i64 ((D:Int)+1),.bool false,.slice none 0 0,.slice (some ⟨b,off,none⟩) (j+1) (j+1)]) (by simp[results,Tryz.results58,go_sem,r0,r1,r2,r3]) rfl HF.out
   ·rw[EH]at aS
    have HZ2:Hid (∀i,j<=i->i<N->ae (P i) []):=λi h1 h2=>if h:i=j then by subst h;exact Vl.1 EH else HZ.out i (by omega) h2
    clear bR Vl;go_wp2_with (fail);refine aS.mono ?_;rintro e w1 ⟨rfl,af⟩;have aU:=Lib.hid (gD.out.trans af);clear af aS;go_wp2
    go_roundw
    case rel=>exact⟨j,by omega,rfl,HZ2,aU⟩
    case measure=>simp[intOf]
structure PE where
 lv:Int
 b:Bool
 a:Option Addr
 n:Nat
 p:Nat
 ka:Option Addr
 kn:Nat
 kp:Nat
def PE.z:PE:=⟨0,false,none,0,0,none,0,0⟩
abbrev ah(x:PE):Array Value:= #[.int .i64 x.lv,.bool x.b,.slice x.a x.n x.p,.slice x.ka x.kn x.kp]
def aI(M:Nat->Prop)(w:World)(D:Nat)(x:PE)(l:List Tm):Prop:=CR M w D (.int .i64 x.lv) (.bool x.b) (.slice x.a x.n x.p) (.slice x.ka x.kn x.kp) l
def px(x:Nat->PE):Nat->Value:=λj=>if j%4=0 then .int .i64 (x (j/4)).lv else if j%4=1 then .bool (x (j/4)).b else if j%4=2 then .slice (x (j/4)).a (x (j/4)).n (x (j/4)).p else .slice (x (j/4)).ka (x (j/4)).kn (x (j/4)).kp
theorem JQ(x:Nat->PE)(i:Nat):px x (i*4)=.int .i64 (x i).lv:=by unfold px;rw[if_pos (by omega),show i*4/4=i by omega]
theorem JR(x:Nat->PE)(i:Nat):px x (i*4+1)=.bool (x i).b:=by unfold px;rw[if_neg (by omega),if_pos (by omega),show(i*4+1)/4=i by omega]
theorem JS(x:Nat->PE)(i:Nat):px x (i*4+2)=.slice (x i).a (x i).n (x i).p:=by unfold px;rw[if_neg (by omega),if_neg (by omega),if_pos (by omega),show(i*4+2)/4=i by omega]
theorem JU(x:Nat->PE)(i:Nat):px x (i*4+3)=.slice (x i).ka (x i).kn (x i).kp:=by unfold px;rw[if_neg (by omega),if_neg (by omega),if_neg (by omega),show(i*4+3)/4=i by omega]
def snoc{α:Type}(x:Nat->α)(n:Nat)(t:α):Nat->α:=λi=>if i=n then t else x i
theorem tH{α:Type}(x:Nat->α)(n:Nat)(t:α):snoc x n t n=t:=by unfold snoc;rw[if_pos rfl]
theorem yA{α:Type}(x:Nat->α)(n:Nat)(t:α)(i:Nat)(h:i<n):snoc x n t i=x i:=by unfold snoc;rw[if_neg (by omega)]
theorem Ra(x:Nat->PE)(n:Nat)(t:PE)(j:Nat)(hj:j<(n+1)*4):app (px x) (n*4) (arr (ah t)) j=px (snoc x n t) j:=by
 unfold app
 by_cases h:j<n*4
 ·rw[if_pos h];unfold px;rw[yA _ _ _ _ (by omega)]
 ·rw[if_neg h];obtain⟨r,rfl,hr⟩:∃r,j=n*4+r/\r<4:=⟨j-n*4,by omega,by omega⟩;rw[Nat.add_sub_cancel_left]
  match r,hr with
  |0,_=>rw[Nat.add_zero,JQ,tH];rfl
  |1,_=>rw[JR,tH];rfl
  |2,_=>rw[JS,tH];rfl
  |3,_=>rw[JU,tH];rfl
theorem Q5(x:PE)(j:Nat)(hj:j<4):(arr (ah x) j).oneCell'=true:=by
 match j,hj with
 |0,_=>rfl
 |1,_=>rfl
 |2,_=>rfl
 |3,_=>rfl
section
variable{M M':Nat->Prop}{w w':World}{D:Nat}{x:PE}{l r:List Tm}
theorem aI.kp(h:aI M w D x l)(he:Kp M w w'):aI M w' D x l:=CR.kp h he
theorem aI.ext(h:aI M w D x l)(he:Ext w w'):aI M w' D x l:=CR.ext h he
theorem aI.more(h:aI M w D x l)(hm:∀g,M' g->M g\/w.heap.size<=g):aI M' w D x l:=CR.more h hm
theorem CR.pe{c0 c1 c2 c3:Value}(h:CR M w D c0 c1 c2 c3 l):∃x:PE,c0=.int .i64 x.lv/\c1=.bool x.b/\c2=.slice x.a x.n x.p/\c3=.slice x.ka x.kn x.kp/\aI M w D x l/\0<=x.lv/\x.lv<=D/\x.lv<=4:=by
 obtain⟨lv,b,a,n,p,ka,kn,kp,rfl,rfl,rfl,rfl,h1,h2,h3⟩:=h.form;exact⟨⟨lv,b,a,n,p,ka,kn,kp⟩,rfl,rfl,rfl,rfl,h,h1,h2,h3⟩
end
def eX(w:World)(b o:Nat)(x:PE):Prop:=w.cell? ⟨b,o,none⟩=some (.int .i64 x.lv)/\w.cell? ⟨b,o+1,none⟩=some (.bool x.b)/\w.cell? ⟨b,o+2,none⟩=some (.slice x.a x.n x.p)/\w.cell? ⟨b,o+3,none⟩=some (.slice x.ka x.kn x.kp)
theorem eX.ext{w w':World}{b o:Nat}{x:PE}(h:eX w b o x)(hb:b<w.heap.size)(he:Ext w w'):eX w' b o x:=by
 unfold eX;rw[he.cell hb,he.cell hb,he.cell hb,he.cell hb];exact h
theorem dV.x{M:Nat->Prop}{w:World}{D:Nat}{a:Option Addr}{N cap:Nat}{P:Nat->List Tm}(h:dV M w D (.slice a N cap) N P):∃x:Nat->PE,∀i,i<N->(∃b off,a=some ⟨b,off,none⟩/\N<=cap/\cap<=maxLen/\b<w.heap.size/\¬M b/\eX w b (off+i*4) (x i))/\aI M w D (x i) (P i)/\0<=(x i).lv/\(x i).lv<=D/\(x i).lv<=4:=by
 refine pick PE.z (n:=N) (Q:=λi x=>(∃b off,a=some ⟨b,off,none⟩/\N<=cap/\cap<=maxLen/\b<w.heap.size/\¬M b/\eX w b (off+i*4) x)/\aI M w D x (P i)/\0<=x.lv/\x.lv<=D/\x.lv<=4) λi hi=>?_;obtain⟨b,off,rfl,h1,h2,h3,h4,e0,e1,e2,e3,y0,y1,y2,y3,hc⟩:=h.at i hi;obtain⟨x,rfl,rfl,rfl,rfl,hx,h5⟩:=hc.pe;exact⟨x,⟨b,off,rfl,h1,h2,h3,h4,y0,y1,y2,y3⟩,hx,h5⟩
theorem Own.toK{M:Nat->Prop}{base:Nat}{w:World}{D:Nat}{v:Value}{c:Nat}{x:Nat->PE}{S:Nat->List Tm}(h:Own w base 33 4 v c (px x))(hS:∀i,i<c->aI M w D (x i) (S i))(hM:∀g,base<=g->¬M g)(hc:c<=1099511627776):dV M w D v c S:=by
 refine⟨hc,?_⟩;rcases h with⟨rfl,rfl⟩|⟨g,cap,F,rfl,hg,hB,fD,gm,hF⟩
 ·exact .inl ⟨rfl,rfl⟩
 ·refine .inr ⟨g,0,cap,rfl,fD,gm,⟨hB.lt,hM g hg⟩,λi hi=>?_⟩;rw[Nat.zero_add];refine⟨_,_,_,_,?_,?_,?_,?_,hS i hi⟩
  ·rw[hB.cell (by omega),hF _ (by omega),JQ]
  ·rw[hB.cell (by omega),hF _ (by omega),JR]
  ·rw[hB.cell (by omega),hF _ (by omega),JS]
  ·rw[hB.cell (by omega),hF _ (by omega),JU]
def bB(N:Nat)(P:Nat->List Tm):List Tm:=(List.range N).flatMap P
theorem qnz(P:Nat->List Tm):bB 0 P=[]:=rfl
theorem kr(N:Nat)(P:Nat->List Tm):bB (N+1) P=bB N P++P N:=by
 unfold bB;rw[List.range_succ,List.flatMap_append];simp
theorem qnw{N:Nat}{P Q:Nat->List Tm}(h:∀i,i<N->P i=Q i):bB N P=bB N Q:=by
 induction N with
 |zero=>rfl
 |succ N ih=>rw[kr,kr,ih λi hi=>h i (by omega),h N (by omega)]
theorem JP{N:Nat}{P Q:Nat->List Tm}(h:∀i,i<N->ae (P i) (Q i)):ae (bB N P) (bB N Q):=by
 induction N with
 |zero=>exact ae.refl _
 |succ N ih=>rw[kr,kr];exact(ih λi hi=>h i (by omega)).append (h N (by omega))
theorem qnx{N:Nat}{P Q:Nat->List Tm}(h:∀i,i<N->aC (P i)<=aC (Q i)):aC (bB N P)<=aC (bB N Q):=by
 induction N with
 |zero=>exact Nat.le_refl _
 |succ N ih=>rw[kr,kr,kT,kT];have:=ih λi hi=>h i (by omega);have:=h N (by omega);omega
theorem qdd(N:Nat)(P:Nat->List Tm)(l:List Tm):bB (N+1) (snoc P N l)=bB N P++l:=by
 rw[kr,tH,qnw λi hi=>yA P N l i hi]
theorem qrA(N:Nat)(P:Nat->List Tm)(m:Mo):aB (bB (N+1) P) m=aB (bB N P) m+aB (P N) m:=by rw[kr,gW]
theorem qxO(L n N:Nat)(R:Nat->Nat->List Tm):ae (aJ L n λe=>bB N (R e)) (bB N λi=>aJ L n λe=>R e i):=by
 induction N with
 |zero=>
  have:∀n,aJ L n (λe=>bB 0 (R e))=[]:=by
   intro n
   induction n with
   |zero=>rfl
   |succ n ih=>rw[fK,ih];rfl
  rw[this];exact ae.refl _
 |succ N ih=>
  rw[kr];refine ae.trans ?_ (ih.append (ae.refl _));clear ih
  induction n with
  |zero=>exact ae.refl _
  |succ n ih=>
   rw[fK,fK,fK,kr,V8];intro m;have:=ih m;simp only[gW]at this⊢;omega
theorem qxW(z:Nat->Int)(N:Nat):ae [(AB z N,Mo.zero)] (bB N λi=>[(z i,Mo.zero)]):=by
 induction N with
 |zero=>intro m;simp[bB,aB,AB]
 |succ N ih=>
  intro m;have:=ih m;rw[qrA, <-this];simp only[aB,AB]
  split<;>omega
theorem qAx(z:Nat->Int)(N:Nat)(P:Nat->List Tm)(h:∀i,i<N->(z i).natAbs<=aC (P i)):yE z N<=aC (bB N P):=by
 induction N with
 |zero=>exact Nat.zero_le _
 |succ N ih=>rw[kr,kT];have:=ih λi hi=>h i (by omega);have:=h N (by omega);simp only[yE];omega
def jq(x:Nat->PE):Nat->Int
 |0=>0
 |k+1=>if jq x k<(x k).lv then(x k).lv else jq x k
def jB(x:Nat->PE):Nat->Nat
 |0=>0
 |k+1=>if jq x k<(x k).lv then(x k).kn else if(x k).lv=jq x k then(if jB x k<(x k).kn then(x k).kn else jB x k)else jB x k
theorem qwM(x:Nat->PE)(k:Nat):0<=jq x k:=by
 induction k with
 |zero=>exact Int.le_refl _
 |succ k ih=>unfold jq;split<;>omega
theorem qcL(x:Nat->PE)(k i:Nat)(h:i<k):(x i).lv<=jq x k:=by
 induction k with
 |zero=>omega
 |succ k ih=>
  unfold jq
  by_cases hi:i=k
  ·subst hi;split<;>omega
  ·have:=ih (by omega);split<;>omega
theorem qmq(x:Nat->PE)(k:Nat)(B:Int)(hB:0<=B)(h:∀i,i<k->(x i).lv<=B):jq x k<=B:=by
 induction k with
 |zero=>exact hB
 |succ k ih=>unfold jq;have:=ih λi hi=>h i (by omega);have:=h k (by omega);split<;>omega
theorem qwN(x:Nat->PE)(k i:Nat)(h:i<k)(he:(x i).lv=jq x k):(x i).kn<=jB x k:=by
 induction k with
 |zero=>omega
 |succ k ih=>
  unfold jB;unfold jq at he
  by_cases hi:i=k
  ·subst hi
   by_cases h1:jq x i<(x i).lv
   ·rw[if_pos h1];exact Nat.le_refl _
   ·rw[if_neg h1]at he⊢;rw[if_pos he];split<;>omega
  ·have:=qcL x k i (by omega)
   by_cases h1:jq x k<(x k).lv
   ·rw[if_pos h1]at he;omega
   ·rw[if_neg h1]at he⊢;have:=ih (by omega) he
    split
    ·split<;>omega
    ·exact this
theorem qmr(x:Nat->PE)(k B:Nat)(h:∀i,i<k->(x i).kn<=B):jB x k<=B:=by
 induction k with
 |zero=>exact Nat.zero_le _
 |succ k ih=>
  unfold jB;have:=ih λi hi=>h i (by omega);have:=h k (by omega)
  split
  ·omega
  ·split
   ·split<;>omega
   ·omega
theorem aI.Vu{M:Nat->Prop}{w:World}{D:Nat}{x:PE}{l:List Tm}(h:aI M w D x l):x.kn<=1099511627776:=by
 obtain⟨t,h1,_⟩:=h;obtain⟨_,_,_,ka,kp,e⟩:=h1.form;simp only[Value.slice.injEq]at e;rw[e.2.1];exact h1.2.2.2.1
end Go.Proofs.YtmcfpnmoklnhoaaGreat
