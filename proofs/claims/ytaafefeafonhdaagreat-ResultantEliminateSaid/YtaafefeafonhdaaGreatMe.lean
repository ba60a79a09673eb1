/- Me -/
import Derived.Test.YtaafefeafonhdaaGreatMd
import Derived.StillTailTactics
set_option linter.unusedVariables false
set_option maxRecDepth 100000
set_option maxHeartbeats 400000000
set_option linter.unusedSimpArgs false
namespace Go.Proofs.YtaafefeafonhdaaGreat
open Go.RowKit
theorem Tryz.xU:(Tryz.prog.info? 42).map (λi=>(i.zero,i.size,i.bytes))=some (some (.agg #[.int .i64 0,.bool false,.slice none 0 0,.slice none 0 0]),4,64):=by kernel_rfl
theorem quD{j:Nat}{l:List Tm}{m:Mo}(h:∀t∈l,∀k,j<k->k<=4->t.2.get k=m.get k):aH (lW j l) (qA j m)=aH l m:=by
 induction l with
 |nil=>rfl
 |cons t l ih=>
  have e1:=ih λu hu=>h u (List.mem_cons_of_mem _ hu)
  have e2:qA j t.2=qA j m↔t.2=m:=by
   constructor
   ·intro hc;refine Mo.ext_get λk h1 h4=>?_
    by_cases hk:k<=j
    ·have:=congrArg (λq=>Mo.get q k) hc;simp only[J4,av hk]at this;exact this
    ·exact h t List.mem_cons_self k (by omega) h4
   ·intro hc;rw[hc]
  show(if qA j t.2=qA j m then t.1 else 0)+aH (lW j l) (qA j m)=(if t.2=m then t.1 else 0)+aH l m;rw[e1]
  by_cases hm:t.2=m
  ·rw[av hm,av (e2.2 hm)]
  ·rw[aj hm,aj (λq=>hm (e2.1 q))]
theorem quF(L:Nat)(e:Int)(l:List Tm)(m:Mo)(hm:m.get L=e):aH (rq L e l) m=aH l m:=by
 induction l with
 |nil=>rfl
 |cons t l ih=>
  unfold rq at ih⊢;rw[List.filter_cons]
  by_cases ht:t.2.get L=e
  ·rw[av (by simpa using ht)];show(if t.2=m then t.1 else 0)+_=(if t.2=m then t.1 else 0)+_;rw[ih]
  ·rw[aj (by simpa using ht),ih];show _=(if t.2=m then t.1 else 0)+_;rw[aj (λq=>ht (by rw[q];exact hm))];simp
theorem quE{n:Nat}{z:Nat->Int}{x:Nat->TE}(h:Canon (bU n z x))(h0:0<n):aH (bU n z x) (x 0).m=z 0/\z 0≠0:=by
 have e:=Yv 1 n z x (by omega);have e1:bU 1 z x=[(z 0,(x 0).m)]:=rfl;rw[e1]at e;rw[e]at h⊢;exact⟨Canon.EE (t:=(z 0,(x 0).m)) h,(h.2 (z 0,(x 0).m) List.mem_cons_self).1⟩
theorem Ed(i:Nat):arr (Value.agg #[.int .i64 0,.bool false,.slice none 0 0,.slice none 0 0]).cells (i%4)=fH i:=by
 have h:=Nat.mod_lt i (show 4>0 by omega);unfold fH;generalize i%4=k at*
 match k,h with
 |0,_=>rfl
 |1,_=>rfl
 |2,_=>rfl
 |3,_=>rfl
theorem qt3(L:Nat)(vT:L<=4)(ih:∀D,D<L->YA D):YA L:=by
 intro M v n z x w hM hX hI hC hA hE;obtain⟨va,vc,rfl⟩:=hX.form;obtain⟨i0,hi,hz0,hz1,hz2⟩:=info_parts Tryz.xU;have dY:=hX.1;have HI:=ae hI;have HC:=ae hC;have HA:=ae hA;have HE:=ae hE;have HX:=ae hX;have kG:Mb (Mx M w.heap.size (w.heap.size+1)) (w.alloc (.cells #[.int .i64 0,.bool false,.slice none 0 0,.slice none 0 0] 42)):=Mx.mb hM (by simp) (by simp);have qU:=ae kG;clear hI hC hA hE hX kG;have nO:=au.aO w #[.int .i64 0,.bool false,.slice none 0 0,.slice none 0 0] 42 4 rfl;have CW:Ext w (w.alloc (.cells #[.int .i64 0,.bool false,.slice none 0 0,.slice none 0 0] 42)):=(ai w).alloc _;have iO:=ae nO;have iP:=ae CW;clear nO CW
 by_cases h0:n=0
 ·subst h0
  go_enter Tryz.func42,Tryz.ntmps42
  go_wp2;refine aV (v:=.agg #[.int .i64 0,.bool false,.slice none 0 0,.slice none 0 0]) (by simp[results,Tryz.results42,go_sem]) rfl ⟨_,_,_,_,rfl,?_,?_⟩
  ·exact CR.zero _ _ _
  ·exact iP.out
 ·have t0:((n:Int)==0)=false:=by simp;omega
  obtain⟨b,off,rfl,jG,eu,hb,x0,x1,x2,x3,x4,x5⟩:=HX.out.at 0 (by omega);rw[Nat.zero_mul,Nat.add_zero]at x0 x1 x2 x3 x4 x5;have wZ:=ae (qe5 x2 x3 x4 x5);have hL0:(0:Int)<=(L:Int):=jE _
  have hL5:(L:Int)<=4:=by omega
  go_enter Tryz.func42,Tryz.ntmps42
  go_wp2
  go_loopw [1] (λi wr=>∃lv:Nat,lv<=L/\i=.int .i64 lv/\Hid (Agree lv (bU n z x))/\Hid (lW lv (bU n z x)=lW L (bU n z x))/\w.alloc (.cells #[.int .i64 0,.bool false,.slice none 0 0,.slice none 0 0] 42)=wr) (λi _=>(intOf i).toNat)
  case atStart=>exact⟨L,aA _,rfl,HA,rfl,rfl⟩
  case round=>
   obtain⟨lv,iH,rfl,nu,o9,rfl⟩:=hrel
   by_cases hl0:lv=0
   ·subst hl0
    have HN:Hid (n=1):=by
     rcases Nat.lt_or_ge 1 n with jT|hle
     ·exfalso;have h1:=qjo HC.out (i:=0) (j:=1) (by omega) jT;refine Mo.Ii h1 (Mo.ext_get λk hk rA=>nu.out _ (BB jT) _ (BB (by omega)) k (by omega) rA)
     ·show _=_;omega
    have HF:Hid (CR M w L (.int .i64 0) (.bool (x 0).b) (.slice (x 0).a (x 0).n (x 0).p) (.slice none 0 0) (lW L (bU n z x))):=by
     refine(CR.const (HI.out 0 (by omega)) L).bP ?_;rw[<-o9.out,HN.out];have:qA 0 (x 0).m=Mo.zero:=rfl;simp[lW,bU,this,af.refl]
    go_wp2;refine aV (v:=.agg #[.int .i64 0,.bool (x 0).b,.slice (x 0).a (x 0).n (x 0).p,.slice none 0 0]) (by simp[results,Tryz.results42,go_sem]) rfl ⟨_,_,_,_,rfl,?_,?_⟩
    ·exact HF.out.ext ((ai w).alloc _)
    ·exact(ai w).alloc _
   ·obtain⟨j,rfl⟩:∃j,lv=j+1:=⟨lv-1,by omega⟩
    have AR:j<4:=by omega
    have lj0:(0:Int)<=(j:Int):=jE _
    have lj1:(j:Int)<4:=by omega
    have y0:=wZ.out j AR
    by_cases oZ:(x 0).m.get (j+1)=0
    ·rw[oZ]at y0
     have HZ:Hid (∀t∈bU n z x,t.2.get (j+1)=0):=by
      intro t ht;obtain⟨i,Wv,rfl⟩:=IM ht;have h1:=Q3 HC.out nu.out (by omega) (by omega) (bu i) Wv;have h2:=Bt (HC.out.2 _ (BB Wv)).2 (j+1);simp only at h2⊢;omega
     have FO:Hid (Agree j (bU n z x)):=nu.out.next λs hs t ht=>by rw[HZ.out s hs,HZ.out t ht]
     have zO:Hid (lW j (bU n z x)=lW L (bU n z x)):=(quS (L:=j+1) (by omega) (by omega) HZ.out).trans o9.out;clear oZ;go_wp2
     go_roundw
     case rel=>exact⟨j,by omega,rfl,FO,zO,by first|rfl|trivial⟩
     case measure=>simp[intOf]
    ·have qod:((x 0).m.get (j+1)==0)=false:=by simpa using oZ
     obtain⟨E,aL⟩:∃E:Nat,(x 0).m.get (j+1)=E:=⟨((x 0).m.get (j+1)).toNat,by have:=Bt (HC.out.2 _ (BB (show 0<n by omega))).2 (j+1);simp only at this;omega⟩;have dC:=ae aL;rw[aL]at y0 qod
     have Nu:(E:Int)<=1073741824:=by rw[<-aL];exact HE.out 0 (by omega) _
     clear oZ aL;have dE:decide (1073741824<(E:Int))=false:=decide_eq_false (by omega)
     go_wp2_with (first|(refine wpList_make_full _ rfl _ _ _ rfl (w.heap.size+1) 42 i0 (.agg #[.int .i64 0,.bool false,.slice none 0 0,.slice none 0 0]) 4 Tryz.underlying34 hi hz0 hz1 .i64 .i64 _ _ (E+1) rfl rfl ?c4 ?c5 ?c2 ?c3 ?c6 ?_))
     case c2=>rw[hz2];omega
     case c3=>unfold maxLen;omega
     case c4=>simp
     case c5=>simp
     case c6=>simp
     intro w1 hown hgrow
     try simp only[World.size_alloc]at hown
     have bR:=(au.made hown rfl (by omega)).congr (f':=fH) (by
      intro i _
      exact Ed i)
     have ah:=mE hgrow;clear hown hgrow;have bS:Hid (au w1 w.heap.size 42 4 (arr #[.int .i64 0,.bool false,.slice none 0 0,.slice none 0 0])):=iO.out.ext ah;have az:Ext w w1:=iP.out.trans ah
     have dI:w.heap.size+2<=w1.heap.size:=by have:=bR.lt;omega
     have hKf:Kids (Mx M w.heap.size (w.heap.size+2)) w1 j (w.heap.size+1) (E+1) (λ_=>[]):=Kids.fresh (by simpa using bR);have l6:=ae hKf;clear hKf bR ah;go_wp2
     go_loopw [6] (λi wr=>∃s:Nat,s<=n/\i=.int .i64 s/\w.heap.size+2<=wr.heap.size/\Hid (Kids (Mx M w.heap.size (w.heap.size+2)) wr j (w.heap.size+1) (E+1) (λi=>lW j (rq (j+1) (i:Int) (bU s z x))))/\Hid (∀i k,i<s->s<=k->k<n->(x k).m.get (j+1)≠(x i).m.get (j+1))/\Hid (Ext w wr)/\Hid (au wr w.heap.size 42 4 (arr #[.int .i64 0,.bool false,.slice none 0 0,.slice none 0 0]))) (λi _=>n-(intOf i).toNat)
     case atStart=>exact⟨0,bu _,rfl,dI,l6.out,λi k h=>by omega,az,bS⟩
     case round=>
      clear l6 dI az bS;obtain⟨s,hs,rfl,hsz,HK,qie,bM,uz⟩:=hrel
      by_cases hlt:s<n
      ·obtain⟨bb,oo,e1,_,_,_,z0,z1,z2,z3,z4,z5⟩:=HX.out.at s hlt;simp only[Option.some.injEq,Addr.mk.injEq,and_true]at e1;obtain⟨rfl,rfl⟩:=e1;have zj:=qe5 z2 z3 z4 z5 j AR;rw[<-bM.out.cell hb]at zj
       have gD:b<wr.heap.size:=by omega
       obtain⟨e,wu⟩:∃e:Nat,(x s).m.get (j+1)=e:=⟨((x s).m.get (j+1)).toNat,by have:=Bt (HC.out.2 _ (BB hlt)).2 (j+1);simp only at this;omega⟩;have aP:=ae wu;rw[wu]at zj
       have heE:e<=E:=by have:=Q3 HC.out nu.out (by omega) (by omega) (bu s) hlt;rw[wu,dC.out]at this;omega
       clear wu z0 z1 z2 z3 z4 z5;go_wp2;obtain⟨wo,rfl⟩:∃wo:World,wo=wr:=⟨_,rfl⟩
       go_loopw [8] (λi wq=>∃q:Nat,s<=q/\q<=n/\i=.int .i64 q/\Hid (∀k,s<=k->k<q->(x k).m.get (j+1)=e)/\wo=wq) (λi _=>n-(intOf i).toNat)
       case atStart=>exact⟨s,aA _,hs,rfl,λk h1 h2=>by omega,rfl⟩
       case round=>
        obtain⟨q,hq1,hq2,rfl,HQ,rfl⟩:=hrel
        have qy4:(q<n/\(x q).m.get (j+1)=e)\/(q<n/\(x q).m.get (j+1)≠e)\/q=n:=by omega
        have RB:q<n->wo.cell? ⟨b,off+q*6+2+j,none⟩=some (.int .i64 ((x q).m.get (j+1))):=by
         intro KU;obtain⟨bb,oo,e1,_,_,_,z0,z1,z2,z3,z4,z5⟩:=HX.out.at q KU;simp only[Option.some.injEq,Addr.mk.injEq,and_true]at e1;obtain⟨rfl,rfl⟩:=e1;rw[bM.out.cell hb];exact qe5 z2 z3 z4 z5 j AR
        rcases qy4 with⟨KU,heq⟩|WU
        ·have zq:=RB KU;rw[heq]at zq
         have HQ1:Hid (∀k,s<=k->k<q+1->(x k).m.get (j+1)=e):=λk h1 h2=>if hk:k<q then HQ.out k h1 hk else by
          have:k=q:=by omega
          subst this;exact heq
         clear RB heq;go_wp2
         go_roundw
         case rel=>exact⟨q+1,by omega,by omega,by go_num,HQ1,by first|rfl|trivial⟩
         case measure=>simp[intOf];omega
        ·have H6:s<q:=by
          rcases Nat.lt_or_ge s q with h|h
          ·exact h
          ·have:q=s:=by omega
           subst this;rcases WU with⟨_,h⟩|h
           ·exact absurd aP.out h
           ·omega
         have HQE:Hid (q<n->(x q).m.get (j+1)≠e):=λh=>by rcases WU with⟨_,h⟩|h;exact h;omega
         have F5:=ae (lI.ext ((HX.out.sub s q hq1 hq2).more (M':=Mx M w.heap.size (w.heap.size+2)) (Mx.more (aA _))) bM.out);have Jl:Hid (∀i,i<q-s->dH (Mx M w.heap.size (w.heap.size+2)) wo (.bool (x (s+i)).b) (.slice (x (s+i)).a (x (s+i)).n (x (s+i)).p) (z (s+i))):=λi hi=>((HI.out (s+i) (by omega)).more (Mx.more (aA _))).ext bM.out;have HMO:Hid (Mb (Mx M w.heap.size (w.heap.size+2)) wo):=Mx.mb hM bM.out.size hsz
         have HAG:Hid (Agree j (bU (q-s) (λi=>z (s+i)) (λi=>x (s+i)))):=by
          refine Agree.next (L:=j+1) (nu.out.sub λt ht=>?_) λt1 Dx t2 Ot=>?_
          ·obtain⟨i,KF,rfl⟩:=IM ht;exact BB (i:=s+i) (by omega)
          ·obtain⟨i1,h1,rfl⟩:=IM Dx;obtain⟨i2,h2,rfl⟩:=IM Ot;simp only;rw[HQ.out _ (by omega) (by omega),HQ.out _ (by omega) (by omega)]
         have hbq:∀hh:Prop,hh->hh:=λ_ h=>h;have RD:=ih j (by omega) _ _ _ _ _ _ HMO.out F5.out Jl.out (HC.out.sub s q hq1 hq2) HAG.out (λi hi k=>HE.out (s+i) (by omega) k);have aJ:=ae RD;clear RD hbq
         have HGR:Hid (∀i,i<E+1->af (if i=e then lW j (bU (q-s) (λi=>z (s+i)) (λi=>x (s+i)))else lW j (rq (j+1) (i:Int) (bU s z x))) (lW j (rq (j+1) (i:Int) (bU q z x)))):=by
          intro i _;rw[Yv s q z x hq1,qwJ]
          by_cases hie:i=e
          ·subst hie;rw[av rfl,qks (l:=bU s z x),qwK,List.nil_append]
           ·exact af.refl _
           ·intro t ht;obtain⟨i1,h1,rfl⟩:=IM ht;exact HQ.out _ (by omega) (by omega)
           ·intro t ht;obtain⟨i1,h1,rfl⟩:=IM ht;have:=qie.out i1 s h1 (aA _) hlt;rw[aP.out]at this;exactλq=>this q.symm
          ·rw[aj hie,qks (l:=bU (q-s) _ _),List.append_nil]
           ·exact af.refl _
           ·intro t ht;obtain⟨i1,h1,rfl⟩:=IM ht;simp only;rw[HQ.out _ (by omega) (by omega)];omega
         have qtl:Hid (∀i k,i<q->q<=k->k<n->(x k).m.get (j+1)≠(x i).m.get (j+1)):=by
          intro i k h1 h2 h3
          by_cases his:i<s
          ·exact qie.out i k his (by omega) h3
          ·rw[HQ.out i (by omega) h1];have g1:=Q3 HC.out nu.out (by omega) (by omega) h2 h3;have g2:=Q3 HC.out nu.out (by omega) (by omega) hq1 (show q<n by omega);have g3:=HQE.out (by omega);rw[aP.out]at g2;omega
         have hdec:(decide (q<n)=true/\q<n/\((x q).m.get (j+1)==(e:Int))=false)\/(decide (q<n)=false/\¬q<n):=by
          rcases WU with⟨h1,h2⟩|h1
          ·exact .inl ⟨decide_eq_true h1,h1,by simpa using h2⟩
          ·exact .inr ⟨decide_eq_false (by omega),by omega⟩
         clear WU;rcases hdec with⟨dq,KU,hne⟩|⟨dq,KU⟩
         all_goals
          try have zq:=RB KU
          clear RB;go_wp2_with (fail);refine(aJ.out).mono ?_;rintro e2 w4 ⟨c0,c1,c2,c3,rfl,bW,bg⟩;obtain⟨pU,b',a',n',p',ka,kn,kp,rfl,rfl,rfl,rfl,_⟩:=bW.form;have fJ:=HK.out.ext bg;obtain⟨⟨_,k0⟩,⟨_,k1⟩,⟨_,k2⟩,⟨_,k3⟩,bn,jh⟩:=fJ.at e (by omega);have jw:=bn (e*4);have ku:=bn (e*4+1);have kv:=bn (e*4+2);have oU:=bn (e*4+3)
          have xN:(e:Int)<(E:Int)+1:=by omega
          have nD:=ae ((fJ.set (Mx.at (by omega)) e (by omega) bW).congr HGR.out);have cZ:Hid (Ext w (aD w4 (w.heap.size+1) (e*4) (.int .i64 pU) (.bool b') (.slice a' n' p') (.slice ka kn kp))):=(bM.out.trans bg).aD (by omega) _ _ _ _ _;have mM:Hid (au (aD w4 (w.heap.size+1) (e*4) (.int .i64 pU) (.bool b') (.slice a' n' p') (.slice ka kn kp)) w.heap.size 42 4 (arr #[.int .i64 0,.bool false,.slice none 0 0,.slice none 0 0])):=(uz.out.ext bg).of_heap (fD _ _ _ _ _ _ _ _ (by omega))
          have sH:w.heap.size+2<=(aD w4 (w.heap.size+1) (e*4) (.int .i64 pU) (.bool b') (.slice a' n' p') (.slice ka kn kp)).heap.size:=by rw[kN];have:=bg.size;omega
          have uG:=ae sH;clear fJ bn bW bg sH;go_wp2
          go_roundw
          case rel=>exact⟨q,hq2,rfl,uG.out,nD,qtl,cZ,mM⟩
          case measure=>simp[intOf];omega
      ·have Fj:s=n:=by omega
       subst Fj;obtain⟨⟨q0,q1,q2,q3⟩,⟨f0,f1,f2,f3⟩,⟨r0,r1,r2,r3⟩,hk,hf⟩:=Ah (M':=Mx M w.heap.size (w.heap.size+2)) (w:=w) (.int .i64 ((j:Int)+1)) (.bool false) (.slice none 0 0) (.slice (some ⟨w.heap.size+1,0,none⟩) (E+1) (E+1)) uz.out (Mx.at (by omega)) (aA _) bM.out
       have dF:E≠0:=by simpa using qod
       have HF:Hid (CR M (aD wr w.heap.size 0 (.int .i64 ((j:Int)+1)) (.bool false) (.slice none 0 0) (.slice (some ⟨w.heap.size+1,0,none⟩) (E+1) (E+1))) L (.int .i64 ((j:Int)+1)) (.bool false) (.slice none 0 0) (.slice (some ⟨w.heap.size+1,0,none⟩) (E+1) (E+1)) (lW L (bU s z x))):=by
        have hK:=HK.out.kp (fD wr w.heap.size 0 (.int .i64 ((j:Int)+1)) (.bool false) (.slice none 0 0) (.slice (some ⟨w.heap.size+1,0,none⟩) (E+1) (E+1)) (w.heap.size+1) (by omega)) hk;refine(CR.bP (CR.node (D:=j) (by omega) (by omega) (by omega) (aA _) (by unfold maxLen;omega) (by rw[kN];omega) (hM.new (by omega)) (λi hi=>hK.bC (M':=M) Mx.less i hi) ?_) ?_).up (by omega)
        ·intro hs0;have h1:=hs0 (qA j (x 0).m)
         have sD:(x 0).m.get (j+1)=((E+1-1:Nat):Int):=by rw[dC.out];simp
         rw[quD,quF _ _ _ _ sD]at h1
         ·have h2:=quE HC.out (by omega);exact h2.2 (h2.1.symm.trans h1)
         ·intro t ht k kU mH;have Dx:=List.mem_filter.1 ht;rcases Nat.lt_or_ge (j+1) k with hkk|hkk
          ·exact nu.out t Dx.1 _ (BB (by omega)) k hkk mH
          ·have:k=j+1:=by omega
           subst this;rw[sD];simpa using Dx.2
        ·rw[<-o9.out];refine qDc (j+1) (E+1) _ (by omega) (by omega) λt ht=>?_;obtain⟨i,KF,rfl⟩:=IM ht;have h1:=Q3 HC.out nu.out (by omega) (by omega) (bu i) KF;have h2:=Bt (HC.out.2 _ (BB KF)).2 (j+1);rw[dC.out]at h1;simp only at h2⊢;omega
       have bQ:=ae hf;unfold aD at r0 r1 r2 r3;simp only[arr]at q0 q1 q2 q3;have R0:=ae r0;have R1:=ae r1;have R2:=ae r2;have R3:=ae r3;clear hk hf r0 r1 r2 r3;go_wp2;exact aV (v:=.agg #[.int .i64 ((j:Int)+1),.bool false,.slice none 0 0,.slice (some ⟨w.heap.size+1,0,none⟩) (E+1) (E+1)]) (by simp[results,Tryz.results42,go_sem,R0.out,R1.out,R2.out,R3.out]) rfl ⟨_,_,_,_,rfl,HF.out,bQ.out⟩
theorem qCD(L:Nat)(hL:L<=4):YA L:=by
 induction L using Nat.strongRecOn with
 |_ L ih=>exact qt3 L hL λD hD=>ih D hD (by omega)
theorem vw{M M':Nat->Prop}{w W:World}{g:Nat}{t:TypeId}{f:Nat->Value}{L:Nat}{l:List Tm}{c0 c1 c2 c3:Value}(hB:au W g t 4 f)(hg:M' g)(hw:w.heap.size<=g)(he:Ext w W)(hc:CR M' W L c0 c1 c2 c3 l)(hm:∀g,M g->M' g):
 (W.cell? ⟨g,0,none⟩=some (f 0)/\W.cell? ⟨g,1,none⟩=some (f 1)/\W.cell? ⟨g,2,none⟩=some (f 2)/\W.cell? ⟨g,3,none⟩=some (f 3))/\
 (W.frozen? ⟨g,0,none⟩=false/\W.frozen? ⟨g,1,none⟩=false/\W.frozen? ⟨g,2,none⟩=false/\W.frozen? ⟨g,3,none⟩=false)/\
 (((((W.setCell ⟨g,0,none⟩ c0).setCell ⟨g,1,none⟩ c1).setCell ⟨g,2,none⟩ c2).setCell ⟨g,3,none⟩ c3).cell? ⟨g,0,none⟩=some c0/\((((W.setCell ⟨g,0,none⟩ c0).setCell ⟨g,1,none⟩ c1).setCell ⟨g,2,none⟩ c2).setCell ⟨g,3,none⟩ c3).cell? ⟨g,1,none⟩=some c1/\
  ((((W.setCell ⟨g,0,none⟩ c0).setCell ⟨g,1,none⟩ c1).setCell ⟨g,2,none⟩ c2).setCell ⟨g,3,none⟩ c3).cell? ⟨g,2,none⟩=some c2/\((((W.setCell ⟨g,0,none⟩ c0).setCell ⟨g,1,none⟩ c1).setCell ⟨g,2,none⟩ c2).setCell ⟨g,3,none⟩ c3).cell? ⟨g,3,none⟩=some c3)/\
 Hid (vE M w L l (.returned (.agg #[c0,c1,c2,c3])) ((((W.setCell ⟨g,0,none⟩ c0).setCell ⟨g,1,none⟩ c1).setCell ⟨g,2,none⟩ c2).setCell ⟨g,3,none⟩ c3)):=by
 obtain⟨h1,h2,h3,h4,h5⟩:=Ah (M':=M') (w:=w) c0 c1 c2 c3 hB hg hw he;exact⟨h1,h2,h3,c0,c1,c2,c3,rfl,(hc.kp h4).more (λg hg=>.inl (hm g hg)),h5⟩
theorem Mx.sub{M:Nat->Prop}{n k:Nat}:∀g,M g->Mx M n k g:=λ_ h=>.inl h
theorem RR.cr{M:Nat->Prop}{w:World}{d:Nat}{t:RT d}{c0 c1 c2 c3:Value}(h:RR M w d t c0 c1 c2 c3)(hc:fA d t=true):CR M w 4 c0 c1 c2 c3 (terms d t):=by
 cases d with
 |zero=>exact h.elim
 |succ d=>
  have hl:=Af hc;obtain⟨u,k1,k2,k3,k4,_⟩:=qfC 4 h hc (by show t.1<=_;omega);have k3':u.1=t.1:=k3;exact⟨u,k1,k2,by omega,by rw[k4];exact af.refl _⟩
theorem TK:∀(d:Nat)(t:RT d),∀s∈terms d t,s.2.nn=true
 |0,_,s,hs=>by cases hs
 |d+1,t,s,hs=>by
  unfold terms at hs
  split at hs
  ·simp only[List.mem_singleton]at hs;subst hs;exact(by decide:Mo.zero.nn=true)
  ·split at hs
   ·cases hs
   ·obtain⟨i,hi,u,hu,rfl⟩:=Ls hs;have h1:=TK d _ u hu;rw[Mo.uZ]at h1⊢;simp only[Mo.add,xp];refine⟨?_,?_,?_,?_⟩<;>(split<;>omega)
theorem qDd{l:List Tm}(h:∀s∈l,s.2.nn=true):af (norm l) l:=by
 intro m;rw[Lp];unfold mK
 split
 ·rfl
 ·rename_i hm;exact(rY λt ht e=>hm (by rw[<-e];exact h t ht)).symm
theorem uK.dB{M:Nat->Prop}{base:Nat}{w:World}{v:Value}{n:Nat}{z:Nat->Int}{x:Nat->TE}(h:uK M base w v n z x)(hM:∀g,base<=g->¬M g)(hn:n<=1099511627776):eU M w v (bU n z x):=by
 obtain⟨h1,h2⟩:=h;refine lI.v ⟨hn,?_,λi hi=>(h2 i hi).more λg hg=>.inl (.inl hg)⟩
 by_cases h0:n=0
 ·subst h0;rcases h1 with⟨rfl,_⟩|⟨g,cap,F,rfl,hg,hB,hc,hm,hF⟩
  ·exact .inl ⟨⟨none,0,rfl,bu _⟩,rfl⟩
  ·exact .inr ⟨g,0,cap,rfl,hc,hm,⟨hB.lt,hM g hg⟩,λi hi=>by omega⟩
 ·obtain⟨g,cap,F,rfl,hg,hB,hc,hm,hF⟩:=h1.some (by omega);refine .inr ⟨g,0,cap,rfl,hc,hm,⟨hB.lt,hM g hg⟩,λi hi=>?_⟩
  have hcell:∀k,k<6->w.cell? ⟨g,0+i*6+k,none⟩=some (tx x (i*6+k)):=λk hk=>by
   rw[Nat.zero_add,hB.cell (by omega),hF _ (by omega)]
  have a0:=hcell 0 (by omega);have a1:=hcell 1 (by omega);have a2:=hcell 2 (by omega);have a3:=hcell 3 (by omega);have a4:=hcell 4 (by omega);have a5:=hcell 5 (by omega);unfold tx at a0 a1 a2 a3 a4 a5;rw[Nat.add_zero,Nat.add_zero,FJ]at a0;rw[FK]at a1;rw[OZ]at a2;rw[O0]at a3;rw[O1]at a4;rw[O3]at a5;exact⟨a0,a1,a2,a3,a4,a5⟩
theorem qtV(l:List Tm):Agree 4 l:=λ_ _ _ _ k h1 h2=>by omega
theorem qqJ{d:Nat}(h:d<=1000):Room d Mo.zero:=λk=>by rw[CO];omega
def TB(d:Nat)(t:RT d):Prop:=d<=1000/\(terms d t).length<=1099511627776/\aF (aB (terms d t))<=1099511627776/\∀s∈terms d t,∀k,s.2.get k<=1073741824
theorem qjk{M:Nat->Prop}{w:World}{B:Nat}{v:Value}{l:List Tm}(hM:Mb M w)(h:mq M B w v (norm l))(he:∀s∈l,∀k,s.2.get k<=1073741824):
 Calls Tryz.prog 42 #[v,.int .i64 4] w (vE M w 4 (norm l)):=by
 obtain⟨n,z,x,hx,hl,hI⟩:=h.x
 have hb:=qCD 4 (aA _) M v n z x w hM hx hI (by rw[<-hl];exact o7 l) (qtV _) (λi hi k=>by
  have hm:=BB (z:=z) (x:=x) hi;rw[<-hl]at hm;obtain⟨s,hs,e⟩:=qpA hm;have:=he s hs k
  rw[e]at this;exact this)
 rw[<-hl,quQ]at hb;exact hb
theorem vE.bP{M:Nat->Prop}{w w':World}{L:Nat}{l r:List Tm}{e:Ending}(h:vE M w L l e w')(hs:af l r):vE M w L r e w':=by
 obtain⟨c0,c1,c2,c3,h1,h2,h3⟩:=h;exact⟨c0,c1,c2,c3,h1,h2.bP hs,h3⟩
theorem qCE(M:Nat->Prop)(d:Nat)(t:RT d)(c0 c1 c2 c3:Value)(w:World)(hM:Mb M w)(h:RR M w d t c0 c1 c2 c3)(hT:fA d t=true\/TB d t):
 Calls Tryz.prog 40 #[.agg #[c0,c1,c2,c3]] w (vE M w 4 (terms d t)):=by
 cases d with
 |zero=>exact h.elim
 |succ d=>
 obtain⟨rfl,rfl,⟨a,p,rfl⟩,ka,kp,rfl⟩:=h.form;have aL:Ext w ((w.alloc (.cells #[.int .i64 t.1,.bool t.2.1.neg,.slice a t.2.1.n p,.slice ka t.2.2.1 kp] 42)).alloc (.cells #[.int .i64 0,.bool false,.slice none 0 0,.slice none 0 0] 42)):=((ai w).alloc _).alloc _;have aW:=(au.aO w #[.int .i64 t.1,.bool t.2.1.neg,.slice a t.2.1.n p,.slice ka t.2.2.1 kp] 42 4 rfl).alloc (.cells #[.int .i64 0,.bool false,.slice none 0 0,.slice none 0 0] 42);have bA:=au.aO (w.alloc (.cells #[.int .i64 t.1,.bool t.2.1.neg,.slice a t.2.1.n p,.slice ka t.2.2.1 kp] 42)) #[.int .i64 0,.bool false,.slice none 0 0,.slice none 0 0] 42 4 rfl;have h2:RR (Mx M w.heap.size (w.heap.size+2)) _ (d+1) t _ _ _ _:=(RR.more (Mx.more (aA _)) h).ext aL;have dz:Mb (Mx M w.heap.size (w.heap.size+2)) ((w.alloc (.cells #[.int .i64 t.1,.bool t.2.1.neg,.slice a t.2.1.n p,.slice ka t.2.2.1 kp] 42)).alloc (.cells #[.int .i64 0,.bool false,.slice none 0 0,.slice none 0 0] 42)):=Mx.mb hM (by simp;omega) (by simp);simp only[World.size_alloc]at bA;have yU:=qqP (d+1) _ t _ _ _ _ _ h2;cases hc:fA (d+1) t
 ·have vW:TB (d+1) t:=hT.resolve_left (by rw[hc];exact Bool.false_ne_true);rw[hc]at yU
  go_enter Tryz.func40,Tryz.ntmps40
  go_wp2_with (fail);refine yU.mono ?_;rintro e w1 ⟨rfl,ah⟩;have bJ:=aW.ext ah;have x0:=bJ.cell (i:=0) (by omega);have x1:=bJ.cell (i:=1) (by omega);have x2:=bJ.cell (i:=2) (by omega);have x3:=bJ.cell (i:=3) (by omega);simp only[arr]at x0 x1 x2 x3;have HX:Hid (RR (Mx M w.heap.size (w.heap.size+2)) w1 (d+1) t (.int .i64 t.1) (.bool t.2.1.neg) (.slice a t.2.1.n p) (.slice ka t.2.2.1 kp)):=RR.ext h2 ah;have iQ:=ae (dz.ext ah);have sW:=ae (bA.ext ah);have dK:=ae (aL.trans ah);have RA:=qfH (d+1) (Mx M w.heap.size (w.heap.size+2)) w1.heap.size t _ _ _ _ (.slice none 0 0) 0 (λ_=>0) (λ_=>⟨false,none,0,0,Mo.zero⟩) Mo.zero w1 (aA _) (RR.more (λg hg=>hg) HX.out) ⟨Own.nil _ _ _ _ _,λi hi=>by omega⟩ (by have:=vW.2.1;omega) (qqJ vW.1);have Zc:=ae RA;have Jp:=ae vW;clear RA vW hT h h2 aL aW bA dz yU ah;go_wp2_with (fail);refine Zc.out.mono ?_;rintro e w2 ⟨v',n',z',x',rfl,hR,hx,hg,_⟩
  have zk:bU n' z' x'=terms (d+1) t:=by rw[hx,IC];rfl
  have UZ:=ae zk;have az:Ext w1 w2:=mE hg
  have oW:n'<=1099511627776:=by have:=congrArg List.length zk;rw[zJ]at this;have:=Jp.out.2.1;omega
  have hV:=hR.dB (λg hg=>iQ.out.new hg) oW;rw[zk]at hV;have HV:=ae hV;clear hx zk hR hg hV oW;go_wp2_with (fail);refine(Lx _ v' (terms (d+1) t) w2 (iQ.out.ext az) HV.out Jp.out.2.2.1).mono ?_;rintro e w3 ⟨u,rfl,hu,aN⟩;have HU:=ae hu;clear hu;go_wp2_with (fail);refine(qjk (iQ.out.ext (az.trans aN)) HU.out Jp.out.2.2.2).mono ?_;rintro e w4 ⟨d0,d1,d2,d3,rfl,bW,bg⟩;obtain⟨lv,bb,a',n',p',zn,Bo,DK,rfl,rfl,rfl,rfl,_⟩:=bW.form;have gB:=(az.trans aN).trans bg;obtain⟨⟨q0,q1,q2,q3⟩,⟨f0,f1,f2,f3⟩,⟨r0,r1,r2,r3⟩,HF⟩:=vw (M:=M) (w:=w) (sW.out.ext gB) (Mx.at (by omega)) (by omega) (dK.out.trans gB) (bW.bP (qDd (TK _ t))) Mx.sub;clear bW gB bg az aN;go_wp2;exact aV (v:=.agg #[.int .i64 lv,.bool bb,.slice a' n' p',.slice zn Bo DK]) (by simp[results,Tryz.results40,go_sem,r0,r1,r2,r3]) rfl HF.out
 ·rw[hc]at yU;have Ze:=ae (RR.cr h2 hc);clear hT hc
  go_enter Tryz.func40,Tryz.ntmps40
  go_wp2_with (fail);refine yU.mono ?_;rintro e w1 ⟨rfl,ah⟩;have bJ:=aW.ext ah;have x0:=bJ.cell (i:=0) (by omega);have x1:=bJ.cell (i:=1) (by omega);have x2:=bJ.cell (i:=2) (by omega);have x3:=bJ.cell (i:=3) (by omega);simp only[arr]at x0 x1 x2 x3;obtain⟨⟨q0,q1,q2,q3⟩,⟨f0,f1,f2,f3⟩,⟨r0,r1,r2,r3⟩,HF⟩:=vw (M:=M) (w:=w) (bA.ext ah) (Mx.at (by omega)) (by omega) (aL.trans ah) (Ze.out.ext ah) Mx.sub;clear h h2 aL aW bA dz yU ah bJ;go_wp2;exact aV (v:=.agg #[.int .i64 t.1,.bool t.2.1.neg,.slice a t.2.1.n p,.slice ka t.2.2.1 kp]) (by simp[results,Tryz.results40,go_sem,r0,r1,r2,r3]) rfl HF.out
def YH(D:Nat):Prop:=∀(M:Nat->Prop)(l:List Tm)(c0 c1 c2 c3:Value)(w:World),Mb M w->CR M w D c0 c1 c2 c3 l->Calls Tryz.prog 38 #[.agg #[c0,c1,c2,c3]] w (vE M w D l)
theorem quP(L:Nat)(ih:∀D,D<L->YH D):YH L:=by
 intro M l c0 c1 c2 c3 w hM h;obtain⟨i0,hi,hz0,hz1,hz2⟩:=info_parts Tryz.xU;obtain⟨lv,bb,a,n0,p,ka,n,cap,rfl,rfl,rfl,rfl,hl0,RY,KM⟩:=h.form;have aL:Ext w ((w.alloc (.cells #[.int .i64 lv,.bool bb,.slice a n0 p,.slice ka n cap] 42)).alloc (.cells #[.int .i64 0,.bool false,.slice none 0 0,.slice none 0 0] 42)):=((ai w).alloc _).alloc _;have aW:=(au.aO w #[.int .i64 lv,.bool bb,.slice a n0 p,.slice ka n cap] 42 4 rfl).alloc (.cells #[.int .i64 0,.bool false,.slice none 0 0,.slice none 0 0] 42);have bA:=au.aO (w.alloc (.cells #[.int .i64 lv,.bool bb,.slice a n0 p,.slice ka n cap] 42)) #[.int .i64 0,.bool false,.slice none 0 0,.slice none 0 0] 42 4 rfl;simp only[World.size_alloc]at bA
 by_cases hz:lv=0
 ·subst hz;obtain⟨z,hI,hS,hN,_⟩:=h.Nf;have vS:dH (Mx M w.heap.size (w.heap.size+2)) _ _ _ z:=(hI.more (Mx.more (aA _))).ext aL;have wX:=ae vS;have dz:Mb (Mx M w.heap.size (w.heap.size+2)) ((w.alloc (.cells #[.int .i64 0,.bool bb,.slice a n0 p,.slice ka n cap] 42)).alloc (.cells #[.int .i64 0,.bool false,.slice none 0 0,.slice none 0 0] 42)):=Mx.mb hM (by simp;omega) (by simp);have iQ:=ae dz;have HS:=ae hS;clear hI vS dz hS h
  go_enter Tryz.func38,Tryz.ntmps38
  go_wp2_with (fail);refine(La _ _ z _ iQ.out wX.out.dB).mono ?_;rintro e w1 ⟨d0,d1,rfl,hc,he⟩;obtain⟨b2,a2,n2,p2,rfl,rfl⟩:=hc.form;obtain⟨⟨q0,q1,q2,q3⟩,⟨f0,f1,f2,f3⟩,⟨r0,r1,r2,r3⟩,HF⟩:=vw (M:=M) (w:=w) (bA.ext he) (Mx.at (by omega)) (by omega) (aL.trans he) ((CR.const hc L).bP HS.out) Mx.sub;clear aW bA he aL hc;go_wp2;exact aV (v:=.agg #[.int .i64 0,.bool b2,.slice a2 n2 p2,.slice none 0 0]) (by simp[results,Tryz.results38,go_sem,r0,r1,r2,r3]) rfl HF.out
 ·obtain⟨D,rfl,nT,Aj,a',p',b,off,n1,xA,P,fw,eX,kT,mI,dY,jG,eu,hb,nV,hk,bZ,fO,eB,_⟩:=h.Io hz;simp only[Value.bool.injEq,Value.slice.injEq]at fw eX kT;obtain⟨rfl,rfl,rfl⟩:=kT;obtain⟨rfl,rfl,rfl⟩:=eX;subst fw;have El:=ae hk;have Jg:=ae fO;have F6:=ae eB;have uQ:(0:Int)<=(D:Int):=jE _
  have yQ:((D:Int)+1==0)=false:=by simp;omega
  have zQ:=ae (ih D (by omega));clear hk bZ fO eB h hz ih
  go_enter Tryz.func38,Tryz.ntmps38
  go_wp2_with (first|(refine wpList_make_full _ rfl _ _ _ rfl (w.heap.size+2) 42 i0 (.agg #[.int .i64 0,.bool false,.slice none 0 0,.slice none 0 0]) 4 Tryz.underlying34 hi hz0 hz1 .i64 .i64 _ _ n rfl rfl ?c4 ?c5 ?c2 ?c3 ?c6 ?_))
  case c2=>rw[hz2];omega
  case c3=>unfold maxLen;omega
  case c4=>simp
  case c5=>simp
  case c6=>simp
  intro w1 hown hgrow;have bR:=(au.made hown rfl (by omega)).congr (f':=fH) (λi _=>Ed i);have ah:=mE hgrow;have iZ:=aW.ext ah;have bS:=ae (bA.ext ah);have aP:=ae (aL.trans ah)
  have dI:w.heap.size+3<=w1.heap.size:=by have:=bR.lt;omega
  have l6:Hid (Kids (Mx M w.heap.size (w.heap.size+3)) w1 D (w.heap.size+2) n (λ_=>[])):=Kids.fresh bR;have x2:=iZ.cell (i:=3) (by omega);simp only[arr]at x2
  have Su:w.heap.size<w1.heap.size:=by omega
  have dO:=ae iZ;clear hown hgrow bR ah iZ aW bA aL;go_wp2
  go_loopw [20] (λi wr=>∃k:Nat,k<=n/\i=.int .i64 k/\w.heap.size+3<=wr.heap.size/\Hid (Kids (Mx M w.heap.size (w.heap.size+3)) wr D (w.heap.size+2) n (λi=>if i<k then P i else[]))/\Hid (Ext w wr)/\Hid (au wr w.heap.size 42 4 (arr #[.int .i64 ((D:Int)+1),.bool false,.slice a 0 p,.slice (some ⟨b,off,none⟩) n cap]))/\
   Hid (au wr (w.heap.size+1) 42 4 (arr #[.int .i64 0,.bool false,.slice none 0 0,.slice none 0 0]))) (λi _=>n-(intOf i).toNat)
  case atStart=>exact⟨0,bu _,rfl,dI,l6.out.congr λi _=>by rw[aj (by omega)];exact af.refl _,aP,dO,bS⟩
  case round=>
   clear l6 aP dO bS x2 dI Su;obtain⟨k,hk,rfl,hsz,HK,bM,uz,iO⟩:=hrel
   by_cases hlt:k<n
   ·obtain⟨e0,e1,e2,e3,y0,y1,y2,y3,bW⟩:=El.out k hlt;rw[<-bM.out.cell hb]at y0 y1 y2 y3
    have gD:b<wr.heap.size:=by omega
    obtain⟨pU,b',a',n',p',zn,Bo,DK,rfl,rfl,rfl,rfl,_⟩:=bW.form;have aQ:Ext wr (wr.alloc (.cells #[.int .i64 pU,.bool b',.slice a' n' p',.slice zn Bo DK] 42)):=(ai wr).alloc _;have Rb:CR (Mx M w.heap.size (w.heap.size+3)) _ D _ _ _ _ (P k):=((bW.more (Mx.more (aA _))).ext bM.out).ext aQ;have jr:Mb (Mx M w.heap.size (w.heap.size+3)) (wr.alloc (.cells #[.int .i64 pU,.bool b',.slice a' n' p',.slice zn Bo DK] 42)):=Mx.mb hM (by simp;omega) (by simp;omega);have aJ:=ae (zQ.out _ _ _ _ _ _ _ jr Rb);have ek:=ae aQ;clear bW Rb jr aQ;go_wp2_with (fail);refine(aJ.out).mono ?_;rintro e w4 ⟨d0,d1,d2,d3,rfl,bW,bg⟩;obtain⟨lF,b2,a2,n2,p2,iW,kC,iX,rfl,rfl,rfl,rfl,_⟩:=bW.form;have aU:=ek.out.trans bg;have fJ:=HK.out.ext aU;obtain⟨⟨_,k0⟩,⟨_,k1⟩,⟨_,k2⟩,⟨_,k3⟩,bn,jh⟩:=fJ.at k hlt;have jw:=bn (k*4);have ku:=bn (k*4+1);have kv:=bn (k*4+2);have oU:=bn (k*4+3)
    have nD:Hid (Kids (Mx M w.heap.size (w.heap.size+3)) (aD w4 (w.heap.size+2) (k*4) (.int .i64 lF) (.bool b2) (.slice a2 n2 p2) (.slice iW kC iX)) D (w.heap.size+2) n (λi=>if i<k+1 then P i else[])):=by
     refine(fJ.set (Mx.at (by omega)) k hlt bW).congr λi _=>?_
     by_cases fe:i=k
     ·subst fe;rw[av rfl,av (by omega)];exact af.refl _
     ·rw[aj fe]
      by_cases h3:i<k
      ·rw[av h3,av (by omega)];exact af.refl _
      ·rw[aj h3,aj (by omega)];exact af.refl _
    have cZ:Hid (Ext w (aD w4 (w.heap.size+2) (k*4) (.int .i64 lF) (.bool b2) (.slice a2 n2 p2) (.slice iW kC iX))):=(bM.out.trans aU).aD (by omega) _ _ _ _ _;have mM:Hid (au (aD w4 (w.heap.size+2) (k*4) (.int .i64 lF) (.bool b2) (.slice a2 n2 p2) (.slice iW kC iX)) w.heap.size _ _ _):=(uz.out.ext aU).of_heap (fD _ _ _ _ _ _ _ _ (by omega));have vJ:Hid (au (aD w4 (w.heap.size+2) (k*4) (.int .i64 lF) (.bool b2) (.slice a2 n2 p2) (.slice iW kC iX)) (w.heap.size+1) _ _ _):=(iO.out.ext aU).of_heap (fD _ _ _ _ _ _ _ _ (by omega))
    have uG:Hid (w.heap.size+3<=(aD w4 (w.heap.size+2) (k*4) (.int .i64 lF) (.bool b2) (.slice a2 n2 p2) (.slice iW kC iX)).heap.size):=by show _<=_;rw[kN];have:=aU.size;omega
    clear fJ bn bW bg aU;go_wp2
    go_roundw
    case rel=>exact⟨k+1,by omega,by go_num,uG.out,nD,cZ,mM,vJ⟩
    case measure=>simp[intOf];omega
   ·have hkn:k=n:=by omega
    subst hkn;have y0:=uz.out.cell (i:=0) (by omega);simp only[arr]at y0
    have Su:w.heap.size<wr.heap.size:=by omega
    have bQ:Hid (CR (Mx M w.heap.size (w.heap.size+2)) wr L (.int .i64 ((D:Int)+1)) (.bool false) (.slice none 0 0) (.slice (some ⟨w.heap.size+2,0,none⟩) k k) l):=by
     refine(CR.bP (CR.node (D:=D) nT mI dY (aA _) (by unfold maxLen;omega) (by omega) (λhh=>hh.elim (hM.new (by omega)) (by omega)) (λi hi=>HK.out.bC (λg hg=>.inl (hg.imp id λh=>by omega)) i hi) ?_) ?_).up Aj
     ·rw[av (by omega)];exact Jg.out
     ·exact(qO _ _ _ _ λi hi=>by rw[av hi];exact af.refl _).trans F6.out
    obtain⟨⟨q0,q1,q2,q3⟩,⟨f0,f1,f2,f3⟩,⟨r0,r1,r2,r3⟩,HF⟩:=vw (M:=M) (w:=w) iO.out (Mx.at (by omega)) (by omega) bM.out bQ.out Mx.sub;simp only[arr]at q0 q1 q2 q3;go_wp2;exact aV (v:=.agg #[.int .i64 ((D:Int)+1),.bool false,.slice none 0 0,.slice (some ⟨w.heap.size+2,0,none⟩) k k]) (by simp[results,Tryz.results38,go_sem,r0,r1,r2,r3]) rfl HF.out
theorem qCF(L:Nat):YH L:=by
 induction L using Nat.strongRecOn with
 |_ L ih=>exact quP L λD hD=>ih D hD
def kE(l r:List Tm):Bool:=decide (norm l=norm r)
theorem CR.nn{M:Nat->Prop}{w:World}{L:Nat}{c0 c1 c2 c3:Value}{l:List Tm}(h:CR M w L c0 c1 c2 c3 l)(m:Mo)(hm:m.nn=false):aH l m=0:=by
 obtain⟨t,h1,h2,h3,h4⟩:=h;rw[<-h4 m]
 exact rY λs hs e=>by have:=TK _ t s hs;rw[e,hm]at this;cases this
theorem OY{l r:List Tm}(hl:∀m:Mo,m.nn=false->aH l m=0)(hr:∀m:Mo,m.nn=false->aH r m=0):kE l r=true↔af l r:=by
 unfold kE;rw[decide_eq_true_iff];constructor
 ·intro h m;cases hm:m.nn
  ·rw[hl m hm,hr m hm]
  ·exact qAU h m hm
 ·exactλh=>h.norm
theorem qfo{D n:Nat}{P Q:Nat->List Tm}(hD:D+1<=4)(hP:∀i,i<n->dV D (P i))(hQ:∀i,i<n->dV D (Q i))(h:af (aM (D+1) n P) (aM (D+1) n Q))(i:Nat)(hi:i<n):af (P i) (Q i):=by
 intro m
 by_cases hm:m.get (D+1)=0
 ·have:=h (Mo.add m (xp (D+1) (i:Int)))
  rwa[QP (by omega) hD (λi hi=>hP i hi) i hi m hm,QP (by omega) hD (λi hi=>hQ i hi) i hi m hm]at this
 ·rw[(hP i hi).uO (by omega) hD hm,(hQ i hi).uO (by omega) hD hm]
theorem CR.uniq{M M':Nat->Prop}{w w':World}{L L':Nat}{lv pU:Int}{c1 c2 d1 d2:Value}{ka zn:Option Addr}{kn Bo kp DK:Nat}{l r:List Tm}(h:CR M w L (.int .i64 lv) c1 c2 (.slice ka kn kp) l)(k:CR M' w' L' (.int .i64 pU) d1 d2 (.slice zn Bo DK) r)(hs:af l r):lv=pU/\kn=Bo:=by
 obtain⟨t,h1,h2,h3,h4⟩:=h;obtain⟨u,k1,k2,k3,k4⟩:=k;obtain⟨g1,g2,_,_⟩:=qt9 h2 k2 h1.ok k1.ok (h4.trans (hs.trans k4.symm));obtain⟨e1,_,_,a1,p1,e2⟩:=h1.form;obtain⟨e3,_,_,a2,p2,e4⟩:=k1.form;simp only[Value.int.injEq,true_and]at e1 e3;simp only[Value.slice.injEq]at e2 e4;exact⟨by omega,by omega⟩
def qa9(L:Nat):Prop:=∀(M:Nat->Prop)(l r:List Tm)(c0 c1 c2 c3 d0 d1 d2 d3:Value)(w:World),CR M w L c0 c1 c2 c3 l->CR M w L d0 d1 d2 d3 r->Calls Tryz.prog 68 #[.agg #[c0,c1,c2,c3],.agg #[d0,d1,d2,d3]] w λe w'=>e=.returned (.bool (kE l r))/\Ext w w'
theorem qCW(L:Nat)(ih:∀D,D<L->qa9 D):qa9 L:=by
 intro M l r c0 c1 c2 c3 d0 d1 d2 d3 w h k;obtain⟨lv,bb,a,n0,p,ka,n,cap,rfl,rfl,rfl,rfl,hl0,RY,KM⟩:=h.form;obtain⟨pU,MV,a',OC,p',zn,n',cap',rfl,rfl,rfl,rfl,kl0,klL,kl4⟩:=k.form;have vM:Hid (kE l r=true↔af l r):=OY h.nn k.nn;have Mm:Hid (af l r->lv=pU/\n=n'):=λhs=>h.uniq k hs;have aL:Ext w ((w.alloc (.cells #[.int .i64 lv,.bool bb,.slice a n0 p,.slice ka n cap] 42)).alloc (.cells #[.int .i64 pU,.bool MV,.slice a' OC p',.slice zn n' cap'] 42)):=((ai w).alloc _).alloc _
 by_cases iH:¬lv=pU
 ·have hd:(lv !=pU)=true:=by simpa using iH
  have HR:Hid (kE l r=false):=by
   cases hb:kE l r
   ·rfl
   ·exact absurd (Mm.out (vM.out.1 hb)).1 iH
  clear h k iH
  go_enter Tryz.func68,Tryz.ntmps68
  go_wp2;go_ret;exact⟨by rw[HR.out];rfl,aL⟩
 obtain rfl:lv=pU:=Decidable.not_not.1 iH;clear iH
 have hd:(lv !=lv)=false:=by simp
 by_cases hn:¬n=n'
 ·have og:((n:Int)!=(n':Int))=true:=by simp;omega
  have HR:Hid (kE l r=false):=by
   cases hb:kE l r
   ·rfl
   ·exact absurd (Mm.out (vM.out.1 hb)).2 hn
  clear h k hn
  go_enter Tryz.func68,Tryz.ntmps68
  go_wp2;go_ret;exact⟨by rw[HR.out];rfl,aL⟩
 obtain rfl:n=n':=Decidable.not_not.1 hn;clear hn
 have og:((n:Int)!=(n:Int))=false:=by simp
 by_cases hz:lv=0
 ·subst hz;obtain⟨x,hI,hS,_⟩:=h.Nf;obtain⟨y,hJ,hT,_⟩:=k.Nf
  have HR:Hid (decide (x=y)=kE l r):=by
   show _=_;rw[Bool.eq_iff_iff,vM.out,decide_eq_true_iff];constructor
   ·rintro rfl;exact hS.symm.trans hT
   ·intro hh;have:=(hS.trans (hh.trans hT.symm)) Mo.zero;simpa[aH]using this
  have HI:=ae (hI.dB.ext aL);have HJ:=ae (hJ.dB.ext aL);clear h k hI hJ hS hT
  go_enter Tryz.func68,Tryz.ntmps68
  go_wp2_with (fail);refine(qeQ _ _ _ _ x y _ HI.out HJ.out).mono ?_;rintro e w1 ⟨rfl,he⟩;go_wp2;go_ret;exact⟨by rw[<-HR.out];rfl,aL.trans he⟩
 ·obtain⟨D,rfl,nT,Aj,_,_,b,off,n1,xA,P,fw,eX,kT,mI,dY,jG,eu,hb,nV,dw,bZ,fO,eB,_⟩:=h.Io hz;obtain⟨D',hDD,_,_,_,_,b',off',n1',quc,Q,Xq,Xr,SS,kC,knL,Xw,Xu,kb,kMb,Lc,Ld,SY,DL,_⟩:=k.Io hz
  have:D'=D:=by omega
  subst this;simp only[Value.slice.injEq]at kT SS;obtain⟨rfl,rfl,rfl⟩:=kT;obtain⟨rfl,rfl,rfl⟩:=SS;clear fw eX Xq Xr;have El:=ae dw;have zV:=ae Lc;have ZA:Hid (af l r->∀i,i<n->af (P i) (Q i)):=λhs=>qfo nT bZ Ld (eB.trans (hs.trans DL.symm));have Zd:Hid ((∀i,i<n->af (P i) (Q i))->af l r):=λhs=>eB.symm.trans ((qO _ _ _ _ hs).trans DL);have uQ:(0:Int)<=(D':Int):=jE _
  have yQ:((D':Int)+1==0)=false:=by simp;omega
  have zQ:=ae (ih D' (by omega));clear h k dw Lc bZ Ld fO SY eB DL hz ih hDD;have B0:=(au.aO w #[.int .i64 ((D':Int)+1),.bool bb,.slice a n0 p,.slice (some ⟨b,off,none⟩) n cap] 42 4 rfl).alloc (.cells #[.int .i64 ((D':Int)+1),.bool MV,.slice a' OC p',.slice (some ⟨b',off',none⟩) n cap'] 42);have B1:=au.aO (w.alloc (.cells #[.int .i64 ((D':Int)+1),.bool bb,.slice a n0 p,.slice (some ⟨b,off,none⟩) n cap] 42)) #[.int .i64 ((D':Int)+1),.bool MV,.slice a' OC p',.slice (some ⟨b',off',none⟩) n cap'] 42 4 rfl;simp only[World.size_alloc]at B1;have dO:=ae B0;have bS:=ae B1;have dC:=ae aL;clear B0 B1
  go_enter Tryz.func68,Tryz.ntmps68
  go_wp2
  go_loopw [31] (λi wr=>∃k:Nat,k<=n/\i=.int .i64 k/\Hid (∀i,i<k->af (P i) (Q i))/\Hid (Ext ((w.alloc (.cells #[.int .i64 ((D':Int)+1),.bool bb,.slice a n0 p,.slice (some ⟨b,off,none⟩) n cap] 42)).alloc (.cells #[.int .i64 ((D':Int)+1),.bool MV,.slice a' OC p',.slice (some ⟨b',off',none⟩) n cap'] 42)) wr)) (λi _=>n-(intOf i).toNat)
  case atStart=>exact⟨0,bu _,rfl,λi hi=>by omega,ai _⟩
  case round=>
   obtain⟨k,hk,rfl,HQ,iP⟩:=hrel;have hsz:=iP.out.size;simp only[World.size_alloc]at hsz;have bM:=ae (dC.out.trans iP.out);have z3:=(dO.out.ext iP.out).cell (i:=3) (by omega);have z7:=(bS.out.ext iP.out).cell (i:=3) (by omega);simp only[arr]at z3 z7
   have gD:b<wr.heap.size:=by omega
   have qmc:b'<wr.heap.size:=by omega
   have wH:w.heap.size<wr.heap.size:=by omega
   have hw1:w.heap.size+1<wr.heap.size:=by omega
   by_cases hlt:k<n
   ·obtain⟨e0,e1,e2,e3,y0,y1,y2,y3,bW⟩:=El.out k hlt;obtain⟨f0,f1,f2,f3,u0,u1,u2,u3,Xp⟩:=zV.out k hlt;rw[<-bM.out.cell hb]at y0 y1 y2 y3;rw[<-bM.out.cell kb]at u0 u1 u2 u3;obtain⟨lv1,b1,a1,n1,p1,ka1,kn1,kp1,rfl,rfl,rfl,rfl,_⟩:=bW.form;obtain⟨lF,b2,a2,n2,p2,iW,kC,iX,rfl,rfl,rfl,rfl,_⟩:=Xp.form;have aJ:=ae (zQ.out _ _ _ _ _ _ _ _ _ _ _ _ ((bW.ext bM.out).ext (ai wr).drew) ((Xp.ext bM.out).ext (ai wr).drew));have Qf:Hid (kE (P k) (Q k)=true↔af (P k) (Q k)):=OY bW.nn Xp.nn;clear bW Xp
    have hlt':(k:Int)<(n:Int):=by omega
    have iq:(0:Int)<=(k:Int):=by omega
    cases wG:kE (P k) (Q k)
    ·rw[wG]at aJ;go_wp2
     go_still_tail 10,(by kernel_rfl)
     change wpList _ _ _ _ _ wr.drew;go_wp2_with (fail);refine(aJ.out).mono ?_;rintro e w1 ⟨rfl,he⟩;have HF:Hid (Ext w w1):=bM.out.trans (((ai wr).drew).trans he)
     have HR:Hid (kE l r=false):=by
      cases hbs:kE l r
      ·rfl
      ·have:=Qf.out.2 (ZA.out (vM.out.1 hbs) k hlt);rw[wG]at this;cases this
     clear he;go_wp2;go_ret;exact⟨by rw[HR.out];rfl,HF.out⟩
    ·rw[wG]at aJ;go_wp2
     go_still_tail 10,(by kernel_rfl)
     change wpList _ _ _ _ _ wr.drew;go_wp2_with (fail);refine(aJ.out).mono ?_;rintro e w1 ⟨rfl,he⟩;have HF:Hid (Ext ((w.alloc (.cells #[.int .i64 ((D':Int)+1),.bool bb,.slice a n0 p,.slice (some ⟨b,off,none⟩) n cap] 42)).alloc (.cells #[.int .i64 ((D':Int)+1),.bool MV,.slice a' OC p',.slice (some ⟨b',off',none⟩) n cap'] 42)) w1):=iP.out.trans (((ai wr).drew).trans he)
     have nH:Hid (∀i,i<k+1->af (P i) (Q i)):=λi hi=>if h:i<k then HQ.out i h else by
      have:i=k:=by omega
      subst this;exact Qf.out.1 wG
     clear he;go_wp2
     go_roundw
     case rel=>exact⟨k+1,by omega,by go_num,nH,HF⟩
     case measure=>simp[intOf];omega
   ·have hkn:k=n:=by omega
    subst hkn;have HR:Hid (kE l r=true):=vM.out.2 (Zd.out HQ.out);go_wp2;go_ret;exact⟨by rw[HR.out];rfl,bM.out⟩
theorem qCH(L:Nat):qa9 L:=by
 induction L using Nat.strongRecOn with
 |_ L ih=>exact qCW L λD hD=>ih D hD
def dP(M:Nat->Prop)(w:World)(D:Nat)(v:Value)(N:Nat)(P:Nat->List Tm):Prop:=
 N<=1099511627776/\((v=.slice none 0 0/\N=0)\/∃b off cap,v=.slice (some ⟨b,off,none⟩) N cap/\N<=cap/\cap<=maxLen/\(b<w.heap.size/\¬M b)/\∀i,i<N->uI M w D b (off+i*4) (P i))
section
variable{M M':Nat->Prop}{w w':World}{D:Nat}{v:Value}{N:Nat}{P Q:Nat->List Tm}
theorem uI.kp{b o:Nat}{l:List Tm}(h:uI M w D b o l)(hb:b<w.heap.size)(hM:¬M b)(he:Kp M w w'):uI M w' D b o l:=by
 obtain⟨e0,e1,e2,e3,x0,x1,x2,x3,hc⟩:=h;exact⟨e0,e1,e2,e3,by rw[he.cell hb hM];exact x0,by rw[he.cell hb hM];exact x1,by rw[he.cell hb hM];exact x2,by rw[he.cell hb hM];exact x3,hc.kp he⟩
theorem uI.more{b o:Nat}{l:List Tm}(h:uI M w D b o l)(hm:∀g,M' g->M g\/w.heap.size<=g):uI M' w D b o l:=by
 obtain⟨e0,e1,e2,e3,x0,x1,x2,x3,hc⟩:=h;exact⟨e0,e1,e2,e3,x0,x1,x2,x3,hc.more hm⟩
theorem uI.bP{b o:Nat}{l r:List Tm}(h:uI M w D b o l)(hs:af l r):uI M w D b o r:=by
 obtain⟨e0,e1,e2,e3,x0,x1,x2,x3,hc⟩:=h;exact⟨e0,e1,e2,e3,x0,x1,x2,x3,hc.bP hs⟩
theorem dP.kp(h:dP M w D v N P)(he:Kp M w w'):dP M w' D v N P:=by
 obtain⟨h1,h2⟩:=h;refine⟨h1,?_⟩;rcases h2 with h2|⟨b,off,cap,hv,hn,hc,hb,hk⟩
 ·exact .inl h2
 ·exact .inr ⟨b,off,cap,hv,hn,hc,⟨bB hb.1 he.1,hb.2⟩,λi hi=>(hk i hi).kp hb.1 hb.2 he⟩
theorem dP.ext(h:dP M w D v N P)(he:Ext w w'):dP M w' D v N P:=h.kp (Kp.gZ he)
theorem dP.more(h:dP M w D v N P)(hm:∀g,M' g->M g\/w.heap.size<=g):dP M' w D v N P:=by
 obtain⟨h1,h2⟩:=h;refine⟨h1,?_⟩;rcases h2 with h2|⟨b,off,cap,hv,hn,hc,hb,hk⟩
 ·exact .inl h2
 ·exact .inr ⟨b,off,cap,hv,hn,hc,⟨hb.1,λk=>(hm b k).elim hb.2 (by omega)⟩,λi hi=>(hk i hi).more hm⟩
theorem dP.form(h:dP M w D v N P):∃a cap,v=.slice a N cap:=by
 rcases h.2 with⟨rfl,rfl⟩|⟨b,off,cap,rfl,_⟩
 ·exact⟨_,_,rfl⟩
 ·exact⟨_,_,rfl⟩
theorem dP.at{a:Option Addr}{cap:Nat}(h:dP M w D (.slice a N cap) N P)(i:Nat)(hi:i<N):∃b off,a=some ⟨b,off,none⟩/\N<=cap/\cap<=maxLen/\b<w.heap.size/\¬M b/\uI M w D b (off+i*4) (P i):=by
 rcases h.2 with⟨_,h0⟩|⟨b,off,cap',hv,hn,hc,hb,hk⟩
 ·omega
 ·simp only[Value.slice.injEq,true_and]at hv;obtain⟨rfl,rfl⟩:=hv;exact⟨b,off,rfl,hn,hc,hb.1,hb.2,hk i hi⟩
theorem dP.qfi{g:Nat}(h:Kids M w D g N P)(hg:¬M g)(hN:N<=1099511627776):dP M w D (.slice (some ⟨g,0,none⟩) N N) N P:=by
 refine⟨hN,.inr ⟨g,0,N,rfl,aA _,by unfold maxLen;omega,⟨?_,hg⟩,λi hi=>h.bC (λg hg=>.inl hg) i hi⟩⟩;obtain⟨f,hB,_⟩:=h;exact hB.lt
theorem dP.congr(h:dP M w D v N P)(hs:∀i,i<N->af (P i) (Q i)):dP M w D v N Q:=by
 obtain⟨h1,h2⟩:=h;refine⟨h1,?_⟩;rcases h2 with h2|⟨b,off,cap,hv,hn,hc,hb,hk⟩
 ·exact .inl h2
 ·exact .inr ⟨b,off,cap,hv,hn,hc,hb,λi hi=>(hk i hi).bP (hs i hi)⟩
end
theorem Ty{L n N:Nat}{P:Nat->List Tm}(h:n<=N)(hz:∀i,n<=i->i<N->af (P i) []):af (aM L n P) (aM L N P):=by
 obtain⟨k,rfl⟩:∃k,N=n+k:=⟨N-n,by omega⟩;clear h
 induction k with
 |zero=>exact af.refl _
 |succ k ih=>
  rw[<-Nat.add_assoc,gF];refine(ih λi h1 h2=>hz i h1 (by omega)).trans ?_;have h1:=((hz (n+k) (by omega) (by omega)).shift (xp L ((n+k:Nat):Int)));have h2:=(af.refl (aM L (n+k) P)).append h1.symm;simpa[shift]using h2
theorem qrR(L:Nat):xp L 0=Mo.zero:=by unfold xp Mo.zero;simp
theorem qp8(L:Nat)(P:Nat->List Tm):af (aM L 1 P) (P 0):=by
 rw[gF,Fw,List.nil_append];show af (shift (xp L ((0:Nat):Int)) (P 0)) (P 0);rw[show((0:Nat):Int)=0 from rfl,qrR,IC];exact af.refl _
theorem qfK(M:Nat->Prop)(D:Nat)(v:Value)(N:Nat)(P:Nat->List Tm)(w:World)(hM:Mb M w)(hD:D+1<=4)(h:dP M w D v N P):
 Calls Tryz.prog 81 #[.int .i64 ((D:Int)+1),v] w (vE M w (D+1) (aM (D+1) N P)):=by
 obtain⟨a,cap,rfl⟩:=h.form;have HR:=ae h;have yT:=h.1;have aL:Ext w (w.alloc (.cells #[.int .i64 0,.bool false,.slice none 0 0,.slice none 0 0] 42)):=(ai w).alloc _;have aW:=au.aO w #[.int .i64 0,.bool false,.slice none 0 0,.slice none 0 0] 42 4 rfl;have dC:=ae aL;have dO:=ae aW;clear h aL aW
 go_enter Tryz.func81,Tryz.ntmps81
 go_wp2
 go_loopw [5] (λi wr=>∃k:Nat,k<=N/\i=.int .i64 k/\Hid (∀i,k<=i->i<N->af (P i) [])/\Hid (Ext (w.alloc (.cells #[.int .i64 0,.bool false,.slice none 0 0,.slice none 0 0] 42)) wr)) (λi _=>(intOf i).toNat)
 case atStart=>exact⟨N,aA _,rfl,λi h1 h2=>by omega,ai _⟩
 case round=>
  obtain⟨k,hk,rfl,HZ,iP⟩:=hrel;have hsz:=iP.out.size;simp only[World.size_alloc]at hsz;have bM:=ae (dC.out.trans iP.out);have iO:=ae (dO.out.ext iP.out);have lg:=ae ((HR.out.more (M':=Mx M w.heap.size (w.heap.size+1)) (Mx.more (aA _))).ext bM.out)
  by_cases iq:k=0
  ·subst iq;obtain⟨⟨q0,q1,q2,q3⟩,⟨f0,f1,f2,f3⟩,⟨r0,r1,r2,r3⟩,HF⟩:=vw (M:=M) (w:=w) iO.out (Mx.at (by omega)) (by omega) bM.out ((CR.zero (Mx M w.heap.size (w.heap.size+1)) wr (D+1)).bP (Ty (P:=P) (L:=D+1) (bu N) HZ.out)) Mx.sub;simp only[arr]at q0 q1 q2 q3;go_wp2;exact aV (v:=.agg #[.int .i64 0,.bool false,.slice none 0 0,.slice none 0 0]) (by simp[results,Tryz.results81,go_sem,r0,r1,r2,r3]) rfl HF.out
  ·obtain⟨j,rfl⟩:∃j,k=j+1:=⟨k-1,by omega⟩;obtain⟨b,off,rfl,jG,eu,hb,nV,qcI⟩:=lg.out.at j (by omega);obtain⟨e0,e1,e2,e3,y0,y1,y2,y3,bW⟩:=qcI;obtain⟨pU,b',a',n',p',zn,Bo,DK,rfl,rfl,rfl,rfl,Fe,_⟩:=bW.form
   have hj0:(0:Int)<=(j:Int):=by omega
   have hjN:(j:Int)<(N:Int):=by omega
   have Xh:=bW.SL;have aR:=IA pU b' a' n' p' zn Bo DK wr;cases Fs:mY pU n'
   ·rw[Fs]at aR
    have Jg:Hid (¬af (P j) []):=λhs=>by have:=Xh.2 hs;rw[Fs]at this;cases this
    clear bW Xh
    by_cases hj:j=0
    ·subst hj;obtain⟨b2,rH,e5,_,_,_,_,e0,e1,e2,e3,u0,u1,u2,u3,bW⟩:=lg.out.at 0 (by omega);simp only[Option.some.injEq,Addr.mk.injEq,and_true]at e5;obtain⟨rfl,rfl⟩:=e5;rw[Nat.zero_mul,Nat.add_zero]at u0 u1 u2 u3 y0 y1 y2 y3;rw[y0]at u0;rw[y1]at u1;rw[y2]at u2;rw[y3]at u3;cases u0;cases u1;cases u2;cases u3;go_wp2_with (fail);refine aR.mono ?_;rintro e w1 ⟨rfl,ah⟩;have qGJ:=ah.size;rw[<-ah.cell hb]at y0 y1 y2 y3;obtain⟨⟨q0,q1,q2,q3⟩,⟨f0,f1,f2,f3⟩,⟨r0,r1,r2,r3⟩,HF⟩:=vw (M:=M) (w:=w) (L:=D+1) (iO.out.ext ah) (Mx.at (by omega)) (by omega) (bM.out.trans ah) (((bW.ext ah).up (show D<=D+1 by omega)).bP ((qp8 (D+1) P).symm.trans (Ty (P:=P) (L:=D+1) (show 1<=N by omega) HZ.out))) Mx.sub;simp only[arr]at q0 q1 q2 q3
     have hb1:b<w1.heap.size:=by omega
     clear bW ah aR;go_wp2;exact aV (v:=.agg #[.int .i64 pU,.bool b',.slice a' n' p',.slice zn Bo DK]) (by simp[results,Tryz.results81,go_sem,r0,r1,r2,r3]) rfl HF.out
    ·have dj:((j:Int)+1==1)=false:=by simp;omega
     have dj0:((j:Int)+1==0)=false:=by simp;omega
     go_wp2_with (fail);refine aR.mono ?_;rintro e w1 ⟨rfl,ah⟩
     have GA:CR (Mx M w.heap.size (w.heap.size+1)) w1 (D+1) (.int .i64 ((D:Int)+1)) (.bool false) (.slice none 0 0) (.slice (some ⟨b,off,none⟩) (j+1) (j+1)) (aM (D+1) N P):=by
      refine CR.bP (CR.node (D:=D) hD (by omega) (by omega) (aA _) (by unfold maxLen;omega) (by have:=ah.size;omega) nV (λi hi=>?_) ?_) (Ty (P:=P) hk HZ.out)
      ·obtain⟨b2,rH,e5,_,_,gU,dz,qcI⟩:=lg.out.at i (by omega);simp only[Option.some.injEq,Addr.mk.injEq,and_true]at e5;obtain⟨rfl,rfl⟩:=e5;exact qcI.kp gU dz (Kp.gZ ah)
      ·exact Jg.out
     obtain⟨⟨q0,q1,q2,q3⟩,⟨f0,f1,f2,f3⟩,⟨r0,r1,r2,r3⟩,HF⟩:=vw (M:=M) (w:=w) (iO.out.ext ah) (Mx.at (by omega)) (by omega) (bM.out.trans ah) GA Mx.sub;simp only[arr]at q0 q1 q2 q3;clear ah aR GA;go_wp2;exact aV (v:=.agg #[.int .i64 ((D:Int)+1),.bool false,.slice none 0 0,.slice (some ⟨b,off,none⟩) (j+1) (j+1)]) (by simp[results,Tryz.results81,go_sem,r0,r1,r2,r3]) rfl HF.out
   ·rw[Fs]at aR
    have Jz:Hid (∀i,j<=i->i<N->af (P i) []):=λi h1 h2=>if h:i=j then by subst h;exact Xh.1 Fs else HZ.out i (by omega) h2
    clear bW Xh;go_wp2_with (fail);refine aR.mono ?_;rintro e w1 ⟨rfl,ah⟩;have aZ:=ae (iP.out.trans ah);clear ah aR;go_wp2
    go_roundw
    case rel=>exact⟨j,by omega,rfl,Jz,aZ⟩
    case measure=>simp[intOf]
structure PE where
 lv:Int
 b:Bool
 a:Option Addr
 n:Nat
 p:Nat
 ka:Option Addr
 kn:Nat
 kp:Nat
def PE.z:PE:=⟨0,false,none,0,0,none,0,0⟩
abbrev ag(x:PE):Array Value:= #[.int .i64 x.lv,.bool x.b,.slice x.a x.n x.p,.slice x.ka x.kn x.kp]
def aG(M:Nat->Prop)(w:World)(D:Nat)(x:PE)(l:List Tm):Prop:=CR M w D (.int .i64 x.lv) (.bool x.b) (.slice x.a x.n x.p) (.slice x.ka x.kn x.kp) l
def px(x:Nat->PE):Nat->Value:=λj=>if j%4=0 then .int .i64 (x (j/4)).lv else if j%4=1 then .bool (x (j/4)).b else if j%4=2 then .slice (x (j/4)).a (x (j/4)).n (x (j/4)).p else .slice (x (j/4)).ka (x (j/4)).kn (x (j/4)).kp
theorem Fx(x:Nat->PE)(i:Nat):px x (i*4)=.int .i64 (x i).lv:=by unfold px;rw[av (by omega),show i*4/4=i by omega]
theorem Fy(x:Nat->PE)(i:Nat):px x (i*4+1)=.bool (x i).b:=by unfold px;rw[aj (by omega),av (by omega),show(i*4+1)/4=i by omega]
theorem Fz(x:Nat->PE)(i:Nat):px x (i*4+2)=.slice (x i).a (x i).n (x i).p:=by unfold px;rw[aj (by omega),aj (by omega),av (by omega),show(i*4+2)/4=i by omega]
theorem FB(x:Nat->PE)(i:Nat):px x (i*4+3)=.slice (x i).ka (x i).kn (x i).kp:=by unfold px;rw[aj (by omega),aj (by omega),aj (by omega),show(i*4+3)/4=i by omega]
def snoc{α:Type}(x:Nat->α)(n:Nat)(t:α):Nat->α:=λi=>if i=n then t else x i
theorem jC{α:Type}(x:Nat->α)(n:Nat)(t:α):snoc x n t n=t:=by unfold snoc;rw[av rfl]
theorem j4{α:Type}(x:Nat->α)(n:Nat)(t:α)(i:Nat)(h:i<n):snoc x n t i=x i:=by unfold snoc;rw[aj (by omega)]
theorem DT(x:Nat->PE)(n:Nat)(t:PE)(j:Nat)(hj:j<(n+1)*4):app (px x) (n*4) (arr (ag t)) j=px (snoc x n t) j:=by
 unfold app
 by_cases h:j<n*4
 ·rw[av h];unfold px;rw[j4 _ _ _ _ (by omega)]
 ·rw[aj h];obtain⟨r,rfl,hr⟩:∃r,j=n*4+r/\r<4:=⟨j-n*4,by omega,by omega⟩;rw[Nat.add_sub_cancel_left]
  match r,hr with
  |0,_=>rw[Nat.add_zero,Fx,jC];rfl
  |1,_=>rw[Fy,jC];rfl
  |2,_=>rw[Fz,jC];rfl
  |3,_=>rw[FB,jC];rfl
theorem Bu(x:PE)(j:Nat)(hj:j<4):(arr (ag x) j).oneCell'=true:=by
 match j,hj with
 |0,_=>rfl
 |1,_=>rfl
 |2,_=>rfl
 |3,_=>rfl
section
variable{M M':Nat->Prop}{w w':World}{D:Nat}{x:PE}{l r:List Tm}
theorem aG.kp(h:aG M w D x l)(he:Kp M w w'):aG M w' D x l:=CR.kp h he
theorem aG.ext(h:aG M w D x l)(he:Ext w w'):aG M w' D x l:=CR.ext h he
theorem aG.more(h:aG M w D x l)(hm:∀g,M' g->M g\/w.heap.size<=g):aG M' w D x l:=CR.more h hm
theorem CR.pe{c0 c1 c2 c3:Value}(h:CR M w D c0 c1 c2 c3 l):∃x:PE,c0=.int .i64 x.lv/\c1=.bool x.b/\c2=.slice x.a x.n x.p/\c3=.slice x.ka x.kn x.kp/\aG M w D x l/\0<=x.lv/\x.lv<=D/\x.lv<=4:=by
 obtain⟨lv,b,a,n,p,ka,kn,kp,rfl,rfl,rfl,rfl,h1,h2,h3⟩:=h.form;exact⟨⟨lv,b,a,n,p,ka,kn,kp⟩,rfl,rfl,rfl,rfl,h,h1,h2,h3⟩
end
def eF(w:World)(b o:Nat)(x:PE):Prop:=w.cell? ⟨b,o,none⟩=some (.int .i64 x.lv)/\w.cell? ⟨b,o+1,none⟩=some (.bool x.b)/\w.cell? ⟨b,o+2,none⟩=some (.slice x.a x.n x.p)/\w.cell? ⟨b,o+3,none⟩=some (.slice x.ka x.kn x.kp)
theorem eF.ext{w w':World}{b o:Nat}{x:PE}(h:eF w b o x)(hb:b<w.heap.size)(he:Ext w w'):eF w' b o x:=by
 unfold eF;rw[he.cell hb,he.cell hb,he.cell hb,he.cell hb];exact h
theorem dP.x{M:Nat->Prop}{w:World}{D:Nat}{a:Option Addr}{N cap:Nat}{P:Nat->List Tm}(h:dP M w D (.slice a N cap) N P):∃x:Nat->PE,∀i,i<N->(∃b off,a=some ⟨b,off,none⟩/\N<=cap/\cap<=maxLen/\b<w.heap.size/\¬M b/\eF w b (off+i*4) (x i))/\aG M w D (x i) (P i)/\0<=(x i).lv/\(x i).lv<=D/\(x i).lv<=4:=by
 refine pick PE.z (n:=N) (Q:=λi x=>(∃b off,a=some ⟨b,off,none⟩/\N<=cap/\cap<=maxLen/\b<w.heap.size/\¬M b/\eF w b (off+i*4) x)/\aG M w D x (P i)/\0<=x.lv/\x.lv<=D/\x.lv<=4) λi hi=>?_;obtain⟨b,off,rfl,h1,h2,h3,h4,e0,e1,e2,e3,y0,y1,y2,y3,hc⟩:=h.at i hi;obtain⟨x,rfl,rfl,rfl,rfl,hx,h5⟩:=hc.pe;exact⟨x,⟨b,off,rfl,h1,h2,h3,h4,y0,y1,y2,y3⟩,hx,h5⟩
theorem Own.toK{M:Nat->Prop}{base:Nat}{w:World}{D:Nat}{v:Value}{c:Nat}{x:Nat->PE}{S:Nat->List Tm}(h:Own w base 42 4 v c (px x))(hS:∀i,i<c->aG M w D (x i) (S i))(hM:∀g,base<=g->¬M g)(hc:c<=1099511627776):dP M w D v c S:=by
 refine⟨hc,?_⟩;rcases h with⟨rfl,rfl⟩|⟨g,cap,F,rfl,hg,hB,ig,eu,hF⟩
 ·exact .inl ⟨rfl,rfl⟩
 ·refine .inr ⟨g,0,cap,rfl,ig,eu,⟨hB.lt,hM g hg⟩,λi hi=>?_⟩;rw[Nat.zero_add];refine⟨_,_,_,_,?_,?_,?_,?_,hS i hi⟩
  ·rw[hB.cell (by omega),hF _ (by omega),Fx]
  ·rw[hB.cell (by omega),hF _ (by omega),Fy]
  ·rw[hB.cell (by omega),hF _ (by omega),Fz]
  ·rw[hB.cell (by omega),hF _ (by omega),FB]
def bF(N:Nat)(P:Nat->List Tm):List Tm:=(List.range N).flatMap P
theorem qqo(P:Nat->List Tm):bF 0 P=[]:=rfl
theorem kL(N:Nat)(P:Nat->List Tm):bF (N+1) P=bF N P++P N:=by
 unfold bF;rw[List.range_succ,List.flatMap_append];simp
theorem qql{N:Nat}{P Q:Nat->List Tm}(h:∀i,i<N->P i=Q i):bF N P=bF N Q:=by
 induction N with
 |zero=>rfl
 |succ N ih=>rw[kL,kL,ih λi hi=>h i (by omega),h N (by omega)]
theorem Lt{N:Nat}{P Q:Nat->List Tm}(h:∀i,i<N->af (P i) (Q i)):af (bF N P) (bF N Q):=by
 induction N with
 |zero=>exact af.refl _
 |succ N ih=>rw[kL,kL];exact(ih λi hi=>h i (by omega)).append (h N (by omega))
theorem qqm{N:Nat}{P Q:Nat->List Tm}(h:∀i,i<N->aB (P i)<=aB (Q i)):aB (bF N P)<=aB (bF N Q):=by
 induction N with
 |zero=>exact aA _
 |succ N ih=>rw[kL,kL,kK,kK];have:=ih λi hi=>h i (by omega);have:=h N (by omega);omega
theorem qfs(N:Nat)(P:Nat->List Tm)(l:List Tm):bF (N+1) (snoc P N l)=bF N P++l:=by
 rw[kL,jC,qql λi hi=>j4 P N l i hi]
theorem quH(N:Nat)(P:Nat->List Tm)(m:Mo):aH (bF (N+1) P) m=aH (bF N P) m+aH (P N) m:=by rw[kL,iJ]
theorem qBQ(L n N:Nat)(R:Nat->Nat->List Tm):af (aM L n λe=>bF N (R e)) (bF N λi=>aM L n λe=>R e i):=by
 induction N with
 |zero=>
  have:∀n,aM L n (λe=>bF 0 (R e))=[]:=by
   intro n
   induction n with
   |zero=>rfl
   |succ n ih=>rw[gF,ih];rfl
  rw[this];exact af.refl _
 |succ N ih=>
  rw[kL];refine af.trans ?_ (ih.append (af.refl _));clear ih
  induction n with
  |zero=>exact af.refl _
  |succ n ih=>
   rw[gF,gF,gF,kL,Yg];intro m;have:=ih m;simp only[iJ]at this⊢;omega
theorem qB2(z:Nat->Int)(N:Nat):af [(BC z N,Mo.zero)] (bF N λi=>[(z i,Mo.zero)]):=by
 induction N with
 |zero=>intro m;simp[bF,aH,BC]
 |succ N ih=>
  intro m;have:=ih m;rw[quH, <-this];simp only[aH,BC]
  split<;>omega
theorem qEY(z:Nat->Int)(N:Nat)(P:Nat->List Tm)(h:∀i,i<N->(z i).natAbs<=aB (P i)):zK z N<=aB (bF N P):=by
 induction N with
 |zero=>exact bu _
 |succ N ih=>rw[kL,kK];have:=ih λi hi=>h i (by omega);have:=h N (by omega);simp only[zK];omega
def jI(x:Nat->PE):Nat->Int
 |0=>0
 |k+1=>if jI x k<(x k).lv then(x k).lv else jI x k
def jO(x:Nat->PE):Nat->Nat
 |0=>0
 |k+1=>if jI x k<(x k).lv then(x k).kn else if(x k).lv=jI x k then(if jO x k<(x k).kn then(x k).kn else jO x k)else jO x k
theorem qAC(x:Nat->PE)(k:Nat):0<=jI x k:=by
 induction k with
 |zero=>exact Int.le_refl _
 |succ k ih=>unfold jI;split<;>omega
theorem qe7(x:Nat->PE)(k i:Nat)(h:i<k):(x i).lv<=jI x k:=by
 induction k with
 |zero=>omega
 |succ k ih=>
  unfold jI
  by_cases hi:i=k
  ·subst hi;split<;>omega
  ·have:=ih (by omega);split<;>omega
theorem qpg(x:Nat->PE)(k:Nat)(B:Int)(hB:0<=B)(h:∀i,i<k->(x i).lv<=B):jI x k<=B:=by
 induction k with
 |zero=>exact hB
 |succ k ih=>unfold jI;have:=ih λi hi=>h i (by omega);have:=h k (by omega);split<;>omega
theorem qAD(x:Nat->PE)(k i:Nat)(h:i<k)(he:(x i).lv=jI x k):(x i).kn<=jO x k:=by
 induction k with
 |zero=>omega
 |succ k ih=>
  unfold jO;unfold jI at he
  by_cases hi:i=k
  ·subst hi
   by_cases h1:jI x i<(x i).lv
   ·rw[av h1];exact aA _
   ·rw[aj h1]at he⊢;rw[av he];split<;>omega
  ·have:=qe7 x k i (by omega)
   by_cases h1:jI x k<(x k).lv
   ·rw[av h1]at he;omega
   ·rw[aj h1]at he⊢;have:=ih (by omega) he
    split
    ·split<;>omega
    ·exact this
theorem qph(x:Nat->PE)(k B:Nat)(h:∀i,i<k->(x i).kn<=B):jO x k<=B:=by
 induction k with
 |zero=>exact bu _
 |succ k ih=>
  unfold jO;have:=ih λi hi=>h i (by omega);have:=h k (by omega)
  split
  ·omega
  ·split
   ·split<;>omega
   ·omega
theorem aG.SV{M:Nat->Prop}{w:World}{D:Nat}{x:PE}{l:List Tm}(h:aG M w D x l):x.kn<=1099511627776:=by
 obtain⟨t,h1,_⟩:=h;obtain⟨_,_,_,ka,kp,e⟩:=h1.form;simp only[Value.slice.injEq]at e;rw[e.2.1];exact h1.2.2.2.1
end Go.Proofs.YtaafefeafonhdaaGreat
