/- recpoly: the walk through build. recpoly: canonical. recpoly: copyOf. recpoly: same. recpoly: rows of polynomials; trim. recpoly: helpers for add: rows of polynomials of one's own, sums of lists. -/
import Derived.Test.YtmcfpnmoklnhoaaGreatMd
import Derived.StillTailTactics
set_option linter.unusedVariables false
set_option maxRecDepth 100000
set_option maxHeartbeats 400000000
set_option linter.unusedSimpArgs false

namespace Go.Proofs.YtmcfpnmoklnhoaaGreat
open Go.RowKit

theorem Tryz.info33:(Tryz.prog.info? 33).map (fun i=>(i.zero,i.size,i.bytes))=some (some (.agg #[.int .i64 0,.bool false,.slice none 0 0,.slice none 0 0]),4,64):=by kernel_rfl
theorem qoP {j:Nat} {l:List Tm} {m:Mo} (h : ∀ t ∈ l,∀ k,j<k->k<=4->t.2.get k=m.get k):qab (qeA j l) (qgY j m)=qab l m:=by
 induction l with
 | nil=>rfl
 | cons t l ih=>
  have e1:=ih fun u hu=>h u (List.mem_cons_of_mem _ hu)
  have e2:qgY j t.2=qgY j m↔t.2=m:=by
   constructor
   ·intro hc;refine Mo.ext_get fun k h1 h4=>?_
    by_cases hk:k<=j
    ·have:=congrArg (fun q=>Mo.get q k) hc;simp only [qcL,if_pos hk] at this;exact this
    ·exact h t List.mem_cons_self k (by omega) h4
   ·intro hc;rw [hc]
  show (if qgY j t.2=qgY j m then t.1 else 0)+qab (qeA j l) (qgY j m)=(if t.2=m then t.1 else 0)+qab l m;rw [e1]
  by_cases hm:t.2=m
  ·rw [if_pos hm,if_pos (e2.2 hm)]
  ·rw [if_neg hm,if_neg (fun q=>hm (e2.1 q))]
theorem qoO (L:Nat) (e:Int) (l:List Tm) (m:Mo) (hm:m.get L=e):qab (grp L e l) m=qab l m:=by
 induction l with
 | nil=>rfl
 | cons t l ih=>
  unfold grp at ih ⊢;rw [List.filter_cons]
  by_cases ht:t.2.get L=e
  ·rw [if_pos (by simpa using ht)];show (if t.2=m then t.1 else 0)+_=(if t.2=m then t.1 else 0)+_;rw [ih]
  ·rw [if_neg (by simpa using ht),ih];show _=(if t.2=m then t.1 else 0)+_;rw [if_neg (fun q=>ht (by rw [q];exact hm))];simp
theorem qkV {n:Nat} {z:Nat->Int} {x:Nat->TE} (h:qbk (xls n z x)) (h0:0<n):qab (xls n z x) (x 0).m=z 0/\z 0≠0:=by
 have e:=qf9 1 n z x (by omega);have e1:xls 1 z x = [(z 0,(x 0).m)]:=rfl;rw [e1] at e;rw [e] at h ⊢;exact ⟨qbk.coef_head (t:=(z 0,(x 0).m)) h,(h.2 (z 0,(x 0).m) List.mem_cons_self).1⟩
theorem qbL (i:Nat):arr (Value.agg #[.int .i64 0,.bool false,.slice none 0 0,.slice none 0 0]).cells (i % 4)=zc4 i:=by
 have h:=Nat.mod_lt i (show 4>0 by omega);unfold zc4;generalize i % 4=k at *
 match k,h with
 | 0,_=>rfl
 | 1,_=>rfl
 | 2,_=>rfl
 | 3,_=>rfl
theorem qkZ (L:Nat) (hL4:L<=4) (ih : ∀ D,D<L->qhf D):qhf L:=by
 intro M v n z x w hM hX hI hC hA hE;obtain ⟨va,vc,rfl⟩:=hX.form;obtain ⟨i0,hi,hz0,hz1,hz2⟩:=info_parts Tryz.info33;have hnL:=hX.1;have HI:=Lib.hid hI;have HC:=Lib.hid hC;have HA:=Lib.hid hA;have HE:=Lib.hid hE;have HX:=Lib.hid hX;have hM1:Mb (Mx M w.heap.size (w.heap.size+1)) (w.alloc (.cells #[.int .i64 0,.bool false,.slice none 0 0,.slice none 0 0] 33)):=Mx.mb hM (by simp) (by simp);have HM1:=Lib.hid hM1;clear hI hC hA hE hX hM1;have hBr:=Blk.of_arr w #[.int .i64 0,.bool false,.slice none 0 0,.slice none 0 0] 33 4 rfl;have hEr:Ext w (w.alloc (.cells #[.int .i64 0,.bool false,.slice none 0 0,.slice none 0 0] 33)):=(Ext.refl w).alloc _;have HBR:=Lib.hid hBr;have HER:=Lib.hid hEr;clear hBr hEr
 by_cases h0:n=0
 ·subst h0
  go_enter Tryz.func99,Tryz.ntmps99
  go_wp2;refine bodyPost_ret (v:=.agg #[.int .i64 0,.bool false,.slice none 0 0,.slice none 0 0]) (by simp [results,Tryz.results99,go_sem]) rfl ⟨_,_,_,_,rfl,?_,?_⟩
  ·exact CR.zero _ _ _
  ·exact HER.out
 ·have t0:((n:Int) == 0)=false:=by simp;omega
  obtain ⟨b,off,rfl,hnc,hcm,hb,x0,x1,x2,x3,x4,x5⟩:=HX.out.at 0 (by omega);rw [Nat.zero_mul,Nat.add_zero] at x0 x1 x2 x3 x4 x5;have HMC:=Lib.hid (qfl x2 x3 x4 x5);have hL0:(0:Int)<=(L:Int):=Int.natCast_nonneg _
  have hL5:(L:Int)<=4:=by omega
  go_enter Tryz.func99,Tryz.ntmps99
  go_wp2
  go_loopw [1] (fun i wr=>∃ lv:Nat,lv<=L/\i = .int .i64 lv/\Hid (qeh lv (xls n z x))/\Hid (qeA lv (xls n z x)=qeA L (xls n z x))/\w.alloc (.cells #[.int .i64 0,.bool false,.slice none 0 0,.slice none 0 0] 33)=wr) (fun i _=>(intOf i).toNat)
  case atStart=>exact ⟨L,Nat.le_refl _,rfl,HA,rfl,rfl⟩
  case round=>
   obtain ⟨lv,hlv,rfl,HA2,HC2,rfl⟩:=hrel
   by_cases hl0:lv=0
   ·subst hl0
    have HN:Hid (n=1):=by
     rcases Nat.lt_or_ge 1 n with hgt | hle
     ·exfalso;have h1:=qj9 HC.out (i:=0) (j:=1) (by omega) hgt;refine Mo.lt_ne h1 (Mo.ext_get fun k hk hk4=>HA2.out _ (qb7 hgt) _ (qb7 (by omega)) k (by omega) hk4)
     ·show _=_;omega
    have HF:Hid (CR M w L (.int .i64 0) (.bool (x 0).b) (.slice (x 0).a (x 0).n (x 0).p) (.slice none 0 0) (qeA L (xls n z x))):=by
     refine (CR.const (HI.out 0 (by omega)) L).sim ?_;rw [<- HC2.out,HN.out];have:qgY 0 (x 0).m=Mo.zero:=rfl;simp [qeA,xls,this,Sim.refl]
    go_wp2;refine bodyPost_ret (v:=.agg #[.int .i64 0,.bool (x 0).b,.slice (x 0).a (x 0).n (x 0).p,.slice none 0 0]) (by simp [results,Tryz.results99,go_sem]) rfl ⟨_,_,_,_,rfl,?_,?_⟩
    ·exact HF.out.ext ((Ext.refl w).alloc _)
    ·exact (Ext.refl w).alloc _
   ·obtain ⟨j,rfl⟩ : ∃ j,lv=j+1:=⟨lv - 1,by omega⟩
    have hj4:j<4:=by omega
    have lj0:(0:Int)<=(j:Int):=Int.natCast_nonneg _
    have lj1:(j:Int)<4:=by omega
    have y0:=HMC.out j hj4
    by_cases hx0:(x 0).m.get (j+1)=0
    ·rw [hx0] at y0
     have HZ:Hid (∀ t ∈ xls n z x,t.2.get (j+1)=0):=by
      intro t ht;obtain ⟨i,hi2,rfl⟩:=qbx ht;have h1:=qdV HC.out HA2.out (by omega) (by omega) (Nat.zero_le i) hi2;have h2:=qcw (HC.out.2 _ (qb7 hi2)).2 (j+1);simp only at h2 ⊢;omega
     have HA3:Hid (qeh j (xls n z x)):=HA2.out.next fun s hs t ht=>by rw [HZ.out s hs,HZ.out t ht]
     have HC3:Hid (qeA j (xls n z x)=qeA L (xls n z x)):=(qnb (L:=j+1) (by omega) (by omega) HZ.out).trans HC2.out;clear hx0;go_wp2
     go_roundw
     case rel=>exact ⟨j,by omega,rfl,HA3,HC3,by first | rfl | trivial⟩
     case measure=>simp [intOf]
    ·have hx0':((x 0).m.get (j+1) == 0)=false:=by simpa using hx0
     obtain ⟨E,hE0⟩ : ∃ E:Nat,(x 0).m.get (j+1)=E:=⟨((x 0).m.get (j+1)).toNat,by have:=qcw (HC.out.2 _ (qb7 (show 0<n by omega))).2 (j+1);simp only at this;omega⟩;have HE0:=Lib.hid hE0;rw [hE0] at y0 hx0'
     have hEm:(E:Int)<=1073741824:=by rw [<- hE0];exact HE.out 0 (by omega) _
     clear hx0 hE0;have dE:decide (1073741824<(E:Int))=false:=decide_eq_false (by omega)
     go_wp2_with (first | (refine wpList_make_full _ rfl _ _ _ rfl (w.heap.size+1) 33 i0 (.agg #[.int .i64 0,.bool false,.slice none 0 0,.slice none 0 0]) 4 Tryz.underlying31 hi hz0 hz1 .i64 .i64 _ _ (E+1) rfl rfl ?c4 ?c5 ?c2 ?c3 ?c6 ?_))
     case c2=>rw [hz2];omega
     case c3=>unfold maxLen;omega
     case c4=>simp
     case c5=>simp
     case c6=>simp
     intro w1 hown hgrow
     try simp only [World.size_alloc] at hown
     have hBk:=(Blk.made hown rfl (by omega)).congr (f':=zc4) (by
      intro i _
      exact qbL i)
     have he1:=qaw hgrow;clear hown hgrow;have HB1:Hid (Blk w1 w.heap.size 33 4 (arr #[.int .i64 0,.bool false,.slice none 0 0,.slice none 0 0])):=HBR.out.ext he1;have he2:Ext w w1:=HER.out.trans he1
     have hs1:w.heap.size+2<=w1.heap.size:=by have:=hBk.lt;omega
     have hKf:qax (Mx M w.heap.size (w.heap.size+2)) w1 j (w.heap.size+1) (E+1) (fun _=>[]):=qax.fresh (by simpa using hBk);have HKF:=Lib.hid hKf;clear hKf hBk he1;go_wp2
     go_loopw [6] (fun i wr=>∃ s:Nat,s<=n/\i = .int .i64 s/\w.heap.size+2<=wr.heap.size/\Hid (qax (Mx M w.heap.size (w.heap.size+2)) wr j (w.heap.size+1) (E+1) (fun i=>qeA j (grp (j+1) (i:Int) (xls s z x))))/\Hid (∀ i k,i<s->s<=k->k<n->(x k).m.get (j+1)≠(x i).m.get (j+1))/\Hid (Ext w wr)/\Hid (Blk wr w.heap.size 33 4 (arr #[.int .i64 0,.bool false,.slice none 0 0,.slice none 0 0]))) (fun i _=>n - (intOf i).toNat)
     case atStart=>exact ⟨0,Nat.zero_le _,rfl,hs1,HKF.out,fun i k h=>by omega,he2,HB1⟩
     case round=>
      clear HKF hs1 he2 HB1;obtain ⟨s,hs,rfl,hsz,HK,HSEP,HEW,HBW⟩:=hrel
      by_cases hlt:s<n
      ·obtain ⟨bb,oo,e1,_,_,_,z0,z1,z2,z3,z4,z5⟩:=HX.out.at s hlt;simp only [Option.some.injEq,Addr.mk.injEq,and_true] at e1;obtain ⟨rfl,rfl⟩:=e1;have zj:=qfl z2 z3 z4 z5 j hj4;rw [<- HEW.out.cell hb] at zj
       have hbw:b<wr.heap.size:=by omega
       obtain ⟨e,he0⟩ : ∃ e:Nat,(x s).m.get (j+1)=e:=⟨((x s).m.get (j+1)).toNat,by have:=qcw (HC.out.2 _ (qb7 hlt)).2 (j+1);simp only at this;omega⟩;have HE1:=Lib.hid he0;rw [he0] at zj
       have heE:e<=E:=by have:=qdV HC.out HA2.out (by omega) (by omega) (Nat.zero_le s) hlt;rw [he0,HE0.out] at this;omega
       clear he0 z0 z1 z2 z3 z4 z5;go_wp2;obtain ⟨wo,rfl⟩ : ∃ wo:World,wo=wr:=⟨_,rfl⟩
       go_loopw [8] (fun i wq=>∃ q:Nat,s<=q/\q<=n/\i = .int .i64 q/\Hid (∀ k,s<=k->k<q->(x k).m.get (j+1)=e)/\wo=wq) (fun i _=>n - (intOf i).toNat)
       case atStart=>exact ⟨s,Nat.le_refl _,hs,rfl,fun k h1 h2=>by omega,rfl⟩
       case round=>
        obtain ⟨q,hq1,hq2,rfl,HQ,rfl⟩:=hrel
        have hstep:(q<n/\(x q).m.get (j+1)=e)∨(q<n/\(x q).m.get (j+1)≠e)∨q=n:=by omega
        have hcq:q<n->wo.cell? ⟨b,off+q*6+2+j,none⟩=some (.int .i64 ((x q).m.get (j+1))):=by
         intro hqn;obtain ⟨bb,oo,e1,_,_,_,z0,z1,z2,z3,z4,z5⟩:=HX.out.at q hqn;simp only [Option.some.injEq,Addr.mk.injEq,and_true] at e1;obtain ⟨rfl,rfl⟩:=e1;rw [HEW.out.cell hb];exact qfl z2 z3 z4 z5 j hj4
        rcases hstep with ⟨hqn,heq⟩ | hstop
        ·have zq:=hcq hqn;rw [heq] at zq
         have HQ1:Hid (∀ k,s<=k->k<q+1->(x k).m.get (j+1)=e):=fun k h1 h2=>if hk:k<q then HQ.out k h1 hk else by
          have:k=q:=by omega
          subst this;exact heq
         clear hcq heq;go_wp2
         go_roundw
         case rel=>exact ⟨q+1,by omega,by omega,by go_num,HQ1,by first | rfl | trivial⟩
         case measure=>simp [intOf];omega
        ·have hsq : s < q := by
          rcases Nat.lt_or_ge s q with h | h
          ·exact h
          ·have:q=s:=by omega
           subst this;rcases hstop with ⟨_,h⟩ | h
           ·exact absurd HE1.out h
           ·omega
         have HQE:Hid (q<n->(x q).m.get (j+1)≠e):=fun h=>by rcases hstop with ⟨_,h⟩ | h;exact h;omega
         have HPX:=Lib.hid (qce.ext ((HX.out.sub s q hq1 hq2).more (M':=Mx M w.heap.size (w.heap.size+2)) (Mx.more (Nat.le_refl _))) HEW.out);have HSI:Hid (∀ i,i<q - s->qbw (Mx M w.heap.size (w.heap.size+2)) wo (.bool (x (s+i)).b) (.slice (x (s+i)).a (x (s+i)).n (x (s+i)).p) (z (s+i))):=fun i hi=>((HI.out (s+i) (by omega)).more (Mx.more (Nat.le_refl _))).ext HEW.out;have HMO:Hid (Mb (Mx M w.heap.size (w.heap.size+2)) wo):=Mx.mb hM HEW.out.size hsz
         have HAG:Hid (qeh j (xls (q - s) (fun i=>z (s+i)) (fun i=>x (s+i)))):=by
          refine qeh.next (L:=j+1) (HA2.out.sub fun t ht=>?_) fun t1 ht1 t2 ht2=>?_
          ·obtain ⟨i,hi3,rfl⟩:=qbx ht;exact qb7 (i:=s+i) (by omega)
          ·obtain ⟨i1,h1,rfl⟩:=qbx ht1;obtain ⟨i2,h2,rfl⟩:=qbx ht2;simp only;rw [HQ.out _ (by omega) (by omega),HQ.out _ (by omega) (by omega)]
         have hbq : ∀ hh:Prop,hh->hh:=fun _ h=>h;have hctr:=ih j (by omega) _ _ _ _ _ _ HMO.out HPX.out HSI.out (HC.out.sub s q hq1 hq2) HAG.out (fun i hi k=>HE.out (s+i) (by omega) k);have CTR:=Lib.hid hctr;clear hctr hbq
         have HGR:Hid (∀ i,i<E+1->Sim (if i=e then qeA j (xls (q - s) (fun i=>z (s+i)) (fun i=>x (s+i))) else qeA j (grp (j+1) (i:Int) (xls s z x))) (qeA j (grp (j+1) (i:Int) (xls q z x)))):=by
          intro i _;rw [qf9 s q z x hq1,qkF]
          by_cases hie:i=e
          ·subst hie;rw [if_pos rfl,qjN (l:=xls s z x),qow,List.nil_append]
           ·exact Sim.refl _
           ·intro t ht;obtain ⟨i1,h1,rfl⟩:=qbx ht;exact HQ.out _ (by omega) (by omega)
           ·intro t ht;obtain ⟨i1,h1,rfl⟩:=qbx ht;have:=HSEP.out i1 s h1 (Nat.le_refl _) hlt;rw [HE1.out] at this;exact fun q=>this q.symm
          ·rw [if_neg hie,qjN (l:=xls (q - s) _ _),List.append_nil]
           ·exact Sim.refl _
           ·intro t ht;obtain ⟨i1,h1,rfl⟩:=qbx ht;simp only;rw [HQ.out _ (by omega) (by omega)];omega
         have HSEP2:Hid (∀ i k,i<q->q<=k->k<n->(x k).m.get (j+1)≠(x i).m.get (j+1)):=by
          intro i k h1 h2 h3
          by_cases his:i<s
          ·exact HSEP.out i k his (by omega) h3
          ·rw [HQ.out i (by omega) h1];have g1:=qdV HC.out HA2.out (by omega) (by omega) h2 h3;have g2:=qdV HC.out HA2.out (by omega) (by omega) hq1 (show q<n by omega);have g3:=HQE.out (by omega);rw [HE1.out] at g2;omega
         have hdec:(decide (q<n)=true/\q<n/\((x q).m.get (j+1) == (e:Int))=false)∨(decide (q<n)=false /\ ¬ q<n):=by
          rcases hstop with ⟨h1,h2⟩ | h1
          ·exact .inl ⟨decide_eq_true h1,h1,by simpa using h2⟩
          ·exact .inr ⟨decide_eq_false (by omega),by omega⟩
         clear hstop;rcases hdec with ⟨dq,hqn,hne⟩ | ⟨dq,hqn⟩
         all_goals
          try have zq:=hcq hqn
          clear hcq;go_wp2_with (fail);refine (CTR.out).mono ?_;rintro e2 w4 ⟨c0,c1,c2,c3,rfl,hCR,he4⟩;obtain ⟨lv',b',a',n',p',ka,kn,kp,rfl,rfl,rfl,rfl,_⟩:=hCR.form;have hK4:=HK.out.ext he4;obtain ⟨⟨_,k0⟩,⟨_,k1⟩,⟨_,k2⟩,⟨_,k3⟩,hfr,hg4⟩:=hK4.at e (by omega);have hf0:=hfr (e*4);have hf1:=hfr (e*4+1);have hf2:=hfr (e*4+2);have hf3:=hfr (e*4+3)
          have hee:(e:Int)<(E:Int)+1:=by omega
          have HK5:=Lib.hid ((hK4.set (Mx.at (by omega)) e (by omega) hCR).congr HGR.out);have HE5:Hid (Ext w (set4 w4 (w.heap.size+1) (e*4) (.int .i64 lv') (.bool b') (.slice a' n' p') (.slice ka kn kp))):=(HEW.out.trans he4).set4 (by omega) _ _ _ _ _;have HB5:Hid (Blk (set4 w4 (w.heap.size+1) (e*4) (.int .i64 lv') (.bool b') (.slice a' n' p') (.slice ka kn kp)) w.heap.size 33 4 (arr #[.int .i64 0,.bool false,.slice none 0 0,.slice none 0 0])):=(HBW.out.ext he4).of_heap (qag _ _ _ _ _ _ _ _ (by omega))
          have hsz5:w.heap.size+2<=(set4 w4 (w.heap.size+1) (e*4) (.int .i64 lv') (.bool b') (.slice a' n' p') (.slice ka kn kp)).heap.size:=by rw [qaq];have:=he4.size;omega
          have HSZ5:=Lib.hid hsz5;clear hK4 hfr hCR he4 hsz5;go_wp2
          go_roundw
          case rel=>exact ⟨q,hq2,rfl,HSZ5.out,HK5,HSEP2,HE5,HB5⟩
          case measure=>simp [intOf];omega
      ·have hsn:s=n:=by omega
       subst hsn;obtain ⟨⟨q0,q1,q2,q3⟩,⟨f0,f1,f2,f3⟩,⟨r0,r1,r2,r3⟩,hk,hf⟩:=qkL (M':=Mx M w.heap.size (w.heap.size+2)) (w:=w) (.int .i64 ((j:Int)+1)) (.bool false) (.slice none 0 0) (.slice (some ⟨w.heap.size+1,0,none⟩) (E+1) (E+1)) HBW.out (Mx.at (by omega)) (Nat.le_refl _) HEW.out
       have hE1:E≠0:=by simpa using hx0'
       have HF:Hid (CR M (set4 wr w.heap.size 0 (.int .i64 ((j:Int)+1)) (.bool false) (.slice none 0 0) (.slice (some ⟨w.heap.size+1,0,none⟩) (E+1) (E+1))) L (.int .i64 ((j:Int)+1)) (.bool false) (.slice none 0 0) (.slice (some ⟨w.heap.size+1,0,none⟩) (E+1) (E+1)) (qeA L (xls s z x))):=by
        have hK:=HK.out.kp (qag wr w.heap.size 0 (.int .i64 ((j:Int)+1)) (.bool false) (.slice none 0 0) (.slice (some ⟨w.heap.size+1,0,none⟩) (E+1) (E+1)) (w.heap.size+1) (by omega)) hk;refine (CR.sim (CR.node (D:=j) (by omega) (by omega) (by omega) (Nat.le_refl _) (by unfold maxLen;omega) (by rw [qaq];omega) (hM.new (by omega)) (fun i hi=>hK.kid (M':=M) Mx.less i hi) ?_) ?_).up (by omega)
        ·intro hs0;have h1:=hs0 (qgY j (x 0).m)
         have hg0:(x 0).m.get (j+1)=((E+1 - 1:Nat):Int):=by rw [HE0.out];simp
         rw [qoP,qoO _ _ _ _ hg0] at h1
         ·have h2:=qkV HC.out (by omega);exact h2.2 (h2.1.symm.trans h1)
         ·intro t ht k hk1 hk2;have ht1:=List.mem_filter.1 ht;rcases Nat.lt_or_ge (j+1) k with hkk | hkk
          ·exact HA2.out t ht1.1 _ (qb7 (by omega)) k hkk hk2
          ·have:k=j+1:=by omega
           subst this;rw [hg0];simpa using ht1.2
        ·rw [<- HC2.out];refine qkt (j+1) (E+1) _ (by omega) (by omega) fun t ht=>?_;obtain ⟨i,hi3,rfl⟩:=qbx ht;have h1:=qdV HC.out HA2.out (by omega) (by omega) (Nat.zero_le i) hi3;have h2:=qcw (HC.out.2 _ (qb7 hi3)).2 (j+1);rw [HE0.out] at h1;simp only at h2 ⊢;omega
       have HF2:=Lib.hid hf;unfold set4 at r0 r1 r2 r3;simp only [arr] at q0 q1 q2 q3;have R0:=Lib.hid r0;have R1:=Lib.hid r1;have R2:=Lib.hid r2;have R3:=Lib.hid r3;clear hk hf r0 r1 r2 r3;go_wp2;exact bodyPost_ret (v:=.agg #[.int .i64 ((j:Int)+1),.bool false,.slice none 0 0,.slice (some ⟨w.heap.size+1,0,none⟩) (E+1) (E+1)]) (by simp [results,Tryz.results99,go_sem,R0.out,R1.out,R2.out,R3.out]) rfl ⟨_,_,_,_,rfl,HF.out,HF2.out⟩
theorem qn0 (L:Nat) (hL:L<=4):qhf L:=by
 induction L using Nat.strongRecOn with
 | _ L ih=>exact qkZ L hL fun D hD=>ih D hD (by omega)


theorem qit {M M' : Nat -> Prop} {w W : World} {g : Nat} {t : TypeId} {f : Nat -> Value} {L : Nat} {l : List Tm} {c0 c1 c2 c3 : Value} (hB : Blk W g t 4 f) (hg : M' g) (hw : w.heap.size <= g) (he : Ext w W) (hc : CR M' W L c0 c1 c2 c3 l) (hm : ∀ g, M g -> M' g) :
  (W.cell? ⟨g,0,none⟩=some (f 0)/\W.cell? ⟨g,1,none⟩=some (f 1)/\W.cell? ⟨g,2,none⟩=some (f 2)/\W.cell? ⟨g,3,none⟩=some (f 3)) /\
  (W.frozen? ⟨g,0,none⟩=false/\W.frozen? ⟨g,1,none⟩=false/\W.frozen? ⟨g,2,none⟩=false/\W.frozen? ⟨g,3,none⟩=false) /\
  (((((W.setCell ⟨g,0,none⟩ c0).setCell ⟨g,1,none⟩ c1).setCell ⟨g,2,none⟩ c2).setCell ⟨g,3,none⟩ c3).cell? ⟨g,0,none⟩=some c0/\((((W.setCell ⟨g,0,none⟩ c0).setCell ⟨g,1,none⟩ c1).setCell ⟨g,2,none⟩ c2).setCell ⟨g,3,none⟩ c3).cell? ⟨g,1,none⟩=some c1 /\
   ((((W.setCell ⟨g,0,none⟩ c0).setCell ⟨g,1,none⟩ c1).setCell ⟨g,2,none⟩ c2).setCell ⟨g,3,none⟩ c3).cell? ⟨g,2,none⟩=some c2/\((((W.setCell ⟨g,0,none⟩ c0).setCell ⟨g,1,none⟩ c1).setCell ⟨g,2,none⟩ c2).setCell ⟨g,3,none⟩ c3).cell? ⟨g,3,none⟩=some c3) /\
  Hid (qaU M w L l (.returned (.agg #[c0,c1,c2,c3])) ((((W.setCell ⟨g,0,none⟩ c0).setCell ⟨g,1,none⟩ c1).setCell ⟨g,2,none⟩ c2).setCell ⟨g,3,none⟩ c3)):=by
 obtain ⟨h1,h2,h3,h4,h5⟩:=qkL (M':=M') (w:=w) c0 c1 c2 c3 hB hg hw he;exact ⟨h1,h2,h3,c0,c1,c2,c3,rfl,(hc.kp h4).more (fun g hg=>.inl (hm g hg)),h5⟩
theorem Mx.sub {M:Nat->Prop} {n k:Nat} : ∀ g,M g->Mx M n k g:=fun _ h=>.inl h
theorem RR.cr {M:Nat->Prop} {w:World} {d:Nat} {t:RT d} {c0 c1 c2 c3:Value} (h:RR M w d t c0 c1 c2 c3) (hc:qaM d t=true):CR M w 4 c0 c1 c2 c3 (qaj d t):=by
 cases d with
 | zero=>exact h.elim
 | succ d=>
  have hl:=qcP hc;obtain ⟨u,k1,k2,k3,k4,_⟩:=qlP 4 h hc (by show t.1<=_;omega);have k3':u.1=t.1:=k3;exact ⟨u,k1,k2,by omega,by rw [k4];exact Sim.refl _⟩
theorem qgg : ∀ (d:Nat) (t:RT d),∀ s ∈ qaj d t,s.2.nn=true
 | 0,_,s,hs=>by cases hs
 | d+1,t,s,hs=>by
  unfold qaj at hs
  split at hs
  ·simp only [List.mem_singleton] at hs;subst hs;exact (by decide:Mo.zero.nn=true)
  ·split at hs
   ·cases hs
   ·obtain ⟨i,hi,u,hu,rfl⟩:=qck hs;have h1:=qgg d _ u hu;rw [Mo.nn_iff] at h1 ⊢;simp only [Mo.add,xp];refine ⟨?_,?_,?_,?_⟩ <;> (split <;> omega)
theorem qnU {l:List Tm} (h : ∀ s ∈ l,s.2.nn=true):Sim (norm l) l:=by
 intro m;rw [qcv];unfold qcU
 split
 ·rfl
 ·rename_i hm;exact (qaB fun t ht e=>hm (by rw [<- e];exact h t ht)).symm
theorem qiZ.toV {M:Nat->Prop} {base:Nat} {w:World} {v:Value} {n:Nat} {z:Nat->Int} {x:Nat->TE} (h:qiZ M base w v n z x) (hM : ∀ g,base<=g -> ¬ M g) (hn:n<=1099511627776):qnw M w v (xls n z x):=by
 obtain ⟨h1,h2⟩:=h;refine qce.v ⟨hn,?_,fun i hi=>(h2 i hi).more fun g hg=>.inl (.inl hg)⟩
 by_cases h0:n=0
 ·subst h0;rcases h1 with ⟨rfl,_⟩ | ⟨g,cap,F,rfl,hg,hB,hc,hm,hF⟩
  ·exact .inl ⟨⟨none,0,rfl,Nat.zero_le _⟩,rfl⟩
  ·exact .inr ⟨g,0,cap,rfl,hc,hm,⟨hB.lt,hM g hg⟩,fun i hi=>by omega⟩
 ·obtain ⟨g,cap,F,rfl,hg,hB,hc,hm,hF⟩:=h1.some (by omega);refine .inr ⟨g,0,cap,rfl,hc,hm,⟨hB.lt,hM g hg⟩,fun i hi=>?_⟩
  have hcell : ∀ k,k<6->w.cell? ⟨g,0+i*6+k,none⟩=some (tx x (i*6+k)):=fun k hk=>by
   rw [Nat.zero_add,hB.cell (by omega),hF _ (by omega)]
  have a0:=hcell 0 (by omega);have a1:=hcell 1 (by omega);have a2:=hcell 2 (by omega);have a3:=hcell 3 (by omega);have a4:=hcell 4 (by omega);have a5:=hcell 5 (by omega);unfold tx at a0 a1 a2 a3 a4 a5;rw [Nat.add_zero,Nat.add_zero,qfL] at a0;rw [qfK] at a1;rw [qhr] at a2;rw [qhq] at a3;rw [qhp] at a4;rw [qho] at a5;exact ⟨a0,a1,a2,a3,a4,a5⟩
theorem qk2 (l:List Tm):qeh 4 l:=fun _ _ _ _ k h1 h2=>by omega
theorem qlK {d:Nat} (h:d<=1000):qrD d Mo.zero:=fun k=>by rw [qbc];omega
def TB (d:Nat) (t:RT d):Prop:=d<=1000/\(qaj d t).length<=1099511627776/\dlen (nrm (qaj d t))<=1099511627776 /\ ∀ s ∈ qaj d t,∀ k,s.2.get k<=1073741824
theorem qk0 {M : Nat -> Prop} {w : World} {B : Nat} {v : Value} {l : List Tm} (hM : Mb M w) (h : qfF M B w v (norm l)) (he : ∀ s ∈ l, ∀ k, s.2.get k <= 1073741824) :
  Calls Tryz.prog 99 #[v,.int .i64 4] w (qaU M w 4 (norm l)):=by
 obtain ⟨n,z,x,hx,hl,hI⟩:=h.x
 have hb:=qn0 4 (Nat.le_refl _) M v n z x w hM hx hI (by rw [<- hl];exact qaH l) (qk2 _) (fun i hi k=>by
  have hm:=qb7 (z:=z) (x:=x) hi;rw [<- hl] at hm;obtain ⟨s,hs,e⟩:=qjv hm;have:=he s hs k
  rw [e] at this;exact this)
 rw [<- hl,qnc] at hb;exact hb
theorem qaU.sim {M:Nat->Prop} {w w':World} {L:Nat} {l r:List Tm} {e:Ending} (h:qaU M w L l e w') (hs:Sim l r):qaU M w L r e w':=by
 obtain ⟨c0,c1,c2,c3,h1,h2,h3⟩:=h;exact ⟨c0,c1,c2,c3,h1,h2.sim hs,h3⟩
theorem qhw (M : Nat -> Prop) (d : Nat) (t : RT d) (c0 c1 c2 c3 : Value) (w : World) (hM : Mb M w) (h : RR M w d t c0 c1 c2 c3) (hT : qaM d t = true ∨ TB d t) :
  Calls Tryz.prog 71 #[.agg #[c0,c1,c2,c3]] w (qaU M w 4 (qaj d t)):=by
 cases d with
 | zero=>exact h.elim
 | succ d=>
 obtain ⟨rfl,rfl,⟨a,p,rfl⟩,ka,kp,rfl⟩:=h.form;have hE0:Ext w ((w.alloc (.cells #[.int .i64 t.1,.bool t.2.1.neg,.slice a t.2.1.n p,.slice ka t.2.2.1 kp] 33)).alloc (.cells #[.int .i64 0,.bool false,.slice none 0 0,.slice none 0 0] 33)):=((Ext.refl w).alloc _).alloc _;have hB0:=(Blk.of_arr w #[.int .i64 t.1,.bool t.2.1.neg,.slice a t.2.1.n p,.slice ka t.2.2.1 kp] 33 4 rfl).alloc (.cells #[.int .i64 0,.bool false,.slice none 0 0,.slice none 0 0] 33);have hB1:=Blk.of_arr (w.alloc (.cells #[.int .i64 t.1,.bool t.2.1.neg,.slice a t.2.1.n p,.slice ka t.2.2.1 kp] 33)) #[.int .i64 0,.bool false,.slice none 0 0,.slice none 0 0] 33 4 rfl;have h2:RR (Mx M w.heap.size (w.heap.size+2)) _ (d+1) t _ _ _ _:=(RR.more (Mx.more (Nat.le_refl _)) h).ext hE0;have hM2:Mb (Mx M w.heap.size (w.heap.size+2)) ((w.alloc (.cells #[.int .i64 t.1,.bool t.2.1.neg,.slice a t.2.1.n p,.slice ka t.2.2.1 kp] 33)).alloc (.cells #[.int .i64 0,.bool false,.slice none 0 0,.slice none 0 0] 33)):=Mx.mb hM (by simp;omega) (by simp);simp only [World.size_alloc] at hB1;have hcan:=qdm (d+1) _ t _ _ _ _ _ h2;cases hc:qaM (d+1) t
 ·have hT2:TB (d+1) t:=hT.resolve_left (by rw [hc];exact Bool.false_ne_true);rw [hc] at hcan
  go_enter Tryz.func71,Tryz.ntmps71
  go_wp2_with (fail);refine hcan.mono ?_;rintro e w1 ⟨rfl,he1⟩;have hB2:=hB0.ext he1;have x0:=hB2.cell (i:=0) (by omega);have x1:=hB2.cell (i:=1) (by omega);have x2:=hB2.cell (i:=2) (by omega);have x3:=hB2.cell (i:=3) (by omega);simp only [arr] at x0 x1 x2 x3;have HX:Hid (RR (Mx M w.heap.size (w.heap.size+2)) w1 (d+1) t (.int .i64 t.1) (.bool t.2.1.neg) (.slice a t.2.1.n p) (.slice ka t.2.2.1 kp)):=RR.ext h2 he1;have HM2:=Lib.hid (hM2.ext he1);have HB3:=Lib.hid (hB1.ext he1);have HE3:=Lib.hid (hE0.trans he1);have hco:=qfO (d+1) (Mx M w.heap.size (w.heap.size+2)) w1.heap.size t _ _ _ _ (.slice none 0 0) 0 (fun _=>0) (fun _=>⟨false,none,0,0,Mo.zero⟩) Mo.zero w1 (Nat.le_refl _) (RR.more (fun g hg=>hg) HX.out) ⟨Own.nil _ _ _ _ _,fun i hi=>by omega⟩ (by have:=hT2.2.1;omega) (qlK hT2.1);have HCO:=Lib.hid hco;have HT2:=Lib.hid hT2;clear hco hT2 hT h h2 hE0 hB0 hB1 hM2 hcan he1;go_wp2_with (fail);refine HCO.out.mono ?_;rintro e w2 ⟨v',n',z',x',rfl,hR,hx,hg,_⟩
  have hx':xls n' z' x'=qaj (d+1) t:=by rw [hx,qbl];rfl
  have HXL:=Lib.hid hx';have he2:Ext w1 w2:=qaw hg
  have hn':n'<=1099511627776:=by have:=congrArg List.length hx';rw [qeZ] at this;have:=HT2.out.2.1;omega
  have hV:=hR.toV (fun g hg=>HM2.out.new hg) hn';rw [hx'] at hV;have HV:=Lib.hid hV;clear hx hx' hR hg hV hn';go_wp2_with (fail);refine (qlz _ v' (qaj (d+1) t) w2 (HM2.out.ext he2) HV.out HT2.out.2.2.1).mono ?_;rintro e w3 ⟨u,rfl,hu,he3⟩;have HU:=Lib.hid hu;clear hu;go_wp2_with (fail);refine (qk0 (HM2.out.ext (he2.trans he3)) HU.out HT2.out.2.2.2).mono ?_;rintro e w4 ⟨d0,d1,d2,d3,rfl,hCR,he4⟩;obtain ⟨lv,bb,a',n',p',ka',kn',kp',rfl,rfl,rfl,rfl,_⟩:=hCR.form;have hE4:=(he2.trans he3).trans he4;obtain ⟨⟨q0,q1,q2,q3⟩,⟨f0,f1,f2,f3⟩,⟨r0,r1,r2,r3⟩,HF⟩:=qit (M:=M) (w:=w) (HB3.out.ext hE4) (Mx.at (by omega)) (by omega) (HE3.out.trans hE4) (hCR.sim (qnU (qgg _ t))) Mx.sub;clear hCR hE4 he4 he2 he3;go_wp2;exact bodyPost_ret (v:=.agg #[.int .i64 lv,.bool bb,.slice a' n' p',.slice ka' kn' kp']) (by simp [results,Tryz.results71,go_sem,r0,r1,r2,r3]) rfl HF.out
 ·rw [hc] at hcan;have HCR:=Lib.hid (RR.cr h2 hc);clear hT hc
  go_enter Tryz.func71,Tryz.ntmps71
  go_wp2_with (fail);refine hcan.mono ?_;rintro e w1 ⟨rfl,he1⟩;have hB2:=hB0.ext he1;have x0:=hB2.cell (i:=0) (by omega);have x1:=hB2.cell (i:=1) (by omega);have x2:=hB2.cell (i:=2) (by omega);have x3:=hB2.cell (i:=3) (by omega);simp only [arr] at x0 x1 x2 x3;obtain ⟨⟨q0,q1,q2,q3⟩,⟨f0,f1,f2,f3⟩,⟨r0,r1,r2,r3⟩,HF⟩:=qit (M:=M) (w:=w) (hB1.ext he1) (Mx.at (by omega)) (by omega) (hE0.trans he1) (HCR.out.ext he1) Mx.sub;clear h h2 hE0 hB0 hB1 hM2 hcan he1 hB2;go_wp2;exact bodyPost_ret (v:=.agg #[.int .i64 t.1,.bool t.2.1.neg,.slice a t.2.1.n p,.slice ka t.2.2.1 kp]) (by simp [results,Tryz.results71,go_sem,r0,r1,r2,r3]) rfl HF.out


def qi3 (D:Nat):Prop:=∀ (M:Nat->Prop) (l:List Tm) (c0 c1 c2 c3:Value) (w:World),Mb M w->CR M w D c0 c1 c2 c3 l->Calls Tryz.prog 57 #[.agg #[c0,c1,c2,c3]] w (qaU M w D l)
theorem qnd (L:Nat) (ih : ∀ D,D<L->qi3 D):qi3 L:=by
 intro M l c0 c1 c2 c3 w hM h;obtain ⟨i0,hi,hz0,hz1,hz2⟩:=info_parts Tryz.info33;obtain ⟨lv,bb,a,n0,p,ka,n,cap,rfl,rfl,rfl,rfl,hl0,hlL,hl4⟩:=h.form;have hE0:Ext w ((w.alloc (.cells #[.int .i64 lv,.bool bb,.slice a n0 p,.slice ka n cap] 33)).alloc (.cells #[.int .i64 0,.bool false,.slice none 0 0,.slice none 0 0] 33)):=((Ext.refl w).alloc _).alloc _;have hB0:=(Blk.of_arr w #[.int .i64 lv,.bool bb,.slice a n0 p,.slice ka n cap] 33 4 rfl).alloc (.cells #[.int .i64 0,.bool false,.slice none 0 0,.slice none 0 0] 33);have hB1:=Blk.of_arr (w.alloc (.cells #[.int .i64 lv,.bool bb,.slice a n0 p,.slice ka n cap] 33)) #[.int .i64 0,.bool false,.slice none 0 0,.slice none 0 0] 33 4 rfl;simp only [World.size_alloc] at hB1
 by_cases hz:lv=0
 ·subst hz;obtain ⟨z,hI,hS,hN,_⟩:=h.const_inv;have hI2:qbw (Mx M w.heap.size (w.heap.size+2)) _ _ _ z:=(hI.more (Mx.more (Nat.le_refl _))).ext hE0;have HI2:=Lib.hid hI2;have hM2:Mb (Mx M w.heap.size (w.heap.size+2)) ((w.alloc (.cells #[.int .i64 0,.bool bb,.slice a n0 p,.slice ka n cap] 33)).alloc (.cells #[.int .i64 0,.bool false,.slice none 0 0,.slice none 0 0] 33)):=Mx.mb hM (by simp;omega) (by simp);have HM2:=Lib.hid hM2;have HS:=Lib.hid hS;clear hI hI2 hM2 hS h
  go_enter Tryz.func57,Tryz.ntmps57
  go_wp2_with (fail);refine (qde _ _ z _ HM2.out HI2.out.toV).mono ?_;rintro e w1 ⟨d0,d1,rfl,hc,he⟩;obtain ⟨b2,a2,n2,p2,rfl,rfl⟩:=hc.form;obtain ⟨⟨q0,q1,q2,q3⟩,⟨f0,f1,f2,f3⟩,⟨r0,r1,r2,r3⟩,HF⟩:=qit (M:=M) (w:=w) (hB1.ext he) (Mx.at (by omega)) (by omega) (hE0.trans he) ((CR.const hc L).sim HS.out) Mx.sub;clear hB0 hB1 he hE0 hc;go_wp2;exact bodyPost_ret (v:=.agg #[.int .i64 0,.bool b2,.slice a2 n2 p2,.slice none 0 0]) (by simp [results,Tryz.results57,go_sem,r0,r1,r2,r3]) rfl HF.out
 ·obtain ⟨D,rfl,hD4,hDL,a',p',b,off,n1,cap1,P,hc1,hc2,hc3,hn2,hnL,hnc,hcm,hb,hMb,hk,hlow,hnz,hsim,_⟩:=h.node_inv hz;simp only [Value.bool.injEq,Value.slice.injEq] at hc1 hc2 hc3;obtain ⟨rfl,rfl,rfl⟩:=hc3;obtain ⟨rfl,rfl,rfl⟩:=hc2;subst hc1;have HKD:=Lib.hid hk;have HNZ:=Lib.hid hnz;have HSIM:=Lib.hid hsim;have hD0:(0:Int)<=(D:Int):=Int.natCast_nonneg _
  have hDz:((D:Int)+1 == 0)=false:=by simp;omega
  have HCI:=Lib.hid (ih D (by omega));clear hk hlow hnz hsim h hz ih
  go_enter Tryz.func57,Tryz.ntmps57
  go_wp2_with (first | (refine wpList_make_full _ rfl _ _ _ rfl (w.heap.size+2) 33 i0 (.agg #[.int .i64 0,.bool false,.slice none 0 0,.slice none 0 0]) 4 Tryz.underlying31 hi hz0 hz1 .i64 .i64 _ _ n rfl rfl ?c4 ?c5 ?c2 ?c3 ?c6 ?_))
  case c2=>rw [hz2];omega
  case c3=>unfold maxLen;omega
  case c4=>simp
  case c5=>simp
  case c6=>simp
  intro w1 hown hgrow;have hBk:=(Blk.made hown rfl (by omega)).congr (f':=zc4) (fun i _=>qbL i);have he1:=qaw hgrow;have hb0:=hB0.ext he1;have HB1:=Lib.hid (hB1.ext he1);have HE1:=Lib.hid (hE0.trans he1)
  have hs1:w.heap.size+3<=w1.heap.size:=by have:=hBk.lt;omega
  have HKF:Hid (qax (Mx M w.heap.size (w.heap.size+3)) w1 D (w.heap.size+2) n (fun _=>[])):=qax.fresh hBk;have x2:=hb0.cell (i:=3) (by omega);simp only [arr] at x2
  have hws:w.heap.size<w1.heap.size:=by omega
  have HB0:=Lib.hid hb0;clear hown hgrow hBk he1 hb0 hB0 hB1 hE0;go_wp2
  go_loopw [20] (fun i wr=>∃ k:Nat,k<=n/\i = .int .i64 k/\w.heap.size+3<=wr.heap.size/\Hid (qax (Mx M w.heap.size (w.heap.size+3)) wr D (w.heap.size+2) n (fun i=>if i<k then P i else []))/\Hid (Ext w wr)/\Hid (Blk wr w.heap.size 33 4 (arr #[.int .i64 ((D:Int)+1),.bool false,.slice a 0 p,.slice (some ⟨b,off,none⟩) n cap])) /\
   Hid (Blk wr (w.heap.size+1) 33 4 (arr #[.int .i64 0,.bool false,.slice none 0 0,.slice none 0 0]))) (fun i _=>n - (intOf i).toNat)
  case atStart=>exact ⟨0,Nat.zero_le _,rfl,hs1,HKF.out.congr fun i _=>by rw [if_neg (by omega)];exact Sim.refl _,HE1,HB0,HB1⟩
  case round=>
   clear HKF HE1 HB0 HB1 x2 hs1 hws;obtain ⟨k,hk,rfl,hsz,HK,HEW,HBW,HBR⟩:=hrel
   by_cases hlt:k<n
   ·obtain ⟨e0,e1,e2,e3,y0,y1,y2,y3,hCR⟩:=HKD.out k hlt;rw [<- HEW.out.cell hb] at y0 y1 y2 y3
    have hbw:b<wr.heap.size:=by omega
    obtain ⟨lv',b',a',n',p',ka',kn',kp',rfl,rfl,rfl,rfl,_⟩:=hCR.form;have hEa:Ext wr (wr.alloc (.cells #[.int .i64 lv',.bool b',.slice a' n' p',.slice ka' kn' kp'] 33)):=(Ext.refl wr).alloc _;have hCR2:CR (Mx M w.heap.size (w.heap.size+3)) _ D _ _ _ _ (P k):=((hCR.more (Mx.more (Nat.le_refl _))).ext HEW.out).ext hEa;have hM3:Mb (Mx M w.heap.size (w.heap.size+3)) (wr.alloc (.cells #[.int .i64 lv',.bool b',.slice a' n' p',.slice ka' kn' kp'] 33)):=Mx.mb hM (by simp;omega) (by simp;omega);have CTR:=Lib.hid (HCI.out _ _ _ _ _ _ _ hM3 hCR2);have HEA:=Lib.hid hEa;clear hCR hCR2 hM3 hEa;go_wp2_with (fail);refine (CTR.out).mono ?_;rintro e w4 ⟨d0,d1,d2,d3,rfl,hCR,he4⟩;obtain ⟨lv2,b2,a2,n2,p2,ka2,kn2,kp2,rfl,rfl,rfl,rfl,_⟩:=hCR.form;have he5:=HEA.out.trans he4;have hK4:=HK.out.ext he5;obtain ⟨⟨_,k0⟩,⟨_,k1⟩,⟨_,k2⟩,⟨_,k3⟩,hfr,hg4⟩:=hK4.at k hlt;have hf0:=hfr (k*4);have hf1:=hfr (k*4+1);have hf2:=hfr (k*4+2);have hf3:=hfr (k*4+3)
    have HK5:Hid (qax (Mx M w.heap.size (w.heap.size+3)) (set4 w4 (w.heap.size+2) (k*4) (.int .i64 lv2) (.bool b2) (.slice a2 n2 p2) (.slice ka2 kn2 kp2)) D (w.heap.size+2) n (fun i=>if i<k+1 then P i else [])):=by
     refine (hK4.set (Mx.at (by omega)) k hlt hCR).congr fun i _=>?_
     by_cases hik:i=k
     ·subst hik;rw [if_pos rfl,if_pos (by omega)];exact Sim.refl _
     ·rw [if_neg hik]
      by_cases h3:i<k
      ·rw [if_pos h3,if_pos (by omega)];exact Sim.refl _
      ·rw [if_neg h3,if_neg (by omega)];exact Sim.refl _
    have HE5:Hid (Ext w (set4 w4 (w.heap.size+2) (k*4) (.int .i64 lv2) (.bool b2) (.slice a2 n2 p2) (.slice ka2 kn2 kp2))):=(HEW.out.trans he5).set4 (by omega) _ _ _ _ _;have HB5:Hid (Blk (set4 w4 (w.heap.size+2) (k*4) (.int .i64 lv2) (.bool b2) (.slice a2 n2 p2) (.slice ka2 kn2 kp2)) w.heap.size _ _ _):=(HBW.out.ext he5).of_heap (qag _ _ _ _ _ _ _ _ (by omega));have HB6:Hid (Blk (set4 w4 (w.heap.size+2) (k*4) (.int .i64 lv2) (.bool b2) (.slice a2 n2 p2) (.slice ka2 kn2 kp2)) (w.heap.size+1) _ _ _):=(HBR.out.ext he5).of_heap (qag _ _ _ _ _ _ _ _ (by omega))
    have HSZ5:Hid (w.heap.size+3<=(set4 w4 (w.heap.size+2) (k*4) (.int .i64 lv2) (.bool b2) (.slice a2 n2 p2) (.slice ka2 kn2 kp2)).heap.size):=by show _<=_;rw [qaq];have:=he5.size;omega
    clear hK4 hfr hCR he4 he5;go_wp2
    go_roundw
    case rel=>exact ⟨k+1,by omega,by go_num,HSZ5.out,HK5,HE5,HB5,HB6⟩
    case measure=>simp [intOf];omega
   ·have hkn:k=n:=by omega
    subst hkn;have y0:=HBW.out.cell (i:=0) (by omega);simp only [arr] at y0
    have hws:w.heap.size<wr.heap.size:=by omega
    have HF2:Hid (CR (Mx M w.heap.size (w.heap.size+2)) wr L (.int .i64 ((D:Int)+1)) (.bool false) (.slice none 0 0) (.slice (some ⟨w.heap.size+2,0,none⟩) k k) l):=by
     refine (CR.sim (CR.node (D:=D) hD4 hn2 hnL (Nat.le_refl _) (by unfold maxLen;omega) (by omega) (fun hh=>hh.elim (hM.new (by omega)) (by omega)) (fun i hi=>HK.out.kid (fun g hg=>.inl (hg.imp id fun h=>by omega)) i hi) ?_) ?_).up hDL
     ·rw [if_pos (by omega)];exact HNZ.out
     ·exact (qaC _ _ _ _ fun i hi=>by rw [if_pos hi];exact Sim.refl _).trans HSIM.out
    obtain ⟨⟨q0,q1,q2,q3⟩,⟨f0,f1,f2,f3⟩,⟨r0,r1,r2,r3⟩,HF⟩:=qit (M:=M) (w:=w) HBR.out (Mx.at (by omega)) (by omega) HEW.out HF2.out Mx.sub;simp only [arr] at q0 q1 q2 q3;go_wp2;exact bodyPost_ret (v:=.agg #[.int .i64 ((D:Int)+1),.bool false,.slice none 0 0,.slice (some ⟨w.heap.size+2,0,none⟩) k k]) (by simp [results,Tryz.results57,go_sem,r0,r1,r2,r3]) rfl HF.out
theorem qqb (L:Nat):qi3 L:=by
 induction L using Nat.strongRecOn with
 | _ L ih=>exact qnd L fun D hD=>ih D hD


def qif (l r:List Tm):Bool:=decide (norm l=norm r)
theorem CR.nn {M:Nat->Prop} {w:World} {L:Nat} {c0 c1 c2 c3:Value} {l:List Tm} (h:CR M w L c0 c1 c2 c3 l) (m:Mo) (hm:m.nn=false):qab l m=0:=by
 obtain ⟨t,h1,h2,h3,h4⟩:=h;rw [<- h4 m]
 exact qaB fun s hs e=>by have:=qgg _ t s hs;rw [e,hm] at this;cases this
theorem qgj {l r:List Tm} (hl : ∀ m:Mo,m.nn=false->qab l m=0) (hr : ∀ m:Mo,m.nn=false->qab r m=0):qif l r=true↔Sim l r:=by
 unfold qif;rw [decide_eq_true_iff];constructor
 ·intro h m;cases hm:m.nn
  ·rw [hl m hm,hr m hm]
  ·exact qoh h m hm
 ·exact fun h=>h.norm
theorem qgw {D n:Nat} {P Q:Nat->List Tm} (hD:D+1<=4) (hP : ∀ i,i<n->Low D (P i)) (hQ : ∀ i,i<n->Low D (Q i)) (h:Sim (poly (D+1) n P) (poly (D+1) n Q)) (i:Nat) (hi:i<n):Sim (P i) (Q i):=by
 intro m
 by_cases hm:m.get (D+1)=0
 ·have:=h (Mo.add m (xp (D+1) (i:Int)))
  rwa [qdX (by omega) hD (fun i hi=>hP i hi) i hi m hm,qdX (by omega) hD (fun i hi=>hQ i hi) i hi m hm] at this
 ·rw [(hP i hi).coef (by omega) hD hm,(hQ i hi).coef (by omega) hD hm]
theorem CR.uniq {M M':Nat->Prop} {w w':World} {L L':Nat} {lv lv':Int} {c1 c2 d1 d2:Value} {ka ka':Option Addr} {kn kn' kp kp':Nat} {l r:List Tm} (h:CR M w L (.int .i64 lv) c1 c2 (.slice ka kn kp) l) (k:CR M' w' L' (.int .i64 lv') d1 d2 (.slice ka' kn' kp') r) (hs:Sim l r):lv=lv'/\kn=kn':=by
 obtain ⟨t,h1,h2,h3,h4⟩:=h;obtain ⟨u,k1,k2,k3,k4⟩:=k;obtain ⟨g1,g2,_,_⟩:=qkY h2 k2 h1.ok k1.ok (h4.trans (hs.trans k4.symm));obtain ⟨e1,_,_,a1,p1,e2⟩:=h1.form;obtain ⟨e3,_,_,a2,p2,e4⟩:=k1.form;simp only [Value.int.injEq,true_and] at e1 e3;simp only [Value.slice.injEq] at e2 e4;exact ⟨by omega,by omega⟩
def qiY (L:Nat):Prop:=∀ (M:Nat->Prop) (l r:List Tm) (c0 c1 c2 c3 d0 d1 d2 d3:Value) (w:World),CR M w L c0 c1 c2 c3 l->CR M w L d0 d1 d2 d3 r->Calls Tryz.prog 70 #[.agg #[c0,c1,c2,c3],.agg #[d0,d1,d2,d3]] w fun e w'=>e = .returned (.bool (qif l r))/\Ext w w'
theorem qlE (L:Nat) (ih : ∀ D,D<L->qiY D):qiY L:=by
 intro M l r c0 c1 c2 c3 d0 d1 d2 d3 w h k;obtain ⟨lv,bb,a,n0,p,ka,n,cap,rfl,rfl,rfl,rfl,hl0,hlL,hl4⟩:=h.form;obtain ⟨lv',bb',a',n0',p',ka',n',cap',rfl,rfl,rfl,rfl,kl0,klL,kl4⟩:=k.form;have HSB:Hid (qif l r=true↔Sim l r):=qgj h.nn k.nn;have HUQ:Hid (Sim l r->lv=lv'/\n=n'):=fun hs=>h.uniq k hs;have hE0:Ext w ((w.alloc (.cells #[.int .i64 lv,.bool bb,.slice a n0 p,.slice ka n cap] 33)).alloc (.cells #[.int .i64 lv',.bool bb',.slice a' n0' p',.slice ka' n' cap'] 33)):=((Ext.refl w).alloc _).alloc _
 by_cases hlv : ¬ lv=lv'
 ·have hd:(lv != lv')=true:=by simpa using hlv
  have HR:Hid (qif l r=false):=by
   cases hb:qif l r
   ·rfl
   ·exact absurd (HUQ.out (HSB.out.1 hb)).1 hlv
  clear h k hlv
  go_enter Tryz.func70,Tryz.ntmps70
  go_wp2;go_ret;exact ⟨by rw [HR.out];rfl,hE0⟩
 obtain rfl:lv=lv':=Decidable.not_not.1 hlv;clear hlv
 have hd:(lv != lv)=false:=by simp
 by_cases hn : ¬ n=n'
 ·have hd2:((n:Int) != (n':Int))=true:=by simp;omega
  have HR:Hid (qif l r=false):=by
   cases hb:qif l r
   ·rfl
   ·exact absurd (HUQ.out (HSB.out.1 hb)).2 hn
  clear h k hn
  go_enter Tryz.func70,Tryz.ntmps70
  go_wp2;go_ret;exact ⟨by rw [HR.out];rfl,hE0⟩
 obtain rfl:n=n':=Decidable.not_not.1 hn;clear hn
 have hd2:((n:Int) != (n:Int))=false:=by simp
 by_cases hz:lv=0
 ·subst hz;obtain ⟨x,hI,hS,_⟩:=h.const_inv;obtain ⟨y,hJ,hT,_⟩:=k.const_inv
  have HR:Hid (decide (x=y)=qif l r):=by
   show _=_;rw [Bool.eq_iff_iff,HSB.out,decide_eq_true_iff];constructor
   ·rintro rfl;exact hS.symm.trans hT
   ·intro hh;have:=(hS.trans (hh.trans hT.symm)) Mo.zero;simpa [qab] using this
  have HI:=Lib.hid (hI.toV.ext hE0);have HJ:=Lib.hid (hJ.toV.ext hE0);clear h k hI hJ hS hT
  go_enter Tryz.func70,Tryz.ntmps70
  go_wp2_with (fail);refine (qgI _ _ _ _ x y _ HI.out HJ.out).mono ?_;rintro e w1 ⟨rfl,he⟩;go_wp2;go_ret;exact ⟨by rw [<- HR.out];rfl,hE0.trans he⟩
 ·obtain ⟨D,rfl,hD4,hDL,_,_,b,off,n1,cap1,P,hc1,hc2,hc3,hn2,hnL,hnc,hcm,hb,hMb,hkid,hlow,hnz,hsim,_⟩:=h.node_inv hz;obtain ⟨D',hDD,_,_,_,_,b',off',n1',cap1',Q,kc1,kc2,kc3,kn2,knL,knc,kcm,kb,kMb,kkid,klow,knz,ksim,_⟩:=k.node_inv hz
  have:D'=D:=by omega
  subst this;simp only [Value.slice.injEq] at hc3 kc3;obtain ⟨rfl,rfl,rfl⟩:=hc3;obtain ⟨rfl,rfl,rfl⟩:=kc3;clear hc1 hc2 kc1 kc2;have HKD:=Lib.hid hkid;have HKE:=Lib.hid kkid;have HINJ:Hid (Sim l r -> ∀ i,i<n->Sim (P i) (Q i)):=fun hs=>qgw hD4 hlow klow (hsim.trans (hs.trans ksim.symm));have HCON:Hid ((∀ i,i<n->Sim (P i) (Q i))->Sim l r):=fun hs=>hsim.symm.trans ((qaC _ _ _ _ hs).trans ksim);have hD0:(0:Int)<=(D':Int):=Int.natCast_nonneg _
  have hDz:((D':Int)+1 == 0)=false:=by simp;omega
  have HCI:=Lib.hid (ih D' (by omega));clear h k hkid kkid hlow klow hnz knz hsim ksim hz ih hDD;have B0:=(Blk.of_arr w #[.int .i64 ((D':Int)+1),.bool bb,.slice a n0 p,.slice (some ⟨b,off,none⟩) n cap] 33 4 rfl).alloc (.cells #[.int .i64 ((D':Int)+1),.bool bb',.slice a' n0' p',.slice (some ⟨b',off',none⟩) n cap'] 33);have B1:=Blk.of_arr (w.alloc (.cells #[.int .i64 ((D':Int)+1),.bool bb,.slice a n0 p,.slice (some ⟨b,off,none⟩) n cap] 33)) #[.int .i64 ((D':Int)+1),.bool bb',.slice a' n0' p',.slice (some ⟨b',off',none⟩) n cap'] 33 4 rfl;simp only [World.size_alloc] at B1;have HB0:=Lib.hid B0;have HB1:=Lib.hid B1;have HE0:=Lib.hid hE0;clear B0 B1
  go_enter Tryz.func70,Tryz.ntmps70
  go_wp2
  go_loopw [31] (fun i wr=>∃ k:Nat,k<=n/\i = .int .i64 k/\Hid (∀ i,i<k->Sim (P i) (Q i))/\Hid (Ext ((w.alloc (.cells #[.int .i64 ((D':Int)+1),.bool bb,.slice a n0 p,.slice (some ⟨b,off,none⟩) n cap] 33)).alloc (.cells #[.int .i64 ((D':Int)+1),.bool bb',.slice a' n0' p',.slice (some ⟨b',off',none⟩) n cap'] 33)) wr)) (fun i _=>n - (intOf i).toNat)
  case atStart=>exact ⟨0,Nat.zero_le _,rfl,fun i hi=>by omega,Ext.refl _⟩
  case round=>
   obtain ⟨k,hk,rfl,HQ,HER⟩:=hrel;have hsz:=HER.out.size;simp only [World.size_alloc] at hsz;have HEW:=Lib.hid (HE0.out.trans HER.out);have z3:=(HB0.out.ext HER.out).cell (i:=3) (by omega);have z7:=(HB1.out.ext HER.out).cell (i:=3) (by omega);simp only [arr] at z3 z7
   have hbw:b<wr.heap.size:=by omega
   have hbw':b'<wr.heap.size:=by omega
   have hw0:w.heap.size<wr.heap.size:=by omega
   have hw1:w.heap.size+1<wr.heap.size:=by omega
   by_cases hlt:k<n
   ·obtain ⟨e0,e1,e2,e3,y0,y1,y2,y3,hCR⟩:=HKD.out k hlt;obtain ⟨f0,f1,f2,f3,u0,u1,u2,u3,kCR⟩:=HKE.out k hlt;rw [<- HEW.out.cell hb] at y0 y1 y2 y3;rw [<- HEW.out.cell kb] at u0 u1 u2 u3;obtain ⟨lv1,b1,a1,n1,p1,ka1,kn1,kp1,rfl,rfl,rfl,rfl,_⟩:=hCR.form;obtain ⟨lv2,b2,a2,n2,p2,ka2,kn2,kp2,rfl,rfl,rfl,rfl,_⟩:=kCR.form;have CTR:=Lib.hid (HCI.out _ _ _ _ _ _ _ _ _ _ _ _ ((hCR.ext HEW.out).ext (Ext.refl wr).drew) ((kCR.ext HEW.out).ext (Ext.refl wr).drew));have HSK:Hid (qif (P k) (Q k)=true↔Sim (P k) (Q k)):=qgj hCR.nn kCR.nn;clear hCR kCR
    have hlt':(k:Int)<(n:Int):=by omega
    have hk0:(0:Int)<=(k:Int):=by omega
    cases hsk:qif (P k) (Q k)
    ·rw [hsk] at CTR;go_wp2
     go_still_tail 10,(by kernel_rfl)
     change wpList _ _ _ _ _ wr.drew;go_wp2_with (fail);refine (CTR.out).mono ?_;rintro e w1 ⟨rfl,he⟩;have HF:Hid (Ext w w1):=HEW.out.trans (((Ext.refl wr).drew).trans he)
     have HR:Hid (qif l r=false):=by
      cases hbs:qif l r
      ·rfl
      ·have:=HSK.out.2 (HINJ.out (HSB.out.1 hbs) k hlt);rw [hsk] at this;cases this
     clear he;go_wp2;go_ret;exact ⟨by rw [HR.out];rfl,HF.out⟩
    ·rw [hsk] at CTR;go_wp2
     go_still_tail 10,(by kernel_rfl)
     change wpList _ _ _ _ _ wr.drew;go_wp2_with (fail);refine (CTR.out).mono ?_;rintro e w1 ⟨rfl,he⟩;have HF:Hid (Ext ((w.alloc (.cells #[.int .i64 ((D':Int)+1),.bool bb,.slice a n0 p,.slice (some ⟨b,off,none⟩) n cap] 33)).alloc (.cells #[.int .i64 ((D':Int)+1),.bool bb',.slice a' n0' p',.slice (some ⟨b',off',none⟩) n cap'] 33)) w1):=HER.out.trans (((Ext.refl wr).drew).trans he)
     have HQ2:Hid (∀ i,i<k+1->Sim (P i) (Q i)):=fun i hi=>if h:i<k then HQ.out i h else by
      have:i=k:=by omega
      subst this;exact HSK.out.1 hsk
     clear he;go_wp2
     go_roundw
     case rel=>exact ⟨k+1,by omega,by go_num,HQ2,HF⟩
     case measure=>simp [intOf];omega
   ·have hkn:k=n:=by omega
    subst hkn;have HR:Hid (qif l r=true):=HSB.out.2 (HCON.out HQ.out);go_wp2;go_ret;exact ⟨by rw [HR.out];rfl,HEW.out⟩
theorem qqa (L:Nat):qiY L:=by
 induction L using Nat.strongRecOn with
 | _ L ih=>exact qlE L fun D hD=>ih D hD


def qbA (M:Nat->Prop) (w:World) (D:Nat) (v:Value) (N:Nat) (P:Nat->List Tm):Prop:=
 N<=1099511627776/\((v = .slice none 0 0/\N=0) ∨ ∃ b off cap,v = .slice (some ⟨b,off,none⟩) N cap/\N<=cap/\cap<=maxLen/\(b<w.heap.size /\ ¬ M b) /\ ∀ i,i<N->Kid M w D b (off+i*4) (P i))
section
variable {M M':Nat->Prop} {w w':World} {D:Nat} {v:Value} {N:Nat} {P Q:Nat->List Tm}
theorem Kid.kp {b o:Nat} {l:List Tm} (h:Kid M w D b o l) (hb:b<w.heap.size) (hM : ¬ M b) (he:Kp M w w'):Kid M w' D b o l:=by
 obtain ⟨e0,e1,e2,e3,x0,x1,x2,x3,hc⟩:=h;exact ⟨e0,e1,e2,e3,by rw [he.cell hb hM];exact x0,by rw [he.cell hb hM];exact x1,by rw [he.cell hb hM];exact x2,by rw [he.cell hb hM];exact x3,hc.kp he⟩
theorem Kid.more {b o:Nat} {l:List Tm} (h:Kid M w D b o l) (hm : ∀ g,M' g->M g∨w.heap.size<=g):Kid M' w D b o l:=by
 obtain ⟨e0,e1,e2,e3,x0,x1,x2,x3,hc⟩:=h;exact ⟨e0,e1,e2,e3,x0,x1,x2,x3,hc.more hm⟩
theorem Kid.sim {b o:Nat} {l r:List Tm} (h:Kid M w D b o l) (hs:Sim l r):Kid M w D b o r:=by
 obtain ⟨e0,e1,e2,e3,x0,x1,x2,x3,hc⟩:=h;exact ⟨e0,e1,e2,e3,x0,x1,x2,x3,hc.sim hs⟩
theorem qbA.kp (h:qbA M w D v N P) (he:Kp M w w'):qbA M w' D v N P:=by
 obtain ⟨h1,h2⟩:=h;refine ⟨h1,?_⟩;rcases h2 with h2 | ⟨b,off,cap,hv,hn,hc,hb,hk⟩
 ·exact .inl h2
 ·exact .inr ⟨b,off,cap,hv,hn,hc,⟨Nat.lt_of_lt_of_le hb.1 he.1,hb.2⟩,fun i hi=>(hk i hi).kp hb.1 hb.2 he⟩
theorem qbA.ext (h:qbA M w D v N P) (he:Ext w w'):qbA M w' D v N P:=h.kp (Kp.of_ext he)
theorem qbA.more (h:qbA M w D v N P) (hm : ∀ g,M' g->M g∨w.heap.size<=g):qbA M' w D v N P:=by
 obtain ⟨h1,h2⟩:=h;refine ⟨h1,?_⟩;rcases h2 with h2 | ⟨b,off,cap,hv,hn,hc,hb,hk⟩
 ·exact .inl h2
 ·exact .inr ⟨b,off,cap,hv,hn,hc,⟨hb.1,fun k=>(hm b k).elim hb.2 (by omega)⟩,fun i hi=>(hk i hi).more hm⟩
theorem qbA.form (h:qbA M w D v N P) : ∃ a cap,v = .slice a N cap:=by
 rcases h.2 with ⟨rfl,rfl⟩ | ⟨b,off,cap,rfl,_⟩
 ·exact ⟨_,_,rfl⟩
 ·exact ⟨_,_,rfl⟩
theorem qbA.at {a:Option Addr} {cap:Nat} (h:qbA M w D (.slice a N cap) N P) (i:Nat) (hi:i<N) : ∃ b off,a=some ⟨b,off,none⟩/\N<=cap/\cap<=maxLen/\b<w.heap.size /\ ¬ M b/\Kid M w D b (off+i*4) (P i):=by
 rcases h.2 with ⟨_,h0⟩ | ⟨b,off,cap',hv,hn,hc,hb,hk⟩
 ·omega
 ·simp only [Value.slice.injEq,true_and] at hv;obtain ⟨rfl,rfl⟩:=hv;exact ⟨b,off,rfl,hn,hc,hb.1,hb.2,hk i hi⟩
theorem qbA.of_kids {g:Nat} (h:qax M w D g N P) (hg : ¬ M g) (hN:N<=1099511627776):qbA M w D (.slice (some ⟨g,0,none⟩) N N) N P:=by
 refine ⟨hN,.inr ⟨g,0,N,rfl,Nat.le_refl _,by unfold maxLen;omega,⟨?_,hg⟩,fun i hi=>h.kid (fun g hg=>.inl hg) i hi⟩⟩;obtain ⟨f,hB,_⟩:=h;exact hB.lt
theorem qbA.congr (h:qbA M w D v N P) (hs : ∀ i,i<N->Sim (P i) (Q i)):qbA M w D v N Q:=by
 obtain ⟨h1,h2⟩:=h;refine ⟨h1,?_⟩;rcases h2 with h2 | ⟨b,off,cap,hv,hn,hc,hb,hk⟩
 ·exact .inl h2
 ·exact .inr ⟨b,off,cap,hv,hn,hc,hb,fun i hi=>(hk i hi).sim (hs i hi)⟩
end
theorem qda {L n N:Nat} {P:Nat->List Tm} (h:n<=N) (hz : ∀ i,n<=i->i<N->Sim (P i) []):Sim (poly L n P) (poly L N P):=by
 obtain ⟨k,rfl⟩ : ∃ k,N=n+k:=⟨N - n,by omega⟩;clear h
 induction k with
 | zero=>exact Sim.refl _
 | succ k ih=>
  rw [<- Nat.add_assoc,qaf];refine (ih fun i h1 h2=>hz i h1 (by omega)).trans ?_;have h1:=((hz (n+k) (by omega) (by omega)).shift (xp L ((n+k:Nat):Int)));have h2:=(Sim.refl (poly L (n+k) P)).append h1.symm;simpa [shift] using h2
theorem qli (L:Nat):xp L 0=Mo.zero:=by unfold xp Mo.zero;simp
theorem qjp (L:Nat) (P:Nat->List Tm):Sim (poly L 1 P) (P 0):=by
 rw [qaf,qbD,List.nil_append];show Sim (shift (xp L ((0:Nat):Int)) (P 0)) (P 0);rw [show ((0:Nat):Int)=0 from rfl,qli,qbl];exact Sim.refl _
theorem qir (M : Nat -> Prop) (D : Nat) (v : Value) (N : Nat) (P : Nat -> List Tm) (w : World) (hM : Mb M w) (hD : D + 1 <= 4) (h : qbA M w D v N P) :
  Calls Tryz.prog 58 #[.int .i64 ((D:Int)+1),v] w (qaU M w (D+1) (poly (D+1) N P)):=by
 obtain ⟨a,cap,rfl⟩:=h.form;have HR:=Lib.hid h;have hNL:=h.1;have hE0:Ext w (w.alloc (.cells #[.int .i64 0,.bool false,.slice none 0 0,.slice none 0 0] 33)):=(Ext.refl w).alloc _;have hB0:=Blk.of_arr w #[.int .i64 0,.bool false,.slice none 0 0,.slice none 0 0] 33 4 rfl;have HE0:=Lib.hid hE0;have HB0:=Lib.hid hB0;clear h hE0 hB0
 go_enter Tryz.func58,Tryz.ntmps58
 go_wp2
 go_loopw [5] (fun i wr=>∃ k:Nat,k<=N/\i = .int .i64 k/\Hid (∀ i,k<=i->i<N->Sim (P i) [])/\Hid (Ext (w.alloc (.cells #[.int .i64 0,.bool false,.slice none 0 0,.slice none 0 0] 33)) wr)) (fun i _=>(intOf i).toNat)
 case atStart=>exact ⟨N,Nat.le_refl _,rfl,fun i h1 h2=>by omega,Ext.refl _⟩
 case round=>
  obtain ⟨k,hk,rfl,HZ,HER⟩:=hrel;have hsz:=HER.out.size;simp only [World.size_alloc] at hsz;have HEW:=Lib.hid (HE0.out.trans HER.out);have HBR:=Lib.hid (HB0.out.ext HER.out);have HRR:=Lib.hid ((HR.out.more (M':=Mx M w.heap.size (w.heap.size+1)) (Mx.more (Nat.le_refl _))).ext HEW.out)
  by_cases hk0:k=0
  ·subst hk0;obtain ⟨⟨q0,q1,q2,q3⟩,⟨f0,f1,f2,f3⟩,⟨r0,r1,r2,r3⟩,HF⟩:=qit (M:=M) (w:=w) HBR.out (Mx.at (by omega)) (by omega) HEW.out ((CR.zero (Mx M w.heap.size (w.heap.size+1)) wr (D+1)).sim (qda (P:=P) (L:=D+1) (Nat.zero_le N) HZ.out)) Mx.sub;simp only [arr] at q0 q1 q2 q3;go_wp2;exact bodyPost_ret (v:=.agg #[.int .i64 0,.bool false,.slice none 0 0,.slice none 0 0]) (by simp [results,Tryz.results58,go_sem,r0,r1,r2,r3]) rfl HF.out
  ·obtain ⟨j,rfl⟩ : ∃ j,k=j+1:=⟨k - 1,by omega⟩;obtain ⟨b,off,rfl,hnc,hcm,hb,hMb,hKid⟩:=HRR.out.at j (by omega);obtain ⟨e0,e1,e2,e3,y0,y1,y2,y3,hCR⟩:=hKid;obtain ⟨lv',b',a',n',p',ka',kn',kp',rfl,rfl,rfl,rfl,hl',_⟩:=hCR.form
   have hj0:(0:Int)<=(j:Int):=by omega
   have hjN:(j:Int)<(N:Int):=by omega
   have hzi:=hCR.isz;have ctr:=qbU lv' b' a' n' p' ka' kn' kp' wr;cases hzb:qfp lv' n'
   ·rw [hzb] at ctr
    have HNZ:Hid (¬ Sim (P j) []):=fun hs=>by have:=hzi.2 hs;rw [hzb] at this;cases this
    clear hCR hzi
    by_cases hj:j=0
    ·subst hj;obtain ⟨b2,off2,e5,_,_,_,_,e0,e1,e2,e3,u0,u1,u2,u3,hCR⟩:=HRR.out.at 0 (by omega);simp only [Option.some.injEq,Addr.mk.injEq,and_true] at e5;obtain ⟨rfl,rfl⟩:=e5;rw [Nat.zero_mul,Nat.add_zero] at u0 u1 u2 u3 y0 y1 y2 y3;rw [y0] at u0;rw [y1] at u1;rw [y2] at u2;rw [y3] at u3;cases u0;cases u1;cases u2;cases u3;go_wp2_with (fail);refine ctr.mono ?_;rintro e w1 ⟨rfl,he1⟩;have hsz1:=he1.size;rw [<- he1.cell hb] at y0 y1 y2 y3;obtain ⟨⟨q0,q1,q2,q3⟩,⟨f0,f1,f2,f3⟩,⟨r0,r1,r2,r3⟩,HF⟩:=qit (M:=M) (w:=w) (L:=D+1) (HBR.out.ext he1) (Mx.at (by omega)) (by omega) (HEW.out.trans he1) (((hCR.ext he1).up (show D<=D+1 by omega)).sim ((qjp (D+1) P).symm.trans (qda (P:=P) (L:=D+1) (show 1<=N by omega) HZ.out))) Mx.sub;simp only [arr] at q0 q1 q2 q3
     have hb1:b<w1.heap.size:=by omega
     clear hCR he1 ctr;go_wp2;exact bodyPost_ret (v:=.agg #[.int .i64 lv',.bool b',.slice a' n' p',.slice ka' kn' kp']) (by simp [results,Tryz.results58,go_sem,r0,r1,r2,r3]) rfl HF.out
    ·have dj:((j:Int)+1 == 1)=false:=by simp;omega
     have dj0:((j:Int)+1 == 0)=false:=by simp;omega
     go_wp2_with (fail);refine ctr.mono ?_;rintro e w1 ⟨rfl,he1⟩
     have hF2:CR (Mx M w.heap.size (w.heap.size+1)) w1 (D+1) (.int .i64 ((D:Int)+1)) (.bool false) (.slice none 0 0) (.slice (some ⟨b,off,none⟩) (j+1) (j+1)) (poly (D+1) N P):=by
      refine CR.sim (CR.node (D:=D) hD (by omega) (by omega) (Nat.le_refl _) (by unfold maxLen;omega) (by have:=he1.size;omega) hMb (fun i hi=>?_) ?_) (qda (P:=P) hk HZ.out)
      ·obtain ⟨b2,off2,e5,_,_,hb2,hM2,hKid⟩:=HRR.out.at i (by omega);simp only [Option.some.injEq,Addr.mk.injEq,and_true] at e5;obtain ⟨rfl,rfl⟩:=e5;exact hKid.kp hb2 hM2 (Kp.of_ext he1)
      ·exact HNZ.out
     obtain ⟨⟨q0,q1,q2,q3⟩,⟨f0,f1,f2,f3⟩,⟨r0,r1,r2,r3⟩,HF⟩:=qit (M:=M) (w:=w) (HBR.out.ext he1) (Mx.at (by omega)) (by omega) (HEW.out.trans he1) hF2 Mx.sub;simp only [arr] at q0 q1 q2 q3;clear he1 ctr hF2;go_wp2;exact bodyPost_ret (v:=.agg #[.int .i64 ((D:Int)+1),.bool false,.slice none 0 0,.slice (some ⟨b,off,none⟩) (j+1) (j+1)]) (by simp [results,Tryz.results58,go_sem,r0,r1,r2,r3]) rfl HF.out
   ·rw [hzb] at ctr
    have HZ2:Hid (∀ i,j<=i->i<N->Sim (P i) []):=fun i h1 h2=>if h:i=j then by subst h;exact hzi.1 hzb else HZ.out i (by omega) h2
    clear hCR hzi;go_wp2_with (fail);refine ctr.mono ?_;rintro e w1 ⟨rfl,he1⟩;have HE2:=Lib.hid (HER.out.trans he1);clear he1 ctr;go_wp2
    go_roundw
    case rel=>exact ⟨j,by omega,rfl,HZ2,HE2⟩
    case measure=>simp [intOf]


structure PE where
 lv:Int
 b:Bool
 a:Option Addr
 n:Nat
 p:Nat
 ka:Option Addr
 kn:Nat
 kp:Nat
def PE.z:PE:=⟨0,false,none,0,0,none,0,0⟩
abbrev peA (x:PE):Array Value:=#[.int .i64 x.lv,.bool x.b,.slice x.a x.n x.p,.slice x.ka x.kn x.kp]
def CRx (M:Nat->Prop) (w:World) (D:Nat) (x:PE) (l:List Tm):Prop:=CR M w D (.int .i64 x.lv) (.bool x.b) (.slice x.a x.n x.p) (.slice x.ka x.kn x.kp) l
def px (x:Nat->PE):Nat->Value:=fun j=>if j % 4=0 then .int .i64 (x (j / 4)).lv else if j % 4=1 then .bool (x (j / 4)).b else if j % 4=2 then .slice (x (j / 4)).a (x (j / 4)).n (x (j / 4)).p else .slice (x (j / 4)).ka (x (j / 4)).kn (x (j / 4)).kp
theorem px0 (x:Nat->PE) (i:Nat):px x (i*4) = .int .i64 (x i).lv:=by unfold px;rw [if_pos (by omega),show i*4 / 4=i by omega]
theorem px1 (x:Nat->PE) (i:Nat):px x (i*4+1) = .bool (x i).b:=by unfold px;rw [if_neg (by omega),if_pos (by omega),show (i*4+1) / 4=i by omega]
theorem px2 (x:Nat->PE) (i:Nat):px x (i*4+2) = .slice (x i).a (x i).n (x i).p:=by unfold px;rw [if_neg (by omega),if_neg (by omega),if_pos (by omega),show (i*4+2) / 4=i by omega]
theorem px3 (x:Nat->PE) (i:Nat):px x (i*4+3) = .slice (x i).ka (x i).kn (x i).kp:=by unfold px;rw [if_neg (by omega),if_neg (by omega),if_neg (by omega),show (i*4+3) / 4=i by omega]
def qc0 {α:Type} (x:Nat->α) (n:Nat) (t:α):Nat->α:=fun i=>if i=n then t else x i
theorem qa6 {α:Type} (x:Nat->α) (n:Nat) (t:α):qc0 x n t n=t:=by unfold qc0;rw [if_pos rfl]
theorem qbB {α:Type} (x:Nat->α) (n:Nat) (t:α) (i:Nat) (h:i<n):qc0 x n t i=x i:=by unfold qc0;rw [if_neg (by omega)]
theorem qhy (x:Nat->PE) (n:Nat) (t:PE) (j:Nat) (hj:j<(n+1)*4):app (px x) (n*4) (arr (peA t)) j=px (qc0 x n t) j:=by
 unfold app
 by_cases h:j<n*4
 ·rw [if_pos h];unfold px;rw [qbB _ _ _ _ (by omega)]
 ·rw [if_neg h];obtain ⟨r,rfl,hr⟩ : ∃ r,j=n*4+r/\r<4:=⟨j - n*4,by omega,by omega⟩;rw [Nat.add_sub_cancel_left]
  match r,hr with
  | 0,_=>rw [Nat.add_zero,px0,qa6];rfl
  | 1,_=>rw [px1,qa6];rfl
  | 2,_=>rw [px2,qa6];rfl
  | 3,_=>rw [px3,qa6];rfl
theorem qhD (x:PE) (j:Nat) (hj:j<4):(arr (peA x) j).oneCell'=true:=by
 match j,hj with
 | 0,_=>rfl
 | 1,_=>rfl
 | 2,_=>rfl
 | 3,_=>rfl
section
variable {M M':Nat->Prop} {w w':World} {D:Nat} {x:PE} {l r:List Tm}
theorem CRx.kp (h:CRx M w D x l) (he:Kp M w w'):CRx M w' D x l:=CR.kp h he
theorem CRx.ext (h:CRx M w D x l) (he:Ext w w'):CRx M w' D x l:=CR.ext h he
theorem CRx.more (h:CRx M w D x l) (hm : ∀ g,M' g->M g∨w.heap.size<=g):CRx M' w D x l:=CR.more h hm
theorem CR.pe {c0 c1 c2 c3:Value} (h:CR M w D c0 c1 c2 c3 l) : ∃ x:PE,c0 = .int .i64 x.lv/\c1 = .bool x.b/\c2 = .slice x.a x.n x.p/\c3 = .slice x.ka x.kn x.kp/\CRx M w D x l/\0<=x.lv/\x.lv<=D/\x.lv<=4:=by
 obtain ⟨lv,b,a,n,p,ka,kn,kp,rfl,rfl,rfl,rfl,h1,h2,h3⟩:=h.form;exact ⟨⟨lv,b,a,n,p,ka,kn,kp⟩,rfl,rfl,rfl,rfl,h,h1,h2,h3⟩
end
def qaZ (w:World) (b o:Nat) (x:PE):Prop:=w.cell? ⟨b,o,none⟩=some (.int .i64 x.lv)/\w.cell? ⟨b,o+1,none⟩=some (.bool x.b)/\w.cell? ⟨b,o+2,none⟩=some (.slice x.a x.n x.p)/\w.cell? ⟨b,o+3,none⟩=some (.slice x.ka x.kn x.kp)
theorem qaZ.ext {w w':World} {b o:Nat} {x:PE} (h:qaZ w b o x) (hb:b<w.heap.size) (he:Ext w w'):qaZ w' b o x:=by
 unfold qaZ;rw [he.cell hb,he.cell hb,he.cell hb,he.cell hb];exact h
theorem qbA.x {M:Nat->Prop} {w:World} {D:Nat} {a:Option Addr} {N cap:Nat} {P:Nat->List Tm} (h:qbA M w D (.slice a N cap) N P) : ∃ x:Nat->PE,∀ i,i<N->(∃ b off,a=some ⟨b,off,none⟩/\N<=cap/\cap<=maxLen/\b<w.heap.size /\ ¬ M b/\qaZ w b (off+i*4) (x i))/\CRx M w D (x i) (P i)/\0<=(x i).lv/\(x i).lv<=D/\(x i).lv<=4:=by
 refine qig PE.z (n:=N) (Q:=fun i x=>(∃ b off,a=some ⟨b,off,none⟩/\N<=cap/\cap<=maxLen/\b<w.heap.size /\ ¬ M b/\qaZ w b (off+i*4) x)/\CRx M w D x (P i)/\0<=x.lv/\x.lv<=D/\x.lv<=4) fun i hi=>?_;obtain ⟨b,off,rfl,h1,h2,h3,h4,e0,e1,e2,e3,y0,y1,y2,y3,hc⟩:=h.at i hi;obtain ⟨x,rfl,rfl,rfl,rfl,hx,h5⟩:=hc.pe;exact ⟨x,⟨b,off,rfl,h1,h2,h3,h4,y0,y1,y2,y3⟩,hx,h5⟩
theorem Own.toK {M:Nat->Prop} {base:Nat} {w:World} {D:Nat} {v:Value} {c:Nat} {x:Nat->PE} {S:Nat->List Tm} (h:Own w base 33 4 v c (px x)) (hS : ∀ i,i<c->CRx M w D (x i) (S i)) (hM : ∀ g,base<=g -> ¬ M g) (hc:c<=1099511627776):qbA M w D v c S:=by
 refine ⟨hc,?_⟩;rcases h with ⟨rfl,rfl⟩ | ⟨g,cap,F,rfl,hg,hB,hcc,hcm,hF⟩
 ·exact .inl ⟨rfl,rfl⟩
 ·refine .inr ⟨g,0,cap,rfl,hcc,hcm,⟨hB.lt,hM g hg⟩,fun i hi=>?_⟩;rw [Nat.zero_add];refine ⟨_,_,_,_,?_,?_,?_,?_,hS i hi⟩
  ·rw [hB.cell (by omega),hF _ (by omega),px0]
  ·rw [hB.cell (by omega),hF _ (by omega),px1]
  ·rw [hB.cell (by omega),hF _ (by omega),px2]
  ·rw [hB.cell (by omega),hF _ (by omega),px3]
def qaK (N:Nat) (P:Nat->List Tm):List Tm:=(List.range N).flatMap P
theorem qhz (P:Nat->List Tm):qaK 0 P = []:=rfl
theorem qar (N:Nat) (P:Nat->List Tm):qaK (N+1) P=qaK N P ++ P N:=by
 unfold qaK;rw [List.range_succ,List.flatMap_append];simp
theorem qfR {N:Nat} {P Q:Nat->List Tm} (h : ∀ i,i<N->P i=Q i):qaK N P=qaK N Q:=by
 induction N with
 | zero=>rfl
 | succ N ih=>rw [qar,qar,ih fun i hi=>h i (by omega),h N (by omega)]
theorem qcG {N:Nat} {P Q:Nat->List Tm} (h : ∀ i,i<N->Sim (P i) (Q i)):Sim (qaK N P) (qaK N Q):=by
 induction N with
 | zero=>exact Sim.refl _
 | succ N ih=>rw [qar,qar];exact (ih fun i hi=>h i (by omega)).append (h N (by omega))
theorem qfd {N:Nat} {P Q:Nat->List Tm} (h : ∀ i,i<N->nrm (P i)<=nrm (Q i)):nrm (qaK N P)<=nrm (qaK N Q):=by
 induction N with
 | zero=>exact Nat.le_refl _
 | succ N ih=>rw [qar,qar,qai,qai];have:=ih fun i hi=>h i (by omega);have:=h N (by omega);omega
theorem qfc (N:Nat) (P:Nat->List Tm) (l:List Tm):qaK (N+1) (qc0 P N l)=qaK N P ++ l:=by
 rw [qar,qa6,qfR fun i hi=>qbB P N l i hi]
theorem qnh (N:Nat) (P:Nat->List Tm) (m:Mo):qab (qaK (N+1) P) m=qab (qaK N P) m+qab (P N) m:=by rw [qar,qae]
theorem qlX (L n N:Nat) (R:Nat->Nat->List Tm):Sim (poly L n fun e=>qaK N (R e)) (qaK N fun i=>poly L n fun e=>R e i):=by
 induction N with
 | zero=>
  have : ∀ n,poly L n (fun e=>qaK 0 (R e)) = []:=by
   intro n
   induction n with
   | zero=>rfl
   | succ n ih=>rw [qaf,ih];rfl
  rw [this];exact Sim.refl _
 | succ N ih=>
  rw [qar];refine Sim.trans ?_ (ih.append (Sim.refl _));clear ih
  induction n with
  | zero=>exact Sim.refl _
  | succ n ih=>
   rw [qaf,qaf,qaf,qar,qch];intro m;have:=ih m;simp only [qae] at this ⊢;omega
theorem qiv (z:Nat->Int) (N:Nat):Sim [(qld z N,Mo.zero)] (qaK N fun i=>[(z i,Mo.zero)]):=by
 induction N with
 | zero=>intro m;simp [qaK,qab,qld]
 | succ N ih=>
  intro m;have:=ih m;rw [qnh,<- this];simp only [qab,qld]
  split <;> omega
theorem qpQ (z:Nat->Int) (N:Nat) (P:Nat->List Tm) (h : ∀ i,i<N->(z i).natAbs<=nrm (P i)):qk6 z N<=nrm (qaK N P):=by
 induction N with
 | zero=>exact Nat.zero_le _
 | succ N ih=>rw [qar,qai];have:=ih fun i hi=>h i (by omega);have:=h N (by omega);simp only [qk6];omega
def mxl (x:Nat->PE):Nat->Int
 | 0=>0
 | k+1=>if mxl x k<(x k).lv then (x k).lv else mxl x k
def mxs (x:Nat->PE):Nat->Nat
 | 0=>0
 | k+1=>if mxl x k<(x k).lv then (x k).kn else if (x k).lv=mxl x k then (if mxs x k<(x k).kn then (x k).kn else mxs x k) else mxs x k
theorem qkC (x:Nat->PE) (k:Nat):0<=mxl x k:=by
 induction k with
 | zero=>exact Int.le_refl _
 | succ k ih=>unfold mxl;split <;> omega
theorem qmg (x:Nat->PE) (k i:Nat) (h:i<k):(x i).lv<=mxl x k:=by
 induction k with
 | zero=>omega
 | succ k ih=>
  unfold mxl
  by_cases hi:i=k
  ·subst hi;split <;> omega
  ·have:=ih (by omega);split <;> omega
theorem qpu (x:Nat->PE) (k:Nat) (B:Int) (hB:0<=B) (h : ∀ i,i<k->(x i).lv<=B):mxl x k<=B:=by
 induction k with
 | zero=>exact hB
 | succ k ih=>unfold mxl;have:=ih fun i hi=>h i (by omega);have:=h k (by omega);split <;> omega
theorem qsp (x:Nat->PE) (k i:Nat) (h:i<k) (he:(x i).lv=mxl x k):(x i).kn<=mxs x k:=by
 induction k with
 | zero=>omega
 | succ k ih=>
  unfold mxs;unfold mxl at he
  by_cases hi:i=k
  ·subst hi
   by_cases h1:mxl x i<(x i).lv
   ·rw [if_pos h1];exact Nat.le_refl _
   ·rw [if_neg h1] at he ⊢;rw [if_pos he];split <;> omega
  ·have:=qmg x k i (by omega)
   by_cases h1:mxl x k<(x k).lv
   ·rw [if_pos h1] at he;omega
   ·rw [if_neg h1] at he ⊢;have:=ih (by omega) he
    split
    ·split <;> omega
    ·exact this
theorem qpt (x:Nat->PE) (k B:Nat) (h : ∀ i,i<k->(x i).kn<=B):mxs x k<=B:=by
 induction k with
 | zero=>exact Nat.zero_le _
 | succ k ih=>
  unfold mxs;have:=ih fun i hi=>h i (by omega);have:=h k (by omega)
  split
  ·omega
  ·split
   ·split <;> omega
   ·omega
theorem CRx.kn_le {M:Nat->Prop} {w:World} {D:Nat} {x:PE} {l:List Tm} (h:CRx M w D x l):x.kn<=1099511627776:=by
 obtain ⟨t,h1,_⟩:=h;obtain ⟨_,_,_,ka,kp,e⟩:=h1.form;simp only [Value.slice.injEq] at e;rw [e.2.1];exact h1.2.2.2.1
end Go.Proofs.YtmcfpnmoklnhoaaGreat
