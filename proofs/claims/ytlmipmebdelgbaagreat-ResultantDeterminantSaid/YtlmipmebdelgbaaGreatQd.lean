/- subresultant.Sylvester. subresultant.Sylvester and Minor where check answers an error. subresultant.Minor. subresultant.Minor where the indices are refused; mainvar.Coef at any exponent. -/
import Derived.Test.YtlmipmebdelgbaaGreatQc
set_option linter.unusedVariables false
set_option linter.unusedSimpArgs false

namespace Go.Proofs.YtlmipmebdelgbaaGreat
open Go.RowKit

def syM (J m n:Nat) (f g:List Tm):Nat->Nat->List Tm:=fun k=>if k<n then fun i=>ck J (((m:Int)+n - 1) - (i:Int) - ((n:Int) - 1 - (k:Int))) f else fun i=>ck J (((m:Int)+n - 1) - (i:Int) - ((m:Int) - 1 - ((k - n:Nat):Int))) g




theorem qsD (z:Int) (h : -100000<=z/\z<=100000):wrap64 z=z:=by unfold wrap64;omega


theorem qir {J:Nat} (h1:1<=J) (h4:J<=4) {l:List Tm} (nl:NN l) {e:Int} (he:e<0):Sim (ck J e l) []:=fun m=>by
 rw [qaR h1 h4]
 split
 ·rename_i h0
  refine nl _ ?_
  cases hq:(Mo.add m (xp J e)).nn with
  | false=>rfl
  | true=>
   have:=qci hq J
   rw [qap,h0,qas J J _ h1 h4,if_pos rfl] at this
   omega
 ·rfl
set_option maxRecDepth 100000 in
set_option maxHeartbeats 8000000 in
theorem qnv (M:Nat->Prop) (x:PE) (l:List Tm) (J:Nat) (i:Int) (B:Nat) (w:World) (h1:1<=J) (h4:J<=4) (hi:i<0) (nl:NN l) (hM:Mb M w) (h:PI M w x l) (hB:Deg B l) (hB4:(B+1) ^ 4<=1099511627776) (hB2:B+1<=1073741824) (hR:dlen (nrm l)<=1099511627776):Calls Tryz.prog 85 #[.agg (peA x),.int .i64 (J:Int),.int .i64 i] w (qa3 M w 4 (ck J i l)):=by
 obtain ⟨hE0,hX0,hB0,hM0⟩:=qoJ hM x
 have CC:=Lib.hid (qc9 _ x l (J:Int) B _ hM0 ((h.more (M':=Mx M w.heap.size (w.heap.size+2)) (Mx.more (Nat.le_refl _))).ext hE0) hB hB4 hB2 hR)
 have HE:=Lib.hid hE0
 have HB:=Lib.hid hB0
 have HS:Hid (Sim [] (ck J i l)):=(qir h1 h4 nl hi).symm
 obtain ⟨x0,x1,x2,x3⟩:=hX0
 clear hE0 hB0 hM0 hM h hB hB4 hR hB2 h1 h4 nl
 go_enter Tryz.func85,Tryz.ntmps85
 go_wp2_with (fail)
 refine CC.out.mono ?_
 rintro e w1 ⟨hr,he1⟩
 have HE1:=Lib.hid (HE.out.trans he1)
 have hB1:=HB.out.ext he1
 clear he1 CC x0 x1 x2 x3 HB HE
 obtain ⟨a,n,cap,rfl⟩ : ∃ a n cap,e = .returned (.slice a n cap):=by
  rcases hr with ⟨hz,rfl⟩ | ⟨hz,hl,g,rfl,hg,hk⟩ | ⟨hz,K,n,g,hKJ,hK1,hK4,rfl,hg,hd,hk⟩ <;> exact ⟨_,_,_,rfl⟩
 obtain ⟨⟨q0,q1,q2,q3⟩,⟨f0,f1,f2,f3⟩,⟨r0,r1,r2,r3⟩,HF⟩:=qbT (M:=M) (M':=Mx M w.heap.size (w.heap.size+2)) (w:=w) (L:=4) (l:=ck J i l) (y:=PE.z) hB1 (Mx.at (by omega)) (by omega) HE1.out (CRx.sim (CR.zero _ _ 4) HS.out) Mx.sub
 simp only [PE.z] at r0 r1 r2 r3 q0 q1 q2 q3
 have HF2:=Lib.hid HF.out
 clear HF hB1 hr
 go_wp2
 exact bodyPost_ret (v:=.agg (peA PE.z)) (by simp [results,Tryz.results85,go_sem,r0,r1,r2,r3,PE.z]) rfl HF2.out
theorem qnw (M:Nat->Prop) (x:PE) (l:List Tm) (J:Nat) (i:Int) (B:Nat) (w:World) (h1:1<=J) (h4:J<=4) (nl:NN l) (hM:Mb M w) (h:PI M w x l) (hB:Deg B l) (hB4:(B+1) ^ 4<=1099511627776) (hB2:B+1<=1073741824) (hR:dlen (nrm l)<=1099511627776):Calls Tryz.prog 85 #[.agg (peA x),.int .i64 (J:Int),.int .i64 i] w (qa3 M w 4 (ck J i l)):=by
 by_cases hi:i<0
 ·exact qnv M x l J i B w h1 h4 hi nl hM h hB hB4 hB2 hR
 ·obtain ⟨n,rfl⟩ : ∃ n:Nat,i=(n:Int):=⟨i.toNat,by omega⟩
  exact qnu M x l J n B w h1 h4 nl hM h hB hB4 hB2 hR
end Go.Proofs.YtlmipmebdelgbaaGreat
