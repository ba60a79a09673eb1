/- mainvar.degree, Level, Degree. -/
import Derived.Test.YtmcfpnmoklnhoaaGreatBd
import Derived.Test.YtmcfpnmoklnhoaaGreatMt
set_option linter.unusedVariables false
set_option maxRecDepth 100000
set_option maxHeartbeats 400000000
set_option linter.unusedSimpArgs false

namespace Go.Proofs.YtmcfpnmoklnhoaaGreat
open Go.RowKit

def qi2 (L D:Nat):Prop:=∀ (M:Nat->Prop) (l:List Tm) (x:PE) (w:World),CRx M w D x l->Calls Tryz.prog 107 #[.agg (peA x),.int .i64 L] w fun e w'=>∃ n:Nat,e = .returned (.int .i64 n)/\DgR L l n/\n<=1099511627776/\Ext w w'
theorem qh5 (L:Nat) (hL1:1<=L) (hL4:L<=4) (D:Nat) (ih : ∀ E,E<D->qi2 L E):qi2 L D:=by
 intro M l x w h;have hE:=(Ext.refl w).alloc (.cells (peA x) 33);have hB:=Blk.of_arr w (peA x) 33 4 rfl;obtain ⟨x0,x1,x2,x3⟩:=hB.p4;generalize hW:w.alloc (.cells (peA x) 33)=W at *;have HW:=Lib.hid hW;have HE:=Lib.hid hE;have HB:=Lib.hid hB;clear hW hE hB
 by_cases h1:x.lv<L
 ·have HD:Hid (DgR L l 0):=⟨fun m hm=>by have:=h.lowc m hm L h1 hL4;omega,.inl rfl⟩;clear h
  go_enter Tryz.func107,Tryz.ntmps107
  go_upto_region 1 with (fail)
  rw [HW.out];go_wp2;exact bodyPost_ret (v:=.int .i64 0) (by simp [results,Tryz.results107,go_sem]) rfl ⟨0,rfl,HD.out,by omega,HE.out⟩
 obtain ⟨E,b,off,P,hlv,hE4,hEL,hb0,hn0,hka,hn2,hnL,hnc,hcm,hb,hMb,hlow,hnz,hsim,hnr,hkid⟩:=h.node (by omega)
 by_cases h2:x.lv=L
 ·have hLE:L=E+1:=by omega
  have HD:Hid (DgR L l (x.kn - 1)):=by
   have:=(qm4 hE4 (by omega) hlow hnz).sim hsim;rw [hLE];exact this
  have h2b:(x.lv == (L:Int))=true:=by rw [h2];simp
  obtain ⟨k,hk⟩ : ∃ k,x.kn=k+1:=⟨x.kn - 1,by omega⟩;rw [hk,Nat.add_sub_cancel] at HD;rw [hk] at x3 hnL;clear h hlow hnz hsim hkid hnr hLE hlv
  go_enter Tryz.func107,Tryz.ntmps107
  go_upto_region 1 with (fail)
  rw [HW.out];go_wp2;exact bodyPost_ret (v:=.int .i64 k) (by simp [results,Tryz.results107,go_sem]) rfl ⟨k,rfl,HD.out,by omega,HE.out⟩
 ·have h2b:(x.lv == (L:Int))=false:=by simp [h2]
  have HFIN:Hid (∀ j,MxR L P x.kn j->DgR L l j):=fun j hj=>(qra hE4 hlow (by omega) hj).sim hsim
  have HK:Hid (∀ i,i<x.kn -> ∃ y,qaZ w b (off+i*4) y/\(∀ W',Ext w W'->Calls Tryz.prog 107 #[.agg (peA y),.int .i64 L] W' fun e w'=>∃ n:Nat,e = .returned (.int .i64 n)/\DgR L (P i) n/\n<=1099511627776/\Ext W' w')):=fun i hi=>by
   obtain ⟨y,hy1,hy2,_⟩:=hkid i hi;exact ⟨y,hy1,fun W' he=>ih E (by omega) M (P i) y W' (hy2.ext he)⟩
  rw [hka] at x3;clear h hlow hnz hsim hkid hnr hlv ih
  go_enter Tryz.func107,Tryz.ntmps107
  go_upto_region 1 with (fail)
  rw [HW.out];go_wp2
  go_loopw [5,25] (fun hv i wr=>∃ (k n:Nat),k<=x.kn/\i = .int .i64 k/\hv = .int .i64 n/\n<=1099511627776/\Hid (MxR L P k n)/\Hid (Ext W wr)) (fun _ i _=>x.kn - (intOf i).toNat)
  case atStart=>exact ⟨0,0,by omega,rfl,rfl,by omega,⟨fun i hi=>absurd hi (Nat.not_lt_zero _),.inl rfl⟩,Ext.refl _⟩
  case round=>
   clear x0 x1 x2 x3;obtain ⟨k,n,hk,rfl,rfl,hnLIM,HMX,HER⟩:=hrel
   by_cases hlt:k<x.kn
   ·obtain ⟨y,hy,hcall⟩:=HK.out k hlt;have hEW:=HE.out.trans HER.out;obtain ⟨e0,e1,e2,e3⟩:=hy.ext hb hEW;have hbw:b<wr.heap.size:=Nat.lt_of_lt_of_le hb hEW.size;have hEa:=(Ext.refl wr).alloc (.cells (peA y) 33);have CTR:=Lib.hid (hcall _ (hEW.trans hEa));have HEA:=Lib.hid (HER.out.trans hEa)
    have hltI:(k:Int)<(x.kn:Int):=by omega
    clear hcall hy hEa hEW;go_wp2_with (fail);refine CTR.out.mono ?_;rintro e w2 ⟨j,rfl,hj,hjL,he2⟩;have HMX2:=Lib.hid (HMX.out.step hj);have HF:=Lib.hid (HEA.out.trans he2)
    have hmx:max (n:Int) (j:Int)=((max n j:Nat):Int):=by omega
    clear CTR hj he2 e0 e1 e2 e3 HMX HK;go_wp2
    go_roundw
    case rel=>exact ⟨k+1,max n j,by omega,by go_num,rfl,by omega,HMX2,HF⟩
    case measure=>simp [intOf];omega
   ·obtain rfl:k=x.kn:=by omega
    have HD:=Lib.hid (HFIN.out n HMX.out);clear HK;go_wp2;exact bodyPost_ret (v:=.int .i64 n) (by simp [results,Tryz.results107,go_sem]) rfl ⟨n,rfl,HD.out,hnLIM,HE.out.trans HER.out⟩
theorem qhG (L:Nat) (hL1:1<=L) (hL4:L<=4) (D:Nat):qi2 L D:=by
 induction D using Nat.strongRecOn with
 | _ D ih=>exact qh5 L hL1 hL4 D fun E hE=>ih E hE
def qoZ (w:World) (l:List Tm) (L:Int) (e:Ending) (w':World):Prop:=∃ z:Int,e = .returned (.int .i64 z)/\((Sim l []/\z = -1)∨(¬ Sim l [] /\ ¬ (1<=L/\L<=4)/\z=0)∨(¬ Sim l [] /\ ∃ K n:Nat,L=K/\1<=K/\K<=4/\z=n/\DgR K l n/\n<=1099511627776))/\Ext w w'
theorem qmi (M:Nat->Prop) (x:PE) (l:List Tm) (L:Int) (w:World) (hM:Mb M w) (h:PI M w x l):Calls Tryz.prog 43 #[.agg (peA x),.int .i64 L] w (qoZ w l L):=by
 have hE:=(Ext.refl w).alloc (.cells (peA x) 33);have hBx:=Blk.of_arr w (peA x) 33 4 rfl;have hM2:Mb (Mx M w.heap.size (w.heap.size+1)) (w.alloc (.cells (peA x) 33)):=Mx.mb hM (by simp) (by simp);have h2:=(h.more (M':=Mx M w.heap.size (w.heap.size+1)) (Mx.more (Nat.le_refl _))).ext hE;have HI:=Lib.hid h2;clear h h2
 go_enter Tryz.func43,Tryz.ntmps43
 go_wp2_with (fail);refine (qbV _ x l _ hM2 HI.out).mono ?_;rintro e w1 ⟨y,rfl,hy,he1⟩;have hE1:=hE.trans he1;have hB1:=hBx.ext he1;have hM3:=hM2.ext he1;obtain ⟨⟨q0,q1,q2,q3⟩,⟨f0,f1,f2,f3⟩,⟨r0,r1,r2,r3⟩,hk,hf⟩:=qkL (M':=Mx M w.heap.size (w.heap.size+1)) (w:=w) (.int .i64 y.lv) (.bool y.b) (.slice y.a y.n y.p) (.slice y.ka y.kn y.kp) hB1 (Mx.at (by omega)) (Nat.le_refl _) hE1;have HY:=Lib.hid (hy.kp hk);have hM4:Mb (Mx M w.heap.size (w.heap.size+1)) (set4 w1 w.heap.size 0 (.int .i64 y.lv) (.bool y.b) (.slice y.a y.n y.p) (.slice y.ka y.kn y.kp)):=hM3.size hk.1;have hlt1:=hB1.lt;have hlt3:w.heap.size<(set4 w1 w.heap.size 0 (.int .i64 y.lv) (.bool y.b) (.slice y.a y.n y.p) (.slice y.ka y.kn y.kp)).heap.size:=Nat.lt_of_lt_of_le hlt1 hk.1;clear q0 q1 q2 q3;obtain ⟨q0,q1,q2,q3⟩:=hB1.p4;generalize hW:set4 w1 w.heap.size 0 (.int .i64 y.lv) (.bool y.b) (.slice y.a y.n y.p) (.slice y.ka y.kn y.kp)=W at r0 r1 r2 r3 hf HY hM4 hlt3;unfold set4 at hW;have HW:=Lib.hid hW;have HF4:=Lib.hid hf;have HM:=Lib.hid hM4;have HP:Hid (P4 W w.heap.size y):=⟨r0,r1,r2,r3⟩;clear hBx hM2 he1 hE hB1 hM3 hy HI hk hf hM4 hE1 hW hlt1 hM
 go_upto_region 2 with (fail)
 rw [HW.out];clear q0 q1 q2 q3 f0 f1 f2 f3 HW;have CZ:=Lib.hid (qbh _ y l W HM.out HY.out.pi);go_wp2_with (fail);refine CZ.out.mono ?_;rintro e w2 ⟨bz,rfl,hbz,he2⟩;have HE2:=Lib.hid (HF4.out.trans he2);have HBZ:=Lib.hid hbz;have HY2:=Lib.hid (HY.out.ext he2);have HP2:=Lib.hid (HP.out.ext he2);clear hbz he2 CZ HF4 HY HP r0 r1 r2 r3 HM hlt3
 cases bz with
 | true=>
  have HF:Hid (qoZ w l L (.returned (.int .i64 (-1))) w2):=⟨-1,rfl,.inl ⟨HBZ.out.1 rfl,rfl⟩,HE2.out⟩;clear HBZ HE2 HY2 HP2;go_wp2;exact bodyPost_ret (v:=.int .i64 (-1)) (by simp [results,Tryz.results43,go_sem]) rfl HF.out
 | false=>
  have HZ:Hid (¬ Sim l []):=fun hs=>by have:=HBZ.out.2 hs;cases this
  clear HBZ;have CL:=Lib.hid (qcx L w2);go_wp2_with (fail);refine CL.out.mono ?_;rintro e w3 ⟨rfl,rfl⟩
  by_cases hl:1<=L/\L<=4
  ·have hlb:qay L=true:=by unfold qay;simp [hl]
   obtain ⟨K,rfl⟩ : ∃ K:Nat,L=K:=⟨L.toNat,by omega⟩;have HK:Hid (1<=K/\K<=4):=⟨by omega,by omega⟩;have CD:=Lib.hid (qhG K HK.out.1 HK.out.2 4 _ l y w2 HY2.out);clear hl CL;obtain ⟨r0,r1,r2,r3⟩:=HP2.out;go_wp2_with (fail);refine CD.out.mono ?_;rintro e w4 ⟨n,rfl,hn,hnL,he4⟩;have HF:Hid (qoZ w l K (.returned (.int .i64 n)) w4):=⟨n,rfl,.inr (.inr ⟨HZ.out,K,n,rfl,HK.out.1,HK.out.2,rfl,hn,hnL⟩),HE2.out.trans he4⟩;clear hn he4 CD HZ HE2 HY2 HP2 r0 r1 r2 r3;go_wp2;exact bodyPost_ret (v:=.int .i64 n) (by simp [results,Tryz.results43,go_sem]) rfl HF.out
  ·have hlb:qay L=false:=by unfold qay;simp only [decide_eq_false_iff_not];exact hl
   have HF:Hid (qoZ w l L (.returned (.int .i64 0)) w2):=⟨0,rfl,.inr (.inl ⟨HZ.out,hl,rfl⟩),HE2.out⟩;clear HE2 HY2 HP2 hl HZ CL;go_wp2;exact bodyPost_ret (v:=.int .i64 0) (by simp [results,Tryz.results43,go_sem]) rfl HF.out
end Go.Proofs.YtmcfpnmoklnhoaaGreat
