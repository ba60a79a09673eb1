/- Cb -/
import Derived.Test.YtmcfpnmoklnhoaaGreatBd
import Derived.Test.YtmcfpnmoklnhoaaGreatMr
set_option linter.unusedVariables false
set_option maxRecDepth 100000
set_option maxHeartbeats 400000000
set_option linter.unusedSimpArgs false
namespace Go.Proofs.YtmcfpnmoklnhoaaGreat
open Go.RowKit
def WW(L D:Nat):Prop:=∀(M:Nat->Prop)(l:List Tm)(x:PE)(w:World),aI M w D x l->Calls Tryz.prog 107 #[.agg (ah x),.int .i64 L] w λe w'=>∃n:Nat,e=.returned (.int .i64 n)/\bD L l n/\n<=1099511627776/\Ext w w'
theorem qrV(L:Nat)(xV:1<=L)(wC:L<=4)(D:Nat)(ih:∀E,E<D->WW L E):WW L D:=by
 intro M l x w h;have hE:=(Ext.refl w).alloc (.cells (ah x) 33);have hB:=ak.bf w (ah x) 33 4 rfl;obtain⟨x0,x1,x2,x3⟩:=hB.p4;generalize hW:w.alloc (.cells (ah x) 33)=W at*;have HW:=Lib.hid hW;have HE:=Lib.hid hE;have HB:=Lib.hid hB;clear hW hE hB
 by_cases h1:x.lv<L
 ·have HD:Hid (bD L l 0):=⟨λm hm=>by have:=h.qml m hm L h1 wC;omega,.inl rfl⟩;clear h
  go_enter Tryz.func107,Tryz.ntmps107
  go_upto_region 1 with(fail)
  rw[HW.out];go_wp2;exact bodyPost_ret (v:=.int .i64 0) (by simp[results,Tryz.results107,go_sem]) rfl ⟨0,rfl,HD.out,by omega,HE.out⟩
 obtain⟨E,b,off,P,gI,eU,FX,jZ,iw,lS,lu,eu,kP,gm,hb,pq,bT,fF,eB,jo,dh⟩:=h.node (by omega)
 by_cases h2:x.lv=L
 ·have hLE:L=E+1:=by omega
  have HD:Hid (bD L l (x.kn-1)):=by
   have:=(qak eU (by omega) bT fF).bZ eB;rw[hLE];exact this
  have O1:(x.lv==(L:Int))=true:=by rw[h2];simp
  obtain⟨k,hk⟩:∃k,x.kn=k+1:=⟨x.kn-1,by omega⟩;rw[hk,Nat.add_sub_cancel]at HD;rw[hk]at x3 eu;clear h bT fF eB dh jo hLE gI
  go_enter Tryz.func107,Tryz.ntmps107
  go_upto_region 1 with(fail)
  rw[HW.out];go_wp2;exact bodyPost_ret (v:=.int .i64 k) (by simp[results,Tryz.results107,go_sem]) rfl ⟨k,rfl,HD.out,by omega,HE.out⟩
 ·have O1:(x.lv==(L:Int))=false:=by simp[h2]
  have xh:Hid (∀j,KH L P x.kn j->bD L l j):=λj hj=>(qrX eU bT (by omega) hj).bZ eB
  have HK:Hid (∀i,i<x.kn->∃y,eX w b (off+i*4) y/\(∀W',Ext w W'->Calls Tryz.prog 107 #[.agg (ah y),.int .i64 L] W' λe w'=>∃n:Nat,e=.returned (.int .i64 n)/\bD L (P i) n/\n<=1099511627776/\Ext W' w')):=λi hi=>by
   obtain⟨y,iy,qx,_⟩:=dh i hi;exact⟨y,iy,λW' he=>ih E (by omega) M (P i) y W' (qx.ext he)⟩
  rw[lS]at x3;clear h bT fF eB dh jo gI ih
  go_enter Tryz.func107,Tryz.ntmps107
  go_upto_region 1 with(fail)
  rw[HW.out];go_wp2
  go_loopw [5,25] (λhv i wr=>∃(k n:Nat),k<=x.kn/\i=.int .i64 k/\hv=.int .i64 n/\n<=1099511627776/\Hid (KH L P k n)/\Hid (Ext W wr)) (λ_ i _=>x.kn-(intOf i).toNat)
  case atStart=>exact⟨0,0,by omega,rfl,rfl,by omega,⟨λi hi=>absurd hi (Nat.not_lt_zero _),.inl rfl⟩,Ext.refl _⟩
  case round=>
   clear x0 x1 x2 x3;obtain⟨k,n,hk,rfl,rfl,quZ,xu,gD⟩:=hrel
   by_cases hlt:k<x.kn
   ·obtain⟨y,hy,Gc⟩:=HK.out k hlt;have FY:=HE.out.trans gD.out;obtain⟨e0,e1,e2,e3⟩:=hy.ext hb FY;have iH:b<wr.heap.size:=Nat.lt_of_lt_of_le hb FY.size;have aN:=(Ext.refl wr).alloc (.cells (ah y) 33);have aO:=Lib.hid (Gc _ (FY.trans aN));have dW:=Lib.hid (gD.out.trans aN)
    have Gs:(k:Int)<(x.kn:Int):=by omega
    clear Gc hy aN FY;go_wp2_with (fail);refine aO.out.mono ?_;rintro e w2 ⟨j,rfl,hj,hjL,aA⟩;have qpR:=Lib.hid (xu.out.step hj);have HF:=Lib.hid (dW.out.trans aA)
    have hmx:max (n:Int) (j:Int)=((max n j:Nat):Int):=by omega
    clear aO hj aA e0 e1 e2 e3 xu HK;go_wp2
    go_roundw
    case rel=>exact⟨k+1,max n j,by omega,by go_num,rfl,by omega,qpR,HF⟩
    case measure=>simp[intOf];omega
   ·obtain rfl:k=x.kn:=by omega
    have HD:=Lib.hid (xh.out n xu.out);clear HK;go_wp2;exact bodyPost_ret (v:=.int .i64 n) (by simp[results,Tryz.results107,go_sem]) rfl ⟨n,rfl,HD.out,quZ,HE.out.trans gD.out⟩
theorem qmp(L:Nat)(xV:1<=L)(wC:L<=4)(D:Nat):WW L D:=by
 induction D using Nat.strongRecOn with
 |_ D ih=>exact qrV L xV wC D λE hE=>ih E hE
def Tp(w:World)(l:List Tm)(L:Int)(e:Ending)(w':World):Prop:=∃z:Int,e=.returned (.int .i64 z)/\((ae l []/\z= -1)\/(¬ae l []/\¬(1<=L/\L<=4)/\z=0)\/(¬ae l []/\∃K n:Nat,L=K/\1<=K/\K<=4/\z=n/\bD K l n/\n<=1099511627776))/\Ext w w'
theorem qwG(M:Nat->Prop)(x:PE)(l:List Tm)(L:Int)(w:World)(hM:Mb M w)(h:PI M w x l):Calls Tryz.prog 43 #[.agg (ah x),.int .i64 L] w (Tp w l L):=by
 have hE:=(Ext.refl w).alloc (.cells (ah x) 33);have je:=ak.bf w (ah x) 33 4 rfl;have eG:Mb (Mx M w.heap.size (w.heap.size+1)) (w.alloc (.cells (ah x) 33)):=Mx.mb hM (by simp) (by simp);have h2:=(h.more (M':=Mx M w.heap.size (w.heap.size+1)) (Mx.more (Nat.le_refl _))).ext hE;have HI:=Lib.hid h2;clear h h2
 go_enter Tryz.func43,Tryz.ntmps43
 go_wp2_with (fail);refine(Ha _ x l _ eG HI.out).mono ?_;rintro e w1 ⟨y,rfl,hy,af⟩;have ig:=hE.trans af;have bM:=je.ext af;have jf:=eG.ext af;obtain⟨⟨q0,q1,q2,q3⟩,⟨f0,f1,f2,f3⟩,⟨r0,r1,r2,r3⟩,hk,hf⟩:=BI (M':=Mx M w.heap.size (w.heap.size+1)) (w:=w) (.int .i64 y.lv) (.bool y.b) (.slice y.a y.n y.p) (.slice y.ka y.kn y.kp) bM (Mx.at (by omega)) (Nat.le_refl _) ig;have HY:=Lib.hid (hy.kp hk);have vv:Mb (Mx M w.heap.size (w.heap.size+1)) (aH w1 w.heap.size 0 (.int .i64 y.lv) (.bool y.b) (.slice y.a y.n y.p) (.slice y.ka y.kn y.kp)):=jf.size hk.1;have Gq:=bM.lt;have Cf:w.heap.size<(aH w1 w.heap.size 0 (.int .i64 y.lv) (.bool y.b) (.slice y.a y.n y.p) (.slice y.ka y.kn y.kp)).heap.size:=Nat.lt_of_lt_of_le Gq hk.1;clear q0 q1 q2 q3;obtain⟨q0,q1,q2,q3⟩:=bM.p4;generalize hW:aH w1 w.heap.size 0 (.int .i64 y.lv) (.bool y.b) (.slice y.a y.n y.p) (.slice y.ka y.kn y.kp)=W at r0 r1 r2 r3 hf HY vv Cf;unfold aH at hW;have HW:=Lib.hid hW;have Dj:=Lib.hid hf;have HM:=Lib.hid vv;have HP:Hid (P4 W w.heap.size y):=⟨r0,r1,r2,r3⟩;clear je eG af hE bM jf hy HI hk hf vv ig hW Gq hM
 go_upto_region 2 with(fail)
 rw[HW.out];clear q0 q1 q2 q3 f0 f1 f2 f3 HW;have CZ:=Lib.hid (ES _ y l W HM.out HY.out.pi);go_wp2_with (fail);refine CZ.out.mono ?_;rintro e w2 ⟨bz,rfl,rJ,aA⟩;have aU:=Lib.hid (Dj.out.trans aA);have jE:=Lib.hid rJ;have qd:=Lib.hid (HY.out.ext aA);have iR:=Lib.hid (HP.out.ext aA);clear rJ aA CZ Dj HY HP r0 r1 r2 r3 HM Cf
 cases bz with
 |true=>
  have HF:Hid (Tp w l L (.returned (.int .i64 (-1))) w2):=⟨-1,rfl,.inl ⟨jE.out.1 rfl,rfl⟩,aU.out⟩;clear jE aU qd iR;go_wp2;exact bodyPost_ret (v:=.int .i64 (-1)) (by simp[results,Tryz.results43,go_sem]) rfl HF.out
 |false=>
  have HZ:Hid (¬ae l []):=λhs=>by have:=jE.out.2 hs;cases this
  clear jE;have CL:=Lib.hid (VC L w2);go_wp2_with (fail);refine CL.out.mono ?_;rintro e w3 ⟨rfl,rfl⟩
  by_cases hl:1<=L/\L<=4
  ·have nT:ja L=true:=by unfold ja;simp[hl]
   obtain⟨K,rfl⟩:∃K:Nat,L=K:=⟨L.toNat,by omega⟩;have HK:Hid (1<=K/\K<=4):=⟨by omega,by omega⟩;have CD:=Lib.hid (qmp K HK.out.1 HK.out.2 4 _ l y w2 qd.out);clear hl CL;obtain⟨r0,r1,r2,r3⟩:=iR.out;go_wp2_with (fail);refine CD.out.mono ?_;rintro e w4 ⟨n,rfl,hn,eu,aW⟩;have HF:Hid (Tp w l K (.returned (.int .i64 n)) w4):=⟨n,rfl,.inr (.inr ⟨HZ.out,K,n,rfl,HK.out.1,HK.out.2,rfl,hn,eu⟩),aU.out.trans aW⟩;clear hn aW CD HZ aU qd iR r0 r1 r2 r3;go_wp2;exact bodyPost_ret (v:=.int .i64 n) (by simp[results,Tryz.results43,go_sem]) rfl HF.out
  ·have nT:ja L=false:=by unfold ja;simp only[decide_eq_false_iff_not];exact hl
   have HF:Hid (Tp w l L (.returned (.int .i64 0)) w2):=⟨0,rfl,.inr (.inl ⟨HZ.out,hl,rfl⟩),aU.out⟩;clear aU qd iR hl HZ CL;go_wp2;exact bodyPost_ret (v:=.int .i64 0) (by simp[results,Tryz.results43,go_sem]) rfl HF.out
end Go.Proofs.YtmcfpnmoklnhoaaGreat
