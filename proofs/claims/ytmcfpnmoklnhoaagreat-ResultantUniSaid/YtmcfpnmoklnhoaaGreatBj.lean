/- Bj -/
import Derived.Test.YtmcfpnmoklnhoaaGreatBh
import Derived.Test.YtmcfpnmoklnhoaaGreatMu
import Derived.Test.YtmcfpnmoklnhoaaGreatMq
import Derived.Test.YtmcfpnmoklnhoaaGreatBd
set_option linter.unusedVariables false
set_option maxRecDepth 100000
set_option maxHeartbeats 400000000
set_option linter.unusedSimpArgs false
namespace Go.Proofs.YtmcfpnmoklnhoaaGreat
open Go.RowKit
theorem qqn{l r:List Tm}(hl:NN l)(hr:NN r)(h:norm l=norm r):af l r:=by
 have h1:=ow hl;have h2:=ow hr;rw[<-h]at h2;exact h1.symm.trans h2
theorem VM{l:List Tm}{B:Nat}(hl:NN l)(h:∀s∈l,s.2.a<=B/\s.2.b<=B/\s.2.c<=B/\s.2.d<=B):bH B l:=by
 refine(qt6 (B:=B) λs hs k=>?_).dh (ow hl);obtain⟨h1,h2,h3,h4⟩:=h s hs;unfold Mo.get
 repeat' split
 all_goals omega
end Go.Proofs.YtmcfpnmoklnhoaaGreat
namespace Go.Proofs.YtmcfpnmoklnhoaaGreat
theorem OV{c:Int}{l:List Tm}(h:NN l):NN (smul c l):=λm hm=>by rw[iM,h m hm,Int.mul_zero]
def qig(p:Nat):Prop:=2<=p/\∀a b:Nat,p∣a*b->p∣a\/p∣b
theorem ncd{p:Nat}{a:Int}:(p:Int)∣a↔p∣a.natAbs:=by rw[<-Int.natAbs_dvd_natAbs,Int.natAbs_natCast]
theorem qig.int{p:Nat}(hp:qig p){a b:Int}(h:(p:Int)∣a*b):(p:Int)∣a\/(p:Int)∣b:=by
 have h1:p∣a.natAbs*b.natAbs:=by rw[<-Int.natAbs_mul];exact ncd.1 h
 exact(hp.2 _ _ h1).imp (λh=>ncd.2 h) (λh=>ncd.2 h)
end Go.Proofs.YtmcfpnmoklnhoaaGreat
namespace Go.Proofs.YtmcfpnmoklnhoaaGreat
open Go.RowKit
def Y2(L D:Nat):Prop:=∀(M:Nat->Prop)(l:List Tm)(x:PE)(w:World),aN M w D x l->Calls Tryz.prog 107 #[.agg (ak x),.int .i64 L] w λe w'=>∃n:Nat,e=.returned (.int .i64 n)/\bE L l n/\n<=1099511627776/\Ext w w'
theorem qt9(L:Nat)(yY:1<=L)(xN:L<=4)(D:Nat)(ih:∀E,E<D->Y2 L E):Y2 L D:=by
 intro M l x w h;have hE:=(aA w).alloc (.cells (ak x) 33);have hB:=aG.bq w (ak x) 33 4 rfl;obtain⟨x0,x1,x2,x3⟩:=hB.p4;generalize hW:w.alloc (.cells (ak x) 33)=W at*;have HW:=ae hW;have HE:=ae hE;have HB:=ae hB;clear hW hE hB
 by_cases h1:x.lv<L
 ·have HD:Hid (bE L l 0):=⟨λm hm=>by have:=h.qoi m hm L h1 xN;omega,.inl rfl⟩;clear h
  go_enter Tryz.func107,Tryz.ntmps107
  go_upto_region 1 with(fail)
  rw[HW.out];go_wp2;exact bu (v:=.int .i64 0) (by simp[results,Tryz.results107,go_sem]) rfl ⟨0,rfl,HD.out,by omega,HE.out⟩
 obtain⟨E,b,off,P,iJ,fI,Hd,ll,jg,nT,mg,gH,mi,iB,hb,qC,dB,fQ,fJ,gQ,dP⟩:=h.node (by omega)
 by_cases h2:x.lv=L
 ·have hLE:L=E+1:=by omega
  have HD:Hid (bE L l (x.kn-1)):=by
   have:=(qbt fI (by omega) dB fQ).dh fJ;rw[hLE];exact this
  have QP:(x.lv==(L:Int))=true:=by rw[h2];simp
  obtain⟨k,hk⟩:∃k,x.kn=k+1:=⟨x.kn-1,by omega⟩;rw[hk,Nat.add_sub_cancel]at HD;rw[hk]at x3 gH;clear h dB fQ fJ dP gQ hLE iJ
  go_enter Tryz.func107,Tryz.ntmps107
  go_upto_region 1 with(fail)
  rw[HW.out];go_wp2;exact bu (v:=.int .i64 k) (by simp[results,Tryz.results107,go_sem]) rfl ⟨k,rfl,HD.out,by omega,HE.out⟩
 ·have QP:(x.lv==(L:Int))=false:=by simp[h2]
  have yw:Hid (∀j,MG L P x.kn j->bE L l j):=λj hj=>(qud fI dB (by omega) hj).dh fJ
  have HK:Hid (∀i,i<x.kn->∃y,jK w b (off+i*4) y/\(∀W',Ext w W'->Calls Tryz.prog 107 #[.agg (ak y),.int .i64 L] W' λe w'=>∃n:Nat,e=.returned (.int .i64 n)/\bE L (P i) n/\n<=1099511627776/\Ext W' w')):=λi hi=>by
   obtain⟨y,jh,rC,_⟩:=dP i hi;exact⟨y,jh,λW' he=>ih E (by omega) M (P i) y W' (rC.ext he)⟩
  rw[nT]at x3;clear h dB fQ fJ dP gQ iJ ih
  go_enter Tryz.func107,Tryz.ntmps107
  go_upto_region 1 with(fail)
  rw[HW.out];go_wp2
  go_loopw [5,25] (λhv i wr=>∃(k n:Nat),k<=x.kn/\i=.int .i64 k/\hv=.int .i64 n/\n<=1099511627776/\Hid (MG L P k n)/\Hid (Ext W wr)) (λ_ i _=>x.kn-(intOf i).toNat)
  case atStart=>exact⟨0,0,by omega,rfl,rfl,by omega,⟨λi hi=>absurd hi (Nat.not_lt_zero _),.inl rfl⟩,aA _⟩
  case round=>
   clear x0 x1 x2 x3;obtain⟨k,n,hk,rfl,rfl,qxs,yA,jo⟩:=hrel
   by_cases hlt:k<x.kn
   ·obtain⟨y,hy,Hy⟩:=HK.out k hlt;have wM:=HE.out.trans jo.out;obtain⟨e0,e1,e2,e3⟩:=hy.ext hb wM;have jE:b<wr.heap.size:=dH hb wM.size;have aT:=(aA wr).alloc (.cells (ak y) 33);have aW:=ae (Hy _ (wM.trans aT));have fH:=ae (jo.out.trans aT)
    have DX:(k:Int)<(x.kn:Int):=by omega
    clear Hy hy aT wM;go_wp2_with (fail);refine aW.out.mono ?_;rintro e w2 ⟨j,rfl,hj,hjL,aJ⟩;have qr6:=ae (yA.out.step hj);have HF:=ae (fH.out.trans aJ)
    have hmx:max (n:Int) (j:Int)=((max n j:Nat):Int):=by omega
    clear aW hj aJ e0 e1 e2 e3 yA HK;go_wp2
    go_roundw
    case rel=>exact⟨k+1,max n j,by omega,by go_num,rfl,by omega,qr6,HF⟩
    case measure=>simp[intOf];omega
   ·obtain rfl:k=x.kn:=by omega
    have HD:=ae (yw.out n yA.out);clear HK;go_wp2;exact bu (v:=.int .i64 n) (by simp[results,Tryz.results107,go_sem]) rfl ⟨n,rfl,HD.out,qxs,HE.out.trans jo.out⟩
theorem qoo(L:Nat)(yY:1<=L)(xN:L<=4)(D:Nat):Y2 L D:=by
 induction D using Nat.strongRecOn with
 |_ D ih=>exact qt9 L yY xN D λE hE=>ih E hE
def Vk(w:World)(l:List Tm)(L:Int)(e:Ending)(w':World):Prop:=∃z:Int,e=.returned (.int .i64 z)/\((af l []/\z= -1)\/(¬af l []/\¬(1<=L/\L<=4)/\z=0)\/(¬af l []/\∃K n:Nat,L=K/\1<=K/\K<=4/\z=n/\bE K l n/\n<=1099511627776))/\Ext w w'
theorem qzc(M:Nat->Prop)(x:PE)(l:List Tm)(L:Int)(w:World)(hM:Mb M w)(h:PI M w x l):Calls Tryz.prog 43 #[.agg (ak x),.int .i64 L] w (Vk w l L):=by
 have hE:=(aA w).alloc (.cells (ak x) 33);have kM:=aG.bq w (ak x) 33 4 rfl;have fu:Mb (Mx M w.heap.size (w.heap.size+1)) (w.alloc (.cells (ak x) 33)):=Mx.mb hM (by simp) (by simp);have h2:=(h.more (M':=Mx M w.heap.size (w.heap.size+1)) (Mx.more (aI _))).ext hE;have HI:=ae h2;clear h h2
 go_enter Tryz.func43,Tryz.ntmps43
 go_wp2_with (fail);refine(Jc _ x l _ fu HI.out).mono ?_;rintro e w1 ⟨y,rfl,hy,az⟩;have iN:=hE.trans az;have dm:=kM.ext az;have jD:=fu.ext az;obtain⟨⟨q0,q1,q2,q3⟩,⟨f0,f1,f2,f3⟩,⟨r0,r1,r2,r3⟩,hk,hf⟩:=AR (M':=Mx M w.heap.size (w.heap.size+1)) (w:=w) (.int .i64 y.lv) (.bool y.b) (.slice y.a y.n y.p) (.slice y.ka y.kn y.kp) dm (Mx.at (by omega)) (aI _) iN;have HY:=ae (hy.kp hk);have pU:Mb (Mx M w.heap.size (w.heap.size+1)) (aM w1 w.heap.size 0 (.int .i64 y.lv) (.bool y.b) (.slice y.a y.n y.p) (.slice y.ka y.kn y.kp)):=jD.size hk.1;have DW:=dm.lt;have zo:w.heap.size<(aM w1 w.heap.size 0 (.int .i64 y.lv) (.bool y.b) (.slice y.a y.n y.p) (.slice y.ka y.kn y.kp)).heap.size:=dH DW hk.1;clear q0 q1 q2 q3;obtain⟨q0,q1,q2,q3⟩:=dm.p4;generalize hW:aM w1 w.heap.size 0 (.int .i64 y.lv) (.bool y.b) (.slice y.a y.n y.p) (.slice y.ka y.kn y.kp)=W at r0 r1 r2 r3 hf HY pU zo;unfold aM at hW;have HW:=ae hW;have yu:=ae hf;have HM:=ae pU;have HP:Hid (P4 W w.heap.size y):=⟨r0,r1,r2,r3⟩;clear kM fu az hE dm jD hy HI hk hf pU iN hW DW hM
 go_upto_region 2 with(fail)
 rw[HW.out];clear q0 q1 q2 q3 f0 f1 f2 f3 HW;have CZ:=ae (Jb _ y l W HM.out HY.out.pi);go_wp2_with (fail);refine CZ.out.mono ?_;rintro e w2 ⟨bz,rfl,tJ,aJ⟩;have aZ:=ae (yu.out.trans aJ);have kF:=ae tJ;have o5:=ae (HY.out.ext aJ);have eD:=ae (HP.out.ext aJ);clear tJ aJ CZ yu HY HP r0 r1 r2 r3 HM zo
 cases bz with
 |true=>
  have HF:Hid (Vk w l L (.returned (.int .i64 (-1))) w2):=⟨-1,rfl,.inl ⟨kF.out.1 rfl,rfl⟩,aZ.out⟩;clear kF aZ o5 eD;go_wp2;exact bu (v:=.int .i64 (-1)) (by simp[results,Tryz.results43,go_sem]) rfl HF.out
 |false=>
  have HZ:Hid (¬af l []):=λhs=>by have:=kF.out.2 hs;cases this
  clear kF;have CL:=ae (Tc L w2);go_wp2_with (fail);refine CL.out.mono ?_;rintro e w3 ⟨rfl,rfl⟩
  by_cases hl:1<=L/\L<=4
  ·have pg:gm L=true:=by unfold gm;simp[hl]
   obtain⟨K,rfl⟩:∃K:Nat,L=K:=⟨L.toNat,by omega⟩;have HK:Hid (1<=K/\K<=4):=⟨by omega,by omega⟩;have CD:=ae (qoo K HK.out.1 HK.out.2 4 _ l y w2 o5.out);clear hl CL;obtain⟨r0,r1,r2,r3⟩:=eD.out;go_wp2_with (fail);refine CD.out.mono ?_;rintro e w4 ⟨n,rfl,hn,gH,bB⟩;have HF:Hid (Vk w l K (.returned (.int .i64 n)) w4):=⟨n,rfl,.inr (.inr ⟨HZ.out,K,n,rfl,HK.out.1,HK.out.2,rfl,hn,gH⟩),aZ.out.trans bB⟩;clear hn bB CD HZ aZ o5 eD r0 r1 r2 r3;go_wp2;exact bu (v:=.int .i64 n) (by simp[results,Tryz.results43,go_sem]) rfl HF.out
  ·have pg:gm L=false:=by unfold gm;simp only[decide_eq_false_iff_not];exact hl
   have HF:Hid (Vk w l L (.returned (.int .i64 0)) w2):=⟨0,rfl,.inr (.inl ⟨HZ.out,hl,rfl⟩),aZ.out⟩;clear aZ o5 eD hl HZ CL;go_wp2;exact bu (v:=.int .i64 0) (by simp[results,Tryz.results43,go_sem]) rfl HF.out
end Go.Proofs.YtmcfpnmoklnhoaaGreat
