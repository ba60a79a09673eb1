/- Ve -/
import Derived.Test.YtmcfpnmoklnhoaaGreatVa
import Derived.Test.YtmcfpnmoklnhoaaGreatMv
import Derived.Test.YtmcfpnmoklnhoaaGreatQb
import Derived.Test.YtmcfpnmoklnhoaaGreatMr
set_option linter.unusedVariables false
set_option maxRecDepth 100000
set_option maxHeartbeats 400000000
set_option linter.unusedSimpArgs false
namespace Go.Proofs.YtmcfpnmoklnhoaaGreat
open Go.RowKit
def ZC(b a:Nat)(x y:PE)(w:World):Prop:=P4 w b x/\P4 w a y
theorem ZC.ext{b a:Nat}{x y:PE}{w w':World}(h:ZC b a x y w)(he:Ext w w'):ZC b a x y w':=⟨h.1.ext he,h.2.ext he⟩
def Ox(w:World)(a:Option Addr)(n cap:Nat)(z:Nat->Int):Prop:=
 n<=1000/\n<=cap/\cap<=1000/\∀i,i<n->(-1000000<=z i/\z i<=1000000)/\∃b off,a=some ⟨b,off,none⟩/\b<w.heap.size/\w.cell? ⟨b,off+i,none⟩=some (.int .i64 (z i))
theorem qzR(M:Nat->Prop)(a:Option Addr)(n cap:Nat)(z:Nat->Int)(w:World)(hM:Mb M w)(h:Ox w a n cap z):
 Calls Tryz.prog 75 #[.slice a n cap] w λe w'=>∃a' X,e=.returned (.slice a' (tz z n) n)/\bg M w' a' (tz z n) n X z/\Ext w w':=by
 obtain⟨i0,hi,hz0,hz1,hz2⟩:=info_parts Tryz.Jy;have hn:=h.1;have kP:=h.2.1;have gm:=h.2.2.1;have HU:=Lib.hid h;have HM:=Lib.hid hM;clear h
 go_enter Tryz.func75,Tryz.ntmps75
 go_wp2_with (first|(refine wpList_make_full _ rfl _ _ _ rfl w.heap.size 30 i0 (.agg #[.bool false,.slice none 0 0]) 2 Tryz.underlying23 hi hz0 hz1 .i64 .i64 _ _ n rfl rfl ?c4 ?c5 ?c2 ?c3 ?c6 ?_))
 case c2=>rw[hz2];omega
 case c3=>unfold maxLen;omega
 case c4=>simp
 case c5=>simp
 case c6=>simp
 intro w1 hown hgrow;have bI:=ak.made hown rfl (by omega);have aL:=Lib.hid (lM hgrow)
 have dP:w.heap.size+1<=w1.heap.size:=by have:=bI.lt;omega
 have vT:Hid (UK (Mx M w.heap.size (w.heap.size+1)) w1 w.heap.size n 0 z):=UK.fresh bI;clear hown hgrow bI;go_wp2
 go_loopw [11] (λi wr=>∃k:Nat,k<=n/\i=.int .i64 k/\w.heap.size+1<=wr.heap.size/\Hid (UK (Mx M w.heap.size (w.heap.size+1)) wr w.heap.size n k z)/\Hid (Ext w wr)) (λi _=>n-(intOf i).toNat)
 case atStart=>exact⟨0,Nat.zero_le _,rfl,dP,vT,aL⟩
 case round=>
  clear vT aL dP;obtain⟨k,hk,rfl,hsz,HK,bL⟩:=hrel
  by_cases hlt:k<n
  ·obtain⟨Vo,b,off,Ah,hb,x0⟩:=HU.out.2.2.2 k hlt;subst Ah;rw[<-bL.out.cell hb]at x0
   have iH:b<wr.heap.size:=by omega
   have jf:Mb (Mx M w.heap.size (w.heap.size+1)) wr:=Mx.mb HM.out (by omega) (by omega);have aO:=Lib.hid (Jz (M:=Mx M w.heap.size (w.heap.size+1)) (z k) wr jf (by omega) (by omega));clear jf Vo;go_wp2_with (fail);refine(aO.out).mono ?_;rintro e w4 ⟨d0,d1,rfl,hc,aR⟩;obtain⟨b2,a2,n2,p2,rfl,rfl⟩:=hc.form;have eF:=HK.out.ext aR;obtain⟨⟨_,k0⟩,⟨_,k1⟩,aV,l5⟩:=eF.at hlt;have fB:=aV (k*2);have fo:=aV (k*2+1);have lJ:Hid (UK (Mx M w.heap.size (w.heap.size+1)) (bK w4 w.heap.size (k*2) (.bool b2) (.slice a2 n2 p2)) w.heap.size n (k+1) z):=eF.set (Mx.at (by omega)) hc.eH;have eD:Hid (Ext w (bK w4 w.heap.size (k*2) (.bool b2) (.slice a2 n2 p2))):=(bL.out.trans aR).bK (by omega) _ _ _
   have p8:Hid (w.heap.size+1<=(bK w4 w.heap.size (k*2) (.bool b2) (.slice a2 n2 p2)).heap.size):=by show _<=_;rw[Aw];have:=aR.size;omega
   clear eF aV hc aR x0;go_wp2
   go_roundw
   case rel=>exact⟨k+1,by omega,by go_num,p8.out,lJ,eD⟩
   case measure=>simp[intOf];omega
  ·have hkn:k=n:=by omega
   subst hkn;obtain⟨X',Ee⟩:=HK.out.row (M':=M) (λg hg=>.inl (.inl hg)) (HM.out.new (Nat.le_refl _)) (Nat.le_trans hn (by decide));have CT:=Lib.hid (JZ M _ k k X' z wr Ee);have HX':=Lib.hid Ee;have hle:tz z k<=k:=jr z k;clear Ee;go_wp2_with (fail);refine CT.out.mono ?_;rintro e w5 ⟨rfl,e5⟩;have HF:Hid (bg M w5 (some ⟨w.heap.size,0,none⟩) (tz z k) k X' z/\Ext w w5):=⟨(HX'.out.ext e5).cut hle,bL.out.trans e5⟩;clear e5 CT HX' bL HK;go_wp2;go_ret;exact⟨_,X',rfl,HF.out.1,HF.out.2⟩
theorem qrE{z k:Int}{l:List Tm}(h:ae l [(z,Mo.zero)])(h':ae l [(k,Mo.zero)]):z=k:=by
 have e:∀y:Int,aB [(y,Mo.zero)] Mo.zero=y:=λy=>by simp[aB]
 rw[<-e z, <-h,h',e k]
def hF:List Tm:=bA (ni 1) 2++(ai (ni 1) (ni 2)++ni 3)
def hD:List Tm:=bA (ni 2) 2++ai (ai (ni 3) [(4,Mo.zero)]) [(-1,Mo.zero)]
def hz1:Nat->Int:=λi=>if i=0 then-2 else 1
def hz2:Nat->Int:=λi=>if i=0 then-3 else if i=1 then 0 else 1
theorem Ox.ext{w w':World}{a:Option Addr}{n cap:Nat}{z:Nat->Int}(h:Ox w a n cap z)(he:Ext w w'):Ox w' a n cap z:=
 ⟨h.1,h.2.1,h.2.2.1,λi hi=>by
  obtain⟨q,b,off,h1,h2,h3⟩:=h.2.2.2 i hi
  exact⟨q,b,off,h1,Nat.lt_of_lt_of_le h2 he.size,by rw[he.cell h2];exact h3⟩⟩
section
variable{P:Program}{ops:Array Oper}{Q:Exit->Act->World->Prop}{md:Region.Mode}{S:World->Prop}{last:Nat}
theorem qDa{i:Nat}{is:List Nat}{oi:Oper}{fuel:Nat}{listed:Array Bool}{a:Act}{w:World}
 (h:KY P md ops Q S last is fuel (listed.setIfInBounds i true) (a.put oi.dst undef) w)
 (hc:(Region.noSelect ops&&Region.free md ops listed i&&(Region.ready md ops listed).contains i&&waits md ops last i)=true:=by kernel_rfl) (hS:S w:=by first|exact ag|exact hHeld)
 (hi:ops[i]?=some oi:=by simp only[iL,iM,iN];rfl) (hwd:Region.wanted oi (yielded ops a.tmps)=false:=by rfl) (hQ:∀c a w,Q (.panic c) (a.put oi.dst undef) w->Q (.panic c) a w:=by exactλ_ _ _ h=>h):KY P md ops Q S last (i::is) (fuel+1) listed a w:=by
 simp only[Bool.and_eq_true]at hc;exact⟨qoK hi (Region.noSelect_spec hc.1.1.1) hQ hc.2 fuel listed a w (Region.free_spec hi hc.1.1.2) (by simpa using hc.1.2) (.inr ⟨hwd,rfl⟩) hS h.out⟩
end
end Go.Proofs.YtmcfpnmoklnhoaaGreat
