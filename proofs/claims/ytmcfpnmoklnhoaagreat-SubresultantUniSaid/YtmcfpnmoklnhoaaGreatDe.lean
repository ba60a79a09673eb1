/- De -/
import Derived.Test.YtmcfpnmoklnhoaaGreatDa
import Derived.Test.YtmcfpnmoklnhoaaGreatNe
import Derived.Test.YtmcfpnmoklnhoaaGreatMi
import Derived.Test.YtmcfpnmoklnhoaaGreatMp
import Derived.Scope
set_option linter.unusedVariables false
set_option maxRecDepth 100000
set_option maxHeartbeats 400000000
set_option linter.unusedSimpArgs false
namespace Go.Proofs.YtmcfpnmoklnhoaaGreat
open Go.RowKit
structure SE where
 a:Option Addr
 n:Nat
 p:Nat
 l:List Tm
instance:Inhabited SE:=⟨⟨none,0,0,[]⟩⟩
def sv(x:SE):Value:=.slice x.a x.n x.p
def sx(x:Nat->SE):Nat->Value:=λi=>sv (x i)
def Ow(M:Nat->Prop)(w:World)(g cap n:Nat)(y:Nat->SE):Prop:=∃F,ak w g 71 cap F/\(∀j,j<n->F j=sv (y j))/\∀i,i<n->uW M w (sv (y i)) (y i).l/\az (aC (y i).l)<=1099511627776
theorem Ow.ext{M:Nat->Prop}{w w':World}{g cap n:Nat}{y:Nat->SE}(h:Ow M w g cap n y)(he:Ext w w'):Ow M w' g cap n y:=by
 obtain⟨F,h1,h2,h3⟩:=h;exact⟨F,h1.ext he,h2,λi hi=>⟨(h3 i hi).1.ext he,(h3 i hi).2⟩⟩
theorem Ow.cell{M:Nat->Prop}{w:World}{g cap n:Nat}{y:Nat->SE}(h:Ow M w g cap n y)(hn:n<=cap)(i:Nat)(hi:i<n):w.cell? ⟨g,i,none⟩=some (.slice (y i).a (y i).n (y i).p):=by
 obtain⟨F,h1,h2,h3⟩:=h;rw[h1.cell (by omega),h2 i hi];rfl
def Tw(g:Nat)(x y:SE)(w:World):Prop:=w.cell? ⟨g,0,none⟩=some (.slice x.a x.n x.p)/\w.cell? ⟨g,1,none⟩=some (.slice y.a y.n y.p)
theorem Tw.ext{g:Nat}{x y:SE}{w w':World}(h:Tw g x y w)(he:Ext w w'):Tw g x y w':=by
 have hb:=World.block_lt_of_cell? _ _ h.1;unfold Tw;rw[he.cell hb,he.cell hb];exact h
theorem Tryz.qCT:(Tryz.prog.info? 71).map (λi=>(i.zero,i.size,i.bytes))=some (some (.slice none 0 0),1,24):=by kernel_rfl
def f23:List Tm:=[(1,⟨1,1,0,0⟩),(3,⟨0,0,0,0⟩)]
theorem Kids.jH{M:Nat->Prop}{w:World}{D g N:Nat}{P:Nat->List Tm}(h:Kids M w D g N P)(i:Nat)(hi:i<N):∃y:PE,eX w g (i*4) y/\aI M w D y (P i):=by
 obtain⟨f,hB,hc⟩:=h;obtain⟨x,e0,e1,e2,e3,hx,_⟩:=(hc i hi).pe;refine⟨x,⟨?_,?_,?_,?_⟩,hx⟩
 ·rw[hB.cell (by omega),e0]
 ·rw[hB.cell (by omega),e1]
 ·rw[hB.cell (by omega),e2]
 ·rw[hB.cell (by omega),e3]
theorem Kids.lt{M:Nat->Prop}{w:World}{D g N:Nat}{P:Nat->List Tm}(h:Kids M w D g N P):g<w.heap.size:=by
 obtain⟨f,hB,_⟩:=h;exact hB.lt
def Zh(g b:Nat)(z p:PE)(w:World):Prop:=eX w g 4 z/\P4 w b p
theorem Zh.ext{g b:Nat}{z p:PE}{w w':World}(h:Zh g b z p w)(he:Ext w w'):Zh g b z p w':=⟨h.1.ext (World.block_lt_of_cell? _ _ h.1.1) he,h.2.ext he⟩
theorem ZT{k B:Nat}(h1:1<=k)(h4:k<=4){e:Int}{l:List Tm}(h:bn B l):bn B (ck k e l):=λm hm j=>by
 rw[mE h1 h4]at hm
 split at hm
 ·rename_i h0;have:=h _ hm j;rw[gL,dX _ _ _ h1 h4]at this
  by_cases hj:j=k
  ·rw[hj,h0];omega
  ·rw[if_neg hj]at this;omega
 ·exact absurd rfl hm
theorem TT(k:Nat)(e:Int)(l:List Tm):aC (ck k e l)<=aC l:=by
 have:=qmi (f:=K7 k e) (K:=1) (l:=l) λt _=>by
  unfold K7;simp only;split<;>decide
 unfold ck;omega
theorem qai{k n B:Nat}{l:List Tm}(h:bD k l n)(hB:bn B l):n<=B:=by
 rcases h.2 with h0|⟨m,hm,hg⟩
 ·omega
 ·have:=hB m hm k;omega
def KG(l:List Tm)(L:Int)(s:List Tm):Prop:=(ae l []/\s=[])\/(¬ae l []/\¬(1<=L/\L<=4)/\s=l)\/(¬ae l []/\∃K n:Nat,L=K/\1<=K/\K<=4/\bD K l n/\s=ck K (n:Int) l)
def qgy(M:Nat->Prop)(w:World)(R:List Tm->Prop)(e:Ending)(w':World):Prop:=∃(v:PE)(s:List Tm),e=.returned (.agg (ah v))/\aI M w' 4 v s/\R s/\Ext w w'
theorem dH.ld{M:Nat->Prop}{w w':World}{s:List Tm}{e:Ending}{R:List Tm->Prop}(h:dH M w 4 s e w')(hR:R s):qgy M w R e w':=by
 obtain⟨y,h1,h2,h3⟩:=h;exact⟨y,s,h1,h2,hR,h3⟩
theorem qwI(M:Nat->Prop)(x:PE)(l:List Tm)(L:Int)(B:Nat)(w:World)(hM:Mb M w)(h:PI M w x l)(hB:bn B l)(kv:(B+1)^4<=1099511627776)(cZ:B+1<=1073741824)(hR:az (aC l)<=1099511627776):Calls Tryz.prog 117 #[.agg (ah x),.int .i64 L] w (qgy M w (KG l L)):=by
 obtain⟨aQ,nO,bO,dw⟩:=OD hM x;have CC:=Lib.hid (VB _ x l L B _ dw ((h.more (M':=Mx M w.heap.size (w.heap.size+2)) (Mx.more (Nat.le_refl _))).ext aQ) hB kv cZ hR);have HE:=Lib.hid aQ;have HB:=Lib.hid bO;have HM:=Lib.hid hM;obtain⟨x0,x1,x2,x3⟩:=nO;have Jm:Hid (∀K n:Nat,bD K l n->n<=B):=λK n hd=>qai hd hB;have fH:=Lib.hid cZ;clear aQ bO dw hM h hB kv hR cZ
 go_enter Tryz.func117,Tryz.ntmps117
 go_wp2_with (fail);refine CC.out.mono ?_;rintro e w1 ⟨hr,af⟩;have aL:=Lib.hid (HE.out.trans af);have bM:=HB.out.ext af;clear af CC x0 x1 x2 x3 HB HE;rcases hr with⟨hz,rfl⟩|⟨hz,hl,g,rfl,hg,hk⟩|⟨hz,K,n,g,rfl,D7,eF,rfl,hg,hd,hk⟩
 ·obtain⟨⟨q0,q1,q2,q3⟩,⟨f0,f1,f2,f3⟩,⟨r0,r1,r2,r3⟩,HF⟩:=iW (M:=M) (M':=Mx M w.heap.size (w.heap.size+2)) (w:=w) (L:=4) (l:=[]) (y:=PE.z) bM (Mx.at (by omega)) (by omega) aL.out (CR.zero _ _ 4) Mx.sub;simp only[PE.z]at r0 r1 r2 r3;have dY:=Lib.hid (HF.out.ld (R:=KG l L) (.inl ⟨hz,rfl⟩));clear HF bM hz;go_wp2;exact bodyPost_ret (v:=.agg (ah PE.z)) (by simp[results,Tryz.results117,go_sem,r0,r1,r2,r3,PE.z]) rfl dY.out
 ·obtain⟨y,⟨c0,c1,c2,c3⟩,hy⟩:=hk.jH 0 (by omega);have dZ:=hk.lt;rw[Nat.zero_mul]at c0 c1 c2 c3;simp only[Nat.zero_add]at c1 c2 c3;obtain⟨⟨q0,q1,q2,q3⟩,⟨f0,f1,f2,f3⟩,⟨r0,r1,r2,r3⟩,HF⟩:=iW (M:=M) (w:=w) (L:=4) (l:=l) (y:=y) bM (Mx.at (by omega)) (by omega) aL.out (hy.more (M':=Mx M w.heap.size (w.heap.size+2)) λb hb=>.inl (.inl hb)) Mx.sub;have dY:=Lib.hid (HF.out.ld (R:=KG l L) (.inr (.inl ⟨hz,hl,rfl⟩)));clear HF bM hz hl hk hy
  have wT:IntKind.i64.wrap 0=0:=by decide
  go_wp2;exact bodyPost_ret (v:=.agg (ah y)) (by simp[results,Tryz.results117,go_sem,r0,r1,r2,r3]) rfl dY.out
 ·obtain⟨y,⟨c0,c1,c2,c3⟩,hy⟩:=hk.jH n (by omega);have dZ:=hk.lt
  have Jn:(n:Int)+1<=1099511627776:=by have:=Jm.out K n hd;have:=fH.out;omega
  have iw:(0:Int)<=(n:Int):=Int.natCast_nonneg _
  have hne:((n:Int)+1==0)=false:=by simp;omega
  have hw:IntKind.i64.wrap ((n:Int)+1-1)=(n:Int):=by rw[IntKind.wrap_i64];omega
  obtain⟨⟨q0,q1,q2,q3⟩,⟨f0,f1,f2,f3⟩,⟨r0,r1,r2,r3⟩,HF⟩:=iW (M:=M) (w:=w) (L:=4) (l:=ck K (n:Int) l) (y:=y) bM (Mx.at (by omega)) (by omega) aL.out (hy.more (M':=Mx M w.heap.size (w.heap.size+2)) λb hb=>.inl (.inl hb)) Mx.sub;have dY:=Lib.hid (HF.out.ld (R:=KG l K) (.inr (.inr ⟨hz,K,n,rfl,D7,eF,hd,rfl⟩)));clear HF bM hz hk hy hd Jm fH;go_wp2;exact bodyPost_ret (v:=.agg (ah y)) (by simp[results,Tryz.results117,go_sem,r0,r1,r2,r3]) rfl dY.out
end Go.Proofs.YtmcfpnmoklnhoaaGreat
