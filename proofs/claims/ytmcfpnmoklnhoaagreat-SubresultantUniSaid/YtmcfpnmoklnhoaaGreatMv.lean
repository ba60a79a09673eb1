/- Mv -/
import Derived.Test.YtmcfpnmoklnhoaaGreatMu
set_option linter.unusedVariables false
set_option maxRecDepth 100000
set_option maxHeartbeats 400000000
set_option linter.unusedSimpArgs false
namespace Go.Proofs.YtmcfpnmoklnhoaaGreat
open Go.RowKit
structure IE where
 b:Bool
 a:Option Addr
 n:Nat
 p:Nat
instance:Inhabited IE:=⟨⟨false,none,0,0⟩⟩
def bg(M:Nat->Prop)(w:World)(a:Option Addr)(n cap:Nat)(X:Nat->IE)(z:Nat->Int):Prop:=
 n<=1099511627776/\n<=cap/\cap<=maxLen/\(a=none->cap=0)/\∀i,i<n->∃b off,a=some ⟨b,off,none⟩/\b<w.heap.size/\¬M b/\w.cell? ⟨b,off+i*2,none⟩=some (.bool (X i).b)/\w.cell? ⟨b,off+i*2+1,none⟩=some (.slice (X i).a (X i).n (X i).p)/\dB M w (.bool (X i).b) (.slice (X i).a (X i).n (X i).p) (z i)
section
variable{M M':Nat->Prop}{w w':World}{a:Option Addr}{n cap:Nat}{X:Nat->IE}{z:Nat->Int}
theorem bg.kp(h:bg M w a n cap X z)(he:Kp M w w'):bg M w' a n cap X z:=by
 obtain⟨h1,h2,h3,h4,h5⟩:=h;refine⟨h1,h2,h3,h4,λi hi=>?_⟩;obtain⟨b,off,e,hb,hm,c0,c1,hv⟩:=h5 i hi;exact⟨b,off,e,Nat.lt_of_lt_of_le hb he.1,hm,by rw[he.cell hb hm];exact c0,by rw[he.cell hb hm];exact c1,hv.kp he⟩
theorem bg.ext(h:bg M w a n cap X z)(he:Ext w w'):bg M w' a n cap X z:=h.kp (Kp.jC he)
theorem bg.more(h:bg M w a n cap X z)(hm:∀g,M' g->M g\/w.heap.size<=g):bg M' w a n cap X z:=by
 obtain⟨h1,h2,h3,h4,h5⟩:=h;refine⟨h1,h2,h3,h4,λi hi=>?_⟩;obtain⟨b,off,e,hb,hn,c0,c1,hv⟩:=h5 i hi;exact⟨b,off,e,hb,λhg=>(hm b hg).elim hn (λh=>by omega),c0,c1,hv.more hm⟩
theorem bg.cut(h:bg M w a n cap X z){k:Nat}(hk:k<=n):bg M w a k cap X z:=by
 obtain⟨h1,h2,h3,h4,h5⟩:=h;exact⟨by omega,by omega,h3,h4,λi hi=>h5 i (by omega)⟩
end
def tz(z:Nat->Int):Nat->Nat
 |0=>0
 |n+1=>if z n=0 then tz z n else n+1
theorem jr(z:Nat->Int):∀n,tz z n<=n
 |0=>Nat.le_refl _
 |n+1=>by
  unfold tz
  split
  ·have:=jr z n;omega
  ·exact Nat.le_refl _
theorem Ho(z:Nat->Int):∀n,tz z n=0\/z (tz z n-1)≠0
 |0=>.inl rfl
 |n+1=>by
  unfold tz
  split
  ·exact Ho z n
  ·rename_i h;exact .inr h
theorem Rp(z:Nat->Int):∀n i,tz z n<=i->i<n->z i=0
 |0,i,_,h=>by omega
 |n+1,i,h1,h2=>by
  unfold tz at h1
  split at h1
  ·rename_i h
   by_cases hi:i=n
   ·rw[hi];exact h
   ·exact Rp z n i h1 (by omega)
  ·omega
theorem qzJ{z:Nat->Int}{n:Nat}(h0:0<n)(h:z (n-1)=0):tz z n=tz z (n-1):=by
 obtain⟨k,rfl⟩:∃k,n=k+1:=⟨n-1,by omega⟩;rw[show tz z (k+1)=if z k=0 then tz z k else k+1 from rfl,if_pos (show z k=0 from h)];rfl
theorem Ro{z:Nat->Int}{n:Nat}(h0:0<n)(h:z (n-1)≠0):tz z n=n:=by
 obtain⟨k,rfl⟩:∃k,n=k+1:=⟨n-1,by omega⟩;rw[show tz z (k+1)=if z k=0 then tz z k else k+1 from rfl,if_neg (show z k≠0 from h)]
theorem JZ(M:Nat->Prop)(a:Option Addr)(n cap:Nat)(X:Nat->IE)(z:Nat->Int)(w:World)(h:bg M w a n cap X z):
 Calls Tryz.prog 78 #[.slice a n cap] w λe w'=>e=.returned (.slice a (tz z n) cap)/\Ext w w':=by
 have hn:=h.1;have kP:=h.2.1;have gm:=h.2.2.1;have wH:=h.2.2.2.1;have HU:=Lib.hid h;clear h;unfold maxLen at gm
 go_enter Tryz.func78,Tryz.ntmps78
 go_wp2
 go_loopw [3] (λi wr=>∃k:Nat,k<=n/\tz z n=tz z k/\i=.int .i64 k/\Ext w wr) (λi _=>(intOf i).toNat)
 case atStart=>exact⟨n,Nat.le_refl _,rfl,rfl,Ext.refl _⟩
 case round=>
  obtain⟨k,hk,ht,rfl,bW⟩:=hrel
  by_cases fJ:k=0
  ·subst fJ;have HT:Hid (tz z n=0):=ht;clear ht;go_wp2;go_ret;exact⟨by rw[HT.out];rfl,bW⟩
  ·have iq:0<k:=by omega
   obtain⟨b,off,Ah,hb,Ma,x0,x1,hv⟩:=(HU.out.ext bW).2.2.2.2 (k-1) (by omega);subst Ah;have HV:=Lib.hid hv
   have j1:(0:Int)<=(k:Int)-1:=by omega
   have j2:((k:Int)-1).toNat=k-1:=by omega
   have j3:(k:Int)-1<(n:Int):=by omega
   clear hv;go_wp2_with (fail);refine(Mw _ _ (z (k-1)) _ HV.out).mono ?_;rintro e w1 ⟨rfl,af⟩;have PL:=bW.trans af;clear x0 x1 hb af bW
   by_cases hz:z (k-1)=0
   ·have t0:((z (k-1)).sign==0)=true:=by simp[hz]
    go_wp2
    go_roundw
    case rel=>exact⟨k-1,by omega,by rw[ht,qzJ iq hz],by go_num,PL⟩
    case measure=>simp[intOf];omega
   ·have t0:((z (k-1)).sign==0)=false:=by simp[hz]
    have HT:Hid (tz z n=k):=ht.trans (Ro iq hz);clear ht;go_wp2;go_ret;exact⟨by rw[HT.out];rfl,PL⟩
theorem Na(M:Nat->Prop)(a:Option Addr)(n cap:Nat)(X:Nat->IE)(z:Nat->Int)(w:World)(h:bg M w a n cap X z):
 Calls Tryz.prog 23 #[.slice a n cap] w λe w'=>e=.returned (.int .i64 ((tz z n:Nat)-1))/\Ext w w':=by
 have HU:=Lib.hid h;have hle:tz z n<=1099511627776:=Nat.le_trans (jr z n) h.1;clear h
 go_enter Tryz.func23,Tryz.ntmps23
 go_wp2_with (fail);refine(JZ M a n cap X z w HU.out).mono ?_;rintro e w1 ⟨rfl,af⟩;go_wp2;go_ret;exact⟨rfl,af⟩
def aP(L n:Nat)(z:Nat->Int):List Tm:=aJ L n λi=>[(z i,Mo.zero)]
theorem qg8{l:List Tm}{m:Mo}(h:aB l m≠0):∃t∈l,t.2=m:=by
 refine Classical.byContradiction λhc=>h (qh λt ht e=>hc ⟨t,ht,e⟩)
theorem qoD{L n k:Nat}{z:Nat->Int}(h:k<=n)(hz:∀i,k<=i->i<n->z i=0):ae (aP L k z) (aP L n z):=
 MQ h λi h1 h2=>by rw[hz i h1 h2];exact V9
theorem qdD{L n:Nat}{z:Nat->Int}:ae (aP L (tz z n) z) (aP L n z):=qoD (jr z n) λi h1 h2=>Rp z n i h1 h2
def bK(w:World)(g o:Nat)(e0 e1:Value):World:=(w.setCell ⟨g,o,none⟩ e0).setCell ⟨g,o+1,none⟩ e1
def UK(M:Nat->Prop)(w:World)(g N k:Nat)(z:Nat->Int):Prop:=
 ∃X:Nat->IE,∃f,ak w g 30 (N*2) f/\∀i,i<k->f (i*2)=.bool (X i).b/\f (i*2+1)=.slice (X i).a (X i).n (X i).p/\dB M w (.bool (X i).b) (.slice (X i).a (X i).n (X i).p) (z i)
section
variable{M M':Nat->Prop}{w w':World}{g N k:Nat}{z:Nat->Int}
theorem UK.ext(h:UK M w g N k z)(he:Ext w w'):UK M w' g N k z:=by
 obtain⟨X,f,hB,hf⟩:=h;exact⟨X,f,hB.ext he,λi hi=>⟨(hf i hi).1,(hf i hi).2.1,(hf i hi).2.2.ext he⟩⟩
theorem UK.at(h:UK M w g N k z){j:Nat}(hj:j<N):(∃e,w.cell? ⟨g,j*2,none⟩=some e)/\(∃e,w.cell? ⟨g,j*2+1,none⟩=some e)/\(∀o,w.frozen? ⟨g,o,none⟩=false)/\g<w.heap.size:=by
 obtain⟨X,f,hB,hf⟩:=h;exact⟨⟨_,hB.cell (by omega)⟩,⟨_,hB.cell (by omega)⟩,hB.frozen,hB.lt⟩
theorem UK.set(h:UK M w g N k z)(hg:M g){b:Bool}{a:Option Addr}{n p:Nat}(hc:dB M w (.bool b) (.slice a n p) (z k)):UK M (bK w g (k*2) (.bool b) (.slice a n p)) g N (k+1) z:=by
 obtain⟨X,f,hB,hf⟩:=h;have hk:Kp M w (bK w g (k*2) (.bool b) (.slice a n p)):=(Kp.set M w (p:=⟨g,k*2,none⟩) hg _).trans (Kp.set M _ (p:=⟨g,k*2+1,none⟩) hg _);refine⟨λi=>if i=k then⟨b,a,n,p⟩else X i,_,(hB.set (k*2) (.bool b)).set (k*2+1) (.slice a n p),λi hi=>?_⟩;unfold iK
 by_cases gH:i=k
 ·subst gH;simp only[if_true];exact⟨by rw[if_neg (by omega)],trivial,hc.kp hk⟩
 ·simp only[if_neg gH];rw[if_neg (by omega),if_neg (by omega),if_neg (by omega),if_neg (by omega)];obtain⟨h1,h2,h3⟩:=hf i (by omega);exact⟨h1,h2,h3.kp hk⟩
theorem UK.row(h:UK M w g N N z)(hm:∀g,M' g->M g\/w.heap.size<=g)(hg:¬M' g)(hN:N<=1099511627776):∃X,bg M' w (some ⟨g,0,none⟩) N N X z:=by
 obtain⟨X,f,hB,hf⟩:=h;refine⟨X,hN,Nat.le_refl _,by unfold maxLen;omega,λe=>(by cases e),λi hi=>?_⟩;obtain⟨h1,h2,h3⟩:=hf i hi;exact⟨g,0,rfl,hB.lt,hg,by rw[Nat.zero_add,hB.cell (by omega),h1],by rw[Nat.zero_add,hB.cell (by omega),h2],h3.more hm⟩
theorem UK.more(h:UK M w g N k z)(hm:∀g,M' g->M g\/w.heap.size<=g):UK M' w g N k z:=by
 obtain⟨X,f,hB,hf⟩:=h;exact⟨X,f,hB,λi hi=>⟨(hf i hi).1,(hf i hi).2.1,(hf i hi).2.2.more hm⟩⟩
theorem UK.fresh{f:Nat->Value}(hB:ak w g 30 (N*2) f):UK M w g N 0 z:=⟨λ_=>⟨false,none,0,0⟩,f,hB,λi hi=>absurd hi (Nat.not_lt_zero _)⟩
end
theorem Ext.bK{a w:World}(h:Ext a w){g:Nat}(hg:a.heap.size<=g)(o:Nat)(e0 e1:Value):Ext a (Go.Proofs.YtmcfpnmoklnhoaaGreat.bK w g o e0 e1):=(h.set (p:=⟨g,o,none⟩) hg e0).set (p:=⟨g,o+1,none⟩) hg e1
theorem Aw(w:World)(g o:Nat)(e0 e1:Value):(bK w g o e0 e1).heap.size=w.heap.size:=by simp[bK]
def FE(M:Nat->Prop)(w:World)(n:Nat)(z:Nat->Int)(e:Ending)(w':World):Prop:=∃g,e=.returned (.slice (some ⟨g,0,none⟩) n n)/\w.heap.size<=g/\UK (λb=>M b\/b=g) w' g n n z/\Ext w w'
def Bp(M:Nat->Prop)(w:World)(n:Nat)(z:Nat->Int)(e:Ending)(w':World):Prop:=∃a X,e=.returned (.slice a n n)/\bg M w' a n n X z/\Ext w w'
theorem qzV(M:Nat->Prop)(a:Option Addr)(n cap:Nat)(X:Nat->IE)(z:Nat->Int)(w:World)(hM:Mb M w)(h:bg M w a n cap X z):
 Calls Tryz.prog 121 #[.slice a n cap,.func (.func 101) #[] #[]] w (FE M w n z):=by
 obtain⟨i0,hi,hz0,hz1,hz2⟩:=info_parts Tryz.Jy;have hn:=h.1;have kP:=h.2.1;have gm:=h.2.2.1;have HU:=Lib.hid h;have HM:=Lib.hid hM;clear h;unfold maxLen at gm
 go_enter Tryz.func121,Tryz.ntmps121
 go_wp2_with (first|(refine wpList_make_full _ rfl _ _ _ rfl w.heap.size 30 i0 (.agg #[.bool false,.slice none 0 0]) 2 Tryz.underlying23 hi hz0 hz1 .i64 .i64 _ _ n rfl rfl ?c4 ?c5 ?c2 ?c3 ?c6 ?_))
 case c2=>rw[hz2];omega
 case c3=>unfold maxLen;omega
 case c4=>simp
 case c5=>simp
 case c6=>simp
 intro w1 hown hgrow;have bI:=ak.made hown rfl (by omega);have aL:=Lib.hid (lM hgrow)
 have dP:w.heap.size+1<=w1.heap.size:=by have:=bI.lt;omega
 have vT:Hid (UK (Mx M w.heap.size (w.heap.size+1)) w1 w.heap.size n 0 z):=UK.fresh bI;clear hown hgrow bI;go_wp2
 go_loopw [13] (λi wr=>∃k:Nat,k<=n/\i=.int .i64 k/\w.heap.size+1<=wr.heap.size/\Hid (UK (Mx M w.heap.size (w.heap.size+1)) wr w.heap.size n k z)/\Hid (Ext w wr)) (λi _=>n-(intOf i).toNat)
 case atStart=>exact⟨0,Nat.zero_le _,rfl,dP,vT,aL⟩
 case round=>
  clear vT aL dP;obtain⟨k,hk,rfl,hsz,HK,bL⟩:=hrel
  by_cases hlt:k<n
  ·obtain⟨b,off,Ah,hb,Ma,x0,x1,hv⟩:=HU.out.2.2.2.2 k hlt;subst Ah;rw[<-bL.out.cell hb]at x0 x1
   have iH:b<wr.heap.size:=by omega
   have aN:Ext wr (wr.alloc (.cells #[.bool (X k).b,.slice (X k).a (X k).n (X k).p] 30)):=(Ext.refl wr).alloc _;have F8:dB (Mx M w.heap.size (w.heap.size+1)) (wr.alloc (.cells #[.bool (X k).b,.slice (X k).a (X k).n (X k).p] 30)) _ _ (z k):=((hv.more (Mx.more (Nat.le_refl _))).ext bL.out).ext aN;have jf:Mb (Mx M w.heap.size (w.heap.size+1)) (wr.alloc (.cells #[.bool (X k).b,.slice (X k).a (X k).n (X k).p] 30)):=Mx.mb HM.out (by simp;omega) (by simp;omega);have aO:=Lib.hid (QH _ _ _ _ jf F8);have dW:=Lib.hid aN;clear hv F8 jf aN;go_wp2_with (fail);refine(aO.out).mono ?_;rintro e w4 ⟨d0,d1,rfl,hc,aW⟩;obtain⟨b2,a2,n2,p2,rfl,rfl⟩:=hc.form;have aR:=dW.out.trans aW;have eF:=HK.out.ext aR;obtain⟨⟨_,k0⟩,⟨_,k1⟩,aV,l5⟩:=eF.at hlt;have fB:=aV (k*2);have fo:=aV (k*2+1);have lJ:Hid (UK (Mx M w.heap.size (w.heap.size+1)) (bK w4 w.heap.size (k*2) (.bool b2) (.slice a2 n2 p2)) w.heap.size n (k+1) z):=eF.set (Mx.at (by omega)) hc.eH;have eD:Hid (Ext w (bK w4 w.heap.size (k*2) (.bool b2) (.slice a2 n2 p2))):=(bL.out.trans aR).bK (by omega) _ _ _
   have p8:Hid (w.heap.size+1<=(bK w4 w.heap.size (k*2) (.bool b2) (.slice a2 n2 p2)).heap.size):=by show _<=_;rw[Aw];have:=aR.size;omega
   clear eF aV hc aW aR x0 x1;go_wp2
   go_roundw
   case rel=>exact⟨k+1,by omega,by go_num,p8.out,lJ,eD⟩
   case measure=>simp[intOf];omega
  ·have hkn:k=n:=by omega
   subst hkn;have HF:Hid (FE M w k z (.returned (.slice (some ⟨w.heap.size,0,none⟩) k k)) wr):=⟨_,rfl,Nat.le_refl _,HK.out.more (λg hg=>.inl (hg.imp id λh=>by omega)),bL.out⟩;go_wp2;go_ret;exact HF.out
theorem qdC(M:Nat->Prop)(a:Option Addr)(n cap:Nat)(X:Nat->IE)(z:Nat->Int)(w:World)(hM:Mb M w)(h:bg M w a n cap X z):
 Calls Tryz.prog 63 #[.slice a n cap] w (FE M w (tz z n) z):=by
 have HU:=Lib.hid h;have hle:tz z n<=n:=jr z n;clear h
 go_enter Tryz.func63,Tryz.ntmps63
 go_wp2_with (fail);refine(JZ M a n cap X z w HU.out).mono ?_;rintro e w1 ⟨rfl,af⟩;go_wp2_with (fail);refine(qzV M a _ cap X z w1 (hM.ext af) ((HU.out.ext af).cut hle)).mono ?_;rintro e w2 ⟨g,rfl,hg,h2,aA⟩;have HF:Hid (FE M w (tz z n) z (.returned (.slice (some ⟨g,0,none⟩) (tz z n) (tz z n))) w2):=⟨_,rfl,Nat.le_trans af.size hg,h2,af.trans aA⟩;clear h2 aA af hg;go_wp2;go_ret;exact HF.out
theorem FE.row{M:Nat->Prop}{w:World}{n:Nat}{z:Nat->Int}{e:Ending}{w':World}(hM:Mb M w)(hn:n<=1099511627776)(h:FE M w n z e w'):Bp M w n z e w':=by
 obtain⟨g,rfl,hg,hk,he⟩:=h;obtain⟨X,hX⟩:=hk.row (M':=M) (λg h=>.inl (.inl h)) (hM.new hg) hn;exact⟨_,X,rfl,hX,he⟩
theorem Rq(M:Nat->Prop)(a:Option Addr)(n cap:Nat)(X:Nat->IE)(z:Nat->Int)(w:World)(hM:Mb M w)(h:bg M w a n cap X z):
 Calls Tryz.prog 63 #[.slice a n cap] w (Bp M w (tz z n) z):=
 (qdC M a n cap X z w hM h).mono λ_ _ hr=>hr.row hM (Nat.le_trans (jr z n) h.1)
def KP(M:Nat->Prop)(w:World)(L:Nat)(l:List Tm)(E:Int)(e:Ending)(w':World):Prop:=∃y:PE,e=.returned (.tuple #[.agg (ah y),.int .i64 E])/\aI M w' L y l/\Ext w w'
theorem dH.tup{M:Nat->Prop}{w W:World}{L:Nat}{l:List Tm}{y:PE}(h:dH M w L l (.returned (.agg (ah y))) W)(E:Int):KP M w L l E (.returned (.tuple #[.agg (ah y),.int .i64 E])) W:=by
 obtain⟨y',e,h1,h2⟩:=h;simp only[Ending.returned.injEq,Value.agg.injEq]at e;exact⟨y',by rw[e],h1,h2⟩
theorem qs0(M:Nat->Prop)(a:Option Addr)(n cap:Nat)(X:Nat->IE)(z:Nat->Int)(D:Nat)(w:World)(hM:Mb M w)(h:bg M w a n cap X z)(hD:D+1<=4):
 Calls Tryz.prog 11 #[.slice a n cap,.int .i64 ((D:Int)+1)] w (KP M w (D+1) (aP (D+1) n z) 0):=by
 obtain⟨i0,hi,hz0,hz1,hz2⟩:=info_parts Tryz.yo;have hn:=h.1;have kP:=h.2.1;have gm:=h.2.2.1;have HU:=Lib.hid h;have HM:=Lib.hid hM;have aQ:Ext w (w.alloc (.cells zA 33)):=(Ext.refl w).alloc _;have bO:=ak.bf w zA 33 4 rfl;have aS:=qdn ((D:Int)+1) (w.alloc (.cells zA 33));rw[show ja ((D:Int)+1)=true by unfold ja;simp;omega]at aS;have aO:=Lib.hid aS;have gB:=Lib.hid aQ;have gQ:=Lib.hid bO;clear h aS aQ bO;unfold maxLen at gm
 go_enter Tryz.func11,Tryz.ntmps11
 go_wp2_with (fail);refine aO.out.mono ?_;rintro e wq ⟨rfl,rfl⟩;clear aO
 go_wp2_with (first|(refine wpList_make_full _ rfl _ _ _ rfl (w.heap.size+1) 33 i0 (.agg #[.int .i64 0,.bool false,.slice none 0 0,.slice none 0 0]) 4 Tryz.underlying31 hi hz0 hz1 .i64 .i64 _ _ n rfl rfl ?c4 ?c5 ?c2 ?c3 ?c6 ?_))
 case c2=>rw[hz2];omega
 case c3=>unfold maxLen;omega
 case c4=>simp
 case c5=>simp
 case c6=>simp
 intro w1 hown hgrow;have bI:=(ak.made hown rfl (by omega)).congr (f':=fu) (λi _=>CY i);have af:=lM hgrow;have cB:=Lib.hid (gQ.out.ext af);have aL:=Lib.hid (gB.out.trans af)
 have dP:w.heap.size+2<=w1.heap.size:=by have:=bI.lt;omega
 have oP:Hid (Kids (Mx M w.heap.size (w.heap.size+2)) w1 D (w.heap.size+1) n (λ_=>[])):=Kids.fresh bI;clear hown hgrow bI af gQ gB;go_wp2
 go_loopw [18] (λi wr=>∃k:Nat,k<=n/\i=.int .i64 k/\w.heap.size+2<=wr.heap.size/\Hid (Kids (Mx M w.heap.size (w.heap.size+2)) wr D (w.heap.size+1) n (λi=>if i<k then[(z i,Mo.zero)]else[]))/\Hid (Ext w wr)/\Hid (ak wr w.heap.size 33 4 (arr zA))) (λi _=>n-(intOf i).toNat)
 case atStart=>exact⟨0,Nat.zero_le _,rfl,dP,oP.out.congr λi _=>by rw[if_neg (by omega)];exact ae.refl _,aL,cB⟩
 case round=>
  clear oP aL cB dP;obtain⟨k,hk,rfl,hsz,HK,bL,tN⟩:=hrel
  by_cases hlt:k<n
  ·obtain⟨b,off,Ah,hb,Ma,x0,x1,hv⟩:=HU.out.2.2.2.2 k hlt;subst Ah;rw[<-bL.out.cell hb]at x0 x1
   have iH:b<wr.heap.size:=by omega
   have aN:Ext wr (wr.alloc (.cells #[.bool (X k).b,.slice (X k).a (X k).n (X k).p] 30)):=(Ext.refl wr).alloc _;have F8:dB (Mx M w.heap.size (w.heap.size+2)) (wr.alloc (.cells #[.bool (X k).b,.slice (X k).a (X k).n (X k).p] 30)) _ _ (z k):=((hv.more (Mx.more (Nat.le_refl _))).ext bL.out).ext aN;have jf:Mb (Mx M w.heap.size (w.heap.size+2)) (wr.alloc (.cells #[.bool (X k).b,.slice (X k).a (X k).n (X k).p] 30)):=Mx.mb HM.out (by simp;omega) (by simp;omega);have aO:=Lib.hid (VZ _ _ _ _ _ _ _ jf F8);have dW:=Lib.hid aN;clear hv F8 jf aN;go_wp2_with (fail);refine(aO.out).mono ?_;rintro e w4 ⟨y,rfl,bR,aW⟩;have aR:=dW.out.trans aW;have eF:=HK.out.ext aR;obtain⟨⟨_,k0⟩,⟨_,k1⟩,⟨_,k2⟩,⟨_,k3⟩,aV,l5⟩:=eF.at k hlt;have fB:=aV (k*4);have fo:=aV (k*4+1);have lh:=aV (k*4+2);have pG:=aV (k*4+3)
   have lJ:Hid (Kids (Mx M w.heap.size (w.heap.size+2)) (aH w4 (w.heap.size+1) (k*4) (.int .i64 y.lv) (.bool y.b) (.slice y.a y.n y.p) (.slice y.ka y.kn y.kp)) D (w.heap.size+1) n (λi=>if i<k+1 then[(z i,Mo.zero)]else[])):=by
    refine(eF.set (Mx.at (by omega)) k hlt (CR.up bR (Nat.zero_le D))).congr λi _=>?_
    by_cases gH:i=k
    ·subst gH;rw[if_pos rfl,if_pos (by omega)];exact ae.refl _
    ·rw[if_neg gH]
     by_cases h3:i<k
     ·rw[if_pos h3,if_pos (by omega)];exact ae.refl _
     ·rw[if_neg h3,if_neg (by omega)];exact ae.refl _
   have eD:Hid (Ext w (aH w4 (w.heap.size+1) (k*4) (.int .i64 y.lv) (.bool y.b) (.slice y.a y.n y.p) (.slice y.ka y.kn y.kp))):=(bL.out.trans aR).aH (by omega) _ _ _ _ _;have vQ:Hid (ak (aH w4 (w.heap.size+1) (k*4) (.int .i64 y.lv) (.bool y.b) (.slice y.a y.n y.p) (.slice y.ka y.kn y.kp)) w.heap.size _ _ _):=(tN.out.ext aR).of_heap (il _ _ _ _ _ _ _ _ (by omega))
   have p8:Hid (w.heap.size+2<=(aH w4 (w.heap.size+1) (k*4) (.int .i64 y.lv) (.bool y.b) (.slice y.a y.n y.p) (.slice y.ka y.kn y.kp)).heap.size):=by show _<=_;rw[lU];have:=aR.size;omega
   clear eF aV bR aW aR x0 x1;go_wp2
   go_roundw
   case rel=>exact⟨k+1,by omega,by go_num,p8.out,lJ,eD,vQ⟩
   case measure=>simp[intOf];omega
  ·have hkn:k=n:=by omega
   subst hkn;have LC:Mb (Mx M w.heap.size (w.heap.size+1)) wr:=Mx.mb HM.out (by omega) (by omega)
   have hKR:dV (Mx M w.heap.size (w.heap.size+1)) wr D (.slice (some ⟨w.heap.size+1,0,none⟩) k k) k (λi=>[(z i,Mo.zero)]):=by
    refine dV.qcX ((HK.out.congr λi hi=>?_).more (λg hg=>.inl (hg.imp id λh=>by omega))) (λhg=>hg.elim (HM.out.new (by omega)) (λh=>by omega)) hn;simp only[if_pos hi];exact ae.refl _
   have aO:=Lib.hid (qdo _ D _ k _ wr LC hD hKR);clear hKR HK;go_wp2_with (fail);refine aO.out.mono ?_;intro e w2 hp;obtain⟨y,rfl,hy,aA⟩:=hp.x;have nH:=Lib.hid (Hd _ (D+1) y _ w2 (LC.ext aA) hy);clear hp hy aO;go_wp2_with (fail);refine nH.out.mono ?_;rintro e w3 ⟨y3,rfl,Jw,aT⟩;obtain⟨⟨q0,q1,q2,q3⟩,⟨f0,f1,f2,f3⟩,⟨r0,r1,r2,r3⟩,HF⟩:=iW (M:=M) (w:=w) ((tN.out.ext aA).ext aT) (Mx.at (by omega)) (Nat.le_refl _) ((bL.out.trans aA).trans aT) Jw Mx.sub;have dY:=Lib.hid (HF.out.tup 0);have Cf:=((tN.out.ext aA).ext aT).lt;clear HF Jw aA aT nH LC;go_wp2;exact bodyPost_ret (v:=.tuple #[.agg (ah y3),.int .i64 0]) (by simp[results,Tryz.results11,go_sem,r0,r1,r2,r3]) rfl dY.out
end Go.Proofs.YtmcfpnmoklnhoaaGreat
