/- Mv -/
import Derived.Test.YtmcfpnmoklnhoaaGreatMu
set_option linter.unusedVariables false
set_option maxRecDepth 100000
set_option maxHeartbeats 400000000
set_option linter.unusedSimpArgs false
namespace Go.Proofs.YtmcfpnmoklnhoaaGreat
open Go.RowKit
structure IE where
 b:Bool
 a:Option Addr
 n:Nat
 p:Nat
instance:Inhabited IE:=⟨⟨false,none,0,0⟩⟩
def bC(M:Nat->Prop)(w:World)(a:Option Addr)(n cap:Nat)(X:Nat->IE)(z:Nat->Int):Prop:=
 n<=1099511627776/\n<=cap/\cap<=maxLen/\(a=none->cap=0)/\∀i,i<n->∃b off,a=some ⟨b,off,none⟩/\b<w.heap.size/\¬M b/\w.cell? ⟨b,off+i*2,none⟩=some (.bool (X i).b)/\w.cell? ⟨b,off+i*2+1,none⟩=some (.slice (X i).a (X i).n (X i).p)/\dQ M w (.bool (X i).b) (.slice (X i).a (X i).n (X i).p) (z i)
section
variable{M M':Nat->Prop}{w w':World}{a:Option Addr}{n cap:Nat}{X:Nat->IE}{z:Nat->Int}
theorem bC.kp(h:bC M w a n cap X z)(he:Kp M w w'):bC M w' a n cap X z:=by
 obtain⟨h1,h2,h3,h4,h5⟩:=h;refine⟨h1,h2,h3,h4,λi hi=>?_⟩;obtain⟨b,off,e,hb,hm,c0,c1,hv⟩:=h5 i hi;exact⟨b,off,e,dH hb he.1,hm,by rw[he.cell hb hm];exact c0,by rw[he.cell hb hm];exact c1,hv.kp he⟩
theorem bC.ext(h:bC M w a n cap X z)(he:Ext w w'):bC M w' a n cap X z:=h.kp (Kp.kV he)
theorem bC.more(h:bC M w a n cap X z)(hm:∀g,M' g->M g\/w.heap.size<=g):bC M' w a n cap X z:=by
 obtain⟨h1,h2,h3,h4,h5⟩:=h;refine⟨h1,h2,h3,h4,λi hi=>?_⟩;obtain⟨b,off,e,hb,hn,c0,c1,hv⟩:=h5 i hi;exact⟨b,off,e,hb,λhg=>(hm b hg).elim hn (λh=>by omega),c0,c1,hv.more hm⟩
theorem bC.cut(h:bC M w a n cap X z){k:Nat}(hk:k<=n):bC M w a k cap X z:=by
 obtain⟨h1,h2,h3,h4,h5⟩:=h;exact⟨by omega,by omega,h3,h4,λi hi=>h5 i (by omega)⟩
end
def tz(z:Nat->Int):Nat->Nat
 |0=>0
 |n+1=>if z n=0 then tz z n else n+1
theorem iR(z:Nat->Int):∀n,tz z n<=n
 |0=>aI _
 |n+1=>by
  unfold tz
  split
  ·have:=iR z n;omega
  ·exact aI _
theorem Jl(z:Nat->Int):∀n,tz z n=0\/z (tz z n-1)≠0
 |0=>.inl rfl
 |n+1=>by
  unfold tz
  split
  ·exact Jl z n
  ·rename_i h;exact .inr h
theorem TJ(z:Nat->Int):∀n i,tz z n<=i->i<n->z i=0
 |0,i,_,h=>by omega
 |n+1,i,h1,h2=>by
  unfold tz at h1
  split at h1
  ·rename_i h
   by_cases hi:i=n
   ·rw[hi];exact h
   ·exact TJ z n i h1 (by omega)
  ·omega
theorem qCf{z:Nat->Int}{n:Nat}(h0:0<n)(h:z (n-1)=0):tz z n=tz z (n-1):=by
 obtain⟨k,rfl⟩:∃k,n=k+1:=⟨n-1,by omega⟩;rw[show tz z (k+1)=if z k=0 then tz z k else k+1 from rfl,ai (show z k=0 from h)];rfl
theorem LH{z:Nat->Int}{n:Nat}(h0:0<n)(h:z (n-1)≠0):tz z n=n:=by
 obtain⟨k,rfl⟩:∃k,n=k+1:=⟨n-1,by omega⟩;rw[show tz z (k+1)=if z k=0 then tz z k else k+1 from rfl,ah (show z k≠0 from h)]
theorem Jm(M:Nat->Prop)(a:Option Addr)(n cap:Nat)(X:Nat->IE)(z:Nat->Int)(w:World)(h:bC M w a n cap X z):
 Calls Tryz.prog 78 #[.slice a n cap] w λe w'=>e=.returned (.slice a (tz z n) cap)/\Ext w w':=by
 have hn:=h.1;have mi:=h.2.1;have iB:=h.2.2.1;have zm:=h.2.2.2.1;have HU:=ae h;clear h;unfold maxLen at iB
 go_enter Tryz.func78,Tryz.ntmps78
 go_wp2
 go_loopw [3] (λi wr=>∃k:Nat,k<=n/\tz z n=tz z k/\i=.int .i64 k/\Ext w wr) (λi _=>(intOf i).toNat)
 case atStart=>exact⟨n,aI _,rfl,rfl,aA _⟩
 case round=>
  obtain⟨k,hk,ht,rfl,dL⟩:=hrel
  by_cases iO:k=0
  ·subst iO;have HT:Hid (tz z n=0):=ht;clear ht;go_wp2;go_ret;exact⟨by rw[HT.out];rfl,dL⟩
  ·have j5:0<k:=by omega
   obtain⟨b,off,BF,hb,hmb,x0,x1,hv⟩:=(HU.out.ext dL).2.2.2.2 (k-1) (by omega);subst BF;have HV:=ae hv
   have j1:(0:Int)<=(k:Int)-1:=by omega
   have j2:((k:Int)-1).toNat=k-1:=by omega
   have j3:(k:Int)-1<(n:Int):=by omega
   clear hv;go_wp2_with (fail);refine(IU _ _ (z (k-1)) _ HV.out).mono ?_;rintro e w1 ⟨rfl,az⟩;have ql4:=dL.trans az;clear x0 x1 hb az dL
   by_cases hz:z (k-1)=0
   ·have t0:((z (k-1)).sign==0)=true:=by simp[hz]
    go_wp2
    go_roundw
    case rel=>exact⟨k-1,by omega,by rw[ht,qCf j5 hz],by go_num,ql4⟩
    case measure=>simp[intOf];omega
   ·have t0:((z (k-1)).sign==0)=false:=by simp[hz]
    have HT:Hid (tz z n=k):=ht.trans (LH j5 hz);clear ht;go_wp2;go_ret;exact⟨by rw[HT.out];rfl,ql4⟩
theorem LJ(M:Nat->Prop)(a:Option Addr)(n cap:Nat)(X:Nat->IE)(z:Nat->Int)(w:World)(h:bC M w a n cap X z):
 Calls Tryz.prog 23 #[.slice a n cap] w λe w'=>e=.returned (.int .i64 ((tz z n:Nat)-1))/\Ext w w':=by
 have HU:=ae h;have hle:tz z n<=1099511627776:=aR (iR z n) h.1;clear h
 go_enter Tryz.func23,Tryz.ntmps23
 go_wp2_with (fail);refine(Jm M a n cap X z w HU.out).mono ?_;rintro e w1 ⟨rfl,az⟩;go_wp2;go_ret;exact⟨rfl,az⟩
def aU(L n:Nat)(z:Nat->Int):List Tm:=aQ L n λi=>[(z i,Mo.zero)]
theorem VJ{l:List Tm}{m:Mo}(h:aL l m≠0):∃t∈l,t.2=m:=by
 refine eF λhc=>h (rQ λt ht e=>hc ⟨t,ht,e⟩)
theorem qqQ{L n k:Nat}{z:Nat->Int}(h:k<=n)(hz:∀i,k<=i->i<n->z i=0):af (aU L k z) (aU L n z):=
 OL h λi h1 h2=>by rw[hz i h1 h2];exact Yu
theorem qe7{L n:Nat}{z:Nat->Int}:af (aU L (tz z n) z) (aU L n z):=qqQ (iR z n) λi h1 h2=>TJ z n i h1 h2
def bW(w:World)(g o:Nat)(e0 e1:Value):World:=(w.setCell ⟨g,o,none⟩ e0).setCell ⟨g,o+1,none⟩ e1
def UK(M:Nat->Prop)(w:World)(g N k:Nat)(z:Nat->Int):Prop:=
 ∃X:Nat->IE,∃f,aG w g 30 (N*2) f/\∀i,i<k->f (i*2)=.bool (X i).b/\f (i*2+1)=.slice (X i).a (X i).n (X i).p/\dQ M w (.bool (X i).b) (.slice (X i).a (X i).n (X i).p) (z i)
section
variable{M M':Nat->Prop}{w w':World}{g N k:Nat}{z:Nat->Int}
theorem UK.ext(h:UK M w g N k z)(he:Ext w w'):UK M w' g N k z:=by
 obtain⟨X,f,hB,hf⟩:=h;exact⟨X,f,hB.ext he,λi hi=>⟨(hf i hi).1,(hf i hi).2.1,(hf i hi).2.2.ext he⟩⟩
theorem UK.at(h:UK M w g N k z){j:Nat}(hj:j<N):(∃e,w.cell? ⟨g,j*2,none⟩=some e)/\(∃e,w.cell? ⟨g,j*2+1,none⟩=some e)/\(∀o,w.frozen? ⟨g,o,none⟩=false)/\g<w.heap.size:=by
 obtain⟨X,f,hB,hf⟩:=h;exact⟨⟨_,hB.cell (by omega)⟩,⟨_,hB.cell (by omega)⟩,hB.frozen,hB.lt⟩
theorem UK.set(h:UK M w g N k z)(hg:M g){b:Bool}{a:Option Addr}{n p:Nat}(hc:dQ M w (.bool b) (.slice a n p) (z k)):UK M (bW w g (k*2) (.bool b) (.slice a n p)) g N (k+1) z:=by
 obtain⟨X,f,hB,hf⟩:=h;have hk:Kp M w (bW w g (k*2) (.bool b) (.slice a n p)):=(Kp.set M w (p:=⟨g,k*2,none⟩) hg _).trans (Kp.set M _ (p:=⟨g,k*2+1,none⟩) hg _);refine⟨λi=>if i=k then⟨b,a,n,p⟩else X i,_,(hB.set (k*2) (.bool b)).set (k*2+1) (.slice a n p),λi hi=>?_⟩;unfold jr
 by_cases iq:i=k
 ·subst iq;simp only[if_true];exact⟨by rw[ah (by omega)],trivial,hc.kp hk⟩
 ·simp only[ah iq];rw[ah (by omega),ah (by omega),ah (by omega),ah (by omega)];obtain⟨h1,h2,h3⟩:=hf i (by omega);exact⟨h1,h2,h3.kp hk⟩
theorem UK.row(h:UK M w g N N z)(hm:∀g,M' g->M g\/w.heap.size<=g)(hg:¬M' g)(hN:N<=1099511627776):∃X,bC M' w (some ⟨g,0,none⟩) N N X z:=by
 obtain⟨X,f,hB,hf⟩:=h;refine⟨X,hN,aI _,by unfold maxLen;omega,λe=>(by cases e),λi hi=>?_⟩;obtain⟨h1,h2,h3⟩:=hf i hi;exact⟨g,0,rfl,hB.lt,hg,by rw[Nat.zero_add,hB.cell (by omega),h1],by rw[Nat.zero_add,hB.cell (by omega),h2],h3.more hm⟩
theorem UK.more(h:UK M w g N k z)(hm:∀g,M' g->M g\/w.heap.size<=g):UK M' w g N k z:=by
 obtain⟨X,f,hB,hf⟩:=h;exact⟨X,f,hB,λi hi=>⟨(hf i hi).1,(hf i hi).2.1,(hf i hi).2.2.more hm⟩⟩
theorem UK.fresh{f:Nat->Value}(hB:aG w g 30 (N*2) f):UK M w g N 0 z:=⟨λ_=>⟨false,none,0,0⟩,f,hB,λi hi=>absurd hi (Nat.not_lt_zero _)⟩
end
theorem Ext.bW{a w:World}(h:Ext a w){g:Nat}(hg:a.heap.size<=g)(o:Nat)(e0 e1:Value):Ext a (Go.Proofs.YtmcfpnmoklnhoaaGreat.bW w g o e0 e1):=(h.set (p:=⟨g,o,none⟩) hg e0).set (p:=⟨g,o+1,none⟩) hg e1
theorem BU(w:World)(g o:Nat)(e0 e1:Value):(bW w g o e0 e1).heap.size=w.heap.size:=by simp[bW]
def GG(M:Nat->Prop)(w:World)(n:Nat)(z:Nat->Int)(e:Ending)(w':World):Prop:=∃g,e=.returned (.slice (some ⟨g,0,none⟩) n n)/\w.heap.size<=g/\UK (λb=>M b\/b=g) w' g n n z/\Ext w w'
def xE(M:Nat->Prop)(w:World)(n:Nat)(z:Nat->Int)(e:Ending)(w':World):Prop:=∃a X,e=.returned (.slice a n n)/\bC M w' a n n X z/\Ext w w'
theorem qCu(M:Nat->Prop)(a:Option Addr)(n cap:Nat)(X:Nat->IE)(z:Nat->Int)(w:World)(hM:Mb M w)(h:bC M w a n cap X z):
 Calls Tryz.prog 121 #[.slice a n cap,.func (.func 101) #[] #[]] w (GG M w n z):=by
 obtain⟨i0,hi,hz0,hz1,hz2⟩:=info_parts Tryz.K5;have hn:=h.1;have mi:=h.2.1;have iB:=h.2.2.1;have HU:=ae h;have HM:=ae hM;clear h;unfold maxLen at iB
 go_enter Tryz.func121,Tryz.ntmps121
 go_wp2_with (first|(refine wpList_make_full _ rfl _ _ _ rfl w.heap.size 30 i0 (.agg #[.bool false,.slice none 0 0]) 2 Tryz.underlying23 hi hz0 hz1 .i64 .i64 _ _ n rfl rfl ?c4 ?c5 ?c2 ?c3 ?c6 ?_))
 case c2=>rw[hz2];omega
 case c3=>unfold maxLen;omega
 case c4=>simp
 case c5=>simp
 case c6=>simp
 intro w1 hown hgrow;have cO:=aG.made hown rfl (by omega);have aS:=ae (nL hgrow)
 have eU:w.heap.size+1<=w1.heap.size:=by have:=cO.lt;omega
 have xq:Hid (UK (Mx M w.heap.size (w.heap.size+1)) w1 w.heap.size n 0 z):=UK.fresh cO;clear hown hgrow cO;go_wp2
 go_loopw [13] (λi wr=>∃k:Nat,k<=n/\i=.int .i64 k/\w.heap.size+1<=wr.heap.size/\Hid (UK (Mx M w.heap.size (w.heap.size+1)) wr w.heap.size n k z)/\Hid (Ext w wr)) (λi _=>n-(intOf i).toNat)
 case atStart=>exact⟨0,bK _,rfl,eU,xq,aS⟩
 case round=>
  clear xq aS eU;obtain⟨k,hk,rfl,hsz,HK,cZ⟩:=hrel
  by_cases hlt:k<n
  ·obtain⟨b,off,BF,hb,hmb,x0,x1,hv⟩:=HU.out.2.2.2.2 k hlt;subst BF;rw[<-cZ.out.cell hb]at x0 x1
   have jE:b<wr.heap.size:=by omega
   have aT:Ext wr (wr.alloc (.cells #[.bool (X k).b,.slice (X k).a (X k).n (X k).p] 30)):=(aA wr).alloc _;have Hr:dQ (Mx M w.heap.size (w.heap.size+1)) (wr.alloc (.cells #[.bool (X k).b,.slice (X k).a (X k).n (X k).p] 30)) _ _ (z k):=((hv.more (Mx.more (aI _))).ext cZ.out).ext aT;have jD:Mb (Mx M w.heap.size (w.heap.size+1)) (wr.alloc (.cells #[.bool (X k).b,.slice (X k).a (X k).n (X k).p] 30)):=Mx.mb HM.out (by simp;omega) (by simp;omega);have aW:=ae (Ou _ _ _ _ jD Hr);have fH:=ae aT;clear hv Hr jD aT;go_wp2_with (fail);refine(aW.out).mono ?_;rintro e w4 ⟨d0,d1,rfl,hc,bB⟩;obtain⟨b2,a2,n2,p2,rfl,rfl⟩:=hc.form;have bn:=fH.out.trans bB;have fo:=HK.out.ext bn;obtain⟨⟨_,k0⟩,⟨_,k1⟩,bA,nO⟩:=fo.at hlt;have fV:=bA (k*2);have fP:=bA (k*2+1);have lV:Hid (UK (Mx M w.heap.size (w.heap.size+1)) (bW w4 w.heap.size (k*2) (.bool b2) (.slice a2 n2 p2)) w.heap.size n (k+1) z):=fo.set (Mx.at (by omega)) hc.fB;have dV:Hid (Ext w (bW w4 w.heap.size (k*2) (.bool b2) (.slice a2 n2 p2))):=(cZ.out.trans bn).bW (by omega) _ _ _
   have rf:Hid (w.heap.size+1<=(bW w4 w.heap.size (k*2) (.bool b2) (.slice a2 n2 p2)).heap.size):=by show _<=_;rw[BU];have:=bn.size;omega
   clear fo bA hc bB bn x0 x1;go_wp2
   go_roundw
   case rel=>exact⟨k+1,by omega,by go_num,rf.out,lV,dV⟩
   case measure=>simp[intOf];omega
  ·have hkn:k=n:=by omega
   subst hkn;have HF:Hid (GG M w k z (.returned (.slice (some ⟨w.heap.size,0,none⟩) k k)) wr):=⟨_,rfl,aI _,HK.out.more (λg hg=>.inl (hg.imp id λh=>by omega)),cZ.out⟩;go_wp2;go_ret;exact HF.out
theorem qe4(M:Nat->Prop)(a:Option Addr)(n cap:Nat)(X:Nat->IE)(z:Nat->Int)(w:World)(hM:Mb M w)(h:bC M w a n cap X z):
 Calls Tryz.prog 63 #[.slice a n cap] w (GG M w (tz z n) z):=by
 have HU:=ae h;have hle:tz z n<=n:=iR z n;clear h
 go_enter Tryz.func63,Tryz.ntmps63
 go_wp2_with (fail);refine(Jm M a n cap X z w HU.out).mono ?_;rintro e w1 ⟨rfl,az⟩;go_wp2_with (fail);refine(qCu M a _ cap X z w1 (hM.ext az) ((HU.out.ext az).cut hle)).mono ?_;rintro e w2 ⟨g,rfl,hg,h2,aJ⟩;have HF:Hid (GG M w (tz z n) z (.returned (.slice (some ⟨g,0,none⟩) (tz z n) (tz z n))) w2):=⟨_,rfl,aR az.size hg,h2,az.trans aJ⟩;clear h2 aJ az hg;go_wp2;go_ret;exact HF.out
theorem GG.row{M:Nat->Prop}{w:World}{n:Nat}{z:Nat->Int}{e:Ending}{w':World}(hM:Mb M w)(hn:n<=1099511627776)(h:GG M w n z e w'):xE M w n z e w':=by
 obtain⟨g,rfl,hg,hk,he⟩:=h;obtain⟨X,hX⟩:=hk.row (M':=M) (λg h=>.inl (.inl h)) (hM.new hg) hn;exact⟨_,X,rfl,hX,he⟩
theorem TK(M:Nat->Prop)(a:Option Addr)(n cap:Nat)(X:Nat->IE)(z:Nat->Int)(w:World)(hM:Mb M w)(h:bC M w a n cap X z):
 Calls Tryz.prog 63 #[.slice a n cap] w (xE M w (tz z n) z):=
 (qe4 M a n cap X z w hM h).mono λ_ _ hr=>hr.row hM (aR (iR z n) h.1)
def lI(M:Nat->Prop)(w:World)(L:Nat)(l:List Tm)(E:Int)(e:Ending)(w':World):Prop:=∃y:PE,e=.returned (.tuple #[.agg (ak y),.int .i64 E])/\aN M w' L y l/\Ext w w'
theorem dO.Jk{M:Nat->Prop}{w W:World}{L:Nat}{l:List Tm}{y:PE}(h:dO M w L l (.returned (.agg (ak y))) W)(E:Int):lI M w L l E (.returned (.tuple #[.agg (ak y),.int .i64 E])) W:=by
 obtain⟨y',e,h1,h2⟩:=h;simp only[Ending.returned.injEq,Value.agg.injEq]at e;exact⟨y',by rw[e],h1,h2⟩
theorem qj1(M:Nat->Prop)(a:Option Addr)(n cap:Nat)(X:Nat->IE)(z:Nat->Int)(D:Nat)(w:World)(hM:Mb M w)(h:bC M w a n cap X z)(hD:D+1<=4):
 Calls Tryz.prog 11 #[.slice a n cap,.int .i64 ((D:Int)+1)] w (lI M w (D+1) (aU (D+1) n z) 0):=by
 obtain⟨i0,hi,hz0,hz1,hz2⟩:=info_parts Tryz.zH;have hn:=h.1;have mi:=h.2.1;have iB:=h.2.2.1;have HU:=ae h;have HM:=ae hM;have aV:Ext w (w.alloc (.cells zA 33)):=(aA w).alloc _;have bL:=aG.bq w zA 33 4 rfl;have bf:=qeI ((D:Int)+1) (w.alloc (.cells zA 33));rw[show gm ((D:Int)+1)=true by unfold gm;simp;omega]at bf;have aW:=ae bf;have gI:=ae aV;have dY:=ae bL;clear h bf aV bL;unfold maxLen at iB
 go_enter Tryz.func11,Tryz.ntmps11
 go_wp2_with (fail);refine aW.out.mono ?_;rintro e wq ⟨rfl,rfl⟩;clear aW
 go_wp2_with (first|(refine wpList_make_full _ rfl _ _ _ rfl (w.heap.size+1) 33 i0 (.agg #[.int .i64 0,.bool false,.slice none 0 0,.slice none 0 0]) 4 Tryz.underlying31 hi hz0 hz1 .i64 .i64 _ _ n rfl rfl ?c4 ?c5 ?c2 ?c3 ?c6 ?_))
 case c2=>rw[hz2];omega
 case c3=>unfold maxLen;omega
 case c4=>simp
 case c5=>simp
 case c6=>simp
 intro w1 hown hgrow;have cO:=(aG.made hown rfl (by omega)).congr (f':=gN) (λi _=>Ej i);have az:=nL hgrow;have dF:=ae (dY.out.ext az);have aS:=ae (gI.out.trans az)
 have eU:w.heap.size+2<=w1.heap.size:=by have:=cO.lt;omega
 have qm:Hid (Kids (Mx M w.heap.size (w.heap.size+2)) w1 D (w.heap.size+1) n (λ_=>[])):=Kids.fresh cO;clear hown hgrow cO az dY gI;go_wp2
 go_loopw [18] (λi wr=>∃k:Nat,k<=n/\i=.int .i64 k/\w.heap.size+2<=wr.heap.size/\Hid (Kids (Mx M w.heap.size (w.heap.size+2)) wr D (w.heap.size+1) n (λi=>if i<k then[(z i,Mo.zero)]else[]))/\Hid (Ext w wr)/\Hid (aG wr w.heap.size 33 4 (arr zA))) (λi _=>n-(intOf i).toNat)
 case atStart=>exact⟨0,bK _,rfl,eU,qm.out.congr λi _=>by rw[ah (by omega)];exact af.refl _,aS,dF⟩
 case round=>
  clear qm aS dF eU;obtain⟨k,hk,rfl,hsz,HK,cZ,uO⟩:=hrel
  by_cases hlt:k<n
  ·obtain⟨b,off,BF,hb,hmb,x0,x1,hv⟩:=HU.out.2.2.2.2 k hlt;subst BF;rw[<-cZ.out.cell hb]at x0 x1
   have jE:b<wr.heap.size:=by omega
   have aT:Ext wr (wr.alloc (.cells #[.bool (X k).b,.slice (X k).a (X k).n (X k).p] 30)):=(aA wr).alloc _;have Hr:dQ (Mx M w.heap.size (w.heap.size+2)) (wr.alloc (.cells #[.bool (X k).b,.slice (X k).a (X k).n (X k).p] 30)) _ _ (z k):=((hv.more (Mx.more (aI _))).ext cZ.out).ext aT;have jD:Mb (Mx M w.heap.size (w.heap.size+2)) (wr.alloc (.cells #[.bool (X k).b,.slice (X k).a (X k).n (X k).p] 30)):=Mx.mb HM.out (by simp;omega) (by simp;omega);have aW:=ae (OQ _ _ _ _ _ _ _ jD Hr);have fH:=ae aT;clear hv Hr jD aT;go_wp2_with (fail);refine(aW.out).mono ?_;rintro e w4 ⟨y,rfl,dG,bB⟩;have bn:=fH.out.trans bB;have fo:=HK.out.ext bn;obtain⟨⟨_,k0⟩,⟨_,k1⟩,⟨_,k2⟩,⟨_,k3⟩,bA,nO⟩:=fo.at k hlt;have fV:=bA (k*4);have fP:=bA (k*4+1);have iU:=bA (k*4+2);have p9:=bA (k*4+3)
   have lV:Hid (Kids (Mx M w.heap.size (w.heap.size+2)) (aM w4 (w.heap.size+1) (k*4) (.int .i64 y.lv) (.bool y.b) (.slice y.a y.n y.p) (.slice y.ka y.kn y.kp)) D (w.heap.size+1) n (λi=>if i<k+1 then[(z i,Mo.zero)]else[])):=by
    refine(fo.set (Mx.at (by omega)) k hlt (CR.up dG (bK D))).congr λi _=>?_
    by_cases iq:i=k
    ·subst iq;rw[ai rfl,ai (by omega)];exact af.refl _
    ·rw[ah iq]
     by_cases h3:i<k
     ·rw[ai h3,ai (by omega)];exact af.refl _
     ·rw[ah h3,ah (by omega)];exact af.refl _
   have dV:Hid (Ext w (aM w4 (w.heap.size+1) (k*4) (.int .i64 y.lv) (.bool y.b) (.slice y.a y.n y.p) (.slice y.ka y.kn y.kp))):=(cZ.out.trans bn).aM (by omega) _ _ _ _ _;have oQ:Hid (aG (aM w4 (w.heap.size+1) (k*4) (.int .i64 y.lv) (.bool y.b) (.slice y.a y.n y.p) (.slice y.ka y.kn y.kp)) w.heap.size _ _ _):=(uO.out.ext bn).of_heap (iI _ _ _ _ _ _ _ _ (by omega))
   have rf:Hid (w.heap.size+2<=(aM w4 (w.heap.size+1) (k*4) (.int .i64 y.lv) (.bool y.b) (.slice y.a y.n y.p) (.slice y.ka y.kn y.kp)).heap.size):=by show _<=_;rw[nW];have:=bn.size;omega
   clear fo bA dG bB bn x0 x1;go_wp2
   go_roundw
   case rel=>exact⟨k+1,by omega,by go_num,rf.out,lV,dV,oQ⟩
   case measure=>simp[intOf];omega
  ·have hkn:k=n:=by omega
   subst hkn;have NG:Mb (Mx M w.heap.size (w.heap.size+1)) wr:=Mx.mb HM.out (by omega) (by omega)
   have hKR:eY (Mx M w.heap.size (w.heap.size+1)) wr D (.slice (some ⟨w.heap.size+1,0,none⟩) k k) k (λi=>[(z i,Mo.zero)]):=by
    refine eY.qem ((HK.out.congr λi hi=>?_).more (λg hg=>.inl (hg.imp id λh=>by omega))) (λhg=>hg.elim (HM.out.new (by omega)) (λh=>by omega)) hn;simp only[ai hi];exact af.refl _
   have aW:=ae (qeJ _ D _ k _ wr NG hD hKR);clear hKR HK;go_wp2_with (fail);refine aW.out.mono ?_;intro e w2 hp;obtain⟨y,rfl,hy,aJ⟩:=hp.x;have oP:=ae (Je _ (D+1) y _ w2 (NG.ext aJ) hy);clear hp hy aW;go_wp2_with (fail);refine oP.out.mono ?_;rintro e w3 ⟨y3,rfl,K3,bg⟩;obtain⟨⟨q0,q1,q2,q3⟩,⟨f0,f1,f2,f3⟩,⟨r0,r1,r2,r3⟩,HF⟩:=iF (M:=M) (w:=w) ((uO.out.ext aJ).ext bg) (Mx.at (by omega)) (aI _) ((cZ.out.trans aJ).trans bg) K3 Mx.sub;have dI:=ae (HF.out.Jk 0);have zo:=((uO.out.ext aJ).ext bg).lt;clear HF K3 aJ bg oP NG;go_wp2;exact bu (v:=.tuple #[.agg (ak y3),.int .i64 0]) (by simp[results,Tryz.results11,go_sem,r0,r1,r2,r3]) rfl dI.out
def AL(p:Prop)(w:World)(e:Ending)(w':World):Prop:=∃b:Bool,e=.returned (.bool b)/\(b=true↔p)/\Ext w w'
theorem AL.t{p:Prop}{w w':World}(h:p)(he:Ext w w'):AL p w (.returned (.bool true)) w':=⟨true,rfl,⟨λ_=>h,λ_=>rfl⟩,he⟩
theorem AL.f{p:Prop}{w w':World}(h:¬p)(he:Ext w w'):AL p w (.returned (.bool false)) w':=⟨false,rfl,⟨λe=>(by cases e),λe=>absurd e h⟩,he⟩
end Go.Proofs.YtmcfpnmoklnhoaaGreat
namespace Go.Proofs.YtmcfpnmoklnhoaaGreat
open Go.ChangeShapes Go.WideShapes Go.ChangeAt Go.RowKit Go.Deep
def GL(W:World)(a:Option Addr)(n cap:Nat)(X:Nat->IE):Prop:=
 n<=cap/\cap<=maxLen/\(a=none->cap=0)/\∀i,i<n->∃b off,a=some ⟨b,off,none⟩/\b<W.heap.size/\W.cell? ⟨b,off+i*2,none⟩=some (.bool (X i).b)/\W.cell? ⟨b,off+i*2+1,none⟩=some (.slice (X i).a (X i).n (X i).p)/\qie W (X i).a (X i).n (X i).p
section
variable{H:Type}{enc:TypeId × Value->H}{W:World}
theorem qo9{base:Nat}{v:Value}{d:DataW H}{ps:List MemPlace}(hv:Value.okWide Tryz.prog W .any base 23 v)(h:DataW.Trod enc Tryz.prog W 0 (λ_=>true) true 23 v d ps):∃a n cap X,v=.slice a n cap/\GL W a n cap X:=by
 obtain⟨fuel,h⟩:=h;have hu:Tryz.prog.underlying 23=some (.slice 30):=Tryz.underlying23
 have fw:Tryz.prog.cellsOf 30=2:=by kernel_rfl
 have hv1:v.cells.toList=[v]:=by
  obtain⟨a,n,c,rfl⟩:=okWide_slice hu hv;rfl
 rw[hv1]at h;rcases open_slice hu h with⟨h0,_⟩|⟨a,len,cap,m,n,D,Pl,hcs,hb,hl,hm,hmm,_,hi⟩
 ·simp only[List.cons.injEq,and_true]at h0;exact⟨none,0,0,λ_=>default,h0,aI _,bK _,λ_=>rfl,λi hi=>absurd hi (Nat.not_lt_zero _)⟩
 ·simp only[List.cons.injEq,and_true]at hcs
  have Oj:a.spot=none/\a.block<W.heap.size:=by
   rw[hcs]at hv;simp only[Value.okWide,hu,Cell.okWide,Cell.ok]at hv;obtain⟨_,_,_,hs,row,cells,hsh,_⟩:=hv;refine⟨hs,?_⟩;unfold World.shape? at hsh
   split at hsh
   ·rename_i c e r hh;exact(Array.getElem?_eq_some_iff.1 hh).1
   ·cases hsh
  have vL:len<=m:=by rw[hmm,ai rfl];exact hl
  rw[fw]at hi;obtain⟨b,off,sp⟩:=a;obtain⟨rfl,hblk⟩:=Oj;simp only at hblk
  have qE:∀i,∃x:IE,i<len->(W.cell? ⟨b,off+i*2,none⟩=some (.bool x.b)/\W.cell? ⟨b,off+i*2+1,none⟩=some (.slice x.a x.n x.p))/\qie W x.a x.n x.p:=by
   intro i
   by_cases WN:i<len
   ·obtain⟨cs',h1,h2⟩:=hi i (by omega);obtain⟨_,hlen,hat⟩:=World.cells?_some h1
    match cs',hlen with
    |[u0,u1],_=>
     have c0:W.cell? (((⟨b,off,none⟩:Addr).add (i*2)).add 0)=some u0:=hat 0 (by omega);have c1:W.cell? (((⟨b,off,none⟩:Addr).add (i*2)).add 1)=some u1:=hat 1 (by omega);rw[GQ,GQ]at c0 c1;obtain⟨bb,a',n',p',rfl,rfl,Br,uA⟩:=open_int (v0:=u0) (v1:=u1) h2;exact⟨⟨bb,a',n',p'⟩,λ_=>⟨⟨c0,c1⟩,Br,uA⟩⟩
   ·exact⟨default,λh=>absurd h WN⟩
  refine⟨some ⟨b,off,none⟩,len,cap,λi=>(qE i).choose,hcs,hl,hm,λe=>(by cases e),λi hi=>?_⟩;have:=(qE i).choose_spec hi;exact⟨b,off,rfl,hblk,this.1.1,this.1.2,this.2⟩
set_option linter.constructorNameAsVariable false in
theorem qz0{base:Nat}{v:Value}{d:DataW H}{ps:List MemPlace}(hv:Value.okWide Tryz.prog W .any base 3 v)(h:DataW.Trod enc Tryz.prog W 0 (λ_=>true) true 3 v d ps):∃z:Int,v=.int .i64 z/\(-9223372036854775808<=z/\z<=9223372036854775807):=by
 obtain⟨fuel,h⟩:=h;obtain⟨y,rfl⟩:=okWide_int Tryz.underlying3 hv;obtain⟨z,hz,_,hw⟩:=DataW.trod_int Tryz.underlying3 h;have Ed:[Value.int .i64 y]=[.int .i64 z]:=hz;simp[Lit.wf,IntKind.min,IntKind.max,IntKind.signed,IntKind.bits]at hw;exact⟨z,by simpa using Ed,by omega,by omega⟩
end
theorem GL.row{W:World}{a:Option Addr}{n cap:Nat}{X:Nat->IE}(h:GL W a n cap X)(hn:n<=10)(hX:∀i,i<n->(X i).n<=6):∃z,bC M0 W a n cap X z/\∀i,i<n->(z i).natAbs<=4294967296^6:=by
 obtain⟨h1,h2,h3,h4⟩:=h
 have qE:∀i,i<n->∃z:Int,dQ M0 W (.bool (X i).b) (.slice (X i).a (X i).n (X i).p) z/\z.natAbs<=4294967296^6:=λi hi=>by
  obtain⟨b,off,_,_,_,_,h5⟩:=h4 i hi;obtain⟨d,hd⟩:=h5.2 (by have:=hX i hi;omega);refine⟨dw (X i).b (nv d (X i).n),⟨(X i).b,nv d (X i).n,rfl,⟨_,d,hd,rfl⟩,rfl⟩,?_⟩;rw[uJ];exact aR (Nat.le_of_lt (qQ d _ hd.2.1)) (Nat.pow_le_pow_right (by omega) (hX i hi))
 obtain⟨z,hz⟩:=pick 0 qE;refine⟨z,⟨by omega,h1,h2,h3,λi hi=>?_⟩,λi hi=>(hz i hi).2⟩;obtain⟨b,off,e,hb,c0,c1,_⟩:=h4 i hi;exact⟨b,off,e,hb,λh=>h,c0,c1,(hz i hi).1⟩
theorem qe6{L n B:Nat}{z:Nat->Int}(h1:1<=L)(h4:L<=4)(hn:n<=B+1):bH B (aU L n z):=by
 intro m hm k;obtain⟨t,ht,rfl⟩:=VJ hm;obtain⟨i,hi,s,hs,rfl⟩:=FX ht;simp only[List.mem_singleton]at hs;subst hs;rw[iH,uw,eQ L k _ h1 h4]
 split<;>omega
end Go.Proofs.YtmcfpnmoklnhoaaGreat
