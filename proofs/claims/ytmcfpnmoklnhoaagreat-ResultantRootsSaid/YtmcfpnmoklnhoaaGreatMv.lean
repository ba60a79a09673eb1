/- unipoly: rows of integers as polynomials; trim, Degree. Plain facts: polynomials in one variable among the polynomials in four. unipoly: transform (with integer.Normal), Normal, Compare, Same. recpoly: FromUni. -/
import Derived.Test.YtmcfpnmoklnhoaaGreatMu
set_option linter.unusedVariables false
set_option maxRecDepth 100000
set_option maxHeartbeats 400000000
set_option linter.unusedSimpArgs false

namespace Go.Proofs.YtmcfpnmoklnhoaaGreat
open Go.RowKit

structure IE where
 b:Bool
 a:Option Addr
 n:Nat
 p:Nat
instance:Inhabited IE:=⟨⟨false,none,0,0⟩⟩
def qb5 (M:Nat->Prop) (w:World) (a:Option Addr) (n cap:Nat) (X:Nat->IE) (z:Nat->Int):Prop:=
 n<=1099511627776/\n<=cap/\cap<=maxLen/\(a=none->cap=0) /\ ∀ i,i<n -> ∃ b off,a=some ⟨b,off,none⟩/\b<w.heap.size /\ ¬ M b/\w.cell? ⟨b,off+i*2,none⟩=some (.bool (X i).b)/\w.cell? ⟨b,off+i*2+1,none⟩=some (.slice (X i).a (X i).n (X i).p)/\qbq M w (.bool (X i).b) (.slice (X i).a (X i).n (X i).p) (z i)
section
variable {M M':Nat->Prop} {w w':World} {a:Option Addr} {n cap:Nat} {X:Nat->IE} {z:Nat->Int}
theorem qb5.kp (h:qb5 M w a n cap X z) (he:Kp M w w'):qb5 M w' a n cap X z:=by
 obtain ⟨h1,h2,h3,h4,h5⟩:=h;refine ⟨h1,h2,h3,h4,fun i hi=>?_⟩;obtain ⟨b,off,e,hb,hm,c0,c1,hv⟩:=h5 i hi;exact ⟨b,off,e,Nat.lt_of_lt_of_le hb he.1,hm,by rw [he.cell hb hm];exact c0,by rw [he.cell hb hm];exact c1,hv.kp he⟩
theorem qb5.ext (h:qb5 M w a n cap X z) (he:Ext w w'):qb5 M w' a n cap X z:=h.kp (Kp.of_ext he)
theorem qb5.more (h:qb5 M w a n cap X z) (hm : ∀ g,M' g->M g∨w.heap.size<=g):qb5 M' w a n cap X z:=by
 obtain ⟨h1,h2,h3,h4,h5⟩:=h;refine ⟨h1,h2,h3,h4,fun i hi=>?_⟩;obtain ⟨b,off,e,hb,hn,c0,c1,hv⟩:=h5 i hi;exact ⟨b,off,e,hb,fun hg=>(hm b hg).elim hn (fun h=>by omega),c0,c1,hv.more hm⟩
theorem qb5.cut (h:qb5 M w a n cap X z) {k:Nat} (hk:k<=n):qb5 M w a k cap X z:=by
 obtain ⟨h1,h2,h3,h4,h5⟩:=h;exact ⟨by omega,by omega,h3,h4,fun i hi=>h5 i (by omega)⟩
end
def tz (z:Nat->Int):Nat->Nat
 | 0=>0
 | n+1=>if z n=0 then tz z n else n+1
theorem qdj (z:Nat->Int) : ∀ n,tz z n<=n
 | 0=>Nat.le_refl _
 | n+1=>by
  unfold tz
  split
  ·have:=qdj z n;omega
  ·exact Nat.le_refl _
theorem qlo (z:Nat->Int) : ∀ n,tz z n=0∨z (tz z n - 1)≠0
 | 0=>.inl rfl
 | n+1=>by
  unfold tz
  split
  ·exact qlo z n
  ·rename_i h;exact .inr h
theorem qgd (z:Nat->Int) : ∀ n i,tz z n<=i->i<n->z i=0
 | 0,i,_,h=>by omega
 | n+1,i,h1,h2=>by
  unfold tz at h1
  split at h1
  ·rename_i h
   by_cases hi:i=n
   ·rw [hi];exact h
   ·exact qgd z n i h1 (by omega)
  ·omega
theorem qpX {z:Nat->Int} {n:Nat} (h0:0<n) (h:z (n - 1)=0):tz z n=tz z (n - 1):=by
 obtain ⟨k,rfl⟩ : ∃ k,n=k+1:=⟨n - 1,by omega⟩;rw [show tz z (k+1)=if z k=0 then tz z k else k+1 from rfl,if_pos (show z k=0 from h)];rfl
theorem qge {z:Nat->Int} {n:Nat} (h0:0<n) (h:z (n - 1)≠0):tz z n=n:=by
 obtain ⟨k,rfl⟩ : ∃ k,n=k+1:=⟨n - 1,by omega⟩;rw [show tz z (k+1)=if z k=0 then tz z k else k+1 from rfl,if_neg (show z k≠0 from h)]
theorem qgc (M : Nat -> Prop) (a : Option Addr) (n cap : Nat) (X : Nat -> IE) (z : Nat -> Int) (w : World) (h : qb5 M w a n cap X z) :
  Calls Tryz.prog 78 #[.slice a n cap] w fun e w'=>e = .returned (.slice a (tz z n) cap)/\Ext w w':=by
 have hn:=h.1;have hnc:=h.2.1;have hcm:=h.2.2.1;have hcn:=h.2.2.2.1;have HU:=Lib.hid h;clear h;unfold maxLen at hcm
 go_enter Tryz.func78,Tryz.ntmps78
 go_wp2
 go_loopw [3] (fun i wr=>∃ k:Nat,k<=n/\tz z n=tz z k/\i = .int .i64 k/\Ext w wr) (fun i _=>(intOf i).toNat)
 case atStart=>exact ⟨n,Nat.le_refl _,rfl,rfl,Ext.refl _⟩
 case round=>
  obtain ⟨k,hk,ht,rfl,her⟩:=hrel
  by_cases hk0:k=0
  ·subst hk0;have HT:Hid (tz z n=0):=ht;clear ht;go_wp2;go_ret;exact ⟨by rw [HT.out];rfl,her⟩
  ·have hk1:0<k:=by omega
   obtain ⟨b,off,hva,hb,hmb,x0,x1,hv⟩:=(HU.out.ext her).2.2.2.2 (k - 1) (by omega);subst hva;have HV:=Lib.hid hv
   have j1:(0:Int)<=(k:Int) - 1:=by omega
   have j2:((k:Int) - 1).toNat=k - 1:=by omega
   have j3:(k:Int) - 1<(n:Int):=by omega
   clear hv;go_wp2_with (fail);refine (qdd _ _ (z (k - 1)) _ HV.out).mono ?_;rintro e w1 ⟨rfl,he1⟩;have her1:=her.trans he1;clear x0 x1 hb he1 her
   by_cases hz:z (k - 1)=0
   ·have t0:((z (k - 1)).sign == 0)=true:=by simp [hz]
    go_wp2
    go_roundw
    case rel=>exact ⟨k - 1,by omega,by rw [ht,qpX hk1 hz],by go_num,her1⟩
    case measure=>simp [intOf];omega
   ·have t0:((z (k - 1)).sign == 0)=false:=by simp [hz]
    have HT:Hid (tz z n=k):=ht.trans (qge hk1 hz);clear ht;go_wp2;go_ret;exact ⟨by rw [HT.out];rfl,her1⟩
theorem qhl (M : Nat -> Prop) (a : Option Addr) (n cap : Nat) (X : Nat -> IE) (z : Nat -> Int) (w : World) (h : qb5 M w a n cap X z) :
  Calls Tryz.prog 23 #[.slice a n cap] w fun e w'=>e = .returned (.int .i64 ((tz z n:Nat) - 1))/\Ext w w':=by
 have HU:=Lib.hid h;have hle:tz z n<=1099511627776:=Nat.le_trans (qdj z n) h.1;clear h
 go_enter Tryz.func23,Tryz.ntmps23
 go_wp2_with (fail);refine (qgc M a n cap X z w HU.out).mono ?_;rintro e w1 ⟨rfl,he1⟩;go_wp2;go_ret;exact ⟨rfl,he1⟩


def upl (L n:Nat) (z:Nat->Int):List Tm:=poly L n fun i=>[(z i,Mo.zero)]
theorem qfx {l:List Tm} {m:Mo} (h:qab l m≠0) : ∃ t ∈ l,t.2=m:=by
 refine Classical.byContradiction fun hc=>h (qaB fun t ht e=>hc ⟨t,ht,e⟩)
theorem qpS {L n k:Nat} {z:Nat->Int} (h:k<=n) (hz : ∀ i,k<=i->i<n->z i=0):Sim (upl L k z) (upl L n z):=
 qda h fun i h1 h2=>by rw [hz i h1 h2];exact qbQ
theorem qrL {L n:Nat} {z:Nat->Int} : Sim (upl L (tz z n) z) (upl L n z):=qpS (qdj z n) fun i h1 h2=>qgd z n i h1 h2


def set2 (w:World) (g o:Nat) (e0 e1:Value):World:=(w.setCell ⟨g,o,none⟩ e0).setCell ⟨g,o+1,none⟩ e1
def UK (M:Nat->Prop) (w:World) (g N k:Nat) (z:Nat->Int):Prop:=
 ∃ X:Nat->IE,∃ f,Blk w g 30 (N*2) f /\ ∀ i,i<k->f (i*2) = .bool (X i).b/\f (i*2+1) = .slice (X i).a (X i).n (X i).p/\qbq M w (.bool (X i).b) (.slice (X i).a (X i).n (X i).p) (z i)
section
variable {M M':Nat->Prop} {w w':World} {g N k:Nat} {z:Nat->Int}
theorem UK.ext (h:UK M w g N k z) (he:Ext w w'):UK M w' g N k z:=by
 obtain ⟨X,f,hB,hf⟩:=h;exact ⟨X,f,hB.ext he,fun i hi=>⟨(hf i hi).1,(hf i hi).2.1,(hf i hi).2.2.ext he⟩⟩
theorem UK.at (h:UK M w g N k z) {j:Nat} (hj:j<N):(∃ e,w.cell? ⟨g,j*2,none⟩=some e)/\(∃ e,w.cell? ⟨g,j*2+1,none⟩=some e)/\(∀ o,w.frozen? ⟨g,o,none⟩=false)/\g<w.heap.size:=by
 obtain ⟨X,f,hB,hf⟩:=h;exact ⟨⟨_,hB.cell (by omega)⟩,⟨_,hB.cell (by omega)⟩,hB.frozen,hB.lt⟩
theorem UK.set (h:UK M w g N k z) (hg:M g) {b:Bool} {a:Option Addr} {n p:Nat} (hc:qbq M w (.bool b) (.slice a n p) (z k)):UK M (set2 w g (k*2) (.bool b) (.slice a n p)) g N (k+1) z:=by
 obtain ⟨X,f,hB,hf⟩:=h;have hk:Kp M w (set2 w g (k*2) (.bool b) (.slice a n p)):=(Kp.set M w (p:=⟨g,k*2,none⟩) hg _).trans (Kp.set M _ (p:=⟨g,k*2+1,none⟩) hg _);refine ⟨fun i=>if i=k then ⟨b,a,n,p⟩ else X i,_,(hB.set (k*2) (.bool b)).set (k*2+1) (.slice a n p),fun i hi=>?_⟩;unfold upd
 by_cases hik:i=k
 ·subst hik;simp only [if_true];exact ⟨by rw [if_neg (by omega)],trivial,hc.kp hk⟩
 ·simp only [if_neg hik];rw [if_neg (by omega),if_neg (by omega),if_neg (by omega),if_neg (by omega)];obtain ⟨h1,h2,h3⟩:=hf i (by omega);exact ⟨h1,h2,h3.kp hk⟩
theorem UK.row (h:UK M w g N N z) (hm : ∀ g,M' g->M g∨w.heap.size<=g) (hg : ¬ M' g) (hN:N<=1099511627776) : ∃ X,qb5 M' w (some ⟨g,0,none⟩) N N X z:=by
 obtain ⟨X,f,hB,hf⟩:=h;refine ⟨X,hN,Nat.le_refl _,by unfold maxLen;omega,fun e=>(by cases e),fun i hi=>?_⟩;obtain ⟨h1,h2,h3⟩:=hf i hi;exact ⟨g,0,rfl,hB.lt,hg,by rw [Nat.zero_add,hB.cell (by omega),h1],by rw [Nat.zero_add,hB.cell (by omega),h2],h3.more hm⟩
theorem UK.more (h:UK M w g N k z) (hm : ∀ g,M' g->M g∨w.heap.size<=g):UK M' w g N k z:=by
 obtain ⟨X,f,hB,hf⟩:=h;exact ⟨X,f,hB,fun i hi=>⟨(hf i hi).1,(hf i hi).2.1,(hf i hi).2.2.more hm⟩⟩
theorem UK.fresh {f:Nat->Value} (hB:Blk w g 30 (N*2) f):UK M w g N 0 z:=⟨fun _=>⟨false,none,0,0⟩,f,hB,fun i hi=>absurd hi (Nat.not_lt_zero _)⟩
end
theorem Ext.set2 {a w:World} (h:Ext a w) {g:Nat} (hg:a.heap.size<=g) (o:Nat) (e0 e1:Value):Ext a (Go.Proofs.YtmcfpnmoklnhoaaGreat.set2 w g o e0 e1):=(h.set (p:=⟨g,o,none⟩) hg e0).set (p:=⟨g,o+1,none⟩) hg e1
theorem qdH (w:World) (g o:Nat) (e0 e1:Value):(set2 w g o e0 e1).heap.size=w.heap.size:=by simp [set2]
def qsW (M:Nat->Prop) (w:World) (n:Nat) (z:Nat->Int) (e:Ending) (w':World):Prop:=∃ a X,e = .returned (.slice a n n)/\qb5 M w' a n n X z/\Ext w w'


def qf7 (M:Nat->Prop) (w:World) (L:Nat) (l:List Tm) (E:Int) (e:Ending) (w':World):Prop:=∃ y:PE,e = .returned (.tuple #[.agg (peA y),.int .i64 E])/\CRx M w' L y l/\Ext w w'
theorem qa8.tup {M:Nat->Prop} {w W:World} {L:Nat} {l:List Tm} {y:PE} (h:qa8 M w L l (.returned (.agg (peA y))) W) (E:Int):qf7 M w L l E (.returned (.tuple #[.agg (peA y),.int .i64 E])) W:=by
 obtain ⟨y',e,h1,h2⟩:=h;simp only [Ending.returned.injEq,Value.agg.injEq] at e;exact ⟨y',by rw [e],h1,h2⟩
theorem qkK (M : Nat -> Prop) (a : Option Addr) (n cap : Nat) (X : Nat -> IE) (z : Nat -> Int) (D : Nat) (w : World) (hM : Mb M w) (h : qb5 M w a n cap X z) (hD : D + 1 <= 4) :
  Calls Tryz.prog 11 #[.slice a n cap,.int .i64 ((D:Int)+1)] w (qf7 M w (D+1) (upl (D+1) n z) 0):=by
 obtain ⟨i0,hi,hz0,hz1,hz2⟩:=info_parts Tryz.info33;have hn:=h.1;have hnc:=h.2.1;have hcm:=h.2.2.1;have HU:=Lib.hid h;have HM:=Lib.hid hM;have hE0:Ext w (w.alloc (.cells zA 33)):=(Ext.refl w).alloc _;have hB0:=Blk.of_arr w zA 33 4 rfl;have ctr:=qd6 ((D:Int)+1) (w.alloc (.cells zA 33));rw [show qay ((D:Int)+1)=true by unfold qay;simp;omega] at ctr;have CTR:=Lib.hid ctr;have HE0:=Lib.hid hE0;have HB0:=Lib.hid hB0;clear h ctr hE0 hB0;unfold maxLen at hcm
 go_enter Tryz.func11,Tryz.ntmps11
 go_wp2_with (fail);refine CTR.out.mono ?_;rintro e wq ⟨rfl,rfl⟩;clear CTR
 go_wp2_with (first | (refine wpList_make_full _ rfl _ _ _ rfl (w.heap.size+1) 33 i0 (.agg #[.int .i64 0,.bool false,.slice none 0 0,.slice none 0 0]) 4 Tryz.underlying31 hi hz0 hz1 .i64 .i64 _ _ n rfl rfl ?c4 ?c5 ?c2 ?c3 ?c6 ?_))
 case c2=>rw [hz2];omega
 case c3=>unfold maxLen;omega
 case c4=>simp
 case c5=>simp
 case c6=>simp
 intro w1 hown hgrow;have hBk:=(Blk.made hown rfl (by omega)).congr (f':=zc4) (fun i _=>qbL i);have he1:=qaw hgrow;have HB1:=Lib.hid (HB0.out.ext he1);have HE1:=Lib.hid (HE0.out.trans he1)
 have hs1:w.heap.size+2<=w1.heap.size:=by have:=hBk.lt;omega
 have HKF:Hid (qax (Mx M w.heap.size (w.heap.size+2)) w1 D (w.heap.size+1) n (fun _=>[])):=qax.fresh hBk;clear hown hgrow hBk he1 HB0 HE0;go_wp2
 go_loopw [18] (fun i wr=>∃ k:Nat,k<=n/\i = .int .i64 k/\w.heap.size+2<=wr.heap.size/\Hid (qax (Mx M w.heap.size (w.heap.size+2)) wr D (w.heap.size+1) n (fun i=>if i<k then [(z i,Mo.zero)] else []))/\Hid (Ext w wr)/\Hid (Blk wr w.heap.size 33 4 (arr zA))) (fun i _=>n - (intOf i).toNat)
 case atStart=>exact ⟨0,Nat.zero_le _,rfl,hs1,HKF.out.congr fun i _=>by rw [if_neg (by omega)];exact Sim.refl _,HE1,HB1⟩
 case round=>
  clear HKF HE1 HB1 hs1;obtain ⟨k,hk,rfl,hsz,HK,HEW,HBW⟩:=hrel
  by_cases hlt:k<n
  ·obtain ⟨b,off,hva,hb,hmb,x0,x1,hv⟩:=HU.out.2.2.2.2 k hlt;subst hva;rw [<- HEW.out.cell hb] at x0 x1
   have hbw:b<wr.heap.size:=by omega
   have hEa:Ext wr (wr.alloc (.cells #[.bool (X k).b,.slice (X k).a (X k).n (X k).p] 30)):=(Ext.refl wr).alloc _;have hV2:qbq (Mx M w.heap.size (w.heap.size+2)) (wr.alloc (.cells #[.bool (X k).b,.slice (X k).a (X k).n (X k).p] 30)) _ _ (z k):=((hv.more (Mx.more (Nat.le_refl _))).ext HEW.out).ext hEa;have hM3:Mb (Mx M w.heap.size (w.heap.size+2)) (wr.alloc (.cells #[.bool (X k).b,.slice (X k).a (X k).n (X k).p] 30)):=Mx.mb HM.out (by simp;omega) (by simp;omega);have CTR:=Lib.hid (qdI _ _ _ _ _ _ _ hM3 hV2);have HEA:=Lib.hid hEa;clear hv hV2 hM3 hEa;go_wp2_with (fail);refine (CTR.out).mono ?_;rintro e w4 ⟨y,rfl,hCR,he4⟩;have he5:=HEA.out.trans he4;have hK4:=HK.out.ext he5;obtain ⟨⟨_,k0⟩,⟨_,k1⟩,⟨_,k2⟩,⟨_,k3⟩,hfr,hg4⟩:=hK4.at k hlt;have hf0:=hfr (k*4);have hf1:=hfr (k*4+1);have hf2:=hfr (k*4+2);have hf3:=hfr (k*4+3)
   have HK5:Hid (qax (Mx M w.heap.size (w.heap.size+2)) (set4 w4 (w.heap.size+1) (k*4) (.int .i64 y.lv) (.bool y.b) (.slice y.a y.n y.p) (.slice y.ka y.kn y.kp)) D (w.heap.size+1) n (fun i=>if i<k+1 then [(z i,Mo.zero)] else [])):=by
    refine (hK4.set (Mx.at (by omega)) k hlt (CR.up hCR (Nat.zero_le D))).congr fun i _=>?_
    by_cases hik:i=k
    ·subst hik;rw [if_pos rfl,if_pos (by omega)];exact Sim.refl _
    ·rw [if_neg hik]
     by_cases h3:i<k
     ·rw [if_pos h3,if_pos (by omega)];exact Sim.refl _
     ·rw [if_neg h3,if_neg (by omega)];exact Sim.refl _
   have HE5:Hid (Ext w (set4 w4 (w.heap.size+1) (k*4) (.int .i64 y.lv) (.bool y.b) (.slice y.a y.n y.p) (.slice y.ka y.kn y.kp))):=(HEW.out.trans he5).set4 (by omega) _ _ _ _ _;have HB5:Hid (Blk (set4 w4 (w.heap.size+1) (k*4) (.int .i64 y.lv) (.bool y.b) (.slice y.a y.n y.p) (.slice y.ka y.kn y.kp)) w.heap.size _ _ _):=(HBW.out.ext he5).of_heap (qag _ _ _ _ _ _ _ _ (by omega))
   have HSZ5:Hid (w.heap.size+2<=(set4 w4 (w.heap.size+1) (k*4) (.int .i64 y.lv) (.bool y.b) (.slice y.a y.n y.p) (.slice y.ka y.kn y.kp)).heap.size):=by show _<=_;rw [qaq];have:=he5.size;omega
   clear hK4 hfr hCR he4 he5 x0 x1;go_wp2
   go_roundw
   case rel=>exact ⟨k+1,by omega,by go_num,HSZ5.out,HK5,HE5,HB5⟩
   case measure=>simp [intOf];omega
  ·have hkn:k=n:=by omega
   subst hkn;have hMr:Mb (Mx M w.heap.size (w.heap.size+1)) wr:=Mx.mb HM.out (by omega) (by omega)
   have hKR:qbA (Mx M w.heap.size (w.heap.size+1)) wr D (.slice (some ⟨w.heap.size+1,0,none⟩) k k) k (fun i=>[(z i,Mo.zero)]):=by
    refine qbA.of_kids ((HK.out.congr fun i hi=>?_).more (fun g hg=>.inl (hg.imp id fun h=>by omega))) (fun hg=>hg.elim (HM.out.new (by omega)) (fun h=>by omega)) hn;simp only [if_pos hi];exact Sim.refl _
   have CTR:=Lib.hid (qir _ D _ k _ wr hMr hD hKR);clear hKR HK;go_wp2_with (fail);refine CTR.out.mono ?_;intro e w2 hp;obtain ⟨y,rfl,hy,he2⟩:=hp.x;have CT2:=Lib.hid (qel _ (D+1) y _ w2 (hMr.ext he2) hy);clear hp hy CTR;go_wp2_with (fail);refine CT2.out.mono ?_;rintro e w3 ⟨y3,rfl,hy3,he3⟩;obtain ⟨⟨q0,q1,q2,q3⟩,⟨f0,f1,f2,f3⟩,⟨r0,r1,r2,r3⟩,HF⟩:=qbR (M:=M) (w:=w) ((HBW.out.ext he2).ext he3) (Mx.at (by omega)) (Nat.le_refl _) ((HEW.out.trans he2).trans he3) hy3 Mx.sub;have HF2:=Lib.hid (HF.out.tup 0);have hlt3:=((HBW.out.ext he2).ext he3).lt;clear HF hy3 he2 he3 CT2 hMr;go_wp2;exact bodyPost_ret (v:=.tuple #[.agg (peA y3),.int .i64 0]) (by simp [results,Tryz.results11,go_sem,r0,r1,r2,r3]) rfl HF2.out
end Go.Proofs.YtmcfpnmoklnhoaaGreat
