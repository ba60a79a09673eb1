/- MainvarReductum: plain facts. Regions with calls and allocs in any order. -/
import Derived.Test.YtmcfpnmoklnhoaaGreatDi
import Derived.Test.YtmcfpnmoklnhoaaGreatMu
set_option linter.unusedVariables false
set_option linter.unusedSimpArgs false

namespace Go.Proofs.YtmcfpnmoklnhoaaGreat
open Go.RowKit

theorem qko (m k:Mo):Mo.add (Mo.sub m k) k=m:=((Mo.add_eq _ _ _).2 rfl)
theorem qj7 {K:Nat} (h1:1<=K) (h4:K<=4) (l:List Tm) (m:Mo) : ∀ n:Nat,qab (poly K n fun i=>ck K (i:Int) l) m=if 0<=m.get K/\m.get K<(n:Int) then qab l m else 0
 | 0=>by rw [if_neg (by omega)];rfl
 | n+1=>by
  rw [qaf,qae,qj7 h1 h4 l m n,qaA,qaQ h1 h4,qko,qbG,qat K K _ h1 h4,if_pos rfl]
  by_cases ha:0<=m.get K/\m.get K<(n:Int)
  ·rw [if_pos ha,if_neg (by omega),if_pos (by omega)];omega
  ·rw [if_neg ha]
   by_cases hb:m.get K=(n:Int)
   ·rw [if_pos (by omega),if_pos (by omega)];omega
   ·rw [if_neg (by omega),if_neg (by omega)];omega


section
variable {P:Program} {ops:Array Oper} {Q:Exit->Act->World->Prop} {md:Region.Mode} {S:World->Prop} {last:Nat}
theorem qkl (i j k : Nat) {oi oj ok : Oper} {fuel : Nat} {listed : Array Bool} {a : Act} {w : World} (hr : Region.ready md ops listed = [i, j, k]) (hi : ops[i]? = some oi) (hj : ops[j]? = some oj) (hk : ops[k]? = some ok)
  (h : ∀ K':Act->World->Prop,Shut (∀ a w,(i≠last->S w)->qba P md ops Q S last fuel (listed.setIfInBounds i true) a w->K' a w)->if Region.wanted oi (yielded ops a.tmps)=true then Oper.wp P oi a w K' Q else K' (a.put oi.dst undef) w)
  (h' : ∀ K':Act->World->Prop,Shut (∀ a w,(j≠last->S w)->qba P md ops Q S last fuel (listed.setIfInBounds j true) a w->K' a w)->if Region.wanted oj (yielded ops a.tmps)=true then Oper.wp P oj a w K' Q else K' (a.put oj.dst undef) w)
  (h'' : ∀ K':Act->World->Prop,Shut (∀ a w,(k≠last->S w)->qba P md ops Q S last fuel (listed.setIfInBounds k true) a w->K' a w)->if Region.wanted ok (yielded ops a.tmps)=true then Oper.wp P ok a w K' Q else K' (a.put ok.dst undef) w):qba P md ops Q S last (fuel+1) listed a w:=by
 refine ⟨fun h0=>(by rw [h0] at hr;cases hr),fun q hq=>?_⟩;rw [hr] at hq;simp only [List.mem_cons,List.not_mem_nil,or_false] at hq;rcases hq with rfl | rfl | rfl
 ·exact wpOp_step hi fun K' hK=>h K' fun a w h1 h2=>hK a w ⟨h1,h2⟩
 ·exact wpOp_step hj fun K' hK=>h' K' fun a w h1 h2=>hK a w ⟨h1,h2⟩
 ·exact wpOp_step hk fun K' hK=>h'' K' fun a w h1 h2=>hK a w ⟨h1,h2⟩
end
def M7 (A B:Option Nat):Nat->Prop:=fun g=>A=some g∨B=some g
structure S7 (wd wk:World) (A B:Option Nat):Prop where
 e:Ext wd wk
 a : ∀ g,A=some g->Blk wk g 33 4 (arr zA)/\wd.heap.size<=g
 b : ∀ g,B=some g->Blk wk g 33 4 (arr zA)/\wd.heap.size<=g
 ne : ∀ g,A=some g->B≠some g
theorem S7.lt {wd wk:World} {A B:Option Nat} (h:S7 wd wk A B) (g:Nat) (hg:M7 A B g):wd.heap.size<=g/\g<wk.heap.size:=by
 rcases hg with hg | hg
 ·exact ⟨(h.a g hg).2,(h.a g hg).1.lt⟩
 ·exact ⟨(h.b g hg).2,(h.b g hg).1.lt⟩
theorem S7.mb {wd wk:World} {A B:Option Nat} (h:S7 wd wk A B):Mb (M7 A B) wk:=fun g hg=>(h.lt g hg).2
theorem S7.start (wd:World):S7 wd wd none none:=⟨Ext.refl _,(fun g h=>by cases h),(fun g h=>by cases h),fun g h=>by cases h⟩
theorem S7.call {wd wk w':World} {A B:Option Nat} (h:S7 wd wk A B) (d:Ext wk w'):S7 wd w' A B:=⟨h.e.trans d,fun g hg=>⟨(h.a g hg).1.ext d,(h.a g hg).2⟩,fun g hg=>⟨(h.b g hg).1.ext d,(h.b g hg).2⟩,h.ne⟩
theorem S7.old {wd wk:World} {A B:Option Nat} {x:PE} {l:List Tm} (h:S7 wd wk A B) (hx:CRx M0 wd 4 x l):CRx (M7 A B) wk 4 x l:=(hx.more (M':=M7 A B) (fun g hg=>.inr (h.lt g hg).1)).ext h.e
theorem S7.allA {wd wk:World} {B:Option Nat} (h:S7 wd wk none B):S7 wd (wk.alloc (.cells zA 33)) (some wk.heap.size) B:=by
 have d:Ext wk (wk.alloc (.cells zA 33)):=(Ext.refl wk).alloc _;refine ⟨h.e.trans d,fun g hg=>?_,fun g hg=>⟨(h.b g hg).1.ext d,(h.b g hg).2⟩,fun g hg hb=>?_⟩
 ·cases hg;exact ⟨Blk.of_arr wk zA 33 4 rfl,h.e.size⟩
 ·cases hg;have:=(h.b _ hb).1.lt;omega
theorem S7.keepA {wd wk:World} {B:Option Nat} {x:PE} {l:List Tm} (_:S7 wd wk none B) (hx:CRx (M7 none B) wk 4 x l):CRx (M7 (some wk.heap.size) B) (wk.alloc (.cells zA 33)) 4 x l:=by
 refine (hx.more (M':=M7 (some wk.heap.size) B) fun g hg=>?_).ext ((Ext.refl wk).alloc _);rcases hg with hg | hg
 ·cases hg;exact .inr (Nat.le_refl _)
 ·exact .inl (.inr hg)
def Z4 (w:World) (g:Nat):Prop:=w.cell? ⟨g,0,none⟩=some (.int .i64 0)/\w.cell? ⟨g,1,none⟩=some (.bool false)/\w.cell? ⟨g,2,none⟩=some (.slice none 0 0)/\w.cell? ⟨g,3,none⟩=some (.slice none 0 0)
def Fz4 (w:World) (g:Nat):Prop:=w.frozen? ⟨g,0,none⟩=false/\w.frozen? ⟨g,1,none⟩=false/\w.frozen? ⟨g,2,none⟩=false/\w.frozen? ⟨g,3,none⟩=false
theorem Blk.z4 {w:World} {g:Nat} (h:Blk w g 33 4 (arr zA)):Z4 w g:=⟨h.cell (i:=0) (by omega),h.cell (i:=1) (by omega),h.cell (i:=2) (by omega),h.cell (i:=3) (by omega)⟩
theorem Blk.fz4 {w:World} {g:Nat} {t:TypeId} {n:Nat} {f:Nat->Value} (h:Blk w g t n f):Fz4 w g:=⟨h.frozen 0,h.frozen 1,h.frozen 2,h.frozen 3⟩
theorem qdB {w:World} {g:Nat} {t:TypeId} {f:Nat->Value} (h:Blk w g t 4 f) (x:PE):Blk (set4 w g 0 (.int .i64 x.lv) (.bool x.b) (.slice x.a x.n x.p) (.slice x.ka x.kn x.kp)) g t 4 (arr (peA x)):=
 (h.set4 0 (.int .i64 x.lv) (.bool x.b) (.slice x.a x.n x.p) (.slice x.ka x.kn x.kp)).congr fun i hi=>match i,hi with
  | 0,_=>qdF f 0 _ _ _ _
  | 1,_=>qdE f 0 _ _ _ _
  | 2,_=>qdD f 0 _ _ _ _
  | 3,_=>qdC f 0 _ _ _ _
structure qtO (wd W:World) (a:Nat) (x:PE) (l:List Tm):Prop where
 e:Ext wd W
 p:P4 W a x
 x:CRx M0 W 4 x l
theorem S7.put1 {wd wk : World} {a : Nat} {x : PE} {l : List Tm} (h : S7 wd wk (some a) none) (hx : CRx (M7 (some a) none) wk 4 x l) :
  ∃ W1,W1=set4 wk a 0 (.int .i64 x.lv) (.bool x.b) (.slice x.a x.n x.p) (.slice x.ka x.kn x.kp)/\Z4 wk a/\Fz4 wk a/\qtO wd W1 a x l:=by
 obtain ⟨hB,hw⟩:=h.a a rfl;refine ⟨_,rfl,hB.z4,hB.fz4,h.e.set4 hw _ _ _ _ _,(qdB hB x).p4,(hx.kp (Kp.set4 (.inl rfl) _ _ _ _ _)).more fun g hg=>hg.elim⟩
end Go.Proofs.YtmcfpnmoklnhoaaGreat
