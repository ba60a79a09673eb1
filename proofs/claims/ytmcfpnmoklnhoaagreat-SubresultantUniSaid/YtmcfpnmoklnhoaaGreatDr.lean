/- Dr -/
import Derived.Test.YtmcfpnmoklnhoaaGreatDi
import Derived.Test.YtmcfpnmoklnhoaaGreatMu
import Derived.Test.YtmcfpnmoklnhoaaGreatDe
set_option linter.unusedVariables false
set_option linter.unusedSimpArgs false
namespace Go.Proofs.YtmcfpnmoklnhoaaGreat
open Go.RowKit
theorem qzh(m k:Mo):Mo.add (Mo.sub m k) k=m:=((Mo.add_eq _ _ _).2 rfl)
theorem qg9{K:Nat}(h1:1<=K)(h4:K<=4)(l:List Tm)(m:Mo):∀n:Nat,aB (aJ K n λi=>ck K (i:Int) l) m=if 0<=m.get K/\m.get K<(n:Int)then aB l m else 0
 |0=>by rw[if_neg (by omega)];rfl
 |n+1=>by
  rw[fK,gW,qg9 h1 h4 l m n,rG,mE h1 h4,qzh,sJ,dX K K _ h1 h4,if_pos rfl]
  by_cases ha:0<=m.get K/\m.get K<(n:Int)
  ·rw[if_pos ha,if_neg (by omega),if_pos (by omega)];omega
  ·rw[if_neg ha]
   by_cases hb:m.get K=(n:Int)
   ·rw[if_pos (by omega),if_pos (by omega)];omega
   ·rw[if_neg (by omega),if_neg (by omega)];omega
section
variable{P:Program}{ops:Array Oper}{Q:Exit->Act->World->Prop}{md:Region.Mode}{S:World->Prop}{last:Nat}
theorem qz5(i j k:Nat){oi oj ok:Oper}{fuel:Nat}{listed:Array Bool}{a:Act}{w:World}(hr:Region.ready md ops listed=[i,j,k])(hi:ops[i]?=some oi)(hj:ops[j]?=some oj)(hk:ops[k]?=some ok)
 (h:∀K':Act->World->Prop,Shut (∀a w,(i≠last->S w)->l9 P md ops Q S last fuel (listed.setIfInBounds i true) a w->K' a w)->if Region.wanted oi (yielded ops a.tmps)=true then Oper.wp P oi a w K' Q else K' (a.put oi.dst undef) w)
 (h':∀K':Act->World->Prop,Shut (∀a w,(j≠last->S w)->l9 P md ops Q S last fuel (listed.setIfInBounds j true) a w->K' a w)->if Region.wanted oj (yielded ops a.tmps)=true then Oper.wp P oj a w K' Q else K' (a.put oj.dst undef) w)
 (h'':∀K':Act->World->Prop,Shut (∀a w,(k≠last->S w)->l9 P md ops Q S last fuel (listed.setIfInBounds k true) a w->K' a w)->if Region.wanted ok (yielded ops a.tmps)=true then Oper.wp P ok a w K' Q else K' (a.put ok.dst undef) w):l9 P md ops Q S last (fuel+1) listed a w:=by
 refine⟨λh0=>(by rw[h0]at hr;cases hr),λq hq=>?_⟩;rw[hr]at hq;simp only[List.mem_cons,List.not_mem_nil,or_false]at hq;rcases hq with rfl|rfl|rfl
 ·exact wpOp_step hi λK' hK=>h K' λa w h1 h2=>hK a w ⟨h1,h2⟩
 ·exact wpOp_step hj λK' hK=>h' K' λa w h1 h2=>hK a w ⟨h1,h2⟩
 ·exact wpOp_step hk λK' hK=>h'' K' λa w h1 h2=>hK a w ⟨h1,h2⟩
end
structure S7(wd wk:World)(A B:Option Nat):Prop where
 e:Ext wd wk
 a:∀g,A=some g->ak wk g 33 4 (arr zA)/\wd.heap.size<=g
 b:∀g,B=some g->ak wk g 33 4 (arr zA)/\wd.heap.size<=g
 ne:∀g,A=some g->B≠some g
theorem S7.call{wd wk w':World}{A B:Option Nat}(h:S7 wd wk A B)(d:Ext wk w'):S7 wd w' A B:=⟨h.e.trans d,λg hg=>⟨(h.a g hg).1.ext d,(h.a g hg).2⟩,λg hg=>⟨(h.b g hg).1.ext d,(h.b g hg).2⟩,h.ne⟩
def Z4(w:World)(g:Nat):Prop:=w.cell? ⟨g,0,none⟩=some (.int .i64 0)/\w.cell? ⟨g,1,none⟩=some (.bool false)/\w.cell? ⟨g,2,none⟩=some (.slice none 0 0)/\w.cell? ⟨g,3,none⟩=some (.slice none 0 0)
def Ry(w:World)(g:Nat):Prop:=w.frozen? ⟨g,0,none⟩=false/\w.frozen? ⟨g,1,none⟩=false/\w.frozen? ⟨g,2,none⟩=false/\w.frozen? ⟨g,3,none⟩=false
theorem ak.z4{w:World}{g:Nat}(h:ak w g 33 4 (arr zA)):Z4 w g:=⟨h.cell (i:=0) (by omega),h.cell (i:=1) (by omega),h.cell (i:=2) (by omega),h.cell (i:=3) (by omega)⟩
theorem ak.fz4{w:World}{g:Nat}{t:TypeId}{n:Nat}{f:Nat->Value}(h:ak w g t n f):Ry w g:=⟨h.frozen 0,h.frozen 1,h.frozen 2,h.frozen 3⟩
theorem TJ{w:World}{g:Nat}{t:TypeId}{f:Nat->Value}(h:ak w g t 4 f)(x:PE):ak (aH w g 0 (.int .i64 x.lv) (.bool x.b) (.slice x.a x.n x.p) (.slice x.ka x.kn x.kp)) g t 4 (arr (ah x)):=
 (h.aH 0 (.int .i64 x.lv) (.bool x.b) (.slice x.a x.n x.p) (.slice x.ka x.kn x.kp)).congr λi hi=>match i,hi with
  |0,_=>Cy f 0 _ _ _ _
  |1,_=>Cz f 0 _ _ _ _
  |2,_=>CB f 0 _ _ _ _
  |3,_=>CV f 0 _ _ _ _
def Zu(g o:Nat)(y:PE)(w:World):Prop:=eX w g o y/\g<w.heap.size
theorem Zu.ext{g o:Nat}{y:PE}{w w':World}(h:Zu g o y w)(he:Ext w w'):Zu g o y w':=⟨h.1.ext h.2 he,Nat.lt_of_lt_of_le h.2 he.size⟩
end Go.Proofs.YtmcfpnmoklnhoaaGreat
