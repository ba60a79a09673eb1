/- Mq -/
import Derived.Test.YtmcfpnmoklnhoaaGreatMa
import Derived.Test.YtmcfpnmoklnhoaaGreatRows
import Derived.WalkKit
import Derived.ProofKit
import Derived.OpenShut
import Derived.Below
import Derived.Carry
import Derived.ChangeSame
import Derived.Deep.Slices
import Derived.Deep.Fields
import Derived.Test.YtmcfpnmoklnhoaaGreatMi
import Derived.Deep.Strs
import Derived.Test.YtmcfpnmoklnhoaaGreatMm
set_option linter.unusedVariables false
set_option maxRecDepth 100000
set_option maxHeartbeats 400000000
set_option linter.unusedSimpArgs false
namespace Go.Proofs.YtmcfpnmoklnhoaaGreat
open Go.ChangeShapes Go.WideShapes Go.ChangeAt Go.RowKit Go.Deep
section
variable{H:Type}{enc:TypeId × Value->H}
theorem qgL{W W':World}(he:Ext W W'){sp:Nat->Bool}(hl:laidOutB Tryz.prog=true):∀{ts:List TypeId}{vs:List Value}{ds:List (DataW H)}{ps:List MemPlace},
 (∀t∈ts,Tryz.prog.readableRec t=true/\t<Tryz.prog.types.size)->DataW.TrodAll enc Tryz.prog W 0 (λ_=>true) true ts vs ds ps->(∀p∈ps,p.block<W.heap.size/\sp p.block=true)->DataW.TrodAll enc Tryz.prog W' 0 sp true ts vs ds ps
 |[],_,_,_,_,h,_=>by
  obtain⟨rfl,rfl,rfl⟩:=trodAll_nil h;rfl
 |t::ts,_,_,_,hr,h,hp=>by
  obtain⟨v,vs,d,ds,p,q,rfl,rfl,rfl,h1,h2⟩:=trodAll_cons h;have ht:=hr t (List.mem_cons_self ..);refine⟨p,q,WideElems.Trod_stays hl ht.1 ht.2 h1 (λx hx=>Below.same he (hp x (List.mem_append_left _ hx)).1) (λx hx=>(hp x (List.mem_append_left _ hx)).2),qgL he hl (λt' h'=>hr t' (List.mem_cons_of_mem _ h')) h2 (λx hx=>hp x (List.mem_append_right _ hx)),rfl⟩
theorem qxP{f:Func}{s:ChangeSpec}{apart fresh handsOn again:Bool}{W W':World}{args:Array Value}{ds:List (DataW H)}{before:List MemPlace}{tb:TypeId}
 (hl:laidOutB Tryz.prog=true) (hr:∀t∈f.params.toList,Tryz.prog.readableRec t=true/\t<Tryz.prog.types.size) (hv:s.vars=[]) (hs:s.fn H ds={results:=[.lit (.bool true)],args:=ds})
 (hR:f.resultTypes= #[tb]) (Vd:Tryz.prog.underlying tb=some .bool) (hW:DataW.Whole enc Tryz.prog f.params.toList s.vars apart W args.toList ds [] before) (he:Ext W W'):
 s.post enc Tryz.prog f apart fresh handsOn again W args (.bool true) W':=by
 have hlt:∀p∈before,p.block<W.heap.size:=λp hp=>hW.lt p hp;have hW':=hW;obtain⟨pa,pv,hA,hV,Me,hz,hn⟩:=hW;rw[hv]at hV;obtain rfl:pv=[]:=hV;rw[List.append_nil]at Me;subst Me
 have PM:s.fn H (ds++[])={results:=[.lit (.bool true)],args:=ds}:=by rw[List.append_nil];exact hs
 have iT:∀sp:Nat->Bool,(∀p∈before,sp p.block=true)->DataW.TrodAll enc Tryz.prog W' 0 sp true f.params.toList args.toList ds before:=λsp Ml=>qgL he hl hr hA λp hp=>⟨hlt p hp,Ml p hp⟩
 have hres:∀(b:Nat)(sp:Nat->Bool)(hd:Bool),DataW.TrodAll enc Tryz.prog W' b sp hd f.resultTypes.toList ((Value.bool true).resultList f.resultTypes.size) [.lit (.bool true)] []:=by
  intro b sp hd;rw[hR];exact⟨[],[],shut_bool Vd true,rfl,rfl⟩
 refine⟨ds,[],before,[],before,[],hW',by rw[PM];exact hres _ _ _,by rw[PM];exact iT _ (λp hp=>by simpa using hlt p hp),by rw[PM,hv];rfl,World.keptBut_mono (λp hp=>⟨hp,.inr (.inl hp)⟩) (Below.frame he (· ∈before)),λ_=>?_⟩;refine⟨ok_one hR rfl (okWide_bool_mk Vd true),_,[],([]++before)++[],⟨[]++before,[],trodAll_append (iT _ (λ_ _=>rfl)) (hres _ _ _),by rw[hv];rfl,rfl,?_,?_⟩,?_⟩
 ·intro b off hp
  have lQ:MemPlace.cell b off∈before:=by simpa using hp
  rw[Below.frozen he (hlt _ lQ)];exact hz b off lQ
 ·intro ha;simpa using hn ha
 ·intro p hp _;simpa using hp
end
end Go.Proofs.YtmcfpnmoklnhoaaGreat
namespace Go.Proofs.YtmcfpnmoklnhoaaGreat
open Go.RowKit
end Go.Proofs.YtmcfpnmoklnhoaaGreat
namespace Go.Proofs.YtmcfpnmoklnhoaaGreat
open Go.ChangeShapes Go.WideShapes Go.ChangeAt Go.RowKit Go.Deep
namespace recpolyArithmetic
end recpolyArithmetic
end Go.Proofs.YtmcfpnmoklnhoaaGreat
