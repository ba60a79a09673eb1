/- Zd -/
import Derived.Test.YtaafefeafonhdaaGreatZc
set_option linter.unusedVariables false
set_option maxRecDepth 100000
set_option maxHeartbeats 400000000
set_option linter.unusedSimpArgs false
namespace Go.Proofs.YtaafefeafonhdaaGreat
open Go.ChangeShapes Go.WideShapes Go.ChangeAt Go.RowKit Go.Deep
section
variable{H:Type}{enc:TypeId × Value->H}{W:World}
set_option linter.constructorNameAsVariable false in
theorem qBs{base:Nat}{v:Value}{d:DataW H}{ps:List MemPlace}(hv:Value.okWide Tryz.prog W .any base 24 v)(h:DataW.Trod enc Tryz.prog W 0 (λ_=>true) true 24 v d ps):∃y:Nat->Int,v=.agg #[.int .i8 (y 0),.int .i8 (y 1),.int .i8 (y 2),.int .i8 (y 3)]/\∀i,i<4->(-128<=y i/\y i<=127):=by
 obtain⟨fuel,h⟩:=h;have hu:=Tryz.underlying24;unfold Value.okWide at hv;rw[hu]at hv;obtain⟨cs,rfl,hcs,_⟩:=hv;rw[show Tryz.prog.cellsOf 24=4 by kernel_rfl]at hcs
 obtain⟨v0,v1,v2,v3,rfl⟩:∃v0 v1 v2 v3,cs= #[v0,v1,v2,v3]:=by
  obtain⟨l⟩:=cs
  match l,hcs with
  |[v0,v1,v2,v3],_=>exact⟨v0,v1,v2,v3,rfl⟩
 have h':DataW.trod enc Tryz.prog W 0 (λ_=>true) true fuel 24 [v0,v1,v2,v3]=some (d,ps):=h;obtain⟨xs,q,_,_,_,Bh,hx⟩:=DataW.trod_array hu h'
 have hce:Tryz.prog.cellsOf 23=1:=by kernel_rfl
 rw[hce]at hx
 have key:∀i,i<4->∃y,DataW.trod enc Tryz.prog W 0 (λ_=>true) true q 23 (([v0,v1,v2,v3].drop (i*1)).take 1)=some y:=λi hi=>by
  rw[hx i hi,List.getElem?_eq_getElem (by omega)];exact⟨_,rfl⟩
 obtain⟨y0,e0⟩:=key 0 (by omega);obtain⟨y1,e1⟩:=key 1 (by omega);obtain⟨y2,e2⟩:=key 2 (by omega);obtain⟨y3,e3⟩:=key 3 (by omega);obtain⟨a,ha,_,wa⟩:=DataW.trod_int Tryz.underlying23 e0;obtain⟨b,hb,_,wb⟩:=DataW.trod_int Tryz.underlying23 e1;obtain⟨c,hc,_,wc⟩:=DataW.trod_int Tryz.underlying23 e2;obtain⟨e,he,_,we⟩:=DataW.trod_int Tryz.underlying23 e3;simp at ha hb hc he;simp[Lit.wf,IntKind.min,IntKind.max,IntKind.signed,IntKind.bits]at wa wb wc we;refine⟨λi=>if i=0 then a else if i=1 then b else if i=2 then c else e,by rw[ha,hb,hc,he];rfl,λi hi=>?_⟩;rcases(show i=0\/i=1\/i=2\/i=3 by omega)with rfl|rfl|rfl|rfl<;>assumption
theorem qBn{base:Nat}{v:Value}{d:DataW H}{ps:List MemPlace}(hv:Value.okWide Tryz.prog W .any base 3 v)(h:DataW.Trod enc Tryz.prog W 0 (λ_=>true) true 3 v d ps):∃z:Int,v=.int .i64 z/\(-9223372036854775808<=z/\z<=9223372036854775807):=by
 obtain⟨fuel,h⟩:=h;obtain⟨y,rfl⟩:=okWide_int Tryz.underlying3 hv;obtain⟨z,hz,_,hw⟩:=DataW.trod_int Tryz.underlying3 h;have Dz:[Value.int .i64 y]=[.int .i64 z]:=hz;simp[Lit.wf,IntKind.min,IntKind.max,IntKind.signed,IntKind.bits]at hw;exact⟨z,by simpa using Dz,by omega,by omega⟩
end
namespace resultantEliminate
theorem own:ownKnob Tryz.prog.godebug=none:=by kernel_rfl
theorem contract(H:Type)(enc:TypeId × Value->H)(W:World)(base:Nat)(args:Array Value)(ds gs:List (DataW H))(before:List MemPlace)
 (hval:∀(j:Nat) t v,Tryz.f3.params[j]?=some t->args[j]?=some v->Value.okWide Tryz.prog W .any base t v)
 (hW:DataW.Whole enc Tryz.prog Tryz.f3.params.toList Rows.resultantEliminateSpec.vars false W args.toList ds gs before):
 Calls Tryz.prog 3 args W λe W'=>∃v,e=.returned v/\Rows.resultantEliminateSpec.post enc Tryz.prog Tryz.f3 false true false false W args v W':=by
 have hW':=hW;obtain⟨p,q,hA0,hV,rfl,dX,hnd⟩:=hW;have hA:DataW.TrodAll enc Tryz.prog W 0 (λ_=>true) true Tryz.f3.params.toList args.toList ds p:=hA0;rw[Tryz.params3]at hA hval;obtain⟨v0,vs0,d0,ds0,p0,q0,hargs,rfl,rfl,h0,r0⟩:=trodAll_cons hA;obtain⟨v1,vs1,d1,ds1,p1,q1,rfl,rfl,rfl,h1,r1⟩:=trodAll_cons r0;obtain⟨v2,vs2,d2,ds2,p2,q2,rfl,rfl,rfl,h2,r2⟩:=trodAll_cons r1;obtain⟨rfl,rfl,rfl⟩:=trodAll_nil r2
 obtain rfl:args= #[v0,v1,v2]:=by cases args;simp_all
 obtain⟨rfl,rfl⟩:=trodVars_none hV;obtain⟨a0,n0,c0,Y0,rfl,g0⟩:=qBr (hval 0 22 v0 rfl rfl) h0;obtain⟨y1,rfl,g1⟩:=qBs (hval 1 24 v1 rfl rfl) h1;obtain⟨z2,rfl,g2⟩:=qBn (hval 2 3 v2 rfl rfl) h2;refine(qzY a0 n0 c0 Y0 y1 z2 W g0 g1).mono λe W'⟨he,hg⟩=>?_;subst he;refine⟨_,rfl,qBR (tb:=4) (by kernel_rfl) ?_ rfl rfl (by kernel_rfl) Tryz.underlying4 hW' hg⟩;rw[Tryz.params3];intro t ht;simp only[List.mem_cons,List.not_mem_nil,or_false,or_self,or_self_left]at ht;rcases ht with rfl|rfl|rfl
 ·exact⟨by kernel_rfl,of_decide_eq_true (by kernel_rfl)⟩
 ·exact⟨by kernel_rfl,of_decide_eq_true (by kernel_rfl)⟩
 ·exact⟨by kernel_rfl,of_decide_eq_true (by kernel_rfl)⟩
theorem lifted(os:Os)(started:os.Started)(H:Type)(enc:TypeId × Value->H):
 ReturnsInHanded {} Tryz.checked os 3 .any (Rows.resultantEliminateSpec.pre6 enc Tryz.prog Tryz.f3 Rows.resultantEliminateRow.domain false) (Rows.resultantEliminateSpec.post enc Tryz.prog Tryz.f3 false true false false):=by
 refine returnsInHanded_of_change (C:=Tryz.checked) own started (by kernel_rfl) Tryz.func3
  (ChangeSpec.witness6 (enc:=enc) (C:=Tryz.checked) false ⟨#[],#[.slice none 0 0,.agg #[.int .i8 0,.int .i8 0,.int .i8 0,.int .i8 0],.int .i64 0],[]⟩ 8 (by kernel_rfl) (by kernel_rfl) (by kernel_rfl) (by kernel_rfl)) ?_
 intro W base args ds gs before hval hW _ _;exact contract H enc W base args ds gs before hval hW
theorem kInp:(Rows.resultantEliminateRow.inPlace==Tryz.pinned.checked.prog.inPlace 3)=true:=by kernel_rfl
theorem kUnf:(Rows.resultantEliminateRow.unfollowed==Tryz.pinned.checked.prog.unfollowed 3)=true:=by kernel_rfl
theorem kRec:(Rows.resultantEliminateRow.recurses==Tryz.pinned.checked.prog.recurses 3)=true:=by kernel_rfl
theorem kNam:(Rows.resultantEliminateRow.named==Tryz.pinned.checked.prog.varsNamed 3)=true:=by kernel_rfl
theorem kLaid:laidOutB Tryz.pinned.checked.prog=true:=by kernel_rfl
theorem closed:joinedFacts Tryz.pinned.checked.prog 3 Tryz.f3 Rows.resultantEliminateSpec Rows.resultantEliminateRow=true:=by
 unfold joinedFacts;rw[kInp,kUnf,kRec,kNam,kLaid]
 kernel_rfl
theorem proved:Rows.ResultantEliminateSaid:=
 OpenClaim.holds_of_wide (p:=Tryz.pinned) (s:=Rows.resultantEliminateSpec) (c:=Rows.resultantEliminateRow) 3 Tryz.f3 rfl rfl rfl rfl rfl rfl rfl ⟨rfl,rfl,rfl,rfl,rfl⟩ rfl rfl rfl rfl rfl (by kernel_rfl) Tryz.func3 closed
  (of_decide_eq_true (by kernel_rfl)) (by unfold Func.isWrapper;first|(rw[av (by decide+kernel)];kernel_rfl)|(rw[aj (by decide+kernel)];exact⟨rfl,rfl⟩))
  (λos started H enc _=>lifted os started H enc)
end resultantEliminate
end Go.Proofs.YtaafefeafonhdaaGreat
