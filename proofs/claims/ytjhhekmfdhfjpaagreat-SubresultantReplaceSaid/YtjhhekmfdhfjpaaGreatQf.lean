/- cylinderlaw25: inner, degrees, equal. -/
import Derived.Test.YtjhhekmfdhfjpaaGreatQe
set_option linter.unusedVariables false
set_option linter.unusedSimpArgs false

namespace Go.Proofs.YtjhhekmfdhfjpaaGreat
open Go.RowKit

set_option maxRecDepth 100000 in
set_option maxHeartbeats 8000000 in
theorem qfc (w : World) (x y : PE) (L m n : Int)
  (HA : ∀ wk,Ext w wk -> Calls Tryz.prog 16 #[.agg (peA x),.int .i64 L] wk fun e w'=>e = .returned (.int .i64 m) /\ Ext wk w')
  (HB : ∀ wk,Ext w wk -> Calls Tryz.prog 16 #[.agg (peA y),.int .i64 L] wk fun e w'=>e = .returned (.int .i64 n) /\ Ext wk w') :
  Calls Tryz.prog 12 #[.agg (peA x),.agg (peA y),.int .i64 L] w fun e w'=>e = .returned (.agg #[.int .i64 m,.int .i64 n]) /\ Ext w w':=by
 have hE:=((Ext.refl w).alloc (.cells (peA x) 32)).alloc (.cells (peA y) 32)
 have hBx:=qcL w x y
 generalize hW : (w.alloc (.cells (peA x) 32)).alloc (.cells (peA y) 32) = W at *
 have hE2:=hE.alloc (.cells #[.int .i64 0,.int .i64 0] 37)
 have hB2:=Blk.of_arr W #[.int .i64 0,.int .i64 0] 37 2 rfl
 have hBy : SBr w.heap.size x y (W.alloc (.cells #[.int .i64 0,.int .i64 0] 37)):=SBr.ext hBx ((Ext.refl W).alloc _)
 have hsz : W.heap.size = w.heap.size + 2:=by rw [<- hW];simp
 rw [hsz] at hB2
 generalize hV : W.alloc (.cells #[.int .i64 0,.int .i64 0] 37) = V at *
 have HV:=Lib.hid hV
 have HW:=Lib.hid hW
 have HE:=Lib.hid hE2
 have HBX:=Lib.hid hBy
 have HB2:=Lib.hid hB2
 have CA:=Lib.hid HA
 have CB:=Lib.hid HB
 clear hE hBx hW hV hE2 hB2 hBy hsz HA HB
 go_enter Tryz.func12,Tryz.ntmps12
 go_upto_region 1 with (fail)
 rw [HW.out,HV.out]
 obtain ⟨g0,hg0⟩ : ∃ g0,g0 = w.heap.size:=⟨_,rfl⟩
 rw [<- hg0] at HBX HB2 ⊢
 obtain ⟨g2,hg2⟩ : ∃ g2,g2 = g0 + 1 + 1:=⟨_,rfl⟩
 rw [show g0 + 2 = g0 + 1 + 1 from rfl,<- hg2] at HB2
 rw [<- hg2]
 have HG2 : Hid (w.heap.size <= g2):=by show w.heap.size <= g2;omega
 clear hg0 hg2 HW HV
 have HPd : Hid (SBr g0 x y V.drew):=HBX.out.ext (Ext.refl _).drew
 have HD0 : Hid (Ext w V.drew):=HE.out.trans (Ext.refl _).drew
 have HBd:=Lib.hid (HB2.out.ext (Ext.refl V).drew)
 refine qae (SBr g0 x y) 7 (by kernel_rfl) HPd.out (fun hHeld=>?_)
 generalize V.drew = wd at *
 (refine tkB [0,1,3,4] ?_;(iterate 4 (refine tk1 (oi:=?_) (v:=?_) (by kernel_rfl) (by first | exact hSn | exact hHeld) ?_ ?_ ?_ ?_ ?_;rotate_left 2;(simp only [xgA,xgB,xgC];rfl);rfl;(intro wS hSw;obtain ⟨⟨A0,A1,A2,A3⟩,B0,B1,B2,B3⟩:=hSw;go_simp;try with_reducible rfl);(exact fun _ _ _ h=>h);(try simp only [Act.put,xgD,xgE,xgF])));refine tkE ?_)
 ((refine qaa 2 (o:=?_) (by kernel_rfl) ?_ ?_;rotate_left 1;(simp only [xgA,xgB,xgC];rfl);intro K hK);go_simp;(refine (CA.out wd HD0.out).mono ?_);rintro e_ w5 ⟨rfl,e2⟩;go_wp2_with (fail);(try clear hSn);(have hSn:=hHeld.ext e2);(refine hK.out _ _ (fun _=>hSn) ?_);clear hK K;(try simp only [Act.put,xgD,xgE,xgF]))
 ((refine qaa 5 (o:=?_) (by kernel_rfl) ?_ ?_;rotate_left 1;(simp only [xgA,xgB,xgC];rfl);intro K hK);go_simp;(refine (CB.out w5 (HD0.out.trans e2)).mono ?_);rintro e_ w6 ⟨rfl,e5⟩;go_wp2_with (fail);(try clear hSn);(have hSn:=hHeld.ext (e2.trans e5));(refine hK.out _ _ (fun _=>hSn) ?_);clear hK K;(try simp only [Act.put,xgD,xgE,xgF]))
 (refine tkB [6] ?_;(iterate 1 (refine tk1 (oi:=?_) (v:=?_) (by kernel_rfl) (by first | exact hSn | exact hHeld) ?_ ?_ ?_ ?_ ?_;rotate_left 2;(simp only [xgA,xgB,xgC];rfl);rfl;(intro wS hSw;obtain ⟨⟨A0,A1,A2,A3⟩,B0,B1,B2,B3⟩:=hSw;go_simp;try with_reducible rfl);(exact fun _ _ _ h=>h);(try simp only [Act.put,xgD,xgE,xgF])));refine tkE ?_)
 have hB6:=HBd.out.ext (e2.trans e5)
 have q0 : w6.cell? ⟨g2,0,none⟩ = some (.int .i64 0):=hB6.cell (i:=0) (by omega)
 have q1 : w6.cell? ⟨g2,1,none⟩ = some (.int .i64 0):=hB6.cell (i:=1) (by omega)
 have f0:=hB6.frozen 0
 have f1:=hB6.frozen 1
 have hB7:=(hB6.set 0 (.int .i64 m)).set 1 (.int .i64 n)
 have r0 : ((w6.setCell ⟨g2,0,none⟩ (.int .i64 m)).setCell ⟨g2,1,none⟩ (.int .i64 n)).cell? ⟨g2,0,none⟩ = some (.int .i64 m):=hB7.cell (i:=0) (by omega)
 have r1 : ((w6.setCell ⟨g2,0,none⟩ (.int .i64 m)).setCell ⟨g2,1,none⟩ (.int .i64 n)).cell? ⟨g2,1,none⟩ = some (.int .i64 n):=hB7.cell (i:=1) (by omega)
 have HE7 : Hid (Ext w ((w6.setCell ⟨g2,0,none⟩ (.int .i64 m)).setCell ⟨g2,1,none⟩ (.int .i64 n))):=((HD0.out.trans (e2.trans e5)).set (p:=⟨g2,0,none⟩) HG2.out _).set (p:=⟨g2,1,none⟩) HG2.out _
 clear hHeld hB6 hB7 e2 e5 HPd HD0 HBX HB2 HBd HE CA CB HG2
 ((refine qaa 7 (o:=?_) (by kernel_rfl) ?_ ?_;rotate_left 1;(simp only [xgA,xgB,xgC];rfl);intro K hK);go_simp;(refine hK.out _ _ (fun h=>absurd rfl h) ?_);clear hK K;refine qac (by kernel_rfl) ?_ _)
 generalize (w6.setCell ⟨g2,0,none⟩ (.int .i64 m)).setCell ⟨g2,1,none⟩ (.int .i64 n) = W9 at *
 clear q0 q1 f0 f1
 go_wp2
 exact bodyPost_ret (v:=.agg #[.int .i64 m,.int .i64 n]) (by simp [results,Tryz.results12,go_sem,r0,r1]) rfl ⟨rfl,HE7.out⟩
end Go.Proofs.YtjhhekmfdhfjpaaGreat
