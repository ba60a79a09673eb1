/- mainvar.Derivative. -/
import Derived.Test.YtmcfpnmoklnhoaaGreatDh
set_option linter.unusedVariables false
set_option maxRecDepth 100000
set_option maxHeartbeats 400000000
set_option linter.unusedSimpArgs false

namespace Go.Proofs.YtmcfpnmoklnhoaaGreat
open Go.RowKit

theorem qoL {B:Nat} {l:List Tm} (h:Deg B l) (z:Int):Deg B (pmul l [(z,Mo.zero)]):=Deg.sim (l:=smul z l) (fun m hm k=>h m (fun e=>hm (by rw [qao,e];exact Int.mul_zero _)) k) (Sim.symm ((qbi l (z,Mo.zero)).trans (by rw [qbl];exact Sim.refl _)))
def dvC (K:Nat) (l:List Tm) (i:Nat):List Tm:=pmul (ck K (((i+1:Nat):Int)) l) [(((i+1:Nat):Int),Mo.zero)]
def qtd (l:List Tm) (L:Int) (s:List Tm):Prop:=((Sim l [] ∨ ¬ (1<=L/\L<=4))/\s = [])∨(¬ Sim l [] /\ ∃ K n:Nat,L=K/\1<=K/\K<=4/\DgR K l n/\s=poly K n (dvC K l))
theorem qsL {K A:Nat} {l:List Tm} (h:dlen (nrm l)<=A) (i:Nat) (hi:i<4294967295):dlen (nrm (dvC K l i))<=A+1:=by
 unfold dvC;rw [qbb];have h1:=qaD (nrm (ck K (((i+1:Nat):Int)) l)) (nrm [(((i+1:Nat):Int),Mo.zero)]);have h2:=qal (qew K (((i+1:Nat):Int)) l)
 have h3:dlen (nrm [(((i+1:Nat):Int),Mo.zero)])<=1:=by
  rw [qan];show (((i+1:Nat):Int)).natAbs+0<4294967296 ^ 1;omega
 omega
def SKd (g o:Nat) (y:PE) (w:World):Prop:=qaZ w g o y/\g<w.heap.size
theorem SKd.ext {g o:Nat} {y:PE} {w w':World} (h:SKd g o y w) (he:Ext w w'):SKd g o y w':=⟨h.1.ext h.2 he,Nat.lt_of_lt_of_le h.2 he.size⟩
theorem qdR (M:Nat->Prop) (x:PE) (l:List Tm) (L:Int) (B:Nat) (w:World) (hM:Mb M w) (h:PI M w x l) (hB:Deg B l) (hB5:(B+1)*(B+1) ^ 4<=1099511627776) (hB2:B+1<=100000) (hR:dlen (nrm l)<=90):Calls Tryz.prog 115 #[.agg (peA x),.int .i64 L] w (qoY M w (qtd l L)):=by
 obtain ⟨hE0,hX0,hB0,hM0⟩:=qro hM x;have hB4:(B+1) ^ 4<=1099511627776:=Nat.le_trans (Nat.le_mul_of_pos_left _ (Nat.succ_pos B)) hB5;have CC:=Lib.hid (qeK _ x l L B _ hM0 ((h.more (M':=Mx M w.heap.size (w.heap.size+2)) (Mx.more (Nat.le_refl _))).ext hE0) hB hB4 (by omega) (by omega));have CTL:=Lib.hid (fun W=>qcx L W);have HE:=Lib.hid hE0;have HB:=Lib.hid hB0;have HM:=Lib.hid hM0;obtain ⟨x0,x1,x2,x3⟩:=hX0;have hnB:Hid (∀ K n:Nat,DgR K l n->n<=B):=fun K n hd=>qoJ hd hB;have HB2:=Lib.hid hB2;have HDB:=Lib.hid hB;have HB5:=Lib.hid hB5;have HR:=Lib.hid hR;clear hE0 hM0 hM h hB hB4 hR hB2 hB5
 by_cases hlev : ¬ (1<=L/\L<=4)
 ·have hlevB:qay L=false:=by unfold qay;simp only [decide_eq_false_iff_not];exact hlev
  rw [hlevB] at CTL;have HF2:Hid (qoY M w (qtd l L) (.returned (.agg (peA PE.z))) ((w.alloc (.cells (peA x) 33)).alloc (.cells zA 33))):=⟨PE.z,[],rfl,CR.zero _ _ 4,.inl ⟨.inr hlev,rfl⟩,HE.out⟩;clear hB0 hlev hlevB CC
  go_enter Tryz.func115,Tryz.ntmps115
  go_wp2_with (fail);refine (CTL.out _).mono ?_;rintro e w1 ⟨rfl,rfl⟩;clear CTL;go_wp2;exact bodyPost_ret (v:=.agg (peA PE.z)) (by simp [results,Tryz.results115,go_sem,PE.z]) rfl HF2.out
 have hlevB:qay L=true:=by unfold qay;simp only [decide_eq_true_eq];exact Decidable.not_not.1 hlev
 rw [hlevB] at CTL;have HLEV:=Lib.hid (Decidable.not_not.1 hlev);clear hlev hlevB hB0
 go_enter Tryz.func115,Tryz.ntmps115
 go_wp2_with (fail);refine (CTL.out _).mono ?_;rintro e w1 ⟨rfl,rfl⟩;clear CTL;go_wp2_with (fail);refine CC.out.mono ?_;rintro e w1 ⟨hr,he1⟩;have HE1:=Lib.hid (HE.out.trans he1);have HB1:=Lib.hid (HB.out.ext he1);have HM1:=Lib.hid (HM.out.ext he1);clear he1 CC x0 x1 x2 x3 HB HE;rcases hr with ⟨hz,rfl⟩ | ⟨hz,hl,_⟩ | ⟨hz,J,n,g,rfl,hK1,hK4,rfl,hg,hd,hk⟩
 ·obtain ⟨⟨q0,q1,q2,q3⟩,⟨f0,f1,f2,f3⟩,⟨r0,r1,r2,r3⟩,HF⟩:=qbR (M:=M) (M':=Mx M w.heap.size (w.heap.size+2)) (w:=w) (L:=4) (l:=[]) (y:=PE.z) HB1.out (Mx.at (by omega)) (by omega) HE1.out (CR.zero _ _ 4) Mx.sub;simp only [PE.z] at r0 r1 r2 r3;have HF2:=Lib.hid (HF.out.ld (R:=qtd l L) (.inl ⟨.inl hz,rfl⟩));clear HF HB1 hz;go_wp2;exact bodyPost_ret (v:=.agg (peA PE.z)) (by simp [results,Tryz.results115,go_sem,r0,r1,r2,r3,PE.z]) rfl HF2.out
 ·exact absurd HLEV.out hl
 ·have hgl:=hk.lt;have hnB':=hnB.out J n hd
  have hnI:(n:Int)+1<=100000:=by have:=HB2.out;omega
  have hn0:(0:Int)<=(n:Int):=Int.natCast_nonneg _
  have hne:((n:Int)+1 == 0)=false:=by simp;omega
  have hgw:w.heap.size+2<=g:=by simpa using hg
  have HZ:=Lib.hid hz;have HD:=Lib.hid hd;have HK:=Lib.hid (And.intro hK1 hK4)
  have HKI:Hid (qax (fun b=>Mx M w.heap.size (w.heap.size+2) b∨b=g) w1 4 g (n+1) (fun i=>if i<0 then dvC J l i else ck J (i:Int) l)):=hk.congr fun i _=>by rw [if_neg (by omega)];exact Sim.refl _
  have hnBB:Hid (n<=B):=hnB';clear hk hz hd hnB hK1 hK4 hnB';go_wp2
  go_loopw [6] (fun iv wr=>∃ q:Nat,q<=n/\iv = .int .i64 ((q:Int)+1)/\Hid (qax (fun b=>Mx M w.heap.size (w.heap.size+2) b∨b=g) wr 4 g (n+1) (fun i=>if i<q then dvC J l i else ck J (i:Int) l))/\Hid (Ext w wr)/\Hid (Blk wr (w.heap.size+1) 33 4 (arr zA))/\w.heap.size+2<=wr.heap.size) (fun iv _=>n+1 - (intOf iv).toNat)
  case atStart=>exact ⟨0,Nat.zero_le _,rfl,HKI,HE1,HB1,by omega⟩
  case round=>
   clear HKI HE1 HB1;obtain ⟨q,hq,rfl,HKK,HEW,HBR,hsz⟩:=hrel
   by_cases hlt:q<n
   ·have hltI:(q:Int)+1<(n:Int)+1:=by omega
    have hq0:(0:Int)<=(q:Int):=Int.natCast_nonneg _;have HLT:=Lib.hid hlt;obtain ⟨y,hy4,hyx⟩:=HKK.out.cel (q+1) (by omega);have hgl2:=HKK.out.lt
    have hyx2:CRx (fun b=>Mx M w.heap.size (w.heap.size+2) b∨b=g) wr 4 y (ck J (((q+1:Nat):Int)) l):=by
     have:=hyx;rw [if_neg (by omega)] at this;exact this
    have HYX:=Lib.hid (hyx2.ext (Ext.refl wr).drew);have hS:SKd g ((q+1)*4) y wr.drew:=SKd.ext ⟨hy4,hgl2⟩ (Ext.refl wr).drew
    have HMW:Hid (Mb (fun b=>Mx M w.heap.size (w.heap.size+2) b∨b=g) wr.drew):=fun b hb=>by
     have:=(Ext.refl wr).drew.size;rcases hb with hb | rfl
     ·have h2:=HM.out b hb;simp only [World.size_alloc] at h2;omega
     ·omega
    have hwq:IntKind.i64.wrap ((q:Int)+1 - 1)=(q:Int):=by rw [IntKind.wrap_i64];omega
    have HEW2:Hid (Ext w wr.drew):=HEW.out.trans (Ext.refl wr).drew;have HBR2:Hid (Blk wr.drew (w.heap.size+1) 33 4 (arr zA)):=HBR.out.ext (Ext.refl wr).drew;have HK2:=Lib.hid (HKK.out.ext (Ext.refl wr).drew);have hszd:w.heap.size+2<=wr.drew.heap.size:=Nat.le_trans hsz (Ext.refl wr).drew.size;have hgwd:g<wr.drew.heap.size:=hS.2;clear hyx hyx2 hy4 HKK HEW HBR hsz hgl2
    go_upto_region 9 with (fail)
    refine qad (SKd g ((q+1)*4) y) 11 (by kernel_rfl) hS (fun hHeld=>?_);clear hS;generalize wr.drew=wd at *
    have hq1:(0:Int)<=(q:Int)+1:=by omega
    have hwq2:IntKind.i64.wrap (q:Int)=(q:Int):=by rw [IntKind.wrap_i64];omega
    have hq2:(q:Int)<(n:Int)+1:=by omega
    have C9:Hid (∀ (W:World) (ib:Bool) (ia:Option Addr) (il ip:Nat),Ext wd W->qbq (fun b=>Mx M w.heap.size (w.heap.size+2) b∨b=g) W (.bool ib) (.slice ia il ip) ((q:Int)+1)->Calls Tryz.prog 74 #[.agg (peA y),.agg #[.bool ib,.slice ia il ip]] W (qa8 (fun b=>Mx M w.heap.size (w.heap.size+2) b∨b=g) W 4 (dvC J l q))):=fun W ib ia il ip he hi=>by
     have h2:=qal (qew J (((q+1:Nat):Int)) l)
     have h3:dlen ((q:Int)+1).natAbs<=1:=by
      rw [qan];show ((q:Int)+1).natAbs<4294967296 ^ 1;omega
     have h4:=HR.out;exact qgn (fun b=>Mx M w.heap.size (w.heap.size+2) b∨b=g) y _ B ib ia il ip ((q:Int)+1) W (HMW.out.ext he) (HYX.out.ext he).pi hi (by omega) (qia HK.out.1 HK.out.2 HDB.out) (by have:=HB2.out;omega)
    (refine tkB [0,1,2,3,4,5,6,7] ?_;(iterate 8 (refine tk1 (oi:=?_) (v:=?_) (by kernel_rfl) (by first | exact hSn | exact hHeld) ?_ ?_ ?_ ?_ ?_;rotate_left 2;(simp only [xgA,xgB,xgC];rfl);rfl;(intro wS hSw;obtain ⟨⟨S1,S2,S3,S4⟩,S5⟩:=hSw;go_simp;try with_reducible rfl);(exact fun _ _ _ h=>h);(try simp only [Act.put,xgD,xgE,xgF])));refine tkE ?_);((refine qaa 8 (o:=?_) (by kernel_rfl) ?_ ?_;rotate_left 1;(simp only [xgA,xgB,xgC];rfl);intro K hK);go_simp;(refine (qer (M:=fun b=>Mx M w.heap.size (w.heap.size+2) b∨b=g) ((q:Int)+1) _ HMW.out (by omega) (by omega)).mono ?_);rintro e_ u1 ⟨e0,e1,rfl,hi,ed1⟩;go_wp2_with (fail);(try clear hSn);(have hSn:=hHeld.ext ed1);(refine hK.out _ _ (fun _=>hSn) ?_);clear hK K;(try simp only [Act.put,xgD,xgE,xgF]));obtain ⟨ib,ia,il,ip,rfl,rfl⟩:=hi.form;((refine qaa 9 (o:=?_) (by kernel_rfl) ?_ ?_;rotate_left 1;(simp only [xgA,xgB,xgC];rfl);intro K hK);go_simp;(refine (C9.out _ ib ia il ip (ed1) hi.toV).mono ?_);rintro e_ u2 ⟨v,rfl,hv,ed2⟩;go_wp2_with (fail);(try clear hSn);(have hSn:=hHeld.ext (ed1.trans ed2));(refine hK.out _ _ (fun _=>hSn) ?_);clear hK K;(try simp only [Act.put,xgD,xgE,xgF]));(refine tkB [10] ?_;(iterate 1 (refine tk1 (oi:=?_) (v:=?_) (by kernel_rfl) (by first | exact hSn | exact hHeld) ?_ ?_ ?_ ?_ ?_;rotate_left 2;(simp only [xgA,xgB,xgC];rfl);rfl;(intro wS hSw;obtain ⟨⟨S1,S2,S3,S4⟩,S5⟩:=hSw;go_simp;try with_reducible rfl);(exact fun _ _ _ h=>h);(try simp only [Act.put,xgD,xgE,xgF])));refine tkE ?_);have he4:=ed1.trans ed2;have hK4:=HK2.out.ext he4
    obtain ⟨⟨_,k0⟩,⟨_,k1⟩,⟨_,k2⟩,⟨_,k3⟩,hfr,hg4⟩:=hK4.at q (by omega);have hf0:=hfr (q*4);have hf1:=hfr (q*4+1);have hf2:=hfr (q*4+2);have hf3:=hfr (q*4+3)
    have HK5:Hid (qax (fun b=>Mx M w.heap.size (w.heap.size+2) b∨b=g) (set4 u2 g (q*4) (.int .i64 v.lv) (.bool v.b) (.slice v.a v.n v.p) (.slice v.ka v.kn v.kp)) 4 g (n+1) (fun i=>if i<q+1 then dvC J l i else ck J (i:Int) l)):=by
     refine (hK4.set (.inr rfl) q (by omega) hv).congr fun i _=>?_
     by_cases hik:i=q
     ·subst hik;rw [if_pos rfl,if_pos (by omega)];exact Sim.refl _
     ·rw [if_neg hik]
      by_cases h3:i<q
      ·rw [if_pos h3,if_pos (by omega)];exact Sim.refl _
      ·rw [if_neg h3,if_neg (by omega)];exact Sim.refl _
    have HE5:Hid (Ext w (set4 u2 g (q*4) (.int .i64 v.lv) (.bool v.b) (.slice v.a v.n v.p) (.slice v.ka v.kn v.kp))):=(HEW2.out.trans he4).set4 (by omega) _ _ _ _ _;have HB5:Hid (Blk (set4 u2 g (q*4) (.int .i64 v.lv) (.bool v.b) (.slice v.a v.n v.p) (.slice v.ka v.kn v.kp)) (w.heap.size+1) 33 4 (arr zA)):=(HBR2.out.ext he4).of_heap (qag _ _ _ _ _ _ _ _ (by omega))
    have HS5:Hid (w.heap.size+2<=(set4 u2 g (q*4) (.int .i64 v.lv) (.bool v.b) (.slice v.a v.n v.p) (.slice v.ka v.kn v.kp)).heap.size):=by show _<=_;rw [qaq];have:=he4.size;omega
    clear hK4 hfr hv hi ed1 ed2 he4 HK2 HEW2 HBR2 HYX HMW C9 hHeld hSn;((refine qaa 11 (o:=?_) (by kernel_rfl) ?_ ?_;rotate_left 1;(simp only [xgA,xgB,xgC];rfl);intro K hK);go_simp;(refine hK.out _ _ (fun h=>absurd rfl h) ?_);clear hK K;refine qac (by kernel_rfl) ?_ _);go_wp2
    go_roundw
    case rel=>exact ⟨q+1,HLT.out,by go_num,HK5,HE5,HB5,HS5.out⟩
    case measure=>have:=HLT.out;simp [intOf];omega
   ·obtain rfl:q=n:=by omega
    have hge : ¬ (q:Int)+1<(q:Int)+1:=by omega
    have hw:IntKind.i64.wrap ((q:Int)+1 - 1)=(q:Int):=by rw [IntKind.wrap_i64];omega
    have hgM : ¬ (Mx M w.heap.size (w.heap.size+2)) g:=fun h=>by
     have h2:=HM.out _ h;simp only [World.size_alloc] at h2;omega
    have hkr:=(HKK.out.take (M':=Mx M w.heap.size (w.heap.size+2)) (n:=q) (fun b hb=>.inl (.inl hb)) hgM (by omega) (by omega)).congr (Q:=dvC J l) (fun i hi=>by rw [if_pos hi];exact Sim.refl _)
    have HMW:Hid (Mb (Mx M w.heap.size (w.heap.size+2)) wr):=fun b hb=>by
     have h2:=HM.out b hb;simp only [World.size_alloc] at h2;omega
    have CJ:=Lib.hid (qjA (L:=J) (S:=B) (A:=91) wr HMW.out hkr HK.out.1 HK.out.2 (fun i _=>qoL (qia HK.out.1 HK.out.2 HDB.out) _) (Nat.le_trans (Nat.mul_le_mul_right _ (show q<=B+1 by have:=hnBB.out;omega)) HB5.out) (by have:=HB2.out;have:=hnBB.out;omega) (fun i hi=>qsL HR.out i (by omega)) (by omega));have hgl2:=HKK.out.lt;clear hkr hgM HKK HMW HB2 HB5 HDB HR hlt;go_wp2_with (fail);refine CJ.out.mono ?_;rintro e w2 ⟨y,rfl,hy,he2⟩;obtain ⟨⟨q0,q1,q2,q3⟩,⟨f0,f1,f2,f3⟩,⟨r0,r1,r2,r3⟩,HF⟩:=qbR (M:=M) (w:=w) (L:=4) (y:=y) (HBR.out.ext he2) (Mx.at (by omega)) (by omega) (HEW.out.trans he2) hy Mx.sub;have HF2:=Lib.hid (HF.out.ld (R:=qtd l J) (.inr ⟨HZ.out,J,q,rfl,HK.out.1,HK.out.2,HD.out,rfl⟩));clear HF HBR hy he2 CJ HEW;go_wp2;exact bodyPost_ret (v:=.agg (peA y)) (by simp [results,Tryz.results115,go_sem,r0,r1,r2,r3]) rfl HF2.out
end Go.Proofs.YtmcfpnmoklnhoaaGreat
