/- pseudo.exact: two polynomials with the same main variable. pseudo.exact. pseudo.refuse of one polynomial. pseudo.Exact. pseudo.Divides. -/
import Derived.Test.YtmcfpnmoklnhoaaGreatBd
set_option linter.unusedVariables false
set_option maxRecDepth 100000
set_option maxHeartbeats 400000000
set_option linter.unusedSimpArgs false

namespace Go.Proofs.YtmcfpnmoklnhoaaGreat
open Go.RowKit

theorem qdp.no {M M' : Nat -> Prop} {w W : World} {L A g : Nat} {l r : List Tm} (hB : Blk W g 33 4 (arr zA)) (hg : M' g) (hw : w.heap.size <= g) (he : Ext w W) (hm : ∀ g, M g -> M' g) (hn : ¬ Dv r l) :
  (∃ q0 q1 q2 q3,W.cell? ⟨g,0,none⟩=some q0/\W.cell? ⟨g,1,none⟩=some q1/\W.cell? ⟨g,2,none⟩=some q2/\W.cell? ⟨g,3,none⟩=some q3):=by
 exact ⟨_,_,_,_,hB.cell (by omega),hB.cell (by omega),hB.cell (by omega),hB.cell (by omega)⟩
theorem qaz.low {M:Nat->Prop} {w:World} {D g N:Nat} {P:Nat->List Tm} (h:qaz M w D g N P) : ∃ T:Nat->List Tm,∀ i,i<N->Sim (T i) (P i)/\Low D (T i):=
 qjC [] (n:=N) (Q:=fun i T=>Sim T (P i)/\Low D T) fun i hi=>by
  obtain ⟨y,_,h2⟩:=h.cells i hi;exact h2.lowE
theorem ExR.ext {M:Nat->Prop} {w w':World} {L A:Nat} {l r:List Tm} {v:PE} {ok:Bool} (h:ExR M L l r A v ok w) (he:Ext w w'):ExR M L l r A v ok w':=⟨fun ho=>by
 obtain ⟨q,h1,h2⟩:=h.1 ho
 exact ⟨q,h1.ext he,h2⟩,h.2⟩
theorem ExR.kp {M:Nat->Prop} {w w':World} {L A:Nat} {l r:List Tm} {v:PE} {ok:Bool} (h:ExR M L l r A v ok w) (he:Kp M w w'):ExR M L l r A v ok w':=⟨fun ho=>by
 obtain ⟨q,h1,h2⟩:=h.1 ho
 exact ⟨q,h1.kp he,h2⟩,h.2⟩
theorem ExR.more {M M':Nat->Prop} {w:World} {L A:Nat} {l r:List Tm} {v:PE} {ok:Bool} (h:ExR M L l r A v ok w) (hm : ∀ g,M' g->M g∨w.heap.size<=g):ExR M' L l r A v ok w:=⟨fun ho=>by
 obtain ⟨q,h1,h2⟩:=h.1 ho
 exact ⟨q,h1.more hm,h2⟩,h.2⟩
def S26 (s:Nat) (v3:Value) (g o:Nat) (d:PE) (b o2:Nat) (c:PE) (gc:Nat) (v:PE) (w:World):Prop:=w.cell? ⟨s,3,none⟩=some v3/\qaI w g o d/\qaI w b o2 c/\P4 w gc v
theorem S26.ext {s:Nat} {v3:Value} {g o:Nat} {d:PE} {b o2:Nat} {c:PE} {gc:Nat} {v:PE} {w w':World} (h:S26 s v3 g o d b o2 c gc v w) (hs:s<w.heap.size) (hg:g<w.heap.size) (hb:b<w.heap.size) (hgc:gc<w.heap.size) (he:Ext w w'):S26 s v3 g o d b o2 c gc v w':=⟨by rw [he.cell hs];exact h.1,h.2.1.ext hg he,h.2.2.1.ext hb he,by
 have h4:=h.2.2.2;unfold P4 at h4 ⊢
 rw [he.cell hgc,he.cell hgc,he.cell hgc,he.cell hgc];exact h4⟩
theorem qaz.pre {M M':Nat->Prop} {w:World} {D g N c:Nat} {P:Nat->List Tm} (h:qaz M w D g c P) (hm : ∀ g,M' g->M g∨w.heap.size<=g) (hg : ¬ M' g) (hN:N<=1099511627776) (hc:N<=c) (hcm:c<=maxLen):qa7 M' w D (.slice (some ⟨g,0,none⟩) N c) N P:=by
 have hlt:g<w.heap.size:=by
  obtain ⟨f,hB,_⟩:=h;exact hB.lt
 exact ⟨hN,.inr ⟨g,0,c,rfl,hc,hcm,⟨hlt,hg⟩,fun i hi=>h.kid hm i (by omega)⟩⟩
def S19 (s:Nat) (v3:Value) (g o:Nat) (d:PE) (b o2:Nat) (c:PE) (w:World):Prop:=w.cell? ⟨s,3,none⟩=some v3/\qaI w g o d/\qaI w b o2 c
theorem S19.ext {s:Nat} {v3:Value} {g o:Nat} {d:PE} {b o2:Nat} {c:PE} {w w':World} (h:S19 s v3 g o d b o2 c w) (hs:s<w.heap.size) (hg:g<w.heap.size) (hb:b<w.heap.size) (he:Ext w w'):S19 s v3 g o d b o2 c w':=⟨by rw [he.cell hs];exact h.1,h.2.1.ext hg he,h.2.2.ext hb he⟩
def qrh (M1:Nat->Prop) (W:World) (L:Nat) (l r:List Tm) (A:Nat) (s12 s13:Value) (wx:World):Prop:=∃ (g:Nat) (v:PE) (ok:Bool),s12 = .pointer (some ⟨g,0,none⟩)/\s13 = .bool ok/\P4 wx g v/\g<wx.heap.size/\W.heap.size<=g/\ExR M1 L l r A v ok wx/\Ext W wx
theorem qiT (C G E : Nat) (hE4 : E + 1 <= 4) (ih : qpy C G E) (M : Nat -> Prop) (l r : List Tm) (x y : PE) (B A : Nat) (w : World) (hM : Mb M w) (h : CRx M w (E + 1) x l) (hl : x.lv = (E : Int) + 1) (hy : CRx M w 4 y r) (hyl : y.lv = x.lv) (hz : ¬ Sim r []) (hB : Deg B l) (hC : Deg C r) (hA : dlen (nrm l) <= A) (hG : dlen (nrm r) <= G) (hO : OkB C (E + 1) B) (hS : A + qX C (E + 1) B * (G + 2) <= 549755813888) :
  Calls Tryz.prog 67 #[.agg (peA x),.agg (peA y)] w (qdp M w (E+1) l r (A+qX C (E+1) B*(G+2))):=by
 obtain ⟨i0,hi,hz0,hz1,hz2⟩:=info_parts Tryz.info33;obtain ⟨hE0,hX0,hY0,hB0,hM0⟩:=qks hM x y;have CZ:=Lib.hid (qa8 _ x l _ hM0 (((h.more (M':=Mx M w.heap.size (w.heap.size+3)) (Mx.more (Nat.le_refl _))).ext hE0).pi));obtain ⟨E1,b,off,P,hlv,hE4',hEL,hb0,hn0,hka,hn2,hnL,hnc,hcm,hb,hMb,hlow,hnz,hsim,hnr,hkid⟩:=h.node (by omega)
 obtain rfl:E1=E:=by omega
 have hlz : ¬ Sim l []:=fun hs=>hnz (qh3 hE4 hlow (fun i _ t ht=>by cases ht) ((hsim.trans hs).trans (qcW (L:=E1+1) (n:=x.kn) (P:=fun _=>[]) fun i _=>Sim.refl _).symm) (x.kn - 1) (by omega));have HLZ:=Lib.hid hlz;obtain ⟨D,b2,off2,Gk,hlv2,_,_,hb02,hn02,hka2,hn22,hnL2,hnc2,hcm2,hb2,hMb2,hlow2,hnz2,hsim2,hnr2,hkid2⟩:=hy.node (by omega)
 obtain rfl:D=E1:=by omega
 have hdn:=qbx hE4 (by omega) hlow hnz (hB.sim hsim.symm);have hdn2:=qbx hE4 (by omega) hlow2 hnz2 (hC.sim hsim2.symm);have hNr:NN r:=hy.nn;obtain ⟨n,hn⟩ : ∃ n,y.kn=n+1:=⟨y.kn - 1,by omega⟩;rw [hn] at hlow2 hsim2 hnr2 hkid2 hdn2 hnz2 hnc2 hnL2 hn22;rw [Nat.add_sub_cancel] at hnz2
 have hlvE:y.lv=(D:Int)+1:=by omega
 obtain ⟨xx,hxx⟩:=qjC PE.z (n:=x.kn) (Q:=fun i c=>qaI w b (off+i*4) c/\CRx M w D c (P i)) (fun i hi=>by obtain ⟨c,h1,h2,_⟩:=hkid i hi;exact ⟨c,h1,h2⟩);obtain ⟨yy,hyy⟩:=qjC PE.z (n:=n+1) (Q:=fun i c=>qaI w b2 (off2+i*4) c/\CRx M w D c (Gk i)) (fun i hi=>by obtain ⟨c,h1,h2,_⟩:=hkid2 i hi;exact ⟨c,h1,h2⟩);have HXX:=Lib.hid hxx;have HYY:=Lib.hid hyy
 -- the end of a division that fails at once
 have HND:Hid (x.kn<=n -> ¬ Dv r l):=fun hle hd=>by
  obtain ⟨q,hq,hs⟩:=hd;have:=qoR hE4 hlow2 hnz2 (hNr.sim hsim2.symm) hq hle hlow ((hsim2.pmul_right q).trans (hs.trans hsim.symm));exact hlz (hsim.symm.trans this)
 have HGL:=Lib.hid hlow2;have HGZ:=Lib.hid hnz2;have HGS:=Lib.hid hsim2;have HNR:=Lib.hid hNr;have HGD:Hid (∀ i,i<n+1->Deg C (Gk i)/\dlen (nrm (Gk i))<=G):=fun i hi=>⟨hdn2.2 i hi,Nat.le_trans (qah (Nat.le_trans (qa0 (D+1) (n+1) Gk i hi) hnr2)) hG⟩;have HPD:Hid (∀ i,i<x.kn->Deg B (P i)/\dlen (nrm (P i))<=A):=fun i hi=>⟨hdn.2 i hi,Nat.le_trans (qah (Nat.le_trans (qa0 (D+1) x.kn P i hi) hnr)) hA⟩;have HPS:=Lib.hid hsim;have hkB:=hdn.1;have HMM:=Lib.hid hM;have HO:=Lib.hid hO;have HS1:=Lib.hid hS;have HIH:=Lib.hid ih;obtain ⟨x0,x1,x2,x3⟩:=hX0;obtain ⟨y0,y1,y2,y3⟩:=hY0
 have hsz0:w.heap.size+3=((((w.alloc (.cells (peA x) 33)).alloc (.cells (peA y) 33)).alloc (.cells zA 33))).heap.size:=by simp
 generalize hW:((w.alloc (.cells (peA x) 33)).alloc (.cells (peA y) 33)).alloc (.cells zA 33)=W at *;have HW:=Lib.hid hW;have HE:=Lib.hid hE0;have HS:Hid (SP2 w.heap.size x y W):=⟨⟨x0,x1,x2,x3⟩,⟨y0,y1,y2,y3⟩⟩;have HB0:=Lib.hid hB0;clear hE0 hB0 hM0 h hl hy hyl hz hB hC hA hG hO hS ih hlow hnz hsim hnr hkid hdn hNr hW hM hlz hxx hyy hlow2 hnz2 hsim2 hnr2 hkid2 hdn2;clear x0 x1 x2 x3 y0 y1 y2 y3;obtain ⟨⟨x0,x1,x2,x3⟩,⟨y0,y1,y2,y3⟩⟩:=HS.out;have HLV:=Lib.hid hlv;have HLVE:=Lib.hid hlvE;have HKA:=Lib.hid hka;have HKA2:=Lib.hid hka2;have HN:=Lib.hid hn;clear hlv hlvE hka hka2 hn hlv2 hb0 hn0 hb02 hn02
 go_enter Tryz.func67,Tryz.ntmps67
 go_upto_region 1 with (fail)
 rw [HW.out];go_wp2_with (fail);refine CZ.out.mono ?_;rintro e w1 ⟨bz,rfl,hbz,he1⟩
 obtain rfl:bz=false:=by
  cases bz with
  | false=>rfl
  | true=>exact absurd (hbz.1 rfl) HLZ.out
 have HE1:=Lib.hid (HE.out.trans he1);have HSS:=Lib.hid (HS.out.ext he1);have HB1:=Lib.hid (HB0.out.ext he1)
 have hs1:w.heap.size+3<=w1.heap.size:=by have:=he1.size;omega
 clear x0 x1 x2 x3 y0 y1 y2 y3 HE HS HB0 HW he1 hbz CZ;obtain ⟨⟨x0,x1,x2,x3⟩,⟨y0,y1,y2,y3⟩⟩:=HSS.out;rw [HLV.out] at x0;rw [HLVE.out] at y0;rw [HKA.out] at x3;rw [HKA2.out,HN.out] at y3
 have hD0:((D:Int)+1 == 0)=false:=by simp;omega
 have hks:W.heap.size=w.heap.size+3:=hsz0.symm;clear hsz0
 go_upto_region 11 with (fail)
 by_cases hle:x.kn<=n
 ·have hND:=HND.out hle
  have hle':(x.kn:Int)<=n:=by omega
  obtain ⟨⟨q0,q1,q2,q3⟩,⟨f0,f1,f2,f3⟩,⟨r0,r1,r2,r3⟩,HF⟩:=qcu (M:=M) (M':=Mx M w.heap.size (w.heap.size+3)) (w:=w) (L:=0) (l:=[]) (y:=PE.z) HB1.out (Mx.at (by omega)) (by omega) HE1.out (CR.zero _ _ 0) Mx.sub;have HF2:=Lib.hid (HF.exF (L:=D+1) (A:=A+qX C (D+1) B*(G+2)) hND);simp only [PE.z] at r0 r1 r2 r3
  have hw2:w.heap.size+2<w1.heap.size:=by omega
  clear HF HXX HYY HND HGL HGZ HGS HNR HGD HPD HPS HO HS1 HIH;go_wp2;exact bodyPost_ret (v:=.tuple #[.agg (peA PE.z),.bool false]) (by simp [results,Tryz.results67,go_sem,r0,r1,r2,r3,PE.z]) rfl HF2.out
 obtain ⟨V,hK⟩ : ∃ V,x.kn=n+V:=⟨x.kn - n,by omega⟩
 have hK1:1<=V:=by omega
 have HKN:=Lib.hid hK
 have hle' : ¬ ((n+V:Nat):Int)<=n:=by omega
 rw [hK] at x3 hnc hnL hkB;have HXC:Hid (∀ i,i<n+V->qaI w b (off+i*4) (xx i)/\CRx M w D (xx i) (P i)):=fun i hi=>HXX.out i (by omega)
 have HPS2:Hid (Sim (poly (D+1) (n+V) P) l):=by show Sim _ _;rw [<- hK];exact HPS.out
 have HPD2:Hid (∀ i,i<n+V->Deg B (P i)/\dlen (nrm (P i))<=A):=fun i hi=>HPD.out i (by omega);clear HXX HPS HPD HND hle hn2 hK
 go_wp2_with (first | (refine wpList_make_full _ rfl _ _ _ rfl w1.heap.size 33 i0 (.agg #[.int .i64 0,.bool false,.slice none 0 0,.slice none 0 0]) 4 Tryz.underlying31 hi hz0 hz1 .i64 .i64 _ _ (n+V) rfl rfl ?c4 ?c5 ?c2 ?c3 ?c6 ?_))
 case c2=>first | (rw [hz2];omega) | omega
 try (case c3=>first | omega | (unfold maxLen;omega))
 try (case c4=>simp)
 try (case c5=>simp)
 try (case c6=>omega)
 intro w2 hown hgrow;have hBk:=(Blk.made hown rfl (by omega)).congr (f':=zc4) (fun i _=>qb8 i);have he2:=qaE hgrow;have HEX2:=Lib.hid (HE1.out.trans he2);have HB2:=Lib.hid (HB1.out.ext he2);have HSS2:=Lib.hid (HSS.out.ext he2);have hs2:w1.heap.size<w2.heap.size:=hBk.lt;have hgz : ∃ g1,g1=w1.heap.size:=⟨_,rfl⟩;obtain ⟨g1,hg1⟩:=hgz;rw [<- hg1] at hBk hs2 ⊢
 have hs3:w.heap.size+3<=g1:=by omega
 clear hg1 hown hgrow he2 HB1 HSS HE1 x0 x1 x2 x3 y0 y1 y2 y3;obtain ⟨⟨x0,x1,x2,x3⟩,⟨y0,y1,y2,y3⟩⟩:=HSS2.out;rw [HLV.out] at x0;rw [HLVE.out] at y0;rw [HKA.out,HKN.out] at x3;rw [HKA2.out,HN.out] at y3;have hKC : ∀ j,j<(n+V)*4->w2.cell? ⟨b,off+j,none⟩=some (px xx j):=qnL fun i hi=>(HXC.out i hi).1.ext hb HEX2.out
 have hsz4:(Tryz.prog.info? 33).map (·.size)=some 4:=by rw [hi];simp [hz1]
 go_wp2_with (first | (refine qdE rfl (.tmp 67) (.tmp 69) _ _ rfl 33 Tryz.underlying31 4 hsz4 (n+V) (n+V) x.kp g1 b off rfl rfl 33 zc4 hBk (px xx) hKC (fun j _=>qrz xx j) ?_))
 intro w3 hB3 hg3;have hE3:Ext w w3:=HEX2.out.grown hg3 (fun k hk=>by cases hk;omega);have hB03:=HB2.out.grown hg3 (by intro e;cases e;omega);have hSS3:SP2 w.heap.size x y w3:=⟨qar HSS2.out.1 (hg3.block _ (by omega) (by intro e;cases e;omega)),qar HSS2.out.2 (hg3.block _ (by omega) (by intro e;cases e;omega))⟩;have hs4:=hg3.size;have HKR:Hid (∀ m,qaz (Mx M w.heap.size m) w3 D g1 (n+V) P):=fun m=>qaz.of_px hB3 (fun j hj=>by unfold qfP;rw [if_pos (by omega),Nat.sub_zero]) (fun i hi=>((HXC.out i hi).2.more (Mx.more (Nat.le_refl _))).ext hE3);have HE3:=Lib.hid hE3;have HB3:=Lib.hid hB03;have HSS3:=Lib.hid hSS3
 have hs5:g1<w3.heap.size:=by omega
 clear hE3 hB03 hSS3 hB3 hg3 hKC hBk HEX2 HB2 HSS2 x0 x1 x2 x3 y0 y1 y2 y3 hs2 hs4 HXC;obtain ⟨⟨x0,x1,x2,x3⟩,⟨y0,y1,y2,y3⟩⟩:=HSS3.out;rw [HLV.out] at x0;rw [HLVE.out] at y0;rw [HKA.out,HKN.out] at x3;rw [HKA2.out,HN.out] at y3
 have hKe:(n:Int)+V - n=V:=by omega
 go_upto_region 15 with (fail)
 go_wp2_with (first | (refine wpList_make_full _ rfl _ _ _ rfl w3.heap.size 33 i0 (.agg #[.int .i64 0,.bool false,.slice none 0 0,.slice none 0 0]) 4 Tryz.underlying31 hi hz0 hz1 .i64 .i64 _ _ V rfl rfl ?d4 ?d5 ?d2 ?d3 ?d6 ?_))
 try (case d2=>first | (rw [hz2];omega) | omega)
 try (case d3=>first | omega | (unfold maxLen;omega))
 try (case d4=>first | omega | simp)
 try (case d5=>first | omega | simp)
 try (case d6=>omega)
 intro w4 hown hgrow;have hBk4:=(Blk.made hown rfl (by omega)).congr (f':=zc4) (fun i _=>qb8 i);have he4:=qaE hgrow;have hs6:w3.heap.size<w4.heap.size:=hBk4.lt;obtain ⟨g2,hg2⟩ : ∃ g2,g2=w3.heap.size:=⟨_,rfl⟩;rw [<- hg2] at hBk4 hs6 ⊢
 have hs7:g1<g2:=by omega
 have HKA4:Hid (qaz (Mx M w.heap.size (g2+1)) w4 D g1 (n+V) P):=(HKR.out _).ext he4
 have HKQ4:Hid (qaz (Mx M w.heap.size (g2+1)) w4 D g2 V (fun i=>if V<=i then [] else [])):=(qaz.fresh hBk4).congr fun i _=>by rw [if_neg (by omega)];exact Sim.refl _
 have HE4:=Lib.hid (HE3.out.trans he4);have HB4:=Lib.hid (HB3.out.ext he4);have HSS4:=Lib.hid (HSS3.out.ext he4);have HDV4:Hid (DvT D n V B C A (qX C D (inB B C)) G l r V P (fun _=>[])):=DvT.start HPS2.out HPD2.out;clear hg2 he4 hBk4 hown hgrow HKR HE3 HB3 HSS3 hs5 HPS2 HPD2 x0 x1 x2 x3 y0 y1 y2 y3 hKe hle' hi hz0 hz1 hz2 hsz4
 have HNUM:Hid (∀ s,s<=B->B+s*C+C<=inB B C/\A+s*((qX C D (inB B C)+1)*(G+2))+qX C D (inB B C)*(G+2)+G+4<=549755813888):=fun s hs=>by
  have h1:=HS1.out;have h2:=Nat.mul_le_mul_right C (show s+1<=B+1 by omega);simp only [qX] at h1;generalize qX C D (inB B C)=X at *
  have h3:((B+2)*(X+1)+3)*(G+2)=(B+2)*((X+1)*(G+2))+3*(G+2):=by rw [Nat.add_mul,Nat.mul_assoc]
  have h4:(X+1)*(G+2)=X*(G+2)+(G+2):=by rw [Nat.add_mul,Nat.one_mul]
  have h5:=Nat.mul_le_mul_right ((X+1)*(G+2)) (show s+2<=B+2 by omega);rw [Nat.add_mul s 2] at h5;rw [Nat.add_mul s 1,Nat.one_mul] at h2;unfold inB;omega
 have hVB:V<=B+1:=by omega
 go_wp2
 go_loopw [11] (fun i wr=>∃ (k:Nat) (R Q:Nat->List Tm),k<=V/\i = .int .i64 ((k:Int) - 1)/\g2<wr.heap.size/\Hid (qaz (Mx M w.heap.size (g2+1)) wr D g1 (n+V) R)/\Hid (qaz (Mx M w.heap.size (g2+1)) wr D g2 V (fun i=>if k<=i then Q i else []))/\Hid (DvT D n V B C A (qX C D (inB B C)) G l r k R Q)/\Hid (Ext w wr)/\Hid (SP2 w.heap.size x y wr)/\Hid (Blk wr (w.heap.size+2) 33 4 (arr zA))) (fun i _=>(intOf i+1).toNat)
 case atStart=>exact ⟨V,P,fun _=>[],Nat.le_refl _,by go_num,by omega,HKA4,HKQ4,HDV4,HE4,HSS4,HB4⟩
 case round=>
  clear HKA4 HKQ4 HDV4 HE4 HSS4 HB4;obtain ⟨k,R,Q,hk,rfl,hgs,HKR,HKQ,HDV,HEW,HSW,HBR⟩:=hrel
  by_cases hk0:k=0
  ·subst hk0;have hd0:V*C<=(B+1)*C:=Nat.mul_le_mul_right C hVB
   have hd1:B+(V - 0)*C<=inB B C:=by rw [Nat.sub_zero];unfold inB;omega
   have hd2:A+(V - 0)*((qX C D (inB B C)+1)*(G+2))+2<=A+qX C (D+1) B*(G+2):=by
    have h5:=Nat.mul_le_mul_right ((qX C D (inB B C)+1)*(G+2)) hVB;simp only [qX,Nat.sub_zero];generalize qX C D (inB B C)=X at *
    have h3:((B+2)*(X+1)+3)*(G+2)=(B+2)*((X+1)*(G+2))+3*(G+2):=by rw [Nat.add_mul,Nat.mul_assoc]
    have h6:(B+2)*((X+1)*(G+2))=(B+1)*((X+1)*(G+2))+(X+1)*(G+2):=by rw [show B+2=(B+1)+1 by omega,Nat.add_mul,Nat.one_mul]
    omega
   have hs1:=HS1.out;have hok:=HO.out.1;have hM3:Mb (Mx M w.heap.size (w.heap.size+3)) wr:=Mx.mb HMM.out HEW.out.size (by omega);have hkr:qa7 (Mx M w.heap.size (w.heap.size+3)) wr D (.slice (some ⟨g1,0,none⟩) n (n+V)) n R:=HKR.out.pre (fun g hg=>.inl (hg.imp id fun h=>by omega)) (fun hh=>hh.elim (HMM.out.new (by omega)) (by omega)) (by omega) (by omega) (by unfold maxLen;omega);have CJ1:=Lib.hid (qfg (S:=inB B C) (A:=A+(V - 0)*((qX C D (inB B C)+1)*(G+2))) wr.drew (hM3.ext (Ext.refl wr).drew) (hkr.ext (Ext.refl wr).drew) hE4 (fun i hi=>(HDV.out.2.1 i (by omega)).1.mono hd1) (by unfold inB;omega) hok.2.1 hok.1 (fun i hi=>(HDV.out.2.1 i (by omega)).2) (by omega));have CIZ:Hid (∀ (z:PE) (W:World),CRx (Mx M w.heap.size (w.heap.size+3)) W (D+1) z (poly (D+1) n R)->Ext wr.drew W->Calls Tryz.prog 72 #[.agg (peA z)] W (fun e w'=>∃ b:Bool,e = .returned (.bool b)/\(b=true↔Sim (poly (D+1) n R) [])/\Ext W w')):=fun z W hz he=>qa8 _ z _ W ((hM3.ext (Ext.refl wr).drew).ext he) hz.pi
   have hkr2:qa7 (Mx M w.heap.size (w.heap.size+3)) wr D (.slice (some ⟨g2,0,none⟩) V V) V Q:=(HKQ.out.pre (fun g hg=>.inl (hg.imp id fun h=>by omega)) (fun hh=>hh.elim (HMM.out.new (by omega)) (by omega)) (by omega) (Nat.le_refl _) (by unfold maxLen;omega)).congr fun i _=>by rw [if_pos (Nat.zero_le _)];exact Sim.refl _
   have CJ2:Hid (∀ W,Ext wr W->Calls Tryz.prog 62 #[.slice (some ⟨g2,0,none⟩) V V,.int .i64 ((D:Int)+1)] W (qa4 (Mx M w.heap.size (w.heap.size+3)) W (D+1) (poly (D+1) V Q))):=fun W he=>qfg (S:=inB B C) (A:=A+(V - 0)*((qX C D (inB B C)+1)*(G+2))) W (hM3.ext he) (hkr2.ext he) hE4 (fun i hi=>(HDV.out.2.2 i (Nat.zero_le _) hi).2.1.mono hd1) (by unfold inB;omega) hok.2.1 hok.1 (fun i hi=>(HDV.out.2.2 i (Nat.zero_le _) hi).2.2) (by omega);have HDL:Hid (dlen (nrm (poly (D+1) V Q))<=A+qX C (D+1) B*(G+2)):=Nat.le_trans (qgy (A:=A+(V - 0)*((qX C D (inB B C)+1)*(G+2))) (by omega) fun i hi=>(HDV.out.2.2 i (Nat.zero_le _) hi).2.2) hd2;obtain ⟨T,hT⟩:=HKR.out.low;have HYES:Hid (Sim (poly (D+1) n R) []->Sim (pmul (poly (D+1) V Q) r) l):=HDV.out.end_yes;have HNO:Hid (¬ Sim (poly (D+1) n R) [] -> ¬ Dv r l):=HDV.out.end_no hE4 HGL.out HGZ.out HGS.out HNR.out (fun i hi=>hT i (by omega))
   have hx0:wr.drew.cell? ⟨w.heap.size,0,none⟩=some (.int .i64 ((D:Int)+1)):=by
    have:=HSW.out.1.1;rw [HLV.out] at this;exact this
   have HX0:=Lib.hid hx0
   have hw0:w.heap.size<wr.drew.heap.size:=by have:=(Ext.refl wr).drew.size;omega
   have hwr:w.heap.size+2<wr.heap.size:=by omega
   have hnv:(n:Int)<=(n:Int)+(V:Int):=by omega
   clear hd0 hd1 hd2 hs1 hok hM3 hkr hkr2 hT hx0 HDV HKR HKQ HYY HGL HGZ HGS HNR HGD HO HS1 HIH HNUM
   go_upto_region 28 with (fail)
   refine qae (fun w'=>w'.cell? ⟨w.heap.size,0,none⟩=some (.int .i64 ((D:Int)+1))) 7 (by kernel_rfl) HX0.out (fun hHeld=>?_);((refine qaS 0 (oi:=?_) (v:=?_) (by kernel_rfl) (by kernel_rfl) (by kernel_rfl) (by kernel_rfl) (by kernel_rfl) (by first | exact hSn | exact hHeld) ?_ ?_ ?_ ?_ ?_;rotate_left 2;(simp only [xgA,xgB,xgC];rfl);rfl;(intro wS hSw;obtain S1:=hSw;go_simp;try with_reducible rfl);(exact fun _ _ _ h=>h);(try simp only [Act.put,xgD,xgE,xgF]));(refine qaS 1 (oi:=?_) (v:=?_) (by kernel_rfl) (by kernel_rfl) (by kernel_rfl) (by kernel_rfl) (by kernel_rfl) (by first | exact hSn | exact hHeld) ?_ ?_ ?_ ?_ ?_;rotate_left 2;(simp only [xgA,xgB,xgC];rfl);rfl;(intro wS hSw;obtain S1:=hSw;go_simp;try with_reducible rfl);(exact fun _ _ _ h=>h);(try simp only [Act.put,xgD,xgE,xgF]));(refine qaS 2 (oi:=?_) (v:=?_) (by kernel_rfl) (by kernel_rfl) (by kernel_rfl) (by kernel_rfl) (by kernel_rfl) (by first | exact hSn | exact hHeld) ?_ ?_ ?_ ?_ ?_;rotate_left 2;(simp only [xgA,xgB,xgC];rfl);rfl;(intro wS hSw;obtain S1:=hSw;go_simp;try with_reducible rfl);(exact fun _ _ _ h=>h);(try simp only [Act.put,xgD,xgE,xgF]));(refine qaS 3 (oi:=?_) (v:=?_) (by kernel_rfl) (by kernel_rfl) (by kernel_rfl) (by kernel_rfl) (by kernel_rfl) (by first | exact hSn | exact hHeld) ?_ ?_ ?_ ?_ ?_;rotate_left 2;(simp only [xgA,xgB,xgC];rfl);rfl;(intro wS hSw;obtain S1:=hSw;go_simp;try with_reducible rfl);(exact fun _ _ _ h=>h);(try simp only [Act.put,xgD,xgE,xgF]));(refine qaS 4 (oi:=?_) (v:=?_) (by kernel_rfl) (by kernel_rfl) (by kernel_rfl) (by kernel_rfl) (by kernel_rfl) (by first | exact hSn | exact hHeld) ?_ ?_ ?_ ?_ ?_;rotate_left 2;(simp only [xgA,xgB,xgC];rfl);rfl;(intro wS hSw;obtain S1:=hSw;go_simp;try with_reducible rfl);(exact fun _ _ _ h=>h);(try simp only [Act.put,xgD,xgE,xgF])))
   (refine qaa 5 (o:=?_) (by kernel_rfl) ?_ ?_;rotate_left 1;(simp only [xgA,xgB,xgC];rfl);intro K hK);go_simp;refine CJ1.out.mono ?_;rintro e wz ⟨z,rfl,hz,he1⟩;go_wp2_with (fail)
   have hSn:wz.cell? ⟨w.heap.size,0,none⟩=some (.int .i64 ((D:Int)+1)):=by rw [he1.cell hw0];exact hHeld
   refine hK.out _ _ (fun _=>hSn) ?_;clear hK K;(try simp only [Act.put,xgD,xgE,xgF]);(refine qaa 6 (o:=?_) (by kernel_rfl) ?_ ?_;rotate_left 1;(simp only [xgA,xgB,xgC];rfl);intro K hK);go_simp;refine (CIZ.out z wz hz he1).mono ?_;rintro e wz2 ⟨bz,rfl,hbz,he2⟩;go_wp2_with (fail)
   have hSn2:wz2.cell? ⟨w.heap.size,0,none⟩=some (.int .i64 ((D:Int)+1)):=by rw [he2.cell (Nat.lt_of_lt_of_le hw0 he1.size)];exact hSn
   clear hSn;refine hK.out _ _ (fun _=>hSn2) ?_;clear hK K;(try simp only [Act.put,xgD,xgE,xgF]);((refine qaa 7 (o:=?_) (by kernel_rfl) ?_ ?_;rotate_left 1;(simp only [xgA,xgB,xgC];rfl);intro K hK);go_simp;(refine hK.out _ _ (fun h=>absurd rfl h) ?_);clear hK K;refine qac (by kernel_rfl) ?_ _);have he3:=(Ext.refl wr).drew.trans (he1.trans he2);have hBz:=HBR.out.ext he3;have hEz:=HEW.out.trans he3
   have hw3:w.heap.size+2<wz2.heap.size:=by have:=he3.size;omega
   cases bz with
   | false=>
    have HND:=Lib.hid (HNO.out fun hh=>by have:=hbz.2 hh;cases this);obtain ⟨⟨q0,q1,q2,q3⟩,⟨f0,f1,f2,f3⟩,⟨r0,r1,r2,r3⟩,HF⟩:=qcu (M:=M) (M':=Mx M w.heap.size (w.heap.size+3)) (w:=w) (L:=0) (l:=[]) (y:=PE.z) hBz (Mx.at (by omega)) (by omega) hEz (CR.zero _ _ 0) Mx.sub;have HF2:=Lib.hid (HF.exF (L:=D+1) (A:=A+qX C (D+1) B*(G+2)) HND.out);simp only [PE.z] at r0 r1 r2 r3;clear hHeld hSn2 HF HND HYES HNO HDL CJ1 CJ2 CIZ hz he1 he2 he3 hBz hEz hbz HX0 HEW HSW HBR;go_wp2;exact bodyPost_ret (v:=.tuple #[.agg (peA PE.z),.bool false]) (by simp [results,Tryz.results67,go_sem,r0,r1,r2,r3,PE.z]) rfl HF2.out
   | true=>
    have HSI:=Lib.hid (HYES.out (hbz.1 rfl));have CT:=Lib.hid (CJ2.out wz2 he3);have HBZ:=Lib.hid hBz;have HEZ:=Lib.hid hEz;clear hHeld HYES HNO CJ1 CJ2 CIZ hz he1 he2 he3 hBz hEz hbz HX0 HEW HSW HBR;go_wp2_with (fail);refine CT.out.mono ?_;rintro e w5 ⟨v,rfl,hv,he5⟩;obtain ⟨⟨q0,q1,q2,q3⟩,⟨f0,f1,f2,f3⟩,⟨r0,r1,r2,r3⟩,HF⟩:=qcu (M:=M) (w:=w) (HBZ.out.ext he5) (Mx.at (by omega)) (by omega) (HEZ.out.trans he5) hv Mx.sub;have HF2:=Lib.hid (HF.exT HSI.out HDL.out);clear HF he5 hv CT hSn2 HSI HDL HBZ HEZ;go_wp2;exact bodyPost_ret (v:=.tuple #[.agg (peA v),.bool true]) (by simp [results,Tryz.results67,go_sem,r0,r1,r2,r3]) rfl HF2.out
  ·obtain ⟨k,rfl⟩ : ∃ k',k=k'+1:=⟨k - 1,by omega⟩
   have hnk:n+k<n+V:=by omega
   have hkK:k<V:=by omega
   obtain ⟨d,hd1,hd2⟩:=HKR.out.cells (n+k) hnk;obtain ⟨hc1,hc2⟩:=HYY.out n (Nat.lt_succ_self n);have hbw:b2<wr.heap.size:=Nat.lt_of_lt_of_le hb2 HEW.out.size;have HS19:Hid (S19 (w.heap.size+1) (.slice (some ⟨b2,off2,none⟩) (n+1) y.kp) g1 ((n+k)*4) d b2 (off2+n*4) (yy n) wr.drew):=S19.ext ⟨by have:=HSW.out.2.2.2.2;rw [HKA2.out,HN.out] at this;exact this,hd1,hc1.ext hb2 HEW.out⟩ (by omega) (by omega) hbw (Ext.refl wr).drew;have hw1:IntKind.i64.wrap ((n:Int)+(k:Int))=(n:Int)+(k:Int):=IntWalk.i64_in _ (by omega)
   have hw2:(0:Int)<=(n:Int)+(k:Int):=by omega
   have hw3:((n:Int)+(k:Int)).toNat=n+k:=by omega
   have hw4:(n:Int)+(k:Int)<((n+V:Nat):Int):=by omega
   have hw5:(n:Int)<(n:Int)+1:=by omega
   have hMB:Mb (Mx M w.heap.size (g2+1)) wr:=Mx.mb HMM.out HEW.out.size (by omega)
   have HCALL:Hid (∀ (M':Nat->Prop) W,Mb M' W->(∀ g,M' g->Mx M w.heap.size (g2+1) g∨wr.heap.size<=g)->Ext wr W->Calls Tryz.prog 67 #[.agg (peA d),.agg (peA (yy n))] W (qdp M' W D (R (n+k)) (Gk n) (A+(V - (k+1))*((qX C D (inB B C)+1)*(G+2))+qX C D (inB B C)*(G+2)))):=fun M' W hMW hmore he=>by
    have hnu:=HNUM.out (V - (k+1)) (by omega);have hdv:=HDV.out.2.1 (n+k) (by omega);exact HIH.out M' (R (n+k)) (Gk n) d (yy n) (inB B C) _ W hMW ((hd2.more hmore).ext he) (((hc2.up (show D<=4 by omega)).more (M':=M') fun g hg=>(hmore g hg).elim (fun h=>h.elim .inl fun h=>.inr h.1) fun h=>.inr (Nat.le_trans HEW.out.size h)).ext (HEW.out.trans he)) HGZ.out (hdv.1.mono (by omega)) (HGD.out n (Nat.lt_succ_self n)).1 hdv.2 (HGD.out n (Nat.lt_succ_self n)).2 HO.out.2 (by omega)
   go_upto_region 19 with (fail)
   rw [show (((k+1:Nat):Int) - 1)=(k:Int) by omega]
   go_cut [12,13] from 84 to 98 (qrh (Mx M w.heap.size (g2+1)) wr.drew D (R (n+k)) (Gk n) (A+(V - (k+1))*((qX C D (inB B C)+1)*(G+2))+qX C D (inB B C)*(G+2)))
   case first=>
    refine qae (S19 (w.heap.size+1) (.slice (some ⟨b2,off2,none⟩) (n+1) y.kp) g1 ((n+k)*4) d b2 (off2+n*4) (yy n)) 17 (by kernel_rfl) HS19.out (fun hHeld=>?_);have hEd:Ext wr wr.drew:=(Ext.refl wr).drew;have hMd:Mb (Mx M w.heap.size (g2+1)) wr.drew:=hMB.ext hEd
    have hz1:w.heap.size+1<wr.drew.heap.size:=by have:=hEd.size;omega
    have hz2:g1<wr.drew.heap.size:=by have:=hEd.size;omega
    have hz3:b2<wr.drew.heap.size:=by have:=hEd.size;omega
    have hsd:wr.heap.size<=wr.drew.heap.size:=hEd.size;generalize wr.drew=wd at *;(refine tkB [0,1,2,3,4,5,6,7,8,9,10] ?_;(iterate 11 (refine tk1 (oi:=?_) (v:=?_) (by kernel_rfl) (by first | exact hSn | exact hHeld) ?_ ?_ ?_ ?_ ?_;rotate_left 2;(simp only [xgA,xgB,xgC];rfl);rfl;(intro wS hSw;obtain ⟨S0,⟨S1,S2,S3,S4⟩,S5,S6,S7,S8⟩:=hSw;go_simp;try with_reducible rfl);(exact fun _ _ _ h=>h);(try simp only [Act.put,xgD,xgE,xgF])));refine tkE ?_);(refine qaC 11 15 (oi:=?_) (oj:=?_) (by kernel_rfl) ?_ ?_ ?_ ?_;rotate_left 2;(simp only [xgA,xgB,xgC];rfl);(simp only [xgA,xgB,xgC];rfl);all_goals intro K hK)
    ·go_simp;refine (HCALL.out (Mx M w.heap.size (g2+1)) wd hMd (fun g hg=>.inl hg) hEd).mono ?_;rintro e wz ⟨v,ok,rfl,hR,he1⟩;go_wp2_with (fail);have hSn:=hHeld.ext hz1 hz2 hz3 he1;refine hK.out _ _ (fun _=>hSn) ?_;clear hK K;(try simp only [Act.put,xgD,xgE,xgF]);(refine tkB [12,13,14] ?_;(iterate 3 (refine tk1 (oi:=?_) (v:=?_) (by kernel_rfl) (by first | exact hSn | exact hHeld) ?_ ?_ ?_ ?_ ?_;rotate_left 2;(simp only [xgA,xgB,xgC];rfl);rfl;(intro wS hSw;obtain ⟨S0,⟨S1,S2,S3,S4⟩,S5,S6,S7,S8⟩:=hSw;go_simp;try with_reducible rfl);(exact fun _ _ _ h=>h);(try simp only [Act.put,xgD,xgE,xgF])));refine tkE ?_);(refine qaa 15 (o:=?_) (by kernel_rfl) ?_ ?_;rotate_left 1;(simp only [xgA,xgB,xgC];rfl);intro K hK);go_simp;have hSn2:=hSn.ext (Nat.lt_of_lt_of_le hz1 he1.size) (Nat.lt_of_lt_of_le hz2 he1.size) (Nat.lt_of_lt_of_le hz3 he1.size) ((Ext.refl wz).alloc (.cells zA 33));have hSn3:=hSn.ext (Nat.lt_of_lt_of_le hz1 he1.size) (Nat.lt_of_lt_of_le hz2 he1.size) (Nat.lt_of_lt_of_le hz3 he1.size) ((Ext.refl wz).alloc (.cells (peA v) 33));clear hSn;refine hK.out _ _ (fun _=>hSn2) ?_;clear hK K;(try simp only [Act.put,xgD,xgE,xgF]);(refine qaa 16 (o:=?_) (by kernel_rfl) ?_ ?_;rotate_left 1;(simp only [xgA,xgB,xgC];rfl);intro K hK);go_simp;refine hK.out _ _ (fun _=>hSn3) ?_;clear hK K;(try simp only [Act.put,xgD,xgE,xgF]);((refine qaa 17 (o:=?_) (by kernel_rfl) ?_ ?_;rotate_left 1;(simp only [xgA,xgB,xgC];rfl);intro K hK);go_simp;(refine hK.out _ _ (fun h=>absurd rfl h) ?_);clear hK K;refine qac (by kernel_rfl) ?_ _)
     go_wp2_with (fail)
     go_meet
     exact ⟨wz.heap.size,v,ok,rfl,rfl,(Blk.of_arr wz (peA v) 33 4 rfl).p4,by simp,he1.size,hR.ext ((Ext.refl wz).alloc _),he1.alloc _⟩
    ·go_simp;have hE9:Ext wd (wd.alloc (.cells zA 33)):=(Ext.refl _).alloc _;have hB9:=Blk.of_arr wd zA 33 4 rfl;have hSn:=hHeld.ext hz1 hz2 hz3 hE9;refine hK.out _ _ (fun _=>hSn) ?_;clear hK K;(try simp only [Act.put,xgD,xgE,xgF]);(refine qaa 11 (o:=?_) (by kernel_rfl) ?_ ?_;rotate_left 1;(simp only [xgA,xgB,xgC];rfl);intro K hK);go_simp;refine (HCALL.out (fun g=>Mx M w.heap.size (g2+1) g∨g=wd.heap.size) _ (fun g hg=>hg.elim (fun h=>Nat.lt_of_lt_of_le (hMd g h) hE9.size) (fun h=>by rw [h];exact hB9.lt)) (fun g hg=>hg.imp id (fun h=>by rw [h];exact hsd)) (hEd.trans hE9)).mono ?_;rintro e wz ⟨v,ok,rfl,hR,he1⟩;go_wp2_with (fail);clear hSn;have hSn:=hHeld.ext hz1 hz2 hz3 (hE9.trans he1);refine hK.out _ _ (fun _=>hSn) ?_;clear hK K;(try simp only [Act.put,xgD,xgE,xgF]);(refine tkB [12,13,14] ?_;(iterate 3 (refine tk1 (oi:=?_) (v:=?_) (by kernel_rfl) (by first | exact hSn | exact hHeld) ?_ ?_ ?_ ?_ ?_;rotate_left 2;(simp only [xgA,xgB,xgC];rfl);rfl;(intro wS hSw;obtain ⟨S0,⟨S1,S2,S3,S4⟩,S5,S6,S7,S8⟩:=hSw;go_simp;try with_reducible rfl);(exact fun _ _ _ h=>h);(try simp only [Act.put,xgD,xgE,xgF])));refine tkE ?_);obtain ⟨⟨q0,q1,q2,q3⟩,⟨f0,f1,f2,f3⟩,hrr,hkp,hext⟩:=qg3 (M':=fun g=>Mx M w.heap.size (g2+1) g∨g=wd.heap.size) (w:=wd) (.int .i64 v.lv) (.bool v.b) (.slice v.a v.n v.p) (.slice v.ka v.kn v.kp) (hB9.ext he1) (.inr rfl) (Nat.le_refl _) (hE9.trans he1);simp only [arr] at q0 q1 q2 q3;(refine qaa 16 (o:=?_) (by kernel_rfl) ?_ ?_;rotate_left 1;(simp only [xgA,xgB,xgC];rfl);intro K hK)
     go_simp;have hSn3:=hHeld.ext hz1 hz2 hz3 hext;clear hSn;refine hK.out _ _ (fun _=>hSn3) ?_;clear hK K;(try simp only [Act.put,xgD,xgE,xgF]);((refine qaa 17 (o:=?_) (by kernel_rfl) ?_ ?_;rotate_left 1;(simp only [xgA,xgB,xgC];rfl);intro K hK);go_simp;(refine hK.out _ _ (fun h=>absurd rfl h) ?_);clear hK K;refine qac (by kernel_rfl) ?_ _);go_wp2_with (fail)
     go_meet
     exact ⟨wd.heap.size,v,ok,rfl,rfl,hrr,Nat.lt_of_lt_of_eq (Nat.lt_of_lt_of_le hB9.lt he1.size) (qap _ _ _ _ _ _ _).symm,Nat.le_refl _,(hR.kp hkp).more (fun g hg=>.inl (.inl hg)),hext⟩
   case rest=>
    obtain ⟨gc,v,ok,rfl,rfl,hv,hgv,hgw,hR,heC⟩:=hcut;have he5:Ext wr wc:=(Ext.refl wr).drew.trans heC;have hgw':wr.heap.size<=gc:=hgw;have hsc:=he5.size;have HEC:=Lib.hid he5;have HRR:=Lib.hid hR;have HV:=Lib.hid hv;have HBC:=Lib.hid (HBR.out.ext he5);have HSC:=Lib.hid (HSW.out.ext he5);have HWC:=Lib.hid (HEW.out.trans he5);clear hR hv heC he5 hgw hw1 hw2 hw3 hw4 hw5 HS19 HCALL hd1 hd2 hc1 hc2 hMB hnk
    cases ok with
    | false=>
     obtain ⟨T,hT⟩:=HKR.out.low;have HND:=Lib.hid (HDV.out.no hE4 HGL.out HGZ.out HGS.out HNR.out (fun i hi=>hT i (by omega)) (HRR.out.2 rfl));obtain ⟨⟨q0,q1,q2,q3⟩,⟨f0,f1,f2,f3⟩,⟨r0,r1,r2,r3⟩,HF⟩:=qcu (M:=M) (M':=Mx M w.heap.size (w.heap.size+3)) (w:=w) (L:=0) (l:=[]) (y:=PE.z) HBC.out (Mx.at (by omega)) (by omega) HWC.out (CR.zero _ _ 0) Mx.sub;have HF2:=Lib.hid (HF.exF (L:=D+1) (A:=A+qX C (D+1) B*(G+2)) HND.out);simp only [PE.z] at r0 r1 r2 r3
     have hw2:w.heap.size+2<wc.heap.size:=by omega
     clear hT HF HND HYY HGL HGZ HGS HNR HGD HO HS1 HIH HKR HKQ HDV HEW HSW HBR HEC HRR HV HSC HWC;go_wp2;exact bodyPost_ret (v:=.tuple #[.agg (peA PE.z),.bool false]) (by simp [results,Tryz.results67,go_sem,r0,r1,r2,r3,PE.z]) rfl HF2.out
    | true=>
     obtain ⟨q,hq1,hq2,hq3⟩:=HRR.out.1 rfl;obtain ⟨v0,v1,v2,v3⟩:=HV.out;have hK4:=HKQ.out.ext HEC.out;obtain ⟨⟨_,k0⟩,⟨_,k1⟩,⟨_,k2⟩,⟨_,k3⟩,hfr,hg4⟩:=hK4.at k hkK;have hf0:=hfr (k*4);have hf1:=hfr (k*4+1);have hf2:=hfr (k*4+2);have hf3:=hfr (k*4+3);have hkp:Kp (Mx M w.heap.size (g2+1)) wc (set4 wc g2 (k*4) (.int .i64 v.lv) (.bool v.b) (.slice v.a v.n v.p) (.slice v.ka v.kn v.kp)):=Kp.set4 (Mx.at (by omega)) _ _ _ _ _;have hot : ∀ g,g≠g2->(set4 wc g2 (k*4) (.int .i64 v.lv) (.bool v.b) (.slice v.a v.n v.p) (.slice v.ka v.kn v.kp)).heap[g]? = wc.heap[g]?:=fun g hg=>qaf _ _ _ _ _ _ _ _ hg
     have HKQ6:Hid (qaz (Mx M w.heap.size (g2+1)) (set4 wc g2 (k*4) (.int .i64 v.lv) (.bool v.b) (.slice v.a v.n v.p) (.slice v.ka v.kn v.kp)) D g2 V (fun i=>if k<=i then (if i=k then q else Q i) else [])):=(hK4.set (Mx.at (by omega)) k hkK hq1).congr fun i _=>by
      by_cases hik:i=k
      ·rw [if_pos hik,if_pos (by omega),if_pos hik];exact Sim.refl _
      ·rw [if_neg hik]
       by_cases h3:k+1<=i
       ·rw [if_pos h3,if_pos (by omega),if_neg hik];exact Sim.refl _
       ·rw [if_neg h3,if_neg (by omega)];exact Sim.refl _
     have HKR6:Hid (qaz (Mx M w.heap.size (g2+1)) (set4 wc g2 (k*4) (.int .i64 v.lv) (.bool v.b) (.slice v.a v.n v.p) (.slice v.ka v.kn v.kp)) D g1 (n+V) (rj k q Gk R 0)):=((HKR.out.ext HEC.out).kp (hot g1 (by omega)) hkp).congr fun i _=>by rw [qnD];exact Sim.refl _
     have HCV6:=Lib.hid (hq1.kp hkp);have HV6:Hid (P4 (set4 wc g2 (k*4) (.int .i64 v.lv) (.bool v.b) (.slice v.a v.n v.p) (.slice v.ka v.kn v.kp)) gc v):=qar HV.out (hot gc (by omega));have HE6:Hid (Ext w (set4 wc g2 (k*4) (.int .i64 v.lv) (.bool v.b) (.slice v.a v.n v.p) (.slice v.ka v.kn v.kp))):=HWC.out.set4 (by omega) _ _ _ _ _;have HS6:Hid (SP2 w.heap.size x y (set4 wc g2 (k*4) (.int .i64 v.lv) (.bool v.b) (.slice v.a v.n v.p) (.slice v.ka v.kn v.kp))):=⟨qar HSC.out.1 (hot _ (by omega)),qar HSC.out.2 (hot _ (by omega))⟩;have HB6:Hid (Blk (set4 wc g2 (k*4) (.int .i64 v.lv) (.bool v.b) (.slice v.a v.n v.p) (.slice v.ka v.kn v.kp)) (w.heap.size+2) 33 4 (arr zA)):=HBC.out.of_heap (hot _ (by omega));have HSZ6:Hid ((set4 wc g2 (k*4) (.int .i64 v.lv) (.bool v.b) (.slice v.a v.n v.p) (.slice v.ka v.kn v.kp)).heap.size=wc.heap.size):=qap _ _ _ _ _ _ _;have HQF:=Lib.hid (And.intro hq1.nn (And.intro hq2 hq3))
     have hw3:g2<wc.heap.size:=by omega
     have hbc:b2<wc.heap.size:=by omega
     have HQD:Hid (Deg (B+(V - (k+1))*C) q):=qeh hq1.nn (HYY.out n (Nat.lt_succ_self n)).2.nn HGZ.out hq2 (HDV.out.2.1 (n+k) (by omega)).1;clear hK4 hfr hq1 hq2 hq3 hkp hot HKQ HKR HRR HV HSC HWC HBC HEC HEW HSW HBR;go_wp2
     go_loopw [107] (fun i wr2=>∃ j:Nat,j<=n/\i = .int .i64 j/\wc.heap.size<=wr2.heap.size/\Hid (qaz (Mx M w.heap.size (g2+1)) wr2 D g1 (n+V) (rj k q Gk R j))/\Hid (qaz (Mx M w.heap.size (g2+1)) wr2 D g2 V (fun i=>if k<=i then (if i=k then q else Q i) else []))/\Hid (CRx (Mx M w.heap.size (g2+1)) wr2 D v q)/\Hid (P4 wr2 gc v)/\Hid (Ext w wr2)/\Hid (SP2 w.heap.size x y wr2)/\Hid (Blk wr2 (w.heap.size+2) 33 4 (arr zA))) (fun i _=>n - (intOf i).toNat)
     case atStart=>exact ⟨0,Nat.zero_le _,rfl,Nat.le_of_eq HSZ6.out.symm,HKR6,HKQ6,HCV6,HV6,HE6,HS6,HB6⟩
     case round=>
      clear HKR6 HKQ6 HCV6 HV6 HE6 HS6 HB6 HSZ6 k0 k1 k2 k3 hf0 hf1 hf2 hf3 v0 v1 v2 v3 hg4;obtain ⟨j,hj,rfl,hsi,HKRi,HKQi,HCVi,HVi,HEi,HSi,HBi⟩:=hrel
      by_cases hjn:j<n
      ·have hjn':(j:Int)<n:=by omega
       obtain ⟨d2,hd1,hd2⟩:=HKRi.out.cells (k+j) (by omega);rw [quS] at hd2;obtain ⟨hc1,hc2⟩:=HYY.out j (by omega);have HS26:Hid (S26 (w.heap.size+1) (.slice (some ⟨b2,off2,none⟩) (n+1) y.kp) g1 ((k+j)*4) d2 b2 (off2+j*4) (yy j) gc v wr.drew):=S26.ext ⟨by have:=HSi.out.2.2.2.2;rw [HKA2.out,HN.out] at this;exact this,hd1,hc1.ext hb2 HEi.out,HVi.out⟩ (by omega) (by omega) (by omega) (by omega) (Ext.refl wr).drew;have hw1:IntKind.i64.wrap ((j:Int)+(k:Int))=(j:Int)+(k:Int):=IntWalk.i64_in _ (by omega)
       have hw2:(0:Int)<=(j:Int)+(k:Int):=by omega
       have hw3:((j:Int)+(k:Int)).toNat=k+j:=by omega
       have hw4:(j:Int)+(k:Int)<(n:Int)+(V:Int):=by omega
       have hw5:(j:Int)<(n:Int)+1:=by omega
       have hMi:Mb (Mx M w.heap.size (g2+1)) wr.drew:=Mx.mb HMM.out (HEi.out.trans (Ext.refl wr).drew).size (by have:=(Ext.refl wr).drew.size;omega);have hnu:=HNUM.out (V - (k+1)) (by omega);have hdv:=HDV.out.2.1 (k+j) (by omega);have hgd:=HGD.out j (by omega);have hqf:=HQF.out;have hql:=hqf.2.2;have hgl:=hgd.2;have hdl:=hdv.2;have hok:=HO.out.1
       have hpn:dlen (nrm (pmul q (Gk j)))<=dlen (nrm q)+dlen (nrm (Gk j)):=by rw [qbD];exact qaY _ _
       have hsn:dlen (nrm (R (k+j) ++ qbf (pmul q (Gk j))))<=max (dlen (nrm (R (k+j)))) (dlen (nrm (pmul q (Gk j))))+1:=by rw [qas,qeZ];exact qc3 _ _
       have CM:=Lib.hid (qfC (Mx M w.heap.size (g2+1)) v (yy j) q (Gk j) (inB B C) C wr.drew hMi ((HCVi.out.ext (Ext.refl wr).drew).pi) (((hc2.more (Mx.more (Nat.le_refl _))).ext (HEi.out.trans (Ext.refl wr).drew)).pi) (by omega) (HQD.out.mono (by omega)) hgd.1 hok.2.2);have CS:Hid (∀ (z:PE) (W:World),CRx (Mx M w.heap.size (g2+1)) W 4 z (pmul q (Gk j))->Ext wr.drew W->Calls Tryz.prog 38 #[.agg (peA d2),.agg (peA z)] W (qa4 (Mx M w.heap.size (g2+1)) W 4 (R (k+j) ++ qbf (pmul q (Gk j))))):=fun z W hz he=>qiP (Mx M w.heap.size (g2+1)) d2 z (R (k+j)) (pmul q (Gk j)) (inB B C) W (hMi.ext he) ((hd2.ext ((Ext.refl wr).drew.trans he)).pi) hz.pi (show dlen (nrm (R (k+j) ++ qbf (pmul q (Gk j))))<=1099511627776 by omega) (by omega) ((Deg.pmul HQD.out hgd.1 hqf.1).mono (by omega)) (by omega);obtain ⟨TR,hTR1,hTR2⟩:=hd2.lowE;obtain ⟨TQ,hTQ1,hTQ2⟩:=HCVi.out.lowE;obtain ⟨TG,hTG1,hTG2⟩:=hc2.lowE;have CD:Hid (∀ (z:PE) (W:World),CRx (Mx M w.heap.size (g2+1)) W 4 z (R (k+j) ++ qbf (pmul q (Gk j)))->CRx (Mx M w.heap.size (g2+1)) W D z (R (k+j) ++ qbf (pmul q (Gk j)))):=fun z W hz=>hz.down (hTR1.append ((hTQ1.pmul hTG1).pmul_left _)) (hTR2.append ((hTQ2.pmul hTG2).pmul (qof D (-1))))
       have hzs:w.heap.size+1<wr.drew.heap.size/\g1<wr.drew.heap.size/\b2<wr.drew.heap.size/\gc<wr.drew.heap.size:=by have:=(Ext.refl wr).drew.size;omega
       clear hpn hsn hql hgl hdl hqf hok hgd hdv hnu hMi hTR1 hTR2 hTQ1 hTQ2 hTG1 hTG2 hc1 hc2 hd1 hd2
       go_upto_region 26 with (fail)
       refine qae (S26 (w.heap.size+1) (.slice (some ⟨b2,off2,none⟩) (n+1) y.kp) g1 ((k+j)*4) d2 b2 (off2+j*4) (yy j) gc v) 19 (by kernel_rfl) HS26.out (fun hHeld=>?_);obtain ⟨hz1,hz2,hz3,hz4⟩:=hzs;(refine tkB [0,1,2,3,4,5,6,7,8,9,10,11,12,13,14,15] ?_;(iterate 16 (refine tk1 (oi:=?_) (v:=?_) (by kernel_rfl) (by first | exact hSn | exact hHeld) ?_ ?_ ?_ ?_ ?_;rotate_left 2;(simp only [xgA,xgB,xgC];rfl);rfl;(intro wS hSw;obtain ⟨S0,⟨S1,S2,S3,S4⟩,⟨S5,S6,S7,S8⟩,S9,S10,S11,S12⟩:=hSw;go_simp;try with_reducible rfl);(exact fun _ _ _ h=>h);(try simp only [Act.put,xgD,xgE,xgF])));refine tkE ?_);(refine qaa 16 (o:=?_) (by kernel_rfl) ?_ ?_;rotate_left 1;(simp only [xgA,xgB,xgC];rfl);intro K hK);go_simp;refine CM.out.mono ?_;rintro e wz ⟨z,rfl,hz,he1⟩;go_wp2_with (fail);have hSn:=hHeld.ext hz1 hz2 hz3 hz4 he1;refine hK.out _ _ (fun _=>hSn) ?_;clear hK K;(try simp only [Act.put,xgD,xgE,xgF]);(refine qaa 17 (o:=?_) (by kernel_rfl) ?_ ?_;rotate_left 1;(simp only [xgA,xgB,xgC];rfl);intro K hK);go_simp;refine (CS.out z wz hz he1).mono ?_;rintro e wz2 ⟨z2,rfl,hy,he2⟩;go_wp2_with (fail);clear hSn;have hSn:=hHeld.ext hz1 hz2 hz3 hz4 (he1.trans he2);refine hK.out _ _ (fun _=>hSn) ?_;clear hK K;(try simp only [Act.put,xgD,xgE,xgF]);(refine tkB [18] ?_;(iterate 1 (refine tk1 (oi:=?_) (v:=?_) (by kernel_rfl) (by first | exact hSn | exact hHeld) ?_ ?_ ?_ ?_ ?_;rotate_left 2;(simp only [xgA,xgB,xgC];rfl);rfl;(intro wS hSw;obtain ⟨S0,⟨S1,S2,S3,S4⟩,⟨S5,S6,S7,S8⟩,S9,S10,S11,S12⟩:=hSw;go_simp;try with_reducible rfl);(exact fun _ _ _ h=>h);(try simp only [Act.put,xgD,xgE,xgF])));refine tkE ?_)
       have he3:=he1.trans he2;have hKi:=HKRi.out.ext ((Ext.refl wr).drew.trans he3);obtain ⟨⟨_,k0⟩,⟨_,k1⟩,⟨_,k2⟩,⟨_,k3⟩,hfr,hg4⟩:=hKi.at (k+j) (by omega);have hf0:=hfr ((k+j)*4);have hf1:=hfr ((k+j)*4+1);have hf2:=hfr ((k+j)*4+2);have hf3:=hfr ((k+j)*4+3);((refine qaa 19 (o:=?_) (by kernel_rfl) ?_ ?_;rotate_left 1;(simp only [xgA,xgB,xgC];rfl);intro K hK);go_simp;(refine hK.out _ _ (fun h=>absurd rfl h) ?_);clear hK K;refine qac (by kernel_rfl) ?_ _);have hkp:Kp (Mx M w.heap.size (g2+1)) wz2 (set4 wz2 g1 ((k+j)*4) (.int .i64 z2.lv) (.bool z2.b) (.slice z2.a z2.n z2.p) (.slice z2.ka z2.kn z2.kp)):=Kp.set4 (Mx.at (by omega)) _ _ _ _ _;have hot : ∀ g,g≠g1->(set4 wz2 g1 ((k+j)*4) (.int .i64 z2.lv) (.bool z2.b) (.slice z2.a z2.n z2.p) (.slice z2.ka z2.kn z2.kp)).heap[g]? = wz2.heap[g]?:=fun g hg=>qaf _ _ _ _ _ _ _ _ hg;have hx3:=(Ext.refl wr).drew.trans he3
       have HKR7:Hid (qaz (Mx M w.heap.size (g2+1)) (set4 wz2 g1 ((k+j)*4) (.int .i64 z2.lv) (.bool z2.b) (.slice z2.a z2.n z2.p) (.slice z2.ka z2.kn z2.kp)) D g1 (n+V) (rj k q Gk R (j+1))):=(hKi.set (Mx.at (by omega)) (k+j) (by omega) (CD.out z2 wz2 hy)).congr fun i _=>by rw [qnE];exact Sim.refl _
       have HKQ7:Hid (qaz (Mx M w.heap.size (g2+1)) (set4 wz2 g1 ((k+j)*4) (.int .i64 z2.lv) (.bool z2.b) (.slice z2.a z2.n z2.p) (.slice z2.ka z2.kn z2.kp)) D g2 V (fun i=>if k<=i then (if i=k then q else Q i) else [])):=(HKQi.out.ext hx3).kp (hot g2 (by omega)) hkp;have HCV7:=Lib.hid ((HCVi.out.ext hx3).kp hkp);have HV7:Hid (P4 (set4 wz2 g1 ((k+j)*4) (.int .i64 z2.lv) (.bool z2.b) (.slice z2.a z2.n z2.p) (.slice z2.ka z2.kn z2.kp)) gc v):=qar (HVi.out.ext hx3) (hot gc (by omega));have HE7:Hid (Ext w (set4 wz2 g1 ((k+j)*4) (.int .i64 z2.lv) (.bool z2.b) (.slice z2.a z2.n z2.p) (.slice z2.ka z2.kn z2.kp))):=(HEi.out.trans hx3).set4 (by omega) _ _ _ _ _;have HS7:Hid (SP2 w.heap.size x y (set4 wz2 g1 ((k+j)*4) (.int .i64 z2.lv) (.bool z2.b) (.slice z2.a z2.n z2.p) (.slice z2.ka z2.kn z2.kp))):=⟨qar (HSi.out.1.ext hx3) (hot _ (by omega)),qar (HSi.out.2.ext hx3) (hot _ (by omega))⟩;have HB7:Hid (Blk (set4 wz2 g1 ((k+j)*4) (.int .i64 z2.lv) (.bool z2.b) (.slice z2.a z2.n z2.p) (.slice z2.ka z2.kn z2.kp)) (w.heap.size+2) 33 4 (arr zA)):=(HBi.out.ext hx3).of_heap (hot _ (by omega))
       have HSZ7:Hid (wc.heap.size<=(set4 wz2 g1 ((k+j)*4) (.int .i64 z2.lv) (.bool z2.b) (.slice z2.a z2.n z2.p) (.slice z2.ka z2.kn z2.kp)).heap.size):=by show _<=_;rw [qap];have:=hx3.size;omega
       clear hKi hfr hSn he1 he2 he3 hx3 hy hz hkp hot HKRi HKQi HCVi HVi HEi HSi HBi hHeld;go_wp2
       go_roundw
       case rel=>exact ⟨j+1,by omega,by go_num,HSZ7.out,HKR7,HKQ7,HCV7,HV7,HE7,HS7,HB7⟩
       case measure=>simp [intOf];omega
      ·have hje:j=n:=by omega
       have hjn' : ¬ ((j:Int)<n):=by omega
       have hqf:=HQF.out
       have HKR8:Hid (qaz (Mx M w.heap.size (g2+1)) wr D g1 (n+V) (rj k q Gk R n)):=HKRi.out.congr fun i _=>by rw [hje];exact Sim.refl _
       have HDV8:=Lib.hid (HDV.out.step hkK HGS.out (fun i hi=>HGD.out i (by omega)) hqf.1 HQD.out hqf.2.1 hqf.2.2)
       have hgs':g2<wr.heap.size:=by omega
       clear hje hqf HKRi HDV HQD HQF HCVi HVi;go_wp2
       go_roundw
       case rel=>exact ⟨k,rj k q Gk R n,fun i=>if i=k then q else Q i,by omega,by go_num,hgs',HKR8,HKQi,HDV8,HEi,HSi,HBi⟩
       case measure=>(simp [intOf];try omega)


theorem qdp.mono {M:Nat->Prop} {w w':World} {L L' A A':Nat} {l r:List Tm} {e:Ending} (h:qdp M w L l r A e w') (hL:L<=L') (hA:A<=A'):qdp M w L' l r A' e w':=by
 obtain ⟨v,ok,h1,⟨h2,h3⟩,h4⟩:=h;refine ⟨v,ok,h1,⟨fun ho=>?_,h3⟩,h4⟩;obtain ⟨q,q1,q2,q3⟩:=h2 ho;exact ⟨q,q1.up hL,q2,Nat.le_trans q3 hA⟩
theorem qhT (C G L:Nat) (hL4:L<=4) (ih : ∀ E,E<L->qpy C G E):qpy C G L:=by
 intro M l r x y B A w hM h hy hz hB hC hA hG hO hS;have hlx:=h.lev;have hly:=hy.lev
 by_cases hsame:0<x.lv/\y.lv=x.lv
 ·obtain ⟨E,hE⟩ : ∃ E:Nat,x.lv=(E:Int)+1:=⟨x.lv.toNat - 1,by omega⟩;have hq:=Nat.mul_le_mul_right (G+2) (quW (C:=C) (B:=B) (show E+1<=L by omega));exact (qiT C G E (by omega) (ih E (by omega)) M l r x y B A w hM (CR.relev h (by omega)) hE hy hsame.2 hz hB hC hA hG (hO.to (by omega)) (by omega)).mono fun e w' hp=>hp.mono (by omega) (by omega)
 obtain ⟨hE0,hX0,hY0,hB0,hM0⟩:=qks hM x y;have CZ:=Lib.hid (qa8 _ x l _ hM0 (((h.more (M':=Mx M w.heap.size (w.heap.size+3)) (Mx.more (Nat.le_refl _))).ext hE0).pi));obtain ⟨x0,x1,x2,x3⟩:=hX0;obtain ⟨y0,y1,y2,y3⟩:=hY0
 have hsz0:w.heap.size+3=((((w.alloc (.cells (peA x) 33)).alloc (.cells (peA y) 33)).alloc (.cells zA 33))).heap.size:=by simp
 generalize hW:((w.alloc (.cells (peA x) 33)).alloc (.cells (peA y) 33)).alloc (.cells zA 33)=W at *;have HW:=Lib.hid hW;have HE:=Lib.hid hE0;have HS:Hid (SP2 w.heap.size x y W):=⟨⟨x0,x1,x2,x3⟩,⟨y0,y1,y2,y3⟩⟩;have HB0:=Lib.hid hB0;have HMM:=Lib.hid hM;have HSM:=Lib.hid hsame;have HH:=Lib.hid h;have HY:=Lib.hid hy;have HZ:=Lib.hid hz;have HBD:=Lib.hid hB;have HCD:=Lib.hid hC;have HAD:=Lib.hid hA;have HGD:=Lib.hid hG;have HO:=Lib.hid hO;have HIH:=Lib.hid ih;generalize hA2:A+qX C L B*(G+2)=A2 at *
 have hAA:A<=A2:=by omega
 have HA2:=Lib.hid hA2;clear hE0 hB0 hM0 h hy hz hB hC hA hG hO hW hM hsame ih hA2
 go_enter Tryz.func67,Tryz.ntmps67
 go_upto_region 1 with (fail)
 rw [HW.out];go_wp2_with (fail);refine CZ.out.mono ?_;rintro e w1 ⟨bz,rfl,hbz,he1⟩;have HE1:=Lib.hid (HE.out.trans he1);have HSS:=Lib.hid (HS.out.ext he1);have HB1:=Lib.hid (HB0.out.ext he1)
 have hs1:w.heap.size+3<=w1.heap.size:=by have:=he1.size;omega
 have HBZ:=Lib.hid hbz;clear x0 x1 x2 x3 y0 y1 y2 y3 HE HS HB0 HW he1 hbz CZ;obtain ⟨⟨x0,x1,x2,x3⟩,⟨y0,y1,y2,y3⟩⟩:=HSS.out
 have hw2:w.heap.size+2<w1.heap.size:=by omega
 have hks:W.heap.size=w.heap.size+3:=hsz0.symm;clear hsz0
 cases bz with
 | true=>
  obtain ⟨⟨q0,q1,q2,q3⟩,⟨f0,f1,f2,f3⟩,⟨r0,r1,r2,r3⟩,HF⟩:=qcu (M:=M) (M':=Mx M w.heap.size (w.heap.size+3)) (w:=w) (L:=L) (l:=[]) (y:=PE.z) HB1.out (Mx.at (by omega)) (by omega) HE1.out (CR.zero _ _ L) Mx.sub;have HF2:=Lib.hid (HF.exT (r:=r) (l:=l) (A:=A2) (HBZ.out.1 rfl).symm (show dlen 0<=A2 from Nat.zero_le _));simp only [PE.z] at r0 r1 r2 r3;clear HF HBZ HH HY HZ HBD HCD HAD HGD HO HIH HSM HSS HB1 HE1;go_wp2;exact bodyPost_ret (v:=.tuple #[.agg (peA PE.z),.bool true]) (by simp [results,Tryz.results67,go_sem,r0,r1,r2,r3,PE.z]) rfl HF2.out
 | false=>
  have HLZ:Hid (¬ Sim l []):=fun hh=>by have:=HBZ.out.2 hh;cases this
  by_cases hlt:x.lv<y.lv
  ·have HND : Hid (¬ Dv r l) := by
    obtain ⟨D,b2,off2,Gk,hlv2,hD4,_,_,_,_,hn22,_,_,_,_,_,hlow2,hnz2,hsim2,_,_⟩:=HY.out.node (by omega);obtain ⟨T,hT1,hT2⟩:=HH.out.lowU;obtain ⟨n,hn⟩ : ∃ n,y.kn=n+1:=⟨y.kn - 1,by omega⟩;rw [hn] at hlow2 hsim2 hnz2;rw [Nat.add_sub_cancel] at hnz2;exact fun hd=>qrO hD4 (by omega) hlow2 hnz2 (NN.sim HY.out.nn hsim2.symm) (fun t ht=>hT2 t ht (D+1) (by omega) hD4) (fun hh=>HLZ.out (hT1.symm.trans hh)) (hd.sim hsim2.symm hT1.symm)
   obtain ⟨⟨q0,q1,q2,q3⟩,⟨f0,f1,f2,f3⟩,⟨r0,r1,r2,r3⟩,HF⟩:=qcu (M:=M) (M':=Mx M w.heap.size (w.heap.size+3)) (w:=w) (L:=0) (l:=[]) (y:=PE.z) HB1.out (Mx.at (by omega)) (by omega) HE1.out (CR.zero _ _ 0) Mx.sub;have HF2:=Lib.hid (HF.exF (L:=L) (A:=A2) HND.out);simp only [PE.z] at r0 r1 r2 r3;clear HF HND HBZ HH HY HZ HBD HCD HAD HGD HO HIH HSM HSS HB1 HE1;go_wp2;exact bodyPost_ret (v:=.tuple #[.agg (peA PE.z),.bool false]) (by simp [results,Tryz.results67,go_sem,r0,r1,r2,r3,PE.z]) rfl HF2.out
  ·by_cases h0:x.lv=0
   ·have hy0:y.lv=0:=by omega
    obtain ⟨zl,hzl1,_,hzl2⟩:=HH.out.val;obtain ⟨zr,hzr1,_,hzr2⟩:=HY.out.val;obtain ⟨hzl3,_⟩:=hzl2 h0;obtain ⟨hzr3,_⟩:=hzr2 hy0;have hzr:zr≠0:=fun hh=>HZ.out (hzr3.symm.trans (fun m=>by rw [hh];simp [qab]))
    have hcl:zl=qab l Mo.zero:=by have:=hzl3 Mo.zero;simpa [qab] using this
    have hzd:dlen zl.natAbs<=A:=Nat.le_trans (qah (by rw [hcl];exact qjv l Mo.zero)) HAD.out;have hM1:Mb (Mx M w.heap.size (w.heap.size+3)) w1:=Mx.mb HMM.out HE1.out.size (by omega);have CE:=Lib.hid (qf4 (M:=Mx M w.heap.size (w.heap.size+3)) x.b x.a x.n x.p zl y.b y.a y.n y.p zr w1 hM1 ((hzl1.more (Mx.more (Nat.le_refl _))).ext HE1.out) ((hzr1.more (Mx.more (Nat.le_refl _))).ext HE1.out) hzr (by omega));have HDV:Hid (Dv r l↔zl.tmod zr=0):=⟨fun hd=>(qf5 hzr).1 (hd.sim hzr3.symm hzl3.symm),fun hh=>((qf5 hzr).2 hh).sim hzr3 hzl3⟩
    have HTD:Hid (zl.tmod zr=0->Sim (pmul [(zl.tdiv zr,Mo.zero)] r) l):=fun hh=>by
     have:=Int.tdiv_mul_cancel (Int.dvd_of_tmod_eq_zero hh);refine (hzr3.symm.pmul_right _).trans (Sim.trans (fun m=>?_) hzl3);simp [pmul,shift,smul,qab,Mo.add_zero',this]
    have HQL:Hid (dlen (nrm [(zl.tdiv zr,Mo.zero)])<=A2):=by
     show _<=_;rw [qj5];refine Nat.le_trans (Nat.le_trans (qah ?_) hzd) hAA;rw [Int.natAbs_tdiv];exact Nat.div_le_self _ _
    have hM1H:=Lib.hid hM1;rw [h0] at x0;rw [hy0] at y0;clear hzl1 hzl2 hzr1 hzr2 hzl3 hzr3 hcl hzd hM1 HH HY HZ HBD HCD HAD HGD HO HIH HSM HBZ HLZ hlt h0 hy0 hlx hly hzr HA2 hAA;go_wp2_with (fail);refine CE.out.mono ?_;rintro e w2 ⟨cb,ca,cn,cp,er,rfl,hok,hno,he2⟩
    have hcz : ∃ cz,qbs (Mx M w.heap.size (w.heap.size+3)) w2 (.bool cb) (.slice ca cn cp) cz/\((er=0/\zl.tmod zr=0/\cz=zl.tdiv zr)∨(er=3/\zl.tmod zr≠0)):=by
     by_cases hd:zl.tmod zr=0
     ·exact ⟨_,(hok hd).2,.inl ⟨(hok hd).1,hd,rfl⟩⟩
     ·exact ⟨_,(hno hd).2,.inr ⟨(hno hd).1,hd⟩⟩
    obtain ⟨cz,hc1,hc2⟩:=hcz;have hEa:=(Ext.refl w2).alloc (.cells #[.bool cb,.slice ca cn cp] 30);have HEA:=Lib.hid (he2.trans hEa);have CK:=Lib.hid (qd5 (Mx M w.heap.size (w.heap.size+3)) cb ca cn cp cz _ (hM1H.out.ext (he2.trans hEa)) (hc1.ext hEa).toV);have hs2:=he2.size
    have hw3:w.heap.size+2<w2.heap.size:=by omega
    clear hok hno he2 hc1 hEa CE x0 x1 x2 x3 y0 y1 y2 y3 hw2 HSS
    go_upto_region 7 with (fail)
    go_wp2_with (fail);refine CK.out.mono ?_;rintro e w5 ⟨v,rfl,hv,he5⟩;have hq:=qcu (M:=M) (w:=w) ((HB1.out.ext HEA.out).ext he5) (Mx.at (by omega)) (by omega) ((HE1.out.trans HEA.out).trans he5) (hv.up (Nat.zero_le L)) Mx.sub
    have hw4:w.heap.size+2<w5.heap.size:=by have:=HEA.out.size;have:=he5.size;omega
    rcases hc2 with ⟨rfl,hd,rfl⟩ | ⟨rfl,hd⟩
    ·obtain ⟨⟨q0,q1,q2,q3⟩,⟨f0,f1,f2,f3⟩,⟨r0,r1,r2,r3⟩,HF⟩:=hq;have HF2:=Lib.hid (HF.exT (HTD.out hd) HQL.out);clear HF hv he5 CK HEA HTD HQL HDV hd HB1 HE1 hw3 hs2;go_wp2;exact bodyPost_ret (v:=.tuple #[.agg (peA v),.bool true]) (by simp [results,Tryz.results67,go_sem,r0,r1,r2,r3]) rfl HF2.out
    ·obtain ⟨⟨q0,q1,q2,q3⟩,⟨f0,f1,f2,f3⟩,⟨r0,r1,r2,r3⟩,HF⟩:=hq;have HF2:=Lib.hid (HF.exF (L:=L) (A:=A2) fun hh=>hd (HDV.out.1 hh));clear HF hv he5 CK HEA HTD HQL HDV hd HB1 HE1 hw3 hs2;go_wp2;exact bodyPost_ret (v:=.tuple #[.agg (peA v),.bool false]) (by simp [results,Tryz.results67,go_sem,r0,r1,r2,r3]) rfl HF2.out
   ·have h0':(x.lv == 0)=false:=by simpa using h0
    have hgt:y.lv<x.lv:=by have:=HSM.out;omega
    obtain ⟨E,hE⟩ : ∃ E:Nat,x.lv=(E:Int)+1:=⟨x.lv.toNat - 1,by omega⟩;have hq:=Nat.mul_le_mul_right (G+2) (quW (C:=C) (B:=B) (show E+1<=L by omega));have ha2:=HA2.out;have CE:=Lib.hid (qhU C G E (by omega) (HIH.out E (by omega)) (Mx M w.heap.size (w.heap.size+3)) l r x y B A w1 (Mx.mb HMM.out HE1.out.size (by omega)) (CR.relev ((HH.out.more (Mx.more (Nat.le_refl _))).ext HE1.out) (by omega)) hE ((HY.out.more (Mx.more (Nat.le_refl _))).ext HE1.out) hgt HZ.out HBD.out HCD.out HAD.out HGD.out (HO.out.to (by omega)) (by omega))
    have hEL:E+1<=L:=by omega
    have hqa:A+qX C (E+1) B*(G+2)<=A2:=by omega
    clear hE hq ha2 HH HY HZ HBD HCD HAD HGD HO HIH HSM HBZ HLZ HA2;go_wp2_with (fail);refine CE.out.mono ?_;rintro e w2 ⟨v,ok,rfl,hR,he2⟩
    cases ok with
    | true=>
     obtain ⟨q,hq1,hq2,hq3⟩:=hR.1 rfl;obtain ⟨⟨q0,q1,q2,q3⟩,⟨f0,f1,f2,f3⟩,⟨r0,r1,r2,r3⟩,HF⟩:=qcu (M:=M) (w:=w) (HB1.out.ext he2) (Mx.at (by omega)) (by omega) (HE1.out.trans he2) (hq1.up hEL) Mx.sub;have HF2:=Lib.hid (HF.exT hq2 (Nat.le_trans hq3 hqa));have hw3:w.heap.size+2<w2.heap.size:=Nat.lt_of_lt_of_le hw2 he2.size;clear HF hR he2 CE hq1 hq2 hq3 HSS HB1 HE1 x0 x1 x2 x3 y0 y1 y2 y3 hw2;go_wp2;exact bodyPost_ret (v:=.tuple #[.agg (peA v),.bool true]) (by simp [results,Tryz.results67,go_sem,r0,r1,r2,r3]) rfl HF2.out
    | false=>
     obtain ⟨⟨q0,q1,q2,q3⟩,⟨f0,f1,f2,f3⟩,⟨r0,r1,r2,r3⟩,hkp,hext⟩:=qg3 (M':=Mx M w.heap.size (w.heap.size+3)) (w:=w) (.int .i64 v.lv) (.bool v.b) (.slice v.a v.n v.p) (.slice v.ka v.kn v.kp) (HB1.out.ext he2) (Mx.at (by omega)) (by omega) (HE1.out.trans he2);have HF2:Hid (qdp M w L l r A2 (.returned (.tuple #[.agg (peA v),.bool false])) (set4 w2 (w.heap.size+2) 0 (.int .i64 v.lv) (.bool v.b) (.slice v.a v.n v.p) (.slice v.ka v.kn v.kp))):=⟨v,false,rfl,⟨fun hh=>(by cases hh),fun _=>hR.2 rfl⟩,hext⟩;simp only [arr] at q0 q1 q2 q3;simp only [set4,Nat.zero_add] at r0 r1 r2 r3;have hw3:w.heap.size+2<w2.heap.size:=Nat.lt_of_lt_of_le hw2 he2.size;clear hkp hext hR he2 CE HSS HB1 HE1 x0 x1 x2 x3 y0 y1 y2 y3 hw2;go_wp2;exact bodyPost_ret (v:=.tuple #[.agg (peA v),.bool false]) (by simp [results,Tryz.results67,go_sem,r0,r1,r2,r3]) rfl HF2.out
theorem qk1 (C G L:Nat):L<=4->qpy C G L:=by
 induction L using Nat.strongRecOn with
 | _ L ih=>exact fun hL=>qhT C G L hL fun E hE=>ih E hE (by omega)


def qub (w:World) (l:List Tm) (e:Ending) (w':World):Prop:=∃ er:Int,e = .returned (.int .i64 er)/\((er=2/\Sim l [])∨(er=0 /\ ¬ Sim l []))/\Ext w w'
theorem qgv (M:Nat->Prop) (x:PE) (l:List Tm) (b off cap:Nat) (w:World) (hM:Mb M w) (hc:qaI w b off x) (hb:b<w.heap.size) (h:PI M w x l):Calls Tryz.prog 59 #[.slice (some ⟨b,off,none⟩) 1 cap] w (qub w l):=by
 have HC:=Lib.hid hc;have HMM:=Lib.hid hM;have HP:=Lib.hid h;clear hc hM h
 go_enter Tryz.func59,Tryz.ntmps59
 go_wp2
 go_loopw [7] (fun i wr=>∃ k:Nat,k<=1/\i = .int .i64 k/\Hid (k=1 -> ¬ Sim l [])/\Hid (Ext w wr)) (fun i _=>1 - (intOf i).toNat)
 case atStart=>exact ⟨0,Nat.zero_le _,rfl,fun h=>absurd h (by decide),Ext.refl w⟩
 case round=>
  obtain ⟨k,hk,rfl,HN,HE⟩:=hrel
  by_cases hk0:k=0
  ·subst hk0;obtain ⟨c0,c1,c2,c3⟩:=HC.out.ext hb HE.out;have hEa:=(Ext.refl wr).alloc (.cells (peA x) 33);have CZ:=Lib.hid (qa8 M x l _ (HMM.out.ext (HE.out.trans hEa)) (HP.out.ext (HE.out.trans hEa)));have HEA:=Lib.hid (HE.out.trans hEa);have hbw:b<wr.heap.size:=Nat.lt_of_lt_of_le hb HE.out.size;clear hEa HE HN HC HP;go_wp2_with (fail);refine CZ.out.mono ?_;rintro e w1 ⟨bz,rfl,hbz,he1⟩;have HBZ:=Lib.hid hbz;have HE1:=Lib.hid (HEA.out.trans he1);clear hbz he1 CZ HEA c0 c1 c2 c3
   cases bz with
   | true=>
    have HF:Hid (qub w l (.returned (.int .i64 2)) w1):=⟨2,rfl,.inl ⟨rfl,HBZ.out.1 rfl⟩,HE1.out⟩;go_wp2;exact bodyPost_ret (v:=.int .i64 2) (by simp [results,Tryz.results59,go_sem]) rfl HF.out
   | false=>
    have HN1:Hid (1=1 -> ¬ Sim l []):=fun _ hh=>by have:=HBZ.out.2 hh;cases this
    go_wp2
    go_roundw
    case rel=>exact ⟨1,Nat.le_refl _,by go_num,fun _=>HN1.out trivial,HE1⟩
    case measure=>(simp [intOf];try omega)
  ·obtain rfl:k=1:=by omega
   have HF:Hid (qub w l (.returned (.int .i64 0)) wr):=⟨0,rfl,.inr ⟨rfl,HN.out rfl⟩,HE.out⟩;go_wp2;exact bodyPost_ret (v:=.int .i64 0) (by simp [results,Tryz.results59,go_sem]) rfl HF.out


theorem qce {M:Nat->Prop} {w:World} (h:Mb M w) (o:Obj):Mb (fun g=>M g∨g=w.heap.size) (w.alloc o):=fun g hg=>hg.elim (fun h1=>by have:=h g h1;simp;omega) (fun h1=>by simp;omega)
def qrb (M:Nat->Prop) (w:World) (l r:List Tm) (A:Nat) (e:Ending) (w':World):Prop:=∃ (v:PE) (er:Int),e = .returned (.tuple #[.agg (peA v),.int .i64 er])/\((er=2/\Sim r []/\v=PE.z)∨(er=0 /\ ¬ Sim r [] /\ ∃ q,CRx M w' 4 v q/\Sim (pmul q r) l/\dlen (nrm q)<=A)∨(er=3/\v=PE.z /\ ¬ Sim r [] /\ ¬ Dv r l))/\Ext w w'
theorem qiU (M : Nat -> Prop) (l r : List Tm) (x y : PE) (A2 : Nat) (w : World) (hM : Mb M w) (h : PI M w x l) (hy : PI M w y r) (hCE : ∀ (M' : Nat -> Prop) (a b : PE) (W' : World), Mb M' W' -> CRx M' W' 4 a l -> CRx M' W' 4 b r -> ¬ Sim r [] -> Calls Tryz.prog 67 #[.agg (peA a), .agg (peA b)] W' (qdp M' W' 4 l r A2)) :
  Calls Tryz.prog 14 #[.agg (peA x),.agg (peA y)] w (qrb M w l r A2):=by
 obtain ⟨hE0,hX0,hY0,hB0,hM0⟩:=qks hM x y;have h3:=(h.more (M':=Mx M w.heap.size (w.heap.size+3)) (Mx.more (Nat.le_refl _))).ext hE0;have hy3:=(hy.more (M':=Mx M w.heap.size (w.heap.size+3)) (Mx.more (Nat.le_refl _))).ext hE0;obtain ⟨x0,x1,x2,x3⟩:=hX0;obtain ⟨y0,y1,y2,y3⟩:=hY0
 have hsz0:w.heap.size+3=((((w.alloc (.cells (peA x) 33)).alloc (.cells (peA y) 33)).alloc (.cells zA 33))).heap.size:=by simp
 generalize hW:((w.alloc (.cells (peA x) 33)).alloc (.cells (peA y) 33)).alloc (.cells zA 33)=W at *;have HW:=Lib.hid hW;have HE:=Lib.hid hE0;have HS:Hid (SP2 w.heap.size x y W):=⟨⟨x0,x1,x2,x3⟩,⟨y0,y1,y2,y3⟩⟩;have HB0:=Lib.hid hB0;have HM3:=Lib.hid hM0;have HX:=Lib.hid h3;have HY:=Lib.hid hy3;have HCE:=Lib.hid hCE;clear hE0 hB0 hM0 h hy hCE hW hM h3 hy3
 go_enter Tryz.func14,Tryz.ntmps14
 go_upto_region 1 with (fail)
 rw [HW.out];go_wp2_with (fail);have hEb:=(Ext.refl W).alloc (.cells (peA y) 33);have hBb:=Blk.of_arr W (peA y) 33 4 rfl;refine (qgv (Mx M w.heap.size (w.heap.size+3)) y r W.heap.size 0 1 _ (HM3.out.ext hEb) hBb.p4 hBb.lt (HY.out.ext hEb)).mono ?_;rintro e w1 ⟨er,rfl,her,he1⟩;have HE1:=Lib.hid (HE.out.trans (hEb.trans he1));have HSS:=Lib.hid (HS.out.ext (hEb.trans he1));have HB1:=Lib.hid (HB0.out.ext (hEb.trans he1));have HM1:=Lib.hid (HM3.out.ext (hEb.trans he1));have HX1:=Lib.hid (HX.out.ext (hEb.trans he1));have HY1:=Lib.hid (HY.out.ext (hEb.trans he1))
 have hs1:w.heap.size+3<=w1.heap.size:=by have:=(hEb.trans he1).size;omega
 have hw2:w.heap.size+2<w1.heap.size:=by omega
 have hks:W.heap.size=w.heap.size+3:=hsz0.symm;clear hsz0 x0 x1 x2 x3 y0 y1 y2 y3 HE HS HB0 HW he1 hEb hBb HX HY HM3;rcases her with ⟨rfl,hz⟩ | ⟨rfl,hz⟩
 ·obtain ⟨⟨q0,q1,q2,q3⟩,⟨f0,f1,f2,f3⟩,⟨r0,r1,r2,r3⟩,HF⟩:=qcu (M:=M) (M':=Mx M w.heap.size (w.heap.size+3)) (w:=w) (L:=0) (l:=[]) (y:=PE.z) HB1.out (Mx.at (by omega)) (by omega) HE1.out (CR.zero _ _ 0) Mx.sub;obtain ⟨_,_,_,hext⟩:=HF;have HF2:Hid (qrb M w l r A2 (.returned (.tuple #[.agg (peA PE.z),.int .i64 2])) _):=⟨PE.z,2,rfl,.inl ⟨rfl,hz,rfl⟩,hext⟩;simp only [PE.z] at r0 r1 r2 r3;clear hext HSS HB1 HE1 HM1 HX1 HY1 HCE;go_wp2;exact bodyPost_ret (v:=.tuple #[.agg (peA PE.z),.int .i64 2]) (by simp [results,Tryz.results14,go_sem,r0,r1,r2,r3,PE.z]) rfl HF2.out
 ·have HRZ:=Lib.hid hz;clear hz
  go_upto_region 4 with (fail)
  go_cut [7,8] (qrh (Mx M w.heap.size (w.heap.size+3)) w1.drew 4 l r A2)
  case first=>
   have hEd:Ext w1 w1.drew:=(Ext.refl w1).drew;have HS2:Hid (SP2 w.heap.size x y w1.drew):=HSS.out.ext hEd;have CN1:Hid (∀ (M':Nat->Prop) (W':World),Mb M' W'->(∀ g,M' g->Mx M w.heap.size (w.heap.size+3) g∨w1.drew.heap.size<=g)->Ext w1.drew W'->Calls Tryz.prog 68 #[.agg (peA x)] W' (qa4 M' W' 4 l)):=fun M' W' h1 h2 h3=>qbX M' x l W' h1 (((HX1.out.ext hEd).more h2).ext h3);have CN2:Hid (∀ (M':Nat->Prop) (W':World),Mb M' W'->(∀ g,M' g->Mx M w.heap.size (w.heap.size+3) g∨w1.drew.heap.size<=g)->Ext w1.drew W'->Calls Tryz.prog 68 #[.agg (peA y)] W' (qa4 M' W' 4 r)):=fun M' W' h1 h2 h3=>qbX M' y r W' h1 (((HY1.out.ext hEd).more h2).ext h3);have hMd:Mb (Mx M w.heap.size (w.heap.size+3)) w1.drew:=HM1.out.ext hEd;refine qae (SP2 w.heap.size x y) 10 (by kernel_rfl) HS2.out (fun hHeld=>?_);clear HSS HB1 HE1 HM1 HX1 HY1 HS2 hEd;generalize w1.drew=wd at *;(refine tkB [0,2] ?_;(iterate 2 (refine tk1 (oi:=?_) (v:=?_) (by kernel_rfl) (by first | exact hSn | exact hHeld) ?_ ?_ ?_ ?_ ?_;rotate_left 2;(simp only [xgA,xgB,xgC];rfl);rfl;(intro wS hSw;obtain ⟨⟨S1,S2,S3,S4⟩,S5,S6,S7,S8⟩:=hSw;go_simp;try with_reducible rfl);(exact fun _ _ _ h=>h);(try simp only [Act.put,xgD,xgE,xgF])));refine tkE ?_);(refine qaC 1 8 (oi:=?_) (oj:=?_) (by kernel_rfl) ?_ ?_ ?_ ?_;rotate_left 2;(simp only [xgA,xgB,xgC];rfl);(simp only [xgA,xgB,xgC];rfl);all_goals intro K hK)
   ·go_simp;refine (CN1.out (Mx M w.heap.size (w.heap.size+3)) wd (hMd.ext (Ext.refl wd)) (fun g hg=>.inl hg) (Ext.refl wd)).mono ?_;rintro e v1 ⟨a,rfl,ha,d1⟩;go_wp2_with (fail);have e1:Ext wd v1:=((Ext.refl wd)).trans d1
    try clear hSn
    have hSn:=hHeld.ext e1;refine hK.out _ _ (fun _=>hSn) ?_;clear hK K;(try simp only [Act.put,xgD,xgE,xgF]);(refine qaC 3 8 (oi:=?_) (oj:=?_) (by kernel_rfl) ?_ ?_ ?_ ?_;rotate_left 2;(simp only [xgA,xgB,xgC];rfl);(simp only [xgA,xgB,xgC];rfl);all_goals intro K hK)
    ·go_simp;refine (CN2.out (Mx M w.heap.size (w.heap.size+3)) v1 (hMd.ext e1) (fun g hg=>.inl hg) e1).mono ?_;rintro e v2 ⟨b,rfl,hb,d2⟩;go_wp2_with (fail);have e2:Ext wd v2:=(e1).trans d2
     try clear hSn
     have hSn:=hHeld.ext e2;refine hK.out _ _ (fun _=>hSn) ?_;clear hK K;(try simp only [Act.put,xgD,xgE,xgF]);(refine qaC 4 8 (oi:=?_) (oj:=?_) (by kernel_rfl) ?_ ?_ ?_ ?_;rotate_left 2;(simp only [xgA,xgB,xgC];rfl);(simp only [xgA,xgB,xgC];rfl);all_goals intro K hK)
     ·go_simp;refine (HCE.out (Mx M w.heap.size (w.heap.size+3)) a b v2 (hMd.ext e2) ((ha).ext d2) (hb) HRZ.out).mono ?_;rintro e v3 ⟨v,ok,rfl,hR,d3⟩;go_wp2_with (fail);have e3:Ext wd v3:=(e2).trans d3
      try clear hSn
      have hSn:=hHeld.ext e3;refine hK.out _ _ (fun _=>hSn) ?_;clear hK K;(try simp only [Act.put,xgD,xgE,xgF]);(refine tkB [5,6,7] ?_;(iterate 3 (refine tk1 (oi:=?_) (v:=?_) (by kernel_rfl) (by first | exact hSn | exact hHeld) ?_ ?_ ?_ ?_ ?_;rotate_left 2;(simp only [xgA,xgB,xgC];rfl);rfl;(intro wS hSw;obtain ⟨⟨S1,S2,S3,S4⟩,S5,S6,S7,S8⟩:=hSw;go_simp;try with_reducible rfl);(exact fun _ _ _ h=>h);(try simp only [Act.put,xgD,xgE,xgF])));refine tkE ?_);(refine qaa 8 (o:=?_) (by kernel_rfl) ?_ ?_;rotate_left 1;(simp only [xgA,xgB,xgC];rfl);intro K hK);go_simp;have hSn2:=hSn.ext ((Ext.refl v3).alloc (.cells zA 33));have hSn3:=hSn.ext ((Ext.refl v3).alloc (.cells (peA v) 33));clear hSn;refine hK.out _ _ (fun _=>hSn2) ?_;clear hK K;(try simp only [Act.put,xgD,xgE,xgF]);(refine qaa 9 (o:=?_) (by kernel_rfl) ?_ ?_;rotate_left 1;(simp only [xgA,xgB,xgC];rfl);intro K hK);go_simp;refine hK.out _ _ (fun _=>hSn3) ?_;clear hK K;(try simp only [Act.put,xgD,xgE,xgF]);((refine qaa 10 (o:=?_) (by kernel_rfl) ?_ ?_;rotate_left 1;(simp only [xgA,xgB,xgC];rfl);intro K hK);go_simp;(refine hK.out _ _ (fun h=>absurd rfl h) ?_);clear hK K;refine qac (by kernel_rfl) ?_ _);go_wp2_with (fail)
      go_meet
      exact ⟨v3.heap.size,v,ok,rfl,rfl,(Blk.of_arr v3 (peA v) 33 4 rfl).p4,by simp,(e3).size,hR.ext ((Ext.refl v3).alloc _),(e3).alloc _⟩
     ·go_simp;have ea3:Ext v2 (v2.alloc (.cells zA 33)):=(Ext.refl _).alloc _;have hb3:=Blk.of_arr v2 zA 33 4 rfl;have e3:Ext wd (v2.alloc (.cells zA 33)):=(e2).trans ea3
      try clear hSn
      have hSn:=hHeld.ext e3;refine hK.out _ _ (fun _=>hSn) ?_;clear hK K;(try simp only [Act.put,xgD,xgE,xgF]);(refine qaa 4 (o:=?_) (by kernel_rfl) ?_ ?_;rotate_left 1;(simp only [xgA,xgB,xgC];rfl);intro K hK);go_simp;refine (HCE.out (fun g=>(Mx M w.heap.size (w.heap.size+3)) g∨g=v2.heap.size) a b (v2.alloc (.cells zA 33)) ((qce (hMd.ext e2) (.cells zA 33)).ext (Ext.refl (v2.alloc (.cells zA 33)))) ((((ha).ext d2).more (M':=fun g=>(Mx M w.heap.size (w.heap.size+3)) g∨g=v2.heap.size) (fun g hg=>hg.imp id fun (h:g=v2.heap.size)=>Nat.le_of_eq h.symm)).ext ea3) (((hb).more (M':=fun g=>(Mx M w.heap.size (w.heap.size+3)) g∨g=v2.heap.size) (fun g hg=>hg.imp id fun (h:g=v2.heap.size)=>Nat.le_of_eq h.symm)).ext ea3) HRZ.out).mono ?_;rintro e v4 ⟨v,ok,rfl,hR,d4⟩;go_wp2_with (fail);have e4:Ext wd v4:=(e3).trans d4;have hb4:=(hb3).ext d4
      try clear hSn
      have hSn:=hHeld.ext e4;refine hK.out _ _ (fun _=>hSn) ?_;clear hK K;(try simp only [Act.put,xgD,xgE,xgF]);(refine tkB [5,6,7] ?_;(iterate 3 (refine tk1 (oi:=?_) (v:=?_) (by kernel_rfl) (by first | exact hSn | exact hHeld) ?_ ?_ ?_ ?_ ?_;rotate_left 2;(simp only [xgA,xgB,xgC];rfl);rfl;(intro wS hSw;obtain ⟨⟨S1,S2,S3,S4⟩,S5,S6,S7,S8⟩:=hSw;go_simp;try with_reducible rfl);(exact fun _ _ _ h=>h);(try simp only [Act.put,xgD,xgE,xgF])));refine tkE ?_);obtain ⟨⟨q0,q1,q2,q3⟩,⟨f0,f1,f2,f3⟩,hrr,hkp,hext⟩:=qg3 (M':=fun g=>(Mx M w.heap.size (w.heap.size+3)) g∨g=v2.heap.size) (w:=wd) (.int .i64 v.lv) (.bool v.b) (.slice v.a v.n v.p) (.slice v.ka v.kn v.kp) (hb4) (.inr rfl) (e2).size (e4);simp only [arr] at q0 q1 q2 q3;(refine qaa 9 (o:=?_) (by kernel_rfl) ?_ ?_;rotate_left 1;(simp only [xgA,xgB,xgC];rfl);intro K hK);go_simp;have hSn3:=hHeld.ext hext;clear hSn;refine hK.out _ _ (fun _=>hSn3) ?_;clear hK K;(try simp only [Act.put,xgD,xgE,xgF]);((refine qaa 10 (o:=?_) (by kernel_rfl) ?_ ?_;rotate_left 1;(simp only [xgA,xgB,xgC];rfl);intro K hK);go_simp;(refine hK.out _ _ (fun h=>absurd rfl h) ?_);clear hK K;refine qac (by kernel_rfl) ?_ _);go_wp2_with (fail)
      go_meet
      exact ⟨v2.heap.size,v,ok,rfl,rfl,hrr,Nat.lt_of_lt_of_eq (hb4).lt (qap _ _ _ _ _ _ _).symm,(e2).size,(hR.kp hkp).more (fun g hg=>.inl (.inl hg)),hext⟩
    ·go_simp;have ea2:Ext v1 (v1.alloc (.cells zA 33)):=(Ext.refl _).alloc _;have hb2:=Blk.of_arr v1 zA 33 4 rfl;have e2:Ext wd (v1.alloc (.cells zA 33)):=(e1).trans ea2
     try clear hSn
     have hSn:=hHeld.ext e2;refine hK.out _ _ (fun _=>hSn) ?_;clear hK K;(try simp only [Act.put,xgD,xgE,xgF]);(refine qaa 3 (o:=?_) (by kernel_rfl) ?_ ?_;rotate_left 1;(simp only [xgA,xgB,xgC];rfl);intro K hK);go_simp;refine (CN2.out (fun g=>(Mx M w.heap.size (w.heap.size+3)) g∨g=v1.heap.size) (v1.alloc (.cells zA 33)) ((qce (hMd.ext e1) (.cells zA 33)).ext (Ext.refl (v1.alloc (.cells zA 33)))) (fun g hg=>hg.imp id fun h=>by rw [h];exact e1.size) e2).mono ?_;rintro e v3 ⟨b,rfl,hb,d3⟩;go_wp2_with (fail);have e3:Ext wd v3:=(e2).trans d3;have hb3:=(hb2).ext d3
     try clear hSn
     have hSn:=hHeld.ext e3;refine hK.out _ _ (fun _=>hSn) ?_;clear hK K;(try simp only [Act.put,xgD,xgE,xgF]);(refine qaa 4 (o:=?_) (by kernel_rfl) ?_ ?_;rotate_left 1;(simp only [xgA,xgB,xgC];rfl);intro K hK);go_simp;refine (HCE.out (fun g=>(Mx M w.heap.size (w.heap.size+3)) g∨g=v1.heap.size) a b v3 ((qce (hMd.ext e1) (.cells zA 33)).ext (((Ext.refl (v1.alloc (.cells zA 33)))).trans d3)) ((((ha).more (M':=fun g=>(Mx M w.heap.size (w.heap.size+3)) g∨g=v1.heap.size) (fun g hg=>hg.imp id fun (h:g=v1.heap.size)=>Nat.le_of_eq h.symm)).ext ea2).ext d3) (hb) HRZ.out).mono ?_;rintro e v4 ⟨v,ok,rfl,hR,d4⟩;go_wp2_with (fail);have e4:Ext wd v4:=(e3).trans d4;have hb4:=(hb3).ext d4
     try clear hSn
     have hSn:=hHeld.ext e4;refine hK.out _ _ (fun _=>hSn) ?_;clear hK K;(try simp only [Act.put,xgD,xgE,xgF]);(refine tkB [5,6,7] ?_;(iterate 3 (refine tk1 (oi:=?_) (v:=?_) (by kernel_rfl) (by first | exact hSn | exact hHeld) ?_ ?_ ?_ ?_ ?_;rotate_left 2;(simp only [xgA,xgB,xgC];rfl);rfl;(intro wS hSw;obtain ⟨⟨S1,S2,S3,S4⟩,S5,S6,S7,S8⟩:=hSw;go_simp;try with_reducible rfl);(exact fun _ _ _ h=>h);(try simp only [Act.put,xgD,xgE,xgF])));refine tkE ?_);obtain ⟨⟨q0,q1,q2,q3⟩,⟨f0,f1,f2,f3⟩,hrr,hkp,hext⟩:=qg3 (M':=fun g=>(Mx M w.heap.size (w.heap.size+3)) g∨g=v1.heap.size) (w:=wd) (.int .i64 v.lv) (.bool v.b) (.slice v.a v.n v.p) (.slice v.ka v.kn v.kp) (hb4) (.inr rfl) (e1).size (e4);simp only [arr] at q0 q1 q2 q3;(refine qaa 9 (o:=?_) (by kernel_rfl) ?_ ?_;rotate_left 1;(simp only [xgA,xgB,xgC];rfl);intro K hK);go_simp;have hSn3:=hHeld.ext hext;clear hSn;refine hK.out _ _ (fun _=>hSn3) ?_;clear hK K;(try simp only [Act.put,xgD,xgE,xgF]);((refine qaa 10 (o:=?_) (by kernel_rfl) ?_ ?_;rotate_left 1;(simp only [xgA,xgB,xgC];rfl);intro K hK);go_simp;(refine hK.out _ _ (fun h=>absurd rfl h) ?_);clear hK K;refine qac (by kernel_rfl) ?_ _);go_wp2_with (fail)
     go_meet
     exact ⟨v1.heap.size,v,ok,rfl,rfl,hrr,Nat.lt_of_lt_of_eq (hb4).lt (qap _ _ _ _ _ _ _).symm,(e1).size,(hR.kp hkp).more (fun g hg=>.inl (.inl hg)),hext⟩
   ·go_simp;have ea1:Ext wd (wd.alloc (.cells zA 33)):=(Ext.refl _).alloc _;have hb1:=Blk.of_arr wd zA 33 4 rfl;have e1:Ext wd (wd.alloc (.cells zA 33)):=((Ext.refl wd)).trans ea1
    try clear hSn
    have hSn:=hHeld.ext e1;refine hK.out _ _ (fun _=>hSn) ?_;clear hK K;(try simp only [Act.put,xgD,xgE,xgF]);(refine qaa 1 (o:=?_) (by kernel_rfl) ?_ ?_;rotate_left 1;(simp only [xgA,xgB,xgC];rfl);intro K hK);go_simp;refine (CN1.out (fun g=>(Mx M w.heap.size (w.heap.size+3)) g∨g=wd.heap.size) (wd.alloc (.cells zA 33)) ((qce (hMd.ext (Ext.refl wd)) (.cells zA 33)).ext (Ext.refl (wd.alloc (.cells zA 33)))) (fun g hg=>hg.imp id fun h=>by rw [h];exact (Ext.refl wd).size) e1).mono ?_;rintro e v2 ⟨a,rfl,ha,d2⟩;go_wp2_with (fail);have e2:Ext wd v2:=(e1).trans d2;have hb2:=(hb1).ext d2
    try clear hSn
    have hSn:=hHeld.ext e2;refine hK.out _ _ (fun _=>hSn) ?_;clear hK K;(try simp only [Act.put,xgD,xgE,xgF]);(refine qaa 3 (o:=?_) (by kernel_rfl) ?_ ?_;rotate_left 1;(simp only [xgA,xgB,xgC];rfl);intro K hK);go_simp;refine (CN2.out (fun g=>(Mx M w.heap.size (w.heap.size+3)) g∨g=wd.heap.size) v2 ((qce (hMd.ext (Ext.refl wd)) (.cells zA 33)).ext (((Ext.refl (wd.alloc (.cells zA 33)))).trans d2)) (fun g hg=>hg.imp id fun h=>by rw [h];exact (Ext.refl wd).size) e2).mono ?_;rintro e v3 ⟨b,rfl,hb,d3⟩;go_wp2_with (fail);have e3:Ext wd v3:=(e2).trans d3;have hb3:=(hb2).ext d3
    try clear hSn
    have hSn:=hHeld.ext e3;refine hK.out _ _ (fun _=>hSn) ?_;clear hK K;(try simp only [Act.put,xgD,xgE,xgF]);(refine qaa 4 (o:=?_) (by kernel_rfl) ?_ ?_;rotate_left 1;(simp only [xgA,xgB,xgC];rfl);intro K hK);go_simp;refine (HCE.out (fun g=>(Mx M w.heap.size (w.heap.size+3)) g∨g=wd.heap.size) a b v3 ((qce (hMd.ext (Ext.refl wd)) (.cells zA 33)).ext (((((Ext.refl (wd.alloc (.cells zA 33)))).trans d2)).trans d3)) ((ha).ext d3) (hb) HRZ.out).mono ?_;rintro e v4 ⟨v,ok,rfl,hR,d4⟩;go_wp2_with (fail);have e4:Ext wd v4:=(e3).trans d4;have hb4:=(hb3).ext d4
    try clear hSn
    have hSn:=hHeld.ext e4;refine hK.out _ _ (fun _=>hSn) ?_;clear hK K;(try simp only [Act.put,xgD,xgE,xgF]);(refine tkB [5,6,7] ?_;(iterate 3 (refine tk1 (oi:=?_) (v:=?_) (by kernel_rfl) (by first | exact hSn | exact hHeld) ?_ ?_ ?_ ?_ ?_;rotate_left 2;(simp only [xgA,xgB,xgC];rfl);rfl;(intro wS hSw;obtain ⟨⟨S1,S2,S3,S4⟩,S5,S6,S7,S8⟩:=hSw;go_simp;try with_reducible rfl);(exact fun _ _ _ h=>h);(try simp only [Act.put,xgD,xgE,xgF])));refine tkE ?_);obtain ⟨⟨q0,q1,q2,q3⟩,⟨f0,f1,f2,f3⟩,hrr,hkp,hext⟩:=qg3 (M':=fun g=>(Mx M w.heap.size (w.heap.size+3)) g∨g=wd.heap.size) (w:=wd) (.int .i64 v.lv) (.bool v.b) (.slice v.a v.n v.p) (.slice v.ka v.kn v.kp) (hb4) (.inr rfl) ((Ext.refl wd)).size (e4);simp only [arr] at q0 q1 q2 q3;(refine qaa 9 (o:=?_) (by kernel_rfl) ?_ ?_;rotate_left 1;(simp only [xgA,xgB,xgC];rfl);intro K hK);go_simp;have hSn3:=hHeld.ext hext;clear hSn;refine hK.out _ _ (fun _=>hSn3) ?_;clear hK K;(try simp only [Act.put,xgD,xgE,xgF]);((refine qaa 10 (o:=?_) (by kernel_rfl) ?_ ?_;rotate_left 1;(simp only [xgA,xgB,xgC];rfl);intro K hK);go_simp;(refine hK.out _ _ (fun h=>absurd rfl h) ?_);clear hK K;refine qac (by kernel_rfl) ?_ _);go_wp2_with (fail)
    go_meet
    exact ⟨wd.heap.size,v,ok,rfl,rfl,hrr,Nat.lt_of_lt_of_eq (hb4).lt (qap _ _ _ _ _ _ _).symm,((Ext.refl wd)).size,(hR.kp hkp).more (fun g hg=>.inl (.inl hg)),hext⟩
  case rest=>
   obtain ⟨gc,v,ok,rfl,rfl,hv,hgv,hgw,hR,heC⟩:=hcut;have he5:Ext w1 wc:=(Ext.refl w1).drew.trans heC;have HRR:=Lib.hid hR;have HBC:=Lib.hid (HB1.out.ext he5);have HWC:=Lib.hid (HE1.out.trans he5);have hw3:w.heap.size+2<wc.heap.size:=Nat.lt_of_lt_of_le hw2 he5.size;obtain ⟨v0,v1,v2,v3⟩:=hv;clear hR heC he5 hgw HSS HB1 HE1 HM1 HX1 HY1 HCE hw2
   cases ok with
   | false=>
    obtain ⟨⟨q0,q1,q2,q3⟩,⟨f0,f1,f2,f3⟩,⟨r0,r1,r2,r3⟩,HF⟩:=qcu (M:=M) (M':=Mx M w.heap.size (w.heap.size+3)) (w:=w) (L:=0) (l:=[]) (y:=PE.z) HBC.out (Mx.at (by omega)) (by omega) HWC.out (CR.zero _ _ 0) Mx.sub;obtain ⟨_,_,_,hext⟩:=HF;have HF2:Hid (qrb M w l r A2 (.returned (.tuple #[.agg (peA PE.z),.int .i64 3])) _):=⟨PE.z,3,rfl,.inr (.inr ⟨rfl,rfl,HRZ.out,HRR.out.2 rfl⟩),hext⟩;simp only [PE.z] at r0 r1 r2 r3;clear hext HRR HBC HWC v0 v1 v2 v3;go_wp2;exact bodyPost_ret (v:=.tuple #[.agg (peA PE.z),.int .i64 3]) (by simp [results,Tryz.results14,go_sem,r0,r1,r2,r3,PE.z]) rfl HF2.out
   | true=>
    obtain ⟨q,hq1,hq2,hq3⟩:=HRR.out.1 rfl;obtain ⟨⟨q0,q1,q2,q3⟩,⟨f0,f1,f2,f3⟩,⟨r0,r1,r2,r3⟩,HF⟩:=qcu (M:=M) (w:=w) HBC.out (Mx.at (by omega)) (by omega) HWC.out hq1 Mx.sub;obtain ⟨v',e',hc',hext⟩:=HF;simp only [Ending.returned.injEq,Value.agg.injEq] at e';have HF2:Hid (qrb M w l r A2 (.returned (.tuple #[.agg (peA v),.int .i64 0])) _):=⟨v',0,by rw [e'],.inr (.inl ⟨rfl,HRZ.out,q,hc',hq2,hq3⟩),hext⟩;clear hext hc' e' hq1 hq2 hq3 HRR HBC HWC;go_wp2;exact bodyPost_ret (v:=.tuple #[.agg (peA v),.int .i64 0]) (by simp [results,Tryz.results14,go_sem,r0,r1,r2,r3]) rfl HF2.out
theorem qk2 (C G : Nat) (M : Nat -> Prop) (l r : List Tm) (x y : PE) (B A : Nat) (w : World) (hM : Mb M w) (h : PI M w x l) (hy : PI M w y r) (hB : Deg B l) (hC : Deg C r) (hA : dlen (nrm l) <= A) (hG : dlen (nrm r) <= G) (hO : OkB C 4 B) (hS : A + qX C 4 B * (G + 2) <= 549755813888) :
  Calls Tryz.prog 14 #[.agg (peA x),.agg (peA y)] w (qrb M w l r (A+qX C 4 B*(G+2))):=qiU M l r x y _ w hM h hy fun M' a b W' h1 h2 h4 h5=>qk1 C G 4 (Nat.le_refl 4) M' l r a b B A W' h1 h2 h4 h5 hB hC hA hG hO hS


def qvV (w:World) (l r s:List Tm) (e:Ending) (w':World):Prop:=∃ b:Bool,e = .returned (.bool b)/\(Sim r []->(b=true↔Sim l []))/\(¬ Sim r []->(b=true↔Dv s l))/\Ext w w'
theorem qjY (M : Nat -> Prop) (l r s : List Tm) (x y : PE) (A2 : Nat) (w : World) (hM : Mb M w) (h : PI M w x r) (hy : PI M w y l)
  (hsn : ∀ (M':Nat->Prop) (W':World),Mb M' W'->(∀ g,M' g->M g∨w.heap.size<=g)->Ext w W'->Calls Tryz.prog 73 #[.agg (peA x)] W' (qa4 M' W' 4 s)) (hz : ¬ Sim r [] -> ¬ Sim s [])
  (hCE : ∀ (M':Nat->Prop) (a b:PE) (W':World),Mb M' W'->CRx M' W' 4 a l->CRx M' W' 4 b s -> ¬ Sim s []->Calls Tryz.prog 67 #[.agg (peA a),.agg (peA b)] W' (qdp M' W' 4 l s A2)) :
  Calls Tryz.prog 17 #[.agg (peA x),.agg (peA y)] w (qvV w l r s):=by
 have hE0:Ext w ((w.alloc (.cells (peA x) 33)).alloc (.cells (peA y) 33)):=((Ext.refl w).alloc _).alloc _;have hb1:=Blk.of_arr (w.alloc (.cells (peA x) 33)) (peA y) 33 4 rfl;simp only [World.size_alloc] at hb1;have hX0:SP2 w.heap.size x y ((w.alloc (.cells (peA x) 33)).alloc (.cells (peA y) 33)):=⟨((Blk.of_arr w (peA x) 33 4 rfl).alloc _).p4,hb1.p4⟩
 have hsz0:w.heap.size+2=((w.alloc (.cells (peA x) 33)).alloc (.cells (peA y) 33)).heap.size:=by simp
 have HCE:=Lib.hid hCE;have HSN:Hid (∀ (M':Nat->Prop) (W':World),Mb M' W'->(∀ g,M' g->M g∨w.heap.size<=g)->Ext w W'->Calls Tryz.prog 73 #[.agg (peA x)] W' (qa4 M' W' 4 s)):=hsn;have HZS:=Lib.hid hz;have HM:=Lib.hid hM;have HX:=Lib.hid h;have HY:=Lib.hid hy;generalize hW:(w.alloc (.cells (peA x) 33)).alloc (.cells (peA y) 33)=W at *;have HW:=Lib.hid hW;have HE:=Lib.hid hE0;have HS:=Lib.hid hX0;have CZ:=Lib.hid (qa8 M x r W (hM.ext hE0) (h.ext hE0));obtain ⟨⟨x0,x1,x2,x3⟩,⟨y0,y1,y2,y3⟩⟩:=hX0;clear hE0 hb1 h hy hCE hW hM hsn hz hsz0
 go_enter Tryz.func17,Tryz.ntmps17
 go_upto_region 1 with (fail)
 rw [HW.out];go_wp2_with (fail);refine CZ.out.mono ?_;rintro e w1 ⟨bz,rfl,hbz,he1⟩;have HE1:=Lib.hid (HE.out.trans he1);have HSS:=Lib.hid (HS.out.ext he1);have HBZ:=Lib.hid hbz;clear x0 x1 x2 x3 y0 y1 y2 y3 HE HS HW he1 hbz CZ
 cases bz with
 | true=>
  have HRZ0:Hid (Sim r []):=HBZ.out.1 rfl;obtain ⟨⟨x0,x1,x2,x3⟩,⟨y0,y1,y2,y3⟩⟩:=HSS.out;have CZ:=Lib.hid (qa8 M y l w1 (HM.out.ext HE1.out) (HY.out.ext HE1.out));go_wp2_with (fail);refine CZ.out.mono ?_;rintro e w2 ⟨b2,rfl,hb2,he2⟩;have HF:Hid (qvV w l r s (.returned (.bool b2)) w2):=⟨b2,rfl,fun _=>hb2,fun hh=>absurd HRZ0.out hh,HE1.out.trans he2⟩;clear hb2 he2 CZ HCE HSN HZS HX HY HE1 HSS HBZ x0 x1 x2 x3 y0 y1 y2 y3;go_wp2;exact bodyPost_ret (v:=.bool b2) (by simp [results,Tryz.results17,go_sem]) rfl HF.out
 | false=>
  have HRN:Hid (¬ Sim r []):=fun hh=>by have:=HBZ.out.2 hh;cases this
  have HRZ:Hid (¬ Sim s []):=HZS.out HRN.out;clear HBZ HZS
  go_upto_region 3 with (fail)
  go_cut [5,6] (qrh M w1.drew 4 l s A2)
  case first=>
   have hEd:Ext w1 w1.drew:=(Ext.refl w1).drew;have hEw:Ext w w1.drew:=HE1.out.trans hEd;have HS2:Hid (SP2 w.heap.size x y w1.drew):=HSS.out.ext hEd;have CN1:Hid (∀ (M':Nat->Prop) (W':World),Mb M' W'->(∀ g,M' g->M g∨w1.drew.heap.size<=g)->Ext w1.drew W'->Calls Tryz.prog 68 #[.agg (peA y)] W' (qa4 M' W' 4 l)):=fun M' W' h1 h2 h3=>qbX M' y l W' h1 (((HY.out.ext hEw).more h2).ext h3);have CN2:Hid (∀ (M':Nat->Prop) (W':World),Mb M' W'->(∀ g,M' g->M g∨w1.drew.heap.size<=g)->Ext w1.drew W'->Calls Tryz.prog 73 #[.agg (peA x)] W' (qa4 M' W' 4 s)):=fun M' W' h1 h2 h3=>HSN.out M' W' h1 (fun g hg=>(h2 g hg).imp id fun h=>Nat.le_trans hEw.size h) (hEw.trans h3);have hMd:Mb M w1.drew:=HM.out.ext hEw;refine qae (SP2 w.heap.size x y) 10 (by kernel_rfl) HS2.out (fun hHeld=>?_);clear HSS HE1 HM HX HY HS2 hEd HSN hEw;generalize w1.drew=wd at *;(refine tkB [0,2] ?_;(iterate 2 (refine tk1 (oi:=?_) (v:=?_) (by kernel_rfl) (by first | exact hSn | exact hHeld) ?_ ?_ ?_ ?_ ?_;rotate_left 2;(simp only [xgA,xgB,xgC];rfl);rfl;(intro wS hSw;obtain ⟨⟨S1,S2,S3,S4⟩,S5,S6,S7,S8⟩:=hSw;go_simp;try with_reducible rfl);(exact fun _ _ _ h=>h);(try simp only [Act.put,xgD,xgE,xgF])));refine tkE ?_);(refine qaC 1 8 (oi:=?_) (oj:=?_) (by kernel_rfl) ?_ ?_ ?_ ?_;rotate_left 2;(simp only [xgA,xgB,xgC];rfl);(simp only [xgA,xgB,xgC];rfl);all_goals intro K hK)
   ·go_simp;refine (CN1.out M wd (hMd.ext (Ext.refl wd)) (fun g hg=>.inl hg) (Ext.refl wd)).mono ?_;rintro e v1 ⟨a,rfl,ha,d1⟩;go_wp2_with (fail);have e1:Ext wd v1:=((Ext.refl wd)).trans d1
    try clear hSn
    have hSn:=hHeld.ext e1;refine hK.out _ _ (fun _=>hSn) ?_;clear hK K;(try simp only [Act.put,xgD,xgE,xgF]);(refine qaC 3 8 (oi:=?_) (oj:=?_) (by kernel_rfl) ?_ ?_ ?_ ?_;rotate_left 2;(simp only [xgA,xgB,xgC];rfl);(simp only [xgA,xgB,xgC];rfl);all_goals intro K hK)
    ·go_simp;refine (CN2.out M v1 (hMd.ext e1) (fun g hg=>.inl hg) e1).mono ?_;rintro e v2 ⟨b,rfl,hb,d2⟩;go_wp2_with (fail);have e2:Ext wd v2:=(e1).trans d2
     try clear hSn
     have hSn:=hHeld.ext e2;refine hK.out _ _ (fun _=>hSn) ?_;clear hK K;(try simp only [Act.put,xgD,xgE,xgF]);(refine qaC 4 8 (oi:=?_) (oj:=?_) (by kernel_rfl) ?_ ?_ ?_ ?_;rotate_left 2;(simp only [xgA,xgB,xgC];rfl);(simp only [xgA,xgB,xgC];rfl);all_goals intro K hK)
     ·go_simp;refine (HCE.out M a b v2 (hMd.ext e2) ((ha).ext d2) (hb) HRZ.out).mono ?_;rintro e v3 ⟨v,ok,rfl,hR,d3⟩;go_wp2_with (fail);have e3:Ext wd v3:=(e2).trans d3
      try clear hSn
      have hSn:=hHeld.ext e3;refine hK.out _ _ (fun _=>hSn) ?_;clear hK K;(try simp only [Act.put,xgD,xgE,xgF]);(refine tkB [5,6,7] ?_;(iterate 3 (refine tk1 (oi:=?_) (v:=?_) (by kernel_rfl) (by first | exact hSn | exact hHeld) ?_ ?_ ?_ ?_ ?_;rotate_left 2;(simp only [xgA,xgB,xgC];rfl);rfl;(intro wS hSw;obtain ⟨⟨S1,S2,S3,S4⟩,S5,S6,S7,S8⟩:=hSw;go_simp;try with_reducible rfl);(exact fun _ _ _ h=>h);(try simp only [Act.put,xgD,xgE,xgF])));refine tkE ?_);(refine qaa 8 (o:=?_) (by kernel_rfl) ?_ ?_;rotate_left 1;(simp only [xgA,xgB,xgC];rfl);intro K hK);go_simp;have hSn2:=hSn.ext ((Ext.refl v3).alloc (.cells zA 33));have hSn3:=hSn.ext ((Ext.refl v3).alloc (.cells (peA v) 33));clear hSn;refine hK.out _ _ (fun _=>hSn2) ?_;clear hK K;(try simp only [Act.put,xgD,xgE,xgF]);(refine qaa 9 (o:=?_) (by kernel_rfl) ?_ ?_;rotate_left 1;(simp only [xgA,xgB,xgC];rfl);intro K hK);go_simp;refine hK.out _ _ (fun _=>hSn3) ?_;clear hK K;(try simp only [Act.put,xgD,xgE,xgF]);((refine qaa 10 (o:=?_) (by kernel_rfl) ?_ ?_;rotate_left 1;(simp only [xgA,xgB,xgC];rfl);intro K hK);go_simp;(refine hK.out _ _ (fun h=>absurd rfl h) ?_);clear hK K;refine qac (by kernel_rfl) ?_ _);go_wp2_with (fail)
      go_meet
      exact ⟨v3.heap.size,v,ok,rfl,rfl,(Blk.of_arr v3 (peA v) 33 4 rfl).p4,by simp,(e3).size,hR.ext ((Ext.refl v3).alloc _),(e3).alloc _⟩
     ·go_simp;have ea3:Ext v2 (v2.alloc (.cells zA 33)):=(Ext.refl _).alloc _;have hb3:=Blk.of_arr v2 zA 33 4 rfl;have e3:Ext wd (v2.alloc (.cells zA 33)):=(e2).trans ea3
      try clear hSn
      have hSn:=hHeld.ext e3;refine hK.out _ _ (fun _=>hSn) ?_;clear hK K;(try simp only [Act.put,xgD,xgE,xgF]);(refine qaa 4 (o:=?_) (by kernel_rfl) ?_ ?_;rotate_left 1;(simp only [xgA,xgB,xgC];rfl);intro K hK);go_simp;refine (HCE.out (fun g=>M g∨g=v2.heap.size) a b (v2.alloc (.cells zA 33)) ((qce (hMd.ext e2) (.cells zA 33)).ext (Ext.refl (v2.alloc (.cells zA 33)))) ((((ha).ext d2).more (M':=fun g=>M g∨g=v2.heap.size) (fun g hg=>hg.imp id fun (h:g=v2.heap.size)=>Nat.le_of_eq h.symm)).ext ea3) (((hb).more (M':=fun g=>M g∨g=v2.heap.size) (fun g hg=>hg.imp id fun (h:g=v2.heap.size)=>Nat.le_of_eq h.symm)).ext ea3) HRZ.out).mono ?_;rintro e v4 ⟨v,ok,rfl,hR,d4⟩;go_wp2_with (fail);have e4:Ext wd v4:=(e3).trans d4;have hb4:=(hb3).ext d4
      try clear hSn
      have hSn:=hHeld.ext e4;refine hK.out _ _ (fun _=>hSn) ?_;clear hK K;(try simp only [Act.put,xgD,xgE,xgF]);(refine tkB [5,6,7] ?_;(iterate 3 (refine tk1 (oi:=?_) (v:=?_) (by kernel_rfl) (by first | exact hSn | exact hHeld) ?_ ?_ ?_ ?_ ?_;rotate_left 2;(simp only [xgA,xgB,xgC];rfl);rfl;(intro wS hSw;obtain ⟨⟨S1,S2,S3,S4⟩,S5,S6,S7,S8⟩:=hSw;go_simp;try with_reducible rfl);(exact fun _ _ _ h=>h);(try simp only [Act.put,xgD,xgE,xgF])));refine tkE ?_);obtain ⟨⟨q0,q1,q2,q3⟩,⟨f0,f1,f2,f3⟩,hrr,hkp,hext⟩:=qg3 (M':=fun g=>M g∨g=v2.heap.size) (w:=wd) (.int .i64 v.lv) (.bool v.b) (.slice v.a v.n v.p) (.slice v.ka v.kn v.kp) (hb4) (.inr rfl) (e2).size (e4);simp only [arr] at q0 q1 q2 q3;(refine qaa 9 (o:=?_) (by kernel_rfl) ?_ ?_;rotate_left 1;(simp only [xgA,xgB,xgC];rfl);intro K hK);go_simp;have hSn3:=hHeld.ext hext;clear hSn;refine hK.out _ _ (fun _=>hSn3) ?_;clear hK K;(try simp only [Act.put,xgD,xgE,xgF]);((refine qaa 10 (o:=?_) (by kernel_rfl) ?_ ?_;rotate_left 1;(simp only [xgA,xgB,xgC];rfl);intro K hK);go_simp;(refine hK.out _ _ (fun h=>absurd rfl h) ?_);clear hK K;refine qac (by kernel_rfl) ?_ _);go_wp2_with (fail)
      go_meet
      exact ⟨v2.heap.size,v,ok,rfl,rfl,hrr,Nat.lt_of_lt_of_eq (hb4).lt (qap _ _ _ _ _ _ _).symm,(e2).size,(hR.kp hkp).more (fun g hg=>.inl (.inl hg)),hext⟩
    ·go_simp;have ea2:Ext v1 (v1.alloc (.cells zA 33)):=(Ext.refl _).alloc _;have hb2:=Blk.of_arr v1 zA 33 4 rfl;have e2:Ext wd (v1.alloc (.cells zA 33)):=(e1).trans ea2
     try clear hSn
     have hSn:=hHeld.ext e2;refine hK.out _ _ (fun _=>hSn) ?_;clear hK K;(try simp only [Act.put,xgD,xgE,xgF]);(refine qaa 3 (o:=?_) (by kernel_rfl) ?_ ?_;rotate_left 1;(simp only [xgA,xgB,xgC];rfl);intro K hK);go_simp;refine (CN2.out (fun g=>M g∨g=v1.heap.size) (v1.alloc (.cells zA 33)) ((qce (hMd.ext e1) (.cells zA 33)).ext (Ext.refl (v1.alloc (.cells zA 33)))) (fun g hg=>hg.imp id fun h=>by rw [h];exact e1.size) e2).mono ?_;rintro e v3 ⟨b,rfl,hb,d3⟩;go_wp2_with (fail);have e3:Ext wd v3:=(e2).trans d3;have hb3:=(hb2).ext d3
     try clear hSn
     have hSn:=hHeld.ext e3;refine hK.out _ _ (fun _=>hSn) ?_;clear hK K;(try simp only [Act.put,xgD,xgE,xgF]);(refine qaa 4 (o:=?_) (by kernel_rfl) ?_ ?_;rotate_left 1;(simp only [xgA,xgB,xgC];rfl);intro K hK);go_simp;refine (HCE.out (fun g=>M g∨g=v1.heap.size) a b v3 ((qce (hMd.ext e1) (.cells zA 33)).ext (((Ext.refl (v1.alloc (.cells zA 33)))).trans d3)) ((((ha).more (M':=fun g=>M g∨g=v1.heap.size) (fun g hg=>hg.imp id fun (h:g=v1.heap.size)=>Nat.le_of_eq h.symm)).ext ea2).ext d3) (hb) HRZ.out).mono ?_;rintro e v4 ⟨v,ok,rfl,hR,d4⟩;go_wp2_with (fail);have e4:Ext wd v4:=(e3).trans d4;have hb4:=(hb3).ext d4
     try clear hSn
     have hSn:=hHeld.ext e4;refine hK.out _ _ (fun _=>hSn) ?_;clear hK K;(try simp only [Act.put,xgD,xgE,xgF]);(refine tkB [5,6,7] ?_;(iterate 3 (refine tk1 (oi:=?_) (v:=?_) (by kernel_rfl) (by first | exact hSn | exact hHeld) ?_ ?_ ?_ ?_ ?_;rotate_left 2;(simp only [xgA,xgB,xgC];rfl);rfl;(intro wS hSw;obtain ⟨⟨S1,S2,S3,S4⟩,S5,S6,S7,S8⟩:=hSw;go_simp;try with_reducible rfl);(exact fun _ _ _ h=>h);(try simp only [Act.put,xgD,xgE,xgF])));refine tkE ?_);obtain ⟨⟨q0,q1,q2,q3⟩,⟨f0,f1,f2,f3⟩,hrr,hkp,hext⟩:=qg3 (M':=fun g=>M g∨g=v1.heap.size) (w:=wd) (.int .i64 v.lv) (.bool v.b) (.slice v.a v.n v.p) (.slice v.ka v.kn v.kp) (hb4) (.inr rfl) (e1).size (e4);simp only [arr] at q0 q1 q2 q3;(refine qaa 9 (o:=?_) (by kernel_rfl) ?_ ?_;rotate_left 1;(simp only [xgA,xgB,xgC];rfl);intro K hK);go_simp;have hSn3:=hHeld.ext hext;clear hSn;refine hK.out _ _ (fun _=>hSn3) ?_;clear hK K;(try simp only [Act.put,xgD,xgE,xgF]);((refine qaa 10 (o:=?_) (by kernel_rfl) ?_ ?_;rotate_left 1;(simp only [xgA,xgB,xgC];rfl);intro K hK);go_simp;(refine hK.out _ _ (fun h=>absurd rfl h) ?_);clear hK K;refine qac (by kernel_rfl) ?_ _);go_wp2_with (fail)
     go_meet
     exact ⟨v1.heap.size,v,ok,rfl,rfl,hrr,Nat.lt_of_lt_of_eq (hb4).lt (qap _ _ _ _ _ _ _).symm,(e1).size,(hR.kp hkp).more (fun g hg=>.inl (.inl hg)),hext⟩
   ·go_simp;have ea1:Ext wd (wd.alloc (.cells zA 33)):=(Ext.refl _).alloc _;have hb1:=Blk.of_arr wd zA 33 4 rfl;have e1:Ext wd (wd.alloc (.cells zA 33)):=((Ext.refl wd)).trans ea1
    try clear hSn
    have hSn:=hHeld.ext e1;refine hK.out _ _ (fun _=>hSn) ?_;clear hK K;(try simp only [Act.put,xgD,xgE,xgF]);(refine qaa 1 (o:=?_) (by kernel_rfl) ?_ ?_;rotate_left 1;(simp only [xgA,xgB,xgC];rfl);intro K hK);go_simp;refine (CN1.out (fun g=>M g∨g=wd.heap.size) (wd.alloc (.cells zA 33)) ((qce (hMd.ext (Ext.refl wd)) (.cells zA 33)).ext (Ext.refl (wd.alloc (.cells zA 33)))) (fun g hg=>hg.imp id fun h=>by rw [h];exact (Ext.refl wd).size) e1).mono ?_;rintro e v2 ⟨a,rfl,ha,d2⟩;go_wp2_with (fail);have e2:Ext wd v2:=(e1).trans d2;have hb2:=(hb1).ext d2
    try clear hSn
    have hSn:=hHeld.ext e2;refine hK.out _ _ (fun _=>hSn) ?_;clear hK K;(try simp only [Act.put,xgD,xgE,xgF]);(refine qaa 3 (o:=?_) (by kernel_rfl) ?_ ?_;rotate_left 1;(simp only [xgA,xgB,xgC];rfl);intro K hK);go_simp;refine (CN2.out (fun g=>M g∨g=wd.heap.size) v2 ((qce (hMd.ext (Ext.refl wd)) (.cells zA 33)).ext (((Ext.refl (wd.alloc (.cells zA 33)))).trans d2)) (fun g hg=>hg.imp id fun h=>by rw [h];exact (Ext.refl wd).size) e2).mono ?_;rintro e v3 ⟨b,rfl,hb,d3⟩;go_wp2_with (fail);have e3:Ext wd v3:=(e2).trans d3;have hb3:=(hb2).ext d3
    try clear hSn
    have hSn:=hHeld.ext e3;refine hK.out _ _ (fun _=>hSn) ?_;clear hK K;(try simp only [Act.put,xgD,xgE,xgF]);(refine qaa 4 (o:=?_) (by kernel_rfl) ?_ ?_;rotate_left 1;(simp only [xgA,xgB,xgC];rfl);intro K hK);go_simp;refine (HCE.out (fun g=>M g∨g=wd.heap.size) a b v3 ((qce (hMd.ext (Ext.refl wd)) (.cells zA 33)).ext (((((Ext.refl (wd.alloc (.cells zA 33)))).trans d2)).trans d3)) ((ha).ext d3) (hb) HRZ.out).mono ?_;rintro e v4 ⟨v,ok,rfl,hR,d4⟩;go_wp2_with (fail);have e4:Ext wd v4:=(e3).trans d4;have hb4:=(hb3).ext d4
    try clear hSn
    have hSn:=hHeld.ext e4;refine hK.out _ _ (fun _=>hSn) ?_;clear hK K;(try simp only [Act.put,xgD,xgE,xgF]);(refine tkB [5,6,7] ?_;(iterate 3 (refine tk1 (oi:=?_) (v:=?_) (by kernel_rfl) (by first | exact hSn | exact hHeld) ?_ ?_ ?_ ?_ ?_;rotate_left 2;(simp only [xgA,xgB,xgC];rfl);rfl;(intro wS hSw;obtain ⟨⟨S1,S2,S3,S4⟩,S5,S6,S7,S8⟩:=hSw;go_simp;try with_reducible rfl);(exact fun _ _ _ h=>h);(try simp only [Act.put,xgD,xgE,xgF])));refine tkE ?_);obtain ⟨⟨q0,q1,q2,q3⟩,⟨f0,f1,f2,f3⟩,hrr,hkp,hext⟩:=qg3 (M':=fun g=>M g∨g=wd.heap.size) (w:=wd) (.int .i64 v.lv) (.bool v.b) (.slice v.a v.n v.p) (.slice v.ka v.kn v.kp) (hb4) (.inr rfl) ((Ext.refl wd)).size (e4);simp only [arr] at q0 q1 q2 q3;(refine qaa 9 (o:=?_) (by kernel_rfl) ?_ ?_;rotate_left 1;(simp only [xgA,xgB,xgC];rfl);intro K hK);go_simp;have hSn3:=hHeld.ext hext;clear hSn;refine hK.out _ _ (fun _=>hSn3) ?_;clear hK K;(try simp only [Act.put,xgD,xgE,xgF]);((refine qaa 10 (o:=?_) (by kernel_rfl) ?_ ?_;rotate_left 1;(simp only [xgA,xgB,xgC];rfl);intro K hK);go_simp;(refine hK.out _ _ (fun h=>absurd rfl h) ?_);clear hK K;refine qac (by kernel_rfl) ?_ _);go_wp2_with (fail)
    go_meet
    exact ⟨wd.heap.size,v,ok,rfl,rfl,hrr,Nat.lt_of_lt_of_eq (hb4).lt (qap _ _ _ _ _ _ _).symm,((Ext.refl wd)).size,(hR.kp hkp).more (fun g hg=>.inl (.inl hg)),hext⟩
  case rest=>
   obtain ⟨gc,v,ok,rfl,rfl,hv,hgv,hgw,hR,heC⟩:=hcut;have he5:Ext w1 wc:=(Ext.refl w1).drew.trans heC
   have HF:Hid (qvV w l r s (.returned (.bool ok)) wc):=⟨ok,rfl,fun hh=>absurd hh HRN.out,fun _=>⟨fun ho=>by
    obtain ⟨q,h1,h2,_⟩:=hR.1 ho
    exact ⟨q,h1.nn,h2⟩,fun hd=>by
    cases ok with
    | true=>rfl
    | false=>exact absurd hd (hR.2 rfl)⟩,HE1.out.trans he5⟩
   clear hR heC he5 hv HSS HE1 HM HX HY HCE HSN HRN HRZ;go_wp2;exact bodyPost_ret (v:=.bool ok) (by simp [results,Tryz.results17,go_sem]) rfl HF.out
theorem qff (C G : Nat) (M : Nat -> Prop) (l r s : List Tm) (x y : PE) (B A : Nat) (w : World) (hM : Mb M w) (h : PI M w x r) (hy : PI M w y l)
  (hsn : ∀ (M':Nat->Prop) (W':World),Mb M' W'->(∀ g,M' g->M g∨w.heap.size<=g)->Ext w W'->Calls Tryz.prog 73 #[.agg (peA x)] W' (qa4 M' W' 4 s)) (hz : ¬ Sim r [] -> ¬ Sim s [])
  (hB:Deg B l) (hC:Deg C s) (hA:dlen (nrm l)<=A) (hG:dlen (nrm s)<=G) (hO:OkB C 4 B) (hS:A+qX C 4 B*(G+2)<=549755813888) :
  Calls Tryz.prog 17 #[.agg (peA x),.agg (peA y)] w (qvV w l r s):=qjY M l r s x y _ w hM h hy hsn hz fun M' a b W' h1 h2 h4 h5=>qk1 C G 4 (Nat.le_refl 4) M' l s a b B A W' h1 h2 h4 h5 hB hC hA hG hO hS
end Go.Proofs.YtmcfpnmoklnhoaaGreat
