/- cylinderref25.Rows. cylinderref25.Sylvester. cylinderref25.Minor. cylinderlaw25: inner, degrees, equal. -/
import Derived.Test.YtlmipmebdelgbaaGreatQd
import Derived.Deep.Upon
import Derived.Deep.AppendLies
set_option linter.unusedVariables false
set_option linter.unusedSimpArgs false

namespace Go.Proofs.YtlmipmebdelgbaaGreat
open Go.RowKit

def qcT (M:Nat->Prop) (base:Nat) (w:World) (v:Value) (n:Nat) (P:Nat->List Tm):Prop:=∃ xx,Own w base 33 4 v n (px xx) /\ ∀ j,j<n->CRx (MR M v) w 4 (xx j) (P j)
theorem qcT.nil (M:Nat->Prop) (base:Nat) (w:World) (P:Nat->List Tm):qcT M base w (.slice none 0 0) 0 P:=⟨fun _=>PE.z,Own.nil _ _ _ _ _,fun j hj=>absurd hj (Nat.not_lt_zero _)⟩
theorem qcT.push {M : Nat -> Prop} {base : Nat} {w w' : World} {va : Option Addr} {vc n : Nat} {P : Nat -> List Tm} {xx : Nat -> PE} {y : PE} {g cap : Nat} (hx : ∀ j, j < n -> CRx (MR M (.slice va n vc)) w 4 (xx j) (P j)) (hy : CRx (MR M (.slice va n vc)) w 4 y (P n))
  (hO:Own w' base 33 4 (.slice (some ⟨g,0,none⟩) (n+1) cap) (n+1) (app (px xx) (n*4) (arr (peA y)))) (hg:w.grownBy w' (Value.slice va n vc).ownBlock) (hat:(Value.slice va n vc).ownBlock=some g∨w.heap.size<=g) :
  qcT M base w' (.slice (some ⟨g,0,none⟩) (n+1) cap) (n+1) P:=by
 refine ⟨qcX xx n y,hO.congr fun j hj=>qfC xx n y j hj,fun j hj=>?_⟩
 by_cases hjn:j=n
 ·subst hjn
  rw [qa0]
  exact qfa hy hg hat
 ·rw [qbk _ _ _ _ (by omega)]
  exact qfa (hx j (by omega)) hg hat
theorem qcT.kidC {M:Nat->Prop} {base:Nat} {w:World} {v:Value} {n:Nat} {P:Nat->List Tm} (h:qcT M base w v n P) (h0:0<n) : ∃ g c,v = .slice (some ⟨g,0,none⟩) n c/\base<=g/\qdV M w g n c P:=by
 obtain ⟨xx,hO,hX⟩:=h
 obtain ⟨g,c,F,rfl,hb,hB,hc,hm,hF⟩:=hO.some h0
 refine ⟨g,c,rfl,hb,⟨hc,hm⟩,F,hB,fun i hi=>?_⟩
 rw [hF _ (by omega),hF _ (by omega),hF _ (by omega),hF _ (by omega),px0,px1,px2,px3]
 exact (hX i hi).more fun b hb=>.inl (.inl hb)
theorem Mat.low {M:Nat->Prop} {w:World} {base base':Nat} {v:Value} {S N:Nat} {P:Nat->Nat->List Tm} (h:Mat M w base v S N P) (hb:base'<=base):Mat M w base' v S N P:=by
 obtain ⟨gs,cs,hO,h0,h2⟩:=h
 refine ⟨gs,cs,?_,h0,fun k hk=>⟨Nat.le_trans hb (h2 k hk).1,(h2 k hk).2⟩⟩
 rcases hO with h | ⟨g,cap,F,h3,h4,h5⟩
 ·exact .inl h
 ·exact .inr ⟨g,cap,F,h3,Nat.le_trans hb h4,h5⟩
def qqv (g:Nat) (x:PE) (gp t:Nat) (q:Int) (w:World):Prop:=P4 w g x/\w.cell? ⟨gp,t,none⟩=some (.int .i64 q)/\gp<w.heap.size
theorem qqv.ext {g:Nat} {x:PE} {gp t:Nat} {q:Int} {w w':World} (h:qqv g x gp t q w) (he:Ext w w'):qqv g x gp t q w':=⟨h.1.ext he,by rw [he.cell h.2.2];exact h.2.1,Nat.lt_of_lt_of_le h.2.2 he.size⟩
set_option maxRecDepth 100000 in
set_option maxHeartbeats 16000000 in
theorem qpm (M : Nat -> Prop) (w : World) (x : PE) (J B : Nat) (l : List Tm) (pa : Option Addr) (N pc S : Nat) (pw : Nat -> Int) (hM : Mb M w) (h1 : 1 <= J) (h4 : J <= 4) (nl : NN l) (h : PI M w x l) (hB : Deg B l) (hB4 : (B + 1) ^ 4 <= 1099511627776) (hB2 : B + 1 <= 1073741824) (hR : dlen (nrm l) <= 1099511627776) (hP : Num w pa N pc pw) (hN : N <= 1000) (hS : S <= 1000) (hNS : 0 < S -> 0 < N) (hpw : ∀ i, i < N -> -10000 <= pw i /\ pw i <= 10000) :
  Calls Tryz.prog 61 #[.agg (peA x),.int .i64 (J:Int),.int .i64 (S:Int),.slice pa N pc] w (qqx M w S N (fun k i=>ck J (pw i - ((S:Int) - 1 - (k:Int))) l)):=by
 obtain ⟨i0,hi,hz0,hz1,hz2⟩:=info_parts Tryz.info33
 obtain ⟨j0,ji,jz0,jz1,jz2⟩:=info_parts Tryz.info31
 have hEb:=(Ext.refl w).alloc (.cells (peA x) 33)
 have hX4:=(Blk.of_arr w (peA x) 33 4 rfl).p4
 have HM:=Lib.hid hM
 have CC:Hid (∀ (M':Nat->Prop) (w':World) (i:Int),Mb M' w'->PI M' w' x l->Calls Tryz.prog 85 #[.agg (peA x),.int .i64 (J:Int),.int .i64 i] w' (qa3 M' w' 4 (ck J i l))):=fun M' w' i a b=>qnw M' x l J i B w' h1 h4 nl a b hB hB4 hB2 hR
 have HPI:=Lib.hid h
 have HP:=Lib.hid hP
 have HN:=Lib.hid hN
 have HS:=Lib.hid hS
 have HNS:=Lib.hid hNS
 have HPW:=Lib.hid hpw
 have hSI:(S:Int)<=1000:=by omega
 have hS0:(0:Int)<=(S:Int):=Int.natCast_nonneg _
 clear hM h1 h4 nl h hB hB4 hB2 hR hP hN hS hNS hpw
 go_enter Tryz.func61,Tryz.ntmps61
 go_upto_region 1 with (fail)
 generalize hW:w.alloc (.cells (peA x) 33)=W at *
 have HE0:=Lib.hid hEb
 have HX4:=Lib.hid hX4
 have HMz:=Lib.hid (HM.out.ext hEb)
 have HPz:=Lib.hid (HP.out.ext hEb)
 have HIz:=Lib.hid (HPI.out.ext hEb)
 have HSZ:Hid (w.heap.size<=W.heap.size):=hEb.size
 clear hEb hX4 hW HM HP HPI
 obtain ⟨g0,hg0⟩ : ∃ g0,g0=w.heap.size:=⟨_,rfl⟩
 rw [<- hg0] at HX4 ⊢
 clear hg0
 have hw0:IntKind.i64.wrap ((S:Int) - 1)=(S:Int) - 1:=by rw [IntWalk.i64_in _ (by omega)]
 go_wp2
 go_loopw [10,9] (fun iv v wr=>∃ k:Nat,k<=S/\iv = .int .i64 ((S:Int) - 1 - (k:Int))/\Hid (Mat M wr W.heap.size v k N (fun k i=>ck J (pw i - ((S:Int) - 1 - (k:Int))) l))/\Hid (Ext W wr)) (fun iv _ _=>(intOf iv+1).toNat)
 case atStart=>exact ⟨0,Nat.zero_le _,by simp,Mat.nil _ _ _ _ _,Ext.refl _⟩
 case round=>
  obtain ⟨k,hk,rfl,HMt,HER⟩:=hrel
  have HPX:=Lib.hid (HX4.out.ext HER.out)
  obtain ⟨gs,cs,hO,hnil,hG⟩:=HMt.out
  obtain ⟨va,vc,rfl⟩:=hO.form
  have HNIL:=Lib.hid hnil
  clear hnil
  obtain ⟨sq,hsq⟩ : ∃ sq,sq=(S:Int) - 1 - (k:Int):=⟨_,rfl⟩
  rw [<- hsq]
  have HSQ:=Lib.hid hsq
  by_cases hlt:k<S
  ·have hge:0<=sq:=by omega
   have hsq1:sq<=1000:=by omega
   have HO:=Lib.hid hO
   have HG:Hid (qrZ M wr W.heap.size (.slice va k vc) k N (fun k i=>ck J (pw i - ((S:Int) - 1 - (k:Int))) l) gs cs):=hG
   have HLT:=Lib.hid hlt
   have hNI:(N:Int)<=1000:=by have:=HN.out;omega
   clear hO hG HMt hsq hk hlt
   obtain ⟨wo,rfl⟩ : ∃ wo,wo=wr:=⟨_,rfl⟩
   have HMO:=Lib.hid (qi7 HMz.out HER.out HO.out)
   have HMW:Hid (∀ b,MR M (.slice va k vc) b->M b∨W.heap.size<=b):=fun b h=>h.imp id fun h=>(HO.out.lt b h).1
   go_wp2
   go_loopw [12,11] (fun iv v wi=>∃ t:Nat,t<=N/\iv = .int .i64 (t:Int)/\Hid (qcT (MR M (.slice va k vc)) wo.heap.size wi v t (fun i=>ck J (pw i - sq) l))/\Hid (Ext wo wi)/\Hid (P4 wi g0 x)) (fun iv _ _=>N - (intOf iv).toNat)
   case atStart=>exact ⟨0,Nat.zero_le _,rfl,qcT.nil _ _ _ _,Ext.refl _,HPX.out⟩
   case round=>
    obtain ⟨t,ht,rfl,HT,HEI,HPI4⟩:=hrel
    obtain ⟨xx,hTO,hTX⟩:=HT.out
    obtain ⟨ra,rc,rfl⟩:=hTO.form
    by_cases htl:t<N
    ·obtain ⟨gp,rfl,p0,p1,p2,p3⟩:=HPz.out.ext (HER.out.trans HEI.out) t htl
     have htI:(t:Int)<(N:Int):=by omega
     have ht0:(0:Int)<=(t:Int):=Int.natCast_nonneg _
     obtain ⟨pq,hpq⟩ : ∃ pq,pq=pw t:=⟨_,rfl⟩
     rw [<- hpq] at p0
     obtain ⟨q,hq⟩ : ∃ q,q=pq - sq:=⟨_,rfl⟩
     have hqw:IntKind.i64.wrap (pq - sq)=q:=by rw [IntWalk.i64_in _ (by have h1:=HPW.out t htl;omega)];exact hq.symm
     have HQP:Hid (q=pw t - sq):=by show q=pw t - sq;omega
     have HPQ:Hid (pq=pw t):=hpq
     have HTL:=Lib.hid htl
     have HTO:=Lib.hid hTO
     have HTX:=Lib.hid hTX
     have HPd:Hid (qqv g0 x gp t pq wr.drew):=qqv.ext ⟨HPI4.out,p0,p1⟩ (Ext.refl _).drew
     have HED:Hid (Ext wr wr.drew):=(Ext.refl _).drew
     clear hpq hq ht htl p0 p1 p2 p3 hTO hTX HT
     go_upto_region 9 with (fail)
     refine qae (qqv g0 x gp t pq) 12 (by kernel_rfl) HPd.out (fun hHeld=>?_)
     generalize wr.drew=wd at *
     have HMD:Hid (Mb (MR (MR M (.slice va k vc)) (.slice ra t rc)) wd):=qi7 (HMO.out.ext (HEI.out.trans HED.out)) (Ext.refl wd) (HTO.out.ext HED.out)
     (refine tkB [0,1,2,3,4,5,6,7,8] ?_;(iterate 9 (refine tk1 (oi:=?_) (v:=?_) (by kernel_rfl) (by first | exact hSn | exact hHeld) ?_ ?_ ?_ ?_ ?_;rotate_left 2;(simp only [xgA,xgB,xgC];rfl);rfl;(intro wS hSw;obtain ⟨⟨A0,A1,A2,A3⟩,A4,A5⟩:=hSw;go_simp;try with_reducible rfl);(exact fun _ _ _ h=>h);(try simp only [Act.put,xgD,xgE,xgF])));refine tkE ?_)
     ((refine qaa 9 (o:=?_) (by kernel_rfl) ?_ ?_;rotate_left 1;(simp only [xgA,xgB,xgC];rfl);intro K hK);go_simp;(refine (CC.out (MR (MR M (.slice va k vc)) (.slice ra t rc)) wd q HMD.out (((HIz.out.more fun b hb=>hb.elim (fun h=>HMW.out b h) fun h=>.inr (Nat.le_trans HER.out.size (HTO.out.lt b h).1)).ext (HER.out.trans (HEI.out.trans HED.out))))).mono ?_);rintro e_ w8 ⟨u,rfl,hu,e8⟩;go_wp2_with (fail);(try clear hSn);(have hSn:=hHeld.ext e8);(refine hK.out _ _ (fun _=>hSn) ?_);clear hK K;(try simp only [Act.put,xgD,xgE,xgF]))
     (refine qaa 10 (o:=?_) (by kernel_rfl) ?_ ?_;rotate_left 1;(simp only [xgA,xgB,xgC];rfl);intro K hK)
     go_simp
     have hEA:Ext wd (w8.alloc (.cells (peA u) 33)):=e8.alloc _
     have hS2:=hHeld.ext hEA
     refine hK.out _ _ (fun _=>hS2) ?_
     clear hK K
     (try simp only [Act.put,xgD,xgE,xgF])
     (refine qaa 11 (o:=?_) (by kernel_rfl) ?_ ?_;rotate_left 1;(simp only [xgA,xgB,xgC];rfl);intro K hK)
     have hOA:=(HTO.out.ext (HED.out.trans hEA))
     have hsz:wo.heap.size<=(w8.alloc (.cells (peA u) 33)).heap.size:=(HEI.out.trans (HED.out.trans hEA)).size
     have htN:t<=1000:=by have:=HTL.out;omega
     refine qbw _ (by rfl) (.tmp 25) (.tmp 35) _ (by rfl) wo.heap.size 33 i0 _ 4 64 Tryz.underlying31 hi hz0 hz1 hz2 rfl (by omega) (.slice ra t rc) t (px xx) (by rfl) hOA w8.heap.size 33 1 (arr (peA u)) (by rfl) (Blk.of_arr w8 (peA u) 33 4 rfl) (qe1 u) (by unfold maxLen;omega) (by omega) hsz ?_
     intro gg cap2 w9 hO6 hg6 hat hlt6
     have HE9:Hid (Ext wo w9):=(HEI.out.trans (HED.out.trans hEA)).grown hg6 (fun q hq=>(HTO.out.lt q hq).1)
     have hX9:P4 w9 g0 x:=HPX.out.ext HE9.out
     have hS9:qqv g0 x gp t pq w9:=by
      obtain ⟨gp',e1,e2,e3,_⟩:=(HPz.out.ext HER.out) t HTL.out
      cases e1
      exact ⟨hX9,by rw [HE9.out.cell e3,e2,<- HPQ.out],Nat.lt_of_lt_of_le e3 HE9.out.size⟩
     refine hK.out _ _ (fun _=>hS9) ?_
     clear hK K
     (try simp only [Act.put,xgD,xgE,xgF])
     ((refine qaa 12 (o:=?_) (by kernel_rfl) ?_ ?_;rotate_left 1;(simp only [xgA,xgB,xgC];rfl);intro K hK);go_simp;(refine hK.out _ _ (fun h=>absurd rfl h) ?_);clear hK K;refine qac (by kernel_rfl) ?_ _)
     have HF:Hid (qcT (MR M (.slice va k vc)) wo.heap.size w9 (.slice (some ⟨gg,0,none⟩) (t+1) cap2) (t+1) (fun i=>ck J (pw i - sq) l)/\Ext wo w9/\P4 w9 g0 x):=⟨qcT.push (fun j hj=>(HTX.out j hj).ext (HED.out.trans hEA)) (by rw [<- HQP.out];exact hu.ext ((Ext.refl w8).alloc _)) hO6 hg6 hat,HE9.out,hX9⟩
     clear hO6 hg6 hat hS9 hS2 hHeld hSn hu e8 hEA HE9 hX9 hOA HTX HTO HMD
     go_wp2
     go_roundw
     case rel=>exact ⟨t+1,HTL.out,by go_num,HF.out.1,HF.out.2.1,HF.out.2.2⟩
     case measure=>have:=HTL.out;simp [intOf];omega
    ·obtain rfl:t=N:=by omega
     have hge2 : ¬ (t:Int)<(t:Int):=by omega
     have hkS:k<S:=HLT.out
     obtain ⟨gr,c,hv,hgr,hKC⟩:=HT.out.kidC (HNS.out (by omega))
     cases hv
     have HEA:=Lib.hid ((Ext.refl wr).alloc (.cells #[.slice (some ⟨gr,0,none⟩) t rc] 31))
     have hO5:=(HO.out.ext HEI.out).ext HEA.out
     have hB5:=Blk.of_arr wr #[.slice (some ⟨gr,0,none⟩) t rc] 31 1 rfl
     have HONE:=Lib.hid (qiY gr t rc)
     have HLK:=Lib.hid (HO.out.lt)
     have HVN:Hid ((Value.slice va k vc).ownBlock≠some gr):=fun h=>by have:=(HO.out.lt gr h).2;omega
     have HGB:Hid (W.heap.size<=gr):=by have:=HER.out.size;show W.heap.size<=gr;omega
     have hbase:W.heap.size<=wr.heap.size:=Nat.le_trans HER.out.size HEI.out.size
     have HKK:Hid (qdV (MR M (.slice va k vc)) (wr.alloc (.cells #[.slice (some ⟨gr,0,none⟩) t rc] 31)) gr t rc (fun i=>ck J (pw i - ((S:Int) - 1 - (k:Int))) l)):=by
      rw [<- HSQ.out];exact hKC.ext HEA.out
     have HGG:Hid (qrZ M (wr.alloc (.cells #[.slice (some ⟨gr,0,none⟩) t rc] 31)) W.heap.size (.slice va k vc) k t (fun k i=>ck J (pw i - ((S:Int) - 1 - (k:Int))) l) gs cs):=fun q hq=>⟨(HG.out q hq).1,(HG.out q hq).2.1,((HG.out q hq).2.2.ext HEI.out).ext HEA.out⟩
     have HEW:=Lib.hid ((HER.out.trans HEI.out).trans HEA.out)
     have HX9:Hid (Ext wo (wr.alloc (.cells #[.slice (some ⟨gr,0,none⟩) t rc] 31))):=HEI.out.trans HEA.out
     have hwk:IntKind.i64.wrap (sq - 1)=(S:Int) - 1 - ((k+1:Nat):Int):=by rw [IntWalk.i64_in _ (by omega)];have:=HSQ.out;omega
     clear HT HEI HG HO HER hTO hTX hKC hgr HMO HMW
     go_wp2_with (at_builtin;refine qaE _ rfl (.tmp 37) (.tmp 39) _ rfl W.heap.size 31 j0 _ 1 24 Tryz.underlying54 ji jz0 jz1 jz2 rfl (by omega) (.slice va k vc) k (rwf gs cs t) rfl hO5 wr.heap.size 31 1 (arr #[.slice (some ⟨gr,0,none⟩) t rc]) rfl hB5 HONE.out ?s1 ?s2 ?s3 ?_)
     case s1=>unfold maxLen;omega
     case s2=>omega
     case s3=>first | omega | (simp;omega)
     intro gg cap2 w6 hO6 hg6 hat hlt6
     replace hat:(Value.slice va k vc).ownBlock=some gg∨(wr.alloc (.cells #[.slice (some ⟨gr,0,none⟩) t rc] 31)).heap.size<=gg:=by rw [World.size_alloc];exact hat
     have HEX:Hid (Ext W w6):=HEW.out.grown hg6 fun q hq=>(HLK.out q hq).1
     have HF:Hid (Mat M w6 W.heap.size (.slice (some ⟨gg,0,none⟩) (k+1) cap2) (k+1) t (fun k i=>ck J (pw i - ((S:Int) - 1 - (k:Int))) l)/\Ext W w6):=⟨Mat.push HGG.out hO6 HKK.out HVN.out HGB.out hg6 hat,HEX.out⟩
     clear hO6 hg6 hat hO5 hB5 HKK HGG HEW HEX
     go_wp2
     go_roundw
     case rel=>exact ⟨k+1,hkS,by go_num,HF.out.1,HF.out.2⟩
     case measure=>have:=HSQ.out;simp [intOf];omega
  ·obtain rfl:k=S:=by omega
   have HF:Hid (qqx M w k N (fun q i=>ck J (pw i - ((k:Int) - 1 - (q:Int))) l) (.returned (.slice va k vc)) wr):=⟨va,vc,rfl,Mat.low ⟨gs,cs,hO,HNIL.out,hG⟩ HSZ.out,HE0.out.trans HER.out⟩
   have hge : ¬ 0<=sq:=by omega
   clear hO hG HMt HER
   go_wp2
   exact bodyPost_ret (v:=.slice va k vc) (by simp [results,Tryz.results61,go_sem]) rfl HF.out


theorem qo6 {c:Bool} {A B:Prop} (hc:c=true) (h:A):if c=true then A else B:=by rw [if_pos hc];exact h
theorem qfZ (w : World) {o : Oper} {a : Act} {K : Act -> World -> Prop} {Q : Exit -> Act -> World -> Prop} (s x : Operand) (t : TypeId) (ht : Tryz.prog.underlying t = some (.slice 31))
  (ho:o.op = .call { callee:=.builtin .append,args:=#[s,x],argTypes:=#[t,t] })
  (M:Nat->Prop) (base base2:Nat) (v xv:Value) (S1 S2 N:Nat) (P1 P2:Nat->Nat->List Tm) (hs:a.eval s=v) (hx:a.eval x=xv) (h1:Mat M w base v S1 N P1) (h2:Mat (MR M v) w base2 xv S2 N P2) (hb:base<=base2) (hlt : ∀ g,v.ownBlock=some g->g<base2) (hb2:base2<=w.heap.size) (hS:S1+S2<=10000)
  (h : ∀ a' cap w',Mat M w' base (.slice a' (S1+S2) cap) (S1+S2) N (fun k=>if k<S1 then P1 k else P2 (k - S1))->w.grownBy w' v.ownBlock->K (a.put o.dst (.slice a' (S1+S2) cap)) w') :
  Oper.wp Tryz.prog o a w K Q:=by
 obtain ⟨j0,ji,jz0,jz1,jz2⟩:=info_parts Tryz.info31
 obtain ⟨gs,cs,hO,hn1,hG⟩:=h1
 obtain ⟨hs',ds,hO2,hn2,hG2⟩:=h2
 by_cases h0:S2=0
 ·subst h0
  obtain rfl:=hn2 rfl
  have hle : ∃ va vp,v = .slice va S1 vp/\S1<=vp:=by
   rcases hO with ⟨rfl,h0⟩ | ⟨g,cap,F,rfl,_,_,hc,_⟩
   ·exact ⟨none,0,by rw [h0],by omega⟩
   ·exact ⟨_,_,rfl,hc⟩
  obtain ⟨va,vc,rfl,hle⟩:=hle
  have hsrc:Src Tryz.prog j0.size t (.slice none 0 0) 0 [] w:=Src.ofNil w ht 0
  have hrun:=run_append_nothing (P:=Tryz.prog) w t t o.type 31 j0 ht ji va S1 vc hle (.slice none 0 0) hsrc
  have h2:=h va vc w ⟨gs,cs,hO,hn1,fun k hk=>by
   have hk:k<S1:=hk
   have:=hG k hk
   simp only [if_pos hk]
   exact this⟩ (World.grownBy.refl w _)
  unfold Oper.wp
  simp [execOp,ho,resolve,invoke,builtin,hs,hx,hrun,Result.andThen]
  exact h2
 ·obtain ⟨q,c,F,rfl,hq,hB,hqc,hqm,hF⟩:=hO2.some (by omega)
  refine wp_append_lies w s x t ho base _ j0 _ 1 24 ht ji jz0 jz1 jz2 rfl (by omega) v S1 (qgN (rwf gs cs N) (S1*1)) hs hO.toRow ⟨q,0,none⟩ S2 c (qgN (rwf hs' ds N) (S2*1)) hx (by rw [qbp]) ?_ ?_ (by omega) (by unfold maxLen;omega) (by omega) (Nat.le_trans hb hb2) w.heap.size rfl ?_
  ·intro j u hu
   have hj:j<S2*1:=by
    have:=(List.getElem?_eq_some_iff.1 hu).1
    simpa [qbp] using this
   rw [qbZ _ _ _ hj] at hu
   cases hu
   rw [qb1,Nat.zero_add,hB.cell (by omega),hF j hj]
  ·intro u hu
   simp only [qgN,List.mem_map,List.mem_range] at hu
   obtain ⟨j,hj,rfl⟩:=hu
   rfl
  ·intro g cap w' hrow hg hat hgl
   rw [qf8,show S1*1+S2*1=(S1+S2)*1 from by omega] at hrow
   have hat2:v.ownBlock=some g∨w.heap.size<=g:=hat.imp id fun e=>by omega
   have hne : ∀ q,q<w.heap.size->v.ownBlock≠some q->(Value.slice (some ⟨g,0,none⟩) (S1+S2) cap).ownBlock≠some q:=fun q hq h1 h2=>by
    simp only [Value.ownBlock,Option.some.injEq] at h2
    rcases hat2 with h3 | h3
    ·exact h1 (by rw [h3,h2])
    ·omega
   refine h (some ⟨g,0,none⟩) cap w' ⟨fun k=>if k<S1 then gs k else hs' (k - S1),fun k=>if k<S1 then cs k else ds (k - S1),(Own.ofRow hrow).congr fun j hj=>?_,fun h=>by omega,fun k hk=>?_⟩ hg
   ·rw [Nat.mul_one];exact qm9 _ _ _ _ _ _ S2 _ hj
   ·by_cases hk1:k<S1
    ·have h3:=hG k hk1
     show base<=(if k<S1 then gs k else hs' (k - S1))/\_≠some (if k<S1 then gs k else hs' (k - S1))/\qdV _ _ (if k<S1 then gs k else hs' (k - S1)) _ (if k<S1 then cs k else ds (k - S1)) (if k<S1 then P1 k else P2 (k - S1))
     rw [if_pos hk1,if_pos hk1,if_pos hk1]
     exact ⟨h3.1,hne _ h3.2.2.lt h3.2.1,h3.2.2.grown h3.2.1 hg hat2⟩
    ·have h3:=hG2 (k - S1) (by omega)
     have h4:v.ownBlock≠some (hs' (k - S1)):=fun e=>by have:=hlt _ e;have:=h3.1;omega
     show base<=(if k<S1 then gs k else hs' (k - S1))/\_≠some (if k<S1 then gs k else hs' (k - S1))/\qdV _ _ (if k<S1 then gs k else hs' (k - S1)) _ (if k<S1 then cs k else ds (k - S1)) (if k<S1 then P1 k else P2 (k - S1))
     rw [if_neg hk1,if_neg hk1,if_neg hk1]
     exact ⟨Nat.le_trans hb h3.1,hne _ h3.2.2.lt h4,(h3.2.2.more (M':=MR M v) fun b hb=>.inl (.inl hb)).grown h4 hg hat2⟩
def qmF (M : Nat -> Prop) (w : World) (x : PE) (J : Nat) (l : List Tm) : Prop := ∀ (M' : Nat -> Prop) (wk : World) (pa : Option Addr) (N pc S : Nat) (pw : Nat -> Int), (∀ b, M' b -> M b ∨ w.heap.size <= b) -> Ext w wk -> Mb M' wk -> Num wk pa N pc pw -> N <= 1000 -> S <= 1000 -> (0 < S -> 0 < N) -> (∀ i, i < N -> -10000 <= pw i /\ pw i <= 10000) ->
  Calls Tryz.prog 61 #[.agg (peA x),.int .i64 (J:Int),.int .i64 (S:Int),.slice pa N pc] wk (qqx M' wk S N (fun k i=>ck J (pw i - ((S:Int) - 1 - (k:Int))) l))
theorem qk8 (M:Nat->Prop) (w:World) (x:PE) (J B:Nat) (l:List Tm) (h1:1<=J) (h4:J<=4) (nl:NN l) (h:PI M w x l) (hB:Deg B l) (hB4:(B+1) ^ 4<=1099511627776) (hB2:B+1<=1073741824) (hR:dlen (nrm l)<=1099511627776):qmF M w x J l:=
 fun M' wk pa N pc S pw hm he hM hP hN hS hNS hpw=>qpm M' wk x J B l pa N pc S pw hM h1 h4 nl ((h.more hm).ext he) hB hB4 hB2 hR hP hN hS hNS hpw
def qrT (M:Nat->Prop) (w:World) (S N:Nat) (P:Nat->Nat->List Tm) (e:Ending) (w':World):Prop:=∃ a cap base,e = .returned (.slice a S cap)/\w.heap.size<=base/\Mat M w' base (.slice a S cap) S N P/\Ext w w'
set_option maxRecDepth 100000 in
set_option maxHeartbeats 32000000 in
theorem qg2 (M : Nat -> Prop) (w : World) (x y : PE) (J m n : Nat) (f g : List Tm) (hM : Mb M w) (hm : m <= 100) (hn : n <= 100)
  (HA : ∀ wk,Ext w wk->Calls Tryz.prog 14 #[.agg (peA x),.int .i64 (J:Int)] wk fun e w'=>e = .returned (.int .i64 (m:Int))/\Ext wk w')
  (HB : ∀ wk,Ext w wk->Calls Tryz.prog 14 #[.agg (peA y),.int .i64 (J:Int)] wk fun e w'=>e = .returned (.int .i64 (n:Int))/\Ext wk w')
  (HF:qmF M w x J f) (HG:qmF M w y J g) :
  Calls Tryz.prog 31 #[.agg (peA x),.agg (peA y),.int .i64 (J:Int)] w (qrT M w (n+m) (m+n) (syM J m n f g)):=by
 obtain ⟨i0,hi,hz0,hz1,hz2⟩:=info_parts Tryz.info3
 have hE:=((Ext.refl w).alloc (.cells (peA x) 33)).alloc (.cells (peA y) 33)
 have hBx:=qc7 w x y
 generalize hW:(w.alloc (.cells (peA x) 33)).alloc (.cells (peA y) 33)=W at *
 have HW:=Lib.hid hW
 have HE:=Lib.hid hE
 have HBX:Hid (SBr w.heap.size x y W):=hBx
 have HM:=Lib.hid hM
 have CA:=Lib.hid HA
 have CB:=Lib.hid HB
 have CF:=Lib.hid HF
 have CG:=Lib.hid HG
 have HMN:Hid (m<=100/\n<=100):=⟨hm,hn⟩
 clear hE hBx hW hM HA HB HF HG hm hn
 go_enter Tryz.func31,Tryz.ntmps31
 go_upto_region 1 with (fail)
 rw [HW.out]
 obtain ⟨g0,hg0⟩ : ∃ g0,g0=w.heap.size:=⟨_,rfl⟩
 rw [<- hg0] at HBX ⊢
 clear hg0 HW
 obtain ⟨⟨x0,x1,x2,x3⟩,y0,y1,y2,y3⟩:=HBX.out
 go_wp2_with (fail)
 refine (CA.out W HE.out).mono ?_
 rintro e w1 ⟨rfl,e1⟩
 have HB1:=Lib.hid (HBX.out.ext e1)
 have HE1:=Lib.hid (HE.out.trans e1)
 clear x0 x1 x2 x3 y0 y1 y2 y3 HBX HE e1 CA
 obtain ⟨⟨x0,x1,x2,x3⟩,y0,y1,y2,y3⟩:=HB1.out
 go_wp2_with (fail)
 refine (CB.out w1 HE1.out).mono ?_
 rintro e w2 ⟨rfl,e2⟩
 have HB2:=Lib.hid (HB1.out.ext e2)
 have HE2:=Lib.hid (HE1.out.trans e2)
 clear x0 x1 x2 x3 y0 y1 y2 y3 HB1 HE1 e2 CB
 obtain ⟨zt,hzt⟩ : ∃ zt:Int,zt=(m:Int)+n - 1:=⟨_,rfl⟩
 have hq1:IntKind.i64.wrap ((m:Int)+(n:Int) - 1)=zt:=by rw [IntWalk.i64_in _ (by have:=HMN.out;omega)];exact hzt.symm
 have HZT:=Lib.hid hzt
 clear hzt
 have hz3:wrap64 ((m:Int)+(n:Int))=(m:Int)+(n:Int):=qsD _ (by have:=HMN.out;omega)
 have hz4:wrap64 ((m:Int)+(n:Int) - 1)=zt:=by rw [qsD _ (by have:=HMN.out;omega)];exact HZT.out.symm
 go_wp2
 go_loopw [10,9] (fun iv v wr=>∃ k:Nat,k<=m+n/\iv = .int .i64 (zt - (k:Int))/\Own wr w2.heap.size 3 1 v k (dnf zt)/\Hid (Ext w2 wr)) (fun iv _ _=>(intOf iv+1).toNat)
 case atStart=>exact ⟨0,Nat.zero_le _,by simp,Own.nil _ _ _ _ _,Ext.refl _⟩
 case round=>
  clear hq1 hz3 hz4
  obtain ⟨k,hk,rfl,hO,HER⟩:=hrel
  obtain ⟨va,vc,rfl⟩:=hO.form
  have hsz:=HER.out.size
  by_cases hlt:k<m+n
  ·have hge:(0:Int)<=zt - (k:Int):=by have:=HZT.out;omega
   have hkn:k<=1000:=by have:=HMN.out;omega
   have hO5:=hO.ext ((Ext.refl _).alloc (.cells #[.int .i64 (zt - (k:Int))] 3))
   have hB5:=Blk.of_arr wr #[.int .i64 (zt - (k:Int))] 3 1 rfl
   have HONE:=Lib.hid (qlr (zt - (k:Int)))
   have HEX:=Lib.hid ((Ext.refl wr).alloc (.cells #[.int .i64 (zt - (k:Int))] 3))
   have hw:IntKind.i64.wrap (zt - (k:Int) - 1)=zt - ((k+1:Nat):Int):=by rw [IntWalk.i64_in _ (by have:=HZT.out;have:=HMN.out;omega)];omega
   go_wp2_with (at_builtin;refine qaE _ rfl (.tmp 25) (.tmp 27) _ rfl w2.heap.size 3 i0 _ 1 8 Tryz.underlying80 hi hz0 hz1 hz2 rfl (by omega) (.slice va k vc) k (dnf zt) rfl hO5 wr.heap.size 3 1 (arr #[.int .i64 (zt - (k:Int))]) rfl hB5 HONE.out ?s1 ?s2 ?s3 ?_)
   case s1=>unfold maxLen;omega
   case s2=>omega
   case s3=>simp;omega
   intro gg cap2 w6 hO6 hg6 hat hlt6
   have HF:Hid (Ext w2 w6):=(HER.out.trans HEX.out).grown hg6 (fun g hg=>(hO.lt g hg).1)
   have hO7:=hO6.congr fun j hj=>qp9 zt k j hj
   clear hO6 hg6 hat hO5 hB5 hO HEX HONE
   go_wp2
   go_roundw
   case rel=>exact ⟨k+1,by omega,by go_num,hO7,HF⟩
   case measure=>simp [intOf];omega
  ·obtain rfl:k=m+n:=by omega
   have hge : ¬ (0:Int)<=zt - ((m+n:Nat):Int):=by have:=HZT.out;omega
   have HP:=Lib.hid (Own.num (f:=fun j=>zt - (j:Int)) hO)
   have HBR:=Lib.hid (HB2.out.ext HER.out)
   have HEW:=Lib.hid (HE2.out.trans HER.out)
   clear hO HER hsz hk hlt hz0 hz1 hz2 hi
   obtain ⟨N,hN⟩ : ∃ N,N=m+n:=⟨_,rfl⟩
   rw [<- hN] at HP hge ⊢
   have HNN:=Lib.hid hN
   clear hN
   go_upto_region 8 with (fail)
   have HPd:Hid (SBr g0 x y wr.drew):=HBR.out.ext (Ext.refl _).drew
   have HD0:Hid (Ext w wr.drew):=HEW.out.trans (Ext.refl _).drew
   have HMD:Hid (Mb M wr.drew):=HM.out.ext HD0.out
   have HPD:Hid (Num wr.drew va N vc (fun j=>zt - (j:Int))):=HP.out.ext (Ext.refl _).drew
   refine qae (SBr g0 x y) 11 (by kernel_rfl) HPd.out (fun hHeld=>?_)
   generalize wr.drew=wd at *
   clear HBR HEW HP HB2 HE2
   (refine tkB [0,1,2,3,5,6,7,8] ?_;(iterate 8 (refine tk1 (oi:=?_) (v:=?_) (by kernel_rfl) (by first | exact hSn | exact hHeld) ?_ ?_ ?_ ?_ ?_;rotate_left 2;(simp only [xgA,xgB,xgC];rfl);rfl;(intro wS hSw;obtain ⟨⟨A0,A1,A2,A3⟩,B0,B1,B2,B3⟩:=hSw;go_simp;try with_reducible rfl);(exact fun _ _ _ h=>h);(try simp only [Act.put,xgD,xgE,xgF])));refine tkE ?_)
   ((refine qaa 4 (o:=?_) (by kernel_rfl) ?_ ?_;rotate_left 1;(simp only [xgA,xgB,xgC];rfl);intro K hK);go_simp;(refine (CF.out M wd va N vc n (fun j=>zt - (j:Int)) (fun b hb=>.inl hb) HD0.out HMD.out HPD.out (by have:=HNN.out;have:=HMN.out;omega) (by have:=HMN.out;omega) (by have:=HNN.out;omega) (fun i hi=>by have:=HNN.out;have:=HMN.out;have:=HZT.out;show -10000<=zt - (i:Int)/\zt - (i:Int)<=10000;omega)).mono ?_);rintro e_ w8 ⟨ra,rc,rfl,hR,e8⟩;go_wp2_with (fail);(try clear hSn);(have hSn:=hHeld.ext e8);(refine hK.out _ _ (fun _=>hSn) ?_);clear hK K;(try simp only [Act.put,xgD,xgE,xgF]))
   have HLT:Hid (∀ q,(Value.slice ra n rc).ownBlock=some q->wd.heap.size<=q/\q<w8.heap.size):=fun q hq=>by
    obtain ⟨gs,cs,hO,_⟩:=hR
    exact hO.lt q hq
   have HMR:Hid (Mb (MR M (.slice ra n rc)) w8):=fun q hq=>hq.elim (fun h=>(HMD.out.ext e8) q h) fun h=>(HLT.out q h).2
   ((refine qaa 9 (o:=?_) (by kernel_rfl) ?_ ?_;rotate_left 1;(simp only [xgA,xgB,xgC];rfl);intro K hK);go_simp;(refine (CG.out (MR M (.slice ra n rc)) w8 va N vc m (fun j=>zt - (j:Int)) (fun b hb=>hb.imp id fun h=>Nat.le_trans HD0.out.size (HLT.out b h).1) (HD0.out.trans e8) HMR.out (HPD.out.ext e8) (by have:=HNN.out;have:=HMN.out;omega) (by have:=HMN.out;omega) (by have:=HNN.out;omega) (fun i hi=>by have:=HNN.out;have:=HMN.out;have:=HZT.out;show -10000<=zt - (i:Int)/\zt - (i:Int)<=10000;omega)).mono ?_);rintro e_ w9 ⟨ua,uc,rfl,hU,e9⟩;go_wp2_with (fail);(try clear hSn);(have hSn:=hHeld.ext (e8.trans e9));(refine hK.out _ _ (fun _=>hSn) ?_);clear hK K;(try simp only [Act.put,xgD,xgE,xgF]))
   have hR9:=hR.ext e9
   have hSS:n+m<=10000:=by have:=HMN.out;omega
   have hs9:=e8.size
   have hs8:=e9.size
   (refine qaa 10 (o:=?_) (by kernel_rfl) ?_ ?_;rotate_left 1;(simp only [xgA,xgB,xgC];rfl);intro K hK)
   refine qo6 (by rfl) (qfZ _ (.tmp 33) (.tmp 38) _ Tryz.underlying54 rfl M wd.heap.size w8.heap.size (.slice ra n rc) (.slice ua m uc) n m N _ _ rfl rfl hR9 hU hs9 (fun q hq=>(HLT.out q hq).2) hs8 hSS ?_)
   intro va' vc' w10 hV hg10
   have HEE:Hid (Ext wd w10):=(e8.trans e9).grown hg10 fun q hq=>(HLT.out q hq).1
   have hS9:SBr g0 x y w10:=hHeld.ext HEE.out
   refine hK.out _ _ (fun _=>hS9) ?_
   clear hK K
   (try simp only [Act.put,xgD,xgE,xgF])
   ((refine qaa 11 (o:=?_) (by kernel_rfl) ?_ ?_;rotate_left 1;(simp only [xgA,xgB,xgC];rfl);intro K hK);go_simp;(refine hK.out _ _ (fun h=>absurd rfl h) ?_);clear hK K;refine qac (by kernel_rfl) ?_ _)
   have HF:Hid (qrT M w (n+m) (m+n) (syM J m n f g) (.returned (.slice va' (n+m) vc')) w10):=by
    have h1:=HNN.out
    have h2:=HZT.out
    subst h1 h2
    exact ⟨va',vc',_,rfl,HD0.out.size,hV,HD0.out.trans HEE.out⟩
   clear hV hg10 hU hR9 hR HEE hS9 hHeld hSn HLT HMR e8 e9 HPD HMD HD0 HPd
   go_wp2
   exact bodyPost_ret (v:=.slice va' (n+m) vc') (by simp [results,Tryz.results31,go_sem]) rfl HF.out




theorem qdV.cel {M:Nat->Prop} {w:World} {g N c:Nat} {P:Nat->List Tm} (h:qdV M w g N c P) (i:Nat) (hi:i<N) : ∃ y:PE,qa6 w g (i*4) y/\CRx M w 4 y (P i):=by
 obtain ⟨⟨h0,_⟩,f,h1,h2⟩:=h
 obtain ⟨y,q0,q1,q2,q3,hy,_⟩:=(h2 i hi).pe
 exact ⟨y,⟨by rw [h1.cell (by omega),q0],by rw [h1.cell (by omega),q1],by rw [h1.cell (by omega),q2],by rw [h1.cell (by omega),q3]⟩,hy⟩
end Go.Proofs.YtlmipmebdelgbaaGreat
