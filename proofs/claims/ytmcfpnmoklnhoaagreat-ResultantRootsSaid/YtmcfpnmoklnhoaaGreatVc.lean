/- The discriminant of a polynomial in several variables, plain: the leading coefficient divides the resultant with the derivative. The discriminant of a product, and that of a square, plain. The leading coefficient divides the resultant with the derivative: the quotient as a determinant, plain. The size of the discriminant; the discriminant of a square is 0, plain. The discriminants of degrees 1, 2 and 3 by formulas; the resultant vanishes exactly if there is a common factor; plain. The resultant vanishes at every common zero, plain. pseudo.Exact at a discriminant. Sizes of the derivative; a polynomial and its derivative have a chain of subresultants. Common factors and the resultant, for all degrees; plain. ResultantDegree, plain: the discriminant of a product and of a square. -/
import Derived.Test.YtmcfpnmoklnhoaaGreatVa
import Derived.Test.YtmcfpnmoklnhoaaGreatDu
import Derived.Test.YtmcfpnmoklnhoaaGreatTa
import Derived.Test.YtmcfpnmoklnhoaaGreatTf
set_option linter.unusedVariables false
set_option maxRecDepth 100000
set_option maxHeartbeats 400000000
set_option linter.unusedSimpArgs false

namespace Go.Proofs.YtmcfpnmoklnhoaaGreat
open Go.RowKit

theorem qm5 {n:Nat} {a b:Nat->Nat->Int} (s:Int) (h0 : ∀ c,c<n+1->a 0 c=s*b 0 c) (h : ∀ r c,a (r+1) c=b (r+1) c):qbo (n+1) a=s*qbo (n+1) b:=by
 have hm : ∀ c,mnI a c=mnI b c:=fun c=>by funext r k;exact h r _
 have : ∀ c,c<=n+1->qaP (qbo n) a c=s*qaP (qbo n) b c:=fun c=>by
  induction c with
  | zero=>intro _;simp [qaP]
  | succ c ih=>
   intro hc;simp only [qaP];rw [ih (by omega),h0 c (by omega),hm c];generalize qaP (qbo n) b c=p;generalize qbo n (mnI b c)=q;generalize b 0 c=t;generalize sg1 c=v
   grind
 exact this _ (Nat.le_refl _)
theorem qpF {J:Nat} {f:List Tm} {i:Nat} (h : ¬ Sim (ck J ((i+1:Nat):Int) f) []) : ¬ Sim (dvC J f i) []:=fun hs=>h fun m=>by
 have:=hs m;unfold dvC at this;rw [(qbi _ _) m,qbl,qao] at this
 have h0:(((i+1:Nat):Int))≠0:=by omega
 rcases Int.mul_eq_zero.1 this with h | h
 ·exact absurd h h0
 ·exact h
theorem qoq {m:Nat} {F G:Nat->Int} (h : ∀ k,k<=m->F k=G k):li m F=li m G:=List.map_congr_left fun k hk=>h k (by have:=List.mem_range.1 hk;omega)
section
variable {J:Nat} (h1:1<=J) (h4:J<=4)
include h1 h4
theorem qsn {f:List Tm} (nf:NN f) (i:Nat):NN (dvC J f i):=qez (qb2 h1 h4 nf) (qdn _)
theorem qqT (f:List Tm) (i:Nat):Fre J (dvC J f i):=fun m hm=>by
 unfold dvC at hm;rw [(qbi _ _) m,qbl,qao] at hm;exact qfZ h1 h4 _ f m fun e=>hm (by rw [e];simp)
theorem qsE (x:Nat->Int) {f:List Tm} (nf:NN f) (i:Nat):ev x (dvC J f i)=dvI (fun k=>ev x (ck J (k:Int) f)) i:=by
 unfold dvC dvI;rw [qbH x (qb2 h1 h4 nf) (qdn _),qdp,Int.mul_comm]
theorem qfW {f:List Tm} (nf:NN f) (n:Nat):NN (poly J n (dvC J f)):=NN.poly fun i _=>qsn h1 h4 nf i
theorem qj8 (f:List Tm) (n k:Nat):Sim (ck J (k:Int) (poly J n (dvC J f))) (if k<n then dvC J f k else []):=ckP h1 h4 (fun i=>qqT h1 h4 f i) k n
theorem qm2 {f:List Tm} (nf:NN f) {n:Nat} (hn:1<=n) (df:DgR J f n):DgR J (poly J n (dvC J f)) (n - 1):=by
 refine qm3 h1 h4 (qfW h1 h4 nf n) (fun i hi=>(qj8 h1 h4 f n i).trans (by rw [if_neg (by omega)];exact Sim.refl _)) ?_;refine .inr fun hs=>?_;have h:=(qj8 h1 h4 f n (n - 1)).symm.trans hs;rw [if_pos (by omega)] at h;exact qpF (by rw [show n - 1+1=n by omega];exact df.ckn h1 h4 hn) h
theorem qse (x:Nat->Int) {f:List Tm} (nf:NN f) {n:Nat} (hn:1<=n) (df:DgR J f n):pv J x (poly J n (dvC J f))=pL (x (J - 1)) (li (n - 1) (dvI fun k=>ev x (ck J (k:Int) f))):=by
 rw [qsd h1 h4 x (qfW h1 h4 nf n) (qm2 h1 h4 nf hn df)]
 congr 1
 refine qoq fun k hk=>?_;rw [qbd x (qj8 h1 h4 f n k),if_pos (by omega),qsE h1 h4 x nf]
end


def sgD (n:Nat):Int:=if n % 4>1 then -1 else 1
def Dsc (J n:Nat) (f u:List Tm):Prop:=NN u /\ ∀ x,ev x u*ev x (ck J (n:Int) f)=sgD n*ev x (SJ J 0 n (n - 1) f (poly J n (dvC J f)))
section
variable {J:Nat} (h1:1<=J) (h4:J<=4)
include h1 h4
end


def rw0 (n c:Nat):List Tm:=if c=0/\2<=n then [(1,Mo.zero)] else if c+1=n then [((n:Int),Mo.zero)] else []
def dsP (J n:Nat) (f:List Tm):Nat->Nat->List Tm:=fun r c=>(pbl (n+(n - 1) - 0 - 1) 0 J f (n - 1 - 0) ++ pbl (n+(n - 1) - 0 - 1) 0 J (poly J n (dvC J f)) (n - 0)).getD c (fun _=>[]) r
def dsR (J n:Nat) (f:List Tm):Nat->Nat->List Tm:=fun r c=>if r=0 then rw0 n c else dsP J n f r c
def dsL (J n:Nat) (f:List Tm):List Tm:=smul (sgD n) (qnG (n - 1 - 0+(n - 0)) (dsR J n f))
section
variable {J:Nat} (h1:1<=J) (h4:J<=4)
include h1 h4
theorem qpr {f:List Tm} (nf:NN f) (n r c:Nat):NN (dsP J n f r c):=qjc h1 h4 (j:=0) (m:=n) (n:=n - 1) nf (qfW h1 h4 nf n) _ c r
theorem qpq {f:List Tm} (nf:NN f) (n r c:Nat):NN (dsR J n f r c):=by
 unfold dsR rw0
 split
 ·split
  ·exact qdn 1
  ·split
   ·exact qdn _
   ·exact NN.nil
 ·exact qpr h1 h4 nf n r c
theorem qps {f:List Tm} (nf:NN f) (n:Nat):NN (dsL J n f):=qjw (qgD _ _ fun r c=>qpq h1 h4 nf n r c) _
theorem qsF (x:Nat->Int) {f:List Tm} (nf:NN f) (n r c:Nat):ev x (dsP J n f r c)=qhh ((bl (x (J - 1)) (pv J x f) (n - 1) ++ bl (x (J - 1)) (pv J x (poly J n (dvC J f))) n).map (Pv.vec (n+(n - 1) - 0 - 1) 0)) r c:=by
 unfold dsP;rw [qiJ];unfold qhh bl pbl;simp only [List.map_append,List.map_map,Nat.sub_zero];refine congrFun (congrArg (fun L:List (Nat->Int)=>L.getD c (fun _=>0)) ?_) r
 congr 1
 ·refine List.map_congr_left fun i _=>?_;exact qgo h1 h4 x nf _ _ i
 ·refine List.map_congr_left fun i _=>?_;exact qgo h1 h4 x (qfW h1 h4 nf n) _ _ i
theorem qtT (x:Nat->Int) {f:List Tm} (nf:NN f) {n:Nat} (hn:1<=n) (hn4:n<=4) (df:DgR J f n) (c:Nat) (hc:c<n - 1+n):ev x (dsP J n f 0 c)=ev x (ck J (n:Int) f)*ev x (rw0 n c):=by
 rw [qsF h1 h4 x nf,qse h1 h4 x nf hn df,qsd h1 h4 x nf df];rcases (show n=1∨n=2∨n=3∨n=4 by omega) with rfl | rfl | rfl | rfl
 all_goals rcases (show c=0∨c=1∨c=2∨c=3∨c=4∨c=5∨c=6 by omega) with rfl | rfl | rfl | rfl | rfl | rfl | rfl
 all_goals first | (exfalso;omega) | skip
 all_goals simp [qhh,bl,dn,qtf,li,dvI,List.range,List.range.loop,rw0,qdp,ev,hrn]
 all_goals grind
theorem qtx {f:List Tm} (nf:NN f) {n:Nat} (hn:1<=n) (hn4:n<=4) (df:DgR J f n):Dsc J n f (dsL J n f):=by
 refine ⟨qps h1 h4 nf n,fun x=>?_⟩;unfold dsL;rw [qgP,qgQ x _ _ fun r c=>qpq h1 h4 nf n r c];have hS:ev x (SJ J 0 n (n - 1) f (poly J n (dvC J f)))=qbo (n - 1 - 0+(n - 0)) (fun r c=>ev x (dsP J n f r c)):=qgQ x _ _ fun r c=>qpr h1 h4 nf n r c;rw [hS];obtain ⟨N,hN⟩ : ∃ N,n - 1 - 0+(n - 0)=N+1:=⟨n - 1 - 0+(n - 0) - 1,by omega⟩;rw [hN,qm5 (a:=fun r c=>ev x (dsP J n f r c)) (b:=fun r c=>ev x (dsR J n f r c)) (ev x (ck J (n:Int) f)) (fun c hc=>?_) fun r c=>?_]
 ·generalize qbo _ _=d;generalize ev x _=a
  grind
 ·show ev x (dsP J n f 0 c)=_*ev x (if 0=0 then rw0 n c else _);rw [if_pos rfl];exact qtT h1 h4 x nf hn hn4 df c (by omega)
 ·show _=ev x (if r+1=0 then rw0 n c else dsP J n f (r+1) c);rw [if_neg (by omega)]
end


theorem qsN {J A n:Nat} {f:List Tm} (hA:1<=A) (hf:dlen (nrm f)<=A) (hg:dlen (nrm (poly J n (dvC J f)))<=A) (hn:1<=n) (hn4:n<=4):dlen (nrm (dsL J n f))<=(n - 1+n)*A+1:=by
 have hone : ∀ z:Int,z.natAbs<=4->nrm [(z,Mo.zero)]<=4294967296 ^ A:=fun z hz=>by
  have:4294967296 ^ 1<=4294967296 ^ A:=Nat.pow_le_pow_right (by decide) hA;show z.natAbs+0<=_;omega
 have hb : ∀ (F:List Tm) (N:Nat),dlen (nrm F)<=A -> ∀ r,∀ p ∈ pbl (n+(n - 1) - 0 - 1) 0 J F N,nrm (p r)<=4294967296 ^ A:=fun F N hF r p hp=>by
  obtain ⟨i,hi,rfl⟩:=List.mem_map.1 hp;have hF2:=Nat.le_of_lt ((qan _ _).1 hF);show nrm (if r<n+(n - 1) - 0 - 1 - 0 then (if n+(n - 1) - 0 - 1 - r<i then [] else ck J ((n+(n - 1) - 0 - 1 - r - i:Nat):Int) F) else shift (xp J (i:Int)) F)<=_
  split
  ·split
   ·exact Nat.zero_le _
   ·exact Nat.le_trans (qew _ _ _) hF2
  ·rw [qaS];exact hF2
 have hl:=qgC (N:=4294967296 ^ A) (n - 1 - 0+(n - 0)) (dsR J n f) fun r c=>by
  unfold dsR
  split
  ·unfold rw0
   split
   ·exact hone 1 (by decide)
   ·split
    ·exact hone n (by omega)
    ·exact Nat.zero_le _
  ·exact qjO (P:=fun l=>nrm l<=4294967296 ^ A) r (Nat.zero_le _) _ (fun p hp=>(List.mem_append.1 hp).elim (hb f _ hf r p) (hb _ _ hg r p)) c
 have hc:=qhR (n - 1 - 0+(n - 0)) (by omega);unfold dsL;rw [qgB,show (sgD n).natAbs=1 by unfold sgD;split <;> rfl,Nat.one_mul,qan];refine Nat.lt_of_le_of_lt hl ?_;rw [show n - 1 - 0+(n - 0)=n - 1+n by omega] at *;generalize n - 1+n=N at *;rw [<- Nat.pow_mul,Nat.mul_comm A,Nat.pow_succ,Nat.mul_comm];exact Nat.mul_lt_mul_of_pos_left hc (Nat.pow_pos (by decide))
section
variable {J:Nat} (h1:1<=J) (h4:J<=4)
include h1 h4
end


section
variable {J:Nat} (h1:1<=J) (h4:J<=4)
include h1 h4
end




def sgS (n:Nat) (l:List Tm):List Tm:=if n % 4>1 then qbz l else l
theorem qsm {n:Nat} {l:List Tm} (h:NN l):NN (sgS n l):=by
 unfold sgS
 split
 ·exact qdw h
 ·exact h
theorem qsB (x:Nat->Int) (n:Nat) {l:List Tm} (h:NN l):ev x (sgS n l)=sgD n*ev x l:=by
 unfold sgS sgD
 split
 ·rw [qhV x h];omega
 ·omega
theorem qtq:qo1 1000 200 4 100:=⟨by decide,by decide,by decide,by decide⟩
theorem qkR {J n : Nat} {f : List Tm} (h1 : 1 <= J) (h4 : J <= 4) (hn : 1 <= n) (hn4 : n <= 4) (hf : Sz 4 20 f) (hg : dlen (nrm (poly J n (dvC J f))) <= 21) (df : DgR J f n) (hS : Deg 1000 (SJ J 0 n (n - 1) f (poly J n (dvC J f)))) (M : Nat -> Prop) (x y : PE) (w : World) (hM : Mb M w)
  (hx:PI M w x (sgS n (SJ J 0 n (n - 1) f (poly J n (dvC J f))))) (hy:PI M w y (ck J (n:Int) f)) :
  Calls Tryz.prog 14 #[.agg (peA x),.agg (peA y)] w fun e w'=>∃ v,e = .returned (.tuple #[.agg (peA v),.int .i64 0])/\CRx M w' 4 v (dsL J n f)/\Ext w w':=by
 have nf:=hf.n;have hd:=qtx h1 h4 nf hn hn4 df;have nS:=qcJ h1 h4 nf (qfW h1 h4 nf n) 0 n (n - 1);have nl:NN (ck J (n:Int) f):=qb2 h1 h4 nf;have zl : ¬ Sim (ck J (n:Int) f) []:=df.ckn h1 h4 hn
 have hu:Sim (pmul (dsL J n f) (ck J (n:Int) f)) (sgS n (SJ J 0 n (n - 1) f (poly J n (dvC J f)))):=qe8 (qez hd.1 nl) (qsm nS) fun x=>by
  rw [qbH x hd.1 nl,qsB x n nS];exact hd.2 x
 have hdl:dlen (nrm (dsL J n f))<=200:=Nat.le_trans (qsN (A:=21) (by decide) (Nat.le_trans hf.a (by decide)) hg hn hn4) (by
  have:n - 1+n<=7:=by omega
  have:=Nat.mul_le_mul_right 21 this
  omega)
 have hdg:Deg 1000 (dsL J n f):=qdf hd.1 nl zl hu (by
  unfold sgS
  split
  ·exact fun m hm k=>hS m (fun e=>hm (by rw [qaL,e];rfl)) k
  ·exact hS)
 have hck:=hf.ck h1 h4 (n:Int);refine (qjR qtq M _ _ (dsL J n f) x y w hM hx hy hd.1 hu hdg hdl hck.2.2.1 (Nat.le_trans hck.2.2.2 (by decide))).mono ?_;rintro e w' ⟨v,er,rfl,hc,hE⟩;rcases hc with ⟨_,hz,_⟩ | ⟨rfl,_,q,hq,hqs,_⟩ | ⟨_,_,_,hdv⟩
 ·exact absurd hz zl
 ·refine ⟨v,rfl,hq.sim ?_,hE⟩;exact qbt hq.nn hd.1 nl zl (hqs.trans hu.symm)
 ·exact absurd ⟨dsL J n f,hd.1,hu⟩ hdv


theorem qm8 {J B:Nat} (h1:1<=J) (h4:J<=4) {f:List Tm} (hB:Deg B f) : ∀ n,Deg B (poly J n (dvC J f))
 | 0=>fun m hm=>absurd rfl hm
 | n+1=>by
  rw [qaf];refine (qm8 h1 h4 hB n).append fun m hm k=>?_;rw [qaA] at hm;unfold dvC at hm;rw [(qbi _ _) _,qbl,qao,qaQ h1 h4] at hm
  split at hm
  ·rename_i h0;have hm2:qab f (Mo.add (Mo.sub m (xp J (n:Int))) (xp J ((n+1:Nat):Int)))≠0:=fun e=>hm (by rw [e];exact Int.mul_zero _);have h5:=hB _ hm2 k;rw [qas,qbG] at h5
   have h6:(xp J ((n+1:Nat):Int)).get k=(xp J (n:Int)).get k+(xp J 1).get k:=by
    rw [qat J k _ h1 h4,qat J k _ h1 h4,qat J k _ h1 h4]
    split <;> omega
   have h7:0<=(xp J 1).get k:=by
    rw [qat J k _ h1 h4]
    split <;> omega
   omega
  ·exact absurd (Int.mul_zero _) hm
theorem qpH {J n A:Nat} {f:List Tm} (hn:n<=100) (hf:dlen (nrm f)<=A):dlen (nrm (poly J n (dvC J f)))<=A+1:=by
 have h1:nrm (poly J n (dvC J f))<=n*(n*nrm f):=qiA J n (dvC J f) (n*nrm f) fun i hi=>by
  unfold dvC;rw [qbb,show nrm [(((i+1:Nat):Int),Mo.zero)]=i+1 by show (((i+1:Nat):Int)).natAbs+0=_;omega,Nat.mul_comm];exact Nat.mul_le_mul (by omega) (qew _ _ _)
 rw [qan] at *;refine Nat.lt_of_le_of_lt h1 ?_;rw [<- Nat.mul_assoc,Nat.pow_succ,Nat.mul_comm];have h2:n*n<=100*100:=Nat.mul_le_mul hn hn;exact Nat.mul_lt_mul_of_lt_of_le hf (by omega) (by decide)
theorem qrU {J n:Nat} (h1:1<=J) (h4:J<=4) {f:List Tm} (hn:n<=100) (hf:Sz 4 20 f):Sz 4 21 (poly J n (dvC J f)):=⟨qfW h1 h4 hf.n n,qm8 h1 h4 hf.d n,qpH hn hf.a⟩
theorem Gn.of44 {J m n:Nat} (h1:1<=J) (h4:J<=4) {f g:List Tm} (hf:Sz 4 1000 f) (hg:Sz 4 1000 g) (zf : ¬ Sim f []) (zg : ¬ Sim g []) (df:DgR J f m) (dg:DgR J g n) (hm:m<=4) (hn:n<=4):Gn J m n 4 f g:=
 ⟨h1,h4,hf,hg,zf,zg,df,dg,by omega,by omega,fun h=>qtI m hm n h,fun h=>qtI n hn m h⟩




section
variable {J m n:Nat} {f g:List Tm} (h1:1<=J) (h4:J<=4) (nf:NN f) (ng:NN g) (df:DgR J f m) (dg:DgR J g n) (hm:m=1∨m=2) (hn:n=1∨n=2)
include h1 h4 nf ng df dg hm hn
end
end Go.Proofs.YtmcfpnmoklnhoaaGreat
