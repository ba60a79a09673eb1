/- The discriminant of a polynomial in several variables, plain: the leading coefficient divides the resultant with the derivative. The discriminant of a product, and that of a square, plain. The leading coefficient divides the resultant with the derivative: the quotient as a determinant, plain. The size of the discriminant; the discriminant of a square is 0, plain. The discriminants of degrees 1, 2 and 3 by formulas; the resultant vanishes exactly if there is a common factor; plain. The resultant vanishes at every common zero, plain. pseudo.Exact at a discriminant. Sizes of the derivative; a polynomial and its derivative have a chain of subresultants. Common factors and the resultant, for all degrees; plain. ResultantDegree, plain: the discriminant of a product and of a square. -/
import Derived.Test.YtlmipmebdelgbaaGreatVa
import Derived.Test.YtlmipmebdelgbaaGreatDu
import Derived.Test.YtlmipmebdelgbaaGreatTa
import Derived.Test.YtlmipmebdelgbaaGreatTf
set_option linter.unusedVariables false
set_option maxRecDepth 100000
set_option maxHeartbeats 400000000
set_option linter.unusedSimpArgs false

namespace Go.Proofs.YtlmipmebdelgbaaGreat
open Go.RowKit

theorem qnv {n:Nat} {a b:Nat->Nat->Int} (s:Int) (h0 : ∀ c,c<n+1->a 0 c=s*b 0 c) (h : ∀ r c,a (r+1) c=b (r+1) c):qe0 (n+1) a=s*qe0 (n+1) b:=by
 have hm : ∀ c,mnI a c=mnI b c:=fun c=>by funext r k;exact h r _
 have : ∀ c,c<=n+1->qbY (qe0 n) a c=s*qbY (qe0 n) b c:=fun c=>by
  induction c with
  | zero=>intro _;simp [qbY]
  | succ c ih=>
   intro hc;simp only [qbY];rw [ih (by omega),h0 c (by omega),hm c];generalize qbY (qe0 n) b c=p;generalize qe0 n (mnI b c)=q;generalize b 0 c=t;generalize sg1 c=v
   grind
 exact this _ (Nat.le_refl _)
theorem qpK {J:Nat} {f:List Tm} {i:Nat} (h : ¬ Sim (ck J ((i+1:Nat):Int) f) []) : ¬ Sim (dvC J f i) []:=fun hs=>h fun m=>by
 have:=hs m;unfold dvC at this;rw [(qbo _ _) m,qbf,qal] at this
 have h0:(((i+1:Nat):Int))≠0:=by omega
 rcases Int.mul_eq_zero.1 this with h | h
 ·exact absurd h h0
 ·exact h
theorem qoK {m:Nat} {F G:Nat->Int} (h : ∀ k,k<=m->F k=G k):li m F=li m G:=List.map_congr_left fun k hk=>h k (by have:=List.mem_range.1 hk;omega)
section
variable {J:Nat} (h1:1<=J) (h4:J<=4)
include h1 h4
theorem qsn {f:List Tm} (nf:NN f) (i:Nat):NN (dvC J f i):=qam (qa1 h1 h4 nf) (qbI _)
theorem qrg (f:List Tm) (i:Nat):Fre J (dvC J f i):=fun m hm=>by
 unfold dvC at hm;rw [(qbo _ _) m,qbf,qal] at hm;exact qcf h1 h4 _ f m fun e=>hm (by rw [e];simp)
theorem qsB (x:Nat->Int) {f:List Tm} (nf:NN f) (i:Nat):ev x (dvC J f i)=dvI (fun k=>ev x (ck J (k:Int) f)) i:=by
 unfold dvC dvI;rw [qaf x (qa1 h1 h4 nf) (qbI _),qfM,Int.mul_comm]
theorem qdh {f:List Tm} (nf:NN f) (n:Nat):NN (poly J n (dvC J f)):=NN.poly fun i _=>qsn h1 h4 nf i
theorem qkG (f:List Tm) (n k:Nat):Sim (ck J (k:Int) (poly J n (dvC J f))) (if k<n then dvC J f k else []):=ckP h1 h4 (fun i=>qrg h1 h4 f i) k n
theorem qjl {f:List Tm} (nf:NN f) {n:Nat} (hn:1<=n) (df:DgR J f n):DgR J (poly J n (dvC J f)) (n - 1):=by
 refine qhp h1 h4 (qdh h1 h4 nf n) (fun i hi=>(qkG h1 h4 f n i).trans (by rw [if_neg (by omega)];exact Sim.refl _)) ?_;refine .inr fun hs=>?_;have h:=(qkG h1 h4 f n (n - 1)).symm.trans hs;rw [if_pos (by omega)] at h;exact qpK (by rw [show n - 1+1=n by omega];exact df.ckn h1 h4 hn) h
theorem qpu (x:Nat->Int) {f:List Tm} (nf:NN f) {n:Nat} (hn:1<=n) (df:DgR J f n):pv J x (poly J n (dvC J f))=pL (x (J - 1)) (li (n - 1) (dvI fun k=>ev x (ck J (k:Int) f))):=by
 rw [qk4 h1 h4 x (qdh h1 h4 nf n) (qjl h1 h4 nf hn df)]
 congr 1
 refine qoK fun k hk=>?_;rw [qaK x (qkG h1 h4 f n k),if_pos (by omega),qsB h1 h4 x nf]
end


def sgD (n:Nat):Int:=if n % 4>1 then -1 else 1
def Dsc (J n:Nat) (f u:List Tm):Prop:=NN u /\ ∀ x,ev x u*ev x (ck J (n:Int) f)=sgD n*ev x (SJ J 0 n (n - 1) f (poly J n (dvC J f)))
section
variable {J:Nat} (h1:1<=J) (h4:J<=4)
include h1 h4
theorem qjh (x:Nat->Int) {f:List Tm} (nf:NN f) {n:Nat} (hn:1<=n) (df:DgR J f n):ev x (SJ J 0 n (n - 1) f (poly J n (dvC J f)))=dS (x (J - 1)) 0 n (n - 1) (pL (x (J - 1)) (li n fun k=>ev x (ck J (k:Int) f))) (pL (x (J - 1)) (li (n - 1) (dvI fun k=>ev x (ck J (k:Int) f)))):=by
 rw [qeZ h1 h4 x nf (qdh h1 h4 nf n),qpu h1 h4 x nf hn df,qk4 h1 h4 x nf df]
theorem qrz (x:Nat->Int) {m n:Nat} {f g:List Tm} (nf:NN f) (ng:NN g) (df:DgR J f m) (dg:DgR J g n) (hm:m=1∨m=2) (hn:n=1∨n=2):ev x (ck J ((m+n:Nat):Int) (pmul f g))=ev x (ck J (m:Int) f)*ev x (ck J (n:Int) g):=by
 rw [qml h1 h4 x nf ng df dg];rcases hm with rfl | rfl <;> rcases hn with rfl | rfl <;> simp [cv,sm]
theorem qo2 {m n : Nat} {f g d a b : List Tm} (nf : NN f) (ng : NN g) (df : DgR J f m) (dg : DgR J g n) (df2 : DgR J (pmul f g) (m + n)) (hm : m = 1 ∨ m = 2) (hn : n = 1 ∨ n = 2) (hd : Dsc J (m + n) (pmul f g) d) (ha : Dsc J m f a) (hb : Dsc J n g b) :
  Sim d (pmul (pmul a b) (pmul (SJ J 0 m n f g) (SJ J 0 m n f g))):=by
 have nr:=qaX h1 h4 nf ng 0 m n;have nfg:=qam nf ng;have hz:=df2.ckn h1 h4 (by omega);refine qcg (p:=ck J ((m+n:Nat):Int) (pmul f g)) (qa1 h1 h4 nfg) hd.1 (qam (qam ha.1 hb.1) (qam nr nr)) hz fun x=>?_;have e0:=hd.2 x;have e1:=ha.2 x;have e2:=hb.2 x;rw [qjh h1 h4 x nfg (by omega) df2,show (fun k:Nat=>ev x (ck J (k:Int) (pmul f g)))=cv m n (fun k=>ev x (ck J (k:Int) f)) (fun k=>ev x (ck J (k:Int) g)) from funext fun k=>qml h1 h4 x nf ng df dg k,qtB _ _ _ m n hm hn] at e0;rw [qjh h1 h4 x nf (by omega) df] at e1;rw [qjh h1 h4 x ng (by omega) dg] at e2;rw [qaf x (qam ha.1 hb.1) (qam nr nr),qaf x ha.1 hb.1,qaf x nr nr,qeZ h1 h4 x nf ng,qk4 h1 h4 x nf df,qk4 h1 h4 x ng dg];have e3:=qrz h1 h4 x nf ng df dg hm hn
 have hs:sgD (m+n)*sgk (m*n)=sgD m*sgD n:=by rcases hm with rfl | rfl <;> rcases hn with rfl | rfl <;> rfl
 generalize ev x (ck J ((m+n:Nat):Int) (pmul f g))=L at *;generalize dS (x (J - 1)) 0 m (m - 1) _ _=S1 at *;generalize dS (x (J - 1)) 0 n (n - 1) _ _=S2 at *;generalize dS (x (J - 1)) 0 m n _ _=R at *;generalize ev x (ck J (m:Int) f)=A at *;generalize ev x (ck J (n:Int) g)=B at *;generalize ev x d=d' at *;generalize ev x a=a' at *;generalize ev x b=b' at *;generalize sgD (m+n)=s1 at *;generalize sgD m=s2 at *;generalize sgD n=s3 at *;generalize sgk (m*n)=s4 at *
 have q1:A*B*(a'*b'*(R*R))=(a'*A)*(b'*B)*(R*R):=by grind
 rw [Int.mul_comm,e0,e3,q1,e1,e2]
 have q2:s1*(s4*(S1*S2*(R*R)))=(s1*s4)*(S1*S2*(R*R)):=by grind
 rw [q2,hs]
 grind
end


def rw0 (n c:Nat):List Tm:=if c=0/\2<=n then [(1,Mo.zero)] else if c+1=n then [((n:Int),Mo.zero)] else []
def dsP (J n:Nat) (f:List Tm):Nat->Nat->List Tm:=fun r c=>(pbl (n+(n - 1) - 0 - 1) 0 J f (n - 1 - 0) ++ pbl (n+(n - 1) - 0 - 1) 0 J (poly J n (dvC J f)) (n - 0)).getD c (fun _=>[]) r
def dsR (J n:Nat) (f:List Tm):Nat->Nat->List Tm:=fun r c=>if r=0 then rw0 n c else dsP J n f r c
def dsL (J n:Nat) (f:List Tm):List Tm:=smul (sgD n) (qnZ (n - 1 - 0+(n - 0)) (dsR J n f))
section
variable {J:Nat} (h1:1<=J) (h4:J<=4)
include h1 h4
theorem qpB {f:List Tm} (nf:NN f) (n r c:Nat):NN (dsP J n f r c):=qjI h1 h4 (j:=0) (m:=n) (n:=n - 1) nf (qdh h1 h4 nf n) _ c r
theorem qpA {f:List Tm} (nf:NN f) (n r c:Nat):NN (dsR J n f r c):=by
 unfold dsR rw0
 split
 ·split
  ·exact qbI 1
  ·split
   ·exact qbI _
   ·exact NN.nil
 ·exact qpB h1 h4 nf n r c
theorem qpC {f:List Tm} (nf:NN f) (n:Nat):NN (dsL J n f):=qj2 (qha _ _ fun r c=>qpA h1 h4 nf n r c) _
theorem qsC (x:Nat->Int) {f:List Tm} (nf:NN f) (n r c:Nat):ev x (dsP J n f r c)=qlr ((bl (x (J - 1)) (pv J x f) (n - 1) ++ bl (x (J - 1)) (pv J x (poly J n (dvC J f))) n).map (Pv.vec (n+(n - 1) - 0 - 1) 0)) r c:=by
 unfold dsP;rw [qja];unfold qlr bl pbl;simp only [List.map_append,List.map_map,Nat.sub_zero];refine congrFun (congrArg (fun L:List (Nat->Int)=>L.getD c (fun _=>0)) ?_) r
 congr 1
 ·refine List.map_congr_left fun i _=>?_;exact qgZ h1 h4 x nf _ _ i
 ·refine List.map_congr_left fun i _=>?_;exact qgZ h1 h4 x (qdh h1 h4 nf n) _ _ i
theorem qtW (x:Nat->Int) {f:List Tm} (nf:NN f) {n:Nat} (hn:1<=n) (hn4:n<=4) (df:DgR J f n) (c:Nat) (hc:c<n - 1+n):ev x (dsP J n f 0 c)=ev x (ck J (n:Int) f)*ev x (rw0 n c):=by
 rw [qsC h1 h4 x nf,qpu h1 h4 x nf hn df,qk4 h1 h4 x nf df];rcases (show n=1∨n=2∨n=3∨n=4 by omega) with rfl | rfl | rfl | rfl
 all_goals rcases (show c=0∨c=1∨c=2∨c=3∨c=4∨c=5∨c=6 by omega) with rfl | rfl | rfl | rfl | rfl | rfl | rfl
 all_goals first | (exfalso;omega) | skip
 all_goals simp [qlr,bl,dn,qca,li,dvI,List.range,List.range.loop,rw0,qfM,ev,hrn]
 all_goals grind
theorem qnn {f:List Tm} (nf:NN f) {n:Nat} (hn:1<=n) (hn4:n<=4) (df:DgR J f n):Dsc J n f (dsL J n f):=by
 refine ⟨qpC h1 h4 nf n,fun x=>?_⟩;unfold dsL;rw [qhl,qhm x _ _ fun r c=>qpA h1 h4 nf n r c];have hS:ev x (SJ J 0 n (n - 1) f (poly J n (dvC J f)))=qe0 (n - 1 - 0+(n - 0)) (fun r c=>ev x (dsP J n f r c)):=qhm x _ _ fun r c=>qpB h1 h4 nf n r c;rw [hS];obtain ⟨N,hN⟩ : ∃ N,n - 1 - 0+(n - 0)=N+1:=⟨n - 1 - 0+(n - 0) - 1,by omega⟩;rw [hN,qnv (a:=fun r c=>ev x (dsP J n f r c)) (b:=fun r c=>ev x (dsR J n f r c)) (ev x (ck J (n:Int) f)) (fun c hc=>?_) fun r c=>?_]
 ·generalize qe0 _ _=d;generalize ev x _=a
  grind
 ·show ev x (dsP J n f 0 c)=_*ev x (if 0=0 then rw0 n c else _);rw [if_pos rfl];exact qtW h1 h4 x nf hn hn4 df c (by omega)
 ·show _=ev x (if r+1=0 then rw0 n c else dsP J n f (r+1) c);rw [if_neg (by omega)]
end


theorem qpN {J A n:Nat} {f:List Tm} (hA:1<=A) (hf:dlen (nrm f)<=A) (hg:dlen (nrm (poly J n (dvC J f)))<=A) (hn:1<=n) (hn4:n<=4):dlen (nrm (dsL J n f))<=(n - 1+n)*A+1:=by
 have hone : ∀ z:Int,z.natAbs<=4->nrm [(z,Mo.zero)]<=4294967296 ^ A:=fun z hz=>by
  have:4294967296 ^ 1<=4294967296 ^ A:=Nat.pow_le_pow_right (by decide) hA;show z.natAbs+0<=_;omega
 have hb : ∀ (F:List Tm) (N:Nat),dlen (nrm F)<=A -> ∀ r,∀ p ∈ pbl (n+(n - 1) - 0 - 1) 0 J F N,nrm (p r)<=4294967296 ^ A:=fun F N hF r p hp=>by
  obtain ⟨i,hi,rfl⟩:=List.mem_map.1 hp;have hF2:=Nat.le_of_lt ((qan _ _).1 hF);show nrm (if r<n+(n - 1) - 0 - 1 - 0 then (if n+(n - 1) - 0 - 1 - r<i then [] else ck J ((n+(n - 1) - 0 - 1 - r - i:Nat):Int) F) else shift (xp J (i:Int)) F)<=_
  split
  ·split
   ·exact Nat.zero_le _
   ·exact Nat.le_trans (qeU _ _ _) hF2
  ·rw [qa0];exact hF2
 have hl:=qg7 (N:=4294967296 ^ A) (n - 1 - 0+(n - 0)) (dsR J n f) fun r c=>by
  unfold dsR
  split
  ·unfold rw0
   split
   ·exact hone 1 (by decide)
   ·split
    ·exact hone n (by omega)
    ·exact Nat.zero_le _
  ·exact qkh (P:=fun l=>nrm l<=4294967296 ^ A) r (Nat.zero_le _) _ (fun p hp=>(List.mem_append.1 hp).elim (hb f _ hf r p) (hb _ _ hg r p)) c
 have hc:=qij (n - 1 - 0+(n - 0)) (by omega);unfold dsL;rw [qdp,show (sgD n).natAbs=1 by unfold sgD;split <;> rfl,Nat.one_mul,qan];refine Nat.lt_of_le_of_lt hl ?_;rw [show n - 1 - 0+(n - 0)=n - 1+n by omega] at *;generalize n - 1+n=N at *;rw [<- Nat.pow_mul,Nat.mul_comm A,Nat.pow_succ,Nat.mul_comm];exact Nat.mul_lt_mul_of_pos_left hc (Nat.pow_pos (by decide))
section
variable {J:Nat} (h1:1<=J) (h4:J<=4)
include h1 h4
theorem qok {f:List Tm} (nf:NN f) {m:Nat} (hm:m=1∨m=2) (df:DgR J f m):Sim (SJ J 0 m m f f) []:=by
 refine qc5 (qaX h1 h4 nf nf _ _ _) NN.nil fun x=>?_;rw [qeZ h1 h4 x nf nf,qk4 h1 h4 x nf df];rcases hm with rfl | rfl
 all_goals simp [li,List.range,List.range.loop,dS,DD,bl,dn,qsO,qoT,qnj,qnk,qnl,qnm,sD,drC,qck,qcj,qca,qf1,qf0,qfZ,qfY,hrn,sg1,ev]
 all_goals grind
end


section
variable {J:Nat} (h1:1<=J) (h4:J<=4)
include h1 h4
end




def sgS (n:Nat) (l:List Tm):List Tm:=if n % 4>1 then qbD l else l
theorem qpz {n:Nat} {l:List Tm} (h:NN l):NN (sgS n l):=by
 unfold sgS
 split
 ·exact qbx h
 ·exact h
theorem qpJ (x:Nat->Int) (n:Nat) {l:List Tm} (h:NN l):ev x (sgS n l)=sgD n*ev x l:=by
 unfold sgS sgD
 split
 ·rw [qeP x h];omega
 ·omega
theorem qtt:qnQ 1000 200 4 100:=⟨by decide,by decide,by decide,by decide⟩
theorem qlp {J n : Nat} {f : List Tm} (h1 : 1 <= J) (h4 : J <= 4) (hn : 1 <= n) (hn4 : n <= 4) (hf : Sz 4 20 f) (hg : dlen (nrm (poly J n (dvC J f))) <= 21) (df : DgR J f n) (hS : Deg 1000 (SJ J 0 n (n - 1) f (poly J n (dvC J f)))) (M : Nat -> Prop) (x y : PE) (w : World) (hM : Mb M w)
  (hx:PI M w x (sgS n (SJ J 0 n (n - 1) f (poly J n (dvC J f))))) (hy:PI M w y (ck J (n:Int) f)) :
  Calls Tryz.prog 46 #[.agg (peA x),.agg (peA y)] w fun e w'=>∃ v,e = .returned (.tuple #[.agg (peA v),.int .i64 0])/\CRx M w' 4 v (dsL J n f)/\Ext w w':=by
 have nf:=hf.n;have hd:=qnn h1 h4 nf hn hn4 df;have nS:=qaX h1 h4 nf (qdh h1 h4 nf n) 0 n (n - 1);have nl:NN (ck J (n:Int) f):=qa1 h1 h4 nf;have zl : ¬ Sim (ck J (n:Int) f) []:=df.ckn h1 h4 hn
 have hu:Sim (pmul (dsL J n f) (ck J (n:Int) f)) (sgS n (SJ J 0 n (n - 1) f (poly J n (dvC J f)))):=qc5 (qam hd.1 nl) (qpz nS) fun x=>by
  rw [qaf x hd.1 nl,qpJ x n nS];exact hd.2 x
 have hdl:dlen (nrm (dsL J n f))<=200:=Nat.le_trans (qpN (A:=21) (by decide) (Nat.le_trans hf.a (by decide)) hg hn hn4) (by
  have:n - 1+n<=7:=by omega
  have:=Nat.mul_le_mul_right 21 this
  omega)
 have hdg:Deg 1000 (dsL J n f):=qew hd.1 nl zl hu (by
  unfold sgS
  split
  ·exact fun m hm k=>hS m (fun e=>hm (by rw [qaI,e];rfl)) k
  ·exact hS)
 have hck:=hf.ck h1 h4 (n:Int);refine (qkn qtt M _ _ (dsL J n f) x y w hM hx hy hd.1 hu hdg hdl hck.2.2.1 (Nat.le_trans hck.2.2.2 (by decide))).mono ?_;rintro e w' ⟨v,er,rfl,hc,hE⟩;rcases hc with ⟨_,hz,_⟩ | ⟨rfl,_,q,hq,hqs,_⟩ | ⟨_,_,_,hdv⟩
 ·exact absurd hz zl
 ·refine ⟨v,rfl,hq.sim ?_,hE⟩;exact qbQ hq.nn hd.1 nl zl (hqs.trans hu.symm)
 ·exact absurd ⟨dsL J n f,hd.1,hu⟩ hdv


theorem qjm {J B:Nat} (h1:1<=J) (h4:J<=4) {f:List Tm} (hB:Deg B f) : ∀ n,Deg B (poly J n (dvC J f))
 | 0=>fun m hm=>absurd rfl hm
 | n+1=>by
  rw [qag];refine (qjm h1 h4 hB n).append fun m hm k=>?_;rw [qaC] at hm;unfold dvC at hm;rw [(qbo _ _) _,qbf,qal,qaY h1 h4] at hm
  split at hm
  ·rename_i h0;have hm2:qab f (Mo.add (Mo.sub m (xp J (n:Int))) (xp J ((n+1:Nat):Int)))≠0:=fun e=>hm (by rw [e];exact Int.mul_zero _);have h5:=hB _ hm2 k;rw [qau,qbL] at h5
   have h6:(xp J ((n+1:Nat):Int)).get k=(xp J (n:Int)).get k+(xp J 1).get k:=by
    rw [qay J k _ h1 h4,qay J k _ h1 h4,qay J k _ h1 h4]
    split <;> omega
   have h7:0<=(xp J 1).get k:=by
    rw [qay J k _ h1 h4]
    split <;> omega
   omega
  ·exact absurd (Int.mul_zero _) hm
theorem qnp {J n A:Nat} {f:List Tm} (hn:n<=100) (hf:dlen (nrm f)<=A):dlen (nrm (poly J n (dvC J f)))<=A+1:=by
 have h1:nrm (poly J n (dvC J f))<=n*(n*nrm f):=qi1 J n (dvC J f) (n*nrm f) fun i hi=>by
  unfold dvC;rw [qbs,show nrm [(((i+1:Nat):Int),Mo.zero)]=i+1 by show (((i+1:Nat):Int)).natAbs+0=_;omega,Nat.mul_comm];exact Nat.mul_le_mul (by omega) (qeU _ _ _)
 rw [qan] at *;refine Nat.lt_of_le_of_lt h1 ?_;rw [<- Nat.mul_assoc,Nat.pow_succ,Nat.mul_comm];have h2:n*n<=100*100:=Nat.mul_le_mul hn hn;exact Nat.mul_lt_mul_of_lt_of_le hf (by omega) (by decide)
theorem qr3 {J n:Nat} (h1:1<=J) (h4:J<=4) {f:List Tm} (hn:n<=100) (hf:Sz 4 20 f):Sz 4 21 (poly J n (dvC J f)):=⟨qdh h1 h4 hf.n n,qjm h1 h4 hf.d n,qnp hn hf.a⟩
theorem Gn.of44 {J m n:Nat} (h1:1<=J) (h4:J<=4) {f g:List Tm} (hf:Sz 4 1000 f) (hg:Sz 4 1000 g) (zf : ¬ Sim f []) (zg : ¬ Sim g []) (df:DgR J f m) (dg:DgR J g n) (hm:m<=4) (hn:n<=4):Gn J m n 4 f g:=
 ⟨h1,h4,hf,hg,zf,zg,df,dg,by omega,by omega,fun h=>qtL m hm n h,fun h=>qtL n hn m h⟩




section
variable {J m n:Nat} {f g:List Tm} (h1:1<=J) (h4:J<=4) (nf:NN f) (ng:NN g) (df:DgR J f m) (dg:DgR J g n) (hm:m=1∨m=2) (hn:n=1∨n=2)
include h1 h4 nf ng df dg hm hn
theorem qiq:Sim (dsL J (m+n) (pmul f g)) (pmul (pmul (dsL J m f) (dsL J n g)) (pmul (SJ J 0 m n f g) (SJ J 0 m n f g))):=by
 have df2:=qdu h1 h4 nf ng (df.nz h1 h4 (by omega)) (dg.nz h1 h4 (by omega)) df dg;exact qo2 h1 h4 nf ng df dg df2 hm hn (qnn h1 h4 (qam nf ng) (by omega) (by omega) df2) (qnn h1 h4 nf (by omega) (by omega) df) (qnn h1 h4 ng (by omega) (by omega) dg)
end
theorem qrn {J m:Nat} {f:List Tm} (h1:1<=J) (h4:J<=4) (nf:NN f) (df:DgR J f m) (hm:m=1∨m=2):Sim (dsL J (m+m) (pmul f f)) []:=
 (qiq h1 h4 nf nf df df hm hm).trans (((((qok h1 h4 nf hm df).pmul_right (SJ J 0 m m f f)).pmul_right _).trans (by
  have e : ∀ l:List Tm,Sim (pmul l []) []:=fun l=>Sim.pmul_comm l []
  exact ((e _).pmul_right _).trans (e _))))
end Go.Proofs.YtlmipmebdelgbaaGreat
