/- The discriminant of a polynomial in several variables, plain: the leading coefficient divides the resultant with the derivative. The discriminant of a product, and that of a square, plain. The leading coefficient divides the resultant with the derivative: the quotient as a determinant, plain. The size of the discriminant; the discriminant of a square is 0, plain. The discriminants of degrees 1, 2 and 3 by formulas; the resultant vanishes exactly if there is a common factor; plain. The resultant vanishes at every common zero, plain. pseudo.Exact at a discriminant. Sizes of the derivative; a polynomial and its derivative have a chain of subresultants. Common factors and the resultant, for all degrees; plain. ResultantDegree, plain: the discriminant of a product and of a square. -/
import Derived.Test.YtlmipmebdelgbaaGreatVa
import Derived.Test.YtlmipmebdelgbaaGreatDu
import Derived.Test.YtlmipmebdelgbaaGreatTa
import Derived.Test.YtlmipmebdelgbaaGreatTf
set_option linter.unusedVariables false
set_option linter.unusedSimpArgs false

namespace Go.Proofs.YtlmipmebdelgbaaGreat
open Go.RowKit

theorem qmj {n:Nat} {a b:Nat->Nat->Int} (s:Int) (h0 : ∀ c,c<n+1->a 0 c=s*b 0 c) (h : ∀ r c,a (r+1) c=b (r+1) c):qek (n+1) a=s*qek (n+1) b:=by
 have hm : ∀ c,mnI a c=mnI b c:=fun c=>by funext r k;exact h r _
 have : ∀ c,c<=n+1->qbN (qek n) a c=s*qbN (qek n) b c:=fun c=>by
  induction c with
  | zero=>intro _;simp [qbN]
  | succ c ih=>
   intro hc
   simp only [qbN]
   rw [ih (by omega),h0 c (by omega),hm c]
   generalize qbN (qek n) b c=p
   generalize qek n (mnI b c)=q
   generalize b 0 c=t
   generalize sg1 c=v
   grind
 exact this _ (Nat.le_refl _)
theorem qoC {J:Nat} {f:List Tm} {i:Nat} (h : ¬ Sim (ck J ((i+1:Nat):Int) f) []) : ¬ Sim (dvC J f i) []:=fun hs=>h fun m=>by
 have:=hs m
 unfold dvC at this
 rw [(qa8 _ _) m,qbc,qai] at this
 have h0:(((i+1:Nat):Int))≠0:=by omega
 rcases Int.mul_eq_zero.1 this with h | h
 ·exact absurd h h0
 ·exact h
theorem qnC {m:Nat} {F G:Nat->Int} (h : ∀ k,k<=m->F k=G k):li m F=li m G:=List.map_congr_left fun k hk=>h k (by have:=List.mem_range.1 hk;omega)
section
variable {J:Nat} (h1:1<=J) (h4:J<=4)
include h1 h4
theorem qrg {f:List Tm} (nf:NN f) (i:Nat):NN (dvC J f i):=qaT (qaY h1 h4 nf) (qdk _)
theorem qp3 (f:List Tm) (i:Nat):Fre J (dvC J f i):=fun m hm=>by
 unfold dvC at hm
 rw [(qa8 _ _) m,qbc,qai] at hm
 exact qcy h1 h4 _ f m fun e=>hm (by rw [e];simp)
theorem qrv (x:Nat->Int) {f:List Tm} (nf:NN f) (i:Nat):ev x (dvC J f i)=dvI (fun k=>ev x (ck J (k:Int) f)) i:=by
 unfold dvC dvI
 rw [qaC x (qaY h1 h4 nf) (qdk _),qfe,Int.mul_comm]
theorem qfJ {f:List Tm} (nf:NN f) (n:Nat):NN (poly J n (dvC J f)):=NN.poly fun i _=>qrg h1 h4 nf i
theorem qjF (f:List Tm) (n k:Nat):Sim (ck J (k:Int) (poly J n (dvC J f))) (if k<n then dvC J f k else []):=ckP h1 h4 (fun i=>qp3 h1 h4 f i) k n
theorem qmh {f:List Tm} (nf:NN f) {n:Nat} (hn:1<=n) (df:DgR J f n):DgR J (poly J n (dvC J f)) (n - 1):=by
 refine qim h1 h4 (qfJ h1 h4 nf n) (fun i hi=>(qjF h1 h4 f n i).trans (by rw [if_neg (by omega)];exact Sim.refl _)) ?_
 refine .inr fun hs=>?_
 have h:=(qjF h1 h4 f n (n - 1)).symm.trans hs
 rw [if_pos (by omega)] at h
 exact qoC (by rw [show n - 1+1=n by omega];exact df.ckn h1 h4 hn) h
theorem qq9 (x:Nat->Int) {f:List Tm} (nf:NN f) {n:Nat} (hn:1<=n) (df:DgR J f n):pv J x (poly J n (dvC J f))=pL (x (J - 1)) (li (n - 1) (dvI fun k=>ev x (ck J (k:Int) f))):=by
 rw [qnf h1 h4 x (qfJ h1 h4 nf n) (qmh h1 h4 nf hn df)]
 congr 1
 refine qnC fun k hk=>?_
 rw [qaO x (qjF h1 h4 f n k),if_pos (by omega),qrv h1 h4 x nf]
end


def sgD (n:Nat):Int:=if n % 4>1 then -1 else 1
def Dsc (J n:Nat) (f u:List Tm):Prop:=NN u /\ ∀ x,ev x u*ev x (ck J (n:Int) f)=sgD n*ev x (SJ J 0 n (n - 1) f (poly J n (dvC J f)))
section
variable {J:Nat} (h1:1<=J) (h4:J<=4)
include h1 h4
theorem ev_disc (x:Nat->Int) {f:List Tm} (nf:NN f) {n:Nat} (hn:1<=n) (df:DgR J f n):ev x (SJ J 0 n (n - 1) f (poly J n (dvC J f)))=dS (x (J - 1)) 0 n (n - 1) (pL (x (J - 1)) (li n fun k=>ev x (ck J (k:Int) f))) (pL (x (J - 1)) (li (n - 1) (dvI fun k=>ev x (ck J (k:Int) f)))):=by
 rw [qfs h1 h4 x nf (qfJ h1 h4 nf n),qq9 h1 h4 x nf hn df,qnf h1 h4 x nf df]
end


def rw0 (n c:Nat):List Tm:=if c=0/\2<=n then [(1,Mo.zero)] else if c+1=n then [((n:Int),Mo.zero)] else []
def dsP (J n:Nat) (f:List Tm):Nat->Nat->List Tm:=fun r c=>(pbl (n+(n - 1) - 0 - 1) 0 J f (n - 1 - 0) ++ pbl (n+(n - 1) - 0 - 1) 0 J (poly J n (dvC J f)) (n - 0)).getD c (fun _=>[]) r
def dsR (J n:Nat) (f:List Tm):Nat->Nat->List Tm:=fun r c=>if r=0 then rw0 n c else dsP J n f r c
def dsL (J n:Nat) (f:List Tm):List Tm:=smul (sgD n) (qcp (n - 1 - 0+(n - 0)) (dsR J n f))
section
variable {J:Nat} (h1:1<=J) (h4:J<=4)
include h1 h4
theorem qot {f:List Tm} (nf:NN f) (n r c:Nat):NN (dsP J n f r c):=qiG h1 h4 (j:=0) (m:=n) (n:=n - 1) nf (qfJ h1 h4 nf n) _ c r
theorem qos {f:List Tm} (nf:NN f) (n r c:Nat):NN (dsR J n f r c):=by
 unfold dsR rw0
 split
 ·split
  ·exact qdk 1
  ·split
   ·exact qdk _
   ·exact NN.nil
 ·exact qot h1 h4 nf n r c
theorem qou {f:List Tm} (nf:NN f) (n:Nat):NN (dsL J n f):=qi3 (qe4 _ _ fun r c=>qos h1 h4 nf n r c) _
theorem qrw (x:Nat->Int) {f:List Tm} (nf:NN f) (n r c:Nat):ev x (dsP J n f r c)=qkn ((bl (x (J - 1)) (pv J x f) (n - 1) ++ bl (x (J - 1)) (pv J x (poly J n (dvC J f))) n).map (Pv.vec (n+(n - 1) - 0 - 1) 0)) r c:=by
 unfold dsP
 rw [qic]
 unfold qkn bl pbl
 simp only [List.map_append,List.map_map,Nat.sub_zero]
 refine congrFun (congrArg (fun L:List (Nat->Int)=>L.getD c (fun _=>0)) ?_) r
 congr 1
 ·refine List.map_congr_left fun i _=>?_
  exact qf9 h1 h4 x nf _ _ i
 ·refine List.map_congr_left fun i _=>?_
  exact qf9 h1 h4 x (qfJ h1 h4 nf n) _ _ i
set_option maxRecDepth 10000 in
theorem qsT (x:Nat->Int) {f:List Tm} (nf:NN f) {n:Nat} (hn:1<=n) (hn4:n<=4) (df:DgR J f n) (c:Nat) (hc:c<n - 1+n):ev x (dsP J n f 0 c)=ev x (ck J (n:Int) f)*ev x (rw0 n c):=by
 rw [qrw h1 h4 x nf,qq9 h1 h4 x nf hn df,qnf h1 h4 x nf df]
 rcases (show n=1∨n=2∨n=3∨n=4 by omega) with rfl | rfl | rfl | rfl
 all_goals rcases (show c=0∨c=1∨c=2∨c=3∨c=4∨c=5∨c=6 by omega) with rfl | rfl | rfl | rfl | rfl | rfl | rfl
 all_goals first | (exfalso;omega) | skip
 all_goals simp [qkn,bl,dn,qqM,li,dvI,List.range,List.range.loop,rw0,qfe,ev,hrn]
 all_goals grind
theorem qsx {f:List Tm} (nf:NN f) {n:Nat} (hn:1<=n) (hn4:n<=4) (df:DgR J f n):Dsc J n f (dsL J n f):=by
 refine ⟨qou h1 h4 nf n,fun x=>?_⟩
 unfold dsL
 rw [qgt,qff x _ _ fun r c=>qos h1 h4 nf n r c]
 have hS:ev x (SJ J 0 n (n - 1) f (poly J n (dvC J f)))=qek (n - 1 - 0+(n - 0)) (fun r c=>ev x (dsP J n f r c)):=qff x _ _ fun r c=>qot h1 h4 nf n r c
 rw [hS]
 obtain ⟨N,hN⟩ : ∃ N,n - 1 - 0+(n - 0)=N+1:=⟨n - 1 - 0+(n - 0) - 1,by omega⟩
 rw [hN,qmj (a:=fun r c=>ev x (dsP J n f r c)) (b:=fun r c=>ev x (dsR J n f r c)) (ev x (ck J (n:Int) f)) (fun c hc=>?_) fun r c=>?_]
 ·generalize qek _ _=d
  generalize ev x _=a
  grind
 ·show ev x (dsP J n f 0 c)=_*ev x (if 0=0 then rw0 n c else _)
  rw [if_pos rfl]
  exact qsT h1 h4 x nf hn hn4 df c (by omega)
 ·show _=ev x (if r+1=0 then rw0 n c else dsP J n f (r+1) c)
  rw [if_neg (by omega)]
end


theorem qrH {J A n:Nat} {f:List Tm} (hA:1<=A) (hf:dlen (nrm f)<=A) (hg:dlen (nrm (poly J n (dvC J f)))<=A) (hn:1<=n) (hn4:n<=4):dlen (nrm (dsL J n f))<=(n - 1+n)*A+1:=by
 have hone : ∀ z:Int,z.natAbs<=4->nrm [(z,Mo.zero)]<=4294967296 ^ A:=fun z hz=>by
  have:4294967296 ^ 1<=4294967296 ^ A:=Nat.pow_le_pow_right (by decide) hA
  show z.natAbs+0<=_
  omega
 have hb : ∀ (F:List Tm) (N:Nat),dlen (nrm F)<=A -> ∀ r,∀ p ∈ pbl (n+(n - 1) - 0 - 1) 0 J F N,nrm (p r)<=4294967296 ^ A:=fun F N hF r p hp=>by
  obtain ⟨i,hi,rfl⟩:=List.mem_map.1 hp
  have hF2:=Nat.le_of_lt ((qaj _ _).1 hF)
  show nrm (if r<n+(n - 1) - 0 - 1 - 0 then (if n+(n - 1) - 0 - 1 - r<i then [] else ck J ((n+(n - 1) - 0 - 1 - r - i:Nat):Int) F) else shift (xp J (i:Int)) F)<=_
  split
  ·split
   ·exact Nat.zero_le _
   ·exact Nat.le_trans (qdT _ _ _) hF2
  ·rw [qaV];exact hF2
 have hl:=qdI (N:=4294967296 ^ A) (n - 1 - 0+(n - 0)) (dsR J n f) fun r c=>by
  unfold dsR
  split
  ·unfold rw0
   split
   ·exact hone 1 (by decide)
   ·split
    ·exact hone n (by omega)
    ·exact Nat.zero_le _
  ·exact qjh (P:=fun l=>nrm l<=4294967296 ^ A) r (Nat.zero_le _) _ (fun p hp=>(List.mem_append.1 hp).elim (hb f _ hf r p) (hb _ _ hg r p)) c
 have hc:=qhm (n - 1 - 0+(n - 0)) (by omega)
 unfold dsL
 rw [qgg,show (sgD n).natAbs=1 by unfold sgD;split <;> rfl,Nat.one_mul,qaj]
 refine Nat.lt_of_le_of_lt hl ?_
 rw [show n - 1 - 0+(n - 0)=n - 1+n by omega] at *
 generalize n - 1+n=N at *
 rw [<- Nat.pow_mul,Nat.mul_comm A,Nat.pow_succ,Nat.mul_comm]
 exact Nat.mul_lt_mul_of_pos_left hc (Nat.pow_pos (by decide))
section
variable {J:Nat} (h1:1<=J) (h4:J<=4)
include h1 h4
end


section
variable {J:Nat} (h1:1<=J) (h4:J<=4)
include h1 h4
theorem dsc_is {n:Nat} {f u v:List Tm} (nf:NN f) (hn:1<=n) (df:DgR J f n) (hd:Dsc J n f u) (nv:NN v) (h : ∀ x,ev x v*ev x (ck J (n:Int) f)=sgD n*ev x (SJ J 0 n (n - 1) f (poly J n (dvC J f)))):Sim u v:=
 qcz (qaY h1 h4 nf) hd.1 nv (df.ckn h1 h4 hn) fun x=>by
  rw [Int.mul_comm,hd.2 x,<- h x,Int.mul_comm]
theorem dsc_two {f u v:List Tm} (nf:NN f) (df:DgR J f 2) (hd:Dsc J 2 f u) (nv:NN v) (h : ∀ x,ev x v=ev x (ck J 1 f)*ev x (ck J 1 f) - 4*(ev x (ck J 2 f)*ev x (ck J 0 f))):Sim u v:=by
 refine dsc_is h1 h4 nf (by decide) df hd nv fun x=>?_
 rw [ev_disc h1 h4 x nf (by decide) df,h x]
 have e1:li 2 (fun k:Nat=>ev x (ck J (k:Int) f)) = [ev x (ck J 0 f),ev x (ck J 1 f),ev x (ck J 2 f)]:=rfl
 have e2:li (2 - 1) (dvI fun k:Nat=>ev x (ck J (k:Int) f)) = [ev x (ck J 1 f),2*ev x (ck J 2 f)]:=by simp [li,dvI,List.range,List.range.loop]
 rw [e1,e2,show (2 - 1:Nat)=1 from rfl,disc2,show sgD 2 = -1 from rfl,show ((2:Nat):Int)=2 from rfl]
 generalize ev x (ck J 0 f)=a
 generalize ev x (ck J 1 f)=b
 generalize ev x (ck J 2 f)=c
 grind
theorem dsc_three {f u v:List Tm} (nf:NN f) (df:DgR J f 3) (hd:Dsc J 3 f u) (nv:NN v) (h3 : ∀ x,ev x (ck J 3 f)=1) (h2 : ∀ x,ev x (ck J 2 f)=0) (h : ∀ x,ev x v = -4*(ev x (ck J 1 f)*ev x (ck J 1 f)*ev x (ck J 1 f)) - 27*(ev x (ck J 0 f)*ev x (ck J 0 f))):Sim u v:=by
 refine dsc_is h1 h4 nf (by decide) df hd nv fun x=>?_
 rw [ev_disc h1 h4 x nf (by decide) df,h x]
 have e1:li 3 (fun k:Nat=>ev x (ck J (k:Int) f)) = [ev x (ck J 0 f),ev x (ck J 1 f),ev x (ck J 2 f),ev x (ck J 3 f)]:=rfl
 have e2:li (3 - 1) (dvI fun k:Nat=>ev x (ck J (k:Int) f)) = [ev x (ck J 1 f),2*ev x (ck J 2 f),3*ev x (ck J 3 f)]:=by simp [li,dvI,List.range,List.range.loop]
 rw [e1,e2,show (3 - 1:Nat)=2 from rfl,disc3,show sgD 3 = -1 from rfl,show ((3:Nat):Int)=3 from rfl,h3,h2]
 generalize ev x (ck J 0 f)=a
 generalize ev x (ck J 1 f)=b
 grind
theorem res_gcd {m n k:Nat} {f g z:List Tm} (nf:NN f) (ng:NN g) (zf : ¬ Sim f []) (zg : ¬ Sim g []) (df:DgR J f m) (dg:DgR J g n) (hm:1<=m) (hn:1<=n) (hz:GcdP J f g z) (dz:DgR J z k):Sim (SJ J 0 m n f g) []↔1<=k:=by
 have key : ∀ {f g z:List Tm} {m n k:Nat},NN f->NN g -> ¬ Sim f [] -> ¬ Sim g []->DgR J f m->DgR J g n->1<=n->n<=m->GcdP J f g z->DgR J z k->(Sim (SJ J 0 m n f g) []↔1<=k):=fun {f g z m n k} nf ng zf zg df dg hn hnm hz dz=>by
  obtain ⟨z',k',hz',dz',hk,ha,hb⟩:=gcd_sub h1 h4 nf ng hnm zf zg df dg
  have:=hz.uniq h1 h4 nf ng hz' dz dz'
  subst this
  refine ⟨fun hs=>?_,fun hk1=>ha 0 (by omega) (by omega)⟩
  refine Classical.byContradiction fun hc=>?_
  have h0:k=0:=by omega
  subst h0
  exact hb (by omega) (qaS hs)
 rcases Nat.le_total n m with h | h
 ·exact key nf ng zf zg df dg hn h hz dz
 ·have h5:=key ng nf zg zf dg df hm h hz.swap dz
  have h6:=qf2 h1 h4 nf ng 0 m n
  rw [<- h5]
  rcases Nat.mod_two_eq_zero_or_one ((m - 0)*(n - 0)) with h7 | h7
  ·exact ⟨fun h=>(h6.1 h7).trans h,fun h=>(h6.1 h7).symm.trans h⟩
  ·have e:=h6.2 h7
   refine ⟨fun h=>e.trans (fun q=>by rw [qaX,h q];rfl),fun h q=>?_⟩
   have:=(e.symm.trans h) q
   rw [qaX] at this
   exact Int.neg_eq_zero.1 this
end




def sgS (n:Nat) (l:List Tm):List Tm:=if n % 4>1 then qbJ l else l
theorem qrf {n:Nat} {l:List Tm} (h:NN l):NN (sgS n l):=by
 unfold sgS
 split
 ·exact qds h
 ·exact h
theorem qrs (x:Nat->Int) (n:Nat) {l:List Tm} (h:NN l):ev x (sgS n l)=sgD n*ev x l:=by
 unfold sgS sgD
 split
 ·rw [qhp x h];omega
 ·omega
theorem qsj:qod 1000 200 4 100:=⟨by decide,by decide,by decide,by decide⟩
theorem qkm {J n : Nat} {f : List Tm} (h1 : 1 <= J) (h4 : J <= 4) (hn : 1 <= n) (hn4 : n <= 4) (hf : Sz 4 20 f) (hg : dlen (nrm (poly J n (dvC J f))) <= 21) (df : DgR J f n) (hS : Deg 1000 (SJ J 0 n (n - 1) f (poly J n (dvC J f)))) (M : Nat -> Prop) (x y : PE) (w : World) (hM : Mb M w)
  (hx:PI M w x (sgS n (SJ J 0 n (n - 1) f (poly J n (dvC J f))))) (hy:PI M w y (ck J (n:Int) f)) :
  Calls Tryz.prog 46 #[.agg (peA x),.agg (peA y)] w fun e w'=>∃ v,e = .returned (.tuple #[.agg (peA v),.int .i64 0])/\CRx M w' 4 v (dsL J n f)/\Ext w w':=by
 have nf:=hf.n
 have hd:=qsx h1 h4 nf hn hn4 df
 have nS:=qbb h1 h4 nf (qfJ h1 h4 nf n) 0 n (n - 1)
 have nl:NN (ck J (n:Int) f):=qaY h1 h4 nf
 have zl : ¬ Sim (ck J (n:Int) f) []:=df.ckn h1 h4 hn
 have hu:Sim (pmul (dsL J n f) (ck J (n:Int) f)) (sgS n (SJ J 0 n (n - 1) f (poly J n (dvC J f)))):=qeU (qaT hd.1 nl) (qrf nS) fun x=>by
  rw [qaC x hd.1 nl,qrs x n nS];exact hd.2 x
 have hdl:dlen (nrm (dsL J n f))<=200:=Nat.le_trans (qrH (A:=21) (by decide) (Nat.le_trans hf.a (by decide)) hg hn hn4) (by
  have:n - 1+n<=7:=by omega
  have:=Nat.mul_le_mul_right 21 this
  omega)
 have hdg:Deg 1000 (dsL J n f):=qfR hd.1 nl zl hu (by
  unfold sgS
  split
  ·exact fun m hm k=>hS m (fun e=>hm (by rw [qaX,e];rfl)) k
  ·exact hS)
 have hck:=hf.ck h1 h4 (n:Int)
 refine (qjn qsj M _ _ (dsL J n f) x y w hM hx hy hd.1 hu hdg hdl hck.2.2.1 (Nat.le_trans hck.2.2.2 (by decide))).mono ?_
 rintro e w' ⟨v,er,rfl,hc,hE⟩
 rcases hc with ⟨_,hz,_⟩ | ⟨rfl,_,q,hq,hqs,_⟩ | ⟨_,_,_,hdv⟩
 ·exact absurd hz zl
 ·refine ⟨v,rfl,hq.sim ?_,hE⟩
  exact qbK hq.nn hd.1 nl zl (hqs.trans hu.symm)
 ·exact absurd ⟨dsL J n f,hd.1,hu⟩ hdv


theorem qml {J B:Nat} (h1:1<=J) (h4:J<=4) {f:List Tm} (hB:Deg B f) : ∀ n,Deg B (poly J n (dvC J f))
 | 0=>fun m hm=>absurd rfl hm
 | n+1=>by
  rw [qaf]
  refine (qml h1 h4 hB n).append fun m hm k=>?_
  rw [qaz] at hm
  unfold dvC at hm
  rw [(qa8 _ _) _,qbc,qai,qaR h1 h4] at hm
  split at hm
  ·rename_i h0
   have hm2:qab f (Mo.add (Mo.sub m (xp J (n:Int))) (xp J ((n+1:Nat):Int)))≠0:=fun e=>hm (by rw [e];exact Int.mul_zero _)
   have h5:=hB _ hm2 k
   rw [qap,qbF] at h5
   have h6:(xp J ((n+1:Nat):Int)).get k=(xp J (n:Int)).get k+(xp J 1).get k:=by
    rw [qas J k _ h1 h4,qas J k _ h1 h4,qas J k _ h1 h4]
    split <;> omega
   have h7:0<=(xp J 1).get k:=by
    rw [qas J k _ h1 h4]
    split <;> omega
   omega
  ·exact absurd (Int.mul_zero _) hm
theorem qoF {J n A:Nat} {f:List Tm} (hn:n<=100) (hf:dlen (nrm f)<=A):dlen (nrm (poly J n (dvC J f)))<=A+1:=by
 have h1:nrm (poly J n (dvC J f))<=n*(n*nrm f):=qh3 J n (dvC J f) (n*nrm f) fun i hi=>by
  unfold dvC
  rw [qbf,show nrm [(((i+1:Nat):Int),Mo.zero)]=i+1 by show (((i+1:Nat):Int)).natAbs+0=_;omega,Nat.mul_comm]
  exact Nat.mul_le_mul (by omega) (qdT _ _ _)
 rw [qaj] at *
 refine Nat.lt_of_le_of_lt h1 ?_
 rw [<- Nat.mul_assoc,Nat.pow_succ,Nat.mul_comm]
 have h2:n*n<=100*100:=Nat.mul_le_mul hn hn
 exact Nat.mul_lt_mul_of_lt_of_le hf (by omega) (by decide)
theorem qqU {J n:Nat} (h1:1<=J) (h4:J<=4) {f:List Tm} (hn:n<=100) (hf:Sz 4 20 f):Sz 4 21 (poly J n (dvC J f)):=⟨qfJ h1 h4 hf.n n,qml h1 h4 hf.d n,qoF hn hf.a⟩
theorem Gn.of44 {J m n:Nat} (h1:1<=J) (h4:J<=4) {f g:List Tm} (hf:Sz 4 1000 f) (hg:Sz 4 1000 g) (zf : ¬ Sim f []) (zg : ¬ Sim g []) (df:DgR J f m) (dg:DgR J g n) (hm:m<=4) (hn:n<=4):Gn J m n 4 f g:=
 ⟨h1,h4,hf,hg,zf,zg,df,dg,by omega,by omega,fun h=>qsG m hm n h,fun h=>qsG n hn m h⟩


theorem res_common {J m n β k:Nat} {f g z:List Tm} (H:Gn J m n β f g) (hz:GcdP J f g z) (dz:DgR J z k) (hk:k<=min m n):Sim (SJ J 0 m n f g) []↔1<=k:=by
 by_cases hm:m=0
 ·subst hm
  refine ⟨fun hs=>absurd ((qhX H.h1 H.h4 H.sf.n H.sg.n H.df n).symm.trans hs) (qcG H.sf.n H.zf n),fun h=>by omega⟩
 ·by_cases hn:n=0
  ·subst hn
   refine ⟨fun hs=>absurd ((qiM H.h1 H.h4 H.sf.n H.sg.n H.dg m).symm.trans hs) (qcG H.sg.n H.zg m),fun h=>by omega⟩
  ·exact res_gcd H.h1 H.h4 H.sf.n H.sg.n H.zf H.zg H.df H.dg (by omega) (by omega) hz dz
theorem res_exch {J:Nat} (h1:1<=J) (h4:J<=4) {f g:List Tm} (nf:NN f) (ng:NN g) (m n:Nat):Sim (SJ J 0 n m g f) (if (m*n) % 2=0 then SJ J 0 m n f g else qbJ (SJ J 0 m n f g)):=by
 have h:=qf2 h1 h4 nf ng 0 m n
 simp only [Nat.sub_zero] at h
 by_cases hp:(m*n) % 2=0
 ·rw [if_pos hp];exact h.1 hp
 ·rw [if_neg hp];exact h.2 (by omega)


section
variable {J m n:Nat} {f g:List Tm} (h1:1<=J) (h4:J<=4) (nf:NN f) (ng:NN g) (df:DgR J f m) (dg:DgR J g n) (hm:m=1∨m=2) (hn:n=1∨n=2)
include h1 h4 nf ng df dg hm hn
end
end Go.Proofs.YtlmipmebdelgbaaGreat
