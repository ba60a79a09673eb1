/- Plain facts on division, second part: sign normal forms of multiples, inexact divisions, degrees of products, the lemma of Gauss. The lemma of Gauss: a primitive polynomial that divides a multiple by a number divides the polynomial. -/
import Derived.Test.YtmcfpnmoklnhoaaGreatBj
set_option linter.unusedVariables false
set_option linter.unusedSimpArgs false

namespace Go.Proofs.YtmcfpnmoklnhoaaGreat

theorem qc6 {l:List Tm} (h:NN l):Sim (smul (qdO (norm l)) (snorm l)) l:=by
 rw [qbQ];exact qai h
theorem qkO (l:List Tm):NN (snorm l):=qaM fun t ht=>((qgq l).2 t ht).2
theorem qp1 (l:List Tm):smul 1 l=l:=by simp [smul]
theorem qiL (a b:Int) (l:List Tm):smul a (smul b l)=smul (a*b) l:=by simp [smul,List.map_map,Function.comp_def,Int.mul_assoc]
theorem qew {c:Int} {l:List Tm} (h:NN l):NN (smul c l):=fun m hm=>by rw [qag,h m hm,Int.mul_zero]
theorem qeq (c:Int) (l r:List Tm):Sim (pmul (smul c l) r) (smul c (pmul l r)):=fun m=>by
 rw [qag]
 induction l with
 | nil=>exact (Int.mul_zero c).symm
 | cons s l ih=>
  show qab (pmul ((c*s.1,s.2) :: smul c l) r) m=_;rw [qam,qam,ih,Int.mul_add,Int.mul_assoc]
theorem qjP {c:Int} (hc:c≠0) {l r:List Tm} (h:Sim (smul c l) (smul c r)):Sim l r:=fun m=>by
 have:=h m;rw [qag,qag] at this;exact Int.eq_of_mul_eq_mul_left hc this
theorem quk (c:Int) (l:List Tm):Sim (pmul l [(c,Mo.zero)]) (smul c l):=by
 have:=qcb l (c,Mo.zero);rw [qca] at this;exact this
theorem DgR.smul {k n:Nat} {c:Int} {l:List Tm} (hc:c≠0) (h:DgR k (smul c l) n):DgR k l n:=by
 refine ⟨fun m hm=>h.1 m (by rw [qag];exact Int.mul_ne_zero hc hm),h.2.imp id fun ⟨m,hm,e⟩=>⟨m,fun h0=>hm (by rw [qag,h0,Int.mul_zero]),e⟩⟩
theorem DgR.snorm {k n:Nat} {l:List Tm} (hl:NN l) (h:DgR k l n):DgR k (Go.Proofs.YtmcfpnmoklnhoaaGreat.snorm l) n:=
 DgR.smul (qfc (qan l)) (h.sim (qc6 hl).symm)
theorem qrT {k:Nat} {l:List Tm} (hl:NN l) : ∃ n,DgR k l n:=by
 have hs:=qai hl
 by_cases hn:norm l = []
 ·refine ⟨0,fun m hm=>absurd ?_ hm,.inl rfl⟩;rw [<- hs m,hn];rfl
 obtain ⟨e,he,hx⟩:=qgH k (qaG l);refine ⟨e,fun m hm=>?_,.inr ?_⟩
 ·rw [<- hs m] at hm;obtain ⟨s,hs',e2⟩ : ∃ s ∈ norm l,s.2=m:=Classical.byContradiction fun hcc=>hm (qay fun t ht e=>hcc ⟨t,ht,e⟩);rw [<- e2];exact he s hs'
 ·obtain ⟨s,hs',e2⟩:=hx.resolve_left hn;exact ⟨s.2,by rw [<- hs s.2];exact qa5 (qan l) hs',e2⟩
theorem DgR.att {k n:Nat} {l:List Tm} (hl:NN l) (hz : ¬ Sim l []) (h:DgR k l n) : ∃ m,qab l m≠0/\m.get k=n:=by
 rcases h.2 with h0 | h0
 ·obtain ⟨m,hm⟩:=qbB hz;refine ⟨m,hm,?_⟩;have h1:=h.1 m hm
  have h2:m.nn=true:=by
   cases hc:m.nn with
   | true=>rfl
   | false=>exact absurd (hl m hc) hm
  have h3:=qcZ h2 k;omega
 ·exact h0
theorem qo1 {k:Nat} (h1:1<=k) (h4:k<=4) {q s:List Tm} (hq:NN q) (hs:NN s) (zq : ¬ Sim q []) (zs : ¬ Sim s []) {a b:Nat} (ha:DgR k q a) (hb:DgR k s b):DgR k (pmul q s) (a+b):=by
 have sq:=qai hq;have ss:=qai hs;have hp:Sim (pmul (norm q) (norm s)) (pmul q s):=sq.pmul ss
 have hle : ∀ {l:List Tm} {n:Nat},NN l->DgR k l n -> ∀ t ∈ norm l,t.2.get k<=(n:Int):=fun {l n} hl hd t ht=>hd.1 t.2 (by
  rw [<- qai hl t.2];exact qa5 (qan l) ht)
 refine ⟨fun m hm=>?_,.inr ?_⟩
 ·rw [<- hp m] at hm;obtain ⟨m1,g1,g2⟩:=qb5 (qdm (qan q)) hm;rw [sq m1] at g1;rw [ss] at g2;have e1:=ha.1 m1 g1;have e2:=hb.1 _ g2;rw [qbM] at e2;omega
 ·obtain ⟨m1,g1,e1⟩:=ha.att hq zq;obtain ⟨m2,g2,e2⟩:=hb.att hs zs;rw [<- sq m1] at g1;rw [<- ss m2] at g2;have c1:=qgV h1 h4 g1;have c2:=qgV h1 h4 g2;rw [e1] at c1;rw [e2] at c2;have h6:=qgU h1 h4 (e:=(a:Int)) (e':=(b:Int)) (hle hs hb) (norm q) (hle hq ha);have h7:=qaT (qbg h1 h4 (qaM (qaG q))) (qbg h1 h4 (qaM (qaG s))) c1 c2;rw [<- h6] at h7;obtain ⟨m,hm,hg⟩:=qpi h1 h4 h7;exact ⟨m,by rw [<- hp m];exact hm,by omega⟩
theorem qu2 : ¬ Sim [(1,Mo.zero)] []:=fun h=>by
 have:=h Mo.zero;simp [qab] at this
theorem qtK (k:Nat):DgR k [(1,Mo.zero)] 0:=by
 refine ⟨fun m hm=>?_,.inl rfl⟩
 by_cases e:Mo.zero=m
 ·subst e;rw [qbl];exact Int.le_refl _
 ·exact absurd (by simp [qab,e]) hm
theorem qgw {s:List Tm} (hs:NN s) (zs : ¬ Sim s []) : ∀ n,¬ Sim (qaO s n) []
 | 0=>qu2
 | n+1=>qaT (qdT hs n) hs (qgw hs zs n) zs
theorem qo0 {k:Nat} (h1:1<=k) (h4:k<=4) {s:List Tm} (hs:NN s) (zs : ¬ Sim s []) {b:Nat} (hb:DgR k s b) : ∀ n,DgR k (qaO s n) (n*b)
 | 0=>by rw [Nat.zero_mul];exact qtK k
 | n+1=>by
  rw [Nat.succ_mul];exact qo1 h1 h4 (qdT hs n) hs (qgw hs zs n) zs (qo0 h1 h4 hs zs hb n) hb
theorem qxv {k:Nat} (h1:1<=k) (h4:k<=4) {r s f:List Tm} (hr:NN r) (hs:NN s) (zr : ¬ Sim r []) (zs : ¬ Sim s []) {m:Mo} (hm:qab s m≠0) (hp:0<m.get k) {n B:Nat} (h:Sim (pmul r (qaO s n)) f) (hB:Deg B f):n<=B:=by
 obtain ⟨a,ha⟩:=qrT (k:=k) hr;obtain ⟨b,hb⟩:=qrT (k:=k) hs;have hb1:=hb.1 m hm;have hd:=qo1 h1 h4 hr (qdT hs n) zr (qgw hs zs n) ha (qo0 h1 h4 hs zs hb n);obtain ⟨m',hm',e⟩:=hd.att (qbG hr (qdT hs n)) (qaT hr (qdT hs n) zr (qgw hs zs n));rw [h m'] at hm';have h5:=hB m' hm' k;have h6:n*1<=n*b:=Nat.mul_le_mul_left n (by omega);omega


def qwh (p:Nat):Prop:=2<=p /\ ∀ a b:Nat,p ∣ a*b->p ∣ a∨p ∣ b
theorem qwC (c:Nat) (h:2<=c) : ∃ p,qwh p/\p ∣ c:=by
 induction c using Nat.strongRecOn with
 | _ c ih=>
  by_cases hx : ∃ d,2<=d/\d<c/\d ∣ c
  ·obtain ⟨d,h1,h2,h3⟩:=hx;obtain ⟨p,hp,hd⟩:=ih d h2 h1;exact ⟨p,hp,Nat.dvd_trans hd h3⟩
  ·refine ⟨c,⟨h,fun a b hab=>?_⟩,Nat.dvd_refl _⟩;have hg:=Nat.gcd_dvd_left c a;have hg2:=Nat.gcd_dvd_right c a;have hle:=Nat.le_of_dvd (by omega) hg
   by_cases hc:Nat.gcd c a=c
   ·left;rw [hc] at hg2;exact hg2
   ·right
    have h0:Nat.gcd c a≠0:=fun e=>by rw [e,Nat.zero_dvd] at hg;omega
    have h1:Nat.gcd c a=1:=Classical.byContradiction fun hn=>hx ⟨Nat.gcd c a,by omega,by omega,hg⟩;exact Nat.Coprime.dvd_of_dvd_mul_left h1 hab
def Al (p:Int) (l:List Tm):Prop:=∀ m,p ∣ qab l m
theorem Al.sim {p:Int} {l r:List Tm} (h:Al p l) (hs:Sim l r):Al p r:=fun m=>by rw [<- hs m];exact h m
theorem qgZ {p:Int} : ∀ {l:List Tm},(∀ t ∈ l,p ∣ t.1)->Al p l
 | [],_,_=>Int.dvd_zero p
 | t :: l,h,m=>by
  have ih:=qgZ (l:=l) (fun s hs=>h s (List.mem_cons_of_mem _ hs)) m;show p ∣ (if t.2=m then t.1 else 0)+qab l m;refine Int.dvd_add ?_ ih
  split
  ·exact h t List.mem_cons_self
  ·exact Int.dvd_zero p
theorem qd2 {p:Int} : ∀ {l:List Tm} (r:List Tm),(∀ t ∈ l,p ∣ t.1)->Al p (pmul l r)
 | [],_,_,_=>Int.dvd_zero p
 | t :: l,r,h,m=>by
  rw [qam];exact Int.dvd_add (Int.dvd_trans (h t List.mem_cons_self) (Int.dvd_mul_right _ _)) (qd2 r (fun s hs=>h s (List.mem_cons_of_mem _ hs)) m)
def nd (p:Int) (l:List Tm):List Tm:=l.filter fun t=>!decide (p ∣ t.1)
def pdd (p:Int) (l:List Tm):List Tm:=l.filter fun t=>decide (p ∣ t.1)
theorem qk5 (p:Int) (l:List Tm):Sim (pdd p l ++ nd p l) l:=Sim.perm (List.filter_append_perm (fun t:Tm=>decide (p ∣ t.1)) l)
theorem qh5 {p:Int} {l:List Tm} : ∀ t ∈ pdd p l,p ∣ t.1:=fun t ht=>by simpa using (List.mem_filter.1 ht).2
theorem qrF {p:Int} {l:List Tm} : ∀ t ∈ nd p l,¬ p ∣ t.1:=fun t ht=>by simpa using (List.mem_filter.1 ht).2
theorem qlf {p:Int} {l:List Tm} (h:qaW l):qaW (nd p l):=⟨h.1.filter _,fun t ht=>h.2 t (List.mem_filter.1 ht).1⟩
theorem qw2 {p:Int} {l r:List Tm} (h:Al p (pmul l r)):Al p (pmul (nd p l) (nd p r)):=by
 have h1:Al p (pmul (nd p l) r):=fun m=>by
  have e:=(qk5 p l).pmul_left r m;rw [qaq,qad] at e;have a:=qd2 (p:=p) (l:=pdd p l) r qh5 m;have b:=h m;rw [<- e] at b;exact (Int.dvd_add_right a).1 b
 have h2:Al p (pmul r (nd p l)):=h1.sim (Sim.pmul_comm _ _)
 have h3:Al p (pmul (nd p r) (nd p l)):=fun m=>by
  have e:=(qk5 p r).pmul_left (nd p l) m;rw [qaq,qad] at e;have a:=qd2 (p:=p) (l:=pdd p r) (nd p l) qh5 m;have b:=h2 m;rw [<- e] at b;exact (Int.dvd_add_right a).1 b
 exact h3.sim (Sim.pmul_comm _ _)
theorem ncd {p:Nat} {a:Int} : (p:Int) ∣ a↔p ∣ a.natAbs:=by rw [<- Int.natAbs_dvd_natAbs,Int.natAbs_natCast]
theorem qwh.int {p:Nat} (hp:qwh p) {a b:Int} (h:(p:Int) ∣ a*b):(p:Int) ∣ a∨(p:Int) ∣ b:=by
 have h1:p ∣ a.natAbs*b.natAbs:=by rw [<- Int.natAbs_mul];exact ncd.1 h
 exact (hp.2 _ _ h1).imp (fun h=>ncd.2 h) (fun h=>ncd.2 h)
theorem qqM {p:Nat} (hp:qwh p) {l r:List Tm} (hl:qaW l) (hr:qaW r) (hn : ¬ Al (p:Int) l) (h:Al (p:Int) (pmul l r)):Al (p:Int) r:=by
 have h1:=qw2 h;have c1:=qlf (p:=(p:Int)) hl;have c2:=qlf (p:=(p:Int)) hr;have a1:=qrF (p:=(p:Int)) (l:=l);have a2:=qrF (p:=(p:Int)) (l:=r);have s1:=qk5 (p:Int) l;have s2:=qk5 (p:Int) r;have d1:=qgZ (qh5 (p:=(p:Int)) (l:=l));have d2:=qgZ (qh5 (p:=(p:Int)) (l:=r))
 cases e2:nd (p:Int) r with
 | nil=>rw [e2,List.append_nil] at s2;exact d2.sim s2
 | cons t r'=>
  cases e1:nd (p:Int) l with
  | nil=>rw [e1,List.append_nil] at s1;exact absurd (d1.sim s1) hn
  | cons s l'=>
   rw [e1] at h1 c1 a1;rw [e2] at h1 c2 a2;have h3:=h1 (Mo.add s.2 t.2);rw [qd1 c1 c2] at h3;rcases hp.int h3 with h4 | h4
   ·exact absurd h4 (a1 s List.mem_cons_self)
   ·exact absurd h4 (a2 t List.mem_cons_self)
def qxf (s:List Tm):Prop:=∀ d:Nat,Al (d:Int) s->d=1
theorem qoM {k:Nat} : ∀ (l:List Tm) (a:Nat),k ∣ a->(∀ t ∈ l,k ∣ t.1.natAbs)->k ∣ l.foldl (fun g t=>Nat.gcd g t.1.natAbs) a
 | [],_,ha,_=>ha
 | t :: l,a,ha,h=>qoM l _ (Nat.dvd_gcd ha (h t List.mem_cons_self)) fun s hs=>h s (List.mem_cons_of_mem _ hs)
theorem qmg {l:List Tm} (hl:NN l) (hz : ¬ Sim l []):qxf (snorm l):=fun d hd=>by
 have hcan:=qan l;have hne:norm l ≠ []:=fun e=>hz (by have:=qai hl;rw [e] at this;exact this.symm);have hs0:=qfc hcan
 have h1:(qdO (norm l)).natAbs*d ∣ gcL (norm l):=by
  refine qoM (norm l) 0 (Nat.dvd_zero _) fun t ht=>?_;have e:=qcy hcan ht;rw [<- qbQ l,qag] at e;rw [<- e,Int.natAbs_mul];exact Nat.mul_dvd_mul_left _ (ncd.1 (hd t.2))
 rw [<- qez hne] at h1
 have h2:0<(qdO (norm l)).natAbs:=by omega
 have h3:(qdO (norm l)).natAbs*d ∣ (qdO (norm l)).natAbs*1:=by rw [Nat.mul_one];exact h1
 exact Nat.dvd_one.1 (Nat.dvd_of_mul_dvd_mul_left h2 h3)
theorem qt6 {p:Int} (hp:p≠0) {l:List Tm} (hl:NN l) (h:Al p l) : ∃ q,NN q/\Sim (smul p q) l:=by
 refine ⟨(norm l).map fun t=>(t.1.tdiv p,t.2),qaM fun t ht=>?_,?_⟩
 ·obtain ⟨s,hs,rfl⟩:=List.mem_map.1 ht;exact qaG l s hs
 ·refine Sim.trans ?_ (qai hl)
  have:smul p ((norm l).map fun t=>(t.1.tdiv p,t.2))=norm l:=by
   unfold smul;rw [List.map_map]
   conv=>rhs;rw [<- List.map_id (norm l)]
   apply List.map_congr_left;intro t ht
   have h1:p ∣ t.1:=by
    have:=h t.2;rw [<- qai hl t.2,qcy (qan l) ht] at this;exact this
   have:=Int.tdiv_mul_cancel h1;rw [Int.mul_comm] at this;show (p*t.1.tdiv p,t.2)=t;rw [this]
  rw [this];exact Sim.refl _
theorem qvf {s:List Tm} (hs:NN s) (hP:qxf s) {q:List Tm} (hq:NN q) : ∀ (n:Nat) (c:Int),c≠0->c.natAbs<=n->Dv s (smul c q)->Dv s q
 | 0,c,h0,hn,_=>absurd hn (by omega)
 | n+1,c,h0,hn,⟨h,hh,hd⟩=>by
  by_cases h1:c.natAbs=1
  ·refine ⟨smul c h,qew hh,(qeq _ _ _).trans ((hd.smul c).trans ?_)⟩
   rw [qiL,show c*c=1 by
    have:c=1∨c = -1:=by omega
    rcases this with rfl | rfl <;> rfl,qp1]
   exact Sim.refl _
  ·obtain ⟨p,hp,hpc⟩:=qwC c.natAbs (by omega);obtain ⟨e,he⟩:=ncd.2 hpc;have hp2:=hp.1
   have hp0:(p:Int)≠0:=by omega
   have he0:e≠0:=fun h=>h0 (by rw [he,h,Int.mul_zero])
   have hal:Al (p:Int) (pmul (norm s) (norm h)):=Al.sim (l:=smul c q) (fun m=>by
    rw [qag,he,Int.mul_assoc];exact Int.dvd_mul_right _ _) (hd.symm.trans ((Sim.pmul_comm _ _).trans ((qai hs).pmul (qai hh)).symm))
   have hns : ¬ Al (p:Int) (norm s):=fun ha=>by
    have:=hP p (ha.sim (qai hs));omega
   have hal2:=(qqM hp (qan s) (qan h) hns hal).sim (qai hh);obtain ⟨h',hh',hs'⟩:=qt6 hp0 hh hal2
   have hlt:e.natAbs<=n:=by
    have:c.natAbs=p*e.natAbs:=by rw [he,Int.natAbs_mul,Int.natAbs_natCast]
    have h3:2*e.natAbs<=p*e.natAbs:=Nat.mul_le_mul_right _ hp2;omega
   refine qvf hs hP hq n e he0 hlt ⟨h',hh',qjP hp0 ?_⟩;rw [qiL,<- he];exact (qeq _ _ _).symm.trans ((hs'.pmul_left s).trans hd)
theorem qtE {s q:List Tm} (hs:NN s) (hP:qxf s) (hq:NN q) {c:Int} (hc:c≠0) (h:Dv s (smul c q)):Dv s q:=qvf hs hP hq c.natAbs c hc (Nat.le_refl _) h
end Go.Proofs.YtmcfpnmoklnhoaaGreat
