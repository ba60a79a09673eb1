/- Greatest common divisors by the sequence of remainders, plain. subresultant.GcdDegree answers the degree of a greatest common divisor. SubresultantGcd: the walk. The law SubresultantGcd returns true at every input, without a panic, and leaves its arguments as they were; no conditions. -/
import Derived.Test.YtlmipmebdelgbaaGreatTa
import Derived.Test.YtlmipmebdelgbaaGreatDk
import Derived.Test.YtlmipmebdelgbaaGreatMq
set_option linter.unusedVariables false
set_option linter.unusedSimpArgs false

namespace Go.Proofs.YtlmipmebdelgbaaGreat
open Go.RowKit

def MDv (J:Nat) (z f:List Tm):Prop:=∃ c q,NN c/\Fre J c /\ ¬ Sim c []/\NN q/\Sim (pmul c f) (pmul q z)
def Bz (J:Nat) (f g r:List Tm):Prop:=∃ c u v,NN c/\Fre J c /\ ¬ Sim c []/\NN u/\NN v/\Sim (pmul c r) (pmul u f ++ pmul v g)
theorem MDv.comb {J:Nat} {z x y r c p q:List Tm} (nz:NN z) (nx:NN x) (ny:NN y) (nr:NN r) (hx:MDv J z x) (hy:MDv J z y) (nc:NN c) (fc:Fre J c) (zc : ¬ Sim c []) (np:NN p) (nq:NN q) (h:Sim (pmul c r) (pmul p x ++ pmul q y)):MDv J z r:=by
 obtain ⟨a,qa,na,fa,za,nqa,ha⟩:=hx
 obtain ⟨b,qb,nb,fb,zb,nqb,hb⟩:=hy
 refine ⟨pmul (pmul a b) c,pmul (pmul b p) qa ++ pmul (pmul a q) qb,qaT (qaT na nb) nc,(fa.pmul fb na).pmul fc (qaT na nb),qbv (qaT na nb) nc (qbv na nb za zb) zc,(qaT (qaT nb np) nqa).append (qaT (qaT na nq) nqb),qeU (qaT (qaT (qaT na nb) nc) nr) (qaT ((qaT (qaT nb np) nqa).append (qaT (qaT na nq) nqb)) nz) fun e=>?_⟩
 have h1:=qaO e ha
 have h2:=qaO e hb
 have h3:=qaO e h
 rw [qaC e na nx,qaC e nqa nz] at h1
 rw [qaC e nb ny,qaC e nqb nz] at h2
 rw [qbU,qaC e nc nr,qaC e np nx,qaC e nq ny] at h3
 rw [qaC e (qaT (qaT na nb) nc) nr,qaC e (qaT na nb) nc,qaC e na nb,qaC e ((qaT (qaT nb np) nqa).append (qaT (qaT na nq) nqb)) nz,qbU,qaC e (qaT nb np) nqa,qaC e (qaT na nq) nqb,qaC e nb np,qaC e na nq]
 generalize ev e a=A at *
 generalize ev e b=B at *
 generalize ev e c=C at *
 generalize ev e p=P at *
 generalize ev e q=Q at *
 generalize ev e x=X at *
 generalize ev e y=Y at *
 generalize ev e z=Z at *
 generalize ev e r=R at *
 generalize ev e qa=QA at *
 generalize ev e qb=QB at *
 have e1:A*B*C*R=A*B*(C*R):=by ac_rfl
 have e2:A*B*(P*X+Q*Y)=B*P*(A*X)+A*Q*(B*Y):=by grind
 rw [e1,h3,e2,h1,h2]
 grind
theorem Bz.comb {J:Nat} {f g x y r c p q:List Tm} (nf:NN f) (ng:NN g) (nx:NN x) (ny:NN y) (nr:NN r) (hx:Bz J f g x) (hy:Bz J f g y) (nc:NN c) (fc:Fre J c) (zc : ¬ Sim c []) (np:NN p) (nq:NN q) (h:Sim (pmul c r) (pmul p x ++ pmul q y)):Bz J f g r:=by
 obtain ⟨a,u,v,na,fa,za,nu,nv,ha⟩:=hx
 obtain ⟨b,u',v',nb,fb,zb,nu',nv',hb⟩:=hy
 have n1:=(qaT (qaT nb np) nu).append (qaT (qaT na nq) nu')
 have n2:=(qaT (qaT nb np) nv).append (qaT (qaT na nq) nv')
 refine ⟨pmul (pmul a b) c,pmul (pmul b p) u ++ pmul (pmul a q) u',pmul (pmul b p) v ++ pmul (pmul a q) v',qaT (qaT na nb) nc,(fa.pmul fb na).pmul fc (qaT na nb),qbv (qaT na nb) nc (qbv na nb za zb) zc,n1,n2,qeU (qaT (qaT (qaT na nb) nc) nr) ((qaT n1 nf).append (qaT n2 ng)) fun e=>?_⟩
 have h1:=qaO e ha
 have h2:=qaO e hb
 have h3:=qaO e h
 rw [qbU,qaC e na nx,qaC e nu nf,qaC e nv ng] at h1
 rw [qbU,qaC e nb ny,qaC e nu' nf,qaC e nv' ng] at h2
 rw [qbU,qaC e nc nr,qaC e np nx,qaC e nq ny] at h3
 rw [qaC e (qaT (qaT na nb) nc) nr,qaC e (qaT na nb) nc,qaC e na nb,qbU,qaC e n1 nf,qaC e n2 ng,qbU,qbU,qaC e (qaT nb np) nu,qaC e (qaT nb np) nv,qaC e (qaT na nq) nu',qaC e (qaT na nq) nv',qaC e nb np,qaC e na nq]
 generalize ev e a=A at *
 generalize ev e b=B at *
 generalize ev e c=C at *
 generalize ev e p=P at *
 generalize ev e q=Q at *
 generalize ev e x=X at *
 generalize ev e y=Y at *
 generalize ev e r=R at *
 generalize ev e u=U at *
 generalize ev e v=V at *
 generalize ev e u'=U' at *
 generalize ev e v'=V' at *
 generalize ev e f=F at *
 generalize ev e g=G at *
 have e1:A*B*C*R=A*B*(C*R):=by ac_rfl
 have e2:A*B*(P*X+Q*Y)=B*P*(A*X)+A*Q*(B*Y):=by grind
 rw [e1,h3,e2,h1,h2]
 grind
theorem one_mul_sim (l:List Tm):Sim (pmul [((1:Int),Mo.zero)] l) l:=(Sim.pmul_comm _ _).trans (qex l)
theorem MDv.refl (J:Nat) (z:List Tm):MDv J z z:=⟨_,_,qdk 1,qlV J,qrc,qdk 1,Sim.refl _⟩
theorem MDv.zero {J:Nat} {z r:List Tm} (h:Sim r []):MDv J z r:=⟨_,[],qdk 1,qlV J,qrc,NN.nil,(one_mul_sim r).trans h⟩
theorem MDv.free {J:Nat} {z r:List Tm} (nz:NN z) (fz:Fre J z) (hz : ¬ Sim z []) (nr:NN r):MDv J z r:=⟨z,r,nz,fz,hz,nr,Sim.pmul_comm _ _⟩
theorem qnW {J:Nat} {l:List Tm} (nl:NN l) (h:DgR J l 0):Fre J l:=fun m hm=>by
 have h1:=h.1 m hm
 have hnn:m.nn=true:=by
  cases hq:m.nn with
  | true=>rfl
  | false=>exact absurd (nl m hq) hm
 have:=qci hnn J
 omega
theorem Bz.left {J:Nat} (f g:List Tm):Bz J f g f:=⟨_,_,[],qdk 1,qlV J,qrc,qdk 1,NN.nil,by rw [show pmul [] g = [] from rfl,List.append_nil];exact Sim.refl _⟩
theorem Bz.right {J:Nat} (f g:List Tm):Bz J f g g:=⟨_,[],_,qdk 1,qlV J,qrc,NN.nil,qdk 1,Sim.refl _⟩
theorem rem_law {J n δ:Nat} {f g:List Tm} (h1:1<=J) (h4:J<=4) (nf:NN f) (ng:NN g) (zf : ¬ Sim f []) (zg : ¬ Sim g []) (df:DgR J f (n+δ)) (dg:DgR J g n) : ∃ p q,NN p/\Fre J p /\ ¬ Sim p []/\NN q/\Sim (pmul p f) (pmul (qbJ q) g ++ qcF J n (δ+1) f (qbJ g))/\Sim (qcF J n (δ+1) f (qbJ g)) (pmul p f ++ pmul q g):=by
 obtain ⟨B,hB⟩:=qgy f
 obtain ⟨C,hC⟩:=qgy g
 have dg':DgR J (qbJ g) n:=⟨fun m hm=>dg.1 m fun e=>hm (by rw [qaX,e];rfl),dg.2.imp id fun ⟨m,hm,e⟩=>⟨m,fun e0=>hm (by rw [qaX] at e0;omega),e⟩⟩
 have H:PdH J n (δ+1) B C _ _ f (qbJ g):=⟨h1,h4,nf,qds ng,hB,qez hC,Nat.le_refl _,Nat.le_refl _,dg',.inr ⟨zf,n+δ,df,by omega⟩⟩
 have nc:=qaY h1 h4 (e:=(n:Int)) (qds ng)
 have zc : ¬ Sim (ck J (n:Int) (qbJ g)) []:=qd2 h1 h4 (qds ng) dg' fun h=>zg fun m=>by
  have:=h m
  rw [qaX] at this
  show qab g m=0
  have e:qab ([]:List Tm) m=0:=rfl
  omega
 have nQ:=H.quo_nn
 have nR:=H.rem_nn
 have hl:=H.law
 refine ⟨qaM (ck J (n:Int) (qbJ g)) (δ+1),qsh J n (δ+1) f (qbJ g),qar nc _,qdn nc (qcy h1 h4 _ _) _,qcG nc zc _,nQ,qeU (qaT (qar nc _) nf) ((qaT (qds nQ) ng).append nR) fun e=>?_,qeU nR ((qaT (qar nc _) nf).append (qaT nQ ng)) fun e=>?_⟩
 ·have h:=qaO e hl
  rw [qbU,qaC e nQ (qds ng),qhp e ng] at h
  rw [h,qbU,qaC e (qds nQ) ng,qhp e nQ]
  generalize ev e (qsh _ _ _ _ _)=q
  grind
 ·have h:=qaO e hl
  rw [qbU,qaC e nQ (qds ng),qhp e ng] at h
  rw [qbU,h,qaC e nQ ng]
  generalize ev e (qsh _ _ _ _ _)=q
  grind
structure GcdP (J:Nat) (f g z:List Tm):Prop where
 nz:NN z
 zz : ¬ Sim z []
 df:MDv J z f
 dg:MDv J z g
 bz:Bz J f g z
section
variable {J:Nat} (h1:1<=J) (h4:J<=4) {f g:List Tm} (nf:NN f) (ng:NN g)
include h1 h4 nf ng
theorem run_gcd {m n : Nat} : ∀ (fuel d : Nat) (a s : List Tm), d <= fuel -> SSt J m n f g d a s -> Bz J f g a -> Bz J f g (SJ J (d - 1) m n f g) ->
  ∃ z k,DgR J z k/\NN z /\ ¬ Sim z []/\Bz J f g z/\MDv J z a/\MDv J z (SJ J (d - 1) m n f g)/\k<=d/\(∀ j,j<d->j<k->Sim (SJ J j m n f g) [])/\(k<d -> ¬ Sim (ck J (k:Int) (SJ J k m n f g)) [])
 | 0,d,a,s,hd,S,_,_=>absurd S.pos (by omega)
 | fuel+1,d,a,s,hd,S,ba,bb=>by
  have nB:=qbb h1 h4 nf ng (d - 1) m n
  by_cases hz:Sim (SJ J (d - 1) m n f g) []
  ·exact ⟨a,d,S.da,S.na,S.za,ba,MDv.refl J a,MDv.zero hz,Nat.le_refl _,fun j hj _=>S.fin h1 h4 nf ng hz j hj,fun h=>absurd h (Nat.lt_irrefl _)⟩
  ·obtain ⟨e,hb⟩:=qfh (k:=J) nB
   have hed:=S.lt h1 h4 nf ng hb hz
   have nE:=qbb h1 h4 nf ng e m n
   have nlb:NN (ck J (e:Int) (SJ J (d - 1) m n f g)):=qaY h1 h4 nB
   have zlb:=qd2 h1 h4 nB hb hz
   have zt:=S.subNz h1 h4 nf ng hb hz
   have hsub:=S.sub h1 h4 nf ng hb hz
   have be:Bz J f g (SJ J e m n f g):=Bz.comb nf ng nB nB nE bb bb (qar S.ns _) (qdn S.ns S.fs _) (qcG S.ns S.zs _) (qar nlb (d - e - 1)) NN.nil (hsub.trans (by rw [show pmul [] (SJ J (d - 1) m n f g) = [] from rfl,List.append_nil];exact Sim.refl _))
   have back : ∀ z,NN z->MDv J z (SJ J e m n f g)->MDv J z (SJ J (d - 1) m n f g):=fun z nz h=>MDv.comb nz nE nE nB h h (qar nlb _) (qdn nlb (qcy h1 h4 _ _) _) (qcG nlb zlb _) (qar S.ns (d - e - 1)) NN.nil (hsub.symm.trans (by rw [show pmul [] (SJ J e m n f g) = [] from rfl,List.append_nil];exact Sim.refl _))
   have dE:DgR J (SJ J e m n f g) e:=qim h1 h4 nE (fun i hi=>S.subDeg h1 h4 nf ng hb hz i hi) (.inr zt)
   have zE : ¬ Sim (SJ J e m n f g) []:=fun h=>zt (qaS (r:=[]) h)
   by_cases he0:e=0
   ·subst he0
    have fz:=qnW nE dE
    exact ⟨_,0,dE,nE,zE,be,MDv.free nE fz zE S.na,MDv.free nE fz zE nB,by omega,fun j _ hj=>by omega,fun _=>zt⟩
   ·have he1:1<=e:=by omega
    have S':=S.next h1 h4 nf ng hb hz he1
    have nl:NN (ck J (d:Int) a):=qaY h1 h4 S.na
    have zl:=qd2 h1 h4 S.na S.da S.za
    have n1:=qbb h1 h4 nf ng (e - 1) m n
    obtain ⟨p,q,np,fp,zp,nq,hl1,hl2⟩:=rem_law (δ:=d - e) h1 h4 S.na nB S.za hz (by rw [show e+(d - e)=d by omega];exact S.da) hb
    have hR:=S.rem h1 h4 nf ng hb hz he1
    have nk:=qaT (qar S.ns (d - e)) nl
    have fk:Fre J (pmul (qaM s (d - e)) (ck J (d:Int) a)):=(qdn S.ns S.fs _).pmul (qcy h1 h4 _ _) (qar S.ns _)
    have zk : ¬ Sim (pmul (qaM s (d - e)) (ck J (d:Int) a)) []:=qbv (qar S.ns _) nl (qcG S.ns S.zs _) zl
    have b1:Bz J f g (SJ J (e - 1) m n f g):=Bz.comb nf ng S.na nB n1 ba bb nk fk zk np nq (hR.symm.trans hl2)
    obtain ⟨z,k,dz,nz,zz,bz,m1,m2,hke,hlow,hne⟩:=run_gcd fuel e _ _ (by omega) S' be b1
    have mb:=back z nz m1
    refine ⟨z,k,dz,nz,zz,bz,MDv.comb nz nB n1 S.na mb m2 np fp zp (qds nq) nk (hl1.trans ((Sim.refl _).append hR)),mb,by omega,fun j hj hjk=>hlow j (by omega) hjk,fun hkd=>?_⟩
    by_cases h:k<e
    ·exact hne h
    ·obtain rfl:k=e:=by omega
     exact zt
theorem gcd_sub {m n:Nat} (hnm:n<=m) (zf : ¬ Sim f []) (zg : ¬ Sim g []) (df:DgR J f m) (dg:DgR J g n) : ∃ z k,GcdP J f g z/\DgR J z k/\k<=n/\(∀ j,j<n->j<k->Sim (SJ J j m n f g) [])/\(k<n -> ¬ Sim (ck J (k:Int) (SJ J k m n f g)) []):=by
 by_cases hn:n=0
 ·subst hn
  have fz:=qnW ng dg
  exact ⟨g,0,⟨ng,zg,MDv.free ng fz zg nf,MDv.refl J g,Bz.right f g⟩,dg,by omega,fun j hj=>by omega,fun h=>by omega⟩
 ·obtain ⟨δ,rfl⟩ : ∃ δ,m=n+δ:=⟨m - n,by omega⟩
  obtain ⟨hs,S⟩:=qkT h1 h4 nf ng (by omega) zf zg df dg
  obtain ⟨p,q,np,fp,zp,nq,hl1,hl2⟩:=rem_law h1 h4 nf ng zf zg df dg
  have n1:=qbb h1 h4 nf ng (n - 1) (n+δ) n
  have b1:Bz J f g (SJ J (n - 1) (n+δ) n f g):=Bz.comb nf ng nf ng n1 (Bz.left f g) (Bz.right f g) (qdk 1) (qlV J) qrc np nq ((one_mul_sim _).trans (hs.trans hl2))
  obtain ⟨z,k,dz,nz,zz,bz,m1,m2,hke,hlow,hne⟩:=run_gcd h1 h4 nf ng n n _ _ (Nat.le_refl _) S (Bz.right f g) b1
  exact ⟨z,k,⟨nz,zz,MDv.comb nz ng n1 nf m1 m2 np fp zp (qds nq) (qdk 1) (hl1.trans ((Sim.refl _).append (hs.symm.trans (one_mul_sim _).symm))),m1,bz⟩,dz,hke,hlow,hne⟩
end
theorem GcdP.swap {J:Nat} {f g z:List Tm} (h:GcdP J f g z):GcdP J g f z:=by
 obtain ⟨c,u,v,nc,fc,zc,nu,nv,hs⟩:=h.bz
 exact ⟨h.nz,h.zz,h.dg,h.df,c,v,u,nc,fc,zc,nv,nu,hs.trans fun m=>by rw [qad,qad,Int.add_comm]⟩
theorem GcdP.le {J:Nat} (h1:1<=J) (h4:J<=4) {f g z z':List Tm} (nf:NN f) (ng:NN g) (h:GcdP J f g z) (h':GcdP J f g z') {a b:Nat} (ha:DgR J z a) (hb:DgR J z' b):a<=b:=by
 obtain ⟨c,u,v,nc,fc,zc,nu,nv,hs⟩:=h'.bz
 have hm:MDv J z z':=MDv.comb h.nz nf ng h'.nz h.df h.dg nc fc zc nu nv hs
 obtain ⟨k,q,nk,fk,zk,nq,hq⟩:=hm
 have zq : ¬ Sim q []:=fun h0=>qbv nk h'.nz zk h'.zz (hq.trans (h0.pmul_left z))
 obtain ⟨e,he⟩:=qfh (k:=J) nq
 have d1:=qnV h1 h4 nq h.nz zq h.zz he ha
 have dk:DgR J k 0:=⟨fun m hm=>by rw [fk m hm];exact Int.le_refl _,.inl rfl⟩
 have d2:=qnV h1 h4 nk h'.nz zk h'.zz dk hb
 have d3:DgR J (pmul k z') (e+a):=⟨fun m hm=>d1.1 m (by rw [<- hq m];exact hm),d1.2.imp id fun ⟨m,hm,e⟩=>⟨m,by rw [hq m];exact hm,e⟩⟩
 have:=qdc (qaT nk h'.nz) (qbv nk h'.nz zk h'.zz) d2 d3
 omega
theorem GcdP.uniq {J:Nat} (h1:1<=J) (h4:J<=4) {f g z z':List Tm} (nf:NN f) (ng:NN g) (h:GcdP J f g z) (h':GcdP J f g z') {a b:Nat} (ha:DgR J z a) (hb:DgR J z' b):a=b:=
 Nat.le_antisymm (h.le h1 h4 nf ng h' ha hb) (h'.le h1 h4 nf ng h hb ha)
theorem MDv.mul {J:Nat} {z f h:List Tm} (nz:NN z) (nf:NN f) (nh:NN h) (k:MDv J z f):MDv J (pmul z h) (pmul f h):=by
 obtain ⟨c,q,nc,fc,zc,nq,hs⟩:=k
 exact ⟨c,q,nc,fc,zc,nq,(Sim.pmul_assoc _ _ _).symm.trans ((hs.pmul_left h).trans (Sim.pmul_assoc _ _ _))⟩
theorem GcdP.mul {J:Nat} {f g z h:List Tm} (nf:NN f) (ng:NN g) (nh:NN h) (zh : ¬ Sim h []) (k:GcdP J f g z):GcdP J (pmul f h) (pmul g h) (pmul z h):=by
 obtain ⟨c,u,v,nc,fc,zc,nu,nv,hs⟩:=k.bz
 refine ⟨qaT k.nz nh,qbv k.nz nh k.zz zh,k.df.mul k.nz nf nh,k.dg.mul k.nz ng nh,c,u,v,nc,fc,zc,nu,nv,?_⟩
 refine (Sim.pmul_assoc _ _ _).symm.trans ((hs.pmul_left h).trans ?_)
 rw [qaA]
 exact (Sim.pmul_assoc _ _ _).append (Sim.pmul_assoc _ _ _)


def RetGk (w:World) (J N:Nat) (f g:List Tm) (F:Nat->List Tm) (e:Ending) (w':World):Prop:=∃ (k:Nat) (z:List Tm),e = .returned (.tuple #[.int .i64 (k:Int),.int .i64 0])/\GcdP J f g z/\DgR J z k/\k<=N/\(∀ j,j<N->j<k->Sim (F j) [])/\Ext w w'
theorem sj_zero {J:Nat} (h1:1<=J) (h4:J<=4) {f g:List Tm} (nf:NN f) (ng:NN g) {j m n:Nat} (h:Sim (SJ J j n m g f) []):Sim (SJ J j m n f g) []:=by
 have hx:=qf2 h1 h4 ng nf j n m
 rcases Nat.mod_two_eq_zero_or_one ((n - j)*(m - j)) with h2 | h2
 ·exact (hx.1 h2).trans h
 ·exact (hx.2 h2).trans fun q => by
   have:=h q
   rw [qaX]
   have e:qab ([]:List Tm) q=0:=rfl
   omega
theorem Gn.gcd {J m n β:Nat} {f g:List Tm} (H:Gn J m n β f g) (M:Nat->Prop) (x y:PE) (w:World) (hM:Mb M w) (hx:CRx M w 4 x f) (hy:CRx M w 4 y g):Calls Tryz.prog 62 #[.agg (peA x),.agg (peA y),.int .i64 (J:Int)] w (RetGk w J (min m n) f g fun j=>SJ J j m n f g):=by
 have nf:=H.sf.n
 have ng:=H.sg.n
 have key : ∃ z k,GcdP J f g z/\DgR J z k/\k<=min m n/\(∀ j,j<min m n->j<k->Sim (SJ J j m n f g) [])/\(k<min m n -> ¬ Sim (ck J (k:Int) (SJ J k m n f g)) []):=by
  rcases Nat.le_total n m with h | h
  ·rw [Nat.min_eq_right h]
   exact gcd_sub H.h1 H.h4 nf ng h H.zf H.zg H.df H.dg
  ·rw [Nat.min_eq_left h]
   obtain ⟨z,k,hg,hd,hk,hl,hn⟩:=gcd_sub H.h1 H.h4 ng nf h H.zg H.zf H.dg H.df
   refine ⟨z,k,hg.swap,hd,hk,fun j h5 h6=>sj_zero H.h1 H.h4 nf ng (hl j h5 h6),fun h5 h6=>hn h5 ?_⟩
   have hx:=qf2 H.h1 H.h4 nf ng k m n
   rcases Nat.mod_two_eq_zero_or_one ((m - k)*(n - k)) with h2 | h2
   ·exact (qaS (hx.1 h2)).trans h6
   ·refine (qaS (hx.2 h2)).trans ((qmy H.h1 H.h4 _ _).trans fun q=>?_)
    have:=h6 q
    rw [qaX]
    have e:qab ([]:List Tm) q=0:=rfl
    omega
 obtain ⟨z,k,hg,hd,hk,hl,hn⟩:=key
 have hm6:=H.m6
 refine (sr_Gcd M x y (J:Int) 0 (min m n) m n (fun j=>ck J (j:Int) (SJ J j m n f g)) w hM (by omega) (fun _=>rfl) (fun wk he=>H.psc M x y wk (hM.ext he) (hx.ext he) (hy.ext he)) (fun _ wk he=>H.degf M x wk (hM.ext he) (hx.ext he)) fun _ wk he=>H.swap.degf M y wk (hM.ext he) (hy.ext he)).mono ?_
 rintro e w' ⟨k',rfl,_,h0,he⟩
 have:=(h0 rfl).uniq ⟨hk,fun j hj=>qaS (r:=[]) (hl j (by omega) hj),hn⟩
 subst this
 exact ⟨k',z,rfl,hg,hd,hk,hl,he⟩
theorem qsG : ∀ m,m<=4 -> ∀ n,n<=m->okN m n 4=true:=by decide +kernel
def SB3 (g:Nat) (x y z:PE) (w:World):Prop:=P4 w g x/\P4 w (g+1) y/\P4 w (g+2) z
theorem SB3.ext {g:Nat} {x y z:PE} {w w':World} (h:SB3 g x y z w) (he:Ext w w'):SB3 g x y z w':=⟨h.1.ext he,h.2.1.ext he,h.2.2.ext he⟩
theorem qnq (w:World) (x y z:PE):SB3 w.heap.size x y z (((w.alloc (.cells (peA x) 33)).alloc (.cells (peA y) 33)).alloc (.cells (peA z) 33)):=by
 have b1:=Blk.of_arr (w.alloc (.cells (peA x) 33)) (peA y) 33 4 rfl
 have b2:=Blk.of_arr ((w.alloc (.cells (peA x) 33)).alloc (.cells (peA y) 33)) (peA z) 33 4 rfl
 simp only [World.size_alloc] at b1 b2
 exact ⟨(((Blk.of_arr w (peA x) 33 4 rfl).alloc _).alloc _).p4,(b1.alloc _).p4,b2.p4⟩


end Go.Proofs.YtlmipmebdelgbaaGreat

namespace Go.Proofs.YtlmipmebdelgbaaGreat
open Go.ChangeShapes Go.WideShapes Go.ChangeAt Go.RowKit Go.Deep

namespace subresultantGcd
end subresultantGcd
end Go.Proofs.YtlmipmebdelgbaaGreat
