/- Tf -/
import Derived.Test.YtmcfpnmoklnhoaaGreatTa
import Derived.Test.YtmcfpnmoklnhoaaGreatDi
import Derived.Test.YtmcfpnmoklnhoaaGreatMq
set_option linter.unusedVariables false
set_option linter.unusedSimpArgs false
namespace Go.Proofs.YtmcfpnmoklnhoaaGreat
open Go.RowKit
def jX(J:Nat)(z f:List Tm):Prop:=∃c q,NN c/\gK J c/\¬ae c []/\NN q/\ae (ai c f) (ai q z)
def Bz(J:Nat)(f g r:List Tm):Prop:=∃c u v,NN c/\gK J c/\¬ae c []/\NN u/\NN v/\ae (ai c r) (ai u f++ai v g)
theorem jX.comb{J:Nat}{z x y r c p q:List Tm}(nz:NN z)(nx:NN x)(ny:NN y)(nr:NN r)(hx:jX J z x)(hy:jX J z y)(nc:NN c)(fc:gK J c)(zc:¬ae c [])(np:NN p)(nq:NN q)(h:ae (ai c r) (ai p x++ai q y)):jX J z r:=by
 obtain⟨a,qa,na,fa,za,QX,ha⟩:=hx;obtain⟨b,qb,nb,fb,zb,QY,hb⟩:=hy;refine⟨ai (ai a b) c,ai (ai b p) qa++ai (ai a q) qb,bE (bE na nb) nc,(fa.ai fb na).ai fc (bE na nb),lT (bE na nb) nc (lT na nb za zb) zc,(bE (bE nb np) QX).append (bE (bE na nq) QY),vM (bE (bE (bE na nb) nc) nr) (bE ((bE (bE nb np) QX).append (bE (bE na nq) QY)) nz) λe=>?_⟩;have h1:=eT e ha;have h2:=eT e hb;have h3:=eT e h;rw[bQ e na nx,bQ e QX nz]at h1;rw[bQ e nb ny,bQ e QY nz]at h2;rw[lW,bQ e nc nr,bQ e np nx,bQ e nq ny]at h3;rw[bQ e (bE (bE na nb) nc) nr,bQ e (bE na nb) nc,bQ e na nb,bQ e ((bE (bE nb np) QX).append (bE (bE na nq) QY)) nz,lW,bQ e (bE nb np) QX,bQ e (bE na nq) QY,bQ e nb np,bQ e na nq];generalize ev e a=A at*;generalize ev e b=B at*;generalize ev e c=C at*;generalize ev e p=P at*;generalize ev e q=Q at*;generalize ev e x=X at*;generalize ev e y=Y at*;generalize ev e z=Z at*;generalize ev e r=R at*;generalize ev e qa=QA at*;generalize ev e qb=QB at*
 have e1:A*B*C*R=A*B*(C*R):=by ac_rfl
 have e2:A*B*(P*X+Q*Y)=B*P*(A*X)+A*Q*(B*Y):=by grind
 rw[e1,h3,e2,h1,h2]
 grind
theorem Bz.comb{J:Nat}{f g x y r c p q:List Tm}(nf:NN f)(ng:NN g)(nx:NN x)(ny:NN y)(nr:NN r)(hx:Bz J f g x)(hy:Bz J f g y)(nc:NN c)(fc:gK J c)(zc:¬ae c [])(np:NN p)(nq:NN q)(h:ae (ai c r) (ai p x++ai q y)):Bz J f g r:=by
 obtain⟨a,u,v,na,fa,za,nu,nv,ha⟩:=hx;obtain⟨b,u',v',nb,fb,zb,nu',nv',hb⟩:=hy;have n1:=(bE (bE nb np) nu).append (bE (bE na nq) nu');have n2:=(bE (bE nb np) nv).append (bE (bE na nq) nv');refine⟨ai (ai a b) c,ai (ai b p) u++ai (ai a q) u',ai (ai b p) v++ai (ai a q) v',bE (bE na nb) nc,(fa.ai fb na).ai fc (bE na nb),lT (bE na nb) nc (lT na nb za zb) zc,n1,n2,vM (bE (bE (bE na nb) nc) nr) ((bE n1 nf).append (bE n2 ng)) λe=>?_⟩;have h1:=eT e ha;have h2:=eT e hb;have h3:=eT e h;rw[lW,bQ e na nx,bQ e nu nf,bQ e nv ng]at h1;rw[lW,bQ e nb ny,bQ e nu' nf,bQ e nv' ng]at h2;rw[lW,bQ e nc nr,bQ e np nx,bQ e nq ny]at h3;rw[bQ e (bE (bE na nb) nc) nr,bQ e (bE na nb) nc,bQ e na nb,lW,bQ e n1 nf,bQ e n2 ng,lW,lW,bQ e (bE nb np) nu,bQ e (bE nb np) nv,bQ e (bE na nq) nu',bQ e (bE na nq) nv',bQ e nb np,bQ e na nq];generalize ev e a=A at*;generalize ev e b=B at*;generalize ev e c=C at*;generalize ev e p=P at*;generalize ev e q=Q at*;generalize ev e x=X at*;generalize ev e y=Y at*;generalize ev e r=R at*;generalize ev e u=U at*;generalize ev e v=V at*;generalize ev e u'=U' at*;generalize ev e v'=V' at*;generalize ev e f=F at*
 generalize ev e g=G at*
 have e1:A*B*C*R=A*B*(C*R):=by ac_rfl
 have e2:A*B*(P*X+Q*Y)=B*P*(A*X)+A*Q*(B*Y):=by grind
 rw[e1,h3,e2,h1,h2]
 grind
theorem JM(l:List Tm):ae (ai [((1:Int),Mo.zero)] l) l:=(ae.sW _ _).trans (Q8 l)
theorem qgM(l:List Tm):ae (l++ai [] l) l:=by rw[show ai [] l=[]from rfl,List.append_nil];exact ae.refl _
theorem jX.refl(J:Nat)(z:List Tm):jX J z z:=⟨_,_,qW 1,FR J,GZ,qW 1,ae.refl _⟩
theorem jX.zero{J:Nat}{z r:List Tm}(h:ae r []):jX J z r:=⟨_,[],qW 1,FR J,GZ,NN.nil,(JM r).trans h⟩
theorem jX.free{J:Nat}{z r:List Tm}(nz:NN z)(fz:gK J z)(hz:¬ae z [])(nr:NN r):jX J z r:=⟨z,r,nz,fz,hz,nr,ae.sW _ _⟩
theorem qhu{J:Nat}{l:List Tm}(nl:NN l)(h:bD J l 0):gK J l:=λm hm=>by
 have h1:=h.1 m hm
 have jm:m.nn=true:=by
  cases hq:m.nn with
  |true=>rfl
  |false=>exact absurd (nl m hq) hm
 have:=vL jm J;omega
theorem Bz.left{J:Nat}(f g:List Tm):Bz J f g f:=⟨_,_,[],qW 1,FR J,GZ,qW 1,NN.nil,by rw[show ai [] g=[]from rfl,List.append_nil];exact ae.refl _⟩
theorem Bz.right{J:Nat}(f g:List Tm):Bz J f g g:=⟨_,[],_,qW 1,FR J,GZ,NN.nil,qW 1,ae.refl _⟩
theorem qnM{J n δ:Nat}{f g:List Tm}(h1:1<=J)(h4:J<=4)(nf:NN f)(ng:NN g)(zf:¬ae f [])(zg:¬ae g [])(df:bD J f (n+δ))(dg:bD J g n):∃p q,NN p/\gK J p/\¬ae p []/\NN q/\ae (ai p f) (ai (di q) g++kg J n (δ+1) f (di g))/\ae (kg J n (δ+1) f (di g)) (ai p f++ai q g):=by
 obtain⟨B,hB⟩:=BC f;obtain⟨C,hC⟩:=BC g;have Ue:bD J (di g) n:=⟨λm hm=>dg.1 m λe=>hm (by rw[qA,e];rfl),dg.2.imp id λ⟨m,hm,e⟩=>⟨m,λe0=>hm (by rw[qA]at e0;omega),e⟩⟩;have H:kX J n (δ+1) B C _ _ f (di g):=⟨h1,h4,nf,qB ng,hB,QV hC,Nat.le_refl _,Nat.le_refl _,Ue,.inr ⟨zf,n+δ,df,by omega⟩⟩;have nc:=eQ h1 h4 (e:=(n:Int)) (qB ng)
 have zc:¬ae (ck J (n:Int) (di g)) []:=uE h1 h4 (qB ng) Ue λh=>zg λm=>by
  have:=h m;rw[qA]at this;show aB g m=0;have e:aB ([]:List Tm) m=0:=rfl;omega
 have nQ:=H.qdi;have nR:=H.qdj;have hl:=H.law;refine⟨bA (ck J (n:Int) (di g)) (δ+1),G6 J n (δ+1) f (di g),bC nc _,uZ nc (uY h1 h4 _ _) _,mV nc zc _,nQ,vM (bE (bC nc _) nf) ((bE (qB nQ) ng).append nR) λe=>?_,vM nR ((bE (bC nc _) nf).append (bE nQ ng)) λe=>?_⟩
 ·have h:=eT e hl;rw[lW,bQ e nQ (qB ng),FQ e ng]at h;rw[h,lW,bQ e (qB nQ) ng,FQ e nQ];generalize ev e (G6 _ _ _ _ _)=q
  grind
 ·have h:=eT e hl;rw[lW,bQ e nQ (qB ng),FQ e ng]at h;rw[lW,h,bQ e nQ ng];generalize ev e (G6 _ _ _ _ _)=q
  grind
structure vP(J:Nat)(f g z:List Tm):Prop where
 nz:NN z
 zz:¬ae z []
 df:jX J z f
 dg:jX J z g
 bz:Bz J f g z
section
variable{J:Nat}(h1:1<=J)(h4:J<=4){f g:List Tm}(nf:NN f)(ng:NN g)
include h1 h4 nf ng
theorem qnZ{m n:Nat}:∀(fuel d:Nat)(a s:List Tm),d<=fuel->sI J m n f g d a s->Bz J f g a->Bz J f g (SJ J (d-1) m n f g)->
 ∃z k,bD J z k/\NN z/\¬ae z []/\Bz J f g z/\jX J z a/\jX J z (SJ J (d-1) m n f g)/\k<=d/\(∀j,j<d->j<k->ae (SJ J j m n f g) [])/\(k<d->¬ae (ck J (k:Int) (SJ J k m n f g)) [])
 |0,d,a,s,hd,S,_,_=>absurd S.pos (by omega)
 |fuel+1,d,a,s,hd,S,ba,bb=>by
  have nB:=gZ h1 h4 nf ng (d-1) m n
  by_cases hz:ae (SJ J (d-1) m n f g) []
  ·exact⟨a,d,S.da,S.na,S.za,ba,jX.refl J a,jX.zero hz,Nat.le_refl _,λj hj _=>S.fin h1 h4 nf ng hz j hj,λh=>absurd h (Nat.lt_irrefl _)⟩
  ·obtain⟨e,hb⟩:=Ld (k:=J) nB;have jA:=S.lt h1 h4 nf ng hb hz;have nE:=gZ h1 h4 nf ng e m n;have VH:NN (ck J (e:Int) (SJ J (d-1) m n f g)):=eQ h1 h4 nB;have zlb:=uE h1 h4 nB hb hz;have zt:=S.Wj h1 h4 nf ng hb hz;have Cq:=S.sub h1 h4 nf ng hb hz;have be:Bz J f g (SJ J e m n f g):=Bz.comb nf ng nB nB nE bb bb (bC S.ns _) (uZ S.ns S.fs _) (mV S.ns S.zs _) (bC VH (d-e-1)) NN.nil (Cq.trans (by rw[show ai [] (SJ J (d-1) m n f g)=[]from rfl,List.append_nil];exact ae.refl _));have back:∀z,NN z->jX J z (SJ J e m n f g)->jX J z (SJ J (d-1) m n f g):=λz nz h=>jX.comb nz nE nE nB h h (bC VH _) (uZ VH (uY h1 h4 _ _) _) (mV VH zlb _) (bC S.ns (d-e-1)) NN.nil (Cq.symm.trans (by rw[show ai [] (SJ J e m n f g)=[]from rfl,List.append_nil];exact ae.refl _));have dE:bD J (SJ J e m n f g) e:=qal h1 h4 nE (λi hi=>S.qon h1 h4 nf ng hb hz i hi) (.inr zt);have zE:¬ae (SJ J e m n f g) []:=λh=>zt (gV (r:=[]) h)
   by_cases kM:e=0
   ·subst kM;have fz:=qhu nE dE;exact⟨_,0,dE,nE,zE,be,jX.free nE fz zE S.na,jX.free nE fz zE nB,by omega,λj _ hj=>by omega,λ_=>zt⟩
   ·have af:1<=e:=by omega
    have S':=S.next h1 h4 nf ng hb hz af;have nl:NN (ck J (d:Int) a):=eQ h1 h4 S.na;have zl:=uE h1 h4 S.na S.da S.za;have n1:=gZ h1 h4 nf ng (e-1) m n;obtain⟨p,q,np,fp,zp,nq,PY,Ce⟩:=qnM (δ:=d-e) h1 h4 S.na nB S.za hz (by rw[show e+(d-e)=d by omega];exact S.da) hb;have hR:=S.rem h1 h4 nf ng hb hz af;have nk:=bE (bC S.ns (d-e)) nl;have fk:gK J (ai (bA s (d-e)) (ck J (d:Int) a)):=(uZ S.ns S.fs _).ai (uY h1 h4 _ _) (bC S.ns _);have zk:¬ae (ai (bA s (d-e)) (ck J (d:Int) a)) []:=lT (bC S.ns _) nl (mV S.ns S.zs _) zl;have b1:Bz J f g (SJ J (e-1) m n f g):=Bz.comb nf ng S.na nB n1 ba bb nk fk zk np nq (hR.symm.trans Ce);obtain⟨z,k,dz,nz,zz,bz,m1,m2,L6,bT,hne⟩:=qnZ fuel e _ _ (by omega) S' be b1;have mb:=back z nz m1;refine⟨z,k,dz,nz,zz,bz,jX.comb nz nB n1 S.na mb m2 np fp zp (qB nq) nk (PY.trans ((ae.refl _).append hR)),mb,by omega,λj hj pJ=>bT j (by omega) pJ,λwM=>?_⟩
    by_cases h:k<e
    ·exact hne h
    ·obtain rfl:k=e:=by omega
     exact zt
theorem Uo{m n:Nat}(gY:n<=m)(zf:¬ae f [])(zg:¬ae g [])(df:bD J f m)(dg:bD J g n):∃z k,vP J f g z/\bD J z k/\k<=n/\(∀j,j<n->j<k->ae (SJ J j m n f g) [])/\(k<n->¬ae (ck J (k:Int) (SJ J k m n f g)) []):=by
 by_cases hn:n=0
 ·subst hn;have fz:=qhu ng dg;exact⟨g,0,⟨ng,zg,jX.free ng fz zg nf,jX.refl J g,Bz.right f g⟩,dg,by omega,λj hj=>by omega,λh=>by omega⟩
 ·obtain⟨δ,rfl⟩:∃δ,m=n+δ:=⟨m-n,by omega⟩;obtain⟨hs,S⟩:=qdu h1 h4 nf ng (by omega) zf zg df dg;obtain⟨p,q,np,fp,zp,nq,PY,Ce⟩:=qnM h1 h4 nf ng zf zg df dg;have n1:=gZ h1 h4 nf ng (n-1) (n+δ) n;have b1:Bz J f g (SJ J (n-1) (n+δ) n f g):=Bz.comb nf ng nf ng n1 (Bz.left f g) (Bz.right f g) (qW 1) (FR J) GZ np nq ((JM _).trans (hs.trans Ce));obtain⟨z,k,dz,nz,zz,bz,m1,m2,L6,bT,hne⟩:=qnZ h1 h4 nf ng n n _ _ (Nat.le_refl _) S (Bz.right f g) b1;exact⟨z,k,⟨nz,zz,jX.comb nz ng n1 nf m1 m2 np fp zp (qB nq) (qW 1) (PY.trans ((ae.refl _).append (hs.symm.trans (JM _).symm))),m1,bz⟩,dz,L6,bT,hne⟩
end
theorem vP.swap{J:Nat}{f g z:List Tm}(h:vP J f g z):vP J g f z:=by
 obtain⟨c,u,v,nc,fc,zc,nu,nv,hs⟩:=h.bz;exact⟨h.nz,h.zz,h.dg,h.df,c,v,u,nc,fc,zc,nv,nu,hs.trans λm=>by rw[gW,gW,Int.add_comm]⟩
theorem vP.le{J:Nat}(h1:1<=J)(h4:J<=4){f g z z':List Tm}(nf:NN f)(ng:NN g)(h:vP J f g z)(h':vP J f g z'){a b:Nat}(ha:bD J z a)(hb:bD J z' b):a<=b:=by
 obtain⟨c,u,v,nc,fc,zc,nu,nv,hs⟩:=h'.bz;have hm:jX J z z':=jX.comb h.nz nf ng h'.nz h.df h.dg nc fc zc nu nv hs;obtain⟨k,q,nk,fk,zk,nq,hq⟩:=hm;have zq:¬ae q []:=λh0=>lT nk h'.nz zk h'.zz (hq.trans (h0.mY z));obtain⟨e,he⟩:=Ld (k:=J) nq;have d1:=Uf h1 h4 nq h.nz zq h.zz he ha;have dk:bD J k 0:=⟨λm hm=>by rw[fk m hm];exact Int.le_refl _,.inl rfl⟩;have d2:=Uf h1 h4 nk h'.nz zk h'.zz dk hb;have d3:bD J (ai k z') (e+a):=⟨λm hm=>d1.1 m (by rw[<-hq m];exact hm),d1.2.imp id λ⟨m,hm,e⟩=>⟨m,by rw[hq m];exact hm,e⟩⟩;have:=Le (bE nk h'.nz) (lT nk h'.nz zk h'.zz) d2 d3;omega
theorem vP.uniq{J:Nat}(h1:1<=J)(h4:J<=4){f g z z':List Tm}(nf:NN f)(ng:NN g)(h:vP J f g z)(h':vP J f g z'){a b:Nat}(ha:bD J z a)(hb:bD J z' b):a=b:=
 Nat.le_antisymm (h.le h1 h4 nf ng h' ha hb) (h'.le h1 h4 nf ng h hb ha)
def qqH(w:World)(J N:Nat)(f g:List Tm)(F:Nat->List Tm)(e:Ending)(w':World):Prop:=∃(k:Nat)(z:List Tm),e=.returned (.tuple #[.int .i64 (k:Int),.int .i64 0])/\vP J f g z/\bD J z k/\k<=N/\(∀j,j<N->j<k->ae (F j) [])/\Ext w w'
theorem qyY{J:Nat}(h1:1<=J)(h4:J<=4){f g:List Tm}(nf:NN f)(ng:NN g){j m n:Nat}(h:ae (SJ J j n m g f) []):ae (SJ J j m n f g) []:=by
 have hx:=Re h1 h4 ng nf j n m;rcases Nat.mod_two_eq_zero_or_one ((n-j)*(m-j))with h2|h2
 ·exact(hx.1 h2).trans h
 ·exact(hx.2 h2).trans λq=>by
   have:=h q;rw[qA];have e:aB ([]:List Tm) q=0:=rfl;omega
theorem Gn.gcd{J m n β:Nat}{f g:List Tm}(H:Gn J m n β f g)(M:Nat->Prop)(x y:PE)(w:World)(hM:Mb M w)(hx:aI M w 4 x f)(hy:aI M w 4 y g):Calls Tryz.prog 32 #[.agg (ah x),.agg (ah y),.int .i64 (J:Int)] w (qqH w J (min m n) f g λj=>SJ J j m n f g):=by
 have nf:=H.sf.n;have ng:=H.sg.n
 have key:∃z k,vP J f g z/\bD J z k/\k<=min m n/\(∀j,j<min m n->j<k->ae (SJ J j m n f g) [])/\(k<min m n->¬ae (ck J (k:Int) (SJ J k m n f g)) []):=by
  rcases Nat.le_total n m with h|h
  ·rw[Nat.min_eq_right h];exact Uo H.h1 H.h4 nf ng h H.zf H.zg H.df H.dg
  ·rw[Nat.min_eq_left h];obtain⟨z,k,hg,hd,hk,hl,hn⟩:=Uo H.h1 H.h4 ng nf h H.zg H.zf H.dg H.df;refine⟨z,k,hg.swap,hd,hk,λj h5 h6=>qyY H.h1 H.h4 nf ng (hl j h5 h6),λh5 h6=>hn h5 ?_⟩;have hx:=Re H.h1 H.h4 nf ng k m n;rcases Nat.mod_two_eq_zero_or_one ((m-k)*(n-k))with h2|h2
   ·exact(gV (hx.1 h2)).trans h6
   ·refine(gV (hx.2 h2)).trans ((ZV H.h1 H.h4 _ _).trans λq=>?_);have:=h6 q;rw[qA];have e:aB ([]:List Tm) q=0:=rfl;omega
 obtain⟨z,k,hg,hd,hk,hl,hn⟩:=key;have yh:=H.m6;refine(qy6 M x y (J:Int) 0 (min m n) m n (λj=>ck J (j:Int) (SJ J j m n f g)) w hM (by omega) (λ_=>rfl) (λwk he=>H.psc M x y wk (hM.ext he) (hx.ext he) (hy.ext he)) (λ_ wk he=>H.Ud M x wk (hM.ext he) (hx.ext he)) λ_ wk he=>H.swap.Ud M y wk (hM.ext he) (hy.ext he)).mono ?_;rintro e w' ⟨k',rfl,_,h0,he⟩;have:=(h0 rfl).uniq ⟨hk,λj hj=>gV (r:=[]) (hl j (by omega) hj),hn⟩;subst this;exact⟨k',z,rfl,hg,hd,hk,hl,he⟩
def Zi(g:Nat)(x y z:PE)(w:World):Prop:=P4 w g x/\P4 w (g+1) y/\P4 w (g+2) z
theorem Zi.ext{g:Nat}{x y z:PE}{w w':World}(h:Zi g x y z w)(he:Ext w w'):Zi g x y z w':=⟨h.1.ext he,h.2.1.ext he,h.2.2.ext he⟩
end Go.Proofs.YtmcfpnmoklnhoaaGreat
namespace Go.Proofs.YtmcfpnmoklnhoaaGreat
open Go.ChangeShapes Go.WideShapes Go.ChangeAt Go.RowKit Go.Deep
namespace subresultantGcd
end subresultantGcd
end Go.Proofs.YtmcfpnmoklnhoaaGreat
