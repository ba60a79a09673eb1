/- Tf -/
import Derived.Test.YtmcfpnmoklnhoaaGreatTa
import Derived.Test.YtmcfpnmoklnhoaaGreatDe
import Derived.Test.YtmcfpnmoklnhoaaGreatMq
import Derived.Test.YtmcfpnmoklnhoaaGreatQc
set_option linter.unusedVariables false
set_option maxRecDepth 100000
set_option maxHeartbeats 400000000
set_option linter.unusedSimpArgs false
namespace Go.Proofs.YtmcfpnmoklnhoaaGreat
open Go.RowKit
def kZ(J:Nat)(z f:List Tm):Prop:=∃c q,NN c/\iK J c/\¬af c []/\NN q/\af (aF c f) (aF q z)
def Bz(J:Nat)(f g r:List Tm):Prop:=∃c u v,NN c/\iK J c/\¬af c []/\NN u/\NN v/\af (aF c r) (aF u f++aF v g)
theorem kZ.comb{J:Nat}{z x y r c p q:List Tm}(nz:NN z)(nx:NN x)(ny:NN y)(nr:NN r)(hx:kZ J z x)(hy:kZ J z y)(nc:NN c)(fc:iK J c)(zc:¬af c [])(np:NN p)(nq:NN q)(h:af (aF c r) (aF p x++aF q y)):kZ J z r:=by
 obtain⟨a,qa,na,fa,za,Tg,ha⟩:=hx;obtain⟨b,qb,nb,fb,zb,Ti,hb⟩:=hy;refine⟨aF (aF a b) c,aF (aF b p) qa++aF (aF a q) qb,bT (bT na nb) nc,(fa.aF fb na).aF fc (bT na nb),nV (bT na nb) nc (nV na nb za zb) zc,(bT (bT nb np) Tg).append (bT (bT na nq) Ti),tY (bT (bT (bT na nb) nc) nr) (bT ((bT (bT nb np) Tg).append (bT (bT na nq) Ti)) nz) λe=>?_⟩;have h1:=fe e ha;have h2:=fe e hb;have h3:=fe e h;rw[di e na nx,di e Tg nz]at h1;rw[di e nb ny,di e Ti nz]at h2;rw[om,di e nc nr,di e np nx,di e nq ny]at h3;rw[di e (bT (bT na nb) nc) nr,di e (bT na nb) nc,di e na nb,di e ((bT (bT nb np) Tg).append (bT (bT na nq) Ti)) nz,om,di e (bT nb np) Tg,di e (bT na nq) Ti,di e nb np,di e na nq];generalize ev e a=A at*;generalize ev e b=B at*;generalize ev e c=C at*;generalize ev e p=P at*;generalize ev e q=Q at*;generalize ev e x=X at*;generalize ev e y=Y at*;generalize ev e z=Z at*;generalize ev e r=R at*;generalize ev e qa=QA at*;generalize ev e qb=QB at*
 have e1:A*B*C*R=A*B*(C*R):=by ac_rfl
 have e2:A*B*(P*X+Q*Y)=B*P*(A*X)+A*Q*(B*Y):=by grind
 rw[e1,h3,e2,h1,h2]
 grind
theorem Bz.comb{J:Nat}{f g x y r c p q:List Tm}(nf:NN f)(ng:NN g)(nx:NN x)(ny:NN y)(nr:NN r)(hx:Bz J f g x)(hy:Bz J f g y)(nc:NN c)(fc:iK J c)(zc:¬af c [])(np:NN p)(nq:NN q)(h:af (aF c r) (aF p x++aF q y)):Bz J f g r:=by
 obtain⟨a,u,v,na,fa,za,nu,nv,ha⟩:=hx;obtain⟨b,u',v',nb,fb,zb,nu',nv',hb⟩:=hy;have n1:=(bT (bT nb np) nu).append (bT (bT na nq) nu');have n2:=(bT (bT nb np) nv).append (bT (bT na nq) nv');refine⟨aF (aF a b) c,aF (aF b p) u++aF (aF a q) u',aF (aF b p) v++aF (aF a q) v',bT (bT na nb) nc,(fa.aF fb na).aF fc (bT na nb),nV (bT na nb) nc (nV na nb za zb) zc,n1,n2,tY (bT (bT (bT na nb) nc) nr) ((bT n1 nf).append (bT n2 ng)) λe=>?_⟩;have h1:=fe e ha;have h2:=fe e hb;have h3:=fe e h;rw[om,di e na nx,di e nu nf,di e nv ng]at h1;rw[om,di e nb ny,di e nu' nf,di e nv' ng]at h2;rw[om,di e nc nr,di e np nx,di e nq ny]at h3;rw[di e (bT (bT na nb) nc) nr,di e (bT na nb) nc,di e na nb,om,di e n1 nf,di e n2 ng,om,om,di e (bT nb np) nu,di e (bT nb np) nv,di e (bT na nq) nu',di e (bT na nq) nv',di e nb np,di e na nq];generalize ev e a=A at*;generalize ev e b=B at*;generalize ev e c=C at*;generalize ev e p=P at*;generalize ev e q=Q at*;generalize ev e x=X at*;generalize ev e y=Y at*;generalize ev e r=R at*;generalize ev e u=U at*;generalize ev e v=V at*;generalize ev e u'=U' at*;generalize ev e v'=V' at*;generalize ev e f=F at*
 generalize ev e g=G at*
 have e1:A*B*C*R=A*B*(C*R):=by ac_rfl
 have e2:A*B*(P*X+Q*Y)=B*P*(A*X)+A*Q*(B*Y):=by grind
 rw[e1,h3,e2,h1,h2]
 grind
theorem Lh(l:List Tm):af (aF [((1:Int),Mo.zero)] l) l:=(af.uI _ _).trans (OJ l)
theorem qiG(l:List Tm):af (l++aF [] l) l:=by rw[show aF [] l=[]from rfl,List.append_nil];exact af.refl _
theorem kZ.refl(J:Nat)(z:List Tm):kZ J z z:=⟨_,_,oM 1,G6 J,I1,oM 1,af.refl _⟩
theorem kZ.zero{J:Nat}{z r:List Tm}(h:af r []):kZ J z r:=⟨_,[],oM 1,G6 J,I1,NN.nil,(Lh r).trans h⟩
theorem kZ.free{J:Nat}{z r:List Tm}(nz:NN z)(fz:iK J z)(hz:¬af z [])(nr:NN r):kZ J z r:=⟨z,r,nz,fz,hz,nr,af.uI _ _⟩
theorem qbu{J:Nat}{l:List Tm}(nl:NN l)(h:bE J l 0):iK J l:=λm hm=>by
 have h1:=h.1 m hm
 have j6:m.nn=true:=by
  cases hq:m.nn with
  |true=>rfl
  |false=>exact absurd (nl m hq) hm
 have:=wZ j6 J;omega
theorem Bz.left{J:Nat}(f g:List Tm):Bz J f g f:=⟨_,_,[],oM 1,G6 J,I1,oM 1,NN.nil,by rw[show aF [] g=[]from rfl,List.append_nil];exact af.refl _⟩
theorem Bz.right{J:Nat}(f g:List Tm):Bz J f g g:=⟨_,[],_,oM 1,G6 J,I1,NN.nil,oM 1,af.refl _⟩
theorem qpP{J n δ:Nat}{f g:List Tm}(h1:1<=J)(h4:J<=4)(nf:NN f)(ng:NN g)(zf:¬af f [])(zg:¬af g [])(df:bE J f (n+δ))(dg:bE J g n):∃p q,NN p/\iK J p/\¬af p []/\NN q/\af (aF p f) (aF (dN q) g++lQ J n (δ+1) f (dN g))/\af (lQ J n (δ+1) f (dN g)) (aF p f++aF q g):=by
 obtain⟨B,hB⟩:=Dn f;obtain⟨C,hC⟩:=Dn g;have VO:bE J (dN g) n:=⟨λm hm=>dg.1 m λe=>hm (by rw[qO,e];rfl),dg.2.imp id λ⟨m,hm,e⟩=>⟨m,λe0=>hm (by rw[qO]at e0;omega),e⟩⟩;have H:mF J n (δ+1) B C _ _ f (dN g):=⟨h1,h4,nf,qP ng,hB,Tf hC,aI _,aI _,VO,.inr ⟨zf,n+δ,df,by omega⟩⟩;have nc:=fK h1 h4 (e:=(n:Int)) (qP ng)
 have zc:¬af (ck J (n:Int) (dN g)) []:=uG h1 h4 (qP ng) VO λh=>zg λm=>by
  have:=h m;rw[qO]at this;show aL g m=0;have e:aL ([]:List Tm) m=0:=rfl;omega
 have nQ:=H.qeA;have nR:=H.qeB;have hl:=H.law;refine⟨bO (ck J (n:Int) (dN g)) (δ+1),Li J n (δ+1) f (dN g),bR nc _,wK nc (vD h1 h4 _ _) _,nU nc zc _,nQ,tY (bT (bR nc _) nf) ((bT (qP nQ) ng).append nR) λe=>?_,tY nR ((bT (bR nc _) nf).append (bT nQ ng)) λe=>?_⟩
 ·have h:=fe e hl;rw[om,di e nQ (qP ng),E5 e ng]at h;rw[h,om,di e (qP nQ) ng,E5 e nQ];generalize ev e (Li _ _ _ _ _)=q
  grind
 ·have h:=fe e hl;rw[om,di e nQ (qP ng),E5 e ng]at h;rw[om,h,di e nQ ng];generalize ev e (Li _ _ _ _ _)=q
  grind
structure wm(J:Nat)(f g z:List Tm):Prop where
 nz:NN z
 zz:¬af z []
 df:kZ J z f
 dg:kZ J z g
 bz:Bz J f g z
section
variable{J:Nat}(h1:1<=J)(h4:J<=4){f g:List Tm}(nf:NN f)(ng:NN g)
include h1 h4 nf ng
theorem qp6{m n:Nat}:∀(fuel d:Nat)(a s:List Tm),d<=fuel->uq J m n f g d a s->Bz J f g a->Bz J f g (SJ J (d-1) m n f g)->
 ∃z k,bE J z k/\NN z/\¬af z []/\Bz J f g z/\kZ J z a/\kZ J z (SJ J (d-1) m n f g)/\k<=d/\(∀j,j<d->j<k->af (SJ J j m n f g) [])/\(k<d->¬af (ck J (k:Int) (SJ J k m n f g)) [])
 |0,d,a,s,hd,S,_,_=>absurd S.pos (by omega)
 |fuel+1,d,a,s,hd,S,ba,bb=>by
  have nB:=iD h1 h4 nf ng (d-1) m n
  by_cases hz:af (SJ J (d-1) m n f g) []
  ·exact⟨a,d,S.da,S.na,S.za,ba,kZ.refl J a,kZ.zero hz,aI _,λj hj _=>S.fin h1 h4 nf ng hz j hj,λh=>absurd h (Nat.lt_irrefl _)⟩
  ·obtain⟨e,hb⟩:=Kg (k:=J) nB;have kz:=S.lt h1 h4 nf ng hb hz;have nE:=iD h1 h4 nf ng e m n;have XZ:NN (ck J (e:Int) (SJ J (d-1) m n f g)):=fK h1 h4 nB;have zlb:=uG h1 h4 nB hb hz;have zt:=S.Yx h1 h4 nf ng hb hz;have Eb:=S.sub h1 h4 nf ng hb hz;have be:Bz J f g (SJ J e m n f g):=Bz.comb nf ng nB nB nE bb bb (bR S.ns _) (wK S.ns S.fs _) (nU S.ns S.zs _) (bR XZ (d-e-1)) NN.nil (Eb.trans (by rw[show aF [] (SJ J (d-1) m n f g)=[]from rfl,List.append_nil];exact af.refl _));have back:∀z,NN z->kZ J z (SJ J e m n f g)->kZ J z (SJ J (d-1) m n f g):=λz nz h=>kZ.comb nz nE nE nB h h (bR XZ _) (wK XZ (vD h1 h4 _ _) _) (nU XZ zlb _) (bR S.ns (d-e-1)) NN.nil (Eb.symm.trans (by rw[show aF [] (SJ J e m n f g)=[]from rfl,List.append_nil];exact af.refl _));have dE:bE J (SJ J e m n f g) e:=VQ h1 h4 nE (λi hi=>S.qqy h1 h4 nf ng hb hz i hi) (.inr zt);have zE:¬af (SJ J e m n f g) []:=λh=>zt (jk (r:=[]) h)
   by_cases p8:e=0
   ·subst p8;have fz:=qbu nE dE;exact⟨_,0,dE,nE,zE,be,kZ.free nE fz zE S.na,kZ.free nE fz zE nB,by omega,λj _ hj=>by omega,λ_=>zt⟩
   ·have az:1<=e:=by omega
    have S':=S.next h1 h4 nf ng hb hz az;have nl:NN (ck J (d:Int) a):=fK h1 h4 S.na;have zl:=uG h1 h4 S.na S.da S.za;have n1:=iD h1 h4 nf ng (e-1) m n;obtain⟨p,q,np,fp,zp,nq,RA,DV⟩:=qpP (δ:=d-e) h1 h4 S.na nB S.za hz (by rw[show e+(d-e)=d by omega];exact S.da) hb;have hR:=S.rem h1 h4 nf ng hb hz az;have nk:=bT (bR S.ns (d-e)) nl;have fk:iK J (aF (bO s (d-e)) (ck J (d:Int) a)):=(wK S.ns S.fs _).aF (vD h1 h4 _ _) (bR S.ns _);have zk:¬af (aF (bO s (d-e)) (ck J (d:Int) a)) []:=nV (bR S.ns _) nl (nU S.ns S.zs _) zl;have b1:Bz J f g (SJ J (e-1) m n f g):=Bz.comb nf ng S.na nB n1 ba bb nk fk zk np nq (hR.symm.trans DV);obtain⟨z,k,dz,nz,zz,bz,m1,m2,N7,dB,hne⟩:=qp6 fuel e _ _ (by omega) S' be b1;have mb:=back z nz m1;refine⟨z,k,dz,nz,zz,bz,kZ.comb nz nB n1 S.na mb m2 np fp zp (qP nq) nk (RA.trans ((af.refl _).append hR)),mb,by omega,λj hj qJ=>dB j (by omega) qJ,λDT=>?_⟩
    by_cases h:k<e
    ·exact hne h
    ·obtain rfl:k=e:=by omega
     exact zt
theorem QJ{m n:Nat}(iP:n<=m)(zf:¬af f [])(zg:¬af g [])(df:bE J f m)(dg:bE J g n):∃z k,wm J f g z/\bE J z k/\k<=n/\(∀j,j<n->j<k->af (SJ J j m n f g) [])/\(k<n->¬af (ck J (k:Int) (SJ J k m n f g)) []):=by
 by_cases hn:n=0
 ·subst hn;have fz:=qbu ng dg;exact⟨g,0,⟨ng,zg,kZ.free ng fz zg nf,kZ.refl J g,Bz.right f g⟩,dg,by omega,λj hj=>by omega,λh=>by omega⟩
 ·obtain⟨δ,rfl⟩:∃δ,m=n+δ:=⟨m-n,by omega⟩;obtain⟨hs,S⟩:=qeU h1 h4 nf ng (by omega) zf zg df dg;obtain⟨p,q,np,fp,zp,nq,RA,DV⟩:=qpP h1 h4 nf ng zf zg df dg;have n1:=iD h1 h4 nf ng (n-1) (n+δ) n;have b1:Bz J f g (SJ J (n-1) (n+δ) n f g):=Bz.comb nf ng nf ng n1 (Bz.left f g) (Bz.right f g) (oM 1) (G6 J) I1 np nq ((Lh _).trans (hs.trans DV));obtain⟨z,k,dz,nz,zz,bz,m1,m2,N7,dB,hne⟩:=qp6 h1 h4 nf ng n n _ _ (aI _) S (Bz.right f g) b1;exact⟨z,k,⟨nz,zz,kZ.comb nz ng n1 nf m1 m2 np fp zp (qP nq) (oM 1) (RA.trans ((af.refl _).append (hs.symm.trans (Lh _).symm))),m1,bz⟩,dz,N7,dB,hne⟩
end
theorem wm.swap{J:Nat}{f g z:List Tm}(h:wm J f g z):wm J g f z:=by
 obtain⟨c,u,v,nc,fc,zc,nu,nv,hs⟩:=h.bz;exact⟨h.nz,h.zz,h.dg,h.df,c,v,u,nc,fc,zc,nv,nu,hs.trans λm=>by rw[iZ,iZ,Int.add_comm]⟩
theorem wm.le{J:Nat}(h1:1<=J)(h4:J<=4){f g z z':List Tm}(nf:NN f)(ng:NN g)(h:wm J f g z)(h':wm J f g z'){a b:Nat}(ha:bE J z a)(hb:bE J z' b):a<=b:=by
 obtain⟨c,u,v,nc,fc,zc,nu,nv,hs⟩:=h'.bz;have hm:kZ J z z':=kZ.comb h.nz nf ng h'.nz h.df h.dg nc fc zc nu nv hs;obtain⟨k,q,nk,fk,zk,nq,hq⟩:=hm;have zq:¬af q []:=λh0=>nV nk h'.nz zk h'.zz (hq.trans (h0.oC z));obtain⟨e,he⟩:=Kg (k:=J) nq;have d1:=VR h1 h4 nq h.nz zq h.zz he ha;have dk:bE J k 0:=⟨λm hm=>by rw[fk m hm];exact Int.le_refl _,.inl rfl⟩;have d2:=VR h1 h4 nk h'.nz zk h'.zz dk hb;have d3:bE J (aF k z') (e+a):=⟨λm hm=>d1.1 m (by rw[<-hq m];exact hm),d1.2.imp id λ⟨m,hm,e⟩=>⟨m,by rw[hq m];exact hm,e⟩⟩;have:=G5 (bT nk h'.nz) (nV nk h'.nz zk h'.zz) d2 d3;omega
theorem wm.uniq{J:Nat}(h1:1<=J)(h4:J<=4){f g z z':List Tm}(nf:NN f)(ng:NN g)(h:wm J f g z)(h':wm J f g z'){a b:Nat}(ha:bE J z a)(hb:bE J z' b):a=b:=
 Nat.le_antisymm (h.le h1 h4 nf ng h' ha hb) (h'.le h1 h4 nf ng h hb ha)
theorem qo7:∀m,m<=4->∀n,n<=m->vP m n 4=true:=by decide+kernel
def J5(g:Nat)(x y z:PE)(w:World):Prop:=P4 w g x/\P4 w (g+1) y/\P4 w (g+2) z
theorem J5.ext{g:Nat}{x y z:PE}{w w':World}(h:J5 g x y z w)(he:Ext w w'):J5 g x y z w':=⟨h.1.ext he,h.2.1.ext he,h.2.2.ext he⟩
theorem qzt(w:World)(x y z:PE):J5 w.heap.size x y z (((w.alloc (.cells (ak x) 33)).alloc (.cells (ak y) 33)).alloc (.cells (ak z) 33)):=by
 have b1:=aG.bq (w.alloc (.cells (ak x) 33)) (ak y) 33 4 rfl;have b2:=aG.bq ((w.alloc (.cells (ak x) 33)).alloc (.cells (ak y) 33)) (ak z) 33 4 rfl;simp only[World.size_alloc]at b1 b2;exact⟨(((aG.bq w (ak x) 33 4 rfl).alloc _).alloc _).p4,(b1.alloc _).p4,b2.p4⟩
end Go.Proofs.YtmcfpnmoklnhoaaGreat
namespace Go.Proofs.YtmcfpnmoklnhoaaGreat
open Go.ChangeShapes Go.WideShapes Go.ChangeAt Go.RowKit Go.Deep
namespace subresultantGcd
end subresultantGcd
end Go.Proofs.YtmcfpnmoklnhoaaGreat
namespace Go.Proofs.YtmcfpnmoklnhoaaGreat
open Go.RowKit
def x9(ξ:Int):List Int->Int
 |[]=>0
 |a::l=>a+ξ*x9 ξ l
def pL(ξ:Int)(l:List Int):Pv:=⟨λk=>l.getD k 0,x9 ξ l⟩
theorem qCz(ξ:Int)(l:List Int)(i r T:Nat):((pL ξ l).sh ξ i).vec T 0 r=if r<T then(if T-r<i then 0 else l.getD (T-r-i) 0)else ξ^i*x9 ξ l:=rfl
end Go.Proofs.YtmcfpnmoklnhoaaGreat
namespace Go.Proofs.YtmcfpnmoklnhoaaGreat
set_option maxRecDepth 10000
def li(m:Nat)(F:Nat->Int):List Int:=(List.range (m+1)).map F
def cv(m p:Nat)(F H:Nat->Int)(k:Nat):Int:=sm (λi=>F i*(if k<i then 0 else if p<k-i then 0 else H (k-i))) (m+1)
end Go.Proofs.YtmcfpnmoklnhoaaGreat
namespace Go.Proofs.YtmcfpnmoklnhoaaGreat
open Go.RowKit
theorem qm7(ξ a:Int):∀l:List Int,x9 ξ (l++[a])=x9 ξ l+ξ^l.length*a
 |[]=>by simp[x9]
 |b::l=>by
  rw[List.cons_append,x9,x9,qm7 ξ a l,List.length_cons,Int.pow_succ,Int.mul_add, <-Int.add_assoc,Int.mul_comm (ξ^l.length) ξ,Int.mul_assoc]
theorem qm8(ξ:Int)(F:Nat->Int):∀n,x9 ξ ((List.range n).map F)=sm (λi=>F i*ξ^i) n
 |0=>rfl
 |n+1=>by
  rw[List.range_succ,List.map_append,List.map_singleton,qm7,qm8 ξ F n,List.length_map,List.length_range,sm,Int.mul_comm (ξ^n),Int.add_comm]
theorem qyR(m k:Nat)(F:Nat->Int):(li m F).getD k 0=if k<=m then F k else 0:=by
 unfold li
 by_cases h:k<=m
 ·rw[ai h,List.getD_eq_getElem?_getD,List.getElem?_map,List.getElem?_range (by omega)];rfl
 ·rw[ah h,List.getD_eq_getElem?_getD,List.getElem?_eq_none (by simp;omega)];rfl
section
variable{J:Nat}(h1:1<=J)(h4:J<=4)
include h1 h4
theorem qCB{m:Nat}{f:List Tm}(nf:NN f)(df:bE J f m):af (aQ J (m+1) λi=>ck J (i:Int) f) f:=Ng h1 h4 nf λk hk=>by have:=df.1 k hk;omega
theorem qpF(x:Nat->Int){m:Nat}{f:List Tm}(nf:NN f)(df:bE J f m):pv J x f=pL (x (J-1)) (li m λk=>ev x (ck J (k:Int) f)):=by
 have hc:∀k:Nat,ev x (ck J (k:Int) f)=(li m λk=>ev x (ck J (k:Int) f)).getD k 0:=λk=>by
  rw[qyR]
  split
  ·rfl
  ·exact fe x (df.Qs h1 h4 (by omega))
 have hv:ev x f=x9 (x (J-1)) (li m λk=>ev x (ck J (k:Int) f)):=by
  have h:=qbG h1 h4 x (oM 1) (m+1) (Q:=λi=>ck J (i:Int) f) λi _=>fK h1 h4 nf;rw[fe x (((qCB h1 h4 nf df).oC _).trans (OJ f))]at h;rw[h,li,qm8];refine OU _ λi _=>?_;show _*(_*ev x [(1,Mo.zero)])=_;rw[nK,Int.mul_one]
 unfold pv pL;rw[hv]
 congr 1
 exact funext hc
end
section
variable{J:Nat}(h1:1<=J)(h4:J<=4)
include h1 h4
theorem Ym{f g:List Tm}(nf:NN f)(ng:NN g)(df:bE J f 0)(n:Nat):af (SJ J 0 0 n f g) (bO f n):=by
 refine tY (iD h1 h4 nf ng _ _ _) (bR nf n) λx=>?_;rw[Dt h1 h4 x nf ng,jC x nf n];unfold dS
 cases n with
 |zero=>rw[Int.pow_zero];rfl
 |succ q=>
  have h:=OH (ξ:=x (J-1)) (j:=0) (d:=0) (p:=1) (T:=0) (P:=pv J x f) (R:=[]) rfl (aI _) (λk hk=>fe x (df.Qs h1 h4 hk)) (λw hw=>absurd hw List.not_mem_nil) q;rw[show 0+(q+1)-0-1=0+q by omega];show DD (0+q) 0 (bl _ (pv J x f) (q+1)++[])=_;rw[h]
  have e:DD 0 0 (bl (x (J-1)) (pv J x f) 1++[])=ev x f:=by
   show dt [((pv J x f).sh (x (J-1)) 0).vec 0 0]=_;rw[qjv];show x (J-1)^0*ev x f=_;rw[Int.pow_zero,Int.one_mul]
  rw[e,show(pv J x f).c 0=ev x f from fe x (qiV h1 h4 (qbu nf df)),Int.pow_succ]
theorem qeC{f g:List Tm}(nf:NN f)(ng:NN g)(dg:bE J g 0)(m:Nat):af (SJ J 0 m 0 f g) (bO g m):=
 ((Ty h1 h4 nf ng 0 m 0).1 (by simp)).symm.trans (Ym h1 h4 ng nf dg m)
end
def VY(F:Nat->Int)(k:Nat):Int:=((k+1:Nat):Int)*F (k+1)
theorem qji{n:Nat}{a b:Nat->Nat->Int}(s:Int)(h0:∀c,c<n+1->a 0 c=s*b 0 c)(h:∀r c,a (r+1) c=b (r+1) c):dR (n+1) a=s*dR (n+1) b:=by
 have hm:∀c,dW a c=dW b c:=λc=>by funext r k;exact h r _
 have:∀c,c<=n+1->gF (dR n) a c=s*gF (dR n) b c:=λc=>by
  induction c with
  |zero=>intro _;simp[gF]
  |succ c ih=>
   intro hc;simp only[gF];rw[ih (by omega),h0 c (by omega),hm c];generalize gF (dR n) b c=p;generalize dR n (dW b c)=q;generalize b 0 c=t;generalize mV c=v
   grind
 exact this _ (aI _)
theorem qjx{J:Nat}{f:List Tm}{i:Nat}(h:¬af (ck J ((i+1:Nat):Int) f) []):¬af (jc J f i) []:=λhs=>h λm=>by
 have:=hs m;unfold jc at this;rw[(I7 _ _) m,FZ,iM]at this
 have h0:(((i+1:Nat):Int))≠0:=by omega
 rcases Int.mul_eq_zero.1 this with h|h
 ·exact absurd h h0
 ·exact h
theorem qyQ{m:Nat}{F G:Nat->Int}(h:∀k,k<=m->F k=G k):li m F=li m G:=List.map_congr_left λk hk=>h k (by have:=List.mem_range.1 hk;omega)
section
variable{J:Nat}(h1:1<=J)(h4:J<=4)
include h1 h4
theorem qzw{f:List Tm}(nf:NN f)(i:Nat):NN (jc J f i):=bT (fK h1 h4 nf) (oM _)
theorem qvq(f:List Tm)(i:Nat):iK J (jc J f i):=λm hm=>by
 unfold jc at hm;rw[(I7 _ _) m,FZ,iM]at hm;exact vD h1 h4 _ f m λe=>hm (by rw[e];simp)
theorem qu7(x:Nat->Int){f:List Tm}(nf:NN f)(i:Nat):ev x (jc J f i)=VY (λk=>ev x (ck J (k:Int) f)) i:=by
 unfold jc VY;rw[di x (fK h1 h4 nf) (oM _),nK,Int.mul_comm]
theorem OB{f:List Tm}(nf:NN f)(n:Nat):NN (aQ J n (jc J f)):=NN.aQ λi _=>qzw h1 h4 nf i
theorem Vz(f:List Tm)(n k:Nat):af (ck J (k:Int) (aQ J n (jc J f))) (if k<n then jc J f k else[]):=Vx h1 h4 (λi=>qvq h1 h4 f i) k n
theorem qjl{f:List Tm}(nf:NN f){n:Nat}(hn:1<=n)(df:bE J f n):bE J (aQ J n (jc J f)) (n-1):=by
 refine VQ h1 h4 (OB h1 h4 nf n) (λi hi=>(Vz h1 h4 f n i).trans (by rw[ah (by omega)];exact af.refl _)) ?_;refine .inr λhs=>?_;have h:=(Vz h1 h4 f n (n-1)).symm.trans hs;rw[ai (by omega)]at h;exact qjx (by rw[show n-1+1=n by omega];exact df.VC h1 h4 hn) h
theorem qAz(x:Nat->Int){f:List Tm}(nf:NN f){n:Nat}(hn:1<=n)(df:bE J f n):pv J x (aQ J n (jc J f))=pL (x (J-1)) (li (n-1) (VY λk=>ev x (ck J (k:Int) f))):=by
 rw[qpF h1 h4 x (OB h1 h4 nf n) (qjl h1 h4 nf hn df)]
 congr 1
 refine qyQ λk hk=>?_;rw[fe x (Vz h1 h4 f n k),ai (by omega),qu7 h1 h4 x nf]
end
def yl(n:Nat):Int:=if n%4>1 then-1 else 1
def Dsc(J n:Nat)(f u:List Tm):Prop:=NN u/\∀x,ev x u*ev x (ck J (n:Int) f)=yl n*ev x (SJ J 0 n (n-1) f (aQ J n (jc J f)))
section
end
def LC(n c:Nat):List Tm:=if c=0/\2<=n then[(1,Mo.zero)]else if c+1=n then[((n:Int),Mo.zero)]else[]
def EZ(J n:Nat)(f:List Tm):Nat->Nat->List Tm:=λr c=>(mU (n+(n-1)-0-1) 0 J f (n-1-0)++mU (n+(n-1)-0-1) 0 J (aQ J n (jc J f)) (n-0)).getD c (λ_=>[]) r
def Np(J n:Nat)(f:List Tm):Nat->Nat->List Tm:=λr c=>if r=0 then LC n c else EZ J n f r c
def xK(J n:Nat)(f:List Tm):List Tm:=smul (yl n) (nJ (n-1-0+(n-0)) (Np J n f))
section
variable{J:Nat}(h1:1<=J)(h4:J<=4)
include h1 h4
theorem qoJ{f:List Tm}(nf:NN f)(n r c:Nat):NN (EZ J n f r c):=Tx h1 h4 (j:=0) (m:=n) (n:=n-1) nf (OB h1 h4 nf n) _ c r
theorem qoK{f:List Tm}(nf:NN f)(n r c:Nat):NN (Np J n f r c):=by
 unfold Np LC
 split
 ·split
  ·exact oM 1
  ·split
   ·exact oM _
   ·exact NN.nil
 ·exact qoJ h1 h4 nf n r c
theorem qoI{f:List Tm}(nf:NN f)(n:Nat):NN (xK J n f):=qoM (OA _ _ λr c=>qoK h1 h4 nf n r c) _
theorem qu6(x:Nat->Int){f:List Tm}(nf:NN f)(n r c:Nat):ev x (EZ J n f r c)=xI ((bl (x (J-1)) (pv J x f) (n-1)++bl (x (J-1)) (pv J x (aQ J n (jc J f))) n).map (Pv.vec (n+(n-1)-0-1) 0)) r c:=by
 unfold EZ;rw[qbO];unfold xI bl mU;simp only[List.map_append,List.map_map,Nat.sub_zero];refine congrFun (congrArg (λL:List (Nat->Int)=>L.getD c (λ_=>0)) ?_) r
 congr 1
 ·refine List.map_congr_left λi _=>?_;exact Yk h1 h4 x nf _ _ i
 ·refine List.map_congr_left λi _=>?_;exact Yk h1 h4 x (OB h1 h4 nf n) _ _ i
theorem qAR(x:Nat->Int){f:List Tm}(nf:NN f){n:Nat}(hn:1<=n)(xX:n<=4)(df:bE J f n)(c:Nat)(hc:c<n-1+n):ev x (EZ J n f 0 c)=ev x (ck J (n:Int) f)*ev x (LC n c):=by
 rw[qu6 h1 h4 x nf,qAz h1 h4 x nf hn df,qpF h1 h4 x nf df];rcases(show n=1\/n=2\/n=3\/n=4 by omega)with rfl|rfl|rfl|rfl
 all_goals rcases(show c=0\/c=1\/c=2\/c=3\/c=4\/c=5\/c=6 by omega)with rfl|rfl|rfl|rfl|rfl|rfl|rfl
 all_goals first|(exfalso;omega)|skip
 all_goals simp[xI,bl,dn,qCz,li,VY,List.range,List.range.loop,LC,nK,ev,x9]
 all_goals grind
theorem quE{f:List Tm}(nf:NN f){n:Nat}(hn:1<=n)(xX:n<=4)(df:bE J f n):Dsc J n f (xK J n f):=by
 refine⟨qoI h1 h4 nf n,λx=>?_⟩;unfold xK;rw[yS,Kh x _ _ λr c=>qoK h1 h4 nf n r c];have hS:ev x (SJ J 0 n (n-1) f (aQ J n (jc J f)))=dR (n-1-0+(n-0)) (λr c=>ev x (EZ J n f r c)):=Kh x _ _ λr c=>qoJ h1 h4 nf n r c;rw[hS];obtain⟨N,hN⟩:∃N,n-1-0+(n-0)=N+1:=⟨n-1-0+(n-0)-1,by omega⟩;rw[hN,qji (a:=λr c=>ev x (EZ J n f r c)) (b:=λr c=>ev x (Np J n f r c)) (ev x (ck J (n:Int) f)) (λc hc=>?_) λr c=>?_]
 ·generalize dR _ _=d;generalize ev x _=a
  grind
 ·show ev x (EZ J n f 0 c)=_*ev x (if 0=0 then LC n c else _);rw[ai rfl];exact qAR h1 h4 x nf hn xX df c (by omega)
 ·show _=ev x (if r+1=0 then LC n c else EZ J n f (r+1) c);rw[ah (by omega)]
end
theorem quD{J A n:Nat}{f:List Tm}(hA:1<=A)(hf:aH (aK f)<=A)(hg:aH (aK (aQ J n (jc J f)))<=A)(hn:1<=n)(xX:n<=4):aH (aK (xK J n f))<=(n-1+n)*A+1:=by
 have Ip:∀z:Int,z.natAbs<=4->aK [(z,Mo.zero)]<=4294967296^A:=λz hz=>by
  have:4294967296^1<=4294967296^A:=Nat.pow_le_pow_right (by decide) hA;show z.natAbs+0<=_;omega
 have hb:∀(F:List Tm)(N:Nat),aH (aK F)<=A->∀r,∀p∈mU (n+(n-1)-0-1) 0 J F N,aK (p r)<=4294967296^A:=λF N hF r p hp=>by
  obtain⟨i,hi,rfl⟩:=List.mem_map.1 hp;have tF:=Nat.le_of_lt ((lZ _ _).1 hF);show aK (if r<n+(n-1)-0-1-0 then(if n+(n-1)-0-1-r<i then[]else ck J ((n+(n-1)-0-1-r-i:Nat):Int) F)else shift (xp J (i:Int)) F)<=_
  split
  ·split
   ·exact bK _
   ·exact aR (GU _ _ _) tF
  ·rw[xg];exact tF
 have hl:=qeg (N:=4294967296^A) (n-1-0+(n-0)) (Np J n f) λr c=>by
  unfold Np
  split
  ·unfold LC
   split
   ·exact Ip 1 (by decide)
   ·split
    ·exact Ip n (by omega)
    ·exact bK _
  ·exact Nv (P:=λl=>aK l<=4294967296^A) r (bK _) _ (λp hp=>(List.mem_append.1 hp).elim (hb f _ hf r p) (hb _ _ hg r p)) c
 have hc:=qjX (n-1-0+(n-0)) (by omega);unfold xK;rw[qeh,show(yl n).natAbs=1 by unfold yl;split<;>rfl,Nat.one_mul,lZ];refine Nat.lt_of_le_of_lt hl ?_;rw[show n-1-0+(n-0)=n-1+n by omega]at*;generalize n-1+n=N at*;rw[<-Nat.pow_mul,Nat.mul_comm A,Nat.pow_succ,Nat.mul_comm];exact Nat.mul_lt_mul_of_pos_left hc (Nat.pow_pos (by decide))
section
end
section
variable{J:Nat}(h1:1<=J)(h4:J<=4)
include h1 h4
theorem qAL{m n k:Nat}{f g z:List Tm}(nf:NN f)(ng:NN g)(zf:¬af f [])(zg:¬af g [])(df:bE J f m)(dg:bE J g n)(hm:1<=m)(hn:1<=n)(hz:wm J f g z)(dz:bE J z k):af (SJ J 0 m n f g) []↔1<=k:=by
 have key:∀{f g z:List Tm}{m n k:Nat},NN f->NN g->¬af f []->¬af g []->bE J f m->bE J g n->1<=n->n<=m->wm J f g z->bE J z k->(af (SJ J 0 m n f g) []↔1<=k):=λ{f g z m n k} nf ng zf zg df dg hn iP hz dz=>by
  obtain⟨z',k',Ed,QD,hk,ha,hb⟩:=QJ h1 h4 nf ng iP zf zg df dg;have:=hz.uniq h1 h4 nf ng Ed dz QD;subst this;refine⟨λhs=>?_,λj5=>ha 0 (by omega) (by omega)⟩;refine eF λhc=>?_
  have h0:k=0:=by omega
  subst h0;exact hb (by omega) (jk hs)
 rcases Nat.le_total n m with h|h
 ·exact key nf ng zf zg df dg hn h hz dz
 ·have h5:=key ng nf zg zf dg df hm h hz.swap dz;have h6:=Ty h1 h4 nf ng 0 m n;rw[<-h5];rcases Nat.mod_two_eq_zero_or_one ((m-0)*(n-0))with h7|h7
  ·exact⟨λh=>(h6.1 h7).trans h,λh=>(h6.1 h7).symm.trans h⟩
  ·have e:=h6.2 h7;refine⟨λh=>e.trans (λq=>by rw[qO,h q];rfl),λh q=>?_⟩;have:=(e.symm.trans h) q;rw[qO]at this;exact Int.neg_eq_zero.1 this
end
def vU(n:Nat)(l:List Tm):List Tm:=if n%4>1 then dN l else l
theorem qzx{n:Nat}{l:List Tm}(h:NN l):NN (vU n l):=by
 unfold vU
 split
 ·exact qP h
 ·exact h
theorem qva(x:Nat->Int)(n:Nat){l:List Tm}(h:NN l):ev x (vU n l)=yl n*ev x l:=by
 unfold vU yl
 split
 ·rw[E5 x h];omega
 ·omega
theorem qoW:EM 1000 200 4 100:=⟨by decide,by decide,by decide,by decide⟩
theorem quf{J n:Nat}{f:List Tm}(h1:1<=J)(h4:J<=4)(hn:1<=n)(xX:n<=4)(hf:Sz 4 20 f)(hg:aH (aK (aQ J n (jc J f)))<=21)(df:bE J f n)(hS:bH 1000 (SJ J 0 n (n-1) f (aQ J n (jc J f))))(M:Nat->Prop)(x y:PE)(w:World)(hM:Mb M w)
 (hx:PI M w x (vU n (SJ J 0 n (n-1) f (aQ J n (jc J f))))) (hy:PI M w y (ck J (n:Int) f)):
 Calls Tryz.prog 14 #[.agg (ak x),.agg (ak y)] w λe w'=>∃v,e=.returned (.tuple #[.agg (ak v),.int .i64 0])/\aN M w' 4 v (xK J n f)/\Ext w w':=by
 have nf:=hf.n;have hd:=quE h1 h4 nf hn xX df;have nS:=iD h1 h4 nf (OB h1 h4 nf n) 0 n (n-1);have nl:NN (ck J (n:Int) f):=fK h1 h4 nf;have zl:¬af (ck J (n:Int) f) []:=df.VC h1 h4 hn
 have hu:af (aF (xK J n f) (ck J (n:Int) f)) (vU n (SJ J 0 n (n-1) f (aQ J n (jc J f)))):=tY (bT hd.1 nl) (qzx nS) λx=>by
  rw[di x hd.1 nl,qva x n nS];exact hd.2 x
 have jZ:aH (aK (xK J n f))<=200:=aR (quD (A:=21) (by decide) (aR hf.a (by decide)) hg hn xX) (by
  have:n-1+n<=7:=by omega
  have:=eB 21 this
  omega)
 have pW:bH 1000 (xK J n f):=qje hd.1 nl zl hu (by
  unfold vU
  split
  ·exactλm hm k=>hS m (λe=>hm (by rw[qO,e];rfl)) k
  ·exact hS)
 have Bj:=hf.ck h1 h4 (n:Int);refine(qbI qoW M _ _ (xK J n f) x y w hM hx hy hd.1 hu pW jZ Bj.2.2.1 (aR Bj.2.2.2 (by decide))).mono ?_;rintro e w' ⟨v,er,rfl,hc,hE⟩;rcases hc with⟨_,hz,_⟩|⟨rfl,_,q,hq,hqs,_⟩|⟨_,_,_,WC⟩
 ·exact absurd hz zl
 ·refine⟨v,rfl,hq.dh ?_,hE⟩;exact Lj hq.nn hd.1 nl zl (hqs.trans hu.symm)
 ·exact absurd ⟨xK J n f,hd.1,hu⟩ WC
theorem qjd{J B:Nat}(h1:1<=J)(h4:J<=4){f:List Tm}(hB:bH B f):∀n,bH B (aQ J n (jc J f))
 |0=>λm hm=>absurd rfl hm
 |n+1=>by
  rw[gT];refine(qjd h1 h4 hB n).append λm hm k=>?_;rw[rP]at hm;unfold jc at hm;rw[(I7 _ _) _,FZ,iM,oh h1 h4]at hm
  split at hm
  ·rename_i h0;have vL:aL f (Mo.add (Mo.sub m (xp J (n:Int))) (xp J ((n+1:Nat):Int)))≠0:=λe=>hm (by rw[e];exact Int.mul_zero _);have h5:=hB _ vL k;rw[iH,sZ]at h5
   have h6:(xp J ((n+1:Nat):Int)).get k=(xp J (n:Int)).get k+(xp J 1).get k:=by
    rw[eQ J k _ h1 h4,eQ J k _ h1 h4,eQ J k _ h1 h4]
    split<;>omega
   have h7:0<=(xp J 1).get k:=by
    rw[eQ J k _ h1 h4]
    split<;>omega
   omega
  ·exact absurd (Int.mul_zero _) hm
theorem qjn{J n A:Nat}{f:List Tm}(hn:n<=100)(hf:aH (aK f)<=A):aH (aK (aQ J n (jc J f)))<=A+1:=by
 have h1:aK (aQ J n (jc J f))<=n*(n*aK f):=qzI J n (jc J f) (n*aK f) λi hi=>by
  unfold jc;rw[zL,show aK [(((i+1:Nat):Int),Mo.zero)]=i+1 by show(((i+1:Nat):Int)).natAbs+0=_;omega,Nat.mul_comm];exact Nat.mul_le_mul (by omega) (GU _ _ _)
 rw[lZ]at*;refine Nat.lt_of_le_of_lt h1 ?_;rw[<-Nat.mul_assoc,Nat.pow_succ,Nat.mul_comm];have h2:n*n<=100*100:=Nat.mul_le_mul hn hn;exact Nat.mul_lt_mul_of_lt_of_le hf (by omega) (by decide)
theorem qBS{J n:Nat}(h1:1<=J)(h4:J<=4){f:List Tm}(hn:n<=100)(hf:Sz 4 20 f):Sz 4 21 (aQ J n (jc J f)):=⟨OB h1 h4 hf.n n,qjd h1 h4 hf.d n,qjn hn hf.a⟩
theorem Gn.qo4{J m n:Nat}(h1:1<=J)(h4:J<=4){f g:List Tm}(hf:Sz 4 1000 f)(hg:Sz 4 1000 g)(zf:¬af f [])(zg:¬af g [])(df:bE J f m)(dg:bE J g n)(hm:m<=4)(hn:n<=4):Gn J m n 4 f g:=
 ⟨h1,h4,hf,hg,zf,zg,df,dg,by omega,by omega,λh=>qo7 m hm n h,λh=>qo7 n hn m h⟩
theorem qAK{J m n β k:Nat}{f g z:List Tm}(H:Gn J m n β f g)(hz:wm J f g z)(dz:bE J z k)(hk:k<=min m n):af (SJ J 0 m n f g) []↔1<=k:=by
 by_cases hm:m=0
 ·subst hm;refine⟨λhs=>absurd ((Ym H.h1 H.h4 H.sf.n H.sg.n H.df n).symm.trans hs) (nU H.sf.n H.zf n),λh=>by omega⟩
 ·by_cases hn:n=0
  ·subst hn;refine⟨λhs=>absurd ((qeC H.h1 H.h4 H.sf.n H.sg.n H.dg m).symm.trans hs) (nU H.sg.n H.zg m),λh=>by omega⟩
  ·exact qAL H.h1 H.h4 H.sf.n H.sg.n H.zf H.zg H.df H.dg (by omega) (by omega) hz dz
section
end
end Go.Proofs.YtmcfpnmoklnhoaaGreat
