/- Zc -/
import Derived.Test.YtaafefeafonhdaaGreatZb
set_option linter.unusedVariables false
set_option maxRecDepth 100000
set_option maxHeartbeats 400000000
set_option linter.unusedSimpArgs false
namespace Go.Proofs.YtaafefeafonhdaaGreat
open Go.RowKit
section
variable{J:Nat}{f g:List Tm}(h1:1<=J)(h4:J<=4)
include h1 h4
theorem Nj(x:Nat->Int){m:Nat}(nf:NN f)(df:dJ J f m)(hm:m<=2):ev x f=ev x (aS J f 0)+ev x (aS J f 1)*x (J-1)+ev x (aS J f 2)*(x (J-1)*x (J-1)):=by
 have hs:=QJ (N:=3) h1 h4 nf λk hk=>by have:=df.1 k hk;omega
 rw[<-rf x hs,QW x J 3 _ h1 h4 λi _=>gX h1 h4 nf];show 0+ev x (aS J f 0)*x (J-1)^0+ev x (aS J f 1)*x (J-1)^1+ev x (aS J f 2)*x (J-1)^2=_
 grind
theorem qbX(x:Nat->Int)(df:dJ J f 1):ev x (aS J f 2)=0:=rf x (qum h1 h4 df.1 (show 1<2 by omega))
variable(nf:NN f)(ng:NN g)
include nf ng
theorem qv7(x:Nat->Int)(df:dJ J f 1)(dg:dJ J g 1)(hf:ev x f=0)(hg:ev x g=0):ev x (mW J f g)=0:=by
 have a:=Nj h1 h4 x nf df (by omega);have b:=Nj h1 h4 x ng dg (by omega);rw[qbX h1 h4 x df]at a;rw[qbX h1 h4 x dg]at b;rw[Gw h1 h4 nf ng]
 have a0:ev x (aS J f 0)= -(ev x (aS J f 1)*x (J-1)):=by grind
 have b0:ev x (aS J g 0)= -(ev x (aS J g 1)*x (J-1)):=by grind
 rw[a0,b0];grind
theorem qv6(x:Nat->Int)(df:dJ J f 2)(dg:dJ J g 1)(hf:ev x f=0)(hg:ev x g=0):ev x (mT J f g)=0:=by
 have a:=Nj h1 h4 x nf df (by omega);have b:=Nj h1 h4 x ng dg (by omega);rw[qbX h1 h4 x dg]at b;rw[qbY h1 h4 nf ng]
 have a0:ev x (aS J f 0)= -(ev x (aS J f 1)*x (J-1))-ev x (aS J f 2)*(x (J-1)*x (J-1)):=by grind
 have b0:ev x (aS J g 0)= -(ev x (aS J g 1)*x (J-1)):=by grind
 rw[a0,b0];grind
theorem qv5(x:Nat->Int)(df:dJ J f 2)(dg:dJ J g 2)(hf:ev x f=0)(hg:ev x g=0):ev x (mR J f g)=0:=by
 have a:=Nj h1 h4 x nf df (by omega);have b:=Nj h1 h4 x ng dg (by omega);rw[Ni h1 h4 nf ng,QV h1 h4 nf ng,QU h1 h4 nf ng,Gw h1 h4 nf ng]
 have a0:ev x (aS J f 0)= -(ev x (aS J f 1)*x (J-1))-ev x (aS J f 2)*(x (J-1)*x (J-1)):=by grind
 have b0:ev x (aS J g 0)= -(ev x (aS J g 1)*x (J-1))-ev x (aS J g 2)*(x (J-1)*x (J-1)):=by grind
 rw[a0,b0];grind
theorem qAl:af (mW J g f) (cB (mW J f g)):=wN (Im h1 h4 ng nf) (oq (Im h1 h4 nf ng)) λx=>by
 rw[Gw h1 h4 ng nf,vQ x (Im h1 h4 nf ng),Gw h1 h4 nf ng];grind
theorem qAk:af (mR J g f) (mR J f g):=wN (Tn h1 h4 ng nf) (Tn h1 h4 nf ng) λx=>by
 rw[Ni h1 h4 ng nf,QV h1 h4 ng nf,QU h1 h4 ng nf,Gw h1 h4 ng nf,Ni h1 h4 nf ng,QV h1 h4 nf ng,QU h1 h4 nf ng,Gw h1 h4 nf ng];grind
end
def ow(J m n:Nat)(f g:List Tm):List Tm:=DX J m n f g 0
theorem Two.swap{J m n:Nat}{f g:List Tm}(H:Two J m n f g):Two J n m g f:=⟨H.h1,H.h4,H.sg,H.sf,H.zg,H.zf,H.dg,H.df,H.n2,H.m2⟩
section
variable{J m n:Nat}{f g:List Tm}(H:Two J m n f g)(hm:1<=m)(hn:1<=n)
include H hm hn
theorem Two.cof:fU J 12 43 (ow J m n f g):=by
 have key:∀{m n:Nat}{f g:List Tm},Two J m n f g->1<=m->1<=n->n<=m->fU J 12 43 (DY J m n f g 0):=λ{m n f g} H hm hn yY=>by
  unfold DY
  split
  ·exact(qbC H.h1 H.h4 H.sf H.sg).mono (by decide) (by decide)
  ·split
   ·exact(qjA H.h1 H.h4 H.sf H.sg).mono (by decide) (by decide)
   ·exact qjz H.h1 H.h4 H.sf H.sg
 unfold ow DX
 split
 ·exact key H.swap hn hm (by omega)
 ·exact key H hm hn (by omega)
theorem Two.zero(x:Nat->Int)(hf:ev x f=0)(hg:ev x g=0):ev x (ow J m n f g)=0:=by
 have key:∀{m n:Nat}{f g:List Tm},Two J m n f g->1<=m->1<=n->n<=m->ev x f=0->ev x g=0->ev x (DY J m n f g 0)=0:=λ{m n f g} H hm hn yY hf hg=>by
  have m2:=H.m2;have df:=H.df;have dg:=H.dg;unfold DY
  split
  ·rename_i e;subst e
   obtain rfl:n=1:=by omega
   exact qv7 H.h1 H.h4 H.sf.n H.sg.n x df dg hf hg
  ·obtain rfl:m=2:=by omega
   split
   ·rename_i e;subst e;exact qv6 H.h1 H.h4 H.sf.n H.sg.n x df dg hf hg
   ·obtain rfl:n=2:=by omega
    exact qv5 H.h1 H.h4 H.sf.n H.sg.n x df dg hf hg
 unfold ow DX
 split
 ·exact key H.swap hn hm (by omega) hg hf
 ·exact key H hm hn (by omega) hf hg
omit hm in
theorem Two.qwg:ow J m n f g=ow J n m g f\/af (ow J m n f g) (ow J n m g f)\/af (ow J m n f g) (cB (ow J n m g f)):=by
 have m2:=H.m2;have n2:=H.n2;unfold ow DX
 by_cases e:m=n
 ·subst e;rw[aj (Nat.lt_irrefl m),aj (Nat.lt_irrefl m)];unfold DY
  split
  ·exact .inr (.inr (qAl H.h1 H.h4 H.sg.n H.sf.n))
  ·exact .inr (.inl (qAk H.h1 H.h4 H.sg.n H.sf.n))
 ·rcases Nat.lt_or_gt_of_ne e with h|h
  ·rw[av h,aj (by omega)];exact .inl rfl
  ·rw[aj (by omega),av h];exact .inl rfl
theorem Two.res(M:Nat->Prop)(x y:PE)(w:World)(hM:Mb M w)(hx:aG M w 4 x f)(hy:aG M w 4 y g):
 Calls Tryz.prog 49 #[.agg (ag x),.agg (ag y),.int .i64 (J:Int)] w (xw M w 4 (ow J m n f g) 0):=by
 have m2:=H.m2;have n2:=H.n2;exact qCO M x y (J:Int) m n (min m n) (DX J m n f g) _ w hM ⟨qo3 H.h1 H.h4,by omega,λwk he=>Vz H M x wk (hM.ext he) (hx.ext he),λwk he=>qbI H M y wk (hM.ext he) (hy.ext he),λh=>by omega,λh0=>by omega,λ_ h0=>by omega,λ_ _ M' wk sj hm he=>qui H M' x y wk sj ((hx.more hm).ext he) ((hy.more hm).ext he),λ_ _=>⟨by omega,af.refl _⟩⟩
theorem Two.qCp(M:Nat->Prop)(x y:PE)(w:World)(hM:Mb M w)(hx:aG M w 4 x f)(hy:aG M w 4 y g):
 Calls Tryz.prog 15 #[.agg (ag x),.agg (ag y),.int .i64 (J:Int)] w (di M w 4 (ow J m n f g)):=
 qz2 M x y (J:Int) 0 _ w hM λM' wk sj hm' he=>H.res hm hn M' x y wk sj ((hx.more hm').ext he) ((hy.more hm').ext he)
end
def hG:List Tm:=aM 1 2 (Cz 1 hF)
theorem qcu:Sz 3 10 hF:=⟨GG,(Ng (B:=2) GG (by decide)).mono (by decide),by decide⟩
theorem qcy:NN hG:=uk (by decide)
theorem qk4:dJ 1 hG 1:=⟨VB (by decide),.inr ⟨⟨1,0,0,0⟩,by decide,by decide⟩⟩
theorem qdo:Two 1 2 1 hF hG:=⟨by decide,by decide,qcu,⟨qcy,(Ng (B:=2) qcy (by decide)).mono (by decide),by decide⟩,Nv.nz (by decide) (by decide) (by decide),qk4.nz (by decide) (by decide) (by decide),Nv,qk4,by decide,by decide⟩
theorem qlD:af (aC hD (ck 1 ((2:Nat):Int) hF)) (zC 2 (ow 1 2 1 hF hG)):=qfQ (fF qcn (gX (by decide) (by decide) GG)) (qpw (Tq (by decide) (by decide) GG qcy)) (by decide+kernel)
theorem qEp:Two 1 1 2 (vD 1 2 hz1) (vD 1 3 hz2):=⟨by decide,by decide,⟨qfZ,(Ng (B:=1) qfZ (by decide)).mono (by decide),by decide⟩,⟨qf0,(Ng (B:=2) qf0 (by decide)).mono (by decide),by decide⟩,qrw.nz (by decide) (by decide) (by decide),qrx.nz (by decide) (by decide) (by decide),qrw,qrx,by decide,by decide⟩
theorem qEo:af (ow 1 1 2 (vD 1 2 hz1) (vD 1 3 hz2)) [(1,Mo.zero)]:=qfQ (Tq (by decide) (by decide) qf0 qfZ) (uk (by decide)) (by decide+kernel)
theorem qwo:qgH:=λa1 a2 c1 c2 X1 X2 w h1 h2=>qCJ a1 a2 2 c1 3 c2 X1 X2 hz1 hz2 (ow 1 1 2 (vD 1 2 hz1) (vD 1 3 hz2)) 1 w h1 h2 qEo λM' wk x y hM hx hy=>qEp.res (by decide) (by decide) M' x y wk hM hx hy
theorem qwn:qgG:=λM x w hM hx=>by
 have zf:¬af hF []:=Nv.nz (by decide) (by decide) (by decide);have hR:=(qdo.cof (by decide) (by decide)).sz;refine qCi M x 1 2 hG (ow 1 2 1 hF hG) (ck 1 ((2:Nat):Int) hF) hD w hM ⟨by decide,by decide,λwk he=>Vz qdo M x wk (hM.ext he) (hx.ext he),λM' wk sj hm he=>qAw M' x hF 1 2 wk (by decide) (by decide) zf Nv qw0 sj ((hx.more hm).ext he),λM' wk y sj hm he hy=>qdo.res (by decide) (by decide) M' x y wk sj ((hx.more hm).ext he) hy,λ_ M' wk y sj hy=>?_,λM' wk sj hm he=>qpe M' x hF 1 2 3 wk (by decide) (by decide) GG zf Nv sj ((hx.more hm).ext he).pi qcu.d (by decide) (by decide) (aK qcu.a (by decide)),λM' wk y z sj hy hz=>?_⟩
 ·exact qqL M' y _ 12 wk sj hy.pi (aK (Nat.succ_le_succ hR.a) (by decide)) hR.d (by decide)
 ·have nl:NN (ck 1 ((2:Nat):Int) hF):=gX (by decide) (by decide) GG;have zl:¬af (ck 1 ((2:Nat):Int) hF) []:=Nv.Vr (by decide) (by decide) (by decide);have nS:NN (zC 2 (ow 1 2 1 hF hG)):=qpw hR.n;refine(qqi 0 1 M' (zC 2 (ow 1 2 1 hF hG)) (ck 1 ((2:Nat):Int) hF) y z 16 45 wk sj hy.pi hz.pi ((OE hR.d).mono (by decide)) ((QQ 1).bP (qfQ (uk (by decide)) nl (by decide))) ?_ (by decide) ok0 (by have:=qpL;omega)).mono ?_
  ·rw[show zC 2 (ow 1 2 1 hF hG)=cB (ow 1 2 1 hF hG)from rfl,OG];exact aK hR.a (by decide)
  rintro e w' ⟨v,er,rfl,hc,hE⟩;rcases hc with⟨_,hz,_⟩|⟨rfl,_,q,hq,hqs,_⟩|⟨_,_,_,xM⟩
  ·exact absurd hz zl
  ·refine⟨v,rfl,hq.bP ?_,hE⟩;exact qp4 hq.nn qcn nl zl (hqs.trans qlD.symm)
  ·exact absurd ⟨hD,qcn,qlD⟩ xM
theorem qz1(w:World):Calls Tryz.prog 4 #[] w λe w'=>e=.returned (.bool true)/\Ext w w':=qz0 qwn qwo w
theorem qja:∀(c c':Nat)(F F':Nat->List Tm),(∀i j,i<j->j<c->fI (F i) (F j)<0)->(∀i j,i<j->j<c'->fI (F' i) (F' j)<0)->(∀i,i<c->∃j,j<c'/\F i=F' j)->(∀j,j<c'->∃i,i<c/\F' j=F i)->c=c'/\∀i,i<c->F i=F' i
 |0,c',_,_,_,_,_,h=>by
  refine⟨?_,λi hi=>absurd hi (Nat.not_lt_zero _)⟩
  cases c' with
  |zero=>rfl
  |succ c'=>obtain⟨i,hi,_⟩:=h 0 (Nat.succ_pos _);exact absurd hi (Nat.not_lt_zero _)
 |c+1,c',F,F',h1,h2,h3,h4=>by
  have Xl:∀l:List Tm,¬fI l l<0:=λl hh=>by rw[(JZ l l).2 rfl]at hh;omega
  obtain⟨j,hj,hFj⟩:=h3 c (Nat.lt_succ_self c);obtain⟨d,rfl⟩:∃d,c'=d+1:=⟨c'-1,by omega⟩;obtain⟨i,hi,hFi⟩:=h4 d (Nat.lt_succ_self d)
  have hid:F' d=F c:=by
   by_cases qI:i=c
   ·rw[hFi,qI]
   ·exfalso;have e1:=h1 i c (by omega) (Nat.lt_succ_self c)
    by_cases hjd:j=d
    ·rw[hFj,hjd, <-hFi]at e1;exact Xl _ e1
    ·have e2:=h2 j d (by omega) (Nat.lt_succ_self d);rw[<-hFj,hFi]at e2;exact Xl _ (QM e1 e2)
  obtain⟨r1,r2⟩:=qja c d F F' (λi j eD hj=>h1 i j eD (by omega)) (λi j eD hj=>h2 i j eD (by omega)) (λi hi=>by
   obtain⟨j,hj,e⟩:=h3 i (by omega);refine⟨j,?_,e⟩
   by_cases hjd:j=d
   ·exfalso;have e1:=h1 i c hi (Nat.lt_succ_self c);rw[e,hjd,hid]at e1;exact Xl _ e1
   ·omega) (λj hj=>by
   obtain⟨i,hi,e⟩:=h4 j (by omega);refine⟨i,?_,e⟩
   by_cases qI:i=c
   ·exfalso;have e1:=h2 j d hj (Nat.lt_succ_self d);rw[e,qI,hid]at e1;exact Xl _ e1
   ·omega)
  subst r1;refine⟨rfl,λi hi=>?_⟩
  by_cases qI:i=c
  ·rw[qI,hid]
  ·exact r2 i (by omega)
theorem qwk{N N' c c':Nat}{P P' F F':Nat->List Tm}(h:IU N P c F)(k:IU N' P' c' F')(h1:∀j,j<N->o5 ((dD (P j)).map (·.2))≠0->∃i,i<N'/\dD (P j)=dD (P' i))(h2:∀j,j<N'->o5 ((dD (P' j)).map (·.2))≠0->∃i,i<N/\dD (P' j)=dD (P i)):c=c'/\∀i,i<c->F i=F' i:=by
 refine qja c c' F F' h.2.2 k.2.2 (λi hi=>?_) (λj hj=>?_)
 ·obtain⟨j,hj,e,hl⟩:=h.1 i hi;rw[e]at hl;obtain⟨i',hi',e'⟩:=h1 j hj hl;rw[e']at hl;obtain⟨q,hq,eq⟩:=k.2.1 i' hi' hl;exact⟨q,hq,by rw[e,e',eq]⟩
 ·obtain⟨i,hi,e,hl⟩:=k.1 j hj;rw[e]at hl;obtain⟨i',hi',e'⟩:=h2 i hi hl;rw[e']at hl;obtain⟨q,hq,eq⟩:=h.2.1 i' hi' hl;exact⟨q,hq,by rw[e,e',eq]⟩
theorem qqX(l:List Tm)(z:Int):af (aC l [(z,Mo.zero)]) (smul z l):=by
 have h:=OP l (z,Mo.zero)
 rwa[IC]at h
theorem qDi(l:List Tm):dD (cB l)=dD l:=by
 have h:af (cB l) (smul (-1) l):=qqX l (-1);rw[h.dD,qDl (by decide)]
def qv(x:Nat->Int):Nat->Rat:=aq (λi=>(x i:Rat)) 4
theorem qvV(x:Nat->Int)(m:Mo)(h:m.nn=true):mU (qv x) m=((eM x m:Int):Rat):=by
 unfold mU eM qv aq;rw[av h];simp only[Rat.intCast_mul,Rat.intCast_pow];rfl
theorem qbW(x:Nat->Int):∀(l:List Tm),(∀t∈l,t.2.nn=true)->dR (qv x) l=((ev x l:Int):Rat)
 |[],_=>rfl
 |t::l,h=>by
  show(t.1:Rat)*mU (qv x) t.2+dR (qv x) l=((t.1*eM x t.2+ev x l:Int):Rat);rw[qbW x l λs hs=>h s (List.mem_cons_of_mem _ hs),qvV x t.2 (h t List.mem_cons_self),Rat.intCast_add,Rat.intCast_mul]
theorem qrD{A E D:Nat}:∀{l:List Tm},(∀s∈l,∀k,s.2.get k<=(E:Int))->aF (aB l)<=D->vz A l<=1+l.length*(D+2+A*(4*E))
 |[],_,_=>by simp[vz]
 |t::l,h,hD=>by
  have ih:=qrD (A:=A) (E:=E) (D:=D) (l:=l) (λs hs=>h s (List.mem_cons_of_mem _ hs)) (aK (fu (by simp[aB])) hD);have h1:aF t.1.natAbs<=D:=aK (fu (by simp[aB])) hD
  have h2:es t.2 4<=4*E:=by
   have e1:=h t List.mem_cons_self 1;have e2:=h t List.mem_cons_self 2;have e3:=h t List.mem_cons_self 3;have e4:=h t List.mem_cons_self 4;have e5:es t.2 4=0+(t.2.get 1).toNat+(t.2.get 2).toNat+(t.2.get 3).toNat+(t.2.get 4).toNat:=rfl;omega
  have h3:=Nat.mul_le_mul_left A h2;have h4:D5 A t=aF t.1.natAbs+1+A*es t.2 4:=rfl;have h5:vz A (t::l)=D5 A t+vz A l+1:=rfl
  have h6:(t::l).length*(D+2+A*(4*E))=l.length*(D+2+A*(4*E))+(D+2+A*(4*E)):=by rw[List.length_cons,Nat.add_mul,Nat.one_mul]
  rw[h5,h6,h4];omega
theorem qpz:∀l:List Tm,norm (fl l)=norm l
 |[]=>rfl
 |t::l=>by
  have ih:=qpz l;unfold fl at ih⊢;rw[List.filter_cons]
  by_cases h:t.2.nn=true
  ·rw[av h];simp only[norm,av h,ih]
  ·rw[aj h];simp only[norm,aj h,ih]
theorem qvY(a:Nat->Rat)(l:List Tm):dR a (fl l)=dR a (norm l):=by
 rw[<-qpz l,qkb a (fl l) λt ht=>by simpa using(List.mem_filter.1 ht).2]
structure FM(l:List Tm):Prop where
 s:SmD 2 (norm l)
 n:l.length<=4
 a:aF (aB l)<=5
 e:∀s∈l,∀k,s.2.get k<=((2:Nat):Int)
def tO(x:Nat->Int)(l:List Tm):List Tm:=norm l++aC [(ev x (norm l),Mo.zero)] [(-1,Mo.zero)]
theorem qv3(x:Nat->Int)(c:Int):ev x (aC [(c,Mo.zero)] [(-1,Mo.zero)])= -c:=by
 rw[rf x (qqX _ _),QX];show-1*(c*eM x Mo.zero+0)= -c;rw[show eM x Mo.zero=1 by simp[eM,Mo.zero,Mo.nn]];omega
theorem qvD(x:Nat->Int)(l:List Tm):ev x (tO x l)=0:=by
 unfold tO;rw[tQ,qv3];omega
theorem qEw{l:List Tm}(h:FM l):vz 1 l<=61:=by
 have h1:=qrD (A:=1) h.e h.a;have:=fq (5+2+1*(4*2)) h.n;omega
theorem d8{z:Int}(h:z.natAbs<=128):aF z.natAbs<=1:=aK (fu h) (by decide)
theorem X6{z e:Int}(h:z.natAbs<=128)(he:e<=((2:Nat):Int)):(z^e.toNat).natAbs<=16384:=by
 rw[Int.natAbs_pow];exact aK (Nat.pow_le_pow_left h _) (Nat.pow_le_pow_right (show 0<128 by decide) (show e.toNat<=2 by omega))
theorem qvx{x:Nat->Int}(hx:∀i,i<4->(x i).natAbs<=128){m:Mo}(hm:∀k,m.get k<=((2:Nat):Int)):(eM x m).natAbs<=72057594037927936:=by
 unfold eM
 split
 ·have a:=X6 (hx 0 (by omega)) (hm 1);have b:=X6 (hx 1 (by omega)) (hm 2);have c:=X6 (hx 2 (by omega)) (hm 3);have d:=X6 (hx 3 (by omega)) (hm 4);rw[Int.natAbs_mul,Int.natAbs_mul,Int.natAbs_mul];exact Nat.mul_le_mul (Nat.mul_le_mul (Nat.mul_le_mul a b) c) d
 ·decide
theorem qke{x:Nat->Int}(hx:∀i,i<4->(x i).natAbs<=128):∀(l:List Tm),(∀s∈l,∀k,s.2.get k<=((2:Nat):Int))->(ev x l).natAbs<=aB l*72057594037927936
 |[],_=>bu _
 |t::l,h=>by
  have ih:=qke hx l λs hs=>h s (List.mem_cons_of_mem _ hs);have h1:=Nat.mul_le_mul_left t.1.natAbs (qvx hx (h t List.mem_cons_self));have h2:=Int.natAbs_add_le (t.1*eM x t.2) (ev x l);rw[Int.natAbs_mul]at h2
  have h3:aB (t::l)=t.1.natAbs+aB l:=by simp[aB]
  show(t.1*eM x t.2+ev x l).natAbs<=_;rw[h3,Nat.add_mul];omega
theorem qbK{x:Nat->Int}(hx:∀i,i<4->(x i).natAbs<=128){l:List Tm}(h:FM l):aF (ev x (norm l)).natAbs<=7:=by
 rw[EH];have h1:=fu (qke hx l h.e);have h2:=nN (aB l) 72057594037927936
 have h3:aF 72057594037927936<=2:=by decide
 have h4:=h.a;omega
theorem qAQ(z:Int):NN [(z,Mo.zero)]:=uk λt ht=>by rw[List.mem_singleton.1 ht];rfl
theorem qbS{x:Nat->Int}(hx:∀i,i<4->(x i).natAbs<=128){l:List Tm}(h:FM l):Sz 2 10 (tO x l):=by
 refine⟨h.s.nn.append (oq (qAQ _)),h.s.deg.append ((OE (QQ _)).mono (by decide)),?_⟩;unfold tO;rw[kK,DN];have h1:=qbK hx h;have h2:=h.s.dl
 have h3:aB [(ev x (norm l),Mo.zero)]*aB [((-1:Int),Mo.zero)]=(ev x (norm l)).natAbs:=by simp[aB]
 rw[h3];have h4:=Gt (aB (norm l)) (ev x (norm l)).natAbs;omega
def wJ(R:Nat->Nat->List Tm)(Z:Nat->Int)(i:Nat):Nat->List (List Tm)
 |0=>[]
 |j+1=>if 0<Z j then wJ R Z i j++[R i j]else wJ R Z i j
def wI(P:Nat->List Tm)(R:Nat->Nat->List Tm)(Z:Nat->Int):Nat->List (List Tm)
 |0=>[]
 |i+1=>if Z i<1 then wI P R Z i++[P i]else wI P R Z i++wJ R Z i i
section
variable{P:Nat->List Tm}{R:Nat->Nat->List Tm}{Z:Nat->Int}{l:List Tm}
theorem qe3(i:Nat):∀j,l∈wJ R Z i j↔∃k,k<j/\0<Z k/\l=R i k
 |0=>⟨λh=>(by cases h),λ⟨k,h,_⟩=>absurd h (Nat.not_lt_zero _)⟩
 |j+1=>by
  have ih:=qe3 i j;unfold wJ;constructor
  ·intro h
   split at h
   ·rename_i hz;rcases List.mem_append.1 h with h1|h1
    ·obtain⟨k,a,b⟩:=ih.1 h1;exact⟨k,by omega,b⟩
    ·exact⟨j,by omega,hz,List.mem_singleton.1 h1⟩
   ·obtain⟨k,a,b⟩:=ih.1 h;exact⟨k,by omega,b⟩
  ·rintro⟨k,a,b,rfl⟩
   by_cases hk:k=j
   ·subst hk;rw[av b];simp
   ·have h1:=ih.2 ⟨k,by omega,b,rfl⟩
    split
    ·exact List.mem_append_left _ h1
    ·exact h1
theorem OB:∀n,l∈wI P R Z n↔(∃i,i<n/\Z i<1/\l=P i)\/∃i j,i<n/\j<i/\0<Z i/\0<Z j/\l=R i j
 |0=>⟨λh=>(by cases h),λh=>by rcases h with⟨_,h,_⟩|⟨_,_,h,_⟩<;>exact absurd h (Nat.not_lt_zero _)⟩
 |n+1=>by
  have ih:=OB n;unfold wI;constructor
  ·intro h;have key:l∈wI P R Z n->(∃i,i<n+1/\Z i<1/\l=P i)\/∃i j,i<n+1/\j<i/\0<Z i/\0<Z j/\l=R i j:=λh1=>(ih.1 h1).imp (λ⟨i,a,b⟩=>⟨i,Nat.lt_succ_of_lt a,b⟩) λ⟨i,j,a,b⟩=>⟨i,j,Nat.lt_succ_of_lt a,b⟩
   split at h
   ·rename_i hz;rcases List.mem_append.1 h with h1|h1
    ·exact key h1
    ·exact .inl ⟨n,by omega,hz,List.mem_singleton.1 h1⟩
   ·rename_i hz;rcases List.mem_append.1 h with h1|h1
    ·exact key h1
    ·obtain⟨k,a,b,e⟩:=(qe3 n n).1 h1;exact .inr ⟨n,k,by omega,a,by omega,b,e⟩
  ·intro h
   have key:l∈wI P R Z n->(l∈if Z n<1 then wI P R Z n++[P n]else wI P R Z n++wJ R Z n n):=λh1=>by split<;>exact List.mem_append_left _ h1
   rcases h with⟨i,a,b,rfl⟩|⟨i,j,a,b,c,d,rfl⟩
   ·by_cases hi:i=n
    ·subst hi;rw[av b];simp
    ·exact key (ih.2 (.inl ⟨i,by omega,b,rfl⟩))
   ·by_cases hi:i=n
    ·subst hi;rw[aj (by omega)];exact List.mem_append_right _ ((qe3 i i).2 ⟨j,b,d,rfl⟩)
    ·exact key (ih.2 (.inr ⟨i,j,by omega,b,c,d,rfl⟩))
theorem qqd(i k:Nat)(h:i<k):∀j,k<j->R i k∈o8 R i j
 |0,h=>absurd h (Nat.not_lt_zero _)
 |j+1,hk=>by
  unfold o8;rw[av (by omega)]
  by_cases e:k=j
  ·subst e;simp
  ·exact List.mem_append_left _ (qqd i k h j (by omega))
theorem qqb(c k q:Nat)(h:k<q)(hq:q<c):∀i,k<i->R k q∈sM R c i
 |0,h=>absurd h (Nat.not_lt_zero _)
 |i+1,hk=>by
  by_cases e:k=i
  ·subst e;exact List.mem_append_right _ (qqd k q h c hq)
  ·exact List.mem_append_left _ (qqb c k q h hq i (by omega))
theorem Tf{cy cn:Nat}{σ τ:Nat->Nat}:l∈yK P R cy cn σ τ↔(∃i,i<cn/\l=P (τ i))\/∃i j,i<j/\j<cy/\l=R (σ i) (σ j):=by
 constructor
 ·intro h;rcases List.mem_append.1 h with h|h
  ·obtain⟨k,hk,rfl⟩:=List.mem_map.1 h;exact .inl ⟨k,List.mem_range.1 hk,rfl⟩
  ·obtain⟨k,q,h1,h2,h3,rfl⟩:=qe2 _ h;exact .inr ⟨k,q,h2,h3,rfl⟩
 ·rintro(⟨i,hi,rfl⟩|⟨i,j,h1,h2,rfl⟩)
  ·exact List.mem_append_left _ (List.mem_map.2 ⟨i,List.mem_range.2 hi,rfl⟩)
  ·exact List.mem_append_right _ (qqb (R:=λi j=>R (σ i) (σ j)) cy i j h1 h2 cy (by omega))
end
theorem jL.sur{nz:Nat->Bool}{k c:Nat}{σ:Nat->Nat}(h:jL nz k c σ)(i:Nat)(hi:i<k)(hz:nz i=true):∃q,q<c/\σ q=i:=by
 have:i∈(List.range c).map σ:=by rw[h];exact List.mem_filter.2 ⟨List.mem_range.2 hi,hz⟩
 obtain⟨q,hq,e⟩:=List.mem_map.1 this;exact⟨q,List.mem_range.1 hq,e⟩
theorem jL.inj{nz:Nat->Bool}{k c:Nat}{σ:Nat->Nat}(h:jL nz k c σ)(i j:Nat)(eD:i<j)(hj:j<c):σ i≠σ j:=by
 have h1:((List.range c).map σ).Nodup:=by rw[h];exact List.Pairwise.filter _ List.nodup_range
 have h2:=List.pairwise_iff_getElem.1 (List.pairwise_map.1 h1) i j (by simp;omega) (by simp;omega) eD;simpa using h2
theorem qo9{GL:List (List Tm)}{l:List Tm}(h:l∈GL):∃i,i<GL.length/\GL.getD i []=l:=by
 obtain⟨i,hi,e⟩:=List.getElem_of_mem h;exact⟨i,hi,by rw[List.getD_eq_getElem?_getD,List.getElem?_eq_getElem hi,e];rfl⟩
theorem at_mem{GL:List (List Tm)}{i:Nat}(h:i<GL.length):GL.getD i []∈GL:=by
 rw[List.getD_eq_getElem?_getD,List.getElem?_eq_getElem h];exact List.getElem_mem h
theorem qvE{P:Nat->List Tm}{R:Nat->Nat->List Tm}{Z:Nat->Int}{n cy cn c c':Nat}{σ τ:Nat->Nat}{F F':Nat->List Tm}(hs:jL (λi=>decide (0<Z i)) n cy σ)(hn:jL (λi=> !decide (0<Z i)) n cn τ)
 (hx:∀a b,a<n->b<n->0<Z a->0<Z b->dD (R a b)=dD (R b a))
 (h:IU (yK P R cy cn σ τ).length (λj=>(yK P R cy cn σ τ).getD j []) c F) (k:IU (wI P R Z n).length (λj=>(wI P R Z n).getD j []) c' F'):c=c'/\∀i,i<c->F i=F' i:=by
 refine qwk h k (λj hj _=>?_) (λj hj _=>?_)
 ·have key:∃l,l∈wI P R Z n/\dD ((yK P R cy cn σ τ).getD j [])=dD l:=by
   rcases Tf.1 (at_mem hj)with⟨i,hi,e⟩|⟨i,q,h1,h2,e⟩
   ·have:=hn.mem i hi;exact⟨_,(OB n).2 (.inl ⟨τ i,this.1,by have h:=this.2;simp at h;omega,rfl⟩),by rw[e]⟩
   ·have a:=hs.mem i (by omega);have b:=hs.mem q h2;have ha:=of_decide_eq_true a.2;have hb:=of_decide_eq_true b.2;rcases Nat.lt_or_gt_of_ne (hs.inj i q h1 h2)with h3|h3
    ·exact⟨_,(OB n).2 (.inr ⟨σ q,σ i,b.1,h3,hb,ha,rfl⟩),by rw[e];exact hx _ _ a.1 b.1 ha hb⟩
    ·exact⟨_,(OB n).2 (.inr ⟨σ i,σ q,a.1,h3,ha,hb,rfl⟩),by rw[e]⟩
  obtain⟨l,hl,e⟩:=key;obtain⟨i,hi,e2⟩:=qo9 hl;exact⟨i,hi,by rw[e2];exact e⟩
 ·have key:∃l,l∈yK P R cy cn σ τ/\dD ((wI P R Z n).getD j [])=dD l:=by
   rcases(OB n).1 (at_mem hj)with⟨i,hi,hz,e⟩|⟨i,q,h1,h2,h3,h4,e⟩
   ·obtain⟨r,hr,e2⟩:=hn.sur i hi (by simp;omega);exact⟨_,Tf.2 (.inl ⟨r,hr,rfl⟩),by rw[e,e2]⟩
   ·obtain⟨r,hr,e2⟩:=hs.sur i h1 (decide_eq_true h3);obtain⟨s,lD,e3⟩:=hs.sur q (by omega) (decide_eq_true h4);rcases Nat.lt_or_gt_of_ne (show r≠s by rintro rfl;omega)with h5|h5
    ·exact⟨_,Tf.2 (.inr ⟨r,s,h5,lD,rfl⟩),by rw[e,e2,e3]⟩
    ·exact⟨_,Tf.2 (.inr ⟨s,r,h5,hr,rfl⟩),by rw[e,e2,e3];exact hx _ _ h1 (by omega) h3 h4⟩
  obtain⟨l,hl,e⟩:=key;obtain⟨i,hi,e2⟩:=qo9 hl;exact⟨i,hi,by rw[e2];exact e⟩
structure BF(J n:Nat)(x:Nat->Int)(P:Nat->List Tm)(Z:Nat->Int):Prop where
 h1:1<=J
 h4:J<=4
 n3:n<=3
 s:∀i,i<n->Sz 2 10 (P i)
 d:∀i,i<n->IP J (P i) (Z i)
 e:∀i,i<n->ev x (P i)=0
def gm(J:Nat)(P:Nat->List Tm)(Z:Nat->Int)(i j:Nat):List Tm:=ow J (Z i).toNat (Z j).toNat (P i) (P j)
section
variable{J n:Nat}{x:Nat->Int}{P:Nat->List Tm}{Z:Nat->Int}(H:BF J n x P Z)
include H
theorem BF.pos{i:Nat}(hi:i<n)(hz:0<Z i):¬af (P i) []/\dJ J (P i) (Z i).toNat/\1<=(Z i).toNat/\(Z i).toNat<=2:=by
 rcases H.d i hi with⟨_,h⟩|⟨h,a,ha,e⟩
 ·omega
 ·rw[e];exact⟨h,ha,by omega,VA ha (H.s i hi).d⟩
theorem BF.gn{i j:Nat}(hi:i<n)(hj:j<n)(zi:0<Z i)(zj:0<Z j):Two J (Z i).toNat (Z j).toNat (P i) (P j):=by
 obtain⟨a1,a2,a3,a4⟩:=H.pos hi zi;obtain⟨b1,b2,b3,b4⟩:=H.pos hj zj;exact⟨H.h1,H.h4,(H.s i hi).mono (by decide) (by decide),(H.s j hj).mono (by decide) (by decide),a1,b1,a2,b2,a4,b4⟩
theorem BF.rs{i j:Nat}(hi:i<n)(hj:j<n)(zi:0<Z i)(zj:0<Z j):Sz 12 43 (gm J P Z i j)/\kQ J (gm J P Z i j)/\ev x (gm J P Z i j)=0/\dD (gm J P Z i j)=dD (gm J P Z j i):=by
 have G:=H.gn hi hj zi zj;obtain⟨a1,a2,a3,a4⟩:=H.pos hi zi;obtain⟨b1,b2,b3,b4⟩:=H.pos hj zj;have c:=G.cof a3 b3;refine⟨c.sz,c.2.1,G.zero a3 b3 x (H.e i hi) (H.e j hj),?_⟩;unfold gm;rcases G.qwg b3 with h|h|h
 ·rw[h]
 ·exact h.dD
 ·rw[h.dD,qDi]
theorem BF.fre{i:Nat}(hi:i<n)(hz:Z i<1):kQ J (P i):=λm hm=>by
 rcases H.d i hi with⟨h,_⟩|⟨h,a,ha,e⟩
 ·exact absurd (h m) hm
 ·have h1:=ha.1 m hm;have h2:m.nn=true:=Decidable.byContradiction λh=>hm ((H.s i hi).n m (by simpa using h));have:=Bt h2 J;omega
theorem BF.ok{cy cn:Nat}{σ τ:Nat->Nat}(hs:jL (λi=>decide (0<Z i)) n cy σ)(hn:jL (λi=> !decide (0<Z i)) n cn τ){l:List Tm}(hl:l∈yK P (gm J P Z) cy cn σ τ):Sz 12 43 l/\kQ J l/\ev x l=0:=by
 rcases Tf.1 hl with⟨i,hi,rfl⟩|⟨i,j,h1,h2,rfl⟩
 ·have h:=hn.mem i hi
  have hz:Z (τ i)<1:=by have:=h.2;simp at this;omega
  exact⟨(H.s _ h.1).mono (by decide) (by decide),H.fre h.1 hz,H.e _ h.1⟩
 ·have a:=hs.mem i (by omega);have b:=hs.mem j h2;have k:=H.rs a.1 b.1 (of_decide_eq_true a.2) (of_decide_eq_true b.2);exact⟨k.1,k.2.1,k.2.2.1⟩
theorem BF.okw{l:List Tm}(hl:l∈wI P (gm J P Z) Z n):Sz 12 43 l:=by
 rcases(OB n).1 hl with⟨i,hi,hz,rfl⟩|⟨i,j,h1,h2,h3,h4,rfl⟩
 ·exact(H.s _ hi).mono (by decide) (by decide)
 ·exact(H.rs h1 (by omega) h3 h4).1
end
theorem qDh{J:Nat}{x:Nat->Int}{l:List Tm}(h:Sz 12 43 l/\kQ J l/\ev x l=0):Sz 12 43 (dD l)/\kQ J (dD l)/\ev x (dD l)=0:=by
 have hs:=qfO (o7 l)
 have hc:∀m,aH (dD l) m≠0->aH l m≠0:=λm hm e=>hm (by
  have h1:aH (norm l) m=0:=by rw[o6 h.1.n m];exact e
  rw[<-qra l,mO]at h1
  exact(Int.mul_eq_zero.1 h1).resolve_left hs)
 refine⟨⟨qDj l,λm hm k=>h.1.d m (hc m hm) k,aK (fu (qfR l)) h.1.a⟩,λm hm=>h.2.1 m (hc m hm),?_⟩;have h1:=h.2.2;rw[<-EH, <-qra l,QX]at h1;exact(Int.mul_eq_zero.1 h1).resolve_left hs
theorem qeZ(R:Nat->Nat->List Tm)(Z:Nat->Int)(i:Nat):∀j,(wJ R Z i j).length<=j
 |0=>aA _
 |j+1=>by
  have:=qeZ R Z i j;unfold wJ
  split
  ·rw[List.length_append];simp;omega
  ·omega
theorem Tc(P:Nat->List Tm)(R:Nat->Nat->List Tm)(Z:Nat->Int):∀n,n<=3->(wI P R Z n).length<=n*4
 |0,_=>aA _
 |n+1,h=>by
  have:=Tc P R Z n (by omega);have:=qeZ R Z n n;unfold wI
  split<;>(rw[List.length_append];simp;omega)
theorem qki(M:Nat->Prop)(GL:List (List Tm))(W:World)(a:Option Addr)(p:Nat)(hM:Mb M W)(jk:∀l∈GL,Sz 12 43 l)(hlen:GL.length<=20)(hk:dP M W 4 (.slice a GL.length p) GL.length (λj=>GL.getD j [])):
 Calls Tryz.prog 16 #[.slice a GL.length p] W (Qy M W GL.length λj=>GL.getD j []):=
 qAy (λ_=>True) M a GL.length p 12 (λj=>GL.getD j []) W hM hk (λi hi=>(jk _ (at_mem hi)).d) (by decide) (by omega) (λi hi=>by have:=(jk _ (at_mem hi)).a;omega) (λ_ _=>trivial) (λm hm=>qDo _ m (by omega))
theorem BF.elc{J n:Nat}{x:Nat->Int}{P:Nat->List Tm}{Z:Nat->Int}(H:BF J n x P Z){a:Option Addr}{cap:Nat}{w:World}(hK:dP M0 w 4 (.slice a n cap) n P):∃X,ElC (Sz 12 43) J n a cap P X Z (gm J P Z) w:=by
 obtain⟨X,hX⟩:=hK.x;refine⟨X,H.h1,H.h4,H.n3,λi hi=>?_,λi hi=>(H.s i hi).mono (by decide) (by decide),λi j hi hj zi zj=>(H.rs hi hj zi zj).1,λM GL W a p hM jk hl hk=>qki M GL W a p hM jk hl hk,λi j hi hj zi zj M W x y hM hx hy=>(H.gn hi hj zi zj).res (by omega) (by omega) M x y W hM hx hy⟩;obtain⟨⟨b,off,h1,h2,h3,h4,h5,h6⟩,h7,_⟩:=hX i hi;exact⟨⟨b,off,h1,h2,h3,h4,h6⟩,h7,(H.s i hi).n,H.d i hi⟩
theorem qwu{J:Nat}(h1:1<=J)(h4:J<=4){l:List Tm}(nl:NN l)(hf:kQ J l):∃z:Int,z<=0/\∀(M:Nat->Prop)(y:PE)(w:World),Mb M w->aG M w 4 y l->Calls Tryz.prog 14 #[.agg (ag y),.int .i64 (J:Int)] w λe w'=>e=.returned (.int .i64 z)/\Ext w w':=by
 by_cases hz:af l []
 ·exact⟨-1,by omega,λM y w hM hy=>Ik M y l J _ w h1 h4 nl (.inl ⟨hz,rfl⟩) hM hy.pi⟩
 ·exact⟨0,by omega,λM y w hM hy=>Ik M y l J _ w h1 h4 nl (.inr ⟨hz,0,qb4 hf,rfl⟩) hM hy.pi⟩
theorem qwb{x:Nat->Int}{l:List Tm}(hs:Sz 12 43 l)(he:ev x l=0)(M:Nat->Prop)(y:PE)(w:World)(hM:Mb M w)(hy:aG M w 4 y l){a:Option Addr}{p:Nat}{X:Nat->RE}(hq:uJ M w 1 a 4 p X λi=>(x i:Rat)):
 Calls Tryz.prog 19 #[.agg (ag y),.slice a 4 p] w (qY M w 0):=by
 obtain⟨t,h1,h2,h3,h4⟩:=hy;have hD:=FH h4 hs.d;have iH:=Af h2;have jF:aF (aB (terms 5 t))<=43:=aK (fu (JX h2 h4)) hs.a;have h5:=qjn 1 12 43 5 t h2 h1.ok hD jF
 have h6:(Go.Proofs.YtaafefeafonhdaaGreat.jY 5 t).toNat<=4:=by show t.1.toNat<=4;omega
 have h7:=qrm 1 12 43 h6
 have h8:um 1 12 43 4<=2000000000:=by decide
 have c:=qfI 1 (by omega) 5 M t y a 4 p X (λi=>(x i:Rat)) w hM h1 hq (by omega);have jH:∀s∈terms 5 t,s.2.nn=true:=λs hs=>TK 5 t s hs
 have hv:dR (aq (λi=>(x i:Rat)) 4) (terms 5 t)=0:=by
  rw[show aq (λi=>(x i:Rat)) 4=qv x from rfl,qbW x _ jH,rf x h4,he];rfl
 rw[hv]at c;exact c
def qx(X:Nat->RE):Nat->Value:=λj=>arr (bL (X (j/3))) (j%3)
theorem qqA(X:Nat->RE)(i c:Nat)(hc:c<3):qx X (i*3+c)=arr (bL (X i)) c:=by
 unfold qx;rw[show(i*3+c)/3=i by omega,show(i*3+c)%3=c by omega]
theorem qCf(X:Nat->RE)(n:Nat)(t:RE)(j:Nat)(hj:j<(n+1)*3):app (qx X) (n*3) (arr (bL t)) j=qx (snoc X n t) j:=by
 unfold app
 by_cases h:j<n*3
 ·rw[av h];unfold qx;rw[j4 _ _ _ _ (by omega)]
 ·rw[aj h];obtain⟨r,rfl,hr⟩:∃r,j=n*3+r/\r<3:=⟨j-n*3,by omega,by omega⟩;rw[Nat.add_sub_cancel_left,qqA _ _ _ hr,jC]
theorem qCj(t:RE)(j:Nat)(hj:j<3):(arr (bL t) j).oneCell'=true:=by
 rcases(show j=0\/j=1\/j=2 by omega)with rfl|rfl|rfl<;>rfl
def yE(base:Nat)(w:World)(v:Value)(k:Nat)(x:Nat->Int):Prop:=∃X,Own w base 32 3 v k (qx X)/\∀i,i<k->iK (MR M0 v) w (X i) (x i:Rat)
section
variable{base k:Nat}{w w':World}{v:Value}{x:Nat->Int}
theorem yE.nil(base:Nat)(w:World)(x:Nat->Int):yE base w (.slice none 0 0) 0 x:=⟨λ_=>default,Own.nil _ _ _ _ _,λj hj=>absurd hj (Nat.not_lt_zero _)⟩
theorem yE.form(h:yE base w v k x):∃a p,v=.slice a k p:=by
 obtain⟨X,h1,h2⟩:=h;exact h1.form
theorem yE.push{va:Option Addr}{vc g cap:Nat}{X:Nat->RE}{r:RE}(hx:∀i,i<k->iK (MR M0 (.slice va k vc)) w (X i) (x i:Rat))(hy:iK (MR M0 (.slice va k vc)) w r (x k:Rat))
 (hO:Own w' base 32 3 (.slice (some ⟨g,0,none⟩) (k+1) cap) (k+1) (app (qx X) (k*3) (arr (bL r)))) (hg:w.grownBy w' (Value.slice va k vc).ownBlock) (hat:(Value.slice va k vc).ownBlock=some g\/w.heap.size<=g):
 yE base w' (.slice (some ⟨g,0,none⟩) (k+1) cap) (k+1) x:=by
 have keep:∀{r:RE}{q:Rat},iK (MR M0 (.slice va k vc)) w r q->iK (MR M0 (.slice (some ⟨g,0,none⟩) (k+1) cap)) w' r q:=λ{r q} h=>by
  have h1:=h.more (M':=λb=>MR M0 (.slice va k vc) b\/b=g) (λb hb=>hb.elim .inl λe=>by
   rcases hat with h|h
   ·exact .inl (.inr (by rw[h,e]))
   ·exact .inr (by omega))
  have h2:=h1.kp (Kp.grown (M:=λb=>MR M0 (.slice va k vc) b\/b=g) hg λk hk=>.inl (.inr hk));exact h2.more λb hb=>.inl (hb.elim (λh=>.inl (.inl h)) λh=>.inr (by simp only[Value.ownBlock,Option.some.injEq]at h;exact h.symm))
 refine⟨snoc X k r,hO.congr λj hj=>qCf X k r j hj,λi hi=>?_⟩
 by_cases e:i=k
 ·subst e;rw[jC];exact keep hy
 ·rw[j4 _ _ _ _ (by omega)];exact keep (hx i (by omega))
theorem yE.rat{a:Option Addr}{p:Nat}(h:yE base w (.slice a 4 p) 4 x)(hx:∀i,i<4->(x i).natAbs<=128):∃X,uJ M0 w 1 a 4 p X λi=>(x i:Rat):=by
 obtain⟨X,h1,h2⟩:=h;refine⟨X,by omega,λi hi=>⟨?_,((h2 i hi).more λb hb=>.inl (.inl hb)).DZ ⟨by simpa using d8 (hx i hi),by simp;decide⟩⟩⟩;rcases h1 with⟨_,h0⟩|⟨g,cap,F,e,hb,hB,hn,hm,hF⟩
 ·cases h0
 ·cases e
  have k:∀c,c<3->w.cell? ⟨g,i*3+c,none⟩=some (arr (bL (X i)) c):=λc hc=>by
   rw[hB.cell (i:=i*3+c) (by omega),hF _ (by omega),qqA _ _ _ hc]
  exact⟨g,0,rfl,hn,hm,hB.lt,λh=>h,by rw[Nat.zero_add];exact⟨k 0 (by omega),k 1 (by omega),k 2 (by omega)⟩⟩
end
theorem qAo(x:Nat->Int)(Lf:Nat->List Tm)(k:Nat)(l:List Tm):((List.range (k+1)).map λi=>tO x (snoc Lf k l i))=((List.range k).map λi=>tO x (Lf i))++[tO x l]:=by
 rw[List.range_succ,List.map_append]
 congr 1
 ·apply List.map_congr_left;intro i hi;rw[j4 _ _ _ _ (by simpa using hi)]
 ·simp[jC]
def Ci(g:Nat)(b:Bool)(a:Option Addr)(n p:Nat)(w:World):Prop:=w.cell? ⟨g,0,none⟩=some (.bool b)/\w.cell? ⟨g,1,none⟩=some (.slice a n p)
theorem Ci.ext{g:Nat}{b:Bool}{a:Option Addr}{n p:Nat}{w w':World}(h:Ci g b a n p w)(he:Ext w w'):Ci g b a n p w':=by
 have h1:=dM _ _ h.1;exact⟨by rw[he.cell h1];exact h.1,by rw[he.cell h1];exact h.2⟩
theorem Ci.of_heap{g:Nat}{b:Bool}{a:Option Addr}{n p:Nat}{w w':World}(h:Ci g b a n p w)(he:w'.heap[g]?=w.heap[g]?):Ci g b a n p w':=
 ⟨(World.cell?_of_block (w:=w) he).trans h.1,(World.cell?_of_block (w:=w) he).trans h.2⟩
theorem j6.Xz{base:Nat}{w:World}{v:Value}{GL:List (List Tm)}(h:j6 M0 base w v GL)(hc:GL.length<=1000000):dP M0 w 4 v GL.length λj=>GL.getD j []:=by
 obtain⟨xx,h1,h2⟩:=h;exact Own.qrs h1 (λi hi=>(h2 i hi).more λb hb=>.inl (.inl hb)) (λg hg hm=>hm) (by omega)
theorem j6.mb{base:Nat}{w:World}{v:Value}{GL:List (List Tm)}(h:j6 M0 base w v GL):Mb (MR M0 v) w:=λg hg=>hg.elim (λh=>h.elim) λh'=>(h.lt g h').2
theorem j6.qzV{base:Nat}{w:World}{v:Value}{n:Nat}{P:Nat->List Tm}(h:j6 M0 base w v ((List.range n).map P))(hn:n<=3):dP M0 w 4 v n P:=by
 have h1:=h.Xz (by simp;omega);rw[show((List.range n).map P).length=n by simp]at h1
 exact h1.congr λi hi=>by
  rw[show((List.range n).map P).getD i []=P i by simp[List.getD_eq_getElem?_getD,hi]];exact af.refl _
theorem qvC{J n:Nat}{x:Nat->Int}{Lf:Nat->List Tm}(h1:1<=J)(h4:J<=4)(hn:n<=3)(hx:∀i,i<4->(x i).natAbs<=128)(hL:∀i,i<n->FM (Lf i)):∃Z,BF J n x (λi=>tO x (Lf i)) Z:=by
 have key:∀i,∃z:Int,i<n->IP J (tO x (Lf i)) z:=λi=>by
  by_cases hi:i<n
  ·by_cases hz:af (tO x (Lf i)) []
   ·exact⟨-1,λ_=>.inl ⟨hz,rfl⟩⟩
   ·obtain⟨a,ha⟩:=quY (k:=J) (qbS hx (hL i hi)).n;exact⟨a,λ_=>.inr ⟨hz,a,ha,rfl⟩⟩
  ·exact⟨0,λh=>absurd h hi⟩
 obtain⟨Z,hZ⟩:=Classical.axiomOfChoice key;exact⟨Z,h1,h4,hn,λi hi=>qbS hx (hL i hi),hZ,λi hi=>qvD x _⟩
def QA(g:Nat)(x:PE)(b o:Nat)(y:PE)(w:World):Prop:=P4 w g x/\eF w b o y
theorem QA.ext{g b o:Nat}{x y:PE}{w w':World}(h:QA g x b o y w)(he:Ext w w'):QA g x b o y w':=⟨h.1.ext he,h.2.ext (dM _ _ h.2.1) he⟩
theorem Gg.el2{W:World}{a:Option Addr}{n cap:Nat}{X:Nat->TE}(h:Gg W a n cap X)(hf:TV n X 4 4 ((2:Nat):Int)):∃l,eU M0 W (.slice a n cap) l/\FM l:=by
 obtain⟨l,h1,h2,h3,h4⟩:=h.aM hf (by decide) (by decide);exact⟨l,h1,⟨uk (Co l),qjH λs hs k=>by have:=(h4 s hs k).1;omega,aK (fu (Lr l)) h3⟩,h2,h3,λs hs k=>by have:=(h4 s hs k).1;omega⟩
section
variable{x:Nat->Int}(hx:∀i,i<4->(x i).natAbs<=128){l:List Tm}(h:FM l)
include hx h
theorem qEv(M:Nat->Prop){v:Value}(w:World)(hM:Mb M w)(hl:eU M w v l){a:Option Addr}{p:Nat}{X:Nat->RE}(hq:uJ M w 1 a 4 p X λi=>(x i:Rat)):
 Calls Tryz.prog 8 #[v,.slice a 4 p] w λe w'=>∃r:RE,e=.returned (.agg (bL r))/\kF M w' 7 r ((ev x (norm l):Int):Rat)/\Ext w w':=by
 obtain⟨la,lc,rfl⟩:=hl.form;have h1:=qCt M 1 (by omega) la lc l a 4 p X (λi=>(x i:Rat)) w hM hl hq (by have:=qEw h;omega);rw[qvY,show aq (λi=>(x i:Rat)) 4=qv x from rfl,qbW x _ (Co l)]at h1;refine h1.mono ?_;rintro e w' ⟨r,rfl,hr,he⟩;exact⟨r,rfl,hr.DZ ⟨by simpa using qbK hx h,by simp;decide⟩,he⟩
theorem qDQ(M:Nat->Prop)(y z:PE)(w:World)(hM:Mb M w)(hy:aG M w 4 y (norm l))(hz:aG M w 0 z [(ev x (norm l),Mo.zero)]):
 Calls Tryz.prog 9 #[.agg (ag y),.agg (ag z)] w (di M w 4 (tO x l)):=
 X9 M y z (norm l) [(ev x (norm l),Mo.zero)] 0 w hM hy.pi hz.pi (by have:=(qbS hx h).a;unfold tO at this;omega) (by
  rw[show aB [(ev x (norm l),Mo.zero)]=(ev x (norm l)).natAbs by simp[aB]];have:=qbK hx h
  omega) (QQ _) (by omega)
end
theorem Tryz.qzy:(Tryz.prog.info? 32).map (λi=>(i.zero,i.size,i.bytes))=some (some (.agg #[.bool false,.slice none 0 0,.slice none 0 0]),3,56):=by kernel_rfl
theorem ix4(x:Nat->Int)(k:Nat)(hk:k<4)(w:World):(Instr.index 24 (.agg #[.int .i8 (x 0),.int .i8 (x 1),.int .i8 (x 2),.int .i8 (x 3)]) (.int .i64 (k:Int))).run Tryz.prog w=.ok (.int .i8 (x k)) w:=by
 have hu:Tryz.prog.underlying 24=some (.array 4 23):=by kernel_rfl
 have hc:Tryz.prog.cellsOf 23=1:=by kernel_rfl
 rcases(show k=0\/k=1\/k=2\/k=3 by omega)with rfl|rfl|rfl|rfl<;>simp[Instr.index,go_sem,hu,hc]
theorem qzY(a:Option Addr)(n cap:Nat)(Y:Nat->SE)(x:Nat->Int)(L:Int)(w:World)(h:U9 w a n cap Y)(hx:∀i,i<4-> -128<=x i/\x i<=127):
 Calls Tryz.prog 3 #[.slice a n cap,.agg #[.int .i8 (x 0),.int .i8 (x 1),.int .i8 (x 2),.int .i8 (x 3)],.int .i64 L] w λe w'=>e=.returned (.bool true)/\Ext w w':=by
 obtain⟨j0,ji,Bj,Bl,Bn⟩:=info_parts Tryz.qeO;obtain⟨i0,hi,hz0,hz1,hz2⟩:=info_parts Tryz.qzy
 have Hl:(n:Int)<=9223372036854775807:=by have h1:=h.1;have h2:=h.2.1;unfold maxLen at h2;omega
 have aL:Ext w (w.alloc (.cells #[.int .i8 (x 0),.int .i8 (x 1),.int .i8 (x 2),.int .i8 (x 3)] 24)):=(ai w).alloc _;have aW:=au.aO w #[.int .i8 (x 0),.int .i8 (x 1),.int .i8 (x 2),.int .i8 (x 3)] 24 4 rfl;obtain⟨W0,fK⟩:∃W0,w.alloc (.cells #[.int .i8 (x 0),.int .i8 (x 1),.int .i8 (x 2),.int .i8 (x 3)] 24)=W0:=⟨_,rfl⟩;rw[fK]at aL aW;obtain⟨g4,jh⟩:∃g4,g4=w.heap.size:=⟨_,rfl⟩;rw[<-jh]at aW;have HR:=ae h;have HX:=ae hx;have dC:=ae aL;have dO:=ae aW;have iY:=ae fK;have BJ:=ae jh;clear h hx aL aW fK jh
 go_enter Tryz.func3,Tryz.ntmps3
 go_upto_region 1 with(fail)
 rw[iY.out, <-BJ.out];clear iY;go_wp2_with (fail);refine(qz1 _).mono ?_;rintro e w1 ⟨rfl,ah⟩;have aP:=ae (dC.out.trans ah);have bS:=ae (dO.out.ext ah);clear ah dC dO
 by_cases hn:¬n<=3
 ·have hd:(3:Int)<(n:Int):=by omega
  go_wp2;go_ret;exact⟨rfl,aP.out⟩
 have R7:n<=3:=Decidable.not_not.1 hn
 have hd:¬(3:Int)<(n:Int):=by omega
 clear hn;obtain⟨c0,c1,c2,c3⟩:_/\_/\_/\_:=⟨bS.out.cell (i:=0) (by omega),bS.out.cell (i:=1) (by omega),bS.out.cell (i:=2) (by omega),bS.out.cell (i:=3) (by omega)⟩;simp only[arr]at c0 c1 c2 c3;go_wp2;clear c0 c1 c2 c3
 go_loopw [30,7] (λiv v wr=>∃k:Nat,k<=4/\iv=.int .i64 (k:Int)/\yE w1.heap.size wr v k x/\Hid (Ext w1 wr)) (λiv _ _=>4-(intOf iv).toNat)
 case atStart=>exact⟨0,by omega,rfl,yE.nil _ _ _,ai _⟩
 case round=>
  obtain⟨k,hk,rfl,hQ,HE⟩:=hrel;obtain⟨va,vc,rfl⟩:=hQ.form
  by_cases hlt:k<4
  ·have wE:(k:Int)<4:=by omega
   go_wp2_with (fail);rw[ix4 x k hlt];have hxk:=HX.out k hlt
   have hw:wrap64 (x k)=x k:=by unfold wrap64;omega
   obtain⟨X,hO,hX⟩:=hQ;have CR:=ae (OU (M:=MR M0 (.slice va k vc)) (x k) wr (XH (pV w1) HE.out hO) (by omega) (by omega));have HO:=ae hO;have pI:=ae hX;have gK:=ae hlt;have PN:Hid (n<=3):=R7;clear hO hX hxk;go_wp2_with (fail);rw[hw];refine CR.out.mono ?_;rintro e w5 ⟨r,rfl,hr,aU⟩;have jg:=(HO.out.ext aU).ext ((ai w5).alloc (.cells (bL r) 32));have dW:=au.aO w5 (bL r) 32 3 rfl
   have sH:w1.heap.size<=(w5.alloc (.cells (bL r) 32)).heap.size:=by have:=HE.out.size;have:=aU.size;simp;omega
   have Ab:Hid (∀i,i<k->iK (MR M0 (.slice va k vc)) (w5.alloc (.cells (bL r) 32)) (X i) (x i:Rat)):=λi hi=>((pI.out i hi).ext aU).ext ((ai w5).alloc _);have qV:=ae (hr.ext ((ai w5).alloc (.cells (bL r) 32)));have cZ:=ae ((HE.out.trans aU).trans ((ai w5).alloc (.cells (bL r) 32)));have BK:=ae (HO.out.lt);have mi:Hid (∀j,j<3->(arr (bL r) j).oneCell'=true):=qCj r;clear hr aU pI HE HO CR hw
   go_wp2_with (at_builtin;refine yj _ rfl (.tmp 33) (.tmp 37) _ rfl w1.heap.size 32 i0 _ 3 56 Tryz.underlying26 hi hz0 hz1 hz2 rfl (by omega) (.slice va k vc) k (qx X) rfl jg w5.heap.size 32 1 (arr (bL r)) rfl dW mi.out ?s1 ?s2 ?s3 ?_)
   case s1=>unfold maxLen;omega
   case s2=>omega
   case s3=>exact sH
   intro gg cap2 w6 ed bK hat uf
   replace hat:(Value.slice va k vc).ownBlock=some gg\/(w5.alloc (.cells (bL r) 32)).heap.size<=gg:=by rw[World.size_alloc];exact hat
   have HF:Hid (yE w1.heap.size w6 (.slice (some ⟨gg,0,none⟩) (k+1) cap2) (k+1) x/\Ext w1 w6):=⟨yE.push Ab.out qV.out ed bK hat,cZ.out.grown bK (λq hq=>(BK.out q hq).1)⟩;clear ed bK hat jg dW Ab qV cZ;go_wp2
   go_roundw
   case rel=>exact⟨k+1,gK.out,by go_num,HF.out.1,HF.out.2⟩
   case measure=>have:=gK.out;simp[intOf];omega
  ·obtain rfl:k=4:=by omega
   have jy:¬(((4:Nat):Int))<4:=by omega
   have IX:Hid (∀i,i<4->(x i).natAbs<=128):=λi hi=>by
    have:=HX.out i hi;omega
   obtain⟨X,hRX⟩:=hQ.rat IX.out;have UH:=ae hRX;have aZ:=ae (aP.out.trans HE.out);clear hQ hRX HE;go_wp2;clear jy;obtain⟨w2,iy⟩:∃w2,w2=wr:=⟨_,rfl⟩;subst iy
   go_loopw [42,10] (λiv v wl=>∃(k:Nat)(Lf:Nat->List Tm),k<=n/\iv=.int .i64 (k:Int)/\j6 M0 w2.heap.size wl v ((List.range k).map λi=>tO x (Lf i))/\Hid (∀i,i<k->FM (Lf i))/\Hid (Ext w2 wl)) (λiv _ _=>n-(intOf iv).toNat)
   case atStart=>exact⟨0,λ_=>[],bu _,rfl,⟨λ_=>PE.z,Own.nil _ _ _ _ _,λj hj=>absurd hj (Nat.not_lt_zero _)⟩,λi hi=>absurd hi (Nat.not_lt_zero _),ai _⟩
   case round=>
    obtain⟨k,Lf,hk,rfl,hP,HL,HE⟩:=hrel;obtain⟨la,m,lc,rfl,hm⟩:=hP.form
    obtain rfl:k=m:=by rw[hm];simp
    clear hm
    by_cases hlt:k<n
    ·obtain⟨b,off,rfl,gD,c0,X4,hT,NP⟩:=HR.out.ext (aZ.out.trans HE.out) k hlt
     have wE:(k:Int)<(n:Int):=by omega
     have gK:=ae hlt;have CF:=ae (qzZ _ _ _ X4 4 2 wr hT NP.2.1);have HRX:=ae NP;have HP:=ae hP;clear hT NP hP;go_wp2_with (fail);refine CF.out.mono ?_;rintro e wf ⟨bf,rfl,hbf,rfl⟩
     cases bf with
     |false=>
      have HF:=ae (aZ.out.trans HE.out);clear hbf CF HP HE HRX c0;go_wp2;go_ret;exact⟨rfl,HF.out⟩
     |true=>
      obtain⟨l,hl,hel⟩:=HRX.out.el2 (hbf.1 rfl);have Em:=ae hel;obtain⟨xx,hO,Ay⟩:=HP.out;rw[show((List.range k).map λi=>tO x (Lf i)).length=k by simp]at hO Ay;have dQ:Hid (Mb (MR M0 (.slice la k lc)) wr):=XH (pV w2) HE.out hO;have UD:Hid (∀g,(Value.slice la k lc).ownBlock=some g->w2.heap.size<=g/\g<wr.heap.size):=hO.lt;have iy:=aZ.out.size;have HPL:Hid (eU (MR M0 (.slice la k lc)) wr (.slice (Y k).a (Y k).n (Y k).p) l):=(hl.more (M':=MR M0 (.slice la k lc)) (λb hb=>hb.imp id λh=>by have:=(UD.out b h).1;omega)).ext (aZ.out.trans HE.out);have HO:=ae hO;have pI:=ae Ay;clear hO Ay iy;have CV:=ae (qEv IX.out hel (MR M0 (.slice la k lc)) wr dQ.out HPL.out ((UH.out.more (M':=MR M0 (.slice la k lc)) (λb hb=>hb.imp id λh=>(UD.out b h).1)).ext HE.out));clear hbf CF hl hel HRX c0;go_wp2_with (fail);refine CV.out.mono ?_;rintro e wg ⟨r,rfl,hr,NV⟩;have CI:=ae (qCg 7 r _ wg (dQ.out.ext NV) hr (by omega) (by omega));have HEG:=ae NV;clear hr NV CV;go_wp2_with (fail);refine CI.out.mono ?_;rintro e wh ⟨ib,ia,ik,ip,rfl,hi4,heh⟩;have HI4:=ae hi4;have Zp:=ae (HEG.out.trans heh);clear hi4 heh CI HEG
      go_upto_region 18 with(fail)
      have hBi:=au.aO wh #[.bool ib,.slice ia ik ip] 30 2 rfl;have hEi:Ext wh (wh.alloc (.cells #[.bool ib,.slice ia ik ip] 30)).drew:=((ai wh).alloc _).drew;have hS:Ci wh.heap.size ib ia ik ip (wh.alloc (.cells #[.bool ib,.slice ia ik ip] 30)).drew:=Ci.ext ⟨hBi.cell (i:=0) (by omega),hBi.cell (i:=1) (by omega)⟩ (ai _).drew;have fV:=ae (Zp.out.trans hEi);have HID:=ae (HI4.out.ext hEi);have hwh:=Zp.out.size;clear hBi hEi Zp HI4;refine fB (Ci wh.heap.size ib ia ik ip) 8 hS λhHeld=>?_;clear hS;generalize (wh.alloc (.cells #[.bool ib,.slice ia ik ip] 30)).drew=wd at*;have lV:=ae (dQ.out.ext fV.out);have yt:=ae (HPL.out.ext fV.out);refine bH [0,1,3] ?_;(iterate 3 refine bG ?_);refine bI ?_
      (refine aI 2 λK hK=>?_);go_simp;(refine(qqM (MR M0 (.slice la k lc)) (.slice (Y k).a (Y k).n (Y k).p) l _ lV.out yt.out (by have:=Em.out.a;omega) (λs hs j=>by have:=Em.out.e s hs j;omega)).mono ?_);rintro e_ u1 ⟨y,rfl,hy,d1⟩;go_wp2_with (fail);(try clear ak);(refine ny hK (hHeld.ext d1) λak=>?_);clear hK K
      (refine aI 4 λK hK=>?_);go_simp;(refine(TA (MR M0 (.slice la k lc)) ib ia ik ip _ _ (lV.out.ext d1) (HID.out.ext d1)).mono ?_);rintro e_ u2 ⟨z,rfl,hz,d2⟩;go_wp2_with (fail);(try clear ak);(refine ny hK (hHeld.ext (d1.trans d2)) λak=>?_);clear hK K
      (refine aI 5 λK hK=>?_);go_simp;(refine(qDQ IX.out Em.out (MR M0 (.slice la k lc)) y z _ (lV.out.ext (d1.trans d2)) (hy.ext d2) hz).mono ?_);rintro e_ u3 ⟨q,rfl,hq,d3⟩;go_wp2_with (fail);(try clear ak);(refine ny hK (hHeld.ext ((d1.trans d2).trans d3)) λak=>?_);clear hK K
      refine aI 6 λK hK=>?_;go_simp;have eZ:Ext wd (u3.alloc (.cells (ag q) 42)):=((d1.trans d2).trans d3).alloc _;have tT:=hHeld.ext eZ;refine nx hK tT ?_;clear hK K;refine aI 7 λK hK=>?_;have I1:=ae (HE.out.trans (fV.out.trans eZ));have hsz:=I1.out.size;refine TH _ (by rfl) (.tmp 56) (.tmp 62) _ (by rfl) w2.heap.size 42 j0 _ 4 64 Tryz.underlying34 ji Bj Bl Bn rfl (by omega) (.slice la k lc) k (px xx) (by rfl) (HO.out.ext (fV.out.trans eZ)) u3.heap.size 42 1 (arr (ag q)) (by rfl) (au.aO u3 (ag q) 42 4 rfl) (Bu q) (by unfold maxLen;omega) (by omega) hsz ?_;intro gg cap2 v3 ed bK hat uf;have Py:=ae (I1.out.grown bK (λq hq=>(UD.out q hq).1));have oM:Ci wh.heap.size ib ia ik ip v3:=tT.of_heap (bK.block wh.heap.size (dM _ _ tT.1) (λe=>by have:=(UD.out wh.heap.size e.symm).2;omega));refine nx hK oM ?_;clear hK K
      (refine aI 8 λK hK=>?_);go_simp;(refine fz hK ?_);clear hK K
      have HF:Hid (∃(k':Nat)(Lf':Nat->List Tm),k'<=n/\Value.int .i64 ((k:Int)+1)=.int .i64 (k':Int)/\j6 M0 w2.heap.size v3 (.slice (some ⟨gg,0,none⟩) (k+1) cap2) ((List.range k').map λi=>tO x (Lf' i))/\Hid (∀i,i<k'->FM (Lf' i))/\Hid (Ext w2 v3)):=by
       refine⟨k+1,snoc Lf k l,gK.out,by simp,?_,λi hi=>?_,Py.out⟩
       ·rw[qAo];exact j6.push (n:=k) (by simp) (λj hj=>(pI.out j (by simpa using hj)).ext (fV.out.trans eZ)) (hq.ext ((ai u3).alloc _)) ed bK hat
       ·by_cases e:i=k
        ·subst e;rw[jC];exact Em.out
        ·rw[j4 _ _ _ _ (by omega)];exact HL.out i (by omega)
      clear ed bK hat oM tT hHeld hy hz hq d1 d2 d3 eZ Py I1 fV hsz ak;go_wp2
      go_roundw
      case rel=>exact HF.out
      case measure=>have:=gK.out;simp[intOf];omega
    ·obtain rfl:k=n:=by omega
     have jy:¬(k:Int)<(k:Int):=by omega
     have zS:=ae (aZ.out.trans HE.out);obtain⟨w3,jW⟩:∃w3,w3=wr:=⟨_,rfl⟩;subst jW
     by_cases hl:¬(1<=L/\L<=4)
     ·have CB:=ae (qCK la k lc L w3 hl);have CN:=ae (λw=>qo1 L false (by simp;omega) w);clear hP HL HE UH;go_wp2_with (fail);refine CB.out.mono ?_;rintro e we ⟨rfl,xN⟩;have HF:=ae (zS.out.trans xN);clear xN CB;go_wp2_with (fail);refine(CN.out _).mono ?_;rintro e wi ⟨rfl,rfl⟩;clear CN;go_wp2;go_ret;exact⟨rfl,HF.out⟩
     obtain⟨J,rfl⟩:∃J:Nat,L=(J:Int):=⟨L.toNat,by omega⟩
     have h1:1<=J:=by omega
     have h4:J<=4:=by omega
     clear hl;obtain⟨Z,HZ⟩:=qvC (n:=k) h1 h4 R7 IX.out HL.out;have NA:=hP.qzV R7;generalize hPe:(λi=>tO x (Lf i))=P at HZ NA;obtain⟨XX,hC⟩:=HZ.elc NA;have HC:=ae hC;have U4:=ae HZ;have CE:=ae (qCL (Sz 12 43) J k la lc P XX Z (gm J P Z) w3 hC);have CN:=ae (λw=>qo1 (J:Int) true (by simp;omega) w);have qs7:=ae (UH.out.ext HE.out);clear hP HL HE UH HZ NA hPe hC aZ;go_wp2_with (fail);refine CE.out.mono ?_;rintro e we ⟨fa,fc,fp,F,cy,cn,σ,τ,rfl,Ke,Sd,Fj,qmv,xN⟩;have l6:=ae Ke;have Eu:=ae Sd;have qo:=ae Fj;have Uq:=ae qmv;have rQ:=ae xN;clear Ke Sd Fj qmv xN CE;go_wp2_with (fail);refine(CN.out _).mono ?_;rintro e wi ⟨rfl,rfl⟩;clear CN
     have WE:(k:Int)<=3:=by omega
     go_wp2
     go_loopw [83,17] (λiv v wl=>∃i:Nat,i<=k/\iv=.int .i64 (i:Int)/\j6 M0 wi.heap.size wl v (wI P (gm J P Z) Z i)/\Hid (Ext wi wl)) (λiv _ _=>k-(intOf iv).toNat)
     case atStart=>exact⟨0,bu _,rfl,⟨λ_=>PE.z,Own.nil _ _ _ _ _,λj hj=>absurd hj (Nat.not_lt_zero _)⟩,ai _⟩
     case round=>
      obtain⟨i,hi,rfl,hP,HE⟩:=hrel;obtain⟨ua,m,uc,rfl,hm⟩:=hP.form
      by_cases hlt:i<k
      ·have wE:(i:Int)<(k:Int):=by omega
       obtain⟨⟨b,off,rfl,jG,eu,hb,hcell⟩,hxi,jH,wm⟩:=HC.out.x i hlt;obtain⟨c0,c1,c2,c3⟩:=hcell.ext hb (rQ.out.trans HE.out);have gD:b<wr.heap.size:=bB hb (rQ.out.trans HE.out).size;have aQ:Ext wr (wr.alloc (.cells (ag (XX i)) 42)):=(ai wr).alloc _;have Rt:=(au.aO wr (ag (XX i)) 42 4 rfl).p4;have Gc:=ae (hxi.ext (rQ.out.trans (HE.out.trans aQ)));obtain⟨WA,tV⟩:∃WA,wr.alloc (.cells (ag (XX i)) 42)=WA:=⟨_,rfl⟩;obtain⟨g19,qdR⟩:∃g19,g19=wr.heap.size:=⟨_,rfl⟩;rw[<-qdR]at Rt;rw[tV]at aQ Rt Gc;have z8:=ae tV;have qho:=ae qdR;have ZU:=ae Rt;have ek:=ae aQ;have HP:=ae hP;have HM:=ae hm;have gK:=ae hlt;have HXI:=ae hxi;have CD:=ae (Ik M0 (XX i) (P i) J (Z i) WA h1 h4 jH wm (pV _) Gc.out.pi);have Wq:=dM _ _ Rt.1;clear aQ Rt tV qdR hP hm hxi hcell
       go_upto_region 27 with(fail)
       rw[z8.out, <-qho.out];clear z8 c0 c1 c2 c3 gD;obtain⟨x0,x1,x2,x3⟩:=ZU.out;go_wp2_with (fail);refine CD.out.mono ?_;rintro e wd ⟨rfl,uV⟩;have fV:=ae (ek.out.trans uV);have yt:=ae (ZU.out.ext uV);have Ga:=ae (Gc.out.ext uV);have jc:g19<wd.heap.size:=bB Wq uV.size;clear uV CD ZU Gc x0 x1 x2 x3 ek;obtain⟨x0,x1,x2,x3⟩:=yt.out
       by_cases hz:Z i<1
       ·have jg:Hid (j6 M0 wi.heap.size (wd.alloc (.cells (ag (XX i)) 42)) (.slice ua m uc) (wI P (gm J P Z) Z i)):=HP.out.kp (Kp.gZ (M:=M0) (fV.out.alloc _)) (λb hb=>hb) λb _ h=>h;have dW:=au.aO wd (ag (XX i)) 42 4 rfl;have sH:wi.heap.size<=(wd.alloc (.cells (ag (XX i)) 42)).heap.size:=((HE.out.trans fV.out).alloc _).size;have BK:=ae HP.out.lt;have cZ:=ae ((HE.out.trans fV.out).alloc (.cells (ag (XX i)) 42));obtain⟨xx,hO,Ay⟩:=jg.out;rw[<-HM.out]at hO Ay;have pI:=ae Ay;have mi:Hid (∀j,j<4->(arr (ag (XX i)) j).oneCell'=true):=Bu _;have Jw:Hid (aG (MR M0 (.slice ua m uc)) (wd.alloc (.cells (ag (XX i)) 42)) 4 (XX i) (P i)):=(HXI.out.more (M':=MR M0 (.slice ua m uc)) (λb hb=>hb.imp id λh=>by have:=(BK.out b h).1;have:=rQ.out.size;omega)).ext (rQ.out.trans cZ.out)
        have qnn:m<=20:=by have:=Tc P (gm J P Z) Z i (by omega);have:=HM.out;omega
        clear Ay jg HP yt Ga fV HE HXI
        go_wp2_with (at_builtin;refine yj _ rfl (.tmp 92) (.tmp 94) _ rfl wi.heap.size 42 j0 _ 4 64 Tryz.underlying34 ji Bj Bl Bn rfl (by omega) (.slice ua m uc) m (px xx) rfl hO wd.heap.size 42 1 (arr (ag (XX i))) rfl dW mi.out ?s1 ?s2 ?s3 ?_)
        case s1=>unfold maxLen;omega
        case s2=>omega
        case s3=>exact sH
        intro gg cap2 w6 ed bK hat uf
        replace hat:(Value.slice ua m uc).ownBlock=some gg\/(wd.alloc (.cells (ag (XX i)) 42)).heap.size<=gg:=by rw[World.size_alloc];exact hat
        have HF:Hid (j6 M0 wi.heap.size w6 (.slice (some ⟨gg,0,none⟩) (m+1) cap2) (wI P (gm J P Z) Z (i+1))/\Ext wi w6):=⟨by
         rw[show wI P (gm J P Z) Z (i+1)=wI P (gm J P Z) Z i++[P i]from av hz]
         exact j6.push HM.out (λj hj=>pI.out j (by rw[HM.out];exact hj)) Jw.out ed bK hat,cZ.out.grown bK (λq hq=>(BK.out q hq).1)⟩
        clear ed bK hat hO dW pI cZ Jw x0 x1 x2 x3;go_wp2
        go_roundw
        case rel=>exact⟨i+1,gK.out,by go_num,HF.out.1,HF.out.2⟩
        case measure=>have:=gK.out;simp[intOf];omega
       ·have hiB:(i:Int)<=3:=by omega
        have hi0:(0:Int)<=(i:Int):=by omega
        have hlc:(k:Int)<=(lc:Int):=by omega
        have qGb:(i:Int)<=(lc:Int):=by omega
        have Ep:Hid (∀q,(Value.slice ua m uc).ownBlock=some q->q≠g19):=λq hq=>by have:=(HP.out.lt q hq).2;have:=qho.out;omega
        have P7:Hid (j6 M0 wi.heap.size wd (.slice ua m uc) (wI P (gm J P Z) Z i++wJ (gm J P Z) Z i 0)):=by
         rw[show wI P (gm J P Z) Z i++wJ (gm J P Z) Z i 0=wI P (gm J P Z) Z i from List.append_nil _];exact HP.out.kp (Kp.gZ (M:=M0) fV.out) (λb hb=>hb) λb _ h=>h
        have bM:=ae (HE.out.trans fV.out)
        have HZI:Hid (0<Z i):=by show 0<Z i;omega
        clear HP fV HE x0 x1 x2 x3;go_wp2_with (fail)
        go_loopw [100,17] (λjv v wl=>∃j:Nat,j<=i/\jv=.int .i64 (j:Int)/\j6 M0 wi.heap.size wl v (wI P (gm J P Z) Z i++wJ (gm J P Z) Z i j)/\Hid (∀q,v.ownBlock=some q->q≠g19)/\Hid (P4 wl g19 (XX i))/\Hid (Ext wi wl)) (λjv _ _=>i-(intOf jv).toNat)
        case atStart=>exact⟨0,bu _,rfl,P7.out,Ep.out,yt.out,bM.out⟩
        case round=>
         clear HM Ep P7 yt bM Ga Wq jc;obtain⟨j,hj,rfl,hP,Ep,P6,HE⟩:=hrel;obtain⟨ya,m,yc,rfl,hm⟩:=hP.form
         by_cases hlt:j<i
         ·have qnh:(j:Int)<(i:Int):=by omega
          obtain⟨⟨b',off',ry,_,_,hb',hcell⟩,hxj,hnj,hdj⟩:=HC.out.x j (by omega);simp only[Option.some.injEq,Addr.mk.injEq,and_true]at ry;obtain⟨rfl,rfl⟩:=ry;obtain⟨c0,c1,c2,c3⟩:=hcell.ext hb (rQ.out.trans HE.out);have gD:b<wr.heap.size:=bB hb (rQ.out.trans HE.out).size;have aQ:Ext wr (wr.alloc (.cells (ag (XX j)) 42)):=(ai wr).alloc _;have VZ:=(au.aO wr (ag (XX j)) 42 4 rfl).p4;have Gc:=ae (hxj.ext (rQ.out.trans (HE.out.trans aQ)));obtain⟨WA,tV⟩:∃WA,wr.alloc (.cells (ag (XX j)) 42)=WA:=⟨_,rfl⟩;obtain⟨g21,qdS⟩:∃g21,g21=wr.heap.size:=⟨_,rfl⟩;rw[<-qdS]at VZ;rw[tV]at aQ VZ Gc;have z8:=ae tV;have qsp:=ae qdS;have ZV:=ae VZ;have ek:=ae aQ;have HP:=ae hP;have HM:=ae hm;have Uz:=ae hlt;have HXJ:=ae hxj;have CD:=ae (Ik M0 (XX j) (P j) J (Z j) WA h1 h4 hnj hdj (pV _) Gc.out.pi);have AQ:g19<wr.heap.size:=dM _ _ P6.out.1;clear aQ VZ tV qdS hP hm hxj hcell hdj
          go_upto_region 32 with(fail)
          rw[z8.out, <-qsp.out];clear z8 c0 c1 c2 c3 gD;obtain⟨x0,x1,x2,x3⟩:=ZV.out;go_wp2_with (fail);refine CD.out.mono ?_;rintro e wd ⟨rfl,uV⟩;have fV:=ae (ek.out.trans uV);have ZT:=ae (ZV.out.ext uV);have UG:=ae (P6.out.ext fV.out);clear uV CD ZV Gc x0 x1 x2 x3 ek
          by_cases hzj:0<Z j
          ·have HOWN:=ae HP.out.lt;have nW:Mb (MR M0 (.slice ya m yc)) wd:=HP.out.mb.ext fV.out
           have uh:∀b,MR M0 (.slice ya m yc) b->M0 b\/w3.heap.size<=b:=λb hb=>hb.imp id λh=>by have:=(HOWN.out b h).1;have:=rQ.out.size;omega
           have CRS:=ae ((U4.out.gn (i:=i) (j:=j) gK.out (by omega) HZI.out hzj).qCp (by have:=HZI.out;omega) (by omega) (MR M0 (.slice ya m yc)) (XX i) (XX j) wd nW ((HXI.out.more uh).ext (rQ.out.trans (HE.out.trans fV.out))) ((HXJ.out.more uh).ext (rQ.out.trans (HE.out.trans fV.out))));obtain⟨x0,x1,x2,x3⟩:=UG.out;obtain⟨y0,y1,y2,y3⟩:=ZT.out;clear nW uh;go_wp2_with (fail);refine CRS.out.mono ?_;rintro e wq ⟨q,rfl,hq,heq⟩;have Ri:Ext wr (wq.alloc (.cells (ag q) 42)):=(fV.out.trans heq).alloc _;have jg:Hid (j6 M0 wi.heap.size (wq.alloc (.cells (ag q) 42)) (.slice ya m yc) (wI P (gm J P Z) Z i++wJ (gm J P Z) Z i j)):=HP.out.kp (Kp.gZ (M:=M0) Ri) (λb hb=>hb) λb _ h=>h;have dW:=au.aO wq (ag q) 42 4 rfl;have cZ:=ae (HE.out.trans Ri);have sH:wi.heap.size<=(wq.alloc (.cells (ag q) 42)).heap.size:=cZ.out.size;have qhY:=ae (P6.out.ext Ri);have qxW:g19<(wq.alloc (.cells (ag q) 42)).heap.size:=bB AQ Ri.size;obtain⟨xx,hO,Ay⟩:=jg.out;rw[<-HM.out]at hO Ay;have pI:=ae Ay;have mi:Hid (∀j,j<4->(arr (ag q) j).oneCell'=true):=Bu _;have Jw:Hid (aG (MR M0 (.slice ya m yc)) (wq.alloc (.cells (ag q) 42)) 4 q (gm J P Z i j)):=hq.ext ((ai wq).alloc _)
           have qnn:m<=20:=by
            have e1:=Tc P (gm J P Z) Z i (by omega);have e2:=qeZ (gm J P Z) Z i j;have e3:=HM.out;rw[List.length_append]at e3;omega
           clear Ay jg HP UG ZT fV HE HXJ CRS hq heq Ri x0 x1 x2 x3 y0 y1 y2 y3 P6
           go_wp2_with (at_builtin;refine yj _ rfl (.tmp 108) (.tmp 113) _ rfl wi.heap.size 42 j0 _ 4 64 Tryz.underlying34 ji Bj Bl Bn rfl (by omega) (.slice ya m yc) m (px xx) rfl hO wq.heap.size 42 1 (arr (ag q)) rfl dW mi.out ?s1 ?s2 ?s3 ?_)
           case s1=>unfold maxLen;omega
           case s2=>omega
           case s3=>exact sH
           intro gg cap2 w6 ed bK hat uf
           replace hat:(Value.slice ya m yc).ownBlock=some gg\/(wq.alloc (.cells (ag q) 42)).heap.size<=gg:=by rw[World.size_alloc];exact hat
           have HF:Hid (j6 M0 wi.heap.size w6 (.slice (some ⟨gg,0,none⟩) (m+1) cap2) (wI P (gm J P Z) Z i++wJ (gm J P Z) Z i (j+1))/\(∀q,(Value.slice (some ⟨gg,0,none⟩) (m+1) cap2).ownBlock=some q->q≠g19)/\P4 w6 g19 (XX i)/\Ext wi w6):=⟨by
            rw[show wJ (gm J P Z) Z i (j+1)=wJ (gm J P Z) Z i j++[gm J P Z i j]from av hzj, <-List.append_assoc]
            exact j6.push HM.out (λj hj=>pI.out j (by rw[HM.out];exact hj)) Jw.out ed bK hat,λq hq=>by
             simp only[Value.ownBlock,Option.some.injEq]at hq;subst hq
             exact hat.elim (Ep.out gg) λh=>by omega,qhY.out.of (bK.block g19 qxW λe=>Ep.out g19 e.symm rfl),cZ.out.grown bK (λq hq=>(HOWN.out q hq).1)⟩
           clear ed bK hat hO dW pI cZ Jw qhY;go_wp2
           go_roundw
           case rel=>exact⟨j+1,Uz.out,by go_num,HF.out.1,HF.out.2.1,HF.out.2.2.1,HF.out.2.2.2⟩
           case measure=>have:=Uz.out;simp[intOf];omega
          ·have HF:Hid (j6 M0 wi.heap.size wd (.slice ya m yc) (wI P (gm J P Z) Z i++wJ (gm J P Z) Z i (j+1))/\P4 wd g19 (XX i)/\Ext wi wd):=⟨by
            rw[show wJ (gm J P Z) Z i (j+1)=wJ (gm J P Z) Z i j from aj hzj]
            exact HP.out.kp (Kp.gZ (M:=M0) fV.out) (λb hb=>hb) λb _ h=>h,UG.out,HE.out.trans fV.out⟩
           clear HP UG ZT fV HE HXJ;go_wp2
           go_roundw
           case rel=>exact⟨j+1,Uz.out,by go_num,HF.out.1,Ep.out,HF.out.2.1,HF.out.2.2⟩
           case measure=>have:=Uz.out;simp[intOf];omega
         ·obtain rfl:j=i:=by omega
          have qF5:¬(j:Int)<(j:Int):=by omega
          have HF:Hid (j6 M0 wi.heap.size wr (.slice ya m yc) (wI P (gm J P Z) Z (j+1))/\Ext wi wr):=⟨by
           rw[show wI P (gm J P Z) Z (j+1)=wI P (gm J P Z) Z j++wJ (gm J P Z) Z j j from aj (by omega)]
           exact hP,HE.out⟩
          clear hP HE P6 Ep;go_wp2
          go_roundw
          case rel=>exact⟨j+1,gK.out,by go_num,HF.out.1,HF.out.2⟩
          case measure=>have:=gK.out;simp[intOf];omega
      ·obtain rfl:i=k:=by omega
       have qF4:¬(i:Int)<(i:Int):=by omega
       have qnn:m<=20:=by have:=Tc P (gm J P Z) Z i R7;omega
       have hKW:=hP.Xz (by have:=Tc P (gm J P Z) Z i R7;omega)
       have CF:Hid (Calls Tryz.prog 16 #[.slice ua m uc] wr (Qy M0 wr (wI P (gm J P Z) Z i).length λj=>(wI P (gm J P Z) Z i).getD j [])):=by
        rw[<-hm]at hKW;have h0:=qki M0 (wI P (gm J P Z) Z i) wr ua uc (pV _) (λl hl=>U4.out.okw hl) (by omega) (by rw[<-hm];exact hKW);rw[<-hm]at h0⊢;exact h0
       have Py:=ae HE.out;clear hKW hP HE hm;go_wp2_with (fail);refine CF.out.mono ?_;rintro e wg ⟨ga,gn,gp,G,rfl,hKG,hfg,NV⟩;obtain⟨rfl,hFG⟩:=qvE Eu.out qo.out (λa b ha hb za zb=>(U4.out.rs ha hb za zb).2.2.2) Uq.out hfg
       have Eh:Hid (∀k,k<fc->Sz 12 43 (F k)/\kQ J (F k)/\ev x (F k)=0):=λk hk=>by
        obtain⟨j,hj,e,_⟩:=Uq.out.1 k hk;rw[e];exact qDh (U4.out.ok Eu.out qo.out (at_mem hj))
       have HFG:=ae hFG;have hcL:fc<=1099511627776:=hKG.1;obtain⟨fx,hfx⟩:=l6.out.x;obtain⟨gx,hgx⟩:=hKG.x;have HFX:=ae hfx;have HGX:=ae hgx;have LZ:=ae (Py.out.trans NV);clear hKG hfg NV hFG hfx hgx CF Py;go_wp2;obtain⟨w5,hw5⟩:∃w5,w5=wg:=⟨_,rfl⟩
       go_loopw [130] (λiv wl=>∃k:Nat,k<=fc/\iv=.int .i64 (k:Int)/\Hid (Ext wg wl)) (λiv _=>fc-(intOf iv).toNat)
       case atStart=>exact⟨0,bu _,rfl,ai _⟩
       case round=>
        obtain⟨k,hk,rfl,HE⟩:=hrel
        by_cases hlt:k<fc
        ·have wE:(k:Int)<(fc:Int):=by omega
         have gK:=ae hlt;obtain⟨⟨b,off,ry,hNc,eu,hb,_,NQ⟩,hxf,_⟩:=HFX.out k hlt;obtain⟨⟨b2,rH,qxr,qFy,qdE,gU,_,yV⟩,hxg,_⟩:=HGX.out k hlt;subst ry qxr;have aL:=LZ.out.trans HE.out;obtain⟨c0,c1,c2,c3⟩:=NQ.ext hb aL;have gD:b<wr.heap.size:=bB hb aL.size;have aQ:=((ai wr).alloc (.cells (ag (fx k)) 42)).drew;have hS:QA wr.heap.size (fx k) b2 (rH+k*4) (gx k) (wr.alloc (.cells (ag (fx k)) 42)).drew:=⟨(au.aO wr (ag (fx k)) 42 4 rfl).p4.ext (ai _).drew,yV.ext gU (HE.out.trans aQ)⟩;have fV:=ae (HE.out.trans aQ);have UY:=ae (hxf.ext (LZ.out.trans fV.out))
         have HXG:Hid (aG M0 (wr.alloc (.cells (ag (fx k)) 42)).drew 4 (gx k) (F k)):=by rw[HFG.out k hlt];exact hxg.ext fV.out
         have Uo:=ae (Eh.out k hlt);have HPQ:=ae (qs7.out.ext (rQ.out.trans (LZ.out.trans fV.out)));obtain⟨zd,Ie,hDG⟩:=qwu h1 h4 Uo.out.1.n Uo.out.2.1;have jK:=ae hDG;have Ie:decide ((0:Int)<zd)=false:=decide_eq_false (by omega);clear hxf hxg NQ yV aQ aL HE hlt hDG
         go_upto_region 42 with(fail)
         refine fB (QA wr.heap.size (fx k) b2 (rH+k*4) (gx k)) 20 hS λhHeld=>?_;clear hS;generalize (wr.alloc (.cells (ag (fx k)) 42)).drew=wd at*;refine bH [0,1,2,3,4] ?_;(iterate 5 refine bG ?_);refine bI ?_
         (refine aI 5 λK hK=>?_);go_simp;(refine(qvN (fx k) (gx k) (F k) (F k) _ UY.out HXG.out (af.refl _)).mono ?_);rintro e_ u1 ⟨rfl,d1⟩;go_wp2_with (fail);(try clear ak);(refine ny hK (hHeld.ext d1) λak=>?_);clear hK K
         refine bH [6,7] ?_;(iterate 2 refine bG ?_);refine bI ?_;refine bH [8,9] ?_;(iterate 2 refine bG ?_);refine bI ?_
         (refine aI 10 λK hK=>?_);go_simp;(refine(jK.out M0 (fx k) _ (pV _) (UY.out.ext d1)).mono ?_);rintro e_ u2 ⟨rfl,d2⟩;go_wp2_with (fail);(try clear ak);(refine ny hK (hHeld.ext (d1.trans d2)) λak=>?_);clear hK K
         refine bH [11] ?_;(iterate 1 refine bG ?_);refine bI ?_;refine bH [12,13] ?_;(iterate 2 refine bG ?_);refine bI ?_;refine bH [14,15] ?_;(iterate 2 refine bG ?_);refine bI ?_
         (refine aI 16 λK hK=>?_);go_simp;(refine(qwb Uo.out.1 Uo.out.2.2 M0 (fx k) _ (pV _) (UY.out.ext (d1.trans d2)) (HPQ.out.ext (d1.trans d2))).mono ?_);rintro e_ u3 ⟨r,rfl,hr,d3⟩;go_wp2_with (fail);(try clear ak);(refine ny hK (hHeld.ext ((d1.trans d2).trans d3)) λak=>?_);clear hK K
         (refine aI 17 λK hK=>?_);go_simp;(refine(qCh 1 r _ (pV _) (hr.DZ Lu) (by omega)).mono ?_);rintro e_ u4 ⟨rfl,d4⟩;go_wp2_with (fail);(try clear ak);(refine ny hK (hHeld.ext (((d1.trans d2).trans d3).trans d4)) λak=>?_);clear hK K
         refine bH [18,19] ?_;(iterate 2 refine bG ?_);refine bI ?_;refine kP ?_;have I1:=ae (fV.out.trans (((d1.trans d2).trans d3).trans d4));clear hr d1 d2 d3 d4 ak hHeld fV UY HXG HPQ;go_wp2
         go_roundw
         case rel=>exact⟨k+1,gK.out,by go_num,I1.out⟩
         case measure=>have:=gK.out;simp[intOf];omega
        ·obtain rfl:k=fc:=by omega
         have qF6:¬(k:Int)<(k:Int):=by omega
         have HF:=ae (zS.out.trans (rQ.out.trans (LZ.out.trans HE.out)));clear HE;go_wp2;go_ret;exact⟨rfl,HF.out⟩
end Go.Proofs.YtaafefeafonhdaaGreat
