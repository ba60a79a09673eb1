/- Xb -/
import Derived.Test.YtmcfpnmoklnhoaaGreatXa
import Derived.Test.YtmcfpnmoklnhoaaGreatVe
import Derived.Test.YtmcfpnmoklnhoaaGreatTa
import Derived.Test.YtmcfpnmoklnhoaaGreatWa
import Derived.Test.YtmcfpnmoklnhoaaGreatTf
set_option linter.unusedVariables false
set_option maxRecDepth 100000
set_option maxHeartbeats 400000000
set_option linter.unusedSimpArgs false
namespace Go.Proofs.YtmcfpnmoklnhoaaGreat
open Go.RowKit
theorem qbx{z:Int}(h: -1000000<=z/\z<=1000000):aH z.natAbs<=1:=(lZ _ _).2 (by omega)
theorem qC9(w:World)(z:Nat->Int)(a:Int)(ha:z 0=a)(h: -1000000<=a/\a<=1000000):EP (w.alloc (.cells #[.int .i64 a] 2)) (some ⟨w.heap.size,0,none⟩) 1 1 z:=by
 have hB:=aG.bq w #[.int .i64 a] 2 1 rfl;refine⟨by decide,by decide,by decide,λi hi=>?_⟩
 obtain rfl:i=0:=by omega
 exact⟨by rw[ha];exact h,_,_,rfl,hB.lt,by rw[ha];exact hB.cell (i:=0) (by omega)⟩
def pr(f:Nat->Int):Nat->Int
 |0=>1
 |k+1=>pr f k*f k
theorem ofI{M:Nat->Prop}(z:Int)(w:World)(hM:Mb M w)(h: -1000000<=z/\z<=1000000):Calls Tryz.prog 22 #[.int .i64 z] w (lg M w z):=(IQ z w hM (by omega) (by omega)).mono λ_ _ h=>.of h
def GI(g:Nat)(x:IE)(w:World):Prop:=JC w g 0 x/\g<w.heap.size
theorem GI.ext{g:Nat}{x:IE}{w w':World}(h:GI g x w)(he:Ext w w'):GI g x w':=⟨h.1.ext h.2 he,dH h.2 he.size⟩
def uX(b o1 o2:Nat)(x y:Value)(w:World):Prop:=w.cell? ⟨b,o1,none⟩=some x/\w.cell? ⟨b,o2,none⟩=some y/\b<w.heap.size
def dq(r:Nat->Int)(i k:Nat):Int:=(r i-r k)*(r i-r k)
end Go.Proofs.YtmcfpnmoklnhoaaGreat
namespace Go.Proofs.YtmcfpnmoklnhoaaGreat
theorem qjg:∀(n:Nat)(a b:Nat->Nat->Int),(∀r c,c<n->a r c=b r c)->dR n a=dR n b
 |0,_,_,_=>rfl
 |n+1,a,b,h=>by
  have h1:gF (dR n) a (n+1)=1*gF (dR n) b (n+1)+0*gF (dR n) b (n+1):=Nk _ λd hd=>by
   rw[h 0 d hd,qjg n (dW a d) (dW b d) λr c hc=>by
    unfold dW
    split
    ·exact h _ _ (by omega)
    ·exact h _ _ (by omega)]
   simp
  show gF (dR n) a (n+1)=gF (dR n) b (n+1);rw[h1];simp
theorem qs9(ξ:Int)(P:Pv)(n:Nat):bl ξ P (n+1)=P.sh ξ n::bl ξ P n:=rfl
theorem quI{A B:List (Nat->Int)}{u:Nat->Int}(hne:A++B≠[])(hu:u 0≠0)(h1:u 1=u 0)(h:∀v∈A++B,v 1=v 0):dt (A++u::B)=0:=by
 have hm:=VW [] u B A;rw[List.append_nil]at hm
 have ha:=qbz (α:=Nat->Int) [u] (u 0) (λv r=>u 0*v r-v 0*u r) (λv=>v) (A++B) [] λv _=>⟨[(-(v 0),u)],λp hp=>by rw[List.mem_singleton.1 hp];exact List.mem_singleton.2 rfl,λr=>by
  show u 0*v r-v 0*u r=u 0*v r+(-(v 0)*u r+0)
  rw[Int.neg_mul];omega⟩
 have hz:∀w∈(A++B).map (λ(v:Nat->Int) r=>u 0*v r-v 0*u r),w 0=0/\w 1=0:=λw hw=>by
  obtain⟨v,hv,rfl⟩:=List.mem_map.1 hw;refine⟨by show u 0*v 0-v 0*u 0=0;rw[Int.mul_comm];omega,by show u 0*v 1-v 0*u 1=0;rw[h v hv,h1,Int.mul_comm];omega⟩
 generalize hW:(A++B).map (λ(v:Nat->Int) r=>u 0*v r-v 0*u r)=W at ha hz
 have qwe:W.map LG≠[]:=by
  rw[<-hW];intro e;exact hne (List.map_eq_nil_iff.1 (List.map_eq_nil_iff.1 e))
 have hb:=qbA [u] [] W [];simp only[List.nil_append,List.append_nil]at hb
 have ht:dt ([u]++W)=0:=by
  show dt (u::W)=0
  rw[VX u λv hv=>(hz v hv).1,qjw qwe λv hv=>by
   obtain⟨w,hw,rfl⟩:=List.mem_map.1 hv
   exact(hz w hw).2,Int.mul_zero]
 rw[ht,Int.mul_zero]at hb;simp only[List.nil_append,List.map_id']at ha;rw[hb]at ha;have h0:=(Int.mul_eq_zero.1 ha.symm).resolve_left (Int.pow_ne_zero hu);rw[hm, <-List.append_assoc,h0,Int.mul_zero]
def yP(n:Nat)(a:Nat->Nat->Int):List (Nat->Int):=(List.range n).map λc r=>a r c
theorem quF(n:Nat)(a:Nat->Nat->Int):dt (yP n a)=dR n a:=by
 unfold dt
 have hl:(yP n a).length=n:=by unfold yP;rw[List.length_map,List.length_range]
 rw[hl];refine qjg _ _ _ λr c hc=>?_;unfold xI yP;rw[List.getD_eq_getElem?_getD,List.getElem?_map,List.getElem?_range hc];rfl
theorem qub(n:Nat)(a:Nat->Nat->Int)(h:∀c,c<n+2->a 1 c=a 0 c):dR (n+2) a=0:=by
 by_cases hz:∀c,c<n+2->a 0 c=0
 ·exact qbr _ λd hd=>by rw[hz d hd,Int.zero_mul]
 ·obtain⟨c,hc⟩:=Classical.not_forall.1 hz;obtain⟨h1,h2⟩:=Classical.not_imp.1 hc
  have hL:∀v∈yP (n+2) a,v 1=v 0:=λv hv=>by
   obtain⟨d,hd,rfl⟩:=List.mem_map.1 hv;exact h d (List.mem_range.1 hd)
  have hlen:(yP (n+2) a).length=n+2:=by unfold yP;rw[List.length_map,List.length_range]
  obtain⟨A,B,hAB,hA⟩:∃A B,yP (n+2) a=A++(λr=>a r c)::B/\A.length=c:=⟨(yP (n+2) a).take c,(yP (n+2) a).drop (c+1),by
   have e:(yP (n+2) a)[c]'(by omega)=λr=>a r c:=by simp[yP]
   rw[<-e,List.getElem_cons_drop,List.take_append_drop],by rw[List.length_take];omega⟩
  rw[<-quF,hAB];rw[hAB]at hL hlen;refine quI (λe=>?_) h2 (h c h1) λv hv=>hL v ?_
  ·have:=congrArg List.length e;rw[List.length_append]at this hlen;rw[List.length_cons]at hlen;simp only[List.length_nil]at this;omega
  ·rcases List.mem_append.1 hv with e|e
   ·exact List.mem_append.2 (.inl e)
   ·exact List.mem_append.2 (.inr (List.mem_cons_of_mem _ e))
def qf(ρ:Nat->Int)(a:Nat->Nat->Int):Nat->Nat->Int:=λr c=>a r c-ρ r*(if r=0 then 0 else a (r-1) c)
def zT(ρ:Nat->Int)(a:Nat->Nat->Int):Nat->Nat->Int:=λr c=>if r<=1 then a 0 c else qf ρ a r c
theorem qbq:∀(n:Nat)(ρ:Nat->Int)(a:Nat->Nat->Int),dR n (qf ρ a)=dR n a
 |0,_,_=>rfl
 |1,ρ,a=>by
  show(0:Int)+mV 0*(qf ρ a 0 0*1)=0+mV 0*(a 0 0*1)
  have:qf ρ a 0 0=a 0 0:=by unfold qf;simp
  rw[this]
 |k+2,ρ,a=>by
  have e0:∀ρ b c,qf ρ b 0 c=b 0 c:=λρ b c=>by unfold qf;simp
  have key:∀d,dR (k+1) (dW (qf ρ a) d)=1*dR (k+1) (dW a d)+(-(ρ 1))*dR (k+1) (dW (zT ρ a) d):=λd=>by
   rw[<-qbq (k+1) (λr=>ρ (r+1)) (dW a d)];refine Nk _ λe he=>?_
   have m1:dW (qf (λr=>ρ (r+1)) (dW a d)) e=dW (dW (qf ρ a) d) e:=by
    funext r c
    unfold dW qf;simp
   have m2:dW (dW (zT ρ a) d) e=dW (dW (qf ρ a) d) e:=by
    funext r c
    unfold dW zT;rw[ah (by omega)]
   rw[m1,m2,e0]
   have h1:dW (qf ρ a) d 0 e=dW a d 0 e-ρ 1*dW (zT ρ a) d 0 e:=by
    unfold dW zT qf;simp
   rw[h1];generalize dR k (dW (dW (qf ρ a) d) e)=D;generalize dW a d 0 e=x;generalize dW (zT ρ a) d 0 e=y
   grind
  have h:gF (dR (k+1)) (qf ρ a) (k+2)=1*gF (dR (k+1)) a (k+2)+(-(ρ 1))*gF (dR (k+1)) (zT ρ a) (k+2):=Nk _ λd hd=>by
   rw[key d,e0];have hb:zT ρ a 0 d=a 0 d:=ai (by omega);rw[hb];generalize dR (k+1) (dW a d)=D;generalize dR (k+1) (dW (zT ρ a) d)=E;generalize a 0 d=x
   grind
  have hz:gF (dR (k+1)) (zT ρ a) (k+2)=0:=qub k (zT ρ a) λc _=>by
   unfold zT;rw[ai (by omega),ai (by omega)]
  show gF (dR (k+1)) (qf ρ a) (k+2)=gF (dR (k+1)) a (k+2);rw[h,hz];simp
theorem qbp:∀(n:Nat)(a b:Nat->Nat->Int),(∀r c,r<n->c<n->a r c=b r c)->dR n a=dR n b
 |0,_,_,_=>rfl
 |n+1,a,b,h=>by
  have h1:gF (dR n) a (n+1)=1*gF (dR n) b (n+1)+0*gF (dR n) b (n+1):=Nk _ λd hd=>by
   rw[h 0 d (by omega) hd,qbp n (dW a d) (dW b d) λr c hr hc=>by
    unfold dW
    split
    ·exact h _ _ (by omega) (by omega)
    ·exact h _ _ (by omega) (by omega)]
   simp
  show gF (dR n) a (n+1)=gF (dR n) b (n+1);rw[h1];simp
def Pv.Na(P:Pv):Pv:=⟨P.c,P.c 0⟩
def gQ(ξ:Int)(c:Nat->Int)(T:Nat):Nat->Int
 |0=>c T
 |r+1=>ξ*gQ ξ c T r+c (T-(r+1))
theorem qmT(ξ:Int)(c:Nat->Int)(T:Nat):∀r,r<=T->gQ ξ c T r*ξ^(T-r)+gZ ξ c (T-r)=gZ ξ c (T+1)
 |0,_=>by show c T*ξ^T+gZ ξ c T=gZ ξ c T+c T*ξ^T;omega
 |r+1,h=>by
  rw[<-qmT ξ c T r (by omega),show T-r=(T-(r+1))+1 by omega];show(ξ*gQ ξ c T r+c (T-(r+1)))*ξ^(T-(r+1))+gZ ξ c (T-(r+1))=gQ ξ c T r*ξ^(T-(r+1)+1)+(gZ ξ c (T-(r+1))+c (T-(r+1))*ξ^(T-(r+1)));rw[Int.pow_succ];generalize ξ^(T-(r+1))=p;generalize gQ ξ c T r=h
  grind
theorem qxx(ξ:Int)(c:Nat->Int)(T:Nat):gQ ξ c T T=gZ ξ c (T+1):=by
 have:=qmT ξ c T T (aI _);rw[Nat.sub_self,Int.pow_zero,Int.mul_one]at this;rw[<-this];show _=_+(0:Int);omega
def Pv.Vr(ξ:Int)(d:Nat)(P:Pv):Prop:=(∀k,d<k->P.c k=0)/\P.v=gZ ξ P.c (d+1)
theorem qxy{ξ:Int}{d i T:Nat}{P:Pv}(h:P.Vr ξ d)(hi:i+d<=T):gQ ξ (P.sh ξ i).c T T=ξ^i*P.v:=by
 have a1:gZ ξ (P.sh ξ i).c i=0:=(Lp ξ (b:=λ_=>0) i λk hk=>ai hk).trans (Yh ξ i)
 have a2:gZ ξ (λk=>(P.sh ξ i).c (i+k)) (d+1)=gZ ξ P.c (d+1):=Lp ξ (d+1) λk hk=>by
  show(if i+k<i then 0 else P.c (i+k-i))=_;rw[ah (by omega),Nat.add_sub_cancel_left]
 have a3:gZ ξ (λk=>(P.sh ξ i).c (i+(d+1+k))) (T-i-d)=0:=(Lp ξ (b:=λ_=>0) (T-i-d) λk hk=>by
  show(if i+(d+1+k)<i then 0 else P.c (i+(d+1+k)-i))=_
  rw[ah (by omega)];exact h.1 _ (by omega)).trans (Yh ξ _)
 rw[qxx,h.2,show T+1=i+((d+1)+(T-i-d)) by omega,Yg,Yg,a1,a2,a3];simp
theorem qa0(ξ:Int)(Q:Pv):∀(N c:Nat),c<N->(bl ξ Q N)[c]?=some (Q.sh ξ (N-1-c))
 |0,c,h=>by omega
 |N+1,c,h=>by
  rw[qs9]
  cases c with
  |zero=>simp
  |succ c=>rw[List.getElem?_cons_succ,qa0 ξ Q N c (by omega),show N+1-1-(c+1)=N-1-c by omega]
theorem qbf{ξ:Int}{m n:Nat}{F P:Pv}{T c r:Nat}(hc:c<n+m):xI ((bl ξ F n++bl ξ P m).map (Pv.vec T 0)) r c=if c<n then(F.sh ξ (n-1-c)).vec T 0 r else(P.sh ξ (m-1-(c-n))).vec T 0 r:=by
 unfold xI;simp only[List.getD_eq_getElem?_getD,List.map_append]
 have e1:((bl ξ F n).map (Pv.vec T 0)).length=n:=by rw[List.length_map,IV]
 by_cases h1:c<n
 ·rw[List.getElem?_append_left (by omega),List.getElem?_map,qa0 _ _ _ _ h1,ai h1];rfl
 ·rw[List.getElem?_append_right (by omega),e1,List.getElem?_map,qa0 _ _ _ _ (by omega),ah h1];rfl
theorem VK{ξ:Int}{d i T r:Nat}{P:Pv}(h:P.Vr ξ d)(hi:i+d<=T)(hr:r<T+1):
 (P.Na.sh 0 i).vec T 0 r=gQ ξ (P.sh ξ i).c T r-ξ*(if r=0 then 0 else gQ ξ (P.sh ξ i).c T (r-1))/\
 (P.sh ξ i).vec T 0 r=gQ ξ (P.sh ξ i).c T r-(if r<T then ξ else 0)*(if r=0 then 0 else gQ ξ (P.sh ξ i).c T (r-1)):=by
 have hs:∀r,gQ ξ (P.sh ξ i).c T r-ξ*(if r=0 then 0 else gQ ξ (P.sh ξ i).c T (r-1))=(P.sh ξ i).c (T-r):=λr=>by
  cases r with
  |zero=>rw[ai rfl];show(P.sh ξ i).c T-ξ*0=_;simp
  |succ r=>rw[ah (by omega),Nat.add_sub_cancel];show ξ*gQ ξ (P.sh ξ i).c T r+(P.sh ξ i).c (T-(r+1))-_=_;omega
 have h0:∀r,(P.sh ξ i).c r=(P.Na.sh 0 i).c r:=λ_=>rfl;refine⟨?_,?_⟩
 ·rw[hs r];unfold Pv.vec
  by_cases h2:r<T
  ·rw[ai (by omega)];exact(h0 _).symm
  ·rw[ah (by omega),show T-r=0 by omega];show 0^i*P.c 0=if 0<i then 0 else P.c (0-i)
   cases i with
   |zero=>simp
   |succ i=>rw[ai (by omega),Int.pow_succ];simp
 ·unfold Pv.vec
  by_cases h2:r<T
  ·rw[ai (by omega),ai h2,hs r]
  ·obtain rfl:r=T:=by omega
   rw[ah (by omega),ah h2,Int.zero_mul,Int.sub_zero,qxy h hi];rfl
theorem qt4{ξ:Int}{m n:Nat}{F P:Pv}(hF:F.Vr ξ m)(hP:P.Vr ξ n)(hT:1<=m+n):dS ξ 0 m n F P=dS 0 0 m n F.Na P.Na:=by
 unfold dS DD dt
 have l1:∀(ξ:Int)(F P:Pv),((bl ξ F (n-0)++bl ξ P (m-0)).map (Pv.vec (m+n-0-1) 0)).length=m+n:=λξ F P=>by
  rw[List.length_map,List.length_append,IV,IV];omega
 rw[l1,l1,Nat.sub_zero,Nat.sub_zero,Nat.sub_zero];obtain⟨T,hTe⟩:∃T,T=m+n-1:=⟨_,rfl⟩;rw[<-hTe]
 let B:Nat->Nat->Int:=λr c=>if c<n then gQ ξ (F.sh ξ (n-1-c)).c T r else gQ ξ (P.sh ξ (m-1-(c-n))).c T r
 have e1:dR (m+n) (xI ((bl ξ F n++bl ξ P m).map (Pv.vec T 0)))=dR (m+n) (qf (λr=>if r<T then ξ else 0) B):=qbp _ _ _ λr c hr hc=>by
  rw[qbf (by omega)];unfold qf;show _=(if c<n then _ else _)-_*(if r=0 then 0 else(if c<n then _ else _))
  by_cases h:c<n
  ·rw[ai h,ai h,ai h];exact(VK hF (by omega) (by omega)).2
  ·rw[ah h,ah h,ah h];exact(VK hP (by omega) (by omega)).2
 have e2:dR (m+n) (xI ((bl 0 F.Na n++bl 0 P.Na m).map (Pv.vec T 0)))=dR (m+n) (qf (λ_=>ξ) B):=qbp _ _ _ λr c hr hc=>by
  rw[qbf (by omega)];unfold qf;show _=(if c<n then _ else _)-_*(if r=0 then 0 else(if c<n then _ else _))
  by_cases h:c<n
  ·rw[ai h,ai h,ai h];exact(VK hF (by omega) (by omega)).1
  ·rw[ah h,ah h,ah h];exact(VK hP (by omega) (by omega)).1
 rw[e1,e2,qbq,qbq]
theorem qpu{x:Int}{a:Nat->Int}{N:Nat}(h:∀i,N<=i->a i=0)(r:Nat):gZ x a (N+r)=gZ x a N:=by
 rw[Yg,Lp x (b:=λ_=>0) r (λk _=>h _ (by omega)),Yh];simp
theorem qAq{x:Int}{z:Nat->Int}{n N:Nat}(h:∀i,N<=i->aP n z i=0):gZ x z n=gZ x (aP n z) N:=by
 have e1:gZ x z n=gZ x (aP n z) n:=Lp x n λi hi=>(ai hi).symm;rw[e1, <-qpu (x:=x) (N:=n) (a:=aP n z) (λi hi=>ah (by omega)) N,Nat.add_comm,qpu h n]
def Rz(m n:Nat)(a b:Nat->Int):Int:=dS 0 0 m n ⟨a,a 0⟩ ⟨b,b 0⟩
def ig(a:Nat->Int)(i:Nat):Int:=((i:Int)+1)*a (i+1)
end Go.Proofs.YtmcfpnmoklnhoaaGreat
namespace Go.Proofs.YtmcfpnmoklnhoaaGreat
open Go.RowKit
theorem TL{L n A:Nat}{z:Nat->Int}(h1:1<=L)(h4:L<=4)(hn:n<=7)(hA:∀i,i<n->aH (z i).natAbs<=A):Sz 6 (A+2) (aU L n z):=
 ⟨kE _ _ _,qe6 h1 h4 (by omega),Yb (by omega) λi hi=>by
  have:aK [(z i,Mo.zero)]=(z i).natAbs:=by simp[aK]
  rw[this]
  exact hA i hi⟩
section
end
theorem qtR(a:Int):af (dN (cst a)) (cst (-a)):=by
 have h:=GX a (-1);rw[Int.mul_neg,Int.mul_one]at h;exact h
theorem qBf(n:Nat)(a:Int):af (vU n (cst a)) (cst (yl n*a)):=by
 unfold vU yl
 split
 ·rw[Int.neg_one_mul];exact qtR a
 ·rw[Int.one_mul];exact af.refl _
theorem qtS{a:Int}(h:a≠0):¬af (cst a) []:=λhs=>h (Qv (l:=cst a) (af.refl _) (hs.trans GY.symm))
theorem qef(a:Int):aK (cst a)=a.natAbs:=by simp[aK,cst]
theorem qbn(a:Int):bH 0 (cst a):=qbm a
theorem qvh{a c:Int}(hc:c≠0)(M:Nat->Prop)(x y:PE)(w:World)(hM:Mb M w){l r:List Tm}(hl:af l (cst (a*c)))(hr:af r (cst c))(hA:aH a.natAbs<=200)(hC:aH c.natAbs<=100)(hx:aN M w 4 x l)(hy:aN M w 4 y r):
 Calls Tryz.prog 14 #[.agg (ak x),.agg (ak y)] w (lI M w 4 (cst a) 0):=by
 have II:=hx.dh hl;have hy':=hy.dh hr;have hz:=qtS hc;refine(qbI qoW M _ _ (cst a) x y w hM II.pi hy'.pi (mO a) (GX a c) ((qbn _).mono (bK _)) (by rw[qef];exact hA) ((qbn _).mono (bK _)) (by rw[qef];exact hC)).mono ?_;rintro e w' ⟨v,er,rfl,oI,he⟩;rcases oI with⟨_,h,_⟩|⟨rfl,_,q,hq,hs,_⟩|⟨_,_,_,hn⟩
 ·exact absurd h hz
 ·exact⟨v,rfl,hq.dh (Lj hq.nn (mO _) (mO _) hz (hs.trans (GX a c).symm)),he⟩
 ·exact absurd ⟨cst a,mO _,GX a c⟩ hn
section
end
def Vo(w:World)(k er:Int)(e:Ending)(w':World):Prop:=∃x:IE,e=.returned (.tuple #[.agg #[.bool x.b,.slice x.a x.n x.p],.int .i64 er])/\IX M0 w' x k/\Ext w w'
theorem qA2(a:Option Addr)(n cap:Nat)(X:Nat->IE)(z:Nat->Int)(r:List Tm)(k er:Int)(w:World)(h:bC M0 w a n cap X z)(hk:af r (cst k))(dL:er=0\/er=12/\k=0)
 (HR:∀(M':Nat->Prop) wk x,Mb M' wk->aN M' wk 4 x (aU 1 n z)->Calls Tryz.prog 49 #[.agg (ak x),.int .i64 1] wk (lI M' wk 4 r er)):
 Calls Tryz.prog 27 #[.slice a n cap] w (Vo w k er):=by
 have aV:Ext w (w.alloc (.cells #[.bool false,.slice none 0 0] 30)):=(aA w).alloc _;have bL:=aG.bq w #[.bool false,.slice none 0 0] 30 2 rfl;have jQ:Mb (Mx M0 w.heap.size (w.heap.size+1)) (w.alloc (.cells #[.bool false,.slice none 0 0] 30)):=Mx.mb (qN w) (by simp) (by simp)
 have jT:w.heap.size<(w.alloc (.cells #[.bool false,.slice none 0 0] 30)).heap.size:=by simp
 have HU:=ae ((h.more (M':=Mx M0 w.heap.size (w.heap.size+1)) (Mx.more (aI _))).ext aV);generalize hW:w.alloc (.cells #[.bool false,.slice none 0 0] 30)=W at*;have HW:=ae hW;have HE:=ae aV;have dY:=ae bL;have HM:=ae jQ;have HK:=ae hk;have lX:=ae HR;clear aV bL jQ hW h hk HR
 go_enter Tryz.func27,Tryz.ntmps27
 go_upto_region 1 with(fail)
 rw[HW.out];clear HW;go_wp2_with (fail);refine(qeL _ a n cap X z W HM.out HU.out).mono ?_;rintro e w1 ⟨x,rfl,hx,e1⟩;have HX:=ae hx;have aS:=ae e1;clear hx e1;go_wp2_with (fail);refine(lX.out _ w1 x (HM.out.ext aS.out) HX.out).mono ?_;rintro e w3 ⟨v,rfl,hv,e3⟩;have dM:=ae (aS.out.trans e3);have HV:=ae hv;clear hv e3 HX aS lX;rcases dL with rfl|⟨rfl,rfl⟩
 ·go_upto_region 2 with(fail)
  obtain⟨W4,gG⟩:∃W4,W4=w3.alloc (.cells #[.int .i64 v.lv,.bool v.b,.slice v.a v.n v.p,.slice v.ka v.kn v.kp] 33):=⟨_,rfl⟩
  have eb:Ext w3 W4:=by rw[gG];exact(aA w3).alloc _
  have hP:P4 W4 w3.heap.size v:=by rw[gG];exact(aG.bq w3 (ak v) 33 4 rfl).p4
  rw[<-gG];obtain⟨v0,v1,v2,v3⟩:=hP;have eX:=ae (dM.out.trans eb);have CC:=ae (qpX _ v r W4 (HM.out.ext eX.out) (HV.out.ext eb).pi);clear HV eb gG dM;go_wp2_with (fail);refine CC.out.mono ?_;rintro e w5 ⟨q,ok,b,a,n,p,rfl,hI,ht,hf,e5⟩
  have hq:q=k:=by
   cases ok with
   |true=>exact Qv (ht rfl) HK.out
   |false=>
    obtain⟨_,m,i,hm,Rt,hi4,hp⟩:=hf rfl;rw[HK.out m]at hm;obtain⟨t,KW,rfl⟩:=VJ hm;simp only[cst,List.mem_singleton]at KW;subst KW;rw[uw]at hp;omega
  subst hq;have HI:=ae hI;have dV:=ae (eX.out.trans e5);clear hI ht hf e5 HK CC v0 v1 v2 v3 eX
  go_upto_region 5 with(fail)
  obtain⟨W6,gV⟩:∃W6,W6=w5.alloc (.cells #[.bool b,.slice a n p] 30):=⟨_,rfl⟩
  have eb:Ext w5 W6:=by rw[gV];exact(aA w5).alloc _
  have kv:aG W6 w5.heap.size 30 2 (arr #[.bool b,.slice a n p]):=by rw[gV];exact aG.bq w5 _ 30 2 rfl
  rw[<-gV];have i0:W6.cell? ⟨w5.heap.size,0,none⟩=some (.bool b):=kv.cell (i:=0) (by omega);have i1:W6.cell? ⟨w5.heap.size,1,none⟩=some (.slice a n p):=kv.cell (i:=1) (by omega);have qxh:=kv.lt;obtain⟨⟨s0,s1,g0,g1⟩,⟨t0,t1⟩,jf,iU⟩:=l6 (M':=Mx M0 w.heap.size (w.heap.size+1)) (w:=w) (.bool b) (.slice a n p) (dY.out.ext (dV.out.trans eb)) (Mx.at (by omega)) (by omega) (HE.out.trans (dV.out.trans eb));have HF:Hid (Vo w q 0 (.returned (.tuple #[.agg #[.bool b,.slice a n p],.int .i64 0])) _):=⟨⟨b,a,n,p⟩,rfl,((HI.out.fB.ext eb).kp jf).more Mx.less,iU⟩;have WX:w.heap.size<W6.heap.size:=(dY.out.ext (dV.out.trans eb)).lt;simp only[arr]at s0 s1;clear jf iU HI dV dY HE HM kv eb gV;go_wp2;exact bu (v:=.tuple #[.agg #[.bool b,.slice a n p],.int .i64 0]) (by simp[results,Tryz.results27,go_sem,t0,t1]) rfl HF.out
 ·go_upto_region 2 with(fail)
  obtain⟨W4,gG⟩:∃W4,W4=w3.alloc (.cells #[.int .i64 v.lv,.bool v.b,.slice v.a v.n v.p,.slice v.ka v.kn v.kp] 33):=⟨_,rfl⟩
  have eb:Ext w3 W4:=by rw[gG];exact(aA w3).alloc _
  rw[<-gG];have eX:=ae (dM.out.trans eb);obtain⟨⟨s0,s1,g0,g1⟩,⟨t0,t1⟩,jf,iU⟩:=l6 (M':=Mx M0 w.heap.size (w.heap.size+1)) (w:=w) (.bool false) (.slice none 0 0) (dY.out.ext eX.out) (Mx.at (by omega)) (by omega) (HE.out.trans eX.out);have HF:Hid (Vo w 0 12 (.returned (.tuple #[.agg #[.bool false,.slice none 0 0],.int .i64 12])) _):=⟨⟨false,none,0,0⟩,rfl,(ek.zero _ _).fB,iU⟩;have WX:w.heap.size<W4.heap.size:=(dY.out.ext eX.out).lt;simp only[arr]at s0 s1;clear jf iU HV dM eX dY HE HM eb gG HK;go_wp2;exact bu (v:=.tuple #[.agg #[.bool false,.slice none 0 0],.int .i64 12]) (by simp[results,Tryz.results27,go_sem,t0,t1]) rfl HF.out
theorem qob(a:Option Addr)(n cap:Nat)(X:Nat->IE)(m:Int)(w0 w:World)(h:GL w0 a n cap X)(p8:Ext w0 w):
 Calls Tryz.prog 20 #[.slice a n cap,.int .i64 m] w (AL ((∀i,i<n->(X i).n<=4)/\(n:Int)<=m) w):=by
 have gI:=ae p8;have HU:=ae h.2.2.2;clear p8;have mi:=h.1;have iB:=h.2.1;unfold maxLen at iB;clear h
 go_enter Tryz.func20,Tryz.ntmps20
 go_wp2
 go_loopw [9] (λiv wr=>∃k:Nat,k<=n/\iv=.int .i64 (k:Int)/\Hid (∀i,i<k->(X i).n<=4)/\Hid (Ext w wr)) (λiv _=>n-(intOf iv).toNat)
 case atStart=>exact⟨0,bK _,rfl,λi hi=>absurd hi (Nat.not_lt_zero _),aA _⟩
 case round=>
  obtain⟨k,hk,rfl,HK,HE⟩:=hrel
  by_cases hlt:k<n
  ·obtain⟨b,off,BF,hb,x0,x1,_⟩:=HU.out k hlt;subst BF;have aJ:=gI.out.trans HE.out;rw[<-aJ.cell hb]at x0 x1;have jE:b<wr.heap.size:=dH hb aJ.size;clear aJ;have aZ:Hid (Ext w (wr.alloc (.cells #[.bool (X k).b,.slice (X k).a (X k).n (X k).p] 30))):=HE.out.alloc _
   by_cases h5:(X k).n<=4
   ·have h5i:¬(4:Int)<((X k).n:Int):=by omega
    have kX:Hid (∀i,i<k+1->(X i).n<=4):=λi hi=>by
     by_cases e:i=k
     ·rw[e];exact h5
     ·exact HK.out i (by omega)
    clear h5 HK HE;go_wp2
    go_roundw
    case rel=>exact⟨k+1,by omega,by go_num,kX,aZ⟩
    case measure=>simp[intOf];omega
   ·have h5i:(4:Int)<((X k).n:Int):=by omega
    have HF:Hid (AL ((∀i,i<n->(X i).n<=4)/\(n:Int)<=m) w (.returned (.bool false)) (wr.alloc (.cells #[.bool (X k).b,.slice (X k).a (X k).n (X k).p] 30))):=AL.f (λh=>h5 (h.1 k hlt)) aZ.out;clear h5 HK HE aZ;go_wp2;go_ret;exact HF.out
  ·obtain rfl:k=n:=by omega
   by_cases hm:(k:Int)<=m
   ·have HF:Hid (AL ((∀i,i<k->(X i).n<=4)/\(k:Int)<=m) w (.returned (.bool true)) wr):=AL.t ⟨HK.out,hm⟩ HE.out;clear HK HE;go_wp2;go_ret;exact HF.out
   ·have HF:Hid (AL ((∀i,i<k->(X i).n<=4)/\(k:Int)<=m) w (.returned (.bool false)) wr):=AL.f (λh=>hm h.2) HE.out
    have WZ:decide ((k:Int)<=m)=false:=by simp;omega
    clear HK HE hm;go_wp2;go_ret;exact HF.out
end Go.Proofs.YtmcfpnmoklnhoaaGreat
