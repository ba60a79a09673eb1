/- Bj -/
import Derived.Test.YtaafefeafonhdaaGreatBh
set_option linter.unusedVariables false
set_option maxRecDepth 100000
set_option maxHeartbeats 400000000
set_option linter.unusedSimpArgs false
namespace Go.Proofs.YtaafefeafonhdaaGreat
open Go.RowKit
theorem qfQ{l r:List Tm}(hl:NN l)(hr:NN r)(h:norm l=norm r):af l r:=by
 have h1:=o6 hl;have h2:=o6 hr;rw[<-h]at h2;exact h1.symm.trans h2
theorem Ng{l:List Tm}{B:Nat}(hl:NN l)(h:∀s∈l,s.2.a<=B/\s.2.b<=B/\s.2.c<=B/\s.2.d<=B):bE B l:=by
 refine(qjH (B:=B) λs hs k=>?_).bP (o6 hl);obtain⟨h1,h2,h3,h4⟩:=h s hs;unfold Mo.get
 repeat' split
 all_goals omega
def SFt(g1 g2:Nat)(x y:PE)(w:World):Prop:=P4 w g1 x/\P4 w g2 y
theorem SFt.ext{g1 g2:Nat}{x y:PE}{w w':World}(h:SFt g1 g2 x y w)(he:Ext w w'):SFt g1 g2 x y w':=⟨h.1.ext he,h.2.ext he⟩
def SF3(g1 g2 g3:Nat)(x y v:PE)(w:World):Prop:=P4 w g1 x/\P4 w g2 y/\P4 w g3 v
theorem SF3.ext{g1 g2 g3:Nat}{x y v:PE}{w w':World}(h:SF3 g1 g2 g3 x y v w)(he:Ext w w'):SF3 g1 g2 g3 x y v w':=⟨h.1.ext he,h.2.1.ext he,h.2.2.ext he⟩
theorem qzZ(a:Option Addr)(n cap:Nat)(X:Nat->TE)(T E:Nat)(w:World)(h:JR w a n cap X)(hX:∀i,i<n->(X i).n<=9223372036854775807):Calls Tryz.prog 6 #[.slice a n cap,.int .i64 (T:Int),.int .i64 (E:Int)] w (qiU (TV n X T 4 E) w):=by
 have aR:=qCr a n cap X T 4 E w h hX;rw[show((4:Nat):Int)=4 from rfl]at aR;have aJ:=ae aR;clear aR h hX
 go_enter Tryz.func6,Tryz.ntmps6
 go_wp2_with (fail);refine aJ.out.mono ?_;rintro e w1 ⟨b,rfl,hb,rfl⟩;have HB:=ae hb;clear hb;go_wp2;go_ret;exact⟨b,rfl,HB.out,rfl⟩
def EP(M:Nat->Prop)(w:World)(r p:List Tm)(er:Int)(v:PE):Prop:=(er=2/\af r []/\v=PE.z)\/(er=0/\¬af r []/\aG M w 4 v p)
theorem EP.ext{M:Nat->Prop}{w w':World}{r p:List Tm}{er:Int}{v:PE}(h:EP M w r p er v)(he:Ext w w'):EP M w' r p er v:=h.imp id λ⟨a,b,c⟩=>⟨a,b,c.ext he⟩
end Go.Proofs.YtaafefeafonhdaaGreat
namespace Go.Proofs.YtaafefeafonhdaaGreat
theorem qkn(c:Int):∀(l:List Tm)(a:Nat),(smul c l).foldl (λg t=>Nat.gcd g t.1.natAbs) (c.natAbs*a)=c.natAbs*l.foldl (λg t=>Nat.gcd g t.1.natAbs) a
 |[],_=>rfl
 |t::l,a=>by
  show(smul c l).foldl (λg t=>Nat.gcd g t.1.natAbs) (Nat.gcd (c.natAbs*a) (c*t.1).natAbs)=_;rw[Int.natAbs_mul,Nat.gcd_mul_left,qkn c l];rfl
theorem qwF(c:Int)(l:List Tm):lK (smul c l)=c.natAbs*lK l:=qkn c l 0
theorem qC0{c:Int}(hc:c≠0){l:List Tm}(hl:Canon l)(hn:l≠[]):oz (smul c l)=c*oz l:=by
 cases l with
 |nil=>exact absurd rfl hn
 |cons t l=>
  have h0:=(hl.2 t List.mem_cons_self).1;have hg:=qwF c (t::l);show(if c*t.1<0 then-((lK (smul c (t::l)):Nat):Int)else((lK (smul c (t::l)):Nat):Int))=c*(if t.1<0 then-((lK (t::l):Nat):Int)else((lK (t::l):Nat):Int));rw[hg,Int.natCast_mul];generalize ((lK (t::l):Nat):Int)=G;rcases Int.lt_or_gt_of_ne hc with h1|h1
  ·rw[show((c.natAbs:Nat):Int)= -c by omega];rcases Int.lt_or_gt_of_ne h0 with h2|h2
   ·rw[aj (by have:=Int.mul_pos_of_neg_of_neg h1 h2;omega),av h2,Int.neg_mul,Int.mul_neg]
   ·rw[av (Int.mul_neg_of_neg_of_pos h1 h2),aj (by omega),Int.neg_mul,Int.neg_neg]
  ·rw[show((c.natAbs:Nat):Int)=c by omega];rcases Int.lt_or_gt_of_ne h0 with h2|h2
   ·rw[av (Int.mul_neg_of_pos_of_neg h1 h2),av h2,Int.mul_neg]
   ·rw[aj (by have:=Int.mul_pos h1 h2;omega),aj (by omega)]
theorem qDl{c:Int}(hc:c≠0)(l:List Tm):dD (smul c l)=dD l:=by
 unfold dD;rw[<-qAV hc];have yU:=o7 l
 by_cases hn:norm l=[]
 ·rw[hn];rfl
 rw[qC0 hc yU hn];have hs0:=qfO yU;generalize hS:oz (norm l)=S at*;unfold smul;rw[List.map_map];apply List.map_congr_left;intro t ht;obtain⟨k,hk⟩:=Yf ht;rw[hS]at hk;show((c*t.1).tdiv (c*S),t.2)=(t.1.tdiv S,t.2);rw[hk, <-Int.mul_assoc,Int.mul_tdiv_cancel_left _ (Int.mul_ne_zero hc hs0),Int.mul_tdiv_cancel_left _ hs0]
theorem qDj(l:List Tm):NN (dD l):=uk λt ht=>((qrb l).2 t ht).2
def qiK(p:Nat):Prop:=2<=p/\∀a b:Nat,p∣a*b->p∣a\/p∣b
def nd(p:Int)(l:List Tm):List Tm:=l.filter λt=> !decide (p∣t.1)
theorem ncd{p:Nat}{a:Int}:(p:Int)∣a↔p∣a.natAbs:=by rw[<-Int.natAbs_dvd_natAbs,Int.natAbs_natCast]
theorem qiK.int{p:Nat}(hp:qiK p){a b:Int}(h:(p:Int)∣a*b):(p:Int)∣a\/(p:Int)∣b:=by
 have h1:p∣a.natAbs*b.natAbs:=by rw[<-Int.natAbs_mul];exact ncd.1 h
 exact(hp.2 _ _ h1).imp (λh=>ncd.2 h) (λh=>ncd.2 h)
end Go.Proofs.YtaafefeafonhdaaGreat
namespace Go.Proofs.YtaafefeafonhdaaGreat
open Go.RowKit
def YK(L D:Nat):Prop:=∀(M:Nat->Prop)(l:List Tm)(x:PE)(w:World),aG M w D x l->Calls Tryz.prog 53 #[.agg (ag x),.int .i64 L] w λe w'=>∃n:Nat,e=.returned (.int .i64 n)/\dJ L l n/\n<=1099511627776/\Ext w w'
theorem quU(L:Nat)(yS:1<=L)(vT:L<=4)(D:Nat)(ih:∀E,E<D->YK L E):YK L D:=by
 intro M l x w h;have hE:=(ai w).alloc (.cells (ag x) 42);have hB:=au.aO w (ag x) 42 4 rfl;obtain⟨x0,x1,x2,x3⟩:=hB.p4;generalize hW:w.alloc (.cells (ag x) 42)=W at*;have HW:=ae hW;have HE:=ae hE;have HB:=ae hB;clear hW hE hB
 by_cases h1:x.lv<L
 ·have HD:Hid (dJ L l 0):=⟨λm hm=>by have:=h.qo8 m hm L h1 vT;omega,.inl rfl⟩;clear h
  go_enter Tryz.func53,Tryz.ntmps53
  go_upto_region 1 with(fail)
  rw[HW.out];go_wp2;exact aV (v:=.int .i64 0) (by simp[results,Tryz.results53,go_sem]) rfl ⟨0,rfl,HD.out,by omega,HE.out⟩
 obtain⟨E,b,off,P,iH,gB,Gy,iZ,iN,jN,mI,dY,jG,eu,hb,nV,bZ,fO,eB,jB,dw⟩:=h.node (by omega)
 by_cases h2:x.lv=L
 ·have hLE:L=E+1:=by omega
  have HD:Hid (dJ L l (x.kn-1)):=by
   have:=(qbJ gB (by omega) bZ fO).bP eB;rw[hLE];exact this
  have h2b:(x.lv==(L:Int))=true:=by rw[h2];simp
  obtain⟨k,hk⟩:∃k,x.kn=k+1:=⟨x.kn-1,by omega⟩;rw[hk,Nat.add_sub_cancel]at HD;rw[hk]at x3 dY;clear h bZ fO eB dw jB hLE iH
  go_enter Tryz.func53,Tryz.ntmps53
  go_upto_region 1 with(fail)
  rw[HW.out];go_wp2;exact aV (v:=.int .i64 k) (by simp[results,Tryz.results53,go_sem]) rfl ⟨k,rfl,HD.out,by omega,HE.out⟩
 ·have h2b:(x.lv==(L:Int))=false:=by simp[h2]
  have vL:Hid (∀j,ME L P x.kn j->dJ L l j):=λj hj=>(quX gB bZ (by omega) hj).bP eB
  have HK:Hid (∀i,i<x.kn->∃y,eF w b (off+i*4) y/\(∀W',Ext w W'->Calls Tryz.prog 53 #[.agg (ag y),.int .i64 L] W' λe w'=>∃n:Nat,e=.returned (.int .i64 n)/\dJ L (P i) n/\n<=1099511627776/\Ext W' w')):=λi hi=>by
   obtain⟨y,jX,ui,_⟩:=dw i hi;exact⟨y,jX,λW' he=>ih E (by omega) M (P i) y W' (ui.ext he)⟩
  rw[jN]at x3;clear h bZ fO eB dw jB iH ih
  go_enter Tryz.func53,Tryz.ntmps53
  go_upto_region 1 with(fail)
  rw[HW.out];go_wp2
  go_loopw [5,25] (λhv i wr=>∃(k n:Nat),k<=x.kn/\i=.int .i64 k/\hv=.int .i64 n/\n<=1099511627776/\Hid (ME L P k n)/\Hid (Ext W wr)) (λ_ i _=>x.kn-(intOf i).toNat)
  case atStart=>exact⟨0,0,by omega,rfl,rfl,by omega,⟨λi hi=>absurd hi (Nat.not_lt_zero _),.inl rfl⟩,ai _⟩
  case round=>
   clear x0 x1 x2 x3;obtain⟨k,n,hk,rfl,rfl,qyC,Jf,iP⟩:=hrel
   by_cases hlt:k<x.kn
   ·obtain⟨y,hy,GU⟩:=HK.out k hlt;have lX:=HE.out.trans iP.out;obtain⟨e0,e1,e2,e3⟩:=hy.ext hb lX;have gD:b<wr.heap.size:=bB hb lX.size;have aQ:=(ai wr).alloc (.cells (ag y) 42);have aJ:=ae (GU _ (lX.trans aQ));have ek:=ae (iP.out.trans aQ)
    have wE:(k:Int)<(x.kn:Int):=by omega
    clear GU hy aQ lX;go_wp2_with (fail);refine aJ.out.mono ?_;rintro e w2 ⟨j,rfl,hj,hjL,az⟩;have qsV:=ae (Jf.out.step hj);have HF:=ae (ek.out.trans az)
    have hmx:max (n:Int) (j:Int)=((max n j:Nat):Int):=by omega
    clear aJ hj az e0 e1 e2 e3 Jf HK;go_wp2
    go_roundw
    case rel=>exact⟨k+1,max n j,by omega,by go_num,rfl,by omega,qsV,HF⟩
    case measure=>simp[intOf];omega
   ·obtain rfl:k=x.kn:=by omega
    have HD:=ae (vL.out n Jf.out);clear HK;go_wp2;exact aV (v:=.int .i64 n) (by simp[results,Tryz.results53,go_sem]) rfl ⟨n,rfl,HD.out,qyC,HE.out.trans iP.out⟩
theorem qpf(L:Nat)(yS:1<=L)(vT:L<=4)(D:Nat):YK L D:=by
 induction D using Nat.strongRecOn with
 |_ D ih=>exact quU L yS vT D λE hE=>ih E hE
def Vb(w:World)(l:List Tm)(L:Int)(e:Ending)(w':World):Prop:=∃z:Int,e=.returned (.int .i64 z)/\((af l []/\z= -1)\/(¬af l []/\¬(1<=L/\L<=4)/\z=0)\/(¬af l []/\∃K n:Nat,L=K/\1<=K/\K<=4/\z=n/\dJ K l n/\n<=1099511627776))/\Ext w w'
theorem qAv(M:Nat->Prop)(x:PE)(l:List Tm)(L:Int)(w:World)(hM:Mb M w)(h:PI M w x l):Calls Tryz.prog 14 #[.agg (ag x),.int .i64 L] w (Vb w l L):=by
 have hE:=(ai w).alloc (.cells (ag x) 42);have kg:=au.aO w (ag x) 42 4 rfl;have dz:Mb (Mx M w.heap.size (w.heap.size+1)) (w.alloc (.cells (ag x) 42)):=Mx.mb hM (by simp) (by simp);have h2:=(h.more (M':=Mx M w.heap.size (w.heap.size+1)) (Mx.more (aA _))).ext hE;have HI:=ae h2;clear h h2
 go_enter Tryz.func14,Tryz.ntmps14
 go_wp2_with (fail);refine(Iz _ x l _ dz HI.out).mono ?_;rintro e w1 ⟨y,rfl,hy,ah⟩;have dF:=hE.trans ah;have bA:=kg.ext ah;have jr:=dz.ext ah;obtain⟨⟨q0,q1,q2,q3⟩,⟨f0,f1,f2,f3⟩,⟨r0,r1,r2,r3⟩,hk,hf⟩:=Ah (M':=Mx M w.heap.size (w.heap.size+1)) (w:=w) (.int .i64 y.lv) (.bool y.b) (.slice y.a y.n y.p) (.slice y.ka y.kn y.kp) bA (Mx.at (by omega)) (aA _) dF;have HY:=ae (hy.kp hk);have oL:Mb (Mx M w.heap.size (w.heap.size+1)) (aD w1 w.heap.size 0 (.int .i64 y.lv) (.bool y.b) (.slice y.a y.n y.p) (.slice y.ka y.kn y.kp)):=jr.size hk.1;have Dl:=bA.lt;have Ff:w.heap.size<(aD w1 w.heap.size 0 (.int .i64 y.lv) (.bool y.b) (.slice y.a y.n y.p) (.slice y.ka y.kn y.kp)).heap.size:=bB Dl hk.1;clear q0 q1 q2 q3;obtain⟨q0,q1,q2,q3⟩:=bA.p4;generalize hW:aD w1 w.heap.size 0 (.int .i64 y.lv) (.bool y.b) (.slice y.a y.n y.p) (.slice y.ka y.kn y.kp)=W at r0 r1 r2 r3 hf HY oL Ff;unfold aD at hW;have HW:=ae hW;have tJ:=ae hf;have HM:=ae oL;have HP:Hid (P4 W w.heap.size y):=⟨r0,r1,r2,r3⟩;clear kg dz ah hE bA jr hy HI hk hf oL dF hW Dl hM
 go_upto_region 2 with(fail)
 rw[HW.out];clear q0 q1 q2 q3 f0 f1 f2 f3 HW;have CZ:=ae (Iy _ y l W HM.out HY.out.pi);go_wp2_with (fail);refine CZ.out.mono ?_;rintro e w2 ⟨bz,rfl,pM,az⟩;have aZ:=ae (tJ.out.trans az);have jP:=ae pM;have qw:=ae (HY.out.ext az);have dG:=ae (HP.out.ext az);clear pM az CZ tJ HY HP r0 r1 r2 r3 HM Ff
 cases bz with
 |true=>
  have HF:Hid (Vb w l L (.returned (.int .i64 (-1))) w2):=⟨-1,rfl,.inl ⟨jP.out.1 rfl,rfl⟩,aZ.out⟩;clear jP aZ qw dG;go_wp2;exact aV (v:=.int .i64 (-1)) (by simp[results,Tryz.results14,go_sem]) rfl HF.out
 |false=>
  have HZ:Hid (¬af l []):=λhs=>by have:=jP.out.2 hs;cases this
  clear jP;have CL:=ae (Tj L w2);go_wp2_with (fail);refine CL.out.mono ?_;rintro e w3 ⟨rfl,rfl⟩
  by_cases hl:1<=L/\L<=4
  ·have oh:eH L=true:=by unfold eH;simp[hl]
   obtain⟨K,rfl⟩:∃K:Nat,L=K:=⟨L.toNat,by omega⟩;have HK:Hid (1<=K/\K<=4):=⟨by omega,by omega⟩;have CD:=ae (qpf K HK.out.1 HK.out.2 4 _ l y w2 qw.out);clear hl CL;obtain⟨r0,r1,r2,r3⟩:=dG.out;go_wp2_with (fail);refine CD.out.mono ?_;rintro e w4 ⟨n,rfl,hn,dY,bg⟩;have HF:Hid (Vb w l K (.returned (.int .i64 n)) w4):=⟨n,rfl,.inr (.inr ⟨HZ.out,K,n,rfl,HK.out.1,HK.out.2,rfl,hn,dY⟩),aZ.out.trans bg⟩;clear hn bg CD HZ aZ qw dG r0 r1 r2 r3;go_wp2;exact aV (v:=.int .i64 n) (by simp[results,Tryz.results14,go_sem]) rfl HF.out
  ·have oh:eH L=false:=by unfold eH;simp only[decide_eq_false_iff_not];exact hl
   have HF:Hid (Vb w l L (.returned (.int .i64 0)) w2):=⟨0,rfl,.inr (.inl ⟨HZ.out,hl,rfl⟩),aZ.out⟩;clear aZ qw dG hl HZ CL;go_wp2;exact aV (v:=.int .i64 0) (by simp[results,Tryz.results14,go_sem]) rfl HF.out
def NC(l:List Tm):Prop:=∃m k,aH l m≠0/\1<=k/\k<=4/\0<m.get k
def qaG(M:Nat->Prop)(w':World)(l g s:List Tm)(A:Nat)(v:PE)(k:Nat)(er:Int):Prop:=(er=2/\af l []/\k=0/\v=PE.z)\/(er=12/\¬af l []/\(∃z,af g [(z,Mo.zero)])/\k=0/\v=PE.z)\/(er=0/\¬af l []/\NC g/\∃r,aG M w' 4 v r/\af (aC r (dS s k)) l/\¬Dv s r/\aF (aB r)<=A)
theorem qaG.ext{M:Nat->Prop}{w w':World}{l g s:List Tm}{A:Nat}{v:PE}{k:Nat}{er:Int}(h:qaG M w l g s A v k er)(he:Ext w w'):qaG M w' l g s A v k er:=
 h.imp id (Or.imp id λ⟨h1,h2,h3,r,h4,h5⟩=>⟨h1,h2,h3,r,h4.ext he,h5⟩)
structure YL(M:Nat->Prop)(w:World)(x y:PE)(l g:List Tm)(wr:World):Prop where
 p:P4 wr w.heap.size x
 q:au wr (w.heap.size+1) 42 4 (arr (ag y))
 b:au wr (w.heap.size+2) 42 4 (arr zA)
 m:Mb (Mx M w.heap.size (w.heap.size+3)) wr
 x:PI (Mx M w.heap.size (w.heap.size+3)) wr x l
 y:PI (Mx M w.heap.size (w.heap.size+3)) wr y g
 e:Ext w wr
 s:w.heap.size+3<=wr.heap.size
theorem YL.ext{M:Nat->Prop}{w wr w':World}{x y:PE}{l g:List Tm}(h:YL M w x y l g wr)(he:Ext wr w'):YL M w x y l g w':=
 ⟨h.p.ext he,h.q.ext he,h.b.ext he,h.m.ext he,h.x.ext he,h.y.ext he,h.e.trans he,aK h.s he.size⟩
structure LH(M:Nat->Prop)(w:World)(x y:PE)(r s:List Tm)(wr:World):Prop where
 p:P4 wr (w.heap.size+1) y
 b:au wr (w.heap.size+2) 42 4 (arr (ag x))
 m:Mb (Mx M w.heap.size (w.heap.size+3)) wr
 x:aG (Mx M w.heap.size (w.heap.size+3)) wr 4 x r
 y:aG (Mx M w.heap.size (w.heap.size+3)) wr 4 y s
 e:Ext w wr
 s:w.heap.size+3<=wr.heap.size
theorem LH.ext{M:Nat->Prop}{w wr w':World}{x y:PE}{r s:List Tm}(h:LH M w x y r s wr)(he:Ext wr w'):LH M w x y r s w':=
 ⟨h.p.ext he,h.b.ext he,h.m.ext he,h.x.ext he,h.y.ext he,h.e.trans he,aK h.s he.size⟩
theorem LH.put{M:Nat->Prop}{w wr:World}{x y v:PE}{r s q:List Tm}(h:LH M w x y r s wr)(hv:aG (Mx M w.heap.size (w.heap.size+3)) wr 4 v q):LH M w v y q s (aD wr (w.heap.size+2) 0 (.int .i64 v.lv) (.bool v.b) (.slice v.a v.n v.p) (.slice v.ka v.kn v.kp)):=by
 have kH:Mx M w.heap.size (w.heap.size+3) (w.heap.size+2):=Mx.at (by omega);have hk:Kp (Mx M w.heap.size (w.heap.size+3)) wr (aD wr (w.heap.size+2) 0 (.int .i64 v.lv) (.bool v.b) (.slice v.a v.n v.p) (.slice v.ka v.kn v.kp)):=Kp.aD kH 0 _ _ _ _;exact⟨h.p.of_heap (fD wr (w.heap.size+2) 0 _ _ _ _ (w.heap.size+1) (by omega)),(h.b.aD 0 _ _ _ _).congr (λi hi=>qi9 i hi),h.m.size hk.1,hv.kp hk,h.y.kp hk,h.e.aD (by omega) 0 _ _ _ _,aK h.s hk.1⟩
theorem qEB{k D:Nat}(h1:1<=k)(h4:k<=4)(hD:D+1<=4)(hk:k≠D+1)(m:Mo)(i:Int):wo k (Mo.add m (xp (D+1) i))=Mo.add (wo k m) (xp (D+1) i):=by
 rw[qf4 h1 h4,qrG h1 h4 (x:=xp (D+1) i) (by rw[gM _ _ _ (by omega) hD,aj hk])]
theorem qup{k D:Nat}(h1:1<=k)(h4:k<=4)(hD:D+1<=4)(hk:k≠D+1)(e i:Int)(l:List Tm):ck k e (shift (xp (D+1) i) l)=shift (xp (D+1) i) (ck k e l):=by
 unfold ck lQ shift;rw[List.map_map,List.map_map];apply List.map_congr_left;intro t _;simp only[Function.comp_def,M8,iL,gM _ _ _ (show 1<=D+1 by omega) hD,aj hk,qEB h1 h4 hD hk,Int.add_zero]
theorem quj(k:Nat)(e:Int)(l r:List Tm):ck k e (l++r)=ck k e l++ck k e r:=Te _ _ _
theorem qul{k D:Nat}(h1:1<=k)(h4:k<=4)(hD:D+1<=4)(hk:k≠D+1)(e:Int)(N:Nat)(P:Nat->List Tm):ck k e (aM (D+1) N P)=aM (D+1) N λi=>ck k e (P i):=by
 induction N with
 |zero=>rfl
 |succ N ih=>rw[gF,gF,quj,ih,qup h1 h4 hD hk]
theorem quq{k:Nat}(h1:1<=k)(h4:k<=4){l:List Tm}(h:∀m,aH l m≠0->m.get k=0):af (ck k 0 l) l:=λm=>by
 rw[tL h1 h4]
 by_cases hm:m.get k=0
 ·rw[av hm,qrR,Mo.add_zero']
 ·rw[aj hm];exact(gQ λhc=>hm (h m (λe=>hc e.symm)))
theorem qun{k:Nat}(h1:1<=k)(h4:k<=4){e:Int}(he:e≠0){l:List Tm}(h:∀m,aH l m≠0->m.get k=0):af (ck k e l) []:=λm=>by
 rw[tL h1 h4]
 by_cases hm:m.get k=0
 ·rw[av hm];refine gQ λhc=>?_;have:=h _ hc;rw[iL,hm,gM _ _ _ h1 h4,av rfl]at this;omega
 ·rw[aj hm];rfl
theorem qum{k n:Nat}(h1:1<=k)(h4:k<=4){l:List Tm}(h:∀m,aH l m≠0->m.get k<=n){i:Nat}(hi:n<i):af (ck k (i:Int) l) []:=λm=>by
 rw[tL h1 h4]
 by_cases hm:m.get k=0
 ·rw[av hm];refine gQ λhc=>?_;have:=h _ hc;rw[iL,hm,gM _ _ _ h1 h4,av rfl]at this;omega
 ·rw[aj hm];rfl
def iD(M:Nat->Prop)(w:World)(d E B:Nat)(e0 e1 e2 e3:Value)(S R:List Tm):Prop:=
 ∃u:RT (d+1),RR M w (d+1) u e0 e1 e2 e3/\af (terms (d+1) u) S/\dV E (terms (d+1) u)/\(terms (d+1) u).length<=(B+1)^E/\aB (terms (d+1) u)<=aB R/\∀s∈terms (d+1) u,∀k,s.2.get k<=B
section
variable{M M':Nat->Prop}{w w':World}{d E B:Nat}{e0 e1 e2 e3:Value}{S S' R:List Tm}
theorem iD.kp(h:iD M w d E B e0 e1 e2 e3 S R)(he:Kp M w w'):iD M w' d E B e0 e1 e2 e3 S R:=by
 obtain⟨u,h1,h2⟩:=h;exact⟨u,RR.kp he h1,h2⟩
theorem iD.ext(h:iD M w d E B e0 e1 e2 e3 S R)(he:Ext w w'):iD M w' d E B e0 e1 e2 e3 S R:=h.kp (Kp.gZ he)
theorem iD.more(h:iD M w d E B e0 e1 e2 e3 S R)(hm:∀g,M' g->M g\/w.heap.size<=g):iD M' w d E B e0 e1 e2 e3 S R:=by
 obtain⟨u,h1,h2⟩:=h;exact⟨u,RR.more hm h1,h2⟩
theorem iD.bP(h:iD M w d E B e0 e1 e2 e3 S R)(hs:af S S'):iD M w d E B e0 e1 e2 e3 S' R:=by
 obtain⟨u,h1,h2,h3⟩:=h;exact⟨u,h1,h2.trans hs,h3⟩
theorem iD.wide{E':Nat}(h:iD M w d E B e0 e1 e2 e3 S R)(hE:E<=E'):iD M w d E' B e0 e1 e2 e3 S R:=by
 obtain⟨u,h1,h2,h3,h4,h5⟩:=h;exact⟨u,h1,h2,h3.mono hE,aK h4 (Nat.pow_le_pow_right (by omega) hE),h5⟩
theorem iD.zero(M:Nat->Prop)(w:World)(d E B:Nat)(R:List Tm):iD M w d E B (.int .i64 0) (.bool false) (.slice none 0 0) (.slice none 0 0) [] R:=by
 refine⟨uj d 0 ⟨false,0,λ_=>0⟩ 0 (λ_=>Cx d),⟨rfl,by show-9223372036854775808<=(0:Int)/\(0:Int)<=9223372036854775807;omega,⟨rfl,OD _ _ _⟩,bu _,.inl ⟨⟨none,0,rfl,bu _,λ_=>rfl⟩,rfl⟩⟩,?_,?_,?_,?_,?_⟩
 all_goals rw[Yi _ _ _ _ (by omega)]
 ·exact qq8
 ·exact(qe1 _).mono (bu _)
 ·exact Nat.pow_pos (Nat.succ_pos B)
 ·exact bu _
 ·intro s hs k;simp only[List.mem_cons,List.not_mem_nil,or_false]at hs;subst hs;show Mo.zero.get k<=_;rw[CO];omega
theorem iD.qpR{x:PE}{l:List Tm}(h:aG M w E x l)(hE:E<=d)(hB:bE B l):iD M w d E B (.int .i64 x.lv) (.bool x.b) (.slice x.a x.n x.p) (.slice x.ka x.kn x.kp) l l:=by
 have hl:=h.jY;obtain⟨u,h1,h2,h3,h4⟩:=(h.up hE:aG M w d x l);obtain⟨e0,_⟩:=h1.form;simp only[Value.int.injEq,true_and]at e0
 have hle:(jY (d+1) u).toNat<=E:=by show u.1.toNat<=E;omega
 refine⟨u,h1,h4,(JW _ u h2).mono hle,aK (QH B _ u h2 h1.ok (FH h4 hB)) (Nat.pow_le_pow_right (by omega) hle),JX h2 h4,QG B _ u h2 h1.ok (FH h4 hB)⟩
theorem iD.pe(h:iD M w d E B e0 e1 e2 e3 S R):∃x:PE,e0=.int .i64 x.lv/\e1=.bool x.b/\e2=.slice x.a x.n x.p/\e3=.slice x.ka x.kn x.kp:=by
 obtain⟨u,h1,_⟩:=h;exact h1.pe
end
theorem iD.pi{M:Nat->Prop}{w:World}{d E B:Nat}{x:PE}{S R:List Tm}(h:iD M w d E B (.int .i64 x.lv) (.bool x.b) (.slice x.a x.n x.p) (.slice x.ka x.kn x.kp) S R)(hd:d<=100)(hB:(B+1)^E<=1099511627776)(bJ:B<=1073741824)(hR:aF (aB R)<=1099511627776):PI M w x S:=by
 obtain⟨u,h1,h2,_,h4,h5,h6⟩:=h;exact⟨_,u,h1,.inr ⟨by omega,aK h4 hB,aK (fu h5) hR,λs hs k=>by have:=h6 s hs k;omega⟩,h2⟩
def iT(M:Nat->Prop)(w:World)(d E B g N:Nat)(S R:Nat->List Tm):Prop:=∃f,au w g 42 (N*4) f/\∀i,i<N->iD M w d E B (f (i*4)) (f (i*4+1)) (f (i*4+2)) (f (i*4+3)) (S i) (R i)
section
variable{M M':Nat->Prop}{w w':World}{d E B g N:Nat}{S S' R:Nat->List Tm}
theorem iT.kp(h:iT M w d E B g N S R)(hg:w'.heap[g]?=w.heap[g]?)(hk:Kp M w w'):iT M w' d E B g N S R:=by
 obtain⟨f,h1,h2⟩:=h;exact⟨f,h1.of_heap hg,λi hi=>(h2 i hi).kp hk⟩
theorem iT.ext(h:iT M w d E B g N S R)(he:Ext w w'):iT M w' d E B g N S R:=by
 obtain⟨f,h1,h2⟩:=h;exact⟨f,h1.ext he,λi hi=>(h2 i hi).ext he⟩
theorem iT.congr(h:iT M w d E B g N S R)(hs:∀i,i<N->af (S i) (S' i)):iT M w d E B g N S' R:=by
 obtain⟨f,h1,h2⟩:=h;exact⟨f,h1,λi hi=>(h2 i hi).bP (hs i hi)⟩
theorem iT.set(h:iT M w d E B g N S R)(hg:M g)(j:Nat)(hj:j<N){e0 e1 e2 e3:Value}{l:List Tm}(hc:iD M w d E B e0 e1 e2 e3 l (R j)):iT M (aD w g (j*4) e0 e1 e2 e3) d E B g N (λi=>if i=j then l else S i) R:=by
 obtain⟨f,h1,h2⟩:=h;refine⟨_,h1.aD (j*4) e0 e1 e2 e3,λi hi=>?_⟩;have hk:Kp M w (aD w g (j*4) e0 e1 e2 e3):=Kp.aD hg _ _ _ _ _
 by_cases eD:i=j
 ·subst eD;rw[D6,D7,D8,D9];simp only[if_true];exact hc.kp hk
 ·rw[sN _ _ _ _ _ _ _ (by omega),sN _ _ _ _ _ _ _ (by omega),sN _ _ _ _ _ _ _ (by omega),sN _ _ _ _ _ _ _ (by omega)];simp only[aj eD];exact(h2 i hi).kp hk
theorem iT.at(h:iT M w d E B g N S R)(j:Nat)(hj:j<N):(∃e,w.cell? ⟨g,j*4,none⟩=some e)/\(∃e,w.cell? ⟨g,j*4+1,none⟩=some e)/\(∃e,w.cell? ⟨g,j*4+2,none⟩=some e)/\(∃e,w.cell? ⟨g,j*4+3,none⟩=some e)/\(∀o,w.frozen? ⟨g,o,none⟩=false)/\g<w.heap.size:=by
 obtain⟨f,h1,h2⟩:=h;exact⟨⟨_,h1.cell (by omega)⟩,⟨_,h1.cell (by omega)⟩,⟨_,h1.cell (by omega)⟩,⟨_,h1.cell (by omega)⟩,h1.frozen,h1.lt⟩
theorem iT.cells(h:iT M w d E B g N S R)(i:Nat)(hi:i<N):∃y:PE,eF w g (i*4) y/\iD M w d E B (.int .i64 y.lv) (.bool y.b) (.slice y.a y.n y.p) (.slice y.ka y.kn y.kp) (S i) (R i):=by
 obtain⟨f,hB,hc⟩:=h;obtain⟨x,e0,e1,e2,e3⟩:=(hc i hi).pe;have hx:=hc i hi;rw[e0,e1,e2,e3]at hx;refine⟨x,⟨?_,?_,?_,?_⟩,hx⟩
 ·rw[hB.cell (by omega),e0]
 ·rw[hB.cell (by omega),e1]
 ·rw[hB.cell (by omega),e2]
 ·rw[hB.cell (by omega),e3]
theorem iT.fresh(hB:au w g 42 (N*4) fH):iT M w d E B g N (λ_=>[]) R:=by
 refine⟨fH,hB,λi hi=>?_⟩
 have h0:fH (i*4)=.int .i64 0:=by unfold fH;rw[av (by omega)]
 have h1:fH (i*4+1)=.bool false:=by unfold fH;rw[aj (by omega),av (by omega)]
 have h2:fH (i*4+2)=.slice none 0 0:=by unfold fH;rw[aj (by omega),aj (by omega)]
 have h3:fH (i*4+3)=.slice none 0 0:=by unfold fH;rw[aj (by omega),aj (by omega)]
 rw[h0,h1,h2,h3];exact iD.zero _ _ _ _ _ _
theorem iT.lt(h:iT M w d E B g N S R):g<w.heap.size:=by
 obtain⟨f,h1,_⟩:=h;exact h1.lt
theorem iT.node{P:Nat->List Tm}{r:List Tm}(h:iT M w d E B g N S P)(hm:∀b,M' b->M b\/w.heap.size<=b)(hg:¬M' g)(hE:E+1<=4)(hN:N<=B+1)(hL:N<=1099511627776)(hr:aB (aM (E+1) N P)<=aB r):
 iD M' w (d+1) (E+1) B (.int .i64 ((E:Int)+1)) (.bool false) (.slice none 0 0) (.slice (some ⟨g,0,none⟩) N N) (aM (E+1) N S) r:=by
 obtain⟨f,hB,hc⟩:=h
 obtain⟨bC,dw⟩:=pick (Cx (d+1)) (n:=N) (Q:=λi u=>RR M' w (d+1) u (f (i*4)) (f (i*4+1)) (f (i*4+2)) (f (i*4+3))/\af (terms (d+1) u) (S i)/\dV E (terms (d+1) u)/\(terms (d+1) u).length<=(B+1)^E/\aB (terms (d+1) u)<=aB (P i)/\∀s∈terms (d+1) u,∀k,s.2.get k<=B) (λi hi=>by
  obtain⟨u,h1,h2⟩:=hc i hi
  exact⟨u,RR.more hm h1,h2⟩)
 have hT:terms (d+1+1) (uj (d+1) ((E:Int)+1) ⟨false,0,λ_=>0⟩ N bC)=aM (E+1) N (λi=>terms (d+1) (bC i)):=by
  rw[TJ _ _ _ _ _ (by omega) (by omega),show((E:Int)+1).toNat=E+1 by omega]
 refine⟨uj _ ((E:Int)+1) ⟨false,0,λ_=>0⟩ N bC,⟨rfl,by show-9223372036854775808<=(E:Int)+1/\(E:Int)+1<=9223372036854775807;omega,⟨rfl,OD _ _ _⟩,hL,.inr ⟨g,0,N,rfl,aA _,by unfold maxLen;omega,⟨hB.lt,hg⟩,λi hi=>?_⟩⟩,?_,?_,?_,?_,?_⟩
 ·have hi':i<N:=hi;rw[Nat.zero_add];exact⟨_,_,_,_,hB.cell (i:=i*4) (by omega),hB.cell (i:=i*4+1) (by omega),hB.cell (i:=i*4+2) (by omega),hB.cell (i:=i*4+3) (by omega),(dw i hi).1⟩
 ·rw[hT];exact qO _ _ _ _ λi hi=>(dw i hi).2.1
 ·rw[hT];exact qfp _ _ _ (by omega) hE λi hi=>by rw[Nat.add_sub_cancel];exact(dw i hi).2.2.1
 ·rw[hT];refine aK (XZ (c:=(B+1)^E) N λi hi=>(dw i hi).2.2.2.1) ?_;rw[Nat.pow_succ,Nat.mul_comm];exact Nat.mul_le_mul_left _ hN
 ·rw[hT];refine aK ?_ hr;clear hr hT hB hc
  have:∀K,K<=N->aB (aM (E+1) K λi=>terms (d+1) (bC i))<=aB (aM (E+1) K P):=by
   intro K
   induction K with
   |zero=>intro _;exact aA _
   |succ K ih=>
    intro hK;rw[gF,gF,kK,kK,zu,zu];have h1:=ih (by omega);have h2:=(dw K (by omega)).2.2.2.2.1;omega
  exact this N (aA _)
 ·rw[hT];intro s hs k;obtain⟨i,hi,s',lD,rfl⟩:=Ls hs;have h1:=(dw i hi).2.2.2.2.2 s' lD k;show(Mo.add s'.2 (xp (E+1) (i:Int))).get k<=_;rw[iL,gM _ k _ (by omega) hE]
  by_cases hk:k=E+1
  ·rw[av hk,hk,(dw i hi).2.2.1 s' lD (E+1) (by omega) hE];omega
  ·rw[aj hk];omega
end
theorem qCy{M:Nat->Prop}{w:World}{L N cap S A:Nat}{a:Option Addr}{P:Nat->List Tm}(h:dP M w 4 (.slice a N cap) N P)(h1:1<=L)(h4:L<=4)(AJ:∀i,i<N->bE S (P i))(hN:N*(S+1)^4<=1099511627776)(tT:S+N<=1000000)(jF:∀i,i<N->aF (aB (P i))<=A)(hA:A+2<=1099511627776):
 PI M w ⟨(L:Int),false,none,0,0,a,N,cap⟩ (aM L N P):=by
 obtain⟨bC,dw⟩:=pick (Cx (4+1)) (n:=N) (Q:=λi u=>(∃b off,a=some ⟨b,off,none⟩/\N<=cap/\cap<=maxLen/\b<w.heap.size/\¬M b/\∃e0 e1 e2 e3,w.cell? ⟨b,off+i*4,none⟩=some e0/\w.cell? ⟨b,off+i*4+1,none⟩=some e1/\w.cell? ⟨b,off+i*4+2,none⟩=some e2/\w.cell? ⟨b,off+i*4+3,none⟩=some e3/\RR M w (4+1) u e0 e1 e2 e3)/\fA (4+1) u=true/\zw (4+1) u/\af (terms (4+1) u) (P i)) (by
  intro i hi;obtain⟨b,off,h1,h2,h3,h4,h5,e0,e1,e2,e3,x0,x1,x2,x3,t,g1,g2,g3,g4⟩:=h.at i hi
  exact⟨t,⟨b,off,h1,h2,h3,h4,h5,e0,e1,e2,e3,x0,x1,x2,x3,g1⟩,g2,g1.ok,g4⟩)
 have hT:terms (4+1+1) (uj (4+1) (L:Int) ⟨false,0,λ_=>0⟩ N bC)=aM L N (λi=>terms (4+1) (bC i)):=by
  rw[TJ _ _ _ _ _ (by omega) (by omega),show(L:Int).toNat=L by omega]
 refine⟨4+1+1,uj _ (L:Int) ⟨false,0,λ_=>0⟩ N bC,⟨rfl,by show-9223372036854775808<=(L:Int)/\(L:Int)<=9223372036854775807;omega,⟨rfl,OD _ _ _⟩,h.1,?_⟩,.inr ⟨by omega,?_,?_,?_⟩,?_⟩
 ·rcases h.2 with⟨h1,h0⟩|⟨b,off,cap',h1,h2,h3,h4,_⟩
  ·simp only[Value.slice.injEq]at h1;obtain⟨rfl,rfl,rfl⟩:=h1;exact .inl ⟨⟨none,0,rfl,bu _,λ_=>rfl⟩,rfl⟩
  ·simp only[Value.slice.injEq,true_and]at h1;obtain⟨rfl,rfl⟩:=h1;refine .inr ⟨b,off,cap,rfl,h2,h3,h4,λi hi=>?_⟩;obtain⟨b',off',e,_,_,_,_,hk⟩:=(dw i hi).1;simp only[Option.some.injEq,Addr.mk.injEq,and_true]at e;obtain⟨rfl,rfl⟩:=e;exact hk
 ·rw[hT];refine aK (XZ (c:=(S+1)^4) N λi hi=>?_) hN;refine aK (QH S (4+1) (bC i) (dw i hi).2.1 (dw i hi).2.2.1 (FH (dw i hi).2.2.2 (AJ i hi))) (Nat.pow_le_pow_right (by omega) ?_);have:=Af (dw i hi).2.1;show(bC i).1.toNat<=4;omega
 ·rw[hT];have:=XV (L:=L) (A:=A) (N:=N) (P:=λi=>terms (4+1) (bC i)) (by omega) λi hi=>aK (fu (JX (dw i hi).2.1 (dw i hi).2.2.2)) (jF i hi);omega
 ·rw[hT];intro s hs k;obtain⟨i,hi,s',lD,rfl⟩:=Ls hs;have g1:=QG S (4+1) (bC i) (dw i hi).2.1 (dw i hi).2.2.1 (FH (dw i hi).2.2.2 (AJ i hi)) s' lD k;show(Mo.add s'.2 (xp L (i:Int))).get k<=_;rw[iL,gM _ k _ h1 h4]
  split<;>omega
 ·rw[hT];exact qO _ _ _ _ λi hi=>(dw i hi).2.2.2
theorem qpd{M:Nat->Prop}{L N cap S A:Nat}{a:Option Addr}{P:Nat->List Tm}(w:World)(hM:Mb M w)(h:dP M w 4 (.slice a N cap) N P)(h1:1<=L)(h4:L<=4)(AJ:∀i,i<N->bE S (P i))(hN:N*(S+1)^4<=1099511627776)(tT:S+N<=1000000)(jF:∀i,i<N->aF (aB (P i))<=A)(hA:A+2<=1099511627776):
 Calls Tryz.prog 100 #[.slice a N cap,.int .i64 (L:Int)] w (di M w 4 (aM L N P)):=by
 have hE:=(ai w).alloc (.cells zA 42);have hB:=au.aO w zA 42 4 rfl;have dz:Mb (Mx M w.heap.size (w.heap.size+1)) (w.alloc (.cells zA 42)):=Mx.mb hM (by simp) (by simp);have R9:=((qCy h h1 h4 AJ hN tT jF hA).more (M':=Mx M w.heap.size (w.heap.size+1)) (Mx.more (aA _))).ext hE;have CT:=ae (Iz _ _ _ _ dz R9)
 have pO:eH (L:Int)=true:=by unfold eH;simp;omega
 have vG:=ae (λW=>Tj (L:Int) W);rw[pO]at vG;have HE:=ae hE;have HB:=ae hB;clear hE hB dz R9 pO h hM h1 h4 AJ hN tT jF hA
 go_enter Tryz.func100,Tryz.ntmps100
 go_wp2_with (fail);refine(vG.out _).mono ?_;rintro e w1 ⟨rfl,rfl⟩;go_wp2_with (fail);refine CT.out.mono ?_;rintro e w2 ⟨v,rfl,hv,az⟩;obtain⟨⟨q0,q1,q2,q3⟩,⟨f0,f1,f2,f3⟩,⟨r0,r1,r2,r3⟩,HF⟩:=gI (M:=M) (w:=w) (L:=4) (HB.out.ext az) (Mx.at (by omega)) (by omega) (HE.out.trans az) hv Mx.sub;clear CT vG hv az;go_wp2;exact aV (v:=.agg (ag v)) (by simp[results,Tryz.results100,go_sem,r0,r1,r2,r3]) rfl HF.out
theorem qDL{P:Program}(w:World){o:Oper}{a:Act}{K:Act->World->Prop}{Q:Exit->Act->World->Prop}{E:Prop}{ops:Array Oper}(jc:o.guard=none)(lo co:Operand)(t:TypeId)(ho:o.op=.makeSlice t lo co)
 (e:TypeId) (i:TypeInfo) (z:Value) (size:Nat) (ht:P.underlying t=some (.slice e)) (hi:P.info? e=some i) (hz:i.zero=some z) (hs:i.size=size) (kl kc:IntKind) (n:Nat)
 (hl:a.eval lo=.int kl (n:Int)) (hc:a.eval co=.int kc (n:Int)) (hb:i.bytes*n<=281474976710656) (J6:n<=maxLen)
 (h:K (a.put o.dst (.slice (some ⟨w.heap.size,0,none⟩) n n)) (w.alloc (.cells (madeCells z.cells (n*size)) e))):
 if Region.wanted o (yielded ops a.tmps)=true then Oper.wp P o a w K Q else E:=by
 have hw:Region.wanted o (yielded ops a.tmps)=true:=by simp[Region.wanted,jc]
 rw[av hw]
 have hb':(i.bytes:Int)*(n:Int)<=281474976710656:=by
  have h:((i.bytes*n:Nat):Int)<=281474976710656:=by omega
  rwa[Int.natCast_mul]at h
 have hr:=run_make (P:=P) w t e i z ht hi hz kl kc n n (by omega) (Int.le_refl _) hb' (by unfold maxLen at J6;omega);simp only[Int.toNat_natCast,hs]at hr;unfold Oper.wp;simp[execOp,ho,hl,hc,hr,Result.andThen];exact h
theorem Yp{P:Program}(w:World){ops:Array Oper}{rest:List Oper}{o:Oper}{a:Act}{Q:Exit->Act->World->Prop}(jc:o.guard=none)(lo co:Operand)(t:TypeId)(ho:o.op=.makeSlice t lo co)
 (e:TypeId) (i:TypeInfo) (z:Value) (size:Nat) (ht:P.underlying t=some (.slice e)) (hi:P.info? e=some i) (hz:i.zero=some z) (hs:i.size=size) (kl kc:IntKind) (L C:Int) (n:Nat)
 (hl:a.eval lo=.int kl L) (hc:a.eval co=.int kc C) (hL:L=(n:Int)) (hC:C=(n:Int)) (hb:i.bytes*n<=281474976710656) (J6:n<=maxLen)
 (h:∀w',Hid (w'=w.alloc (.cells (madeCells z.cells (n*size)) e))->wpList P ops Q rest (a.put o.dst (.slice (some ⟨w.heap.size,0,none⟩) n n)) w'):
 wpList P ops Q (o::rest) a w:=by
 refine wpList_plain jc λK hK=>?_
 have hb':(i.bytes:Int)*(n:Int)<=281474976710656:=by
  have h:((i.bytes*n:Nat):Int)<=281474976710656:=by omega
  rwa[Int.natCast_mul]at h
 have hr:=run_make (P:=P) w t e i z ht hi hz kl kc n n (by omega) (Int.le_refl _) hb' (by unfold maxLen at J6;omega);simp only[Int.toNat_natCast,hs]at hr;subst hL;subst hC;unfold Oper.wp;simp[execOp,ho,hl,hc,hr,Result.andThen];exact hK _ _ (h _ rfl)
theorem QE(w:World)(N:Nat)(e:TypeId):au (w.alloc (.cells (madeCells (Value.agg #[.int .i64 0,.bool false,.slice none 0 0,.slice none 0 0]).cells (N*4)) e)) w.heap.size e (N*4) fH:=
 au.qfh w _ e fH (N*4) (by simp[madeCells]) λi hi=>by
  rw[<-Ed i];have hm:i%4<4:=Nat.mod_lt _ (by decide);simp[madeCells,hi,arr,Array.getD_eq_getD_getElem?,hm,Value.cells]
theorem qEK{P:Program}{w:World}{ops:Array Oper}{rest:List Oper}{o:Oper}{a:Act}{Q:Exit->Act->World->Prop}(jc:o.guard=none)(d s:Operand)(dT sT:TypeId)
 (ho:o.op=.call {callee:=.builtin .copy,args:= #[d,s],argTypes:= #[dT,sT]}) (elem:TypeId) (hu:P.underlying dT=some (.slice elem)) (z:Nat) (hsz:(P.info? elem).map (·.size)=some z)
 (N k Cw DV:Nat) (g b off:Nat) (hd:a.eval d=.slice (some ⟨g,0,none⟩) N Cw) (hs:a.eval s=.slice (some ⟨b,off,none⟩) k DV) (hk:k<=N)
 (t:TypeId) (f:Nat->Value) (hB:au w g t (N*z) f) (src:Nat->Value) (Dw:∀j,j<k*z->w.cell? ⟨b,off+j,none⟩=some (src j))
 (h1:∀j,j<k*z->(src j).oneCell'=true)
 (h:∀w',au w' g t (N*z) (over f 0 (k*z) src)->w.grownBy w' (some g)->wpList P ops Q rest (a.put o.dst (goInt k)) w'):
 wpList P ops Q (o::rest) a w:=by
 have Fb:k*z<=N*z:=fq _ hk;obtain⟨cur,hg,hcs,hb⟩:=hB.splice 0 (k*z) src (by omega);refine wpList_plain jc λK hK=>?_;have hmin:Nat.min k N=k:=Nat.min_eq_left hk
 have hl:=run_loadCells_list (P:=P) w ⟨b,off,none⟩ ((List.range (k*z)).map src) (λj v hv=>by
  simp only[List.getElem?_map,Option.map_eq_some_iff]at hv;obtain⟨x,hx,rfl⟩:=hv;have hlt:=(List.getElem?_eq_some_iff.1 hx).1;simp only[List.length_range]at hlt;rw[List.getElem?_range hlt]at hx;cases hx
  rw[Cn];exact Dw j hlt)
 have iw:=run_storeCells_at P g 0 t ((List.range (k*z)).map src) 0 cur w hg (by simp;omega) (λv hv=>by
  simp only[List.mem_map,List.mem_range]at hv;obtain⟨j,hj,rfl⟩:=hv
  exact h1 j hj)
 simp only[List.length_map,List.length_range]at hl iw
 cases hq:P.info? elem with
 |none=>simp[hq]at hsz
 |some i=>
  have hi:i.size=z:=by simpa[hq]using hsz
  unfold Oper.wp;simp only[execOp,ho,resolve,invoke,builtin,Sem.run_bind,Sem.run_pure,List.map_toArray,List.map_cons,List.map_nil,hd,hs];simp[Builtin.copy_,run_underlying hu,Builtin.lenOf,Builtin.firstCells,sizeOf,typeInfo,hq,hi,hmin,hl,iw];refine hK _ _ (h _ ?_ ?_)
  ·simpa[List.append_assoc]using hb
  ·exact qb8 _ _ _
theorem qpZ{w' wr:World}{b:Nat}{x:PE}(h:P4 wr b x)(he:w'.heap[b]?=wr.heap[b]?):P4 w' b x:=by
 have hc:=λo=>World.cell?_of_block (w:=wr) (w':=w') (a:=⟨b,o,none⟩) he;obtain⟨p0,p1,p2,p3⟩:=h;exact⟨(hc 0).trans p0,(hc 1).trans p1,(hc 2).trans p2,(hc 3).trans p3⟩
theorem iD.ref{M:Nat->Prop}{w:World}{d E B:Nat}{e0 e1 e2 e3:Value}{S R R':List Tm}(h:iD M w d E B e0 e1 e2 e3 S R)(hR:aB R<=aB R'):iD M w d E B e0 e1 e2 e3 S R':=by
 obtain⟨u,h1,h2,h3,h4,h5,h6⟩:=h;exact⟨u,h1,h2,h3,h4,aK h5 hR,h6⟩
theorem iT.qBg{M:Nat->Prop}{w:World}{d E B g n k:Nat}{xx:Nat->PE}{S:Nat->List Tm}{R:List Tm}(hB:au w g 42 (n*4) (over fH 0 (k*4) (px xx)))(hk:k<=n)
 (h:∀i,i<k->iD M w d E B (.int .i64 (xx i).lv) (.bool (xx i).b) (.slice (xx i).a (xx i).n (xx i).p) (.slice (xx i).ka (xx i).kn (xx i).kp) (S i) R):iT M w d E B g n (λi=>if i<k then S i else[]) (λ_=>R):=by
 refine⟨_,hB,λi hi=>?_⟩
 by_cases fe:i<k
 ·have e:∀r,r<4->over fH 0 (k*4) (px xx) (i*4+r)=px xx (i*4+r):=λr hr=>by unfold over;rw[av ⟨by omega,by omega⟩,Nat.sub_zero]
  have e0:=e 0 (by omega);rw[Nat.add_zero]at e0;rw[e0,e 1 (by omega),e 2 (by omega),e 3 (by omega),Fx,Fy,Fz,FB];simp only[av fe];exact h i fe
 ·have e:∀r,r<4->over fH 0 (k*4) (px xx) (i*4+r)=fH (i*4+r):=λr hr=>by unfold over;rw[aj (by omega)]
  have e0:=e 0 (by omega);rw[Nat.add_zero]at e0
  have h0:fH (i*4)=.int .i64 0:=by unfold fH;rw[av (by omega)]
  have h1:fH (i*4+1)=.bool false:=by unfold fH;rw[aj (by omega),av (by omega)]
  have h2:fH (i*4+2)=.slice none 0 0:=by unfold fH;rw[aj (by omega),aj (by omega)]
  have h3:fH (i*4+3)=.slice none 0 0:=by unfold fH;rw[aj (by omega),aj (by omega)]
  rw[e0,e 1 (by omega),e 2 (by omega),e 3 (by omega),h0,h1,h2,h3];simp only[aj fe];exact iD.zero _ _ _ _ _ _
theorem qCa{w:World}{b off N:Nat}{xx:Nat->PE}(h:∀i,i<N->eF w b (off+i*4) (xx i))(j:Nat)(hj:j<N*4):w.cell? ⟨b,off+j,none⟩=some (px xx j):=by
 obtain⟨i,r,rfl,hr⟩:∃i r,j=i*4+r/\r<4:=⟨j/4,j%4,by omega,by omega⟩;obtain⟨h0,h1,h2,h3⟩:=h i (by omega)
 match r,hr with
 |0,_=>rw[Nat.add_zero,Fx];exact h0
 |1,_=>rw[Fy, <-Nat.add_assoc];exact h1
 |2,_=>rw[Fz, <-Nat.add_assoc];exact h2
 |3,_=>rw[FB, <-Nat.add_assoc];exact h3
theorem qCc(xx:Nat->PE)(j:Nat):(px xx j).oneCell'=true:=by
 unfold px
 split
 ·rfl
 ·split
  ·rfl
  ·split<;>rfl
def tK(w:World)(g m k:Nat)(h:Nat->Nat)(lv:Int)(N:Nat):Prop:=∃F,au w g 42 (m*4) F/\∀i,i<k->F (i*4)=.int .i64 lv/\F (i*4+1)=.bool false/\F (i*4+2)=.slice none 0 0/\F (i*4+3)=.slice (some ⟨h i,0,none⟩) N N
theorem tK.ext{w w':World}{g m k:Nat}{h:Nat->Nat}{lv:Int}{N:Nat}(hr:tK w g m k h lv N)(he:Ext w w'):tK w' g m k h lv N:=by
 obtain⟨F,h1,h2⟩:=hr;exact⟨F,h1.ext he,h2⟩
theorem tK.heap{w w':World}{g m k:Nat}{h:Nat->Nat}{lv:Int}{N:Nat}(hr:tK w g m k h lv N)(he:w'.heap[g]?=w.heap[g]?):tK w' g m k h lv N:=by
 obtain⟨F,h1,h2⟩:=hr;exact⟨F,h1.of_heap he,h2⟩
theorem tK.set{w:World}{g m k:Nat}{h:Nat->Nat}{lv:Int}{N:Nat}(hr:tK w g m k h lv N):tK (aD w g (k*4) (.int .i64 lv) (.bool false) (.slice none 0 0) (.slice (some ⟨h k,0,none⟩) N N)) g m (k+1) h lv N:=by
 obtain⟨F,h1,h2⟩:=hr;refine⟨_,h1.aD _ _ _ _ _,λi hi=>?_⟩
 by_cases fe:i=k
 ·subst fe;exact⟨D6 _ _ _ _ _ _,D7 _ _ _ _ _ _,D8 _ _ _ _ _ _,D9 _ _ _ _ _ _⟩
 ·rw[sN _ _ _ _ _ _ _ (by omega),sN _ _ _ _ _ _ _ (by omega),sN _ _ _ _ _ _ _ (by omega),sN _ _ _ _ _ _ _ (by omega)];exact h2 i (by omega)
theorem tK.at{w:World}{g m k:Nat}{h:Nat->Nat}{lv:Int}{N:Nat}(hr:tK w g m k h lv N)(j:Nat)(hj:j<m):(∃e,w.cell? ⟨g,j*4,none⟩=some e)/\(∃e,w.cell? ⟨g,j*4+1,none⟩=some e)/\(∃e,w.cell? ⟨g,j*4+2,none⟩=some e)/\(∃e,w.cell? ⟨g,j*4+3,none⟩=some e)/\(∀o,w.frozen? ⟨g,o,none⟩=false)/\g<w.heap.size:=by
 obtain⟨F,h1,h2⟩:=hr;exact⟨⟨_,h1.cell (by omega)⟩,⟨_,h1.cell (by omega)⟩,⟨_,h1.cell (by omega)⟩,⟨_,h1.cell (by omega)⟩,h1.frozen,h1.lt⟩
theorem tK.c3{w:World}{g m k:Nat}{h:Nat->Nat}{lv:Int}{N:Nat}(hr:tK w g m k h lv N)(hk:k<=m)(j:Nat)(hj:j<k):w.cell? ⟨g,j*4+3,none⟩=some (.slice (some ⟨h j,0,none⟩) N N):=by
 obtain⟨F,h1,h2⟩:=hr;rw[h1.cell (by omega),(h2 j hj).2.2.2]
structure qf(M:Nat->Prop)(w:World)(L d E B n N:Nat)(P:Nat->List Tm)(x:PE)(wr:World)(c:Nat->Nat):Prop where
 sz:w.heap.size+3+n<=wr.heap.size
 ext:Ext w wr
 p4:P4 wr w.heap.size x
 row:tK wr (w.heap.size+1) (n+1) (n+1) (λi=>w.heap.size+2+i) x.lv N
 kids:∀i,i<n+1->iT (Mx M w.heap.size (w.heap.size+3+n)) wr d E B (w.heap.size+2+i) N (λj=>if j<c i then ck L (i:Int) (P j)else[]) P
section
variable{M:Nat->Prop}{w wr w':World}{L d E B n N:Nat}{P:Nat->List Tm}{x:PE}{c:Nat->Nat}
theorem qf.grow(h:qf M w L d E B n N P x wr c)(he:Ext wr w'):qf M w L d E B n N P x w' c:=
 ⟨aK h.sz he.size,h.ext.trans he,h.p4.ext he,h.row.ext he,λi hi=>(h.kids i hi).ext he⟩
theorem qf.mb(h:qf M w L d E B n N P x wr c)(hM:Mb M w):Mb (Mx M w.heap.size (w.heap.size+3+n)) wr:=Mx.mb hM h.ext.size h.sz
theorem qf.store(h:qf M w L d E B n N P x wr c)(i:Nat)(hi:i<n+1)(k:Nat)(hk:k<N)(hc:c i=k){e0 e1 e2 e3:Value}(hy:iD (Mx M w.heap.size (w.heap.size+3+n)) wr d E B e0 e1 e2 e3 (ck L (i:Int) (P k)) (P k)):
 qf M w L d E B n N P x (aD wr (w.heap.size+2+i) (k*4) e0 e1 e2 e3) (λj=>if j=i then k+1 else c j):=by
 have kH:Mx M w.heap.size (w.heap.size+3+n) (w.heap.size+2+i):=Mx.at (by omega);refine⟨by rw[kN];exact h.sz,h.ext.aD (by omega) _ _ _ _ _,qpZ h.p4 (fD _ _ _ _ _ _ _ _ (by omega)),h.row.heap (fD _ _ _ _ _ _ _ _ (by omega)),λj hj=>?_⟩
 by_cases eD:j=i
 ·subst eD;refine((h.kids j hj).set kH k hk hy).congr λq hq=>?_;simp only[if_true]
  by_cases h1:q=k
  ·rw[av h1,av (by omega),h1];exact af.refl _
  ·rw[aj h1]
   by_cases h2:q<c j
   ·rw[av h2,av (by omega)];exact af.refl _
   ·rw[aj h2,aj (by omega)];exact af.refl _
 ·simp only[aj eD];exact(h.kids j hj).kp (fD _ _ _ _ _ _ _ _ (by omega)) (Kp.aD kH _ _ _ _ _)
theorem qf.congr{c':Nat->Nat}(h:qf M w L d E B n N P x wr c)(hc:∀i,i<n+1->c i=c' i):qf M w L d E B n N P x wr c':=
 ⟨h.sz,h.ext,h.p4,h.row,λi hi=>by rw[<-hc i hi];exact h.kids i hi⟩
theorem qf.done{l:List Tm}{E2:Nat}(h:qf M w L d E B n N P x wr c)(hM:Mb M w)(hc:∀i,i<n+1->c i=N)(iH:x.lv=(E:Int)+1)(hE:E+1<=4)(mX:E+1<=E2)(yS:1<=L)(hL:L<=E)(hN:N<=B+1)(yT:N<=1099511627776)(hs:af (aM (E+1) N P) l)(hn:aB (aM (E+1) N P)<=aB l):
 iT (λb=>M b\/b=w.heap.size+1) wr (d+1) E2 B (w.heap.size+1) (n+1) (λi=>ck L (i:Int) l) (λ_=>l):=by
 obtain⟨F,hB,hF⟩:=h.row;refine⟨F,hB,λi hi=>?_⟩;obtain⟨f0,f1,f2,f3⟩:=hF i hi;rw[f0,f1,f2,f3,iH];refine(((h.kids i hi).node (M':=λb=>M b\/b=w.heap.size+1) (r:=l) (λb hb=>.inl (hb.imp id λhb=>by omega)) ?_ hE hN yT hn).wide mX).bP ?_
 ·rintro(hm|he)
  ·have:=hM _ hm;omega
  ·omega
 ·refine(qO _ _ _ _ λj hj=>?_).trans ((qul (N:=N) (P:=P) yS (by omega) hE (by omega) (i:Int)) ▸ xB hs);rw[hc i hi,av hj];exact af.refl _
end
def SCo(g o h N gz:Nat)(z:PE)(w:World):Prop:=w.cell? ⟨g,o,none⟩=some (.slice (some ⟨h,0,none⟩) N N)/\P4 w gz z
def Qx(M:Nat->Prop)(w:World)(d E B n L:Nat)(l:List Tm)(e:Ending)(w':World):Prop:=∃g,e=.returned (.slice (some ⟨g,0,none⟩) (n+1) (n+1))/\w.heap.size<=g/\iT (λb=>M b\/b=g) w' d E B g (n+1) (λi=>ck L (i:Int) l) (λ_=>l)/\Ext w w'
def YG(L E:Nat):Prop:=∀(d:Nat),E<=d->∀(M:Nat->Prop)(l:List Tm)(x:PE)(n B:Nat)(w:World),Mb M w->aG M w E x l->bE B l->(∀m,aH l m≠0->m.get L<=n)->n+1<=1099511627776->Calls Tryz.prog 131 #[.agg (ag x),.int .i64 (L:Int),.int .i64 (n:Int)] w (Qx M w d E B n L l)
theorem quI(L:Nat)(yS:1<=L)(vT:L<=4)(E:Nat)(ih:∀E',E'<E->YG L E'):YG L E:=by
 intro d dN M l x n B w hM h hB hn dY;obtain⟨i0,hi,hz0,hz1,hz2⟩:=info_parts Tryz.xU;have aL:=(ai w).alloc (.cells (ag x) 42);have aW:=au.aO w (ag x) 42 4 rfl;obtain⟨x0,x1,x2,x3⟩:=aW.p4
 have jV:w.heap.size+1=(w.alloc (.cells (ag x) 42)).heap.size:=by simp
 have Og:(n:Int)+1<=1099511627776:=by omega
 have iN:(0:Int)<=(n:Int):=jE _;generalize hW:w.alloc (.cells (ag x) 42)=W at*;have HW:=ae hW;have dC:=ae aL;have Jh:=ae aW.p4;have HM:=ae hM;have HX:=ae h;have l5:=ae hB;have HN:=ae hn;have fV:=ae dN;clear hW aL aW hM h hB hn dN
 go_enter Tryz.func131,Tryz.ntmps131
 go_upto_region 1 with(fail)
 rw[HW.out]
 go_wp2_with (first|(at_make;refine Yp _ rfl _ _ _ rfl 42 i0 (.agg #[.int .i64 0,.bool false,.slice none 0 0,.slice none 0 0]) 4 Tryz.underlying34 hi hz0 hz1 .i64 .i64 _ _ (n+1) rfl rfl ?c4 ?c5 ?c2 ?c3 ?_))
 case c2=>rw[hz2];omega
 case c3=>unfold maxLen;omega
 case c4=>simp
 case c5=>simp
 have bR:=QE W (n+1) 42;have ah:=(ai W).alloc (.cells (madeCells (Value.agg #[.int .i64 0,.bool false,.slice none 0 0,.slice none 0 0]).cells ((n+1)*4)) 42)
 have dI:(W.alloc (.cells (madeCells (Value.agg #[.int .i64 0,.bool false,.slice none 0 0,.slice none 0 0]).cells ((n+1)*4)) 42)).heap.size=w.heap.size+2:=by simp;omega
 intro w1 hw1;replace hw1:W.alloc (.cells (madeCells (Value.agg #[.int .i64 0,.bool false,.slice none 0 0,.slice none 0 0]).cells ((n+1)*4)) 42)=w1:=hw1.out.symm;rw[hw1]at bR ah dI;rw[<-jV]at bR⊢;have UF:=ae (Jh.out.ext ah);have aP:=ae (dC.out.trans ah);have zN:=ae bR;clear x0 x1 x2 x3 bR ah Jh dC HW jV hw1;obtain⟨x0,x1,x2,x3⟩:=UF.out
 by_cases h1:x.lv<L
 ·have bZ:∀m,aH l m≠0->m.get L=0:=λm hm=>HX.out.qo8 m hm L h1 vT
  have zZ:Hid (∀i,i<n+1->af (if i=0 then l else[]) (ck L (i:Int) l)):=λi _=>by
   by_cases hi0:i=0
   ·subst hi0;rw[av rfl];exact(quq yS vT bZ).symm
   ·rw[aj hi0];exact(qun yS vT (by omega) bZ).symm
  have hK0:iT (λb=>M b\/b=w.heap.size+1) w1 d E B (w.heap.size+1) (n+1) (λ_=>[]) (λ_=>l):=iT.fresh zN.out;obtain⟨⟨_,k0⟩,⟨_,k1⟩,⟨_,k2⟩,⟨_,k3⟩,bn,wB⟩:=hK0.at 0 (by omega);have jw:=bn 0;have ku:=bn 1;have kv:=bn 2;have oU:=bn 3;rw[Nat.zero_mul]at k0 k1 k2 k3;simp only[Nat.zero_add]at k1 k2 k3;have hx:iD (λb=>M b\/b=w.heap.size+1) w1 d E B (.int .i64 x.lv) (.bool x.b) (.slice x.a x.n x.p) (.slice x.ka x.kn x.kp) l l:=((iD.qpR HX.out fV.out l5.out).more (M':=λb=>M b\/b=w.heap.size+1) (λb hb=>hb.imp id λhb=>by omega)).ext aP.out;have HF:Hid (Qx M w d E B n L l (.returned (.slice (some ⟨w.heap.size+1,0,none⟩) (n+1) (n+1))) (aD w1 (w.heap.size+1) (0*4) (.int .i64 x.lv) (.bool x.b) (.slice x.a x.n x.p) (.slice x.ka x.kn x.kp))):=⟨_,rfl,by omega,(hK0.set (.inr rfl) 0 (by omega) hx).congr zZ.out,aP.out.aD (by omega) _ _ _ _ _⟩;clear bZ hK0 bn hx zZ;rw[Nat.zero_mul]at HF;go_wp2;exact aV (v:=.slice (some ⟨w.heap.size+1,0,none⟩) (n+1) (n+1)) (by simp[results,Tryz.results131,go_sem]) rfl HF.out
 ·obtain⟨E',b,off,P,iH,gB,Gy,iZ,qed,jN,mI,qnu,jG,eu,hb,nV,bZ,fO,eB,jB,dw⟩:=HX.out.node (by omega);have h1b:decide (x.lv<(L:Int))=false:=decide_eq_false h1
  by_cases h2:x.lv=L
  ·obtain rfl:L=E'+1:=by omega
   have h2b:(x.lv==((E'+1:Nat):Int))=true:=by rw[h2];simp
   have hNn:x.kn<=n+1:=by
    obtain⟨q,hq1,hq2⟩:=(qbJ gB (by omega) bZ fO).2.resolve_left (by omega);rw[eB q]at hq1;have:=HN.out q hq1;omega
   obtain⟨xx,Dy⟩:=pick PE.z (n:=x.kn) (Q:=λi y=>eF w b (off+i*4) y/\aG M w E' y (P i)) λi hi=>by
    obtain⟨y,jX,ui,_⟩:=dw i hi;exact⟨y,jX,ui⟩
   have oQ:=Ag gB (by omega) bZ fO (l5.out.bP eB.symm)
   have HC:Hid (∀w2,Ext w w2->∀i,i<x.kn->iD (λb=>M b\/b=w.heap.size+1) w2 d E B (.int .i64 (xx i).lv) (.bool (xx i).b) (.slice (xx i).a (xx i).n (xx i).p) (.slice (xx i).ka (xx i).kn (xx i).kp) (P i) l):=λw2 he i hi=>
    (((iD.qpR ((Dy i hi).2.up (show E'<=E by omega)) fV.out (oQ.2 i hi)).ref (aK (DR (E'+1) x.kn P i hi) jB)).more (M':=λb=>M b\/b=w.heap.size+1) (λb hb=>hb.imp id λhb=>by omega)).ext he
   have HS:Hid (∀i,i<n+1->af (if i<x.kn then P i else[]) (ck (E'+1) (i:Int) l)):=λi _=>(Gp gB bZ i).symm.trans (xB eB);have Dw:∀j,j<x.kn*4->w1.cell? ⟨b,off+j,none⟩=some (px xx j):=qCa λi hi=>((Dy i hi).1).ext hb aP.out;have qig:=ae Dw;clear Dw oQ Dy dw bZ fO eB jB;rw[jN]at x3
   go_wp2_with (first|(refine qEK rfl _ _ _ _ rfl 42 Tryz.underlying34 4 ?c1 (n+1) x.kn _ _ (w.heap.size+1) b off rfl rfl hNn 42 fH zN.out (px xx) qig.out (λj _=>qCc xx j) ?_))
   intro w2 bJ fE;have az:Ext w w2:=aP.out.grown fE (λq hq=>by cases hq;omega);have HF:Hid (Qx M w d E B n (E'+1) l (.returned (.slice (some ⟨w.heap.size+1,0,none⟩) (n+1) (n+1))) w2):=⟨_,rfl,by omega,(iT.qBg bJ hNn (HC.out w2 az)).congr HS.out,az⟩;clear bJ fE az HC HS qig;go_wp2;exact aV (v:=.slice (some ⟨w.heap.size+1,0,none⟩) (n+1) (n+1)) (by simp[results,Tryz.results131,go_sem]) rfl HF.out
  ·have h2b:(x.lv==(L:Int))=false:=by simp[h2]
   obtain⟨d',rfl⟩:∃d',d=d'+1:=⟨d-1,by have:=fV.out;omega⟩
   have yX:E'<=d':=by have:=fV.out;omega
   have oQ:=Ag gB (by omega) bZ fO (l5.out.bP eB.symm)
   have yn:Hid (∀j,j<x.kn->∃y,eF w b (off+j*4) y/\∀(M':Nat->Prop) W2,Mb M' W2->(∀g,M' g->M g\/w.heap.size<=g)->Ext w W2->Calls Tryz.prog 131 #[.agg (ag y),.int .i64 (L:Int),.int .i64 (n:Int)] W2 (Qx M' W2 d' E' B n L (P j))):=λj hj=>by
    obtain⟨y,jX,ui,_⟩:=dw j hj
    exact⟨y,jX,λM' W2 h1 h2 h3=>ih E' (by omega) d' yX M' (P j) y n B W2 h1 ((ui.more h2).ext h3) (oQ.2 j hj) (λm hm=>by
     have hk:=qeT gB bZ hj hm;rw[eB _]at hk;have:=HN.out _ hk;rw[iL,gM _ _ _ (by omega) gB,aj (by omega)]at this
     omega) dY⟩
   have Ul:Hid (∀wr c,qf M w L d' E' B n x.kn P x wr c->(∀i,i<n+1->c i=x.kn)->Qx M w (d'+1) E B n L l (.returned (.slice (some ⟨w.heap.size+1,0,none⟩) (n+1) (n+1))) wr):=λwr c hc NR=>⟨_,rfl,by omega,hc.done HM.out NR iH gB Gy yS (by omega) oQ.1 qnu eB jB,hc.ext⟩;have hkn:x.kn<=1099511627776:=qnu
   have qE:i0.bytes*x.kn<=281474976710656:=by rw[hz2];omega
   have Jc:Hid (tK w1 (w.heap.size+1) (n+1) 0 (λi=>w.heap.size+2+i) x.lv x.kn):=⟨_,zN.out,λi hi=>absurd hi (Nat.not_lt_zero _)⟩;clear oQ dw bZ fO eB jB ih HX l5 HN fV yX jG eu zN nV iZ qed Gy;rw[jN]at x3;have PT:=ae iH;have Ud:=ae qE;have PQ:=ae jN;clear iH jN qE;go_wp2
   go_loopw [18] (λi wr=>∃k:Nat,k<=n+1/\i=.int .i64 k/\wr.heap.size=w.heap.size+2+k/\Hid (Ext w wr)/\Hid (P4 wr w.heap.size x)/\Hid (tK wr (w.heap.size+1) (n+1) k (λi=>w.heap.size+2+i) x.lv x.kn)/\Hid (∀i,i<k->iT (Mx M w.heap.size (w.heap.size+3+n)) wr d' E' B (w.heap.size+2+i) x.kn (λ_=>[]) P)) (λi _=>n+1-(intOf i).toNat)
   case atStart=>exact⟨0,bu _,rfl,dI,aP,UF,Jc,λi hi=>absurd hi (Nat.not_lt_zero _)⟩
   case round=>
    clear x0 x1 x2 x3 dI aP UF Jc;obtain⟨k,hk,rfl,hsz,HE,HP,Jc,HK⟩:=hrel
    by_cases hlt:k<n+1
    ·have wE:(k:Int)<(n:Int)+1:=by omega
     clear yn Ul
     go_upto_region 5 with(fail)
     have NG:P4 wr.drew w.heap.size x:=HP.out.ext (ai wr).drew;have aZ:=ae (HE.out.trans (ai wr).drew);have qhM:=ae (Jc.out.ext (ai wr).drew);have wY:Hid (∀i,i<k->iT (Mx M w.heap.size (w.heap.size+3+n)) wr.drew d' E' B (w.heap.size+2+i) x.kn (λ_=>[]) P):=λi hi=>(HK.out i hi).ext (ai wr).drew;have K5:wr.drew.heap.size=w.heap.size+2+k:=hsz;clear HE Jc HK HP hsz;refine fB (λW=>P4 W w.heap.size x) 10 NG λhHeld=>?_;clear NG;generalize wr.drew=wd at*;refine bH [0,1,2,3,4,5,6] ?_;(iterate 7 refine bG ?_);refine bI ?_;refine aI 7 λK hK=>?_;refine qDL _ rfl _ _ _ rfl 42 i0 (.agg #[.int .i64 0,.bool false,.slice none 0 0,.slice none 0 0]) 4 Tryz.underlying34 hi hz0 hz1 .i64 .i64 x.kn rfl rfl Ud.out (by unfold maxLen;omega) ?_;have qD:=QE wd x.kn 42;have Nu:=(ai wd).alloc (.cells (madeCells (Value.agg #[.int .i64 0,.bool false,.slice none 0 0,.slice none 0 0]).cells (x.kn*4)) 42)
     have Oq:(wd.alloc (.cells (madeCells (Value.agg #[.int .i64 0,.bool false,.slice none 0 0,.slice none 0 0]).cells (x.kn*4)) 42)).heap.size=w.heap.size+2+(k+1):=by simp;omega
     rw[K5]at qD;rw[show wd.heap.size=w.heap.size+2+k from K5];generalize wd.alloc (.cells (madeCells (Value.agg #[.int .i64 0,.bool false,.slice none 0 0,.slice none 0 0]).cells (x.kn*4)) 42)=W2 at*
     try clear ak
     have ak:P4 W2 w.heap.size x:=hHeld.ext Nu;refine nx hK ak ?_;clear hK K;refine bH [8,9] ?_;(iterate 2 refine bG ?_);refine bI ?_;have qcK:=qhM.out.ext Nu;obtain⟨⟨_,k0⟩,⟨_,k1⟩,⟨_,k2⟩,⟨_,k3⟩,bn,wB⟩:=qcK.at k hlt;have jw:=bn (k*4);have ku:=bn (k*4+1);have kv:=bn (k*4+2);have oU:=bn (k*4+3);have hne:∀q,q≠w.heap.size+1->(aD W2 (w.heap.size+1) (k*4) (.int .i64 x.lv) (.bool false) (.slice none 0 0) (.slice (some ⟨w.heap.size+2+k,0,none⟩) x.kn x.kn)).heap[q]?=W2.heap[q]?:=λq hq=>fD _ _ _ _ _ _ _ _ hq;have qsN:=ae (qcK.set (lv:=x.lv) (N:=x.kn) (h:=λi=>w.heap.size+2+i));have kH:Mx M w.heap.size (w.heap.size+3+n) (w.heap.size+1):=Mx.at (by omega)
     have HK4:Hid (∀i,i<k+1->iT (Mx M w.heap.size (w.heap.size+3+n)) (aD W2 (w.heap.size+1) (k*4) (.int .i64 x.lv) (.bool false) (.slice none 0 0) (.slice (some ⟨w.heap.size+2+k,0,none⟩) x.kn x.kn)) d' E' B (w.heap.size+2+i) x.kn (λ_=>[]) P):=λi hi=>by
      by_cases fe:i=k
      ·subst fe;exact iT.fresh (qD.of_heap (hne _ (by omega)))
      ·exact((wY.out i (by omega)).ext Nu).kp (hne _ (by omega)) (Kp.aD kH _ _ _ _ _)
     have F4:Hid (P4 (aD W2 (w.heap.size+1) (k*4) (.int .i64 x.lv) (.bool false) (.slice none 0 0) (.slice (some ⟨w.heap.size+2+k,0,none⟩) x.kn x.kn)) w.heap.size x):=qpZ ak (hne _ (by omega));have jl:Hid (Ext w (aD W2 (w.heap.size+1) (k*4) (.int .i64 x.lv) (.bool false) (.slice none 0 0) (.slice (some ⟨w.heap.size+2+k,0,none⟩) x.kn x.kn))):=(aZ.out.trans Nu).aD (by omega) _ _ _ _ _
     have KW:(aD W2 (w.heap.size+1) (k*4) (.int .i64 x.lv) (.bool false) (.slice none 0 0) (.slice (some ⟨w.heap.size+2+k,0,none⟩) x.kn x.kn)).heap.size=w.heap.size+2+(k+1):=by rw[kN];exact Oq
     clear qcK bn hne kH qD Nu Oq qhM wY aZ
     (refine aI 10 λK hK=>?_);go_simp;(refine fz hK ?_);clear hK K
     clear hHeld ak;go_wp2
     go_roundw
     case rel=>exact⟨k+1,by omega,by go_num,KW,jl,F4,qsN,HK4⟩
     case measure=>simp[intOf];omega
    ·have qd5:k=n+1:=by omega
     have jy:¬(k:Int)<(n:Int)+1:=by omega
     have HI:Hid (qf M w L d' E' B n x.kn P x wr (λ_=>0)):=⟨by omega,HE.out,HP.out,by rw[<-qd5];exact qd5 ▸ Jc.out,λi hi=>(HK.out i (by omega)).congr λj _=>by rw[aj (Nat.not_lt_zero _)];exact af.refl _⟩;obtain⟨x0,x1,x2,x3⟩:=HP.out;rw[PQ.out]at x3;clear HE HP Jc HK hsz hlt Ud hkn hk qd5;go_wp2
     go_loopw [35] (λj wr=>∃k:Nat,k<=x.kn/\j=.int .i64 k/\Hid (qf M w L d' E' B n x.kn P x wr (λ_=>k))) (λj _=>x.kn-(intOf j).toNat)
     case atStart=>exact⟨0,bu _,rfl,HI⟩
     case round=>
      clear HI x0 x1 x2 x3;obtain⟨k,hk,rfl,HI⟩:=hrel
      by_cases hlt:k<x.kn
      ·obtain⟨y,hy,GU⟩:=yn.out k hlt;obtain⟨c0,c1,c2,c3⟩:=hy.ext hb HI.out.ext;have gD:b<wr.heap.size:=bB hb HI.out.ext.size;have aQ:=(ai wr).alloc (.cells (ag y) 42)
       have wE:(k:Int)<(x.kn:Int):=by omega
       have aJ:=ae (GU (Mx M w.heap.size (w.heap.size+3+n)) _ ((HI.out.mb HM.out).ext aQ) (Mx.more (aA _)) (HI.out.ext.trans aQ));have ek:=ae aQ;clear GU aQ hy Ul;go_wp2_with (fail);refine aJ.out.mono ?_;rintro e w2 ⟨g2,rfl,fE,Nz,az⟩;have wX:=ae (HI.out.grow (ek.out.trans az));have wY:=ae Nz;have qxP:w.heap.size+3+n<=g2:=aK HI.out.sz (aK ek.out.size fE);clear aJ Nz az fE ek HI c0 c1 c2 c3 gD;go_wp2
       go_loopw [45] (λj wq=>∃i:Nat,i<=n+1/\j=.int .i64 i/\Hid (qf M w L d' E' B n x.kn P x wq (λq=>if q<i then k+1 else k))/\Hid (iT (λb=>Mx M w.heap.size (w.heap.size+3+n) b\/b=g2) wq d' E' B g2 (n+1) (λi=>ck L (i:Int) (P k)) (λ_=>P k))) (λj _=>n+1-(intOf j).toNat)
       case atStart=>exact⟨0,bu _,rfl,wX.out.congr (λi _=>by rw[aj (Nat.not_lt_zero _)]),wY⟩
       case round=>
        clear wX wY;obtain⟨i,hiN,rfl,HI,HK⟩:=hrel
        by_cases rC:i<n+1
        ·obtain⟨z,hz,hzc⟩:=HK.out.cells i rC;obtain⟨c0,c1,c2,c3⟩:=hz;have rz:g2<wr.heap.size:=HK.out.lt
         have qnh:(i:Int)<(n:Int)+1:=by omega
         have hP5:=(au.aO wr (ag z) 42 4 rfl).p4;have VT:=(ai wr).alloc (.cells (ag z) 42);have Zy:=ae (HI.out.grow VT);have nD:=ae (HK.out.ext VT);have qV:Hid (iD (Mx M w.heap.size (w.heap.size+3+n)) (wr.alloc (.cells (ag z) 42)) d' E' B (.int .i64 z.lv) (.bool z.b) (.slice z.a z.n z.p) (.slice z.ka z.kn z.kp) (ck L (i:Int) (P k)) (P k)):=(hzc.more (M':=Mx M w.heap.size (w.heap.size+3+n)) (λb hb=>.inl (.inl hb))).ext VT;clear HI HK hzc VT
         go_upto_region 13 with(fail)
         generalize qG:wr.heap.size=gz at*;generalize wr.alloc (.cells (ag z) 42)=W5 at*;have vV:SCo (w.heap.size+1) (i*4+3) (w.heap.size+2+i) x.kn gz z W5.drew:=⟨(Zy.out.row.c3 (aA _) i rC),hP5⟩;have Zz:=ae (Zy.out.grow (ai W5).drew);have HK6:=ae (nD.out.ext (ai W5).drew);have MC:=ae (qV.out.ext (ai W5).drew);clear Zy nD qV hP5 c0 c1 c2 c3;refine fB (SCo (w.heap.size+1) (i*4+3) (w.heap.size+2+i) x.kn gz z) 8 vV λhHeld=>?_;clear vV;generalize W5.drew=wd at*
         have hkI:(k:Int)<(x.kn:Int):=by omega
         refine bH [0,1,2,3,4,5,6,7] ?_;(iterate 8 refine bG ?_ (hy:=by intro wS hSw;obtain⟨S0,S1,S2,S3,S4⟩:=hSw;go_simp;try with_reducible rfl));refine bI ?_;obtain⟨⟨_,k0⟩,⟨_,k1⟩,⟨_,k2⟩,⟨_,k3⟩,bn,wB⟩:=(Zz.out.kids i rC).at k hlt;have jw:=bn (k*4);have ku:=bn (k*4+1);have kv:=bn (k*4+2);have oU:=bn (k*4+3)
         have HI7:Hid (qf M w L d' E' B n x.kn P x (aD wd (w.heap.size+2+i) (k*4) (.int .i64 z.lv) (.bool z.b) (.slice z.a z.n z.p) (.slice z.ka z.kn z.kp)) (λq=>if q<i+1 then k+1 else k)):=by
          refine(Zz.out.store i rC k hlt (by rw[aj (Nat.lt_irrefl _)]) MC.out).congr λq hq=>?_
          by_cases h3:q=i
          ·rw[av h3,av (by omega)]
          ·rw[aj h3]
           by_cases h4:q<i
           ·rw[av h4,av (by omega)]
           ·rw[aj h4,aj (by omega)]
         have Uw:Hid (iT (λb=>Mx M w.heap.size (w.heap.size+3+n) b\/b=g2) (aD wd (w.heap.size+2+i) (k*4) (.int .i64 z.lv) (.bool z.b) (.slice z.a z.n z.p) (.slice z.ka z.kn z.kp)) d' E' B g2 (n+1) (λi=>ck L (i:Int) (P k)) (λ_=>P k)):=HK6.out.kp (fD _ _ _ _ _ _ _ _ (by omega)) (Kp.aD (.inl (Mx.at (by omega))) _ _ _ _ _);clear bn Zz HK6 MC
         (refine aI 8 λK hK=>?_);go_simp;(refine fz hK ?_);clear hK K
         clear hHeld
         try clear ak
         go_wp2
         go_roundw
         case rel=>exact⟨i+1,by omega,by go_num,HI7,Uw⟩
         case measure=>simp[intOf];omega
        ·obtain rfl:i=n+1:=by omega
         have HI8:Hid (qf M w L d' E' B n x.kn P x wr (λ_=>k+1)):=HI.out.congr λq hq=>by rw[av hq]
         clear HI HK;go_wp2
         go_roundw
         case rel=>exact⟨k+1,by omega,by go_num,HI8⟩
         case measure=>simp[intOf];omega
      ·obtain rfl:k=x.kn:=by omega
       have HF:=ae (Ul.out _ _ HI.out λ_ _=>rfl);clear HI yn Ul;go_wp2;exact aV (v:=.slice (some ⟨w.heap.size+1,0,none⟩) (n+1) (n+1)) (by simp[results,Tryz.results131,go_sem]) rfl HF.out
theorem qAA(L:Nat)(yS:1<=L)(vT:L<=4)(E:Nat):YG L E:=by
 induction E using Nat.strongRecOn with
 |_ E ih=>exact quI L yS vT E λE' hE=>ih E' hE
theorem Ij{M:Nat->Prop}{w:World}{g:Nat}(h:Mb M w)(hg:g<w.heap.size):Mb (λb=>M b\/b=g) w:=λb hb=>hb.elim (h b) λe=>by rw[e];exact hg
def rU(M:Nat->Prop)(w:World)(B g N k:Nat)(S:Nat->List Tm)(R:List Tm):Prop:=∃f,au w g 42 (N*4) f/\∀i,i<N->(i<k->CR M w 4 (f (i*4)) (f (i*4+1)) (f (i*4+2)) (f (i*4+3)) (S i))/\(k<=i->iD M w 4 4 B (f (i*4)) (f (i*4+1)) (f (i*4+2)) (f (i*4+3)) (S i) R)
section
variable{M:Nat->Prop}{w w':World}{B g N k:Nat}{S:Nat->List Tm}{R:List Tm}
theorem rU.ext(h:rU M w B g N k S R)(he:Ext w w'):rU M w' B g N k S R:=by
 obtain⟨f,h1,h2⟩:=h;exact⟨f,h1.ext he,λi hi=>⟨λh=>((h2 i hi).1 h).ext he,λh=>((h2 i hi).2 h).ext he⟩⟩
theorem rU.start(h:iT M w 4 4 B g N S (λ_=>R)):rU M w B g N 0 S R:=by
 obtain⟨f,h1,h2⟩:=h;exact⟨f,h1,λi hi=>⟨λh=>absurd h (Nat.not_lt_zero _),λ_=>h2 i hi⟩⟩
theorem rU.done(h:rU M w B g N N S R):Kids M w 4 g N S:=by
 obtain⟨f,h1,h2⟩:=h;exact⟨f,h1,λi hi=>(h2 i hi).1 hi⟩
theorem rU.at(h:rU M w B g N k S R)(j:Nat)(hj:j<N):(∃e,w.cell? ⟨g,j*4,none⟩=some e)/\(∃e,w.cell? ⟨g,j*4+1,none⟩=some e)/\(∃e,w.cell? ⟨g,j*4+2,none⟩=some e)/\(∃e,w.cell? ⟨g,j*4+3,none⟩=some e)/\(∀o,w.frozen? ⟨g,o,none⟩=false)/\g<w.heap.size:=by
 obtain⟨f,h1,h2⟩:=h;exact⟨⟨_,h1.cell (by omega)⟩,⟨_,h1.cell (by omega)⟩,⟨_,h1.cell (by omega)⟩,⟨_,h1.cell (by omega)⟩,h1.frozen,h1.lt⟩
theorem rU.next(h:rU M w B g N k S R)(hk:k<N):∃y:PE,eF w g (k*4) y/\iD M w 4 4 B (.int .i64 y.lv) (.bool y.b) (.slice y.a y.n y.p) (.slice y.ka y.kn y.kp) (S k) R:=by
 obtain⟨f,hB,hc⟩:=h;have hx:=(hc k hk).2 (aA _);obtain⟨x,e0,e1,e2,e3⟩:=hx.pe;rw[e0,e1,e2,e3]at hx;refine⟨x,⟨?_,?_,?_,?_⟩,hx⟩
 ·rw[hB.cell (by omega),e0]
 ·rw[hB.cell (by omega),e1]
 ·rw[hB.cell (by omega),e2]
 ·rw[hB.cell (by omega),e3]
theorem rU.set(h:rU M w B g N k S R)(hg:M g)(hk:k<N){e0 e1 e2 e3:Value}(hc:CR M w 4 e0 e1 e2 e3 (S k)):rU M (aD w g (k*4) e0 e1 e2 e3) B g N (k+1) S R:=by
 obtain⟨f,h1,h2⟩:=h;refine⟨_,h1.aD (k*4) e0 e1 e2 e3,λi hi=>?_⟩;have aT:Kp M w (aD w g (k*4) e0 e1 e2 e3):=Kp.aD hg _ _ _ _ _
 by_cases eD:i=k
 ·subst eD;rw[D6,D7,D8,D9];exact⟨λ_=>hc.kp aT,λh=>by omega⟩
 ·rw[sN _ _ _ _ _ _ _ (by omega),sN _ _ _ _ _ _ _ (by omega),sN _ _ _ _ _ _ _ (by omega),sN _ _ _ _ _ _ _ (by omega)];exact⟨λh=>((h2 i hi).1 (by omega)).kp aT,λh=>((h2 i hi).2 (by omega)).kp aT⟩
end
def MH(M:Nat->Prop)(w:World)(l:List Tm)(L:Int)(e:Ending)(w':World):Prop:=
 ((af l []/\e=.returned (.slice none 0 0))\/(¬af l []/\¬(1<=L/\L<=4)/\∃g,e=.returned (.slice (some ⟨g,0,none⟩) 1 1)/\w.heap.size<=g/\Kids (λb=>M b\/b=g) w' 4 g 1 (λ_=>l))\/
  (¬af l []/\∃K n g:Nat,L=K/\1<=K/\K<=4/\e=.returned (.slice (some ⟨g,0,none⟩) (n+1) (n+1))/\w.heap.size<=g/\dJ K l n/\Kids (λb=>M b\/b=g) w' 4 g (n+1) (λi=>ck K (i:Int) l)))/\Ext w w'
theorem XI(M:Nat->Prop)(x:PE)(l:List Tm)(L:Int)(B:Nat)(w:World)(hM:Mb M w)(h:PI M w x l)(hB:bE B l)(gY:(B+1)^4<=1099511627776)(bJ:B+1<=1073741824)(hR:aF (aB l)<=1099511627776):Calls Tryz.prog 99 #[.agg (ag x),.int .i64 L] w (MH M w l L):=by
 have hE:=(ai w).alloc (.cells (ag x) 42);have kg:=au.aO w (ag x) 42 4 rfl;have dz:Mb (Mx M w.heap.size (w.heap.size+1)) (w.alloc (.cells (ag x) 42)):=Mx.mb hM (by simp) (by simp);have h2:=(h.more (M':=Mx M w.heap.size (w.heap.size+1)) (Mx.more (aA _))).ext hE;have HI:=ae h2;have l5:=ae hB;have wP:=ae gY;have HR:=ae hR;have cK:=ae bJ;clear h h2 hB gY hR bJ
 go_enter Tryz.func99,Tryz.ntmps99
 go_wp2_with (fail);refine(Iz _ x l _ dz HI.out).mono ?_;rintro e w1 ⟨y,rfl,hy,ah⟩;have dF:=hE.trans ah;have bA:=kg.ext ah;have jr:=dz.ext ah;obtain⟨⟨q0,q1,q2,q3⟩,⟨f0,f1,f2,f3⟩,⟨r0,r1,r2,r3⟩,hk,hf⟩:=Ah (M':=Mx M w.heap.size (w.heap.size+1)) (w:=w) (.int .i64 y.lv) (.bool y.b) (.slice y.a y.n y.p) (.slice y.ka y.kn y.kp) bA (Mx.at (by omega)) (aA _) dF;have HY:=ae (hy.kp hk);have oL:Mb (Mx M w.heap.size (w.heap.size+1)) (aD w1 w.heap.size 0 (.int .i64 y.lv) (.bool y.b) (.slice y.a y.n y.p) (.slice y.ka y.kn y.kp)):=jr.size hk.1;have Dl:=bA.lt;have Ff:w.heap.size<(aD w1 w.heap.size 0 (.int .i64 y.lv) (.bool y.b) (.slice y.a y.n y.p) (.slice y.ka y.kn y.kp)).heap.size:=bB Dl hk.1;clear q0 q1 q2 q3;obtain⟨q0,q1,q2,q3⟩:=bA.p4;generalize hW:aD w1 w.heap.size 0 (.int .i64 y.lv) (.bool y.b) (.slice y.a y.n y.p) (.slice y.ka y.kn y.kp)=W at r0 r1 r2 r3 hf HY oL Ff;unfold aD at hW;have HW:=ae hW;have tJ:=ae hf;have HM:=ae oL;have HP:Hid (P4 W w.heap.size y):=⟨r0,r1,r2,r3⟩;clear kg dz ah hE bA jr hy HI hk hf oL dF hW Dl hM
 go_upto_region 2 with(fail)
 rw[HW.out];clear q0 q1 q2 q3 f0 f1 f2 f3 HW;have CZ:=ae (Iy _ y l W HM.out HY.out.pi);go_wp2_with (fail);refine CZ.out.mono ?_;rintro e w2 ⟨bz,rfl,pM,az⟩;have aZ:=ae (tJ.out.trans az);have jP:=ae pM;have qw:=ae (HY.out.ext az);have dG:=ae (HP.out.ext az);have iQ:=ae (HM.out.ext az);clear pM az CZ tJ HY HP r0 r1 r2 r3 HM Ff
 cases bz with
 |true=>
  have HF:Hid (MH M w l L (.returned (.slice none 0 0)) w2):=⟨.inl ⟨jP.out.1 rfl,rfl⟩,aZ.out⟩;clear jP aZ qw dG;go_wp2;exact aV (v:=.slice none 0 0) (by simp[results,Tryz.results99,go_sem]) rfl HF.out
 |false=>
  have HZ:Hid (¬af l []):=λhs=>by have:=jP.out.2 hs;cases this
  clear jP;have CL:=ae (Tj L w2);go_wp2_with (fail);refine CL.out.mono ?_;rintro e w3 ⟨rfl,rfl⟩
  by_cases hl:1<=L/\L<=4
  ·have oh:eH L=true:=by unfold eH;simp[hl]
   obtain⟨J,rfl⟩:∃J:Nat,L=J:=⟨L.toNat,by omega⟩;have HK:Hid (1<=J/\J<=4):=⟨by omega,by omega⟩;have qni:=dM _ _ dG.out.1;have Mw:=ae (qw.out.ext (ai w2).drew);have mf:=ae (iQ.out.ext (ai w2).drew);have dK:=ae (aZ.out.trans (ai w2).drew);have Kj:=dG.out.ext (ai w2).drew;clear hl CL aZ dG qw iQ
   go_upto_region 6 with(fail)
   refine fB (λW=>P4 W w.heap.size y) 7 Kj λhHeld=>?_;clear Kj;generalize w2.drew=wd at*;refine bH [0,1,2,3] ?_;(iterate 4 refine bG ?_);refine bI ?_
   (refine aI 4 λK hK=>?_);go_simp;(refine(qpf J HK.out.1 HK.out.2 4 _ l y _ Mw.out).mono ?_);rintro e_ w4 ⟨n,rfl,hn,dY,e4⟩;go_wp2_with (fail);(try clear ak);(refine ny hK (hHeld.ext e4) λak=>?_);clear hK K
   have KQ:n<=B:=by
    rcases hn.2 with h0|⟨m,hm,hg⟩
    ·omega
    ·have:=l5.out m hm J;omega
   have hB2':=cK.out;have jK:=ae hn
   have Og:(n:Int)+1<=1099511627776:=by omega
   (refine aI 5 λK hK=>?_);go_simp;(refine(qAA J HK.out.1 HK.out.2 4 4 (aA _) _ l y n B _ (mf.out.ext e4) (Mw.out.ext e4) l5.out jK.out.1 (by omega)).mono ?_);rintro e_ w5 ⟨g,rfl,hg,E9,e5⟩;go_wp2_with (fail);(try clear ak);(refine ny hK (hHeld.ext (e4.trans e5)) λak=>?_);clear hK K
   refine bH [6] ?_;(iterate 1 refine bG ?_);refine bI ?_;refine kP ?_;have HX:Hid (rU (λb=>Mx M w.heap.size (w.heap.size+1) b\/b=g) w5 B g (n+1) 0 (λi=>ck J (i:Int) l) l):=rU.start E9;have cZ:=ae (dK.out.trans (e4.trans e5));have rz:w.heap.size<g:=bB (mf.out.ext e4 _ (Mx.at ⟨aA _,Nat.lt_succ_self _⟩)) hg;have dQ:=ae (Ij ((mf.out.ext e4).ext e5) E9.lt);clear hHeld ak E9 e4 e5 hg hn dY Mw mf dK l5 KQ qni oh;go_wp2
   go_loopw [26] (λi wr=>∃k:Nat,k<=n+1/\i=.int .i64 k/\Hid (rU (λb=>Mx M w.heap.size (w.heap.size+1) b\/b=g) wr B g (n+1) k (λi=>ck J (i:Int) l) l)/\Hid (Ext w wr)/\Hid (Mb (λb=>Mx M w.heap.size (w.heap.size+1) b\/b=g) wr)) (λi _=>n+1-(intOf i).toNat)
   case atStart=>exact⟨0,bu _,rfl,HX,cZ,dQ⟩
   case round=>
    clear HX cZ dQ;obtain⟨k,hk,rfl,HX,HE,dQ⟩:=hrel
    by_cases hlt:k<n+1
    ·have wE:(k:Int)<(n:Int)+1:=by omega
     have gK:=ae hlt;obtain⟨z,⟨c0,c1,c2,c3⟩,hz⟩:=HX.out.next hlt;have lu:g<wr.heap.size:=(HX.out.at k hlt).2.2.2.2.2;have CN:=ae (Iz _ z _ wr dQ.out (hz.pi (by omega) wP.out (by omega) HR.out));clear hz;go_wp2_with (fail);refine CN.out.mono ?_;rintro e w6 ⟨v,rfl,hv,fM⟩;have hX6:=HX.out.ext fM;obtain⟨⟨_,k0⟩,⟨_,k1⟩,⟨_,k2⟩,⟨_,k3⟩,bn,bK⟩:=hX6.at k hlt;have jw:=bn (k*4);have ku:=bn (k*4+1);have kv:=bn (k*4+2);have oU:=bn (k*4+3);have HX7:=ae (hX6.set (.inr rfl) hlt hv);have rP:=ae ((HE.out.trans fM).aD (g:=g) (by omega) (k*4) (.int .i64 v.lv) (.bool v.b) (.slice v.a v.n v.p) (.slice v.ka v.kn v.kp));have zW:Hid (Mb (λb=>Mx M w.heap.size (w.heap.size+1) b\/b=g) (aD w6 g (k*4) (.int .i64 v.lv) (.bool v.b) (.slice v.a v.n v.p) (.slice v.ka v.kn v.kp))):=(dQ.out.ext fM).size (by rw[kN];exact aA _);clear hX6 bn hv fM CN HX HE dQ c0 c1 c2 c3 lu;go_wp2
     go_roundw
     case rel=>exact⟨k+1,gK.out,by go_num,HX7,rP,zW⟩
     case measure=>have:=gK.out;simp[intOf];omega
    ·have hkn:k=n+1:=by omega
     have jy:¬(k:Int)<(n:Int)+1:=by omega
     have HF:Hid (MH M w l J (.returned (.slice (some ⟨g,0,none⟩) (n+1) (n+1))) wr):=by
      refine⟨.inr (.inr ⟨HZ.out,J,n,g,rfl,HK.out.1,HK.out.2,rfl,by omega,jK.out,?_⟩),HE.out⟩;have h5:=HX.out;rw[hkn]at h5;exact h5.done.more λb hb=>hb.elim (λh=>.inl (.inl (.inl h))) (λh=>.inl (.inr h))
     clear HX HE dQ hkn;go_wp2;exact aV (v:=.slice (some ⟨g,0,none⟩) (n+1) (n+1)) (by simp[results,Tryz.results99,go_sem]) rfl HF.out
  ·have oh:eH L=false:=by unfold eH;simp only[decide_eq_false_iff_not];exact hl
   have qni:=dM _ _ dG.out.1;obtain⟨r0,r1,r2,r3⟩:=dG.out;have bR:=au.aO w2 (ag y) 42 4 rfl;have hEk:=(ai w2).alloc (.cells (ag y) 42)
   have HF:Hid (MH M w l L (.returned (.slice (some ⟨w2.heap.size,0,none⟩) 1 1)) (w2.alloc (.cells (ag y) 42))):=by
    refine⟨.inr (.inl ⟨HZ.out,hl,_,rfl,aZ.out.size,?_⟩),aZ.out.trans hEk⟩;refine⟨_,bR,λi hi=>?_⟩
    obtain rfl:i=0:=by omega
    exact((qw.out.more (M':=λb=>M b\/b=w2.heap.size) (λb hb=>hb.elim (λh=>.inl (.inl h)) (λh=>.inr (by omega)))).ext hEk:aG (λb=>M b\/b=w2.heap.size) _ 4 y l)
   clear bR hEk aZ qw dG hl HZ CL iQ;go_wp2;exact aV (v:=.slice (some ⟨w2.heap.size,0,none⟩) 1 1) (by simp[results,Tryz.results99,go_sem]) rfl HF.out
end Go.Proofs.YtaafefeafonhdaaGreat
