/- Lemmas for the law: E45 E46 E50 M17 M18 M19 E54 M20 E68 -/
import Derived.BigQuiet
import Derived.Laws.StructEq
import Derived.Deep.CutRange
import Derived.Deep.LoopGhost
import Derived.Test.YtcgjmdpcplhanaaGreatZs17
namespace Go.Proofs.YtcgjmdpcplhanaaGreat
section
theorem Ds{p q:Prop}(h:q)(f:Wq q->p:=by(intro hW;((first|refine fo rfl rfl rfl ai Es ai ai ?_|((try refine bf ?_);refine aL1 rfl rfl rfl Es ?_)));exact hW.out)):p:=f ⟨h⟩
theorem zs156{p q:Prop}(h:q)(f:Wq q->p:=by(intro hW;((first|(refine aLs rfl rfl rfl rfl ?_ ?_;(focus(apply bz;(conv=>lhs;whnf);(first|done|exact rfl|(apply br;(first|(apply aD;omega)|(apply aG;omega)|assumption|(simp;done)))))))|refine aLw rfl rfl rfl rfl cI BC ?_));exact hW.out)):p:=f ⟨h⟩
theorem Qv{p q:Prop}(h:q)(f:Wq q->p:=by(intro hW;(refine rH ?_;refine zs7 ?_;refine zs4 ?_;refine zC ?_;refine jO ?_;refine vJ ?_;refine mu ?_;refine zs4 ?_;refine zs156 ?_;refine jO ?_);exact hW.out)):p:=f ⟨h⟩
theorem zs157{p q:Prop}(h:q)(f:Wq q->p:=by(intro hW;((first|(refine aLs rfl rfl rfl rfl ?_ ?_;(focus(apply bz;(conv=>lhs;whnf);(first|done|exact rfl|(apply br;(first|(apply aD;omega)|(apply aG;omega)|assumption|(simp;done)))))))|refine aLw rfl rfl rfl rfl cI (by(apply mj;(exact rfl);(focus((apply aE;(conv=>lhs;whnf);(first|done|exact rfl))));(focus((first|exact op_zero|exact rfl)));(exact rfl);(exact rfl);(focus((first|exact fail)));(exact rfl))) ?_));exact hW.out)):p:=f ⟨h⟩
theorem QK{p q:Prop}(h:q)(f:Wq q->p:=by(intro hW;(refine Qv ?_;refine zs157 ?_;refine mu ?_;refine aQ ?_);exact hW.out)):p:=f ⟨h⟩
theorem zw{p q:Prop}(h:q)(f:Wq q->p:=by(intro hW;(refine nO ?_;refine zs5 ?_;refine vK ?_;refine ff ?_;refine Ej ?_;refine aQ ?_);exact hW.out)):p:=f ⟨h⟩
theorem rK{p q:Prop}(h:q)(f:Wq q->p:=by(intro hW;(refine gar ?_;refine ff ?_;refine ff ?_;refine kU ?_;refine cT ?_);exact hW.out)):p:=f ⟨h⟩
theorem zs158{p q:Prop}(h:q)(f:Wq q->p:=by(intro hW;((first|(refine aLs rfl rfl rfl rfl ?_ ?_;(focus(apply bz;(conv=>lhs;whnf);(first|done|exact rfl|(apply br;(first|(apply aD;omega)|(apply aG;omega)|assumption|(simp;done)))))))|refine aLw rfl rfl rfl rfl cI zb35 ?_));exact hW.out)):p:=f ⟨h⟩
theorem QJ{p q:Prop}(h:q)(f:Wq q->p:=by(intro hW;(refine Qv ?_;refine zs158 ?_;refine mu ?_;refine aQ ?_);exact hW.out)):p:=f ⟨h⟩
end
section
open Go.RowKit
namespace DW
set_option maxRecDepth 20000
set_option maxHeartbeats 2000000
def vck(dim:Int)(l:List Int)(d:Int):Int:=if(l.length:Int)=dim then(if d<1\/1000000000000000<d\/l.any big=true then 2 else 0)else 9
theorem Wk(z:Int):Fn Tryz.prog 170 [zI z] (.sc (.bool (big z))):=by
 have WI:=PN z 1000000000000000 aa aa;unfold big;refine bg Tryz.func170 ah rfl rfl rfl fun X0=>?_;simp only[aP];refine nF ?_;refine cE ?_;refine RQ ?_;refine nD ?_;refine cn ?_;exact⟨_,Sh.refl,.one (.tmp 2) _ rfl (.tmp 2 rfl)⟩
theorem Wl(g:Nat)(p:Int->Bool)(l:List Int)(hl:l.length<=1000000000)(hg:∀z,Fn Tryz.prog g [zI z] (.sc (.bool (p z)))):Fn Tryz.prog 89 [dI l,dFn g] (.sc (.bool (l.any p))):=by
 refine⟨enters_of Tryz.func89 ah rfl,fun X w vs hX hv=>?_⟩;simp only[ATp]at hv;obtain⟨v1,r1,e1,h1,v2,r2,e2,h2,rfl⟩:=hv;simp only[AR]at h2;obtain⟨rfl,_⟩:=h2;subst e2;obtain⟨a,c,rfl,_,hz⟩:=Jk h1;have:vs= #[.slice a l.length c,.func (.func g) #[] #[]]:=cM.1 e1;subst this;refine(G2 l a c hl g p (hg 0).1 (fun x w=>?_) w hz).mono fun e w' ⟨h1,h2⟩=>⟨_,h1,by simp only[AR];exact⟨trivial,rfl⟩,h2⟩;refine((hg x).2 (fun _=>False) w #[.int .i64 x] (fun _ h=>h.elim) (by simp only[ATp];exact⟨_,[],rfl,G1 x,rfl⟩)).mono fun e w' ⟨u,k1,k2,k3⟩=>⟨?_,k3⟩;simp only[AR]at k2;rw[k1,k2.1]
theorem Vz(dim den d:Int)(m:Mx.Mat)(l:List Int)(hl:l.length<=1000000):Fn Tryz.prog 125 [dL dim m den,dV l d] (zI (vck dim l d)):=by
 have AN:=Wl 170 big l aa Wk;by_cases h1:(l.length:Int)=dim
 ·have hd1:(!decide ((l.length:Int)=dim))=false:=by rw[aD h1];rfl
  by_cases h2:d<1
  ·have hd2:decide (d<1)=true:=aD h2;have EC:vck dim l d=2:=by unfold vck;rw[an h1,an (.inl h2)]
   refine bg Tryz.func125 ah rfl rfl rfl fun X0=>?_;simp only[aP];refine nN ?_;refine zw ?_;refine bR ?_;refine QK ?_;refine nJ ?_;rw[EC];exact⟨_,Sh.refl,.one (.tmp 4) _ rfl (.tmp 4 rfl)⟩
  ·have hd2:decide (d<1)=false:=aG h2;by_cases h3:1000000000000000<d
   ·have hd3:decide (d>1000000000000000)=true:=aD h3;have EC:vck dim l d=2:=by unfold vck;rw[an h1,an (.inr (.inl h3))]
    refine bg Tryz.func125 ah rfl rfl rfl fun X0=>?_;simp only[aP];refine nN ?_;refine zw ?_;refine bR ?_;refine QK ?_;refine nJ ?_;rw[EC];exact⟨_,Sh.refl,.one (.tmp 4) _ rfl (.tmp 4 rfl)⟩
   ·have hd3:decide (d>1000000000000000)=false:=aG h3;have EC:vck dim l d=if l.any big=true then 2 else 0:=by
     unfold vck;rw[an h1];by_cases h4:l.any big=true
     ·rw[an (.inr (.inr h4)),an h4]
     ·rw[aj h4,aj (by rintro(h|h|h)<;>first|omega|exact h4 h)]
    cases hb:l.any big
    ·rw[hb]at AN EC;refine bg Tryz.func125 ah rfl rfl rfl fun X0=>?_;simp only[aP];refine nN ?_;refine zw ?_;refine bR ?_;refine QJ ?_;refine nL ?_;rw[EC];exact⟨_,Sh.refl,.one (.tmp 4) _ rfl (.tmp 4 rfl)⟩
    ·rw[hb]at AN EC;refine bg Tryz.func125 ah rfl rfl rfl fun X0=>?_;simp only[aP];refine nN ?_;refine zw ?_;refine bR ?_;refine QJ ?_;refine nJ ?_;rw[EC];exact⟨_,Sh.refl,.one (.tmp 4) _ rfl (.tmp 4 rfl)⟩
 ·have hd1:(!decide ((l.length:Int)=dim))=true:=by rw[aG h1];rfl
  have EC:vck dim l d=9:=aj h1;refine bg Tryz.func125 ah rfl rfl rfl fun X0=>?_;simp only[aP];refine nN ?_;refine zw ?_;refine nJ ?_;rw[EC];exact⟨_,Sh.refl,.one (.tmp 4) _ rfl (.tmp 4 rfl)⟩
end DW
end
section
open Go.RowKit
namespace DW
set_option maxRecDepth 20000
set_option maxHeartbeats 2000000
theorem VD(dim den d dl:Int)(m R:Mx.Mat)(l o:List Int)(b:Bool)(CK:Fn Tryz.prog 33 [dL dim m den] (zI 0))(CV:Fn Tryz.prog 125 [dL dim m den,dV l d] (zI 0))(RD:Fn Tryz.prog 87 [dL dim m den] (dF dim R dl))(CO:Fn Tryz.prog 126 [dF dim R dl,dV l d] (.tp [dZ o,.sc (.bool b)])):Fn Tryz.prog 50 [dL dim m den,dV l d] (.tp [.sc (.bool b),zI 0]):=by
 refine bg Tryz.func50 ah rfl rfl rfl fun X0=>?_;simp only[aP];refine zs2 ?_;refine iy ?_;refine uy ?_;refine uu ?_;refine jw ?_;refine eX ?_;refine kZ ?_;refine jN ?_;refine rK ?_;refine jN ?_;refine JA ?_;refine eJ ?_;refine vL ?_;refine eJ ?_;refine oK ?_;refine ib ?_;refine Ds ?_;refine Ds ?_;refine El ?_;refine pn ?_;refine kX ?_;refine zs6 ?_;refine jw ?_;refine eX ?_;exact⟨_,Sh.refl,.two (.tmp 4) (.tmp 5) _ _ rfl (.tmp 4 rfl) (.tmp 5 rfl)⟩
theorem Sp{n:Nat}{m:Mx.Mat}{den:Int}(hR:Mx.Rc n m)(hd:0<den):∀r∈nR n m den,r.all (fun z=>decide (z=0))=false:=fun r hr=>by
 have hnn:=Mx.fX hR hd;have h:=Mx.KL hnn.2.2.2.1;rw[hnn.1]at h;exact h r hr
end DW
end
section
open Go.RowKit
namespace DW
set_option maxRecDepth 20000
set_option maxHeartbeats 4000000
theorem yZ{X:Nat}{row:List Int}(h:∀x∈row,x.natAbs<=X)(j:Nat):(row.getD j 0).natAbs<=X:=by
 rw[aq]
 cases hg:row[j]? with
 |none=>exact aO _
 |some x=>exact h x (bj hg)
end DW
end
section
namespace Mx
theorem tS{n:Nat}{M:Mat}(h:Rc n M):(red n 0 (0,M)).1<=n:=by
 obtain⟨pv,he⟩:=iJ n 0 (0,M) id h (gL M);rw[bw]at he;generalize(red n 0 (0,M)).1=r at*;have:∀i,i<r->i<=pv i:=fun i=>by
  induction i with
  |zero=>intro _;omega
  |succ i ih=>
   intro hi;have h1:=ih aa;have h2:=he.mono i (i+1) aa hi;omega
 by_cases h0:r=0
 ·omega
 ·have h1:=this (r-1) aa;have h2:=he.lt (r-1) aa;omega
theorem AS{n:Nat}{M:Mat}(h:Rc n M)(d:Int):(nR n M d).length<=n:=by
 unfold nR nH;rw[fi,aY];have:=tS h;omega
theorem P0{n:Nat}{R:Mat}(hR:Rc n R)(hl:R.length=n)(hN:nH n R=R):D n (at' R)≠0:=by
 obtain⟨pv,he⟩:=iJ n 0 (0,R) id hR (gL R);rw[bw]at he;have hlen:=(eh n 0 (0,R) hR).len;have hr:(red n 0 (0,R)).1=n:=by
  have h1:=jS List.length hN;unfold nH at h1;rw[aY]at h1;have:=he.le;omega
 have hX:(red n 0 (0,R)).2=R:=by
  have h2:(red n 0 (0,R)).2.take (red n 0 (0,R)).1=R:=hN;rw[hr,cf (by rw[hlen];show R.length<=n;omega)]at h2;exact h2
 rw[hr,hX]at he;have lo:∀i,i<n->i<=pv i:=fun i=>by
  induction i with
  |zero=>intro _;omega
  |succ i ih=>
   intro hi;have h1:=ih aa;have h2:=he.mono i (i+1) aa hi;omega
 have up:∀d i,i+d+1=n->pv i<=i:=fun d=>by
  induction d with
  |zero=>intro i hi;have:=he.lt i aa;omega
  |succ d ih=>
   intro i hi;have h1:=ih (i+1) aa;have h2:=he.mono i (i+1) aa aa;omega
 have pvi:∀i,i<n->pv i=i:=fun i hi=>by
  have h1:=lo i hi;have h2:=up (n-1-i) i aa;omega
 have h:=Ef n (at' R) (fun i j hj hi=>he.zl i hi j (by rw[pvi i hi];exact hj)) fun i hi=>by
  have:=he.pos i hi;rw[pvi i hi]at this;omega
 omega
end Mx
end
section
namespace Mx
theorem Tc(m:Nat)(f:Nat->Nat->Int):D (m+1) f=sm (m+1) fun k=>sg k*f k 0*D m fun i j=>f (skip k i) (j+1):=by
 rw[Lx];show sm (m+1) (fun k=>sg k*f k 0*D m fun i j=>f (skip k j) (i+1))=_;refine bG _ _ _ fun k _=>?_;rw[Lx m]
theorem Ib(f:Nat->Int)(a:Nat):∀b,(∀k,a<=k->k<a+b->f k=0)->sm (a+b) f=sm a f
 |0,_=>rfl
 |b+1,h=>by
  show sm (a+b) f+f (a+b)=_;rw[h (a+b) aa aa,vX,Ib f a b fun k h1 h2=>h k h1 aa]
theorem Ju(b:Nat):∀(a:Nat) (f:Nat->Nat->Int),(∀i j,a<=i->i<a+b->j<a->f i j=0)->D (a+b) f=D a f*D b fun i j=>f (a+i) (a+j)
 |0,f,_=>by
  show D (0+b) f=1*D b fun i j=>f (0+i) (0+j);rw[jy];simp only[bw]
 |a+1,f,h=>by
  rw[show a+1+b=(a+b)+1 by omega,Tc,Tc a,show a+b+1=(a+1)+b by omega,Ib _ (a+1) b fun k h1 h2=>by rw[h k 0 h1 aa aa,dv,pD],fq,<-kE];refine bG _ _ _ fun k hk=>?_;rw[Ju b a (fun i j=>f (skip k i) (j+1)) fun i j h1 h2 h3=>by
   have:skip k i=i+1:=by unfold skip;rw[aj aa]
   rw[this];exact h _ _ aa aa aa]
  have e:D b (fun i j=>f (skip k (a+i)) (a+j+1))=D b fun i j=>f (a+1+i) (a+1+j):=fV b _ _ fun i j _ _=>by
   have:skip k (a+i)=a+1+i:=by unfold skip;rw[aj aa];omega
   rw[this,show a+j+1=a+1+j by omega]
  rw[e];simp only[eE,tB,fq]
def dpr(f:Nat->Nat->Int):Nat->Int
 |0=>1
 |n+1=>dpr f n*f n n
theorem WL(f:Nat->Nat->Int):D 1 f=f 0 0:=by
 show(0:Int)+sg 0*f 0 0*1=_;rw[xC,Int.zero_add];show(1:Int)*_=_;rw[jy]
theorem Ct:∀(n:Nat) (f:Nat->Nat->Int),(∀i j,j<i->i<n->f i j=0)->D n f=dpr f n
 |0,_,_=>rfl
 |n+1,f,h=>by
  rw[Ju 1 n f fun i j h1 h2 h3=>h i j aa aa,Ct n f fun i j h1 h2=>h i j h1 aa,WL];rfl
end Mx
end
section
namespace Mx
theorem N1{n X Q:Nat}{r c:Nat}{M:Mat}(h:Rc n M)(hr:r<M.length)(hb:BdL r X M)(hq:∀i,r+1<=i->i<M.length->(at' M i c/at' M r c).natAbs<=Q){k:Nat}(hk:r+1+k<=M.length):BdL r (X*(Q+1)) (ba r c (r+1) M k):=fun i j hi=>by
 rw[iu h hr hk];have h1:=hb i j hi;have h2:X<=X*(Q+1):=eQ X (Nat.succ_pos Q);split
 ·rename_i h3;have h4:=hq i h3.1 aa;have h5:=hb r j (af _);have h6:(at' M i c/at' M r c*at' M r j).natAbs<=Q*X:=by
   rw[gG];exact cr h4 h5
  rw[bs]at h6;rw[gA,fH];omega
 ·omega
def Jl(K r c:Nat)(M:Mat):Prop:=∃X O i0,BdL r X M/\X<=K/\r<=i0/\i0<M.length/\(at' M i0 c).natAbs=O/\(∀i,r<=i->i<M.length->i≠i0->0<=at' M i c/\at' M i c<(O:Int))/\
 ∀t,(pick r c M).1=some t->(pick r c M).2≠1->X*O*O*(at' M t c).natAbs*(if at' M i0 c<0 then 3 else 1)<=K
def Jnl(K r c:Nat)(M:Mat):Prop:=(∃X,1<=X/\BdL r X M/\6*X^5<=K)\/Jl K r c M
theorem Nq{K r c:Nat}{M:Mat}(h:Jnl K r c M):BdL r K M:=by
 rcases h with⟨X,h1,h2,h3⟩|⟨X,O,i0,h1,h2,_⟩
 ·exact h2.mono (by have:=IE h1;omega)
 ·exact h1.mono h2
theorem yH{n K r c t X Q:Nat}{M:Mat}(h:Rc n M)(R:Round r c t M)(hb:BdL r X M)(hq:∀j,r<=j->j<M.length->j≠t->(at' M j c/at' M t c).natAbs<=Q)(hK:X*(Q+1)<=K)
  (hc:∀t',(pick r c (elim r c (swp M r t))).1=some t'->(pick r c (elim r c (swp M r t))).2≠1->X*(Q+1)*(at' M t c).natAbs*(at' M t c).natAbs*(at' (elim r c (swp M r t)) t' c).natAbs*(if at' M t c<0 then 3 else 1)<=K):
  (∀k,r+1+k<=M.length->BdL r K (ba r c (r+1) (swp M r t) k))/\Jl K r c (elim r c (swp M r t)):=by
 have hSl:(swp M r t).length=M.length:=dn _ _ _;have hr:=R.hr;have hSr:at' (swp M r t) r c=at' M t c:=by
  rw[dE R.hr R.ht];split
  ·rename_i e;rw[e]
  ·rw[an rfl]
 have key:∀k,r+1+k<=M.length->BdL r (X*(Q+1)) (ba r c (r+1) (swp M r t) k):=fun k hk=>
  N1 (mH h R.hr R.ht) aa (BI hb R.hr R.ht R.rt) (fun i h1 h2=>by
   obtain⟨j,j1,j2,j3,j4,_⟩:=R.tto i aa aa;rw[hSr,j4];exact hq j j1 j2 j3) aa
 refine⟨fun k hk=>(key k hk).mono hK,X*(Q+1),(at' M t c).natAbs,r,?_,hK,af _,?_,by rw[R.pr],fun i h1 h2 h3=>?_,fun t' h1 h2=>?_⟩
 ·unfold elim;exact key _ aa
 ·unfold elim;rw[cY,hSl];exact R.hr
 ·have hl:(elim r c (swp M r t)).length=M.length:=by unfold elim;rw[cY,hSl]
  obtain⟨j,_,_,_,_,j5⟩:=R.tto i aa aa;rw[j5];exact⟨oa _ R.ne,pG _ R.ne⟩
 ·rw[R.pr];exact hc t' h1 h2
theorem PH{n K r c t:Nat}{M:Mat}(h:Rc n M)(hj:Jnl K r c M)(h1:(pick r c M).1=some t)(h2:(pick r c M).2≠1):
  (∀k,r+1+k<=M.length->BdL r K (ba r c (r+1) (swp M r t) k))/\Jnl K r c (elim r c (swp M r t)):=by
 have R:=oR h h1 h2;have hP:1<=(at' M t c).natAbs:=by have:=R.ne;omega
 have go:∀{A B:Prop},A/\Jl K r c (elim r c (swp M r t))->(A->B)->B/\Jnl K r c (elim r c (swp M r t)):=fun x f=>⟨f x.1, .inr x.2⟩;rcases hj with⟨X,x1,x2,x3⟩|⟨X,O,i0,x1,x2,x3,x4,x5,x6,x7⟩
 ·refine go (yH (X:=X) (Q:=X) h R x2 (fun j j1 j2 j3=>aB (jI _ _) (x2 j c j1)) ?_ fun t' k1 k2=>?_) id
  ·have h3:X*(X+1)<=X*(2*X):=bV X aa;have h4:X*X<=X^5:=by
    have:=bI x1 (show 2<=5 by omega);rw[Nat.pow_two]at this;exact this
   have h5:X*(2*X)=2*(X*X):=by rw[fI]
   omega
  ·have h3:=(mf h R k1 k2).1;have h4:=x2 t c R.rt;have h5:X*(X+1)<=2*(X*X):=by
    have:X*(X+1)<=X*(2*X):=bV X aa;rwa[fI]at this
   have h6:X*(X+1)*(at' M t c).natAbs*(at' M t c).natAbs*(at' (elim r c (swp M r t)) t' c).natAbs*(if at' M t c<0 then 3 else 1)<=2*(X*X)*X*X*X*3:=
    cr (cr (cr (cr h5 h4) h4) aa) (by split<;>omega)
   have h7:2*(X*X)*X*X*X*3=6*X^5:=by
    rw[pow5];simp only[bP,bs]
   omega
 ·have ht0 : t ≠ i0 := fun e => by
   obtain⟨i,i1,i2,i3,i4⟩:=R.other;have h3:=R.least i i1 i2 i4;have h4:=x6 i i1 i2 aa;rw[e]at h3;omega
  have h3:=x6 t R.rt R.ht ht0;have hk:=x7 t h1 h2;generalize hpe:at' M t c=p at*;generalize hae:at' M i0 c=a at*;have hp0:0<p:=by have:=R.ne;rw[hpe]at this;omega
  obtain⟨P,rfl⟩:∃P:Nat,p=P:=⟨p.natAbs,by omega⟩;rw[cD]at*;have hPO:P<O:=by omega
  have hO2:O<=O*O:=eQ O aa;have hdiv:O/P*P<=O:=Dz O P;have hdv:O/P<=O:=sM O P;have hneg:¬(P:Int)<0:=by omega
  by_cases hs:a<0
  ·rw[an hs]at hk;have e3:X*O*O*P*3=3*(X*O*O*P):=bs _ _;refine go (yH (X:=X) (Q:=O/P+1) h R x1 (fun j j1 j2 j3=>?_) ?_ fun t' k1 k2=>?_) id
   ·rw[hpe];have h4:(at' M j c/(P:Int)).natAbs*P<=O+P:=by
     have h5:=ug (x:=at' M j c) (p:=(P:Int)) hp0;rw[cD]at h5;by_cases e:j=i0
     ·rw[e,hae]at h5⊢;omega
     ·have:=x6 j j1 j2 e;omega
    have h5:(at' M j c/(P:Int)).natAbs<=(O+P)/P:=(nU aa).2 h4;rwa[Nat.add_div_right _ aa]at h5
   ·have h4 : X * (O / P + 1 + 1) <= X * (3 * (O * O * P)) := bV X (by
     have:O*O<=O*O*P:=eQ _ aa;omega)
    have h5:X*(3*(O*O*P))=3*(X*O*O*P):=by
     simp only[bP,bs,fI]
    omega
   ·have h4:=(mf h R k1 k2).1;rw[hpe]at h4⊢;rw[cD]at h4⊢;rw[aj hneg,fH];generalize(at' (elim r c (swp M r t)) t' c).natAbs=P' at h4⊢;have h5:(O/P+1+1)*P<=3*O:=by rw[bO,bO];omega
    have h6:X*((O/P+1+1)*P)*P*P'<=X*(3*O)*P*O:=cr (cr (bV X h5) (af _)) aa;have h7:X*(3*O)*P*O=3*(X*O*O*P):=by
     simp only[bP,bs,fI]
    have h8:X*(O/P+1+1)*P*P*P'=X*((O/P+1+1)*P)*P*P':=by rw[bP X]
    omega
  ·rw[aj hs,fH]at hk;have haO:a=(O:Int):=by omega
   refine go (yH (X:=X) (Q:=O/P) h R x1 (fun j j1 j2 j3=>?_) ?_ fun t' k1 k2=>?_) id
   ·rw[hpe];have h4:(at' M j c/(P:Int)).natAbs*P<=O:=by
     by_cases e:j=i0
     ·rw[e,hae,haO];have h5:=div_pos (x:=(O:Int)) (p:=(P:Int)) aa hp0;rw[cD,cD]at h5;exact h5
     ·have h6:=x6 j j1 j2 e;have h5:=div_pos (x:=at' M j c) (p:=(P:Int)) h6.1 hp0;rw[cD]at h5;omega
    exact(nU aa).2 h4
   ·have h4 : X * (O / P + 1) <= X * (O * O * P) := bV X (by
     have h6:O*O<=O*O*P:=eQ _ aa;have h7:2*O<=O*O:=cF O aa;omega)
    have h5:X*(O*O*P)=X*O*O*P:=by simp only[bP]
    omega
   ·obtain⟨h4,h5⟩:=mf h R k1 k2;obtain⟨m0,m1,m2,m3⟩:=R.fro i0 x3 x4 (Ne.symm ht0);have h6:=h5 m0 aa m2;rw[m3,hae,haO]at h6;rw[hpe]at h4 h6⊢;rw[cD]at h4⊢;rw[aj hneg,fH];generalize(at' (elim r c (swp M r t)) t' c).natAbs=P' at h4 h6⊢;have h7:2*P'<=O:=by
     have e1:((O:Int)%(P:Int))=((O%P:Nat):Int):=by simp
     rw[e1,cD]at h6;have e2:=jQ O P;have e3:1<=O/P:=(nU aa).2 aa;have e4:=eC O (show 0<P by omega);by_cases h0:O%P=0
     ·have e5 : 2 <= O / P := by
       apply dJ;intro hlt;have:O/P=1:=by omega
       rw[this,h0]at e2;omega
      have e6:=bV P e5;omega
     ·have e5:=h6 aa;have e6:=bV P e3;omega
    have h8:(O/P+1)*P<=2*O:=by rw[bO];omega
    have h9:X*((O/P+1)*P)*P*P'<=X*(2*O)*P*P':=cr (cr (bV X h8) (af _)) (af _);have h10:X*(2*O)*P*P'=X*O*P*(2*P'):=by simp only[bP,bs,fI]
    have h11:X*O*P*(2*P')<=X*O*P*O:=bV _ h7;have h12:X*O*P*O=X*O*O*P:=th _ _ _;have h13:X*(O/P+1)*P*P*P'=X*((O/P+1)*P)*P*P':=by rw[bP X]
    omega
theorem Ql{n K r c:Nat}{M:Mat}(h:Rc n M)(hj:Jnl K r c M):BdL r K (cH r c M):=by
 refine pc (n:=n) (r:=r) (c:=c) (fun N=>Jnl K r c N) (fun N hN hq t ht h2=>(PH hN hq ht h2).2) (fun N=>BdL r K N) (fun N _ hq _=>Nq hq) (fun N hN hq t ht h2=>?_) _ M rfl h hj;obtain⟨k1,k2,_⟩:=(fT c r N (N.length-r)).yes t ht;exact BI (Nq hq) aa aa k1
theorem O7{n r c X:Nat}{M:Mat}(h:Rc n M)(hX:1<=X)(hb:BdL r X M):BdL (step r c M).1 (6*X^5) (step r c M).2:=by
 have hc:BdL r (6*X^5) (cH r c M):=Ql h (.inl ⟨X,hX,hb,af _⟩);have hrc:=((lM (r:=r) (c:=c) h).1.re.rc h);unfold step;simp only[];split
 ·exact hc
 ·next h0=>
  intro i j hi;have hr:r<(cH r c M).length:=by
   apply uG;intro hle;exact h0 (jC hle)
  have hs:Rc n (cJ r c (cH r c M)):=(nu hr).rc hrc;unfold kj;rw[iu hs (by rw[yD];exact hr) (by rw[yD];omega),aj aa];unfold cJ;split
  ·rw[oF _ _ _ _ _ hr,aj aa];exact hc i j aa
  ·exact hc i j aa
theorem exp6{e:Nat}(he:3<=e):6*(2^e)^5<=2^(e*6):=by
 rw[<-qG];refine aB (cF _ (show 6<=2^3 by decide)) ?_;rw[<-eZ];exact bI aa aa
theorem Im{n:Nat}:∀(k c r e:Nat) (M:Mat),3<=e->Rc n M->BdL r (2^e) M->BdL (red k c (r,M)).1 (2^(e*6^k)) (red k c (r,M)).2
 |0,_,_,_,_,_,_,h=>by rw[qI,fH];exact h
 |k+1,c,r,e,M,he,hM,h=>by
  unfold red;split
  ·next hl=>
   have h1:=(O7 (c:=c) hM (ep aa) h).mono (exp6 he);have hr2:Rc n (step r c M).2:=(tK (c:=c) hM hl).1.rc hM;have h2:=Im k (c+1) (step r c M).1 (e*6) (step r c M).2 aa hr2 h1;rw[show e*6*6^k=e*6^(k+1) by rw[dQ,bP,bs 6]]at h2;exact h2
  ·exact h.mono (bI aa (eQ e (ep aa)))
end Mx
end
section
namespace DW
theorem C6{m:Mx.Mat}{k:Nat}{q:Int}{a b:List Int}(h:∀j,(Mx.en q a b).getD j 0=a.getD j 0+q*b.getD j 0):∀j,ei (Mx.en q a b) m k j=ei a m k j+q*ei b m k j
 |0=>by simp[ei]
 |j+1=>by
  simp only[ei];rw[C6 h j,h j,nT,Int.add_mul,eE];omega
theorem Gx{m:Mx.Mat}{k:Nat}{a:List Int}(h:∀j,(Mx.neg a).getD j 0= -a.getD j 0):∀j,ei (Mx.neg a) m k j= -ei a m k j
 |0=>by simp[ei]
 |j+1=>by
  simp only[ei];rw[Gx h j,h j,gX];omega
theorem wP{m:Mx.Mat}{k:Nat}{a b:List Int}(h:∀j,a.getD j 0=b.getD j 0):∀j,ei a m k j=ei b m k j
 |0=>rfl
 |j+1=>by
  simp only[ei];rw[wP h j,h j]
theorem Gw{m:Mx.Mat}{k n i:Nat}:∀j,j<=n->ei (fO n i) m k j=if i<j then Mx.at' m i k else 0
 |0,_=>rfl
 |j+1,h=>by
  have e:(fO n i).getD j 0=if i=j then 1 else 0:=by
   unfold fO;rw[aq,Ad];by_cases hij:i=j
   ·subst hij;rw[an rfl,an rfl,pq,an aa];rfl
   ·simp only[aj hij];rw[lf];split<;>rfl
  simp only[ei];rw[Gw j aa,e];by_cases h1:i=j
  ·subst h1;simp
  ·rw[aj h1];by_cases h2:i<j
   ·rw[an h2,an aa];simp
   ·rw[aj h2,aj aa];simp
theorem kF(a:List Int)(j:Nat):(Mx.neg a).getD j 0= -a.getD j 0:=by
 unfold Mx.neg;rw[aq,aq,bN];cases a[j]?<;>simp
theorem uf(a:List Int)(n j:Nat):(a.drop n).getD j 0=a.getD (n+j) 0:=by
 rw[aq,aq,eF]
def RLin(m:Mx.Mat)(W:Nat)(a:List Int):Prop:=∀k,k<W->ei (a.drop W) m k m.length=a.getD k 0
theorem WG{m:Mx.Mat}(h:Mx.Rc (wid m) m):∀i,i<m.length->RLin m (wid m) (Mx.rw (HT m).2 i):=by
 have hl:=wX h;intro i hi;refine(Mx.eh (wid m) 0 (0,cA m) (fU h)).lin (n:=wid m+m.length) (RLin m (wid m)) (fun a b q ha hb h1 h2 k hk=>?_) (fun a h1 k hk=>?_) (fU h) (fun i hi k hk=>?_) i (by
  have:(Mx.red (wid m) 0 (0,cA m)).2.length=m.length:=hl;rw[this];exact hi)
 ·have hab:∀j,(Mx.en q a b).getD j 0=a.getD j 0+q*b.getD j 0:=fun j=>Mx.mn q a b j (ha.trans hb.symm);have hd:∀j,(Mx.en q (a.drop (wid m)) (b.drop (wid m))).getD j 0=(a.drop (wid m)).getD j 0+q*(b.drop (wid m)).getD j 0:=fun j=>Mx.mn q _ _ j (by rw[de,de,ha,hb]);rw[hab,<-h1 k hk,<-h2 k hk,<-C6 hd];exact wP (fun j=>by rw[uf,hab,hd,uf,uf]) _
 ·rw[kF,<-h1 k hk,<-Gx (kF _)];exact wP (fun j=>by rw[uf,kF,kF,uf]) _
 ·rw[gV]at hi;have e:Mx.rw (cA m) i=Mx.rw m i++fO m.length i:=Mx.di (np hi);have hrl:(Mx.rw m i).length=wid m:=h.rw hi;rw[e,<-hrl,List.drop_left,Gw _ (af _),an hi,aq,dC aa];unfold Mx.at';rw[aq]
theorem WE{m:Mx.Mat}(h:Mx.Rc (wid m) m):tim (cg m) m (wid m)=Ed m:=by
 have hl:=wX h;have hrc:=Ee h;unfold tim cg Ed dp tk;rw[List.map_map];refine mF fun a ha=>?_;obtain⟨i,hi,e⟩:=lX ha;have hlin:=WG h i aa;have hrw:Mx.rw (HT m).2 i=a:=Mx.di (by rw[aV hi,e]);rw[hrw]at hlin;have hal:a.length=wid m+m.length:=hrc a ha;show fC m (wid m) (a.drop (wid m))=a.take (wid m);refine pF fun k=>?_;unfold fC;rw[bN];by_cases hk:k<wid m
 ·rw[iT hk,jo hk];simp only[cG];rw[hlin k hk,aq,aV aa];rfl
 ·rw[gQ cU,gQ nQ];rfl
end DW
end
section
namespace Mx
theorem qM(n:Nat)(g:Nat->Int):∀b,sm (n+b) g=sm n g+sm b fun k=>g (n+k)
 |0=>by show sm n g=_+0;omega
 |b+1=>by
  show sm (n+b) g+g (n+b)=sm n g+(sm b (fun k=>g (n+k))+g (n+b));rw[qM n g b];omega
theorem pg{P Q:Mat}{i:Nat}(h:i<P.length)(j:Nat):at' (P++Q) i j=at' P i j:=by
 unfold at' rw;rw[show List.getD (P++Q) i []=List.getD P i [] by rw[aq,aq,dC h]]
theorem pe(P Q:Mat)(i j:Nat):at' (P++Q) (P.length+i) j=at' Q i j:=by
 unfold at';rw[Pg]
structure Two(n:Nat)(P Q:Mat):Prop where
 n0:0<n
 pl:P.length=n
 ql:Q.length=n
 pr:Rc n P
 qr:Rc n Q
 pd:D n (at' P)≠0
 qd:D n (at' Q)≠0
section
variable {n : Nat} {P Q : Mat} (h : Two n P Q)
include h
theorem Two.al:(P++Q).length=n+n:=by rw[cv,h.pl,h.ql]
end
theorem PY{n:Nat}{R:Mat}(hR:Rc n R)(hl:R.length=n)(hN:nH n R=R):D n (at' R)=dpr (at' R) n/\1<=D n (at' R):=by
 obtain⟨pv,he⟩:=iJ n 0 (0,R) id hR (gL R);rw[bw]at he;have hlen:=(eh n 0 (0,R) hR).len;have hr:(red n 0 (0,R)).1=n:=by
  have h1:=jS List.length hN;unfold nH at h1;rw[aY]at h1;have:=he.le;omega
 have hX:(red n 0 (0,R)).2=R:=by
  have h2:(red n 0 (0,R)).2.take (red n 0 (0,R)).1=R:=hN;rw[hr,cf (by rw[hlen];show R.length<=n;omega)]at h2;exact h2
 rw[hr,hX]at he;have lo:∀i,i<n->i<=pv i:=fun i=>by
  induction i with
  |zero=>intro _;omega
  |succ i ih=>
   intro hi;have h1:=ih aa;have h2:=he.mono i (i+1) aa hi;omega
 have hz:∀i j,j<i->i<n->at' R i j=0:=fun i j hj hi=>he.zl i hi j (by have:=lo i hi;omega);have hne:=P0 hR hl hN;refine⟨Ct n _ hz,?_⟩;have h:=Ef n (at' R) hz fun i hi=>by
  have hp:=he.pos i hi;by_cases e:pv i=i
  ·rw[e]at hp;omega
  ·exfalso;refine hne ?_;rw[Ct n _ hz];have h0:at' R i i=0:=he.zl i hi i (by have:=lo i hi;omega);have:∀m,i<m->dpr (at' R) m=0:=fun m=>by
    induction m with
    |zero=>intro h;omega
    |succ m ih=>
     intro hm;show dpr (at' R) m*at' R m m=0;by_cases e:i=m
     ·rw[<-e,h0,dv]
     ·rw[ih aa,pD]
   exact this n hi
 exact h.1
theorem Cj{x:Int}(hx:1<=x):∀n,1<=dpr (fun _ _=>x) n
 |0=>tD _
 |n+1=>by
  have:=vW (Cj hx n) hx aa (by have:=Cj hx n;omega);show 1<=dpr _ n*x;omega
end Mx
end
section
open Go.RowKit Go.BigFrame
attribute [local go_sem ↓] Go.wp_at_zero Go.wp_at_succ
set_option maxRecDepth 10000 in
set_option maxHeartbeats 4000000 in
theorem PW(n:Nat)(hn:n<=1000000)(w:World):
  Calls Tryz.prog 176 #[.slice none 0 0, .int .i64 ((n:Int))] w fun e w'=>(∃v,e= .returned v/\w'.ownsRow w.heap.size 147 1 v 0 []/\∀b,v.ownBlock=some b->NW w' b)/\Below w.heap.size w w':=by
 by_cases h0:n=0
 ·subst h0
  go_enter Tryz.func176,Tryz.ntmps176
  go_wp2_with fail
  go_ret
  exact⟨⟨_,rfl,⟨rfl, .inl ⟨rfl,rfl⟩⟩,fun b hb=>by cases hb⟩,by exact bel⟩
 ·have hp:(0:Int)<(n:Int):=by omega
  have hneg:¬(n:Int)<0:=by omega
  obtain⟨i0,hi0,hz0,hz1,hz2⟩:=im oQ
  have hrz : ∀ (ty : TypeId) (W : World), (Builtin.append_ #[104, 3] ty #[.slice none 0 0, .int .i64 (n : Int)]).run Tryz.prog W =
      .ok (.slice (some ⟨W.heap.size,0,none⟩) n (grownCap W n 0 147)) (W.drew.alloc (.cells (Builtin.zeroCells (Value.slice none 0 0).cells n++Builtin.zeroCells (Value.slice none 0 0).cells (grownCap W n 0 147-n)) 147)):=fun ty W=>by
   have h:=EI W 104 3 ty 147 i0 _ .i64 .i64 Tryz.underlying104 Tryz.underlying3 hi0 hz0 none 0 0 [] (run_firstCells_none W.drew i0.size 0 0 0) n aa aa aa aa (by rw[hz2];omega) (by rw[hz2];exact growslice_fits aa aa);simpa using h
  have hG:∀W,n<=grownCap W n 0 147/\grownCap W n 0 147<=9223372036854775807:=fun W=>by
   refine⟨grownCap_ge W _ _ _,?_⟩;have:=grownCap_le_maxLen W n 0 147 (by unfold maxLen;omega);unfold maxLen at this;omega
  go_enter Tryz.func176,Tryz.ntmps176
  have HRZ:Hid _:=hrz;clear hrz;obtain⟨g1,g2⟩:=hG w
  go_wp2_with (at_builtin;go_must (refine wpList_append_run rfl (.tmp 20) (.tmp 21) 104 3 rfl _ (HRZ.out _ _) ?_))
  go_ret
  refine⟨⟨_,rfl,⟨by simp, .inr ⟨w.heap.size,grownCap w n 0 147,_,rfl,af _,heap_alloc_new w _,aO _,by unfold maxLen;exact g2,?_,by simp⟩⟩,fun b hb m hm=>?_⟩,by exact bel⟩
  ·rw[rO,size_zeroCells,size_zeroCells];show n*1+(grownCap w n 0 147-n)*1=_;omega
  ·have hb2:w.heap.size=b:=Option.some.inj hb;subst hb2
   change (w.alloc _).cell? _=_ at hm
   rw[cell_of_row _ w.heap.size _ _ _ (0,0) (heap_alloc_new w _)]at hm;have h3:0<n*1:=by omega
   have h4:(Builtin.zeroCells (Value.slice none 0 0).cells n)[0]?=some (.slice none 0 0):=by
    simp only[Builtin.zeroCells,Value.cells];have h5:0<n*(#[Value.slice none 0 0]:Array Value).size:=by simp;omega
    rw[tC,mD (by simpa using h5)];simp
   rw[qB (by rw[size_zeroCells];exact h3)]at hm;have hm2:=h4.symm.trans hm;clear hm;have hm:=hm2;cases hm
namespace DW
theorem Uu(n:Nat)(hn:n<=1000000):FnG Tryz.prog 176 [.sc (.slice none 0 0),zI (n:Int)] [] (.own 6) [(6,⟨147,1,[]⟩)]:=by
 refine⟨enters_of Tryz.func176 ah rfl,fun X f w vs hX hO hv=>?_⟩;rw[Ww]at hv;simp only[SRs,SR,AR]at hv;obtain⟨v1,r1,e1,⟨rfl,_⟩,v2,r2,e2,⟨rfl,_⟩,rfl⟩:=hv;subst e2;have:vs= #[.slice none 0 0,.int .i64 ((n:Int))]:=cM.1 e1;subst this;refine(PW n hn w).mono fun e w' ⟨⟨v,he,ho,hnw⟩,hb⟩=>?_;have hbl:∀b,blk (fun _=>v) [(6,(⟨147,1,[]⟩:Ow))] b->v.ownBlock=some b:=fun b ⟨p,hp,e⟩=>e;have hge:∀b,v.ownBlock=some b->w.heap.size<=b:=fun b hb=>by
  rcases ho.2 with⟨h1,_⟩|⟨g,cap,cur,h1,h2,_⟩
  ·subst h1;cases hb
  ·rw[h1]at hb;simp only[Value.ownBlock,ak]at hb;omega
 refine⟨v,fun _=>v,he,⟨hb.os,hb.tape,hb.output,hb.size,fun b hb' _=>hb.block b hb'⟩,⟨fun p hp=>?_,fun b hb'=>hnw b (hbl b hb'),fun p hp q hq hne=>?_,fun p hp q hq _=>?_,fun b hx hb'=>?_⟩,fun b hb'=>.inr (hge b (hbl b hb')),fun p hp=>(by cases hp),by simp only[SR]⟩
 ·rw[bL.1 hp];refine⟨by decide,[],⟨rfl,?_⟩,EE.of rfl rfl⟩;rcases ho.2 with h1|⟨g,cap,cur,h1,h2,h3⟩
  ·exact .inl h1
  ·exact .inr ⟨g,cap,cur,h1,aO _,h3⟩
 ·rw[bL.1 hp,bL.1 hq]at hne;exact absurd rfl hne
 ·rw[bL.1 hp,bL.1 hq]
 ·exact absurd (hX b hx).1 (by have:=hge b (hbl b hb');omega)
set_option maxRecDepth 20000
set_option maxHeartbeats 2000000
theorem Qk(A B:Mx.Mat)(hA:A.length<=100000)(hB:B.length<=100000):Fn Tryz.prog 140 [.ls 1 [dW A,dW B]] (dW (A++B)):=by
 have GR:=Uu (A.length+B.length) aa;obtain⟨L,hL⟩:∃L:List Mx.Mat,L=[A,B]:=⟨_,rfl⟩;have hLl:L.length=2:=by rw[hL];rfl
 have hin:(D.ls 1 [dW A,dW B])= .ls 1 (L.map dW):=by rw[hL];rfl
 rw[hin];have hl0:∀i,((L.take i).map List.length).sum<=A.length+B.length:=fun i=>by
  rw[hL]
  match i with
  |0=>simp
  |1=>simp
  |i+2=>simp
 have hls:∀i (M:Mx.Mat),L[i]?=some M->((L.take (i+1)).map List.length).sum=((L.take i).map List.length).sum+M.length:=fun i M h=>by
  rw[bF h,cL,List.sum_append];simp
 have hlm:∀i (M:Mx.Mat),L[i]?=some M->M.length<=100000:=fun i M h=>by
  have:=bj h;rw[hL]at this;simp only[bC,List.not_mem_nil,or_false]at this;rcases this with rfl|rfl<;>assumption
 have hfl:∀i,((L.take i).flatten).length<=200000:=fun i=>by
  rw[List.length_flatten];have:=hl0 i;omega
 have hend:L.flatten=A++B:=by rw[hL];simp
 have hsum:((L.take 2).map List.length).sum=A.length+B.length:=by rw[hL];simp
 clear hL hin;refine bg Tryz.func140 ah rfl rfl rfl fun X0=>?_;simp only[aP];refine lS ?_;refine xi ?_;refine zs2 ?_
 (refine av (ay (sl':=[(0,.ls 1 (L.map dW)),(3,zI 0),(9,.ls 1 (L.map dW)),(10,zI 2),(11,zI 0)]) (ow':=[]) aF aH) ?_)
 refine bh (fun r s=>∃i,i<=2/\r=2-i/\s=⟨[(0,.ls 1 (L.map dW)),(3,zI (((L.take i).map List.length).sum:Nat)),(9,.ls 1 (L.map dW)),(10,zI 2),(11,zI (i:Nat))],[]⟩) (m:=2) ⟨0,aO _,rfl,rfl⟩ fun r s hs=>?_;obtain⟨i,hi,rfl,rfl⟩:=hs;by_cases hil:i<2
 ·obtain⟨M,hM⟩:=get_some (m:=L) (k:=i) aa;have hs1:=hls i M hM;have hm1:=hlm i M hM;have h01:=hl0 i;generalize((L.take i).map List.length).sum=a at*;refine jM ?_;refine xh ?_;refine zs2 ?_;refine bT ?_;refine zs5 ?_;refine ur ?_;refine cn ?_;refine jn ?_;refine bR ?_;refine nE ?_;simp only[nx,inB];exact⟨2-(i+1),_,by omega,(ay (sl':=[(0,.ls 1 (L.map dW)),(3,zI (((L.take (i+1)).map List.length).sum:Nat)),(9,.ls 1 (L.map dW)),(10,zI 2),(11,zI ((i+1:Nat):Int))]) (ow':=[]) aF aH),i+1,by omega,rfl,rfl⟩
 ·obtain rfl:i=2:=by omega
  rw[hsum];refine nM ?_;refine cE ?_;(refine Wu rfl rfl rfl rfl (by exact tW) ck (GR) ai ai ai ?_);refine cn ?_;refine xi ?_;refine zs2 ?_
  (refine av (ay (sl':=[(0,.ls 1 (L.map dW)),(6,.own 6),(25,.ls 1 (L.map dW)),(26,zI 2),(27,zI 0)]) (ow':=[(6,⟨147,1,[]⟩)]) aF aH) ?_)
  refine bh (fun r s=>∃i,i<=2/\r=2-i/\s=⟨[(0,.ls 1 (L.map dW)),(6,.own 6),(25,.ls 1 (L.map dW)),(26,zI 2),(27,zI (i:Nat))],[(6,⟨147,1,(L.take i).flatten.map dZ⟩)]⟩) (m:=2) ⟨0,aO _,rfl,rfl⟩ fun r s hs=>?_;obtain⟨i,hi,rfl,rfl⟩:=hs;by_cases hil:i<2
  ·obtain⟨M,hM⟩:=get_some (m:=L) (k:=i) aa;have hsn:=bF hM;have hm1:=hlm i M hM;have hf1:=hfl i;obtain⟨F,hF⟩:∃F,F=L.take i:=⟨_,rfl⟩;rw[<-hF]at hsn hf1;rw[<-hF];clear hF;refine jM ?_;refine xh ?_;refine zs2 ?_;refine bT ?_;(refine lQ rfl rfl rfl rfl ck ck aX ai pR ah ah (by(simp only[bD];omega)) cj sK ?_);refine cn ?_;refine nE ?_;simp only[nx,inB];exact⟨2-(i+1),_,by omega,(ay (sl':=[(0,.ls 1 (L.map dW)),(6,.own 6),(25,.ls 1 (L.map dW)),(26,zI 2),(27,zI ((i+1:Nat):Int))]) (ow':=[(6,⟨147,1,F.flatten.map dZ++M.map dZ⟩)]) aF aH),i+1,by omega,rfl,by rw[hsn,List.flatten_append,cL];simp⟩
  ·obtain rfl:i=2:=by omega
   rw[cf aa,hend];refine nM ?_;refine av (az (k:=6) aX bq bp) ?_;refine ji ?_;exact⟨_,Sh.refl,.one (.tmp 2) _ rfl (.tmp 2 rfl)⟩
theorem ra_ar{X:Nat->Prop}{w:World}{row:List Int}{g o c:Nat}(h:RA w g o row)(hc:row.length<=c)(hX:¬X g):AR X w (dZ row) (.slice (some ⟨g,o,none⟩) row.length c):=by
 simp only[dZ,AR];refine⟨_,c,by rw[bD],by rw[bD];exact hc,.inr ⟨g,o,rfl,hX,h.lt,ARs.mk fun k d hd=>?_⟩⟩;rw[bN]at hd;obtain⟨z,hz,rfl⟩:=eY.1 hd;obtain⟨x,h1,h2,h3⟩:=h.c k z hz;refine⟨.agg #[.bool x.s,.slice x.a x.n x.cap],by simp only[AR];exact⟨x,rfl,h3⟩,rfl,rfl,fun j u hj=>?_⟩
 match j with
 |0=>simp[Value.cells]at hj;subst hj;exact h1
 |1=>simp[Value.cells]at hj;subst hj;exact h2
 |j+2=>simp[Value.cells]at hj
theorem Nb{X:Nat->Prop}{w:World}{B:Nat}{M:Mx.Mat}{v:Value}{n:Nat}(h:MRB w B v n M)(hX:∀b,X b->b<B):AR X w (dW M) v:=by
 obtain⟨a,cap,rfl,h1,h2,h3⟩:=h;simp only[dW,AR];refine⟨a,cap,by rw[bD],by rw[bD];exact h1,?_⟩;rcases h3 with h3|⟨gm,om,rfl,hb,hlt,h4⟩
 ·exact .inl (by rw[h3];rfl)
 ·refine .inr ⟨gm,om,rfl,fun hx=>by have:=hX gm hx;omega,hlt,ARs.mk fun i d hd=>?_⟩;rw[bN]at hd;obtain⟨row,hrow,rfl⟩:=eY.1 hd;have hi:=(ct.1 hrow).1;have hl:row.length=n:=h2 row (bj hrow);obtain⟨b,c,k1,k2,_,k4⟩:=h4 i hi;refine⟨.slice b n c,?_,rfl,rfl,fun j u hj=>?_⟩
  ·rcases k4 with k4|⟨g,o,rfl,k5,k6⟩
   ·have:row=[]:=gP aa;rw[this,k4];simp only[dZ,AR];exact⟨b,c,rfl,aO _,.inl rfl⟩
   ·rw[Mx.di hrow]at k6;have:=ra_ar (X:=X) k6 (show row.length<=c by omega) (fun hx=>by have:=hX g hx;omega);rwa[hl]at this
  ·match j with
   |0=>simp[Value.cells]at hj;subst hj;rw[fH,bZ];exact k1
   |j+1=>simp[Value.cells]at hj
theorem Sc(M:Mx.Mat)(n e:Nat)(h0:M≠[])(hn0:0<n)(hR:Mx.Rc n M)(hm:n+M.length<=1000)(he:6<=e)(hf:2*(e*11^n)<=6000000000000)(hb:Mx.Bd (2^e) M):Fn Tryz.prog 73 [dW M] (.tp [dW (tk n (Mx.red n 0 (0,cA M)).2),dW (dp n (Mx.red n 0 (0,cA M)).2),zI ((Mx.red n 0 (0,cA M)).1:Nat)]):=by
 refine⟨enters_of Tryz.func73 ah rfl,fun X w vs hX hv=>?_⟩;simp only[ATp]at hv;obtain⟨v1,r1,e1,h1,rfl⟩:=hv;have:vs= #[v1]:=cM.1 e1;subst this;refine(Ak M n e v1 h0 hm he hf hb w (um h1 hR hn0)).mono fun e w' ⟨⟨vh,vu,h2,h3,h4⟩,h5⟩=>⟨_,h2,?_,h5⟩;have hXb:∀b,X b->b<w.heap.size:=fun b hb=>(hX b hb).1;simp only[AR,ATp];exact⟨#[vh,vu,.int .i64 (((Mx.red n 0 (0,cA M)).1:Int))],rfl,vh,_,rfl,Nb h3 hXb,vu,_,rfl,Nb h4 hXb,_,_,rfl,⟨rfl,rfl⟩,rfl⟩
end DW
end
end Go.Proofs.YtcgjmdpcplhanaaGreat
