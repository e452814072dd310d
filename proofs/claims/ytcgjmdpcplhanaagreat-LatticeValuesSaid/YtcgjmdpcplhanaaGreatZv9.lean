/- Lemmas for the law: E22 M5 V27 V28 V29 M14 E42 M16 E63 -/
import Derived.BigQuiet
import Derived.Deep.CutRange
import Derived.Deep.LoopGhost
import Derived.Test.YtcgjmdpcplhanaaGreatZv8
namespace Go.Proofs.YtcgjmdpcplhanaaGreat
section
abbrev xU:=@Int.mul_right_comm
theorem cS{p q:Prop}(h:q)(f:Wq q->p:=by(intro hW;((refine Own3.pI rfl (fun K hK=>?_);go_simp;(try go_bits);refine⟨fun w' hw' hcb'=>?_,hK _ ?_⟩;(focus(first|with_reducible exact rfl|with_reducible exact⟨rfl,rfl⟩|(obtain⟨gx,rfl⟩:=mob (Ext.below hw');go_simp;first|exact rfl|exact⟨rfl,rfl⟩)));clear hK K));exact hW.out)):p:=f ⟨h⟩
theorem zs87{p q:Prop}(h:q)(f:Wq q->p:=by(intro hW;(refine aL1 rfl rfl rfl zb3 ?_);exact hW.out)):p:=f ⟨h⟩
theorem Bz{p q:Prop}(h:q)(f:Wq q->p:=by(intro hW;(refine ct ?_;refine Bk ?_;refine xB ?_;refine zs3 ?_;refine zs87 ?_;refine xB ?_;refine gR ?_;refine ve ?_;refine ba ?_);exact hW.out)):p:=f ⟨h⟩
theorem zb62{p:Prop}(h:p:=by simp[results,Tryz.results96,go_sem,t0,t1]):p:=h
theorem zs94{p q:Prop}(h:q)(f:Wq q->p:=by(intro hW;((first|refine aN1 rfl rfl rfl vv ?_|refine aN1o rfl rfl rfl vv ?_));exact hW.out)):p:=f ⟨h⟩
theorem xA{p q:Prop}(h:q)(f:Wq q->p:=by(intro hW;((first|refine aN1 rfl rfl rfl qo ?_|refine aN1o rfl rfl rfl qo ?_));exact hW.out)):p:=f ⟨h⟩
theorem zb21{p:Prop}(h:p:=by(apply vT;(exact rfl);(focus((apply aw;(conv=>lhs;whnf);(first|done|exact rfl))));(exact bW);(focus((apply aw;(conv=>lhs;whnf);(first|done|exact rfl))));(exact rfl);(exact rfl);(exact rfl);(assumption);(exact rfl))):p:=h
theorem zs93{p q:Prop}(h:q)(f:Wq q->p:=by(intro hW;((first|refine aN1 rfl rfl rfl zb21 ?_|refine aN1o rfl rfl rfl zb21 ?_));exact hW.out)):p:=f ⟨h⟩
theorem zb61{p:Prop}(h:p:=by first|(apply fM;assumption)|exact rfl):p:=h
theorem zs92{p q:Prop}(h:q)(f:Wq q->p:=by(intro hW;((first|refine aN1 rfl rfl rfl zb3 ?_|refine aNindex rfl rfl rfl rfl dm dm cr ak ak (by first|omega|(simp;omega)) zb61 ?_|refine aN1o rfl rfl rfl zb3 ?_));exact hW.out)):p:=f ⟨h⟩
theorem zs95{p q:Prop}(h:q)(f:Wq q->p:=by(intro hW;((first|refine aN1 rfl rfl rfl qq ?_|refine aN1o rfl rfl rfl qq ?_));exact hW.out)):p:=f ⟨h⟩
theorem zs91{p q:Prop}(h:q)(f:Wq q->p:=by(intro hW;((first|refine aN1 rfl rfl rfl zb0 ?_|refine aN1o rfl rfl rfl zb0 ?_));exact hW.out)):p:=f ⟨h⟩
theorem zs88{p q:Prop}(h:q)(f:Wq q->p:=by(intro hW;(refine MJ [5] ak (by(apply CN;(exact wF);(focus((repeat(first|exact yX|(apply wE;(exact rfl))|(apply yY;(exact rfl)))))))) ?_);exact hW.out)):p:=f ⟨h⟩
theorem zs96{p q:Prop}(h:q)(f:Wq q->p:=by(intro hW;((refine K6 (k:=5) (z:=(.agg #[.bool false,.slice none 0 0])) (d:=(.nm 0)) rfl rfl rfl rfl rfl ak an an mr an an ?_));exact hW.out)):p:=f ⟨h⟩
theorem zs90{p q:Prop}(h:q)(f:Wq q->p:=by(intro hW;((first|refine aN1 rfl rfl rfl zb9 ?_|refine aNindex rfl rfl rfl rfl dm (by exact bW) cr ak ak (by first|omega|(simp;omega)) zb61 ?_|refine aN1o rfl rfl rfl zb9 ?_));exact hW.out)):p:=f ⟨h⟩
theorem zs97{p q:Prop}(h:q)(f:Wq q->p:=by(intro hW;((refine K0 (i:=0) rfl rfl rfl dm dm cr an vt an mr an ak vu ?_));exact hW.out)):p:=f ⟨h⟩
theorem Ig{p q:Prop}(h:q)(f:Wq q->p:=by(intro hW;(refine zs88 ?_;refine xA ?_;refine zs90 ?_;refine zs91 ?_;refine xA ?_;refine zs92 ?_;refine zs91 ?_;refine xA ?_;refine xA ?_;refine zs93 ?_;refine zs94 ?_;refine zs95 ?_;refine zs96 ?_;refine zs97 ?_;(refine FU ak ?_));exact hW.out)):p:=f ⟨h⟩
theorem zs98{p q:Prop}(h:q)(f:Wq q->p:=by(intro hW;(refine aL1 rfl rfl rfl (by(first|(apply(Fx (c:=2));(exact rfl);(focus((apply aw;(conv=>lhs;whnf);(first|done|exact rfl))));(exact bW);(exact rfl);(exact rfl))|(apply d_remP;(exact rfl);(focus((apply aw;(conv=>lhs;whnf);(first|done|exact rfl))));(exact bW);(omega))|(apply zy;(exact rfl);(focus((apply aw;(conv=>lhs;whnf);(first|done|exact rfl))));(exact bW);(focus(first|omega|decide))))) ?_);exact hW.out)):p:=f ⟨h⟩
end
section
open Go.RowKit
namespace DW
theorem Cm{B:Nat}{g:Nat->Int}:∀k,(∀l,l<k->(g l).natAbs<=B)->(Mx.sm k g).natAbs<=k*B
 |0,_=>by simp[Mx.sm]
 |k+1,h=>by
  have h1:=Cm k fun l hl=>h l aa;have h2:=h k aa;show(Mx.sm k g+g k).natAbs<=_;rw[bC,cv];have:=Int.natAbs_add_le (Mx.sm k g) (g k);omega
theorem Ep(k:Nat):(Mx.sg k).natAbs=1:=by unfold Mx.sg;split<;>rfl
theorem AZ{e n k:Nat}(hk:k<=n+1):k*(2^e*2^((e+n)*n))<=2^((e+(n+1))*(n+1)):=by
 have h1:k<=2^(n+1):=bc hk (bR Nat.lt_two_pow_self);refine bc (cU _ h1) ?_;rw[<-gy,<-gy];refine cE aa ?_;have:(e+(n+1))*(n+1)=(e+n)*n+(e+n)+(n+1):=by grind
 omega
theorem Dq{e:Nat}:∀(n:Nat) (f:Nat->Nat->Int),(∀i j,i<n->j<n->(f i j).natAbs<=2^e)->(Mx.D n f).natAbs<=2^((e+n)*n)
 |0,_,_=>by simp[Mx.D]
 |n+1,f,h=>by
  unfold Mx.D;refine bc (Cm (n+1) fun l hl=>?_) (AZ (af _));rw[eL,eL,Ep,cv];exact bZ (h 0 l aa hl) (Dq n _ fun i j hi hj=>h _ _ aa (by unfold Mx.skip;split<;>omega))
def jq(n:Nat)(f:Nat->Nat->Int)(k:Nat):Int:=Mx.sg k*f 0 k*Mx.D n (fun i j=>f (i+1) (Mx.skip k j))
theorem zo{e n:Nat}{f:Nat->Nat->Int}(h:∀i j,i<n+1->j<n+1->(f i j).natAbs<=2^e){k:Nat}(hk:k<n+1):(jq n f k).natAbs<=2^e*2^((e+n)*n):=by
 unfold jq;rw[eL,eL,Ep,cv];exact bZ (h 0 k aa hk) (Dq n _ fun i j hi hj=>h _ _ aa (by unfold Mx.skip;split<;>omega))
theorem KA{e n:Nat}{f:Nat->Nat->Int}(h:∀i j,i<n+1->j<n+1->(f i j).natAbs<=2^e){k:Nat}(hk:k<=n+1):(Mx.sm k (jq n f)).natAbs<=2^((e+(n+1))*(n+1)):=
 bc (Cm k fun l hl=>zo h aa) (AZ hk)
theorem EY(M:Mx.Mat)(k i j:Nat):Mx.at' (mnr M 0 k) i j=Mx.at' M (i+1) (Mx.skip k j):=by
 unfold Mx.at' Mx.rw mnr Mx.skip;simp only[aF,db,List.getElem?_eraseIdx,Nat.not_lt_zero,if_false]
 cases M[i+1]? with
 |none=>simp
 |some r=>
  simp only[ck,tS,List.getElem?_eraseIdx];split<;>rfl
theorem EX{M:Mx.Mat}{n k:Nat}(hl:M.length=n+1)(hM:Mx.Rc (n+1) M)(hk:k<n+1):(mnr M 0 k).length=n/\Mx.Rc n (mnr M 0 k):=by
 unfold mnr;refine⟨by rw[aY,List.length_eraseIdx_of_lt aa];omega,fun r hr=>?_⟩;obtain⟨x,hx,rfl⟩:=iD.1 hr;have:=hM x (List.mem_of_mem_eraseIdx hx);rw[List.length_eraseIdx_of_lt aa];omega
theorem mnr_D(M:Mx.Mat)(n k:Nat):Mx.D n (Mx.at' (mnr M 0 k))=Mx.D n (fun i j=>Mx.at' M (i+1) (Mx.skip k j)):=Mx.cK n _ _ fun i j _ _=>EY M k i j
theorem LV{M:Mx.Mat}{B k:Nat}(h:Mx.Bd B M):Mx.Bd B (mnr M 0 k):=fun i j=>by rw[EY];exact h _ _
set_option maxRecDepth 20000
set_option maxHeartbeats 2000000
theorem Je(e:Nat):∀(n:Nat) (M:Mx.Mat),M.length=n->Mx.Rc n M->Mx.Bd (2^e) M->n<=1000->(e+n)*n+e<=3000000000->
  Fn Tryz.prog 43 [dW M] (.nm (Mx.D n (Mx.at' M)))
 |0,M,hl,hM,hb,hn,he=>by
  have h0:M=[]:=gu hl;subst h0;have O:=of_d 1 aa;refine bq Tryz.func43 ak rfl rfl rfl fun X0=>?_;simp only[aQ];refine mZ ?_;refine Bp ?_;refine dv ?_;refine rK ?_;refine bU ?_;refine gar ?_;(refine aL1 rfl rfl rfl (by(apply vU;(exact rfl);(exact bW);(exact rfl);(assumption);(exact rfl))) ?_);refine oO ?_;refine dv ?_;exact⟨_,bB (k:=2) cr dG dF, .one (.cell 2 62) _ rfl (.cell 2 _ _ rfl rfl ak ak)⟩
 |n+1,M,hl,hM,hb,hn,he=>by
  have hSB:=fun k (hk:k<=n+1)=>KA (e:=e) (n:=n) (f:=Mx.at' M) (fun i j _ _=>hb i j) hk;have hTB:=fun k (hk:k<n+1)=>zo (e:=e) (n:=n) (f:=Mx.at' M) (fun i j _ _=>hb i j) hk;have hDB:=fun k=>Dq (e:=e) n (fun i j=>Mx.at' M (i+1) (Mx.skip k j)) fun i j _ _=>hb _ _;have hx1:(e+n)*n+e+(n+n+1)<=(e+(n+1))*(n+1):=by
   have:(e+(n+1))*(n+1)=(e+n)*n+(e+n)+(n+1):=by grind
   omega
  have IH:=fun k (hk:k<n+1)=>Je e n (mnr M 0 k) (EX hl hM hk).1 (EX hl hM hk).2 (LV hb) aa aa;have MI:=fun k=>Kg M 0 k aa (fun l hl=>by have:=hM l hl;omega);have hr0:=yx (M:=M) (i:=0) aa;refine bq Tryz.func43 ak rfl rfl rfl fun X0=>?_;simp only[aQ];refine mZ ?_;refine Bp ?_;refine dv ?_;refine rK ?_;refine bG ?_;refine gar ?_;(refine aL1 rfl rfl rfl (by(apply(Hj (z:=(.agg #[.bool false, .slice none 0 0])) (d:=(.nm 0)));(exact rfl);(kernel_rfl);(exact rfl);(exact rfl);(exact rfl))) ?_);(refine wa (k:=3) (z:=(.agg #[.bool false, .slice none 0 0])) (d:=(.nm 0)) rfl rfl rfl rfl rfl ak an an mr an an dL ?_);refine oO ?_;refine ba ?_;refine cD ?_
  (refine aI (av (sl':=[(0,dW M),(2, .opt 2 0),(3, .opt 3 0),(4,zI 0)]) (ow':=[(3,⟨62,2,[.nm (0)]⟩),(2,⟨62,2,[.nm 0]⟩)]) aE aH) ?_)
  refine aX (fun q s=>∃k,k<=n+1/\q=n+1-k/\s=⟨[(0,dW M),(2, .opt 2 0),(3, .opt 3 0),(4,zI (k:Nat))],[(3,⟨62,2,[.nm (Mx.sm k (jq n (Mx.at' M)))]⟩),(2,⟨62,2,[.nm 0]⟩)]⟩) (m:=n+1) ⟨0,aO _,rfl,rfl⟩ fun q s hs=>?_;obtain⟨k,hk,rfl,rfl⟩:=hs;by_cases hkn:k<n+1
  ·have hxk:=MF (i:=0) hM aa hkn;have hS1:Mx.sm (k+1) (jq n (Mx.at' M))=Mx.sm k (jq n (Mx.at' M))+jq n (Mx.at' M) k:=rfl;have bS:=hSB k hk;have bT:=hTB k hkn;have bD:=hDB k;have IHk:=IH k hkn;rw[mnr_D]at IHk;have hdt:jq n (Mx.at' M) k=Mx.sg k*Mx.at' M 0 k*Mx.D n (fun i j=>Mx.at' M (i+1) (Mx.skip k j)):=rfl;have SX:=Em (Mx.at' M 0 k) (kS (hb 0 k) aa);have MIk:=MI k;have bX:=hb 0 k;obtain⟨S,hS⟩:∃S,S=Mx.sm k (jq n (Mx.at' M)):=⟨_,rfl⟩;obtain⟨T,hT⟩:∃T,T=jq n (Mx.at' M) k:=⟨_,rfl⟩;obtain⟨X,hX⟩:∃X,X=Mx.at' M 0 k:=⟨_,rfl⟩;obtain⟨Dm,hDm⟩:∃Dm,Dm=Mx.D n (fun i j=>Mx.at' M (i+1) (Mx.skip k j)):=⟨_,rfl⟩;have gx:=Gw X;rw[<-hS,<-hT]at hS1;rw[<-hS]at bS;rw[<-hT]at bT hdt;rw[<-hX]at hxk SX bX hdt;rw[<-hDm]at bD IHk hdt;rw[<-hS];clear hS hT hX hDm IH MI hSB hTB hDB hb;have hc0:(0:Int)=((0:Nat):Int):=rfl;by_cases hx0:X=0
   ·have hT0:T=0:=by rw[hdt,hx0];simp
    rw[hT0,fZ]at hS1;refine cC ?_;refine Bz ?_;refine bU ?_;refine jf ?_;simp only[nx,inB];exact⟨n+1-(k+1),_,by omega,(av (sl':=[(0,dW M),(2, .opt 2 0),(3, .opt 3 0),(4,zI ((k+1:Nat):Int))]) (ow':=[(3,⟨62,2,[.nm (S)]⟩),(2,⟨62,2,[.nm 0]⟩)]) aE aH),k+1,by omega,rfl,by rw[hS1]⟩
   ·have eb:(2:Nat)^e*2^((e+n)*n)=2^(e+(e+n)*n):=(gy _ _ _).symm;rw[eb]at bT;have ML:=mul_d X Dm (kS bX aa) (kS bD aa);have bXD:(X*Dm).natAbs<=2^(e+(e+n)*n):=by
     rw[eL,<-eb];exact bZ bX bD
    have hfP:=kS bXD aa;have hfS:=kS bS aa;have hfT:=kS bT aa;have AD:=add_d S T hfS hfT;by_cases hk2:k%2=1
    ·have hsg : T = -(X * Dm) := by
      rw[hdt];unfold Mx.sg;rw[ah aa];rw[cZ,gH,dB]
     have NG:=neg_d (X*Dm) hfP;rw[<-hsg]at NG;clear hdt hsg;refine cC ?_;refine Bz ?_;refine bG ?_;refine Ig ?_;refine jK ?_;refine zs98 ?_;refine ve ?_;refine ba ?_;refine bU ?_;refine gar ?_;refine fK ?_;refine gR ?_;refine oO ?_;refine dv ?_;refine gar ?_;refine fK ?_;refine fK ?_;refine sK ?_;refine oO ?_;refine dv ?_;refine jf ?_;simp only[nx,inB];exact⟨n+1-(k+1),_,by omega,(av (sl':=[(0,dW M),(2, .opt 2 0),(3, .opt 3 0),(4,zI ((k+1:Nat):Int))]) (ow':=[(3,⟨62,2,[.nm (S+T)]⟩),(2,⟨62,2,[.nm 0]⟩)]) aE aH),k+1,by omega,rfl,by rw[hS1]⟩
    ·have hsg : T = X * Dm := by
      rw[hdt];unfold Mx.sg;rw[aj aa,dB]
     rw[<-hsg]at ML;clear hdt hsg;refine cC ?_;refine Bz ?_;refine bG ?_;refine Ig ?_;refine jK ?_;refine zs98 ?_;refine ve ?_;refine ba ?_;refine bG ?_;refine gar ?_;refine fK ?_;refine fK ?_;refine sK ?_;refine oO ?_;refine dv ?_;refine jf ?_;simp only[nx,inB];exact⟨n+1-(k+1),_,by omega,(av (sl':=[(0,dW M),(2, .opt 2 0),(3, .opt 3 0),(4,zI ((k+1:Nat):Int))]) (ow':=[(3,⟨62,2,[.nm (S+T)]⟩),(2,⟨62,2,[.nm 0]⟩)]) aE aH),k+1,by omega,rfl,by rw[hS1]⟩
  ·obtain rfl:k=n+1:=by omega
   have hDD:Mx.D (n+1) (Mx.at' M)=Mx.sm (n+1) (jq n (Mx.at' M)):=rfl;obtain⟨S,hS⟩:∃S,S=Mx.sm (n+1) (jq n (Mx.at' M)):=⟨_,rfl⟩;rw[<-hS]at hDD;rw[<-hS];clear hS;refine dH ?_;refine gar ?_;refine fK ?_;refine oO ?_;refine dv ?_;rw[hDD];exact⟨_,bB (k:=2) cr dG dF, .one (.cell 2 62) _ rfl (.cell 2 _ _ rfl rfl ak ak)⟩
end DW
end
section
namespace Mx
def kN(k:Nat)(M:Mat):Nat->Nat->Nat
 |0,p=>p
 |f+1,p=>if at' M p k=0 then kN k M f (p+1)else p
def piv(k:Nat)(M:Mat)(p:Nat):Nat:=kN k M (M.length-p) p
theorem J8{k p:Nat}{M:Mat}(h:M.length<=p):piv k M p=p:=by
 unfold piv;rw[show M.length-p=0 by omega];rfl
theorem GG{k p:Nat}{M:Mat}(h:p<M.length)(h0:at' M p k=0):piv k M p=piv k M (p+1):=by
 unfold piv;rw[show M.length-p=(M.length-(p+1))+1 by omega];show(if at' M p k=0 then kN k M (M.length-(p+1)) (p+1)else p)=_;rw[aj h0]
theorem GH{k p:Nat}{M:Mat}(h:p<M.length)(h0:at' M p k≠0):piv k M p=p:=by
 unfold piv;rw[show M.length-p=(M.length-(p+1))+1 by omega];show(if at' M p k=0 then kN k M (M.length-(p+1)) (p+1)else p)=_;rw[ah h0]
theorem AB(k:Nat)(M:Mat):∀f p,p<=kN k M f p
 |0,p=>af _
 |f+1,p=>by
  show p<=if at' M p k=0 then kN k M f (p+1)else p
  have:=AB k M f (p+1);split<;>omega
theorem LD(k:Nat)(M:Mat)(p:Nat):p<=piv k M p:=AB k M _ p
def pZ(k:Nat)(last:Int)(p r:List Int):List Int:=(List.range r.length).map fun j=>if k<j then(p.getD k 0*r.getD j 0-r.getD k 0*p.getD j 0)/last else r.getD j 0
theorem jz(k:Nat)(last:Int)(p r:List Int):(pZ k last p r).length=r.length:=by simp[pZ]
theorem pY{k j:Nat}{last:Int}{p r:List Int}(h:j<r.length):(pZ k last p r)[j]?=some (if k<j then(p.getD k 0*r.getD j 0-r.getD k 0*p.getD j 0)/last else r.getD j 0):=by
 unfold pZ;rw[db,tX h];rfl
theorem A8{k j:Nat}{last:Int}{p r:List Int}(h:j<r.length):(pZ k last p r).getD j 0=if k<j then(p.getD k 0*r.getD j 0-r.getD k 0*p.getD j 0)/last else r.getD j 0:=by
 rw[aF,pY h];rfl
def bK(k:Nat)(last:Int)(M:Mat):Nat->Mat
 |0=>M
 |t+1=>(bK k last M t).set (k+1+t) (pZ k last (rw M k) (rw M (k+1+t)))
theorem uV(k:Nat)(last:Int)(M:Mat):∀t,(bK k last M t).length=M.length
 |0=>rfl
 |t+1=>by rw[bK,dc,uV k last M t]
theorem sA(k:Nat)(last:Int)(M:Mat):∀t,k+1+t<=M.length->∀i,rw (bK k last M t) i=if k+1<=i/\i<k+1+t then pZ k last (rw M k) (rw M i)else rw M i
 |0,_,i=>by rw[ah aa];rfl
 |t+1,h,i=>by
  rw[bK,jX _ _ _ _ (by rw[uV];omega),sA k last M t aa];by_cases e:i=k+1+t
  ·rw[aj e,aj aa,e]
  ·rw[ah e];by_cases e2:k+1<=i/\i<k+1+t
   ·rw[aj e2,aj aa]
   ·rw[ah e2,ah aa]
theorem Dd{n k:Nat}{last:Int}{M:Mat}(h:Rc n M):∀t,k+1+t<=M.length->Rc n (bK k last M t)
 |0,_=>h
 |t+1,ht=>by
  rw[bK];exact(Dd h t aa).set (by rw[jz];exact h.rw aa)
def nR(k:Nat)(last:Int)(M:Mat):Mat:=bK k last M (M.length-(k+1))
theorem bK_bd{n X k t:Nat}{last:Int}{M:Mat}(h:Rc n M)(hb:Bd X M)(h1:1<=X)(ht:k+1+t<=M.length):Bd (2*X*X) (bK k last M t):=fun i j=>by
 have hX:X<=2*X*X:=by
  have:X*1<=2*X*X:=bZ aa h1;omega
 unfold at';rw[sA k last M t ht];split
 ·next e=>
  by_cases hj:j<n
  ·have hl:(rw M i).length=n:=h.rw aa;rw[A8 (by rw[hl];exact hj)];split
   ·refine bc (rq _ _) ?_;have e1:((rw M k).getD k 0*(rw M i).getD j 0).natAbs<=X*X:=by
     rw[eL];exact bZ (hb k k) (hb i j)
    have e2:((rw M i).getD k 0*(rw M k).getD j 0).natAbs<=X*X:=by
     rw[eL];exact bZ (hb i k) (hb k j)
    have e3:2*X*X=X*X+X*X:=by rw[cg,Nat.two_mul]
    omega
   ·exact bc (hb i j) hX
  ·rw[aF,gw (by rw[jz,h.rw aa];omega)];simp
 ·exact bc (hb i j) hX
def bGo:Nat->Nat->Mat->Int->Int->Int
 |0,_,_,last,s=>s*last
 |r+1,k,M,last,s=>
  if piv k M k=M.length then 0
  else bGo r (k+1) (nR k last (if piv k M k=k then M else swp M k (piv k M k))) (at' M (piv k M k) k) (if piv k M k=k then s else-s)
def vW(M:Mat):Int:=bGo M.length 0 M 1 1
def bE(e k:Nat):Nat:=2^k*(e+1)-1
theorem KS(e:Nat):bE e 0=e:=by simp[bE]
theorem A9(e k:Nat):2*2^(bE e k)*2^(bE e k)=2^(bE e (k+1)):=by
 have h:bE e (k+1)=bE e k+bE e k+1:=by
  have h1:1<=2^k*(e+1):=mB (fl aa) aa;have h2:2^(k+1)*(e+1)=2*(2^k*(e+1)):=by rw[dw,bs (2^k) 2,cg]
  unfold bE;rw[h2];omega
 rw[h,dw,gy,bs _ 2,cg]
theorem bE_le{e k n:Nat}(h:k<=n):bE e k<=2^n*(e+1):=by
 have:=cU (e+1) (cE (n:=2) aa h);unfold bE;omega
end Mx
end
section
open Go.RowKit Go.BigFrame
attribute [local go_sem ↓] Go.wp_at_zero Go.wp_at_succ
structure Jt(w w':World)(base:Nat)(v v':Value)(l:List IV)(x:IV):Prop where
 own:mV w' base v' (l++[x])
 by':w.grownBy w' v.ownBlock
 at':v'.ownBlock=v.ownBlock\/v'.ownBlock=some w.heap.size
theorem Jt.shape{w w':World}{base:Nat}{v v':Value}{l:List IV}{x:IV}(h:Jt w w' base v v' l x):∃g c,v'= .slice (some ⟨g,0,none⟩) (l.length+1) c/\base<=g/\g<w'.heap.size:=by
 obtain⟨_,h⟩:=h.own;rw[cq,gY]at h;rcases h with⟨_,hn⟩|⟨g,cap,cur,rfl,hb,hg,_⟩
 ·omega
 ·exact⟨g,cap,rfl,hb,(dz.1 hg).1⟩
end
section
open Go.RowKit Go.BigFrame
attribute [local go_sem ↓] Go.wp_at_zero Go.wp_at_succ
theorem Ct{a b:List Int}{k:Nat}(hk:∀j,j<k->a[j]?=b[j]?):part k a b=b:=by
 have e:a.take k=b.take k:=by
  apply qE;intro j;rw[fC,fC];split
  ·exact hk j (by assumption)
  ·rfl
 unfold part;rw[e,lJ]
def bY(k:Nat)(last:Int)(N:Mx.Mat)(t j:Nat):Mx.Mat:=(Mx.bK k last N t).set (k+1+t) (part j (Mx.pZ k last (Mx.rw N k) (Mx.rw N (k+1+t))) (Mx.rw N (k+1+t)))
theorem Dc{k t:Nat}{last:Int}{N:Mx.Mat}(ht:k+1+t<N.length)(j i:Nat):Mx.rw (bY k last N t j) i=if i=k+1+t then part j (Mx.pZ k last (Mx.rw N k) (Mx.rw N (k+1+t))) (Mx.rw N (k+1+t))else Mx.rw (Mx.bK k last N t) i:=by
 unfold bY;rw[Mx.jX _ _ _ _ (by rw[Mx.uV];exact ht)]
theorem Hp{n k t:Nat}{last:Int}{N:Mx.Mat}(h:Mx.Rc n N)(ht:k+1+t<N.length):bY k last N t (k+1)=Mx.bK k last N t:=by
 have hl:(Mx.rw N (k+1+t)).length=n:=h.rw ht;unfold bY;rw[Ct (fun j hj=>by
  by_cases hjn:j<n
  ·rw[Mx.pY (by rw[hl];exact hjn),ah aa,getD_some (by rw[hl];exact hjn)]
  ·rw[gw (by rw[Mx.jz,hl];omega),gw (by rw[hl];omega)])]
 have e:Mx.rw N (k+1+t)=Mx.rw (Mx.bK k last N t) (k+1+t):=by rw[Mx.sA k last N t aa,ah aa]
 rw[e,Mx.Ln]
theorem Mz{n k t:Nat}{last:Int}{N:Mx.Mat}(h:Mx.Rc n N)(ht:k+1+t<N.length):bY k last N t n=Mx.bK k last N (t+1):=by
 have hl:(Mx.rw N (k+1+t)).length=n:=h.rw ht;unfold bY;rw[GJ (by rw[Mx.jz,hl];exact af _) (by rw[hl];exact af _)];rfl
theorem bY_k{k t:Nat}{last:Int}{N:Mx.Mat}(ht:k+1+t<N.length)(j l:Nat):Mx.at' (bY k last N t j) k l=Mx.at' N k l:=by
 unfold Mx.at';rw[Dc ht,ah aa,Mx.sA k last N t aa,ah aa]
theorem bY_i{n k t j l:Nat}{last:Int}{N:Mx.Mat}(h:Mx.Rc n N)(ht:k+1+t<N.length)(hln:l<n)(hl:j<=l\/l<=k):Mx.at' (bY k last N t j) (k+1+t) l=Mx.at' N (k+1+t) l:=by
 have hrl:(Mx.rw N (k+1+t)).length=n:=h.rw ht;unfold Mx.at';rw[Dc ht,aj rfl,aF,aF];congr 1;unfold part;by_cases hj:j<=l
 ·by_cases hjn:j<=n
  ·rw[iC BS,aP,Mx.jz,hrl,cV hjn,gJ];congr 1;omega
  ·omega
 ·rw[et (by rw[aP,Mx.jz,hrl];omega),fS aa,Mx.pY (by rw[hrl];exact hln),ah aa,getD_some (by rw[hrl];exact hln)]
theorem KP{n k t j:Nat}{last:Int}{N:Mx.Mat}(h:Mx.Rc n N)(ht:k+1+t<N.length)(hj:k<j)(hjn:j<n):
  (bY k last N t j).set (k+1+t) ((Mx.rw (bY k last N t j) (k+1+t)).set j ((Mx.at' N k k*Mx.at' N (k+1+t) j-Mx.at' N (k+1+t) k*Mx.at' N k j)/last))=bY k last N t (j+1):=by
 have hrl:(Mx.rw N (k+1+t)).length=n:=h.rw ht;rw[Dc ht,aj rfl,GI (Mx.jz _ _ _ _) (by rw[Mx.pY (by rw[hrl];exact hjn),aj hj];rfl)];unfold bY;rw[List.set_set]
structure DI(w wr:World)(gm L n:Nat)(gs cs:Nat->Nat)(X:Mx.Mat)(y:IV)(last:Int):Prop where
 bl:Below w.heap.size w wr
 mb:MB wr (w.heap.size+1) gm n gs cs n X
 len:X.length=n
 gl:gm<L
 gsl:∀i,i<n->gs i<L
 lt:L<wr.heap.size
 l0:wr.cell? ⟨L,0,none⟩=some (.bool y.s)
 l1:wr.cell? ⟨L,1,none⟩=some (.slice y.a y.n y.cap)
 lf:∀i,wr.frozen? ⟨L,i,none⟩=false
 iz:IZ wr y last
 r0:wr.cell? ⟨w.heap.size,0,none⟩=some (.bool false)
 r1:wr.cell? ⟨w.heap.size,1,none⟩=some (.slice none 0 0)
 rf:∀i,wr.frozen? ⟨w.heap.size,i,none⟩=false
theorem DI.rlt{w wr:World}{gm L n:Nat}{gs cs:Nat->Nat}{X:Mx.Mat}{y:IV}{last:Int}(h:DI w wr gm L n gs cs X y last):w.heap.size<gm/\w.heap.size<wr.heap.size:=by
 have:=h.mb.b;have:=h.mb.lt;omega
theorem NW.bool{w:World}{g:Nat}{b:Bool}(h:w.cell? ⟨g,0,none⟩=some (.bool b)):NW w g:=fun n e=>by rw[h]at e;cases e
theorem DI.below{w wr wx:World}{gm L n:Nat}{gs cs:Nat->Nat}{X:Mx.Mat}{y:IV}{last:Int}(h:DI w wr gm L n gs cs X y last)(k:Below wr.heap.size wr wx):DI w wx gm L n gs cs X y last:=
 have hr:=h.rlt.2
 ⟨h.bl.trans (k.mono (bR hr)),h.mb.below k (af _),h.len,h.gl,h.gsl,aK h.lt k.size,(k.cell (p:=⟨L,0,none⟩) h.lt).trans h.l0,(k.cell (p:=⟨L,1,none⟩) h.lt).trans h.l1,fun i=>(k.frozen (p:=⟨L,i,none⟩) h.lt).trans (h.lf i),h.iz.below k (af _),
  (k.cell (p:=⟨w.heap.size,0,none⟩) hr).trans h.r0,(k.cell (p:=⟨w.heap.size,1,none⟩) hr).trans h.r1,fun i=>(k.frozen (p:=⟨w.heap.size,i,none⟩) hr).trans (h.rf i)⟩
theorem DI.chg{w wr wx:World}{gm L n:Nat}{gs cs gs2 cs2:Nat->Nat}{X X2:Mx.Mat}{y:IV}{last:Int}{b:Nat}(h:DI w wr gm L n gs cs X y last)(k:Chg b wr wx)(hb:w.heap.size<b)(hbL:b<L)(hnw:NW wr b)(hm:MB wx (w.heap.size+1) gm n gs2 cs2 n X2)(hl:X2.length=n)(hg:∀i,i<n->gs2 i<L):DI w wx gm L n gs2 cs2 X2 y last:=
 have hr:=h.rlt.2
 ⟨k.below h.bl (bR hb) (bR hr),hm,hl,h.gl,hg,aK h.lt k.size,(k.cell h.lt aa).trans h.l0,(k.cell h.lt aa).trans h.l1,fun i=>(k.frozen h.lt aa).trans (h.lf i),h.iz.chg k hnw,
  (k.cell hr aa).trans h.r0,(k.cell hr aa).trans h.r1,fun i=>(k.frozen hr aa).trans (h.rf i)⟩
theorem MB.oth{b:Nat}{w w':World}{B gm L:Nat}{gs cs:Nat->Nat}{n:Nat}{M:Mx.Mat}(h:MB w B gm L gs cs n M)(k:Chg b w w')(hb:NW w b)(hg:gm≠b)(hgs:∀i,i<M.length->gs i≠b):MB w' B gm L gs cs n M:=by
 refine⟨h.b,aK h.lt k.size,fun j=>(k.frozen h.lt hg).trans (h.fr j),fun i hi=>?_,h.nw.lY (k.cell h.lt hg),h.ml,h.rc,fun i hi=>?_,h.dj⟩
 ·obtain⟨u,hu⟩:=h.hl i hi;exact⟨u,(k.cell h.lt hg).trans hu⟩
 ·obtain⟨a,h1,h2,hA,h3⟩:=h.hc i hi;exact⟨a,(k.cell h.lt hg).trans h1,h2,hA,fun h0=>⟨(h3 h0).1,(h3 h0).2.1,(h3 h0).2.2.1,(h3 h0).2.2.2.chg k hb (hgs i hi)⟩⟩
theorem DI.row{w wr:World}{gm L n:Nat}{gs cs:Nat->Nat}{X:Mx.Mat}{y:IV}{last:Int}(h:DI w wr gm L n gs cs X y last){i j:Nat}(hi:i<n)(hj:j<n){x:IV}{z:Int}(hx:IZ wr x z):DI w (ff wr (gs i) j x) gm L n gs cs (X.set i ((Mx.rw X i).set j z)) y last:=by
 have hi2:i<X.length:=by rw[h.len];exact hi
 have hm:=h.mb.mo aa;obtain⟨h1,h2,h3,h4,h5⟩:=hm.hc i hi2;have hnw:=hm.Ey hi2;have k:Chg (gs i) wr (ff wr (gs i) j x):=sW (Chg.refl _ _) j x;have hrl:(Mx.rw X i).length=n:=hm.rc.rw hi2;have ho:RO (ff wr (gs i) j x) (gs i) ((Mx.rw X i).set j z):=h5.set (by rw[hrl];exact hj) hx;exact h.chg k aa (h.gsl i hi) hnw (hm.setRow hi2 (by rw[dc];exact hrl) k ho).mb (by rw[dc];exact h.len) h.gsl
theorem DI.swp{w wr:World}{gm L n:Nat}{gs cs:Nat->Nat}{X:Mx.Mat}{y:IV}{last:Int}(h:DI w wr gm L n gs cs X y last){i j:Nat}(hi:i<n)(hj:j<n):
  DI w ((wr.setCell ⟨gm,i,none⟩ (.slice (some ⟨gs j,0,none⟩) n (cs j))).setCell ⟨gm,j,none⟩ (.slice (some ⟨gs i,0,none⟩) n (cs i))).drew gm L n (ix gs i j) (ix cs i j) (Mx.swp X i j) y last:=by
 have k:Chg gm wr ((wr.setCell ⟨gm,i,none⟩ (.slice (some ⟨gs j,0,none⟩) n (cs j))).setCell ⟨gm,j,none⟩ (.slice (some ⟨gs i,0,none⟩) n (cs i))):=((Chg.refl gm wr).set gm _ _ (.inl rfl)).set gm _ _ (.inl rfl);refine(h.chg k h.rlt.1 h.gl h.mb.nw ((h.mb.mo aa).swp (by rw[h.len];exact hi) (by rw[h.len];exact hj)).mb (by rw[Mx.cW];exact h.len) (fun l hl=>?_)).below (Below.refl _ _).drew;unfold ix;split
 ·exact h.gsl i hi
 ·split
  ·exact h.gsl j hj
  ·exact h.gsl l hl
theorem DI.last{w wr:World}{gm L n:Nat}{gs cs:Nat->Nat}{X:Mx.Mat}{y:IV}{last:Int}(h:DI w wr gm L n gs cs X y last){x:IV}{z:Int}(hx:IZ wr x z):DI w ((wr.setCell ⟨L,0,none⟩ (.bool x.s)).setCell ⟨L,1,none⟩ (.slice x.a x.n x.cap)) gm L n gs cs X x z:=by
 have k:Chg L wr ((wr.setCell ⟨L,0,none⟩ (.bool x.s)).setCell ⟨L,1,none⟩ (.slice x.a x.n x.cap)):=((Chg.refl L wr).set L _ _ (.inl rfl)).set L _ _ (.inl rfl);have hnw:=NW.bool h.l0;have hr:=h.rlt;have hL:w.heap.size≠L:=by have:=h.gl;omega
 refine⟨k.below h.bl (by have:=h.gl;omega) (bR hr.2),h.mb.oth k hnw (by have:=h.gl;omega) (fun i hi=>by have:=h.gsl i (by rw[<-h.len];exact hi);omega),h.len,h.gl,h.gsl,by simpa using h.lt,?_,?_,fun i=>by rw[World.frozen?_setCell,World.frozen?_setCell];exact h.lf i,hx.chg k hnw,(k.cell hr.2 hL).trans h.r0,(k.cell hr.2 hL).trans h.r1,fun i=>(k.frozen hr.2 hL).trans (h.rf i)⟩
 ·rw[dR _ _ _ _ _ aa];exact eU _ _ _ _ _ h.l0
 ·exact eU _ _ _ _ _ ((dR _ _ _ _ _ aa).trans h.l1)
end
section
open Go.RowKit Go.BigFrame
attribute [local go_sem ↓] Go.wp_at_zero Go.wp_at_succ
set_option maxRecDepth 20000 in
set_option maxHeartbeats 0 in
theorem KF(M:Mx.Mat)(n e:Nat)(v:Value)(hlen:M.length=n)(hn:n<=1000)(he:2^n*(e+1)<=6000000000000)(hb:Mx.Bd (2^e) M)(w:World)(h:MR w v n M):
  Calls Tryz.prog 96 #[v] w fun e w'=>(∃z,e= .returned (.agg #[.bool z.s,.slice z.a z.n z.cap])/\IZ w' z (Mx.vW M))/\Below w.heap.size w w':=by
 have HRC:Hid (Mx.Rc n M):=by obtain⟨_,_,_,_,h3,_⟩:=h;exact h3
 have CL:Hid (∀w,MR w v n M->Calls Tryz.prog 156 #[v] w fun e w'=>(∃gm gs cs cap,e= .returned (.slice (some ⟨gm,0,none⟩) n cap)/\n<=cap/\MB w' w.heap.size gm n gs cs n M)/\Below w.heap.size w w'):=fun w h=>by
  have h1:=CD M n v aa aa w h;unfold Dn at h1;rw[hlen]at h1;exact h1
 have OF:=ae (fun w=>ri 1 aa w);have H:=ae h;have HB0:Hid (Mx.Bd (2^(Mx.bE e 0)) M):=by show Mx.Bd _ _;rw[Mx.KS];exact hb
 have HE:Hid (∀k,k<=n->Mx.bE e k<=6000000000000):=fun k hk=>bc (Mx.bE_le hk) he;have HG0:Hid (Mx.bGo (n-0) 0 M 1 1=Mx.vW M):=by show _=_;unfold Mx.vW;rw[hlen];rfl
 have HLN:=ae hlen;obtain⟨a,cap,rfl,_⟩:=h;rw[hlen]at H CL⊢;generalize Mx.vW M=Z at*;clear he hb hlen
 go_enter Tryz.func96,Tryz.ntmps96
 go_wp2_with (first
  |(go_at_call 156;((with_reducible refine(CL.out _ (H.out.below (B:=w.heap.size) aJ (af _))).mono ?_);rintro e w4 ⟨⟨gm,gs,cs,c4,rfl,hc4,hm⟩,hb4⟩;have HM:=ae hm;clear hm;have HB4:=ae hb4;clear hb4))
  |(go_at_call 124;((with_reducible refine(OF.out _).mono ?_);rintro e w5 ⟨⟨y,rfl,hy⟩,hb5⟩;have HY:=ae hy;have HB5:=ae hb5;clear hb5 hy)))
 have hsz0:(w.alloc (.cells #[.bool false,.slice none 0 0] 62)).heap.size=w.heap.size+1:=by simp
 have hD:DI w (w5.alloc (.cells #[.bool y.s,.slice y.a y.n y.cap] 62)) gm w5.heap.size n gs cs M y 1:=by
  have hm5:MB w5 (w.heap.size+1) gm n gs cs n M:=by
   have:=HM.out.below HB5.out (af _);rw[hsz0]at this;exact this
  have hgs:∀i,i<n->gs i<w5.heap.size:=fun i hi=>by
   obtain⟨_,_,_,_,h6⟩:=hm5.hc i (by rw[HLN.out];exact hi);exact(h6 aa).2.2.2.lt
  have hb1:Below w.heap.size w (w.alloc (.cells #[.bool false,.slice none 0 0] 62)):=by exact bel
  have hb4:Below w.heap.size w w4:=hb1.trans (HB4.out.mono aa);have hb5:Below w.heap.size w w5:=hb4.trans (HB5.out.mono hb4.size);have hlt4:w.heap.size<w4.heap.size:=by have:=HB4.out.size;omega
  have hlt5:w.heap.size<w5.heap.size:=by have:=HB5.out.size;omega
  have hh:=heap_alloc_new w (.cells #[.bool false,.slice none 0 0] 62);have hh5:=heap_alloc_new w5 (.cells #[.bool y.s,.slice y.a y.n y.cap] 62);have hbl:(w5.alloc (.cells #[.bool y.s,.slice y.a y.n y.cap] 62)).heap[w.heap.size]?=some (.cells #[.bool false,.slice none 0 0] 62):=(((Below.refl w5.heap.size w5).alloc (af _) _).block _ hlt5).trans ((HB5.out.block _ hlt4).trans ((HB4.out.block _ aa).trans hh));refine⟨hb5.alloc aa _,hm5.below ((Below.refl w5.heap.size w5).alloc (af _) _) (af _),HLN.out,hm5.lt,hgs,by simp,?_,?_,fun i=>?_,HY.out.below ((Below.refl w5.heap.size w5).alloc (af _) _) (af _),?_,?_,fun i=>?_⟩
  ·rw[cell_of_row _ w5.heap.size _ _ _ (0,0) hh5];rfl
  ·rw[cell_of_row _ w5.heap.size _ _ _ (0,0) hh5];rfl
  ·simp only[World.frozen?];rw[hh5];simp
  ·rw[cell_of_row _ w.heap.size _ _ _ (0,0) hbl];rfl
  ·rw[cell_of_row _ w.heap.size _ _ _ (0,0) hbl];rfl
  ·simp only[World.frozen?];rw[hbl];simp
 have HD:=ae hD;have f2:Hid (Fit 1):=gO (e:=1) aU aa;clear hD HM HB4 HY HB5 CL OF H hsz0;generalize w5.heap.size=L at*
 go_loopw [6,17] (fun s i wr=>∃(k:Nat) (sg:Int) (gs cs:Nat->Nat) (X:Mx.Mat) (y:IV) (last:Int),k<=n/\i= .int .i64 ((k:Int))/\s= .int .i64 sg/\(sg=1\/sg= -1)/\Hid (DI w wr gm L n gs cs X y last)/\Hid (Mx.bGo (n-k) k X last sg=Z)/\Hid (Mx.Bd (2^(Mx.bE e k)) X/\Mx.Rc n X/\Fit last)) (fun _ i _=>n-(intOf i).toNat)
 case atStart=>exact⟨0,1,gs,cs,M,y,1,by omega,rfl,rfl,.inl rfl,HD.out,HG0.out,HB0.out,HRC.out,f2.out⟩
 case round=>
  clear HD HG0 HB0 HRC f2 HLN;obtain⟨k,sg,gs,cs,X,y,last,hk,rfl,rfl,hsg,HD,HG,HX⟩:=hrel;by_cases hkn:k<n
  ·have hkn2:(k:Int)<(n:Int):=by omega
   go_wp2_with fail
   obtain⟨P,hP⟩:∃P,Mx.piv k X k=P:=⟨_,rfl⟩;have HP:=ae hP;have hPE:=ae hP
   go_loopw [8] (fun s wx=>∃p:Nat,k<=p/\p<=n/\s= .int .i64 ((p:Int))/\Hid (DI w wx gm L n gs cs X y last)/\Hid (Mx.piv k X p=P)/\Hid (∀q,k<=q->q<p->Mx.at' X q k=0)) (fun s _=>n-(intOf s).toNat)
   case atStart=>exact⟨k,af _,hk,rfl,HD.out,HP.out,fun q h1 h2=>by omega⟩
   case round=>
    clear HD hP HP;obtain⟨p,hkp,hpn,rfl,HD,HP,HQ⟩:=hrel;have hdl:=HD.out.lt;by_cases hp:p<n
    ·have hp2:(p:Int)<(n:Int):=by omega
     have hp3:decide ((p:Int)<(n:Int))=true:=by rw[eA];exact hp2
     have hmo:=HD.out.mb.mo aa;obtain⟨x,kx,x0,x1,xz,xl⟩:=hmo.elem (i:=p) (j:=k) (by rw[HD.out.len];exact hp) hkn;have hgl:=hmo.lt;have HXZ:=ae xz;obtain⟨xs,xa,xn,xc⟩:=x;simp only[]at x0 x1;clear xz hmo;by_cases hz:Mx.at' X p k=0
     ·have hd:decide (Mx.at' X p k=0)=true:=by rw[eA];exact hz
      have ZE:=ae (fun w hx=>hd▸qM ⟨xs,xa,xn,xc⟩ (Mx.at' X p k) w hx);have HZ:=ae hz;clear hz hd
      go_wp2_with ((go_at_call 95;(with_reducible refine(ZE.out _ ?_).mono ?_);(exact HXZ.out.below (B:=wr.heap.size) aJ (af _));rintro e w1 ⟨rfl,hb1⟩;obtain⟨g1,rfl⟩:=mob hb1;clear hb1))
      go_roundw
      case rel=>exact⟨p+1,by omega,by omega,by go_num,HD.out.below aJ,(Mx.GG (by rw[HD.out.len];exact hp) HZ.out).symm.trans HP.out,fun q h1 h2=>if e:q=p then(by rw[e];exact HZ.out)else HQ.out q h1 aa⟩
      case measure=>simp[intOf];omega
     ·have hd:decide (Mx.at' X p k=0)=false:=by rw[dD];exact hz
      have ZE:=ae (fun w hx=>hd▸qM ⟨xs,xa,xn,xc⟩ (Mx.at' X p k) w hx);have HZ:=ae hz;have hpp:Mx.piv k X p=p:=Mx.GH (by rw[HD.out.len];exact hp) hz;have hPp:P=p:=HP.out.symm.trans hpp;subst hPp;have h10:((P:Int)==(n:Int))=false:=by rw[beq_eq_false_iff_ne];omega
      clear hz hd hpp HP
      go_upto_region 10 with((go_at_call 95;(with_reducible refine(ZE.out _ ?_).mono ?_);(exact HXZ.out.below (B:=wr.heap.size) aJ (af _));rintro e w1 ⟨rfl,hb1⟩;obtain⟨g1,rfl⟩:=mob hb1;clear hb1))
      have hkk:=(HD.out.mb.mo aa).hc k (by rw[HD.out.len];exact hkn);have kk:=hkk.1;have fk:=HD.out.mb.fr k;have fp:=HD.out.mb.fr P;have hrl:=HD.out.rlt.1;have HDx:Hid (DI w (more wr g1) gm L n gs cs X y last):=HD.out.below aJ;clear hkk
      go_upto_if 42 with fail
      go_cut [6]from 18 to 119 (fun s wy=>s= .int .i64 (if P=k then sg else-sg)/\Hid (∃gs2 cs2,DI w wy gm L n gs2 cs2 (if P=k then X else Mx.swp X k P) y last))
      case first=>
       as_aux_lemma=>
        by_cases hpk:P=k
        ·subst hpk
         go_wp2_with fail
         go_meet
         case rel=>exact⟨by rw[aj trivial],gs,cs,by rw[aj trivial];exact HDx.out⟩
        ·have hpk2:((P:Int) !=(k:Int))=true:=by rw[bne_iff_ne];omega
         have hpk3:((P:Int)==(k:Int))=false:=by rw[beq_eq_false_iff_ne];omega
         have hpk4:¬P=k:=hpk;have hpk5:¬k=P:=fun e=>hpk e.symm;have HSW:=ae (HDx.out.swp hkn hp)
         go_upto_region 13 with fail
         go_region
         all_goals(go_wp2_with fail;go_meet)
         case rel=>
          have h9:=HSW.out;have e9:(((more wr g1).setCell ⟨gm,k,none⟩ (.slice (some ⟨gs P,0,none⟩) n (cs P))).setCell ⟨gm,P,none⟩ (.slice (some ⟨gs k,0,none⟩) n (cs k))).drew=more ((wr.setCell ⟨gm,k,none⟩ (.slice (some ⟨gs P,0,none⟩) n (cs P))).setCell ⟨gm,P,none⟩ (.slice (some ⟨gs k,0,none⟩) n (cs k))) (g1.1+1,g1.2):=by go_simp
          rw[e9]at h9;exact⟨by rw[ah hpk],_,_,by rw[ah hpk];exact h9⟩
      case rest=>
       obtain⟨rfl,HD2⟩:=hcut;have hswp:Mx.Bd (2^(Mx.bE e k)) (if P=k then X else Mx.swp X k P)/\Mx.Rc n (if P=k then X else Mx.swp X k P)/\Mx.at' (if P=k then X else Mx.swp X k P) k k=Mx.at' X P k:=by
        have hl:=HD.out.len;by_cases hpk:P=k
        ·rw[aj hpk,hpk];exact⟨HX.out.1,HX.out.2.1,rfl⟩
        ·rw[ah hpk];refine⟨Mx.yo HX.out.1 aa aa,Mx.jV HX.out.2.1 aa aa,?_⟩;rw[Mx.eM aa aa,ah aa,aj rfl]
       have HGN:Hid (Mx.bGo (n-(k+1)) (k+1) (Mx.nR k last (if P=k then X else Mx.swp X k P)) (Mx.at' (if P=k then X else Mx.swp X k P) k k) (if P=k then sg else-sg)=Z):=by
        have h1:=HG.out;rw[show n-k=(n-(k+1))+1 by omega]at h1;unfold Mx.bGo at h1;rw[hPE.out,HD.out.len,ah aa]at h1;rw[hswp.2.2];exact h1
       have hsg2:(if P=k then sg else-sg)=1\/(if P=k then sg else-sg)= -1:=by split<;>omega
       have HX2:Hid (Mx.Bd (2^(Mx.bE e k)) (if P=k then X else Mx.swp X k P)/\Mx.Rc n (if P=k then X else Mx.swp X k P)):=⟨hswp.1,hswp.2.1⟩;have FL:Hid (Fit last):=HX.out.2.2;have HL2:Hid ((if P=k then X else Mx.swp X k P).length=n):=by
        have hl:=HD.out.len;show _=_;split
        ·exact hl
        ·rw[Mx.cW];exact hl
       clear HD HDx hPE HG HX HQ HZ hswp hp3 kx x0 x1 xl hgl HXZ kk fk fp hdl;generalize(if P=k then X else Mx.swp X k P)=X2 at*;generalize(if P=k then sg else-sg)=sg2 at*;obtain⟨gs2,cs2,hd2⟩:=HD2.out;have HD2:=ae hd2;clear hd2;have HB2:Hid (∀t,k+1+t<=n->Mx.Bd (2^(Mx.bE e (k+1))) (Mx.bK k last X2 t)):=fun t ht=>by
        have:=Mx.bK_bd (last:=last) (k:=k) (t:=t) HX2.out.2 HX2.out.1 (fl aa) (by rw[HL2.out];exact ht);rw[Mx.A9]at this;exact this
       have hE1:=HE.out (k+1) aa;have hdl:=HD2.out.lt
       go_wp2_with fail
       go_loopw [9] (fun s wx=>∃i:Nat,k+1<=i/\i<=n/\s= .int .i64 ((i:Int))/\Hid (DI w wx gm L n gs2 cs2 (Mx.bK k last X2 (i-(k+1))) y last)) (fun s _=>n-(intOf s).toNat)
       case atStart=>exact⟨k+1,af _,by omega,by go_num,by rw[fE];exact HD2.out⟩
       case round=>
        clear HD2 hdl;obtain⟨i,hki,hin,rfl,HD⟩:=hrel;by_cases hi:i<n
        ·have hi2:(i:Int)<(n:Int):=by omega
         have hit:k+1+(i-(k+1))=i:=by omega
         have hlt:k+1+(i-(k+1))<X2.length:=by rw[HL2.out];omega
         have HS0:Hid (bY k last X2 (i-(k+1)) (k+1)=Mx.bK k last X2 (i-(k+1))):=Hp HX2.out.2 hlt;have HSN:Hid (bY k last X2 (i-(k+1)) n=Mx.bK k last X2 (i+1-(k+1))):=by
          show _=_;rw[Mz HX2.out.2 hlt,show i+1-(k+1)=i-(k+1)+1 by omega]
         have HYK:=ae (fun j l=>bY_k (last:=last) hlt j l);have HYI:=ae (fun j l (hl:l<n) (h:j<=l\/l<=k)=>bY_i (last:=last) (j:=j) HX2.out.2 hlt hl h);have HYS:=ae (fun j (hj:k<j) (hjn:j<n)=>KP (last:=last) HX2.out.2 hlt hj hjn);rw[hit]at HYI HYS;clear hlt hit
         go_wp2_with fail
         go_loopw [10] (fun s wx=>∃j:Nat,k+1<=j/\j<=n/\s= .int .i64 ((j:Int))/\Hid (DI w wx gm L n gs2 cs2 (bY k last X2 (i-(k+1)) j) y last)) (fun s _=>n-(intOf s).toNat)
         case atStart=>exact⟨k+1,af _,by omega,by go_num,by show DI _ _ _ _ _ _ _ _ _ _;rw[HS0.out];exact HD.out⟩
         case round=>
          clear HD HS0;obtain⟨j,hkj,hjn,rfl,HD⟩:=hrel;have hdl:=HD.out.lt;by_cases hj:j<n
          ·have hj2:(j:Int)<(n:Int):=by omega
           have hmo:=HD.out.mb.mo aa;have hln:=HD.out.len;have hrc:=hmo.rc;have e1:=HYK.out j k;have e2:=HYK.out j j;have e3:=HYI.out j j hj (.inl (af _));have e4:=HYI.out j k hkn (.inr (af _));have e5:=HYS.out j aa hj;generalize hYE:bY k last X2 (i-(k+1)) j=Y at*;obtain⟨p,kp,p0,p1,pz,pl⟩:=hmo.elem (i:=k) (j:=k) aa hkn;obtain⟨q,kq,q0,q1,qz,ql⟩:=hmo.elem (i:=i) (j:=j) aa hj;obtain⟨r,_,r0,r1,rz,rl⟩:=hmo.elem (i:=i) (j:=k) aa hkn;obtain⟨t,_,t0,t1,tz,tl⟩:=hmo.elem (i:=k) (j:=j) aa hj;rw[e1]at pz;rw[e3]at qz;rw[e4]at rz;rw[e2]at tz;have f0:=(hmo.hc i aa).2.2.2.2.at (k:=j) (getD_some (by rw[hrc.rw aa];exact hj));obtain⟨_,c9,d9,i9,f0,f1⟩:=f0;clear c9 d9 i9;have HP:=ae pz;have HQ:=ae qz;have HR:=ae rz;have HT:=ae tz;have hgl:=hmo.lt;have B1:=HX2.out.1 k k;have B2:=HX2.out.1 i j;have B3:=HX2.out.1 i k;have B4:=HX2.out.1 k j;have HE5:=ae e5;have l0:=HD.out.l0;have l1:=HD.out.l1;generalize Mx.at' X2 k k=Pz at*;generalize Mx.at' X2 i j=Qz at*;generalize Mx.at' X2 i k=Rz at*;generalize Mx.at' X2 k j=Tz at*;have m1:(Pz*Qz).natAbs<=2^(Mx.bE e k)*2^(Mx.bE e k):=by rw[eL];exact bZ B1 B2
           have m2:(Rz*Tz).natAbs<=2^(Mx.bE e k)*2^(Mx.bE e k):=by rw[eL];exact bZ B3 B4
           have hS:=Mx.A9 e k;rw[cg]at hS;have hE0:=HE.out k hk;have FP:Hid (Fit Pz):=gO B1 hE0;have FQ:Hid (Fit Qz):=gO B2 hE0;have FR:Hid (Fit Rz):=gO B3 hE0;have FT:Hid (Fit Tz):=gO B4 hE0;have F1:Hid (Fit (Pz*Qz)):=gO (e:=Mx.bE e (k+1)) aa hE1;have F2:Hid (Fit (Rz*Tz)):=gO (e:=Mx.bE e (k+1)) aa hE1;have F3:Hid (Fit (Pz*Qz-Rz*Tz)):=gO (e:=Mx.bE e (k+1)) aa hE1;have hx1:gs2 i<wr.heap.size:=ql;clear e1 e2 e3 e4 e5 pz qz rz tz hrc hmo hln B1 B2 B3 B4 m1 m2 hS hE0 hYE;obtain⟨ps,pa,pn,pc⟩:=p;obtain⟨qs,qa,qn,qc⟩:=q;obtain⟨rs,ra,rn,rc⟩:=r;obtain⟨ts,ta,tn,tc⟩:=t;obtain⟨ys,ya,yn,yc⟩:=y;simp only[]at p0 p1 q0 q1 r0 r1 t0 t1 l0 l1
           go_wp2_with fail
           (apply Own3.kH 39 [Sum.inl _,Sum.inl _,Sum.inl _,Sum.inl _,Sum.inl _,Sum.inl _,Sum.inl _,Sum.inl _,Sum.inl _,Sum.inl _,Sum.inl _,Sum.inl _,Sum.inl _,Sum.inl _,Sum.inl _,Sum.inl _,Sum.inl _,Sum.inl _,Sum.inl _,Sum.inr (rIZ (Pz*Qz)),Sum.inl _,Sum.inl _,Sum.inl _,Sum.inl _,Sum.inl _,Sum.inl _,Sum.inl _,Sum.inl _,Sum.inl _,Sum.inl _,Sum.inl _,Sum.inl _,Sum.inl _,Sum.inl _,Sum.inr (rIZ (Rz*Tz)),Sum.inr (rIZ (Pz*Qz-Rz*Tz)),Sum.inl _,Sum.inr (rIZ ((Pz*Qz-Rz*Tz)/last)),Sum.inl _] ak ak;simp only[eZ,eE,fF,eO];refine cS ?_;refine cS ?_;refine cS ?_;refine cS ?_;refine cS ?_;refine cS ?_;refine cS ?_;refine cS ?_;refine cS ?_;refine cS ?_;refine cS ?_;refine cS ?_;refine cS ?_;refine cS ?_;refine cS ?_;refine cS ?_;refine cS ?_;refine cS ?_;refine cS ?_;(refine Own3.jv rfl (fun K hK=>?_) (fun x211=>?_);(focus(go_simp;clear hK K;intro w' hw' hcb';first|(go_at_call 117;(first|with_reducible exact fm (iJ ⟨ps,pa,pn,pc⟩ ⟨qs,qa,qn,qc⟩ Pz Qz FP.out FQ.out _ ((HP.out.below (Ext.below hw') (af _)).ip) ((HQ.out.below (Ext.below hw') (af _)).ip))|exact fm (iJ ⟨rs,ra,rn,rc⟩ ⟨ts,ta,tn,tc⟩ Rz Tz FR.out FT.out _ ((HR.out.below (Ext.below hw') (af _)).ip) ((HT.out.below (Ext.below hw') (af _)).ip))))|(go_at_call 159;(have h1:=hcb'.get (u:=19) jO;have h2:=hcb'.get (u:=34) jO;exact fm (kL x211 x212 (Pz*Qz) (Rz*Tz) F1.out F2.out _ (IZ.ip (show IZ w' x211 (Pz*Qz)from h1)) (IZ.ip (show IZ w' x212 (Rz*Tz)from h2)))))|(go_at_call 121;(have h1:=hcb'.get (u:=35) jO;exact fm (mD x213 ⟨ys,ya,yn,yc⟩ (Pz*Qz-Rz*Tz) last F3.out FL.out _ (IZ.ip (show IZ w' x213 (Pz*Qz-Rz*Tz)from h1)) ((HD.out.iz.below (Ext.below hw') (af _)).ip))))));simp only[rIZ,Act.put,og,lI,gg]);refine cS ?_;refine cS ?_;refine cS ?_;refine cS ?_;refine cS ?_;refine cS ?_;refine cS ?_;refine cS ?_;refine cS ?_;refine cS ?_;refine cS ?_;refine cS ?_;refine cS ?_;refine cS ?_;(refine Own3.jv rfl (fun K hK=>?_) (fun x212=>?_);(focus(go_simp;clear hK K;intro w' hw' hcb';first|(go_at_call 117;(first|with_reducible exact fm (iJ ⟨ps,pa,pn,pc⟩ ⟨qs,qa,qn,qc⟩ Pz Qz FP.out FQ.out _ ((HP.out.below (Ext.below hw') (af _)).ip) ((HQ.out.below (Ext.below hw') (af _)).ip))|exact fm (iJ ⟨rs,ra,rn,rc⟩ ⟨ts,ta,tn,tc⟩ Rz Tz FR.out FT.out _ ((HR.out.below (Ext.below hw') (af _)).ip) ((HT.out.below (Ext.below hw') (af _)).ip))))|(go_at_call 159;(have h1:=hcb'.get (u:=19) jO;have h2:=hcb'.get (u:=34) jO;exact fm (kL x211 x212 (Pz*Qz) (Rz*Tz) F1.out F2.out _ (IZ.ip (show IZ w' x211 (Pz*Qz)from h1)) (IZ.ip (show IZ w' x212 (Rz*Tz)from h2)))))|(go_at_call 121;(have h1:=hcb'.get (u:=35) jO;exact fm (mD x213 ⟨ys,ya,yn,yc⟩ (Pz*Qz-Rz*Tz) last F3.out FL.out _ (IZ.ip (show IZ w' x213 (Pz*Qz-Rz*Tz)from h1)) ((HD.out.iz.below (Ext.below hw') (af _)).ip))))));simp only[Act.put,og,lI,gg]);(refine Own3.jv rfl (fun K hK=>?_) (fun x213=>?_);(focus(go_simp;clear hK K;intro w' hw' hcb';first|(go_at_call 117;(first|with_reducible exact fm (iJ ⟨ps,pa,pn,pc⟩ ⟨qs,qa,qn,qc⟩ Pz Qz FP.out FQ.out _ ((HP.out.below (Ext.below hw') (af _)).ip) ((HQ.out.below (Ext.below hw') (af _)).ip))|exact fm (iJ ⟨rs,ra,rn,rc⟩ ⟨ts,ta,tn,tc⟩ Rz Tz FR.out FT.out _ ((HR.out.below (Ext.below hw') (af _)).ip) ((HT.out.below (Ext.below hw') (af _)).ip))))|(go_at_call 159;(have h1:=hcb'.get (u:=19) jO;have h2:=hcb'.get (u:=34) jO;exact fm (kL x211 x212 (Pz*Qz) (Rz*Tz) F1.out F2.out _ (IZ.ip (show IZ w' x211 (Pz*Qz)from h1)) (IZ.ip (show IZ w' x212 (Rz*Tz)from h2)))))|(go_at_call 121;(have h1:=hcb'.get (u:=35) jO;exact fm (mD x213 ⟨ys,ya,yn,yc⟩ (Pz*Qz-Rz*Tz) last F3.out FL.out _ (IZ.ip (show IZ w' x213 (Pz*Qz-Rz*Tz)from h1)) ((HD.out.iz.below (Ext.below hw') (af _)).ip))))));simp only[Act.put,og,lI,gg]);refine cS ?_;(refine Own3.jv rfl (fun K hK=>?_) (fun x214=>?_);(focus(go_simp;clear hK K;intro w' hw' hcb';first|(go_at_call 117;(first|with_reducible exact fm (iJ ⟨ps,pa,pn,pc⟩ ⟨qs,qa,qn,qc⟩ Pz Qz FP.out FQ.out _ ((HP.out.below (Ext.below hw') (af _)).ip) ((HQ.out.below (Ext.below hw') (af _)).ip))|exact fm (iJ ⟨rs,ra,rn,rc⟩ ⟨ts,ta,tn,tc⟩ Rz Tz FR.out FT.out _ ((HR.out.below (Ext.below hw') (af _)).ip) ((HT.out.below (Ext.below hw') (af _)).ip))))|(go_at_call 159;(have h1:=hcb'.get (u:=19) jO;have h2:=hcb'.get (u:=34) jO;exact fm (kL x211 x212 (Pz*Qz) (Rz*Tz) F1.out F2.out _ (IZ.ip (show IZ w' x211 (Pz*Qz)from h1)) (IZ.ip (show IZ w' x212 (Rz*Tz)from h2)))))|(go_at_call 121;(have h1:=hcb'.get (u:=35) jO;exact fm (mD x213 ⟨ys,ya,yn,yc⟩ (Pz*Qz-Rz*Tz) last F3.out FL.out _ (IZ.ip (show IZ w' x213 (Pz*Qz-Rz*Tz)from h1)) ((HD.out.iz.below (Ext.below hw') (af _)).ip))))));simp only[Act.put,og,lI,gg]);refine cS ?_;refine Own3.yU ?_;intro w21 hw21;have hB21:=hw21.1;have HY211:Hid (IZ w21 x211 (Pz*Qz)):=ae (hw21.get (u:=19) (Or.inr (Or.inr (Or.inr (Or.inl ⟨rfl,rfl⟩)))));have HY212:Hid (IZ w21 x212 (Rz*Tz)):=ae (hw21.get (u:=34) (Or.inr (Or.inr (Or.inl ⟨rfl,rfl⟩))));have HY213:Hid (IZ w21 x213 (Pz*Qz-Rz*Tz)):=ae (hw21.get (u:=35) (Or.inr (Or.inl ⟨rfl,rfl⟩)));have HY214:Hid (IZ w21 x214 ((Pz*Qz-Rz*Tz)/last)):=ae (hw21.get (u:=37) (Or.inl ⟨rfl,rfl⟩));clear hw21;obtain⟨g21,rfl⟩:=mob hB21;clear hB21)
           clear HY211 HY212 HY213
           go_wp2_with fail
           go_roundw
           case rel=>
            have h1:=(HD.out.below (wx:=more wr g21) aJ).row hi hj HY214.out;have e5:ff (more wr g21) (gs2 i) j x214=more (ff wr (gs2 i) j x214) g21:=by unfold ff;go_simp
            rw[e5,HE5.out]at h1;exact⟨j+1,by omega,by omega,by go_num,h1⟩
           case measure=>simp[intOf];omega
          ·obtain rfl:j=n:=by omega
           have hj2:¬(j:Int)<(j:Int):=by omega
           go_wp2_with fail
           go_roundw
           case rel=>exact⟨i+1,by omega,by omega,by go_num,by show DI _ _ _ _ _ _ _ _ _ _;rw[<-HSN.out];exact HD.out⟩
           case measure=>simp[intOf];omega
        ·obtain rfl:i=n:=by omega
         have hi2:¬(i:Int)<(i:Int):=by omega
         have hdl:=HD.out.lt;have hmo:=HD.out.mb.mo aa;obtain⟨x,kx,x0,x1,xz,xl⟩:=hmo.elem (i:=k) (j:=k) (by rw[HD.out.len];exact hkn) hkn;have hgl:=hmo.lt;have ekk:Mx.at' (Mx.bK k last X2 (i-(k+1))) k k=Mx.at' X2 k k:=by
          unfold Mx.at';rw[Mx.sA k last X2 _ (by rw[HL2.out];omega),ah aa]
         rw[ekk]at xz;have l0:=HD.out.l0;have l1:=HD.out.l1;have lf0:=HD.out.lf 0;have lf1:=HD.out.lf 1;have HN:=ae (HD.out.last xz);clear hmo xz ekk
         go_wp2_with fail
         go_roundw
         case rel=>
          refine⟨k+1,sg2,gs2,cs2,_,x,_,by omega,by go_num,rfl,hsg2,HN.out,?_,?_⟩
          ·have h1:=HGN.out;unfold Mx.nR at h1;rw[HL2.out]at h1;exact h1
          ·exact⟨HB2.out _ aa,Mx.Dd HX2.out.2 _ (by rw[HL2.out];omega),gO (HX2.out.1 k k) (HE.out k hk)⟩
         case measure=>simp[intOf];omega
    ·obtain rfl:p=n:=by omega
     have hp2:¬(p:Int)<(p:Int):=by omega
     have hp3:decide ((p:Int)<(p:Int))=false:=by rw[dD];exact hp2
     have hP2:P=p:=HP.out.symm.trans (Mx.J8 (by rw[HD.out.len];exact af _));have r0:=HD.out.r0;have r1:=HD.out.r1;have rf0:=HD.out.rf 0;have rf1:=HD.out.rf 1;have hr:=HD.out.rlt.2;have HZ0:Hid (Z=0):=by
      have h1:=HG.out;rw[show p-k=(p-(k+1))+1 by omega]at h1;unfold Mx.bGo at h1;rw[hPE.out,hP2,HD.out.len,aj rfl]at h1;exact h1.symm
     have hbl:=HD.out.bl
     go_wp2_with fail
     have t0:((wr.setCell ⟨w.heap.size,0,none⟩ (.bool false)).setCell ⟨w.heap.size,1,none⟩ (.slice none 0 0)).cell? ⟨w.heap.size,0,none⟩=some (.bool false):=by go_simp
     have t1:((wr.setCell ⟨w.heap.size,0,none⟩ (.bool false)).setCell ⟨w.heap.size,1,none⟩ (.slice none 0 0)).cell? ⟨w.heap.size,1,none⟩=some (.slice none 0 0):=by go_simp
     refine bodyPost_ret (v:=.agg #[.bool false,.slice none 0 0]) zb62 rfl ⟨⟨⟨false,none,0,0⟩,rfl,?_⟩,?_⟩
     ·rw[HZ0.out];exact IZ.zero _
     ·exact bel
  ·obtain rfl:k=n:=by omega
   have hkn2:¬(k:Int)<(k:Int):=by omega
   have r0:=HD.out.r0;have r1:=HD.out.r1;have rf0:=HD.out.rf 0;have rf1:=HD.out.rf 1;have l0:=HD.out.l0;have l1:=HD.out.l1;have hr:=HD.out.rlt.2;have hdl:=HD.out.lt;have hbl:=HD.out.bl;have hne:w.heap.size<L:=by have:=HD.out.rlt.1;have:=HD.out.gl;omega
   have hnw:=NW.bool HD.out.r0;have hzz:sg*last=Z:=by
    have h1:=HG.out;rw[fE]at h1;exact h1
   have HZZ:=ae hzz;have HIZ:=ae HD.out.iz;have HFL:=ae HX.out.2.2;obtain⟨ys,ya,yn,yc⟩:=y;simp only[]at l0 l1;clear hzz HD HG HX;rcases hsg with rfl|rfl
   ·have k2:Chg w.heap.size wr (ff wr w.heap.size 0 ⟨ys,ya,yn,yc⟩):=sW (Chg.refl _ _) 0 _;have hz2:=HIZ.out.chg k2 hnw;unfold ff at hz2
    go_wp2_with fail
    have t0:((wr.setCell ⟨w.heap.size,0,none⟩ (.bool ys)).setCell ⟨w.heap.size,1,none⟩ (.slice ya yn yc)).cell? ⟨w.heap.size,0,none⟩=some (.bool ys):=by go_simp
    have t1:((wr.setCell ⟨w.heap.size,0,none⟩ (.bool ys)).setCell ⟨w.heap.size,1,none⟩ (.slice ya yn yc)).cell? ⟨w.heap.size,1,none⟩=some (.slice ya yn yc):=by go_simp
    refine bodyPost_ret (v:=.agg #[.bool ((⟨ys,ya,yn,yc⟩:IV)).s,.slice ((⟨ys,ya,yn,yc⟩:IV)).a ((⟨ys,ya,yn,yc⟩:IV)).n ((⟨ys,ya,yn,yc⟩:IV)).cap]) zb62 rfl ⟨⟨⟨ys,ya,yn,yc⟩,rfl,?_⟩,?_⟩
    ·rw[<-HZZ.out,dB];exact hz2
    ·exact bel
   ·have NG:=ae (fun w hx=>sS ⟨ys,ya,yn,yc⟩ last HFL.out w hx)
    go_wp2_with (go_at_call 102;((with_reducible refine(NG.out _ (HIZ.out.below (B:=wr.heap.size) aJ (af _)).ip).mono ?_);rintro e w6 ⟨⟨x,rfl,hx⟩,hb6⟩;have HX6:=ae hx;obtain⟨g6,rfl⟩:=mob hb6;clear hb6 hx))
    have k2:Chg w.heap.size (more wr g6) (ff (more wr g6) w.heap.size 0 x):=sW (Chg.refl _ _) 0 _;have hz2:=HX6.out.chg k2 (hnw.below (B:=wr.heap.size) (w':=more wr g6) aJ (af _) hr);have e5:ff (more wr g6) w.heap.size 0 x=more (ff wr w.heap.size 0 x) g6:=by unfold ff;go_simp
    rw[e5]at hz2;unfold ff at hz2;have t0:(more ((wr.setCell ⟨w.heap.size,0,none⟩ (.bool x.s)).setCell ⟨w.heap.size,1,none⟩ (.slice x.a x.n x.cap)) g6).cell? ⟨w.heap.size,0,none⟩=some (.bool x.s):=by go_simp
    have t1:(more ((wr.setCell ⟨w.heap.size,0,none⟩ (.bool x.s)).setCell ⟨w.heap.size,1,none⟩ (.slice x.a x.n x.cap)) g6).cell? ⟨w.heap.size,1,none⟩=some (.slice x.a x.n x.cap):=by go_simp
    refine bodyPost_ret (v:=.agg #[.bool x.s,.slice x.a x.n x.cap]) zb62 rfl ⟨⟨x,rfl,?_⟩,?_⟩
    ·rw[<-HZZ.out,show(-1:Int)*last= -last by omega];exact hz2
    ·exact bel
end
section
namespace Mx
theorem Dr{n i:Nat}(hi:i<n)(F:Nat->Nat->Int)(x:Int)(a y:Nat->Int)(B:Nat->Nat->Int)(m:Nat):D n (upd F i fun j=>x*a j+sm m fun k=>y k*B k j)=x*D n (upd F i a)+sm m fun k=>y k*D n (upd F i (B k)):=by
 have h:=qh x 1 n F i a (fun j=>sm m fun k=>y k*B k j) hi;rw[D_sm hi F y B m,dB]at h;rw[<-h];congr 2;funext j;rw[dB]
def cyc(m a:Nat):Nat:=if a=0 then m else if a<=m then a-1 else a
theorem Jw{n:Nat}(g:Nat->Nat->Int):∀m,m<n->D n (fun a b=>g (cyc m a) b)=sg m*D n g
 |0,_=>by
  rw[show sg 0=1 from rfl,dB];exact cK n _ _ fun a b _ _=>by
   unfold cyc;by_cases h:a=0
   ·rw[aj h,h]
   ·rw[ah h,ah aa]
 |m+1,hm=>by
  have h:=FZ (n:=n) (i:=0) (j:=m+1) aa hm aa (fun a b=>g (cyc m a) b);rw[Jw g m aa]at h;rw[vG,gH,<-h];exact cK n _ _ fun a b _ _=>by
   unfold upd cyc;by_cases h1:a=m+1
   ·rw[aj h1,ah aa,aj aa,aj rfl];congr 1;omega
   ·rw[ah h1];by_cases h2:a=0
    ·rw[aj h2,aj h2,ah aa,ah aa]
    ·rw[ah h2,ah h2];show _=g (if a=0 then m else if a<=m then a-1 else a) b;by_cases h3:a<=m
     ·rw[aj aa,ah h2,aj h3]
     ·rw[ah aa,ah h2,ah h3]
theorem sg_sq(k:Nat):sg k*sg k=1:=by unfold sg;split<;>rfl
def rsg:Nat->Int
 |0=>1
 |n+1=>sg n*rsg n
theorem Eu:∀n,rsg n*rsg n=1
 |0=>rfl
 |n+1=>by
  have h1:=sg_sq n;have h2:=Eu n;show sg n*rsg n*(sg n*rsg n)=1;rw[cZ,tZ (rsg n),h2,Int.mul_one,h1]
theorem Dp:∀(n:Nat) (g:Nat->Nat->Int),D n (fun a b=>g (n-(a+1)) b)=rsg n*D n g
 |0,_=>by simp[D,rsg]
 |n+1,g=>by
  have h:=Jw g n (iU n);show D (n+1) _=sg n*rsg n*D (n+1) g;rw[xU,<-h];show sm (n+1) (fun k=>sg k*g (n+1-(0+1)) k*D n (fun a b=>g (n+1-(a+1+1)) (skip k b)))=sm (n+1) (fun k=>sg k*g (cyc n 0) k*D n (fun a b=>g (cyc n (a+1)) (skip k b)))*rsg n;rw[ep,<-mF];refine bN _ _ _ fun k _=>?_;have e1:cyc n 0=n+1-(0+1):=by unfold cyc;rw[aj rfl];omega
  have e2:=Dp n (fun a b=>g (cyc n (a+1)) (skip k b));rw[cK n (fun a b=>g (n+1-(a+1+1)) (skip k b)) (fun a b=>g (cyc n (n-(a+1)+1)) (skip k b)) fun a b ha _=>by
   unfold cyc;rw[ah aa,aj aa];congr 1;omega,e2,e1]
  rw[tZ (rsg n)]
theorem M9(n:Nat)(g:Nat->Nat->Int):D n (fun a b=>g (n-(a+1)) (n-(b+1)))=D n g:=by
 rw[Dp n (fun a b=>g a (n-(b+1))),rF,Dp n (fun b a=>g a b),<-cZ,Eu,dB,<-rF n g]
namespace Ba
variable (f : Nat->Nat->Int)
def xr(k:Nat)(v:Nat->Int)(a:Nat):Nat->Int:=if a=0 then v else f (k-a)
def xc(k j b:Nat):Nat:=if b=0 then j else k-b
def X(k:Nat)(v:Nat->Int)(j:Nat):Int:=D (k+1) fun a b=>xr f k v a (xc k j b)
def P(k:Nat):Int:=D k fun a b=>f (k-(a+1)) (k-(b+1))
theorem lT(k:Nat)(v:Nat->Int):xr f k v 0=v:=aj rfl
theorem rS(k:Nat)(v:Nat->Int)(a:Nat):xr f k v (a+1)=f (k-(a+1)):=ah aa
theorem lU(k j:Nat):xc k j 0=j:=aj rfl
theorem rT(k j b:Nat):xc k j (b+1)=k-(b+1):=ah aa
theorem P_all(n:Nat):P f n=D n f:=M9 n f
theorem MU(k:Nat):X f k (f k) k=P f (k+1):=cK _ _ _ fun a b _ _=>by
 have ha:xr f k (f k) a=f (k+1-(a+1)):=by
  cases a with
  |zero=>rw[lT];rfl
  |succ a=>rw[rS];congr 1;omega
 have hb:xc k k b=k+1-(b+1):=by
  cases b with
  |zero=>rw[lU];rfl
  |succ b=>rw[rT];omega
 rw[ha,hb]
def L(k:Nat)(v:Nat->Int)(t:Nat):Int:=sg (t+1)*D k fun a b=>xr f k v (skip (t+1) b) (k-(a+1))
theorem Jr(k:Nat)(v:Nat->Int)(j:Nat):X f k v j=P f k*v j+sm k fun t=>L f k v t*f (k-(t+1)) j:=by
 unfold X;rw[rF];show sm (k+1) (fun t=>sg t*xr f k v t (xc k j 0)*D k (fun a b=>xr f k v (skip t b) (xc k j (a+1))))=_;rw[gF];congr 1
 ·rw[lT,lU,show sg 0=1 from rfl,dB,ep];congr 1;unfold P;rw[rF];exact cK k _ _ fun a b _ _=>by rw[jA,rS,rT]
 ·refine bN _ _ _ fun t _=>?_;rw[rS,lU];unfold L;rw[xU];congr 2
def N(k j t:Nat):Int:=sg (t+1)*D k fun a b=>f (k-(a+1)) (xc k j (skip (t+1) b))
theorem X_row(k:Nat)(v:Nat->Int)(j:Nat):X f k v j=P f k*v j+sm k fun t=>N f k j t*v (k-(t+1)):=by
 unfold X;show sm (k+1) (fun t=>sg t*xr f k v 0 (xc k j t)*D k (fun a b=>xr f k v (a+1) (xc k j (skip t b))))=_;rw[gF];congr 1
 ·rw[lT,lU,show sg 0=1 from rfl,dB,ep];congr 1
 ·refine bN _ _ _ fun t _=>?_;rw[lT,rT];unfold N;rw[xU];congr 2
theorem MT{k t:Nat}(h:t<k)(j:Nat):X f k (f t) j=0:=mX (i:=0) (j:=k-t) aa aa aa _ fun l=>by
 obtain⟨s,hs⟩:∃s,k-t=s+1:=⟨k-t-1,by omega⟩;rw[hs,lT,rS,show k-(s+1)=t by omega]
theorem FY{k t:Nat}(h:t<k)(v:Nat->Int):X f k v t=0:=by
 unfold X;rw[rF];refine mX (i:=0) (j:=k-t) aa aa aa _ fun l=>?_;obtain⟨s,hs⟩:∃s,k-t=s+1:=⟨k-t-1,by omega⟩;rw[hs,lU,rT,show k-(s+1)=t by omega]
def zc(k c j b:Nat):Nat:=if b=0 then c else if b=1 then j else k+1-b
def zr(k:Nat)(u w:Nat->Int)(a:Nat):Nat->Int:=if a=0 then u else if a=1 then w else f (k+1-a)
def Z(k:Nat)(u w:Nat->Int)(c j:Nat):Int:=D (k+2) fun a b=>zr f k u w a (zc k c j b)
theorem xI(k:Nat)(u w:Nat->Int)(a:Nat):zr f k u w (a+2)=f (k-(a+1)):=by
 unfold zr;rw[ah aa,ah aa];congr 1;omega
theorem xJ(k c j b:Nat):zc k c j (b+2)=k-(b+1):=by
 unfold zc;rw[ah aa,ah aa];omega
theorem MW(k:Nat)(v:Nat->Int)(j:Nat):X f (k+1) v j=Z f k v (f k) j k:=cK _ _ _ fun a b _ _=>by
 have ha:xr f (k+1) v a=zr f k v (f k) a:=by
  unfold xr zr;by_cases h:a=0
  ·rw[aj h,aj h]
  ·rw[ah h,ah h];by_cases h1:a=1
   ·rw[aj h1,h1];rfl
   ·rw[ah h1]
 have hb:xc (k+1) j b=zc k j k b:=by
  unfold xc zc;by_cases h:b=0
  ·rw[aj h,aj h]
  ·rw[ah h,ah h];by_cases h1:b=1
   ·rw[aj h1,h1];rfl
   ·rw[ah h1]
 rw[ha,hb]
theorem Z_u(k:Nat)(u w:Nat->Int)(c j:Nat):Z f k (X f k u) w c j=P f k*Z f k u w c j:=by
 have e:∀u,Z f k u w c j=D (k+2) (upd (fun a b=>zr f k u w a (zc k c j b)) 0 fun b=>u (zc k c j b)):=fun u=>cK _ _ _ fun a b _ _=>by
  unfold upd;by_cases h:a=0
  ·rw[aj h,h];rfl
  ·rw[ah h]
 have e2:∀u v:Nat->Int,D (k+2) (upd (fun a b=>zr f k u w a (zc k c j b)) 0 fun b=>v (zc k c j b))=D (k+2) (upd (fun a b=>zr f k w w a (zc k c j b)) 0 fun b=>v (zc k c j b)):=fun u v=>cK _ _ _ fun a b _ _=>by
  unfold upd zr;by_cases h:a=0
  ·rw[aj h,aj h]
  ·rw[ah h,ah h];show(if a=0 then u else if a=1 then w else f (k+1-a)) _=(if a=0 then w else if a=1 then w else f (k+1-a)) _;rw[ah h,ah h]
 rw[e,e u,e2,e2 u u,show(fun b=>X f k u (zc k c j b))=fun b=>P f k*u (zc k c j b)+sm k fun t=>L f k u t*f (k-(t+1)) (zc k c j b)from funext fun b=>Jr f k u _,Dr aa _ _ (fun b=>u (zc k c j b)) (L f k u) (fun t b=>f (k-(t+1)) (zc k c j b)) k,iI k _ fun t ht=>?_,fZ];rw[mX (i:=0) (j:=t+2) aa aa aa _ fun l=>?_,eY];show upd _ 0 _ 0 l=upd _ 0 _ (t+2) l;unfold upd;rw[aj rfl,ah aa];show _=zr f k w w (t+2) (zc k c j l);rw[xI]
theorem Z_w(k:Nat)(u w:Nat->Int)(c j:Nat):Z f k u (X f k w) c j=P f k*Z f k u w c j:=by
 have e:∀w,Z f k u w c j=D (k+2) (upd (fun a b=>zr f k u w a (zc k c j b)) 1 fun b=>w (zc k c j b)):=fun w=>cK _ _ _ fun a b _ _=>by
  unfold upd;by_cases h:a=1
  ·rw[aj h,h];rfl
  ·rw[ah h]
 have e2:∀w v:Nat->Int,D (k+2) (upd (fun a b=>zr f k u w a (zc k c j b)) 1 fun b=>v (zc k c j b))=D (k+2) (upd (fun a b=>zr f k u u a (zc k c j b)) 1 fun b=>v (zc k c j b)):=fun w v=>cK _ _ _ fun a b _ _=>by
  unfold upd zr;by_cases h:a=1
  ·rw[aj h,aj h]
  ·rw[ah h,ah h];show(if a=0 then u else if a=1 then w else f (k+1-a)) _=(if a=0 then u else if a=1 then u else f (k+1-a)) _;rw[ah h,ah h]
 rw[e,e w,e2,e2 w w,show(fun b=>X f k w (zc k c j b))=fun b=>P f k*w (zc k c j b)+sm k fun t=>L f k w t*f (k-(t+1)) (zc k c j b)from funext fun b=>Jr f k w _,Dr aa _ _ (fun b=>w (zc k c j b)) (L f k w) (fun t b=>f (k-(t+1)) (zc k c j b)) k,iI k _ fun t ht=>?_,fZ];rw[mX (i:=1) (j:=t+2) aa aa aa _ fun l=>?_,eY];show upd _ 1 _ 1 l=upd _ 1 _ (t+2) l;unfold upd;rw[aj rfl,ah aa];show _=zr f k u u (t+2) (zc k c j l);rw[xI]
theorem Gq(b:Nat):skip 1 (b+1)=b+2:=by unfold skip;rw[ah aa]
theorem Ll(n:Nat)(g:Nat->Int)(h:∀b,2<=b->b<n+2->g b=0):sm (n+2) g=g 0+g 1:=by
 rw[gF,gF,iI n _ fun k hk=>h (k+2) aa aa,fZ]
theorem Ld(k:Nat)(u w:Nat->Int)(c j:Nat)(hu:∀t,t<k->u t=0)(hw:∀t,t<k->w t=0):Z f k u w c j=(u c*w j-u j*w c)*P f k:=by
 unfold Z;show sm (k+2) (fun b=>sg b*zr f k u w 0 (zc k c j b)*D (k+1) (fun a b'=>zr f k u w (a+1) (zc k c j (skip b b'))))=_;have h0:zr f k u w 0=u:=aj rfl;have h1:zr f k u w 1=w:=rfl;have c0:zc k c j 0=c:=aj rfl;have c1:zc k c j 1=j:=rfl;rw[Ll k _ fun b hb hb2=>by
  obtain⟨b,rfl⟩:∃b',b=b'+2:=⟨b-2,by omega⟩;rw[h0,xJ,hu _ aa,eY,Int.zero_mul]]
 have hD:∀s:Nat->Nat,(∀b,s (b+1)=b+2)->D (k+1) (fun a b'=>zr f k u w (a+1) (zc k c j (s b')))=w (zc k c j (s 0))*P f k:=fun s hs=>by
  show sm (k+1) (fun b=>sg b*zr f k u w (0+1) (zc k c j (s b))*D k (fun a b'=>zr f k u w (a+1+1) (zc k c j (s (skip b b')))))=_;rw[Eg (j:=0) aa fun b hb hne=>by
   obtain⟨b,rfl⟩:∃b',b=b'+1:=⟨b-1,by omega⟩;rw[hs,xJ,bQ,h1,hw _ aa,eY,Int.zero_mul],show sg 0=1 from rfl,dB,bQ,h1]
  congr 1;exact cK k _ _ fun a b _ _=>by rw[xI,jA,hs,xJ]
 rw[hD (skip 0) (fun b=>jA _),hD (skip 1) Gq,h0,c0,c1,show skip 0 0=1 from rfl,show skip 1 0=0 from rfl,c0,c1,show sg 0=1 from rfl,show sg 1= -1 from rfl,Int.sub_mul,dB,gH,gH,dB,cZ,cZ];rfl
theorem step(k:Nat)(hP:P f k≠0)(v:Nat->Int)(j:Nat):X f k (f k) k*X f k v j-X f k v k*X f k (f k) j=P f k*X f (k+1) v j:=by
 have h1:=Ld f k (X f k v) (X f k (f k)) j k (fun t ht=>FY f ht v) (fun t ht=>FY f ht (f k));rw[Z_u,Z_w,<-MW,ep]at h1;have h2:=Int.eq_of_mul_eq_mul_right hP h1;rw[h2,ep (X f k (f k) k)]
theorem Na{n k:Nat}(hk:k<n)(hP:P f k≠0)(h:∀i,k<=i->i<n->X f k (f i) k=0):D n f=0:=by
 have h0:∀i,i<n->P f k*f i k+sm k (fun t=>N f k k t*f i (k-(t+1)))=0:=fun i hi=>by
  rw[<-X_row];by_cases hik:i<k
  ·exact MT f hik k
  ·exact h i aa hi
 have h1:=Dr (n:=n) (i:=k) hk (fun i j=>f j i) (P f k) (fun i=>f i k) (N f k k) (fun t i=>f i (k-(t+1))) k;rw[iI k _ fun t ht=>by
  rw[mX (i:=k) (j:=k-(t+1)) hk aa aa _ fun l=>by unfold upd;rw[aj rfl,ah aa],eY],fZ]at h1
 rw[M8 (i:=k) hk _ fun l hl=>by unfold upd;rw[aj rfl];exact h0 l hl,kI (fun i j=>f j i) k,<-rF n f]at h1;rcases Int.mul_eq_zero.1 h1.symm with h2|h2
 ·exact absurd h2 hP
 ·exact h2
theorem MV{f g:Nat->Nat->Int}{k:Nat}(h:∀i,i<k->f i=g i)(v:Nat->Int)(j:Nat):X f k v j=X g k v j:=cK _ _ _ fun a b ha _=>by
 unfold xr;by_cases h0:a=0
 ·rw[aj h0,aj h0]
 ·rw[ah h0,ah h0,h _ aa]
theorem M6{f g:Nat->Nat->Int}{k:Nat}(h:∀i,i<k->f i=g i):P f k=P g k:=cK _ _ _ fun a b ha _=>by rw[h _ aa]
def sw(f:Nat->Nat->Int)(k p:Nat):Nat->Nat->Int:=upd (upd f k (f p)) p (f k)
theorem sw_lt{k p i:Nat}(hi:i<k)(hp:k<=p):sw f k p i=f i:=by
 unfold sw upd;funext j;rw[ah aa,ah aa]
end Ba
theorem wv(k:Nat)(M:Mat):∀f p,(kN k M f p=p+f/\∀i,p<=i->i<p+f->at' M i k=0)\/(kN k M f p<p+f/\at' M (kN k M f p) k≠0)
 |0,p=>.inl ⟨rfl,fun i h1 h2=>by omega⟩
 |f+1,p=>by
  by_cases h:at' M p k=0
  ·have e:kN k M (f+1) p=kN k M f (p+1):=aj h;rw[e];rcases wv k M f (p+1)with⟨h1,h2⟩|⟨h1,h2⟩
   ·refine .inl ⟨by omega,fun i h3 h4=>?_⟩;by_cases e:i=p
    ·rw[e];exact h
    ·exact h2 i aa aa
   ·exact .inr ⟨by omega,h2⟩
  ·have e:kN k M (f+1) p=p:=ah h;rw[e];exact .inr ⟨by omega,h⟩
theorem KR{n k i j:Nat}{last:Int}{M:Mat}(hl:M.length=n)(h:Rc n M)(hk:k<n)(hi:k<i)(hin:i<n)(hj:k<j)(hjn:j<n):at' (nR k last M) i j=(at' M k k*at' M i j-at' M i k*at' M k j)/last:=by
 unfold at' nR;rw[sA k last M _ aa,aj aa,A8 (by rw[h.rw aa];exact hjn),aj hj]
theorem KQ{n k:Nat}{last:Int}{M:Mat}(hl:M.length=n)(h:Rc n M)(hk:k<n):Rc n (nR k last M):=Dd h _ aa
theorem Hq(k:Nat)(last:Int)(M:Mat):(nR k last M).length=M.length:=uV _ _ _ _
theorem Jm{n:Nat}:∀(r k:Nat) (M:Mat) (s:Int) (f:Nat->Nat->Int),k+r=n->M.length=n->Rc n M->Ba.P f k≠0->(∀i j,k<=i->i<n->k<=j->j<n->at' M i j=Ba.X f k (f i) j)->bGo r k M (Ba.P f k) s=s*D n f
 |0,k,M,s,f,hk,_,_,_,_=>by
  obtain rfl:k=n:=by omega
  show s*Ba.P f k=s*D k f;rw[Ba.P_all]
 |r+1,k,M,s,f,hk,hl,hR,hP,hX=>by
  have hkn:k<n:=by omega
  have hs:=wv k M (M.length-k) k;have hpe:kN k M (M.length-k) k=piv k M k:=rfl;rw[hpe,show k+(M.length-k)=M.length by omega]at hs;show(if piv k M k=M.length then 0 else bGo r (k+1) (nR k (Ba.P f k) (if piv k M k=k then M else swp M k (piv k M k))) (at' M (piv k M k) k) (if piv k M k=k then s else-s))=_;rcases hs with⟨h1,h2⟩|⟨h1,h2⟩
  ·rw[aj h1,Ba.Na f hkn hP fun i h3 h4=>by rw[<-hX i k h3 h4 (af k) hkn];exact h2 i h3 aa,eY]
  ·rw[ah aa];have hge:=LD k M k;generalize piv k M k=p at*;have key:∀(M2:Mat) (g:Nat->Nat->Int) (s2:Int),M2.length=n->Rc n M2->Ba.P g k=Ba.P f k->(∀i j,k<=i->i<n->k<=j->j<n->at' M2 i j=Ba.X g k (g i) j)->at' M2 k k=at' M p k->bGo r (k+1) (nR k (Ba.P f k) M2) (at' M p k) s2=s2*D n g:=fun M2 g s2 hl2 hR2 hP2 hX2 hpv=>by
    have hpp:at' M p k=Ba.P g (k+1):=by rw[<-hpv,hX2 k k (af _) hkn (af _) hkn,Ba.MU]
    rw[hpp];refine Jm r (k+1) (nR k (Ba.P f k) M2) s2 g aa (by rw[Hq];exact hl2) (KQ hl2 hR2 hkn) (by rw[<-hpp];exact h2) fun i j h3 h4 h5 h6=>?_;rw[KR hl2 hR2 hkn h3 h4 h5 h6,hX2 k k (af _) hkn (af _) hkn,hX2 i j aa h4 aa h6,hX2 i k aa h4 (af _) hkn,hX2 k j (af _) hkn aa h6,Ba.step g k (by rw[hP2];exact hP),<-hP2];exact Int.mul_ediv_cancel_left _ (by rw[hP2];exact hP)
   by_cases hpk:p=k
   ·subst hpk;rw[aj rfl,aj rfl];exact key M f s hl hR rfl hX rfl
   ·rw[ah hpk,ah hpk];have hsw:=fun i (hi:i<k)=>Ba.sw_lt f (p:=p) hi hge;have hD:=FZ (n:=n) (i:=k) (j:=p) hkn aa (fun h=>hpk h.symm) f;have hDs:D n (Ba.sw f k p)= -(D n f):=hD;rw[key (swp M k p) (Ba.sw f k p) (-s) (by rw[cW];exact hl) (jV hR aa aa) (Ba.M6 hsw) (fun i j h3 h4 h5 h6=>by
     rw[eM aa aa,Ba.MV hsw];unfold Ba.sw upd;by_cases e1:i=p
     ·rw[aj e1];simp only[aj e1];exact hX k j (af _) hkn h5 h6
     ·rw[ah e1];simp only[ah e1];by_cases e2:i=k
      ·rw[aj e2];simp only[aj e2];exact hX p j hge aa h5 h6
      ·rw[ah e2];simp only[ah e2];exact hX i j h3 h4 h5 h6) (by rw[eM aa aa,ah aa,aj rfl]),hDs,Int.neg_mul_neg]
theorem MC{n:Nat}{M:Mat}(hl:M.length=n)(hR:Rc n M):vW M=D n (at' M):=by
 unfold vW;rw[hl];have h:=Jm (n:=n) n 0 M 1 (at' M) aa hl hR (by show(1:Int)≠0;decide) fun i j _ _ _ _=>by
  show _=sm 1 (fun k=>sg k*Ba.xr (at' M) 0 (at' M i) 0 (Ba.xc 0 j k)*1);show _=0+sg 0*Ba.xr (at' M) 0 (at' M i) 0 (Ba.xc 0 j 0)*1;rw[Ba.lT,Ba.lU,show sg 0=1 from rfl,dB,Int.mul_one,Int.zero_add]
 rw[dB]at h;exact h
end Mx
end
section
open Go.RowKit
namespace DW
theorem KT{X:Nat->Prop}{w:World}{M:Mx.Mat}{v:Value}{n:Nat}(h:AR X w (dW M) v)(hr:Mx.Rc n M)(hn:0<n\/M=[]):MR w v n M:=by
 by_cases h0:0<n
 ·exact MG h hr h0
 ·have hM:=hn.resolve_left h0;subst hM;simp only[dW,AR]at h;obtain⟨a,c,rfl,h2,_⟩:=h;exact⟨a,c,rfl,h2,hr,.inl rfl⟩
theorem Lj(M:Mx.Mat)(n e:Nat)(hl:M.length=n)(hR:Mx.Rc n M)(hn:n<=1000)(he:2^n*(e+1)<=6000000000000)(hb:Mx.Bd (2^e) M):Fn Tryz.prog 96 [dW M] (.nm (Mx.D n (Mx.at' M))):=by
 refine⟨enters_of Tryz.func96 ak rfl,fun X w vs hX hv=>?_⟩;simp only[ATp]at hv;obtain⟨v1,r1,e1,h1,rfl⟩:=hv;have:vs= #[v1]:=dp.1 e1;subst this;rw[<-Mx.MC hl hR];refine(KF M n e v1 hl hn he hb w (KT h1 hR ?_)).mono fun e w' ⟨⟨z,h3,h4⟩,h5⟩=>⟨_,h3,by simp only[AR];exact⟨z,rfl,h4⟩,h5⟩;by_cases h0:n=0
 ·exact .inr (gu aa)
 ·exact .inl aa
set_option maxRecDepth 20000
set_option maxHeartbeats 2000000
end DW
end
section
namespace Mx
theorem HF.mul{g:Int}(hg:0<g):∀(A B:Mat),A.length=B.length->(∀i j,at' A i j=g*at' B i j)->HF B->HF A
 |[],_,_,_,_=>trivial
 |a::A,[],hl,_,_=>by simp at hl
 |a::A,b::B,hl,h,hB=>by
  have h0:∀j,a.getD j 0=g*b.getD j 0:=fun j=>h 0 j;have ht:∀i j,at' A i j=g*at' B i j:=fun i j=>h (i+1) j;have hz:∀{x:Int},g*x=0->x=0:=fun e=>by
   rcases Int.mul_eq_zero.1 e with e|e
   ·omega
   ·exact e
  rcases hB with hB|⟨p,h1,h2,h3,h4,h5⟩
  ·exact .inl fun i j=>by rw[h i j,hB i j,eY]
  ·refine .inr ⟨p,fun i j hj=>by rw[h i j,h1 i j hj,eY],by rw[h0];exact Int.mul_pos hg h2,fun i=>by rw[ht i p,h3 i,eY],HF.mul hg A B oW ht h4,fun i q k1 k2=>?_⟩;have h6:=h5 i q (fun j hj=>hz (by rw[<-ht];exact k1 j hj)) (fun e=>k2 (by rw[ht,e,eY]));rw[h0,ht];exact⟨Int.mul_nonneg aa h6.1,Int.mul_lt_mul_of_pos_left h6.2 hg⟩
end Mx
end
section
open Go.RowKit
namespace DW
theorem JB(z:Int)(fz:Fit z):Fn Tryz.prog 101 [.nm z] (zI (sgn z)):=by
 refine⟨enters_of Tryz.func101 ak rfl,fun X w vs hX hv=>?_⟩;simp only[ATp,AR]at hv;obtain⟨v1,r1,e1,⟨x,rfl,hx⟩,rfl⟩:=hv;have:vs= #[.agg #[.bool x.s,.slice x.a x.n x.cap]]:=dp.1 e1;subst this;exact(qN x z fz w hx.ip).mono fun e w' ⟨h2,h4⟩=>⟨_,h2,vZ _,h4⟩
set_option maxRecDepth 20000
set_option maxHeartbeats 4000000
end DW
end
end Go.Proofs.YtcgjmdpcplhanaaGreat
