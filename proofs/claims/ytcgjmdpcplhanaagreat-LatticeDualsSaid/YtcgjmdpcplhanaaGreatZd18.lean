/- Lemmas for the law: E18 E22 M12 M5 M14 M13 M15 M16 -/
import Derived.Test.YtcgjmdpcplhanaaGreatZd17
namespace Go.Proofs.YtcgjmdpcplhanaaGreat
section
theorem JJ{p q:Prop}(h:q)(f:Wq q->p:=by(intro hW;(refine aL1 rfl rfl rfl (by(first|(apply(Nx (c:=2));(exact rfl);(focus((apply aE;(conv=>lhs;whnf);(first|done|exact rfl))));(exact ct);(exact rfl);(exact rfl))|(apply d_remP;(exact rfl);(focus((apply aE;(conv=>lhs;whnf);(first|done|exact rfl))));(exact ct);(omega))|(apply Gm;(exact rfl);(focus((apply aE;(conv=>lhs;whnf);(first|done|exact rfl))));(exact ct);(focus(first|omega|decide))))) ?_);exact hW.out)):p:=f ⟨h⟩
theorem Jl{p q:Prop}(h:q)(f:Wq q->p:=by(intro hW;(refine lL ?_;refine kU ?_;refine zs4 ?_;refine kU ?_;refine ph ?_;refine AX ?_;refine cK ?_);exact hW.out)):p:=f ⟨h⟩
theorem Jk{p q:Prop}(h:q)(f:Wq q->p:=by(intro hW;(refine cn ?_;refine I3 ?_;refine uX ?_;refine zs4 ?_;refine I6 ?_;refine uX ?_;refine iq ?_;refine tF ?_;refine aX ?_);exact hW.out)):p:=f ⟨h⟩
theorem CS{p q:Prop}(h:q)(f:Wq q->p:=by(intro hW;(refine cO ?_;refine Ja ?_;refine aX ?_);exact hW.out)):p:=f ⟨h⟩
theorem Rf{p q:Prop}(h:q)(f:Wq q->p:=by(intro hW;((refine ez (k:=3) (z:=(.agg #[.bool false,.slice none 0 0])) (d:=(.nm 0)) rfl rfl rfl rfl rfl ai aj aj dT aj aj cu ?_));exact hW.out)):p:=f ⟨h⟩
theorem zs151{p q:Prop}(h:q)(f:Wq q->p:=by(intro hW;((first|refine aN1 rfl rfl rfl zb3 ?_|refine BX rfl rfl rfl rfl cD cD bf ai ai JV zb75 ?_|refine mn rfl rfl rfl zb3 ?_));exact hW.out)):p:=f ⟨h⟩
theorem Re{p q:Prop}(h:q)(f:Wq q->p:=by(intro hW;((first|refine aN1 rfl rfl rfl zb0 ?_|refine mn rfl rfl rfl zb0 ?_));exact hW.out)):p:=f ⟨h⟩
theorem zs149{p q:Prop}(h:q)(f:Wq q->p:=by(intro hW;((first|refine aN1 rfl rfl rfl A7 ?_|refine BX rfl rfl rfl rfl cD (by exact ct) bf ai ai JV zb75 ?_|refine mn rfl rfl rfl A7 ?_));exact hW.out)):p:=f ⟨h⟩
theorem zs153{p q:Prop}(h:q)(f:Wq q->p:=by(intro hW;((refine qd (k:=5) (z:=(.agg #[.bool false,.slice none 0 0])) (d:=(.nm 0)) rfl rfl rfl rfl rfl ai aj aj dT aj aj ?_));exact hW.out)):p:=f ⟨h⟩
theorem zb43{p:Prop}(h:p:=by(apply uA;(exact vY);(focus((repeat(first|exact uy|(apply rK;(exact rfl))|(apply uz;(exact rfl)))))))):p:=h
theorem zs148{p q:Prop}(h:q)(f:Wq q->p:=by(intro hW;(refine wz [5] ai zb43 ?_);exact hW.out)):p:=f ⟨h⟩
theorem zb28{p:Prop}(h:p:=by(apply BM;(exact rfl);(focus((apply aE;(conv=>lhs;whnf);(first|done|exact rfl))));(exact ct);(focus((apply aE;(conv=>lhs;whnf);(first|done|exact rfl))));(exact rfl);(exact rfl);(exact rfl);(assumption);(exact rfl))):p:=h
theorem zs152{p q:Prop}(h:q)(f:Wq q->p:=by(intro hW;((first|refine aN1 rfl rfl rfl zb28 ?_|refine mn rfl rfl rfl zb28 ?_));exact hW.out)):p:=f ⟨h⟩
theorem Qu{p q:Prop}(h:q)(f:Wq q->p:=by(intro hW;(refine zs148 ?_;refine ij ?_;refine zs149 ?_;refine Re ?_;refine ij ?_;refine zs151 ?_;refine Re ?_;refine ij ?_;refine ij ?_;refine zs152 ?_;refine oz ?_;refine wO ?_;refine zs153 ?_;refine oA ?_;refine mL ?_);exact hW.out)):p:=f ⟨h⟩
end
section
open Go.RowKit
namespace DW
theorem Ao{α:Type}(l:List α)(x:α)(c:Nat):(l++[x]).eraseIdx c=if l.length=c then l.eraseIdx c else l.eraseIdx c++[x]:=by
 split
 ·rename_i h;rw[List.eraseIdx_append_of_length_le aa,Ef (by omega:l.length<=c),h,dH];simp
 ·by_cases h2:c<l.length
  ·rw[List.eraseIdx_append_of_lt_length h2]
  ·rw[Ef cX,Ef aa]
theorem Cw{α:Type}(l:List α)(c:Nat):(l.eraseIdx c).length<=l.length:=(List.eraseIdx_sublist l c).length_le
def mnr(m:Mx.Mat)(r c:Nat):Mx.Mat:=(m.eraseIdx r).map fun l=>l.eraseIdx c
theorem Fm(m:Mx.Mat)(l:List Int)(r c:Nat):mnr (m++[l]) r c=if m.length=r then mnr m r c else mnr m r c++[l.eraseIdx c]:=by
 unfold mnr;rw[Ao];split
 ·rfl
 ·rw[db];rfl
theorem H7(m:Mx.Mat)(r c:Nat):(mnr m r c).length<=m.length:=by unfold mnr;rw[bC];exact Cw m r
set_option maxRecDepth 20000
set_option maxHeartbeats 1000000
theorem Ia(m:Mx.Mat)(r c:Nat)(hm:m.length<=1000000)(hm2:∀l∈m,l.length<=1000000):Fn Tryz.prog 115 [dW m,zI r,zI c] (dW (mnr m r c)):=by
 refine ba Tryz.func115 ai rfl rfl rfl fun X0=>?_;simp only[aO];refine kd ?_;refine eQ ?_;refine ay (da (t:=7) (k:=7) (T:=113) (wd:=1) fq rfl rfl cu) ?_
 (refine ay (aq (sl':=[(0,dW m),(1,zI r),(2,zI c),(7,.own 7),(8,zI 0)]) (ow':=[(7,⟨113,1,[]⟩)]) az aD) ?_)
 refine bc (fun q s=>∃i,i<=m.length/\q=m.length-i/\s=⟨[(0,dW m),(1,zI r),(2,zI c),(7,.own 7),(8,zI (i:Nat))],[(7,⟨113,1,(mnr (m.take i) r c).map dZ⟩)]⟩) (m:=m.length) ⟨0,aQ _,rfl,by unfold mnr;simp⟩ fun q s hs=>?_;obtain⟨i,hi,rfl,rfl⟩:=hs;by_cases him:i<m.length
 ·obtain⟨l,hl⟩:=get_some him;have hll:=hm2 l (bj hl);have hsn:=Fm (m.take i) l r c;rw[<-bq hl,aP,dp aa]at hsn;have hfl:=H7 (m.take i) r c;rw[aP,dp aa]at hfl;obtain⟨F,hF⟩:∃F,F=mnr (m.take i) r c:=⟨_,rfl⟩;rw[<-hF]at hsn hfl;rw[<-hF];clear hF;by_cases hir:i=r
  ·rw[ak hir]at hsn;refine dn ?_;refine cO ?_;refine yf ?_;refine aX ?_;refine bw ?_;refine gy ?_;refine zs2 ?_;simp only[nx,inB];exact⟨m.length-(i+1),_,by omega,(aq (sl':=[(0,dW m),(1,zI r),(2,zI c),(7,.own 7),(8,zI ((i+1:Nat):Int))]) (ow':=[(7,⟨113,1,F.map dZ⟩)]) az aD),i+1,by omega,rfl,by rw[hsn]⟩
  ·rw[ah hir]at hsn;refine dn ?_;refine cO ?_;refine yf ?_;refine aX ?_;refine bp ?_;refine eQ ?_;refine ay (da (t:=9) (k:=9) (T:=62) (wd:=2) fq rfl rfl cu) ?_
   (refine ay (aq (sl':=[(0,dW m),(1,zI r),(2,zI c),(7,.own 7),(8,zI (i:Nat)),(9,.own 9),(10,zI 0)]) (ow':=[(9,⟨62,2,[]⟩),(7,⟨113,1,F.map dZ⟩)]) az aD) ?_)
   refine bc (fun q s=>∃k,k<=l.length/\q=l.length-k/\s=⟨[(0,dW m),(1,zI r),(2,zI c),(7,.own 7),(8,zI (i:Nat)),(9,.own 9),(10,zI (k:Nat))],[(9,⟨62,2,((l.take k).eraseIdx c).map .nm⟩),(7,⟨113,1,F.map dZ⟩)]⟩) (m:=l.length) ⟨0,aQ _,rfl,by simp⟩ fun q s hs=>?_;obtain⟨k,hk,rfl,rfl⟩:=hs;by_cases hkl:k<l.length
   ·obtain⟨x,hx⟩:=get_some hkl;have hes:=Ao (l.take k) x c;rw[<-bq hx,aP,dp aa]at hes;have hel:=Cw (l.take k) c;rw[aP,dp aa]at hel;obtain⟨G,hG⟩:∃G,G=(l.take k).eraseIdx c:=⟨_,rfl⟩;rw[<-hG]at hes hel;rw[<-hG];clear hG;by_cases hkc:k=c
    ·rw[ak hkc]at hes;refine ot ?_;refine CS ?_;refine jx ?_;simp only[nx,inB];exact⟨l.length-(k+1),_,by omega,(aq (sl':=[(0,dW m),(1,zI r),(2,zI c),(7,.own 7),(8,zI (i:Nat)),(9,.own 9),(10,zI ((k+1:Nat):Int))]) (ow':=[(9,⟨62,2,G.map .nm⟩),(7,⟨113,1,F.map dZ⟩)]) az aD),k+1,by omega,rfl,by rw[hes]⟩
    ·rw[ah hkc]at hes;refine ot ?_;refine CS ?_;refine bw ?_;refine Jl ?_;refine eU ?_;simp only[nx,inB];exact⟨l.length-(k+1),_,by omega,(aq (sl':=[(0,dW m),(1,zI r),(2,zI c),(7,.own 7),(8,zI (i:Nat)),(9,.own 9),(10,zI ((k+1:Nat):Int))]) (ow':=[(9,⟨62,2,G.map .nm++[.nm x]⟩),(7,⟨113,1,F.map dZ⟩)]) az aD),k+1,by omega,rfl,by rw[hes,db];rfl⟩
   ·obtain rfl:k=l.length:=by omega
    rw[et];refine zs2 ?_;refine qT ?_;refine bp ?_;refine ay (aA (k:=9) bf bA bz) ?_;refine wB ?_;simp only[nx,inB];exact⟨m.length-(i+1),_,by omega,(aq (sl':=[(0,dW m),(1,zI r),(2,zI c),(7,.own 7),(8,zI ((i+1:Nat):Int))]) (ow':=[(7,⟨113,1,F.map dZ++[dZ (l.eraseIdx c)]⟩)]) az aD),i+1,by omega,rfl,by rw[hsn,db];rfl⟩
 ·obtain rfl:i=m.length:=by omega
  rw[et];refine eR ?_;refine ay (aA (k:=7) bf bA bz) ?_;refine kb ?_;exact⟨_,Sh.refl,.one (.tmp 6) _ rfl (.tmp 6 rfl)⟩
end DW
end
section
open Go.RowKit
namespace DW
theorem Kn{B:Nat}{g:Nat->Int}:∀k,(∀l,l<k->(g l).natAbs<=B)->(Mx.sm k g).natAbs<=k*B
 |0,_=>by simp[Mx.sm]
 |k+1,h=>by
  have h1:=Kn k fun l hl=>h l aa;have h2:=h k aa;show(Mx.sm k g+g k).natAbs<=_;rw[cq,cR];have:=Int.natAbs_add_le (Mx.sm k g) (g k);omega
theorem vJ(k:Nat):(Mx.sg k).natAbs=1:=by unfold Mx.sg;split<;>rfl
theorem Ix{e n k:Nat}(hk:k<=n+1):k*(2^e*2^((e+n)*n))<=2^((e+(n+1))*(n+1)):=by
 have h1:k<=2^(n+1):=aH hk (bO Nat.lt_two_pow_self);refine aH (cZ _ h1) ?_;rw[<-fC,<-fC];refine cH aa ?_;have:(e+(n+1))*(n+1)=(e+n)*n+(e+n)+(n+1):=by grind
 omega
theorem qP{e:Nat}:∀(n:Nat) (f:Nat->Nat->Int),(∀i j,i<n->j<n->(f i j).natAbs<=2^e)->(Mx.D n f).natAbs<=2^((e+n)*n)
 |0,_,_=>by simp[Mx.D]
 |n+1,f,h=>by
  unfold Mx.D;refine aH (Kn (n+1) fun l hl=>?_) (Ix (af _));rw[en,en,vJ,cR];exact cv (h 0 l aa hl) (qP n _ fun i j hi hj=>h _ _ aa (by unfold Mx.skip;split<;>omega))
def lR(n:Nat)(f:Nat->Nat->Int)(k:Nat):Int:=Mx.sg k*f 0 k*Mx.D n (fun i j=>f (i+1) (Mx.skip k j))
theorem Ge{e n:Nat}{f:Nat->Nat->Int}(h:∀i j,i<n+1->j<n+1->(f i j).natAbs<=2^e){k:Nat}(hk:k<n+1):(lR n f k).natAbs<=2^e*2^((e+n)*n):=by
 unfold lR;rw[en,en,vJ,cR];exact cv (h 0 k aa hk) (qP n _ fun i j hi hj=>h _ _ aa (by unfold Mx.skip;split<;>omega))
theorem TS{e n:Nat}{f:Nat->Nat->Int}(h:∀i j,i<n+1->j<n+1->(f i j).natAbs<=2^e){k:Nat}(hk:k<=n+1):(Mx.sm k (lR n f)).natAbs<=2^((e+(n+1))*(n+1)):=
 aH (Kn k fun l hl=>Ge h aa) (Ix hk)
theorem MT(M:Mx.Mat)(k i j:Nat):Mx.at' (mnr M 0 k) i j=Mx.at' M (i+1) (Mx.skip k j):=by
 unfold Mx.at' Mx.rw mnr Mx.skip;simp only[aG,bW,vk,oM,if_false]
 cases M[i+1]? with
 |none=>simp
 |some r=>
  simp only[cw,ly,vk];split<;>rfl
theorem MQ{M:Mx.Mat}{n k:Nat}(hl:M.length=n+1)(hM:Mx.Rc (n+1) M)(hk:k<n+1):(mnr M 0 k).length=n/\Mx.Rc n (mnr M 0 k):=by
 unfold mnr;refine⟨by rw[bC,zd aa];omega,fun r hr=>?_⟩;obtain⟨x,hx,rfl⟩:=dw.1 hr;have:=hM x (List.mem_of_mem_eraseIdx hx);rw[zd aa];omega
theorem mnr_D(M:Mx.Mat)(n k:Nat):Mx.D n (Mx.at' (mnr M 0 k))=Mx.D n (fun i j=>Mx.at' M (i+1) (Mx.skip k j)):=Mx.ck n _ _ fun i j _ _=>MT M k i j
theorem U7{M:Mx.Mat}{B k:Nat}(h:Mx.Bd B M):Mx.Bd B (mnr M 0 k):=fun i j=>by rw[MT];exact h _ _
set_option maxRecDepth 20000
set_option maxHeartbeats 2000000
theorem As(e:Nat):∀(n:Nat) (M:Mx.Mat),M.length=n->Mx.Rc n M->Mx.Bd (2^e) M->n<=1000->(e+n)*n+e<=3000000000->
  Fn Tryz.prog 43 [dW M] (.nm (Mx.D n (Mx.at' M)))
 |0,M,hl,hM,hb,hn,he=>by
  have h0:M=[]:=fN hl;subst h0;have O:=BD 1 aa;refine ba Tryz.func43 ai rfl rfl rfl fun X0=>?_;simp only[aO];refine zs2 ?_;refine gar ?_;refine Jd ?_;refine ig ?_;refine yU ?_;refine bw ?_;refine gar ?_;refine zs81 ?_;refine gw ?_;refine zs2 ?_;exact⟨_,aA (k:=2) bf bA bz, .one (.cell 2 62) _ rfl (.cell 2 _ _ rfl rfl ai ai)⟩
 |n+1,M,hl,hM,hb,hn,he=>by
  have hSB:=fun k (hk:k<=n+1)=>TS (e:=e) (n:=n) (f:=Mx.at' M) (fun i j _ _=>hb i j) hk;have hTB:=fun k (hk:k<n+1)=>Ge (e:=e) (n:=n) (f:=Mx.at' M) (fun i j _ _=>hb i j) hk;have hDB:=fun k=>qP (e:=e) n (fun i j=>Mx.at' M (i+1) (Mx.skip k j)) fun i j _ _=>hb _ _;have hx1:(e+n)*n+e+(n+n+1)<=(e+(n+1))*(n+1):=by
   have:(e+(n+1))*(n+1)=(e+n)*n+(e+n)+(n+1):=by grind
   omega
  have IH:=fun k (hk:k<n+1)=>As e n (mnr M 0 k) (MQ hl hM hk).1 (MQ hl hM hk).2 (U7 hb) aa aa;have MI:=fun k=>Ia M 0 k aa (fun l hl=>by have:=hM l hl;omega);have hr0:=gu (M:=M) (i:=0) aa;refine ba Tryz.func43 ai rfl rfl rfl fun X0=>?_;simp only[aO];refine zs2 ?_;refine gar ?_;refine Jd ?_;refine ig ?_;refine yU ?_;refine bp ?_;refine gar ?_;refine Rg ?_;refine Rf ?_;refine gw ?_;refine iZ ?_
  (refine ay (aq (sl':=[(0,dW M),(2, .opt 2 0),(3, .opt 3 0),(4,zI 0)]) (ow':=[(3,⟨62,2,[.nm (0)]⟩),(2,⟨62,2,[.nm 0]⟩)]) az aD) ?_)
  refine bc (fun q s=>∃k,k<=n+1/\q=n+1-k/\s=⟨[(0,dW M),(2, .opt 2 0),(3, .opt 3 0),(4,zI (k:Nat))],[(3,⟨62,2,[.nm (Mx.sm k (lR n (Mx.at' M)))]⟩),(2,⟨62,2,[.nm 0]⟩)]⟩) (m:=n+1) ⟨0,aQ _,rfl,rfl⟩ fun q s hs=>?_;obtain⟨k,hk,rfl,rfl⟩:=hs;by_cases hkn:k<n+1
  ·have hxk:=ny (i:=0) hM aa hkn;have hS1:Mx.sm (k+1) (lR n (Mx.at' M))=Mx.sm k (lR n (Mx.at' M))+lR n (Mx.at' M) k:=rfl;have bS:=hSB k hk;have bT:=hTB k hkn;have bD:=hDB k;have IHk:=IH k hkn;rw[mnr_D]at IHk;have hdt:lR n (Mx.at' M) k=Mx.sg k*Mx.at' M 0 k*Mx.D n (fun i j=>Mx.at' M (i+1) (Mx.skip k j)):=rfl;have SX:=oS (Mx.at' M 0 k) (bZ (hb 0 k) aa);have MIk:=MI k;have bX:=hb 0 k;obtain⟨S,hS⟩:∃S,S=Mx.sm k (lR n (Mx.at' M)):=⟨_,rfl⟩;obtain⟨T,hT⟩:∃T,T=lR n (Mx.at' M) k:=⟨_,rfl⟩;obtain⟨X,hX⟩:∃X,X=Mx.at' M 0 k:=⟨_,rfl⟩;obtain⟨Dm,hDm⟩:∃Dm,Dm=Mx.D n (fun i j=>Mx.at' M (i+1) (Mx.skip k j)):=⟨_,rfl⟩;have gx:=ue X;rw[<-hS,<-hT]at hS1;rw[<-hS]at bS;rw[<-hT]at bT hdt;rw[<-hX]at hxk SX bX hdt;rw[<-hDm]at bD IHk hdt;rw[<-hS];clear hS hT hX hDm IH MI hSB hTB hDB hb;have hc0:(0:Int)=((0:Nat):Int):=rfl;by_cases hx0:X=0
   ·have hT0:T=0:=by rw[hdt,hx0];simp
    rw[hT0,oO]at hS1;refine dn ?_;refine Jk ?_;refine bw ?_;refine gy ?_;refine zs2 ?_;simp only[nx,inB];exact⟨n+1-(k+1),_,by omega,(aq (sl':=[(0,dW M),(2, .opt 2 0),(3, .opt 3 0),(4,zI ((k+1:Nat):Int))]) (ow':=[(3,⟨62,2,[.nm (S)]⟩),(2,⟨62,2,[.nm 0]⟩)]) az aD),k+1,by omega,rfl,by rw[hS1]⟩
   ·have eb:(2:Nat)^e*2^((e+n)*n)=2^(e+(e+n)*n):=(fC _ _ _).symm;rw[eb]at bT;have ML:=Dk X Dm (bZ bX aa) (bZ bD aa);have bXD:(X*Dm).natAbs<=2^(e+(e+n)*n):=by
     rw[en,<-eb];exact cv bX bD
    have hfP:=bZ bXD aa;have hfS:=bZ bS aa;have hfT:=bZ bT aa;have AD:=Lc S T hfS hfT;by_cases hk2:k%2=1
    ·have hsg : T = -(X * Dm) := by
      rw[hdt];unfold Mx.sg;rw[ah aa];rw[cA,jK,cW]
     have NG:=Di (X*Dm) hfP;rw[<-hsg]at NG;clear hdt hsg;refine dn ?_;refine Jk ?_;refine bp ?_;refine Qu ?_;refine zs2 ?_;refine cn ?_;refine JJ ?_;refine tF ?_;refine aX ?_;refine bw ?_;refine wJ ?_;refine zs2 ?_;refine mI ?_;refine ir ?_;refine jV ?_;refine gw ?_;refine eU ?_;simp only[nx,inB];exact⟨n+1-(k+1),_,by omega,(aq (sl':=[(0,dW M),(2, .opt 2 0),(3, .opt 3 0),(4,zI ((k+1:Nat):Int))]) (ow':=[(3,⟨62,2,[.nm (S+T)]⟩),(2,⟨62,2,[.nm 0]⟩)]) az aD),k+1,by omega,rfl,by rw[hS1]⟩
    ·have hsg : T = X * Dm := by
      rw[hdt];unfold Mx.sg;rw[ak aa,cW]
     rw[<-hsg]at ML;clear hdt hsg;refine dn ?_;refine Jk ?_;refine bp ?_;refine Qu ?_;refine zs2 ?_;refine cn ?_;refine JJ ?_;refine tF ?_;refine aX ?_;refine bp ?_;refine mI ?_;refine ir ?_;refine jV ?_;refine gw ?_;refine eU ?_;simp only[nx,inB];exact⟨n+1-(k+1),_,by omega,(aq (sl':=[(0,dW M),(2, .opt 2 0),(3, .opt 3 0),(4,zI ((k+1:Nat):Int))]) (ow':=[(3,⟨62,2,[.nm (S+T)]⟩),(2,⟨62,2,[.nm 0]⟩)]) az aD),k+1,by omega,rfl,by rw[hS1]⟩
  ·obtain rfl:k=n+1:=by omega
   have hDD:Mx.D (n+1) (Mx.at' M)=Mx.sm (n+1) (lR n (Mx.at' M)):=rfl;obtain⟨S,hS⟩:∃S,S=Mx.sm (n+1) (lR n (Mx.at' M)):=⟨_,rfl⟩;rw[<-hS]at hDD;rw[<-hS];clear hS;refine eR ?_;refine mI ?_;refine gw ?_;refine zs2 ?_;rw[hDD];exact⟨_,aA (k:=2) bf bA bz, .one (.cell 2 62) _ rfl (.cell 2 _ _ rfl rfl ai ai)⟩
end DW
end
section
namespace Mx
theorem oR(j:Nat):skip 0 j=j+1:=by unfold skip;rw[ah aa]
theorem Bl(l:Nat):skip (l+1) 0=0:=by unfold skip;rw[ak aa]
theorem L2(l i:Nat):skip (l+1) (i+1)=skip l i+1:=by
 unfold skip;by_cases h:i<l
 ·rw[ak h,ak aa]
 ·rw[ah h,ah aa]
theorem lW(n:Nat)(g:Nat->Int):sm (n+1) g=g 0+sm n (fun l=>g (l+1)):=by
 rw[Hh g n 0 (aQ _),bu n (fun l=>g (skip 0 l)) (fun l=>g (l+1)) fun l _=>by rw[oR]];omega
theorem Si(n:Nat)(h:∀f,D (n+1) f=D (n+1) fun i j=>f j i)(f:Nat->Nat->Int):
  D (n+2) f=f 0 0*D (n+1) (fun i j=>f (i+1) (j+1))+sm (n+1) fun l=>sm (n+1) fun m=>-(sg l*sg m)*(f 0 (l+1)*f (m+1) 0)*D n (fun i j=>f (skip m j+1) (skip l i+1)):=by
 show sm (n+2) (fun k=>sg k*f 0 k*D (n+1) (fun i j=>f (i+1) (skip k j)))=_;rw[lW];congr 1
 ·rw[show sg 0=1 from rfl,cW,ck (n+1) (fun i j=>f (i+1) (skip 0 j)) (fun i j=>f (i+1) (j+1)) fun i j _ _=>by rw[oR]]
 ·refine bu _ _ _ fun l _=>?_;rw[h];show sg (l+1)*f 0 (l+1)*sm (n+1) (fun m=>sg m*f (m+1) (skip (l+1) 0)*D n (fun i j=>f (skip m j+1) (skip (l+1) (i+1))))=_;rw[<-jM];refine bu _ _ _ fun m _=>?_;rw[Bl,Bn,ck n (fun i j=>f (skip m j+1) (skip (l+1) (i+1))) (fun i j=>f (skip m j+1) (skip l i+1)) fun i j _ _=>by rw[L2]];generalize D n _=d;simp only[jK,cA];congr 1;rw[iJ (f 0 (l+1)) (sg m)]
theorem Sj:∀n,(∀f,D n f=D n fun i j=>f j i)/\∀f,D (n+1) f=D (n+1) fun i j=>f j i
 |0=>⟨fun _=>rfl,fun f=>by
  show sm 1 (fun k=>sg k*f 0 k*1)=sm 1 (fun k=>sg k*f k 0*1);rfl⟩
 |n+1=>by
  obtain⟨h1,h2⟩:=Sj n;refine⟨h2,fun f=>?_⟩;rw[Si n h2 f,Si n h2 (fun i j=>f j i)];congr 1
  ·rw[h2]
  ·rw[xo];refine bu _ _ _ fun l _=>bu _ _ _ fun m _=>?_;rw[h1,de (sg m) (sg l),de (f 0 (m+1))]
theorem px(n:Nat)(f:Nat->Nat->Int):D n f=D n fun i j=>f j i:=(Sj n).1 f
theorem UD{n i:Nat}(hi:i<n)(f:Nat->Nat->Int):D n (upd f i fun _=>0)=0:=by
 have h:=rY 0 0 n f i (fun _=>0) (fun _=>0) hi;simpa using h
theorem Lk{n i:Nat}(hi:i<n)(f:Nat->Nat->Int)(v:Nat->Int)(A:Nat->Nat->Int):∀m,D n (upd f i fun j=>sm m fun k=>v k*A k j)=sm m fun k=>v k*D n (upd f i (A k))
 |0=>UD hi f
 |m+1=>by
  have h:=rY 1 (v m) n f i (fun j=>sm m fun k=>v k*A k j) (A m) hi;rw[Lk hi f v A m]at h;show D n (upd f i fun j=>sm m (fun k=>v k*A k j)+v m*A m j)=sm m (fun k=>v k*D n (upd f i (A k)))+v m*D n (upd f i (A m));rw[cW]at h;rw[<-h];congr 2;funext j;rw[cW]
theorem Mw:∀(n:Nat) (τ:Nat->Nat),(∀i,i<n+1->τ i<n)->∃i j,i<j/\j<n+1/\τ i=τ j
 |0,τ,h=>absurd (h 0 aa) aa
 |n+1,τ,h=>by
  by_cases e:∃i,i<n+1/\τ i=τ (n+1)
  ·obtain⟨i,h1,h2⟩:=e;exact⟨i,n+1,h1,by omega,h2⟩
  ·have hne:∀i,i<n+1->τ i≠τ (n+1):=fun i hi h2=>e ⟨i,hi,h2⟩;have ht:=h (n+1) aa;obtain⟨i,j,h1,h2,h3⟩:=Mw n (fun i=>if τ (n+1)<τ i then τ i-1 else τ i) fun i hi=>by
    have a:=hne i hi;have b:=h i aa;show(if τ (n+1)<τ i then τ i-1 else τ i)<n;split<;>omega
   refine⟨i,j,h1,by omega,?_⟩;have a:=hne i aa;have b:=hne j h2;split at h3<;>split at h3<;>omega
theorem yP{r:Nat}(H:Nat->Nat->Int):∀(d k:Nat),k+d=r->∀τ:Nat->Nat,(∀i,i<r->τ i<r)->(∀i,i<k->τ i=i)->∃c:Int,∀S:Nat->Nat,D r (fun i j=>H (τ i) (S j))=c*D r (fun i j=>H i (S j))
 |0,k,hk,τ,_,h2=>⟨1,fun S=>by
  rw[cW];exact ck r _ _ fun i j hi _=>by rw[h2 i aa]⟩
 |d+1,k,hk,τ,h1,h2=>by
  by_cases e:∃i j,i<j/\j<r/\τ i=τ j
  ·obtain⟨i,j,hij,hj,he⟩:=e;exact⟨0,fun S=>by
    rw[sJ];exact lI (i:=i) (j:=j) aa hj aa _ fun l=>by rw[he]⟩
  ·have hne:∀i j,i<j->j<r->τ i≠τ j:=fun i j hi hj he=>e ⟨i,j,hi,hj,he⟩;have hp:∃p,p<r/\τ p=k:=sL fun hno=>by
    have hno':∀p,p<r->τ p≠k:=fun p hp he=>hno ⟨p,hp,he⟩;obtain⟨n,rfl⟩:∃n,r=n+1:=⟨r-1,by omega⟩;obtain⟨i,j,g1,g2,g3⟩:=Mw n (fun i=>if k<τ i then τ i-1 else τ i) fun i hi=>by
     have a:=hno' i hi;have b:=h1 i hi;show(if k<τ i then τ i-1 else τ i)<n;split<;>omega
    have a:=hno' i aa;have b:=hno' j g2;refine hne i j g1 g2 ?_;split at g3<;>split at g3<;>omega
   obtain⟨p,hp,hpk⟩:=hp;have hkp:k<=p:=sL fun h=>by
    have:=h2 p aa;omega
   by_cases hpe:p=k
   ·subst hpe;exact yP (r:=r) H d (p+1) aa τ h1 fun i hi=>by
     by_cases hi2:i<p
     ·exact h2 i hi2
     ·obtain rfl:i=p:=by omega
      exact hpk
   ·obtain ⟨c, hc⟩ := yP (r := r) H d (k + 1) (by omega) (fun i => if i = k then τ p else if i = p then τ k else τ i) (fun i hi => by
        show(if i=k then τ p else if i=p then τ k else τ i)<r;split
        ·exact h1 p hp
        ·split
         ·exact h1 k aa
         ·exact h1 i hi) (fun i hi=>by
        show(if i=k then τ p else if i=p then τ k else τ i)=i;split
        ·omega
        ·split
         ·omega
         ·exact h2 i aa)
    refine⟨-c,fun S=>?_⟩;rw[jK,<-hc S];have hs:=AK (n:=r) (i:=k) (j:=p) aa hp (fun h=>hpe h.symm) (fun i j=>H (τ i) (S j));have:D r (upd (upd (fun i j=>H (τ i) (S j)) k ((fun i j=>H (τ i) (S j)) p)) p ((fun i j=>H (τ i) (S j)) k))=D r (fun i j=>H (if i=k then τ p else if i=p then τ k else τ i) (S j)):=ck r _ _ fun i j _ _=>by
     unfold upd;by_cases e1:i=p
     ·rw[ak e1,ah aa,ak e1]
     ·rw[ah e1];by_cases e2:i=k
      ·rw[ak e2,ak e2]
      ·rw[ah e2,ah e2,ah e1]
    rw[this]at hs;omega
theorem GK{r:Nat}(H V:Nat->Nat->Int):∀t,t<=r->∀τ:Nat->Nat,(∀i,i<r->τ i<r)->∃c:Int,∀S:Nat->Nat,D r (fun i j=>if i<t then sm r (fun k=>V i k*H k (S j))else H (τ i) (S j))=c*D r (fun i j=>H i (S j))
 |0,_,τ,h1=>by
  obtain⟨c,hc⟩:=yP (r:=r) H r 0 aa τ h1 fun i hi=>absurd hi (oM i);exact⟨c,fun S=>by
   rw[<-hc S];exact ck r _ _ fun i j _ _=>ah (oM i)⟩
 |t+1,ht,τ,h1=>by
  have hk:∀k,∃c:Int,k<r->∀S:Nat->Nat,D r (fun i j=>if i<t then sm r (fun k=>V i k*H k (S j))else H (if i=t then k else τ i) (S j))=c*D r (fun i j=>H i (S j)):=fun k=>by
   by_cases hkr:k<r
   ·obtain ⟨c, hc⟩ := GK (r := r) H V t (by omega) (fun i => if i = t then k else τ i) fun i hi => by
     show(if i=t then k else τ i)<r;split
     ·exact hkr
     ·exact h1 i hi
    exact⟨c,fun _=>hc⟩
   ·exact⟨0,fun h=>absurd h hkr⟩
  refine⟨sm r fun k=>V t k*Classical.choose (hk k),fun S=>?_⟩;have e:=Lk (n:=r) (i:=t) aa (fun i j=>if i<t then sm r (fun k=>V i k*H k (S j))else H (τ i) (S j)) (V t) (fun k j=>H k (S j)) r;rw[ck r (fun i j=>if i<t+1 then sm r (fun k=>V i k*H k (S j))else H (τ i) (S j)) (upd (fun i j=>if i<t then sm r (fun k=>V i k*H k (S j))else H (τ i) (S j)) t fun j=>sm r fun k=>V t k*H k (S j)) fun i j _ _=>by
   unfold upd;by_cases e1:i=t
   ·rw[ak e1,ak aa,e1]
   ·rw[ah e1];show(if i<t+1 then sm r fun k=>V i k*H k (S j)else H (τ i) (S j))=if i<t then sm r (fun k=>V i k*H k (S j))else H (τ i) (S j)
    by_cases e2:i<t
    ·rw[ak e2,ak (show i<t+1 by omega)]
    ·rw[ah e2,ah (show¬i<t+1 by omega)],e,de,<-jM]
  refine bu r _ _ fun k hkr=>?_;have hc:=vi (hk k) hkr S;rw[ck r (upd (fun i j=>if i<t then sm r (fun k=>V i k*H k (S j))else H (τ i) (S j)) t fun j=>H k (S j)) (fun i j=>if i<t then sm r (fun k=>V i k*H k (S j))else H (if i=t then k else τ i) (S j)) fun i j _ _=>by
   unfold upd;by_cases e1:i=t
   ·rw[ak e1,ah aa,ak e1]
   ·rw[ah e1,ah e1],hc,iJ,de (D r _)]
  rw[iJ,cA]
end Mx
end
section
namespace Mx
def trM(n:Nat)(M:Mat):Mat:=(List.range n).map fun j=>M.map fun r=>r.getD j 0
theorem gL(n:Nat)(M:Mat):(trM n M).length=n:=by simp[trM]
theorem LJ(n:Nat)(M:Mat):Rc M.length (trM n M):=fun r hr=>by
 obtain⟨k,_,rfl⟩:=dw.1 hr;simp
theorem Be{n k:Nat}(M:Mat)(h:k<n):(trM n M)[k]?=some (M.map fun r=>r.getD k 0):=by
 unfold trM;rw[bW,ji h];rfl
theorem vU(M:Mat)(k i:Nat):(M.map fun r=>r.getD k 0).getD i 0=at' M i k:=by
 unfold at' rw;rw[aG,bW,aG (l:=M)]
 cases M[i]? with
 |none=>simp
 |some r=>simp
def nM(k:Nat)(M:Mat):Nat->Nat->Nat
 |0,p=>p
 |f+1,p=>if at' M p k=0 then nM k M f (p+1)else p
def piv(k:Nat)(M:Mat)(p:Nat):Nat:=nM k M (M.length-p) p
theorem Td{k p:Nat}{M:Mat}(h:M.length<=p):piv k M p=p:=by
 unfold piv;rw[show M.length-p=0 by omega];rfl
theorem O4{k p:Nat}{M:Mat}(h:p<M.length)(h0:at' M p k=0):piv k M p=piv k M (p+1):=by
 unfold piv;rw[show M.length-p=(M.length-(p+1))+1 by omega];show(if at' M p k=0 then nM k M (M.length-(p+1)) (p+1)else p)=_;rw[ak h0]
theorem O5{k p:Nat}{M:Mat}(h:p<M.length)(h0:at' M p k≠0):piv k M p=p:=by
 unfold piv;rw[show M.length-p=(M.length-(p+1))+1 by omega];show(if at' M p k=0 then nM k M (M.length-(p+1)) (p+1)else p)=_;rw[ah h0]
theorem Hs(k:Nat)(M:Mat):∀f p,p<=nM k M f p
 |0,p=>af _
 |f+1,p=>by
  show p<=if at' M p k=0 then nM k M f (p+1)else p
  have:=Hs k M f (p+1);split<;>omega
theorem UY(k:Nat)(M:Mat)(p:Nat):p<=piv k M p:=Hs k M _ p
def uS(k:Nat)(last:Int)(p r:List Int):List Int:=(List.range r.length).map fun j=>if k<j then(p.getD k 0*r.getD j 0-r.getD k 0*p.getD j 0)/last else r.getD j 0
theorem mi(k:Nat)(last:Int)(p r:List Int):(uS k last p r).length=r.length:=by simp[uS]
theorem uR{k j:Nat}{last:Int}{p r:List Int}(h:j<r.length):(uS k last p r)[j]?=some (if k<j then(p.getD k 0*r.getD j 0-r.getD k 0*p.getD j 0)/last else r.getD j 0):=by
 unfold uS;rw[bW,ji h];rfl
theorem IB{k j:Nat}{last:Int}{p r:List Int}(h:j<r.length):(uS k last p r).getD j 0=if k<j then(p.getD k 0*r.getD j 0-r.getD k 0*p.getD j 0)/last else r.getD j 0:=by
 rw[aG,uR h];rfl
def bK(k:Nat)(last:Int)(M:Mat):Nat->Mat
 |0=>M
 |t+1=>(bK k last M t).set (k+1+t) (uS k last (rw M k) (rw M (k+1+t)))
theorem Az(k:Nat)(last:Int)(M:Mat):∀t,(bK k last M t).length=M.length
 |0=>rfl
 |t+1=>by rw[bK,ed,Az k last M t]
theorem xI(k:Nat)(last:Int)(M:Mat):∀t,k+1+t<=M.length->∀i,rw (bK k last M t) i=if k+1<=i/\i<k+1+t then uS k last (rw M k) (rw M i)else rw M i
 |0,_,i=>by rw[ah aa];rfl
 |t+1,h,i=>by
  rw[bK,qp _ _ _ _ (by rw[Az];omega),xI k last M t aa];by_cases e:i=k+1+t
  ·rw[ak e,ak aa,e]
  ·rw[ah e];by_cases e2:k+1<=i/\i<k+1+t
   ·rw[ak e2,ak aa]
   ·rw[ah e2,ah aa]
theorem La{n k:Nat}{last:Int}{M:Mat}(h:Rc n M):∀t,k+1+t<=M.length->Rc n (bK k last M t)
 |0,_=>h
 |t+1,ht=>by
  rw[bK];exact(La h t aa).set (by rw[mi];exact h.rw aa)
def sy(k:Nat)(last:Int)(M:Mat):Mat:=bK k last M (M.length-(k+1))
theorem bK_bd{n X k t:Nat}{last:Int}{M:Mat}(h:Rc n M)(hb:Bd X M)(h1:1<=X)(ht:k+1+t<=M.length):Bd (2*X*X) (bK k last M t):=fun i j=>by
 have hX:X<=2*X*X:=by
  have:X*1<=2*X*X:=cv aa h1;omega
 unfold at';rw[xI k last M t ht];split
 ·next e=>
  by_cases hj:j<n
  ·have hl:(rw M i).length=n:=h.rw aa;rw[IB (by rw[hl];exact hj)];split
   ·refine aH (mB _ _) ?_;have e1:((rw M k).getD k 0*(rw M i).getD j 0).natAbs<=X*X:=by
     rw[en];exact cv (hb k k) (hb i j)
    have e2:((rw M i).getD k 0*(rw M k).getD j 0).natAbs<=X*X:=by
     rw[en];exact cv (hb i k) (hb k j)
    have e3:2*X*X=X*X+X*X:=by rw[cF,Nat.two_mul]
    omega
   ·exact aH (hb i j) hX
  ·rw[aG,gA (by rw[mi,h.rw aa];omega)];simp
 ·exact aH (hb i j) hX
def bGo:Nat->Nat->Mat->Int->Int->Int
 |0,_,_,last,s=>s*last
 |r+1,k,M,last,s=>
  if piv k M k=M.length then 0
  else bGo r (k+1) (sy k last (if piv k M k=k then M else swp M k (piv k M k))) (at' M (piv k M k) k) (if piv k M k=k then s else-s)
def BU(M:Mat):Int:=bGo M.length 0 M 1 1
def bE(e k:Nat):Nat:=2^k*(e+1)-1
theorem Uf(e:Nat):bE e 0=e:=by simp[bE]
theorem IC(e k:Nat):2*2^(bE e k)*2^(bE e k)=2^(bE e (k+1)):=by
 have h:bE e (k+1)=bE e k+bE e k+1:=by
  have h1:1<=2^k*(e+1):=qk (eH aa) aa;have h2:2^(k+1)*(e+1)=2*(2^k*(e+1)):=by rw[ei,bG (2^k) 2,cF]
  unfold bE;rw[h2];omega
 rw[h,ei,fC,bG _ 2,cF]
theorem bE_le{e k n:Nat}(h:k<=n):bE e k<=2^n*(e+1):=by
 have:=cZ (e+1) (cH (n:=2) aa h);unfold bE;omega
end Mx
end
section
namespace Mx
theorem Lo{n i:Nat}(hi:i<n)(F:Nat->Nat->Int)(x:Int)(a y:Nat->Int)(B:Nat->Nat->Int)(m:Nat):D n (upd F i fun j=>x*a j+sm m fun k=>y k*B k j)=x*D n (upd F i a)+sm m fun k=>y k*D n (upd F i (B k)):=by
 have h:=rY x 1 n F i a (fun j=>sm m fun k=>y k*B k j) hi;rw[Lk hi F y B m,cW]at h;rw[<-h];congr 2;funext j;rw[cW]
def cyc(m a:Nat):Nat:=if a=0 then m else if a<=m then a-1 else a
theorem Ln{n:Nat}(g:Nat->Nat->Int):∀m,m<n->D n (fun a b=>g (cyc m a) b)=sg m*D n g
 |0,_=>by
  rw[show sg 0=1 from rfl,cW];exact ck n _ _ fun a b _ _=>by
   unfold cyc;by_cases h:a=0
   ·rw[ak h,h]
   ·rw[ah h,ah aa]
 |m+1,hm=>by
  have h:=AK (n:=n) (i:=0) (j:=m+1) aa hm aa (fun a b=>g (cyc m a) b);rw[Ln g m aa]at h;rw[Bn,jK,<-h];exact ck n _ _ fun a b _ _=>by
   unfold upd cyc;by_cases h1:a=m+1
   ·rw[ak h1,ah aa,ak aa,ak rfl];congr 1;omega
   ·rw[ah h1];by_cases h2:a=0
    ·rw[ak h2,ak h2,ah aa,ah aa]
    ·rw[ah h2,ah h2];show _=g (if a=0 then m else if a<=m then a-1 else a) b;by_cases h3:a<=m
     ·rw[ak aa,ah h2,ak h3]
     ·rw[ah aa,ah h2,ah h3]
theorem Rv(k:Nat):sg k*sg k=1:=by unfold sg;split<;>rfl
def rsg:Nat->Int
 |0=>1
 |n+1=>sg n*rsg n
theorem Mf:∀n,rsg n*rsg n=1
 |0=>rfl
 |n+1=>by
  have h1:=Rv n;have h2:=Mf n;show sg n*rsg n*(sg n*rsg n)=1;rw[cA,iJ (rsg n),h2,pD,h1]
theorem Ll:∀(n:Nat) (g:Nat->Nat->Int),D n (fun a b=>g (n-(a+1)) b)=rsg n*D n g
 |0,_=>by simp[D,rsg]
 |n+1,g=>by
  have h:=Ln g n (gV n);show D (n+1) _=sg n*rsg n*D (n+1) g;rw[Ee,<-h];show sm (n+1) (fun k=>sg k*g (n+1-(0+1)) k*D n (fun a b=>g (n+1-(a+1+1)) (skip k b)))=sm (n+1) (fun k=>sg k*g (cyc n 0) k*D n (fun a b=>g (cyc n (a+1)) (skip k b)))*rsg n;rw[de,<-jM];refine bu _ _ _ fun k _=>?_;have e1:cyc n 0=n+1-(0+1):=by unfold cyc;rw[ak rfl];omega
  have e2:=Ll n (fun a b=>g (cyc n (a+1)) (skip k b));rw[ck n (fun a b=>g (n+1-(a+1+1)) (skip k b)) (fun a b=>g (cyc n (n-(a+1)+1)) (skip k b)) fun a b ha _=>by
   unfold cyc;rw[ah aa,ak aa];congr 1;omega,e2,e1]
  rw[iJ (rsg n)]
theorem VQ(n:Nat)(g:Nat->Nat->Int):D n (fun a b=>g (n-(a+1)) (n-(b+1)))=D n g:=by
 rw[Ll n (fun a b=>g a (n-(b+1))),px,Ll n (fun b a=>g a b),<-cA,Mf,cW,<-px n g]
namespace Ba
variable (f : Nat->Nat->Int)
def xr(k:Nat)(v:Nat->Int)(a:Nat):Nat->Int:=if a=0 then v else f (k-a)
def xc(k j b:Nat):Nat:=if b=0 then j else k-b
def X(k:Nat)(v:Nat->Int)(j:Nat):Int:=D (k+1) fun a b=>xr f k v a (xc k j b)
def P(k:Nat):Int:=D k fun a b=>f (k-(a+1)) (k-(b+1))
theorem pU(k:Nat)(v:Nat->Int):xr f k v 0=v:=ak rfl
theorem wZ(k:Nat)(v:Nat->Int)(a:Nat):xr f k v (a+1)=f (k-(a+1)):=ah aa
theorem pV(k j:Nat):xc k j 0=j:=ak rfl
theorem xe(k j b:Nat):xc k j (b+1)=k-(b+1):=ah aa
theorem P_all(n:Nat):P f n=D n f:=VQ n f
theorem VF(k:Nat):X f k (f k) k=P f (k+1):=ck _ _ _ fun a b _ _=>by
 have ha:xr f k (f k) a=f (k+1-(a+1)):=by
  cases a with
  |zero=>rw[pU];rfl
  |succ a=>rw[wZ];congr 1;omega
 have hb:xc k k b=k+1-(b+1):=by
  cases b with
  |zero=>rw[pV];rfl
  |succ b=>rw[xe];omega
 rw[ha,hb]
def L(k:Nat)(v:Nat->Int)(t:Nat):Int:=sg (t+1)*D k fun a b=>xr f k v (skip (t+1) b) (k-(a+1))
theorem Sd(k:Nat)(v:Nat->Int)(j:Nat):X f k v j=P f k*v j+sm k fun t=>L f k v t*f (k-(t+1)) j:=by
 unfold X;rw[px];show sm (k+1) (fun t=>sg t*xr f k v t (xc k j 0)*D k (fun a b=>xr f k v (skip t b) (xc k j (a+1))))=_;rw[lW];congr 1
 ·rw[pU,pV,show sg 0=1 from rfl,cW,de];congr 1;unfold P;rw[px];exact ck k _ _ fun a b _ _=>by rw[oR,wZ,xe]
 ·refine bu _ _ _ fun t _=>?_;rw[wZ,pV];unfold L;rw[Ee];congr 2
def N(k j t:Nat):Int:=sg (t+1)*D k fun a b=>f (k-(a+1)) (xc k j (skip (t+1) b))
theorem X_row(k:Nat)(v:Nat->Int)(j:Nat):X f k v j=P f k*v j+sm k fun t=>N f k j t*v (k-(t+1)):=by
 unfold X;show sm (k+1) (fun t=>sg t*xr f k v 0 (xc k j t)*D k (fun a b=>xr f k v (a+1) (xc k j (skip t b))))=_;rw[lW];congr 1
 ·rw[pU,pV,show sg 0=1 from rfl,cW,de];congr 1
 ·refine bu _ _ _ fun t _=>?_;rw[pU,xe];unfold N;rw[Ee];congr 2
theorem VE{k t:Nat}(h:t<k)(j:Nat):X f k (f t) j=0:=lI (i:=0) (j:=k-t) aa aa aa _ fun l=>by
 obtain⟨s,hs⟩:∃s,k-t=s+1:=⟨k-t-1,by omega⟩;rw[hs,pU,wZ,show k-(s+1)=t by omega]
theorem N1{k t:Nat}(h:t<k)(v:Nat->Int):X f k v t=0:=by
 unfold X;rw[px];refine lI (i:=0) (j:=k-t) aa aa aa _ fun l=>?_;obtain⟨s,hs⟩:∃s,k-t=s+1:=⟨k-t-1,by omega⟩;rw[hs,pV,xe,show k-(s+1)=t by omega]
def zc(k c j b:Nat):Nat:=if b=0 then c else if b=1 then j else k+1-b
def zr(k:Nat)(u w:Nat->Int)(a:Nat):Nat->Int:=if a=0 then u else if a=1 then w else f (k+1-a)
def Z(k:Nat)(u w:Nat->Int)(c j:Nat):Int:=D (k+2) fun a b=>zr f k u w a (zc k c j b)
theorem Dz(k:Nat)(u w:Nat->Int)(a:Nat):zr f k u w (a+2)=f (k-(a+1)):=by
 unfold zr;rw[ah aa,ah aa];congr 1;omega
theorem DD(k c j b:Nat):zc k c j (b+2)=k-(b+1):=by
 unfold zc;rw[ah aa,ah aa];omega
theorem VH(k:Nat)(v:Nat->Int)(j:Nat):X f (k+1) v j=Z f k v (f k) j k:=ck _ _ _ fun a b _ _=>by
 have ha:xr f (k+1) v a=zr f k v (f k) a:=by
  unfold xr zr;by_cases h:a=0
  ·rw[ak h,ak h]
  ·rw[ah h,ah h];by_cases h1:a=1
   ·rw[ak h1,h1];rfl
   ·rw[ah h1]
 have hb:xc (k+1) j b=zc k j k b:=by
  unfold xc zc;by_cases h:b=0
  ·rw[ak h,ak h]
  ·rw[ah h,ah h];by_cases h1:b=1
   ·rw[ak h1,h1];rfl
   ·rw[ah h1]
 rw[ha,hb]
theorem Z_u(k:Nat)(u w:Nat->Int)(c j:Nat):Z f k (X f k u) w c j=P f k*Z f k u w c j:=by
 have e:∀u,Z f k u w c j=D (k+2) (upd (fun a b=>zr f k u w a (zc k c j b)) 0 fun b=>u (zc k c j b)):=fun u=>ck _ _ _ fun a b _ _=>by
  unfold upd;by_cases h:a=0
  ·rw[ak h,h];rfl
  ·rw[ah h]
 have e2:∀u v:Nat->Int,D (k+2) (upd (fun a b=>zr f k u w a (zc k c j b)) 0 fun b=>v (zc k c j b))=D (k+2) (upd (fun a b=>zr f k w w a (zc k c j b)) 0 fun b=>v (zc k c j b)):=fun u v=>ck _ _ _ fun a b _ _=>by
  unfold upd zr;by_cases h:a=0
  ·rw[ak h,ak h]
  ·rw[ah h,ah h];show(if a=0 then u else if a=1 then w else f (k+1-a)) _=(if a=0 then w else if a=1 then w else f (k+1-a)) _;rw[ah h,ah h]
 rw[e,e u,e2,e2 u u,show(fun b=>X f k u (zc k c j b))=fun b=>P f k*u (zc k c j b)+sm k fun t=>L f k u t*f (k-(t+1)) (zc k c j b)from funext fun b=>Sd f k u _,Lo aa _ _ (fun b=>u (zc k c j b)) (L f k u) (fun t b=>f (k-(t+1)) (zc k c j b)) k,jO k _ fun t ht=>?_,oO];rw[lI (i:=0) (j:=t+2) aa aa aa _ fun l=>?_,bQ];show upd _ 0 _ 0 l=upd _ 0 _ (t+2) l;unfold upd;rw[ak rfl,ah aa];show _=zr f k w w (t+2) (zc k c j l);rw[Dz]
theorem Z_w(k:Nat)(u w:Nat->Int)(c j:Nat):Z f k u (X f k w) c j=P f k*Z f k u w c j:=by
 have e:∀w,Z f k u w c j=D (k+2) (upd (fun a b=>zr f k u w a (zc k c j b)) 1 fun b=>w (zc k c j b)):=fun w=>ck _ _ _ fun a b _ _=>by
  unfold upd;by_cases h:a=1
  ·rw[ak h,h];rfl
  ·rw[ah h]
 have e2:∀w v:Nat->Int,D (k+2) (upd (fun a b=>zr f k u w a (zc k c j b)) 1 fun b=>v (zc k c j b))=D (k+2) (upd (fun a b=>zr f k u u a (zc k c j b)) 1 fun b=>v (zc k c j b)):=fun w v=>ck _ _ _ fun a b _ _=>by
  unfold upd zr;by_cases h:a=1
  ·rw[ak h,ak h]
  ·rw[ah h,ah h];show(if a=0 then u else if a=1 then w else f (k+1-a)) _=(if a=0 then u else if a=1 then u else f (k+1-a)) _;rw[ah h,ah h]
 rw[e,e w,e2,e2 w w,show(fun b=>X f k w (zc k c j b))=fun b=>P f k*w (zc k c j b)+sm k fun t=>L f k w t*f (k-(t+1)) (zc k c j b)from funext fun b=>Sd f k w _,Lo aa _ _ (fun b=>w (zc k c j b)) (L f k w) (fun t b=>f (k-(t+1)) (zc k c j b)) k,jO k _ fun t ht=>?_,oO];rw[lI (i:=1) (j:=t+2) aa aa aa _ fun l=>?_,bQ];show upd _ 1 _ 1 l=upd _ 1 _ (t+2) l;unfold upd;rw[ak rfl,ah aa];show _=zr f k u u (t+2) (zc k c j l);rw[Dz]
theorem Oy(b:Nat):skip 1 (b+1)=b+2:=by unfold skip;rw[ah aa]
theorem UL(n:Nat)(g:Nat->Int)(h:∀b,2<=b->b<n+2->g b=0):sm (n+2) g=g 0+g 1:=by
 rw[lW,lW,jO n _ fun k hk=>h (k+2) aa aa,oO]
theorem Ux(k:Nat)(u w:Nat->Int)(c j:Nat)(hu:∀t,t<k->u t=0)(hw:∀t,t<k->w t=0):Z f k u w c j=(u c*w j-u j*w c)*P f k:=by
 unfold Z;show sm (k+2) (fun b=>sg b*zr f k u w 0 (zc k c j b)*D (k+1) (fun a b'=>zr f k u w (a+1) (zc k c j (skip b b'))))=_;have h0:zr f k u w 0=u:=ak rfl;have h1:zr f k u w 1=w:=rfl;have c0:zc k c j 0=c:=ak rfl;have c1:zc k c j 1=j:=rfl;rw[UL k _ fun b hb hb2=>by
  obtain⟨b,rfl⟩:∃b',b=b'+2:=⟨b-2,by omega⟩;rw[h0,DD,hu _ aa,bQ,sJ]]
 have hD:∀s:Nat->Nat,(∀b,s (b+1)=b+2)->D (k+1) (fun a b'=>zr f k u w (a+1) (zc k c j (s b')))=w (zc k c j (s 0))*P f k:=fun s hs=>by
  show sm (k+1) (fun b=>sg b*zr f k u w (0+1) (zc k c j (s b))*D k (fun a b'=>zr f k u w (a+1+1) (zc k c j (s (skip b b')))))=_;rw[rq (j:=0) aa fun b hb hne=>by
   obtain⟨b,rfl⟩:∃b',b=b'+1:=⟨b-1,by omega⟩;rw[hs,DD,bn,h1,hw _ aa,bQ,sJ],show sg 0=1 from rfl,cW,bn,h1]
  congr 1;exact ck k _ _ fun a b _ _=>by rw[Dz,oR,hs,DD]
 rw[hD (skip 0) (fun b=>oR _),hD (skip 1) Oy,h0,c0,c1,show skip 0 0=1 from rfl,show skip 1 0=0 from rfl,c0,c1,show sg 0=1 from rfl,show sg 1= -1 from rfl,Int.sub_mul,cW,jK,jK,cW,cA,cA];rfl
theorem step(k:Nat)(hP:P f k≠0)(v:Nat->Int)(j:Nat):X f k (f k) k*X f k v j-X f k v k*X f k (f k) j=P f k*X f (k+1) v j:=by
 have h1:=Ux f k (X f k v) (X f k (f k)) j k (fun t ht=>N1 f ht v) (fun t ht=>N1 f ht (f k));rw[Z_u,Z_w,<-VH,de]at h1;have h2:=Int.eq_of_mul_eq_mul_right hP h1;rw[h2,de (X f k (f k) k)]
theorem AO{n k:Nat}(hk:k<n)(hP:P f k≠0)(h:∀i,k<=i->i<n->X f k (f i) k=0):D n f=0:=by
 have h0:∀i,i<n->P f k*f i k+sm k (fun t=>N f k k t*f i (k-(t+1)))=0:=fun i hi=>by
  rw[<-X_row];by_cases hik:i<k
  ·exact VE f hik k
  ·exact h i aa hi
 have h1:=Lo (n:=n) (i:=k) hk (fun i j=>f j i) (P f k) (fun i=>f i k) (N f k k) (fun t i=>f i (k-(t+1))) k;rw[jO k _ fun t ht=>by
  rw[lI (i:=k) (j:=k-(t+1)) hk aa aa _ fun l=>by unfold upd;rw[ak rfl,ah aa],bQ],oO]at h1
 rw[GJ (i:=k) hk _ fun l hl=>by unfold upd;rw[ak rfl];exact h0 l hl,lU (fun i j=>f j i) k,<-px n f]at h1;rcases vu.1 h1.symm with h2|h2
 ·exact absurd h2 hP
 ·exact h2
theorem VG{f g:Nat->Nat->Int}{k:Nat}(h:∀i,i<k->f i=g i)(v:Nat->Int)(j:Nat):X f k v j=X g k v j:=ck _ _ _ fun a b ha _=>by
 unfold xr;by_cases h0:a=0
 ·rw[ak h0,ak h0]
 ·rw[ah h0,ah h0,h _ aa]
theorem VN{f g:Nat->Nat->Int}{k:Nat}(h:∀i,i<k->f i=g i):P f k=P g k:=ck _ _ _ fun a b ha _=>by rw[h _ aa]
def sw(f:Nat->Nat->Int)(k p:Nat):Nat->Nat->Int:=upd (upd f k (f p)) p (f k)
theorem sw_lt{k p i:Nat}(hi:i<k)(hp:k<=p):sw f k p i=f i:=by
 unfold sw upd;funext j;rw[ah aa,ah aa]
end Ba
theorem Ci(k:Nat)(M:Mat):∀f p,(nM k M f p=p+f/\∀i,p<=i->i<p+f->at' M i k=0)\/(nM k M f p<p+f/\at' M (nM k M f p) k≠0)
 |0,p=>.inl ⟨rfl,fun i h1 h2=>by omega⟩
 |f+1,p=>by
  by_cases h:at' M p k=0
  ·have e:nM k M (f+1) p=nM k M f (p+1):=ak h;rw[e];rcases Ci k M f (p+1)with⟨h1,h2⟩|⟨h1,h2⟩
   ·refine .inl ⟨by omega,fun i h3 h4=>?_⟩;by_cases e:i=p
    ·rw[e];exact h
    ·exact h2 i aa aa
   ·exact .inr ⟨by omega,h2⟩
  ·have e:nM k M (f+1) p=p:=ah h;rw[e];exact .inr ⟨by omega,h⟩
theorem Ue{n k i j:Nat}{last:Int}{M:Mat}(hl:M.length=n)(h:Rc n M)(hk:k<n)(hi:k<i)(hin:i<n)(hj:k<j)(hjn:j<n):at' (sy k last M) i j=(at' M k k*at' M i j-at' M i k*at' M k j)/last:=by
 unfold at' sy;rw[xI k last M _ aa,ak aa,IB (by rw[h.rw aa];exact hjn),ak hj]
theorem Ud{n k:Nat}{last:Int}{M:Mat}(hl:M.length=n)(h:Rc n M)(hk:k<n):Rc n (sy k last M):=La h _ aa
theorem P7(k:Nat)(last:Int)(M:Mat):(sy k last M).length=M.length:=Az _ _ _ _
theorem Sc{n:Nat}:∀(r k:Nat) (M:Mat) (s:Int) (f:Nat->Nat->Int),k+r=n->M.length=n->Rc n M->Ba.P f k≠0->(∀i j,k<=i->i<n->k<=j->j<n->at' M i j=Ba.X f k (f i) j)->bGo r k M (Ba.P f k) s=s*D n f
 |0,k,M,s,f,hk,_,_,_,_=>by
  obtain rfl:k=n:=by omega
  show s*Ba.P f k=s*D k f;rw[Ba.P_all]
 |r+1,k,M,s,f,hk,hl,hR,hP,hX=>by
  have hkn:k<n:=by omega
  have hs:=Ci k M (M.length-k) k;have hpe:nM k M (M.length-k) k=piv k M k:=rfl;rw[hpe,show k+(M.length-k)=M.length by omega]at hs;show(if piv k M k=M.length then 0 else bGo r (k+1) (sy k (Ba.P f k) (if piv k M k=k then M else swp M k (piv k M k))) (at' M (piv k M k) k) (if piv k M k=k then s else-s))=_;rcases hs with⟨h1,h2⟩|⟨h1,h2⟩
  ·rw[ak h1,Ba.AO f hkn hP fun i h3 h4=>by rw[<-hX i k h3 h4 (af k) hkn];exact h2 i h3 aa,bQ]
  ·rw[ah aa];have hge:=UY k M k;generalize piv k M k=p at*;have key:∀(M2:Mat) (g:Nat->Nat->Int) (s2:Int),M2.length=n->Rc n M2->Ba.P g k=Ba.P f k->(∀i j,k<=i->i<n->k<=j->j<n->at' M2 i j=Ba.X g k (g i) j)->at' M2 k k=at' M p k->bGo r (k+1) (sy k (Ba.P f k) M2) (at' M p k) s2=s2*D n g:=fun M2 g s2 hl2 hR2 hP2 hX2 hpv=>by
    have hpp:at' M p k=Ba.P g (k+1):=by rw[<-hpv,hX2 k k (af _) hkn (af _) hkn,Ba.VF]
    rw[hpp];refine Sc r (k+1) (sy k (Ba.P f k) M2) s2 g aa (by rw[P7];exact hl2) (Ud hl2 hR2 hkn) (by rw[<-hpp];exact h2) fun i j h3 h4 h5 h6=>?_;rw[Ue hl2 hR2 hkn h3 h4 h5 h6,hX2 k k (af _) hkn (af _) hkn,hX2 i j aa h4 aa h6,hX2 i k aa h4 (af _) hkn,hX2 k j (af _) hkn aa h6,Ba.step g k (by rw[hP2];exact hP),<-hP2];exact Int.mul_ediv_cancel_left _ (by rw[hP2];exact hP)
   by_cases hpk:p=k
   ·subst hpk;rw[ak rfl,ak rfl];exact key M f s hl hR rfl hX rfl
   ·rw[ah hpk,ah hpk];have hsw:=fun i (hi:i<k)=>Ba.sw_lt f (p:=p) hi hge;have hD:=AK (n:=n) (i:=k) (j:=p) hkn aa (fun h=>hpk h.symm) f;have hDs:D n (Ba.sw f k p)= -(D n f):=hD;rw[key (swp M k p) (Ba.sw f k p) (-s) (by rw[dK];exact hl) (lC hR aa aa) (Ba.VN hsw) (fun i j h3 h4 h5 h6=>by
     rw[di aa aa,Ba.VG hsw];unfold Ba.sw upd;by_cases e1:i=p
     ·rw[ak e1];simp only[ak e1];exact hX k j (af _) hkn h5 h6
     ·rw[ah e1];simp only[ah e1];by_cases e2:i=k
      ·rw[ak e2];simp only[ak e2];exact hX p j hge aa h5 h6
      ·rw[ah e2];simp only[ah e2];exact hX i j h3 h4 h5 h6) (by rw[di aa aa,ah aa,ak rfl]),hDs,Int.neg_mul_neg]
theorem Vu{n:Nat}{M:Mat}(hl:M.length=n)(hR:Rc n M):BU M=D n (at' M):=by
 unfold BU;rw[hl];have h:=Sc (n:=n) n 0 M 1 (at' M) aa hl hR (by show(1:Int)≠0;decide) fun i j _ _ _ _=>by
  show _=sm 1 (fun k=>sg k*Ba.xr (at' M) 0 (at' M i) 0 (Ba.xc 0 j k)*1);show _=0+sg 0*Ba.xr (at' M) 0 (at' M i) 0 (Ba.xc 0 j 0)*1;rw[Ba.pU,Ba.pV,show sg 0=1 from rfl,cW,pD,Int.zero_add]
 rw[cW]at h;exact h
end Mx
end
section
namespace Mx
def fct:Nat->Nat
 |0=>1
 |n+1=>(n+1)*fct n
theorem Bk:∀(n:Nat) (f:Nat->Int) (X:Nat),(∀k,k<n->(f k).natAbs<=X)->(sm n f).natAbs<=n*X
 |0,_,_,_=>by simp[sm]
 |n+1,f,X,h=>by
  have h1:=Bk n f X fun k hk=>h k aa;have h2:=h n aa;show(sm n f+f n).natAbs<=_;rw[Nat.succ_mul];omega
theorem vJ(k:Nat):(sg k).natAbs=1:=by unfold sg;split<;>rfl
theorem qP{B:Nat}:∀(n:Nat) (f:Nat->Nat->Int),(∀i j,(f i j).natAbs<=B)->(D n f).natAbs<=fct n*B^n
 |0,_,_=>by simp[D,fct]
 |n+1,f,h=>by
  show(sm (n+1) fun k=>sg k*f 0 k*D n (fun i j=>f (i+1) (skip k j))).natAbs<=_;refine aH (Bk _ _ (B*(fct n*B^n)) fun k _=>?_) ?_
  ·rw[en,en,vJ,cR];exact cv (h 0 k) (qP n _ fun i j=>h _ _)
  ·show _<=(n+1)*fct n*B^(n+1);rw[ei,bG (B^n) B,<-cF,cF,cF,oD B];exact af _
theorem AO{r L:Nat}(A U:Nat->Nat->Int)(S:Nat->Nat)(h0:∀τ:Nat->Nat,(∀i,i<r->τ i<L)->D r (fun i j=>A (τ i) (S j))=0):∀t,t<=r->∀τ:Nat->Nat,(∀i,i<r->τ i<L)->D r (fun i j=>if i<t then sm L (fun k=>U i k*A k (S j))else A (τ i) (S j))=0
 |0,_,τ,h1=>by
  rw[<-h0 τ h1];exact ck r _ _ fun i j _ _=>ah (oM i)
 |t+1,ht,τ,h1=>by
  have e:=Lk (n:=r) (i:=t) aa (fun i j=>if i<t then sm L (fun k=>U i k*A k (S j))else A (τ i) (S j)) (U t) (fun k j=>A k (S j)) L;rw[ck r (fun i j=>if i<t+1 then sm L (fun k=>U i k*A k (S j))else A (τ i) (S j)) (upd (fun i j=>if i<t then sm L (fun k=>U i k*A k (S j))else A (τ i) (S j)) t fun j=>sm L fun k=>U t k*A k (S j)) fun i j _ _=>by
   unfold upd;by_cases e1:i=t
   ·rw[ak e1,ak aa,e1]
   ·rw[ah e1];show(if i<t+1 then sm L fun k=>U i k*A k (S j)else A (τ i) (S j))=if i<t then sm L (fun k=>U i k*A k (S j))else A (τ i) (S j)
    by_cases e2:i<t
    ·rw[ak e2,ak (show i<t+1 by omega)]
    ·rw[ah e2,ah (show¬i<t+1 by omega)],e]
  refine jO L _ fun k hk=>?_;rw[ck r (upd (fun i j=>if i<t then sm L (fun k=>U i k*A k (S j))else A (τ i) (S j)) t fun j=>A k (S j)) (fun i j=>if i<t then sm L (fun k=>U i k*A k (S j))else A (if i=t then k else τ i) (S j)) fun i j _ _=>by
   unfold upd;by_cases e1:i=t
   ·rw[ak e1,ah aa,ak e1]
   ·rw[ah e1,ah e1],AO A U S h0 t aa (fun i=>if i=t then k else τ i) (fun i hi=>by
    show(if i=t then k else τ i)<L;split
    ·exact hk
    ·exact h1 i hi),bQ]
theorem UF{r L B:Nat}(A H U V:Nat->Nat->Int)(c:Nat->Nat)(hU:∀i,i<r->∀j,H i j=sm L fun k=>U i k*A k j)(hV:∀i,i<L->∀j,A i j=sm r fun k=>V i k*H k j)(hp:D r (fun i j=>H i (c j))≠0)(hB:∀i j,(A i j).natAbs<=B)(S:Nat->Nat):(D r (fun i j=>H i (S j))).natAbs<=fct r*B^r:=by
 have hτ:∃τ:Nat->Nat,(∀i,i<r->τ i<L)/\D r (fun i j=>A (τ i) (c j))≠0:=sL fun hno=>by
  have h0:∀τ:Nat->Nat,(∀i,i<r->τ i<L)->D r (fun i j=>A (τ i) (c j))=0:=fun τ h=>sL fun h2=>hno ⟨τ,h,h2⟩;by_cases hL:0<L
  ·have:=AO A U c h0 r (af _) (fun _=>0) fun _ _=>hL;refine hp ?_;rw[<-this];exact ck r _ _ fun i j hi _=>by rw[ak hi,hU i hi]
  ·obtain rfl:L=0:=by omega
   by_cases hr:r=0
   ·subst hr;exact hp (h0 (fun _=>0) fun i hi=>absurd hi (oM i))
   ·refine hp (GJ (i:=0) aa _ fun l _=>?_);show H 0 (c l)=0;rw[hU 0 aa];rfl
 obtain⟨τ,h1,h2⟩:=hτ;obtain⟨z,hz⟩:=GK (r:=r) H (fun i k=>V (τ i) k) r (af _) (fun _=>0) (fun i hi=>by omega);have e:∀S:Nat->Nat,D r (fun i j=>A (τ i) (S j))=z*D r (fun i j=>H i (S j)):=fun S=>by
  rw[<-hz S];exact ck r _ _ fun i j hi _=>by rw[ak hi,hV _ (h1 i hi)]
 have hz0:z≠0:=fun hz0=>h2 (by rw[e c,hz0,sJ]);have h3:=qP (B:=B) r (fun i j=>A (τ i) (S j)) fun i j=>hB _ _;rw[e S,en]at h3;exact aH (Em _ aa) h3
theorem Ds:∀(n:Nat) (f:Nat->Nat->Int),(∀i j,j<i->i<n->f i j=0)->(∀i,i<n->1<=f i i)->1<=D n f/\∀i,i<n->f i i<=D n f
 |0,_,_,_=>⟨by simp[D],fun i hi=>absurd hi (oM i)⟩
 |n+1,f,h0,h1=>by
  have e:D (n+1) f=f 0 0*D n (fun i j=>f (i+1) (j+1)):=by
   rw[px];show sm (n+1) (fun k=>sg k*f k 0*D n (fun i j=>f (skip k j) (i+1)))=_;rw[rq (j:=0) aa fun k hk hne=>by rw[h0 k 0 aa hk];simp,px n (fun i j=>f (i+1) (j+1))];rw[show sg 0=1 from rfl,cW];congr 1
  obtain⟨i1,i2⟩:=Ds n (fun i j=>f (i+1) (j+1)) (fun i j hj hi=>h0 _ _ aa aa) fun i hi=>h1 _ aa;have ha:=h1 0 aa;rw[e];generalize D n (fun i j=>f (i+1) (j+1))=d at*;have hda:d<=f 0 0*d:=by
   have:=mU ha (show 0<=d by omega);omega
  have haa:f 0 0<=f 0 0*d:=by
   have:=Int.mul_le_mul_of_nonneg_left i1 (show 0<=f 0 0 by omega);omega
  refine⟨by omega,fun i hi=>?_⟩
  cases i with
  |zero=>exact haa
  |succ i=>exact Int.le_trans (i2 i aa) hda
theorem VS{r K P:Nat}(H:Nat->Nat->Int)(c:Nat->Nat)(hK:∀S:Nat->Nat,(D r (fun i j=>H i (S j))).natAbs<=K)(hp:D r (fun i j=>H i (c j))≠0){i:Nat}(hi:i<r)(hP:∀l,l<r->(H i (c l)).natAbs<=P)(j:Nat):(H i j).natAbs<=r*(P*K):=by
 let col:Nat->Nat:=fun b=>if b=0 then j else c (b-1)
 let g:Nat->Nat->Int:=fun a b=>H (if a=0 then i else a-1) (col b)
 have h0:D (r+1) g=0:=lI (i:=0) (j:=i+1) aa aa aa g fun l=>by
  show H (if 0=0 then i else _) _=H (if i+1=0 then i else i+1-1) _;rw[ak rfl,ah aa,pE]
 have h1:D (r+1) g=sm (r+1) fun k=>sg k*g 0 k*D r (fun a b=>g (a+1) (skip k b)):=rfl;have hg:∀k,D r (fun a b=>g (a+1) (skip k b))=D r (fun a b=>H a (col (skip k b))):=fun k=>ck r _ _ fun a b _ _=>by
  show H (if a+1=0 then i else a+1-1) _=_;rw[ah aa,pE]
 rw[h0,lW]at h1;have e1:sg 0*g 0 0*D r (fun a b=>g (a+1) (skip 0 b))=H i j*D r (fun a b=>H a (c b)):=by
  rw[hg 0,show sg 0=1 from rfl,cW];show H (if 0=0 then i else _) (col 0)*_=_;rw[ak rfl];congr 1
 rw[e1]at h1;have h2:=Bk r (fun l=>sg (l+1)*g 0 (l+1)*D r (fun a b=>g (a+1) (skip (l+1) b))) (P*K) fun l hl=>by
  rw[en,en,vJ,cR,hg (l+1)];refine cv ?_ (hK _);show(H (if 0=0 then i else _) (if l+1=0 then j else c (l+1-1))).natAbs<=P;rw[ak rfl,ah aa,pE];exact hP l hl
 have h3:(H i j*D r (fun a b=>H a (c b))).natAbs<=r*(P*K):=by omega
 rw[en]at h3;exact aH (jI _ aa) h3
theorem oW:∀(M:Mat) (f:Nat->Int) (j:Nat),lcf f M j=sm M.length fun k=>f k*at' M k j
 |[],_,_=>rfl
 |a::A,f,j=>by
  rw[gg,oW A,im,lW];simp only[eF,jo]
theorem Ml{n B:Nat}{M:Mat}(hR:Rc n M)(hB:∀i j,(at' M i j).natAbs<=B)(i j:Nat):∃r,r<=n/\(at' (red n 0 (0,M)).2 i j).natAbs<=r*((fct r*B^r)*(fct r*B^r)):=by
 have hre:RE M (red n 0 (0,M)).2:=fG n 0 (0,M) hR;obtain⟨pv,he⟩:=jk n 0 (0,M) id hR (gK M);rw[bn]at he;obtain⟨h1,h2⟩:=hre.sp hR;generalize(red n 0 (0,M)).2=H at*;generalize(red n 0 (0,M)).1=r at*;have hlen:=hre.len;have hRH:=hre.rc hR;have hrn:r<=n:=by
  have:∀k,k<=r->k<=n/\∀i,i<k->i<=pv i:=fun k=>by
   induction k with
   |zero=>exact fun _=>⟨aQ _,fun i hi=>absurd hi (oM i)⟩
   |succ k ih=>
    intro hk;obtain⟨a,b⟩:=ih aa;have hk2:k<=pv k:=by
     cases k with
     |zero=>omega
     |succ k=>have:=b k aa;have:=he.mono k (k+1) aa aa;omega
    have:=he.lt k aa;refine⟨by omega,fun i hi=>?_⟩;by_cases e:i=k
    ·rw[e];exact hk2
    ·exact b i aa
  exact(this r (af _)).1
 refine⟨r,hrn,?_⟩;by_cases hi:i<r
 ·have hz : ∀ k, r <= k -> ∀ j, at' H k j = 0 := fun k hk j => by
   by_cases hj:j<n
   ·exact he.zb k hk j hj
   ·exact uU hRH aa
  have hU:∀i,∃f:Nat->Int,∀j,at' H i j=sm M.length fun k=>f k*at' M k j:=fun i=>by
   obtain⟨f,hf⟩:=h1 (at' H i) (SP.row H i);exact⟨f,fun j=>by rw[hf j,oW]⟩
  have hV:∀i,∃f:Nat->Int,∀j,at' M i j=sm r fun k=>f k*at' H k j:=fun i=>by
   obtain⟨f,hf⟩:=h2 (at' M i) (SP.row M i);refine⟨f,fun j=>?_⟩;rw[hf j,oW];have:∀d,sm (r+d) (fun k=>f k*at' H k j)=sm r fun k=>f k*at' H k j:=fun d=>by
    induction d with
    |zero=>rfl
    |succ d ih=>
     show sm (r+d) _+f (r+d)*at' H (r+d) j=_;rw[hz (r+d) aa,bQ,oO,ih]
   have:=this (H.length-r);rwa[show r+(H.length-r)=H.length by have:=he.le;omega]at this
  have hT:=Ds r (fun i j=>at' H i (pv j)) (fun i j hj hi=>he.zl i hi _ (he.mono j i hj hi)) fun i hi=>by have:=he.pos i hi;omega
  have hp:D r (fun i j=>at' H i (pv j))≠0:=fun h=>by rw[h]at hT;omega
  have hK:=fun S=>UF (B:=B) (at' M) (at' H) (fun i=>Classical.choose (hU i)) (fun i=>Classical.choose (hV i)) pv (fun i _ j=>vi (hU i) j) (fun i _ j=>vi (hV i) j) hp hB S;refine VS (at' H) pv hK hp hi (fun l hl=>?_) j;have hKp:=hK pv;have hpl:=hT.2 l hl;have hll:at' H l (pv l)<=(fct r*B^r:Nat):=by omega
  by_cases hil:i<l
  ·have:=he.ab i l hil hl;omega
  ·by_cases hli:i=l
   ·subst hli;have:=he.pos i hi;omega
   ·rw[he.zl i hi _ (he.mono l i aa hi)];simp
 ·have : at' H i j = 0 := by
   by_cases hj:j<n
   ·exact he.zb i aa j hj
   ·exact uU hRH aa
  rw[this];simp
end Mx
end
section
namespace Mx
def mm(n:Nat)(A B:Nat->Nat->Int):Nat->Nat->Int:=fun i j=>sm n fun k=>A i k*B k j
theorem gf(n:Nat)(A B C:Nat->Nat->Int)(i j:Nat):mm n (mm n A B) C i j=mm n A (mm n B C) i j:=by
 show sm n (fun k=>sm n (fun l=>A i l*B l k)*C k j)=sm n fun l=>A i l*sm n fun k=>B l k*C k j
 rw [bu n (fun k => sm n (fun l => A i l * B l k) * C k j) (fun k => sm n fun l => A i l * B l k * C k j) fun k _ => by
     rw[de,<-jM];exact bu _ _ _ fun l _=>de _ _,
  bu n (fun l=>A i l*sm n fun k=>B l k*C k j) (fun l=>sm n fun k=>A i l*B l k*C k j) fun l _=>by
   rw[<-jM];exact bu _ _ _ fun k _=>(cA _ _ _).symm]
 exact xo n (fun k l=>A i l*B l k*C k j) n
theorem fZ{n:Nat}{A A' B B':Nat->Nat->Int}{i j:Nat}(h1:∀k,k<n->A i k=A' i k)(h2:∀k,k<n->B k j=B' k j):mm n A B i j=mm n A' B' i j:=
 bu _ _ _ fun k hk=>by rw[h1 k hk,h2 k hk]
def idm:Nat->Nat->Int:=fun i j=>if i=j then 1 else 0
theorem rG{n:Nat}(x:Int)(A B:Nat->Nat->Int){i j:Nat}(hj:j<n)(h:∀k,k<n->B k j=x*idm k j):mm n A B i j=x*A i j:=by
 show sm n (fun k=>A i k*B k j)=_;rw[rq (j:=j) hj fun k hk hkj=>by rw[h k hk];unfold idm;rw[ah hkj,bQ,bQ],h j hj];unfold idm;rw[ak rfl,pD,de]
theorem Cl{n:Nat}(x:Int)(A B:Nat->Nat->Int){i j:Nat}(hi:i<n)(h:∀k,k<n->A i k=x*idm i k):mm n A B i j=x*B i j:=by
 show sm n (fun k=>A i k*B k j)=_;rw[rq (j:=i) hi fun k hk hkj=>by rw[h k hk];unfold idm;rw[ah (fun e=>hkj e.symm),bQ,sJ],h i hi];unfold idm;rw[ak rfl,pD]
theorem UO(a b:Nat):sg (a+b)=sg a*sg b:=by
 unfold sg;by_cases ha:a%2=0
 ·by_cases hb:b%2=0
  ·rw[ak ha,ak hb,ak aa];rfl
  ·rw[ak ha,ah hb,ah aa];rfl
 ·by_cases hb:b%2=0
  ·rw[ah ha,ak hb,ah aa];rfl
  ·rw[ah ha,ah hb,ak aa];rfl
def cof(n:Nat)(f:Nat->Nat->Int)(k j:Nat):Int:=sg (k+j)*D n fun a b=>f (skip k a) (skip j b)
theorem P0(k a:Nat):cyc k (a+1)=skip k a:=by
 unfold cyc skip;rw[ah aa];by_cases h:a<k
 ·rw[ak h,ak aa];omega
 ·rw[ah h,ah aa]
theorem lap{n k:Nat}(f:Nat->Nat->Int)(hk:k<n+1):sm (n+1) (fun j=>f k j*cof n f k j)=D (n+1) f:=by
 have h:=Ln f k hk;have e:D (n+1) (fun a b=>f (cyc k a) b)=sm (n+1) fun j=>sg j*f k j*D n fun a b=>f (skip k a) (skip j b):=by
  show sm (n+1) (fun j=>sg j*f (cyc k 0) j*D n fun a b=>f (cyc k (a+1)) (skip j b))=_;simp only[P0];rfl
 rw[e]at h;have h2:sg k*(sm (n+1) fun j=>sg j*f k j*D n fun a b=>f (skip k a) (skip j b))=D (n+1) f:=by
  rw[h,<-cA,Rv,cW]
 rw[<-h2,<-jM];refine bu _ _ _ fun j _=>?_;unfold cof;rw[UO];simp only[cA,iJ,de]
theorem T4{n k:Nat}(f:Nat->Nat->Int)(v:Nat->Int)(j:Nat):cof n (upd f k v) k j=cof n f k j:=by
 unfold cof;congr 1;refine ck n _ _ fun a b _ _=>?_;unfold upd;rw[ah];unfold skip;split<;>omega
theorem lap2{n i k:Nat}(f:Nat->Nat->Int)(hi:i<n+1)(hk:k<n+1):sm (n+1) (fun j=>f i j*cof n f k j)=D (n+1) f*idm i k:=by
 unfold idm;by_cases h:i=k
 ·subst h;rw[ak rfl,pD];exact lap f hk
 ·rw[ah h,bQ];have h1:=lap (upd f k (f i)) hk;rw[lI hi hk h _ fun l=>by unfold upd;rw[ah h,ak rfl]]at h1;rw[<-h1];refine bu _ _ _ fun j _=>?_;rw[T4];unfold upd;rw[ak rfl]
theorem Vs(n:Nat)(f:Nat->Nat->Int)(k j:Nat):cof n (fun a b=>f b a) j k=cof n f k j:=by
 unfold cof;rw[mO,px n]
def ad(n:Nat)(f:Nat->Nat->Int):Nat->Nat->Int:=fun i k=>cof n f k i
theorem Dn{n i k:Nat}(f:Nat->Nat->Int)(hi:i<n+1)(hk:k<n+1):mm (n+1) f (ad n f) i k=D (n+1) f*idm i k:=lap2 f hi hk
theorem Ld{n i k:Nat}(f:Nat->Nat->Int)(hi:i<n+1)(hk:k<n+1):mm (n+1) (ad n f) f i k=D (n+1) f*idm i k:=by
 have h:=lap2 (fun a b=>f b a) hk hi;rw[<-px (n+1) f]at h;have e:idm k i=idm i k:=by
  unfold idm;by_cases h:i=k
  ·rw[ak h,ak h.symm]
  ·rw[ah h,ah fun e=>h e.symm]
 rw[e]at h;rw[<-h];refine bu _ _ _ fun j _=>?_;show cof n f j i*f j k=f j k*cof n (fun a b=>f b a) i j;rw[Vs n f,de]
theorem Lm{n:Nat}(A B:Nat->Nat->Int):∃c,D n (mm n A B)=c*D n B:=by
 by_cases h0:0<n
 ·obtain⟨c,hc⟩:=GK (r:=n) B A n (af _) (fun _=>0) fun _ _=>h0;refine⟨c,?_⟩;have:=hc fun j=>j;rw[<-this];exact ck n _ _ fun i j hi _=>by rw[ak hi];rfl
 ·obtain rfl:n=0:=by omega
  exact⟨1,rfl⟩
theorem AP{n:Nat}{x:Int}(hx:1<=x)(f:Nat->Nat->Int)(h:∀i j,i<n->j<n->f i j=x*idm i j):D n f≠0:=by
 have h1:=Ds n (fun i j=>x*idm i j) (fun i j hj _=>by show x*idm i j=0;unfold idm;rw[ah aa,bQ]) fun i _=>by
  show 1<=x*idm i i;unfold idm;rw[ak rfl,pD];exact hx
 rw[ck n f _ h];omega
theorem Ng{n:Nat}{U V:Nat->Nat->Int}(h:∀i j,i<n+1->j<n+1->mm (n+1) V U i j=idm i j){i j:Nat}(hi:i<n+1)(hj:j<n+1):mm (n+1) U V i j=idm i j:=by
 obtain⟨c,hc⟩:=Lm (n:=n+1) V U;have hU:D (n+1) U≠0:=fun e=>by
  rw[e,bQ]at hc;exact AP (x:=1) aa _ (fun i j hi hj=>by rw[h i j hi hj,cW]) hc
 have h1:mm (n+1) (mm (n+1) (mm (n+1) U V) U) (ad n U) i j=D (n+1) U*mm (n+1) U V i j:=by
  rw[gf];exact rG _ _ _ hj fun k hk=>Dn U hk hj
 have h2:mm (n+1) (mm (n+1) (mm (n+1) U V) U) (ad n U) i j=D (n+1) U*idm i j:=by
  rw[<-Dn U hi hj];refine fZ (fun k hk=>?_) fun _ _=>rfl;rw[gf,rG 1 _ _ hk fun l hl=>by rw[h l k hl hk,cW],cW]
 exact Ed hU (h1.symm.trans h2)
theorem mr(n:Nat)(x:Int)(A B:Nat->Nat->Int)(i j:Nat):mm n (fun a b=>x*A a b) B i j=x*mm n A B i j:=by
 show sm n (fun k=>x*A i k*B k j)=x*sm n fun k=>A i k*B k j;rw[<-jM];exact bu _ _ _ fun k _=>cA _ _ _
theorem oU(n:Nat)(x:Int)(A B:Nat->Nat->Int)(i j:Nat):mm n A (fun a b=>x*B a b) i j=x*mm n A B i j:=by
 show sm n (fun k=>A i k*(x*B k j))=x*sm n fun k=>A i k*B k j;rw[<-jM];exact bu _ _ _ fun k _=>iJ _ _ _
theorem Dl(n:Nat)(A B:Nat->Nat->Int)(i j:Nat):mm n (fun a b=>B b a) (fun a b=>A b a) i j=mm n A B j i:=
 bu _ _ _ fun _ _=>de _ _
theorem Nu{n:Nat}{F R m m1 S U V R1 S1:Nat->Nat->Int}{d g d1 ε:Int}(hd:1<=d)(hg:1<=g)(hd1:1<=d1)(hε:ε*ε=1)
  (hm:∀i j,i<n+1->j<n+1->m i j=sm (n+1) fun k=>F i k*R j k) (hD:D (n+1) m=ε*(g*d1)) (hS:∀i j,i<n+1->j<n+1->S i j=d*ad n m i j)
  (hH:∀i j,i<n+1->j<n+1->g*R1 i j=sm (n+1) fun k=>U i k*S k j) (hV:∀i j,i<n+1->j<n+1->S i j=sm (n+1) fun k=>V i k*(g*R1 k j))
  (hm1:∀i j,i<n+1->j<n+1->m1 i j=sm (n+1) fun k=>F k i*R1 j k) (hS1:∀i j,i<n+1->j<n+1->S1 i j=d1*ad n m1 i j):
  D (n+1) m1≠0/\(∀i j,i<n+1->j<n+1->D (n+1) m1*R i j=sm (n+1) fun k=>(ε*U k i)*(d*S1 k j))/\∀i j,i<n+1->j<n+1->d*S1 i j=sm (n+1) fun k=>(ε*V k i)*(D (n+1) m1*R k j):=by
 have hε0:ε≠0:=fun e=>by rw[e]at hε;simp at hε
 have hx0:d*(ε*(g*d1))≠0:=by
  refine vg aa (vg hε0 (vg aa aa))
 have a1:∀i j,i<n+1->j<n+1->mm (n+1) S m i j=d*(ε*(g*d1))*idm i j:=fun i j hi hj=>by
  rw[fZ (A':=fun a b=>d*ad n m a b) (B':=m) (fun k hk=>hS i k hi hk) fun _ _=>rfl,mr,Ld m hi hj,hD,<-cA]
 have a2:∀i j,i<n+1->j<n+1->mm (n+1) (fun a b=>g*R1 a b) m i j=d*(ε*(g*d1))*U i j:=fun i j hi hj=>by
  rw[fZ (A':=mm (n+1) U S) (B':=m) (fun k hk=>hH i k hi hk) fun _ _=>rfl,gf];exact rG _ _ _ hj fun k hk=>a1 k j hk hj
 have a3:∀i j,i<n+1->j<n+1->mm (n+1) V U i j=idm i j:=fun i j hi hj=>by
  have h1:mm (n+1) (mm (n+1) V fun a b=>g*R1 a b) m i j=d*(ε*(g*d1))*idm i j:=by
   rw[<-a1 i j hi hj];exact fZ (fun k hk=>(hV i k hi hk).symm) fun _ _=>rfl
  rw[gf,fZ (A':=V) (B':=fun a b=>d*(ε*(g*d1))*U a b) (fun _ _=>rfl) (fun k hk=>a2 k j hk hj),oU]at h1;exact Ed hx0 h1
 have a4:∀i j,i<n+1->j<n+1->mm (n+1) U V i j=idm i j:=fun i j hi hj=>Ng a3 hi hj;have a5:∀i j,i<n+1->j<n+1->mm (n+1) R1 m i j=d*(ε*d1)*U i j:=fun i j hi hj=>by
  have h1:=a2 i j hi hj;rw[mr,show d*(ε*(g*d1))*U i j=g*(d*(ε*d1)*U i j) by
   simp only[cA,iJ,de]]at h1
  exact Ed aa h1
 have a6:∀i j,i<n+1->j<n+1->mm (n+1) R m1 i j=d*(ε*d1)*U j i:=fun i j hi hj=>by
  rw[<-a5 j i hj hi];have e1:mm (n+1) R1 m j i=mm (n+1) R1 (mm (n+1) F fun a b=>R b a) j i:=fZ (fun _ _=>rfl) fun k hk=>hm k i hk hi;have e2:mm (n+1) R m1 i j=mm (n+1) R (mm (n+1) (fun a b=>F b a) fun a b=>R1 b a) i j:=fZ (fun _ _=>rfl) fun k hk=>hm1 k j hk hj;rw[e1,e2,<-gf,<-gf,<-Dl (n+1) (mm (n+1) R1 F) (fun a b=>R b a) i j];show mm (n+1) (mm (n+1) R fun a b=>F b a) (fun a b=>R1 b a) i j=mm (n+1) R (fun a b=>mm (n+1) R1 F b a) i j;rw[gf];exact fZ (fun _ _=>rfl) fun k hk=>Dl (n+1) R1 F k j
 have b1:∀i j,i<n+1->j<n+1->D (n+1) m1*R i j=sm (n+1) fun k=>(ε*U k i)*(d*S1 k j):=fun i j hi hj=>by
  have h1:mm (n+1) (mm (n+1) R m1) (ad n m1) i j=D (n+1) m1*R i j:=by
   rw[gf];exact rG _ _ _ hj fun k hk=>Dn m1 hk hj
  rw[<-h1];refine bu _ _ _ fun k hk=>?_;rw[a6 i k hi hk,hS1 k j hk hj];simp only[cA,iJ,de]
 have b2:∀i j,i<n+1->j<n+1->d*S1 i j=sm (n+1) fun k=>(ε*V k i)*(D (n+1) m1*R k j):=fun i j hi hj=>by
  have h1:mm (n+1) (fun a b=>ε*V b a) (mm (n+1) (fun a b=>ε*U b a) fun a b=>d*S1 a b) i j=d*S1 i j:=by
   rw[<-gf];refine(Cl 1 _ _ hi fun k hk=>?_).trans (cW _);rw[mr,oU,Dl (n+1) U V i k,a4 k i hk hi,<-cA,hε];unfold idm;by_cases h:i=k
   ·rw[ak h,ak h.symm]
   ·rw[ah h,ah fun e=>h e.symm]
  rw[<-h1];exact bu _ _ _ fun k hk=>by rw[b1 k j hk hj];rfl
 refine⟨fun e=>?_,b1,b2⟩;obtain⟨c,hc⟩:=Lm (n:=n+1) (mm (n+1) (fun a b=>ε*V b a) R) m1;rw[e,bQ]at hc;have hdd:1<=d*d1:=by
  have:=vt hd hd1 aa aa;omega
 refine AP (x:=d*d1) hdd _ (fun i j hi hj=>?_) hc;rw[gf,fZ (A':=fun a b=>ε*V b a) (B':=fun a b=>d*(ε*d1)*U b a) (fun _ _=>rfl) (fun k hk=>a6 k j hk hj),mr,oU,Dl (n+1) U V i j,a4 j i hj hi];have e2:idm j i=idm i j:=by
  unfold idm;by_cases h:i=j
  ·rw[ak h,ak h.symm]
  ·rw[ah h,ah fun e=>h e.symm]
 rw[e2,show ε*(d*(ε*d1)*idm i j)=(ε*ε)*(d*d1*idm i j) by
  simp only[cA,iJ,de],hε,cW]
end Mx
end
section
namespace Mx
def adM(M:Mat):Mat:=(List.range M.length).map fun i=>(List.range M.length).map fun k=>ad (M.length-1) (at' M) i k
theorem mE(M:Mat):(adM M).length=M.length:=by simp[adM]
theorem AB(M:Mat):Rc M.length (adM M):=fun r hr=>by
 obtain⟨k,_,rfl⟩:=dw.1 hr;simp
theorem IK(M:Mat){i:Nat}(hi:i<M.length):(adM M)[i]?=some ((List.range M.length).map fun k=>ad (M.length-1) (at' M) i k):=by
 unfold adM;rw[bW,ji hi];rfl
theorem GD(M:Mat){i k:Nat}(hi:i<M.length)(hk:k<M.length):at' (adM M) i k=ad (M.length-1) (at' M) i k:=by
 unfold at';rw[gF (IK M hi),aG,bW,ji hk];rfl
theorem Iv(row:List Int)(B:Mat)(k:Nat):∀j,DW.jZ row B k j=sm j fun l=>row.getD l 0*at' B l k
 |0=>rfl
 |j+1=>by
  show DW.jZ row B k j+row.getD j 0*at' B j k=_;rw[Iv row B k j];rfl
theorem Ez{A B:Mat}{c i j:Nat}(hi:i<A.length)(hj:j<c):at' (DW.tim A B c) i j=sm B.length fun l=>at' A i l*at' B l j:=by
 have h1:(DW.tim A B c)[i]?=some (DW.lV B c (rw A i)):=by
  unfold DW.tim;rw[bW];unfold rw;rw[aG,aV hi];rfl
 have h2:(DW.lV B c (rw A i))[j]?=some (DW.jZ (rw A i) B j B.length):=by
  unfold DW.lV;rw[bW,ji hj];rfl
 conv=>lhs;unfold at'
 rw[gF h1,aG,h2];exact Iv _ _ _ _
theorem UK(A B:Mat)(c:Nat):Rc c (DW.tim A B c):=fun r hr=>by
 obtain⟨k,_,rfl⟩:=dw.1 hr;simp[DW.lV]
theorem xh(A B:Mat)(c:Nat):(DW.tim A B c).length=A.length:=by simp[DW.tim]
theorem pW{n:Nat}(M:Mat){i j:Nat}(hi:i<n)(hj:j<M.length):at' (trM n M) i j=at' M j i:=by
 have h1:(trM n M)[i]?=some (M.map fun r=>r.getD i 0):=by
  unfold trM;rw[bW,ji hi];rfl
 conv=>lhs;unfold at'
 rw[gF h1,aG,bW];unfold at' rw;rw[show List.getD M j []=M[j] by rw[aG,aV hj];rfl,aV hj];rfl
theorem LW{n:Nat}{A B:Mat}(hA:A.length=n)(hAr:Rc n A)(hB:B.length=n)(hBr:Rc n B)(f:Nat->Nat->Int)(h:∀i j,i<n->j<n->at' A i j=sm n fun k=>f i k*at' B k j):∀v,SP A v->SP B v:=fun v hv=>
 SP.sub (fun i hi=>⟨f i,fun j=>by
  rw[oW,hB];by_cases hj:j<n
  ·exact h i j aa hj
  ·rw[uU hAr aa,jO _ _ fun k _=>by rw[uU hBr aa,bQ]]⟩) hv
theorem OM{n:Nat}{A B:Mat}(ha:Rc n A)(hb:Rc n B)(hl:A.length=B.length)(h1:∀v,SP A v->SP B v)(h2:∀v,SP B v->SP A v):(red n 0 (0,A)).2=(red n 0 (0,B)).2:=by
 have rA:=fG n 0 (0,A) ha;have rB:=fG n 0 (0,B) hb;obtain⟨p,eA⟩:=jk n 0 (0,A) id ha (gK A);obtain⟨q,eB⟩:=jk n 0 (0,B) id hb (gK B);rw[bn]at eA eB;have fA:=qH (rA.rc ha) eA (red n 0 (0,A)).2.length 0 (bn _).symm;have fB:=qH (rB.rc hb) eB (red n 0 (0,B)).2.length 0 (bn _).symm;rw[cY]at fA fB;have sA:=rA.sp ha;have sB:=rB.sp hb;exact xD _ _ (by rw[rA.len,rB.len];exact hl) (rA.rc ha) (rB.rc hb) fA fB (fun v h=>sB.2 v (h1 v (sA.1 v h))) fun v h=>sA.2 v (h2 v (sB.1 v h))
theorem Tl{n:Nat}{A B:Mat}(ha:Rc n A)(hb:Rc n B)(hl:A.length=B.length)(h1:∀v,SP A v->SP B v)(h2:∀v,SP B v->SP A v):nH n A=nH n B:=by
 rw[<-mA ha,<-mA hb,OM ha hb hl h1 h2]
theorem HF.mul{g:Int}(hg:0<g):∀(A B:Mat),A.length=B.length->(∀i j,at' A i j=g*at' B i j)->HF B->HF A
 |[],_,_,_,_=>trivial
 |a::A,[],hl,_,_=>by simp at hl
 |a::A,b::B,hl,h,hB=>by
  have h0:∀j,a.getD j 0=g*b.getD j 0:=fun j=>h 0 j;have ht:∀i j,at' A i j=g*at' B i j:=fun i j=>h (i+1) j;have hz:∀{x:Int},g*x=0->x=0:=fun e=>by
   rcases vu.1 e with e|e
   ·omega
   ·exact e
  rcases hB with hB|⟨p,h1,h2,h3,h4,h5⟩
  ·exact .inl fun i j=>by rw[h i j,hB i j,bQ]
  ·refine .inr ⟨p,fun i j hj=>by rw[h i j,h1 i j hj,bQ],by rw[h0];exact Int.mul_pos hg h2,fun i=>by rw[ht i p,h3 i,bQ],HF.mul hg A B mM ht h4,fun i q k1 k2=>?_⟩;have h6:=h5 i q (fun j hj=>hz (by rw[<-ht];exact k1 j hj)) (fun e=>k2 (by rw[ht,e,bQ]));rw[h0,ht];exact⟨Int.mul_nonneg aa h6.1,Int.mul_lt_mul_of_pos_left h6.2 hg⟩
theorem FA(g:Int)(f:Nat->Int)(X:Mat)(j:Nat):lcf f (mapM (fun x=>g*x) X) j=g*lcf f X j:=by
 rw[oW,oW,cG,<-jM];exact bu _ _ _ fun k _=>by rw[iG _ (bQ g),iJ]
theorem IY{g:Int}{X Y:Mat}(h:∀v,SP X v->SP Y v):∀v,SP (mapM (fun x=>g*x) X) v->SP (mapM (fun x=>g*x) Y) v:=fun v ⟨f,hf⟩=>by
 obtain⟨k,hk⟩:=h _ ⟨f,fun j=>rfl⟩;exact⟨k,fun j=>by rw[hf j,FA,FA,<-hk j]⟩
theorem PG{g:Int}(hg:g≠0)(X:Mat):DW.fil (mapM (fun x=>g*x) X)=mapM (fun x=>g*x) (DW.fil X):=by
 unfold DW.fil mapM;rw[List.filter_map];congr 1;refine List.filter_congr fun l _=>?_;show(!((l.map fun x=>g*x).all fun z=>decide (z=0)))=_;rw[List.all_map];congr 2;funext x;show decide (g*x=0)=decide (x=0);by_cases h:x=0
 ·rw[h,bQ]
 ·rw[aw h,aw (vg hg h)]
theorem MM{n:Nat}{g:Int}(hg:0<g){X:Mat}(h:Rc n X):nH n (mapM (fun x=>g*x) X)=mapM (fun x=>g*x) (nH n X):=by
 have hgX:Rc n (mapM (fun x=>g*x) X):=nU h;rw[<-mA hgX,<-mA h,<-PG aa];congr 1;have rA:=fG n 0 (0,mapM (fun x=>g*x) X) hgX;have rB:=fG n 0 (0,X) h;obtain⟨p,eA⟩:=jk n 0 (0,mapM (fun x=>g*x) X) id hgX (gK _);obtain⟨q,eB⟩:=jk n 0 (0,X) id h (gK X);rw[bn]at eA eB;have fA:=qH (rA.rc hgX) eA (red n 0 (0,mapM (fun x=>g*x) X)).2.length 0 (bn _).symm;have fB:=qH (rB.rc h) eB (red n 0 (0,X)).2.length 0 (bn _).symm;rw[cY]at fA fB;have sA:=rA.sp hgX;have sB:=rB.sp h;refine xD _ _ (by rw[rA.len,cG,cG];exact rB.len.symm) (rA.rc hgX) (nU (rB.rc h)) fA (HF.mul hg _ _ (cG _ _) (fun i j=>iG _ (bQ g) _ _ _) fB) (fun v hv=>IY sB.2 v (sA.1 v hv)) fun v hv=>sA.2 v (IY sB.1 v hv)
theorem Fu{g:Int}(hg:g≠0){A B:Mat}(h:mapM (fun x=>g*x) A=mapM (fun x=>g*x) B):A=B:=by
 have e:∀M:Mat,mapM (fun x=>x/g) (mapM (fun x=>g*x) M)=M:=fun M=>by
  unfold mapM;rw[sF];have:∀l∈M,(List.map (fun x=>x/g)∘List.map (fun x=>g*x)) l=l:=fun l _=>by
   show List.map (fun x=>x/g) (List.map (fun x=>g*x) l)=l;rw[sF];exact(jh fun x _=>Int.mul_ediv_cancel_left x hg).trans (List.map_id _)
  exact(jh this).trans (List.map_id _)
 rw[<-e A,h,e B]
theorem PV{n:Nat}{S:Mat}(hS:Rc n S)(hl:S.length=n)(hD:D n (at' S)≠0):nH n S=(red n 0 (0,S)).2:=by
 have re:=fG n 0 (0,S) hS;have h1:=RE.det 0 re hS;have e:∀M:Mat,rb 0 M=at' M:=fun M=>by funext i j;exact at_rb M i j
 rw[hl,e,e]at h1;have hX:D n (at' (red n 0 (0,S)).2)≠0:=by
  rcases h1 with h1|h1
  ·rw[h1];exact hD
  ·rw[h1];exact Int.neg_ne_zero.2 hD
 have hlen:=re.len;rw[<-mA hS];refine BJ fun l hl2=>?_;obtain⟨i,hi,rfl⟩:=kZ hl2;by_cases h0:((red n 0 (0,S)).2[i].all fun z=>decide (z=0))=true
 ·exfalso;refine hX (GJ (i:=i) (by rw[<-hl,<-hlen];exact hi) _ fun j _=>?_);rw[du]at h0;unfold at' rw;rw[aG,aG,aV hi];show((red n 0 (0,S)).2[i][j]?).getD 0=0
  cases hj:(red n 0 (0,S)).2[i][j]? with
  |none=>rfl
  |some x=>exact qh (h0 x (bj hj))
 ·simpa using h0
structure AI(n:Nat)(F R:Mat)(d:Int)(M S:Mat)(e:Int):Prop where
 m:M=DW.tim F (trM n R) n
 s:S=mapM (fun x=>x*d) (adM M)
 e:e=((D n (at' M)).natAbs:Int)
theorem rH(d:Int)(M:Mat):mapM (fun x=>x*d) M=mapM (fun x=>d*x) M:=by
 congr 1;funext x;exact de _ _
theorem PI{n:Nat}(hn:0<n){M:Mat}{d:Int}(hd:0<d)(hl:M.length=n)(hD:D n (at' M)≠0):D n (at' (mapM (fun x=>x*d) (adM M)))≠0:=by
 obtain⟨k,rfl⟩:∃k,n=k+1:=⟨n-1,by omega⟩;obtain⟨ε,h1⟩:∃ε:Int,1<=ε*D (k+1) (at' M):=by
  by_cases h:0<D (k+1) (at' M)
  ·exact⟨1,by omega⟩
  ·exact⟨-1,by omega⟩
 obtain⟨c,hc⟩:=Lm (n:=k+1) (fun a b=>ε*at' M a b) (at' (mapM (fun x=>x*d) (adM M)));intro h0;rw[h0,bQ]at hc;refine AP (x:=ε*D (k+1) (at' M)*d) (by have:=vt h1 (show 1<=d by omega) aa aa;omega) _ (fun i j hi hj=>?_) hc;rw[mr,fZ (A':=at' M) (B':=fun a b=>d*ad k (at' M) a b) (fun _ _=>rfl) (fun l hl2=>by
  rw[rH,iG _ (bQ d),GD M aa aa,hl];rfl),oU,Dn _ hi hj]
 simp only[cA,iJ,de]
theorem yJ{n:Nat}(hn:0<n){F R M S:Mat}{d e:Int}(hF:F.length=n)(hd:0<d)(h:AI n F R d M S e)(hD:D n (at' M)≠0):Rc n S/\S.length=n/\0<e/\nH n S=(red n 0 (0,S)).2/\(nH n S).length=n:=by
 have hl:M.length=n:=by rw[h.m,xh,hF]
 have hSl:S.length=n:=by rw[h.s,cG,mE,hl]
 have hSr:Rc n S:=by rw[h.s];exact nU (hl▸AB M)
 have h3:=PV hSr hSl (by rw[h.s];exact PI hn hd hl hD);refine⟨hSr,hSl,by rw[h.e];omega,h3,?_⟩;rw[h3,(fG n 0 (0,S) hSr).len,hSl]
theorem G4{n:Nat}(hn:0<n){F R M S M1 S1:Mat}{d e e1:Int}(hF:F.length=n)(hFr:Rc n F)(hR:R.length=n)(hRr:Rc n R)(hd:0<d)(hN:nH n R=R)(hG:nG n R d=1)
  (h:AI n F R d M S e) (hD:D n (at' M)≠0) (h1:AI n (trM n F) (nR n S e) (e/nG n S e) M1 S1 e1):
  (nR n S e).length=n/\D n (at' M1)≠0/\nR n S1 e1=R/\e1/nG n S1 e1=d:=by
 obtain⟨hSr,hSl,he,hH,hHl⟩:=yJ hn hF hd h hD;have hRl1:(nR n S e).length=n:=by unfold nR;rw[cG,hHl]
 obtain⟨hx1,hx2,hx3,hRr1,hg,hd1⟩:=fo hSr he;have hdv:=nn (nH n S) e;have hb:mapM (fun x=>nG n S e*x) (nR n S e)=nH n S:=vV hdv.2;have hdd:nG n S e*(e/nG n S e)=e:=vm hdv.1;have hsp:=(fG n 0 (0,S) hSr).sp hSr;rw[<-hH]at hsp;clear hx1 hx2 hx3;generalize nR n S e=R1 at*;generalize e/nG n S e=d1 at*;generalize nG n S e=g at*;have hU:∀i,∃f:Nat->Int,∀j,g*at' R1 i j=sm n fun k=>f k*at' S k j:=fun i=>by
  obtain⟨f,hf⟩:=hsp.1 (at' (nH n S) i) (SP.row _ i);refine⟨f,fun j=>?_⟩;have:=hf j;rw[oW,hSl,<-hb,iG _ (bQ g)]at this;exact this
 have hV:∀i,∃f:Nat->Int,∀j,at' S i j=sm n fun k=>f k*(g*at' R1 k j):=fun i=>by
  obtain⟨f,hf⟩:=hsp.2 (at' S i) (SP.row S i);refine⟨f,fun j=>?_⟩;rw[hf j,oW,hHl];exact bu _ _ _ fun k _=>by rw[<-hb,iG _ (bQ g)]
 have hMl:M.length=n:=by rw[h.m,xh,hF]
 have hM1l:M1.length=n:=by rw[h1.m,xh,gL]
 obtain⟨k,rfl⟩:∃k,n=k+1:=⟨n-1,by omega⟩;obtain⟨ε,hε,hε2⟩:∃ε:Int,ε*ε=1/\D (k+1) (at' M)=ε*(g*d1):=by
  rw[hdd,h.e];by_cases h:0<D (k+1) (at' M)
  ·exact⟨1,rfl,by omega⟩
  ·exact⟨-1,rfl,by omega⟩
 obtain⟨c1,c2,c3⟩:=Nu (n:=k) (F:=at' F) (R:=at' R) (m:=at' M) (m1:=at' M1) (S:=at' S) (U:=fun i=>Classical.choose (hU i)) (V:=fun i=>Classical.choose (hV i)) (R1:=at' R1) (S1:=at' S1) (d:=d) (g:=g) (d1:=d1) (ε:=ε) hd hg hd1 hε
  (fun i j hi hj=>by
   rw[h.m,Ez aa hj,gL];exact bu _ _ _ fun l hl=>by rw[pW R hl aa])
  hε2
  (fun i j hi hj=>by rw[h.s,rH,iG _ (bQ d),GD M aa aa,hMl];rfl)
  (fun i j _ _=>vi (hU i) j)
  (fun i j _ _=>vi (hV i) j)
  (fun i j hi hj=>by
   rw[h1.m,Ez (by rw[gL];exact hi) hj,gL];exact bu _ _ _ fun l hl=>by rw[pW F hi aa,pW R1 hl aa])
  (fun i j hi hj=>by rw[h1.s,rH,iG _ (bQ d1),GD M1 aa aa,hM1l];rfl)
 refine⟨hRl1,c1,?_⟩;obtain⟨hS1r,hS1l,he1,_,_⟩:=yJ hn (gL _ _) hd1 h1 c1;obtain⟨η,hη,hη2,hη3⟩:∃η:Int,η*η=1/\e1=η*D (k+1) (at' M1)/\D (k+1) (at' M1)=η*e1:=by
  rw[h1.e];by_cases h:0<D (k+1) (at' M1)
  ·exact⟨1,rfl,by omega,by omega⟩
  ·exact⟨-1,rfl,by omega,by omega⟩
 have hAr:Rc (k+1) (mapM (fun x=>d*x) S1):=nU hS1r;have hBr:Rc (k+1) (mapM (fun x=>e1*x) R):=nU hRr;have hAl:(mapM (fun x=>d*x) S1).length=k+1:=by rw[cG,hS1l]
 have hBl:(mapM (fun x=>e1*x) R).length=k+1:=by rw[cG,hR]
 have hAB:=Tl hAr hBr (hAl.trans hBl.symm)
  (LW hAl hAr hBl hBr (fun i l=>η*(ε*Classical.choose (hV l) i)) fun i j hi hj=>by
   rw[iG _ (bQ d),c3 i j hi hj];refine bu _ _ _ fun l hl=>?_;rw[iG _ (bQ e1),hη3];simp only[cA,iJ,de])
  (LW hBl hBr hAl hAr (fun i l=>η*(ε*Classical.choose (hU l) i)) fun i j hi hj=>by
   rw[iG _ (bQ e1),hη2,cA,c2 i j hi hj,<-jM];refine bu _ _ _ fun l hl=>?_;rw[iG _ (bQ d),<-cA])
 rw[MM hd hS1r,MM he1 hRr,hN]at hAB;have k1:=Al (g:=d) aa (nH (k+1) S1) e1;have k2:=Al (g:=e1) aa R d;rw[hAB,de d e1,k2]at k1;have k3:gM R d=1:=by rw[<-hG];unfold nG;rw[hN]
 rw[k3,pD]at k1;have k4:e1=d*nG (k+1) S1 e1:=k1;have hg1:nG (k+1) S1 e1≠0:=fun e=>by rw[e,bQ]at k4;omega
 have hH1:nH (k+1) S1=mapM (fun x=>nG (k+1) S1 e1*x) R:=by
  refine Fu (g:=d) aa ?_;rw[hAB]
  conv=>lhs;rw[k4]
  unfold mapM;rw[sF];refine jh fun l _=>?_;show _=List.map (fun x=>d*x) (List.map (fun x=>nG (k+1) S1 e1*x) l);rw[sF];refine jh fun x _=>?_;show d*nG (k+1) S1 e1*x=d*(nG (k+1) S1 e1*x);exact cA _ _ _
 refine⟨?_,?_⟩
 ·unfold nR;refine Fu hg1 ?_;rw[<-hH1];exact vV (nn (nH (k+1) S1) e1).2
 ·have h9:=Int.mul_ediv_cancel d hg1;rw[<-k4]at h9;exact h9
end Mx
end
end Go.Proofs.YtcgjmdpcplhanaaGreat
