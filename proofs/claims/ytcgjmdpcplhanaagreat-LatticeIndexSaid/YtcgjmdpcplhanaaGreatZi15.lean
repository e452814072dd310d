/- Lemmas for the law: E18 E22 M12 M5 M13 M15 M16 V27 V28 E40 E48 E50 M17 M18 M19 E54 M20 E67 -/
import Derived.BigQuiet
import Derived.Laws.StructEq
import Derived.Deep.CutRange
import Derived.Deep.LoopGhost
import Derived.Test.YtcgjmdpcplhanaaGreatZi14
namespace Go.Proofs.YtcgjmdpcplhanaaGreat
section
abbrev Dc:=@List.eraseIdx_of_length_le
abbrev pN:=@Nat.not_lt_zero
abbrev yH:=@Classical.choose_spec
abbrev yG:=@Int.mul_ne_zero
abbrev C9:=@Int.eq_of_mul_eq_mul_left
theorem Iy{p q:Prop}(h:q)(f:Wq q->p:=by(intro hW;(refine vS ?_;refine gZ ?_;refine bc ?_);exact hW.out)):p:=f ⟨h⟩
theorem I8{p q:Prop}(h:q)(f:Wq q->p:=by(intro hW;((refine dV (k:=3) (z:=(.agg #[.bool false,.slice none 0 0])) (d:=(.nm 0)) rfl rfl rfl rfl rfl ah aj aj dC aj aj cG ?_));exact hW.out)):p:=f ⟨h⟩
theorem zb10{p:Prop}(h:p:=by(first|(apply jM;(exact rfl);(focus((apply az;(conv=>lhs;whnf);(first|done|exact rfl))));(exact cj);(kernel_rfl);(kernel_rfl);(omega);(focus((first|(apply ED;(focus assumption);(focus assumption))|(apply get_map;assumption)|(apply get_own;assumption)))))|(apply gX;(exact rfl);(focus((apply az;(conv=>lhs;whnf);(first|done|exact rfl))));(exact cj);(focus((repeat(first|exact bw|refine bC _ ?_))));(kernel_rfl);(kernel_rfl);(focus(first|omega|(simp;omega)));(focus(first|(apply fA;assumption)|exact rfl))))):p:=h
theorem P7{p q:Prop}(h:q)(f:Wq q->p:=by(intro hW;(refine aL1 rfl rfl rfl zb10 ?_);exact hW.out)):p:=f ⟨h⟩
theorem Iz{p q:Prop}(h:q)(f:Wq q->p:=by(intro hW;(refine cF ?_;refine P7 ?_;refine Av ?_;refine zs4 ?_;refine Ih ?_;refine Av ?_;refine jx ?_;refine uJ ?_;refine bc ?_);exact hW.out)):p:=f ⟨h⟩
theorem zb25{p:Prop}(h:p:=by(apply Bn;(exact rfl);(focus((apply az;(conv=>lhs;whnf);(first|done|exact rfl))));(exact cj);(focus((apply az;(conv=>lhs;whnf);(first|done|exact rfl))));(exact rfl);(exact rfl);(exact rfl);(assumption);(exact rfl))):p:=h
theorem zs141{p q:Prop}(h:q)(f:Wq q->p:=by(intro hW;((first|refine aN1 rfl rfl rfl zb25 ?_|refine jP rfl rfl rfl zb25 ?_));exact hW.out)):p:=f ⟨h⟩
theorem yA{p q:Prop}(h:q)(f:Wq q->p:=by(intro hW;((first|refine aN1 rfl rfl rfl zb10 ?_|refine Bv rfl rfl rfl rfl cO (by exact cj) aH ah ah (by first|omega|(simp;omega)) zb73 ?_|refine jP rfl rfl rfl zb10 ?_));exact hW.out)):p:=f ⟨h⟩
theorem zs137{p q:Prop}(h:q)(f:Wq q->p:=by(intro hW;(refine vM [5] ah (by(apply ui;(exact vA);(focus((repeat(first|exact ug|(apply qU;(exact rfl))|(apply uh;(exact rfl)))))))) ?_);exact hW.out)):p:=f ⟨h⟩
theorem wb{p q:Prop}(h:q)(f:Wq q->p:=by(intro hW;((first|refine aN1 rfl rfl rfl zb0 ?_|refine jP rfl rfl rfl zb0 ?_));exact hW.out)):p:=f ⟨h⟩
theorem zs140{p q:Prop}(h:q)(f:Wq q->p:=by(intro hW;((first|refine aN1 rfl rfl rfl zb3 ?_|refine Bv rfl rfl rfl rfl cO cO aH ah ah (by first|omega|(simp;omega)) zb73 ?_|refine jP rfl rfl rfl zb3 ?_));exact hW.out)):p:=f ⟨h⟩
theorem zs142{p q:Prop}(h:q)(f:Wq q->p:=by(intro hW;((refine nY (k:=5) (z:=(.agg #[.bool false,.slice none 0 0])) (d:=(.nm 0)) rfl rfl rfl rfl rfl ah aj aj dC aj aj ?_));exact hW.out)):p:=f ⟨h⟩
theorem Pn{p q:Prop}(h:q)(f:Wq q->p:=by(intro hW;(refine zs137 ?_;refine gF ?_;refine yA ?_;refine wb ?_;refine gF ?_;refine zs140 ?_;refine wb ?_;refine gF ?_;refine gF ?_;refine zs141 ?_;refine oY ?_;refine qH ?_;refine zs142 ?_;refine jC ?_;refine kB ?_);exact hW.out)):p:=f ⟨h⟩
theorem P6{p q:Prop}(h:q)(f:Wq q->p:=by(intro hW;(refine aL1 rfl rfl rfl (by(first|(apply(Mz (c:=2));(exact rfl);(focus((apply az;(conv=>lhs;whnf);(first|done|exact rfl))));(exact cj);(exact rfl);(exact rfl))|(apply d_remP;(exact rfl);(focus((apply az;(conv=>lhs;whnf);(first|done|exact rfl))));(exact cj);(omega))|(apply Fx;(exact rfl);(focus((apply az;(conv=>lhs;whnf);(first|done|exact rfl))));(exact cj);(focus(first|omega|decide))))) ?_);exact hW.out)):p:=f ⟨h⟩
end
section
open Go.RowKit
namespace DW
theorem Ad{α:Type}(l:List α)(x:α)(c:Nat):(l++[x]).eraseIdx c=if l.length=c then l.eraseIdx c else l.eraseIdx c++[x]:=by
 split
 ·rename_i h;rw[List.eraseIdx_append_of_length_le aa,Dc (by omega:l.length<=c),h,gh];simp
 ·by_cases h2:c<l.length
  ·rw[List.eraseIdx_append_of_lt_length h2]
  ·rw[Dc cX,Dc aa]
theorem B5{α:Type}(l:List α)(c:Nat):(l.eraseIdx c).length<=l.length:=(List.eraseIdx_sublist l c).length_le
def mnr(m:Mx.Mat)(r c:Nat):Mx.Mat:=(m.eraseIdx r).map fun l=>l.eraseIdx c
theorem Oj(m:Mx.Mat)(l:List Int)(r c:Nat):mnr (m++[l]) r c=if m.length=r then mnr m r c else mnr m r c++[l.eraseIdx c]:=by
 unfold mnr;rw[Ad];split
 ·rfl
 ·rw[eR];rfl
theorem Sd(m:Mx.Mat)(r c:Nat):(mnr m r c).length<=m.length:=by unfold mnr;rw[bI];exact B5 m r
set_option maxRecDepth 20000
set_option maxHeartbeats 1000000
theorem Sf(m:Mx.Mat)(r c:Nat)(hm:m.length<=1000000)(hm2:∀l∈m,l.length<=1000000):Fn Tryz.prog 115 [dW m,zI r,zI c] (dW (mnr m r c)):=by
 refine bh Tryz.func115 ah rfl rfl rfl fun X0=>?_;simp only[aK];refine td ?_;refine jA ?_;refine av (fG (t:=7) (k:=7) (T:=113) (wd:=1) jf rfl rfl cG) ?_
 (refine av (aE (sl':=[(0,dW m),(1,zI r),(2,zI c),(7,.own 7),(8,zI 0)]) (ow':=[(7,⟨113,1,[]⟩)]) aO aS) ?_)
 refine bB (fun q s=>∃i,i<=m.length/\q=m.length-i/\s=⟨[(0,dW m),(1,zI r),(2,zI c),(7,.own 7),(8,zI (i:Nat))],[(7,⟨113,1,(mnr (m.take i) r c).map dZ⟩)]⟩) (m:=m.length) ⟨0,bg _,rfl,by unfold mnr;simp⟩ fun q s hs=>?_;obtain⟨i,hi,rfl,rfl⟩:=hs;by_cases him:i<m.length
 ·obtain⟨l,hl⟩:=get_some him;have hll:=hm2 l (bG hl);have hsn:=Oj (m.take i) l r c;rw[<-cM hl,bf,dH aa]at hsn;have hfl:=Sd (m.take i) r c;rw[bf,dH aa]at hfl;obtain⟨F,hF⟩:∃F,F=mnr (m.take i) r c:=⟨_,rfl⟩;rw[<-hF]at hsn hfl;rw[<-hF];clear hF;by_cases hir:i=r
  ·rw[an hir]at hsn;refine jy ?_;refine ck ?_;refine Au ?_;refine bc ?_;refine bs ?_;refine fJ ?_;refine zs2 ?_;simp only[nx,inB];exact⟨m.length-(i+1),_,by omega,(aE (sl':=[(0,dW m),(1,zI r),(2,zI c),(7,.own 7),(8,zI ((i+1:Nat):Int))]) (ow':=[(7,⟨113,1,F.map dZ⟩)]) aO aS),i+1,by omega,rfl,by rw[hsn]⟩
  ·rw[ai hir]at hsn;refine jy ?_;refine ck ?_;refine Au ?_;refine bc ?_;refine bK ?_;refine jA ?_;refine av (fG (t:=9) (k:=9) (T:=62) (wd:=2) jf rfl rfl cG) ?_
   (refine av (aE (sl':=[(0,dW m),(1,zI r),(2,zI c),(7,.own 7),(8,zI (i:Nat)),(9,.own 9),(10,zI 0)]) (ow':=[(9,⟨62,2,[]⟩),(7,⟨113,1,F.map dZ⟩)]) aO aS) ?_)
   refine bB (fun q s=>∃k,k<=l.length/\q=l.length-k/\s=⟨[(0,dW m),(1,zI r),(2,zI c),(7,.own 7),(8,zI (i:Nat)),(9,.own 9),(10,zI (k:Nat))],[(9,⟨62,2,((l.take k).eraseIdx c).map .nm⟩),(7,⟨113,1,F.map dZ⟩)]⟩) (m:=l.length) ⟨0,bg _,rfl,by simp⟩ fun q s hs=>?_;obtain⟨k,hk,rfl,rfl⟩:=hs;by_cases hkl:k<l.length
   ·obtain⟨x,hx⟩:=get_some hkl;have hes:=Ad (l.take k) x c;rw[<-cM hx,bf,dH aa]at hes;have hel:=B5 (l.take k) c;rw[bf,dH aa]at hel;obtain⟨G,hG⟩:∃G,G=(l.take k).eraseIdx c:=⟨_,rfl⟩;rw[<-hG]at hes hel;rw[<-hG];clear hG;by_cases hkc:k=c
    ·rw[an hkc]at hes;refine qA ?_;refine ck ?_;refine CU ?_;refine bc ?_;refine qB ?_;simp only[nx,inB];exact⟨l.length-(k+1),_,by omega,(aE (sl':=[(0,dW m),(1,zI r),(2,zI c),(7,.own 7),(8,zI (i:Nat)),(9,.own 9),(10,zI ((k+1:Nat):Int))]) (ow':=[(9,⟨62,2,G.map .nm⟩),(7,⟨113,1,F.map dZ⟩)]) aO aS),k+1,by omega,rfl,by rw[hes]⟩
    ·rw[ai hkc]at hes;refine qA ?_;refine ck ?_;refine CU ?_;refine bc ?_;refine bs ?_;refine ck ?_;refine lP ?_;refine lP ?_;refine pJ ?_;refine Ax ?_;refine cS ?_;refine fJ ?_;refine zs2 ?_;simp only[nx,inB];exact⟨l.length-(k+1),_,by omega,(aE (sl':=[(0,dW m),(1,zI r),(2,zI c),(7,.own 7),(8,zI (i:Nat)),(9,.own 9),(10,zI ((k+1:Nat):Int))]) (ow':=[(9,⟨62,2,G.map .nm++[.nm x]⟩),(7,⟨113,1,F.map dZ⟩)]) aO aS),k+1,by omega,rfl,by rw[hes,eR];rfl⟩
   ·obtain rfl:k=l.length:=by omega
    rw[gO];refine zs2 ?_;refine tj ?_;refine bK ?_;refine av (ao (k:=9) aH aR aQ) ?_;refine vX ?_;refine zs2 ?_;refine fJ ?_;simp only[nx,inB];exact⟨m.length-(i+1),_,by omega,(aE (sl':=[(0,dW m),(1,zI r),(2,zI c),(7,.own 7),(8,zI ((i+1:Nat):Int))]) (ow':=[(7,⟨113,1,F.map dZ++[dZ (l.eraseIdx c)]⟩)]) aO aS),i+1,by omega,rfl,by rw[hsn,eR];rfl⟩
 ·obtain rfl:i=m.length:=by omega
  rw[gO];refine nZ ?_;refine av (ao (k:=7) aH aR aQ) ?_;refine lj ?_;refine zs2 ?_;exact⟨_,Sh.refl,.one (.tmp 6) _ rfl (.tmp 6 rfl)⟩
end DW
end
section
open Go.RowKit
namespace DW
theorem JF{B:Nat}{g:Nat->Int}:∀k,(∀l,l<k->(g l).natAbs<=B)->(Mx.sm k g).natAbs<=k*B
 |0,_=>by simp[Mx.sm]
 |k+1,h=>by
  have h1:=JF k fun l hl=>h l aa;have h2:=h k aa;show(Mx.sm k g+g k).natAbs<=_;rw[bV,cR];have:=Int.natAbs_add_le (Mx.sm k g) (g k);omega
theorem vi(k:Nat):(Mx.sg k).natAbs=1:=by unfold Mx.sg;split<;>rfl
theorem Hr{e n k:Nat}(hk:k<=n+1):k*(2^e*2^((e+n)*n))<=2^((e+(n+1))*(n+1)):=by
 have h1:k<=2^(n+1):=aA hk (bN Nat.lt_two_pow_self);refine aA (dh _ h1) ?_;rw[<-ff,<-ff];refine cv aa ?_;have:(e+(n+1))*(n+1)=(e+n)*n+(e+n)+(n+1):=by grind
 omega
theorem BA{e:Nat}:∀(n:Nat) (f:Nat->Nat->Int),(∀i j,i<n->j<n->(f i j).natAbs<=2^e)->(Mx.D n f).natAbs<=2^((e+n)*n)
 |0,_,_=>by simp[Mx.D]
 |n+1,f,h=>by
  unfold Mx.D;refine aA (JF (n+1) fun l hl=>?_) (Hr (af _));rw[eQ,eQ,vi,cR];exact cn (h 0 l aa hl) (BA n _ fun i j hi hj=>h _ _ aa (by unfold Mx.skip;split<;>omega))
def lW(n:Nat)(f:Nat->Nat->Int)(k:Nat):Int:=Mx.sg k*f 0 k*Mx.D n (fun i j=>f (i+1) (Mx.skip k j))
theorem Fi{e n:Nat}{f:Nat->Nat->Int}(h:∀i j,i<n+1->j<n+1->(f i j).natAbs<=2^e){k:Nat}(hk:k<n+1):(lW n f k).natAbs<=2^e*2^((e+n)*n):=by
 unfold lW;rw[eQ,eQ,vi,cR];exact cn (h 0 k aa hk) (BA n _ fun i j hi hj=>h _ _ aa (by unfold Mx.skip;split<;>omega))
theorem Sy{e n:Nat}{f:Nat->Nat->Int}(h:∀i j,i<n+1->j<n+1->(f i j).natAbs<=2^e){k:Nat}(hk:k<=n+1):(Mx.sm k (lW n f)).natAbs<=2^((e+(n+1))*(n+1)):=
 aA (JF k fun l hl=>Fi h aa) (Hr hk)
theorem LJ(M:Mx.Mat)(k i j:Nat):Mx.at' (mnr M 0 k) i j=Mx.at' M (i+1) (Mx.skip k j):=by
 unfold Mx.at' Mx.rw mnr Mx.skip;simp only[ay,bO,List.getElem?_eraseIdx,pN,if_false]
 cases M[i+1]? with
 |none=>simp
 |some r=>
  simp only[ct,oz,List.getElem?_eraseIdx];split<;>rfl
theorem LI{M:Mx.Mat}{n k:Nat}(hl:M.length=n+1)(hM:Mx.Rc (n+1) M)(hk:k<n+1):(mnr M 0 k).length=n/\Mx.Rc n (mnr M 0 k):=by
 unfold mnr;refine⟨by rw[bI,List.length_eraseIdx_of_lt aa];omega,fun r hr=>?_⟩;obtain⟨x,hx,rfl⟩:=dE.1 hr;have:=hM x (List.mem_of_mem_eraseIdx hx);rw[List.length_eraseIdx_of_lt aa];omega
theorem mnr_D(M:Mx.Mat)(n k:Nat):Mx.D n (Mx.at' (mnr M 0 k))=Mx.D n (fun i j=>Mx.at' M (i+1) (Mx.skip k j)):=Mx.bJ n _ _ fun i j _ _=>LJ M k i j
theorem TM{M:Mx.Mat}{B k:Nat}(h:Mx.Bd B M):Mx.Bd B (mnr M 0 k):=fun i j=>by rw[LJ];exact h _ _
set_option maxRecDepth 20000
set_option maxHeartbeats 2000000
theorem Kh(e:Nat):∀(n:Nat) (M:Mx.Mat),M.length=n->Mx.Rc n M->Mx.Bd (2^e) M->n<=1000->(e+n)*n+e<=3000000000->
  Fn Tryz.prog 43 [dW M] (.nm (Mx.D n (Mx.at' M)))
 |0,M,hl,hM,hb,hn,he=>by
  have h0:M=[]:=gP hl;subst h0;have O:=Bb 1 aa;refine bh Tryz.func43 ah rfl rfl rfl fun X0=>?_;simp only[aK];refine zs2 ?_;refine gar ?_;refine Ip ?_;refine dX ?_;refine IT ?_;refine bs ?_;refine gar ?_;refine Ie ?_;refine jz ?_;exact⟨_,ao (k:=2) aH aR aQ, .one (.cell 2 62) _ rfl (.cell 2 _ _ rfl rfl ah ah)⟩
 |n+1,M,hl,hM,hb,hn,he=>by
  have hSB:=fun k (hk:k<=n+1)=>Sy (e:=e) (n:=n) (f:=Mx.at' M) (fun i j _ _=>hb i j) hk;have hTB:=fun k (hk:k<n+1)=>Fi (e:=e) (n:=n) (f:=Mx.at' M) (fun i j _ _=>hb i j) hk;have hDB:=fun k=>BA (e:=e) n (fun i j=>Mx.at' M (i+1) (Mx.skip k j)) fun i j _ _=>hb _ _;have hx1:(e+n)*n+e+(n+n+1)<=(e+(n+1))*(n+1):=by
   have:(e+(n+1))*(n+1)=(e+n)*n+(e+n)+(n+1):=by grind
   omega
  have IH:=fun k (hk:k<n+1)=>Kh e n (mnr M 0 k) (LI hl hM hk).1 (LI hl hM hk).2 (TM hb) aa aa;have MI:=fun k=>Sf M 0 k aa (fun l hl=>by have:=hM l hl;omega);have hr0:=gl (M:=M) (i:=0) aa;refine bh Tryz.func43 ah rfl rfl rfl fun X0=>?_;simp only[aK];refine zs2 ?_;refine gar ?_;refine Ip ?_;refine dX ?_;refine IT ?_;refine bK ?_;refine gar ?_;(refine aL1 rfl rfl rfl (by(apply(yf (z:=(.agg #[.bool false, .slice none 0 0])) (d:=(.nm 0)));(exact rfl);(kernel_rfl);(exact rfl);(exact rfl);(exact rfl))) ?_);refine I8 ?_;refine jz ?_;refine fI ?_
  (refine av (aE (sl':=[(0,dW M),(2, .opt 2 0),(3, .opt 3 0),(4,zI 0)]) (ow':=[(3,⟨62,2,[.nm (0)]⟩),(2,⟨62,2,[.nm 0]⟩)]) aO aS) ?_)
  refine bB (fun q s=>∃k,k<=n+1/\q=n+1-k/\s=⟨[(0,dW M),(2, .opt 2 0),(3, .opt 3 0),(4,zI (k:Nat))],[(3,⟨62,2,[.nm (Mx.sm k (lW n (Mx.at' M)))]⟩),(2,⟨62,2,[.nm 0]⟩)]⟩) (m:=n+1) ⟨0,bg _,rfl,rfl⟩ fun q s hs=>?_;obtain⟨k,hk,rfl,rfl⟩:=hs;by_cases hkn:k<n+1
  ·have hxk:=lM (i:=0) hM aa hkn;have hS1:Mx.sm (k+1) (lW n (Mx.at' M))=Mx.sm k (lW n (Mx.at' M))+lW n (Mx.at' M) k:=rfl;have bS:=hSB k hk;have bT:=hTB k hkn;have bD:=hDB k;have IHk:=IH k hkn;rw[mnr_D]at IHk;have hdt:lW n (Mx.at' M) k=Mx.sg k*Mx.at' M 0 k*Mx.D n (fun i j=>Mx.at' M (i+1) (Mx.skip k j)):=rfl;have SX:=sq (Mx.at' M 0 k) (bQ (hb 0 k) aa);have MIk:=MI k;have bX:=hb 0 k;obtain⟨S,hS⟩:∃S,S=Mx.sm k (lW n (Mx.at' M)):=⟨_,rfl⟩;obtain⟨T,hT⟩:∃T,T=lW n (Mx.at' M) k:=⟨_,rfl⟩;obtain⟨X,hX⟩:∃X,X=Mx.at' M 0 k:=⟨_,rfl⟩;obtain⟨Dm,hDm⟩:∃Dm,Dm=Mx.D n (fun i j=>Mx.at' M (i+1) (Mx.skip k j)):=⟨_,rfl⟩;have gx:=xB X;rw[<-hS,<-hT]at hS1;rw[<-hS]at bS;rw[<-hT]at bT hdt;rw[<-hX]at hxk SX bX hdt;rw[<-hDm]at bD IHk hdt;rw[<-hS];clear hS hT hX hDm IH MI hSB hTB hDB hb;have hc0:(0:Int)=((0:Nat):Int):=rfl;by_cases hx0:X=0
   ·have hT0:T=0:=by rw[hdt,hx0];simp
    rw[hT0,uU]at hS1;refine jy ?_;refine Iz ?_;refine bs ?_;refine fJ ?_;refine zs2 ?_;simp only[nx,inB];exact⟨n+1-(k+1),_,by omega,(aE (sl':=[(0,dW M),(2, .opt 2 0),(3, .opt 3 0),(4,zI ((k+1:Nat):Int))]) (ow':=[(3,⟨62,2,[.nm (S)]⟩),(2,⟨62,2,[.nm 0]⟩)]) aO aS),k+1,by omega,rfl,by rw[hS1]⟩
   ·have eb:(2:Nat)^e*2^((e+n)*n)=2^(e+(e+n)*n):=(ff _ _ _).symm;rw[eb]at bT;have ML:=CG X Dm (bQ bX aa) (bQ bD aa);have bXD:(X*Dm).natAbs<=2^(e+(e+n)*n):=by
     rw[eQ,<-eb];exact cn bX bD
    have hfP:=bQ bXD aa;have hfS:=bQ bS aa;have hfT:=bQ bT aa;have AD:=QM S T hfS hfT;by_cases hk2:k%2=1
    ·have hsg : T = -(X * Dm) := by
      rw[hdt];unfold Mx.sg;rw[ai aa];rw[cW,iL,fi]
     have NG:=JT (X*Dm) hfP;rw[<-hsg]at NG;clear hdt hsg;refine jy ?_;refine Iz ?_;refine bK ?_;refine Pn ?_;refine zs2 ?_;refine cF ?_;refine P6 ?_;refine uJ ?_;refine bc ?_;refine bs ?_;refine IJ ?_;refine zs2 ?_;refine Iy ?_;refine jB ?_;simp only[nx,inB];exact⟨n+1-(k+1),_,by omega,(aE (sl':=[(0,dW M),(2, .opt 2 0),(3, .opt 3 0),(4,zI ((k+1:Nat):Int))]) (ow':=[(3,⟨62,2,[.nm (S+T)]⟩),(2,⟨62,2,[.nm 0]⟩)]) aO aS),k+1,by omega,rfl,by rw[hS1]⟩
    ·have hsg : T = X * Dm := by
      rw[hdt];unfold Mx.sg;rw[an aa,fi]
     rw[<-hsg]at ML;clear hdt hsg;refine jy ?_;refine Iz ?_;refine bK ?_;refine Pn ?_;refine zs2 ?_;refine cF ?_;refine P6 ?_;refine uJ ?_;refine bc ?_;refine bK ?_;refine Iy ?_;refine jB ?_;simp only[nx,inB];exact⟨n+1-(k+1),_,by omega,(aE (sl':=[(0,dW M),(2, .opt 2 0),(3, .opt 3 0),(4,zI ((k+1:Nat):Int))]) (ow':=[(3,⟨62,2,[.nm (S+T)]⟩),(2,⟨62,2,[.nm 0]⟩)]) aO aS),k+1,by omega,rfl,by rw[hS1]⟩
  ·obtain rfl:k=n+1:=by omega
   have hDD:Mx.D (n+1) (Mx.at' M)=Mx.sm (n+1) (lW n (Mx.at' M)):=rfl;obtain⟨S,hS⟩:∃S,S=Mx.sm (n+1) (lW n (Mx.at' M)):=⟨_,rfl⟩;rw[<-hS]at hDD;rw[<-hS];clear hS;refine nZ ?_;refine Co ?_;refine zs2 ?_;rw[hDD];exact⟨_,ao (k:=2) aH aR aQ, .one (.cell 2 62) _ rfl (.cell 2 _ _ rfl rfl ah ah)⟩
end DW
end
section
namespace Mx
theorem BG(j:Nat):skip 0 j=j+1:=by unfold skip;rw[ai aa]
theorem AZ(l:Nat):skip (l+1) 0=0:=by unfold skip;rw[an aa]
theorem KV(l i:Nat):skip (l+1) (i+1)=skip l i+1:=by
 unfold skip;by_cases h:i<l
 ·rw[an h,an aa]
 ·rw[ai h,ai aa]
theorem xx(n:Nat)(g:Nat->Int):sm (n+1) g=g 0+sm n (fun l=>g (l+1)):=by
 rw[GI g n 0 (bg _),cA n (fun l=>g (skip 0 l)) (fun l=>g (l+1)) fun l _=>by rw[BG]];omega
theorem QS(n:Nat)(h:∀f,D (n+1) f=D (n+1) fun i j=>f j i)(f:Nat->Nat->Int):
  D (n+2) f=f 0 0*D (n+1) (fun i j=>f (i+1) (j+1))+sm (n+1) fun l=>sm (n+1) fun m=>-(sg l*sg m)*(f 0 (l+1)*f (m+1) 0)*D n (fun i j=>f (skip m j+1) (skip l i+1)):=by
 show sm (n+2) (fun k=>sg k*f 0 k*D (n+1) (fun i j=>f (i+1) (skip k j)))=_;rw[xx];congr 1
 ·rw[show sg 0=1 from rfl,fi,bJ (n+1) (fun i j=>f (i+1) (skip 0 j)) (fun i j=>f (i+1) (j+1)) fun i j _ _=>by rw[BG]]
 ·refine cA _ _ _ fun l _=>?_;rw[h];show sg (l+1)*f 0 (l+1)*sm (n+1) (fun m=>sg m*f (m+1) (skip (l+1) 0)*D n (fun i j=>f (skip m j+1) (skip (l+1) (i+1))))=_;rw[<-ve];refine cA _ _ _ fun m _=>?_;rw[AZ,GK,bJ n (fun i j=>f (skip m j+1) (skip (l+1) (i+1))) (fun i j=>f (skip m j+1) (skip l i+1)) fun i j _ _=>by rw[KV]];generalize D n _=d;simp only[iL,cW];congr 1;rw[ij (f 0 (l+1)) (sg m)]
theorem QT:∀n,(∀f,D n f=D n fun i j=>f j i)/\∀f,D (n+1) f=D (n+1) fun i j=>f j i
 |0=>⟨fun _=>rfl,fun f=>by
  show sm 1 (fun k=>sg k*f 0 k*1)=sm 1 (fun k=>sg k*f k 0*1);rfl⟩
 |n+1=>by
  obtain⟨h1,h2⟩:=QT n;refine⟨h2,fun f=>?_⟩;rw[QS n h2 f,QS n h2 (fun i j=>f j i)];congr 1
  ·rw[h2]
  ·rw[AV];refine cA _ _ _ fun l _=>cA _ _ _ fun m _=>?_;rw[h1,dJ (sg m) (sg l),dJ (f 0 (m+1))]
theorem Bz(n:Nat)(f:Nat->Nat->Int):D n f=D n fun i j=>f j i:=(QT n).1 f
theorem Th{n i:Nat}(hi:i<n)(f:Nat->Nat->Int):D n (upd f i fun _=>0)=0:=by
 have h:=uF 0 0 n f i (fun _=>0) (fun _=>0) hi;simpa using h
theorem D_sm{n i:Nat}(hi:i<n)(f:Nat->Nat->Int)(v:Nat->Int)(A:Nat->Nat->Int):∀m,D n (upd f i fun j=>sm m fun k=>v k*A k j)=sm m fun k=>v k*D n (upd f i (A k))
 |0=>Th hi f
 |m+1=>by
  have h:=uF 1 (v m) n f i (fun j=>sm m fun k=>v k*A k j) (A m) hi;rw[D_sm hi f v A m]at h;show D n (upd f i fun j=>sm m (fun k=>v k*A k j)+v m*A m j)=sm m (fun k=>v k*D n (upd f i (A k)))+v m*D n (upd f i (A m));rw[fi]at h;rw[<-h];congr 2;funext j;rw[fi]
theorem Lp:∀(n:Nat) (τ:Nat->Nat),(∀i,i<n+1->τ i<n)->∃i j,i<j/\j<n+1/\τ i=τ j
 |0,τ,h=>absurd (h 0 aa) aa
 |n+1,τ,h=>by
  by_cases e:∃i,i<n+1/\τ i=τ (n+1)
  ·obtain⟨i,h1,h2⟩:=e;exact⟨i,n+1,h1,by omega,h2⟩
  ·have hne:∀i,i<n+1->τ i≠τ (n+1):=fun i hi h2=>e ⟨i,hi,h2⟩;have ht:=h (n+1) aa;obtain⟨i,j,h1,h2,h3⟩:=Lp n (fun i=>if τ (n+1)<τ i then τ i-1 else τ i) fun i hi=>by
    have a:=hne i hi;have b:=h i aa;show(if τ (n+1)<τ i then τ i-1 else τ i)<n;split<;>omega
   refine⟨i,j,h1,by omega,?_⟩;have a:=hne i aa;have b:=hne j h2;split at h3<;>split at h3<;>omega
theorem yk{r:Nat}(H:Nat->Nat->Int):∀(d k:Nat),k+d=r->∀τ:Nat->Nat,(∀i,i<r->τ i<r)->(∀i,i<k->τ i=i)->∃c:Int,∀S:Nat->Nat,D r (fun i j=>H (τ i) (S j))=c*D r (fun i j=>H i (S j))
 |0,k,hk,τ,_,h2=>⟨1,fun S=>by
  rw[fi];exact bJ r _ _ fun i j hi _=>by rw[h2 i aa]⟩
 |d+1,k,hk,τ,h1,h2=>by
  by_cases e:∃i j,i<j/\j<r/\τ i=τ j
  ·obtain⟨i,j,hij,hj,he⟩:=e;exact⟨0,fun S=>by
    rw[lE];exact Ao (i:=i) (j:=j) aa hj aa _ fun l=>by rw[he]⟩
  ·have hne:∀i j,i<j->j<r->τ i≠τ j:=fun i j hi hj he=>e ⟨i,j,hi,hj,he⟩;have hp:∃p,p<r/\τ p=k:=rN fun hno=>by
    have hno':∀p,p<r->τ p≠k:=fun p hp he=>hno ⟨p,hp,he⟩;obtain⟨n,rfl⟩:∃n,r=n+1:=⟨r-1,by omega⟩;obtain⟨i,j,g1,g2,g3⟩:=Lp n (fun i=>if k<τ i then τ i-1 else τ i) fun i hi=>by
     have a:=hno' i hi;have b:=h1 i hi;show(if k<τ i then τ i-1 else τ i)<n;split<;>omega
    have a:=hno' i aa;have b:=hno' j g2;refine hne i j g1 g2 ?_;split at g3<;>split at g3<;>omega
   obtain⟨p,hp,hpk⟩:=hp;have hkp:k<=p:=rN fun h=>by
    have:=h2 p aa;omega
   by_cases hpe:p=k
   ·subst hpe;exact yk (r:=r) H d (p+1) aa τ h1 fun i hi=>by
     by_cases hi2:i<p
     ·exact h2 i hi2
     ·obtain rfl:i=p:=by omega
      exact hpk
   ·obtain ⟨c, hc⟩ := yk (r := r) H d (k + 1) (by omega) (fun i => if i = k then τ p else if i = p then τ k else τ i) (fun i hi => by
        show(if i=k then τ p else if i=p then τ k else τ i)<r;split
        ·exact h1 p hp
        ·split
         ·exact h1 k aa
         ·exact h1 i hi) (fun i hi=>by
        show(if i=k then τ p else if i=p then τ k else τ i)=i;split
        ·omega
        ·split
         ·omega
         ·exact h2 i aa)
    refine⟨-c,fun S=>?_⟩;rw[iL,<-hc S];have hs:=Nb (n:=r) (i:=k) (j:=p) aa hp (fun h=>hpe h.symm) (fun i j=>H (τ i) (S j));have:D r (upd (upd (fun i j=>H (τ i) (S j)) k ((fun i j=>H (τ i) (S j)) p)) p ((fun i j=>H (τ i) (S j)) k))=D r (fun i j=>H (if i=k then τ p else if i=p then τ k else τ i) (S j)):=bJ r _ _ fun i j _ _=>by
     unfold upd;by_cases e1:i=p
     ·rw[an e1,ai aa,an e1]
     ·rw[ai e1];by_cases e2:i=k
      ·rw[an e2,an e2]
      ·rw[ai e2,ai e2,ai e1]
    rw[this]at hs;omega
theorem F6{r:Nat}(H V:Nat->Nat->Int):∀t,t<=r->∀τ:Nat->Nat,(∀i,i<r->τ i<r)->∃c:Int,∀S:Nat->Nat,D r (fun i j=>if i<t then sm r (fun k=>V i k*H k (S j))else H (τ i) (S j))=c*D r (fun i j=>H i (S j))
 |0,_,τ,h1=>by
  obtain⟨c,hc⟩:=yk (r:=r) H r 0 aa τ h1 fun i hi=>absurd hi (pN i);exact⟨c,fun S=>by
   rw[<-hc S];exact bJ r _ _ fun i j _ _=>ai (pN i)⟩
 |t+1,ht,τ,h1=>by
  have hk:∀k,∃c:Int,k<r->∀S:Nat->Nat,D r (fun i j=>if i<t then sm r (fun k=>V i k*H k (S j))else H (if i=t then k else τ i) (S j))=c*D r (fun i j=>H i (S j)):=fun k=>by
   by_cases hkr:k<r
   ·obtain ⟨c, hc⟩ := F6 (r := r) H V t (by omega) (fun i => if i = t then k else τ i) fun i hi => by
     show(if i=t then k else τ i)<r;split
     ·exact hkr
     ·exact h1 i hi
    exact⟨c,fun _=>hc⟩
   ·exact⟨0,fun h=>absurd h hkr⟩
  refine⟨sm r fun k=>V t k*Classical.choose (hk k),fun S=>?_⟩;have e:=D_sm (n:=r) (i:=t) aa (fun i j=>if i<t then sm r (fun k=>V i k*H k (S j))else H (τ i) (S j)) (V t) (fun k j=>H k (S j)) r;rw[bJ r (fun i j=>if i<t+1 then sm r (fun k=>V i k*H k (S j))else H (τ i) (S j)) (upd (fun i j=>if i<t then sm r (fun k=>V i k*H k (S j))else H (τ i) (S j)) t fun j=>sm r fun k=>V t k*H k (S j)) fun i j _ _=>by
   unfold upd;by_cases e1:i=t
   ·rw[an e1,an aa,e1]
   ·rw[ai e1];show(if i<t+1 then sm r fun k=>V i k*H k (S j)else H (τ i) (S j))=if i<t then sm r (fun k=>V i k*H k (S j))else H (τ i) (S j)
    by_cases e2:i<t
    ·rw[an e2,an (show i<t+1 by omega)]
    ·rw[ai e2,ai (show¬i<t+1 by omega)],e,dJ,<-ve]
  refine cA r _ _ fun k hkr=>?_;have hc:=yH (hk k) hkr S;rw[bJ r (upd (fun i j=>if i<t then sm r (fun k=>V i k*H k (S j))else H (τ i) (S j)) t fun j=>H k (S j)) (fun i j=>if i<t then sm r (fun k=>V i k*H k (S j))else H (if i=t then k else τ i) (S j)) fun i j _ _=>by
   unfold upd;by_cases e1:i=t
   ·rw[an e1,ai aa,an e1]
   ·rw[ai e1,ai e1],hc,ij,dJ (D r _)]
  rw[ij,cW]
end Mx
end
section
namespace Mx
def trM(n:Nat)(M:Mat):Mat:=(List.range n).map fun j=>M.map fun r=>r.getD j 0
theorem Rm(n:Nat)(M:Mat):(trM n M).length=n:=by simp[trM]
theorem To(n:Nat)(M:Mat):Rc M.length (trM n M):=fun r hr=>by
 obtain⟨k,_,rfl⟩:=dE.1 hr;simp
end Mx
end
section
namespace Mx
def fct:Nat->Nat
 |0=>1
 |n+1=>(n+1)*fct n
theorem AY:∀(n:Nat) (f:Nat->Int) (X:Nat),(∀k,k<n->(f k).natAbs<=X)->(sm n f).natAbs<=n*X
 |0,_,_,_=>by simp[sm]
 |n+1,f,X,h=>by
  have h1:=AY n f X fun k hk=>h k aa;have h2:=h n aa;show(sm n f+f n).natAbs<=_;rw[Nat.succ_mul];omega
theorem vi(k:Nat):(sg k).natAbs=1:=by unfold sg;split<;>rfl
theorem BA{B:Nat}:∀(n:Nat) (f:Nat->Nat->Int),(∀i j,(f i j).natAbs<=B)->(D n f).natAbs<=fct n*B^n
 |0,_,_=>by simp[D,fct]
 |n+1,f,h=>by
  show(sm (n+1) fun k=>sg k*f 0 k*D n (fun i j=>f (i+1) (skip k j))).natAbs<=_;refine aA (AY _ _ (B*(fct n*B^n)) fun k _=>?_) ?_
  ·rw[eQ,eQ,vi,cR];exact cn (h 0 k) (BA n _ fun i j=>h _ _)
  ·show _<=(n+1)*fct n*B^(n+1);rw[eD,bz (B^n) B,<-cf,cf,cf,jD B];exact af _
theorem Nc{r L:Nat}(A U:Nat->Nat->Int)(S:Nat->Nat)(h0:∀τ:Nat->Nat,(∀i,i<r->τ i<L)->D r (fun i j=>A (τ i) (S j))=0):∀t,t<=r->∀τ:Nat->Nat,(∀i,i<r->τ i<L)->D r (fun i j=>if i<t then sm L (fun k=>U i k*A k (S j))else A (τ i) (S j))=0
 |0,_,τ,h1=>by
  rw[<-h0 τ h1];exact bJ r _ _ fun i j _ _=>ai (pN i)
 |t+1,ht,τ,h1=>by
  have e:=D_sm (n:=r) (i:=t) aa (fun i j=>if i<t then sm L (fun k=>U i k*A k (S j))else A (τ i) (S j)) (U t) (fun k j=>A k (S j)) L;rw[bJ r (fun i j=>if i<t+1 then sm L (fun k=>U i k*A k (S j))else A (τ i) (S j)) (upd (fun i j=>if i<t then sm L (fun k=>U i k*A k (S j))else A (τ i) (S j)) t fun j=>sm L fun k=>U t k*A k (S j)) fun i j _ _=>by
   unfold upd;by_cases e1:i=t
   ·rw[an e1,an aa,e1]
   ·rw[ai e1];show(if i<t+1 then sm L fun k=>U i k*A k (S j)else A (τ i) (S j))=if i<t then sm L (fun k=>U i k*A k (S j))else A (τ i) (S j)
    by_cases e2:i<t
    ·rw[an e2,an (show i<t+1 by omega)]
    ·rw[ai e2,ai (show¬i<t+1 by omega)],e]
  refine so L _ fun k hk=>?_;rw[bJ r (upd (fun i j=>if i<t then sm L (fun k=>U i k*A k (S j))else A (τ i) (S j)) t fun j=>A k (S j)) (fun i j=>if i<t then sm L (fun k=>U i k*A k (S j))else A (if i=t then k else τ i) (S j)) fun i j _ _=>by
   unfold upd;by_cases e1:i=t
   ·rw[an e1,ai aa,an e1]
   ·rw[ai e1,ai e1],Nc A U S h0 t aa (fun i=>if i=t then k else τ i) (fun i hi=>by
    show(if i=t then k else τ i)<L;split
    ·exact hk
    ·exact h1 i hi),cJ]
theorem Ti{r L B:Nat}(A H U V:Nat->Nat->Int)(c:Nat->Nat)(hU:∀i,i<r->∀j,H i j=sm L fun k=>U i k*A k j)(hV:∀i,i<L->∀j,A i j=sm r fun k=>V i k*H k j)(hp:D r (fun i j=>H i (c j))≠0)(hB:∀i j,(A i j).natAbs<=B)(S:Nat->Nat):(D r (fun i j=>H i (S j))).natAbs<=fct r*B^r:=by
 have hτ:∃τ:Nat->Nat,(∀i,i<r->τ i<L)/\D r (fun i j=>A (τ i) (c j))≠0:=rN fun hno=>by
  have h0:∀τ:Nat->Nat,(∀i,i<r->τ i<L)->D r (fun i j=>A (τ i) (c j))=0:=fun τ h=>rN fun h2=>hno ⟨τ,h,h2⟩;by_cases hL:0<L
  ·have:=Nc A U c h0 r (af _) (fun _=>0) fun _ _=>hL;refine hp ?_;rw[<-this];exact bJ r _ _ fun i j hi _=>by rw[an hi,hU i hi]
  ·obtain rfl:L=0:=by omega
   by_cases hr:r=0
   ·subst hr;exact hp (h0 (fun _=>0) fun i hi=>absurd hi (pN i))
   ·refine hp (F5 (i:=0) aa _ fun l _=>?_);show H 0 (c l)=0;rw[hU 0 aa];rfl
 obtain⟨τ,h1,h2⟩:=hτ;obtain⟨z,hz⟩:=F6 (r:=r) H (fun i k=>V (τ i) k) r (af _) (fun _=>0) (fun i hi=>by omega);have e:∀S:Nat->Nat,D r (fun i j=>A (τ i) (S j))=z*D r (fun i j=>H i (S j)):=fun S=>by
  rw[<-hz S];exact bJ r _ _ fun i j hi _=>by rw[an hi,hV _ (h1 i hi)]
 have hz0:z≠0:=fun hz0=>h2 (by rw[e c,hz0,lE]);have h3:=BA (B:=B) r (fun i j=>A (τ i) (S j)) fun i j=>hB _ _;rw[e S,eQ]at h3;exact aA (Dl _ aa) h3
theorem CR:∀(n:Nat) (f:Nat->Nat->Int),(∀i j,j<i->i<n->f i j=0)->(∀i,i<n->1<=f i i)->1<=D n f/\∀i,i<n->f i i<=D n f
 |0,_,_,_=>⟨by simp[D],fun i hi=>absurd hi (pN i)⟩
 |n+1,f,h0,h1=>by
  have e:D (n+1) f=f 0 0*D n (fun i j=>f (i+1) (j+1)):=by
   rw[Bz];show sm (n+1) (fun k=>sg k*f k 0*D n (fun i j=>f (skip k j) (i+1)))=_;rw[oJ (j:=0) aa fun k hk hne=>by rw[h0 k 0 aa hk];simp,Bz n (fun i j=>f (i+1) (j+1))];rw[show sg 0=1 from rfl,fi];congr 1
  obtain⟨i1,i2⟩:=CR n (fun i j=>f (i+1) (j+1)) (fun i j hj hi=>h0 _ _ aa aa) fun i hi=>h1 _ aa;have ha:=h1 0 aa;rw[e];generalize D n (fun i j=>f (i+1) (j+1))=d at*;have hda:d<=f 0 0*d:=by
   have:=mQ ha (show 0<=d by omega);omega
  have haa:f 0 0<=f 0 0*d:=by
   have:=Int.mul_le_mul_of_nonneg_left i1 (show 0<=f 0 0 by omega);omega
  refine⟨by omega,fun i hi=>?_⟩
  cases i with
  |zero=>exact haa
  |succ i=>exact Int.le_trans (i2 i aa) hda
theorem UF{r K P:Nat}(H:Nat->Nat->Int)(c:Nat->Nat)(hK:∀S:Nat->Nat,(D r (fun i j=>H i (S j))).natAbs<=K)(hp:D r (fun i j=>H i (c j))≠0){i:Nat}(hi:i<r)(hP:∀l,l<r->(H i (c l)).natAbs<=P)(j:Nat):(H i j).natAbs<=r*(P*K):=by
 let col:Nat->Nat:=fun b=>if b=0 then j else c (b-1)
 let g:Nat->Nat->Int:=fun a b=>H (if a=0 then i else a-1) (col b)
 have h0:D (r+1) g=0:=Ao (i:=0) (j:=i+1) aa aa aa g fun l=>by
  show H (if 0=0 then i else _) _=H (if i+1=0 then i else i+1-1) _;rw[an rfl,ai aa,qJ]
 have h1:D (r+1) g=sm (r+1) fun k=>sg k*g 0 k*D r (fun a b=>g (a+1) (skip k b)):=rfl;have hg:∀k,D r (fun a b=>g (a+1) (skip k b))=D r (fun a b=>H a (col (skip k b))):=fun k=>bJ r _ _ fun a b _ _=>by
  show H (if a+1=0 then i else a+1-1) _=_;rw[ai aa,qJ]
 rw[h0,xx]at h1;have e1:sg 0*g 0 0*D r (fun a b=>g (a+1) (skip 0 b))=H i j*D r (fun a b=>H a (c b)):=by
  rw[hg 0,show sg 0=1 from rfl,fi];show H (if 0=0 then i else _) (col 0)*_=_;rw[an rfl];congr 1
 rw[e1]at h1;have h2:=AY r (fun l=>sg (l+1)*g 0 (l+1)*D r (fun a b=>g (a+1) (skip (l+1) b))) (P*K) fun l hl=>by
  rw[eQ,eQ,vi,cR,hg (l+1)];refine cn ?_ (hK _);show(H (if 0=0 then i else _) (if l+1=0 then j else c (l+1-1))).natAbs<=P;rw[an rfl,ai aa,qJ];exact hP l hl
 have h3:(H i j*D r (fun a b=>H a (c b))).natAbs<=r*(P*K):=by omega
 rw[eQ]at h3;exact aA (gf _ aa) h3
theorem zQ:∀(M:Mat) (f:Nat->Int) (j:Nat),lcf f M j=sm M.length fun k=>f k*at' M k j
 |[],_,_=>rfl
 |a::A,f,j=>by
  rw[gI,zQ A,ir,xx];simp only[eJ,jq]
theorem Le{n B:Nat}{M:Mat}(hR:Rc n M)(hB:∀i j,(at' M i j).natAbs<=B)(i j:Nat):∃r,r<=n/\(at' (red n 0 (0,M)).2 i j).natAbs<=r*((fct r*B^r)*(fct r*B^r)):=by
 have hre:RE M (red n 0 (0,M)).2:=dz n 0 (0,M) hR;obtain⟨pv,he⟩:=lp n 0 (0,M) id hR (jv M);rw[bu]at he;obtain⟨h1,h2⟩:=hre.sp hR;generalize(red n 0 (0,M)).2=H at*;generalize(red n 0 (0,M)).1=r at*;have hlen:=hre.len;have hRH:=hre.rc hR;have hrn:r<=n:=by
  have:∀k,k<=r->k<=n/\∀i,i<k->i<=pv i:=fun k=>by
   induction k with
   |zero=>exact fun _=>⟨bg _,fun i hi=>absurd hi (pN i)⟩
   |succ k ih=>
    intro hk;obtain⟨a,b⟩:=ih aa;have hk2:k<=pv k:=by
     cases k with
     |zero=>omega
     |succ k=>have:=b k aa;have:=he.mono k (k+1) aa aa;omega
    have:=he.lt k aa;refine⟨by omega,fun i hi=>?_⟩;by_cases e:i=k
    ·rw[e];exact hk2
    ·exact b i aa
  exact(this r (af _)).1
 refine⟨r,hrn,?_⟩;by_cases hi:i<r
 ·have hz : ∀ k, r <= k -> ∀ j, at' H k j = 0 := fun k hk j => by
   by_cases hj:j<n
   ·exact he.zb k hk j hj
   ·exact wO hRH aa
  have hU:∀i,∃f:Nat->Int,∀j,at' H i j=sm M.length fun k=>f k*at' M k j:=fun i=>by
   obtain⟨f,hf⟩:=h1 (at' H i) (SP.row H i);exact⟨f,fun j=>by rw[hf j,zQ]⟩
  have hV:∀i,∃f:Nat->Int,∀j,at' M i j=sm r fun k=>f k*at' H k j:=fun i=>by
   obtain⟨f,hf⟩:=h2 (at' M i) (SP.row M i);refine⟨f,fun j=>?_⟩;rw[hf j,zQ];have:∀d,sm (r+d) (fun k=>f k*at' H k j)=sm r fun k=>f k*at' H k j:=fun d=>by
    induction d with
    |zero=>rfl
    |succ d ih=>
     show sm (r+d) _+f (r+d)*at' H (r+d) j=_;rw[hz (r+d) aa,cJ,uU,ih]
   have:=this (H.length-r);rwa[show r+(H.length-r)=H.length by have:=he.le;omega]at this
  have hT:=CR r (fun i j=>at' H i (pv j)) (fun i j hj hi=>he.zl i hi _ (he.mono j i hj hi)) fun i hi=>by have:=he.pos i hi;omega
  have hp:D r (fun i j=>at' H i (pv j))≠0:=fun h=>by rw[h]at hT;omega
  have hK:=fun S=>Ti (B:=B) (at' M) (at' H) (fun i=>Classical.choose (hU i)) (fun i=>Classical.choose (hV i)) pv (fun i _ j=>yH (hU i) j) (fun i _ j=>yH (hV i) j) hp hB S;refine UF (at' H) pv hK hp hi (fun l hl=>?_) j;have hKp:=hK pv;have hpl:=hT.2 l hl;have hll:at' H l (pv l)<=(fct r*B^r:Nat):=by omega
  by_cases hil:i<l
  ·have:=he.ab i l hil hl;omega
  ·by_cases hli:i=l
   ·subst hli;have:=he.pos i hi;omega
   ·rw[he.zl i hi _ (he.mono l i aa hi)];simp
 ·have : at' H i j = 0 := by
   by_cases hj:j<n
   ·exact he.zb i aa j hj
   ·exact wO hRH aa
  rw[this];simp
end Mx
end
section
namespace Mx
def mm(n:Nat)(A B:Nat->Nat->Int):Nat->Nat->Int:=fun i j=>sm n fun k=>A i k*B k j
def idm:Nat->Nat->Int:=fun i j=>if i=j then 1 else 0
theorem LK{n:Nat}(x:Int)(A B:Nat->Nat->Int){i j:Nat}(hj:j<n)(h:∀k,k<n->B k j=x*idm k j):mm n A B i j=x*A i j:=by
 show sm n (fun k=>A i k*B k j)=_;rw[oJ (j:=j) hj fun k hk hkj=>by rw[h k hk];unfold idm;rw[ai hkj,cJ,cJ],h j hj];unfold idm;rw[an rfl,pg,dJ]
theorem LL{n:Nat}(x:Int)(A B:Nat->Nat->Int){i j:Nat}(hi:i<n)(h:∀k,k<n->A i k=x*idm i k):mm n A B i j=x*B i j:=by
 show sm n (fun k=>A i k*B k j)=_;rw[oJ (j:=i) hi fun k hk hkj=>by rw[h k hk];unfold idm;rw[ai (fun e=>hkj e.symm),cJ,lE],h i hi];unfold idm;rw[an rfl,pg]
def cof(n:Nat)(f:Nat->Nat->Int)(k j:Nat):Int:=sg (k+j)*D n fun a b=>f (skip k a) (skip j b)
def ad(n:Nat)(f:Nat->Nat->Int):Nat->Nat->Int:=fun i k=>cof n f k i
end Mx
end
section
namespace Mx
def adM(M:Mat):Mat:=(List.range M.length).map fun i=>(List.range M.length).map fun k=>ad (M.length-1) (at' M) i k
theorem Bl(row:List Int)(B:Mat)(k:Nat):∀j,DW.fC row B k j=sm j fun l=>row.getD l 0*at' B l k
 |0=>rfl
 |j+1=>by
  show DW.fC row B k j+row.getD j 0*at' B j k=_;rw[Bl row B k j];rfl
theorem Tr{A B:Mat}{c i j:Nat}(hi:i<A.length)(hj:j<c):at' (DW.tim A B c) i j=sm B.length fun l=>at' A i l*at' B l j:=by
 have h1:(DW.tim A B c)[i]?=some (DW.jj B c (rw A i)):=by
  unfold DW.tim;rw[bO];unfold rw;rw[ay,aZ hi];rfl
 have h2:(DW.jj B c (rw A i))[j]?=some (DW.fC (rw A i) B j B.length):=by
  unfold DW.jj;rw[bO,jg hj];rfl
 conv=>lhs;unfold at'
 rw[dR h1,ay,h2];exact Bl _ _ _ _
theorem Tq(A B:Mat)(c:Nat):Rc c (DW.tim A B c):=fun r hr=>by
 obtain⟨k,_,rfl⟩:=dE.1 hr;simp[DW.jj]
theorem Rn{n:Nat}(M:Mat){i j:Nat}(hi:i<n)(hj:j<M.length):at' (trM n M) i j=at' M j i:=by
 have h1:(trM n M)[i]?=some (M.map fun r=>r.getD i 0):=by
  unfold trM;rw[bO,jg hi];rfl
 conv=>lhs;unfold at'
 rw[dR h1,ay,bO];unfold at' rw;rw[show List.getD M j []=M[j] by rw[ay,aZ hj];rfl,aZ hj];rfl
theorem HF.mul{g:Int}(hg:0<g):∀(A B:Mat),A.length=B.length->(∀i j,at' A i j=g*at' B i j)->HF B->HF A
 |[],_,_,_,_=>trivial
 |a::A,[],hl,_,_=>by simp at hl
 |a::A,b::B,hl,h,hB=>by
  have h0:∀j,a.getD j 0=g*b.getD j 0:=fun j=>h 0 j;have ht:∀i j,at' A i j=g*at' B i j:=fun i j=>h (i+1) j;have hz:∀{x:Int},g*x=0->x=0:=fun e=>by
   rcases uV.1 e with e|e
   ·omega
   ·exact e
  rcases hB with hB|⟨p,h1,h2,h3,h4,h5⟩
  ·exact .inl fun i j=>by rw[h i j,hB i j,cJ]
  ·refine .inr ⟨p,fun i j hj=>by rw[h i j,h1 i j hj,cJ],by rw[h0];exact Int.mul_pos hg h2,fun i=>by rw[ht i p,h3 i,cJ],HF.mul hg A B mI ht h4,fun i q k1 k2=>?_⟩;have h6:=h5 i q (fun j hj=>hz (by rw[<-ht];exact k1 j hj)) (fun e=>k2 (by rw[ht,e,cJ]));rw[h0,ht];exact⟨Int.mul_nonneg aa h6.1,Int.mul_lt_mul_of_pos_left h6.2 hg⟩
theorem OX{n:Nat}{S:Mat}(hS:Rc n S)(hl:S.length=n)(hD:D n (at' S)≠0):nH n S=(red n 0 (0,S)).2:=by
 have re:=dz n 0 (0,S) hS;have h1:=RE.det 0 re hS;have e:∀M:Mat,rb 0 M=at' M:=fun M=>by funext i j;exact QL M i j
 rw[hl,e,e]at h1;have hX:D n (at' (red n 0 (0,S)).2)≠0:=by
  rcases h1 with h1|h1
  ·rw[h1];exact hD
  ·rw[h1];exact Int.neg_ne_zero.2 hD
 have hlen:=re.len;rw[<-wM hS];refine Bj fun l hl2=>?_;obtain⟨i,hi,rfl⟩:=lS hl2;by_cases h0:((red n 0 (0,S)).2[i].all fun z=>decide (z=0))=true
 ·exfalso;refine hX (F5 (i:=i) (by rw[<-hl,<-hlen];exact hi) _ fun j _=>?_);rw[eh]at h0;unfold at' rw;rw[ay,ay,aZ hi];show((red n 0 (0,S)).2[i][j]?).getD 0=0
  cases hj:(red n 0 (0,S)).2[i][j]? with
  |none=>rfl
  |some x=>exact pO (h0 x (bG hj))
 ·simpa using h0
structure UC(n:Nat)(F R:Mat)(d:Int)(M S:Mat)(e:Int):Prop where
 m:M=DW.tim F (trM n R) n
 s:S=mapM (fun x=>x*d) (adM M)
 e:e=((D n (at' M)).natAbs:Int)
end Mx
end
section
open Go.RowKit Go.BigFrame
attribute [local go_sem ↓] Go.wp_at_zero Go.wp_at_succ
structure QR(w w':World)(base:Nat)(v v':Value)(l:List IV)(x:IV):Prop where
 own:lB w' base v' (l++[x])
 by':w.grownBy w' v.ownBlock
 at':v'.ownBlock=v.ownBlock\/v'.ownBlock=some w.heap.size
theorem QR.shape{w w':World}{base:Nat}{v v':Value}{l:List IV}{x:IV}(h:QR w w' base v v' l x):∃g c,v'= .slice (some ⟨g,0,none⟩) (l.length+1) c/\base<=g/\g<w'.heap.size:=by
 obtain⟨_,h⟩:=h.own;rw[cI,jR]at h;rcases h with⟨_,hn⟩|⟨g,cap,cur,rfl,hb,hg,_⟩
 ·omega
 ·exact⟨g,cap,rfl,hb,(iu.1 hg).1⟩
end
section
open Go.RowKit Go.BigFrame
attribute [local go_sem ↓] Go.wp_at_zero Go.wp_at_succ
theorem NW.bool{w:World}{g:Nat}{b:Bool}(h:w.cell? ⟨g,0,none⟩=some (.bool b)):NW w g:=fun n e=>by rw[h]at e;cases e
end
section
open Go.RowKit
namespace DW
theorem N1{n:Nat}{den:Int}{m:Mx.Mat}(hc:lck n m den=0)(hn:n<=5):Mx.Bd (2^520) (Mx.red n 0 (0,m)).2:=fun i j=>by
 obtain⟨r,hr,h⟩:=Mx.Le (B:=2^50) (jn hc) (zP hc) i j;refine aA h ?_;have:r=0\/r=1\/r=2\/r=3\/r=4\/r=5:=by omega
 clear h hr;rcases this with rfl|rfl|rfl|rfl|rfl|rfl<;>exact pO ah
theorem iA{n:Nat}{den:Int}{m:Mx.Mat}(hc:lck n m den=0)(hn:n<=5):∀l∈nR n m den,∀x∈l,x.natAbs<=2^520:=fun l hl x hx=>by
 have hd:=(iQ hc).1;obtain⟨r,hr,rfl⟩:=dE.1 hl;obtain⟨y,hy,rfl⟩:=dE.1 hx;have h1:=(Mx.eE (jn hc) (show 0<den by omega)).2.2.2.2.1;exact aA (oN h1 ((Mx.jW (nH n m) den).2 r hr y hy)) (sS (N1 hc hn) (zG hr) hy)
theorem jO{X:Nat}{M:Mx.Mat}(h:∀l∈M,∀x∈l,x.natAbs<=X):Mx.Bd X M:=fun i j=>by
 rcases at_mem M i j with h1|⟨r,hr,hz⟩
 ·rw[h1];exact bg _
 ·exact h r hr _ hz
theorem w600{n:Nat}(h:n<=5):2*(600*11^n)<=3000000000:=by
 have:=cv (n:=11) aa h;have e:11^5=161051:=rfl;omega
structure Mk(n:Nat)(M:Mx.Mat)(z:Int):Prop where
 n0:0<n
 n5:n<=5
 len:M.length<=64
 rc:Mx.Rc n M
 bd:Mx.Bd (2^600) M
 z0:0<z
 zb:z.natAbs<=2^600
theorem Mk.red{n:Nat}{M:Mx.Mat}{z:Int}(h:Mk n M z):Mx.Bd (2^(600*11^n)) (Mx.red n 0 (0,M)).2:=by
 have:=Mx.sC (n:=n) (e:=600) aa n 0 0 M h.rc (by rw[oE,eW];exact h.bd);rw[bu]at this;exact this
theorem Mk.rows{n:Nat}{M:Mx.Mat}{z:Int}(h:Mk n M z):∀l∈nR n M z,∀x∈l,x.natAbs<=2^(600*11^n):=fun l hl x hx=>by
 obtain⟨r,hr,rfl⟩:=dE.1 hl;obtain⟨y,hy,rfl⟩:=dE.1 hx;have h1:=(Mx.eE h.rc h.z0).2.2.2.2.1;exact aA (oN h1 ((Mx.jW (nH n M) z).2 r hr y hy)) (sS h.red (zG hr) hy)
theorem Mk.den{n:Nat}{M:Mx.Mat}{z:Int}(h:Mk n M z):(z/nG n M z).natAbs<=2^600:=
 aA (oN (Mx.eE h.rc h.z0).2.2.2.2.1 (Mx.jW (nH n M) z).1) h.zb
theorem Mk.rlen{n:Nat}{M:Mx.Mat}{z:Int}(h:Mk n M z):(nR n M z).length<=64:=by
 have:=zH h.rc;have:=h.len;unfold nR;rw[cB];omega
theorem Mk.rrc{n:Nat}{M:Mx.Mat}{z:Int}(h:Mk n M z):Mx.Rc n (nR n M z):=(Mx.eE h.rc h.z0).2.2.2.1
theorem Mk.net{n:Nat}{M:Mx.Mat}{z:Int}(h:Mk n M z):Fn Tryz.prog 103 [zI n,dW M,.nm z] (ez n (nR n M z) (z/nG n M z)):=by
 have h5:=w600 h.n5;have hn:=h.n5;have hm:=h.len;exact Bf n M n 600 z aa h.n0 aa aa aa h.rc h.bd (bj h.zb aa)
theorem Mk.hand{n:Nat}{M:Mx.Mat}{z:Int}(h:Mk n M z):Fn Tryz.prog 88 [ez n (nR n M z) (z/nG n M z)] (hnd n (nR n M z) (z/nG n M z)):=by
 have h5:=w600 h.n5;have hn:=h.n5;have hl:=h.rlen;have hz:=(Mx.eE h.rc h.z0).2.2.2.2.2;exact EU n (nR n M z) n (z/nG n M z) aa h.n0 aa h.rrc (fun i j=>bj (jO h.rows i j) aa) (bj h.den aa) aa
theorem Me(dim:Int)(R:Mx.Mat)(d:Int):∃n2 R2 d2 C,hnd dim R d= .tp [dL n2 R2 d2,zI C]/\R2.length<=R.length/\∀l∈R2,l∈R:=by
 unfold hnd;split
 ·exact⟨_,_,_,_,rfl,af _,fun l hl=>hl⟩
 ·exact⟨_,_,_,_,rfl,bg _,fun l hl=>by cases hl⟩
theorem jo(f:Int->Int)(hf:f 0=0)(M:Mx.Mat)(i j:Nat):Mx.at' (mapM f M) i j=f (Mx.at' M i j):=Mx.jo f hf M i j
theorem pw(a b:Nat)(h:a<=b):2^a<=2^b:=cv aq h
theorem pmul{x y a b c:Nat}(h1:x<=2^a)(h2:y<=2^b)(h:a+b<=c):x*y<=2^c:=aA (cn h1 h2) (by rw[<-ff];exact pw _ _ h)
theorem mS{p q:Int}{a b c:Nat}(h1:p.natAbs<=2^a)(h2:q.natAbs<=2^b)(h:a+b<=c):(p*q).natAbs<=2^c:=by
 rw[eQ];exact pmul h1 h2 h
set_option maxRecDepth 20000
set_option maxHeartbeats 2000000
theorem Lg(dim den:Int)(m R:Mx.Mat)(d:Int)(WD:Fn Tryz.prog 23 [dM m] (dW m))(OF:Fn Tryz.prog 81 [zI den] (.nm den))(BS:Fn Tryz.prog 158 [dW m,.nm den,zI dim] (.tp [dW R,.nm d])):Fn Tryz.prog 105 [dL dim m den] (.tp [dW R,.nm d]):=by
 refine bh Tryz.func105 ah rfl rfl rfl fun X0=>?_;simp only[aK];refine zs2 ?_;refine il ?_;refine zs3 ?_;refine I8 ?_;refine dX ?_;refine mH ?_;refine Cr ?_;refine Ce ?_;refine oY ?_;refine we ?_;refine fT ?_;refine Jb ?_;refine kC ?_;refine kC ?_;refine oZ ?_;refine jC ?_;refine kB ?_;refine zs2 ?_;exact⟨_,ao (k:=3) aH aR aQ,.two (.tmp 2) (.cell 3 62) _ _ rfl (.tmp 2 rfl) (.cell 3 _ _ rfl rfl ah ah)⟩
theorem BN{n:Nat}{m:Mx.Mat}{den:Int}(hc:lck n m den=0)(hn:n<=5):Fn Tryz.prog 105 [dL n m den] (.tp [dW (nR n m den),.nm (den/nG n m den)]):=by
 obtain⟨k1,k2,k3⟩:=iQ hc;have hR:=jn hc;have WD:=Tl m aa (fun l hl=>by have:=hR l hl;omega) (fun l hl z hz=>LY hc l hl z hz);exact Lg n den m _ _ WD (Bb den aa) (N2 n den m hc hn)
theorem Ev{n:Nat}{r:List Int}{N:Mx.Mat}(h:Mx.Rc n N):∀k,k<=N.length->mulR n r N k=(List.range n).map fun j=>fC r N j k
 |0,_=>by
  show List.replicate n 0=(List.range n).map fun _=>(0:Int);rw[List.map_const',List.length_range]
 |k+1,hk=>by
  show Mx.fE (r.getD k 0) (mulR n r N k) (Mx.rw N k)=_;rw[Ev h k aa];refine oC fun j=>?_;have hl:(Mx.rw N k).length=n:=h.rw aa;by_cases hj:j<n
  ·rw[FN (x:=fC r N j k) (y:=Mx.at' N k j) (by rw[bO,jg hj];rfl) (lM h aa hj),bO,jg hj];rfl
  ·rw[gy,gy]
   ·simp;omega
   ·have:=Mx.mn (r.getD k 0) ((List.range n).map fun j=>fC r N j k) (Mx.rw N k) (by simp[hl]);rw[this];simp;omega
theorem Sb{n:Nat}{M N:Mx.Mat}(h:Mx.Rc n N):mulM n M N=tim M N n:=by
 unfold mulM tim jj;exact lD fun r _=>Ev h _ (af _)
theorem Bm{row:List Int}{B:Mx.Mat}{k X L:Nat}(hl:row.length<=L)(h:∀j,(row.getD j 0*Mx.at' B j k).natAbs<=X):∀j,(fC row B k j).natAbs<=min j L*X
 |0=>by simp[fC]
 |j+1=>by
  have h1:=Bm hl h j;have h2:=h j;show(fC row B k j+row.getD j 0*Mx.at' B j k).natAbs<=_;by_cases hj:j<L
  ·rw[dH aa]at h1;rw[dH aa,Nat.succ_mul];omega
  ·rw[ay,gy aa];rw[Nat.min_eq_right aa]at h1⊢;simpa using h1
theorem SS{f:Mx.Mat}(hf:chk f=0):Mx.Bd (2^50) f:=jO fun l hl x hx=>aA ((MH hf).2.2.2 l hl x hx) aq
end DW
end
section
open Go.RowKit
namespace DW
set_option maxRecDepth 20000
set_option maxHeartbeats 2000000
theorem KF(u v:Int)(fu:Fit u)(fv:Fit v):Fn Tryz.prog 121 [.nm u,.nm v] (.nm (u/v)):=by
 refine⟨enters_of Tryz.func121 ah rfl,fun X w vs hX hv=>?_⟩;simp only[ATp,AR]at hv;obtain⟨v1,r1,e1,⟨x,rfl,hx⟩,v2,r2,e2,⟨y,rfl,hy⟩,rfl⟩:=hv;subst e2;have:vs= #[.agg #[.bool x.s,.slice x.a x.n x.cap],.agg #[.bool y.s,.slice y.a y.n y.cap]]:=cU.1 e1;subst this;exact(kN x y u v fu fv w hx.ip hy.ip).mono fun e w' ⟨⟨z,h1,h2⟩,h3⟩=>⟨_,h1,by simp only[AR];exact⟨z,rfl,h2⟩,h3⟩
end DW
end
section
open Go.RowKit
namespace DW
set_option maxRecDepth 20000
set_option maxHeartbeats 4000000
theorem OG{X:Nat}{row:List Int}(h:∀x∈row,x.natAbs<=X)(j:Nat):(row.getD j 0).natAbs<=X:=by
 rw[ay]
 cases hg:row[j]? with
 |none=>exact bg _
 |some x=>exact h x (bG hg)
end DW
end
section
namespace Mx
theorem vm{n:Nat}{M:Mat}(h:Rc n M):(red n 0 (0,M)).1<=n:=by
 obtain⟨pv,he⟩:=lp n 0 (0,M) id h (jv M);rw[bu]at he;generalize(red n 0 (0,M)).1=r at*;have:∀i,i<r->i<=pv i:=fun i=>by
  induction i with
  |zero=>intro _;omega
  |succ i ih=>
   intro hi;have h1:=ih aa;have h2:=he.mono i (i+1) aa hi;omega
 by_cases h0:r=0
 ·omega
 ·have h1:=this (r-1) aa;have h2:=he.lt (r-1) aa;omega
theorem JV{n:Nat}{M:Mat}(h:Rc n M)(d:Int):(nR n M d).length<=n:=by
 unfold nR nH;rw[cB,bf];have:=vm h;omega
theorem OH{n:Nat}{R:Mat}(hR:Rc n R)(hl:R.length=n)(hN:nH n R=R):D n (at' R)≠0:=by
 obtain⟨pv,he⟩:=lp n 0 (0,R) id hR (jv R);rw[bu]at he;have hlen:=(dz n 0 (0,R) hR).len;have hr:(red n 0 (0,R)).1=n:=by
  have h1:=iq List.length hN;unfold nH at h1;rw[bf]at h1;have:=he.le;omega
 have hX:(red n 0 (0,R)).2=R:=by
  have h2:(red n 0 (0,R)).2.take (red n 0 (0,R)).1=R:=hN;rw[hr,cw (by rw[hlen];show R.length<=n;omega)]at h2;exact h2
 rw[hr,hX]at he;have lo:∀i,i<n->i<=pv i:=fun i=>by
  induction i with
  |zero=>intro _;omega
  |succ i ih=>
   intro hi;have h1:=ih aa;have h2:=he.mono i (i+1) aa hi;omega
 have up:∀d i,i+d+1=n->pv i<=i:=fun d=>by
  induction d with
  |zero=>intro i hi;have:=he.lt i aa;omega
  |succ d ih=>
   intro i hi;have h1:=ih (i+1) aa;have h2:=he.mono i (i+1) aa aa;omega
 have pvi:∀i,i<n->pv i=i:=fun i hi=>by
  have h1:=lo i hi;have h2:=up (n-1-i) i aa;omega
 have h:=CR n (at' R) (fun i j hj hi=>he.zl i hi j (by rw[pvi i hi];exact hj)) fun i hi=>by
  have:=he.pos i hi;rw[pvi i hi]at this;omega
 omega
end Mx
end
section
namespace Mx
theorem Ap{n:Nat}(A B:Nat->Nat->Int):D n (mm n A B)=D n A*D n B:=by
 by_cases h0:0<n
 ·obtain⟨c,hc⟩:=F6 (r:=n) (fun i j=>if j<n then B i j else idm i (j-n)) A n (af _) (fun _=>0) fun _ _=>h0;have h1:=hc fun j=>j;have h2:=hc fun j=>n+j;have e1:D n (fun i j=>if i<n then sm n (fun k=>A i k*(if j<n then B k j else idm k (j-n)))else(if j<n then B 0 j else idm 0 (j-n)))=D n (mm n A B):=bJ n _ _ fun i j hi hj=>by
   rw[an hi];exact cA _ _ _ fun k _=>by rw[an hj]
  have e2:D n (fun i j=>if j<n then B i j else idm i (j-n))=D n B:=bJ n _ _ fun i j _ hj=>an hj;have e3:D n (fun i j=>if i<n then sm n (fun k=>A i k*(if n+j<n then B k (n+j)else idm k (n+j-n)))else(if n+j<n then B 0 (n+j)else idm 0 (n+j-n)))=D n A:=bJ n _ _ fun i j hi hj=>by
   rw[an hi,cA n (fun k=>A i k*(if n+j<n then B k (n+j)else idm k (n+j-n))) (fun k=>A i k*(1*idm k j)) fun k _=>by rw[ai aa,oe,fi]];exact(LK (n:=n) 1 A (fun a b=>1*idm a b) hj fun k _=>rfl).trans (fi _)
  have e4:D n (fun i j=>if n+j<n then B i (n+j)else idm i (n+j-n))=1:=by
   rw[bJ n _ (fun i j=>if i=j then 1 else 0) fun i j _ _=>by rw[ai aa,oe];rfl];exact CS n
  rw[e1,e2]at h1;rw[e3,e4,pg]at h2;rw[h1,h2]
 ·obtain rfl:n=0:=by omega
  rfl
theorem QV(m:Nat)(f:Nat->Nat->Int):D (m+1) f=sm (m+1) fun k=>sg k*f k 0*D m fun i j=>f (skip k i) (j+1):=by
 rw[Bz];show sm (m+1) (fun k=>sg k*f k 0*D m fun i j=>f (skip k j) (i+1))=_;refine cA _ _ _ fun k _=>?_;rw[Bz m]
theorem AX(f:Nat->Int)(a:Nat):∀b,(∀k,a<=k->k<a+b->f k=0)->sm (a+b) f=sm a f
 |0,_=>rfl
 |b+1,h=>by
  show sm (a+b) f+f (a+b)=_;rw[h (a+b) aa aa,uU,AX f a b fun k h1 h2=>h k h1 aa]
theorem wS(b:Nat):∀(a:Nat) (f:Nat->Nat->Int),(∀i j,a<=i->i<a+b->j<a->f i j=0)->D (a+b) f=D a f*D b fun i j=>f (a+i) (a+j)
 |0,f,_=>by
  show D (0+b) f=1*D b fun i j=>f (0+i) (0+j);rw[fi];simp only[bu]
 |a+1,f,h=>by
  rw[show a+1+b=(a+b)+1 by omega,QV,QV a,show a+b+1=(a+1)+b by omega,AX _ (a+1) b fun k h1 h2=>by rw[h k 0 h1 aa aa,cJ,lE],dJ,<-ve];refine cA _ _ _ fun k hk=>?_;rw[wS b a (fun i j=>f (skip k i) (j+1)) fun i j h1 h2 h3=>by
   have:skip k i=i+1:=by unfold skip;rw[ai aa]
   rw[this];exact h _ _ aa aa aa]
  have e:D b (fun i j=>f (skip k (a+i)) (a+j+1))=D b fun i j=>f (a+1+i) (a+1+j):=bJ b _ _ fun i j _ _=>by
   have:skip k (a+i)=a+1+i:=by unfold skip;rw[ai aa];omega
   rw[this,show a+j+1=a+1+j by omega]
  rw[e];simp only[cW,ij,dJ]
def dpr(f:Nat->Nat->Int):Nat->Int
 |0=>1
 |n+1=>dpr f n*f n n
theorem UD(f:Nat->Nat->Int):D 1 f=f 0 0:=by
 show(0:Int)+sg 0*f 0 0*1=_;rw[pg,Int.zero_add];show(1:Int)*_=_;rw[fi]
theorem wR:∀(n:Nat) (f:Nat->Nat->Int),(∀i j,j<i->i<n->f i j=0)->D n f=dpr f n
 |0,_,_=>rfl
 |n+1,f,h=>by
  rw[wS 1 n f fun i j h1 h2 h3=>h i j aa aa,wR n f fun i j h1 h2=>h i j h1 aa,UD];rfl
theorem sX{n:Nat}(x:Int)(A:Nat->Nat->Int):D n (fun i j=>x*A i j)=dpr (fun _ _=>x) n*D n A:=by
 have h:D n (mm n (fun i j=>x*idm i j) A)=D n (fun i j=>x*idm i j)*D n A:=Ap _ _;rw[<-bJ n _ (fun i j=>x*A i j) fun i j hi hj=>LL x (fun i j=>x*idm i j) A hi fun k _=>rfl,h];congr 1;rw[wR n _ fun i j h1 h2=>by show x*idm i j=0;unfold idm;rw[ai aa,cJ]];clear h
 induction n with
 |zero=>rfl
 |succ n ih=>
  show dpr _ n*(x*idm n n)=dpr _ n*x;rw[ih];unfold idm;rw[an rfl,pg]
theorem KP{n:Nat}{A U S:Nat->Nat->Int}(hU:D (n+n) U=1\/D (n+n) U= -1)(hS:∀i j,i<n->j<n->sm (n+n) (fun k=>U i k*A k j)=S i j)(h0:∀i j,n<=i->i<n+n->j<n->sm (n+n) (fun k=>U i k*A k j)=0):
  ∃ε:Int,ε*ε=1/\D n S*D n (fun i j=>sm n fun k=>U (n+i) k*A k j)=ε*(D n A*D n fun i j=>A (n+i) j):=by
 obtain⟨ε,hε,hUε⟩:∃ε:Int,ε*ε=1/\D (n+n) U=ε:=by
  rcases hU with h|h
  ·exact⟨1,rfl,h⟩
  ·exact⟨-1,rfl,h⟩
 let B:Nat->Nat->Int:=fun i j=>if j<n then A i j else idm i j
 have hB:D (n+n) B=D n A:=by
  have hz:∀i j,n<=i->i<n+n->j<n->(fun a b=>B b a) i j=0:=fun i j h1 _ h3=>by
   show(if i<n then A j i else idm j i)=0;rw[ai aa];unfold idm;rw[ai aa]
  rw[Bz (n+n) B,wS n n _ hz,<-Bz n B,bJ n B A fun i j _ hj=>an hj,bJ n (fun i j=>B (n+j) (n+i)) (fun i j=>if i=j then 1 else 0) fun i j _ _=>by
   show(if n+i<n then A (n+j) (n+i)else idm (n+j) (n+i))=_;rw[ai aa];unfold idm;by_cases h:i=j
   ·rw[an h,an aa]
   ·rw[ai h,ai aa],CS,pg]
 have hT:D (n+n) (mm (n+n) U B)=D n S*D n fun i j=>U (n+i) (n+j):=by
  rw[wS n n _ fun i j h1 h2 h3=>by
   rw[<-h0 i j h1 h2 h3];exact cA _ _ _ fun k _=>by show U i k*(if j<n then A k j else idm k j)=_;rw[an h3]]
  congr 1
  ·exact bJ n _ _ fun i j hi hj => by
    rw[<-hS i j hi hj];exact cA _ _ _ fun k _=>by show U i k*(if j<n then A k j else idm k j)=_;rw[an hj]
  ·exact bJ n _ _ fun i j hi hj => by
    show sm (n+n) (fun k=>U (n+i) k*B k (n+j))=_;rw[oJ (j:=n+j) aa fun k hk hkj=>by
     show U (n+i) k*(if n+j<n then A k (n+j)else idm k (n+j))=0;rw[ai aa];unfold idm;rw[ai hkj,cJ]]
    show U (n+i) (n+j)*(if n+j<n then A (n+j) (n+j)else idm (n+j) (n+j))=_;rw[ai aa];unfold idm;rw[an rfl,pg]
 have hmul:=Ap (n:=n+n) U B;rw[hT,hB,hUε]at hmul;have hneg:∀i j,i<n->j<n->sm n (fun k=>U (n+i) k*A k j)= -1*mm n (fun a b=>U (n+a) (n+b)) (fun a b=>A (n+a) b) i j:=fun i j hi hj=>by
  have h:=h0 (n+i) j aa aa hj;have sp:∀(g:Nat->Int) (b:Nat),sm (n+b) g=sm n g+sm b fun k=>g (n+k):=fun g b=>by
   induction b with
   |zero=>show sm n g=_+0;omega
   |succ b ih=>
    show sm (n+b) g+g (n+b)=sm n g+(sm b (fun k=>g (n+k))+g (n+b));rw[ih];omega
  rw[sp]at h;show _= -1*sm n fun k=>U (n+i) (n+k)*A (n+k) j;omega
 obtain⟨η,hη,hM⟩:∃η:Int,η*η=1/\D n (fun i j=>sm n fun k=>U (n+i) k*A k j)=η*(D n (fun a b=>U (n+a) (n+b))*D n fun a b=>A (n+a) b):=by
  refine⟨dpr (fun _ _=> -1) n,?_,?_⟩
  ·have : ∀ n, dpr (fun _ _ => (-1 : Int)) n * dpr (fun _ _ => (-1 : Int)) n = 1 := fun n => by
    induction n with
    |zero=>rfl
    |succ n ih=>
     show(dpr (fun _ _=>(-1:Int)) n* -1)*(dpr (fun _ _=>(-1:Int)) n* -1)=1;rw[Int.mul_neg_one,Int.neg_mul_neg,ih]
   exact this n
  ·rw[<-Ap,<-sX,bJ n _ _ hneg]
 refine⟨ε*η,?_,?_⟩
 ·rw[show ε*η*(ε*η)=(ε*ε)*(η*η) by simp only[cW,ij,dJ],hε,hη];rfl
 ·rw [hM, show D n S * (η * (D n (fun a b => U (n + a) (n + b)) * D n fun a b => A (n + a) b)) = (D n S * D n fun a b => U (n + a) (n + b)) * (η * D n fun a b => A (n + a) b) by
   simp only[cW,ij,dJ],hmul]
  simp only[cW,ij,dJ]
end Mx
end
section
namespace Mx
def BdL(r X:Nat)(M:Mat):Prop:=∀i j,r<=i->(at' M i j).natAbs<=X
theorem BdL.mono{r X Y:Nat}{M:Mat}(h:BdL r X M)(hxy:X<=Y):BdL r Y M:=fun i j hi=>aA (h i j hi) hxy
theorem GA{r X:Nat}{M:Mat}(h:BdL r X M){j:Nat}(hi:r<M.length)(hj:j<M.length)(hr:r<=j):BdL r X (swp M r j):=fun k l hk=>by
 rw[dn hi hj];split
 ·exact h _ _ (af _)
 ·split
  ·exact h _ _ hr
  ·exact h _ _ hk
theorem Mu{n X Q:Nat}{r c:Nat}{M:Mat}(h:Rc n M)(hr:r<M.length)(hb:BdL r X M)(hq:∀i,r+1<=i->i<M.length->(at' M i c/at' M r c).natAbs<=Q){k:Nat}(hk:r+1+k<=M.length):BdL r (X*(Q+1)) (bp r c (r+1) M k):=fun i j hi=>by
 rw[kX h hr hk];have h1:=hb i j hi;have h2:X<=X*(Q+1):=gf X (Nat.succ_pos Q);split
 ·rename_i h3;have h4:=hq i h3.1 aa;have h5:=hb r j (af _);have h6:(at' M i c/at' M r c*at' M r j).natAbs<=Q*X:=by
   rw[eQ];exact cn h4 h5
  rw[bz]at h6;rw[iK,eW];omega
 ·omega
def Jl(K r c:Nat)(M:Mat):Prop:=∃X O i0,BdL r X M/\X<=K/\r<=i0/\i0<M.length/\(at' M i0 c).natAbs=O/\(∀i,r<=i->i<M.length->i≠i0->0<=at' M i c/\at' M i c<(O:Int))/\
 ∀t,(pick r c M).1=some t->(pick r c M).2≠1->X*O*O*(at' M t c).natAbs*(if at' M i0 c<0 then 3 else 1)<=K
def Jnl(K r c:Nat)(M:Mat):Prop:=(∃X,1<=X/\BdL r X M/\6*X^5<=K)\/Jl K r c M
theorem L4{K r c:Nat}{M:Mat}(h:Jnl K r c M):BdL r K M:=by
 rcases h with⟨X,h1,h2,h3⟩|⟨X,O,i0,h1,h2,_⟩
 ·exact h2.mono (by have:=G6 h1;omega)
 ·exact h1.mono h2
theorem xF{n K r c t X Q:Nat}{M:Mat}(h:Rc n M)(R:Round r c t M)(hb:BdL r X M)(hq:∀j,r<=j->j<M.length->j≠t->(at' M j c/at' M t c).natAbs<=Q)(hK:X*(Q+1)<=K)
  (hc:∀t',(pick r c (elim r c (swp M r t))).1=some t'->(pick r c (elim r c (swp M r t))).2≠1->X*(Q+1)*(at' M t c).natAbs*(at' M t c).natAbs*(at' (elim r c (swp M r t)) t' c).natAbs*(if at' M t c<0 then 3 else 1)<=K):
  (∀k,r+1+k<=M.length->BdL r K (bp r c (r+1) (swp M r t) k))/\Jl K r c (elim r c (swp M r t)):=by
 have hSl:(swp M r t).length=M.length:=eu _ _ _;have hr:=R.hr;have hSr:at' (swp M r t) r c=at' M t c:=by
  rw[dn R.hr R.ht];split
  ·rename_i e;rw[e]
  ·rw[an rfl]
 have key:∀k,r+1+k<=M.length->BdL r (X*(Q+1)) (bp r c (r+1) (swp M r t) k):=fun k hk=>
  Mu (mT h R.hr R.ht) aa (GA hb R.hr R.ht R.rt) (fun i h1 h2=>by
   obtain⟨j,j1,j2,j3,j4,_⟩:=R.tto i aa aa;rw[hSr,j4];exact hq j j1 j2 j3) aa
 refine⟨fun k hk=>(key k hk).mono hK,X*(Q+1),(at' M t c).natAbs,r,?_,hK,af _,?_,by rw[R.pr],fun i h1 h2 h3=>?_,fun t' h1 h2=>?_⟩
 ·unfold elim;exact key _ aa
 ·unfold elim;rw[ep,hSl];exact R.hr
 ·have hl:(elim r c (swp M r t)).length=M.length:=by unfold elim;rw[ep,hSl]
  obtain⟨j,_,_,_,_,j5⟩:=R.tto i aa aa;rw[j5];exact⟨rT _ R.ne,rS _ R.ne⟩
 ·rw[R.pr];exact hc t' h1 h2
theorem Ov{n K r c t:Nat}{M:Mat}(h:Rc n M)(hj:Jnl K r c M)(h1:(pick r c M).1=some t)(h2:(pick r c M).2≠1):
  (∀k,r+1+k<=M.length->BdL r K (bp r c (r+1) (swp M r t) k))/\Jnl K r c (elim r c (swp M r t)):=by
 have R:=xE h h1 h2;have hP:1<=(at' M t c).natAbs:=by have:=R.ne;omega
 have go:∀{A B:Prop},A/\Jl K r c (elim r c (swp M r t))->(A->B)->B/\Jnl K r c (elim r c (swp M r t)):=fun x f=>⟨f x.1, .inr x.2⟩;rcases hj with⟨X,x1,x2,x3⟩|⟨X,O,i0,x1,x2,x3,x4,x5,x6,x7⟩
 ·refine go (xF (X:=X) (Q:=X) h R x2 (fun j j1 j2 j3=>aA (mz _ _) (x2 j c j1)) ?_ fun t' k1 k2=>?_) id
  ·have h3:X*(X+1)<=X*(2*X):=cL X aa;have h4:X*X<=X^5:=by
    have:=cv x1 (show 2<=5 by omega);rw[Nat.pow_two]at this;exact this
   have h5:X*(2*X)=2*(X*X):=by rw[jD]
   omega
  ·have h3:=(pE h R k1 k2).1;have h4:=x2 t c R.rt;have h5:X*(X+1)<=2*(X*X):=by
    have:X*(X+1)<=X*(2*X):=cL X aa;rwa[jD]at this
   have h6:X*(X+1)*(at' M t c).natAbs*(at' M t c).natAbs*(at' (elim r c (swp M r t)) t' c).natAbs*(if at' M t c<0 then 3 else 1)<=2*(X*X)*X*X*X*3:=
    cn (cn (cn (cn h5 h4) h4) aa) (by split<;>omega)
   have h7:2*(X*X)*X*X*X*3=6*X^5:=by
    rw[pow5];simp only[cf,bz]
   omega
 ·have ht0 : t ≠ i0 := fun e => by
   obtain⟨i,i1,i2,i3,i4⟩:=R.other;have h3:=R.least i i1 i2 i4;have h4:=x6 i i1 i2 aa;rw[e]at h3;omega
  have h3:=x6 t R.rt R.ht ht0;have hk:=x7 t h1 h2;generalize hpe:at' M t c=p at*;generalize hae:at' M i0 c=a at*;have hp0:0<p:=by have:=R.ne;rw[hpe]at this;omega
  obtain⟨P,rfl⟩:∃P:Nat,p=P:=⟨p.natAbs,by omega⟩;rw[ed]at*;have hPO:P<O:=by omega
  have hO2:O<=O*O:=gf O aa;have hdiv:O/P*P<=O:=Cu O P;have hdv:O/P<=O:=rA O P;have hneg:¬(P:Int)<0:=by omega
  by_cases hs:a<0
  ·rw[an hs]at hk;have e3:X*O*O*P*3=3*(X*O*O*P):=bz _ _;refine go (xF (X:=X) (Q:=O/P+1) h R x1 (fun j j1 j2 j3=>?_) ?_ fun t' k1 k2=>?_) id
   ·rw[hpe];have h4:(at' M j c/(P:Int)).natAbs*P<=O+P:=by
     have h5:=Hq (x:=at' M j c) (p:=(P:Int)) hp0;rw[ed]at h5;by_cases e:j=i0
     ·rw[e,hae]at h5⊢;omega
     ·have:=x6 j j1 j2 e;omega
    have h5:(at' M j c/(P:Int)).natAbs<=(O+P)/P:=(oh aa).2 h4;rwa[Nat.add_div_right _ aa]at h5
   ·have h4 : X * (O / P + 1 + 1) <= X * (3 * (O * O * P)) := cL X (by
     have:O*O<=O*O*P:=gf _ aa;omega)
    have h5:X*(3*(O*O*P))=3*(X*O*O*P):=by
     simp only[cf,bz,jD]
    omega
   ·have h4:=(pE h R k1 k2).1;rw[hpe]at h4⊢;rw[ed]at h4⊢;rw[ai hneg,eW];generalize(at' (elim r c (swp M r t)) t' c).natAbs=P' at h4⊢;have h5:(O/P+1+1)*P<=3*O:=by rw[bV,bV];omega
    have h6:X*((O/P+1+1)*P)*P*P'<=X*(3*O)*P*O:=cn (cn (cL X h5) (af _)) aa;have h7:X*(3*O)*P*O=3*(X*O*O*P):=by
     simp only[cf,bz,jD]
    have h8:X*(O/P+1+1)*P*P*P'=X*((O/P+1+1)*P)*P*P':=by rw[cf X]
    omega
  ·rw[ai hs,eW]at hk;have haO:a=(O:Int):=by omega
   refine go (xF (X:=X) (Q:=O/P) h R x1 (fun j j1 j2 j3=>?_) ?_ fun t' k1 k2=>?_) id
   ·rw[hpe];have h4:(at' M j c/(P:Int)).natAbs*P<=O:=by
     by_cases e:j=i0
     ·rw[e,hae,haO];have h5:=div_pos (x:=(O:Int)) (p:=(P:Int)) aa hp0;rw[ed,ed]at h5;exact h5
     ·have h6:=x6 j j1 j2 e;have h5:=div_pos (x:=at' M j c) (p:=(P:Int)) h6.1 hp0;rw[ed]at h5;omega
    exact(oh aa).2 h4
   ·have h4 : X * (O / P + 1) <= X * (O * O * P) := cL X (by
     have h6:O*O<=O*O*P:=gf _ aa;have h7:2*O<=O*O:=dh O aa;omega)
    have h5:X*(O*O*P)=X*O*O*P:=by simp only[cf]
    omega
   ·obtain⟨h4,h5⟩:=pE h R k1 k2;obtain⟨m0,m1,m2,m3⟩:=R.fro i0 x3 x4 (Ne.symm ht0);have h6:=h5 m0 aa m2;rw[m3,hae,haO]at h6;rw[hpe]at h4 h6⊢;rw[ed]at h4⊢;rw[ai hneg,eW];generalize(at' (elim r c (swp M r t)) t' c).natAbs=P' at h4 h6⊢;have h7:2*P'<=O:=by
     have e1:((O:Int)%(P:Int))=((O%P:Nat):Int):=by simp
     rw[e1,ed]at h6;have e2:=lR O P;have e3:1<=O/P:=(oh aa).2 aa;have e4:=et O (show 0<P by omega);by_cases h0:O%P=0
     ·have e5 : 2 <= O / P := by
       apply dG;intro hlt;have:O/P=1:=by omega
       rw[this,h0]at e2;omega
      have e6:=cL P e5;omega
     ·have e5:=h6 aa;have e6:=cL P e3;omega
    have h8:(O/P+1)*P<=2*O:=by rw[bV];omega
    have h9:X*((O/P+1)*P)*P*P'<=X*(2*O)*P*P':=cn (cn (cL X h8) (af _)) (af _);have h10:X*(2*O)*P*P'=X*O*P*(2*P'):=by simp only[cf,bz,jD]
    have h11:X*O*P*(2*P')<=X*O*P*O:=cL _ h7;have h12:X*O*P*O=X*O*O*P:=yR _ _ _;have h13:X*(O/P+1)*P*P*P'=X*((O/P+1)*P)*P*P':=by rw[cf X]
    omega
theorem O5{n K r c:Nat}{M:Mat}(h:Rc n M)(hj:Jnl K r c M):BdL r K (dT r c M):=by
 refine uy (n:=n) (r:=r) (c:=c) (fun N=>Jnl K r c N) (fun N hN hq t ht h2=>(Ov hN hq ht h2).2) (fun N=>BdL r K N) (fun N _ hq _=>L4 hq) (fun N hN hq t ht h2=>?_) _ M rfl h hj;obtain⟨k1,k2,_⟩:=(gC c r N (N.length-r)).yes t ht;exact GA (L4 hq) aa aa k1
theorem NH{n r c X:Nat}{M:Mat}(h:Rc n M)(hX:1<=X)(hb:BdL r X M):BdL (step r c M).1 (6*X^5) (step r c M).2:=by
 have hc:BdL r (6*X^5) (dT r c M):=O5 h (.inl ⟨X,hX,hb,af _⟩);have hrc:=((qu (r:=r) (c:=c) h).1.re.rc h);unfold step;simp only[];split
 ·exact hc
 ·next h0=>
  intro i j hi;have hr:r<(dT r c M).length:=by
   apply tD;intro hle;exact h0 (oP hle)
  have hs:Rc n (di r c (dT r c M)):=(su hr).rc hrc;unfold kG;rw[kX hs (by rw[xA];exact hr) (by rw[xA];omega),ai aa];unfold di;split
  ·rw[ns _ _ _ _ _ hr,ai aa];exact hc i j aa
  ·exact hc i j aa
theorem exp6{e:Nat}(he:3<=e):6*(2^e)^5<=2^(e*6):=by
 rw[<-uT];refine aA (dh _ (show 6<=2^3 by decide)) ?_;rw[<-ff];exact cv aa aa
theorem GP{n:Nat}:∀(k c r e:Nat) (M:Mat),3<=e->Rc n M->BdL r (2^e) M->BdL (red k c (r,M)).1 (2^(e*6^k)) (red k c (r,M)).2
 |0,_,_,_,_,_,_,h=>by rw[oE,eW];exact h
 |k+1,c,r,e,M,he,hM,h=>by
  unfold red;split
  ·next hl=>
   have h1:=(NH (c:=c) hM (eC aa) h).mono (exp6 he);have hr2:Rc n (step r c M).2:=(sk (c:=c) hM hl).1.rc hM;have h2:=GP k (c+1) (step r c M).1 (e*6) (step r c M).2 aa hr2 h1;rw[show e*6*6^k=e*6^(k+1) by rw[eD,cf,bz 6]]at h2;exact h2
  ·exact h.mono (cv aa (gf e (eC aa)))
end Mx
end
section
namespace DW
theorem B7{m:Mx.Mat}{k:Nat}{q:Int}{a b:List Int}(h:∀j,(Mx.fE q a b).getD j 0=a.getD j 0+q*b.getD j 0):∀j,fC (Mx.fE q a b) m k j=fC a m k j+q*fC b m k j
 |0=>by simp[fC]
 |j+1=>by
  simp only[fC];rw[B7 h j,h j,og,Int.add_mul,cW];omega
theorem Fm{m:Mx.Mat}{k:Nat}{a:List Int}(h:∀j,(Mx.neg a).getD j 0= -a.getD j 0):∀j,fC (Mx.neg a) m k j= -fC a m k j
 |0=>by simp[fC]
 |j+1=>by
  simp only[fC];rw[Fm h j,h j,iL];omega
theorem vF{m:Mx.Mat}{k:Nat}{a b:List Int}(h:∀j,a.getD j 0=b.getD j 0):∀j,fC a m k j=fC b m k j
 |0=>rfl
 |j+1=>by
  simp only[fC];rw[vF h j,h j]
theorem Fl{m:Mx.Mat}{k n i:Nat}:∀j,j<=n->fC (fV n i) m k j=if i<j then Mx.at' m i k else 0
 |0,_=>rfl
 |j+1,h=>by
  have e:(fV n i).getD j 0=if i=j then 1 else 0:=by
   unfold fV;rw[ay,List.getElem?_set];by_cases hij:i=j
   ·subst hij;rw[an rfl,an rfl,tE,an aa];rfl
   ·simp only[ai hij];rw[mK];split<;>rfl
  simp only[fC];rw[Fl j aa,e];by_cases h1:i=j
  ·subst h1;simp
  ·rw[ai h1];by_cases h2:i<j
   ·rw[an h2,an aa];simp
   ·rw[ai h2,ai aa];simp
theorem jU(a:List Int)(j:Nat):(Mx.neg a).getD j 0= -a.getD j 0:=by
 unfold Mx.neg;rw[ay,ay,bO];cases a[j]?<;>simp
theorem sQ(a:List Int)(n j:Nat):(a.drop n).getD j 0=a.getD (n+j) 0:=by
 rw[ay,ay,eV]
def RLin(m:Mx.Mat)(W:Nat)(a:List Int):Prop:=∀k,k<W->fC (a.drop W) m k m.length=a.getD k 0
theorem Uz{m:Mx.Mat}(h:Mx.Rc (wid m) m):∀i,i<m.length->RLin m (wid m) (Mx.rw (HT m).2 i):=by
 have hl:=F4 h;intro i hi;refine(Mx.dz (wid m) 0 (0,cH m) (gD h)).lin (n:=wid m+m.length) (RLin m (wid m)) (fun a b q ha hb h1 h2 k hk=>?_) (fun a h1 k hk=>?_) (gD h) (fun i hi k hk=>?_) i (by
  have:(Mx.red (wid m) 0 (0,cH m)).2.length=m.length:=hl;rw[this];exact hi)
 ·have hab:∀j,(Mx.fE q a b).getD j 0=a.getD j 0+q*b.getD j 0:=fun j=>Mx.lz q a b j (ha.trans hb.symm);have hd:∀j,(Mx.fE q (a.drop (wid m)) (b.drop (wid m))).getD j 0=(a.drop (wid m)).getD j 0+q*(b.drop (wid m)).getD j 0:=fun j=>Mx.lz q _ _ j (by rw[dY,dY,ha,hb]);rw[hab,<-h1 k hk,<-h2 k hk,<-B7 hd];exact vF (fun j=>by rw[sQ,hab,hd,sQ,sQ]) _
 ·rw[jU,<-h1 k hk,<-Fm (jU _)];exact vF (fun j=>by rw[sQ,jU,jU,sQ]) _
 ·rw[jK]at hi;have e:Mx.rw (cH m) i=Mx.rw m i++fV m.length i:=Mx.dR (qk hi);have hrl:(Mx.rw m i).length=wid m:=h.rw hi;rw[e,<-hrl,List.drop_left,Fl _ (af _),an hi,ay,dQ aa];unfold Mx.at';rw[ay]
theorem Uy{m:Mx.Mat}(h:Mx.Rc (wid m) m):tim (fK m) m (wid m)=CQ m:=by
 have hl:=F4 h;have hrc:=HT_rc h;unfold tim fK CQ dp tk;rw[List.map_map];refine lD fun a ha=>?_;obtain⟨i,hi,e⟩:=lS ha;have hlin:=Uz h i aa;have hrw:Mx.rw (HT m).2 i=a:=Mx.dR (by rw[aZ hi,e]);rw[hrw]at hlin;have hal:a.length=wid m+m.length:=hrc a ha;show jj m (wid m) (a.drop (wid m))=a.take (wid m);refine oC fun k=>?_;unfold jj;rw[bO];by_cases hk:k<wid m
 ·rw[jg hk,ja hk];simp only[ct];rw[hlin k hk,ay,aZ aa];rfl
 ·rw[gy cX,gy uK];rfl
end DW
end
section
namespace Mx
theorem NJ(n:Nat)(g:Nat->Int):∀b,sm (n+b) g=sm n g+sm b fun k=>g (n+k)
 |0=>by show sm n g=_+0;omega
 |b+1=>by
  show sm (n+b) g+g (n+b)=sm n g+(sm b (fun k=>g (n+k))+g (n+b));rw[NJ n g b];omega
theorem uC{P Q:Mat}{i:Nat}(h:i<P.length)(j:Nat):at' (P++Q) i j=at' P i j:=by
 unfold at' rw;rw[show List.getD (P++Q) i []=List.getD P i [] by rw[ay,ay,dQ h]]
theorem FO(P Q:Mat)(i j:Nat):at' (P++Q) (P.length+i) j=at' Q i j:=by
 unfold at';rw[NS]
def mtT(n:Nat)(P A:Mat):Mat:=((fK A).drop (HT A).1).map fun c=>DW.jj P n (c.take P.length)
structure Two(n:Nat)(P Q:Mat):Prop where
 n0:0<n
 pl:P.length=n
 ql:Q.length=n
 pr:Rc n P
 qr:Rc n Q
 pd:D n (at' P)≠0
 qd:D n (at' Q)≠0
section
variable {n : Nat} {P Q : Mat} (h : Two n P Q)
include h
theorem Two.al:(P++Q).length=n+n:=by rw[cI,h.pl,h.ql]
theorem Two.ar:Rc n (P++Q):=fun r hr=>by
 rcases gA.1 hr with hr|hr
 ·exact h.pr r hr
 ·exact h.qr r hr
theorem Two.aw:wid (P++Q)=n:=by
 have:=h.n0;obtain⟨l,h1,h2⟩:=DW.Rf (m:=P++Q) (by rw[h.al];omega);rw[<-h2];exact h.ar l (bG h1)
theorem Two.arw:Rc (wid (P++Q)) (P++Q):=by rw[h.aw];exact h.ar
theorem Two.herm:CQ (P++Q)=(red n 0 (0,P++Q)).2/\(HT (P++Q)).1=(red n 0 (0,P++Q)).1:=by
 have:=RQ h.arw;rw[h.aw]at this;rw[this];exact⟨rfl,rfl⟩
theorem Two.hz:∀i,(red n 0 (0,P++Q)).1<=i->∀j,at' (red n 0 (0,P++Q)).2 i j=0:=fun i hi j=>by
 obtain⟨pv,he⟩:=lp n 0 (0,P++Q) id h.ar (jv _);rw[bu]at he;by_cases hj:j<n
 ·exact he.zb i hi j hj
 ·exact wO ((dz n 0 (0,P++Q) h.ar).rc h.ar) aa
theorem Two.comb:∃V:Nat->Nat->Int,∀i j,i<n->at' P i j=sm n fun k=>V i k*at' (red n 0 (0,P++Q)).2 k j:=by
 have hsp:=(dz n 0 (0,P++Q) h.ar).sp h.ar;have hlen:=(dz n 0 (0,P++Q) h.ar).len;have hle:=vm h.ar;have hz:=h.hz;have hV:∀i,∃f:Nat->Int,∀j,i<n->at' P i j=sm n fun k=>f k*at' (red n 0 (0,P++Q)).2 k j:=fun i=>by
  obtain⟨f,hf⟩:=hsp.2 (at' (P++Q) i) (SP.row _ i);refine⟨f,fun j hi=>?_⟩;have h1:=hf j;have hal:=h.al;rw[uC (by rw[h.pl];exact hi),zQ,hlen]at h1;rw[h1];show sm (P++Q).length _=_;rw[hal,AX _ n n fun k h1 _=>by rw[hz k aa,cJ]]
 exact⟨fun i=>Classical.choose (hV i),fun i j hi=>yH (hV i) j hi⟩
theorem Two.rank:(red n 0 (0,P++Q)).1=n/\D n (at' (red n 0 (0,P++Q)).2)≠0:=by
 obtain⟨V,hV⟩:=h.comb;have h1:D n (at' P)=D n V*D n (at' (red n 0 (0,P++Q)).2):=by
  rw[<-Ap];exact bJ n _ _ fun i j hi _=>hV i j hi
 have hne:D n (at' (red n 0 (0,P++Q)).2)≠0:=fun e=>h.pd (by rw[h1,e,cJ]);refine⟨?_,hne⟩;have hle:=vm h.ar;by_cases hlt:(red n 0 (0,P++Q)).1<n
 ·exact absurd (F5 hlt _ fun l _=>h.hz _ (af _) l) hne
 ·omega
theorem Two.JK:(HT (P++Q)).1=n:=h.herm.2.trans h.rank.1
theorem Two.nh:nH n (P++Q)=(red n 0 (0,P++Q)).2.take n:=by
 unfold nH;rw[h.rank.1]
theorem Two.nhl:(nH n (P++Q)).length=n:=by
 rw[h.nh,bf,(dz n 0 (0,P++Q) h.ar).len];show min n (P++Q).length=n;rw[h.al];omega
theorem Two.ul:(fK (P++Q)).length=n+n:=by rw[UA h.arw,h.al]
theorem Two.tl:(mtT n P (P++Q)).length=n:=by
 unfold mtT;rw[bI,dY,h.ul,h.JK];omega
theorem Two.tr:Rc n (mtT n P (P++Q)):=fun r hr=>by
 have:=h.n0;obtain⟨c,_,rfl⟩:=dE.1 hr;exact DW.Nu _ _ _
theorem Two.tat{i j:Nat}(hi:i<n)(hj:j<n):at' (mtT n P (P++Q)) i j=sm n fun k=>at' (fK (P++Q)) (n+i) k*at' P k j:=by
 have hul:=h.ul;have h1:(mtT n P (P++Q))[i]?=some (DW.jj P n ((rw (fK (P++Q)) (n+i)).take P.length)):=by
  unfold mtT;rw[h.JK,bO,eV];unfold rw;rw[ay,aZ aa];rfl
 have h2:(DW.jj P n ((rw (fK (P++Q)) (n+i)).take P.length))[j]?=some (DW.fC ((rw (fK (P++Q)) (n+i)).take P.length) P j P.length):=by
  unfold DW.jj;rw[bO,jg hj];rfl
 conv=>lhs;unfold at'
 rw[dR h1,ay,h2];show DW.fC _ P j P.length=_;rw[Bl,h.pl];refine cA _ _ _ fun k hk=>?_;rw[ay,ja hk,<-ay];rfl
theorem Two.uat(i j:Nat)(hi:i<n+n)(hj:j<n):sm (n+n) (fun k=>at' (fK (P++Q)) i k*at' (P++Q) k j)=at' (red n 0 (0,P++Q)).2 i j:=by
 have h1:=DW.Uy h.arw;rw[h.aw,h.herm.1]at h1;rw[<-h1,Tr (by rw[h.ul];exact hi) hj,h.al]
theorem Two.det:∃ε:Int,ε*ε=1/\D n (at' (nH n (P++Q)))*D n (at' (mtT n P (P++Q)))=ε*(D n (at' P)*D n (at' Q)):=by
 have hU:=Na h.arw;rw[h.al]at hU;obtain⟨ε,h1,h2⟩:=KP (n:=n) (A:=at' (P++Q)) (U:=at' (fK (P++Q))) (S:=at' (red n 0 (0,P++Q)).2) hU (fun i j hi hj=>h.uat i j aa hj) (fun i j h1 h2 h3=>by rw[h.uat i j h2 h3];exact h.hz i (by rw[h.rank.1];exact h1) j);refine⟨ε,h1,?_⟩;have e1:D n (at' (nH n (P++Q)))=D n (at' (red n 0 (0,P++Q)).2):=bJ n _ _ fun i j hi _=>by rw[h.nh];exact nr hi
 have e2:D n (at' (mtT n P (P++Q)))=D n fun i j=>sm n fun k=>at' (fK (P++Q)) (n+i) k*at' (P++Q) k j:=bJ n _ _ fun i j hi hj=>by
  rw[h.tat hi hj];exact cA _ _ _ fun k hk=>by rw[uC (by rw[h.pl];exact hk)]
 have e3:D n (at' P)=D n (at' (P++Q)):=bJ n _ _ fun i j hi _=>(uC (by rw[h.pl];exact hi) j).symm;have e4:D n (at' Q)=D n fun i j=>at' (P++Q) (n+i) j:=bJ n _ _ fun i j _ _=>by
  have:=FO P Q i j;rw[h.pl]at this;exact this.symm
 rw[e1,e2,e3,e4];exact h2
end
theorem nT{n:Nat}{R:Mat}(hR:Rc n R)(hl:R.length=n)(hN:nH n R=R):D n (at' R)=dpr (at' R) n/\1<=D n (at' R):=by
 obtain⟨pv,he⟩:=lp n 0 (0,R) id hR (jv R);rw[bu]at he;have hlen:=(dz n 0 (0,R) hR).len;have hr:(red n 0 (0,R)).1=n:=by
  have h1:=iq List.length hN;unfold nH at h1;rw[bf]at h1;have:=he.le;omega
 have hX:(red n 0 (0,R)).2=R:=by
  have h2:(red n 0 (0,R)).2.take (red n 0 (0,R)).1=R:=hN;rw[hr,cw (by rw[hlen];show R.length<=n;omega)]at h2;exact h2
 rw[hr,hX]at he;have lo:∀i,i<n->i<=pv i:=fun i=>by
  induction i with
  |zero=>intro _;omega
  |succ i ih=>
   intro hi;have h1:=ih aa;have h2:=he.mono i (i+1) aa hi;omega
 have hz:∀i j,j<i->i<n->at' R i j=0:=fun i j hj hi=>he.zl i hi j (by have:=lo i hi;omega);have hne:=OH hR hl hN;refine⟨wR n _ hz,?_⟩;have h:=CR n (at' R) hz fun i hi=>by
  have hp:=he.pos i hi;by_cases e:pv i=i
  ·rw[e]at hp;omega
  ·exfalso;refine hne ?_;rw[wR n _ hz];have h0:at' R i i=0:=he.zl i hi i (by have:=lo i hi;omega);have:∀m,i<m->dpr (at' R) m=0:=fun m=>by
    induction m with
    |zero=>intro h;omega
    |succ m ih=>
     intro hm;show dpr (at' R) m*at' R m m=0;by_cases e:i=m
     ·rw[<-e,h0,cJ]
     ·rw[ih aa,lE]
   exact this n hi
 exact h.1
theorem my{x:Int}(hx:1<=x):∀n,1<=dpr (fun _ _=>x) n
 |0=>rV _
 |n+1=>by
  have:=ig (my hx n) hx aa (by have:=my hx n;omega);show 1<=dpr _ n*x;omega
theorem Hp(x y:Int):∀n,dpr (fun _ _=>x*y) n=dpr (fun _ _=>x) n*dpr (fun _ _=>y) n
 |0=>rfl
 |n+1=>by
  show dpr _ n*(x*y)=dpr _ n*x*(dpr _ n*y);rw[Hp x y n];simp only[cW,ij,dJ]
theorem Ob{n:Nat}{M:Mat}{e:Int}(hM:Rc n M)(hl:M.length=n)(hD:D n (at' M)≠0)(he:0<e):
  (nR n M e).length=n/\1<=D n (at' (nR n M e))/\D n (at' (nH n M))=dpr (fun _ _=>nG n M e) n*D n (at' (nR n M e))/\(D n (at' (nH n M))=D n (at' M)\/D n (at' (nH n M))= -D n (at' M)):=by
 have h1:=OX hM hl hD;have hre:=dz n 0 (0,M) hM;have hHl:(nH n M).length=n:=by rw[h1,hre.len,hl]
 have hRl:(nR n M e).length=n:=by unfold nR;rw[cB,hHl]
 obtain⟨k1,k2,k3,k4,k5,k6⟩:=eE hM he;refine⟨hRl,(nT k4 hRl k1).2,?_,?_⟩
 ·rw[<-sX];have hb:mapM (fun x=>nG n M e*x) (nR n M e)=nH n M:=vw (jW (nH n M) e).2;exact bJ n _ _ fun i j _ _=>by
   conv=>lhs;rw[<-hb]
   exact jo _ (cJ _) _ _ _
 ·have h2:=RE.det 0 hre hM;have e:∀M:Mat,rb 0 M=at' M:=fun M=>by funext i j;exact QL M i j
  rw[hl,e,e]at h2;rw[h1];exact h2
theorem Ma{n:Nat}(hn:0<n){Ra Rb:Mat}{da db:Int}(hal:Ra.length=n)(har:Rc n Ra)(haN:nH n Ra=Ra)(hda:0<da)(hbl:Rb.length=n)(hbr:Rc n Rb)(hbN:nH n Rb=Rb)(hdb:0<db){P Q:Mat}(hP:P=mapM (fun x=>db*x) Ra)(hQ:Q=mapM (fun x=>da*x) Rb):
  Two n P Q/\(nR n (P++Q) (da*db)).length=n/\(nR n (mtT n P (P++Q)) (da*db)).length=n/\D n (at' (mtT n P (P++Q)))≠0/\∃k:Int,1<=k/\
   dpr (at' (nR n (mtT n P (P++Q)) (da*db))) n*dpr (fun _ _=>da) n=k*(dpr (at' Ra) n*dpr (fun _ _=>da*db/nG n (mtT n P (P++Q)) (da*db)) n)/\
   dpr (at' Rb) n*dpr (fun _ _=>da*db/nG n (P++Q) (da*db)) n=k*(dpr (at' (nR n (P++Q) (da*db))) n*dpr (fun _ _=>db) n):=by
 obtain⟨hDa,hDa1⟩:=nT har hal haN;obtain⟨hDb,hDb1⟩:=nT hbr hbl hbN;have he:0<da*db:=Int.mul_pos hda hdb;have xa:=my (show 1<=da by omega) n;have xb:=my (show 1<=db by omega) n;have ePd:D n (at' P)=dpr (fun _ _=>db) n*D n (at' Ra):=by
  rw[<-sX,hP];exact bJ n _ _ fun i j _ _=>jo _ (cJ _) _ _ _
 have eQd:D n (at' Q)=dpr (fun _ _=>da) n*D n (at' Rb):=by
  rw[<-sX,hQ];exact bJ n _ _ fun i j _ _=>jo _ (cJ _) _ _ _
 have hT:Two n P Q:=⟨hn,by rw[hP,cB,hal],by rw[hQ,cB,hbl],by rw[hP];exact sJ har,by rw[hQ];exact sJ hbr,by rw[ePd];exact yG aa aa,by rw[eQd];exact yG aa aa⟩;obtain⟨ε,hε,hdet⟩:=hT.det;have hε0:ε≠0:=fun e=>by rw[e]at hε;simp at hε
 have hpq:D n (at' P)*D n (at' Q)≠0:=yG hT.pd hT.qd;have hTd:D n (at' (mtT n P (P++Q)))≠0:=fun e=>by
  rw[e,cJ]at hdet;exact yG hε0 hpq hdet.symm
 obtain⟨ml,m1,m2,m3⟩:=Ob hT.tr hT.tl hTd he;obtain⟨k1,k2,k3,k4,k5,k6⟩:=eE hT.ar he;have sl:(nR n (P++Q) (da*db)).length=n:=by unfold nR;rw[cB,hT.nhl]
 obtain⟨hs1,hs2⟩:=nT k4 sl k1;obtain⟨j1,j2,j3,j4,j5,j6⟩:=eE hT.tr he;obtain⟨hm1,hm2⟩:=nT j4 ml j1;have s2:D n (at' (nH n (P++Q)))=dpr (fun _ _=>nG n (P++Q) (da*db)) n*D n (at' (nR n (P++Q) (da*db))):=by
  rw[<-sX];have hb:mapM (fun x=>nG n (P++Q) (da*db)*x) (nR n (P++Q) (da*db))=nH n (P++Q):=vw (jW (nH n (P++Q)) (da*db)).2;exact bJ n _ _ fun i j _ _=>by
   conv=>lhs;rw[<-hb]
   exact jo _ (cJ _) _ _ _
 obtain⟨c,hc⟩:∃c,D n (at' (mtT n P (P++Q)))=c*D n (at' P):=by
  refine⟨D n fun i j=>at' (fK (P++Q)) (n+i) j,?_⟩;rw[<-Ap];exact bJ n _ _ fun i j hi hj=>hT.tat hi hj
 have gs:=my (show 1<=nG n (P++Q) (da*db) by omega) n;have gm:=my (show 1<=nG n (mtT n P (P++Q)) (da*db) by omega) n;have es:nG n (P++Q) (da*db)*(da*db/nG n (P++Q) (da*db))=da*db:=rK (jW (nH n (P++Q)) (da*db)).1;have em:nG n (mtT n P (P++Q)) (da*db)*(da*db/nG n (mtT n P (P++Q)) (da*db))=da*db:=rK (jW (nH n (mtT n P (P++Q))) (da*db)).1;have es2:=iq (fun x:Int=>dpr (fun _ _=>x) n) es;have em2:=iq (fun x:Int=>dpr (fun _ _=>x) n) em;simp only[Hp]at es2 em2;rw[<-hDa,<-hDb,<-hs1,<-hm1];generalize dpr (fun _ _=>nG n (P++Q) (da*db)) n=Gs at*;generalize dpr (fun _ _=>nG n (mtT n P (P++Q)) (da*db)) n=Gm at*;generalize dpr (fun _ _=>da*db/nG n (P++Q) (da*db)) n=ds at*;generalize dpr (fun _ _=>da*db/nG n (mtT n P (P++Q)) (da*db)) n=dm at*;generalize dpr (fun _ _=>da) n=A at*;generalize dpr (fun _ _=>db) n=B at*;generalize D n (at' (nR n (P++Q) (da*db)))=Ds at*;generalize D n (at' (nR n (mtT n P (P++Q)) (da*db)))=Dm at*;generalize D n (at' (nH n (P++Q)))=Hs at*;generalize D n (at' (nH n (mtT n P (P++Q))))=Hm at*;generalize D n (at' (mtT n P (P++Q)))=Tm at*;rw[ePd]at hc hdet;rw[eQd]at hdet;generalize D n (at' Ra)=Da at*;generalize D n (at' Rb)=Db at*;obtain⟨k,hk,hHm⟩:∃k:Int,1<=k/\Hm=k*(B*Da):=by
  have hp:1<=B*Da:=by have:=ig xb hDa1 aa aa;omega
  have hHp:1<=Hm:=by rw[m2];have:=ig gm m1 aa aa;omega
  rcases m3 with m3|m3
  ·refine⟨c,?_,by rw[m3,hc]⟩;apply Int.lt_of_mul_lt_mul_right (a:=B*Da) (b:=0) (c:=c) _ aa;rw[lE,<-hc,<-m3];omega
  ·refine⟨-c,?_,by rw[m3,hc,iL]⟩;have:0< -c:=by
    apply Int.lt_of_mul_lt_mul_right (a:=B*Da) (b:=0) (c:=-c) _ aa;rw[lE,iL,<-hc,<-m3];omega
   omega
 have hprod:Hs*Hm=B*Da*(A*Db):=by
  have hHs:1<=Hs:=by rw[s2];have:=ig gs hs2 aa aa;omega
  have hHp:1<=Hm:=by rw[m2];have:=ig gm m1 aa aa;omega
  have hp:1<=B*Da:=by have:=ig xb hDa1 aa aa;omega
  have hq:1<=A*Db:=by have:=ig xa hDb1 aa aa;omega
  have hpos:1<=Hs*Hm:=by have:=ig hHs hHp aa aa;omega
  have hpos2:1<=B*Da*(A*Db):=by have:=ig hp hq aa aa;omega
  have hε2:ε=1\/ε= -1:=by
   have h1:(ε-1)*(ε+1)=0:=by rw[Int.sub_mul,og,hε];omega
   rcases uV.1 h1 with h1|h1<;>omega
  have hor:Hs*Hm=B*Da*(A*Db)\/Hs*Hm= -(B*Da*(A*Db)):=by
   rcases m3 with m3|m3<;>rcases hε2 with rfl|rfl
   ·exact .inl (by rw[m3,hdet,fi])
   ·exact .inr (by rw[m3,hdet,iL,fi])
   ·exact .inr (by rw[m3,Int.mul_neg,hdet,fi])
   ·exact .inl (by rw[m3,Int.mul_neg,hdet,iL,fi,Int.neg_neg])
  omega
 refine⟨hT,sl,ml,hTd,k,hk,?_,?_⟩
 ·refine C9 (a:=Gm) aa ?_;have:Gm*(Dm*A)=Hm*A:=by rw[m2,cW]
  rw[this,hHm,show Gm*(k*(Da*dm))=k*(Da*(Gm*dm)) by simp only[cW,ij,dJ],em2];simp only[cW,ij,dJ]
 ·refine C9 (a:=Gs) aa ?_;rw[show Gs*(Db*ds)=Db*(Gs*ds) by simp only[ij],es2,show Gs*(k*(Ds*B))=k*((Gs*Ds)*B) by simp only[cW,ij,dJ],<-s2];refine C9 (a:=B*Da) (by
   have:=ig xb hDa1 aa aa;omega) ?_
  have h1:B*Da*(k*(Hs*B))=Hs*Hm*B:=by rw[hHm];simp only[cW,ij,dJ]
  rw[h1,hprod];simp only[cW,ij,dJ]
end Mx
end
section
open Go.RowKit Go.BigFrame
attribute [local go_sem ↓] Go.wp_at_zero Go.wp_at_succ
theorem EV(a b c d:Int)(w:World):(binOp .eql 73 (.agg #[.int .i64 a,.int .i64 b]) (.agg #[.int .i64 c,.int .i64 d])).run Tryz.prog w= .ok (.bool (decide (a=c)&&decide (b=d))) w:=by
 have hu:Tryz.prog.underlying 73=some (.struct (Tryz.prog.fieldsOf 73)):=by kernel_rfl
 have hp:Tryz.prog.stoodInHeld 73=false:=by kernel_rfl
 have hf : (Tryz.prog.fieldsOf 73).toList.map (fun f => (f.type, f.offset, decide (f.name = "_"))) = [(3, 0, false), (3, 1, false)] := by kernel_rfl
 rw[run_eql_struct,run_equalIn_agg w 9999 _ _ _ hu hp];obtain⟨f1,f2,hl⟩:∃f1 f2,(Tryz.prog.fieldsOf 73).toList=[f1,f2]:=by
  have:=iq List.length hf;simp only[bI,ir,ic]at this
  match hh:(Tryz.prog.fieldsOf 73).toList,this with
  |[f1,f2],_=>exact⟨f1,f2,rfl⟩
 rw[hl]at hf⊢;simp only[eM,iH,List.cons.injEq,aJ,bU,and_true]at hf;obtain⟨⟨t1,o1,n1⟩,t2,o2,n2⟩:=hf;have hi:Tryz.prog.underlying 3=some (.int .i64):=by kernel_rfl
 have hs:Tryz.prog.info? 3≠none:=by
  have:(Tryz.prog.info? 3).isSome=true:=by kernel_rfl
  intro e;rw[e]at this;cases this
 simp only[Op.eqFields,ne_eq,n1,n2,not_false_eq_true,if_true,t1,t2,o1,o2];have hsz:(Tryz.prog.info? 3).map (·.size)=some 1:=by kernel_rfl
 have e1:=fun (w:World) (x y:Int)=>run_equalIn_int (P:=Tryz.prog) w 9998 3 .i64 .i64 x y hi;have hA:∀(x:Int) (w:World),(isAgg 3).run Tryz.prog w= .ok false w:=fun _ w=>by simp[isAgg,run_underlying hi]
 have p0:∀(x y:Int) (w:World),(Go.part 3 #[.int .i64 x,.int .i64 y] 0).run Tryz.prog w= .ok (.int .i64 x) w:=fun x y w=>by simp[Go.part,hA x]
 have p1:∀(x y:Int) (w:World),(Go.part 3 #[.int .i64 x,.int .i64 y] 1).run Tryz.prog w= .ok (.int .i64 y) w:=fun x y w=>by simp[Go.part,hA x]
 simp only[Sem.run_bind,p0,p1,e1,Result.andThen_ok];by_cases h1:a=c<;>by_cases h2:b=d<;>simp[h1,h2,p0,p1,e1,Op.eqFields]
end
end Go.Proofs.YtcgjmdpcplhanaaGreat
