/- Lemmas for the law: E18 E22 E19 -/
import Derived.Test.YtcgjmdpcplhanaaGreatZt9
namespace Go.Proofs.YtcgjmdpcplhanaaGreat
section
theorem C7{p q:Prop}(h:q)(f:Wq q->p:=by(intro hW;((refine nT (k:=3) (z:=(.agg #[.bool false,.slice none 0 0])) (d:=(.nm 0)) rfl rfl rfl rfl rfl ae aa aa dK aa aa cM ?_));exact hW.out)):p:=f ⟨h⟩
theorem zs116{p q:Prop}(h:q)(f:Wq q->p:=by(intro hW;((first|(apply ah 10;(focus kernel_rfl);(decide+kernel))|(apply ah 9;(focus kernel_rfl);(decide+kernel))|(apply ah 8;(focus kernel_rfl);(decide+kernel))|(apply ah 7;(focus kernel_rfl);(decide+kernel))|(apply ah 6;(focus kernel_rfl);(decide+kernel))|(apply ah 5;(focus kernel_rfl);(decide+kernel))|(apply ah 4;(focus kernel_rfl);(decide+kernel))|(apply ah 3;(focus kernel_rfl);(decide+kernel)));simp only[List.take_succ_cons,List.take_zero,List.drop_succ_cons,List.drop_zero]);exact hW.out)):p:=f ⟨h⟩
theorem Cu{p q:Prop}(h:q)(f:Wq q->p:=by(intro hW;((refine zs116 ?_;refine wT ?_;refine bR ?_;refine aZ ?_;refine fY ?_;refine bR ?_;refine wT ?_;refine bR ?_;refine aZ ?_;refine fY ?_;refine bR ?_;refine wR ?_;refine eA ?_));exact hW.out)):p:=f ⟨h⟩
theorem xd{p q:Prop}(h:q)(f:Wq q->p:=by(intro hW;((refine gar ?_;refine zs4 ?_;refine zs80 ?_;refine wQ ?_;refine zs4 ?_;refine zs70 ?_;refine wQ ?_;refine cw ?_;refine mA ?_;refine af ?_));exact hW.out)):p:=f ⟨h⟩
theorem wZ{p q:Prop}(h:q)(f:Wq q->p:=by(intro hW;((refine gar ?_;refine gQ ?_;refine gQ ?_;refine zs52 ?_;refine af ?_));exact hW.out)):p:=f ⟨h⟩
theorem zs112{p q:Prop}(h:q)(f:Wq q->p:=by(intro hW;((first|refine aN1 rfl rfl rfl mC ?_|refine jG rfl rfl rfl mC ?_));exact hW.out)):p:=f ⟨h⟩
theorem zs110{p q:Prop}(h:q)(f:Wq q->p:=by(intro hW;((first|refine aN1 rfl rfl rfl zb3 ?_|refine rX rfl rfl rfl rfl bu bu aR ae ae (by first|omega|(simp;omega)) zb67 ?_|refine jG rfl rfl rfl zb3 ?_));exact hW.out)):p:=f ⟨h⟩
theorem C6{p q:Prop}(h:q)(f:Wq q->p:=by(intro hW;((first|refine aN1 rfl rfl rfl zb0 ?_|refine jG rfl rfl rfl zb0 ?_));exact hW.out)):p:=f ⟨h⟩
theorem zb23{p:Prop}(h:p:=by(apply rO;(exact rfl);(focus((apply ak;(conv=>lhs;whnf);(first|done|exact rfl))));(exact bq);(focus((apply ak;(conv=>lhs;whnf);(first|done|exact rfl))));(exact rfl);(exact rfl);(exact rfl);(assumption);(exact rfl))):p:=h
theorem zs111{p q:Prop}(h:q)(f:Wq q->p:=by(intro hW;((first|refine aN1 rfl rfl rfl zb23 ?_|refine jG rfl rfl rfl zb23 ?_));exact hW.out)):p:=f ⟨h⟩
theorem zs113{p q:Prop}(h:q)(f:Wq q->p:=by(intro hW;((refine kT (k:=5) (z:=(.agg #[.bool false,.slice none 0 0])) (d:=(.nm 0)) rfl rfl rfl rfl rfl ae aa aa dK aa aa ?_));exact hW.out)):p:=f ⟨h⟩
theorem zs107{p q:Prop}(h:q)(f:Wq q->p:=by(intro hW;(refine qx [5] ae (by(apply lO;(exact mU);(focus((repeat(first|exact lL|(apply jP;(exact rfl))|(apply lM;(exact rfl)))))))) ?_);exact hW.out)):p:=f ⟨h⟩
theorem zs108{p q:Prop}(h:q)(f:Wq q->p:=by(intro hW;((first|refine aN1 rfl rfl rfl zb8 ?_|refine rX rfl rfl rfl rfl bu (by exact bq) aR ae ae (by first|omega|(simp;omega)) zb67 ?_|refine jG rfl rfl rfl zb8 ?_));exact hW.out)):p:=f ⟨h⟩
theorem Cv{p q:Prop}(h:q)(f:Wq q->p:=by(intro hW;((refine zs107 ?_;refine cG ?_;refine zs108 ?_;refine C6 ?_;refine cG ?_;refine zs110 ?_;refine C6 ?_;refine cG ?_;refine cG ?_;refine zs111 ?_;refine zs112 ?_;refine zs89 ?_;refine zs113 ?_;refine tD ?_;(refine qA ae ?_)));exact hW.out)):p:=f ⟨h⟩
theorem C4{p q:Prop}(h:q)(f:Wq q->p:=by(intro hW;((first|(refine aLs rfl rfl rfl rfl ?_ ?_;(focus(apply aQ;(conv=>lhs;whnf);(first|done|exact rfl|(apply aI;(first|(apply decide_eq_true;omega)|(apply decide_eq_false;omega)|assumption|(simp;done)))))))|refine aLw rfl rfl rfl rfl bI xE ?_));exact hW.out)):p:=f ⟨h⟩
theorem C5{p q:Prop}(h:q)(f:Wq q->p:=by(intro hW;((first|(refine aLs rfl rfl rfl rfl ?_ ?_;(focus(apply aQ;(conv=>lhs;whnf);(first|done|exact rfl|(apply aI;(first|(apply decide_eq_true;omega)|(apply decide_eq_false;omega)|assumption|(simp;done)))))))|refine aLw rfl rfl rfl rfl bI xD ?_));exact hW.out)):p:=f ⟨h⟩
theorem wY{p q:Prop}(h:q)(f:Wq q->p:=by(intro hW;((refine gar ?_;refine mz ?_;refine bs ?_;refine mz ?_;refine bs ?_;refine mu ?_;refine zs4 ?_;refine C5 ?_;refine lj ?_;refine kZ ?_;refine C5 ?_;refine lj ?_;refine kZ ?_;refine C4 ?_;refine kY ?_;refine af ?_));exact hW.out)):p:=f ⟨h⟩
theorem zb31{p:Prop}(h:p:=by(apply(Cg (z:=(.agg #[.bool false,.slice none 0 0])) (d:=(.nm 0)));(exact rfl);(kernel_rfl);(exact rfl);(exact rfl);(exact rfl))):p:=h
theorem xt{p q:Prop}(h:q)(f:Wq q->p:=by(intro hW;(refine aL1 rfl rfl rfl zb31 ?_);exact hW.out)):p:=f ⟨h⟩
end
section
open Go.RowKit
namespace DW
theorem qh{α:Type}(l:List α)(x:α)(c:Nat):(l++[x]).eraseIdx c=if l.length=c then l.eraseIdx c else l.eraseIdx c++[x]:=by
 split
 ·rename_i h;rw[List.eraseIdx_append_of_length_le (by omega),List.eraseIdx_of_length_le (by omega:l.length<=c),h,Nat.sub_self];simp
 ·by_cases h2:c<l.length
  ·rw[List.eraseIdx_append_of_lt_length h2]
  ·rw[List.eraseIdx_of_length_le cA,List.eraseIdx_of_length_le (by omega)]
theorem sO{α:Type}(l:List α)(c:Nat):(l.eraseIdx c).length<=l.length:=(List.eraseIdx_sublist l c).length_le
def mnr(m:Mx.Mat)(r c:Nat):Mx.Mat:=(m.eraseIdx r).map fun l=>l.eraseIdx c
theorem BI(m:Mx.Mat)(l:List Int)(r c:Nat):mnr (m++[l]) r c=if m.length=r then mnr m r c else mnr m r c++[l.eraseIdx c]:=by
 unfold mnr;rw[qh];split
 ·rfl
 ·rw[List.map_append];rfl
theorem EK(m:Mx.Mat)(r c:Nat):(mnr m r c).length<=m.length:=by unfold mnr;rw[List.length_map];exact sO m r
set_option maxRecDepth 20000
set_option maxHeartbeats 1000000
theorem EM(m:Mx.Mat)(r c:Nat)(hm:m.length<=1000000)(hm2:∀l∈m,l.length<=1000000):Fn Tryz.prog 115 [dW m,zI r,zI c] (dW (mnr m r c)):=by
 refine aY Tryz.func115 ae rfl rfl rfl fun X0=>?_;simp only[aK]
 (repeat(first|refine gk fun K hK=>?_|refine zs2 ?_));refine cL ?_;(repeat(first|refine gk fun K hK=>?_|refine zs2 ?_));refine cL ?_;(repeat(first|refine gk fun K hK=>?_|refine zs2 ?_));refine aX ?_;(repeat(first|refine gk fun K hK=>?_|refine zs2 ?_))
 refine az (eu (t:=7) (k:=7) (T:=113) (wd:=1) iK rfl rfl cM) ?_
 (refine az (au (sl':=[(0,dW m),(1,zI r),(2,zI c),(7,.own 7),(8,zI 0)]) (ow':=[(7,⟨113,1,[]⟩)]) ay aD) ?_)
 refine aV (fun q s=>∃i,i<=m.length/\q=m.length-i/\s=⟨[(0,dW m),(1,zI r),(2,zI c),(7,.own 7),(8,zI (i:Nat))],[(7,⟨113,1,(mnr (m.take i) r c).map dZ⟩)]⟩) (m:=m.length) ⟨0,Nat.zero_le _,rfl,by unfold mnr;simp⟩ fun q s hs=>?_;obtain⟨i,hi,rfl,rfl⟩:=hs;by_cases him:i<m.length
 ·obtain⟨l,hl⟩:=get_some him;have hll:=hm2 l (List.mem_of_getElem? hl);have hsn:=BI (m.take i) l r c;rw[<-cv hl,List.length_take,Nat.min_eq_left (by omega)]at hsn;have hfl:=EK (m.take i) r c;rw[List.length_take,Nat.min_eq_left (by omega)]at hfl;obtain⟨F,hF⟩:∃F,F=mnr (m.take i) r c:=⟨_,rfl⟩;rw[<-hF]at hsn hfl;rw[<-hF];clear hF;by_cases hir:i=r
  ·rw[if_pos hir]at hsn
   (repeat(first|refine gk fun K hK=>?_|refine zs2 ?_));refine aU ?_;(repeat(first|refine gk fun K hK=>?_|refine zs2 ?_))
   refine aA ?_
   (repeat(first|refine gk fun K hK=>?_|refine zs2 ?_));(refine gar ?_;refine zs4 ?_;refine zs4 ?_;refine wP ?_;refine af ?_);(repeat(first|refine gk fun K hK=>?_|refine zs2 ?_))
   refine aA ?_
   (repeat(first|refine gk fun K hK=>?_|refine zs2 ?_));refine ba ?_;(repeat(first|refine gk fun K hK=>?_|refine zs2 ?_))
   simp only[nx,inB];exact⟨m.length-(i+1),_,by omega,(au (sl':=[(0,dW m),(1,zI r),(2,zI c),(7,.own 7),(8,zI ((i+1:Nat):Int))]) (ow':=[(7,⟨113,1,F.map dZ⟩)]) ay aD),i+1,by omega,rfl,by rw[hsn]⟩
  ·rw[if_neg hir]at hsn
   (repeat(first|refine gk fun K hK=>?_|refine zs2 ?_));refine aU ?_;(repeat(first|refine gk fun K hK=>?_|refine zs2 ?_))
   refine aA ?_
   (repeat(first|refine gk fun K hK=>?_|refine zs2 ?_));(refine gar ?_;refine zs4 ?_;refine zs4 ?_;refine wP ?_;refine af ?_);(repeat(first|refine gk fun K hK=>?_|refine zs2 ?_))
   refine aB ?_
   (repeat(first|refine gk fun K hK=>?_|refine zs2 ?_));refine cL ?_;(repeat(first|refine gk fun K hK=>?_|refine zs2 ?_));refine aX ?_;(repeat(first|refine gk fun K hK=>?_|refine zs2 ?_))
   refine az (eu (t:=9) (k:=9) (T:=62) (wd:=2) iK rfl rfl cM) ?_
   (refine az (au (sl':=[(0,dW m),(1,zI r),(2,zI c),(7,.own 7),(8,zI (i:Nat)),(9,.own 9),(10,zI 0)]) (ow':=[(9,⟨62,2,[]⟩),(7,⟨113,1,F.map dZ⟩)]) ay aD) ?_)
   refine aV (fun q s=>∃k,k<=l.length/\q=l.length-k/\s=⟨[(0,dW m),(1,zI r),(2,zI c),(7,.own 7),(8,zI (i:Nat)),(9,.own 9),(10,zI (k:Nat))],[(9,⟨62,2,((l.take k).eraseIdx c).map .nm⟩),(7,⟨113,1,F.map dZ⟩)]⟩) (m:=l.length) ⟨0,Nat.zero_le _,rfl,by simp⟩ fun q s hs=>?_;obtain⟨k,hk,rfl,rfl⟩:=hs;by_cases hkl:k<l.length
   ·obtain⟨x,hx⟩:=get_some hkl;have hes:=qh (l.take k) x c;rw[<-cv hx,List.length_take,Nat.min_eq_left (by omega)]at hes;have hel:=sO (l.take k) c;rw[List.length_take,Nat.min_eq_left (by omega)]at hel;obtain⟨G,hG⟩:∃G,G=(l.take k).eraseIdx c:=⟨_,rfl⟩;rw[<-hG]at hes hel;rw[<-hG];clear hG;by_cases hkc:k=c
    ·rw[if_pos hkc]at hes
     (repeat(first|refine gk fun K hK=>?_|refine zs2 ?_));refine fZ ?_;(repeat(first|refine gk fun K hK=>?_|refine zs2 ?_))
     refine aA ?_
     (repeat(first|refine gk fun K hK=>?_|refine zs2 ?_));(refine gar ?_;refine zs4 ?_;refine zs4 ?_;refine mu ?_;refine af ?_);(repeat(first|refine gk fun K hK=>?_|refine zs2 ?_))
     refine aB ?_
     (repeat(first|refine gk fun K hK=>?_|refine zs2 ?_));refine ba ?_;(repeat(first|refine gk fun K hK=>?_|refine zs2 ?_))
     simp only[nx,inB];exact⟨l.length-(k+1),_,by omega,(au (sl':=[(0,dW m),(1,zI r),(2,zI c),(7,.own 7),(8,zI (i:Nat)),(9,.own 9),(10,zI ((k+1:Nat):Int))]) (ow':=[(9,⟨62,2,G.map .nm⟩),(7,⟨113,1,F.map dZ⟩)]) ay aD),k+1,by omega,rfl,by rw[hes]⟩
    ·rw[if_neg hkc]at hes
     (repeat(first|refine gk fun K hK=>?_|refine zs2 ?_));refine fZ ?_;(repeat(first|refine gk fun K hK=>?_|refine zs2 ?_))
     refine aA ?_
     (repeat(first|refine gk fun K hK=>?_|refine zs2 ?_));(refine gar ?_;refine zs4 ?_;refine zs4 ?_;refine mu ?_;refine af ?_);(repeat(first|refine gk fun K hK=>?_|refine zs2 ?_))
     refine aA ?_
     (repeat(first|refine gk fun K hK=>?_|refine zs2 ?_));(refine gar ?_;refine zs4 ?_;refine zs4 ?_;refine zs4 ?_;refine eI ?_;refine bs ?_;refine zs4 ?_;refine eI ?_;refine bs ?_;refine my ?_;refine tF ?_;refine zs6 ?_;refine af ?_);(repeat(first|refine gk fun K hK=>?_|refine zs2 ?_));refine ba ?_;(repeat(first|refine gk fun K hK=>?_|refine zs2 ?_))
     simp only[nx,inB];exact⟨l.length-(k+1),_,by omega,(au (sl':=[(0,dW m),(1,zI r),(2,zI c),(7,.own 7),(8,zI (i:Nat)),(9,.own 9),(10,zI ((k+1:Nat):Int))]) (ow':=[(9,⟨62,2,G.map .nm++[.nm x]⟩),(7,⟨113,1,F.map dZ⟩)]) ay aD),k+1,by omega,rfl,by rw[hes,List.map_append];rfl⟩
   ·obtain rfl:k=l.length:=by omega
    rw[List.take_length]
    (repeat(first|refine gk fun K hK=>?_|refine zs2 ?_));refine fZ ?_;(repeat(first|refine gk fun K hK=>?_|refine zs2 ?_))
    refine aB ?_
    (repeat(first|refine gk fun K hK=>?_|refine zs2 ?_))
    refine az (aE (k:=9) aR bz bw) ?_;refine pd ?_
    (repeat(first|refine gk fun K hK=>?_|refine zs2 ?_))
    refine ba ?_;simp only[nx,inB];exact⟨m.length-(i+1),_,by omega,(au (sl':=[(0,dW m),(1,zI r),(2,zI c),(7,.own 7),(8,zI ((i+1:Nat):Int))]) (ow':=[(7,⟨113,1,F.map dZ++[dZ (l.eraseIdx c)]⟩)]) ay aD),i+1,by omega,rfl,by rw[hsn,List.map_append];rfl⟩
 ·obtain rfl:i=m.length:=by omega
  rw[List.take_length]
  (repeat(first|refine gk fun K hK=>?_|refine zs2 ?_));refine aU ?_;(repeat(first|refine gk fun K hK=>?_|refine zs2 ?_))
  refine aB ?_
  (repeat(first|refine gk fun K hK=>?_|refine zs2 ?_))
  refine az (aE (k:=7) aR bz bw) ?_;refine ik ?_
  (repeat(first|refine gk fun K hK=>?_|refine zs2 ?_))
  exact⟨_,Sh.refl,.one (.tmp 6) _ rfl (.tmp 6 rfl)⟩
end DW
end
section
open Go.RowKit
namespace DW
theorem xP{B:Nat}{g:Nat->Int}:∀k,(∀l,l<k->(g l).natAbs<=B)->(Mx.sm k g).natAbs<=k*B
 |0,_=>by simp[Mx.sm]
 |k+1,h=>by
  have h1:=xP k fun l hl=>h l (by omega);have h2:=h k (by omega);show(Mx.sm k g+g k).natAbs<=_;rw[Nat.add_mul,Nat.one_mul];have:=Int.natAbs_add_le (Mx.sm k g) (g k);omega
theorem zx(k:Nat):(Mx.sg k).natAbs=1:=by unfold Mx.sg;split<;>rfl
theorem wD{e n k:Nat}(hk:k<=n+1):k*(2^e*2^((e+n)*n))<=2^((e+(n+1))*(n+1)):=by
 have h1:k<=2^(n+1):=Nat.le_trans hk (Nat.le_of_lt Nat.lt_two_pow_self);refine Nat.le_trans (Nat.mul_le_mul_right _ h1) ?_;rw[<-Nat.pow_add,<-Nat.pow_add];refine Nat.pow_le_pow_right (by omega) ?_;have:(e+(n+1))*(n+1)=(e+n)*n+(e+n)+(n+1):=by grind
 omega
theorem yN{e:Nat}:∀(n:Nat) (f:Nat->Nat->Int),(∀i j,i<n->j<n->(f i j).natAbs<=2^e)->(Mx.D n f).natAbs<=2^((e+n)*n)
 |0,_,_=>by simp[Mx.D]
 |n+1,f,h=>by
  unfold Mx.D;refine Nat.le_trans (xP (n+1) fun l hl=>?_) (wD (Nat.le_refl _));rw[Int.natAbs_mul,Int.natAbs_mul,zx,Nat.one_mul];exact Nat.mul_le_mul (h 0 l (by omega) hl) (yN n _ fun i j hi hj=>h _ _ (by omega) (by unfold Mx.skip;split<;>omega))
def fH(n:Nat)(f:Nat->Nat->Int)(k:Nat):Int:=Mx.sg k*f 0 k*Mx.D n (fun i j=>f (i+1) (Mx.skip k j))
theorem uY{e n:Nat}{f:Nat->Nat->Int}(h:∀i j,i<n+1->j<n+1->(f i j).natAbs<=2^e){k:Nat}(hk:k<n+1):(fH n f k).natAbs<=2^e*2^((e+n)*n):=by
 unfold fH;rw[Int.natAbs_mul,Int.natAbs_mul,zx,Nat.one_mul];exact Nat.mul_le_mul (h 0 k (by omega) hk) (yN n _ fun i j hi hj=>h _ _ (by omega) (by unfold Mx.skip;split<;>omega))
theorem Fg{e n:Nat}{f:Nat->Nat->Int}(h:∀i j,i<n+1->j<n+1->(f i j).natAbs<=2^e){k:Nat}(hk:k<=n+1):(Mx.sm k (fH n f)).natAbs<=2^((e+(n+1))*(n+1)):=
 Nat.le_trans (xP k fun l hl=>uY h (by omega)) (wD hk)
theorem Ae(M:Mx.Mat)(k i j:Nat):Mx.at' (mnr M 0 k) i j=Mx.at' M (i+1) (Mx.skip k j):=by
 unfold Mx.at' Mx.rw mnr Mx.skip;simp only[List.getD_eq_getElem?_getD,List.getElem?_map,List.getElem?_eraseIdx,Nat.not_lt_zero,if_false]
 cases M[i+1]? with
 |none=>simp
 |some r=>
  simp only[Option.map_some,Option.getD_some,List.getElem?_eraseIdx];split<;>rfl
theorem Ad{M:Mx.Mat}{n k:Nat}(hl:M.length=n+1)(hM:Mx.Rc (n+1) M)(hk:k<n+1):(mnr M 0 k).length=n/\Mx.Rc n (mnr M 0 k):=by
 unfold mnr;refine⟨by rw[List.length_map,List.length_eraseIdx_of_lt (by omega)];omega,fun r hr=>?_⟩;obtain⟨x,hx,rfl⟩:=List.mem_map.1 hr;have:=hM x (List.mem_of_mem_eraseIdx hx);rw[List.length_eraseIdx_of_lt (by omega)];omega
theorem mnr_D(M:Mx.Mat)(n k:Nat):Mx.D n (Mx.at' (mnr M 0 k))=Mx.D n (fun i j=>Mx.at' M (i+1) (Mx.skip k j)):=Mx.bO n _ _ fun i j _ _=>Ae M k i j
theorem GB{M:Mx.Mat}{B k:Nat}(h:Mx.Bd B M):Mx.Bd B (mnr M 0 k):=fun i j=>by rw[Ae];exact h _ _
set_option maxRecDepth 20000
set_option maxHeartbeats 2000000
theorem Dv(e:Nat):∀(n:Nat) (M:Mx.Mat),M.length=n->Mx.Rc n M->Mx.Bd (2^e) M->n<=1000->(e+n)*n+e<=3000000000->
  Fn Tryz.prog 43 [dW M] (.nm (Mx.D n (Mx.at' M)))
 |0,M,hl,hM,hb,hn,he=>by
  have h0:M=[]:=List.eq_nil_of_length_eq_zero hl;subst h0;have O:=of_d 1 (by omega);refine aY Tryz.func43 ae rfl rfl rfl fun X0=>?_;simp only[aK]
  (repeat(first|refine gk fun K hK=>?_|refine zs2 ?_));(refine gar ?_;refine tI ?_;refine af ?_);(repeat(first|refine gk fun K hK=>?_|refine zs2 ?_));refine oY ?_;(repeat(first|refine gk fun K hK=>?_|refine zs2 ?_))
  refine aA ?_
  (repeat(first|refine gk fun K hK=>?_|refine zs2 ?_));(refine gar ?_;(refine aL1 rfl rfl rfl zb42 ?_);refine fX ?_;refine af ?_);(repeat(first|refine gk fun K hK=>?_|refine zs2 ?_))
  exact⟨_,aE (k:=2) aR bz bw, .one (.cell 2 62) _ rfl (.cell 2 _ _ rfl rfl ae ae)⟩
 |n+1,M,hl,hM,hb,hn,he=>by
  have hSB:=fun k (hk:k<=n+1)=>Fg (e:=e) (n:=n) (f:=Mx.at' M) (fun i j _ _=>hb i j) hk;have hTB:=fun k (hk:k<n+1)=>uY (e:=e) (n:=n) (f:=Mx.at' M) (fun i j _ _=>hb i j) hk;have hDB:=fun k=>yN (e:=e) n (fun i j=>Mx.at' M (i+1) (Mx.skip k j)) fun i j _ _=>hb _ _;have hx1:(e+n)*n+e+(n+n+1)<=(e+(n+1))*(n+1):=by
   have:(e+(n+1))*(n+1)=(e+n)*n+(e+n)+(n+1):=by grind
   omega
  have IH:=fun k (hk:k<n+1)=>Dv e n (mnr M 0 k) (Ad hl hM hk).1 (Ad hl hM hk).2 (GB hb) (by omega) (by omega);have MI:=fun k=>EM M 0 k (by omega) (fun l hl=>by have:=hM l hl;omega);have hr0:=dE (M:=M) (i:=0) (by omega);refine aY Tryz.func43 ae rfl rfl rfl fun X0=>?_;simp only[aK]
  (repeat(first|refine gk fun K hK=>?_|refine zs2 ?_));(refine gar ?_;refine tI ?_;refine af ?_);(repeat(first|refine gk fun K hK=>?_|refine zs2 ?_));refine oY ?_;(repeat(first|refine gk fun K hK=>?_|refine zs2 ?_))
  refine aB ?_
  (repeat(first|refine gk fun K hK=>?_|refine zs2 ?_));(refine gar ?_;refine xt ?_;refine C7 ?_;refine fX ?_;refine af ?_);(repeat(first|refine gk fun K hK=>?_|refine zs2 ?_));refine aX ?_;(repeat(first|refine gk fun K hK=>?_|refine zs2 ?_))
  (refine az (au (sl':=[(0,dW M),(2, .opt 2 0),(3, .opt 3 0),(4,zI 0)]) (ow':=[(3,⟨62,2,[.nm (0)]⟩),(2,⟨62,2,[.nm 0]⟩)]) ay aD) ?_)
  refine aV (fun q s=>∃k,k<=n+1/\q=n+1-k/\s=⟨[(0,dW M),(2, .opt 2 0),(3, .opt 3 0),(4,zI (k:Nat))],[(3,⟨62,2,[.nm (Mx.sm k (fH n (Mx.at' M)))]⟩),(2,⟨62,2,[.nm 0]⟩)]⟩) (m:=n+1) ⟨0,Nat.zero_le _,rfl,rfl⟩ fun q s hs=>?_;obtain⟨k,hk,rfl,rfl⟩:=hs;by_cases hkn:k<n+1
  ·have hxk:=iI (i:=0) hM (by omega) hkn;have hS1:Mx.sm (k+1) (fH n (Mx.at' M))=Mx.sm k (fH n (Mx.at' M))+fH n (Mx.at' M) k:=rfl;have bS:=hSB k hk;have bT:=hTB k hkn;have bD:=hDB k;have IHk:=IH k hkn;rw[mnr_D]at IHk;have hdt:fH n (Mx.at' M) k=Mx.sg k*Mx.at' M 0 k*Mx.D n (fun i j=>Mx.at' M (i+1) (Mx.skip k j)):=rfl;have SX:=kK (Mx.at' M 0 k) (bC (hb 0 k) (by omega));have MIk:=MI k;have bX:=hb 0 k;obtain⟨S,hS⟩:∃S,S=Mx.sm k (fH n (Mx.at' M)):=⟨_,rfl⟩;obtain⟨T,hT⟩:∃T,T=fH n (Mx.at' M) k:=⟨_,rfl⟩;obtain⟨X,hX⟩:∃X,X=Mx.at' M 0 k:=⟨_,rfl⟩;obtain⟨Dm,hDm⟩:∃Dm,Dm=Mx.D n (fun i j=>Mx.at' M (i+1) (Mx.skip k j)):=⟨_,rfl⟩;have gx:=oA X;rw[<-hS,<-hT]at hS1;rw[<-hS]at bS;rw[<-hT]at bT hdt;rw[<-hX]at hxk SX bX hdt;rw[<-hDm]at bD IHk hdt;rw[<-hS];clear hS hT hX hDm IH MI hSB hTB hDB hb;have hc0:(0:Int)=((0:Nat):Int):=rfl;by_cases hx0:X=0
   ·have hT0:T=0:=by rw[hdt,hx0];simp
    rw[hT0,Int.add_zero]at hS1
    (repeat(first|refine gk fun K hK=>?_|refine zs2 ?_));refine aU ?_;(repeat(first|refine gk fun K hK=>?_|refine zs2 ?_))
    refine aA ?_
    (repeat(first|refine gk fun K hK=>?_|refine zs2 ?_));refine xd ?_;(repeat(first|refine gk fun K hK=>?_|refine zs2 ?_))
    refine aA ?_
    (repeat(first|refine gk fun K hK=>?_|refine zs2 ?_));refine ba ?_;(repeat(first|refine gk fun K hK=>?_|refine zs2 ?_))
    simp only[nx,inB];exact⟨n+1-(k+1),_,by omega,(au (sl':=[(0,dW M),(2, .opt 2 0),(3, .opt 3 0),(4,zI ((k+1:Nat):Int))]) (ow':=[(3,⟨62,2,[.nm (S)]⟩),(2,⟨62,2,[.nm 0]⟩)]) ay aD),k+1,by omega,rfl,by rw[hS1]⟩
   ·have eb:(2:Nat)^e*2^((e+n)*n)=2^(e+(e+n)*n):=(Nat.pow_add _ _ _).symm;rw[eb]at bT;have ML:=Dq X Dm (bC bX (by omega)) (bC bD (by omega));have bXD:(X*Dm).natAbs<=2^(e+(e+n)*n):=by
     rw[Int.natAbs_mul,<-eb];exact Nat.mul_le_mul bX bD
    have hfP:=bC bXD (by omega);have hfS:=bC bS (by omega);have hfT:=bC bT (by omega);have AD:=DJ S T hfS hfT;by_cases hk2:k%2=1
    ·have hsg : T = -(X * Dm) := by
      rw[hdt];unfold Mx.sg;rw[if_neg (by omega)];rw[Int.mul_assoc,Int.neg_mul,Int.one_mul]
     have NG:=yg (X*Dm) hfP;rw[<-hsg]at NG;clear hdt hsg
     (repeat(first|refine gk fun K hK=>?_|refine zs2 ?_));refine aU ?_;(repeat(first|refine gk fun K hK=>?_|refine zs2 ?_))
     refine aA ?_
     (repeat(first|refine gk fun K hK=>?_|refine zs2 ?_));refine xd ?_;(repeat(first|refine gk fun K hK=>?_|refine zs2 ?_))
     refine aB ?_
     (repeat(first|refine gk fun K hK=>?_|refine zs2 ?_));refine Cv ?_;(repeat(first|refine gk fun K hK=>?_|refine zs2 ?_));(refine gar ?_;refine zs4 ?_;refine qI ?_;refine mA ?_;refine af ?_);(repeat(first|refine gk fun K hK=>?_|refine zs2 ?_))
     refine aA ?_
     (repeat(first|refine gk fun K hK=>?_|refine zs2 ?_));refine xi ?_;(repeat(first|refine gk fun K hK=>?_|refine zs2 ?_));(refine gar ?_;refine bs ?_;refine bs ?_;refine jf ?_;refine fX ?_;refine af ?_);(repeat(first|refine gk fun K hK=>?_|refine zs2 ?_));refine ba ?_;(repeat(first|refine gk fun K hK=>?_|refine zs2 ?_))
     simp only[nx,inB];exact⟨n+1-(k+1),_,by omega,(au (sl':=[(0,dW M),(2, .opt 2 0),(3, .opt 3 0),(4,zI ((k+1:Nat):Int))]) (ow':=[(3,⟨62,2,[.nm (S+T)]⟩),(2,⟨62,2,[.nm 0]⟩)]) ay aD),k+1,by omega,rfl,by rw[hS1]⟩
    ·have hsg : T = X * Dm := by
      rw[hdt];unfold Mx.sg;rw[if_pos (by omega),Int.one_mul]
     rw[<-hsg]at ML;clear hdt hsg
     (repeat(first|refine gk fun K hK=>?_|refine zs2 ?_));refine aU ?_;(repeat(first|refine gk fun K hK=>?_|refine zs2 ?_))
     refine aA ?_
     (repeat(first|refine gk fun K hK=>?_|refine zs2 ?_));refine xd ?_;(repeat(first|refine gk fun K hK=>?_|refine zs2 ?_))
     refine aB ?_
     (repeat(first|refine gk fun K hK=>?_|refine zs2 ?_));refine Cv ?_;(repeat(first|refine gk fun K hK=>?_|refine zs2 ?_));(refine gar ?_;refine zs4 ?_;refine qI ?_;refine mA ?_;refine af ?_);(repeat(first|refine gk fun K hK=>?_|refine zs2 ?_))
     refine aB ?_
     (repeat(first|refine gk fun K hK=>?_|refine zs2 ?_));(refine gar ?_;refine bs ?_;refine bs ?_;refine jf ?_;refine fX ?_;refine af ?_);(repeat(first|refine gk fun K hK=>?_|refine zs2 ?_));refine ba ?_;(repeat(first|refine gk fun K hK=>?_|refine zs2 ?_))
     simp only[nx,inB];exact⟨n+1-(k+1),_,by omega,(au (sl':=[(0,dW M),(2, .opt 2 0),(3, .opt 3 0),(4,zI ((k+1:Nat):Int))]) (ow':=[(3,⟨62,2,[.nm (S+T)]⟩),(2,⟨62,2,[.nm 0]⟩)]) ay aD),k+1,by omega,rfl,by rw[hS1]⟩
  ·obtain rfl:k=n+1:=by omega
   have hDD:Mx.D (n+1) (Mx.at' M)=Mx.sm (n+1) (fH n (Mx.at' M)):=rfl;obtain⟨S,hS⟩:∃S,S=Mx.sm (n+1) (fH n (Mx.at' M)):=⟨_,rfl⟩;rw[<-hS]at hDD;rw[<-hS];clear hS
   (repeat(first|refine gk fun K hK=>?_|refine zs2 ?_));refine aU ?_;(repeat(first|refine gk fun K hK=>?_|refine zs2 ?_))
   refine aB ?_
   (repeat(first|refine gk fun K hK=>?_|refine zs2 ?_));(refine gar ?_;refine bs ?_;refine fX ?_;refine af ?_);(repeat(first|refine gk fun K hK=>?_|refine zs2 ?_))
   rw[hDD];exact⟨_,aE (k:=2) aR bz bw, .one (.cell 2 62) _ rfl (.cell 2 _ _ rfl rfl ae ae)⟩
end DW
end
section
open Go.RowKit
namespace DW
theorem DZ{a b:Nat}(h:wds a=wds b):a=b:=by
 have h1:=(Dg.bh (b:=4294967296) (by decide) a).2;have h2:=(Dg.bh (b:=4294967296) (by decide) b).2;rw[<-h1,<-h2];exact congrArg _ h
set_option maxRecDepth 20000
set_option maxHeartbeats 1000000
theorem zD(u v:Int)(hu:(wds u.natAbs).length<=1000000000):Fn Tryz.prog 41 [.nm u,.nm v] (.sc (.bool (decide (u=v)))):=by
 refine aY Tryz.func41 ae rfl rfl rfl fun X0=>?_;simp only[aK];by_cases hs:decide (u<0)=decide (v<0)
 ·have hd:(!(decide (u<0)==decide (v<0)))=false:=by rw[hs,beq_self_eq_true];rfl
  by_cases hl:(wds u.natAbs).length=(wds v.natAbs).length
  ·(repeat(first|refine gk fun K hK=>?_|refine zs2 ?_));refine wZ ?_;(repeat(first|refine gk fun K hK=>?_|refine zs2 ?_));refine wY ?_;(repeat(first|refine gk fun K hK=>?_|refine zs2 ?_))
   refine aB ?_
   (repeat(first|refine gk fun K hK=>?_|refine zs2 ?_));refine aX ?_;(repeat(first|refine gk fun K hK=>?_|refine zs2 ?_))
   (refine az (au (sl':=[(2,.pt (.nm u)),(3,.pt (.nm v)),(5,zI 0)]) (ow':=[]) ay aD) ?_)
   refine aV (fun r s=>∃k,k<=(wds u.natAbs).length/\r=(wds u.natAbs).length-k/\(wds u.natAbs).take k=(wds v.natAbs).take k/\s=⟨[(2,.pt (.nm u)),(3,.pt (.nm v)),(5,zI (k:Nat))],[]⟩) (m:=(wds u.natAbs).length) ⟨0,Nat.zero_le _,rfl,rfl,rfl⟩ fun r s hs=>?_;obtain⟨k,hk,rfl,he,rfl⟩:=hs;by_cases hkl:k<(wds u.natAbs).length
   ·obtain⟨x,hx⟩:=get_some hkl;obtain⟨y,hy⟩:=get_some (m:=wds v.natAbs) (k:=k) (by omega);by_cases hxy:x=y
    ·(repeat(first|refine gk fun K hK=>?_|refine zs2 ?_));refine pe ?_;(repeat(first|refine gk fun K hK=>?_|refine zs2 ?_))
     refine aA ?_
     (repeat(first|refine gk fun K hK=>?_|refine zs2 ?_));refine Cu ?_;(repeat(first|refine gk fun K hK=>?_|refine zs2 ?_))
     refine aB ?_
     (repeat(first|refine gk fun K hK=>?_|refine zs2 ?_));refine ba ?_;(repeat(first|refine gk fun K hK=>?_|refine zs2 ?_))
     simp only[nx,inB];exact⟨(wds u.natAbs).length-(k+1),_,by omega,(au (sl':=[(2,.pt (.nm u)),(3,.pt (.nm v)),(5,zI ((k+1:Nat):Int))]) (ow':=[]) ay aD),k+1,by omega,rfl,by rw[cv hx,cv hy,he,hxy],rfl⟩
    ·have EC:decide (u=v)=false:=decide_eq_false fun e=>hxy (by rw[e,hy]at hx;cases hx;rfl)
     (repeat(first|refine gk fun K hK=>?_|refine zs2 ?_));refine pe ?_;(repeat(first|refine gk fun K hK=>?_|refine zs2 ?_))
     refine aA ?_
     (repeat(first|refine gk fun K hK=>?_|refine zs2 ?_));refine Cu ?_;(repeat(first|refine gk fun K hK=>?_|refine zs2 ?_))
     refine aA ?_
     (repeat(first|refine gk fun K hK=>?_|refine zs2 ?_));refine bZ ?_;(repeat(first|refine gk fun K hK=>?_|refine zs2 ?_))
     rw[EC];exact⟨_,Sh.refl,.one (.tmp 4) _ rfl (.tmp 4 rfl)⟩
   ·obtain rfl:k=(wds u.natAbs).length:=by omega
    have ew:=DZ (vw hl he);have EC:decide (u=v)=true:=decide_eq_true (by
     by_cases h1:u<0
     ·have h2:v<0:=by rw[decide_eq_true h1]at hs;exact of_decide_eq_true hs.symm
      omega
     ·have h2:¬v<0:=by rw[decide_eq_false h1]at hs;exact of_decide_eq_false hs.symm
      omega)
    (repeat(first|refine gk fun K hK=>?_|refine zs2 ?_));refine pe ?_;(repeat(first|refine gk fun K hK=>?_|refine zs2 ?_))
    refine aB ?_
    (repeat(first|refine gk fun K hK=>?_|refine zs2 ?_));refine bZ ?_;(repeat(first|refine gk fun K hK=>?_|refine zs2 ?_))
    rw[EC];exact⟨_,Sh.refl,.one (.tmp 4) _ rfl (.tmp 4 rfl)⟩
  ·have EC:decide (u=v)=false:=decide_eq_false fun e=>hl (by rw[e])
   (repeat(first|refine gk fun K hK=>?_|refine zs2 ?_));refine wZ ?_;(repeat(first|refine gk fun K hK=>?_|refine zs2 ?_));refine wY ?_;(repeat(first|refine gk fun K hK=>?_|refine zs2 ?_))
   refine aA ?_
   (repeat(first|refine gk fun K hK=>?_|refine zs2 ?_));refine bZ ?_;(repeat(first|refine gk fun K hK=>?_|refine zs2 ?_))
   rw[EC];exact⟨_,Sh.refl,.one (.tmp 4) _ rfl (.tmp 4 rfl)⟩
 ·have hd:(!(decide (u<0)==decide (v<0)))=true:=by rw[show(decide (u<0)==decide (v<0))=false from beq_eq_false_iff_ne.2 hs];rfl
  have EC:decide (u=v)=false:=decide_eq_false fun e=>hs (by rw[e])
  (repeat(first|refine gk fun K hK=>?_|refine zs2 ?_));refine wZ ?_;(repeat(first|refine gk fun K hK=>?_|refine zs2 ?_));refine wY ?_;(repeat(first|refine gk fun K hK=>?_|refine zs2 ?_))
  refine aA ?_
  (repeat(first|refine gk fun K hK=>?_|refine zs2 ?_));refine bZ ?_;(repeat(first|refine gk fun K hK=>?_|refine zs2 ?_))
  rw[EC];exact⟨_,Sh.refl,.one (.tmp 4) _ rfl (.tmp 4 rfl)⟩
end DW
end
end Go.Proofs.YtcgjmdpcplhanaaGreat
