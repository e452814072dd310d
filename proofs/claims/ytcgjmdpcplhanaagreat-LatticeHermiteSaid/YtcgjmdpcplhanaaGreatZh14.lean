/- Lemmas for the law: E20 E22 -/
import Derived.Test.YtcgjmdpcplhanaaGreatZh13
namespace Go.Proofs.YtcgjmdpcplhanaaGreat
section
theorem zG{p q:Prop}(h:q)(f:Wq q->p:=by(intro hW;((refine gar ?_;refine zs4 ?_;refine zs91 ?_;refine sW ?_;refine zs4 ?_;refine zx ?_;refine sW ?_;refine cZ ?_;refine mW ?_;refine af ?_));exact hW.out)):p:=f ⟨h⟩
theorem zs119{p q:Prop}(h:q)(f:Wq q->p:=by(intro hW;(refine oZ [5] ae (by(apply nH;(exact lE);(focus((repeat(first|exact nF|(apply lD;(exact rfl))|(apply nG;(exact rfl)))))))) ?_);exact hW.out)):p:=f ⟨h⟩
theorem zs125{p q:Prop}(h:q)(f:Wq q->p:=by(intro hW;((refine mR (k:=5) (z:=(.agg #[.bool false,.slice none 0 0])) (d:=(.nm 0)) rfl rfl rfl rfl rfl ae aa aa dL aa aa ?_));exact hW.out)):p:=f ⟨h⟩
theorem zs120{p q:Prop}(h:q)(f:Wq q->p:=by(intro hW;((first|refine aN1 rfl rfl rfl zb7 ?_|refine uo rfl rfl rfl rfl bq (by exact bu) bc ae ae (by first|omega|(simp;omega)) zb70 ?_|refine iZ rfl rfl rfl zb7 ?_));exact hW.out)):p:=f ⟨h⟩
theorem zb22{p:Prop}(h:p:=by(apply uc;(exact rfl);(focus((apply an;(conv=>lhs;whnf);(first|done|exact rfl))));(exact bu);(focus((apply an;(conv=>lhs;whnf);(first|done|exact rfl))));(exact rfl);(exact rfl);(exact rfl);(assumption);(exact rfl))):p:=h
theorem zs123{p q:Prop}(h:q)(f:Wq q->p:=by(intro hW;((first|refine aN1 rfl rfl rfl zb22 ?_|refine iZ rfl rfl rfl zb22 ?_));exact hW.out)):p:=f ⟨h⟩
theorem zs122{p q:Prop}(h:q)(f:Wq q->p:=by(intro hW;((first|refine aN1 rfl rfl rfl zb3 ?_|refine uo rfl rfl rfl rfl bq bq bc ae ae (by first|omega|(simp;omega)) zb70 ?_|refine iZ rfl rfl rfl zb3 ?_));exact hW.out)):p:=f ⟨h⟩
theorem zs124{p q:Prop}(h:q)(f:Wq q->p:=by(intro hW;((first|refine aN1 rfl rfl rfl og ?_|refine iZ rfl rfl rfl og ?_));exact hW.out)):p:=f ⟨h⟩
theorem GD{p q:Prop}(h:q)(f:Wq q->p:=by(intro hW;((first|refine aN1 rfl rfl rfl zb0 ?_|refine iZ rfl rfl rfl zb0 ?_));exact hW.out)):p:=f ⟨h⟩
theorem F8{p q:Prop}(h:q)(f:Wq q->p:=by(intro hW;((refine zs119 ?_;refine bA ?_;refine zs120 ?_;refine GD ?_;refine bA ?_;refine zs122 ?_;refine GD ?_;refine bA ?_;refine bA ?_;refine zs123 ?_;refine zs124 ?_;refine Ae ?_;refine zs125 ?_;refine rq ?_;(refine pa ae ?_)));exact hW.out)):p:=f ⟨h⟩
theorem F9{p q:Prop}(h:q)(f:Wq q->p:=by(intro hW;((refine gar ?_;refine zs4 ?_;refine zs4 ?_;refine dh ?_;refine br ?_;refine zs5 ?_;refine zs4 ?_;refine oa ?_;refine af ?_));exact hW.out)):p:=f ⟨h⟩
end
section
open Go.RowKit
namespace DW
set_option maxRecDepth 20000
set_option maxHeartbeats 1000000
theorem AH(a b:List Int)(ha:a.length<=1000000000)(ha2:∀z∈a,(wds z.natAbs).length<=1000000000):Fn Tryz.prog 82 [dZ a,dZ b] (.sc (.bool (decide (a=b)))):=by
 refine bn Tryz.func82 ae rfl rfl rfl fun X0=>?_;simp only[aE];by_cases hl:a.length=b.length
 ·(repeat(first|refine gk fun K hK=>?_|refine zs2 ?_));refine bg ?_;(repeat(first|refine gk fun K hK=>?_|refine zs2 ?_));refine jw ?_;(repeat(first|refine gk fun K hK=>?_|refine zs2 ?_))
  refine az ?_
  (repeat(first|refine gk fun K hK=>?_|refine zs2 ?_));refine aS ?_;(repeat(first|refine gk fun K hK=>?_|refine zs2 ?_))
  (refine aq (aj (sl':=[(0,dZ a),(1,dZ b),(5,zI 0)]) (ow':=[]) au ay) ?_)
  refine aF (fun r s=>∃k,k<=a.length/\r=a.length-k/\a.take k=b.take k/\s=⟨[(0,dZ a),(1,dZ b),(5,zI (k:Nat))],[]⟩) (m:=a.length) ⟨0,Nat.zero_le _,rfl,rfl,rfl⟩ fun r s hs=>?_;obtain⟨k,hk,rfl,he,rfl⟩:=hs;by_cases hkl:k<a.length
  ·obtain⟨x,hx⟩:=get_some hkl;obtain⟨y,hy⟩:=get_some (m:=b) (k:=k) (by omega);have IN:=rQ x y (ha2 x (List.mem_of_getElem? hx));by_cases hxy:x=y
   ·rw[decide_eq_true hxy]at IN
    (repeat(first|refine gk fun K hK=>?_|refine zs2 ?_));refine aH ?_;(repeat(first|refine gk fun K hK=>?_|refine zs2 ?_))
    refine av ?_
    (repeat(first|refine gk fun K hK=>?_|refine zs2 ?_));refine pj ?_;(repeat(first|refine gk fun K hK=>?_|refine zs2 ?_))
    refine az ?_
    (repeat(first|refine gk fun K hK=>?_|refine zs2 ?_));refine aZ ?_;(repeat(first|refine gk fun K hK=>?_|refine zs2 ?_))
    simp only[nx,inB];exact⟨a.length-(k+1),_,by omega,(aj (sl':=[(0,dZ a),(1,dZ b),(5,zI ((k+1:Nat):Int))]) (ow':=[]) au ay),k+1,by omega,rfl,by rw[aX hx,aX hy,he,hxy],rfl⟩
   ·rw[decide_eq_false hxy]at IN;have EC:decide (a=b)=false:=decide_eq_false fun e=>hxy vJ
    (repeat(first|refine gk fun K hK=>?_|refine zs2 ?_));refine aH ?_;(repeat(first|refine gk fun K hK=>?_|refine zs2 ?_))
    refine av ?_
    (repeat(first|refine gk fun K hK=>?_|refine zs2 ?_));refine pj ?_;(repeat(first|refine gk fun K hK=>?_|refine zs2 ?_))
    refine av ?_
    (repeat(first|refine gk fun K hK=>?_|refine zs2 ?_));refine bg ?_;(repeat(first|refine gk fun K hK=>?_|refine zs2 ?_))
    rw[EC];exact⟨_,Sh.refl,.one (.tmp 4) _ rfl (.tmp 4 rfl)⟩
  ·obtain rfl:k=a.length:=by omega
   have EC:decide (a=b)=true:=decide_eq_true (gF hl he)
   (repeat(first|refine gk fun K hK=>?_|refine zs2 ?_));refine aH ?_;(repeat(first|refine gk fun K hK=>?_|refine zs2 ?_))
   refine az ?_
   (repeat(first|refine gk fun K hK=>?_|refine zs2 ?_));refine bg ?_;(repeat(first|refine gk fun K hK=>?_|refine zs2 ?_))
   rw[EC];exact⟨_,Sh.refl,.one (.tmp 4) _ rfl (.tmp 4 rfl)⟩
 ·have EC:decide (a=b)=false:=decide_eq_false fun e=>hl (by rw[e])
  (repeat(first|refine gk fun K hK=>?_|refine zs2 ?_));refine bg ?_;(repeat(first|refine gk fun K hK=>?_|refine zs2 ?_));refine jw ?_;(repeat(first|refine gk fun K hK=>?_|refine zs2 ?_))
  refine av ?_
  (repeat(first|refine gk fun K hK=>?_|refine zs2 ?_));refine bg ?_;(repeat(first|refine gk fun K hK=>?_|refine zs2 ?_))
  rw[EC];exact⟨_,Sh.refl,.one (.tmp 4) _ rfl (.tmp 4 rfl)⟩
theorem I1(a b:List (List Int))(ha:a.length<=1000000000)(ha2:∀l∈a,l.length<=1000000000/\∀z∈l,(wds z.natAbs).length<=1000000000):Fn Tryz.prog 21 [dW a,dW b] (.sc (.bool (decide (a=b)))):=by
 refine bn Tryz.func21 ae rfl rfl rfl fun X0=>?_;simp only[aE];by_cases hl:a.length=b.length
 ·(repeat(first|refine gk fun K hK=>?_|refine zs2 ?_));refine bg ?_;(repeat(first|refine gk fun K hK=>?_|refine zs2 ?_));refine jw ?_;(repeat(first|refine gk fun K hK=>?_|refine zs2 ?_))
  refine az ?_
  (repeat(first|refine gk fun K hK=>?_|refine zs2 ?_));refine aS ?_;(repeat(first|refine gk fun K hK=>?_|refine zs2 ?_))
  (refine aq (aj (sl':=[(0,dW a),(1,dW b),(5,zI 0)]) (ow':=[]) au ay) ?_)
  refine aF (fun r s=>∃k,k<=a.length/\r=a.length-k/\a.take k=b.take k/\s=⟨[(0,dW a),(1,dW b),(5,zI (k:Nat))],[]⟩) (m:=a.length) ⟨0,Nat.zero_le _,rfl,rfl,rfl⟩ fun r s hs=>?_;obtain⟨k,hk,rfl,he,rfl⟩:=hs;by_cases hkl:k<a.length
  ·obtain⟨x,hx⟩:=get_some hkl;obtain⟨y,hy⟩:=get_some (m:=b) (k:=k) (by omega);have IN:=AH x y (ha2 x (List.mem_of_getElem? hx)).1 (ha2 x (List.mem_of_getElem? hx)).2;by_cases hxy:x=y
   ·rw[decide_eq_true hxy]at IN
    (repeat(first|refine gk fun K hK=>?_|refine zs2 ?_));refine aH ?_;(repeat(first|refine gk fun K hK=>?_|refine zs2 ?_))
    refine av ?_
    (repeat(first|refine gk fun K hK=>?_|refine zs2 ?_));refine pj ?_;(repeat(first|refine gk fun K hK=>?_|refine zs2 ?_))
    refine az ?_
    (repeat(first|refine gk fun K hK=>?_|refine zs2 ?_));refine aZ ?_;(repeat(first|refine gk fun K hK=>?_|refine zs2 ?_))
    simp only[nx,inB];exact⟨a.length-(k+1),_,by omega,(aj (sl':=[(0,dW a),(1,dW b),(5,zI ((k+1:Nat):Int))]) (ow':=[]) au ay),k+1,by omega,rfl,by rw[aX hx,aX hy,he,hxy],rfl⟩
   ·rw[decide_eq_false hxy]at IN;have EC:decide (a=b)=false:=decide_eq_false fun e=>hxy vJ
    (repeat(first|refine gk fun K hK=>?_|refine zs2 ?_));refine aH ?_;(repeat(first|refine gk fun K hK=>?_|refine zs2 ?_))
    refine av ?_
    (repeat(first|refine gk fun K hK=>?_|refine zs2 ?_));refine pj ?_;(repeat(first|refine gk fun K hK=>?_|refine zs2 ?_))
    refine av ?_
    (repeat(first|refine gk fun K hK=>?_|refine zs2 ?_));refine bg ?_;(repeat(first|refine gk fun K hK=>?_|refine zs2 ?_))
    rw[EC];exact⟨_,Sh.refl,.one (.tmp 4) _ rfl (.tmp 4 rfl)⟩
  ·obtain rfl:k=a.length:=by omega
   have EC:decide (a=b)=true:=decide_eq_true (gF hl he)
   (repeat(first|refine gk fun K hK=>?_|refine zs2 ?_));refine aH ?_;(repeat(first|refine gk fun K hK=>?_|refine zs2 ?_))
   refine az ?_
   (repeat(first|refine gk fun K hK=>?_|refine zs2 ?_));refine bg ?_;(repeat(first|refine gk fun K hK=>?_|refine zs2 ?_))
   rw[EC];exact⟨_,Sh.refl,.one (.tmp 4) _ rfl (.tmp 4 rfl)⟩
 ·have EC:decide (a=b)=false:=decide_eq_false fun e=>hl (by rw[e])
  (repeat(first|refine gk fun K hK=>?_|refine zs2 ?_));refine bg ?_;(repeat(first|refine gk fun K hK=>?_|refine zs2 ?_));refine jw ?_;(repeat(first|refine gk fun K hK=>?_|refine zs2 ?_))
  refine av ?_
  (repeat(first|refine gk fun K hK=>?_|refine zs2 ?_));refine bg ?_;(repeat(first|refine gk fun K hK=>?_|refine zs2 ?_))
  rw[EC];exact⟨_,Sh.refl,.one (.tmp 4) _ rfl (.tmp 4 rfl)⟩
theorem EM(m:List (List Int))(n:Nat)(hm:m.length<=1000000000):Fn Tryz.prog 79 [dW m,zI n] (.sc (.bool (decide (m.length=n/\∀l∈m,l.length=n)))):=by
 refine bn Tryz.func79 ae rfl rfl rfl fun X0=>?_;simp only[aE];by_cases hl:m.length=n
 ·(repeat(first|refine gk fun K hK=>?_|refine zs2 ?_));refine bg ?_;(repeat(first|refine gk fun K hK=>?_|refine zs2 ?_));(refine gar ?_;refine zs4 ?_;refine zs5 ?_;refine zs4 ?_;refine oa ?_;refine af ?_);(repeat(first|refine gk fun K hK=>?_|refine zs2 ?_))
  refine az ?_
  (repeat(first|refine gk fun K hK=>?_|refine zs2 ?_));refine aS ?_;(repeat(first|refine gk fun K hK=>?_|refine zs2 ?_))
  (refine aq (aj (sl':=[(0,dW m),(1,zI n),(5,zI 0)]) (ow':=[]) au ay) ?_)
  refine aF (fun r s=>∃k,k<=m.length/\r=m.length-k/\(∀l∈m.take k,l.length=n)/\s=⟨[(0,dW m),(1,zI n),(5,zI (k:Nat))],[]⟩) (m:=m.length) ⟨0,Nat.zero_le _,rfl,fun l h=>absurd h (by simp),rfl⟩ fun r s hs=>?_;obtain⟨k,hk,rfl,he,rfl⟩:=hs;by_cases hkl:k<m.length
  ·obtain⟨x,hx⟩:=get_some hkl;by_cases hxn:x.length=n
   ·(repeat(first|refine gk fun K hK=>?_|refine zs2 ?_));refine eV ?_;(repeat(first|refine gk fun K hK=>?_|refine zs2 ?_))
    refine av ?_
    (repeat(first|refine gk fun K hK=>?_|refine zs2 ?_));refine F9 ?_;(repeat(first|refine gk fun K hK=>?_|refine zs2 ?_))
    refine az ?_
    (repeat(first|refine gk fun K hK=>?_|refine zs2 ?_));refine aZ ?_;(repeat(first|refine gk fun K hK=>?_|refine zs2 ?_))
    simp only[nx,inB];exact⟨m.length-(k+1),_,by omega,(aj (sl':=[(0,dW m),(1,zI n),(5,zI ((k+1:Nat):Int))]) (ow':=[]) au ay),k+1,by omega,rfl,fun l h=>by
     rw[aX hx]at h;rcases List.mem_append.1 h with h|h
     ·exact he l h
     ·rw[List.mem_singleton.1 h];exact hxn,rfl⟩
   ·have EC:decide (m.length=n/\∀l∈m,l.length=n)=false:=decide_eq_false fun e=>hxn (e.2 x (List.mem_of_getElem? hx))
    (repeat(first|refine gk fun K hK=>?_|refine zs2 ?_));refine eV ?_;(repeat(first|refine gk fun K hK=>?_|refine zs2 ?_))
    refine av ?_
    (repeat(first|refine gk fun K hK=>?_|refine zs2 ?_));refine F9 ?_;(repeat(first|refine gk fun K hK=>?_|refine zs2 ?_))
    refine av ?_
    (repeat(first|refine gk fun K hK=>?_|refine zs2 ?_));refine bg ?_;(repeat(first|refine gk fun K hK=>?_|refine zs2 ?_))
    rw[EC];exact⟨_,Sh.refl,.one (.tmp 4) _ rfl (.tmp 4 rfl)⟩
  ·obtain rfl:k=m.length:=by omega
   rw[List.take_length]at he;have EC:decide (m.length=n/\∀l∈m,l.length=n)=true:=decide_eq_true ⟨hl,he⟩
   (repeat(first|refine gk fun K hK=>?_|refine zs2 ?_));refine eV ?_;(repeat(first|refine gk fun K hK=>?_|refine zs2 ?_))
   refine az ?_
   (repeat(first|refine gk fun K hK=>?_|refine zs2 ?_));refine bg ?_;(repeat(first|refine gk fun K hK=>?_|refine zs2 ?_))
   rw[EC];exact⟨_,Sh.refl,.one (.tmp 4) _ rfl (.tmp 4 rfl)⟩
 ·have EC:decide (m.length=n/\∀l∈m,l.length=n)=false:=decide_eq_false fun e=>hl e.1
  (repeat(first|refine gk fun K hK=>?_|refine zs2 ?_));refine bg ?_;(repeat(first|refine gk fun K hK=>?_|refine zs2 ?_));(refine gar ?_;refine zs4 ?_;refine zs5 ?_;refine zs4 ?_;refine oa ?_;refine af ?_);(repeat(first|refine gk fun K hK=>?_|refine zs2 ?_))
  refine av ?_
  (repeat(first|refine gk fun K hK=>?_|refine zs2 ?_));refine bg ?_;(repeat(first|refine gk fun K hK=>?_|refine zs2 ?_))
  rw[EC];exact⟨_,Sh.refl,.one (.tmp 4) _ rfl (.tmp 4 rfl)⟩
end DW
end
section
open Go.RowKit
namespace DW
theorem AE{B:Nat}{g:Nat->Int}:∀k,(∀l,l<k->(g l).natAbs<=B)->(Mx.sm k g).natAbs<=k*B
 |0,_=>by simp[Mx.sm]
 |k+1,h=>by
  have h1:=AE k fun l hl=>h l (by omega);have h2:=h k (by omega);show(Mx.sm k g+g k).natAbs<=_;rw[Nat.add_mul,Nat.one_mul];have:=Int.natAbs_add_le (Mx.sm k g) (g k);omega
theorem Ck(k:Nat):(Mx.sg k).natAbs=1:=by unfold Mx.sg;split<;>rfl
theorem ze{e n k:Nat}(hk:k<=n+1):k*(2^e*2^((e+n)*n))<=2^((e+(n+1))*(n+1)):=by
 have h1:k<=2^(n+1):=Nat.le_trans hk (Nat.le_of_lt Nat.lt_two_pow_self);refine Nat.le_trans (Nat.mul_le_mul_right _ h1) ?_;rw[<-Nat.pow_add,<-Nat.pow_add];refine Nat.pow_le_pow_right (by omega) ?_;have:(e+(n+1))*(n+1)=(e+n)*n+(e+n)+(n+1):=by grind
 omega
theorem BG{e:Nat}:∀(n:Nat) (f:Nat->Nat->Int),(∀i j,i<n->j<n->(f i j).natAbs<=2^e)->(Mx.D n f).natAbs<=2^((e+n)*n)
 |0,_,_=>by simp[Mx.D]
 |n+1,f,h=>by
  unfold Mx.D;refine Nat.le_trans (AE (n+1) fun l hl=>?_) (ze (Nat.le_refl _));rw[Int.natAbs_mul,Int.natAbs_mul,Ck,Nat.one_mul];exact Nat.mul_le_mul (h 0 l (by omega) hl) (BG n _ fun i j hi hj=>h _ _ (by omega) (by unfold Mx.skip;split<;>omega))
def gS(n:Nat)(f:Nat->Nat->Int)(k:Nat):Int:=Mx.sg k*f 0 k*Mx.D n (fun i j=>f (i+1) (Mx.skip k j))
theorem xm{e n:Nat}{f:Nat->Nat->Int}(h:∀i j,i<n+1->j<n+1->(f i j).natAbs<=2^e){k:Nat}(hk:k<n+1):(gS n f k).natAbs<=2^e*2^((e+n)*n):=by
 unfold gS;rw[Int.natAbs_mul,Int.natAbs_mul,Ck,Nat.one_mul];exact Nat.mul_le_mul (h 0 k (by omega) hk) (BG n _ fun i j hi hj=>h _ _ (by omega) (by unfold Mx.skip;split<;>omega))
theorem I6{e n:Nat}{f:Nat->Nat->Int}(h:∀i j,i<n+1->j<n+1->(f i j).natAbs<=2^e){k:Nat}(hk:k<=n+1):(Mx.sm k (gS n f)).natAbs<=2^((e+(n+1))*(n+1)):=
 Nat.le_trans (AE k fun l hl=>xm h (by omega)) (ze hk)
theorem CW(M:Mx.Mat)(k i j:Nat):Mx.at' (mnr M 0 k) i j=Mx.at' M (i+1) (Mx.skip k j):=by
 unfold Mx.at' Mx.rw mnr Mx.skip;simp only[List.getD_eq_getElem?_getD,List.getElem?_map,List.getElem?_eraseIdx,Nat.not_lt_zero,if_false]
 cases M[i+1]? with
 |none=>simp
 |some r=>
  simp only[Option.map_some,Option.getD_some,List.getElem?_eraseIdx];split<;>rfl
theorem CV{M:Mx.Mat}{n k:Nat}(hl:M.length=n+1)(hM:Mx.Rc (n+1) M)(hk:k<n+1):(mnr M 0 k).length=n/\Mx.Rc n (mnr M 0 k):=by
 unfold mnr;refine⟨by rw[List.length_map,List.length_eraseIdx_of_lt (by omega)];omega,fun r hr=>?_⟩;obtain⟨x,hx,rfl⟩:=List.mem_map.1 hr;have:=hM x (List.mem_of_mem_eraseIdx hx);rw[List.length_eraseIdx_of_lt (by omega)];omega
theorem mnr_D(M:Mx.Mat)(n k:Nat):Mx.D n (Mx.at' (mnr M 0 k))=Mx.D n (fun i j=>Mx.at' M (i+1) (Mx.skip k j)):=Mx.mT n _ _ fun i j _ _=>CW M k i j
theorem J3{M:Mx.Mat}{B k:Nat}(h:Mx.Bd B M):Mx.Bd B (mnr M 0 k):=fun i j=>by rw[CW];exact h _ _
set_option maxRecDepth 20000
set_option maxHeartbeats 2000000
theorem G8(e:Nat):∀(n:Nat) (M:Mx.Mat),M.length=n->Mx.Rc n M->Mx.Bd (2^e) M->n<=1000->(e+n)*n+e<=3000000000->
  Fn Tryz.prog 43 [dW M] (.nm (Mx.D n (Mx.at' M)))
 |0,M,hl,hM,hb,hn,he=>by
  have h0:M=[]:=List.eq_nil_of_length_eq_zero hl;subst h0;have O:=qH 1 (by omega);refine bn Tryz.func43 ae rfl rfl rfl fun X0=>?_;simp only[aE]
  (repeat(first|refine gk fun K hK=>?_|refine zs2 ?_));(refine gar ?_;refine zz ?_;refine af ?_);(repeat(first|refine gk fun K hK=>?_|refine zs2 ?_));refine rl ?_;(repeat(first|refine gk fun K hK=>?_|refine zs2 ?_))
  refine av ?_
  (repeat(first|refine gk fun K hK=>?_|refine zs2 ?_));(refine gar ?_;refine zs80 ?_;refine iy ?_;refine af ?_);(repeat(first|refine gk fun K hK=>?_|refine zs2 ?_))
  exact⟨_,aG (k:=2) bc bJ bI, .one (.cell 2 62) _ rfl (.cell 2 _ _ rfl rfl ae ae)⟩
 |n+1,M,hl,hM,hb,hn,he=>by
  have hSB:=fun k (hk:k<=n+1)=>I6 (e:=e) (n:=n) (f:=Mx.at' M) (fun i j _ _=>hb i j) hk;have hTB:=fun k (hk:k<n+1)=>xm (e:=e) (n:=n) (f:=Mx.at' M) (fun i j _ _=>hb i j) hk;have hDB:=fun k=>BG (e:=e) n (fun i j=>Mx.at' M (i+1) (Mx.skip k j)) fun i j _ _=>hb _ _;have hx1:(e+n)*n+e+(n+n+1)<=(e+(n+1))*(n+1):=by
   have:(e+(n+1))*(n+1)=(e+n)*n+(e+n)+(n+1):=by grind
   omega
  have IH:=fun k (hk:k<n+1)=>G8 e n (mnr M 0 k) (CV hl hM hk).1 (CV hl hM hk).2 (J3 hb) (by omega) (by omega);have MI:=fun k=>IG M 0 k (by omega) (fun l hl=>by have:=hM l hl;omega);have hr0:=eI (M:=M) (i:=0) (by omega);refine bn Tryz.func43 ae rfl rfl rfl fun X0=>?_;simp only[aE]
  (repeat(first|refine gk fun K hK=>?_|refine zs2 ?_));(refine gar ?_;refine zz ?_;refine af ?_);(repeat(first|refine gk fun K hK=>?_|refine zs2 ?_));refine rl ?_;(repeat(first|refine gk fun K hK=>?_|refine zs2 ?_))
  refine az ?_
  (repeat(first|refine gk fun K hK=>?_|refine zs2 ?_));(refine gar ?_;refine GH ?_;(refine kE (k:=3) (z:=(.agg #[.bool false, .slice none 0 0])) (d:=(.nm 0)) rfl rfl rfl rfl rfl ae aa aa dL aa aa bZ ?_);refine iy ?_;refine af ?_);(repeat(first|refine gk fun K hK=>?_|refine zs2 ?_));refine aS ?_;(repeat(first|refine gk fun K hK=>?_|refine zs2 ?_))
  (refine aq (aj (sl':=[(0,dW M),(2, .opt 2 0),(3, .opt 3 0),(4,zI 0)]) (ow':=[(3,⟨62,2,[.nm (0)]⟩),(2,⟨62,2,[.nm 0]⟩)]) au ay) ?_)
  refine aF (fun q s=>∃k,k<=n+1/\q=n+1-k/\s=⟨[(0,dW M),(2, .opt 2 0),(3, .opt 3 0),(4,zI (k:Nat))],[(3,⟨62,2,[.nm (Mx.sm k (gS n (Mx.at' M)))]⟩),(2,⟨62,2,[.nm 0]⟩)]⟩) (m:=n+1) ⟨0,Nat.zero_le _,rfl,rfl⟩ fun q s hs=>?_;obtain⟨k,hk,rfl,rfl⟩:=hs;by_cases hkn:k<n+1
  ·have hxk:=iW (i:=0) hM (by omega) hkn;have hS1:Mx.sm (k+1) (gS n (Mx.at' M))=Mx.sm k (gS n (Mx.at' M))+gS n (Mx.at' M) k:=rfl;have bS:=hSB k hk;have bT:=hTB k hkn;have bD:=hDB k;have IHk:=IH k hkn;rw[mnr_D]at IHk;have hdt:gS n (Mx.at' M) k=Mx.sg k*Mx.at' M 0 k*Mx.D n (fun i j=>Mx.at' M (i+1) (Mx.skip k j)):=rfl;have SX:=oB (Mx.at' M 0 k) (bC (hb 0 k) (by omega));have MIk:=MI k;have bX:=hb 0 k;obtain⟨S,hS⟩:∃S,S=Mx.sm k (gS n (Mx.at' M)):=⟨_,rfl⟩;obtain⟨T,hT⟩:∃T,T=gS n (Mx.at' M) k:=⟨_,rfl⟩;obtain⟨X,hX⟩:∃X,X=Mx.at' M 0 k:=⟨_,rfl⟩;obtain⟨Dm,hDm⟩:∃Dm,Dm=Mx.D n (fun i j=>Mx.at' M (i+1) (Mx.skip k j)):=⟨_,rfl⟩;have gx:=qz X;rw[<-hS,<-hT]at hS1;rw[<-hS]at bS;rw[<-hT]at bT hdt;rw[<-hX]at hxk SX bX hdt;rw[<-hDm]at bD IHk hdt;rw[<-hS];clear hS hT hX hDm IH MI hSB hTB hDB hb;have hc0:(0:Int)=((0:Nat):Int):=rfl;by_cases hx0:X=0
   ·have hT0:T=0:=by rw[hdt,hx0];simp
    rw[hT0,Int.add_zero]at hS1
    (repeat(first|refine gk fun K hK=>?_|refine zs2 ?_));refine aH ?_;(repeat(first|refine gk fun K hK=>?_|refine zs2 ?_))
    refine av ?_
    (repeat(first|refine gk fun K hK=>?_|refine zs2 ?_));refine zG ?_;(repeat(first|refine gk fun K hK=>?_|refine zs2 ?_))
    refine av ?_
    (repeat(first|refine gk fun K hK=>?_|refine zs2 ?_));refine aZ ?_;(repeat(first|refine gk fun K hK=>?_|refine zs2 ?_))
    simp only[nx,inB];exact⟨n+1-(k+1),_,by omega,(aj (sl':=[(0,dW M),(2, .opt 2 0),(3, .opt 3 0),(4,zI ((k+1:Nat):Int))]) (ow':=[(3,⟨62,2,[.nm (S)]⟩),(2,⟨62,2,[.nm 0]⟩)]) au ay),k+1,by omega,rfl,by rw[hS1]⟩
   ·have eb:(2:Nat)^e*2^((e+n)*n)=2^(e+(e+n)*n):=(Nat.pow_add _ _ _).symm;rw[eb]at bT;have ML:=AY X Dm (bC bX (by omega)) (bC bD (by omega));have bXD:(X*Dm).natAbs<=2^(e+(e+n)*n):=by
     rw[Int.natAbs_mul,<-eb];exact Nat.mul_le_mul bX bD
    have hfP:=bC bXD (by omega);have hfS:=bC bS (by omega);have hfT:=bC bT (by omega);have AD:=Bv S T hfS hfT;by_cases hk2:k%2=1
    ·have hsg : T = -(X * Dm) := by
      rw[hdt];unfold Mx.sg;rw[if_neg (by omega)];rw[Int.mul_assoc,Int.neg_mul,Int.one_mul]
     have NG:=AU (X*Dm) hfP;rw[<-hsg]at NG;clear hdt hsg
     (repeat(first|refine gk fun K hK=>?_|refine zs2 ?_));refine aH ?_;(repeat(first|refine gk fun K hK=>?_|refine zs2 ?_))
     refine av ?_
     (repeat(first|refine gk fun K hK=>?_|refine zs2 ?_));refine zG ?_;(repeat(first|refine gk fun K hK=>?_|refine zs2 ?_))
     refine az ?_
     (repeat(first|refine gk fun K hK=>?_|refine zs2 ?_));refine F8 ?_;(repeat(first|refine gk fun K hK=>?_|refine zs2 ?_));(refine gar ?_;refine zs4 ?_;refine sY ?_;refine mW ?_;refine af ?_);(repeat(first|refine gk fun K hK=>?_|refine zs2 ?_))
     refine av ?_
     (repeat(first|refine gk fun K hK=>?_|refine zs2 ?_));refine zP ?_;(repeat(first|refine gk fun K hK=>?_|refine zs2 ?_));(refine gar ?_;refine br ?_;refine br ?_;refine jN ?_;refine iy ?_;refine af ?_);(repeat(first|refine gk fun K hK=>?_|refine zs2 ?_));refine aZ ?_;(repeat(first|refine gk fun K hK=>?_|refine zs2 ?_))
     simp only[nx,inB];exact⟨n+1-(k+1),_,by omega,(aj (sl':=[(0,dW M),(2, .opt 2 0),(3, .opt 3 0),(4,zI ((k+1:Nat):Int))]) (ow':=[(3,⟨62,2,[.nm (S+T)]⟩),(2,⟨62,2,[.nm 0]⟩)]) au ay),k+1,by omega,rfl,by rw[hS1]⟩
    ·have hsg : T = X * Dm := by
      rw[hdt];unfold Mx.sg;rw[if_pos (by omega),Int.one_mul]
     rw[<-hsg]at ML;clear hdt hsg
     (repeat(first|refine gk fun K hK=>?_|refine zs2 ?_));refine aH ?_;(repeat(first|refine gk fun K hK=>?_|refine zs2 ?_))
     refine av ?_
     (repeat(first|refine gk fun K hK=>?_|refine zs2 ?_));refine zG ?_;(repeat(first|refine gk fun K hK=>?_|refine zs2 ?_))
     refine az ?_
     (repeat(first|refine gk fun K hK=>?_|refine zs2 ?_));refine F8 ?_;(repeat(first|refine gk fun K hK=>?_|refine zs2 ?_));(refine gar ?_;refine zs4 ?_;refine sY ?_;refine mW ?_;refine af ?_);(repeat(first|refine gk fun K hK=>?_|refine zs2 ?_))
     refine az ?_
     (repeat(first|refine gk fun K hK=>?_|refine zs2 ?_));(refine gar ?_;refine br ?_;refine br ?_;refine jN ?_;refine iy ?_;refine af ?_);(repeat(first|refine gk fun K hK=>?_|refine zs2 ?_));refine aZ ?_;(repeat(first|refine gk fun K hK=>?_|refine zs2 ?_))
     simp only[nx,inB];exact⟨n+1-(k+1),_,by omega,(aj (sl':=[(0,dW M),(2, .opt 2 0),(3, .opt 3 0),(4,zI ((k+1:Nat):Int))]) (ow':=[(3,⟨62,2,[.nm (S+T)]⟩),(2,⟨62,2,[.nm 0]⟩)]) au ay),k+1,by omega,rfl,by rw[hS1]⟩
  ·obtain rfl:k=n+1:=by omega
   have hDD:Mx.D (n+1) (Mx.at' M)=Mx.sm (n+1) (gS n (Mx.at' M)):=rfl;obtain⟨S,hS⟩:∃S,S=Mx.sm (n+1) (gS n (Mx.at' M)):=⟨_,rfl⟩;rw[<-hS]at hDD;rw[<-hS];clear hS
   (repeat(first|refine gk fun K hK=>?_|refine zs2 ?_));refine aH ?_;(repeat(first|refine gk fun K hK=>?_|refine zs2 ?_))
   refine az ?_
   (repeat(first|refine gk fun K hK=>?_|refine zs2 ?_));(refine gar ?_;refine br ?_;refine iy ?_;refine af ?_);(repeat(first|refine gk fun K hK=>?_|refine zs2 ?_))
   rw[hDD];exact⟨_,aG (k:=2) bc bJ bI, .one (.cell 2 62) _ rfl (.cell 2 _ _ rfl rfl ae ae)⟩
end DW
end
end Go.Proofs.YtcgjmdpcplhanaaGreat
