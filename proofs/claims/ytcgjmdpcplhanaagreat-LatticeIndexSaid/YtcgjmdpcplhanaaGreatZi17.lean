/- Lemmas for the law: E70 -/
import Derived.Test.YtcgjmdpcplhanaaGreatZi16
namespace Go.Proofs.YtcgjmdpcplhanaaGreat
section
theorem mE{p q:Prop}(h:q)(f:Wq q->p:=by(intro hW;(refine fT ?_;refine qH ?_);exact hW.out)):p:=f ⟨h⟩
theorem zb32{p:Prop}(h:p:=by(apply O0;(exact rfl);(focus((apply az;(conv=>lhs;whnf);(first|done|exact rfl))));(focus((apply az;(conv=>lhs;whnf);(first|done|exact rfl))));(exact rfl);(exact rfl);(kernel_rfl))):p:=h
theorem Pk{p q:Prop}(h:q)(f:Wq q->p:=by(intro hW;(refine cF ?_;refine uH ?_;refine fS ?_;refine As ?_;refine uI ?_;refine fS ?_;refine sZ ?_;refine uI ?_;refine fS ?_;refine sZ ?_;refine lO ?_);exact hW.out)):p:=f ⟨h⟩
theorem Ck{p q:Prop}(h:q)(f:Wq q->p:=by(intro hW;(refine vS ?_;refine zs80 ?_;refine gZ ?_;refine bc ?_);exact hW.out)):p:=f ⟨h⟩
theorem zs151{p q:Prop}(h:q)(f:Wq q->p:=by(intro hW;((refine dV (k:=4) (z:=(.agg #[.int .i64 0,.int .i64 0])) (d:=(.st [.sc (.int .i64 0),.sc (.int .i64 0)])) rfl rfl rfl rfl rfl ah aj aj dC aj aj cG ?_));exact hW.out)):p:=f ⟨h⟩
theorem zs260{p q:Prop}(h:q)(f:Wq q->p:=by(intro hW;(refine il ?_;refine tu ?_;refine zs151 ?_;refine kp ?_;refine bc ?_);exact hW.out)):p:=f ⟨h⟩
theorem mF{p q:Prop}(h:q)(f:Wq q->p:=by(intro hW;(refine zs2 ?_;refine zs260 ?_;refine zs2 ?_);exact hW.out)):p:=f ⟨h⟩
theorem Cj{p q:Prop}(h:q)(f:Wq q->p:=by(intro hW;(refine vS ?_;refine jx ?_;refine oc ?_;refine zs6 ?_;refine de ?_);exact hW.out)):p:=f ⟨h⟩
theorem zb34{p:Prop}(h:p:=by(apply(yf (z:=(.agg #[.int .i64 0,.int .i64 0])) (d:=(.st [.sc (.int .i64 0),.sc (.int .i64 0)])));(exact rfl);(kernel_rfl);(exact rfl);(exact rfl);(exact rfl))):p:=h
theorem PY{p q:Prop}(h:q)(f:Wq q->p:=by(intro hW;(refine aL1 rfl rfl rfl zb34 ?_);exact hW.out)):p:=f ⟨h⟩
theorem zs264{p q:Prop}(h:q)(f:Wq q->p:=by(intro hW;(refine gar ?_;refine PY ?_;refine gZ ?_;refine kp ?_;refine bc ?_);exact hW.out)):p:=f ⟨h⟩
theorem vO{p q:Prop}(h:q)(f:Wq q->p:=by(intro hW;(refine bs ?_;refine zs264 ?_;refine zs2 ?_);exact hW.out)):p:=f ⟨h⟩
theorem yt{p q:Prop}(h:q)(f:Wq q->p:=by(intro hW;(refine mF ?_;refine Ck ?_;refine zs2 ?_;refine Cj ?_;refine zs2 ?_;refine Cj ?_;refine zs2 ?_;refine Pk ?_;refine vO ?_);exact hW.out)):p:=f ⟨h⟩
theorem PX{p q:Prop}(h:q)(f:Wq q->p:=by(intro hW;((first|refine aN1 rfl rfl rfl zb9 ?_|refine jP rfl rfl rfl zb9 ?_));exact hW.out)):p:=f ⟨h⟩
theorem zs154{p q:Prop}(h:q)(f:Wq q->p:=by(intro hW;((first|refine aN1 rfl rfl rfl C6 ?_|refine jP rfl rfl rfl C6 ?_));exact hW.out)):p:=f ⟨h⟩
theorem Pj{p q:Prop}(h:q)(f:Wq q->p:=by(intro hW;(refine mH ?_;refine fT ?_;refine mE ?_;refine fT ?_;refine mE ?_;refine PX ?_;refine zs154 ?_;refine oY ?_;refine gF ?_;refine kC ?_;refine kC ?_;refine oZ ?_;refine oZ ?_;refine kB ?_);exact hW.out)):p:=f ⟨h⟩
end
section
open Go.RowKit
namespace DW
set_option maxRecDepth 20000
set_option maxHeartbeats 4000000
theorem T4(u v:Int)(fu:Fit u)(fv:Fit v):Fn Tryz.prog 165 [.nm u,.nm v] (.nm (Int.gcd u v:Int)):=by
 refine⟨enters_of Tryz.func165 ah rfl,fun X w vs hX hv=>?_⟩;simp only[ATp,AR]at hv;obtain⟨v1,r1,e1,⟨x,rfl,hx⟩,v2,r2,e2,⟨y,rfl,hy⟩,rfl⟩:=hv;subst e2;have:vs= #[.agg #[.bool x.s,.slice x.a x.n x.cap],.agg #[.bool y.s,.slice y.a y.n y.cap]]:=cU.1 e1;subst this;exact(Bi x y u v fu fv w hx.ip hy.ip).mono fun e w' ⟨⟨z,h1,h2⟩,h3⟩=>⟨_,h1,by simp only[AR];exact⟨z,rfl,h2⟩,h3⟩
theorem Du(dim d:Int)(R:Mx.Mat)(n:Nat)(hl:R.length<=n)(hn:n<=1000)(hR:Mx.Rc n R)(hf:∀k,k<=R.length->Fit (Mx.dpr (Mx.at' R) k))(he:∀i j,Fit (Mx.at' R i j)):Fn Tryz.prog 136 [ez dim R d] (.nm (Mx.dpr (Mx.at' R) R.length)):=by
 have O:=J8 1 (by unfold I64;omega);refine bh Tryz.func136 ah rfl rfl rfl fun X0=>?_;simp only[aK];refine zs2 ?_;refine yx ?_;refine zs2 ?_;refine gar ?_;refine Ie ?_;refine I8 ?_;refine jz ?_;refine te ?_;refine zs5 ?_;refine wa ?_;refine dX ?_
 (refine av (aE (sl':=[(2, .opt 2 0),(3, .opt 3 0),(8,dW R),(9,zI (R.length:Nat)),(10,zI 0)]) (ow':=[(3,⟨62,2,[.nm 1]⟩),(2,⟨62,2,[.nm 0]⟩)]) aO aS) ?_)
 refine bB (fun r s=>∃k,k<=R.length/\r=R.length-k/\s=⟨[(2, .opt 2 0),(3, .opt 3 0),(8,dW R),(9,zI (R.length:Nat)),(10,zI (k:Nat))],[(3,⟨62,2,[.nm (Mx.dpr (Mx.at' R) k)]⟩),(2,⟨62,2,[.nm 0]⟩)]⟩) (m:=R.length) ⟨0,bg _,rfl,rfl⟩ fun r s hs=>?_;obtain⟨k,hk,rfl,rfl⟩:=hs;by_cases hkn:k<R.length
 ·have hrow : R[k]? = some (Mx.rw R k) := by
   obtain⟨row,h⟩:=get_some hkn;rw[Mx.dR h];exact h
  have hx:(Mx.rw R k)[k]?=some (Mx.at' R k k):=lM hR hkn aa;have MU:=sM (Mx.dpr (Mx.at' R) k) (Mx.at' R k k) (hf k hk) (he k k);have hs1:Mx.dpr (Mx.at' R) k*Mx.at' R k k=Mx.dpr (Mx.at' R) (k+1):=rfl;rw[hs1]at MU;obtain⟨z2,hz2⟩:∃z2,z2=Mx.dpr (Mx.at' R) (k+1):=⟨_,rfl⟩;rw[<-hz2]at MU;obtain⟨z1,hz1⟩:∃z1,z1=Mx.dpr (Mx.at' R) k:=⟨_,rfl⟩;rw[<-hz1]at MU;rw[<-hz1];generalize Mx.at' R k k=x at*;generalize Mx.rw R k=row at*;clear hs1 hz1 hf he;refine oV ?_;refine cF ?_;refine rq ?_;refine gL ?_;refine zs6 ?_;refine cS ?_;refine mH ?_;refine fT ?_;refine gF ?_;refine gF ?_;refine tv ?_;refine mE ?_;refine jC ?_;refine kB ?_;refine zs2 ?_;refine th ?_;refine zs2 ?_;simp only[nx,inB];exact⟨R.length-(k+1),_,by omega,(aE (sl':=[(2, .opt 2 0),(3, .opt 3 0),(8,dW R),(9,zI (R.length:Nat)),(10,zI ((k+1:Nat):Int))]) (ow':=[(3,⟨62,2,[.nm z2]⟩),(2,⟨62,2,[.nm 0]⟩)]) aO aS),k+1,by omega,rfl,by rw[hz2]⟩
 ·have hke:k=R.length:=by omega
  rw[<-hke]at*;generalize Mx.dpr (Mx.at' R) k=z at*;refine ta ?_;refine Co ?_;refine zs2 ?_;exact⟨_,ao (k:=2) aH aR aQ, .one (.cell 2 62) _ rfl (.cell 2 _ _ rfl rfl ah ah)⟩
def frD(N D:Int):DW.D:=if inb 1000000000000000 N=true/\inb 1000000000000000 D=true then .tp [dF N D,zI 0]else .tp [dF 0 0,zI 8]
theorem wJ{z:Int}(h:0<=z):inb 1000000000000000 z=decide (z<=1000000000000000):=by
 by_cases h1:z<=1000000000000000
 ·rw[aB h1];exact jZ.2 ⟨by omega,h1⟩
 ·rw[aF h1]
  cases hb:inb 1000000000000000 z with
  |false=>rfl
  |true=>exact absurd (jZ.1 hb).2 h1
theorem wX{z:Int}(h0:0<=z)(SD:Fn Tryz.prog 120 [.nm z] (.tp [zI (smv z),.sc (.bool (decide (I64 z)))])):
  (z<=1000000000000000/\Fn Tryz.prog 120 [.nm z] (.tp [zI z,.sc (.bool true)]))\/(¬z<=1000000000000000/\∃s b,Fn Tryz.prog 120 [.nm z] (.tp [zI s,.sc (.bool b)])/\(b=true->decide (s>1000000000000000)=true)):=by
 by_cases h1:z<=1000000000000000
 ·have:I64 z:=by unfold I64;omega
  rw[qq this,pS this]at SD;exact .inl ⟨h1,SD⟩
 ·refine .inr ⟨h1,?_⟩;by_cases h2:I64 z
  ·rw[qq h2,pS h2]at SD;exact⟨_,_,SD,fun _=>aB aa⟩
  ·rw[pH h2]at SD;exact⟨_,_,SD,fun h=>by cases h⟩
theorem Gh(x y g N D:Int)(hN:0<=N)(hD:0<=D)(GC:Fn Tryz.prog 165 [.nm x,.nm y] (.nm g))(QN:Fn Tryz.prog 121 [.nm x,.nm g] (.nm N))(QD:Fn Tryz.prog 121 [.nm y,.nm g] (.nm D))(SN:Fn Tryz.prog 120 [.nm N] (.tp [zI (smv N),.sc (.bool (decide (I64 N)))]))(SD:Fn Tryz.prog 120 [.nm D] (.tp [zI (smv D),.sc (.bool (decide (I64 D)))])):Fn Tryz.prog 135 [.nm x,.nm y] (frD N D):=by
 rcases wX hN SN with⟨h1,SN⟩|⟨h1,s1,b1,SN,hb1⟩
 ·rcases wX hD SD with⟨h2,SD⟩|⟨h2,s2,b2,SD,hb2⟩
  ·have EC:frD N D= .tp [dF N D,zI 0]:=an ⟨by rw[wJ hN];exact aB h1,by rw[wJ hD];exact aB h2⟩;have d1:decide (N>1000000000000000)=false:=aF aa;have d2:decide (D>1000000000000000)=false:=aF aa;refine bh Tryz.func135 ah rfl rfl rfl fun X0=>?_;simp only[aK];refine mF ?_;refine Ck ?_;refine zs2 ?_;refine Cj ?_;refine zs2 ?_;refine Cj ?_;refine zs2 ?_;refine Pk ?_;refine bK ?_;refine ck ?_;(refine aL1 rfl rfl rfl zb32 ?_);refine gZ ?_;refine kp ?_;refine dX ?_;rw[EC];exact⟨_,ao (k:=4) aH aR aQ,.two (.cell 4 73) (.tmp 5) _ _ rfl (.cell 4 _ _ rfl rfl ah ah) (.tmp 5 rfl)⟩
  ·have EC:frD N D= .tp [dF 0 0,zI 8]:=ai fun h=>h2 (by rw[wJ hD]at h;exact pO h.2);have d1:decide (N>1000000000000000)=false:=aF aa;have d2:(!b2||decide (s2>1000000000000000))=true:=by cases b2<;>simp at hb2⊢;exact hb2
   refine bh Tryz.func135 ah rfl rfl rfl fun X0=>?_;simp only[aK];cases b2
   ·refine yt ?_;rw[EC];exact⟨_,ao (k:=4) aH aR aQ,.two (.cell 4 73) (.tmp 5) _ _ rfl (.cell 4 _ _ rfl rfl ah ah) (.tmp 5 rfl)⟩
   ·have d3:=hb2 rfl;clear d2 hb2;refine yt ?_;rw[EC];exact⟨_,ao (k:=4) aH aR aQ,.two (.cell 4 73) (.tmp 5) _ _ rfl (.cell 4 _ _ rfl rfl ah ah) (.tmp 5 rfl)⟩
 ·have EC:frD N D= .tp [dF 0 0,zI 8]:=ai fun h=>h1 (by rw[wJ hN]at h;exact pO h.1);obtain⟨s2,b2,SD⟩:∃s2 b2,Fn Tryz.prog 120 [.nm D] (.tp [zI s2,.sc (.bool b2)]):=⟨_,_,SD⟩;refine bh Tryz.func135 ah rfl rfl rfl fun X0=>?_;simp only[aK];cases b1
  ·refine yt ?_;rw[EC];exact⟨_,ao (k:=4) aH aR aQ,.two (.cell 4 73) (.tmp 5) _ _ rfl (.cell 4 _ _ rfl rfl ah ah) (.tmp 5 rfl)⟩
  ·have d3:=hb1 rfl;clear hb1;cases b2
   ·refine yt ?_;rw[EC];exact⟨_,ao (k:=4) aH aR aQ,.two (.cell 4 73) (.tmp 5) _ _ rfl (.cell 4 _ _ rfl rfl ah ah) (.tmp 5 rfl)⟩
   ·refine yt ?_;rw[EC];exact⟨_,ao (k:=4) aH aR aQ,.two (.cell 4 73) (.tmp 5) _ _ rfl (.cell 4 _ _ rfl rfl ah ah) (.tmp 5 rfl)⟩
theorem Ge(x y g N D:Int)(GC:Fn Tryz.prog 122 [.nm x,.nm y] (.nm g))(QN:Fn Tryz.prog 123 [.nm x,.nm g] (.nm N))(QD:Fn Tryz.prog 123 [.nm y,.nm g] (.nm D))(hN:(hd N.natAbs).length<=199999999)(hD:(hd D.natAbs).length<=199999999):Fn Tryz.prog 139 [.nm x,.nm y] (frD N D):=by
 have ND:=Oc [[N,D]] aV aV (by simpa using⟨hN,hD⟩);have hall:nrw [[N,D]]=if inb 1000000000000000 N=true/\inb 1000000000000000 D=true then .tp [dM [[N,D]],.sc (.bool true)]else .tp [dM [],.sc (.bool false)]:=by
  unfold nrw;simp only[pP,List.all_nil,Bool.and_true,ei]
 rw[hall]at ND;by_cases h:inb 1000000000000000 N=true/\inb 1000000000000000 D=true
 ·have EC:frD N D= .tp [dF N D,zI 0]:=an h;rw[an h]at ND;have hc0:(0:Int)=((0:Nat):Int):=rfl;have hc1:(1:Int)=((1:Nat):Int):=rfl;obtain⟨M,L,g0,g1,g2,ND⟩:∃(M:Mx.Mat) (L:List Int),M[0]?=some L/\L[0]?=some N/\L[1]?=some D/\Fn Tryz.prog 77 [dW [[N,D]]] (.tp [dM M,.sc (.bool true)]):=⟨[[N,D]],[N,D],rfl,rfl,rfl,ND⟩;refine bh Tryz.func139 ah rfl rfl rfl fun X0=>?_;simp only[aK];refine mF ?_;refine Ck ?_;refine zs2 ?_;refine av (ao (k:=6) aH aR aQ) ?_;refine zs2 ?_;refine Pj ?_;refine zs2 ?_;refine vV ?_;refine bK ?_;refine mH ?_;refine gF ?_;refine yA ?_;refine wb ?_;refine yA ?_;refine wb ?_;refine gF ?_;refine yA ?_;refine wb ?_;refine yA ?_;refine wb ?_;(first|refine aN1 rfl rfl rfl zb32 ?_|refine jP rfl rfl rfl zb32 ?_);refine jC ?_;(first|refine aN1 rfl rfl rfl zb67 ?_|refine jP rfl rfl rfl zb67 ?_);refine kB ?_;refine zs2 ?_;rw[EC];exact⟨_,ao (k:=4) aH aR aQ,.two (.cell 4 73) (.tmp 5) _ _ rfl (.cell 4 _ _ rfl rfl ah ah) (.tmp 5 rfl)⟩
 ·have EC:frD N D= .tp [dF 0 0,zI 8]:=ai h;rw[ai h]at ND;refine bh Tryz.func139 ah rfl rfl rfl fun X0=>?_;simp only[aK];refine mF ?_;refine Ck ?_;refine zs2 ?_;refine av (ao (k:=6) aH aR aQ) ?_;refine zs2 ?_;refine Pj ?_;refine zs2 ?_;refine vV ?_;refine vO ?_;rw[EC];exact⟨_,ao (k:=4) aH aR aQ,.two (.cell 4 73) (.tmp 5) _ _ rfl (.cell 4 _ _ rfl rfl ah ah) (.tmp 5 rfl)⟩
end DW
end
end Go.Proofs.YtcgjmdpcplhanaaGreat
