/- Lemmas for the law: E23 V21 M9 M10 E17 E21 E27 L0 L3 DH -/
import Derived.Test.YtcgjmdpcplhanaaGreatRows
import Derived.WalkKit
import Derived.ProofKit
import Derived.OpenShut
import Derived.ChangeOld
import Derived.ChangeSlices
import Derived.Below
import Derived.Lib.SmallJoins
import Derived.Deep.Slices
import Derived.Test.YtcgjmdpcplhanaaGreatZh10
namespace Go.Proofs.YtcgjmdpcplhanaaGreat
section
theorem Gc{p q:Prop}(h:q)(f:Wq q->p:=by(intro hW;((refine gar ?_;refine zs4 ?_;refine cZ ?_;refine zs4 ?_;refine cZ ?_;refine jN ?_;refine cZ ?_;refine ir ?_;refine ir ?_;refine zs6 ?_;refine zs6 ?_;refine af ?_));exact hW.out)):p:=f ⟨h⟩
theorem vJ{p:Prop}(h:p:=by rw[e,hy]at hx;cases hx;rfl):p:=h
theorem Gb{p q:Prop}(h:q)(f:Wq q->p:=by(intro hW;((refine zs56 ?_;refine aQ ?_;refine aQ ?_;refine cR ?_;refine bp ?_;refine aQ ?_;refine aQ ?_;refine cR ?_;refine bp ?_;refine vB ?_;refine di ?_));exact hW.out)):p:=f ⟨h⟩
theorem ve{p q:Prop}(h:q)(f:Wq q->p:=by(intro hW;((refine gar ?_;refine zs4 ?_;refine zs4 ?_;refine dh ?_;refine br ?_;refine zs5 ?_;refine zs7 ?_;refine zs4 ?_;refine zs8 ?_;refine zs8 ?_;refine vF ?_;refine qo ?_;refine iw ?_;refine mU ?_;refine iC ?_;refine zs4 ?_;refine zs8 ?_;refine zs8 ?_;refine vF ?_;refine qo ?_;refine iw ?_;refine mU ?_;refine iu ?_;refine af ?_));exact hW.out)):p:=f ⟨h⟩
theorem pj{p q:Prop}(h:q)(f:Wq q->p:=by(intro hW;((refine zy ?_;refine aQ ?_;refine aQ ?_;refine cR ?_;refine bp ?_;refine aQ ?_;refine aQ ?_;refine cR ?_;refine bp ?_;refine gT ?_;refine zs42 ?_;refine di ?_));exact hW.out)):p:=f ⟨h⟩
theorem te{p:Prop}(h:p:=by simp[D.is,Nat.beq_refl]):p:=h
theorem zK{p q:Prop}(h:q)(f:Wq q->p:=by(intro hW;((refine gar ?_;refine zs4 ?_;refine zs5 ?_;refine zs7 ?_;refine zs4 ?_;refine zs8 ?_;refine iw ?_;refine mU ?_;refine iC ?_;refine zs4 ?_;refine zs8 ?_;refine iw ?_;refine mU ?_;refine iu ?_;refine af ?_));exact hW.out)):p:=f ⟨h⟩
end
section
open Go.RowKit
namespace DW
theorem sO{M:Mx.Mat}{B:Nat}(h:Mx.Bd B M){r:List Int}(hr:r∈M){z:Int}(hz:z∈r):z.natAbs<=B:=by
 obtain⟨i,hi,e⟩:=List.getElem_of_mem hr;obtain⟨j,hj,e2⟩:=List.getElem_of_mem hz;have:=h i j;unfold Mx.at' Mx.rw at this;rw[List.getD_eq_getElem?_getD,List.getD_eq_getElem?_getD,List.getElem?_eq_getElem hi,e,Option.getD_some,List.getElem?_eq_getElem hj,e2]at this;exact this
def rHM(m:Mx.Mat):Mx.Mat:=(Mx.red (wid m) 0 (0,m)).2
theorem ym{w:Nat}(h:w<=5):2*(50*11^w)<=3000000000:=by
 have:(11:Nat)^w<=11^5:=Nat.pow_le_pow_right (by omega) h;omega
theorem JU{m:Mx.Mat}(hc:chk m=0):Mx.Bd (2^(50*11^wid m)) (rHM m):=by
 have:=Mx.wo (n:=wid m) (e:=50) (by omega) (wid m) 0 0 m (eK hc).2.2.1 (by simpa using oW hc);rw[Nat.zero_add]at this;exact this
theorem Cw{m:Mx.Mat}(hc:chk m=0):Mx.RE m (rHM m):=Mx.iG _ _ (0,m) (eK hc).2.2.1
theorem yC{m:Mx.Mat}(hc:chk m=0):(rHM m).length=m.length:=(Cw hc).len
theorem Cx{m:Mx.Mat}(hc:chk m=0):Mx.Rc (wid m) (rHM m):=(Cw hc).rc (eK hc).2.2.1
set_option maxRecDepth 20000
set_option maxHeartbeats 2000000
theorem uP(m:Mx.Mat)(hc:chk m=0)(hw:wid m<=5)(h5:m.length<=5):Fn Tryz.prog 18 [dM m] (nrw (rHM m)):=by
 obtain⟨k1,k2,k3,k4⟩:=eK hc;have hR:=Cx hc;have hl:=yC hc;have W:=vQ m (by omega) (fun l hl=>by have:=k3 l hl;omega) (fun l hl z hz=>ug hc l hl z hz);have C:=lP m;have E:=Dq m (wid m) (wid m) 50 k3 (Nat.le_refl _) (by omega) (by omega) (by omega) (ym h5) (oW hc);have N:=Fg (rHM m) (by omega) (fun l hl=>by have:=hR l hl;omega) (fun l hl z hz=>jo (sO (JU hc) hl hz) (by have:=ym hw;omega));rw[show(Mx.red (wid m) 0 (0,m)).2=rHM m from rfl]at E;clear hc hw k1 k2 k3 k4 hR hl;generalize rHM m=R at*;unfold nrw at N⊢;split at N
 ·next h=>
  rw[if_pos h];refine bn Tryz.func18 ae rfl rfl rfl fun X0=>?_;simp only[aE]
  (repeat(first|refine gk fun K hK=>?_|refine zs2 ?_));refine rj ?_;(repeat(first|refine gk fun K hK=>?_|refine zs2 ?_));refine Gc ?_;(repeat(first|refine gk fun K hK=>?_|refine zs2 ?_))
  exact⟨_,Sh.refl,.two (.tmp 2) (.tmp 3) _ _ rfl (.tmp 2 rfl) (.tmp 3 rfl)⟩
 ·next h=>
  rw[if_neg h];refine bn Tryz.func18 ae rfl rfl rfl fun X0=>?_;simp only[aE]
  (repeat(first|refine gk fun K hK=>?_|refine zs2 ?_));refine rj ?_;(repeat(first|refine gk fun K hK=>?_|refine zs2 ?_));refine Gc ?_;(repeat(first|refine gk fun K hK=>?_|refine zs2 ?_))
  exact⟨_,Sh.refl,.two (.tmp 2) (.tmp 3) _ _ rfl (.tmp 2 rfl) (.tmp 3 rfl)⟩
end DW
end
section
open Go.RowKit Go.BigFrame
attribute [local go_sem ↓] Go.wp_at_zero Go.wp_at_succ
theorem ZMB.base{B B':Nat}{w:World}{v:Value}{m:List (List Int)}(h:ZMB B w v m)(hb:B'<=B):ZMB B' w v m:=by
 obtain⟨a,cap,rfl,hc,h⟩:=h;refine⟨a,cap,rfl,hc,?_⟩;rcases h with h|⟨g,rfl,h1,hg,h2⟩
 ·exact .inl h
 ·refine .inr ⟨g,rfl,by omega,hg,fun i l hl=>?_⟩;obtain⟨g',h3,h4,h5⟩:=h2 i l hl;exact⟨g',h3,by omega,h5⟩
theorem Ef{m:Mx.Mat}(h:Mx.Rc (wid m) m):(cj m).length=m.length:=by unfold cj dp;rw[List.length_map,pd h]
theorem Hp{m:Mx.Mat}(h:Mx.Rc (wid m) m):Mx.Rc m.length (cj m):=fun r hr=>by
 obtain⟨x,hx,rfl⟩:=List.mem_map.1 hr;rw[List.length_drop,Hq h x hx];omega
end
section
namespace Mx
theorem vq{n:Nat}{M:Mat}{i j:Nat}(h:j<n):at' (tk n M) i j=at' M i j:=by rw[zi,if_pos h]
theorem uT{n:Nat}(l:List Int){j:Nat}(h:j<n):(l.take n).getD j 0=l.getD j 0:=by
 rw[List.getD_eq_getElem?_getD,List.getD_eq_getElem?_getD,List.getElem?_take,if_pos h]
theorem rP(n:Nat)(M:Mat)(i:Nat)(r:List Int):(tk n M).set i (r.take n)=tk n (M.set i r):=by
 unfold tk;rw[List.map_set]
theorem sk(n:Nat)(M:Mat):(tk n M).length=M.length:=by simp[tk]
theorem JI(n:Nat)(M:Mat)(i j:Nat):swp (tk n M) i j=tk n (swp M i j):=by
 unfold swp;rw[nh,nh,rP,rP]
theorem A9{n c:Nat}(h:c<n)(p a:List Int):cq (p.take n) c (a.take n)=(cq p c a).take n:=by
 unfold cq bP;rw[uT _ h,uT _ h,List.take_zipWith]
theorem J0(n:Nat)(a:List Int):neg (a.take n)=(neg a).take n:=by unfold neg;rw[List.map_take]
theorem qU{n c:Nat}(h:c<n)(r s:Nat)(M:Mat):∀k,aD r c s (tk n M) k=tk n (aD r c s M k)
 |0=>rfl
 |k+1=>by
  unfold aD;rw[qU h r s M k,nh,nh,A9 h,rP]
theorem yx{n c:Nat}(h:c<n)(r:Nat)(M:Mat):∀k,scan c r (tk n M) k=scan c r M k
 |0=>rfl
 |k+1=>by
  unfold scan;simp only[yx h r M k,vq h]
theorem Ix{n c:Nat}(h:c<n)(r:Nat)(M:Mat):pick r c (tk n M)=pick r c M:=by
 unfold pick;rw[sk,yx h]
theorem yp{n c:Nat}(h:c<n)(r:Nat)(M:Mat):∀k,ff r c (tk n M) k=ff r c M k
 |0=>rfl
 |k+1=>by
  unfold ff;rw[yp h r M k,vq h]
theorem I4{n c:Nat}(h:c<n)(r:Nat)(M:Mat):elim r c (tk n M)=tk n (elim r c M):=by
 unfold elim;rw[sk,qU h]
theorem zg{n c:Nat}(h:c<n)(r:Nat):∀(f:Nat) (M:Mat),lg r c f (tk n M)=tk n (lg r c f M)
 |0,_=>rfl
 |f+1,M=>by
  unfold lg;rw[Ix h]
  cases(pick r c M).1 with
  |none=>rfl
  |some t=>
   simp only;rw[JI,I4 h,zg h r f];split<;>rfl
theorem Jb{n c:Nat}(h:c<n)(r:Nat)(M:Mat):cv r c (tk n M)=tk n (cv r c M):=by
 unfold cv fK;rw[sk,yp h,zg h]
theorem Im{n c:Nat}(h:c<n)(r:Nat)(M:Mat):bN r c (tk n M)=tk n (bN r c M):=by
 unfold bN;rw[vq h,nh,J0,rP];split<;>rfl
theorem FV{n c:Nat}(h:c<n)(r:Nat)(M:Mat):gC r c (tk n M)=tk n (gC r c M):=qU h r 0 M r
theorem Ic{n c:Nat}(h:c<n)(r:Nat)(M:Mat):step r c (tk n M)=((step r c M).1,tk n (step r c M).2):=by
 unfold step;simp only[];rw[Jb h,vq h,Im h,FV h];split<;>rfl
theorem Cv{n:Nat}:∀(k c r:Nat) (M:Mat),c+k<=n->red k c (r,tk n M)=((red k c (r,M)).1,tk n (red k c (r,M)).2)
 |0,_,_,_,_=>rfl
 |k+1,c,r,M,h=>by
  unfold red;simp only[sk];split
  ·rw[Ic (by omega)];exact Cv k (c+1) (step r c M).1 (step r c M).2 (by omega)
  ·rfl
theorem JH{m:Mat}(h:Rc (wid m) m):tk (wid m) (cD m)=m:=by
 apply List.ext_getElem?;intro i;unfold tk;rw[List.getElem?_map];by_cases hi:i<m.length
 ·rw[kX hi,eI hi];simp only[Option.map_some,Option.some.injEq];rw[List.take_left' (h.rw hi)]
 ·rw[List.getElem?_eq_none (by rw[fj];omega),List.getElem?_eq_none (by omega)];rfl
theorem pJ{m:Mat}(h:Rc (wid m) m):red (wid m) 0 (0,m)=((HT m).1,ba m):=by
 have:=Cv (n:=wid m) (wid m) 0 0 (cD m) (by omega);rw[JH h]at this;exact this
end Mx
end
section
namespace Mx
theorem Ee{m:Mat}(h:Rc (wid m) m):D m.length (at' (cj m))=1\/D m.length (at' (cj m))= -1:=by
 have h1:=RE.det (wid m) (iG (wid m) 0 (0,cD m) (fD h)) (fD h);rw[show red (wid m) 0 (0,cD m)=HT m from rfl]at h1;simp only[fj]at h1;have e1:D m.length (rb (wid m) (cD m))=1:=by
  rw[<-Hr m.length];refine mT _ _ _ fun i j hi hj=>?_;unfold rb at';rw[show rw (cD m) i=rw m i++cO m.length i from by unfold rw;rw[List.getD_eq_getElem?_getD,kX hi];rfl];rw[List.getD_eq_getElem?_getD,List.getElem?_append_right (by rw[h.rw hi];omega),h.rw hi,Nat.add_sub_cancel_left];unfold cO;by_cases e:i=j
  ·subst e;rw[if_pos rfl,List.getElem?_set_self (by simpa using hi)];rfl
  ·rw[if_neg e,List.getElem?_set_ne e,List.getElem?_replicate,if_pos hj];rfl
 have e2:D m.length (rb (wid m) (HT m).2)=D m.length (at' (cj m)):=mT _ _ _ fun i j _ _=>by
  unfold rb cj;rw[zj]
 rw[e1,e2]at h1;exact h1
end Mx
end
section
open Go.RowKit
namespace DW
theorem gF{α:Type}{a b:List α}(hl:a.length=b.length)(h:a.take a.length=b.take a.length):a=b:=by
 rw[List.take_length]at h;rw[h,hl,List.take_length]
set_option maxRecDepth 20000
set_option maxHeartbeats 1000000
theorem Kb(a b:List Int)(ha:a.length<=1000000000):Fn Tryz.prog 55 [dI a,dI b] (.sc (.bool (decide (a=b)))):=by
 refine bn Tryz.func55 ae rfl rfl rfl fun X0=>?_;simp only[aE];by_cases hl:a.length=b.length
 ·(repeat(first|refine gk fun K hK=>?_|refine zs2 ?_));refine bg ?_;(repeat(first|refine gk fun K hK=>?_|refine zs2 ?_));refine jw ?_;(repeat(first|refine gk fun K hK=>?_|refine zs2 ?_))
  refine az ?_
  (repeat(first|refine gk fun K hK=>?_|refine zs2 ?_));refine aS ?_;(repeat(first|refine gk fun K hK=>?_|refine zs2 ?_))
  (refine aq (aj (sl':=[(0,dI a),(1,dI b),(5,zI 0)]) (ow':=[]) au ay) ?_)
  refine aF (fun r s=>∃k,k<=a.length/\r=a.length-k/\a.take k=b.take k/\s=⟨[(0,dI a),(1,dI b),(5,zI (k:Nat))],[]⟩) (m:=a.length) ⟨0,Nat.zero_le _,rfl,rfl,rfl⟩ fun r s hs=>?_;obtain⟨k,hk,rfl,he,rfl⟩:=hs;by_cases hkl:k<a.length
  ·obtain⟨x,hx⟩:=get_some hkl;obtain⟨y,hy⟩:=get_some (m:=b) (k:=k) (by omega);by_cases hxy:x=y
   ·(repeat(first|refine gk fun K hK=>?_|refine zs2 ?_));refine aH ?_;(repeat(first|refine gk fun K hK=>?_|refine zs2 ?_))
    refine av ?_
    (repeat(first|refine gk fun K hK=>?_|refine zs2 ?_));refine Gb ?_;(repeat(first|refine gk fun K hK=>?_|refine zs2 ?_))
    refine az ?_
    (repeat(first|refine gk fun K hK=>?_|refine zs2 ?_));refine aZ ?_;(repeat(first|refine gk fun K hK=>?_|refine zs2 ?_))
    simp only[nx,inB];exact⟨a.length-(k+1),_,by omega,(aj (sl':=[(0,dI a),(1,dI b),(5,zI ((k+1:Nat):Int))]) (ow':=[]) au ay),k+1,by omega,rfl,by rw[aX hx,aX hy,he,hxy],rfl⟩
   ·have EC:decide (a=b)=false:=decide_eq_false fun e=>hxy vJ
    (repeat(first|refine gk fun K hK=>?_|refine zs2 ?_));refine aH ?_;(repeat(first|refine gk fun K hK=>?_|refine zs2 ?_))
    refine av ?_
    (repeat(first|refine gk fun K hK=>?_|refine zs2 ?_));refine Gb ?_;(repeat(first|refine gk fun K hK=>?_|refine zs2 ?_))
    refine av ?_
    (repeat(first|refine gk fun K hK=>?_|refine zs2 ?_));refine bg ?_;(repeat(first|refine gk fun K hK=>?_|refine zs2 ?_))
    rw[EC];exact⟨_,Sh.refl,.one (.tmp 4) _ rfl (.tmp 4 rfl)⟩
  ·obtain rfl:k=a.length:=by omega
   have EC:decide (a=b)=true:=decide_eq_true (gF hl he)
   (repeat(first|refine gk fun K hK=>?_|refine zs2 ?_));refine aH ?_;(repeat(first|refine gk fun K hK=>?_|refine zs2 ?_))
   refine az ?_
   (repeat(first|refine gk fun K hK=>?_|refine zs2 ?_));refine bg ?_;(repeat(first|refine gk fun K hK=>?_|refine zs2 ?_))
   rw[EC];exact⟨_,Sh.refl,.one (.tmp 4) _ rfl (.tmp 4 rfl)⟩
 ·have EC:decide (a=b)=false:=decide_eq_false fun e=>hl (by rw[e])
  (repeat(first|refine gk fun K hK=>?_|refine zs2 ?_));refine bg ?_;(repeat(first|refine gk fun K hK=>?_|refine zs2 ?_));refine jw ?_;(repeat(first|refine gk fun K hK=>?_|refine zs2 ?_))
  refine av ?_
  (repeat(first|refine gk fun K hK=>?_|refine zs2 ?_));refine bg ?_;(repeat(first|refine gk fun K hK=>?_|refine zs2 ?_))
  rw[EC];exact⟨_,Sh.refl,.one (.tmp 4) _ rfl (.tmp 4 rfl)⟩
theorem IL(a b:List (List Int))(ha:a.length<=1000000000)(ha2:∀l∈a,l.length<=1000000000):Fn Tryz.prog 19 [dM a,dM b] (.sc (.bool (decide (a=b)))):=by
 refine bn Tryz.func19 ae rfl rfl rfl fun X0=>?_;simp only[aE];by_cases hl:a.length=b.length
 ·(repeat(first|refine gk fun K hK=>?_|refine zs2 ?_));refine bg ?_;(repeat(first|refine gk fun K hK=>?_|refine zs2 ?_));refine jw ?_;(repeat(first|refine gk fun K hK=>?_|refine zs2 ?_))
  refine az ?_
  (repeat(first|refine gk fun K hK=>?_|refine zs2 ?_));refine aS ?_;(repeat(first|refine gk fun K hK=>?_|refine zs2 ?_))
  (refine aq (aj (sl':=[(0,dM a),(1,dM b),(5,zI 0)]) (ow':=[]) au ay) ?_)
  refine aF (fun r s=>∃k,k<=a.length/\r=a.length-k/\a.take k=b.take k/\s=⟨[(0,dM a),(1,dM b),(5,zI (k:Nat))],[]⟩) (m:=a.length) ⟨0,Nat.zero_le _,rfl,rfl,rfl⟩ fun r s hs=>?_;obtain⟨k,hk,rfl,he,rfl⟩:=hs;by_cases hkl:k<a.length
  ·obtain⟨x,hx⟩:=get_some hkl;obtain⟨y,hy⟩:=get_some (m:=b) (k:=k) (by omega);have IN:=Kb x y (ha2 x (List.mem_of_getElem? hx));by_cases hxy:x=y
   ·rw[decide_eq_true hxy]at IN
    (repeat(first|refine gk fun K hK=>?_|refine zs2 ?_));refine aH ?_;(repeat(first|refine gk fun K hK=>?_|refine zs2 ?_))
    refine av ?_
    (repeat(first|refine gk fun K hK=>?_|refine zs2 ?_));refine pj ?_;(repeat(first|refine gk fun K hK=>?_|refine zs2 ?_))
    refine az ?_
    (repeat(first|refine gk fun K hK=>?_|refine zs2 ?_));refine aZ ?_;(repeat(first|refine gk fun K hK=>?_|refine zs2 ?_))
    simp only[nx,inB];exact⟨a.length-(k+1),_,by omega,(aj (sl':=[(0,dM a),(1,dM b),(5,zI ((k+1:Nat):Int))]) (ow':=[]) au ay),k+1,by omega,rfl,by rw[aX hx,aX hy,he,hxy],rfl⟩
   ·rw[decide_eq_false hxy]at IN;have EC:decide (a=b)=false:=decide_eq_false fun e=>hxy vJ
    (repeat(first|refine gk fun K hK=>?_|refine zs2 ?_));refine aH ?_;(repeat(first|refine gk fun K hK=>?_|refine zs2 ?_))
    refine av ?_
    (repeat(first|refine gk fun K hK=>?_|refine zs2 ?_));refine pj ?_;(repeat(first|refine gk fun K hK=>?_|refine zs2 ?_))
    refine av ?_
    (repeat(first|refine gk fun K hK=>?_|refine zs2 ?_));refine bg ?_;(repeat(first|refine gk fun K hK=>?_|refine zs2 ?_))
    rw[EC];exact⟨_,Sh.refl,.one (.tmp 4) _ rfl (.tmp 4 rfl)⟩
  ·obtain rfl:k=a.length:=by omega
   have EC:decide (a=b)=true:=decide_eq_true (gF hl he)
   (repeat(first|refine gk fun K hK=>?_|refine zs2 ?_));refine aH ?_;(repeat(first|refine gk fun K hK=>?_|refine zs2 ?_))
   refine az ?_
   (repeat(first|refine gk fun K hK=>?_|refine zs2 ?_));refine bg ?_;(repeat(first|refine gk fun K hK=>?_|refine zs2 ?_))
   rw[EC];exact⟨_,Sh.refl,.one (.tmp 4) _ rfl (.tmp 4 rfl)⟩
 ·have EC:decide (a=b)=false:=decide_eq_false fun e=>hl (by rw[e])
  (repeat(first|refine gk fun K hK=>?_|refine zs2 ?_));refine bg ?_;(repeat(first|refine gk fun K hK=>?_|refine zs2 ?_));refine jw ?_;(repeat(first|refine gk fun K hK=>?_|refine zs2 ?_))
  refine av ?_
  (repeat(first|refine gk fun K hK=>?_|refine zs2 ?_));refine bg ?_;(repeat(first|refine gk fun K hK=>?_|refine zs2 ?_))
  rw[EC];exact⟨_,Sh.refl,.one (.tmp 4) _ rfl (.tmp 4 rfl)⟩
end DW
end
section
open Go.RowKit
namespace DW
def smq(n:Nat):Bool:=decide ((5<n/\n<=64)\/70<n)
def smL(m:List (List Int)):Bool:=!(smq m.length)&&m.all fun l=>!(smq l.length)
theorem JK{m:List (List Int)}{l:List Int}(h:l∈m)(h2:smq l.length=true):smL m=false:=by
 unfold smL;rw[Bool.and_eq_false_iff];right;rw[List.all_eq_false];exact⟨l,h,by rw[h2];decide⟩
set_option maxRecDepth 20000
set_option maxHeartbeats 1000000
theorem qy(m:List (List Int)):Fn Tryz.prog 14 [dM m] (.sc (.bool (smL m))):=by
 refine bn Tryz.func14 ae rfl rfl rfl fun X0=>?_;simp only[aE];by_cases hq:smq m.length=true
 ·have EC:smL m=false:=by unfold smL;rw[hq];rfl
  have hq':=of_decide_eq_true hq;rcases hq' with⟨h1,h2⟩|h1
  ·have d1:decide ((m.length:Int)>5)=true:=decide_eq_true (by omega);have d2:decide ((m.length:Int)<=64)=true:=decide_eq_true (by omega)
   (repeat(first|refine gk fun K hK=>?_|refine zs2 ?_));refine bg ?_;(repeat(first|refine gk fun K hK=>?_|refine zs2 ?_));refine zK ?_;(repeat(first|refine gk fun K hK=>?_|refine zs2 ?_))
   refine av ?_
   (repeat(first|refine gk fun K hK=>?_|refine zs2 ?_));refine bg ?_;(repeat(first|refine gk fun K hK=>?_|refine zs2 ?_))
   rw[EC];exact⟨_,Sh.refl, .one (.tmp 2) _ rfl (.tmp 2 rfl)⟩
  ·have d1:decide ((m.length:Int)>5)=true:=decide_eq_true (by omega);have d2:decide ((m.length:Int)<=64)=false:=decide_eq_false (by omega)
   (repeat(first|refine gk fun K hK=>?_|refine zs2 ?_));refine bg ?_;(repeat(first|refine gk fun K hK=>?_|refine zs2 ?_));refine zK ?_;(repeat(first|refine gk fun K hK=>?_|refine zs2 ?_))
   refine av ?_
   (repeat(first|refine gk fun K hK=>?_|refine zs2 ?_));refine bg ?_;(repeat(first|refine gk fun K hK=>?_|refine zs2 ?_))
   rw[EC];exact⟨_,Sh.refl, .one (.tmp 2) _ rfl (.tmp 2 rfl)⟩
 ·have hq0:smq m.length=false:=by simpa using hq
  have hq':=of_decide_eq_false hq0;have hml:m.length<=70:=by omega
  have hc:m.length<=5\/(64<m.length/\m.length<=70):=by omega
  rcases hc with h1|⟨h1,h2⟩;all_goals
   first
   |have d1:decide ((m.length:Int)>5)=false:=decide_eq_false (by omega)
   | (have d1 : decide ((m.length : Int) > 5) = true := decide_eq_true (by omega)
      have d2:decide ((m.length:Int)<=64)=false:=decide_eq_false (by omega))
   (repeat(first|refine gk fun K hK=>?_|refine zs2 ?_));refine bg ?_;(repeat(first|refine gk fun K hK=>?_|refine zs2 ?_));refine zK ?_;(repeat(first|refine gk fun K hK=>?_|refine zs2 ?_))
   refine az ?_
   (repeat(first|refine gk fun K hK=>?_|refine zs2 ?_));refine aS ?_;(repeat(first|refine gk fun K hK=>?_|refine zs2 ?_))
   (refine aq (aj (sl':=[(0,dM m),(3,zI 0)]) (ow':=[]) au ay) ?_)
   refine aF (fun r s=>∃k,k<=m.length/\r=m.length-k/\(m.take k).all (fun l=> !(smq l.length))=true/\s=⟨[(0,dM m),(3,zI (k:Nat))],[]⟩) (m:=m.length) ⟨0,Nat.zero_le _,rfl,rfl,rfl⟩ fun r s hs=>?_;obtain⟨k,hk,rfl,he,rfl⟩:=hs;by_cases hkl:k<m.length
   ·obtain⟨l,hl⟩:=get_some hkl;by_cases hql:smq l.length=true
    ·have EC:=JK (List.mem_of_getElem? hl) hql;have hql':=of_decide_eq_true hql;have d3:decide ((l.length:Int)>5)=true:=decide_eq_true (by omega);rcases hql' with⟨h3,h4⟩|h3
     ·have d4:decide ((l.length:Int)<=64)=true:=decide_eq_true (by omega)
      (repeat(first|refine gk fun K hK=>?_|refine zs2 ?_));refine aH ?_;(repeat(first|refine gk fun K hK=>?_|refine zs2 ?_))
      refine av ?_
      (repeat(first|refine gk fun K hK=>?_|refine zs2 ?_));refine ve ?_;(repeat(first|refine gk fun K hK=>?_|refine zs2 ?_))
      refine av ?_
      (repeat(first|refine gk fun K hK=>?_|refine zs2 ?_));refine bg ?_;(repeat(first|refine gk fun K hK=>?_|refine zs2 ?_))
      rw[EC];exact⟨_,Sh.refl, .one (.tmp 2) _ rfl (.tmp 2 rfl)⟩
     ·have d4:decide ((l.length:Int)<=64)=false:=decide_eq_false (by omega)
      (repeat(first|refine gk fun K hK=>?_|refine zs2 ?_));refine aH ?_;(repeat(first|refine gk fun K hK=>?_|refine zs2 ?_))
      refine av ?_
      (repeat(first|refine gk fun K hK=>?_|refine zs2 ?_));refine ve ?_;(repeat(first|refine gk fun K hK=>?_|refine zs2 ?_))
      refine av ?_
      (repeat(first|refine gk fun K hK=>?_|refine zs2 ?_));refine bg ?_;(repeat(first|refine gk fun K hK=>?_|refine zs2 ?_))
      rw[EC];exact⟨_,Sh.refl, .one (.tmp 2) _ rfl (.tmp 2 rfl)⟩
    ·have hql0:smq l.length=false:=by simpa using hql
     have hql':=of_decide_eq_false hql0;have he':(m.take (k+1)).all (fun l=> !(smq l.length))=true:=by rw[aX hl,List.all_append,he];simp[hql0]
     have hc2:l.length<=5\/(64<l.length/\l.length<=70):=by omega
     rcases hc2 with h3|⟨h3,h4⟩
     ·have d3:decide ((l.length:Int)>5)=false:=decide_eq_false (by omega)
      (repeat(first|refine gk fun K hK=>?_|refine zs2 ?_));refine aH ?_;(repeat(first|refine gk fun K hK=>?_|refine zs2 ?_))
      refine av ?_
      (repeat(first|refine gk fun K hK=>?_|refine zs2 ?_));refine ve ?_;(repeat(first|refine gk fun K hK=>?_|refine zs2 ?_))
      refine az ?_
      (repeat(first|refine gk fun K hK=>?_|refine zs2 ?_));refine aZ ?_;(repeat(first|refine gk fun K hK=>?_|refine zs2 ?_))
      simp only[nx,inB];exact⟨m.length-(k+1),_,by omega,(aj (sl':=[(0,dM m),(3,zI ((k+1:Nat):Int))]) (ow':=[]) au ay),k+1,by omega,rfl,he',rfl⟩
     ·have d3:decide ((l.length:Int)>5)=true:=decide_eq_true (by omega);have d4:decide ((l.length:Int)<=64)=false:=decide_eq_false (by omega)
      (repeat(first|refine gk fun K hK=>?_|refine zs2 ?_));refine aH ?_;(repeat(first|refine gk fun K hK=>?_|refine zs2 ?_))
      refine av ?_
      (repeat(first|refine gk fun K hK=>?_|refine zs2 ?_));refine ve ?_;(repeat(first|refine gk fun K hK=>?_|refine zs2 ?_))
      refine az ?_
      (repeat(first|refine gk fun K hK=>?_|refine zs2 ?_));refine aZ ?_;(repeat(first|refine gk fun K hK=>?_|refine zs2 ?_))
      simp only[nx,inB];exact⟨m.length-(k+1),_,by omega,(aj (sl':=[(0,dM m),(3,zI ((k+1:Nat):Int))]) (ow':=[]) au ay),k+1,by omega,rfl,he',rfl⟩
   ·obtain rfl:k=m.length:=by omega
    rw[List.take_length]at he;have EC:smL m=true:=by unfold smL;rw[hq0,he];rfl
    (repeat(first|refine gk fun K hK=>?_|refine zs2 ?_));refine aH ?_;(repeat(first|refine gk fun K hK=>?_|refine zs2 ?_))
    refine az ?_
    (repeat(first|refine gk fun K hK=>?_|refine zs2 ?_));refine bg ?_;(repeat(first|refine gk fun K hK=>?_|refine zs2 ?_))
    rw[EC];exact⟨_,Sh.refl, .one (.tmp 2) _ rfl (.tmp 2 rfl)⟩
end DW
end
section
open Go.RowKit
namespace DW
theorem pZ(b o j:Nat):(⟨b,o,none⟩:Addr).add j=⟨b,o+j,none⟩:=Addr.add_mid b o j
theorem Jg{X:Nat->Prop}{w:World}{l:List Int}{v:Value}(h:AR X w (dI l) v):∃a c,v= .slice a l.length c/\l.length<=c/\ZAt w a l:=by
 simp only[dI,AR]at h;obtain⟨a,c,rfl,h2,h3⟩:=h;rw[List.length_map]at h2;refine⟨a,c,by rw[List.length_map],h2,?_⟩;rcases h3 with h3|⟨b,o,rfl,_,hb,hs⟩
 ·exact .inl (by simpa using h3)
 ·refine .inr ⟨⟨b,o,none⟩,rfl,hb,fun k x hk=>?_⟩;obtain⟨u,h4,_,_,h7⟩:=ARs.at hs (i:=k) (d:=zI x) (by rw[List.getElem?_map,hk];rfl);simp only[AR]at h4;obtain⟨rfl,_⟩:=h4;have:=h7 0 (.int .i64 x) rfl;rw[pZ];simpa using this
theorem Kp{X:Nat->Prop}{w:World}{m:List (List Int)}{v:Value}(h:AR X w (dM m) v):ZM w v m:=by
 simp only[dM,AR]at h;obtain⟨a,c,rfl,h2,h3⟩:=h;rw[List.length_map]at h2;refine⟨a,c,by rw[List.length_map],h2,?_⟩;rcases h3 with h3|⟨b,o,rfl,_,hb,hs⟩
 ·exact .inl (by simpa using h3)
 ·refine .inr ⟨⟨b,o,none⟩,rfl,hb,fun k l hk=>?_⟩;obtain⟨u,h4,_,_,h7⟩:=ARs.at hs (i:=k) (d:=dI l) (by rw[List.getElem?_map,hk];rfl);obtain⟨a',c',rfl,h8,h9⟩:=Jg h4;have:=h7 0 _ rfl;rw[pZ];exact⟨a',c',by simpa using this,h8,h9⟩
theorem Hs{X:Nat->Prop}{B:Nat}{w:World}{m:List (List Int)}{v:Value}(h:ZMB B w v m)(hX:∀b,X b->b<B):AR X w (dM m) v:=by
 obtain⟨a,cap,rfl,hc,h⟩:=h;simp only[dM,AR];refine⟨a,cap,by rw[List.length_map],by rw[List.length_map];exact hc,?_⟩;rcases h with h|⟨g,rfl,h1,hg,h2⟩
 ·exact .inl (by rw[h];rfl)
 ·refine .inr ⟨g,0,rfl,fun hx=>by have:=hX g hx;omega,hg,ARs.mk fun i d hd=>?_⟩;rw[List.getElem?_map]at hd;obtain⟨l,hl,rfl⟩:=Option.map_eq_some_iff.1 hd;obtain⟨g',h3,h4,h5⟩:=h2 i l hl;refine⟨.slice (some ⟨g',0,none⟩) l.length l.length,?_,rfl,rfl,fun j u hj=>?_⟩
  ·simp only[dI,AR];refine⟨_,_,by rw[List.length_map],by rw[List.length_map];exact Nat.le_refl _,.inr ⟨g',0,rfl,fun hx=>by have:=hX g' hx;omega,h5.lt,ARs.mk fun k d hd=>?_⟩⟩;rw[List.getElem?_map]at hd;obtain⟨z,hz,rfl⟩:=Option.map_eq_some_iff.1 hd;refine⟨.int .i64 z,by simp only[zI,AR];exact⟨trivial,rfl⟩,rfl,rfl,fun j u hj=>?_⟩
   match j,hj with
   |0,hj=>
    have:u= .int .i64 z:=by simpa[Value.cells]using hj.symm
    rw[this];simpa using h5.c k z hz
   |j+1,hj=>simp[Value.cells]at hj
  ·match j,hj with
   |0,hj=>
    have:u= .slice (some ⟨g',0,none⟩) l.length l.length:=by simpa[Value.cells]using hj.symm
    rw[this];simpa using h3
   |j+1,hj=>simp[Value.cells]at hj
theorem um{X:Nat->Prop}{w:World}:AR X w (dM []) (.slice none 0 0):=by
 simp only[dM,List.map_nil,AR];exact⟨none,0,rfl,Nat.le_refl _,.inl (by simp)⟩
theorem Bu{X:Nat->Prop}{w:World}(z:Int):AR X w (zI z) (.int .i64 z):=by simp only[zI,AR];exact⟨trivial,rfl⟩
theorem yQ{M:Mx.Mat}:InL 1000000000000000 M↔M.all (fun l=>l.all (inb 1000000000000000))=true:=by
 constructor
 ·intro h;refine List.all_eq_true.2 fun l hl=>List.all_eq_true.2 fun z hz=>mJ.2 ?_;have:=sO (B:=1000000000000000) h hl hz;omega
 ·intro h i j;rcases at_mem M i j with h1|⟨r,hr,hz⟩
  ·rw[h1];exact Nat.zero_le _
  ·have:=mJ.1 (List.all_eq_true.1 (List.all_eq_true.1 h r hr) _ hz);omega
end DW
end
section
open Go.ChangeShapes Go.WideShapes Go.ChangeAt Go.RowKit Go.Joins Go.Deep
theorem own:ownKnob Tryz.prog.godebug=none:=by kernel_rfl
theorem laidOut:laidOutB Tryz.prog=true:=by kernel_rfl
theorem Dz:Tryz.prog.cellsOf 3=1:=by kernel_rfl
theorem Bm:Tryz.prog.cellsOf 40=1:=by kernel_rfl
namespace DW
theorem va{w:World}{a:Addr}{v:Value}(h:w.cell? a=some v):a=⟨a.block,a.off,none⟩:=by
 obtain⟨b,o,s⟩:=a
 cases s with
 |none=>rfl
 |some k=>
  unfold World.cell? at h;simp only at h;split at h
  ·simp at h
  ·cases h
theorem Jj{w:World}{a:Addr}{l:List Int}{cap:Nat}(hc:l.length<=cap)(h:∀i,i<l.length->w.cell? (a.add i)=some (.int .i64 (l.getD i 0))):AR (fun _=>False) w (dI l) (.slice (some a) l.length cap):=by
 simp only[dI,AR];refine⟨some a,cap,by rw[List.length_map],by rw[List.length_map];exact hc,?_⟩;by_cases hl:l=[]
 ·exact .inl (by rw[hl];rfl)
 ·have hp:0<l.length:=List.length_pos_iff.2 hl;have h0:w.cell? a=some (.int .i64 (l.getD 0 0)):=h 0 hp;have ha:=va h0;refine .inr ⟨a.block,a.off,congrArg some ha,fun h=>h,World.block_lt_of_cell? w _ h0,ARs.mk fun i d hd=>?_⟩;rw[List.getElem?_map]at hd;obtain⟨z,hz,rfl⟩:=Option.map_eq_some_iff.1 hd;have hi:=(List.getElem?_eq_some_iff.1 hz).1;refine⟨.int .i64 z,Bu z,rfl,rfl,fun j u hj=>?_⟩
  match j,hj with
  |0,hj=>
   have:u= .int .i64 z:=by simpa[Value.cells]using hj.symm
   have h1:=h i hi;rw[List.getD_eq_getElem?_getD,hz]at h1;rw[this,Nat.mul_one,Nat.add_zero];rw[ha,pZ]at h1;exact h1
  |j+1,hj=>simp[Value.cells]at hj
theorem Ji{w:World}{a:Addr}{m:List (List Int)}{cap:Nat}(hc:m.length<=cap)(h:∀i l,m[i]?=some l->∃u,w.cell? (a.add i)=some u/\AR (fun _=>False) w (dI l) u):AR (fun _=>False) w (dM m) (.slice (some a) m.length cap):=by
 simp only[dM,AR];refine⟨some a,cap,by rw[List.length_map],by rw[List.length_map];exact hc,?_⟩
 cases m with
 |nil=>exact .inl rfl
 |cons l0 m0=>
  obtain⟨u0,h0,_⟩:=h 0 l0 rfl;have ha:=va (show w.cell? a=some u0 from h0);refine .inr ⟨a.block,a.off,congrArg some ha,fun h=>h,World.block_lt_of_cell? w _ (show w.cell? a=some u0 from h0),ARs.mk fun i d hd=>?_⟩;rw[List.getElem?_map]at hd;obtain⟨l,hl,rfl⟩:=Option.map_eq_some_iff.1 hd;obtain⟨u,h1,h2⟩:=h i l hl;have h3:=h2;simp only[dI,AR]at h3;obtain⟨a',c',rfl,_⟩:=h3;refine⟨_,h2,rfl,rfl,fun j u hj=>?_⟩
  match j,hj with
  |0,hj=>
   have:u= .slice a' (l.map zI).length c':=by simpa[Value.cells]using hj.symm
   rw[this,Nat.mul_one,Nat.add_zero];rw[ha,pZ]at h1;exact h1
  |j+1,hj=>simp[Value.cells]at hj
end DW
set_option maxRecDepth 100000 in
theorem J5{H:Type}{enc:TypeId×Value->H}{w:World}{base:Nat}{spare:Nat->Bool}{held:Bool}{v:Value}{fuel:Nat}{x:DataW H×List MemPlace}
  (hf:DataW.trod enc Tryz.prog w base spare held fuel 22 [v]=some x):∃m:List (List Int),DW.AR (fun _=>False) w (DW.dM m) v:=by
 rcases open_slice Tryz.underlying22 hf with⟨hcs,hx⟩|⟨a,len0,cap0,m,n,D,Pl,hcs,_,hl,hm,hmm,_,hel⟩
 ·simp at hcs;subst hcs;exact⟨[],DW.um⟩
 ·simp at hcs;subst hcs;rw[Bm]at hel;have hlm:len0<=m:=by rw[hmm];split<;>omega
  obtain⟨F,hF⟩:=choose_lt (α:=List Int) (n:=len0) (p:=fun i (l:List Int)=>∃u,w.cell? (a.add i)=some u/\DW.AR (fun _=>False) w (DW.dI l) u) (fun i hi=>by
   obtain⟨cs',h1,h2⟩:=hel i (by omega);obtain⟨_,hlen,hc⟩:=World.cells?_some h1;have hc0:=hc 0 (by omega);rw[Nat.mul_one]at hc0;rcases open_ints Tryz.underlying40 Tryz.underlying3 Dz h2 with⟨rfl,_⟩|⟨a',len',cap',zs,rfl,_,hl',_,hz,_,hcell,_⟩
   ·refine⟨[],.slice none 0 0,hc0,?_⟩;simp only[DW.dI,DW.AR];exact⟨none,0,rfl,Nat.le_refl _,.inl rfl⟩
   ·have hzl:len'<=zs.length:=by rw[hz];split<;>omega
    have hlen:(zs.take len').length=len':=by rw[List.length_take];omega
    have hA:=DW.Jj (w:=w) (a:=a') (l:=zs.take len') (cap:=cap') (by omega) (fun k hk=>by
     rw[hlen]at hk;rw[hcell k (by omega),List.getD_eq_getElem?_getD,List.getD_eq_getElem?_getD,List.getElem?_take,if_pos hk])
    rw[hlen]at hA;exact⟨zs.take len',_,hc0,hA⟩)
  have hlen:((List.range len0).map F).length=len0:=by simp
  have hA:=DW.Ji (w:=w) (a:=a) (m:=(List.range len0).map F) (cap:=cap0) (by omega) (fun i l hi=>by
   have hk:i<len0:=by simpa using(List.getElem?_eq_some_iff.1 hi).1
   rw[List.getElem?_map,List.getElem?_range hk]at hi;cases hi;exact hF i hk)
  rw[hlen]at hA;exact⟨_,hA⟩
set_option maxRecDepth 100000 in
theorem Fb{H:Type}{enc:TypeId×Value->H}{w:World}{base b0:Nat}{spare:Nat->Bool}{held:Bool}{r:Reach}{v:Value}{d:DataW H}{p:List MemPlace}
  (hv:Value.okWide Tryz.prog w r b0 22 v) (h:DataW.Trod enc Tryz.prog w base spare held 22 v d p):∃m:List (List Int),DW.AR (fun _=>False) w (DW.dM m) v:=by
 obtain⟨a0,len0,cap0,rfl⟩:=okWide_slice Tryz.underlying22 hv;obtain⟨fuel,hf⟩:=h;exact J5 hf
end
section
open Go.ChangeShapes Go.WideShapes Go.ChangeAt Go.RowKit Go.Joins Go.Deep
set_option maxRecDepth 100000
theorem sK{n:Int}(h:(Lit.int .u8 n).wf=true):0<=n/\n<=255:=by
 simp[Lit.wf,IntKind.min,IntKind.max,IntKind.signed,IntKind.bits]at h;omega
theorem Fc{H:Type}{enc:TypeId×Value->H}{w:World}{base b0:Nat}{spare:Nat->Bool}{held:Bool}{r:Reach}{v:Value}{d:DataW H}{p:List MemPlace}
  (hv:Value.okWide Tryz.prog w r b0 23 v) (h:DataW.Trod enc Tryz.prog w base spare held 23 v d p):∃a b:Int,(0<=a/\a<=255)/\(0<=b/\b<=255)/\v= .agg #[.int .u8 a,.int .u8 b]:=by
 have hu:Tryz.prog.underlying 23=some (.array 2 5):=by kernel_rfl
 have hk:Tryz.prog.underlying 5=some (.int .u8):=by kernel_rfl
 have hc1:Tryz.prog.cellsOf 5=1:=by kernel_rfl
 have hc2:Tryz.prog.cellsOf 23=2:=by kernel_rfl
 simp only[Value.okWide,hu]at hv;obtain⟨cs,rfl,hsz,_⟩:=hv;obtain⟨l⟩:=cs
 match l,hsz.trans hc2 with
 |[c0,c1],_=>
  obtain⟨fuel,hf⟩:=h;obtain⟨xs,n,_,hx,_,hlen,hg⟩:=DataW.trod_array hu hf;have k0:=hg 0 (by omega);have k1:=hg 1 (by omega);simp only[hc1,Nat.zero_mul,Nat.one_mul,List.drop_zero]at k0 k1;obtain⟨y0,hy0⟩:∃y,xs[0]?=some y:=⟨_,List.getElem?_eq_getElem (by omega)⟩;obtain⟨y1,hy1⟩:∃y,xs[1]?=some y:=⟨_,List.getElem?_eq_getElem (by omega)⟩;rw[hy0]at k0;rw[hy1]at k1;obtain⟨a,e0,_,w0⟩:=DataW.trod_int hk k0;obtain⟨b,e1,_,w1⟩:=DataW.trod_int hk k1;simp[Value.cells]at e0 e1;subst e0 e1;exact⟨a,b,sK w0,sK w1,rfl⟩
theorem Iz{H:Type}{enc:TypeId×Value->H}{w:World}{base b0:Nat}{spare:Nat->Bool}{held:Bool}{r:Reach}{v:Value}{d:DataW H}{p:List MemPlace}
  (hv:Value.okWide Tryz.prog w r b0 24 v) (h:DataW.Trod enc Tryz.prog w base spare held 24 v d p):∃a:Int,(-128<=a/\a<=127)/\v= .int .i8 a:=by
 have hk:Tryz.prog.underlying 24=some (.int .i8):=by kernel_rfl
 obtain⟨n,rfl⟩:=okWide_int hk hv;obtain⟨fuel,hf⟩:=h;obtain⟨a,e0,_,w0⟩:=DataW.trod_int hk hf;simp[Value.cells]at e0;exact⟨n,bounds_i8 (by rw[e0];exact w0),rfl⟩
end
section
open Go.RowKit
namespace DW
theorem IZ.gr{Y:Nat->Prop}{w w':World}{x:IV}{z:Int}(h:IZ w x z)(k:Gr Y w w')(hb:∀b,Y b->NW w b):IZ w' x z:=by
 obtain⟨l,h1,h2,h3⟩:=h;refine⟨l,⟨h1.n,h1.cap,?_,h1.nf⟩,h2,h3⟩;rcases h1.ws with h|⟨b,e,hg,hc⟩
 ·exact .inl h
 ·by_cases hl:l=[]
  ·exact .inl hl
  have hne:¬Y b:=fun e2=>hb b e2 _ (hc 0 _ (List.getElem?_eq_getElem (List.length_pos_iff.2 hl)));exact .inr ⟨b,e,Nat.lt_of_lt_of_le hg k.size,fun i x hk=>(World.cell?_of_block (a:=⟨b,i,none⟩) (k.block b hg hne)).trans (hc i x hk)⟩
theorem Gr.agr{X Y:Nat->Prop}{w w':World}(k:Gr Y w w')(hb:∀b,Y b->NW w b)(hX:∀b,Y b->X b):Agr X w w':=
 ⟨k.size,fun b h1 h2=>k.block b h1 fun h=>h2 (hX b h),fun _ _ h=>IZ.gr h k hb⟩
theorem Gr.trans{Y Z:Nat->Prop}{w w' w2:World}(h:Gr Y w w')(k:Gr Z w' w2)(hz:∀b,Z b->w.heap.size<=b\/Y b):Gr Y w w2:=
 ⟨k.os.trans h.os,k.tape.trans h.tape,k.output.trans h.output,Nat.le_trans h.size k.size,fun b hb hy=>(k.block b (Nat.lt_of_lt_of_le hb h.size) fun e=>by
  rcases hz b e with h1|h1
  ·omega
  ·exact hy h1).trans (h.block b hb hy)⟩
def blk(f:Nat->Value)(os:List (Nat×Ow))(b:Nat):Prop:=∃p∈os,(f p.1).ownBlock=some b
def XB(X:Nat->Prop)(f:Nat->Value)(os:List (Nat×Ow))(b:Nat):Prop:=X b\/blk f os b
structure OS(X:Nat->Prop)(f:Nat->Value)(w:World)(os:List (Nat×Ow)):Prop where
 ow:∀p∈os,OW (XB X f os) f w 0 p
 nw:∀b,blk f os b->NW w b
 dj:∀p∈os,∀q∈os,p.1≠q.1->∀b,(f p.1).ownBlock=some b->(f q.1).ownBlock≠some b
 un:∀p∈os,∀q∈os,p.1=q.1->p=q
 xd:∀b,X b->¬blk f os b
def SRs(X:Nat->Prop)(f:Nat->Value)(w:World):List D->List Value->Prop
 |[],vs=>vs=[]
 |d::l,vs=>∃u rest,vs=u::rest/\SR X f w d u/\SRs X f w l rest
theorem SRs.at{X:Nat->Prop}{f:Nat->Value}{w:World}:∀{l:List D} {i:Nat} {d:D} {vs:List Value},SRs X f w l vs->l[i]?=some d->∃u,vs[i]?=some u/\SR X f w d u
 |[],_,_,_,_,h=>by simp at h
 |_::_,0,_,_,⟨u,rest,h1,h2,_⟩,e=>by simp at e;subst e;exact⟨u,by rw[h1];rfl,h2⟩
 |_::_,i+1,_,_,⟨u,rest,h1,_,h3⟩,e=>by
  obtain⟨u',k1,k2⟩:=SRs.at h3 jU;exact⟨u',by rw[h1];simpa using k1,k2⟩
theorem SRs.len{X:Nat->Prop}{f:Nat->Value}{w:World}:∀{l:List D} {vs:List Value},SRs X f w l vs->vs.length=l.length
 |[],_,h=>by rw[show _=[]from h];rfl
 |_::_,_,⟨_,_,h1,_,h3⟩=>by rw[h1];simp[SRs.len h3]
def uv(P:Program)(g:FuncId)(ds:List D)(os:List (Nat×Ow))(r:D)(os':List (Nat×Ow)):Prop:=
 ∀(X:Nat->Prop) (f:Nat->Value) (w:World) (vs:Array Value),XW X w->OS X f w os->SRs (XB X f os) f w ds vs.toList->
  Calls P g vs w (fun e w'=>∃u f',e= .returned u/\Gr (blk f os) w w'/\OS X f' w' os'/\(∀b,blk f' os' b->blk f os b\/w.heap.size<=b)/\(∀p∈os,f' p.1=f p.1)/\SR (XB X f' os') f' w' r u)
abbrev FnG(P:Program)(g:FuncId)(ds:List D)(os:List (Nat×Ow))(r:D)(os':List (Nat×Ow)):Prop:=Go.Proofs.Enters P g/\uv P g ds os r os'
section
variable {P : Program} {X0 : Nat->Prop} {n : Nat} {Q : Exit->S->Prop} {s : S} {sl : List (Nat × D)} {ow : List (Nat × Ow)} {o : Oper} {ops : Array Oper} {l : List Oper} {K : S->Prop} {t : Nat} {d : D}
theorem kN{w w':World}{base:Nat}{e:TypeId}{size:Nat}{v:Value}{m:Nat}{xs:List Value}(h:w.ownsRow base e size v m xs){g:Nat}(hv:v.ownBlock=some g)(hb:w'.heap[g]?=w.heap[g]?):w'.ownsRow base e size v m xs:=by
 refine⟨h.1,?_⟩;rcases h.2 with hn|⟨g',cap,cur,rfl,hb',hgg,rest⟩
 ·exact .inl hn
 ·simp only[Value.ownBlock,Option.some.injEq]at hv;subst hv;exact .inr ⟨g',cap,cur,rfl,hb',hb.trans hgg,rest⟩
theorem kO{w w':World}{base:Nat}{e:TypeId}{size:Nat}{v:Value}{m:Nat}{xs:List Value}(h:w.ownsRow base e size v m xs)(hv:v.ownBlock=none):w'.ownsRow base e size v m xs:=by
 refine⟨h.1,?_⟩;rcases h.2 with hn|⟨g',cap,cur,rfl,_⟩
 ·exact .inl hn
 ·cases hv
inductive xL(P:Program)(fn:Func)(s:S):D->Prop
 |res (d:D) (h:Res P fn s d) (hd:d.seen=true):xL P fn s d
 |own (t k:Nat) (h:fn.results= #[.tmp t]) (h1:s.gt t= .own k):xL P fn s (.own k)
def fing(P:Program)(X0:Nat->Prop)(n:Nat)(fn:Func)(r:D)(os':List (Nat×Ow)):Exit->S->Prop
 | .normal,s=>∃s',Sh X0 n s s'/\xL P fn s' r/\s'.ow=os'
 | .ret,s=>∃s',Sh X0 n s s'/\xL P fn s' r/\s'.ow=os'
 |_,_=>False
theorem yW{g:FuncId}{fn:Func}{c:Code}{ds:List D}{os os':List (Nat×Ow)}{r:D}(hf:P.funcs[g]?=some fn)(hb:fn.body=some c)(hn:Nat.ble ds.length fn.ntmps=true)(hpin:∀p∈os,pin p.1=true)
  (h:∀X0,aW P X0 fn.ntmps c (fing P X0 fn.ntmps fn r os') ⟨aE 0 ds,os⟩):uv P g ds os r os':=fun X f w vs hX hO hv=>by
 have hl:=hv.len;simp only[Array.length_toList]at hl;have hn':ds.length<=fn.ntmps:=by simpa using hn
 have hd:Hd X fn.ntmps ⟨w,blk f os,f⟩ ⟨aE 0 ds,os⟩ f {tmps:=vs++Array.replicate (fn.ntmps-vs.size) undef,defers:=[]} w:=by
  refine⟨by simp;omega,rfl,Gr.refl _ _,hX,hO.xd,fun _ _=>rfl,fun p hp b hb=>.inr ⟨p,hp,hb⟩,fun t=>?_,hO.ow,hO.nw,hO.dj,hO.un⟩;show SR _ _ _ (look (aE 0 ds) t) _;rw[jI,if_pos (Nat.zero_le _),Nat.sub_zero]
  cases hd:ds[t]? with
  |none=>exact SR.any
  |some d=>
   obtain⟨u,k1,k2⟩:=SRs.at hv hd;have k1':vs[t]?=some u:=by simpa using k1
   have hlt:=(Array.getElem?_eq_some_iff.1 k1').1;have e:(vs++Array.replicate (fn.ntmps-vs.size) undef).getD t undef=u:=by
    rw[Array.getD_eq_getD_getElem?,Array.getElem?_append_left hlt,k1'];rfl
   show SR _ _ _ d (Array.getD _ t undef);rw[e];exact k2
 have key:∀s' f' a w',Hd X fn.ntmps ⟨w,blk f os,f⟩ s' f' a w'->(∃s'',Sh X fn.ntmps s' s''/\xL P fn s'' r/\s''.ow=os')->a.defers=[]/\∃v,(results fn a.tmps).run P w'= .ok v w'/\(∃u f',Ending.returned v= .returned u/\Gr (blk f os) w w'/\OS X f' w' os'/\(∀b,blk f' os' b->blk f os b\/w.heap.size<=b)/\(∀p∈os,f' p.1=f p.1)/\SR (XB X f' os') f' w' r u):=fun s' f' a w' h1 ⟨s'',h2,h3,h4⟩=>by
  obtain⟨f'',h5⟩:=h2 _ f' a w' h1;subst h4;refine⟨h5.df,?_⟩;have hos:OS X f'' w' s''.ow:=⟨h5.ow,fun b hb=>h5.nw b hb,h5.dj,h5.un,fun b hb ⟨p,hp,e⟩=>by
   rcases h5.lo p hp b e with h6|h6
   ·exact absurd (hX b hb).1 (by simp only at h6;omega)
   ·exact hO.xd b hb h6⟩
  have hbk:∀b,blk f'' s''.ow b->blk f os b\/w.heap.size<=b:=fun b ⟨p,hp,e⟩=>(h5.lo p hp b e).symm;have hkp:∀p∈os,f'' p.1=f p.1:=fun p hp=>h5.fx p.1 (hpin p hp)
  cases h3 with
  |res d h6 h7=>
   obtain⟨v,k1,k2⟩:=tM h5 h6;refine⟨v,k1,v,f'',rfl,h5.bl,hos,hbk,hkp,?_⟩;have k3:AR (XB X f'' s''.ow) w' r v:=k2;cases r<;>first|exact k3|simp[D.seen]at h7
  |own t k h6 h7=>
   have h8:=h5.sl t;rw[h7]at h8;refine⟨f'' k,?_,f'' k,f'',rfl,h5.bl,hos,hbk,hkp,rfl⟩;unfold results;rw[h6];simp only[SR]at h8;rw[Array.getD_eq_getD_getElem?]at h8;simp[h8]
 refine calls_of_wp hf hb (Code.wp_mono (fun e a w' ⟨s',f',h1,h2⟩=>?_) (h X _ f _ w hd));cases e<;>simp only[fing]at h2<;>simp only[bodyPost]
 ·exact key s' f' a w' h1 h2
 ·exact key s' f' a w' h1 h2
theorem ER.re{X:Nat->Prop}{f f':Nat->Value}{w:World}{d:D}{u:Value}(h:ER X f w d u)(hf:∀j,cT j=true->d= .own j->f' j=f j):ER X f' w d u:=by
 cases d<;>first|exact h|exact⟨h.1,by rw[hf _ h.1 rfl];exact h.2.1,h.2.2⟩
theorem ElH.re{X:Nat->Prop}{f f':Nat->Value}{w:World}:∀{l:List D} {xs:List Value},ElH X f w l xs->(∀j,cT j=true->.own j∈l->f' j=f j)->ElH X f' w l xs
 |[],_,h,_=>h
 |d::_,_,⟨u,rest,h1,h2,h3,h4,h5,h6,h7⟩,hf=>⟨u,rest,h1,h2,h3,h4.re fun j hr e=>hf j hr (by rw[<-e];exact List.mem_cons_self),h5,h6,h7.re fun j hr hj=>hf j hr (List.mem_cons_of_mem _ hj)⟩
theorem EE.re{X:Nat->Prop}{f f':Nat->Value}{w:World}{k wd:Nat}{l:List D}{xs:List Value}(h:EE X f w k wd l xs)(hf:hdr k=true->∀j,cT j=true->.own j∈l->f' j=f j):EE X f' w k wd l xs:=by
 unfold EE at h⊢
 cases hh:hdr k with
 |false=>rw[hh]at h;exact h
 |true=>rw[hh]at h;exact⟨h.1,h.2.re (hf hh)⟩
def inK(os:List (Nat×Ow))(k:Nat):Bool:=os.any fun p=>Nat.beq p.1 k
theorem cr{os:List (Nat×Ow)}{k:Nat}:inK os k=true↔∃p∈os,p.1=k:=by
 unfold inK;rw[List.any_eq_true];constructor
 ·rintro⟨p,hp,h⟩;exact⟨p,hp,Nat.eq_of_beq_eq_true h⟩
 ·rintro⟨p,hp,h⟩;exact⟨p,hp,by rw[h,Nat.beq_refl]⟩
theorem Hd.call{w0:Bs}{f f':Nat->Value}{a:Act}{w w':World}{os os' ow1:List (Nat×Ow)}{r:D}{u:Value}(h:Hd X0 n w0 ⟨sl,ow⟩ f a w)
  (hos:∀p∈os,p∈ow) (h1:∀p∈ow1,p∈ow/\∀q∈os,q.1≠p.1)
  (hnew:∀p∈os',(∃q∈os,q.1=p.1)\/(pin p.1=false/\(∀t,(look sl t).is p.1=false)/\∀q∈ow1,q.1≠p.1/\(hdr q.1=true->cT p.1=true-> .own p.1∉q.2.l)))
  (hm':∀p∈os',hdr p.1=true->∀j, .own j∈p.2.l->∃q∈os',q.1=j) (hr:∀k,r.is k=true->∃q∈os',q.1=k) (ht:t<n)
  (hg:Gr (blk f os) w w') (hO:OS (fun b=>XO X0 ⟨sl,ow⟩ f b/\¬blk f os b) f' w' os') (hb:∀b,blk f' os' b->blk f os b\/w.heap.size<=b) (hk:∀p∈os,f' p.1=f p.1) (hu:SR (XB (fun b=>XO X0 ⟨sl,ow⟩ f b/\¬blk f os b) f' os') f' w' r u):
  Hd X0 n w0 ⟨(t,r)::sl,os'++ow1⟩ (fun k=>if inK os' k then f' k else f k) (a.put (some t) u) w':=by
 have e1:∀p∈os',(if inK os' p.1 then f' p.1 else f p.1)=f' p.1:=fun p hp=>if_pos (cr.2 ⟨p,hp,rfl⟩);have e2:∀p∈ow1,(if inK os' p.1 then f' p.1 else f p.1)=f p.1:=fun p hp=>if_neg fun hh=>by
  obtain⟨q,hq,e⟩:=cr.1 hh;rcases hnew q hq with⟨q2,h2,e'⟩|h2
  ·exact(h1 p hp).2 q2 h2 (e'.trans e)
  ·exact(h2.2.2 p hp).1 e.symm
 have e3:∀k,(∃q∈os,q.1=k)\/inK os' k=false->(if inK os' k then f' k else f k)=f k:=fun k hh=>by
  rcases hh with⟨q,hq,rfl⟩|hh
  ·split
   ·exact hk q hq
   ·rfl
  ·rw[if_neg (by rw[hh];simp)]
 have hlt:∀p∈ow,∀b,(f p.1).ownBlock=some b->b<w.heap.size:=fun p hp b e=>((h.ow p hp).lt e).2;have hbo:∀b,blk f os b->blk f ow b:=fun b ⟨p,hp,e⟩=>⟨p,hos p hp,e⟩;have hX0:∀b,X0 b->¬blk f ow b:=fun b hb0 ⟨p,hp,e⟩=>by
  rcases h.lo p hp b e with h2|h2
  ·exact absurd (h.x0 b hb0).1 (by omega)
  ·exact h.xy b hb0 h2
 have hd1:∀b,blk f ow1 b->¬blk f os b:=fun b ⟨p,hp,e⟩ ⟨q,hq,e'⟩=>h.dj p (h1 p hp).1 q (hos q hq) (fun e2=>(h1 p hp).2 q hq e2.symm) b e e';have hag:Agr (XO X0 ⟨sl,ow⟩ f) w w':=hg.agr (fun b hb=>h.nw b (hbo b hb)) (fun b hb=> .inr (hbo b hb));have hX1:∀b,XO X0 ⟨(t,r)::sl,os'++ow1⟩ (fun k=>if inK os' k then f' k else f k) b->X0 b\/blk f' os' b\/blk f ow1 b:=fun b hb=>by
  rcases hb with hb|⟨p,hp,e⟩
  ·exact .inl hb
  ·rcases List.mem_append.1 hp with hp|hp
   ·simp only[e1 p hp]at e;exact .inr (.inl ⟨p,hp,e⟩)
   ·simp only[e2 p hp]at e;exact .inr (.inr ⟨p,hp,e⟩)
 have hXw:∀b,b<w.heap.size->XO X0 ⟨(t,r)::sl,os'++ow1⟩ (fun k=>if inK os' k then f' k else f k) b->XO X0 ⟨sl,ow⟩ f b:=fun b hbs hx=>by
  rcases hX1 b hx with h2|h2|⟨p,hp,e⟩
  ·exact .inl h2
  ·rcases hb b h2 with h3|h3
   ·exact .inr (hbo b h3)
   ·omega
  ·exact .inr ⟨p,(h1 p hp).1,e⟩
 have hXO:∀b,XO X0 ⟨(t,r)::sl,os'++ow1⟩ (fun k=>if inK os' k then f' k else f k) b->XB (fun b=>XO X0 ⟨sl,ow⟩ f b/\¬blk f os b) f' os' b:=fun b hx=>by
  rcases hX1 b hx with h2|h2|h2
  ·exact .inl ⟨.inl h2,fun hh=>hX0 b h2 (hbo b hh)⟩
  ·exact .inr h2
  ·obtain⟨p,hp,e⟩:=h2;exact .inl ⟨.inr ⟨p,(h1 p hp).1,e⟩,hd1 b ⟨p,hp,e⟩⟩
 refine⟨by simp[Act.put,h.sz],h.df,h.bl.trans hg fun b ⟨p,hp,e⟩=>h.lo p (hos p hp) b e,h.x0,h.xy,fun j hj=>?_,fun p hp b e=>?_,fun v=>?_,fun p hp=>?_,fun b ⟨p,hp,e⟩=>?_,fun p hp q hq hne b e e'=>?_,fun p hp q hq e=>?_⟩
 ·rw[e3 j ?_]
  ·exact h.fx j hj
  ·cases hi:inK os' j with
   |false=>exact .inr rfl
   |true=>
    obtain⟨q,hq,rfl⟩:=cr.1 hi;rcases hnew q hq with h2|h2
    ·exact .inl h2
    ·rw[h2.1]at hj;cases hj
 ·rcases List.mem_append.1 hp with hp|hp
  ·simp only[e1 p hp]at e;rcases hb b ⟨p,hp,e⟩with⟨q,hq,e'⟩|h3
   ·exact h.lo q (hos q hq) b e'
   ·exact .inl (by have:=h.bl.size;omega)
  ·simp only[e2 p hp]at e;exact h.lo p (h1 p hp).1 b e
 ·rw[jq (by rw[h.sz];exact ht)];show SR _ _ _ (look ((t,r)::sl) v) _;simp only[look];split
  ·cases hrd:r with
   |own k=>
    rw[hrd]at hu;obtain⟨q,hq,rfl⟩:=hr k (by rw[hrd];simp[D.is,Nat.beq_refl]);simp only[SR,e1 q hq];exact hu
   |opt k off=>
    rw[hrd]at hu;obtain⟨q,hq,rfl⟩:=hr k (by rw[hrd];simp[D.is,Nat.beq_refl]);simp only[SR,e1 q hq];exact hu
   |_=>rw[hrd]at hu;exact AR.free hu (fun b _ hb=>hXO b hb)
  ·have h2:SR (XO X0 ⟨sl,ow⟩ f) f w (look sl v) (a.tmps.getD v undef):=h.sl v;have h3:∀k,(look sl v).is k=true->(if inK os' k then f' k else f k)=f k:=fun k hk2=>e3 k (by
    cases hi:inK os' k with
    |false=>exact .inr rfl
    |true=>
     obtain⟨q,hq,rfl⟩:=cr.1 hi;rcases hnew q hq with h4|h4
     ·exact .inl h4
     ·rw[h4.2.1 v]at hk2;cases hk2)
   cases hd:look sl v with
   |own k=>
    rw[hd]at h2 h3;simp only[SR]at h2⊢;rw[h3 k te];exact h2
   |opt k off=>
    rw[hd]at h2 h3;simp only[SR]at h2⊢;rw[h3 k te];exact h2
   |_=>rw[hd]at h2;exact AR.agr hag hXw _ _ h2
 ·rcases List.mem_append.1 hp with hp|hp
  ·obtain⟨k0,zs,k1,k2⟩:=hO.ow p hp;refine⟨k0,zs,by simp only[e1 p hp];exact k1,?_⟩;exact(EE.agr (Agr.refl _ w') (fun b _ hb=>hXO b hb) (fun _ _=>rfl) k2).re fun hh j _ hj=>by
    obtain⟨q,hq,rfl⟩:=hm' p hp hh j hj;exact e1 q hq
  ·obtain⟨k0,zs,k1,k2⟩:=h.ow p (h1 p hp).1;refine⟨k0,zs,?_,?_⟩
   ·simp only[e2 p hp]
    cases hv:(f p.1).ownBlock with
    |none=>exact kO k1 hv
    |some g=>exact kN k1 hv (hg.block g (hlt p (h1 p hp).1 g hv) (hd1 g ⟨p,hp,hv⟩))
   ·refine(EE.agr hag hXw (fun _ _=>rfl) k2).re fun hh j hrw hj=>e3 j ?_
    cases hi:inK os' j with
    |false=>exact .inr rfl
    |true=>
     obtain⟨q,hq,rfl⟩:=cr.1 hi;rcases hnew q hq with h4|h4
     ·exact .inl h4
     ·exact absurd hj ((h4.2.2 p hp).2 hh hrw)
 ·rcases List.mem_append.1 hp with hp|hp
  ·simp only[e1 p hp]at e;exact hO.nw b ⟨p,hp,e⟩
  ·simp only[e2 p hp]at e;have hpo:=(h1 p hp).1;intro m hm;have:w'.cell? ⟨b,0,none⟩=w.cell? ⟨b,0,none⟩:=World.cell?_of_block (hg.block b (hlt p hpo b e) (hd1 b ⟨p,hp,e⟩));rw[this]at hm;exact h.nw b ⟨p,hpo,e⟩ m hm
 ·have cross : ∀ p ∈ os', ∀ q ∈ ow1, ∀ b, (f' p.1).ownBlock = some b -> (f q.1).ownBlock = some b -> False := fun p hp q hq b e e' => by
   rcases hb b ⟨p,hp,e⟩with h3|h3
   ·exact hd1 b ⟨q,hq,e'⟩ h3
   ·have:=hlt q (h1 q hq).1 b e';omega
  rcases List.mem_append.1 hp with hp|hp<;>rcases List.mem_append.1 hq with hq|hq
  ·simp only[e1 p hp,e1 q hq]at e e';exact hO.dj p hp q hq hne b e e'
  ·simp only[e1 p hp,e2 q hq]at e e';exact cross p hp q hq b e e'
  ·simp only[e2 p hp,e1 q hq]at e e';exact cross q hq p hp b e' e
  ·simp only[e2 p hp,e2 q hq]at e e';exact h.dj p (h1 p hp).1 q (h1 q hq).1 hne b e e'
 ·have cross : ∀ p ∈ os', ∀ q ∈ ow1, p.1 = q.1 -> False := fun p hp q hq e => by
   rcases hnew p hp with⟨q2,h4,e4⟩|h4
   ·exact(h1 q hq).2 q2 h4 (e4.trans e)
   ·exact(h4.2.2 q hq).1 e.symm
  rcases List.mem_append.1 hp with hp|hp<;>rcases List.mem_append.1 hq with hq|hq
  ·exact hO.un p hp q hq e
  ·exact(cross p hp q hq e).elim
  ·exact(cross q hq p hp e.symm).elim
  ·exact h.un p (h1 p hp).1 q (h1 q hq).1 e
end
end DW
end
end Go.Proofs.YtcgjmdpcplhanaaGreat
