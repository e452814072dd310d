/- Lemmas for the law: F1 -/
import Derived.Test.YtepdigdijecgpaaGreatZc4
namespace Go.Proofs.YtepdigdijecgpaaGreat
section
theorem zs49{p q:Prop}(h:q)(f:Wq q->p:=by(intro hW;(refine aL1 rfl rfl rfl (by(apply Aw;(exact rfl);(focus((apply av;(conv=>lhs;whnf);(first|done|exact rfl))));(exact rfl))) ?_);exact hW.out)):p:=f ⟨h⟩
theorem qy{p q:Prop}(h:q)(f:Wq q->p:=by(intro hW;(refine gar ?_;refine zs49 ?_;refine zs2 ?_;refine aP ?_);exact hW.out)):p:=f ⟨h⟩
theorem gF{p q:Prop}(h:q)(f:Wq q->p:=by(intro hW;(refine zs3 ?_;refine zs15 ?_;refine iI ?_);exact hW.out)):p:=f ⟨h⟩
theorem zs36{p q:Prop}(h:q)(f:Wq q->p:=by(intro hW;(refine aL1 rfl rfl rfl (by(first|(apply d_callv1;(exact rfl);(focus((apply av;(conv=>lhs;whnf);(first|done|exact rfl))));(focus((apply av;(conv=>lhs;whnf);(first|done|exact rfl))));(exact rfl);(focus((first|exact GX)));(exact rfl))|(apply Ay;(exact rfl);(focus((apply av;(conv=>lhs;whnf);(first|done|exact rfl))));(focus((apply av;(conv=>lhs;whnf);(first|done|exact rfl))));(exact rfl);(focus((first|exact GX)));(exact rfl)))) ?_);exact hW.out)):p:=f ⟨h⟩
theorem wu{p q:Prop}(h:q)(f:Wq q->p:=by(intro hW;(refine eB ?_;refine gF ?_;refine zs36 ?_;refine aP ?_);exact hW.out)):p:=f ⟨h⟩
theorem zb36{p:Prop}(h:p:=by(apply EO;(exact rfl);(focus((apply av;(conv=>lhs;whnf);(first|done|exact rfl))));(exact rfl))):p:=h
theorem zs48{p q:Prop}(h:q)(f:Wq q->p:=by(intro hW;(refine aL1 rfl rfl rfl zb36 ?_);exact hW.out)):p:=f ⟨h⟩
theorem zb23{p:Prop}(h:p:=by(apply rD;(exact rfl);(focus((apply av;(conv=>lhs;whnf);(first|done|exact rfl))));(focus((apply av;(conv=>lhs;whnf);(first|done|exact rfl))));(exact rfl);(exact rfl);(assumption);(exact rfl))):p:=h
theorem sT{p q:Prop}(h:q)(f:Wq q->p:=by(intro hW;(refine aL1 rfl rfl rfl zb23 ?_);exact hW.out)):p:=f ⟨h⟩
theorem wQ{p:Prop}(h:p:=by(apply Au;(exact rfl);(focus((apply av;(conv=>lhs;whnf);(first|done|exact rfl)))))):p:=h
theorem sS{p q:Prop}(h:q)(f:Wq q->p:=by(intro hW;((first|(refine aLs rfl rfl rfl rfl ?_ ?_;(focus(apply bj;(conv=>lhs;whnf);(first|done|exact rfl|(apply ba;(first|(apply aw;omega)|(apply az;omega)|assumption|(simp;done)))))))|refine aLw rfl rfl rfl rfl cB wQ ?_));exact hW.out)):p:=f ⟨h⟩
theorem zs52{p q:Prop}(h:q)(f:Wq q->p:=by(intro hW;((first|(refine aLs rfl rfl rfl rfl ?_ ?_;(focus(apply bj;(conv=>lhs;whnf);(first|done|exact rfl|(apply ba;(first|(apply aw;omega)|(apply az;omega)|assumption|(simp;done)))))))|refine aLw rfl rfl rfl rfl cB zb36 ?_));exact hW.out)):p:=f ⟨h⟩
theorem zb9{p:Prop}(h:p:=by(first|(apply dz;(exact rfl);(focus((apply av;(conv=>lhs;whnf);(first|done|exact rfl))));(focus((apply av;(conv=>lhs;whnf);(first|done|exact rfl))));(exact rfl))|(apply d_eqb;(exact rfl);(focus((apply av;(conv=>lhs;whnf);(first|done|exact rfl))));(focus((apply av;(conv=>lhs;whnf);(first|done|exact rfl))));(kernel_rfl)))):p:=h
theorem zs51{p q:Prop}(h:q)(f:Wq q->p:=by(intro hW;(refine aL1 rfl rfl rfl zb9 ?_);exact hW.out)):p:=f ⟨h⟩
theorem zs53{p q:Prop}(h:q)(f:Wq q->p:=by(intro hW;((first|(refine aLs rfl rfl rfl rfl ?_ ?_;(focus(apply bj;(conv=>lhs;whnf);(first|done|exact rfl|(apply ba;(first|(apply aw;omega)|(apply az;omega)|assumption|(simp;done)))))))|refine aLw rfl rfl rfl rfl cB zb23 ?_));exact hW.out)):p:=f ⟨h⟩
theorem Bh{p q:Prop}(h:q)(f:Wq q->p:=by(intro hW;(refine cN ?_;refine fY ?_;refine iI ?_;refine zs51 ?_;refine zs3 ?_;refine zs5 ?_;refine zs52 ?_;refine zs53 ?_;refine sS ?_;refine zs7 ?_;refine gD ?_);exact hW.out)):p:=f ⟨h⟩
theorem zs45{p q:Prop}(h:q)(f:Wq q->p:=by(intro hW;((first|(first|(refine aHs rfl rfl rfl rfl rfl ?_ ?_;(focus(apply bj;(conv=>lhs;whnf);(first|done|exact rfl|(apply ba;(first|(apply aw;omega)|(apply az;omega)|assumption|(simp;done)))))))|refine pe rfl rfl rfl rfl rfl cB ay zb26 ay ay ?_)|((try refine aQ ?_);(first|(refine aLs rfl rfl rfl rfl ?_ ?_;(focus(apply bj;(conv=>lhs;whnf);(first|done|exact rfl|(apply ba;(first|(apply aw;omega)|(apply az;omega)|assumption|(simp;done)))))))|refine aLw rfl rfl rfl rfl cB zb26 ?_))));exact hW.out)):p:=f ⟨h⟩
theorem kr{p q:Prop}(h:q)(f:Wq q->p:=by(intro hW;((first|refine eJ rfl rfl rfl ay zb1 ay ay ?_|((try refine aQ ?_);refine aL1 rfl rfl rfl zb1 ?_)));exact hW.out)):p:=f ⟨h⟩
theorem zs42{p q:Prop}(h:q)(f:Wq q->p:=by(intro hW;((first|refine eJ rfl rfl rfl ay qM ay ay ?_|((try refine aQ ?_);refine aL1 rfl rfl rfl qM ?_)));exact hW.out)):p:=f ⟨h⟩
theorem zs43{p q:Prop}(h:q)(f:Wq q->p:=by(intro hW;((first|(first|(refine aHs rfl rfl rfl rfl rfl ?_ ?_;(focus(apply bj;(conv=>lhs;whnf);(first|done|exact rfl|(apply ba;(first|(apply aw;omega)|(apply az;omega)|assumption|(simp;done)))))))|refine pe rfl rfl rfl rfl rfl cB ay kt ay ay ?_)|((try refine aQ ?_);(first|(refine aLs rfl rfl rfl rfl ?_ ?_;(focus(apply bj;(conv=>lhs;whnf);(first|done|exact rfl|(apply ba;(first|(apply aw;omega)|(apply az;omega)|assumption|(simp;done)))))))|refine aLw rfl rfl rfl rfl cB kt ?_))));exact hW.out)):p:=f ⟨h⟩
theorem zs40{p q:Prop}(h:q)(f:Wq q->p:=by(intro hW;((first|refine eJ rfl rfl rfl ay te ay ay ?_|((try refine aQ ?_);refine aL1 rfl rfl rfl te ?_)));exact hW.out)):p:=f ⟨h⟩
theorem zs39{p q:Prop}(h:q)(f:Wq q->p:=by(intro hW;((first|(apply aO 10;(focus kernel_rfl);(decide+kernel))|(apply aO 9;(focus kernel_rfl);(decide+kernel))|(apply aO 8;(focus kernel_rfl);(decide+kernel))|(apply aO 7;(focus kernel_rfl);(decide+kernel))|(apply aO 6;(focus kernel_rfl);(decide+kernel))|(apply aO 5;(focus kernel_rfl);(decide+kernel))|(apply aO 4;(focus kernel_rfl);(decide+kernel))|(apply aO 3;(focus kernel_rfl);(decide+kernel)));simp only[jr,gM,kN,gH]);exact hW.out)):p:=f ⟨h⟩
theorem zb5{p:Prop}(h:p:=by(first|(apply uP;(exact rfl);(focus((apply av;(conv=>lhs;whnf);(first|done|exact rfl))));(focus(first|exact rfl|(apply aw;omega)|assumption|(simp;done)));(exact ig))|(apply uQ;(exact rfl);(focus((apply av;(conv=>lhs;whnf);(first|done|exact rfl))));(focus(first|exact rfl|(apply az;omega)|assumption|(simp;done)));(focus((apply av;(conv=>lhs;whnf);(first|done|exact rfl)))))|(apply d_pick;(exact rfl);(focus((apply av;(conv=>lhs;whnf);(first|done|exact rfl))));(exact ig);(focus((apply av;(conv=>lhs;whnf);(first|done|exact rfl))));(exact rfl)))):p:=h
theorem zs47{p q:Prop}(h:q)(f:Wq q->p:=by(intro hW;((first|refine eJ rfl rfl rfl ay zb5 ay ay ?_|((try refine aQ ?_);refine aL1 rfl rfl rfl zb5 ?_)));exact hW.out)):p:=f ⟨h⟩
theorem wC{p q:Prop}(h:q)(f:Wq q->p:=by(intro hW;((first|(first|(refine aHs rfl rfl rfl rfl rfl ?_ ?_;(focus(apply bj;(conv=>lhs;whnf);(first|done|exact rfl|(apply ba;(first|(apply aw;omega)|(apply az;omega)|assumption|(simp;done)))))))|refine pe rfl rfl rfl rfl rfl cB ay zb1 ay ay ?_)|((try refine aQ ?_);(first|(refine aLs rfl rfl rfl rfl ?_ ?_;(focus(apply bj;(conv=>lhs;whnf);(first|done|exact rfl|(apply ba;(first|(apply aw;omega)|(apply az;omega)|assumption|(simp;done)))))))|refine aLw rfl rfl rfl rfl cB zb1 ?_))));exact hW.out)):p:=f ⟨h⟩
theorem zs46{p q:Prop}(h:q)(f:Wq q->p:=by(intro hW;((first|(first|(refine aHs rfl rfl rfl rfl rfl ?_ ?_;(focus(apply bj;(conv=>lhs;whnf);(first|done|exact rfl|(apply ba;(first|(apply aw;omega)|(apply az;omega)|assumption|(simp;done)))))))|refine pe rfl rfl rfl rfl rfl cB ay qM ay ay ?_)|((try refine aQ ?_);(first|(refine aLs rfl rfl rfl rfl ?_ ?_;(focus(apply bj;(conv=>lhs;whnf);(first|done|exact rfl|(apply ba;(first|(apply aw;omega)|(apply az;omega)|assumption|(simp;done)))))))|refine aLw rfl rfl rfl rfl cB qM ?_))));exact hW.out)):p:=f ⟨h⟩
theorem zs98{p q:Prop}(h:q)(f:Wq q->p:=by(intro hW;(refine zs39 ?_;refine fH ?_;refine zs40 ?_;refine kr ?_;refine zs42 ?_;refine fH ?_;refine zs43 ?_;refine wC ?_;refine zs45 ?_;refine zs46 ?_;refine zs47 ?_;refine wD ?_;refine qD ?_);exact hW.out)):p:=f ⟨h⟩
theorem zb32{p:Prop}(h:p:=by(apply dz;(exact rfl);(focus((apply av;(conv=>lhs;whnf);(first|done|exact rfl))));(exact cu);(exact rfl))):p:=h
theorem qC{p q:Prop}(h:q)(f:Wq q->p:=by(intro hW;(refine aL1 rfl rfl rfl zb32 ?_);exact hW.out)):p:=f ⟨h⟩
theorem zs97{p q:Prop}(h:q)(f:Wq q->p:=by(intro hW;(refine eB ?_;refine sT ?_;refine qC ?_;refine gD ?_);exact hW.out)):p:=f ⟨h⟩
theorem oc{p q:Prop}(h:q)(f:Wq q->p:=by(intro hW;(refine aL1 rfl rfl rfl wQ ?_);exact hW.out)):p:=f ⟨h⟩
end
section
open Go.RowKit
namespace DW
def ixp{α:Type}(p:α->Bool)(l:List α):Int:=if l.any p=true then(l.findIdx p:Nat)else-1
theorem vM{α:Type}(p:α->Bool)(l:List α):decide (ixp p l>=0)=l.any p:=by
 unfold ixp
 cases h:l.any p with
 |true=>simp
 |false=>simp
theorem uA{α:Type}{p:α->Bool}{l:List α}{k:Nat}{x:α}(h:l[k]?=some x)(hx:p x=true)(hz:∀j y,j<k->l[j]?=some y->p y=false):ixp p l=k:=by
 unfold ixp;rw[aA (fP.2 ⟨x,bV h,hx⟩)];have hk:=(cq.1 h).1;have hxe:=(cq.1 h).2;congr 1;rw[List.findIdx_eq hk];refine⟨by rw[hxe];exact hx,fun j hj=>?_⟩;have:=hz j _ hj (aY aa);simpa using this
theorem uz{α:Type}{p:α->Bool}{l:List α}(hz:∀j y,j<l.length->l[j]?=some y->p y=false):ixp p l= -1:=by
 unfold ixp;rw[aj];intro h;obtain⟨x,hx,h2⟩:=fP.1 h;obtain⟨j,hj,e⟩:=List.getElem_of_mem hx;rw[hz j x hj (by rw[aY hj,e])]at h2;cases h2
set_option maxRecDepth 20000
set_option maxHeartbeats 1000000
theorem ixI_d(g:Nat)(cs:List D)(p:Int->Bool)(l:List (Int))(hl:l.length<=1000000)(hg:∀z∈l,Fn Tryz.prog g (zI z::cs) (.sc (.bool (p z)))):Fn Tryz.prog 315 [dI l,.cl g cs] (zI (ixp p l)):=by
 refine bu Tryz.func315 aq rfl rfl rfl fun X0=>?_;simp only[aK];refine fy ?_;refine wz ?_;refine zs1 ?_
 (refine cg (bw (sl':=[(0,dI l),(1,.cl g cs),(6,dI l),(7,zI l.length),(8,zI 0)]) (ow':=[]) bU bR) ?_)
 refine cj (fun r s=>∃k,k<=l.length/\r=l.length-k/\(∀j y,j<k->l[j]?=some y->p y=false)/\s=⟨[(0,dI l),(1,.cl g cs),(6,dI l),(7,zI l.length),(8,zI (k:Nat))],[]⟩) (m:=l.length) ⟨0,aS _,rfl,fun j y hj=>absurd hj (Nat.not_lt_zero j),rfl⟩ fun r s hs=>?_;obtain⟨k,hk,rfl,hz,rfl⟩:=hs;by_cases hkl:k<l.length
 ·obtain⟨x,hx⟩:=get_some hkl;have GX:=hg x (bV hx)
  cases h0:p x with
  |false=>
   rw[h0]at GX;refine jK ?_;refine eW ?_;refine wu ?_;refine nq ?_;simp only[nx];exact⟨l.length-(k+1),_,by omega,(bw (sl':=[(0,dI l),(1,.cl g cs),(6,dI l),(7,zI l.length),(8,zI ((k+1:Nat):Int))]) (ow':=[]) bU bR),k+1,by omega,rfl,fun j y hj hy=>by
    by_cases e:j=k
    ·subst e;rw[hx]at hy;cases hy;exact h0
    ·exact hz j y aa hy,rfl⟩
  |true=>
   rw[h0]at GX;have EC:=uA hx h0 hz;refine jK ?_;refine eW ?_;refine wu ?_;refine cK ?_;refine eW ?_;rw[EC];exact⟨_,Sh.refl,.one (.tmp 4) _ rfl (.tmp 4 rfl)⟩
 ·obtain rfl:k=l.length:=by omega
  have EC:=uz hz;refine jI ?_;refine iq ?_;rw[EC];exact⟨_,Sh.refl,.one (.tmp 4) _ rfl (.tmp 4 rfl)⟩
theorem anI_d(g:Nat)(cs:List D)(p:Int->Bool)(l:List (Int))(hl:l.length<=1000000)(hg:∀z∈l,Fn Tryz.prog g (zI z::cs) (.sc (.bool (p z)))):Fn Tryz.prog 235 [dI l,.cl g cs] (.sc (.bool (l.any p))):=by
 have IX:=ixI_d g cs p l hl hg;rw[<-vM];refine bu Tryz.func235 aq rfl rfl rfl fun X0=>?_;simp only[aK];refine gE ?_;refine zs97 ?_;refine zs1 ?_;exact⟨_,Sh.refl,.one (.tmp 4) _ rfl (.tmp 4 rfl)⟩
theorem ixM_d(g:Nat)(cs:List D)(p:List Int->Bool)(l:List (List Int))(hl:l.length<=1000000)(hg:∀z∈l,Fn Tryz.prog g (dI z::cs) (.sc (.bool (p z)))):Fn Tryz.prog 345 [dM l,.cl g cs] (zI (ixp p l)):=by
 refine bu Tryz.func345 aq rfl rfl rfl fun X0=>?_;simp only[aK];refine fy ?_;refine wz ?_;refine zs1 ?_
 (refine cg (bw (sl':=[(0,dM l),(1,.cl g cs),(6,dM l),(7,zI l.length),(8,zI 0)]) (ow':=[]) bU bR) ?_)
 refine cj (fun r s=>∃k,k<=l.length/\r=l.length-k/\(∀j y,j<k->l[j]?=some y->p y=false)/\s=⟨[(0,dM l),(1,.cl g cs),(6,dM l),(7,zI l.length),(8,zI (k:Nat))],[]⟩) (m:=l.length) ⟨0,aS _,rfl,fun j y hj=>absurd hj (Nat.not_lt_zero j),rfl⟩ fun r s hs=>?_;obtain⟨k,hk,rfl,hz,rfl⟩:=hs;by_cases hkl:k<l.length
 ·obtain⟨x,hx⟩:=get_some hkl;have GX:=hg x (bV hx)
  cases h0:p x with
  |false=>
   rw[h0]at GX;refine jK ?_;refine eW ?_;refine wu ?_;refine nq ?_;simp only[nx];exact⟨l.length-(k+1),_,by omega,(bw (sl':=[(0,dM l),(1,.cl g cs),(6,dM l),(7,zI l.length),(8,zI ((k+1:Nat):Int))]) (ow':=[]) bU bR),k+1,by omega,rfl,fun j y hj hy=>by
    by_cases e:j=k
    ·subst e;rw[hx]at hy;cases hy;exact h0
    ·exact hz j y aa hy,rfl⟩
  |true=>
   rw[h0]at GX;have EC:=uA hx h0 hz;refine jK ?_;refine eW ?_;refine wu ?_;refine cK ?_;refine eW ?_;rw[EC];exact⟨_,Sh.refl,.one (.tmp 4) _ rfl (.tmp 4 rfl)⟩
 ·obtain rfl:k=l.length:=by omega
  have EC:=uz hz;refine jI ?_;refine iq ?_;rw[EC];exact⟨_,Sh.refl,.one (.tmp 4) _ rfl (.tmp 4 rfl)⟩
theorem Bz(g:Nat)(cs:List D)(p:List Int->Bool)(l:List (List Int))(hl:l.length<=1000000)(hg:∀z∈l,Fn Tryz.prog g (dI z::cs) (.sc (.bool (p z)))):Fn Tryz.prog 279 [dM l,.cl g cs] (.sc (.bool (l.any p))):=by
 have IX:=ixM_d g cs p l hl hg;rw[<-vM];refine bu Tryz.func279 aq rfl rfl rfl fun X0=>?_;simp only[aK];refine gE ?_;refine zs97 ?_;refine zs1 ?_;exact⟨_,Sh.refl,.one (.tmp 4) _ rfl (.tmp 4 rfl)⟩
def szw(z:Int):Int:=if wrap64 (0-z)>z then wrap64 (0-z)else z
theorem Cc(z:Int):Fn Tryz.prog 180 [zI z] (zI (szw z)):=by
 unfold szw;generalize hy:wrap64 (0-z)=y;refine bu Tryz.func180 aq rfl rfl rfl fun X0=>?_;simp only[aK];refine fy ?_;refine eB ?_;refine zs34 ?_;(refine aL1 rfl rfl rfl (by(apply d_max;(exact rfl);(focus((apply av;(conv=>lhs;whnf);(first|done|exact rfl))));(focus((apply av;(conv=>lhs;whnf);(first|done|exact rfl)))))) ?_);refine eC ?_;first|rw[hy]|skip
 exact⟨_,Sh.refl,.one (.tmp 2) _ rfl (.tmp 2 rfl)⟩
theorem BS{m z:Int}(h0:0<=m)(h1:m<=1000000000000000):(decide (szw z>m)||decide (z< -m))= !inb m z:=by
 unfold szw inb;by_cases h: -m<=z/\z<=m
 ·rw[aw h.1,aw h.2,sG (0-z) aa,az (by omega:¬z< -m),az]
  ·rfl
  ·split<;>omega
 ·by_cases h2:z< -m
  ·rw[aw h2,az (by omega:¬-m<=z),jk];rfl
  ·rw[aw (by omega: -m<=z),az (by omega:¬z<=m),aw]
   ·rfl
   ·split<;>omega
theorem EX(z m:Int)(h0:0<=m)(h1:m<=1000000000000000):Fn Tryz.prog 282 [zI z,.pt (zI m)] (.sc (.bool (!inb m z))):=by
 have SZ:=Cc z;rw[<-BS h0 h1];generalize szw z=y at*;by_cases h:y>m
 ·have hd:decide (y>m)=true:=aw h;rw[hd,mu];refine bu Tryz.func282 aq rfl rfl rfl fun X0=>?_;simp only[aK];refine gE ?_;refine zs98 ?_;refine zs1 ?_;exact⟨_,Sh.refl,.one (.tmp 3) _ rfl (.tmp 3 rfl)⟩
 ·have hd:decide (y>m)=false:=az h;rw[hd,Bool.false_or];refine bu Tryz.func282 aq rfl rfl rfl fun X0=>?_;simp only[aK];refine gE ?_;refine zs98 ?_;refine zs1 ?_;exact⟨_,Sh.refl,.one (.tmp 3) _ rfl (.tmp 3 rfl)⟩
theorem bnd_d(r:List Int)(hr:r.length<=1000000)(m:Int)(h0:0<=m)(h1:m<=1000000000000000):Fn Tryz.prog 281 [dI r,.pt (zI m)] (.sc (.bool (r.any fun z=>!inb m z))):=by
 have AN:=anI_d 282 [.pt (zI m)] (fun z=>!inb m z) r hr fun z _=>EX z m h0 h1;refine bu Tryz.func281 aq rfl rfl rfl fun X0=>?_;simp only[aK];refine gE ?_;refine cN ?_;refine zs48 ?_;refine sT ?_;refine eC ?_;exact⟨_,Sh.refl,.one (.tmp 3) _ rfl (.tmp 3 rfl)⟩
def gk(m:Int)(g:Mx.Mat):Bool:=!(g.any fun r=>r.any fun z=>!inb m z)
theorem sb(g:Mx.Mat)(hg:g.length<=1000000)(hr:∀r∈g,r.length<=1000000)(m:Int)(h0:0<=m)(h1:m<=1000000000000000):Fn Tryz.prog 166 [dM g,zI m] (.sc (.bool (gk m g))):=by
 have AN:=Bz 281 [.pt (zI m)] (fun r=>r.any fun z=>!inb m z) g hg fun r h=>bnd_d r (hr r h) m h0 h1;unfold gk;refine bu Tryz.func166 aq rfl rfl rfl fun X0=>?_;simp only[aK];refine zs1 ?_;refine qy ?_;refine zs1 ?_;refine cN ?_;refine zs48 ?_;refine sT ?_;refine oc ?_;refine eC ?_;exact⟨_,Sh.refl,.one (.tmp 4) _ rfl (.tmp 4 rfl)⟩
theorem sq1_d(r:List Int)(n:Int):Fn Tryz.prog 280 [dI r,.pt (zI n)] (.sc (.bool (!decide ((r.length:Int)=n)))):=by
 refine bu Tryz.func280 aq rfl rfl rfl fun X0=>?_;simp only[aK];refine gE ?_;refine cN ?_;refine fY ?_;refine iI ?_;refine od ?_;refine eC ?_;exact⟨_,Sh.refl,.one (.tmp 3) _ rfl (.tmp 3 rfl)⟩
def sqB(g:Mx.Mat)(n:Int):Bool:=decide ((g.length:Int)=n)&& !(g.any fun r=>!decide ((r.length:Int)=n))
theorem oC(g:Mx.Mat)(hg:g.length<=1000000)(n:Int):Fn Tryz.prog 165 [dM g,zI n] (.sc (.bool (sqB g n))):=by
 have AN:=Bz 280 [.pt (zI n)] (fun r=>!decide ((r.length:Int)=n)) g hg fun r _=>sq1_d r n;unfold sqB;by_cases h:(g.length:Int)=n
 ·have hd:decide ((g.length:Int)=n)=true:=aw h;rw[hd,jq];refine bu Tryz.func165 aq rfl rfl rfl fun X0=>?_;simp only[aK];refine zs1 ?_;refine qy ?_;refine zs1 ?_;refine Bh ?_;refine zs1 ?_;exact⟨_,Sh.refl,.one (.tmp 4) _ rfl (.tmp 4 rfl)⟩
 ·have hd:decide ((g.length:Int)=n)=false:=az h;rw[hd,Bool.false_and];refine bu Tryz.func165 aq rfl rfl rfl fun X0=>?_;simp only[aK];refine zs1 ?_;refine qy ?_;refine zs1 ?_;refine Bh ?_;refine zs1 ?_;exact⟨_,Sh.refl,.one (.tmp 4) _ rfl (.tmp 4 rfl)⟩
end DW
end
end Go.Proofs.YtepdigdijecgpaaGreat
