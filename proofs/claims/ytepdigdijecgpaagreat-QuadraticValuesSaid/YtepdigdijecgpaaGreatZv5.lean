/- Lemmas for the law: F1 -/
import Derived.Test.YtepdigdijecgpaaGreatZv4
namespace Go.Proofs.YtepdigdijecgpaaGreat
section
theorem zb37{p:Prop}(h:p:=by(apply Ie;(exact rfl);(focus((apply ao;(conv=>lhs;whnf);(first|done|exact rfl))));(exact rfl))):p:=h
theorem zs54{p q:Prop}(h:q)(f:Wq q->p:=by(intro hW;(refine aL1 rfl rfl rfl zb37 ?_);exact hW.out)):p:=f ⟨h⟩
theorem zb11{p:Prop}(h:p:=by(first|(apply dB;(exact rfl);(focus((apply ao;(conv=>lhs;whnf);(first|done|exact rfl))));(focus((apply ao;(conv=>lhs;whnf);(first|done|exact rfl))));(exact rfl))|(apply d_eqb;(exact rfl);(focus((apply ao;(conv=>lhs;whnf);(first|done|exact rfl))));(focus((apply ao;(conv=>lhs;whnf);(first|done|exact rfl))));(kernel_rfl)))):p:=h
theorem zs57{p q:Prop}(h:q)(f:Wq q->p:=by(intro hW;(refine aL1 rfl rfl rfl zb11 ?_);exact hW.out)):p:=f ⟨h⟩
theorem zs58{p q:Prop}(h:q)(f:Wq q->p:=by(intro hW;((first|(refine aLs rfl rfl rfl rfl ?_ ?_;(focus(apply bH;(conv=>lhs;whnf);(first|done|exact rfl|(apply bB;(first|(apply au;omega)|(apply aw;omega)|assumption|(simp;done)))))))|refine aLw rfl rfl rfl rfl cO zb37 ?_));exact hW.out)):p:=f ⟨h⟩
theorem zb41{p:Prop}(h:p:=by(apply CJ;(exact rfl);(focus((apply ao;(conv=>lhs;whnf);(first|done|exact rfl)))))):p:=h
theorem uJ{p q:Prop}(h:q)(f:Wq q->p:=by(intro hW;((first|(refine aLs rfl rfl rfl rfl ?_ ?_;(focus(apply bH;(conv=>lhs;whnf);(first|done|exact rfl|(apply bB;(first|(apply au;omega)|(apply aw;omega)|assumption|(simp;done)))))))|refine aLw rfl rfl rfl rfl cO zb41 ?_));exact hW.out)):p:=f ⟨h⟩
theorem zb25{p:Prop}(h:p:=by(apply pr;(exact rfl);(focus((apply ao;(conv=>lhs;whnf);(first|done|exact rfl))));(focus((apply ao;(conv=>lhs;whnf);(first|done|exact rfl))));(exact rfl);(exact rfl);(assumption);(exact rfl))):p:=h
theorem yu{p q:Prop}(h:q)(f:Wq q->p:=by(intro hW;((first|(refine aLs rfl rfl rfl rfl ?_ ?_;(focus(apply bH;(conv=>lhs;whnf);(first|done|exact rfl|(apply bB;(first|(apply au;omega)|(apply aw;omega)|assumption|(simp;done)))))))|refine aLw rfl rfl rfl rfl cO zb25 ?_));exact hW.out)):p:=f ⟨h⟩
theorem D0{p q:Prop}(h:q)(f:Wq q->p:=by(intro hW;(refine bD ?_;refine iu ?_;refine ed ?_;refine zs57 ?_;refine dE ?_;refine zs58 ?_;refine yu ?_;refine uJ ?_;refine zs7 ?_;refine cM ?_);exact hW.out)):p:=f ⟨h⟩
theorem yv{p q:Prop}(h:q)(f:Wq q->p:=by(intro hW;(refine aL1 rfl rfl rfl (by(apply CQ;(exact rfl);(focus((apply ao;(conv=>lhs;whnf);(first|done|exact rfl))));(exact rfl))) ?_);exact hW.out)):p:=f ⟨h⟩
theorem yK{p q:Prop}(h:q)(f:Wq q->p:=by(intro hW;(refine gar ?_;refine yv ?_;refine zs2 ?_;refine aJ ?_);exact hW.out)):p:=f ⟨h⟩
theorem oH{p q:Prop}(h:q)(f:Wq q->p:=by(intro hW;(refine zs1 ?_;refine yK ?_;refine zs1 ?_);exact hW.out)):p:=f ⟨h⟩
theorem zs45{p q:Prop}(h:q)(f:Wq q->p:=by(intro hW;((first|(apply aG 10;(focus kernel_rfl);(decide+kernel))|(apply aG 9;(focus kernel_rfl);(decide+kernel))|(apply aG 8;(focus kernel_rfl);(decide+kernel))|(apply aG 7;(focus kernel_rfl);(decide+kernel))|(apply aG 6;(focus kernel_rfl);(decide+kernel))|(apply aG 5;(focus kernel_rfl);(decide+kernel))|(apply aG 4;(focus kernel_rfl);(decide+kernel))|(apply aG 3;(focus kernel_rfl);(decide+kernel)));simp only[iC,fM,js,gi]);exact hW.out)):p:=f ⟨h⟩
theorem zs48{p q:Prop}(h:q)(f:Wq q->p:=by(intro hW;((first|refine fm rfl rfl rfl aA sw aA aA ?_|((try refine br ?_);refine aL1 rfl rfl rfl sw ?_)));exact hW.out)):p:=f ⟨h⟩
theorem zs52{p q:Prop}(h:q)(f:Wq q->p:=by(intro hW;((first|(first|(refine aHs rfl rfl rfl rfl rfl ?_ ?_;(focus(apply bH;(conv=>lhs;whnf);(first|done|exact rfl|(apply bB;(first|(apply au;omega)|(apply aw;omega)|assumption|(simp;done)))))))|refine Ah rfl rfl rfl rfl rfl cO aA sw aA aA ?_)|((try refine br ?_);(first|(refine aLs rfl rfl rfl rfl ?_ ?_;(focus(apply bH;(conv=>lhs;whnf);(first|done|exact rfl|(apply bB;(first|(apply au;omega)|(apply aw;omega)|assumption|(simp;done)))))))|refine aLw rfl rfl rfl rfl cO sw ?_))));exact hW.out)):p:=f ⟨h⟩
theorem pJ{p q:Prop}(h:q)(f:Wq q->p:=by(intro hW;((first|refine fm rfl rfl rfl aA zb1 aA aA ?_|((try refine br ?_);refine aL1 rfl rfl rfl zb1 ?_)));exact hW.out)):p:=f ⟨h⟩
theorem zs49{p q:Prop}(h:q)(f:Wq q->p:=by(intro hW;((first|(first|(refine aHs rfl rfl rfl rfl rfl ?_ ?_;(focus(apply bH;(conv=>lhs;whnf);(first|done|exact rfl|(apply bB;(first|(apply au;omega)|(apply aw;omega)|assumption|(simp;done)))))))|refine Ah rfl rfl rfl rfl rfl cO aA lp aA aA ?_)|((try refine br ?_);(first|(refine aLs rfl rfl rfl rfl ?_ ?_;(focus(apply bH;(conv=>lhs;whnf);(first|done|exact rfl|(apply bB;(first|(apply au;omega)|(apply aw;omega)|assumption|(simp;done)))))))|refine aLw rfl rfl rfl rfl cO lp ?_))));exact hW.out)):p:=f ⟨h⟩
theorem zs50{p q:Prop}(h:q)(f:Wq q->p:=by(intro hW;((first|(first|(refine aHs rfl rfl rfl rfl rfl ?_ ?_;(focus(apply bH;(conv=>lhs;whnf);(first|done|exact rfl|(apply bB;(first|(apply au;omega)|(apply aw;omega)|assumption|(simp;done)))))))|refine Ah rfl rfl rfl rfl rfl cO aA zb1 aA aA ?_)|((try refine br ?_);(first|(refine aLs rfl rfl rfl rfl ?_ ?_;(focus(apply bH;(conv=>lhs;whnf);(first|done|exact rfl|(apply bB;(first|(apply au;omega)|(apply aw;omega)|assumption|(simp;done)))))))|refine aLw rfl rfl rfl rfl cO zb1 ?_))));exact hW.out)):p:=f ⟨h⟩
theorem zs51{p q:Prop}(h:q)(f:Wq q->p:=by(intro hW;((first|(first|(refine aHs rfl rfl rfl rfl rfl ?_ ?_;(focus(apply bH;(conv=>lhs;whnf);(first|done|exact rfl|(apply bB;(first|(apply au;omega)|(apply aw;omega)|assumption|(simp;done)))))))|refine Ah rfl rfl rfl rfl rfl cO aA zb28 aA aA ?_)|((try refine br ?_);(first|(refine aLs rfl rfl rfl rfl ?_ ?_;(focus(apply bH;(conv=>lhs;whnf);(first|done|exact rfl|(apply bB;(first|(apply au;omega)|(apply aw;omega)|assumption|(simp;done)))))))|refine aLw rfl rfl rfl rfl cO zb28 ?_))));exact hW.out)):p:=f ⟨h⟩
theorem zb5{p:Prop}(h:p:=by(first|(apply wI;(exact rfl);(focus((apply ao;(conv=>lhs;whnf);(first|done|exact rfl))));(focus(first|exact rfl|(apply au;omega)|assumption|(simp;done)));(exact iY))|(apply wJ;(exact rfl);(focus((apply ao;(conv=>lhs;whnf);(first|done|exact rfl))));(focus(first|exact rfl|(apply aw;omega)|assumption|(simp;done)));(focus((apply ao;(conv=>lhs;whnf);(first|done|exact rfl)))))|(apply d_pick;(exact rfl);(focus((apply ao;(conv=>lhs;whnf);(first|done|exact rfl))));(exact iY);(focus((apply ao;(conv=>lhs;whnf);(first|done|exact rfl))));(exact rfl)))):p:=h
theorem zs53{p q:Prop}(h:q)(f:Wq q->p:=by(intro hW;((first|refine fm rfl rfl rfl aA zb5 aA aA ?_|((try refine br ?_);refine aL1 rfl rfl rfl zb5 ?_)));exact hW.out)):p:=f ⟨h⟩
theorem zs46{p q:Prop}(h:q)(f:Wq q->p:=by(intro hW;((first|refine fm rfl rfl rfl aA yT aA aA ?_|((try refine br ?_);refine aL1 rfl rfl rfl yT ?_)));exact hW.out)):p:=f ⟨h⟩
theorem Ea{p q:Prop}(h:q)(f:Wq q->p:=by(intro hW;(refine zs45 ?_;refine dY ?_;refine zs46 ?_;refine pJ ?_;refine zs48 ?_;refine dY ?_;refine zs49 ?_;refine zs50 ?_;refine zs51 ?_;refine zs52 ?_;refine zs53 ?_;refine sd ?_;refine pK ?_);exact hW.out)):p:=f ⟨h⟩
theorem jY{p q:Prop}(h:q)(f:Wq q->p:=by(intro hW;(refine aL1 rfl rfl rfl zb25 ?_);exact hW.out)):p:=f ⟨h⟩
theorem zb33{p:Prop}(h:p:=by(apply dB;(exact rfl);(focus((apply ao;(conv=>lhs;whnf);(first|done|exact rfl))));(exact ct);(exact rfl))):p:=h
theorem ln{p q:Prop}(h:q)(f:Wq q->p:=by(intro hW;(refine aL1 rfl rfl rfl zb33 ?_);exact hW.out)):p:=f ⟨h⟩
theorem yL{p q:Prop}(h:q)(f:Wq q->p:=by(intro hW;(refine cN ?_;refine jY ?_;refine ln ?_;refine cM ?_);exact hW.out)):p:=f ⟨h⟩
theorem zs42{p q:Prop}(h:q)(f:Wq q->p:=by(intro hW;(refine aL1 rfl rfl rfl (by(first|(apply CT;(exact rfl);(focus((apply ao;(conv=>lhs;whnf);(first|done|exact rfl))));(focus((apply ao;(conv=>lhs;whnf);(first|done|exact rfl))));(exact rfl);(focus((first|exact GX)));(exact rfl))|(apply CU;(exact rfl);(focus((apply ao;(conv=>lhs;whnf);(first|done|exact rfl))));(focus((apply ao;(conv=>lhs;whnf);(first|done|exact rfl))));(exact rfl);(focus((first|exact GX)));(exact rfl)))) ?_);exact hW.out)):p:=f ⟨h⟩
theorem eZ{p q:Prop}(h:q)(f:Wq q->p:=by(intro hW;(refine zs3 ?_;refine yF ?_;refine ed ?_);exact hW.out)):p:=f ⟨h⟩
theorem oK{p q:Prop}(h:q)(f:Wq q->p:=by(intro hW;(refine cN ?_;refine eZ ?_;refine zs42 ?_;refine aJ ?_);exact hW.out)):p:=f ⟨h⟩
theorem iV{p q:Prop}(h:q)(f:Wq q->p:=by(intro hW;(refine aL1 rfl rfl rfl zb41 ?_);exact hW.out)):p:=f ⟨h⟩
theorem ir{p q:Prop}(h:q)(f:Wq q->p:=by(intro hW;(refine uc ?_;refine dD ?_);exact hW.out)):p:=f ⟨h⟩
end
section
open Go.RowKit
namespace DW
def ixp{α:Type}(p:α->Bool)(l:List α):Int:=if l.any p=true then(l.findIdx p:Nat)else-1
theorem sZ{α:Type}(p:α->Bool)(l:List α):decide (ixp p l>=0)=l.any p:=by
 unfold ixp
 cases h:l.any p with
 |true=>simp
 |false=>simp
theorem qq{α:Type}{p:α->Bool}{l:List α}{k:Nat}{x:α}(h:l[k]?=some x)(hx:p x=true)(hz:∀j y,j<k->l[j]?=some y->p y=false):ixp p l=k:=by
 unfold ixp;rw[aB (gL.2 ⟨x,bU h,hx⟩)];have hk:=(cF.1 h).1;have hxe:=(cF.1 h).2;congr 1;rw[List.findIdx_eq hk];refine⟨by rw[hxe];exact hx,fun j hj=>?_⟩;have:=hz j _ hj (bn aa);simpa using this
theorem qp{α:Type}{p:α->Bool}{l:List α}(hz:∀j y,j<l.length->l[j]?=some y->p y=false):ixp p l= -1:=by
 unfold ixp;rw[aj];intro h;obtain⟨x,hx,h2⟩:=gL.1 h;obtain⟨j,hj,e⟩:=List.getElem_of_mem hx;rw[hz j x hj (by rw[bn hj,e])]at h2;cases h2
set_option maxRecDepth 20000
set_option maxHeartbeats 1000000
theorem ixI_d(g:Nat)(cs:List D)(p:Int->Bool)(l:List (Int))(hl:l.length<=1000000)(hg:∀z∈l,Fn Tryz.prog g (zI z::cs) (.sc (.bool (p z)))):Fn Tryz.prog 315 [dI l,.cl g cs] (zI (ixp p l)):=by
 refine aH Tryz.func315 ak rfl rfl rfl fun X0=>?_;simp only[az];refine dC ?_;refine jF ?_;refine zs1 ?_
 (refine bE (aD (sl':=[(0,dI l),(1,.cl g cs),(6,dI l),(7,zI l.length),(8,zI 0)]) (ow':=[]) aS aR) ?_)
 refine bj (fun r s=>∃k,k<=l.length/\r=l.length-k/\(∀j y,j<k->l[j]?=some y->p y=false)/\s=⟨[(0,dI l),(1,.cl g cs),(6,dI l),(7,zI l.length),(8,zI (k:Nat))],[]⟩) (m:=l.length) ⟨0,aI _,rfl,fun j y hj=>absurd hj (nG j),rfl⟩ fun r s hs=>?_;obtain⟨k,hk,rfl,hz,rfl⟩:=hs;by_cases hkl:k<l.length
 ·obtain⟨x,hx⟩:=get_some hkl;have GX:=hg x (bU hx)
  cases h0:p x with
  |false=>
   rw[h0]at GX;refine ir ?_;refine oK ?_;refine aQ ?_;refine dp ?_;simp only[nx];exact⟨l.length-(k+1),_,by omega,(aD (sl':=[(0,dI l),(1,.cl g cs),(6,dI l),(7,zI l.length),(8,zI ((k+1:Nat):Int))]) (ow':=[]) aS aR),k+1,by omega,rfl,fun j y hj hy=>by
    by_cases e:j=k
    ·subst e;rw[hx]at hy;cases hy;exact h0
    ·exact hz j y aa hy,rfl⟩
  |true=>
   rw[h0]at GX;have EC:=qq hx h0 hz;refine ir ?_;refine oK ?_;refine bP ?_;refine dD ?_;rw[EC];exact⟨_,Sh.refl,.one (.tmp 4) _ rfl (.tmp 4 rfl)⟩
 ·obtain rfl:k=l.length:=by omega
  have EC:=qp hz;refine eO ?_;refine cX ?_;rw[EC];exact⟨_,Sh.refl,.one (.tmp 4) _ rfl (.tmp 4 rfl)⟩
theorem anI_d(g:Nat)(cs:List D)(p:Int->Bool)(l:List (Int))(hl:l.length<=1000000)(hg:∀z∈l,Fn Tryz.prog g (zI z::cs) (.sc (.bool (p z)))):Fn Tryz.prog 235 [dI l,.cl g cs] (.sc (.bool (l.any p))):=by
 have IX:=ixI_d g cs p l hl hg;rw[<-sZ];refine aH Tryz.func235 ak rfl rfl rfl fun X0=>?_;simp only[az];refine eY ?_;refine yL ?_;refine zs1 ?_;exact⟨_,Sh.refl,.one (.tmp 4) _ rfl (.tmp 4 rfl)⟩
theorem ixM_d(g:Nat)(cs:List D)(p:List Int->Bool)(l:List (List Int))(hl:l.length<=1000000)(hg:∀z∈l,Fn Tryz.prog g (dI z::cs) (.sc (.bool (p z)))):Fn Tryz.prog 345 [dM l,.cl g cs] (zI (ixp p l)):=by
 refine aH Tryz.func345 ak rfl rfl rfl fun X0=>?_;simp only[az];refine dC ?_;refine jF ?_;refine zs1 ?_
 (refine bE (aD (sl':=[(0,dM l),(1,.cl g cs),(6,dM l),(7,zI l.length),(8,zI 0)]) (ow':=[]) aS aR) ?_)
 refine bj (fun r s=>∃k,k<=l.length/\r=l.length-k/\(∀j y,j<k->l[j]?=some y->p y=false)/\s=⟨[(0,dM l),(1,.cl g cs),(6,dM l),(7,zI l.length),(8,zI (k:Nat))],[]⟩) (m:=l.length) ⟨0,aI _,rfl,fun j y hj=>absurd hj (nG j),rfl⟩ fun r s hs=>?_;obtain⟨k,hk,rfl,hz,rfl⟩:=hs;by_cases hkl:k<l.length
 ·obtain⟨x,hx⟩:=get_some hkl;have GX:=hg x (bU hx)
  cases h0:p x with
  |false=>
   rw[h0]at GX;refine ir ?_;refine oK ?_;refine aQ ?_;refine dp ?_;simp only[nx];exact⟨l.length-(k+1),_,by omega,(aD (sl':=[(0,dM l),(1,.cl g cs),(6,dM l),(7,zI l.length),(8,zI ((k+1:Nat):Int))]) (ow':=[]) aS aR),k+1,by omega,rfl,fun j y hj hy=>by
    by_cases e:j=k
    ·subst e;rw[hx]at hy;cases hy;exact h0
    ·exact hz j y aa hy,rfl⟩
  |true=>
   rw[h0]at GX;have EC:=qq hx h0 hz;refine ir ?_;refine oK ?_;refine bP ?_;refine dD ?_;rw[EC];exact⟨_,Sh.refl,.one (.tmp 4) _ rfl (.tmp 4 rfl)⟩
 ·obtain rfl:k=l.length:=by omega
  have EC:=qp hz;refine eO ?_;refine cX ?_;rw[EC];exact⟨_,Sh.refl,.one (.tmp 4) _ rfl (.tmp 4 rfl)⟩
theorem Eu(g:Nat)(cs:List D)(p:List Int->Bool)(l:List (List Int))(hl:l.length<=1000000)(hg:∀z∈l,Fn Tryz.prog g (dI z::cs) (.sc (.bool (p z)))):Fn Tryz.prog 279 [dM l,.cl g cs] (.sc (.bool (l.any p))):=by
 have IX:=ixM_d g cs p l hl hg;rw[<-sZ];refine aH Tryz.func279 ak rfl rfl rfl fun X0=>?_;simp only[az];refine eY ?_;refine yL ?_;refine zs1 ?_;exact⟨_,Sh.refl,.one (.tmp 4) _ rfl (.tmp 4 rfl)⟩
def szw(z:Int):Int:=if wrap64 (0-z)>z then wrap64 (0-z)else z
theorem xC(z:Int):Fn Tryz.prog 180 [zI z] (zI (szw z)):=by
 unfold szw;generalize hy:wrap64 (0-z)=y;refine aH Tryz.func180 ak rfl rfl rfl fun X0=>?_;simp only[az];refine dC ?_;refine cN ?_;refine zs40 ?_;(refine aL1 rfl rfl rfl (by(apply d_max;(exact rfl);(focus((apply ao;(conv=>lhs;whnf);(first|done|exact rfl))));(focus((apply ao;(conv=>lhs;whnf);(first|done|exact rfl)))))) ?_);refine cA ?_;first|rw[hy]|skip
 exact⟨_,Sh.refl,.one (.tmp 2) _ rfl (.tmp 2 rfl)⟩
theorem EN{z:Int}(h:z.natAbs<=9223372036854775807):szw z=(z.natAbs:Int):=by
 unfold szw;rw[mG (0-z) aa];split<;>omega
theorem EM{m z:Int}(h0:0<=m)(h1:m<=1000000000000000):(decide (szw z>m)||decide (z< -m))= !inb m z:=by
 unfold szw inb;by_cases h: -m<=z/\z<=m
 ·rw[au h.1,au h.2,mG (0-z) aa,aw (by omega:¬z< -m),aw]
  ·rfl
  ·split<;>omega
 ·by_cases h2:z< -m
  ·rw[au h2,aw (by omega:¬-m<=z),kb];rfl
  ·rw[au (by omega: -m<=z),aw (by omega:¬z<=m),au]
   ·rfl
   ·split<;>omega
theorem Ip(z m:Int)(h0:0<=m)(h1:m<=1000000000000000):Fn Tryz.prog 282 [zI z,.pt (zI m)] (.sc (.bool (!inb m z))):=by
 have SZ:=xC z;rw[<-EM h0 h1];generalize szw z=y at*;by_cases h:y>m
 ·have hd:decide (y>m)=true:=au h;rw[hd,nI];refine aH Tryz.func282 ak rfl rfl rfl fun X0=>?_;simp only[az];refine eY ?_;refine Ea ?_;refine zs1 ?_;exact⟨_,Sh.refl,.one (.tmp 3) _ rfl (.tmp 3 rfl)⟩
 ·have hd:decide (y>m)=false:=aw h;rw[hd,Bool.false_or];refine aH Tryz.func282 ak rfl rfl rfl fun X0=>?_;simp only[az];refine eY ?_;refine Ea ?_;refine zs1 ?_;exact⟨_,Sh.refl,.one (.tmp 3) _ rfl (.tmp 3 rfl)⟩
theorem bnd_d(r:List Int)(hr:r.length<=1000000)(m:Int)(h0:0<=m)(h1:m<=1000000000000000):Fn Tryz.prog 281 [dI r,.pt (zI m)] (.sc (.bool (r.any fun z=>!inb m z))):=by
 have AN:=anI_d 282 [.pt (zI m)] (fun z=>!inb m z) r hr fun z _=>Ip z m h0 h1;refine aH Tryz.func281 ak rfl rfl rfl fun X0=>?_;simp only[az];refine eY ?_;refine bD ?_;refine zs54 ?_;refine jY ?_;refine cA ?_;exact⟨_,Sh.refl,.one (.tmp 3) _ rfl (.tmp 3 rfl)⟩
def fX(m:Int)(g:Mx.Mat):Bool:=!(g.any fun r=>r.any fun z=>!inb m z)
theorem tV(g:Mx.Mat)(hg:g.length<=1000000)(hr:∀r∈g,r.length<=1000000)(m:Int)(h0:0<=m)(h1:m<=1000000000000000):Fn Tryz.prog 166 [dM g,zI m] (.sc (.bool (fX m g))):=by
 have AN:=Eu 281 [.pt (zI m)] (fun r=>r.any fun z=>!inb m z) g hg fun r h=>bnd_d r (hr r h) m h0 h1;unfold fX;refine aH Tryz.func166 ak rfl rfl rfl fun X0=>?_;simp only[az];refine oH ?_;refine bD ?_;refine zs54 ?_;refine jY ?_;refine iV ?_;refine cA ?_;exact⟨_,Sh.refl,.one (.tmp 4) _ rfl (.tmp 4 rfl)⟩
theorem sq1_d(r:List Int)(n:Int):Fn Tryz.prog 280 [dI r,.pt (zI n)] (.sc (.bool (!decide ((r.length:Int)=n)))):=by
 refine aH Tryz.func280 ak rfl rfl rfl fun X0=>?_;simp only[az];refine eY ?_;refine bD ?_;refine iu ?_;refine ed ?_;refine nD ?_;refine cA ?_;exact⟨_,Sh.refl,.one (.tmp 3) _ rfl (.tmp 3 rfl)⟩
def sqB(g:Mx.Mat)(n:Int):Bool:=decide ((g.length:Int)=n)&& !(g.any fun r=>!decide ((r.length:Int)=n))
theorem pX(g:Mx.Mat)(hg:g.length<=1000000)(n:Int):Fn Tryz.prog 165 [dM g,zI n] (.sc (.bool (sqB g n))):=by
 have AN:=Eu 280 [.pt (zI n)] (fun r=>!decide ((r.length:Int)=n)) g hg fun r _=>sq1_d r n;unfold sqB;by_cases h:(g.length:Int)=n
 ·have hd:decide ((g.length:Int)=n)=true:=au h;rw[hd,jr];refine aH Tryz.func165 ak rfl rfl rfl fun X0=>?_;simp only[az];refine oH ?_;refine D0 ?_;refine zs1 ?_;exact⟨_,Sh.refl,.one (.tmp 4) _ rfl (.tmp 4 rfl)⟩
 ·have hd:decide ((g.length:Int)=n)=false:=aw h;rw[hd,Bool.false_and];refine aH Tryz.func165 ak rfl rfl rfl fun X0=>?_;simp only[az];refine oH ?_;refine D0 ?_;refine zs1 ?_;exact⟨_,Sh.refl,.one (.tmp 4) _ rfl (.tmp 4 rfl)⟩
end DW
end
end Go.Proofs.YtepdigdijecgpaaGreat
