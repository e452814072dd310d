/- Lemmas for the law: F7 F8 F9 -/
import Derived.Test.YtepdigdijecgpaaGreatZv8
namespace Go.Proofs.YtepdigdijecgpaaGreat
section
theorem zs89{p q:Prop}(h:q)(f:Wq q->p:=by(intro hW;((refine wV rfl rfl rfl rfl fe (CI) aA aA ?_));exact hW.out)):p:=f ⟨h⟩
theorem zs93{p q:Prop}(h:q)(f:Wq q->p:=by(intro hW;((first|refine aN1 rfl rfl rfl uS ?_|refine aN1o rfl rfl rfl uS ?_));exact hW.out)):p:=f ⟨h⟩
theorem zs92{p q:Prop}(h:q)(f:Wq q->p:=by(intro hW;((refine wW (k:=26) rfl rfl rfl rfl fe fe iW aA uR ak ak zb51 zb39 ?_));exact hW.out)):p:=f ⟨h⟩
theorem zs91{p q:Prop}(h:q)(f:Wq q->p:=by(intro hW;((refine wV rfl rfl rfl rfl fe (CK) aA aA ?_));exact hW.out)):p:=f ⟨h⟩
theorem zs86{p q:Prop}(h:q)(f:Wq q->p:=by(intro hW;(refine BL [17,26,1000000017,1000000026] ak (by(apply gy;(focus((apply gy;(focus((apply gy;(focus((apply gy;(exact tN);(focus((repeat(first|exact gY|(apply fU;(exact rfl))|(apply gZ;(exact rfl)))))))));(focus((repeat(first|exact gY|(apply fU;(exact rfl))|(apply gZ;(exact rfl)))))))));(focus((repeat(first|exact gY|(apply fU;(exact rfl))|(apply gZ;(exact rfl)))))))));(focus((repeat(first|exact gY|(apply fU;(exact rfl))|(apply gZ;(exact rfl)))))))) ?_);exact hW.out)):p:=f ⟨h⟩
theorem zs88{p q:Prop}(h:q)(f:Wq q->p:=by(intro hW;((first|refine aN1 rfl rfl rfl zb1 ?_|refine aN1o rfl rfl rfl zb1 ?_));exact hW.out)):p:=f ⟨h⟩
theorem zs90{p q:Prop}(h:q)(f:Wq q->p:=by(intro hW;((refine wW (k:=17) rfl rfl rfl rfl fe fe iW aA uR ak ak zb51 zb39 ?_));exact hW.out)):p:=f ⟨h⟩
theorem zs87{p q:Prop}(h:q)(f:Wq q->p:=by(intro hW;((first|refine aN1 rfl rfl rfl sy ?_|refine aN1o rfl rfl rfl sy ?_));exact hW.out)):p:=f ⟨h⟩
theorem Dt{p q:Prop}(h:q)(f:Wq q->p:=by(intro hW;(refine zs86 ?_;refine zs87 ?_;refine zs88 ?_;refine jy ?_;refine jy ?_;refine zs29 ?_;refine zs89 ?_;refine jy ?_;refine jy ?_;refine zs30 ?_;refine zs31 ?_;refine zs90 ?_;refine jy ?_;refine jy ?_;refine zs29 ?_;refine zs91 ?_;refine jy ?_;refine jy ?_;refine zs30 ?_;refine zs31 ?_;refine zs92 ?_;refine zs93 ?_;refine zs32 ?_;(refine BM ak ?_));exact hW.out)):p:=f ⟨h⟩
theorem zs84{p q:Prop}(h:q)(f:Wq q->p:=by(intro hW;((first|(apply aG 5;(focus kernel_rfl);(decide+kernel))|(apply aG 4;(focus kernel_rfl);(decide+kernel))|(apply aG 3;(focus kernel_rfl);(decide+kernel))|(apply aG 2;(focus kernel_rfl);(decide+kernel))|(apply aG 1;(focus kernel_rfl);(decide+kernel)));simp only[iC,fM,js,gi]);exact hW.out)):p:=f ⟨h⟩
theorem zb8{p:Prop}(h:p:=by(first|(apply BC;(exact rfl);(focus((apply ao;(conv=>lhs;whnf);(first|done|exact rfl))));(focus((apply ao;(conv=>lhs;whnf);(first|done|exact rfl))));(exact rfl);(exact rfl))|(apply d_remP;(exact rfl);(focus((apply ao;(conv=>lhs;whnf);(first|done|exact rfl))));(focus((apply ao;(conv=>lhs;whnf);(first|done|exact rfl))));(omega))|(apply wH;(exact rfl);(focus((apply ao;(conv=>lhs;whnf);(first|done|exact rfl))));(focus((apply ao;(conv=>lhs;whnf);(first|done|exact rfl))));(focus(first|omega|decide))))):p:=h
theorem zs85{p q:Prop}(h:q)(f:Wq q->p:=by(intro hW;((first|refine fm rfl rfl rfl aA zb8 aA aA ?_|((try refine br ?_);refine aL1 rfl rfl rfl zb8 ?_)));exact hW.out)):p:=f ⟨h⟩
theorem Du{p q:Prop}(h:q)(f:Wq q->p:=by(intro hW;(refine zs84 ?_;refine dY ?_;refine dY ?_;refine dY ?_;refine zs85 ?_;refine sd ?_;refine sd ?_;refine pK ?_);exact hW.out)):p:=f ⟨h⟩
theorem Dv{p q:Prop}(h:q)(f:Wq q->p:=by(intro hW;(refine bD ?_;refine ln ?_;refine dE ?_;refine uI ?_;refine iq ?_;refine cM ?_);exact hW.out)):p:=f ⟨h⟩
theorem Ds{p q:Prop}(h:q)(f:Wq q->p:=by(intro hW;(refine cN ?_;refine zs25 ?_;refine zs74 ?_;refine yy ?_;refine aJ ?_);exact hW.out)):p:=f ⟨h⟩
theorem oJ{p q:Prop}(h:q)(f:Wq q->p:=by(intro hW;(refine bD ?_;refine zs75 ?_;refine aJ ?_);exact hW.out)):p:=f ⟨h⟩
end
section
open Go.RowKit
namespace DW
abbrev fnv(g:Nat):D:=.sc (.func (.func g) #[] #[])
set_option maxRecDepth 20000
set_option maxHeartbeats 1000000
theorem Hw(g:Nat)(p:Int->Bool)(l:List (Int))(hl:l.length<=1000000)(hg:∀z∈l,Fn Tryz.prog g [zI z] (.sc (.bool (p z)))):Fn Tryz.prog 315 [dI l,fnv g] (zI (ixp p l)):=by
 refine aH Tryz.func315 ak rfl rfl rfl fun X0=>?_;simp only[az];refine dC ?_;refine jF ?_;refine zs1 ?_
 (refine bE (aD (sl':=[(0,dI l),(1,fnv g),(6,dI l),(7,zI l.length),(8,zI 0)]) (ow':=[]) aS aR) ?_)
 refine bj (fun r s=>∃k,k<=l.length/\r=l.length-k/\(∀j y,j<k->l[j]?=some y->p y=false)/\s=⟨[(0,dI l),(1,fnv g),(6,dI l),(7,zI l.length),(8,zI (k:Nat))],[]⟩) (m:=l.length) ⟨0,aI _,rfl,fun j y hj=>absurd hj (nG j),rfl⟩ fun r s hs=>?_;obtain⟨k,hk,rfl,hz,rfl⟩:=hs;by_cases hkl:k<l.length
 ·obtain⟨x,hx⟩:=get_some hkl;have GX:=hg x (bU hx)
  cases h0:p x with
  |false=>
   rw[h0]at GX;refine ir ?_;refine oK ?_;refine aQ ?_;refine dp ?_;simp only[nx];exact⟨l.length-(k+1),_,by omega,(aD (sl':=[(0,dI l),(1,fnv g),(6,dI l),(7,zI l.length),(8,zI ((k+1:Nat):Int))]) (ow':=[]) aS aR),k+1,by omega,rfl,fun j y hj hy=>by
    by_cases e:j=k
    ·subst e;rw[hx]at hy;cases hy;exact h0
    ·exact hz j y aa hy,rfl⟩
  |true=>
   rw[h0]at GX;have EC:=qq hx h0 hz;refine ir ?_;refine oK ?_;refine bP ?_;refine dD ?_;rw[EC];exact⟨_,Sh.refl,.one (.tmp 4) _ rfl (.tmp 4 rfl)⟩
 ·obtain rfl:k=l.length:=by omega
  have EC:=qp hz;refine eO ?_;refine cX ?_;rw[EC];exact⟨_,Sh.refl,.one (.tmp 4) _ rfl (.tmp 4 rfl)⟩
theorem Is(g:Nat)(p:Int->Bool)(l:List (Int))(hl:l.length<=1000000)(hg:∀z∈l,Fn Tryz.prog g [zI z] (.sc (.bool (p z)))):Fn Tryz.prog 235 [dI l,fnv g] (.sc (.bool (l.any p))):=by
 have IX:=Hw g p l hl hg;rw[<-sZ];refine aH Tryz.func235 ak rfl rfl rfl fun X0=>?_;simp only[az];refine eY ?_;refine yL ?_;refine zs1 ?_;exact⟨_,Sh.refl,.one (.tmp 4) _ rfl (.tmp 4 rfl)⟩
theorem HC(z:Int):Fn Tryz.prog 301 [zI z] (.sc (.bool (!inb 1000000 z))):=by
 by_cases h:z< -1000000
 ·have hd:decide (z< -1000000)=true:=au h;have EC:inb 1000000 z=false:=by unfold inb;rw[aw (by omega:¬-1000000<=z)];rfl
  rw[EC];refine aH Tryz.func301 ak rfl rfl rfl fun X0=>?_;simp only[az];refine eY ?_;refine Dv ?_;refine zs1 ?_;exact⟨_,Sh.refl,.one (.tmp 2) _ rfl (.tmp 2 rfl)⟩
 ·have hd:decide (z< -1000000)=false:=aw h;have EC:(!inb 1000000 z)=decide (z>1000000):=by
   unfold inb;rw[au (by omega: -1000000<=z),jr];by_cases h2:z<=1000000
   ·rw[au h2,aw aa];rfl
   ·rw[aw h2,au aa];rfl
  rw[EC];refine aH Tryz.func301 ak rfl rfl rfl fun X0=>?_;simp only[az];refine eY ?_;refine Dv ?_;refine zs1 ?_;exact⟨_,Sh.refl,.one (.tmp 2) _ rfl (.tmp 2 rfl)⟩
theorem Bn(l:List Int)(hl:l.length<=1000000):Fn Tryz.prog 205 [dI l] (.sc (.bool (!(l.any fun z=>!inb 1000000 z)))):=by
 have AN:=Is 301 (fun z=>!inb 1000000 z) l hl fun z _=>HC z;refine aH Tryz.func205 ak rfl rfl rfl fun X0=>?_;simp only[az];refine eY ?_;refine bD ?_;(refine aL1 rfl rfl rfl (by(apply pr;(exact rfl);(focus((apply ao;(conv=>lhs;whnf);(first|done|exact rfl))));(focus((first|exact op_zero|exact rfl)));(exact rfl);(exact rfl);(assumption);(exact rfl))) ?_);refine iV ?_;refine cA ?_;exact⟨_,Sh.refl,.one (.tmp 2) _ rfl (.tmp 2 rfl)⟩
def ptm(g:Mx.Mat)(x y:List Int)(i k:Nat):Int:=x.getD i 0*Mx.at' g i k*y.getD k 0
def prw(n:Nat)(g:Mx.Mat)(x y:List Int)(i:Nat):Int:=Mx.sm n (ptm g x y i)
def pv(n:Nat)(g:Mx.Mat)(x y:List Int):Int:=Mx.sm n (prw n g x y)
def Vb(x:List Int):Prop:=∀i,(x.getD i 0).natAbs<=1000000
theorem vb_of{x:List Int}(h:(x.any fun z=>!inb 1000000 z)=false):Vb x:=fun i=>by
 rw[aF]
 cases hz:x[i]? with
 |none=>simp
 |some z=>
  rw[jt]at h;have:=h z (bU hz);simp only[kd];unfold inb at this;simp at this;omega
theorem zy{g:Mx.Mat}{x y:List Int}(hb:Mx.Bd 1000 g)(hx:Vb x)(hy:Vb y)(i k:Nat):(ptm g x y i k).natAbs<=1000000000000000:=by
 unfold ptm;exact aU (jR (jR (hx i) (hb i k)) (hy k)) aE
theorem zz{g:Mx.Mat}{x y:List Int}(hb:Mx.Bd 1000 g)(hx:Vb x)(hy:Vb y)(i:Nat){k:Nat}(hk:k<=4):(Mx.sm k (ptm g x y i)).natAbs<=4000000000000000:=
 aU (Mx.lU k _ _ fun l _=>zy hb hx hy i l) (cJ _ hk)
theorem pv_b{n:Nat}{g:Mx.Mat}{x y:List Int}(hb:Mx.Bd 1000 g)(hx:Vb x)(hy:Vb y)(hn:n<=4){i:Nat}(hi:i<=4):(Mx.sm i (prw n g x y)).natAbs<=16000000000000000:=
 aU (Mx.lU i _ _ fun l _=>zz hb hx hy l hn) (cJ _ hi)
set_option maxHeartbeats 2000000
theorem G7{g:Mx.Mat}{n:Nat}{x y:List Int}(hg:g.length=n)(hR:Mx.Rc n g)(hb:Mx.Bd 1000 g)(hn:n<=4)(hx:x.length=n)(hy:y.length=n)(vx:Vb x)(vy:Vb y):Fn Tryz.prog 178 [dM g,dI x,dI y] (zI (pv n g x y)):=by
 have hP:=fun i (hi:i<=4)=>pv_b hb vx vy hn hi;have hQ:=fun i k (hk:k<=4)=>zz hb vx vy i hk;have hT:=fun i k=>zy hb vx vy i k;have hXG:=fun i k=>jR (vx i) (hb i k);unfold pv;refine aH Tryz.func178 ak rfl rfl rfl fun X0=>?_;simp only[az];refine dC ?_;refine cX ?_;refine jF ?_;refine zs1 ?_
 (refine bE (aD (sl':=[(1,dI x),(2,dI y),(7,zI 0),(12,dM g),(13,zI g.length),(14,zI 0)]) (ow':=[]) aS aR) ?_)
 refine bj (fun r s=>∃i,i<=n/\r=n-i/\s=⟨[(1,dI x),(2,dI y),(7,zI (Mx.sm i (prw n g x y))),(12,dM g),(13,zI g.length),(14,zI (i:Nat))],[]⟩) (m:=n) ⟨0,aI _,rfl,rfl⟩ fun r s hs=>?_;obtain⟨i,hi,rfl,rfl⟩:=hs;by_cases hil:i<n
 ·obtain⟨r,hr⟩:=get_some (m:=g) (k:=i) aa;have hrl:=hR r (bU hr);obtain⟨a,ha⟩:=get_some (m:=x) (k:=i) aa;have ea:x.getD i 0=a:=by rw[aF,ha];rfl
  have hS1:Mx.sm (i+1) (prw n g x y)=Mx.sm i (prw n g x y)+Mx.sm n (ptm g x y i):=rfl;have bS:=hP i aa;obtain⟨S,hS⟩:∃S,S=Mx.sm i (prw n g x y):=⟨_,rfl⟩;rw[<-hS]at hS1 bS;rw[<-hS];clear hS hP;refine gg ?_;refine jF ?_;refine zs1 ?_
  (refine bE (aD (sl':=[(1,dI x),(2,dI y),(7,zI S),(8,zI (i:Nat)),(12,dM g),(13,zI g.length),(14,zI (i:Nat)),(19,dI r),(20,zI r.length),(21,zI 0)]) (ow':=[]) aS aR) ?_)
  refine bj (fun rr s=>∃k,k<=n/\rr=n-k/\s=⟨[(1,dI x),(2,dI y),(7,zI (S+Mx.sm k (ptm g x y i))),(8,zI (i:Nat)),(12,dM g),(13,zI g.length),(14,zI (i:Nat)),(19,dI r),(20,zI r.length),(21,zI (k:Nat))],[]⟩) (m:=n) ⟨0,aI _,rfl,by show _=(⟨[_,_,(7,zI (S+0)),_,_,_,_,_,_,_],_⟩:DW.S);rw[Int.add_zero];rfl⟩ fun rr s hs=>?_;obtain⟨k,hk,rfl,rfl⟩:=hs;by_cases hkl:k<n
  ·obtain⟨z,hz⟩:=get_some (m:=r) (k:=k) aa;obtain⟨b,hb2⟩:=get_some (m:=y) (k:=k) aa;have eb:y.getD k 0=b:=by rw[aF,hb2];rfl
   have ez:Mx.at' g i k=z:=by unfold Mx.at';rw[Mx.cC hr,aF,hz];rfl
   have hT1:Mx.sm (k+1) (ptm g x y i)=Mx.sm k (ptm g x y i)+a*z*b:=by
    show _+ptm g x y i k=_;unfold ptm;rw[ea,eb,ez]
   have bT:=hQ i k aa;have bT1:=hT i k;have bXG:=hXG i k;unfold ptm at bT1;rw[ea,eb,ez]at bT1;rw[ea,ez]at bXG;obtain⟨T,hTe⟩:∃T,T=Mx.sm k (ptm g x y i):=⟨_,rfl⟩;rw[<-hTe]at hT1 bT;rw[<-hTe];clear hTe hQ hT hXG hb vx vy ea eb ez;refine gg ?_;((first|(apply aG 13;(focus kernel_rfl);(decide+kernel))|(apply aG 12;(focus kernel_rfl);(decide+kernel))|(apply aG 11;(focus kernel_rfl);(decide+kernel))|(apply aG 10;(focus kernel_rfl);(decide+kernel))|(apply aG 9;(focus kernel_rfl);(decide+kernel))|(apply aG 8;(focus kernel_rfl);(decide+kernel))|(apply aG 7;(focus kernel_rfl);(decide+kernel))|(apply aG 6;(focus kernel_rfl);(decide+kernel)));simp only[iC,fM,js,gi]);refine dY ?_;refine dY ?_;refine je ?_;refine dY ?_;refine se ?_;refine dY ?_;refine je ?_;refine se ?_;refine zs37 ?_;refine sd ?_;refine pK ?_;refine zs1 ?_;refine dp ?_;simp only[nx];exact⟨n-(k+1),_,by omega,(aD (sl':=[(1,dI x),(2,dI y),(7,zI (S+T+a*z*b)),(8,zI (i:Nat)),(12,dM g),(13,zI g.length),(14,zI (i:Nat)),(19,dI r),(20,zI r.length),(21,zI ((k+1:Nat):Int))]) (ow':=[]) aS aR),k+1,by omega,rfl,by rw[hT1,Int.add_assoc]⟩
  ·obtain rfl:k=n:=by omega
   rw[<-hS1];obtain⟨S1,hS1e⟩:∃S1,S1=Mx.sm (i+1) (prw k g x y):=⟨_,rfl⟩;rw[<-hS1e];clear hS1;refine eO ?_;refine dp ?_;simp only[nx];exact⟨k-(i+1),_,by omega,(aD (sl':=[(1,dI x),(2,dI y),(7,zI S1),(12,dM g),(13,zI g.length),(14,zI ((i+1:Nat):Int))]) (ow':=[]) aS aR),i+1,by omega,rfl,by rw[hS1e]⟩
 ·obtain rfl:i=n:=by omega
  generalize Mx.sm i (prw i g x y)=S1 at*;refine eO ?_;refine dD ?_;exact⟨_,Sh.refl,.one (.tmp 6) _ rfl (.tmp 6 rfl)⟩
theorem E1{g:Mx.Mat}{n:Nat}{x y:List Int}(hg:g.length=n)(hR:Mx.Rc n g)(hb:Mx.Bd 1000 g)(hn:n<=4)(hx:x.length=n)(hy:y.length=n)(vx:Vb x)(vy:Vb y):Fn Tryz.prog 208 [qF n g,dI x,dI y] (zI (pv n g x y)):=by
 have hP:=fun i (hi:i<=4)=>pv_b hb vx vy hn hi;have hQ:=fun i k (hk:k<=4)=>zz hb vx vy i hk;have hT:=fun i k=>zy hb vx vy i k;have hXG:=fun i k=>jR (vx i) (hb i k);unfold pv;refine aH Tryz.func208 ak rfl rfl rfl fun X0=>?_;simp only[az];refine eN ?_;refine cX ?_;refine cX ?_
 (refine bE (aD (sl':=[(1,dI x),(2,dI y),(3,.pt (qF n g)),(7,zI 0),(8,zI 0)]) (ow':=[]) aS aR) ?_)
 refine bj (fun r s=>∃i,i<=n/\r=n-i/\s=⟨[(1,dI x),(2,dI y),(3,.pt (qF n g)),(7,zI (Mx.sm i (prw n g x y))),(8,zI (i:Nat))],[]⟩) (m:=n) ⟨0,aI _,rfl,rfl⟩ fun r s hs=>?_;obtain⟨i,hi,rfl,rfl⟩:=hs;by_cases hil:i<n
 ·obtain⟨r,hr⟩:=get_some (m:=g) (k:=i) aa;have hrl:=hR r (bU hr);obtain⟨a,ha⟩:=get_some (m:=x) (k:=i) aa;have ea:x.getD i 0=a:=by rw[aF,ha];rfl
  have hS1:Mx.sm (i+1) (prw n g x y)=Mx.sm i (prw n g x y)+Mx.sm n (ptm g x y i):=rfl;have bS:=hP i aa;obtain⟨S,hS⟩:∃S,S=Mx.sm i (prw n g x y):=⟨_,rfl⟩;rw[<-hS]at hS1 bS;rw[<-hS];clear hS hP;refine dn ?_;refine dF ?_
  (refine bE (aD (sl':=[(1,dI x),(2,dI y),(3,.pt (qF n g)),(7,zI S),(8,zI (i:Nat)),(9,zI 0)]) (ow':=[]) aS aR) ?_)
  refine bj (fun rr s=>∃k,k<=n/\rr=n-k/\s=⟨[(1,dI x),(2,dI y),(3,.pt (qF n g)),(7,zI (S+Mx.sm k (ptm g x y i))),(8,zI (i:Nat)),(9,zI (k:Nat))],[]⟩) (m:=n) ⟨0,aI _,rfl,by show _=(⟨[_,_,_,(7,zI (S+0)),_,_],_⟩:DW.S);rw[Int.add_zero];rfl⟩ fun rr s hs=>?_;obtain⟨k,hk,rfl,rfl⟩:=hs;by_cases hkl:k<n
  ·obtain⟨z,hz⟩:=get_some (m:=r) (k:=k) aa;obtain⟨b,hb2⟩:=get_some (m:=y) (k:=k) aa;have eb:y.getD k 0=b:=by rw[aF,hb2];rfl
   have ez:Mx.at' g i k=z:=by unfold Mx.at';rw[Mx.cC hr,aF,hz];rfl
   have hT1:Mx.sm (k+1) (ptm g x y i)=Mx.sm k (ptm g x y i)+a*z*b:=by
    show _+ptm g x y i k=_;unfold ptm;rw[ea,eb,ez]
   have bT:=hQ i k aa;have bT1:=hT i k;have bXG:=hXG i k;unfold ptm at bT1;rw[ea,eb,ez]at bT1;rw[ea,ez]at bXG;obtain⟨T,hTe⟩:∃T,T=Mx.sm k (ptm g x y i):=⟨_,rfl⟩;rw[<-hTe]at hT1 bT;rw[<-hTe];clear hTe hQ hT hXG hb vx vy ea eb ez;refine dn ?_;refine bP ?_;((first|(apply aG 20;(focus kernel_rfl);(decide+kernel))|(apply aG 19;(focus kernel_rfl);(decide+kernel))|(apply aG 18;(focus kernel_rfl);(decide+kernel))|(apply aG 17;(focus kernel_rfl);(decide+kernel))|(apply aG 16;(focus kernel_rfl);(decide+kernel))|(apply aG 15;(focus kernel_rfl);(decide+kernel))|(apply aG 14;(focus kernel_rfl);(decide+kernel))|(apply aG 13;(focus kernel_rfl);(decide+kernel)));simp only[iC,fM,js,gi]);refine dY ?_;refine dY ?_;refine je ?_;refine yq ?_;refine pJ ?_;refine je ?_;refine je ?_;refine se ?_;refine dY ?_;refine je ?_;refine se ?_;refine zs37 ?_;refine sd ?_;refine pK ?_;refine zs1 ?_;refine kH ?_;refine zs1 ?_;simp only[nx];exact⟨n-(k+1),_,by omega,(aD (sl':=[(1,dI x),(2,dI y),(3,.pt (qF n g)),(7,zI (S+T+a*z*b)),(8,zI (i:Nat)),(9,zI ((k+1:Nat):Int))]) (ow':=[]) aS aR),k+1,by omega,rfl,by rw[hT1,Int.add_assoc]⟩
  ·obtain rfl:k=n:=by omega
   rw[<-hS1];obtain⟨S1,hS1e⟩:∃S1,S1=Mx.sm (i+1) (prw k g x y):=⟨_,rfl⟩;rw[<-hS1e];clear hS1;refine dn ?_;refine jd ?_;simp only[nx];exact⟨k-(i+1),_,by omega,(aD (sl':=[(1,dI x),(2,dI y),(3,.pt (qF k g)),(7,zI S1),(8,zI ((i+1:Nat):Int))]) (ow':=[]) aS aR),i+1,by omega,rfl,by rw[hS1e]⟩
 ·obtain rfl:i=n:=by omega
  generalize Mx.sm i (prw i g x y)=S1 at*;refine dn ?_;refine aQ ?_;refine dD ?_;exact⟨_,Sh.refl,.one (.tmp 6) _ rfl (.tmp 6 rfl)⟩
end DW
end
section
open Go.RowKit
namespace DW
def gl(l:List Int):Nat:=l.foldl (fun g z=>Nat.gcd g z.natAbs) 0
theorem FU(l:List Int)(z:Int):gl (l++[z])=Nat.gcd (gl l) z.natAbs:=by unfold gl;rw[List.foldl_append];rfl
theorem Br(a b:Int):gl [a,b]=Nat.gcd a.natAbs b.natAbs:=by
 show Nat.gcd (Nat.gcd 0 a.natAbs) b.natAbs=_;rw[Nat.gcd_zero_left]
theorem wm{G N:Int}:Nat.gcd N.natAbs (G.tmod N).natAbs=Nat.gcd G.natAbs N.natAbs:=by
 rw[Int.natAbs_tmod,Nat.gcd_comm N.natAbs,<-Nat.gcd_rec,Nat.gcd_comm]
theorem xt{G N:Int}(h:N≠0):(G.tmod N).natAbs<N.natAbs:=by
 rw[Int.natAbs_tmod];exact et _ aa
set_option maxRecDepth 20000
set_option maxHeartbeats 1000000
theorem A7(l:List Int)(hl:l.length<=1000000)(hb:∀z∈l,z.natAbs<=9000000000000000000):Fn Tryz.prog 197 [dI l] (zI (gl l:Nat)):=by
 refine aH Tryz.func197 ak rfl rfl rfl fun X0=>?_;simp only[az];refine dC ?_;refine cX ?_;refine jF ?_;refine zs1 ?_
 (refine bE (aD (sl':=[(3,zI 0),(6,dI l),(7,zI l.length),(8,zI 0)]) (ow':=[]) aS aR) ?_)
 refine bj (fun r s=>∃(k:Nat) (G:Int),k<=l.length/\r=l.length-k/\G.natAbs=gl (l.take k)/\G.natAbs<=9000000000000000000/\s=⟨[(3,zI G),(6,dI l),(7,zI l.length),(8,zI (k:Nat))],[]⟩) (m:=l.length) ⟨0,0,aI _,rfl,rfl,by decide,rfl⟩ fun r s hs=>?_;obtain⟨k,G,hk,rfl,hG,bG,rfl⟩:=hs;by_cases hkl:k<l.length
 ·obtain⟨z,hz⟩:=get_some hkl;have bz:=hb z (bU hz);have hsn:gl (l.take (k+1))=Nat.gcd G.natAbs z.natAbs:=by rw[eV hz,FU,hG]
  clear hb hG;refine uc ?_;refine gar ?_;refine yF ?_;refine ed ?_;refine cA ?_
  (refine bE (aD (sl':=[(3,zI G),(5,zI z),(6,dI l),(7,zI l.length),(8,zI (k:Nat))]) (ow':=[]) aS aR) ?_)
  refine bj (fun rr s=>∃(A N:Int),rr=N.natAbs/\Nat.gcd A.natAbs N.natAbs=gl (l.take (k+1))/\A.natAbs<=9000000000000000000/\N.natAbs<=9000000000000000000/\s=⟨[(3,zI A),(5,zI N),(6,dI l),(7,zI l.length),(8,zI (k:Nat))],[]⟩) (m:=z.natAbs) ⟨G,z,rfl,hsn.symm,bG,bz,rfl⟩ fun rr s hs=>?_;obtain⟨A,N,rfl,hAN,bA,bN,rfl⟩:=hs;by_cases hN:N=0
  ·subst hN;rw[show Int.natAbs 0=0 from rfl,Nat.gcd_zero_right]at hAN;clear hsn bG bz bN;refine zs1 ?_;refine oJ ?_;refine aQ ?_;refine dp ?_;simp only[nx];exact⟨l.length-(k+1),_,by omega,(aD (sl':=[(3,zI A),(6,dI l),(7,zI l.length),(8,zI ((k+1:Nat):Int))]) (ow':=[]) aS aR),k+1,A,by omega,rfl,hAN,bA,rfl⟩
  ·have h1:=wm (G:=A) (N:=N);have h2:=xt (G:=A) hN;rw[hAN]at h1;clear hsn bG bz hAN;refine zs1 ?_;refine oJ ?_;refine bP ?_;refine Du ?_;refine zs1 ?_;simp only[nx];exact⟨(A.tmod N).natAbs,_,h2,(aD (sl':=[(3,zI N),(5,zI (A.tmod N)),(6,dI l),(7,zI l.length),(8,zI (k:Nat))]) (ow':=[]) aS aR),N,A.tmod N,rfl,h1,bN,by omega,rfl⟩
 ·obtain rfl:k=l.length:=by omega
  rw[kJ]at hG;have SZ:=xC G;rw[EN aa,hG]at SZ;clear hb hG;refine eO ?_;refine bD ?_;refine dZ ?_;refine cA ?_;exact⟨_,Sh.refl,.one (.tmp 2) _ rfl (.tmp 2 rfl)⟩
theorem GU(z:Int)(hz:z.natAbs<=9000000000000000000):Fn Tryz.prog 295 [zI z] (zI (z.natAbs:Nat)):=by
 by_cases h:z<0
 ·have hd:decide (z<0)=true:=au h;have EC:(z.natAbs:Int)= -z:=by omega
  rw[EC];refine aH Tryz.func295 ak rfl rfl rfl fun X0=>?_;simp only[az];refine dC ?_;refine bD ?_;refine ln ?_;refine aJ ?_;refine bP ?_;refine yM ?_;refine zs1 ?_;exact⟨_,Sh.refl,.one (.tmp 2) _ rfl (.tmp 2 rfl)⟩
 ·have hd:decide (z<0)=false:=aw h;have EC:(z.natAbs:Int)=z:=by omega
  rw[EC];refine aH Tryz.func295 ak rfl rfl rfl fun X0=>?_;simp only[az];refine dC ?_;refine bD ?_;refine ln ?_;refine aJ ?_;refine aQ ?_;refine dD ?_;exact⟨_,Sh.refl,.one (.tmp 2) _ rfl (.tmp 2 rfl)⟩
theorem ru(a b:Int)(ha:a.natAbs<=9000000000000000000)(hb:b.natAbs<=9000000000000000000):Fn Tryz.prog 199 [zI a,zI b] (zI (Nat.gcd a.natAbs b.natAbs:Nat)):=by
 refine aH Tryz.func199 ak rfl rfl rfl fun X0=>?_;simp only[az];refine dC ?_
 (refine bE (aD (sl':=[(0,zI a),(1,zI b)]) (ow':=[]) aS aR) ?_)
 refine bj (fun rr s=>∃(A N:Int),rr=N.natAbs/\Nat.gcd A.natAbs N.natAbs=Nat.gcd a.natAbs b.natAbs/\A.natAbs<=9000000000000000000/\N.natAbs<=9000000000000000000/\s=⟨[(0,zI A),(1,zI N)],[]⟩) (m:=b.natAbs) ⟨a,b,rfl,rfl,ha,hb,rfl⟩ fun rr s hs=>?_;obtain⟨A,N,rfl,hAN,bA,bN,rfl⟩:=hs;by_cases hN:N=0
 ·subst hN;rw[show Int.natAbs 0=0 from rfl,Nat.gcd_zero_right]at hAN;have AB:=GU A bA;rw[hAN]at AB;clear ha hb bN hAN;generalize Nat.gcd a.natAbs b.natAbs=c at*;refine zs1 ?_;refine oJ ?_;refine aQ ?_;refine bD ?_;refine dZ ?_;refine cA ?_;exact⟨_,Sh.refl,.one (.tmp 4) _ rfl (.tmp 4 rfl)⟩
 ·have h1:=wm (G:=A) (N:=N);have h2:=xt (G:=A) hN;rw[hAN]at h1;clear ha hb hAN;refine zs1 ?_;refine oJ ?_;refine bP ?_;refine Du ?_;refine zs1 ?_;simp only[nx];exact⟨(A.tmod N).natAbs,_,h2,(aD (sl':=[(0,zI N),(1,zI (A.tmod N))]) (ow':=[]) aS aR),N,A.tmod N,rfl,h1,bN,by omega,rfl⟩
end DW
end
section
open Go.RowKit
namespace DW
def lby(d i k:Nat):Nat:=if i=k then 2*d else d
def lnd(d:Nat)(g:Mx.Mat)(n i k:Nat):Nat:=lby d i k/Nat.gcd (lby d i k) (Mx.D (n-1) (Mx.at' (Mx.minor g i k))).natAbs
def lvl(d:Nat)(g:Mx.Mat)(n:Nat):Nat:=Mx.fS Mx.cmb (lnd d g n) (fun _=>n) 1 n
theorem sX(d i k:Nat):lby d i k∣2*d:=by
 unfold lby
 split
 ·exact Nat.dvd_refl _
 ·exact Nat.dvd_mul_left ..
theorem ph{d:Nat}(h:0<d)(i k:Nat):0<lby d i k:=by unfold lby;split<;>omega
theorem pg(d:Nat)(g:Mx.Mat)(n i k:Nat):lnd d g n i k∣2*d:=Nat.dvd_trans (Nat.div_dvd_of_dvd (nH _ _)) (sX d i k)
theorem pe{d:Nat}(h:0<d)(g:Mx.Mat)(n i k:Nat):0<lnd d g n i k:=by
 unfold lnd;exact Nat.div_pos (jo (ph h i k) (nH _ _)) (lG _ (ph h i k))
theorem Bt{d:Nat}(hd:0<d)(g:Mx.Mat)(n i k:Nat):0<Mx.fR Mx.cmb (lnd d g n i) (Mx.fS Mx.cmb (lnd d g n) (fun _=>n) 1 i) k/\Mx.fR Mx.cmb (lnd d g n i) (Mx.fS Mx.cmb (lnd d g n) (fun _=>n) 1 i) k<=2*d:=
 ⟨Mx.wz (fun k=>pe hd g n i k) (Mx.Bu (fun i k=>pe hd g n i k) Nat.one_pos i) k,
  jo aa (Mx.wA (fun k=>pg d g n i k) (Mx.Bv (fun i k=>pg d g n i k) (Nat.one_dvd _) i) k)⟩
def cnf(g:Mx.Mat)(i k:Nat):Nat:=if i=k then((Mx.at' g i i).tdiv 2).natAbs else(Mx.at' g i k).natAbs
def cnt(g:Mx.Mat)(n:Nat):Nat:=Mx.fS Nat.gcd (cnf g) (fun _=>n) 0 n
theorem Bp{x:Int}(h:x.natAbs<=1000):IntKind.i64.wrap (x.tdiv 2)=x.tdiv 2:=by
 have h1:(x.tdiv 2).natAbs<=1000:=by
  rw[Int.natAbs_tdiv];exact aU (jA _ _) h
 exact sA aa
set_option maxRecDepth 20000
set_option maxHeartbeats 2000000
theorem A4{g:Mx.Mat}{n:Nat}(hg:g.length=n)(hR:Mx.Rc n g)(hb:Mx.Bd 20000 g)(hn:n<=4):Fn Tryz.prog 83 [qF n g] (zI (Mx.D n (Mx.at' g))):=by
 have LD:=xx hg hR hb hn (ah n);generalize Mx.D n (Mx.at' g)=d at*;refine aH Tryz.func83 ak rfl rfl rfl fun X0=>?_;simp only[az];refine eN ?_;refine gh ?_;refine yt ?_;refine ed ?_;refine jY ?_;refine cA ?_;exact⟨_,Sh.refl,.one (.tmp 2) _ rfl (.tmp 2 rfl)⟩
theorem xO(cs:List Nat)(k:Nat):(nn (cs.eraseIdx k)).map zI=gJ ((nn cs).take k)++((nn cs).map zI).drop (k+1):=by
 have e:nn (cs.eraseIdx k)=(nn cs).take k++(nn cs).drop (k+1):=by
  unfold nn;rw[uX,eU,lF,qP]
 rw[e,eU,qP]
theorem GS{g:Mx.Mat}{n i k:Nat}(hg:g.length=n)(hR:Mx.Rc n g)(hb:Mx.Bd 20000 g)(hn:n<=4)(hi:i<n)(hk:k<n):∃c:Int,c.natAbs=(Mx.D (n-1) (Mx.at' (Mx.minor g i k))).natAbs/\Fn Tryz.prog 207 [qF n g,zI i,zI k] (zI c):=by
 have FI:=vG n aa;have MI:=qe hg hR hb ((List.range n).eraseIdx i) ((List.range n).eraseIdx k) (by rw[jq (by rw[gF];exact hi),gF];omega) (by rw[jq (by rw[gF];exact hk),jq (by rw[gF];exact hi)]) (fun r hr=>by have:=lH.1 (qQ hr);omega) (fun r hr=>by have:=lH.1 (qQ hr);omega);rw[Mx.Co g hi]at MI;have bM:(Mx.D (n-1) (Mx.at' (Mx.minor g i k))).natAbs<=48000000000000:=Mx.D_b3 (fun a b=>Mx.kv hb i k a b) aa;have MI':Fn Tryz.prog 283 [dM g,.ls 1 (gJ ((nn (List.range n)).take i)++((nn (List.range n)).map zI).drop (i+1)),.ls 1 (gJ ((nn (List.range n)).take k)++((nn (List.range n)).map zI).drop (k+1))] (zI (Mx.D (n-1) (Mx.at' (Mx.minor g i k)))):=by
  rw[<-xO,<-xO];exact MI
 have hl:(nn (List.range n)).length=n:=by rw[oc,gF]
 have CP:∀j K,j<=n->hdr K=false->FnG Tryz.prog 79 [.ls 1 (((nn (List.range n)).map zI).take j)] [] (.own K) [(K,⟨3,1,gJ ((nn (List.range n)).take j)⟩)]:=fun j K hj hK=>by
  have:=pH ((nn (List.range n)).take j) (by rw[ba];omega) K hK;rw[<-lF];exact this
 have CI:=CP i 17 aa rfl;have CK:=CP k 26 aa rfl;clear CP MI hb hR;generalize nn (List.range n)=C at*;obtain⟨m,hm⟩:∃m,m=Mx.D (n-1) (Mx.at' (Mx.minor g i k)):=⟨_,rfl⟩;rw[<-hm]at MI' bM;rw[<-hm];clear hm;by_cases hp:((i:Int)+(k:Int))%2=1
 ·refine⟨-m,Int.natAbs_neg m,?_⟩;refine aH Tryz.func207 ak rfl rfl rfl fun X0=>?_;simp only[az];refine eN ?_;refine mq ?_;refine dZ ?_;refine cA ?_;refine Dt ?_;refine zs1 ?_;refine Ds ?_;refine bP ?_;refine yM ?_;refine zs1 ?_;refine dD ?_;exact⟨_,Sh.refl,.one (.tmp 6) _ rfl (.tmp 6 rfl)⟩
 ·refine⟨m,rfl,?_⟩;refine aH Tryz.func207 ak rfl rfl rfl fun X0=>?_;simp only[az];refine eN ?_;refine mq ?_;refine dZ ?_;refine cA ?_;refine Dt ?_;refine zs1 ?_;refine Ds ?_;refine aQ ?_;refine dD ?_;exact⟨_,Sh.refl,.one (.tmp 6) _ rfl (.tmp 6 rfl)⟩
end DW
end
end Go.Proofs.YtepdigdijecgpaaGreat
