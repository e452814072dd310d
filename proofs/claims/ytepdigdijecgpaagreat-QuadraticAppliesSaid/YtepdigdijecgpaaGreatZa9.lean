/- Lemmas for the law: F7 F10 F13 DZ2 -/
import Derived.Test.YtepdigdijecgpaaGreatZa8
namespace Go.Proofs.YtepdigdijecgpaaGreat
section
abbrev nj:=@Int.emod_nonneg
abbrev ni:=@Int.emod_lt_of_pos
abbrev lk:=@Int.emod_eq_of_lt
abbrev dK:=@Int.one_mul
theorem zs88{p q:Prop}(h:q)(f:Wq q->p:=by(intro hW;(refine aL1 rfl rfl rfl (by(first|(apply EI;(exact rfl);(focus((apply aB;(conv=>lhs;whnf);(first|done|exact rfl))));(focus((apply aB;(conv=>lhs;whnf);(first|done|exact rfl))));(exact rfl);(exact rfl))|(apply EH;(exact rfl);(focus((apply aB;(conv=>lhs;whnf);(first|done|exact rfl))));(focus((apply aB;(conv=>lhs;whnf);(first|done|exact rfl))));(omega))|(apply uq;(exact rfl);(focus((apply aB;(conv=>lhs;whnf);(first|done|exact rfl))));(focus((apply aB;(conv=>lhs;whnf);(first|done|exact rfl))));(focus(first|omega|decide))))) ?_);exact hW.out)):p:=f ⟨h⟩
theorem A9{p q:Prop}(h:q)(f:Wq q->p:=by(intro hW;(refine cJ ?_;refine zs88 ?_;refine cw ?_);exact hW.out)):p:=f ⟨h⟩
theorem G7{p q:Prop}(h:q)(f:Wq q->p:=by(intro hW;(refine cJ ?_;refine zs27 ?_;refine zs3 ?_;refine zs88 ?_;refine cw ?_);exact hW.out)):p:=f ⟨h⟩
theorem zs87{p q:Prop}(h:q)(f:Wq q->p:=by(intro hW;(refine aL1 rfl rfl rfl (by(apply rA;(exact rfl);(focus((apply aB;(conv=>lhs;whnf);(first|done|exact rfl))));(focus((first|exact op_zero|exact rfl)));(exact rfl);(exact rfl);(assumption);(exact rfl))) ?_);exact hW.out)):p:=f ⟨h⟩
theorem zb34{p:Prop}(h:p:=by(first|(simp only[br,eV,fQ];omega)|(simp only[br,aQ,ep];omega))):p:=h
theorem A8{p q:Prop}(h:q)(f:Wq q->p:=by(intro hW;(refine bI ?_;refine mQ ?_;refine aK ?_);exact hW.out)):p:=f ⟨h⟩
theorem zs89{p q:Prop}(h:q)(f:Wq q->p:=by(intro hW;((first|refine aN1 rfl rfl rfl zb4 ?_|refine aNindex rfl rfl rfl rfl ei ei cK ak ak (by first|omega|(simp;omega)) (by first|(apply offs_nat;assumption)|exact rfl) ?_|refine aN1o rfl rfl rfl zb4 ?_));exact hW.out)):p:=f ⟨h⟩
theorem jQ{p q:Prop}(h:q)(f:Wq q->p:=by(intro hW;(refine gE ?_;refine nY ?_);exact hW.out)):p:=f ⟨h⟩
theorem G9{p q:Prop}(h:q)(f:Wq q->p:=by(intro hW;(refine bI ?_;refine mQ ?_;refine zs3 ?_;refine zs5 ?_;refine AF ?_;refine nS ?_;refine cw ?_);exact hW.out)):p:=f ⟨h⟩
theorem zs90{p q:Prop}(h:q)(f:Wq q->p:=by(intro hW;((first|refine aN1 rfl rfl rfl zb1 ?_|refine aN1o rfl rfl rfl zb1 ?_));exact hW.out)):p:=f ⟨h⟩
theorem zs91{p q:Prop}(h:q)(f:Wq q->p:=by(intro hW;(refine aL1 rfl rfl rfl zb3 ?_);exact hW.out)):p:=f ⟨h⟩
theorem G8{p q:Prop}(h:q)(f:Wq q->p:=by(intro hW;(refine bI ?_;refine zs23 ?_;refine zs24 ?_;refine zs3 ?_;refine zs91 ?_;refine zs24 ?_;refine zs3 ?_;refine il ?_;refine zs3 ?_;refine zs3 ?_;refine il ?_;refine zs25 ?_;refine zs3 ?_;refine zs88 ?_;refine cw ?_);exact hW.out)):p:=f ⟨h⟩
end
section
open Go.RowKit
namespace DW
abbrev fnv(g:Nat):D:=.sc (.func (.func g) #[] #[])
set_option maxRecDepth 20000
set_option maxHeartbeats 1000000
theorem Ln(g:Nat)(p:Int->Bool)(l:List (Int))(hl:l.length<=1000000)(hg:∀z∈l,Fn Tryz.prog g [zI z] (.sc (.bool (p z)))):Fn Tryz.prog 315 [dI l,fnv g] (zI (ixp p l)):=by
 refine aF Tryz.func315 ak rfl rfl rfl fun X0=>?_;simp only[aA];refine cH ?_;refine jO ?_
 (refine bh (aO (sl':=[(0,dI l),(1,fnv g),(6,dI l),(7,zI l.length),(8,zI 0)]) (ow':=[]) ba aZ) ?_)
 refine bw (fun r s=>∃k,k<=l.length/\r=l.length-k/\(∀j y,j<k->l[j]?=some y->p y=false)/\s=⟨[(0,dI l),(1,fnv g),(6,dI l),(7,zI l.length),(8,zI (k:Nat))],[]⟩) (m:=l.length) ⟨0,aP _,rfl,fun j y hj=>absurd hj (pD j),rfl⟩ fun r s hs=>?_;obtain⟨k,hk,rfl,hz,rfl⟩:=hs;by_cases hkl:k<l.length
 ·obtain⟨x,hx⟩:=get_some hkl;have GX:=hg x (bf hx)
  cases h0:p x with
  |false=>
   rw[h0]at GX;refine lX ?_;refine jU ?_;simp only[nx];exact⟨l.length-(k+1),_,by omega,(aO (sl':=[(0,dI l),(1,fnv g),(6,dI l),(7,zI l.length),(8,zI ((k+1:Nat):Int))]) (ow':=[]) ba aZ),k+1,by omega,rfl,fun j y hj hy=>by
    by_cases e:j=k
    ·subst e;rw[hx]at hy;cases hy;exact h0
    ·exact hz j y aa hy,rfl⟩
  |true=>
   rw[h0]at GX;have EC:=oS hx h0 hz;refine lX ?_;refine cq ?_;refine dD ?_;rw[EC];exact⟨_,Sh.refl,.one (.tmp 4) _ rfl (.tmp 4 rfl)⟩
 ·obtain rfl:k=l.length:=by omega
  have EC:=oR hz;refine gu ?_;refine dQ ?_;rw[EC];exact⟨_,Sh.refl,.one (.tmp 4) _ rfl (.tmp 4 rfl)⟩
theorem L8(g:Nat)(p:Int->Bool)(l:List (Int))(hl:l.length<=1000000)(hg:∀z∈l,Fn Tryz.prog g [zI z] (.sc (.bool (p z)))):Fn Tryz.prog 235 [dI l,fnv g] (.sc (.bool (l.any p))):=by
 have IX:=Ln g p l hl hg;rw[<-ri];refine aF Tryz.func235 ak rfl rfl rfl fun X0=>?_;simp only[aA];refine cX ?_;refine wD ?_;refine zs1 ?_;exact⟨_,Sh.refl,.one (.tmp 4) _ rfl (.tmp 4 rfl)⟩
theorem Lu(z:Int):Fn Tryz.prog 301 [zI z] (.sc (.bool (!inb 1000000 z))):=by
 by_cases h:z< -1000000
 ·have hd:decide (z< -1000000)=true:=aq h;have EC:inb 1000000 z=false:=by unfold inb;rw[ao (by omega:¬-1000000<=z)];rfl
  rw[EC];refine aF Tryz.func301 ak rfl rfl rfl fun X0=>?_;simp only[aA];refine cX ?_;refine G9 ?_;refine zs1 ?_;exact⟨_,Sh.refl,.one (.tmp 2) _ rfl (.tmp 2 rfl)⟩
 ·have hd:decide (z< -1000000)=false:=ao h;have EC:(!inb 1000000 z)=decide (z>1000000):=by
   unfold inb;rw[aq (by omega: -1000000<=z),fR];by_cases h2:z<=1000000
   ·rw[aq h2,ao aa];rfl
   ·rw[ao h2,aq aa];rfl
  rw[EC];refine aF Tryz.func301 ak rfl rfl rfl fun X0=>?_;simp only[aA];refine cX ?_;refine G9 ?_;refine zs1 ?_;exact⟨_,Sh.refl,.one (.tmp 2) _ rfl (.tmp 2 rfl)⟩
theorem Ev(l:List Int)(hl:l.length<=1000000):Fn Tryz.prog 205 [dI l] (.sc (.bool (!(l.any fun z=>!inb 1000000 z)))):=by
 have AN:=L8 301 (fun z=>!inb 1000000 z) l hl fun z _=>Lu z;refine aF Tryz.func205 ak rfl rfl rfl fun X0=>?_;simp only[aA];refine cX ?_;refine bI ?_;refine zs87 ?_;refine iK ?_;refine dC ?_;exact⟨_,Sh.refl,.one (.tmp 2) _ rfl (.tmp 2 rfl)⟩
def ptm(g:Mx.Mat)(x y:List Int)(i k:Nat):Int:=x.getD i 0*Mx.at' g i k*y.getD k 0
def prw(n:Nat)(g:Mx.Mat)(x y:List Int)(i:Nat):Int:=Mx.sm n (ptm g x y i)
def pv(n:Nat)(g:Mx.Mat)(x y:List Int):Int:=Mx.sm n (prw n g x y)
def Vb(x:List Int):Prop:=∀i,(x.getD i 0).natAbs<=1000000
theorem vb_of{x:List Int}(h:(x.any fun z=>!inb 1000000 z)=false):Vb x:=fun i=>by
 rw[aH]
 cases hz:x[i]? with
 |none=>simp
 |some z=>
  rw[jj]at h;have:=h z (bf hz);simp only[ln];unfold inb at this;simp at this;omega
theorem BW{g:Mx.Mat}{x y:List Int}(hb:Mx.Bd 1000 g)(hx:Vb x)(hy:Vb y)(i k:Nat):(ptm g x y i k).natAbs<=1000000000000000:=by
 unfold ptm;exact aX (jL (jL (hx i) (hb i k)) (hy k)) ay
theorem BX{g:Mx.Mat}{x y:List Int}(hb:Mx.Bd 1000 g)(hx:Vb x)(hy:Vb y)(i:Nat){k:Nat}(hk:k<=4):(Mx.sm k (ptm g x y i)).natAbs<=4000000000000000:=
 aX (Mx.nF k _ _ fun l _=>BW hb hx hy i l) (cS _ hk)
theorem pv_b{n:Nat}{g:Mx.Mat}{x y:List Int}(hb:Mx.Bd 1000 g)(hx:Vb x)(hy:Vb y)(hn:n<=4){i:Nat}(hi:i<=4):(Mx.sm i (prw n g x y)).natAbs<=16000000000000000:=
 aX (Mx.nF i _ _ fun l _=>BX hb hx hy l hn) (cS _ hi)
set_option maxHeartbeats 2000000
theorem KV{g:Mx.Mat}{n:Nat}{x y:List Int}(hg:g.length=n)(hR:Mx.Rc n g)(hb:Mx.Bd 1000 g)(hn:n<=4)(hx:x.length=n)(hy:y.length=n)(vx:Vb x)(vy:Vb y):Fn Tryz.prog 178 [dM g,dI x,dI y] (zI (pv n g x y)):=by
 have hP:=fun i (hi:i<=4)=>pv_b hb vx vy hn hi;have hQ:=fun i k (hk:k<=4)=>BX hb vx vy i hk;have hT:=fun i k=>BW hb vx vy i k;have hXG:=fun i k=>jL (vx i) (hb i k);unfold pv;refine aF Tryz.func178 ak rfl rfl rfl fun X0=>?_;simp only[aA];refine cH ?_;refine dQ ?_;refine jO ?_
 (refine bh (aO (sl':=[(1,dI x),(2,dI y),(7,zI 0),(12,dM g),(13,zI g.length),(14,zI 0)]) (ow':=[]) ba aZ) ?_)
 refine bw (fun r s=>∃i,i<=n/\r=n-i/\s=⟨[(1,dI x),(2,dI y),(7,zI (Mx.sm i (prw n g x y))),(12,dM g),(13,zI g.length),(14,zI (i:Nat))],[]⟩) (m:=n) ⟨0,aP _,rfl,rfl⟩ fun r s hs=>?_;obtain⟨i,hi,rfl,rfl⟩:=hs;by_cases hil:i<n
 ·obtain⟨r,hr⟩:=get_some (m:=g) (k:=i) aa;have hrl:=hR r (bf hr);obtain⟨a,ha⟩:=get_some (m:=x) (k:=i) aa;have ea:x.getD i 0=a:=by rw[aH,ha];rfl
  have hS1:Mx.sm (i+1) (prw n g x y)=Mx.sm i (prw n g x y)+Mx.sm n (ptm g x y i):=rfl;have bS:=hP i aa;obtain⟨S,hS⟩:∃S,S=Mx.sm i (prw n g x y):=⟨_,rfl⟩;rw[<-hS]at hS1 bS;rw[<-hS];clear hS hP;refine jV ?_;refine jO ?_
  (refine bh (aO (sl':=[(1,dI x),(2,dI y),(7,zI S),(8,zI (i:Nat)),(12,dM g),(13,zI g.length),(14,zI (i:Nat)),(19,dI r),(20,zI r.length),(21,zI 0)]) (ow':=[]) ba aZ) ?_)
  refine bw (fun rr s=>∃k,k<=n/\rr=n-k/\s=⟨[(1,dI x),(2,dI y),(7,zI (S+Mx.sm k (ptm g x y i))),(8,zI (i:Nat)),(12,dM g),(13,zI g.length),(14,zI (i:Nat)),(19,dI r),(20,zI r.length),(21,zI (k:Nat))],[]⟩) (m:=n) ⟨0,aP _,rfl,by show _=(⟨[_,_,(7,zI (S+0)),_,_,_,_,_,_,_],_⟩:DW.S);rw[lx];rfl⟩ fun rr s hs=>?_;obtain⟨k,hk,rfl,rfl⟩:=hs;by_cases hkl:k<n
  ·obtain⟨z,hz⟩:=get_some (m:=r) (k:=k) aa;obtain⟨b,hb2⟩:=get_some (m:=y) (k:=k) aa;have eb:y.getD k 0=b:=by rw[aH,hb2];rfl
   have ez:Mx.at' g i k=z:=by unfold Mx.at';rw[Mx.cM hr,aH,hz];rfl
   have hT1:Mx.sm (k+1) (ptm g x y i)=Mx.sm k (ptm g x y i)+a*z*b:=by
    show _+ptm g x y i k=_;unfold ptm;rw[ea,eb,ez]
   have bT:=hQ i k aa;have bT1:=hT i k;have bXG:=hXG i k;unfold ptm at bT1;rw[ea,eb,ez]at bT1;rw[ea,ez]at bXG;obtain⟨T,hTe⟩:∃T,T=Mx.sm k (ptm g x y i):=⟨_,rfl⟩;rw[<-hTe]at hT1 bT;rw[<-hTe];clear hTe hQ hT hXG hb vx vy ea eb ez;refine jV ?_;((first|(apply az 13;(focus kernel_rfl);(decide+kernel))|(apply az 12;(focus kernel_rfl);(decide+kernel))|(apply az 11;(focus kernel_rfl);(decide+kernel))|(apply az 10;(focus kernel_rfl);(decide+kernel))|(apply az 9;(focus kernel_rfl);(decide+kernel))|(apply az 8;(focus kernel_rfl);(decide+kernel))|(apply az 7;(focus kernel_rfl);(decide+kernel))|(apply az 6;(focus kernel_rfl);(decide+kernel)));simp only[fT,eU,gK,ft]);refine gE ?_;refine jQ ?_;refine gE ?_;refine uF ?_;refine jQ ?_;refine uF ?_;refine zs40 ?_;refine xe ?_;refine nV ?_;refine zs1 ?_;refine kG ?_;refine zs1 ?_;simp only[nx];exact⟨n-(k+1),_,by omega,(aO (sl':=[(1,dI x),(2,dI y),(7,zI (S+T+a*z*b)),(8,zI (i:Nat)),(12,dM g),(13,zI g.length),(14,zI (i:Nat)),(19,dI r),(20,zI r.length),(21,zI ((k+1:Nat):Int))]) (ow':=[]) ba aZ),k+1,by omega,rfl,by rw[hT1,Int.add_assoc]⟩
  ·obtain rfl:k=n:=by omega
   rw[<-hS1];obtain⟨S1,hS1e⟩:∃S1,S1=Mx.sm (i+1) (prw k g x y):=⟨_,rfl⟩;rw[<-hS1e];clear hS1;refine gu ?_;refine kG ?_;refine zs1 ?_;simp only[nx];exact⟨k-(i+1),_,by omega,(aO (sl':=[(1,dI x),(2,dI y),(7,zI S1),(12,dM g),(13,zI g.length),(14,zI ((i+1:Nat):Int))]) (ow':=[]) ba aZ),i+1,by omega,rfl,by rw[hS1e]⟩
 ·obtain rfl:i=n:=by omega
  generalize Mx.sm i (prw i g x y)=S1 at*;refine gu ?_;refine dD ?_;exact⟨_,Sh.refl,.one (.tmp 6) _ rfl (.tmp 6 rfl)⟩
theorem I6{g:Mx.Mat}{n:Nat}{x y:List Int}(hg:g.length=n)(hR:Mx.Rc n g)(hb:Mx.Bd 1000 g)(hn:n<=4)(hx:x.length=n)(hy:y.length=n)(vx:Vb x)(vy:Vb y):Fn Tryz.prog 208 [qF n g,dI x,dI y] (zI (pv n g x y)):=by
 have hP:=fun i (hi:i<=4)=>pv_b hb vx vy hn hi;have hQ:=fun i k (hk:k<=4)=>BX hb vx vy i hk;have hT:=fun i k=>BW hb vx vy i k;have hXG:=fun i k=>jL (vx i) (hb i k);unfold pv;refine aF Tryz.func208 ak rfl rfl rfl fun X0=>?_;simp only[aA];refine zs1 ?_;refine Hk ?_;refine cH ?_;refine dQ ?_
 (refine bh (aO (sl':=[(1,dI x),(2,dI y),(3,.pt (qF n g)),(7,zI 0),(8,zI 0)]) (ow':=[]) ba aZ) ?_)
 refine bw (fun r s=>∃i,i<=n/\r=n-i/\s=⟨[(1,dI x),(2,dI y),(3,.pt (qF n g)),(7,zI (Mx.sm i (prw n g x y))),(8,zI (i:Nat))],[]⟩) (m:=n) ⟨0,aP _,rfl,rfl⟩ fun r s hs=>?_;obtain⟨i,hi,rfl,rfl⟩:=hs;by_cases hil:i<n
 ·obtain⟨r,hr⟩:=get_some (m:=g) (k:=i) aa;have hrl:=hR r (bf hr);obtain⟨a,ha⟩:=get_some (m:=x) (k:=i) aa;have ea:x.getD i 0=a:=by rw[aH,ha];rfl
  have hS1:Mx.sm (i+1) (prw n g x y)=Mx.sm i (prw n g x y)+Mx.sm n (ptm g x y i):=rfl;have bS:=hP i aa;obtain⟨S,hS⟩:∃S,S=Mx.sm i (prw n g x y):=⟨_,rfl⟩;rw[<-hS]at hS1 bS;rw[<-hS];clear hS hP;refine gU ?_;refine db ?_
  (refine bh (aO (sl':=[(1,dI x),(2,dI y),(3,.pt (qF n g)),(7,zI S),(8,zI (i:Nat)),(9,zI 0)]) (ow':=[]) ba aZ) ?_)
  refine bw (fun rr s=>∃k,k<=n/\rr=n-k/\s=⟨[(1,dI x),(2,dI y),(3,.pt (qF n g)),(7,zI (S+Mx.sm k (ptm g x y i))),(8,zI (i:Nat)),(9,zI (k:Nat))],[]⟩) (m:=n) ⟨0,aP _,rfl,by show _=(⟨[_,_,_,(7,zI (S+0)),_,_],_⟩:DW.S);rw[lx];rfl⟩ fun rr s hs=>?_;obtain⟨k,hk,rfl,rfl⟩:=hs;by_cases hkl:k<n
  ·obtain⟨z,hz⟩:=get_some (m:=r) (k:=k) aa;obtain⟨b,hb2⟩:=get_some (m:=y) (k:=k) aa;have eb:y.getD k 0=b:=by rw[aH,hb2];rfl
   have ez:Mx.at' g i k=z:=by unfold Mx.at';rw[Mx.cM hr,aH,hz];rfl
   have hT1:Mx.sm (k+1) (ptm g x y i)=Mx.sm k (ptm g x y i)+a*z*b:=by
    show _+ptm g x y i k=_;unfold ptm;rw[ea,eb,ez]
   have bT:=hQ i k aa;have bT1:=hT i k;have bXG:=hXG i k;unfold ptm at bT1;rw[ea,eb,ez]at bT1;rw[ea,ez]at bXG;obtain⟨T,hTe⟩:∃T,T=Mx.sm k (ptm g x y i):=⟨_,rfl⟩;rw[<-hTe]at hT1 bT;rw[<-hTe];clear hTe hQ hT hXG hb vx vy ea eb ez;refine gU ?_;refine cq ?_;((first|(apply az 20;(focus kernel_rfl);(decide+kernel))|(apply az 19;(focus kernel_rfl);(decide+kernel))|(apply az 18;(focus kernel_rfl);(decide+kernel))|(apply az 17;(focus kernel_rfl);(decide+kernel))|(apply az 16;(focus kernel_rfl);(decide+kernel))|(apply az 15;(focus kernel_rfl);(decide+kernel))|(apply az 14;(focus kernel_rfl);(decide+kernel))|(apply az 13;(focus kernel_rfl);(decide+kernel)));simp only[fT,eU,gK,ft]);refine gE ?_;refine jQ ?_;refine AG ?_;refine py ?_;refine nY ?_;refine nY ?_;refine uF ?_;refine jQ ?_;refine uF ?_;refine zs40 ?_;refine xe ?_;refine nV ?_;refine zs1 ?_;refine jT ?_;simp only[nx];exact⟨n-(k+1),_,by omega,(aO (sl':=[(1,dI x),(2,dI y),(3,.pt (qF n g)),(7,zI (S+T+a*z*b)),(8,zI (i:Nat)),(9,zI ((k+1:Nat):Int))]) (ow':=[]) ba aZ),k+1,by omega,rfl,by rw[hT1,Int.add_assoc]⟩
  ·obtain rfl:k=n:=by omega
   rw[<-hS1];obtain⟨S1,hS1e⟩:∃S1,S1=Mx.sm (i+1) (prw k g x y):=⟨_,rfl⟩;rw[<-hS1e];clear hS1;refine gU ?_;refine jR ?_;simp only[nx];exact⟨k-(i+1),_,by omega,(aO (sl':=[(1,dI x),(2,dI y),(3,.pt (qF k g)),(7,zI S1),(8,zI ((i+1:Nat):Int))]) (ow':=[]) ba aZ),i+1,by omega,rfl,by rw[hS1e]⟩
 ·obtain rfl:i=n:=by omega
  generalize Mx.sm i (prw i g x y)=S1 at*;refine gU ?_;refine bc ?_;refine dD ?_;exact⟨_,Sh.refl,.one (.tmp 6) _ rfl (.tmp 6 rfl)⟩
end DW
end
section
open Go.RowKit
namespace DW
set_option maxRecDepth 20000
set_option maxHeartbeats 2000000
def hv(z:Int):Int:=IntKind.i64.wrap (z.tdiv 2)
end DW
end
section
open Go.RowKit
namespace DW
theorem Jp(x p:Int):(-(x%p))%p=(-x)%p:=by
 have h: -(x%p)= -x+p*(x/p):=by
  have:=Int.emod_add_mul_ediv x p;omega
 rw[h,Int.add_mul_emod_self_left]
theorem IY{k:Nat}(h:k%2=0):Mx.sg k=1:=aj h
theorem KJ{k:Nat}(h:¬k%2=0):Mx.sg k= -1:=ai h
theorem Mt(m:Mx.Mat)(n:Nat):Mx.D (n+1) (Mx.at' m)=Mx.sm (n+1) (dtm n (Mx.at' m)):=rfl
theorem FW(S T p:Int):(S%p+T%p)%p=(S+T)%p:=(Int.add_emod S T p).symm
set_option maxRecDepth 20000
set_option maxHeartbeats 2000000
theorem zP(a p:Int)(h0:0<p)(h1:p<=2147483647):Fn Tryz.prog 310 [zI a,zI p] (zI (a%p)):=by
 have b0:=nj a (by omega:p≠0);have b1:=ni a h0;by_cases hn:0<=a
 ·obtain⟨c,hc⟩:∃c,c=a%p:=⟨_,rfl⟩;have hd:decide (a%p<0)=false:=ao aa;clear hc;refine aF Tryz.func310 ak rfl rfl rfl fun X0=>?_;simp only[aA];refine cH ?_;refine A9 ?_;refine zs1 ?_;refine A8 ?_;refine bc ?_;refine dD ?_;exact⟨_,Sh.refl,.one (.tmp 4) _ rfl (.tmp 4 rfl)⟩
 ·have ht:=@Int.tmod_eq_emod a p;have hpn:(p.natAbs:Int)=p:=by omega
  have hpz:p≠0:=by omega
  by_cases hdv:p∣a
  ·rw[aj (.inr hdv),Int.natCast_zero,Int.sub_zero]at ht;rw[<-ht];rw[<-ht]at b0 b1;have hd:decide (a.tmod p<0)=false:=ao aa;clear ht hdv;refine aF Tryz.func310 ak rfl rfl rfl fun X0=>?_;simp only[aA];refine cH ?_;refine A9 ?_;refine zs1 ?_;refine A8 ?_;refine bc ?_;refine dD ?_;exact⟨_,Sh.refl,.one (.tmp 4) _ rfl (.tmp 4 rfl)⟩
  ·have hno:¬(0<=a\/p∣a):=fun h=>h.elim hn hdv;rw[ai hno,hpn]at ht;have e:a%p=a.tmod p+p:=by omega
   rw[e];rw[e]at b0 b1;have hd:decide (a.tmod p<0)=true:=aq aa;clear ht hdv hno e hpn;refine aF Tryz.func310 ak rfl rfl rfl fun X0=>?_;simp only[aA];refine cH ?_;refine A9 ?_;refine zs1 ?_;refine A8 ?_;refine cq ?_;refine cJ ?_;refine zs27 ?_;refine dC ?_;refine dD ?_;exact⟨_,Sh.refl,.one (.tmp 4) _ rfl (.tmp 4 rfl)⟩
theorem Ec(p:Int)(h0:2<=p)(h1:p<=2147483647):∀(n:Nat) (M:Mx.Mat),n<=4->M.length=n->Mx.Rc n M->Mx.Bd 1000000 M->Fn Tryz.prog 290 [dM M,zI p] (zI (Mx.D n (Mx.at' M)%p))
 |0,M,hn,hl,hM,hb=>by
  have e:Mx.D 0 (Mx.at' M)%p=1:=by show(1:Int)%p=1;exact lk aa aa
  rw[e];refine aF Tryz.func290 ak rfl rfl rfl fun X0=>?_;simp only[aA];refine cH ?_;refine qG ?_;refine db ?_;exact⟨_,Sh.refl,.one (.tmp 4) _ rfl (.tmp 4 rfl)⟩
 |n+1,M,hn,hl,hM,hb=>by
  have IH:∀i,i<n+1->Fn Tryz.prog 290 [dM (Mx.minor M 0 i),zI p] (zI (Mx.D n (Mx.at' (Mx.minor M 0 i))%p)):=fun i hi=>Ec p h0 h1 n (Mx.minor M 0 i) aa (tX hl hM aa hi).1 (tX hl hM aa hi).2 (fun a b=>by rw[Mx.sA];exact hb _ _);have hp0:p≠0:=by omega
  obtain⟨R,hR⟩:=get_some (m:=M) (k:=0) aa;have hRl:=hM R (bf hR);have hc0:(0:Int)=((0:Nat):Int):=rfl;rw[Mt];refine aF Tryz.func290 ak rfl rfl rfl fun X0=>?_;simp only[aA];refine cH ?_;refine qG ?_;refine bc ?_;refine dQ ?_;refine dQ ?_
  (refine bh (aO (sl':=[(0,dM M),(1,zI p),(5,zI 0),(6,zI 0)]) (ow':=[]) ba aZ) ?_)
  refine bw (fun q s=>∃i,i<=n+1/\q=n+1-i/\s=⟨[(0,dM M),(1,zI p),(5,zI (Mx.sm i (dtm n (Mx.at' M))%p)),(6,zI (i:Nat))],[]⟩) (m:=n+1) ⟨0,aP _,rfl,by show _=(⟨[_,_,(5,zI (0%p)),_],_⟩:DW.S);rw[Int.zero_emod];rfl⟩ fun q s hs=>?_;obtain⟨i,hi,rfl,rfl⟩:=hs;by_cases hil:i<n+1
  ·obtain⟨x,hx⟩:=get_some (m:=R) (k:=i) aa;have ex:Mx.at' M 0 i=x:=by unfold Mx.at';rw[Mx.cM hR,aH,hx];rfl
   have bx:=hb 0 i;rw[ex]at bx;have hdt:dtm n (Mx.at' M) i=Mx.sg i*x*Mx.D n (Mx.at' (Mx.minor M 0 i)):=by rw[mn_D,<-ex];rfl
   have hS1:Mx.sm (i+1) (dtm n (Mx.at' M))=Mx.sm i (dtm n (Mx.at' M))+dtm n (Mx.at' M) i:=rfl;have hst:=FW (Mx.sm i (dtm n (Mx.at' M))) (dtm n (Mx.at' M) i) p;rw[<-hS1]at hst;have IHi:=IH i hil;obtain⟨Dm,hDm⟩:∃Dm,Dm=Mx.D n (Mx.at' (Mx.minor M 0 i)):=⟨_,rfl⟩;rw[<-hDm]at IHi hdt;have s0:=nj (Mx.sm i (dtm n (Mx.at' M))) hp0;have s1:=ni (Mx.sm i (dtm n (Mx.at' M))) (by omega:0<p);obtain⟨S,hS⟩:∃S,S=Mx.sm i (dtm n (Mx.at' M))%p:=⟨_,rfl⟩;rw[<-hS]at hst s0 s1;rw[<-hS];obtain⟨S1,hS1e⟩:∃S1,S1=Mx.sm (i+1) (dtm n (Mx.at' M))%p:=⟨_,rfl⟩;rw[<-hS1e]at hst;have hmin:∀j,(Mx.minor M 0 i).take j=((M.drop 1).take j).map fun r=>r.eraseIdx i:=fun j=>by unfold Mx.minor;rw[List.eraseIdx_zero,<-nk,List.drop_one]
   have hml:(Mx.minor M 0 i).length=n:=(tX hl hM aa hil).1;clear hS IH hDm hS1 hb ex;refine jS ?_;refine lY ?_;refine zs1 ?_;refine bh (ik (t:=7) (k:=7) (T:=45) (wd:=1) mR rfl rfl fE) ?_;refine cH ?_
   (refine bh (aO (sl':=[(0,dM M),(1,zI p),(5,zI S),(6,zI (i:Nat)),(7,.own 7),(8,zI 1)]) (ow':=[(7,⟨45,1,[]⟩)]) ba aZ) ?_)
   refine bw (fun q s=>∃j,j<=n/\q=n-j/\s=⟨[(0,dM M),(1,zI p),(5,zI S),(6,zI (i:Nat)),(7,.own 7),(8,zI ((j+1:Nat):Int))],[(7,⟨45,1,((Mx.minor M 0 i).take j).map dI⟩)]⟩) (m:=n) ⟨0,aP _,rfl,rfl⟩ fun q s hs=>?_;obtain⟨j,hj,rfl,rfl⟩:=hs;by_cases hjl:j<n
   ·obtain⟨y,hy⟩:=get_some (m:=M) (k:=j+1) aa;have hyl:=hM y (bf hy);have hsn:((Mx.minor M 0 i).take (j+1)).map dI=((Mx.minor M 0 i).take j).map dI++[.ls 1 (gJ (y.take i)++(y.map zI).drop (i+1))]:=by
     rw[hmin,hmin];have:(M.drop 1)[j]?=some y:=by rw[fU,jY];exact hy
     rw[cF this,cN,cN];show _++[dI (y.eraseIdx i)]=_;rw[xC];show _++[D.ls 1 ((y.take i++y.drop (i+1)).map zI)]=_;rw[cN,List.map_drop]
    have hFl:((Mx.minor M 0 i).take j).length<=4:=by rw[aQ];omega
    have CP:FnG Tryz.prog 79 [.ls 1 ((y.map zI).take i)] [] (.own 32) [(32,⟨3,1,gJ (y.take i)⟩)]:=by
     have:=rO (y.take i) xp 32 rfl;rw[<-nk];exact this
    obtain⟨F,hF⟩:∃F,F=(Mx.minor M 0 i).take j:=⟨_,rfl⟩;rw[<-hF]at hsn hFl;rw[<-hF];clear hF IHi hmin hdt hst;refine jS ?_;(refine EP [32,1000000032,42,1000000007] ak (by(apply ib;(focus((apply ib;(focus((apply ib;(focus((apply ib;(exact wb);(focus((repeat(first|exact iR|(apply gP;(exact rfl))|(apply iS;(exact rfl)))))))));(focus((repeat(first|exact iR|(apply gP;(exact rfl))|(apply iS;(exact rfl)))))))));(focus((repeat(first|exact iR|(apply gP;(exact rfl))|(apply iS;(exact rfl)))))))));(focus((repeat(first|exact iR|(apply gP;(exact rfl))|(apply iS;(exact rfl)))))))) ?_);refine lh ?_;refine lh ?_;refine lh ?_;refine zs89 ?_;refine zs90 ?_;refine lh ?_;refine zs31 ?_;(refine ES rfl rfl rfl rfl ei (CP) av av ?_);refine lh ?_;refine lh ?_;refine zs89 ?_;refine zs90 ?_;refine lh ?_;refine zs32 ?_;refine zs33 ?_;(refine ET (k:=32) rfl rfl rfl rfl ei ei cK av uO ak ak zb34 zb41 ?_);(first|refine aN1 rfl rfl rfl xv ?_|refine aN1o rfl rfl rfl xv ?_);(refine aNapp (k:=7) (j:=42) rfl rfl rfl rfl ei ei cK av uO ak ak zb34 av av zb41 ?_);refine zs34 ?_;(refine EU ak ?_);refine zs1 ?_
    (refine bh (aO (sl':=[(0,dM M),(1,zI p),(5,zI S),(6,zI (i:Nat)),(7,.own 42),(8,zI ((j+1:Nat):Int))]) (ow':=[(42,⟨45,1,F.map dI++[.ls 1 (gJ (y.take i)++(y.map zI).drop (i+1))]⟩)]) ba aZ) ?_)
    refine bh (Ij (a:=42) (b:=7) (q:=⟨45,1,F.map dI++[.ls 1 (gJ (y.take i)++(y.map zI).drop (i+1))]⟩) (ow':=[(7,⟨45,1,F.map dI++[.ls 1 (gJ (y.take i)++(y.map zI).drop (i+1))]⟩)]) bn rfl (.inl rfl) (fun p hp=>by rw[bu.1 hp];exact⟨by simp,fun h=>by cases h⟩) rfl (fun p hp=>.inl (bu.1 hp))) ?_
    (refine bh (aO (sl':=[(0,dM M),(1,zI p),(5,zI S),(6,zI (i:Nat)),(7,.own 7),(8,zI ((j+1:Nat):Int))]) (ow':=[(7,⟨45,1,F.map dI++[.ls 1 (gJ (y.take i)++(y.map zI).drop (i+1))]⟩)]) ba aZ) ?_)
    refine zs1 ?_;refine jT ?_;simp only[nx];exact⟨n-(j+1),_,by omega,(aO (sl':=[(0,dM M),(1,zI p),(5,zI S),(6,zI (i:Nat)),(7,.own 7),(8,zI ((j+1+1:Nat):Int))]) (ow':=[(7,⟨45,1,F.map dI++[.ls 1 (gJ (y.take i)++(y.map zI).drop (i+1))]⟩)]) ba aZ),j+1,by omega,rfl,by rw[hsn]⟩
   ·obtain rfl:j=n:=by omega
    rw[eA aa];have M1:=zP x p aa h1;have a0:=nj x hp0;have a1:=ni x (by omega:0<p);have b0:=nj Dm hp0;have b1:=ni Dm (by omega:0<p);have hAB:(x%p)*(Dm%p)%p=x*Dm%p:=(Int.mul_emod x Dm p).symm;obtain⟨A,hA⟩:∃A,A=x%p:=⟨_,rfl⟩;obtain⟨B,hB⟩:∃B,B=Dm%p:=⟨_,rfl⟩;rw[<-hA]at M1 a0 a1 hAB;rw[<-hB]at IHi b0 b1 hAB;have m0:0<=A*B:=Int.mul_nonneg a0 b0;have m1:=jL (a:=A) (b:=B) (A:=2147483647) (B:=2147483647) aa aa;have c0:=nj (A*B) hp0;have c1:=ni (A*B) (by omega:0<p);clear hA hB hmin;by_cases hev:i%2=0
    ·rw[IY hev,dK]at hdt;rw[hdt,<-hAB]at hst;clear hdt hAB;refine jP ?_;refine bh (bN (k:=7) cK dX dV) ?_;refine zs1 ?_;refine G8 ?_;refine zs1 ?_;refine bI ?_;refine zs77 ?_;refine uG ?_;refine aK ?_;refine bc ?_;refine G7 ?_;refine zs1 ?_;refine jT ?_;simp only[nx];exact⟨j+1-(i+1),_,by omega,(aO (sl':=[(0,dM M),(1,zI p),(5,zI ((S+A*B%p)%p)),(6,zI ((i+1:Nat):Int))]) (ow':=[]) ba aZ),i+1,by omega,rfl,by rw[hst,hS1e]⟩
    ·rw[KJ hev]at hdt;have hdt2:dtm j (Mx.at' M) i= -(x*Dm):=by rw[hdt];simp only[kg,dK]
     rw[hdt2,<-Jp,<-hAB]at hst;have M2:=zP (-(A*B%p)) p aa h1;have e0:=nj (-(A*B%p)) hp0;have e1:=ni (-(A*B%p)) (by omega:0<p);clear hdt hAB hdt2;refine jP ?_;refine bh (bN (k:=7) cK dX dV) ?_;refine zs1 ?_;refine G8 ?_;refine zs1 ?_;refine bI ?_;refine zs77 ?_;refine uG ?_;refine aK ?_;refine cq ?_;refine bI ?_;refine AJ ?_;refine zs3 ?_;refine il ?_;refine dC ?_;refine G7 ?_;refine zs1 ?_;refine jT ?_;simp only[nx];exact⟨j+1-(i+1),_,by omega,(aO (sl':=[(0,dM M),(1,zI p),(5,zI ((S+ -(A*B%p)%p)%p)),(6,zI ((i+1:Nat):Int))]) (ow':=[]) ba aZ),i+1,by omega,rfl,by rw[hst,hS1e]⟩
  ·obtain rfl:i=n+1:=by omega
   generalize Mx.sm (n+1) (dtm n (Mx.at' M))%p=S;refine jP ?_;refine dD ?_;exact⟨_,Sh.refl,.one (.tmp 4) _ rfl (.tmp 4 rfl)⟩
end DW
end
section
open Go.RowKit
namespace DW
section
variable {P : Program} {s : S} {o : Oper} {d : D}
theorem Aq{X:Nat->Prop}{w:World}:∀(l:List Int) (vs:List Value),ASt X w (l.map fun z=>.sc (.int .i64 z)) vs->vs=l.map fun z=>.int .i64 z
 |[],vs,h=>h
 |z::l,vs,h=>by
  simp only[dw,ASt]at h;obtain⟨u,rest,h1,h2,_,h4⟩:=h;simp only[AR]at h2;rw[h1,h2.1,Aq l rest h4];rfl
theorem d_ixc{x y:Operand}{T e n k:Nat}{l:List Int}{z:Int}(ho:o.op= .index T x y)(hx:s.op x= .st (l.map fun z=>.sc (.int .i64 z)))(hy:s.op y= .sc (.int .i64 (k:Nat)))(hu:P.underlying T=some (.array n e))(hs:CI.cj P e=some 1)(hr:CI.rowOf P e=some false)(hk:k<n)(hz:l[k]?=some z):bj P o s (.sc (.int .i64 z)):=fm rfl fun X f w a hh=>by
 have h1:=hh x bC;have h2:=hh y bC;rw[hx]at h1;rw[hy]at h2;simp only[SR,AR]at h1 h2;obtain⟨cs,e1,h4⟩:=h1;have h5:=Aq l cs.toList h4;have h6:cs[k]?=some (.int .i64 z):=by
  rw[<-cQ,h5,cR,hz];rfl
 obtain⟨i,hi1,hi2⟩:=CI.dp hs;unfold execOp;rw[ho];have hk':(k:Int)<(n:Int):=by omega
 simp[Instr.index,e1,h2.1,asIntOf,run_underlying hu,hk,sizeOf,typeInfo,hi1,hi2,Go.part,CI.kv hr,h6]
theorem Gx{T:TypeId}{ps:Array (Nat×Operand)}{vs:Array (Nat×Value)}{z:Value}(ho:o.op= .build T ps)(hp:ps=vs.map fun p=>(p.1,.const p.2))(hb:P.built T vs.toList=some z.cells)(hz:z= .agg z.cells)(hd:cst z=d):bj P o s d:=fun X f a w base _ _ _=>by
 subst hd;refine cO (u:=z) ?_ (by
  have:=jG (X:=X) (f:=f) (w:=w) z;exact this)
 unfold execOp;rw[ho];have hm:ps.map (fun p=>(p.1,a.eval p.2))=vs:=by
  rw[hp,Array.map_map];have:((fun p:Nat×Operand=>(p.1,a.eval p.2))∘fun p:Nat×Value=>(p.1,.const p.2))=id:=by
   funext p;rfl
  rw[this,Array.map_id]
 have:=run_build (P:=P) w T vs z.cells hb;rw[<-hm]at this;rw[Sem.run_bind,this,hz];rfl
end
end DW
end
end Go.Proofs.YtepdigdijecgpaaGreat
