/- Lemmas for the law: F4 -/
import Derived.Test.YtepdigdijecgpaaGreatZa5
namespace Go.Proofs.YtepdigdijecgpaaGreat
section
abbrev te:=@Bool.and_self
theorem Hl{p q:Prop}(h:q)(f:Wq q->p:=by(intro hW;(refine cJ ?_;refine xh ?_;refine ff ?_;refine kF ?_;refine zs3 ?_;refine AJ ?_;refine zs3 ?_;refine zs44 ?_;refine iK ?_;refine aK ?_);exact hW.out)):p:=f ⟨h⟩
theorem jf{p q:Prop}(h:q)(f:Wq q->p:=by(intro hW;(refine cq ?_;refine qH ?_;refine zs1 ?_);exact hW.out)):p:=f ⟨h⟩
theorem zs65{p q:Prop}(h:q)(f:Wq q->p:=by(intro hW;(refine aL1 rfl rfl rfl (by(apply vB;(exact rfl);(focus((apply aB;(conv=>lhs;whnf);(first|done|exact rfl))));(exact cI);(exact cI);(exact rfl);(exact rfl);(exact rfl);(assumption);(exact rfl))) ?_);exact hW.out)):p:=f ⟨h⟩
theorem zb20{p:Prop}(h:p:=by(first|(apply dB;(exact rfl);(focus((apply aB;(conv=>lhs;whnf);(first|done|exact rfl))));(exact cI);(exact rfl))|(apply d_neb;(exact rfl);(focus((apply aB;(conv=>lhs;whnf);(first|done|exact rfl))));(exact cI);(kernel_rfl)))):p:=h
theorem zs78{p q:Prop}(h:q)(f:Wq q->p:=by(intro hW;(refine aL1 rfl rfl rfl zb20 ?_);exact hW.out)):p:=f ⟨h⟩
theorem Br{p:Prop}(h:p:=by(first|(apply d_words_at;(exact rfl);(focus((apply aB;(conv=>lhs;whnf);(first|done|exact rfl))));(kernel_rfl);(kernel_rfl))|(apply uv;(exact rfl);(focus((apply aB;(conv=>lhs;whnf);(first|done|exact rfl))));(kernel_rfl);(exact rfl);(kernel_rfl)))):p:=h
theorem zs71{p q:Prop}(h:q)(f:Wq q->p:=by(intro hW;(refine aL1 rfl rfl rfl Br ?_);exact hW.out)):p:=f ⟨h⟩
theorem jX{p q:Prop}(h:q)(f:Wq q->p:=by(intro hW;(refine gar ?_;refine zs71 ?_;refine ff ?_);exact hW.out)):p:=f ⟨h⟩
theorem zb8{p:Prop}(h:p:=by(first|(apply(EI (c:=2));(exact rfl);(focus((apply aB;(conv=>lhs;whnf);(first|done|exact rfl))));(exact cI);(exact rfl);(exact rfl))|(apply EH;(exact rfl);(focus((apply aB;(conv=>lhs;whnf);(first|done|exact rfl))));(exact cI);(omega))|(apply uq;(exact rfl);(focus((apply aB;(conv=>lhs;whnf);(first|done|exact rfl))));(exact cI);(focus(first|omega|decide))))):p:=h
theorem zs77{p q:Prop}(h:q)(f:Wq q->p:=by(intro hW;(refine aL1 rfl rfl rfl zb8 ?_);exact hW.out)):p:=f ⟨h⟩
theorem Hi{p q:Prop}(h:q)(f:Wq q->p:=by(intro hW;(refine jX ?_;refine kF ?_;refine kF ?_;refine zs77 ?_;refine zs78 ?_;refine aK ?_);exact hW.out)):p:=f ⟨h⟩
theorem Hh{p q:Prop}(h:q)(f:Wq q->p:=by(intro hW;(refine jX ?_;refine zs3 ?_;refine il ?_;refine mQ ?_;refine aK ?_);exact hW.out)):p:=f ⟨h⟩
theorem Hk{p q:Prop}(h:q)(f:Wq q->p:=by(intro hW;(refine gar ?_;refine nU ?_;refine lj ?_;refine aK ?_);exact hW.out)):p:=f ⟨h⟩
theorem iD{p q:Prop}(h:q)(f:Wq q->p:=by(intro hW;(refine zs1 ?_;refine Hk ?_;refine zs1 ?_);exact hW.out)):p:=f ⟨h⟩
theorem zs70{p q:Prop}(h:q)(f:Wq q->p:=by(intro hW;((first|(refine aLs rfl rfl rfl rfl ?_ ?_;(focus(apply bF;(conv=>lhs;whnf);(first|done|exact rfl|(apply bA;(first|(apply aq;omega)|(apply ao;omega)|assumption|(simp;done)))))))|refine aLw rfl rfl rfl rfl cZ (by(apply rA;(exact rfl);(focus((apply aB;(conv=>lhs;whnf);(first|done|exact rfl))));(focus((apply aB;(conv=>lhs;whnf);(first|done|exact rfl))));(exact rfl);(exact rfl);(focus((first|exact fail)));(exact rfl))) ?_));exact hW.out)):p:=f ⟨h⟩
theorem Bq{p:Prop}(h:p:=by(first|(apply d_neg_at;(exact rfl);(focus((apply aB;(conv=>lhs;whnf);(first|done|exact rfl))));(kernel_rfl);(kernel_rfl))|(apply uv;(exact rfl);(focus((apply aB;(conv=>lhs;whnf);(first|done|exact rfl))));(kernel_rfl);(exact rfl);(kernel_rfl)))):p:=h
theorem wY{p q:Prop}(h:q)(f:Wq q->p:=by(intro hW;(refine aL1 rfl rfl rfl Bq ?_);exact hW.out)):p:=f ⟨h⟩
theorem zs137{p q:Prop}(h:q)(f:Wq q->p:=by(intro hW;(refine bI ?_;refine wY ?_;refine ff ?_;refine zs4 ?_;refine aK ?_);exact hW.out)):p:=f ⟨h⟩
theorem gU{p q:Prop}(h:q)(f:Wq q->p:=by(intro hW;(refine zs1 ?_;refine zs137 ?_);exact hW.out)):p:=f ⟨h⟩
theorem nS{p q:Prop}(h:q)(f:Wq q->p:=by(intro hW;(refine aL1 rfl rfl rfl zb5 ?_);exact hW.out)):p:=f ⟨h⟩
theorem nW{p q:Prop}(h:q)(f:Wq q->p:=by(intro hW;(refine gar ?_;refine wY ?_;refine ff ?_);exact hW.out)):p:=f ⟨h⟩
theorem AH{p q:Prop}(h:q)(f:Wq q->p:=by(intro hW;((first|(refine aLs rfl rfl rfl rfl ?_ ?_;(focus(apply bF;(conv=>lhs;whnf);(first|done|exact rfl|(apply bA;(first|(apply aq;omega)|(apply ao;omega)|assumption|(simp;done)))))))|refine aLw rfl rfl rfl rfl cZ Br ?_));exact hW.out)):p:=f ⟨h⟩
theorem zs68{p q:Prop}(h:q)(f:Wq q->p:=by(intro hW;((first|(refine aLs rfl rfl rfl rfl ?_ ?_;(focus(apply bF;(conv=>lhs;whnf);(first|done|exact rfl|(apply bA;(first|(apply aq;omega)|(apply ao;omega)|assumption|(simp;done)))))))|refine aLw rfl rfl rfl rfl cZ Bq ?_));exact hW.out)):p:=f ⟨h⟩
theorem nT{p q:Prop}(h:q)(f:Wq q->p:=by(intro hW;((first|(refine aLs rfl rfl rfl rfl ?_ ?_;(focus(apply bF;(conv=>lhs;whnf);(first|done|exact rfl|(apply bA;(first|(apply aq;omega)|(apply ao;omega)|assumption|(simp;done)))))))|refine aLw rfl rfl rfl rfl cZ zb1 ?_));exact hW.out)):p:=f ⟨h⟩
theorem wq{p q:Prop}(h:q)(f:Wq q->p:=by(intro hW;(refine zs3 ?_;refine AH ?_;refine nT ?_;refine zs68 ?_;refine nT ?_);exact hW.out)):p:=f ⟨h⟩
theorem Bc{p q:Prop}(h:q)(f:Wq q->p:=by(intro hW;(refine nW ?_;refine zs65 ?_;refine iK ?_;refine wq ?_;refine wZ ?_;refine uE ?_;refine nS ?_;refine aK ?_);exact hW.out)):p:=f ⟨h⟩
theorem zs73{p q:Prop}(h:q)(f:Wq q->p:=by(intro hW;((first|(apply az 16;(focus kernel_rfl);(decide+kernel))|(apply az 15;(focus kernel_rfl);(decide+kernel))|(apply az 14;(focus kernel_rfl);(decide+kernel))|(apply az 13;(focus kernel_rfl);(decide+kernel))|(apply az 12;(focus kernel_rfl);(decide+kernel))|(apply az 11;(focus kernel_rfl);(decide+kernel))|(apply az 10;(focus kernel_rfl);(decide+kernel))|(apply az 9;(focus kernel_rfl);(decide+kernel)));simp only[fT,eU,gK,ft]);exact hW.out)):p:=f ⟨h⟩
theorem zs75{p q:Prop}(h:q)(f:Wq q->p:=by(intro hW;((first|refine fo rfl rfl rfl av zb4 av av ?_|((try refine bp ?_);refine aL1 rfl rfl rfl zb4 ?_)));exact hW.out)):p:=f ⟨h⟩
theorem nY{p q:Prop}(h:q)(f:Wq q->p:=by(intro hW;(refine gE ?_;refine zs75 ?_;refine py ?_);exact hW.out)):p:=f ⟨h⟩
theorem zs76{p q:Prop}(h:q)(f:Wq q->p:=by(intro hW;((first|refine fo rfl rfl rfl av zb9 av av ?_|((try refine bp ?_);refine aL1 rfl rfl rfl zb9 ?_)));exact hW.out)):p:=f ⟨h⟩
theorem AG{p q:Prop}(h:q)(f:Wq q->p:=by(intro hW;((first|refine fo rfl rfl rfl av Br av av ?_|((try refine bp ?_);refine aL1 rfl rfl rfl Br ?_)));exact hW.out)):p:=f ⟨h⟩
theorem Hj{p q:Prop}(h:q)(f:Wq q->p:=by(intro hW;(refine zs73 ?_;refine AG ?_;refine py ?_;refine nY ?_;refine nY ?_;refine AG ?_;refine py ?_;refine nY ?_;refine nY ?_;refine zs76 ?_;refine nV ?_);exact hW.out)):p:=f ⟨h⟩
theorem Hm{p q:Prop}(h:q)(f:Wq q->p:=by(intro hW;(refine cJ ?_;refine xh ?_;refine ff ?_;refine gh ?_;refine zs3 ?_;refine nZ ?_;refine aK ?_);exact hW.out)):p:=f ⟨h⟩
theorem Be{p q:Prop}(h:q)(f:Wq q->p:=by(intro hW;(refine cJ ?_;refine kF ?_;refine gh ?_;refine zs4 ?_;refine aK ?_);exact hW.out)):p:=f ⟨h⟩
theorem zb29{p:Prop}(h:p:=by(apply rA;(exact rfl);(focus((apply aB;(conv=>lhs;whnf);(first|done|exact rfl))));(exact cI);(exact rfl);(exact rfl);(assumption);(exact rfl))):p:=h
theorem uD{p q:Prop}(h:q)(f:Wq q->p:=by(intro hW;(refine aL1 rfl rfl rfl zb29 ?_);exact hW.out)):p:=f ⟨h⟩
theorem jR{p q:Prop}(h:q)(f:Wq q->p:=by(intro hW;(refine bc ?_;refine jT ?_);exact hW.out)):p:=f ⟨h⟩
end
section
open Go.RowKit
namespace DW
def QP(g:Mx.Mat)(n:Nat):Prop:=(∀i k,i<n->k<n->Mx.at' g i k=Mx.at' g k i)/\(∀i,i<n->(Mx.at' g i i).tmod 2=0)/\∀m,1<=m->m<=n->0<Mx.D m (Mx.at' g)
theorem IQ{g:Mx.Mat}{n:Int}(h:(g.length:Int)≠n):sqB g n=false:=by unfold sqB;rw[ao h];rfl
theorem IM{g:Mx.Mat}{n:Int}{r:List Int}(h:r∈g)(hr:(r.length:Int)≠n):sqB g n=false:=by
 unfold sqB;rw[eR.2 ⟨r,h,by rw[ao hr];rfl⟩,Bool.not_true,Bool.and_false]
theorem xW{g:Mx.Mat}{n:Int}(h:(g.length:Int)=n)(hr:∀r∈g,(r.length:Int)=n):sqB g n=true:=by
 unfold sqB;rw[aq h,fR,lp,jj];intro r hr2;rw[aq (hr r hr2)];decide
theorem zL{g:Mx.Mat}{n:Int}(h:sqB g n=true):(g.length:Int)=n/\∀r∈g,(r.length:Int)=n:=by
 unfold sqB at h;rw[bV,da,lp,jj]at h;exact⟨h.1,fun r hr=>by have:=h.2 r hr;simpa using this⟩
theorem J7{m:Int}{g:Mx.Mat}(h:∀r∈g,∀z∈r,inb m z=true):eJ m g=true:=by
 unfold eJ;rw[lp,jj];intro r hr;rw[Bool.not_eq_true,jj];intro z hz;rw[h r hr z hz];decide
theorem Al{m:Int}{g:Mx.Mat}{r:List Int}{z:Int}(hr:r∈g)(hz:z∈r)(h:inb m z=false):eJ m g=false:=by
 unfold eJ;rw[eR.2 ⟨r,hr,eR.2 ⟨z,hz,by rw[h];rfl⟩⟩];rfl
theorem ze{m:Int}{g:Mx.Mat}(h:eJ m g=true):∀r∈g,∀z∈r,inb m z=true:=fun r hr z hz=>by
 cases hb:inb m z with
 |true=>rfl
 |false=>rw[Al hr hz hb]at h;cases h
theorem rC{m:Nat}{g:Mx.Mat}(h:eJ m g=true){B:Nat}(hB:m<=B):Mx.Bd B g:=fun i j=>by
 unfold Mx.at' Mx.rw;simp only[aH]
 cases hr:g[i]? with
 |none=>simp
 |some r=>
  simp only[ln]
  cases hz:r[j]? with
  |none=>simp
  |some z=>
   have:=ze h r (bf hr) z (bf hz);unfold inb at this;rw[bV,da,da]at this;simp only[ln];omega
set_option maxRecDepth 20000
set_option maxHeartbeats 2000000
theorem mE(g:Mx.Mat)(hg:g.length<=1000000)(N:Int):Fn Tryz.prog 92 [dM g,zI N] (.sc (.bool (sqB g N))):=by
 by_cases hl:(g.length:Int)=N
 ·obtain⟨L,hL⟩:∃L,L=g.length:=⟨_,rfl⟩;refine aF Tryz.func92 ak rfl rfl rfl fun X0=>?_;simp only[aA];refine cX ?_;refine bI ?_;refine gh ?_;refine zs3 ?_;refine nZ ?_;refine aK ?_;refine bc ?_;refine dQ ?_
  (refine bh (aO (sl':=[(0,dM g),(1,zI N),(5,zI 0)]) (ow':=[]) ba aZ) ?_)
  refine bw (fun r s=>∃k,k<=L/\r=L-k/\(∀r∈g.take k,(r.length:Int)=N)/\s=⟨[(0,dM g),(1,zI N),(5,zI (k:Nat))],[]⟩) (m:=L) ⟨0,aP _,rfl,fun z h=>absurd h aY,rfl⟩ fun r s hs=>?_;obtain⟨k,hk,rfl,hin,rfl⟩:=hs;by_cases hkl:k<L
  ·obtain⟨l,hl2⟩:=get_some (m:=g) (k:=k) aa;by_cases hb:(l.length:Int)=N
   ·have hin2 : ∀ x ∈ g.take (k + 1), (x.length : Int) = N := fun x hx => by
     rw[cF hl2,dR]at hx;rcases hx with hx|hx
     ·exact hin x hx
     ·rw[bu.1 hx];exact hb
    clear hin;refine zs1 ?_;refine sW ?_;refine cq ?_;refine Hm ?_;refine jR ?_;simp only[nx];exact⟨L-(k+1),_,by omega,(aO (sl':=[(0,dM g),(1,zI N),(5,zI ((k+1:Nat):Int))]) (ow':=[]) ba aZ),k+1,by omega,rfl,hin2,rfl⟩
   ·have EC:=IM (bf hl2) hb;clear hin;refine zs1 ?_;refine sW ?_;refine cq ?_;refine Hm ?_;refine jf ?_;rw[EC];exact⟨_,Sh.refl, .one (.tmp 4) _ rfl (.tmp 4 rfl)⟩
  ·obtain rfl:k=L:=by omega
   rw[eA aa]at hin;have EC:=xW hl hin;clear hin;refine zs1 ?_;refine sW ?_;refine bc ?_;refine qH ?_;refine zs1 ?_;rw[EC];exact⟨_,Sh.refl, .one (.tmp 4) _ rfl (.tmp 4 rfl)⟩
 ·have EC:=IQ hl;refine aF Tryz.func92 ak rfl rfl rfl fun X0=>?_;simp only[aA];refine cX ?_;refine bI ?_;refine gh ?_;refine zs3 ?_;refine nZ ?_;refine aK ?_;refine jf ?_;rw[EC];exact⟨_,Sh.refl, .one (.tmp 4) _ rfl (.tmp 4 rfl)⟩
theorem oE(g:Mx.Mat)(hg:g.length<=1000000)(hrr:∀r∈g,r.length<=1000000)(M:Int)(h0:0<=M)(h1:M<=1000000000000000):Fn Tryz.prog 86 [dM g,zI M] (.sc (.bool (eJ M g))):=by
 refine aF Tryz.func86 ak rfl rfl rfl fun X0=>?_;simp only[aA];refine cX ?_;refine dQ ?_
 (refine bh (aO (sl':=[(0,dM g),(1,zI M),(5,zI 0)]) (ow':=[]) ba aZ) ?_)
 refine bw (fun r s=>∃i,i<=g.length/\r=g.length-i/\(∀r∈g.take i,∀z∈r,inb M z=true)/\s=⟨[(0,dM g),(1,zI M),(5,zI (i:Nat))],[]⟩) (m:=g.length) ⟨0,aP _,rfl,fun r h=>absurd h aY,rfl⟩ fun r s hs=>?_;obtain⟨i,hi,rfl,hok,rfl⟩:=hs;by_cases hil:i<g.length
 ·obtain⟨r,hr⟩:=get_some (m:=g) (k:=i) aa;have hrl:=hrr r (bf hr);clear hrr;refine AQ ?_;refine db ?_
  (refine bh (aO (sl':=[(0,dM g),(1,zI M),(5,zI (i:Nat)),(6,zI 0)]) (ow':=[]) ba aZ) ?_)
  refine bw (fun rr s=>∃k,k<=r.length/\rr=r.length-k/\(∀z∈r.take k,inb M z=true)/\s=⟨[(0,dM g),(1,zI M),(5,zI (i:Nat)),(6,zI (k:Nat))],[]⟩) (m:=r.length) ⟨0,aP _,rfl,fun r h=>absurd h aY,rfl⟩ fun rr s hs=>?_;obtain⟨k,hk,rfl,hok2,rfl⟩:=hs;by_cases hkl:k<r.length
  ·obtain⟨z,hz⟩:=get_some (m:=r) (k:=k) aa;have WI:Fn Tryz.prog 29 [zI z,zI (-M),zI M] (.sc (.bool (inb M z))):=oy z (-M) M;cases hb:inb M z
   ·rw[hb]at WI;have EC:=Al (bf hr) (bf hz) hb;clear hok hok2;refine zs1 ?_;refine Be ?_;refine cq ?_;refine Hl ?_;refine jf ?_;rw[EC];exact⟨_,Sh.refl,.one (.tmp 4) _ rfl (.tmp 4 rfl)⟩
   ·rw[hb]at WI;have hok3:∀x∈r.take (k+1),inb M x=true:=fun x hx=>by
     rw[cF hz,dR]at hx;rcases hx with hx|hx
     ·exact hok2 x hx
     ·rw[bu.1 hx];exact hb
    clear hok hok2 hb;refine zs1 ?_;refine Be ?_;refine cq ?_;refine Hl ?_;refine jR ?_;simp only[nx];exact⟨r.length-(k+1),_,by omega,(aO (sl':=[(0,dM g),(1,zI M),(5,zI (i:Nat)),(6,zI ((k+1:Nat):Int))]) (ow':=[]) ba aZ),k+1,by omega,rfl,hok3,rfl⟩
  ·obtain rfl:k=r.length:=by omega
   rw[eA aa]at hok2;have hok3:∀q∈g.take (i+1),∀z∈q,inb M z=true:=fun q hq z hz=>by
    rw[cF hr,dR]at hq;rcases hq with hq|hq
    ·exact hok q hq z hz
    ·rw[bu.1 hq]at hz;exact hok2 z hz
   clear hok hok2;refine zs1 ?_;refine Be ?_;refine jR ?_;simp only[nx];exact⟨g.length-(i+1),_,by omega,(aO (sl':=[(0,dM g),(1,zI M),(5,zI ((i+1:Nat):Int))]) (ow':=[]) ba aZ),i+1,by omega,rfl,hok3,rfl⟩
 ·obtain rfl:i=g.length:=by omega
  rw[eA aa]at hok;have EC:=J7 hok;clear hok;refine jP ?_;refine qH ?_;refine zs1 ?_;rw[EC];exact⟨_,Sh.refl,.one (.tmp 4) _ rfl (.tmp 4 rfl)⟩
theorem rqc_s(g:Mx.Mat)(hg:g.length<=1000000)(N:Int)(h:¬(2<=N/\N<=4/\sqB g N=true)):Fn Tryz.prog 49 [qF N g] (zI 9):=by
 have WI:=oy N 2 4;by_cases h1:(decide (2<=N)&&decide (N<=4))=true
 ·rw[h1]at WI;have SQ:=mE g hg N;rw[bV,da,da]at h1;have hs:sqB g N=false:=by
   cases hb:sqB g N with
   |false=>rfl
   |true=>exact absurd ⟨h1.1,h1.2,hb⟩ h
  rw[hs]at SQ;refine aF Tryz.func49 ak rfl rfl rfl fun X0=>?_;simp only[aA];refine iD ?_;refine Bc ?_;refine db ?_;exact⟨_,Sh.refl,.one (.tmp 2) _ rfl (.tmp 2 rfl)⟩
 ·rw[Bool.eq_false_iff.2 h1]at WI;refine aF Tryz.func49 ak rfl rfl rfl fun X0=>?_;simp only[aA];refine iD ?_;refine nW ?_;refine zs65 ?_;refine iK ?_;refine wq ?_;refine zs70 ?_;refine uE ?_;refine nS ?_;refine aK ?_;refine db ?_;exact⟨_,Sh.refl,.one (.tmp 2) _ rfl (.tmp 2 rfl)⟩
theorem rqc_l(g:Mx.Mat)(hg:g.length<=1000000)(hrr:∀r∈g,r.length<=1000000)(N:Int)(h2:2<=N)(h4:N<=4)(hs:sqB g N=true)(hb:eJ 1000 g=false):Fn Tryz.prog 49 [qF N g] (zI 8):=by
 have WI:=oy N 2 4;rw[aq h2,aq h4,te]at WI;have SQ:=mE g hg N;rw[hs]at SQ;have SZ:=oE g hg hrr 1000 aa aa;rw[hb]at SZ;refine aF Tryz.func49 ak rfl rfl rfl fun X0=>?_;simp only[aA];refine iD ?_;refine Bc ?_;refine bc ?_;refine jX ?_;refine uD ?_;refine iK ?_;refine aK ?_;refine db ?_;exact⟨_,Sh.refl,.one (.tmp 2) _ rfl (.tmp 2 rfl)⟩
theorem Hz(g:Mx.Mat)(n:Nat)(c:Int)(hc:c=0/\QP g n\/c=3/\¬QP g n)(hl:g.length=n)(h2:2<=n)(h4:n<=4)(hR:Mx.Rc n g)(hb:eJ 1000 g=true):Fn Tryz.prog 49 [qF n g] (zI c):=by
 have WI:=oy (n:Int) 2 4;rw[aq aa,aq aa,te]at WI;have SQ:=mE g aa n;rw[xW aa (fun r hr=>by have:=hR r hr;omega)]at SQ;have SZ:=oE g aa (fun r hr=>by have:=hR r hr;omega) 1000 aa aa;rw[hb]at SZ;have LD:=fun m (hm:m<=n)=>I8 hl hR (rC (m:=1000) hb (by omega:1000<=20000)) h4 hm;clear hb;refine aF Tryz.func49 ak rfl rfl rfl fun X0=>?_;simp only[aA];refine iD ?_;refine Bc ?_;refine bc ?_;refine jX ?_;refine uD ?_;refine iK ?_;refine aK ?_;refine bc ?_;refine dQ ?_;clear WI SQ SZ
 (refine bh (aO (sl':=[(1, .pt (qF n g)),(3,zI 0)]) (ow':=[]) ba aZ) ?_)
 refine bw (fun r s=>∃j,j<=n/\r=n-j/\(∀a k,a<j->k<n->Mx.at' g a k=Mx.at' g k a)/\(∀a,a<j->(Mx.at' g a a).tmod 2=0)/\s=⟨[(1, .pt (qF n g)),(3,zI (j:Nat))],[]⟩) (m:=n) ⟨0,aP _,rfl,fun a k h=>by omega,fun m h1=>by omega,rfl⟩ fun r s hs=>?_;obtain⟨j,hj,rfl,hy,hp,rfl⟩:=hs;by_cases hjl:j<n
 ·obtain⟨r,hr⟩:=get_some (m:=g) (k:=j) aa;have hrl:=hR r (bf hr);obtain⟨w,hw⟩:=get_some (m:=r) (k:=j) aa;have ew:Mx.at' g j j=w:=by unfold Mx.at';rw[Mx.cM hr,aH,hw];rfl
  clear LD;refine gU ?_;refine db ?_
  (refine bh (aO (sl':=[(1, .pt (qF n g)),(3,zI (j:Nat)),(4,zI 0)]) (ow':=[]) ba aZ) ?_)
  refine bw (fun rr s=>∃k,k<=n/\rr=n-k/\(∀b,b<k->Mx.at' g j b=Mx.at' g b j)/\s=⟨[(1, .pt (qF n g)),(3,zI (j:Nat)),(4,zI (k:Nat))],[]⟩) (m:=n) ⟨0,aP _,rfl,fun b h=>by omega,rfl⟩ fun rr s hs=>?_;obtain⟨k,hk,rfl,hyk,rfl⟩:=hs;by_cases hkl:k<n
  ·obtain⟨q,hq⟩:=get_some (m:=g) (k:=k) aa;have hql:=hR q (bf hq);obtain⟨x,hx⟩:=get_some (m:=r) (k:=k) aa;obtain⟨y,hy2⟩:=get_some (m:=q) (k:=j) aa;have ex:Mx.at' g j k=x:=by unfold Mx.at';rw[Mx.cM hr,aH,hx];rfl
   have ey:Mx.at' g k j=y:=by unfold Mx.at';rw[Mx.cM hq,aH,hy2];rfl
   by_cases hxy:x=y
   ·have hyk' : ∀ b, b < k + 1 -> Mx.at' g j b = Mx.at' g b j := fun b hb => by
     by_cases e:b=k
     ·rw[e,ex,ey,hxy]
     ·exact hyk b aa
    clear hy hp hyk hc ex ey ew hw;refine gU ?_;refine cq ?_;refine Hj ?_;refine jR ?_;simp only[nx];exact⟨n-(k+1),_,by omega,(aO (sl':=[(1, .pt (qF n g)),(3,zI (j:Nat)),(4,zI ((k+1:Nat):Int))]) (ow':=[]) ba aZ),k+1,by omega,rfl,hyk',rfl⟩
   ·obtain rfl : c = 3 := by
     rcases hc with⟨_,h⟩|⟨h,_⟩
     ·exact absurd (ex.symm.trans ((h.1 j k aa aa).trans ey)) hxy
     ·exact h
    clear hy hp hyk hc ex ey ew hw;refine gU ?_;refine cq ?_;refine Hj ?_;refine db ?_;exact⟨_,Sh.refl, .one (.tmp 2) _ rfl (.tmp 2 rfl)⟩
  ·obtain rfl:k=n:=by omega
   by_cases hev:w.tmod 2=0
   ·have hd:(!decide (w.tmod 2=0))=false:=by rw[aq hev];rfl
    have hy':∀a b,a<j+1->b<k->Mx.at' g a b=Mx.at' g b a:=fun a b ha hb=>by
     by_cases e:a=j
     ·rw[e];exact hyk b hb
     ·exact hy a b aa hb
    have hp':∀a,a<j+1->(Mx.at' g a a).tmod 2=0:=fun a ha=>by
     by_cases e:a=j
     ·rw[e,ew];exact hev
     ·exact hp a aa
    clear hy hp hyk hc ew hev;refine gU ?_;refine bc ?_;refine Hi ?_;refine jR ?_;simp only[nx];exact⟨k-(j+1),_,by omega,(aO (sl':=[(1, .pt (qF k g)),(3,zI ((j+1:Nat):Int))]) (ow':=[]) ba aZ),j+1,by omega,rfl,hy',hp',rfl⟩
   ·have hd:(!decide (w.tmod 2=0))=true:=by rw[ao hev];rfl
    obtain rfl:c=3:=by
     rcases hc with⟨_,h⟩|⟨h,_⟩
     ·exact absurd (by rw[<-ew];exact h.2.1 j aa) hev
     ·exact h
    clear hy hp hyk hc ew hev;refine gU ?_;refine bc ?_;refine Hi ?_;refine db ?_;exact⟨_,Sh.refl, .one (.tmp 2) _ rfl (.tmp 2 rfl)⟩
 ·obtain rfl:j=n:=by omega
  refine gU ?_;refine bc ?_;refine dQ ?_
  (refine bh (aO (sl':=[(1, .pt (qF j g)),(5,zI 1)]) (ow':=[]) ba aZ) ?_)
  refine bw (fun r s=>∃m,m<=j/\r=j-m/\(∀q,1<=q->q<=m->0<Mx.D q (Mx.at' g))/\s=⟨[(1, .pt (qF j g)),(5,zI ((m+1:Nat):Int))],[]⟩) (m:=j) ⟨0,aP _,rfl,fun m h1 h2=>by omega,rfl⟩ fun r s hs=>?_;obtain⟨m,hm,rfl,hpp,rfl⟩:=hs;by_cases hml:m<j
  ·have LDm:=LD (m+1) aa;have hbad:¬0<Mx.D (m+1) (Mx.at' g)->c=3:=fun h=>by
    rcases hc with⟨_,h2⟩|⟨h2,_⟩
    ·exact absurd (h2.2.2 (m+1) aa aa) h
    ·exact h2
   have hpp':0<Mx.D (m+1) (Mx.at' g)->∀q,1<=q->q<=m+1->0<Mx.D q (Mx.at' g):=fun h q h1 h2=>by
    by_cases e:q=m+1
    ·rw[e];exact h
    ·exact hpp q h1 aa
   obtain⟨d,hd⟩:∃d,d=Mx.D (m+1) (Mx.at' g):=⟨_,rfl⟩;rw[<-hd]at LDm hbad hpp';clear hpp hc LD hd hy hp;by_cases hd0:0<d
   ·have hpp2:=hpp' hd0;have hdd:decide (d<=0)=false:=ao aa;clear hbad hpp';refine gU ?_;refine cq ?_;refine Hh ?_;refine jR ?_;simp only[nx];exact⟨j-(m+1),_,by omega,(aO (sl':=[(1, .pt (qF j g)),(5,zI ((m+1+1:Nat):Int))]) (ow':=[]) ba aZ),m+1,by omega,rfl,hpp2,rfl⟩
   ·obtain rfl:=hbad hd0;have hdd:decide (d<=0)=true:=aq aa;clear hbad hpp';refine gU ?_;refine cq ?_;refine Hh ?_;refine db ?_;exact⟨_,Sh.refl, .one (.tmp 2) _ rfl (.tmp 2 rfl)⟩
  ·obtain rfl:m=j:=by omega
   obtain rfl:c=0:=by
    rcases hc with⟨h,_⟩|⟨_,h⟩
    ·exact h
    ·exact absurd ⟨fun i k hi hk=>hy i k hi hk,fun i hi=>hp i hi,hpp⟩ h
   clear hpp hc LD hy hp;refine gU ?_;refine bc ?_;refine dQ ?_;exact⟨_,Sh.refl, .one (.tmp 2) _ rfl (.tmp 2 rfl)⟩
end DW
end
end Go.Proofs.YtepdigdijecgpaaGreat
