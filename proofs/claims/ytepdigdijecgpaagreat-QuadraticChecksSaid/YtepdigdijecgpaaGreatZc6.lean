/- Lemmas for the law: F4 -/
import Derived.Test.YtepdigdijecgpaaGreatZc5
namespace Go.Proofs.YtepdigdijecgpaaGreat
section
theorem wL{p q:Prop}(h:q)(f:Wq q->p:=by(intro hW;(refine eB ?_;refine gF ?_;refine fY ?_;refine zs4 ?_;refine aP ?_);exact hW.out)):p:=f ⟨h⟩
theorem Bf{p q:Prop}(h:q)(f:Wq q->p:=by(intro hW;(refine cN ?_;refine gF ?_;refine gF ?_;refine zs3 ?_;refine zs34 ?_;refine zs3 ?_;refine zs35 ?_;refine oc ?_;refine aP ?_);exact hW.out)):p:=f ⟨h⟩
theorem wS{p:Prop}(h:p:=by(first|(apply d_words_at;(exact rfl);(focus((apply av;(conv=>lhs;whnf);(first|done|exact rfl))));(kernel_rfl);(kernel_rfl))|(apply qs;(exact rfl);(focus((apply av;(conv=>lhs;whnf);(first|done|exact rfl))));(kernel_rfl);(exact rfl);(kernel_rfl)))):p:=h
theorem zs62{p q:Prop}(h:q)(f:Wq q->p:=by(intro hW;(refine aL1 rfl rfl rfl wS ?_);exact hW.out)):p:=f ⟨h⟩
theorem iR{p q:Prop}(h:q)(f:Wq q->p:=by(intro hW;(refine gar ?_;refine zs62 ?_;refine iI ?_);exact hW.out)):p:=f ⟨h⟩
theorem Bb{p q:Prop}(h:q)(f:Wq q->p:=by(intro hW;(refine iR ?_;refine zs3 ?_;refine sT ?_;refine qC ?_;refine aP ?_);exact hW.out)):p:=f ⟨h⟩
theorem Bg{p q:Prop}(h:q)(f:Wq q->p:=by(intro hW;(refine cN ?_;refine gF ?_;refine fY ?_;refine zs3 ?_;refine od ?_;refine aP ?_);exact hW.out)):p:=f ⟨h⟩
theorem zs56{p q:Prop}(h:q)(f:Wq q->p:=by(intro hW;(refine aL1 rfl rfl rfl (by(apply rC;(exact rfl);(focus((apply av;(conv=>lhs;whnf);(first|done|exact rfl))));(exact cu);(exact cu);(exact rfl);(exact rfl);(exact rfl);(assumption);(exact rfl))) ?_);exact hW.out)):p:=f ⟨h⟩
theorem zs57{p q:Prop}(h:q)(f:Wq q->p:=by(intro hW;((first|(refine aLs rfl rfl rfl rfl ?_ ?_;(focus(apply bj;(conv=>lhs;whnf);(first|done|exact rfl|(apply ba;(first|(apply aw;omega)|(apply az;omega)|assumption|(simp;done)))))))|refine aLw rfl rfl rfl rfl cB wS ?_));exact hW.out)):p:=f ⟨h⟩
theorem wR{p:Prop}(h:p:=by(first|(apply d_neg_at;(exact rfl);(focus((apply av;(conv=>lhs;whnf);(first|done|exact rfl))));(kernel_rfl);(kernel_rfl))|(apply qs;(exact rfl);(focus((apply av;(conv=>lhs;whnf);(first|done|exact rfl))));(kernel_rfl);(exact rfl);(kernel_rfl)))):p:=h
theorem wB{p q:Prop}(h:q)(f:Wq q->p:=by(intro hW;(refine aL1 rfl rfl rfl wR ?_);exact hW.out)):p:=f ⟨h⟩
theorem zs59{p q:Prop}(h:q)(f:Wq q->p:=by(intro hW;((first|(refine aLs rfl rfl rfl rfl ?_ ?_;(focus(apply bj;(conv=>lhs;whnf);(first|done|exact rfl|(apply ba;(first|(apply aw;omega)|(apply az;omega)|assumption|(simp;done)))))))|refine aLw rfl rfl rfl rfl cB wR ?_));exact hW.out)):p:=f ⟨h⟩
theorem qB{p q:Prop}(h:q)(f:Wq q->p:=by(intro hW;((first|(refine aLs rfl rfl rfl rfl ?_ ?_;(focus(apply bj;(conv=>lhs;whnf);(first|done|exact rfl|(apply ba;(first|(apply aw;omega)|(apply az;omega)|assumption|(simp;done)))))))|refine aLw rfl rfl rfl rfl cB zb1 ?_));exact hW.out)):p:=f ⟨h⟩
theorem A4{p q:Prop}(h:q)(f:Wq q->p:=by(intro hW;(refine gar ?_;refine wB ?_;refine iI ?_;refine zs56 ?_;refine oc ?_;refine zs3 ?_;refine zs57 ?_;refine qB ?_;refine zs59 ?_;refine qB ?_);exact hW.out)):p:=f ⟨h⟩
theorem qA{p q:Prop}(h:q)(f:Wq q->p:=by(intro hW;(refine aL1 rfl rfl rfl zb5 ?_);exact hW.out)):p:=f ⟨h⟩
theorem iS{p q:Prop}(h:q)(f:Wq q->p:=by(intro hW;(refine cN ?_;refine wB ?_;refine iI ?_;refine zs4 ?_;refine aP ?_);exact hW.out)):p:=f ⟨h⟩
theorem zs104{p q:Prop}(h:q)(f:Wq q->p:=by(intro hW;(refine gar ?_;refine zs49 ?_;refine qE ?_;refine aP ?_);exact hW.out)):p:=f ⟨h⟩
theorem iQ{p q:Prop}(h:q)(f:Wq q->p:=by(intro hW;(refine zs1 ?_;refine zs104 ?_;refine zs1 ?_);exact hW.out)):p:=f ⟨h⟩
theorem lh{p q:Prop}(h:q)(f:Wq q->p:=by(intro hW;(refine cw ?_;refine wv ?_;refine zs1 ?_);exact hW.out)):p:=f ⟨h⟩
theorem zb19{p:Prop}(h:p:=by(first|(apply dz;(exact rfl);(focus((apply av;(conv=>lhs;whnf);(first|done|exact rfl))));(exact cu);(exact rfl))|(apply d_neb;(exact rfl);(focus((apply av;(conv=>lhs;whnf);(first|done|exact rfl))));(exact cu);(kernel_rfl)))):p:=h
theorem zs69{p q:Prop}(h:q)(f:Wq q->p:=by(intro hW;(refine aL1 rfl rfl rfl zb19 ?_);exact hW.out)):p:=f ⟨h⟩
theorem zb8{p:Prop}(h:p:=by(first|(apply(d_remN (c:=2));(exact rfl);(focus((apply av;(conv=>lhs;whnf);(first|done|exact rfl))));(exact cu);(exact rfl);(exact rfl))|(apply d_remP;(exact rfl);(focus((apply av;(conv=>lhs;whnf);(first|done|exact rfl))));(exact cu);(omega))|(apply EM;(exact rfl);(focus((apply av;(conv=>lhs;whnf);(first|done|exact rfl))));(exact cu);(focus(first|omega|decide))))):p:=h
theorem zs68{p q:Prop}(h:q)(f:Wq q->p:=by(intro hW;(refine aL1 rfl rfl rfl zb8 ?_);exact hW.out)):p:=f ⟨h⟩
theorem Bc{p q:Prop}(h:q)(f:Wq q->p:=by(intro hW;(refine iR ?_;refine gF ?_;refine gF ?_;refine zs68 ?_;refine zs69 ?_;refine aP ?_);exact hW.out)):p:=f ⟨h⟩
theorem zs61{p q:Prop}(h:q)(f:Wq q->p:=by(intro hW;((first|(refine aLs rfl rfl rfl rfl ?_ ?_;(focus(apply bj;(conv=>lhs;whnf);(first|done|exact rfl|(apply ba;(first|(apply aw;omega)|(apply az;omega)|assumption|(simp;done)))))))|refine aLw rfl rfl rfl rfl cB (by(apply rD;(exact rfl);(focus((apply av;(conv=>lhs;whnf);(first|done|exact rfl))));(focus((apply av;(conv=>lhs;whnf);(first|done|exact rfl))));(exact rfl);(exact rfl);(focus((first|exact fail)));(exact rfl))) ?_));exact hW.out)):p:=f ⟨h⟩
theorem wK{p q:Prop}(h:q)(f:Wq q->p:=by(intro hW;(refine A4 ?_;refine zs53 ?_;refine sS ?_;refine qA ?_;refine aP ?_);exact hW.out)):p:=f ⟨h⟩
theorem zs67{p q:Prop}(h:q)(f:Wq q->p:=by(intro hW;((first|refine eJ rfl rfl rfl ay zb10 ay ay ?_|((try refine aQ ?_);refine aL1 rfl rfl rfl zb10 ?_)));exact hW.out)):p:=f ⟨h⟩
theorem wA{p q:Prop}(h:q)(f:Wq q->p:=by(intro hW;((first|refine eJ rfl rfl rfl ay zb4 ay ay ?_|((try refine aQ ?_);refine aL1 rfl rfl rfl zb4 ?_)));exact hW.out)):p:=f ⟨h⟩
theorem zs65{p q:Prop}(h:q)(f:Wq q->p:=by(intro hW;((first|refine eJ rfl rfl rfl ay wS ay ay ?_|((try refine aQ ?_);refine aL1 rfl rfl rfl wS ?_)));exact hW.out)):p:=f ⟨h⟩
theorem zs64{p q:Prop}(h:q)(f:Wq q->p:=by(intro hW;((first|(apply aO 16;(focus kernel_rfl);(decide+kernel))|(apply aO 15;(focus kernel_rfl);(decide+kernel))|(apply aO 14;(focus kernel_rfl);(decide+kernel))|(apply aO 13;(focus kernel_rfl);(decide+kernel))|(apply aO 12;(focus kernel_rfl);(decide+kernel))|(apply aO 11;(focus kernel_rfl);(decide+kernel))|(apply aO 10;(focus kernel_rfl);(decide+kernel))|(apply aO 9;(focus kernel_rfl);(decide+kernel)));simp only[jr,gM,kN,gH]);exact hW.out)):p:=f ⟨h⟩
theorem Be{p q:Prop}(h:q)(f:Wq q->p:=by(intro hW;(refine zs64 ?_;refine zs65 ?_;refine kr ?_;refine fH ?_;refine wA ?_;refine kr ?_;refine fH ?_;refine wA ?_;refine kr ?_;refine zs65 ?_;refine kr ?_;refine fH ?_;refine wA ?_;refine kr ?_;refine fH ?_;refine wA ?_;refine kr ?_;refine zs67 ?_;refine qD ?_);exact hW.out)):p:=f ⟨h⟩
theorem zs63{p q:Prop}(h:q)(f:Wq q->p:=by(intro hW;(refine aL1 rfl rfl rfl (by(apply rD;(exact rfl);(focus((apply av;(conv=>lhs;whnf);(first|done|exact rfl))));(exact cu);(exact rfl);(exact rfl);(assumption);(exact rfl))) ?_);exact hW.out)):p:=f ⟨h⟩
end
section
open Go.RowKit
namespace DW
def QP(g:Mx.Mat)(n:Nat):Prop:=(∀i k,i<n->k<n->Mx.at' g i k=Mx.at' g k i)/\(∀i,i<n->(Mx.at' g i i).tmod 2=0)/\∀m,1<=m->m<=n->0<Mx.D m (Mx.at' g)
theorem B0{g:Mx.Mat}{n:Int}(h:(g.length:Int)≠n):sqB g n=false:=by unfold sqB;rw[az h];rfl
theorem BZ{g:Mx.Mat}{n:Int}{r:List Int}(h:r∈g)(hr:(r.length:Int)≠n):sqB g n=false:=by
 unfold sqB;rw[fP.2 ⟨r,h,by rw[az hr];rfl⟩,Bool.not_true,Bool.and_false]
theorem tN{g:Mx.Mat}{n:Int}(h:(g.length:Int)=n)(hr:∀r∈g,(r.length:Int)=n):sqB g n=true:=by
 unfold sqB;rw[aw h,jq,jn,js];intro r hr2;rw[aw (hr r hr2)];decide
theorem B1{g:Mx.Mat}{n:Int}(h:sqB g n=true):(g.length:Int)=n/\∀r∈g,(r.length:Int)=n:=by
 unfold sqB at h;rw[bF,cO,jn,js]at h;exact⟨h.1,fun r hr=>by have:=h.2 r hr;simpa using this⟩
theorem Da{m:Int}{g:Mx.Mat}(h:∀r∈g,∀z∈r,inb m z=true):gk m g=true:=by
 unfold gk;rw[jn,js];intro r hr;rw[Bool.not_eq_true,js];intro z hz;rw[h r hr z hz];decide
theorem vY{m:Int}{g:Mx.Mat}{r:List Int}{z:Int}(hr:r∈g)(hz:z∈r)(h:inb m z=false):gk m g=false:=by
 unfold gk;rw[fP.2 ⟨r,hr,fP.2 ⟨z,hz,by rw[h];rfl⟩⟩];rfl
theorem AK{m:Int}{g:Mx.Mat}(h:gk m g=true):∀r∈g,∀z∈r,inb m z=true:=fun r hr z hz=>by
 cases hb:inb m z with
 |true=>rfl
 |false=>rw[vY hr hz hb]at h;cases h
theorem vZ{m:Nat}{g:Mx.Mat}(h:gk m g=true){B:Nat}(hB:m<=B):Mx.Bd B g:=fun i j=>by
 unfold Mx.at' Mx.rw;simp only[aH]
 cases hr:g[i]? with
 |none=>simp
 |some r=>
  simp only[kH]
  cases hz:r[j]? with
  |none=>simp
  |some z=>
   have:=AK h r (bV hr) z (bV hz);unfold inb at this;rw[bF,cO,cO]at this;simp only[kH];omega
set_option maxRecDepth 20000
set_option maxHeartbeats 2000000
theorem mK(g:Mx.Mat)(hg:g.length<=1000000)(N:Int):Fn Tryz.prog 92 [dM g,zI N] (.sc (.bool (sqB g N))):=by
 by_cases hl:(g.length:Int)=N
 ·obtain⟨L,hL⟩:∃L,L=g.length:=⟨_,rfl⟩;refine bu Tryz.func92 aq rfl rfl rfl fun X0=>?_;simp only[aK];refine gE ?_;refine cN ?_;refine fY ?_;refine zs3 ?_;refine od ?_;refine aP ?_;refine cw ?_;refine iq ?_
  (refine cg (bw (sl':=[(0,dM g),(1,zI N),(5,zI 0)]) (ow':=[]) bU bR) ?_)
  refine cj (fun r s=>∃k,k<=L/\r=L-k/\(∀r∈g.take k,(r.length:Int)=N)/\s=⟨[(0,dM g),(1,zI N),(5,zI (k:Nat))],[]⟩) (m:=L) ⟨0,aS _,rfl,fun z h=>absurd h aJ,rfl⟩ fun r s hs=>?_;obtain⟨k,hk,rfl,hin,rfl⟩:=hs;by_cases hkl:k<L
  ·obtain⟨l,hl2⟩:=get_some (m:=g) (k:=k) aa;by_cases hb:(l.length:Int)=N
   ·have hin2 : ∀ x ∈ g.take (k + 1), (x.length : Int) = N := fun x hx => by
     rw[fj hl2,db]at hx;rcases hx with hx|hx
     ·exact hin x hx
     ·rw[bp.1 hx];exact hb
    clear hin;refine zs1 ?_;refine sP ?_;refine cK ?_;refine Bg ?_;refine lh ?_;simp only[nx];exact⟨L-(k+1),_,by omega,(bw (sl':=[(0,dM g),(1,zI N),(5,zI ((k+1:Nat):Int))]) (ow':=[]) bU bR),k+1,by omega,rfl,hin2,rfl⟩
   ·have EC:=BZ (bV hl2) hb;clear hin;refine zs1 ?_;refine sP ?_;refine cK ?_;refine Bg ?_;refine cK ?_;refine oa ?_;refine zs1 ?_;rw[EC];exact⟨_,Sh.refl, .one (.tmp 4) _ rfl (.tmp 4 rfl)⟩
  ·obtain rfl:k=L:=by omega
   rw[iw aa]at hin;have EC:=tN hl hin;clear hin;refine zs1 ?_;refine sP ?_;refine cw ?_;refine oa ?_;refine zs1 ?_;rw[EC];exact⟨_,Sh.refl, .one (.tmp 4) _ rfl (.tmp 4 rfl)⟩
 ·have EC:=B0 hl;refine bu Tryz.func92 aq rfl rfl rfl fun X0=>?_;simp only[aK];refine gE ?_;refine cN ?_;refine fY ?_;refine zs3 ?_;refine od ?_;refine aP ?_;refine cK ?_;refine oa ?_;refine zs1 ?_;rw[EC];exact⟨_,Sh.refl, .one (.tmp 4) _ rfl (.tmp 4 rfl)⟩
theorem tX(g:Mx.Mat)(hg:g.length<=1000000)(hrr:∀r∈g,r.length<=1000000)(M:Int)(h0:0<=M)(h1:M<=1000000000000000):Fn Tryz.prog 86 [dM g,zI M] (.sc (.bool (gk M g))):=by
 refine bu Tryz.func86 aq rfl rfl rfl fun X0=>?_;simp only[aK];refine gE ?_;refine iq ?_
 (refine cg (bw (sl':=[(0,dM g),(1,zI M),(5,zI 0)]) (ow':=[]) bU bR) ?_)
 refine cj (fun r s=>∃i,i<=g.length/\r=g.length-i/\(∀r∈g.take i,∀z∈r,inb M z=true)/\s=⟨[(0,dM g),(1,zI M),(5,zI (i:Nat))],[]⟩) (m:=g.length) ⟨0,aS _,rfl,fun r h=>absurd h aJ,rfl⟩ fun r s hs=>?_;obtain⟨i,hi,rfl,hok,rfl⟩:=hs;by_cases hil:i<g.length
 ·obtain⟨r,hr⟩:=get_some (m:=g) (k:=i) aa;have hrl:=hrr r (bV hr);clear hrr;refine zs1 ?_;refine qz ?_;refine dJ ?_
  (refine cg (bw (sl':=[(0,dM g),(1,zI M),(5,zI (i:Nat)),(6,zI 0)]) (ow':=[]) bU bR) ?_)
  refine cj (fun rr s=>∃k,k<=r.length/\rr=r.length-k/\(∀z∈r.take k,inb M z=true)/\s=⟨[(0,dM g),(1,zI M),(5,zI (i:Nat)),(6,zI (k:Nat))],[]⟩) (m:=r.length) ⟨0,aS _,rfl,fun r h=>absurd h aJ,rfl⟩ fun rr s hs=>?_;obtain⟨k,hk,rfl,hok2,rfl⟩:=hs;by_cases hkl:k<r.length
  ·obtain⟨z,hz⟩:=get_some (m:=r) (k:=k) aa;have WI:Fn Tryz.prog 29 [zI z,zI (-M),zI M] (.sc (.bool (inb M z))):=lA z (-M) M;cases hb:inb M z
   ·rw[hb]at WI;have EC:=vY (bV hr) (bV hz) hb;clear hok hok2;refine zs1 ?_;refine wL ?_;refine cK ?_;refine Bf ?_;refine cK ?_;refine oa ?_;refine zs1 ?_;rw[EC];exact⟨_,Sh.refl,.one (.tmp 4) _ rfl (.tmp 4 rfl)⟩
   ·rw[hb]at WI;have hok3:∀x∈r.take (k+1),inb M x=true:=fun x hx=>by
     rw[fj hz,db]at hx;rcases hx with hx|hx
     ·exact hok2 x hx
     ·rw[bp.1 hx];exact hb
    clear hok hok2 hb;refine zs1 ?_;refine wL ?_;refine cK ?_;refine Bf ?_;refine lh ?_;simp only[nx];exact⟨r.length-(k+1),_,by omega,(bw (sl':=[(0,dM g),(1,zI M),(5,zI (i:Nat)),(6,zI ((k+1:Nat):Int))]) (ow':=[]) bU bR),k+1,by omega,rfl,hok3,rfl⟩
  ·obtain rfl:k=r.length:=by omega
   rw[iw aa]at hok2;have hok3:∀q∈g.take (i+1),∀z∈q,inb M z=true:=fun q hq z hz=>by
    rw[fj hr,db]at hq;rcases hq with hq|hq
    ·exact hok q hq z hz
    ·rw[bp.1 hq]at hz;exact hok2 z hz
   clear hok hok2;refine zs1 ?_;refine wL ?_;refine lh ?_;simp only[nx];exact⟨g.length-(i+1),_,by omega,(bw (sl':=[(0,dM g),(1,zI M),(5,zI ((i+1:Nat):Int))]) (ow':=[]) bU bR),i+1,by omega,rfl,hok3,rfl⟩
 ·obtain rfl:i=g.length:=by omega
  rw[iw aa]at hok;have EC:=Da hok;clear hok;refine zs1 ?_;refine qz ?_;refine cw ?_;refine oa ?_;refine zs1 ?_;rw[EC];exact⟨_,Sh.refl,.one (.tmp 4) _ rfl (.tmp 4 rfl)⟩
theorem rqc_s(g:Mx.Mat)(hg:g.length<=1000000)(N:Int)(h:¬(2<=N/\N<=4/\sqB g N=true)):Fn Tryz.prog 49 [qF N g] (zI 9):=by
 have WI:=lA N 2 4;by_cases h1:(decide (2<=N)&&decide (N<=4))=true
 ·rw[h1]at WI;have SQ:=mK g hg N;rw[bF,cO,cO]at h1;have hs:sqB g N=false:=by
   cases hb:sqB g N with
   |false=>rfl
   |true=>exact absurd ⟨h1.1,h1.2,hb⟩ h
  rw[hs]at SQ;refine bu Tryz.func49 aq rfl rfl rfl fun X0=>?_;simp only[aK];refine iQ ?_;refine wK ?_;refine dJ ?_;exact⟨_,Sh.refl,.one (.tmp 2) _ rfl (.tmp 2 rfl)⟩
 ·rw[Bool.eq_false_iff.2 h1]at WI;refine bu Tryz.func49 aq rfl rfl rfl fun X0=>?_;simp only[aK];refine iQ ?_;refine A4 ?_;refine zs61 ?_;refine sS ?_;refine qA ?_;refine aP ?_;refine dJ ?_;exact⟨_,Sh.refl,.one (.tmp 2) _ rfl (.tmp 2 rfl)⟩
theorem rqc_l(g:Mx.Mat)(hg:g.length<=1000000)(hrr:∀r∈g,r.length<=1000000)(N:Int)(h2:2<=N)(h4:N<=4)(hs:sqB g N=true)(hb:gk 1000 g=false):Fn Tryz.prog 49 [qF N g] (zI 8):=by
 have WI:=lA N 2 4;rw[aw h2,aw h4,Bool.and_self]at WI;have SQ:=mK g hg N;rw[hs]at SQ;have SZ:=tX g hg hrr 1000 aa aa;rw[hb]at SZ;refine bu Tryz.func49 aq rfl rfl rfl fun X0=>?_;simp only[aK];refine iQ ?_;refine wK ?_;refine cw ?_;refine iR ?_;refine zs63 ?_;refine oc ?_;refine aP ?_;refine dJ ?_;exact⟨_,Sh.refl,.one (.tmp 2) _ rfl (.tmp 2 rfl)⟩
theorem Bn(g:Mx.Mat)(n:Nat)(c:Int)(hc:c=0/\QP g n\/c=3/\¬QP g n)(hl:g.length=n)(h2:2<=n)(h4:n<=4)(hR:Mx.Rc n g)(hb:gk 1000 g=true):Fn Tryz.prog 49 [qF n g] (zI c):=by
 have WI:=lA (n:Int) 2 4;rw[aw aa,aw aa,Bool.and_self]at WI;have SQ:=mK g aa n;rw[tN aa (fun r hr=>by have:=hR r hr;omega)]at SQ;have SZ:=tX g aa (fun r hr=>by have:=hR r hr;omega) 1000 aa aa;rw[hb]at SZ;have LD:=fun m (hm:m<=n)=>B8 hl hR (vZ (m:=1000) hb (by omega:1000<=20000)) h4 hm;clear hb;refine bu Tryz.func49 aq rfl rfl rfl fun X0=>?_;simp only[aK];refine iQ ?_;refine wK ?_;refine cw ?_;refine iR ?_;refine zs63 ?_;refine oc ?_;refine aP ?_;refine cw ?_;refine iq ?_;clear WI SQ SZ
 (refine cg (bw (sl':=[(1, .pt (qF n g)),(3,zI 0)]) (ow':=[]) bU bR) ?_)
 refine cj (fun r s=>∃j,j<=n/\r=n-j/\(∀a k,a<j->k<n->Mx.at' g a k=Mx.at' g k a)/\(∀a,a<j->(Mx.at' g a a).tmod 2=0)/\s=⟨[(1, .pt (qF n g)),(3,zI (j:Nat))],[]⟩) (m:=n) ⟨0,aS _,rfl,fun a k h=>by omega,fun m h1=>by omega,rfl⟩ fun r s hs=>?_;obtain⟨j,hj,rfl,hy,hp,rfl⟩:=hs;by_cases hjl:j<n
 ·obtain⟨r,hr⟩:=get_some (m:=g) (k:=j) aa;have hrl:=hR r (bV hr);obtain⟨w,hw⟩:=get_some (m:=r) (k:=j) aa;have ew:Mx.at' g j j=w:=by unfold Mx.at';rw[Mx.dm hr,aH,hw];rfl
  clear LD;refine zs1 ?_;refine iS ?_;refine dJ ?_
  (refine cg (bw (sl':=[(1, .pt (qF n g)),(3,zI (j:Nat)),(4,zI 0)]) (ow':=[]) bU bR) ?_)
  refine cj (fun rr s=>∃k,k<=n/\rr=n-k/\(∀b,b<k->Mx.at' g j b=Mx.at' g b j)/\s=⟨[(1, .pt (qF n g)),(3,zI (j:Nat)),(4,zI (k:Nat))],[]⟩) (m:=n) ⟨0,aS _,rfl,fun b h=>by omega,rfl⟩ fun rr s hs=>?_;obtain⟨k,hk,rfl,hyk,rfl⟩:=hs;by_cases hkl:k<n
  ·obtain⟨q,hq⟩:=get_some (m:=g) (k:=k) aa;have hql:=hR q (bV hq);obtain⟨x,hx⟩:=get_some (m:=r) (k:=k) aa;obtain⟨y,hy2⟩:=get_some (m:=q) (k:=j) aa;have ex:Mx.at' g j k=x:=by unfold Mx.at';rw[Mx.dm hr,aH,hx];rfl
   have ey:Mx.at' g k j=y:=by unfold Mx.at';rw[Mx.dm hq,aH,hy2];rfl
   by_cases hxy:x=y
   ·have hyk' : ∀ b, b < k + 1 -> Mx.at' g j b = Mx.at' g b j := fun b hb => by
     by_cases e:b=k
     ·rw[e,ex,ey,hxy]
     ·exact hyk b aa
    clear hy hp hyk hc ex ey ew hw;refine zs1 ?_;refine iS ?_;refine cK ?_;refine Be ?_;refine lh ?_;simp only[nx];exact⟨n-(k+1),_,by omega,(bw (sl':=[(1, .pt (qF n g)),(3,zI (j:Nat)),(4,zI ((k+1:Nat):Int))]) (ow':=[]) bU bR),k+1,by omega,rfl,hyk',rfl⟩
   ·obtain rfl : c = 3 := by
     rcases hc with⟨_,h⟩|⟨h,_⟩
     ·exact absurd (ex.symm.trans ((h.1 j k aa aa).trans ey)) hxy
     ·exact h
    clear hy hp hyk hc ex ey ew hw;refine zs1 ?_;refine iS ?_;refine cK ?_;refine Be ?_;refine dJ ?_;exact⟨_,Sh.refl, .one (.tmp 2) _ rfl (.tmp 2 rfl)⟩
  ·obtain rfl:k=n:=by omega
   by_cases hev:w.tmod 2=0
   ·have hd:(!decide (w.tmod 2=0))=false:=by rw[aw hev];rfl
    have hy':∀a b,a<j+1->b<k->Mx.at' g a b=Mx.at' g b a:=fun a b ha hb=>by
     by_cases e:a=j
     ·rw[e];exact hyk b hb
     ·exact hy a b aa hb
    have hp':∀a,a<j+1->(Mx.at' g a a).tmod 2=0:=fun a ha=>by
     by_cases e:a=j
     ·rw[e,ew];exact hev
     ·exact hp a aa
    clear hy hp hyk hc ew hev;refine zs1 ?_;refine iS ?_;refine cw ?_;refine Bc ?_;refine lh ?_;simp only[nx];exact⟨k-(j+1),_,by omega,(bw (sl':=[(1, .pt (qF k g)),(3,zI ((j+1:Nat):Int))]) (ow':=[]) bU bR),j+1,by omega,rfl,hy',hp',rfl⟩
   ·have hd:(!decide (w.tmod 2=0))=true:=by rw[az hev];rfl
    obtain rfl:c=3:=by
     rcases hc with⟨_,h⟩|⟨h,_⟩
     ·exact absurd (by rw[<-ew];exact h.2.1 j aa) hev
     ·exact h
    clear hy hp hyk hc ew hev;refine zs1 ?_;refine iS ?_;refine cw ?_;refine Bc ?_;refine dJ ?_;exact⟨_,Sh.refl, .one (.tmp 2) _ rfl (.tmp 2 rfl)⟩
 ·obtain rfl:j=n:=by omega
  refine zs1 ?_;refine iS ?_;refine cw ?_;refine iq ?_
  (refine cg (bw (sl':=[(1, .pt (qF j g)),(5,zI 1)]) (ow':=[]) bU bR) ?_)
  refine cj (fun r s=>∃m,m<=j/\r=j-m/\(∀q,1<=q->q<=m->0<Mx.D q (Mx.at' g))/\s=⟨[(1, .pt (qF j g)),(5,zI ((m+1:Nat):Int))],[]⟩) (m:=j) ⟨0,aS _,rfl,fun m h1 h2=>by omega,rfl⟩ fun r s hs=>?_;obtain⟨m,hm,rfl,hpp,rfl⟩:=hs;by_cases hml:m<j
  ·have LDm:=LD (m+1) aa;have hbad:¬0<Mx.D (m+1) (Mx.at' g)->c=3:=fun h=>by
    rcases hc with⟨_,h2⟩|⟨h2,_⟩
    ·exact absurd (h2.2.2 (m+1) aa aa) h
    ·exact h2
   have hpp':0<Mx.D (m+1) (Mx.at' g)->∀q,1<=q->q<=m+1->0<Mx.D q (Mx.at' g):=fun h q h1 h2=>by
    by_cases e:q=m+1
    ·rw[e];exact h
    ·exact hpp q h1 aa
   obtain⟨d,hd⟩:∃d,d=Mx.D (m+1) (Mx.at' g):=⟨_,rfl⟩;rw[<-hd]at LDm hbad hpp';clear hpp hc LD hd hy hp;by_cases hd0:0<d
   ·have hpp2:=hpp' hd0;have hdd:decide (d<=0)=false:=az aa;clear hbad hpp';refine zs1 ?_;refine iS ?_;refine cK ?_;refine Bb ?_;refine lh ?_;simp only[nx];exact⟨j-(m+1),_,by omega,(bw (sl':=[(1, .pt (qF j g)),(5,zI ((m+1+1:Nat):Int))]) (ow':=[]) bU bR),m+1,by omega,rfl,hpp2,rfl⟩
   ·obtain rfl:=hbad hd0;have hdd:decide (d<=0)=true:=aw aa;clear hbad hpp';refine zs1 ?_;refine iS ?_;refine cK ?_;refine Bb ?_;refine dJ ?_;exact⟨_,Sh.refl, .one (.tmp 2) _ rfl (.tmp 2 rfl)⟩
  ·obtain rfl:m=j:=by omega
   obtain rfl:c=0:=by
    rcases hc with⟨h,_⟩|⟨_,h⟩
    ·exact h
    ·exact absurd ⟨fun i k hi hk=>hy i k hi hk,fun i hi=>hp i hi,hpp⟩ h
   clear hpp hc LD hy hp;refine zs1 ?_;refine iS ?_;refine cw ?_;refine iq ?_;exact⟨_,Sh.refl, .one (.tmp 2) _ rfl (.tmp 2 rfl)⟩
end DW
end
end Go.Proofs.YtepdigdijecgpaaGreat
