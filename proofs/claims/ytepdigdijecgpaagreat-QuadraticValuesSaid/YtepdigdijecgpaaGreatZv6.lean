/- Lemmas for the law: F4 -/
import Derived.Test.YtepdigdijecgpaaGreatZv5
namespace Go.Proofs.YtepdigdijecgpaaGreat
section
theorem zs127{p q:Prop}(h:q)(f:Wq q->p:=by(intro hW;(refine gar ?_;refine yv ?_;refine jZ ?_;refine aJ ?_);exact hW.out)):p:=f ⟨h⟩
theorem eN{p q:Prop}(h:q)(f:Wq q->p:=by(intro hW;(refine zs1 ?_;refine zs127 ?_;refine zs1 ?_);exact hW.out)):p:=f ⟨h⟩
theorem yU{p:Prop}(h:p:=by(first|(apply d_neg_at;(exact rfl);(focus((apply ao;(conv=>lhs;whnf);(first|done|exact rfl))));(kernel_rfl);(kernel_rfl))|(apply rT;(exact rfl);(focus((apply ao;(conv=>lhs;whnf);(first|done|exact rfl))));(kernel_rfl);(exact rfl);(kernel_rfl)))):p:=h
theorem yt{p q:Prop}(h:q)(f:Wq q->p:=by(intro hW;(refine aL1 rfl rfl rfl yU ?_);exact hW.out)):p:=f ⟨h⟩
theorem mq{p q:Prop}(h:q)(f:Wq q->p:=by(intro hW;(refine gar ?_;refine yt ?_;refine ed ?_);exact hW.out)):p:=f ⟨h⟩
theorem zs129{p q:Prop}(h:q)(f:Wq q->p:=by(intro hW;(refine bD ?_;refine yt ?_;refine ed ?_;refine zs4 ?_;refine aJ ?_);exact hW.out)):p:=f ⟨h⟩
theorem dn{p q:Prop}(h:q)(f:Wq q->p:=by(intro hW;(refine zs1 ?_;refine zs129 ?_);exact hW.out)):p:=f ⟨h⟩
theorem zs70{p q:Prop}(h:q)(f:Wq q->p:=by(intro hW;((first|(apply aG 16;(focus kernel_rfl);(decide+kernel))|(apply aG 15;(focus kernel_rfl);(decide+kernel))|(apply aG 14;(focus kernel_rfl);(decide+kernel))|(apply aG 13;(focus kernel_rfl);(decide+kernel))|(apply aG 12;(focus kernel_rfl);(decide+kernel))|(apply aG 11;(focus kernel_rfl);(decide+kernel))|(apply aG 10;(focus kernel_rfl);(decide+kernel))|(apply aG 9;(focus kernel_rfl);(decide+kernel)));simp only[iC,fM,js,gi]);exact hW.out)):p:=f ⟨h⟩
theorem zs73{p q:Prop}(h:q)(f:Wq q->p:=by(intro hW;((first|refine fm rfl rfl rfl aA yV aA aA ?_|((try refine br ?_);refine aL1 rfl rfl rfl yV ?_)));exact hW.out)):p:=f ⟨h⟩
theorem sy{p:Prop}(h:p:=by(first|(apply d_words_at;(exact rfl);(focus((apply ao;(conv=>lhs;whnf);(first|done|exact rfl))));(kernel_rfl);(kernel_rfl))|(apply rT;(exact rfl);(focus((apply ao;(conv=>lhs;whnf);(first|done|exact rfl))));(kernel_rfl);(exact rfl);(kernel_rfl)))):p:=h
theorem yq{p q:Prop}(h:q)(f:Wq q->p:=by(intro hW;((first|refine fm rfl rfl rfl aA sy aA aA ?_|((try refine br ?_);refine aL1 rfl rfl rfl sy ?_)));exact hW.out)):p:=f ⟨h⟩
theorem zs72{p q:Prop}(h:q)(f:Wq q->p:=by(intro hW;((first|refine fm rfl rfl rfl aA zb4 aA aA ?_|((try refine br ?_);refine aL1 rfl rfl rfl zb4 ?_)));exact hW.out)):p:=f ⟨h⟩
theorem je{p q:Prop}(h:q)(f:Wq q->p:=by(intro hW;(refine dY ?_;refine zs72 ?_;refine pJ ?_);exact hW.out)):p:=f ⟨h⟩
theorem DQ{p q:Prop}(h:q)(f:Wq q->p:=by(intro hW;(refine zs70 ?_;refine yq ?_;refine pJ ?_;refine je ?_;refine je ?_;refine yq ?_;refine pJ ?_;refine je ?_;refine je ?_;refine zs73 ?_;refine pK ?_);exact hW.out)):p:=f ⟨h⟩
theorem oG{p q:Prop}(h:q)(f:Wq q->p:=by(intro hW;(refine bP ?_;refine ui ?_;refine zs1 ?_);exact hW.out)):p:=f ⟨h⟩
theorem zs67{p q:Prop}(h:q)(f:Wq q->p:=by(intro hW;((first|(refine aLs rfl rfl rfl rfl ?_ ?_;(focus(apply bH;(conv=>lhs;whnf);(first|done|exact rfl|(apply bB;(first|(apply au;omega)|(apply aw;omega)|assumption|(simp;done)))))))|refine aLw rfl rfl rfl rfl cO (by(apply pr;(exact rfl);(focus((apply ao;(conv=>lhs;whnf);(first|done|exact rfl))));(focus((apply ao;(conv=>lhs;whnf);(first|done|exact rfl))));(exact rfl);(exact rfl);(focus((first|exact fail)));(exact rfl))) ?_));exact hW.out)):p:=f ⟨h⟩
theorem zs65{p q:Prop}(h:q)(f:Wq q->p:=by(intro hW;((first|(refine aLs rfl rfl rfl rfl ?_ ?_;(focus(apply bH;(conv=>lhs;whnf);(first|done|exact rfl|(apply bB;(first|(apply au;omega)|(apply aw;omega)|assumption|(simp;done)))))))|refine aLw rfl rfl rfl rfl cO yU ?_));exact hW.out)):p:=f ⟨h⟩
theorem mi{p q:Prop}(h:q)(f:Wq q->p:=by(intro hW;((first|(refine aLs rfl rfl rfl rfl ?_ ?_;(focus(apply bH;(conv=>lhs;whnf);(first|done|exact rfl|(apply bB;(first|(apply au;omega)|(apply aw;omega)|assumption|(simp;done)))))))|refine aLw rfl rfl rfl rfl cO zb1 ?_));exact hW.out)):p:=f ⟨h⟩
theorem zs63{p q:Prop}(h:q)(f:Wq q->p:=by(intro hW;((first|(refine aLs rfl rfl rfl rfl ?_ ?_;(focus(apply bH;(conv=>lhs;whnf);(first|done|exact rfl|(apply bB;(first|(apply au;omega)|(apply aw;omega)|assumption|(simp;done)))))))|refine aLw rfl rfl rfl rfl cO sy ?_));exact hW.out)):p:=f ⟨h⟩
theorem ua{p q:Prop}(h:q)(f:Wq q->p:=by(intro hW;(refine zs3 ?_;refine zs63 ?_;refine mi ?_;refine zs65 ?_;refine mi ?_);exact hW.out)):p:=f ⟨h⟩
theorem iq{p q:Prop}(h:q)(f:Wq q->p:=by(intro hW;(refine aL1 rfl rfl rfl zb5 ?_);exact hW.out)):p:=f ⟨h⟩
theorem zs62{p q:Prop}(h:q)(f:Wq q->p:=by(intro hW;(refine aL1 rfl rfl rfl (by(apply tj;(exact rfl);(focus((apply ao;(conv=>lhs;whnf);(first|done|exact rfl))));(exact ct);(exact ct);(exact rfl);(exact rfl);(exact rfl);(assumption);(exact rfl))) ?_);exact hW.out)):p:=f ⟨h⟩
theorem yI{p q:Prop}(h:q)(f:Wq q->p:=by(intro hW;(refine mq ?_;refine zs62 ?_;refine iV ?_;refine ua ?_;refine yu ?_;refine uJ ?_;refine iq ?_;refine aJ ?_);exact hW.out)):p:=f ⟨h⟩
theorem sa{p q:Prop}(h:q)(f:Wq q->p:=by(intro hW;(refine aL1 rfl rfl rfl sy ?_);exact hW.out)):p:=f ⟨h⟩
theorem gh{p q:Prop}(h:q)(f:Wq q->p:=by(intro hW;(refine gar ?_;refine sa ?_;refine ed ?_);exact hW.out)):p:=f ⟨h⟩
theorem zb20{p:Prop}(h:p:=by(first|(apply dB;(exact rfl);(focus((apply ao;(conv=>lhs;whnf);(first|done|exact rfl))));(exact ct);(exact rfl))|(apply d_neb;(exact rfl);(focus((apply ao;(conv=>lhs;whnf);(first|done|exact rfl))));(exact ct);(kernel_rfl)))):p:=h
theorem zs75{p q:Prop}(h:q)(f:Wq q->p:=by(intro hW;(refine aL1 rfl rfl rfl zb20 ?_);exact hW.out)):p:=f ⟨h⟩
theorem zb9{p:Prop}(h:p:=by(first|(apply(BC (c:=2));(exact rfl);(focus((apply ao;(conv=>lhs;whnf);(first|done|exact rfl))));(exact ct);(exact rfl);(exact rfl))|(apply d_remP;(exact rfl);(focus((apply ao;(conv=>lhs;whnf);(first|done|exact rfl))));(exact ct);(omega))|(apply wH;(exact rfl);(focus((apply ao;(conv=>lhs;whnf);(first|done|exact rfl))));(exact ct);(focus(first|omega|decide))))):p:=h
theorem zs74{p q:Prop}(h:q)(f:Wq q->p:=by(intro hW;(refine aL1 rfl rfl rfl zb9 ?_);exact hW.out)):p:=f ⟨h⟩
theorem DP{p q:Prop}(h:q)(f:Wq q->p:=by(intro hW;(refine gh ?_;refine eZ ?_;refine eZ ?_;refine zs74 ?_;refine zs75 ?_;refine aJ ?_);exact hW.out)):p:=f ⟨h⟩
theorem DS{p q:Prop}(h:q)(f:Wq q->p:=by(intro hW;(refine bD ?_;refine eZ ?_;refine iu ?_;refine zs3 ?_;refine nD ?_;refine aJ ?_);exact hW.out)):p:=f ⟨h⟩
theorem yJ{p q:Prop}(h:q)(f:Wq q->p:=by(intro hW;(refine cN ?_;refine eZ ?_;refine iu ?_;refine zs4 ?_;refine aJ ?_);exact hW.out)):p:=f ⟨h⟩
theorem DK{p q:Prop}(h:q)(f:Wq q->p:=by(intro hW;(refine gh ?_;refine zs3 ?_;refine jY ?_;refine ln ?_;refine aJ ?_);exact hW.out)):p:=f ⟨h⟩
theorem yr{p q:Prop}(h:q)(f:Wq q->p:=by(intro hW;(refine aL1 rfl rfl rfl (by(apply pr;(exact rfl);(focus((apply ao;(conv=>lhs;whnf);(first|done|exact rfl))));(exact ct);(exact rfl);(exact rfl);(assumption);(exact rfl))) ?_);exact hW.out)):p:=f ⟨h⟩
theorem DR{p q:Prop}(h:q)(f:Wq q->p:=by(intro hW;(refine bD ?_;refine eZ ?_;refine eZ ?_;refine zs3 ?_;refine zs40 ?_;refine zs3 ?_;refine sb ?_;refine iV ?_;refine aJ ?_);exact hW.out)):p:=f ⟨h⟩
theorem jd{p q:Prop}(h:q)(f:Wq q->p:=by(intro hW;(refine aQ ?_;refine kH ?_;refine zs1 ?_);exact hW.out)):p:=f ⟨h⟩
end
section
open Go.RowKit
namespace DW
def QP(g:Mx.Mat)(n:Nat):Prop:=(∀i k,i<n->k<n->Mx.at' g i k=Mx.at' g k i)/\(∀i,i<n->(Mx.at' g i i).tmod 2=0)/\∀m,1<=m->m<=n->0<Mx.D m (Mx.at' g)
theorem EV{g:Mx.Mat}{n:Int}(h:(g.length:Int)≠n):sqB g n=false:=by unfold sqB;rw[aw h];rfl
theorem EU{g:Mx.Mat}{n:Int}{r:List Int}(h:r∈g)(hr:(r.length:Int)≠n):sqB g n=false:=by
 unfold sqB;rw[gL.2 ⟨r,h,by rw[aw hr];rfl⟩,Bool.not_true,Bool.and_false]
theorem vt{g:Mx.Mat}{n:Int}(h:(g.length:Int)=n)(hr:∀r∈g,(r.length:Int)=n):sqB g n=true:=by
 unfold sqB;rw[au h,jr,ke,jt];intro r hr2;rw[au (hr r hr2)];decide
theorem EW{g:Mx.Mat}{n:Int}(h:sqB g n=true):(g.length:Int)=n/\∀r∈g,(r.length:Int)=n:=by
 unfold sqB at h;rw[bV,cY,ke,jt]at h;exact⟨h.1,fun r hr=>by have:=h.2 r hr;simpa using this⟩
theorem Gl{m:Int}{g:Mx.Mat}(h:∀r∈g,∀z∈r,inb m z=true):fX m g=true:=by
 unfold fX;rw[ke,jt];intro r hr;rw[Bool.not_eq_true,jt];intro z hz;rw[h r hr z hz];decide
theorem xZ{m:Int}{g:Mx.Mat}{r:List Int}{z:Int}(hr:r∈g)(hz:z∈r)(h:inb m z=false):fX m g=false:=by
 unfold fX;rw[gL.2 ⟨r,hr,gL.2 ⟨z,hz,by rw[h];rfl⟩⟩];rfl
theorem C6{m:Int}{g:Mx.Mat}(h:fX m g=true):∀r∈g,∀z∈r,inb m z=true:=fun r hr z hz=>by
 cases hb:inb m z with
 |true=>rfl
 |false=>rw[xZ hr hz hb]at h;cases h
theorem px{m:Nat}{g:Mx.Mat}(h:fX m g=true){B:Nat}(hB:m<=B):Mx.Bd B g:=fun i j=>by
 unfold Mx.at' Mx.rw;simp only[aF]
 cases hr:g[i]? with
 |none=>simp
 |some r=>
  simp only[kd]
  cases hz:r[j]? with
  |none=>simp
  |some z=>
   have:=C6 h r (bU hr) z (bU hz);unfold inb at this;rw[bV,cY,cY]at this;simp only[kd];omega
set_option maxRecDepth 20000
set_option maxHeartbeats 2000000
theorem nV(g:Mx.Mat)(hg:g.length<=1000000)(N:Int):Fn Tryz.prog 92 [dM g,zI N] (.sc (.bool (sqB g N))):=by
 by_cases hl:(g.length:Int)=N
 ·obtain⟨L,hL⟩:∃L,L=g.length:=⟨_,rfl⟩;refine aH Tryz.func92 ak rfl rfl rfl fun X0=>?_;simp only[az];refine eY ?_;refine bD ?_;refine iu ?_;refine zs3 ?_;refine nD ?_;refine aJ ?_;refine aQ ?_;refine cX ?_
  (refine bE (aD (sl':=[(0,dM g),(1,zI N),(5,zI 0)]) (ow':=[]) aS aR) ?_)
  refine bj (fun r s=>∃k,k<=L/\r=L-k/\(∀r∈g.take k,(r.length:Int)=N)/\s=⟨[(0,dM g),(1,zI N),(5,zI (k:Nat))],[]⟩) (m:=L) ⟨0,aI _,rfl,fun z h=>absurd h aY,rfl⟩ fun r s hs=>?_;obtain⟨k,hk,rfl,hin,rfl⟩:=hs;by_cases hkl:k<L
  ·obtain⟨l,hl2⟩:=get_some (m:=g) (k:=k) aa;by_cases hb:(l.length:Int)=N
   ·have hin2 : ∀ x ∈ g.take (k + 1), (x.length : Int) = N := fun x hx => by
     rw[eV hl2,dG]at hx;rcases hx with hx|hx
     ·exact hin x hx
     ·rw[bq.1 hx];exact hb
    clear hin;refine zs1 ?_;refine mu ?_;refine bP ?_;refine DS ?_;refine jd ?_;simp only[nx];exact⟨L-(k+1),_,by omega,(aD (sl':=[(0,dM g),(1,zI N),(5,zI ((k+1:Nat):Int))]) (ow':=[]) aS aR),k+1,by omega,rfl,hin2,rfl⟩
   ·have EC:=EU (bU hl2) hb;clear hin;refine zs1 ?_;refine mu ?_;refine bP ?_;refine DS ?_;refine oG ?_;rw[EC];exact⟨_,Sh.refl, .one (.tmp 4) _ rfl (.tmp 4 rfl)⟩
  ·obtain rfl:k=L:=by omega
   rw[jh aa]at hin;have EC:=vt hl hin;clear hin;refine zs1 ?_;refine mu ?_;refine aQ ?_;refine ui ?_;refine zs1 ?_;rw[EC];exact⟨_,Sh.refl, .one (.tmp 4) _ rfl (.tmp 4 rfl)⟩
 ·have EC:=EV hl;refine aH Tryz.func92 ak rfl rfl rfl fun X0=>?_;simp only[az];refine eY ?_;refine bD ?_;refine iu ?_;refine zs3 ?_;refine nD ?_;refine aJ ?_;refine oG ?_;rw[EC];exact⟨_,Sh.refl, .one (.tmp 4) _ rfl (.tmp 4 rfl)⟩
theorem qc(g:Mx.Mat)(hg:g.length<=1000000)(hrr:∀r∈g,r.length<=1000000)(M:Int)(h0:0<=M)(h1:M<=1000000000000000):Fn Tryz.prog 86 [dM g,zI M] (.sc (.bool (fX M g))):=by
 refine aH Tryz.func86 ak rfl rfl rfl fun X0=>?_;simp only[az];refine eY ?_;refine cX ?_
 (refine bE (aD (sl':=[(0,dM g),(1,zI M),(5,zI 0)]) (ow':=[]) aS aR) ?_)
 refine bj (fun r s=>∃i,i<=g.length/\r=g.length-i/\(∀r∈g.take i,∀z∈r,inb M z=true)/\s=⟨[(0,dM g),(1,zI M),(5,zI (i:Nat))],[]⟩) (m:=g.length) ⟨0,aI _,rfl,fun r h=>absurd h aY,rfl⟩ fun r s hs=>?_;obtain⟨i,hi,rfl,hok,rfl⟩:=hs;by_cases hil:i<g.length
 ·obtain⟨r,hr⟩:=get_some (m:=g) (k:=i) aa;have hrl:=hrr r (bU hr);clear hrr;refine zs1 ?_;refine oL ?_;refine dF ?_
  (refine bE (aD (sl':=[(0,dM g),(1,zI M),(5,zI (i:Nat)),(6,zI 0)]) (ow':=[]) aS aR) ?_)
  refine bj (fun rr s=>∃k,k<=r.length/\rr=r.length-k/\(∀z∈r.take k,inb M z=true)/\s=⟨[(0,dM g),(1,zI M),(5,zI (i:Nat)),(6,zI (k:Nat))],[]⟩) (m:=r.length) ⟨0,aI _,rfl,fun r h=>absurd h aY,rfl⟩ fun rr s hs=>?_;obtain⟨k,hk,rfl,hok2,rfl⟩:=hs;by_cases hkl:k<r.length
  ·obtain⟨z,hz⟩:=get_some (m:=r) (k:=k) aa;have WI:Fn Tryz.prog 29 [zI z,zI (-M),zI M] (.sc (.bool (inb M z))):=mI z (-M) M;cases hb:inb M z
   ·rw[hb]at WI;have EC:=xZ (bU hr) (bU hz) hb;clear hok hok2;refine zs1 ?_;refine yJ ?_;refine bP ?_;refine DR ?_;refine oG ?_;rw[EC];exact⟨_,Sh.refl,.one (.tmp 4) _ rfl (.tmp 4 rfl)⟩
   ·rw[hb]at WI;have hok3:∀x∈r.take (k+1),inb M x=true:=fun x hx=>by
     rw[eV hz,dG]at hx;rcases hx with hx|hx
     ·exact hok2 x hx
     ·rw[bq.1 hx];exact hb
    clear hok hok2 hb;refine zs1 ?_;refine yJ ?_;refine bP ?_;refine DR ?_;refine jd ?_;simp only[nx];exact⟨r.length-(k+1),_,by omega,(aD (sl':=[(0,dM g),(1,zI M),(5,zI (i:Nat)),(6,zI ((k+1:Nat):Int))]) (ow':=[]) aS aR),k+1,by omega,rfl,hok3,rfl⟩
  ·obtain rfl:k=r.length:=by omega
   rw[jh aa]at hok2;have hok3:∀q∈g.take (i+1),∀z∈q,inb M z=true:=fun q hq z hz=>by
    rw[eV hr,dG]at hq;rcases hq with hq|hq
    ·exact hok q hq z hz
    ·rw[bq.1 hq]at hz;exact hok2 z hz
   clear hok hok2;refine zs1 ?_;refine yJ ?_;refine jd ?_;simp only[nx];exact⟨g.length-(i+1),_,by omega,(aD (sl':=[(0,dM g),(1,zI M),(5,zI ((i+1:Nat):Int))]) (ow':=[]) aS aR),i+1,by omega,rfl,hok3,rfl⟩
 ·obtain rfl:i=g.length:=by omega
  rw[jh aa]at hok;have EC:=Gl hok;clear hok;refine zs1 ?_;refine oL ?_;refine aQ ?_;refine ui ?_;refine zs1 ?_;rw[EC];exact⟨_,Sh.refl,.one (.tmp 4) _ rfl (.tmp 4 rfl)⟩
theorem rqc_s(g:Mx.Mat)(hg:g.length<=1000000)(N:Int)(h:¬(2<=N/\N<=4/\sqB g N=true)):Fn Tryz.prog 49 [qF N g] (zI 9):=by
 have WI:=mI N 2 4;by_cases h1:(decide (2<=N)&&decide (N<=4))=true
 ·rw[h1]at WI;have SQ:=nV g hg N;rw[bV,cY,cY]at h1;have hs:sqB g N=false:=by
   cases hb:sqB g N with
   |false=>rfl
   |true=>exact absurd ⟨h1.1,h1.2,hb⟩ h
  rw[hs]at SQ;refine aH Tryz.func49 ak rfl rfl rfl fun X0=>?_;simp only[az];refine eN ?_;refine yI ?_;refine dF ?_;exact⟨_,Sh.refl,.one (.tmp 2) _ rfl (.tmp 2 rfl)⟩
 ·rw[Bool.eq_false_iff.2 h1]at WI;refine aH Tryz.func49 ak rfl rfl rfl fun X0=>?_;simp only[az];refine eN ?_;refine mq ?_;refine zs62 ?_;refine iV ?_;refine ua ?_;refine zs67 ?_;refine uJ ?_;refine iq ?_;refine aJ ?_;refine dF ?_;exact⟨_,Sh.refl,.one (.tmp 2) _ rfl (.tmp 2 rfl)⟩
theorem rqc_l(g:Mx.Mat)(hg:g.length<=1000000)(hrr:∀r∈g,r.length<=1000000)(N:Int)(h2:2<=N)(h4:N<=4)(hs:sqB g N=true)(hb:fX 1000 g=false):Fn Tryz.prog 49 [qF N g] (zI 8):=by
 have WI:=mI N 2 4;rw[au h2,au h4,Bool.and_self]at WI;have SQ:=nV g hg N;rw[hs]at SQ;have SZ:=qc g hg hrr 1000 aa aa;rw[hb]at SZ;refine aH Tryz.func49 ak rfl rfl rfl fun X0=>?_;simp only[az];refine eN ?_;refine yI ?_;refine aQ ?_;refine gh ?_;refine yr ?_;refine iV ?_;refine aJ ?_;refine dF ?_;exact⟨_,Sh.refl,.one (.tmp 2) _ rfl (.tmp 2 rfl)⟩
theorem Ej(g:Mx.Mat)(n:Nat)(c:Int)(hc:c=0/\QP g n\/c=3/\¬QP g n)(hl:g.length=n)(h2:2<=n)(h4:n<=4)(hR:Mx.Rc n g)(hb:fX 1000 g=true):Fn Tryz.prog 49 [qF n g] (zI c):=by
 have WI:=mI (n:Int) 2 4;rw[au aa,au aa,Bool.and_self]at WI;have SQ:=nV g aa n;rw[vt aa (fun r hr=>by have:=hR r hr;omega)]at SQ;have SZ:=qc g aa (fun r hr=>by have:=hR r hr;omega) 1000 aa aa;rw[hb]at SZ;have LD:=fun m (hm:m<=n)=>xx hl hR (px (m:=1000) hb (by omega:1000<=20000)) h4 hm;clear hb;refine aH Tryz.func49 ak rfl rfl rfl fun X0=>?_;simp only[az];refine eN ?_;refine yI ?_;refine aQ ?_;refine gh ?_;refine yr ?_;refine iV ?_;refine aJ ?_;refine aQ ?_;refine cX ?_;clear WI SQ SZ
 (refine bE (aD (sl':=[(1, .pt (qF n g)),(3,zI 0)]) (ow':=[]) aS aR) ?_)
 refine bj (fun r s=>∃j,j<=n/\r=n-j/\(∀a k,a<j->k<n->Mx.at' g a k=Mx.at' g k a)/\(∀a,a<j->(Mx.at' g a a).tmod 2=0)/\s=⟨[(1, .pt (qF n g)),(3,zI (j:Nat))],[]⟩) (m:=n) ⟨0,aI _,rfl,fun a k h=>by omega,fun m h1=>by omega,rfl⟩ fun r s hs=>?_;obtain⟨j,hj,rfl,hy,hp,rfl⟩:=hs;by_cases hjl:j<n
 ·obtain⟨r,hr⟩:=get_some (m:=g) (k:=j) aa;have hrl:=hR r (bU hr);obtain⟨w,hw⟩:=get_some (m:=r) (k:=j) aa;have ew:Mx.at' g j j=w:=by unfold Mx.at';rw[Mx.cC hr,aF,hw];rfl
  clear LD;refine dn ?_;refine dF ?_
  (refine bE (aD (sl':=[(1, .pt (qF n g)),(3,zI (j:Nat)),(4,zI 0)]) (ow':=[]) aS aR) ?_)
  refine bj (fun rr s=>∃k,k<=n/\rr=n-k/\(∀b,b<k->Mx.at' g j b=Mx.at' g b j)/\s=⟨[(1, .pt (qF n g)),(3,zI (j:Nat)),(4,zI (k:Nat))],[]⟩) (m:=n) ⟨0,aI _,rfl,fun b h=>by omega,rfl⟩ fun rr s hs=>?_;obtain⟨k,hk,rfl,hyk,rfl⟩:=hs;by_cases hkl:k<n
  ·obtain⟨q,hq⟩:=get_some (m:=g) (k:=k) aa;have hql:=hR q (bU hq);obtain⟨x,hx⟩:=get_some (m:=r) (k:=k) aa;obtain⟨y,hy2⟩:=get_some (m:=q) (k:=j) aa;have ex:Mx.at' g j k=x:=by unfold Mx.at';rw[Mx.cC hr,aF,hx];rfl
   have ey:Mx.at' g k j=y:=by unfold Mx.at';rw[Mx.cC hq,aF,hy2];rfl
   by_cases hxy:x=y
   ·have hyk' : ∀ b, b < k + 1 -> Mx.at' g j b = Mx.at' g b j := fun b hb => by
     by_cases e:b=k
     ·rw[e,ex,ey,hxy]
     ·exact hyk b aa
    clear hy hp hyk hc ex ey ew hw;refine dn ?_;refine bP ?_;refine DQ ?_;refine jd ?_;simp only[nx];exact⟨n-(k+1),_,by omega,(aD (sl':=[(1, .pt (qF n g)),(3,zI (j:Nat)),(4,zI ((k+1:Nat):Int))]) (ow':=[]) aS aR),k+1,by omega,rfl,hyk',rfl⟩
   ·obtain rfl : c = 3 := by
     rcases hc with⟨_,h⟩|⟨h,_⟩
     ·exact absurd (ex.symm.trans ((h.1 j k aa aa).trans ey)) hxy
     ·exact h
    clear hy hp hyk hc ex ey ew hw;refine dn ?_;refine bP ?_;refine DQ ?_;refine dF ?_;exact⟨_,Sh.refl, .one (.tmp 2) _ rfl (.tmp 2 rfl)⟩
  ·obtain rfl:k=n:=by omega
   by_cases hev:w.tmod 2=0
   ·have hd:(!decide (w.tmod 2=0))=false:=by rw[au hev];rfl
    have hy':∀a b,a<j+1->b<k->Mx.at' g a b=Mx.at' g b a:=fun a b ha hb=>by
     by_cases e:a=j
     ·rw[e];exact hyk b hb
     ·exact hy a b aa hb
    have hp':∀a,a<j+1->(Mx.at' g a a).tmod 2=0:=fun a ha=>by
     by_cases e:a=j
     ·rw[e,ew];exact hev
     ·exact hp a aa
    clear hy hp hyk hc ew hev;refine dn ?_;refine aQ ?_;refine DP ?_;refine jd ?_;simp only[nx];exact⟨k-(j+1),_,by omega,(aD (sl':=[(1, .pt (qF k g)),(3,zI ((j+1:Nat):Int))]) (ow':=[]) aS aR),j+1,by omega,rfl,hy',hp',rfl⟩
   ·have hd:(!decide (w.tmod 2=0))=true:=by rw[aw hev];rfl
    obtain rfl:c=3:=by
     rcases hc with⟨_,h⟩|⟨h,_⟩
     ·exact absurd (by rw[<-ew];exact h.2.1 j aa) hev
     ·exact h
    clear hy hp hyk hc ew hev;refine dn ?_;refine aQ ?_;refine DP ?_;refine dF ?_;exact⟨_,Sh.refl, .one (.tmp 2) _ rfl (.tmp 2 rfl)⟩
 ·obtain rfl:j=n:=by omega
  refine dn ?_;refine aQ ?_;refine cX ?_
  (refine bE (aD (sl':=[(1, .pt (qF j g)),(5,zI 1)]) (ow':=[]) aS aR) ?_)
  refine bj (fun r s=>∃m,m<=j/\r=j-m/\(∀q,1<=q->q<=m->0<Mx.D q (Mx.at' g))/\s=⟨[(1, .pt (qF j g)),(5,zI ((m+1:Nat):Int))],[]⟩) (m:=j) ⟨0,aI _,rfl,fun m h1 h2=>by omega,rfl⟩ fun r s hs=>?_;obtain⟨m,hm,rfl,hpp,rfl⟩:=hs;by_cases hml:m<j
  ·have LDm:=LD (m+1) aa;have hbad:¬0<Mx.D (m+1) (Mx.at' g)->c=3:=fun h=>by
    rcases hc with⟨_,h2⟩|⟨h2,_⟩
    ·exact absurd (h2.2.2 (m+1) aa aa) h
    ·exact h2
   have hpp':0<Mx.D (m+1) (Mx.at' g)->∀q,1<=q->q<=m+1->0<Mx.D q (Mx.at' g):=fun h q h1 h2=>by
    by_cases e:q=m+1
    ·rw[e];exact h
    ·exact hpp q h1 aa
   obtain⟨d,hd⟩:∃d,d=Mx.D (m+1) (Mx.at' g):=⟨_,rfl⟩;rw[<-hd]at LDm hbad hpp';clear hpp hc LD hd hy hp;by_cases hd0:0<d
   ·have hpp2:=hpp' hd0;have hdd:decide (d<=0)=false:=aw aa;clear hbad hpp';refine dn ?_;refine bP ?_;refine DK ?_;refine jd ?_;simp only[nx];exact⟨j-(m+1),_,by omega,(aD (sl':=[(1, .pt (qF j g)),(5,zI ((m+1+1:Nat):Int))]) (ow':=[]) aS aR),m+1,by omega,rfl,hpp2,rfl⟩
   ·obtain rfl:=hbad hd0;have hdd:decide (d<=0)=true:=au aa;clear hbad hpp';refine dn ?_;refine bP ?_;refine DK ?_;refine dF ?_;exact⟨_,Sh.refl, .one (.tmp 2) _ rfl (.tmp 2 rfl)⟩
  ·obtain rfl:m=j:=by omega
   obtain rfl:c=0:=by
    rcases hc with⟨h,_⟩|⟨_,h⟩
    ·exact h
    ·exact absurd ⟨fun i k hi hk=>hy i k hi hk,fun i hi=>hp i hi,hpp⟩ h
   clear hpp hc LD hy hp;refine dn ?_;refine aQ ?_;refine cX ?_;exact⟨_,Sh.refl, .one (.tmp 2) _ rfl (.tmp 2 rfl)⟩
end DW
end
end Go.Proofs.YtepdigdijecgpaaGreat
