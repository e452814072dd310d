/- Lemmas for the law: E87 -/
import Derived.Test.YtcgjmdpcplhanaaGreatZv10
namespace Go.Proofs.YtcgjmdpcplhanaaGreat
section
theorem zs103{p q:Prop}(h:q)(f:Wq q->p:=by(intro hW;(refine aL1 rfl rfl rfl (by(apply vT;(exact rfl);(focus((apply aw;(conv=>lhs;whnf);(first|done|exact rfl))));(focus((apply aw;(conv=>lhs;whnf);(first|done|exact rfl))));(focus((apply aw;(conv=>lhs;whnf);(first|done|exact rfl))));(exact rfl);(exact rfl);(exact rfl);(assumption);(exact rfl))) ?_);exact hW.out)):p:=f ⟨h⟩
theorem Ic{p q:Prop}(h:q)(f:Wq q->p:=by(intro hW;(refine cf ?_;refine zs3 ?_;refine zs103 ?_;refine gR ?_;refine gR ?_;refine zs6 ?_;refine ba ?_);exact hW.out)):p:=f ⟨h⟩
theorem Bu{p q:Prop}(h:q)(f:Wq q->p:=by(intro hW;(refine cf ?_;refine kE ?_;refine fK ?_;refine jM ?_;refine xC ?_;refine qj ?_;refine ba ?_);exact hW.out)):p:=f ⟨h⟩
theorem oR{p q:Prop}(h:q)(f:Wq q->p:=by(intro hW;(refine cf ?_;refine mq ?_;refine ba ?_);exact hW.out)):p:=f ⟨h⟩
theorem Bv{p q:Prop}(h:q)(f:Wq q->p:=by(intro hW;(refine gn ?_;refine xC ?_;refine qj ?_;refine fg ?_;refine Bj ?_;refine wT ?_);exact hW.out)):p:=f ⟨h⟩
end
section
open Go.RowKit
namespace DW
def io(m:Nat):List Int:=(List.range m).map fun i:Nat=>(i:Int)
theorem Fc(m:Nat):(io m).length=m:=by unfold io;rw[aY,List.length_range]
theorem Mb{m i:Nat}(h:i<m):(io m)[i]?=some (i:Int):=by
 unfold io;rw[db,tX h];rfl
theorem Kn(m:Nat):io (m+1)=io m++[(m:Int)]:=by
 unfold io;rw[List.range_succ,dC];rfl
set_option maxRecDepth 20000
set_option maxHeartbeats 2000000
theorem LG(w:Mx.Mat)(n m:Nat)(hl:w.length=n)(hR:Mx.Rc n w)(hm:m<=n)(hn:n<=1000):Fn Tryz.prog 131 [dW w,dI (io m),dI (io m)] (dW (ld w m)):=by
 have hIl:=Fc m;have hIg:∀i,i<m->(io m)[i]?=some (i:Int):=fun i h=>Mb h;generalize io m=I at*;refine bq Tryz.func131 ak rfl rfl rfl fun X0=>?_;simp only[aQ];refine jL ?_;refine kX ?_;refine aI (eX (t:=7) (k:=7) (T:=113) (wd:=1) jN rfl rfl dL) ?_
 (refine aI (av (sl':=[(0,dW w),(1,dI I),(2,dI I),(7,.own 7),(8,zI 0)]) (ow':=[(7,⟨113,1,[]⟩)]) aE aH) ?_)
 refine aX (fun r s=>∃i,i<=m/\r=m-i/\s=⟨[(0,dW w),(1,dI I),(2,dI I),(7,.own 7),(8,zI (i:Nat))],[(7,⟨113,1,((w.take i).map fun r=>r.take m).map dZ⟩)]⟩) (m:=m) ⟨0,aO _,rfl,rfl⟩ fun r s hs=>?_;obtain⟨i,hi,rfl,rfl⟩:=hs;by_cases him:i<m
 ·obtain⟨r,hr⟩:=get_some (m:=w) (k:=i) aa;have hrl:=hR r (bh hr);have hii:=hIg i him;have hsn:((w.take (i+1)).map fun r=>r.take m).map dZ=((w.take i).map fun r=>r.take m).map dZ++[dZ (r.take m)]:=by
   rw[cB hr,dC,dC];rfl
  have hfl:((w.take i).map fun r=>r.take m).length<=1000:=by rw[aY,aP];omega
  obtain⟨F,hF⟩:∃F,F=(w.take i).map fun r=>r.take m:=⟨_,rfl⟩;rw[<-hF]at hsn hfl;rw[<-hF];clear hF;refine cC ?_;refine kX ?_;refine aI (eX (t:=9) (k:=9) (T:=62) (wd:=2) jN rfl rfl dL) ?_
  (refine aI (av (sl':=[(0,dW w),(1,dI I),(2,dI I),(7,.own 7),(8,zI (i:Nat)),(9,.own 9),(10,zI 0)]) (ow':=[(9,⟨62,2,[]⟩),(7,⟨113,1,F.map dZ⟩)]) aE aH) ?_)
  refine aX (fun rr s=>∃j,j<=m/\rr=m-j/\s=⟨[(0,dW w),(1,dI I),(2,dI I),(7,.own 7),(8,zI (i:Nat)),(9,.own 9),(10,zI (j:Nat))],[(9,⟨62,2,(r.take j).map .nm⟩),(7,⟨113,1,F.map dZ⟩)]⟩) (m:=m) ⟨0,aO _,rfl,rfl⟩ fun rr s hs=>?_;obtain⟨j,hj,rfl,rfl⟩:=hs;by_cases hjm:j<m
  ·obtain⟨z,hz⟩:=get_some (m:=r) (k:=j) aa;have hij:=hIg j hjm;have hgl:(r.take j).length<=1000:=by rw[aP];omega
   have hgs:=cB hz;obtain⟨G,hG⟩:∃G,G=r.take j:=⟨_,rfl⟩;rw[<-hG]at hgs hgl;rw[<-hG];clear hG hsn;refine cC ?_;((first|(apply ao 15;(focus kernel_rfl);(decide+kernel))|(apply ao 14;(focus kernel_rfl);(decide+kernel))|(apply ao 13;(focus kernel_rfl);(decide+kernel))|(apply ao 12;(focus kernel_rfl);(decide+kernel))|(apply ao 11;(focus kernel_rfl);(decide+kernel))|(apply ao 10;(focus kernel_rfl);(decide+kernel))|(apply ao 9;(focus kernel_rfl);(decide+kernel))|(apply ao 8;(focus kernel_rfl);(decide+kernel)));simp only[eZ,eE,fF,eO]);refine fJ ?_;refine fJ ?_;refine kW ?_;refine zs27 ?_;refine jI ?_;refine kW ?_;refine zs27 ?_;refine jI ?_;(first|refine eK rfl rfl rfl an zb22 an an ?_|((try refine aS ?_);refine aL1 rfl rfl rfl zb22 ?_));((try refine aS ?_);(refine rE rfl rfl rfl rfl dm dm cr an xO ak ak (by(simp only[aY,dh,en];omega)) dL xN ?_));refine sO ?_;refine gS ?_;refine je ?_;simp only[nx];exact⟨m-(j+1),_,by omega,(av (sl':=[(0,dW w),(1,dI I),(2,dI I),(7,.own 7),(8,zI (i:Nat)),(9,.own 9),(10,zI ((j+1:Nat):Int))]) (ow':=[(9,⟨62,2,G.map .nm++[.nm z]⟩),(7,⟨113,1,F.map dZ⟩)]) aE aH),j+1,by omega,rfl,by rw[hgs,dC];rfl⟩
  ·obtain rfl:j=m:=by omega
   refine dH ?_;refine aI (bB (k:=9) cr dG dF) ?_;refine zs1 ?_;refine oU ?_;refine je ?_;simp only[nx];exact⟨j-(i+1),_,by omega,(av (sl':=[(0,dW w),(1,dI I),(2,dI I),(7,.own 7),(8,zI ((i+1:Nat):Int))]) (ow':=[(7,⟨113,1,F.map dZ++[dZ (r.take j)]⟩)]) aE aH),i+1,by omega,rfl,by rw[hsn]⟩
 ·obtain rfl:i=m:=by omega
  have e:((w.take i).map fun r=>r.take i)=ld w i:=rfl;rw[e];generalize ld w i=L;refine dH ?_;refine aI (bB (k:=7) cr dG dF) ?_;refine zs1 ?_;refine jd ?_;exact⟨_,Sh.refl,.one (.tmp 6) _ rfl (.tmp 6 rfl)⟩
theorem rcg_e(g:Mx.Mat)(C:Int)(hC:C≠0)(CK:Fn Tryz.prog 17 [dM g] (zI C)):Fn Tryz.prog 58 [dM g] (zI C):=by
 refine bq Tryz.func58 ak rfl rfl rfl fun X0=>?_;simp only[aQ];refine cD ?_;refine jJ ?_;refine jg ?_;refine bU ?_;refine jd ?_;exact⟨_,Sh.refl,.one (.tmp 2) _ rfl (.tmp 2 rfl)⟩
theorem rcg_s(g:Mx.Mat)(hg:¬(1<=g.length/\g.length<=4/\wid g=g.length))(CK:Fn Tryz.prog 17 [dM g] (zI 0))(CO:Fn Tryz.prog 24 [dM g] (zI (wid g))):Fn Tryz.prog 58 [dM g] (zI 9):=by
 have WI:=jr (g.length:Int) 1 4;by_cases h1:(decide (1<=(g.length:Int))&&decide ((g.length:Int)<=4))=true
 ·have hd3 : (!decide ((wid g : Int) = (g.length : Int))) = true := by
   rw[cO,eA,eA]at h1;rw[aA aa];rfl
  rw[h1]at WI;generalize wid g=W at*;refine bq Tryz.func58 ak rfl rfl rfl fun X0=>?_;simp only[aQ];refine cD ?_;refine iB ?_;refine Bv ?_;refine eN ?_;exact⟨_,Sh.refl, .one (.tmp 2) _ rfl (.tmp 2 rfl)⟩
 ·rw[Bool.eq_false_iff.2 h1]at WI;refine bq Tryz.func58 ak rfl rfl rfl fun X0=>?_;simp only[aQ];refine cD ?_;refine iB ?_;refine gn ?_;refine xC ?_;refine qj ?_;refine fg ?_;refine IL ?_;refine wT ?_;refine eN ?_;exact⟨_,Sh.refl, .one (.tmp 2) _ rfl (.tmp 2 rfl)⟩
theorem rcg_r(g:Mx.Mat)(n:Nat)(hl:g.length=n)(h1:1<=n)(h4:n<=4)(hR:Mx.Rc n g)(hin:¬∀r∈g,∀z∈r,inb 1000000 z=true)(CK:Fn Tryz.prog 17 [dM g] (zI 0))(CO:Fn Tryz.prog 24 [dM g] (zI n)):Fn Tryz.prog 58 [dM g] (zI 2):=by
 have WI:=jr (g.length:Int) 1 4;rw[ay aa,ay aa,Bool.and_self]at WI;have hd3:(!decide ((n:Int)=(g.length:Int)))=false:=by rw[ay aa];rfl
 refine bq Tryz.func58 ak rfl rfl rfl fun X0=>?_;simp only[aQ];refine cD ?_;refine iB ?_;refine Bv ?_;refine bG ?_;refine ew ?_;clear hd3 CK CO WI
 (refine aI (av (sl':=[(0,dM g),(4,zI 0)]) (ow':=[]) aE aH) ?_)
 refine aX (fun r s=>∃i,i<=n/\r=n-i/\(∀r∈g.take i,∀z∈r,inb 1000000 z=true)/\s=⟨[(0,dM g),(4,zI (i:Nat))],[]⟩) (m:=n) ⟨0,aO _,rfl,fun r h=>absurd h aU,rfl⟩ fun r s hs=>?_;obtain⟨i,hi,rfl,hok,rfl⟩:=hs;by_cases hil:i<n
 ·obtain⟨r,hr⟩:=get_some (m:=g) (k:=i) aa;have hrl:=hR r (bh hr);refine cC ?_;refine ew ?_
  (refine aI (av (sl':=[(0,dM g),(4,zI (i:Nat)),(5,zI 0)]) (ow':=[]) aE aH) ?_)
  refine aX (fun rr s=>∃k,k<=n/\rr=n-k/\(∀z∈r.take k,inb 1000000 z=true)/\s=⟨[(0,dM g),(4,zI (i:Nat)),(5,zI (k:Nat))],[]⟩) (m:=n) ⟨0,aO _,rfl,fun r h=>absurd h aU,rfl⟩ fun rr s hs=>?_;obtain⟨k,hk,rfl,hok2,rfl⟩:=hs;by_cases hkl:k<n
  ·obtain⟨z,hz⟩:=get_some (m:=r) (k:=k) aa;have WI:Fn Tryz.prog 26 [zI z,zI (-1000000),zI 1000000] (.sc (.bool (inb 1000000 z))):=jr z (-1000000) 1000000;cases hb:inb 1000000 z
   ·rw[hb]at WI;clear hok hok2 hin;refine cC ?_;refine Bu ?_;refine eN ?_;exact⟨_,Sh.refl,.one (.tmp 2) _ rfl (.tmp 2 rfl)⟩
   ·rw[hb]at WI;have hok3:∀x∈r.take (k+1),inb 1000000 x=true:=fun x hx=>by
     rw[cB hz,de]at hx;rcases hx with hx|hx
     ·exact hok2 x hx
     ·rw[bV.1 hx];exact hb
    clear hok hok2 hin hb;refine cC ?_;refine Bu ?_;refine gU ?_;simp only[nx];exact⟨n-(k+1),_,by omega,(av (sl':=[(0,dM g),(4,zI (i:Nat)),(5,zI ((k+1:Nat):Int))]) (ow':=[]) aE aH),k+1,by omega,rfl,hok3,rfl⟩
  ·obtain rfl:k=n:=by omega
   rw[cR aa]at hok2;have hok3:∀q∈g.take (i+1),∀z∈q,inb 1000000 z=true:=fun q hq z hz=>by
    rw[cB hr,de]at hq;rcases hq with hq|hq
    ·exact hok q hq z hz
    ·rw[bV.1 hq]at hz;exact hok2 z hz
   clear hok hok2 hin;refine dH ?_;refine jf ?_;simp only[nx];exact⟨k-(i+1),_,by omega,(av (sl':=[(0,dM g),(4,zI ((i+1:Nat):Int))]) (ow':=[]) aE aH),i+1,by omega,rfl,hok3,rfl⟩
 ·obtain rfl:i=n:=by omega
  rw[cR aa]at hok;exact absurd hok hin
theorem I0(g:Mx.Mat)(n:Nat)(c:Int)(hc:c=0/\GP g n\/c=3/\¬GP g n)(hl:g.length=n)(h1:1<=n)(h4:n<=4)(hR:Mx.Rc n g)(hin:∀r∈g,∀z∈r,inb 1000000 z=true)(CK:Fn Tryz.prog 17 [dM g] (zI 0))(CO:Fn Tryz.prog 24 [dM g] (zI n))(WD:Fn Tryz.prog 23 [dM g] (dW g))(DT:∀m,1<=m->m<=n->Fn Tryz.prog 43 [dW (ld g m)] (.nm (Mx.D m (Mx.at' g))))(SG:∀m,1<=m->m<=n->Fn Tryz.prog 106 [.nm (Mx.D m (Mx.at' g))] (zI (sgn (Mx.D m (Mx.at' g))))):
  Fn Tryz.prog 58 [dM g] (zI c):=by
 have WI:=jr (g.length:Int) 1 4;rw[ay aa,ay aa,Bool.and_self]at WI;have hd3:(!decide ((n:Int)=(g.length:Int)))=false:=by rw[ay aa];rfl
 refine bq Tryz.func58 ak rfl rfl rfl fun X0=>?_;simp only[aQ];refine cD ?_;refine iB ?_;refine Bv ?_;refine bG ?_;refine ew ?_;clear hd3 CK CO WI
 (refine aI (av (sl':=[(0,dM g),(4,zI 0)]) (ow':=[]) aE aH) ?_)
 refine aX (fun r s=>∃i,i<=n/\r=n-i/\s=⟨[(0,dM g),(4,zI (i:Nat))],[]⟩) (m:=n) ⟨0,aO _,rfl,rfl⟩ fun r s hs=>?_;obtain⟨i,hi,rfl,rfl⟩:=hs;by_cases hil:i<n
 ·obtain⟨r,hr⟩:=get_some (m:=g) (k:=i) aa;have hrl:=hR r (bh hr);have hrb:=hin r (bh hr);clear hin DT SG hc;refine cC ?_;refine ew ?_
  (refine aI (av (sl':=[(0,dM g),(4,zI (i:Nat)),(5,zI 0)]) (ow':=[]) aE aH) ?_)
  refine aX (fun rr s=>∃k,k<=n/\rr=n-k/\s=⟨[(0,dM g),(4,zI (i:Nat)),(5,zI (k:Nat))],[]⟩) (m:=n) ⟨0,aO _,rfl,rfl⟩ fun rr s hs=>?_;obtain⟨k,hk,rfl,rfl⟩:=hs;by_cases hkl:k<n
  ·obtain⟨z,hz⟩:=get_some (m:=r) (k:=k) aa;have WI:Fn Tryz.prog 26 [zI z,zI (-1000000),zI 1000000] (.sc (.bool (inb 1000000 z))):=jr z (-1000000) 1000000;rw[hrb z (bh hz)]at WI;clear hrb;refine cC ?_;refine Bu ?_;refine gU ?_;simp only[nx];exact⟨n-(k+1),_,by omega,(av (sl':=[(0,dM g),(4,zI (i:Nat)),(5,zI ((k+1:Nat):Int))]) (ow':=[]) aE aH),k+1,by omega,rfl,rfl⟩
  ·obtain rfl:k=n:=by omega
   refine dH ?_;refine jf ?_;simp only[nx];exact⟨k-(i+1),_,by omega,(av (sl':=[(0,dM g),(4,zI ((i+1:Nat):Int))]) (ow':=[]) aE aH),i+1,by omega,rfl,rfl⟩
 ·obtain rfl:i=n:=by omega
  clear hin;refine dH ?_;refine BI ?_;refine cD ?_;clear WD
  (refine aI (av (sl':=[(0,dM g),(6,dW g),(7,zI 0)]) (ow':=[]) aE aH) ?_)
  refine aX (fun r s=>∃j,j<=i/\r=i-j/\(∀a k,a<j->k<a->Mx.at' g a k=Mx.at' g k a)/\s=⟨[(0,dM g),(6,dW g),(7,zI (j:Nat))],[]⟩) (m:=i) ⟨0,aO _,rfl,fun a k h=>by omega,rfl⟩ fun r s hs=>?_;obtain⟨j,hj,rfl,hy,rfl⟩:=hs;by_cases hjl:j<i
  ·obtain⟨r,hr⟩:=get_some (m:=g) (k:=j) aa;have hrl:=hR r (bh hr);clear DT SG;refine cC ?_;refine ew ?_
   (refine aI (av (sl':=[(0,dM g),(6,dW g),(7,zI (j:Nat)),(8,zI 0)]) (ow':=[]) aE aH) ?_)
   refine aX (fun rr s=>∃k,k<=j/\rr=j-k/\(∀b,b<k->Mx.at' g j b=Mx.at' g b j)/\s=⟨[(0,dM g),(6,dW g),(7,zI (j:Nat)),(8,zI (k:Nat))],[]⟩) (m:=j) ⟨0,aO _,rfl,fun b h=>by omega,rfl⟩ fun rr s hs=>?_;obtain⟨k,hk,rfl,hyk,rfl⟩:=hs;by_cases hkl:k<j
   ·obtain⟨q,hq⟩:=get_some (m:=g) (k:=k) aa;have hql:=hR q (bh hq);obtain⟨x,hx⟩:=get_some (m:=r) (k:=k) aa;obtain⟨y,hy2⟩:=get_some (m:=q) (k:=j) aa;have ex:Mx.at' g j k=x:=by unfold Mx.at';rw[Mx.cX hr,aF,hx];rfl
    have ey:Mx.at' g k j=y:=by unfold Mx.at';rw[Mx.cX hq,aF,hy2];rfl
    by_cases hxy:x=y
    ·have hyk' : ∀ b, b < k + 1 -> Mx.at' g j b = Mx.at' g b j := fun b hb => by
      by_cases e:b=k
      ·rw[e,ex,ey,hxy]
      ·exact hyk b aa
     clear hy hyk hc ex ey;refine zs1 ?_;refine oR ?_;refine bU ?_;refine wU ?_;refine gU ?_;simp only[nx];exact⟨j-(k+1),_,by omega,(av (sl':=[(0,dM g),(6,dW g),(7,zI (j:Nat)),(8,zI ((k+1:Nat):Int))]) (ow':=[]) aE aH),k+1,by omega,rfl,hyk',rfl⟩
    ·obtain rfl : c = 3 := by
      rcases hc with⟨_,h⟩|⟨h,_⟩
      ·exact absurd (ex.symm.trans ((h.1 j k aa aa).trans ey)) hxy
      ·exact h
     clear hy hyk hc ex ey;refine zs1 ?_;refine oR ?_;refine bU ?_;refine wU ?_;refine eN ?_;exact⟨_,Sh.refl, .one (.tmp 2) _ rfl (.tmp 2 rfl)⟩
   ·obtain rfl:k=j:=by omega
    have hy':∀a b,a<k+1->b<a->Mx.at' g a b=Mx.at' g b a:=fun a b ha hb=>by
     by_cases e:a=k
     ·rw[e];exact hyk b aa
     ·exact hy a b aa hb
    clear hy hyk hc;refine zs1 ?_;refine oR ?_;refine gU ?_;simp only[nx];exact⟨i-(k+1),_,by omega,(av (sl':=[(0,dM g),(6,dW g),(7,zI ((k+1:Nat):Int))]) (ow':=[]) aE aH),k+1,by omega,rfl,hy',rfl⟩
  ·obtain rfl:j=i:=by omega
   have hsym:∀a b,a<j->b<j->Mx.at' g a b=Mx.at' g b a:=fun a b ha hb=>by
    rcases jP a b with h|h|h
    ·exact(hy b a hb h).symm
    ·rw[h]
    ·exact hy a b ha h
   have PT:=fun m (h:m<=j)=>LG g j m hl hR h aa;clear hy;refine dH ?_;refine ew ?_
   (refine aI (av (sl':=[(0,dM g),(6,dW g),(9,zI ((0:Nat)+1:Nat))]) (ow':=[]) aE aH) ?_)
   refine aX (fun r s=>∃m,m<=j/\r=j-m/\(∀q,1<=q->q<=m->0<Mx.D q (Mx.at' g))/\s=⟨[(0,dM g),(6,dW g),(9,zI ((m+1:Nat):Int))],[]⟩) (m:=j) ⟨0,aO _,rfl,fun q h1 h2=>by omega,rfl⟩ fun r s hs=>?_;obtain⟨m,hm,rfl,hp,rfl⟩:=hs;by_cases hml:m<j
   ·have DT':=DT (m+1) aa aa;have SG':=SG (m+1) aa aa;have PT':=PT (m+1) aa;have hps:=lW (Mx.D (m+1) (Mx.at' g));have hp':0<Mx.D (m+1) (Mx.at' g)->∀q,1<=q->q<=m+1->0<Mx.D q (Mx.at' g):=fun h q h1 h2=>by
     by_cases e:q=m+1
     ·rw[e];exact h
     ·exact hp q h1 aa
    have hbad:¬0<Mx.D (m+1) (Mx.at' g)->c=3:=fun h=>by
     rcases hc with⟨_,h2⟩|⟨h2,_⟩
     ·exact absurd (h2.2 (m+1) aa aa) h
     ·exact h2
    have hiol:=Fc;have hios:=fun q=>Kn q;clear hp DT SG PT hsym;generalize Mx.D (m+1) (Mx.at' g)=d at*;generalize ld g (m+1)=L at*;obtain⟨M,hM⟩:∃M,M=m+1:=⟨_,rfl⟩;rw[<-hM]at PT' hp';rw[<-hM];refine cC ?_;refine kX ?_;refine aI (eX (t:=10) (k:=10) (T:=3) (wd:=1) jN rfl rfl dL) ?_
    (refine aI (av (sl':=[(0,dM g),(6,dW g),(9,zI (M:Nat)),(10, .own 10),(11,zI 0)]) (ow':=[(10,⟨3,1,[]⟩)]) aE aH) ?_)
    refine aX (fun rr s=>∃k,k<=M/\rr=M-k/\s=⟨[(0,dM g),(6,dW g),(9,zI (M:Nat)),(10, .own 10),(11,zI (k:Nat))],[(10,⟨3,1,(io k).map zI⟩)]⟩) (m:=M) ⟨0,aO _,rfl,rfl⟩ fun rr s hs=>?_;obtain⟨k,hk,rfl,rfl⟩:=hs;by_cases hkl:k<M
    ·have hil2:=hiol k;have his:=hios k;clear hiol hios DT' SG' PT' hp' hbad hps hc;generalize io k=I at*;refine zs1 ?_;refine oR ?_;refine bU ?_;refine oU ?_;refine je ?_;simp only[nx];exact⟨M-(k+1),_,by omega,(av (sl':=[(0,dM g),(6,dW g),(9,zI (M:Nat)),(10, .own 10),(11,zI ((k+1:Nat):Int))]) (ow':=[(10,⟨3,1,I.map zI++[zI (k:Nat)]⟩)]) aE aH),k+1,by omega,rfl,by rw[his,dC];rfl⟩
    ·obtain rfl:k=M:=by omega
     clear hiol hios;generalize io k=I at*;refine zs1 ?_;refine oR ?_;refine bG ?_;refine aI (bB (k:=10) cr dG dF) ?_;by_cases hd:0<d
     ·have hs1:=(lW d).2 hd;have hp2:=hp' hd;clear hp' hbad hps hc;refine zs1 ?_;refine Ic ?_;refine gU ?_;simp only[nx];exact⟨j-(m+1),_,by omega,(av (sl':=[(0,dM g),(6,dW g),(9,zI ((k+1:Nat):Int))]) (ow':=[]) aE aH),m+1,by omega,rfl,fun q h1 h2=>hp2 q h1 aa,by rw[hM]⟩
     ·have hs1:¬sgn d>0:=fun h=>hd ((lW d).1 h);obtain rfl:=hbad hd;clear hp' hps hc hbad;refine zs1 ?_;refine Ic ?_;refine eN ?_;exact⟨_,Sh.refl, .one (.tmp 2) _ rfl (.tmp 2 rfl)⟩
   ·obtain rfl:m=j:=by omega
    obtain rfl:c=0:=by
     rcases hc with⟨h,_⟩|⟨_,h⟩
     ·exact h
     ·exact absurd ⟨hsym,hp⟩ h
    clear hp hc DT SG PT hsym;refine dH ?_;refine ew ?_;exact⟨_,Sh.refl, .one (.tmp 2) _ rfl (.tmp 2 rfl)⟩
end DW
end
end Go.Proofs.YtcgjmdpcplhanaaGreat
