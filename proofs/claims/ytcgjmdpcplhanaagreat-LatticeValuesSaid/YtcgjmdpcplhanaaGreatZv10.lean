/- Lemmas for the law: E86 -/
import Derived.Test.YtcgjmdpcplhanaaGreatZv9
namespace Go.Proofs.YtcgjmdpcplhanaaGreat
section
theorem IM{p q:Prop}(h:q)(f:Wq q->p:=by(intro hW;((first|(refine aLs rfl rfl rfl rfl ?_ ?_;(focus(apply bF;(conv=>lhs;whnf);(first|done|exact rfl|(apply bj;(first|(apply ay;omega)|(apply aA;omega)|assumption|(simp;done)))))))|refine aLw rfl rfl rfl rfl cL B5 ?_));exact hW.out)):p:=f ⟨h⟩
theorem wT{p q:Prop}(h:q)(f:Wq q->p:=by(intro hW;(refine zs7 ?_;refine oN ?_;refine IM ?_;refine vd ?_;refine ba ?_);exact hW.out)):p:=f ⟨h⟩
theorem Bx{p q:Prop}(h:q)(f:Wq q->p:=by(intro hW;(refine gn ?_;refine zs6 ?_;refine fg ?_;refine oN ?_;refine vc ?_;refine vd ?_;refine fg ?_;refine Bj ?_;refine wT ?_);exact hW.out)):p:=f ⟨h⟩
theorem wV{p q:Prop}(h:q)(f:Wq q->p:=by(intro hW;(refine gar ?_;refine kE ?_;refine fK ?_;refine dJ ?_);exact hW.out)):p:=f ⟨h⟩
theorem Bw{p q:Prop}(h:q)(f:Wq q->p:=by(intro hW;(refine ct ?_;refine zs86 ?_;refine ba ?_);exact hW.out)):p:=f ⟨h⟩
theorem IL{p q:Prop}(h:q)(f:Wq q->p:=by(intro hW;((first|(refine aLs rfl rfl rfl rfl ?_ ?_;(focus(apply bF;(conv=>lhs;whnf);(first|done|exact rfl|(apply bj;(first|(apply ay;omega)|(apply aA;omega)|assumption|(simp;done)))))))|refine aLw rfl rfl rfl rfl cL (by(apply vU;(exact rfl);(focus((apply aw;(conv=>lhs;whnf);(first|done|exact rfl))));(exact rfl);(focus((first|exact fail)));(exact rfl))) ?_));exact hW.out)):p:=f ⟨h⟩
theorem Ie{p q:Prop}(h:q)(f:Wq q->p:=by(intro hW;(refine gn ?_;refine zs6 ?_;refine fg ?_;refine oN ?_;refine vc ?_;refine vd ?_;refine fg ?_;refine IL ?_;refine wT ?_);exact hW.out)):p:=f ⟨h⟩
theorem zs101{p q:Prop}(h:q)(f:Wq q->p:=by(intro hW;((first|(apply ao 14;(focus kernel_rfl);(decide+kernel))|(apply ao 13;(focus kernel_rfl);(decide+kernel))|(apply ao 12;(focus kernel_rfl);(decide+kernel))|(apply ao 11;(focus kernel_rfl);(decide+kernel))|(apply ao 10;(focus kernel_rfl);(decide+kernel))|(apply ao 9;(focus kernel_rfl);(decide+kernel))|(apply ao 8;(focus kernel_rfl);(decide+kernel))|(apply ao 7;(focus kernel_rfl);(decide+kernel)));simp only[eZ,eE,fF,eO]);exact hW.out)):p:=f ⟨h⟩
theorem wU{p q:Prop}(h:q)(f:Wq q->p:=by(intro hW;(refine zs101 ?_;refine kW ?_;refine oQ ?_;refine kW ?_;refine oQ ?_;refine Bl ?_;refine gS ?_);exact hW.out)):p:=f ⟨h⟩
end
section
open Go.RowKit
namespace DW
def GP(g:Mx.Mat)(n:Nat):Prop:=(∀i k,i<n->k<n->Mx.at' g i k=Mx.at' g k i)/\∀m,1<=m->m<=n->0<Mx.D m (Mx.at' g)
def ld(g:Mx.Mat)(m:Nat):Mx.Mat:=(g.take m).map fun r=>r.take m
theorem E9{g:Mx.Mat}{m:Nat}(h:m<=g.length):(ld g m).length=m:=by unfold ld;rw[aY,aP];omega
theorem I5{g:Mx.Mat}{m n:Nat}(h:m<=n)(hR:Mx.Rc n g):Mx.Rc m (ld g m):=fun r hr=>by
 obtain⟨x,hx,rfl⟩:=iD.1 hr;have:=hR x (rQ hx);rw[aP];omega
theorem ld_at{g:Mx.Mat}{m i j:Nat}(h:m<=g.length)(hi:i<m)(hj:j<m):Mx.at' (ld g m) i j=Mx.at' g i j:=by
 obtain⟨r,hr⟩:=get_some (m:=g) (k:=i) aa;have h1:(ld g m)[i]?=some (r.take m):=by
  unfold ld;rw[db,fS hi,hr];rfl
 unfold Mx.at';rw[Mx.cX h1,Mx.cX hr,aF,aF,fS hj]
set_option maxRecDepth 20000
set_option maxHeartbeats 2000000
theorem Jb(z:Int):Fn Tryz.prog 132 [zI z] (.sc (.bool (!inb 1000000 z))):=by
 have WI:=zf z 1000000 aa aa;refine bq Tryz.func132 ak rfl rfl rfl fun X0=>?_;simp only[aQ];refine fR ?_;refine ct ?_;refine zs85 ?_;refine qj ?_;refine cJ ?_;exact⟨_,Sh.refl,.one (.tmp 2) _ rfl (.tmp 2 rfl)⟩
theorem I6(g:Mx.Mat)(n:Nat)(c:Int)(hc:c=0/\GP g n\/c=3/\¬GP g n)(hl:g.length=n)(h1:1<=n)(h4:n<=4)(hR:Mx.Rc n g)(hin:∀r∈g,∀z∈r,inb 1000000 z=true)(CK:Fn Tryz.prog 40 [dM g] (zI 0))(WD:Fn Tryz.prog 111 [dM g] (zI n))(WO:Fn Tryz.prog 72 [dM g] (dW g))(DT:∀m,1<=m->m<=n->Fn Tryz.prog 96 [dW (ld g m)] (.nm (Mx.D m (Mx.at' g))))(SG:∀m,1<=m->m<=n->Fn Tryz.prog 101 [.nm (Mx.D m (Mx.at' g))] (zI (sgn (Mx.D m (Mx.at' g))))):
  Fn Tryz.prog 59 [dM g] (zI c):=by
 have hd1:decide ((g.length:Int)<1)=false:=aA aa;have hd2:decide ((g.length:Int)>4)=false:=aA aa;have hd3:(!decide ((n:Int)=(g.length:Int)))=false:=by rw[ay aa];rfl
 refine bq Tryz.func59 ak rfl rfl rfl fun X0=>?_;simp only[aQ];refine cD ?_;refine iB ?_;refine Bx ?_;refine bG ?_;refine oS ?_;refine zs1 ?_;clear hd1 hd2 hd3 CK WD
 (refine aI (av (sl':=[(0,dM g),(32,dM g),(33,zI g.length),(34,zI 0)]) (ow':=[]) aE aH) ?_)
 refine aX (fun r s=>∃i,i<=n/\r=n-i/\s=⟨[(0,dM g),(32,dM g),(33,zI g.length),(34,zI (i:Nat))],[]⟩) (m:=n) ⟨0,aO _,rfl,rfl⟩ fun r s hs=>?_;obtain⟨i,hi,rfl,rfl⟩:=hs;by_cases hil:i<n
 ·obtain⟨r,hr⟩:=get_some (m:=g) (k:=i) aa;have hrl:=hR r (bh hr);have AN:=uW 132 (fun z=> !inb 1000000 z) r aa Jb;have ha:r.any (fun z=> !inb 1000000 z)=false:=by
   rw[oh];intro z hz h;rw[hin r (bh hr) z hz]at h;cases h
  rw[ha]at AN;clear ha;refine kZ ?_;refine wV ?_;refine zs1 ?_;refine Bw ?_;refine bG ?_;refine na ?_;refine zs1 ?_;simp only[nx];exact⟨n-(i+1),_,by omega,(av (sl':=[(0,dM g),(32,dM g),(33,zI g.length),(34,zI ((i+1:Nat):Int))]) (ow':=[]) aE aH),i+1,by omega,rfl,rfl⟩
 ·obtain rfl:i=n:=by omega
  clear hin;refine oP ?_;refine jJ ?_;refine oS ?_;refine zs1 ?_;clear WO
  (refine aI (av (sl':=[(0,dM g),(6,dW g),(44,zI g.length),(45,zI 0)]) (ow':=[]) aE aH) ?_)
  refine aX (fun r s=>∃j,j<=i/\r=i-j/\(∀a k,a<j->k<i->Mx.at' g a k=Mx.at' g k a)/\(∀m,1<=m->m<=j->0<Mx.D m (Mx.at' g))/\s=⟨[(0,dM g),(6,dW g),(44,zI g.length),(45,zI (j:Nat))],[]⟩) (m:=i) ⟨0,aO _,rfl,fun a k h=>by omega,fun m h1 h2=>by omega,rfl⟩ fun r s hs=>?_;obtain⟨j,hj,rfl,hy,hp,rfl⟩:=hs;by_cases hjl:j<i
  ·have hjg:j<g.length:=by omega
   obtain⟨r,hr⟩:=get_some hjg;have hrl:=hR r (bh hr);refine kZ ?_;refine jd ?_;refine oS ?_;refine zs1 ?_
   (refine aI (av (sl':=[(0,dM g),(6,dW g),(7,zI (j:Nat)),(44,zI g.length),(45,zI (j:Nat)),(49,zI g.length),(50,zI 0)]) (ow':=[]) aE aH) ?_)
   refine aX (fun rr s=>∃k,k<=i/\rr=i-k/\(∀b,b<k->Mx.at' g j b=Mx.at' g b j)/\s=⟨[(0,dM g),(6,dW g),(7,zI (j:Nat)),(44,zI g.length),(45,zI (j:Nat)),(49,zI g.length),(50,zI (k:Nat))],[]⟩) (m:=i) ⟨0,aO _,rfl,fun b h=>by omega,rfl⟩ fun rr s hs=>?_;obtain⟨k,hk,rfl,hyk,rfl⟩:=hs;by_cases hkl:k<i
   ·obtain⟨q,hq⟩:=get_some (m:=g) (k:=k) aa;have hql:=hR q (bh hq);obtain⟨x,hx⟩:=get_some (m:=r) (k:=k) aa;obtain⟨y,hy2⟩:=get_some (m:=q) (k:=j) aa;have ex:Mx.at' g j k=x:=by unfold Mx.at';rw[Mx.cX hr,aF,hx];rfl
    have ey:Mx.at' g k j=y:=by unfold Mx.at';rw[Mx.cX hq,aF,hy2];rfl
    by_cases hxy:x=y
    ·have hyk' : ∀ b, b < k + 1 -> Mx.at' g j b = Mx.at' g b j := fun b hb => by
      by_cases e:b=k
      ·rw[e,ex,ey,hxy]
      ·exact hyk b aa
     clear hy hp hyk hc DT SG ex ey;refine kZ ?_;refine jd ?_;refine wU ?_;refine bG ?_;refine na ?_;refine zs1 ?_;simp only[nx];exact⟨i-(k+1),_,by omega,(av (sl':=[(0,dM g),(6,dW g),(7,zI (j:Nat)),(44,zI g.length),(45,zI (j:Nat)),(49,zI g.length),(50,zI ((k+1:Nat):Int))]) (ow':=[]) aE aH),k+1,by omega,rfl,hyk',rfl⟩
    ·obtain rfl : c = 3 := by
      rcases hc with⟨_,h⟩|⟨h,_⟩
      ·exact absurd (ex.symm.trans ((h.1 j k aa aa).trans ey)) hxy
      ·exact h
     clear hy hp hyk hc DT SG ex ey;refine kZ ?_;refine jd ?_;refine wU ?_;refine eN ?_;exact⟨_,Sh.refl, .one (.tmp 2) _ rfl (.tmp 2 rfl)⟩
   ·obtain rfl:k=i:=by omega
    have hy':∀a b,a<j+1->b<k->Mx.at' g a b=Mx.at' g b a:=fun a b ha hb=>by
     by_cases e:a=j
     ·rw[e];exact hyk b hb
     ·exact hy a b aa hb
    have DT':=DT (j+1) aa aa;have SG':=SG (j+1) aa aa;have hps:=lW (Mx.D (j+1) (Mx.at' g));have hp':0<Mx.D (j+1) (Mx.at' g)->∀m,1<=m->m<=j+1->0<Mx.D m (Mx.at' g):=fun h m h1 h2=>by
     by_cases e:m=j+1
     ·rw[e];exact h
     ·exact hp m h1 aa
    have hbad:¬0<Mx.D (j+1) (Mx.at' g)->c=3:=fun h=>by
     rcases hc with⟨_,h2⟩|⟨h2,_⟩
     ·exact absurd (h2.2 (j+1) aa aa) h
     ·exact h2
    clear hy hp hyk DT SG hr hrl;generalize Mx.D (j+1) (Mx.at' g)=d at*;have hjc:((j:Int)+1).toNat=j+1:=rfl;have hgd:(g.map dZ).take (j+1)=(g.take (j+1)).map dZ:=List.map_take.symm;have hml:(g.map dZ).length=g.length:=aY ..;refine oP ?_;refine tL ?_;refine zs1 ?_;refine aI (eX (t:=9) (k:=9) (T:=147) (wd:=1) jN rfl rfl dL) ?_;refine zs1 ?_;refine cf ?_;refine vg ?_;refine zs14 ?_;refine zs4 ?_;refine zs83 ?_;refine dv ?_;rw[hgd];have hgl:(g.take (j+1)).length=j+1:=by rw[aP];omega
    have hgt:∀q,q<j+1->(g.take (j+1))[q]?=g[q]?:=fun q h=>fS h;obtain⟨V,hV⟩:∃V,V=g.take (j+1):=⟨_,rfl⟩;have hLD:ld g (j+1)=V.map fun r=>r.take (j+1):=by rw[hV];rfl
    rw[hLD]at DT';rw[<-hV]at hgl hgt;rw[<-hV];have hVr:∀r∈V,r.length=k:=fun r hr=>by rw[hV]at hr;exact hR r (rQ hr)
    clear hgd hV hLD hml
    (refine aI (av (sl':=[(0,dM g),(6,dW g),(7,zI (j:Nat)),(9, .own 9),(44,zI g.length),(45,zI (j:Nat)),(72,dW V),(73,zI (V.length:Nat)),(74,zI 0)]) (ow':=[(9,⟨147,1,[]⟩)]) aE aH) ?_)
    refine aX (fun rr s=>∃q,q<=V.length/\rr=V.length-q/\s=⟨[(0,dM g),(6,dW g),(7,zI (j:Nat)),(9, .own 9),(44,zI g.length),(45,zI (j:Nat)),(72,dW V),(73,zI (V.length:Nat)),(74,zI (q:Nat))],[(9,⟨147,1,((V.take q).map fun r=>r.take (j+1)).map dZ⟩)]⟩) (m:=V.length) ⟨0,aO _,rfl,rfl⟩ fun rr s hs=>?_;obtain⟨q,hq,rfl,rfl⟩:=hs;by_cases hql:q<V.length
    ·obtain⟨r,hr⟩:=get_some hql;have hrl:=hVr r (bh hr);have hrd:(r.map D.nm).take (j+1)=(r.take (j+1)).map .nm:=List.map_take.symm;have hml:(r.map D.nm).length=r.length:=aY ..;have hfl:((V.take q).map fun r=>r.take (j+1)).length<=1000000:=by rw[aY,aP];omega
     have hsn:((V.take (q+1)).map fun r=>r.take (j+1)).map dZ=((V.take q).map fun r=>r.take (j+1)).map dZ++[.ls 2 ((r.map D.nm).take (j+1))]:=by
      rw[cB hr,dC,dC,hrd];rfl
     obtain⟨F,hF⟩:∃F,F=(V.take q).map fun r=>r.take (j+1):=⟨_,rfl⟩;rw[<-hF]at hsn hfl;rw[<-hF];clear hF DT' SG' hp' hbad hc hy' hrd hVr;refine kZ ?_;refine wV ?_;refine zs1 ?_;refine cf ?_;refine zs3 ?_;refine vg ?_;refine zs14 ?_;refine qk ?_;refine sM ?_;refine cJ ?_;refine na ?_;refine zs1 ?_;simp only[nx];exact⟨V.length-(q+1),_,by omega,(av (sl':=[(0,dM g),(6,dW g),(7,zI (j:Nat)),(9, .own 9),(44,zI g.length),(45,zI (j:Nat)),(72,dW V),(73,zI (V.length:Nat)),(74,zI ((q+1:Nat):Int))]) (ow':=[(9,⟨147,1,F.map dZ++[.ls 2 ((r.map D.nm).take (j+1))]⟩)]) aE aH),q+1,by omega,rfl,by rw[hsn]⟩
    ·obtain rfl:q=V.length:=by omega
     rw[fj];refine oP ?_;refine aI (bB (k:=9) cr dG dF) ?_;by_cases hd:0<d
     ·have hs1:=(lW d).2 hd;have hp2:=hp' hd;clear hp' hbad hps;refine jK ?_;refine gR ?_;refine gR ?_;refine zs6 ?_;refine ba ?_;refine bG ?_;refine na ?_;refine zs1 ?_;simp only[nx];exact⟨k-(j+1),_,by omega,(av (sl':=[(0,dM g),(6,dW g),(44,zI g.length),(45,zI ((j+1:Nat):Int))]) (ow':=[]) aE aH),j+1,by omega,rfl,hy',hp2,rfl⟩
     ·have hs1:¬0<sgn d:=fun h=>hd ((lW d).1 h);obtain rfl:=hbad hd;clear hp' hps hy' hc;refine jK ?_;refine gR ?_;refine gR ?_;refine zs6 ?_;refine ba ?_;refine eN ?_;exact⟨_,Sh.refl, .one (.tmp 2) _ rfl (.tmp 2 rfl)⟩
  ·obtain rfl:j=i:=by omega
   obtain rfl:c=0:=by
    rcases hc with⟨h,_⟩|⟨_,h⟩
    ·exact h
    ·exact absurd ⟨fun a b ha hb=>hy a b ha hb,hp⟩ h
   clear hy hp hc DT SG;refine oP ?_;refine ew ?_;exact⟨_,Sh.refl, .one (.tmp 2) _ rfl (.tmp 2 rfl)⟩
theorem lcg_e(g:Mx.Mat)(C:Int)(hC:C≠0)(CK:Fn Tryz.prog 40 [dM g] (zI C)):Fn Tryz.prog 59 [dM g] (zI C):=by
 refine bq Tryz.func59 ak rfl rfl rfl fun X0=>?_;simp only[aQ];refine cD ?_;refine jJ ?_;refine jg ?_;refine bU ?_;refine jd ?_;exact⟨_,Sh.refl,.one (.tmp 2) _ rfl (.tmp 2 rfl)⟩
theorem lcg_s(g:Mx.Mat)(hg:¬(1<=g.length/\g.length<=4/\wid g=g.length))(CK:Fn Tryz.prog 40 [dM g] (zI 0))(WD:Fn Tryz.prog 111 [dM g] (zI (wid g))):Fn Tryz.prog 59 [dM g] (zI 9):=by
 by_cases h1:(g.length:Int)<1
 ·have hd1:decide ((g.length:Int)<1)=true:=ay h1;refine bq Tryz.func59 ak rfl rfl rfl fun X0=>?_;simp only[aQ];refine cD ?_;refine iB ?_;refine Ie ?_;refine eN ?_;exact⟨_,Sh.refl,.one (.tmp 2) _ rfl (.tmp 2 rfl)⟩
 ·have hd1:decide ((g.length:Int)<1)=false:=aA h1;by_cases h2:(g.length:Int)>4
  ·have hd2:decide ((g.length:Int)>4)=true:=ay h2;refine bq Tryz.func59 ak rfl rfl rfl fun X0=>?_;simp only[aQ];refine cD ?_;refine iB ?_;refine Ie ?_;refine eN ?_;exact⟨_,Sh.refl,.one (.tmp 2) _ rfl (.tmp 2 rfl)⟩
  ·have hd2:decide ((g.length:Int)>4)=false:=aA h2;have hd3:(!decide ((wid g:Int)=(g.length:Int)))=true:=by rw[aA aa];rfl
   generalize wid g=W at*;refine bq Tryz.func59 ak rfl rfl rfl fun X0=>?_;simp only[aQ];refine cD ?_;refine iB ?_;refine Bx ?_;refine eN ?_;exact⟨_,Sh.refl,.one (.tmp 2) _ rfl (.tmp 2 rfl)⟩
theorem lcg_r(g:Mx.Mat)(n:Nat)(hl:g.length=n)(h1:1<=n)(h4:n<=4)(hR:Mx.Rc n g)(hin:¬∀r∈g,∀z∈r,inb 1000000 z=true)(CK:Fn Tryz.prog 40 [dM g] (zI 0))(WD:Fn Tryz.prog 111 [dM g] (zI n)):Fn Tryz.prog 59 [dM g] (zI 2):=by
 have hd1:decide ((g.length:Int)<1)=false:=aA aa;have hd2:decide ((g.length:Int)>4)=false:=aA aa;have hd3:(!decide ((n:Int)=(g.length:Int)))=false:=by rw[ay aa];rfl
 refine bq Tryz.func59 ak rfl rfl rfl fun X0=>?_;simp only[aQ];refine cD ?_;refine iB ?_;refine Bx ?_;refine bG ?_;refine oS ?_;refine zs1 ?_;clear hd1 hd2 hd3 CK WD
 (refine aI (av (sl':=[(0,dM g),(32,dM g),(33,zI g.length),(34,zI 0)]) (ow':=[]) aE aH) ?_)
 refine aX (fun r s=>∃i,i<=n/\r=n-i/\(∀r∈g.take i,∀z∈r,inb 1000000 z=true)/\s=⟨[(0,dM g),(32,dM g),(33,zI g.length),(34,zI (i:Nat))],[]⟩) (m:=n) ⟨0,aO _,rfl,fun r h=>absurd h aU,rfl⟩ fun r s hs=>?_;obtain⟨i,hi,rfl,hok,rfl⟩:=hs;by_cases hil:i<n
 ·obtain⟨r,hr⟩:=get_some (m:=g) (k:=i) aa;have hrl:=hR r (bh hr);have AN:=uW 132 (fun z=>!inb 1000000 z) r aa Jb;cases ha:r.any (fun z=>!inb 1000000 z)
  ·rw[ha]at AN;have hok2:∀q∈g.take (i+1),∀z∈q,inb 1000000 z=true:=fun q hq z hz=>by
    rw[cB hr,de]at hq;rcases hq with hq|hq
    ·exact hok q hq z hz
    ·rw[bV.1 hq]at hz;have:=oh.1 ha z hz;simpa using this
   clear ha hok hin;refine kZ ?_;refine wV ?_;refine zs1 ?_;refine Bw ?_;refine bG ?_;refine na ?_;refine zs1 ?_;simp only[nx];exact⟨n-(i+1),_,by omega,(av (sl':=[(0,dM g),(32,dM g),(33,zI g.length),(34,zI ((i+1:Nat):Int))]) (ow':=[]) aE aH),i+1,by omega,rfl,hok2,rfl⟩
  ·rw[ha]at AN;clear ha hok hin;refine kZ ?_;refine wV ?_;refine zs1 ?_;refine Bw ?_;refine eN ?_;exact⟨_,Sh.refl,.one (.tmp 2) _ rfl (.tmp 2 rfl)⟩
 ·obtain rfl:i=n:=by omega
  rw[cR aa]at hok;exact absurd hok hin
end DW
end
end Go.Proofs.YtcgjmdpcplhanaaGreat
