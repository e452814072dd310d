/- Lemmas for the law: E12 E13 Q1 Q2 -/
import Derived.Test.YtcgjmdpcplhanaaGreatZd7
namespace Go.Proofs.YtcgjmdpcplhanaaGreat
section
theorem oh{p q:Prop}(h:q)(f:Wq q->p:=by(intro hW;(refine bp ?_;refine ov ?_);exact hW.out)):p:=f ⟨h⟩
theorem Jw{p q:Prop}(h:q)(f:Wq q->p:=by(intro hW;(refine gar ?_;refine zs3 ?_;refine yg ?_;refine aX ?_);exact hW.out)):p:=f ⟨h⟩
theorem yd{p q:Prop}(h:q)(f:Wq q->p:=by(intro hW;((first|(refine aLs rfl rfl rfl rfl ?_ ?_;(focus(apply bh;(conv=>lhs;whnf);(first|done|exact rfl|(apply bg;(first|(apply au;omega)|(apply aw;omega)|assumption|(simp;done)))))))|refine aLw rfl rfl rfl rfl cE J2 ?_));exact hW.out)):p:=f ⟨h⟩
theorem rZ{p q:Prop}(h:q)(f:Wq q->p:=by(intro hW;(refine aL1 rfl rfl rfl J2 ?_);exact hW.out)):p:=f ⟨h⟩
theorem I1{p q:Prop}(h:q)(f:Wq q->p:=by(intro hW;((first|(refine aLs rfl rfl rfl rfl ?_ ?_;(focus(apply bh;(conv=>lhs;whnf);(first|done|exact rfl|(apply bg;(first|(apply au;omega)|(apply aw;omega)|assumption|(simp;done)))))))|refine aLw rfl rfl rfl rfl cE vb ?_));exact hW.out)):p:=f ⟨h⟩
theorem QJ{p q:Prop}(h:q)(f:Wq q->p:=by(intro hW;(refine cn ?_;refine rZ ?_;refine fM ?_;refine I1 ?_;refine yd ?_;refine kT ?_);exact hW.out)):p:=f ⟨h⟩
theorem wG{p q:Prop}(h:q)(f:Wq q->p:=by(intro hW;(refine kU ?_;refine zs4 ?_;refine kU ?_;refine iq ?_);exact hW.out)):p:=f ⟨h⟩
theorem Jv{p q:Prop}(h:q)(f:Wq q->p:=by(intro hW;(refine cO ?_;refine wG ?_;refine kX ?_;refine zs6 ?_;refine cK ?_);exact hW.out)):p:=f ⟨h⟩
theorem qT{p q:Prop}(h:q)(f:Wq q->p:=by(intro hW;(refine lL ?_;refine kU ?_;refine zs5 ?_;refine mJ ?_;refine aX ?_);exact hW.out)):p:=f ⟨h⟩
theorem ot{p q:Prop}(h:q)(f:Wq q->p:=by(intro hW;(refine zs2 ?_;refine qT ?_;refine bw ?_);exact hW.out)):p:=f ⟨h⟩
theorem zs100{p q:Prop}(h:q)(f:Wq q->p:=by(intro hW;((refine pe rfl rfl rfl rfl cD cD bf aj vc ai ai zb60 cu va ?_));exact hW.out)):p:=f ⟨h⟩
theorem QI{p q:Prop}(h:q)(f:Wq q->p:=by(intro hW;(refine cO ?_;refine ph ?_;refine zs100 ?_;refine cK ?_);exact hW.out)):p:=f ⟨h⟩
theorem zb39{p:Prop}(h:p:=by(apply BN;(exact rfl);(focus((apply aE;(conv=>lhs;whnf);(first|done|exact rfl))));(exact rfl);(focus((first|exact fail)));(exact rfl))):p:=h
theorem Dt{p q:Prop}(h:q)(f:Wq q->p:=by(intro hW;((first|refine eJ rfl rfl rfl aj zb2 aj aj ?_|((try refine aY ?_);refine aL1 rfl rfl rfl zb2 ?_)));exact hW.out)):p:=f ⟨h⟩
theorem zs96{p q:Prop}(h:q)(f:Wq q->p:=by(intro hW;((first|refine eJ rfl rfl rfl aj A7 aj aj ?_|((try refine aY ?_);refine aL1 rfl rfl rfl A7 ?_)));exact hW.out)):p:=f ⟨h⟩
theorem QL{p q:Prop}(h:q)(f:Wq q->p:=by(intro hW;(refine I9 ?_;refine yQ ?_;refine Dt ?_;refine eV ?_;refine zs96 ?_;refine zs57 ?_;refine Dt ?_;refine AV ?_;refine jg ?_);exact hW.out)):p:=f ⟨h⟩
theorem QK{p q:Prop}(h:q)(f:Wq q->p:=by(intro hW;(refine cO ?_;refine wG ?_;refine rZ ?_;refine aX ?_);exact hW.out)):p:=f ⟨h⟩
theorem Jx{p q:Prop}(h:q)(f:Wq q->p:=by(intro hW;(refine jv ?_;refine zs7 ?_;refine fM ?_;refine I1 ?_;refine pg ?_;refine kT ?_);exact hW.out)):p:=f ⟨h⟩
end
section
open Go.RowKit
namespace DW
theorem KY{m:List (List Int)}(h:∀(j:Nat) (r:List Int),j<m.length->m[j]?=some r->r.length=wid m)(h2:64<m.length\/64<wid m):chk m=8:=by
 unfold chk;rw[ak (xF h),ak h2]
theorem chk2{m:List (List Int)}(h:∀(j:Nat) (r:List Int),j<m.length->m[j]?=some r->r.length=wid m)(h2:¬(64<m.length\/64<wid m)){r:List Int}{z:Int}(hr:r∈m)(hz:z∈r)(hb:inb 1000000000000000 z=false):chk m=2:=by
 unfold chk;rw[ak (xF h),ah h2,ak];rw[gT];refine⟨r,hr,?_⟩;rw[gT];exact⟨z,hz,by unfold big;rw[hb];rfl⟩
theorem KZ{m:List (List Int)}(h:∀(j:Nat) (r:List Int),j<m.length->m[j]?=some r->r.length=wid m)(h2:¬(64<m.length\/64<wid m))(h3:∀r∈m,∀z∈r,inb 1000000000000000 z=true):chk m=0:=by
 unfold chk;rw[ak (xF h),ah h2,ah];intro h4;rw[gT]at h4;obtain⟨r,hr,h5⟩:=h4;rw[gT]at h5;obtain⟨z,hz,h6⟩:=h5;unfold big at h6;rw[h3 r hr z hz]at h6;cases h6
set_option maxRecDepth 20000
set_option maxHeartbeats 1000000
theorem T8(m:List (List Int))(hm:m.length<=1000000000):Fn Tryz.prog 17 [dM m] (zI (chk m)):=by
 refine ba Tryz.func17 ai rfl rfl rfl fun X0=>?_;simp only[aO];have hc0:(0:Int)=((0:Nat):Int):=rfl;have COLS:=wi m;refine iZ ?_;refine ov ?_
 (refine ay (aq (sl':=[(0,dM m),(3,zI 0)]) (ow':=[]) az aD) ?_)
 refine bc (fun r s=>∃k,k<=m.length/\r=m.length-k/\(∀(j:Nat) (r:List Int),j<k->m[j]?=some r->r.length=wid m)/\s=⟨[(0,dM m),(3,zI (k:Nat))],[]⟩) (m:=m.length) ⟨0,aQ _,rfl,fun j r h=>absurd h (oM j),rfl⟩ fun r s hs=>?_;obtain⟨k,hk,rfl,hall,rfl⟩:=hs;by_cases hkl:k<m.length
 ·obtain⟨l0,hl0,hw⟩:=A8 (m:=m) aa;obtain⟨l,hl⟩:=get_some hkl;by_cases hlw:l.length=wid m
  ·have hn:l.length=l0.length:=by omega
   refine dn ?_;refine QL ?_;refine jx ?_;simp only[nx,inB];exact⟨m.length-(k+1),_,by omega,(aq (sl':=[(0,dM m),(3,zI ((k+1:Nat):Int))]) (ow':=[]) az aD),k+1,by omega,rfl,fun j r hj hr=>by
    by_cases h:j=k
    ·subst h;rw[hl]at hr;cases hr;exact hlw
    ·exact hall j r aa hr,rfl⟩
  ·have hn:l.length≠l0.length:=by omega
   have EC:=chk9 (bj hl) hlw;refine dn ?_;refine QL ?_;refine lK ?_;rw[EC];exact⟨_,Sh.refl,.one (.tmp 2) _ rfl (.tmp 2 rfl)⟩
 ·obtain rfl:k=m.length:=by omega
  obtain⟨W,hW⟩:∃W,W=wid m:=⟨_,rfl⟩;rw[<-hW]at COLS;by_cases h64:64<m.length
  ·have EC:=KY hall (.inl h64);have hd:decide ((m.length:Int)>64)=true:=au aa;refine eR ?_;refine Jx ?_;refine lK ?_;rw[EC];exact⟨_,Sh.refl,.one (.tmp 2) _ rfl (.tmp 2 rfl)⟩
  ·have hd:decide ((m.length:Int)>64)=false:=aw aa;by_cases hw64:64<W
   ·have EC:=KY hall (.inr aa);refine eR ?_;refine Jx ?_;refine lK ?_;rw[EC];exact⟨_,Sh.refl,.one (.tmp 2) _ rfl (.tmp 2 rfl)⟩
   ·have hno:¬(64<m.length\/64<wid m):=by omega
    refine eR ?_;refine Jx ?_;refine oh ?_
    (refine ay (aq (sl':=[(0,dM m),(4,zI 0)]) (ow':=[]) az aD) ?_)
    refine bc (fun r s=>∃k,k<=m.length/\r=m.length-k/\(∀l∈m.take k,∀z∈l,inb 1000000000000000 z=true)/\s=⟨[(0,dM m),(4,zI (k:Nat))],[]⟩) (m:=m.length) ⟨0,aQ _,rfl,fun l h=>absurd h aK,rfl⟩ fun r s hs=>?_;obtain⟨k,hk,rfl,hin,rfl⟩:=hs;by_cases hkl:k<m.length
    ·obtain⟨l,hl⟩:=get_some hkl;have hlw:l.length=wid m:=hall k l hkl hl;refine dn ?_;refine ov ?_
     (refine ay (aq (sl':=[(0,dM m),(4,zI (k:Nat)),(5,zI 0)]) (ow':=[]) az aD) ?_)
     refine bc (fun r s=>∃j,j<=l.length/\r=l.length-j/\(∀z∈l.take j,inb 1000000000000000 z=true)/\s=⟨[(0,dM m),(4,zI (k:Nat)),(5,zI (j:Nat))],[]⟩) (m:=l.length) ⟨0,aQ _,rfl,fun z h=>absurd h aK,rfl⟩ fun r s hs=>?_;obtain⟨j,hj,rfl,hin2,rfl⟩:=hs;by_cases hjl:j<l.length
     ·obtain⟨z,hz⟩:=get_some hjl;have FITS:=F4 z;by_cases hf:inb 1000000000000000 z=true
      ·rw[hf]at FITS;refine ot ?_;refine QK ?_;refine jx ?_;simp only[nx,inB];exact⟨l.length-(j+1),_,by omega,(aq (sl':=[(0,dM m),(4,zI (k:Nat)),(5,zI ((j+1:Nat):Int))]) (ow':=[]) az aD),j+1,by omega,rfl,fun y hy=>by
        rw[bq hz]at hy;rcases eY.1 hy with h|h
        ·exact hin2 y h
        ·rw[bU.1 h];exact hf,rfl⟩
      ·have hf':inb 1000000000000000 z=false:=by simpa using hf
       rw[hf']at FITS;have EC:=chk2 hall hno (bj hl) (bj hz) hf';refine ot ?_;refine QK ?_;refine lK ?_;rw[EC];exact⟨_,Sh.refl,.one (.tmp 2) _ rfl (.tmp 2 rfl)⟩
     ·obtain rfl:j=l.length:=by omega
      rw[et]at hin2;refine zs2 ?_;refine qT ?_;refine jx ?_;simp only[nx,inB];exact⟨m.length-(k+1),_,by omega,(aq (sl':=[(0,dM m),(4,zI ((k+1:Nat):Int))]) (ow':=[]) az aD),k+1,by omega,rfl,fun y hy=>by
       rw[bq hl]at hy;rcases eY.1 hy with h|h
       ·exact hin y h
       ·rw[bU.1 h];exact hin2,rfl⟩
    ·obtain rfl:k=m.length:=by omega
     rw[et]at hin;have EC:=KZ hall hno hin;refine eR ?_;refine ov ?_;rw[EC];exact⟨_,Sh.refl,.one (.tmp 2) _ rfl (.tmp 2 rfl)⟩
end DW
end
section
open Go.RowKit
namespace DW
def nrw(m:List (List Int)):D:=if m.all (fun l=>l.all (inb 1000000000000000))=true then .tp [dM m,.sc (.bool true)]else .tp [dM [],.sc (.bool false)]
theorem MG{m:List (List Int)}{l:List Int}{z:Int}(hl:l∈m)(hz:z∈l)(h:inb 1000000000000000 z=false):nrw m= .tp [dM [],.sc (.bool false)]:=by
 unfold nrw;rw[ah];intro h2;have:=du.1 (du.1 h2 l hl) z hz;rw[h]at this;cases this
theorem ln{L z:Int}:inb L z=true↔-L<=z/\z<=L:=by unfold inb;simp
theorem MW(l:List Int)(x:Int):(l++[x]).map zI=l.map zI++[zI x]:=by rw[db];rfl
set_option maxRecDepth 20000
set_option maxHeartbeats 1000000
theorem Eu(m:List (List Int))(hm:m.length<=1000000)(hm2:∀l∈m,l.length<=1000000)(hm3:∀l∈m,∀z∈l,-9223372036854775808<=z/\z<=9223372036854775807):Fn Tryz.prog 23 [dM m] (dW m):=by
 refine ba Tryz.func23 ai rfl rfl rfl fun X0=>?_;simp only[aO];refine kd ?_;refine eQ ?_;refine ay (da (t:=3) (k:=1) (T:=113) (wd:=1) fq rfl rfl cu) ?_;refine ay (tE (sl':=[(0,.ls 1 (m.map dI)),(3,.own 1),(4,zI 0)]) az rfl) ?_;refine bc (fun r s=>∃k:Nat,k<=m.length/\r=m.length-k/\s=⟨[(0,.ls 1 (m.map dI)),(3,.own 1),(4,zI k)],[(1,⟨113,1,(m.take k).map dZ⟩)]⟩) (m:=m.length) ⟨0,aQ _,rfl,rfl⟩ fun r s hs=>?_;obtain⟨k,hk,rfl,rfl⟩:=hs;refine wD ?_;by_cases hkm:k<m.length
 ·obtain⟨l,hl⟩:∃l,m[k]?=some l:=⟨_,aV hkm⟩;have hl2:=hm2 l (bj hl);refine qM nF (au cX) ?_;refine zs2 ?_;refine eQ ?_;refine ay (da (t:=5) (k:=2) (T:=62) (wd:=2) fq rfl rfl cu) ?_;refine ay (tE (sl':=[(0,.ls 1 (m.map dI)),(3,.own 1),(4,zI k),(5,.own 2),(6,zI 0)]) az rfl) ?_;refine bc (fun r s=>∃j:Nat,j<=l.length/\r=l.length-j/\s=⟨[(0,.ls 1 (m.map dI)),(3,.own 1),(4,zI k),(5,.own 2),(6,zI j)],[(2,⟨62,2,(l.take j).map .nm⟩),(1,⟨113,1,(m.take k).map dZ⟩)]⟩) (m:=l.length) ⟨0,aQ _,rfl,rfl⟩ fun r s hs=>?_;obtain⟨j,hj,rfl,rfl⟩:=hs;refine zs2 ?_;refine qT ?_;refine zs2 ?_;by_cases hjl:j<l.length
  ·obtain⟨x,hx⟩:∃x,l[j]?=some x:=⟨_,aV hjl⟩;have HO:=BD x (hm3 l (bj hl) x (bj hx));refine qM nF (au cX) ?_;refine zs2 ?_;refine lL ?_;refine wG ?_;refine ph ?_;refine zs16 ?_;refine cT ?_;refine gy ?_;simp only[nx];refine⟨l.length-(j+1),_,by omega,tE (sl':=[(0,.ls 1 (m.map dI)),(3,.own 1),(4,zI k),(5,.own 2),(6,zI (j+1:Nat))]) az rfl,j+1,by omega,rfl,?_⟩;rw[bq hx,db];rfl
  ·refine rX nF (aw cX) ?_;obtain rfl:j=l.length:=by omega
   refine zs2 ?_;refine ay (aA (k:=2) bf bA bz) ?_;refine cO ?_;refine ph ?_;refine zs16 ?_;refine cT ?_;refine gy ?_;simp only[nx];refine⟨m.length-(k+1),_,by omega,tE (sl':=[(0,.ls 1 (m.map dI)),(3,.own 1),(4,zI (k+1:Nat))]) az rfl,k+1,by omega,rfl,?_⟩;rw[bq hl,db,et];rfl
 ·refine rX nF (aw cX) ?_;obtain rfl:k=m.length:=by omega
  refine zs2 ?_;refine ay (aA (k:=1) bf bA bz) ?_;refine kb ?_;rw[et];exact⟨_,Sh.refl,.one (.tmp 2) _ rfl (.tmp 2 rfl)⟩
theorem Fk(m:List (List Int))(hm:m.length<=1000000)(hm2:∀l∈m,l.length<=1000000)(hm3:∀l∈m,∀z∈l,(hd z.natAbs).length<=199999999):Fn Tryz.prog 77 [dW m] (nrw m):=by
 refine ba Tryz.func77 ai rfl rfl rfl fun X0=>?_;simp only[aO];refine zs2 ?_;refine Jw ?_;refine zs2 ?_;refine eQ ?_;refine ay (da (t:=4) (k:=4) (T:=40) (wd:=1) fq rfl rfl cu) ?_
 (refine ay (aq (sl':=[(0,dW m),(4,.own 4),(5,zI 0)]) (ow':=[(4,⟨40,1,[]⟩)]) az aD) ?_)
 refine bc (fun r s=>∃k,k<=m.length/\r=m.length-k/\(m.take k).all (fun l=>l.all (inb 1000000000000000))=true/\s=⟨[(0,dW m),(4,.own 4),(5,zI (k:Nat))],[(4,⟨40,1,(m.take k).map dI⟩)]⟩) (m:=m.length) ⟨0,aQ _,rfl,rfl,rfl⟩ fun r s hs=>?_;obtain⟨k,hk,rfl,hall,rfl⟩:=hs;by_cases hkl:k<m.length
 ·obtain⟨l,hl⟩:=get_some hkl;have hll:=hm2 l (bj hl);refine dn ?_;refine eQ ?_;refine ay (da (t:=6) (k:=6) (T:=3) (wd:=1) fq rfl rfl cu) ?_
  (refine ay (aq (sl':=[(0,dW m),(4,.own 4),(5,zI (k:Nat)),(6,.own 6),(7,zI 0)]) (ow':=[(6,⟨3,1,[]⟩),(4,⟨40,1,(m.take k).map dI⟩)]) az aD) ?_)
  refine bc (fun r s=>∃j,j<=l.length/\r=l.length-j/\(l.take j).all (inb 1000000000000000)=true/\s=⟨[(0,dW m),(4,.own 4),(5,zI (k:Nat)),(6,.own 6),(7,zI (j:Nat))],[(6,⟨3,1,(l.take j).map zI⟩),(4,⟨40,1,(m.take k).map dI⟩)]⟩) (m:=l.length) ⟨0,aQ _,rfl,rfl,rfl⟩ fun r s hs=>?_;obtain⟨j,hj,rfl,hall2,rfl⟩:=hs;by_cases hjl:j<l.length
  ·obtain⟨z,hz⟩:=get_some hjl;have SM:=SQ z (hm3 l (bj hl) z (bj hz));by_cases hr: -9223372036854775808<=z/\z<=9223372036854775807
   ·rw[show smD z= .tp [zI z,.sc (.bool true)]from ak hr]at SM;have FITS:=F4 z;by_cases hf:inb 1000000000000000 z=true
    ·rw[hf]at FITS;refine ot ?_;refine Jv ?_;refine zs2 ?_;refine QJ ?_;refine bp ?_;refine QI ?_;refine eU ?_;simp only[nx,inB];exact⟨l.length-(j+1),_,by omega,(aq (sl':=[(0,dW m),(4,.own 4),(5,zI (k:Nat)),(6,.own 6),(7,zI ((j+1:Nat):Int))]) (ow':=[(6,⟨3,1,(l.take j).map zI++[zI z]⟩),(4,⟨40,1,(m.take k).map dI⟩)]) az aD),j+1,by omega,rfl,by rw[bq hz,zm,hall2];simp[hf],by rw[bq hz,MW]⟩
    ·have hf':inb 1000000000000000 z=false:=by simpa using hf
     rw[hf']at FITS;have EC:=MG (bj hl) (bj hz) hf';refine ot ?_;refine Jv ?_;refine zs2 ?_;refine QJ ?_;refine bw ?_;refine Jw ?_;refine zs2 ?_;rw[EC];exact⟨_,Lj (t:=2) (wd:=1) fq,.two (.tmp 2) (.tmp 3) _ _ rfl (.tmp 2 rfl) (.tmp 3 rfl)⟩
   ·rw[show smD z= .tp [zI 0,.sc (.bool false)]from ah hr]at SM;have hf':inb 1000000000000000 z=false:=by
     cases h:inb 1000000000000000 z with
     |false=>rfl
     |true=>have:=ln.1 h;omega
    have EC:=MG (bj hl) (bj hz) hf';refine ot ?_;refine Jv ?_;refine zs2 ?_;refine cn ?_;refine rZ ?_;refine fM ?_;(first|(refine aLs rfl rfl rfl rfl ?_ ?_;(focus(apply bh;(conv=>lhs;whnf);(first|done|exact rfl|(apply bg;(first|(apply au;omega)|(apply aw;omega)|assumption|(simp;done)))))))|refine aLw rfl rfl rfl rfl cE zb39 ?_);refine yd ?_;refine kT ?_;refine bw ?_;refine Jw ?_;refine zs2 ?_;rw[EC];exact⟨_,Lj (t:=2) (wd:=1) fq,.two (.tmp 2) (.tmp 3) _ _ rfl (.tmp 2 rfl) (.tmp 3 rfl)⟩
  ·obtain rfl:j=l.length:=by omega
   rw[et]at hall2;rw[et];refine zs2 ?_;refine qT ?_;refine bp ?_;refine ay (aA (k:=6) bf bA bz) ?_;refine QI ?_;refine zs2 ?_;refine gy ?_;simp only[nx,inB];exact⟨m.length-(k+1),_,by omega,(aq (sl':=[(0,dW m),(4,.own 4),(5,zI ((k+1:Nat):Int))]) (ow':=[(4,⟨40,1,(m.take k).map dI++[dI l]⟩)]) az aD),k+1,by omega,rfl,by rw[bq hl,zm,hall];simp only[sP,List.all_nil,hall2,Bool.and_true],by rw[bq hl,db];rfl⟩
 ·obtain rfl:k=m.length:=by omega
  rw[et]at hall;rw[et];have EC:nrw m= .tp [dM m,.sc (.bool true)]:=ak hall;refine eR ?_;refine ay (aA (k:=4) bf bA bz) ?_;refine Jz ?_;refine zs2 ?_;rw[EC];exact⟨_,Sh.refl,.two (.tmp 2) (.tmp 3) _ _ rfl (.tmp 2 rfl) (.tmp 3 rfl)⟩
end DW
end
section
open Go.RowKit
namespace CI
inductive C where
 |any
 |sc (v:Value)
 |nm (z:Int)
 |sl (k off n c:Nat) (x:Bool)
 |pt (k off:Nat)
 |fn (f:FuncId) (caps:List C)
 |ag (l:List C)
 |tp (l:List C)
 |yl (k:Nat)
 deriving Inhabited
inductive T(α:Type) where
 |e
 |n (v:Option α) (l r:T α)
def T.get{α:Type}:T α->Nat->Option α
 | .e,_=>none
 | .n v l r,k=>match k with
  |0=>v
  |k+1=>match k%2 with
   |0=>l.get (k/2)
   |_+1=>r.get (k/2)
def T.put{α:Type}:Nat->T α->Nat->Option α->T α
 |0,t,_,_=>t
 |f+1,t,k,x=>
  match t with
  | .e=>match k with
   |0=>.n x .e .e
   |k+1=>match k%2 with
    |0=>.n none (put f .e (k/2) x) .e
    |_+1=>.n none .e (put f .e (k/2) x)
  | .n v l r=>match k with
   |0=>.n x l r
   |k+1=>match k%2 with
    |0=>.n v (put f l (k/2) x) r
    |_+1=>.n v l (put f r (k/2) x)
inductive CO where
 |t (n:Nat)
 |c (x:C)
 deriving Inhabited
inductive X where
 |mv (x:CO)
 |pick (c a b:CO)
 |alloc (T:Nat) (z:List C)
 |box (T:Nat) (x:CO)
 |build (z:List C) (ps:List (Nat×Nat×CO))
 |bsl (T w len:Nat) (z:List C) (ps:List (Nat×Nat×CO))
 |load (row:Bool) (w:Nat) (x:CO)
 |store (w:Nat) (a x:CO)
 |bin (op:BinOp) (x y:CO)
 |beq (ng:Bool) (x y:CO)
 |snil (ng:Bool) (x y:CO)
 |un (op:UnOp) (x:CO)
 |conv (k:IntKind) (x:CO)
 |mkf (f:FuncId) (cs:List CO)
 |mks (T w bytes:Nat) (z:List C) (l c:CO)
 |slc (w:Nat) (x:CO) (lo hi mx:Option CO)
 |fa (off:Nat) (x:CO)
 |fd (row:Bool) (off w:Nat) (x:CO)
 |ia (w:Nat) (len:Option Nat) (x i:CO)
 |ix (row:Bool) (w len:Nat) (x i:CO)
 |sx (x i:CO)
 |ext (x:CO) (i:Nat)
 |nc (x:CO)
 |len (str:Bool) (x:CO)
 |mnx (gt:Bool) (x y:CO)
 |app (T w:Nat) (x y:CO)
 |appz (T:Nat) (z:List C) (x n:CO)
 |cap (x:CO)
 |bad
 |cal (f:CO) (args:List CO)
 deriving Inhabited
structure RO where
 dst:Option Nat
 g:Option (Nat×Bool)
 x:X
 pre:Nat
 deriving Inhabited
inductive CC where
 |skip
 |ret
 |exit (id:Nat)
 |seq (a b:CC)
 |cond (c:CO) (a b:CC)
 |block (id:Nat) (c:CC)
 |loop (c:CC)
 |rng (f:CO) (ps:List Nat) (assign body:CC)
 |reg (draw:Bool) (ops:List RO)
 deriving Inhabited
inductive Ex where
 |norm
 |ret
 |exit (id:Nat)
 deriving Inhabited
inductive LS where|ready|busy|done|vP
inductive B where
 |cells (T:Nat) (l:List C)
 |loop (st:LS) (pend:Ex) (tm:T C) (ps:List Nat) (assign body:CC) (defers:Nat)
 |defd (isOpen:Bool)
structure H where
 next:Nat
 low:Nat
 forb:List (Nat×Nat)
 t:T B
def ep(k:Nat):List (Nat×Nat)->Bool
 |[]=>false
 |(a,b)::l=>match Nat.ble a k with
  |true=>match Nat.blt k b with
   |true=>true
   |false=>ep k l
  |false=>ep k l
def H.get(h:H)(k:Nat):Option B:=
 match ep k h.forb with
 |true=>none
 |false=>h.t.get k
def H.set(h:H)(k:Nat)(b:Option B):H:=⟨h.next,(match Nat.blt k h.low with|true=>k|false=>h.low),h.forb,T.put 24 h.t k b⟩
def H.new(h:H)(b:B):Option H:=match Nat.blt h.next 1000000 with
 |true=>some ⟨h.next+1,h.low,h.forb,T.put 24 h.t h.next (some b)⟩
 |false=>none
def C.wid:C->Nat
 | .nm _=>2
 | .sc _=>1
 | .sl ..=>1
 | .pt ..=>1
 | .fn ..=>1
 | .yl _=>1
 |_=>0
def Et:List C->Nat
 |[]=>0
 |c::l=>c.wid+Et l
def C.okP:C->Bool
 | .nm _=>true
 | .sc (.int .u32 _)=>false
 | .sc _=>true
 | .sl ..=>true
 | .pt ..=>true
 | .fn ..=>true
 | .yl _=>true
 |_=>false
def C.flat:C->Option (List C)
 | .ag l=>some l
 |c=>match c.okP with|true=>some [c]|false=>none
def jL(row:Bool)(l:List C):Option C:=
 match row with
 |true=>match l with
  |[.nm z]=>some (.nm z)
  |l=>some (.ag l)
 |false=>match l with
  |[.nm _]=>none
  |[c]=>some c
  |_=>none
def uJ:List C->Nat->Option (List C)
 |l,0=>some l
 |[],_+1=>none
 |c::l,off+1=>match Nat.ble c.wid (off+1)with
  |true=>uJ l (off+1-c.wid)
  |false=>none
def uc:List C->Nat->Option (List C)
 |_,0=>some []
 |[],_+1=>none
 |c::l,n+1=>match Nat.ble c.wid (n+1)with
  |true=>(uc l (n+1-c.wid)).map (c::·)
  |false=>none
def qC(l:List C)(off w:Nat):Option (List C):=(uJ l off).bind (uc · w)
def Bo(l:List C)(off w:Nat)(new:List C):Option (List C):=
 (uc l off).bind fun a=>(uJ l (off+w)).map fun b=>a++new++b
def Gy:C->Option Int
 | .nm z=>some z
 | .ag [.sc (.bool false),.sc (.slice none 0 0)]=>some 0
 |_=>none
def rR(l:List C):List (Nat×Nat×C)->Option (List C)
 |[]=>some l
 |(off,w,c)::ps=>c.flat.bind fun p=>match Nat.beq (Et p) w with
  |true=>(Bo l off w p).bind (rR · ps)
  |false=>none
def mX(z:List C):Nat->List C
 |0=>[]
 |n+1=>z++mX z n
def ikB:IntKind->IntKind->Bool
 | .i8,.i8| .i16,.i16| .i32,.i32| .i64,.i64| .u8,.u8| .u16,.u16| .u32,.u32| .u64,.u64=>true
 |_,_=>false
def Kw:C->Option Bool
 | .sc (.slice none _ _)=>some true
 | .sl ..=>some false
 |_=>none
def binZ(op:BinOp)(k:IntKind)(p q:Int):Option Value:=
 match op with
 | .add=>some (.int k (k.wrap (p+q)))
 | .sub=>some (.int k (k.wrap (p-q)))
 | .mul=>some (.int k (k.wrap (p*q)))
 | .quo=>match q with|0=>none|_=>some (.int k (k.wrap (p.tdiv q)))
 | .rem=>match q with|0=>none|_=>some (.int k (p.tmod q))
 | .eql=>some (.bool (p==q))
 | .neq=>some (.bool (p !=q))
 | .lss=>some (.bool (p<q))
 | .leq=>some (.bool (p<=q))
 | .gtr=>some (.bool (p>q))
 | .geq=>some (.bool (p>=q))
 |_=>none
def isNeg(q:Int):Bool:=match q with| .negSucc _=>true|_=>false
def bin(op:BinOp)(a b:C):Option C:=
 match a,b with
 | .sc (.int k p),.sc (.int k' q)=>
  match op with
  | .shl=>match isNeg q with|true=>none|false=>some (.sc (.int k (k.wrap (p*2^(min q.toNat k.bits)))))
  | .shr=>match isNeg q with|true=>none|false=>some (.sc (.int k (p.fdiv (2^(min q.toNat k.bits)))))
  |op=>match ikB k k' with
   |true=>(binZ op k p q).map .sc
   |false=>none
 |_,_=>none
def beqC(ng:Bool)(a b:C):Option C:=
 match a,b with
 | .sc (.bool p),.sc (.bool q)=>some (.sc (.bool (match ng with|true=>!(p==q)|false=>p==q)))
 |_,_=>none
def Km(ng:Bool)(a b:C):Option C:=
 match Kw a,Kw b with
 |some true,some y=>some (.sc (.bool (match ng with|true=>!y|false=>y)))
 |some false,some true=>some (.sc (.bool ng))
 |_,_=>none
def un(op:UnOp)(a:C):Option C:=
 match op,a with
 | .not,.sc (.bool b)=>some (.sc (.bool !b))
 | .neg,.sc (.int k p)=>some (.sc (.int k (k.wrap (0-p))))
 |_,_=>none
def ofN(n:Nat):C:=.sc (.int .i64 n)
def je:C->Option Nat
 | .sc (.int _ (.ofNat n))=>some n
 |_=>none
abbrev Tm:=T C
def CO.ev(tm:Tm):CO->C
 |CO.t n=>match T.get tm n with|some y=>y|none=>C.any
 |CO.c x=>x
def lx(tm:Tm)(d:Nat):Option CO->Option Nat
 |none=>some d
 |some x=>je (x.ev tm)
def parts(tm:Tm):List (Nat×Nat×CO)->List (Nat×Nat×C)
 |[]=>[]
 |(o,w,x)::l=>(o,w,x.ev tm)::parts tm l
def Ko(w off l m:Nat)(exact:Bool):Option Nat:=
 match l with
 |0=>some off
 |_=>match Nat.beq m l with
  |true=>match exact with
   |true=>some off
   |false=>none
  |false=>match w with
   |0=>none
   |_=>some (off+l*w)
def KJ(mx:Option CO)(e:Bool):Bool:=match mx with|none=>e|some _=>true
def xT(x:X)(tm:Tm)(next:Nat):Option (C×Option B):=
 match x with
 | .mv x=>some (x.ev tm,none)
 | .pick c a b=>match c.ev tm with
  | .sc (.bool true)=>some (a.ev tm,none)
  | .sc (.bool false)=>some (b.ev tm,none)
  |_=>none
 | .alloc T z=>some (.pt next 0,some (.cells T z))
 | .box T x=>(x.ev tm).flat.map fun p=>(.pt next 0,some (.cells T p))
 | .build z ps=>(rR z (parts tm ps)).map fun l=>(.ag l,none)
 | .bsl T w len z ps=>(rR (mX z len) (parts tm ps)).map fun l=>(.sl next 0 len len true,some (.cells T l))
 | .bin op x y=>(bin op (x.ev tm) (y.ev tm)).map (·,none)
 | .beq ng x y=>(beqC ng (x.ev tm) (y.ev tm)).map (·,none)
 | .snil ng x y=>(Km ng (x.ev tm) (y.ev tm)).map (·,none)
 | .un op x=>(un op (x.ev tm)).map (·,none)
 | .conv k x=>match x.ev tm with
  | .sc (.int _ n)=>some (.sc (.int k (k.wrap n)),none)
  |_=>none
 | .mkf f cs=>some (.fn f (cs.map (·.ev tm)),none)
 | .mks T w bytes z l c=>match je (l.ev tm),je (c.ev tm)with
  |some l,some c=>match Nat.ble l c,Nat.ble c 1000000 with
   |true,true=>some (.sl next 0 l c true,some (.cells T (mX z c)))
   |_,_=>none
  |_,_=>none
 | .slc w x lo hi mx=>match x.ev tm with
  | .sl k off n c e=>
   match lx tm 0 lo,lx tm n hi,lx tm c mx with
   |some l,some h,some m=>match Nat.ble m c,Nat.ble h m,Nat.ble l h with
    |true,true,true=>(Ko w off l m (KJ mx e)).map fun o=>(.sl k o (h-l) (m-l) (KJ mx e),none)
    |_,_,_=>none
   |_,_,_=>none
  | .sc (.slice none 0 0)=>match lx tm 0 hi,lx tm 0 lo,lx tm 0 mx with
   |some 0,some 0,some 0=>some (.sc (.slice none 0 0),none)
   |_,_,_=>none
  |_=>none
 | .fa off x=>match x.ev tm with
  | .pt k o=>some (.pt k (o+off),none)
  |_=>none
 | .fd row off w x=>match x.ev tm with
  | .ag l=>((qC l off w).bind (jL row)).map (·,none)
  |_=>none
 | .ia w len x i=>match je (i.ev tm)with
  |some i=>match x.ev tm,len with
   | .sl k off n _ _,none=>match Nat.blt i n with
    |true=>some (.pt k (off+i*w),none)
    |false=>none
   | .pt k off,some n=>match Nat.blt i n with
    |true=>some (.pt k (off+i*w),none)
    |false=>none
   |_,_=>none
  |none=>none
 | .ix row w len x i=>match je (i.ev tm),x.ev tm with
  |some i,.ag l=>match Nat.blt i len with
   |true=>((qC l (i*w) w).bind (jL row)).map (·,none)
   |false=>none
  |_,_=>none
 | .sx x i=>match je (i.ev tm),x.ev tm with
  |some i,.sc (.string s)=>s[i]?.map fun b=>(.sc (.int .u8 b.toNat),none)
  |_,_=>none
 | .ext x i=>match x.ev tm with
  | .tp l=>l[i]?.map (·,none)
  |_=>none
 | .nc x=>match x.ev tm with
  | .pt k o=>some (.pt k o,none)
  | .fn f c=>some (.fn f c,none)
  | .yl k=>some (.yl k,none)
  |_=>none
 | .len str x=>match str with
  |false=>match x.ev tm with
   | .sl _ _ n _ _=>some (ofN n,none)
   | .sc (.slice none n _)=>some (ofN n,none)
   |_=>none
  |true=>match x.ev tm with
   | .sc (.string s)=>some (ofN s.size,none)
   |_=>none
 | .cap x=>match x.ev tm with
  | .sl _ _ _ c true=>some (ofN c,none)
  | .sc (.slice none _ c)=>some (ofN c,none)
  |_=>none
 | .mnx gt x y=>match x.ev tm,y.ev tm with
  | .sc (.int k p),.sc (.int _ q)=>match gt with
   |true=>some (.sc (.int k (if q>p then q else p)),none)
   |false=>some (.sc (.int k (if q<p then q else p)),none)
  |_,_=>none
 |_=>none
def X.isT:X->Bool
 | .load ..=>false
 | .store ..=>false
 | .app ..=>false
 | .appz ..=>false
 | .cal ..=>false
 |_=>true
def H.nB(h:H):Option B->Option H
 |none=>some h
 |some b=>h.new b
def zt(row:Bool)(w:Nat)(a:C)(h:H):Option C:=
 match a with
 | .pt k off=>match h.get k with
  |some (.cells _ l)=>(qC l off w).bind (jL row)
  |_=>none
 |_=>none
def vC(w:Nat)(a v:C)(h:H):Option H:=
 match a with
 | .pt k off=>match h.get k with
  |some (.cells T l)=>v.flat.bind fun p=>match Nat.beq (Et p) w with
   |true=>(Bo l off w p).map fun l'=>h.set k (some (.cells T l'))
   |false=>none
  |_=>none
 |_=>none
def slW(w:Nat)(a:C)(h:H):Option (List C×Nat):=
 match a with
 | .sc (.slice none 0 0)=>some ([],0)
 | .sl k off n _ _=>match h.get k with
  |some (.cells _ l)=>(qC l off (n*w)).map (·,n)
  |_=>none
 |_=>none
def De(T w:Nat)(a:C)(new:List C)(m:Nat)(h:H):Option (C×H):=
 match m with
 |0=>match a with
  | .sc (.slice none 0 0)=>some (a,h)
  | .sl .. =>some (a,h)
  |_=>none
 |_=>match a with
  | .sc (.slice none 0 0)=>match Nat.ble m 1000000 with
   |true=>(h.new (.cells T new)).map fun h'=>(.sl h.next 0 m m false,h')
   |false=>none
  | .sl k off n c e=>match h.get k with
   |some (.cells T' l)=>match Nat.beq T' T with
    |false=>none
    |true=>match Nat.ble (n+m) c with
     |true=>(Bo l (off+n*w) (m*w) new).map fun l'=>(.sl k off (n+m) c e,h.set k (some (.cells T' l')))
     |false=>match Nat.ble (n+m) 1000000 with
      |true=>(qC l off (n*w)).bind fun old=>match e with
       |true=>(h.new (.cells T' (old++new))).map fun h'=>(.sl h.next 0 (n+m) (n+m) false,h')
       |false=>match off with
        |0=>((h.set k none).new (.cells T' (old++new))).map fun h'=>(.sl h.next 0 (n+m) (n+m) false,h')
        |_=>none
      |false=>none
   |_=>none
  |_=>none
def Kc(T w:Nat)(a b:C)(h:H):Option (C×H):=(slW w b h).bind fun (new,m)=>De T w a new m h
abbrev Orc:=List C->Option C
inductive RV where
 |tmp (t:Nat)
 |cell (t:Nat) (row:Bool) (w:Nat)
 deriving Inhabited
structure F where
 ntmps:Nat
 body:CC
 res:List RV
structure Env where
 fns:FuncId->Option F
 orc:FuncId->Option Orc
def setArgs:Nat->Nat->List C->Tm->Tm
 |_,_,[],tm=>tm
 |f,k,c::l,tm=>setArgs f (k+1) l (T.put f tm k (some c))
def ry:List Nat->List C->Tm->Option Tm
 |[],[],tm=>some tm
 |t::ts,c::cs,tm=>ry ts cs (T.put 24 tm t (some c))
 |_,_,_=>none
inductive Task where
 |code (c:CC) (tm:Tm) (ds:List Nat) (rd:Option Nat) (h:H)
 |call (f:C) (args:List C) (h:H)
inductive Out where
 |code (e:Ex) (tm:Tm) (ds:List Nat) (h:H)
 |val (c:C) (h:H)
abbrev Rec:=Task->Option Out
def kG(tm:Tm)(dst:Option Nat)(c:C):Tm:=
 match dst with
 |some t=>T.put 24 tm t (some c)
 |none=>tm
def lg(o:RO)(tm:Tm):Option Bool:=
 match o.g with
 |none=>some true
 |some (t,b)=>match tm.get t with
  |some (.sc (.bool c))=>some (match b with|true=>c|false=>!c)
  |_=>none
def xR(rec:Rec)(x:X)(tm:Tm)(h:H):Option (C×H):=
 match x with
 | .load row w a=>(zt row w (a.ev tm) h).map (·,h)
 | .store w a v=>(vC w (a.ev tm) (v.ev tm) h).map (.any,·)
 | .app T w a b=>Kc T w (a.ev tm) (b.ev tm) h
 | .appz T z a n=>match a.ev tm,je (n.ev tm)with
  | .sc (.slice none 0 0),some (m+1)=>match Nat.ble (m+1) 1000000 with
   |true=>(h.new (.cells T (mX z (m+1)))).map fun h'=>(.sl h.next 0 (m+1) (m+1) false,h')
   |false=>none
  |_,_=>none
 | .cal f args=>match rec (.call (f.ev tm) (args.map (·.ev tm)) h)with
  |some (.val c h)=>some (c,h)
  |_=>none
 |_=>none
def Kd(rec:Rec)(x:X)(tm:Tm)(h:H):Option (C×H):=
 match x.isT with
 |true=>(xT x tm h.next).bind fun (c,b)=>(h.nB b).map fun h=>(c,h)
 |false=>xR rec x tm h
def uj(rec:Rec):List RO->Tm->H->Option (Tm×H)
 |[],tm,h=>some (tm,h)
 |o::l,tm,h=>match lg o tm with
  |some true=>match Kd rec o.x tm h with
   |some (c,h)=>uj rec l (kG tm o.dst c) h
   |none=>none
  |some false=>uj rec l (kG tm o.dst .any) h
  |none=>none
def ku(pre:Nat):List (Nat×Nat×Nat)->List (Nat×Nat)->List (Nat×Nat)
 |[],f=>f
 |(i,a,b)::l,f=>match pre.testBit i with
  |true=>ku pre l f
  |false=>(a,b)::ku pre l f
def uP(pre:Nat)(wr:Bool):List (Nat×Bool)->Bool
 |[]=>false
 |(i,w)::l=>match(w||wr)&& !pre.testBit i with
  |true=>true
  |false=>uP pre wr l
def jY(rec:Rec):List RO->Nat->List (Nat×Nat×Nat)->List (Nat×Bool)->Tm->H->Option (Tm×H)
 |[],_,_,_,tm,h=>some (tm,h)
 |o::l,j,iv,rw,tm,h=>match lg o tm with
  |some true=>match o.x.isT with
   |true=>match xT o.x tm h.next with
    |some (c,none)=>jY rec l (j+1) iv rw (kG tm o.dst c) h
    |some (c,some b)=>match h.new b with
     |some h'=>jY rec l (j+1) ((j,h.next,h'.next)::iv) rw (kG tm o.dst c) h'
     |none=>none
    |none=>none
   |false=>match xR rec o.x tm ⟨h.next,h.next,ku o.pre iv h.forb,h.t⟩with
    |some (c,h')=>
     let wr:=Nat.blt h'.low h.next
     match uP o.pre wr rw with
     |true=>none
     | false => jY rec l (j + 1) (match Nat.blt h.next h'.next with | true => (j, h.next, h'.next) :: iv | false => iv) ((j, wr) :: rw) (kG tm o.dst c)
         ⟨h'.next,(match Nat.blt h'.low h.low with|true=>h'.low|false=>h.low),h.forb,h'.t⟩
    |none=>none
  |some false=>jY rec l (j+1) iv rw (kG tm o.dst .any) h
  |none=>none
def results(tm:Tm)(h:H):List RV->Option (List C)
 |[]=>some []
 | .tmp t::l=>(results tm h l).map (CO.ev tm (CO.t t)::·)
 | .cell t row w::l=>(zt row w (CO.ev tm (CO.t t)) h).bind fun c=>(results tm h l).map (c::·)
def vL:List C->C
 |[c]=>c
 |l=>.tp l
def lH:List Nat->H->Option H
 |[],h=>some h
 |k::l,h=>match h.get k with
  |some (.defd true)=>lH l (h.set k (some (.defd false)))
  |_=>none
def F8(l:Nat)(e:Ex)(h:H):Option (C×H):=
 match h.get l with
 |some (.loop .busy _ tm ps a b d)=>match e with
  | .norm=>some (.sc (.bool true),h.set l (some (.loop .ready .norm tm ps a b d)))
  |e=>some (.sc (.bool false),h.set l (some (.loop .done e tm ps a b d)))
 |_=>none
def body(E:Env)(rec:Rec):Task->Option Out
 | .code c tm ds rd h=>match c with
  | .skip=>some (.code .norm tm ds h)
  | .ret=>some (.code .ret tm ds h)
  | .exit id=>some (.code (.exit id) tm ds h)
  | .seq a b=>match rec (.code a tm ds rd h)with
   |some (.code .norm tm ds h)=>rec (.code b tm ds rd h)
   |o=>o
  | .cond c a b=>match c.ev tm with
   | .sc (.bool true)=>rec (.code a tm ds rd h)
   | .sc (.bool false)=>rec (.code b tm ds rd h)
   |_=>none
  | .block id c=>match rec (.code c tm ds rd h)with
   |some (.code (.exit i) tm ds h)=>match Nat.beq i id with
    |true=>some (.code .norm tm ds h)
    |false=>some (.code (.exit i) tm ds h)
   |o=>o
  | .loop c=>match rec (.code c tm ds rd h)with
   |some (.code .norm tm ds h)=>rec (.code (.loop c) tm ds rd h)
   |o=>o
  | .reg draw ops=>match(match draw with|true=>jY rec ops 0 [] [] tm h|false=>uj rec ops tm h)with
   |some (tm,h)=>some (.code .norm tm ds h)
   |none=>none
  | .rng f ps a b=>
   match(match rd with
    |some l=>match h.get l with
     |some (.loop _ _ _ _ _ _ d)=>some (d,ds,h)
     |_=>none
    |none=>(h.new (.defd true)).map fun h'=>(h.next,h.next::ds,h'))with
   |some (d,ds,h)=>match h.new (.loop .ready .norm tm ps a b d)with
    |some h'=>match(match f.ev tm with| .fn g caps=>rec (.call (.fn g caps) [.yl h.next] h')|_=>none)with
     |some (.val _ h2)=>match h2.get h.next with
      |some (.loop .busy ..)=>none
      |some (.loop _ p tm' ps' a' b' d')=>some (.code p tm ds (h2.set h.next (some (.loop .vP p tm' ps' a' b' d'))))
      |_=>none
     |_=>none
    |none=>none
   |none=>none
 | .call f args h=>match f with
  | .fn g caps=>match E.orc g with
   |some o=>(o (args++caps)).map (.val · h)
   |none=>match E.fns g with
    |some fn=>match Nat.ble (args++caps).length fn.ntmps with
     |false=>none
     |true=>match rec (.code fn.body (setArgs 24 0 (args++caps) .e) [] none h)with
      |some (.code e tm ds h)=>match e with
       | .exit _=>none
       |_=>(lH ds h).bind fun h=>(results tm h fn.res).map fun rs=> .val (vL rs) h
      |_=>none
    |none=>none
  | .yl l=>match h.get l with
   |some (.loop .ready _ tm ps a b _)=>match ry ps args tm with
    |some tm=>match rec (.code a tm [] (some l) h)with
     |some (.code .norm tm [] h)=>match h.get l with
      |some (.loop .ready p tm' ps' a' b' d')=>match rec (.code b tm [] (some l) (h.set l (some (.loop .busy p tm' ps' a' b' d'))))with
       |some (.code e _ [] h)=>(F8 l e h).map fun (c,h)=> .val c h
       |_=>none
      |_=>none
     |_=>none
    |none=>none
   |_=>none
  |_=>none
def run(E:Env):Nat->Rec
 |0=>fun _=>none
 |n+1=>body E (run E n)
section comp
variable (P : Program)
def ofV:Value->C
 | .agg cs=>match cs.toList.all (fun v=>v.oneCell'&&(C.sc v).okP)with
  |true=>.ag (cs.toList.map .sc)
  |false=>.any
 | .tuple _=>.any
 | .func (.func f) first cs=>match first.size,cs.size with
  |0,0=>.fn f []
  |_,_=>.any
 | .func ..=>.any
 |v=>.sc v
def aU:Operand->CO
 | .tmp t=>CO.t t
 | .const v=>CO.c (ofV v)
 | .global _=>CO.c .any
 | .func f=>CO.c (.fn f [])
def zOf(t:TypeId):Option (List C):=(P.info? t).bind fun i=>i.zero.bind fun z=>match z.cells.toList.all (fun v=>v.oneCell'&&(C.sc v).okP)&&Nat.beq z.cells.size i.size with
 |true=>some (z.cells.toList.map .sc)
 |false=>none
def dh(t:TypeId):Option Nat:=(P.info? t).map (·.size)
def rowOf(t:TypeId):Option Bool:=match P.underlying t with|some (.struct _)=>some true|some (.array ..)=>some true|some _=>some false|none=>none
def place(t:TypeId)(i:Nat):Option (Nat×Nat):=
 match P.underlying t with
 |some (.struct fs)=>fs[i]?.bind fun f=>(dh P f.type).map (f.offset,·)
 |some (.array _ e)=>(dh P e).map fun s=>(i*s,s)
 |some (.slice e)=>(dh P e).map fun s=>(i*s,s)
 |_=>none
def placesOf(t:TypeId):List (Nat×Operand)->Option (List (Nat×Nat×CO))
 |[]=>some []
 |(i,x)::l=>(place P t i).bind fun (o,w)=>(placesOf t l).map ((o,w,aU x)::·)
def rT(l:List Operand):List CO:=l.map aU
def aZ(o:Op):Option X:=
 match o with
 | .move x=>some (.mv (aU x))
 | .assign x=>some (.mv (aU x))
 | .pick c a b=>some (.pick (aU c) (aU a) (aU b))
 | .alloc t=>(zOf P t).map (.alloc t)
 | .box t x=>some (.box t (aU x))
 | .build t ps=>match P.underlying t with
  |some (.struct fs)=>match fs.toList.all (fun f=>(P.info? f.type).isSome)with
   |true=>(zOf P t).bind fun z=>(placesOf P t ps.toList).map fun ps=> .build z ps
   |false=>none
  |some (.array _ e)=>(dh P e).bind fun _=>(zOf P t).bind fun z=>(placesOf P t ps.toList).map fun ps=> .build z ps
  |_=>none
 | .buildSlice t n ps=>match P.underlying t with
  |some (.slice e)=>(dh P e).bind fun w=>(zOf P e).bind fun z=>match Nat.ble (n*w) 16777216&&Nat.blt 0 w&&(Nat.blt 0 n||ps.toList.isEmpty)with
   |true=>(placesOf P t ps.toList).map fun ps=> .bsl e w n z ps
   |false=>none
  |_=>none
 | .load t a=>(dh P t).bind fun w=>(rowOf P t).map fun r=> .load r w (aU a)
 | .store t a x=>(dh P t).map fun w=> .store w (aU a) (aU x)
 | .binOp op t x y _=>match P.underlying t with
  |some (.int _)=>some (.bin op (aU x) (aU y))
  |some .bool=>match op with
   | .eql=>some (.beq false (aU x) (aU y))
   | .neq=>some (.beq true (aU x) (aU y))
   |_=>none
  |some (.slice _)=>match op with
   | .eql=>some (.snil false (aU x) (aU y))
   | .neq=>some (.snil true (aU x) (aU y))
   |_=>none
  |_=>none
 | .unOp op _ x=>some (.un op (aU x))
 | .convert s t x=>match P.underlying s,P.underlying t with
  |some (.int _),some (.int k)=>some (.conv k (aU x))
  |_,_=>none
 | .makeFunc (.func f) first cs=>match first.size with
  |0=>some (.mkf f (rT cs.toList))
  |_=>none
 | .makeSlice t l c=>match P.underlying t with
  |some (.slice e)=>(P.info? e).bind fun i=>(zOf P e).bind fun z=>match Nat.ble i.bytes 100000 with
   |true=>some (.mks e i.size i.bytes z (aU l) (aU c))
   |false=>none
  |_=>none
 | .slice t x lo hi mx=>match P.underlying t with
  |some (.slice e)=>match hi,mx with
   |none,some _=>none
   |_,_=>(dh P e).map fun w=> .slc w (aU x) (lo.map aU) (hi.map aU) (mx.map aU)
  |_=>none
 | .fieldAddr t x i=>match P.underlying t with
  |some (.struct fs)=>fs[i]?.bind fun f=>(dh P f.type).bind fun w=>match w with
   |0=>none
   |_=>some (.fa f.offset (aU x))
  |_=>none
 | .field t x i=>match P.underlying t with
  |some (.struct fs)=>fs[i]?.bind fun f=>(dh P f.type).bind fun w=>(rowOf P f.type).map fun r=> .fd r f.offset w (aU x)
  |_=>none
 | .indexAddr t x i=>match P.underlying t with
  |some (.slice e)=>(dh P e).map fun w=> .ia w none (aU x) (aU i)
  |some (.array n e)=>(dh P e).map fun w=> .ia w (some n) (aU x) (aU i)
  |_=>none
 | .index t x i=>match P.underlying t with
  |some (.array n e)=>(dh P e).bind fun w=>(rowOf P e).map fun r=> .ix r w n (aU x) (aU i)
  |some .string=>some (.sx (aU x) (aU i))
  |_=>none
 | .extract x i=>some (.ext (aU x) i)
 | .nilCheck x=>some (.nc (aU x))
 | .call {callee:= .builtin b,args,argTypes}=>match b,args.toList,argTypes.toList with
  | .len,[x],[t]=>match P.underlying t with
   |some (.slice _)=>some (.len false (aU x))
   |some .string=>some (.len true (aU x))
   |_=>none
  | .min,[x,y],_=>some (.mnx false (aU x) (aU y))
  | .max,[x,y],_=>some (.mnx true (aU x) (aU y))
  | .append,[x,y],[t,t']=>match P.underlying t,P.underlying t' with
   |some (.slice e),some (.slice _)=>match Nat.beq t t' with
    |false=>none
    |true=>(P.info? e).bind fun i=>(zOf P e).bind fun z=>match Nat.ble i.bytes 100000&&Nat.blt 0 i.size with
     |true=>some (.app e i.size (aU x) (aU y))
     |false=>none
   |some (.slice e),some (.int _)=>(P.info? e).bind fun i=>(zOf P e).bind fun z=>match Nat.ble i.bytes 100000&&Nat.blt 0 i.size with
    |true=>some (.appz e z (aU x) (aU y))
    |false=>none
   |_,_=>none
  | .cap,[x],[t]=>match P.underlying t with
   |some (.slice _)=>some (.cap (aU x))
   |_=>none
  |_,_,_=>none
 | .call {callee:= .value f,args, .. }=>some (.cal (aU f) (rT args.toList))
 |_=>none
def uF:List Nat->Nat->Nat
 |[],_=>0
 |x::_,0=>x
 |_::l,n+1=>uF l n
def mZ(acc:List Nat):List Edge->Nat
 |[]=>0
 |e::l=>match Region.binds .any e with
  |true=>2^e.on|||uF acc e.on|||mZ acc l
  |false=>mZ acc l
def lY:List Oper->List Nat->List Nat
 |[],acc=>acc
 |o::l,acc=>lY l (acc++[mZ acc o.after.toList])
def so(t:Nat):List Nat->Bool
 |[]=>false
 |x::l=>match Nat.beq x t with|true=>true|false=>so t l
def looks(ops:Array Oper)(o:Oper):List Nat:=
 (match o.guard with
  |some (g,_)=>((ops[g]?).bind (·.dst)).toList
  |none=>[])++(o.op.operands.toList.filterMap fun| .tmp t=>some t|_=>none)
def sk(t:Option Nat)(l:List Nat):Bool:=match t with|some t=>so t l|none=>false
def ua(ops:Array Oper)(o:Oper)(pre:Nat):List Oper->Nat->Bool
 |[],_=>true
 |o'::l,i=>match(sk o'.dst (looks ops o)||sk o.dst (looks ops o')||sk o.dst o'.dst.toList)&& !pre.testBit i with
  |true=>false
  |false=>ua ops o pre l (i+1)
def lp(k:Nat):List Edge->Bool
 |[]=>true
 |e::l=>match Region.binds .any e&& !Nat.blt e.on k with
  |true=>false
  |false=>lp k l
def dc(n:Nat)(dst:Option Tmp):Bool:=match dst with|some t=>Nat.blt t n|none=>true
def iD(n:Nat)(draw:Bool)(ops:Array Oper)(acc:List Oper):List Oper->List Nat->Option (List RO)
 |[],_=>some []
 |o::l,ps=>match ps with
  |p::ps=>match draw&& !(ua ops o p acc 0&&lp acc.length o.after.toList)|| !dc n o.dst with
   |true=>none
   |false=>(match o.guard with
    |none=>some none
    |some (j,b)=>((ops[j]?).bind (·.dst)).map fun t=>some (t,b)).bind fun g=>
     (iD n draw ops (acc++[o]) l ps).map fun r=>⟨o.dst,g,(match aZ P o.op with|some x=>x|none=>.bad),p⟩::r
  |[]=>none
def comp(n:Nat):Code->Option CC
 | .skip=>some .skip
 | .ret=>some .ret
 | .exit id=>some (.exit id)
 | .label _=>some .skip
 | .seq a b=>(comp n a).bind fun a=>(comp n b).map (.seq a)
 | .cond c a b=>(comp n a).bind fun a=>(comp n b).map (.cond (aU c) a)
 | .block id c=>(comp n c).map (.block id)
 | .loop c=>(comp n c).map .loop
 | .rangeFunc f ps a b=>match ps.toList.all (fun t=>Nat.blt t n)with
  |false=>none
  |true=>(comp n a).bind fun a=>(comp n b).map (.rng (aU f) ps.toList a)
 | .region _ ops draw=>(iD P n draw ops [] ops.toList (lY ops.toList [])).map (.reg draw)
 |_=>none
def rvOf:ResultVar->Option RV
 | .tmp t=>some (.tmp t)
 | .cell t ty=>(dh P ty).bind fun w=>(rowOf P ty).map fun r=>.cell t r w
def ug:List ResultVar->Option (List RV)
 |[]=>some []
 |r::l=>(rvOf P r).bind fun r=>(ug l).map (r::·)
def rU (g : FuncId) : Option F := (P.funcs[g]?).bind fun fn => fn.body.bind fun c => match Nat.blt fn.ntmps 1000000 && !(fn.name == "runtime.NumGoroutine") with
 |true=>(comp P fn.ntmps c).bind fun c=>(ug P fn.results.toList).map fun r=>⟨fn.ntmps,c,r⟩
 |false=>none
end comp
end CI
end
section
open Go.RowKit
namespace CI
section
variable (P : Program)
mutual
def VR(A:Nat->Prop)(ρ:Nat->Nat)(w:World):C->Value->Prop
 | .any,_=>True
 | .sc u,v=>v=u/\u.oneCell'=true
 | .nm z,v=>∃x:IV,v= .agg #[.bool x.s, .slice x.a x.n x.cap]/\IZ w x z
 | .sl k off n c x, v => A k /\ ∃ cap, v = .slice (some ⟨ρ k, off, none⟩) n cap /\ n <= c /\ c <= cap /\ (x = true -> cap = c) /\
     (x=false->off=0->cap<=maxLen/\∃T s,w.shape? (ρ k)=some (T,cap*s)/\dh P T=some s)
 | .pt k off,v=>A k/\v= .pointer (some ⟨ρ k,off,none⟩)
 | .fn f cs,v=>∃us,v= .func (.func f) #[] us/\VRl A ρ w cs us.toList
 | .ag l,v=>∃cs,v= .agg cs/\VCs A ρ w l cs.toList
 | .tp l,v=>∃vs,v= .tuple vs/\VRl A ρ w l vs.toList
 | .yl k,v=>A k/\v= .func (.yield (ρ k)) #[] #[]
def VRl(A:Nat->Prop)(ρ:Nat->Nat)(w:World):List C->List Value->Prop
 |[],vs=>vs=[]
 |d::l,vs=>∃u rest,vs=u::rest/\VR A ρ w d u/\VRl A ρ w l rest
def VCs(A:Nat->Prop)(ρ:Nat->Nat)(w:World):List C->List Value->Prop
 |[],cs=>cs=[]
 |d::l,cs=>d.okP=true/\∃u rest,cs=u.cells.toList++rest/\VR A ρ w d u/\VCs A ρ w l rest
end
structure Lt(w w':World):Prop where
 os:w'.os=w.os
 tape:w'.tape=w.tape
 output:w'.output=w.output
 size:w.heap.size<=w'.heap.size
 iz:∀x z,IZ w x z->IZ w' x z
 shape:∀b s,w.shape? b=some s->w'.shape? b=some s
theorem Lt.refl(w:World):Lt w w:=⟨rfl,rfl,rfl,af _,fun _ _ h=>h,fun _ _ h=>h⟩
theorem Lt.trans{a b c:World}(h:Lt a b)(k:Lt b c):Lt a c:=
 ⟨k.os.trans h.os,k.tape.trans h.tape,k.output.trans h.output,aH h.size k.size,fun x z e=>k.iz x z (h.iz x z e),fun x z e=>k.shape x z (h.shape x z e)⟩
theorem EK{w:World}{b:Nat}{s:TypeId×Nat}(h:w.shape? b=some s):b<w.heap.size:=by
 unfold World.shape? at h
 cases e:w.heap[b]? with
 |none=>rw[e]at h;cases h
 |some o=>exact(gS.1 e).1
theorem EJ{w w':World}{b:Nat}(h:w'.heap[b]?=w.heap[b]?):w'.shape? b=w.shape? b:=by
 unfold World.shape?;rw[h]
theorem Lt.below{w w':World}(h:Below w.heap.size w w'):Lt w w':=
 ⟨h.os,h.tape,h.output,h.size,fun _ _ hz=>hz.below h (af _),fun b s e=>by rw[EJ (h.block b (EK e))];exact e⟩
theorem Lt.chg{g:Nat}{w w':World}(h:Chg g w w')(hb:NW w g)(hs:∀s,w.shape? g=some s->w'.shape? g=some s):Lt w w':=
 ⟨h.os,h.tape,h.output,h.size,fun _ _ hz=>hz.chg h hb,fun b s e=>by
  by_cases hbg:b=g
  ·subst hbg;exact hs s e
  ·rw[EJ (h.block b (EK e) hbg)];exact e⟩
variable {P}
structure Mo(A A':Nat->Prop)(ρ ρ':Nat->Nat):Prop where
 sub:∀k,A k->A' k
 eq:∀k,A k->ρ' k=ρ k
theorem Mo.refl(A:Nat->Prop)(ρ:Nat->Nat):Mo A A ρ ρ:=⟨fun _ h=>h,fun _ _=>rfl⟩
mutual
theorem VR.mo{A A':Nat->Prop}{ρ ρ':Nat->Nat}{w w':World}(m:Mo A A' ρ ρ')(k:Lt w w'):∀(c:C) (v:Value),VR P A ρ w c v->VR P A' ρ' w' c v
 | .any,_,_=>by simp only[VR]
 | .sc u,v,h=>by simp only[VR]at h⊢;exact h
 | .nm z,v,h=>by
  simp only[VR]at h⊢;obtain⟨x,h1,h2⟩:=h;exact⟨x,h1,k.iz _ _ h2⟩
 | .sl b off n c x,v,h=>by
  simp only[VR]at h⊢;obtain⟨h0,cap,h1,h2,h3,h4,h5⟩:=h;refine⟨m.sub _ h0,cap,by rw[m.eq _ h0];exact h1,h2,h3,h4,fun hx ho=>?_⟩;obtain⟨h6,T,s,h7,h8⟩:=h5 hx ho;exact⟨h6,T,s,by rw[m.eq _ h0];exact k.shape _ _ h7,h8⟩
 | .pt b off,v,h=>by
  simp only[VR]at h⊢;exact⟨m.sub _ h.1,by rw[m.eq _ h.1];exact h.2⟩
 | .fn f cs,v,h=>by
  simp only[VR]at h⊢;obtain⟨us,h1,h2⟩:=h;exact⟨us,h1,VRl.mo m k cs _ h2⟩
 | .ag l,v,h=>by
  simp only[VR]at h⊢;obtain⟨cs,h1,h2⟩:=h;exact⟨cs,h1,VCs.mo m k l _ h2⟩
 | .tp l,v,h=>by
  simp only[VR]at h⊢;obtain⟨vs,h1,h2⟩:=h;exact⟨vs,h1,VRl.mo m k l _ h2⟩
 | .yl b,v,h=>by
  simp only[VR]at h⊢;exact⟨m.sub _ h.1,by rw[m.eq _ h.1];exact h.2⟩
theorem VRl.mo{A A':Nat->Prop}{ρ ρ':Nat->Nat}{w w':World}(m:Mo A A' ρ ρ')(k:Lt w w'):∀(l:List C) (vs:List Value),VRl P A ρ w l vs->VRl P A' ρ' w' l vs
 |[],_,h=>by simp only[VRl]at h⊢;exact h
 |d::l,vs,h=>by
  simp only[VRl]at h⊢;obtain⟨u,rest,h1,h2,h3⟩:=h;exact⟨u,rest,h1,VR.mo m k d u h2,VRl.mo m k l rest h3⟩
theorem VCs.mo{A A':Nat->Prop}{ρ ρ':Nat->Nat}{w w':World}(m:Mo A A' ρ ρ')(k:Lt w w'):∀(l:List C) (cs:List Value),VCs P A ρ w l cs->VCs P A' ρ' w' l cs
 |[],_,h=>by simp only[VCs]at h⊢;exact h
 |d::l,cs,h=>by
  simp only[VCs]at h⊢;obtain⟨h0,u,rest,h1,h2,h3⟩:=h;exact⟨h0,u,rest,h1,VR.mo m k d u h2,VCs.mo m k l rest h3⟩
end
variable {A : Nat->Prop} {ρ : Nat->Nat} {w : World}
theorem wu{u:Value}(h:u.oneCell'=true):u.cells= #[u]:=by
 cases u<;>first|rfl|simp[Value.oneCell']at h
theorem VR.cells{c:C}{u:Value}(ho:c.okP=true)(h:VR P A ρ w c u):u.cells.toList.length=c.wid/\(∀x∈u.cells.toList,x.oneCell'=true)/\(∀n,u.cells.toList[0]?≠some (.int .u32 n)):=by
 cases c with
 |any=>simp[C.okP]at ho
 |ag l=>simp[C.okP]at ho
 |tp l=>simp[C.okP]at ho
 |sc v=>
  simp only[VR]at h;obtain⟨rfl,h⟩:=h;rw[wu h];refine⟨rfl,by simpa using h,fun n e=>?_⟩;simp at e;subst e;simp[C.okP]at ho
 |nm z=>
  simp only[VR]at h;obtain⟨x,rfl,_⟩:=h;refine⟨rfl,fun u hu=>?_,fun n e=>by simp[Value.cells]at e⟩;simp[Value.cells]at hu;rcases hu with rfl|rfl<;>rfl
 |sl k off n c x=>
  simp only[VR]at h;obtain⟨_,cap,rfl,_⟩:=h;exact⟨rfl,by simp[Value.cells,Value.oneCell'],fun n e=>by simp[Value.cells]at e⟩
 |pt k off=>
  simp only[VR]at h;obtain⟨_,rfl⟩:=h;exact⟨rfl,by simp[Value.cells,Value.oneCell'],fun n e=>by simp[Value.cells]at e⟩
 |fn f cs=>
  simp only[VR]at h;obtain⟨us,rfl,_⟩:=h;exact⟨rfl,by simp[Value.cells,Value.oneCell'],fun n e=>by simp[Value.cells]at e⟩
 |yl k=>
  simp only[VR]at h;obtain⟨_,rfl⟩:=h;exact⟨rfl,by simp[Value.cells,Value.oneCell'],fun n e=>by simp[Value.cells]at e⟩
theorem VCs.len:∀{l:List C} {xs:List Value},VCs P A ρ w l xs->xs.length=Et l
 |[],_,h=>by simp only[VCs]at h;subst h;rfl
 |d::l,xs,h=>by
  simp only[VCs]at h;obtain⟨h0,u,rest,rfl,h2,h3⟩:=h;rw[cI,(VR.cells h0 h2).1,VCs.len h3];rfl
theorem VCs.one:∀{l:List C} {xs:List Value},VCs P A ρ w l xs->∀x∈xs,x.oneCell'=true
 |[],_,h=>by simp only[VCs]at h;subst h;intro x hx;cases hx
 |d::l,xs,h=>by
  simp only[VCs]at h;obtain⟨h0,u,rest,rfl,h2,h3⟩:=h;intro x hx;rcases eY.1 hx with hx|hx
  ·exact(VR.cells h0 h2).2.1 x hx
  ·exact VCs.one h3 x hx
theorem BC{c:C}(h:c.okP=true):0<c.wid:=by cases c<;>simp_all [C.okP,C.wid]
theorem VCs.nw{l:List C}{xs:List Value}(h:VCs P A ρ w l xs):∀n,xs[0]?≠some (.int .u32 n):=by
 cases l with
 |nil=>simp only[VCs]at h;subst h;intro n e;simp at e
 |cons d l=>
  simp only[VCs]at h;obtain⟨h0,u,rest,rfl,h2,h3⟩:=h;obtain⟨k1,_,k3⟩:=VR.cells h0 h2;have:=BC h0;intro n e;rw[eD aa]at e;exact k3 n e
theorem VCs.app{l2:List C}{ys:List Value}(k:VCs P A ρ w l2 ys):∀{l:List C} {xs:List Value},VCs P A ρ w l xs->VCs P A ρ w (l++l2) (xs++ys)
 |[],_,h=>by simp only[VCs]at h;subst h;exact k
 |d::l,xs,h=>by
  simp only[VCs]at h;obtain⟨h0,u,rest,rfl,h2,h3⟩:=h;simp only[wY,VCs];exact⟨h0,u,rest++ys,by rw[gW],h2,VCs.app k h3⟩
theorem VCs.drop:∀{l:List C} {xs:List Value} {off:Nat} {l':List C},VCs P A ρ w l xs->uJ l off=some l'->VCs P A ρ w l' (xs.drop off)/\off<=xs.length
 |l,xs,0,l',h,e=>by
  have e':l'=l:=by cases l<;>simpa[uJ]using e.symm
  subst e';exact⟨h,aQ _⟩
 |[],_,off+1,l',_,e=>by simp[uJ]at e
 |c::l,xs,off+1,l',h,e=>by
  simp only[uJ]at e;split at e
  ·next hb=>
   have hb':=fD hb;simp only[VCs]at h;obtain⟨h0,u,rest,rfl,h2,h3⟩:=h;have hl:=(VR.cells h0 h2).1;have:=BC h0;obtain⟨k1,k2⟩:=VCs.drop h3 e;refine⟨?_,by rw[cI];omega⟩;rw[List.drop_append,lA aa,gj,hl];exact k1
  ·cases e
theorem VCs.take:∀{l:List C} {xs:List Value} {n:Nat} {l':List C},VCs P A ρ w l xs->uc l n=some l'->VCs P A ρ w l' (xs.take n)/\n<=xs.length
 |l,xs,0,l',h,e=>by
  have e':l'=[]:=by cases l<;>simpa[uc]using e.symm
  subst e';exact⟨by simp only[VCs,dv],aQ _⟩
 |[],_,n+1,l',_,e=>by simp[uc]at e
 |c::l,xs,n+1,l',h,e=>by
  simp only[uc]at e;split at e
  ·next hb=>
   have hb':=fD hb;obtain⟨l2,e2,rfl⟩:=eW.1 e;simp only[VCs]at h;obtain⟨h0,u,rest,rfl,h2,h3⟩:=h;have hl:=(VR.cells h0 h2).1;have:=BC h0;obtain⟨k1,k2⟩:=VCs.take h3 e2;refine⟨?_,by rw[cI];omega⟩;rw[List.take_append,cj aa,hl];simp only[VCs];exact⟨h0,u,_,rfl,h2,k1⟩
  ·cases e
theorem VCs.get{l:List C}{xs:List Value}{off n:Nat}{p:List C}(h:VCs P A ρ w l xs)(e:qC l off n=some p):VCs P A ρ w p ((xs.drop off).take n)/\off+n<=xs.length:=by
 unfold qC at e;obtain⟨l1,e1,e2⟩:=kB.1 e;obtain⟨k1,k2⟩:=h.drop e1;obtain⟨k3,k4⟩:=k1.take e2;exact⟨k3,by rw[eM]at k4;omega⟩
theorem VCs.set{l:List C}{xs ys:List Value}{off n:Nat}{new l':List C}(h:VCs P A ρ w l xs)(hy:VCs P A ρ w new ys)(e:Bo l off n new=some l'):VCs P A ρ w l' (xs.take off++ys++xs.drop (off+n))/\off+n<=xs.length:=by
 unfold Bo at e;obtain⟨l1,e1,e2⟩:=kB.1 e;obtain⟨l2,e3,rfl⟩:=eW.1 e2;obtain⟨k1,k2⟩:=h.take e1;obtain⟨k3,k4⟩:=h.drop e3;exact⟨VCs.app k3 (VCs.app hy k1),k4⟩
theorem VR.flat{c:C}{u:Value}{p:List C}(h:VR P A ρ w c u)(e:c.flat=some p):VCs P A ρ w p u.cells.toList:=by
 unfold C.flat at e;split at e
 ·simp only[an]at e;subst e;simp only[VR]at h;obtain⟨cs,rfl,h2⟩:=h;exact h2
 ·split at e
  ·next ho=>
   simp only[an]at e;subst e;simp only[VCs];exact⟨ho,u,[],by simp,h,rfl⟩
  ·cases e
theorem VCs.jL{row:Bool}{p:List C}{c:C}{xs:List Value}(h:VCs P A ρ w p xs)(e:jL row p=some c):if row then VR P A ρ w c (.agg xs.toArray)else∃u,xs=[u]/\VR P A ρ w c u:=by
 unfold CI.jL at e
 cases row with
 |true=>
  simp only[if_true];simp only at e;split at e
  ·simp only[an]at e;subst e;simp only[VCs]at h;obtain⟨_,u,rest,rfl,h2,rfl⟩:=h;simp only[VR]at h2⊢;obtain⟨x,rfl,h3⟩:=h2;exact⟨x,by simp[Value.cells],h3⟩
  ·simp only[an]at e;subst e;simp only[VR];exact⟨_,rfl,by simpa using h⟩
 |false=>
  simp only[zj,if_false];simp only at e;split at e
  ·cases e
  ·next c' hne=>
   simp only[an]at e;subst e;simp only[VCs]at h;obtain⟨h0,u,rest,rfl,h2,rfl⟩:=h;refine⟨u,?_,h2⟩;obtain⟨k1,k2,_⟩:=VR.cells h0 h2;have hw:c'.wid=1:=by cases c'<;>simp_all [C.okP,C.wid]
   rw[hw]at k1;have hu:u.oneCell'=true:=by
    cases hc:c'<;>rw[hc]at h2 h0<;>simp only[VR]at h2<;>first|(simp[C.okP]at h0;done)|(obtain⟨rfl,h⟩:=h2;exact h)|(obtain⟨_,_,rfl,_⟩:=h2;rfl)|(obtain⟨_,rfl⟩:=h2;rfl)|(obtain⟨_,rfl,_⟩:=h2;rfl)|(exact absurd hc (hne _))
   rw[wu hu];rfl
  ·cases e
end
end CI
end
end Go.Proofs.YtcgjmdpcplhanaaGreat
