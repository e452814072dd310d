/- Lemmas for the law: E33 -/
import Derived.Test.YtcgjmdpcplhanaaGreatZs12
namespace Go.Proofs.YtcgjmdpcplhanaaGreat
section
theorem nJ{p q:Prop}(h:q)(f:Wq q->p:=by(intro hW;(refine bA ?_;refine pW ?_);exact hW.out)):p:=f ⟨h⟩
theorem QR{p q:Prop}(h:q)(f:Wq q->p:=by(intro hW;(refine rH ?_;refine lT ?_;refine lT ?_;refine ll ?_;refine nD ?_;refine aQ ?_);exact hW.out)):p:=f ⟨h⟩
theorem QS{p q:Prop}(h:q)(f:Wq q->p:=by(intro hW;(refine JA ?_;refine Bt ?_;refine eJ ?_;refine rJ ?_;refine J8 ?_;refine yr ?_;refine eJ ?_;refine Jz ?_;refine qy ?_);exact hW.out)):p:=f ⟨h⟩
theorem J2{p q:Prop}(h:q)(f:Wq q->p:=by(intro hW;((first|(refine aLs rfl rfl rfl rfl ?_ ?_;(focus(apply bz;(conv=>lhs;whnf);(first|done|exact rfl|(apply br;(first|(apply aD;omega)|(apply aG;omega)|assumption|(simp;done)))))))|refine aLw rfl rfl rfl rfl cI BD ?_));exact hW.out)):p:=f ⟨h⟩
theorem zs133{p q:Prop}(h:q)(f:Wq q->p:=by(intro hW;((first|(refine aLs rfl rfl rfl rfl ?_ ?_;(focus(apply bz;(conv=>lhs;whnf);(first|done|exact rfl|(apply br;(first|(apply aD;omega)|(apply aG;omega)|assumption|(simp;done)))))))|refine aLw rfl rfl rfl rfl cI zb31 ?_));exact hW.out)):p:=f ⟨h⟩
theorem Dn{p q:Prop}(h:q)(f:Wq q->p:=by(intro hW;(refine nO ?_;refine zs93 ?_;refine nD ?_;refine zs4 ?_;refine J2 ?_;refine jO ?_;refine zs133 ?_;refine rG ?_);exact hW.out)):p:=f ⟨h⟩
theorem JG{p q:Prop}(h:q)(f:Wq q->p:=by(intro hW;(refine cE ?_;refine vK ?_;refine ff ?_;refine pQ ?_;refine aQ ?_);exact hW.out)):p:=f ⟨h⟩
end
section
open Go.RowKit
namespace DW
theorem KQ{dim:Int}{m:List (List Int)}:fB dim (m.drop m.length)=0:=by rw[pI];rfl
theorem Hk{dim:Int}{m:List (List Int)}{k:Nat}{l:List Int}(hl:m[k]?=some l)(h:(l.length:Int)≠dim):fB dim (m.drop k)=9:=by rw[qi hl,aj h]
theorem Ng{dim:Int}{m:List (List Int)}{k:Nat}{l:List Int}{z:Int}(hl:m[k]?=some l)(h:(l.length:Int)=dim)(hz:z∈l)(hb:inb 1000000000000000 z=false):fB dim (m.drop k)=2:=by
 rw[qi hl,an h,an];rw[ku];exact⟨z,hz,by unfold big;rw[hb];rfl⟩
theorem KR{dim:Int}{m:List (List Int)}{k:Nat}{l:List Int}(hl:m[k]?=some l)(h:(l.length:Int)=dim)(hb:∀z∈l,inb 1000000000000000 z=true):fB dim (m.drop k)=fB dim (m.drop (k+1)):=by
 rw[qi hl,an h,aj];intro h4;rw[ku]at h4;obtain⟨z,hz,h6⟩:=h4;unfold big at h6;rw[hb z hz]at h6;cases h6
set_option maxRecDepth 20000
set_option maxHeartbeats 2000000
theorem Ft(dim den:Int)(m:List (List Int))(hm:m.length<=1000000000):Fn Tryz.prog 32 [dL dim m den] (zI (lck dim m den)):=by
 have W1:=uK dim 1 6;have W2:=uK den 1 1000000000000000;by_cases c1:1<=dim/\dim<=6
 ·rw[show(decide (1<=dim)&&decide (dim<=6))=true by rw[aD c1.1,aD c1.2];rfl]at W1;by_cases c2:1<=den/\den<=1000000000000000
  ·rw[show(decide (1<=den)&&decide (den<=1000000000000000))=true by rw[aD c2.1,aD c2.2];rfl]at W2;have E:lck dim m den=if 64<m.length then 8 else fB dim m:=aj aa
   by_cases c3:64<m.length
   ·have EC:lck dim m den=8:=by rw[E,an c3]
    have hd:decide ((m.length:Int)>64)=true:=aD aa;refine bg Tryz.func32 ah rfl rfl rfl fun X0=>?_;simp only[aP];refine xe ?_;refine Dn ?_;refine bR ?_;refine rH ?_;refine zs5 ?_;refine zs7 ?_;refine aQ ?_;refine nJ ?_;rw[EC];exact⟨_,Sh.refl,.one (.tmp 2) _ rfl (.tmp 2 rfl)⟩
   ·have EC:lck dim m den=fB dim m:=by rw[E,aj c3]
    have hd:decide ((m.length:Int)>64)=false:=aG aa;obtain⟨n,rfl⟩:∃n:Nat,dim=n:=⟨dim.toNat,by omega⟩;clear E;rw[EC];refine bg Tryz.func32 ah rfl rfl rfl fun X0=>?_;simp only[aP];refine xe ?_;refine Dn ?_;refine bR ?_;refine rH ?_;refine zs5 ?_;refine zs7 ?_;refine aQ ?_;refine nL ?_
    (refine av (ay (sl':=[(1,.pt (dL n m den)),(3,zI 0)]) (ow':=[]) aF aH) ?_)
    refine bh (fun r s=>∃k,k<=m.length/\r=m.length-k/\fB n m=fB n (m.drop k)/\s=⟨[(1,.pt (dL n m den)),(3,zI (k:Nat))],[]⟩) (m:=m.length) ⟨0,aO _,rfl,rfl,rfl⟩ fun r s hs=>?_;obtain⟨k,hk,rfl,hsc,rfl⟩:=hs;by_cases hkl:k<m.length
    ·obtain⟨l,hl⟩:=get_some hkl;by_cases hln:l.length=n
     ·refine nI ?_;refine bA ?_;refine QS ?_;refine nL ?_
      (refine av (ay (sl':=[(1,.pt (dL n m den)),(3,zI (k:Nat)),(4,zI 0)]) (ow':=[]) aF aH) ?_)
      refine bh (fun r s=>∃j,j<=n/\r=n-j/\(∀z∈l.take j,inb 1000000000000000 z=true)/\s=⟨[(1,.pt (dL n m den)),(3,zI (k:Nat)),(4,zI (j:Nat))],[]⟩) (m:=n) ⟨0,aO _,rfl,fun z h=>absurd h aU,rfl⟩ fun r s hs=>?_;obtain⟨j,hj,rfl,hin,rfl⟩:=hs;by_cases hjl:j<n
      ·obtain⟨z,hz⟩:=get_some (m:=l) (k:=j) aa;have FT:=NQ z;by_cases hb:inb 1000000000000000 z=true
       ·rw[hb]at FT;refine zs2 ?_;refine JG ?_;refine bA ?_;refine QR ?_;refine mQ ?_;simp only[nx,inB];exact⟨n-(j+1),_,by omega,(ay (sl':=[(1,.pt (dL n m den)),(3,zI (k:Nat)),(4,zI ((j+1:Nat):Int))]) (ow':=[]) aF aH),j+1,by omega,rfl,fun x hx=>by
         rw[bF hz,gy]at hx;rcases hx with hx|hx
         ·exact hin x hx
         ·rw[bL.1 hx];exact hb,rfl⟩
       ·have hb':inb 1000000000000000 z=false:=by simpa using hb
        have EZ:=Ng (dim:=n) hl aa (bj hz) hb';rw[hb']at FT;refine zs2 ?_;refine JG ?_;refine bA ?_;refine QR ?_;refine nJ ?_;rw[hsc,EZ];exact⟨_,Sh.refl,.one (.tmp 2) _ rfl (.tmp 2 rfl)⟩
      ·obtain rfl:j=n:=by omega
       have hnx:=KR (dim:=j) hl aa (fun z hz=>hin z (by rw[cf aa];exact hz));refine zs2 ?_;refine JG ?_;refine mQ ?_;simp only[nx,inB];exact⟨m.length-(k+1),_,by omega,(ay (sl':=[(1,.pt (dL j m den)),(3,zI ((k+1:Nat):Int))]) (ow':=[]) aF aH),k+1,by omega,rfl,hsc.trans hnx,rfl⟩
     ·have EZ:=Hk (dim:=n) hl aa;refine nI ?_;refine bA ?_;refine QS ?_;refine nJ ?_;rw[hsc,EZ];exact⟨_,Sh.refl,.one (.tmp 2) _ rfl (.tmp 2 rfl)⟩
    ·obtain rfl:k=m.length:=by omega
     rw[KQ]at hsc;refine nI ?_;refine nL ?_;rw[hsc];exact⟨_,Sh.refl,.one (.tmp 2) _ rfl (.tmp 2 rfl)⟩
  ·rw[show(decide (1<=den)&&decide (den<=1000000000000000))=false by rw[zS,bW,bW];omega]at W2;have EC:lck dim m den=2:=an aa;refine bg Tryz.func32 ah rfl rfl rfl fun X0=>?_;simp only[aP];refine xe ?_;refine Dn ?_;refine nJ ?_;rw[EC];exact⟨_,Sh.refl,.one (.tmp 2) _ rfl (.tmp 2 rfl)⟩
 ·rw[show(decide (1<=dim)&&decide (dim<=6))=false by rw[zS,bW,bW];omega]at W1;have EC:lck dim m den=2:=an aa;refine bg Tryz.func32 ah rfl rfl rfl fun X0=>?_;simp only[aP];refine xe ?_;refine Dn ?_;refine nJ ?_;rw[EC];exact⟨_,Sh.refl,.one (.tmp 2) _ rfl (.tmp 2 rfl)⟩
end DW
end
end Go.Proofs.YtcgjmdpcplhanaaGreat
