/- Lemmas for the law: E33 -/
import Derived.Test.YtcgjmdpcplhanaaGreatZd13
namespace Go.Proofs.YtcgjmdpcplhanaaGreat
section
theorem QB{p q:Prop}(h:q)(f:Wq q->p:=by(intro hW;(refine wF ?_;refine zs4 ?_;refine wG ?_;refine rZ ?_;refine aX ?_);exact hW.out)):p:=f ⟨h⟩
theorem QC{p q:Prop}(h:q)(f:Wq q->p:=by(intro hW;(refine zs55 ?_;refine zs26 ?_;refine fR ?_;refine tH ?_;refine Dt ?_;refine uY ?_;refine fR ?_;refine AV ?_;refine jg ?_);exact hW.out)):p:=f ⟨h⟩
theorem zs129{p q:Prop}(h:q)(f:Wq q->p:=by(intro hW;((first|(refine aLs rfl rfl rfl rfl ?_ ?_;(focus(apply bh;(conv=>lhs;whnf);(first|done|exact rfl|(apply bg;(first|(apply au;omega)|(apply aw;omega)|assumption|(simp;done)))))))|refine aLw rfl rfl rfl rfl cE zb33 ?_));exact hW.out)):p:=f ⟨h⟩
theorem JO{p q:Prop}(h:q)(f:Wq q->p:=by(intro hW;((first|(refine aLs rfl rfl rfl rfl ?_ ?_;(focus(apply bh;(conv=>lhs;whnf);(first|done|exact rfl|(apply bg;(first|(apply au;omega)|(apply aw;omega)|assumption|(simp;done)))))))|refine aLw rfl rfl rfl rfl cE J4 ?_));exact hW.out)):p:=f ⟨h⟩
theorem CV{p q:Prop}(h:q)(f:Wq q->p:=by(intro hW;(refine pA ?_;refine zs91 ?_;refine rZ ?_;refine zs4 ?_;refine JO ?_;refine jW ?_;refine zs129 ?_;refine yd ?_;refine kT ?_);exact hW.out)):p:=f ⟨h⟩
theorem Jq{p q:Prop}(h:q)(f:Wq q->p:=by(intro hW;(refine cn ?_;refine yh ?_;refine ir ?_;refine mJ ?_;refine aX ?_);exact hW.out)):p:=f ⟨h⟩
end
section
open Go.RowKit
namespace DW
theorem KD{dim:Int}{m:List (List Int)}:eP dim (m.drop m.length)=0:=by rw[sS];rfl
theorem GX{dim:Int}{m:List (List Int)}{k:Nat}{l:List Int}(hl:m[k]?=some l)(h:(l.length:Int)≠dim):eP dim (m.drop k)=9:=by rw[pL hl,ah h]
theorem MY{dim:Int}{m:List (List Int)}{k:Nat}{l:List Int}{z:Int}(hl:m[k]?=some l)(h:(l.length:Int)=dim)(hz:z∈l)(hb:inb 1000000000000000 z=false):eP dim (m.drop k)=2:=by
 rw[pL hl,ak h,ak];rw[gT];exact⟨z,hz,by unfold big;rw[hb];rfl⟩
theorem KE{dim:Int}{m:List (List Int)}{k:Nat}{l:List Int}(hl:m[k]?=some l)(h:(l.length:Int)=dim)(hb:∀z∈l,inb 1000000000000000 z=true):eP dim (m.drop k)=eP dim (m.drop (k+1)):=by
 rw[pL hl,ak h,ah];intro h4;rw[gT]at h4;obtain⟨z,hz,h6⟩:=h4;unfold big at h6;rw[hb z hz]at h6;cases h6
set_option maxRecDepth 20000
set_option maxHeartbeats 2000000
theorem OU(dim den:Int)(m:List (List Int))(hm:m.length<=1000000000):Fn Tryz.prog 32 [dL dim m den] (zI (lck dim m den)):=by
 have W1:=tX dim 1 6;have W2:=tX den 1 1000000000000000;by_cases c1:1<=dim/\dim<=6
 ·rw[show(decide (1<=dim)&&decide (dim<=6))=true by rw[au c1.1,au c1.2];rfl]at W1;by_cases c2:1<=den/\den<=1000000000000000
  ·rw[show(decide (1<=den)&&decide (den<=1000000000000000))=true by rw[au c2.1,au c2.2];rfl]at W2;have E:lck dim m den=if 64<m.length then 8 else eP dim m:=ah aa
   by_cases c3:64<m.length
   ·have EC:lck dim m den=8:=by rw[E,ak c3]
    have hd:decide ((m.length:Int)>64)=true:=au aa;refine ba Tryz.func32 ai rfl rfl rfl fun X0=>?_;simp only[aO];refine ou ?_;refine CV ?_;refine bp ?_;refine wF ?_;refine zs5 ?_;refine zs7 ?_;refine aX ?_;refine lK ?_;rw[EC];exact⟨_,Sh.refl,.one (.tmp 2) _ rfl (.tmp 2 rfl)⟩
   ·have EC:lck dim m den=eP dim m:=by rw[E,ah c3]
    have hd:decide ((m.length:Int)>64)=false:=aw aa;obtain⟨n,rfl⟩:∃n:Nat,dim=n:=⟨dim.toNat,by omega⟩;clear E;rw[EC];refine ba Tryz.func32 ai rfl rfl rfl fun X0=>?_;simp only[aO];refine ou ?_;refine CV ?_;refine bp ?_;refine wF ?_;refine zs5 ?_;refine zs7 ?_;refine aX ?_;refine oh ?_
    (refine ay (aq (sl':=[(1,.pt (dL n m den)),(3,zI 0)]) (ow':=[]) az aD) ?_)
    refine bc (fun r s=>∃k,k<=m.length/\r=m.length-k/\eP n m=eP n (m.drop k)/\s=⟨[(1,.pt (dL n m den)),(3,zI (k:Nat))],[]⟩) (m:=m.length) ⟨0,aQ _,rfl,rfl,rfl⟩ fun r s hs=>?_;obtain⟨k,hk,rfl,hsc,rfl⟩:=hs;by_cases hkl:k<m.length
    ·obtain⟨l,hl⟩:=get_some hkl;by_cases hln:l.length=n
     ·refine mG ?_;refine bw ?_;refine QC ?_;refine oh ?_
      (refine ay (aq (sl':=[(1,.pt (dL n m den)),(3,zI (k:Nat)),(4,zI 0)]) (ow':=[]) az aD) ?_)
      refine bc (fun r s=>∃j,j<=n/\r=n-j/\(∀z∈l.take j,inb 1000000000000000 z=true)/\s=⟨[(1,.pt (dL n m den)),(3,zI (k:Nat)),(4,zI (j:Nat))],[]⟩) (m:=n) ⟨0,aQ _,rfl,fun z h=>absurd h aK,rfl⟩ fun r s hs=>?_;obtain⟨j,hj,rfl,hin,rfl⟩:=hs;by_cases hjl:j<n
      ·obtain⟨z,hz⟩:=get_some (m:=l) (k:=j) aa;have FT:=F4 z;by_cases hb:inb 1000000000000000 z=true
       ·rw[hb]at FT;refine zs2 ?_;refine Jq ?_;refine bw ?_;refine QB ?_;refine jx ?_;simp only[nx,inB];exact⟨n-(j+1),_,by omega,(aq (sl':=[(1,.pt (dL n m den)),(3,zI (k:Nat)),(4,zI ((j+1:Nat):Int))]) (ow':=[]) az aD),j+1,by omega,rfl,fun x hx=>by
         rw[bq hz,eY]at hx;rcases hx with hx|hx
         ·exact hin x hx
         ·rw[bU.1 hx];exact hb,rfl⟩
       ·have hb':inb 1000000000000000 z=false:=by simpa using hb
        have EZ:=MY (dim:=n) hl aa (bj hz) hb';rw[hb']at FT;refine zs2 ?_;refine Jq ?_;refine bw ?_;refine QB ?_;refine lK ?_;rw[hsc,EZ];exact⟨_,Sh.refl,.one (.tmp 2) _ rfl (.tmp 2 rfl)⟩
      ·obtain rfl:j=n:=by omega
       have hnx:=KE (dim:=j) hl aa (fun z hz=>hin z (by rw[cj aa];exact hz));refine zs2 ?_;refine Jq ?_;refine jx ?_;simp only[nx,inB];exact⟨m.length-(k+1),_,by omega,(aq (sl':=[(1,.pt (dL j m den)),(3,zI ((k+1:Nat):Int))]) (ow':=[]) az aD),k+1,by omega,rfl,hsc.trans hnx,rfl⟩
     ·have EZ:=GX (dim:=n) hl aa;refine mG ?_;refine bw ?_;refine QC ?_;refine lK ?_;rw[hsc,EZ];exact⟨_,Sh.refl,.one (.tmp 2) _ rfl (.tmp 2 rfl)⟩
    ·obtain rfl:k=m.length:=by omega
     rw[KD]at hsc;refine mG ?_;refine oh ?_;rw[hsc];exact⟨_,Sh.refl,.one (.tmp 2) _ rfl (.tmp 2 rfl)⟩
  ·rw[show(decide (1<=den)&&decide (den<=1000000000000000))=false by rw[vq,bN,bN];omega]at W2;have EC:lck dim m den=2:=ak aa;refine ba Tryz.func32 ai rfl rfl rfl fun X0=>?_;simp only[aO];refine ou ?_;refine CV ?_;refine lK ?_;rw[EC];exact⟨_,Sh.refl,.one (.tmp 2) _ rfl (.tmp 2 rfl)⟩
 ·rw[show(decide (1<=dim)&&decide (dim<=6))=false by rw[vq,bN,bN];omega]at W1;have EC:lck dim m den=2:=ak aa;refine ba Tryz.func32 ai rfl rfl rfl fun X0=>?_;simp only[aO];refine ou ?_;refine CV ?_;refine lK ?_;rw[EC];exact⟨_,Sh.refl,.one (.tmp 2) _ rfl (.tmp 2 rfl)⟩
end DW
end
end Go.Proofs.YtcgjmdpcplhanaaGreat
