/- Lemmas for the law: E33 -/
import Derived.Test.YtcgjmdpcplhanaaGreatZi11
namespace Go.Proofs.YtcgjmdpcplhanaaGreat
section
theorem zs125{p q:Prop}(h:q)(f:Wq q->p:=by(intro hW;((first|(refine aLs rfl rfl rfl rfl ?_ ?_;(focus(apply br;(conv=>lhs;whnf);(first|done|exact rfl|(apply bq;(first|(apply aB;omega)|(apply aF;omega)|assumption|(simp;done)))))))|refine aLw rfl rfl rfl rfl cE AI ?_));exact hW.out)):p:=f ⟨h⟩
theorem zs126{p q:Prop}(h:q)(f:Wq q->p:=by(intro hW;((first|(refine aLs rfl rfl rfl rfl ?_ ?_;(focus(apply br;(conv=>lhs;whnf);(first|done|exact rfl|(apply bq;(first|(apply aB;omega)|(apply aF;omega)|assumption|(simp;done)))))))|refine aLw rfl rfl rfl rfl cE zb30 ?_));exact hW.out)):p:=f ⟨h⟩
theorem Cn{p q:Prop}(h:q)(f:Wq q->p:=by(intro hW;(refine qC ?_;refine zs91 ?_;refine uH ?_;refine zs4 ?_;refine zs125 ?_;refine pL ?_;refine zs126 ?_;refine As ?_;refine lO ?_);exact hW.out)):p:=f ⟨h⟩
theorem IB{p q:Prop}(h:q)(f:Wq q->p:=by(intro hW;(refine cF ?_;refine xi ?_;refine gL ?_;refine oR ?_;refine bc ?_);exact hW.out)):p:=f ⟨h⟩
theorem Ps{p q:Prop}(h:q)(f:Wq q->p:=by(intro hW;(refine zs54 ?_;refine CX ?_;refine gG ?_;refine lh ?_;refine Qf ?_;refine Ay ?_;refine gG ?_;refine zs57 ?_;refine kH ?_);exact hW.out)):p:=f ⟨h⟩
theorem Pr{p q:Prop}(h:q)(f:Wq q->p:=by(intro hW;(refine te ?_;refine lP ?_;refine lP ?_;refine jx ?_;refine uH ?_;refine bc ?_);exact hW.out)):p:=f ⟨h⟩
end
section
open Go.RowKit
namespace DW
theorem JZ{dim:Int}{m:List (List Int)}:eY dim (m.drop m.length)=0:=by rw[rY];rfl
theorem Gj{dim:Int}{m:List (List Int)}{k:Nat}{l:List Int}(hl:m[k]?=some l)(h:(l.length:Int)≠dim):eY dim (m.drop k)=9:=by rw[px hl,ai h]
theorem LR{dim:Int}{m:List (List Int)}{k:Nat}{l:List Int}{z:Int}(hl:m[k]?=some l)(h:(l.length:Int)=dim)(hz:z∈l)(hb:inb 1000000000000000 z=false):eY dim (m.drop k)=2:=by
 rw[px hl,an h,an];rw[mO];exact⟨z,hz,by unfold big;rw[hb];rfl⟩
theorem J0{dim:Int}{m:List (List Int)}{k:Nat}{l:List Int}(hl:m[k]?=some l)(h:(l.length:Int)=dim)(hb:∀z∈l,inb 1000000000000000 z=true):eY dim (m.drop k)=eY dim (m.drop (k+1)):=by
 rw[px hl,an h,ai];intro h4;rw[mO]at h4;obtain⟨z,hz,h6⟩:=h4;unfold big at h6;rw[hb z hz]at h6;cases h6
set_option maxRecDepth 20000
set_option maxHeartbeats 2000000
theorem Eg(dim den:Int)(m:List (List Int))(hm:m.length<=1000000000):Fn Tryz.prog 32 [dL dim m den] (zI (lck dim m den)):=by
 have W1:=tH dim 1 6;have W2:=tH den 1 1000000000000000;by_cases c1:1<=dim/\dim<=6
 ·rw[show(decide (1<=dim)&&decide (dim<=6))=true by rw[aB c1.1,aB c1.2];rfl]at W1;by_cases c2:1<=den/\den<=1000000000000000
  ·rw[show(decide (1<=den)&&decide (den<=1000000000000000))=true by rw[aB c2.1,aB c2.2];rfl]at W2;have E:lck dim m den=if 64<m.length then 8 else eY dim m:=ai aa
   by_cases c3:64<m.length
   ·have EC:lck dim m den=8:=by rw[E,an c3]
    have hd:decide ((m.length:Int)>64)=true:=aB aa;refine bh Tryz.func32 ah rfl rfl rfl fun X0=>?_;simp only[aK];refine vR ?_;refine Cn ?_;refine bK ?_;refine te ?_;refine zs5 ?_;refine zs7 ?_;refine bc ?_;refine bs ?_;refine fI ?_;rw[EC];exact⟨_,Sh.refl,.one (.tmp 2) _ rfl (.tmp 2 rfl)⟩
   ·have EC:lck dim m den=eY dim m:=by rw[E,ai c3]
    have hd:decide ((m.length:Int)>64)=false:=aF aa;obtain⟨n,rfl⟩:∃n:Nat,dim=n:=⟨dim.toNat,by omega⟩;clear E;rw[EC];refine bh Tryz.func32 ah rfl rfl rfl fun X0=>?_;simp only[aK];refine vR ?_;refine Cn ?_;refine bK ?_;refine te ?_;refine zs5 ?_;refine zs7 ?_;refine bc ?_;refine bK ?_;refine fI ?_
    (refine av (aE (sl':=[(1,.pt (dL n m den)),(3,zI 0)]) (ow':=[]) aO aS) ?_)
    refine bB (fun r s=>∃k,k<=m.length/\r=m.length-k/\eY n m=eY n (m.drop k)/\s=⟨[(1,.pt (dL n m den)),(3,zI (k:Nat))],[]⟩) (m:=m.length) ⟨0,bg _,rfl,rfl,rfl⟩ fun r s hs=>?_;obtain⟨k,hk,rfl,hsc,rfl⟩:=hs;by_cases hkl:k<m.length
    ·obtain⟨l,hl⟩:=get_some hkl;by_cases hln:l.length=n
     ·refine mB ?_;refine bs ?_;refine Ps ?_;refine bK ?_;refine fI ?_
      (refine av (aE (sl':=[(1,.pt (dL n m den)),(3,zI (k:Nat)),(4,zI 0)]) (ow':=[]) aO aS) ?_)
      refine bB (fun r s=>∃j,j<=n/\r=n-j/\(∀z∈l.take j,inb 1000000000000000 z=true)/\s=⟨[(1,.pt (dL n m den)),(3,zI (k:Nat)),(4,zI (j:Nat))],[]⟩) (m:=n) ⟨0,bg _,rfl,fun z h=>absurd h aV,rfl⟩ fun r s hs=>?_;obtain⟨j,hj,rfl,hin,rfl⟩:=hs;by_cases hjl:j<n
      ·obtain⟨z,hz⟩:=get_some (m:=l) (k:=j) aa;have FT:=Mq z;by_cases hb:inb 1000000000000000 z=true
       ·rw[hb]at FT;refine zs2 ?_;refine IB ?_;refine bs ?_;refine Pr ?_;refine qB ?_;simp only[nx,inB];exact⟨n-(j+1),_,by omega,(aE (sl':=[(1,.pt (dL n m den)),(3,zI (k:Nat)),(4,zI ((j+1:Nat):Int))]) (ow':=[]) aO aS),j+1,by omega,rfl,fun x hx=>by
         rw[cM hz,gA]at hx;rcases hx with hx|hx
         ·exact hin x hx
         ·rw[cr.1 hx];exact hb,rfl⟩
       ·have hb':inb 1000000000000000 z=false:=by simpa using hb
        have EZ:=LR (dim:=n) hl aa (bG hz) hb';rw[hb']at FT;refine zs2 ?_;refine IB ?_;refine bs ?_;refine Pr ?_;refine bs ?_;refine fI ?_;rw[hsc,EZ];exact⟨_,Sh.refl,.one (.tmp 2) _ rfl (.tmp 2 rfl)⟩
      ·obtain rfl:j=n:=by omega
       have hnx:=J0 (dim:=j) hl aa (fun z hz=>hin z (by rw[cw aa];exact hz));refine zs2 ?_;refine IB ?_;refine qB ?_;simp only[nx,inB];exact⟨m.length-(k+1),_,by omega,(aE (sl':=[(1,.pt (dL j m den)),(3,zI ((k+1:Nat):Int))]) (ow':=[]) aO aS),k+1,by omega,rfl,hsc.trans hnx,rfl⟩
     ·have EZ:=Gj (dim:=n) hl aa;refine mB ?_;refine bs ?_;refine Ps ?_;refine bs ?_;refine fI ?_;rw[hsc,EZ];exact⟨_,Sh.refl,.one (.tmp 2) _ rfl (.tmp 2 rfl)⟩
    ·obtain rfl:k=m.length:=by omega
     rw[JZ]at hsc;refine mB ?_;refine bK ?_;refine fI ?_;rw[hsc];exact⟨_,Sh.refl,.one (.tmp 2) _ rfl (.tmp 2 rfl)⟩
  ·rw[show(decide (1<=den)&&decide (den<=1000000000000000))=false by rw[yK,bU,bU];omega]at W2;have EC:lck dim m den=2:=an aa;refine bh Tryz.func32 ah rfl rfl rfl fun X0=>?_;simp only[aK];refine vR ?_;refine Cn ?_;refine bs ?_;refine fI ?_;rw[EC];exact⟨_,Sh.refl,.one (.tmp 2) _ rfl (.tmp 2 rfl)⟩
 ·rw[show(decide (1<=dim)&&decide (dim<=6))=false by rw[yK,bU,bU];omega]at W1;have EC:lck dim m den=2:=an aa;refine bh Tryz.func32 ah rfl rfl rfl fun X0=>?_;simp only[aK];refine vR ?_;refine Cn ?_;refine bs ?_;refine fI ?_;rw[EC];exact⟨_,Sh.refl,.one (.tmp 2) _ rfl (.tmp 2 rfl)⟩
end DW
end
end Go.Proofs.YtcgjmdpcplhanaaGreat
