/- Lemmas for the law: E48 -/
import Derived.Test.YtcgjmdpcplhanaaGreatZd19
namespace Go.Proofs.YtcgjmdpcplhanaaGreat
section
theorem zs157{p q:Prop}(h:q)(f:Wq q->p:=by(intro hW;((first|(refine aLs rfl rfl rfl rfl ?_ ?_;(focus(apply bh;(conv=>lhs;whnf);(first|done|exact rfl|(apply bg;(first|(apply au;omega)|(apply aw;omega)|assumption|(simp;done)))))))|refine aLw rfl rfl rfl rfl cE A7 ?_));exact hW.out)):p:=f ⟨h⟩
theorem Qp{p q:Prop}(h:q)(f:Wq q->p:=by(intro hW;(refine jv ?_;refine zs7 ?_;refine fM ?_;refine zs8 ?_;refine zs157 ?_;refine zs18 ?_;refine sb ?_;refine I8 ?_;refine kv ?_;refine aX ?_);exact hW.out)):p:=f ⟨h⟩
theorem zs158{p q:Prop}(h:q)(f:Wq q->p:=by(intro hW;((first|(first|(refine aHs rfl rfl rfl rfl rfl ?_ ?_;(focus(apply bh;(conv=>lhs;whnf);(first|done|exact rfl|(apply bg;(first|(apply au;omega)|(apply aw;omega)|assumption|(simp;done)))))))|refine qN rfl rfl rfl rfl rfl cE aj ve aj aj ?_)|((try refine aY ?_);(first|(refine aLs rfl rfl rfl rfl ?_ ?_;(focus(apply bh;(conv=>lhs;whnf);(first|done|exact rfl|(apply bg;(first|(apply au;omega)|(apply aw;omega)|assumption|(simp;done)))))))|refine aLw rfl rfl rfl rfl cE ve ?_))));exact hW.out)):p:=f ⟨h⟩
theorem zs159{p q:Prop}(h:q)(f:Wq q->p:=by(intro hW;((first|(first|(refine aHs rfl rfl rfl rfl rfl ?_ ?_;(focus(apply bh;(conv=>lhs;whnf);(first|done|exact rfl|(apply bg;(first|(apply au;omega)|(apply aw;omega)|assumption|(simp;done)))))))|refine qN rfl rfl rfl rfl rfl cE aj Ea aj aj ?_)|((try refine aY ?_);(first|(refine aLs rfl rfl rfl rfl ?_ ?_;(focus(apply bh;(conv=>lhs;whnf);(first|done|exact rfl|(apply bg;(first|(apply au;omega)|(apply aw;omega)|assumption|(simp;done)))))))|refine aLw rfl rfl rfl rfl cE Ea ?_))));exact hW.out)):p:=f ⟨h⟩
theorem Jj{p q:Prop}(h:q)(f:Wq q->p:=by(intro hW;(refine Du ?_;refine eV ?_;refine Dt ?_;refine uY ?_;refine fR ?_;refine AV ?_;refine eV ?_;refine C6 ?_;refine JT ?_;refine zs158 ?_;refine I5 ?_;refine zs159 ?_;refine I4 ?_;refine jg ?_);exact hW.out)):p:=f ⟨h⟩
end
section
open Go.RowKit
namespace DW
set_option maxRecDepth 20000
set_option maxHeartbeats 2000000
theorem OJ(M:Mx.Mat)(n:Nat)(h0:M≠[])(hm:M.length<=1000000)(hn:n<=1000000)(hR:Mx.Rc n M):Fn Tryz.prog 107 [dW M] (dW (Mx.trM n M)):=by
 have hml:0<M.length:=il.2 h0;obtain⟨r0,hr0⟩:=get_some hml;have hr0l:=hR r0 (bj hr0);have htl:=Mx.gL n M;have hc0:(0:Int)=((0:Nat):Int):=rfl;refine ba Tryz.func107 ai rfl rfl rfl fun X0=>?_;simp only[aO];refine kd ?_;refine eQ ?_;refine ay (da (t:=3) (k:=30) (T:=113) (wd:=1) fq rfl rfl cu) ?_
 (refine ay (aq (sl':=[(0,dW M),(3,.own 30),(4,zI 0)]) (ow':=[(30,⟨113,1,[]⟩)]) az aD) ?_)
 refine bc (fun r s=>∃k,k<=n/\r=n-k/\s=⟨[(0,dW M),(3,.own 30),(4,zI (k:Nat))],[(30,⟨113,1,((Mx.trM n M).take k).map dZ⟩)]⟩) (m:=n) ⟨0,aQ _,rfl,rfl⟩ fun r s hs=>?_;obtain⟨k,hk,rfl,rfl⟩:=hs;have hg1:decide ((0:Int)<(M.length:Int))=true:=au aa;by_cases hkn:k<n
 ·have htg:=Mx.Be M hkn;have hsn:=bq htg;have hfl:((Mx.trM n M).take k).length<=1000000:=by rw[aP];omega
  obtain⟨F,hF⟩:∃F,F=(Mx.trM n M).take k:=⟨_,rfl⟩;obtain⟨C,hC⟩:∃C:List Int,C=M.map fun r=>r.getD k 0:=⟨_,rfl⟩;rw[<-hF,<-hC]at hsn;rw[<-hF]at hfl;rw[<-hF];have hCl:C.length=M.length:=by rw[hC,bC]
  clear hF htg htl;refine zs2 ?_;refine Qp ?_;refine bw ?_;refine eQ ?_;refine ay (da (t:=5) (k:=5) (T:=62) (wd:=2) fq rfl rfl cu) ?_
  (refine ay (aq (sl':=[(0,dW M),(3,.own 30),(4,zI (k:Nat)),(5,.own 5),(6,zI 0)]) (ow':=[(5,⟨62,2,[]⟩),(30,⟨113,1,F.map dZ⟩)]) az aD) ?_)
  refine bc (fun r s=>∃i,i<=M.length/\r=M.length-i/\s=⟨[(0,dW M),(3,.own 30),(4,zI (k:Nat)),(5,.own 5),(6,zI (i:Nat))],[(5,⟨62,2,(C.take i).map .nm⟩),(30,⟨113,1,F.map dZ⟩)]⟩) (m:=M.length) ⟨0,aQ _,rfl,rfl⟩ fun r s hs=>?_;obtain⟨i,hi,rfl,rfl⟩:=hs;by_cases hil:i<M.length
  ·obtain⟨row,hrow⟩:=get_some hil;have hrl:=hR row (bj hrow);have hx:row[k]?=some (row.getD k 0):=uE aa;have hCg:C[i]?=some (row.getD k 0):=by rw[hC,bW,hrow];rfl
   have hks:=bq hCg;have hgl:(C.take i).length<=1000000:=by rw[aP];omega
   obtain⟨G,hG⟩:∃G,G=C.take i:=⟨_,rfl⟩;rw[<-hG]at hks hgl;rw[<-hG];clear hG hCg hC;refine dn ?_;refine Jl ?_;refine eU ?_;simp only[nx,inB];exact⟨M.length-(i+1),_,by omega,(aq (sl':=[(0,dW M),(3,.own 30),(4,zI (k:Nat)),(5,.own 5),(6,zI ((i+1:Nat):Int))]) (ow':=[(5,⟨62,2,G.map .nm++[.nm (row.getD k 0)]⟩),(30,⟨113,1,F.map dZ⟩)]) az aD),i+1,by omega,rfl,by rw[hks,db];rfl⟩
  ·obtain rfl:i=M.length:=by omega
   rw[cj aa];clear hC;refine eR ?_;refine ay (aA (k:=5) bf bA bz) ?_;refine wB ?_;simp only[nx,inB];exact⟨n-(k+1),_,by omega,(aq (sl':=[(0,dW M),(3,.own 30),(4,zI ((k+1:Nat):Int))]) (ow':=[(30,⟨113,1,F.map dZ++[dZ C]⟩)]) az aD),k+1,by omega,rfl,by rw[hsn,db];rfl⟩
 ·obtain rfl:k=n:=by omega
  rw[cj aa];refine zs2 ?_;refine Qp ?_;refine bp ?_;refine ay (aA (k:=30) bf bA bz) ?_;refine kb ?_;exact⟨_,Sh.refl,.one (.tmp 2) _ rfl (.tmp 2 rfl)⟩
def fmc(dim:Int)(f:Mx.Mat):Int:=if chk f≠0 then chk f else if(f.length:Int)=dim/\(wid f:Int)=dim then 0 else 9
theorem Hm(dim den:Int)(m f:Mx.Mat)(hf:f.length<=1000000000):Fn Tryz.prog 104 [dL dim m den,dM f] (zI (fmc dim f)):=by
 have CK:=T8 f hf;have CO:=wi f;by_cases hc:chk f=0
 ·rw[hc]at CK;by_cases h1:(f.length:Int)=dim
  ·have hd1:(!decide ((f.length:Int)=dim))=false:=by rw[au h1];rfl
   by_cases h2:(wid f:Int)=dim
   ·have EC:fmc dim f=0:=by unfold fmc;rw[ah (fun h=>h hc),ak ⟨h1,h2⟩]
    refine ba Tryz.func104 ai rfl rfl rfl fun X0=>?_;simp only[aO];refine ou ?_;refine oy ?_;refine qR ?_;refine Jj ?_;refine oh ?_;rw[EC];exact⟨_,Sh.refl,.one (.tmp 4) _ rfl (.tmp 4 rfl)⟩
   ·have EC:fmc dim f=9:=by unfold fmc;rw[ah (fun h=>h hc),ah (fun h=>h2 h.2)]
    refine ba Tryz.func104 ai rfl rfl rfl fun X0=>?_;simp only[aO];refine ou ?_;refine oy ?_;refine qR ?_;refine Jj ?_;refine lK ?_;rw[EC];exact⟨_,Sh.refl,.one (.tmp 4) _ rfl (.tmp 4 rfl)⟩
  ·have hd1:(!decide ((f.length:Int)=dim))=true:=by rw[aw h1];rfl
   have EC:fmc dim f=9:=by unfold fmc;rw[ah (fun h=>h hc),ah (fun h=>h1 h.1)]
   refine ba Tryz.func104 ai rfl rfl rfl fun X0=>?_;simp only[aO];refine ou ?_;refine oy ?_;refine qR ?_;refine Jj ?_;refine lK ?_;rw[EC];exact⟨_,Sh.refl,.one (.tmp 4) _ rfl (.tmp 4 rfl)⟩
 ·have EC:fmc dim f=chk f:=ak hc;rw[EC];clear EC;generalize chk f=C at*;refine ba Tryz.func104 ai rfl rfl rfl fun X0=>?_;simp only[aO];refine ou ?_;refine oy ?_;refine zs2 ?_;refine tL ?_;refine bw ?_;refine kb ?_;exact⟨_,Sh.refl,.one (.tmp 4) _ rfl (.tmp 4 rfl)⟩
theorem N7(M:Mx.Mat)(n:Nat)(h0:M≠[])(hm:M.length<=1000000)(hn0:0<n)(hn:n<=1000000)(hR:Mx.Rc n M):Fn Tryz.prog 98 [dW M] (dW (Mx.trM n M)):=by
 refine⟨enters_of Tryz.func98 ai rfl,fun X w vs hX hv=>?_⟩;simp only[ATp]at hv;obtain⟨v1,r1,e1,h1,rfl⟩:=hv;have:vs= #[v1]:=cQ.1 e1;subst this;exact(Bc M n v1 h0 hm hn w (qK h1 hR hn0)).mono fun e w' h=>yx (fun b hb=>(hX b hb).1) h
theorem Ht(dim den:Int)(m f:Mx.Mat)(hd:I64 dim)(hd2:I64 den)(hm:m.length<=1000000000)(hr:∀r∈m,r.length<=1000000000)(hf:f.length<=1000000000)(hfr:∀r∈f,r.length<=1000000000):Fn Tryz.prog 93 [dL dim m den,dM f] (zI (kj dim m den f)):=by
 refine⟨enters_of Tryz.func93 ai rfl,fun X w vs hX hv=>?_⟩;simp only[ATp]at hv;obtain⟨v1,r1,e1,h1,v2,r2,e2,h2,rfl⟩:=hv;subst e2;obtain⟨u,rfl,h3⟩:=CD h1;have:vs= #[.agg #[.int .i64 dim,u,.int .i64 den],v2]:=cQ.1 e1;subst this;exact(KO dim den m f u v2 hd hd2 hm hr hf hfr w (AA h3) (AA h2)).mono fun e w' ⟨h4,h5⟩=>⟨_,h4,BW _,h5⟩
end DW
end
end Go.Proofs.YtcgjmdpcplhanaaGreat
