/- Lemmas for the law: E48 E46 -/
import Derived.Test.YtcgjmdpcplhanaaGreatZg15
namespace Go.Proofs.YtcgjmdpcplhanaaGreat
section
theorem zs136{p q:Prop}(h:q)(f:Wq q->p:=by(intro hW;((first|(first|(refine aHs rfl rfl rfl rfl rfl ?_ ?_;(focus(apply aJ;(conv=>lhs;whnf);(first|done|exact rfl|(apply aG;(first|(apply decide_eq_true;omega)|(apply decide_eq_false;omega)|assumption|(simp;done)))))))|refine kV rfl rfl rfl rfl rfl bp ae vT ae ae ?_)|((try refine aB ?_);(first|(refine aLs rfl rfl rfl rfl ?_ ?_;(focus(apply aJ;(conv=>lhs;whnf);(first|done|exact rfl|(apply aG;(first|(apply decide_eq_true;omega)|(apply decide_eq_false;omega)|assumption|(simp;done)))))))|refine aLw rfl rfl rfl rfl bp vT ?_))));exact hW.out)):p:=f ⟨h⟩
theorem zs135{p q:Prop}(h:q)(f:Wq q->p:=by(intro hW;((first|(first|(refine aHs rfl rfl rfl rfl rfl ?_ ?_;(focus(apply aJ;(conv=>lhs;whnf);(first|done|exact rfl|(apply aG;(first|(apply decide_eq_true;omega)|(apply decide_eq_false;omega)|assumption|(simp;done)))))))|refine kV rfl rfl rfl rfl rfl bp ae qy ae ae ?_)|((try refine aB ?_);(first|(refine aLs rfl rfl rfl rfl ?_ ?_;(focus(apply aJ;(conv=>lhs;whnf);(first|done|exact rfl|(apply aG;(first|(apply decide_eq_true;omega)|(apply decide_eq_false;omega)|assumption|(simp;done)))))))|refine aLw rfl rfl rfl rfl bp qy ?_))));exact hW.out)):p:=f ⟨h⟩
theorem Ab{p q:Prop}(h:q)(f:Wq q->p:=by(intro hW;((refine zV ?_;refine aR ?_;refine sX ?_;refine og ?_;refine bq ?_;refine sY ?_;refine aR ?_;refine fY ?_;refine Ay ?_;refine zs135 ?_;refine lM ?_;refine zs136 ?_;refine zT ?_;refine cP ?_));exact hW.out)):p:=f ⟨h⟩
theorem zs134{p q:Prop}(h:q)(f:Wq q->p:=by(intro hW;((first|(refine aLs rfl rfl rfl rfl ?_ ?_;(focus(apply aJ;(conv=>lhs;whnf);(first|done|exact rfl|(apply aG;(first|(apply decide_eq_true;omega)|(apply decide_eq_false;omega)|assumption|(simp;done)))))))|refine aLw rfl rfl rfl rfl bp zb8 ?_));exact hW.out)):p:=f ⟨h⟩
theorem GA{p q:Prop}(h:q)(f:Wq q->p:=by(intro hW;((refine gar ?_;refine zs4 ?_;refine zs5 ?_;refine zs7 ?_;refine zs4 ?_;refine zs8 ?_;refine zs8 ?_;refine zs134 ?_;refine zs18 ?_;refine jH ?_;refine vG ?_;refine gB ?_;refine af ?_));exact hW.out)):p:=f ⟨h⟩
end
section
open Go.RowKit
namespace DW
set_option maxRecDepth 20000
set_option maxHeartbeats 2000000
theorem Fp(M:Mx.Mat)(n:Nat)(h0:M≠[])(hm:M.length<=1000000)(hn:n<=1000000)(hR:Mx.Rc n M):Fn Tryz.prog 107 [dW M] (dW (Mx.trM n M)):=by
 have hml:0<M.length:=List.length_pos_iff.2 h0;obtain⟨r0,hr0⟩:=get_some hml;have hr0l:=hR r0 (List.mem_of_getElem? hr0);have htl:=Mx.pD n M;have hc0:(0:Int)=((0:Nat):Int):=rfl;refine aP Tryz.func107 aa rfl rfl rfl fun X0=>?_;simp only[aD]
 (repeat(first|refine gk fun K hK=>?_|refine zs2 ?_));refine bK ?_;(repeat(first|refine gk fun K hK=>?_|refine zs2 ?_));refine bK ?_;(repeat(first|refine gk fun K hK=>?_|refine zs2 ?_));refine aH ?_;(repeat(first|refine gk fun K hK=>?_|refine zs2 ?_))
 refine ak (cn (t:=3) (k:=30) (T:=113) (wd:=1) cr rfl rfl bD) ?_
 (refine ak (ai (sl':=[(0,dW M),(3,.own 30),(4,zI 0)]) (ow':=[(30,⟨113,1,[]⟩)]) an aw) ?_)
 refine aE (fun r s=>∃k,k<=n/\r=n-k/\s=⟨[(0,dW M),(3,.own 30),(4,zI (k:Nat))],[(30,⟨113,1,((Mx.trM n M).take k).map dZ⟩)]⟩) (m:=n) ⟨0,Nat.zero_le _,rfl,rfl⟩ fun r s hs=>?_;obtain⟨k,hk,rfl,rfl⟩:=hs;have hg1:decide ((0:Int)<(M.length:Int))=true:=decide_eq_true (by omega);by_cases hkn:k<n
 ·have htg:=Mx.tE M hkn;have hsn:=ba htg;have hfl:((Mx.trM n M).take k).length<=1000000:=by rw[List.length_take];omega
  obtain⟨F,hF⟩:∃F,F=(Mx.trM n M).take k:=⟨_,rfl⟩;obtain⟨C,hC⟩:∃C:List Int,C=M.map fun r=>r.getD k 0:=⟨_,rfl⟩;rw[<-hF,<-hC]at hsn;rw[<-hF]at hfl;rw[<-hF];have hCl:C.length=M.length:=by rw[hC,List.length_map]
  clear hF htg htl
  (repeat(first|refine gk fun K hK=>?_|refine zs2 ?_));refine GA ?_;(repeat(first|refine gk fun K hK=>?_|refine zs2 ?_))
  refine av ?_
  (repeat(first|refine gk fun K hK=>?_|refine zs2 ?_));refine bK ?_;(repeat(first|refine gk fun K hK=>?_|refine zs2 ?_));refine aH ?_;(repeat(first|refine gk fun K hK=>?_|refine zs2 ?_))
  refine ak (cn (t:=5) (k:=5) (T:=62) (wd:=2) cr rfl rfl bD) ?_
  (refine ak (ai (sl':=[(0,dW M),(3,.own 30),(4,zI (k:Nat)),(5,.own 5),(6,zI 0)]) (ow':=[(5,⟨62,2,[]⟩),(30,⟨113,1,F.map dZ⟩)]) an aw) ?_)
  refine aE (fun r s=>∃i,i<=M.length/\r=M.length-i/\s=⟨[(0,dW M),(3,.own 30),(4,zI (k:Nat)),(5,.own 5),(6,zI (i:Nat))],[(5,⟨62,2,(C.take i).map .nm⟩),(30,⟨113,1,F.map dZ⟩)]⟩) (m:=M.length) ⟨0,Nat.zero_le _,rfl,rfl⟩ fun r s hs=>?_;obtain⟨i,hi,rfl,rfl⟩:=hs;by_cases hil:i<M.length
  ·obtain⟨row,hrow⟩:=get_some hil;have hrl:=hR row (List.mem_of_getElem? hrow);have hx:row[k]?=some (row.getD k 0):=kG (by omega);have hCg:C[i]?=some (row.getD k 0):=by rw[hC,List.getElem?_map,hrow];rfl
   have hks:=ba hCg;have hgl:(C.take i).length<=1000000:=by rw[List.length_take];omega
   obtain⟨G,hG⟩:∃G,G=C.take i:=⟨_,rfl⟩;rw[<-hG]at hks hgl;rw[<-hG];clear hG hCg hC
   (repeat(first|refine gk fun K hK=>?_|refine zs2 ?_));refine aK ?_;(repeat(first|refine gk fun K hK=>?_|refine zs2 ?_))
   refine av ?_
   (repeat(first|refine gk fun K hK=>?_|refine zs2 ?_));(refine gar ?_;refine zs4 ?_;refine zs4 ?_;refine zs4 ?_;refine dB ?_;refine aS ?_;refine zs4 ?_;refine dB ?_;refine aS ?_;refine jI ?_;refine ta ?_;refine zs6 ?_;refine af ?_);(repeat(first|refine gk fun K hK=>?_|refine zs2 ?_));refine aX ?_;(repeat(first|refine gk fun K hK=>?_|refine zs2 ?_))
   simp only[nx,inB];exact⟨M.length-(i+1),_,by omega,(ai (sl':=[(0,dW M),(3,.own 30),(4,zI (k:Nat)),(5,.own 5),(6,zI ((i+1:Nat):Int))]) (ow':=[(5,⟨62,2,G.map .nm++[.nm (row.getD k 0)]⟩),(30,⟨113,1,F.map dZ⟩)]) an aw),i+1,by omega,rfl,by rw[hks,List.map_append];rfl⟩
  ·obtain rfl:i=M.length:=by omega
   rw[List.take_of_length_le (by omega)];clear hC
   (repeat(first|refine gk fun K hK=>?_|refine zs2 ?_));refine aK ?_;(repeat(first|refine gk fun K hK=>?_|refine zs2 ?_))
   refine az ?_
   (repeat(first|refine gk fun K hK=>?_|refine zs2 ?_))
   refine ak (aF (k:=5) aZ bB bA) ?_;refine mP ?_
   (repeat(first|refine gk fun K hK=>?_|refine zs2 ?_))
   refine aX ?_;simp only[nx,inB];exact⟨n-(k+1),_,by omega,(ai (sl':=[(0,dW M),(3,.own 30),(4,zI ((k+1:Nat):Int))]) (ow':=[(30,⟨113,1,F.map dZ++[dZ C]⟩)]) an aw),k+1,by omega,rfl,by rw[hsn,List.map_append];rfl⟩
 ·obtain rfl:k=n:=by omega
  rw[List.take_of_length_le (by omega)]
  (repeat(first|refine gk fun K hK=>?_|refine zs2 ?_));refine GA ?_;(repeat(first|refine gk fun K hK=>?_|refine zs2 ?_))
  refine az ?_
  (repeat(first|refine gk fun K hK=>?_|refine zs2 ?_))
  refine ak (aF (k:=30) aZ bB bA) ?_;refine fC ?_
  (repeat(first|refine gk fun K hK=>?_|refine zs2 ?_))
  exact⟨_,Sh.refl,.one (.tmp 2) _ rfl (.tmp 2 rfl)⟩
def fmc(dim:Int)(f:Mx.Mat):Int:=if chk f≠0 then chk f else if(f.length:Int)=dim/\(wid f:Int)=dim then 0 else 9
theorem Jc(dim den:Int)(m f:Mx.Mat)(hf:f.length<=1000000000):Fn Tryz.prog 104 [dL dim m den,dM f] (zI (fmc dim f)):=by
 have CK:=JR f hf;have CO:=va f;by_cases hc:chk f=0
 ·rw[hc]at CK;by_cases h1:(f.length:Int)=dim
  ·have hd1:(!decide ((f.length:Int)=dim))=false:=by rw[decide_eq_true h1];rfl
   by_cases h2:(wid f:Int)=dim
   ·have EC:fmc dim f=0:=by unfold fmc;rw[if_neg (fun h=>h hc),if_pos ⟨h1,h2⟩]
    refine aP Tryz.func104 aa rfl rfl rfl fun X0=>?_;simp only[aD]
    (repeat(first|refine gk fun K hK=>?_|refine zs2 ?_));refine jq ?_;(repeat(first|refine gk fun K hK=>?_|refine zs2 ?_));refine kY ?_;(repeat(first|refine gk fun K hK=>?_|refine zs2 ?_));refine eO ?_;(repeat(first|refine gk fun K hK=>?_|refine zs2 ?_))
    refine az ?_
    (repeat(first|refine gk fun K hK=>?_|refine zs2 ?_));refine Ab ?_;(repeat(first|refine gk fun K hK=>?_|refine zs2 ?_))
    refine az ?_
    (repeat(first|refine gk fun K hK=>?_|refine zs2 ?_));refine aH ?_;(repeat(first|refine gk fun K hK=>?_|refine zs2 ?_))
    rw[EC];exact⟨_,Sh.refl,.one (.tmp 4) _ rfl (.tmp 4 rfl)⟩
   ·have EC:fmc dim f=9:=by unfold fmc;rw[if_neg (fun h=>h hc),if_neg (fun h=>h2 h.2)]
    refine aP Tryz.func104 aa rfl rfl rfl fun X0=>?_;simp only[aD]
    (repeat(first|refine gk fun K hK=>?_|refine zs2 ?_));refine jq ?_;(repeat(first|refine gk fun K hK=>?_|refine zs2 ?_));refine kY ?_;(repeat(first|refine gk fun K hK=>?_|refine zs2 ?_));refine eO ?_;(repeat(first|refine gk fun K hK=>?_|refine zs2 ?_))
    refine az ?_
    (repeat(first|refine gk fun K hK=>?_|refine zs2 ?_));refine Ab ?_;(repeat(first|refine gk fun K hK=>?_|refine zs2 ?_))
    refine av ?_
    (repeat(first|refine gk fun K hK=>?_|refine zs2 ?_));refine aH ?_;(repeat(first|refine gk fun K hK=>?_|refine zs2 ?_))
    rw[EC];exact⟨_,Sh.refl,.one (.tmp 4) _ rfl (.tmp 4 rfl)⟩
  ·have hd1:(!decide ((f.length:Int)=dim))=true:=by rw[decide_eq_false h1];rfl
   have EC:fmc dim f=9:=by unfold fmc;rw[if_neg (fun h=>h hc),if_neg (fun h=>h1 h.1)]
   refine aP Tryz.func104 aa rfl rfl rfl fun X0=>?_;simp only[aD]
   (repeat(first|refine gk fun K hK=>?_|refine zs2 ?_));refine jq ?_;(repeat(first|refine gk fun K hK=>?_|refine zs2 ?_));refine kY ?_;(repeat(first|refine gk fun K hK=>?_|refine zs2 ?_));refine eO ?_;(repeat(first|refine gk fun K hK=>?_|refine zs2 ?_))
   refine az ?_
   (repeat(first|refine gk fun K hK=>?_|refine zs2 ?_));refine Ab ?_;(repeat(first|refine gk fun K hK=>?_|refine zs2 ?_))
   refine av ?_
   (repeat(first|refine gk fun K hK=>?_|refine zs2 ?_));refine aH ?_;(repeat(first|refine gk fun K hK=>?_|refine zs2 ?_))
   rw[EC];exact⟨_,Sh.refl,.one (.tmp 4) _ rfl (.tmp 4 rfl)⟩
 ·have EC:fmc dim f=chk f:=if_pos hc;rw[EC];clear EC;generalize chk f=C at*;refine aP Tryz.func104 aa rfl rfl rfl fun X0=>?_;simp only[aD]
  (repeat(first|refine gk fun K hK=>?_|refine zs2 ?_));refine jq ?_;(repeat(first|refine gk fun K hK=>?_|refine zs2 ?_));refine kY ?_;(repeat(first|refine gk fun K hK=>?_|refine zs2 ?_));refine eO ?_;(repeat(first|refine gk fun K hK=>?_|refine zs2 ?_))
  refine av ?_
  (repeat(first|refine gk fun K hK=>?_|refine zs2 ?_));refine fC ?_;(repeat(first|refine gk fun K hK=>?_|refine zs2 ?_))
  exact⟨_,Sh.refl,.one (.tmp 4) _ rfl (.tmp 4 rfl)⟩
theorem EI(M:Mx.Mat)(n:Nat)(h0:M≠[])(hm:M.length<=1000000)(hn0:0<n)(hn:n<=1000000)(hR:Mx.Rc n M):Fn Tryz.prog 98 [dW M] (dW (Mx.trM n M)):=by
 refine⟨enters_of Tryz.func98 aa rfl,fun X w vs hX hv=>?_⟩;simp only[ATp]at hv;obtain⟨v1,r1,e1,h1,rfl⟩:=hv;have:vs= #[v1]:=Array.toList_inj.1 e1;subst this;exact(tD M n v1 h0 hm hn w (kQ h1 hR hn0)).mono fun e w' h=>qL (fun b hb=>(hX b hb).1) h
theorem IB(M:Mx.Mat)(n:Nat)(k:Int)(hm:M.length<=1000000)(hn0:0<n)(hn:n<=1000000)(hR:Mx.Rc n M)(fk:Fit k)(hf:∀i j,Fit (Mx.at' M i j)):Fn Tryz.prog 118 [dW M,.nm k] (.nm (gM M k)):=by
 refine⟨enters_of Tryz.func118 aa rfl,fun X w vs hX hv=>?_⟩;simp only[ATp]at hv;obtain⟨v1,r1,e1,h1,v2,r2,e2,h2,rfl⟩:=hv;simp only[AR]at h2;obtain⟨K,rfl,hK⟩:=h2;subst e2;have:vs= #[v1,.agg #[.bool K.s,.slice K.a K.n K.cap]]:=Array.toList_inj.1 e1;subst this;exact(oQ M n v1 K k hm hn fk hf w (kQ h1 hR hn0) hK).mono fun e w' ⟨⟨z,h3,h4⟩,h5⟩=>⟨_,h3,by simp only[AR];exact⟨z,rfl,h4⟩,h5⟩
theorem Ix(M:Mx.Mat)(n:Nat)(k:Int)(hm:M.length<=1000000)(hn0:0<n)(hn:n<=1000000)(hR:Mx.Rc n M)(fk:Fit k)(hf:∀i j,Fit (Mx.at' M i j)):Fn Tryz.prog 119 [dW M,.nm k] (dW (mapM (fun z=>z/k) M)):=by
 refine⟨enters_of Tryz.func119 aa rfl,fun X w vs hX hv=>?_⟩;simp only[ATp]at hv;obtain⟨v1,r1,e1,h1,v2,r2,e2,h2,rfl⟩:=hv;simp only[AR]at h2;obtain⟨K,rfl,hK⟩:=h2;subst e2;have:vs= #[v1,.agg #[.bool K.s,.slice K.a K.n K.cap]]:=Array.toList_inj.1 e1;subst this;exact(uK M n v1 K k hm hn fk hf w (kQ h1 hR hn0) hK).mono fun e w' h=>qL (fun b hb=>(hX b hb).1) h
theorem Ki(u v:Int)(fu:Fit u)(fv:Fit v):Fn Tryz.prog 121 [.nm u,.nm v] (.nm (u/v)):=by
 refine⟨enters_of Tryz.func121 aa rfl,fun X w vs hX hv=>?_⟩;simp only[ATp,AR]at hv;obtain⟨v1,r1,e1,⟨x,rfl,hx⟩,v2,r2,e2,⟨y,rfl,hy⟩,rfl⟩:=hv;subst e2;have:vs= #[.agg #[.bool x.s,.slice x.a x.n x.cap],.agg #[.bool y.s,.slice y.a y.n y.cap]]:=Array.toList_inj.1 e1;subst this;exact(fH x y u v fu fv w hx.ip hy.ip).mono fun e w' ⟨⟨z,h1,h2⟩,h3⟩=>⟨_,h1,by simp only[AR];exact⟨z,rfl,h2⟩,h3⟩
theorem Jj(dim den:Int)(m f:Mx.Mat)(hd:I64 dim)(hd2:I64 den)(hm:m.length<=1000000000)(hr:∀r∈m,r.length<=1000000000)(hf:f.length<=1000000000)(hfr:∀r∈f,r.length<=1000000000):Fn Tryz.prog 93 [dL dim m den,dM f] (zI (eY dim m den f)):=by
 refine⟨enters_of Tryz.func93 aa rfl,fun X w vs hX hv=>?_⟩;simp only[ATp]at hv;obtain⟨v1,r1,e1,h1,v2,r2,e2,h2,rfl⟩:=hv;subst e2;obtain⟨u,rfl,h3⟩:=Er h1;have:vs= #[.agg #[.int .i64 dim,u,.int .i64 den],v2]:=Array.toList_inj.1 e1;subst this;exact(Bw dim den m f u v2 hd hd2 hm hr hf hfr w (xQ h3) (xQ h2)).mono fun e w' ⟨h4,h5⟩=>⟨_,h4,BQ _,h5⟩
end DW
end
section
open Go.RowKit
namespace DW
set_option maxRecDepth 20000
set_option maxHeartbeats 2000000
def onD(o:List Int):D:=if o.all (inb 1000000000000000)=true then .tp [dM [o],.sc (.bool true)]else .tp [dM [],.sc (.bool false)]
theorem Da(o:List Int)(hl:o.length<=1000000)(hf:∀z∈o,(hd z.natAbs).length<=199999999):Fn Tryz.prog 77 [dW [o]] (onD o):=by
 have:=wP [o] (by simp) (fun l h=>by rw[List.mem_singleton.1 h];exact hl) (fun l h z hz=>by rw[List.mem_singleton.1 h]at hz;exact hf z hz);unfold nrw at this;rw[show([o]:Mx.Mat).all (fun l=>l.all (inb 1000000000000000))=o.all (inb 1000000000000000) by simp]at this;exact this
end DW
end
end Go.Proofs.YtcgjmdpcplhanaaGreat
