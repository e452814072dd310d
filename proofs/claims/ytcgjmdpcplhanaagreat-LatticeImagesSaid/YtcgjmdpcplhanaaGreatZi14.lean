/- Lemmas for the law: E38 L2 E37 -/
import Derived.Test.YtcgjmdpcplhanaaGreatZi13
namespace Go.Proofs.YtcgjmdpcplhanaaGreat
section
theorem uo{p q:Prop}(h:q)(f:Wq q→p:=by(intro hW;((refine gar ?_;refine GA ?_;refine zs4 ?_;refine cv ?_;refine zs6 ?_;refine af ?_));exact hW.out)):p:=f ⟨h⟩
theorem um{p q:Prop}(h:q)(f:Wq q→p:=by(intro hW;((refine gar ?_;refine zs4 ?_;refine zs5 ?_;refine ew ?_;refine aK ?_;refine uQ ?_;refine zs4 ?_;refine zs8 ?_;refine pV ?_;refine zH ?_;refine lD ?_;refine cP ?_;refine af ?_));exact hW.out)):p:=f ⟨h⟩
theorem zs144{p q:Prop}(h:q)(f:Wq q→p:=by(intro hW;((refine bL (k:=4) (z:=(.agg #[.int .i64 0,.slice none 0 0,.int .i64 0])) (d:=(.st [.sc (.int .i64 0),.sc (.slice none 0 0),.sc (.int .i64 0)])) rfl rfl rfl rfl rfl aa ae ae bN ae ae bj ?_));exact hW.out)):p:=f ⟨h⟩
theorem kP{p q:Prop}(h:q)(f:Wq q→p:=by(intro hW;((refine gar ?_;refine ez ?_;refine ez ?_;refine zs144 ?_;refine gg ?_;refine af ?_));exact hW.out)):p:=f ⟨h⟩
theorem zd{p q:Prop}(h:q)(f:Wq q→p:=by(intro hW;((refine gar ?_;refine ew ?_;refine aK ?_;refine cw ?_;refine iP ?_;refine zs4 ?_;refine jK ?_;refine cC ?_;refine zH ?_;refine lD ?_;refine cP ?_;refine af ?_));exact hW.out)):p:=f ⟨h⟩
end
section
open Go.RowKit
namespace DW
abbrev dF(n d:Int):D:=.st [zI n,zI d]
set_option maxRecDepth 20000
set_option maxHeartbeats 2000000
theorem Et(M:Mx.Mat)(z:Int)(hM:M.length≤1000000)(hl:∀l∈M,l.length≤1000000)(hz:Hf z)(hx:∀l∈M,∀x∈l,Hf x):Fn Tryz.prog 108 [dW M,.nm z] (dW (mapM (fun x=>x*z) M)):=by
 refine aE Tryz.func108 aa rfl rfl rfl fun X0=>?_
 simp only[ay]
 (repeat(first|refine gk fun K hK=>?_|refine zs2 ?_));refine zF ?_;(repeat(first|refine gk fun K hK=>?_|refine zs2 ?_));refine bZ ?_;(repeat(first|refine gk fun K hK=>?_|refine zs2 ?_));refine aS ?_;(repeat(first|refine gk fun K hK=>?_|refine zs2 ?_))
 refine aw (ct (t:=5) (k:=5) (T:=113) (wd:=1) eA rfl rfl bj) ?_
 (refine aw (ak (sl':=[(0,dW M),(3,.pt (.nm z)),(5,.own 5),(6,zI 0)]) (ow':=[(5,⟨113,1,[]⟩)]) az aB) ?_)
 refine aJ (fun r s=>∃i,i≤M.length∧r=M.length-i∧s=⟨[(0,dW M),(3,.pt (.nm z)),(5,.own 5),(6,zI (i:Nat))],[(5,⟨113,1,((mapM (fun x=>x*z) M).take i).map dZ⟩)]⟩) (m:=M.length) ⟨0,Nat.zero_le _,rfl,rfl⟩ fun r s hs=>?_
 obtain⟨i,hi,rfl,rfl⟩:=hs
 have htl:(mapM (fun x=>x*z) M).length=M.length:=b7 _ _
 by_cases hil:i<M.length
 ·obtain⟨row,hrow⟩:=get_some hil
  have hmem:=List.mem_of_getElem? hrow
  have hlr:=hl row hmem
  have hti:(mapM (fun x=>x*z) M)[i]?=some (row.map fun x=>x*z):=by unfold mapM;rw[List.getElem?_map,hrow];rfl
  have hsn:=bc hti
  have hfl:((mapM (fun x=>x*z) M).take i).length≤1000000:=by rw[List.length_take];omega
  obtain⟨F,hF⟩:∃F,F=(mapM (fun x=>x*z) M).take i:=⟨_,rfl⟩
  obtain⟨R,hR⟩:∃R,R=row.map fun x=>x*z:=⟨_,rfl⟩
  rw[←hF,←hR]at hsn
  rw[←hF]at hfl
  rw[←hF]
  have hRl:R.length=row.length:=by rw[hR,List.length_map]
  clear hF hti htl
  (repeat(first|refine gk fun K hK=>?_|refine zs2 ?_));refine aX ?_;(repeat(first|refine gk fun K hK=>?_|refine zs2 ?_))
  refine ao ?_
  (repeat(first|refine gk fun K hK=>?_|refine zs2 ?_));refine bZ ?_;(repeat(first|refine gk fun K hK=>?_|refine zs2 ?_));refine aS ?_;(repeat(first|refine gk fun K hK=>?_|refine zs2 ?_))
  refine aw (ct (t:=7) (k:=7) (T:=62) (wd:=2) eA rfl rfl bj) ?_
  (refine aw (ak (sl':=[(0,dW M),(3,.pt (.nm z)),(5,.own 5),(6,zI (i:Nat)),(7,.own 7),(8,zI 0)]) (ow':=[(7,⟨62,2,[]⟩),(5,⟨113,1,F.map dZ⟩)]) az aB) ?_)
  refine aJ (fun r s=>∃k,k≤row.length∧r=row.length-k∧s=⟨[(0,dW M),(3,.pt (.nm z)),(5,.own 5),(6,zI (i:Nat)),(7,.own 7),(8,zI (k:Nat))],[(7,⟨62,2,(R.take k).map .nm⟩),(5,⟨113,1,F.map dZ⟩)]⟩) (m:=row.length) ⟨0,Nat.zero_le _,rfl,rfl⟩ fun r s hs=>?_
  obtain⟨k,hk,rfl,rfl⟩:=hs
  by_cases hkc:k<row.length
  ·obtain⟨x,hx1⟩:=get_some hkc
   have hkg:R[k]?=some (x*z):=by rw[hR,List.getElem?_map,hx1];rfl
   have hks:=bc hkg
   have hgl:(R.take k).length≤1000000:=by rw[List.length_take];omega
   obtain⟨G,hG⟩:∃G,G=R.take k:=⟨_,rfl⟩
   rw[←hG]at hks hgl
   rw[←hG]
   clear hG hkg hR
   have ML:=ry x z (hx row hmem x (List.mem_of_getElem? hx1)) hz
   (repeat(first|refine gk fun K hK=>?_|refine zs2 ?_));refine fB ?_;(repeat(first|refine gk fun K hK=>?_|refine zs2 ?_))
   refine ao ?_
   (repeat(first|refine gk fun K hK=>?_|refine zs2 ?_));refine F3 ?_;(repeat(first|refine gk fun K hK=>?_|refine zs2 ?_));refine a9 ?_;(repeat(first|refine gk fun K hK=>?_|refine zs2 ?_))
   simp only[nx,inB]
   exact⟨row.length-(k+1),_,by omega,(ak (sl':=[(0,dW M),(3,.pt (.nm z)),(5,.own 5),(6,zI (i:Nat)),(7,.own 7),(8,zI ((k+1:Nat):Int))]) (ow':=[(7,⟨62,2,G.map .nm++[.nm (x*z)]⟩),(5,⟨113,1,F.map dZ⟩)]) az aB),k+1,by omega,rfl,by rw[hks,List.map_append];rfl⟩
  ·obtain rfl:k=row.length:=by omega
   rw[List.take_of_length_le (by omega)]
   clear hR
   (repeat(first|refine gk fun K hK=>?_|refine zs2 ?_));refine fB ?_;(repeat(first|refine gk fun K hK=>?_|refine zs2 ?_))
   refine au ?_
   (repeat(first|refine gk fun K hK=>?_|refine zs2 ?_))
   refine aw (ai (k:=7) aG aQ aP) ?_
   refine mK ?_
   (repeat(first|refine gk fun K hK=>?_|refine zs2 ?_))
   refine a9 ?_
   simp only[nx,inB]
   exact⟨M.length-(i+1),_,by omega,(ak (sl':=[(0,dW M),(3,.pt (.nm z)),(5,.own 5),(6,zI ((i+1:Nat):Int))]) (ow':=[(5,⟨113,1,F.map dZ++[dZ R]⟩)]) az aB),i+1,by omega,rfl,by rw[hsn,List.map_append];rfl⟩
 ·obtain rfl:i=M.length:=by omega
  rw[List.take_of_length_le (by omega)]
  (repeat(first|refine gk fun K hK=>?_|refine zs2 ?_));refine aX ?_;(repeat(first|refine gk fun K hK=>?_|refine zs2 ?_))
  refine au ?_
  (repeat(first|refine gk fun K hK=>?_|refine zs2 ?_))
  refine aw (ai (k:=5) aG aQ aP) ?_
  refine gZ ?_
  (repeat(first|refine gk fun K hK=>?_|refine zs2 ?_))
  exact⟨_,Sh.refl,.one (.tmp 4) _ rfl (.tmp 4 rfl)⟩
theorem Ew(dim den:Int)(m:Mx.Mat)(p q:Int)(h:¬(inb 1000000000000000 p=true∧1≤q∧q≤1000000000000000)):Fn Tryz.prog 48 [dL dim m den,dF p q] (.tp [dL 0 [] 0,zI 2]):=by
 have FI:=oE p
 have WI:=dh q 1 1000000000000000
 by_cases h1:inb 1000000000000000 p=true
 ·rw[h1]at FI
  have h2:(decide (1≤q)&&decide (q≤1000000000000000))=false:=by
   rw[Bool.and_eq_false_iff,decide_eq_false_iff_not,decide_eq_false_iff_not]
   by_cases h3:1≤q
   ·exact .inr fun h4=>h ⟨h1,h3,h4⟩
   ·exact .inl h3
  rw[h2]at WI
  clear h h1 h2
  refine aE Tryz.func48 aa rfl rfl rfl fun X0=>?_
  simp only[ay]
  (repeat(first|refine gk fun K hK=>?_|refine zs2 ?_));refine kP ?_;(repeat(first|refine gk fun K hK=>?_|refine zs2 ?_));refine zd ?_;(repeat(first|refine gk fun K hK=>?_|refine zs2 ?_))
  refine ao ?_
  (repeat(first|refine gk fun K hK=>?_|refine zs2 ?_));refine dp ?_;(repeat(first|refine gk fun K hK=>?_|refine zs2 ?_))
  exact⟨_,Sh.trans (ai (k:=4) aG aQ aP) (cq (t:=4) (d:=.pt (.st [_,.sc (.slice none 0 0),_])) (d':=.pt (.st [_,dM [],_])) ae rfl rfl fun X w v h=>bs h),.two (.cell 4 48) (.tmp 5) _ _ rfl (.cell 4 _ _ rfl rfl aa aa) (.tmp 5 rfl)⟩
 ·have h1':inb 1000000000000000 p=false:=by simpa using h1
  rw[h1']at FI
  clear h h1 h1'
  refine aE Tryz.func48 aa rfl rfl rfl fun X0=>?_
  simp only[ay]
  (repeat(first|refine gk fun K hK=>?_|refine zs2 ?_));refine kP ?_;(repeat(first|refine gk fun K hK=>?_|refine zs2 ?_));refine zd ?_;(repeat(first|refine gk fun K hK=>?_|refine zs2 ?_))
  refine ao ?_
  (repeat(first|refine gk fun K hK=>?_|refine zs2 ?_));refine dp ?_;(repeat(first|refine gk fun K hK=>?_|refine zs2 ?_))
  exact⟨_,Sh.trans (ai (k:=4) aG aQ aP) (cq (t:=4) (d:=.pt (.st [_,.sc (.slice none 0 0),_])) (d':=.pt (.st [_,dM [],_])) ae rfl rfl fun X w v h=>bs h),.two (.cell 4 48) (.tmp 5) _ _ rfl (.cell 4 _ _ rfl rfl aa aa) (.tmp 5 rfl)⟩
theorem Ev(dim den:Int)(m:Mx.Mat)(p q:Int)(h1:inb 1000000000000000 p=true)(h2:1≤q∧q≤1000000000000000)(R S R2:Mx.Mat)(d z d2 C n2:Int)(BS:Fn Tryz.prog 105 [dL dim m den] (.tp [dW R,.nm d]))(SC:Fn Tryz.prog 108 [dW R,.nm p] (dW S))(ML:Fn Tryz.prog 84 [.nm d,.nm q] (.nm z))(MD:Fn Tryz.prog 92 [dW S,.nm z,zI dim] (.tp [dL n2 R2 d2,zI C])):Fn Tryz.prog 48 [dL dim m den,dF p q] (.tp [dL n2 R2 d2,zI C]):=by
 have FI:=oE p
 have WI:=dh q 1 1000000000000000
 have h3:=dB.1 h1
 have OP:=oe p (by omega)
 have OQ:=oe q (by omega)
 rw[h1]at FI
 rw[decide_eq_true h2.1,decide_eq_true h2.2,Bool.and_self]at WI
 clear h1 h2 h3
 refine aE Tryz.func48 aa rfl rfl rfl fun X0=>?_
 simp only[ay]
 (repeat(first|refine gk fun K hK=>?_|refine zs2 ?_));refine kP ?_;(repeat(first|refine gk fun K hK=>?_|refine zs2 ?_));refine zd ?_;(repeat(first|refine gk fun K hK=>?_|refine zs2 ?_))
 refine au ?_
 (repeat(first|refine gk fun K hK=>?_|refine zs2 ?_));(refine gar ?_;refine aK ?_;refine cw ?_;refine zs4 ?_;refine bT ?_;refine bT ?_;refine Gz ?_;refine zs6 ?_;refine cv ?_;refine af ?_);(repeat(first|refine gk fun K hK=>?_|refine zs2 ?_));(refine kR ?_;refine bA ?_;refine oY ?_;refine bG ?_;refine dH ?_;refine jk ?_;refine bG ?_;refine oX ?_;refine bG ?_;refine dH ?_;refine jk ?_;refine oY ?_;refine bG ?_;refine mL ?_;refine en ?_;refine en ?_;refine ic ?_;refine mM ?_;refine jj ?_);(repeat(first|refine gk fun K hK=>?_|refine zs2 ?_))
 exact⟨_,ai (k:=4) aG aQ aP,.two (.cell 4 48) (.tmp 5) _ _ rfl (.cell 4 _ _ rfl rfl aa aa) (.tmp 5 rfl)⟩
theorem BW(dim den:Int)(m f:Mx.Mat)(q C:Int)(hC:C≠0)(CK:Fn Tryz.prog 17 [dM f] (zI C)):Fn Tryz.prog 49 [dL dim m den,dM f,zI q] (.tp [dL 0 [] 0,zI C]):=by
 refine aE Tryz.func49 aa rfl rfl rfl fun X0=>?_
 simp only[ay]
 (repeat(first|refine gk fun K hK=>?_|refine zs2 ?_));refine eh ?_;(repeat(first|refine gk fun K hK=>?_|refine zs2 ?_));refine ei ?_;(repeat(first|refine gk fun K hK=>?_|refine zs2 ?_));refine bz ?_;(repeat(first|refine gk fun K hK=>?_|refine zs2 ?_))
 refine ao ?_
 (repeat(first|refine gk fun K hK=>?_|refine zs2 ?_));refine uo ?_;(repeat(first|refine gk fun K hK=>?_|refine zs2 ?_))
 exact⟨_,Sh.trans (ai (k:=6) aG aQ aP) (cq (t:=6) (d:=.pt (.st [_,.sc (.slice none 0 0),_])) (d':=.pt (.st [_,dM [],_])) ae rfl rfl fun X w v h=>bs h),.two (.cell 6 48) (.tmp 7) _ _ rfl (.cell 6 _ _ rfl rfl aa aa) (.tmp 7 rfl)⟩
theorem BV(dim den:Int)(m f:Mx.Mat)(q:Int)(CK:Fn Tryz.prog 17 [dM f] (zI 0))(h:¬((f.length:Int)=dim∧1≤wid f∧wid f≤6)):Fn Tryz.prog 49 [dL dim m den,dM f,zI q] (.tp [dL 0 [] 0,zI 9]):=by
  have CO:=lz f
  have WI:=dh (wid f) 1 6
  by_cases h1:(f.length:Int)=dim
  · have h2 : (decide ((1 : Int) ≤ (wid f : Int)) && decide ((wid f : Int) ≤ 6)) = false := by
      rw[Bool.and_eq_false_iff,decide_eq_false_iff_not,decide_eq_false_iff_not]
      omega
    rw[h2]at WI
    have hd1:(!decide ((f.length:Int)=dim))=false:=by rw[decide_eq_true h1];rfl
    refine aE Tryz.func49 aa rfl rfl rfl fun X0=> ?_
    simp only[ay]
    (repeat(first|refine gk fun K hK=> ?_|refine zs2 ?_));refine eh ?_;(repeat(first|refine gk fun K hK=> ?_|refine zs2 ?_));refine ei ?_;(repeat(first|refine gk fun K hK=> ?_|refine zs2 ?_));refine bz ?_;(repeat(first|refine gk fun K hK=> ?_|refine zs2 ?_))
    refine au ?_
    (repeat(first|refine gk fun K hK=> ?_|refine zs2 ?_));refine um ?_;(repeat(first|refine gk fun K hK=> ?_|refine zs2 ?_))
    refine ao ?_
    (repeat(first|refine gk fun K hK=> ?_|refine zs2 ?_));refine dp ?_;(repeat(first|refine gk fun K hK=> ?_|refine zs2 ?_))
    exact⟨_,Sh.trans (ai (k:=6) aG aQ aP) (cq (t:=6) (d:= .pt (.st [_, .sc (.slice none 0 0),_])) (d':= .pt (.st [_,dM [],_])) ae rfl rfl fun X w v h=>bs h), .two (.cell 6 48) (.tmp 7) _ _ rfl (.cell 6 _ _ rfl rfl aa aa) (.tmp 7 rfl)⟩
  · have hd1:(!decide ((f.length:Int)=dim))=true:=by rw[decide_eq_false h1];rfl
    refine aE Tryz.func49 aa rfl rfl rfl fun X0=> ?_
    simp only[ay]
    (repeat(first|refine gk fun K hK=> ?_|refine zs2 ?_));refine eh ?_;(repeat(first|refine gk fun K hK=> ?_|refine zs2 ?_));refine ei ?_;(repeat(first|refine gk fun K hK=> ?_|refine zs2 ?_));refine bz ?_;(repeat(first|refine gk fun K hK=> ?_|refine zs2 ?_))
    refine au ?_
    (repeat(first|refine gk fun K hK=> ?_|refine zs2 ?_));refine um ?_;(repeat(first|refine gk fun K hK=> ?_|refine zs2 ?_))
    refine ao ?_
    (repeat(first|refine gk fun K hK=> ?_|refine zs2 ?_));refine dp ?_;(repeat(first|refine gk fun K hK=> ?_|refine zs2 ?_))
    exact⟨_,Sh.trans (ai (k:=6) aG aQ aP) (cq (t:=6) (d:= .pt (.st [_, .sc (.slice none 0 0),_])) (d':= .pt (.st [_,dM [],_])) ae rfl rfl fun X w v h=>bs h), .two (.cell 6 48) (.tmp 7) _ _ rfl (.cell 6 _ _ rfl rfl aa aa) (.tmp 7 rfl)⟩
theorem BU(dim den:Int)(m f:Mx.Mat)(q:Int)(CK:Fn Tryz.prog 17 [dM f] (zI 0))(h1:(f.length:Int)=dim)(h2:1≤wid f∧wid f≤6)(h3:¬(1≤q∧q≤1000000000000000)):Fn Tryz.prog 49 [dL dim m den,dM f,zI q] (.tp [dL 0 [] 0,zI 2]):=by
 have CO:=lz f
 have WI:=dh (wid f) 1 6
 have WJ:=dh q 1 1000000000000000
 have h4:(decide (1≤q)&&decide (q≤1000000000000000))=false:=by
  rw[Bool.and_eq_false_iff,decide_eq_false_iff_not,decide_eq_false_iff_not]
  omega
 rw[h4]at WJ
 rw[decide_eq_true (show(1:Int)≤(wid f:Int) by omega),decide_eq_true (show(wid f:Int)≤6 by omega),Bool.and_self]at WI
 have hd1:(!decide ((f.length:Int)=dim))=false:=by rw[decide_eq_true h1];rfl
 refine aE Tryz.func49 aa rfl rfl rfl fun X0=>?_
 simp only[ay]
 (repeat(first|refine gk fun K hK=>?_|refine zs2 ?_));refine eh ?_;(repeat(first|refine gk fun K hK=>?_|refine zs2 ?_));refine ei ?_;(repeat(first|refine gk fun K hK=>?_|refine zs2 ?_));refine bz ?_;(repeat(first|refine gk fun K hK=>?_|refine zs2 ?_))
 refine au ?_
 (repeat(first|refine gk fun K hK=>?_|refine zs2 ?_));refine um ?_;(repeat(first|refine gk fun K hK=>?_|refine zs2 ?_))
 refine au ?_
 (repeat(first|refine gk fun K hK=>?_|refine zs2 ?_));(refine gar ?_;refine zs4 ?_;refine uM ?_;refine iP ?_;refine af ?_);(repeat(first|refine gk fun K hK=>?_|refine zs2 ?_))
 refine ao ?_
 (repeat(first|refine gk fun K hK=>?_|refine zs2 ?_));refine dp ?_;(repeat(first|refine gk fun K hK=>?_|refine zs2 ?_))
 exact⟨_,Sh.trans (ai (k:=6) aG aQ aP) (cq (t:=6) (d:=.pt (.st [_,.sc (.slice none 0 0),_])) (d':=.pt (.st [_,dM [],_])) ae rfl rfl fun X w v h=>bs h),.two (.cell 6 48) (.tmp 7) _ _ rfl (.cell 6 _ _ rfl rfl aa aa) (.tmp 7 rfl)⟩
theorem EB(dim den:Int)(m f:Mx.Mat)(q:Int)(CK:Fn Tryz.prog 17 [dM f] (zI 0))(h1:(f.length:Int)=dim)(h2:1≤wid f∧wid f≤6)(h3:1≤q∧q≤1000000000000000)(R S R2:Mx.Mat)(d z d2 C n2:Int)(BS:Fn Tryz.prog 105 [dL dim m den] (.tp [dW R,.nm d]))(WD:Fn Tryz.prog 23 [dM f] (dW f))(TI:Fn Tryz.prog 22 [dW R,dW f,zI (wid f)] (dW S))(ML:Fn Tryz.prog 84 [.nm d,.nm q] (.nm z))(MD:Fn Tryz.prog 92 [dW S,.nm z,zI (wid f)] (.tp [dL n2 R2 d2,zI C])):Fn Tryz.prog 49 [dL dim m den,dM f,zI q] (.tp [dL n2 R2 d2,zI C]):=by
 have CO:=lz f
 have WI:=dh (wid f) 1 6
 have WJ:=dh q 1 1000000000000000
 have OQ:=oe q (by omega)
 rw[decide_eq_true h3.1,decide_eq_true h3.2,Bool.and_self]at WJ
 rw[decide_eq_true (show(1:Int)≤(wid f:Int) by omega),decide_eq_true (show(wid f:Int)≤6 by omega),Bool.and_self]at WI
 have hd1:(!decide ((f.length:Int)=dim))=false:=by rw[decide_eq_true h1];rfl
 clear h2 h3
 refine aE Tryz.func49 aa rfl rfl rfl fun X0=>?_
 simp only[ay]
 (repeat(first|refine gk fun K hK=>?_|refine zs2 ?_));refine eh ?_;(repeat(first|refine gk fun K hK=>?_|refine zs2 ?_));refine ei ?_;(repeat(first|refine gk fun K hK=>?_|refine zs2 ?_));refine bz ?_;(repeat(first|refine gk fun K hK=>?_|refine zs2 ?_))
 refine au ?_
 (repeat(first|refine gk fun K hK=>?_|refine zs2 ?_));refine um ?_;(repeat(first|refine gk fun K hK=>?_|refine zs2 ?_))
 refine au ?_
 (repeat(first|refine gk fun K hK=>?_|refine zs2 ?_));(refine gar ?_;refine zs4 ?_;refine uM ?_;refine iP ?_;refine af ?_);(repeat(first|refine gk fun K hK=>?_|refine zs2 ?_))
 refine au ?_
 (repeat(first|refine gk fun K hK=>?_|refine zs2 ?_));(refine gar ?_;refine aK ?_;refine cw ?_;refine zs4 ?_;refine bT ?_;refine bT ?_;(refine bL (k:=10) (z:=(.agg #[.bool false,.slice none 0 0])) (d:=(.nm 0)) rfl rfl rfl rfl rfl aa ae ae bN ae ae bj ?_);refine zs6 ?_;refine cv ?_;refine af ?_);(repeat(first|refine gk fun K hK=>?_|refine zs2 ?_));(refine kR ?_;refine bA ?_;refine bA ?_;refine dH ?_;refine bA ?_;refine dH ?_;refine mL ?_;refine bG ?_;refine bA ?_;refine dH ?_;refine jk ?_;refine bA ?_;refine dH ?_;refine mL ?_;refine en ?_;refine en ?_;refine ic ?_;refine mM ?_;refine jj ?_);(repeat(first|refine gk fun K hK=>?_|refine zs2 ?_))
 exact⟨_,ai (k:=6) aG aQ aP,.two (.cell 6 48) (.tmp 7) _ _ rfl (.cell 6 _ _ rfl rfl aa aa) (.tmp 7 rfl)⟩
end DW
end
section
open Go.ChangeShapes Go.WideShapes Go.ChangeAt Go.RowKit Go.Joins Go.Deep
theorem DW.ar_dF{X:Nat→Prop}{w:World}(n d:Int):DW.AR X w (DW.dF n d) (.agg #[.int .i64 n,.int .i64 d]):=by
 simp only[DW.dF,DW.AR,DW.ASt]
 exact⟨_,rfl,.int .i64 n,_,rfl,⟨rfl,rfl⟩,rfl,.int .i64 d,[],rfl,⟨rfl,rfl⟩,rfl,rfl⟩
set_option maxRecDepth 100000 in
theorem Ck{H:Type}{enc:TypeId×Value→H}{w:World}{base b0:Nat}{spare:Nat→Bool}{held:Bool}{r:Reach}{v:Value}{d:DataW H}{p:List MemPlace}
  (hv:Value.okWide Tryz.prog w r b0 73 v) (h:DataW.Trod enc Tryz.prog w base spare held 73 v d p):∃(num den:Int),DW.AR (fun _=>False) w (DW.dF num den) v:=by
 obtain⟨v0,v1,y0,y1,n,rfl,_,_,g0,g1⟩:=open_agg2 Tryz.underlying73 aa aa hv h
 obtain⟨a0,e0,_,w0⟩:=DataW.trod_int Tryz.underlying3 g0
 obtain⟨a1,e1,_,w1⟩:=DataW.trod_int Tryz.underlying3 g1
 simp at e0 e1
 subst e0 e1
 exact⟨a0,a1,DW.ar_dF a0 a1⟩
end
section
open Go.RowKit
namespace DW
theorem vS{X:Nat→Prop}{w w':World}{n:Nat}{M:Mx.Mat}{e:Ending}(hX:∀b,X b→b<w.heap.size)(h:lC w n M e w'):∃u,e= .returned u∧AR X w' (dW M) u∧Below w.heap.size w w':=by
 obtain⟨⟨gm,gs,cs,cap,h5,h6,h7⟩,h9⟩:=h
 exact⟨_,h5,vW h7 h6 hX,h9⟩
theorem wby_d(M:Mx.Mat)(n:Nat)(k:Int)(hm:M.length≤1000000)(hn0:0<n)(hn:n≤1000000)(hR:Mx.Rc n M)(fk:Fit k)(hf:∀i j,Fit (Mx.at' M i j)):Fn Tryz.prog 100 [dW M,.nm k] (dW (mapM (fun z=>k*z) M)):=by
 refine⟨enters_of Tryz.func100 aa rfl,fun X w vs hX hv=>?_⟩
 simp only[ATp]at hv
 obtain⟨v1,r1,e1,h1,v2,r2,e2,h2,rfl⟩:=hv
 simp only[AR]at h2
 obtain⟨K,rfl,hK⟩:=h2
 subst e2
 have:vs= #[v1,.agg #[.bool K.s,.slice K.a K.n K.cap]]:=Array.toList_inj.1 e1
 subst this
 exact(IA M n v1 K k hm hn fk hf w (oO h1 hR hn0) hK).mono fun e w' h=>vS (fun b hb=>(hX b hb).1) h
theorem DD(M N:Mx.Mat)(p n e f:Nat)(hm:M.length≤1000000)(hp:p≤1000000)(hn:n≤1000000)(hn0:0<n)(hp0:0<p)(hl:N.length=p)(he:e+f+20≤6000000000000)(hRM:Mx.Rc p M)(hRN:Mx.Rc n N)(hM:Mx.Bd (2^e) M)(hN:Mx.Bd (2^f) N):Fn Tryz.prog 97 [dW M,dW N] (dW (mulM n M N)):=by
 refine⟨enters_of Tryz.func97 aa rfl,fun X w vs hX hv=>?_⟩
 simp only[ATp]at hv
 obtain⟨v1,r1,e1,h1,v2,r2,e2,h2,rfl⟩:=hv
 subst e2
 have:vs= #[v1,v2]:=Array.toList_inj.1 e1
 subst this
 exact(zY M N p n e f v1 v2 hm hp hn hn0 hp0 hl he hM hN w (oO h1 hRM hp0) (oO h2 hRN hn0)).mono fun e w' h=>vS (fun b hb=>(hX b hb).1) h
theorem CH(u v:Int)(fu:Fit u)(fv:Fit v):Fn Tryz.prog 117 [.nm u,.nm v] (.nm (u*v)):=by
 refine⟨enters_of Tryz.func117 aa rfl,fun X w vs hX hv=>?_⟩
 simp only[ATp,AR]at hv
 obtain⟨v1,r1,e1,⟨x,rfl,hx⟩,v2,r2,e2,⟨y,rfl,hy⟩,rfl⟩:=hv
 subst e2
 have:vs= #[.agg #[.bool x.s,.slice x.a x.n x.cap],.agg #[.bool y.s,.slice y.a y.n y.cap]]:=Array.toList_inj.1 e1
 subst this
 exact(mr x y u v fu fv w hx.ip hy.ip).mono fun e w' ⟨⟨z,h1,h2⟩,h3⟩=>⟨_,h1,by simp only[AR];exact⟨z,rfl,h2⟩,h3⟩
theorem wk(z L:Int)(hL:0≤L)(hL2:L≤1000000000000000000):Fn Tryz.prog 91 [zI z,zI L] (.sc (.bool (inb L z))):=by
 refine⟨enters_of Tryz.func91 aa rfl,fun X w vs hX hv=>?_⟩
 simp only[ATp,zI,AR]at hv
 obtain⟨v1,r1,e1,⟨rfl,_⟩,v2,r2,e2,⟨rfl,_⟩,rfl⟩:=hv
 subst e2
 have:vs= #[.int .i64 z,.int .i64 L]:=Array.toList_inj.1 e1
 subst this
 exact(mP z L hL hL2 w).mono fun e w' ⟨h1,h2⟩=>⟨_,h1,by simp only[AR];exact⟨trivial,rfl⟩,h2⟩
theorem sy(m:List (List Int))(hm:m.length≤1000000000):Fn Tryz.prog 111 [dM m] (zI (wid m)):=by
 refine⟨enters_of Tryz.func111 aa rfl,fun X w vs hX hv=>?_⟩
 simp only[ATp]at hv
 obtain⟨v1,r1,e1,h1,rfl⟩:=hv
 have:vs= #[v1]:=Array.toList_inj.1 e1
 subst this
 exact(tC m v1 hm w (rT h1)).mono fun e w' ⟨h1,h2⟩=>⟨_,h1,tu _,h2⟩
theorem Ci(m:List (List Int))(hm:m.length≤1000000000)(hr:∀r∈m,r.length≤1000000000):Fn Tryz.prog 40 [dM m] (zI (chk m)):=by
 refine⟨enters_of Tryz.func40 aa rfl,fun X w vs hX hv=>?_⟩
 simp only[ATp]at hv
 obtain⟨v1,r1,e1,h1,rfl⟩:=hv
 have:vs= #[v1]:=Array.toList_inj.1 e1
 subst this
 exact(De m v1 hm hr w (rT h1)).mono fun e w' ⟨h1,h2⟩=>⟨_,h1,tu _,h2⟩
end DW
end
end Go.Proofs.YtcgjmdpcplhanaaGreat
