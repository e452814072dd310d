/- Lemmas for the law: E41 -/
import Derived.Test.YtcgjmdpcplhanaaGreatZi16
namespace Go.Proofs.YtcgjmdpcplhanaaGreat
section
theorem zb58{p:Prop}(h:p:=by(apply I5;(focus(exact rfl));(focus(assumption));(focus(exact rfl)))):p:=h
theorem zs152{p q:Prop}(h:q)(f:Wq q→p:=by(intro hW;(refine aL1 rfl rfl rfl zb58 ?_);exact hW.out)):p:=f ⟨h⟩
theorem y7{p q:Prop}(h:q)(f:Wq q→p:=by(intro hW;((refine gar ?_;refine zs152 ?_;refine zs6 ?_;refine af ?_));exact hW.out)):p:=f ⟨h⟩
theorem zs150{p q:Prop}(h:q)(f:Wq q→p:=by(intro hW;((refine bL (k:=14) (z:=(.agg #[.int .i64 0,.slice none 0 0,.int .i64 0])) (d:=(.st [.sc (.int .i64 0),.sc (.slice none 0 0),.sc (.int .i64 0)])) rfl rfl rfl rfl rfl aa ae ae bN ae ae bj ?_));exact hW.out)):p:=f ⟨h⟩
theorem FZ{p q:Prop}(h:q)(f:Wq q→p:=by(intro hW;((refine gar ?_;refine aK ?_;refine zs4 ?_;refine mJ ?_;refine aK ?_;refine uB ?_;refine zs4 ?_;refine bT ?_;refine bT ?_;refine zs150 ?_;refine cv ?_;refine zs6 ?_;refine af ?_));exact hW.out)):p:=f ⟨h⟩
theorem zs149{p q:Prop}(h:q)(f:Wq q→p:=by(intro hW;((refine bL (k:=12) (z:=(.agg #[.int .i64 0,.slice none 0 0,.int .i64 0])) (d:=(.st [.sc (.int .i64 0),.sc (.slice none 0 0),.sc (.int .i64 0)])) rfl rfl rfl rfl rfl aa ae ae bN ae ae bj ?_));exact hW.out)):p:=f ⟨h⟩
theorem F0{p q:Prop}(h:q)(f:Wq q→p:=by(intro hW;((refine gar ?_;refine aK ?_;refine aK ?_;refine gX ?_;refine zs4 ?_;refine bT ?_;refine bT ?_;refine zs149 ?_;refine cv ?_;refine zs6 ?_;refine af ?_));exact hW.out)):p:=f ⟨h⟩
theorem zs145{p q:Prop}(h:q)(f:Wq q→p:=by(intro hW;((refine bL (k:=7) (z:=(.agg #[.int .i64 0,.slice none 0 0,.int .i64 0])) (d:=(.st [.sc (.int .i64 0),.sc (.slice none 0 0),.sc (.int .i64 0)])) rfl rfl rfl rfl rfl aa ae ae bN ae ae bj ?_));exact hW.out)):p:=f ⟨h⟩
theorem y9{p q:Prop}(h:q)(f:Wq q→p:=by(intro hW;((refine gar ?_;refine aK ?_;refine aK ?_;refine gX ?_;refine zs4 ?_;refine bT ?_;refine bT ?_;refine zs145 ?_;refine cv ?_;refine zs6 ?_;refine af ?_));exact hW.out)):p:=f ⟨h⟩
theorem Gx{p q:Prop}(h:q)(f:Wq q→p:=by(intro hW;((first|(refine aLs rfl rfl rfl rfl ?_ ?_;(focus(apply aO;(conv=>lhs;whnf);(first|done|exact rfl|(apply aH;(first|(apply decide_eq_true;omega)|(apply decide_eq_false;omega)|assumption|(simp;done)))))))|refine aLw rfl rfl rfl rfl bp zb29 ?_));exact hW.out)):p:=f ⟨h⟩
theorem zs151{p q:Prop}(h:q)(f:Wq q→p:=by(intro hW;((first|(refine aLs rfl rfl rfl rfl ?_ ?_;(focus(apply aO;(conv=>lhs;whnf);(first|done|exact rfl|(apply aH;(first|(apply decide_eq_true;omega)|(apply decide_eq_false;omega)|assumption|(simp;done)))))))|refine aLw rfl rfl rfl rfl bp zS ?_));exact hW.out)):p:=f ⟨h⟩
theorem FW{p q:Prop}(h:q)(f:Wq q→p:=by(intro hW;((refine gar ?_;refine zs4 ?_;refine zs4 ?_;refine uQ ?_;refine zs4 ?_;refine zs8 ?_;refine zs8 ?_;refine zs151 ?_;refine cP ?_;refine zs4 ?_;refine cC ?_;refine cC ?_;refine oW ?_;refine lD ?_;refine cP ?_;refine zs4 ?_;refine cC ?_;refine cC ?_;refine oW ?_;refine lD ?_;refine cP ?_;refine af ?_));exact hW.out)):p:=f ⟨h⟩
theorem Gw{p q:Prop}(h:q)(f:Wq q→p:=by(intro hW;((first|(refine aLs rfl rfl rfl rfl ?_ ?_;(focus(apply aO;(conv=>lhs;whnf);(first|done|exact rfl|(apply aH;(first|(apply decide_eq_true;omega)|(apply decide_eq_false;omega)|assumption|(simp;done)))))))|refine aLw rfl rfl rfl rfl bp zb58 ?_));exact hW.out)):p:=f ⟨h⟩
theorem qG{p q:Prop}(h:q)(f:Wq q→p:=by(intro hW;((refine gar ?_;refine aK ?_;refine cw ?_;refine iP ?_;refine zs4 ?_;refine zs8 ?_;refine pV ?_;refine lD ?_;refine cP ?_;refine af ?_));exact hW.out)):p:=f ⟨h⟩
theorem zs146{p q:Prop}(h:q)(f:Wq q→p:=by(intro hW;((refine bL (k:=9) (z:=(.agg #[.int .i64 0,.slice none 0 0,.int .i64 0])) (d:=(.st [.sc (.int .i64 0),.sc (.slice none 0 0),.sc (.int .i64 0)])) rfl rfl rfl rfl rfl aa ae ae bN ae ae bj ?_));exact hW.out)):p:=f ⟨h⟩
theorem y8{p q:Prop}(h:q)(f:Wq q→p:=by(intro hW;((refine gar ?_;refine aK ?_;refine zs4 ?_;refine mJ ?_;refine aK ?_;refine uB ?_;refine zs4 ?_;refine bT ?_;refine bT ?_;refine zs146 ?_;refine cv ?_;refine zs6 ?_;refine af ?_));exact hW.out)):p:=f ⟨h⟩
end
section
open Go.RowKit
namespace DW
def jo(n:Nat)(p:Int)(k:Nat):List Int:=(List.replicate n 0).set k p
def cU(n:Nat)(p:Int):Mx.Mat:=(List.range n).map (jo n p)
theorem jy(n:Nat)(p:Int):(cU n p).length=n:=by simp[cU]
theorem qe(n:Nat)(p:Int):Mx.Rc n (cU n p):=fun l hl=>by
 obtain⟨k,_,rfl⟩:=List.mem_map.1 hl
 simp[jo]
theorem tF{n k:Nat}(p:Int)(h:k<n):(cU n p)[k]?=some (jo n p k):=by
 unfold cU;rw[List.getElem?_map,List.getElem?_range h];rfl
theorem DR{n j k:Nat}(p:Int)(hj:j<n)(hk:k<n):Mx.at' (cU n p) j k=if j=k then p else 0:=by
 unfold Mx.at'
 rw[Mx.eV (tF p hj)]
 unfold jo
 rw[List.getD_eq_getElem?_getD,List.getElem?_set,List.length_replicate,List.getElem?_replicate,if_pos hk]
 by_cases h:j=k
 ·rw[if_pos h,if_pos h,if_pos (by omega)];rfl
 ·rw[if_neg h,if_neg h];rfl
theorem tE{n:Nat}(p:Int)(h:0<n):wid (cU n p)=n:=by
 obtain⟨l,h1,h2⟩:=sA (m:=cU n p) (by rw[jy];exact h)
 rw[←h2]
 exact qe n p l (List.mem_of_getElem? h1)
theorem Bl{n:Nat}{p:Int}(h:0<n)(hn:n≤5)(hp:inb 1000000000000000 p=true):chk (cU n p)=0:=by
 have hw:=tE p h
 have hl:=jy n p
 refine DW.AS (fun j r _ hr=>by rw[hw];exact qe n p r (List.mem_of_getElem? hr)) (by omega) fun r hr z hz=>?_
 obtain⟨k,_,rfl⟩:=List.mem_map.1 hr
 rcases List.mem_or_eq_of_mem_set hz with h1|rfl
 ·obtain rfl:=(List.mem_replicate.1 h1).2
  rfl
 ·exact hp
theorem ud{n k:Nat}(p:Int)(row:List Int)(hk:k<n):∀j,j≤n→fA row (cU n p) k j=if k<j then row.getD k 0*p else 0
 |0,_=>by rw[if_neg (Nat.not_lt_zero k)];rfl
 |j+1,hj=>by
  show fA row (cU n p) k j+row.getD j 0*Mx.at' (cU n p) j k=_
  rw[ud p row hk j (by omega),DR p (by omega) hk]
  by_cases h:j=k
  ·rw[if_neg (by omega),if_pos h,if_pos (by omega),h,Int.zero_add]
  ·rw[if_neg h,Int.mul_zero,Int.add_zero]
   by_cases h2:k<j
   ·rw[if_pos h2,if_pos (by omega)]
   ·rw[if_neg h2,if_neg (by omega)]
theorem EV{n:Nat}{p:Int}{R:Mx.Mat}(h:Mx.Rc n R):mulM n R (cU n p)=mapM (fun x=>p*x) R:=by
 rw[sX (qe n p)]
 unfold tim mapM
 refine List.map_congr_left fun row hr=>?_
 have hl:=h row hr
 unfold jF
 refine List.ext_getElem? fun k=>?_
 rw[List.getElem?_map,List.getElem?_map]
 by_cases hk:k<n
 ·rw[List.getElem?_range hk,qv (l:=row) (j:=k) (by omega),jy]
  show some (fA row (cU n p) k n)=some (p*row.getD k 0)
  rw[ud p row hk n (Nat.le_refl _),if_pos hk,Int.mul_comm]
 ·rw[List.getElem?_eq_none bF,List.getElem?_eq_none (by omega)];rfl
set_option maxRecDepth 20000
set_option maxHeartbeats 2000000
theorem xC(dim den C:Int)(m f:Mx.Mat)(p q:Int)(hC:C≠0)(LT:Fn Tryz.prog 30 [dL dim m den] (.sc (.bool true)))(SM:Fn Tryz.prog 14 [dM f] (.sc (.bool true)))(PS:Fn Tryz.prog 46 [dL dim m den,dF p q] (.tp [dL 0 [] 0,zI C]))(PI:Fn Tryz.prog 47 [dL dim m den,dM f,zI q] (.tp [dL 0 [] 0,zI C]))(RC:Fn Tryz.prog 32 [dL dim m den] (zI C)):Fn Tryz.prog 9 [dL dim m den,dM f,dF p q] (.sc (.bool true)):=by
 have AW:=pF
 have SZ:=BN
 refine aE Tryz.func9 aa rfl rfl rfl fun X0=>?_
 simp only[ay]
 (repeat(first|refine gk fun K hK=>?_|refine zs2 ?_));refine kQ ?_;(repeat(first|refine gk fun K hK=>?_|refine zs2 ?_));refine qG ?_;(repeat(first|refine gk fun K hK=>?_|refine zs2 ?_))
 refine au ?_
 (repeat(first|refine gk fun K hK=>?_|refine zs2 ?_));refine y9 ?_;(repeat(first|refine gk fun K hK=>?_|refine zs2 ?_));refine y8 ?_;(repeat(first|refine gk fun K hK=>?_|refine zs2 ?_));refine du ?_;(repeat(first|refine gk fun K hK=>?_|refine zs2 ?_));refine bz ?_;(repeat(first|refine gk fun K hK=>?_|refine zs2 ?_))
 refine ao ?_
 (repeat(first|refine gk fun K hK=>?_|refine zs2 ?_));(refine gar ?_;refine zs4 ?_;refine zs4 ?_;refine yZ ?_;refine zs4 ?_;refine zs8 ?_;refine zs8 ?_;refine zG ?_;refine fq ?_;refine zs4 ?_;refine cC ?_;refine Gx ?_;refine oW ?_;refine fq ?_;refine zs4 ?_;refine cC ?_;refine Gx ?_;refine oW ?_;refine fq ?_;refine zs4 ?_;refine Gw ?_;refine fq ?_;refine zs6 ?_;refine af ?_);(repeat(first|refine gk fun K hK=>?_|refine zs2 ?_))
 exact⟨_,Sh.refl,.one (.tmp 6) _ rfl (.tmp 6 rfl)⟩
theorem pS(n:Nat)(den n1 d1 C1 n2 d2 C2:Int)(m f R1 R2:Mx.Mat)(p q:Int)(hC:C1≠0)(LT:Fn Tryz.prog 30 [dL n m den] (.sc (.bool true)))(SM:Fn Tryz.prog 14 [dM f] (.sc (.bool true)))(PS:Fn Tryz.prog 46 [dL n m den,dF p q] (.tp [dL n1 R1 d1,zI C1]))(PI:Fn Tryz.prog 47 [dL n m den,dM f,zI q] (.tp [dL n2 R2 d2,zI C2]))(RC:Fn Tryz.prog 32 [dL n m den] (zI 0))(RS:Fn Tryz.prog 48 [dL n m den,dF p q] (.tp [dL n1 R1 d1,zI C1]))(RI:Fn Tryz.prog 49 [dL n m den,dM f,zI q] (.tp [dL n2 R2 d2,zI C2]))(SA:Fn Tryz.prog 35 [dL n1 R1 d1,dL n1 R1 d1] (.sc (.bool true)))(SB:Fn Tryz.prog 35 [dL n2 R2 d2,dL n2 R2 d2] (.sc (.bool true))):Fn Tryz.prog 9 [dL n m den,dM f,dF p q] (.sc (.bool true)):=by
 have AW:=pF
 refine aE Tryz.func9 aa rfl rfl rfl fun X0=>?_
 simp only[ay]
 (repeat(first|refine gk fun K hK=>?_|refine zs2 ?_));refine kQ ?_;(repeat(first|refine gk fun K hK=>?_|refine zs2 ?_));refine qG ?_;(repeat(first|refine gk fun K hK=>?_|refine zs2 ?_))
 refine au ?_
 (repeat(first|refine gk fun K hK=>?_|refine zs2 ?_));refine y9 ?_;(repeat(first|refine gk fun K hK=>?_|refine zs2 ?_));refine y8 ?_;(repeat(first|refine gk fun K hK=>?_|refine zs2 ?_));refine du ?_;(repeat(first|refine gk fun K hK=>?_|refine zs2 ?_));refine bz ?_;(repeat(first|refine gk fun K hK=>?_|refine zs2 ?_))
 refine au ?_
 (repeat(first|refine gk fun K hK=>?_|refine zs2 ?_));refine F0 ?_;(repeat(first|refine gk fun K hK=>?_|refine zs2 ?_));refine FZ ?_;(repeat(first|refine gk fun K hK=>?_|refine zs2 ?_));refine FW ?_;(repeat(first|refine gk fun K hK=>?_|refine zs2 ?_))
 refine au ?_
 (repeat(first|refine gk fun K hK=>?_|refine zs2 ?_));refine bz ?_;(repeat(first|refine gk fun K hK=>?_|refine zs2 ?_))
 refine ao ?_
 (repeat(first|refine gk fun K hK=>?_|refine zs2 ?_));refine y7 ?_;(repeat(first|refine gk fun K hK=>?_|refine zs2 ?_))
 exact⟨_,Sh.refl,.one (.tmp 6) _ rfl (.tmp 6 rfl)⟩
theorem xA(n:Nat)(hn:n≤5)(den n1 d1 n2 d2 C2:Int)(m f R1 R2:Mx.Mat)(p q:Int)(LT:Fn Tryz.prog 30 [dL n m den] (.sc (.bool true)))(SM:Fn Tryz.prog 14 [dM f] (.sc (.bool true)))(PS:Fn Tryz.prog 46 [dL n m den,dF p q] (.tp [dL n1 R1 d1,zI 0]))(PI:Fn Tryz.prog 47 [dL n m den,dM f,zI q] (.tp [dL n2 R2 d2,zI C2]))(RC:Fn Tryz.prog 32 [dL n m den] (zI 0))(RS:Fn Tryz.prog 48 [dL n m den,dF p q] (.tp [dL n1 R1 d1,zI 0]))(RI:Fn Tryz.prog 49 [dL n m den,dM f,zI q] (.tp [dL n2 R2 d2,zI C2]))(SA:Fn Tryz.prog 35 [dL n1 R1 d1,dL n1 R1 d1] (.sc (.bool true)))(SB:Fn Tryz.prog 35 [dL n2 R2 d2,dL n2 R2 d2] (.sc (.bool true)))(PU:Fn Tryz.prog 47 [dL n m den,dM (cU n p),zI q] (.tp [dL n1 R1 d1,zI 0])):Fn Tryz.prog 9 [dL n m den,dM f,dF p q] (.sc (.bool true)):=by
 have AW:=pF
 refine aE Tryz.func9 aa rfl rfl rfl fun X0=>?_
 simp only[ay]
 (repeat(first|refine gk fun K hK=>?_|refine zs2 ?_));refine kQ ?_;(repeat(first|refine gk fun K hK=>?_|refine zs2 ?_));refine qG ?_;(repeat(first|refine gk fun K hK=>?_|refine zs2 ?_))
 refine au ?_
 (repeat(first|refine gk fun K hK=>?_|refine zs2 ?_));refine y9 ?_;(repeat(first|refine gk fun K hK=>?_|refine zs2 ?_));refine y8 ?_;(repeat(first|refine gk fun K hK=>?_|refine zs2 ?_));refine du ?_;(repeat(first|refine gk fun K hK=>?_|refine zs2 ?_));refine bz ?_;(repeat(first|refine gk fun K hK=>?_|refine zs2 ?_))
 refine au ?_
 (repeat(first|refine gk fun K hK=>?_|refine zs2 ?_));refine F0 ?_;(repeat(first|refine gk fun K hK=>?_|refine zs2 ?_));refine FZ ?_;(repeat(first|refine gk fun K hK=>?_|refine zs2 ?_));refine FW ?_;(repeat(first|refine gk fun K hK=>?_|refine zs2 ?_))
 refine au ?_
 (repeat(first|refine gk fun K hK=>?_|refine zs2 ?_));refine bz ?_;(repeat(first|refine gk fun K hK=>?_|refine zs2 ?_))
 refine au ?_
 refine aw (ai (k:=7) aG aQ aP) ?_
 (repeat(first|refine gk fun K hK=>?_|refine zs2 ?_));refine bZ ?_;(repeat(first|refine gk fun K hK=>?_|refine zs2 ?_));refine aS ?_;(repeat(first|refine gk fun K hK=>?_|refine zs2 ?_))
 refine aw (ct (t:=16) (k:=16) (T:=40) (wd:=1) eA rfl rfl bj) ?_
 (refine aw (ak (sl':=[(3,.pt (dL n m den)),(5,.pt (dF p q)),(7,.pt (dL n1 R1 d1)),(16,.own 16),(17,zI 0)]) (ow':=[(16,⟨40,1,[]⟩)]) az aB) ?_)
 refine aJ (fun r s=>∃k,k≤n∧r=n-k∧s=⟨[(3,.pt (dL n m den)),(5,.pt (dF p q)),(7,.pt (dL n1 R1 d1)),(16,.own 16),(17,zI (k:Nat))],[(16,⟨40,1,((cU n p).take k).map fun l=>dI l⟩)]⟩) (m:=n) ⟨0,Nat.zero_le _,rfl,rfl⟩ fun r s hs=>?_
 obtain⟨k,hk,rfl,rfl⟩:=hs
 have hul:=jy n p
 by_cases hkn:k<n
 ·have hsn:=bc (tF p hkn)
  have hfl:((cU n p).take k).length≤1000000:=by rw[List.length_take];omega
  obtain⟨F,hF⟩:∃F,F=(cU n p).take k:=⟨_,rfl⟩
  rw[←hF]at hsn hfl
  rw[←hF]
  clear hF
  have hE:(List.replicate n (zI 0)).set k (zI p)=(jo n p k).map zI:=by unfold jo;rw[List.map_set,List.map_replicate]
  have hrl:(List.replicate n (zI 0)).length=n:=List.length_replicate
  (repeat(first|refine gk fun K hK=>?_|refine zs2 ?_));refine qJ ?_;(repeat(first|refine gk fun K hK=>?_|refine zs2 ?_))
  refine ao ?_
  (repeat(first|refine gk fun K hK=>?_|refine zs2 ?_));(refine gar ?_;refine ew ?_;refine aK ?_;(refine xg (k:=114) (T:=Tryz.prog.elem 40) (zv:=(.int .i64 0)) (d0:=(.sc (.int .i64 0))) (wd:=1) rfl rfl rfl rfl bw bw aa aa ae ae ae ae ae (by omega) zb60 ae bj ?_);refine zs6 ?_;refine af ?_);(repeat(first|refine gk fun K hK=>?_|refine zs2 ?_))
  (refine aw (ak (sl':=[(3,.pt (dL n m den)),(5,.pt (dF p q)),(7,.pt (dL n1 R1 d1)),(16,.own 16),(17,zI (k:Nat)),(18,.own 114)]) (ow':=[(114,⟨3,1,List.replicate n (zI 0)⟩),(16,⟨40,1,F.map fun l=>dI l⟩)]) az aB) ?_)
  (repeat(first|refine gk fun K hK=>?_|refine zs2 ?_));(refine gar ?_;refine zs4 ?_;refine zs4 ?_;refine ew ?_;refine aK ?_;refine dT ?_;(refine jh (i:=k) rfl rfl rfl bw bw aG ae lG ae bN ae aa lH ?_);refine af ?_);(repeat(first|refine gk fun K hK=>?_|refine zs2 ?_))
  rw[hE]
  (refine aw (ak (sl':=[(3,.pt (dL n m den)),(5,.pt (dF p q)),(7,.pt (dL n1 R1 d1)),(16,.own 16),(17,zI (k:Nat)),(18,.own 114)]) (ow':=[(114,⟨3,1,(jo n p k).map zI⟩),(16,⟨40,1,F.map fun l=>dI l⟩)]) az aB) ?_)
  refine aw (ai (k:=114) aG aQ aP) ?_
  (repeat(first|refine gk fun K hK=>?_|refine zs2 ?_));refine mK ?_;(repeat(first|refine gk fun K hK=>?_|refine zs2 ?_));refine a9 ?_;(repeat(first|refine gk fun K hK=>?_|refine zs2 ?_))
  simp only[nx,inB]
  exact⟨n-(k+1),_,by omega,(ak (sl':=[(3,.pt (dL n m den)),(5,.pt (dF p q)),(7,.pt (dL n1 R1 d1)),(16,.own 16),(17,zI ((k+1:Nat):Int))]) (ow':=[(16,⟨40,1,(F.map fun l=>dI l)++[dI (jo n p k)]⟩)]) az aB),k+1,by omega,rfl,by rw[hsn,List.map_append];rfl⟩
 ·obtain rfl:k=n:=by omega
  rw[List.take_of_length_le (by omega)]
  (repeat(first|refine gk fun K hK=>?_|refine zs2 ?_));refine qJ ?_;(repeat(first|refine gk fun K hK=>?_|refine zs2 ?_))
  refine au ?_
  (repeat(first|refine gk fun K hK=>?_|refine zs2 ?_))
  refine aw (ai (k:=16) aG aQ aP) ?_
  (repeat(first|refine gk fun K hK=>?_|refine zs2 ?_));(refine gar ?_;refine aK ?_;refine zs4 ?_;refine mJ ?_;refine aK ?_;refine uB ?_;refine zs4 ?_;refine bT ?_;refine bT ?_;(refine bL (k:=19) (z:=(.agg #[.int .i64 0,.slice none 0 0,.int .i64 0])) (d:=(.st [.sc (.int .i64 0),.sc (.slice none 0 0),.sc (.int .i64 0)])) rfl rfl rfl rfl rfl aa ae ae bN ae ae bj ?_);refine cv ?_;refine zs6 ?_;refine af ?_);(repeat(first|refine gk fun K hK=>?_|refine zs2 ?_));(refine gar ?_;refine zs4 ?_;refine uS ?_;refine zs4 ?_;refine cC ?_;refine cC ?_;refine oW ?_;refine fq ?_;refine zs4 ?_;refine Gw ?_;refine fq ?_;refine zs6 ?_;refine af ?_);(repeat(first|refine gk fun K hK=>?_|refine zs2 ?_))
  exact⟨_,Sh.refl,.one (.tmp 6) _ rfl (.tmp 6 rfl)⟩
theorem we(dim den:Int)(m f:Mx.Mat)(p q:Int)(a b:Bool)(h:(a&&b)=false)(LT:Fn Tryz.prog 30 [dL dim m den] (.sc (.bool a)))(SM:Fn Tryz.prog 14 [dM f] (.sc (.bool b))):Fn Tryz.prog 9 [dL dim m den,dM f,dF p q] (.sc (.bool true)):=by
 have AW:=pF
 cases a
 ·refine aE Tryz.func9 aa rfl rfl rfl fun X0=>?_
  simp only[ay]
  (repeat(first|refine gk fun K hK=>?_|refine zs2 ?_));refine kQ ?_;(repeat(first|refine gk fun K hK=>?_|refine zs2 ?_));refine qG ?_;(repeat(first|refine gk fun K hK=>?_|refine zs2 ?_))
  refine ao ?_
  (repeat(first|refine gk fun K hK=>?_|refine zs2 ?_));refine y7 ?_;(repeat(first|refine gk fun K hK=>?_|refine zs2 ?_))
  exact⟨_,Sh.refl,.one (.tmp 6) _ rfl (.tmp 6 rfl)⟩
 ·obtain rfl:b=false:=by simpa using h
  refine aE Tryz.func9 aa rfl rfl rfl fun X0=>?_
  simp only[ay]
  (repeat(first|refine gk fun K hK=>?_|refine zs2 ?_));refine kQ ?_;(repeat(first|refine gk fun K hK=>?_|refine zs2 ?_));refine qG ?_;(repeat(first|refine gk fun K hK=>?_|refine zs2 ?_))
  refine ao ?_
  (repeat(first|refine gk fun K hK=>?_|refine zs2 ?_));refine y7 ?_;(repeat(first|refine gk fun K hK=>?_|refine zs2 ?_))
  exact⟨_,Sh.refl,.one (.tmp 6) _ rfl (.tmp 6 rfl)⟩
theorem n8(n d:Int)(R:Mx.Mat)(h:R.length≤1000000000)(h2:∀l∈R,l.length≤1000000000):Fn Tryz.prog 35 [dL n R d,dL n R d] (.sc (.bool true)):=by
 have:=xZ n n d d R R h h2
 rwa[decide_eq_true rfl,decide_eq_true rfl,decide_eq_true rfl]at this
theorem CJ{n:Nat}{m f:Mx.Mat}{den:Int}(q:Int)(hc:lck n m den=0)(hn:n≤5)(hs:smL f=true):∃n2 R2 d2 C2,Fn Tryz.prog 47 [dL n m den,dM f,zI q] (.tp [dL n2 R2 d2,zI C2])∧Fn Tryz.prog 49 [dL n m den,dM f,zI q] (.tp [dL n2 R2 d2,zI C2])∧R2.length≤64∧∀l∈R2,l.length≤64:=by
 obtain⟨b1,b2⟩:=Ib hs
 obtain⟨k1,k2,k3⟩:=cS hc
 have hR:=cB hc
 have CK:=nq n den m j6 j6 (by omega) (fun r hr=>by have:=hR r hr;omega)
 rw[hc]at CK
 have CM:=Ci f (by omega) (fun r hr=>by have:=b2 r hr;omega)
 have RM:=yP f (by omega)
 have hz:([]:Mx.Mat).length≤64∧∀l∈([]:Mx.Mat),l.length≤64:=⟨by simp,fun l hl=>by cases hl⟩
 by_cases hf:chk f=0
 ·rw[hf]at CM RM
  obtain⟨b3,b4⟩:=Ek hs hf
  by_cases h1:(f.length:Int)=(n:Int)∧1≤wid f∧wid f≤6
  ·by_cases h2:1≤q∧q≤1000000000000000
   ·have hk:=wm hc hn hf h1.2.1 b4 h2
    obtain⟨n2,R2,d2,C,e,e1,e2⟩:=CQ (wid f) (nR (wid f) (kj n m den f) (eC n m den q)) (eC n m den q/nG (wid f) (kj n m den f) (eC n m den q))
    exact⟨n2,R2,d2,C,vE hc hn hf (by omega) h1.2.1 b4 h2 e,ED hc hn hf (by omega) h1.2.1 b4 h2 e,Nat.le_trans e1 hk.Ad,fun l hl=>by have:=hk.rrc l (e2 l hl);omega⟩
   ·exact⟨_,_,_,_,Cd n den m f q (by omega) CK CM h1.1 h1.2 h2,BU n den m f q RM h1.1 h1.2 h2,hz.1,hz.2⟩
  ·exact⟨_,_,_,_,Ce n den m f q (by omega) CK CM h1,BV n den m f q RM h1,hz.1,hz.2⟩
 ·exact⟨_,_,_,_,Cf n den m f q _ hf CK CM,BW n den m f q _ hf RM,hz.1,hz.2⟩
theorem xB(dim den:Int)(m f:List (List Int))(p q:Int)(hd:I64 dim)(hd2:I64 den):Fn Tryz.prog 9 [dL dim m den,dM f,dF p q] (.sc (.bool true)):=by
 have LT:=IG dim den m
 have SM:=Ej f
 by_cases hs:lgt dim m=true∧smL f=true
 ·obtain⟨hs,hs2⟩:=hs
  rw[hs]at LT
  rw[hs2]at SM
  obtain⟨b1,b2,b3⟩:=JQ hs
  have CK:=nq dim den m hd hd2 (by omega) (fun r hr=>by have:=b3 r hr;omega)
  have RC:=EG dim den m (by omega)
  by_cases hc:lck dim m den=0
  ·obtain⟨k1,k2,k3⟩:=cS hc
   obtain⟨n,rfl⟩:∃n:Nat,dim=n:=⟨dim.toNat,by omega⟩
   rw[hc]at CK RC
   have hn:n≤5:=by omega
   obtain⟨n2,R2,d2,C2,PI,RI,l1,l2⟩:=CJ q hc hn hs2
   have SB:=n8 n2 d2 R2 (by omega) (fun l hl=>by have:=l2 l hl;omega)
   by_cases hq:inb 1000000000000000 p=true∧1≤q∧q≤1000000000000000
   ·have hk:=vw hc hn hq.1 hq.2
    obtain⟨n1,R1,d1,C1,e,e1,e2⟩:=CQ n (nR n (j8 n m den p) (eC n m den q)) (eC n m den q/nG n (j8 n m den p) (eC n m den q))
    have PS:=EL hc hn hq.1 hq.2 e
    have RS:=Ey hc hn hq.1 hq.2 e
    have hl1:=hk.Ad
    have SA:=n8 n1 d1 R1 (by omega) (fun l hl=>by have:=hk.rrc l (e2 l hl);omega)
    by_cases hC:C1=0
    ·subst hC
     have hw:=tE p (show 0<n by omega)
     have hi:kj n m den (cU n p)=j8 n m den p:=by
      unfold kj j8
      rw[hw]
      exact EV (Mx.bV (cB hc) (show 0<den by omega)).2.2.2.1
     have PU:=vE (f:=cU n p) (n2:=n1) (d2:=d1) (C:=0) (R2:=R1) hc hn (Bl (by omega) hn hq.1) (jy n p) (by omega) (by omega) hq.2 (by rw[hw,hi];exact e)
     exact xA n hn den n1 d1 n2 d2 C2 m f R1 R2 p q LT SM PS PI RC RS RI SA SB PU
    ·exact pS n den n1 d1 C1 n2 d2 C2 m f R1 R2 p q hC LT SM PS PI RC RS RI SA SB
   ·have SZ:=n8 0 0 [] (by simp) (fun l hl=>by cases hl)
    exact pS n den 0 0 2 n2 d2 C2 m f [] R2 p q (by omega) LT SM (B8 n den m p q CK hq) PI RC (Ew n den m p q hq) RI SZ SB
  ·exact xC dim den _ m f p q hc LT SM (B9 dim den m p q _ hc CK) (Cg dim den m f q _ hc CK) RC
 ·refine we dim den m f p q _ _ ?_ LT SM
  rw[Bool.and_eq_false_iff]
  by_cases h:lgt dim m=true
  ·exact .inr (by simpa using fun h2=>hs ⟨h,h2⟩)
  ·exact .inl kT
end DW
theorem Aw(v vf vb:Value)(dim den p q:Int)(m f:List (List Int))(hd:I64 dim)(hd2:I64 den)(w:World)(h:DW.AR (fun _=>False) w (DW.dL dim m den) v)(hf:DW.AR (fun _=>False) w (DW.dM f) vf)(hb:DW.AR (fun _=>False) w (DW.dF p q) vb):Calls Tryz.prog 9 #[v,vf,vb] w fun e w'=>e= .returned (.bool true)∧Below w.heap.size w w':=by
 refine((DW.xB dim den m f p q hd hd2).2 (fun _=>False) w #[v,vf,vb] (fun _ h=>h.elim) (by simp only[DW.ATp];exact⟨v,_,rfl,h,vf,_,rfl,hf,vb,_,rfl,hb,rfl⟩)).mono fun e w' ⟨u,h1,h2,h3⟩=>⟨?_,h3⟩
 simp only[DW.AR]at h2
 rw[h1,h2.1]
end
end Go.Proofs.YtcgjmdpcplhanaaGreat
