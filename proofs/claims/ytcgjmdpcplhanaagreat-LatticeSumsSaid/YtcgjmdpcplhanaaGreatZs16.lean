/- Lemmas for the law: E16 E38 E37 E43 Q21 Q22 Q23 Q24 Q25 W20 Q26 Q27 E28 M11 E36 -/
import Derived.Test.YtcgjmdpcplhanaaGreatZs15
namespace Go.Proofs.YtcgjmdpcplhanaaGreat
section
abbrev qD:=@Nat.not_lt_zero
abbrev zN:=@List.set_append_right
abbrev Ez:=@Nat.lt_or_gt_of_ne
abbrev Ey:=@Int.lt_of_mul_lt_mul_left
abbrev zM:=@Int.dvd_trans
abbrev qC:=@Int.mul_ediv_cancel'
theorem QO{p q:Prop}(h:q)(f:Wq q->p:=by(intro hW;(refine cE ?_;refine ff ?_;refine my ?_;refine Bq ?_;refine cT ?_);exact hW.out)):p:=f ⟨h⟩
theorem RG{p q:Prop}(h:q)(f:Wq q->p:=by(intro hW;((refine pj (i:=k) rfl rfl rfl ck ck aX ai qz ai cX ai ah qA ?_));exact hW.out)):p:=f ⟨h⟩
theorem zs149{p q:Prop}(h:q)(f:Wq q->p:=by(intro hW;(refine aL1 rfl rfl rfl (by(apply Qd;(exact rfl);(focus((apply aE;(conv=>lhs;whnf);(first|done|exact rfl))));(focus((apply aE;(conv=>lhs;whnf);(first|done|exact rfl))));(exact rfl);(focus((first|exact GX)));(exact rfl))) ?_);exact hW.out)):p:=f ⟨h⟩
theorem QM{p q:Prop}(h:q)(f:Wq q->p:=by(intro hW;(refine bT ?_;refine lT ?_;refine zs149 ?_;refine aQ ?_);exact hW.out)):p:=f ⟨h⟩
theorem Dt{p q:Prop}(h:q)(f:Wq q->p:=by(intro hW;(refine aL1 rfl rfl rfl (by(apply N9;(exact rfl);(exact cK))) ?_);exact hW.out)):p:=f ⟨h⟩
theorem xi{p q:Prop}(h:q)(f:Wq q->p:=by(intro hW;(refine cE ?_;refine zs5 ?_;refine Dt ?_;refine aQ ?_);exact hW.out)):p:=f ⟨h⟩
theorem QN{p q:Prop}(h:q)(f:Wq q->p:=by(intro hW;(refine gar ?_;refine pQ ?_;refine aQ ?_);exact hW.out)):p:=f ⟨h⟩
theorem nM{p q:Prop}(h:q)(f:Wq q->p:=by(intro hW;(refine zs2 ?_;refine QN ?_;refine bR ?_);exact hW.out)):p:=f ⟨h⟩
theorem jM{p q:Prop}(h:q)(f:Wq q->p:=by(intro hW;(refine zs2 ?_;refine QN ?_;refine bA ?_);exact hW.out)):p:=f ⟨h⟩
theorem zs264{p q:Prop}(h:q)(f:Wq q->p:=by(intro hW;(refine gar ?_;refine Ek ?_;refine zs4 ?_;refine aQ ?_);exact hW.out)):p:=f ⟨h⟩
theorem nE{p q:Prop}(h:q)(f:Wq q->p:=by(intro hW;(refine zs264 ?_;refine zs2 ?_);exact hW.out)):p:=f ⟨h⟩
theorem zb77{p:Prop}(h:p:=by rw[D.out.2.2.2];exact sM _ _):p:=h
theorem zb55{p:Prop}(h:p:=by rw[<-HQ.out];exact jd D.out.2.2.1 H1.out.nf.dg zb77):p:=h
end
section
open Go.RowKit
namespace DW
def ei(row:List Int)(B:Mx.Mat)(k:Nat):Nat->Int
 |0=>0
 |j+1=>ei row B k j+row.getD j 0*Mx.at' B j k
def fC(B:Mx.Mat)(cols:Nat)(row:List Int):List Int:=(List.range cols).map fun k=>ei row B k B.length
def tim(A B:Mx.Mat)(cols:Nat):Mx.Mat:=A.map (fC B cols)
structure TimOk(A B:Mx.Mat)(cols:Nat):Prop where
 len:∀row∈A,B.length<=row.length
 rc:∀j,j<B.length->cols<=(Mx.rw B j).length
 hr:∀row∈A,∀j,Hf (row.getD j 0)
 hb:∀j k,Hf (Mx.at' B j k)
 hp:∀row∈A,∀j k,Hf (row.getD j 0*Mx.at' B j k)
 hs:∀row∈A,∀k j,Hf (ei row B k j)
theorem OT{B:Mx.Mat}{cols k:Nat}{row:List Int}(h:k<cols):(fC B cols row)[k]?=some (ei row B k B.length):=by
 unfold fC;rw[bN,iT h];rfl
theorem OP(B:Mx.Mat)(cols:Nat)(row:List Int):(fC B cols row).length=cols:=by unfold fC;simp
theorem Gh{l:List Int}{j:Nat}(h:j<l.length):l[j]?=some (l.getD j 0):=by rw[aq,aV h];rfl
theorem rwg{M:Mx.Mat}{i:Nat}(h:i<M.length):M[i]?=some (Mx.rw M i):=by
 unfold Mx.rw;rw[aq,aV h];rfl
theorem Tu{A B:Mx.Mat}{cols i:Nat}{row:List Int}(h:A[i]?=some row):(tim A B cols)[i]?=some (fC B cols row):=by
 unfold tim;rw[bN,h];rfl
set_option maxRecDepth 20000
set_option maxHeartbeats 1000000
theorem Tt(A B:Mx.Mat)(cols:Nat)(hA:A.length<=1000000)(hB:B.length<=1000000)(hc:cols<=1000000)(H:TimOk A B cols):Fn Tryz.prog 22 [dW A,dW B,zI cols] (dW (tim A B cols)):=by
 refine bg Tryz.func22 ah rfl rfl rfl fun X0=>?_;simp only[aP];refine mO ?_;refine lS ?_;refine av (dz (t:=7) (k:=7) (T:=113) (wd:=1) fF rfl rfl cj) ?_
 (refine av (ay (sl':=[(0,dW A),(1,dW B),(2,zI cols),(7,.own 7),(8,zI 0)]) (ow':=[(7,⟨113,1,[]⟩)]) aF aH) ?_)
 refine bh (fun r s=>∃i,i<=A.length/\r=A.length-i/\s=⟨[(0,dW A),(1,dW B),(2,zI cols),(7,.own 7),(8,zI (i:Nat))],[(7,⟨113,1,((tim A B cols).take i).map dZ⟩)]⟩) (m:=A.length) ⟨0,aO _,rfl,rfl⟩ fun r s hs=>?_;obtain⟨i,hi,rfl,rfl⟩:=hs;have htl:(tim A B cols).length=A.length:=by unfold tim;simp
 by_cases hil:i<A.length
 ·obtain⟨row,hrow⟩:=get_some hil;have hmem:=bj hrow;have hlen:=H.len row hmem;have hti:=Tu (B:=B) (cols:=cols) hrow;have hsn:=bF hti;have hfl:((tim A B cols).take i).length<=1000000:=by rw[aY];omega
  obtain⟨F,hF⟩:∃F,F=(tim A B cols).take i:=⟨_,rfl⟩;rw[<-hF]at hsn hfl;rw[<-hF];clear hF hti htl;have hRl:=OP B cols row;refine iw ?_;refine mT ?_;refine iA ?_;refine av (dz (t:=9) (k:=9) (T:=62) (wd:=2) fF rfl rfl cj) ?_
  (refine av (ay (sl':=[(0,dW A),(1,dW B),(2,zI cols),(7,.own 7),(8,zI (i:Nat)),(9,.own 9),(10,zI 0)]) (ow':=[(9,⟨62,2,[]⟩),(7,⟨113,1,F.map dZ⟩)]) aF aH) ?_)
  refine bh (fun r s=>∃k,k<=cols/\r=cols-k/\s=⟨[(0,dW A),(1,dW B),(2,zI cols),(7,.own 7),(8,zI (i:Nat)),(9,.own 9),(10,zI (k:Nat))],[(9,⟨62,2,((fC B cols row).take k).map .nm⟩),(7,⟨113,1,F.map dZ⟩)]⟩) (m:=cols) ⟨0,aO _,rfl,rfl⟩ fun r s hs=>?_;obtain⟨k,hk,rfl,rfl⟩:=hs;by_cases hkc:k<cols
  ·have hkg:=OT (B:=B) (row:=row) hkc;have hks:=bF hkg;have hgl:((fC B cols row).take k).length<=1000000:=by rw[aY];omega
   obtain⟨G,hG⟩:∃G,G=(fC B cols row).take k:=⟨_,rfl⟩;rw[<-hG]at hks hgl;rw[<-hG];clear hG hkg;refine zs2 ?_;refine po ?_;refine bA ?_;refine gar ?_;(refine aL1 rfl rfl rfl (by(apply(GN (z:=(.agg #[.bool false,.slice none 0 0])) (d:=(.nm 0)));(exact rfl);(kernel_rfl);(exact rfl);(exact rfl);(exact rfl))) ?_);(refine dT (k:=11) (z:=(.agg #[.bool false,.slice none 0 0])) (d:=(.nm 0)) rfl rfl rfl rfl rfl ah ai ai cX ai ai cj ?_);refine iE ?_;refine aQ ?_;refine iA ?_
   (refine av (ay (sl':=[(0,dW A),(1,dW B),(2,zI cols),(7,.own 7),(8,zI (i:Nat)),(9,.own 9),(10,zI (k:Nat)),(11,.opt 11 0),(12,zI 0)]) (ow':=[(11,⟨62,2,[.nm 0]⟩),(9,⟨62,2,G.map .nm⟩),(7,⟨113,1,F.map dZ⟩)]) aF aH) ?_)
   refine bh (fun r s=>∃j,j<=B.length/\r=B.length-j/\s=⟨[(0,dW A),(1,dW B),(2,zI cols),(7,.own 7),(8,zI (i:Nat)),(9,.own 9),(10,zI (k:Nat)),(11,.opt 11 0),(12,zI (j:Nat))],[(11,⟨62,2,[.nm (ei row B k j)]⟩),(9,⟨62,2,G.map .nm⟩),(7,⟨113,1,F.map dZ⟩)]⟩) (m:=B.length) ⟨0,aO _,rfl,rfl⟩ fun r s hs=>?_;obtain⟨j,hj,rfl,rfl⟩:=hs;by_cases hjl:j<B.length
   ·have hx:=Gh (l:=row) (j:=j) aa;have hbj:=rwg hjl;have hy:(Mx.rw B j)[k]?=some (Mx.at' B j k):=Gh (l:=Mx.rw B j) (j:=k) (by have:=H.rc j hjl;omega);have MU:=DZ (row.getD j 0) (Mx.at' B j k) (H.hr row hmem j) (H.hb j k);have AD:=SW (ei row B k j) (row.getD j 0*Mx.at' B j k) (H.hs row hmem k j) (H.hp row hmem j k);refine iw ?_;((first|(apply aI 17;(focus kernel_rfl);(decide+kernel))|(apply aI 16;(focus kernel_rfl);(decide+kernel))|(apply aI 15;(focus kernel_rfl);(decide+kernel))|(apply aI 14;(focus kernel_rfl);(decide+kernel))|(apply aI 13;(focus kernel_rfl);(decide+kernel))|(apply aI 12;(focus kernel_rfl);(decide+kernel))|(apply aI 11;(focus kernel_rfl);(decide+kernel))|(apply aI 10;(focus kernel_rfl);(decide+kernel)));simp only[eu,dw,eU,du]);refine eJ ?_;refine jK ?_;refine rJ ?_;refine jK ?_;refine rJ ?_;refine oK ?_;refine xf ?_;refine iQ ?_;simp only[nx,inB];exact⟨B.length-(j+1),_,by omega,(ay (sl':=[(0,dW A),(1,dW B),(2,zI cols),(7,.own 7),(8,zI (i:Nat)),(9,.own 9),(10,zI (k:Nat)),(11,.opt 11 0),(12,zI ((j+1:Nat):Int))]) (ow':=[(11,⟨62,2,[.nm (ei row B k j+row.getD j 0*Mx.at' B j k)]⟩),(9,⟨62,2,G.map .nm⟩),(7,⟨113,1,F.map dZ⟩)]) aF aH),j+1,by omega,rfl,rfl⟩
   ·obtain rfl:j=B.length:=by omega
    refine kY ?_;refine QO ?_;refine iQ ?_;simp only[nx,inB];exact⟨cols-(k+1),_,by omega,(ay (sl':=[(0,dW A),(1,dW B),(2,zI cols),(7,.own 7),(8,zI (i:Nat)),(9,.own 9),(10,zI ((k+1:Nat):Int))]) (ow':=[(9,⟨62,2,G.map .nm++[.nm (ei row B k B.length)]⟩),(7,⟨113,1,F.map dZ⟩)]) aF aH),k+1,by omega,rfl,by rw[hks,cL];rfl⟩
  ·obtain rfl:k=cols:=by omega
   rw[cf aa];refine zs2 ?_;refine po ?_;refine bR ?_;refine av (az (k:=9) aX bq bp) ?_;refine uz ?_;refine zs2 ?_;refine fE ?_;simp only[nx,inB];exact⟨A.length-(i+1),_,by omega,(ay (sl':=[(0,dW A),(1,dW B),(2,zI k),(7,.own 7),(8,zI ((i+1:Nat):Int))]) (ow':=[(7,⟨113,1,F.map dZ++[dZ (fC B k row)]⟩)]) aF aH),i+1,by omega,rfl,by rw[hsn,cL];rfl⟩
 ·obtain rfl:i=A.length:=by omega
  rw[cf aa];refine kY ?_;refine av (az (k:=7) aX bq bp) ?_;refine ji ?_;exact⟨_,Sh.refl,.one (.tmp 6) _ rfl (.tmp 6 rfl)⟩
end DW
end
section
open Go.RowKit
namespace DW
set_option maxRecDepth 20000
set_option maxHeartbeats 2000000
theorem Fo(M:Mx.Mat)(z:Int)(hM:M.length<=1000000)(hl:∀l∈M,l.length<=1000000)(hz:Hf z)(hx:∀l∈M,∀x∈l,Hf x):Fn Tryz.prog 108 [dW M,.nm z] (dW (mapM (fun x=>x*z) M)):=by
 refine bg Tryz.func108 ah rfl rfl rfl fun X0=>?_;simp only[aP];refine zs2 ?_;refine JX ?_;refine lS ?_;refine av (dz (t:=5) (k:=5) (T:=113) (wd:=1) fF rfl rfl cj) ?_
 (refine av (ay (sl':=[(0,dW M),(3,.pt (.nm z)),(5,.own 5),(6,zI 0)]) (ow':=[(5,⟨113,1,[]⟩)]) aF aH) ?_)
 refine bh (fun r s=>∃i,i<=M.length/\r=M.length-i/\s=⟨[(0,dW M),(3,.pt (.nm z)),(5,.own 5),(6,zI (i:Nat))],[(5,⟨113,1,((mapM (fun x=>x*z) M).take i).map dZ⟩)]⟩) (m:=M.length) ⟨0,aO _,rfl,rfl⟩ fun r s hs=>?_;obtain⟨i,hi,rfl,rfl⟩:=hs;have htl:(mapM (fun x=>x*z) M).length=M.length:=fi _ _;by_cases hil:i<M.length
 ·obtain⟨row,hrow⟩:=get_some hil;have hmem:=bj hrow;have hlr:=hl row hmem;have hti:(mapM (fun x=>x*z) M)[i]?=some (row.map fun x=>x*z):=by unfold mapM;rw[bN,hrow];rfl
  have hsn:=bF hti;have hfl:((mapM (fun x=>x*z) M).take i).length<=1000000:=by rw[aY];omega
  obtain⟨F,hF⟩:∃F,F=(mapM (fun x=>x*z) M).take i:=⟨_,rfl⟩;obtain⟨R,hR⟩:∃R,R=row.map fun x=>x*z:=⟨_,rfl⟩;rw[<-hF,<-hR]at hsn;rw[<-hF]at hfl;rw[<-hF];have hRl:R.length=row.length:=by rw[hR,bD]
  clear hF hti htl;refine iw ?_;refine mT ?_;refine iA ?_;refine av (dz (t:=7) (k:=7) (T:=62) (wd:=2) fF rfl rfl cj) ?_
  (refine av (ay (sl':=[(0,dW M),(3,.pt (.nm z)),(5,.own 5),(6,zI (i:Nat)),(7,.own 7),(8,zI 0)]) (ow':=[(7,⟨62,2,[]⟩),(5,⟨113,1,F.map dZ⟩)]) aF aH) ?_)
  refine bh (fun r s=>∃k,k<=row.length/\r=row.length-k/\s=⟨[(0,dW M),(3,.pt (.nm z)),(5,.own 5),(6,zI (i:Nat)),(7,.own 7),(8,zI (k:Nat))],[(7,⟨62,2,(R.take k).map .nm⟩),(5,⟨113,1,F.map dZ⟩)]⟩) (m:=row.length) ⟨0,aO _,rfl,rfl⟩ fun r s hs=>?_;obtain⟨k,hk,rfl,rfl⟩:=hs;by_cases hkc:k<row.length
  ·obtain⟨x,hx1⟩:=get_some hkc;have hkg:R[k]?=some (x*z):=by rw[hR,bN,hx1];rfl
   have hks:=bF hkg;have hgl:(R.take k).length<=1000000:=by rw[aY];omega
   obtain⟨G,hG⟩:∃G,G=R.take k:=⟨_,rfl⟩;rw[<-hG]at hks hgl;rw[<-hG];clear hG hkg hR;have ML:=DZ x z (hx row hmem x (bj hx1)) hz;refine mP ?_;refine bA ?_;refine QP ?_;refine iQ ?_;simp only[nx,inB];exact⟨row.length-(k+1),_,by omega,(ay (sl':=[(0,dW M),(3,.pt (.nm z)),(5,.own 5),(6,zI (i:Nat)),(7,.own 7),(8,zI ((k+1:Nat):Int))]) (ow':=[(7,⟨62,2,G.map .nm++[.nm (x*z)]⟩),(5,⟨113,1,F.map dZ⟩)]) aF aH),k+1,by omega,rfl,by rw[hks,cL];rfl⟩
  ·obtain rfl:k=row.length:=by omega
   rw[cf aa];clear hR;refine mP ?_;refine bR ?_;refine av (az (k:=7) aX bq bp) ?_;refine uz ?_;refine zs2 ?_;refine fE ?_;simp only[nx,inB];exact⟨M.length-(i+1),_,by omega,(ay (sl':=[(0,dW M),(3,.pt (.nm z)),(5,.own 5),(6,zI ((i+1:Nat):Int))]) (ow':=[(5,⟨113,1,F.map dZ++[dZ R]⟩)]) aF aH),i+1,by omega,rfl,by rw[hsn,cL];rfl⟩
 ·obtain rfl:i=M.length:=by omega
  rw[cf aa];refine kY ?_;refine av (az (k:=5) aX bq bp) ?_;refine ji ?_;exact⟨_,Sh.refl,.one (.tmp 4) _ rfl (.tmp 4 rfl)⟩
end DW
end
section
open Go.RowKit
namespace DW
theorem FV{X:Nat->Prop}{w w':World}{n:Nat}{M:Mx.Mat}{e:Ending}(hX:∀b,X b->b<w.heap.size)(h:qo w n M e w'):∃u,e= .returned u/\AR X w' (dW M) u/\Below w.heap.size w w':=by
 obtain⟨⟨gm,gs,cs,cap,h5,h6,h7⟩,h9⟩:=h;exact⟨_,h5,F3 h7 h6 hX,h9⟩
theorem wby_d(M:Mx.Mat)(n:Nat)(k:Int)(hm:M.length<=1000000)(hn0:0<n)(hn:n<=1000000)(hR:Mx.Rc n M)(fk:Fit k)(hf:∀i j,Fit (Mx.at' M i j)):Fn Tryz.prog 100 [dW M,.nm k] (dW (mapM (fun z=>k*z) M)):=by
 refine⟨enters_of Tryz.func100 ah rfl,fun X w vs hX hv=>?_⟩;simp only[ATp]at hv;obtain⟨v1,r1,e1,h1,v2,r2,e2,h2,rfl⟩:=hv;simp only[AR]at h2;obtain⟨K,rfl,hK⟩:=h2;subst e2;have:vs= #[v1,.agg #[.bool K.s,.slice K.a K.n K.cap]]:=cM.1 e1;subst this;exact(Ul M n v1 K k hm hn fk hf w (um h1 hR hn0) hK).mono fun e w' h=>FV (fun b hb=>(hX b hb).1) h
theorem OB(M N:Mx.Mat)(p n e f:Nat)(hm:M.length<=1000000)(hp:p<=1000000)(hn:n<=1000000)(hn0:0<n)(hp0:0<p)(hl:N.length=p)(he:e+f+20<=6000000000000)(hRM:Mx.Rc p M)(hRN:Mx.Rc n N)(hM:Mx.Bd (2^e) M)(hN:Mx.Bd (2^f) N):Fn Tryz.prog 97 [dW M,dW N] (dW (mulM n M N)):=by
 refine⟨enters_of Tryz.func97 ah rfl,fun X w vs hX hv=>?_⟩;simp only[ATp]at hv;obtain⟨v1,r1,e1,h1,v2,r2,e2,h2,rfl⟩:=hv;subst e2;have:vs= #[v1,v2]:=cM.1 e1;subst this;exact(Ks M N p n e f v1 v2 hm hp hn hn0 hp0 hl he hM hN w (um h1 hRM hp0) (um h2 hRN hn0)).mono fun e w' h=>FV (fun b hb=>(hX b hb).1) h
theorem wL(u v:Int)(fu:Fit u)(fv:Fit v):Fn Tryz.prog 117 [.nm u,.nm v] (.nm (u*v)):=by
 refine⟨enters_of Tryz.func117 ah rfl,fun X w vs hX hv=>?_⟩;simp only[ATp,AR]at hv;obtain⟨v1,r1,e1,⟨x,rfl,hx⟩,v2,r2,e2,⟨y,rfl,hy⟩,rfl⟩:=hv;subst e2;have:vs= #[.agg #[.bool x.s,.slice x.a x.n x.cap],.agg #[.bool y.s,.slice y.a y.n y.cap]]:=cM.1 e1;subst this;exact(tY x y u v fu fv w hx.ip hy.ip).mono fun e w' ⟨⟨z,h1,h2⟩,h3⟩=>⟨_,h1,by simp only[AR];exact⟨z,rfl,h2⟩,h3⟩
theorem PN(z L:Int)(hL:0<=L)(hL2:L<=1000000000000000000):Fn Tryz.prog 91 [zI z,zI L] (.sc (.bool (inb L z))):=by
 refine⟨enters_of Tryz.func91 ah rfl,fun X w vs hX hv=>?_⟩;simp only[ATp,zI,AR]at hv;obtain⟨v1,r1,e1,⟨rfl,_⟩,v2,r2,e2,⟨rfl,_⟩,rfl⟩:=hv;subst e2;have:vs= #[.int .i64 z,.int .i64 L]:=cM.1 e1;subst this;exact(Ag z L hL hL2 w).mono fun e w' ⟨h1,h2⟩=>⟨_,h1,by simp only[AR];exact⟨trivial,rfl⟩,h2⟩
end DW
end
section
open Go.RowKit
namespace DW
section
variable {P : Program} {s : S} {o : Oper}
theorem Qd{g:FuncId}{x y:Operand}{ts:Array TypeId}{d1 r:D}(ho:o.op= .call {callee:=.value y,args:=#[x],argTypes:=ts})(hy:s.op y= .sc (.func (.func g) #[] #[]))(hx:s.op x=d1)(hs:d1.seen=true)(hf:Go.Proofs.Enters P g/\Fun P g [d1] r)(hr:r.seen=true):bH P o s r:=fun X f a w base hX _ hh=>by
 have h1:ATp X w [d1] ([x].map a.eval):=by
  rw[<-hx];refine GU s a [x] (fun z hz=>hh z ?_) (fun z hz=>?_)
  ·rw[ho];simp[Op.operands,Call.operands]at hz⊢;exact .inr hz
  ·rw[bL.1 hz,hx];exact hs
 have h3:=hh y oL;rw[hy]at h3;simp only[SR,AR]at h3;have h2:(execOp a.eval o).run P w= .ok (.enter g ([x].map a.eval).toArray) w:=by
  unfold execOp;rw[ho];have:=hf.1 ([x].map a.eval).toArray w;have e:=h3.1;cases y<;>simp_all [resolve,invoke,Deferred.ofValue,Act.eval]
 rw[h2];refine⟨rfl,(hf.2 X w _ hX (by simpa using h1)).mono fun e w' ⟨u,k1,k2,k3⟩=>⟨u,k1,?_,k3⟩⟩;cases r<;>first|exact k2|simp[D.seen]at hr
end
abbrev dFn(g:Nat):D:=.sc (.func (.func g) #[] #[])
def sT(l:List Int):Int:=if l.all (fun z=>decide (z=0))=true then-1 else(l.findIdx fun z=>!decide (z=0):Nat)
theorem NP{l:List Int}{k:Nat}{x:Int}(h:l[k]?=some x)(hx:x≠0)(hz:∀j y,j<k->l[j]?=some y->y=0):sT l=k:=by
 unfold sT;have hm:=bj h;rw[aj (by rw[cW];intro ha;exact hx (vP (ha x hm)))];have hk:=(ct.1 h).1;have hxe:=(ct.1 h).2;congr 1;rw[List.findIdx_eq hk];refine⟨by rw[hxe];simpa using hx,fun j hj=>?_⟩;have:=hz j _ hj (aV aa);simpa using this
set_option maxRecDepth 20000
set_option maxHeartbeats 1000000
theorem Su(g:Nat)(l:List Int)(hl:l.length<=1000000)(hg:∀z∈l,Fn Tryz.prog g [.nm z] (.sc (.bool (!decide (z=0))))):Fn Tryz.prog 171 [dZ l,dFn g] (zI (sT l)):=by
 refine bg Tryz.func171 ah rfl rfl rfl fun X0=>?_;simp only[aP];refine iA ?_;refine xi ?_;refine zs2 ?_
 (refine av (ay (sl':=[(0,dZ l),(1,dFn g),(6,dZ l),(7,zI l.length),(8,zI 0)]) (ow':=[]) aF aH) ?_)
 refine bh (fun r s=>∃k,k<=l.length/\r=l.length-k/\(∀j y,j<k->l[j]?=some y->y=0)/\s=⟨[(0,dZ l),(1,dFn g),(6,dZ l),(7,zI l.length),(8,zI (k:Nat))],[]⟩) (m:=l.length) ⟨0,aO _,rfl,fun j y hj=>absurd hj (qD j),rfl⟩ fun r s hs=>?_;obtain⟨k,hk,rfl,hz,rfl⟩:=hs;by_cases hkl:k<l.length
 ·obtain⟨x,hx⟩:=get_some hkl;have GX:=hg x (bj hx);by_cases h0:x=0
  ·rw[aD h0]at GX;refine jM ?_;refine ji ?_;refine QM ?_;refine bR ?_;refine nE ?_;simp only[nx,inB];exact⟨l.length-(k+1),_,by omega,(ay (sl':=[(0,dZ l),(1,dFn g),(6,dZ l),(7,zI l.length),(8,zI ((k+1:Nat):Int))]) (ow':=[]) aF aH),k+1,by omega,rfl,fun j y hj hy=>by
    by_cases e:j=k
    ·subst e;rw[hx]at hy;cases hy;exact h0
    ·exact hz j y aa hy,rfl⟩
  ·rw[aG h0]at GX;have EC:=NP hx h0 hz;refine jM ?_;refine ji ?_;refine QM ?_;refine bA ?_;refine ji ?_;rw[EC];exact⟨_,Sh.refl,.one (.tmp 4) _ rfl (.tmp 4 rfl)⟩
 ·obtain rfl:k=l.length:=by omega
  have EC:sT l= -1:=an (by
   rw[cW];intro x hx;obtain⟨j,hj,e⟩:=lX hx;exact aD (hz j x hj (by rw[aV hj,e])))
  refine nM ?_;refine pW ?_;rw[EC];exact⟨_,Sh.refl,.one (.tmp 4) _ rfl (.tmp 4 rfl)⟩
theorem ctf_d(g:Nat)(l:List Int)(hl:l.length<=1000000)(hg:∀z∈l,Fn Tryz.prog g [.nm z] (.sc (.bool (!decide (z=0))))):Fn Tryz.prog 173 [dZ l,dFn g] (.sc (.bool (!(l.all fun z=>decide (z=0))))):=by
 have IX:=Su g l hl hg;have hd:decide (0<=sT l)= !(l.all fun z=>decide (z=0)):=by
  unfold sT
  cases l.all fun z=>decide (z=0)with
  |true=>rfl
  |false=>simp
 rw[<-hd];refine bg Tryz.func173 ah rfl rfl rfl fun X0=>?_;simp only[aP];refine nF ?_;refine bT ?_;refine kU ?_;refine zs7 ?_;refine cn ?_;exact⟨_,Sh.refl,.one (.tmp 4) _ rfl (.tmp 4 rfl)⟩
theorem B0(z:Int):Fn Tryz.prog 95 [.nm z] (.sc (.bool (decide (z=0)))):=by
 refine⟨enters_of Tryz.func95 ah rfl,fun X w vs hX hv=>?_⟩;simp only[ATp,AR]at hv;obtain⟨v1,r1,e1,⟨x,rfl,hx⟩,rfl⟩:=hv;have:vs= #[.agg #[.bool x.s,.slice x.a x.n x.cap]]:=cM.1 e1;subst this;exact(iV x z w hx).mono fun e w' ⟨h1,h2⟩=>⟨_,h1,by simp only[AR];exact⟨trivial,rfl⟩,h2⟩
theorem nz1_d(z:Int):Fn Tryz.prog 172 [.nm z] (.sc (.bool (!decide (z=0)))):=by
 have Z:=B0 z;refine bg Tryz.func172 ah rfl rfl rfl fun X0=>?_;simp only[aP];refine uw ?_;refine jk ?_;refine nD ?_;refine cn ?_;exact⟨_,Sh.refl,.one (.tmp 2) _ rfl (.tmp 2 rfl)⟩
theorem nz2_d(z:Int):Fn Tryz.prog 174 [.nm z] (.sc (.bool (!decide (z=0)))):=by
 have Z:=B0 z;refine bg Tryz.func174 ah rfl rfl rfl fun X0=>?_;simp only[aP];refine uw ?_;refine jk ?_;refine nD ?_;refine cn ?_;exact⟨_,Sh.refl,.one (.tmp 2) _ rfl (.tmp 2 rfl)⟩
theorem VT(u v:Int)(fu:Fit u)(fv:Fit v):Fn Tryz.prog 159 [.nm u,.nm v] (.nm (u-v)):=by
 refine⟨enters_of Tryz.func159 ah rfl,fun X w vs hX hv=>?_⟩;simp only[ATp,AR]at hv;obtain⟨v1,r1,e1,⟨x,rfl,hx⟩,v2,r2,e2,⟨y,rfl,hy⟩,rfl⟩:=hv;subst e2;have:vs= #[.agg #[.bool x.s,.slice x.a x.n x.cap],.agg #[.bool y.s,.slice y.a y.n y.cap]]:=cM.1 e1;subst this;exact(xF x y u v fu fv w hx.ip hy.ip).mono fun e w' ⟨⟨z,h1,h2⟩,h3⟩=>⟨_,h1,by simp only[AR];exact⟨z,rfl,h2⟩,h3⟩
theorem Nv(u v:Int)(fu:Fit u)(fv:Fit v)(hv0:v≠0):Fn Tryz.prog 167 [.nm u,.nm v] (.tp [.nm (u/v),.nm (u%v),zI 0]):=by
 refine⟨enters_of Tryz.func167 ah rfl,fun X w vs hX hv=>?_⟩;simp only[ATp,AR]at hv;obtain⟨v1,r1,e1,⟨x,rfl,hx⟩,v2,r2,e2,⟨y,rfl,hy⟩,rfl⟩:=hv;subst e2;have:vs= #[.agg #[.bool x.s,.slice x.a x.n x.cap],.agg #[.bool y.s,.slice y.a y.n y.cap]]:=cM.1 e1;subst this;refine(vx x y u v fu fv w hx.ip hy.ip).mono fun e w' ⟨q,r,h1,h2,h3,h4⟩=>?_;rw[aj hv0]at h1 h3;refine⟨_,h1,?_,h4⟩;simp only[AR,ATp];exact⟨_,rfl,_,_,rfl,⟨q,rfl,h2⟩,_,_,rfl,⟨r,rfl,h3⟩,_,_,rfl,⟨rfl,rfl⟩,rfl⟩
theorem Vg(l:List Int)(hl:l.length<=1000000)(hb:∀z∈l,I64 z)(K:Nat)(hK:hdr K=false):FnG Tryz.prog 142 [dI l] [] (.own K) [(K,⟨62,2,l.map .nm⟩)]:=by
 refine⟨enters_of Tryz.func142 ah rfl,zr.mv (a:=8) ?_ rfl hK⟩;refine I4 Tryz.func142 rfl rfl (fun _ hp=>by cases hp) fun X0=>?_;simp only[aP];refine mO ?_;refine kX ?_;refine zs5 ?_;(refine G5 (k:=8) (T:=Tryz.prog.elem 147) (zv:=(.agg #[.bool false,.slice none 0 0])) (d0:=(.nm 0)) (wd:=2) rfl rfl rfl rfl ck ck ah ah ai ai ai ai ai aa zb66 ai cj ?_);refine cn ?_;refine xi ?_;refine zs2 ?_
 (refine av (ay (sl':=[(3,.own 8),(9,dI l),(10,zI l.length),(11,zI 0)]) (ow':=[(8,⟨62,2,List.replicate l.length (.nm 0)⟩)]) aF aH) ?_)
 refine bh (fun r s=>∃k,k<=l.length/\r=l.length-k/\s=⟨[(3,.own 8),(9,dI l),(10,zI l.length),(11,zI (k:Nat))],[(8,⟨62,2,(l.take k++List.replicate (l.length-k) 0).map .nm⟩)]⟩) (m:=l.length) ⟨0,aO _,rfl,by simp⟩ fun r s hs=>?_;obtain⟨k,hk,rfl,rfl⟩:=hs;by_cases hkl:k<l.length
 ·obtain⟨z,hz⟩:=get_some hkl;have OZ:=KZ z (hb z (bj hz));have hq:(l.take k++List.replicate (l.length-k) 0).set k z=l.take (k+1)++List.replicate (l.length-(k+1)) 0:=by
   rw[bF hz,zN k z nQ,aY,dK hk,eR,show l.length-k=(l.length-(k+1))+1 by omega,Km,et,fK];rfl
  have hql:(l.take k++List.replicate (l.length-k) 0).length=l.length:=by simp;omega
  obtain⟨R,hR⟩:∃R,R=l.take k++List.replicate (l.length-k) 0:=⟨_,rfl⟩;rw[<-hR]at hq hql;rw[<-hR];clear hR;have hE:(R.map D.nm).set k (.nm z)=(R.set k z).map .nm:=by rw[lu]
  refine jM ?_;refine cE ?_;refine nK ?_;refine zs6 ?_;refine cn ?_
  (refine av (ay (sl':=[(3,.own 8),(9,dI l),(10,zI l.length),(11,zI (k:Nat)),(4,zI (k:Nat)),(5,zI z)]) (ow':=[(8,⟨62,2,R.map .nm⟩)]) aF aH) ?_)
  refine zs2 ?_;refine bT ?_;refine zs4 ?_;refine ll ?_;refine Eh ?_;refine RG ?_;refine eX ?_;rw[hE,hq];refine zs2 ?_;refine nE ?_;simp only[nx,inB];exact⟨l.length-(k+1),_,by omega,(ay (sl':=[(3,.own 8),(9,dI l),(10,zI l.length),(11,zI ((k+1:Nat):Int))]) (ow':=[(8,⟨62,2,(l.take (k+1)++List.replicate (l.length-(k+1)) 0).map .nm⟩)]) aF aH),k+1,by omega,rfl,rfl⟩
 ·obtain rfl:k=l.length:=by omega
  have hq:l.take l.length++List.replicate (l.length-l.length) 0=l:=by simp
  rw[hq];refine nM ?_;refine ji ?_;exact⟨_,Sh.refl,.own 2 8 rfl rfl,rfl⟩
end DW
end
section
open Go.RowKit
namespace CI
variable {P : Program} {h h' : H} {tm tm' : Tm} {rec : Rec} {n : Nat} {r : List RO} {S : Nat->SD} {ops : Array Oper}
theorem Trace.mono(t:Trace rec r tm h tm' h' S)(hg:fS rec)(f:Wf h){i j:Nat}(hij:i<=j)(hj:j<=r.length):(S i).h.next<=(S j).h.next:=by
 have:=(t.gdm hg f (j-i) i aa).good.next
 rwa[show i+(j-i)=j by omega]at this
theorem Trace.low(t:Trace rec r tm h tm' h' S)(hg:fS rec)(f:Wf h){i j:Nat}(hij:i<=j)(hj:j<=r.length):(S j).h.low<=(S i).h.low:=by
 have:=(t.gdm hg f (j-i) i aa).good.low;rwa[show i+(j-i)=j by omega]at this
theorem wg{g h1:H}{k:Nat}(e:T.get h1.t k=T.get g.t k):(g.whole h1).get k=g.get k:=by
 unfold H.get;show(match eI k g.forb with|true=>none|false=>T.get h1.t k)=_;rw[e];rfl
theorem zq{g g':H}{ob:Option B}(e:g.oH ob=some g'){k:Nat}(hk:k<g.next):g'.get k=g.get k:=by
 cases ob with
 |none=>simp only[H.oH,ak]at e;rw[e]
 |some b=>
  obtain⟨_,_,h3,_,h5⟩:=dX e;exact Ba h3 (by rw[h5,aj aa])
theorem Trace.St(t:Trace rec r tm h tm' h' S)(hg:fS rec)(f:Wf h){i k:Nat}(hi:i<r.length)(hw:(S (i+1)).wr=false)(hk:k<(S i).h.next):(S (i+1)).h.get k=(S i).h.get k:=by
 obtain⟨o,ho⟩:∃o,r[i]?=some o:=⟨_,aV hi⟩;have f1:=(t.gd hg f i aa).1;rcases(t.cases ho).2 with⟨_,_,e,_⟩|⟨_,_,_,_,_,ob,_,e,_⟩|⟨_,_,_,h1,e1,e2,e3,_⟩
 ·rw[e]
 ·exact zq e hk
 ·rw[e2];refine wg ((rR hg (oS f1) e1).good.keep k hk ?_);rw[e3]at hw;refine aZ hk (dJ fun hlt=>?_);rw[<-bB]at hlt;rw[hlt]at hw;cases hw
theorem Trace.keepO(t:Trace rec r tm h tm' h' S)(hg:fS rec)(f:Wf h){i k q:Nat}{ro:RO}(hi:r[i]?=some ro)(hq:q<i)(hp:ro.pre.testBit q=false)(h1:(S q).h.next<=k)(h2:k<(S (q+1)).h.next):(S (i+1)).h.get k=(S i).h.get k:=by
 have hlt:=(ct.1 hi).1;have hk:k<(S i).h.next:=aZ h2 (t.mono hg f hq aa)
 have f1:=(t.gd hg f i aa).1;rcases(t.cases hi).2 with⟨_,_,e,_⟩|⟨_,_,_,_,_,ob,_,e,_⟩|⟨_,_,_,g1,e1,e2,e3,_⟩
 ·rw[e]
 ·exact zq e hk
 ·rw[e2];refine wg ((rR hg (oS f1) e1).good.dead k hk fun hl=>?_);have:=nh hl;rw[show((S i).h.part ro.pre (S i).iv).forb=lk ro.pre (S i).iv (S i).h.forb from rfl,wN ((t.iv i aa).2 q hq aa) hp h1 h2]at this;cases this
theorem Trace.Af(t:Trace rec r tm h tm' h' S){i:Nat}(hi:i<r.length)(hw:(S (i+1)).wr=true):(S (i+1)).rd=true:=by
 obtain⟨o,ho⟩:∃o,r[i]?=some o:=⟨_,aV hi⟩;rcases(t.cases ho).2 with⟨_,_,_,e,_⟩|⟨_,_,e,_⟩|⟨_,_,e,_⟩
 ·rw[e]at hw;cases hw
 ·rw[e]at hw;cases hw
 ·exact e
theorem Trace.bound(t:Trace rec r tm h tm' h' S){i j:Nat}{ro:RO}(hij:i<j)(hj:r[j]?=some ro)(hh:((S (i+1)).wr=true/\(S (j+1)).rd=true)\/((S (i+1)).rd=true/\(S (j+1)).wr=true)):ro.pre.testBit i=true:=by
 have hlt:=(ct.1 hj).1;have hri:(S (i+1)).rd=true:=by
  rcases hh with⟨h1,_⟩|⟨h1,_⟩
  ·exact t.Af aa h1
  ·exact h1
 have hrj:(S (j+1)).rd=true:=by
  rcases hh with⟨_,h1⟩|⟨_,h1⟩
  ·exact h1
  ·exact t.Af hlt h1
 rcases(t.cases hj).2 with⟨_,_,_,_,e,_⟩|⟨_,_,_,e,_⟩|⟨_,_,_,g1,_,_,_,e4,_⟩
 ·rw[e]at hrj;cases hrj
 ·rw[e]at hrj;cases hrj
 ·refine yo e4 (t.rw' j aa i hij hri) ?_;rcases hh with⟨h1,_⟩|⟨_,h1⟩<;>simp[h1]
theorem stay{k x:Nat}:∀{y:Nat},x<=y->(∀i,x<=i->i<y->(S (i+1)).h.get k=(S i).h.get k)->(S y).h.get k=(S x).h.get k:=fun {y} hxy=>by
 induction y with
 |zero=>intro _;rw[show x=0 by omega]
 |succ y ih=>
  intro hh;by_cases hx:x=y+1
  ·rw[hx]
  ·rw[hh y aa aa,ih aa fun i h1 h2=>hh i h1 aa]
theorem Trace.owner(t:Trace rec r tm h tm' h' S){k:Nat}:∀{j:Nat},(S 0).h.next<=k->k<(S j).h.next->∃q,q<j/\(S q).h.next<=k/\k<(S (q+1)).h.next
 |0,h1,h2=>by omega
 |j+1,h1,h2=>by
  by_cases hk:k<(S j).h.next
  ·obtain⟨q,q1,q2⟩:=t.owner h1 hk;exact⟨q,by omega,q2⟩
  ·exact⟨j,by omega,by omega,h2⟩
structure S5(P:Program)(S:Nat->SD)(ops:Array Oper)(j:Nat)(o:Oper)(pre:Nat)(G h1:H):Prop where
 nx:G.next=(S j).h.next
 nx1:h1.next=(S (j+1)).h.next
 g1:∀k b,G.get k=some b->k<(S j).h.next/\(S j).h.get k=some b/\(S (j+1)).rd=true/\∀q,q<j->(S q).h.next<=k->k<(S (q+1)).h.next->pre.testBit q=true
 g2:∀k b,(S j).h.next<=k->(S (j+1)).h.get k=some b->h1.get k=some b
 g3:∀k,G.live k->(S (j+1)).h.get k=h1.get k
 g4:∀k,k<(S j).h.next->¬G.live k->(S (j+1)).h.get k=(S j).h.get k
 g5:(S (j+1)).wr=false->∀k,G.live k->h1.get k=G.get k
 low:∀k,G.live k->h1.low<=k->(S (j+1)).h.low<=k
 bd:(S j).h.next<=1000000
 wp:∀(F:Fence) (_:FC F) (Q:Exit->Act->World->Prop) (K:Act->World->Prop) (A:Nat->Prop) (ρ:Nat->Nat) (w:World) (a:Act),Rel P A ρ w G->Dj A G h1->(∀u,u∈looks ops o->VR P A ρ w (CO.ev (S j).tm (CO.t u)) (a.tmps.getD u undef))->
  (∀u w' ρ',cR P A ρ w G ρ' w' h1->VR P (Ext A G h1) ρ' w' (S (j+1)).v u->K (a.put o.dst u) w')->wpOpIn F 0 P ops Q j K a w
def bare(k:Nat):H:=⟨k,k,[],.e⟩
theorem vD(k j:Nat):(bare k).get j=none:=by
 unfold H.get bare;simp only[eI,T.Bb]
theorem nC(k j:Nat):¬(bare k).live j:=by unfold H.live;rw[vD];simp
theorem F7{A:Nat->Prop}{ρ:Nat->Nat}{w:World}{a:Act}{o:Oper}{tm:Tm}(hl:∀u,u∈looks ops o->VR P A ρ w (CO.ev tm (CO.t u)) (a.tmps.getD u undef)):HV P A ρ w tm a o:=fun y hy=>by
 cases y with
 |tmp u=>
  have:=hl u (by
   unfold looks;exact EB _ (List.mem_filterMap.2 ⟨.tmp u,by simpa using hy,rfl⟩))
  unfold OpV;simpa[aS,Act.eval]using this
 |const v=>exact CJ v
 |global g=>simp only[OpV,aS,CO.ev,VR]
 |func g=>
  show VR P A ρ w (.fn g []) (.func (.func g) #[] #[]);simp only[VR,VRl];exact⟨_,rfl,rfl⟩
theorem Tz(hrec:oI P rec)(hg:fS rec)(t:Trace rec r tm h tm' h' S)(st:Stat P n ops r)(f:Wf h){j:Nat}{o:Oper}(ho:ops[j]?=some o):∃ro G h1,r[j]?=some ro/\dh n o.dst=true/\(S (j+1)).tm=lD (S j).tm o.dst (S (j+1)).v/\S5 P S ops j o ro.pre G h1:=by
 obtain⟨g,p,hr,hdst,hgd⟩:=st.row j o ho;have hjl:j<r.length:=(ct.1 hr).1;obtain⟨f1,_⟩:=t.gd hg f j aa;obtain⟨ht,hcs⟩:=t.cases hr;have hwant:∀(A:Nat->Prop) (ρ:Nat->Nat) (w:World) (a:Act) (b:Bool),lY ⟨o.dst,g,(match bc P o.op with|some x=>x|none=> .bad),p⟩ (S j).tm=some b->(∀u,u∈looks ops o->VR P A ρ w (CO.ev (S j).tm (CO.t u)) (a.tmps.getD u undef))->Region.wanted o (yielded ops a.tmps)=b:=fun A ρ w a b hw hl=>by
  refine uL (P:=P) (A:=A) (ρ:=ρ) (w:=w) hgd hw fun u c hc=>hl u ?_;unfold looks;refine List.mem_append_left _ ?_
  cases hog:o.guard with
  |none=>rw[hog]at hgd;simp only[ak]at hgd;rw[<-hgd]at hc;cases hc
  |some q=>
   obtain⟨q1,q2⟩:=q;rw[hog]at hgd;simp only at hgd⊢;obtain⟨u',e1,e2⟩:=aJ hgd;rw[hc]at e2;simp only[ak,aR]at e2;rw[e1,e2.1];simp
 rcases hcs with⟨hw,hv,hh,hwr,hrd,_⟩|⟨hw,hT,hwr,hrd,_,ob,e1,e2,_⟩|⟨hw,hT,hrd,h1,e1,e2,e3,e4,_⟩
 ·refine⟨_,bare (S j).h.next,bare (S j).h.next,hr,hdst,ht,rfl,(by rw[hh];rfl),(fun k b e=>by rw[vD]at e;cases e),fun k b hk e=>?_,fun k hl=>absurd hl (nC _ _),(fun k _ _=>by rw[hh]),fun _ k hl=>absurd hl (nC _ _),fun k hl=>absurd hl (nC _ _),f1.bd,fun F hF Q K A ρ w a tR hd hl hK=>?_⟩
  ·rw[hh]at e;have:=f1.lt k b (lJ e);omega
  ·unfold wpOpIn;simp only[ho];rw[hwant A ρ w a false hw hl,aj aU];exact⟨fun g _=>hF.fn g,hK undef w ρ (cR.refl tR) (by rw[hv];simp only[VR])⟩
 ·obtain ⟨h1, e3⟩ : ∃ h1, (bare (S j).h.next).oH ob = some h1 := by
   cases ob with
   |none=>exact⟨_,rfl⟩
   |some b=>
    have:=(dX e2).2.2.2.1;exact⟨_,by
     show(bare (S j).h.next).new b=_;unfold H.new bare;rw[(by simpa[bB]using this:Nat.blt (S j).h.next 1000000=true)]⟩
  have hcc:=DD (P:=P) (o:=o) rfl (.inr fun e5=>by
   have e6:=(jS (fun x=>xT x (S j).tm (S j).h.next) e5).symm.trans e1;rw[LG]at e6;cases e6)
  have hn1:h1.next=(S (j+1)).h.next:=by
   cases ob with
   |none=>
    simp only[H.oH,ak]at e2 e3;rw[<-e2,<-e3];rfl
   |some b=>rw[(dX e3).1,(dX e2).1];rfl
  refine⟨_,bare (S j).h.next,h1,hr,hdst,ht,rfl,hn1,(fun k b e=>by rw[vD]at e;cases e),fun k b hk e=>?_,fun k hl=>absurd hl (nC _ _),fun k hk _=>zq e2 hk,fun _ k hl=>absurd hl (nC _ _),fun k hl=>absurd hl (nC _ _),f1.bd,fun F hF Q K A ρ w a tR hd hl hK=>?_⟩
  ·cases ob with
   |none=>
    simp only[H.oH,ak]at e2;rw[<-e2]at e;have:=f1.lt k b (lJ e);omega
   |some b'=>
    obtain⟨q1,q2,q3,q4,q5⟩:=dX e2;obtain⟨s1,s2,s3,s4,s5⟩:=dX e3;have e':=lJ e;rw[q5]at e';split at e'
    ·next hk'=>
     simp only[ak]at e';subst e';unfold H.get;rw[s3];simp only[bare,eI];rw[s5];exact an hk'
    ·have:=f1.lt k b e';omega
  ·unfold wpOpIn;simp only[ho];rw[hwant A ρ w a true hw hl,an rfl];exact KN hF (rp ⟨_,hcc⟩) (t_me (h:=bare (S j).h.next) hcc hT e1 e3 (F7 hl) tR hd) hK
 ·have hcc:=DD (P:=P) (o:=o) rfl (.inl hT);have gp:=rR hg (oS f1) e1;have hout:∀k,(S j).h.next<=k->eI k (lk p (S j).iv (S j).h.forb)=eI k (S j).h.forb:=fun k hk=>C4 fun x hx=>by
   obtain⟨q,hq,rfl⟩:=(t.iv j aa).1 x hx;have:=t.mono hg f (show q+1<=j by omega) aa;simp only;omega
  refine⟨_,(S j).h.part p (S j).iv,h1,hr,hdst,ht,rfl,(by rw[e2];rfl),fun k b e=>⟨f1.lt k b (lJ (va e)),va e,hrd,fun q hq q1 q2=>?_⟩,fun k b hk e=>?_,fun k hl=>?_,fun k hk hl=>?_,fun hw0 k hl=>?_,fun k _ hlo=>?_,f1.bd,fun F hF Q K A ρ w a tR hd hl hK=>?_⟩
  ·cases hp:p.testBit q with
   |true=>rfl
   |false=>
    have:=nh (bJ e);rw[show((S j).h.part p (S j).iv).forb=lk p (S j).iv (S j).h.forb from rfl,wN ((t.iv j aa).2 q hq aa) hp q1 q2]at this;cases this
  ·rw[e2]at e;have hf:=gp.good.forb;unfold H.get at e⊢;rw[hf,show((S j).h.part p (S j).iv).forb=lk p (S j).iv (S j).h.forb from rfl,hout k hk];exact e
  ·rw[e2];have hb:=nh hl;have hb2:eI k (S j).h.forb=false:=lH p k _ _ hb;unfold H.get;rw[gp.good.forb,hb];show(match eI k (S j).h.forb with|true=>none|false=>T.get h1.t k)=_;rw[hb2]
  ·rw[e2];exact wg (gp.good.dead k hk hl)
  ·have hk : k < (S j).h.next := by
    obtain⟨b,eb⟩:=cV.1 hl;exact f1.lt k b (lJ (va eb))
   rw[e3]at hw0;refine Ba gp.good.forb (gp.good.keep k hk (aZ hk (dJ fun hlt=>?_)));rw[<-bB]at hlt;rw[hlt]at hw0;cases hw0
  ·rw[e2];exact aB (Cu _ _).2 hlo
  ·unfold wpOpIn;simp only[ho];rw[hwant A ρ w a true hw hl,an rfl];exact r_wp hrec hF hcc hT e1 (oS f1) (F7 hl) tR hd hK
end CI
end
section
open Go.RowKit
namespace CI
variable {P : Program} {h h' : H} {tm tm' : Tm} {rec : Rec} {n : Nat} {r : List RO} {S : Nat->SD} {ops : Array Oper} {A : Nat->Prop} {ρ ρ1 ρ2 : Nat->Nat} {w w1 w2 : World} {a : Act} {ds : List Nat} {L : Nat->Prop} {s j : Nat}
def AL(A:Nat->Prop)(S:Nat->SD)(L:Nat->Prop)(k:Nat):Prop:=A k\/∃i,L i/\(S i).h.next<=k/\k<(S (i+1)).h.next
def Lv(S:Nat->SD)(L:Nat->Prop)(s k:Nat)(b:B):Prop:=(k<(S 0).h.next/\(S s).h.get k=some b)\/∃i,L i/\(S i).h.next<=k/\k<(S (i+1)).h.next/\(S (max s (i+1))).h.get k=some b
structure Inv(P:Program)(S:Nat->SD)(ops:Array Oper)(r:List RO)(h':H)(n:Nat)(ds:List Nat)(A:Nat->Prop)(ρ:Nat->Nat)(w:World)(L:Nat->Prop)(s:Nat)(ρ1:Nat->Nat)(a:Act)(w1:World):Prop where
 cl:∀i ro q,L i->r[i]?=some ro->ro.pre.testBit q=true->L q
 lN:∀i,L i->i<r.length
 s0:s<=r.length
 sl:∀i,i<s->(S (i+1)).wr=true->L i
 sr:∀i,s<=i->i<r.length->(S (i+1)).wr=true->¬L i
 tmv:∀t,(∃i o,L i/\ops[i]?=some o/\o.dst=some t/\(∀i' o',L i'->i<i'->ops[i']?=some o'->o'.dst≠some t)/\VR P (AL A S L) ρ1 w1 (S (i+1)).v (a.tmps.getD t undef))\/
  ((∀i o,L i->ops[i]?=some o->o.dst≠some t)/\VR P (AL A S L) ρ1 w1 (CO.ev (S 0).tm (CO.t t)) (a.tmps.getD t undef))
 sz:a.tmps.size=n
 df:a.defers=ds.map (wS ρ)
 blk:∀k b,Lv S L s k b->ρ1 k<w1.heap.size/\BR P (AL A S L) ρ1 w1 (ρ1 k) b
 inj:∀k b k' b',Lv S L s k b->Lv S L s k' b'->ρ1 k=ρ1 k'->k=k'
 lt:Lt w w1
 fr:∀b,b<w.heap.size->(∀k,(S 0).h.live k->h'.low<=k->ρ k≠b)->w1.heap[b]?=w.heap[b]?
 rho:∀k,(k<(S 0).h.next\/h'.next<=k)->ρ1 k=ρ k
 new:∀k b,Lv S L s k b->(S 0).h.next<=k->w.heap.size<=ρ1 k\/∃i,(S 0).h.live i/\h'.low<=i/\ρ1 k=ρ i
theorem Kw(t:Trace rec r tm h tm' h' S)(st:Stat P n ops r)(hn:n<1000000)(u:Nat):∀j,j<=r.length->(∃i o,i<j/\ops[i]?=some o/\o.dst=some u/\(∀i' o',i'<j->i<i'->ops[i']?=some o'->o'.dst≠some u)/\CO.ev (S j).tm (CO.t u)=(S (i+1)).v)\/
  ((∀i o,i<j->ops[i]?=some o->o.dst≠some u)/\CO.ev (S j).tm (CO.t u)=CO.ev (S 0).tm (CO.t u))
 |0,_=> .inr ⟨fun i o hi=>by omega,rfl⟩
 |j+1,hj=>by
  have hjo:j<ops.size:=by rw[<-st.len];omega
  obtain⟨o,ho⟩:∃o,ops[j]?=some o:=⟨_,mD hjo⟩;obtain⟨g,p,hr,hdst,_⟩:=st.row j o ho;have ht:=(t.cases hr).1;have ih:=Kw t st hn u j aa;by_cases hd:o.dst=some u
  ·refine .inl ⟨j,o,by omega,ho,hd,fun i' o' h1 h2=>by omega,?_⟩;have hu:u<n:=by rw[hd]at hdst;simpa[dh,bB]using hdst
   rw[ht];simp only[lD,hd];rw[Be (t:=u) aa,an rfl]
  ·have hsame : CO.ev (S (j + 1)).tm (CO.t u) = CO.ev (S j).tm (CO.t u) := by
    rw[ht]
    cases hdd:o.dst with
    |none=>rfl
    |some v=>
     have hv:v<n:=by rw[hdd]at hdst;simpa[dh,bB]using hdst
     simp only[lD];rw[Be (t:=v) (Nat.lt_trans hv hn),aj (fun e=>hd (by rw[hdd,e]))]
   rcases ih with⟨i,o',h1,h2,h3,h4,h5⟩|⟨h1,h2⟩
   ·refine .inl ⟨i,o',by omega,h2,h3,fun i' o'' k1 k2 k3=>?_,by rw[hsame,h5]⟩;rcases te.1 k1 with k|k
    ·exact h4 i' o'' k k2 k3
    ·subst k;rw[ho]at k3;simp only[ak]at k3;rw[<-k3];exact hd
   ·refine .inr ⟨fun i o' k1 k2=>?_,by rw[hsame,h2]⟩;rcases te.1 k1 with k|k
    ·exact h1 i o' k k2
    ·subst k;rw[ho]at k2;simp only[ak]at k2;rw[<-k2];exact hd
section
variable (t : Trace rec r tm h tm' h' S) (st : Stat P n ops r) (hg : fS rec) (f : Wf h)
theorem Inv.slots(I:Inv P S ops r h' n ds A ρ w L s ρ1 a w1)(t:Trace rec r tm h tm' h' S)(st:Stat P n ops r)(hn:n<1000000){o:Oper}{ro:RO}(ho:ops[j]?=some o)(hr:r[j]?=some ro)(hj:¬L j)(hpre:∀q,ro.pre.testBit q=true->L q):∀u,u∈looks ops o->VR P (AL A S L) ρ1 w1 (CO.ev (S j).tm (CO.t u)) (a.tmps.getD u undef):=fun u hu=>by
 have hjl:j<r.length:=(ct.1 hr).1;have later:∀i o',L i->j<i->ops[i]?=some o'->o'.dst≠some u:=fun i o' hL hji hi hd=>by
  obtain⟨ro',hro'⟩:∃ro',r[i]?=some ro':=⟨_,aV (I.lN i hL)⟩;exact hj (I.cl i ro' j hL hro' (st.tmp j i o o' ro' u hji ho hi hro' (.inr (.inl ⟨hd,hu⟩))))
 rcases Kw t st hn u j aa with⟨i,o',h1,h2,h3,h4,h5⟩|⟨h1,h2⟩
 ·have hLi:L i:=hpre i (st.tmp i j o' o ro u h1 h2 ho hr (.inl ⟨h3,hu⟩));rw[h5];rcases I.tmv u with⟨i',o'',k1,k2,k3,k4,k5⟩|⟨k1,k2⟩
  ·have : i' = i := by
    rcases mW i i' with e|e|e
    ·exfalso;rcases mW i' j with e2|e2|e2
     ·exact h4 i' o'' e2 e k2 k3
     ·exact hj (e2▸k1)
     ·exact later i' o'' k1 e2 k2 k3
    ·exact e.symm
    ·exact absurd h3 (k4 i o' hLi e h2)
   subst this;exact k5
  ·exact absurd h3 (k1 i o' hLi h2)
 ·rw[h2];rcases I.tmv u with⟨i',o'',k1,k2,k3,k4,k5⟩|⟨k1,k2⟩
  ·exfalso;rcases mW i' j with e2|e2|e2
   ·exact h1 i' o'' e2 k2 k3
   ·exact hj (e2▸k1)
   ·exact later i' o'' k1 e2 k2 k3
  ·exact k2
theorem Inv.quiet(I:Inv P S ops r h' n ds A ρ w L s ρ1 a w1)(t:Trace rec r tm h tm' h' S){ro:RO}(hr:r[j]?=some ro)(hj:¬L j)(hpre:∀q,ro.pre.testBit q=true->L q)(hrd:(S (j+1)).rd=true):
  (∀i,s<=i->i<j->(S (i+1)).wr=false)/\(∀i,j<=i->i<s->(S (i+1)).wr=false):=by
 have hjl:j<r.length:=(ct.1 hr).1;refine⟨fun i h1 h2=>?_,fun i h1 h2=>?_⟩
 ·cases hw:(S (i+1)).wr with
  |false=>rfl
  |true=>exact absurd (hpre i (t.bound h2 hr (.inl ⟨hw,hrd⟩))) (I.sr i h1 aa hw)
 ·cases hw:(S (i+1)).wr with
  |false=>rfl
  |true=>
   exfalso;have hLi:=I.sl i h2 hw;have hne:i≠j:=fun e=>hj (e▸hLi);obtain⟨ro',hro'⟩:∃ro',r[i]?=some ro':=⟨_,aV (I.lN i hLi)⟩;exact hj (I.cl i ro' j hLi hro' (t.bound aa hro' (.inr ⟨hrd,hw⟩)))
theorem jE(t:Trace rec r tm h tm' h' S)(hg:fS rec)(f:Wf h){x y k:Nat}(hxy:x<=y)(hy:y<=r.length)(hk:k<(S x).h.next)(hw:∀i,x<=i->i<y->(S (i+1)).wr=false):(S y).h.get k=(S x).h.get k:=
 stay hxy fun i h1 h2=>t.St hg f aa (hw i h1 h2) (aZ hk (t.mono hg f h1 aa))
end
end CI
end
section
open Go.RowKit
namespace CI
variable {P : Program} {h h' : H} {tm tm' : Tm} {rec : Rec} {n : Nat} {r : List RO} {S : Nat->SD} {ops : Array Oper} {A : Nat->Prop} {ρ ρ1 ρ2 : Nat->Nat} {w w1 w2 : World} {a : Act} {ds : List Nat} {L : Nat->Prop} {s j : Nat} {o : Oper} {ro : RO} {G h1 : H}
structure pV(rec:Rec)(P:Program)(S:Nat->SD)(ops:Array Oper)(r:List RO)(tm:Tm)(h:H)(tm':Tm)(h':H)(n:Nat)(A:Nat->Prop)(L:Nat->Prop)(j:Nat)(o:Oper)(ro:RO)(G h1:H):Prop where
 t:Trace rec r tm h tm' h' S
 st:Stat P n ops r
 hg:fS rec
 f:Wf h
 hn:n<1000000
 ho:ops[j]?=some o
 hr:r[j]?=some ro
 hj:¬L j
 pre:∀q,ro.pre.testBit q=true->L q
 dst:dh n o.dst=true
 sg:S5 P S ops j o ro.pre G h1
 dj:Dj A h h'
 nm:∀k,h.live k->A k
theorem Lv.uniq(t:Trace rec r tm h tm' h' S)(hg:fS rec)(f:Wf h)(hL:∀i,L i->i<r.length){k:Nat}{b b':B}(e:Lv S L s k b)(e':Lv S L s k b'):b=b':=by
 have m0:∀i,L i->(S 0).h.next<=(S i).h.next:=fun i hi=>t.mono hg f (aO _) (bQ (hL i hi))
 rcases e with⟨h1,e⟩|⟨i,hi,a1,a2,e⟩<;>rcases e' with⟨h1',e'⟩|⟨i',hi',a1',a2',e'⟩
 ·rw[e]at e';simpa using e'
 ·have:=m0 i' hi';omega
 ·have:=m0 i hi;omega
 ·have : i = i' := by
   rcases mW i i' with x|x|x
   ·have:=t.mono hg f (show i+1<=i' from x) (bQ (hL i' hi'));omega
   ·exact x
   ·have:=t.mono hg f (show i'+1<=i from x) (bQ (hL i hi));omega
  subst this;rw[e]at e';simpa using e'
section
variable (M : pV rec P S ops r tm h tm' h' n A L j o ro G h1)
theorem pV.jl(M:pV rec P S ops r tm h tm' h' n A L j o ro G h1):j<r.length:=(ct.1 M.hr).1
theorem pV.mono(M:pV rec P S ops r tm h tm' h' n A L j o ro G h1){x y:Nat}(h1:x<=y)(h2:y<=r.length):(S x).h.next<=(S y).h.next:=M.t.mono M.hg M.f h1 h2
theorem Inv.sS(I:Inv P S ops r h' n ds A ρ w L s ρ1 a w1)(M:pV rec P S ops r tm h tm' h' n A L j o ro G h1){k:Nat}{b:B}(e:G.get k=some b):Lv S L s k b:=by
 obtain⟨k1,k2,k3,k4⟩:=M.sg.g1 k b e;obtain⟨q1,q2⟩:=I.quiet M.t M.hr M.hj M.pre k3;have jl:=M.jl;by_cases hk:k<(S 0).h.next
 ·refine .inl ⟨hk,?_⟩;rcases Nat.le_total s j with hs|hs
  ·rw[<-jE M.t M.hg M.f hs aa (aZ hk (M.mono (aO _) I.s0)) q1];exact k2
  ·rw[jE M.t M.hg M.f hs I.s0 k1 q2];exact k2
 ·obtain⟨q,hq,a1,a2⟩:=M.t.owner (dJ hk) k1;refine .inr ⟨q,M.pre q (k4 q hq a1 a2),a1,a2,?_⟩;rcases Nat.le_total s j with hs|hs
  ·rw[<-jE M.t M.hg M.f (x:=max s (q+1)) (y:=j) aa aa (aZ a2 (M.mono aa aa)) (fun i i1 i2=>q1 i aa i2)];exact k2
  ·rw[show max s (q+1)=s by omega,jE M.t M.hg M.f hs I.s0 k1 q2];exact k2
theorem Inv.nmA(I:Inv P S ops r h' n ds A ρ w L s ρ1 a w1)(M:pV rec P S ops r tm h tm' h' n A L j o ro G h1){k:Nat}{b:B}(e:Lv S L s k b):AL A S L k:=by
 rcases e with⟨hk,e⟩|⟨i,hi,a1,a2,_⟩
 ·refine .inl (M.nm k ?_);have g:=(M.t.gd M.hg M.f s I.s0).2;rw[M.t.h0]at hk;exact g.good.back hk (bJ e)
 ·exact .inr ⟨i,hi,a1,a2⟩
theorem Inv.rel(I:Inv P S ops r h' n ds A ρ w L s ρ1 a w1)(M:pV rec P S ops r tm h tm' h' n A L j o ro G h1):Rel P (AL A S L) ρ1 w1 G:=by
 refine⟨fun k b e=>?_,fun k k' hl hl' e=>?_,by rw[M.sg.nx];exact M.sg.bd⟩
 ·have hlv:=I.sS M e;obtain⟨b1,b2⟩:=I.blk k b hlv;exact⟨by rw[M.sg.nx];exact(M.sg.g1 k b e).1,I.nmA M hlv,b1,b2⟩
 ·obtain⟨b,eb⟩:=cV.1 hl;obtain⟨b',eb'⟩:=cV.1 hl';exact I.inj k b k' b' (I.sS M eb) (I.sS M eb') e
theorem Inv.dj(I:Inv P S ops r h' n ds A ρ w L s ρ1 a w1)(M:pV rec P S ops r tm h tm' h' n A L j o ro G h1):Dj (AL A S L) G h1:=fun k hk=>by
 have jl:=M.jl;rw[M.sg.nx,M.sg.nx1];rcases hk with hk|⟨i,hi,a1,a2⟩
 ·have e1:(S 0).h.next=h.next:=by rw[M.t.h0]
  have e2:(S r.length).h.next=h'.next:=by rw[M.t.hN]
  have m1:=M.mono (aO j) aa;have m2:=M.mono (show j+1<=r.length by omega) (af _);have:=M.dj k hk;omega
 ·rcases mW i j with x|x|x
  ·have:=M.mono (show i+1<=j from x) aa;omega
  ·exact absurd (x▸hi) M.hj
  ·have:=M.mono (show j+1<=i from x) (bQ (I.lN i hi));omega
def sa(S:Nat->SD)(s j:Nat):Nat:=if(S (j+1)).wr=true then j+1 else s
theorem Inv.xN(I:Inv P S ops r h' n ds A ρ w L s ρ1 a w1)(M:pV rec P S ops r tm h tm' h' n A L j o ro G h1){k:Nat}{b:B}(e:Lv S (fun i=>L i\/i=j) (sa S s j) k b):
  (h1.get k=some b/\(G.live k\/((S j).h.next<=k/\k<(S (j+1)).h.next)))\/(¬G.live k/\¬((S j).h.next<=k/\k<(S (j+1)).h.next)/\Lv S L s k b):=by
 have jl:=M.jl;have hwr:(S (j+1)).wr=true->s<=j/\∀i,s<=i->i<j->(S (i+1)).wr=false:=fun hw=>
  ⟨dJ fun hlt=>M.hj (I.sl j hlt hw),(I.quiet M.t M.hr M.hj M.pre (M.t.Af jl hw)).1⟩
 have hs':((S (j+1)).wr=true/\sa S s j=j+1)\/((S (j+1)).wr=false/\sa S s j=s):=by
  unfold sa
  cases hw:(S (j+1)).wr with
  |true=>exact .inl ⟨rfl,by simp⟩
  |false=>exact .inr ⟨rfl,by simp⟩
 have hlive:G.live k->(S (j+1)).wr=false->Lv S L s k b->h1.get k=some b:=fun hG hw hl=>by
  obtain⟨b0,eb⟩:=cV.1 hG;have:=Lv.uniq M.t M.hg M.f I.lN hl (I.sS M eb);rw[M.sg.g5 hw k hG,eb,this]
 rcases e with⟨hk,e⟩|⟨i,hi,a1,a2,e⟩
 ·have hkj:k<(S j).h.next:=aZ hk (M.mono (aO _) aa)
  by_cases hG:G.live k
  ·refine .inl ⟨?_, .inl hG⟩;rcases hs' with⟨hw,hs⟩|⟨hw,hs⟩
   ·rw[hs,M.sg.g3 k hG]at e;exact e
   ·rw[hs]at e;exact hlive hG hw (.inl ⟨hk,e⟩)
  ·refine .inr ⟨hG,by omega, .inl ⟨hk,?_⟩⟩;rcases hs' with⟨hw,hs⟩|⟨hw,hs⟩
   ·obtain⟨q1,q2⟩:=hwr hw;rw[hs,M.sg.g4 k hkj hG,jE M.t M.hg M.f q1 aa (aZ hk (M.mono (aO _) I.s0)) q2]at e;exact e
   ·rw[hs]at e;exact e
 ·rcases hi with hi|hi
  ·have hij:i≠j:=fun x=>M.hj (x▸hi);have hni:¬((S j).h.next<=k/\k<(S (j+1)).h.next):=fun hx=>by
    rcases Ez hij with x|x
    ·have:=M.mono (show i+1<=j from x) aa;omega
    ·have:=M.mono (show j+1<=i from x) (bQ (I.lN i hi));omega
   by_cases hG:G.live k
   ·obtain⟨b0,eb⟩:=cV.1 hG;have hkj:=(M.sg.g1 k b0 eb).1;have hlt:i<j:=by
     rcases Ez hij with x|x
     ·exact x
     ·have h1:=M.mono (show j+1<=i from x) (bQ (I.lN i hi));have h2:=M.mono (show j<=j+1 by omega) aa;omega
    refine .inl ⟨?_, .inl hG⟩;rcases hs' with⟨hw,hs⟩|⟨hw,hs⟩
    ·rw[hs,show max (j+1) (i+1)=j+1 by omega,M.sg.g3 k hG]at e;exact e
    ·rw[hs]at e;exact hlive hG hw (.inr ⟨i,hi,a1,a2,e⟩)
   ·refine .inr ⟨hG,hni, .inr ⟨i,hi,a1,a2,?_⟩⟩;rcases hs' with⟨hw,hs⟩|⟨hw,hs⟩
    ·obtain⟨q1,q2⟩:=hwr hw;rcases Ez hij with x|x
     ·rw [hs, show max (j + 1) (i + 1) = j + 1 by omega, M.sg.g4 k (aZ a2 (M.mono (show i + 1 <= j from x) (by omega))) hG,
       jE M.t M.hg M.f (x:=max s (i+1)) (y:=j) aa aa (aZ a2 (M.mono aa aa)) (fun i' i1 i2=>q2 i' aa i2)]at e
      exact e
     ·rw[hs,show max (j+1) (i+1)=max s (i+1) by omega]at e;exact e
    ·rw[hs]at e;exact e
  ·subst hi;refine .inl ⟨?_, .inr ⟨a1,a2⟩⟩;rcases hs' with⟨hw,hs⟩|⟨hw,hs⟩
   ·rw[hs,show max (i+1) (i+1)=i+1 by omega]at e;exact M.sg.g2 k b a1 e
   ·rw[hs,stay (x:=i+1) (y:=max s (i+1)) aa (fun x x1 x2=>?_)]at e
    ·exact M.sg.g2 k b a1 e
    ·have hxs:x<s:=by omega
     have hxr:x<r.length:=aZ hxs I.s0
     cases hwx:(S (x+1)).wr with
     |false=>exact M.t.St M.hg M.f hxr hwx (aZ a2 (M.mono x1 aa))
     |true=>
      obtain⟨rx,hrx⟩:∃rx,r[x]?=some rx:=⟨_,aV hxr⟩;refine M.t.keepO M.hg M.f hrx (show i<x by omega) ?_ a1 a2
      cases hp:rx.pre.testBit i with
      |false=>rfl
      |true=>exact absurd (I.cl x rx i (I.sl x hxs hwx) hrx hp) M.hj
end
end CI
end
section
open Go.RowKit
namespace CI
variable {P : Program} {h h' : H} {tm tm' : Tm} {rec : Rec} {n : Nat} {r : List RO} {S : Nat->SD} {ops : Array Oper} {A : Nat->Prop} {ρ ρ1 ρ2 : Nat->Nat} {w w1 w2 : World} {a : Act} {ds : List Nat} {L : Nat->Prop} {s j : Nat} {o : Oper} {ro : RO} {G h1 : H}
theorem MG{dst:Option Tmp}{t:Nat}{u:Value}(h:dst≠some t):(a.put dst u).tmps.getD t undef=a.tmps.getD t undef:=by
 cases dst with
 |none=>rfl
 |some d=>
  have hne:d≠t:=fun e=>h (by rw[e]);simp only[Act.put,cS,zO hne]
theorem Po{t:Nat}{u:Value}(ht:t<a.tmps.size):(a.put (some t) u).tmps.getD t undef=u:=by
 simp only[Act.put,cS,tw];simp[ht]
theorem Inv.step(I:Inv P S ops r h' n ds A ρ w L s ρ1 a w1)(M:pV rec P S ops r tm h tm' h' n A L j o ro G h1){u:Value}(p:cR P (AL A S L) ρ1 w1 G ρ2 w2 h1)(hu:VR P (Ext (AL A S L) G h1) ρ2 w2 (S (j+1)).v u):
  Inv P S ops r h' n ds A ρ w (fun i=>L i\/i=j) (sa S s j) ρ2 (a.put o.dst u) w2:=by
 have jl:=M.jl;have hdj:=I.dj M;have hmo:Mo (AL A S L) (AL A S fun i=>L i\/i=j) ρ1 ρ2:=⟨fun k hk=>hk.imp id fun ⟨i,hi,hx⟩=>⟨i, .inl hi,hx⟩,(p.mo hdj).eq⟩;have hmo2:Mo (Ext (AL A S L) G h1) (AL A S fun i=>L i\/i=j) ρ2 ρ2:=⟨fun k hk=>by
  rcases hk with hk|hk
  ·exact hmo.sub k hk
  ·rw[M.sg.nx,M.sg.nx1]at hk;exact .inr ⟨j, .inr rfl,hk⟩,fun _ _=>rfl⟩
 have hs':((S (j+1)).wr=true/\sa S s j=j+1)\/((S (j+1)).wr=false/\sa S s j=s):=by
  unfold sa
  cases hw:(S (j+1)).wr with
  |true=>exact .inl ⟨rfl,by simp⟩
  |false=>exact .inr ⟨rfl,by simp⟩
 have after:∀i,L i->∀rx,r[i]?=some rx->rx.pre.testBit j=true->False:=fun i hi rx hrx hp=>M.hj (I.cl i rx j hi hrx hp);have hframe:∀k b,Lv S L s k b->¬G.live k->w2.heap[ρ1 k]?=w1.heap[ρ1 k]?:=fun k b hl hG=>p.fr _ (I.blk k b hl).1 fun k' hl' _ e=>by
  obtain⟨b',eb'⟩:=cV.1 hl';have:=I.inj k' b' k b (I.sS M eb') hl e;subst this;exact hG hl'
 have hrho:∀k b,Lv S L s k b->ρ2 k=ρ1 k:=fun k b hl=>hmo.eq k (I.nmA M hl);have hbN:h'.next=(S r.length).h.next:=by rw[M.t.hN]
 refine⟨fun i rx q hi hrx hp=>?_,fun i hi=>?_,?_,fun i hi hw=>?_,fun i hi hir hw hL=>?_,fun t=>?_,?_,?_,fun k b e=>?_,fun k b k' b' e e' hk=>?_,I.lt.trans p.lt,fun b hb hn=>?_,fun k hk=>?_,fun k b e hk=>?_⟩
 ·rcases hi with hi|hi
  ·exact .inl (I.cl i rx q hi hrx hp)
  ·subst hi;rw[M.hr]at hrx;simp only[ak]at hrx;subst hrx;exact .inl (M.pre q hp)
 ·rcases hi with hi|hi
  ·exact I.lN i hi
  ·rw[hi];exact jl
 ·rcases hs' with⟨_,e⟩|⟨_,e⟩<;>rw[e]
  ·exact jl
  ·exact I.s0
 ·rcases hs' with⟨hwj,e⟩|⟨_,e⟩<;>rw[e]at hi
  ·rcases te.1 hi with x|x
   ·exact .inl (M.pre i (M.t.bound x M.hr (.inl ⟨hw,M.t.Af jl hwj⟩)))
   ·exact .inr x
  ·exact .inl (I.sl i hi hw)
 ·rcases hs' with⟨hwj,e⟩|⟨hwj,e⟩<;>rw[e]at hi
  ·rcases hL with hL|hL
   ·obtain⟨rx,hrx⟩:∃rx,r[i]?=some rx:=⟨_,aV hir⟩;exact after i hL rx hrx (M.t.bound (show j<i by omega) hrx (.inl ⟨hwj,M.t.Af hir hw⟩))
   ·omega
  ·rcases hL with hL|hL
   ·exact I.sr i hi hir hw hL
   ·subst hL;rw[hw]at hwj;cases hwj
 ·by_cases hd:o.dst=some t
  ·have ht:t<n:=by have:=M.dst;rw[hd]at this;simpa[dh,bB]using this
   refine .inl ⟨j,o, .inr rfl,M.ho,hd,fun i' o' hi' hlt ho' hd'=>?_,?_⟩
   ·rcases hi' with hi'|hi'
    ·obtain⟨rx,hrx⟩:∃rx,r[i']?=some rx:=⟨_,aV (I.lN i' hi')⟩;exact after i' hi' rx hrx (M.st.tmp j i' o o' rx t hlt M.ho ho' hrx (.inr (.inr ⟨hd',hd⟩)))
    ·omega
   ·rw[hd,Po (by rw[I.sz];exact ht)];exact VR.mo hmo2 (Lt.refl _) _ _ hu
  ·rw[MG hd];rcases I.tmv t with⟨i,o',q1,q2,q3,q4,q5⟩|⟨q1,q2⟩
   ·refine .inl ⟨i,o', .inl q1,q2,q3,fun i' o'' hi' hlt ho'=>?_,VR.mo hmo p.lt _ _ q5⟩;rcases hi' with hi'|hi'
    ·exact q4 i' o'' hi' hlt ho'
    ·subst hi';rw[M.ho]at ho';simp only[ak]at ho';rw[<-ho'];exact hd
   ·refine .inr ⟨fun i' o'' hi' ho'=>?_,VR.mo hmo p.lt _ _ q2⟩;rcases hi' with hi'|hi'
    ·exact q1 i' o'' hi' ho'
    ·subst hi';rw[M.ho]at ho';simp only[ak]at ho';rw[<-ho'];exact hd
 ·have:=I.sz;cases o.dst<;>simp[Act.put,this]
 ·have:=I.df;cases o.dst<;>simp[Act.put,this]
 ·rcases I.xN M e with⟨e1,_⟩|⟨hG,_,hl⟩
  ·obtain⟨_,_,b1,b2⟩:=p.rel.blk k b e1;exact⟨b1,b2.mo hmo2 (Lt.refl _) rfl⟩
  ·obtain⟨b1,b2⟩:=I.blk k b hl;rw[hrho k b hl];exact⟨aZ b1 p.lt.size,b2.mo hmo p.lt (hframe k b hl hG)⟩
 ·have key : ∀ x y bx, h1.get x = some bx -> (G.live x \/ ((S j).h.next <= x /\ x < (S (j + 1)).h.next)) -> ∀ by', ¬ G.live y -> Lv S L s y by' -> ρ2 x = ρ2 y -> x = y := fun x y bx ex hx by' hy hly hxy => by
   rw[hrho y by' hly]at hxy;rcases hx with hx|hx
   ·obtain⟨b0,eb⟩:=cV.1 hx;have hlx:=I.sS M eb;rw[hrho x b0 hlx]at hxy;exact I.inj x b0 y by' hlx hly hxy
   ·rcases p.new x (by rw[M.sg.nx];exact hx.1) (bJ ex)with q|⟨i,q1,q2,q3⟩
    ·have:=(I.blk y by' hly).1;omega
    ·exfalso;obtain⟨b0,eb⟩:=cV.1 q1;have:=I.inj i b0 y by' (I.sS M eb) hly (q3.symm.trans hxy)
     subst this;exact hy q1
  rcases I.xN M e with⟨e1,x1⟩|⟨hG,_,hl⟩<;>rcases I.xN M e' with⟨e1',x1'⟩|⟨hG',_,hl'⟩
  ·exact p.rel.inj k k' (bJ e1) (bJ e1') hk
  ·exact key k k' b e1 x1 b' hG' hl' hk
  ·exact(key k' k b' e1' x1' b hG hl hk.symm).symm
  ·rw[hrho k b hl,hrho k' b' hl']at hk;exact I.inj k b k' b' hl hl' hk
 ·rw[p.fr b (aZ hb I.lt.size) fun k hl hlo hk=>?_,I.fr b hb hn];obtain⟨b0,eb⟩:=cV.1 hl;have hlv:=I.sS M eb;have hlow:h'.low<=k:=by
   have h2:=M.t.low M.hg M.f (show j+1<=r.length by omega) (af _);rw[M.t.hN]at h2;exact aB h2 (M.sg.low k hl hlo)
  by_cases hk0:k<(S 0).h.next
  ·rw[I.rho k (.inl hk0)]at hk;refine hn k ?_ hlow hk;rcases hlv with⟨_,e⟩|⟨i,hi,a1,_⟩
   ·have g:=(M.t.gd M.hg M.f s I.s0).2;rw[M.t.h0]at hk0⊢;exact g.good.back hk0 (bJ e)
   ·have:=M.mono (aO i) (bQ (I.lN i hi));omega
  ·rcases I.new k b0 hlv (dJ hk0)with q|⟨i,q1,q2,q3⟩
   ·omega
   ·exact hn i q1 q2 (q3.symm.trans hk)
 ·have m1:=M.mono (aO j) aa;have m2:=M.mono (show j+1<=r.length by omega) (af _);rw[p.rho k (by rw[M.sg.nx,M.sg.nx1];omega),I.rho k hk]
 ·rcases I.xN M e with⟨e1,x1⟩|⟨hG,_,hl⟩
  ·rcases x1 with x1|x1
   ·obtain⟨b0,eb⟩:=cV.1 x1;have hlv:=I.sS M eb;rw[hrho k b0 hlv];exact I.new k b0 hlv hk
   ·rcases p.new k (by rw[M.sg.nx];exact x1.1) (bJ e1)with q|⟨i,q1,q2,q3⟩
    ·exact .inl (aB I.lt.size q)
    ·obtain⟨b0,eb⟩:=cV.1 q1;have hlv:=I.sS M eb;have hlow:h'.low<=i:=by
      have h2:=M.t.low M.hg M.f (show j+1<=r.length by omega) (af _);rw[M.t.hN]at h2;exact aB h2 (M.sg.low i q1 q2)
     rw[q3];by_cases hi0:i<(S 0).h.next
     ·refine .inr ⟨i,?_,hlow,I.rho i (.inl hi0)⟩;rcases hlv with⟨_,e⟩|⟨i',hi',a1,_⟩
      ·have g:=(M.t.gd M.hg M.f s I.s0).2;rw[M.t.h0]at hi0⊢;exact g.good.back hi0 (bJ e)
      ·have:=M.mono (aO i') (bQ (I.lN i' hi'));omega
     ·exact I.new i b0 hlv (dJ hi0)
  ·rw[hrho k b hl];exact I.new k b hl hk
end CI
end
section
open Go.RowKit
namespace CI
variable {P : Program} {h h' : H} {tm tm' : Tm} {rec : Rec} {n : Nat} {r : List RO} {S : Nat->SD} {ops : Array Oper} {A : Nat->Prop} {ρ ρ1 ρ2 : Nat->Nat} {w w1 w2 : World} {a : Act} {ds : List Nat} {L : Nat->Prop} {s j : Nat} {o : Oper} {ro : RO} {G h1 : H} {E : Env}
theorem Lb(w:World):Below w.heap.size w {w with drawn:=w.drawn+1}:=(Below.refl _ w).drew
theorem Nu(t:Trace rec r tm h tm' h' S)(tR:Rel P A ρ w h)(hf:Fr P A ρ w n ds tm a):Inv P S ops r h' n ds A ρ w (fun _=>False) 0 ρ a {w with drawn:=w.drawn+1}:=by
 have hlt:=Lt.below (Lb w);have hA:∀k,A k->AL A S (fun _=>False) k:=fun k hk=>.inl hk;have hmo:Mo A (AL A S fun _=>False) ρ ρ:=⟨hA,fun _ _=>rfl⟩;have hlv:∀k b,Lv S (fun _=>False) 0 k b->h.get k=some b:=fun k b e=>by
  rcases e with⟨_,e⟩|⟨_,e,_⟩
  ·rw[t.h0]at e;exact e
  ·exact e.elim
 refine⟨fun _ _ _ e=>e.elim,fun _ e=>e.elim,aO _,fun i hi=>by omega,fun _ _ _ _ e=>e,fun u=>.inr ⟨fun _ _ e=>e.elim,?_⟩,hf.sz,hf.df,fun k b e=>?_,fun k b k' b' e e' hk=>?_,hlt,fun b _ _=>rfl,fun _ _=>rfl,fun k b e hk=>?_⟩
 ·rw[t.tm0];exact VR.mo hmo hlt _ _ (hf.tr u)
 ·obtain⟨_,_,b1,b2⟩:=tR.blk k b (hlv k b e);exact⟨b1,b2.mo hmo hlt rfl⟩
 ·exact tR.inj k k' (bJ (hlv k b e)) (bJ (hlv k' b' e')) hk
 ·have:=(tR.blk k b (hlv k b e)).1;rw[t.h0]at hk;omega
theorem Us{a0:Act}(I:Inv P S ops r h' n ds A ρ w L s ρ1 a w1)(t:Trace rec r tm h tm' h' S)(st:Stat P n ops r)(hg:fS rec)(f:Wf h)(hn:n<1000000)(hall:∀i,i<r.length->L i)(tR:Rel P A ρ w h)(hd:Dj A h h')(hf:Fr P A ρ w n ds tm a0):cR P A ρ w h ρ1 w1 h'/\Fr P (Ext A h h') ρ1 w1 n ds tm' a:=by
 have hAL:∀k,AL A S L k->Ext A h h' k:=fun k hk=>by
  rcases hk with hk|⟨i,hi,a1,a2⟩
  ·exact .inl hk
  ·have m1:=t.mono hg f (aO i) (bQ (I.lN i hi));have m2:=t.mono hg f (show i+1<=r.length from I.lN i hi) (af _);rw[t.h0]at m1;rw[t.hN]at m2;exact .inr aa
 have hmo:Mo (AL A S L) (Ext A h h') ρ1 ρ1:=⟨hAL,fun _ _=>rfl⟩;obtain⟨wfN,gN⟩:=t.gd hg f r.length (af _);rw[t.hN]at wfN gN;have hq:∀i,s<=i->i<r.length->(S (i+1)).wr=false:=fun i h1 h2=>by
  cases hw:(S (i+1)).wr with
  |false=>rfl
  |true=>exact absurd (hall i h2) (I.sr i h1 h2 hw)
 have hlv:∀k b,h'.get k=some b->Lv S L s k b:=fun k b e=>by
  by_cases hk:k<(S 0).h.next
  ·refine .inl ⟨hk,?_⟩;rw[<-jE t hg f I.s0 (af _) (aZ hk (t.mono hg f (aO _) I.s0)) hq,t.hN];exact e
  ·have hkN:k<(S r.length).h.next:=by rw[t.hN];exact wfN.lt k b (lJ e)
   obtain⟨q,hq1,a1,a2⟩:=t.owner (dJ hk) hkN;refine .inr ⟨q,hall q hq1,a1,a2,?_⟩;have hs0:=I.s0;rw[<-jE t hg f (x:=max s (q+1)) (y:=r.length) aa (af _) (aZ a2 (t.mono hg f aa aa)) (fun i i1 i2=>hq i aa i2),t.hN];exact e
 refine⟨⟨fun k hk=>I.rho k (by rw[t.h0];exact hk),⟨fun k b e=>?_,fun k k' hl hl' hk=>?_,wfN.bd⟩,I.lt,fun b hb hx=>I.fr b hb (by rw[t.h0];exact hx),fun k hk hl=>?_⟩,⟨fun u=>?_,I.sz,fun k hk=> .inl (hf.nm k hk),?_⟩⟩
 ·obtain⟨b1,b2⟩:=I.blk k b (hlv k b e);have hAk:AL A S L k:=by
   rcases hlv k b e with⟨hk,e2⟩|⟨i,hi,a1,a2,_⟩
   ·rw[t.h0]at hk;exact .inl (tR.live (gN.good.back hk (bJ e))).2.1
   ·exact .inr ⟨i,hi,a1,a2⟩
  exact⟨wfN.lt k b (lJ e),hAL k hAk,b1,b2.mo hmo (Lt.refl _) rfl⟩
 ·obtain⟨b,eb⟩:=cV.1 hl;obtain⟨b',eb'⟩:=cV.1 hl';exact I.inj k b k' b' (hlv k b eb) (hlv k' b' eb') hk
 ·obtain⟨b,eb⟩:=cV.1 hl;have:=I.new k b (hlv k b eb) (by rw[t.h0];exact hk);rwa[t.h0]at this
 ·refine VR.mo hmo (Lt.refl _) _ _ ?_;rw[<-t.tmN];have hlo:∀{i:Nat} {o:Oper},ops[i]?=some o->i<r.length:=fun ho=>by rw[st.len];exact(iG.1 ho).1
  rcases Kw t st hn u r.length (af _)with⟨i,o',h1,h2,h3,h4,h5⟩|⟨h1,h2⟩
  ·rw[h5];rcases I.tmv u with⟨i',o'',k1,k2,k3,k4,k5⟩|⟨k1,k2⟩
   ·have : i' = i := by
     rcases mW i i' with e|e|e
     ·exact absurd k3 (h4 i' o'' (hlo k2) e k2)
     ·exact e.symm
     ·exact absurd h3 (k4 i o' (hall i h1) e h2)
    subst this;exact k5
   ·exact absurd h3 (k1 i o' (hall i h1) h2)
  ·rw[h2];rcases I.tmv u with⟨i',o'',k1,k2,k3,k4,k5⟩|⟨k1,k2⟩
   ·exact absurd k3 (h1 i' o'' (hlo k2) k2)
   ·exact k2
 ·rw[I.df];exact mF fun k hk=>by
   unfold wS;rw[I.rho k (by rw[t.h0];exact hd k (hf.nm k hk))]
theorem Wm(hrec:oI P rec)(hg:fS rec)(t:Trace rec r tm h tm' h' S)(st:Stat P n ops r)(f:Wf h)(hn:n<1000000){F:Fence}(hF:FC F){Q:Exit->Act->World->Prop}{a0:Act}(tR:Rel P A ρ w h)(hd:Dj A h h')(hf:Fr P A ρ w n ds tm a0)
  (hq:∀ρ' w' a',cR P A ρ w h ρ' w' h'->Fr P (Ext A h h') ρ' w' n ds tm' a'->Q .normal a' w'):∀(fuel:Nat) (listed:Array Bool) (a:Act) (w1:World) (s:Nat) (ρ1:Nat->Nat) (U:List Nat),listed.size=ops.size->U.length<=fuel->(∀i,i<ops.size->listed.getD i false=false->i∈U)->
   Inv P S ops r h' n ds A ρ w (fun i=>listed.getD i false=true) s ρ1 a w1->wpAnyIn F 0 P .any ops Q fuel listed a w1:=by
 have hsz:=st.len;have done:∀(listed:Array Bool) (a:Act) (w1:World) (s:Nat) (ρ1:Nat->Nat),(∀i,i<ops.size->listed.getD i false=true)->Inv P S ops r h' n ds A ρ w (fun i=>listed.getD i false=true) s ρ1 a w1->Q .normal a w1:=fun listed a w1 s ρ1 hall I=>by
  obtain⟨p,fr⟩:=Us I t st hg f hn (fun i hi=>hall i aa) tR hd hf;exact hq ρ1 w1 a p fr
 have unl:∀(listed:Array Bool) (j:Nat),listed.size=ops.size->listed.getD j true=false->j<ops.size/\listed.getD j false=false:=fun listed j hs hl=>by
  rw[cS]at hl
  cases e:listed[j]? with
  |none=>rw[e]at hl;simp at hl
  |some b=>
   rw[e]at hl;have hlt:=(iG.1 e).1;refine⟨by omega,?_⟩;rw[cS,e];simpa using hl
 intro fuel
 induction fuel with
 |zero=>
  intro listed a w1 s ρ1 U hs hU hin I;have hUn:U=[]:=gP aa;subst hUn;have hall:∀i,i<ops.size->listed.getD i false=true:=fun i hi=>by
   cases hb:listed.getD i false with
   |true=>rfl
   |false=>exact absurd (hin i hi hb) aU
  refine⟨?_,done listed a w1 s ρ1 hall I⟩
  cases hr:Region.ready .any ops listed with
  |nil=>rfl
  |cons x xs=>
   exfalso;have hx:x∈Region.ready .any ops listed:=by rw[hr];exact bn
   obtain⟨h1,h2⟩:=unl listed x hs (mem_ready.1 hx).1;rw[hall x h1]at h2;cases h2
 |succ fuel ih=>
  intro listed a w1 s ρ1 U hs hU hin I;refine⟨fun hr=>?_,fun j hj=>?_⟩
  ·refine done listed a w1 s ρ1 (fun i=>?_) I
   induction i using Nat.strongRecOn with
   |_ i ihi=>
    intro hi
    cases hb:listed.getD i false with
    |true=>rfl
    |false=>
     exfalso;have hmem:i∈Region.ready .any ops listed:=by
      refine mem_ready.2 ⟨?_,ops[i],mD hi,fun e he hbd=>?_⟩
      ·have e:=mD (xs:=listed) (i:=i) aa;rw[cS,e]at hb⊢;simpa using hb
      ·have hlt:=st.edge i ops[i] e (mD hi) uE hbd;exact ihi e.on hlt aa
     rw[hr]at hmem;cases hmem
  ·obtain⟨h1,o,ho,h3⟩:=mem_ready.1 hj;obtain⟨hjs,hjl⟩:=unl listed j hs h1;obtain⟨ro,G,h1',hr,hdst,_,sg⟩:=Tz hrec hg t st f ho;have hpre:∀q,ro.pre.testBit q=true->listed.getD q false=true:=fun q hq=>by
    obtain⟨e,he,hbd,hx⟩:=st.pre j o ro q ho hr hq;have hl:=h3 e uE hbd;rcases hx with hx|⟨ro',hr',hq'⟩
    ·rw[<-hx];exact hl
    ·exact I.cl e.on ro' q hl hr' hq'
   have M:pV rec P S ops r tm h tm' h' n A (fun i=>listed.getD i false=true) j o ro G h1':=⟨t,st,hg,f,hn,ho,hr,by simp only[hjl];simp,hpre,hdst,sg,hd,fun k hk=>(tR.live hk).2.1⟩;refine sg.wp F hF Q _ _ ρ1 w1 a (I.rel M) (I.dj M) (I.slots t st hn ho hr M.hj hpre) fun u w2 ρ2 p hu=>?_;have I2:=I.step M p hu;have hset:∀i,(listed.setIfInBounds j true).getD i false=true↔(listed.getD i false=true\/i=j):=fun i=>by
    by_cases e:i=j
    ·subst e;simp[cS,tw,show i<listed.size by omega]
    ·simp[cS,zO (Ne.symm e),e]
   have hfun:(fun i=>listed.getD i false=true\/i=j)=(fun i=>(listed.setIfInBounds j true).getD i false=true):=funext fun i=>propext (hset i).symm;rw[hfun]at I2;have hjU:j∈U:=hin j hjs hjl;refine ih _ _ _ _ _ (U.erase j) (by simp[hs]) (by rw[List.length_erase_of_mem hjU];omega) (fun i hi hb=>?_) I2;have hne:i≠j:=fun e=>by
    have:=(hset i).2 (.inr e);rw[this]at hb;cases hb
   have hb':listed.getD i false=false:=by
    cases hx:listed.getD i false with
    |false=>rfl
    |true=>rw[(hset i).2 (.inl hx)]at hb;cases hb
   exact(List.mem_erase_of_ne hne).2 (hin i hi hb')
theorem TY(hmix:P.follows .mixedOrders=true)(rec:Rec)(hrec:oI P rec)(hg:fS rec):G7 P rec:=by
 intro F hF Q ops id n hn r hc tm h tm' h' e f A ρ w a ds tR hd hf hq;obtain⟨S,t⟩:=OM e;have st:=TC hc;refine wpIn_region_any hmix (Wm hrec hg t st f hn hF tR hd hf hq ops.size _ a _ 0 ρ (List.range ops.size) aU aU (fun i hi _=>zW.2 hi) ?_);have I:=Nu (ops:=ops) t tR hf;have hfun:(fun _:Nat=>False)=(fun i=>(Array.replicate ops.size false).getD i false=true):=funext fun i=>propext (by
  simp only[false_iff,cS,ED];split<;>simp)
 rw[hfun]at I;exact I
theorem Mp(hmix:P.follows .mixedOrders=true)(hO:Bm P E)(hfn:E.fns=sD P){N g:Nat}(hE:Enters P g){c:C}{h':H}(e:run E N (.call (.fn g []) [] ⟨0,0,[], .e⟩)=some (.val c h'))(w:World):
  Calls P g #[] w (fun e w'=>∃u A ρ,e= .returned u/\VR P A ρ w' c u/\Rel P A ρ w' h'/\Below w.heap.size w w'):=by
 have hok:=(Vq hO hfn (fun rec h1 h2=>TY hmix rec h1 h2) N).1;have hbare:∀k,(⟨0,0,[], .e⟩:H).get k=none:=vD 0;have tR:Rel P (fun _=>False) (fun _=>0) w ⟨0,0,[], .e⟩:=⟨(fun k b e=>by rw[hbare]at e;cases e),(fun k _ hl=>by unfold H.live at hl;rw[hbare]at hl;cases hl),by simp⟩;obtain⟨d,hd,hk⟩:=hok _ _ _ _ _ e ⟨by simp,(fun k b e=>by rw[T.Bb]at e;cases e)⟩ (fun _=>False) (fun _=>0) w (.func (.func g) #[] #[]) #[] tR (fun k hk=>hk.elim) (by simp only[VR,VRl];exact⟨_,rfl,rfl⟩) (by simp only[VRl]);rcases hk with⟨g',args',q1,q2⟩|⟨l,g',tmps,s,b,q0,_⟩
 ·have hkey : g' = g /\ args' = #[] := by
   obtain⟨d',r1,r2⟩:=wJ hE #[] #[] w;rw[r1]at hd;simp only[Result.ok.injEq,and_true]at hd;rw[<-hd,r2]at q1;simp only[Result.ok.injEq,Next.enter.injEq,and_true]at q1;exact⟨q1.1.symm,by rw[<-q1.2];rfl⟩
  obtain⟨rfl,rfl⟩:=hkey;refine(callsIn_wide.1 q2).mono fun e' w' ⟨u,ρ',h1,p,hu⟩=>⟨u,_,ρ',h1,hu,p.rel,p.lt.os,p.lt.tape,p.lt.output,p.lt.size,fun k hk=>p.fr k hk fun j hl=>?_⟩;unfold H.live at hl;rw[hbare]at hl;cases hl
 ·cases q0
end CI
end
section
open Go.RowKit Go.BigFrame
attribute [local go_sem ↓] Go.wp_at_zero Go.wp_at_succ
theorem Hn(r y:Nat):4*(r*y)<=(r+y)*(r+y):=by
 rcases Nat.le_total r y with h|h<;>obtain⟨d,rfl⟩:=Nat.le.dest h
 ·have:(r+(r+d))*(r+(r+d))=4*(r*(r+d))+d*d:=by grind
  omega
 ·have:(y+d+y)*(y+d+y)=4*((y+d)*y)+d*d:=by grind
  omega
theorem M0{a r:Nat}(hr:0<r):a<((r+a/r)/2+1)*((r+a/r)/2+1):=by
 have h1:a<r*(a/r+1):=by
  have:=jQ a r;have:=eC a hr;rw[gA,fH];omega
 generalize a/r=q at*;have h2:=Hn r (q+1);have h3:r+(q+1)<=2*((r+q)/2+1):=by omega
 generalize(r+q)/2+1=m at*;have h4:=cr h3 h3;have h5:2*m*(2*m)=4*(m*m):=by grind
 omega
theorem KJ{a r:Nat}(h:r<=(r+a/r)/2):r*r<=a:=by
 have h1:r<=a/r:=by omega
 exact aB (bV r h1) (Nat.mul_div_le a r)
theorem Hj(n:Nat):Dg.NF B32 ((List.replicate (n+1) 0).set n 1)/\Dg.vl B32 ((List.replicate (n+1) 0).set n 1)=B32^n:=by
 have e:(List.replicate (n+1) 0).set n 1=List.replicate n 0++[1]:=by
  rw[List.replicate_succ',zN _ _ aU];simp
 rw[e];refine⟨⟨Dg.oD (Dg.jc au _) (fun x hx=>by rw[bL.1 hx];decide),by simp⟩,?_⟩;rw[Dg.fW,Dg.uM];simp[Dg.vl]
theorem cC.Pz(W:World)(N k d:Nat)(hk:k<N):cC (W.alloc (.cells ((madeCells #[.int .u32 0] N).setIfInBounds k (.int .u32 (d:Int))) 138)) W.heap.size ((List.replicate N 0).set k d):=by
 have h:=(cC.made W N).set (k:=k) (by simpa using hk) d;simpa only[go_sem]using h
structure RC(wr:World)(a:Option Addr)(l:List Nat)(L k:Nat)(a1:Option Addr)(l1:List Nat)(c1:Nat):Prop where
 w0:WS wr a l
 w1:WS wr a1 l1
 n1:Dg.NF B32 l1
 h1:l1.length<=c1
 b1:l1.length<=L
 p:0<Dg.vl B32 l1
 u:Dg.vl B32 l<(Dg.vl B32 l1+1)*(Dg.vl B32 l1+1)
 k:k=Dg.vl B32 l1
def RtRes(u:Nat)(e:Ending)(w':World):Prop:=∃z r,e= .returned (.tuple #[.agg #[.bool z.s,.slice z.a z.n z.cap],.int .i64 0])/\IZ w' z ((r:Nat):Int)/\r*r<=u/\u<(r+1)*(r+1)
set_option maxRecDepth 10000 in
set_option maxHeartbeats 8000000 in
theorem Pj(x:IV)(u:Int)(fu:Fit u)(hu:0<=u)(w:World)(hx:IP w x u):
  Calls Tryz.prog 203 #[.agg #[.bool x.s,.slice x.a x.n x.cap]] w fun e w'=>RtRes u.toNat e w'/\Below w.heap.size w w':=by
 obtain⟨l,h1,rfl⟩:=hx;have bl:=iL h1.nf fu;have S1:=ae (fun w (h:IW w x l)=>ir x l aa w h);have H1:=ae h1;by_cases hl0:l=[]
 ·have hv0:Dg.iv x.s (Dg.vl B32 l)=0:=by rw[hl0];exact Dg.ua _
  rw[hv0];have hml:l.length=0:=by rw[hl0];rfl
  rw[hml]at S1;obtain⟨s,a,n,cap⟩:=x;simp only[]at S1;clear h1 fu hv0 hml hl0 hu
  go_enter Tryz.func203,Tryz.ntmps203
  go_wp2_with (first|(go_at_call 163;(with_reducible refine(S1.out _ ?_).mono ?_);(exact H1.out.below (B:=w.heap.size) aA (af _));rintro e w1 ⟨rfl,hb1⟩;obtain⟨g1,rfl⟩:=mob hb1;clear hb1))
  refine bodyPost_ret (v:=.tuple #[.agg #[.bool ((⟨false,none,0,0⟩:IV)).s,.slice ((⟨false,none,0,0⟩:IV)).a ((⟨false,none,0,0⟩:IV)).n ((⟨false,none,0,0⟩:IV)).cap],.int .i64 0]) (by simp[results,Tryz.results203,go_sem]) rfl ?_;exact⟨⟨⟨false,none,0,0⟩,0,rfl,IZ.zero _,by simp,by simp⟩,by exact bel⟩
 have hvp:=Dg.mK h1.nf hl0 au;have hs:x.s=false:=by
  cases hxs:x.s with
  |false=>rfl
  |true=>rw[hxs]at hu;simp[Dg.iv]at hu;omega
 have hut:(Dg.iv x.s (Dg.vl B32 l)).toNat=Dg.vl B32 l:=by rw[hs];simp[Dg.iv]
 rw[hut];have hlp:0<l.length:=iC.2 hl0;obtain⟨n,hn⟩:∃n,n=l.length/2+1:=⟨_,rfl⟩;have m1:¬l.length=0:=by omega
 have m2:¬(l.length:Int)=0:=by omega
 have m3:((l.length:Int)==0)=false:=by simpa using hl0
 have hmk:∀w:World,(Instr.makeSlice 176 (.int .i64 ((l.length:Int)/2+2)) (.int .i64 ((l.length:Int)/2+2))).run Tryz.prog w= .ok (.slice (some ⟨w.heap.size,0,none⟩) (n+1) (n+1)) (w.alloc (.cells (madeCells #[.int .u32 0] (n+1)) 138)):=fun w=>by
  have:=run_make_row' (P:=Tryz.prog) 176 138 (.int .u32 0) 4 Tryz.underlying176 oP rfl .i64 .i64 (n+1) aa aa w;rw[show((n+1:Nat):Int)=(l.length:Int)/2+2 by omega]at this;exact this
 have start:Hid (Dg.vl B32 l<(B32^n+1)*(B32^n+1)):=by
  refine aZ (Dg.cq h1.nf.dg) (aB (bI (n:=B32) au (show l.length<=n+n by omega)) ?_);rw[eZ];exact cr (kC _) (kC _)
 have DV:=ae (fun lb a b ca cb hb hb0 hca w h1' h2=>vy l lb a b ca cb h1.nf hb hb0 aa hca w h1' h2);have MA:=ae (fun (k:List Nat) a c (hc:k.length<=c) (hk:Dg.NF B32 k) (hb:k.length<=3000000000000) w h=>nn false k a c hb hc hk.dg w h);obtain⟨s,a,p0,cap⟩:=x;simp only[]at S1 DV hs;subst hs;clear h1 fu hu hut hl0 hvp;generalize hq:l.length=q at*;have HQ:=ae hq;have HN:=0;clear hq HN;subst hn
 go_enter Tryz.func203,Tryz.ntmps203
 go_upto_region 7 with(first|(go_at_call 163;(with_reducible refine(S1.out _ ?_).mono ?_);(exact H1.out.below (B:=w.heap.size) aA (af _));rintro e w1 ⟨rfl,hb1⟩;obtain⟨g1,rfl⟩:=mob hb1;clear hb1))
 have RU:=cC.made (more ((w.alloc (.cells #[.bool false,.slice a p0 cap] 62)).alloc (.cells #[.bool false,.slice none 0 0] 62)) g1) (q/2+1+1);have HB:=ae RU;have c0:=RU.cell (k:=q/2+1) aU;have f0:=RU.frozen (q/2+1);simp only[jA,World.size_alloc]at c0 f0;clear RU hmk;have hB0:Below w.heap.size w (more ((w.alloc (.cells #[.bool false,.slice a p0 cap] 62)).alloc (.cells #[.bool false,.slice none 0 0] 62)) g1):=by exact bel
 have G0:Hid (RC ((more ((w.alloc (.cells #[.bool false,.slice a p0 cap] 62)).alloc (.cells #[.bool false,.slice none 0 0] 62)) g1).alloc (.cells ((madeCells #[.int .u32 0] (q/2+1+1)).setIfInBounds (q/2+1) (.int .u32 1)) 138)) a l 300000000000 (B32^(q/2+1)) (some ⟨w.heap.size+1+1+g1.2.size,0,none⟩) ((List.replicate (q/2+1+1) 0).set (q/2+1) 1) (q/2+1+1)):=by
  obtain⟨n1,n2⟩:=Hj (q/2+1);refine⟨H1.out.ws.below (hB0.trans (Below.alloc (Below.refl _ _) hB0.size _)) (af _),?_,n1,by simp,by simp;omega,by rw[n2];exact ep au,by rw[n2];exact start.out,n2.symm⟩;have:=(cC.Pz (more ((w.alloc (.cells #[.bool false,.slice a p0 cap] 62)).alloc (.cells #[.bool false,.slice none 0 0] 62)) g1) (q/2+1+1) (q/2+1) 1 aa).ws;simp only[jA,World.size_alloc]at this;exact this
 go_wp2_with fail
 clear hB0 start c0 f0 HB
 go_loopg [5] (B32^(q/2+1)) (fun k A wr=>∃(a1:Option Addr) (l1:List Nat) (c1:Nat),A= .slice a1 l1.length c1/\Ext ((more ((w.alloc (.cells #[.bool false,.slice a p0 cap] 62)).alloc (.cells #[.bool false,.slice none 0 0] 62)) g1).alloc (.cells ((madeCells #[.int .u32 0] (q/2+1+1)).setIfInBounds (q/2+1) (.int .u32 1)) 138)) wr/\Hid (RC wr a l 300000000000 k a1 l1 c1))
 case atStart=>exact⟨_,_,q/2+1+1,by simp,Ext.refl _,G0.out⟩
 case round=>
  obtain⟨a1,l1,c1,rfl,hext,HG⟩:=hrel;obtain⟨gx,rfl⟩:=mob (Ext.below hext);clear hext G0;have PL:Hid (∀(k m:List Nat) (a b:Option Addr) (c cb:Nat),Dg.NF B32 k->Dg.NF B32 m->k.length<=300000000000->m.length<=300000000000->∀w,WS w a k->WS w b m->Calls Tryz.prog 194 #[.slice a k.length c,.slice b m.length cb] w fun e w'=>sX w' e (Dg.vl B32 k+Dg.vl B32 m)/\Below w.heap.size w w'):=
   fun k m a b c cb hk hm bk bm w ha hb=>yL k m a b c cb hk.dg hm.dg aa aa w ha hb
  have SH:Hid (∀(k:List Nat) (a:Option Addr) (c:Nat),Dg.NF B32 k->k.length<=1000000000000->∀w,WS w a k->Calls Tryz.prog 209 #[.slice a k.length c,.int .u32 2] w fun e w'=>(∃a' l',e= .returned (.tuple #[.slice a' l'.length l'.length,.int .u32 ((Dg.vl B32 k%2:Nat):Int)])/\WS w' a' l'/\Dg.NF B32 l'/\Dg.vl B32 l'=Dg.vl B32 k/2)/\Below w.heap.size w w'):=
   fun k a c hk bk w ha=>wq k a c 2 aa hk.dg bk w ha
  have CM:=ae (fun (k m:List Nat) (a b:Option Addr) (c cb:Nat) (hk:Dg.NF B32 k) (hm:Dg.NF B32 m) (bk:k.length<=3000000000000) w ha hb=>mL k m a b c cb hk hm bk w ha hb);have hne:l1≠[]:=fun e=>by have:=HG.out.p;rw[e]at this;simp[Dg.vl]at this
  have DV1:=ae (DV.out l1 a a1 q c1 HG.out.n1 hne (af _) _ HG.out.w0 HG.out.w1);clear DV hne;obtain⟨U,hU⟩:∃U,U=(Dg.vl B32 l1+Dg.vl B32 l/Dg.vl B32 l1)/2:=⟨_,rfl⟩;have UP:Hid (Dg.vl B32 l<(U+1)*(U+1)):=by rw[hU];exact M0 HG.out.p
  have UE:Hid (Dg.vl B32 l1<=U->Dg.vl B32 l1*Dg.vl B32 l1<=Dg.vl B32 l):=by rw[hU];exact KJ
  have U0:Hid (0<U):=by
   have h1:=HG.out.p;have h2:=UP.out;rcases Nat.eq_zero_or_pos U with h3|h3
   ·rw[h3]at h2;have h4:Dg.vl B32 l=0:=by omega
    exact absurd (Dg.mK H1.out.nf (fun e=>by have:=HQ.out;rw[e]at this;simp at this;omega) au) aa
   ·exact h3
  have HU:=ae hU;clear hU;by_cases hlt:U<Dg.vl B32 l1
  ·have cz:iI U (Dg.vl B32 l1)= -1:=by unfold iI;rw[an hlt]
   have CZ:=ae cz;have HLT:=ae hlt;clear cz hlt
   go_wp2_with (first|(go_at_call 193;(with_reducible refine(DV1.out).mono ?_);rintro e w3 ⟨a3,l3,c3,a4,l4,c4,rfl,d1,d2,d3,d4,d5,d6,d7,d8,hb3⟩;have D:=ae (And.intro d1 (And.intro d3 (And.intro d5 d7)));clear d1 d2 d3 d4 d5 d6 d7 d8;have HB3:=ae hb3;obtain⟨g3,rfl⟩:=mob hb3;clear hb3)|(go_at_call 194;(with_reducible refine(PL.out l1 l3 a1 a3 c1 c3 HG.out.n1 D.out.2.2.1 HG.out.b1 ?_ _ ?_ ?_).mono ?_);(focus(refine aB (jd D.out.2.2.1 H1.out.nf.dg ?_) ?_;(focus(rw[D.out.2.2.2];exact sM _ _));(focus(rw[HQ.out];omega))));(exact HG.out.w1.below HB3.out (af _));(exact D.out.2.1);rintro e w5 ⟨⟨a5,l5,rfl,r1,r2,r3⟩,hb5⟩;have R5:=ae (And.intro r1 (And.intro r2 r3));clear r1 r2 r3;have HB5:=ae (HB3.out.trans (hb5.mono HB3.out.size));obtain⟨g5,rfl⟩:=mob hb5;clear hb5)|(go_at_call 209;(with_reducible refine(SH.out l5 a5 l5.length R5.out.2.1 ?_ _ R5.out.1).mono ?_);(focus(have h5:=wj (Dg.cq HG.out.n1.dg) (Dg.cq D.out.2.2.1.dg);rw[<-R5.out.2.2]at h5;have h6:=pO R5.out.2.1 h5;have h7:=HG.out.b1;have h8:l3.length<=q:=zb55;omega));rintro e w6 ⟨⟨a6,l6,rfl,r1,r2,r3⟩,hb6⟩;rw[R5.out.2.2,D.out.2.2.2,<-HU.out]at r3;have R6:=ae (And.intro r1 (And.intro r2 r3));clear r1 r2 r3;have HB6:=ae (HB5.out.trans (hb6.mono HB5.out.size));obtain⟨g6,rfl⟩:=mob hb6;clear hb6)|(go_at_call 208;(with_reducible refine(CM.out l6 l1 a6 a1 l6.length c1 R6.out.2.1 HG.out.n1 ?_ _ R6.out.1 (HG.out.w1.below HB6.out (af _))).mono ?_);(focus(have h9:=jd R6.out.2.1 HG.out.n1.dg (by rw[R6.out.2.2];exact bQ HLT.out);have:=HG.out.b1;omega));rintro e w7 ⟨rfl,hb7⟩;rw[R6.out.2.2,CZ.out];have R7:=ae (R6.out.1.below hb7 (af _));have HB7:=ae (HB6.out.trans (hb7.mono HB6.out.size));obtain⟨g7,rfl⟩:=mob hb7;clear hb7))
   go_roundg U
   case measure=>rw[HG.out.k];exact HLT.out
   case rel=>exact⟨a6,l6,l6.length,rfl,oA aA,HG.out.w0.below HB7.out (af _),R7.out,R6.out.2.1,af _,aB (jd R6.out.2.1 HG.out.n1.dg (by rw[R6.out.2.2];exact bQ HLT.out)) HG.out.b1,by rw[R6.out.2.2];exact U0.out,by rw[R6.out.2.2];exact UP.out,R6.out.2.2.symm⟩
  ·obtain⟨C,hC0,hC⟩:∃C:Int,0<=C/\iI U (Dg.vl B32 l1)=C:=⟨_,by unfold iI;rw[aj hlt];split<;>decide,rfl⟩;have CZ:=ae hC;have HE:=ae (UE.out (dJ hlt));have hC1:decide ((0:Int)<=C)=true:=by rw[cZ];exact hC0
   clear hC hlt
   go_wp2_with (first|(go_at_call 193;(with_reducible refine(DV1.out).mono ?_);rintro e w3 ⟨a3,l3,c3,a4,l4,c4,rfl,d1,d2,d3,d4,d5,d6,d7,d8,hb3⟩;have D:=ae (And.intro d1 (And.intro d3 (And.intro d5 d7)));clear d1 d2 d3 d4 d5 d6 d7 d8;have HB3:=ae hb3;obtain⟨g3,rfl⟩:=mob hb3;clear hb3)|(go_at_call 194;(with_reducible refine(PL.out l1 l3 a1 a3 c1 c3 HG.out.n1 D.out.2.2.1 HG.out.b1 ?_ _ ?_ ?_).mono ?_);(focus(refine aB (jd D.out.2.2.1 H1.out.nf.dg ?_) ?_;(focus(rw[D.out.2.2.2];exact sM _ _));(focus(rw[HQ.out];omega))));(exact HG.out.w1.below HB3.out (af _));(exact D.out.2.1);rintro e w5 ⟨⟨a5,l5,rfl,r1,r2,r3⟩,hb5⟩;have R5:=ae (And.intro r1 (And.intro r2 r3));clear r1 r2 r3;have HB5:=ae (HB3.out.trans (hb5.mono HB3.out.size));obtain⟨g5,rfl⟩:=mob hb5;clear hb5)|(go_at_call 209;(with_reducible refine(SH.out l5 a5 l5.length R5.out.2.1 ?_ _ R5.out.1).mono ?_);(focus(have h5:=wj (Dg.cq HG.out.n1.dg) (Dg.cq D.out.2.2.1.dg);rw[<-R5.out.2.2]at h5;have h6:=pO R5.out.2.1 h5;have h7:=HG.out.b1;have h8:l3.length<=q:=zb55;omega));rintro e w6 ⟨⟨a6,l6,rfl,r1,r2,r3⟩,hb6⟩;rw[R5.out.2.2,D.out.2.2.2,<-HU.out]at r3;have R6:=ae (And.intro r1 (And.intro r2 r3));clear r1 r2 r3;have HB6:=ae (HB5.out.trans (hb6.mono HB5.out.size));obtain⟨g6,rfl⟩:=mob hb6;clear hb6)|(go_at_call 208;(with_reducible refine(CM.out l6 l1 a6 a1 l6.length c1 R6.out.2.1 HG.out.n1 ?_ _ R6.out.1 (HG.out.w1.below HB6.out (af _))).mono ?_);(focus(have h9:=jd R6.out.2.1 R5.out.2.1.dg (by rw[R6.out.2.2,R5.out.2.2,D.out.2.2.2,HU.out];exact sM _ _);have h5:=wj (Dg.cq HG.out.n1.dg) (Dg.cq D.out.2.2.1.dg);rw[<-R5.out.2.2]at h5;have h6:=pO R5.out.2.1 h5;have h7:=HG.out.b1;have h8:l3.length<=q:=zb55;omega));rintro e w7 ⟨rfl,hb7⟩;rw[R6.out.2.2,CZ.out];have R7:=ae (R6.out.1.below hb7 (af _));have HB7:=ae (HB6.out.trans (hb7.mono HB6.out.size));obtain⟨g7,rfl⟩:=mob hb7;clear hb7)|(go_at_call 162;(with_reducible refine(MA.out l1 a1 c1 HG.out.h1 HG.out.n1 (by have:=HG.out.b1;omega) _ (HG.out.w1.below HB7.out (af _))).mono ?_);rintro e w8 ⟨⟨y,rfl,hy⟩,hb8⟩;have HY:=ae (show IZ w8 y ((Dg.vl B32 l1:Nat):Int)from hy);clear hy;obtain⟨g8,rfl⟩:=mob hb8;clear hb8))
   refine bodyPost_ret (v:=.tuple #[.agg #[.bool y.s,.slice y.a y.n y.cap],.int .i64 0]) (by simp[results,Tryz.results203,go_sem]) rfl ?_;exact⟨⟨y,_,rfl,IZ.iH HY.out (by exact ot),HE.out,HG.out.u⟩,by exact bel⟩
end
section
open Go.RowKit
namespace CI
def bnd(z:Int):Bool:=Nat.blt z.natAbs 1208925819614629174706176
def i64(n:Int):C:=.sc (.int .i64 n)
def o1(f:Int->Option C):Orc:=fun l=>match l with
 |[a]=>match GY a with
  |some z=>match bnd z with
   |true=>f z
   |false=>none
  |none=>none
 |_=>none
def o2(f:Int->Int->Option C):Orc:=fun l=>match l with
 |[a,b]=>match GY a with
  |some y=>match GY b with
   |some z=>match bnd y with
    |true=>match bnd z with
     |true=>f y z
     |false=>none
    |false=>none
   |none=>none
  |none=>none
 |_=>none
def sg(z:Int):Int:=match z with| .negSucc _=>-1| .ofNat 0=>0| .ofNat (_+1)=>1
def sqf:Nat->Nat->Nat->Nat
 |0,_,r=>r
 |f+1,n,r=>match Nat.ble ((r+1)*(r+1)) n with
  |true=>sqf f n (r+1)
  |false=>r
def isz(z:Int):Bool:=match z with| .ofNat 0=>true|_=>false
def oAdd:Orc:=o2 fun a b=>some (.nm (a+b))
def oSub:Orc:=o2 fun a b=>some (.nm (a-b))
def oMul:Orc:=o2 fun a b=>some (.nm (a*b))
def Uc:Orc:=o2 fun a b=>match isz b with|true=>none|false=>some (.tp [.nm (a/b),.nm (a%b),i64 0])
def oCmp:Orc:=o2 fun a b=>some (i64 (sg (a-b)))
def oGcd:Orc:=o2 fun a b=>some (.nm (Int.gcd a b))
def oOf:Orc:=fun l=>match l with
 |[.sc (.int .i64 n)]=>match Nat.blt n.natAbs 4611686018427387904 with
  |true=>some (.nm n)
  |false=>none
 |_=>none
def VG:Orc:=o1 fun a=>match Nat.blt a.natAbs 4611686018427387904 with
 |true=>some (.tp [i64 a,.sc (.bool true)])
 |false=>none
def Ub:Orc:=o1 fun a=>some (.nm a)
def rt(n r:Nat):Option C:=match Nat.ble (r*r) n with
 |true=>match Nat.blt n ((r+1)*(r+1))with
  |true=>some (.tp [.nm r,i64 0])
  |false=>none
 |false=>none
def oRoot:Orc:=o1 fun a=>match a with
 | .ofNat n=>rt n (sqf 10000 n 0)
 |_=>none
def oZero:Orc:=o1 fun a=>some (.sc (.bool (isz a)))
def oSign:Orc:=o1 fun a=>some (i64 (sg a))
def oNeg:Orc:=o1 fun a=>some (.nm (-a))
def oSize:Orc:=o1 fun a=>some (.nm a.natAbs)
def oQuo:Orc:=o2 fun a b=>match isz b with|true=>none|false=>some (.nm (a/b))
def AY:List (Nat×Orc)->Nat->Option Orc
 |[],_=>none
 |(k,o)::l,n=>match Nat.beq k n with|true=>some o|false=>AY l n
def orcT:List (Nat×Orc):=[(190,oAdd),(159,oSub),(117,oMul),(167,Uc),(161,oCmp),(165,oGcd),(124,oOf),(120,VG),(112,Ub),(203,oRoot),(95,oZero),(101,oSign),(102,oNeg),(185,oSize),(121,oQuo)]
def theE(P:Program):Env:=⟨sD P,AY orcT⟩
theorem OU(P:Program):(theE P).fns=sD P:=rfl
theorem vq{z:Int}(h:bnd z=true):Fit z:=by
 unfold bnd at h;rw[bB]at h;exact⟨3,by omega,Nat.lt_trans h au⟩
section
variable {P : Program} {A : Nat->Prop} {ρ : Nat->Nat} {w : World}
theorem Cq{c:C}{z:Int}{v:Value}(h:GY c=some z)(hv:VR P A ρ w c v):∃x:IV,v= .agg #[.bool x.s,.slice x.a x.n x.cap]/\IZ w x z:=by
 unfold GY at h;split at h
 ·cases h;simp only[VR]at hv;exact hv
 ·cases h;simp only[VR,VCs]at hv;obtain⟨cs,rfl,h1,u,r,h2,⟨h3,_⟩,h4,u2,r2,h5,⟨h6,_⟩,h7⟩:=hv;subst h3;subst h6;subst h7;subst h5;refine⟨⟨false,none,0,0⟩,?_,IZ.zero w⟩;have:cs= #[.bool false,.slice none 0 0]:=by apply Array.ext';rw[h2];rfl
  rw[this]
 ·cases h
def Ans(P:Program)(g:Nat)(vs:Array Value)(w:World)(c:C):Prop:=Calls P g vs w (fun e w'=>∃u,e= .returned u/\(∀A ρ,VR P A ρ w' c u)/\Below w.heap.size w w')
theorem Ans.calls{g:Nat}{vs:Array Value}{c:C}(h:Ans P g vs w c)(A:Nat->Prop)(ρ:Nat->Nat):Calls P g vs w (fun e w'=>∃u,e= .returned u/\VR P A ρ w' c u/\Below w.heap.size w w'):=by
 unfold Ans at h;refine h.mono ?_;rintro e w' ⟨u,h1,h2,h3⟩;exact⟨u,h1,h2 A ρ,h3⟩
theorem vf{g:Nat}{f:Int->Option C}(hE:Enters P g)(H:∀(x:IV) (z:Int) (w:World) (c:C),Fit z->IZ w x z->f z=some c->Ans P g #[.agg #[.bool x.s,.slice x.a x.n x.cap]] w c):
  ∀args r,o1 f args=some r->∀A ρ w vs,VRl P A ρ w args vs.toList->Enters P g/\Calls P g vs w (fun e w'=>∃u,e= .returned u/\VR P A ρ w' r u/\Below w.heap.size w w'):=by
 intro args r e A ρ w vs hv;refine⟨hE,?_⟩;unfold o1 at e;split at e
 ·next a=>
  split at e
  ·next z hz=>
   split at e
   ·next hb=>
    simp only[VRl]at hv;obtain⟨u,r',h1,h2,h3⟩:=hv;subst h3;obtain⟨x,rfl,hx⟩:=Cq hz h2;have:vs= #[.agg #[.bool x.s,.slice x.a x.n x.cap]]:=by apply Array.ext';rw[h1]
    rw[this];exact(H x z w r (vq hb) hx e).calls A ρ
   ·cases e
  ·cases e
 ·cases e
theorem ve{g:Nat}{f:Int->Int->Option C}(hE:Enters P g)(H:∀(x y:IV) (u v:Int) (w:World) (c:C),Fit u->Fit v->IZ w x u->IZ w y v->f u v=some c->Ans P g #[.agg #[.bool x.s,.slice x.a x.n x.cap],.agg #[.bool y.s,.slice y.a y.n y.cap]] w c):
  ∀args r,o2 f args=some r->∀A ρ w vs,VRl P A ρ w args vs.toList->Enters P g/\Calls P g vs w (fun e w'=>∃u,e= .returned u/\VR P A ρ w' r u/\Below w.heap.size w w'):=by
 intro args r e A ρ w vs hv;refine⟨hE,?_⟩;unfold o2 at e;split at e
 ·next a b=>
  split at e
  ·next y hy=>
   split at e
   ·next z hz=>
    split at e
    ·next hb=>
     split at e
     ·next hb2=>
      simp only[VRl]at hv;obtain⟨u,r',h1,h2,u2,r2,h4,h5,h3⟩:=hv;subst h3;subst h4;obtain⟨x,rfl,hx⟩:=Cq hy h2;obtain⟨x2,rfl,hx2⟩:=Cq hz h5;have:vs= #[.agg #[.bool x.s,.slice x.a x.n x.cap],.agg #[.bool x2.s,.slice x2.a x2.n x2.cap]]:=by apply Array.ext';rw[h1]
      rw[this];exact(H x x2 y z w r (vq hb) (vq hb2) hx hx2 e).calls A ρ
     ·cases e
    ·cases e
   ·cases e
  ·cases e
 ·cases e
theorem vr_nm{z:Int}{x:IV}(h:IZ w x z)(A:Nat->Prop)(ρ:Nat->Nat):VR P A ρ w (.nm z) (.agg #[.bool x.s,.slice x.a x.n x.cap]):=by
 simp only[VR];exact⟨x,rfl,h⟩
theorem Ai(n:Int)(A:Nat->Prop)(ρ:Nat->Nat):VR P A ρ w (i64 n) (.int .i64 n):=by
 simp only[i64,VR];exact⟨trivial,rfl⟩
theorem Tk(b:Bool)(A:Nat->Prop)(ρ:Nat->Nat):VR P A ρ w (.sc (.bool b)) (.bool b):=by
 simp only[VR];exact⟨trivial,rfl⟩
theorem oG{g:Nat}{vs:Array Value}{z:Int}(h:Calls P g vs w fun e w'=>(∃x:IV,e= .returned (.agg #[.bool x.s,.slice x.a x.n x.cap])/\IZ w' x z)/\Below w.heap.size w w'):Ans P g vs w (.nm z):=by
 unfold Ans;refine h.mono ?_;rintro e w' ⟨⟨x,rfl,hx⟩,hb⟩;exact⟨_,rfl,vr_nm hx,hb⟩
theorem Jo{g:Nat}{vs:Array Value}{z:Int}(h:Calls P g vs w fun e w'=>e= .returned (.int .i64 z)/\Below w.heap.size w w'):Ans P g vs w (i64 z):=by
 unfold Ans;refine h.mono ?_;rintro e w' ⟨rfl,hb⟩;exact⟨_,rfl,Ai z,hb⟩
end
theorem Sj(z:Int):sg z=sgn z:=by
 unfold sg sgn;split
 ·next n=>
  have h:Int.negSucc n<0:=Int.negSucc_lt_zero n;generalize Int.negSucc n=z at*;rw[aj aa,an aa]
 ·rfl
 ·next n=>
  have h:(0:Int)<Int.ofNat (n+1):=Int.natCast_pos.2 (Nat.succ_pos n);generalize Int.ofNat (n+1)=z at*;rw[aj aa,aj aa]
theorem Nt(z:Int):isz z=decide (z=0):=by
 unfold isz;split
 ·rfl
 ·next h=>
  symm;rw[bW];intro e;exact h e
theorem VS{z:Int}(h:isz z=false):z≠0:=by
 rw[Nt]at h;simpa using h
theorem Ms{n r s:Nat}(h1:r*r<=n)(h2:n<(r+1)*(r+1))(h3:s*s<=n)(h4:n<(s+1)*(s+1)):r=s:=by
 have k1:r<s+1:=uG fun h=>by have:=cr h h;omega
 have k2:s<r+1:=uG fun h=>by have:=cr h h;omega
 omega
theorem CS:∀{l:List (Nat×Orc)} {n:Nat} {o:Orc},AY l n=some o->(n,o)∈l
 |[],_,_,h=>by cases h
 |(k,o')::l,n,o,h=>by
  unfold AY at h;split at h
  ·next hb=>
   cases h;rw[ed hb];exact bn
  ·exact bu _ (CS h)
theorem Ua:Bm Tryz.prog (theE Tryz.prog):=by
 intro g f hg;have hm:=CS (show AY orcT g=some f from hg);simp only[orcT,bC,aR,List.not_mem_nil,or_false]at hm;rcases hm with⟨rfl,rfl⟩|⟨rfl,rfl⟩|⟨rfl,rfl⟩|⟨rfl,rfl⟩|⟨rfl,rfl⟩|⟨rfl,rfl⟩|⟨rfl,rfl⟩|⟨rfl,rfl⟩|⟨rfl,rfl⟩|⟨rfl,rfl⟩|⟨rfl,rfl⟩|⟨rfl,rfl⟩|⟨rfl,rfl⟩|⟨rfl,rfl⟩|⟨rfl,rfl⟩
 ·exact ve (enters_of Tryz.func190 (by kernel_rfl) rfl) fun x y u v w c fu fv hx hy e => by
   cases e;exact oG (xX x y u v fu fv w hx.ip hy.ip)
 ·exact ve (enters_of Tryz.func159 (by kernel_rfl) rfl) fun x y u v w c fu fv hx hy e => by
   cases e;exact oG (xF x y u v fu fv w hx.ip hy.ip)
 ·exact ve (enters_of Tryz.func117 (by kernel_rfl) rfl) fun x y u v w c fu fv hx hy e => by
   cases e;exact oG (tY x y u v fu fv w hx.ip hy.ip)
 ·exact ve (enters_of Tryz.func167 (by kernel_rfl) rfl) fun x y u v w c fu fv hx hy e => by
   split at e
   ·cases e
   ·next hz=>
    cases e;have hv:=VS hz;unfold Ans;refine(vx x y u v fu fv w hx.ip hy.ip).mono ?_;rintro e w' ⟨q,r,rfl,h1,h2,hb⟩;rw[aj hv]at h2;refine⟨_,rfl,fun A ρ=>?_,hb⟩;rw[aj hv];simp only[VR,VRl];exact⟨_,rfl,_,_,rfl,⟨q,rfl,h1⟩,_,_,rfl,⟨r,rfl,h2⟩,_,_,rfl,Ai 0 A ρ,rfl⟩
 ·exact ve (enters_of Tryz.func161 (by kernel_rfl) rfl) fun x y u v w c fu fv hx hy e => by
   cases e;rw[Sj];exact Jo (Cn x y u v fu fv w hx.ip hy.ip)
 ·exact ve (enters_of Tryz.func165 (by kernel_rfl) rfl) fun x y u v w c fu fv hx hy e => by
   cases e;exact oG (IY x y u v fu fv w hx.ip hy.ip)
 ·intro args r e A ρ w vs hv;refine⟨enters_of Tryz.func124 ah rfl,?_⟩;unfold oOf at e;split at e
  ·next n=>
   split at e
   ·next hb=>
    cases e;rw[bB]at hb;simp only[VRl,VR]at hv;obtain⟨u,r',h1,⟨rfl,_⟩,h3⟩:=hv;subst h3;have:vs= #[.int .i64 n]:=by apply Array.ext';rw[h1]
    rw[this];exact(oG (si n aa w)).calls A ρ
   ·cases e
  ·cases e
 ·exact vf (enters_of Tryz.func120 (by kernel_rfl) rfl) fun x z w c fz hx e => by
   split at e
   ·next hb=>
    cases e;rw[bB]at hb;have hI:I64 z:=by unfold I64;omega
    unfold Ans;refine(wm x z fz w hx.ip).mono ?_;rintro e w' ⟨rfl,hb⟩;refine⟨_,rfl,fun A ρ=>?_,hb⟩;rw[show smv z=z from an hI,show decide (I64 z)=true from aD hI];simp only[VR,VRl];exact⟨_,rfl,_,_,rfl,Ai z A ρ,_,_,rfl,⟨rfl,rfl⟩,rfl⟩
   ·cases e
 ·exact vf (enters_of Tryz.func112 (by kernel_rfl) rfl) fun x z w c fz hx e => by
   cases e;obtain⟨l,h1,rfl⟩:=hx.ip;have bl:=iL h1.nf fz;exact oG (AK x l aa w h1)
 ·exact vf (enters_of Tryz.func203 (by kernel_rfl) rfl) fun x z w c fz hx e => by
   split at e
   ·next n=>
    generalize sqf 10000 n 0=r at e;unfold rt at e;split at e
    ·next h1=>
     split at e
     ·next h2=>
      cases e;have k1:=gg h1;rw[bB]at h2;unfold Ans;refine(Pj x _ fz (Int.natCast_nonneg n) w hx.ip).mono ?_;rintro e w' ⟨⟨y,s,rfl,hy,h3,h4⟩,hb⟩;have:s=r:=Ms h3 h4 k1 h2;subst this;refine⟨_,rfl,fun A ρ=>?_,hb⟩;simp only[VR,VRl];exact⟨_,rfl,_,_,rfl,⟨y,rfl,hy⟩,_,_,rfl,Ai 0 A ρ,rfl⟩
     ·cases e
    ·cases e
   ·cases e
 ·exact vf (enters_of Tryz.func95 (by kernel_rfl) rfl) fun x z w c fz hx e => by
   cases e;rw[Nt];unfold Ans;refine(iV x z w hx).mono ?_;rintro e w' ⟨rfl,hb⟩;exact⟨_,rfl,fun A ρ=>Tk _ A ρ,hb⟩
 ·exact vf (enters_of Tryz.func101 (by kernel_rfl) rfl) fun x z w c fz hx e => by
   cases e;rw[Sj];exact Jo (we x z fz w hx.ip)
 ·exact vf (enters_of Tryz.func102 (by kernel_rfl) rfl) fun x z w c fz hx e => by
   cases e;exact oG (nj x z fz w hx.ip)
 ·exact vf (enters_of Tryz.func185 (by kernel_rfl) rfl) fun x z w c fz hx e => by
   cases e;exact oG (pJ x z fz w hx.ip)
 ·exact ve (enters_of Tryz.func121 (by kernel_rfl) rfl) fun x y u v w c fu fv hx hy e => by
   split at e
   ·cases e
   ·cases e;exact oG (ni x y u v fu fv w hx.ip hy.ip)
end CI
end
section
open Go.RowKit
namespace CI
def isTrue:Option Out->Bool
 |some (.val (.sc (.bool true)) _)=>true
 |_=>false
theorem MW{o:Option Out}(h:isTrue o=true):∃h',o=some (.val (.sc (.bool true)) h'):=by
 unfold isTrue at h;split at h
 ·exact⟨_,rfl⟩
 ·cases h
set_option maxRecDepth 100000 in
theorem Og:isTrue (run (theE Tryz.prog) 3000 (.call (.fn 15 []) [] ⟨0,0,[],.e⟩))=true:=by kernel_rfl
theorem Oh(w:World):Calls Tryz.prog 15 #[] w (fun e w'=>e= .returned (.bool true)/\Below w.heap.size w w'):=by
 obtain⟨h',e⟩:=MW Og;refine(Mp ah Ua (OU _) (enters_of Tryz.func15 ah rfl) e w).mono ?_;rintro e w' ⟨u,A,ρ,rfl,h1,_,h2⟩;simp only[VR]at h1;exact⟨by rw[h1.1],h2⟩
end CI
end
section
open Go.RowKit
namespace DW
theorem Cp:Fn Tryz.prog 15 [] (.sc (.bool true)):=by
 refine⟨enters_of Tryz.func15 ah rfl,fun X w vs _ hv=>?_⟩;simp only[ATp]at hv;have:vs= #[]:=cM.1 hv;subst this;refine(CI.Oh w).mono fun e w' ⟨h,hb⟩=>⟨_,h,?_,hb⟩;simp only[AR];exact⟨trivial,rfl⟩
set_option maxRecDepth 20000
set_option maxHeartbeats 2000000
end DW
end
section
namespace Mx
theorem mq{A:Mat}{r i j:Nat}(h:i<r):at' (A.take r) i j=at' A i j:=by
 unfold at' rw;rw[aq,aq,iB,an h,<-aq,<-aq]
theorem vE{A:Mat}{r i j:Nat}(h:¬i<r):at' (A.take r) i j=0:=by
 have:rw (A.take r) i=[]:=by
  unfold rw;rw[aq,iB,aj h];rfl
 unfold at';rw[this];rfl
theorem HF.take:∀(A:Mat) (r:Nat),HF A->HF (A.take r)
 |_,0,_=>trivial
 |[],_+1,_=>trivial
 |a::A,r+1,h=>by
  have hz:∀i j,at' (a::A) i j=0->at' (a::A.take r) i j=0:=fun i j h=>by
   show at' ((a::A).take (r+1)) i j=0;by_cases hi:i<r+1
   ·rw[mq hi];exact h
   ·exact vE hi
  have hz2:∀i j,at' A i j=0->at' (A.take r) i j=0:=fun i j h=>by
   by_cases hi:i<r
   ·rw[mq hi];exact h
   ·exact vE hi
  rcases h with h|⟨p,h1,h2,h3,h4,h5⟩
  ·exact .inl fun i j=>hz i j (h i j)
  ·refine .inr ⟨p,fun i j hj=>hz i j (h1 i j hj),h2,fun i=>hz2 i p (h3 i),HF.take A r h4,fun i q k1 k2=>?_⟩;have hi:i<r:=tg fun hi=>k2 (vE hi);rw[mq hi]at k2⊢;exact h5 i q (fun j hj=>by rw[<-mq (r:=r) hi];exact k1 j hj) k2
theorem HF.div{g:Int}(hg:0<g):∀(A B:Mat),A.length=B.length->(∀i j,at' A i j=g*at' B i j)->HF A->HF B
 |_,[],_,_,_=>trivial
 |[],b::B,hl,_,_=>by simp at hl
 |a::A,b::B,hl,h,hA=>by
  have h0:∀j,a.getD j 0=g*b.getD j 0:=fun j=>h 0 j;have ht:∀i j,at' A i j=g*at' B i j:=fun i j=>h (i+1) j;have hz:∀{x:Int},g*x=0->x=0:=fun e=>by
   rcases vY.1 e with e|e
   ·omega
   ·exact e
  rcases hA with hA|⟨p,h1,h2,h3,h4,h5⟩
  ·exact .inl fun i j=>hz (by rw[<-h i j];exact hA i j)
  ·refine .inr ⟨p,fun i j hj=>hz (by rw[<-h i j];exact h1 i j hj),?_,fun i=>hz (by rw[<-ht i p];exact h3 i),HF.div hg A B nS ht h4,fun i q k1 k2=>?_⟩
   ·rw[h0]at h2;exact Ey (a:=g) (by rw[dv];exact h2) aa
   ·have h6:=h5 i q (fun j hj=>by rw[ht,k1 j hj,dv]) (by rw[ht];exact fun e=>k2 (hz e));rw[h0,ht]at h6;exact⟨Int.le_of_mul_le_mul_left (a:=g) (by rw[dv];exact h6.1) hg,Ey (a:=g) h6.2 aa⟩
theorem DS{n:Nat}{M:Mat}(h:Rc n M):HF (nH n M):=by
 obtain⟨pv,he⟩:=iJ n 0 (0,M) id h (gL M);rw[bw]at he;have h2:=Gu ((eh n 0 (0,M) h).rc h) he (red n 0 (0,M)).2.length 0 (bw _).symm;rw[du]at h2;exact HF.take _ _ h2
theorem KL{n:Nat}{M:Mat}(h:Rc n M):∀l∈nH n M,l.all (fun z=>decide (z=0))=false:=fun l hl=>by
 rw[<-Ch h]at hl;unfold DW.fil at hl;have:=(zP.1 hl).2;simpa using this
theorem Ue{n:Nat}{X:Mat}(h:Rc n X)(hf:HF X)(hz:∀l∈X,l.all (fun z=>decide (z=0))=false):nH n X=X:=by
 obtain⟨pv,he⟩:=iJ n 0 (0,X) id h (gL X);rw[bw]at he;have hre:=eh n 0 (0,X) h;have h2:=Gu (hre.rc h) he (red n 0 (0,X)).2.length 0 (bw _).symm;rw[du]at h2;have hs:=hre.sp h;have:=Cf (red n 0 (0,X)).2 X hre.len (hre.rc h) h h2 hf hs.1 hs.2;rw[<-Ch h,this];exact I6 hz
theorem NM:∀(row:List Int) (z:Int),gR row z∣z/\∀x∈row,gR row z∣x
 |[],z=>⟨Int.dvd_refl z,fun x hx=>by cases hx⟩
 |x::l,z=>by
  have h:=NM l ((Int.gcd z x:Nat):Int);refine⟨zM h.1 (Int.gcd_dvd_left ..),fun y hy=>?_⟩;rcases bC.1 hy with rfl|hy
  ·exact zM h.1 (Int.gcd_dvd_right ..)
  ·exact h.2 y hy
theorem kH:∀(M:Mat) (z:Int),gM M z∣z/\∀l∈M,∀x∈l,gM M z∣x
 |[],z=>⟨Int.dvd_refl z,fun x hx=>by cases hx⟩
 |r::M,z=>by
  have h:=kH M (gR r z);have h1:=NM r z;refine⟨zM h.1 h1.1,fun l hl=>?_⟩;rcases bC.1 hl with rfl|hl
  ·exact fun x hx=>zM h.1 (h1.2 x hx)
  ·exact h.2 l hl
theorem Sw:∀(row:List Int) (z:Int),0<=z->0<=gR row z
 |[],_,h=>h
 |x::l,z,_=>Sw l _ (Int.natCast_nonneg _)
theorem Sx:∀(M:Mat) (z:Int),0<=z->0<=gM M z
 |[],_,h=>h
 |r::M,z,h=>Sx M _ (Sw r z h)
theorem NK{g:Int}(hg:0<=g):∀(row:List Int) (z:Int),gR (row.map (fun x=>g*x)) (g*z)=g*gR row z
 |[],_=>rfl
 |x::l,z=>by
  have h:=NK hg l ((Int.gcd z x:Nat):Int);show gR (l.map (fun x=>g*x)) ((Int.gcd (g*z) (g*x):Nat):Int)=g*gR l ((Int.gcd z x:Nat):Int);rw[<-h,Int.gcd_mul_left,Int.natCast_mul,zX hg]
theorem NN{g:Int}(hg:0<=g):∀(M:Mat) (z:Int),gM (mapM (fun x=>g*x) M) (g*z)=g*gM M z
 |[],_=>rfl
 |r::M,z=>by
  show gM (mapM (fun x=>g*x) M) (gR (r.map (fun x=>g*x)) (g*z))=g*gM M (gR r z);rw[NK hg,NN hg]
theorem CR{g:Int}{M:Mat}(h:∀l∈M,∀x∈l,g∣x):mapM (fun x=>g*x) (mapM (fun x=>x/g) M)=M:=by
 unfold mapM;rw[List.map_map];have:∀l∈M,(List.map (fun x=>g*x)∘List.map (fun x=>x/g)) l=l:=fun l hl=>by
  show List.map (fun x=>g*x) (List.map (fun x=>x/g) l)=l;rw[List.map_map];have:∀x∈l,((fun x=>g*x)∘(fun x=>x/g)) x=x:=fun x hx=>qC (h l hl x hx);rw[mF this,List.map_id']
 rw[mF this,List.map_id']
theorem xW(f:Int->Int)(hf:f 0=0)(M:Mat)(i j:Nat):at' (mapM f M) i j=f (at' M i j):=by
 unfold at';rw[ny,aq,aq,bN]
 cases(rw M i)[j]? with
 |none=>exact hf.symm
 |some x=>rfl
theorem fX{n:Nat}{M:Mat}{d:Int}(h:Rc n M)(hd:0<d):nH n (nR n M d)=nR n M d/\nG n (nR n M d) (d/nG n M d)=1/\nR n (nR n M d) (d/nG n M d)=nR n M d/\Rc n (nR n M d)/\0<nG n M d/\0<d/nG n M d:=by
 have hD:=kH (nH n M) d;have hp:0<nG n M d:=by
  have h1:=Sx (nH n M) d aa;have h2:=(DW.Ea (nH n M) d aa).1;unfold nG;omega
 have hH:=Sq h;have hF:=DS h;have hZ:=KL h;have hR:Rc n (nR n M d):=IC hH;have hb:mapM (fun x=>nG n M d*x) (nR n M d)=nH n M:=CR hD.2;have hdd:nG n M d*(d/nG n M d)=d:=qC hD.1;have hg:gM (nH n M) d=nG n M d:=rfl;have hX:nH n (nR n M d)=nR n M d:=Ue hR (HF.div hp (nH n M) (nR n M d) (fi _ _).symm (fun i j=>by
  conv=>lhs;rw[<-hb]
  exact xW _ (dv _) _ _ _) hF) fun l hl=>by
   obtain⟨r,hr,rfl⟩:=dY.1 hl;have h1:=hZ r hr;rw[vO]at h1⊢;obtain⟨x,hx,h2⟩:=h1;refine⟨x/nG n M d,dY.2 ⟨x,hx,rfl⟩,?_⟩;have h3:=qC (hD.2 r hr x hx);rw[hg]at h3;simp only[decide_eq_true_eq]at h2⊢;intro h4;rw[h4,dv]at h3;exact h2 h3.symm
 have hG:nG n (nR n M d) (d/nG n M d)=1:=by
  have h1:=NN (g:=nG n M d) aa (nR n M d) (d/nG n M d);rw[hb,hdd,hg]at h1;have h2:nG n M d*(gM (nR n M d) (d/nG n M d)-1)=0:=by rw[Int.mul_sub,<-h1,xC,Int.sub_self]
  show gM (nH n (nR n M d)) (d/nG n M d)=1;rw[hX];rcases vY.1 h2 with h2|h2
  ·omega
  ·omega
 refine⟨hX,hG,?_,hR,hp,?_⟩
 ·show mapM (fun z=>z/nG n (nR n M d) (d/nG n M d)) (nH n (nR n M d))=nR n M d;rw[hG,hX];unfold mapM;have:∀l:List Int,l.map (fun z=>z/1)=l:=fun l=>by
   rw[mF (g:=fun x=>x) (fun x _=>Int.ediv_one x),List.map_id']
  rw[mF (g:=fun x=>x) (fun l _=>this l),List.map_id']
 ·refine Ey (a:=nG n M d) ?_ aa;rw[hdd,dv];exact hd
end Mx
end
section
open Go.RowKit
namespace DW
theorem wE{n:Nat}{m:Mx.Mat}:∀{l:List Int},l∈nH n m->l∈(Mx.red n 0 (0,m)).2:=fun h=>mZ h
theorem Ip{n:Nat}{den:Int}{m:Mx.Mat}(hc:lck n m den=0):Mx.Bd (2^(50*11^n)) (Mx.red n 0 (0,m)).2:=by
 have:=Mx.tT (n:=n) (e:=50) aa n 0 0 m (gZ hc) (by simpa using A5 hc);rw[bw]at this;exact this
theorem uh{g x:Int}(hg:0<g)(h:g∣x):(x/g).natAbs<=x.natAbs:=by
 have h1:=qC h;have h2:x.natAbs=g.natAbs*(x/g).natAbs:=by rw[<-gG,h1]
 rw[h2];exact EJ _ aa
theorem lL{n:Nat}{den:Int}{m:Mx.Mat}(hc:lck n m den=0):(den/nG n m den).natAbs<=2^50:=by
 have hd:=(gK hc).1;have h1:=(Mx.fX (gZ hc) (show 0<den by omega)).2.2.2.2.1;exact aB (uh h1 (Mx.kH (nH n m) den).1) (aB (show den.natAbs<=1000000000000000 by omega) au)
theorem AQ{n:Nat}{den:Int}{m:Mx.Mat}(hc:lck n m den=0):(nR n m den).length<=64:=by
 have h1:=(gK hc).2.1;have h2:=FO (gZ hc);unfold nR;rw[fi];omega
theorem AX{dim:Int}:∀{m:List (List Int)},(∀l∈m,(l.length:Int)=dim/\∀z∈l,inb 1000000000000000 z=true)->fB dim m=0
 |[],_=>rfl
 |r::t,h=>by
  unfold fB;have h1:=h r bn;rw[an h1.1,aj,AX fun l hl=>h l (bu _ hl)];intro h4;rw[ku]at h4;obtain⟨z,hz,h6⟩:=h4;unfold big at h6;rw[h1.2 z hz]at h6;cases h6
theorem Pm(n:Nat)(den:Int)(m:Mx.Mat)(hc:lck n m den=0)(hn:n<=5):Fn Tryz.prog 158 [dW m,.nm den,zI n] (.tp [dW (nR n m den),.nm (den/nG n m den)]):=by
 obtain⟨k1,k2,k3⟩:=gK hc;have hR:=gZ hc;have h5:=Ti hn;exact US m n 50 n den hR aa aa aa (.inr (af _)) h5 (A5 hc) (cB (e:=50) (aB (show den.natAbs<=1000000000000000 by omega) au) aa) aa
  (fun l hl x hx=>cB (mN (Ip hc) (wE hl) hx) aa) (fun l hl x hx=>cB (mN (Ip hc) hl hx) aa)
theorem Ni{n:Int}{m:List (List Int)}(h:lgt n m=true):n≠6/\m.length<=70/\∀l∈m,l.length<=10:=by
 unfold lgt at h;rw[eH,vS,vT,vT,bW,bW,cW]at h;exact⟨h.1.1.1,by omega,fun l hl=>vP (h.2 l hl)⟩
theorem Fn.BE{P:Program}{f:FuncId}{ds ds':List D}{r:D}(h:Fn P f ds r)(hw:∀X w vs,ATp X w ds' vs->ATp X w ds vs):Fn P f ds' r:=⟨h.1,fun X w vs hX hv=>h.2 X w vs hX (hw X w vs.toList hv)⟩
set_option maxRecDepth 20000
set_option maxHeartbeats 2000000
theorem Mm:Fn Tryz.prog 35 [dL 0 [] 0,.st [zI 0,.sc (.slice none 0 0),zI 0]] (.sc (.bool true)):=by
 refine(Ik 0 0 0 0 [] [] aU (fun l hl=>by cases hl)).BE fun X w vs h=>?_;simp only[ATp]at h⊢;obtain⟨u,rest,e,h1,u2,rest2,e2,h2,e3⟩:=h;exact⟨u,rest,e,h1,u2,rest2,e2,Ok h2,e3⟩
end DW
end
end Go.Proofs.YtcgjmdpcplhanaaGreat
