/- Lemmas for the law: E64 E50 E65 M17 -/
import Derived.Test.YtcgjmdpcplhanaaGreatZd20
namespace Go.Proofs.YtcgjmdpcplhanaaGreat
section
theorem zs160{p q:Prop}(h:q)(f:Wq q->p:=by(intro hW;((refine ez (k:=4) (z:=(.agg #[.int .i64 0,.slice none 0 0,.int .i64 0])) (d:=(.st [.sc (.int .i64 0),.sc (.slice none 0 0),.sc (.int .i64 0)])) rfl rfl rfl rfl rfl ai aj aj dT aj aj cu ?_));exact hW.out)):p:=f ⟨h⟩
theorem zs276{p q:Prop}(h:q)(f:Wq q->p:=by(intro hW;(refine jw ?_;refine zs160 ?_;refine lu ?_;refine aX ?_);exact hW.out)):p:=f ⟨h⟩
theorem zs277{p q:Prop}(h:q)(f:Wq q->p:=by(intro hW;(refine mI ?_;refine zs4 ?_;refine jV ?_;refine cK ?_);exact hW.out)):p:=f ⟨h⟩
theorem wH{p q:Prop}(h:q)(f:Wq q->p:=by(intro hW;(refine zs2 ?_;refine zs276 ?_;refine zs2 ?_;refine zs277 ?_;refine zs2 ?_;refine tL ?_);exact hW.out)):p:=f ⟨h⟩
theorem zs161{p q:Prop}(h:q)(f:Wq q->p:=by(intro hW;((refine ez (k:=7) (z:=(.agg #[.int .i64 0,.slice none 0 0,.bool false,.slice none 0 0])) (d:=(.st [.sc (.int .i64 0),.sc (.slice none 0 0),.sc (.bool false),.sc (.slice none 0 0)])) rfl rfl rfl rfl rfl ai aj aj dT aj aj cu ?_));exact hW.out)):p:=f ⟨h⟩
theorem zs278{p q:Prop}(h:q)(f:Wq q->p:=by(intro hW;(refine kW ?_;refine zs161 ?_;refine gw ?_);exact hW.out)):p:=f ⟨h⟩
theorem CJ{p q:Prop}(h:q)(f:Wq q->p:=by(intro hW;(refine wH ?_;refine bp ?_;refine zs278 ?_;refine zs2 ?_);exact hW.out)):p:=f ⟨h⟩
theorem zs162{p q:Prop}(h:q)(f:Wq q->p:=by(intro hW;((refine ez (k:=8) (z:=(.agg #[.bool false,.slice none 0 0])) (d:=(.nm 0)) rfl rfl rfl rfl rfl ai aj aj dT aj aj cu ?_));exact hW.out)):p:=f ⟨h⟩
theorem Jh{p q:Prop}(h:q)(f:Wq q->p:=by(intro hW;(refine kW ?_;refine kX ?_;refine zs162 ?_;refine zs6 ?_;refine gw ?_);exact hW.out)):p:=f ⟨h⟩
theorem Qo{p q:Prop}(h:q)(f:Wq q->p:=by(intro hW;(refine cn ?_;refine iq ?_;refine iq ?_;refine aX ?_);exact hW.out)):p:=f ⟨h⟩
theorem Jg{p q:Prop}(h:q)(f:Wq q->p:=by(intro hW;(refine jv ?_;refine yh ?_;refine ir ?_;refine mJ ?_;refine aX ?_);exact hW.out)):p:=f ⟨h⟩
theorem Qn{p q:Prop}(h:q)(f:Wq q->p:=by(intro hW;(refine pA ?_;refine zs4 ?_;refine ir ?_;refine JN ?_;refine iq ?_;refine ye ?_;refine ye ?_;refine lT ?_;refine cK ?_);exact hW.out)):p:=f ⟨h⟩
theorem zs281{p q:Prop}(h:q)(f:Wq q->p:=by(intro hW;(refine cn ?_;refine zs22 ?_;refine ir ?_;refine iq ?_;refine jV ?_;refine cK ?_);exact hW.out)):p:=f ⟨h⟩
theorem Ji{p q:Prop}(h:q)(f:Wq q->p:=by(intro hW;(refine kW ?_;refine rZ ?_;refine aX ?_);exact hW.out)):p:=f ⟨h⟩
theorem zs282{p q:Prop}(h:q)(f:Wq q->p:=by(intro hW;(refine tM ?_;refine ij ?_;refine oz ?_;refine JR ?_;refine iH ?_;refine wO ?_;refine wN ?_;refine mL ?_);exact hW.out)):p:=f ⟨h⟩
theorem Qf{p q:Prop}(h:q)(f:Wq q->p:=by(intro hW;(refine zs2 ?_;refine Ji ?_;refine bp ?_;refine oy ?_;refine zs2 ?_;refine Qo ?_;refine bp ?_;refine zs281 ?_;refine zs2 ?_;refine Qr ?_;refine zs2 ?_;refine zs282 ?_;refine zs2 ?_;refine Jy ?_);exact hW.out)):p:=f ⟨h⟩
theorem Qm{p q:Prop}(h:q)(f:Wq q->p:=by(intro hW;(refine cn ?_;refine iq ?_;refine iq ?_;refine iq ?_;refine tF ?_;refine aX ?_);exact hW.out)):p:=f ⟨h⟩
end
section
open Go.RowKit
namespace DW
set_option maxRecDepth 20000
set_option maxHeartbeats 2000000
theorem Bz(dim d:Int)(R:Mx.Mat):Fn Tryz.prog 94 [nu dim R d] (.sc (.bool (decide ((R.length:Int)=dim)))):=by
 refine ba Tryz.func94 ai rfl rfl rfl fun X0=>?_;simp only[aO];refine mH ?_;refine wF ?_;refine zs5 ?_;refine yh ?_;refine ir ?_;refine yf ?_;refine cT ?_;exact⟨_,Sh.refl,.one (.tmp 2) _ rfl (.tmp 2 rfl)⟩
theorem EY(dim den C:Int)(m f:Mx.Mat)(hC:C≠0)(FO:Fn Tryz.prog 93 [dL dim m den,dM f] (zI C)):Fn Tryz.prog 36 [dL dim m den,dM f] (.tp [dL 0 [] 0,zI C]):=by
 refine ba Tryz.func36 ai rfl rfl rfl fun X0=>?_;simp only[aO];refine wH ?_;refine bw ?_;refine gar ?_;refine JP ?_;refine zs4 ?_;refine lT ?_;refine cT ?_;exact⟨_,Sh.trans (aA (k:=4) bf bA bz) (lS (t:=4) (d:=.pt (.st [_,.sc (.slice none 0 0),_])) (d':=.pt (.st [_,dM [],_])) aj rfl rfl fun X w v h=>ic h),.two (.cell 4 48) (.tmp 5) _ _ rfl (.cell 4 _ _ rfl rfl ai ai) (.tmp 5 rfl)⟩
theorem O7(dim den d:Int)(m f R:Mx.Mat)(hR:(R.length:Int)≠dim)(FO:Fn Tryz.prog 93 [dL dim m den,dM f] (zI 0))(RD:Fn Tryz.prog 87 [dL dim m den] (nu dim R d)):Fn Tryz.prog 36 [dL dim m den,dM f] (.tp [dL 0 [] 0,zI 12]):=by
 have FU:=Bz dim d R;rw[aw hR]at FU;refine ba Tryz.func36 ai rfl rfl rfl fun X0=>?_;simp only[aO];refine CJ ?_;refine ay (aA (k:=7) bf bA bz) ?_;refine zs2 ?_;refine Ji ?_;refine py ?_;exact⟨_,Sh.trans (aA (k:=4) bf bA bz) (lS (t:=4) (d:=.pt (.st [_,.sc (.slice none 0 0),_])) (d':=.pt (.st [_,dM [],_])) aj rfl rfl fun X w v h=>ic h),.two (.cell 4 48) (.tmp 5) _ _ rfl (.cell 4 _ _ rfl rfl ai ai) (.tmp 5 rfl)⟩
theorem O6(dim den d:Int)(m f R:Mx.Mat)(hR:(R.length:Int)=dim)(FO:Fn Tryz.prog 93 [dL dim m den,dM f] (zI 0))(RD:Fn Tryz.prog 87 [dL dim m den] (nu dim R d))(WO:Fn Tryz.prog 72 [dM f] (dW f))(DF:Fn Tryz.prog 96 [dW f] (.nm 0)):Fn Tryz.prog 36 [dL dim m den,dM f] (.tp [dL 0 [] 0,zI 10]):=by
 have FU:=Bz dim d R;rw[au hR]at FU;have PZ:=Ho 0;rw[au rfl]at PZ;refine ba Tryz.func36 ai rfl rfl rfl fun X0=>?_;simp only[aO];refine CJ ?_;refine ay (aA (k:=7) bf bA bz) ?_;refine zs2 ?_;refine Ji ?_;refine bp ?_;refine oy ?_;refine zs2 ?_;refine Qo ?_;refine py ?_;exact⟨_,Sh.trans (aA (k:=4) bf bA bz) (lS (t:=4) (d:=.pt (.st [_,.sc (.slice none 0 0),_])) (d':=.pt (.st [_,dM [],_])) aj rfl rfl fun X w v h=>ic h),.two (.cell 4 48) (.tmp 5) _ _ rfl (.cell 4 _ _ rfl rfl ai ai) (.tmp 5 rfl)⟩
theorem Te(dim den d x y e d3 n2 d2 C:Int)(m f R B M A S R3 R2:Mx.Mat)(hR:(R.length:Int)=dim)(FO:Fn Tryz.prog 93 [dL dim m den,dM f] (zI 0))(RD:Fn Tryz.prog 87 [dL dim m den] (nu dim R d))(WO:Fn Tryz.prog 72 [dM f] (dW f))(hx:x≠0)(DF:Fn Tryz.prog 96 [dW f] (.nm x))(TR:Fn Tryz.prog 98 [dW R] (dW B))(TI:Fn Tryz.prog 97 [dW f,dW B] (dW M))(DM:Fn Tryz.prog 96 [dW M] (.nm y))(AJ:Fn Tryz.prog 99 [dW M] (dW A))(BY:Fn Tryz.prog 100 [dW A,.nm d] (dW S))(SG:Fn Tryz.prog 101 [.nm y] (zI (sgn y)))(NG:Fn Tryz.prog 102 [.nm y] (.nm (-y)))(he:e=(y.natAbs:Int))(NT:Fn Tryz.prog 103 [zI dim,dW S,.nm e] (nu dim R3 d3))(HN:Fn Tryz.prog 88 [nu dim R3 d3] (.tp [dL n2 R2 d2,zI C])):Fn Tryz.prog 36 [dL dim m den,dM f] (.tp [dL n2 R2 d2,zI C]):=by
 have FU:=Bz dim d R;rw[au hR]at FU;have PZ:=Ho x;rw[aw hx]at PZ;by_cases hy:y<0
 ·have hs:sgn y= -1:=by unfold sgn;(repeat' split)<;>omega
  have he2:e= -y:=by omega
  rw[hs]at SG;subst he2;clear he;refine ba Tryz.func36 ai rfl rfl rfl fun X0=>?_;simp only[aO];refine CJ ?_;refine ay (aA (k:=7) bf bA bz) ?_;refine Qf ?_;refine bw ?_;refine wJ ?_;refine zs2 ?_;refine Qn ?_;refine zs2 ?_;exact⟨_,aA (k:=4) bf bA bz,.two (.cell 4 48) (.tmp 5) _ _ rfl (.cell 4 _ _ rfl rfl ai ai) (.tmp 5 rfl)⟩
 ·have hs:0<=sgn y:=by unfold sgn;rw[ah hy];split<;>omega
  have he2:e=y:=by omega
  subst he2;clear he NG;generalize sgn e=q at*;have hq:decide (q<0)=false:=aw aa;refine ba Tryz.func36 ai rfl rfl rfl fun X0=>?_;simp only[aO];refine CJ ?_;refine ay (aA (k:=7) bf bA bz) ?_;refine Qf ?_;refine bp ?_;refine Qn ?_;refine zs2 ?_;exact⟨_,aA (k:=4) bf bA bz,.two (.cell 4 48) (.tmp 5) _ _ rfl (.cell 4 _ _ rfl rfl ai ai) (.tmp 5 rfl)⟩
theorem OT(dim den C:Int)(m f:Mx.Mat)(hC:C≠0)(CF:Fn Tryz.prog 104 [dL dim m den,dM f] (zI C)):Fn Tryz.prog 37 [dL dim m den,dM f] (.tp [dL 0 [] 0,zI C]):=by
 refine ba Tryz.func37 ai rfl rfl rfl fun X0=>?_;simp only[aO];refine wH ?_;refine bw ?_;refine gar ?_;refine JP ?_;refine zs4 ?_;refine lT ?_;refine cT ?_;exact⟨_,Sh.trans (aA (k:=4) bf bA bz) (lS (t:=4) (d:=.pt (.st [_,.sc (.slice none 0 0),_])) (d':=.pt (.st [_,dM [],_])) aj rfl rfl fun X w v h=>ic h),.two (.cell 4 48) (.tmp 5) _ _ rfl (.cell 4 _ _ rfl rfl ai ai) (.tmp 5 rfl)⟩
theorem OP(dim den d:Int)(m f R:Mx.Mat)(hR:(R.length:Int)<dim)(CF:Fn Tryz.prog 104 [dL dim m den,dM f] (zI 0))(BS:Fn Tryz.prog 105 [dL dim m den] (.tp [dW R,.nm d])):Fn Tryz.prog 37 [dL dim m den,dM f] (.tp [dL 0 [] 0,zI 12]):=by
 refine ba Tryz.func37 ai rfl rfl rfl fun X0=>?_;simp only[aO];refine wH ?_;refine bp ?_;refine Jh ?_;refine zs2 ?_;refine Jg ?_;refine py ?_;exact⟨_,Sh.trans (aA (k:=4) bf bA bz) (lS (t:=4) (d:=.pt (.st [_,.sc (.slice none 0 0),_])) (d':=.pt (.st [_,dM [],_])) aj rfl rfl fun X w v h=>ic h),.two (.cell 4 48) (.tmp 5) _ _ rfl (.cell 4 _ _ rfl rfl ai ai) (.tmp 5 rfl)⟩
theorem OO(dim den d q:Int)(m f R:Mx.Mat)(hR:¬(R.length:Int)<dim)(CF:Fn Tryz.prog 104 [dL dim m den,dM f] (zI 0))(BS:Fn Tryz.prog 105 [dL dim m den] (.tp [dW R,.nm d]))(WD:Fn Tryz.prog 23 [dM f] (dW f))(DF:Fn Tryz.prog 43 [dW f] (.nm q))(SF:Fn Tryz.prog 106 [.nm q] (zI 0)):Fn Tryz.prog 37 [dL dim m den,dM f] (.tp [dL 0 [] 0,zI 10]):=by
 refine ba Tryz.func37 ai rfl rfl rfl fun X0=>?_;simp only[aO];refine wH ?_;refine bp ?_;refine Jh ?_;refine zs2 ?_;refine Jg ?_;refine bp ?_;refine Qm ?_;refine py ?_;exact⟨_,Sh.trans (aA (k:=4) bf bA bz) (lS (t:=4) (d:=.pt (.st [_,.sc (.slice none 0 0),_])) (d':=.pt (.st [_,dM [],_])) aj rfl rfl fun X w v h=>ic h),.two (.cell 4 48) (.tmp 5) _ _ rfl (.cell 4 _ _ rfl rfl ai ai) (.tmp 5 rfl)⟩
theorem Tb(dim den d q x y e n2 d2 C:Int)(m f R B M A S R2:Mx.Mat)(hR:¬(R.length:Int)<dim)(CF:Fn Tryz.prog 104 [dL dim m den,dM f] (zI 0))(BS:Fn Tryz.prog 105 [dL dim m den] (.tp [dW R,.nm d]))(WD:Fn Tryz.prog 23 [dM f] (dW f))(DF:Fn Tryz.prog 43 [dW f] (.nm q))(hx:x≠0)(SF:Fn Tryz.prog 106 [.nm q] (zI x))(TR:Fn Tryz.prog 107 [dW R] (dW B))(TI:Fn Tryz.prog 22 [dW f,dW B,zI dim] (dW M))(AJ:Fn Tryz.prog 109 [dW M] (dW A))(SC:Fn Tryz.prog 108 [dW A,.nm d] (dW S))(DM:Fn Tryz.prog 43 [dW M] (.nm y))(SZ:Fn Tryz.prog 110 [.nm y] (.nm e))(MD:Fn Tryz.prog 92 [dW S,.nm e,zI dim] (.tp [dL n2 R2 d2,zI C])):Fn Tryz.prog 37 [dL dim m den,dM f] (.tp [dL n2 R2 d2,zI C]):=by
 refine ba Tryz.func37 ai rfl rfl rfl fun X0=>?_;simp only[aO];refine wH ?_;refine bp ?_;refine Jh ?_;refine zs2 ?_;refine Jg ?_;refine bp ?_;refine Qm ?_;refine bp ?_;((first|(apply aB 7;(focus kernel_rfl);(decide+kernel))|(apply aB 6;(focus kernel_rfl);(decide+kernel))|(apply aB 5;(focus kernel_rfl);(decide+kernel))|(apply aB 4;(focus kernel_rfl);(decide+kernel))|(apply aB 3;(focus kernel_rfl);(decide+kernel))|(apply aB 2;(focus kernel_rfl);(decide+kernel))|(apply aB 1;(focus kernel_rfl);(decide+kernel)));simp only[dJ,dv,eC,cY]);refine eV ?_;refine sd ?_;refine eV ?_;refine sd ?_;refine uY ?_;refine fR ?_;refine JU ?_;refine tI ?_;refine jg ?_;refine zs2 ?_;refine tM ?_;refine ij ?_;refine oz ?_;refine iH ?_;refine wO ?_;refine ij ?_;refine oz ?_;refine oz ?_;refine JS ?_;refine iH ?_;refine JQ ?_;refine pB ?_;refine pB ?_;refine oA ?_;refine wN ?_;refine mL ?_;refine zs2 ?_;refine⟨_,aA (k:=4) bf bA bz,.two (.cell 4 48) (.tmp 5) _ _ rfl (.cell 4 _ _ rfl rfl ai ai) (.tmp 5 rfl)⟩
end DW
end
section
open Go.RowKit
namespace DW
set_option maxRecDepth 20000
set_option maxHeartbeats 4000000
theorem Cq(dim:Int)(m:Mx.Mat)(den:Int)(f:Mx.Mat)(h:lck dim m den=0):kj dim m den f=fmc dim f:=by
 unfold kj fmc;rw[ah (fun h2=>h2 h)]
theorem FZ{X:Nat}{row:List Int}(h:∀x∈row,x.natAbs<=X)(j:Nat):(row.getD j 0).natAbs<=X:=by
 rw[aG]
 cases hg:row[j]? with
 |none=>exact aQ _
 |some x=>exact h x (bj hg)
end DW
end
section
open Go.RowKit
namespace DW
set_option maxRecDepth 20000
set_option maxHeartbeats 2000000
theorem Pn(m:Mx.Mat)(n:Nat)(hw:wid m=n)(hm:m.length<=1000000)(hn:n<=1000000)(hR:Mx.Rc n m):Fn Tryz.prog 38 [dM m] (dM (Mx.trM n m)):=by
 have CO:=wi m;rw[hw]at CO;have htl:=Mx.gL n m;refine ba Tryz.func38 ai rfl rfl rfl fun X0=>?_;simp only[aO];refine kd ?_;refine eQ ?_;refine ay (da (t:=3) (k:=30) (T:=40) (wd:=1) fq rfl rfl cu) ?_
 (refine ay (aq (sl':=[(0,dM m),(3,.own 30),(4,zI 0)]) (ow':=[(30,⟨40,1,[]⟩)]) az aD) ?_)
 refine bc (fun r s=>∃k,k<=n/\r=n-k/\s=⟨[(0,dM m),(3,.own 30),(4,zI (k:Nat))],[(30,⟨40,1,((Mx.trM n m).take k).map fun l=>dI l⟩)]⟩) (m:=n) ⟨0,aQ _,rfl,rfl⟩ fun r s hs=>?_;obtain⟨k,hk,rfl,rfl⟩:=hs;by_cases hkn:k<n
 ·have htg:=Mx.Be m hkn;have hsn:=bq htg;have hfl:((Mx.trM n m).take k).length<=1000000:=by rw[aP];omega
  obtain⟨F,hF⟩:∃F,F=(Mx.trM n m).take k:=⟨_,rfl⟩;obtain⟨C,hC⟩:∃C:List Int,C=m.map fun r=>r.getD k 0:=⟨_,rfl⟩;rw[<-hF,<-hC]at hsn;rw[<-hF]at hfl;rw[<-hF];have hCl:C.length=m.length:=by rw[hC,bC]
  clear hF htg htl;refine zs2 ?_;refine cO ?_;refine iq ?_;refine mJ ?_;refine aX ?_;refine bw ?_;refine eQ ?_;refine ay (da (t:=5) (k:=5) (T:=3) (wd:=1) fq rfl rfl cu) ?_
  (refine ay (aq (sl':=[(0,dM m),(3,.own 30),(4,zI (k:Nat)),(5,.own 5),(6,zI 0)]) (ow':=[(5,⟨3,1,[]⟩),(30,⟨40,1,F.map fun l=>dI l⟩)]) az aD) ?_)
  refine bc (fun r s=>∃i,i<=m.length/\r=m.length-i/\s=⟨[(0,dM m),(3,.own 30),(4,zI (k:Nat)),(5,.own 5),(6,zI (i:Nat))],[(5,⟨3,1,(C.take i).map zI⟩),(30,⟨40,1,F.map fun l=>dI l⟩)]⟩) (m:=m.length) ⟨0,aQ _,rfl,rfl⟩ fun r s hs=>?_;obtain⟨i,hi,rfl,rfl⟩:=hs;by_cases hil:i<m.length
  ·obtain⟨row,hrow⟩:=get_some hil;have hrl:=hR row (bj hrow);have hx:row[k]?=some (row.getD k 0):=uE aa;have hCg:C[i]?=some (row.getD k 0):=by rw[hC,bW,hrow];rfl
   have hks:=bq hCg;have hgl:(C.take i).length<=1000000:=by rw[aP];omega
   obtain⟨G,hG⟩:∃G,G=C.take i:=⟨_,rfl⟩;rw[<-hG]at hks hgl;rw[<-hG];clear hG hCg hC;refine dn ?_;refine Jl ?_;refine eU ?_;simp only[nx,inB];exact⟨m.length-(i+1),_,by omega,(aq (sl':=[(0,dM m),(3,.own 30),(4,zI (k:Nat)),(5,.own 5),(6,zI ((i+1:Nat):Int))]) (ow':=[(5,⟨3,1,G.map zI++[zI (row.getD k 0)]⟩),(30,⟨40,1,F.map fun l=>dI l⟩)]) az aD),i+1,by omega,rfl,by rw[hks,db];rfl⟩
  ·obtain rfl:i=m.length:=by omega
   rw[cj aa];clear hC;refine eR ?_;refine ay (aA (k:=5) bf bA bz) ?_;refine wB ?_;simp only[nx,inB];exact⟨n-(k+1),_,by omega,(aq (sl':=[(0,dM m),(3,.own 30),(4,zI ((k+1:Nat):Int))]) (ow':=[(30,⟨40,1,(F.map fun l=>dI l)++[dI C]⟩)]) az aD),k+1,by omega,rfl,by rw[hsn,db];rfl⟩
 ·obtain rfl:k=n:=by omega
  rw[cj aa];refine zs2 ?_;refine cO ?_;refine iq ?_;refine mJ ?_;refine aX ?_;refine bp ?_;refine ay (aA (k:=30) bf bA bz) ?_;refine kb ?_;exact⟨_,Sh.refl,.one (.tmp 2) _ rfl (.tmp 2 rfl)⟩
theorem Ki{n:Nat}(h:n<=4):2*(2400*11^n)<=3000000000:=by
 have:=cH (n:=11) aa h;have e:11^4=14641:=rfl;omega
structure Mk4(n:Nat)(M:Mx.Mat)(z:Int):Prop where
 n0:0<n
 n5:n<=4
 len:M.length<=64
 rc:Mx.Rc n M
 bd:Mx.Bd (2^2400) M
 z0:0<z
 zb:z.natAbs<=2^2400
theorem Mk4.red{n:Nat}{M:Mx.Mat}{z:Int}(h:Mk4 n M z):Mx.Bd (2^(2400*11^n)) (Mx.red n 0 (0,M)).2:=by
 have:=Mx.vM (n:=n) (e:=2400) aa n 0 0 M h.rc (by rw[sR,eX];exact h.bd);rw[bn]at this;exact this
theorem Mk4.rows{n:Nat}{M:Mx.Mat}{z:Int}(h:Mk4 n M z):∀l∈nR n M z,∀x∈l,x.natAbs<=2^(2400*11^n):=fun l hl x hx=>by
 obtain⟨r,hr,rfl⟩:=dw.1 hl;obtain⟨y,hy,rfl⟩:=dw.1 hx;have h1:=(Mx.fo h.rc h.z0).2.2.2.2.1;exact aH (we h1 ((Mx.nn (nH n M) z).2 r hr y hy)) (oY h.red (vQ hr) hy)
theorem Mk4.den{n:Nat}{M:Mx.Mat}{z:Int}(h:Mk4 n M z):(z/nG n M z).natAbs<=2^2400:=
 aH (we (Mx.fo h.rc h.z0).2.2.2.2.1 (Mx.nn (nH n M) z).1) h.zb
theorem Mk4.rlen{n:Nat}{M:Mx.Mat}{z:Int}(h:Mk4 n M z):(nR n M z).length<=64:=by
 have:=zV h.rc;have:=h.len;unfold nR;rw[cG];omega
theorem Mk4.rrc{n:Nat}{M:Mx.Mat}{z:Int}(h:Mk4 n M z):Mx.Rc n (nR n M z):=(Mx.fo h.rc h.z0).2.2.2.1
theorem Mk4.made{n:Nat}{M:Mx.Mat}{z:Int}(h:Mk4 n M z):Fn Tryz.prog 92 [dW M,.nm z,zI n] (hnd n (nR n M z) (z/nG n M z)):=by
 have h5:=Ki h.n5;have hn:=h.n5;have hm:=h.len;have hz:=h.z0;have hl:=h.rlen;have hr:=h.rrc;have BS:=IA M n 2400 n z h.rc aa aa aa (.inr (af _)) h5 h.bd (bZ h.zb aa) aa
  (fun l hl x hx=>bZ (oY h.red (vQ hl) hx) aa) (fun l hl x hx=>bZ (oY h.red hl hx) aa)
 exact S7 n M (nR n M z) z (z/nG n M z) BS aa (fun l hl=>by have:=hr l hl;omega) (fun l hl x hx=>tw (h.rows l hl x hx) aa) (tw h.den aa)
theorem Mk4.net{n:Nat}{M:Mx.Mat}{z:Int}(h:Mk4 n M z):Fn Tryz.prog 103 [zI n,dW M,.nm z] (nu n (nR n M z) (z/nG n M z)):=by
 have h5:=Ki h.n5;have hn:=h.n5;have hm:=h.len;exact Hy n M n 2400 z aa h.n0 aa aa aa h.rc h.bd (bL h.zb aa)
theorem Mk4.hand{n:Nat}{M:Mx.Mat}{z:Int}(h:Mk4 n M z):Fn Tryz.prog 88 [nu n (nR n M z) (z/nG n M z)] (hnd n (nR n M z) (z/nG n M z)):=by
 have h5:=Ki h.n5;have hn:=h.n5;have hl:=h.rlen;have hz:=(Mx.fo h.rc h.z0).2.2.2.2.2;exact FW n (nR n M z) n (z/nG n M z) aa h.n0 aa h.rrc (fun i j=>bL (xH h.rows i j) aa) (bL h.den aa) aa
structure gH(n:Nat)(m f:Mx.Mat)(den:Int):Prop where
 lc:lck n m den=0
 n4:n<=4
 fc:chk f=0
 fl:f.length=n
 fw:wid f=n
 full:(nR n m den).length=n
def duM(n:Nat)(m f:Mx.Mat)(den:Int):Mx.Mat:=tim f (Mx.trM n (nR n m den)) n
def duS(n:Nat)(m f:Mx.Mat)(den:Int):Mx.Mat:=mapM (fun x=>x*(den/nG n m den)) (Mx.adM (duM n m f den))
def duE(n:Nat)(m f:Mx.Mat)(den:Int):Int:=((Mx.D n (Mx.at' (duM n m f den))).natAbs:Int)
section
variable {n : Nat} {m f : Mx.Mat} {den : Int} (h : gH n m f den)
include h
theorem gH.n0:0<n:=by have:=(gZ h.lc).1;omega
theorem gH.frc:Mx.Rc n f:=by have:=(wq h.fc).2.2.1;rwa[h.fw]at this
theorem gH.norm:Mx.Rc n (nR n m den)/\0<den/nG n m den/\nH n (nR n m den)=nR n m den/\nG n (nR n m den) (den/nG n m den)=1:=by
 have hd:=(gZ h.lc).1;have hnn:=Mx.fo (jn h.lc) (show 0<den by omega);exact⟨hnn.2.2.2.1,hnn.2.2.2.2.2,hnn.1,hnn.2.1⟩
theorem gH.trc:Mx.Rc n (Mx.trM n (nR n m den)):=by
 have:=Mx.LJ n (nR n m den);rwa[h.full]at this
theorem gH.tbd:Mx.Bd (2^520) (Mx.trM n (nR n m den)):=fun i j=>by
 by_cases hi:i<n
 ·by_cases hj:j<n
  ·rw[Mx.pW _ hi (by rw[h.full];exact hj)];exact xH (Tj h.lc (by have:=h.n4;omega)) j i
  ·rw[Mx.uU h.trc aa];exact aQ _
 ·rw[Mx.tC (by rw[Mx.gL];omega)];exact aQ _
theorem gH.dot{row:List Int}(hr:row∈f)(k j:Nat):(jZ row (Mx.trM n (nR n m den)) k j).natAbs<=2^573:=by
 have hl:=h.frc row hr;have hb:=Iw (row:=row) (B:=Mx.trM n (nR n m den)) (k:=k) (X:=2^570) (L:=5) (by have:=h.n4;omega) (fun j=>Ew (a:=50) (b:=520) (c:=570) (by
  obtain⟨i,hi,rfl⟩:=kZ hr;have:=mC h.fc i j;unfold Mx.at' Mx.rw at this;rw[show List.getD f i []=f[i] by rw[aG,aV hi];rfl]at this;exact this) (h.tbd j k) av) j
 refine aH hb ?_;exact pmul (a:=3) (b:=570) (c:=573) (aH (Nat.min_le_right j 5) (show 5<=2^3 by decide)) (af _) av
theorem gH.len:(duM n m f den).length=n:=by unfold duM;rw[Mx.xh,h.fl]
theorem gH.rc:Mx.Rc n (duM n m f den):=by
 have:=h.n0;exact Mx.UK _ _ _
theorem gH.bd:Mx.Bd (2^573) (duM n m f den):=xH fun l hl x hx=>by
 obtain⟨row,hr,rfl⟩:=dw.1 hl;obtain⟨k,_,rfl⟩:=dw.1 hx;exact h.dot hr k _
theorem gH.det:(Mx.D n (Mx.at' (duM n m f den))).natAbs<=2^2400:=by
 have:=qP (e:=573) n (Mx.at' (duM n m f den)) fun i j _ _=>h.bd i j;refine aH this (pw ((573+n)*n) 2400 ?_);have h4:=h.n4;exact aH (cv (show 573+n<=577 by omega) h4) av
theorem gH.abd:∀l∈Mx.adM (duM n m f den),∀x∈l,x.natAbs<=2^2304:=fun l hl x hx=>by
 have hn0:=h.n0;obtain⟨k,rfl⟩:∃k,n=k+1:=⟨n-1,by omega⟩;obtain⟨i,hi,rfl⟩:=dw.1 hl;obtain⟨j,hj,rfl⟩:=dw.1 hx;rw[GB h.len i j];have hq:=qP (e:=573) k (Mx.at' (mnr (duM (k+1) m f den) j i)) fun a b _ _=>tj h.bd a b;have h4:=h.n4;have hq2:(Mx.D k (Mx.at' (mnr (duM (k+1) m f den) j i))).natAbs<=2^2304:=aH hq (pw ((573+k)*k) 2304 (aH (cv (show 573+k<=576 by omega) (show k<=4 by omega)) av));split
 ·rw[vA];exact hq2
 ·exact hq2
theorem gH.sbd:Mx.Bd (2^2400) (duS n m f den):=xH fun l hl x hx=>by
 obtain⟨r,hr,rfl⟩:=dw.1 hl;obtain⟨y,hy,rfl⟩:=dw.1 hx;exact Ew (a:=2304) (b:=50) (c:=2400) (h.abd r hr y hy) (Aq h.lc) av
theorem gH.mk4(hD:Mx.D n (Mx.at' (duM n m f den))≠0):Mk4 n (duS n m f den) (duE n m f den):=by
 have hl:(duS n m f den).length=n:=by unfold duS;rw[cG,Mx.mE,h.len]
 have h4:=h.n4;refine⟨h.n0,h4,by omega,?_,h.sbd,?_,?_⟩
 ·have:=Mx.AB (duM n m f den);rw[h.len]at this;exact nU this
 ·unfold duE;omega
 ·unfold duE;rw[gU];exact h.det
end
end DW
end
section
namespace Mx
theorem EU{n:Nat}{M:Mat}(h:Rc n M):(red n 0 (0,M)).1<=n:=by
 obtain⟨pv,he⟩:=jk n 0 (0,M) id h (gK M);rw[bn]at he;generalize(red n 0 (0,M)).1=r at*;have:∀i,i<r->i<=pv i:=fun i=>by
  induction i with
  |zero=>intro _;omega
  |succ i ih=>
   intro hi;have h1:=ih aa;have h2:=he.mono i (i+1) aa hi;omega
 by_cases h0:r=0
 ·omega
 ·have h1:=this (r-1) aa;have h2:=he.lt (r-1) aa;omega
theorem nR_le{n:Nat}{M:Mat}(h:Rc n M)(d:Int):(nR n M d).length<=n:=by
 unfold nR nH;rw[cG,aP];have:=EU h;omega
theorem PA{n:Nat}{R:Mat}(hR:Rc n R)(hl:R.length=n)(hN:nH n R=R):D n (at' R)≠0:=by
 obtain⟨pv,he⟩:=jk n 0 (0,R) id hR (gK R);rw[bn]at he;have hlen:=(fG n 0 (0,R) hR).len;have hr:(red n 0 (0,R)).1=n:=by
  have h1:=ke List.length hN;unfold nH at h1;rw[aP]at h1;have:=he.le;omega
 have hX:(red n 0 (0,R)).2=R:=by
  have h2:(red n 0 (0,R)).2.take (red n 0 (0,R)).1=R:=hN;rw[hr,cj (by rw[hlen];show R.length<=n;omega)]at h2;exact h2
 rw[hr,hX]at he;have lo:∀i,i<n->i<=pv i:=fun i=>by
  induction i with
  |zero=>intro _;omega
  |succ i ih=>
   intro hi;have h1:=ih aa;have h2:=he.mono i (i+1) aa hi;omega
 have up:∀d i,i+d+1=n->pv i<=i:=fun d=>by
  induction d with
  |zero=>intro i hi;have:=he.lt i aa;omega
  |succ d ih=>
   intro i hi;have h1:=ih (i+1) aa;have h2:=he.mono i (i+1) aa aa;omega
 have pvi:∀i,i<n->pv i=i:=fun i hi=>by
  have h1:=lo i hi;have h2:=up (n-1-i) i aa;omega
 have h:=Ds n (at' R) (fun i j hj hi=>he.zl i hi j (by rw[pvi i hi];exact hj)) fun i hi=>by
  have:=he.pos i hi;rw[pvi i hi]at this;omega
 omega
theorem O0{n:Nat}(hn:0<n){F R M:Nat->Nat->Int}(hF:D n F≠0)(hR:D n R≠0)(h:∀i j,i<n->j<n->M i j=sm n fun k=>F i k*R j k):D n M≠0:=by
 obtain⟨k,rfl⟩:∃k,n=k+1:=⟨n-1,by omega⟩;have hT:D (k+1) (fun a b=>R b a)≠0:=by rw[<-px];exact hR
 obtain⟨RT,hRT⟩:∃RT:Nat->Nat->Int,RT=fun a b=>R b a:=⟨_,rfl⟩;rw[<-hRT]at hT;have hM:∀i j,i<k+1->j<k+1->M i j=mm (k+1) F RT i j:=fun i j hi hj=>by rw[h i j hi hj,hRT];rfl
 have key:∀i j,i<k+1->j<k+1->mm (k+1) (mm (k+1) (ad k RT) (ad k F)) M i j=D (k+1) F*D (k+1) RT*idm i j:=fun i j hi hj=>by
  rw[gf,fZ (A':=ad k RT) (B':=fun a b=>D (k+1) F*RT a b) (fun _ _=>rfl) (fun l hl=>by
   rw[fZ (A':=ad k F) (B':=mm (k+1) F RT) (fun _ _=>rfl) (fun q hq=>hM q j hq hj),<-gf];exact Cl _ _ _ hl fun q hq=>Ld F hl hq),oU,Ld RT hi hj,cA]
 have hne:D (k+1) F*D (k+1) RT≠0:=vg hF hT;obtain⟨ε,h1⟩:∃ε:Int,1<=ε*(D (k+1) F*D (k+1) RT):=by
  by_cases h:0<D (k+1) F*D (k+1) RT
  ·exact⟨1,by omega⟩
  ·exact⟨-1,by omega⟩
 obtain⟨c,hc⟩:=Lm (n:=k+1) (fun a b=>ε*mm (k+1) (ad k RT) (ad k F) a b) M;intro h0;rw[h0,bQ]at hc;exact AP h1 _ (fun i j hi hj=>by rw[mr,key i j hi hj,<-cA]) hc
end Mx
end
end Go.Proofs.YtcgjmdpcplhanaaGreat
