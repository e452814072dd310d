/- Lemmas for the law: E16 E38 E37 E43 Q21 Q22 Q23 Q24 Q25 W20 Q26 Q27 E28 M11 E36 DO DT E61 -/
import Derived.Test.YtcgjmdpcplhanaaGreatZd16
namespace Go.Proofs.YtcgjmdpcplhanaaGreat
section
theorem zs264{p q:Prop}(h:q)(f:Wq q->p:=by(intro hW;(refine gar ?_;refine mJ ?_;refine aX ?_);exact hW.out)):p:=f ⟨h⟩
theorem mF{p q:Prop}(h:q)(f:Wq q->p:=by(intro hW;(refine zs2 ?_;refine zs264 ?_);exact hW.out)):p:=f ⟨h⟩
theorem Rg{p q:Prop}(h:q)(f:Wq q->p:=by(intro hW;(refine aL1 rfl rfl rfl (by(apply(Gu (z:=(.agg #[.bool false,.slice none 0 0])) (d:=(.nm 0)));(exact rfl);(kernel_rfl);(exact rfl);(exact rfl);(exact rfl))) ?_);exact hW.out)):p:=f ⟨h⟩
theorem JK{p q:Prop}(h:q)(f:Wq q->p:=by(intro hW;(refine aL1 rfl rfl rfl (by(apply Nz;(exact rfl);(exact ct))) ?_);exact hW.out)):p:=f ⟨h⟩
theorem Jm{p q:Prop}(h:q)(f:Wq q->p:=by(intro hW;(refine jv ?_;refine JK ?_;refine aX ?_);exact hW.out)):p:=f ⟨h⟩
theorem Jo{p q:Prop}(h:q)(f:Wq q->p:=by(intro hW;(refine cn ?_;refine ir ?_;refine ph ?_;refine AX ?_;refine cK ?_);exact hW.out)):p:=f ⟨h⟩
theorem tO{p:Prop}(h:p:=by unfold I64;omega):p:=h
theorem tJ{p q:Prop}(h:q)(f:Wq q->p:=by(intro hW;(refine gar ?_;refine Dv ?_;refine zs4 ?_;refine aX ?_);exact hW.out)):p:=f ⟨h⟩
theorem wB{p q:Prop}(h:q)(f:Wq q->p:=by(intro hW;(refine yW ?_;refine zs2 ?_;refine gy ?_);exact hW.out)):p:=f ⟨h⟩
theorem zb78{p:Prop}(h:p:=by rw[D.out.2.2.2];exact tW _ _):p:=h
theorem zb55{p:Prop}(h:p:=by rw[<-HQ.out];exact iT D.out.2.2.1 H1.out.nf.dg zb78):p:=h
end
section
open Go.RowKit
namespace DW
def jZ(row:List Int)(B:Mx.Mat)(k:Nat):Nat->Int
 |0=>0
 |j+1=>jZ row B k j+row.getD j 0*Mx.at' B j k
def lV(B:Mx.Mat)(cols:Nat)(row:List Int):List Int:=(List.range cols).map fun k=>jZ row B k B.length
def tim(A B:Mx.Mat)(cols:Nat):Mx.Mat:=A.map (lV B cols)
structure TimOk(A B:Mx.Mat)(cols:Nat):Prop where
 len:∀row∈A,B.length<=row.length
 rc:∀j,j<B.length->cols<=(Mx.rw B j).length
 hr:∀row∈A,∀j,Hf (row.getD j 0)
 hb:∀j k,Hf (Mx.at' B j k)
 hp:∀row∈A,∀j k,Hf (row.getD j 0*Mx.at' B j k)
 hs:∀row∈A,∀k j,Hf (jZ row B k j)
theorem Oi{B:Mx.Mat}{cols k:Nat}{row:List Int}(h:k<cols):(lV B cols row)[k]?=some (jZ row B k B.length):=by
 unfold lV;rw[bW,ji h];rfl
theorem Oh(B:Mx.Mat)(cols:Nat)(row:List Int):(lV B cols row).length=cols:=by unfold lV;simp
theorem uE{l:List Int}{j:Nat}(h:j<l.length):l[j]?=some (l.getD j 0):=by rw[aG,aV h];rfl
theorem rwg{M:Mx.Mat}{i:Nat}(h:i<M.length):M[i]?=some (Mx.rw M i):=by
 unfold Mx.rw;rw[aG,aV h];rfl
theorem Sy{A B:Mx.Mat}{cols i:Nat}{row:List Int}(h:A[i]?=some row):(tim A B cols)[i]?=some (lV B cols row):=by
 unfold tim;rw[bW,h];rfl
set_option maxRecDepth 20000
set_option maxHeartbeats 1000000
theorem Sx(A B:Mx.Mat)(cols:Nat)(hA:A.length<=1000000)(hB:B.length<=1000000)(hc:cols<=1000000)(H:TimOk A B cols):Fn Tryz.prog 22 [dW A,dW B,zI cols] (dW (tim A B cols)):=by
 refine ba Tryz.func22 ai rfl rfl rfl fun X0=>?_;simp only[aO];refine kd ?_;refine eQ ?_;refine ay (da (t:=7) (k:=7) (T:=113) (wd:=1) fq rfl rfl cu) ?_
 (refine ay (aq (sl':=[(0,dW A),(1,dW B),(2,zI cols),(7,.own 7),(8,zI 0)]) (ow':=[(7,⟨113,1,[]⟩)]) az aD) ?_)
 refine bc (fun r s=>∃i,i<=A.length/\r=A.length-i/\s=⟨[(0,dW A),(1,dW B),(2,zI cols),(7,.own 7),(8,zI (i:Nat))],[(7,⟨113,1,((tim A B cols).take i).map dZ⟩)]⟩) (m:=A.length) ⟨0,aQ _,rfl,rfl⟩ fun r s hs=>?_;obtain⟨i,hi,rfl,rfl⟩:=hs;have htl:(tim A B cols).length=A.length:=by unfold tim;simp
 by_cases hil:i<A.length
 ·obtain⟨row,hrow⟩:=get_some hil;have hmem:=bj hrow;have hlen:=H.len row hmem;have hti:=Sy (B:=B) (cols:=cols) hrow;have hsn:=bq hti;have hfl:((tim A B cols).take i).length<=1000000:=by rw[aP];omega
  obtain⟨F,hF⟩:∃F,F=(tim A B cols).take i:=⟨_,rfl⟩;rw[<-hF]at hsn hfl;rw[<-hF];clear hF hti htl;have hRl:=Oh B cols row;refine dn ?_;refine eQ ?_;refine ay (da (t:=9) (k:=9) (T:=62) (wd:=2) fq rfl rfl cu) ?_
  (refine ay (aq (sl':=[(0,dW A),(1,dW B),(2,zI cols),(7,.own 7),(8,zI (i:Nat)),(9,.own 9),(10,zI 0)]) (ow':=[(9,⟨62,2,[]⟩),(7,⟨113,1,F.map dZ⟩)]) az aD) ?_)
  refine bc (fun r s=>∃k,k<=cols/\r=cols-k/\s=⟨[(0,dW A),(1,dW B),(2,zI cols),(7,.own 7),(8,zI (i:Nat)),(9,.own 9),(10,zI (k:Nat))],[(9,⟨62,2,((lV B cols row).take k).map .nm⟩),(7,⟨113,1,F.map dZ⟩)]⟩) (m:=cols) ⟨0,aQ _,rfl,rfl⟩ fun r s hs=>?_;obtain⟨k,hk,rfl,rfl⟩:=hs;by_cases hkc:k<cols
  ·have hkg:=Oi (B:=B) (row:=row) hkc;have hks:=bq hkg;have hgl:((lV B cols row).take k).length<=1000000:=by rw[aP];omega
   obtain⟨G,hG⟩:∃G,G=(lV B cols row).take k:=⟨_,rfl⟩;rw[<-hG]at hks hgl;rw[<-hG];clear hG hkg;refine zs2 ?_;refine ox ?_;refine bw ?_;refine gar ?_;refine Rg ?_;(refine ez (k:=11) (z:=(.agg #[.bool false,.slice none 0 0])) (d:=(.nm 0)) rfl rfl rfl rfl rfl ai aj aj dT aj aj cu ?_);refine gw ?_;refine iZ ?_
   (refine ay (aq (sl':=[(0,dW A),(1,dW B),(2,zI cols),(7,.own 7),(8,zI (i:Nat)),(9,.own 9),(10,zI (k:Nat)),(11,.opt 11 0),(12,zI 0)]) (ow':=[(11,⟨62,2,[.nm 0]⟩),(9,⟨62,2,G.map .nm⟩),(7,⟨113,1,F.map dZ⟩)]) az aD) ?_)
   refine bc (fun r s=>∃j,j<=B.length/\r=B.length-j/\s=⟨[(0,dW A),(1,dW B),(2,zI cols),(7,.own 7),(8,zI (i:Nat)),(9,.own 9),(10,zI (k:Nat)),(11,.opt 11 0),(12,zI (j:Nat))],[(11,⟨62,2,[.nm (jZ row B k j)]⟩),(9,⟨62,2,G.map .nm⟩),(7,⟨113,1,F.map dZ⟩)]⟩) (m:=B.length) ⟨0,aQ _,rfl,rfl⟩ fun r s hs=>?_;obtain⟨j,hj,rfl,rfl⟩:=hs;by_cases hjl:j<B.length
   ·have hx:=uE (l:=row) (j:=j) aa;have hbj:=rwg hjl;have hy:(Mx.rw B j)[k]?=some (Mx.at' B j k):=uE (l:=Mx.rw B j) (j:=k) (by have:=H.rc j hjl;omega);have MU:=Dk (row.getD j 0) (Mx.at' B j k) (H.hr row hmem j) (H.hb j k);have AD:=Lc (jZ row B k j) (row.getD j 0*Mx.at' B j k) (H.hs row hmem k j) (H.hp row hmem j k);refine dn ?_;((first|(apply aB 17;(focus kernel_rfl);(decide+kernel))|(apply aB 16;(focus kernel_rfl);(decide+kernel))|(apply aB 15;(focus kernel_rfl);(decide+kernel))|(apply aB 14;(focus kernel_rfl);(decide+kernel))|(apply aB 13;(focus kernel_rfl);(decide+kernel))|(apply aB 12;(focus kernel_rfl);(decide+kernel))|(apply aB 11;(focus kernel_rfl);(decide+kernel))|(apply aB 10;(focus kernel_rfl);(decide+kernel)));simp only[dJ,dv,eC,cY]);refine fR ?_;refine jy ?_;refine tH ?_;refine jy ?_;refine tH ?_;refine tG ?_;refine wE ?_;refine eU ?_;simp only[nx,inB];exact⟨B.length-(j+1),_,by omega,(aq (sl':=[(0,dW A),(1,dW B),(2,zI cols),(7,.own 7),(8,zI (i:Nat)),(9,.own 9),(10,zI (k:Nat)),(11,.opt 11 0),(12,zI ((j+1:Nat):Int))]) (ow':=[(11,⟨62,2,[.nm (jZ row B k j+row.getD j 0*Mx.at' B j k)]⟩),(9,⟨62,2,G.map .nm⟩),(7,⟨113,1,F.map dZ⟩)]) az aD),j+1,by omega,rfl,rfl⟩
   ·obtain rfl:j=B.length:=by omega
    refine eR ?_;refine Jo ?_;refine eU ?_;simp only[nx,inB];exact⟨cols-(k+1),_,by omega,(aq (sl':=[(0,dW A),(1,dW B),(2,zI cols),(7,.own 7),(8,zI (i:Nat)),(9,.own 9),(10,zI ((k+1:Nat):Int))]) (ow':=[(9,⟨62,2,G.map .nm++[.nm (jZ row B k B.length)]⟩),(7,⟨113,1,F.map dZ⟩)]) az aD),k+1,by omega,rfl,by rw[hks,db];rfl⟩
  ·obtain rfl:k=cols:=by omega
   rw[cj aa];refine zs2 ?_;refine ox ?_;refine bp ?_;refine ay (aA (k:=9) bf bA bz) ?_;refine wB ?_;simp only[nx,inB];exact⟨A.length-(i+1),_,by omega,(aq (sl':=[(0,dW A),(1,dW B),(2,zI k),(7,.own 7),(8,zI ((i+1:Nat):Int))]) (ow':=[(7,⟨113,1,F.map dZ++[dZ (lV B k row)]⟩)]) az aD),i+1,by omega,rfl,by rw[hsn,db];rfl⟩
 ·obtain rfl:i=A.length:=by omega
  rw[cj aa];refine eR ?_;refine ay (aA (k:=7) bf bA bz) ?_;refine kb ?_;exact⟨_,Sh.refl,.one (.tmp 6) _ rfl (.tmp 6 rfl)⟩
end DW
end
section
open Go.RowKit
namespace DW
set_option maxRecDepth 20000
set_option maxHeartbeats 2000000
theorem OH(M:Mx.Mat)(z:Int)(hM:M.length<=1000000)(hl:∀l∈M,l.length<=1000000)(hz:Hf z)(hx:∀l∈M,∀x∈l,Hf x):Fn Tryz.prog 108 [dW M,.nm z] (dW (mapM (fun x=>x*z) M)):=by
 refine ba Tryz.func108 ai rfl rfl rfl fun X0=>?_;simp only[aO];refine zs2 ?_;refine JI ?_;refine zs2 ?_;refine eQ ?_;refine ay (da (t:=5) (k:=5) (T:=113) (wd:=1) fq rfl rfl cu) ?_
 (refine ay (aq (sl':=[(0,dW M),(3,.pt (.nm z)),(5,.own 5),(6,zI 0)]) (ow':=[(5,⟨113,1,[]⟩)]) az aD) ?_)
 refine bc (fun r s=>∃i,i<=M.length/\r=M.length-i/\s=⟨[(0,dW M),(3,.pt (.nm z)),(5,.own 5),(6,zI (i:Nat))],[(5,⟨113,1,((mapM (fun x=>x*z) M).take i).map dZ⟩)]⟩) (m:=M.length) ⟨0,aQ _,rfl,rfl⟩ fun r s hs=>?_;obtain⟨i,hi,rfl,rfl⟩:=hs;have htl:(mapM (fun x=>x*z) M).length=M.length:=cG _ _;by_cases hil:i<M.length
 ·obtain⟨row,hrow⟩:=get_some hil;have hmem:=bj hrow;have hlr:=hl row hmem;have hti:(mapM (fun x=>x*z) M)[i]?=some (row.map fun x=>x*z):=by unfold mapM;rw[bW,hrow];rfl
  have hsn:=bq hti;have hfl:((mapM (fun x=>x*z) M).take i).length<=1000000:=by rw[aP];omega
  obtain⟨F,hF⟩:∃F,F=(mapM (fun x=>x*z) M).take i:=⟨_,rfl⟩;obtain⟨R,hR⟩:∃R,R=row.map fun x=>x*z:=⟨_,rfl⟩;rw[<-hF,<-hR]at hsn;rw[<-hF]at hfl;rw[<-hF];have hRl:R.length=row.length:=by rw[hR,bC]
  clear hF hti htl;refine dn ?_;refine eQ ?_;refine ay (da (t:=7) (k:=7) (T:=62) (wd:=2) fq rfl rfl cu) ?_
  (refine ay (aq (sl':=[(0,dW M),(3,.pt (.nm z)),(5,.own 5),(6,zI (i:Nat)),(7,.own 7),(8,zI 0)]) (ow':=[(7,⟨62,2,[]⟩),(5,⟨113,1,F.map dZ⟩)]) az aD) ?_)
  refine bc (fun r s=>∃k,k<=row.length/\r=row.length-k/\s=⟨[(0,dW M),(3,.pt (.nm z)),(5,.own 5),(6,zI (i:Nat)),(7,.own 7),(8,zI (k:Nat))],[(7,⟨62,2,(R.take k).map .nm⟩),(5,⟨113,1,F.map dZ⟩)]⟩) (m:=row.length) ⟨0,aQ _,rfl,rfl⟩ fun r s hs=>?_;obtain⟨k,hk,rfl,rfl⟩:=hs;by_cases hkc:k<row.length
  ·obtain⟨x,hx1⟩:=get_some hkc;have hkg:R[k]?=some (x*z):=by rw[hR,bW,hx1];rfl
   have hks:=bq hkg;have hgl:(R.take k).length<=1000000:=by rw[aP];omega
   obtain⟨G,hG⟩:∃G,G=R.take k:=⟨_,rfl⟩;rw[<-hG]at hks hgl;rw[<-hG];clear hG hkg hR;have ML:=Dk x z (hx row hmem x (bj hx1)) hz;refine ot ?_;refine Qw ?_;refine eU ?_;simp only[nx,inB];exact⟨row.length-(k+1),_,by omega,(aq (sl':=[(0,dW M),(3,.pt (.nm z)),(5,.own 5),(6,zI (i:Nat)),(7,.own 7),(8,zI ((k+1:Nat):Int))]) (ow':=[(7,⟨62,2,G.map .nm++[.nm (x*z)]⟩),(5,⟨113,1,F.map dZ⟩)]) az aD),k+1,by omega,rfl,by rw[hks,db];rfl⟩
  ·obtain rfl:k=row.length:=by omega
   rw[cj aa];clear hR;refine zs2 ?_;refine qT ?_;refine bp ?_;refine ay (aA (k:=7) bf bA bz) ?_;refine wB ?_;simp only[nx,inB];exact⟨M.length-(i+1),_,by omega,(aq (sl':=[(0,dW M),(3,.pt (.nm z)),(5,.own 5),(6,zI ((i+1:Nat):Int))]) (ow':=[(5,⟨113,1,F.map dZ++[dZ R]⟩)]) az aD),i+1,by omega,rfl,by rw[hsn,db];rfl⟩
 ·obtain rfl:i=M.length:=by omega
  rw[cj aa];refine eR ?_;refine ay (aA (k:=5) bf bA bz) ?_;refine kb ?_;exact⟨_,Sh.refl,.one (.tmp 4) _ rfl (.tmp 4 rfl)⟩
end DW
end
section
open Go.RowKit
namespace DW
theorem yx{X:Nat->Prop}{w w':World}{n:Nat}{M:Mx.Mat}{e:Ending}(hX:∀b,X b->b<w.heap.size)(h:oL w n M e w'):∃u,e= .returned u/\AR X w' (dW M) u/\Below w.heap.size w w':=by
 obtain⟨⟨gm,gs,cs,cap,h5,h6,h7⟩,h9⟩:=h;exact⟨_,h5,Ft h7 h6 hX,h9⟩
theorem wby_d(M:Mx.Mat)(n:Nat)(k:Int)(hm:M.length<=1000000)(hn0:0<n)(hn:n<=1000000)(hR:Mx.Rc n M)(fk:Fit k)(hf:∀i j,Fit (Mx.at' M i j)):Fn Tryz.prog 100 [dW M,.nm k] (dW (mapM (fun z=>k*z) M)):=by
 refine⟨enters_of Tryz.func100 ai rfl,fun X w vs hX hv=>?_⟩;simp only[ATp]at hv;obtain⟨v1,r1,e1,h1,v2,r2,e2,h2,rfl⟩:=hv;simp only[AR]at h2;obtain⟨K,rfl,hK⟩:=h2;subst e2;have:vs= #[v1,.agg #[.bool K.s,.slice K.a K.n K.cap]]:=cQ.1 e1;subst this;exact(Tr M n v1 K k hm hn fk hf w (qK h1 hR hn0) hK).mono fun e w' h=>yx (fun b hb=>(hX b hb).1) h
theorem N8(M N:Mx.Mat)(p n e f:Nat)(hm:M.length<=1000000)(hp:p<=1000000)(hn:n<=1000000)(hn0:0<n)(hp0:0<p)(hl:N.length=p)(he:e+f+20<=6000000000000)(hRM:Mx.Rc p M)(hRN:Mx.Rc n N)(hM:Mx.Bd (2^e) M)(hN:Mx.Bd (2^f) N):Fn Tryz.prog 97 [dW M,dW N] (dW (mulM n M N)):=by
 refine⟨enters_of Tryz.func97 ai rfl,fun X w vs hX hv=>?_⟩;simp only[ATp]at hv;obtain⟨v1,r1,e1,h1,v2,r2,e2,h2,rfl⟩:=hv;subst e2;have:vs= #[v1,v2]:=cQ.1 e1;subst this;exact(Ke M N p n e f v1 v2 hm hp hn hn0 hp0 hl he hM hN w (qK h1 hRM hp0) (qK h2 hRN hn0)).mono fun e w' h=>yx (fun b hb=>(hX b hb).1) h
end DW
end
section
open Go.RowKit
namespace DW
section
variable {P : Program} {s : S} {o : Oper}
end
set_option maxRecDepth 20000
set_option maxHeartbeats 1000000
theorem Ho(z:Int):Fn Tryz.prog 95 [.nm z] (.sc (.bool (decide (z=0)))):=by
 refine⟨enters_of Tryz.func95 ai rfl,fun X w vs hX hv=>?_⟩;simp only[ATp,AR]at hv;obtain⟨v1,r1,e1,⟨x,rfl,hx⟩,rfl⟩:=hv;have:vs= #[.agg #[.bool x.s,.slice x.a x.n x.cap]]:=cQ.1 e1;subst this;exact(fT x z w hx).mono fun e w' ⟨h1,h2⟩=>⟨_,h1,by simp only[AR];exact⟨trivial,rfl⟩,h2⟩
end DW
end
section
open Go.RowKit
namespace CI
variable {P : Program} {h h' : H} {tm tm' : Tm} {rec : Rec} {n : Nat} {r : List RO} {S : Nat->SD} {ops : Array Oper}
theorem Trace.mono(t:Trace rec r tm h tm' h' S)(hg:fj rec)(f:Wf h){i j:Nat}(hij:i<=j)(hj:j<=r.length):(S i).h.next<=(S j).h.next:=by
 have:=(t.gdm hg f (j-i) i aa).good.next
 rwa[show i+(j-i)=j by omega]at this
theorem Trace.low(t:Trace rec r tm h tm' h' S)(hg:fj rec)(f:Wf h){i j:Nat}(hij:i<=j)(hj:j<=r.length):(S j).h.low<=(S i).h.low:=by
 have:=(t.gdm hg f (j-i) i aa).good.low;rwa[show i+(j-i)=j by omega]at this
theorem vD{g h1:H}{k:Nat}(e:T.get h1.t k=T.get g.t k):(g.whole h1).get k=g.get k:=by
 unfold H.get;show(match ep k g.forb with|true=>none|false=>T.get h1.t k)=_;rw[e];rfl
theorem yO{g g':H}{ob:Option B}(e:g.nB ob=some g'){k:Nat}(hk:k<g.next):g'.get k=g.get k:=by
 cases ob with
 |none=>simp only[H.nB,an]at e;rw[e]
 |some b=>
  obtain⟨_,_,h3,_,h5⟩:=dF e;exact Aj h3 (by rw[h5,ah aa])
theorem Trace.RK(t:Trace rec r tm h tm' h' S)(hg:fj rec)(f:Wf h){i k:Nat}(hi:i<r.length)(hw:(S (i+1)).wr=false)(hk:k<(S i).h.next):(S (i+1)).h.get k=(S i).h.get k:=by
 obtain⟨o,ho⟩:∃o,r[i]?=some o:=⟨_,aV hi⟩;have f1:=(t.gd hg f i aa).1;rcases(t.cases ho).2 with⟨_,_,e,_⟩|⟨_,_,_,_,_,ob,_,e,_⟩|⟨_,_,_,h1,e1,e2,e3,_⟩
 ·rw[e]
 ·exact yO e hk
 ·rw[e2];refine vD ((ri hg (nN f1) e1).good.keep k hk ?_);rw[e3]at hw;refine aS hk (dQ fun hlt=>?_);rw[<-bs]at hlt;rw[hlt]at hw;cases hw
theorem Trace.keepO(t:Trace rec r tm h tm' h' S)(hg:fj rec)(f:Wf h){i k q:Nat}{ro:RO}(hi:r[i]?=some ro)(hq:q<i)(hp:ro.pre.testBit q=false)(h1:(S q).h.next<=k)(h2:k<(S (q+1)).h.next):(S (i+1)).h.get k=(S i).h.get k:=by
 have hlt:=(cB.1 hi).1;have hk:k<(S i).h.next:=aS h2 (t.mono hg f hq aa)
 have f1:=(t.gd hg f i aa).1;rcases(t.cases hi).2 with⟨_,_,e,_⟩|⟨_,_,_,_,_,ob,_,e,_⟩|⟨_,_,_,g1,e1,e2,e3,_⟩
 ·rw[e]
 ·exact yO e hk
 ·rw[e2];refine vD ((ri hg (nN f1) e1).good.dead k hk fun hl=>?_);have:=lQ hl;rw[show((S i).h.part ro.pre (S i).iv).forb=ku ro.pre (S i).iv (S i).h.forb from rfl,wb ((t.iv i aa).2 q hq aa) hp h1 h2]at this;cases this
theorem Trace.zu(t:Trace rec r tm h tm' h' S){i:Nat}(hi:i<r.length)(hw:(S (i+1)).wr=true):(S (i+1)).rd=true:=by
 obtain⟨o,ho⟩:∃o,r[i]?=some o:=⟨_,aV hi⟩;rcases(t.cases ho).2 with⟨_,_,_,e,_⟩|⟨_,_,e,_⟩|⟨_,_,e,_⟩
 ·rw[e]at hw;cases hw
 ·rw[e]at hw;cases hw
 ·exact e
theorem Trace.bound(t:Trace rec r tm h tm' h' S){i j:Nat}{ro:RO}(hij:i<j)(hj:r[j]?=some ro)(hh:((S (i+1)).wr=true/\(S (j+1)).rd=true)\/((S (i+1)).rd=true/\(S (j+1)).wr=true)):ro.pre.testBit i=true:=by
 have hlt:=(cB.1 hj).1;have hri:(S (i+1)).rd=true:=by
  rcases hh with⟨h1,_⟩|⟨h1,_⟩
  ·exact t.zu aa h1
  ·exact h1
 have hrj:(S (j+1)).rd=true:=by
  rcases hh with⟨_,h1⟩|⟨_,h1⟩
  ·exact h1
  ·exact t.zu hlt h1
 rcases(t.cases hj).2 with⟨_,_,_,_,e,_⟩|⟨_,_,_,e,_⟩|⟨_,_,_,g1,_,_,_,e4,_⟩
 ·rw[e]at hrj;cases hrj
 ·rw[e]at hrj;cases hrj
 ·refine xZ e4 (t.rw' j aa i hij hri) ?_;rcases hh with⟨h1,_⟩|⟨_,h1⟩<;>simp[h1]
theorem stay{k x:Nat}:∀{y:Nat},x<=y->(∀i,x<=i->i<y->(S (i+1)).h.get k=(S i).h.get k)->(S y).h.get k=(S x).h.get k:=fun {y} hxy=>by
 induction y with
 |zero=>intro _;rw[show x=0 by omega]
 |succ y ih=>
  intro hh;by_cases hx:x=y+1
  ·rw[hx]
  ·rw[hh y aa aa,ih aa fun i h1 h2=>hh i h1 aa]
theorem Trace.owner(t:Trace rec r tm h tm' h' S){k:Nat}:∀{j:Nat},(S 0).h.next<=k->k<(S j).h.next->∃q,q<j/\(S q).h.next<=k/\k<(S (q+1)).h.next
 |0,h1,h2=>by omega
 |j+1,h1,h2=>by
  by_cases hk:k<(S j).h.next
  ·obtain⟨q,q1,q2⟩:=t.owner h1 hk;exact⟨q,by omega,q2⟩
  ·exact⟨j,by omega,by omega,h2⟩
structure Se(P:Program)(S:Nat->SD)(ops:Array Oper)(j:Nat)(o:Oper)(pre:Nat)(G h1:H):Prop where
 nx:G.next=(S j).h.next
 nx1:h1.next=(S (j+1)).h.next
 g1:∀k b,G.get k=some b->k<(S j).h.next/\(S j).h.get k=some b/\(S (j+1)).rd=true/\∀q,q<j->(S q).h.next<=k->k<(S (q+1)).h.next->pre.testBit q=true
 g2:∀k b,(S j).h.next<=k->(S (j+1)).h.get k=some b->h1.get k=some b
 g3:∀k,G.live k->(S (j+1)).h.get k=h1.get k
 g4:∀k,k<(S j).h.next->¬G.live k->(S (j+1)).h.get k=(S j).h.get k
 g5:(S (j+1)).wr=false->∀k,G.live k->h1.get k=G.get k
 low:∀k,G.live k->h1.low<=k->(S (j+1)).h.low<=k
 bd:(S j).h.next<=1000000
 wp:∀(F:Fence) (_:FC F) (Q:Exit->Act->World->Prop) (K:Act->World->Prop) (A:Nat->Prop) (ρ:Nat->Nat) (w:World) (a:Act),Rel P A ρ w G->Dj A G h1->(∀u,u∈looks ops o->VR P A ρ w (CO.ev (S j).tm (CO.t u)) (a.tmps.getD u undef))->
  (∀u w' ρ',cP P A ρ w G ρ' w' h1->VR P (Ext A G h1) ρ' w' (S (j+1)).v u->K (a.put o.dst u) w')->wpOpIn F 0 P ops Q j K a w
def bare(k:Nat):H:=⟨k,k,[],.e⟩
theorem uQ(k j:Nat):(bare k).get j=none:=by
 unfold H.get bare;simp only[ep,T.Ak]
theorem mD(k j:Nat):¬(bare k).live j:=by unfold H.live;rw[uQ];simp
theorem Fx{A:Nat->Prop}{ρ:Nat->Nat}{w:World}{a:Act}{o:Oper}{tm:Tm}(hl:∀u,u∈looks ops o->VR P A ρ w (CO.ev tm (CO.t u)) (a.tmps.getD u undef)):HV P A ρ w tm a o:=fun y hy=>by
 cases y with
 |tmp u=>
  have:=hl u (by
   unfold looks;exact List.mem_append_right _ (List.mem_filterMap.2 ⟨.tmp u,by simpa using hy,rfl⟩))
  unfold OpV;simpa[aU,Act.eval]using this
 |const v=>exact Cj v
 |global g=>simp only[OpV,aU,CO.ev,VR]
 |func g=>
  show VR P A ρ w (.fn g []) (.func (.func g) #[] #[]);simp only[VR,VRl];exact⟨_,rfl,rfl⟩
theorem SK(hrec:nD P rec)(hg:fj rec)(t:Trace rec r tm h tm' h' S)(st:Stat P n ops r)(f:Wf h){j:Nat}{o:Oper}(ho:ops[j]?=some o):∃ro G h1,r[j]?=some ro/\dc n o.dst=true/\(S (j+1)).tm=kG (S j).tm o.dst (S (j+1)).v/\Se P S ops j o ro.pre G h1:=by
 obtain⟨g,p,hr,hdst,hgd⟩:=st.row j o ho;have hjl:j<r.length:=(cB.1 hr).1;obtain⟨f1,_⟩:=t.gd hg f j aa;obtain⟨ht,hcs⟩:=t.cases hr;have hwant:∀(A:Nat->Prop) (ρ:Nat->Nat) (w:World) (a:Act) (b:Bool),lg ⟨o.dst,g,(match aZ P o.op with|some x=>x|none=> .bad),p⟩ (S j).tm=some b->(∀u,u∈looks ops o->VR P A ρ w (CO.ev (S j).tm (CO.t u)) (a.tmps.getD u undef))->Region.wanted o (yielded ops a.tmps)=b:=fun A ρ w a b hw hl=>by
  refine tY (P:=P) (A:=A) (ρ:=ρ) (w:=w) hgd hw fun u c hc=>hl u ?_;unfold looks;refine List.mem_append_left _ ?_
  cases hog:o.guard with
  |none=>rw[hog]at hgd;simp only[an]at hgd;rw[<-hgd]at hc;cases hc
  |some q=>
   obtain⟨q1,q2⟩:=q;rw[hog]at hgd;simp only at hgd⊢;obtain⟨u',e1,e2⟩:=aF hgd;rw[hc]at e2;simp only[an,aR]at e2;rw[e1,e2.1];simp
 rcases hcs with⟨hw,hv,hh,hwr,hrd,_⟩|⟨hw,hT,hwr,hrd,_,ob,e1,e2,_⟩|⟨hw,hT,hrd,h1,e1,e2,e3,e4,_⟩
 ·refine⟨_,bare (S j).h.next,bare (S j).h.next,hr,hdst,ht,rfl,(by rw[hh];rfl),(fun k b e=>by rw[uQ]at e;cases e),fun k b hk e=>?_,fun k hl=>absurd hl (mD _ _),(fun k _ _=>by rw[hh]),fun _ k hl=>absurd hl (mD _ _),fun k hl=>absurd hl (mD _ _),f1.bd,fun F hF Q K A ρ w a tR hd hl hK=>?_⟩
  ·rw[hh]at e;have:=f1.lt k b (kO e);omega
  ·unfold wpOpIn;simp only[ho];rw[hwant A ρ w a false hw hl,ah aK];exact⟨fun g _=>hF.fn g,hK undef w ρ (cP.refl tR) (by rw[hv];simp only[VR])⟩
 ·obtain ⟨h1, e3⟩ : ∃ h1, (bare (S j).h.next).nB ob = some h1 := by
   cases ob with
   |none=>exact⟨_,rfl⟩
   |some b=>
    have:=(dF e2).2.2.2.1;exact⟨_,by
     show(bare (S j).h.next).new b=_;unfold H.new bare;rw[(by simpa[bs]using this:Nat.blt (S j).h.next 1000000=true)]⟩
  have hcc:=Dd (P:=P) (o:=o) rfl (.inr fun e5=>by
   have e6:=(ke (fun x=>xT x (S j).tm (S j).h.next) e5).symm.trans e1;rw[Ly]at e6;cases e6)
  have hn1:h1.next=(S (j+1)).h.next:=by
   cases ob with
   |none=>
    simp only[H.nB,an]at e2 e3;rw[<-e2,<-e3];rfl
   |some b=>rw[(dF e3).1,(dF e2).1];rfl
  refine⟨_,bare (S j).h.next,h1,hr,hdst,ht,rfl,hn1,(fun k b e=>by rw[uQ]at e;cases e),fun k b hk e=>?_,fun k hl=>absurd hl (mD _ _),fun k hk _=>yO e2 hk,fun _ k hl=>absurd hl (mD _ _),fun k hl=>absurd hl (mD _ _),f1.bd,fun F hF Q K A ρ w a tR hd hl hK=>?_⟩
  ·cases ob with
   |none=>
    simp only[H.nB,an]at e2;rw[<-e2]at e;have:=f1.lt k b (kO e);omega
   |some b'=>
    obtain⟨q1,q2,q3,q4,q5⟩:=dF e2;obtain⟨s1,s2,s3,s4,s5⟩:=dF e3;have e':=kO e;rw[q5]at e';split at e'
    ·next hk'=>
     simp only[an]at e';subst e';unfold H.get;rw[s3];simp only[bare,ep];rw[s5];exact ak hk'
    ·have:=f1.lt k b e';omega
  ·unfold wpOpIn;simp only[ho];rw[hwant A ρ w a true hw hl,ak rfl];exact KC hF (qJ ⟨_,hcc⟩) (t_me (h:=bare (S j).h.next) hcc hT e1 e3 (Fx hl) tR hd) hK
 ·have hcc:=Dd (P:=P) (o:=o) rfl (.inl hT);have gp:=ri hg (nN f1) e1;have hout:∀k,(S j).h.next<=k->ep k (ku p (S j).iv (S j).h.forb)=ep k (S j).h.forb:=fun k hk=>Cv fun x hx=>by
   obtain⟨q,hq,rfl⟩:=(t.iv j aa).1 x hx;have:=t.mono hg f (show q+1<=j by omega) aa;simp only;omega
  refine⟨_,(S j).h.part p (S j).iv,h1,hr,hdst,ht,rfl,(by rw[e2];rfl),fun k b e=>⟨f1.lt k b (kO (um e)),um e,hrd,fun q hq q1 q2=>?_⟩,fun k b hk e=>?_,fun k hl=>?_,fun k hk hl=>?_,fun hw0 k hl=>?_,fun k _ hlo=>?_,f1.bd,fun F hF Q K A ρ w a tR hd hl hK=>?_⟩
  ·cases hp:p.testBit q with
   |true=>rfl
   |false=>
    have:=lQ (bH e);rw[show((S j).h.part p (S j).iv).forb=ku p (S j).iv (S j).h.forb from rfl,wb ((t.iv j aa).2 q hq aa) hp q1 q2]at this;cases this
  ·rw[e2]at e;have hf:=gp.good.forb;unfold H.get at e⊢;rw[hf,show((S j).h.part p (S j).iv).forb=ku p (S j).iv (S j).h.forb from rfl,hout k hk];exact e
  ·rw[e2];have hb:=lQ hl;have hb2:ep k (S j).h.forb=false:=kL p k _ _ hb;unfold H.get;rw[gp.good.forb,hb];show(match ep k (S j).h.forb with|true=>none|false=>T.get h1.t k)=_;rw[hb2]
  ·rw[e2];exact vD (gp.good.dead k hk hl)
  ·have hk : k < (S j).h.next := by
    obtain⟨b,eb⟩:=cU.1 hl;exact f1.lt k b (kO (um eb))
   rw[e3]at hw0;refine Aj gp.good.forb (gp.good.keep k hk (aS hk (dQ fun hlt=>?_)));rw[<-bs]at hlt;rw[hlt]at hw0;cases hw0
  ·rw[e2];exact aH (B9 _ _).2 hlo
  ·unfold wpOpIn;simp only[ho];rw[hwant A ρ w a true hw hl,ak rfl];exact r_wp hrec hF hcc hT e1 (nN f1) (Fx hl) tR hd hK
end CI
end
section
open Go.RowKit
namespace CI
variable {P : Program} {h h' : H} {tm tm' : Tm} {rec : Rec} {n : Nat} {r : List RO} {S : Nat->SD} {ops : Array Oper} {A : Nat->Prop} {ρ ρ1 ρ2 : Nat->Nat} {w w1 w2 : World} {a : Act} {ds : List Nat} {L : Nat->Prop} {s j : Nat}
def AL(A:Nat->Prop)(S:Nat->SD)(L:Nat->Prop)(k:Nat):Prop:=A k\/∃i,L i/\(S i).h.next<=k/\k<(S (i+1)).h.next
def Lv(S:Nat->SD)(L:Nat->Prop)(s k:Nat)(b:B):Prop:=(k<(S 0).h.next/\(S s).h.get k=some b)\/∃i,L i/\(S i).h.next<=k/\k<(S (i+1)).h.next/\(S (max s (i+1))).h.get k=some b
structure Inv(P:Program)(S:Nat->SD)(ops:Array Oper)(r:List RO)(h':H)(n:Nat)(ds:List Nat)(A:Nat->Prop)(ρ:Nat->Nat)(w:World)(L:Nat->Prop)(s:Nat)(ρ1:Nat->Nat)(a:Act)(w1:World):Prop where
 cl:∀i ro q,L i->r[i]?=some ro->ro.pre.testBit q=true->L q
 lN:∀i,L i->i<r.length
 s0:s<=r.length
 sl:∀i,i<s->(S (i+1)).wr=true->L i
 sr:∀i,s<=i->i<r.length->(S (i+1)).wr=true->¬L i
 tmv:∀t,(∃i o,L i/\ops[i]?=some o/\o.dst=some t/\(∀i' o',L i'->i<i'->ops[i']?=some o'->o'.dst≠some t)/\VR P (AL A S L) ρ1 w1 (S (i+1)).v (a.tmps.getD t undef))\/
  ((∀i o,L i->ops[i]?=some o->o.dst≠some t)/\VR P (AL A S L) ρ1 w1 (CO.ev (S 0).tm (CO.t t)) (a.tmps.getD t undef))
 sz:a.tmps.size=n
 df:a.defers=ds.map (wj ρ)
 blk:∀k b,Lv S L s k b->ρ1 k<w1.heap.size/\BR P (AL A S L) ρ1 w1 (ρ1 k) b
 inj:∀k b k' b',Lv S L s k b->Lv S L s k' b'->ρ1 k=ρ1 k'->k=k'
 lt:Lt w w1
 fr:∀b,b<w.heap.size->(∀k,(S 0).h.live k->h'.low<=k->ρ k≠b)->w1.heap[b]?=w.heap[b]?
 rho:∀k,(k<(S 0).h.next\/h'.next<=k)->ρ1 k=ρ k
 new:∀k b,Lv S L s k b->(S 0).h.next<=k->w.heap.size<=ρ1 k\/∃i,(S 0).h.live i/\h'.low<=i/\ρ1 k=ρ i
theorem Kj(t:Trace rec r tm h tm' h' S)(st:Stat P n ops r)(hn:n<1000000)(u:Nat):∀j,j<=r.length->(∃i o,i<j/\ops[i]?=some o/\o.dst=some u/\(∀i' o',i'<j->i<i'->ops[i']?=some o'->o'.dst≠some u)/\CO.ev (S j).tm (CO.t u)=(S (i+1)).v)\/
  ((∀i o,i<j->ops[i]?=some o->o.dst≠some u)/\CO.ev (S j).tm (CO.t u)=CO.ev (S 0).tm (CO.t u))
 |0,_=> .inr ⟨fun i o hi=>by omega,rfl⟩
 |j+1,hj=>by
  have hjo:j<ops.size:=by rw[<-st.len];omega
  obtain⟨o,ho⟩:∃o,ops[j]?=some o:=⟨_,mR hjo⟩;obtain⟨g,p,hr,hdst,_⟩:=st.row j o ho;have ht:=(t.cases hr).1;have ih:=Kj t st hn u j aa;by_cases hd:o.dst=some u
  ·refine .inl ⟨j,o,by omega,ho,hd,fun i' o' h1 h2=>by omega,?_⟩;have hu:u<n:=by rw[hd]at hdst;simpa[dc,bs]using hdst
   rw[ht];simp only[kG,hd];rw[An (t:=u) aa,ak rfl]
  ·have hsame : CO.ev (S (j + 1)).tm (CO.t u) = CO.ev (S j).tm (CO.t u) := by
    rw[ht]
    cases hdd:o.dst with
    |none=>rfl
    |some v=>
     have hv:v<n:=by rw[hdd]at hdst;simpa[dc,bs]using hdst
     simp only[kG];rw[An (t:=v) (Nat.lt_trans hv hn),ah (fun e=>hd (by rw[hdd,e]))]
   rcases ih with⟨i,o',h1,h2,h3,h4,h5⟩|⟨h1,h2⟩
   ·refine .inl ⟨i,o',by omega,h2,h3,fun i' o'' k1 k2 k3=>?_,by rw[hsame,h5]⟩;rcases sG.1 k1 with k|k
    ·exact h4 i' o'' k k2 k3
    ·subst k;rw[ho]at k3;simp only[an]at k3;rw[<-k3];exact hd
   ·refine .inr ⟨fun i o' k1 k2=>?_,by rw[hsame,h2]⟩;rcases sG.1 k1 with k|k
    ·exact h1 i o' k k2
    ·subst k;rw[ho]at k2;simp only[an]at k2;rw[<-k2];exact hd
section
variable (t : Trace rec r tm h tm' h' S) (st : Stat P n ops r) (hg : fj rec) (f : Wf h)
theorem Inv.slots(I:Inv P S ops r h' n ds A ρ w L s ρ1 a w1)(t:Trace rec r tm h tm' h' S)(st:Stat P n ops r)(hn:n<1000000){o:Oper}{ro:RO}(ho:ops[j]?=some o)(hr:r[j]?=some ro)(hj:¬L j)(hpre:∀q,ro.pre.testBit q=true->L q):∀u,u∈looks ops o->VR P (AL A S L) ρ1 w1 (CO.ev (S j).tm (CO.t u)) (a.tmps.getD u undef):=fun u hu=>by
 have hjl:j<r.length:=(cB.1 hr).1;have later:∀i o',L i->j<i->ops[i]?=some o'->o'.dst≠some u:=fun i o' hL hji hi hd=>by
  obtain⟨ro',hro'⟩:∃ro',r[i]?=some ro':=⟨_,aV (I.lN i hL)⟩;exact hj (I.cl i ro' j hL hro' (st.tmp j i o o' ro' u hji ho hi hro' (.inr (.inl ⟨hd,hu⟩))))
 rcases Kj t st hn u j aa with⟨i,o',h1,h2,h3,h4,h5⟩|⟨h1,h2⟩
 ·have hLi:L i:=hpre i (st.tmp i j o' o ro u h1 h2 ho hr (.inl ⟨h3,hu⟩));rw[h5];rcases I.tmv u with⟨i',o'',k1,k2,k3,k4,k5⟩|⟨k1,k2⟩
  ·have : i' = i := by
    rcases mN i i' with e|e|e
    ·exfalso;rcases mN i' j with e2|e2|e2
     ·exact h4 i' o'' e2 e k2 k3
     ·exact hj (e2▸k1)
     ·exact later i' o'' k1 e2 k2 k3
    ·exact e.symm
    ·exact absurd h3 (k4 i o' hLi e h2)
   subst this;exact k5
  ·exact absurd h3 (k1 i o' hLi h2)
 ·rw[h2];rcases I.tmv u with⟨i',o'',k1,k2,k3,k4,k5⟩|⟨k1,k2⟩
  ·exfalso;rcases mN i' j with e2|e2|e2
   ·exact h1 i' o'' e2 k2 k3
   ·exact hj (e2▸k1)
   ·exact later i' o'' k1 e2 k2 k3
  ·exact k2
theorem Inv.quiet(I:Inv P S ops r h' n ds A ρ w L s ρ1 a w1)(t:Trace rec r tm h tm' h' S){ro:RO}(hr:r[j]?=some ro)(hj:¬L j)(hpre:∀q,ro.pre.testBit q=true->L q)(hrd:(S (j+1)).rd=true):
  (∀i,s<=i->i<j->(S (i+1)).wr=false)/\(∀i,j<=i->i<s->(S (i+1)).wr=false):=by
 have hjl:j<r.length:=(cB.1 hr).1;refine⟨fun i h1 h2=>?_,fun i h1 h2=>?_⟩
 ·cases hw:(S (i+1)).wr with
  |false=>rfl
  |true=>exact absurd (hpre i (t.bound h2 hr (.inl ⟨hw,hrd⟩))) (I.sr i h1 aa hw)
 ·cases hw:(S (i+1)).wr with
  |false=>rfl
  |true=>
   exfalso;have hLi:=I.sl i h2 hw;have hne:i≠j:=fun e=>hj (e▸hLi);obtain⟨ro',hro'⟩:∃ro',r[i]?=some ro':=⟨_,aV (I.lN i hLi)⟩;exact hj (I.cl i ro' j hLi hro' (t.bound aa hro' (.inr ⟨hrd,hw⟩)))
theorem jr(t:Trace rec r tm h tm' h' S)(hg:fj rec)(f:Wf h){x y k:Nat}(hxy:x<=y)(hy:y<=r.length)(hk:k<(S x).h.next)(hw:∀i,x<=i->i<y->(S (i+1)).wr=false):(S y).h.get k=(S x).h.get k:=
 stay hxy fun i h1 h2=>t.RK hg f aa (hw i h1 h2) (aS hk (t.mono hg f h1 aa))
end
end CI
end
section
open Go.RowKit
namespace CI
variable {P : Program} {h h' : H} {tm tm' : Tm} {rec : Rec} {n : Nat} {r : List RO} {S : Nat->SD} {ops : Array Oper} {A : Nat->Prop} {ρ ρ1 ρ2 : Nat->Nat} {w w1 w2 : World} {a : Act} {ds : List Nat} {L : Nat->Prop} {s j : Nat} {o : Oper} {ro : RO} {G h1 : H}
structure pq(rec:Rec)(P:Program)(S:Nat->SD)(ops:Array Oper)(r:List RO)(tm:Tm)(h:H)(tm':Tm)(h':H)(n:Nat)(A:Nat->Prop)(L:Nat->Prop)(j:Nat)(o:Oper)(ro:RO)(G h1:H):Prop where
 t:Trace rec r tm h tm' h' S
 st:Stat P n ops r
 hg:fj rec
 f:Wf h
 hn:n<1000000
 ho:ops[j]?=some o
 hr:r[j]?=some ro
 hj:¬L j
 pre:∀q,ro.pre.testBit q=true->L q
 dst:dc n o.dst=true
 sg:Se P S ops j o ro.pre G h1
 dj:Dj A h h'
 nm:∀k,h.live k->A k
theorem Lv.uniq(t:Trace rec r tm h tm' h' S)(hg:fj rec)(f:Wf h)(hL:∀i,L i->i<r.length){k:Nat}{b b':B}(e:Lv S L s k b)(e':Lv S L s k b'):b=b':=by
 have m0:∀i,L i->(S 0).h.next<=(S i).h.next:=fun i hi=>t.mono hg f (aQ _) (bO (hL i hi))
 rcases e with⟨h1,e⟩|⟨i,hi,a1,a2,e⟩<;>rcases e' with⟨h1',e'⟩|⟨i',hi',a1',a2',e'⟩
 ·rw[e]at e';simpa using e'
 ·have:=m0 i' hi';omega
 ·have:=m0 i hi;omega
 ·have : i = i' := by
   rcases mN i i' with x|x|x
   ·have:=t.mono hg f (show i+1<=i' from x) (bO (hL i' hi'));omega
   ·exact x
   ·have:=t.mono hg f (show i'+1<=i from x) (bO (hL i hi));omega
  subst this;rw[e]at e';simpa using e'
section
variable (M : pq rec P S ops r tm h tm' h' n A L j o ro G h1)
theorem pq.jl(M:pq rec P S ops r tm h tm' h' n A L j o ro G h1):j<r.length:=(cB.1 M.hr).1
theorem pq.mono(M:pq rec P S ops r tm h tm' h' n A L j o ro G h1){x y:Nat}(h1:x<=y)(h2:y<=r.length):(S x).h.next<=(S y).h.next:=M.t.mono M.hg M.f h1 h2
theorem Inv.sq(I:Inv P S ops r h' n ds A ρ w L s ρ1 a w1)(M:pq rec P S ops r tm h tm' h' n A L j o ro G h1){k:Nat}{b:B}(e:G.get k=some b):Lv S L s k b:=by
 obtain⟨k1,k2,k3,k4⟩:=M.sg.g1 k b e;obtain⟨q1,q2⟩:=I.quiet M.t M.hr M.hj M.pre k3;have jl:=M.jl;by_cases hk:k<(S 0).h.next
 ·refine .inl ⟨hk,?_⟩;rcases Nat.le_total s j with hs|hs
  ·rw[<-jr M.t M.hg M.f hs aa (aS hk (M.mono (aQ _) I.s0)) q1];exact k2
  ·rw[jr M.t M.hg M.f hs I.s0 k1 q2];exact k2
 ·obtain⟨q,hq,a1,a2⟩:=M.t.owner (dQ hk) k1;refine .inr ⟨q,M.pre q (k4 q hq a1 a2),a1,a2,?_⟩;rcases Nat.le_total s j with hs|hs
  ·rw[<-jr M.t M.hg M.f (x:=max s (q+1)) (y:=j) aa aa (aS a2 (M.mono aa aa)) (fun i i1 i2=>q1 i aa i2)];exact k2
  ·rw[show max s (q+1)=s by omega,jr M.t M.hg M.f hs I.s0 k1 q2];exact k2
theorem Inv.nmA(I:Inv P S ops r h' n ds A ρ w L s ρ1 a w1)(M:pq rec P S ops r tm h tm' h' n A L j o ro G h1){k:Nat}{b:B}(e:Lv S L s k b):AL A S L k:=by
 rcases e with⟨hk,e⟩|⟨i,hi,a1,a2,_⟩
 ·refine .inl (M.nm k ?_);have g:=(M.t.gd M.hg M.f s I.s0).2;rw[M.t.h0]at hk;exact g.good.back hk (bH e)
 ·exact .inr ⟨i,hi,a1,a2⟩
theorem Inv.rel(I:Inv P S ops r h' n ds A ρ w L s ρ1 a w1)(M:pq rec P S ops r tm h tm' h' n A L j o ro G h1):Rel P (AL A S L) ρ1 w1 G:=by
 refine⟨fun k b e=>?_,fun k k' hl hl' e=>?_,by rw[M.sg.nx];exact M.sg.bd⟩
 ·have hlv:=I.sq M e;obtain⟨b1,b2⟩:=I.blk k b hlv;exact⟨by rw[M.sg.nx];exact(M.sg.g1 k b e).1,I.nmA M hlv,b1,b2⟩
 ·obtain⟨b,eb⟩:=cU.1 hl;obtain⟨b',eb'⟩:=cU.1 hl';exact I.inj k b k' b' (I.sq M eb) (I.sq M eb') e
theorem Inv.dj(I:Inv P S ops r h' n ds A ρ w L s ρ1 a w1)(M:pq rec P S ops r tm h tm' h' n A L j o ro G h1):Dj (AL A S L) G h1:=fun k hk=>by
 have jl:=M.jl;rw[M.sg.nx,M.sg.nx1];rcases hk with hk|⟨i,hi,a1,a2⟩
 ·have e1:(S 0).h.next=h.next:=by rw[M.t.h0]
  have e2:(S r.length).h.next=h'.next:=by rw[M.t.hN]
  have m1:=M.mono (aQ j) aa;have m2:=M.mono (show j+1<=r.length by omega) (af _);have:=M.dj k hk;omega
 ·rcases mN i j with x|x|x
  ·have:=M.mono (show i+1<=j from x) aa;omega
  ·exact absurd (x▸hi) M.hj
  ·have:=M.mono (show j+1<=i from x) (bO (I.lN i hi));omega
def rF(S:Nat->SD)(s j:Nat):Nat:=if(S (j+1)).wr=true then j+1 else s
theorem Inv.xx(I:Inv P S ops r h' n ds A ρ w L s ρ1 a w1)(M:pq rec P S ops r tm h tm' h' n A L j o ro G h1){k:Nat}{b:B}(e:Lv S (fun i=>L i\/i=j) (rF S s j) k b):
  (h1.get k=some b/\(G.live k\/((S j).h.next<=k/\k<(S (j+1)).h.next)))\/(¬G.live k/\¬((S j).h.next<=k/\k<(S (j+1)).h.next)/\Lv S L s k b):=by
 have jl:=M.jl;have hwr:(S (j+1)).wr=true->s<=j/\∀i,s<=i->i<j->(S (i+1)).wr=false:=fun hw=>
  ⟨dQ fun hlt=>M.hj (I.sl j hlt hw),(I.quiet M.t M.hr M.hj M.pre (M.t.zu jl hw)).1⟩
 have hs':((S (j+1)).wr=true/\rF S s j=j+1)\/((S (j+1)).wr=false/\rF S s j=s):=by
  unfold rF
  cases hw:(S (j+1)).wr with
  |true=>exact .inl ⟨rfl,by simp⟩
  |false=>exact .inr ⟨rfl,by simp⟩
 have hlive:G.live k->(S (j+1)).wr=false->Lv S L s k b->h1.get k=some b:=fun hG hw hl=>by
  obtain⟨b0,eb⟩:=cU.1 hG;have:=Lv.uniq M.t M.hg M.f I.lN hl (I.sq M eb);rw[M.sg.g5 hw k hG,eb,this]
 rcases e with⟨hk,e⟩|⟨i,hi,a1,a2,e⟩
 ·have hkj:k<(S j).h.next:=aS hk (M.mono (aQ _) aa)
  by_cases hG:G.live k
  ·refine .inl ⟨?_, .inl hG⟩;rcases hs' with⟨hw,hs⟩|⟨hw,hs⟩
   ·rw[hs,M.sg.g3 k hG]at e;exact e
   ·rw[hs]at e;exact hlive hG hw (.inl ⟨hk,e⟩)
  ·refine .inr ⟨hG,by omega, .inl ⟨hk,?_⟩⟩;rcases hs' with⟨hw,hs⟩|⟨hw,hs⟩
   ·obtain⟨q1,q2⟩:=hwr hw;rw[hs,M.sg.g4 k hkj hG,jr M.t M.hg M.f q1 aa (aS hk (M.mono (aQ _) I.s0)) q2]at e;exact e
   ·rw[hs]at e;exact e
 ·rcases hi with hi|hi
  ·have hij:i≠j:=fun x=>M.hj (x▸hi);have hni:¬((S j).h.next<=k/\k<(S (j+1)).h.next):=fun hx=>by
    rcases Ei hij with x|x
    ·have:=M.mono (show i+1<=j from x) aa;omega
    ·have:=M.mono (show j+1<=i from x) (bO (I.lN i hi));omega
   by_cases hG:G.live k
   ·obtain⟨b0,eb⟩:=cU.1 hG;have hkj:=(M.sg.g1 k b0 eb).1;have hlt:i<j:=by
     rcases Ei hij with x|x
     ·exact x
     ·have h1:=M.mono (show j+1<=i from x) (bO (I.lN i hi));have h2:=M.mono (show j<=j+1 by omega) aa;omega
    refine .inl ⟨?_, .inl hG⟩;rcases hs' with⟨hw,hs⟩|⟨hw,hs⟩
    ·rw[hs,show max (j+1) (i+1)=j+1 by omega,M.sg.g3 k hG]at e;exact e
    ·rw[hs]at e;exact hlive hG hw (.inr ⟨i,hi,a1,a2,e⟩)
   ·refine .inr ⟨hG,hni, .inr ⟨i,hi,a1,a2,?_⟩⟩;rcases hs' with⟨hw,hs⟩|⟨hw,hs⟩
    ·obtain⟨q1,q2⟩:=hwr hw;rcases Ei hij with x|x
     ·rw [hs, show max (j + 1) (i + 1) = j + 1 by omega, M.sg.g4 k (aS a2 (M.mono (show i + 1 <= j from x) (by omega))) hG,
       jr M.t M.hg M.f (x:=max s (i+1)) (y:=j) aa aa (aS a2 (M.mono aa aa)) (fun i' i1 i2=>q2 i' aa i2)]at e
      exact e
     ·rw[hs,show max (j+1) (i+1)=max s (i+1) by omega]at e;exact e
    ·rw[hs]at e;exact e
  ·subst hi;refine .inl ⟨?_, .inr ⟨a1,a2⟩⟩;rcases hs' with⟨hw,hs⟩|⟨hw,hs⟩
   ·rw[hs,show max (i+1) (i+1)=i+1 by omega]at e;exact M.sg.g2 k b a1 e
   ·rw[hs,stay (x:=i+1) (y:=max s (i+1)) aa (fun x x1 x2=>?_)]at e
    ·exact M.sg.g2 k b a1 e
    ·have hxs:x<s:=by omega
     have hxr:x<r.length:=aS hxs I.s0
     cases hwx:(S (x+1)).wr with
     |false=>exact M.t.RK M.hg M.f hxr hwx (aS a2 (M.mono x1 aa))
     |true=>
      obtain⟨rx,hrx⟩:∃rx,r[x]?=some rx:=⟨_,aV hxr⟩;refine M.t.keepO M.hg M.f hrx (show i<x by omega) ?_ a1 a2
      cases hp:rx.pre.testBit i with
      |false=>rfl
      |true=>exact absurd (I.cl x rx i (I.sl x hxs hwx) hrx hp) M.hj
end
end CI
end
section
open Go.RowKit
namespace CI
variable {P : Program} {h h' : H} {tm tm' : Tm} {rec : Rec} {n : Nat} {r : List RO} {S : Nat->SD} {ops : Array Oper} {A : Nat->Prop} {ρ ρ1 ρ2 : Nat->Nat} {w w1 w2 : World} {a : Act} {ds : List Nat} {L : Nat->Prop} {s j : Nat} {o : Oper} {ro : RO} {G h1 : H}
theorem Mr{dst:Option Tmp}{t:Nat}{u:Value}(h:dst≠some t):(a.put dst u).tmps.getD t undef=a.tmps.getD t undef:=by
 cases dst with
 |none=>rfl
 |some d=>
  have hne:d≠t:=fun e=>h (by rw[e]);simp only[Act.put,cV,Ek hne]
theorem OZ{t:Nat}{u:Value}(ht:t<a.tmps.size):(a.put (some t) u).tmps.getD t undef=u:=by
 simp only[Act.put,cV,sQ];simp[ht]
theorem Inv.step(I:Inv P S ops r h' n ds A ρ w L s ρ1 a w1)(M:pq rec P S ops r tm h tm' h' n A L j o ro G h1){u:Value}(p:cP P (AL A S L) ρ1 w1 G ρ2 w2 h1)(hu:VR P (Ext (AL A S L) G h1) ρ2 w2 (S (j+1)).v u):
  Inv P S ops r h' n ds A ρ w (fun i=>L i\/i=j) (rF S s j) ρ2 (a.put o.dst u) w2:=by
 have jl:=M.jl;have hdj:=I.dj M;have hmo:Mo (AL A S L) (AL A S fun i=>L i\/i=j) ρ1 ρ2:=⟨fun k hk=>hk.imp id fun ⟨i,hi,hx⟩=>⟨i, .inl hi,hx⟩,(p.mo hdj).eq⟩;have hmo2:Mo (Ext (AL A S L) G h1) (AL A S fun i=>L i\/i=j) ρ2 ρ2:=⟨fun k hk=>by
  rcases hk with hk|hk
  ·exact hmo.sub k hk
  ·rw[M.sg.nx,M.sg.nx1]at hk;exact .inr ⟨j, .inr rfl,hk⟩,fun _ _=>rfl⟩
 have hs':((S (j+1)).wr=true/\rF S s j=j+1)\/((S (j+1)).wr=false/\rF S s j=s):=by
  unfold rF
  cases hw:(S (j+1)).wr with
  |true=>exact .inl ⟨rfl,by simp⟩
  |false=>exact .inr ⟨rfl,by simp⟩
 have after:∀i,L i->∀rx,r[i]?=some rx->rx.pre.testBit j=true->False:=fun i hi rx hrx hp=>M.hj (I.cl i rx j hi hrx hp);have hframe:∀k b,Lv S L s k b->¬G.live k->w2.heap[ρ1 k]?=w1.heap[ρ1 k]?:=fun k b hl hG=>p.fr _ (I.blk k b hl).1 fun k' hl' _ e=>by
  obtain⟨b',eb'⟩:=cU.1 hl';have:=I.inj k' b' k b (I.sq M eb') hl e;subst this;exact hG hl'
 have hrho:∀k b,Lv S L s k b->ρ2 k=ρ1 k:=fun k b hl=>hmo.eq k (I.nmA M hl);have hbN:h'.next=(S r.length).h.next:=by rw[M.t.hN]
 refine⟨fun i rx q hi hrx hp=>?_,fun i hi=>?_,?_,fun i hi hw=>?_,fun i hi hir hw hL=>?_,fun t=>?_,?_,?_,fun k b e=>?_,fun k b k' b' e e' hk=>?_,I.lt.trans p.lt,fun b hb hn=>?_,fun k hk=>?_,fun k b e hk=>?_⟩
 ·rcases hi with hi|hi
  ·exact .inl (I.cl i rx q hi hrx hp)
  ·subst hi;rw[M.hr]at hrx;simp only[an]at hrx;subst hrx;exact .inl (M.pre q hp)
 ·rcases hi with hi|hi
  ·exact I.lN i hi
  ·rw[hi];exact jl
 ·rcases hs' with⟨_,e⟩|⟨_,e⟩<;>rw[e]
  ·exact jl
  ·exact I.s0
 ·rcases hs' with⟨hwj,e⟩|⟨_,e⟩<;>rw[e]at hi
  ·rcases sG.1 hi with x|x
   ·exact .inl (M.pre i (M.t.bound x M.hr (.inl ⟨hw,M.t.zu jl hwj⟩)))
   ·exact .inr x
  ·exact .inl (I.sl i hi hw)
 ·rcases hs' with⟨hwj,e⟩|⟨hwj,e⟩<;>rw[e]at hi
  ·rcases hL with hL|hL
   ·obtain⟨rx,hrx⟩:∃rx,r[i]?=some rx:=⟨_,aV hir⟩;exact after i hL rx hrx (M.t.bound (show j<i by omega) hrx (.inl ⟨hwj,M.t.zu hir hw⟩))
   ·omega
  ·rcases hL with hL|hL
   ·exact I.sr i hi hir hw hL
   ·subst hL;rw[hw]at hwj;cases hwj
 ·by_cases hd:o.dst=some t
  ·have ht:t<n:=by have:=M.dst;rw[hd]at this;simpa[dc,bs]using this
   refine .inl ⟨j,o, .inr rfl,M.ho,hd,fun i' o' hi' hlt ho' hd'=>?_,?_⟩
   ·rcases hi' with hi'|hi'
    ·obtain⟨rx,hrx⟩:∃rx,r[i']?=some rx:=⟨_,aV (I.lN i' hi')⟩;exact after i' hi' rx hrx (M.st.tmp j i' o o' rx t hlt M.ho ho' hrx (.inr (.inr ⟨hd',hd⟩)))
    ·omega
   ·rw[hd,OZ (by rw[I.sz];exact ht)];exact VR.mo hmo2 (Lt.refl _) _ _ hu
  ·rw[Mr hd];rcases I.tmv t with⟨i,o',q1,q2,q3,q4,q5⟩|⟨q1,q2⟩
   ·refine .inl ⟨i,o', .inl q1,q2,q3,fun i' o'' hi' hlt ho'=>?_,VR.mo hmo p.lt _ _ q5⟩;rcases hi' with hi'|hi'
    ·exact q4 i' o'' hi' hlt ho'
    ·subst hi';rw[M.ho]at ho';simp only[an]at ho';rw[<-ho'];exact hd
   ·refine .inr ⟨fun i' o'' hi' ho'=>?_,VR.mo hmo p.lt _ _ q2⟩;rcases hi' with hi'|hi'
    ·exact q1 i' o'' hi' ho'
    ·subst hi';rw[M.ho]at ho';simp only[an]at ho';rw[<-ho'];exact hd
 ·have:=I.sz;cases o.dst<;>simp[Act.put,this]
 ·have:=I.df;cases o.dst<;>simp[Act.put,this]
 ·rcases I.xx M e with⟨e1,_⟩|⟨hG,_,hl⟩
  ·obtain⟨_,_,b1,b2⟩:=p.rel.blk k b e1;exact⟨b1,b2.mo hmo2 (Lt.refl _) rfl⟩
  ·obtain⟨b1,b2⟩:=I.blk k b hl;rw[hrho k b hl];exact⟨aS b1 p.lt.size,b2.mo hmo p.lt (hframe k b hl hG)⟩
 ·have key : ∀ x y bx, h1.get x = some bx -> (G.live x \/ ((S j).h.next <= x /\ x < (S (j + 1)).h.next)) -> ∀ by', ¬ G.live y -> Lv S L s y by' -> ρ2 x = ρ2 y -> x = y := fun x y bx ex hx by' hy hly hxy => by
   rw[hrho y by' hly]at hxy;rcases hx with hx|hx
   ·obtain⟨b0,eb⟩:=cU.1 hx;have hlx:=I.sq M eb;rw[hrho x b0 hlx]at hxy;exact I.inj x b0 y by' hlx hly hxy
   ·rcases p.new x (by rw[M.sg.nx];exact hx.1) (bH ex)with q|⟨i,q1,q2,q3⟩
    ·have:=(I.blk y by' hly).1;omega
    ·exfalso;obtain⟨b0,eb⟩:=cU.1 q1;have:=I.inj i b0 y by' (I.sq M eb) hly (q3.symm.trans hxy)
     subst this;exact hy q1
  rcases I.xx M e with⟨e1,x1⟩|⟨hG,_,hl⟩<;>rcases I.xx M e' with⟨e1',x1'⟩|⟨hG',_,hl'⟩
  ·exact p.rel.inj k k' (bH e1) (bH e1') hk
  ·exact key k k' b e1 x1 b' hG' hl' hk
  ·exact(key k' k b' e1' x1' b hG hl hk.symm).symm
  ·rw[hrho k b hl,hrho k' b' hl']at hk;exact I.inj k b k' b' hl hl' hk
 ·rw[p.fr b (aS hb I.lt.size) fun k hl hlo hk=>?_,I.fr b hb hn];obtain⟨b0,eb⟩:=cU.1 hl;have hlv:=I.sq M eb;have hlow:h'.low<=k:=by
   have h2:=M.t.low M.hg M.f (show j+1<=r.length by omega) (af _);rw[M.t.hN]at h2;exact aH h2 (M.sg.low k hl hlo)
  by_cases hk0:k<(S 0).h.next
  ·rw[I.rho k (.inl hk0)]at hk;refine hn k ?_ hlow hk;rcases hlv with⟨_,e⟩|⟨i,hi,a1,_⟩
   ·have g:=(M.t.gd M.hg M.f s I.s0).2;rw[M.t.h0]at hk0⊢;exact g.good.back hk0 (bH e)
   ·have:=M.mono (aQ i) (bO (I.lN i hi));omega
  ·rcases I.new k b0 hlv (dQ hk0)with q|⟨i,q1,q2,q3⟩
   ·omega
   ·exact hn i q1 q2 (q3.symm.trans hk)
 ·have m1:=M.mono (aQ j) aa;have m2:=M.mono (show j+1<=r.length by omega) (af _);rw[p.rho k (by rw[M.sg.nx,M.sg.nx1];omega),I.rho k hk]
 ·rcases I.xx M e with⟨e1,x1⟩|⟨hG,_,hl⟩
  ·rcases x1 with x1|x1
   ·obtain⟨b0,eb⟩:=cU.1 x1;have hlv:=I.sq M eb;rw[hrho k b0 hlv];exact I.new k b0 hlv hk
   ·rcases p.new k (by rw[M.sg.nx];exact x1.1) (bH e1)with q|⟨i,q1,q2,q3⟩
    ·exact .inl (aH I.lt.size q)
    ·obtain⟨b0,eb⟩:=cU.1 q1;have hlv:=I.sq M eb;have hlow:h'.low<=i:=by
      have h2:=M.t.low M.hg M.f (show j+1<=r.length by omega) (af _);rw[M.t.hN]at h2;exact aH h2 (M.sg.low i q1 q2)
     rw[q3];by_cases hi0:i<(S 0).h.next
     ·refine .inr ⟨i,?_,hlow,I.rho i (.inl hi0)⟩;rcases hlv with⟨_,e⟩|⟨i',hi',a1,_⟩
      ·have g:=(M.t.gd M.hg M.f s I.s0).2;rw[M.t.h0]at hi0⊢;exact g.good.back hi0 (bH e)
      ·have:=M.mono (aQ i') (bO (I.lN i' hi'));omega
     ·exact I.new i b0 hlv (dQ hi0)
  ·rw[hrho k b hl];exact I.new k b hl hk
end CI
end
section
open Go.RowKit
namespace CI
variable {P : Program} {h h' : H} {tm tm' : Tm} {rec : Rec} {n : Nat} {r : List RO} {S : Nat->SD} {ops : Array Oper} {A : Nat->Prop} {ρ ρ1 ρ2 : Nat->Nat} {w w1 w2 : World} {a : Act} {ds : List Nat} {L : Nat->Prop} {s j : Nat} {o : Oper} {ro : RO} {G h1 : H} {E : Env}
theorem KR(w:World):Below w.heap.size w {w with drawn:=w.drawn+1}:=(Below.refl _ w).drew
theorem Nf(t:Trace rec r tm h tm' h' S)(tR:Rel P A ρ w h)(hf:Fr P A ρ w n ds tm a):Inv P S ops r h' n ds A ρ w (fun _=>False) 0 ρ a {w with drawn:=w.drawn+1}:=by
 have hlt:=Lt.below (KR w);have hA:∀k,A k->AL A S (fun _=>False) k:=fun k hk=>.inl hk;have hmo:Mo A (AL A S fun _=>False) ρ ρ:=⟨hA,fun _ _=>rfl⟩;have hlv:∀k b,Lv S (fun _=>False) 0 k b->h.get k=some b:=fun k b e=>by
  rcases e with⟨_,e⟩|⟨_,e,_⟩
  ·rw[t.h0]at e;exact e
  ·exact e.elim
 refine⟨fun _ _ _ e=>e.elim,fun _ e=>e.elim,aQ _,fun i hi=>by omega,fun _ _ _ _ e=>e,fun u=>.inr ⟨fun _ _ e=>e.elim,?_⟩,hf.sz,hf.df,fun k b e=>?_,fun k b k' b' e e' hk=>?_,hlt,fun b _ _=>rfl,fun _ _=>rfl,fun k b e hk=>?_⟩
 ·rw[t.tm0];exact VR.mo hmo hlt _ _ (hf.tr u)
 ·obtain⟨_,_,b1,b2⟩:=tR.blk k b (hlv k b e);exact⟨b1,b2.mo hmo hlt rfl⟩
 ·exact tR.inj k k' (bH (hlv k b e)) (bH (hlv k' b' e')) hk
 ·have:=(tR.blk k b (hlv k b e)).1;rw[t.h0]at hk;omega
theorem Ty{a0:Act}(I:Inv P S ops r h' n ds A ρ w L s ρ1 a w1)(t:Trace rec r tm h tm' h' S)(st:Stat P n ops r)(hg:fj rec)(f:Wf h)(hn:n<1000000)(hall:∀i,i<r.length->L i)(tR:Rel P A ρ w h)(hd:Dj A h h')(hf:Fr P A ρ w n ds tm a0):cP P A ρ w h ρ1 w1 h'/\Fr P (Ext A h h') ρ1 w1 n ds tm' a:=by
 have hAL:∀k,AL A S L k->Ext A h h' k:=fun k hk=>by
  rcases hk with hk|⟨i,hi,a1,a2⟩
  ·exact .inl hk
  ·have m1:=t.mono hg f (aQ i) (bO (I.lN i hi));have m2:=t.mono hg f (show i+1<=r.length from I.lN i hi) (af _);rw[t.h0]at m1;rw[t.hN]at m2;exact .inr aa
 have hmo:Mo (AL A S L) (Ext A h h') ρ1 ρ1:=⟨hAL,fun _ _=>rfl⟩;obtain⟨wfN,gN⟩:=t.gd hg f r.length (af _);rw[t.hN]at wfN gN;have hq:∀i,s<=i->i<r.length->(S (i+1)).wr=false:=fun i h1 h2=>by
  cases hw:(S (i+1)).wr with
  |false=>rfl
  |true=>exact absurd (hall i h2) (I.sr i h1 h2 hw)
 have hlv:∀k b,h'.get k=some b->Lv S L s k b:=fun k b e=>by
  by_cases hk:k<(S 0).h.next
  ·refine .inl ⟨hk,?_⟩;rw[<-jr t hg f I.s0 (af _) (aS hk (t.mono hg f (aQ _) I.s0)) hq,t.hN];exact e
  ·have hkN:k<(S r.length).h.next:=by rw[t.hN];exact wfN.lt k b (kO e)
   obtain⟨q,hq1,a1,a2⟩:=t.owner (dQ hk) hkN;refine .inr ⟨q,hall q hq1,a1,a2,?_⟩;have hs0:=I.s0;rw[<-jr t hg f (x:=max s (q+1)) (y:=r.length) aa (af _) (aS a2 (t.mono hg f aa aa)) (fun i i1 i2=>hq i aa i2),t.hN];exact e
 refine⟨⟨fun k hk=>I.rho k (by rw[t.h0];exact hk),⟨fun k b e=>?_,fun k k' hl hl' hk=>?_,wfN.bd⟩,I.lt,fun b hb hx=>I.fr b hb (by rw[t.h0];exact hx),fun k hk hl=>?_⟩,⟨fun u=>?_,I.sz,fun k hk=> .inl (hf.nm k hk),?_⟩⟩
 ·obtain⟨b1,b2⟩:=I.blk k b (hlv k b e);have hAk:AL A S L k:=by
   rcases hlv k b e with⟨hk,e2⟩|⟨i,hi,a1,a2,_⟩
   ·rw[t.h0]at hk;exact .inl (tR.live (gN.good.back hk (bH e))).2.1
   ·exact .inr ⟨i,hi,a1,a2⟩
  exact⟨wfN.lt k b (kO e),hAL k hAk,b1,b2.mo hmo (Lt.refl _) rfl⟩
 ·obtain⟨b,eb⟩:=cU.1 hl;obtain⟨b',eb'⟩:=cU.1 hl';exact I.inj k b k' b' (hlv k b eb) (hlv k' b' eb') hk
 ·obtain⟨b,eb⟩:=cU.1 hl;have:=I.new k b (hlv k b eb) (by rw[t.h0];exact hk);rwa[t.h0]at this
 ·refine VR.mo hmo (Lt.refl _) _ _ ?_;rw[<-t.tmN];have hlo:∀{i:Nat} {o:Oper},ops[i]?=some o->i<r.length:=fun ho=>by rw[st.len];exact(gS.1 ho).1
  rcases Kj t st hn u r.length (af _)with⟨i,o',h1,h2,h3,h4,h5⟩|⟨h1,h2⟩
  ·rw[h5];rcases I.tmv u with⟨i',o'',k1,k2,k3,k4,k5⟩|⟨k1,k2⟩
   ·have : i' = i := by
     rcases mN i i' with e|e|e
     ·exact absurd k3 (h4 i' o'' (hlo k2) e k2)
     ·exact e.symm
     ·exact absurd h3 (k4 i o' (hall i h1) e h2)
    subst this;exact k5
   ·exact absurd h3 (k1 i o' (hall i h1) h2)
  ·rw[h2];rcases I.tmv u with⟨i',o'',k1,k2,k3,k4,k5⟩|⟨k1,k2⟩
   ·exact absurd k3 (h1 i' o'' (hlo k2) k2)
   ·exact k2
 ·rw[I.df];exact jh fun k hk=>by
   unfold wj;rw[I.rho k (by rw[t.h0];exact hd k (hf.nm k hk))]
theorem Vv(hrec:nD P rec)(hg:fj rec)(t:Trace rec r tm h tm' h' S)(st:Stat P n ops r)(f:Wf h)(hn:n<1000000){F:Fence}(hF:FC F){Q:Exit->Act->World->Prop}{a0:Act}(tR:Rel P A ρ w h)(hd:Dj A h h')(hf:Fr P A ρ w n ds tm a0)
  (hq:∀ρ' w' a',cP P A ρ w h ρ' w' h'->Fr P (Ext A h h') ρ' w' n ds tm' a'->Q .normal a' w'):∀(fuel:Nat) (listed:Array Bool) (a:Act) (w1:World) (s:Nat) (ρ1:Nat->Nat) (U:List Nat),listed.size=ops.size->U.length<=fuel->(∀i,i<ops.size->listed.getD i false=false->i∈U)->
   Inv P S ops r h' n ds A ρ w (fun i=>listed.getD i false=true) s ρ1 a w1->wpAnyIn F 0 P .any ops Q fuel listed a w1:=by
 have hsz:=st.len;have done:∀(listed:Array Bool) (a:Act) (w1:World) (s:Nat) (ρ1:Nat->Nat),(∀i,i<ops.size->listed.getD i false=true)->Inv P S ops r h' n ds A ρ w (fun i=>listed.getD i false=true) s ρ1 a w1->Q .normal a w1:=fun listed a w1 s ρ1 hall I=>by
  obtain⟨p,fr⟩:=Ty I t st hg f hn (fun i hi=>hall i aa) tR hd hf;exact hq ρ1 w1 a p fr
 have unl:∀(listed:Array Bool) (j:Nat),listed.size=ops.size->listed.getD j true=false->j<ops.size/\listed.getD j false=false:=fun listed j hs hl=>by
  rw[cV]at hl
  cases e:listed[j]? with
  |none=>rw[e]at hl;simp at hl
  |some b=>
   rw[e]at hl;have hlt:=(gS.1 e).1;refine⟨by omega,?_⟩;rw[cV,e];simpa using hl
 intro fuel
 induction fuel with
 |zero=>
  intro listed a w1 s ρ1 U hs hU hin I;have hUn:U=[]:=fN aa;subst hUn;have hall:∀i,i<ops.size->listed.getD i false=true:=fun i hi=>by
   cases hb:listed.getD i false with
   |true=>rfl
   |false=>exact absurd (hin i hi hb) aK
  refine⟨?_,done listed a w1 s ρ1 hall I⟩
  cases hr:Region.ready .any ops listed with
  |nil=>rfl
  |cons x xs=>
   exfalso;have hx:x∈Region.ready .any ops listed:=by rw[hr];exact bF
   obtain⟨h1,h2⟩:=unl listed x hs (mem_ready.1 hx).1;rw[hall x h1]at h2;cases h2
 |succ fuel ih=>
  intro listed a w1 s ρ1 U hs hU hin I;refine⟨fun hr=>?_,fun j hj=>?_⟩
  ·refine done listed a w1 s ρ1 (fun i=>?_) I
   induction i using Nat.strongRecOn with
   |_ i ihi=>
    intro hi
    cases hb:listed.getD i false with
    |true=>rfl
    |false=>
     exfalso;have hmem:i∈Region.ready .any ops listed:=by
      refine mem_ready.2 ⟨?_,ops[i],mR hi,fun e he hbd=>?_⟩
      ·have e:=mR (xs:=listed) (i:=i) aa;rw[cV,e]at hb⊢;simpa using hb
      ·have hlt:=st.edge i ops[i] e (mR hi) tN hbd;exact ihi e.on hlt aa
     rw[hr]at hmem;cases hmem
  ·obtain⟨h1,o,ho,h3⟩:=mem_ready.1 hj;obtain⟨hjs,hjl⟩:=unl listed j hs h1;obtain⟨ro,G,h1',hr,hdst,_,sg⟩:=SK hrec hg t st f ho;have hpre:∀q,ro.pre.testBit q=true->listed.getD q false=true:=fun q hq=>by
    obtain⟨e,he,hbd,hx⟩:=st.pre j o ro q ho hr hq;have hl:=h3 e tN hbd;rcases hx with hx|⟨ro',hr',hq'⟩
    ·rw[<-hx];exact hl
    ·exact I.cl e.on ro' q hl hr' hq'
   have M:pq rec P S ops r tm h tm' h' n A (fun i=>listed.getD i false=true) j o ro G h1':=⟨t,st,hg,f,hn,ho,hr,by simp only[hjl];simp,hpre,hdst,sg,hd,fun k hk=>(tR.live hk).2.1⟩;refine sg.wp F hF Q _ _ ρ1 w1 a (I.rel M) (I.dj M) (I.slots t st hn ho hr M.hj hpre) fun u w2 ρ2 p hu=>?_;have I2:=I.step M p hu;have hset:∀i,(listed.setIfInBounds j true).getD i false=true↔(listed.getD i false=true\/i=j):=fun i=>by
    by_cases e:i=j
    ·subst e;simp[cV,sQ,show i<listed.size by omega]
    ·simp[cV,Ek (Ne.symm e),e]
   have hfun:(fun i=>listed.getD i false=true\/i=j)=(fun i=>(listed.setIfInBounds j true).getD i false=true):=funext fun i=>propext (hset i).symm;rw[hfun]at I2;have hjU:j∈U:=hin j hjs hjl;refine ih _ _ _ _ _ (U.erase j) (by simp[hs]) (by rw[List.length_erase_of_mem hjU];omega) (fun i hi hb=>?_) I2;have hne:i≠j:=fun e=>by
    have:=(hset i).2 (.inr e);rw[this]at hb;cases hb
   have hb':listed.getD i false=false:=by
    cases hx:listed.getD i false with
    |false=>rfl
    |true=>rw[(hset i).2 (.inl hx)]at hb;cases hb
   exact(List.mem_erase_of_ne hne).2 (hin i hi hb')
theorem Ta(hmix:P.follows .mixedOrders=true)(rec:Rec)(hrec:nD P rec)(hg:fj rec):GI P rec:=by
 intro F hF Q ops id n hn r hc tm h tm' h' e f A ρ w a ds tR hd hf hq;obtain⟨S,t⟩:=Oe e;have st:=SO hc;refine wpIn_region_any hmix (Vv hrec hg t st f hn hF tR hd hf hq ops.size _ a _ 0 ρ (List.range ops.size) aK aK (fun i hi _=>List.mem_range.2 hi) ?_);have I:=Nf (ops:=ops) t tR hf;have hfun:(fun _:Nat=>False)=(fun i=>(Array.replicate ops.size false).getD i false=true):=funext fun i=>propext (by
  simp only[false_iff,cV,Ej];split<;>simp)
 rw[hfun]at I;exact I
theorem Me(hmix:P.follows .mixedOrders=true)(hO:AH P E)(hfn:E.fns=rU P){N g:Nat}(hE:Enters P g){c:C}{h':H}(e:run E N (.call (.fn g []) [] ⟨0,0,[], .e⟩)=some (.val c h'))(w:World):
  Calls P g #[] w (fun e w'=>∃u A ρ,e= .returned u/\VR P A ρ w' c u/\Rel P A ρ w' h'/\Below w.heap.size w w'):=by
 have hok:=(UR hO hfn (fun rec h1 h2=>Ta hmix rec h1 h2) N).1;have hbare:∀k,(⟨0,0,[], .e⟩:H).get k=none:=uQ 0;have tR:Rel P (fun _=>False) (fun _=>0) w ⟨0,0,[], .e⟩:=⟨(fun k b e=>by rw[hbare]at e;cases e),(fun k _ hl=>by unfold H.live at hl;rw[hbare]at hl;cases hl),by simp⟩;obtain⟨d,hd,hk⟩:=hok _ _ _ _ _ e ⟨by simp,(fun k b e=>by rw[T.Ak]at e;cases e)⟩ (fun _=>False) (fun _=>0) w (.func (.func g) #[] #[]) #[] tR (fun k hk=>hk.elim) (by simp only[VR,VRl];exact⟨_,rfl,rfl⟩) (by simp only[VRl]);rcases hk with⟨g',args',q1,q2⟩|⟨l,g',tmps,s,b,q0,_⟩
 ·have hkey : g' = g /\ args' = #[] := by
   obtain⟨d',r1,r2⟩:=vZ hE #[] #[] w;rw[r1]at hd;simp only[Result.ok.injEq,and_true]at hd;rw[<-hd,r2]at q1;simp only[Result.ok.injEq,Next.enter.injEq,and_true]at q1;exact⟨q1.1.symm,by rw[<-q1.2];rfl⟩
  obtain⟨rfl,rfl⟩:=hkey;refine(callsIn_wide.1 q2).mono fun e' w' ⟨u,ρ',h1,p,hu⟩=>⟨u,_,ρ',h1,hu,p.rel,p.lt.os,p.lt.tape,p.lt.output,p.lt.size,fun k hk=>p.fr k hk fun j hl=>?_⟩;unfold H.live at hl;rw[hbare]at hl;cases hl
 ·cases q0
end CI
end
section
open Go.RowKit Go.BigFrame
attribute [local go_sem ↓] Go.wp_at_zero Go.wp_at_succ
theorem G2(r y:Nat):4*(r*y)<=(r+y)*(r+y):=by
 rcases Nat.le_total r y with h|h<;>obtain⟨d,rfl⟩:=Nat.le.dest h
 ·have:(r+(r+d))*(r+(r+d))=4*(r*(r+d))+d*d:=by grind
  omega
 ·have:(y+d+y)*(y+d+y)=4*((y+d)*y)+d*d:=by grind
  omega
theorem MJ{a r:Nat}(hr:0<r):a<((r+a/r)/2+1)*((r+a/r)/2+1):=by
 have h1:a<r*(a/r+1):=by
  have:=mP a r;have:=eu a hr;rw[jc,eX];omega
 generalize a/r=q at*;have h2:=G2 r (q+1);have h3:r+(q+1)<=2*((r+q)/2+1):=by omega
 generalize(r+q)/2+1=m at*;have h4:=cv h3 h3;have h5:2*m*(2*m)=4*(m*m):=by grind
 omega
theorem Kz{a r:Nat}(h:r<=(r+a/r)/2):r*r<=a:=by
 have h1:r<=a/r:=by omega
 exact aH (dR r h1) (Nat.mul_div_le a r)
theorem GW(n:Nat):Dg.NF B32 ((List.replicate (n+1) 0).set n 1)/\Dg.vl B32 ((List.replicate (n+1) 0).set n 1)=B32^n:=by
 have e:(List.replicate (n+1) 0).set n 1=List.replicate n 0++[1]:=by
  rw[List.replicate_succ',Eh _ _ aK];simp
 rw[e];refine⟨⟨Dg.ns (Dg.iS av _) (fun x hx=>by rw[bU.1 hx];decide),by simp⟩,?_⟩;rw[Dg.fm,Dg.tZ];simp[Dg.vl]
theorem cC.Pj(W:World)(N k d:Nat)(hk:k<N):cC (W.alloc (.cells ((madeCells #[.int .u32 0] N).setIfInBounds k (.int .u32 (d:Int))) 138)) W.heap.size ((List.replicate N 0).set k d):=by
 have h:=(cC.made W N).set (k:=k) (by simpa using hk) d;simpa only[go_sem]using h
structure RC(wr:World)(a:Option Addr)(l:List Nat)(L k:Nat)(a1:Option Addr)(l1:List Nat)(c1:Nat):Prop where
 w0:WS wr a l
 w1:WS wr a1 l1
 n1:Dg.NF B32 l1
 h1:l1.length<=c1
 b1:l1.length<=L
 p:0<Dg.vl B32 l1
 u:Dg.vl B32 l<(Dg.vl B32 l1+1)*(Dg.vl B32 l1+1)
 k:k=Dg.vl B32 l1
def RtRes(u:Nat)(e:Ending)(w':World):Prop:=∃z r,e= .returned (.tuple #[.agg #[.bool z.s,.slice z.a z.n z.cap],.int .i64 0])/\IZ w' z ((r:Nat):Int)/\r*r<=u/\u<(r+1)*(r+1)
set_option maxRecDepth 10000 in
set_option maxHeartbeats 8000000 in
theorem OL(x:IV)(u:Int)(fu:Fit u)(hu:0<=u)(w:World)(hx:IP w x u):
  Calls Tryz.prog 203 #[.agg #[.bool x.s,.slice x.a x.n x.cap]] w fun e w'=>RtRes u.toNat e w'/\Below w.heap.size w w':=by
 obtain⟨l,h1,rfl⟩:=hx;have bl:=iB h1.nf fu;have S1:=ae (fun w (h:IW w x l)=>gY x l aa w h);have H1:=ae h1;by_cases hl0:l=[]
 ·have hv0:Dg.iv x.s (Dg.vl B32 l)=0:=by rw[hl0];exact Dg.tv _
  rw[hv0];have hml:l.length=0:=by rw[hl0];rfl
  rw[hml]at S1;obtain⟨s,a,n,cap⟩:=x;simp only[]at S1;clear h1 fu hv0 hml hl0 hu
  go_enter Tryz.func203,Tryz.ntmps203
  go_wp2_with (first|(go_at_call 163;(with_reducible refine(S1.out _ ?_).mono ?_);(exact H1.out.below (B:=w.heap.size) ao (af _));rintro e w1 ⟨rfl,hb1⟩;obtain⟨g1,rfl⟩:=mob hb1;clear hb1))
  refine bodyPost_ret (v:=.tuple #[.agg #[.bool ((⟨false,none,0,0⟩:IV)).s,.slice ((⟨false,none,0,0⟩:IV)).a ((⟨false,none,0,0⟩:IV)).n ((⟨false,none,0,0⟩:IV)).cap],.int .i64 0]) (by simp[results,Tryz.results203,go_sem]) rfl ?_;exact⟨⟨⟨false,none,0,0⟩,0,rfl,IZ.zero _,by simp,by simp⟩,by exact bel⟩
 have hvp:=Dg.lF h1.nf hl0 av;have hs:x.s=false:=by
  cases hxs:x.s with
  |false=>rfl
  |true=>rw[hxs]at hu;simp[Dg.iv]at hu;omega
 have hut:(Dg.iv x.s (Dg.vl B32 l)).toNat=Dg.vl B32 l:=by rw[hs];simp[Dg.iv]
 rw[hut];have hlp:0<l.length:=il.2 hl0;obtain⟨n,hn⟩:∃n,n=l.length/2+1:=⟨_,rfl⟩;have m1:¬l.length=0:=by omega
 have m2:¬(l.length:Int)=0:=by omega
 have m3:((l.length:Int)==0)=false:=by simpa using hl0
 have hmk:∀w:World,(Instr.makeSlice 176 (.int .i64 ((l.length:Int)/2+2)) (.int .i64 ((l.length:Int)/2+2))).run Tryz.prog w= .ok (.slice (some ⟨w.heap.size,0,none⟩) (n+1) (n+1)) (w.alloc (.cells (madeCells #[.int .u32 0] (n+1)) 138)):=fun w=>by
  have:=run_make_row' (P:=Tryz.prog) 176 138 (.int .u32 0) 4 Tryz.underlying176 nK rfl .i64 .i64 (n+1) aa aa w;rw[show((n+1:Nat):Int)=(l.length:Int)/2+2 by omega]at this;exact this
 have start:Hid (Dg.vl B32 l<(B32^n+1)*(B32^n+1)):=by
  refine aS (Dg.cr h1.nf.dg) (aH (cH (n:=B32) av (show l.length<=n+n by omega)) ?_);rw[fC];exact cv (jJ _) (jJ _)
 have DV:=ae (fun lb a b ca cb hb hb0 hca w h1' h2=>uK l lb a b ca cb h1.nf hb hb0 aa hca w h1' h2);have MA:=ae (fun (k:List Nat) a c (hc:k.length<=c) (hk:Dg.NF B32 k) (hb:k.length<=3000000000000) w h=>mc false k a c hb hc hk.dg w h);obtain⟨s,a,p0,cap⟩:=x;simp only[]at S1 DV hs;subst hs;clear h1 fu hu hut hl0 hvp;generalize hq:l.length=q at*;have HQ:=ae hq;have HN:=0;clear hq HN;subst hn
 go_enter Tryz.func203,Tryz.ntmps203
 go_upto_region 7 with(first|(go_at_call 163;(with_reducible refine(S1.out _ ?_).mono ?_);(exact H1.out.below (B:=w.heap.size) ao (af _));rintro e w1 ⟨rfl,hb1⟩;obtain⟨g1,rfl⟩:=mob hb1;clear hb1))
 have RU:=cC.made (more ((w.alloc (.cells #[.bool false,.slice a p0 cap] 62)).alloc (.cells #[.bool false,.slice none 0 0] 62)) g1) (q/2+1+1);have HB:=ae RU;have c0:=RU.cell (k:=q/2+1) aK;have f0:=RU.frozen (q/2+1);simp only[jj,World.size_alloc]at c0 f0;clear RU hmk;have hB0:Below w.heap.size w (more ((w.alloc (.cells #[.bool false,.slice a p0 cap] 62)).alloc (.cells #[.bool false,.slice none 0 0] 62)) g1):=by exact bel
 have G0:Hid (RC ((more ((w.alloc (.cells #[.bool false,.slice a p0 cap] 62)).alloc (.cells #[.bool false,.slice none 0 0] 62)) g1).alloc (.cells ((madeCells #[.int .u32 0] (q/2+1+1)).setIfInBounds (q/2+1) (.int .u32 1)) 138)) a l 300000000000 (B32^(q/2+1)) (some ⟨w.heap.size+1+1+g1.2.size,0,none⟩) ((List.replicate (q/2+1+1) 0).set (q/2+1) 1) (q/2+1+1)):=by
  obtain⟨n1,n2⟩:=GW (q/2+1);refine⟨H1.out.ws.below (hB0.trans (Below.alloc (Below.refl _ _) hB0.size _)) (af _),?_,n1,by simp,by simp;omega,by rw[n2];exact eH av,by rw[n2];exact start.out,n2.symm⟩;have:=(cC.Pj (more ((w.alloc (.cells #[.bool false,.slice a p0 cap] 62)).alloc (.cells #[.bool false,.slice none 0 0] 62)) g1) (q/2+1+1) (q/2+1) 1 aa).ws;simp only[jj,World.size_alloc]at this;exact this
 go_wp2_with fail
 clear hB0 start c0 f0 HB
 go_loopg [5] (B32^(q/2+1)) (fun k A wr=>∃(a1:Option Addr) (l1:List Nat) (c1:Nat),A= .slice a1 l1.length c1/\Ext ((more ((w.alloc (.cells #[.bool false,.slice a p0 cap] 62)).alloc (.cells #[.bool false,.slice none 0 0] 62)) g1).alloc (.cells ((madeCells #[.int .u32 0] (q/2+1+1)).setIfInBounds (q/2+1) (.int .u32 1)) 138)) wr/\Hid (RC wr a l 300000000000 k a1 l1 c1))
 case atStart=>exact⟨_,_,q/2+1+1,by simp,Ext.refl _,G0.out⟩
 case round=>
  obtain⟨a1,l1,c1,rfl,hext,HG⟩:=hrel;obtain⟨gx,rfl⟩:=mob (Ext.below hext);clear hext G0;have PL:Hid (∀(k m:List Nat) (a b:Option Addr) (c cb:Nat),Dg.NF B32 k->Dg.NF B32 m->k.length<=300000000000->m.length<=300000000000->∀w,WS w a k->WS w b m->Calls Tryz.prog 194 #[.slice a k.length c,.slice b m.length cb] w fun e w'=>sD w' e (Dg.vl B32 k+Dg.vl B32 m)/\Below w.heap.size w w'):=
   fun k m a b c cb hk hm bk bm w ha hb=>yu k m a b c cb hk.dg hm.dg aa aa w ha hb
  have SH:Hid (∀(k:List Nat) (a:Option Addr) (c:Nat),Dg.NF B32 k->k.length<=1000000000000->∀w,WS w a k->Calls Tryz.prog 209 #[.slice a k.length c,.int .u32 2] w fun e w'=>(∃a' l',e= .returned (.tuple #[.slice a' l'.length l'.length,.int .u32 ((Dg.vl B32 k%2:Nat):Int)])/\WS w' a' l'/\Dg.NF B32 l'/\Dg.vl B32 l'=Dg.vl B32 k/2)/\Below w.heap.size w w'):=
   fun k a c hk bk w ha=>vI k a c 2 aa hk.dg bk w ha
  have CM:=ae (fun (k m:List Nat) (a b:Option Addr) (c cb:Nat) (hk:Dg.NF B32 k) (hm:Dg.NF B32 m) (bk:k.length<=3000000000000) w ha hb=>lG k m a b c cb hk hm bk w ha hb);have hne:l1≠[]:=fun e=>by have:=HG.out.p;rw[e]at this;simp[Dg.vl]at this
  have DV1:=ae (DV.out l1 a a1 q c1 HG.out.n1 hne (af _) _ HG.out.w0 HG.out.w1);clear DV hne;obtain⟨U,hU⟩:∃U,U=(Dg.vl B32 l1+Dg.vl B32 l/Dg.vl B32 l1)/2:=⟨_,rfl⟩;have UP:Hid (Dg.vl B32 l<(U+1)*(U+1)):=by rw[hU];exact MJ HG.out.p
  have UE:Hid (Dg.vl B32 l1<=U->Dg.vl B32 l1*Dg.vl B32 l1<=Dg.vl B32 l):=by rw[hU];exact Kz
  have U0:Hid (0<U):=by
   have h1:=HG.out.p;have h2:=UP.out;rcases Nat.eq_zero_or_pos U with h3|h3
   ·rw[h3]at h2;have h4:Dg.vl B32 l=0:=by omega
    exact absurd (Dg.lF H1.out.nf (fun e=>by have:=HQ.out;rw[e]at this;simp at this;omega) av) aa
   ·exact h3
  have HU:=ae hU;clear hU;by_cases hlt:U<Dg.vl B32 l1
  ·have cz:iy U (Dg.vl B32 l1)= -1:=by unfold iy;rw[ak hlt]
   have CZ:=ae cz;have HLT:=ae hlt;clear cz hlt
   go_wp2_with (first|(go_at_call 193;(with_reducible refine(DV1.out).mono ?_);rintro e w3 ⟨a3,l3,c3,a4,l4,c4,rfl,d1,d2,d3,d4,d5,d6,d7,d8,hb3⟩;have D:=ae (And.intro d1 (And.intro d3 (And.intro d5 d7)));clear d1 d2 d3 d4 d5 d6 d7 d8;have HB3:=ae hb3;obtain⟨g3,rfl⟩:=mob hb3;clear hb3)|(go_at_call 194;(with_reducible refine(PL.out l1 l3 a1 a3 c1 c3 HG.out.n1 D.out.2.2.1 HG.out.b1 ?_ _ ?_ ?_).mono ?_);(focus(refine aH (iT D.out.2.2.1 H1.out.nf.dg ?_) ?_;(focus(rw[D.out.2.2.2];exact tW _ _));(focus(rw[HQ.out];omega))));(exact HG.out.w1.below HB3.out (af _));(exact D.out.2.1);rintro e w5 ⟨⟨a5,l5,rfl,r1,r2,r3⟩,hb5⟩;have R5:=ae (And.intro r1 (And.intro r2 r3));clear r1 r2 r3;have HB5:=ae (HB3.out.trans (hb5.mono HB3.out.size));obtain⟨g5,rfl⟩:=mob hb5;clear hb5)|(go_at_call 209;(with_reducible refine(SH.out l5 a5 l5.length R5.out.2.1 ?_ _ R5.out.1).mono ?_);(focus(have h5:=vE (Dg.cr HG.out.n1.dg) (Dg.cr D.out.2.2.1.dg);rw[<-R5.out.2.2]at h5;have h6:=oV R5.out.2.1 h5;have h7:=HG.out.b1;have h8:l3.length<=q:=zb55;omega));rintro e w6 ⟨⟨a6,l6,rfl,r1,r2,r3⟩,hb6⟩;rw[R5.out.2.2,D.out.2.2.2,<-HU.out]at r3;have R6:=ae (And.intro r1 (And.intro r2 r3));clear r1 r2 r3;have HB6:=ae (HB5.out.trans (hb6.mono HB5.out.size));obtain⟨g6,rfl⟩:=mob hb6;clear hb6)|(go_at_call 208;(with_reducible refine(CM.out l6 l1 a6 a1 l6.length c1 R6.out.2.1 HG.out.n1 ?_ _ R6.out.1 (HG.out.w1.below HB6.out (af _))).mono ?_);(focus(have h9:=iT R6.out.2.1 HG.out.n1.dg (by rw[R6.out.2.2];exact bO HLT.out);have:=HG.out.b1;omega));rintro e w7 ⟨rfl,hb7⟩;rw[R6.out.2.2,CZ.out];have R7:=ae (R6.out.1.below hb7 (af _));have HB7:=ae (HB6.out.trans (hb7.mono HB6.out.size));obtain⟨g7,rfl⟩:=mob hb7;clear hb7))
   go_roundg U
   case measure=>rw[HG.out.k];exact HLT.out
   case rel=>exact⟨a6,l6,l6.length,rfl,np ao,HG.out.w0.below HB7.out (af _),R7.out,R6.out.2.1,af _,aH (iT R6.out.2.1 HG.out.n1.dg (by rw[R6.out.2.2];exact bO HLT.out)) HG.out.b1,by rw[R6.out.2.2];exact U0.out,by rw[R6.out.2.2];exact UP.out,R6.out.2.2.symm⟩
  ·obtain⟨C,hC0,hC⟩:∃C:Int,0<=C/\iy U (Dg.vl B32 l1)=C:=⟨_,by unfold iy;rw[ah hlt];split<;>decide,rfl⟩;have CZ:=ae hC;have HE:=ae (UE.out (dQ hlt));have hC1:decide ((0:Int)<=C)=true:=by rw[cL];exact hC0
   clear hC hlt
   go_wp2_with (first|(go_at_call 193;(with_reducible refine(DV1.out).mono ?_);rintro e w3 ⟨a3,l3,c3,a4,l4,c4,rfl,d1,d2,d3,d4,d5,d6,d7,d8,hb3⟩;have D:=ae (And.intro d1 (And.intro d3 (And.intro d5 d7)));clear d1 d2 d3 d4 d5 d6 d7 d8;have HB3:=ae hb3;obtain⟨g3,rfl⟩:=mob hb3;clear hb3)|(go_at_call 194;(with_reducible refine(PL.out l1 l3 a1 a3 c1 c3 HG.out.n1 D.out.2.2.1 HG.out.b1 ?_ _ ?_ ?_).mono ?_);(focus(refine aH (iT D.out.2.2.1 H1.out.nf.dg ?_) ?_;(focus(rw[D.out.2.2.2];exact tW _ _));(focus(rw[HQ.out];omega))));(exact HG.out.w1.below HB3.out (af _));(exact D.out.2.1);rintro e w5 ⟨⟨a5,l5,rfl,r1,r2,r3⟩,hb5⟩;have R5:=ae (And.intro r1 (And.intro r2 r3));clear r1 r2 r3;have HB5:=ae (HB3.out.trans (hb5.mono HB3.out.size));obtain⟨g5,rfl⟩:=mob hb5;clear hb5)|(go_at_call 209;(with_reducible refine(SH.out l5 a5 l5.length R5.out.2.1 ?_ _ R5.out.1).mono ?_);(focus(have h5:=vE (Dg.cr HG.out.n1.dg) (Dg.cr D.out.2.2.1.dg);rw[<-R5.out.2.2]at h5;have h6:=oV R5.out.2.1 h5;have h7:=HG.out.b1;have h8:l3.length<=q:=zb55;omega));rintro e w6 ⟨⟨a6,l6,rfl,r1,r2,r3⟩,hb6⟩;rw[R5.out.2.2,D.out.2.2.2,<-HU.out]at r3;have R6:=ae (And.intro r1 (And.intro r2 r3));clear r1 r2 r3;have HB6:=ae (HB5.out.trans (hb6.mono HB5.out.size));obtain⟨g6,rfl⟩:=mob hb6;clear hb6)|(go_at_call 208;(with_reducible refine(CM.out l6 l1 a6 a1 l6.length c1 R6.out.2.1 HG.out.n1 ?_ _ R6.out.1 (HG.out.w1.below HB6.out (af _))).mono ?_);(focus(have h9:=iT R6.out.2.1 R5.out.2.1.dg (by rw[R6.out.2.2,R5.out.2.2,D.out.2.2.2,HU.out];exact tW _ _);have h5:=vE (Dg.cr HG.out.n1.dg) (Dg.cr D.out.2.2.1.dg);rw[<-R5.out.2.2]at h5;have h6:=oV R5.out.2.1 h5;have h7:=HG.out.b1;have h8:l3.length<=q:=zb55;omega));rintro e w7 ⟨rfl,hb7⟩;rw[R6.out.2.2,CZ.out];have R7:=ae (R6.out.1.below hb7 (af _));have HB7:=ae (HB6.out.trans (hb7.mono HB6.out.size));obtain⟨g7,rfl⟩:=mob hb7;clear hb7)|(go_at_call 162;(with_reducible refine(MA.out l1 a1 c1 HG.out.h1 HG.out.n1 (by have:=HG.out.b1;omega) _ (HG.out.w1.below HB7.out (af _))).mono ?_);rintro e w8 ⟨⟨y,rfl,hy⟩,hb8⟩;have HY:=ae (show IZ w8 y ((Dg.vl B32 l1:Nat):Int)from hy);clear hy;obtain⟨g8,rfl⟩:=mob hb8;clear hb8))
   refine bodyPost_ret (v:=.tuple #[.agg #[.bool y.s,.slice y.a y.n y.cap],.int .i64 0]) (by simp[results,Tryz.results203,go_sem]) rfl ?_;exact⟨⟨y,_,rfl,IZ.iw HY.out (by exact na),HE.out,HG.out.u⟩,by exact bel⟩
end
section
open Go.RowKit
namespace CI
def bnd(z:Int):Bool:=Nat.blt z.natAbs 1208925819614629174706176
def i64(n:Int):C:=.sc (.int .i64 n)
def o1(f:Int->Option C):Orc:=fun l=>match l with
 |[a]=>match Gy a with
  |some z=>match bnd z with
   |true=>f z
   |false=>none
  |none=>none
 |_=>none
def o2(f:Int->Int->Option C):Orc:=fun l=>match l with
 |[a,b]=>match Gy a with
  |some y=>match Gy b with
   |some z=>match bnd y with
    |true=>match bnd z with
     |true=>f y z
     |false=>none
    |false=>none
   |none=>none
  |none=>none
 |_=>none
def sg(z:Int):Int:=match z with| .negSucc _=>-1| .ofNat 0=>0| .ofNat (_+1)=>1
def sqf:Nat->Nat->Nat->Nat
 |0,_,r=>r
 |f+1,n,r=>match Nat.ble ((r+1)*(r+1)) n with
  |true=>sqf f n (r+1)
  |false=>r
def isz(z:Int):Bool:=match z with| .ofNat 0=>true|_=>false
def oAdd:Orc:=o2 fun a b=>some (.nm (a+b))
def oSub:Orc:=o2 fun a b=>some (.nm (a-b))
def oMul:Orc:=o2 fun a b=>some (.nm (a*b))
def Th:Orc:=o2 fun a b=>match isz b with|true=>none|false=>some (.tp [.nm (a/b),.nm (a%b),i64 0])
def oCmp:Orc:=o2 fun a b=>some (i64 (sg (a-b)))
def oGcd:Orc:=o2 fun a b=>some (.nm (Int.gcd a b))
def oOf:Orc:=fun l=>match l with
 |[.sc (.int .i64 n)]=>match Nat.blt n.natAbs 4611686018427387904 with
  |true=>some (.nm n)
  |false=>none
 |_=>none
def U3:Orc:=o1 fun a=>match Nat.blt a.natAbs 4611686018427387904 with
 |true=>some (.tp [i64 a,.sc (.bool true)])
 |false=>none
def Tg:Orc:=o1 fun a=>some (.nm a)
def rt(n r:Nat):Option C:=match Nat.ble (r*r) n with
 |true=>match Nat.blt n ((r+1)*(r+1))with
  |true=>some (.tp [.nm r,i64 0])
  |false=>none
 |false=>none
def oRoot:Orc:=o1 fun a=>match a with
 | .ofNat n=>rt n (sqf 10000 n 0)
 |_=>none
def oZero:Orc:=o1 fun a=>some (.sc (.bool (isz a)))
def oSign:Orc:=o1 fun a=>some (i64 (sg a))
def oNeg:Orc:=o1 fun a=>some (.nm (-a))
def oSize:Orc:=o1 fun a=>some (.nm a.natAbs)
def oQuo:Orc:=o2 fun a b=>match isz b with|true=>none|false=>some (.nm (a/b))
def zZ:List (Nat×Orc)->Nat->Option Orc
 |[],_=>none
 |(k,o)::l,n=>match Nat.beq k n with|true=>some o|false=>zZ l n
def orcT:List (Nat×Orc):=[(190,oAdd),(159,oSub),(117,oMul),(167,Th),(161,oCmp),(165,oGcd),(124,oOf),(120,U3),(112,Tg),(203,oRoot),(95,oZero),(101,oSign),(102,oNeg),(185,oSize),(121,oQuo)]
def theE(P:Program):Env:=⟨rU P,zZ orcT⟩
theorem Oj(P:Program):(theE P).fns=rU P:=rfl
theorem uG{z:Int}(h:bnd z=true):Fit z:=by
 unfold bnd at h;rw[bs]at h;exact⟨3,by omega,Nat.lt_trans h av⟩
section
variable {P : Program} {A : Nat->Prop} {ρ : Nat->Nat} {w : World}
theorem BV{c:C}{z:Int}{v:Value}(h:Gy c=some z)(hv:VR P A ρ w c v):∃x:IV,v= .agg #[.bool x.s,.slice x.a x.n x.cap]/\IZ w x z:=by
 unfold Gy at h;split at h
 ·cases h;simp only[VR]at hv;exact hv
 ·cases h;simp only[VR,VCs]at hv;obtain⟨cs,rfl,h1,u,r,h2,⟨h3,_⟩,h4,u2,r2,h5,⟨h6,_⟩,h7⟩:=hv;subst h3;subst h6;subst h7;subst h5;refine⟨⟨false,none,0,0⟩,?_,IZ.zero w⟩;have:cs= #[.bool false,.slice none 0 0]:=by apply Array.ext';rw[h2];rfl
  rw[this]
 ·cases h
def Ans(P:Program)(g:Nat)(vs:Array Value)(w:World)(c:C):Prop:=Calls P g vs w (fun e w'=>∃u,e= .returned u/\(∀A ρ,VR P A ρ w' c u)/\Below w.heap.size w w')
theorem Ans.calls{g:Nat}{vs:Array Value}{c:C}(h:Ans P g vs w c)(A:Nat->Prop)(ρ:Nat->Nat):Calls P g vs w (fun e w'=>∃u,e= .returned u/\VR P A ρ w' c u/\Below w.heap.size w w'):=by
 unfold Ans at h;refine h.mono ?_;rintro e w' ⟨u,h1,h2,h3⟩;exact⟨u,h1,h2 A ρ,h3⟩
theorem uu{g:Nat}{f:Int->Option C}(hE:Enters P g)(H:∀(x:IV) (z:Int) (w:World) (c:C),Fit z->IZ w x z->f z=some c->Ans P g #[.agg #[.bool x.s,.slice x.a x.n x.cap]] w c):
  ∀args r,o1 f args=some r->∀A ρ w vs,VRl P A ρ w args vs.toList->Enters P g/\Calls P g vs w (fun e w'=>∃u,e= .returned u/\VR P A ρ w' r u/\Below w.heap.size w w'):=by
 intro args r e A ρ w vs hv;refine⟨hE,?_⟩;unfold o1 at e;split at e
 ·next a=>
  split at e
  ·next z hz=>
   split at e
   ·next hb=>
    simp only[VRl]at hv;obtain⟨u,r',h1,h2,h3⟩:=hv;subst h3;obtain⟨x,rfl,hx⟩:=BV hz h2;have:vs= #[.agg #[.bool x.s,.slice x.a x.n x.cap]]:=by apply Array.ext';rw[h1]
    rw[this];exact(H x z w r (uG hb) hx e).calls A ρ
   ·cases e
  ·cases e
 ·cases e
theorem ur{g:Nat}{f:Int->Int->Option C}(hE:Enters P g)(H:∀(x y:IV) (u v:Int) (w:World) (c:C),Fit u->Fit v->IZ w x u->IZ w y v->f u v=some c->Ans P g #[.agg #[.bool x.s,.slice x.a x.n x.cap],.agg #[.bool y.s,.slice y.a y.n y.cap]] w c):
  ∀args r,o2 f args=some r->∀A ρ w vs,VRl P A ρ w args vs.toList->Enters P g/\Calls P g vs w (fun e w'=>∃u,e= .returned u/\VR P A ρ w' r u/\Below w.heap.size w w'):=by
 intro args r e A ρ w vs hv;refine⟨hE,?_⟩;unfold o2 at e;split at e
 ·next a b=>
  split at e
  ·next y hy=>
   split at e
   ·next z hz=>
    split at e
    ·next hb=>
     split at e
     ·next hb2=>
      simp only[VRl]at hv;obtain⟨u,r',h1,h2,u2,r2,h4,h5,h3⟩:=hv;subst h3;subst h4;obtain⟨x,rfl,hx⟩:=BV hy h2;obtain⟨x2,rfl,hx2⟩:=BV hz h5;have:vs= #[.agg #[.bool x.s,.slice x.a x.n x.cap],.agg #[.bool x2.s,.slice x2.a x2.n x2.cap]]:=by apply Array.ext';rw[h1]
      rw[this];exact(H x x2 y z w r (uG hb) (uG hb2) hx hx2 e).calls A ρ
     ·cases e
    ·cases e
   ·cases e
  ·cases e
 ·cases e
theorem vr_nm{z:Int}{x:IV}(h:IZ w x z)(A:Nat->Prop)(ρ:Nat->Nat):VR P A ρ w (.nm z) (.agg #[.bool x.s,.slice x.a x.n x.cap]):=by
 simp only[VR];exact⟨x,rfl,h⟩
theorem zz(n:Int)(A:Nat->Prop)(ρ:Nat->Nat):VR P A ρ w (i64 n) (.int .i64 n):=by
 simp only[i64,VR];exact⟨trivial,rfl⟩
theorem Sr(b:Bool)(A:Nat->Prop)(ρ:Nat->Nat):VR P A ρ w (.sc (.bool b)) (.bool b):=by
 simp only[VR];exact⟨trivial,rfl⟩
theorem nA{g:Nat}{vs:Array Value}{z:Int}(h:Calls P g vs w fun e w'=>(∃x:IV,e= .returned (.agg #[.bool x.s,.slice x.a x.n x.cap])/\IZ w' x z)/\Below w.heap.size w w'):Ans P g vs w (.nm z):=by
 unfold Ans;refine h.mono ?_;rintro e w' ⟨⟨x,rfl,hx⟩,hb⟩;exact⟨_,rfl,vr_nm hx,hb⟩
theorem IG{g:Nat}{vs:Array Value}{z:Int}(h:Calls P g vs w fun e w'=>e= .returned (.int .i64 z)/\Below w.heap.size w w'):Ans P g vs w (i64 z):=by
 unfold Ans;refine h.mono ?_;rintro e w' ⟨rfl,hb⟩;exact⟨_,rfl,zz z,hb⟩
end
theorem Rx(z:Int):sg z=sgn z:=by
 unfold sg sgn;split
 ·next n=>
  have h:Int.negSucc n<0:=Int.negSucc_lt_zero n;generalize Int.negSucc n=z at*;rw[ah aa,ak aa]
 ·rfl
 ·next n=>
  have h:(0:Int)<Int.ofNat (n+1):=Int.natCast_pos.2 (Nat.succ_pos n);generalize Int.ofNat (n+1)=z at*;rw[ah aa,ah aa]
theorem Nd(z:Int):isz z=decide (z=0):=by
 unfold isz;split
 ·rfl
 ·next h=>
  symm;rw[bN];intro e;exact h e
theorem Ve{z:Int}(h:isz z=false):z≠0:=by
 rw[Nd]at h;simpa using h
theorem Mi{n r s:Nat}(h1:r*r<=n)(h2:n<(r+1)*(r+1))(h3:s*s<=n)(h4:n<(s+1)*(s+1)):r=s:=by
 have k1:r<s+1:=wW fun h=>by have:=cv h h;omega
 have k2:s<r+1:=wW fun h=>by have:=cv h h;omega
 omega
theorem Cp:∀{l:List (Nat×Orc)} {n:Nat} {o:Orc},zZ l n=some o->(n,o)∈l
 |[],_,_,h=>by cases h
 |(k,o')::l,n,o,h=>by
  unfold zZ at h;split at h
  ·next hb=>
   cases h;rw[eZ hb];exact bF
  ·exact bJ _ (Cp h)
theorem Tf:AH Tryz.prog (theE Tryz.prog):=by
 intro g f hg;have hm:=Cp (show zZ orcT g=some f from hg);simp only[orcT,bP,aR,List.not_mem_nil,or_false]at hm;rcases hm with⟨rfl,rfl⟩|⟨rfl,rfl⟩|⟨rfl,rfl⟩|⟨rfl,rfl⟩|⟨rfl,rfl⟩|⟨rfl,rfl⟩|⟨rfl,rfl⟩|⟨rfl,rfl⟩|⟨rfl,rfl⟩|⟨rfl,rfl⟩|⟨rfl,rfl⟩|⟨rfl,rfl⟩|⟨rfl,rfl⟩|⟨rfl,rfl⟩|⟨rfl,rfl⟩
 ·exact ur (enters_of Tryz.func190 (by kernel_rfl) rfl) fun x y u v w c fu fv hx hy e => by
   cases e;exact nA (xK x y u v fu fv w hx.ip hy.ip)
 ·exact ur (enters_of Tryz.func159 (by kernel_rfl) rfl) fun x y u v w c fu fv hx hy e => by
   cases e;exact nA (nL x y u v fu fv w hx.ip hy.ip)
 ·exact ur (enters_of Tryz.func117 (by kernel_rfl) rfl) fun x y u v w c fu fv hx hy e => by
   cases e;exact nA (iA x y u v fu fv w hx.ip hy.ip)
 ·exact ur (enters_of Tryz.func167 (by kernel_rfl) rfl) fun x y u v w c fu fv hx hy e => by
   split at e
   ·cases e
   ·next hz=>
    cases e;have hv:=Ve hz;unfold Ans;refine(Ar x y u v fu fv w hx.ip hy.ip).mono ?_;rintro e w' ⟨q,r,rfl,h1,h2,hb⟩;rw[ah hv]at h2;refine⟨_,rfl,fun A ρ=>?_,hb⟩;rw[ah hv];simp only[VR,VRl];exact⟨_,rfl,_,_,rfl,⟨q,rfl,h1⟩,_,_,rfl,⟨r,rfl,h2⟩,_,_,rfl,zz 0 A ρ,rfl⟩
 ·exact ur (enters_of Tryz.func161 (by kernel_rfl) rfl) fun x y u v w c fu fv hx hy e => by
   cases e;rw[Rx];exact IG (BP x y u v fu fv w hx.ip hy.ip)
 ·exact ur (enters_of Tryz.func165 (by kernel_rfl) rfl) fun x y u v w c fu fv hx hy e => by
   cases e;exact nA (Ip x y u v fu fv w hx.ip hy.ip)
 ·intro args r e A ρ w vs hv;refine⟨enters_of Tryz.func124 ai rfl,?_⟩;unfold oOf at e;split at e
  ·next n=>
   split at e
   ·next hb=>
    cases e;rw[bs]at hb;simp only[VRl,VR]at hv;obtain⟨u,r',h1,⟨rfl,_⟩,h3⟩:=hv;subst h3;have:vs= #[.int .i64 n]:=by apply Array.ext';rw[h1]
    rw[this];exact(nA (rM n aa w)).calls A ρ
   ·cases e
  ·cases e
 ·exact uu (enters_of Tryz.func120 (by kernel_rfl) rfl) fun x z w c fz hx e => by
   split at e
   ·next hb=>
    cases e;rw[bs]at hb;have hI:I64 z:=by unfold I64;omega
    unfold Ans;refine(vG x z fz w hx.ip).mono ?_;rintro e w' ⟨rfl,hb⟩;refine⟨_,rfl,fun A ρ=>?_,hb⟩;rw[show smv z=z from ak hI,show decide (I64 z)=true from au hI];simp only[VR,VRl];exact⟨_,rfl,_,_,rfl,zz z A ρ,_,_,rfl,⟨rfl,rfl⟩,rfl⟩
   ·cases e
 ·exact uu (enters_of Tryz.func112 (by kernel_rfl) rfl) fun x z w c fz hx e => by
   cases e;obtain⟨l,h1,rfl⟩:=hx.ip;have bl:=iB h1.nf fz;exact nA (zS x l aa w h1)
 ·exact uu (enters_of Tryz.func203 (by kernel_rfl) rfl) fun x z w c fz hx e => by
   split at e
   ·next n=>
    generalize sqf 10000 n 0=r at e;unfold rt at e;split at e
    ·next h1=>
     split at e
     ·next h2=>
      cases e;have k1:=fD h1;rw[bs]at h2;unfold Ans;refine(OL x _ fz (Int.natCast_nonneg n) w hx.ip).mono ?_;rintro e w' ⟨⟨y,s,rfl,hy,h3,h4⟩,hb⟩;have:s=r:=Mi h3 h4 k1 h2;subst this;refine⟨_,rfl,fun A ρ=>?_,hb⟩;simp only[VR,VRl];exact⟨_,rfl,_,_,rfl,⟨y,rfl,hy⟩,_,_,rfl,zz 0 A ρ,rfl⟩
     ·cases e
    ·cases e
   ·cases e
 ·exact uu (enters_of Tryz.func95 (by kernel_rfl) rfl) fun x z w c fz hx e => by
   cases e;rw[Nd];unfold Ans;refine(fT x z w hx).mono ?_;rintro e w' ⟨rfl,hb⟩;exact⟨_,rfl,fun A ρ=>Sr _ A ρ,hb⟩
 ·exact uu (enters_of Tryz.func101 (by kernel_rfl) rfl) fun x z w c fz hx e => by
   cases e;rw[Rx];exact IG (rj x z fz w hx.ip)
 ·exact uu (enters_of Tryz.func102 (by kernel_rfl) rfl) fun x z w c fz hx e => by
   cases e;exact nA (jB x z fz w hx.ip)
 ·exact uu (enters_of Tryz.func185 (by kernel_rfl) rfl) fun x z w c fz hx e => by
   cases e;exact nA (oP x z fz w hx.ip)
 ·exact ur (enters_of Tryz.func121 (by kernel_rfl) rfl) fun x y u v w c fu fv hx hy e => by
   split at e
   ·cases e
   ·cases e;exact nA (gX x y u v fu fv w hx.ip hy.ip)
end CI
end
section
open Go.RowKit
namespace CI
def isTrue:Option Out->Bool
 |some (.val (.sc (.bool true)) _)=>true
 |_=>false
theorem MC{o:Option Out}(h:isTrue o=true):∃h',o=some (.val (.sc (.bool true)) h'):=by
 unfold isTrue at h;split at h
 ·exact⟨_,rfl⟩
 ·cases h
set_option maxRecDepth 100000 in
theorem NM:isTrue (run (theE Tryz.prog) 3000 (.call (.fn 15 []) [] ⟨0,0,[],.e⟩))=true:=by kernel_rfl
theorem NN(w:World):Calls Tryz.prog 15 #[] w (fun e w'=>e= .returned (.bool true)/\Below w.heap.size w w'):=by
 obtain⟨h',e⟩:=MC NM;refine(Me ai Tf (Oj _) (enters_of Tryz.func15 ai rfl) e w).mono ?_;rintro e w' ⟨u,A,ρ,rfl,h1,_,h2⟩;simp only[VR]at h1;exact⟨by rw[h1.1],h2⟩
end CI
end
section
open Go.RowKit
namespace DW
theorem xJ:Fn Tryz.prog 15 [] (.sc (.bool true)):=by
 refine⟨enters_of Tryz.func15 ai rfl,fun X w vs _ hv=>?_⟩;simp only[ATp]at hv;have:vs= #[]:=cQ.1 hv;subst this;refine(CI.NN w).mono fun e w' ⟨h,hb⟩=>⟨_,h,?_,hb⟩;simp only[AR];exact⟨trivial,rfl⟩
theorem LX{n:Nat}(h:(!(smq n))=true):n<=70/\(n<=64->n<=5):=by
 unfold smq at h;simp at h;omega
theorem SV{m:List (List Int)}(h:smL m=true):m.length<=70/\∀l∈m,l.length<=70:=by
 unfold smL at h;rw[dV]at h;exact⟨(LX h.1).1,fun l hl=>(LX (du.1 h.2 l hl)).1⟩
set_option maxRecDepth 20000
set_option maxHeartbeats 2000000
end DW
end
section
namespace Mx
theorem pR{A:Mat}{r i j:Nat}(h:i<r):at' (A.take r) i j=at' A i j:=by
 unfold at' rw;rw[aG,aG,gB,ak h,<-aG,<-aG]
theorem uT{A:Mat}{r i j:Nat}(h:¬i<r):at' (A.take r) i j=0:=by
 have:rw (A.take r) i=[]:=by
  unfold rw;rw[aG,gB,ah h];rfl
 unfold at';rw[this];rfl
theorem HF.take:∀(A:Mat) (r:Nat),HF A->HF (A.take r)
 |_,0,_=>trivial
 |[],_+1,_=>trivial
 |a::A,r+1,h=>by
  have hz:∀i j,at' (a::A) i j=0->at' (a::A.take r) i j=0:=fun i j h=>by
   show at' ((a::A).take (r+1)) i j=0;by_cases hi:i<r+1
   ·rw[pR hi];exact h
   ·exact uT hi
  have hz2:∀i j,at' A i j=0->at' (A.take r) i j=0:=fun i j h=>by
   by_cases hi:i<r
   ·rw[pR hi];exact h
   ·exact uT hi
  rcases h with h|⟨p,h1,h2,h3,h4,h5⟩
  ·exact .inl fun i j=>hz i j (h i j)
  ·refine .inr ⟨p,fun i j hj=>hz i j (h1 i j hj),h2,fun i=>hz2 i p (h3 i),HF.take A r h4,fun i q k1 k2=>?_⟩;have hi:i<r:=sL fun hi=>k2 (uT hi);rw[pR hi]at k2⊢;exact h5 i q (fun j hj=>by rw[<-pR (r:=r) hi];exact k1 j hj) k2
theorem HF.div{g:Int}(hg:0<g):∀(A B:Mat),A.length=B.length->(∀i j,at' A i j=g*at' B i j)->HF A->HF B
 |_,[],_,_,_=>trivial
 |[],b::B,hl,_,_=>by simp at hl
 |a::A,b::B,hl,h,hA=>by
  have h0:∀j,a.getD j 0=g*b.getD j 0:=fun j=>h 0 j;have ht:∀i j,at' A i j=g*at' B i j:=fun i j=>h (i+1) j;have hz:∀{x:Int},g*x=0->x=0:=fun e=>by
   rcases vu.1 e with e|e
   ·omega
   ·exact e
  rcases hA with hA|⟨p,h1,h2,h3,h4,h5⟩
  ·exact .inl fun i j=>hz (by rw[<-h i j];exact hA i j)
  ·refine .inr ⟨p,fun i j hj=>hz (by rw[<-h i j];exact h1 i j hj),?_,fun i=>hz (by rw[<-ht i p];exact h3 i),HF.div hg A B mM ht h4,fun i q k1 k2=>?_⟩
   ·rw[h0]at h2;exact Eg (a:=g) (by rw[bQ];exact h2) aa
   ·have h6:=h5 i q (fun j hj=>by rw[ht,k1 j hj,bQ]) (by rw[ht];exact fun e=>k2 (hz e));rw[h0,ht]at h6;exact⟨Int.le_of_mul_le_mul_left (a:=g) (by rw[bQ];exact h6.1) hg,Eg (a:=g) h6.2 aa⟩
theorem nH_hf{n:Nat}{M:Mat}(h:Rc n M):HF (nH n M):=by
 obtain⟨pv,he⟩:=jk n 0 (0,M) id h (gK M);rw[bn]at he;have h2:=qH ((fG n 0 (0,M) h).rc h) he (red n 0 (0,M)).2.length 0 (bn _).symm;rw[cY]at h2;exact HF.take _ _ h2
theorem nH_nz{n:Nat}{M:Mat}(h:Rc n M):∀l∈nH n M,l.all (fun z=>decide (z=0))=false:=fun l hl=>by
 rw[<-mA h]at hl;unfold DW.fil at hl;have:=(List.mem_filter.1 hl).2;simpa using this
theorem Tk{n:Nat}{X:Mat}(h:Rc n X)(hf:HF X)(hz:∀l∈X,l.all (fun z=>decide (z=0))=false):nH n X=X:=by
 obtain⟨pv,he⟩:=jk n 0 (0,X) id h (gK X);rw[bn]at he;have hre:=fG n 0 (0,X) h;have h2:=qH (hre.rc h) he (red n 0 (0,X)).2.length 0 (bn _).symm;rw[cY]at h2;have hs:=hre.sp h;have:=xD (red n 0 (0,X)).2 X hre.len (hre.rc h) h h2 hf hs.1 hs.2;rw[<-mA h,this];exact BJ hz
theorem Np:∀(row:List Int) (z:Int),gR row z∣z/\∀x∈row,gR row z∣x
 |[],z=>⟨Int.dvd_refl z,fun x hx=>by cases hx⟩
 |x::l,z=>by
  have h:=Np l ((Int.gcd z x:Nat):Int);refine⟨ze h.1 (Int.gcd_dvd_left ..),fun y hy=>?_⟩;rcases bP.1 hy with rfl|hy
  ·exact ze h.1 (Int.gcd_dvd_right ..)
  ·exact h.2 y hy
theorem nn:∀(M:Mat) (z:Int),gM M z∣z/\∀l∈M,∀x∈l,gM M z∣x
 |[],z=>⟨Int.dvd_refl z,fun x hx=>by cases hx⟩
 |r::M,z=>by
  have h:=nn M (gR r z);have h1:=Np r z;refine⟨ze h.1 h1.1,fun l hl=>?_⟩;rcases bP.1 hl with rfl|hl
  ·exact fun x hx=>ze h.1 (h1.2 x hx)
  ·exact h.2 l hl
theorem RN:∀(row:List Int) (z:Int),0<=z->0<=gR row z
 |[],_,h=>h
 |x::l,z,_=>RN l _ (Int.natCast_nonneg _)
theorem RP:∀(M:Mat) (z:Int),0<=z->0<=gM M z
 |[],_,h=>h
 |r::M,z,h=>RP M _ (RN r z h)
theorem Nn{g:Int}(hg:0<=g):∀(row:List Int) (z:Int),gR (row.map (fun x=>g*x)) (g*z)=g*gR row z
 |[],_=>rfl
 |x::l,z=>by
  have h:=Nn hg l ((Int.gcd z x:Nat):Int);show gR (l.map (fun x=>g*x)) ((Int.gcd (g*z) (g*x):Nat):Int)=g*gR l ((Int.gcd z x:Nat):Int);rw[<-h,Int.gcd_mul_left,Int.natCast_mul,zn hg]
theorem Al{g:Int}(hg:0<=g):∀(M:Mat) (z:Int),gM (mapM (fun x=>g*x) M) (g*z)=g*gM M z
 |[],_=>rfl
 |r::M,z=>by
  show gM (mapM (fun x=>g*x) M) (gR (r.map (fun x=>g*x)) (g*z))=g*gM M (gR r z);rw[Nn hg,Al hg]
theorem vV{g:Int}{M:Mat}(h:∀l∈M,∀x∈l,g∣x):mapM (fun x=>g*x) (mapM (fun x=>x/g) M)=M:=by
 unfold mapM;rw[sF];have:∀l∈M,(List.map (fun x=>g*x)∘List.map (fun x=>x/g)) l=l:=fun l hl=>by
  show List.map (fun x=>g*x) (List.map (fun x=>x/g) l)=l;rw[sF];have:∀x∈l,((fun x=>g*x)∘(fun x=>x/g)) x=x:=fun x hx=>vm (h l hl x hx);rw[jh this,List.map_id']
 rw[jh this,List.map_id']
theorem iG(f:Int->Int)(hf:f 0=0)(M:Mat)(i j:Nat):at' (mapM f M) i j=f (at' M i j):=by
 unfold at';rw[mu,aG,aG,bW]
 cases(rw M i)[j]? with
 |none=>exact hf.symm
 |some x=>rfl
theorem fo{n:Nat}{M:Mat}{d:Int}(h:Rc n M)(hd:0<d):nH n (nR n M d)=nR n M d/\nG n (nR n M d) (d/nG n M d)=1/\nR n (nR n M d) (d/nG n M d)=nR n M d/\Rc n (nR n M d)/\0<nG n M d/\0<d/nG n M d:=by
 have hD:=nn (nH n M) d;have hp:0<nG n M d:=by
  have h1:=RP (nH n M) d aa;have h2:=(DW.Dq (nH n M) d aa).1;unfold nG;omega
 have hH:=RH h;have hF:=nH_hf h;have hZ:=nH_nz h;have hR:Rc n (nR n M d):=nU hH;have hb:mapM (fun x=>nG n M d*x) (nR n M d)=nH n M:=vV hD.2;have hdd:nG n M d*(d/nG n M d)=d:=vm hD.1;have hg:gM (nH n M) d=nG n M d:=rfl;have hX:nH n (nR n M d)=nR n M d:=Tk hR (HF.div hp (nH n M) (nR n M d) (cG _ _).symm (fun i j=>by
  conv=>lhs;rw[<-hb]
  exact iG _ (bQ _) _ _ _) hF) fun l hl=>by
   obtain⟨r,hr,rfl⟩:=dw.1 hl;have h1:=hZ r hr;rw[zf]at h1⊢;obtain⟨x,hx,h2⟩:=h1;refine⟨x/nG n M d,dw.2 ⟨x,hx,rfl⟩,?_⟩;have h3:=vm (hD.2 r hr x hx);rw[hg]at h3;simp only[decide_eq_true_eq]at h2⊢;intro h4;rw[h4,bQ]at h3;exact h2 h3.symm
 have hG:nG n (nR n M d) (d/nG n M d)=1:=by
  have h1:=Al (g:=nG n M d) aa (nR n M d) (d/nG n M d);rw[hb,hdd,hg]at h1;have h2:nG n M d*(gM (nR n M d) (d/nG n M d)-1)=0:=by rw[Int.mul_sub,<-h1,pD,Int.sub_self]
  show gM (nH n (nR n M d)) (d/nG n M d)=1;rw[hX];rcases vu.1 h2 with h2|h2
  ·omega
  ·omega
 refine⟨hX,hG,?_,hR,hp,?_⟩
 ·show mapM (fun z=>z/nG n (nR n M d) (d/nG n M d)) (nH n (nR n M d))=nR n M d;rw[hG,hX];unfold mapM;have:∀l:List Int,l.map (fun z=>z/1)=l:=fun l=>by
   rw[jh (g:=fun x=>x) (fun x _=>Int.ediv_one x),List.map_id']
  rw[jh (g:=fun x=>x) (fun l _=>this l),List.map_id']
 ·refine Eg (a:=nG n M d) ?_ aa;rw[hdd,bQ];exact hd
end Mx
end
section
open Go.RowKit
namespace DW
theorem vQ{n:Nat}{m:Mx.Mat}:∀{l:List Int},l∈nH n m->l∈(Mx.red n 0 (0,m)).2:=fun h=>tU h
theorem Bw{n:Nat}{den:Int}{m:Mx.Mat}(hc:lck n m den=0):Mx.Bd (2^(50*11^n)) (Mx.red n 0 (0,m)).2:=by
 have:=Mx.vM (n:=n) (e:=50) aa n 0 0 m (jn hc) (by simpa using tu hc);rw[bn]at this;exact this
theorem we{g x:Int}(hg:0<g)(h:g∣x):(x/g).natAbs<=x.natAbs:=by
 have h1:=vm h;have h2:x.natAbs=g.natAbs*(x/g).natAbs:=by rw[<-en,h1]
 rw[h2];exact Em _ aa
theorem U5{n:Nat}{den:Int}{m:Mx.Mat}(hc:lck n m den=0):∀l∈nR n m den,∀x∈l,x.natAbs<=2^(50*11^n):=fun l hl x hx=>by
 have hd:=(gZ hc).1;obtain⟨r,hr,rfl⟩:=dw.1 hl;obtain⟨y,hy,rfl⟩:=dw.1 hx;have h1:=(Mx.fo (jn hc) (show 0<den by omega)).2.2.2.2.1;exact aH (we h1 ((Mx.nn (nH n m) den).2 r hr y hy)) (oY (Bw hc) (vQ hr) hy)
theorem Aq{n:Nat}{den:Int}{m:Mx.Mat}(hc:lck n m den=0):(den/nG n m den).natAbs<=2^50:=by
 have hd:=(gZ hc).1;have h1:=(Mx.fo (jn hc) (show 0<den by omega)).2.2.2.2.1;exact aH (we h1 (Mx.nn (nH n m) den).1) (aH (show den.natAbs<=1000000000000000 by omega) av)
theorem U4{n:Nat}{den:Int}{m:Mx.Mat}(hc:lck n m den=0):(nR n m den).length<=64:=by
 have h1:=(gZ hc).2.1;have h2:=zV (jn hc);unfold nR;rw[cG];omega
theorem zY{dim:Int}:∀{m:List (List Int)},(∀l∈m,(l.length:Int)=dim/\∀z∈l,inb 1000000000000000 z=true)->eP dim m=0
 |[],_=>rfl
 |r::t,h=>by
  unfold eP;have h1:=h r bF;rw[ak h1.1,ah,zY fun l hl=>h l (bJ _ hl)];intro h4;rw[gT]at h4;obtain⟨z,hz,h6⟩:=h4;unfold big at h6;rw[h1.2 z hz]at h6;cases h6
theorem M6(n:Nat)(den:Int)(m:Mx.Mat)(hc:lck n m den=0)(hn:n<=10):Fn Tryz.prog 31 [dL n m den] (hnd n (nR n m den) (den/nG n m den)):=by
 obtain⟨k1,k2,k3⟩:=gZ hc;have hR:=jn hc;have hnn:=Mx.fo hR (show 0<den by omega);have CK:=Ps n den m tO tO aa (fun r hr=>by have:=hR r hr;omega);rw[hc]at CK;have RD:=EW n den m n tO aa aa hn hR (tu hc) (Ad hc);have h5:=e50 hn;have HN:=FW n (nR n m den) n (den/nG n m den) (by have:=U4 hc;omega) aa aa hnn.2.2.2.1 (fun i j=>by
  rcases at_mem (nR n m den) i j with h|⟨r,hr,hz⟩
  ·rw[h];exact bL (e:=0) aK aa
  ·exact bL (U5 hc r hr _ hz) aa) (bL (Aq hc) aa) aa
 exact M0 n den m _ _ CK RD HN
theorem OX(n:Nat)(den:Int)(m:Mx.Mat)(hc:lck n m den=0)(hn:n<=5):Fn Tryz.prog 158 [dW m,.nm den,zI n] (.tp [dW (nR n m den),.nm (den/nG n m den)]):=by
 obtain⟨k1,k2,k3⟩:=gZ hc;have hR:=jn hc;have h5:=Sp hn;exact IA m n 50 n den hR aa aa aa (.inr (af _)) h5 (tu hc) (bZ (e:=50) (aH (show den.natAbs<=1000000000000000 by omega) av) aa) aa
  (fun l hl x hx=>bZ (oY (Bw hc) (vQ hl) hx) aa) (fun l hl x hx=>bZ (oY (Bw hc) hl hx) aa)
theorem Vb{n:Int}{m:List (List Int)}(h:lgt n m=true):n≠6/\m.length<=70/\∀l∈m,l.length<=10:=by
 unfold lgt at h;rw[dV,vp,zh,zh,bN,bN,du]at h;exact⟨h.1.1.1,by omega,fun l hl=>qh (h.2 l hl)⟩
theorem Fn.A9{P:Program}{f:FuncId}{ds ds':List D}{r:D}(h:Fn P f ds r)(hw:∀X w vs,ATp X w ds' vs->ATp X w ds vs):Fn P f ds' r:=⟨h.1,fun X w vs hX hv=>h.2 X w vs hX (hw X w vs.toList hv)⟩
set_option maxRecDepth 20000
set_option maxHeartbeats 2000000
theorem Md:Fn Tryz.prog 35 [dL 0 [] 0,.st [zI 0,.sc (.slice none 0 0),zI 0]] (.sc (.bool true)):=by
 refine(Hl 0 0 0 0 [] [] aK (fun l hl=>by cases hl)).A9 fun X w vs h=>?_;simp only[ATp]at h⊢;obtain⟨u,rest,e,h1,u2,rest2,e2,h2,e3⟩:=h;exact⟨u,rest,e,h1,u2,rest2,e2,NQ h2,e3⟩
end DW
end
section
open Go.RowKit
namespace DW
theorem Sa{a b:Nat}(h:a<b):Nat.blt a b=true:=by rw[bs];exact h
def lowD:D->Bool
 | .own k=>Nat.blt k 1000000||Nat.beq k 2000000
 | .opt k _=>Nat.blt k 1000000||Nat.beq k 2000000
 |_=>true
section
variable {P : Program} {X0 : Nat->Prop} {n : Nat} {Q : Exit->S->Prop} {s : S} {sl : List (Nat × D)} {T T1 : TypeId} {wd : Nat} {g : List Int->List D} {E : List (Nat × Ow)} {M : List (List Int)}
def absS(F:List (Nat×Ow))(vs:Nat->Value):List (Nat×D)->List (Nat×D)
 |[]=>[]
 |(t,d)::l=>(t,absD F vs d)::absS F vs l
theorem MZ(F:List (Nat×Ow))(vs:Nat->Value):∀(l:List (Nat×D)) (t:Nat),look (absS F vs l) t=absD F vs (look l t)
 |[],_=>rfl
 |(u,d)::l,t=>by
  simp only[absS,look];split
  ·rfl
  ·exact MZ F vs l t
def valS(κ:Nat)(v:Value):List (Nat×D)->List (Nat×D)
 |[]=>[]
 |(t,d)::l=>(t,match d with
  | .own j=>(match Nat.beq j κ with|true=>.sc v|false=>.own j)
  |d=>d)::valS κ v l
def clS(d0:D):List (Nat×D)->List (Nat×D)
 |[]=>[]
 |(t,d)::l=>(t,match d with
  | .own j=>(match Nat.beq j 2000000 with|true=>d0|false=>.own j)
  | .opt j off=>(match Nat.beq j 2000000 with|true=>.any|false=>.opt j off)
  |d=>d)::clS d0 l
theorem Fz(d0:D):∀(l:List (Nat×D)) (t:Nat),look (clS d0 l) t=match look l t with
  | .own j=>(match Nat.beq j 2000000 with|true=>d0|false=>.own j)
  | .opt j off=>(match Nat.beq j 2000000 with|true=>.any|false=>.opt j off)
  |d=>d
 |[],_=>rfl
 |(u,d)::l,t=>by
  simp only[clS,look];split
  ·rfl
  ·exact Fz d0 l t
end
end DW
end
section
open Go.RowKit
namespace DW
section
variable {P : Program} {X0 : Nat->Prop} {n : Nat} {sl : List (Nat × D)} {ow : List (Nat × Ow)}
theorem N2{H J i:Nat}{Tm:TypeId}{L:List D}{q:Ow}{ow':List (Nat×Ow)}(hH:(H,(⟨Tm,1,L⟩:Ow))∈ow)(hHh:hdr H=true)(hJ:(J,q)∈ow)(hJh:hdr J=false)(hi:i<L.length)(hLJ:∀k,k≠i->L[k]?≠some (D.own J))(hLi:L[i]?=some (.own J))
  (hs:∀t,(look sl t).is J=false) (ho:∀p∈ow',p=(H,⟨Tm,1,L.set i (.ls q.wd q.l)⟩)\/(p∈ow/\p.1≠H/\p.1≠J/\(hdr p.1=true->.own J∉p.2.l))):Sh X0 n ⟨sl,ow⟩ ⟨sl,ow'⟩:=fun w0 f ac w h=>by
 have hHJ:H≠J:=fun e=>by rw[e,hJh]at hHh;cases hHh
 have hold:∀p∈ow',∃p0∈ow,p0.1=p.1/\p.1≠J:=fun p hp=>by
  rcases ho p hp with rfl|⟨h1,_,h2,_⟩
  ·exact⟨_,hH,rfl,hHJ⟩
  ·exact⟨p,h1,rfl,h2⟩
 have hX:∀b,XO X0 ⟨sl,ow'⟩ f b->XO X0 ⟨sl,ow⟩ f b:=fun b hb=>by
  rcases hb with hb|⟨p,hp,e⟩
  ·exact .inl hb
  ·obtain⟨p0,h1,h2,_⟩:=hold p hp;exact .inr ⟨p0,h1,by rw[h2];exact e⟩
 have hfree:∀b,(f J).ownBlock=some b->¬XO X0 ⟨sl,ow'⟩ f b:=fun b e hx=>by
  rcases hx with hx|⟨p,hp',e'⟩
  ·rcases h.lo _ hJ b e with h1|h1
   ·exact absurd (h.x0 b hx).1 aa
   ·exact h.xy b hx h1
  ·obtain⟨p0,h1,h2,h3⟩:=hold p hp';exact h.dj p0 h1 _ hJ (by rw[h2];exact h3) b (by rw[h2];exact e') e
 have hls:AR (XO X0 ⟨sl,ow'⟩ f) w (.ls q.wd q.l) (f J):=RJ h hJ hJh hX hfree;refine⟨f,h.sz,h.df,h.bl,h.x0,h.xy,h.fx,fun p hp=>?_,fun t=>?_,fun p hp=>?_,fun b ⟨p,hp,e⟩=>?_,fun p hp r hr hne b hb=>?_,fun p hp r hr e=>?_⟩
 ·obtain⟨p0,h1,h2,_⟩:=hold p hp;have:=h.lo p0 h1;rw[h2]at this;exact this
 ·have h1:SR (XO X0 ⟨sl,ow⟩ f) f w (look sl t) (ac.tmps.getD t undef):=h.sl t;show SR _ _ _ (look sl t) _;cases hd:look sl t<;>rw[hd]at h1<;>first|exact AR.free h1 (fun b _ hb=>hX b hb)|exact h1
 ·rcases ho p hp with rfl|⟨h1,h2,h3,h4⟩
  ·obtain⟨k0,zs,k1,k2⟩:=h.ow _ hH;have k3:=EE.agr (X':=XO X0 ⟨sl,ow'⟩ f) (Agr.refl _ w) (fun b _ hb=>hX b hb) (fun _ _=>rfl) k2;refine⟨k0,zs,by simpa using k1,?_⟩;unfold EE at k3⊢;rw[hHh]at k3⊢;refine⟨rfl,ElH.map k3.2 aK fun k d d' h5 h6=>?_⟩;by_cases e:i=k
   ·subst e;rw[lO hi]at h6;cases h6;rw[hLi]at h5;cases h5;exact⟨rfl,fun u hu=>by
     obtain⟨_,rfl,_⟩:=hu;exact⟨hls,rfl⟩⟩
   ·rw[oC e,h5]at h6;cases h6;refine⟨?_,fun u hu=>hu⟩;exact(ElH.at k3.2 h5).elim fun u hu=>hu.2.2.2.2
  ·obtain⟨k0,zs,k1,k2⟩:=h.ow p h1;exact⟨k0,zs,k1,EE.agr (Agr.refl _ w) (fun b _ hb=>hX b hb) (fun _ _=>rfl) k2⟩
 ·obtain⟨p0,h1,h2,_⟩:=hold p hp;exact h.nw b ⟨p0,h1,by rw[h2];exact e⟩
 ·obtain⟨p0,h1,h2,_⟩:=hold p hp;obtain⟨r0,h3,h4,_⟩:=hold r hr;have:=h.dj p0 h1 r0 h3 (by rw[h2,h4];exact hne) b (by rw[h2];exact hb);rw[h4]at this;exact this
 ·rcases ho p hp with rfl|⟨h1,h2,_⟩<;>rcases ho r hr with rfl|⟨h3,h4,_⟩
  ·rfl
  ·exact absurd e.symm h4
  ·exact absurd e h2
  ·exact h.un p h1 r h3 e
theorem Uy{a:Nat}{L:List D}{q:Ow}{Tm:TypeId}(ha:Nat.blt a 1000000=true)(hL:∀J,D.own J∉L)(hs:noS 1000000 sl=true):Sh X0 n ⟨sl,[(a,q),(2000000,⟨Tm,1,L⟩)]⟩ ⟨mvS a 1000000 sl,[(1000000,q),(2000000,⟨Tm,1,L⟩)]⟩:=by
 rw[bs]at ha;refine Sf (a:=a) (b:=1000000) (q:=q) bF rfl (.inl ?_) (fun p hp=>?_) hs fun p hp=>?_
 ·rw[nV (Sa ha)];rfl
 ·rcases bP.1 hp with rfl|hp
  ·exact⟨by show a≠1000000;omega,fun h=>by rw[nV (Sa ha)]at h;cases h⟩
  ·rw[bU.1 hp];exact⟨by show 2000000≠1000000;decide,fun _=>hL _⟩
 ·rcases bP.1 hp with rfl|hp
  ·exact .inl rfl
  ·rw[bU.1 hp];exact .inr ⟨bJ _ (bU.2 rfl),by show 2000000≠a;omega⟩
theorem Uz{L:List D}{q:Ow}{Tm:TypeId}{i:Nat}(hi:i<L.length)(hLi:L[i]?=some (.own 1000000))(hLJ:∀k,k≠i->L[k]?≠some (D.own 1000000))(hs:noS 1000000 sl=true){L':List D}(hL':L.set i (.ls q.wd q.l)=L'):Sh X0 n ⟨sl,[(1000000,q),(2000000,⟨Tm,1,L⟩)]⟩ ⟨sl,[(2000000,⟨Tm,1,L'⟩)]⟩:=by
 subst hL';exact N2 (H:=2000000) (J:=1000000) (bJ _ (bU.2 rfl)) rfl bF rfl hi hLJ hLi (uv hs) fun p hp=>.inl (bU.1 hp)
theorem UA{L:List D}{Tm:TypeId}(hL:∀d∈L,d.fits=true):Sh X0 n ⟨sl,[(2000000,⟨Tm,1,L⟩)]⟩ ⟨clS (.ls 1 L) sl,[]⟩:=
 Qe (H:=2000000) (Tm:=Tm) (L:=L) (L':=L) (bU.2 rfl) rfl rfl (fun i d d' h1 h2=>by rw[h1]at h2;cases h2;exact .inl ⟨hL d (bj h1),rfl⟩) (fun t=>by
  rw[Fz]
  cases hd:look sl t with
  |own j=>
   simp only
   cases hb:Nat.beq j 2000000 with
   |true=>rw[eZ hb];exact .inr (.inl ⟨rfl,rfl⟩)
   |false=>exact .inr (.inr rfl)
  |opt j off=>
   simp only
   cases hb:Nat.beq j 2000000 with
   |true=>exact .inl rfl
   |false=>exact .inr (.inr rfl)
  |_=>exact .inr (.inr rfl)) fun p hp=>by cases hp
end
section
variable {P : Program} {s : S} {o : Oper}
theorem TZ{x y:Operand}{tt:TypeId}{d1 d2:D}{wd:Nat}(ho:o.op= .buildSlice tt 2 #[(0,x),(1,y)])(hx:s.op x=d1)(hy:s.op y=d2)(hf1:d1.fits=true)(hf2:d2.fits=true)(hw1:d1.wd=wd)(hw2:d2.wd=wd)(ht:P.underlying tt=some (.slice (P.elem tt)))(hz:(P.info? (P.elem tt)).map (fun i=>(i.zero.isSome,i.size))=some (true,wd))(h0:Nat.blt 0 wd=true)(h1:Nat.ble wd 1000000=true):bI P o s (.ls wd [d1,d2]):=fun X f a w base hX _ hs=>by
 have h0':0<wd:=by simpa[bs]using h0
 have h1':wd<=1000000:=by simpa using h1
 have g1:=hs x bV;have g2:=hs y bV;rw[hx]at g1;rw[hy]at g2;have k1:AR X w d1 (a.eval x):=by cases d1<;>first|exact g1|simp[D.fits]at hf1
 have k2:AR X w d2 (a.eval y):=by cases d2<;>first|exact g2|simp[D.fits]at hf2
 have s1:=AR.size d1 _ hf1 k1;have s2:=AR.size d2 _ hf2 k2
 cases hq:P.info? (P.elem tt)with
 |none=>rw[hq]at hz;cases hz
 |some inf=>
  rw[hq]at hz;simp only[cw,an,aR]at hz;obtain⟨z,hz1⟩:=cU.1 hz.1;have hfill:=Go.Great.fill_whole (s:=inf.size) aa [a.eval x,a.eval y] ((Array.range (2*inf.size)).map (z.cells[· %z.cells.size]!)) (by
   intro v hv;simp only[bP,List.not_mem_nil,or_false]at hv;rcases hv with rfl|rfl
   ·rw[s1,hw1,hz.2]
   ·rw[s2,hw2,hz.2]) aK
  have hr:(execOp a.eval o).run P w= .ok (.value (.slice (some ⟨w.heap.size,0,none⟩) 2 2)) (w.alloc (.cells ((a.eval x).cells++(a.eval y).cells) (P.elem tt))):=by
   unfold execOp;rw[ho];have:=run_buildSlice (P:=P) w tt (P.elem tt) 2 #[(0,a.eval x),(1,a.eval y)] ((a.eval x).cells++(a.eval y).cells) inf z ht hq hz1 wQ wQ (by
    have e:((a.eval x).cells.toList++(a.eval y).cells.toList).toArray=(a.eval x).cells++(a.eval y).cells:=by rw[<-vo]
    rw[<-e];simpa using hfill)
   simp[Sem.run_bind,this]
  have hb:Below w.heap.size w (w.alloc (.cells ((a.eval x).cells++(a.eval y).cells) (P.elem tt))):=(Below.refl _ _).alloc (af _) _;have hra:=lD w ((a.eval x).cells++(a.eval y).cells) (P.elem tt);rw[hr];refine⟨?_,hb,fun h=>by simp[D.qy]at h⟩;simp only[SR,AR,ARs,reduceCtorEq,false_or];refine⟨_,2,rfl,af _,w.heap.size,0,rfl,fun e=>by have:=(hX _ e).1;omega,by simp,⟨a.eval x,k1.grow hb,hf1,hw1,fun j v hj=>hra j v ?_⟩,⟨a.eval y,k2.grow hb,hf2,hw2,fun j v hj=>?_⟩,trivial⟩
  ·rw[vo,eD (cB.1 hj).1];exact hj
  ·have := hra (wd + j) v (by
    rw[vo,fF (by simp[s1,hw1]),cf,s1,hw1,wU];exact hj)
   rwa[<-oF]at this
end
end DW
end
section
open Go.RowKit Go.BigFrame
attribute [local go_sem ↓] Go.wp_at_zero Go.wp_at_succ
set_option maxRecDepth 10000 in
set_option maxHeartbeats 4000000 in
theorem TC(n:Nat)(hn:n<=1000000)(w:World):
  Calls Tryz.prog 184 #[.slice none 0 0, .int .i64 ((n:Int))] w fun e w'=>(∃v,e= .returned v/\fV w' w.heap.size v []/\∀b,v.ownBlock=some b->NW w' b)/\Below w.heap.size w w':=by
 by_cases h0:n=0
 ·subst h0
  go_enter Tryz.func184,Tryz.ntmps184
  go_wp2_with fail
  go_ret
  exact⟨⟨_,rfl,fV.nil _ _,fun b hb=>by cases hb⟩,by exact bel⟩
 ·have hp:(0:Int)<(n:Int):=by omega
  have hneg:¬(n:Int)<0:=by omega
  obtain⟨i0,hi0,hz0,hz1,hz2⟩:=gJ uC
  have hrz : ∀ (ty : TypeId) (W : World), (Builtin.append_ #[147, 3] ty #[.slice none 0 0, .int .i64 (n : Int)]).run Tryz.prog W =
      .ok (.slice (some ⟨W.heap.size,0,none⟩) n (grownCap W n 0 62)) (W.drew.alloc (.cells (Builtin.zeroCells (Value.agg #[.bool false, .slice none 0 0]).cells n++Builtin.zeroCells (Value.agg #[.bool false, .slice none 0 0]).cells (grownCap W n 0 62-n)) 62)):=fun ty W=>by
   have h:=Lib.run_append_grow_zeros W 147 3 ty 62 i0 _ .i64 .i64 Tryz.underlying147 Tryz.underlying3 hi0 hz0 none 0 0 [] (run_firstCells_none W.drew i0.size 0 0 0) n aa aa aa aa (by rw[hz2];omega) (by rw[hz2];exact growslice_fits aa aa);simpa using h
  have hG:∀W,n<=grownCap W n 0 62/\grownCap W n 0 62<=9223372036854775807:=fun W=>by
   refine⟨grownCap_ge W _ _ _,?_⟩;have:=grownCap_le_maxLen W n 0 62 (by unfold maxLen;omega);unfold maxLen at this;omega
  go_enter Tryz.func184,Tryz.ntmps184
  have HRZ:Hid _:=hrz;clear hrz;obtain⟨g1,g2⟩:=hG w
  go_wp2_with (at_builtin;go_must (refine wpList_append_run rfl (.tmp 20) (.tmp 21) 147 3 rfl _ (HRZ.out _ _) ?_))
  go_ret
  refine⟨⟨_,rfl,⟨by simp[fJ], .inr ⟨w.heap.size,grownCap w n 0 62,_,rfl,af _,heap_alloc_new w _,aQ _,by unfold maxLen;exact g2,?_,by simp[fJ]⟩⟩,fun b hb m hm=>?_⟩,by exact bel⟩
  ·rw[tQ,size_zeroCells,size_zeroCells];show n*2+(grownCap w n 0 62-n)*2=_;omega
  ·have hb2:w.heap.size=b:=Option.some.inj hb;subst hb2
   change (w.alloc _).cell? _=_ at hm
   rw[cell_of_row _ w.heap.size _ _ _ (0,0) (heap_alloc_new w _)]at hm;have h3:0<n*2:=by omega
   have h4:(Builtin.zeroCells (Value.agg #[.bool false, .slice none 0 0]).cells n)[0]?=some (.bool false):=by
    simp[Builtin.zeroCells,Value.cells,h3]
   rw[qg (by rw[size_zeroCells];exact h3)]at hm;have hm2:=h4.symm.trans hm;clear hm;have hm:=hm2;cases hm
namespace DW
theorem Vk(n:Nat)(hn:n<=1000000):FnG Tryz.prog 184 [.sc (.slice none 0 0),zI (n:Int)] [] (.own 6) [(6,⟨62,2,[]⟩)]:=by
 refine⟨enters_of Tryz.func184 ai rfl,fun X f w vs hX hO hv=>?_⟩;rw[VI]at hv;simp only[SRs,SR,AR]at hv;obtain⟨v1,r1,e1,⟨rfl,_⟩,v2,r2,e2,⟨rfl,_⟩,rfl⟩:=hv;subst e2;have:vs= #[.slice none 0 0,.int .i64 ((n:Int))]:=cQ.1 e1;subst this;refine(TC n hn w).mono fun e w' ⟨⟨v,he,ho,hnw⟩,hb⟩=>?_;have hbl:∀b,blk (fun _=>v) [(6,(⟨62,2,[]⟩:Ow))] b->v.ownBlock=some b:=fun b ⟨p,hp,e⟩=>e;have hge:∀b,v.ownBlock=some b->w.heap.size<=b:=fun b hb=>by
  rcases ho.2 with⟨h1,_⟩|⟨g,cap,cur,h1,h2,_⟩
  ·subst h1;cases hb
  ·rw[h1]at hb;simp only[Value.ownBlock,an]at hb;omega
 refine⟨v,fun _=>v,he,⟨hb.os,hb.tape,hb.output,hb.size,fun b hb' _=>hb.block b hb'⟩,⟨fun p hp=>?_,fun b hb'=>hnw b (hbl b hb'),fun p hp q hq hne=>?_,fun p hp q hq _=>?_,fun b hx hb'=>?_⟩,fun b hb'=>.inr (hge b (hbl b hb')),fun p hp=>(by cases hp),by simp only[SR]⟩
 ·rw[bU.1 hp];refine⟨by decide,[],⟨rfl,?_⟩,EE.of rfl rfl⟩;rcases ho.2 with h1|⟨g,cap,cur,h1,h2,h3⟩
  ·exact .inl h1
  ·exact .inr ⟨g,cap,cur,h1,aQ _,h3⟩
 ·rw[bU.1 hp,bU.1 hq]at hne;exact absurd rfl hne
 ·rw[bU.1 hp,bU.1 hq]
 ·exact absurd (hX b hx).1 (by have:=hge b (hbl b hb');omega)
def kK:List (List Int)->Nat
 |[]=>0
 |l::M=>l.length+kK M
theorem M9(M:List (List Int))(l:List Int):kK (M++[l])=kK M+l.length:=by
 induction M with
 |nil=>simp[kK]
 |cons a M ih=>simp only[wY,kK,ih];omega
theorem Cr{M:List (List Int)}:∀{i:Nat} {l:List Int},M[i]?=some l->kK (M.take i)+l.length<=kK M:=by
 induction M with
 |nil=>intro i l h;simp at h
 |cons a M ih=>
  intro i l h
  cases i with
  |zero=>simp at h;subst h;simp[kK]
  |succ i=>
   have:=ih (i:=i) (l:=l) qV;simp only[dJ,kK];omega
theorem Na(M:List (List Int)):M.flatten.length=kK M:=by
 induction M with
 |nil=>rfl
 |cons a M ih=>simp[kK,ih]
set_option maxRecDepth 20000
set_option maxHeartbeats 2000000
theorem P4(M:Mx.Mat)(hM:M.length<=1000000)(hl:kK M<=1000000):Fn Tryz.prog 144 [.ls 1 (M.map dZ)] (dZ M.flatten):=by
 have GR:=Vk (kK M) hl;refine ba Tryz.func144 ai rfl rfl rfl fun X0=>?_;simp only[aO];refine zs2 ?_;refine eQ ?_;refine Jm ?_;refine zs2 ?_
 (refine ay (aq (sl':=[(0,.ls 1 (M.map dZ)),(3,zI 0),(9,.ls 1 (M.map dZ)),(10,zI (M.length:Nat)),(11,zI 0)]) (ow':=[]) az aD) ?_)
 refine bc (fun r s=>∃i,i<=M.length/\r=M.length-i/\s=⟨[(0,.ls 1 (M.map dZ)),(3,zI (kK (M.take i):Nat)),(9,.ls 1 (M.map dZ)),(10,zI (M.length:Nat)),(11,zI (i:Nat))],[]⟩) (m:=M.length) ⟨0,aQ _,rfl,rfl⟩ fun r s hs=>?_;obtain⟨i,hi,rfl,rfl⟩:=hs;by_cases hil:i<M.length
 ·obtain⟨row,hrow⟩:=get_some hil;have hsn:=bq hrow;have hls:=M9 (M.take i) row;rw[<-hsn]at hls;have hle:=Cr hrow;generalize kK (M.take i)=a at*;refine mF ?_;refine bw ?_;refine gar ?_;refine kU ?_;refine cT ?_;refine cO ?_;refine zs5 ?_;refine sa ?_;refine cT ?_;refine ja ?_;refine bp ?_;refine tJ ?_;refine zs2 ?_;simp only[nx,inB];exact⟨M.length-(i+1),_,by omega,(aq (sl':=[(0,.ls 1 (M.map dZ)),(3,zI (kK (M.take (i+1)):Nat)),(9,.ls 1 (M.map dZ)),(10,zI (M.length:Nat)),(11,zI ((i+1:Nat):Int))]) (ow':=[]) az aD),i+1,by omega,rfl,rfl⟩
 ·obtain rfl:i=M.length:=by omega
  rw[et];refine mF ?_;refine bp ?_;refine cn ?_;(refine VB rfl rfl rfl rfl (by exact th) cD (GR) aj aj aj ?_);refine cT ?_;refine Jm ?_;refine zs2 ?_
  (refine ay (aq (sl':=[(0,.ls 1 (M.map dZ)),(6,.own 6),(25,.ls 1 (M.map dZ)),(26,zI (M.length:Nat)),(27,zI 0)]) (ow':=[(6,⟨62,2,[]⟩)]) az aD) ?_)
  refine bc (fun r s=>∃i,i<=M.length/\r=M.length-i/\s=⟨[(0,.ls 1 (M.map dZ)),(6,.own 6),(25,.ls 1 (M.map dZ)),(26,zI (M.length:Nat)),(27,zI (i:Nat))],[(6,⟨62,2,(M.take i).flatten.map .nm⟩)]⟩) (m:=M.length) ⟨0,aQ _,rfl,rfl⟩ fun r s hs=>?_;obtain⟨i,hi,rfl,rfl⟩:=hs;by_cases hil:i<M.length
  ·obtain⟨row,hrow⟩:=get_some hil;have hsn:=bq hrow;have hle:=Cr hrow;have hfl:=Na (M.take i);obtain⟨F,hF⟩:∃F,F=M.take i:=⟨_,rfl⟩;rw[<-hF]at hsn hfl hle;rw[<-hF];clear hF;refine mF ?_;refine bw ?_;refine gar ?_;refine kU ?_;refine cT ?_;refine cO ?_;(refine pe rfl rfl rfl rfl cD cD bf aj vc ai ai (by(simp only[bC];omega)) cu va ?_);refine cT ?_;refine tJ ?_;refine zs2 ?_;simp only[nx,inB];exact⟨M.length-(i+1),_,by omega,(aq (sl':=[(0,.ls 1 (M.map dZ)),(6,.own 6),(25,.ls 1 (M.map dZ)),(26,zI (M.length:Nat)),(27,zI ((i+1:Nat):Int))]) (ow':=[(6,⟨62,2,F.flatten.map .nm++row.map .nm⟩)]) az aD),i+1,by omega,rfl,by rw[hsn,List.flatten_append,db];simp⟩
  ·obtain rfl:i=M.length:=by omega
   rw[et];refine mF ?_;refine bp ?_;refine ay (aA (k:=6) bf bA bz) ?_;refine kb ?_;exact⟨_,Sh.refl,.one (.tmp 2) _ rfl (.tmp 2 rfl)⟩
end DW
end
end Go.Proofs.YtcgjmdpcplhanaaGreat
