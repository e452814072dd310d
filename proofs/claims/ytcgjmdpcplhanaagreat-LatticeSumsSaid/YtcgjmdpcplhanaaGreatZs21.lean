/- Lemmas for the law: E78 E65 E66 E74 E75 M23 E79 E80 E76 E81 -/
import Derived.Deep.CutRange
import Derived.Deep.LoopGhost
import Derived.BigQuiet
import Derived.Test.YtcgjmdpcplhanaaGreatZs20
namespace Go.Proofs.YtcgjmdpcplhanaaGreat
section
abbrev zL:=@List.mem_iff_getElem?
theorem xv{p:Prop}(h:p:=by unfold I64;omega):p:=h
theorem Ru{p q:Prop}(h:q)(f:Wq q->p:=by(intro hW;((refine lQ rfl rfl rfl rfl ck ck aX ai pR ah ah zb68 cj sK ?_));exact hW.out)):p:=f ⟨h⟩
end
section
open Go.RowKit
namespace DW
set_option maxRecDepth 20000
set_option maxHeartbeats 2000000
theorem T8(n1 e1 n2 e2 d1 d2 d d3 a b C:Int)(r:Nat)(m1 m2 R1 R2 P Q A H U R3 R:Mx.Mat)(hP:P.length=0)(hU:U.length<=1000000)(hr:r<=U.length)(TW:Fn Tryz.prog 134 [dL n1 m1 e1,dL n2 m2 e2] (zI 0))(RA:Fn Tryz.prog 87 [dL n1 m1 e1] (dF n1 R1 d1))(RB:Fn Tryz.prog 87 [dL n2 m2 e2] (dF n2 R2 d2))(B1:Fn Tryz.prog 100 [dW R1,.nm d2] (dW P))(B2:Fn Tryz.prog 100 [dW R2,.nm d1] (dW Q))(CC:Fn Tryz.prog 140 [.ls 1 [dW P,dW Q]] (dW A))(TR:Fn Tryz.prog 73 [dW A] (.tp [dW H,dW U,zI (r:Nat)]))(ML:Fn Tryz.prog 117 [.nm d1,.nm d2] (.nm d))(NO:Fn Tryz.prog 103 [zI n1,dW [],.nm d] (dF n1 R3 d3))(HD:Fn Tryz.prog 88 [dF n1 R3 d3] (.tp [dL a R b,zI C])):Fn Tryz.prog 68 [dL n1 m1 e1,dL n2 m2 e2] (.tp [dL a R b,zI C]):=by
 have hUl:(U.map dZ).length=U.length:=bD ..;have hUd:(U.map dZ).drop r=(U.drop r).map dZ:=vQ.symm;refine bg Tryz.func68 ah rfl rfl rfl fun X0=>?_;simp only[aP];refine uv ?_;refine rK ?_;refine jN ?_;refine JF ?_;refine zs2 ?_;refine av (az (k:=7) aX bq bp) ?_;refine av (az (k:=8) aX bq bp) ?_;refine zs2 ?_;refine QI ?_;refine zs2 ?_;refine QH ?_;refine mO ?_;refine zs2 ?_;refine av (dz (t:=14) (k:=14) (T:=147) (wd:=1) fF rfl rfl cj) ?_;refine zs2 ?_;refine QG ?_;refine zs2 ?_;obtain⟨V,hV⟩:∃V,V=U.drop r:=⟨_,rfl⟩;rw[<-hV]at hUd;rw[hUd];have hVl:V.length<=1000000:=by rw[hV,de];omega
 clear hUd hV hU hr hUl
 (refine av (ay (sl':=[(2,.pt (dL n1 m1 e1)),(3,.pt (dL n2 m2 e2)),(4,.opt 4 0),(7,.pt (dF n1 R1 d1)),(8,.pt (dF n2 R2 d2)),(9,dW P),(14,.own 14),(49,dW V),(50,zI (V.length:Nat)),(51,zI 0)]) (ow':=[(14,⟨147,1,[]⟩),(4,⟨48,(D.st [zI 0,.sc (.slice none 0 0),zI 0]).wd,[.st [zI 0,.sc (.slice none 0 0),zI 0]]⟩)]) aF aH) ?_)
 refine bh (fun q s=>∃i,i<=V.length/\q=V.length-i/\s=⟨[(2,.pt (dL n1 m1 e1)),(3,.pt (dL n2 m2 e2)),(4,.opt 4 0),(7,.pt (dF n1 R1 d1)),(8,.pt (dF n2 R2 d2)),(9,dW P),(14,.own 14),(49,dW V),(50,zI (V.length:Nat)),(51,zI (i:Nat))],[(14,⟨147,1,[]⟩),(4,⟨48,(D.st [zI 0,.sc (.slice none 0 0),zI 0]).wd,[.st [zI 0,.sc (.slice none 0 0),zI 0]]⟩)]⟩) (m:=V.length) ⟨0,aO _,rfl,rfl⟩ fun q s hs=>?_;obtain⟨i,hi,rfl,rfl⟩:=hs;by_cases hin:i<V.length
 ·obtain⟨c,hc⟩:=get_some hin;refine jM ?_;refine xh ?_;refine zs2 ?_;refine xo ?_;refine bR ?_;refine nE ?_;simp only[nx,inB];exact⟨V.length-(i+1),_,by omega,(ay (sl':=[(2,.pt (dL n1 m1 e1)),(3,.pt (dL n2 m2 e2)),(4,.opt 4 0),(7,.pt (dF n1 R1 d1)),(8,.pt (dF n2 R2 d2)),(9,dW P),(14,.own 14),(49,dW V),(50,zI (V.length:Nat)),(51,zI ((i+1:Nat):Int))]) (ow':=[(14,⟨147,1,[]⟩),(4,⟨48,(D.st [zI 0,.sc (.slice none 0 0),zI 0]).wd,[.st [zI 0,.sc (.slice none 0 0),zI 0]]⟩)]) aF aH),i+1,by omega,rfl,rfl⟩
 ·obtain rfl:i=V.length:=by omega
  refine nM ?_;refine av (az (k:=14) aX bq bp) ?_;refine zs2 ?_;refine QF ?_;refine zs2 ?_;exact⟨_,az (k:=4) aX bq bp,.two (.cell 4 48) (.tmp 5) _ _ rfl (.cell 4 _ _ rfl rfl ah ah) (.tmp 5 rfl)⟩
theorem TS(n1 e1 n2 e2 d a b C:Int)(n:Nat)(m1 m2 P Q K R:Mx.Mat)(hl:P.length+Q.length<=100000)(hK:K.length<=1000000)(hKr:∀c∈K,P.length<=c.length)(CO:Fn Tryz.prog 138 [dL n1 m1 e1,dL n2 m2 e2] (.tp [dW P,dW Q,.nm d]))(KO:Fn Tryz.prog 86 [dW (P++Q)] (dW K))(TI:∀c∈K,Fn Tryz.prog 22 [dW [c.take P.length],dW P,zI n1] (dW [fC P n (c.take P.length)]))(MD:Fn Tryz.prog 92 [dW (mtR n P K),.nm d,zI n1] (.tp [dL a R b,zI C])):Fn Tryz.prog 70 [dL n1 m1 e1,dL n2 m2 e2] (.tp [dL a R b,zI C]):=by
 rw[show dW (P++Q)= .ls 1 ([]++P.map dZ++Q.map dZ) by rw[ew,<-cL]]at KO;refine bg Tryz.func70 ah rfl rfl rfl fun X0=>?_;simp only[aP];refine uv ?_;refine QE ?_;refine zs2 ?_;refine av (az (k:=8) aX bq bp) ?_;refine zs2 ?_;(refine gar ?_;refine R8 ?_;refine zs4 ?_;refine Ru ?_;refine zs4 ?_;refine Ru ?_;refine S4 (az (k:=19) aX bq bp) ?_;refine ll ?_;refine zs6 ?_;refine aQ ?_);refine lS ?_;refine av (dz (t:=10) (k:=10) (T:=113) (wd:=1) fF rfl rfl cj) ?_;clear KO CO
 (refine av (ay (sl':=[(2,.pt (dL n1 m1 e1)),(4,.opt 4 0),(6,dW P),(8,.pt (.nm d)),(9,dW K),(10,.own 10),(11,zI 0)]) (ow':=[(10,⟨113,1,[]⟩),(4,⟨48,(D.st [zI 0,.sc (.slice none 0 0),zI 0]).wd,[.st [zI 0,.sc (.slice none 0 0),zI 0]]⟩)]) aF aH) ?_)
 refine bh (fun q s=>∃i,i<=K.length/\q=K.length-i/\s=⟨[(2,.pt (dL n1 m1 e1)),(4,.opt 4 0),(6,dW P),(8,.pt (.nm d)),(9,dW K),(10,.own 10),(11,zI (i:Nat))],[(10,⟨113,1,(mtR n P (K.take i)).map dZ⟩),(4,⟨48,(D.st [zI 0,.sc (.slice none 0 0),zI 0]).wd,[.st [zI 0,.sc (.slice none 0 0),zI 0]]⟩)]⟩) (m:=K.length) ⟨0,aO _,rfl,rfl⟩ fun q s hs=>?_;obtain⟨i,hi,rfl,rfl⟩:=hs;by_cases hin:i<K.length
 ·obtain⟨c,hc⟩:=get_some hin;have hcV:=bj hc;have hcl:=hKr c hcV;have hsn:=FU n P (K.take i) c;rw[<-bF hc]at hsn;obtain⟨x,hx⟩:∃x,x=fC P n (c.take P.length):=⟨_,rfl⟩;have TI':=TI c hcV;rw[<-hx]at hsn TI';have e1:dW [c.take P.length]= .ls 1 [.ls 2 ((c.map D.nm).take P.length)]:=by rw[<-vV];rfl
  rw[e1]at TI';obtain⟨X1,g0,TI'⟩:∃X1:Mx.Mat,X1[0]?=some x/\Fn Tryz.prog 22 [.ls 1 [.ls 2 ((c.map D.nm).take P.length)],dW P,zI n1] (dW X1):=⟨[x],rfl,TI'⟩;have hc0:(0:Int)=((0:Nat):Int):=rfl;have hml:(c.map D.nm).length=c.length:=bD ..;have hfl:(mtR n P (K.take i)).length<=1000000:=by unfold mtR;rw[bD,aY];omega
  obtain⟨F,hF⟩:∃F,F=mtR n P (K.take i):=⟨_,rfl⟩;rw[<-hF]at hsn hfl;rw[<-hF];clear hF e1 hx TI hKr;refine iw ?_;refine zs25 ?_;refine ib ?_;refine zu ?_;refine ib ?_;refine J8 ?_;(first|refine fo rfl rfl rfl ai zb23 ai ai ?_|((try refine bf ?_);refine aL1 rfl rfl rfl zb23 ?_));refine Jx ?_;refine ib ?_;refine yr ?_;refine zs58 ?_;refine J9 ?_;(first|refine fo rfl rfl rfl ai zb10 ai ai ?_|((try refine bf ?_);refine aL1 rfl rfl rfl zb10 ?_));refine zs58 ?_;refine Jx ?_;refine RJ ?_;refine pn ?_;refine iQ ?_;simp only[nx,inB];exact⟨K.length-(i+1),_,by omega,(ay (sl':=[(2,.pt (dL n1 m1 e1)),(4,.opt 4 0),(6,dW P),(8,.pt (.nm d)),(9,dW K),(10,.own 10),(11,zI ((i+1:Nat):Int))]) (ow':=[(10,⟨113,1,F.map dZ++[dZ x]⟩),(4,⟨48,(D.st [zI 0,.sc (.slice none 0 0),zI 0]).wd,[.st [zI 0,.sc (.slice none 0 0),zI 0]]⟩)]) aF aH),i+1,by omega,rfl,by rw[hsn,cL];rfl⟩
 ·obtain rfl:i=K.length:=by omega
  rw[gf];refine kY ?_;refine av (az (k:=10) aX bq bp) ?_;refine kX ?_;refine ff ?_;refine vK ?_;refine ff ?_;refine RH ?_;refine yp ?_;refine yp ?_;refine iE ?_;refine cn ?_;exact⟨_,az (k:=4) aX bq bp,.two (.cell 4 48) (.tmp 5) _ _ rfl (.cell 4 _ _ rfl rfl ah ah) (.tmp 5 rfl)⟩
end DW
end
section
open Go.RowKit
namespace DW
set_option maxRecDepth 20000
set_option maxHeartbeats 2000000
structure Mk4(n:Nat)(M:Mx.Mat)(z:Int):Prop where
 n0:0<n
 n5:n<=4
 len:M.length<=64
 rc:Mx.Rc n M
 bd:Mx.Bd (2^2400) M
 z0:0<z
 zb:z.natAbs<=2^2400
theorem Mk4.red{n:Nat}{M:Mx.Mat}{z:Int}(h:Mk4 n M z):Mx.Bd (2^(2400*11^n)) (Mx.red n 0 (0,M)).2:=by
 have:=Mx.tT (n:=n) (e:=2400) aa n 0 0 M h.rc (by rw[qI,fH];exact h.bd);rw[bw]at this;exact this
structure rD(n:Nat)(m f:Mx.Mat)(den:Int):Prop where
 lc:lck n m den=0
 n4:n<=4
 fc:chk f=0
 fl:f.length=n
 fw:wid f=n
 full:(nR n m den).length=n
def duM(n:Nat)(m f:Mx.Mat)(den:Int):Mx.Mat:=tim f (Mx.trM n (nR n m den)) n
def duS(n:Nat)(m f:Mx.Mat)(den:Int):Mx.Mat:=mapM (fun x=>x*(den/nG n m den)) (Mx.adM (duM n m f den))
def duE(n:Nat)(m f:Mx.Mat)(den:Int):Int:=((Mx.D n (Mx.at' (duM n m f den))).natAbs:Int)
section
variable {n : Nat} {m f : Mx.Mat} {den : Int} (h : rD n m f den)
include h
theorem rD.n0:0<n:=by have:=(gK h.lc).1;omega
theorem rD.frc:Mx.Rc n f:=by have:=(Oc h.fc).2.2.1;rwa[h.fw]at this
theorem rD.norm:Mx.Rc n (nR n m den)/\0<den/nG n m den/\nH n (nR n m den)=nR n m den/\nG n (nR n m den) (den/nG n m den)=1:=by
 have hd:=(gK h.lc).1;have hnn:=Mx.fX (gZ h.lc) (show 0<den by omega);exact⟨hnn.2.2.2.1,hnn.2.2.2.2.2,hnn.1,hnn.2.1⟩
theorem rD.trc:Mx.Rc n (Mx.trM n (nR n m den)):=by
 have:=Mx.Vj n (nR n m den);rwa[h.full]at this
theorem rD.tbd:Mx.Bd (2^520) (Mx.trM n (nR n m den)):=fun i j=>by
 by_cases hi:i<n
 ·by_cases hj:j<n
  ·rw[Mx.Tr _ hi (by rw[h.full];exact hj)];exact sG (qs h.lc (by have:=h.n4;omega)) j i
  ·rw[Mx.qn h.trc aa];exact aO _
 ·rw[Mx.jC (by rw[Mx.Tq];omega)];exact aO _
theorem rD.dot{row:List Int}(hr:row∈f)(k j:Nat):(ei row (Mx.trM n (nR n m den)) k j).natAbs<=2^573:=by
 have hl:=h.frc row hr;have hb:=Cl (row:=row) (B:=Mx.trM n (nR n m den)) (k:=k) (X:=2^570) (L:=5) (by have:=h.n4;omega) (fun j=>wh (a:=50) (b:=520) (c:=570) (by
  obtain⟨i,hi,rfl⟩:=lX hr;have:=UO h.fc i j;unfold Mx.at' Mx.rw at this;rw[show List.getD f i []=f[i] by rw[aq,aV hi];rfl]at this;exact this) (h.tbd j k) au) j
 refine aB hb ?_;exact pmul (a:=3) (b:=570) (c:=573) (aB (Nat.min_le_right j 5) (show 5<=2^3 by decide)) (af _) au
theorem rD.rc:Mx.Rc n (duM n m f den):=by
 have:=h.n0;exact Mx.Vl _ _ _
theorem rD.bd:Mx.Bd (2^573) (duM n m f den):=sG fun l hl x hx=>by
 obtain⟨row,hr,rfl⟩:=dY.1 hl;obtain⟨k,_,rfl⟩:=dY.1 hx;exact h.dot hr k _
end
end DW
end
section
open Go.RowKit
namespace DW
section
variable {n : Nat} {m f : Mx.Mat} {den : Int} (h : rD n m f den)
include h
theorem rD.is:Mx.WH n f (nR n m den) (den/nG n m den) (duM n m f den) (duS n m f den) (duE n m f den):=by
 have:=h.n0;exact⟨rfl,rfl,rfl⟩
end
set_option maxRecDepth 20000
set_option maxHeartbeats 4000000
theorem Ij(n d:Int)(R:Mx.Mat)(h1:R.length<=1000000000)(h2:∀l∈R,l.length<=1000000000):Fn Tryz.prog 35 [dL n R d,dL n R d] (.sc (.bool true)):=by
 have:=Ik n n d d R R h1 h2;rwa[aD rfl,aD rfl,aD rfl,Bool.and_self,Bool.and_self]at this
end DW
end
section
open Go.RowKit
namespace DW
structure IxOk(n:Nat)(ma:Mx.Mat)(ea:Int)(mb:Mx.Mat)(eb:Int):Prop where
 ca:lck n ma ea=0
 cb:lck n mb eb=0
 n5:n<=5
 fa:(nR n ma ea).length=n
 fb:(nR n mb eb).length=n
def ixM(n:Nat)(ma:Mx.Mat)(ea:Int)(mb:Mx.Mat)(eb:Int):Int:=Mx.dpr (Mx.at' (nR n ma ea)) n*Mx.dpr (fun _ _=>eb/nG n mb eb) n
theorem gj{n:Nat}{m:Mx.Mat}{e:Int}(h:lck n m e=0):nH n (nR n m e)=nR n m e/\Mx.Rc n (nR n m e)/\0<e/nG n m e/\0<n/\n<=6:=by
 obtain⟨k1,_,_⟩:=gK h;obtain⟨a1,a2,a3,a4,a5,a6⟩:=Mx.fX (gZ h) (show 0<e by omega);exact⟨a1,a4,a6,by omega,by omega⟩
theorem Tl{n:Nat}{m:Mx.Mat}{e:Int}(h:lck n m e=0)(hf:(nR n m e).length=n):Mx.D n (Mx.at' (nR n m e))=Mx.dpr (Mx.at' (nR n m e)) n/\1<=Mx.dpr (Mx.at' (nR n m e)) n:=by
 obtain⟨a1,a2,a3,a4,a5⟩:=gj h;obtain⟨b1,b2⟩:=Mx.PY a2 hf a1;rw[b1]at b2;exact⟨b1,b2⟩
section
variable {n : Nat} {ma mb : Mx.Mat} {ea eb : Int} (h : IxOk n ma ea mb eb)
include h
theorem IxOk.mp:1<=ixM n ma ea mb eb:=by
 have h1:=(Tl h.ca h.fa).2;have h2:=Mx.Cj (show 1<=eb/nG n mb eb by have:=(gj h.cb).2.2.1;omega) n;have:=vW h1 h2 aa aa;unfold ixM;omega
end
theorem tck_0{n:Nat}{ma mb:Mx.Mat}{ea eb:Int}(ha:lck n ma ea=0)(hb:lck n mb eb=0):tck n ma ea n mb eb=0:=by
 unfold tck;rw[aj (fun h=>h ha),aj (fun h=>h hb),an rfl]
theorem pchk{n:Nat}{m:Mx.Mat}{e:Int}(h:lck n m e=0):Fn Tryz.prog 33 [dL n m e] (zI (lck n m e)):=by
 obtain⟨k1,k2,k3⟩:=gK h;exact vm n e m xv xv aa (fun r hr=>by have:=gZ h r hr;omega)
theorem pread{n:Nat}{m:Mx.Mat}{e:Int}(h:lck n m e=0):Fn Tryz.prog 87 [dL n m e] (dF n (nR n m e) (e/nG n m e)):=by
 obtain⟨k1,k2,k3⟩:=gK h;exact Vx n e m n xv aa aa aa (gZ h) (A5 h) (Nl h)
theorem KE{n:Nat}{ma mb:Mx.Mat}{ea eb:Int}(ha:lck n ma ea=0)(hb:lck n mb eb=0):Fn Tryz.prog 134 [dL n ma ea,dL n mb eb] (zI 0):=by
 have:=MH n ea n eb ma mb (pchk ha) (pchk hb);rwa[tck_0 ha hb]at this
theorem rcom{n:Nat}{ma mb:Mx.Mat}{ea eb:Int}(ca:lck n ma ea=0)(cb:lck n mb eb=0)(h5:n<=5):Fn Tryz.prog 138 [dL n ma ea,dL n mb eb] (.tp [dW (mapM (fun x=>x*(eb/nG n mb eb)) (nR n ma ea)),dW (mapM (fun x=>x*(ea/nG n ma ea)) (nR n mb eb)),.nm (ea/nG n ma ea*(eb/nG n mb eb))]):=by
 have la:=AQ ca;have lb:=AQ cb;have ra:=(gj ca).2.1;have rb:=(gj cb).2.1;exact My n ea n eb _ _ _ ma mb _ _ _ _ (CH ca h5) (CH cb h5)
  (Fo _ _ aa (fun l hl=>by have:=ra l hl;omega) (cB (lL cb) aa) (fun l hl x hx=>cB (qs ca h5 l hl x hx) aa))
  (Fo _ _ aa (fun l hl=>by have:=rb l hl;omega) (cB (lL ca) aa) (fun l hl x hx=>cB (qs cb h5 l hl x hx) aa))
  (DZ _ _ (cB (lL ca) aa) (cB (lL cb) aa))
end DW
end
section
open Go.RowKit
namespace DW
theorem Nh{n e:Nat}{A:Mx.Mat}(hA:Mx.Rc n A)(he:3<=e)(hb:Mx.Bd (2^e) A):∀c∈(dp n (Mx.red n 0 (0,cA A)).2).drop (Mx.red n 0 (0,cA A)).1,c.length=A.length/\∀x∈c,x.natAbs<=2^(e*6^n):=fun c hc=>by
 have h1:=Mx.Im (n:=n+A.length) n 0 0 e (cA A) he (fU hA) (fun i j _=>xP hb i j);have h2:=(Mx.eh n 0 (0,cA A) (fU hA)).rc (fU hA);generalize(Mx.red n 0 (0,cA A)).1=r at*;generalize(Mx.red n 0 (0,cA A)).2=M at*;unfold dp at hc;rw[<-vQ]at hc;obtain⟨l,hl,rfl⟩:=dY.1 hc;obtain⟨k,hk⟩:=zL.1 hl;rw[eF]at hk;have hlm:=h2 l (bj hk);refine⟨by rw[de];omega,fun x hx=>?_⟩;obtain⟨j,hj⟩:=zL.1 (zK hx);have h3:=h1 (r+k) j aa;unfold Mx.at' at h3;rw[Mx.di hk,aq,hj]at h3;exact h3
theorem bds{n:Nat}(hn:n<=5):6^n<=7776/\11^n<=161051:=⟨bI (n:=6) aa hn,bI (n:=11) aa hn⟩
def cP(n:Nat)(ma:Mx.Mat)(ea:Int)(mb:Mx.Mat)(eb:Int):Mx.Mat:=mapM (fun x=>(eb/nG n mb eb)*x) (nR n ma ea)
section
variable {n : Nat} {ma mb : Mx.Mat} {ea eb : Int} (h : IxOk n ma ea mb eb)
include h
end
end DW
end
section
namespace Mx
theorem Ia{n:Nat}{f:Nat->Int}{i:Nat}(hi:i<n)(h:∀k,k<n->k≠i->f k=0):sm n f=f i:=by
 have:sm n f=sm n fun k=>f i*if k=i then 1 else 0:=bG _ _ _ fun k hk=>by
  by_cases e:k=i
  ·rw[an e,e,xC]
  ·rw[aj e,dv,h k hk e]
 rw[this,kE];have h1:∀n,i<n->sm n (fun k=>if k=i then(1:Int)else 0)=1:=fun n=>by
  induction n with
  |zero=>intro h;omega
  |succ n ih=>
   intro hn;rw[qM n _ 1];by_cases e:i=n
   ·rw[kI n _ fun k hk=>aj aa];simp[sm,e]
   ·rw[ih aa];have:sm 1 (fun k=>if n+k=i then(1:Int)else 0)=0:=kI _ _ fun k hk=>aj aa;rw[this];rfl
 rw[h1 n hi,xC]
theorem uT{M:Mat}{v:Nat->Int}:SP M v↔∃f:Nat->Int,∀j,v j=sm M.length fun k=>f k*at' M k j:=by
 constructor
 ·rintro⟨f,h⟩;exact⟨f,fun j=>by rw[h j,tZ]⟩
 ·rintro⟨f,h⟩;exact⟨f,fun j=>by rw[h j,tZ]⟩
theorem xG{n:Nat}{M:Mat}(h:Rc n M)(v:Nat->Int):SP (nH n M) v↔SP M v:=by
 have hs:=(eh n 0 (0,M) h).sp h;have hre:=(eh n 0 (0,M) h);obtain⟨pv,he⟩:=iJ n 0 (0,M) id h (gL _);rw[bw]at he;have hrc:=hre.rc h;unfold nH;constructor
 ·intro hv;refine hs.1 v (SP.sub (fun i hi=>(SP.row _ i).congr fun j=>?_) hv);rw[aY]at hi;exact mq aa
 ·intro hv;refine SP.sub (fun i hi=>?_) (hs.2 v hv);by_cases hir:i<(red n 0 (0,M)).1
  ·exact(SP.row _ i).congr fun j=>(mq hir).symm
  ·refine(SP.zero _).congr fun j=>?_;by_cases hj:j<n
   ·exact he.zb i aa j hj
   ·exact qn hrc aa
theorem ru(X:Mat)(n a i j:Nat):at' (X++List.replicate a (List.replicate n 0)) i j=at' X i j:=by
 by_cases h:i<X.length
 ·rw[pg h]
 ·obtain⟨k,rfl⟩:∃k,i=X.length+k:=⟨i-X.length,by omega⟩;rw[pe,jC (M:=X) aa];unfold at' rw;rw[aq,aq,lf];split
  ·simp only[mE,lf];split<;>rfl
  ·simp
theorem Nz(n a:Nat):∀(X:Mat),HF X->HF (X++List.replicate a (List.replicate n 0))
 |[],_=>by
  have key:∀a,HF (List.replicate a (List.replicate n (0:Int))):=fun a=>by
   cases a with
   |zero=>trivial
   |succ a=>exact .inl fun i j=>by have:=ru [] n (a+1) i j;rw[ew]at this;exact this.trans (jC (aO _))
  rw[ew];exact key a
 |r::X,h=>by
  have e:∀i j,at' (r::(X++List.replicate a (List.replicate n 0))) i j=at' (r::X) i j:=fun i j=>by
   have:=ru (r::X) n a i j;rwa[uJ]at this
  rcases h with h|⟨p,h1,h2,h3,h4,h5⟩
  ·exact .inl fun i j=>(e i j).trans (h i j)
  ·refine .inr ⟨p,fun i j hj=>(e i j).trans (h1 i j hj),h2,fun i=>(ru X n a i p).trans (h3 i),Nz n a X h4,fun i q g1 g2=>?_⟩;have e2:=ru X n a i q;have g3:at' X i q≠0:=fun h=>g2 (e2.trans h);have g4:=h5 i q (fun j hj=>(ru X n a i j).symm.trans (g1 j hj)) g3;exact⟨g4.1,Int.lt_of_lt_of_le g4.2 (Int.le_of_eq e2.symm)⟩
theorem xM{n:Nat}{A B:Mat}(ha:Rc n A)(hb:Rc n B)(h:∀v,SP A v↔SP B v):nH n A=nH n B:=by
 have key:∀{A B:Mat},Rc n A->Rc n B->(∀v,SP A v↔SP B v)->(nH n A).length<=(nH n B).length->nH n A=nH n B:=fun {A B} ha hb h hl=>by
  obtain⟨a,hal⟩:∃a,(nH n B).length=(nH n A).length+a:=⟨(nH n B).length-(nH n A).length,by omega⟩;have sp:∀v,SP (nH n A++List.replicate a (List.replicate n 0)) v↔SP (nH n A) v:=fun v=>by
   constructor
   ·exact SP.sub fun i _=>(SP.row (nH n A) i).congr fun j=>ru _ _ _ _ _
   ·exact SP.sub fun i _=>(SP.row (nH n A++List.replicate a (List.replicate n 0)) i).congr fun j=>(ru _ _ _ _ _).symm
  have hrc:∀{M:Mat},Rc n M->Rc n (nH n M):=fun {M} h r hr=>(eh n 0 (0,M) h).rc h r (mZ hr);have e:=Cf (n:=n) (nH n A++List.replicate a (List.replicate n 0)) (nH n B) (by rw[cv,pq,hal]) (fun r hr=>by
   rcases gy.1 hr with hr|hr
   ·exact hrc ha r hr
   ·rw[EA hr,pq]) (hrc hb) (Nz n a _ (DS ha)) (DS hb) (fun v hv=>(xG hb v).2 ((h v).1 ((xG ha v).1 ((sp v).1 hv)))) (fun v hv=>(sp v).2 ((xG ha v).2 ((h v).2 ((xG hb v).1 hv))))
  cases a with
  |zero=>rw[List.replicate_zero,kB]at e;exact e
  |succ a=>
   exfalso;have hm:List.replicate n (0:Int)∈nH n B:=by
    rw[<-e];exact EB _ (List.mem_replicate.2 ⟨by omega,rfl⟩)
   have:=KL hb _ hm;rw[vO]at this;obtain⟨x,hx,hx2⟩:=this;rw[EA hx]at hx2;simp at hx2
 rcases Nat.le_total (nH n A).length (nH n B).length with hl|hl
 ·exact key ha hb h hl
 ·exact(key hb ha (fun v=>(h v).symm) hl).symm
theorem Qn{A:Mat}{k j:Nat}(hA:Rc (wid A) A)(hk:k<A.length)(hj:j<wid A):at' (cA A) k j=at' A k j:=by
 have hl:=hA.rw hk;unfold at';rw[di (np hk),aq,dC aa,aq]
theorem GV{A:Mat}{k l:Nat}(hA:Rc (wid A) A)(hk:k<A.length):at' (cA A) k (wid A+l)=if l=k then 1 else 0:=by
 have hl:=hA.rw hk;unfold at';rw[di (np hk),aq,ez aa,hl,oc];unfold fO;rw[Ad];split
 ·next e=>
  rw[pq,an hk,an e.symm];rfl
 ·next e=>
  rw[aj (fun h=>e h.symm),lf];split<;>rfl
theorem SV{A:Mat}(i k:Nat):at' (cg A) i k=at' (HT A).2 i (wid A+k):=by unfold cg;exact _root_.Go.Proofs.YtcgjmdpcplhanaaGreat.UU (wid A) (HT A).2 i k
theorem GW(M:Mat)(r i k:Nat):at' (M.drop r) i k=at' M (r+i) k:=by
 have:rw (M.drop r) i=rw M (r+i):=by
  unfold rw;rw[aq,aq,eF]
 unfold at';rw[this]
theorem Uq{A:Mat}(hA:Rc (wid A) A)(x:Nat->Int)(h0:∀j,(sm A.length fun k=>x k*at' A k j)=0):∃z:Nat->Int,∀k,k<A.length->x k=sm (A.length-(HT A).1) fun i=>z i*at' (cg A) ((HT A).1+i) k:=by
 have hE:=fU hA;have hre:=eh (wid A) 0 (0,cA A) hE;obtain⟨pv,he⟩:=iJ (wid A) 0 (0,cA A) id hE (gL _);rw[bw]at he;have hsp:=(hre.sp hE).2 (fun j=>lcf x (cA A) j) ⟨x,fun j=>rfl⟩;obtain⟨z,hz⟩:=hsp;have hU:=fun i k=>SV (A:=A) i k;have hl:(HT A).2.length=A.length:=wX hA;rw[show red (wid A) 0 (0,cA A)=HT A from rfl]at he hz;have hle:=he.le;generalize(HT A).1=r at*;generalize cg A=U at*;generalize(HT A).2=M at*;simp only[tZ,gV]at hz;have hz1:∀j,j<wid A->(sm M.length fun i=>z i*at' M i j)=0:=fun j hj=>by
  rw[<-hz j,<-h0 j];exact bG _ _ _ fun k hk=>by rw[Qn hA hk hj]
 have hz0:∀i,i<r->z i=0:=fun i=>by
  induction i using Nat.strongRecOn with
  |_ i ih=>
   intro hi;have h1:=hz1 (pv i) (he.lt i hi);rw[Ia (i:=i) aa fun k hk hne=>by
    by_cases hlt:k<i
    ·rw[ih k hlt aa,pD]
    ·by_cases hkr:k<r
     ·rw[he.zl k hkr (pv i) (he.mono i k aa hkr),dv]
     ·rw[he.zb k aa (pv i) (he.lt i hi),dv]]at h1
   have h2:=he.pos i hi;rcases vY.1 h1 with h|h
   ·exact h
   ·omega
 refine⟨fun i=>z (r+i),fun k hk=>?_⟩;have h1:=hz (wid A+k);rw[Ia (i:=k) hk fun l hl hne=>by rw[GV hA hl,aj (Ne.symm hne),dv],GV hA hk,an rfl,xC,show M.length=r+(A.length-r) by omega,qM,kI r _ fun i hi=>by rw[hz0 i hi,pD],Int.zero_add]at h1;rw[h1];exact bG _ _ _ fun i _=>by rw[hU]
def mp(n:Nat)(P X:Mat):Mat:=X.map fun c=>DW.fC P n (c.take P.length)
theorem vg(n:Nat)(P X:Mat):Rc n (mp n P X):=fun r hr=>by
 obtain⟨c,_,rfl⟩:=dY.1 hr;unfold DW.fC;simp
theorem AU{n:Nat}{P X:Mat}(hP:Rc n P){i:Nat}(hi:i<X.length)(j:Nat):at' (mp n P X) i j=sm P.length fun k=>at' X i k*at' P k j:=by
 by_cases hj:j<n
 ·have h1 : (mp n P X)[i]? = some (DW.fC P n ((rw X i).take P.length)) := by
   unfold mp;rw[bN];unfold rw;rw[aq,aV hi];rfl
  have h2:(DW.fC P n ((rw X i).take P.length))[j]?=some (DW.ei ((rw X i).take P.length) P j P.length):=by
   unfold DW.fC;rw[bN,iT hj];rfl
  conv=>lhs;unfold at'
  rw[di h1,aq,h2];show DW.ei _ P j P.length=_;rw[Ck];refine bG _ _ _ fun k hk=>?_;rw[aq,jo hk,<-aq];rfl
 ·rw[qn (vg n P X) aa,kI _ _ fun k _=>by rw[qn hP aa,dv]]
theorem qU(n:Nat)(P X:Mat):(mp n P X).length=X.length:=by simp[mp]
theorem Sr{n:Nat}{P X Y:Mat}(hP:Rc n P)(h:∀u,SP X u->SP Y u):∀v,SP (mp n P X) v->SP (mp n P Y) v:=fun v hv=>by
 refine SP.sub (fun i hi=>?_) hv;rw[qU]at hi;obtain⟨f,hf⟩:=uT.1 (h _ (SP.row X i));refine uT.2 ⟨f,fun j=>?_⟩;rw[AU hP hi,qU];have e1:(sm P.length fun k=>at' X i k*at' P k j)=sm P.length fun k=>sm Y.length fun l=>f l*at' Y l k*at' P k j:=bG _ _ _ fun k _=>by
  rw[hf k,fq,<-kE];exact bG _ _ _ fun l _=>fq _ _
 rw[e1,tL];refine bG _ _ _ fun l hl=>?_;rw[AU hP hl,<-kE];exact bG _ _ _ fun k _=>eE _ _ _
theorem Uk{n:Nat}{P Q:Mat}(hP:Rc n P)(hA:Rc (wid (P++Q)) (P++Q))(v:Nat->Int):SP (mp n P ((cg (P++Q)).drop (HT (P++Q)).1)) v↔SP P v/\SP Q v:=by
 have hl:(cg (P++Q)).length=P.length+Q.length:=by rw[rB hA,cv]
 have hr:=Lw hA;have hal:(P++Q).length=P.length+Q.length:=cv;have hat:∀i k,at' ((cg (P++Q)).drop (HT (P++Q)).1) i k=at' (cg (P++Q)) ((HT (P++Q)).1+i) k:=fun i k=>GW _ _ _ _;have hdl:((cg (P++Q)).drop (HT (P++Q)).1).length=P.length+Q.length-(HT (P++Q)).1:=by rw[de,hl]
 have hker:∀i,i<P.length+Q.length-(HT (P++Q)).1->∀j,(sm P.length fun k=>at' (cg (P++Q)) ((HT (P++Q)).1+i) k*at' P k j)+(sm Q.length fun k=>at' (cg (P++Q)) ((HT (P++Q)).1+i) (P.length+k)*at' Q k j)=0:=fun i hi j=>by
  have e:(sm P.length fun k=>at' (cg (P++Q)) ((HT (P++Q)).1+i) k*at' P k j)+(sm Q.length fun k=>at' (cg (P++Q)) ((HT (P++Q)).1+i) (P.length+k)*at' Q k j)=sm (P++Q).length fun k=>at' (cg (P++Q)) ((HT (P++Q)).1+i) k*at' (P++Q) k j:=by
   rw[hal,qM];congr 1
   ·exact bG _ _ _ fun k hk=>by rw[pg hk]
   ·exact bG _ _ _ fun k hk=>by rw[pe]
  rw[e];by_cases hj:j<wid (P++Q)
  ·rw[<-Vm (c:=wid (P++Q)) aa hj,DW.WE hA];obtain⟨pv,he⟩:=iJ (wid (P++Q)) 0 (0,cA (P++Q)) id (fU hA) (gL _);rw[bw]at he;have:=he.zb ((HT (P++Q)).1+i) (ta _ _) j hj;unfold Ed;rw[Bk hj];exact this
  ·exact kI _ _ fun k _=>by rw[qn hA aa,dv]
 constructor
 ·intro hv;refine⟨SP.sub (fun i hi=>?_) hv,SP.sub (fun i hi=>?_) hv⟩
  ·rw[qU]at hi;exact uT.2 ⟨fun k=>at' ((cg (P++Q)).drop (HT (P++Q)).1) i k,fun j=>AU hP hi j⟩
  ·rw[qU,hdl]at hi;refine uT.2 ⟨fun k=>-at' (cg (P++Q)) ((HT (P++Q)).1+i) (P.length+k),fun j=>?_⟩;rw[AU hP aa];have h1:=hker i hi j;have e1:(sm P.length fun k=>at' ((cg (P++Q)).drop (HT (P++Q)).1) i k*at' P k j)=sm P.length fun k=>at' (cg (P++Q)) ((HT (P++Q)).1+i) k*at' P k j:=bG _ _ _ fun k _=>by rw[hat]
   have e2:(sm Q.length fun k=>-at' (cg (P++Q)) ((HT (P++Q)).1+i) (P.length+k)*at' Q k j)= -1*sm Q.length fun k=>at' (cg (P++Q)) ((HT (P++Q)).1+i) (P.length+k)*at' Q k j:=by
    rw[<-kE];exact bG _ _ _ fun k _=>by rw[gX,gX,jy]
   rw[e1,e2];omega
 ·rintro⟨h1,h2⟩;obtain⟨x,hx⟩:=uT.1 h1;obtain⟨y,hy⟩:=uT.1 h2;obtain⟨z,hz⟩:=Uq hA (fun k=>if k<P.length then x k else-y (k-P.length)) fun j=>by
   rw[hal,qM];have e1:(sm P.length fun k=>(if k<P.length then x k else-y (k-P.length))*at' (P++Q) k j)=v j:=by
    rw[hx j];exact bG _ _ _ fun k hk=>by rw[an hk,pg hk]
   have e2:(sm Q.length fun k=>(if P.length+k<P.length then x (P.length+k)else-y (P.length+k-P.length))*at' (P++Q) (P.length+k) j)= -1*v j:=by
    rw[hy j,<-kE];exact bG _ _ _ fun k hk=>by rw[aj aa,pe,oc,gX,gX,jy]
   rw[e1,e2];omega
  refine uT.2 ⟨z,fun j=>?_⟩;rw[qU,hx j];have e1:(sm P.length fun k=>x k*at' P k j)=sm P.length fun k=>sm (P.length+Q.length-(HT (P++Q)).1) fun i=>z i*at' (cg (P++Q)) ((HT (P++Q)).1+i) k*at' P k j:=bG _ _ _ fun k hk=>by
   have h3:=hz k aa;simp only[an hk]at h3;rw[h3,fq,<-kE,hal];exact bG _ _ _ fun l _=>fq _ _
  rw[e1,tL,hdl];refine bG _ _ _ fun i hi=>?_;rw[AU hP aa,<-kE];exact bG _ _ _ fun k _=>by rw[hat,eE]
end Mx
end
section
open Go.RowKit
namespace DW
set_option maxRecDepth 20000
theorem wtr_0:Fn Tryz.prog 73 [dW []] (.tp [dW [],dW [],zI 0]):=by
 refine bg Tryz.func73 ah rfl rfl rfl fun X0=>?_;simp only[aP];refine zs2 ?_;refine gar ?_;refine zs3 ?_;refine zs3 ?_;refine jw ?_;refine eX ?_;refine cE ?_;refine zs5 ?_;refine Br ?_;refine aQ ?_;refine bA ?_;refine gar ?_;refine zs3 ?_;refine zs3 ?_;refine jw ?_;refine eX ?_;exact⟨_,Sh.trans (ye (t:=2) (wd:=1) fF) (ye (t:=3) (wd:=1) fF),.three (.tmp 2) (.tmp 3) (.tmp 4) _ _ _ rfl (.tmp 2 rfl) (.tmp 3 rfl) (.tmp 4 rfl)⟩
def smA(n:Nat)(ma:Mx.Mat)(ea:Int)(mb:Mx.Mat)(eb:Int):Mx.Mat:=cP n ma ea mb eb++cP n mb eb ma ea
def smZ(n:Nat)(ma:Mx.Mat)(ea:Int)(mb:Mx.Mat)(eb:Int):Int:=ea/nG n ma ea*(eb/nG n mb eb)
def smT(n:Nat)(ma:Mx.Mat)(ea:Int)(mb:Mx.Mat)(eb:Int):Mx.Mat:=Mx.mp n (cP n ma ea mb eb) ((cg (smA n ma ea mb eb)).drop (HT (smA n ma ea mb eb)).1)
def hnR(n:Nat)(X:Mx.Mat)(z:Int):DW.D:=hnd n (nR n X z) (z/nG n X z)
theorem vo{n:Nat}{X Y:Mx.Mat}{z:Int}(h:nH n X=nH n Y):hnR n X z=hnR n Y z:=by
 unfold hnR nR nG;rw[h]
theorem Ca{n e:Nat}{X:Mx.Mat}{z:Int}(hn0:0<n)(hn:n<=5)(hl:X.length<=64)(hX:Mx.Rc n X)(he:6<=e)(hf:2*(e*11^n)<=6000000000000)(hb:Mx.Bd (2^e) X)(hz:0<z)(hzb:z.natAbs<=2^100):
  Fn Tryz.prog 103 [zI n,dW X,.nm z] (dF n (nR n X z) (z/nG n X z))/\Fn Tryz.prog 88 [dF n (nR n X z) (z/nG n X z)] (hnR n X z):=by
 obtain⟨a1,a2,a3,a4,a5,a6⟩:=Mx.fX hX hz;have hrl:=Mx.AS hX z;have hbd:∀i j,Fit (Mx.at' (nR n X z) i j):=fun i j=>by
  have h1:=Mx.tT (n:=n) (e:=e) aa n 0 0 _ hX zb79;rw[bw]at h1;refine bK (e:=e*11^n) (sG (fun l hl x hx=>?_) i j) aa;obtain⟨r,hr,rfl⟩:=dY.1 hl;obtain⟨y,hy,rfl⟩:=dY.1 hx;exact aB (uh a5 ((Mx.kH (nH n _) _).2 r hr y hy)) (mN h1 (wE hr) hy)
 exact⟨Ix n X n e z aa hn0 aa he hf hX hb (bK hzb aa),
  PT n _ n (z/nG n X z) aa hn0 aa a4 hbd (bK (aB (uh a5 (Mx.kH (nH n _) _).1) hzb) aa) aa⟩
theorem Mt{n e:Nat}{X:Mx.Mat}{z:Int}(hn:n<=5)(hl:X.length<=64)(hX:Mx.Rc n X)(he:6<=e)(he2:e<=700000)(hb:Mx.Bd (2^(e-3)) X)(hz:0<z)(hzb:z.natAbs<=2^100):Fn Tryz.prog 92 [dW X,.nm z,zI n] (hnR n X z):=by
 have h3:3^n<=243:=bI (n:=3) aa hn;have hw:e*3^n<=700000*243:=cr he2 h3;obtain⟨a1,a2,a3,a4,a5,a6⟩:=Mx.fX hX hz;have hrl:=Mx.AS hX z;have EC:=wO X n n e n hX (af _) aa aa he (.inr (af _)) aa hb;have hi:=Mx.AF (n:=n) he n 0 0 X hX (aO _) (Mx.Lm hb);have hr:=Mx.tS hX;have hall:Mx.Bd (2^(2*(e*3^n))) (Mx.red n 0 (0,X)).2:=by
  have hm:e*3^(Mx.red n 0 (0,X)).1<=e*3^n:=bV e (bI aa hr);exact Mx.Ll hi.1 hi.2 (bI aa aa) (bI aa aa)
 have BS:=Ji X n z hX aa aa EC (cB hzb aa) aa (fun l hl x hx=>cB (mN hall (wE hl) hx) aa) (fun l hl x hx=>cB (mN hall hl hx) aa);exact TU n X (nR n X z) z (z/nG n X z) BS aa (fun l hl=>by have:=a4 l hl;omega) (fun l hl x hx=>by
  obtain⟨r,hr,rfl⟩:=dY.1 hl;obtain⟨y,hy,rfl⟩:=dY.1 hx;exact uc (aB (uh a5 ((Mx.kH (nH n _) _).2 r hr y hy)) (mN hall (wE hr) hy)) aa) (uc (aB (uh a5 (Mx.kH (nH n _) _).1) hzb) aa)
theorem N5{a b:Nat}{P:Mx.Mat}{c:List Int}(hc:c.length<=8)(hx:∀x∈c,x.natAbs<=2^a)(hP:Mx.Bd (2^b) P)(k j:Nat):(ei c P k j).natAbs<=2^(a+b+3):=by
 refine aB (Cl (L:=8) (X:=2^(a+b)) hc (fun j=>wh (yZ hx j) (hP j k) (af _)) j) ?_;refine aB (cF _ (Nat.min_le_right _ _)) ?_;rw[show(8:Nat)=2^3 by decide,<-eZ,mX];exact af _
theorem Ss{n a b:Nat}{P X:Mx.Mat}(hp:P.length<=8)(hX:∀c∈X,∀x∈c,x.natAbs<=2^a)(hP:Mx.Bd (2^b) P):Mx.Bd (2^(a+b+3)) (Mx.mp n P X):=sG fun l hl x hx=>by
 obtain⟨c,hc,rfl⟩:=dY.1 hl;obtain⟨k,_,rfl⟩:=dY.1 hx;exact N5 nQ (fun x hx=>hX c hc x (mZ hx)) hP k _
structure cQ(n:Nat)(ma:Mx.Mat)(ea:Int)(mb:Mx.Mat)(eb:Int):Prop where
 ca:lck n ma ea=0
 cb:lck n mb eb=0
 n5:n<=5
section
variable {n : Nat} {ma mb : Mx.Mat} {ea eb : Int} (h : cQ n ma ea mb eb)
include h
theorem cQ.swap:cQ n mb eb ma ea:=⟨h.cb,h.ca,h.n5⟩
theorem cQ.pb:Mx.Bd (2^570) (cP n ma ea mb eb):=fun i j=>by
 unfold cP;rw[xW (fun x=>(eb/nG n mb eb)*x) (dv _)];exact wh (a:=50) (b:=520) (c:=570) (lL h.cb) (sG (qs h.ca h.n5) i j) au
theorem cQ.prc:Mx.Rc n (cP n ma ea mb eb):=IC (gj h.ca).2.1
theorem cQ.pl:(cP n ma ea mb eb).length<=5:=by
 have:=Mx.AS (gZ h.ca) ea;have:=h.n5;unfold cP;rw[fi];omega
theorem cQ.arc:Mx.Rc n (smA n ma ea mb eb):=fun r hr=>by
 rcases gy.1 hr with hr|hr
 ·exact h.prc r hr
 ·exact h.swap.prc r hr
theorem cQ.al:(smA n ma ea mb eb).length=(cP n ma ea mb eb).length+(cP n mb eb ma ea).length:=by
 have:=h.n5;exact cv
theorem cQ.zo:(smA n ma ea mb eb).length<=10:=by
 have:=h.al;have:=h.pl;have:=h.swap.pl;omega
theorem cQ.ab:Mx.Bd (2^570) (smA n ma ea mb eb):=fun i j=>by
 unfold smA;by_cases hi:i<(cP n ma ea mb eb).length
 ·rw[Mx.pg hi];exact h.pb i j
 ·obtain⟨k,rfl⟩:∃k,i=(cP n ma ea mb eb).length+k:=⟨i-(cP n ma ea mb eb).length,by omega⟩;rw[Mx.pe];exact h.swap.pb k j
theorem cQ.aw(h0:smA n ma ea mb eb≠[]):wid (smA n ma ea mb eb)=n:=by
 obtain⟨l,h1,h2⟩:=Hv (m:=smA n ma ea mb eb) (iC.2 h0);rw[<-h2];exact h.arc l (bj h1)
theorem cQ.aw5:wid (smA n ma ea mb eb)<=5:=by
 by_cases h0:smA n ma ea mb eb=[]
 ·rw[h0];exact aO _
 ·rw[h.aw h0];exact h.n5
theorem cQ.awr:Mx.Rc (wid (smA n ma ea mb eb)) (smA n ma ea mb eb):=by
 by_cases h0:smA n ma ea mb eb=[]
 ·rw[h0];exact fun r hr=>by cases hr
 ·rw[h.aw h0];exact h.arc
theorem cQ.zb:(smZ n ma ea mb eb).natAbs<=2^100:=wh (lL h.ca) (lL h.cb) au
theorem cQ.zp:0<smZ n ma ea mb eb:=Int.mul_pos (gj h.ca).2.2.1 (gj h.cb).2.2.1
theorem cQ.zs:smZ n mb eb ma ea=smZ n ma ea mb eb:=by
 have:=h.n5;exact fq _ _
theorem cQ.b1:Fn Tryz.prog 100 [dW (nR n ma ea),.nm (eb/nG n mb eb)] (dW (cP n ma ea mb eb)):=by
 have:=gj h.ca;have:=AQ h.ca;exact wby_d _ n _ aa aa aa (gj h.ca).2.1 (bK (lL h.cb) aa) (fun i j=>bK (sG (qs h.ca h.n5) i j) aa)
theorem cQ.cc:Fn Tryz.prog 140 [.ls 1 [dW (cP n ma ea mb eb),dW (cP n mb eb ma ea)]] (dW (smA n ma ea mb eb)):=by
 have:=h.pl;have:=h.swap.pl;exact Qk _ _ aa aa
theorem cQ.ml:Fn Tryz.prog 117 [.nm (ea/nG n ma ea),.nm (eb/nG n mb eb)] (.nm (smZ n ma ea mb eb)):=wL _ _ (bK (lL h.ca) aa) (bK (lL h.cb) aa)
theorem cQ.sum:Fn Tryz.prog 67 [dL n ma ea,dL n mb eb] (hnR n (smA n ma ea mb eb) (smZ n ma ea mb eb)):=by
 have hn:=gj h.ca;have h10:=h.zo;obtain⟨h6,h11⟩:=bds h.n5;obtain⟨NO,HD⟩:=Ca (X:=smA n ma ea mb eb) (z:=smZ n ma ea mb eb) (e:=570) hn.2.2.2.1 h.n5 aa h.arc aa aa h.ab h.zp h.zb;obtain⟨n2,R2,d2,C,e,_⟩:=wM n (nR n (smA n ma ea mb eb) (smZ n ma ea mb eb)) (smZ n ma ea mb eb/nG n (smA n ma ea mb eb) (smZ n ma ea mb eb));unfold hnR at HD⊢;rw[e]at HD⊢;exact VA n ea n eb _ _ _ _ n2 d2 C ma mb _ _ _ _ _ _ R2 (KE h.ca h.cb) (pread h.ca) (pread h.cb) h.b1 h.swap.b1 h.cc h.ml NO HD
theorem cQ.com:Fn Tryz.prog 138 [dL n ma ea,dL n mb eb] (.tp [dW (cP n ma ea mb eb),dW (cP n mb eb ma ea),.nm (smZ n ma ea mb eb)]):=by
 have:=rcom h.ca h.cb h.n5;have e1:(fun x:Int=>x*(eb/nG n mb eb))=fun x=>(eb/nG n mb eb)*x:=funext fun x=>fq ..;have e2:(fun x:Int=>x*(ea/nG n ma ea))=fun x=>(ea/nG n ma ea)*x:=funext fun x=>fq ..;rw[e1,e2]at this;exact this
theorem cQ.rsum:Fn Tryz.prog 69 [dL n ma ea,dL n mb eb] (hnR n (smA n ma ea mb eb) (smZ n ma ea mb eb)):=by
 have h10:=h.zo;have MD:=Mt (e:=573) (X:=smA n ma ea mb eb) (z:=smZ n ma ea mb eb) h.n5 aa h.arc aa aa (by rw[show 573-3=570 from rfl];exact h.ab) h.zp h.zb;obtain⟨n2,R2,d2,C,e,_⟩:=wM n (nR n (smA n ma ea mb eb) (smZ n ma ea mb eb)) (smZ n ma ea mb eb/nG n (smA n ma ea mb eb) (smZ n ma ea mb eb));unfold hnR at MD⊢;rw[e]at MD⊢;have hal:=h.al;exact Vs n ea n eb _ n2 d2 C ma mb _ _ R2 aa h.com MD
theorem cQ.hle:(HT (smA n ma ea mb eb)).1<=5/\(HT (smA n ma ea mb eb)).1<=(smA n ma ea mb eb).length:=by
 refine⟨?_,Lw h.awr⟩;have h1:=Mx.TZ h.awr;have h2:=Mx.tS h.awr;rw[h1]at h2;exact aB h2 h.aw5
theorem cQ.msp(v:Nat->Int):Mx.SP (smT n ma ea mb eb) v↔Mx.SP (cP n ma ea mb eb) v/\Mx.SP (cP n mb eb ma ea) v:=Mx.Uk h.prc h.awr v
theorem cQ.mbd:∃e,2*(e*11^n)<=6000000000000/\6<=e/\Mx.Bd (2^e) (smT n ma ea mb eb):=by
 obtain⟨h6,h11⟩:=bds h.n5;have hpl:=h.pl;refine⟨570*6^n+570+3,?_,by omega,Ss aa (fun c hc=>?_) h.pb⟩
 ·have:(570*6^n+570+3)*11^n<=4432893*161051:=cr aa h11;omega
 ·by_cases h0:smA n ma ea mb eb=[]
  ·rw[h0]at hc;cases hc
  ·have hU:cg (smA n ma ea mb eb)=dp n (Mx.red n 0 (0,cA (smA n ma ea mb eb))).2:=by unfold cg HT;rw[h.aw h0]
   have hT:(HT (smA n ma ea mb eb)).1=(Mx.red n 0 (0,cA (smA n ma ea mb eb))).1:=by unfold HT;rw[h.aw h0]
   rw[hU,hT]at hc;exact(Nh h.arc au h.ab c hc).2
theorem cQ.mlen:(smT n ma ea mb eb).length<=10:=by
 unfold smT;rw[Mx.qU,de,rB h.awr];have:=h.zo;omega
theorem cQ.meet:Fn Tryz.prog 68 [dL n ma ea,dL n mb eb] (hnR n (smT n ma ea mb eb) (smZ n ma ea mb eb)):=by
 have hn:=gj h.ca;have h5:=h.n5;obtain⟨h6,h11⟩:=bds h5;have hal:=h.al;have h10:=h.zo;have hpl:=h.pl;have CC:=h.cc;have hml:=h.mlen;obtain⟨e,he1,he2,he3⟩:=h.mbd;by_cases hP:(cP n ma ea mb eb).length=0
 ·have hP0:=gP hP;have hsame:nH n ([]:Mx.Mat)=nH n (smT n ma ea mb eb):=Mx.xM (fun r hr=>by cases hr) (Mx.vg _ _ _) fun v=>by
   rw[h.msp,hP0];exact⟨fun hv=>⟨hv,Mx.SP.sub (fun i hi=>by simp at hi) hv⟩,fun hv=>hv.1⟩
  rw[<-vo hsame];obtain⟨NO,HD⟩:=Ca (X:=[]) (e:=6) hn.2.2.2.1 h5 aU (fun r hr=>by cases hr) aa aa (fun i j=>by rw[Mx.jC (aO _)];simp) h.zp h.zb;obtain⟨n2,R2,d2,C,e2,_⟩:=wM n (nR n [] (smZ n ma ea mb eb)) (smZ n ma ea mb eb/nG n [] (smZ n ma ea mb eb));unfold hnR at HD⊢;rw[e2]at HD⊢;obtain⟨H,U,r,TR,t1,t2⟩:∃(H U:Mx.Mat) (r:Nat),Fn Tryz.prog 73 [dW (smA n ma ea mb eb)] (.tp [dW H,dW U,zI (r:Nat)])/\r<=U.length/\U.length<=1000000:=by
   by_cases h0:smA n ma ea mb eb=[]
   ·rw[h0];exact⟨[],[],0,wtr_0,af _,by simp⟩
   ·have hU:cg (smA n ma ea mb eb)=dp n (Mx.red n 0 (0,cA (smA n ma ea mb eb))).2:=by unfold cg HT;rw[h.aw h0]
    have hT:(HT (smA n ma ea mb eb)).1=(Mx.red n 0 (0,cA (smA n ma ea mb eb))).1:=by unfold HT;rw[h.aw h0]
    have hl:=rB h.awr;have hle:=h.hle.2;rw[hU]at hl;rw[hT]at hle;exact⟨_,_,_,Sc (smA n ma ea mb eb) n 570 h0 aa h.arc aa aa aa h.ab,by omega,by omega⟩
  exact T8 n ea n eb _ _ _ _ n2 d2 C r ma mb _ _ _ _ _ H U _ R2 hP t2 t1 (KE h.ca h.cb) (pread h.ca) (pread h.cb) h.b1 h.swap.b1 CC TR h.ml NO HD
 ·have h0:smA n ma ea mb eb≠[]:=fun e0=>by rw[e0]at hal;simp at hal;omega
  have hU:cg (smA n ma ea mb eb)=dp n (Mx.red n 0 (0,cA (smA n ma ea mb eb))).2:=by unfold cg HT;rw[h.aw h0]
  have hT:(HT (smA n ma ea mb eb)).1=(Mx.red n 0 (0,cA (smA n ma ea mb eb))).1:=by unfold HT;rw[h.aw h0]
  have TR:=Sc (smA n ma ea mb eb) n 570 h0 aa h.arc aa aa aa h.ab;have hlow:=Nh h.arc au h.ab;rw[<-hU,<-hT]at hlow;rw[<-hU,<-hT]at TR;have TI:∀c∈(cg (smA n ma ea mb eb)).drop (HT (smA n ma ea mb eb)).1,Fn Tryz.prog 97 [dW [c.take (cP n ma ea mb eb).length],dW (cP n ma ea mb eb)] (dW [fC (cP n ma ea mb eb) n (c.take (cP n ma ea mb eb).length)]):=fun c hc=>by
   obtain⟨c1,c2⟩:=hlow c hc;have:=OB [c.take (cP n ma ea mb eb).length] (cP n ma ea mb eb) (cP n ma ea mb eb).length n (570*6^n) 570 aU aa aa aa aa rfl aa (fun r hr=>by rw[bL.1 hr,aY];omega) h.prc (sG fun l hl x hx=>by rw[bL.1 hl]at hx;exact c2 x (mZ hx)) h.pb;rw[Ug h.prc]at this;exact this
  obtain⟨NO,HD⟩:=Ca (X:=smT n ma ea mb eb) (e:=e) hn.2.2.2.1 h5 aa (Mx.vg _ _ _) he2 he1 he3 h.zp h.zb;obtain⟨n2,R2,d2,C,e2,_⟩:=wM n (nR n (smT n ma ea mb eb) (smZ n ma ea mb eb)) (smZ n ma ea mb eb/nG n (smT n ma ea mb eb) (smZ n ma ea mb eb));unfold hnR at HD⊢;rw[e2]at HD⊢;have hle:=h.hle;have hlen:=rB h.awr;exact T4 n ea n eb _ _ _ _ n2 d2 C _ n ma mb _ _ _ _ _ _ _ _ R2 aa aa aa aa (fun c hc=>by have:=S7 h.awr c hc;omega) (KE h.ca h.cb) (pread h.ca) (pread h.cb) h.b1 h.swap.b1 CC TR TI h.ml NO HD
end
end DW
end
section
open Go.RowKit
namespace DW
theorem fct10:∀s,s<11->s*Mx.fct s<=67108864:=by decide
section
variable {n : Nat} {ma mb : Mx.Mat} {ea eb : Int} (h : cQ n ma ea mb eb)
include h
theorem cQ.hi:Mx.I3 573 (HT (smA n ma ea mb eb)).1 (HT (smA n ma ea mb eb)).2:=
 Mx.AF (n:=wid (smA n ma ea mb eb)+(smA n ma ea mb eb).length) au (wid (smA n ma ea mb eb)) 0 0 (cA (smA n ma ea mb eb)) (fU h.awr) (aO _) (Mx.Lm (by rw[show 573-3=570 from rfl];exact xP (e:=570) h.ab))
theorem cQ.wlow:Mx.Bd (2^(573*3^(HT (smA n ma ea mb eb)).1-3)) ((cg (smA n ma ea mb eb)).drop (HT (smA n ma ea mb eb)).1):=fun i j=>by
 rw[Mx.GW,Mx.SV];exact h.hi.2 _ _ (ta _ _)
omit h in
theorem s3r{r s L:Nat}(hr:r<=5)(hL:L<=10)(hs:s<=L-r):3^r*s<=1215:=by
 have:r=0\/r=1\/r=2\/r=3\/r=4\/r=5:=by omega
 rcases this with rfl|rfl|rfl|rfl|rfl|rfl<;>simp only[Nat.reducePow]<;>omega
theorem cQ.kb{F:Nat}(hF:F=573*1215):Mx.Bd (2^(F+26)) (KT (smA n ma ea mb eb)).2:=fun i j=>by
 have hle:=h.hle;have h10:=h.zo;obtain⟨s,s1,s2,_,s3⟩:=Mx.AE (vH h.awr) h.wlow i j;rw[show Mx.red (smA n ma ea mb eb).length 0 (0,(cg (smA n ma ea mb eb)).drop (HT (smA n ma ea mb eb)).1)=KT (smA n ma ea mb eb)from rfl]at s3;rw[de,rB h.awr]at s2;have h1:=fct10 s aa;have h2:=s3r hle.1 h10 s2;refine aB s3 ?_;rw[<-bP,mX,eZ];refine cr (aB h1 au) ?_;rw[<-qG];refine bI aa ?_;refine aB (cF s (Nat.sub_le _ _)) ?_;rw[bP,hF];exact bV 573 h2
theorem cQ.ko:Fn Tryz.prog 86 [dW (smA n ma ea mb eb)] (dW (KT (smA n ma ea mb eb)).2):=by
 have hle:=h.hle;have h10:=h.zo;have hw:=h.aw5;have hel:=gV (smA n ma ea mb eb);have EC:=wO (cA (smA n ma ea mb eb)) (wid (smA n ma ea mb eb)+(smA n ma ea mb eb).length) (wid (smA n ma ea mb eb)) 573 5 (fU h.awr) (ta _ _) aa aa au (.inr hw) au (by rw[show 573-3=570 from rfl];exact xP (e:=570) h.ab);have hwl:((cg (smA n ma ea mb eb)).drop (HT (smA n ma ea mb eb)).1).length=(smA n ma ea mb eb).length-(HT (smA n ma ea mb eb)).1:=by rw[de,rB h.awr]
 have hpow:3^(HT (smA n ma ea mb eb)).1*3^((smA n ma ea mb eb).length-(HT (smA n ma ea mb eb)).1)<=59049:=by
  rw[<-eZ];exact bI (n:=3) (j:=10) aa aa
 have E2:=wO ((cg (smA n ma ea mb eb)).drop (HT (smA n ma ea mb eb)).1) (smA n ma ea mb eb).length (smA n ma ea mb eb).length (573*3^(HT (smA n ma ea mb eb)).1) ((smA n ma ea mb eb).length-(HT (smA n ma ea mb eb)).1) (vH h.awr) (af _) aa aa (Mx.e36 au _) (.inl (vU hwl)) (by
  rw[bP];omega) h.wlow
 refine KW (smA n ma ea mb eb) h.awr aa aa EC E2 fun l hl z hz=>?_;have h3:3^(HT (smA n ma ea mb eb)).1<=243:=bI (n:=3) (j:=5) aa hle.1;have hall:Mx.Bd (2^(2*(573*3^(HT (smA n ma ea mb eb)).1))) (HT (smA n ma ea mb eb)).2:=Mx.Ll h.hi.1 h.hi.2 (af _) (bI aa aa);exact cB (mN hall hl hz) aa
theorem cQ.ksame:nH n (Mx.mp n (cP n ma ea mb eb) (KT (smA n ma ea mb eb)).2)=nH n (smT n ma ea mb eb):=by
 have hs:=(Mx.eh (smA n ma ea mb eb).length 0 (0,(cg (smA n ma ea mb eb)).drop (HT (smA n ma ea mb eb)).1) (vH h.awr)).sp (vH h.awr);exact Mx.xM (Mx.vg _ _ _) (Mx.vg _ _ _) fun v=>⟨Mx.Sr h.prc hs.1 v,Mx.Sr h.prc hs.2 v⟩
theorem cQ.rmeet:Fn Tryz.prog 70 [dL n ma ea,dL n mb eb] (hnR n (smT n ma ea mb eb) (smZ n ma ea mb eb)):=by
 have hle:=h.hle;have h10:=h.zo;have hal:=h.al;have hpl:=h.pl;have h5:=h.n5;have hkl:(KT (smA n ma ea mb eb)).2.length<=10:=by
  have hre:=Mx.eh (smA n ma ea mb eb).length 0 (0,(cg (smA n ma ea mb eb)).drop (HT (smA n ma ea mb eb)).1) (vH h.awr);have:=hre.len;rw[show(Mx.red (smA n ma ea mb eb).length 0 (0,(cg (smA n ma ea mb eb)).drop (HT (smA n ma ea mb eb)).1)).2=(KT (smA n ma ea mb eb)).2 from rfl]at this;rw[this];show((cg (smA n ma ea mb eb)).drop (HT (smA n ma ea mb eb)).1).length<=10;rw[de,rB h.awr];omega
 have hkr:Mx.Rc (smA n ma ea mb eb).length (KT (smA n ma ea mb eb)).2:=(Mx.eh (smA n ma ea mb eb).length 0 (0,(cg (smA n ma ea mb eb)).drop (HT (smA n ma ea mb eb)).1) (vH h.awr)).rc (vH h.awr);obtain⟨F,hF⟩:∃F,F=573*1215:=⟨_,rfl⟩;have hkb:∀c∈(KT (smA n ma ea mb eb)).2,∀x∈c,x.natAbs<=2^(F+26):=fun c hc x hx=>mN (h.kb hF) hc hx;have KO:=h.ko;have hsame:=vo (z:=smZ n ma ea mb eb) h.ksame;rw[<-hsame];obtain⟨E,hE⟩:∃E,E=F+26:=⟨_,rfl⟩;rw[<-hE]at hkb;have hmb:Mx.Bd (2^(E+570+3+3-3)) (Mx.mp n (cP n ma ea mb eb) (KT (smA n ma ea mb eb)).2):=Ss aa hkb h.pb;have MD:=Mt (e:=E+570+3+3) h5 (X:=Mx.mp n (cP n ma ea mb eb) (KT (smA n ma ea mb eb)).2) (by rw[Mx.qU];omega) (Mx.vg _ _ _) aa aa hmb h.zp h.zb;have TI:∀c∈(KT (smA n ma ea mb eb)).2,Fn Tryz.prog 22 [dW [c.take (cP n ma ea mb eb).length],dW (cP n ma ea mb eb),zI n] (dW [fC (cP n ma ea mb eb) n (c.take (cP n ma ea mb eb).length)]):=fun c hc=>by
  have hcl:=hkr c hc;have hb:∀x∈c.take (cP n ma ea mb eb).length,x.natAbs<=2^E:=fun x hx=>hkb c hc x (mZ hx);have hl:(c.take (cP n ma ea mb eb).length).length=(cP n ma ea mb eb).length:=by rw[aY];omega
  exact Tt [c.take (cP n ma ea mb eb).length] (cP n ma ea mb eb) n aU aa aa ⟨fun row hr=>by rw[bL.1 hr,hl];exact af _,fun j hj=>by rw[h.prc.rw hj];exact af _,fun row hr j=>by
   rw[bL.1 hr];exact cB (yZ hb j) aa,fun j k=>cB (h.pb j k) aa,fun row hr j k=>by
   rw[bL.1 hr];exact cB (wh (c:=E+570) (yZ hb j) (h.pb j k) (af _)) aa,fun row hr k j=>by
   rw[bL.1 hr];exact cB (N5 aa hb h.pb k j) aa⟩
 obtain⟨n2,R2,d2,C,e2,_⟩:=wM n (nR n (Mx.mp n (cP n ma ea mb eb) (KT (smA n ma ea mb eb)).2) (smZ n ma ea mb eb)) (smZ n ma ea mb eb/nG n (Mx.mp n (cP n ma ea mb eb) (KT (smA n ma ea mb eb)).2) (smZ n ma ea mb eb));unfold hnR at MD⊢;rw[e2]at MD⊢;exact TS n ea n eb _ n2 d2 C n ma mb _ _ _ R2 aa aa (fun c hc=>by have:=hkr c hc;omega) h.com KO TI MD
end
end DW
end
section
open Go.RowKit
namespace DW
theorem Nk{n:Nat}{R:Mx.Mat}{d:Int}(h0:0<n)(h5:n<=5)(hl:R.length<=64)(hR:Mx.Rc n R)(h1:R.all (fun l=>l.all (inb 1000000000000000))=true)(hd:0<d)(h2:inb 1000000000000000 d=true):lck n R d=0:=by
 have h3:=kP.1 h2;unfold lck;rw[aj aa,aj aa];exact AX fun l hl=>⟨by rw[hR l hl],fun z hz=>cW.1 (cW.1 h1 l hl) z hz⟩
end DW
end
section
open Go.RowKit
namespace DW
theorem Ob{n:Nat}{d:Int}(hd:d≠0):∀(R:Mx.Mat) (left:List Int) (f:Nat->Int),Mx.HF R->Mx.Rc n R->(∀r∈R,r.all (fun z=>decide (z=0))=false)->left.length=n->(∀j,left.getD j 0=d*Mx.lcf f R j)->∃o z,crd d R left=some (o,z)/\z.all (fun z=>decide (z=0))=true
 | [], left, f, _, _, _, _, hl => ⟨[], left, rfl, by
     rw[cW];intro x hx;obtain⟨j,hj⟩:=zL.1 hx;have h1:=hl j;rw[aq,hj]at h1;have h2:x=d*0:=h1;rw[dv]at h2;exact aD h2⟩
 |r::R,left,f,hF,hR,hnz,hn,hl=>by
  have hr:=hnz r bn;obtain⟨x,_,p1,p2,p3,p4,p5⟩:=MK hr;have hrl:=hR r bn;rcases hF with h0|⟨p,h1,h2,h3,h4,_⟩
  ·exfalso;have:=h0 0 (pl0 r);rw[Mx.dG,p4]at this;exact p3 this
  ·have hp : pl0 r = p := by
    rcases mW (pl0 r) p with h|h|h
    ·have:=h1 0 (pl0 r) h;rw[Mx.dG,p4]at this;exact absurd this p3
    ·exact h
    ·obtain⟨y,hy⟩:=get_some (m:=r) (k:=p) aa;have h5:=p5 p y h hy;rw[aq,hy]at h2;have h6:0<y:=h2;omega
   have hlp:left.getD p 0=d*r.getD p 0*f 0:=by
    rw[hl p,Mx.eK,Mx.kL R _ p h3,vX,fq (f 0),eE]
   have hne:d*r.getD p 0≠0:=Int.mul_ne_zero hd aa;rw[GO,hp,an (by rw[hlp];exact Int.mul_emod_right _ _),hlp,Int.mul_ediv_cancel_left _ hne];obtain⟨o,z,e,hz⟩:=Ob hd R (Mx.en (-(f 0*d)) left r) (fun i=>f (i+1)) h4 (fun a h=>hR a (bu _ h)) (fun a h=>hnz a (bu _ h)) (by rw[Mx.kg _ _ _ aa];exact hn) fun j=>by
    rw[Mx.mn _ _ _ _ aa,hl j,Mx.eK,nT,gX,fq (f 0) d,eE];omega
   exact⟨f 0::o,z,by rw[e];rfl,hz⟩
theorem Fw{n:Nat}{den d:Int}{m:Mx.Mat}{l:List Int}(h:lck n m den=0)(hn:n<=5)(hl:l.length=n)(hd:1<=d/\d<=1000000000000000)(hb:∀z∈l,inb 1000000000000000 z=true)(f:Nat->Int)(hf:∀j,l.getD j 0*(den/nG n m den)=d*Mx.lcf f (nR n m den) j):Fn Tryz.prog 50 [dL n m den,dV l d] (.tp [.sc (.bool true),zI 0]):=by
 obtain⟨k1,k2,k3⟩:=gK h;have hR:=gZ h;have hnn:=Mx.fX hR (show 0<den by omega);have CK:=vm n den m xv xv aa (fun r hr=>by have:=hR r hr;omega);rw[h]at CK;have CV:=Vz n den d m l aa;have hv:vck n l d=0:=by
  unfold vck;rw[an aa,aj];rintro(h1|h1|h1)
  ·omega
  ·omega
  ·obtain⟨z,hz,h2⟩:=ku.1 h1;unfold big at h2;rw[hb z hz]at h2;cases h2
 rw[hv]at CV;have hlz:∀z∈l,I64 z/\z.natAbs<=2^50:=fun z hz=>⟨by have:=kP.1 (hb z hz);unfold I64;omega,e15 (kP.1 (hb z hz))⟩;have RD:=pread h;have PX:=Pq n (den/nG n m den) d (nR n m den) l n aa aa hnn.2.2.2.1 (AQ h) (Sp hR aa) 520 rfl (qs h hn) (lL h) aa xv (e15 ⟨by omega,hd.2⟩) hlz _ rfl;have hF:=Mx.DS hnn.2.2.2.1;rw[hnn.1]at hF;obtain⟨o,z,e,hz⟩:=Ob (n:=n) (d:=d) aa (nR n m den) (l.map fun z=>z*(den/nG n m den)) f hF hnn.2.2.2.1 (Sp hR aa) (by rw[bD,hl]) fun j=>by
  rw[<-hf j,aq,aq,bN]
  cases l[j]? with
  |none=>exact(pD _).symm
  |some x=>rfl
 rw[e]at PX;have e2:Lg (some (o,z))= .tp [dZ o,.sc (.bool true)]:=by
  show DW.D.tp [dZ o,.sc (.bool (z.all fun z=>decide (z=0)))]=_;rw[hz]
 rw[e2]at PX;exact VD n den d _ m _ l o true CK CV RD PX
theorem qW(g:Int):∀(M:Mx.Mat) (f:Nat->Int) (j:Nat),Mx.lcf f (mapM (fun x=>g*x) M) j=g*Mx.lcf f M j
 |[],_,_=>(dv _).symm
 |a::M,f,j=>by
  show Mx.lcf f (a.map (fun x=>g*x)::mapM (fun x=>g*x) M) j=_;rw[Mx.eK,Mx.eK,qW g M,nT,aq,aq,bN];congr 1
  cases a[j]? with
  |none=>show f 0*0=g*(f 0*0);simp
  |some x=>exact tB ..
theorem Iy(n:Nat)(M:Mx.Mat)(d:Int):mapM (fun x=>nG n M d*x) (nR n M d)=nH n M:=Mx.CR (Mx.kH (nH n M) d).2
theorem Sg{n:Nat}{M:Mx.Mat}(hM:Mx.Rc n M)(d:Int){v:Nat->Int}(hv:Mx.SP M v):∃h,∀j,v j=nG n M d*Mx.lcf h (nR n M d) j:=by
 obtain⟨h,hh⟩:=(Mx.xG hM v).2 hv;refine⟨h,fun j=>?_⟩;rw[hh j,<-qW,Iy]
theorem nR_sp{n:Nat}{M:Mx.Mat}(hM:Mx.Rc n M)(d:Int)(h:Nat->Int):Mx.SP M fun j=>nG n M d*Mx.lcf h (nR n M d) j:=
 (Mx.xG hM _).1 ⟨h,fun j=>by
  show nG n M d*Mx.lcf h (nR n M d) j=_;rw[<-qW,Iy]⟩
theorem Mr{M:Mx.Mat}{l:List Int}(h:l∈M):∃k,∀j,Mx.at' M k j=l.getD j 0:=by
 obtain⟨k,hk⟩:=zL.1 h;refine⟨k,fun j=>?_⟩;unfold Mx.at';rw[Mx.di hk]
theorem Fb{P Q:Mx.Mat}{v:Nat->Int}(h:Mx.SP P v):Mx.SP (P++Q) v:=Mx.SP.sub (fun i hi=>(Mx.SP.row (P++Q) i).congr fun j=>(Mx.pg hi j).symm) h
theorem O9{P Q:Mx.Mat}{v:Nat->Int}(h:Mx.SP Q v):Mx.SP (P++Q) v:=Mx.SP.sub (fun i _=>(Mx.SP.row (P++Q) (P.length+i)).congr fun j=>(Mx.pe P Q i j).symm) h
theorem Fc{P Q:Mx.Mat}{v:Nat->Int}(h:Mx.SP (P++Q) v):Mx.SP (Q++P) v:=Mx.SP.sub (fun i _=>by
 by_cases h1:i<P.length
 ·exact(O9 (Mx.SP.row P i)).congr fun j=>Mx.pg h1 j
 ·obtain⟨k,rfl⟩:∃k,i=P.length+k:=⟨i-P.length,by omega⟩;exact(Fb (Mx.SP.row Q k)).congr fun j=>Mx.pe P Q k j) h
section
variable {n : Nat} {ma mb : Mx.Mat} {ea eb : Int} (h : cQ n ma ea mb eb)
include h
theorem cQ.sumc:hnR n (smA n mb eb ma ea) (smZ n mb eb ma ea)=hnR n (smA n ma ea mb eb) (smZ n ma ea mb eb):=by
 rw[h.zs];exact vo (Mx.xM h.swap.arc h.arc fun v=>⟨Fc,Fc⟩)
theorem cQ.trc:Mx.Rc n (smT n ma ea mb eb):=by
 have:=h.n5;exact Mx.vg _ _ _
theorem cQ.Sd:nH n (smT n mb eb ma ea)=nH n (smT n ma ea mb eb):=Mx.xM h.swap.trc h.trc fun v=>by rw[h.msp,h.swap.msp];exact And.comm
theorem cQ.meetc:hnR n (smT n mb eb ma ea) (smZ n mb eb ma ea)=hnR n (smT n ma ea mb eb) (smZ n ma ea mb eb):=by
 rw[h.zs];exact vo h.Sd
theorem cQ.tnr:nR n (smT n mb eb ma ea) (smZ n mb eb ma ea)=nR n (smT n ma ea mb eb) (smZ n ma ea mb eb)/\nG n (smT n mb eb ma ea) (smZ n mb eb ma ea)=nG n (smT n ma ea mb eb) (smZ n ma ea mb eb):=by
 unfold nR nG;rw[h.zs,h.Sd];exact⟨rfl,rfl⟩
theorem cQ.ins{R:Mx.Mat}{d:Int}(hR:R=nR n (smA n ma ea mb eb) (smZ n ma ea mb eb))(hd:d=smZ n ma ea mb eb/nG n (smA n ma ea mb eb) (smZ n ma ea mb eb))(hl:lck n R d=0){l:List Int}(hx:l∈ma):Fn Tryz.prog 50 [dL n R d,dV l ea] (.tp [.sc (.bool true),zI 0]):=by
 obtain⟨k1,k2,k3⟩:=gK h.ca;obtain⟨a1,a2,a3,a4,a5,a6⟩:=Mx.fX h.arc h.zp;obtain⟨k,hk⟩:=Mr hx;obtain⟨f,hf⟩:=Sg (gZ h.ca) ea (Mx.SP.row ma k);have hP:Mx.SP (cP n ma ea mb eb) fun j=>(eb/nG n mb eb)*Mx.lcf f (nR n ma ea) j:=⟨f,fun j=>(qW _ _ _ _).symm⟩;obtain⟨g,hg⟩:=Sg h.arc (smZ n ma ea mb eb) (Fb (Q:=cP n mb eb ma ea) hP);have hz1:=qC (Mx.kH (nH n (smA n ma ea mb eb)) (smZ n ma ea mb eb)).1;have hz2:=qC (Mx.kH (nH n ma) ea).1;refine Fw hl h.n5 (gZ h.ca l hx) ⟨k1.2.2.1,k1.2.2.2⟩ (fun z hz=>(k3 l hx).2 z hz) g fun j=>?_;rw[hR,hd,a2,a3,Int.ediv_one];have e1:=hk j;rw[hf j]at e1;have e2:(eb/nG n mb eb)*Mx.lcf f (nR n ma ea) j=nG n (smA n ma ea mb eb) (smZ n ma ea mb eb)*Mx.lcf g (nR n (smA n ma ea mb eb) (smZ n ma ea mb eb)) j:=hg j;refine Int.eq_of_mul_eq_mul_left (show nG n (smA n ma ea mb eb) (smZ n ma ea mb eb)≠0 by omega) ?_;rw[<-e1];have e3:nG n (smA n ma ea mb eb) (smZ n ma ea mb eb)*(smZ n ma ea mb eb/nG n (smA n ma ea mb eb) (smZ n ma ea mb eb))=ea/nG n ma ea*(eb/nG n mb eb):=hz1;have e4:nG n ma ea*(ea/nG n ma ea)=ea:=hz2;generalize smZ n ma ea mb eb/nG n (smA n ma ea mb eb) (smZ n ma ea mb eb)=ds at*;generalize nG n (smA n ma ea mb eb) (smZ n ma ea mb eb)=G at*;generalize Mx.lcf g (nR n (smA n ma ea mb eb) (smZ n ma ea mb eb)) j=B at*;generalize Mx.lcf f (nR n ma ea) j=A at*;generalize ea/nG n ma ea=da at*;generalize nG n ma ea=ga at*;generalize eb/nG n mb eb=db at*
 calc G*(ga*A*ds)=ga*A*(G*ds):=by ac_rfl
  _=ga*A*(da*db):=by rw[e3]
  _=ga*da*(db*A):=by ac_rfl
  _=G*(ea*B):=by rw[e2,e4];ac_rfl
theorem cQ.inm{R:Mx.Mat}{d:Int}(hR:R=nR n (smT n ma ea mb eb) (smZ n ma ea mb eb))(hd:d=smZ n ma ea mb eb/nG n (smT n ma ea mb eb) (smZ n ma ea mb eb))(hl:lck n R d=0){l:List Int}(hx:l∈R):Fn Tryz.prog 50 [dL n ma ea,dV l d] (.tp [.sc (.bool true),zI 0]):=by
 obtain⟨k1,k2,k3⟩:=gK hl;obtain⟨a1,a2,a3,a4,a5,a6⟩:=Mx.fX h.trc h.zp;obtain⟨k,hk⟩:=Mr hx;have hT:=nR_sp h.trc (smZ n ma ea mb eb) fun i=>if i=k then 1 else 0
 obtain⟨f,hf⟩:=((h.msp _).1 hT).1;have hz1:=qC (Mx.kH (nH n (smT n ma ea mb eb)) (smZ n ma ea mb eb)).1;refine Fw h.ca h.n5 (gZ hl l hx) ⟨k1.2.2.1,k1.2.2.2⟩ (fun z hz=>(k3 l hx).2 z hz) f fun j=>?_;have e1:=hk j;have e2:nG n (smT n ma ea mb eb) (smZ n ma ea mb eb)*Mx.lcf (fun i=>if i=k then 1 else 0) (nR n (smT n ma ea mb eb) (smZ n ma ea mb eb)) j=Mx.lcf f (cP n ma ea mb eb) j:=hf j;rw[hR]at e1;have e5:Mx.lcf f (cP n ma ea mb eb) j=(eb/nG n mb eb)*Mx.lcf f (nR n ma ea) j:=qW _ _ _ _;rw[Mx.Cc,e1,e5]at e2;have e3:nG n (smT n ma ea mb eb) (smZ n ma ea mb eb)*d=ea/nG n ma ea*(eb/nG n mb eb):=by rw[hd];exact hz1
 refine Int.eq_of_mul_eq_mul_left (show nG n (smT n ma ea mb eb) (smZ n ma ea mb eb)≠0 by omega) ?_;generalize nG n (smT n ma ea mb eb) (smZ n ma ea mb eb)=G at*;generalize Mx.lcf f (nR n ma ea) j=A at*;generalize l.getD j 0=x at*;generalize ea/nG n ma ea=da at*;generalize eb/nG n mb eb=db at*
 calc G*(x*da)=G*x*da:=by ac_rfl
  _=db*A*da:=by rw[e2]
  _=da*db*A:=by ac_rfl
  _=G*(d*A):=by rw[<-e3];ac_rfl
end
end DW
end
end Go.Proofs.YtcgjmdpcplhanaaGreat
