/- Lemmas for the law: E72 E64 E65 E66 -/
import Derived.Deep.CutRange
import Derived.Deep.LoopGhost
import Derived.Test.YtcgjmdpcplhanaaGreatZi18
namespace Go.Proofs.YtcgjmdpcplhanaaGreat
section
theorem PU{p q:Prop}(h:q)(f:Wq q->p:=by(intro hW;((first|refine fR rfl rfl rfl aj AI aj aj ?_|((try refine bn ?_);refine aL1 rfl rfl rfl AI ?_)));exact hW.out)):p:=f ⟨h⟩
theorem Pd{p q:Prop}(h:q)(f:Wq q->p:=by(intro hW;(refine yC ?_;refine fT ?_;refine yC ?_;refine mE ?_;refine Jb ?_;refine oY ?_;refine kC ?_;refine kC ?_;refine jC ?_;refine oZ ?_;refine kB ?_);exact hW.out)):p:=f ⟨h⟩
theorem PV{p q:Prop}(h:q)(f:Wq q->p:=by(intro hW;((refine dV (k:=4) (z:=(.agg #[.int .i64 0,.slice none 0 0,.int .i64 0])) (d:=(.st [.sc (.int .i64 0),.sc (.slice none 0 0),.sc (.int .i64 0)])) rfl rfl rfl rfl rfl ah aj aj dC aj aj cG ?_));exact hW.out)):p:=f ⟨h⟩
end
section
open Go.RowKit
namespace DW
set_option maxRecDepth 20000
set_option maxHeartbeats 4000000
theorem TD(n1 e1 n2 e2 d1 d2 d d3 a b C:Int)(m1 m2 R1 R2 P Q A R3 R:Mx.Mat)(TW:Fn Tryz.prog 134 [dL n1 m1 e1,dL n2 m2 e2] (zI 0))(RA:Fn Tryz.prog 87 [dL n1 m1 e1] (ez n1 R1 d1))(RB:Fn Tryz.prog 87 [dL n2 m2 e2] (ez n2 R2 d2))(B1:Fn Tryz.prog 100 [dW R1,.nm d2] (dW P))(B2:Fn Tryz.prog 100 [dW R2,.nm d1] (dW Q))(CC:Fn Tryz.prog 140 [.ls 1 [dW P,dW Q]] (dW A))(ML:Fn Tryz.prog 117 [.nm d1,.nm d2] (.nm d))(NO:Fn Tryz.prog 103 [zI n1,dW A,.nm d] (ez n1 R3 d3))(HD:Fn Tryz.prog 88 [ez n1 R3 d3] (.tp [dL a R b,zI C])):Fn Tryz.prog 67 [dL n1 m1 e1,dL n2 m2 e2] (.tp [dL a R b,zI C]):=by
 refine bh Tryz.func67 ah rfl rfl rfl fun X0=>?_;simp only[aK];refine zs2 ?_;refine il ?_;refine tu ?_;refine PV ?_;refine kp ?_;refine dX ?_;refine ym ?_;refine av (ao (k:=7) aH aR aQ) ?_;refine av (ao (k:=8) aH aR aQ) ?_;refine zs2 ?_;refine mH ?_;refine we ?_;refine fT ?_;refine Cr ?_;refine fT ?_;refine yC ?_;refine mE ?_;refine Cr ?_;refine fT ?_;refine yC ?_;refine mE ?_;refine PX ?_;refine oY ?_;refine Pd ?_;refine zs2 ?_;exact⟨_,ao (k:=4) aH aR aQ,.two (.cell 4 48) (.tmp 5) _ _ rfl (.cell 4 _ _ rfl rfl ah ah) (.tmp 5 rfl)⟩
def mtR(n:Nat)(P V:Mx.Mat):Mx.Mat:=V.map fun c=>jj P n (c.take P.length)
theorem Og(n:Nat)(P V:Mx.Mat)(c:List Int):mtR n P (V++[c])=mtR n P V++[jj P n (c.take P.length)]:=by simp[mtR]
theorem RS(n1 e1 n2 e2 d1 d2 d d3 a b C:Int)(r n:Nat)(m1 m2 R1 R2 P Q A H U R3 R:Mx.Mat)(hP:0<P.length)(hPl:P.length<=1000000)(hU:U.length<=1000000)(hr:r<=U.length)(hUr:∀c∈U,P.length<=c.length)(TW:Fn Tryz.prog 134 [dL n1 m1 e1,dL n2 m2 e2] (zI 0))(RA:Fn Tryz.prog 87 [dL n1 m1 e1] (ez n1 R1 d1))(RB:Fn Tryz.prog 87 [dL n2 m2 e2] (ez n2 R2 d2))(B1:Fn Tryz.prog 100 [dW R1,.nm d2] (dW P))(B2:Fn Tryz.prog 100 [dW R2,.nm d1] (dW Q))(CC:Fn Tryz.prog 140 [.ls 1 [dW P,dW Q]] (dW A))(TR:Fn Tryz.prog 73 [dW A] (.tp [dW H,dW U,zI (r:Nat)]))(TI:∀c∈U.drop r,Fn Tryz.prog 97 [dW [c.take P.length],dW P] (dW [jj P n (c.take P.length)]))(ML:Fn Tryz.prog 117 [.nm d1,.nm d2] (.nm d))(NO:Fn Tryz.prog 103 [zI n1,dW (mtR n P (U.drop r)),.nm d] (ez n1 R3 d3))(HD:Fn Tryz.prog 88 [ez n1 R3 d3] (.tp [dL a R b,zI C])):Fn Tryz.prog 68 [dL n1 m1 e1,dL n2 m2 e2] (.tp [dL a R b,zI C]):=by
 have hUl:(U.map dZ).length=U.length:=bI ..;have hUd:(U.map dZ).drop r=(U.drop r).map dZ:=List.map_drop.symm;refine bh Tryz.func68 ah rfl rfl rfl fun X0=>?_;simp only[aK];refine zs2 ?_;refine il ?_;refine tu ?_;refine PV ?_;refine kp ?_;refine dX ?_;refine ym ?_;refine av (ao (k:=7) aH aR aQ) ?_;refine av (ao (k:=8) aH aR aQ) ?_;refine zs2 ?_;refine Ii ?_;refine CX ?_;refine gG ?_;refine PU ?_;refine gG ?_;refine pK ?_;refine CX ?_;refine gG ?_;refine PU ?_;refine gG ?_;refine pK ?_;refine tf ?_;refine tf ?_;refine kH ?_;refine zs2 ?_;refine ck ?_;refine P5 ?_;refine jx ?_;refine jx ?_;refine oc ?_;refine xg ?_;refine zs6 ?_;refine zs6 ?_;refine cS ?_;refine vZ ?_;refine zs2 ?_;refine av (fG (t:=14) (k:=14) (T:=147) (wd:=1) jf rfl rfl cG) ?_;refine zs2 ?_;refine ck ?_;(refine aL1 rfl rfl rfl (by(apply Fw;(exact rfl);(focus((apply az;(conv=>lhs;whnf);(first|done|exact rfl))));(focus((apply az;(conv=>lhs;whnf);(first|done|exact rfl))));(kernel_rfl);(kernel_rfl);(focus(first|exact mP _|exact rfl));(focus(first|omega|(simp;omega))))) ?_);refine zs5 ?_;refine wa ?_;refine dX ?_;obtain⟨V,hV⟩:∃V,V=U.drop r:=⟨_,rfl⟩;rw[<-hV]at hUd TI NO;rw[hUd];have hVU:∀c∈V,P.length<=c.length:=fun c hc=>hUr c (by rw[hV]at hc;exact Cv hc);have hVl:V.length<=1000000:=by rw[hV,dY];omega
 clear hUd hV hU hUr hr hUl
 (refine av (aE (sl':=[(2,.pt (dL n1 m1 e1)),(3,.pt (dL n2 m2 e2)),(4,.opt 4 0),(7,.pt (ez n1 R1 d1)),(8,.pt (ez n2 R2 d2)),(9,dW P),(14,.own 14),(49,dW V),(50,zI (V.length:Nat)),(51,zI 0)]) (ow':=[(14,⟨147,1,[]⟩),(4,⟨48,(D.st [zI 0,.sc (.slice none 0 0),zI 0]).wd,[.st [zI 0,.sc (.slice none 0 0),zI 0]]⟩)]) aO aS) ?_)
 refine bB (fun q s=>∃i,i<=V.length/\q=V.length-i/\s=⟨[(2,.pt (dL n1 m1 e1)),(3,.pt (dL n2 m2 e2)),(4,.opt 4 0),(7,.pt (ez n1 R1 d1)),(8,.pt (ez n2 R2 d2)),(9,dW P),(14,.own 14),(49,dW V),(50,zI (V.length:Nat)),(51,zI (i:Nat))],[(14,⟨147,1,(mtR n P (V.take i)).map dZ⟩),(4,⟨48,(D.st [zI 0,.sc (.slice none 0 0),zI 0]).wd,[.st [zI 0,.sc (.slice none 0 0),zI 0]]⟩)]⟩) (m:=V.length) ⟨0,bg _,rfl,rfl⟩ fun q s hs=>?_;obtain⟨i,hi,rfl,rfl⟩:=hs;by_cases hin:i<V.length
 ·obtain⟨c,hc⟩:=get_some hin;have hcV:=bG hc;have hcl:=hVU c hcV;have hsn:=Og n P (V.take i) c;rw[<-cM hc]at hsn;obtain⟨x,hx⟩:∃x,x=jj P n (c.take P.length):=⟨_,rfl⟩;have TI':=TI c hcV;rw[<-hx]at hsn TI';have e1:dW [c.take P.length]= .ls 1 [.ls 2 ((c.map D.nm).take P.length)]:=by rw[<-List.map_take];rfl
  rw[e1]at TI';obtain⟨X1,g0,TI'⟩:∃X1:Mx.Mat,X1[0]?=some x/\Fn Tryz.prog 97 [.ls 1 [.ls 2 ((c.map D.nm).take P.length)],dW P] (dW X1):=⟨[x],rfl,TI'⟩;have hc0:(0:Int)=((0:Nat):Int):=rfl;have hml:(c.map D.nm).length=c.length:=bI ..;have hfl:(mtR n P (V.take i)).length<=1000000:=by unfold mtR;rw[bI,bf];omega
  obtain⟨F,hF⟩:∃F,F=mtR n P (V.take i):=⟨_,rfl⟩;rw[<-hF]at hsn hfl;rw[<-hF];clear hF e1 hx TI hVU;refine oV ?_;refine Ix ?_;refine zs2 ?_;refine IM ?_;refine bs ?_;refine ck ?_;refine zs4 ?_;refine zs5 ?_;refine zs15 ?_;refine pJ ?_;refine zs4 ?_;refine nA ?_;refine P7 ?_;refine Av ?_;refine pJ ?_;refine Ax ?_;refine cS ?_;refine th ?_;refine zs2 ?_;simp only[nx,inB];exact⟨V.length-(i+1),_,by omega,(aE (sl':=[(2,.pt (dL n1 m1 e1)),(3,.pt (dL n2 m2 e2)),(4,.opt 4 0),(7,.pt (ez n1 R1 d1)),(8,.pt (ez n2 R2 d2)),(9,dW P),(14,.own 14),(49,dW V),(50,zI (V.length:Nat)),(51,zI ((i+1:Nat):Int))]) (ow':=[(14,⟨147,1,F.map dZ++[dZ x]⟩),(4,⟨48,(D.st [zI 0,.sc (.slice none 0 0),zI 0]).wd,[.st [zI 0,.sc (.slice none 0 0),zI 0]]⟩)]) aO aS),i+1,by omega,rfl,by rw[hsn,eR];rfl⟩
 ·obtain rfl:i=V.length:=by omega
  rw[gO];refine ta ?_;refine av (ao (k:=14) aH aR aQ) ?_;refine zs2 ?_;refine mH ?_;refine we ?_;refine fT ?_;refine gF ?_;refine Pd ?_;refine zs2 ?_;exact⟨_,ao (k:=4) aH aR aQ,.two (.cell 4 48) (.tmp 5) _ _ rfl (.cell 4 _ _ rfl rfl ah ah) (.tmp 5 rfl)⟩
end DW
end
section
open Go.RowKit
namespace DW
set_option maxRecDepth 20000
set_option maxHeartbeats 2000000
theorem wD(dim d:Int)(R:Mx.Mat):Fn Tryz.prog 94 [ez dim R d] (.sc (.bool (decide ((R.length:Int)=dim)))):=by
 refine bh Tryz.func94 ah rfl rfl rfl fun X0=>?_;simp only[aK];refine zs2 ?_;refine Pq ?_;refine zs2 ?_;refine te ?_;refine zs5 ?_;refine xi ?_;refine gL ?_;refine Au ?_;refine cS ?_;exact⟨_,Sh.refl,.one (.tmp 2) _ rfl (.tmp 2 rfl)⟩
end DW
end
section
open Go.RowKit
namespace DW
set_option maxRecDepth 20000
set_option maxHeartbeats 2000000
structure Mk4(n:Nat)(M:Mx.Mat)(z:Int):Prop where
 n0:0<n
 n5:n<=4
 len:M.length<=64
 rc:Mx.Rc n M
 bd:Mx.Bd (2^2400) M
 z0:0<z
 zb:z.natAbs<=2^2400
theorem Mk4.red{n:Nat}{M:Mx.Mat}{z:Int}(h:Mk4 n M z):Mx.Bd (2^(2400*11^n)) (Mx.red n 0 (0,M)).2:=by
 have:=Mx.sC (n:=n) (e:=2400) aa n 0 0 M h.rc (by rw[oE,eW];exact h.bd);rw[bu]at this;exact this
structure qy(n:Nat)(m f:Mx.Mat)(den:Int):Prop where
 lc:lck n m den=0
 n4:n<=4
 fc:chk f=0
 fl:f.length=n
 fw:wid f=n
 full:(nR n m den).length=n
def duM(n:Nat)(m f:Mx.Mat)(den:Int):Mx.Mat:=tim f (Mx.trM n (nR n m den)) n
def duS(n:Nat)(m f:Mx.Mat)(den:Int):Mx.Mat:=mapM (fun x=>x*(den/nG n m den)) (Mx.adM (duM n m f den))
def duE(n:Nat)(m f:Mx.Mat)(den:Int):Int:=((Mx.D n (Mx.at' (duM n m f den))).natAbs:Int)
section
variable {n : Nat} {m f : Mx.Mat} {den : Int} (h : qy n m f den)
include h
theorem qy.n0:0<n:=by have:=(iQ h.lc).1;omega
theorem qy.frc:Mx.Rc n f:=by have:=(MH h.fc).2.2.1;rwa[h.fw]at this
theorem qy.norm:Mx.Rc n (nR n m den)/\0<den/nG n m den/\nH n (nR n m den)=nR n m den/\nG n (nR n m den) (den/nG n m den)=1:=by
 have hd:=(iQ h.lc).1;have hnn:=Mx.eE (jn h.lc) (show 0<den by omega);exact⟨hnn.2.2.2.1,hnn.2.2.2.2.2,hnn.1,hnn.2.1⟩
theorem qy.trc:Mx.Rc n (Mx.trM n (nR n m den)):=by
 have:=Mx.To n (nR n m den);rwa[h.full]at this
theorem qy.tbd:Mx.Bd (2^520) (Mx.trM n (nR n m den)):=fun i j=>by
 by_cases hi:i<n
 ·by_cases hj:j<n
  ·rw[Mx.Rn _ hi (by rw[h.full];exact hj)];exact jO (iA h.lc (by have:=h.n4;omega)) j i
  ·rw[Mx.wO h.trc aa];exact bg _
 ·rw[Mx.oP (by rw[Mx.Rm];omega)];exact bg _
theorem qy.dot{row:List Int}(hr:row∈f)(k j:Nat):(fC row (Mx.trM n (nR n m den)) k j).natAbs<=2^573:=by
 have hl:=h.frc row hr;have hb:=Bm (row:=row) (B:=Mx.trM n (nR n m den)) (k:=k) (X:=2^570) (L:=5) (by have:=h.n4;omega) (fun j=>mS (a:=50) (b:=520) (c:=570) (by
  obtain⟨i,hi,rfl⟩:=lS hr;have:=SS h.fc i j;unfold Mx.at' Mx.rw at this;rw[show List.getD f i []=f[i] by rw[ay,aZ hi];rfl]at this;exact this) (h.tbd j k) aq) j
 refine aA hb ?_;exact pmul (a:=3) (b:=570) (c:=573) (aA (Nat.min_le_right j 5) (show 5<=2^3 by decide)) (af _) aq
theorem qy.rc:Mx.Rc n (duM n m f den):=by
 have:=h.n0;exact Mx.Tq _ _ _
theorem qy.bd:Mx.Bd (2^573) (duM n m f den):=jO fun l hl x hx=>by
 obtain⟨row,hr,rfl⟩:=dE.1 hl;obtain⟨k,_,rfl⟩:=dE.1 hx;exact h.dot hr k _
end
end DW
end
section
open Go.RowKit
namespace DW
section
variable {n : Nat} {m f : Mx.Mat} {den : Int} (h : qy n m f den)
include h
theorem qy.is:Mx.UC n f (nR n m den) (den/nG n m den) (duM n m f den) (duS n m f den) (duE n m f den):=by
 have:=h.n0;exact⟨rfl,rfl,rfl⟩
end
set_option maxRecDepth 20000
set_option maxHeartbeats 4000000
end DW
end
end Go.Proofs.YtcgjmdpcplhanaaGreat
