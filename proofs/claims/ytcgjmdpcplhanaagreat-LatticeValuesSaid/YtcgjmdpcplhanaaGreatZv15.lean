/- Lemmas for the law: E51 M24 E92 E93 -/
import Derived.Test.YtcgjmdpcplhanaaGreatZv14
namespace Go.Proofs.YtcgjmdpcplhanaaGreat
section
theorem zb50{p:Prop}(h:p:=by(apply KG;(exact rfl);(assumption);(exact rfl))):p:=h
theorem HH{p q:Prop}(h:q)(f:Wq q->p:=by(intro hW;(refine gar ?_;(refine aL1 rfl rfl rfl zb50 ?_);refine dJ ?_);exact hW.out)):p:=f ⟨h⟩
theorem BM{p q:Prop}(h:q)(f:Wq q->p:=by(intro hW;((first|(refine aLs rfl rfl rfl rfl ?_ ?_;(focus(apply bF;(conv=>lhs;whnf);(first|done|exact rfl|(apply bj;(first|(apply ay;omega)|(apply aA;omega)|assumption|(simp;done)))))))|refine aLw rfl rfl rfl rfl cL zb12 ?_));exact hW.out)):p:=f ⟨h⟩
theorem wY{p q:Prop}(h:q)(f:Wq q->p:=by(intro hW;(refine aL1 rfl rfl rfl (by(apply zt;(exact rfl);(focus((apply aw;(conv=>lhs;whnf);(first|done|exact rfl))));(exact rfl))) ?_);exact hW.out)):p:=f ⟨h⟩
theorem HC{p q:Prop}(h:q)(f:Wq q->p:=by(intro hW;(refine cf ?_;refine sK ?_;refine zs3 ?_;refine wY ?_;refine wY ?_;refine zs5 ?_;refine dJ ?_);exact hW.out)):p:=f ⟨h⟩
theorem BL{p q:Prop}(h:q)(f:Wq q->p:=by(intro hW;((first|(refine aLs rfl rfl rfl rfl ?_ ?_;(focus(apply bF;(conv=>lhs;whnf);(first|done|exact rfl|(apply bj;(first|(apply ay;omega)|(apply aA;omega)|assumption|(simp;done)))))))|refine aLw rfl rfl rfl rfl cL zb50 ?_));exact hW.out)):p:=f ⟨h⟩
theorem Hz{p q:Prop}(h:q)(f:Wq q->p:=by(intro hW;(refine ct ?_;refine zs41 ?_;refine kY ?_;refine Bj ?_;refine IM ?_;refine vd ?_;refine ba ?_);exact hW.out)):p:=f ⟨h⟩
theorem zs185{p q:Prop}(h:q)(f:Wq q->p:=by(intro hW;(refine ct ?_;refine gR ?_;refine zs3 ?_;refine wY ?_;refine wY ?_;refine zs5 ?_;refine dJ ?_);exact hW.out)):p:=f ⟨h⟩
theorem zs186{p q:Prop}(h:q)(f:Wq q->p:=by(intro hW;(refine ct ?_;refine gR ?_;refine zs3 ?_;refine xE ?_;refine ba ?_);exact hW.out)):p:=f ⟨h⟩
theorem Bt{p q:Prop}(h:q)(f:Wq q->p:=by(intro hW;(refine ct ?_;refine gR ?_;refine qj ?_;refine fg ?_;refine oN ?_;refine rI ?_);exact hW.out)):p:=f ⟨h⟩
theorem Bq{p q:Prop}(h:q)(f:Wq q->p:=by(intro hW;(refine fR ?_;refine Bt ?_;refine bG ?_;refine HC ?_;refine zs1 ?_;refine zs185 ?_;refine zs1 ?_;refine jJ ?_;refine zs186 ?_;refine bG ?_;refine jg ?_);exact hW.out)):p:=f ⟨h⟩
end
section
open Go.RowKit
namespace DW
abbrev gI(l:List Int):List D:=l.map zI
set_option maxRecDepth 20000
set_option maxHeartbeats 2000000
theorem C1(l:List Int)(hl:l.length<=1000000)(K:Nat)(hK:hdr K=false):FnG Tryz.prog 62 [dI l] [] (.own K) [(K,⟨3,1,gI l⟩)]:=by
 refine⟨enters_of Tryz.func62 ak rfl,wb.mv (a:=3) ?_ rfl hK⟩;refine Ku Tryz.func62 rfl rfl (fun _ hp=>by cases hp) fun X0=>?_;simp only[aQ];refine jL ?_;refine gar ?_;(refine oL (k:=3) (wd:=1) (T:=Tryz.prog.elem 40) rfl rfl rfl rfl ak ak an an dL ?_);refine zs3 ?_;(refine rE rfl rfl rfl rfl dm dm cr an xO ak ak (by(simp only[aY,en];omega)) dL xN ?_);refine cJ ?_
 trace_state
 exact⟨_,Sh.refl,.own 2 3 rfl rfl,rfl⟩
end DW
end
section
namespace Mx
def chi(f:Nat->Nat->Int)(t:Nat):Nat->Nat->Int:=fun i j=>if i=0 then f 0 j else if i<=t then f 0 0*f i j-f i 0*f 0 j else f i j
theorem Jk{n:Nat}(f:Nat->Nat->Int):∀t,t<=n->D (n+1) (chi f t)=f 0 0^t*D (n+1) f
 |0,_=>by
  rw[Int.pow_zero,dB];refine cK _ _ _ fun i j _ _=>?_;unfold chi;by_cases h:i=0
  ·rw[aj h,h]
  ·rw[ah h,ah aa]
 |t+1,ht=>by
  have e:chi f (t+1)=upd (chi f t) (t+1) fun j=>f 0 0*f (t+1) j+ -(f (t+1) 0)*f 0 j:=by
   funext i j;unfold upd chi;by_cases h:i=t+1
   ·rw[ah aa,aj aa,aj h,h,yg];show _=f 0 0*f (t+1) j+ -(f (t+1) 0)*f 0 j;rw[gH]
   ·rw[ah h];by_cases h0:i=0
    ·rw[aj h0,aj h0]
    ·rw[ah h0,ah h0];by_cases h1:i<=t
     ·rw[aj aa,aj h1]
     ·rw[ah aa,ah h1]
  rw[e,qh _ _ (n+1) _ (t+1) _ _ aa];have e1:upd (chi f t) (t+1) (f (t+1))=chi f t:=by
   have:chi f t (t+1)=f (t+1):=by
    funext j;unfold chi;rw[ah aa,ah aa]
   rw[<-this];exact kI _ _
  have e2:D (n+1) (upd (chi f t) (t+1) (f 0))=0:=mX (i:=0) (j:=t+1) aa aa aa _ fun l=>by
   unfold upd chi;rw[ah aa,aj rfl,aj rfl]
  rw[e1,e2,Jk f t aa,eY,fZ,Int.pow_succ,<-cZ,ep (f 0 0)]
def rst(f:Nat->Nat->Int):Nat->Nat->Int:=fun i j=>f 0 0*f (i+1) (j+1)-f (i+1) 0*f 0 (j+1)
theorem rst_D{n:Nat}(f:Nat->Nat->Int):f 0 0*D n (rst f)=f 0 0^n*D (n+1) f:=by
 rw[<-Jk f n (af _),rF (n+1)];show _=sm (n+1) fun k=>sg k*chi f n k 0*D n fun i j=>chi f n (skip k j) (i+1);rw[gF,iI n _ fun k hk=>by
  have:chi f n (k+1) 0=0:=by
   unfold chi;rw[ah aa,aj aa,ep,Int.sub_self]
  rw[this,eY,Int.zero_mul],fZ]
 have e0:chi f n 0 0=f 0 0:=by unfold chi;rw[aj rfl]
 rw[show sg 0=1 from rfl,dB,e0,rF n];congr 1;refine cK _ _ _ fun i j hi hj=>?_;show f 0 0*f (j+1) (i+1)-f (j+1) 0*f 0 (i+1)=chi f n (skip 0 j) (i+1);rw[jA];unfold chi;rw[ah aa,aj aa]
theorem EJ{a:Int}(h:0<a):∀n,0<a^n
 |0=>by rw[Int.pow_zero];decide
 |n+1=>by rw[Int.pow_succ];exact Int.mul_pos (EJ h n) h
theorem Av(x:Int)(n:Nat)(f:Nat->Int):sm n (fun k=>f k*x)=sm n f*x:=by
 rw[ep,<-mF];exact bN _ _ _ fun k _=>ep _ _
theorem sq_nn(x:Int):0<=x*x:=by
 rcases Int.le_total 0 x with h|h
 ·exact Int.mul_nonneg h h
 ·exact Int.mul_nonneg_of_nonpos_of_nonpos h h
theorem EG:∀(n:Nat) (f:Nat->Nat->Int),(∀i j,i<n->j<n->f i j=f j i)->(∀m,1<=m->m<=n->0<D m f)->∀v:Nat->Int,0<=sm n fun i=>sm n fun k=>v i*f i k*v k
 |0,_,_,_,_=>qI _
 |n+1,f,hs,hd,v=>by
  have h0:0<f 0 0:=by
   have:=hd 1 (af _) aa;have e:D 1 f=f 0 0:=by
    show 0+sg 0*f 0 0*1=f 0 0;rw[show sg 0=1 from rfl];omega
   rwa[e]at this
  have ih:=EG n (rst f) (fun i j hi hj=>by
   unfold rst;rw[hs (i+1) (j+1) aa aa,hs (i+1) 0 aa aa,hs 0 (j+1) aa aa,ep (f 0 (i+1))]) (fun m h1 h2=>by
   have h3:=rst_D (n:=m) f;have h4:=Int.mul_pos (EJ h0 m) (hd (m+1) aa aa);rw[<-h3]at h4;exact Int.lt_of_mul_lt_mul_left (a:=f 0 0) (by rw[eY];exact h4) (qD h0)) fun i=>v (i+1)
  obtain⟨s,hs1⟩:∃s,s=sm n fun k=>f 0 (k+1)*v (k+1):=⟨_,rfl⟩;obtain⟨R,hR⟩:∃R,R=sm n fun i=>sm n fun k=>v (i+1)*f (i+1) (k+1)*v (k+1):=⟨_,rfl⟩;have es:(sm n fun i=>v (i+1)*f (i+1) 0)=s:=by
   rw[hs1];exact bN _ _ _ fun k hk=>by rw[hs (k+1) 0 aa aa,ep]
  have e1:(sm n fun i=>sm n fun k=>v (i+1)*rst f i k*v (k+1))=f 0 0*R-s*s:=by
   have:∀i k,v (i+1)*rst f i k*v (k+1)=f 0 0*(v (i+1)*f (i+1) (k+1)*v (k+1))+ -1*(v (i+1)*f (i+1) 0*(f 0 (k+1)*v (k+1))):=fun i k=>by
    unfold rst;rw[Int.mul_sub,Int.sub_mul,gH,dB,yg];congr 1
    ·ac_rfl
    ·congr 1;ac_rfl
   have h2:∀i,(sm n fun k=>v (i+1)*rst f i k*v (k+1))=f 0 0*(sm n fun k=>v (i+1)*f (i+1) (k+1)*v (k+1))+ -1*(v (i+1)*f (i+1) 0*s):=fun i=>by
    rw[bN n _ _ fun k _=>this i k,mG,mF (v (i+1)*f (i+1) 0),hs1]
   rw[bN n _ _ fun i _=>h2 i,mG,Av,es,<-hR];omega
  have e2:(sm (n+1) fun i=>sm (n+1) fun k=>v i*f i k*v k)=v 0*f 0 0*v 0+v 0*s+(s*v 0+R):=by
   rw[gF,gF];congr 1
   ·congr 1;rw[hs1,<-mF];exact bN _ _ _ fun k _=>cZ _ _ _
   ·rw[bN n _ (fun i=>v (i+1)*f (i+1) 0*v 0+sm n fun k=>v (i+1)*f (i+1) (k+1)*v (k+1)) fun i _=>gF _ _,Ei,Av,es,<-hR]
  rw[e2];rw[e1]at ih;have h5:=sq_nn (f 0 0*v 0+s);have e3:f 0 0*(v 0*f 0 0*v 0+v 0*s+(s*v 0+R))=(f 0 0*v 0+s)*(f 0 0*v 0+s)+(f 0 0*R-s*s):=by
   rw[iE,iE,iE,Int.add_mul,iE,iE];have x1:f 0 0*(v 0*f 0 0*v 0)=f 0 0*v 0*(f 0 0*v 0):=by ac_rfl
   have x2:f 0 0*(v 0*s)=f 0 0*v 0*s:=by ac_rfl
   have x3:f 0 0*(s*v 0)=s*(f 0 0*v 0):=by ac_rfl
   rw[x1,x2,x3];omega
  have h6:0<=f 0 0*(v 0*f 0 0*v 0+v 0*s+(s*v 0+R)):=by rw[e3];omega
  exact Int.le_of_mul_le_mul_left (a:=f 0 0) (by rw[eY];exact h6) h0
end Mx
end
section
open Go.RowKit
namespace DW
set_option maxRecDepth 20000
set_option maxHeartbeats 4000000
theorem yW(g:Mx.Mat)(v:List Int)(a:Bool)(h:a=false\/10<v.length)(SM:Fn Tryz.prog 14 [dM g] (.sc (.bool a))):Fn Tryz.prog 11 [dM g,dI v] (.sc (.bool true)):=by
 have AW:=sB
 cases a with
 |false=>
  refine bq Tryz.func11 ak rfl rfl rfl fun X0=>?_;simp only[aQ];refine fR ?_;refine Bt ?_;refine bU ?_;refine HH ?_;refine zs1 ?_;exact⟨_,Sh.refl,.one (.tmp 4) _ rfl (.tmp 4 rfl)⟩
 |true=>
  have hl:10<v.length:=h.resolve_left aU;have hd:decide ((v.length:Int)>10)=true:=ay aa;refine bq Tryz.func11 ak rfl rfl rfl fun X0=>?_;simp only[aQ];refine fR ?_;refine Bt ?_;refine bU ?_;refine HH ?_;refine zs1 ?_;exact⟨_,Sh.refl,.one (.tmp 4) _ rfl (.tmp 4 rfl)⟩
theorem ln(g:Mx.Mat)(v:List Int)(C:Int)(hC:C≠0)(hv:v.length<=10)(SM:Fn Tryz.prog 14 [dM g] (.sc (.bool true)))(V1:Fn Tryz.prog 56 [dM g,dI v] (.tp [zI 0,zI C]))(IR:Fn Tryz.prog 57 [dM g] (.tp [.sc (.bool false),zI C]))(RC:Fn Tryz.prog 58 [dM g] (zI C))(LC:Fn Tryz.prog 59 [dM g] (zI C)):Fn Tryz.prog 11 [dM g,dI v] (.sc (.bool true)):=by
 have AW:=sB;have hd:decide ((v.length:Int)>10)=false:=aA aa;refine bq Tryz.func11 ak rfl rfl rfl fun X0=>?_;simp only[aQ];refine Bq ?_;refine bU ?_;refine cf ?_;refine xD ?_;refine kY ?_;refine BM ?_;refine iP ?_;refine fg ?_;refine xH ?_;refine iP ?_;refine fg ?_;(first|(refine aLs rfl rfl rfl rfl ?_ ?_;(focus(apply bF;(conv=>lhs;whnf);(first|done|exact rfl|(apply bj;(first|(apply ay;omega)|(apply aA;omega)|assumption|(simp;done)))))))|refine aLw rfl rfl rfl rfl cL BW ?_);refine iP ?_;refine zs3 ?_;refine BL ?_;refine iP ?_;refine cJ ?_;exact⟨_,Sh.refl,.one (.tmp 4) _ rfl (.tmp 4 rfl)⟩
theorem Aa(g:Mx.Mat)(v:List Int)(C:Int)(b:Bool)(hC:C≠0)(hv:v.length<=10)(SM:Fn Tryz.prog 14 [dM g] (.sc (.bool true)))(V1:Fn Tryz.prog 56 [dM g,dI v] (.tp [zI 0,zI C]))(IR:Fn Tryz.prog 57 [dM g] (.tp [.sc (.bool b),zI 0]))(RC:Fn Tryz.prog 58 [dM g] (zI 0))(LC:Fn Tryz.prog 59 [dM g] (zI 0))(RR:Fn Tryz.prog 60 [dM g] (.sc (.bool b)))(CV:Fn Tryz.prog 61 [dM g,dI v] (zI C)):Fn Tryz.prog 11 [dM g,dI v] (.sc (.bool true)):=by
 have AW:=sB;have hd:decide ((v.length:Int)>10)=false:=aA aa;have hbb:(!(b==b))=false:=by cases b<;>rfl
 refine bq Tryz.func11 ak rfl rfl rfl fun X0=>?_;simp only[aQ];refine Bq ?_;refine bG ?_;refine Hz ?_;refine bG ?_;refine cf ?_;refine sK ?_;refine cJ ?_;refine jg ?_;refine bU ?_;refine cf ?_;refine xD ?_;refine fg ?_;refine xH ?_;refine iP ?_;refine zs3 ?_;refine BL ?_;refine iP ?_;refine cJ ?_;exact⟨_,Sh.refl,.one (.tmp 4) _ rfl (.tmp 4 rfl)⟩
theorem Ab(g:Mx.Mat)(v:List Int)(q:Int)(b:Bool)(hq:0<=q)(hv:v.length<=10)(hvb:∀x∈v,x.natAbs<=100000)(SM:Fn Tryz.prog 14 [dM g] (.sc (.bool true)))(V1:Fn Tryz.prog 56 [dM g,dI v] (.tp [zI q,zI 0]))(IR:Fn Tryz.prog 57 [dM g] (.tp [.sc (.bool b),zI 0]))(RC:Fn Tryz.prog 58 [dM g] (zI 0))(LC:Fn Tryz.prog 59 [dM g] (zI 0))(RR:Fn Tryz.prog 60 [dM g] (.sc (.bool b)))(CV:Fn Tryz.prog 61 [dM g,dI v] (zI 0))(V2:Fn Tryz.prog 56 [dM g,dI (v.map fun x=>-x)] (.tp [zI q,zI 0]))(RV:Fn Tryz.prog 63 [dM g,dI v] (zI q)):Fn Tryz.prog 11 [dM g,dI v] (.sc (.bool true)):=by
 have AW:=sB;have CI:=C1 v aa 86 rfl;have hd:decide ((v.length:Int)>10)=false:=aA aa;have hbb:(!(b==b))=false:=by cases b<;>rfl
 refine bq Tryz.func11 ak rfl rfl rfl fun X0=>?_;simp only[aQ];refine Bq ?_;refine bG ?_;refine Hz ?_;refine bG ?_;refine cf ?_;refine sK ?_;refine cJ ?_;refine jg ?_;refine bG ?_;refine ct ?_;(refine MP rfl rfl rfl rfl dm (CI) an an an ?_);refine dJ ?_;refine cD ?_;clear SM V1 IR RC LC RR CV CI hd hbb
 (refine aI (av (sl':=[(0,dM g),(1,dI v),(5,zI q),(6,zI 0),(11,.own 86),(12,zI 0)]) (ow':=[(86,⟨3,1,v.map zI⟩)]) aE aH) ?_)
 refine aX (fun r s=>∃k,k<=v.length/\r=v.length-k/\s=⟨[(0,dM g),(1,dI v),(5,zI q),(6,zI 0),(11,.own 86),(12,zI (k:Nat))],[(86,⟨3,1,(((v.take k).map fun x=>-x)++v.drop k).map zI⟩)]⟩) (m:=v.length) ⟨0,aO _,rfl,rfl⟩ fun r s hs=>?_;obtain⟨k,hk,rfl,rfl⟩:=hs;have hWl:(((v.take k).map fun x=>-x)++v.drop k).length=v.length:=by rw[cq,aY,aP,eQ];omega
 by_cases hkl:k<v.length
 ·obtain⟨x,hx⟩:=get_some hkl;have hxb:=hvb x (bh hx);have hW0:(((v.take k).map fun x=>-x)++v.drop k)[k]?=some x:=by
   rw[iC (by rw[aY,aP];omega),aY,aP,cV aa,fE,gJ];exact hx
  have hW1:(((v.take k).map fun x=>-x)++v.drop k).set k (-x)=((v.take (k+1)).map fun x=>-x)++v.drop (k+1):=by
   rw[cB hx,xW k _ (by rw[aY,aP];omega),aY,aP,cV aa,fE,rR hkl,gg,dC,cY];rfl
  obtain⟨W,hW⟩:∃W,W=((v.take k).map fun x=>-x)++v.drop k:=⟨_,rfl⟩;rw[<-hW]at hW0 hW1 hWl;rw[<-hW];have hE:(W.map zI).set k (zI (-x))=(W.set k (-x)).map zI:=by rw[List.map_set]
  have hml:(W.map zI).length=v.length:=by rw[aY];exact hWl
  clear hW AW V2 RV hvb;refine cC ?_;refine cf ?_;refine zs3 ?_;refine jM ?_;refine zs47 ?_;refine kE ?_;(refine oK (i:=k) rfl rfl rfl dm dm cr an vt an mr an ak vu ?_);refine dv ?_;rw[hE,hW1];refine je ?_;simp only[nx];exact⟨v.length-(k+1),_,by omega,(av (sl':=[(0,dM g),(1,dI v),(5,zI q),(6,zI 0),(11,.own 86),(12,zI ((k+1:Nat):Int))]) (ow':=[(86,⟨3,1,(((v.take (k+1)).map fun x=>-x)++v.drop (k+1)).map zI⟩)]) aE aH),k+1,by omega,rfl,rfl⟩
 ·obtain rfl:k=v.length:=by omega
  rw[fj,qK,gZ];rw[fj,qK,gZ]at hWl;have hml:((v.map fun x=>-x).map zI).length=v.length:=by rw[aY];exact hWl
  have hdq:decide (q>=0)=true:=ay hq;generalize(v.map fun x=>-x)=W at*;refine dH ?_;refine aI (bB (k:=86) cr dG dF) ?_;refine zs1 ?_;refine HC ?_;refine jK ?_;refine ve ?_;refine kY ?_;refine zs7 ?_;(first|(refine aLs rfl rfl rfl rfl ?_ ?_;(focus(apply bF;(conv=>lhs;whnf);(first|done|exact rfl|(apply bj;(first|(apply ay;omega)|(apply aA;omega)|assumption|(simp;done)))))))|refine aLw rfl rfl rfl rfl cL qq ?_);refine BM ?_;refine iP ?_;refine fg ?_;refine xH ?_;refine iP ?_;refine kY ?_;refine BM ?_;refine iP ?_;refine fg ?_;refine vc ?_;refine iP ?_;refine zs3 ?_;refine BL ?_;refine iP ?_;refine cJ ?_;exact⟨_,Sh.refl,.one (.tmp 4) _ rfl (.tmp 4 rfl)⟩
end DW
end
section
open Go.RowKit
namespace DW
theorem Mw{n:Nat}{l:List Int}(h1:l.length=n)(h2:∀x∈l,x.natAbs<=100000):cvk n l=0:=by
 unfold cvk;rw[aj h1,ah];intro h;obtain⟨z,hz,h3⟩:=dQ.1 h;have h4:inb 100000 z=true:=sf.2 (by have:=h2 z hz;omega);rw[h4]at h3;cases h3
theorem LL(g:Mx.Mat)(v:List Int):qv g (v.map fun x=>-x)=qv g v:=by
 have e:∀a,(v.map fun x=>-x).getD a 0= -(v.getD a 0):=fun a=>by
  rw[aF,aF,db];cases v[a]?<;>rfl
 unfold qv;rw[aY];refine Mx.bN _ _ _ fun a _=>Mx.bN _ _ _ fun b _=>?_;unfold tm;rw[e,e,gH,Int.neg_mul_neg]
theorem qv_nn{g:Mx.Mat}{n:Nat}{v:List Int}(h:GP g n)(hv:v.length=n):0<=qv g v:=by
 have:=Mx.EG n (Mx.at' g) h.1 h.2 fun i=>v.getD i 0;unfold qv;rw[hv];exact this
section
variable {g : Mx.Mat} {n : Nat} (hl : g.length = n) (h4 : n<=4) (hR : Mx.Rc n g) (hb : ∀ r ∈ g,∀ z ∈ r,inb 1000000 z = true)
include hl h4 hR hb
omit h4 hR hl in
theorem rk(i j:Nat):(Mx.at' g i j).natAbs<=1000000:=by
 rcases at_mem g i j with h1|⟨r,hr,hz⟩
 ·rw[h1];simp
 ·have:=sf.1 (hb r hr _ hz);omega
omit h4 hR hl in
theorem Fl(m:Nat):Mx.Bd (2^20) (ld g m):=bd_of fun l hlm x hx=>by
 obtain⟨r,hr,rfl⟩:=iD.1 hlm;have:=sf.1 (hb r (rQ hr) x (rQ hx));omega
theorem gdets{m:Nat}(hm:m<=n):Fn Tryz.prog 96 [dW (ld g m)] (.nm (Mx.D m (Mx.at' g)))/\Fn Tryz.prog 101 [.nm (Mx.D m (Mx.at' g))] (zI (sgn (Mx.D m (Mx.at' g))))/\Fn Tryz.prog 43 [dW (ld g m)] (.nm (Mx.D m (Mx.at' g)))/\Fn Tryz.prog 106 [.nm (Mx.D m (Mx.at' g))] (zI (sgn (Mx.D m (Mx.at' g)))):=by
 have hml:m<=g.length:=by omega
 have e:Mx.D m (Mx.at' (ld g m))=Mx.D m (Mx.at' g):=Mx.cK _ _ _ fun i j hi hj=>ld_at hml hi hj;have p2:2^m<=16:=cE (n:=2) (j:=4) aa aa;have pm:(20+m)*m<=24*4:=bZ aa aa;have hD:=Dq (e:=20) m (Mx.at' g) fun i j _ _=>bc (rk hb i j) az;have d1:=Lj (ld g m) m 20 (E9 hml) (I5 hm hR) aa aa (Fl hb m);have d2:=Je 20 m (ld g m) (E9 hml) (I5 hm hR) (Fl hb m) aa aa;rw[e]at d1 d2;exact⟨d1,JB _ (gO hD aa),d2,Em _ (kS hD aa)⟩
end
theorem Ad(g:List (List Int))(v:List Int):Fn Tryz.prog 11 [dM g,dI v] (.sc (.bool true)):=by
 have SM:=Gn g;by_cases hs:smL g=true/\v.length<=10
 ·obtain⟨hs,hv⟩:=hs;rw[hs]at SM;obtain⟨l1,l2⟩:=JT hs;have PC:=LF g aa (fun r hr=>by have:=l2 r hr;omega);have RC:=KK g aa;have WD:=JD g aa;have CO:=wO g;by_cases hc:chk g=0
  ·rw[hc]at PC RC;by_cases hsh:1<=g.length/\g.length<=4/\wid g=g.length
   ·obtain⟨h1,h4,hw⟩:=hsh;have hR:Mx.Rc g.length g:=hw▸(FE hc).2.2.1;rw[hw]at WD CO;by_cases hin:∀r∈g,∀z∈r,inb 1000000 z=true
    ·have hi64:∀l∈g,∀z∈l,I64 z:=KJ hc;have WO:=wof_d g g.length aa aa hR hi64;have RW:=Li g aa (fun l hl=>by have:=hR l hl;omega) (fun l hl z hz=>by have:=hi64 l hl z hz;unfold I64 at this;omega);have DD:=fun m (hm:m<=g.length)=>gdets (g:=g) rfl h4 hR hin hm;by_cases hG:GP g g.length
     ·have LC:=I6 g g.length 0 (.inl ⟨rfl,hG⟩) rfl h1 h4 hR hin PC WD WO (fun m _ hm=>(DD m hm).1) fun m _ hm=>(DD m hm).2.1;have RG:=I0 g g.length 0 (.inl ⟨rfl,hG⟩) rfl h1 h4 hR hin RC CO RW (fun m _ hm=>(DD m hm).2.2.1) fun m _ hm=>(DD m hm).2.2.2;have IR:=Km g _ LC (EB g g.length rfl h4 hR (rk hin));have RR:=Lp g g.length rfl h4 hR (rk hin);have CV:=J5 g v aa;by_cases hcv:cvk g.length v=0
      ·rw[hcv]at CV;obtain⟨c1,c2⟩:=FA hcv;have hvo:VOk g v g.length:=⟨h4,rfl,hR,c1,rk hin,c2⟩;have c3:∀x∈v.map fun x=> -x,x.natAbs<=100000:=fun x hx=>by
        obtain⟨y,hy,rfl⟩:=iD.1 hx;have:=c2 y hy;omega
       have hvo2:VOk g (v.map fun x=> -x) g.length:=⟨h4,rfl,hR,by rw[aY];exact c1,rk hin,c3⟩;have V2:=Fa g (v.map fun x=> -x) (by rw[aY];omega) (Mw (by rw[aY];exact c1) c3) LC (tf g _ _ hvo2);rw[LL]at V2;exact Ab g v _ _ (qv_nn hG c1) hv c2 SM (Fa g v aa hcv LC (tf g v _ hvo)) IR RG LC RR CV V2 (yy g v _ hvo)
      ·exact Aa g v _ _ hcv hv SM (L5 g v aa hcv LC) IR RG LC RR CV
     ·have LC:=I6 g g.length 3 (.inr ⟨rfl,hG⟩) rfl h1 h4 hR hin PC WD WO (fun m _ hm=>(DD m hm).1) fun m _ hm=>(DD m hm).2.1;have RG:=I0 g g.length 3 (.inr ⟨rfl,hG⟩) rfl h1 h4 hR hin RC CO RW (fun m _ hm=>(DD m hm).2.2.1) fun m _ hm=>(DD m hm).2.2.2;exact ln g v 3 aa hv SM (uG g v 3 aa LC) (se g 3 aa LC) RG LC
    ·have LC:=lcg_r g g.length rfl h1 h4 hR hin PC WD;have RG:=rcg_r g g.length rfl h1 h4 hR hin RC CO;exact ln g v 2 aa hv SM (uG g v 2 aa LC) (se g 2 aa LC) RG LC
   ·have LC:=lcg_s g hsh PC WD;have RG:=rcg_s g hsh RC CO;exact ln g v 9 aa hv SM (uG g v 9 aa LC) (se g 9 aa LC) RG LC
  ·have LC:=lcg_e g _ hc PC;have RG:=rcg_e g _ hc RC;exact ln g v _ hc hv SM (uG g v _ hc LC) (se g _ hc LC) RG LC
 ·refine yW g v _ ?_ SM;by_cases h:smL g=true
  ·exact .inr (by have : ¬ v.length <= 10 := fun h2 => hs ⟨h, h2⟩
                  omega)
  ·exact .inl (by simpa using h)
end DW
theorem CJ(v0 v1:Value)(g:List (List Int))(l:List Int)(w:World)(h0:DW.AR (fun _=>False) w (DW.dM g) v0)(h1:DW.AR (fun _=>False) w (DW.dI l) v1):Calls Tryz.prog 11 #[v0,v1] w fun e w'=>e= .returned (.bool true)/\Below w.heap.size w w':=by
 refine((DW.Ad g l).2 (fun _=>False) w #[v0,v1] (fun _ h=>h.elim) (by simp only[DW.ATp];exact⟨v0,_,rfl,h0,v1,_,rfl,h1,rfl⟩)).mono fun e w' ⟨u,h1,h2,h3⟩=>⟨?_,h3⟩;simp only[DW.AR]at h2;rw[h1,h2.1]
end
end Go.Proofs.YtcgjmdpcplhanaaGreat
