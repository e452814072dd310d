/- Lemmas for the law: E4 E5 E6 -/
import Derived.Test.YtcgjmdpcplhanaaGreatZs3
namespace Go.Proofs.YtcgjmdpcplhanaaGreat
section
abbrev tj:=@List.take_append_of_le_length
abbrev th:=@Nat.mul_right_comm
abbrev lu:=@List.map_set
abbrev EK:=@List.map_replicate
abbrev tg:=@Classical.byContradiction
theorem zs69{p q:Prop}(h:q)(f:Wq q->p:=by(intro hW;(refine aL1 rfl rfl rfl (by(first|(apply SF;(exact rfl);(focus((apply aE;(conv=>lhs;whnf);(first|done|exact rfl))));(focus((apply aE;(conv=>lhs;whnf);(first|done|exact rfl))));(omega))|(apply fm;(exact rfl);(focus((apply aE;(conv=>lhs;whnf);(first|done|exact rfl))));(focus((apply aE;(conv=>lhs;whnf);(first|done|exact rfl))));(exact rfl)))) ?_);exact hW.out)):p:=f ⟨h⟩
theorem zs67{p q:Prop}(h:q)(f:Wq q->p:=by(intro hW;(refine aL1 rfl rfl rfl (by(first|(apply uj;(exact rfl);(focus((apply aE;(conv=>lhs;whnf);(first|done|exact rfl))));(exact rfl);(focus((first|exact fN|exact fL|exact fM|exact wd_pt|exact rfl)));(exact rfl);(kernel_rfl);(kernel_rfl))|(apply ke;(exact rfl);(focus((apply aE;(conv=>lhs;whnf);(first|done|exact rfl))));(focus((repeat(first|exact bn|refine bu _ ?_))));(exact iK);(exact rfl);(exact rfl);(focus((first|exact fN|exact fL|exact fM|exact wd_pt|exact rfl)));(exact rfl);(kernel_rfl);(kernel_rfl))|(apply kR;(exact rfl);(focus((apply aE;(conv=>lhs;whnf);(first|done|exact rfl))));(focus((repeat(first|exact bn|refine bu _ ?_))));(exact rfl);(focus((first|exact iK|(apply oY;assumption)|assumption|(apply get_map;exact hy h6)|exact rfl)));(exact rfl);(focus((first|exact fN|exact fL|exact fM|exact wd_pt|exact rfl)));(exact rfl);(kernel_rfl);(kernel_rfl))|(apply d_load_row;(exact rfl);(focus((apply aE;(conv=>lhs;whnf);(first|done|exact rfl))));(focus((repeat(first|exact bn|refine bu _ ?_))));(exact rfl);(focus(first|(apply fP;assumption)|exact rfl));(assumption);(kernel_rfl);(kernel_rfl)))) ?_);exact hW.out)):p:=f ⟨h⟩
theorem zs66{p q:Prop}(h:q)(f:Wq q->p:=by(intro hW;(refine aL1 rfl rfl rfl (by(first|(apply kd;(exact rfl);(focus((apply aE;(conv=>lhs;whnf);(first|done|exact rfl))));(focus((apply aE;(conv=>lhs;whnf);(first|done|exact rfl))));(kernel_rfl);(kernel_rfl);(omega);(focus((first|(apply get_map;exact hy h6)|(apply get_map;assumption)|(apply get_own;assumption)))))|(apply iq;(exact rfl);(focus((apply aE;(conv=>lhs;whnf);(first|done|exact rfl))));(focus((apply aE;(conv=>lhs;whnf);(first|done|exact rfl))));(focus((repeat(first|exact bn|refine bu _ ?_))));(kernel_rfl);(kernel_rfl);(focus(first|omega|(simp;omega)));(focus(first|(apply fP;assumption)|exact rfl))))) ?_);exact hW.out)):p:=f ⟨h⟩
theorem Rn{p q:Prop}(h:q)(f:Wq q->p:=by(intro hW;(refine bT ?_;refine zs4 ?_;refine zs66 ?_;refine zs67 ?_;refine zs69 ?_;refine cT ?_);exact hW.out)):p:=f ⟨h⟩
theorem iQ{p q:Prop}(h:q)(f:Wq q->p:=by(intro hW;(refine zs2 ?_;refine fE ?_;refine zs2 ?_);exact hW.out)):p:=f ⟨h⟩
theorem zs60{p q:Prop}(h:q)(f:Wq q->p:=by(intro hW;((first|(apply aI 9;(focus kernel_rfl);(decide+kernel))|(apply aI 8;(focus kernel_rfl);(decide+kernel))|(apply aI 7;(focus kernel_rfl);(decide+kernel))|(apply aI 6;(focus kernel_rfl);(decide+kernel))|(apply aI 5;(focus kernel_rfl);(decide+kernel))|(apply aI 4;(focus kernel_rfl);(decide+kernel))|(apply aI 3;(focus kernel_rfl);(decide+kernel))|(apply aI 2;(focus kernel_rfl);(decide+kernel)));simp only[eu,dw,eU,du]);exact hW.out)):p:=f ⟨h⟩
theorem Kj{p:Prop}(h:p:=by(first|(apply fm;(exact rfl);(focus((apply aE;(conv=>lhs;whnf);(first|done|exact rfl))));(focus((apply aE;(conv=>lhs;whnf);(first|done|exact rfl))));(exact rfl))|(apply SK;(exact rfl);(focus((apply aE;(conv=>lhs;whnf);(first|done|exact rfl))));(focus((apply aE;(conv=>lhs;whnf);(first|done|exact rfl))));(kernel_rfl)))):p:=h
theorem Ej{p q:Prop}(h:q)(f:Wq q->p:=by(intro hW;(refine aL1 rfl rfl rfl Kj ?_);exact hW.out)):p:=f ⟨h⟩
theorem xq{p q:Prop}(h:q)(f:Wq q->p:=by(intro hW;(refine cE ?_;refine zs5 ?_;refine zs4 ?_;refine zs5 ?_;refine Ej ?_;refine aQ ?_);exact hW.out)):p:=f ⟨h⟩
theorem zb16{p:Prop}(h:p:=by(first|(apply SL;(exact rfl);(focus((apply aE;(conv=>lhs;whnf);(first|done|exact rfl))));(focus((apply aE;(conv=>lhs;whnf);(first|done|exact rfl))));(omega))|(apply fm;(exact rfl);(focus((apply aE;(conv=>lhs;whnf);(first|done|exact rfl))));(focus((apply aE;(conv=>lhs;whnf);(first|done|exact rfl))));(exact rfl)))):p:=h
theorem vJ{p q:Prop}(h:q)(f:Wq q->p:=by(intro hW;((first|(refine aLs rfl rfl rfl rfl ?_ ?_;(focus(apply bz;(conv=>lhs;whnf);(first|done|exact rfl|(apply br;(first|(apply aD;omega)|(apply aG;omega)|assumption|(simp;done)))))))|refine aLw rfl rfl rfl rfl cI yv ?_));exact hW.out)):p:=f ⟨h⟩
theorem Ei{p q:Prop}(h:q)(f:Wq q->p:=by(intro hW;((first|(refine aLs rfl rfl rfl rfl ?_ ?_;(focus(apply bz;(conv=>lhs;whnf);(first|done|exact rfl|(apply br;(first|(apply aD;omega)|(apply aG;omega)|assumption|(simp;done)))))))|refine aLw rfl rfl rfl rfl cI zb2 ?_));exact hW.out)):p:=f ⟨h⟩
theorem zs62{p q:Prop}(h:q)(f:Wq q->p:=by(intro hW;((first|(refine aLs rfl rfl rfl rfl ?_ ?_;(focus(apply bz;(conv=>lhs;whnf);(first|done|exact rfl|(apply br;(first|(apply aD;omega)|(apply aG;omega)|assumption|(simp;done)))))))|refine aLw rfl rfl rfl rfl cI Kg ?_));exact hW.out)):p:=f ⟨h⟩
theorem zb5{p:Prop}(h:p:=by(first|(apply GI;(exact rfl);(focus((apply aE;(conv=>lhs;whnf);(first|done|exact rfl))));(focus(first|exact rfl|(apply aD;omega)|assumption|(simp;done)));(exact mc))|(apply GJ;(exact rfl);(focus((apply aE;(conv=>lhs;whnf);(first|done|exact rfl))));(focus(first|exact rfl|(apply aG;omega)|assumption|(simp;done)));(focus((apply aE;(conv=>lhs;whnf);(first|done|exact rfl)))))|(apply d_pick;(exact rfl);(focus((apply aE;(conv=>lhs;whnf);(first|done|exact rfl))));(exact mc);(focus((apply aE;(conv=>lhs;whnf);(first|done|exact rfl))));(exact rfl)))):p:=h
theorem mu{p q:Prop}(h:q)(f:Wq q->p:=by(intro hW;(refine aL1 rfl rfl rfl zb5 ?_);exact hW.out)):p:=f ⟨h⟩
theorem Rp{p q:Prop}(h:q)(f:Wq q->p:=by(intro hW;(refine bT ?_;refine zs5 ?_;refine pQ ?_;refine gO ?_;refine zs8 ?_;refine Ei ?_;refine zs62 ?_;refine mu ?_;refine gO ?_;refine vJ ?_;refine mu ?_;refine aQ ?_);exact hW.out)):p:=f ⟨h⟩
theorem Eh{p q:Prop}(h:q)(f:Wq q->p:=by(intro hW;(refine aL1 rfl rfl rfl zb4 ?_);exact hW.out)):p:=f ⟨h⟩
theorem nK{p q:Prop}(h:q)(f:Wq q->p:=by(intro hW;(refine Eh ?_;refine ff ?_);exact hW.out)):p:=f ⟨h⟩
theorem zb15{p:Prop}(h:p:=by(first|(apply SS;(exact rfl);(focus((apply aE;(conv=>lhs;whnf);(first|done|exact rfl))));(focus((apply aE;(conv=>lhs;whnf);(first|done|exact rfl))));(omega))|(apply fm;(exact rfl);(focus((apply aE;(conv=>lhs;whnf);(first|done|exact rfl))));(focus((apply aE;(conv=>lhs;whnf);(first|done|exact rfl))));(exact rfl)))):p:=h
theorem ur{p q:Prop}(h:q)(f:Wq q->p:=by(intro hW;(refine aL1 rfl rfl rfl zb15 ?_);exact hW.out)):p:=f ⟨h⟩
theorem Rm{p q:Prop}(h:q)(f:Wq q->p:=by(intro hW;(refine bT ?_;refine zs4 ?_;refine zs4 ?_;refine ur ?_;refine nK ?_;refine ur ?_;refine cT ?_);exact hW.out)):p:=f ⟨h⟩
theorem Jy{p q:Prop}(h:q)(f:Wq q->p:=by(intro hW;((first|(apply aI 11;(focus kernel_rfl);(decide+kernel))|(apply aI 10;(focus kernel_rfl);(decide+kernel))|(apply aI 9;(focus kernel_rfl);(decide+kernel))|(apply aI 8;(focus kernel_rfl);(decide+kernel))|(apply aI 7;(focus kernel_rfl);(decide+kernel))|(apply aI 6;(focus kernel_rfl);(decide+kernel))|(apply aI 5;(focus kernel_rfl);(decide+kernel))|(apply aI 4;(focus kernel_rfl);(decide+kernel)));simp only[eu,dw,eU,du]);exact hW.out)):p:=f ⟨h⟩
theorem JT{p q:Prop}(h:q)(f:Wq q->p:=by(intro hW;(refine cE ?_;refine zs5 ?_;refine zs19 ?_;refine cT ?_);exact hW.out)):p:=f ⟨h⟩
theorem uu{p q:Prop}(h:q)(f:Wq q->p:=by(intro hW;(refine aL1 rfl rfl rfl (by(apply vA;(exact rfl);(exact mc))) ?_);exact hW.out)):p:=f ⟨h⟩
theorem JU{p q:Prop}(h:q)(f:Wq q->p:=by(intro hW;(refine gar ?_;refine uu ?_;refine aQ ?_);exact hW.out)):p:=f ⟨h⟩
theorem jL{p q:Prop}(h:q)(f:Wq q->p:=by(intro hW;(refine JU ?_;refine zs2 ?_);exact hW.out)):p:=f ⟨h⟩
theorem zb66{p:Prop}(h:p:=by first|(apply ON;assumption)|exact nY _|exact rfl):p:=h
theorem jK{p q:Prop}(h:q)(f:Wq q->p:=by(intro hW;(refine ib ?_;refine rJ ?_);exact hW.out)):p:=f ⟨h⟩
theorem mQ{p q:Prop}(h:q)(f:Wq q->p:=by(intro hW;(refine bR ?_;refine fE ?_;refine zs2 ?_);exact hW.out)):p:=f ⟨h⟩
theorem iR{p q:Prop}(h:q)(f:Wq q->p:=by(intro hW;(refine bT ?_;refine zs5 ?_;refine pQ ?_;refine aQ ?_);exact hW.out)):p:=f ⟨h⟩
theorem rI{p q:Prop}(h:q)(f:Wq q->p:=by(intro hW;(refine zs2 ?_;refine iR ?_);exact hW.out)):p:=f ⟨h⟩
theorem zs57{p q:Prop}(h:q)(f:Wq q->p:=by(intro hW;((first|refine fo rfl rfl rfl ai zb3 ai ai ?_|((try refine bf ?_);refine aL1 rfl rfl rfl zb3 ?_)));exact hW.out)):p:=f ⟨h⟩
theorem zs58{p q:Prop}(h:q)(f:Wq q->p:=by(intro hW;((first|refine fo rfl rfl rfl ai zb0 ai ai ?_|((try refine bf ?_);refine aL1 rfl rfl rfl zb0 ?_)));exact hW.out)):p:=f ⟨h⟩
theorem zu{p q:Prop}(h:q)(f:Wq q->p:=by(intro hW;(refine ib ?_;refine ib ?_;refine zs57 ?_;refine zs58 ?_);exact hW.out)):p:=f ⟨h⟩
theorem Jz{p q:Prop}(h:q)(f:Wq q->p:=by(intro hW;((first|refine fo rfl rfl rfl ai Kj ai ai ?_|((try refine bf ?_);refine aL1 rfl rfl rfl Kj ?_)));exact hW.out)):p:=f ⟨h⟩
theorem JA{p q:Prop}(h:q)(f:Wq q->p:=by(intro hW;((first|(apply aI 8;(focus kernel_rfl);(decide+kernel))|(apply aI 7;(focus kernel_rfl);(decide+kernel))|(apply aI 6;(focus kernel_rfl);(decide+kernel))|(apply aI 5;(focus kernel_rfl);(decide+kernel))|(apply aI 4;(focus kernel_rfl);(decide+kernel))|(apply aI 3;(focus kernel_rfl);(decide+kernel))|(apply aI 2;(focus kernel_rfl);(decide+kernel))|(apply aI 1;(focus kernel_rfl);(decide+kernel)));simp only[eu,dw,eU,du]);exact hW.out)):p:=f ⟨h⟩
theorem Rq{p q:Prop}(h:q)(f:Wq q->p:=by(intro hW;(refine JA ?_;refine zu ?_;refine zu ?_;refine Jz ?_;refine qy ?_);exact hW.out)):p:=f ⟨h⟩
theorem zb59{p:Prop}(h:p:=by rw[tj aa,cf aa];exact h):p:=h
theorem iw{p q:Prop}(h:q)(f:Wq q->p:=by(intro hW;(refine rI ?_;refine bA ?_);exact hW.out)):p:=f ⟨h⟩
theorem nF{p q:Prop}(h:q)(f:Wq q->p:=by(intro hW;(refine zs2 ?_;refine jL ?_);exact hW.out)):p:=f ⟨h⟩
theorem kY{p q:Prop}(h:q)(f:Wq q->p:=by(intro hW;(refine rI ?_;refine bR ?_);exact hW.out)):p:=f ⟨h⟩
theorem Ro{p q:Prop}(h:q)(f:Wq q->p:=by(intro hW;(refine bT ?_;refine nK ?_;refine zs4 ?_;refine zs69 ?_;refine cT ?_);exact hW.out)):p:=f ⟨h⟩
theorem zs71{p q:Prop}(h:q)(f:Wq q->p:=by(intro hW;((refine pj (i:=i+k) rfl rfl rfl ck ck aX ai qz ai cX ai ah qA ?_));exact hW.out)):p:=f ⟨h⟩
theorem Rl{p q:Prop}(h:q)(f:Wq q->p:=by(intro hW;(refine bT ?_;refine zs4 ?_;refine ur ?_;refine zs4 ?_;refine JB ?_;refine Eh ?_;refine zs71 ?_;refine aQ ?_);exact hW.out)):p:=f ⟨h⟩
theorem JS{p q:Prop}(h:q)(f:Wq q->p:=by(intro hW;(refine bT ?_;refine zs5 ?_;refine pQ ?_;refine gO ?_;refine vJ ?_;refine mu ?_;refine aQ ?_);exact hW.out)):p:=f ⟨h⟩
end
section
open Go.RowKit
namespace DW
theorem VY{a b:Nat}(h:hd a=hd b):a=b:=by rw[<-jY a,<-jY b,h]
theorem C0{a b:Nat}(h:(hd a).length<(hd b).length):a<b:=by
 have:=Dg.lE (b:=65536) au (Dg.dA au a).1 (Dg.dA au b).1 h;rwa[(Dg.dA au a).2,(Dg.dA au b).2]at this
theorem NH{a b i:Nat}(hi:i<(hd a).length)(hl:(hd a).length=(hd b).length)(hd':(hd a).drop (i+1)=(hd b).drop (i+1))(h:(hd a).getD i 0<(hd b).getD i 0):a<b:=by
 have:=Dg.lex_lt (kG a) hi hl hd' h;rwa[jY,jY]at this
theorem IS{a i:Nat}(hi:i<(hd a).length):(hd a).drop i=(hd a).getD i 0::(hd a).drop (i+1):=by
 rw[nW hi,aq,aV hi];rfl
theorem qY{a i:Nat}(hi:i<(hd a).length):(hd a)[i]?=some ((hd a).getD i 0):=sy hi
theorem xO{l:List Nat}{i:Nat}(h:l.length<=i):l.getD i 0=0:=by rw[aq,gQ h];rfl
set_option maxRecDepth 20000
set_option maxHeartbeats 1000000
theorem Nj(a b:Nat)(ha:(hd a).length<=900000000)(hb:(hd b).length<=900000000):Fn Tryz.prog 153 [dN (hd a),dN (hd b)] (.sc (.bool (decide (a<b)))):=by
 refine bg Tryz.func153 ah rfl rfl rfl fun X0=>?_;simp only[aP];by_cases hl:(hd a).length=(hd b).length
 ·refine nF ?_;refine xq ?_;refine bR ?_;refine JT ?_;refine zs2 ?_
  (refine av (ay (sl':=[(0,dN (hd a)),(1,dN (hd b)),(5,zI ((hd a).length-1))]) (ow':=[]) aF aH) ?_)
  refine bh (fun r s=>r<=(hd a).length/\(hd a).drop r=(hd b).drop r/\s=⟨[(0,dN (hd a)),(1,dN (hd b)),(5,zI (r-1))],[]⟩) (m:=(hd a).length) ⟨af _,by rw[pI,hl,pI],rfl⟩ fun r s hs=>?_;obtain⟨h1,h2,rfl⟩:=hs;by_cases hr:r=0
  ·have e:a=b:=VY (by subst hr;simpa using h2);refine zs2 ?_;refine jn ?_;refine bR ?_;refine jL ?_;rw[show decide (a<b)=false from aG aa];exact⟨_,Sh.refl, .one (.tmp 4) _ rfl (.tmp 4 rfl)⟩
  ·obtain⟨i,rfl⟩:∃i,r=i+1:=⟨r-1,by omega⟩;have hi:i<(hd a).length:=by omega
   have hi':i<(hd b).length:=by omega
   have hx:=qY hi;have hy:=qY hi';have hc:((i+1:Nat):Int)-1=(i:Int):=by omega
   have k1:=IS hi;have k2:=IS hi';have k3:(hd a).getD i 0<(hd b).getD i 0->a<b:=NH hi hl h2;have k4:(hd b).getD i 0<(hd a).getD i 0->b<a:=NH hi' hl.symm h2.symm;obtain⟨x,hxd⟩:∃x,x=(hd a).getD i 0:=⟨_,rfl⟩;obtain⟨y,hyd⟩:∃y,y=(hd b).getD i 0:=⟨_,rfl⟩;rw[<-hxd]at hx k1 k3 k4;rw[<-hyd]at hy k2 k3 k4;by_cases hxy:x=y
   ·have k5:(hd a).drop i=(hd b).drop i:=by rw[k1,k2,hxy,h2]
    refine zs2 ?_;refine jn ?_;refine bA ?_;refine Rq ?_;refine bR ?_;refine xr ?_;refine zs2 ?_;simp only[nx,inB];exact⟨i,_,by omega,(ay (sl':=[(0,dN (hd a)),(1,dN (hd b)),(5,zI ((i:Int)-1))]) (ow':=[]) aF aH),by omega,k5,rfl⟩
   ·have k5 : decide ((x : Int) < (y : Int)) = decide (a < b) := by
     by_cases h:x<y
     ·rw[aD aa,aD (k3 h)]
     ·rw[aG aa,aG (by have:=k4 aa;omega)]
    refine zs2 ?_;refine jn ?_;refine bA ?_;refine Rq ?_;refine bA ?_;refine zs60 ?_;refine zu ?_;refine zu ?_;(first|refine fo rfl rfl rfl ai Kg ai ai ?_|((try refine bf ?_);refine aL1 rfl rfl rfl Kg ?_));refine pn ?_;refine zs2 ?_;rw[<-k5];exact⟨_,Sh.refl, .one (.tmp 4) _ rfl (.tmp 4 rfl)⟩
 ·have k5 : decide (((hd a).length : Int) < ((hd b).length : Int)) = decide (a < b) := by
   by_cases h:(hd a).length<(hd b).length
   ·rw[aD aa,aD (C0 h)]
   ·rw[aG aa,aG (by have:=C0 (a:=b) (b:=a) aa;omega)]
  refine nF ?_;refine xq ?_;refine bA ?_;refine cE ?_;refine zs5 ?_;refine zs4 ?_;refine zs5 ?_;refine pQ ?_;refine cn ?_;rw[<-k5];exact⟨_,Sh.refl, .one (.tmp 4) _ rfl (.tmp 4 rfl)⟩
theorem MJ{a b o:List Nat}{i c:Nat}(hi:o.length=i)(h:Dg.vl 65536 o+c*65536^i=Dg.vl 65536 (a.take i)+Dg.vl 65536 (b.take i)):
  Dg.vl 65536 (o++[(c+a.getD i 0+b.getD i 0)%65536])+(c+a.getD i 0+b.getD i 0)/65536*65536^(i+1)=Dg.vl 65536 (a.take (i+1))+Dg.vl 65536 (b.take (i+1)):=by
 have:=Dg.rX (B:=65536) (a:=a) (b:=b) (o:=o++[0]) (i:=i) (c:=c) cU zb59;rw[show a.getD i 0+b.getD i 0+c=c+a.getD i 0+b.getD i 0 by omega,Dg.nd cU,tj aa,cf aa]at this;exact this
theorem Iq(a b:Nat)(ha:(hd a).length<=400000000)(hb:(hd b).length<=400000000):Fn Tryz.prog 152 [dN (hd a),dN (hd b)] (dN (hd (a+b))):=by
 refine bg Tryz.func152 ah rfl rfl rfl fun X0=>?_;simp only[aP];refine mO ?_;refine lS ?_;refine pW ?_;refine av (dz (t:=5) (k:=5) (T:=3) (wd:=1) fF rfl rfl cj) ?_
 (refine av (ay (sl':=[(0,dN (hd a)),(1,dN (hd b)),(5, .own 5),(6,zI 0),(7,zI 0)]) (ow':=[(5,⟨3,1,[]⟩)]) aF aH) ?_)
 obtain⟨M,hM⟩:∃M,M=max (hd a).length (hd b).length:=⟨_,rfl⟩;refine bh (fun r s=>∃i o c,r=M+1-i/\o.length=i/\Dg.dig 65536 o/\c<=1/\(i<=M\/(i<=M+1/\c=0))/\Dg.vl 65536 o+c*65536^i=Dg.vl 65536 ((hd a).take i)+Dg.vl 65536 ((hd b).take i)/\s=⟨[(0,dN (hd a)),(1,dN (hd b)),(5, .own 5),(6,zI (c:Nat)),(7,zI (i:Nat))],[(5,⟨3,1,o.map hN⟩)]⟩) (m:=M+1) ⟨0,[],0,by omega,rfl,fun _ h=>(by cases h),by omega, .inl aa,by simp[Dg.vl],rfl⟩ fun r s hs=>?_;obtain⟨i,o,c,rfl,ho,hdo,hc,hiM,hv,rfl⟩:=hs;have STEP:=MJ (a:=hd a) (b:=hd b) ho hv;have hxl:(hd a).getD i 0<65536:=Dg.bS (kG a) au i;have hyl:(hd b).getD i 0<65536:=Dg.bS (kG b) au i;have hx:i<(hd a).length->(hd a)[i]?=some ((hd a).getD i 0):=qY;have hy:i<(hd b).length->(hd b)[i]?=some ((hd b).getD i 0):=qY;have hx0:(hd a).length<=i->(hd a).getD i 0=0:=xO;have hy0:(hd b).length<=i->(hd b).getD i 0=0:=xO;obtain⟨x,hxd⟩:∃x,x=(hd a).getD i 0:=⟨_,rfl⟩;obtain⟨y,hyd⟩:∃y,y=(hd b).getD i 0:=⟨_,rfl⟩;rw[<-hxd]at STEP hxl hx hx0;rw[<-hyd]at STEP hyl hy hy0;have hdig:=rn hdo (eC (c+x+y) (by omega:0<65536));have hms:=qV o ((c+x+y)%65536);have hlen:(o++[(c+x+y)%65536]).length=i+1:=by simp[ho]
 have kx:(hd a).length<=M:=by omega
 have ky:(hd b).length<=M:=by omega
 have kM:M<=(hd a).length\/M<=(hd b).length:=by omega
 have kM2:M<=400000000:=by omega
 clear hM hxd hyd;by_cases hend:M<=i/\c=0
 ·obtain⟨h1,h2⟩:=hend;have e:Dg.vl 65536 o=a+b:=by
   subst h2;rw[cf aa,cf aa,jY,jY]at hv;omega
  have T:=Aj (l:=o) aa hdo e;refine zs2 ?_;refine Rp ?_;refine bR ?_;refine av (az (k:=5) aX bq bp) ?_;refine Dr ?_;refine zs2 ?_;exact⟨_,Sh.refl, .one (.tmp 4) _ rfl (.tmp 4 rfl)⟩
 ·have hcases:((i<(hd a).length)\/(i<(hd b).length/\(hd a).length<=i))\/(c>0/\(hd a).length<=i/\(hd b).length<=i):=by omega
  have hxe:i<(hd a).length\/((hd a).length<=i/\x=0):=by
   by_cases h:i<(hd a).length
   ·exact .inl h
   ·exact .inr ⟨by omega,hx0 aa⟩
  have hye:i<(hd b).length\/((hd b).length<=i/\y=0):=by
   by_cases h:i<(hd b).length
   ·exact .inl h
   ·exact .inr ⟨by omega,hy0 aa⟩
  rcases hcases with(h1|⟨h1,h2⟩)|⟨h1,h2,h3⟩;all_goals
   rcases hxe with h4|⟨h4,h5⟩;all_goals
    rcases hye with h6|⟨h6,h7⟩;all_goals
     first
      |(exfalso;omega;done)
      | ((refine zs2 ?_); refine Rp ?_; (refine zs2 ?_)
         refine fe ?_;refine rI ?_;refine zs2 ?_
         (first|(refine fe ?_;(refine zs2 ?_);(refine gar ?_;refine zs4 ?_;refine zs4 ?_;refine zs4 ?_;(refine aL1 rfl rfl rfl (by(first|(apply kd;(exact rfl);(focus((apply aE;(conv=>lhs;whnf);(first|done|exact rfl))));(focus((apply aE;(conv=>lhs;whnf);(first|done|exact rfl))));(kernel_rfl);(kernel_rfl);(omega);(focus((first|(apply get_map;exact hx h4)|(apply get_map;assumption)|(apply get_own;assumption)))))|(apply iq;(exact rfl);(focus((apply aE;(conv=>lhs;whnf);(first|done|exact rfl))));(focus((apply aE;(conv=>lhs;whnf);(first|done|exact rfl))));(focus((repeat(first|exact bn|refine bu _ ?_))));(kernel_rfl);(kernel_rfl);(focus(first|omega|(simp;omega)));(focus(first|(apply fP;assumption)|exact rfl))))) ?_);(refine aL1 rfl rfl rfl (by(first|(apply uj;(exact rfl);(focus((apply aE;(conv=>lhs;whnf);(first|done|exact rfl))));(exact rfl);(focus((first|exact fN|exact fL|exact fM|exact wd_pt|exact rfl)));(exact rfl);(kernel_rfl);(kernel_rfl))|(apply ke;(exact rfl);(focus((apply aE;(conv=>lhs;whnf);(first|done|exact rfl))));(focus((repeat(first|exact bn|refine bu _ ?_))));(exact iK);(exact rfl);(exact rfl);(focus((first|exact fN|exact fL|exact fM|exact wd_pt|exact rfl)));(exact rfl);(kernel_rfl);(kernel_rfl))|(apply kR;(exact rfl);(focus((apply aE;(conv=>lhs;whnf);(first|done|exact rfl))));(focus((repeat(first|exact bn|refine bu _ ?_))));(exact rfl);(focus((first|exact iK|(apply oY;assumption)|assumption|(apply get_map;exact hx h4)|exact rfl)));(exact rfl);(focus((first|exact fN|exact fL|exact fM|exact wd_pt|exact rfl)));(exact rfl);(kernel_rfl);(kernel_rfl))|(apply d_load_row;(exact rfl);(focus((apply aE;(conv=>lhs;whnf);(first|done|exact rfl))));(focus((repeat(first|exact bn|refine bu _ ?_))));(exact rfl);(focus(first|(apply fP;assumption)|exact rfl));(assumption);(kernel_rfl);(kernel_rfl)))) ?_);refine ur ?_;refine zs6 ?_;refine aQ ?_);(refine zs2 ?_))|(refine fD ?_;(refine zs2 ?_)))
         refine rI ?_;refine zs2 ?_
         (first|(refine fe ?_;(refine zs2 ?_);(refine gar ?_;refine zs4 ?_;refine zs4 ?_;refine zs4 ?_;refine zs66 ?_;refine zs67 ?_;refine ur ?_;refine zs6 ?_;refine aQ ?_);(refine zs2 ?_))|(refine fD ?_;(refine zs2 ?_)))
         (refine av (ay (sl':=[(0,dN (hd a)),(1,dN (hd b)),(5, .own 5),(6,zI ((c+x+y:Nat):Int)),(7,zI (i:Nat))]) (ow':=[(5,⟨3,1,o.map hN⟩)]) aF aH) ?_)
         refine zs2 ?_;refine bT ?_;refine JB ?_;refine my ?_;refine Bq ?_;refine cn ?_;refine zz ?_;refine iQ ?_;simp only[nx,inB];exact⟨M+1-(i+1),_,by omega,(ay (sl':=[(0,dN (hd a)),(1,dN (hd b)),(5, .own 5),(6,zI (((c+x+y)/65536:Nat):Int)),(7,zI ((i+1:Nat):Int))]) (ow':=[(5,⟨3,1,o.map hN++[hN ((c+x+y)%65536)]⟩)]) aF aH),i+1,o++[(c+x+y)%65536],(c+x+y)/65536,rfl,hlen,hdig,by omega,by omega,STEP,by rw[hms]⟩)
end DW
end
section
open Go.RowKit
namespace DW
theorem Dc{a b o:List Nat}{i c:Nat}(hi:o.length=i)(h:Dg.vl 65536 o+Dg.vl 65536 (b.take i)=Dg.vl 65536 (a.take i)+c*65536^i)(hc:b.getD i 0+c<=a.getD i 0):
  Dg.vl 65536 (o++[a.getD i 0-b.getD i 0-c])+Dg.vl 65536 (b.take (i+1))=Dg.vl 65536 (a.take (i+1))+0*65536^(i+1):=by
 have:=Dg.FW (B:=65536) (a:=a) (b:=b) (o:=o++[0]) (i:=i) (c:=c) cU zb59 hc;rw[Dg.nd cU,tj aa,cf aa]at this;exact this
theorem Dd{a b o:List Nat}{i c:Nat}(hi:o.length=i)(h:Dg.vl 65536 o+Dg.vl 65536 (b.take i)=Dg.vl 65536 (a.take i)+c*65536^i)(hb:b.getD i 0+c<=a.getD i 0+65536):
  Dg.vl 65536 (o++[a.getD i 0+65536-b.getD i 0-c])+Dg.vl 65536 (b.take (i+1))=Dg.vl 65536 (a.take (i+1))+1*65536^(i+1):=by
 have:=Dg.FZ (B:=65536) (a:=a) (b:=b) (o:=o++[0]) (i:=i) (c:=c) cU zb59 hb;rw[Dg.nd cU,tj aa,cf aa]at this;exact this
set_option maxRecDepth 20000
set_option maxHeartbeats 1000000
theorem vj(a b:Nat)(ha:(hd a).length<=800000000)(hba:b<=a):Fn Tryz.prog 154 [dN (hd a),dN (hd b)] (dN (hd (a-b))):=by
 refine bg Tryz.func154 ah rfl rfl rfl fun X0=>?_;simp only[aP];have hlb:(hd b).length<=(hd a).length:=jB hba;refine mO ?_;refine lS ?_;refine pW ?_;refine av (dz (t:=5) (k:=5) (T:=3) (wd:=1) fF rfl rfl cj) ?_
 (refine av (ay (sl':=[(0,dN (hd a)),(1,dN (hd b)),(5, .own 5),(6,zI 0),(7,zI 0)]) (ow':=[(5,⟨3,1,[]⟩)]) aF aH) ?_)
 refine bh (fun r s=>∃i o c,r=(hd a).length-i/\i<=(hd a).length/\o.length=i/\Dg.dig 65536 o/\c<=1/\Dg.vl 65536 o+Dg.vl 65536 ((hd b).take i)=Dg.vl 65536 ((hd a).take i)+c*65536^i/\s=⟨[(0,dN (hd a)),(1,dN (hd b)),(5, .own 5),(6,zI (c:Nat)),(7,zI (i:Nat))],[(5,⟨3,1,o.map hN⟩)]⟩) (m:=(hd a).length) ⟨0,[],0,by omega,by omega,rfl,fun _ h=>(by cases h),by omega,by simp[Dg.vl],rfl⟩ fun r s hs=>?_;obtain⟨i,o,c,rfl,hia,ho,hdo,hc,hv,rfl⟩:=hs;by_cases hend:i=(hd a).length
 ·have e : Dg.vl 65536 o = a - b := by
   rw[cf aa,cf aa,jY,jY]at hv;have h1:=Dg.cq hdo;rw[ho]at h1;rcases(show c=0\/c=1 by omega)with h|h
   ·subst h;rw[lW]at hv;omega
   ·subst h;rw[dc]at hv;omega
  have T:=Aj (l:=o) aa hdo e;clear hv;refine kY ?_;refine av (az (k:=5) aX bq bp) ?_;refine Dr ?_;refine zs2 ?_;exact⟨_,Sh.refl, .one (.tmp 4) _ rfl (.tmp 4 rfl)⟩
 ·have hxl:(hd a).getD i 0<65536:=Dg.bS (kG a) au i;have hyl:(hd b).getD i 0<65536:=Dg.bS (kG b) au i;have hx:(hd a)[i]?=some ((hd a).getD i 0):=qY aa;have hy:i<(hd b).length->(hd b)[i]?=some ((hd b).getD i 0):=qY;have hy0:(hd b).length<=i->(hd b).getD i 0=0:=xO;have LO:=Dc (a:=hd a) (b:=hd b) ho hv;have HI:=Dd (a:=hd a) (b:=hd b) ho hv;obtain⟨x,hxd⟩:∃x,x=(hd a).getD i 0:=⟨_,rfl⟩;obtain⟨y,hyd⟩:∃y,y=(hd b).getD i 0:=⟨_,rfl⟩;rw[<-hxd]at hxl hx LO HI;rw[<-hyd]at hyl hy hy0 LO HI;clear hxd hyd hv;have hye:i<(hd b).length\/((hd b).length<=i/\y=0):=by
   by_cases h:i<(hd b).length
   ·exact .inl h
   ·exact .inr ⟨by omega,hy0 aa⟩
  have hlen:∀q,(o++[q]).length=i+1:=fun q=>by simp[ho]
  by_cases hge:y+c<=x
  ·have LO':=LO hge;clear LO HI;rcases hye with h6|⟨h6,h7⟩;all_goals
    refine iw ?_;refine Ro ?_;refine rI ?_;refine zs2 ?_
    (first|(refine fe ?_;(refine zs2 ?_);refine Rn ?_;(refine zs2 ?_))|(refine fD ?_;(refine zs2 ?_)))
    refine iA ?_;refine jn ?_;refine zs2 ?_;refine fD ?_
    (refine av (ay (sl':=[(0,dN (hd a)),(1,dN (hd b)),(5, .own 5),(6,zI 0),(7,zI (i:Nat)),(8,hN (x-y-c))]) (ow':=[(5,⟨3,1,o.map hN⟩)]) aF aH) ?_)
    refine zs2 ?_;refine uz ?_;refine iQ ?_;simp only[nx,inB];exact⟨(hd a).length-(i+1),_,by omega,(ay (sl':=[(0,dN (hd a)),(1,dN (hd b)),(5, .own 5),(6,zI ((0:Nat):Int)),(7,zI ((i+1:Nat):Int))]) (ow':=[(5,⟨3,1,o.map hN++[hN (x-y-c)]⟩)]) aF aH),i+1,o++[x-y-c],0,rfl,by omega,hlen _,rn hdo aa,by omega,LO',by rw[qV]⟩
  ·have HI':=HI aa;clear LO HI;rcases hye with h6|⟨h6,h7⟩;all_goals
    refine iw ?_;refine Ro ?_;refine rI ?_;refine zs2 ?_
    (first|(refine fe ?_;(refine zs2 ?_);refine Rn ?_;(refine zs2 ?_))|(refine fD ?_;(refine zs2 ?_)))
    refine iA ?_;refine jn ?_;refine bA ?_;refine cE ?_;refine Ek ?_;refine zs6 ?_;refine jw ?_;refine eX ?_
    (refine av (ay (sl':=[(0,dN (hd a)),(1,dN (hd b)),(5, .own 5),(6,zI 1),(7,zI (i:Nat)),(8,hN (x+65536-y-c))]) (ow':=[(5,⟨3,1,o.map hN⟩)]) aF aH) ?_)
    refine zs2 ?_;refine uz ?_;refine iQ ?_;simp only[nx,inB];exact⟨(hd a).length-(i+1),_,by omega,(ay (sl':=[(0,dN (hd a)),(1,dN (hd b)),(5, .own 5),(6,zI ((1:Nat):Int)),(7,zI ((i+1:Nat):Int))]) (ow':=[(5,⟨3,1,o.map hN++[hN (x+65536-y-c)]⟩)]) aF aH),i+1,o++[x+65536-y-c],1,rfl,by omega,hlen _,rn hdo aa,by omega,HI',by rw[qV]⟩
end DW
end
section
open Go.RowKit
namespace DW
theorem An{l m o:List Nat}{i k x c:Nat}(hl:Dg.dig 65536 l)(hm:Dg.dig 65536 m)(hil:i<l.length)(hx:x=l.getD i 0)(h:Dg.vl 65536 o+c*65536^(i+k)=Dg.vl 65536 (l.take i)*Dg.vl 65536 m+x*Dg.vl 65536 (m.take k)*65536^i)(hc:c≠0):k<=m.length:=by
 apply dJ;intro hlt;rw[cf (l:=m) aa]at h;have e:Dg.vl 65536 (l.take (i+1))*Dg.vl 65536 m=Dg.vl 65536 (l.take i)*Dg.vl 65536 m+x*Dg.vl 65536 m*65536^i:=by
  rw[Dg.dD,<-hx,bO,th]
 have h1:=Dg.cq (Dg.jg hl (i+1));rw[aY,dK aa]at h1;have h2:=Dg.cq hm;have h3:Dg.vl 65536 (l.take (i+1))*Dg.vl 65536 m<=65536^(i+1)*65536^m.length:=cr (bQ h1) (bQ h2);rw[<-eZ]at h3;have h4:(65536:Nat)^(i+1+m.length)<=65536^(i+k):=bI au aa;have h5:1*65536^(i+k)<=c*65536^(i+k):=cF _ aa;have h6:0<(65536:Nat)^(i+1+m.length):=ep au;have h7:Dg.vl 65536 (l.take (i+1))*Dg.vl 65536 m<65536^(i+1)*65536^m.length:=by
  by_cases hz:Dg.vl 65536 m=0
  ·rw[hz,jR,<-eZ];exact h6
  ·exact wa h1 (bQ h2) aa
 rw[<-eZ]at h7;omega
theorem Kx{l m o:List Nat}{i k x:Nat}(hk:m.length<=k)(hx:x=l.getD i 0)(h:Dg.vl 65536 o+0*65536^(i+k)=Dg.vl 65536 (l.take i)*Dg.vl 65536 m+x*Dg.vl 65536 (m.take k)*65536^i):Dg.vl 65536 o=Dg.vl 65536 (l.take (i+1))*Dg.vl 65536 m:=by
 rw[cf hk,lW,bZ]at h;rw[h,Dg.dD,<-hx,bO,th x]
theorem rj{o:List Nat}{j:Nat}(h:j<o.length):o[j]?=some (o.getD j 0):=sy h
theorem map_set(o:List Nat)(j v:Nat):(o.set j v).map hN=(o.map hN).set j (hN v):=lu
set_option maxRecDepth 20000
set_option maxHeartbeats 1000000
theorem EV(l m:List Nat)(hl:Dg.dig 65536 l)(hm:Dg.dig 65536 m)(hll:l.length<=400000000)(hml:m.length<=400000000):Fn Tryz.prog 155 [dN l,dN m] (dN (hd (Dg.vl 65536 l*Dg.vl 65536 m))):=by
 refine bg Tryz.func155 ah rfl rfl rfl fun X0=>?_;simp only[aP];obtain⟨L,hL⟩:∃L,L=l.length+m.length+1:=⟨_,rfl⟩;have hLc:(l.length:Int)+(m.length:Int)+1=(L:Int):=by omega
 refine mO ?_;refine kX ?_;refine zs5 ?_;refine zs4 ?_;refine zs5 ?_;refine ur ?_;refine Ek ?_;(refine G5 (k:=15) (T:=Tryz.prog.elem 40) (zv:=(.int .i64 0)) (d0:=(.sc (.int .i64 0))) (wd:=1) rfl rfl rfl rfl ck ck ah ah ai ai ai ai ai aa zb66 ai cj ?_);refine cn ?_;refine pW ?_
 (refine av (ay (sl':=[(0,dN l),(1,dN m),(5, .own 15),(6,zI 0)]) (ow':=[(15,⟨3,1,List.replicate L (zI 0)⟩)]) aF aH) ?_)
 refine bh (fun r s=>∃i o,r=l.length-i/\i<=l.length/\o.length=L/\Dg.dig 65536 o/\Dg.vl 65536 o=Dg.vl 65536 (l.take i)*Dg.vl 65536 m/\s=⟨[(0,dN l),(1,dN m),(5, .own 15),(6,zI (i:Nat))],[(15,⟨3,1,o.map hN⟩)]⟩) (m:=l.length) ⟨0,List.replicate L 0,by omega,by omega,by simp,Dg.jc au _,by rw[Dg.uM];simp[Dg.vl],by rw[EK];rfl⟩ fun r s hs=>?_;obtain⟨i,o,rfl,hil,ho,hdo,hv,rfl⟩:=hs;by_cases hend:i=l.length
 ·have e:Dg.vl 65536 o=Dg.vl 65536 l*Dg.vl 65536 m:=by rw[hv,cf aa]
  have T:=Aj (l:=o) aa hdo e;clear hv;refine kY ?_;refine av (az (k:=15) aX bq bp) ?_;refine Dr ?_;refine zs2 ?_;exact⟨_,Sh.refl, .one (.tmp 4) _ rfl (.tmp 4 rfl)⟩
 ·have hil':i<l.length:=by omega
  obtain⟨x,hxd⟩:∃x,x=l.getD i 0:=⟨_,rfl⟩;have hx:l[i]?=some x:=by rw[hxd];exact rj hil'
  have hxl:x<65536:=by rw[hxd];exact Dg.bS hl au i
  refine iw ?_;refine mS ?_;refine iA ?_
  (refine av (ay (sl':=[(0,dN l),(1,dN m),(5, .own 15),(6,zI (i:Nat)),(7,zI 0),(8,zI 0)]) (ow':=[(15,⟨3,1,o.map hN⟩)]) aF aH) ?_)
  refine bh (fun r s=>∃k o c,r=m.length+1-k/\o.length=L/\Dg.dig 65536 o/\c<65536/\(k<=m.length\/(k<=m.length+1/\c=0))/\Dg.vl 65536 o+c*65536^(i+k)=Dg.vl 65536 (l.take i)*Dg.vl 65536 m+x*Dg.vl 65536 (m.take k)*65536^i/\s=⟨[(0,dN l),(1,dN m),(5, .own 15),(6,zI (i:Nat)),(7,zI (c:Nat)),(8,zI (k:Nat))],[(15,⟨3,1,o.map hN⟩)]⟩) (m:=m.length+1) ⟨0,o,0,by omega,ho,hdo,by omega, .inl aa,by rw[hv];simp[Dg.vl],rfl⟩ fun r s hs=>?_;clear hv hdo ho;obtain⟨k,o,c,rfl,ho,hdo,hc,hkm,hv,rfl⟩:=hs;by_cases hend2:m.length<=k/\c=0
  ·obtain⟨h1,h2⟩:=hend2;have e:Dg.vl 65536 o=Dg.vl 65536 (l.take (i+1))*Dg.vl 65536 m:=by subst h2;exact Kx h1 hxd hv
   clear hv;refine zs2 ?_;refine JS ?_;refine mQ ?_;simp only[nx,inB];exact⟨l.length-(i+1),_,by omega,(ay (sl':=[(0,dN l),(1,dN m),(5, .own 15),(6,zI ((i+1:Nat):Int))]) (ow':=[(15,⟨3,1,o.map hN⟩)]) aF aH),i+1,o,rfl,by omega,ho,hdo,e,rfl⟩
  ·have hk : k <= m.length := by
    by_cases h:c=0
    ·omega
    ·exact An hl hm hil' hxd hv h
   have hik:i+k<o.length:=by omega
   have STEP:=Dg.Am (B:=65536) (b:=m) (o:=o) (i:=i) (k:=k) (x:=x) (c:=c) hik hv;have hu:=rj hik;have hul:o.getD (i+k) 0<65536:=Dg.bS hdo au _;have hyl:m.getD k 0<65536:=Dg.bS hm au _;have hy:k<m.length->m[k]?=some (m.getD k 0):=rj;have hy0:m.length<=k->m.getD k 0=0:=xO;clear hv;obtain⟨u,hud⟩:∃u,u=o.getD (i+k) 0:=⟨_,rfl⟩;obtain⟨y,hyd⟩:∃y,y=m.getD k 0:=⟨_,rfl⟩;rw[<-hud]at hul hu STEP;rw[<-hyd]at hyl hy hy0 STEP;clear hud hyd;have hxy:x*y<=65535*65535:=cr aa aa;have hxy0:y=0->x*y=0:=fun h=>by rw[h,jR]
   have hc2:(x*y+u+c)/65536<65536:=by
    rw[uH au];omega
   have hik':(i:Int)+(k:Int)=((i+k:Nat):Int):=by omega
   have hdig:=Dg.gT hdo (j:=i+k) (eC (x*y+u+c) (by decide:0<65536));have hms:=map_set o (i+k) ((x*y+u+c)%65536);have hlen:(o.set (i+k) ((x*y+u+c)%65536)).length=L:=by rw[fG];exact ho
   have hcast:((x*y:Nat):Int)=(x:Int)*(y:Int):=Int.natCast_mul x y;have hye:k<m.length\/(m.length<=k/\y=0/\c≠0):=by
    by_cases h:k<m.length
    ·exact .inl h
    ·exact .inr ⟨by omega,hy0 aa,by omega⟩
   rcases hye with h6|⟨h6,h7,h8⟩
   ·have hye:=hy h6;refine zs2 ?_;refine JS ?_;refine bA ?_;refine Rm ?_;refine iw ?_;refine Jy ?_;refine ib ?_;refine jK ?_;refine jK ?_;(first|refine fo rfl rfl rfl ai zb16 ai ai ?_|((try refine bf ?_);refine aL1 rfl rfl rfl zb16 ?_));(first|refine fo rfl rfl rfl ai zb15 ai ai ?_|((try refine bf ?_);refine aL1 rfl rfl rfl zb15 ?_));refine pn ?_;refine zs2 ?_
    (refine av (ay (sl':=[(0,dN l),(1,dN m),(5, .own 15),(6,zI (i:Nat)),(7,zI ((x*y+u+c:Nat):Int)),(8,zI (k:Nat))]) (ow':=[(15,⟨3,1,o.map hN⟩)]) aF aH) ?_)
    refine zs2 ?_;refine Rl ?_;refine zs2 ?_;refine zz ?_;refine iQ ?_;simp only[nx,inB];exact⟨m.length+1-(k+1),_,by omega,(ay (sl':=[(0,dN l),(1,dN m),(5, .own 15),(6,zI (i:Nat)),(7,zI (((x*y+u+c)/65536:Nat):Int)),(8,zI ((k+1:Nat):Int))]) (ow':=[(15,⟨3,1,(o.map hN).set (i+k) (hN ((x*y+u+c)%65536))⟩)]) aF aH),k+1,o.set (i+k) ((x*y+u+c)%65536),(x*y+u+c)/65536,rfl,hlen,hdig,hc2,by omega,STEP,by rw[hms]⟩
   ·have h9:=hxy0 h7;refine zs2 ?_;refine JS ?_;refine bA ?_;refine Rm ?_;refine rI ?_;refine zs2 ?_;refine fD ?_
    (refine av (ay (sl':=[(0,dN l),(1,dN m),(5, .own 15),(6,zI (i:Nat)),(7,zI ((x*y+u+c:Nat):Int)),(8,zI (k:Nat))]) (ow':=[(15,⟨3,1,o.map hN⟩)]) aF aH) ?_)
    refine zs2 ?_;refine Rl ?_;refine zs2 ?_;refine zz ?_;refine iQ ?_;simp only[nx,inB];have hk1:k+1<=m.length\/(k+1<=m.length+1/\(x*y+u+c)/65536=0):=by
     refine .inr ⟨by omega,tg fun h=>?_⟩;have:=An hl hm hil' hxd STEP h;omega
    exact⟨m.length+1-(k+1),_,by omega,(ay (sl':=[(0,dN l),(1,dN m),(5, .own 15),(6,zI (i:Nat)),(7,zI (((x*y+u+c)/65536:Nat):Int)),(8,zI ((k+1:Nat):Int))]) (ow':=[(15,⟨3,1,(o.map hN).set (i+k) (hN ((x*y+u+c)%65536))⟩)]) aF aH),k+1,o.set (i+k) ((x*y+u+c)%65536),(x*y+u+c)/65536,rfl,hlen,hdig,hc2,hk1,STEP,by rw[hms]⟩
end DW
end
end Go.Proofs.YtcgjmdpcplhanaaGreat
