/- Lemmas for the law: F20 F21 -/
import Derived.Test.YtepdigdijecgpaaGreatZs4
namespace Go.Proofs.YtepdigdijecgpaaGreat
section
theorem zb8{p:Prop}(h:p:=by(first|(apply bZ;(exact rfl);(focus((apply aw;(conv=>lhs;whnf);(first|done|exact rfl))));(exact bD);(exact rfl))|(apply d_neb;(exact rfl);(focus((apply aw;(conv=>lhs;whnf);(first|done|exact rfl))));(exact bD);(kernel_rfl)))):p:=h
theorem qY{p q:Prop}(h:q)(f:Wq q->p:=by(intro hW;(refine aL1 rfl rfl rfl zb8 ?_);exact hW.out)):p:=f ⟨h⟩
theorem zs81{p q:Prop}(h:q)(f:Wq q->p:=by(intro hW;(refine cZ ?_;refine qZ ?_;refine pA ?_;refine qY ?_;refine aS ?_);exact hW.out)):p:=f ⟨h⟩
theorem ux{p q:Prop}(h:q)(f:Wq q->p:=by(intro hW;(refine gar ?_;refine zs4 ?_;refine aS ?_);exact hW.out)):p:=f ⟨h⟩
theorem zs88{p q:Prop}(h:q)(f:Wq q->p:=by(intro hW;(refine bN ?_;refine qZ ?_;refine pA ?_;refine zs8 ?_;refine fQ ?_);exact hW.out)):p:=f ⟨h⟩
theorem mq{p q:Prop}(h:q)(f:Wq q->p:=by(intro hW;(refine zs1 ?_;refine ux ?_;refine aX ?_;refine zs88 ?_;refine zs1 ?_;refine px ?_);exact hW.out)):p:=f ⟨h⟩
theorem uz{p q:Prop}(h:q)(f:Wq q->p:=by(intro hW;(refine gar ?_;refine nq ?_;refine nq ?_;refine aS ?_);exact hW.out)):p:=f ⟨h⟩
theorem zb4{p:Prop}(h:p:=by(first|(apply bZ;(exact rfl);(focus((apply aw;(conv=>lhs;whnf);(first|done|exact rfl))));(focus((apply aw;(conv=>lhs;whnf);(first|done|exact rfl))));(exact rfl))|(apply d_neb;(exact rfl);(focus((apply aw;(conv=>lhs;whnf);(first|done|exact rfl))));(focus((apply aw;(conv=>lhs;whnf);(first|done|exact rfl))));(kernel_rfl)))):p:=h
theorem zs41{p q:Prop}(h:q)(f:Wq q->p:=by(intro hW;((first|(refine aLs rfl rfl rfl rfl ?_ ?_;(focus(apply cj;(conv=>lhs;whnf);(first|done|exact rfl|(apply bO;(first|(apply aF;omega)|(apply aN;omega)|assumption|(simp;done)))))))|refine aLw rfl rfl rfl rfl ed zb4 ?_));exact hW.out)):p:=f ⟨h⟩
theorem zs40{p q:Prop}(h:q)(f:Wq q->p:=by(intro hW;((first|(refine aLs rfl rfl rfl rfl ?_ ?_;(focus(apply cj;(conv=>lhs;whnf);(first|done|exact rfl|(apply bO;(first|(apply aF;omega)|(apply aN;omega)|assumption|(simp;done)))))))|refine aLw rfl rfl rfl rfl ed (by(first|(apply xO;(exact rfl);(focus((apply aw;(conv=>lhs;whnf);(first|done|exact rfl))));(exact rfl);(focus((first|exact jg|exact je|exact wd_nm|exact wd_pt|exact rfl)));(exact rfl);(kernel_rfl);(kernel_rfl))|(apply d_load_own;(exact rfl);(focus((apply aw;(conv=>lhs;whnf);(first|done|exact rfl))));(focus((repeat(first|exact ba|refine bh _ ?_))));(exact get_one);(exact rfl);(exact rfl);(focus((first|exact jg|exact je|exact wd_nm|exact wd_pt|exact rfl)));(exact rfl);(kernel_rfl);(kernel_rfl))|(apply d_load_ownO;(exact rfl);(focus((apply aw;(conv=>lhs;whnf);(first|done|exact rfl))));(focus((repeat(first|exact ba|refine bh _ ?_))));(exact rfl);(focus((first|exact get_one|(apply get_map1;assumption)|assumption|(apply xo;(focus assumption);(focus assumption))|exact rfl)));(exact rfl);(focus((first|exact jg|exact je|exact wd_nm|exact wd_pt|exact rfl)));(exact rfl);(kernel_rfl);(kernel_rfl))|(apply d_load_row;(exact rfl);(focus((apply aw;(conv=>lhs;whnf);(first|done|exact rfl))));(focus((repeat(first|exact ba|refine bh _ ?_))));(exact rfl);(focus(first|(apply offs_nat;assumption)|exact rfl));(assumption);(kernel_rfl);(kernel_rfl)))) ?_));exact hW.out)):p:=f ⟨h⟩
theorem zs39{p q:Prop}(h:q)(f:Wq q->p:=by(intro hW;((first|(refine aLs rfl rfl rfl rfl ?_ ?_;(focus(apply cj;(conv=>lhs;whnf);(first|done|exact rfl|(apply bO;(first|(apply aF;omega)|(apply aN;omega)|assumption|(simp;done)))))))|refine aLw rfl rfl rfl rfl ed (by(first|(apply pe;(exact rfl);(focus((apply aw;(conv=>lhs;whnf);(first|done|exact rfl))));(focus((apply aw;(conv=>lhs;whnf);(first|done|exact rfl))));(kernel_rfl);(kernel_rfl);(omega);(focus((first|(apply xo;(focus assumption);(focus assumption))|(apply get_map;assumption)|(apply get_own;assumption)))))|(apply d_index_own;(exact rfl);(focus((apply aw;(conv=>lhs;whnf);(first|done|exact rfl))));(focus((apply aw;(conv=>lhs;whnf);(first|done|exact rfl))));(focus((repeat(first|exact ba|refine bh _ ?_))));(kernel_rfl);(kernel_rfl);(focus(first|omega|(simp;omega)));(focus(first|(apply offs_nat;assumption)|exact rfl))))) ?_));exact hW.out)):p:=f ⟨h⟩
theorem zs38{p q:Prop}(h:q)(f:Wq q->p:=by(intro hW;((first|(refine aLs rfl rfl rfl rfl ?_ ?_;(focus(apply cj;(conv=>lhs;whnf);(first|done|exact rfl|(apply bO;(first|(apply aF;omega)|(apply aN;omega)|assumption|(simp;done)))))))|refine aLw rfl rfl rfl rfl ed zb9 ?_));exact hW.out)):p:=f ⟨h⟩
theorem uw{p q:Prop}(h:q)(f:Wq q->p:=by(intro hW;(refine bN ?_;refine nk ?_;refine ea ?_;refine zs5 ?_;refine zs38 ?_;refine zs39 ?_;refine zs40 ?_;refine zs5 ?_;refine zs41 ?_;refine zs7 ?_;refine aS ?_);exact hW.out)):p:=f ⟨h⟩
theorem zs91{p q:Prop}(h:q)(f:Wq q->p:=by(intro hW;(refine gar ?_;refine ra ?_;refine zs3 ?_;refine aS ?_);exact hW.out)):p:=f ⟨h⟩
theorem mj{p q:Prop}(h:q)(f:Wq q->p:=by(intro hW;(refine zs1 ?_;refine zs91 ?_;refine zs1 ?_);exact hW.out)):p:=f ⟨h⟩
theorem zs35{p q:Prop}(h:q)(f:Wq q->p:=by(intro hW;(refine aL1 rfl rfl rfl (by(first|(apply vO;(exact rfl);(focus((apply aw;(conv=>lhs;whnf);(first|done|exact rfl))));(exact bD);(omega))|(apply bZ;(exact rfl);(focus((apply aw;(conv=>lhs;whnf);(first|done|exact rfl))));(exact bD);(exact rfl)))) ?_);exact hW.out)):p:=f ⟨h⟩
theorem uA{p q:Prop}(h:q)(f:Wq q->p:=by(intro hW;(refine bN ?_;refine zs35 ?_;refine fQ ?_);exact hW.out)):p:=f ⟨h⟩
theorem zs42{p q:Prop}(h:q)(f:Wq q->p:=by(intro hW;((first|(refine aLs rfl rfl rfl rfl ?_ ?_;(focus(apply cj;(conv=>lhs;whnf);(first|done|exact rfl|(apply bO;(first|(apply aF;omega)|(apply aN;omega)|assumption|(simp;done)))))))|refine aLw rfl rfl rfl rfl ed zb2 ?_));exact hW.out)):p:=f ⟨h⟩
theorem zs43{p q:Prop}(h:q)(f:Wq q->p:=by(intro hW;((first|(refine aLs rfl rfl rfl rfl ?_ ?_;(focus(apply cj;(conv=>lhs;whnf);(first|done|exact rfl|(apply bO;(first|(apply aF;omega)|(apply aN;omega)|assumption|(simp;done)))))))|refine aLw rfl rfl rfl rfl ed zb0 ?_));exact hW.out)):p:=f ⟨h⟩
theorem zs92{p q:Prop}(h:q)(f:Wq q->p:=by(intro hW;(refine bN ?_;refine nk ?_;refine ea ?_;refine zs5 ?_;refine zs38 ?_;refine zs42 ?_;refine zs43 ?_;refine zs5 ?_;refine zs41 ?_;refine zs7 ?_;refine aS ?_);exact hW.out)):p:=f ⟨h⟩
theorem uy{p q:Prop}(h:q)(f:Wq q->p:=by(intro hW;(refine bN ?_;refine qY ?_;refine aS ?_);exact hW.out)):p:=f ⟨h⟩
theorem zs86{p q:Prop}(h:q)(f:Wq q->p:=by(intro hW;(refine bN ?_;refine uD ?_;(refine aL1 rfl rfl rfl (by(apply xN;(exact rfl);(exact bD))) ?_);refine aS ?_);exact hW.out)):p:=f ⟨h⟩
theorem zb3{p:Prop}(h:p:=by(first|(apply bZ;(exact rfl);(focus((apply aw;(conv=>lhs;whnf);(first|done|exact rfl))));(focus((apply aw;(conv=>lhs;whnf);(first|done|exact rfl))));(exact rfl))|(apply d_eqb;(exact rfl);(focus((apply aw;(conv=>lhs;whnf);(first|done|exact rfl))));(focus((apply aw;(conv=>lhs;whnf);(first|done|exact rfl))));(kernel_rfl)))):p:=h
theorem zs32{p q:Prop}(h:q)(f:Wq q->p:=by(intro hW;((first|refine nS rfl rfl rfl bW zb3 bW bW ?_|((try refine dZ ?_);refine aL1 rfl rfl rfl zb3 ?_)));exact hW.out)):p:=f ⟨h⟩
theorem zs28{p q:Prop}(h:q)(f:Wq q->p:=by(intro hW;((first|(apply cG 8;(focus kernel_rfl);(decide+kernel))|(apply cG 7;(focus kernel_rfl);(decide+kernel))|(apply cG 6;(focus kernel_rfl);(decide+kernel))|(apply cG 5;(focus kernel_rfl);(decide+kernel))|(apply cG 4;(focus kernel_rfl);(decide+kernel))|(apply cG 3;(focus kernel_rfl);(decide+kernel))|(apply cG 2;(focus kernel_rfl);(decide+kernel))|(apply cG 1;(focus kernel_rfl);(decide+kernel)));simp only[rD,lu,rC,iX]);exact hW.out)):p:=f ⟨h⟩
theorem zs29{p q:Prop}(h:q)(f:Wq q->p:=by(intro hW;((first|refine nS rfl rfl rfl bW uO bW bW ?_|((try refine dZ ?_);refine aL1 rfl rfl rfl uO ?_)));exact hW.out)):p:=f ⟨h⟩
theorem zs30{p q:Prop}(h:q)(f:Wq q->p:=by(intro hW;((first|refine nS rfl rfl rfl bW zb2 bW bW ?_|((try refine dZ ?_);refine aL1 rfl rfl rfl zb2 ?_)));exact hW.out)):p:=f ⟨h⟩
theorem zs31{p q:Prop}(h:q)(f:Wq q->p:=by(intro hW;((first|refine nS rfl rfl rfl bW zb0 bW bW ?_|((try refine dZ ?_);refine aL1 rfl rfl rfl zb0 ?_)));exact hW.out)):p:=f ⟨h⟩
theorem mn{p q:Prop}(h:q)(f:Wq q->p:=by(intro hW;(refine zs29 ?_;refine zs29 ?_;refine zs30 ?_;refine zs31 ?_);exact hW.out)):p:=f ⟨h⟩
theorem zs33{p q:Prop}(h:q)(f:Wq q->p:=by(intro hW;((try refine dZ ?_);refine aS ?_);exact hW.out)):p:=f ⟨h⟩
theorem zs80{p q:Prop}(h:q)(f:Wq q->p:=by(intro hW;(refine zs28 ?_;refine mn ?_;refine mn ?_;refine zs32 ?_;refine zs33 ?_);exact hW.out)):p:=f ⟨h⟩
theorem zs37{p q:Prop}(h:q)(f:Wq q->p:=by(intro hW;(refine aL1 rfl rfl rfl (by(apply sL;(exact rfl);(focus((apply aw;(conv=>lhs;whnf);(first|done|exact rfl))));(exact rfl))) ?_);exact hW.out)):p:=f ⟨h⟩
theorem uQ{p:Prop}(h:p:=by(apply ud;(exact rfl);(focus((apply aw;(conv=>lhs;whnf);(first|done|exact rfl))));(focus((apply aw;(conv=>lhs;whnf);(first|done|exact rfl))));(exact rfl);(exact rfl);(assumption);(exact rfl))):p:=h
theorem zs36{p q:Prop}(h:q)(f:Wq q->p:=by(intro hW;(refine aL1 rfl rfl rfl uQ ?_);exact hW.out)):p:=f ⟨h⟩
theorem pr{p q:Prop}(h:q)(f:Wq q->p:=by(intro hW;(refine cZ ?_;refine zs36 ?_;refine zs3 ?_;refine zs37 ?_;refine zs37 ?_;refine zs8 ?_;refine fQ ?_);exact hW.out)):p:=f ⟨h⟩
theorem pq{p q:Prop}(h:q)(f:Wq q->p:=by(intro hW;(refine cZ ?_;refine ra ?_;refine uF ?_;refine zs3 ?_;refine uG ?_;refine fQ ?_);exact hW.out)):p:=f ⟨h⟩
end
section
open Go.RowKit
namespace DW
def eqs(l:List Nat)(a:Nat):Nat->Nat
 |0=>0
 |k+1=>if l.getD k 0=a then eqs l a k+1 else eqs l a k
theorem sH(l:List Nat)(a:Nat):∀k,eqs l a k<=k
 |0=>ai _
 |k+1=>by
  unfold eqs;have:=sH l a k;split<;>omega
def arr(l:List Nat):Nat->Nat
 |0=>1
 |i+1=>if l.getD i 0=0 then arr l i*(i+1)/eqs l (l.getD i 0) (i+1)else arr l i*(i+1)/eqs l (l.getD i 0) (i+1)*2
theorem ta(l:List Nat):∀i,i<=4->arr l i<=8^i
 |0,_=>ai _
 |i+1,h=>by
  have h1:=ta l i aa;have h2:arr l i*(i+1)/eqs l (l.getD i 0) (i+1)<=8^i*4:=aE (fG _ _) (bF h1 aa);unfold arr;rw[bT];split<;>omega
set_option maxRecDepth 20000
set_option maxHeartbeats 1000000
theorem BJ(l:List Nat)(hl:l.length<=4):Fn Tryz.prog 191 [dI (nn l)] (zI (arr l l.length:Nat)):=by
 have hnl:=lK l;have hb:∀i,i<=4->arr l i<=4096:=fun i hi=>aE (ta l i hi) (by
  have:i=0\/i=1\/i=2\/i=3\/i=4:=by omega
  rcases this with rfl|rfl|rfl|rfl|rfl<;>decide)
 have hget:∀i,i<l.length->(nn l)[i]?=some ((l.getD i 0:Nat):Int):=fun i hi=>by
  obtain⟨c,hc⟩:=get_some hi;rw[xi hc,bg,hc];rfl
 refine cR Tryz.func191 aD rfl rfl rfl fun X0=>?_;simp only[bC];refine zs1 ?_;refine cB ?_;refine cB ?_;refine cB ?_
 (refine eP (bn (sl':=[(0,dI (nn l)),(3,zI 1),(4,zI 0)]) (ow':=[]) zb5 bR) ?_)
 refine dA (fun r s=>∃i:Nat,i<=l.length/\r=l.length-i/\s=⟨[(0,dI (nn l)),(3,zI (arr l i:Nat)),(4,zI (i:Nat))],[]⟩) (m:=l.length) ⟨0,aZ _,rfl,rfl⟩ fun r s hs=>?_;obtain⟨i,hi,rfl,rfl⟩:=hs;by_cases hil:i<l.length
 ·have hgi:=hget i hil;have b1:=hb i aa;have hE:arr l (i+1)=if l.getD i 0=0 then arr l i*(i+1)/eqs l (l.getD i 0) (i+1)else arr l i*(i+1)/eqs l (l.getD i 0) (i+1)*2:=rfl
  have hq1:eqs l (l.getD i 0) (i+1)=eqs l (l.getD i 0) i+1:=aB rfl;have hq2:=sH l (l.getD i 0) (i+1);have hq0:=fun k=>sH l (l.getD i 0) k;have hstep:∀k,eqs l (l.getD i 0) (k+1)=if l.getD k 0=l.getD i 0 then eqs l (l.getD i 0) k+1 else eqs l (l.getD i 0) k:=fun k=>rfl
  obtain⟨a,ha⟩:∃a,a=l.getD i 0:=⟨_,rfl⟩;rw[<-ha]at hgi hE hq1 hq2 hq0 hstep;obtain⟨A,hA⟩:∃A,A=arr l i:=⟨_,rfl⟩;rw[<-hA]at hE b1;rw[<-hA];have hm:(A:Int)*((i:Int)+1)=((A*(i+1):Nat):Int):=by rw[fC,qK];rfl
  have hmb:A*(i+1)<=4096*4:=bF b1 aa;clear hA ha;refine ke ?_;refine cZ ?_;refine ra ?_;refine uF ?_;refine da ?_;refine cB ?_;refine cB ?_;rw[hm]
  (refine eP (bn (sl':=[(0,dI (nn l)),(3,zI (A*(i+1):Nat)),(4,zI (i:Nat)),(5,zI 0),(6,zI 0)]) (ow':=[]) zb5 bR) ?_)
  refine dA (fun r s=>∃k:Nat,k<=i+1/\r=i+1-k/\s=⟨[(0,dI (nn l)),(3,zI (A*(i+1):Nat)),(4,zI (i:Nat)),(5,zI (eqs l a k:Nat)),(6,zI (k:Nat))],[]⟩) (m:=i+1) ⟨0,aZ _,rfl,rfl⟩ fun r s hs=>?_;obtain⟨k,hk,rfl,rfl⟩:=hs;by_cases hkl:k<i+1
  ·have hgk:=hget k aa;have hst:=hstep k;have hqk:=hq0 k;obtain⟨c,hc⟩:∃c,c=l.getD k 0:=⟨_,rfl⟩;rw[<-hc]at hgk hst;obtain⟨e,he⟩:∃e,e=eqs l a k:=⟨_,rfl⟩;rw[<-he]at hst hqk;rw[<-he];clear hc he hstep hq0 hE;by_cases hca:c=a
   ·have hd:decide ((c:Int)=(a:Int))=true:=aF aa;rw[aB hca]at hst;clear hca;refine gL ?_;refine aX ?_;refine zs80 ?_;refine aX ?_;refine cL ?_;refine cL ?_;simp only[nx];exact⟨i+1-(k+1),_,by omega,(bn (sl':=[(0,dI (nn l)),(3,zI (A*(i+1):Nat)),(4,zI (i:Nat)),(5,zI ((e+1:Nat):Int)),(6,zI ((k+1:Nat):Int))]) (ow':=[]) zb5 bR),k+1,by omega,rfl,by rw[hst]⟩
   ·have hd:decide ((c:Int)=(a:Int))=false:=aN aa;rw[an hca]at hst;clear hca;refine gL ?_;refine aX ?_;refine zs80 ?_;refine aM ?_;refine cL ?_;simp only[nx];exact⟨i+1-(k+1),_,by omega,(bn (sl':=[(0,dI (nn l)),(3,zI (A*(i+1):Nat)),(4,zI (i:Nat)),(5,zI (e:Nat)),(6,zI ((k+1:Nat):Int))]) (ow':=[]) zb5 bR),k+1,by omega,rfl,by rw[hst]⟩
  ·obtain rfl:k=i+1:=by omega
   have hdiv:=mI (A*(i+1)) (eqs l a (i+1));have hdb:A*(i+1)/eqs l a (i+1)<=A*(i+1):=fG _ _;have he0:0<eqs l a (i+1):=by omega
   obtain⟨e,he⟩:∃e,e=eqs l a (i+1):=⟨_,rfl⟩;rw[<-he]at hE hdiv hdb he0;rw[<-he];obtain⟨Q,hQ⟩:∃Q,Q=A*(i+1)/e:=⟨_,rfl⟩;rw[<-hQ]at hE hdiv hdb;clear he hstep hq0 hq1 hq2;obtain⟨M,hM⟩:∃M,M=A*(i+1):=⟨_,rfl⟩;rw[<-hM]at hdiv hdb hmb;rw[<-hM];clear hM hm hQ;by_cases h0:a=0
   ·have hd:(!decide ((a:Int)=0))=false:=by rw[aF aa];rfl
    rw[aB h0]at hE;clear h0;refine gL ?_;refine aM ?_;refine cZ ?_;refine uG ?_;refine da ?_;refine zs81 ?_;refine zs1 ?_;refine zs10 ?_;rw[hdiv];refine zs1 ?_;refine cL ?_;simp only[nx];exact⟨l.length-(i+1),_,by omega,(bn (sl':=[(0,dI (nn l)),(3,zI (Q:Nat)),(4,zI ((i+1:Nat):Int))]) (ow':=[]) zb5 bR),i+1,by omega,rfl,by rw[hE]⟩
   ·have hd:(!decide ((a:Int)=0))=true:=by rw[aN aa];rfl
    rw[an h0]at hE;clear h0;refine gL ?_;refine aM ?_;refine cZ ?_;refine uG ?_;refine da ?_;refine zs81 ?_;refine zs1 ?_;refine zs14 ?_;rw[hdiv];refine zs1 ?_;refine uA ?_;refine zs1 ?_;refine cL ?_;simp only[nx];exact⟨l.length-(i+1),_,by omega,(bn (sl':=[(0,dI (nn l)),(3,zI ((Q*2:Nat):Int)),(4,zI ((i+1:Nat):Int))]) (ow':=[]) zb5 bR),i+1,by omega,rfl,by rw[hE]⟩
 ·obtain rfl:i=l.length:=by omega
  generalize arr l l.length=A at*;refine zs1 ?_;refine pw ?_;refine aM ?_;refine kd ?_;refine zs1 ?_;exact⟨_,Sh.refl,.one (.tmp 2) _ rfl (.tmp 2 rfl)⟩
def arL(l:List Nat):Nat:=arr l l.length
def arS(L:List (List Nat)):Nat:=(L.map arL).sum
theorem tc(L:List (List Nat))(l:List Nat):arS (L++[l])=arS L+arL l:=by
 unfold arS;rw[gT,List.sum_append];simp
theorem vZ{l:List Nat}(h:l.length<=4):arL l<=4096:=aE (ta l _ h) (by
 have:l.length=0\/l.length=1\/l.length=2\/l.length=3\/l.length=4:=by omega
 rcases this with e|e|e|e|e<;>rw[e]<;>decide)
theorem vY:∀{L:List (List Nat)},(∀l∈L,l.length<=4)->arS L<=L.length*4096
 |[],_=>aZ _
 |l::L,h=>by
  have h1:=vY (L:=L) fun x hx=>h x (bh _ hx);have h2:=vZ (h l ba);show arL l+arS L<=_;rw[eu,lg];omega
theorem yz(k n:Nat)(hk:k<=4)(hn:n<=1500):Fn Tryz.prog 58 [zI k,zI n] (zI (arS (Mx.sqs k n (Mx.isq n)):Nat)):=by
 have RT:=tO n aa;have SQ:=rZ k n (Mx.isq n) hk hn (by have:=Mx.gJ n;omega);have hlen:=aE (Mx.jS k n (Mx.isq n) hn) (cv (by decide:0<39) hk);have hrow:∀l∈Mx.sqs k n (Mx.isq n),l.length<=4:=fun l hl=>by rw[Mx.iB hl];exact hk
 obtain⟨L,hL⟩:∃L,L=Mx.sqs k n (Mx.isq n):=⟨_,rfl⟩;rw[<-hL]at SQ hlen hrow;rw[<-hL];clear hL;have hLn:(L.map nn).length=L.length:=bu ..;have h39:(39:Nat)^4=2313441:=by decide
 rw[h39]at hlen;generalize Mx.isq n=q at*;refine cR Tryz.func58 aD rfl rfl rfl fun X0=>?_;simp only[bC];refine zs1 ?_;refine cB ?_;refine cB ?_;refine cZ ?_;refine zs3 ?_;refine zs21 ?_;refine zs23 ?_;refine da ?_;refine cB ?_;clear RT SQ
 (refine eP (bn (sl':=[(5,zI 0),(6,dM (L.map nn)),(7,zI 0)]) (ow':=[]) zb5 bR) ?_)
 refine dA (fun r s=>∃i:Nat,i<=L.length/\r=L.length-i/\s=⟨[(5,zI (arS (L.take i):Nat)),(6,dM (L.map nn)),(7,zI (i:Nat))],[]⟩) (m:=L.length) ⟨0,aZ _,rfl,rfl⟩ fun r s hs=>?_;obtain⟨i,hi,rfl,rfl⟩:=hs;by_cases hil:i<L.length
 ·obtain⟨l,hl⟩:=get_some hil;have hl2:(L.map nn)[i]?=some (nn l):=by rw[eg,hl];rfl
  have hll:=hrow l (eN hl);have AR:=BJ l hll;have hsn:arS (L.take (i+1))=arS (L.take i)+arL l:=by rw[eR hl,tc]
  have hb1:=vY (L:=L.take i) fun x hx=>hrow x (uY hx);rw[bf]at hb1;have hb2:=vZ hll;have hAL:arr l l.length=arL l:=rfl;rw[hAL]at AR;have hb3:arS (L.take i)<=2313441*4096:=aE hb1 (cE _ aa);obtain⟨A,hA⟩:∃A,A=arS (L.take i):=⟨_,rfl⟩;rw[<-hA]at hsn hb3;rw[<-hA];generalize arL l=B at*;clear hA hb1 hAL hrow;refine ke ?_;refine cZ ?_;refine zs3 ?_;refine qZ ?_;refine pA ?_;refine zs21 ?_;refine np ?_;refine da ?_;refine cL ?_;simp only[nx];exact⟨L.length-(i+1),_,by omega,(bn (sl':=[(5,zI ((A+B:Nat):Int)),(6,dM (L.map nn)),(7,zI ((i+1:Nat):Int))]) (ow':=[]) zb5 bR),i+1,by omega,rfl,by rw[hsn]⟩
 ·obtain rfl:i=L.length:=by omega
  rw[il];generalize arS L=A at*;refine zs1 ?_;refine pw ?_;refine aM ?_;refine kd ?_;refine zs1 ?_;exact⟨_,Sh.refl,.one (.tmp 4) _ rfl (.tmp 4 rfl)⟩
end DW
end
section
open Go.RowKit
namespace DW
def rnS(l:List Nat):Nat->Nat
 |0=>0
 |i+1=>if 0<i/\l.getD (i-1) 0≠l.getD i 0 then 1 else rnS l i+1
def rnW(l:List Nat):Nat->Nat
 |0=>1
 |i+1=>(if 0<l.getD i 0 then rnW l i*2 else rnW l i)*(i+1)/rnS l (i+1)
theorem Al:∀(l:List Nat),l.length<=4->l.Pairwise (fun a b=>b<=a)->rnW l l.length=arL l
 |[],_,_=>rfl
 |[a],_,_=>by
  by_cases h:a=0
  ·subst h;rfl
  ·simp[arL,arr,eqs,rnW,rnS,h,fR h]
 |[a,b],_,hd=>by
  simp at hd;by_cases h1:a=b
  ·subst h1;by_cases h:a=0
   ·subst h;rfl
   ·simp[arL,arr,eqs,rnW,rnS,h,fR h]
  ·have ha:a≠0:=by omega
   by_cases h:b=0
   ·subst h;simp[arL,arr,eqs,rnW,rnS,h1,fR ha]
   ·simp[arL,arr,eqs,rnW,rnS,h1,ha,h,fR ha,fR h]
 |[a,b,c],_,hd=>by
  simp at hd;have e1:¬a=b->a≠0:=by omega
  have e2:¬b=c->b≠0:=by omega
  have e3:¬b=c->¬a=c:=by omega
  have e4:¬a=b->¬a=c:=by omega
  by_cases h1:a=b<;>by_cases h2:b=c<;>by_cases h:c=0;all_goals simp_all [arL,arr,eqs,rnW,rnS,Nat.pos_iff_ne_zero]
 |[a,b,c,d],_,hd=>by
  simp at hd;have e1:¬a=b->a≠0/\¬a=c/\¬a=d:=by omega
  have e2:¬b=c->b≠0/\a≠0/\¬a=c/\¬a=d/\¬b=d:=by omega
  have e3:¬c=d->c≠0/\b≠0/\a≠0/\¬a=d/\¬b=d:=by omega
  by_cases h1:a=b<;>by_cases h2:b=c<;>by_cases h3:c=d<;>by_cases h:d=0;all_goals simp_all [arL,arr,eqs,rnW,rnS,Nat.pos_iff_ne_zero]
 |_::_::_::_::_::_,h,_=>by simp at h
theorem wX(l:List Nat):∀i,i<=4->rnW l i<=8^i
 |0,_=>ai _
 |i+1,h=>by
  have h1:=wX l i aa;unfold rnW;refine aE (fG _ _) ?_;rw[bT];have h2:(if 0<l.getD i 0 then rnW l i*2 else rnW l i)<=8^i*2:=by split<;>omega
  refine aE (bF h2 (by omega:i+1<=4)) ?_;omega
theorem wY(l:List Nat):∀i,rnS l i<=i
 |0=>ai _
 |i+1=>by
  have:=wY l i;unfold rnS;split<;>omega
set_option maxRecDepth 20000
set_option maxHeartbeats 2000000
theorem yB(K n:Int)(L:List (List Nat))(hlen:L.length<=2313441)(hrow:∀l∈L,l.length<=4)(hdesc:∀l∈L,l.Pairwise (fun a b=>b<=a))(SQ:Fn Tryz.prog 55 [zI K,zI n] (.tp [dM (L.map nn),zI 0])):Fn Tryz.prog 56 [zI K,zI n] (.tp [zI (arS L:Nat),zI 0]):=by
 have hLn:(L.map nn).length=L.length:=bu ..;refine cR Tryz.func56 aD rfl rfl rfl fun X0=>?_;simp only[bC];refine zs1 ?_;refine uz ?_;refine zs1 ?_;refine pr ?_;refine zs1 ?_;refine uy ?_;refine aM ?_;refine cB ?_;refine zs86 ?_;refine zs1 ?_;rw[hLn];clear SQ
 (refine eP (bn (sl':=[(8,zI 0),(24,dM (L.map nn)),(25,zI L.length),(26,zI 0)]) (ow':=[]) zb5 bR) ?_)
 refine dA (fun r s=>∃i:Nat,i<=L.length/\r=L.length-i/\s=⟨[(8,zI (arS (L.take i):Nat)),(24,dM (L.map nn)),(25,zI L.length),(26,zI (i:Nat))],[]⟩) (m:=L.length) ⟨0,aZ _,rfl,rfl⟩ fun r s hs=>?_;obtain⟨i,hi,rfl,rfl⟩:=hs;by_cases hil:i<L.length
 ·obtain⟨l,hl⟩:=get_some hil;have hl2:(L.map nn)[i]?=some (nn l):=by rw[eg,hl];rfl
  have hll:=hrow l (eN hl);have hfin:=Al l hll (hdesc l (eN hl));have hsn:arS (L.take (i+1))=arS (L.take i)+arL l:=by rw[eR hl,tc]
  have hb1:=vY (L:=L.take i) fun x hx=>hrow x (uY hx);rw[bf]at hb1;have hb2:=vZ hll;have hb3:arS (L.take i)<=2313441*4096:=aE hb1 (cE _ aa);have hget:∀k,k<l.length->(nn l)[k]?=some ((l.getD k 0:Nat):Int):=fun k hk=>by
   obtain⟨c,hc⟩:=get_some hk;rw[xi hc,bg,hc];rfl
  have hnl:=lK l;obtain⟨A,hA⟩:∃A,A=arS (L.take i):=⟨_,rfl⟩;rw[<-hA]at hsn hb3;rw[<-hA];clear hA hb1 hrow hdesc;refine zs1 ?_;refine ux ?_;refine aX ?_;refine gar ?_;refine qZ ?_;refine pA ?_;refine da ?_;refine uz ?_;refine zs1 ?_;refine zs86 ?_;refine zs1 ?_
  (refine eP (bn (sl':=[(8,zI (A:Nat)),(10,dI (nn l)),(11,zI 1),(12,zI 0),(24,dM (L.map nn)),(25,zI L.length),(26,zI (i:Nat)),(30,dI (nn l)),(31,zI (nn l).length),(32,zI 0)]) (ow':=[]) zb5 bR) ?_)
  refine dA (fun r s=>∃k:Nat,k<=l.length/\r=l.length-k/\s=⟨[(8,zI (A:Nat)),(10,dI (nn l)),(11,zI (rnW l k:Nat)),(12,zI (rnS l k:Nat)),(24,dM (L.map nn)),(25,zI L.length),(26,zI (i:Nat)),(30,dI (nn l)),(31,zI (nn l).length),(32,zI (k:Nat))],[]⟩) (m:=l.length) ⟨0,aZ _,rfl,rfl⟩ fun r s hs=>?_;obtain⟨k,hk,rfl,rfl⟩:=hs;by_cases hkl:k<l.length
  ·have hgk:=hget k hkl;have bw:=aE (wX l k aa) (cv (by decide:0<8) (by omega:k<=4));rw[show(8:Nat)^4=4096 from rfl]at bw;have bs:=wY l k;have hst0:rnS l (k+1)=if 0<k/\l.getD (k-1) 0≠l.getD k 0 then 1 else rnS l k+1:=rfl
   have hwt0:rnW l (k+1)=(if 0<l.getD k 0 then rnW l k*2 else rnW l k)*(k+1)/rnS l (k+1):=rfl;obtain⟨v,hv⟩:∃v,v=l.getD k 0:=⟨_,rfl⟩;obtain⟨W,hW⟩:∃W,W=rnW l k:=⟨_,rfl⟩;obtain⟨s,hs⟩:∃s,s=rnS l k:=⟨_,rfl⟩;rw[<-hv]at hgk hst0 hwt0;rw[<-hW]at bw hwt0;rw[<-hs]at bs hst0;rw[<-hW,<-hs];obtain⟨V,hV⟩:∃V,V=if 0<v then W*2 else W:=⟨_,rfl⟩
   rw[<-hV]at hwt0;have bV:V<=8192:=by rw[hV];split<;>omega
   have hmm:V*(k+1)<=8192*4:=bF bV aa;have hmi:(V:Int)*((k:Int)+1)=((V*(k+1):Nat):Int):=by rw[fC,qK];rfl
   clear hW hs;by_cases hnew:0<k/\l.getD (k-1) 0≠v
   ·rw[aB hnew]at hst0;rw[hst0]at hwt0;obtain⟨Q,hQ⟩:∃Q,Q=V*(k+1)/1:=⟨_,rfl⟩;have hq:(V:Int)*((k:Int)+1)/1=((Q:Nat):Int):=by rw[hmi,hQ];exact mI _ 1
    have hQb:Q<=V*(k+1):=by rw[hQ];exact fG _ _
    have hwt:rnW l (k+1)=Q:=by rw[hwt0,hQ]
    have hst:rnS l (k+1)=1:=hst0;have hkm:(k:Int)-1=((k-1:Nat):Int):=by omega
    have hgp:=hget (k-1) aa;obtain⟨u,hu⟩:∃u,u=l.getD (k-1) 0:=⟨_,rfl⟩;rw[<-hu]at hgp hnew;have hnd:(!decide ((u:Int)=(v:Int)))=true:=by rw[aN aa];rfl
    have hk0:decide ((k:Int)>0)=true:=aF aa;clear hst0 hwt0 hu hget hfin;by_cases hv0:0<v
    ·rw[aB hv0]at hV;have hW2:(W:Int)*2=((V:Nat):Int):=by omega
     clear hv;refine mq ?_;refine aX ?_;refine uA ?_;refine zs1 ?_;rw[hW2];refine zs1 ?_;refine cL ?_;refine uw ?_;refine aX ?_;refine cB ?_;refine pq ?_;refine zs1 ?_
     (first|rw[hq]|rw[<-hQ])
     refine mj ?_;simp only[nx];exact⟨l.length-(k+1),_,by omega,(bn (sl':=[(8,zI (A:Nat)),(10,dI (nn l)),(11,zI (Q:Nat)),(12,zI 1),(24,dM (L.map nn)),(25,zI L.length),(26,zI (i:Nat)),(30,dI (nn l)),(31,zI (nn l).length),(32,zI ((k+1:Nat):Int))]) (ow':=[]) zb5 bR),k+1,by omega,rfl,by rw[hst,hwt];rfl⟩
    ·rw[an hv0]at hV;subst hV;clear hv;refine mq ?_;refine aM ?_;refine cL ?_;refine uw ?_;refine aX ?_;refine cB ?_;refine pq ?_;refine zs1 ?_
     (first|rw[hq]|rw[<-hQ])
     refine mj ?_;simp only[nx];exact⟨l.length-(k+1),_,by omega,(bn (sl':=[(8,zI (A:Nat)),(10,dI (nn l)),(11,zI (Q:Nat)),(12,zI 1),(24,dM (L.map nn)),(25,zI L.length),(26,zI (i:Nat)),(30,dI (nn l)),(31,zI (nn l).length),(32,zI ((k+1:Nat):Int))]) (ow':=[]) zb5 bR),k+1,by omega,rfl,by rw[hst,hwt];rfl⟩
   ·rw[an hnew]at hst0;rw[hst0]at hwt0;obtain⟨Q,hQ⟩:∃Q,Q=V*(k+1)/(s+1):=⟨_,rfl⟩;have hq:(V:Int)*((k:Int)+1)/((s:Int)+1)=((Q:Nat):Int):=by rw[hmi,hQ];exact mI _ (s+1)
    have hQb:Q<=V*(k+1):=by rw[hQ];exact fG _ _
    have hwt:rnW l (k+1)=Q:=by rw[hwt0,hQ]
    have hst:rnS l (k+1)=s+1:=hst0;clear hst0 hwt0 hQ hfin;by_cases hk1:0<k
    ·have hkm:(k:Int)-1=((k-1:Nat):Int):=by omega
     have hgp:=hget (k-1) aa;obtain⟨u,hu⟩:∃u,u=l.getD (k-1) 0:=⟨_,rfl⟩;rw[<-hu]at hgp hnew;have huv:u=v:=by
      by_cases h:u=v
      ·exact h
      ·exact absurd ⟨hk1,h⟩ hnew
     have hnd:(!decide ((u:Int)=(v:Int)))=false:=by rw[aF aa];rfl
     have hk0:decide ((k:Int)>0)=true:=aF aa;clear hu hget huv hnew;by_cases hv0:0<v
     ·rw[aB hv0]at hV;have hW2:(W:Int)*2=((V:Nat):Int):=by omega
      clear hv;refine mq ?_;refine aX ?_;refine uA ?_;refine zs1 ?_;rw[hW2];refine zs1 ?_;refine cL ?_;refine uw ?_;refine aM ?_;refine pq ?_;refine zs1 ?_;rw[hq];refine mj ?_;simp only[nx];exact⟨l.length-(k+1),_,by omega,(bn (sl':=[(8,zI (A:Nat)),(10,dI (nn l)),(11,zI (Q:Nat)),(12,zI ((s:Int)+1)),(24,dM (L.map nn)),(25,zI L.length),(26,zI (i:Nat)),(30,dI (nn l)),(31,zI (nn l).length),(32,zI ((k+1:Nat):Int))]) (ow':=[]) zb5 bR),k+1,by omega,rfl,by rw[hst,hwt];rfl⟩
     ·rw[an hv0]at hV;subst hV;clear hv;refine mq ?_;refine aM ?_;refine cL ?_;refine uw ?_;refine aM ?_;refine pq ?_;refine zs1 ?_;rw[hq];refine mj ?_;simp only[nx];exact⟨l.length-(k+1),_,by omega,(bn (sl':=[(8,zI (A:Nat)),(10,dI (nn l)),(11,zI (Q:Nat)),(12,zI ((s:Int)+1)),(24,dM (L.map nn)),(25,zI L.length),(26,zI (i:Nat)),(30,dI (nn l)),(31,zI (nn l).length),(32,zI ((k+1:Nat):Int))]) (ow':=[]) zb5 bR),k+1,by omega,rfl,by rw[hst,hwt];rfl⟩
    ·have hk0:decide ((k:Int)>0)=false:=aN aa;clear hget hnew;by_cases hv0:0<v
     ·rw[aB hv0]at hV;have hW2:(W:Int)*2=((V:Nat):Int):=by omega
      clear hv;refine mq ?_;refine aX ?_;refine uA ?_;refine zs1 ?_;rw[hW2];refine zs1 ?_;refine cL ?_;refine zs92 ?_;refine aM ?_;refine pq ?_;refine zs1 ?_;rw[hq];refine mj ?_;simp only[nx];exact⟨l.length-(k+1),_,by omega,(bn (sl':=[(8,zI (A:Nat)),(10,dI (nn l)),(11,zI (Q:Nat)),(12,zI ((s:Int)+1)),(24,dM (L.map nn)),(25,zI L.length),(26,zI (i:Nat)),(30,dI (nn l)),(31,zI (nn l).length),(32,zI ((k+1:Nat):Int))]) (ow':=[]) zb5 bR),k+1,by omega,rfl,by rw[hst,hwt];rfl⟩
     ·rw[an hv0]at hV;subst hV;clear hv;refine mq ?_;refine aM ?_;refine cL ?_;refine zs92 ?_;refine aM ?_;refine pq ?_;refine zs1 ?_;rw[hq];refine mj ?_;simp only[nx];exact⟨l.length-(k+1),_,by omega,(bn (sl':=[(8,zI (A:Nat)),(10,dI (nn l)),(11,zI (Q:Nat)),(12,zI ((s:Int)+1)),(24,dM (L.map nn)),(25,zI L.length),(26,zI (i:Nat)),(30,dI (nn l)),(31,zI (nn l).length),(32,zI ((k+1:Nat):Int))]) (ow':=[]) zb5 bR),k+1,by omega,rfl,by rw[hst,hwt];rfl⟩
  ·obtain rfl:k=l.length:=by omega
   rw[hfin];generalize arL l=B at*;generalize rnS l l.length=S at*;clear hget hfin;refine zs1 ?_;refine ux ?_;refine aM ?_;refine cZ ?_;refine np ?_;refine da ?_;refine zs91 ?_;refine zs1 ?_;simp only[nx];exact⟨L.length-(i+1),_,by omega,(bn (sl':=[(8,zI ((A+B:Nat):Int)),(24,dM (L.map nn)),(25,zI L.length),(26,zI ((i+1:Nat):Int))]) (ow':=[]) zb5 bR),i+1,by omega,rfl,by rw[hsn]⟩
 ·obtain rfl:i=L.length:=by omega
  rw[il];generalize arS L=A at*;refine zs1 ?_;refine ux ?_;refine aM ?_;refine bN ?_;refine zs8 ?_;refine nq ?_;refine aS ?_;refine zs1 ?_;exact⟨_,Sh.refl,.two (.tmp 4) (.tmp 5) _ _ rfl (.tmp 4 rfl) (.tmp 5 rfl)⟩
end DW
end
end Go.Proofs.YtepdigdijecgpaaGreat
