/- Lemmas for the law: E84 E40 E45 E85 E18 -/
import Derived.Test.YtcgjmdpcplhanaaGreatZv7
namespace Go.Proofs.YtcgjmdpcplhanaaGreat
section
abbrev xV:=@List.eraseIdx_of_length_le
theorem na{p q:Prop}(h:q)(f:Wq q->p:=by(intro hW;(refine gar ?_;refine vg ?_;refine zs3 ?_;refine ba ?_);exact hW.out)):p:=f ⟨h⟩
theorem Ih{p q:Prop}(h:q)(f:Wq q->p:=by(intro hW;(refine cf ?_;refine kE ?_;refine fK ?_;refine xC ?_;refine qj ?_;refine ba ?_);exact hW.out)):p:=f ⟨h⟩
theorem zs85{p q:Prop}(h:q)(f:Wq q->p:=by(intro hW;(refine aL1 rfl rfl rfl (by(apply oI;(exact rfl);(focus((apply aw;(conv=>lhs;whnf);(first|done|exact rfl))));(exact bW);(exact rfl);(exact rfl);(assumption);(exact rfl))) ?_);exact hW.out)):p:=f ⟨h⟩
theorem zs86{p q:Prop}(h:q)(f:Wq q->p:=by(intro hW;(refine aL1 rfl rfl rfl (by(apply oI;(exact rfl);(focus((apply aw;(conv=>lhs;whnf);(first|done|exact rfl))));(focus((first|exact op_zero|exact rfl)));(exact rfl);(exact rfl);(assumption);(exact rfl))) ?_);exact hW.out)):p:=f ⟨h⟩
theorem zs83{p q:Prop}(h:q)(f:Wq q->p:=by(intro hW;(refine aL1 rfl rfl rfl (by(apply Fz;(exact rfl);(exact bW))) ?_);exact hW.out)):p:=f ⟨h⟩
theorem oS{p q:Prop}(h:q)(f:Wq q->p:=by(intro hW;(refine gn ?_;refine zs83 ?_;refine ba ?_);exact hW.out)):p:=f ⟨h⟩
theorem Ii{p q:Prop}(h:q)(f:Wq q->p:=by(intro hW;(refine ct ?_;refine kE ?_;refine fK ?_;refine zs5 ?_;refine dJ ?_);exact hW.out)):p:=f ⟨h⟩
theorem rJ{p q:Prop}(h:q)(f:Wq q->p:=by(intro hW;(refine gar ?_;refine nI ?_;refine nI ?_;refine ba ?_);exact hW.out)):p:=f ⟨h⟩
theorem BA{p q:Prop}(h:q)(f:Wq q->p:=by(intro hW;(refine gn ?_;refine zs3 ?_;refine zs4 ?_;refine xE ?_;refine dJ ?_);exact hW.out)):p:=f ⟨h⟩
theorem zs84{p q:Prop}(h:q)(f:Wq q->p:=by(intro hW;(refine aL1 rfl rfl rfl zb14 ?_);exact hW.out)):p:=f ⟨h⟩
theorem Ij{p q:Prop}(h:q)(f:Wq q->p:=by(intro hW;(refine gar ?_;refine mq ?_;refine ba ?_);exact hW.out)):p:=f ⟨h⟩
theorem oP{p q:Prop}(h:q)(f:Wq q->p:=by(intro hW;(refine zs1 ?_;refine Ij ?_;refine bG ?_);exact hW.out)):p:=f ⟨h⟩
theorem iB{p q:Prop}(h:q)(f:Wq q->p:=by(intro hW;(refine jJ ?_;refine jg ?_;refine bG ?_);exact hW.out)):p:=f ⟨h⟩
theorem kZ{p q:Prop}(h:q)(f:Wq q->p:=by(intro hW;(refine zs1 ?_;refine Ij ?_;refine bU ?_);exact hW.out)):p:=f ⟨h⟩
end
section
open Go.RowKit
namespace DW
def tm(g:Mx.Mat)(v:List Int)(a b:Nat):Int:=v.getD a 0*Mx.at' g a b*v.getD b 0
def qs(g:Mx.Mat)(v:List Int)(n i k:Nat):Int:=Mx.sm i (fun a=>Mx.sm n (tm g v a))+Mx.sm k (tm g v i)
def qv(g:Mx.Mat)(v:List Int):Int:=Mx.sm v.length fun a=>Mx.sm v.length (tm g v a)
structure VOk(g:Mx.Mat)(v:List Int)(n:Nat):Prop where
 n4:n<=4
 gl:g.length=n
 gr:Mx.Rc n g
 vl:v.length=n
 gb:∀i j,(Mx.at' g i j).natAbs<=1000000
 vb:∀x∈v,x.natAbs<=100000
theorem Ja{X:Nat}{row:List Int}(h:∀x∈row,x.natAbs<=X)(j:Nat):(row.getD j 0).natAbs<=X:=by
 rw[aF]
 cases hg:row[j]? with
 |none=>exact aO _
 |some x=>exact h x (bh hg)
theorem um{B:Nat}{f:Nat->Int}:∀n,(∀k,k<n->(f k).natAbs<=B)->(Mx.sm n f).natAbs<=n*B
 |0,_=>by show(0:Int).natAbs<=_;simp
 |n+1,h=>by
  have h1:=um n fun k hk=>h k aa;have h2:=h n aa;show(Mx.sm n f+f n).natAbs<=_;have:=Int.natAbs_add_le (Mx.sm n f) (f n);rw[bC];omega
section
variable {g : Mx.Mat} {v : List Int} {n : Nat} (h : VOk g v n)
include h
theorem VOk.tb(a b:Nat):(tm g v a b).natAbs<=10000000000000000:=by
 unfold tm;rw[eL,eL];exact bZ (bZ (Ja h.vb a) (h.gb a b)) (Ja h.vb b)
theorem VOk.qb{i k:Nat}(hi:i<=n)(hk:k<=n):(qs g v n i k).natAbs<=200000000000000000:=by
 have h4:=h.n4;have h1:=um (B:=n*10000000000000000) i fun a _=>um (f:=tm g v a) n fun b _=>h.tb a b;have h2:=um (f:=tm g v i) k fun b _=>h.tb i b;have h3:i*(n*10000000000000000)<=4*(4*10000000000000000):=bZ aa aa;have h5:k*10000000000000000<=4*10000000000000000:=bZ aa (af _);unfold qs;have:=Int.natAbs_add_le (Mx.sm i fun a=>Mx.sm n (tm g v a)) (Mx.sm k (tm g v i));omega
theorem VOk.row{i:Nat}(hi:i<n):∃x r,v[i]?=some x/\g[i]?=some r/\r.length=n/\x.natAbs<=100000/\∀k,k<n->∃z y,r[k]?=some z/\v[k]?=some y/\z.natAbs<=1000000/\y.natAbs<=100000/\tm g v i k=x*z*y:=by
 obtain⟨x,hx⟩:=get_some (m:=v) (k:=i) (by rw[h.vl];exact hi);obtain⟨r,hr⟩:=get_some (m:=g) (k:=i) (by rw[h.gl];exact hi);have hrl:=h.gr r (bh hr);refine⟨x,r,hx,hr,hrl,h.vb x (bh hx),fun k hk=>?_⟩;obtain⟨z,hz⟩:=get_some (m:=r) (k:=k) aa;obtain⟨y,hy⟩:=get_some (m:=v) (k:=k) (by rw[h.vl];exact hk);have ez:Mx.at' g i k=z:=by
  unfold Mx.at';rw[Mx.cX hr,aF,hz];rfl
 have hzb:=h.gb i k;rw[ez]at hzb;refine⟨z,y,hz,hy,hzb,h.vb y (bh hy),?_⟩;unfold tm;rw[ez,aF,aF,hx,hy];rfl
end
set_option maxRecDepth 20000
set_option maxHeartbeats 1000000
theorem tf(g:Mx.Mat)(v:List Int)(n:Nat)(h:VOk g v n):Fn Tryz.prog 129 [dM g,dI v] (zI (qv g v)):=by
 have hn:=h.n4;have hvl:=h.vl;refine bq Tryz.func129 ak rfl rfl rfl fun X0=>?_;simp only[aQ];refine cD ?_;refine ew ?_;refine oS ?_;refine zs1 ?_
 (refine aI (av (sl':=[(0,dM g),(1,dI v),(5,zI 0),(10,dI v),(11,zI v.length),(12,zI 0)]) (ow':=[]) aE aH) ?_)
 refine aX (fun r s=>∃i,i<=n/\r=n-i/\s=⟨[(0,dM g),(1,dI v),(5,zI (qs g v n i 0)),(10,dI v),(11,zI v.length),(12,zI (i:Nat))],[]⟩) (m:=n) ⟨0,aO _,rfl,rfl⟩ fun r s hs=>?_;obtain⟨i,hi,rfl,rfl⟩:=hs;by_cases hil:i<n
 ·obtain⟨x,r,hx,hr,hrl,hxb,hk⟩:=h.row hil;obtain⟨Q,hQ⟩:∃Q,Q=qs g v n i 0:=⟨_,rfl⟩;rw[<-hQ];refine kZ ?_;refine Ii ?_;refine zs1 ?_;refine oS ?_;refine zs1 ?_;rw[hQ];clear hQ Q
  (refine aI (av (sl':=[(0,dM g),(1,dI v),(5,zI (qs g v n i 0)),(6,zI (i:Nat)),(7,zI x),(10,dI v),(11,zI v.length),(12,zI (i:Nat)),(17,dI v),(18,zI v.length),(19,zI 0)]) (ow':=[]) aE aH) ?_)
  refine aX (fun rr s=>∃k,k<=n/\rr=n-k/\s=⟨[(0,dM g),(1,dI v),(5,zI (qs g v n i k)),(6,zI (i:Nat)),(7,zI x),(10,dI v),(11,zI v.length),(12,zI (i:Nat)),(17,dI v),(18,zI v.length),(19,zI (k:Nat))],[]⟩) (m:=n) ⟨0,aO _,rfl,rfl⟩ fun rr s hs=>?_;obtain⟨k,hkn,rfl,rfl⟩:=hs;by_cases hkl:k<n
  ·obtain⟨z,y,hz,hy,hzb,hyb,ht⟩:=hk k hkl;have hqb:=h.qb hi hkn;have hqe:qs g v n i (k+1)=qs g v n i k+x*z*y:=by rw[<-ht];exact(Int.add_assoc ..).symm
   have hb1:(x*z).natAbs<=100000*1000000:=by rw[eL];exact bZ hxb hzb
   have hb2:(x*z*y).natAbs<=100000*1000000*100000:=by rw[eL];exact bZ hb1 hyb
   obtain⟨Q,hQ⟩:∃Q,Q=qs g v n i k:=⟨_,rfl⟩;rw[<-hQ]at hqb hqe;rw[<-hQ];clear hQ hk ht;refine kZ ?_;refine Ii ?_;refine zs1 ?_;refine cf ?_;refine zs3 ?_;refine jM ?_;refine jM ?_;refine zs84 ?_;refine zs3 ?_;refine zs84 ?_;refine sL ?_;refine cJ ?_;refine na ?_;refine zs1 ?_;simp only[nx];exact⟨n-(k+1),_,by omega,(av (sl':=[(0,dM g),(1,dI v),(5,zI (Q+x*z*y)),(6,zI (i:Nat)),(7,zI x),(10,dI v),(11,zI v.length),(12,zI (i:Nat)),(17,dI v),(18,zI v.length),(19,zI ((k+1:Nat):Int))]) (ow':=[]) aE aH),k+1,by omega,rfl,by rw[hqe]⟩
  ·obtain rfl:k=n:=by omega
   have hqe:qs g v k (i+1) 0=qs g v k i k:=fZ _;obtain⟨Q,hQ⟩:∃Q,Q=qs g v k i k:=⟨_,rfl⟩;rw[<-hQ]at hqe;rw[<-hQ];clear hQ hk;refine oP ?_;refine na ?_;refine zs1 ?_;simp only[nx];exact⟨k-(i+1),_,by omega,(av (sl':=[(0,dM g),(1,dI v),(5,zI Q),(10,dI v),(11,zI v.length),(12,zI ((i+1:Nat):Int))]) (ow':=[]) aE aH),i+1,by omega,rfl,by rw[hqe]⟩
 ·obtain rfl:i=n:=by omega
  have EC:qs g v i i 0=qv g v:=by
   unfold qv;rw[hvl];exact fZ _
  rw[EC];generalize qv g v=Q;clear EC;refine oP ?_;refine jd ?_;exact⟨_,Sh.refl,.one (.tmp 4) _ rfl (.tmp 4 rfl)⟩
theorem yy(g:Mx.Mat)(v:List Int)(n:Nat)(h:VOk g v n):Fn Tryz.prog 63 [dM g,dI v] (zI (qv g v)):=by
 have hn:=h.n4;have hvl:=h.vl;refine bq Tryz.func63 ak rfl rfl rfl fun X0=>?_;simp only[aQ];refine cD ?_;refine BJ ?_;refine cD ?_
 (refine aI (av (sl':=[(0,dM g),(1,dI v),(5,zI 0),(6,zI 0)]) (ow':=[]) aE aH) ?_)
 refine aX (fun r s=>∃i,i<=n/\r=n-i/\s=⟨[(0,dM g),(1,dI v),(5,zI (qs g v n i 0)),(6,zI (i:Nat))],[]⟩) (m:=n) ⟨0,aO _,rfl,rfl⟩ fun r s hs=>?_;obtain⟨i,hi,rfl,rfl⟩:=hs;by_cases hil:i<n
 ·obtain⟨x,r,hx,hr,hrl,hxb,hk⟩:=h.row hil;obtain⟨Q,hQ⟩:∃Q,Q=qs g v n i 0:=⟨_,rfl⟩;rw[<-hQ];refine cC ?_;refine ew ?_;rw[hQ];clear hQ Q
  (refine aI (av (sl':=[(0,dM g),(1,dI v),(5,zI (qs g v n i 0)),(6,zI (i:Nat)),(7,zI 0)]) (ow':=[]) aE aH) ?_)
  refine aX (fun rr s=>∃k,k<=n/\rr=n-k/\s=⟨[(0,dM g),(1,dI v),(5,zI (qs g v n i k)),(6,zI (i:Nat)),(7,zI (k:Nat))],[]⟩) (m:=n) ⟨0,aO _,rfl,rfl⟩ fun rr s hs=>?_;obtain⟨k,hkn,rfl,rfl⟩:=hs;by_cases hkl:k<n
  ·obtain⟨z,y,hz,hy,hzb,hyb,ht⟩:=hk k hkl;have hqb:=h.qb hi hkn;have hqe:qs g v n i (k+1)=qs g v n i k+x*z*y:=by rw[<-ht];exact(Int.add_assoc ..).symm
   have hb1:(x*z).natAbs<=100000*1000000:=by rw[eL];exact bZ hxb hzb
   have hb2:(x*z*y).natAbs<=100000*1000000*100000:=by rw[eL];exact bZ hb1 hyb
   obtain⟨Q,hQ⟩:∃Q,Q=qs g v n i k:=⟨_,rfl⟩;rw[<-hQ]at hqb hqe;rw[<-hQ];clear hQ hk ht;refine cC ?_;((first|(apply ao 19;(focus kernel_rfl);(decide+kernel))|(apply ao 18;(focus kernel_rfl);(decide+kernel))|(apply ao 17;(focus kernel_rfl);(decide+kernel))|(apply ao 16;(focus kernel_rfl);(decide+kernel))|(apply ao 15;(focus kernel_rfl);(decide+kernel))|(apply ao 14;(focus kernel_rfl);(decide+kernel))|(apply ao 13;(focus kernel_rfl);(decide+kernel))|(apply ao 12;(focus kernel_rfl);(decide+kernel)));simp only[eZ,eE,fF,eO]);refine fJ ?_;refine kW ?_;refine kW ?_;refine oQ ?_;refine zs69 ?_;refine kW ?_;refine zs69 ?_;refine zs70 ?_;refine sO ?_;refine gS ?_;refine je ?_;simp only[nx];exact⟨n-(k+1),_,by omega,(av (sl':=[(0,dM g),(1,dI v),(5,zI (Q+x*z*y)),(6,zI (i:Nat)),(7,zI ((k+1:Nat):Int))]) (ow':=[]) aE aH),k+1,by omega,rfl,by rw[hqe]⟩
  ·obtain rfl:k=n:=by omega
   have hqe:qs g v k (i+1) 0=qs g v k i k:=fZ _;obtain⟨Q,hQ⟩:∃Q,Q=qs g v k i k:=⟨_,rfl⟩;rw[<-hQ]at hqe;rw[<-hQ];clear hQ hk;refine dH ?_;refine jf ?_;simp only[nx];exact⟨k-(i+1),_,by omega,(av (sl':=[(0,dM g),(1,dI v),(5,zI Q),(6,zI ((i+1:Nat):Int))]) (ow':=[]) aE aH),i+1,by omega,rfl,by rw[hqe]⟩
 ·obtain rfl:i=n:=by omega
  have EC:qs g v i i 0=qv g v:=by
   unfold qv;rw[hvl];exact fZ _
  rw[EC];generalize qv g v=Q;clear EC;refine dH ?_;refine jd ?_;exact⟨_,Sh.refl,.one (.tmp 4) _ rfl (.tmp 4 rfl)⟩
end DW
end
section
open Go.RowKit
namespace DW
theorem bd_of{X:Nat}{M:Mx.Mat}(h:∀l∈M,∀x∈l,x.natAbs<=X):Mx.Bd X M:=fun i j=>by
 rcases at_mem M i j with h1|⟨r,hr,hz⟩
 ·rw[h1];exact aO _
 ·exact h r hr _ hz
structure Mk(n:Nat)(M:Mx.Mat)(z:Int):Prop where
 n0:0<n
 n5:n<=5
 len:M.length<=64
 rc:Mx.Rc n M
 bd:Mx.Bd (2^600) M
 z0:0<z
 zb:z.natAbs<=2^600
theorem Mk.red{n:Nat}{M:Mx.Mat}{z:Int}(h:Mk n M z):Mx.Bd (2^(600*11^n)) (Mx.red n 0 (0,M)).2:=by
 have:=Mx.ED (n:=n) (e:=600) aa n 0 0 M h.rc (by rw[Nat.pow_zero,gV];exact h.bd);rw[bQ]at this;exact this
set_option maxRecDepth 20000
set_option maxHeartbeats 2000000
end DW
end
section
open Go.RowKit
namespace DW
set_option maxRecDepth 20000
set_option maxHeartbeats 2000000
theorem uW(g:Nat)(p:Int->Bool)(l:List Int)(hl:l.length<=1000000000)(hg:∀z,Fn Tryz.prog g [zI z] (.sc (.bool (p z)))):Fn Tryz.prog 89 [dI l,dFn g] (.sc (.bool (l.any p))):=by
 refine⟨enters_of Tryz.func89 ak rfl,fun X w vs hX hv=>?_⟩;simp only[ATp]at hv;obtain⟨v1,r1,e1,h1,v2,r2,e2,h2,rfl⟩:=hv;simp only[AR]at h2;obtain⟨rfl,_⟩:=h2;subst e2;obtain⟨a,c,rfl,_,hz⟩:=vY h1;have:vs= #[.slice a l.length c,.func (.func g) #[] #[]]:=dp.1 e1;subst this;refine(zO l a c hl g p (hg 0).1 (fun x w=>?_) w hz).mono fun e w' ⟨h1,h2⟩=>⟨_,h1,by simp only[AR];exact⟨trivial,rfl⟩,h2⟩;refine((hg x).2 (fun _=>False) w #[.int .i64 x] (fun _ h=>h.elim) (by simp only[ATp];exact⟨_,[],rfl,vZ x,rfl⟩)).mono fun e w' ⟨u,k1,k2,k3⟩=>⟨?_,k3⟩;simp only[AR]at k2;rw[k1,k2.1]
end DW
end
section
open Go.RowKit
namespace DW
def cvk(n:Nat)(l:List Int):Int:=if l.length=n then(if l.any (fun z=>!inb 100000 z)=true then 2 else 0)else 9
theorem FA{n:Nat}{l:List Int}(h:cvk n l=0):l.length=n/\∀x∈l,x.natAbs<=100000:=by
 unfold cvk at h;split at h
 ·next h1=>
  refine⟨h1,fun x hx=>?_⟩;split at h
  ·cases h
  ·next h2=>
   have h3:inb 100000 x=true:=by
    cases hb:inb 100000 x with
    |true=>rfl
    |false=>exact absurd (dQ.2 ⟨x,hx,by rw[hb];rfl⟩) h2
   have:=sf.1 h3;omega
 ·cases h
set_option maxRecDepth 20000
set_option maxHeartbeats 1000000
theorem Fm(z:Int):Fn Tryz.prog 128 [zI z] (.sc (.bool (!inb 100000 z))):=by
 have WI:=zf z 100000 aa aa;refine bq Tryz.func128 ak rfl rfl rfl fun X0=>?_;simp only[aQ];refine fR ?_;refine ct ?_;refine zs85 ?_;refine qj ?_;refine cJ ?_;exact⟨_,Sh.refl,.one (.tmp 2) _ rfl (.tmp 2 rfl)⟩
theorem J5(g:Mx.Mat)(l:List Int)(hl:l.length<=1000000):Fn Tryz.prog 61 [dM g,dI l] (zI (cvk g.length l)):=by
 by_cases h1:l.length=g.length
 ·have hg1:(g.length:Int)=(l.length:Int):=by omega
  refine bq Tryz.func61 ak rfl rfl rfl fun X0=>?_;simp only[aQ];refine cD ?_;refine wX ?_;refine bG ?_;refine ew ?_
  (refine aI (av (sl':=[(1,dI l),(5,zI 0)]) (ow':=[]) aE aH) ?_)
  refine aX (fun r s=>∃k,k<=l.length/\r=l.length-k/\(∀z∈l.take k,inb 100000 z=true)/\s=⟨[(1,dI l),(5,zI (k:Nat))],[]⟩) (m:=l.length) ⟨0,aO _,rfl,fun z h=>absurd h aU,rfl⟩ fun r s hs=>?_;obtain⟨k,hk,rfl,hin,rfl⟩:=hs;by_cases hkl:k<l.length
  ·obtain⟨z,hz⟩:=get_some hkl;have WI:Fn Tryz.prog 26 [zI z,zI (-100000),zI 100000] (.sc (.bool (inb 100000 z))):=jr z (-100000) 100000;by_cases hb:inb 100000 z=true
   ·rw[hb]at WI;refine cC ?_;refine Ih ?_;refine gU ?_;simp only[nx];exact⟨l.length-(k+1),_,by omega,(av (sl':=[(1,dI l),(5,zI ((k+1:Nat):Int))]) (ow':=[]) aE aH),k+1,by omega,rfl,fun x hx=>by
     rw[cB hz,de]at hx;rcases hx with hx|hx
     ·exact hin x hx
     ·rw[bV.1 hx];exact hb,rfl⟩
   ·have hb':inb 100000 z=false:=by simpa using hb
    rw[hb']at WI;have EC:cvk g.length l=2:=by
     unfold cvk;rw[aj h1,aj (dQ.2 ⟨z,bh hz,by rw[hb'];rfl⟩)]
    refine cC ?_;refine Ih ?_;refine eN ?_;rw[EC];exact⟨_,Sh.refl,.one (.tmp 4) _ rfl (.tmp 4 rfl)⟩
  ·obtain rfl:k=l.length:=by omega
   rw[fj]at hin;have EC:cvk g.length l=0:=by
    unfold cvk;rw[aj h1,ah];intro h;obtain⟨z,hz,h2⟩:=dQ.1 h;rw[hin z hz]at h2;cases h2
   refine dH ?_;refine ew ?_;rw[EC];exact⟨_,Sh.refl,.one (.tmp 4) _ rfl (.tmp 4 rfl)⟩
 ·have hg1:(!decide ((l.length:Int)=(g.length:Int)))=true:=by rw[aA aa];rfl
  have EC:cvk g.length l=9:=by unfold cvk;rw[ah h1]
  refine bq Tryz.func61 ak rfl rfl rfl fun X0=>?_;simp only[aQ];refine cD ?_;refine wX ?_;refine eN ?_;rw[EC];exact⟨_,Sh.refl,.one (.tmp 4) _ rfl (.tmp 4 rfl)⟩
theorem uG(g:Mx.Mat)(l:List Int)(c:Int)(hc:c≠0)(CG:Fn Tryz.prog 59 [dM g] (zI c)):Fn Tryz.prog 56 [dM g,dI l] (.tp [zI 0,zI c]):=by
 refine bq Tryz.func56 ak rfl rfl rfl fun X0=>?_;simp only[aQ];refine zs1 ?_;refine rJ ?_;refine zs1 ?_;refine jJ ?_;refine jg ?_;refine bU ?_;refine ct ?_;refine nI ?_;refine cJ ?_;exact⟨_,Sh.refl,.two (.tmp 4) (.tmp 5) _ _ rfl (.tmp 4 rfl) (.tmp 5 rfl)⟩
theorem L5(g:Mx.Mat)(l:List Int)(hl:l.length<=1000000)(hc:cvk g.length l≠0)(CG:Fn Tryz.prog 59 [dM g] (zI 0)):Fn Tryz.prog 56 [dM g,dI l] (.tp [zI 0,zI (cvk g.length l)]):=by
 by_cases h1:l.length=g.length
 ·have hg1:(!decide ((l.length:Int)=(g.length:Int)))=false:=by rw[ay aa];rfl
  have AN:=uW 128 (fun z=>!inb 100000 z) l aa Fm;have EC:cvk g.length l=2:=by
   unfold cvk at hc⊢;rw[aj h1]at hc⊢;split
   ·rfl
   ·next h=>rw[ah h]at hc;exact absurd rfl hc
  have ha:l.any (fun z=>!inb 100000 z)=true:=by
   unfold cvk at hc;rw[aj h1]at hc
   cases h:l.any (fun z=>!inb 100000 z)with
   |true=>rfl
   |false=>rw[h]at hc;exact absurd rfl hc
  rw[ha]at AN;refine bq Tryz.func56 ak rfl rfl rfl fun X0=>?_;simp only[aQ];refine zs1 ?_;refine rJ ?_;refine zs1 ?_;refine iB ?_;refine BA ?_;refine bG ?_;refine ct ?_;refine zs86 ?_;refine dJ ?_;refine bU ?_;refine rJ ?_;refine zs1 ?_;rw[EC];exact⟨_,Sh.refl,.two (.tmp 4) (.tmp 5) _ _ rfl (.tmp 4 rfl) (.tmp 5 rfl)⟩
 ·have hg1:(!decide ((l.length:Int)=(g.length:Int)))=true:=by rw[aA aa];rfl
  have EC:cvk g.length l=9:=by unfold cvk;rw[ah h1]
  refine bq Tryz.func56 ak rfl rfl rfl fun X0=>?_;simp only[aQ];refine zs1 ?_;refine rJ ?_;refine zs1 ?_;refine iB ?_;refine BA ?_;refine bU ?_;refine rJ ?_;refine zs1 ?_;rw[EC];exact⟨_,Sh.refl,.two (.tmp 4) (.tmp 5) _ _ rfl (.tmp 4 rfl) (.tmp 5 rfl)⟩
theorem Fa(g:Mx.Mat)(l:List Int)(hl:l.length<=1000000)(hc:cvk g.length l=0)(CG:Fn Tryz.prog 59 [dM g] (zI 0))(VA:Fn Tryz.prog 129 [dM g,dI l] (zI (qv g l))):Fn Tryz.prog 56 [dM g,dI l] (.tp [zI (qv g l),zI 0]):=by
 have h1:=(FA hc).1;have hg1:(!decide ((l.length:Int)=(g.length:Int)))=false:=by rw[ay aa];rfl
 have AN:=uW 128 (fun z=>!inb 100000 z) l aa Fm;have ha:l.any (fun z=>!inb 100000 z)=false:=by
  unfold cvk at hc;rw[aj h1]at hc
  cases h:l.any (fun z=>!inb 100000 z)with
  |true=>rw[h]at hc;cases hc
  |false=>rfl
 rw[ha]at AN;generalize qv g l=q at*;refine bq Tryz.func56 ak rfl rfl rfl fun X0=>?_;simp only[aQ];refine zs1 ?_;refine rJ ?_;refine zs1 ?_;refine iB ?_;refine BA ?_;refine bG ?_;refine ct ?_;refine zs86 ?_;refine dJ ?_;refine bG ?_;refine cf ?_;refine sK ?_;refine zs5 ?_;refine nI ?_;refine dv ?_;exact⟨_,Sh.refl,.two (.tmp 4) (.tmp 5) _ _ rfl (.tmp 4 rfl) (.tmp 5 rfl)⟩
end DW
end
section
open Go.RowKit
namespace DW
theorem uO{α:Type}(l:List α)(x:α)(c:Nat):(l++[x]).eraseIdx c=if l.length=c then l.eraseIdx c else l.eraseIdx c++[x]:=by
 split
 ·rename_i h;rw[List.eraseIdx_append_of_length_le aa,xV (by omega:l.length<=c),h,fE];simp
 ·by_cases h2:c<l.length
  ·rw[List.eraseIdx_append_of_lt_length h2]
  ·rw[xV dK,xV aa]
theorem wL{α:Type}(l:List α)(c:Nat):(l.eraseIdx c).length<=l.length:=(List.eraseIdx_sublist l c).length_le
def mnr(m:Mx.Mat)(r c:Nat):Mx.Mat:=(m.eraseIdx r).map fun l=>l.eraseIdx c
theorem GR(m:Mx.Mat)(l:List Int)(r c:Nat):mnr (m++[l]) r c=if m.length=r then mnr m r c else mnr m r c++[l.eraseIdx c]:=by
 unfold mnr;rw[uO];split
 ·rfl
 ·rw[dC];rfl
theorem Kf(m:Mx.Mat)(r c:Nat):(mnr m r c).length<=m.length:=by unfold mnr;rw[aY];exact wL m r
set_option maxRecDepth 20000
set_option maxHeartbeats 1000000
theorem Kg(m:Mx.Mat)(r c:Nat)(hm:m.length<=1000000)(hm2:∀l∈m,l.length<=1000000):Fn Tryz.prog 115 [dW m,zI r,zI c] (dW (mnr m r c)):=by
 refine bq Tryz.func115 ak rfl rfl rfl fun X0=>?_;simp only[aQ];refine jL ?_;refine kX ?_;refine aI (eX (t:=7) (k:=7) (T:=113) (wd:=1) jN rfl rfl dL) ?_
 (refine aI (av (sl':=[(0,dW m),(1,zI r),(2,zI c),(7,.own 7),(8,zI 0)]) (ow':=[(7,⟨113,1,[]⟩)]) aE aH) ?_)
 refine aX (fun q s=>∃i,i<=m.length/\q=m.length-i/\s=⟨[(0,dW m),(1,zI r),(2,zI c),(7,.own 7),(8,zI (i:Nat))],[(7,⟨113,1,(mnr (m.take i) r c).map dZ⟩)]⟩) (m:=m.length) ⟨0,aO _,rfl,by unfold mnr;simp⟩ fun q s hs=>?_;obtain⟨i,hi,rfl,rfl⟩:=hs;by_cases him:i<m.length
 ·obtain⟨l,hl⟩:=get_some him;have hll:=hm2 l (bh hl);have hsn:=GR (m.take i) l r c;rw[<-cB hl,aP,cV aa]at hsn;have hfl:=Kf (m.take i) r c;rw[aP,cV aa]at hfl;obtain⟨F,hF⟩:∃F,F=mnr (m.take i) r c:=⟨_,rfl⟩;rw[<-hF]at hsn hfl;rw[<-hF];clear hF;by_cases hir:i=r
  ·rw[aj hir]at hsn;refine cC ?_;refine cf ?_;refine xD ?_;refine ba ?_;refine bU ?_;refine jf ?_;simp only[nx,inB];exact⟨m.length-(i+1),_,by omega,(av (sl':=[(0,dW m),(1,zI r),(2,zI c),(7,.own 7),(8,zI ((i+1:Nat):Int))]) (ow':=[(7,⟨113,1,F.map dZ⟩)]) aE aH),i+1,by omega,rfl,by rw[hsn]⟩
  ·rw[ah hir]at hsn;refine cC ?_;refine cf ?_;refine xD ?_;refine ba ?_;refine bG ?_;refine kX ?_;refine aI (eX (t:=9) (k:=9) (T:=62) (wd:=2) jN rfl rfl dL) ?_
   (refine aI (av (sl':=[(0,dW m),(1,zI r),(2,zI c),(7,.own 7),(8,zI (i:Nat)),(9,.own 9),(10,zI 0)]) (ow':=[(9,⟨62,2,[]⟩),(7,⟨113,1,F.map dZ⟩)]) aE aH) ?_)
   refine aX (fun q s=>∃k,k<=l.length/\q=l.length-k/\s=⟨[(0,dW m),(1,zI r),(2,zI c),(7,.own 7),(8,zI (i:Nat)),(9,.own 9),(10,zI (k:Nat))],[(9,⟨62,2,((l.take k).eraseIdx c).map .nm⟩),(7,⟨113,1,F.map dZ⟩)]⟩) (m:=l.length) ⟨0,aO _,rfl,by simp⟩ fun q s hs=>?_;obtain⟨k,hk,rfl,rfl⟩:=hs;by_cases hkl:k<l.length
   ·obtain⟨x,hx⟩:=get_some hkl;have hes:=uO (l.take k) x c;rw[<-cB hx,aP,cV aa]at hes;have hel:=wL (l.take k) c;rw[aP,cV aa]at hel;obtain⟨G,hG⟩:∃G,G=(l.take k).eraseIdx c:=⟨_,rfl⟩;rw[<-hG]at hes hel;rw[<-hG];clear hG;by_cases hkc:k=c
    ·rw[aj hkc]at hes;refine zs1 ?_;refine oT ?_;refine bU ?_;refine cf ?_;refine xE ?_;refine ba ?_;refine gU ?_;simp only[nx,inB];exact⟨l.length-(k+1),_,by omega,(av (sl':=[(0,dW m),(1,zI r),(2,zI c),(7,.own 7),(8,zI (i:Nat)),(9,.own 9),(10,zI ((k+1:Nat):Int))]) (ow':=[(9,⟨62,2,G.map .nm⟩),(7,⟨113,1,F.map dZ⟩)]) aE aH),k+1,by omega,rfl,by rw[hes]⟩
    ·rw[ah hkc]at hes;refine zs1 ?_;refine oT ?_;refine bU ?_;refine cf ?_;refine xE ?_;refine ba ?_;refine bU ?_;refine cf ?_;refine jM ?_;refine jM ?_;refine qk ?_;refine sM ?_;refine cJ ?_;refine jf ?_;simp only[nx,inB];exact⟨l.length-(k+1),_,by omega,(av (sl':=[(0,dW m),(1,zI r),(2,zI c),(7,.own 7),(8,zI (i:Nat)),(9,.own 9),(10,zI ((k+1:Nat):Int))]) (ow':=[(9,⟨62,2,G.map .nm++[.nm x]⟩),(7,⟨113,1,F.map dZ⟩)]) aE aH),k+1,by omega,rfl,by rw[hes,dC];rfl⟩
   ·obtain rfl:k=l.length:=by omega
    rw[fj];refine zs1 ?_;refine oT ?_;refine bG ?_;refine aI (bB (k:=9) cr dG dF) ?_;refine oU ?_;refine zs1 ?_;refine tK ?_;simp only[nx,inB];exact⟨m.length-(i+1),_,by omega,(av (sl':=[(0,dW m),(1,zI r),(2,zI c),(7,.own 7),(8,zI ((i+1:Nat):Int))]) (ow':=[(7,⟨113,1,F.map dZ++[dZ (l.eraseIdx c)]⟩)]) aE aH),i+1,by omega,rfl,by rw[hsn,dC];rfl⟩
 ·obtain rfl:i=m.length:=by omega
  rw[fj];refine dH ?_;refine aI (bB (k:=7) cr dG dF) ?_;refine jd ?_;exact⟨_,Sh.refl,.one (.tmp 6) _ rfl (.tmp 6 rfl)⟩
end DW
end
end Go.Proofs.YtcgjmdpcplhanaaGreat
