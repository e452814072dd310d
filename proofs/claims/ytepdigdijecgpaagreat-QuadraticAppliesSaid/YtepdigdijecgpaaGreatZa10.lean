/- Lemmas for the law: F14 E17 -/
import Derived.Test.YtepdigdijecgpaaGreatZa9
namespace Go.Proofs.YtepdigdijecgpaaGreat
section
theorem zs99{p q:Prop}(h:q)(f:Wq q->p:=by(intro hW;((first|refine fo rfl rfl rfl av Bp av av ?_|((try refine bp ?_);refine aL1 rfl rfl rfl Bp ?_)));exact hW.out)):p:=f ⟨h⟩
theorem zs98{p q:Prop}(h:q)(f:Wq q->p:=by(intro hW;((first|(apply az 9;(focus kernel_rfl);(decide+kernel))|(apply az 8;(focus kernel_rfl);(decide+kernel))|(apply az 7;(focus kernel_rfl);(decide+kernel))|(apply az 6;(focus kernel_rfl);(decide+kernel))|(apply az 5;(focus kernel_rfl);(decide+kernel))|(apply az 4;(focus kernel_rfl);(decide+kernel))|(apply az 3;(focus kernel_rfl);(decide+kernel))|(apply az 2;(focus kernel_rfl);(decide+kernel)));simp only[fT,eU,gK,ft]);exact hW.out)):p:=f ⟨h⟩
theorem zs100{p q:Prop}(h:q)(f:Wq q->p:=by(intro hW;((first|refine fo rfl rfl rfl av Bn av av ?_|((try refine bp ?_);refine aL1 rfl rfl rfl Bn ?_)));exact hW.out)):p:=f ⟨h⟩
theorem G4{p q:Prop}(h:q)(f:Wq q->p:=by(intro hW;(refine zs98 ?_;refine jQ ?_;refine jQ ?_;refine zs99 ?_;refine zs100 ?_;refine nV ?_);exact hW.out)):p:=f ⟨h⟩
theorem zs158{p q:Prop}(h:q)(f:Wq q->p:=by(intro hW;(refine bI ?_;refine uD ?_;refine uG ?_;refine cw ?_);exact hW.out)):p:=f ⟨h⟩
theorem zs95{p q:Prop}(h:q)(f:Wq q->p:=by(intro hW;((first|(refine aLs rfl rfl rfl rfl ?_ ?_;(focus(apply bF;(conv=>lhs;whnf);(first|done|exact rfl|(apply bA;(first|(apply aq;omega)|(apply ao;omega)|assumption|(simp;done)))))))|refine aLw rfl rfl rfl rfl cZ zb29 ?_));exact hW.out)):p:=f ⟨h⟩
theorem AE{p q:Prop}(h:q)(f:Wq q->p:=by(intro hW;((first|(refine aLs rfl rfl rfl rfl ?_ ?_;(focus(apply bF;(conv=>lhs;whnf);(first|done|exact rfl|(apply bA;(first|(apply aq;omega)|(apply ao;omega)|assumption|(simp;done)))))))|refine aLw rfl rfl rfl rfl cZ zb19 ?_));exact hW.out)):p:=f ⟨h⟩
theorem zs159{p q:Prop}(h:q)(f:Wq q->p:=by(intro hW;(refine cJ ?_;refine uD ?_;refine uG ?_;refine AI ?_;refine zs3 ?_;refine zs5 ?_;refine zs5 ?_;refine zs95 ?_;refine AE ?_;refine zs80 ?_;refine zs7 ?_;refine zs3 ?_;refine zs5 ?_;refine zs5 ?_;refine zs95 ?_;refine AE ?_;refine zs80 ?_;refine zs7 ?_;refine cw ?_);exact hW.out)):p:=f ⟨h⟩
theorem G6{p q:Prop}(h:q)(f:Wq q->p:=by(intro hW;(refine gar ?_;refine mQ ?_;refine aK ?_);exact hW.out)):p:=f ⟨h⟩
theorem AO{p q:Prop}(h:q)(f:Wq q->p:=by(intro hW;(refine zs1 ?_;refine G6 ?_;refine bc ?_;refine zs158 ?_;refine zs1 ?_;refine zs159 ?_;refine zs1 ?_);exact hW.out)):p:=f ⟨h⟩
theorem zs97{p q:Prop}(h:q)(f:Wq q->p:=by(intro hW;((first|(apply az 8;(focus kernel_rfl);(decide+kernel))|(apply az 7;(focus kernel_rfl);(decide+kernel))|(apply az 6;(focus kernel_rfl);(decide+kernel))|(apply az 5;(focus kernel_rfl);(decide+kernel))|(apply az 4;(focus kernel_rfl);(decide+kernel))|(apply az 3;(focus kernel_rfl);(decide+kernel))|(apply az 2;(focus kernel_rfl);(decide+kernel))|(apply az 1;(focus kernel_rfl);(decide+kernel)));simp only[fT,eU,gK,ft]);exact hW.out)):p:=f ⟨h⟩
theorem G5{p q:Prop}(h:q)(f:Wq q->p:=by(intro hW;(refine zs97 ?_;refine jQ ?_;refine jQ ?_;refine zs76 ?_;refine nV ?_);exact hW.out)):p:=f ⟨h⟩
theorem zs94{p q:Prop}(h:q)(f:Wq q->p:=by(intro hW;((first|(refine aLs rfl rfl rfl rfl ?_ ?_;(focus(apply bF;(conv=>lhs;whnf);(first|done|exact rfl|(apply bA;(first|(apply aq;omega)|(apply ao;omega)|assumption|(simp;done)))))))|refine aLw rfl rfl rfl rfl cZ zb9 ?_));exact hW.out)):p:=f ⟨h⟩
theorem zs93{p q:Prop}(h:q)(f:Wq q->p:=by(intro hW;((first|(refine aLs rfl rfl rfl rfl ?_ ?_;(focus(apply bF;(conv=>lhs;whnf);(first|done|exact rfl|(apply bA;(first|(apply aq;omega)|(apply ao;omega)|assumption|(simp;done)))))))|refine aLw rfl rfl rfl rfl cZ (by(first|(apply d_sub;(exact rfl);(focus((apply aB;(conv=>lhs;whnf);(first|done|exact rfl))));(exact cI);(omega))|(apply dB;(exact rfl);(focus((apply aB;(conv=>lhs;whnf);(first|done|exact rfl))));(exact cI);(exact rfl)))) ?_));exact hW.out)):p:=f ⟨h⟩
theorem zs157{p q:Prop}(h:q)(f:Wq q->p:=by(intro hW;(refine bI ?_;refine zs78 ?_;refine zs3 ?_;refine zs5 ?_;refine zs5 ?_;refine zs93 ?_;refine zs94 ?_;refine zs7 ?_;refine aK ?_);exact hW.out)):p:=f ⟨h⟩
theorem zs92{p q:Prop}(h:q)(f:Wq q->p:=by(intro hW;(refine aL1 rfl rfl rfl (by(apply(d_ixc (e:=3) (n:=4));(exact rfl);(focus((apply aB;(conv=>lhs;whnf);(first|done|exact rfl))));(focus((apply aB;(conv=>lhs;whnf);(first|done|exact rfl))));(kernel_rfl);(kernel_rfl);(kernel_rfl);(omega);(focus(first|assumption)))) ?_);exact hW.out)):p:=f ⟨h⟩
theorem zs155{p q:Prop}(h:q)(f:Wq q->p:=by(intro hW;(refine gar ?_;refine zs92 ?_;refine cw ?_);exact hW.out)):p:=f ⟨h⟩
theorem zs156{p q:Prop}(h:q)(f:Wq q->p:=by(intro hW;(refine cJ ?_;refine il ?_;refine cw ?_);exact hW.out)):p:=f ⟨h⟩
theorem AP{p q:Prop}(h:q)(f:Wq q->p:=by(intro hW;(refine zs1 ?_;refine G6 ?_;refine cq ?_;refine zs155 ?_;refine zs1 ?_;refine zs156 ?_;refine zs1 ?_;refine zs157 ?_);exact hW.out)):p:=f ⟨h⟩
theorem wA{p q:Prop}(h:q)(f:Wq q->p:=by(intro hW;(refine bI ?_;refine gh ?_;refine zs3 ?_;refine gh ?_;refine nZ ?_;refine aK ?_);exact hW.out)):p:=f ⟨h⟩
end
section
open Go.RowKit
namespace DW
abbrev aI(l:List Int):D:=.st (l.map fun z=>.sc (.int .i64 z))
def qps:List Int:=[2147483647,2147483629,2147483587,2147483579]
def unB(d:Int):Bool:=decide (d.natAbs=1)
theorem Dh{d:Int}(h:d.natAbs=1):d=1\/d= -1:=by omega
theorem qQ{d p q:Int}(hp:3<=p)(hq:3<=q)(h1:d%p=1)(h2:¬d%q=1):unB d=false:=by
 unfold unB;refine ao fun h=>?_;rcases Dh h with e|e
 ·rw[e,lk aa aa]at h2;exact h2 rfl
 ·rw[e,<-Int.add_emod_right,lk aa aa]at h1;omega
theorem KC{d:Int}(hb:d.natAbs<=24000000000000000000000000)(h1:d%2147483647=1)(h2:d%2147483629=1)(h3:d%2147483587=1)(h4:d%2147483579=1):d=1:=by
 have hz:(d-1).natAbs<=100000000000000000000000000:=by clear h1 h2 h3 h4;omega
 have key:∀p:Nat,d%(p:Int)=1->1<p->p∣(d-1).natAbs:=fun p h hp=>by
  clear h1 h2 h3 h4 hb hz;refine Int.natCast_dvd_natCast.1 (Int.dvd_natAbs.2 (Int.dvd_of_emod_eq_zero ?_));rw[Int.sub_emod,h,lk (by omega:(0:Int)<=1) aa,Int.sub_self,Int.zero_emod]
 have h:=Mx.yK hz (key 2147483647 h1 ay) (key 2147483629 h2 ay) (key 2147483587 h3 ay) (key 2147483579 h4 ay);clear key h1 h2 h3 h4 hb hz;omega
theorem KD{d:Int}(hb:d.natAbs<=24000000000000000000000000)(h1:d%2147483647=2147483647-1)(h2:d%2147483629=2147483629-1)(h3:d%2147483587=2147483587-1)(h4:d%2147483579=2147483579-1):d= -1:=by
 have hz:(d+1).natAbs<=100000000000000000000000000:=by clear h1 h2 h3 h4;omega
 have key:∀p:Nat,d%(p:Int)=(p:Int)-1->1<p->p∣(d+1).natAbs:=fun p h hp=>by
  clear h1 h2 h3 h4 hb hz;refine Int.natCast_dvd_natCast.1 (Int.dvd_natAbs.2 (Int.dvd_of_emod_eq_zero ?_));rw[Int.add_emod,h,lk (by omega:(0:Int)<=1) aa,Int.sub_add_cancel,Int.emod_self]
 have h:=Mx.yK hz (key 2147483647 h1 ay) (key 2147483629 h2 ay) (key 2147483587 h3 ay) (key 2147483579 h4 ay);clear key h1 h2 h3 h4 hb hz;omega
theorem KB{d:Int}(hb:d.natAbs<=24000000000000000000000000)(f1:d%2147483647=1\/d%2147483647=2147483647-1)(f2:d%2147483629=1\/d%2147483629=2147483629-1)(f3:d%2147483587=1\/d%2147483587=2147483587-1)(f4:d%2147483579=1\/d%2147483579=2147483579-1):
  unB d=((decide (d%2147483647=1)==decide (d%2147483629=1))&&(decide (d%2147483647=1)==decide (d%2147483587=1))&&(decide (d%2147483647=1)==decide (d%2147483579=1))):=by
 by_cases g1:d%2147483647=1
 ·by_cases g2:d%2147483629=1
  ·by_cases g3:d%2147483587=1
   ·by_cases g4:d%2147483579=1
    ·rw[aq g1,aq g2,aq g3,aq g4,KC hb g1 g2 g3 g4];rfl
    ·rw[aq g1,aq g2,aq g3,ao g4];exact qQ ay ay g1 g4
   ·rw[aq g1,aq g2,ao g3];exact qQ ay ay g1 g3
  ·rw[aq g1,ao g2];exact qQ ay ay g1 g2
 ·by_cases g2:d%2147483629=1
  ·rw[ao g1,aq g2];exact qQ ay ay g2 g1
  ·by_cases g3:d%2147483587=1
   ·rw[ao g1,ao g2,aq g3];exact qQ ay ay g3 g1
   ·by_cases g4:d%2147483579=1
    ·rw[ao g1,ao g2,ao g3,aq g4];exact qQ ay ay g4 g1
    ·rw[ao g1,ao g2,ao g3,ao g4,KD hb (f1.resolve_left g1) (f2.resolve_left g2) (f3.resolve_left g3) (f4.resolve_left g4)];rfl
set_option maxRecDepth 20000
set_option maxHeartbeats 2000000
theorem I3(t:Mx.Mat)(d:Int)(hb:d.natAbs<=24000000000000000000000000)(MD:∀p∈qps,Fn Tryz.prog 290 [dM t,zI p] (zI (d%p))):Fn Tryz.prog 194 [dM t] (.sc (.bool (unB d))):=by
 have hps:∀p∈qps,2<=p/\p<=2147483647:=by decide
 have hql:qps.length=4:=rfl;have M1:=MD 2147483647 ay;have M2:=MD 2147483629 ay;have M3:=MD 2147483587 ay;have M4:=MD 2147483579 ay;refine aF Tryz.func194 ak rfl rfl rfl fun X0=>?_;simp only[aA];refine cX ?_;refine gar ?_;refine aL1 rfl rfl rfl (Gx (vs:= #[(0, .int .i64 (2147483647)),(1, .int .i64 (2147483629)),(2, .int .i64 (2147483587)),(3, .int .i64 (2147483579))]) (z:= .agg #[.int .i64 (2147483647), .int .i64 (2147483629), .int .i64 (2147483587), .int .i64 (2147483579)]) (d:=aI qps) rfl aY ak rfl rfl) ?_;refine aL1 rfl rfl rfl (by(apply ur;(exact rfl);(exact rfl))) ?_;refine aK ?_;refine zs1 ?_
 (refine bh (aO (sl':=[(0,dM t),(7,aI qps),(8,zI 0)]) (ow':=[]) ba aZ) ?_)
 refine bw (fun r s=>∃k,k<=4/\r=4-k/\(∀j p,j<k->qps[j]?=some p->d%p=1\/d%p=p-1)/\s=⟨[(0,dM t),(7,aI qps),(8,zI (k:Nat))],[]⟩) (m:=4) ⟨0,aP _,rfl,fun j p h=>absurd h (pD j),rfl⟩ fun r s hs=>?_;obtain⟨k,hk,rfl,hin,rfl⟩:=hs;by_cases hkl:k<4
 ·obtain⟨p,hp⟩:=get_some (m:=qps) (k:=k) aa;have MP:=MD p (bf hp);obtain⟨p2,p3⟩:=hps p (bf hp);clear M1 M2 M3 M4 MD hps;by_cases h1:d%p=1
  ·have hin2 : ∀ j q, j < k + 1 -> qps[j]? = some q -> d % q = 1 \/ d % q = q - 1 := fun j q hj hq => by
    by_cases e:j=k
    ·subst e;rw[hp]at hq;cases hq;exact .inl h1
    ·exact hin j q aa hq
   rw[h1]at MP;have hd1:(!decide ((1:Int)=1))=false:=rfl;clear hin h1 hb;refine AP ?_;refine jU ?_;simp only[nx];exact⟨4-(k+1),_,by omega,(aO (sl':=[(0,dM t),(7,aI qps),(8,zI ((k+1:Nat):Int))]) (ow':=[]) ba aZ),k+1,by omega,rfl,hin2,rfl⟩
  ·by_cases h2:d%p=p-1
   ·have hin2 : ∀ j q, j < k + 1 -> qps[j]? = some q -> d % q = 1 \/ d % q = q - 1 := fun j q hj hq => by
     by_cases e:j=k
     ·subst e;rw[hp]at hq;cases hq;exact .inr h2
     ·exact hin j q aa hq
    rw[h2]at MP;have hd1:(!decide (p-1=1))=true:=by rw[ao aa];rfl
    have hd2:(!decide (p-1=p-1))=false:=by rw[aq rfl];rfl
    clear hin h1 h2 hb;refine AP ?_;refine jU ?_;simp only[nx];exact⟨4-(k+1),_,by omega,(aO (sl':=[(0,dM t),(7,aI qps),(8,zI ((k+1:Nat):Int))]) (ow':=[]) ba aZ),k+1,by omega,rfl,hin2,rfl⟩
   ·have EC : unB d = false := by
     unfold unB;refine ao fun h=>?_;rcases Dh h with e|e
     ·rw[e,lk aa aa]at h1;exact h1 rfl
     ·refine h2 ?_;rw[e,<-Int.add_emod_right,lk aa aa];omega
    obtain⟨e,he⟩:∃e,e=d%p:=⟨_,rfl⟩;rw[<-he]at MP h1 h2;have hd1:(!decide (e=1))=true:=by rw[ao h1];rfl
    have hd2:(!decide (e=p-1))=true:=by rw[ao h2];rfl
    clear hin hb he;refine AP ?_;refine jf ?_;rw[EC];exact⟨_,Sh.refl, .one (.tmp 2) _ rfl (.tmp 2 rfl)⟩
 ·obtain rfl:k=4:=by omega
  have f1:=hin 0 2147483647 ay rfl;have f2:=hin 1 2147483629 ay rfl;have f3:=hin 2 2147483587 ay rfl;have f4:=hin 3 2147483579 ay rfl;have EV:=KB hb f1 f2 f3 f4;rw[EV];clear EV hin f1 f2 f3 f4 hb MD hps;obtain⟨d1,hd1⟩:∃z,z=d%2147483647:=⟨_,rfl⟩;obtain⟨d2,hd2⟩:∃z,z=d%2147483629:=⟨_,rfl⟩;obtain⟨d3,hd3⟩:∃z,z=d%2147483587:=⟨_,rfl⟩;obtain⟨d4,hd4⟩:∃z,z=d%2147483579:=⟨_,rfl⟩;rw[<-hd1]at M1;rw[<-hd2]at M2;rw[<-hd3]at M3;rw[<-hd4]at M4;rw[<-hd1,<-hd2,<-hd3,<-hd4];clear hd1 hd2 hd3 hd4
  cases c2:(decide (d1=1)==decide (d2=1))with
  |false=>
   rw[nq,nq];refine AO ?_;exact⟨_,Sh.refl, .one (.tmp 2) _ rfl (.tmp 2 rfl)⟩
  |true=>
   rw[fR]
   cases c3:(decide (d1=1)==decide (d3=1))with
   |false=>
    rw[nq];refine AO ?_;rw[<-c3];exact⟨_,Sh.refl, .one (.tmp 2) _ rfl (.tmp 2 rfl)⟩
   |true=>
    rw[fR];refine AO ?_;exact⟨_,Sh.refl, .one (.tmp 2) _ rfl (.tmp 2 rfl)⟩
end DW
end
section
open Go.RowKit
namespace DW
theorem rL{α:Type}{a b:List α}(hl:a.length=b.length)(h:a.take a.length=b.take a.length):a=b:=by
 rw[kI]at h;rw[h,hl,kI]
set_option maxRecDepth 20000
set_option maxHeartbeats 1000000
theorem Ls(a b:List Int)(ha:a.length<=1000000000):Fn Tryz.prog 38 [dI a,dI b] (.sc (.bool (decide (a=b)))):=by
 refine aF Tryz.func38 ak rfl rfl rfl fun X0=>?_;simp only[aA];by_cases hl:a.length=b.length
 ·refine cX ?_;refine wA ?_;refine bc ?_;refine dQ ?_
  (refine bh (aO (sl':=[(0,dI a),(1,dI b),(5,zI 0)]) (ow':=[]) ba aZ) ?_)
  refine bw (fun r s=>∃k,k<=a.length/\r=a.length-k/\a.take k=b.take k/\s=⟨[(0,dI a),(1,dI b),(5,zI (k:Nat))],[]⟩) (m:=a.length) ⟨0,aP _,rfl,rfl,rfl⟩ fun r s hs=>?_;obtain⟨k,hk,rfl,he,rfl⟩:=hs;by_cases hkl:k<a.length
  ·obtain⟨x,hx⟩:=get_some hkl;obtain⟨y,hy⟩:=get_some (m:=b) (k:=k) aa;by_cases hxy:x=y
   ·refine jS ?_;refine G5 ?_;refine jR ?_;simp only[nx,inB];exact⟨a.length-(k+1),_,by omega,(aO (sl':=[(0,dI a),(1,dI b),(5,zI ((k+1:Nat):Int))]) (ow':=[]) ba aZ),k+1,by omega,rfl,by rw[cF hx,cF hy,he,hxy],rfl⟩
   ·have EC:decide (a=b)=false:=ao fun e=>hxy (by rw[e,hy]at hx;cases hx;rfl);refine jS ?_;refine G5 ?_;refine jf ?_;rw[EC];exact⟨_,Sh.refl,.one (.tmp 4) _ rfl (.tmp 4 rfl)⟩
  ·obtain rfl:k=a.length:=by omega
   have EC:decide (a=b)=true:=aq (rL hl he);refine jP ?_;refine qH ?_;refine zs1 ?_;rw[EC];exact⟨_,Sh.refl,.one (.tmp 4) _ rfl (.tmp 4 rfl)⟩
 ·have EC:decide (a=b)=false:=ao fun e=>hl (by rw[e]);refine cX ?_;refine wA ?_;refine jf ?_;rw[EC];exact⟨_,Sh.refl,.one (.tmp 4) _ rfl (.tmp 4 rfl)⟩
theorem JC(a b:List (List Int))(ha:a.length<=1000000000)(ha2:∀l∈a,l.length<=1000000000):Fn Tryz.prog 35 [dM a,dM b] (.sc (.bool (decide (a=b)))):=by
 refine aF Tryz.func35 ak rfl rfl rfl fun X0=>?_;simp only[aA];by_cases hl:a.length=b.length
 ·refine cX ?_;refine wA ?_;refine bc ?_;refine dQ ?_
  (refine bh (aO (sl':=[(0,dM a),(1,dM b),(5,zI 0)]) (ow':=[]) ba aZ) ?_)
  refine bw (fun r s=>∃k,k<=a.length/\r=a.length-k/\a.take k=b.take k/\s=⟨[(0,dM a),(1,dM b),(5,zI (k:Nat))],[]⟩) (m:=a.length) ⟨0,aP _,rfl,rfl,rfl⟩ fun r s hs=>?_;obtain⟨k,hk,rfl,he,rfl⟩:=hs;by_cases hkl:k<a.length
  ·obtain⟨x,hx⟩:=get_some hkl;obtain⟨y,hy⟩:=get_some (m:=b) (k:=k) aa;have IN:=Ls x y (ha2 x (bf hx));by_cases hxy:x=y
   ·rw[aq hxy]at IN;refine jS ?_;refine G4 ?_;refine jR ?_;simp only[nx,inB];exact⟨a.length-(k+1),_,by omega,(aO (sl':=[(0,dM a),(1,dM b),(5,zI ((k+1:Nat):Int))]) (ow':=[]) ba aZ),k+1,by omega,rfl,by rw[cF hx,cF hy,he,hxy],rfl⟩
   ·rw[ao hxy]at IN;have EC:decide (a=b)=false:=ao fun e=>hxy (by rw[e,hy]at hx;cases hx;rfl);refine jS ?_;refine G4 ?_;refine jf ?_;rw[EC];exact⟨_,Sh.refl,.one (.tmp 4) _ rfl (.tmp 4 rfl)⟩
  ·obtain rfl:k=a.length:=by omega
   have EC:decide (a=b)=true:=aq (rL hl he);refine jP ?_;refine qH ?_;refine zs1 ?_;rw[EC];exact⟨_,Sh.refl,.one (.tmp 4) _ rfl (.tmp 4 rfl)⟩
 ·have EC:decide (a=b)=false:=ao fun e=>hl (by rw[e]);refine cX ?_;refine wA ?_;refine jf ?_;rw[EC];exact⟨_,Sh.refl,.one (.tmp 4) _ rfl (.tmp 4 rfl)⟩
end DW
end
end Go.Proofs.YtepdigdijecgpaaGreat
