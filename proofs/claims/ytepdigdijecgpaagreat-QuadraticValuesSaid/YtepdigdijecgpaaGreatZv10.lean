/- Lemmas for the law: F10 -/
import Derived.Test.YtepdigdijecgpaaGreatZv9
namespace Go.Proofs.YtepdigdijecgpaaGreat
section
abbrev jn:=@Int.natAbs_natCast
theorem qH{p q:Prop}(h:q)(f:Wq q->p:=by(intro hW;(refine bD ?_;refine iu ?_;refine yt ?_;refine ed ?_;refine nD ?_;refine aJ ?_);exact hW.out)):p:=f ⟨h⟩
theorem zs95{p q:Prop}(h:q)(f:Wq q->p:=by(intro hW;(refine aL1 rfl rfl rfl (by(apply Ig;(exact rfl);(focus((apply ao;(conv=>lhs;whnf);(first|done|exact rfl))));(focus((apply ao;(conv=>lhs;whnf);(first|done|exact rfl))));(kernel_rfl);(kernel_rfl))) ?_);exact hW.out)):p:=f ⟨h⟩
theorem Dq{p q:Prop}(h:q)(f:Wq q->p:=by(intro hW;(refine cN ?_;refine zs95 ?_;refine dZ ?_;refine cM ?_);exact hW.out)):p:=f ⟨h⟩
theorem zs147{p q:Prop}(h:q)(f:Wq q->p:=by(intro hW;(refine gar ?_;refine yv ?_;refine jZ ?_;refine jZ ?_;refine aJ ?_);exact hW.out)):p:=f ⟨h⟩
theorem ud{p q:Prop}(h:q)(f:Wq q->p:=by(intro hW;(refine gar ?_;refine ed ?_;refine dZ ?_;refine cM ?_);exact hW.out)):p:=f ⟨h⟩
theorem mr{p q:Prop}(h:q)(f:Wq q->p:=by(intro hW;(refine zs1 ?_;refine zs147 ?_;refine zs1 ?_;refine ud ?_;refine zs1 ?_;refine oJ ?_);exact hW.out)):p:=f ⟨h⟩
theorem zs149{p q:Prop}(h:q)(f:Wq q->p:=by(intro hW;(refine bD ?_;refine jZ ?_;refine cM ?_);exact hW.out)):p:=f ⟨h⟩
theorem tY{p q:Prop}(h:q)(f:Wq q->p:=by(intro hW;(refine mr ?_;refine bP ?_;refine zs149 ?_;refine zs1 ?_);exact hW.out)):p:=f ⟨h⟩
theorem Dr{p q:Prop}(h:q)(f:Wq q->p:=by(intro hW;(refine gh ?_;refine dZ ?_;refine zs8 ?_;refine jZ ?_;refine aJ ?_);exact hW.out)):p:=f ⟨h⟩
theorem yp{p q:Prop}(h:q)(f:Wq q->p:=by(intro hW;(refine aL1 rfl rfl rfl (by(first|(apply(d_quoN (c:=2));(exact rfl);(focus((apply ao;(conv=>lhs;whnf);(first|done|exact rfl))));(exact ct);(exact rfl);(exact rfl);(focus(apply sA;(try simp only[]);omega)))|(apply BE;(exact rfl);(focus((apply ao;(conv=>lhs;whnf);(first|done|exact rfl))));(exact ct);(omega))|(apply zT;(exact rfl);(focus((apply ao;(conv=>lhs;whnf);(first|done|exact rfl))));(exact ct);(omega))|(apply BD;(exact rfl);(focus((apply ao;(conv=>lhs;whnf);(first|done|exact rfl))));(exact ct);(focus(first|omega|decide))))) ?_);exact hW.out)):p:=f ⟨h⟩
theorem oI{p q:Prop}(h:q)(f:Wq q->p:=by(intro hW;(refine cN ?_;refine zs57 ?_;refine aJ ?_);exact hW.out)):p:=f ⟨h⟩
end
section
open Go.RowKit
namespace DW
set_option maxRecDepth 20000
set_option maxHeartbeats 2000000
theorem GZ(N C:Int)(g:Mx.Mat)(x:List Int)(hC:C≠0)(CK:Fn Tryz.prog 47 [qF N g] (zI C)):Fn Tryz.prog 78 [qF N g,dI x] (.tp [zI 0,zI C]):=by
 refine aH Tryz.func78 ak rfl rfl rfl fun X0=>?_;simp only[az];refine tY ?_;exact⟨_,Sh.refl,.two (.tmp 4) (.tmp 5) _ _ rfl (.tmp 4 rfl) (.tmp 5 rfl)⟩
theorem G5(N C:Int)(g:Mx.Mat)(hC:C≠0)(CK:Fn Tryz.prog 47 [qF N g] (zI C)):Fn Tryz.prog 80 [qF N g] (.tp [zI 0,zI C]):=by
 refine aH Tryz.func80 ak rfl rfl rfl fun X0=>?_;simp only[az];refine tY ?_;exact⟨_,Sh.refl,.two (.tmp 2) (.tmp 3) _ _ rfl (.tmp 2 rfl) (.tmp 3 rfl)⟩
theorem G4(N C:Int)(g:Mx.Mat)(hC:C≠0)(CK:Fn Tryz.prog 47 [qF N g] (zI C)):Fn Tryz.prog 81 [qF N g] (.tp [zI 0,zI C]):=by
 refine aH Tryz.func81 ak rfl rfl rfl fun X0=>?_;simp only[az];refine tY ?_;exact⟨_,Sh.refl,.two (.tmp 2) (.tmp 3) _ _ rfl (.tmp 2 rfl) (.tmp 3 rfl)⟩
theorem G6(N C:Int)(g:Mx.Mat)(hC:C≠0)(CK:Fn Tryz.prog 47 [qF N g] (zI C)):Fn Tryz.prog 82 [qF N g] (.tp [zI 0,zI C]):=by
 refine aH Tryz.func82 ak rfl rfl rfl fun X0=>?_;simp only[az];refine tY ?_;exact⟨_,Sh.refl,.two (.tmp 2) (.tmp 3) _ _ rfl (.tmp 2 rfl) (.tmp 3 rfl)⟩
def hv(z:Int):Int:=IntKind.i64.wrap (z.tdiv 2)
theorem GV(N:Int)(g:Mx.Mat)(x:List Int)(hx:(x.length:Int)≠N)(CK:Fn Tryz.prog 47 [qF N g] (zI 0)):Fn Tryz.prog 78 [qF N g,dI x] (.tp [zI 0,zI 9]):=by
 have hd:(!decide ((x.length:Int)=N))=true:=by rw[aw hx];rfl
 refine aH Tryz.func78 ak rfl rfl rfl fun X0=>?_;simp only[az];refine mr ?_;refine aQ ?_;refine qH ?_;refine bP ?_;refine ug ?_;refine zs1 ?_;exact⟨_,Sh.refl,.two (.tmp 4) (.tmp 5) _ _ rfl (.tmp 4 rfl) (.tmp 5 rfl)⟩
theorem GW(N:Int)(g:Mx.Mat)(x:List Int)(hx:(x.length:Int)=N)(CK:Fn Tryz.prog 47 [qF N g] (zI 0))(IR:Fn Tryz.prog 205 [dI x] (.sc (.bool false))):Fn Tryz.prog 78 [qF N g,dI x] (.tp [zI 0,zI 2]):=by
 have hd:(!decide ((x.length:Int)=N))=false:=by rw[au hx];rfl
 refine aH Tryz.func78 ak rfl rfl rfl fun X0=>?_;simp only[az];refine mr ?_;refine aQ ?_;refine qH ?_;refine aQ ?_;refine bD ?_;refine dZ ?_;refine iV ?_;refine aJ ?_;refine bP ?_;refine ug ?_;refine zs1 ?_;exact⟨_,Sh.refl,.two (.tmp 4) (.tmp 5) _ _ rfl (.tmp 4 rfl) (.tmp 5 rfl)⟩
theorem GY(N p:Int)(g:Mx.Mat)(x:List Int)(hx:(x.length:Int)=N)(CK:Fn Tryz.prog 47 [qF N g] (zI 0))(IR:Fn Tryz.prog 205 [dI x] (.sc (.bool true)))(PR:Fn Tryz.prog 178 [dM g,dI x,dI x] (zI p)):Fn Tryz.prog 78 [qF N g,dI x] (.tp [zI (hv p),zI 0]):=by
 have hd:(!decide ((x.length:Int)=N))=false:=by rw[au hx];rfl
 unfold hv;refine aH Tryz.func78 ak rfl rfl rfl fun X0=>?_;simp only[az];refine mr ?_;refine aQ ?_;refine qH ?_;refine aQ ?_;refine bD ?_;refine dZ ?_;refine iV ?_;refine aJ ?_;refine aQ ?_;refine gh ?_;refine zs3 ?_;refine zs3 ?_;refine sb ?_;refine yp ?_;refine zs8 ?_;refine jZ ?_;refine aJ ?_;refine zs1 ?_;exact⟨_,Sh.refl,.two (.tmp 4) (.tmp 5) _ _ rfl (.tmp 4 rfl) (.tmp 5 rfl)⟩
theorem GN(N p:Int)(g:Mx.Mat)(x:List Int)(PR:Fn Tryz.prog 208 [qF N g,dI x,dI x] (zI p)):Fn Tryz.prog 87 [qF N g,dI x] (zI (hv p)):=by
 unfold hv;refine aH Tryz.func87 ak rfl rfl rfl fun X0=>?_;simp only[az];refine eN ?_;refine gar ?_;refine ed ?_;refine zs3 ?_;refine zs3 ?_;refine sb ?_;refine yp ?_;refine cA ?_;exact⟨_,Sh.refl,.one (.tmp 4) _ rfl (.tmp 4 rfl)⟩
theorem vK(N d:Int)(g:Mx.Mat)(CK:Fn Tryz.prog 47 [qF N g] (zI 0))(DT:Fn Tryz.prog 167 [dM g] (zI d)):Fn Tryz.prog 80 [qF N g] (.tp [zI d,zI 0]):=by
 refine aH Tryz.func80 ak rfl rfl rfl fun X0=>?_;simp only[az];refine mr ?_;refine aQ ?_;refine Dr ?_;refine zs1 ?_;exact⟨_,Sh.refl,.two (.tmp 2) (.tmp 3) _ _ rfl (.tmp 2 rfl) (.tmp 3 rfl)⟩
theorem FV{a b B:Nat}(ha:a<=B)(hb:b<=B):Nat.gcd a b<=B:=by
 rcases Nat.eq_zero_or_pos a with e|e
 ·rw[e,Nat.gcd_zero_left];exact hb
 ·exact aU (jo e (nH a b)) ha
theorem uE{f:Nat->Nat}{s B:Nat}(h:∀k,f k<=B)(hs:s<=B):∀k,Mx.fR Nat.gcd f s k<=B
 |0=>hs
 |k+1=>FV (uE h hs k) (h k)
theorem zN{f:Nat->Nat->Nat}{m:Nat->Nat}{s B:Nat}(h:∀i k,f i k<=B)(hs:s<=B):∀i,Mx.fS Nat.gcd f m s i<=B
 |0=>hs
 |i+1=>uE (h i) (zN h hs i) _
theorem cnf_b{g:Mx.Mat}(hb:Mx.Bd 1000 g)(i k:Nat):cnf g i k<=1000:=by
 unfold cnf;split
 ·rw[Int.natAbs_tdiv];exact aU (jA _ _) (hb i i)
 ·exact hb i k
def chf(g:Mx.Mat)(i:Nat):Nat->Nat
 |0=>((Mx.at' g i i).tdiv 2).natAbs
 |k+1=>(Mx.at' g i k).natAbs
theorem chf_b{g:Mx.Mat}(hb:Mx.Bd 1000 g)(i:Nat):∀k,chf g i k<=1000
 |0=>by
  unfold chf;rw[Int.natAbs_tdiv];exact aU (jA _ _) (hb i i)
 |k+1=>hb i k
theorem Gi{g:Mx.Mat}{n:Nat}(hs:∀i k,i<n->k<n->Mx.at' g i k=Mx.at' g k i):Mx.fS Nat.gcd (chf g) (fun i=>i+1) 0 n=cnt g n:=by
 unfold cnt;refine Mx.FX (fun i k hi hk=>?_) (fun i _=>?_) (fun i k hi hk=>?_)
 ·unfold cnf;by_cases e:i=k
  ·rw[e]
  ·rw[aj e,aj (fun h=>e h.symm),hs i k hi hk]
 ·show((Mx.at' g i i).tdiv 2).natAbs=cnf g i i;unfold cnf;rw[aB rfl]
 ·show(Mx.at' g i k).natAbs=cnf g i k;unfold cnf;rw[aj aa]
theorem qgc2(a:Nat)(b:Int)(ha:a<=1000000)(hb:b.natAbs<=1000000):Fn Tryz.prog 197 [.ls 1 [zI a,zI b]] (zI (Nat.gcd a b.natAbs:Nat)):=by
 have:=A7 [(a:Int),b] aY (fun z hz=>by
  rcases aZ.1 hz with e|e
  ·rw[e];omega
  ·rw[bq.1 e];omega)
 rw[Br,jn]at this;exact this
theorem vL{g:Mx.Mat}{n:Nat}(hg:g.length=n)(hR:Mx.Rc n g)(hb:Mx.Bd 1000 g)(hn:n<=4)(CK:Fn Tryz.prog 47 [qF n g] (zI 0)):Fn Tryz.prog 82 [qF n g] (.tp [zI (cnt g n:Nat),zI 0]):=by
 have hF:=cnf_b hb;have hS:∀i k,Mx.fR Nat.gcd (cnf g i) (Mx.fS Nat.gcd (cnf g) (fun _=>n) 0 i) k<=1000:=fun i k=>uE (hF i) (zN hF (aI _) i) k;unfold cnt;refine aH Tryz.func82 ak rfl rfl rfl fun X0=>?_;simp only[az];refine mr ?_;refine aQ ?_;refine cX ?_;refine gh ?_;refine tZ ?_;clear CK
 (refine bE (aD (sl':=[(5,zI 0),(16,dM g),(17,zI g.length),(18,zI 0)]) (ow':=[]) aS aR) ?_)
 refine bj (fun r s=>∃i,i<=n/\r=n-i/\s=⟨[(5,zI (Mx.fS Nat.gcd (cnf g) (fun _=>n) 0 i:Nat)),(16,dM g),(17,zI g.length),(18,zI (i:Nat))],[]⟩) (m:=n) ⟨0,aI _,rfl,rfl⟩ fun r s hs=>?_;obtain⟨i,hi,rfl,rfl⟩:=hs;by_cases hil:i<n
 ·obtain⟨r,hr⟩:=get_some (m:=g) (k:=i) aa;have hrl:=hR r (bU hr);have hE:Mx.fS Nat.gcd (cnf g) (fun _=>n) 0 (i+1)=Mx.fR Nat.gcd (cnf g i) (Mx.fS Nat.gcd (cnf g) (fun _=>n) 0 i) n:=rfl;obtain⟨S,hSe⟩:∃S,S=Mx.fS Nat.gcd (cnf g) (fun _=>n) 0 i:=⟨_,rfl⟩;have hSi:=hS i;rw[<-hSe]at hE hSi;rw[<-hSe];clear hS hSe;refine gg ?_;refine jF ?_;refine zs1 ?_
  (refine bE (aD (sl':=[(5,zI S),(6,zI (i:Nat)),(16,dM g),(17,zI g.length),(18,zI (i:Nat)),(23,dI r),(24,zI r.length),(25,zI 0)]) (ow':=[]) aS aR) ?_)
  refine bj (fun rr s=>∃k,k<=n/\rr=n-k/\s=⟨[(5,zI (Mx.fR Nat.gcd (cnf g i) S k:Nat)),(6,zI (i:Nat)),(16,dM g),(17,zI g.length),(18,zI (i:Nat)),(23,dI r),(24,zI r.length),(25,zI (k:Nat))],[]⟩) (m:=n) ⟨0,aI _,rfl,rfl⟩ fun rr s hs=>?_;obtain⟨k,hk,rfl,rfl⟩:=hs;by_cases hkl:k<n
  ·obtain⟨z,hz⟩:=get_some (m:=r) (k:=k) aa;have ez:Mx.at' g i k=z:=by unfold Mx.at';rw[Mx.cC hr,aF,hz];rfl
   have hT1:Mx.fR Nat.gcd (cnf g i) S (k+1)=Nat.gcd (Mx.fR Nat.gcd (cnf g i) S k) (cnf g i k):=rfl;have bz:=hb i k;rw[ez]at bz;have bT:=hSi k;by_cases hik:i=k
   ·have hc:cnf g i k=(z.tdiv 2).natAbs:=by unfold cnf;rw[aB hik,<-ez,<-hik]
    have hw:=Bp bz;have bh:(z.tdiv 2).natAbs<=1000:=by rw[<-hc];exact hF i k
    obtain⟨T,hTe⟩:∃T,T=Mx.fR Nat.gcd (cnf g i) S k:=⟨_,rfl⟩;rw[hc,<-hTe]at hT1;rw[<-hTe]at bT;rw[<-hTe];have G1:=qgc2 T (IntKind.i64.wrap (z.tdiv 2)) aa (by rw[hw];omega);rw[hw,<-hT1]at G1;obtain⟨T1,hT1e⟩:∃T1,T1=Mx.fR Nat.gcd (cnf g i) S (k+1):=⟨_,rfl⟩;rw[<-hT1e]at G1;rw[<-hw]at G1;clear hT1 hw bh;have hikd:decide ((i:Int)=(k:Int))=true:=au aa;clear hTe hF hb hSi ez hc hE hik;refine gg ?_;refine oI ?_;refine bP ?_;refine bD ?_;refine yp ?_;refine cA ?_;refine Dq ?_;refine zs1 ?_;refine dp ?_;simp only[nx];exact⟨n-(k+1),_,by omega,(aD (sl':=[(5,zI (T1:Nat)),(6,zI (i:Nat)),(16,dM g),(17,zI g.length),(18,zI (i:Nat)),(23,dI r),(24,zI r.length),(25,zI ((k+1:Nat):Int))]) (ow':=[]) aS aR),k+1,by omega,rfl,by rw[hT1e]⟩
   ·have hc:cnf g i k=z.natAbs:=by unfold cnf;rw[aj hik,ez]
    obtain⟨T,hTe⟩:∃T,T=Mx.fR Nat.gcd (cnf g i) S k:=⟨_,rfl⟩;rw[hc,<-hTe]at hT1;rw[<-hTe]at bT;rw[<-hTe];have G1:=qgc2 T z aa aa;rw[<-hT1]at G1;obtain⟨T1,hT1e⟩:∃T1,T1=Mx.fR Nat.gcd (cnf g i) S (k+1):=⟨_,rfl⟩;rw[<-hT1e]at G1;clear hT1;have hikd:decide ((i:Int)=(k:Int))=false:=aw aa;clear hTe hF hb hSi ez hc hE;refine gg ?_;refine oI ?_;refine aQ ?_;refine Dq ?_;refine zs1 ?_;refine dp ?_;simp only[nx];exact⟨n-(k+1),_,by omega,(aD (sl':=[(5,zI (T1:Nat)),(6,zI (i:Nat)),(16,dM g),(17,zI g.length),(18,zI (i:Nat)),(23,dI r),(24,zI r.length),(25,zI ((k+1:Nat):Int))]) (ow':=[]) aS aR),k+1,by omega,rfl,by rw[hT1e]⟩
  ·obtain rfl:k=n:=by omega
   rw[<-hE];obtain⟨S1,hS1e⟩:∃S1,S1=Mx.fS Nat.gcd (cnf g) (fun _=>k) 0 (i+1):=⟨_,rfl⟩;rw[<-hS1e];clear hE;refine eO ?_;refine dp ?_;simp only[nx];exact⟨k-(i+1),_,by omega,(aD (sl':=[(5,zI (S1:Nat)),(16,dM g),(17,zI g.length),(18,zI ((i+1:Nat):Int))]) (ow':=[]) aS aR),i+1,by omega,rfl,by rw[hS1e]⟩
 ·obtain rfl:i=n:=by omega
  generalize Mx.fS Nat.gcd (cnf g) (fun _=>i) 0 i=S1 at*;refine eO ?_;refine bD ?_;refine zs8 ?_;refine jZ ?_;refine aJ ?_;refine zs1 ?_;exact⟨_,Sh.refl,.two (.tmp 2) (.tmp 3) _ _ rfl (.tmp 2 rfl) (.tmp 3 rfl)⟩
theorem GR{g:Mx.Mat}{n:Nat}(hg:g.length=n)(hR:Mx.Rc n g)(hb:Mx.Bd 1000 g)(hn:n<=4):Fn Tryz.prog 85 [qF n g] (zI (Mx.fS Nat.gcd (chf g) (fun i=>i+1) 0 n:Nat)):=by
 have hF:=chf_b hb;have hS:∀i k,Mx.fR Nat.gcd (chf g i) (Mx.fS Nat.gcd (chf g) (fun i=>i+1) 0 i) k<=1000:=fun i k=>uE (hF i) (zN hF (aI _) i) k;refine aH Tryz.func85 ak rfl rfl rfl fun X0=>?_;simp only[az];refine eN ?_;refine cX ?_;refine cX ?_
 (refine bE (aD (sl':=[(1,.pt (qF n g)),(3,zI 0),(4,zI 0)]) (ow':=[]) aS aR) ?_)
 refine bj (fun r s=>∃i,i<=n/\r=n-i/\s=⟨[(1,.pt (qF n g)),(3,zI (Mx.fS Nat.gcd (chf g) (fun i=>i+1) 0 i:Nat)),(4,zI (i:Nat))],[]⟩) (m:=n) ⟨0,aI _,rfl,rfl⟩ fun r s hs=>?_;obtain⟨i,hi,rfl,rfl⟩:=hs;by_cases hil:i<n
 ·obtain⟨r,hr⟩:=get_some (m:=g) (k:=i) aa;have hrl:=hR r (bU hr);obtain⟨w,hw2⟩:=get_some (m:=r) (k:=i) aa;have ew:Mx.at' g i i=w:=by unfold Mx.at';rw[Mx.cC hr,aF,hw2];rfl
  have bw:=hb i i;rw[ew]at bw;have hw:=Bp bw;have hE:Mx.fS Nat.gcd (chf g) (fun i=>i+1) 0 (i+1)=Mx.fR Nat.gcd (chf g i) (Mx.fS Nat.gcd (chf g) (fun i=>i+1) 0 i) (i+1):=rfl;obtain⟨S,hSe⟩:∃S,S=Mx.fS Nat.gcd (chf g) (fun i=>i+1) 0 i:=⟨_,rfl⟩;have hSi:=hS i;rw[<-hSe]at hE hSi;rw[<-hSe];have bS:S<=1000:=hSi 0;have h10:chf g i 0=(w.tdiv 2).natAbs:=by unfold chf;rw[ew]
  have b10:=hF i 0;rw[h10]at b10;have h11:Mx.fR Nat.gcd (chf g i) S 1=Nat.gcd S (w.tdiv 2).natAbs:=by rw[<-h10];rfl
  have G0:Fn Tryz.prog 199 [zI S,zI (IntKind.i64.wrap (w.tdiv 2))] (zI (Mx.fR Nat.gcd (chf g i) S 1:Nat)):=by
   have:=ru (S:Int) (IntKind.i64.wrap (w.tdiv 2)) aa (by rw[hw];omega);rw[jn,hw,<-h11,<-hw]at this;exact this
  obtain⟨R1,hR1⟩:∃R1,R1=Mx.fR Nat.gcd (chf g i) S 1:=⟨_,rfl⟩;rw[<-hR1]at G0;clear hS hSe h10 h11 b10 hw ew bw bS;refine dn ?_;refine bP ?_;refine bD ?_;refine sa ?_;refine ed ?_;refine eZ ?_;refine eZ ?_;refine yp ?_;refine jY ?_;refine cA ?_;refine cX ?_;rw[hR1];clear G0 hR1
  (refine bE (aD (sl':=[(1,.pt (qF n g)),(3,zI (Mx.fR Nat.gcd (chf g i) S 1:Nat)),(4,zI (i:Nat)),(5,zI 0)]) (ow':=[]) aS aR) ?_)
  refine bj (fun rr s=>∃k,k<=i/\rr=i-k/\s=⟨[(1,.pt (qF n g)),(3,zI (Mx.fR Nat.gcd (chf g i) S (k+1):Nat)),(4,zI (i:Nat)),(5,zI (k:Nat))],[]⟩) (m:=i) ⟨0,aI _,rfl,rfl⟩ fun rr s hs=>?_;obtain⟨k,hk,rfl,rfl⟩:=hs;by_cases hkl:k<i
  ·obtain⟨z,hz⟩:=get_some (m:=r) (k:=k) aa;have ez:Mx.at' g i k=z:=by unfold Mx.at';rw[Mx.cC hr,aF,hz];rfl
   have hT1:Mx.fR Nat.gcd (chf g i) S (k+1+1)=Nat.gcd (Mx.fR Nat.gcd (chf g i) S (k+1)) (Mx.at' g i k).natAbs:=rfl;have bz:=hb i k;rw[ez]at bz hT1;have bT:=hSi (k+1);obtain⟨T,hTe⟩:∃T,T=Mx.fR Nat.gcd (chf g i) S (k+1):=⟨_,rfl⟩;rw[<-hTe]at hT1 bT;rw[<-hTe];have G1:=ru (T:Int) z aa aa;rw[jn,<-hT1]at G1;obtain⟨T1,hT1e⟩:∃T1,T1=Mx.fR Nat.gcd (chf g i) S (k+1+1):=⟨_,rfl⟩;rw[<-hT1e]at G1;clear hT1 hTe hF hb hSi ez hE;refine zs1 ?_;refine mu ?_;refine bP ?_;refine bD ?_;refine sa ?_;refine ed ?_;refine eZ ?_;refine eZ ?_;refine jY ?_;refine cA ?_;refine kH ?_;refine zs1 ?_;simp only[nx];exact⟨i-(k+1),_,by omega,(aD (sl':=[(1,.pt (qF n g)),(3,zI (T1:Nat)),(4,zI (i:Nat)),(5,zI ((k+1:Nat):Int))]) (ow':=[]) aS aR),k+1,by omega,rfl,by rw[hT1e]⟩
  ·obtain rfl:k=i:=by omega
   rw[<-hE];obtain⟨S1,hS1e⟩:∃S1,S1=Mx.fS Nat.gcd (chf g) (fun i=>i+1) 0 (k+1):=⟨_,rfl⟩;rw[<-hS1e];clear hE;refine zs1 ?_;refine mu ?_;refine jd ?_;simp only[nx];exact⟨n-(k+1),_,by omega,(aD (sl':=[(1,.pt (qF n g)),(3,zI (S1:Nat)),(4,zI ((k+1:Nat):Int))]) (ow':=[]) aS aR),k+1,by omega,rfl,by rw[hS1e]⟩
 ·obtain rfl:i=n:=by omega
  generalize Mx.fS Nat.gcd (chf g) (fun i=>i+1) 0 i=S1 at*;refine dn ?_;refine aQ ?_;refine dD ?_;exact⟨_,Sh.refl,.one (.tmp 2) _ rfl (.tmp 2 rfl)⟩
end DW
end
end Go.Proofs.YtepdigdijecgpaaGreat
