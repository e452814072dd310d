/- Lemmas for the law: F11 -/
import Derived.Test.YtepdigdijecgpaaGreatZv10
namespace Go.Proofs.YtepdigdijecgpaaGreat
section
theorem zs96{p q:Prop}(h:q)(f:Wq q->p:=by(intro hW;(refine aL1 rfl rfl rfl (by(first|(apply Es;(exact rfl);(exact ct);(focus((apply ao;(conv=>lhs;whnf);(first|done|exact rfl))));(omega))|(apply dB;(exact rfl);(exact ct);(focus((apply ao;(conv=>lhs;whnf);(first|done|exact rfl))));(exact rfl)))) ?_);exact hW.out)):p:=f ⟨h⟩
theorem yo{p q:Prop}(h:q)(f:Wq q->p:=by(intro hW;(refine aL1 rfl rfl rfl (by(first|(apply d_quoN;(exact rfl);(focus((apply ao;(conv=>lhs;whnf);(first|done|exact rfl))));(focus((apply ao;(conv=>lhs;whnf);(first|done|exact rfl))));(exact rfl);(exact rfl);(focus(apply sA;(try simp only[]);omega)))|(apply BE;(exact rfl);(focus((apply ao;(conv=>lhs;whnf);(first|done|exact rfl))));(focus((apply ao;(conv=>lhs;whnf);(first|done|exact rfl))));(omega))|(apply zT;(exact rfl);(focus((apply ao;(conv=>lhs;whnf);(first|done|exact rfl))));(focus((apply ao;(conv=>lhs;whnf);(first|done|exact rfl))));(omega))|(apply BD;(exact rfl);(focus((apply ao;(conv=>lhs;whnf);(first|done|exact rfl))));(focus((apply ao;(conv=>lhs;whnf);(first|done|exact rfl))));(focus(first|omega|decide))))) ?_);exact hW.out)):p:=f ⟨h⟩
theorem Dn{p q:Prop}(h:q)(f:Wq q->p:=by(intro hW;(refine cN ?_;refine zs3 ?_;refine zs95 ?_;refine dZ ?_;refine yo ?_;refine zs3 ?_;refine yx ?_;refine cM ?_);exact hW.out)):p:=f ⟨h⟩
theorem Dp{p q:Prop}(h:q)(f:Wq q->p:=by(intro hW;(refine cN ?_;refine sa ?_;refine ed ?_;refine zs3 ?_;refine zs3 ?_;refine sb ?_;refine dZ ?_;refine zs95 ?_;refine dZ ?_;refine yo ?_;refine cM ?_);exact hW.out)):p:=f ⟨h⟩
theorem Dk{p q:Prop}(h:q)(f:Wq q->p:=by(intro hW;(refine cN ?_;refine zs3 ?_;refine jY ?_;refine yo ?_;refine zs3 ?_;refine yx ?_;refine cM ?_);exact hW.out)):p:=f ⟨h⟩
theorem Dl{p q:Prop}(h:q)(f:Wq q->p:=by(intro hW;(refine cN ?_;refine ed ?_;refine zs3 ?_;refine zs3 ?_;refine sb ?_;refine jY ?_;refine yo ?_;refine cM ?_);exact hW.out)):p:=f ⟨h⟩
end
section
open Go.RowKit
namespace DW
theorem An{f:Nat->Nat->Int}(h:∀i j,(f i j).natAbs<=1000){n:Nat}(hn:n<=4):(Mx.D n f).natAbs<=24000000000000:=by
 refine aU (Mx.Am n f h) ?_;have:n=0\/n=1\/n=2\/n=3\/n=4:=by omega
 rcases this with rfl|rfl|rfl|rfl|rfl<;>decide
theorem Bh{d i k:Nat}(h:i=k):lby d i k=2*d:=aB h
theorem Bg{d i k:Nat}(h:i≠k):lby d i k=d:=aj h
theorem oY(a b:Nat):(a:Int)/(b:Int)=((a/b:Nat):Int):=(oN a b).symm
theorem xY(a b:Nat):(a:Int)/((Nat.gcd a b:Nat):Int)*(b:Int)=((Mx.cmb a b:Nat):Int):=by
 unfold Mx.cmb;rw[qN,oN]
set_option maxRecDepth 20000
set_option maxHeartbeats 2000000
theorem qgc3(a:Nat)(b:Int)(ha:a<=9000000000000000000)(hb:b.natAbs<=9000000000000000000):Fn Tryz.prog 197 [.ls 1 [zI a,zI b]] (zI (Nat.gcd a b.natAbs:Nat)):=by
 have:=A7 [(a:Int),b] aY (fun z hz=>by
  rcases aZ.1 hz with e|e
  ·rw[e];omega
  ·rw[bq.1 e];omega)
 rw[Br,jn]at this;exact this
theorem vJ{g:Mx.Mat}{n d:Nat}(hg:g.length=n)(hR:Mx.Rc n g)(hb:Mx.Bd 1000 g)(hn:n<=4)(hd:Mx.D n (Mx.at' g)=(d:Int))(hd0:0<d)(CK:Fn Tryz.prog 47 [qF n g] (zI 0)):Fn Tryz.prog 81 [qF n g] (.tp [zI (lvl d g n:Nat),zI 0]):=by
 have hb2:Mx.Bd 20000 g:=fun i j=>aU (hb i j) aE;have DT:=nX n g hn hg hR hb2;rw[hd]at DT;have bd:d<=24000000000000:=by
  have:=An (f:=Mx.at' g) hb hn;rw[hd]at this;omega
 have MI:∀i k,i<n->k<n->Fn Tryz.prog 206 [dM g,zI i,zI k] (dM (Mx.minor g i k)):=fun i k _ hk=>vI g i k aa (fun l hl=>by have:=hR l hl;omega);have MD:∀i k,i<n->k<n->Fn Tryz.prog 167 [dM (Mx.minor g i k)] (zI (Mx.D (n-1) (Mx.at' (Mx.minor g i k)))):=fun i k hi hk=>by
  obtain⟨m,rfl⟩:∃m,n=m+1:=⟨n-1,by omega⟩;exact nX m (Mx.minor g i k) aa (uC hg hR hi hk).1 (uC hg hR hi hk).2 (Mx.kv hb2 i k)
 have bM:∀i k,(Mx.D (n-1) (Mx.at' (Mx.minor g i k))).natAbs<=24000000000000:=fun i k=>An (fun a b=>Mx.kv hb i k a b) aa;have hS:=fun i k=>Bt hd0 g n i k;have hN:∀i k,0<lnd d g n i k/\lnd d g n i k<=2*d:=fun i k=>⟨pe hd0 g n i k,jo aa (pg d g n i k)⟩;unfold lvl;clear hb2 hb hd;refine aH Tryz.func81 ak rfl rfl rfl fun X0=>?_;simp only[az];refine mr ?_;refine aQ ?_;refine Dr ?_;refine zs1 ?_;refine yG ?_;refine zs1 ?_;clear CK DT
 (refine bE (aD (sl':=[(1,.pt (qF n g)),(5,zI d),(6,zI 1),(20,zI n),(21,zI 0)]) (ow':=[]) aS aR) ?_)
 refine bj (fun r s=>∃i,i<=n/\r=n-i/\s=⟨[(1,.pt (qF n g)),(5,zI d),(6,zI (Mx.fS Mx.cmb (lnd d g n) (fun _=>n) 1 i:Nat)),(20,zI n),(21,zI (i:Nat))],[]⟩) (m:=n) ⟨0,aI _,rfl,rfl⟩ fun r s hs=>?_;obtain⟨i,hi,rfl,rfl⟩:=hs;by_cases hil:i<n
 ·have hE:Mx.fS Mx.cmb (lnd d g n) (fun _=>n) 1 (i+1)=Mx.fR Mx.cmb (lnd d g n i) (Mx.fS Mx.cmb (lnd d g n) (fun _=>n) 1 i) n:=rfl;obtain⟨S,hSe⟩:∃S,S=Mx.fS Mx.cmb (lnd d g n) (fun _=>n) 1 i:=⟨_,rfl⟩;have hSi:=hS i;rw[<-hSe]at hE hSi;rw[<-hSe];clear hS hSe;refine ir ?_;refine yG ?_;refine zs1 ?_
  (refine bE (aD (sl':=[(1,.pt (qF n g)),(5,zI d),(6,zI S),(7,zI (i:Nat)),(20,zI n),(21,zI (i:Nat)),(25,zI n),(26,zI 0)]) (ow':=[]) aS aR) ?_)
  refine bj (fun rr s=>∃k,k<=n/\rr=n-k/\s=⟨[(1,.pt (qF n g)),(5,zI d),(6,zI (Mx.fR Mx.cmb (lnd d g n i) S k:Nat)),(7,zI (i:Nat)),(20,zI n),(21,zI (i:Nat)),(25,zI n),(26,zI (k:Nat))],[]⟩) (m:=n) ⟨0,aI _,rfl,rfl⟩ fun rr s hs=>?_;obtain⟨k,hk,rfl,rfl⟩:=hs;by_cases hkl:k<n
  ·have MIk:=MI i k hil hkl;have MDk:=MD i k hil hkl;have bMk:=bM i k;obtain⟨nd1,nd2⟩:=hN i k;have hnd:lnd d g n i k=lby d i k/Nat.gcd (lby d i k) (Mx.D (n-1) (Mx.at' (Mx.minor g i k))).natAbs:=rfl;have hT1:Mx.fR Mx.cmb (lnd d g n i) S (k+1)=Mx.cmb (Mx.fR Mx.cmb (lnd d g n i) S k) (lnd d g n i k):=rfl;obtain⟨t1,t2⟩:=hSi k;obtain⟨u1,u2⟩:=hSi (k+1);rw[hT1]at u1 u2;obtain⟨T,hTe⟩:∃T,T=Mx.fR Mx.cmb (lnd d g n i) S k:=⟨_,rfl⟩;obtain⟨T1,hT1e⟩:∃T1,T1=Mx.fR Mx.cmb (lnd d g n i) S (k+1):=⟨_,rfl⟩;rw[<-hT1e,<-hTe]at hT1;rw[<-hTe]at t1 t2 u1 u2;rw[<-hTe];obtain⟨md,hmd⟩:∃md,md=Mx.D (n-1) (Mx.at' (Mx.minor g i k)):=⟨_,rfl⟩;rw[<-hmd]at MDk bMk hnd;obtain⟨q,hq⟩:∃q,q=lnd d g n i k:=⟨_,rfl⟩;rw[<-hq]at nd1 nd2 hnd u1 u2 hT1;have hbp:=ph hd0 i k;have hbd:=jo aa (sX d i k);have G2:=qgc3 T (q:Int) aa aa;rw[jn]at G2;have hT2:=xY T q;rw[<-hT1]at hT2 u1 u2;have hq2:=oY T (Nat.gcd T q);have hq2b:T/Nat.gcd T q<=T:=jA _ _;have hg2:0<Nat.gcd T q:=lG _ t1;obtain⟨c2,hc2⟩:∃c2,c2=Nat.gcd T q:=⟨_,rfl⟩;rw[<-hc2]at G2 hT2 hq2 hq2b hg2;obtain⟨e2,he2⟩:∃e2,e2=T/c2:=⟨_,rfl⟩;rw[<-he2]at hq2 hq2b;obtain⟨B,hB⟩:∃B,B=lby d i k:=⟨_,rfl⟩;rw[<-hB]at hnd hbp hbd;have G1:=qgc3 B md aa aa;have hq1:=oY B (Nat.gcd B md.natAbs);rw[<-hnd]at hq1;have hg1:0<Nat.gcd B md.natAbs:=lG _ hbp;obtain⟨c1,hc1⟩:∃c1,c1=Nat.gcd B md.natAbs:=⟨_,rfl⟩;rw[<-hc1]at G1 hq1 hg1;clear hnd hT1 hTe hmd hq hc2 he2 hc1 hSi hN bM MI MD hE;by_cases hik:i=k
   ·rw[Bh hik]at hB;have hB2:2*(d:Int)=((B:Nat):Int):=by omega
    have hikd:decide ((i:Int)=(k:Int))=true:=au aa;clear hik;refine ir ?_;refine dD ?_;refine oI ?_;refine bP ?_;refine bD ?_;refine zs96 ?_;refine cA ?_;rw[hB2];clear hB2 hB;refine zs1 ?_;refine Dp ?_;refine zs1 ?_;rw[hq1];clear hq1 G1 MIk MDk;refine zs1 ?_;refine Dn ?_;refine zs1 ?_;refine dp ?_;rw[hT2];simp only[nx];exact⟨n-(k+1),_,by omega,(aD (sl':=[(1,.pt (qF n g)),(5,zI d),(6,zI (T1:Nat)),(7,zI (i:Nat)),(20,zI n),(21,zI (i:Nat)),(25,zI n),(26,zI ((k+1:Nat):Int))]) (ow':=[]) aS aR),k+1,by omega,rfl,by rw[hT1e]⟩
   ·rw[Bg hik]at hB;subst hB;have hikd:decide ((i:Int)=(k:Int))=false:=aw aa;clear hik;refine ir ?_;refine dD ?_;refine oI ?_;refine aQ ?_;refine Dp ?_;refine zs1 ?_;rw[hq1];clear hq1 G1 MIk MDk;refine zs1 ?_;refine Dn ?_;refine zs1 ?_;refine dp ?_;rw[hT2];simp only[nx];exact⟨n-(k+1),_,by omega,(aD (sl':=[(1,.pt (qF n g)),(5,zI B),(6,zI (T1:Nat)),(7,zI (i:Nat)),(20,zI n),(21,zI (i:Nat)),(25,zI n),(26,zI ((k+1:Nat):Int))]) (ow':=[]) aS aR),k+1,by omega,rfl,by rw[hT1e]⟩
  ·obtain rfl:k=n:=by omega
   rw[<-hE];obtain⟨S1,hS1e⟩:∃S1,S1=Mx.fS Mx.cmb (lnd d g k) (fun _=>k) 1 (i+1):=⟨_,rfl⟩;rw[<-hS1e];clear hE hSi hN MI MD bM;refine eO ?_;refine dp ?_;simp only[nx];exact⟨k-(i+1),_,by omega,(aD (sl':=[(1,.pt (qF k g)),(5,zI d),(6,zI (S1:Nat)),(20,zI k),(21,zI ((i+1:Nat):Int))]) (ow':=[]) aS aR),i+1,by omega,rfl,by rw[hS1e]⟩
 ·obtain rfl:i=n:=by omega
  clear hS hN MI MD bM;generalize Mx.fS Mx.cmb (lnd d g i) (fun _=>i) 1 i=S1 at*;refine eO ?_;refine bD ?_;refine zs8 ?_;refine jZ ?_;refine aJ ?_;refine zs1 ?_;exact⟨_,Sh.refl,.two (.tmp 2) (.tmp 3) _ _ rfl (.tmp 2 rfl) (.tmp 3 rfl)⟩
theorem vF{g:Mx.Mat}{n d:Nat}(hg:g.length=n)(hR:Mx.Rc n g)(hb:Mx.Bd 1000 g)(hn:n<=4)(hd:Mx.D n (Mx.at' g)=(d:Int))(hd0:0<d):Fn Tryz.prog 84 [qF n g] (zI (lvl d g n:Nat)):=by
 have hb2:Mx.Bd 20000 g:=fun i j=>aU (hb i j) aE;have DT:=A4 hg hR hb2 hn;rw[hd]at DT;have bd:d<=24000000000000:=by
  have:=An (f:=Mx.at' g) hb hn;rw[hd]at this;omega
 have CF:∀i k,i<n->k<n->∃c:Int,c.natAbs=(Mx.D (n-1) (Mx.at' (Mx.minor g i k))).natAbs/\Fn Tryz.prog 207 [qF n g,zI i,zI k] (zI c):=fun i k hi hk=>GS hg hR hb2 hn hi hk;have bM:∀i k,(Mx.D (n-1) (Mx.at' (Mx.minor g i k))).natAbs<=24000000000000:=fun i k=>An (fun a b=>Mx.kv hb i k a b) aa;have hS:=fun i k=>Bt hd0 g n i k;have hN:∀i k,0<lnd d g n i k/\lnd d g n i k<=2*d:=fun i k=>⟨pe hd0 g n i k,jo aa (pg d g n i k)⟩;unfold lvl;clear hb2 hb hd hR hg;refine aH Tryz.func84 ak rfl rfl rfl fun X0=>?_;simp only[az];refine eN ?_;refine cX ?_;refine cX ?_
 (refine bE (aD (sl':=[(1,.pt (qF n g)),(3,zI 1),(4,zI 0)]) (ow':=[]) aS aR) ?_)
 refine bj (fun r s=>∃i,i<=n/\r=n-i/\s=⟨[(1,.pt (qF n g)),(3,zI (Mx.fS Mx.cmb (lnd d g n) (fun _=>n) 1 i:Nat)),(4,zI (i:Nat))],[]⟩) (m:=n) ⟨0,aI _,rfl,rfl⟩ fun r s hs=>?_;obtain⟨i,hi,rfl,rfl⟩:=hs;by_cases hil:i<n
 ·have hE:Mx.fS Mx.cmb (lnd d g n) (fun _=>n) 1 (i+1)=Mx.fR Mx.cmb (lnd d g n i) (Mx.fS Mx.cmb (lnd d g n) (fun _=>n) 1 i) n:=rfl;obtain⟨S,hSe⟩:∃S,S=Mx.fS Mx.cmb (lnd d g n) (fun _=>n) 1 i:=⟨_,rfl⟩;have hSi:=hS i;rw[<-hSe]at hE hSi;rw[<-hSe];clear hS hSe;refine dn ?_;refine dF ?_
  (refine bE (aD (sl':=[(1,.pt (qF n g)),(3,zI S),(4,zI (i:Nat)),(5,zI 0)]) (ow':=[]) aS aR) ?_)
  refine bj (fun rr s=>∃k,k<=n/\rr=n-k/\s=⟨[(1,.pt (qF n g)),(3,zI (Mx.fR Mx.cmb (lnd d g n i) S k:Nat)),(4,zI (i:Nat)),(5,zI (k:Nat))],[]⟩) (m:=n) ⟨0,aI _,rfl,rfl⟩ fun rr s hs=>?_;obtain⟨k,hk,rfl,rfl⟩:=hs;by_cases hkl:k<n
  ·obtain⟨c,hcm,CFk⟩:=CF i k hil hkl;have bMk:=bM i k;obtain⟨nd1,nd2⟩:=hN i k;have hnd:lnd d g n i k=lby d i k/Nat.gcd (lby d i k) (Mx.D (n-1) (Mx.at' (Mx.minor g i k))).natAbs:=rfl;have hT1:Mx.fR Mx.cmb (lnd d g n i) S (k+1)=Mx.cmb (Mx.fR Mx.cmb (lnd d g n i) S k) (lnd d g n i k):=rfl;obtain⟨t1,t2⟩:=hSi k;obtain⟨u1,u2⟩:=hSi (k+1);rw[hT1]at u1 u2;obtain⟨T,hTe⟩:∃T,T=Mx.fR Mx.cmb (lnd d g n i) S k:=⟨_,rfl⟩;obtain⟨T1,hT1e⟩:∃T1,T1=Mx.fR Mx.cmb (lnd d g n i) S (k+1):=⟨_,rfl⟩;rw[<-hT1e,<-hTe]at hT1;rw[<-hTe]at t1 t2 u1 u2;rw[<-hTe];rw[<-hcm]at bMk hnd;obtain⟨q,hq⟩:∃q,q=lnd d g n i k:=⟨_,rfl⟩;rw[<-hq]at nd1 nd2 hnd u1 u2 hT1;have hbp:=ph hd0 i k;have hbd:=jo aa (sX d i k);have G2:=ru (T:Int) (q:Int) aa aa;rw[jn,jn]at G2;have hT2:=xY T q;rw[<-hT1]at hT2 u1 u2;have hq2:=oY T (Nat.gcd T q);have hq2b:T/Nat.gcd T q<=T:=jA _ _;have hg2:0<Nat.gcd T q:=lG _ t1;obtain⟨c2,hc2⟩:∃c2,c2=Nat.gcd T q:=⟨_,rfl⟩;rw[<-hc2]at G2 hT2 hq2 hq2b hg2;obtain⟨e2,he2⟩:∃e2,e2=T/c2:=⟨_,rfl⟩;rw[<-he2]at hq2 hq2b;obtain⟨B,hB⟩:∃B,B=lby d i k:=⟨_,rfl⟩;rw[<-hB]at hnd hbp hbd;have G1:=ru (B:Int) c aa aa;rw[jn]at G1;have hq1:=oY B (Nat.gcd B c.natAbs);rw[<-hnd]at hq1;have hg1:0<Nat.gcd B c.natAbs:=lG _ hbp;obtain⟨c1,hc1⟩:∃c1,c1=Nat.gcd B c.natAbs:=⟨_,rfl⟩;rw[<-hc1]at G1 hq1 hg1;clear hnd hT1 hTe hcm hq hc2 he2 hc1 hSi hN bM CF hE;by_cases hik:i=k
   ·rw[Bh hik]at hB;have hB2:2*(d:Int)=((B:Nat):Int):=by omega
    have hikd:decide ((i:Int)=(k:Int))=true:=au aa;clear hik;refine dn ?_;refine bP ?_;refine ud ?_;refine zs1 ?_;refine oI ?_;refine bP ?_;refine bD ?_;refine zs96 ?_;refine cA ?_;rw[hB2];clear hB2 hB;refine zs1 ?_;refine Dl ?_;refine zs1 ?_;rw[hq1];clear hq1 G1 CFk;refine zs1 ?_;refine Dk ?_;refine zs1 ?_;refine kH ?_;refine zs1 ?_;rw[hT2];simp only[nx];exact⟨n-(k+1),_,by omega,(aD (sl':=[(1,.pt (qF n g)),(3,zI (T1:Nat)),(4,zI (i:Nat)),(5,zI ((k+1:Nat):Int))]) (ow':=[]) aS aR),k+1,by omega,rfl,by rw[hT1e]⟩
   ·rw[Bg hik]at hB;subst hB;have hikd:decide ((i:Int)=(k:Int))=false:=aw aa;clear hik;refine dn ?_;refine bP ?_;refine ud ?_;refine zs1 ?_;refine oI ?_;refine aQ ?_;refine Dl ?_;refine zs1 ?_;rw[hq1];clear hq1 G1 CFk;refine zs1 ?_;refine Dk ?_;refine zs1 ?_;refine kH ?_;refine zs1 ?_;rw[hT2];simp only[nx];exact⟨n-(k+1),_,by omega,(aD (sl':=[(1,.pt (qF n g)),(3,zI (T1:Nat)),(4,zI (i:Nat)),(5,zI ((k+1:Nat):Int))]) (ow':=[]) aS aR),k+1,by omega,rfl,by rw[hT1e]⟩
  ·obtain rfl:k=n:=by omega
   rw[<-hE];obtain⟨S1,hS1e⟩:∃S1,S1=Mx.fS Mx.cmb (lnd d g k) (fun _=>k) 1 (i+1):=⟨_,rfl⟩;rw[<-hS1e];clear hE hSi hN CF bM DT;refine dn ?_;refine jd ?_;simp only[nx];exact⟨k-(i+1),_,by omega,(aD (sl':=[(1,.pt (qF k g)),(3,zI (S1:Nat)),(4,zI ((i+1:Nat):Int))]) (ow':=[]) aS aR),i+1,by omega,rfl,by rw[hS1e]⟩
 ·obtain rfl:i=n:=by omega
  clear hS hN CF bM DT;generalize Mx.fS Mx.cmb (lnd d g i) (fun _=>i) 1 i=S1 at*;refine dn ?_;refine aQ ?_;refine dD ?_;exact⟨_,Sh.refl,.one (.tmp 2) _ rfl (.tmp 2 rfl)⟩
end DW
end
end Go.Proofs.YtepdigdijecgpaaGreat
