/- Lemmas for the law: F5 Q21 Q22 Q23 Q24 -/
import Derived.Test.YtepdigdijecgpaaGreatZa6
namespace Go.Proofs.YtepdigdijecgpaaGreat
section
abbrev xA:=@Nat.lt_or_gt_of_ne
theorem Hc{p q:Prop}(h:q)(f:Wq q->p:=by(intro hW;(refine jX ?_;refine zs3 ?_;refine AX ?_;refine il ?_;refine gg ?_;refine mQ ?_;refine aK ?_);exact hW.out)):p:=f ⟨h⟩
theorem AF{p q:Prop}(h:q)(f:Wq q->p:=by(intro hW;((first|(refine aLs rfl rfl rfl rfl ?_ ?_;(focus(apply bF;(conv=>lhs;whnf);(first|done|exact rfl|(apply bA;(first|(apply aq;omega)|(apply ao;omega)|assumption|(simp;done)))))))|refine aLw rfl rfl rfl rfl cZ zb35 ?_));exact hW.out)):p:=f ⟨h⟩
theorem Hg{p q:Prop}(h:q)(f:Wq q->p:=by(intro hW;(refine nW ?_;refine mQ ?_;refine zs3 ?_;refine zs68 ?_;refine nT ?_;refine AF ?_;refine nS ?_;refine wq ?_;refine zs70 ?_;refine uE ?_;refine nS ?_;refine cw ?_);exact hW.out)):p:=f ⟨h⟩
theorem zs80{p q:Prop}(h:q)(f:Wq q->p:=by(intro hW;((first|(refine aLs rfl rfl rfl rfl ?_ ?_;(focus(apply bF;(conv=>lhs;whnf);(first|done|exact rfl|(apply bA;(first|(apply aq;omega)|(apply ao;omega)|assumption|(simp;done)))))))|refine aLw rfl rfl rfl rfl cZ zb10 ?_));exact hW.out)):p:=f ⟨h⟩
theorem zs83{p q:Prop}(h:q)(f:Wq q->p:=by(intro hW;((first|(refine aLsu rfl rfl rfl rfl ?_ ?_;(focus(apply bF;exact rfl)))|(refine aLs rfl rfl rfl rfl ?_ ?_;(focus(apply bF;(conv=>lhs;whnf);(first|done|exact rfl|(apply bA;(first|(apply aq;omega)|(apply ao;omega)|assumption|(simp;done)))))))|refine aLw rfl rfl rfl rfl cZ zb8 ?_));exact hW.out)):p:=f ⟨h⟩
theorem zs84{p q:Prop}(h:q)(f:Wq q->p:=by(intro hW;((first|(refine aLsu rfl rfl rfl rfl ?_ ?_;(focus(apply bF;exact rfl)))|(refine aLs rfl rfl rfl rfl ?_ ?_;(focus(apply bF;(conv=>lhs;whnf);(first|done|exact rfl|(apply bA;(first|(apply aq;omega)|(apply ao;omega)|assumption|(simp;done)))))))|refine aLw rfl rfl rfl rfl cZ zb20 ?_));exact hW.out)):p:=f ⟨h⟩
theorem zs85{p q:Prop}(h:q)(f:Wq q->p:=by(intro hW;((first|(refine aLs rfl rfl rfl rfl ?_ ?_;(focus(apply bF;(conv=>lhs;whnf);(first|done|exact rfl|(apply bA;(first|(apply aq;omega)|(apply ao;omega)|assumption|(simp;done)))))))|refine aLw rfl rfl rfl rfl cZ zb6 ?_));exact hW.out)):p:=f ⟨h⟩
theorem zs81{p q:Prop}(h:q)(f:Wq q->p:=by(intro hW;((first|(refine aLs0 rfl rfl rfl rfl ?_ ?_;(focus(apply bF;(conv=>lhs;whnf);(first|done|exact rfl|(apply bA;(first|(apply aq;omega)|(apply ao;omega)|assumption|(simp;done)))))))|refine aLw rfl rfl rfl rfl cZ mS ?_));exact hW.out)):p:=f ⟨h⟩
theorem zs82{p q:Prop}(h:q)(f:Wq q->p:=by(intro hW;((first|(refine aLsu rfl rfl rfl rfl ?_ ?_;(focus(apply bF;exact rfl)))|(refine aLs rfl rfl rfl rfl ?_ ?_;(focus(apply bF;(conv=>lhs;whnf);(first|done|exact rfl|(apply bA;(first|(apply aq;omega)|(apply ao;omega)|assumption|(simp;done)))))))|refine aLw rfl rfl rfl rfl cZ mS ?_));exact hW.out)):p:=f ⟨h⟩
theorem wC{p q:Prop}(h:q)(f:Wq q->p:=by(intro hW;(refine bI ?_;refine zs71 ?_;refine ff ?_;refine kF ?_;refine kF ?_;refine nZ ?_;refine zs3 ?_;refine zs5 ?_;refine zs5 ?_;refine zs80 ?_;refine zs81 ?_;refine zs82 ?_;refine zs83 ?_;refine zs84 ?_;refine zs85 ?_;refine nS ?_;refine aK ?_);exact hW.out)):p:=f ⟨h⟩
theorem Bb{p q:Prop}(h:q)(f:Wq q->p:=by(intro hW;(refine nW ?_;refine mQ ?_;refine zs3 ?_;refine zs68 ?_;refine nT ?_;refine AF ?_;refine nS ?_;refine wq ?_;refine wZ ?_;refine uE ?_;refine nS ?_;refine cw ?_);exact hW.out)):p:=f ⟨h⟩
theorem He{p q:Prop}(h:q)(f:Wq q->p:=by(intro hW;(refine jX ?_;refine uD ?_;refine iK ?_;refine cw ?_);exact hW.out)):p:=f ⟨h⟩
end
section
open Go.RowKit
namespace DW
set_option maxRecDepth 20000
set_option maxHeartbeats 2000000
theorem qpc_s(g:Mx.Mat)(hg:g.length<=1000000)(N:Int)(h:¬(2<=N/\N<=4/\sqB g N=true)):Fn Tryz.prog 47 [qF N g] (zI 9):=by
 by_cases h1:N<2
 ·have hd:decide (N<2)=true:=aq h1;refine aF Tryz.func47 ak rfl rfl rfl fun X0=>?_;simp only[aA];refine iD ?_;refine Hg ?_;refine db ?_;exact⟨_,Sh.refl,.one (.tmp 2) _ rfl (.tmp 2 rfl)⟩
 ·have hd:decide (N<2)=false:=ao h1;by_cases h2:N>4
  ·have hd2:decide (N>4)=true:=aq h2;refine aF Tryz.func47 ak rfl rfl rfl fun X0=>?_;simp only[aA];refine iD ?_;refine Hg ?_;refine db ?_;exact⟨_,Sh.refl,.one (.tmp 2) _ rfl (.tmp 2 rfl)⟩
  ·have hd2:decide (N>4)=false:=ao h2;have SQ:=oB g hg N;have hs:sqB g N=false:=by
    cases hb:sqB g N with
    |false=>rfl
    |true=>exact absurd ⟨by omega,by omega,hb⟩ h
   rw[hs]at SQ;refine aF Tryz.func47 ak rfl rfl rfl fun X0=>?_;simp only[aA];refine iD ?_;refine Bb ?_;refine db ?_;exact⟨_,Sh.refl,.one (.tmp 2) _ rfl (.tmp 2 rfl)⟩
theorem qpc_l(g:Mx.Mat)(hg:g.length<=1000000)(hrr:∀r∈g,r.length<=1000000)(N:Int)(h2:2<=N)(h4:N<=4)(hs:sqB g N=true)(hb:eJ 1000 g=false):Fn Tryz.prog 47 [qF N g] (zI 8):=by
 have hd:decide (N<2)=false:=ao aa;have hd2:decide (N>4)=false:=ao aa;have SQ:=oB g hg N;rw[hs]at SQ;have SZ:=qy g hg hrr 1000 aa aa;rw[hb]at SZ;refine aF Tryz.func47 ak rfl rfl rfl fun X0=>?_;simp only[aA];refine iD ?_;refine Bb ?_;refine bc ?_;refine He ?_;refine db ?_;exact⟨_,Sh.refl,.one (.tmp 2) _ rfl (.tmp 2 rfl)⟩
theorem HC(g:Mx.Mat)(n:Nat)(c:Int)(hc:c=0/\QP g n\/c=3/\¬QP g n)(hl:g.length=n)(h2:2<=n)(h4:n<=4)(hR:Mx.Rc n g)(hb:eJ 1000 g=true):Fn Tryz.prog 47 [qF n g] (zI c):=by
 have hd:decide ((n:Int)<2)=false:=ao aa;have hd2:decide ((n:Int)>4)=false:=ao aa;have SQ:=oB g aa n;rw[xW aa (fun r hr=>by have:=hR r hr;omega)]at SQ;have SZ:=qy g aa (fun r hr=>by have:=hR r hr;omega) 1000 aa aa;rw[hb]at SZ;have CR:∀m:Nat,m<n->Fn Tryz.prog 168 [dM g,zI ((m:Int)+1)] (dM (crn g (m+1))):=fun m hm=>GF g (m+1) n hl h4 aa hR;have DT:∀m:Nat,m<n->Fn Tryz.prog 167 [dM (crn g (m+1))] (zI (Mx.D (m+1) (Mx.at' g))):=fun m hm=>by
  have:=Eg (m+1) (crn g (m+1)) aa (J1 aa) (LP aa hR) (LR (rC (m:=1000) hb aa));rw[Mx.cE (m+1) _ (Mx.at' g) fun i j hi hj=>LU aa hi hj]at this;exact this
 clear hb;refine aF Tryz.func47 ak rfl rfl rfl fun X0=>?_;simp only[aA];refine iD ?_;refine Bb ?_;refine bc ?_;refine He ?_;refine bc ?_;refine jX ?_;refine gh ?_;refine xi ?_;refine je ?_;clear hd hd2 SQ SZ
 (refine bh (aO (sl':=[(1,.pt (qF n g)),(31,dM g),(32,zI g.length),(33,zI 0)]) (ow':=[]) ba aZ) ?_)
 refine bw (fun r s=>∃j,j<=n/\r=n-j/\(∀a k,a<j->k<n->Mx.at' g a k=Mx.at' g k a)/\(∀a,a<j->(Mx.at' g a a).tmod 2=0)/\s=⟨[(1,.pt (qF n g)),(31,dM g),(32,zI g.length),(33,zI (j:Nat))],[]⟩) (m:=n) ⟨0,aP _,rfl,fun a k h=>by omega,fun m h1=>by omega,rfl⟩ fun r s hs=>?_;obtain⟨j,hj,rfl,hy,hp,rfl⟩:=hs;by_cases hjl:j<n
 ·obtain⟨r,hr⟩:=get_some (m:=g) (k:=j) aa;have hrl:=hR r (bf hr);clear CR DT;refine jV ?_;refine jO ?_
  (refine bh (aO (sl':=[(1,.pt (qF n g)),(3,zI (j:Nat)),(31,dM g),(32,zI g.length),(33,zI (j:Nat)),(38,dI r),(39,zI r.length),(40,zI 0)]) (ow':=[]) ba aZ) ?_)
  refine bw (fun rr s=>∃k,k<=n/\rr=n-k/\(∀b,b<k->Mx.at' g j b=Mx.at' g b j)/\(j<k->(Mx.at' g j j).tmod 2=0)/\s=⟨[(1,.pt (qF n g)),(3,zI (j:Nat)),(31,dM g),(32,zI g.length),(33,zI (j:Nat)),(38,dI r),(39,zI r.length),(40,zI (k:Nat))],[]⟩) (m:=n) ⟨0,aP _,rfl,fun b h=>by omega,fun h=>by omega,rfl⟩ fun rr s hs=>?_;obtain⟨k,hk,rfl,hyk,hpk,rfl⟩:=hs;by_cases hkl:k<n
  ·obtain⟨q,hq⟩:=get_some (m:=g) (k:=k) aa;have hql:=hR q (bf hq);obtain⟨x,hx⟩:=get_some (m:=r) (k:=k) aa;obtain⟨y,hy2⟩:=get_some (m:=q) (k:=j) aa;have ex:Mx.at' g j k=x:=by unfold Mx.at';rw[Mx.cM hr,aH,hx];rfl
   have ey:Mx.at' g k j=y:=by unfold Mx.at';rw[Mx.cM hq,aH,hy2];rfl
   by_cases hxy:x=y
   ·have hxd:(!decide (x=y))=false:=by rw[aq hxy];rfl
    have hyk':∀b,b<k+1->Mx.at' g j b=Mx.at' g b j:=fun b hb=>by
     by_cases e:b=k
     ·rw[e,ex,ey,hxy]
     ·exact hyk b aa
    by_cases hjk:j=k
    ·have hjd:decide ((j:Int)=(k:Int))=true:=aq aa;have exj:Mx.at' g j j=x:=by rw[<-ex,hjk]
     by_cases hev:x.tmod 2=0
     ·have hdv:(!decide (x.tmod 2=0))=false:=by rw[aq hev];rfl
      have hpk':j<k+1->(Mx.at' g j j).tmod 2=0:=fun _=>by rw[exj];exact hev
      clear hy hp hyk hc ex ey hpk hxy hev exj hjk;refine jV ?_;refine wC ?_;refine jU ?_;simp only[nx];exact⟨n-(k+1),_,by omega,(aO (sl':=[(1,.pt (qF n g)),(3,zI (j:Nat)),(31,dM g),(32,zI g.length),(33,zI (j:Nat)),(38,dI r),(39,zI r.length),(40,zI ((k+1:Nat):Int))]) (ow':=[]) ba aZ),k+1,by omega,rfl,hyk',hpk',rfl⟩
     ·have hdv:(!decide (x.tmod 2=0))=true:=by rw[ao hev];rfl
      obtain rfl:c=3:=by
       rcases hc with⟨_,h⟩|⟨h,_⟩
       ·exact absurd (by rw[<-exj];exact h.2.1 j aa) hev
       ·exact h
      clear hy hp hyk hc ex ey hpk hxy hev exj hjk hyk';refine jV ?_;refine wC ?_;refine db ?_;exact⟨_,Sh.refl,.one (.tmp 2) _ rfl (.tmp 2 rfl)⟩
    ·have hjd:decide ((j:Int)=(k:Int))=false:=ao aa;have hpk':j<k+1->(Mx.at' g j j).tmod 2=0:=fun h=>hpk aa;clear hy hp hyk hc ex ey hpk hxy;refine jV ?_;refine wC ?_;refine jU ?_;simp only[nx];exact⟨n-(k+1),_,by omega,(aO (sl':=[(1,.pt (qF n g)),(3,zI (j:Nat)),(31,dM g),(32,zI g.length),(33,zI (j:Nat)),(38,dI r),(39,zI r.length),(40,zI ((k+1:Nat):Int))]) (ow':=[]) ba aZ),k+1,by omega,rfl,hyk',hpk',rfl⟩
   ·have hxd:(!decide (x=y))=true:=by rw[ao hxy];rfl
    obtain rfl:c=3:=by
     rcases hc with⟨_,h⟩|⟨h,_⟩
     ·exact absurd (ex.symm.trans ((h.1 j k aa aa).trans ey)) hxy
     ·exact h
    clear hy hp hyk hc ex ey hpk;refine jV ?_;refine wC ?_;refine db ?_;exact⟨_,Sh.refl,.one (.tmp 2) _ rfl (.tmp 2 rfl)⟩
  ·obtain rfl:k=n:=by omega
   have hy':∀a b,a<j+1->b<k->Mx.at' g a b=Mx.at' g b a:=fun a b ha hb=>by
    by_cases e:a=j
    ·rw[e];exact hyk b hb
    ·exact hy a b aa hb
   have hp':∀a,a<j+1->(Mx.at' g a a).tmod 2=0:=fun a ha=>by
    by_cases e:a=j
    ·rw[e];exact hpk hjl
    ·exact hp a aa
   clear hy hp hyk hc hpk;refine gu ?_;refine kG ?_;refine zs1 ?_;simp only[nx];exact⟨k-(j+1),_,by omega,(aO (sl':=[(1,.pt (qF k g)),(31,dM g),(32,zI g.length),(33,zI ((j+1:Nat):Int))]) (ow':=[]) ba aZ),j+1,by omega,rfl,hy',hp',rfl⟩
 ·obtain rfl:j=n:=by omega
  refine gu ?_;refine nW ?_;refine xi ?_;refine je ?_
  (refine bh (aO (sl':=[(1,.pt (qF j g)),(68,zI j),(69,zI 0)]) (ow':=[]) ba aZ) ?_)
  refine bw (fun r s=>∃m,m<=j/\r=j-m/\(∀q,1<=q->q<=m->0<Mx.D q (Mx.at' g))/\s=⟨[(1,.pt (qF j g)),(68,zI j),(69,zI (m:Nat))],[]⟩) (m:=j) ⟨0,aP _,rfl,fun m h1 h2=>by omega,rfl⟩ fun r s hs=>?_;obtain⟨m,hm,rfl,hpp,rfl⟩:=hs;by_cases hml:m<j
  ·have CRm:=CR m hml;have DTm:=DT m hml;have hbad:¬0<Mx.D (m+1) (Mx.at' g)->c=3:=fun h=>by
    rcases hc with⟨_,h2⟩|⟨h2,_⟩
    ·exact absurd (h2.2.2 (m+1) aa aa) h
    ·exact h2
   have hpp':0<Mx.D (m+1) (Mx.at' g)->∀q,1<=q->q<=m+1->0<Mx.D q (Mx.at' g):=fun h q h1 h2=>by
    by_cases e:q=m+1
    ·rw[e];exact h
    ·exact hpp q h1 aa
   obtain⟨d,hd⟩:∃d,d=Mx.D (m+1) (Mx.at' g):=⟨_,rfl⟩;rw[<-hd]at DTm hbad hpp';clear hpp hc DT CR hd hy hp;by_cases hd0:0<d
   ·have hpp2:=hpp' hd0;have hdd:decide (d<=0)=false:=ao aa;clear hbad hpp';refine nX ?_;refine dD ?_;refine Hc ?_;refine jU ?_;simp only[nx];exact⟨j-(m+1),_,by omega,(aO (sl':=[(1,.pt (qF j g)),(68,zI j),(69,zI ((m+1:Nat):Int))]) (ow':=[]) ba aZ),m+1,by omega,rfl,hpp2,rfl⟩
   ·obtain rfl:=hbad hd0;have hdd:decide (d<=0)=true:=aq aa;clear hbad hpp';refine nX ?_;refine dD ?_;refine Hc ?_;refine db ?_;exact⟨_,Sh.refl,.one (.tmp 2) _ rfl (.tmp 2 rfl)⟩
  ·obtain rfl:m=j:=by omega
   obtain rfl:c=0:=by
    rcases hc with⟨h,_⟩|⟨_,h⟩
    ·exact h
    ·exact absurd ⟨fun i k hi hk=>hy i k hi hk,fun i hi=>hp i hi,hpp⟩ h
   clear hpp hc DT CR hy hp;refine gu ?_;refine dQ ?_;exact⟨_,Sh.refl,.one (.tmp 2) _ rfl (.tmp 2 rfl)⟩
end DW
end
section
open Go.RowKit
namespace CI
variable {P : Program} {h h' : H} {tm tm' : Tm} {rec : Rec} {n : Nat} {r : List RO} {S : Nat->SD} {ops : Array Oper}
theorem Trace.mono(t:Trace rec r tm h tm' h' S)(hg:dn rec)(f:Wf h){i j:Nat}(hij:i<=j)(hj:j<=r.length):(S i).h.next<=(S j).h.next:=by
 have:=(t.gdm hg f (j-i) i aa).good.next
 rwa[show i+(j-i)=j by omega]at this
theorem Trace.low(t:Trace rec r tm h tm' h' S)(hg:dn rec)(f:Wf h){i j:Nat}(hij:i<=j)(hj:j<=r.length):(S j).h.low<=(S i).h.low:=by
 have:=(t.gdm hg f (j-i) i aa).good.low;rwa[show i+(j-i)=j by omega]at this
theorem mu{g h1:H}{k:Nat}(e:T.get h1.t k=T.get g.t k):(g.whole h1).get k=g.get k:=by
 unfold H.get;show(match bH k g.forb with|true=>none|false=>T.get h1.t k)=_;rw[e];rfl
theorem sS{g g':H}{ob:Option B}(e:g.iq ob=some g'){k:Nat}(hk:k<g.next):g'.get k=g.get k:=by
 cases ob with
 |none=>simp only[H.iq,ah]at e;rw[e]
 |some b=>
  obtain⟨_,_,h3,_,h5⟩:=cG e;exact ug h3 (by rw[h5,ai aa])
def SD.wk(s:SD)(k:Nat):Bool:=s.wr&&s.fr.has k
def SD.rk(s:SD)(k:Nat):Bool:=s.rd&&s.fr.has k
theorem Trace.HF(t:Trace rec r tm h tm' h' S)(hg:dn rec)(f:Wf h){i k:Nat}(hi:i<r.length)(hw:(S (i+1)).wk k=false)(hk:k<(S i).h.next):(S (i+1)).h.get k=(S i).h.get k:=by
 obtain⟨o,ho⟩:∃o,r[i]?=some o:=⟨_,aS hi⟩;have f1:=(t.gd hg f i aa).1;rcases(t.cases ho).2 with⟨_,_,e,_⟩|⟨_,_,_,_,_,ob,_,e,_⟩|⟨_,_,_,h1,e1,e2,e3,_⟩
 ·rw[e]
 ·exact sS e hk
 ·rw[e2];unfold SD.wk at hw
  cases hw2:(S (i+1)).wr with
  |false=>
   refine mu ((kL hg (iZ f1) e1).good.keep k hk ?_);rw[e3]at hw2;refine aJ hk (cY fun hlt=>?_);rw[<-aV]at hlt;rw[hlt]at hw2;cases hw2
  |true=>
   rw[hw2,fR]at hw;refine mu ((kL hg (iZ f1) e1).good.dead k hk fun hl=>?_);rw[(gO (ed hl)).2 hk]at hw;cases hw
theorem Trace.keepO(t:Trace rec r tm h tm' h' S)(hg:dn rec)(f:Wf h){i k q:Nat}{ro:RO}(hi:r[i]?=some ro)(hq:q<i)(hp:ro.pre.testBit q=false)(h1:(S q).h.next<=k)(h2:k<(S (q+1)).h.next):(S (i+1)).h.get k=(S i).h.get k:=by
 have hlt:=(bW.1 hi).1;have hk:k<(S i).h.next:=aJ h2 (t.mono hg f hq aa)
 have f1:=(t.gd hg f i aa).1;rcases(t.cases hi).2 with⟨_,_,e,_⟩|⟨_,_,_,_,_,ob,_,e,_⟩|⟨_,_,_,g1,e1,e2,e3,_⟩
 ·rw[e]
 ·exact sS e hk
 ·rw[e2];refine mu ((kL hg (iZ f1) e1).good.dead k hk fun hl=>?_);have:=(gO (ed hl)).1;rw[qt ((t.iv i aa).2 q hq aa) hp h1 h2]at this;cases this
theorem Trace.BF(t:Trace rec r tm h tm' h' S){i:Nat}(hi:i<r.length)(hw:(S (i+1)).wr=true):(S (i+1)).rd=true:=by
 obtain⟨o,ho⟩:∃o,r[i]?=some o:=⟨_,aS hi⟩;rcases(t.cases ho).2 with⟨_,_,_,e,_⟩|⟨_,_,e,_⟩|⟨_,_,e,_⟩
 ·rw[e]at hw;cases hw
 ·rw[e]at hw;cases hw
 ·exact e
theorem Trace.BG(t:Trace rec r tm h tm' h' S){i k:Nat}(hi:i<r.length)(hw:(S (i+1)).wk k=true):(S (i+1)).rk k=true:=by
 unfold SD.wk at hw;unfold SD.rk;rw[bV]at hw⊢;exact⟨t.BF hi hw.1,hw.2⟩
theorem Trace.bound(t:Trace rec r tm h tm' h' S){i j k:Nat}{ro:RO}(hij:i<j)(hj:r[j]?=some ro)(hk:((S (i+1)).wk k=true/\(S (j+1)).rk k=true)\/((S (i+1)).rk k=true/\(S (j+1)).wk k=true)):ro.pre.testBit i=true:=by
 have hlt:=(bW.1 hj).1;simp only[SD.wk,SD.rk,bV]at hk;have hf:(S (i+1)).fr.has k=true/\(S (j+1)).fr.has k=true:=by
  rcases hk with⟨h1,h2⟩|⟨h1,h2⟩<;>exact⟨h1.2,h2.2⟩
 have hh:((S (i+1)).wr=true/\(S (j+1)).rd=true)\/((S (i+1)).rd=true/\(S (j+1)).wr=true):=by
  rcases hk with⟨h1,h2⟩|⟨h1,h2⟩
  ·exact .inl ⟨h1.1,h2.1⟩
  ·exact .inr ⟨h1.1,h2.1⟩
 clear hk;have hri:(S (i+1)).rd=true:=by
  rcases hh with⟨h1,_⟩|⟨h1,_⟩
  ·exact t.BF aa h1
  ·exact h1
 have hrj:(S (j+1)).rd=true:=by
  rcases hh with⟨_,h1⟩|⟨_,h1⟩
  ·exact h1
  ·exact t.BF hlt h1
 rcases(t.cases hj).2 with⟨_,_,_,_,e,_⟩|⟨_,_,_,e,_⟩|⟨_,_,_,g1,_,_,_,e4,_⟩
 ·rw[e]at hrj;cases hrj
 ·rw[e]at hrj;cases hrj
 ·refine rR e4 (t.rw' j aa i hij hri) ?_ hf.1 hf.2;rcases hh with⟨h1,_⟩|⟨_,h1⟩<;>simp[h1]
theorem stay{k x:Nat}:∀{y:Nat},x<=y->(∀i,x<=i->i<y->(S (i+1)).h.get k=(S i).h.get k)->(S y).h.get k=(S x).h.get k:=fun {y} hxy=>by
 induction y with
 |zero=>intro _;rw[show x=0 by omega]
 |succ y ih=>
  intro hh;by_cases hx:x=y+1
  ·rw[hx]
  ·rw[hh y aa aa,ih aa fun i h1 h2=>hh i h1 aa]
theorem Trace.owner(t:Trace rec r tm h tm' h' S){k:Nat}:∀{j:Nat},(S 0).h.next<=k->k<(S j).h.next->∃q,q<j/\(S q).h.next<=k/\k<(S (q+1)).h.next
 |0,h1,h2=>by omega
 |j+1,h1,h2=>by
  by_cases hk:k<(S j).h.next
  ·obtain⟨q,q1,q2⟩:=t.owner h1 hk;exact⟨q,by omega,q2⟩
  ·exact⟨j,by omega,by omega,h2⟩
structure Ii(P:Program)(S:Nat->SD)(ops:Array Oper)(j:Nat)(o:Oper)(pre:Nat)(G h1:H):Prop where
 nx:G.next=(S j).h.next
 nx1:h1.next=(S (j+1)).h.next
 g1:∀k b,G.get k=some b->k<(S j).h.next/\(S j).h.get k=some b/\(S (j+1)).rk k=true/\∀q,q<j->(S q).h.next<=k->k<(S (q+1)).h.next->pre.testBit q=true
 g2:∀k b,(S j).h.next<=k->(S (j+1)).h.get k=some b->h1.get k=some b
 g3:∀k,G.live k->(S (j+1)).h.get k=h1.get k
 g4:∀k,k<(S j).h.next->¬G.live k->(S (j+1)).h.get k=(S j).h.get k
 g5:∀k,(S (j+1)).wk k=false->G.live k->h1.get k=G.get k
 low:∀k,G.live k->h1.low<=k->(S (j+1)).h.low<=k
 bd:(S j).h.next<=1000000
 wp:∀(F:Fence) (_:FC F) (Q:Exit->Act->World->Prop) (K:Act->World->Prop) (A:Nat->Prop) (ρ:Nat->Nat) (w:World) (a:Act),Rel P A ρ w G->Dj A G h1->(∀u,u∈looks ops o->VR P A ρ w (CO.ev (S j).tm (CO.t u)) (a.tmps.getD u undef))->
  (∀u w' ρ',bR P A ρ w G ρ' w' h1->VR P (Ext A G h1) ρ' w' (S (j+1)).v u->K (a.put o.dst u) w')->wpOpIn F 0 P ops Q j K a w
def bare(k:Nat):H:=⟨k,k,[],.e⟩
theorem pj(k j:Nat):(bare k).get j=none:=by
 unfold H.get bare;simp only[bH,T.uh]
theorem jc(k j:Nat):¬(bare k).live j:=by unfold H.live;rw[pj];simp
theorem yA{A:Nat->Prop}{ρ:Nat->Nat}{w:World}{a:Act}{o:Oper}{tm:Tm}(hl:∀u,u∈looks ops o->VR P A ρ w (CO.ev tm (CO.t u)) (a.tmps.getD u undef)):HV P A ρ w tm a o:=fun y hy=>by
 cases y with
 |tmp u=>
  have:=hl u (by
   unfold looks;exact List.mem_append_right _ (List.mem_filterMap.2 ⟨.tmp u,by simpa using hy,rfl⟩))
  unfold OpV;simpa[aw,Act.eval]using this
 |const v=>exact vW v
 |global g=>simp only[OpV,aw,CO.ev,VR]
 |func g=>
  show VR P A ρ w (.fn g []) (.func (.func g) #[] #[]);simp only[VR,VRl];exact⟨_,rfl,rfl⟩
theorem IJ(hrec:jB P rec)(hg:dn rec)(t:Trace rec r tm h tm' h' S)(st:Stat P n ops r)(f:Wf h){j:Nat}{o:Oper}(ho:ops[j]?=some o):∃ro G h1,r[j]?=some ro/\cr n o.dst=true/\(S (j+1)).tm=gj (S j).tm o.dst (S (j+1)).v/\Ii P S ops j o ro.pre G h1:=by
 obtain⟨g,p,hr,hdst,hgd⟩:=st.row j o ho;have hjl:j<r.length:=(bW.1 hr).1;obtain⟨f1,_⟩:=t.gd hg f j aa;obtain⟨ht,hcs⟩:=t.cases hr;have hwant:∀(A:Nat->Prop) (ρ:Nat->Nat) (w:World) (a:Act) (b:Bool),eW ⟨o.dst,g,(match aE P o.op with|some x=>x|none=> .bad),p⟩ (S j).tm=some b->(∀u,u∈looks ops o->VR P A ρ w (CO.ev (S j).tm (CO.t u)) (a.tmps.getD u undef))->Region.wanted o (yielded ops a.tmps)=b:=fun A ρ w a b hw hl=>by
  refine oz (P:=P) (A:=A) (ρ:=ρ) (w:=w) hgd hw fun u c hc=>hl u ?_;unfold looks;refine List.mem_append_left _ ?_
  cases hog:o.guard with
  |none=>rw[hog]at hgd;simp only[ah]at hgd;rw[<-hgd]at hc;cases hc
  |some q=>
   obtain⟨q1,q2⟩:=q;rw[hog]at hgd;simp only at hgd⊢;obtain⟨u',e1,e2⟩:=an hgd;rw[hc]at e2;simp only[ah,aD]at e2;rw[e1,e2.1];simp
 rcases hcs with⟨hw,hv,hh,hwr,hrd,_⟩|⟨hw,hT,hwr,hrd,_,ob,e1,e2,_⟩|⟨hw,hT,hrd,h1,e1,e2,e3,e4,_⟩
 ·refine⟨_,bare (S j).h.next,bare (S j).h.next,hr,hdst,ht,rfl,(by rw[hh];rfl),(fun k b e=>by rw[pj]at e;cases e),fun k b hk e=>?_,fun k hl=>absurd hl (jc _ _),(fun k _ _=>by rw[hh]),fun k _ hl=>absurd hl (jc _ _),fun k hl=>absurd hl (jc _ _),f1.bd,fun F hF Q K A ρ w a tR hd hl hK=>?_⟩
  ·rw[hh]at e;have:=f1.lt k b (fK e);omega
  ·unfold wpOpIn;simp only[ho];rw[hwant A ρ w a false hw hl,ai aY];exact⟨fun g _=>hF.fn g,hK undef w ρ (bR.refl tR) (by rw[hv];simp only[VR])⟩
 ·obtain ⟨h1, e3⟩ : ∃ h1, (bare (S j).h.next).iq ob = some h1 := by
   cases ob with
   |none=>exact⟨_,rfl⟩
   |some b=>
    have:=(cG e2).2.2.2.1;exact⟨_,by
     show(bare (S j).h.next).new b=_;unfold H.new bare;rw[(by simpa[aV]using this:Nat.blt (S j).h.next 1000000=true)]⟩
  have hcc:=wN (P:=P) (o:=o) rfl (.inr fun e5=>by
   have e6:=(kH (fun x=>xT x (S j).tm (S j).h.next) e5).symm.trans e1;rw[Da]at e6;cases e6)
  have hn1:h1.next=(S (j+1)).h.next:=by
   cases ob with
   |none=>
    simp only[H.iq,ah]at e2 e3;rw[<-e2,<-e3];rfl
   |some b=>rw[(cG e3).1,(cG e2).1];rfl
  refine⟨_,bare (S j).h.next,h1,hr,hdst,ht,rfl,hn1,(fun k b e=>by rw[pj]at e;cases e),fun k b hk e=>?_,fun k hl=>absurd hl (jc _ _),fun k hk _=>sS e2 hk,fun k _ hl=>absurd hl (jc _ _),fun k hl=>absurd hl (jc _ _),f1.bd,fun F hF Q K A ρ w a tR hd hl hK=>?_⟩
  ·cases ob with
   |none=>
    simp only[H.iq,ah]at e2;rw[<-e2]at e;have:=f1.lt k b (fK e);omega
   |some b'=>
    obtain⟨q1,q2,q3,q4,q5⟩:=cG e2;obtain⟨s1,s2,s3,s4,s5⟩:=cG e3;have e':=fK e;rw[q5]at e';split at e'
    ·next hk'=>
     simp only[ah]at e';subst e';unfold H.get;rw[s3];simp only[bare,bH];rw[s5];exact aj hk'
    ·have:=f1.lt k b e';omega
  ·unfold wpOpIn;simp only[ho];rw[hwant A ρ w a true hw hl,aj rfl];exact Cb hF (lR ⟨_,hcc⟩) (t_me (h:=bare (S j).h.next) hcc hT e1 e3 (yA hl) tR hd) hK
 ·have hcc:=wN (P:=P) (o:=o) rfl (.inl hT);have gp:=kL hg (iZ f1) e1;have hout:∀k,(S j).h.next<=k->bH k (lI (S j).h.next (S (j+1)).fr (fM p (S j).iv (S j).h.forb))=bH k (S j).h.forb:=fun k hk=>(FM hk).trans<|wh fun x hx=>by
   obtain⟨q,hq,rfl⟩:=(t.iv j aa).1 x hx;have:=t.mono hg f (show q+1<=j by omega) aa;simp only;omega
  have hrk:∀k b,((S j).h.part p (S j).iv (S (j+1)).fr).get k=some b->(S (j+1)).rk k=true:=fun k b e=>by
   unfold SD.rk;rw[hrd,(gO (ed (aR e))).2 (f1.lt k b (fK (lH e)))];rfl
  refine⟨_,(S j).h.part p (S j).iv (S (j+1)).fr,h1,hr,hdst,ht,rfl,(by rw[e2];rfl),fun k b e=>⟨f1.lt k b (fK (lH e)),lH e,hrk k b e,fun q hq q1 q2=>?_⟩,fun k b hk e=>?_,fun k hl=>?_,fun k hk hl=>?_,fun k hwk hl=>?_,fun k _ hlo=>?_,f1.bd,fun F hF Q K A ρ w a tR hd hl hK=>?_⟩
  ·cases hp:p.testBit q with
   |true=>rfl
   |false=>
    have:=(gO (ed (aR e))).1;rw[qt ((t.iv j aa).2 q hq aa) hp q1 q2]at this;cases this
  ·rw[e2]at e;have hf:=gp.good.forb;unfold H.get at e⊢;rw[hf,show((S j).h.part p (S j).iv (S (j+1)).fr).forb=lI (S j).h.next (S (j+1)).fr (fM p (S j).iv (S j).h.forb)from rfl,hout k hk];exact e
  ·rw[e2];have hb:=ed hl;have hb2:bH k (S j).h.forb=false:=gQ p k _ _ (gO hb).1;unfold H.get;rw[gp.good.forb,hb];show(match bH k (S j).h.forb with|true=>none|false=>T.get h1.t k)=_;rw[hb2]
  ·rw[e2];exact mu (gp.good.dead k hk hl)
  ·have hk : k < (S j).h.next := by
    obtain⟨b,eb⟩:=cA.1 hl;exact f1.lt k b (fK (lH eb))
   have hw0:(S (j+1)).wr=false:=by
    unfold SD.wk at hwk;rw[(gO (ed hl)).2 hk,Bool.and_true]at hwk;exact hwk
   rw[e3]at hw0;refine ug gp.good.forb (gp.good.keep k hk (aJ hk (cY fun hlt=>?_)));rw[<-aV]at hlt;rw[hlt]at hw0;cases hw0
  ·rw[e2];exact aX (vL _ _).2 hlo
  ·unfold wpOpIn;simp only[ho];rw[hwant A ρ w a true hw hl,aj rfl];exact r_wp hrec hF hcc hT e1 (iZ f1) (yA hl) tR hd hK
end CI
end
section
open Go.RowKit
namespace CI
variable {P : Program} {h h' : H} {tm tm' : Tm} {rec : Rec} {n : Nat} {r : List RO} {S : Nat->SD} {ops : Array Oper} {A : Nat->Prop} {ρ ρ1 ρ2 : Nat->Nat} {w w1 w2 : World} {a : Act} {ds : List Nat} {L : Nat->Prop} {s : Nat->Nat} {j : Nat}
def AL(A:Nat->Prop)(S:Nat->SD)(L:Nat->Prop)(k:Nat):Prop:=A k\/∃i,L i/\(S i).h.next<=k/\k<(S (i+1)).h.next
def Lv(S:Nat->SD)(L:Nat->Prop)(s:Nat->Nat)(k:Nat)(b:B):Prop:=(k<(S 0).h.next/\(S (s k)).h.get k=some b)\/∃i,L i/\(S i).h.next<=k/\k<(S (i+1)).h.next/\(S (max (s k) (i+1))).h.get k=some b
structure Inv(P:Program)(S:Nat->SD)(ops:Array Oper)(r:List RO)(h':H)(n:Nat)(ds:List Nat)(A:Nat->Prop)(ρ:Nat->Nat)(w:World)(L:Nat->Prop)(s:Nat->Nat)(ρ1:Nat->Nat)(a:Act)(w1:World):Prop where
 cl:∀i ro q,L i->r[i]?=some ro->ro.pre.testBit q=true->L q
 lN:∀i,L i->i<r.length
 s0:∀k,s k<=r.length
 sl:∀k i,i<s k->(S (i+1)).wk k=true->L i
 sr:∀k i,s k<=i->i<r.length->(S (i+1)).wk k=true->¬L i
 tmv:∀t,(∃i o,L i/\ops[i]?=some o/\o.dst=some t/\(∀i' o',L i'->i<i'->ops[i']?=some o'->o'.dst≠some t)/\VR P (AL A S L) ρ1 w1 (S (i+1)).v (a.tmps.getD t undef))\/
  ((∀i o,L i->ops[i]?=some o->o.dst≠some t)/\VR P (AL A S L) ρ1 w1 (CO.ev (S 0).tm (CO.t t)) (a.tmps.getD t undef))
 sz:a.tmps.size=n
 df:a.defers=ds.map (qw ρ)
 blk:∀k b,Lv S L s k b->ρ1 k<w1.heap.size/\BR P (AL A S L) ρ1 w1 (ρ1 k) b
 inj:∀k b k' b',Lv S L s k b->Lv S L s k' b'->ρ1 k=ρ1 k'->k=k'
 lt:Lt w w1
 fr:∀b,b<w.heap.size->(∀k,(S 0).h.live k->h'.low<=k->ρ k≠b)->w1.heap[b]?=w.heap[b]?
 rho:∀k,(k<(S 0).h.next\/h'.next<=k)->ρ1 k=ρ k
 new:∀k b,Lv S L s k b->(S 0).h.next<=k->w.heap.size<=ρ1 k\/∃i,(S 0).h.live i/\h'.low<=i/\ρ1 k=ρ i
theorem BM(t:Trace rec r tm h tm' h' S)(st:Stat P n ops r)(hn:n<1000000)(u:Nat):∀j,j<=r.length->(∃i o,i<j/\ops[i]?=some o/\o.dst=some u/\(∀i' o',i'<j->i<i'->ops[i']?=some o'->o'.dst≠some u)/\CO.ev (S j).tm (CO.t u)=(S (i+1)).v)\/
  ((∀i o,i<j->ops[i]?=some o->o.dst≠some u)/\CO.ev (S j).tm (CO.t u)=CO.ev (S 0).tm (CO.t u))
 |0,_=> .inr ⟨fun i o hi=>by omega,rfl⟩
 |j+1,hj=>by
  have hjo:j<ops.size:=by rw[<-st.len];omega
  obtain⟨o,ho⟩:∃o,ops[j]?=some o:=⟨_,iu hjo⟩;obtain⟨g,p,hr,hdst,_⟩:=st.row j o ho;have ht:=(t.cases hr).1;have ih:=BM t st hn u j aa;by_cases hd:o.dst=some u
  ·refine .inl ⟨j,o,by omega,ho,hd,fun i' o' h1 h2=>by omega,?_⟩;have hu:u<n:=by rw[hd]at hdst;simpa[cr,aV]using hdst
   rw[ht];simp only[gj,hd];rw[uk (t:=u) aa,aj rfl]
  ·have hsame : CO.ev (S (j + 1)).tm (CO.t u) = CO.ev (S j).tm (CO.t u) := by
    rw[ht]
    cases hdd:o.dst with
    |none=>rfl
    |some v=>
     have hv:v<n:=by rw[hdd]at hdst;simpa[cr,aV]using hdst
     simp only[gj];rw[uk (t:=v) (Nat.lt_trans hv hn),ai (fun e=>hd (by rw[hdd,e]))]
   rcases ih with⟨i,o',h1,h2,h3,h4,h5⟩|⟨h1,h2⟩
   ·refine .inl ⟨i,o',by omega,h2,h3,fun i' o'' k1 k2 k3=>?_,by rw[hsame,h5]⟩;rcases np.1 k1 with k|k
    ·exact h4 i' o'' k k2 k3
    ·subst k;rw[ho]at k3;simp only[ah]at k3;rw[<-k3];exact hd
   ·refine .inr ⟨fun i o' k1 k2=>?_,by rw[hsame,h2]⟩;rcases np.1 k1 with k|k
    ·exact h1 i o' k k2
    ·subst k;rw[ho]at k2;simp only[ah]at k2;rw[<-k2];exact hd
section
variable (t : Trace rec r tm h tm' h' S) (st : Stat P n ops r) (hg : dn rec) (f : Wf h)
theorem Inv.slots(I:Inv P S ops r h' n ds A ρ w L s ρ1 a w1)(t:Trace rec r tm h tm' h' S)(st:Stat P n ops r)(hn:n<1000000){o:Oper}{ro:RO}(ho:ops[j]?=some o)(hr:r[j]?=some ro)(hj:¬L j)(hpre:∀q,ro.pre.testBit q=true->L q):∀u,u∈looks ops o->VR P (AL A S L) ρ1 w1 (CO.ev (S j).tm (CO.t u)) (a.tmps.getD u undef):=fun u hu=>by
 have hjl:j<r.length:=(bW.1 hr).1;have later:∀i o',L i->j<i->ops[i]?=some o'->o'.dst≠some u:=fun i o' hL hji hi hd=>by
  obtain⟨ro',hro'⟩:∃ro',r[i]?=some ro':=⟨_,aS (I.lN i hL)⟩;exact hj (I.cl i ro' j hL hro' (st.tmp j i o o' ro' u hji ho hi hro' (.inr (.inl ⟨hd,hu⟩))))
 rcases BM t st hn u j aa with⟨i,o',h1,h2,h3,h4,h5⟩|⟨h1,h2⟩
 ·have hLi:L i:=hpre i (st.tmp i j o' o ro u h1 h2 ho hr (.inl ⟨h3,hu⟩));rw[h5];rcases I.tmv u with⟨i',o'',k1,k2,k3,k4,k5⟩|⟨k1,k2⟩
  ·have : i' = i := by
    rcases kJ i i' with e|e|e
    ·exfalso;rcases kJ i' j with e2|e2|e2
     ·exact h4 i' o'' e2 e k2 k3
     ·exact hj (e2▸k1)
     ·exact later i' o'' k1 e2 k2 k3
    ·exact e.symm
    ·exact absurd h3 (k4 i o' hLi e h2)
   subst this;exact k5
  ·exact absurd h3 (k1 i o' hLi h2)
 ·rw[h2];rcases I.tmv u with⟨i',o'',k1,k2,k3,k4,k5⟩|⟨k1,k2⟩
  ·exfalso;rcases kJ i' j with e2|e2|e2
   ·exact h1 i' o'' e2 k2 k3
   ·exact hj (e2▸k1)
   ·exact later i' o'' k1 e2 k2 k3
  ·exact k2
theorem Inv.quiet(I:Inv P S ops r h' n ds A ρ w L s ρ1 a w1)(t:Trace rec r tm h tm' h' S){ro:RO}(hr:r[j]?=some ro)(hj:¬L j)(hpre:∀q,ro.pre.testBit q=true->L q){k:Nat}(hrd:(S (j+1)).rk k=true):
  (∀i,s k<=i->i<j->(S (i+1)).wk k=false)/\(∀i,j<=i->i<s k->(S (i+1)).wk k=false):=by
 have hjl:j<r.length:=(bW.1 hr).1;refine⟨fun i h1 h2=>?_,fun i h1 h2=>?_⟩
 ·cases hw:(S (i+1)).wk k with
  |false=>rfl
  |true=>exact absurd (hpre i (t.bound h2 hr (.inl ⟨hw,hrd⟩))) (I.sr k i h1 aa hw)
 ·cases hw:(S (i+1)).wk k with
  |false=>rfl
  |true=>
   exfalso;have hLi:=I.sl k i h2 hw;have hne:i≠j:=fun e=>hj (e▸hLi);obtain⟨ro',hro'⟩:∃ro',r[i]?=some ro':=⟨_,aS (I.lN i hLi)⟩;exact hj (I.cl i ro' j hLi hro' (t.bound aa hro' (.inr ⟨hrd,hw⟩)))
theorem fH(t:Trace rec r tm h tm' h' S)(hg:dn rec)(f:Wf h){x y k:Nat}(hxy:x<=y)(hy:y<=r.length)(hk:k<(S x).h.next)(hw:∀i,x<=i->i<y->(S (i+1)).wk k=false):(S y).h.get k=(S x).h.get k:=
 stay hxy fun i h1 h2=>t.HF hg f aa (hw i h1 h2) (aJ hk (t.mono hg f h1 aa))
end
end CI
end
section
open Go.RowKit
namespace CI
variable {P : Program} {h h' : H} {tm tm' : Tm} {rec : Rec} {n : Nat} {r : List RO} {S : Nat->SD} {ops : Array Oper} {A : Nat->Prop} {ρ ρ1 ρ2 : Nat->Nat} {w w1 w2 : World} {a : Act} {ds : List Nat} {L : Nat->Prop} {s : Nat->Nat} {j : Nat} {o : Oper} {ro : RO} {G h1 : H}
structure kE(rec:Rec)(P:Program)(S:Nat->SD)(ops:Array Oper)(r:List RO)(tm:Tm)(h:H)(tm':Tm)(h':H)(n:Nat)(A:Nat->Prop)(L:Nat->Prop)(j:Nat)(o:Oper)(ro:RO)(G h1:H):Prop where
 t:Trace rec r tm h tm' h' S
 st:Stat P n ops r
 hg:dn rec
 f:Wf h
 hn:n<1000000
 ho:ops[j]?=some o
 hr:r[j]?=some ro
 hj:¬L j
 pre:∀q,ro.pre.testBit q=true->L q
 dst:cr n o.dst=true
 sg:Ii P S ops j o ro.pre G h1
 dj:Dj A h h'
 nm:∀k,h.live k->A k
theorem Lv.uniq(t:Trace rec r tm h tm' h' S)(hg:dn rec)(f:Wf h)(hL:∀i,L i->i<r.length){k:Nat}{b b':B}(e:Lv S L s k b)(e':Lv S L s k b'):b=b':=by
 have m0:∀i,L i->(S 0).h.next<=(S i).h.next:=fun i hi=>t.mono hg f (aP _) (cD (hL i hi))
 rcases e with⟨h1,e⟩|⟨i,hi,a1,a2,e⟩<;>rcases e' with⟨h1',e'⟩|⟨i',hi',a1',a2',e'⟩
 ·rw[e]at e';simpa using e'
 ·have:=m0 i' hi';omega
 ·have:=m0 i hi;omega
 ·have : i = i' := by
   rcases kJ i i' with x|x|x
   ·have:=t.mono hg f (show i+1<=i' from x) (cD (hL i' hi'));omega
   ·exact x
   ·have:=t.mono hg f (show i'+1<=i from x) (cD (hL i hi));omega
  subst this;rw[e]at e';simpa using e'
section
variable (M : kE rec P S ops r tm h tm' h' n A L j o ro G h1)
theorem kE.jl(M:kE rec P S ops r tm h tm' h' n A L j o ro G h1):j<r.length:=(bW.1 M.hr).1
theorem kE.mono(M:kE rec P S ops r tm h tm' h' n A L j o ro G h1){x y:Nat}(h1:x<=y)(h2:y<=r.length):(S x).h.next<=(S y).h.next:=M.t.mono M.hg M.f h1 h2
theorem Inv.mY(I:Inv P S ops r h' n ds A ρ w L s ρ1 a w1)(M:kE rec P S ops r tm h tm' h' n A L j o ro G h1){k:Nat}{b:B}(e:G.get k=some b):Lv S L s k b:=by
 obtain⟨k1,k2,k3,k4⟩:=M.sg.g1 k b e;obtain⟨q1,q2⟩:=I.quiet M.t M.hr M.hj M.pre k3;have jl:=M.jl;by_cases hk:k<(S 0).h.next
 ·refine .inl ⟨hk,?_⟩;rcases Nat.le_total (s k) j with hs|hs
  ·rw[<-fH M.t M.hg M.f hs aa (aJ hk (M.mono (aP _) (I.s0 k))) q1];exact k2
  ·rw[fH M.t M.hg M.f hs (I.s0 k) k1 q2];exact k2
 ·obtain⟨q,hq,a1,a2⟩:=M.t.owner (cY hk) k1;refine .inr ⟨q,M.pre q (k4 q hq a1 a2),a1,a2,?_⟩;rcases Nat.le_total (s k) j with hs|hs
  ·rw[<-fH M.t M.hg M.f (x:=max (s k) (q+1)) (y:=j) aa aa (aJ a2 (M.mono aa aa)) (fun i i1 i2=>q1 i aa i2)];exact k2
  ·rw[show max (s k) (q+1)=s k by omega,fH M.t M.hg M.f hs (I.s0 k) k1 q2];exact k2
theorem Inv.nmA(I:Inv P S ops r h' n ds A ρ w L s ρ1 a w1)(M:kE rec P S ops r tm h tm' h' n A L j o ro G h1){k:Nat}{b:B}(e:Lv S L s k b):AL A S L k:=by
 rcases e with⟨hk,e⟩|⟨i,hi,a1,a2,_⟩
 ·refine .inl (M.nm k ?_);have g:=(M.t.gd M.hg M.f (s k) (I.s0 k)).2;rw[M.t.h0]at hk;exact g.good.back hk (aR e)
 ·exact .inr ⟨i,hi,a1,a2⟩
theorem Inv.rel(I:Inv P S ops r h' n ds A ρ w L s ρ1 a w1)(M:kE rec P S ops r tm h tm' h' n A L j o ro G h1):Rel P (AL A S L) ρ1 w1 G:=by
 refine⟨fun k b e=>?_,fun k k' hl hl' e=>?_,by rw[M.sg.nx];exact M.sg.bd⟩
 ·have hlv:=I.mY M e;obtain⟨b1,b2⟩:=I.blk k b hlv;exact⟨by rw[M.sg.nx];exact(M.sg.g1 k b e).1,I.nmA M hlv,b1,b2⟩
 ·obtain⟨b,eb⟩:=cA.1 hl;obtain⟨b',eb'⟩:=cA.1 hl';exact I.inj k b k' b' (I.mY M eb) (I.mY M eb') e
theorem Inv.dj(I:Inv P S ops r h' n ds A ρ w L s ρ1 a w1)(M:kE rec P S ops r tm h tm' h' n A L j o ro G h1):Dj (AL A S L) G h1:=fun k hk=>by
 have jl:=M.jl;rw[M.sg.nx,M.sg.nx1];rcases hk with hk|⟨i,hi,a1,a2⟩
 ·have e1:(S 0).h.next=h.next:=by rw[M.t.h0]
  have e2:(S r.length).h.next=h'.next:=by rw[M.t.hN]
  have m1:=M.mono (aP j) aa;have m2:=M.mono (show j+1<=r.length by omega) (af _);have:=M.dj k hk;omega
 ·rcases kJ i j with x|x|x
  ·have:=M.mono (show i+1<=j from x) aa;omega
  ·exact absurd (x▸hi) M.hj
  ·have:=M.mono (show j+1<=i from x) (cD (I.lN i hi));omega
def mH(S:Nat->SD)(s:Nat->Nat)(j:Nat):Nat->Nat:=fun k=>if(S (j+1)).wk k=true then j+1 else s k
theorem Inv.qZ(I:Inv P S ops r h' n ds A ρ w L s ρ1 a w1)(M:kE rec P S ops r tm h tm' h' n A L j o ro G h1){k:Nat}{b:B}(e:Lv S (fun i=>L i\/i=j) (mH S s j) k b):
  (h1.get k=some b/\(G.live k\/((S j).h.next<=k/\k<(S (j+1)).h.next)))\/(¬G.live k/\¬((S j).h.next<=k/\k<(S (j+1)).h.next)/\Lv S L s k b):=by
 have jl:=M.jl;have hwr:(S (j+1)).wk k=true->s k<=j/\∀i,s k<=i->i<j->(S (i+1)).wk k=false:=fun hw=>
  ⟨cY fun hlt=>M.hj (I.sl k j hlt hw),(I.quiet M.t M.hr M.hj M.pre (M.t.BG jl hw)).1⟩
 have hs':((S (j+1)).wk k=true/\mH S s j k=j+1)\/((S (j+1)).wk k=false/\mH S s j k=s k):=by
  unfold mH
  cases hw:(S (j+1)).wk k with
  |true=>exact .inl ⟨rfl,by simp⟩
  |false=>exact .inr ⟨rfl,by simp⟩
 have hlive:G.live k->(S (j+1)).wk k=false->Lv S L s k b->h1.get k=some b:=fun hG hw hl=>by
  obtain⟨b0,eb⟩:=cA.1 hG;have:=Lv.uniq M.t M.hg M.f I.lN hl (I.mY M eb);rw[M.sg.g5 k hw hG,eb,this]
 rcases e with⟨hk,e⟩|⟨i,hi,a1,a2,e⟩
 ·have hkj:k<(S j).h.next:=aJ hk (M.mono (aP _) aa)
  by_cases hG:G.live k
  ·refine .inl ⟨?_, .inl hG⟩;rcases hs' with⟨hw,hs⟩|⟨hw,hs⟩
   ·rw[hs,M.sg.g3 k hG]at e;exact e
   ·rw[hs]at e;exact hlive hG hw (.inl ⟨hk,e⟩)
  ·refine .inr ⟨hG,by omega, .inl ⟨hk,?_⟩⟩;rcases hs' with⟨hw,hs⟩|⟨hw,hs⟩
   ·obtain⟨q1,q2⟩:=hwr hw;rw[hs,M.sg.g4 k hkj hG,fH M.t M.hg M.f q1 aa (aJ hk (M.mono (aP _) (I.s0 k))) q2]at e;exact e
   ·rw[hs]at e;exact e
 ·rcases hi with hi|hi
  ·have hij:i≠j:=fun x=>M.hj (x▸hi);have hni:¬((S j).h.next<=k/\k<(S (j+1)).h.next):=fun hx=>by
    rcases xA hij with x|x
    ·have:=M.mono (show i+1<=j from x) aa;omega
    ·have:=M.mono (show j+1<=i from x) (cD (I.lN i hi));omega
   by_cases hG:G.live k
   ·obtain⟨b0,eb⟩:=cA.1 hG;have hkj:=(M.sg.g1 k b0 eb).1;have hlt:i<j:=by
     rcases xA hij with x|x
     ·exact x
     ·have h1:=M.mono (show j+1<=i from x) (cD (I.lN i hi));have h2:=M.mono (show j<=j+1 by omega) aa;omega
    refine .inl ⟨?_, .inl hG⟩;rcases hs' with⟨hw,hs⟩|⟨hw,hs⟩
    ·rw[hs,show max (j+1) (i+1)=j+1 by omega,M.sg.g3 k hG]at e;exact e
    ·rw[hs]at e;exact hlive hG hw (.inr ⟨i,hi,a1,a2,e⟩)
   ·refine .inr ⟨hG,hni, .inr ⟨i,hi,a1,a2,?_⟩⟩;rcases hs' with⟨hw,hs⟩|⟨hw,hs⟩
    ·obtain⟨q1,q2⟩:=hwr hw;rcases xA hij with x|x
     ·rw [hs, show max (j + 1) (i + 1) = j + 1 by omega, M.sg.g4 k (aJ a2 (M.mono (show i + 1 <= j from x) (by omega))) hG,
       fH M.t M.hg M.f (x:=max (s k) (i+1)) (y:=j) aa aa (aJ a2 (M.mono aa aa)) (fun i' i1 i2=>q2 i' aa i2)]at e
      exact e
     ·rw[hs,show max (j+1) (i+1)=max (s k) (i+1) by omega]at e;exact e
    ·rw[hs]at e;exact e
  ·subst hi;refine .inl ⟨?_, .inr ⟨a1,a2⟩⟩;rcases hs' with⟨hw,hs⟩|⟨hw,hs⟩
   ·rw[hs,show max (i+1) (i+1)=i+1 by omega]at e;exact M.sg.g2 k b a1 e
   ·rw[hs,stay (x:=i+1) (y:=max (s k) (i+1)) aa (fun x x1 x2=>?_)]at e
    ·exact M.sg.g2 k b a1 e
    ·have hxs:x<s k:=by omega
     have hxr:x<r.length:=aJ hxs (I.s0 k)
     cases hwx:(S (x+1)).wk k with
     |false=>exact M.t.HF M.hg M.f hxr hwx (aJ a2 (M.mono x1 aa))
     |true=>
      obtain⟨rx,hrx⟩:∃rx,r[x]?=some rx:=⟨_,aS hxr⟩;refine M.t.keepO M.hg M.f hrx (show i<x by omega) ?_ a1 a2
      cases hp:rx.pre.testBit i with
      |false=>rfl
      |true=>exact absurd (I.cl x rx i (I.sl k x hxs hwx) hrx hp) M.hj
end
end CI
end
section
open Go.RowKit
namespace CI
variable {P : Program} {h h' : H} {tm tm' : Tm} {rec : Rec} {n : Nat} {r : List RO} {S : Nat->SD} {ops : Array Oper} {A : Nat->Prop} {ρ ρ1 ρ2 : Nat->Nat} {w w1 w2 : World} {a : Act} {ds : List Nat} {L : Nat->Prop} {s : Nat->Nat} {j : Nat} {o : Oper} {ro : RO} {G h1 : H}
theorem Eh{dst:Option Tmp}{t:Nat}{u:Value}(h:dst≠some t):(a.put dst u).tmps.getD t undef=a.tmps.getD t undef:=by
 cases dst with
 |none=>rfl
 |some d=>
  have hne:d≠t:=fun e=>h (by rw[e]);simp only[Act.put,cg,th hne]
theorem FF{t:Nat}{u:Value}(ht:t<a.tmps.size):(a.put (some t) u).tmps.getD t undef=u:=by
 simp only[Act.put,cg,nu];simp[ht]
theorem Inv.step(I:Inv P S ops r h' n ds A ρ w L s ρ1 a w1)(M:kE rec P S ops r tm h tm' h' n A L j o ro G h1){u:Value}(p:bR P (AL A S L) ρ1 w1 G ρ2 w2 h1)(hu:VR P (Ext (AL A S L) G h1) ρ2 w2 (S (j+1)).v u):
  Inv P S ops r h' n ds A ρ w (fun i=>L i\/i=j) (mH S s j) ρ2 (a.put o.dst u) w2:=by
 have jl:=M.jl;have hdj:=I.dj M;have hmo:Mo (AL A S L) (AL A S fun i=>L i\/i=j) ρ1 ρ2:=⟨fun k hk=>hk.imp id fun ⟨i,hi,hx⟩=>⟨i, .inl hi,hx⟩,(p.mo hdj).eq⟩;have hmo2:Mo (Ext (AL A S L) G h1) (AL A S fun i=>L i\/i=j) ρ2 ρ2:=⟨fun k hk=>by
  rcases hk with hk|hk
  ·exact hmo.sub k hk
  ·rw[M.sg.nx,M.sg.nx1]at hk;exact .inr ⟨j, .inr rfl,hk⟩,fun _ _=>rfl⟩
 have hs':∀k,((S (j+1)).wk k=true/\mH S s j k=j+1)\/((S (j+1)).wk k=false/\mH S s j k=s k):=fun k=>by
  unfold mH
  cases hw:(S (j+1)).wk k with
  |true=>exact .inl ⟨rfl,by simp⟩
  |false=>exact .inr ⟨rfl,by simp⟩
 have after:∀i,L i->∀rx,r[i]?=some rx->rx.pre.testBit j=true->False:=fun i hi rx hrx hp=>M.hj (I.cl i rx j hi hrx hp);have hframe:∀k b,Lv S L s k b->¬G.live k->w2.heap[ρ1 k]?=w1.heap[ρ1 k]?:=fun k b hl hG=>p.fr _ (I.blk k b hl).1 fun k' hl' _ e=>by
  obtain⟨b',eb'⟩:=cA.1 hl';have:=I.inj k' b' k b (I.mY M eb') hl e;subst this;exact hG hl'
 have hrho:∀k b,Lv S L s k b->ρ2 k=ρ1 k:=fun k b hl=>hmo.eq k (I.nmA M hl);have hbN:h'.next=(S r.length).h.next:=by rw[M.t.hN]
 refine⟨fun i rx q hi hrx hp=>?_,fun i hi=>?_,fun k=>?_,fun k i hi hw=>?_,fun k i hi hir hw hL=>?_,fun t=>?_,?_,?_,fun k b e=>?_,fun k b k' b' e e' hk=>?_,I.lt.trans p.lt,fun b hb hn=>?_,fun k hk=>?_,fun k b e hk=>?_⟩
 ·rcases hi with hi|hi
  ·exact .inl (I.cl i rx q hi hrx hp)
  ·subst hi;rw[M.hr]at hrx;simp only[ah]at hrx;subst hrx;exact .inl (M.pre q hp)
 ·rcases hi with hi|hi
  ·exact I.lN i hi
  ·rw[hi];exact jl
 ·rcases hs' k with⟨_,e⟩|⟨_,e⟩<;>rw[e]
  ·exact jl
  ·exact I.s0 k
 ·rcases hs' k with⟨hwj,e⟩|⟨_,e⟩<;>rw[e]at hi
  ·rcases np.1 hi with x|x
   ·exact .inl (M.pre i (M.t.bound x M.hr (.inl ⟨hw,M.t.BG jl hwj⟩)))
   ·exact .inr x
  ·exact .inl (I.sl k i hi hw)
 ·rcases hs' k with⟨hwj,e⟩|⟨hwj,e⟩<;>rw[e]at hi
  ·rcases hL with hL|hL
   ·obtain⟨rx,hrx⟩:∃rx,r[i]?=some rx:=⟨_,aS hir⟩;exact after i hL rx hrx (M.t.bound (show j<i by omega) hrx (.inl ⟨hwj,M.t.BG hir hw⟩))
   ·omega
  ·rcases hL with hL|hL
   ·exact I.sr k i hi hir hw hL
   ·subst hL;rw[hw]at hwj;cases hwj
 ·by_cases hd:o.dst=some t
  ·have ht:t<n:=by have:=M.dst;rw[hd]at this;simpa[cr,aV]using this
   refine .inl ⟨j,o, .inr rfl,M.ho,hd,fun i' o' hi' hlt ho' hd'=>?_,?_⟩
   ·rcases hi' with hi'|hi'
    ·obtain⟨rx,hrx⟩:∃rx,r[i']?=some rx:=⟨_,aS (I.lN i' hi')⟩;exact after i' hi' rx hrx (M.st.tmp j i' o o' rx t hlt M.ho ho' hrx (.inr (.inr ⟨hd',hd⟩)))
    ·omega
   ·rw[hd,FF (by rw[I.sz];exact ht)];exact VR.mo hmo2 (Lt.refl _) _ _ hu
  ·rw[Eh hd];rcases I.tmv t with⟨i,o',q1,q2,q3,q4,q5⟩|⟨q1,q2⟩
   ·refine .inl ⟨i,o', .inl q1,q2,q3,fun i' o'' hi' hlt ho'=>?_,VR.mo hmo p.lt _ _ q5⟩;rcases hi' with hi'|hi'
    ·exact q4 i' o'' hi' hlt ho'
    ·subst hi';rw[M.ho]at ho';simp only[ah]at ho';rw[<-ho'];exact hd
   ·refine .inr ⟨fun i' o'' hi' ho'=>?_,VR.mo hmo p.lt _ _ q2⟩;rcases hi' with hi'|hi'
    ·exact q1 i' o'' hi' ho'
    ·subst hi';rw[M.ho]at ho';simp only[ah]at ho';rw[<-ho'];exact hd
 ·have:=I.sz;cases o.dst<;>simp[Act.put,this]
 ·have:=I.df;cases o.dst<;>simp[Act.put,this]
 ·rcases I.qZ M e with⟨e1,_⟩|⟨hG,_,hl⟩
  ·obtain⟨_,_,b1,b2⟩:=p.rel.blk k b e1;exact⟨b1,b2.mo hmo2 (Lt.refl _) rfl⟩
  ·obtain⟨b1,b2⟩:=I.blk k b hl;rw[hrho k b hl];exact⟨aJ b1 p.lt.size,b2.mo hmo p.lt (hframe k b hl hG)⟩
 ·have key : ∀ x y bx, h1.get x = some bx -> (G.live x \/ ((S j).h.next <= x /\ x < (S (j + 1)).h.next)) -> ∀ by', ¬ G.live y -> Lv S L s y by' -> ρ2 x = ρ2 y -> x = y := fun x y bx ex hx by' hy hly hxy => by
   rw[hrho y by' hly]at hxy;rcases hx with hx|hx
   ·obtain⟨b0,eb⟩:=cA.1 hx;have hlx:=I.mY M eb;rw[hrho x b0 hlx]at hxy;exact I.inj x b0 y by' hlx hly hxy
   ·rcases p.new x (by rw[M.sg.nx];exact hx.1) (aR ex)with q|⟨i,q1,q2,q3⟩
    ·have:=(I.blk y by' hly).1;omega
    ·exfalso;obtain⟨b0,eb⟩:=cA.1 q1;have:=I.inj i b0 y by' (I.mY M eb) hly (q3.symm.trans hxy)
     subst this;exact hy q1
  rcases I.qZ M e with⟨e1,x1⟩|⟨hG,_,hl⟩<;>rcases I.qZ M e' with⟨e1',x1'⟩|⟨hG',_,hl'⟩
  ·exact p.rel.inj k k' (aR e1) (aR e1') hk
  ·exact key k k' b e1 x1 b' hG' hl' hk
  ·exact(key k' k b' e1' x1' b hG hl hk.symm).symm
  ·rw[hrho k b hl,hrho k' b' hl']at hk;exact I.inj k b k' b' hl hl' hk
 ·rw[p.fr b (aJ hb I.lt.size) fun k hl hlo hk=>?_,I.fr b hb hn];obtain⟨b0,eb⟩:=cA.1 hl;have hlv:=I.mY M eb;have hlow:h'.low<=k:=by
   have h2:=M.t.low M.hg M.f (show j+1<=r.length by omega) (af _);rw[M.t.hN]at h2;exact aX h2 (M.sg.low k hl hlo)
  by_cases hk0:k<(S 0).h.next
  ·rw[I.rho k (.inl hk0)]at hk;refine hn k ?_ hlow hk;rcases hlv with⟨_,e⟩|⟨i,hi,a1,_⟩
   ·have g:=(M.t.gd M.hg M.f (s k) (I.s0 k)).2;rw[M.t.h0]at hk0⊢;exact g.good.back hk0 (aR e)
   ·have:=M.mono (aP i) (cD (I.lN i hi));omega
  ·rcases I.new k b0 hlv (cY hk0)with q|⟨i,q1,q2,q3⟩
   ·omega
   ·exact hn i q1 q2 (q3.symm.trans hk)
 ·have m1:=M.mono (aP j) aa;have m2:=M.mono (show j+1<=r.length by omega) (af _);rw[p.rho k (by rw[M.sg.nx,M.sg.nx1];omega),I.rho k hk]
 ·rcases I.qZ M e with⟨e1,x1⟩|⟨hG,_,hl⟩
  ·rcases x1 with x1|x1
   ·obtain⟨b0,eb⟩:=cA.1 x1;have hlv:=I.mY M eb;rw[hrho k b0 hlv];exact I.new k b0 hlv hk
   ·rcases p.new k (by rw[M.sg.nx];exact x1.1) (aR e1)with q|⟨i,q1,q2,q3⟩
    ·exact .inl (aX I.lt.size q)
    ·obtain⟨b0,eb⟩:=cA.1 q1;have hlv:=I.mY M eb;have hlow:h'.low<=i:=by
      have h2:=M.t.low M.hg M.f (show j+1<=r.length by omega) (af _);rw[M.t.hN]at h2;exact aX h2 (M.sg.low i q1 q2)
     rw[q3];by_cases hi0:i<(S 0).h.next
     ·refine .inr ⟨i,?_,hlow,I.rho i (.inl hi0)⟩;rcases hlv with⟨_,e⟩|⟨i',hi',a1,_⟩
      ·have g:=(M.t.gd M.hg M.f (s i) (I.s0 i)).2;rw[M.t.h0]at hi0⊢;exact g.good.back hi0 (aR e)
      ·have:=M.mono (aP i') (cD (I.lN i' hi'));omega
     ·exact I.new i b0 hlv (cY hi0)
  ·rw[hrho k b hl];exact I.new k b hl hk
end CI
end
end Go.Proofs.YtepdigdijecgpaaGreat
