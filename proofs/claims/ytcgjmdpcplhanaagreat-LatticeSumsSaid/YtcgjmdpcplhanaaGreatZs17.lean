/- Lemmas for the law: E44 DT M12 M5 M13 M15 M16 V27 V28 E40 -/
import Derived.BigQuiet
import Derived.Test.YtcgjmdpcplhanaaGreatZs16
namespace Go.Proofs.YtcgjmdpcplhanaaGreat
section
abbrev Ew:=@Classical.choose_spec
theorem J0{p q:Prop}(h:q)(f:Wq q->p:=by(intro hW;((refine dT (k:=8) (z:=(.agg #[.bool false,.slice none 0 0])) (d:=(.nm 0)) rfl rfl rfl rfl rfl ah ai ai cX ai ai cj ?_));exact hW.out)):p:=f ⟨h⟩
theorem xh{p q:Prop}(h:q)(f:Wq q->p:=by(intro hW;(refine gar ?_;refine nK ?_;refine cT ?_);exact hW.out)):p:=f ⟨h⟩
theorem zs153{p q:Prop}(h:q)(f:Wq q->p:=by(intro hW;(refine rz [14,15] ah Ki ?_);exact hW.out)):p:=f ⟨h⟩
theorem zs155{p q:Prop}(h:q)(f:Wq q->p:=by(intro hW;((refine mr (k:=15) (z:=(.agg #[.bool false,.slice none 0 0])) (d:=(.nm 0)) rfl rfl rfl rfl rfl ah ai ai cX ai ai ?_));exact hW.out)):p:=f ⟨h⟩
theorem zs154{p q:Prop}(h:q)(f:Wq q->p:=by(intro hW;((refine mr (k:=14) (z:=(.agg #[.bool false,.slice none 0 0])) (d:=(.nm 0)) rfl rfl rfl rfl rfl ah ai ai cX ai ai ?_));exact hW.out)):p:=f ⟨h⟩
theorem QL{p q:Prop}(h:q)(f:Wq q->p:=by(intro hW;(refine zs153 ?_;refine fZ ?_;refine mR ?_;refine dH ?_;refine fZ ?_;refine mR ?_;refine lV ?_;refine lV ?_;refine fZ ?_;refine mU ?_;refine mU ?_;refine mU ?_;refine zs154 ?_;refine zs155 ?_;refine jP ?_;refine jP ?_;refine rN ?_;refine lU ?_);exact hW.out)):p:=f ⟨h⟩
theorem zb35{p:Prop}(h:p:=by(apply mj;(exact rfl);(focus((apply aE;(conv=>lhs;whnf);(first|done|exact rfl))));(focus((first|exact op_zero|exact rfl)));(exact rfl);(exact rfl);(assumption);(exact rfl))):p:=h
theorem JZ{p q:Prop}(h:q)(f:Wq q->p:=by(intro hW;(refine aL1 rfl rfl rfl zb35 ?_);exact hW.out)):p:=f ⟨h⟩
end
section
open Go.RowKit
namespace DW
abbrev dV(l:List Int)(d:Int):D:=.st [dI l,zI d]
def pl0(r:List Int):Nat:=(sT r).toNat
def crd(d:Int):List (List Int)->List Int->Option (List Int×List Int)
 |[],left=>some ([],left)
 |r::rs,left=>
  if left.getD (pl0 r) 0%(d*r.getD (pl0 r) 0)=0 then(crd d rs (Mx.en (-(left.getD (pl0 r) 0/(d*r.getD (pl0 r) 0)*d)) left r)).map fun x=>(left.getD (pl0 r) 0/(d*r.getD (pl0 r) 0)::x.1,x.2)
  else none
def Lg:Option (List Int×List Int)->D
 |none=>.tp [dZ [],.sc (.bool false)]
 |some x=>.tp [dZ x.1,.sc (.bool (x.2.all fun z=>decide (z=0)))]
theorem GO(d:Int)(r:List Int)(rs:List (List Int))(left:List Int):crd d (r::rs) left=if left.getD (pl0 r) 0%(d*r.getD (pl0 r) 0)=0 then(crd d rs (Mx.en (-(left.getD (pl0 r) 0/(d*r.getD (pl0 r) 0)*d)) left r)).map fun x=>(left.getD (pl0 r) 0/(d*r.getD (pl0 r) 0)::x.1,x.2)else none:=rfl
theorem Qj{d:Int}{R:List (List Int)}{left0 left out:List Int}{i:Nat}{r:List Int}(hr:R[i]?=some r)(h:crd d R left0=(crd d (R.drop i) left).map fun x=>(out++x.1,x.2)):
  (left.getD (pl0 r) 0%(d*r.getD (pl0 r) 0)=0->crd d R left0=(crd d (R.drop (i+1)) (Mx.en (-(left.getD (pl0 r) 0/(d*r.getD (pl0 r) 0)*d)) left r)).map fun x=>((out++[left.getD (pl0 r) 0/(d*r.getD (pl0 r) 0)])++x.1,x.2))/\(left.getD (pl0 r) 0%(d*r.getD (pl0 r) 0)≠0->crd d R left0=none):=by
 have hd:R.drop i=r::R.drop (i+1):=by
  obtain⟨hi,rfl⟩:=ct.1 hr;exact nW hi
 rw[hd,GO]at h;constructor
 ·intro h0;rw[an h0]at h;rw[h,Option.map_map];congr 1;funext x;simp
 ·intro h0;rw[aj h0]at h;exact h
theorem MK{r:List Int}(h:r.all (fun z=>decide (z=0))=false):∃x,sT r=(pl0 r:Nat)/\pl0 r<r.length/\r[pl0 r]?=some x/\x≠0/\r.getD (pl0 r) 0=x/\∀j y,j<pl0 r->r[j]?=some y->y=0:=by
 have e:sT r=(r.findIdx fun z=>!decide (z=0):Nat):=by unfold sT;rw[aj (by rw[h];simp)]
 have e2:pl0 r=r.findIdx fun z=>!decide (z=0):=by unfold pl0;rw[e];rfl
 have hlt:r.findIdx (fun z=>!decide (z=0))<r.length:=by
  rw[List.findIdx_lt_length];rw[vO]at h;obtain⟨x,hx,h2⟩:=h;exact⟨x,hx,by simpa using h2⟩
 refine⟨r[r.findIdx fun z=>!decide (z=0)],by rw[e,e2],by rw[e2];exact hlt,by rw[e2];exact aV hlt,?_,by rw[e2,aq,aV hlt];rfl,fun j y hj hy=>?_⟩
 ·have:=List.findIdx_getElem (w:=hlt);simpa using this
 ·rw[e2]at hj;have:=List.not_of_lt_findIdx hj;obtain⟨hj2,rfl⟩:=ct.1 hy;simpa using this
structure CB(a:Nat)(d q:Int)(left r:List Int):Prop where
 q1:q.natAbs<=2^a
 q2:(q*d).natAbs<=2^(a+50)
 q3:∀x∈r,(q*d*x).natAbs<=2^(a+570)
 q4:∀z∈Mx.en (-(q*d)) left r,z.natAbs<=2^(a+571)
theorem Vy{x y a:Nat}(h1:x<=2^a)(h2:y<=2^a):x+y<=2^(a+1):=by rw[dQ];omega
theorem DR{x y:Int}{a b:Nat}(h1:x.natAbs<=2^a)(h2:y.natAbs<=2^b):(x*y).natAbs<=2^(a+b):=by
 rw[gG,eZ];exact cr h1 h2
theorem cb_of{a f:Nat}{d z D:Int}{left r:List Int}(hf:f=520)(hl:∀x∈left,x.natAbs<=2^a)(hz:z.natAbs<=2^a)(hd:d.natAbs<=2^50)(hr:∀x∈r,x.natAbs<=2^f):CB a d (z/D) left r:=by
 have h1:(z/D).natAbs<=2^a:=aB (Mx.jI z D) hz;have h2:=DR h1 hd;have e:a+50+f=a+570:=by omega
 have h3:∀x∈r,(z/D*d*x).natAbs<=2^(a+570):=fun x hx=>by rw[<-e];exact DR h2 (hr x hx)
 refine⟨h1,h2,h3,fun y hy=>?_⟩;unfold Mx.en at hy;obtain⟨i,hi,rfl⟩:=lX hy;rw[List.getElem_zipWith];rw[List.length_zipWith]at hi;have ha:=hl left[i] (zJ aa);have hb:=h3 r[i] (zJ aa);have:=Vy (a:=a+570) (aB ha (bI au aa)) hb;refine aB ?_ this;rw[gX];have:=Int.natAbs_add_le left[i] (-(z/D*d*r[i]));rw[pH]at this;exact this
set_option maxRecDepth 20000
set_option maxHeartbeats 2000000
theorem Pq(dim dl d:Int)(R:Mx.Mat)(l:List Int)(n:Nat)(hn:l.length=n)(hn5:n<=1000000)(hR:Mx.Rc n R)(hRl:R.length<=64)(hnz:∀r∈R,r.all (fun z=>decide (z=0))=false)(f:Nat)(hf:f=520)(hb:∀r∈R,∀x∈r,x.natAbs<=2^f)(hdl:dl.natAbs<=2^50)(hd0:d≠0)(hd:I64 d)(hd50:d.natAbs<=2^50)(hl:∀z∈l,I64 z/\z.natAbs<=2^50)(L0:List Int)(hL0:L0=l.map fun z=>z*dl):
  Fn Tryz.prog 126 [dF dim R dl,dV l d] (Lg (crd d R L0)):=by
 have WR:=Vg l aa (fun z hz=>(hl z hz).1) 100 rfl;have OD:=KZ d hd;refine bg Tryz.func126 ah rfl rfl rfl fun X0=>?_;simp only[aP];refine zs2 ?_;refine iy ?_;refine uy ?_;refine zs3 ?_;refine uu ?_;refine eX ?_;refine nO ?_;(refine Oq rfl rfl rfl rfl ck (WR) ai ai ai ?_);refine cn ?_;refine xi ?_;refine zs2 ?_
 (refine av (ay (sl':=[(2,.pt (dF dim R dl)),(3,.pt (dV l d)),(6,.own 100),(22,.own 100),(23,zI l.length),(24,zI 0)]) (ow':=[(100,⟨62,2,l.map .nm⟩)]) aF aH) ?_)
 have hL0l:L0.length=n:=by rw[hL0,bD,hn]
 refine bh (fun r s=>∃k,k<=l.length/\r=l.length-k/\s=⟨[(2,.pt (dF dim R dl)),(3,.pt (dV l d)),(6,.own 100),(22,.own 100),(23,zI l.length),(24,zI (k:Nat))],[(100,⟨62,2,(L0.take k++l.drop k).map .nm⟩)]⟩) (m:=l.length) ⟨0,aO _,rfl,rfl⟩ fun r s hs=>?_;obtain⟨k,hk,rfl,rfl⟩:=hs;by_cases hkl:k<l.length
 ·obtain⟨z,hz⟩:=get_some hkl;have hzb:=hl z (bj hz);have ML:=wL z dl (bK hzb.2 aa) (bK hdl aa);have hzL:L0[k]?=some (z*dl):=by rw[hL0,bN,hz];rfl
  have hq:(L0.take k++l.drop k).set k (z*dl)=L0.take (k+1)++l.drop (k+1):=by
   rw[bF hzL,zN k _ nQ,aY,dK aa,eR,nW hkl,et,fK];rfl
  have hq0:(L0.take k++l.drop k)[k]?=some z:=by
   rw[ez nQ,aY,dK aa,eR,eF];exact hz
  have hql:(L0.take k++l.drop k).length=l.length:=by simp;omega
  obtain⟨W,hW⟩:∃W,W=L0.take k++l.drop k:=⟨_,rfl⟩;rw[<-hW]at hq hql hq0;rw[<-hW];clear hW;have hE:(W.map D.nm).set k (.nm (z*dl))=(W.set k (z*dl)).map .nm:=by rw[lu]
  refine jM ?_;refine cE ?_;refine nK ?_;refine J0 ?_;refine zs6 ?_;refine jj ?_
  (refine av (ay (sl':=[(2,.pt (dF dim R dl)),(3,.pt (dV l d)),(6,.own 100),(22,.own 100),(23,zI l.length),(24,zI (k:Nat)),(7,zI (k:Nat)),(8,.opt 8 0)]) (ow':=[(8,⟨62,2,[.nm z]⟩),(100,⟨62,2,W.map .nm⟩)]) aF aH) ?_)
  refine zs2 ?_;refine bT ?_;refine ff ?_;refine RP ?_;refine ff ?_;refine kU ?_;refine Eh ?_;refine RG ?_;refine eX ?_;rw[hE,hq];refine zs2 ?_;refine nE ?_;simp only[nx,inB];exact⟨l.length-(k+1),_,by omega,(ay (sl':=[(2,.pt (dF dim R dl)),(3,.pt (dV l d)),(6,.own 100),(22,.own 100),(23,zI l.length),(24,zI ((k+1:Nat):Int))]) (ow':=[(100,⟨62,2,(L0.take (k+1)++l.drop (k+1)).map .nm⟩)]) aF aH),k+1,by omega,rfl,rfl⟩
 ·obtain rfl:k=l.length:=by omega
  have hq:L0.take l.length++l.drop l.length=L0:=by rw[pI,kB,cf aa]
  rw[hq];have hL0b:∀z∈L0,z.natAbs<=2^(100+571*0):=fun z hz=>by
   rw[hL0]at hz;obtain⟨y,hy,rfl⟩:=dY.1 hz;exact DR (a:=50) (b:=50) (hl y hy).2 hdl
  clear hL0 hl hq;refine nM ?_;refine rH ?_;refine ll ?_;refine J1 ?_;refine jj ?_;refine mT ?_;refine zs2 ?_;refine av (dz (t:=10) (k:=10) (T:=62) (wd:=2) fF rfl rfl cj) ?_;refine zs2 ?_;refine rH ?_;refine zs5 ?_;refine Dt ?_;refine eX ?_
  (refine av (ay (sl':=[(6,.own 100),(9,.opt 9 0),(10,.own 10),(41,dW R),(42,zI R.length),(43,zI 0)]) (ow':=[(10,⟨62,2,[]⟩),(9,⟨62,2,[.nm d]⟩),(100,⟨62,2,L0.map .nm⟩)]) aF aH) ?_)
  refine bh (fun r s=>∃i left out,i<=R.length/\r=R.length-i/\left.length=n/\(∀z∈left,z.natAbs<=2^(100+571*i))/\crd d R L0=(crd d (R.drop i) left).map (fun x=>(out++x.1,x.2))/\out.length=i/\s=⟨[(6,.own 100),(9,.opt 9 0),(10,.own 10),(41,dW R),(42,zI R.length),(43,zI (i:Nat))],[(10,⟨62,2,out.map .nm⟩),(9,⟨62,2,[.nm d]⟩),(100,⟨62,2,left.map .nm⟩)]⟩) (m:=R.length) ⟨0,L0,[],aO _,rfl,hL0l,hL0b,by simp,rfl,rfl⟩ fun r s hs=>?_;clear hL0b hL0l;obtain⟨i,left,out,hi,rfl,hll,hlb,hcr,hol,rfl⟩:=hs;by_cases hil:i<R.length
  ·obtain⟨r,hr⟩:=get_some hil;have hmem:=bj hr;have hrl:=hR r hmem;obtain⟨x,hp,hpl,hpx,hx0,hpd,_⟩:=MK (hnz r hmem);have hst:=Qj hr hcr;rw[hpd]at hst;have IX:=Su 172 r aa (fun z _=>nz1_d z);rw[hp]at IX;obtain⟨y,hy⟩:=get_some (m:=left) (k:=pl0 r) aa;have hyd:left.getD (pl0 r) 0=y:=by rw[aq,hy];rfl
   rw[hyd]at hst;have hyb:=hlb y (bj hy);have hxb:=hb r hmem x (bj hpx);have ha:100+571*i<=40000:=by omega
   have M1:=wL d x (bK hd50 aa) (bK hxb aa);have hdx0:d*x≠0:=Int.mul_ne_zero hd0 hx0;have hdxb:=DR hd50 hxb;have DM:=Nv y (d*x) (bK hyb aa) (bK hdxb aa) hdx0;have CBk:=cb_of (D:=d*x) hf hlb hyb hd50 (hb r hmem);have PZ:=B0 (y%(d*x));have hrb:=hb r hmem;clear hcr hnz hyd hpd;generalize pl0 r=p at*;obtain⟨q,hq⟩:∃q,q=y/(d*x):=⟨_,rfl⟩;obtain⟨t,ht⟩:∃t,t=y%(d*x):=⟨_,rfl⟩;rw[<-hq,<-ht]at hst DM;rw[<-hq]at CBk;rw[<-ht]at PZ;by_cases ht0:t=0
   ·have hcr:=hst.1 ht0;rw[aD ht0]at PZ;clear hst hq ht hdx0 hdxb;refine jM ?_;refine xh ?_;refine kX ?_;refine JZ ?_;refine cn ?_
    (refine av (ay (sl':=[(6,.own 100),(9,.opt 9 0),(10,.own 10),(41,dW R),(42,zI R.length),(43,zI (i:Nat)),(12,dZ r),(13,zI (p:Nat))]) (ow':=[(10,⟨62,2,out.map .nm⟩),(9,⟨62,2,[.nm d]⟩),(100,⟨62,2,left.map .nm⟩)]) aF aH) ?_)
    refine zs2 ?_;refine QL ?_;refine zs2 ?_;refine jk ?_;refine nD ?_;refine aQ ?_;refine bR ?_;refine QO ?_;refine zs2 ?_;refine xi ?_;refine zs2 ?_
    (refine av (ay (sl':=[(6,.own 100),(9,.opt 9 0),(10,.own 10),(41,dW R),(42,zI R.length),(43,zI (i:Nat)),(14,.opt 14 0),(71,dZ r),(72,zI r.length),(73,zI 0)]) (ow':=[(14,⟨62,2,[.nm q]⟩),(10,⟨62,2,out.map .nm++[.nm q]⟩),(9,⟨62,2,[.nm d]⟩),(100,⟨62,2,left.map .nm⟩)]) aF aH) ?_)
    rw[show out.map D.nm++[.nm q]=(out++[q]).map .nm by rw[cL];rfl];obtain⟨N2,hN2⟩:∃N2,N2=Mx.en (-(q*d)) left r:=⟨_,rfl⟩;have hN2l:N2.length=n:=by rw[hN2,Mx.kg _ _ _ aa];exact hll
    rw[<-hN2]at hcr;have hN2b:∀z∈N2,z.natAbs<=2^(100+571*(i+1)):=fun z hz=>by
     rw[hN2]at hz;have:=CBk.q4 z hz;rwa[show 100+571*i+571=100+571*(i+1) by omega]at this
    obtain⟨O2,hO2⟩:∃O2,O2=out++[q]:=⟨_,rfl⟩;have hO2l:O2.length=i+1:=by rw[hO2,cv,hol];rfl
    rw[<-hO2]at hcr;rw[<-hO2];clear hO2 hol;refine bh (fun rr s=>∃j,j<=r.length/\rr=r.length-j/\s=⟨[(6,.own 100),(9,.opt 9 0),(10,.own 10),(41,dW R),(42,zI R.length),(43,zI (i:Nat)),(14,.opt 14 0),(71,dZ r),(72,zI r.length),(73,zI (j:Nat))],[(14,⟨62,2,[.nm q]⟩),(10,⟨62,2,O2.map .nm⟩),(9,⟨62,2,[.nm d]⟩),(100,⟨62,2,(N2.take j++left.drop j).map .nm⟩)]⟩) (m:=r.length) ⟨0,aO _,rfl,rfl⟩ fun rr s hs=>?_;obtain⟨j,hj,rfl,rfl⟩:=hs;by_cases hjl:j<r.length
    ·obtain⟨c,hc⟩:=get_some hjl;obtain⟨b,hbj⟩:=get_some (m:=left) (k:=j) aa;have hnj:N2[j]?=some (b-q*d*c):=by
      rw[hN2,zn hbj hc,gX];rfl
     have hcb:=hrb c (bj hc);have hbb:=hlb b (bj hbj);have hqc:=CBk.q3 c (bj hc);have MA:=wL q d (bK CBk.q1 aa) (bK hd50 aa);have MB:=wL (q*d) c (bK CBk.q2 aa) (bK hcb aa);have SB:=VT b (q*d*c) (bK hbb aa) (bK hqc aa);have hq1:(N2.take j++left.drop j).set j (b-q*d*c)=N2.take (j+1)++left.drop (j+1):=by
      rw[bF hnj,zN j _ nQ,aY,dK aa,eR,nW aa,et,fK];rfl
     have hq0:(N2.take j++left.drop j)[j]?=some b:=by
      rw[ez nQ,aY,dK aa,eR,eF];exact hbj
     have hql:(N2.take j++left.drop j).length=n:=by simp;omega
     obtain⟨W,hW⟩:∃W,W=N2.take j++left.drop j:=⟨_,rfl⟩;rw[<-hW]at hq1 hql hq0;rw[<-hW];clear hW hnj hN2 hcb hbb hqc;obtain⟨v,hv⟩:∃v,v=b-q*d*c:=⟨_,rfl⟩;rw[<-hv]at SB hq1;obtain⟨qd,hqd⟩:∃qd,qd=q*d:=⟨_,rfl⟩;rw[<-hqd]at MA MB SB;obtain⟨qdc,hqdc⟩:∃qdc,qdc=qd*c:=⟨_,rfl⟩;rw[<-hqdc]at MB SB;clear hv hqd hqdc CBk;have hE:(W.map D.nm).set j (.nm v)=(W.set j v).map .nm:=by rw[lu]
     refine jM ?_;refine cE ?_;refine nK ?_;(refine dT (k:=18) (z:=(.agg #[.bool false,.slice none 0 0])) (d:=(.nm 0)) rfl rfl rfl rfl rfl ah ai ai cX ai ai cj ?_);refine zs6 ?_;refine jj ?_
     (refine av (ay (sl':=[(6,.own 100),(9,.opt 9 0),(10,.own 10),(41,dW R),(42,zI R.length),(43,zI (i:Nat)),(14,.opt 14 0),(71,dZ r),(72,zI r.length),(73,zI (j:Nat)),(17,zI (j:Nat)),(18,.opt 18 0)]) (ow':=[(18,⟨62,2,[.nm c]⟩),(14,⟨62,2,[.nm q]⟩),(10,⟨62,2,O2.map .nm⟩),(9,⟨62,2,[.nm d]⟩),(100,⟨62,2,W.map .nm⟩)]) aF aH) ?_)
     refine zs2 ?_;refine rM ?_;refine fZ ?_;refine fZ ?_;refine fZ ?_;refine mR ?_;refine dH ?_;refine dH ?_;refine lV ?_;refine dH ?_;refine lV ?_;refine lV ?_;refine Dw ?_;(refine xZ (i:=j) rfl rfl rfl ck ck aX ai qz ai cX ai ah qA ?_);refine lU ?_;refine zs2 ?_;rw[hE,hq1];refine zs2 ?_;refine nE ?_;simp only[nx,inB];exact⟨r.length-(j+1),_,by omega,(ay (sl':=[(6,.own 100),(9,.opt 9 0),(10,.own 10),(41,dW R),(42,zI R.length),(43,zI (i:Nat)),(14,.opt 14 0),(71,dZ r),(72,zI r.length),(73,zI ((j+1:Nat):Int))]) (ow':=[(14,⟨62,2,[.nm q]⟩),(10,⟨62,2,O2.map .nm⟩),(9,⟨62,2,[.nm d]⟩),(100,⟨62,2,(N2.take (j+1)++left.drop (j+1)).map .nm⟩)]) aF aH),j+1,by omega,rfl,rfl⟩
    ·obtain rfl:j=r.length:=by omega
     have hq1:N2.take r.length++left.drop r.length=N2:=by rw[cf aa,jx aa,kB]
     rw[hq1];clear hq1 hN2 CBk;refine nM ?_;refine nE ?_;simp only[nx,inB];exact⟨R.length-(i+1),_,by omega,(ay (sl':=[(6,.own 100),(9,.opt 9 0),(10,.own 10),(41,dW R),(42,zI R.length),(43,zI ((i+1:Nat):Int))]) (ow':=[(10,⟨62,2,O2.map .nm⟩),(9,⟨62,2,[.nm d]⟩),(100,⟨62,2,N2.map .nm⟩)]) aF aH),i+1,N2,O2,by omega,rfl,hN2l,hN2b,hcr,hO2l,rfl⟩
   ·have hcr:=hst.2 ht0;have EC:Lg (crd d R L0)= .tp [dZ [],.sc (.bool false)]:=by rw[hcr];rfl
    rw[aG ht0]at PZ;clear hst hq ht hdx0 hdxb CBk hcr;refine jM ?_;refine xh ?_;refine kX ?_;refine JZ ?_;refine cn ?_
    (refine av (ay (sl':=[(6,.own 100),(9,.opt 9 0),(10,.own 10),(41,dW R),(42,zI R.length),(43,zI (i:Nat)),(12,dZ r),(13,zI (p:Nat))]) (ow':=[(10,⟨62,2,out.map .nm⟩),(9,⟨62,2,[.nm d]⟩),(100,⟨62,2,left.map .nm⟩)]) aF aH) ?_)
    refine zs2 ?_;refine QL ?_;refine zs2 ?_;refine jk ?_;refine nD ?_;refine aQ ?_;refine bA ?_;refine Dp ?_;refine zs2 ?_;rw[EC];exact⟨_,ye (t:=4) (wd:=2) fF,.two (.tmp 4) (.tmp 5) _ _ rfl (.tmp 4 rfl) (.tmp 5 rfl)⟩
  ·obtain rfl:i=R.length:=by omega
   rw[pI]at hcr;have EC:Lg (crd d R L0)= .tp [dZ out,.sc (.bool (left.all fun z=>decide (z=0)))]:=by
    rw[hcr];show DW.D.tp [dZ (out++[]),_]=_;rw[kB]
   have CT:=ctf_d 174 left aa (fun z _=>nz2_d z);clear hcr hlb;generalize left.all (fun z=>decide (z=0))=b at*;refine nM ?_;refine av (az (k:=10) aX bq bp) ?_;refine av (az (k:=100) aX bq bp) ?_;refine zs2 ?_;refine bT ?_;refine JZ ?_;refine nD ?_;refine zs6 ?_;refine cn ?_;rw[EC];rw[Bool.not_not];exact⟨_,Sh.refl,.two (.tmp 4) (.tmp 5) _ _ rfl (.tmp 4 rfl) (.tmp 5 rfl)⟩
end DW
end
section
open Go.RowKit
namespace DW
section
variable {P : Program} {X0 : Nat->Prop} {n : Nat} {sl : List (Nat × D)} {ow : List (Nat × Ow)}
end
section
variable {P : Program} {s : S} {o : Oper}
theorem UH{x y:Operand}{tt:TypeId}{d1 d2:D}{wd:Nat}(ho:o.op= .buildSlice tt 2 #[(0,x),(1,y)])(hx:s.op x=d1)(hy:s.op y=d2)(hf1:d1.fits=true)(hf2:d2.fits=true)(hw1:d1.wd=wd)(hw2:d2.wd=wd)(ht:P.underlying tt=some (.slice (P.elem tt)))(hz:(P.info? (P.elem tt)).map (fun i=>(i.zero.isSome,i.size))=some (true,wd))(h0:Nat.blt 0 wd=true)(h1:Nat.ble wd 1000000=true):bH P o s (.ls wd [d1,d2]):=fun X f a w base hX _ hs=>by
 have h0':0<wd:=by simpa[bB]using h0
 have h1':wd<=1000000:=by simpa using h1
 have g1:=hs x bU;have g2:=hs y bU;rw[hx]at g1;rw[hy]at g2;have k1:AR X w d1 (a.eval x):=by cases d1<;>first|exact g1|simp[D.fits]at hf1
 have k2:AR X w d2 (a.eval y):=by cases d2<;>first|exact g2|simp[D.fits]at hf2
 have s1:=AR.size d1 _ hf1 k1;have s2:=AR.size d2 _ hf2 k2
 cases hq:P.info? (P.elem tt)with
 |none=>rw[hq]at hz;cases hz
 |some inf=>
  rw[hq]at hz;simp only[cG,ak,aR]at hz;obtain⟨z,hz1⟩:=cV.1 hz.1;have hfill:=Go.Great.fill_whole (s:=inf.size) aa [a.eval x,a.eval y] ((Array.range (2*inf.size)).map (z.cells[· %z.cells.size]!)) (by
   intro v hv;simp only[bC,List.not_mem_nil,or_false]at hv;rcases hv with rfl|rfl
   ·rw[s1,hw1,hz.2]
   ·rw[s2,hw2,hz.2]) aU
  have hr:(execOp a.eval o).run P w= .ok (.value (.slice (some ⟨w.heap.size,0,none⟩) 2 2)) (w.alloc (.cells ((a.eval x).cells++(a.eval y).cells) (P.elem tt))):=by
   unfold execOp;rw[ho];have:=run_buildSlice (P:=P) w tt (P.elem tt) 2 #[(0,a.eval x),(1,a.eval y)] ((a.eval x).cells++(a.eval y).cells) inf z ht hq hz1 xu xu (by
    have e:((a.eval x).cells.toList++(a.eval y).cells.toList).toArray=(a.eval x).cells++(a.eval y).cells:=by rw[<-vR]
    rw[<-e];simpa using hfill)
   simp[Sem.run_bind,this]
  have hb:Below w.heap.size w (w.alloc (.cells ((a.eval x).cells++(a.eval y).cells) (P.elem tt))):=(Below.refl _ _).alloc (af _) _;have hra:=mI w ((a.eval x).cells++(a.eval y).cells) (P.elem tt);rw[hr];refine⟨?_,hb,fun h=>by simp[D.qX]at h⟩;simp only[SR,AR,ARs,reduceCtorEq,false_or];refine⟨_,2,rfl,af _,w.heap.size,0,rfl,fun e=>by have:=(hX _ e).1;omega,by simp,⟨a.eval x,k1.grow hb,hf1,hw1,fun j v hj=>hra j v ?_⟩,⟨a.eval y,k2.grow hb,hf2,hw2,fun j v hj=>?_⟩,trivial⟩
  ·rw[vR,dC (ct.1 hj).1];exact hj
  ·have := hra (wd + j) v (by
    rw[vR,ez (by simp[s1,hw1]),bX,s1,hw1,oc];exact hj)
   rwa[<-py]at this
end
end DW
end
section
namespace Mx
theorem Cy(j:Nat):skip 0 j=j+1:=by unfold skip;rw[aj aa]
theorem BQ(l:Nat):skip (l+1) 0=0:=by unfold skip;rw[an aa]
theorem L9(l i:Nat):skip (l+1) (i+1)=skip l i+1:=by
 unfold skip;by_cases h:i<l
 ·rw[an h,an aa]
 ·rw[aj h,aj aa]
theorem yC(n:Nat)(g:Nat->Int):sm (n+1) g=g 0+sm n (fun l=>g (l+1)):=by
 rw[H9 g n 0 (aO _),bG n (fun l=>g (skip 0 l)) (fun l=>g (l+1)) fun l _=>by rw[Cy]];omega
theorem Ta(n:Nat)(h:∀f,D (n+1) f=D (n+1) fun i j=>f j i)(f:Nat->Nat->Int):
  D (n+2) f=f 0 0*D (n+1) (fun i j=>f (i+1) (j+1))+sm (n+1) fun l=>sm (n+1) fun m=>-(sg l*sg m)*(f 0 (l+1)*f (m+1) 0)*D n (fun i j=>f (skip m j+1) (skip l i+1)):=by
 show sm (n+2) (fun k=>sg k*f 0 k*D (n+1) (fun i j=>f (i+1) (skip k j)))=_;rw[yC];congr 1
 ·rw[show sg 0=1 from rfl,jy,fV (n+1) (fun i j=>f (i+1) (skip 0 j)) (fun i j=>f (i+1) (j+1)) fun i j _ _=>by rw[Cy]]
 ·refine bG _ _ _ fun l _=>?_;rw[h];show sg (l+1)*f 0 (l+1)*sm (n+1) (fun m=>sg m*f (m+1) (skip (l+1) 0)*D n (fun i j=>f (skip m j+1) (skip (l+1) (i+1))))=_;rw[<-kE];refine bG _ _ _ fun m _=>?_;rw[BQ,Ie,fV n (fun i j=>f (skip m j+1) (skip (l+1) (i+1))) (fun i j=>f (skip m j+1) (skip l i+1)) fun i j _ _=>by rw[L9]];generalize D n _=d;simp only[gX,eE];congr 1;rw[tB (f 0 (l+1)) (sg m)]
theorem Tb:∀n,(∀f,D n f=D n fun i j=>f j i)/\∀f,D (n+1) f=D (n+1) fun i j=>f j i
 |0=>⟨fun _=>rfl,fun f=>by
  show sm 1 (fun k=>sg k*f 0 k*1)=sm 1 (fun k=>sg k*f k 0*1);rfl⟩
 |n+1=>by
  obtain⟨h1,h2⟩:=Tb n;refine⟨h2,fun f=>?_⟩;rw[Ta n h2 f,Ta n h2 (fun i j=>f j i)];congr 1
  ·rw[h2]
  ·rw[tL];refine bG _ _ _ fun l _=>bG _ _ _ fun m _=>?_;rw[h1,fq (sg m) (sg l),fq (f 0 (m+1))]
theorem Lx(n:Nat)(f:Nat->Nat->Int):D n f=D n fun i j=>f j i:=(Tb n).1 f
theorem Vb{n i:Nat}(hi:i<n)(f:Nat->Nat->Int):D n (upd f i fun _=>0)=0:=by
 have h:=Bn 0 0 n f i (fun _=>0) (fun _=>0) hi;simpa using h
theorem D_sm{n i:Nat}(hi:i<n)(f:Nat->Nat->Int)(v:Nat->Int)(A:Nat->Nat->Int):∀m,D n (upd f i fun j=>sm m fun k=>v k*A k j)=sm m fun k=>v k*D n (upd f i (A k))
 |0=>Vb hi f
 |m+1=>by
  have h:=Bn 1 (v m) n f i (fun j=>sm m fun k=>v k*A k j) (A m) hi;rw[D_sm hi f v A m]at h;show D n (upd f i fun j=>sm m (fun k=>v k*A k j)+v m*A m j)=sm m (fun k=>v k*D n (upd f i (A k)))+v m*D n (upd f i (A m));rw[jy]at h;rw[<-h];congr 2;funext j;rw[jy]
theorem MP:∀(n:Nat) (τ:Nat->Nat),(∀i,i<n+1->τ i<n)->∃i j,i<j/\j<n+1/\τ i=τ j
 |0,τ,h=>absurd (h 0 aa) aa
 |n+1,τ,h=>by
  by_cases e:∃i,i<n+1/\τ i=τ (n+1)
  ·obtain⟨i,h1,h2⟩:=e;exact⟨i,n+1,h1,by omega,h2⟩
  ·have hne:∀i,i<n+1->τ i≠τ (n+1):=fun i hi h2=>e ⟨i,hi,h2⟩;have ht:=h (n+1) aa;obtain⟨i,j,h1,h2,h3⟩:=MP n (fun i=>if τ (n+1)<τ i then τ i-1 else τ i) fun i hi=>by
    have a:=hne i hi;have b:=h i aa;show(if τ (n+1)<τ i then τ i-1 else τ i)<n;split<;>omega
   refine⟨i,j,h1,by omega,?_⟩;have a:=hne i aa;have b:=hne j h2;split at h3<;>split at h3<;>omega
theorem zt{r:Nat}(H:Nat->Nat->Int):∀(d k:Nat),k+d=r->∀τ:Nat->Nat,(∀i,i<r->τ i<r)->(∀i,i<k->τ i=i)->∃c:Int,∀S:Nat->Nat,D r (fun i j=>H (τ i) (S j))=c*D r (fun i j=>H i (S j))
 |0,k,hk,τ,_,h2=>⟨1,fun S=>by
  rw[jy];exact fV r _ _ fun i j hi _=>by rw[h2 i aa]⟩
 |d+1,k,hk,τ,h1,h2=>by
  by_cases e:∃i j,i<j/\j<r/\τ i=τ j
  ·obtain⟨i,j,hij,hj,he⟩:=e;exact⟨0,fun S=>by
    rw[pD];exact G8 (i:=i) (j:=j) aa hj aa _ fun l=>by rw[he]⟩
  ·have hne:∀i j,i<j->j<r->τ i≠τ j:=fun i j hi hj he=>e ⟨i,j,hi,hj,he⟩;have hp:∃p,p<r/\τ p=k:=tg fun hno=>by
    have hno':∀p,p<r->τ p≠k:=fun p hp he=>hno ⟨p,hp,he⟩;obtain⟨n,rfl⟩:∃n,r=n+1:=⟨r-1,by omega⟩;obtain⟨i,j,g1,g2,g3⟩:=MP n (fun i=>if k<τ i then τ i-1 else τ i) fun i hi=>by
     have a:=hno' i hi;have b:=h1 i hi;show(if k<τ i then τ i-1 else τ i)<n;split<;>omega
    have a:=hno' i aa;have b:=hno' j g2;refine hne i j g1 g2 ?_;split at g3<;>split at g3<;>omega
   obtain⟨p,hp,hpk⟩:=hp;have hkp:k<=p:=tg fun h=>by
    have:=h2 p aa;omega
   by_cases hpe:p=k
   ·subst hpe;exact zt (r:=r) H d (p+1) aa τ h1 fun i hi=>by
     by_cases hi2:i<p
     ·exact h2 i hi2
     ·obtain rfl:i=p:=by omega
      exact hpk
   ·obtain ⟨c, hc⟩ := zt (r := r) H d (k + 1) (by omega) (fun i => if i = k then τ p else if i = p then τ k else τ i) (fun i hi => by
        show(if i=k then τ p else if i=p then τ k else τ i)<r;split
        ·exact h1 p hp
        ·split
         ·exact h1 k aa
         ·exact h1 i hi) (fun i hi=>by
        show(if i=k then τ p else if i=p then τ k else τ i)=i;split
        ·omega
        ·split
         ·omega
         ·exact h2 i aa)
    refine⟨-c,fun S=>?_⟩;rw[gX,<-hc S];have hs:=WK (n:=r) (i:=k) (j:=p) aa hp (fun h=>hpe h.symm) (fun i j=>H (τ i) (S j));have:D r (upd (upd (fun i j=>H (τ i) (S j)) k ((fun i j=>H (τ i) (S j)) p)) p ((fun i j=>H (τ i) (S j)) k))=D r (fun i j=>H (if i=k then τ p else if i=p then τ k else τ i) (S j)):=fV r _ _ fun i j _ _=>by
     unfold upd;by_cases e1:i=p
     ·rw[an e1,aj aa,an e1]
     ·rw[aj e1];by_cases e2:i=k
      ·rw[an e2,an e2]
      ·rw[aj e2,aj e2,aj e1]
    rw[this]at hs;omega
theorem Ox{r:Nat}(H V:Nat->Nat->Int):∀t,t<=r->∀τ:Nat->Nat,(∀i,i<r->τ i<r)->∃c:Int,∀S:Nat->Nat,D r (fun i j=>if i<t then sm r (fun k=>V i k*H k (S j))else H (τ i) (S j))=c*D r (fun i j=>H i (S j))
 |0,_,τ,h1=>by
  obtain⟨c,hc⟩:=zt (r:=r) H r 0 aa τ h1 fun i hi=>absurd hi (qD i);exact⟨c,fun S=>by
   rw[<-hc S];exact fV r _ _ fun i j _ _=>aj (qD i)⟩
 |t+1,ht,τ,h1=>by
  have hk:∀k,∃c:Int,k<r->∀S:Nat->Nat,D r (fun i j=>if i<t then sm r (fun k=>V i k*H k (S j))else H (if i=t then k else τ i) (S j))=c*D r (fun i j=>H i (S j)):=fun k=>by
   by_cases hkr:k<r
   ·obtain ⟨c, hc⟩ := Ox (r := r) H V t (by omega) (fun i => if i = t then k else τ i) fun i hi => by
     show(if i=t then k else τ i)<r;split
     ·exact hkr
     ·exact h1 i hi
    exact⟨c,fun _=>hc⟩
   ·exact⟨0,fun h=>absurd h hkr⟩
  refine⟨sm r fun k=>V t k*Classical.choose (hk k),fun S=>?_⟩;have e:=D_sm (n:=r) (i:=t) aa (fun i j=>if i<t then sm r (fun k=>V i k*H k (S j))else H (τ i) (S j)) (V t) (fun k j=>H k (S j)) r;rw[fV r (fun i j=>if i<t+1 then sm r (fun k=>V i k*H k (S j))else H (τ i) (S j)) (upd (fun i j=>if i<t then sm r (fun k=>V i k*H k (S j))else H (τ i) (S j)) t fun j=>sm r fun k=>V t k*H k (S j)) fun i j _ _=>by
   unfold upd;by_cases e1:i=t
   ·rw[an e1,an aa,e1]
   ·rw[aj e1];show(if i<t+1 then sm r fun k=>V i k*H k (S j)else H (τ i) (S j))=if i<t then sm r (fun k=>V i k*H k (S j))else H (τ i) (S j)
    by_cases e2:i<t
    ·rw[an e2,an (show i<t+1 by omega)]
    ·rw[aj e2,aj (show¬i<t+1 by omega)],e,fq,<-kE]
  refine bG r _ _ fun k hkr=>?_;have hc:=Ew (hk k) hkr S;rw[fV r (upd (fun i j=>if i<t then sm r (fun k=>V i k*H k (S j))else H (τ i) (S j)) t fun j=>H k (S j)) (fun i j=>if i<t then sm r (fun k=>V i k*H k (S j))else H (if i=t then k else τ i) (S j)) fun i j _ _=>by
   unfold upd;by_cases e1:i=t
   ·rw[an e1,aj aa,an e1]
   ·rw[aj e1,aj e1],hc,tB,fq (D r _)]
  rw[tB,eE]
end Mx
end
section
namespace Mx
def trM(n:Nat)(M:Mat):Mat:=(List.range n).map fun j=>M.map fun r=>r.getD j 0
theorem Tq(n:Nat)(M:Mat):(trM n M).length=n:=by simp[trM]
theorem Vj(n:Nat)(M:Mat):Rc M.length (trM n M):=fun r hr=>by
 obtain⟨k,_,rfl⟩:=dY.1 hr;simp
end Mx
end
section
namespace Mx
def fct:Nat->Nat
 |0=>1
 |n+1=>(n+1)*fct n
theorem BP:∀(n:Nat) (f:Nat->Int) (X:Nat),(∀k,k<n->(f k).natAbs<=X)->(sm n f).natAbs<=n*X
 |0,_,_,_=>by simp[sm]
 |n+1,f,X,h=>by
  have h1:=BP n f X fun k hk=>h k aa;have h2:=h n aa;show(sm n f+f n).natAbs<=_;rw[Nat.succ_mul];omega
theorem Mg(k:Nat):(sg k).natAbs=1:=by unfold sg;split<;>rfl
theorem D_bd{B:Nat}:∀(n:Nat) (f:Nat->Nat->Int),(∀i j,(f i j).natAbs<=B)->(D n f).natAbs<=fct n*B^n
 |0,_,_=>by simp[D,fct]
 |n+1,f,h=>by
  show(sm (n+1) fun k=>sg k*f 0 k*D n (fun i j=>f (i+1) (skip k j))).natAbs<=_;refine aB (BP _ _ (B*(fct n*B^n)) fun k _=>?_) ?_
  ·rw[gG,gG,Mg,dc];exact cr (h 0 k) (D_bd n _ fun i j=>h _ _)
  ·show _<=(n+1)*fct n*B^(n+1);rw[dQ,bs (B^n) B,<-bP,bP,bP,fI B];exact af _
theorem Ou{r L:Nat}(A U:Nat->Nat->Int)(S:Nat->Nat)(h0:∀τ:Nat->Nat,(∀i,i<r->τ i<L)->D r (fun i j=>A (τ i) (S j))=0):∀t,t<=r->∀τ:Nat->Nat,(∀i,i<r->τ i<L)->D r (fun i j=>if i<t then sm L (fun k=>U i k*A k (S j))else A (τ i) (S j))=0
 |0,_,τ,h1=>by
  rw[<-h0 τ h1];exact fV r _ _ fun i j _ _=>aj (qD i)
 |t+1,ht,τ,h1=>by
  have e:=D_sm (n:=r) (i:=t) aa (fun i j=>if i<t then sm L (fun k=>U i k*A k (S j))else A (τ i) (S j)) (U t) (fun k j=>A k (S j)) L;rw[fV r (fun i j=>if i<t+1 then sm L (fun k=>U i k*A k (S j))else A (τ i) (S j)) (upd (fun i j=>if i<t then sm L (fun k=>U i k*A k (S j))else A (τ i) (S j)) t fun j=>sm L fun k=>U t k*A k (S j)) fun i j _ _=>by
   unfold upd;by_cases e1:i=t
   ·rw[an e1,an aa,e1]
   ·rw[aj e1];show(if i<t+1 then sm L fun k=>U i k*A k (S j)else A (τ i) (S j))=if i<t then sm L (fun k=>U i k*A k (S j))else A (τ i) (S j)
    by_cases e2:i<t
    ·rw[an e2,an (show i<t+1 by omega)]
    ·rw[aj e2,aj (show¬i<t+1 by omega)],e]
  refine kI L _ fun k hk=>?_;rw[fV r (upd (fun i j=>if i<t then sm L (fun k=>U i k*A k (S j))else A (τ i) (S j)) t fun j=>A k (S j)) (fun i j=>if i<t then sm L (fun k=>U i k*A k (S j))else A (if i=t then k else τ i) (S j)) fun i j _ _=>by
   unfold upd;by_cases e1:i=t
   ·rw[an e1,aj aa,an e1]
   ·rw[aj e1,aj e1],Ou A U S h0 t aa (fun i=>if i=t then k else τ i) (fun i hi=>by
    show(if i=t then k else τ i)<L;split
    ·exact hk
    ·exact h1 i hi),dv]
theorem Vc{r L B:Nat}(A H U V:Nat->Nat->Int)(c:Nat->Nat)(hU:∀i,i<r->∀j,H i j=sm L fun k=>U i k*A k j)(hV:∀i,i<L->∀j,A i j=sm r fun k=>V i k*H k j)(hp:D r (fun i j=>H i (c j))≠0)(hB:∀i j,(A i j).natAbs<=B)(S:Nat->Nat):(D r (fun i j=>H i (S j))).natAbs<=fct r*B^r:=by
 have hτ:∃τ:Nat->Nat,(∀i,i<r->τ i<L)/\D r (fun i j=>A (τ i) (c j))≠0:=tg fun hno=>by
  have h0:∀τ:Nat->Nat,(∀i,i<r->τ i<L)->D r (fun i j=>A (τ i) (c j))=0:=fun τ h=>tg fun h2=>hno ⟨τ,h,h2⟩;by_cases hL:0<L
  ·have:=Ou A U c h0 r (af _) (fun _=>0) fun _ _=>hL;refine hp ?_;rw[<-this];exact fV r _ _ fun i j hi _=>by rw[an hi,hU i hi]
  ·obtain rfl:L=0:=by omega
   by_cases hr:r=0
   ·subst hr;exact hp (h0 (fun _=>0) fun i hi=>absurd hi (qD i))
   ·refine hp (WJ (i:=0) aa _ fun l _=>?_);show H 0 (c l)=0;rw[hU 0 aa];rfl
 obtain⟨τ,h1,h2⟩:=hτ;obtain⟨z,hz⟩:=Ox (r:=r) H (fun i k=>V (τ i) k) r (af _) (fun _=>0) (fun i hi=>by omega);have e:∀S:Nat->Nat,D r (fun i j=>A (τ i) (S j))=z*D r (fun i j=>H i (S j)):=fun S=>by
  rw[<-hz S];exact fV r _ _ fun i j hi _=>by rw[an hi,hV _ (h1 i hi)]
 have hz0:z≠0:=fun hz0=>h2 (by rw[e c,hz0,pD]);have h3:=D_bd (B:=B) r (fun i j=>A (τ i) (S j)) fun i j=>hB _ _;rw[e S,gG]at h3;exact aB (EJ _ aa) h3
theorem Ef:∀(n:Nat) (f:Nat->Nat->Int),(∀i j,j<i->i<n->f i j=0)->(∀i,i<n->1<=f i i)->1<=D n f/\∀i,i<n->f i i<=D n f
 |0,_,_,_=>⟨by simp[D],fun i hi=>absurd hi (qD i)⟩
 |n+1,f,h0,h1=>by
  have e:D (n+1) f=f 0 0*D n (fun i j=>f (i+1) (j+1)):=by
   rw[Lx];show sm (n+1) (fun k=>sg k*f k 0*D n (fun i j=>f (skip k j) (i+1)))=_;rw[L6 (j:=0) aa fun k hk hne=>by rw[h0 k 0 aa hk];simp,Lx n (fun i j=>f (i+1) (j+1))];rw[show sg 0=1 from rfl,jy];congr 1
  obtain⟨i1,i2⟩:=Ef n (fun i j=>f (i+1) (j+1)) (fun i j hj hi=>h0 _ _ aa aa) fun i hi=>h1 _ aa;have ha:=h1 0 aa;rw[e];generalize D n (fun i j=>f (i+1) (j+1))=d at*;have hda:d<=f 0 0*d:=by
   have:=nZ ha (show 0<=d by omega);omega
  have haa:f 0 0<=f 0 0*d:=by
   have:=Int.mul_le_mul_of_nonneg_left i1 (show 0<=f 0 0 by omega);omega
  refine⟨by omega,fun i hi=>?_⟩
  cases i with
  |zero=>exact haa
  |succ i=>exact Int.le_trans (i2 i aa) hda
theorem Jt{r K P:Nat}(H:Nat->Nat->Int)(c:Nat->Nat)(hK:∀S:Nat->Nat,(D r (fun i j=>H i (S j))).natAbs<=K){i:Nat}(hi:i<r)(hP:∀l,l<r->(H i (c l)).natAbs<=P)(j:Nat):(H i j).natAbs*(D r (fun i j=>H i (c j))).natAbs<=r*(P*K):=by
 let col:Nat->Nat:=fun b=>if b=0 then j else c (b-1)
 let g:Nat->Nat->Int:=fun a b=>H (if a=0 then i else a-1) (col b)
 have h0:D (r+1) g=0:=G8 (i:=0) (j:=i+1) aa aa aa g fun l=>by
  show H (if 0=0 then i else _) _=H (if i+1=0 then i else i+1-1) _;rw[an rfl,aj aa,rP]
 have h1:D (r+1) g=sm (r+1) fun k=>sg k*g 0 k*D r (fun a b=>g (a+1) (skip k b)):=rfl;have hg:∀k,D r (fun a b=>g (a+1) (skip k b))=D r (fun a b=>H a (col (skip k b))):=fun k=>fV r _ _ fun a b _ _=>by
  show H (if a+1=0 then i else a+1-1) _=_;rw[aj aa,rP]
 rw[h0,yC]at h1;have e1:sg 0*g 0 0*D r (fun a b=>g (a+1) (skip 0 b))=H i j*D r (fun a b=>H a (c b)):=by
  rw[hg 0,show sg 0=1 from rfl,jy];show H (if 0=0 then i else _) (col 0)*_=_;rw[an rfl];congr 1
 rw[e1]at h1;have h2:=BP r (fun l=>sg (l+1)*g 0 (l+1)*D r (fun a b=>g (a+1) (skip (l+1) b))) (P*K) fun l hl=>by
  rw[gG,gG,Mg,dc,hg (l+1)];refine cr ?_ (hK _);show(H (if 0=0 then i else _) (if l+1=0 then j else c (l+1-1))).natAbs<=P;rw[an rfl,aj aa,rP];exact hP l hl
 have h3:(H i j*D r (fun a b=>H a (c b))).natAbs<=r*(P*K):=by omega
 rw[gG]at h3;exact h3
theorem WM{r K P:Nat}(H:Nat->Nat->Int)(c:Nat->Nat)(hK:∀S:Nat->Nat,(D r (fun i j=>H i (S j))).natAbs<=K)(hp:D r (fun i j=>H i (c j))≠0){i:Nat}(hi:i<r)(hP:∀l,l<r->(H i (c l)).natAbs<=P)(j:Nat):(H i j).natAbs<=r*(P*K):=
 aB (eQ _ aa) (Jt H c hK hi hP j)
theorem Vd{r K:Nat}(H:Nat->Nat->Int)(c:Nat->Nat)(hK:∀S:Nat->Nat,(D r (fun i j=>H i (S j))).natAbs<=K)(hp:D r (fun i j=>H i (c j))≠0){i:Nat}(hi:i<r)(hP:∀l,l<r->(H i (c l)).natAbs<=(D r (fun i j=>H i (c j))).natAbs)(j:Nat):(H i j).natAbs<=r*K:=by
 have h:=Jt H c hK hi hP j;refine Nat.le_of_mul_le_mul_right (c:=(D r (fun i j=>H i (c j))).natAbs) ?_ aa;rwa[bP,bs K]
theorem tZ:∀(M:Mat) (f:Nat->Int) (j:Nat),lcf f M j=sm M.length fun k=>f k*at' M k j
 |[],_,_=>rfl
 |a::A,f,j=>by
  rw[eK,tZ A,iD,yC];simp only[dG,jD]
theorem AE{n B:Nat}{M:Mat}(hR:Rc n M)(hB:∀i j,(at' M i j).natAbs<=B)(i j:Nat):∃r,r<=n/\r<=M.length/\(at' (red n 0 (0,M)).2 i j).natAbs<=r*((fct r*B^r)*(fct r*B^r))/\(at' (red n 0 (0,M)).2 i j).natAbs<=r*(fct r*B^r):=by
 have hre:RE M (red n 0 (0,M)).2:=eh n 0 (0,M) hR;obtain⟨pv,he⟩:=iJ n 0 (0,M) id hR (gL M);rw[bw]at he;obtain⟨h1,h2⟩:=hre.sp hR;generalize(red n 0 (0,M)).2=H at*;generalize(red n 0 (0,M)).1=r at*;have hlen:=hre.len;have hRH:=hre.rc hR;have hrn:r<=n:=by
  have:∀k,k<=r->k<=n/\∀i,i<k->i<=pv i:=fun k=>by
   induction k with
   |zero=>exact fun _=>⟨aO _,fun i hi=>absurd hi (qD i)⟩
   |succ k ih=>
    intro hk;obtain⟨a,b⟩:=ih aa;have hk2:k<=pv k:=by
     cases k with
     |zero=>omega
     |succ k=>have:=b k aa;have:=he.mono k (k+1) aa aa;omega
    have:=he.lt k aa;refine⟨by omega,fun i hi=>?_⟩;by_cases e:i=k
    ·rw[e];exact hk2
    ·exact b i aa
  exact(this r (af _)).1
 have hrm:r<=M.length:=by rw[<-hlen];exact he.le
 refine⟨r,hrn,hrm,?_⟩;by_cases hi:i<r
 ·have hz : ∀ k, r <= k -> ∀ j, at' H k j = 0 := fun k hk j => by
   by_cases hj:j<n
   ·exact he.zb k hk j hj
   ·exact qn hRH aa
  have hU:∀i,∃f:Nat->Int,∀j,at' H i j=sm M.length fun k=>f k*at' M k j:=fun i=>by
   obtain⟨f,hf⟩:=h1 (at' H i) (SP.row H i);exact⟨f,fun j=>by rw[hf j,tZ]⟩
  have hV:∀i,∃f:Nat->Int,∀j,at' M i j=sm r fun k=>f k*at' H k j:=fun i=>by
   obtain⟨f,hf⟩:=h2 (at' M i) (SP.row M i);refine⟨f,fun j=>?_⟩;rw[hf j,tZ];have:∀d,sm (r+d) (fun k=>f k*at' H k j)=sm r fun k=>f k*at' H k j:=fun d=>by
    induction d with
    |zero=>rfl
    |succ d ih=>
     show sm (r+d) _+f (r+d)*at' H (r+d) j=_;rw[hz (r+d) aa,dv,vX,ih]
   have:=this (H.length-r);rwa[show r+(H.length-r)=H.length by have:=he.le;omega]at this
  have hT:=Ef r (fun i j=>at' H i (pv j)) (fun i j hj hi=>he.zl i hi _ (he.mono j i hj hi)) fun i hi=>by have:=he.pos i hi;omega
  have hp:D r (fun i j=>at' H i (pv j))≠0:=fun h=>by rw[h]at hT;omega
  have hK:=fun S=>Vc (B:=B) (at' M) (at' H) (fun i=>Classical.choose (hU i)) (fun i=>Classical.choose (hV i)) pv (fun i _ j=>Ew (hU i) j) (fun i _ j=>Ew (hV i) j) hp hB S;have hP:∀l,l<r->(at' H i (pv l)).natAbs<=(D r (fun i j=>at' H i (pv j))).natAbs:=fun l hl=>by
   have hpl:=hT.2 l hl;have hll:at' H l (pv l)<=((D r (fun i j=>at' H i (pv j))).natAbs:Nat):=by omega
   by_cases hil:i<l
   ·have:=he.ab i l hil hl;omega
   ·by_cases hli:i=l
    ·subst hli;have:=he.pos i hi;omega
    ·rw[he.zl i hi _ (he.mono l i aa hi)];simp
  exact⟨WM (at' H) pv hK hp hi (fun l hl=>aB (hP l hl) (hK pv)) j,Vd (at' H) pv hK hp hi hP j⟩
 ·have : at' H i j = 0 := by
   by_cases hj:j<n
   ·exact he.zb i aa j hj
   ·exact qn hRH aa
  rw[this];simp
theorem Mw{n B:Nat}{M:Mat}(hR:Rc n M)(hB:∀i j,(at' M i j).natAbs<=B)(i j:Nat):∃r,r<=n/\(at' (red n 0 (0,M)).2 i j).natAbs<=r*((fct r*B^r)*(fct r*B^r)):=by
 obtain⟨r,h1,_,h2,_⟩:=AE hR hB i j;exact⟨r,h1,h2⟩
end Mx
end
section
namespace Mx
def cof(n:Nat)(f:Nat->Nat->Int)(k j:Nat):Int:=sg (k+j)*D n fun a b=>f (skip k a) (skip j b)
def ad(n:Nat)(f:Nat->Nat->Int):Nat->Nat->Int:=fun i k=>cof n f k i
end Mx
end
section
namespace Mx
def adM(M:Mat):Mat:=(List.range M.length).map fun i=>(List.range M.length).map fun k=>ad (M.length-1) (at' M) i k
theorem Ck(row:List Int)(B:Mat)(k:Nat):∀j,DW.ei row B k j=sm j fun l=>row.getD l 0*at' B l k
 |0=>rfl
 |j+1=>by
  show DW.ei row B k j+row.getD j 0*at' B j k=_;rw[Ck row B k j];rfl
theorem Vm{A B:Mat}{c i j:Nat}(hi:i<A.length)(hj:j<c):at' (DW.tim A B c) i j=sm B.length fun l=>at' A i l*at' B l j:=by
 have h1:(DW.tim A B c)[i]?=some (DW.fC B c (rw A i)):=by
  unfold DW.tim;rw[bN];unfold rw;rw[aq,aV hi];rfl
 have h2:(DW.fC B c (rw A i))[j]?=some (DW.ei (rw A i) B j B.length):=by
  unfold DW.fC;rw[bN,iT hj];rfl
 conv=>lhs;unfold at'
 rw[di h1,aq,h2];exact Ck _ _ _ _
theorem Vl(A B:Mat)(c:Nat):Rc c (DW.tim A B c):=fun r hr=>by
 obtain⟨k,_,rfl⟩:=dY.1 hr;simp[DW.fC]
theorem Tr{n:Nat}(M:Mat){i j:Nat}(hi:i<n)(hj:j<M.length):at' (trM n M) i j=at' M j i:=by
 have h1:(trM n M)[i]?=some (M.map fun r=>r.getD i 0):=by
  unfold trM;rw[bN,iT hi];rfl
 conv=>lhs;unfold at'
 rw[di h1,aq,bN];unfold at' rw;rw[show List.getD M j []=M[j] by rw[aq,aV hj];rfl,aV hj];rfl
theorem HF.mul{g:Int}(hg:0<g):∀(A B:Mat),A.length=B.length->(∀i j,at' A i j=g*at' B i j)->HF B->HF A
 |[],_,_,_,_=>trivial
 |a::A,[],hl,_,_=>by simp at hl
 |a::A,b::B,hl,h,hB=>by
  have h0:∀j,a.getD j 0=g*b.getD j 0:=fun j=>h 0 j;have ht:∀i j,at' A i j=g*at' B i j:=fun i j=>h (i+1) j;have hz:∀{x:Int},g*x=0->x=0:=fun e=>by
   rcases vY.1 e with e|e
   ·omega
   ·exact e
  rcases hB with hB|⟨p,h1,h2,h3,h4,h5⟩
  ·exact .inl fun i j=>by rw[h i j,hB i j,dv]
  ·refine .inr ⟨p,fun i j hj=>by rw[h i j,h1 i j hj,dv],by rw[h0];exact Int.mul_pos hg h2,fun i=>by rw[ht i p,h3 i,dv],HF.mul hg A B nS ht h4,fun i q k1 k2=>?_⟩;have h6:=h5 i q (fun j hj=>hz (by rw[<-ht];exact k1 j hj)) (fun e=>k2 (by rw[ht,e,dv]));rw[h0,ht];exact⟨Int.mul_nonneg aa h6.1,Int.mul_lt_mul_of_pos_left h6.2 hg⟩
structure WH(n:Nat)(F R:Mat)(d:Int)(M S:Mat)(e:Int):Prop where
 m:M=DW.tim F (trM n R) n
 s:S=mapM (fun x=>x*d) (adM M)
 e:e=((D n (at' M)).natAbs:Int)
end Mx
end
section
open Go.RowKit Go.BigFrame
attribute [local go_sem ↓] Go.wp_at_zero Go.wp_at_succ
structure S9(w w':World)(base:Nat)(v v':Value)(l:List IV)(x:IV):Prop where
 own:mB w' base v' (l++[x])
 by':w.grownBy w' v.ownBlock
 at':v'.ownBlock=v.ownBlock\/v'.ownBlock=some w.heap.size
theorem S9.shape{w w':World}{base:Nat}{v v':Value}{l:List IV}{x:IV}(h:S9 w w' base v v' l x):∃g c,v'= .slice (some ⟨g,0,none⟩) (l.length+1) c/\base<=g/\g<w'.heap.size:=by
 obtain⟨_,h⟩:=h.own;rw[cv,kv]at h;rcases h with⟨_,hn⟩|⟨g,cap,cur,rfl,hb,hg,_⟩
 ·omega
 ·exact⟨g,cap,rfl,hb,(iG.1 hg).1⟩
end
section
open Go.RowKit Go.BigFrame
attribute [local go_sem ↓] Go.wp_at_zero Go.wp_at_succ
theorem NW.bool{w:World}{g:Nat}{b:Bool}(h:w.cell? ⟨g,0,none⟩=some (.bool b)):NW w g:=fun n e=>by rw[h]at e;cases e
end
section
open Go.RowKit
namespace DW
theorem Pk{n:Nat}{den:Int}{m:Mx.Mat}(hc:lck n m den=0)(hn:n<=5):Mx.Bd (2^520) (Mx.red n 0 (0,m)).2:=fun i j=>by
 obtain⟨r,hr,h⟩:=Mx.Mw (B:=2^50) (gZ hc) (A5 hc) i j;refine aB h ?_;have:r=0\/r=1\/r=2\/r=3\/r=4\/r=5:=by omega
 clear h hr;rcases this with rfl|rfl|rfl|rfl|rfl|rfl<;>exact vP ah
theorem qs{n:Nat}{den:Int}{m:Mx.Mat}(hc:lck n m den=0)(hn:n<=5):∀l∈nR n m den,∀x∈l,x.natAbs<=2^520:=fun l hl x hx=>by
 have hd:=(gK hc).1;obtain⟨r,hr,rfl⟩:=dY.1 hl;obtain⟨y,hy,rfl⟩:=dY.1 hx;have h1:=(Mx.fX (gZ hc) (show 0<den by omega)).2.2.2.2.1;exact aB (uh h1 ((Mx.kH (nH n m) den).2 r hr y hy)) (mN (Pk hc hn) (wE hr) hy)
theorem sG{X:Nat}{M:Mx.Mat}(h:∀l∈M,∀x∈l,x.natAbs<=X):Mx.Bd X M:=fun i j=>by
 rcases at_mem M i j with h1|⟨r,hr,hz⟩
 ·rw[h1];exact aO _
 ·exact h r hr _ hz
structure Mk(n:Nat)(M:Mx.Mat)(z:Int):Prop where
 n0:0<n
 n5:n<=5
 len:M.length<=64
 rc:Mx.Rc n M
 bd:Mx.Bd (2^600) M
 z0:0<z
 zb:z.natAbs<=2^600
theorem Mk.red{n:Nat}{M:Mx.Mat}{z:Int}(h:Mk n M z):Mx.Bd (2^(600*11^n)) (Mx.red n 0 (0,M)).2:=by
 have:=Mx.tT (n:=n) (e:=600) aa n 0 0 M h.rc (by rw[qI,fH];exact h.bd);rw[bw]at this;exact this
theorem wM(dim:Int)(R:Mx.Mat)(d:Int):∃n2 R2 d2 C,hnd dim R d= .tp [dL n2 R2 d2,zI C]/\R2.length<=R.length/\∀l∈R2,l∈R:=by
 unfold hnd;split
 ·exact⟨_,_,_,_,rfl,af _,fun l hl=>hl⟩
 ·exact⟨_,_,_,_,rfl,aO _,fun l hl=>by cases hl⟩
theorem xW(f:Int->Int)(hf:f 0=0)(M:Mx.Mat)(i j:Nat):Mx.at' (mapM f M) i j=f (Mx.at' M i j):=Mx.xW f hf M i j
theorem pw(a b:Nat)(h:a<=b):2^a<=2^b:=bI au h
theorem pmul{x y a b c:Nat}(h1:x<=2^a)(h2:y<=2^b)(h:a+b<=c):x*y<=2^c:=aB (cr h1 h2) (by rw[<-eZ];exact pw _ _ h)
theorem wh{p q:Int}{a b c:Nat}(h1:p.natAbs<=2^a)(h2:q.natAbs<=2^b)(h:a+b<=c):(p*q).natAbs<=2^c:=by
 rw[gG];exact pmul h1 h2 h
theorem e15{p:Int}(h: -1000000000000000<=p/\p<=1000000000000000):p.natAbs<=2^50:=aB (show p.natAbs<=1000000000000000 by omega) au
set_option maxRecDepth 20000
set_option maxHeartbeats 2000000
theorem Mz(dim den:Int)(m R:Mx.Mat)(d:Int)(WD:Fn Tryz.prog 23 [dM m] (dW m))(OF:Fn Tryz.prog 81 [zI den] (.nm den))(BS:Fn Tryz.prog 158 [dW m,.nm den,zI dim] (.tp [dW R,.nm d])):Fn Tryz.prog 105 [dL dim m den] (.tp [dW R,.nm d]):=by
 refine bg Tryz.func105 ah rfl rfl rfl fun X0=>?_;simp only[aP];refine zs2 ?_;refine iy ?_;refine zs3 ?_;(refine dT (k:=3) (z:=(.agg #[.bool false,.slice none 0 0])) (d:=(.nm 0)) rfl rfl rfl rfl rfl ah ai ai cX ai ai cj ?_);refine eX ?_;refine rM ?_;refine zD ?_;refine dH ?_;refine rL ?_;refine uA ?_;refine dH ?_;refine rL ?_;refine zE ?_;refine dH ?_;refine Du ?_;refine mU ?_;refine mU ?_;refine rN ?_;refine jP ?_;refine lU ?_;refine zs2 ?_;exact⟨_,az (k:=3) aX bq bp,.two (.tmp 2) (.cell 3 62) _ _ rfl (.tmp 2 rfl) (.cell 3 _ _ rfl rfl ah ah)⟩
theorem CH{n:Nat}{m:Mx.Mat}{den:Int}(hc:lck n m den=0)(hn:n<=5):Fn Tryz.prog 105 [dL n m den] (.tp [dW (nR n m den),.nm (den/nG n m den)]):=by
 obtain⟨k1,k2,k3⟩:=gK hc;have hR:=gZ hc;have WD:=Vh m aa (fun l hl=>by have:=hR l hl;omega) (fun l hl z hz=>Nl hc l hl z hz);exact Mz n den m _ _ WD (yM den aa) (Pm n den m hc hn)
theorem FR{n:Nat}{r:List Int}{N:Mx.Mat}(h:Mx.Rc n N):∀k,k<=N.length->mulR n r N k=(List.range n).map fun j=>ei r N j k
 |0,_=>by
  show List.replicate n 0=(List.range n).map fun _=>(0:Int);rw[List.map_const',List.length_range]
 |k+1,hk=>by
  show Mx.en (r.getD k 0) (mulR n r N k) (Mx.rw N k)=_;rw[FR h k aa];refine pF fun j=>?_;have hl:(Mx.rw N k).length=n:=h.rw aa;by_cases hj:j<n
  ·rw[zn (x:=ei r N j k) (y:=Mx.at' N k j) (by rw[bN,iT hj];rfl) (pP h aa hj),bN,iT hj];rfl
  ·rw[gQ,gQ]
   ·simp;omega
   ·have:=Mx.kg (r.getD k 0) ((List.range n).map fun j=>ei r N j k) (Mx.rw N k) (by simp[hl]);rw[this];simp;omega
theorem Ug{n:Nat}{M N:Mx.Mat}(h:Mx.Rc n N):mulM n M N=tim M N n:=by
 unfold mulM tim fC;exact mF fun r _=>FR h _ (af _)
theorem Cl{row:List Int}{B:Mx.Mat}{k X L:Nat}(hl:row.length<=L)(h:∀j,(row.getD j 0*Mx.at' B j k).natAbs<=X):∀j,(ei row B k j).natAbs<=min j L*X
 |0=>by simp[ei]
 |j+1=>by
  have h1:=Cl hl h j;have h2:=h j;show(ei row B k j+row.getD j 0*Mx.at' B j k).natAbs<=_;by_cases hj:j<L
  ·rw[dK aa]at h1;rw[dK aa,Nat.succ_mul];omega
  ·rw[aq,gQ aa];rw[Nat.min_eq_right aa]at h1⊢;simpa using h1
theorem UO{f:Mx.Mat}(hf:chk f=0):Mx.Bd (2^50) f:=sG fun l hl x hx=>aB ((Oc hf).2.2.2 l hl x hx) au
end DW
end
end Go.Proofs.YtcgjmdpcplhanaaGreat
