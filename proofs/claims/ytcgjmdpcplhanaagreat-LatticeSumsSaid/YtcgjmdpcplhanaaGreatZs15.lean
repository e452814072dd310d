/- Lemmas for the law: E29 E30 E35 -/
import Derived.Test.YtcgjmdpcplhanaaGreatZs14
namespace Go.Proofs.YtcgjmdpcplhanaaGreat
section
theorem J1{p q:Prop}(h:q)(f:Wq q->p:=by(intro hW;((refine dT (k:=9) (z:=(.agg #[.bool false,.slice none 0 0])) (d:=(.nm 0)) rfl rfl rfl rfl rfl ah ai ai cX ai ai cj ?_));exact hW.out)):p:=f ⟨h⟩
theorem RJ{p q:Prop}(h:q)(f:Wq q->p:=by(intro hW;(((try refine bf ?_);(refine lQ rfl rfl rfl rfl ck ck aX ai pR ah ah (by(simp only[bD,iD,gW];omega)) cj sK ?_)));exact hW.out)):p:=f ⟨h⟩
theorem QP{p q:Prop}(h:q)(f:Wq q->p:=by(intro hW;(refine Jy ?_;refine ib ?_;refine jK ?_;refine rJ ?_;refine eJ ?_;refine oK ?_;refine Jx ?_;refine RJ ?_;refine pn ?_);exact hW.out)):p:=f ⟨h⟩
theorem zs257{p q:Prop}(h:q)(f:Wq q->p:=by(intro hW;(refine cE ?_;refine De ?_);exact hW.out)):p:=f ⟨h⟩
theorem zs259{p q:Prop}(h:q)(f:Wq q->p:=by(intro hW;(refine cE ?_;refine nD ?_;refine gO ?_;refine rG ?_);exact hW.out)):p:=f ⟨h⟩
theorem RH{p q:Prop}(h:q)(f:Wq q->p:=by(intro hW;(refine aL1 rfl rfl rfl Et ?_);exact hW.out)):p:=f ⟨h⟩
theorem zs256{p q:Prop}(h:q)(f:Wq q->p:=by(intro hW;(refine cE ?_;refine ff ?_;refine zs4 ?_;refine RH ?_;refine pX ?_;refine J1 ?_;refine zs6 ?_;refine iE ?_;refine aQ ?_);exact hW.out)):p:=f ⟨h⟩
theorem zs258{p q:Prop}(h:q)(f:Wq q->p:=by(intro hW;(refine gar ?_;refine ff ?_;refine my ?_;refine my ?_;refine De ?_);exact hW.out)):p:=f ⟨h⟩
theorem zA{p q:Prop}(h:q)(f:Wq q->p:=by(intro hW;((refine dT (k:=6) (z:=(.agg #[.int .i64 0,.slice none 0 0,.int .i64 0])) (d:=(.st [.sc (.int .i64 0),.sc (.slice none 0 0),.sc (.int .i64 0)])) rfl rfl rfl rfl rfl ah ai ai cX ai ai cj ?_));exact hW.out)):p:=f ⟨h⟩
theorem zs255{p q:Prop}(h:q)(f:Wq q->p:=by(intro hW;(refine iy ?_;refine zA ?_;refine jw ?_;refine aQ ?_);exact hW.out)):p:=f ⟨h⟩
theorem JD{p q:Prop}(h:q)(f:Wq q->p:=by(intro hW;(refine zs2 ?_;refine zs255 ?_;refine zs2 ?_;refine zs256 ?_;refine zs2 ?_;refine zs257 ?_;refine zs2 ?_;refine zs258 ?_;refine zs2 ?_;refine zs259 ?_);exact hW.out)):p:=f ⟨h⟩
end
section
open Go.RowKit
namespace DW
set_option maxRecDepth 20000
set_option maxHeartbeats 1000000
theorem P3(m:List (List Int))(hm:m.length<=1000000)(hm2:∀l∈m,l.length<=1000000)(hm3:∀l∈m,∀z∈l,Hf z)(K:Nat)(hK:hdr K=false):FnG Tryz.prog 114 [dW m] [] (.own K) [(K,⟨113,1,(fil m).map dZ⟩)]:=by
 refine⟨enters_of Tryz.func114 ah rfl,zr.mv (a:=3) ?_ rfl hK⟩;refine I4 Tryz.func114 rfl rfl (fun _ hp=>by cases hp) fun X0=>?_;simp only[aP];refine mO ?_;refine lS ?_;refine av (dz (t:=3) (k:=3) (T:=113) (wd:=1) fF rfl rfl cj) ?_
 (refine av (ay (sl':=[(0,dW m),(3,.own 3),(4,zI 0)]) (ow':=[(3,⟨113,1,[]⟩)]) aF aH) ?_)
 refine bh (fun r s=>∃k,k<=m.length/\r=m.length-k/\s=⟨[(0,dW m),(3,.own 3),(4,zI (k:Nat))],[(3,⟨113,1,(fil (m.take k)).map dZ⟩)]⟩) (m:=m.length) ⟨0,aO _,rfl,rfl⟩ fun r s hs=>?_;obtain⟨k,hk,rfl,rfl⟩:=hs;by_cases hkl:k<m.length
 ·obtain⟨l,hl⟩:=get_some hkl;have hll:=hm2 l (bj hl);have hfl:=I5 (m.take k);rw[aY]at hfl;have hfl2:(fil (m.take k)).length<=1000000:=aB hfl aa;clear hfl;have hsn:=Gm (m.take k) l;rw[<-bF hl]at hsn;obtain⟨F,hF⟩:∃F,F=fil (m.take k):=⟨_,rfl⟩;rw[<-hF]at hsn hfl2;rw[<-hF];clear hF;refine iw ?_;refine JU ?_;refine iA ?_
  (refine av (ay (sl':=[(0,dW m),(3,.own 3),(4,zI (k:Nat)),(5,.sc (.bool true)),(6,zI 0)]) (ow':=[(3,⟨113,1,F.map dZ⟩)]) aF aH) ?_)
  refine bh (fun r s=>∃j b,j<=l.length/\r=l.length-j/\b=(l.take j).all (fun z=>decide (z=0))/\s=⟨[(0,dW m),(3,.own 3),(4,zI (k:Nat)),(5,.sc (.bool b)),(6,zI (j:Nat))],[(3,⟨113,1,F.map dZ⟩)]⟩) (m:=l.length) ⟨0,true,aO _,rfl,rfl,rfl⟩ fun r s hs=>?_;obtain⟨j,b,hj,rfl,hb,rfl⟩:=hs;by_cases hjl:j<l.length
  ·obtain⟨z,hz⟩:=get_some hjl;have SX:=tM z (hm3 l (bj hl) z (bj hz));have gx:=Si z;have hb':(l.take (j+1)).all (fun z=>decide (z=0))=(b&&decide (z=0)):=by rw[bF hz,zV,<-hb];simp
   have hd:decide (sgn z=0)=decide (z=0):=by
    by_cases h:z=0
    ·rw[aD h,aD (gx.2 h)]
    ·rw[aG h,aG (fun e=>h (gx.1 e))]
   clear hb
   cases b with
   |true=>
    rw[qF]at hb';refine Df ?_;simp only[nx,inB];exact⟨l.length-(j+1),_,by omega,(ay (sl':=[(0,dW m),(3,.own 3),(4,zI (k:Nat)),(5,.sc (.bool (decide (sgn z=0)))),(6,zI ((j+1:Nat):Int))]) (ow':=[(3,⟨113,1,F.map dZ⟩)]) aF aH),j+1,decide (sgn z=0),by omega,rfl,by rw[hb',hd],rfl⟩
   |false=>
    rw[qE]at hb';refine Df ?_;simp only[nx,inB];exact⟨l.length-(j+1),_,by omega,(ay (sl':=[(0,dW m),(3,.own 3),(4,zI (k:Nat)),(5,.sc (.bool false)),(6,zI ((j+1:Nat):Int))]) (ow':=[(3,⟨113,1,F.map dZ⟩)]) aF aH),j+1,false,by omega,rfl,by rw[hb'],rfl⟩
  ·obtain rfl:j=l.length:=by omega
   rw[gf]at hb;rw[<-hb]at hsn;clear hb
   cases b with
   |true=>
    rw[an rfl]at hsn;refine mP ?_;refine bR ?_;refine xj ?_;refine mQ ?_;simp only[nx,inB];exact⟨m.length-(k+1),_,by omega,(ay (sl':=[(0,dW m),(3,.own 3),(4,zI ((k+1:Nat):Int))]) (ow':=[(3,⟨113,1,F.map dZ⟩)]) aF aH),k+1,by omega,rfl,by rw[hsn]⟩
   |false=>
    rw[aj au]at hsn;refine mP ?_;refine bR ?_;refine xj ?_;refine bA ?_;refine Ra ?_;refine iQ ?_;simp only[nx,inB];exact⟨m.length-(k+1),_,by omega,(ay (sl':=[(0,dW m),(3,.own 3),(4,zI ((k+1:Nat):Int))]) (ow':=[(3,⟨113,1,F.map dZ++[dZ l]⟩)]) aF aH),k+1,by omega,rfl,by rw[hsn,cL];rfl⟩
 ·obtain rfl:k=m.length:=by omega
  rw[gf];refine kY ?_;refine ji ?_;exact⟨_,(ay (sl':=[(2,.own 3)]) (ow':=[(3,⟨113,1,(fil m).map dZ⟩)]) aF aH),.own 2 3 rfl rfl,rfl⟩
end DW
end
section
open Go.RowKit
namespace Mx
theorem Uy(A B:Mat):DW.fil (A++B)=DW.fil A++DW.fil B:=zR ..
theorem I6{A:Mat}(h:∀l∈A,l.all (fun z=>decide (z=0))=false):DW.fil A=A:=by
 unfold DW.fil;rw[List.filter_eq_self];intro l hl;rw[h l hl];rfl
theorem P5{A:Mat}(h:∀l∈A,l.all (fun z=>decide (z=0))=true):DW.fil A=[]:=by
 unfold DW.fil;rw[EF];intro l hl;rw[h l hl];simp
theorem Ch{n:Nat}{M:Mat}(h:Rc n M):DW.fil (red n 0 (0,M)).2=nH n M:=by
 obtain⟨pv,he⟩:=iJ n 0 (0,M) id h (gL M);have hR:Rc n (red n 0 (0,M)).2:=(eh n 0 (0,M) h).rc h;unfold nH;generalize red n 0 (0,M)=T at*;obtain⟨r,N⟩:=T;simp only at he hR⊢;rw[bw]at he;have hz:∀{i:Nat} {l:List Int},N[i]?=some l->(l.all (fun z=>decide (z=0))=true↔∀j,j<n->at' N i j=0):=fun {i l} hl=>by
  have hi:=(ct.1 hl).1;have hrw:rw N i=l:=di hl;have hlen:l.length=n:=hR l (bj hl);rw[cW];constructor
  ·intro h j hj;unfold at';rw[hrw,aq,aV aa];simpa using h _ (zJ aa)
  ·intro h z hz;obtain⟨j,hj,rfl⟩:=lX hz;have:=h j aa;unfold at' at this;rw[hrw,aq,aV hj]at this;simpa using this
 have e:=rQ r N
 conv=>lhs;rw[<-e]
 rw[Uy,I6,P5,kB]
 ·intro l hl;obtain⟨i,hi⟩:=tf hl;rw[eF]at hi;exact(hz hi).2 fun j hj=>he.zb _ aa j hj
 ·intro l hl;obtain⟨i,hi⟩:=tf hl;rw[iB]at hi;split at hi
  ·next hir=>
   cases hb:l.all (fun z=>decide (z=0))with
   |false=>rfl
   |true=>
    have h1:=(hz hi).1 hb (pv i) (he.lt i hir);have h2:=he.pos i hir;omega
  ·cases hi
theorem Sq{n:Nat}{M:Mat}(h:Rc n M):Rc n (nH n M):=fun l hl=>(eh n 0 (0,M) h).rc h l (mZ hl)
end Mx
namespace DW
theorem K0{x y:Int}(h:x.natAbs<=y.natAbs)(hy:Hf y):Hf x:=aB (jB h) hy
theorem VZ{a:Int}(b:Int)(h:a≠0):((Int.gcd a b:Nat):Int)≠0/\(((Int.gcd a b:Nat):Int)).natAbs<=a.natAbs:=by
 have h1:Int.gcd a b∣a.natAbs:=Int.gcd_dvd_natAbs_left a b;have h2:=Nat.le_of_dvd aa h1;have h3:Int.gcd a b≠0:=fun e=>by rw[Int.gcd_eq_zero_iff]at e;exact h e.1
 omega
theorem K7:∀(row:List Int) (z:Int),z≠0->gR row z≠0/\(gR row z).natAbs<=z.natAbs
 |[],z,h=>⟨h,af _⟩
 |x::l,z,h=>by
  have h1:=VZ x h;have h2:=K7 l _ h1.1;exact⟨h2.1,aB h2.2 h1.2⟩
theorem Ea:∀(M:Mx.Mat) (z:Int),z≠0->gM M z≠0/\(gM M z).natAbs<=z.natAbs
 |[],z,h=>⟨h,af _⟩
 |r::M,z,h=>by
  have h1:=K7 r z h;have h2:=Ea M _ h1.1;exact⟨h2.1,aB h2.2 h1.2⟩
theorem Wi(A:Mx.Mat)(i:Nat)(l:List Int):(A.map dZ).set i (dZ l)=(A.set i l).map dZ:=(lu ..).symm
set_option maxRecDepth 20000
set_option maxHeartbeats 2000000
theorem Ji(M:Mx.Mat)(n:Nat)(z:Int)(hR:Mx.Rc n M)(hn:n<=1000)(hm:M.length<=1000)(EC:Fn Tryz.prog 78 [dW M,zI n] (dW (Mx.red n 0 (0,M)).2))(hz:Hf z)(hz0:z≠0)(hH:∀l∈nH n M,∀x∈l,Hf x)(hE:∀l∈(Mx.red n 0 (0,M)).2,∀x∈l,Hf x):
  Fn Tryz.prog 158 [dW M,.nm z,zI n] (.tp [dW (nR n M z),.nm (z/nG n M z)]):=by
 have hre:=Mx.eh n 0 (0,M) hR;have hRe:=hre.rc hR;have FI:=P3 (Mx.red n 0 (0,M)).2 (by rw[hre.len];show M.length<=1000000;omega) (fun l hl=>by have:=hRe l hl;omega) hE 100 rfl;rw[Mx.Ch hR]at FI;have NO:=FJ z hz;have hgl:=Ea (nH n M) z hz0;have hnl:=FO hR;have hnr:=Mx.Sq hR;have QZ:=Sl z (nG n M z) hz (K0 hgl.2 hz) hgl.1;unfold nR;obtain⟨G,hG⟩:∃G,G=nG n M z:=⟨_,rfl⟩;have hG2:G=gM (nH n M) z:=hG;rw[<-hG]at QZ;rw[<-hG];rw[show gM (nH n M) z=G from hG2.symm]at hgl;clear hG hE hRe hre hR;generalize(Mx.red n 0 (0,M)).2=E0 at*;generalize nH n M=H at*;refine bg Tryz.func158 ah rfl rfl rfl fun X0=>?_;simp only[aP];refine zs2 ?_;refine iy ?_;refine zs3 ?_;(refine dT (k:=7) (z:=(.agg #[.bool false,.slice none 0 0])) (d:=(.nm 0)) rfl rfl rfl rfl rfl ah ai ai cX ai ai cj ?_);refine eX ?_;refine bT ?_;refine kU ?_;(refine Oq rfl rfl rfl rfl ck (FI) ai ai ai ?_);refine cn ?_;refine jk ?_;refine J1 ?_;refine iE ?_;refine aQ ?_;refine iA ?_;have hHl:H.length<=1000:=by omega
 (refine av (ay (sl':=[(2,zI n),(4,.pt (.nm z)),(7,.opt 7 0),(8,.own 100),(9,.opt 9 0),(10,zI 0)]) (ow':=[(7,⟨62,2,[.nm 0]⟩),(9,⟨62,2,[.nm z]⟩),(100,⟨113,1,H.map dZ⟩)]) aF aH) ?_)
 refine bh (fun r s=>∃i,i<=H.length/\r=H.length-i/\s=⟨[(2,zI n),(4,.pt (.nm z)),(7,.opt 7 0),(8,.own 100),(9,.opt 9 0),(10,zI (i:Nat))],[(7,⟨62,2,[.nm 0]⟩),(9,⟨62,2,[.nm (gM (H.take i) z)]⟩),(100,⟨113,1,H.map dZ⟩)]⟩) (m:=H.length) ⟨0,aO _,rfl,rfl⟩ fun r s hs=>?_;obtain⟨i,hi,rfl,rfl⟩:=hs;by_cases hil:i<H.length
 ·obtain⟨row,hrow⟩:=get_some hil;have hrl:=hnr row (bj hrow);have hrf:=hH row (bj hrow);have hgi:=Ea (H.take i) z hz0;have hps:=I1 hrow z;obtain⟨g,hg⟩:∃g,g=gM (H.take i) z:=⟨_,rfl⟩;rw[<-hg]at hgi hps;rw[<-hg];clear hg;refine iw ?_;refine pW ?_
  (refine av (ay (sl':=[(2,zI n),(4,.pt (.nm z)),(7,.opt 7 0),(8,.own 100),(9,.opt 9 0),(10,zI (i:Nat)),(11,zI 0)]) (ow':=[(7,⟨62,2,[.nm 0]⟩),(9,⟨62,2,[.nm g]⟩),(100,⟨113,1,H.map dZ⟩)]) aF aH) ?_)
  refine bh (fun r s=>∃j,j<=n/\r=n-j/\s=⟨[(2,zI n),(4,.pt (.nm z)),(7,.opt 7 0),(8,.own 100),(9,.opt 9 0),(10,zI (i:Nat)),(11,zI (j:Nat))],[(7,⟨62,2,[.nm 0]⟩),(9,⟨62,2,[.nm (gR (row.take j) g)]⟩),(100,⟨113,1,H.map dZ⟩)]⟩) (m:=n) ⟨0,aO _,rfl,rfl⟩ fun r s hs=>?_;obtain⟨j,hj,rfl,rfl⟩:=hs;by_cases hjl:j<n
  ·obtain⟨x,hx⟩:=get_some (m:=row) (k:=j) aa;have hgj:=K7 (row.take j) g hgi.1;have hpj:=I0 hx g;have GC:=gcd_d (gR (row.take j) g) x (K0 (aB hgj.2 hgi.2) hz) (hrf x (bj hx));rw[<-hpj]at GC;refine zs2 ?_;refine po ?_;refine bA ?_;refine rM ?_;refine dH ?_;refine fZ ?_;refine mR ?_;refine mR ?_;refine lV ?_;refine jP ?_;refine lU ?_;refine iQ ?_;simp only[nx,inB];exact⟨n-(j+1),_,by omega,(ay (sl':=[(2,zI n),(4,.pt (.nm z)),(7,.opt 7 0),(8,.own 100),(9,.opt 9 0),(10,zI (i:Nat)),(11,zI ((j+1:Nat):Int))]) (ow':=[(7,⟨62,2,[.nm 0]⟩),(9,⟨62,2,[.nm (gR (row.take (j+1)) g)]⟩),(100,⟨113,1,H.map dZ⟩)]) aF aH),j+1,by omega,rfl,rfl⟩
  ·obtain rfl:j=n:=by omega
   rw[cf aa,<-hps];refine zs2 ?_;refine po ?_;refine mQ ?_;simp only[nx,inB];exact⟨H.length-(i+1),_,by omega,(ay (sl':=[(2,zI j),(4,.pt (.nm z)),(7,.opt 7 0),(8,.own 100),(9,.opt 9 0),(10,zI ((i+1:Nat):Int))]) (ow':=[(7,⟨62,2,[.nm 0]⟩),(9,⟨62,2,[.nm (gM (H.take (i+1)) z)]⟩),(100,⟨113,1,H.map dZ⟩)]) aF aH),i+1,by omega,rfl,rfl⟩
 ·obtain rfl:i=H.length:=by omega
  rw[gf,<-hG2];refine kY ?_;refine pW ?_
  (refine av (ay (sl':=[(2,zI n),(4,.pt (.nm z)),(7,.opt 7 0),(8,.own 100),(9,.opt 9 0),(12,zI 0)]) (ow':=[(7,⟨62,2,[.nm 0]⟩),(9,⟨62,2,[.nm G]⟩),(100,⟨113,1,H.map dZ⟩)]) aF aH) ?_)
  obtain⟨R,hR⟩:∃R,R=mapM (fun z=>z/G) H:=⟨_,rfl⟩;rw[<-hR];have hRl:R.length=H.length:=by rw[hR];exact fi _ _
  refine bh (fun r s=>∃i,i<=H.length/\r=H.length-i/\s=⟨[(2,zI n),(4,.pt (.nm z)),(7,.opt 7 0),(8,.own 100),(9,.opt 9 0),(12,zI (i:Nat))],[(7,⟨62,2,[.nm 0]⟩),(9,⟨62,2,[.nm G]⟩),(100,⟨113,1,(gD i R H).map dZ⟩)]⟩) (m:=H.length) ⟨0,aO _,rfl,by rw[vc];rfl⟩ fun r s hs=>?_;obtain⟨i,hi,rfl,rfl⟩:=hs;have hPl:=wB hRl i;by_cases hil:i<H.length
  ·obtain⟨row,hrow⟩:=get_some hil;have hrl:=hnr row (bj hrow);have hrf:=hH row (bj hrow);have hPr:(gD i R H)[i]?=some row:=by
    unfold gD;rw[ez nQ,aY,eF,show i+(i-min i R.length)=i by omega];exact hrow
   have hRi:Mx.rw R i=row.map (fun z=>z/G):=by rw[hR,ny,Mx.di hrow]
   have hst:=pM hRl hil;rw[hRi]at hst;obtain⟨A,hA⟩:∃A,A=gD i R H:=⟨_,rfl⟩;rw[<-hA]at hPl hPr hst;rw[<-hA];clear hA hRi;refine iw ?_;refine mT ?_;refine iA ?_;refine av (dz (t:=13) (k:=13) (T:=62) (wd:=2) fF rfl rfl cj) ?_
   (refine av (ay (sl':=[(2,zI n),(4,.pt (.nm z)),(7,.opt 7 0),(8,.own 100),(9,.opt 9 0),(12,zI (i:Nat)),(13,.own 13),(14,zI 0)]) (ow':=[(13,⟨62,2,[]⟩),(7,⟨62,2,[.nm 0]⟩),(9,⟨62,2,[.nm G]⟩),(100,⟨113,1,A.map dZ⟩)]) aF aH) ?_)
   refine bh (fun r s=>∃j,j<=n/\r=n-j/\s=⟨[(2,zI n),(4,.pt (.nm z)),(7,.opt 7 0),(8,.own 100),(9,.opt 9 0),(12,zI (i:Nat)),(13,.own 13),(14,zI (j:Nat))],[(13,⟨62,2,((row.map (fun z=>z/G)).take j).map .nm⟩),(7,⟨62,2,[.nm 0]⟩),(9,⟨62,2,[.nm G]⟩),(100,⟨113,1,A.map dZ⟩)]⟩) (m:=n) ⟨0,aO _,rfl,rfl⟩ fun r s hs=>?_;obtain⟨j,hj,rfl,rfl⟩:=hs;by_cases hjl:j<n
   ·obtain⟨x,hx⟩:=get_some (m:=row) (k:=j) aa;have hx2:(row.map (fun z=>z/G))[j]?=some (x/G):=by rw[bN,hx];rfl
    have hsn:=bF hx2;have hle:((row.map (fun z=>z/G)).take j).length<=1000:=by rw[aY];omega
    have QX:=Sl x G (hrf x (bj hx)) (K0 hgl.2 hz) hgl.1;obtain⟨B,hB⟩:∃B,B=(row.map (fun z=>z/G)).take j:=⟨_,rfl⟩;rw[<-hB]at hsn hle;rw[<-hB];clear hB hx2;refine zs2 ?_;refine po ?_;refine bA ?_;refine QP ?_;refine iQ ?_;simp only[nx,inB];exact⟨n-(j+1),_,by omega,(ay (sl':=[(2,zI n),(4,.pt (.nm z)),(7,.opt 7 0),(8,.own 100),(9,.opt 9 0),(12,zI (i:Nat)),(13,.own 13),(14,zI ((j+1:Nat):Int))]) (ow':=[(13,⟨62,2,B.map .nm++[.nm (x/G)]⟩),(7,⟨62,2,[.nm 0]⟩),(9,⟨62,2,[.nm G]⟩),(100,⟨113,1,A.map dZ⟩)]) aF aH),j+1,by omega,rfl,by rw[hsn,cL];rfl⟩
   ·obtain rfl:j=n:=by omega
    rw[cf (by rw[bD];omega)];have hii:(i:Int)=((i:Nat):Int):=rfl;refine zs2 ?_;refine po ?_;refine bR ?_;refine av (az (k:=13) aX bq bp) ?_;refine Rk ?_;refine iQ ?_;simp only[nx,inB];exact⟨H.length-(i+1),_,by omega,(ay (sl':=[(2,zI j),(4,.pt (.nm z)),(7,.opt 7 0),(8,.own 100),(9,.opt 9 0),(12,zI ((i+1:Nat):Int))]) (ow':=[(7,⟨62,2,[.nm 0]⟩),(9,⟨62,2,[.nm G]⟩),(100,⟨113,1,(A.map dZ).set i (dZ (row.map (fun z=>z/G)))⟩)]) aF aH),i+1,by omega,rfl,by rw[Wi,hst]⟩
  ·obtain rfl:i=H.length:=by omega
   rw[wC aa (af _)];refine kY ?_;refine cE ?_;refine ff ?_;refine ff ?_;refine kU ?_;refine zs6 ?_;refine jj ?_;try rw[<-hR]
   refine⟨_,Sh.trans (az (k:=100) aX bq bp) (az (k:=7) aX bq bp),?_⟩;exact .two (.tmp 6) (.cell 7 62) _ _ rfl (.tmp 6 rfl) (.cell 7 _ _ rfl rfl ah ah)
theorem US(M:Mx.Mat)(n e p:Nat)(z:Int)(hR:Mx.Rc n M)(hn:n<=1000)(hm:M.length<=1000)(he:6<=e)(hp:M.length<=p\/n<=p)(hf:2*(e*11^p)<=3000000000)(hb:Mx.Bd (2^e) M)(hz:Hf z)(hz0:z≠0)(hH:∀l∈nH n M,∀x∈l,Hf x)(hE:∀l∈(Mx.red n 0 (0,M)).2,∀x∈l,Hf x):
 Fn Tryz.prog 158 [dW M,.nm z,zI n] (.tp [dW (nR n M z),.nm (z/nG n M z)]):=Ji M n z hR hn hm (N3 M n n e p hR (af _) hn hm he hp hf hb) hz hz0 hH hE
end DW
end
section
open Go.RowKit
namespace DW
theorem F6{dim:Int}:∀{m:List (List Int)},fB dim m=0->∀l∈m,(l.length:Int)=dim/\∀z∈l,inb 1000000000000000 z=true
 |[],_=>fun l hl=>by cases hl
 |r::t,h=>by
  unfold fB at h;split at h
  ·next h1=>
   split at h
   ·cases h
   ·next h2=>
    intro l hl;rcases bC.1 hl with rfl|hl
    ·refine⟨h1,fun z hz=>?_⟩
     cases hb:inb 1000000000000000 z with
     |true=>rfl
     |false=>exact absurd (ku.2 ⟨z,hz,by unfold big;rw[hb];rfl⟩) h2
    ·exact F6 h l hl
  ·cases h
theorem gK{dim den:Int}{m:List (List Int)}(h:lck dim m den=0):(1<=dim/\dim<=6/\1<=den/\den<=1000000000000000)/\m.length<=64/\∀l∈m,(l.length:Int)=dim/\∀z∈l,inb 1000000000000000 z=true:=by
 unfold lck at h;split at h
 ·cases h
 ·split at h
  ·cases h
  ·exact⟨by omega,by omega,F6 h⟩
theorem gZ{n:Nat}{den:Int}{m:List (List Int)}(h:lck n m den=0):Mx.Rc n m:=fun l hl=>by have:=((gK h).2.2 l hl).1;omega
theorem A5{dim den:Int}{m:List (List Int)}(h:lck dim m den=0):Mx.Bd (2^50) m:=fun i j=>by
 rcases at_mem m i j with h1|⟨r,hr,hz⟩
 ·rw[h1];simp
 ·have:=kP.1 (((gK h).2.2 r hr).2 _ hz);exact aB (show(Mx.at' m i j).natAbs<=1000000000000000 by omega) au
theorem Nl{dim den:Int}{m:List (List Int)}(h:lck dim m den=0):∀l∈m,∀z∈l,I64 z:=fun l hl z hz=>by
 have:=kP.1 (((gK h).2.2 l hl).2 z hz);unfold I64;omega
set_option maxRecDepth 20000
set_option maxHeartbeats 2000000
theorem TU(dim:Int)(M R:Mx.Mat)(z d:Int)(BS:Fn Tryz.prog 158 [dW M,.nm z,zI dim] (.tp [dW R,.nm d]))(hR:R.length<=1000000)(hR2:∀l∈R,l.length<=1000000)(hR3:∀l∈R,∀x∈l,(hd x.natAbs).length<=199999999)(hdl:(hd d.natAbs).length<=199999999):Fn Tryz.prog 92 [dW M,.nm z,zI dim] (hnd dim R d):=by
 have NR:=FN R hR hR2 hR3;have ND:=FN [[d]] aU aU (by simpa using hdl);unfold nrw at NR ND;rw[show([[d]]:Mx.Mat).all (fun l=>l.all (inb 1000000000000000))=inb 1000000000000000 d by simp]at ND;by_cases h1:R.all (fun l=>l.all (inb 1000000000000000))=true
 ·rw[an h1]at NR;by_cases h2:inb 1000000000000000 d=true
  ·rw[an h2]at ND;have EC:hnd dim R d= .tp [dL dim R d,zI 0]:=an ⟨h1,h2⟩;have hc0:(0:Int)=((0:Nat):Int):=rfl;obtain⟨N,L,g0,g1,ND⟩:∃(N:Mx.Mat) (L:List Int),N[0]?=some L/\L[0]?=some d/\Fn Tryz.prog 77 [dW [[d]]] (.tp [dM N,.sc (.bool true)]):=⟨[[d]],[d],rfl,rfl,ND⟩;refine bg Tryz.func92 ah rfl rfl rfl fun X0=>?_;simp only[aP];refine JD ?_;refine bR ?_;refine bT ?_;refine zs4 ?_;refine Dv ?_;refine yq ?_;refine Dv ?_;refine yq ?_;refine RN ?_;refine iE ?_;refine jw ?_;refine eX ?_;rw[EC];exact⟨_,az (k:=6) aX bq bp,.two (.cell 6 48) (.tmp 7) _ _ rfl (.cell 6 _ _ rfl rfl ah ah) (.tmp 7 rfl)⟩
  ·rw[aj h2]at ND;have EC:hnd dim R d= .tp [dL 0 [] 0,zI 8]:=aj (fun h=>h2 h.2);refine bg Tryz.func92 ah rfl rfl rfl fun X0=>?_;simp only[aP];refine JD ?_;refine bA ?_;refine zy ?_;refine zs2 ?_;rw[EC];exact⟨_,Sh.trans (az (k:=6) aX bq bp) (sJ (t:=6) (d:=.pt (.st [_,.sc (.slice none 0 0),_])) (d':=.pt (.st [_,dM [],_])) ai rfl rfl fun X w v h=>nt h),.two (.cell 6 48) (.tmp 7) _ _ rfl (.cell 6 _ _ rfl rfl ah ah) (.tmp 7 rfl)⟩
 ·rw[aj h1]at NR;have EC:hnd dim R d= .tp [dL 0 [] 0,zI 8]:=aj (fun h=>h1 h.1);have ND':∃a b,Fn Tryz.prog 77 [dW [[d]]] (.tp [dM a,.sc (.bool b)]):=by
   split at ND
   ·exact⟨_,_,ND⟩
   ·exact⟨_,_,ND⟩
  clear ND;obtain⟨a,b,ND⟩:=ND';refine bg Tryz.func92 ah rfl rfl rfl fun X0=>?_;simp only[aP];refine JD ?_;refine bA ?_;refine zy ?_;refine zs2 ?_;rw[EC];exact⟨_,Sh.trans (az (k:=6) aX bq bp) (sJ (t:=6) (d:=.pt (.st [_,.sc (.slice none 0 0),_])) (d':=.pt (.st [_,dM [],_])) ai rfl rfl fun X w v h=>nt h),.two (.cell 6 48) (.tmp 7) _ _ rfl (.cell 6 _ _ rfl rfl ah ah) (.tmp 7 rfl)⟩
end DW
end
end Go.Proofs.YtcgjmdpcplhanaaGreat
