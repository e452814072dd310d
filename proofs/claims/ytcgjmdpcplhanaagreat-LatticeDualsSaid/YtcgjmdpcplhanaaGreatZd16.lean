/- Lemmas for the law: E29 E30 E35 -/
import Derived.Test.YtcgjmdpcplhanaaGreatZd15
namespace Go.Proofs.YtcgjmdpcplhanaaGreat
section
theorem Rj{p q:Prop}(h:q)(f:Wq q->p:=by(intro hW;((refine ez (k:=7) (z:=(.agg #[.bool false,.slice none 0 0])) (d:=(.nm 0)) rfl rfl rfl rfl rfl ai aj aj dT aj aj cu ?_));exact hW.out)):p:=f ⟨h⟩
theorem zs260{p q:Prop}(h:q)(f:Wq q->p:=by(intro hW;(refine cn ?_;refine rZ ?_;refine fM ?_;refine yd ?_;refine kT ?_);exact hW.out)):p:=f ⟨h⟩
theorem Ri{p q:Prop}(h:q)(f:Wq q->p:=by(intro hW;((refine ez (k:=9) (z:=(.agg #[.bool false,.slice none 0 0])) (d:=(.nm 0)) rfl rfl rfl rfl rfl ai aj aj dT aj aj cu ?_));exact hW.out)):p:=f ⟨h⟩
theorem JN{p q:Prop}(h:q)(f:Wq q->p:=by(intro hW;(refine aL1 rfl rfl rfl D0 ?_);exact hW.out)):p:=f ⟨h⟩
theorem zs257{p q:Prop}(h:q)(f:Wq q->p:=by(intro hW;(refine cn ?_;refine ir ?_;refine zs4 ?_;refine JN ?_;refine kX ?_;refine Ri ?_;refine zs6 ?_;refine gw ?_);exact hW.out)):p:=f ⟨h⟩
theorem zs259{p q:Prop}(h:q)(f:Wq q->p:=by(intro hW;(refine mI ?_;refine ph ?_;refine ph ?_;refine iq ?_;refine kX ?_;refine zs6 ?_;refine cK ?_);exact hW.out)):p:=f ⟨h⟩
theorem zs143{p q:Prop}(h:q)(f:Wq q->p:=by(intro hW;((refine ez (k:=6) (z:=(.agg #[.int .i64 0,.slice none 0 0,.int .i64 0])) (d:=(.st [.sc (.int .i64 0),.sc (.slice none 0 0),.sc (.int .i64 0)])) rfl rfl rfl rfl rfl ai aj aj dT aj aj cu ?_));exact hW.out)):p:=f ⟨h⟩
theorem zs256{p q:Prop}(h:q)(f:Wq q->p:=by(intro hW;(refine jw ?_;refine zs143 ?_;refine lu ?_;refine aX ?_);exact hW.out)):p:=f ⟨h⟩
theorem zs258{p q:Prop}(h:q)(f:Wq q->p:=by(intro hW;(refine cn ?_;refine iq ?_;refine kX ?_;refine zs6 ?_;refine cK ?_);exact hW.out)):p:=f ⟨h⟩
theorem Je{p q:Prop}(h:q)(f:Wq q->p:=by(intro hW;(refine zs2 ?_;refine zs256 ?_;refine zs2 ?_;refine zs257 ?_;refine zs2 ?_;refine zs258 ?_;refine zs2 ?_;refine zs259 ?_;refine zs2 ?_;refine zs260 ?_);exact hW.out)):p:=f ⟨h⟩
theorem Qv{p q:Prop}(h:q)(f:Wq q->p:=by(intro hW;(refine kW ?_;refine iq ?_;refine ye ?_;refine ye ?_;refine lT ?_;refine cK ?_);exact hW.out)):p:=f ⟨h⟩
theorem Rh{p q:Prop}(h:q)(f:Wq q->p:=by(intro hW;(((try refine aY ?_);(refine pe rfl rfl rfl rfl cD cD bf aj vc ai ai (by(simp only[bC,im,iI];omega)) cu va ?_)));exact hW.out)):p:=f ⟨h⟩
theorem Qw{p q:Prop}(h:q)(f:Wq q->p:=by(intro hW;(refine Du ?_;refine eV ?_;refine jy ?_;refine tH ?_;refine fR ?_;refine tG ?_;refine zs94 ?_;refine Rh ?_;refine tI ?_;refine jg ?_);exact hW.out)):p:=f ⟨h⟩
theorem Qy{p q:Prop}(h:q)(f:Wq q->p:=by(intro hW;(refine cO ?_;refine zs8 ?_;refine zs8 ?_;refine Dy ?_;refine jW ?_;refine zs8 ?_;refine Dy ?_;refine jW ?_;refine I1 ?_;refine Dx ?_;refine kv ?_;refine cK ?_);exact hW.out)):p:=f ⟨h⟩
end
section
open Go.RowKit
namespace DW
set_option maxRecDepth 20000
set_option maxHeartbeats 1000000
theorem PC(m:List (List Int))(hm:m.length<=1000000)(hm2:∀l∈m,l.length<=1000000)(hm3:∀l∈m,∀z∈l,Hf z)(K:Nat)(hK:hdr K=false):FnG Tryz.prog 114 [dW m] [] (.own K) [(K,⟨113,1,(fil m).map dZ⟩)]:=by
 refine⟨enters_of Tryz.func114 ai rfl,B7.mv (a:=3) ?_ rfl hK⟩;refine TD Tryz.func114 rfl rfl (fun _ hp=>by cases hp) fun X0=>?_;simp only[aO];refine kd ?_;refine eQ ?_;refine ay (da (t:=3) (k:=3) (T:=113) (wd:=1) fq rfl rfl cu) ?_
 (refine ay (aq (sl':=[(0,dW m),(3,.own 3),(4,zI 0)]) (ow':=[(3,⟨113,1,[]⟩)]) az aD) ?_)
 refine bc (fun r s=>∃k,k<=m.length/\r=m.length-k/\s=⟨[(0,dW m),(3,.own 3),(4,zI (k:Nat))],[(3,⟨113,1,(fil (m.take k)).map dZ⟩)]⟩) (m:=m.length) ⟨0,aQ _,rfl,rfl⟩ fun r s hs=>?_;obtain⟨k,hk,rfl,rfl⟩:=hs;by_cases hkl:k<m.length
 ·obtain⟨l,hl⟩:=get_some hkl;have hll:=hm2 l (bj hl);have hfl:=TH (m.take k);rw[aP]at hfl;have hfl2:(fil (m.take k)).length<=1000000:=aH hfl aa;clear hfl;have hsn:=PE (m.take k) l;rw[<-bq hl]at hsn;obtain⟨F,hF⟩:∃F,F=fil (m.take k):=⟨_,rfl⟩;rw[<-hF]at hsn hfl2;rw[<-hF];clear hF;refine dn ?_;refine QY ?_;refine iZ ?_
  (refine ay (aq (sl':=[(0,dW m),(3,.own 3),(4,zI (k:Nat)),(5,.sc (.bool true)),(6,zI 0)]) (ow':=[(3,⟨113,1,F.map dZ⟩)]) az aD) ?_)
  refine bc (fun r s=>∃j b,j<=l.length/\r=l.length-j/\b=(l.take j).all (fun z=>decide (z=0))/\s=⟨[(0,dW m),(3,.own 3),(4,zI (k:Nat)),(5,.sc (.bool b)),(6,zI (j:Nat))],[(3,⟨113,1,F.map dZ⟩)]⟩) (m:=l.length) ⟨0,true,aQ _,rfl,rfl,rfl⟩ fun r s hs=>?_;obtain⟨j,b,hj,rfl,hb,rfl⟩:=hs;by_cases hjl:j<l.length
  ·obtain⟨z,hz⟩:=get_some hjl;have SX:=oS z (hm3 l (bj hl) z (bj hz));have gx:=sgn_z z;have hb':(l.take (j+1)).all (fun z=>decide (z=0))=(b&&decide (z=0)):=by rw[bq hz,zm,<-hb];simp
   have hd:decide (sgn z=0)=decide (z=0):=by
    by_cases h:z=0
    ·rw[au h,au (gx.2 h)]
    ·rw[aw h,aw (fun e=>h (gx.1 e))]
   clear hb
   cases b with
   |true=>
    rw[sI]at hb';refine ot ?_;refine Qy ?_;refine eU ?_;simp only[nx,inB];exact⟨l.length-(j+1),_,by omega,(aq (sl':=[(0,dW m),(3,.own 3),(4,zI (k:Nat)),(5,.sc (.bool (decide (sgn z=0)))),(6,zI ((j+1:Nat):Int))]) (ow':=[(3,⟨113,1,F.map dZ⟩)]) az aD),j+1,decide (sgn z=0),by omega,rfl,by rw[hb',hd],rfl⟩
   |false=>
    rw[sH]at hb';refine ot ?_;refine Qy ?_;refine eU ?_;simp only[nx,inB];exact⟨l.length-(j+1),_,by omega,(aq (sl':=[(0,dW m),(3,.own 3),(4,zI (k:Nat)),(5,.sc (.bool false)),(6,zI ((j+1:Nat):Int))]) (ow':=[(3,⟨113,1,F.map dZ⟩)]) az aD),j+1,false,by omega,rfl,by rw[hb'],rfl⟩
  ·obtain rfl:j=l.length:=by omega
   rw[et]at hb;rw[<-hb]at hsn;clear hb
   cases b with
   |true=>
    rw[ak rfl]at hsn;refine zs2 ?_;refine qT ?_;refine bp ?_;refine CX ?_;refine jx ?_;simp only[nx,inB];exact⟨m.length-(k+1),_,by omega,(aq (sl':=[(0,dW m),(3,.own 3),(4,zI ((k+1:Nat):Int))]) (ow':=[(3,⟨113,1,F.map dZ⟩)]) az aD),k+1,by omega,rfl,by rw[hsn]⟩
   |false=>
    rw[ah av]at hsn;refine zs2 ?_;refine qT ?_;refine bp ?_;refine CX ?_;refine bw ?_;refine lL ?_;refine kU ?_;refine ph ?_;refine AX ?_;refine cK ?_;refine eU ?_;simp only[nx,inB];exact⟨m.length-(k+1),_,by omega,(aq (sl':=[(0,dW m),(3,.own 3),(4,zI ((k+1:Nat):Int))]) (ow':=[(3,⟨113,1,F.map dZ++[dZ l]⟩)]) az aD),k+1,by omega,rfl,by rw[hsn,db];rfl⟩
 ·obtain rfl:k=m.length:=by omega
  rw[et];refine eR ?_;refine kb ?_;exact⟨_,(aq (sl':=[(2,.own 3)]) (ow':=[(3,⟨113,1,(fil m).map dZ⟩)]) az aD),.own 2 3 rfl rfl,rfl⟩
end DW
end
section
open Go.RowKit
namespace Mx
theorem TJ(A B:Mat):DW.fil (A++B)=DW.fil A++DW.fil B:=List.filter_append ..
theorem BJ{A:Mat}(h:∀l∈A,l.all (fun z=>decide (z=0))=false):DW.fil A=A:=by
 unfold DW.fil;rw[List.filter_eq_self];intro l hl;rw[h l hl];rfl
theorem PF{A:Mat}(h:∀l∈A,l.all (fun z=>decide (z=0))=true):DW.fil A=[]:=by
 unfold DW.fil;rw[List.filter_eq_nil_iff];intro l hl;rw[h l hl];simp
theorem mA{n:Nat}{M:Mat}(h:Rc n M):DW.fil (red n 0 (0,M)).2=nH n M:=by
 obtain⟨pv,he⟩:=jk n 0 (0,M) id h (gK M);have hR:Rc n (red n 0 (0,M)).2:=(fG n 0 (0,M) h).rc h;unfold nH;generalize red n 0 (0,M)=T at*;obtain⟨r,N⟩:=T;simp only at he hR⊢;rw[bn]at he;have hz:∀{i:Nat} {l:List Int},N[i]?=some l->(l.all (fun z=>decide (z=0))=true↔∀j,j<n->at' N i j=0):=fun {i l} hl=>by
  have hi:=(cB.1 hl).1;have hrw:rw N i=l:=gF hl;have hlen:l.length=n:=hR l (bj hl);rw[du];constructor
  ·intro h j hj;unfold at';rw[hrw,aG,aV aa];simpa using h _ (List.getElem_mem aa)
  ·intro h z hz;obtain⟨j,hj,rfl⟩:=kZ hz;have:=h j aa;unfold at' at this;rw[hrw,aG,aV hj]at this;simpa using this
 have e:=pF r N
 conv=>lhs;rw[<-e]
 rw[TJ,BJ,PF,lz]
 ·intro l hl;obtain⟨i,hi⟩:=sK hl;rw[fE]at hi;exact(hz hi).2 fun j hj=>he.zb _ aa j hj
 ·intro l hl;obtain⟨i,hi⟩:=sK hl;rw[gB]at hi;split at hi
  ·next hir=>
   cases hb:l.all (fun z=>decide (z=0))with
   |false=>rfl
   |true=>
    have h1:=(hz hi).1 hb (pv i) (he.lt i hir);have h2:=he.pos i hir;omega
  ·cases hi
theorem RH{n:Nat}{M:Mat}(h:Rc n M):Rc n (nH n M):=fun l hl=>(fG n 0 (0,M) h).rc h l (tU hl)
end Mx
namespace DW
theorem KL{x y:Int}(h:x.natAbs<=y.natAbs)(hy:Hf y):Hf x:=aH (jR h) hy
theorem Vl{a:Int}(b:Int)(h:a≠0):((Int.gcd a b:Nat):Int)≠0/\(((Int.gcd a b:Nat):Int)).natAbs<=a.natAbs:=by
 have h1:Int.gcd a b∣a.natAbs:=Int.gcd_dvd_natAbs_left a b;have h2:=Nat.le_of_dvd aa h1;have h3:Int.gcd a b≠0:=fun e=>by rw[Int.gcd_eq_zero_iff]at e;exact h e.1
 omega
theorem KN:∀(row:List Int) (z:Int),z≠0->gR row z≠0/\(gR row z).natAbs<=z.natAbs
 |[],z,h=>⟨h,af _⟩
 |x::l,z,h=>by
  have h1:=Vl x h;have h2:=KN l _ h1.1;exact⟨h2.1,aH h2.2 h1.2⟩
theorem Dq:∀(M:Mx.Mat) (z:Int),z≠0->gM M z≠0/\(gM M z).natAbs<=z.natAbs
 |[],z,h=>⟨h,af _⟩
 |r::M,z,h=>by
  have h1:=KN r z h;have h2:=Dq M _ h1.1;exact⟨h2.1,aH h2.2 h1.2⟩
theorem Vr(A:Mx.Mat)(i:Nat)(l:List Int):(A.map dZ).set i (dZ l)=(A.set i l).map dZ:=(qi ..).symm
set_option maxRecDepth 20000
set_option maxHeartbeats 2000000
theorem IA(M:Mx.Mat)(n e p:Nat)(z:Int)(hR:Mx.Rc n M)(hn:n<=1000)(hm:M.length<=1000)(he:6<=e)(hp:M.length<=p\/n<=p)(hf:2*(e*11^p)<=3000000000)(hb:Mx.Bd (2^e) M)(hz:Hf z)(hz0:z≠0)(hH:∀l∈nH n M,∀x∈l,Hf x)(hE:∀l∈(Mx.red n 0 (0,M)).2,∀x∈l,Hf x):
  Fn Tryz.prog 158 [dW M,.nm z,zI n] (.tp [dW (nR n M z),.nm (z/nG n M z)]):=by
 have EC:=Nt M n n e p hR (af _) hn hm he hp hf hb;have hre:=Mx.fG n 0 (0,M) hR;have hRe:=hre.rc hR;have FI:=PC (Mx.red n 0 (0,M)).2 (by rw[hre.len];show M.length<=1000000;omega) (fun l hl=>by have:=hRe l hl;omega) hE 100 rfl;rw[Mx.mA hR]at FI;have NO:=Fh z hz;have hgl:=Dq (nH n M) z hz0;have hnl:=zV hR;have hnr:=Mx.RH hR;have QZ:=RB z (nG n M z) hz (KL hgl.2 hz) hgl.1;unfold nR;obtain⟨G,hG⟩:∃G,G=nG n M z:=⟨_,rfl⟩;have hG2:G=gM (nH n M) z:=hG;rw[<-hG]at QZ;rw[<-hG];rw[show gM (nH n M) z=G from hG2.symm]at hgl;clear hG hf hb hE hRe hre hR;generalize(Mx.red n 0 (0,M)).2=E0 at*;generalize nH n M=H at*;refine ba Tryz.func158 ai rfl rfl rfl fun X0=>?_;simp only[aO];refine zs2 ?_;refine jw ?_;refine zs3 ?_;refine Rj ?_;refine ig ?_;refine cO ?_;refine jV ?_;(refine VC rfl rfl rfl rfl cD (FI) aj aj aj ?_);refine cT ?_;refine kW ?_;refine Ri ?_;refine gw ?_;refine iZ ?_;have hHl:H.length<=1000:=by omega
 (refine ay (aq (sl':=[(2,zI n),(4,.pt (.nm z)),(7,.opt 7 0),(8,.own 100),(9,.opt 9 0),(10,zI 0)]) (ow':=[(7,⟨62,2,[.nm 0]⟩),(9,⟨62,2,[.nm z]⟩),(100,⟨113,1,H.map dZ⟩)]) az aD) ?_)
 refine bc (fun r s=>∃i,i<=H.length/\r=H.length-i/\s=⟨[(2,zI n),(4,.pt (.nm z)),(7,.opt 7 0),(8,.own 100),(9,.opt 9 0),(10,zI (i:Nat))],[(7,⟨62,2,[.nm 0]⟩),(9,⟨62,2,[.nm (gM (H.take i) z)]⟩),(100,⟨113,1,H.map dZ⟩)]⟩) (m:=H.length) ⟨0,aQ _,rfl,rfl⟩ fun r s hs=>?_;obtain⟨i,hi,rfl,rfl⟩:=hs;by_cases hil:i<H.length
 ·obtain⟨row,hrow⟩:=get_some hil;have hrl:=hnr row (bj hrow);have hrf:=hH row (bj hrow);have hgi:=Dq (H.take i) z hz0;have hps:=Ir hrow z;obtain⟨g,hg⟩:∃g,g=gM (H.take i) z:=⟨_,rfl⟩;rw[<-hg]at hgi hps;rw[<-hg];clear hg;refine dn ?_;refine ov ?_
  (refine ay (aq (sl':=[(2,zI n),(4,.pt (.nm z)),(7,.opt 7 0),(8,.own 100),(9,.opt 9 0),(10,zI (i:Nat)),(11,zI 0)]) (ow':=[(7,⟨62,2,[.nm 0]⟩),(9,⟨62,2,[.nm g]⟩),(100,⟨113,1,H.map dZ⟩)]) az aD) ?_)
  refine bc (fun r s=>∃j,j<=n/\r=n-j/\s=⟨[(2,zI n),(4,.pt (.nm z)),(7,.opt 7 0),(8,.own 100),(9,.opt 9 0),(10,zI (i:Nat)),(11,zI (j:Nat))],[(7,⟨62,2,[.nm 0]⟩),(9,⟨62,2,[.nm (gR (row.take j) g)]⟩),(100,⟨113,1,H.map dZ⟩)]⟩) (m:=n) ⟨0,aQ _,rfl,rfl⟩ fun r s hs=>?_;obtain⟨j,hj,rfl,rfl⟩:=hs;by_cases hjl:j<n
  ·obtain⟨x,hx⟩:=get_some (m:=row) (k:=j) aa;have hgj:=KN (row.take j) g hgi.1;have hpj:=Iq hx g;have GC:=gcd_d (gR (row.take j) g) x (KL (aH hgj.2 hgi.2) hz) (hrf x (bj hx));rw[<-hpj]at GC;refine zs2 ?_;refine ox ?_;refine bw ?_;refine tM ?_;refine iH ?_;refine yR ?_;refine qU ?_;refine iH ?_;refine wO ?_;refine oA ?_;refine mL ?_;refine eU ?_;simp only[nx,inB];exact⟨n-(j+1),_,by omega,(aq (sl':=[(2,zI n),(4,.pt (.nm z)),(7,.opt 7 0),(8,.own 100),(9,.opt 9 0),(10,zI (i:Nat)),(11,zI ((j+1:Nat):Int))]) (ow':=[(7,⟨62,2,[.nm 0]⟩),(9,⟨62,2,[.nm (gR (row.take (j+1)) g)]⟩),(100,⟨113,1,H.map dZ⟩)]) az aD),j+1,by omega,rfl,rfl⟩
  ·obtain rfl:j=n:=by omega
   rw[cj aa,<-hps];refine zs2 ?_;refine ox ?_;refine jx ?_;simp only[nx,inB];exact⟨H.length-(i+1),_,by omega,(aq (sl':=[(2,zI j),(4,.pt (.nm z)),(7,.opt 7 0),(8,.own 100),(9,.opt 9 0),(10,zI ((i+1:Nat):Int))]) (ow':=[(7,⟨62,2,[.nm 0]⟩),(9,⟨62,2,[.nm (gM (H.take (i+1)) z)]⟩),(100,⟨113,1,H.map dZ⟩)]) az aD),i+1,by omega,rfl,rfl⟩
 ·obtain rfl:i=H.length:=by omega
  rw[et,<-hG2];refine eR ?_;refine ov ?_
  (refine ay (aq (sl':=[(2,zI n),(4,.pt (.nm z)),(7,.opt 7 0),(8,.own 100),(9,.opt 9 0),(12,zI 0)]) (ow':=[(7,⟨62,2,[.nm 0]⟩),(9,⟨62,2,[.nm G]⟩),(100,⟨113,1,H.map dZ⟩)]) az aD) ?_)
  obtain⟨R,hR⟩:∃R,R=mapM (fun z=>z/G) H:=⟨_,rfl⟩;rw[<-hR];have hRl:R.length=H.length:=by rw[hR];exact cG _ _
  refine bc (fun r s=>∃i,i<=H.length/\r=H.length-i/\s=⟨[(2,zI n),(4,.pt (.nm z)),(7,.opt 7 0),(8,.own 100),(9,.opt 9 0),(12,zI (i:Nat))],[(7,⟨62,2,[.nm 0]⟩),(9,⟨62,2,[.nm G]⟩),(100,⟨113,1,(fP i R H).map dZ⟩)]⟩) (m:=H.length) ⟨0,aQ _,rfl,by rw[uo];rfl⟩ fun r s hs=>?_;obtain⟨i,hi,rfl,rfl⟩:=hs;have hPl:=vN hRl i;by_cases hil:i<H.length
  ·obtain⟨row,hrow⟩:=get_some hil;have hrl:=hnr row (bj hrow);have hrf:=hH row (bj hrow);have hPr:(fP i R H)[i]?=some row:=by
    unfold fP;rw[fF uZ,aP,fE,show i+(i-min i R.length)=i by omega];exact hrow
   have hRi:Mx.rw R i=row.map (fun z=>z/G):=by rw[hR,mu,Mx.gF hrow]
   have hst:=oT hRl hil;rw[hRi]at hst;obtain⟨A,hA⟩:∃A,A=fP i R H:=⟨_,rfl⟩;rw[<-hA]at hPl hPr hst;rw[<-hA];clear hA hRi;refine dn ?_;refine eQ ?_;refine ay (da (t:=13) (k:=13) (T:=62) (wd:=2) fq rfl rfl cu) ?_
   (refine ay (aq (sl':=[(2,zI n),(4,.pt (.nm z)),(7,.opt 7 0),(8,.own 100),(9,.opt 9 0),(12,zI (i:Nat)),(13,.own 13),(14,zI 0)]) (ow':=[(13,⟨62,2,[]⟩),(7,⟨62,2,[.nm 0]⟩),(9,⟨62,2,[.nm G]⟩),(100,⟨113,1,A.map dZ⟩)]) az aD) ?_)
   refine bc (fun r s=>∃j,j<=n/\r=n-j/\s=⟨[(2,zI n),(4,.pt (.nm z)),(7,.opt 7 0),(8,.own 100),(9,.opt 9 0),(12,zI (i:Nat)),(13,.own 13),(14,zI (j:Nat))],[(13,⟨62,2,((row.map (fun z=>z/G)).take j).map .nm⟩),(7,⟨62,2,[.nm 0]⟩),(9,⟨62,2,[.nm G]⟩),(100,⟨113,1,A.map dZ⟩)]⟩) (m:=n) ⟨0,aQ _,rfl,rfl⟩ fun r s hs=>?_;obtain⟨j,hj,rfl,rfl⟩:=hs;by_cases hjl:j<n
   ·obtain⟨x,hx⟩:=get_some (m:=row) (k:=j) aa;have hx2:(row.map (fun z=>z/G))[j]?=some (x/G):=by rw[bW,hx];rfl
    have hsn:=bq hx2;have hle:((row.map (fun z=>z/G)).take j).length<=1000:=by rw[aP];omega
    have QX:=RB x G (hrf x (bj hx)) (KL hgl.2 hz) hgl.1;obtain⟨B,hB⟩:∃B,B=(row.map (fun z=>z/G)).take j:=⟨_,rfl⟩;rw[<-hB]at hsn hle;rw[<-hB];clear hB hx2;refine zs2 ?_;refine ox ?_;refine bw ?_;refine Qw ?_;refine eU ?_;simp only[nx,inB];exact⟨n-(j+1),_,by omega,(aq (sl':=[(2,zI n),(4,.pt (.nm z)),(7,.opt 7 0),(8,.own 100),(9,.opt 9 0),(12,zI (i:Nat)),(13,.own 13),(14,zI ((j+1:Nat):Int))]) (ow':=[(13,⟨62,2,B.map .nm++[.nm (x/G)]⟩),(7,⟨62,2,[.nm 0]⟩),(9,⟨62,2,[.nm G]⟩),(100,⟨113,1,A.map dZ⟩)]) az aD),j+1,by omega,rfl,by rw[hsn,db];rfl⟩
   ·obtain rfl:j=n:=by omega
    rw[cj (by rw[bC];omega)];have hii:(i:Int)=((i:Nat):Int):=rfl;refine zs2 ?_;refine ox ?_;refine bp ?_;refine ay (aA (k:=13) bf bA bz) ?_;refine QP ?_;refine eU ?_;simp only[nx,inB];exact⟨H.length-(i+1),_,by omega,(aq (sl':=[(2,zI j),(4,.pt (.nm z)),(7,.opt 7 0),(8,.own 100),(9,.opt 9 0),(12,zI ((i+1:Nat):Int))]) (ow':=[(7,⟨62,2,[.nm 0]⟩),(9,⟨62,2,[.nm G]⟩),(100,⟨113,1,(A.map dZ).set i (dZ (row.map (fun z=>z/G)))⟩)]) az aD),i+1,by omega,rfl,by rw[Vr,hst]⟩
  ·obtain rfl:i=H.length:=by omega
   rw[vO aa (af _)];refine eR ?_;refine cn ?_;refine ir ?_;refine ir ?_;refine jV ?_;refine zs6 ?_;refine gw ?_;refine zs2 ?_;try rw[<-hR]
   refine⟨_,Sh.trans (aA (k:=100) bf bA bz) (aA (k:=7) bf bA bz),?_⟩;exact .two (.tmp 6) (.cell 7 62) _ _ rfl (.tmp 6 rfl) (.cell 7 _ _ rfl rfl ai ai)
end DW
end
section
open Go.RowKit
namespace DW
theorem Fw{dim:Int}:∀{m:List (List Int)},eP dim m=0->∀l∈m,(l.length:Int)=dim/\∀z∈l,inb 1000000000000000 z=true
 |[],_=>fun l hl=>by cases hl
 |r::t,h=>by
  unfold eP at h;split at h
  ·next h1=>
   split at h
   ·cases h
   ·next h2=>
    intro l hl;rcases bP.1 hl with rfl|hl
    ·refine⟨h1,fun z hz=>?_⟩
     cases hb:inb 1000000000000000 z with
     |true=>rfl
     |false=>exact absurd (gT.2 ⟨z,hz,by unfold big;rw[hb];rfl⟩) h2
    ·exact Fw h l hl
  ·cases h
theorem gZ{dim den:Int}{m:List (List Int)}(h:lck dim m den=0):(1<=dim/\dim<=6/\1<=den/\den<=1000000000000000)/\m.length<=64/\∀l∈m,(l.length:Int)=dim/\∀z∈l,inb 1000000000000000 z=true:=by
 unfold lck at h;split at h
 ·cases h
 ·split at h
  ·cases h
  ·exact⟨by omega,by omega,Fw h⟩
theorem jn{n:Nat}{den:Int}{m:List (List Int)}(h:lck n m den=0):Mx.Rc n m:=fun l hl=>by have:=((gZ h).2.2 l hl).1;omega
theorem tu{dim den:Int}{m:List (List Int)}(h:lck dim m den=0):Mx.Bd (2^50) m:=fun i j=>by
 rcases at_mem m i j with h1|⟨r,hr,hz⟩
 ·rw[h1];simp
 ·have:=ln.1 (((gZ h).2.2 r hr).2 _ hz);exact aH (show(Mx.at' m i j).natAbs<=1000000000000000 by omega) av
theorem Ad{dim den:Int}{m:List (List Int)}(h:lck dim m den=0):∀l∈m,∀z∈l,I64 z:=fun l hl z hz=>by
 have:=ln.1 (((gZ h).2.2 l hl).2 z hz);unfold I64;omega
set_option maxRecDepth 20000
set_option maxHeartbeats 2000000
theorem S7(dim:Int)(M R:Mx.Mat)(z d:Int)(BS:Fn Tryz.prog 158 [dW M,.nm z,zI dim] (.tp [dW R,.nm d]))(hR:R.length<=1000000)(hR2:∀l∈R,l.length<=1000000)(hR3:∀l∈R,∀x∈l,(hd x.natAbs).length<=199999999)(hdl:(hd d.natAbs).length<=199999999):Fn Tryz.prog 92 [dW M,.nm z,zI dim] (hnd dim R d):=by
 have NR:=Fk R hR hR2 hR3;have ND:=Fk [[d]] aK aK (by simpa using hdl);unfold nrw at NR ND;rw[show([[d]]:Mx.Mat).all (fun l=>l.all (inb 1000000000000000))=inb 1000000000000000 d by simp]at ND;by_cases h1:R.all (fun l=>l.all (inb 1000000000000000))=true
 ·rw[ak h1]at NR;by_cases h2:inb 1000000000000000 d=true
  ·rw[ak h2]at ND;have EC:hnd dim R d= .tp [dL dim R d,zI 0]:=ak ⟨h1,h2⟩;have hc0:(0:Int)=((0:Nat):Int):=rfl;obtain⟨N,L,g0,g1,ND⟩:∃(N:Mx.Mat) (L:List Int),N[0]?=some L/\L[0]?=some d/\Fn Tryz.prog 77 [dW [[d]]] (.tp [dM N,.sc (.bool true)]):=⟨[[d]],[d],rfl,rfl,ND⟩;refine ba Tryz.func92 ai rfl rfl rfl fun X0=>?_;simp only[aO];refine Je ?_;refine bp ?_;refine lL ?_;refine I3 ?_;refine uX ?_;refine I3 ?_;refine uX ?_;refine Rl ?_;refine lT ?_;refine lu ?_;refine ig ?_;rw[EC];exact⟨_,aA (k:=6) bf bA bz,.two (.cell 6 48) (.tmp 7) _ _ rfl (.cell 6 _ _ rfl rfl ai ai) (.tmp 7 rfl)⟩
  ·rw[ah h2]at ND;have EC:hnd dim R d= .tp [dL 0 [] 0,zI 8]:=ah (fun h=>h2 h.2);refine ba Tryz.func92 ai rfl rfl rfl fun X0=>?_;simp only[aO];refine Je ?_;refine py ?_;rw[EC];exact⟨_,Sh.trans (aA (k:=6) bf bA bz) (lS (t:=6) (d:=.pt (.st [_,.sc (.slice none 0 0),_])) (d':=.pt (.st [_,dM [],_])) aj rfl rfl fun X w v h=>ic h),.two (.cell 6 48) (.tmp 7) _ _ rfl (.cell 6 _ _ rfl rfl ai ai) (.tmp 7 rfl)⟩
 ·rw[ah h1]at NR;have EC:hnd dim R d= .tp [dL 0 [] 0,zI 8]:=ah (fun h=>h1 h.1);have ND':∃a b,Fn Tryz.prog 77 [dW [[d]]] (.tp [dM a,.sc (.bool b)]):=by
   split at ND
   ·exact⟨_,_,ND⟩
   ·exact⟨_,_,ND⟩
  clear ND;obtain⟨a,b,ND⟩:=ND';refine ba Tryz.func92 ai rfl rfl rfl fun X0=>?_;simp only[aO];refine Je ?_;refine py ?_;rw[EC];exact⟨_,Sh.trans (aA (k:=6) bf bA bz) (lS (t:=6) (d:=.pt (.st [_,.sc (.slice none 0 0),_])) (d':=.pt (.st [_,dM [],_])) aj rfl rfl fun X w v h=>ic h),.two (.cell 6 48) (.tmp 7) _ _ rfl (.cell 6 _ _ rfl rfl ai ai) (.tmp 7 rfl)⟩
theorem M0(dim den:Int)(m R:Mx.Mat)(d:Int)(CK:Fn Tryz.prog 33 [dL dim m den] (zI 0))(RD:Fn Tryz.prog 87 [dL dim m den] (nu dim R d))(HN:Fn Tryz.prog 88 [nu dim R d] (hnd dim R d)):Fn Tryz.prog 31 [dL dim m den] (hnd dim R d):=by
 unfold hnd at HN⊢;split at HN
 ·next h=>
  rw[ak h];refine ba Tryz.func31 ai rfl rfl rfl fun X0=>?_;simp only[aO];refine zs2 ?_;refine Jr ?_;refine zs2 ?_;refine wK ?_;refine qR ?_;refine Qv ?_;refine zs2 ?_;exact⟨_,aA (k:=2) bf bA bz,.two (.cell 2 48) (.tmp 3) _ _ rfl (.cell 2 _ _ rfl rfl ai ai) (.tmp 3 rfl)⟩
 ·next h=>
  rw[ah h];refine ba Tryz.func31 ai rfl rfl rfl fun X0=>?_;simp only[aO];refine zs2 ?_;refine Jr ?_;refine zs2 ?_;refine wK ?_;refine qR ?_;refine Qv ?_;refine zs2 ?_;exact⟨_,aA (k:=2) bf bA bz,.two (.cell 2 48) (.tmp 3) _ _ rfl (.cell 2 _ _ rfl rfl ai ai) (.tmp 3 rfl)⟩
end DW
end
end Go.Proofs.YtcgjmdpcplhanaaGreat
