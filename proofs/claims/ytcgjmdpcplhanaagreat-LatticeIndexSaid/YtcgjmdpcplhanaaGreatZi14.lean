/- Lemmas for the law: E30 E35 E16 E38 E37 Q21 Q22 Q23 Q24 Q25 W20 Q26 Q27 E28 M11 E36 DT -/
import Derived.Test.YtcgjmdpcplhanaaGreatZi13
namespace Go.Proofs.YtcgjmdpcplhanaaGreat
section
abbrev De:=@Nat.lt_or_gt_of_ne
abbrev Dd:=@Int.lt_of_mul_lt_mul_left
abbrev yI:=@Int.dvd_trans
abbrev rK:=@Int.mul_ediv_cancel'
theorem zb75{p:Prop}(h:p:=by rw[D.out.2.2.2];exact rA _ _):p:=h
theorem zb52{p:Prop}(h:p:=by rw[<-HQ.out];exact iU D.out.2.2.1 H1.out.nf.dg zb75):p:=h
theorem zs134{p q:Prop}(h:q)(f:Wq q->p:=by(intro hW;(((try refine bn ?_);(refine oQ rfl rfl rfl rfl cO cO aH aj uO ah ah (by(simp only[bI,ir,ic];omega)) cG uL ?_)));exact hW.out)):p:=f ⟨h⟩
theorem Po{p q:Prop}(h:q)(f:Wq q->p:=by(intro hW;(refine Ii ?_;refine oa ?_;refine lh ?_;refine lh ?_;refine gG ?_;refine pK ?_;refine zs93 ?_;refine zs134 ?_;refine tf ?_;refine kH ?_);exact hW.out)):p:=f ⟨h⟩
end
section
open Go.RowKit
namespace Mx
theorem Su(A B:Mat):DW.fil (A++B)=DW.fil A++DW.fil B:=List.filter_append ..
theorem Bj{A:Mat}(h:∀l∈A,l.all (fun z=>decide (z=0))=false):DW.fil A=A:=by
 unfold DW.fil;rw[List.filter_eq_self];intro l hl;rw[h l hl];rfl
theorem OL{A:Mat}(h:∀l∈A,l.all (fun z=>decide (z=0))=true):DW.fil A=[]:=by
 unfold DW.fil;rw[List.filter_eq_nil_iff];intro l hl;rw[h l hl];simp
theorem wM{n:Nat}{M:Mat}(h:Rc n M):DW.fil (red n 0 (0,M)).2=nH n M:=by
 obtain⟨pv,he⟩:=lp n 0 (0,M) id h (jv M);have hR:Rc n (red n 0 (0,M)).2:=(dz n 0 (0,M) h).rc h;unfold nH;generalize red n 0 (0,M)=T at*;obtain⟨r,N⟩:=T;simp only at he hR⊢;rw[bu]at he;have hz:∀{i:Nat} {l:List Int},N[i]?=some l->(l.all (fun z=>decide (z=0))=true↔∀j,j<n->at' N i j=0):=fun {i l} hl=>by
  have hi:=(cD.1 hl).1;have hrw:rw N i=l:=dR hl;have hlen:l.length=n:=hR l (bG hl);rw[eh];constructor
  ·intro h j hj;unfold at';rw[hrw,ay,aZ aa];simpa using h _ (List.getElem_mem aa)
  ·intro h z hz;obtain⟨j,hj,rfl⟩:=lS hz;have:=h j aa;unfold at' at this;rw[hrw,ay,aZ hj]at this;simpa using this
 have e:=qK r N
 conv=>lhs;rw[<-e]
 rw[Su,Bj,OL,oD]
 ·intro l hl;obtain⟨i,hi⟩:=rM hl;rw[eV]at hi;exact(hz hi).2 fun j hj=>he.zb _ aa j hj
 ·intro l hl;obtain⟨i,hi⟩:=rM hl;rw[im]at hi;split at hi
  ·next hir=>
   cases hb:l.all (fun z=>decide (z=0))with
   |false=>rfl
   |true=>
    have h1:=(hz hi).1 hb (pv i) (he.lt i hir);have h2:=he.pos i hir;omega
  ·cases hi
theorem Qr{n:Nat}{M:Mat}(h:Rc n M):Rc n (nH n M):=fun l hl=>(dz n 0 (0,M) h).rc h l (ph hl)
end Mx
namespace DW
theorem J9{x y:Int}(h:x.natAbs<=y.natAbs)(hy:Hf y):Hf x:=aA (kb h) hy
theorem Ua{a:Int}(b:Int)(h:a≠0):((Int.gcd a b:Nat):Int)≠0/\(((Int.gcd a b:Nat):Int)).natAbs<=a.natAbs:=by
 have h1:Int.gcd a b∣a.natAbs:=Int.gcd_dvd_natAbs_left a b;have h2:=Nat.le_of_dvd aa h1;have h3:Int.gcd a b≠0:=fun e=>by rw[Int.gcd_eq_zero_iff]at e;exact h e.1
 omega
theorem Kb:∀(row:List Int) (z:Int),z≠0->gR row z≠0/\(gR row z).natAbs<=z.natAbs
 |[],z,h=>⟨h,af _⟩
 |x::l,z,h=>by
  have h1:=Ua x h;have h2:=Kb l _ h1.1;exact⟨h2.1,aA h2.2 h1.2⟩
theorem CJ:∀(M:Mx.Mat) (z:Int),z≠0->gM M z≠0/\(gM M z).natAbs<=z.natAbs
 |[],z,h=>⟨h,af _⟩
 |r::M,z,h=>by
  have h1:=Kb r z h;have h2:=CJ M _ h1.1;exact⟨h2.1,aA h2.2 h1.2⟩
theorem Ui(A:Mx.Mat)(i:Nat)(l:List Int):(A.map dZ).set i (dZ l)=(A.set i l).map dZ:=(oA ..).symm
set_option maxRecDepth 20000
set_option maxHeartbeats 2000000
theorem SY(M:Mx.Mat)(n e p:Nat)(z:Int)(hR:Mx.Rc n M)(hn:n<=1000)(hm:M.length<=1000)(he:6<=e)(hp:M.length<=p\/n<=p)(hf:2*(e*11^p)<=3000000000)(hb:Mx.Bd (2^e) M)(hz:Hf z)(hz0:z≠0)(hH:∀l∈nH n M,∀x∈l,Hf x)(hE:∀l∈(Mx.red n 0 (0,M)).2,∀x∈l,Hf x):
  Fn Tryz.prog 158 [dW M,.nm z,zI n] (.tp [dW (nR n M z),.nm (z/nG n M z)]):=by
 have EC:=Mv M n n e p hR (af _) hn hm he hp hf hb;have hre:=Mx.dz n 0 (0,M) hR;have hRe:=hre.rc hR;have FI:=OJ (Mx.red n 0 (0,M)).2 (by rw[hre.len];show M.length<=1000000;omega) (fun l hl=>by have:=hRe l hl;omega) hE 100 rfl;rw[Mx.wM hR]at FI;have NO:=Er z hz;have hgl:=CJ (nH n M) z hz0;have hnl:=zH hR;have hnr:=Mx.Qr hR;have QZ:=CD z (nG n M z) hz (J9 hgl.2 hz) hgl.1;unfold nR;obtain⟨G,hG⟩:∃G,G=nG n M z:=⟨_,rfl⟩;have hG2:G=gM (nH n M) z:=hG;rw[<-hG]at QZ;rw[<-hG];rw[show gM (nH n M) z=G from hG2.symm]at hgl;clear hG hf hb hE hRe hre hR;generalize(Mx.red n 0 (0,M)).2=E0 at*;generalize nH n M=H at*;refine bh Tryz.func158 ah rfl rfl rfl fun X0=>?_;simp only[aK];refine zs2 ?_;refine il ?_;refine zs3 ?_;(refine dV (k:=7) (z:=(.agg #[.bool false,.slice none 0 0])) (d:=(.nm 0)) rfl rfl rfl rfl rfl ah aj aj dC aj aj cG ?_);refine dX ?_;refine ck ?_;refine nA ?_;(refine Uq rfl rfl rfl rfl cO (FI) aj aj aj ?_);refine cS ?_;refine mC ?_;(refine dV (k:=9) (z:=(.agg #[.bool false,.slice none 0 0])) (d:=(.nm 0)) rfl rfl rfl rfl rfl ah aj aj dC aj aj cG ?_);refine jz ?_;refine fI ?_;have hHl:H.length<=1000:=by omega
 (refine av (aE (sl':=[(2,zI n),(4,.pt (.nm z)),(7,.opt 7 0),(8,.own 100),(9,.opt 9 0),(10,zI 0)]) (ow':=[(7,⟨62,2,[.nm 0]⟩),(9,⟨62,2,[.nm z]⟩),(100,⟨113,1,H.map dZ⟩)]) aO aS) ?_)
 refine bB (fun r s=>∃i,i<=H.length/\r=H.length-i/\s=⟨[(2,zI n),(4,.pt (.nm z)),(7,.opt 7 0),(8,.own 100),(9,.opt 9 0),(10,zI (i:Nat))],[(7,⟨62,2,[.nm 0]⟩),(9,⟨62,2,[.nm (gM (H.take i) z)]⟩),(100,⟨113,1,H.map dZ⟩)]⟩) (m:=H.length) ⟨0,bg _,rfl,rfl⟩ fun r s hs=>?_;obtain⟨i,hi,rfl,rfl⟩:=hs;by_cases hil:i<H.length
 ·obtain⟨row,hrow⟩:=get_some hil;have hrl:=hnr row (bG hrow);have hrf:=hH row (bG hrow);have hgi:=CJ (H.take i) z hz0;have hps:=Hj hrow z;obtain⟨g,hg⟩:∃g,g=gM (H.take i) z:=⟨_,rfl⟩;rw[<-hg]at hgi hps;rw[<-hg];clear hg;refine jy ?_;refine fI ?_
  (refine av (aE (sl':=[(2,zI n),(4,.pt (.nm z)),(7,.opt 7 0),(8,.own 100),(9,.opt 9 0),(10,zI (i:Nat)),(11,zI 0)]) (ow':=[(7,⟨62,2,[.nm 0]⟩),(9,⟨62,2,[.nm g]⟩),(100,⟨113,1,H.map dZ⟩)]) aO aS) ?_)
  refine bB (fun r s=>∃j,j<=n/\r=n-j/\s=⟨[(2,zI n),(4,.pt (.nm z)),(7,.opt 7 0),(8,.own 100),(9,.opt 9 0),(10,zI (i:Nat)),(11,zI (j:Nat))],[(7,⟨62,2,[.nm 0]⟩),(9,⟨62,2,[.nm (gR (row.take j) g)]⟩),(100,⟨113,1,H.map dZ⟩)]⟩) (m:=n) ⟨0,bg _,rfl,rfl⟩ fun r s hs=>?_;obtain⟨j,hj,rfl,rfl⟩:=hs;by_cases hjl:j<n
  ·obtain⟨x,hx⟩:=get_some (m:=row) (k:=j) aa;have hgj:=Kb (row.take j) g hgi.1;have hpj:=Hi hx g;have GC:=Qv (gR (row.take j) g) x (J9 (aA hgj.2 hgi.2) hz) (hrf x (bG hx));rw[<-hpj]at GC;refine zs2 ?_;refine qF ?_;refine bs ?_;refine mH ?_;refine fT ?_;refine yr ?_;refine qH ?_;refine jC ?_;refine kB ?_;refine jB ?_;simp only[nx,inB];exact⟨n-(j+1),_,by omega,(aE (sl':=[(2,zI n),(4,.pt (.nm z)),(7,.opt 7 0),(8,.own 100),(9,.opt 9 0),(10,zI (i:Nat)),(11,zI ((j+1:Nat):Int))]) (ow':=[(7,⟨62,2,[.nm 0]⟩),(9,⟨62,2,[.nm (gR (row.take (j+1)) g)]⟩),(100,⟨113,1,H.map dZ⟩)]) aO aS),j+1,by omega,rfl,rfl⟩
  ·obtain rfl:j=n:=by omega
   rw[cw aa,<-hps];refine zs2 ?_;refine qF ?_;refine qB ?_;simp only[nx,inB];exact⟨H.length-(i+1),_,by omega,(aE (sl':=[(2,zI j),(4,.pt (.nm z)),(7,.opt 7 0),(8,.own 100),(9,.opt 9 0),(10,zI ((i+1:Nat):Int))]) (ow':=[(7,⟨62,2,[.nm 0]⟩),(9,⟨62,2,[.nm (gM (H.take (i+1)) z)]⟩),(100,⟨113,1,H.map dZ⟩)]) aO aS),i+1,by omega,rfl,rfl⟩
 ·obtain rfl:i=H.length:=by omega
  rw[gO,<-hG2];refine nZ ?_;refine fI ?_
  (refine av (aE (sl':=[(2,zI n),(4,.pt (.nm z)),(7,.opt 7 0),(8,.own 100),(9,.opt 9 0),(12,zI 0)]) (ow':=[(7,⟨62,2,[.nm 0]⟩),(9,⟨62,2,[.nm G]⟩),(100,⟨113,1,H.map dZ⟩)]) aO aS) ?_)
  obtain⟨R,hR⟩:∃R,R=mapM (fun z=>z/G) H:=⟨_,rfl⟩;rw[<-hR];have hRl:R.length=H.length:=by rw[hR];exact cB _ _
  refine bB (fun r s=>∃i,i<=H.length/\r=H.length-i/\s=⟨[(2,zI n),(4,.pt (.nm z)),(7,.opt 7 0),(8,.own 100),(9,.opt 9 0),(12,zI (i:Nat))],[(7,⟨62,2,[.nm 0]⟩),(9,⟨62,2,[.nm G]⟩),(100,⟨113,1,(fY i R H).map dZ⟩)]⟩) (m:=H.length) ⟨0,bg _,rfl,by rw[tY];rfl⟩ fun r s hs=>?_;obtain⟨i,hi,rfl,rfl⟩:=hs;have hPl:=vn hRl i;by_cases hil:i<H.length
  ·obtain⟨row,hrow⟩:=get_some hil;have hrl:=hnr row (bG hrow);have hrf:=hH row (bG hrow);have hPr:(fY i R H)[i]?=some row:=by
    unfold fY;rw[fU uK,bf,eV,show i+(i-min i R.length)=i by omega];exact hrow
   have hRi:Mx.rw R i=row.map (fun z=>z/G):=by rw[hR,mr,Mx.dR hrow]
   have hst:=oK hRl hil;rw[hRi]at hst;obtain⟨A,hA⟩:∃A,A=fY i R H:=⟨_,rfl⟩;rw[<-hA]at hPl hPr hst;rw[<-hA];clear hA hRi;refine jy ?_;refine jA ?_;refine av (fG (t:=13) (k:=13) (T:=62) (wd:=2) jf rfl rfl cG) ?_
   (refine av (aE (sl':=[(2,zI n),(4,.pt (.nm z)),(7,.opt 7 0),(8,.own 100),(9,.opt 9 0),(12,zI (i:Nat)),(13,.own 13),(14,zI 0)]) (ow':=[(13,⟨62,2,[]⟩),(7,⟨62,2,[.nm 0]⟩),(9,⟨62,2,[.nm G]⟩),(100,⟨113,1,A.map dZ⟩)]) aO aS) ?_)
   refine bB (fun r s=>∃j,j<=n/\r=n-j/\s=⟨[(2,zI n),(4,.pt (.nm z)),(7,.opt 7 0),(8,.own 100),(9,.opt 9 0),(12,zI (i:Nat)),(13,.own 13),(14,zI (j:Nat))],[(13,⟨62,2,((row.map (fun z=>z/G)).take j).map .nm⟩),(7,⟨62,2,[.nm 0]⟩),(9,⟨62,2,[.nm G]⟩),(100,⟨113,1,A.map dZ⟩)]⟩) (m:=n) ⟨0,bg _,rfl,rfl⟩ fun r s hs=>?_;obtain⟨j,hj,rfl,rfl⟩:=hs;by_cases hjl:j<n
   ·obtain⟨x,hx⟩:=get_some (m:=row) (k:=j) aa;have hx2:(row.map (fun z=>z/G))[j]?=some (x/G):=by rw[bO,hx];rfl
    have hsn:=cM hx2;have hle:((row.map (fun z=>z/G)).take j).length<=1000:=by rw[bf];omega
    have QX:=CD x G (hrf x (bG hx)) (J9 hgl.2 hz) hgl.1;obtain⟨B,hB⟩:∃B,B=(row.map (fun z=>z/G)).take j:=⟨_,rfl⟩;rw[<-hB]at hsn hle;rw[<-hB];clear hB hx2;refine zs2 ?_;refine qF ?_;refine bs ?_;refine Po ?_;refine jB ?_;simp only[nx,inB];exact⟨n-(j+1),_,by omega,(aE (sl':=[(2,zI n),(4,.pt (.nm z)),(7,.opt 7 0),(8,.own 100),(9,.opt 9 0),(12,zI (i:Nat)),(13,.own 13),(14,zI ((j+1:Nat):Int))]) (ow':=[(13,⟨62,2,B.map .nm++[.nm (x/G)]⟩),(7,⟨62,2,[.nm 0]⟩),(9,⟨62,2,[.nm G]⟩),(100,⟨113,1,A.map dZ⟩)]) aO aS),j+1,by omega,rfl,by rw[hsn,eR];rfl⟩
   ·obtain rfl:j=n:=by omega
    rw[cw (by rw[bI];omega)];have hii:(i:Int)=((i:Nat):Int):=rfl;refine zs2 ?_;refine qF ?_;refine bK ?_;refine av (ao (k:=13) aH aR aQ) ?_;refine PB ?_;refine jB ?_;simp only[nx,inB];exact⟨H.length-(i+1),_,by omega,(aE (sl':=[(2,zI j),(4,.pt (.nm z)),(7,.opt 7 0),(8,.own 100),(9,.opt 9 0),(12,zI ((i+1:Nat):Int))]) (ow':=[(7,⟨62,2,[.nm 0]⟩),(9,⟨62,2,[.nm G]⟩),(100,⟨113,1,(A.map dZ).set i (dZ (row.map (fun z=>z/G)))⟩)]) aO aS),i+1,by omega,rfl,by rw[Ui,hst]⟩
  ·obtain rfl:i=H.length:=by omega
   rw[vo aa (af _)];refine nZ ?_;refine cF ?_;refine gL ?_;refine gL ?_;refine nA ?_;refine zs6 ?_;refine jz ?_;try rw[<-hR]
   refine⟨_,Sh.trans (ao (k:=100) aH aR aQ) (ao (k:=7) aH aR aQ),?_⟩;exact .two (.tmp 6) (.cell 7 62) _ _ rfl (.tmp 6 rfl) (.cell 7 _ _ rfl rfl ah ah)
end DW
end
section
open Go.RowKit
namespace DW
theorem EH{dim:Int}:∀{m:List (List Int)},eY dim m=0->∀l∈m,(l.length:Int)=dim/\∀z∈l,inb 1000000000000000 z=true
 |[],_=>fun l hl=>by cases hl
 |r::t,h=>by
  unfold eY at h;split at h
  ·next h1=>
   split at h
   ·cases h
   ·next h2=>
    intro l hl;rcases bP.1 hl with rfl|hl
    ·refine⟨h1,fun z hz=>?_⟩
     cases hb:inb 1000000000000000 z with
     |true=>rfl
     |false=>exact absurd (mO.2 ⟨z,hz,by unfold big;rw[hb];rfl⟩) h2
    ·exact EH h l hl
  ·cases h
theorem iQ{dim den:Int}{m:List (List Int)}(h:lck dim m den=0):(1<=dim/\dim<=6/\1<=den/\den<=1000000000000000)/\m.length<=64/\∀l∈m,(l.length:Int)=dim/\∀z∈l,inb 1000000000000000 z=true:=by
 unfold lck at h;split at h
 ·cases h
 ·split at h
  ·cases h
  ·exact⟨by omega,by omega,EH h⟩
theorem jn{n:Nat}{den:Int}{m:List (List Int)}(h:lck n m den=0):Mx.Rc n m:=fun l hl=>by have:=((iQ h).2.2 l hl).1;omega
theorem zP{dim den:Int}{m:List (List Int)}(h:lck dim m den=0):Mx.Bd (2^50) m:=fun i j=>by
 rcases at_mem m i j with h1|⟨r,hr,hz⟩
 ·rw[h1];simp
 ·have:=jZ.1 (((iQ h).2.2 r hr).2 _ hz);exact aA (show(Mx.at' m i j).natAbs<=1000000000000000 by omega) aq
theorem LY{dim den:Int}{m:List (List Int)}(h:lck dim m den=0):∀l∈m,∀z∈l,I64 z:=fun l hl z hz=>by
 have:=jZ.1 (((iQ h).2.2 l hl).2 z hz);unfold I64;omega
set_option maxRecDepth 20000
set_option maxHeartbeats 2000000
end DW
end
section
open Go.RowKit
namespace DW
def fC(row:List Int)(B:Mx.Mat)(k:Nat):Nat->Int
 |0=>0
 |j+1=>fC row B k j+row.getD j 0*Mx.at' B j k
def jj(B:Mx.Mat)(cols:Nat)(row:List Int):List Int:=(List.range cols).map fun k=>fC row B k B.length
def tim(A B:Mx.Mat)(cols:Nat):Mx.Mat:=A.map (jj B cols)
theorem Nu(B:Mx.Mat)(cols:Nat)(row:List Int):(jj B cols row).length=cols:=by unfold jj;simp
set_option maxRecDepth 20000
set_option maxHeartbeats 1000000
end DW
end
section
open Go.RowKit
namespace DW
abbrev dF(n d:Int):D:=.st [zI n,zI d]
set_option maxRecDepth 20000
set_option maxHeartbeats 2000000
theorem Ec(M:Mx.Mat)(z:Int)(hM:M.length<=1000000)(hl:∀l∈M,l.length<=1000000)(hz:Hf z)(hx:∀l∈M,∀x∈l,Hf x):Fn Tryz.prog 108 [dW M,.nm z] (dW (mapM (fun x=>x*z) M)):=by
 refine bh Tryz.func108 ah rfl rfl rfl fun X0=>?_;simp only[aK];refine zs2 ?_;refine I5 ?_;refine zs2 ?_;refine jA ?_;refine av (fG (t:=5) (k:=5) (T:=113) (wd:=1) jf rfl rfl cG) ?_
 (refine av (aE (sl':=[(0,dW M),(3,.pt (.nm z)),(5,.own 5),(6,zI 0)]) (ow':=[(5,⟨113,1,[]⟩)]) aO aS) ?_)
 refine bB (fun r s=>∃i,i<=M.length/\r=M.length-i/\s=⟨[(0,dW M),(3,.pt (.nm z)),(5,.own 5),(6,zI (i:Nat))],[(5,⟨113,1,((mapM (fun x=>x*z) M).take i).map dZ⟩)]⟩) (m:=M.length) ⟨0,bg _,rfl,rfl⟩ fun r s hs=>?_;obtain⟨i,hi,rfl,rfl⟩:=hs;have htl:(mapM (fun x=>x*z) M).length=M.length:=cB _ _;by_cases hil:i<M.length
 ·obtain⟨row,hrow⟩:=get_some hil;have hmem:=bG hrow;have hlr:=hl row hmem;have hti:(mapM (fun x=>x*z) M)[i]?=some (row.map fun x=>x*z):=by unfold mapM;rw[bO,hrow];rfl
  have hsn:=cM hti;have hfl:((mapM (fun x=>x*z) M).take i).length<=1000000:=by rw[bf];omega
  obtain⟨F,hF⟩:∃F,F=(mapM (fun x=>x*z) M).take i:=⟨_,rfl⟩;obtain⟨R,hR⟩:∃R,R=row.map fun x=>x*z:=⟨_,rfl⟩;rw[<-hF,<-hR]at hsn;rw[<-hF]at hfl;rw[<-hF];have hRl:R.length=row.length:=by rw[hR,bI]
  clear hF hti htl;refine jy ?_;refine jA ?_;refine av (fG (t:=7) (k:=7) (T:=62) (wd:=2) jf rfl rfl cG) ?_
  (refine av (aE (sl':=[(0,dW M),(3,.pt (.nm z)),(5,.own 5),(6,zI (i:Nat)),(7,.own 7),(8,zI 0)]) (ow':=[(7,⟨62,2,[]⟩),(5,⟨113,1,F.map dZ⟩)]) aO aS) ?_)
  refine bB (fun r s=>∃k,k<=row.length/\r=row.length-k/\s=⟨[(0,dW M),(3,.pt (.nm z)),(5,.own 5),(6,zI (i:Nat)),(7,.own 7),(8,zI (k:Nat))],[(7,⟨62,2,(R.take k).map .nm⟩),(5,⟨113,1,F.map dZ⟩)]⟩) (m:=row.length) ⟨0,bg _,rfl,rfl⟩ fun r s hs=>?_;obtain⟨k,hk,rfl,rfl⟩:=hs;by_cases hkc:k<row.length
  ·obtain⟨x,hx1⟩:=get_some hkc;have hkg:R[k]?=some (x*z):=by rw[hR,bO,hx1];rfl
   have hks:=cM hkg;have hgl:(R.take k).length<=1000000:=by rw[bf];omega
   obtain⟨G,hG⟩:∃G,G=R.take k:=⟨_,rfl⟩;rw[<-hG]at hks hgl;rw[<-hG];clear hG hkg hR;have ML:=CG x z (hx row hmem x (bG hx1)) hz;refine qA ?_;refine Po ?_;refine jB ?_;simp only[nx,inB];exact⟨row.length-(k+1),_,by omega,(aE (sl':=[(0,dW M),(3,.pt (.nm z)),(5,.own 5),(6,zI (i:Nat)),(7,.own 7),(8,zI ((k+1:Nat):Int))]) (ow':=[(7,⟨62,2,G.map .nm++[.nm (x*z)]⟩),(5,⟨113,1,F.map dZ⟩)]) aO aS),k+1,by omega,rfl,by rw[hks,eR];rfl⟩
  ·obtain rfl:k=row.length:=by omega
   rw[cw aa];clear hR;refine zs2 ?_;refine tj ?_;refine bK ?_;refine av (ao (k:=7) aH aR aQ) ?_;refine vX ?_;refine zs2 ?_;refine fJ ?_;simp only[nx,inB];exact⟨M.length-(i+1),_,by omega,(aE (sl':=[(0,dW M),(3,.pt (.nm z)),(5,.own 5),(6,zI ((i+1:Nat):Int))]) (ow':=[(5,⟨113,1,F.map dZ++[dZ R]⟩)]) aO aS),i+1,by omega,rfl,by rw[hsn,eR];rfl⟩
 ·obtain rfl:i=M.length:=by omega
  rw[cw aa];refine nZ ?_;refine av (ao (k:=5) aH aR aQ) ?_;refine lj ?_;refine zs2 ?_;exact⟨_,Sh.refl,.one (.tmp 4) _ rfl (.tmp 4 rfl)⟩
end DW
end
section
open Go.RowKit
namespace DW
theorem Ew{X:Nat->Prop}{w w':World}{n:Nat}{M:Mx.Mat}{e:Ending}(hX:∀b,X b->b<w.heap.size)(h:pC w n M e w'):∃u,e= .returned u/\AR X w' (dW M) u/\Below w.heap.size w w':=by
 obtain⟨⟨gm,gs,cs,cap,h5,h6,h7⟩,h9⟩:=h;exact⟨_,h5,EB h7 h6 hX,h9⟩
theorem Qk(M:Mx.Mat)(n:Nat)(k:Int)(hm:M.length<=1000000)(hn0:0<n)(hn:n<=1000000)(hR:Mx.Rc n M)(fk:Fit k)(hf:∀i j,Fit (Mx.at' M i j)):Fn Tryz.prog 100 [dW M,.nm k] (dW (mapM (fun z=>k*z) M)):=by
 refine⟨enters_of Tryz.func100 ah rfl,fun X w vs hX hv=>?_⟩;simp only[ATp]at hv;obtain⟨v1,r1,e1,h1,v2,r2,e2,h2,rfl⟩:=hv;simp only[AR]at h2;obtain⟨K,rfl,hK⟩:=h2;subst e2;have:vs= #[v1,.agg #[.bool K.s,.slice K.a K.n K.cap]]:=cU.1 e1;subst this;exact(Si M n v1 K k hm hn fk hf w (sU h1 hR hn0) hK).mono fun e w' h=>Ew (fun b hb=>(hX b hb).1) h
theorem Ni(M N:Mx.Mat)(p n e f:Nat)(hm:M.length<=1000000)(hp:p<=1000000)(hn:n<=1000000)(hn0:0<n)(hp0:0<p)(hl:N.length=p)(he:e+f+20<=6000000000000)(hRM:Mx.Rc p M)(hRN:Mx.Rc n N)(hM:Mx.Bd (2^e) M)(hN:Mx.Bd (2^f) N):Fn Tryz.prog 97 [dW M,dW N] (dW (mulM n M N)):=by
 refine⟨enters_of Tryz.func97 ah rfl,fun X w vs hX hv=>?_⟩;simp only[ATp]at hv;obtain⟨v1,r1,e1,h1,v2,r2,e2,h2,rfl⟩:=hv;subst e2;have:vs= #[v1,v2]:=cU.1 e1;subst this;exact(Jw M N p n e f v1 v2 hm hp hn hn0 hp0 hl he hM hN w (sU h1 hRM hp0) (sU h2 hRN hn0)).mono fun e w' h=>Ew (fun b hb=>(hX b hb).1) h
theorem sM(u v:Int)(fu:Fit u)(fv:Fit v):Fn Tryz.prog 117 [.nm u,.nm v] (.nm (u*v)):=by
 refine⟨enters_of Tryz.func117 ah rfl,fun X w vs hX hv=>?_⟩;simp only[ATp,AR]at hv;obtain⟨v1,r1,e1,⟨x,rfl,hx⟩,v2,r2,e2,⟨y,rfl,hy⟩,rfl⟩:=hv;subst e2;have:vs= #[.agg #[.bool x.s,.slice x.a x.n x.cap],.agg #[.bool y.s,.slice y.a y.n y.cap]]:=cU.1 e1;subst this;exact(sI x y u v fu fv w hx.ip hy.ip).mono fun e w' ⟨⟨z,h1,h2⟩,h3⟩=>⟨_,h1,by simp only[AR];exact⟨z,rfl,h2⟩,h3⟩
end DW
end
section
open Go.RowKit
namespace CI
variable {P : Program} {h h' : H} {tm tm' : Tm} {rec : Rec} {n : Nat} {r : List RO} {S : Nat->SD} {ops : Array Oper}
theorem Trace.mono(t:Trace rec r tm h tm' h' S)(hg:fF rec)(f:Wf h){i j:Nat}(hij:i<=j)(hj:j<=r.length):(S i).h.next<=(S j).h.next:=by
 have:=(t.gdm hg f (j-i) i aa).good.next
 rwa[show i+(j-i)=j by omega]at this
theorem Trace.low(t:Trace rec r tm h tm' h' S)(hg:fF rec)(f:Wf h){i j:Nat}(hij:i<=j)(hj:j<=r.length):(S j).h.low<=(S i).h.low:=by
 have:=(t.gdm hg f (j-i) i aa).good.low;rwa[show i+(j-i)=j by omega]at this
theorem va{g h1:H}{k:Nat}(e:T.get h1.t k=T.get g.t k):(g.whole h1).get k=g.get k:=by
 unfold H.get;show(match ew k g.forb with|true=>none|false=>T.get h1.t k)=_;rw[e];rfl
theorem yi{g g':H}{ob:Option B}(e:g.nu ob=some g'){k:Nat}(hk:k<g.next):g'.get k=g.get k:=by
 cases ob with
 |none=>simp only[H.nu,ak]at e;rw[e]
 |some b=>
  obtain⟨_,_,h3,_,h5⟩:=dD e;exact zX h3 (by rw[h5,ai aa])
theorem Trace.Qs(t:Trace rec r tm h tm' h' S)(hg:fF rec)(f:Wf h){i k:Nat}(hi:i<r.length)(hw:(S (i+1)).wr=false)(hk:k<(S i).h.next):(S (i+1)).h.get k=(S i).h.get k:=by
 obtain⟨o,ho⟩:∃o,r[i]?=some o:=⟨_,aZ hi⟩;have f1:=(t.gd hg f i aa).1;rcases(t.cases ho).2 with⟨_,_,e,_⟩|⟨_,_,_,_,_,ob,_,e,_⟩|⟨_,_,_,h1,e1,e2,e3,_⟩
 ·rw[e]
 ·exact yi e hk
 ·rw[e2];refine va ((qM hg (nK f1) e1).good.keep k hk ?_);rw[e3]at hw;refine aX hk (dG fun hlt=>?_);rw[<-bA]at hlt;rw[hlt]at hw;cases hw
theorem Trace.keepO(t:Trace rec r tm h tm' h' S)(hg:fF rec)(f:Wf h){i k q:Nat}{ro:RO}(hi:r[i]?=some ro)(hq:q<i)(hp:ro.pre.testBit q=false)(h1:(S q).h.next<=k)(h2:k<(S (q+1)).h.next):(S (i+1)).h.get k=(S i).h.get k:=by
 have hlt:=(cD.1 hi).1;have hk:k<(S i).h.next:=aX h2 (t.mono hg f hq aa)
 have f1:=(t.gd hg f i aa).1;rcases(t.cases hi).2 with⟨_,_,e,_⟩|⟨_,_,_,_,_,ob,_,e,_⟩|⟨_,_,_,g1,e1,e2,e3,_⟩
 ·rw[e]
 ·exact yi e hk
 ·rw[e2];refine va ((qM hg (nK f1) e1).good.dead k hk fun hl=>?_);have:=lV hl;rw[show((S i).h.part ro.pre (S i).iv).forb=kF ro.pre (S i).iv (S i).h.forb from rfl,vE ((t.iv i aa).2 q hq aa) hp h1 h2]at this;cases this
theorem Trace.yZ(t:Trace rec r tm h tm' h' S){i:Nat}(hi:i<r.length)(hw:(S (i+1)).wr=true):(S (i+1)).rd=true:=by
 obtain⟨o,ho⟩:∃o,r[i]?=some o:=⟨_,aZ hi⟩;rcases(t.cases ho).2 with⟨_,_,_,e,_⟩|⟨_,_,e,_⟩|⟨_,_,e,_⟩
 ·rw[e]at hw;cases hw
 ·rw[e]at hw;cases hw
 ·exact e
theorem Trace.bound(t:Trace rec r tm h tm' h' S){i j:Nat}{ro:RO}(hij:i<j)(hj:r[j]?=some ro)(hh:((S (i+1)).wr=true/\(S (j+1)).rd=true)\/((S (i+1)).rd=true/\(S (j+1)).wr=true)):ro.pre.testBit i=true:=by
 have hlt:=(cD.1 hj).1;have hri:(S (i+1)).rd=true:=by
  rcases hh with⟨h1,_⟩|⟨h1,_⟩
  ·exact t.yZ aa h1
  ·exact h1
 have hrj:(S (j+1)).rd=true:=by
  rcases hh with⟨_,h1⟩|⟨_,h1⟩
  ·exact h1
  ·exact t.yZ hlt h1
 rcases(t.cases hj).2 with⟨_,_,_,_,e,_⟩|⟨_,_,_,e,_⟩|⟨_,_,_,g1,_,_,_,e4,_⟩
 ·rw[e]at hrj;cases hrj
 ·rw[e]at hrj;cases hrj
 ·refine xf e4 (t.rw' j aa i hij hri) ?_;rcases hh with⟨h1,_⟩|⟨_,h1⟩<;>simp[h1]
theorem stay{k x:Nat}:∀{y:Nat},x<=y->(∀i,x<=i->i<y->(S (i+1)).h.get k=(S i).h.get k)->(S y).h.get k=(S x).h.get k:=fun {y} hxy=>by
 induction y with
 |zero=>intro _;rw[show x=0 by omega]
 |succ y ih=>
  intro hh;by_cases hx:x=y+1
  ·rw[hx]
  ·rw[hh y aa aa,ih aa fun i h1 h2=>hh i h1 aa]
theorem Trace.owner(t:Trace rec r tm h tm' h' S){k:Nat}:∀{j:Nat},(S 0).h.next<=k->k<(S j).h.next->∃q,q<j/\(S q).h.next<=k/\k<(S (q+1)).h.next
 |0,h1,h2=>by omega
 |j+1,h1,h2=>by
  by_cases hk:k<(S j).h.next
  ·obtain⟨q,q1,q2⟩:=t.owner h1 hk;exact⟨q,by omega,q2⟩
  ·exact⟨j,by omega,by omega,h2⟩
structure QO(P:Program)(S:Nat->SD)(ops:Array Oper)(j:Nat)(o:Oper)(pre:Nat)(G h1:H):Prop where
 nx:G.next=(S j).h.next
 nx1:h1.next=(S (j+1)).h.next
 g1:∀k b,G.get k=some b->k<(S j).h.next/\(S j).h.get k=some b/\(S (j+1)).rd=true/\∀q,q<j->(S q).h.next<=k->k<(S (q+1)).h.next->pre.testBit q=true
 g2:∀k b,(S j).h.next<=k->(S (j+1)).h.get k=some b->h1.get k=some b
 g3:∀k,G.live k->(S (j+1)).h.get k=h1.get k
 g4:∀k,k<(S j).h.next->¬G.live k->(S (j+1)).h.get k=(S j).h.get k
 g5:(S (j+1)).wr=false->∀k,G.live k->h1.get k=G.get k
 low:∀k,G.live k->h1.low<=k->(S (j+1)).h.low<=k
 bd:(S j).h.next<=1000000
 wp:∀(F:Fence) (_:FC F) (Q:Exit->Act->World->Prop) (K:Act->World->Prop) (A:Nat->Prop) (ρ:Nat->Nat) (w:World) (a:Act),Rel P A ρ w G->Dj A G h1->(∀u,u∈looks ops o->VR P A ρ w (CO.ev (S j).tm (CO.t u)) (a.tmps.getD u undef))->
  (∀u w' ρ',cQ P A ρ w G ρ' w' h1->VR P (Ext A G h1) ρ' w' (S (j+1)).v u->K (a.put o.dst u) w')->wpOpIn F 0 P ops Q j K a w
def bare(k:Nat):H:=⟨k,k,[],.e⟩
theorem uA(k j:Nat):(bare k).get j=none:=by
 unfold H.get bare;simp only[ew,T.zY]
theorem mA(k j:Nat):¬(bare k).live j:=by unfold H.live;rw[uA];simp
theorem EI{A:Nat->Prop}{ρ:Nat->Nat}{w:World}{a:Act}{o:Oper}{tm:Tm}(hl:∀u,u∈looks ops o->VR P A ρ w (CO.ev tm (CO.t u)) (a.tmps.getD u undef)):HV P A ρ w tm a o:=fun y hy=>by
 cases y with
 |tmp u=>
  have:=hl u (by
   unfold looks;exact List.mem_append_right _ (List.mem_filterMap.2 ⟨.tmp u,by simpa using hy,rfl⟩))
  unfold OpV;simpa[aP,Act.eval]using this
 |const v=>exact BO v
 |global g=>simp only[OpV,aP,CO.ev,VR]
 |func g=>
  show VR P A ρ w (.fn g []) (.func (.func g) #[] #[]);simp only[VR,VRl];exact⟨_,rfl,rfl⟩
theorem Ru(hrec:nv P rec)(hg:fF rec)(t:Trace rec r tm h tm' h' S)(st:Stat P n ops r)(f:Wf h){j:Nat}{o:Oper}(ho:ops[j]?=some o):∃ro G h1,r[j]?=some ro/\cZ n o.dst=true/\(S (j+1)).tm=kR (S j).tm o.dst (S (j+1)).v/\QO P S ops j o ro.pre G h1:=by
 obtain⟨g,p,hr,hdst,hgd⟩:=st.row j o ho;have hjl:j<r.length:=(cD.1 hr).1;obtain⟨f1,_⟩:=t.gd hg f j aa;obtain⟨ht,hcs⟩:=t.cases hr;have hwant:∀(A:Nat->Prop) (ρ:Nat->Nat) (w:World) (a:Act) (b:Bool),ll ⟨o.dst,g,(match ba P o.op with|some x=>x|none=> .bad),p⟩ (S j).tm=some b->(∀u,u∈looks ops o->VR P A ρ w (CO.ev (S j).tm (CO.t u)) (a.tmps.getD u undef))->Region.wanted o (yielded ops a.tmps)=b:=fun A ρ w a b hw hl=>by
  refine tI (P:=P) (A:=A) (ρ:=ρ) (w:=w) hgd hw fun u c hc=>hl u ?_;unfold looks;refine List.mem_append_left _ ?_
  cases hog:o.guard with
  |none=>rw[hog]at hgd;simp only[ak]at hgd;rw[<-hgd]at hc;cases hc
  |some q=>
   obtain⟨q1,q2⟩:=q;rw[hog]at hgd;simp only at hgd⊢;obtain⟨u',e1,e2⟩:=aD hgd;rw[hc]at e2;simp only[ak,aJ]at e2;rw[e1,e2.1];simp
 rcases hcs with⟨hw,hv,hh,hwr,hrd,_⟩|⟨hw,hT,hwr,hrd,_,ob,e1,e2,_⟩|⟨hw,hT,hrd,h1,e1,e2,e3,e4,_⟩
 ·refine⟨_,bare (S j).h.next,bare (S j).h.next,hr,hdst,ht,rfl,(by rw[hh];rfl),(fun k b e=>by rw[uA]at e;cases e),fun k b hk e=>?_,fun k hl=>absurd hl (mA _ _),(fun k _ _=>by rw[hh]),fun _ k hl=>absurd hl (mA _ _),fun k hl=>absurd hl (mA _ _),f1.bd,fun F hF Q K A ρ w a tR hd hl hK=>?_⟩
  ·rw[hh]at e;have:=f1.lt k b (kW e);omega
  ·unfold wpOpIn;simp only[ho];rw[hwant A ρ w a false hw hl,ai aV];exact⟨fun g _=>hF.fn g,hK undef w ρ (cQ.refl tR) (by rw[hv];simp only[VR])⟩
 ·obtain ⟨h1, e3⟩ : ∃ h1, (bare (S j).h.next).nu ob = some h1 := by
   cases ob with
   |none=>exact⟨_,rfl⟩
   |some b=>
    have:=(dD e2).2.2.2.1;exact⟨_,by
     show(bare (S j).h.next).new b=_;unfold H.new bare;rw[(by simpa[bA]using this:Nat.blt (S j).h.next 1000000=true)]⟩
  have hcc:=Cw (P:=P) (o:=o) rfl (.inr fun e5=>by
   have e6:=(iq (fun x=>xT x (S j).tm (S j).h.next) e5).symm.trans e1;rw[KC]at e6;cases e6)
  have hn1:h1.next=(S (j+1)).h.next:=by
   cases ob with
   |none=>
    simp only[H.nu,ak]at e2 e3;rw[<-e2,<-e3];rfl
   |some b=>rw[(dD e3).1,(dD e2).1];rfl
  refine⟨_,bare (S j).h.next,h1,hr,hdst,ht,rfl,hn1,(fun k b e=>by rw[uA]at e;cases e),fun k b hk e=>?_,fun k hl=>absurd hl (mA _ _),fun k hk _=>yi e2 hk,fun _ k hl=>absurd hl (mA _ _),fun k hl=>absurd hl (mA _ _),f1.bd,fun F hF Q K A ρ w a tR hd hl hK=>?_⟩
  ·cases ob with
   |none=>
    simp only[H.nu,ak]at e2;rw[<-e2]at e;have:=f1.lt k b (kW e);omega
   |some b'=>
    obtain⟨q1,q2,q3,q4,q5⟩:=dD e2;obtain⟨s1,s2,s3,s4,s5⟩:=dD e3;have e':=kW e;rw[q5]at e';split at e'
    ·next hk'=>
     simp only[ak]at e';subst e';unfold H.get;rw[s3];simp only[bare,ew];rw[s5];exact an hk'
    ·have:=f1.lt k b e';omega
  ·unfold wpOpIn;simp only[ho];rw[hwant A ρ w a true hw hl,an rfl];exact JX hF (qs ⟨_,hcc⟩) (t_me (h:=bare (S j).h.next) hcc hT e1 e3 (EI hl) tR hd) hK
 ·have hcc:=Cw (P:=P) (o:=o) rfl (.inl hT);have gp:=qM hg (nK f1) e1;have hout:∀k,(S j).h.next<=k->ew k (kF p (S j).iv (S j).h.forb)=ew k (S j).h.forb:=fun k hk=>B4 fun x hx=>by
   obtain⟨q,hq,rfl⟩:=(t.iv j aa).1 x hx;have:=t.mono hg f (show q+1<=j by omega) aa;simp only;omega
  refine⟨_,(S j).h.part p (S j).iv,h1,hr,hdst,ht,rfl,(by rw[e2];rfl),fun k b e=>⟨f1.lt k b (kW (tW e)),tW e,hrd,fun q hq q1 q2=>?_⟩,fun k b hk e=>?_,fun k hl=>?_,fun k hk hl=>?_,fun hw0 k hl=>?_,fun k _ hlo=>?_,f1.bd,fun F hF Q K A ρ w a tR hd hl hK=>?_⟩
  ·cases hp:p.testBit q with
   |true=>rfl
   |false=>
    have:=lV (bH e);rw[show((S j).h.part p (S j).iv).forb=kF p (S j).iv (S j).h.forb from rfl,vE ((t.iv j aa).2 q hq aa) hp q1 q2]at this;cases this
  ·rw[e2]at e;have hf:=gp.good.forb;unfold H.get at e⊢;rw[hf,show((S j).h.part p (S j).iv).forb=kF p (S j).iv (S j).h.forb from rfl,hout k hk];exact e
  ·rw[e2];have hb:=lV hl;have hb2:ew k (S j).h.forb=false:=kU p k _ _ hb;unfold H.get;rw[gp.good.forb,hb];show(match ew k (S j).h.forb with|true=>none|false=>T.get h1.t k)=_;rw[hb2]
  ·rw[e2];exact va (gp.good.dead k hk hl)
  ·have hk : k < (S j).h.next := by
    obtain⟨b,eb⟩:=cT.1 hl;exact f1.lt k b (kW (tW eb))
   rw[e3]at hw0;refine zX gp.good.forb (gp.good.keep k hk (aX hk (dG fun hlt=>?_)));rw[<-bA]at hlt;rw[hlt]at hw0;cases hw0
  ·rw[e2];exact aA (BC _ _).2 hlo
  ·unfold wpOpIn;simp only[ho];rw[hwant A ρ w a true hw hl,an rfl];exact r_wp hrec hF hcc hT e1 (nK f1) (EI hl) tR hd hK
end CI
end
section
open Go.RowKit
namespace CI
variable {P : Program} {h h' : H} {tm tm' : Tm} {rec : Rec} {n : Nat} {r : List RO} {S : Nat->SD} {ops : Array Oper} {A : Nat->Prop} {ρ ρ1 ρ2 : Nat->Nat} {w w1 w2 : World} {a : Act} {ds : List Nat} {L : Nat->Prop} {s j : Nat}
def AL(A:Nat->Prop)(S:Nat->SD)(L:Nat->Prop)(k:Nat):Prop:=A k\/∃i,L i/\(S i).h.next<=k/\k<(S (i+1)).h.next
def Lv(S:Nat->SD)(L:Nat->Prop)(s k:Nat)(b:B):Prop:=(k<(S 0).h.next/\(S s).h.get k=some b)\/∃i,L i/\(S i).h.next<=k/\k<(S (i+1)).h.next/\(S (max s (i+1))).h.get k=some b
structure Inv(P:Program)(S:Nat->SD)(ops:Array Oper)(r:List RO)(h':H)(n:Nat)(ds:List Nat)(A:Nat->Prop)(ρ:Nat->Nat)(w:World)(L:Nat->Prop)(s:Nat)(ρ1:Nat->Nat)(a:Act)(w1:World):Prop where
 cl:∀i ro q,L i->r[i]?=some ro->ro.pre.testBit q=true->L q
 lN:∀i,L i->i<r.length
 s0:s<=r.length
 sl:∀i,i<s->(S (i+1)).wr=true->L i
 sr:∀i,s<=i->i<r.length->(S (i+1)).wr=true->¬L i
 tmv:∀t,(∃i o,L i/\ops[i]?=some o/\o.dst=some t/\(∀i' o',L i'->i<i'->ops[i']?=some o'->o'.dst≠some t)/\VR P (AL A S L) ρ1 w1 (S (i+1)).v (a.tmps.getD t undef))\/
  ((∀i o,L i->ops[i]?=some o->o.dst≠some t)/\VR P (AL A S L) ρ1 w1 (CO.ev (S 0).tm (CO.t t)) (a.tmps.getD t undef))
 sz:a.tmps.size=n
 df:a.defers=ds.map (vH ρ)
 blk:∀k b,Lv S L s k b->ρ1 k<w1.heap.size/\BR P (AL A S L) ρ1 w1 (ρ1 k) b
 inj:∀k b k' b',Lv S L s k b->Lv S L s k' b'->ρ1 k=ρ1 k'->k=k'
 lt:Lt w w1
 fr:∀b,b<w.heap.size->(∀k,(S 0).h.live k->h'.low<=k->ρ k≠b)->w1.heap[b]?=w.heap[b]?
 rho:∀k,(k<(S 0).h.next\/h'.next<=k)->ρ1 k=ρ k
 new:∀k b,Lv S L s k b->(S 0).h.next<=k->w.heap.size<=ρ1 k\/∃i,(S 0).h.live i/\h'.low<=i/\ρ1 k=ρ i
theorem JC(t:Trace rec r tm h tm' h' S)(st:Stat P n ops r)(hn:n<1000000)(u:Nat):∀j,j<=r.length->(∃i o,i<j/\ops[i]?=some o/\o.dst=some u/\(∀i' o',i'<j->i<i'->ops[i']?=some o'->o'.dst≠some u)/\CO.ev (S j).tm (CO.t u)=(S (i+1)).v)\/
  ((∀i o,i<j->ops[i]?=some o->o.dst≠some u)/\CO.ev (S j).tm (CO.t u)=CO.ev (S 0).tm (CO.t u))
 |0,_=> .inr ⟨fun i o hi=>by omega,rfl⟩
 |j+1,hj=>by
  have hjo:j<ops.size:=by rw[<-st.len];omega
  obtain⟨o,ho⟩:∃o,ops[j]?=some o:=⟨_,lC hjo⟩;obtain⟨g,p,hr,hdst,_⟩:=st.row j o ho;have ht:=(t.cases hr).1;have ih:=JC t st hn u j aa;by_cases hd:o.dst=some u
  ·refine .inl ⟨j,o,by omega,ho,hd,fun i' o' h1 h2=>by omega,?_⟩;have hu:u<n:=by rw[hd]at hdst;simpa[cZ,bA]using hdst
   rw[ht];simp only[kR,hd];rw[Ab (t:=u) aa,an rfl]
  ·have hsame : CO.ev (S (j + 1)).tm (CO.t u) = CO.ev (S j).tm (CO.t u) := by
    rw[ht]
    cases hdd:o.dst with
    |none=>rfl
    |some v=>
     have hv:v<n:=by rw[hdd]at hdst;simpa[cZ,bA]using hdst
     simp only[kR];rw[Ab (t:=v) (Nat.lt_trans hv hn),ai (fun e=>hd (by rw[hdd,e]))]
   rcases ih with⟨i,o',h1,h2,h3,h4,h5⟩|⟨h1,h2⟩
   ·refine .inl ⟨i,o',by omega,h2,h3,fun i' o'' k1 k2 k3=>?_,by rw[hsame,h5]⟩;rcases rL.1 k1 with k|k
    ·exact h4 i' o'' k k2 k3
    ·subst k;rw[ho]at k3;simp only[ak]at k3;rw[<-k3];exact hd
   ·refine .inr ⟨fun i o' k1 k2=>?_,by rw[hsame,h2]⟩;rcases rL.1 k1 with k|k
    ·exact h1 i o' k k2
    ·subst k;rw[ho]at k2;simp only[ak]at k2;rw[<-k2];exact hd
section
variable (t : Trace rec r tm h tm' h' S) (st : Stat P n ops r) (hg : fF rec) (f : Wf h)
theorem Inv.slots(I:Inv P S ops r h' n ds A ρ w L s ρ1 a w1)(t:Trace rec r tm h tm' h' S)(st:Stat P n ops r)(hn:n<1000000){o:Oper}{ro:RO}(ho:ops[j]?=some o)(hr:r[j]?=some ro)(hj:¬L j)(hpre:∀q,ro.pre.testBit q=true->L q):∀u,u∈looks ops o->VR P (AL A S L) ρ1 w1 (CO.ev (S j).tm (CO.t u)) (a.tmps.getD u undef):=fun u hu=>by
 have hjl:j<r.length:=(cD.1 hr).1;have later:∀i o',L i->j<i->ops[i]?=some o'->o'.dst≠some u:=fun i o' hL hji hi hd=>by
  obtain⟨ro',hro'⟩:∃ro',r[i]?=some ro':=⟨_,aZ (I.lN i hL)⟩;exact hj (I.cl i ro' j hL hro' (st.tmp j i o o' ro' u hji ho hi hro' (.inr (.inl ⟨hd,hu⟩))))
 rcases JC t st hn u j aa with⟨i,o',h1,h2,h3,h4,h5⟩|⟨h1,h2⟩
 ·have hLi:L i:=hpre i (st.tmp i j o' o ro u h1 h2 ho hr (.inl ⟨h3,hu⟩));rw[h5];rcases I.tmv u with⟨i',o'',k1,k2,k3,k4,k5⟩|⟨k1,k2⟩
  ·have : i' = i := by
    rcases mJ i i' with e|e|e
    ·exfalso;rcases mJ i' j with e2|e2|e2
     ·exact h4 i' o'' e2 e k2 k3
     ·exact hj (e2▸k1)
     ·exact later i' o'' k1 e2 k2 k3
    ·exact e.symm
    ·exact absurd h3 (k4 i o' hLi e h2)
   subst this;exact k5
  ·exact absurd h3 (k1 i o' hLi h2)
 ·rw[h2];rcases I.tmv u with⟨i',o'',k1,k2,k3,k4,k5⟩|⟨k1,k2⟩
  ·exfalso;rcases mJ i' j with e2|e2|e2
   ·exact h1 i' o'' e2 k2 k3
   ·exact hj (e2▸k1)
   ·exact later i' o'' k1 e2 k2 k3
  ·exact k2
theorem Inv.quiet(I:Inv P S ops r h' n ds A ρ w L s ρ1 a w1)(t:Trace rec r tm h tm' h' S){ro:RO}(hr:r[j]?=some ro)(hj:¬L j)(hpre:∀q,ro.pre.testBit q=true->L q)(hrd:(S (j+1)).rd=true):
  (∀i,s<=i->i<j->(S (i+1)).wr=false)/\(∀i,j<=i->i<s->(S (i+1)).wr=false):=by
 have hjl:j<r.length:=(cD.1 hr).1;refine⟨fun i h1 h2=>?_,fun i h1 h2=>?_⟩
 ·cases hw:(S (i+1)).wr with
  |false=>rfl
  |true=>exact absurd (hpre i (t.bound h2 hr (.inl ⟨hw,hrd⟩))) (I.sr i h1 aa hw)
 ·cases hw:(S (i+1)).wr with
  |false=>rfl
  |true=>
   exfalso;have hLi:=I.sl i h2 hw;have hne:i≠j:=fun e=>hj (e▸hLi);obtain⟨ro',hro'⟩:∃ro',r[i]?=some ro':=⟨_,aZ (I.lN i hLi)⟩;exact hj (I.cl i ro' j hLi hro' (t.bound aa hro' (.inr ⟨hrd,hw⟩)))
theorem js(t:Trace rec r tm h tm' h' S)(hg:fF rec)(f:Wf h){x y k:Nat}(hxy:x<=y)(hy:y<=r.length)(hk:k<(S x).h.next)(hw:∀i,x<=i->i<y->(S (i+1)).wr=false):(S y).h.get k=(S x).h.get k:=
 stay hxy fun i h1 h2=>t.Qs hg f aa (hw i h1 h2) (aX hk (t.mono hg f h1 aa))
end
end CI
end
section
open Go.RowKit
namespace CI
variable {P : Program} {h h' : H} {tm tm' : Tm} {rec : Rec} {n : Nat} {r : List RO} {S : Nat->SD} {ops : Array Oper} {A : Nat->Prop} {ρ ρ1 ρ2 : Nat->Nat} {w w1 w2 : World} {a : Act} {ds : List Nat} {L : Nat->Prop} {s j : Nat} {o : Oper} {ro : RO} {G h1 : H}
structure oU(rec:Rec)(P:Program)(S:Nat->SD)(ops:Array Oper)(r:List RO)(tm:Tm)(h:H)(tm':Tm)(h':H)(n:Nat)(A:Nat->Prop)(L:Nat->Prop)(j:Nat)(o:Oper)(ro:RO)(G h1:H):Prop where
 t:Trace rec r tm h tm' h' S
 st:Stat P n ops r
 hg:fF rec
 f:Wf h
 hn:n<1000000
 ho:ops[j]?=some o
 hr:r[j]?=some ro
 hj:¬L j
 pre:∀q,ro.pre.testBit q=true->L q
 dst:cZ n o.dst=true
 sg:QO P S ops j o ro.pre G h1
 dj:Dj A h h'
 nm:∀k,h.live k->A k
theorem Lv.uniq(t:Trace rec r tm h tm' h' S)(hg:fF rec)(f:Wf h)(hL:∀i,L i->i<r.length){k:Nat}{b b':B}(e:Lv S L s k b)(e':Lv S L s k b'):b=b':=by
 have m0:∀i,L i->(S 0).h.next<=(S i).h.next:=fun i hi=>t.mono hg f (bg _) (bN (hL i hi))
 rcases e with⟨h1,e⟩|⟨i,hi,a1,a2,e⟩<;>rcases e' with⟨h1',e'⟩|⟨i',hi',a1',a2',e'⟩
 ·rw[e]at e';simpa using e'
 ·have:=m0 i' hi';omega
 ·have:=m0 i hi;omega
 ·have : i = i' := by
   rcases mJ i i' with x|x|x
   ·have:=t.mono hg f (show i+1<=i' from x) (bN (hL i' hi'));omega
   ·exact x
   ·have:=t.mono hg f (show i'+1<=i from x) (bN (hL i hi));omega
  subst this;rw[e]at e';simpa using e'
section
variable (M : oU rec P S ops r tm h tm' h' n A L j o ro G h1)
theorem oU.jl(M:oU rec P S ops r tm h tm' h' n A L j o ro G h1):j<r.length:=(cD.1 M.hr).1
theorem oU.mono(M:oU rec P S ops r tm h tm' h' n A L j o ro G h1){x y:Nat}(h1:x<=y)(h2:y<=r.length):(S x).h.next<=(S y).h.next:=M.t.mono M.hg M.f h1 h2
theorem Inv.rD(I:Inv P S ops r h' n ds A ρ w L s ρ1 a w1)(M:oU rec P S ops r tm h tm' h' n A L j o ro G h1){k:Nat}{b:B}(e:G.get k=some b):Lv S L s k b:=by
 obtain⟨k1,k2,k3,k4⟩:=M.sg.g1 k b e;obtain⟨q1,q2⟩:=I.quiet M.t M.hr M.hj M.pre k3;have jl:=M.jl;by_cases hk:k<(S 0).h.next
 ·refine .inl ⟨hk,?_⟩;rcases Nat.le_total s j with hs|hs
  ·rw[<-js M.t M.hg M.f hs aa (aX hk (M.mono (bg _) I.s0)) q1];exact k2
  ·rw[js M.t M.hg M.f hs I.s0 k1 q2];exact k2
 ·obtain⟨q,hq,a1,a2⟩:=M.t.owner (dG hk) k1;refine .inr ⟨q,M.pre q (k4 q hq a1 a2),a1,a2,?_⟩;rcases Nat.le_total s j with hs|hs
  ·rw[<-js M.t M.hg M.f (x:=max s (q+1)) (y:=j) aa aa (aX a2 (M.mono aa aa)) (fun i i1 i2=>q1 i aa i2)];exact k2
  ·rw[show max s (q+1)=s by omega,js M.t M.hg M.f hs I.s0 k1 q2];exact k2
theorem Inv.nmA(I:Inv P S ops r h' n ds A ρ w L s ρ1 a w1)(M:oU rec P S ops r tm h tm' h' n A L j o ro G h1){k:Nat}{b:B}(e:Lv S L s k b):AL A S L k:=by
 rcases e with⟨hk,e⟩|⟨i,hi,a1,a2,_⟩
 ·refine .inl (M.nm k ?_);have g:=(M.t.gd M.hg M.f s I.s0).2;rw[M.t.h0]at hk;exact g.good.back hk (bH e)
 ·exact .inr ⟨i,hi,a1,a2⟩
theorem Inv.rel(I:Inv P S ops r h' n ds A ρ w L s ρ1 a w1)(M:oU rec P S ops r tm h tm' h' n A L j o ro G h1):Rel P (AL A S L) ρ1 w1 G:=by
 refine⟨fun k b e=>?_,fun k k' hl hl' e=>?_,by rw[M.sg.nx];exact M.sg.bd⟩
 ·have hlv:=I.rD M e;obtain⟨b1,b2⟩:=I.blk k b hlv;exact⟨by rw[M.sg.nx];exact(M.sg.g1 k b e).1,I.nmA M hlv,b1,b2⟩
 ·obtain⟨b,eb⟩:=cT.1 hl;obtain⟨b',eb'⟩:=cT.1 hl';exact I.inj k b k' b' (I.rD M eb) (I.rD M eb') e
theorem Inv.dj(I:Inv P S ops r h' n ds A ρ w L s ρ1 a w1)(M:oU rec P S ops r tm h tm' h' n A L j o ro G h1):Dj (AL A S L) G h1:=fun k hk=>by
 have jl:=M.jl;rw[M.sg.nx,M.sg.nx1];rcases hk with hk|⟨i,hi,a1,a2⟩
 ·have e1:(S 0).h.next=h.next:=by rw[M.t.h0]
  have e2:(S r.length).h.next=h'.next:=by rw[M.t.hN]
  have m1:=M.mono (bg j) aa;have m2:=M.mono (show j+1<=r.length by omega) (af _);have:=M.dj k hk;omega
 ·rcases mJ i j with x|x|x
  ·have:=M.mono (show i+1<=j from x) aa;omega
  ·exact absurd (x▸hi) M.hj
  ·have:=M.mono (show j+1<=i from x) (bN (I.lN i hi));omega
def qS(S:Nat->SD)(s j:Nat):Nat:=if(S (j+1)).wr=true then j+1 else s
theorem Inv.wG(I:Inv P S ops r h' n ds A ρ w L s ρ1 a w1)(M:oU rec P S ops r tm h tm' h' n A L j o ro G h1){k:Nat}{b:B}(e:Lv S (fun i=>L i\/i=j) (qS S s j) k b):
  (h1.get k=some b/\(G.live k\/((S j).h.next<=k/\k<(S (j+1)).h.next)))\/(¬G.live k/\¬((S j).h.next<=k/\k<(S (j+1)).h.next)/\Lv S L s k b):=by
 have jl:=M.jl;have hwr:(S (j+1)).wr=true->s<=j/\∀i,s<=i->i<j->(S (i+1)).wr=false:=fun hw=>
  ⟨dG fun hlt=>M.hj (I.sl j hlt hw),(I.quiet M.t M.hr M.hj M.pre (M.t.yZ jl hw)).1⟩
 have hs':((S (j+1)).wr=true/\qS S s j=j+1)\/((S (j+1)).wr=false/\qS S s j=s):=by
  unfold qS
  cases hw:(S (j+1)).wr with
  |true=>exact .inl ⟨rfl,by simp⟩
  |false=>exact .inr ⟨rfl,by simp⟩
 have hlive:G.live k->(S (j+1)).wr=false->Lv S L s k b->h1.get k=some b:=fun hG hw hl=>by
  obtain⟨b0,eb⟩:=cT.1 hG;have:=Lv.uniq M.t M.hg M.f I.lN hl (I.rD M eb);rw[M.sg.g5 hw k hG,eb,this]
 rcases e with⟨hk,e⟩|⟨i,hi,a1,a2,e⟩
 ·have hkj:k<(S j).h.next:=aX hk (M.mono (bg _) aa)
  by_cases hG:G.live k
  ·refine .inl ⟨?_, .inl hG⟩;rcases hs' with⟨hw,hs⟩|⟨hw,hs⟩
   ·rw[hs,M.sg.g3 k hG]at e;exact e
   ·rw[hs]at e;exact hlive hG hw (.inl ⟨hk,e⟩)
  ·refine .inr ⟨hG,by omega, .inl ⟨hk,?_⟩⟩;rcases hs' with⟨hw,hs⟩|⟨hw,hs⟩
   ·obtain⟨q1,q2⟩:=hwr hw;rw[hs,M.sg.g4 k hkj hG,js M.t M.hg M.f q1 aa (aX hk (M.mono (bg _) I.s0)) q2]at e;exact e
   ·rw[hs]at e;exact e
 ·rcases hi with hi|hi
  ·have hij:i≠j:=fun x=>M.hj (x▸hi);have hni:¬((S j).h.next<=k/\k<(S (j+1)).h.next):=fun hx=>by
    rcases De hij with x|x
    ·have:=M.mono (show i+1<=j from x) aa;omega
    ·have:=M.mono (show j+1<=i from x) (bN (I.lN i hi));omega
   by_cases hG:G.live k
   ·obtain⟨b0,eb⟩:=cT.1 hG;have hkj:=(M.sg.g1 k b0 eb).1;have hlt:i<j:=by
     rcases De hij with x|x
     ·exact x
     ·have h1:=M.mono (show j+1<=i from x) (bN (I.lN i hi));have h2:=M.mono (show j<=j+1 by omega) aa;omega
    refine .inl ⟨?_, .inl hG⟩;rcases hs' with⟨hw,hs⟩|⟨hw,hs⟩
    ·rw[hs,show max (j+1) (i+1)=j+1 by omega,M.sg.g3 k hG]at e;exact e
    ·rw[hs]at e;exact hlive hG hw (.inr ⟨i,hi,a1,a2,e⟩)
   ·refine .inr ⟨hG,hni, .inr ⟨i,hi,a1,a2,?_⟩⟩;rcases hs' with⟨hw,hs⟩|⟨hw,hs⟩
    ·obtain⟨q1,q2⟩:=hwr hw;rcases De hij with x|x
     ·rw [hs, show max (j + 1) (i + 1) = j + 1 by omega, M.sg.g4 k (aX a2 (M.mono (show i + 1 <= j from x) (by omega))) hG,
       js M.t M.hg M.f (x:=max s (i+1)) (y:=j) aa aa (aX a2 (M.mono aa aa)) (fun i' i1 i2=>q2 i' aa i2)]at e
      exact e
     ·rw[hs,show max (j+1) (i+1)=max s (i+1) by omega]at e;exact e
    ·rw[hs]at e;exact e
  ·subst hi;refine .inl ⟨?_, .inr ⟨a1,a2⟩⟩;rcases hs' with⟨hw,hs⟩|⟨hw,hs⟩
   ·rw[hs,show max (i+1) (i+1)=i+1 by omega]at e;exact M.sg.g2 k b a1 e
   ·rw[hs,stay (x:=i+1) (y:=max s (i+1)) aa (fun x x1 x2=>?_)]at e
    ·exact M.sg.g2 k b a1 e
    ·have hxs:x<s:=by omega
     have hxr:x<r.length:=aX hxs I.s0
     cases hwx:(S (x+1)).wr with
     |false=>exact M.t.Qs M.hg M.f hxr hwx (aX a2 (M.mono x1 aa))
     |true=>
      obtain⟨rx,hrx⟩:∃rx,r[x]?=some rx:=⟨_,aZ hxr⟩;refine M.t.keepO M.hg M.f hrx (show i<x by omega) ?_ a1 a2
      cases hp:rx.pre.testBit i with
      |false=>rfl
      |true=>exact absurd (I.cl x rx i (I.sl x hxs hwx) hrx hp) M.hj
end
end CI
end
section
open Go.RowKit
namespace CI
variable {P : Program} {h h' : H} {tm tm' : Tm} {rec : Rec} {n : Nat} {r : List RO} {S : Nat->SD} {ops : Array Oper} {A : Nat->Prop} {ρ ρ1 ρ2 : Nat->Nat} {w w1 w2 : World} {a : Act} {ds : List Nat} {L : Nat->Prop} {s j : Nat} {o : Oper} {ro : RO} {G h1 : H}
theorem Lj{dst:Option Tmp}{t:Nat}{u:Value}(h:dst≠some t):(a.put dst u).tmps.getD t undef=a.tmps.getD t undef:=by
 cases dst with
 |none=>rfl
 |some d=>
  have hne:d≠t:=fun e=>h (by rw[e]);simp only[Act.put,cV,Dh hne]
theorem N4{t:Nat}{u:Value}(ht:t<a.tmps.size):(a.put (some t) u).tmps.getD t undef=u:=by
 simp only[Act.put,cV,rR];simp[ht]
theorem Inv.step(I:Inv P S ops r h' n ds A ρ w L s ρ1 a w1)(M:oU rec P S ops r tm h tm' h' n A L j o ro G h1){u:Value}(p:cQ P (AL A S L) ρ1 w1 G ρ2 w2 h1)(hu:VR P (Ext (AL A S L) G h1) ρ2 w2 (S (j+1)).v u):
  Inv P S ops r h' n ds A ρ w (fun i=>L i\/i=j) (qS S s j) ρ2 (a.put o.dst u) w2:=by
 have jl:=M.jl;have hdj:=I.dj M;have hmo:Mo (AL A S L) (AL A S fun i=>L i\/i=j) ρ1 ρ2:=⟨fun k hk=>hk.imp id fun ⟨i,hi,hx⟩=>⟨i, .inl hi,hx⟩,(p.mo hdj).eq⟩;have hmo2:Mo (Ext (AL A S L) G h1) (AL A S fun i=>L i\/i=j) ρ2 ρ2:=⟨fun k hk=>by
  rcases hk with hk|hk
  ·exact hmo.sub k hk
  ·rw[M.sg.nx,M.sg.nx1]at hk;exact .inr ⟨j, .inr rfl,hk⟩,fun _ _=>rfl⟩
 have hs':((S (j+1)).wr=true/\qS S s j=j+1)\/((S (j+1)).wr=false/\qS S s j=s):=by
  unfold qS
  cases hw:(S (j+1)).wr with
  |true=>exact .inl ⟨rfl,by simp⟩
  |false=>exact .inr ⟨rfl,by simp⟩
 have after:∀i,L i->∀rx,r[i]?=some rx->rx.pre.testBit j=true->False:=fun i hi rx hrx hp=>M.hj (I.cl i rx j hi hrx hp);have hframe:∀k b,Lv S L s k b->¬G.live k->w2.heap[ρ1 k]?=w1.heap[ρ1 k]?:=fun k b hl hG=>p.fr _ (I.blk k b hl).1 fun k' hl' _ e=>by
  obtain⟨b',eb'⟩:=cT.1 hl';have:=I.inj k' b' k b (I.rD M eb') hl e;subst this;exact hG hl'
 have hrho:∀k b,Lv S L s k b->ρ2 k=ρ1 k:=fun k b hl=>hmo.eq k (I.nmA M hl);have hbN:h'.next=(S r.length).h.next:=by rw[M.t.hN]
 refine⟨fun i rx q hi hrx hp=>?_,fun i hi=>?_,?_,fun i hi hw=>?_,fun i hi hir hw hL=>?_,fun t=>?_,?_,?_,fun k b e=>?_,fun k b k' b' e e' hk=>?_,I.lt.trans p.lt,fun b hb hn=>?_,fun k hk=>?_,fun k b e hk=>?_⟩
 ·rcases hi with hi|hi
  ·exact .inl (I.cl i rx q hi hrx hp)
  ·subst hi;rw[M.hr]at hrx;simp only[ak]at hrx;subst hrx;exact .inl (M.pre q hp)
 ·rcases hi with hi|hi
  ·exact I.lN i hi
  ·rw[hi];exact jl
 ·rcases hs' with⟨_,e⟩|⟨_,e⟩<;>rw[e]
  ·exact jl
  ·exact I.s0
 ·rcases hs' with⟨hwj,e⟩|⟨_,e⟩<;>rw[e]at hi
  ·rcases rL.1 hi with x|x
   ·exact .inl (M.pre i (M.t.bound x M.hr (.inl ⟨hw,M.t.yZ jl hwj⟩)))
   ·exact .inr x
  ·exact .inl (I.sl i hi hw)
 ·rcases hs' with⟨hwj,e⟩|⟨hwj,e⟩<;>rw[e]at hi
  ·rcases hL with hL|hL
   ·obtain⟨rx,hrx⟩:∃rx,r[i]?=some rx:=⟨_,aZ hir⟩;exact after i hL rx hrx (M.t.bound (show j<i by omega) hrx (.inl ⟨hwj,M.t.yZ hir hw⟩))
   ·omega
  ·rcases hL with hL|hL
   ·exact I.sr i hi hir hw hL
   ·subst hL;rw[hw]at hwj;cases hwj
 ·by_cases hd:o.dst=some t
  ·have ht:t<n:=by have:=M.dst;rw[hd]at this;simpa[cZ,bA]using this
   refine .inl ⟨j,o, .inr rfl,M.ho,hd,fun i' o' hi' hlt ho' hd'=>?_,?_⟩
   ·rcases hi' with hi'|hi'
    ·obtain⟨rx,hrx⟩:∃rx,r[i']?=some rx:=⟨_,aZ (I.lN i' hi')⟩;exact after i' hi' rx hrx (M.st.tmp j i' o o' rx t hlt M.ho ho' hrx (.inr (.inr ⟨hd',hd⟩)))
    ·omega
   ·rw[hd,N4 (by rw[I.sz];exact ht)];exact VR.mo hmo2 (Lt.refl _) _ _ hu
  ·rw[Lj hd];rcases I.tmv t with⟨i,o',q1,q2,q3,q4,q5⟩|⟨q1,q2⟩
   ·refine .inl ⟨i,o', .inl q1,q2,q3,fun i' o'' hi' hlt ho'=>?_,VR.mo hmo p.lt _ _ q5⟩;rcases hi' with hi'|hi'
    ·exact q4 i' o'' hi' hlt ho'
    ·subst hi';rw[M.ho]at ho';simp only[ak]at ho';rw[<-ho'];exact hd
   ·refine .inr ⟨fun i' o'' hi' ho'=>?_,VR.mo hmo p.lt _ _ q2⟩;rcases hi' with hi'|hi'
    ·exact q1 i' o'' hi' ho'
    ·subst hi';rw[M.ho]at ho';simp only[ak]at ho';rw[<-ho'];exact hd
 ·have:=I.sz;cases o.dst<;>simp[Act.put,this]
 ·have:=I.df;cases o.dst<;>simp[Act.put,this]
 ·rcases I.wG M e with⟨e1,_⟩|⟨hG,_,hl⟩
  ·obtain⟨_,_,b1,b2⟩:=p.rel.blk k b e1;exact⟨b1,b2.mo hmo2 (Lt.refl _) rfl⟩
  ·obtain⟨b1,b2⟩:=I.blk k b hl;rw[hrho k b hl];exact⟨aX b1 p.lt.size,b2.mo hmo p.lt (hframe k b hl hG)⟩
 ·have key : ∀ x y bx, h1.get x = some bx -> (G.live x \/ ((S j).h.next <= x /\ x < (S (j + 1)).h.next)) -> ∀ by', ¬ G.live y -> Lv S L s y by' -> ρ2 x = ρ2 y -> x = y := fun x y bx ex hx by' hy hly hxy => by
   rw[hrho y by' hly]at hxy;rcases hx with hx|hx
   ·obtain⟨b0,eb⟩:=cT.1 hx;have hlx:=I.rD M eb;rw[hrho x b0 hlx]at hxy;exact I.inj x b0 y by' hlx hly hxy
   ·rcases p.new x (by rw[M.sg.nx];exact hx.1) (bH ex)with q|⟨i,q1,q2,q3⟩
    ·have:=(I.blk y by' hly).1;omega
    ·exfalso;obtain⟨b0,eb⟩:=cT.1 q1;have:=I.inj i b0 y by' (I.rD M eb) hly (q3.symm.trans hxy)
     subst this;exact hy q1
  rcases I.wG M e with⟨e1,x1⟩|⟨hG,_,hl⟩<;>rcases I.wG M e' with⟨e1',x1'⟩|⟨hG',_,hl'⟩
  ·exact p.rel.inj k k' (bH e1) (bH e1') hk
  ·exact key k k' b e1 x1 b' hG' hl' hk
  ·exact(key k' k b' e1' x1' b hG hl hk.symm).symm
  ·rw[hrho k b hl,hrho k' b' hl']at hk;exact I.inj k b k' b' hl hl' hk
 ·rw[p.fr b (aX hb I.lt.size) fun k hl hlo hk=>?_,I.fr b hb hn];obtain⟨b0,eb⟩:=cT.1 hl;have hlv:=I.rD M eb;have hlow:h'.low<=k:=by
   have h2:=M.t.low M.hg M.f (show j+1<=r.length by omega) (af _);rw[M.t.hN]at h2;exact aA h2 (M.sg.low k hl hlo)
  by_cases hk0:k<(S 0).h.next
  ·rw[I.rho k (.inl hk0)]at hk;refine hn k ?_ hlow hk;rcases hlv with⟨_,e⟩|⟨i,hi,a1,_⟩
   ·have g:=(M.t.gd M.hg M.f s I.s0).2;rw[M.t.h0]at hk0⊢;exact g.good.back hk0 (bH e)
   ·have:=M.mono (bg i) (bN (I.lN i hi));omega
  ·rcases I.new k b0 hlv (dG hk0)with q|⟨i,q1,q2,q3⟩
   ·omega
   ·exact hn i q1 q2 (q3.symm.trans hk)
 ·have m1:=M.mono (bg j) aa;have m2:=M.mono (show j+1<=r.length by omega) (af _);rw[p.rho k (by rw[M.sg.nx,M.sg.nx1];omega),I.rho k hk]
 ·rcases I.wG M e with⟨e1,x1⟩|⟨hG,_,hl⟩
  ·rcases x1 with x1|x1
   ·obtain⟨b0,eb⟩:=cT.1 x1;have hlv:=I.rD M eb;rw[hrho k b0 hlv];exact I.new k b0 hlv hk
   ·rcases p.new k (by rw[M.sg.nx];exact x1.1) (bH e1)with q|⟨i,q1,q2,q3⟩
    ·exact .inl (aA I.lt.size q)
    ·obtain⟨b0,eb⟩:=cT.1 q1;have hlv:=I.rD M eb;have hlow:h'.low<=i:=by
      have h2:=M.t.low M.hg M.f (show j+1<=r.length by omega) (af _);rw[M.t.hN]at h2;exact aA h2 (M.sg.low i q1 q2)
     rw[q3];by_cases hi0:i<(S 0).h.next
     ·refine .inr ⟨i,?_,hlow,I.rho i (.inl hi0)⟩;rcases hlv with⟨_,e⟩|⟨i',hi',a1,_⟩
      ·have g:=(M.t.gd M.hg M.f s I.s0).2;rw[M.t.h0]at hi0⊢;exact g.good.back hi0 (bH e)
      ·have:=M.mono (bg i') (bN (I.lN i' hi'));omega
     ·exact I.new i b0 hlv (dG hi0)
  ·rw[hrho k b hl];exact I.new k b hl hk
end CI
end
section
open Go.RowKit
namespace CI
variable {P : Program} {h h' : H} {tm tm' : Tm} {rec : Rec} {n : Nat} {r : List RO} {S : Nat->SD} {ops : Array Oper} {A : Nat->Prop} {ρ ρ1 ρ2 : Nat->Nat} {w w1 w2 : World} {a : Act} {ds : List Nat} {L : Nat->Prop} {s j : Nat} {o : Oper} {ro : RO} {G h1 : H} {E : Env}
theorem Kf(w:World):Below w.heap.size w {w with drawn:=w.drawn+1}:=(Below.refl _ w).drew
theorem L9(t:Trace rec r tm h tm' h' S)(tR:Rel P A ρ w h)(hf:Fr P A ρ w n ds tm a):Inv P S ops r h' n ds A ρ w (fun _=>False) 0 ρ a {w with drawn:=w.drawn+1}:=by
 have hlt:=Lt.below (Kf w);have hA:∀k,A k->AL A S (fun _=>False) k:=fun k hk=>.inl hk;have hmo:Mo A (AL A S fun _=>False) ρ ρ:=⟨hA,fun _ _=>rfl⟩;have hlv:∀k b,Lv S (fun _=>False) 0 k b->h.get k=some b:=fun k b e=>by
  rcases e with⟨_,e⟩|⟨_,e,_⟩
  ·rw[t.h0]at e;exact e
  ·exact e.elim
 refine⟨fun _ _ _ e=>e.elim,fun _ e=>e.elim,bg _,fun i hi=>by omega,fun _ _ _ _ e=>e,fun u=>.inr ⟨fun _ _ e=>e.elim,?_⟩,hf.sz,hf.df,fun k b e=>?_,fun k b k' b' e e' hk=>?_,hlt,fun b _ _=>rfl,fun _ _=>rfl,fun k b e hk=>?_⟩
 ·rw[t.tm0];exact VR.mo hmo hlt _ _ (hf.tr u)
 ·obtain⟨_,_,b1,b2⟩:=tR.blk k b (hlv k b e);exact⟨b1,b2.mo hmo hlt rfl⟩
 ·exact tR.inj k k' (bH (hlv k b e)) (bH (hlv k' b' e')) hk
 ·have:=(tR.blk k b (hlv k b e)).1;rw[t.h0]at hk;omega
theorem Sm{a0:Act}(I:Inv P S ops r h' n ds A ρ w L s ρ1 a w1)(t:Trace rec r tm h tm' h' S)(st:Stat P n ops r)(hg:fF rec)(f:Wf h)(hn:n<1000000)(hall:∀i,i<r.length->L i)(tR:Rel P A ρ w h)(hd:Dj A h h')(hf:Fr P A ρ w n ds tm a0):cQ P A ρ w h ρ1 w1 h'/\Fr P (Ext A h h') ρ1 w1 n ds tm' a:=by
 have hAL:∀k,AL A S L k->Ext A h h' k:=fun k hk=>by
  rcases hk with hk|⟨i,hi,a1,a2⟩
  ·exact .inl hk
  ·have m1:=t.mono hg f (bg i) (bN (I.lN i hi));have m2:=t.mono hg f (show i+1<=r.length from I.lN i hi) (af _);rw[t.h0]at m1;rw[t.hN]at m2;exact .inr aa
 have hmo:Mo (AL A S L) (Ext A h h') ρ1 ρ1:=⟨hAL,fun _ _=>rfl⟩;obtain⟨wfN,gN⟩:=t.gd hg f r.length (af _);rw[t.hN]at wfN gN;have hq:∀i,s<=i->i<r.length->(S (i+1)).wr=false:=fun i h1 h2=>by
  cases hw:(S (i+1)).wr with
  |false=>rfl
  |true=>exact absurd (hall i h2) (I.sr i h1 h2 hw)
 have hlv:∀k b,h'.get k=some b->Lv S L s k b:=fun k b e=>by
  by_cases hk:k<(S 0).h.next
  ·refine .inl ⟨hk,?_⟩;rw[<-js t hg f I.s0 (af _) (aX hk (t.mono hg f (bg _) I.s0)) hq,t.hN];exact e
  ·have hkN:k<(S r.length).h.next:=by rw[t.hN];exact wfN.lt k b (kW e)
   obtain⟨q,hq1,a1,a2⟩:=t.owner (dG hk) hkN;refine .inr ⟨q,hall q hq1,a1,a2,?_⟩;have hs0:=I.s0;rw[<-js t hg f (x:=max s (q+1)) (y:=r.length) aa (af _) (aX a2 (t.mono hg f aa aa)) (fun i i1 i2=>hq i aa i2),t.hN];exact e
 refine⟨⟨fun k hk=>I.rho k (by rw[t.h0];exact hk),⟨fun k b e=>?_,fun k k' hl hl' hk=>?_,wfN.bd⟩,I.lt,fun b hb hx=>I.fr b hb (by rw[t.h0];exact hx),fun k hk hl=>?_⟩,⟨fun u=>?_,I.sz,fun k hk=> .inl (hf.nm k hk),?_⟩⟩
 ·obtain⟨b1,b2⟩:=I.blk k b (hlv k b e);have hAk:AL A S L k:=by
   rcases hlv k b e with⟨hk,e2⟩|⟨i,hi,a1,a2,_⟩
   ·rw[t.h0]at hk;exact .inl (tR.live (gN.good.back hk (bH e))).2.1
   ·exact .inr ⟨i,hi,a1,a2⟩
  exact⟨wfN.lt k b (kW e),hAL k hAk,b1,b2.mo hmo (Lt.refl _) rfl⟩
 ·obtain⟨b,eb⟩:=cT.1 hl;obtain⟨b',eb'⟩:=cT.1 hl';exact I.inj k b k' b' (hlv k b eb) (hlv k' b' eb') hk
 ·obtain⟨b,eb⟩:=cT.1 hl;have:=I.new k b (hlv k b eb) (by rw[t.h0];exact hk);rwa[t.h0]at this
 ·refine VR.mo hmo (Lt.refl _) _ _ ?_;rw[<-t.tmN];have hlo:∀{i:Nat} {o:Oper},ops[i]?=some o->i<r.length:=fun ho=>by rw[st.len];exact(iu.1 ho).1
  rcases JC t st hn u r.length (af _)with⟨i,o',h1,h2,h3,h4,h5⟩|⟨h1,h2⟩
  ·rw[h5];rcases I.tmv u with⟨i',o'',k1,k2,k3,k4,k5⟩|⟨k1,k2⟩
   ·have : i' = i := by
     rcases mJ i i' with e|e|e
     ·exact absurd k3 (h4 i' o'' (hlo k2) e k2)
     ·exact e.symm
     ·exact absurd h3 (k4 i o' (hall i h1) e h2)
    subst this;exact k5
   ·exact absurd h3 (k1 i o' (hall i h1) h2)
  ·rw[h2];rcases I.tmv u with⟨i',o'',k1,k2,k3,k4,k5⟩|⟨k1,k2⟩
   ·exact absurd k3 (h1 i' o'' (hlo k2) k2)
   ·exact k2
 ·rw[I.df];exact lD fun k hk=>by
   unfold vH;rw[I.rho k (by rw[t.h0];exact hd k (hf.nm k hk))]
theorem Uk(hrec:nv P rec)(hg:fF rec)(t:Trace rec r tm h tm' h' S)(st:Stat P n ops r)(f:Wf h)(hn:n<1000000){F:Fence}(hF:FC F){Q:Exit->Act->World->Prop}{a0:Act}(tR:Rel P A ρ w h)(hd:Dj A h h')(hf:Fr P A ρ w n ds tm a0)
  (hq:∀ρ' w' a',cQ P A ρ w h ρ' w' h'->Fr P (Ext A h h') ρ' w' n ds tm' a'->Q .normal a' w'):∀(fuel:Nat) (listed:Array Bool) (a:Act) (w1:World) (s:Nat) (ρ1:Nat->Nat) (U:List Nat),listed.size=ops.size->U.length<=fuel->(∀i,i<ops.size->listed.getD i false=false->i∈U)->
   Inv P S ops r h' n ds A ρ w (fun i=>listed.getD i false=true) s ρ1 a w1->wpAnyIn F 0 P .any ops Q fuel listed a w1:=by
 have hsz:=st.len;have done:∀(listed:Array Bool) (a:Act) (w1:World) (s:Nat) (ρ1:Nat->Nat),(∀i,i<ops.size->listed.getD i false=true)->Inv P S ops r h' n ds A ρ w (fun i=>listed.getD i false=true) s ρ1 a w1->Q .normal a w1:=fun listed a w1 s ρ1 hall I=>by
  obtain⟨p,fr⟩:=Sm I t st hg f hn (fun i hi=>hall i aa) tR hd hf;exact hq ρ1 w1 a p fr
 have unl:∀(listed:Array Bool) (j:Nat),listed.size=ops.size->listed.getD j true=false->j<ops.size/\listed.getD j false=false:=fun listed j hs hl=>by
  rw[cV]at hl
  cases e:listed[j]? with
  |none=>rw[e]at hl;simp at hl
  |some b=>
   rw[e]at hl;have hlt:=(iu.1 e).1;refine⟨by omega,?_⟩;rw[cV,e];simpa using hl
 intro fuel
 induction fuel with
 |zero=>
  intro listed a w1 s ρ1 U hs hU hin I;have hUn:U=[]:=gP aa;subst hUn;have hall:∀i,i<ops.size->listed.getD i false=true:=fun i hi=>by
   cases hb:listed.getD i false with
   |true=>rfl
   |false=>exact absurd (hin i hi hb) aV
  refine⟨?_,done listed a w1 s ρ1 hall I⟩
  cases hr:Region.ready .any ops listed with
  |nil=>rfl
  |cons x xs=>
   exfalso;have hx:x∈Region.ready .any ops listed:=by rw[hr];exact bw
   obtain⟨h1,h2⟩:=unl listed x hs (mem_ready.1 hx).1;rw[hall x h1]at h2;cases h2
 |succ fuel ih=>
  intro listed a w1 s ρ1 U hs hU hin I;refine⟨fun hr=>?_,fun j hj=>?_⟩
  ·refine done listed a w1 s ρ1 (fun i=>?_) I
   induction i using Nat.strongRecOn with
   |_ i ihi=>
    intro hi
    cases hb:listed.getD i false with
    |true=>rfl
    |false=>
     exfalso;have hmem:i∈Region.ready .any ops listed:=by
      refine mem_ready.2 ⟨?_,ops[i],lC hi,fun e he hbd=>?_⟩
      ·have e:=lC (xs:=listed) (i:=i) aa;rw[cV,e]at hb⊢;simpa using hb
      ·have hlt:=st.edge i ops[i] e (lC hi) tC hbd;exact ihi e.on hlt aa
     rw[hr]at hmem;cases hmem
  ·obtain⟨h1,o,ho,h3⟩:=mem_ready.1 hj;obtain⟨hjs,hjl⟩:=unl listed j hs h1;obtain⟨ro,G,h1',hr,hdst,_,sg⟩:=Ru hrec hg t st f ho;have hpre:∀q,ro.pre.testBit q=true->listed.getD q false=true:=fun q hq=>by
    obtain⟨e,he,hbd,hx⟩:=st.pre j o ro q ho hr hq;have hl:=h3 e tC hbd;rcases hx with hx|⟨ro',hr',hq'⟩
    ·rw[<-hx];exact hl
    ·exact I.cl e.on ro' q hl hr' hq'
   have M:oU rec P S ops r tm h tm' h' n A (fun i=>listed.getD i false=true) j o ro G h1':=⟨t,st,hg,f,hn,ho,hr,by simp only[hjl];simp,hpre,hdst,sg,hd,fun k hk=>(tR.live hk).2.1⟩;refine sg.wp F hF Q _ _ ρ1 w1 a (I.rel M) (I.dj M) (I.slots t st hn ho hr M.hj hpre) fun u w2 ρ2 p hu=>?_;have I2:=I.step M p hu;have hset:∀i,(listed.setIfInBounds j true).getD i false=true↔(listed.getD i false=true\/i=j):=fun i=>by
    by_cases e:i=j
    ·subst e;simp[cV,rR,show i<listed.size by omega]
    ·simp[cV,Dh (Ne.symm e),e]
   have hfun:(fun i=>listed.getD i false=true\/i=j)=(fun i=>(listed.setIfInBounds j true).getD i false=true):=funext fun i=>propext (hset i).symm;rw[hfun]at I2;have hjU:j∈U:=hin j hjs hjl;refine ih _ _ _ _ _ (U.erase j) (by simp[hs]) (by rw[List.length_erase_of_mem hjU];omega) (fun i hi hb=>?_) I2;have hne:i≠j:=fun e=>by
    have:=(hset i).2 (.inr e);rw[this]at hb;cases hb
   have hb':listed.getD i false=false:=by
    cases hx:listed.getD i false with
    |false=>rfl
    |true=>rw[(hset i).2 (.inl hx)]at hb;cases hb
   exact(List.mem_erase_of_ne hne).2 (hin i hi hb')
theorem RP(hmix:P.follows .mixedOrders=true)(rec:Rec)(hrec:nv P rec)(hg:fF rec):F3 P rec:=by
 intro F hF Q ops id n hn r hc tm h tm' h' e f A ρ w a ds tR hd hf hq;obtain⟨S,t⟩:=Nr e;have st:=Rx hc;refine wpIn_region_any hmix (Uk hrec hg t st f hn hF tR hd hf hq ops.size _ a _ 0 ρ (List.range ops.size) aV aV (fun i hi _=>yP.2 hi) ?_);have I:=L9 (ops:=ops) t tR hf;have hfun:(fun _:Nat=>False)=(fun i=>(Array.replicate ops.size false).getD i false=true):=funext fun i=>propext (by
  simp only[false_iff,cV,Df];split<;>simp)
 rw[hfun]at I;exact I
theorem K9(hmix:P.follows .mixedOrders=true)(hO:An P E)(hfn:E.fns=rl P){N g:Nat}(hE:Enters P g){c:C}{h':H}(e:run E N (.call (.fn g []) [] ⟨0,0,[], .e⟩)=some (.val c h'))(w:World):
  Calls P g #[] w (fun e w'=>∃u A ρ,e= .returned u/\VR P A ρ w' c u/\Rel P A ρ w' h'/\Below w.heap.size w w'):=by
 have hok:=(Tv hO hfn (fun rec h1 h2=>RP hmix rec h1 h2) N).1;have hbare:∀k,(⟨0,0,[], .e⟩:H).get k=none:=uA 0;have tR:Rel P (fun _=>False) (fun _=>0) w ⟨0,0,[], .e⟩:=⟨(fun k b e=>by rw[hbare]at e;cases e),(fun k _ hl=>by unfold H.live at hl;rw[hbare]at hl;cases hl),by simp⟩;obtain⟨d,hd,hk⟩:=hok _ _ _ _ _ e ⟨by simp,(fun k b e=>by rw[T.zY]at e;cases e)⟩ (fun _=>False) (fun _=>0) w (.func (.func g) #[] #[]) #[] tR (fun k hk=>hk.elim) (by simp only[VR,VRl];exact⟨_,rfl,rfl⟩) (by simp only[VRl]);rcases hk with⟨g',args',q1,q2⟩|⟨l,g',tmps,s,b,q0,_⟩
 ·have hkey : g' = g /\ args' = #[] := by
   obtain⟨d',r1,r2⟩:=vB hE #[] #[] w;rw[r1]at hd;simp only[Result.ok.injEq,and_true]at hd;rw[<-hd,r2]at q1;simp only[Result.ok.injEq,Next.enter.injEq,and_true]at q1;exact⟨q1.1.symm,by rw[<-q1.2];rfl⟩
  obtain⟨rfl,rfl⟩:=hkey;refine(callsIn_wide.1 q2).mono fun e' w' ⟨u,ρ',h1,p,hu⟩=>⟨u,_,ρ',h1,hu,p.rel,p.lt.os,p.lt.tape,p.lt.output,p.lt.size,fun k hk=>p.fr k hk fun j hl=>?_⟩;unfold H.live at hl;rw[hbare]at hl;cases hl
 ·cases q0
end CI
end
section
open Go.RowKit Go.BigFrame
attribute [local go_sem ↓] Go.wp_at_zero Go.wp_at_succ
theorem Gp(r y:Nat):4*(r*y)<=(r+y)*(r+y):=by
 rcases Nat.le_total r y with h|h<;>obtain⟨d,rfl⟩:=Nat.le.dest h
 ·have:(r+(r+d))*(r+(r+d))=4*(r*(r+d))+d*d:=by grind
  omega
 ·have:(y+d+y)*(y+d+y)=4*((y+d)*y)+d*d:=by grind
  omega
theorem Lz{a r:Nat}(hr:0<r):a<((r+a/r)/2+1)*((r+a/r)/2+1):=by
 have h1:a<r*(a/r+1):=by
  have:=lR a r;have:=et a hr;rw[iK,eW];omega
 generalize a/r=q at*;have h2:=Gp r (q+1);have h3:r+(q+1)<=2*((r+q)/2+1):=by omega
 generalize(r+q)/2+1=m at*;have h4:=cn h3 h3;have h5:2*m*(2*m)=4*(m*m):=by grind
 omega
theorem JS{a r:Nat}(h:r<=(r+a/r)/2):r*r<=a:=by
 have h1:r<=a/r:=by omega
 exact aA (cL r h1) (Nat.mul_div_le a r)
theorem Gi(n:Nat):Dg.NF B32 ((List.replicate (n+1) 0).set n 1)/\Dg.vl B32 ((List.replicate (n+1) 0).set n 1)=B32^n:=by
 have e:(List.replicate (n+1) 0).set n 1=List.replicate n 0++[1]:=by
  rw[List.replicate_succ',List.set_append_right _ _ aV];simp
 rw[e];refine⟨⟨Dg.nq (Dg.iT aq _) (fun x hx=>by rw[cr.1 hx];decide),by simp⟩,?_⟩;rw[Dg.fH,Dg.tJ];simp[Dg.vl]
theorem cq.Ol(W:World)(N k d:Nat)(hk:k<N):cq (W.alloc (.cells ((madeCells #[.int .u32 0] N).setIfInBounds k (.int .u32 (d:Int))) 138)) W.heap.size ((List.replicate N 0).set k d):=by
 have h:=(cq.made W N).set (k:=k) (by simpa using hk) d;simpa only[go_sem]using h
structure RC(wr:World)(a:Option Addr)(l:List Nat)(L k:Nat)(a1:Option Addr)(l1:List Nat)(c1:Nat):Prop where
 w0:WS wr a l
 w1:WS wr a1 l1
 n1:Dg.NF B32 l1
 h1:l1.length<=c1
 b1:l1.length<=L
 p:0<Dg.vl B32 l1
 u:Dg.vl B32 l<(Dg.vl B32 l1+1)*(Dg.vl B32 l1+1)
 k:k=Dg.vl B32 l1
def RtRes(u:Nat)(e:Ending)(w':World):Prop:=∃z r,e= .returned (.tuple #[.agg #[.bool z.s,.slice z.a z.n z.cap],.int .i64 0])/\IZ w' z ((r:Nat):Int)/\r*r<=u/\u<(r+1)*(r+1)
set_option maxRecDepth 10000 in
set_option maxHeartbeats 8000000 in
theorem NV(x:IV)(u:Int)(fu:Fit u)(hu:0<=u)(w:World)(hx:IP w x u):
  Calls Tryz.prog 203 #[.agg #[.bool x.s,.slice x.a x.n x.cap]] w fun e w'=>RtRes u.toNat e w'/\Below w.heap.size w w':=by
 obtain⟨l,h1,rfl⟩:=hx;have bl:=iC h1.nf fu;have S1:=ae (fun w (h:IW w x l)=>ik x l aa w h);have H1:=ae h1;by_cases hl0:l=[]
 ·have hv0:Dg.iv x.s (Dg.vl B32 l)=0:=by rw[hl0];exact Dg.sL _
  rw[hv0];have hml:l.length=0:=by rw[hl0];rfl
  rw[hml]at S1;obtain⟨s,a,n,cap⟩:=x;simp only[]at S1;clear h1 fu hv0 hml hl0 hu
  go_enter Tryz.func203,Tryz.ntmps203
  go_wp2_with (first|(go_at_call 163;(with_reducible refine(S1.out _ ?_).mono ?_);(exact H1.out.below (B:=w.heap.size) au (af _));rintro e w1 ⟨rfl,hb1⟩;obtain⟨g1,rfl⟩:=mob hb1;clear hb1))
  refine bodyPost_ret (v:=.tuple #[.agg #[.bool ((⟨false,none,0,0⟩:IV)).s,.slice ((⟨false,none,0,0⟩:IV)).a ((⟨false,none,0,0⟩:IV)).n ((⟨false,none,0,0⟩:IV)).cap],.int .i64 0]) (by simp[results,Tryz.results203,go_sem]) rfl ?_;exact⟨⟨⟨false,none,0,0⟩,0,rfl,IZ.zero _,by simp,by simp⟩,by exact bel⟩
 have hvp:=Dg.lJ h1.nf hl0 aq;have hs:x.s=false:=by
  cases hxs:x.s with
  |false=>rfl
  |true=>rw[hxs]at hu;simp[Dg.iv]at hu;omega
 have hut:(Dg.iv x.s (Dg.vl B32 l)).toNat=Dg.vl B32 l:=by rw[hs];simp[Dg.iv]
 rw[hut];have hlp:0<l.length:=iI.2 hl0;obtain⟨n,hn⟩:∃n,n=l.length/2+1:=⟨_,rfl⟩;have m1:¬l.length=0:=by omega
 have m2:¬(l.length:Int)=0:=by omega
 have m3:((l.length:Int)==0)=false:=by simpa using hl0
 have hmk:∀w:World,(Instr.makeSlice 176 (.int .i64 ((l.length:Int)/2+2)) (.int .i64 ((l.length:Int)/2+2))).run Tryz.prog w= .ok (.slice (some ⟨w.heap.size,0,none⟩) (n+1) (n+1)) (w.alloc (.cells (madeCells #[.int .u32 0] (n+1)) 138)):=fun w=>by
  have:=run_make_row' (P:=Tryz.prog) 176 138 (.int .u32 0) 4 Tryz.underlying176 nI rfl .i64 .i64 (n+1) aa aa w;rw[show((n+1:Nat):Int)=(l.length:Int)/2+2 by omega]at this;exact this
 have start:Hid (Dg.vl B32 l<(B32^n+1)*(B32^n+1)):=by
  refine aX (Dg.cg h1.nf.dg) (aA (cv (n:=B32) aq (show l.length<=n+n by omega)) ?_);rw[ff];exact cn (jS _) (jS _)
 have DV:=ae (fun lb a b ca cb hb hb0 hca w h1' h2=>uv l lb a b ca cb h1.nf hb hb0 aa hca w h1' h2);have MA:=ae (fun (k:List Nat) a c (hc:k.length<=c) (hk:Dg.NF B32 k) (hb:k.length<=3000000000000) w h=>mg false k a c hb hc hk.dg w h);obtain⟨s,a,p0,cap⟩:=x;simp only[]at S1 DV hs;subst hs;clear h1 fu hu hut hl0 hvp;generalize hq:l.length=q at*;have HQ:=ae hq;have HN:=0;clear hq HN;subst hn
 go_enter Tryz.func203,Tryz.ntmps203
 go_upto_region 7 with(first|(go_at_call 163;(with_reducible refine(S1.out _ ?_).mono ?_);(exact H1.out.below (B:=w.heap.size) au (af _));rintro e w1 ⟨rfl,hb1⟩;obtain⟨g1,rfl⟩:=mob hb1;clear hb1))
 have RU:=cq.made (more ((w.alloc (.cells #[.bool false,.slice a p0 cap] 62)).alloc (.cells #[.bool false,.slice none 0 0] 62)) g1) (q/2+1+1);have HB:=ae RU;have c0:=RU.cell (k:=q/2+1) aV;have f0:=RU.frozen (q/2+1);simp only[jk,World.size_alloc]at c0 f0;clear RU hmk;have hB0:Below w.heap.size w (more ((w.alloc (.cells #[.bool false,.slice a p0 cap] 62)).alloc (.cells #[.bool false,.slice none 0 0] 62)) g1):=by exact bel
 have G0:Hid (RC ((more ((w.alloc (.cells #[.bool false,.slice a p0 cap] 62)).alloc (.cells #[.bool false,.slice none 0 0] 62)) g1).alloc (.cells ((madeCells #[.int .u32 0] (q/2+1+1)).setIfInBounds (q/2+1) (.int .u32 1)) 138)) a l 300000000000 (B32^(q/2+1)) (some ⟨w.heap.size+1+1+g1.2.size,0,none⟩) ((List.replicate (q/2+1+1) 0).set (q/2+1) 1) (q/2+1+1)):=by
  obtain⟨n1,n2⟩:=Gi (q/2+1);refine⟨H1.out.ws.below (hB0.trans (Below.alloc (Below.refl _ _) hB0.size _)) (af _),?_,n1,by simp,by simp;omega,by rw[n2];exact eC aq,by rw[n2];exact start.out,n2.symm⟩;have:=(cq.Ol (more ((w.alloc (.cells #[.bool false,.slice a p0 cap] 62)).alloc (.cells #[.bool false,.slice none 0 0] 62)) g1) (q/2+1+1) (q/2+1) 1 aa).ws;simp only[jk,World.size_alloc]at this;exact this
 go_wp2_with fail
 clear hB0 start c0 f0 HB
 go_loopg [5] (B32^(q/2+1)) (fun k A wr=>∃(a1:Option Addr) (l1:List Nat) (c1:Nat),A= .slice a1 l1.length c1/\Ext ((more ((w.alloc (.cells #[.bool false,.slice a p0 cap] 62)).alloc (.cells #[.bool false,.slice none 0 0] 62)) g1).alloc (.cells ((madeCells #[.int .u32 0] (q/2+1+1)).setIfInBounds (q/2+1) (.int .u32 1)) 138)) wr/\Hid (RC wr a l 300000000000 k a1 l1 c1))
 case atStart=>exact⟨_,_,q/2+1+1,by simp,Ext.refl _,G0.out⟩
 case round=>
  obtain⟨a1,l1,c1,rfl,hext,HG⟩:=hrel;obtain⟨gx,rfl⟩:=mob (Ext.below hext);clear hext G0;have PL:Hid (∀(k m:List Nat) (a b:Option Addr) (c cb:Nat),Dg.NF B32 k->Dg.NF B32 m->k.length<=300000000000->m.length<=300000000000->∀w,WS w a k->WS w b m->Calls Tryz.prog 194 #[.slice a k.length c,.slice b m.length cb] w fun e w'=>rH w' e (Dg.vl B32 k+Dg.vl B32 m)/\Below w.heap.size w w'):=
   fun k m a b c cb hk hm bk bm w ha hb=>xH k m a b c cb hk.dg hm.dg aa aa w ha hb
  have SH:Hid (∀(k:List Nat) (a:Option Addr) (c:Nat),Dg.NF B32 k->k.length<=1000000000000->∀w,WS w a k->Calls Tryz.prog 209 #[.slice a k.length c,.int .u32 2] w fun e w'=>(∃a' l',e= .returned (.tuple #[.slice a' l'.length l'.length,.int .u32 ((Dg.vl B32 k%2:Nat):Int)])/\WS w' a' l'/\Dg.NF B32 l'/\Dg.vl B32 l'=Dg.vl B32 k/2)/\Below w.heap.size w w'):=
   fun k a c hk bk w ha=>vg k a c 2 aa hk.dg bk w ha
  have CM:=ae (fun (k m:List Nat) (a b:Option Addr) (c cb:Nat) (hk:Dg.NF B32 k) (hm:Dg.NF B32 m) (bk:k.length<=3000000000000) w ha hb=>lK k m a b c cb hk hm bk w ha hb);have hne:l1≠[]:=fun e=>by have:=HG.out.p;rw[e]at this;simp[Dg.vl]at this
  have DV1:=ae (DV.out l1 a a1 q c1 HG.out.n1 hne (af _) _ HG.out.w0 HG.out.w1);clear DV hne;obtain⟨U,hU⟩:∃U,U=(Dg.vl B32 l1+Dg.vl B32 l/Dg.vl B32 l1)/2:=⟨_,rfl⟩;have UP:Hid (Dg.vl B32 l<(U+1)*(U+1)):=by rw[hU];exact Lz HG.out.p
  have UE:Hid (Dg.vl B32 l1<=U->Dg.vl B32 l1*Dg.vl B32 l1<=Dg.vl B32 l):=by rw[hU];exact JS
  have U0:Hid (0<U):=by
   have h1:=HG.out.p;have h2:=UP.out;rcases Nat.eq_zero_or_pos U with h3|h3
   ·rw[h3]at h2;have h4:Dg.vl B32 l=0:=by omega
    exact absurd (Dg.lJ H1.out.nf (fun e=>by have:=HQ.out;rw[e]at this;simp at this;omega) aq) aa
   ·exact h3
  have HU:=ae hU;clear hU;by_cases hlt:U<Dg.vl B32 l1
  ·have cz:iy U (Dg.vl B32 l1)= -1:=by unfold iy;rw[an hlt]
   have CZ:=ae cz;have HLT:=ae hlt;clear cz hlt
   go_wp2_with (first|(go_at_call 193;(with_reducible refine(DV1.out).mono ?_);rintro e w3 ⟨a3,l3,c3,a4,l4,c4,rfl,d1,d2,d3,d4,d5,d6,d7,d8,hb3⟩;have D:=ae (And.intro d1 (And.intro d3 (And.intro d5 d7)));clear d1 d2 d3 d4 d5 d6 d7 d8;have HB3:=ae hb3;obtain⟨g3,rfl⟩:=mob hb3;clear hb3)|(go_at_call 194;(with_reducible refine(PL.out l1 l3 a1 a3 c1 c3 HG.out.n1 D.out.2.2.1 HG.out.b1 ?_ _ ?_ ?_).mono ?_);(focus(refine aA (iU D.out.2.2.1 H1.out.nf.dg ?_) ?_;(focus(rw[D.out.2.2.2];exact rA _ _));(focus(rw[HQ.out];omega))));(exact HG.out.w1.below HB3.out (af _));(exact D.out.2.1);rintro e w5 ⟨⟨a5,l5,rfl,r1,r2,r3⟩,hb5⟩;have R5:=ae (And.intro r1 (And.intro r2 r3));clear r1 r2 r3;have HB5:=ae (HB3.out.trans (hb5.mono HB3.out.size));obtain⟨g5,rfl⟩:=mob hb5;clear hb5)|(go_at_call 209;(with_reducible refine(SH.out l5 a5 l5.length R5.out.2.1 ?_ _ R5.out.1).mono ?_);(focus(have h5:=vc (Dg.cg HG.out.n1.dg) (Dg.cg D.out.2.2.1.dg);rw[<-R5.out.2.2]at h5;have h6:=oM R5.out.2.1 h5;have h7:=HG.out.b1;have h8:l3.length<=q:=zb52;omega));rintro e w6 ⟨⟨a6,l6,rfl,r1,r2,r3⟩,hb6⟩;rw[R5.out.2.2,D.out.2.2.2,<-HU.out]at r3;have R6:=ae (And.intro r1 (And.intro r2 r3));clear r1 r2 r3;have HB6:=ae (HB5.out.trans (hb6.mono HB5.out.size));obtain⟨g6,rfl⟩:=mob hb6;clear hb6)|(go_at_call 208;(with_reducible refine(CM.out l6 l1 a6 a1 l6.length c1 R6.out.2.1 HG.out.n1 ?_ _ R6.out.1 (HG.out.w1.below HB6.out (af _))).mono ?_);(focus(have h9:=iU R6.out.2.1 HG.out.n1.dg (by rw[R6.out.2.2];exact bN HLT.out);have:=HG.out.b1;omega));rintro e w7 ⟨rfl,hb7⟩;rw[R6.out.2.2,CZ.out];have R7:=ae (R6.out.1.below hb7 (af _));have HB7:=ae (HB6.out.trans (hb7.mono HB6.out.size));obtain⟨g7,rfl⟩:=mob hb7;clear hb7))
   go_roundg U
   case measure=>rw[HG.out.k];exact HLT.out
   case rel=>exact⟨a6,l6,l6.length,rfl,nk au,HG.out.w0.below HB7.out (af _),R7.out,R6.out.2.1,af _,aA (iU R6.out.2.1 HG.out.n1.dg (by rw[R6.out.2.2];exact bN HLT.out)) HG.out.b1,by rw[R6.out.2.2];exact U0.out,by rw[R6.out.2.2];exact UP.out,R6.out.2.2.symm⟩
  ·obtain⟨C,hC0,hC⟩:∃C:Int,0<=C/\iy U (Dg.vl B32 l1)=C:=⟨_,by unfold iy;rw[ai hlt];split<;>decide,rfl⟩;have CZ:=ae hC;have HE:=ae (UE.out (dG hlt));have hC1:decide ((0:Int)<=C)=true:=by rw[cY];exact hC0
   clear hC hlt
   go_wp2_with (first|(go_at_call 193;(with_reducible refine(DV1.out).mono ?_);rintro e w3 ⟨a3,l3,c3,a4,l4,c4,rfl,d1,d2,d3,d4,d5,d6,d7,d8,hb3⟩;have D:=ae (And.intro d1 (And.intro d3 (And.intro d5 d7)));clear d1 d2 d3 d4 d5 d6 d7 d8;have HB3:=ae hb3;obtain⟨g3,rfl⟩:=mob hb3;clear hb3)|(go_at_call 194;(with_reducible refine(PL.out l1 l3 a1 a3 c1 c3 HG.out.n1 D.out.2.2.1 HG.out.b1 ?_ _ ?_ ?_).mono ?_);(focus(refine aA (iU D.out.2.2.1 H1.out.nf.dg ?_) ?_;(focus(rw[D.out.2.2.2];exact rA _ _));(focus(rw[HQ.out];omega))));(exact HG.out.w1.below HB3.out (af _));(exact D.out.2.1);rintro e w5 ⟨⟨a5,l5,rfl,r1,r2,r3⟩,hb5⟩;have R5:=ae (And.intro r1 (And.intro r2 r3));clear r1 r2 r3;have HB5:=ae (HB3.out.trans (hb5.mono HB3.out.size));obtain⟨g5,rfl⟩:=mob hb5;clear hb5)|(go_at_call 209;(with_reducible refine(SH.out l5 a5 l5.length R5.out.2.1 ?_ _ R5.out.1).mono ?_);(focus(have h5:=vc (Dg.cg HG.out.n1.dg) (Dg.cg D.out.2.2.1.dg);rw[<-R5.out.2.2]at h5;have h6:=oM R5.out.2.1 h5;have h7:=HG.out.b1;have h8:l3.length<=q:=zb52;omega));rintro e w6 ⟨⟨a6,l6,rfl,r1,r2,r3⟩,hb6⟩;rw[R5.out.2.2,D.out.2.2.2,<-HU.out]at r3;have R6:=ae (And.intro r1 (And.intro r2 r3));clear r1 r2 r3;have HB6:=ae (HB5.out.trans (hb6.mono HB5.out.size));obtain⟨g6,rfl⟩:=mob hb6;clear hb6)|(go_at_call 208;(with_reducible refine(CM.out l6 l1 a6 a1 l6.length c1 R6.out.2.1 HG.out.n1 ?_ _ R6.out.1 (HG.out.w1.below HB6.out (af _))).mono ?_);(focus(have h9:=iU R6.out.2.1 R5.out.2.1.dg (by rw[R6.out.2.2,R5.out.2.2,D.out.2.2.2,HU.out];exact rA _ _);have h5:=vc (Dg.cg HG.out.n1.dg) (Dg.cg D.out.2.2.1.dg);rw[<-R5.out.2.2]at h5;have h6:=oM R5.out.2.1 h5;have h7:=HG.out.b1;have h8:l3.length<=q:=zb52;omega));rintro e w7 ⟨rfl,hb7⟩;rw[R6.out.2.2,CZ.out];have R7:=ae (R6.out.1.below hb7 (af _));have HB7:=ae (HB6.out.trans (hb7.mono HB6.out.size));obtain⟨g7,rfl⟩:=mob hb7;clear hb7)|(go_at_call 162;(with_reducible refine(MA.out l1 a1 c1 HG.out.h1 HG.out.n1 (by have:=HG.out.b1;omega) _ (HG.out.w1.below HB7.out (af _))).mono ?_);rintro e w8 ⟨⟨y,rfl,hy⟩,hb8⟩;have HY:=ae (show IZ w8 y ((Dg.vl B32 l1:Nat):Int)from hy);clear hy;obtain⟨g8,rfl⟩:=mob hb8;clear hb8))
   refine bodyPost_ret (v:=.tuple #[.agg #[.bool y.s,.slice y.a y.n y.cap],.int .i64 0]) (by simp[results,Tryz.results203,go_sem]) rfl ?_;exact⟨⟨y,_,rfl,IZ.iw HY.out (by exact mY),HE.out,HG.out.u⟩,by exact bel⟩
end
section
open Go.RowKit
namespace CI
def bnd(z:Int):Bool:=Nat.blt z.natAbs 1208925819614629174706176
def i64(n:Int):C:=.sc (.int .i64 n)
def o1(f:Int->Option C):Orc:=fun l=>match l with
 |[a]=>match FU a with
  |some z=>match bnd z with
   |true=>f z
   |false=>none
  |none=>none
 |_=>none
def o2(f:Int->Int->Option C):Orc:=fun l=>match l with
 |[a,b]=>match FU a with
  |some y=>match FU b with
   |some z=>match bnd y with
    |true=>match bnd z with
     |true=>f y z
     |false=>none
    |false=>none
   |none=>none
  |none=>none
 |_=>none
def sg(z:Int):Int:=match z with| .negSucc _=>-1| .ofNat 0=>0| .ofNat (_+1)=>1
def sqf:Nat->Nat->Nat->Nat
 |0,_,r=>r
 |f+1,n,r=>match Nat.ble ((r+1)*(r+1)) n with
  |true=>sqf f n (r+1)
  |false=>r
def isz(z:Int):Bool:=match z with| .ofNat 0=>true|_=>false
def oAdd:Orc:=o2 fun a b=>some (.nm (a+b))
def oSub:Orc:=o2 fun a b=>some (.nm (a-b))
def oMul:Orc:=o2 fun a b=>some (.nm (a*b))
def R8:Orc:=o2 fun a b=>match isz b with|true=>none|false=>some (.tp [.nm (a/b),.nm (a%b),i64 0])
def oCmp:Orc:=o2 fun a b=>some (i64 (sg (a-b)))
def oGcd:Orc:=o2 fun a b=>some (.nm (Int.gcd a b))
def oOf:Orc:=fun l=>match l with
 |[.sc (.int .i64 n)]=>match Nat.blt n.natAbs 4611686018427387904 with
  |true=>some (.nm n)
  |false=>none
 |_=>none
def TH:Orc:=o1 fun a=>match Nat.blt a.natAbs 4611686018427387904 with
 |true=>some (.tp [i64 a,.sc (.bool true)])
 |false=>none
def RZ:Orc:=o1 fun a=>some (.nm a)
def rt(n r:Nat):Option C:=match Nat.ble (r*r) n with
 |true=>match Nat.blt n ((r+1)*(r+1))with
  |true=>some (.tp [.nm r,i64 0])
  |false=>none
 |false=>none
def oRoot:Orc:=o1 fun a=>match a with
 | .ofNat n=>rt n (sqf 10000 n 0)
 |_=>none
def oZero:Orc:=o1 fun a=>some (.sc (.bool (isz a)))
def oSign:Orc:=o1 fun a=>some (i64 (sg a))
def oNeg:Orc:=o1 fun a=>some (.nm (-a))
def oSize:Orc:=o1 fun a=>some (.nm a.natAbs)
def oQuo:Orc:=o2 fun a b=>match isz b with|true=>none|false=>some (.nm (a/b))
def zL:List (Nat×Orc)->Nat->Option Orc
 |[],_=>none
 |(k,o)::l,n=>match Nat.beq k n with|true=>some o|false=>zL l n
def orcT:List (Nat×Orc):=[(190,oAdd),(159,oSub),(117,oMul),(167,R8),(161,oCmp),(165,oGcd),(124,oOf),(120,TH),(112,RZ),(203,oRoot),(95,oZero),(101,oSign),(102,oNeg),(185,oSize),(121,oQuo)]
def theE(P:Program):Env:=⟨rl P,zL orcT⟩
theorem Nv(P:Program):(theE P).fns=rl P:=rfl
theorem uo{z:Int}(h:bnd z=true):Fit z:=by
 unfold bnd at h;rw[bA]at h;exact⟨3,by omega,Nat.lt_trans h aq⟩
section
variable {P : Program} {A : Nat->Prop} {ρ : Nat->Nat} {w : World}
theorem Bt{c:C}{z:Int}{v:Value}(h:FU c=some z)(hv:VR P A ρ w c v):∃x:IV,v= .agg #[.bool x.s,.slice x.a x.n x.cap]/\IZ w x z:=by
 unfold FU at h;split at h
 ·cases h;simp only[VR]at hv;exact hv
 ·cases h;simp only[VR,VCs]at hv;obtain⟨cs,rfl,h1,u,r,h2,⟨h3,_⟩,h4,u2,r2,h5,⟨h6,_⟩,h7⟩:=hv;subst h3;subst h6;subst h7;subst h5;refine⟨⟨false,none,0,0⟩,?_,IZ.zero w⟩;have:cs= #[.bool false,.slice none 0 0]:=by apply Array.ext';rw[h2];rfl
  rw[this]
 ·cases h
def Ans(P:Program)(g:Nat)(vs:Array Value)(w:World)(c:C):Prop:=Calls P g vs w (fun e w'=>∃u,e= .returned u/\(∀A ρ,VR P A ρ w' c u)/\Below w.heap.size w w')
theorem Ans.calls{g:Nat}{vs:Array Value}{c:C}(h:Ans P g vs w c)(A:Nat->Prop)(ρ:Nat->Nat):Calls P g vs w (fun e w'=>∃u,e= .returned u/\VR P A ρ w' c u/\Below w.heap.size w w'):=by
 unfold Ans at h;refine h.mono ?_;rintro e w' ⟨u,h1,h2,h3⟩;exact⟨u,h1,h2 A ρ,h3⟩
theorem uc{g:Nat}{f:Int->Option C}(hE:Enters P g)(H:∀(x:IV) (z:Int) (w:World) (c:C),Fit z->IZ w x z->f z=some c->Ans P g #[.agg #[.bool x.s,.slice x.a x.n x.cap]] w c):
  ∀args r,o1 f args=some r->∀A ρ w vs,VRl P A ρ w args vs.toList->Enters P g/\Calls P g vs w (fun e w'=>∃u,e= .returned u/\VR P A ρ w' r u/\Below w.heap.size w w'):=by
 intro args r e A ρ w vs hv;refine⟨hE,?_⟩;unfold o1 at e;split at e
 ·next a=>
  split at e
  ·next z hz=>
   split at e
   ·next hb=>
    simp only[VRl]at hv;obtain⟨u,r',h1,h2,h3⟩:=hv;subst h3;obtain⟨x,rfl,hx⟩:=Bt hz h2;have:vs= #[.agg #[.bool x.s,.slice x.a x.n x.cap]]:=by apply Array.ext';rw[h1]
    rw[this];exact(H x z w r (uo hb) hx e).calls A ρ
   ·cases e
  ·cases e
 ·cases e
theorem ua{g:Nat}{f:Int->Int->Option C}(hE:Enters P g)(H:∀(x y:IV) (u v:Int) (w:World) (c:C),Fit u->Fit v->IZ w x u->IZ w y v->f u v=some c->Ans P g #[.agg #[.bool x.s,.slice x.a x.n x.cap],.agg #[.bool y.s,.slice y.a y.n y.cap]] w c):
  ∀args r,o2 f args=some r->∀A ρ w vs,VRl P A ρ w args vs.toList->Enters P g/\Calls P g vs w (fun e w'=>∃u,e= .returned u/\VR P A ρ w' r u/\Below w.heap.size w w'):=by
 intro args r e A ρ w vs hv;refine⟨hE,?_⟩;unfold o2 at e;split at e
 ·next a b=>
  split at e
  ·next y hy=>
   split at e
   ·next z hz=>
    split at e
    ·next hb=>
     split at e
     ·next hb2=>
      simp only[VRl]at hv;obtain⟨u,r',h1,h2,u2,r2,h4,h5,h3⟩:=hv;subst h3;subst h4;obtain⟨x,rfl,hx⟩:=Bt hy h2;obtain⟨x2,rfl,hx2⟩:=Bt hz h5;have:vs= #[.agg #[.bool x.s,.slice x.a x.n x.cap],.agg #[.bool x2.s,.slice x2.a x2.n x2.cap]]:=by apply Array.ext';rw[h1]
      rw[this];exact(H x x2 y z w r (uo hb) (uo hb2) hx hx2 e).calls A ρ
     ·cases e
    ·cases e
   ·cases e
  ·cases e
 ·cases e
theorem vr_nm{z:Int}{x:IV}(h:IZ w x z)(A:Nat->Prop)(ρ:Nat->Nat):VR P A ρ w (.nm z) (.agg #[.bool x.s,.slice x.a x.n x.cap]):=by
 simp only[VR];exact⟨x,rfl,h⟩
theorem zd(n:Int)(A:Nat->Prop)(ρ:Nat->Nat):VR P A ρ w (i64 n) (.int .i64 n):=by
 simp only[i64,VR];exact⟨trivial,rfl⟩
theorem Ri(b:Bool)(A:Nat->Prop)(ρ:Nat->Nat):VR P A ρ w (.sc (.bool b)) (.bool b):=by
 simp only[VR];exact⟨trivial,rfl⟩
theorem nt{g:Nat}{vs:Array Value}{z:Int}(h:Calls P g vs w fun e w'=>(∃x:IV,e= .returned (.agg #[.bool x.s,.slice x.a x.n x.cap])/\IZ w' x z)/\Below w.heap.size w w'):Ans P g vs w (.nm z):=by
 unfold Ans;refine h.mono ?_;rintro e w' ⟨⟨x,rfl,hx⟩,hb⟩;exact⟨_,rfl,vr_nm hx,hb⟩
theorem Hy{g:Nat}{vs:Array Value}{z:Int}(h:Calls P g vs w fun e w'=>e= .returned (.int .i64 z)/\Below w.heap.size w w'):Ans P g vs w (i64 z):=by
 unfold Ans;refine h.mono ?_;rintro e w' ⟨rfl,hb⟩;exact⟨_,rfl,zd z,hb⟩
end
theorem Qn(z:Int):sg z=sgn z:=by
 unfold sg sgn;split
 ·next n=>
  have h:Int.negSucc n<0:=Int.negSucc_lt_zero n;generalize Int.negSucc n=z at*;rw[ai aa,an aa]
 ·rfl
 ·next n=>
  have h:(0:Int)<Int.ofNat (n+1):=Int.natCast_pos.2 (Nat.succ_pos n);generalize Int.ofNat (n+1)=z at*;rw[ai aa,ai aa]
theorem L8(z:Int):isz z=decide (z=0):=by
 unfold isz;split
 ·rfl
 ·next h=>
  symm;rw[bU];intro e;exact h e
theorem TZ{z:Int}(h:isz z=false):z≠0:=by
 rw[L8]at h;simpa using h
theorem Lb{n r s:Nat}(h1:r*r<=n)(h2:n<(r+1)*(r+1))(h3:s*s<=n)(h4:n<(s+1)*(s+1)):r=s:=by
 have k1:r<s+1:=tD fun h=>by have:=cn h h;omega
 have k2:s<r+1:=tD fun h=>by have:=cn h h;omega
 omega
theorem BV:∀{l:List (Nat×Orc)} {n:Nat} {o:Orc},zL l n=some o->(n,o)∈l
 |[],_,_,h=>by cases h
 |(k,o')::l,n,o,h=>by
  unfold zL at h;split at h
  ·next hb=>
   cases h;rw[gJ hb];exact bw
  ·exact bC _ (BV h)
theorem RY:An Tryz.prog (theE Tryz.prog):=by
 intro g f hg;have hm:=BV (show zL orcT g=some f from hg);simp only[orcT,bP,aJ,List.not_mem_nil,or_false]at hm;rcases hm with⟨rfl,rfl⟩|⟨rfl,rfl⟩|⟨rfl,rfl⟩|⟨rfl,rfl⟩|⟨rfl,rfl⟩|⟨rfl,rfl⟩|⟨rfl,rfl⟩|⟨rfl,rfl⟩|⟨rfl,rfl⟩|⟨rfl,rfl⟩|⟨rfl,rfl⟩|⟨rfl,rfl⟩|⟨rfl,rfl⟩|⟨rfl,rfl⟩|⟨rfl,rfl⟩
 ·exact ua (enters_of Tryz.func190 (by kernel_rfl) rfl) fun x y u v w c fu fv hx hy e => by
   cases e;exact nt (wP x y u v fu fv w hx.ip hy.ip)
 ·exact ua (enters_of Tryz.func159 (by kernel_rfl) rfl) fun x y u v w c fu fv hx hy e => by
   cases e;exact nt (AK x y u v fu fv w hx.ip hy.ip)
 ·exact ua (enters_of Tryz.func117 (by kernel_rfl) rfl) fun x y u v w c fu fv hx hy e => by
   cases e;exact nt (sI x y u v fu fv w hx.ip hy.ip)
 ·exact ua (enters_of Tryz.func167 (by kernel_rfl) rfl) fun x y u v w c fu fv hx hy e => by
   split at e
   ·cases e
   ·next hz=>
    cases e;have hv:=TZ hz;unfold Ans;refine(Af x y u v fu fv w hx.ip hy.ip).mono ?_;rintro e w' ⟨q,r,rfl,h1,h2,hb⟩;rw[ai hv]at h2;refine⟨_,rfl,fun A ρ=>?_,hb⟩;rw[ai hv];simp only[VR,VRl];exact⟨_,rfl,_,_,rfl,⟨q,rfl,h1⟩,_,_,rfl,⟨r,rfl,h2⟩,_,_,rfl,zd 0 A ρ,rfl⟩
 ·exact ua (enters_of Tryz.func161 (by kernel_rfl) rfl) fun x y u v w c fu fv hx hy e => by
   cases e;rw[Qn];exact Hy (Bq x y u v fu fv w hx.ip hy.ip)
 ·exact ua (enters_of Tryz.func165 (by kernel_rfl) rfl) fun x y u v w c fu fv hx hy e => by
   cases e;exact nt (Bi x y u v fu fv w hx.ip hy.ip)
 ·intro args r e A ρ w vs hv;refine⟨enters_of Tryz.func124 ah rfl,?_⟩;unfold oOf at e;split at e
  ·next n=>
   split at e
   ·next hb=>
    cases e;rw[bA]at hb;simp only[VRl,VR]at hv;obtain⟨u,r',h1,⟨rfl,_⟩,h3⟩:=hv;subst h3;have:vs= #[.int .i64 n]:=by apply Array.ext';rw[h1]
    rw[this];exact(nt (qW n aa w)).calls A ρ
   ·cases e
  ·cases e
 ·exact uc (enters_of Tryz.func120 (by kernel_rfl) rfl) fun x z w c fz hx e => by
   split at e
   ·next hb=>
    cases e;rw[bA]at hb;have hI:I64 z:=by unfold I64;omega
    unfold Ans;refine(vd x z fz w hx.ip).mono ?_;rintro e w' ⟨rfl,hb⟩;refine⟨_,rfl,fun A ρ=>?_,hb⟩;rw[show smv z=z from an hI,show decide (I64 z)=true from aB hI];simp only[VR,VRl];exact⟨_,rfl,_,_,rfl,zd z A ρ,_,_,rfl,⟨rfl,rfl⟩,rfl⟩
   ·cases e
 ·exact uc (enters_of Tryz.func112 (by kernel_rfl) rfl) fun x z w c fz hx e => by
   cases e;obtain⟨l,h1,rfl⟩:=hx.ip;have bl:=iC h1.nf fz;exact nt (zD x l aa w h1)
 ·exact uc (enters_of Tryz.func203 (by kernel_rfl) rfl) fun x z w c fz hx e => by
   split at e
   ·next n=>
    generalize sqf 10000 n 0=r at e;unfold rt at e;split at e
    ·next h1=>
     split at e
     ·next h2=>
      cases e;have k1:=fL h1;rw[bA]at h2;unfold Ans;refine(NV x _ fz (Int.natCast_nonneg n) w hx.ip).mono ?_;rintro e w' ⟨⟨y,s,rfl,hy,h3,h4⟩,hb⟩;have:s=r:=Lb h3 h4 k1 h2;subst this;refine⟨_,rfl,fun A ρ=>?_,hb⟩;simp only[VR,VRl];exact⟨_,rfl,_,_,rfl,⟨y,rfl,hy⟩,_,_,rfl,zd 0 A ρ,rfl⟩
     ·cases e
    ·cases e
   ·cases e
 ·exact uc (enters_of Tryz.func95 (by kernel_rfl) rfl) fun x z w c fz hx e => by
   cases e;rw[L8];unfold Ans;refine(jr x z w hx).mono ?_;rintro e w' ⟨rfl,hb⟩;exact⟨_,rfl,fun A ρ=>Ri _ A ρ,hb⟩
 ·exact uc (enters_of Tryz.func101 (by kernel_rfl) rfl) fun x z w c fz hx e => by
   cases e;rw[Qn];exact Hy (uZ x z fz w hx.ip)
 ·exact uc (enters_of Tryz.func102 (by kernel_rfl) rfl) fun x z w c fz hx e => by
   cases e;exact nt (lY x z fz w hx.ip)
 ·exact uc (enters_of Tryz.func185 (by kernel_rfl) rfl) fun x z w c fz hx e => by
   cases e;exact nt (oF x z fz w hx.ip)
 ·exact ua (enters_of Tryz.func121 (by kernel_rfl) rfl) fun x y u v w c fu fv hx hy e => by
   split at e
   ·cases e
   ·cases e;exact nt (kN x y u v fu fv w hx.ip hy.ip)
end CI
end
section
open Go.RowKit
namespace CI
def isTrue:Option Out->Bool
 |some (.val (.sc (.bool true)) _)=>true
 |_=>false
theorem Lu{o:Option Out}(h:isTrue o=true):∃h',o=some (.val (.sc (.bool true)) h'):=by
 unfold isTrue at h;split at h
 ·exact⟨_,rfl⟩
 ·cases h
set_option maxRecDepth 100000 in
theorem MN:isTrue (run (theE Tryz.prog) 3000 (.call (.fn 15 []) [] ⟨0,0,[],.e⟩))=true:=by kernel_rfl
theorem MP(w:World):Calls Tryz.prog 15 #[] w (fun e w'=>e= .returned (.bool true)/\Below w.heap.size w w'):=by
 obtain⟨h',e⟩:=Lu MN;refine(K9 ah RY (Nv _) (enters_of Tryz.func15 ah rfl) e w).mono ?_;rintro e w' ⟨u,A,ρ,rfl,h1,_,h2⟩;simp only[VR]at h1;exact⟨by rw[h1.1],h2⟩
end CI
end
section
open Go.RowKit
namespace DW
theorem sT:Fn Tryz.prog 15 [] (.sc (.bool true)):=by
 refine⟨enters_of Tryz.func15 ah rfl,fun X w vs _ hv=>?_⟩;simp only[ATp]at hv;have:vs= #[]:=cU.1 hv;subst this;refine(CI.MP w).mono fun e w' ⟨h,hb⟩=>⟨_,h,?_,hb⟩;simp only[AR];exact⟨trivial,rfl⟩
set_option maxRecDepth 20000
set_option maxHeartbeats 2000000
end DW
end
section
namespace Mx
theorem nr{A:Mat}{r i j:Nat}(h:i<r):at' (A.take r) i j=at' A i j:=by
 unfold at' rw;rw[ay,ay,im,an h,<-ay,<-ay]
theorem uB{A:Mat}{r i j:Nat}(h:¬i<r):at' (A.take r) i j=0:=by
 have:rw (A.take r) i=[]:=by
  unfold rw;rw[ay,im,ai h];rfl
 unfold at';rw[this];rfl
theorem HF.take:∀(A:Mat) (r:Nat),HF A->HF (A.take r)
 |_,0,_=>trivial
 |[],_+1,_=>trivial
 |a::A,r+1,h=>by
  have hz:∀i j,at' (a::A) i j=0->at' (a::A.take r) i j=0:=fun i j h=>by
   show at' ((a::A).take (r+1)) i j=0;by_cases hi:i<r+1
   ·rw[nr hi];exact h
   ·exact uB hi
  have hz2:∀i j,at' A i j=0->at' (A.take r) i j=0:=fun i j h=>by
   by_cases hi:i<r
   ·rw[nr hi];exact h
   ·exact uB hi
  rcases h with h|⟨p,h1,h2,h3,h4,h5⟩
  ·exact .inl fun i j=>hz i j (h i j)
  ·refine .inr ⟨p,fun i j hj=>hz i j (h1 i j hj),h2,fun i=>hz2 i p (h3 i),HF.take A r h4,fun i q k1 k2=>?_⟩;have hi:i<r:=rN fun hi=>k2 (uB hi);rw[nr hi]at k2⊢;exact h5 i q (fun j hj=>by rw[<-nr (r:=r) hi];exact k1 j hj) k2
theorem HF.div{g:Int}(hg:0<g):∀(A B:Mat),A.length=B.length->(∀i j,at' A i j=g*at' B i j)->HF A->HF B
 |_,[],_,_,_=>trivial
 |[],b::B,hl,_,_=>by simp at hl
 |a::A,b::B,hl,h,hA=>by
  have h0:∀j,a.getD j 0=g*b.getD j 0:=fun j=>h 0 j;have ht:∀i j,at' A i j=g*at' B i j:=fun i j=>h (i+1) j;have hz:∀{x:Int},g*x=0->x=0:=fun e=>by
   rcases uV.1 e with e|e
   ·omega
   ·exact e
  rcases hA with hA|⟨p,h1,h2,h3,h4,h5⟩
  ·exact .inl fun i j=>hz (by rw[<-h i j];exact hA i j)
  ·refine .inr ⟨p,fun i j hj=>hz (by rw[<-h i j];exact h1 i j hj),?_,fun i=>hz (by rw[<-ht i p];exact h3 i),HF.div hg A B mI ht h4,fun i q k1 k2=>?_⟩
   ·rw[h0]at h2;exact Dd (a:=g) (by rw[cJ];exact h2) aa
   ·have h6:=h5 i q (fun j hj=>by rw[ht,k1 j hj,cJ]) (by rw[ht];exact fun e=>k2 (hz e));rw[h0,ht]at h6;exact⟨Int.le_of_mul_le_mul_left (a:=g) (by rw[cJ];exact h6.1) hg,Dd (a:=g) h6.2 aa⟩
theorem nH_hf{n:Nat}{M:Mat}(h:Rc n M):HF (nH n M):=by
 obtain⟨pv,he⟩:=lp n 0 (0,M) id h (jv M);rw[bu]at he;have h2:=Fh ((dz n 0 (0,M) h).rc h) he (red n 0 (0,M)).2.length 0 (bu _).symm;rw[dA]at h2;exact HF.take _ _ h2
theorem nH_nz{n:Nat}{M:Mat}(h:Rc n M):∀l∈nH n M,l.all (fun z=>decide (z=0))=false:=fun l hl=>by
 rw[<-wM h]at hl;unfold DW.fil at hl;have:=(List.mem_filter.1 hl).2;simpa using this
theorem Sa{n:Nat}{X:Mat}(h:Rc n X)(hf:HF X)(hz:∀l∈X,l.all (fun z=>decide (z=0))=false):nH n X=X:=by
 obtain⟨pv,he⟩:=lp n 0 (0,X) id h (jv X);rw[bu]at he;have hre:=dz n 0 (0,X) h;have h2:=Fh (hre.rc h) he (red n 0 (0,X)).2.length 0 (bu _).symm;rw[dA]at h2;have hs:=hre.sp h;have:=Hc (red n 0 (0,X)).2 X hre.len (hre.rc h) h h2 hf hs.1 hs.2;rw[<-wM h,this];exact Bj hz
theorem Mm:∀(row:List Int) (z:Int),gR row z∣z/\∀x∈row,gR row z∣x
 |[],z=>⟨Int.dvd_refl z,fun x hx=>by cases hx⟩
 |x::l,z=>by
  have h:=Mm l ((Int.gcd z x:Nat):Int);refine⟨yI h.1 (Int.gcd_dvd_left ..),fun y hy=>?_⟩;rcases bP.1 hy with rfl|hy
  ·exact yI h.1 (Int.gcd_dvd_right ..)
  ·exact h.2 y hy
theorem jW:∀(M:Mat) (z:Int),gM M z∣z/\∀l∈M,∀x∈l,gM M z∣x
 |[],z=>⟨Int.dvd_refl z,fun x hx=>by cases hx⟩
 |r::M,z=>by
  have h:=jW M (gR r z);have h1:=Mm r z;refine⟨yI h.1 h1.1,fun l hl=>?_⟩;rcases bP.1 hl with rfl|hl
  ·exact fun x hx=>yI h.1 (h1.2 x hx)
  ·exact h.2 l hl
theorem Qw:∀(row:List Int) (z:Int),0<=z->0<=gR row z
 |[],_,h=>h
 |x::l,z,_=>Qw l _ (Int.natCast_nonneg _)
theorem Qy:∀(M:Mat) (z:Int),0<=z->0<=gM M z
 |[],_,h=>h
 |r::M,z,h=>Qy M _ (Qw r z h)
theorem Ml{g:Int}(hg:0<=g):∀(row:List Int) (z:Int),gR (row.map (fun x=>g*x)) (g*z)=g*gR row z
 |[],_=>rfl
 |x::l,z=>by
  have h:=Ml hg l ((Int.gcd z x:Nat):Int);show gR (l.map (fun x=>g*x)) ((Int.gcd (g*z) (g*x):Nat):Int)=g*gR l ((Int.gcd z x:Nat):Int);rw[<-h,Int.gcd_mul_left,Int.natCast_mul,yQ hg]
theorem Mp{g:Int}(hg:0<=g):∀(M:Mat) (z:Int),gM (mapM (fun x=>g*x) M) (g*z)=g*gM M z
 |[],_=>rfl
 |r::M,z=>by
  show gM (mapM (fun x=>g*x) M) (gR (r.map (fun x=>g*x)) (g*z))=g*gM M (gR r z);rw[Ml hg,Mp hg]
theorem vw{g:Int}{M:Mat}(h:∀l∈M,∀x∈l,g∣x):mapM (fun x=>g*x) (mapM (fun x=>x/g) M)=M:=by
 unfold mapM;rw[List.map_map];have:∀l∈M,(List.map (fun x=>g*x)∘List.map (fun x=>x/g)) l=l:=fun l hl=>by
  show List.map (fun x=>g*x) (List.map (fun x=>x/g) l)=l;rw[List.map_map];have:∀x∈l,((fun x=>g*x)∘(fun x=>x/g)) x=x:=fun x hx=>rK (h l hl x hx);rw[lD this,List.map_id']
 rw[lD this,List.map_id']
theorem jo(f:Int->Int)(hf:f 0=0)(M:Mat)(i j:Nat):at' (mapM f M) i j=f (at' M i j):=by
 unfold at';rw[mr,ay,ay,bO]
 cases(rw M i)[j]? with
 |none=>exact hf.symm
 |some x=>rfl
theorem eE{n:Nat}{M:Mat}{d:Int}(h:Rc n M)(hd:0<d):nH n (nR n M d)=nR n M d/\nG n (nR n M d) (d/nG n M d)=1/\nR n (nR n M d) (d/nG n M d)=nR n M d/\Rc n (nR n M d)/\0<nG n M d/\0<d/nG n M d:=by
 have hD:=jW (nH n M) d;have hp:0<nG n M d:=by
  have h1:=Qy (nH n M) d aa;have h2:=(DW.CJ (nH n M) d aa).1;unfold nG;omega
 have hH:=Qr h;have hF:=nH_hf h;have hZ:=nH_nz h;have hR:Rc n (nR n M d):=sJ hH;have hb:mapM (fun x=>nG n M d*x) (nR n M d)=nH n M:=vw hD.2;have hdd:nG n M d*(d/nG n M d)=d:=rK hD.1;have hg:gM (nH n M) d=nG n M d:=rfl;have hX:nH n (nR n M d)=nR n M d:=Sa hR (HF.div hp (nH n M) (nR n M d) (cB _ _).symm (fun i j=>by
  conv=>lhs;rw[<-hb]
  exact jo _ (cJ _) _ _ _) hF) fun l hl=>by
   obtain⟨r,hr,rfl⟩:=dE.1 hl;have h1:=hZ r hr;rw[List.all_eq_false]at h1⊢;obtain⟨x,hx,h2⟩:=h1;refine⟨x/nG n M d,dE.2 ⟨x,hx,rfl⟩,?_⟩;have h3:=rK (hD.2 r hr x hx);rw[hg]at h3;simp only[decide_eq_true_eq]at h2⊢;intro h4;rw[h4,cJ]at h3;exact h2 h3.symm
 have hG:nG n (nR n M d) (d/nG n M d)=1:=by
  have h1:=Mp (g:=nG n M d) aa (nR n M d) (d/nG n M d);rw[hb,hdd,hg]at h1;have h2:nG n M d*(gM (nR n M d) (d/nG n M d)-1)=0:=by rw[Int.mul_sub,<-h1,pg,Int.sub_self]
  show gM (nH n (nR n M d)) (d/nG n M d)=1;rw[hX];rcases uV.1 h2 with h2|h2
  ·omega
  ·omega
 refine⟨hX,hG,?_,hR,hp,?_⟩
 ·show mapM (fun z=>z/nG n (nR n M d) (d/nG n M d)) (nH n (nR n M d))=nR n M d;rw[hG,hX];unfold mapM;have:∀l:List Int,l.map (fun z=>z/1)=l:=fun l=>by
   rw[lD (g:=fun x=>x) (fun x _=>Int.ediv_one x),List.map_id']
  rw[lD (g:=fun x=>x) (fun l _=>this l),List.map_id']
 ·refine Dd (a:=nG n M d) ?_ aa;rw[hdd,cJ];exact hd
end Mx
end
section
open Go.RowKit
namespace DW
theorem zG{n:Nat}{m:Mx.Mat}:∀{l:List Int},l∈nH n m->l∈(Mx.red n 0 (0,m)).2:=fun h=>ph h
theorem GQ{n:Nat}{den:Int}{m:Mx.Mat}(hc:lck n m den=0):Mx.Bd (2^(50*11^n)) (Mx.red n 0 (0,m)).2:=by
 have:=Mx.sC (n:=n) (e:=50) aa n 0 0 m (jn hc) (by simpa using zP hc);rw[bu]at this;exact this
theorem oN{g x:Int}(hg:0<g)(h:g∣x):(x/g).natAbs<=x.natAbs:=by
 have h1:=rK h;have h2:x.natAbs=g.natAbs*(x/g).natAbs:=by rw[<-eQ,h1]
 rw[h2];exact Dl _ aa
theorem fD{n:Nat}{den:Int}{m:Mx.Mat}(hc:lck n m den=0):(den/nG n m den).natAbs<=2^50:=by
 have hd:=(iQ hc).1;have h1:=(Mx.eE (jn hc) (show 0<den by omega)).2.2.2.2.1;exact aA (oN h1 (Mx.jW (nH n m) den).1) (aA (show den.natAbs<=1000000000000000 by omega) aq)
theorem LC{n:Nat}{den:Int}{m:Mx.Mat}(hc:lck n m den=0):(nR n m den).length<=64:=by
 have h1:=(iQ hc).2.1;have h2:=zH (jn hc);unfold nR;rw[cB];omega
theorem zK{dim:Int}:∀{m:List (List Int)},(∀l∈m,(l.length:Int)=dim/\∀z∈l,inb 1000000000000000 z=true)->eY dim m=0
 |[],_=>rfl
 |r::t,h=>by
  unfold eY;have h1:=h r bw;rw[an h1.1,ai,zK fun l hl=>h l (bC _ hl)];intro h4;rw[mO]at h4;obtain⟨z,hz,h6⟩:=h4;unfold big at h6;rw[h1.2 z hz]at h6;cases h6
theorem N2(n:Nat)(den:Int)(m:Mx.Mat)(hc:lck n m den=0)(hn:n<=5):Fn Tryz.prog 158 [dW m,.nm den,zI n] (.tp [dW (nR n m den),.nm (den/nG n m den)]):=by
 obtain⟨k1,k2,k3⟩:=iQ hc;have hR:=jn hc;have h5:=Rg hn;exact SY m n 50 n den hR aa aa aa (.inr (af _)) h5 (zP hc) (bQ (e:=50) (aA (show den.natAbs<=1000000000000000 by omega) aq) aa) aa
  (fun l hl x hx=>bQ (sS (GQ hc) (zG hl) hx) aa) (fun l hl x hx=>bQ (sS (GQ hc) hl hx) aa)
theorem LV{n:Int}{m:List (List Int)}(h:lgt n m=true):n≠6/\m.length<=70/\∀l∈m,l.length<=10:=by
 unfold lgt at h;rw[ei,uR,yL,yL,bU,bU,eh]at h;exact⟨h.1.1.1,by omega,fun l hl=>pO (h.2 l hl)⟩
set_option maxRecDepth 20000
set_option maxHeartbeats 2000000
end DW
end
section
open Go.RowKit
namespace DW
section
variable {P : Program} {X0 : Nat->Prop} {n : Nat} {sl : List (Nat × D)} {ow : List (Nat × Ow)}
end
section
variable {P : Program} {s : S} {o : Oper}
theorem SJ{x y:Operand}{tt:TypeId}{d1 d2:D}{wd:Nat}(ho:o.op= .buildSlice tt 2 #[(0,x),(1,y)])(hx:s.op x=d1)(hy:s.op y=d2)(hf1:d1.fits=true)(hf2:d2.fits=true)(hw1:d1.wd=wd)(hw2:d2.wd=wd)(ht:P.underlying tt=some (.slice (P.elem tt)))(hz:(P.info? (P.elem tt)).map (fun i=>(i.zero.isSome,i.size))=some (true,wd))(h0:Nat.blt 0 wd=true)(h1:Nat.ble wd 1000000=true):bF P o s (.ls wd [d1,d2]):=fun X f a w base hX _ hs=>by
 have h0':0<wd:=by simpa[bA]using h0
 have h1':wd<=1000000:=by simpa using h1
 have g1:=hs x bL;have g2:=hs y bL;rw[hx]at g1;rw[hy]at g2;have k1:AR X w d1 (a.eval x):=by cases d1<;>first|exact g1|simp[D.fits]at hf1
 have k2:AR X w d2 (a.eval y):=by cases d2<;>first|exact g2|simp[D.fits]at hf2
 have s1:=AR.size d1 _ hf1 k1;have s2:=AR.size d2 _ hf2 k2
 cases hq:P.info? (P.elem tt)with
 |none=>rw[hq]at hz;cases hz
 |some inf=>
  rw[hq]at hz;simp only[ct,ak,aJ]at hz;obtain⟨z,hz1⟩:=cT.1 hz.1;have hfill:=Go.Great.fill_whole (s:=inf.size) aa [a.eval x,a.eval y] ((Array.range (2*inf.size)).map (z.cells[· %z.cells.size]!)) (by
   intro v hv;simp only[bP,List.not_mem_nil,or_false]at hv;rcases hv with rfl|rfl
   ·rw[s1,hw1,hz.2]
   ·rw[s2,hw2,hz.2]) aV
  have hr:(execOp a.eval o).run P w= .ok (.value (.slice (some ⟨w.heap.size,0,none⟩) 2 2)) (w.alloc (.cells ((a.eval x).cells++(a.eval y).cells) (P.elem tt))):=by
   unfold execOp;rw[ho];have:=run_buildSlice (P:=P) w tt (P.elem tt) 2 #[(0,a.eval x),(1,a.eval y)] ((a.eval x).cells++(a.eval y).cells) inf z ht hq hz1 wh wh (by
    have e:((a.eval x).cells.toList++(a.eval y).cells.toList).toArray=(a.eval x).cells++(a.eval y).cells:=by rw[<-uQ]
    rw[<-e];simpa using hfill)
   simp[Sem.run_bind,this]
  have hb:Below w.heap.size w (w.alloc (.cells ((a.eval x).cells++(a.eval y).cells) (P.elem tt))):=(Below.refl _ _).alloc (af _) _;have hra:=lH w ((a.eval x).cells++(a.eval y).cells) (P.elem tt);rw[hr];refine⟨?_,hb,fun h=>by simp[D.qc]at h⟩;simp only[SR,AR,ARs,reduceCtorEq,false_or];refine⟨_,2,rfl,af _,w.heap.size,0,rfl,fun e=>by have:=(hX _ e).1;omega,by simp,⟨a.eval x,k1.grow hb,hf1,hw1,fun j v hj=>hra j v ?_⟩,⟨a.eval y,k2.grow hb,hf2,hw2,fun j v hj=>?_⟩,trivial⟩
  ·rw[uQ,dQ (cD.1 hj).1];exact hj
  ·have := hra (wd + j) v (by
    rw[uQ,fU (by simp[s1,hw1]),bW,s1,hw1,oe];exact hj)
   rwa[<-ou]at this
end
end DW
end
end Go.Proofs.YtcgjmdpcplhanaaGreat
