/- Lemmas for the law: E45 -/
import Derived.Test.YtcgjmdpcplhanaaGreatZm14
namespace Go.Proofs.YtcgjmdpcplhanaaGreat
section
theorem zs142{p q:Prop}(h:q)(f:Wq q→p:=by(intro hW;((first|(refine aLs rfl rfl rfl rfl ?_ ?_;(focus(apply aK;(conv=>lhs;whnf);(first|done|exact rfl|(apply aG;(first|(apply decide_eq_true;omega)|(apply decide_eq_false;omega)|assumption|(simp;done)))))))|refine aLw rfl rfl rfl rfl bj zb28 ?_));exact hW.out)):p:=f ⟨h⟩
theorem xX{p q:Prop}(h:q)(f:Wq q→p:=by(intro hW;((first|(refine aLs rfl rfl rfl rfl ?_ ?_;(focus(apply aK;(conv=>lhs;whnf);(first|done|exact rfl|(apply aG;(first|(apply decide_eq_true;omega)|(apply decide_eq_false;omega)|assumption|(simp;done)))))))|refine aLw rfl rfl rfl rfl bj rj ?_));exact hW.out)):p:=f ⟨h⟩
theorem Dl{p q:Prop}(h:q)(f:Wq q→p:=by(intro hW;((refine gar ?_;refine jo ?_;refine aJ ?_;refine zs7 ?_;refine zs4 ?_;refine tf ?_;refine iy ?_;refine lU ?_;refine gE ?_;refine zs4 ?_;refine xX ?_;refine iy ?_;refine zs142 ?_;refine gE ?_;refine ae ?_));exact hW.out)):p:=f ⟨h⟩
theorem Eg{p q:Prop}(h:q)(f:Wq q→p:=by(intro hW;(refine aL1 rfl rfl rfl (by(apply fH;(focus(exact rfl));(focus((apply ao;(conv=>lhs;whnf);(first|done|exact rfl))));(focus(exact bu));(focus(exact rfl));(focus(exact rfl));(focus(assumption));(focus(exact rfl)))) ?_);exact hW.out)):p:=f ⟨h⟩
theorem Dp{p q:Prop}(h:q)(f:Wq q→p:=by(intro hW;((refine Ej ?_;refine bA ?_;refine bA ?_;refine dn ?_;refine bV ?_;refine bA ?_;refine bA ?_;refine dn ?_;refine bV ?_;refine bA ?_;refine dn ?_;refine bV ?_;refine bV ?_;refine iV ?_;refine iV ?_;refine bA ?_;refine eL ?_;refine eL ?_;refine eL ?_;refine Ei ?_;refine Eh ?_;refine gK ?_;refine gK ?_;refine pR ?_;refine jx ?_));exact hW.out)):p:=f ⟨h⟩
theorem Dn{p q:Prop}(h:q)(f:Wq q→p:=by(intro hW;((refine gar ?_;refine gF ?_;refine aJ ?_;refine zs4 ?_;refine cE ?_;refine aJ ?_;refine bL ?_;refine fW ?_;refine ae ?_));exact hW.out)):p:=f ⟨h⟩
theorem lW{p q:Prop}(h:q)(f:Wq q→p:=by(intro hW;((refine gar ?_;refine gF ?_;refine aJ ?_;refine zs5 ?_;refine gF ?_;refine aJ ?_;refine zs53 ?_;refine ae ?_));exact hW.out)):p:=f ⟨h⟩
theorem zs141{p q:Prop}(h:q)(f:Wq q→p:=by(intro hW;((first|(refine aLs rfl rfl rfl rfl ?_ ?_;(focus(apply aK;(conv=>lhs;whnf);(first|done|exact rfl|(apply aG;(first|(apply decide_eq_true;omega)|(apply decide_eq_false;omega)|assumption|(simp;done)))))))|refine aLw rfl rfl rfl rfl bj (by(apply fH;(focus(exact rfl));(focus((apply ao;(conv=>lhs;whnf);(first|done|exact rfl))));(focus((first|exact op_zero|exact rfl)));(focus(exact rfl));(focus(exact rfl));(focus((first|exact fail)));(focus(exact rfl)))) ?_));exact hW.out)):p:=f ⟨h⟩
theorem Dm{p q:Prop}(h:q)(f:Wq q→p:=by(intro hW;((refine gar ?_;refine jo ?_;refine aJ ?_;refine zs7 ?_;refine zs4 ?_;refine tf ?_;refine iy ?_;refine lU ?_;refine gE ?_;refine zs4 ?_;refine xX ?_;refine iy ?_;refine zs141 ?_;refine gE ?_;refine ae ?_));exact hW.out)):p:=f ⟨h⟩
theorem sV{p q:Prop}(h:q)(f:Wq q→p:=by(intro hW;((refine gar ?_;refine zs4 ?_;refine gF ?_;refine aJ ?_;refine zs5 ?_;refine jn ?_;refine ae ?_));exact hW.out)):p:=f ⟨h⟩
end
section
open Go.RowKit
namespace DW
set_option maxRecDepth 20000
set_option maxHeartbeats 2000000
theorem rin_d(dim:Nat)(den dl d:Int)(m R:Mx.Mat)(l:List Int)(hn:l.length=dim)(hn5:dim≤1000000)(hR:Mx.Rc dim R)(hRl:R.length≤64)(hnz:∀r∈R,r.all (fun z=>decide (z=0))=false)(f:Nat)(hf:f=520)(hb:∀r∈R,∀x∈r,x.natAbs≤2^f)(hdl:dl.natAbs≤2^50)(hd0:d≠0)(hd:I64 d)(hd50:d.natAbs≤2^50)(hl:∀z∈l,I64 z∧z.natAbs≤2^50)(L0:List Int)(hL0:L0=l.map fun z=>z*dl)(BS:Fn Tryz.prog 105 [dL dim m den] (.tp [dW R,.nm dl])):
  Fn Tryz.prog 127 [dL dim m den,dV l d] (pF (crd d R L0)):=by
 have OD:=pe d (by unfold I64 at hd;omega)
 have hL0l:L0.length=dim:=by rw[hL0,List.length_map,hn]
 refine aF Tryz.func127 af rfl rfl rfl fun X0=>?_
 simp only[aA]
 (repeat(first|refine gk fun K hK=>?_|refine zs2 ?_));(refine gar ?_;refine cK ?_;refine cK ?_;refine zs3 ?_;refine jj ?_;refine ae ?_);(repeat(first|refine gk fun K hK=>?_|refine zs2 ?_));(refine gar ?_;refine aJ ?_;refine bL ?_;refine zs4 ?_;refine eQ ?_;refine eQ ?_;refine Ep ?_;refine zs6 ?_;refine eJ ?_;refine ae ?_);(repeat(first|refine gk fun K hK=>?_|refine zs2 ?_));(refine gar ?_;refine jo ?_;refine aJ ?_;refine bL ?_;refine Ek ?_;refine eJ ?_;refine ae ?_);(repeat(first|refine gk fun K hK=>?_|refine zs2 ?_));refine bK ?_;(repeat(first|refine gk fun K hK=>?_|refine zs2 ?_));refine aQ ?_;(repeat(first|refine gk fun K hK=>?_|refine zs2 ?_))
 refine aq (b7 (t:=9) (k:=30) (T:=62) (wd:=2) b9 rfl rfl bB) ?_
 (refine aq (ai (sl':=[(2,.pt (dL dim m den)),(3,.pt (dV l d)),(6,dW R),(7,.opt 7 0),(8,.opt 8 0),(9,.own 30),(10,zI 0)]) (ow':=[(30,⟨62,2,[]⟩),(8,⟨62,2,[.nm d]⟩),(7,⟨62,2,[.nm dl]⟩)]) au aw) ?_)
 refine aH (fun r s=>∃k,k≤dim∧r=dim-k∧s=⟨[(2,.pt (dL dim m den)),(3,.pt (dV l d)),(6,dW R),(7,.opt 7 0),(8,.opt 8 0),(9,.own 30),(10,zI (k:Nat))],[(30,⟨62,2,(L0.take k).map .nm⟩),(8,⟨62,2,[.nm d]⟩),(7,⟨62,2,[.nm dl]⟩)]⟩) (m:=dim) ⟨0,Nat.zero_le _,rfl,rfl⟩ fun r s hs=>?_
 obtain⟨k,hk,rfl,rfl⟩:=hs
 by_cases hkl:k<dim
 ·obtain⟨z,hz⟩:=get_some (m:=l) (k:=k) (by omega)
  have hzb:=hl z (List.mem_of_getElem? hz)
  have OZ:=pe z (by have:=hzb.1;unfold I64 at this;omega)
  have ML:=tw z dl (aY hzb.2 (by omega)) (aY hdl (by omega))
  have hzL:L0[k]?=some (z*dl):=by rw[hL0,List.getElem?_map,hz];rfl
  have hsn:=bc hzL
  have hfl:(L0.take k).length≤1000000:=by rw[List.length_take];omega
  obtain⟨W,hW⟩:∃W,W=L0.take k:=⟨_,rfl⟩
  rw[←hW]at hsn hfl
  rw[←hW]
  clear hW hL0 hzL
  generalize z*dl=zd at*
  (repeat(first|refine gk fun K hK=>?_|refine zs2 ?_));refine pN ?_;(repeat(first|refine gk fun K hK=>?_|refine zs2 ?_))
  refine av ?_
  (repeat(first|refine gk fun K hK=>?_|refine zs2 ?_));(((first|(apply ak 10;(focus kernel_rfl);(focus(decide+kernel)))|(apply ak 9;(focus kernel_rfl);(focus(decide+kernel)))|(apply ak 8;(focus kernel_rfl);(focus(decide+kernel)))|(apply ak 7;(focus kernel_rfl);(focus(decide+kernel)))|(apply ak 6;(focus kernel_rfl);(focus(decide+kernel)))|(apply ak 5;(focus kernel_rfl);(focus(decide+kernel)))|(apply ak 4;(focus kernel_rfl);(focus(decide+kernel)))|(apply ak 3;(focus kernel_rfl);(focus(decide+kernel))));simp only[List.take_succ_cons,List.take_zero,List.drop_succ_cons,List.drop_zero]);refine a8 ?_;refine oU ?_;refine bq ?_;refine a8 ?_;refine dQ ?_;refine bq ?_;refine lV ?_;refine bq ?_;refine gG ?_;refine zs92 ?_;refine En ?_;refine jL ?_;refine cV ?_);(repeat(first|refine gk fun K hK=>?_|refine zs2 ?_));refine ba ?_;(repeat(first|refine gk fun K hK=>?_|refine zs2 ?_))
  simp only[nx,inB]
  exact⟨dim-(k+1),_,by omega,(ai (sl':=[(2,.pt (dL dim m den)),(3,.pt (dV l d)),(6,dW R),(7,.opt 7 0),(8,.opt 8 0),(9,.own 30),(10,zI ((k+1:Nat):Int))]) (ow':=[(30,⟨62,2,W.map .nm++[.nm zd]⟩),(8,⟨62,2,[.nm d]⟩),(7,⟨62,2,[.nm dl]⟩)]) au aw),k+1,by omega,rfl,by rw[hsn,List.map_append];rfl⟩
 ·obtain rfl:k=dim:=by omega
  rw[List.take_of_length_le (by omega)]
  have hL0b:∀z∈L0,z.natAbs≤2^(100+571*0):=fun z hz=>by
   rw[hL0]at hz
   obtain⟨y,hy,rfl⟩:=List.mem_map.1 hz
   exact mB (a:=50) (b:=50) (hl y hy).2 hdl
  clear hL0 hl
  (repeat(first|refine gk fun K hK=>?_|refine zs2 ?_));refine pN ?_;(repeat(first|refine gk fun K hK=>?_|refine zs2 ?_))
  refine ay ?_
  (repeat(first|refine gk fun K hK=>?_|refine zs2 ?_))
  refine aq (aE (k:=30) aU bs br) ?_
  (repeat(first|refine gk fun K hK=>?_|refine zs2 ?_));refine bK ?_;(repeat(first|refine gk fun K hK=>?_|refine zs2 ?_));refine aQ ?_;(repeat(first|refine gk fun K hK=>?_|refine zs2 ?_))
  refine aq (b7 (t:=11) (k:=11) (T:=62) (wd:=2) b9 rfl rfl bB) ?_
  (refine aq (ai (sl':=[(6,dW R),(8,.opt 8 0),(9,dZ L0),(11,.own 11),(12,zI 0)]) (ow':=[(11,⟨62,2,[]⟩),(8,⟨62,2,[.nm d]⟩)]) au aw) ?_)
  refine aH (fun r s=>∃i left out,i≤R.length∧r=R.length-i∧left.length=k∧(∀z∈left,z.natAbs≤2^(100+571*i))∧crd d R L0=(crd d (R.drop i) left).map (fun x=>(out++x.1,x.2))∧out.length=i∧s=⟨[(6,dW R),(8,.opt 8 0),(9,dZ left),(11,.own 11),(12,zI (i:Nat))],[(11,⟨62,2,out.map .nm⟩),(8,⟨62,2,[.nm d]⟩)]⟩) (m:=R.length) ⟨0,L0,[],Nat.zero_le _,rfl,hL0l,hL0b,by simp,rfl,rfl⟩ fun r s hs=>?_
  clear hL0b hL0l
  obtain⟨i,left,out,hi,rfl,hll,hlb,hcr,hol,rfl⟩:=hs
  by_cases hil:i<R.length
  ·obtain⟨r,hr⟩:=get_some hil
   have hmem:=List.mem_of_getElem? hr
   have hrl:=hR r hmem
   obtain⟨x,hp,hpl,hpx,hx0,hpd,hpz⟩:=Aj (hnz r hmem)
   have hst:=vw hr hcr
   rw[hpd]at hst
   obtain⟨y,hy⟩:=get_some (m:=left) (k:=pl0 r) (by omega)
   have hyd:left.getD (pl0 r) 0=y:=by rw[List.getD_eq_getElem?_getD,hy];rfl
   rw[hyd]at hst
   have hyb:=hlb y (List.mem_of_getElem? hy)
   have hxb:=hb r hmem x (List.mem_of_getElem? hpx)
   have ha:100+571*i≤40000:=by omega
   have M1:=tw x d (aY hxb (by omega)) (aY hd50 (by omega))
   rw[Int.mul_comm x d]at M1
   have hdx0:d*x≠0:=Int.mul_ne_zero hd0 hx0
   have hdxb:=mB hd50 hxb
   have DM:=mR y (d*x) (aY hyb (by omega)) (aY hdxb (by omega)) hdx0
   have CBk:=zf (D:=d*x) hf hlb hyb hd50 (hb r hmem)
   have hsm:(y%(d*x)).natAbs≤2^(50+f):=by
    have h1:=Int.emod_nonneg y hdx0
    have h2:=Int.emod_lt y hdx0
    exact Nat.le_trans (by omega) hdxb
   have SX:=jf (y%(d*x)) (aY hsm (by omega))
   have gx:=jR (y%(d*x))
   have hrb:=hb r hmem
   have SG:=fun z (hz:z∈r)=>jf z (aY (hrb z hz) (by omega))
   clear hcr hnz hyd hpd hp hsm
   generalize pl0 r=p at*
   obtain⟨q,hq⟩:∃q,q=y/(d*x):=⟨_,rfl⟩
   obtain⟨t,ht⟩:∃t,t=y%(d*x):=⟨_,rfl⟩
   rw[←hq,←ht]at hst DM
   rw[←hq]at CBk
   rw[←ht]at SX gx
   (repeat(first|refine gk fun K hK=>?_|refine zs2 ?_));refine bh ?_;(repeat(first|refine gk fun K hK=>?_|refine zs2 ?_))
   refine av ?_
   (repeat(first|refine gk fun K hK=>?_|refine zs2 ?_));refine aQ ?_;(repeat(first|refine gk fun K hK=>?_|refine zs2 ?_))
   (refine aq (ai (sl':=[(6,dW R),(8,.opt 8 0),(9,dZ left),(11,.own 11),(12,zI (i:Nat)),(13,zI 0)]) (ow':=[(11,⟨62,2,out.map .nm⟩),(8,⟨62,2,[.nm d]⟩)]) au aw) ?_)
   refine aH (fun rr s=>∃c,c≤p∧rr=p-c∧s=⟨[(6,dW R),(8,.opt 8 0),(9,dZ left),(11,.own 11),(12,zI (i:Nat)),(13,zI (c:Nat))],[(11,⟨62,2,out.map .nm⟩),(8,⟨62,2,[.nm d]⟩)]⟩) (m:=p) ⟨0,Nat.zero_le _,rfl,rfl⟩ fun rr s hs=>?_
   obtain⟨c,hc,rfl,rfl⟩:=hs
   by_cases hcp:c<p
   ·obtain⟨b,hbc⟩:=get_some (m:=r) (k:=c) (by omega)
    have hb0:=hpz c b hcp hbc
    have SB:=SG b (List.mem_of_getElem? hbc)
    have gb:sgn b=0:=(jR b).2 hb0
    clear CBk hst hq ht
    (repeat(first|refine gk fun K hK=>?_|refine zs2 ?_));refine jw ?_;(repeat(first|refine gk fun K hK=>?_|refine zs2 ?_))
    refine av ?_
    (repeat(first|refine gk fun K hK=>?_|refine zs2 ?_));refine ba ?_;(repeat(first|refine gk fun K hK=>?_|refine zs2 ?_))
    simp only[nx,inB]
    exact⟨p-(c+1),_,by omega,(ai (sl':=[(6,dW R),(8,.opt 8 0),(9,dZ left),(11,.own 11),(12,zI (i:Nat)),(13,zI ((c+1:Nat):Int))]) (ow':=[(11,⟨62,2,out.map .nm⟩),(8,⟨62,2,[.nm d]⟩)]) au aw),c+1,by omega,rfl,rfl⟩
   ·obtain rfl:c=p:=by omega
    have SB:=SG x (List.mem_of_getElem? hpx)
    have gb:=jR x
    by_cases ht0:t=0
    ·have hcr:=hst.1 ht0
     have MA:=tw q d (aY CBk.q1 (by omega)) (aY hd50 (by omega))
     have TK:=tX left r (q*d) (by omega) (by omega) (fun z hz=>aY (hlb z hz) (by omega)) (fun z hz=>⟨aY (hrb z hz) (by omega),aY (CBk.q3 z hz) (by omega)⟩) (aY CBk.q2 (by omega))
     obtain⟨N2,hN2⟩:∃N2,N2=Mx.cg (-(q*d)) left r:=⟨_,rfl⟩
     have hN2l:N2.length=k:=by rw[hN2,Mx.gw _ _ _ (by omega)];exact hll
     rw[←hN2]at hcr TK
     have hN2b:∀z∈N2,z.natAbs≤2^(100+571*(i+1)):=fun z hz=>by
      rw[hN2]at hz
      have:=CBk.q4 z hz
      rwa[show 100+571*i+571=100+571*(i+1) by omega]at this
     obtain⟨O2,hO2⟩:∃O2,O2=out++[q]:=⟨_,rfl⟩
     have hO2l:O2.length=i+1:=by rw[hO2,List.length_append,hol];rfl
     rw[←hO2]at hcr
     obtain⟨qd,hqd⟩:∃qd,qd=q*d:=⟨_,rfl⟩
     rw[←hqd]at MA TK
     clear hst hq ht hdx0 hdxb CBk hN2 hqd SG hpz
     (repeat(first|refine gk fun K hK=>?_|refine zs2 ?_));refine jw ?_;(repeat(first|refine gk fun K hK=>?_|refine zs2 ?_))
     refine ay ?_
     (repeat(first|refine gk fun K hK=>?_|refine zs2 ?_));refine Dp ?_;(repeat(first|refine gk fun K hK=>?_|refine zs2 ?_));(refine gar ?_;refine aJ ?_;refine bL ?_;refine zs43 ?_;refine ae ?_);(repeat(first|refine gk fun K hK=>?_|refine zs2 ?_))
     refine ay ?_
     (repeat(first|refine gk fun K hK=>?_|refine zs2 ?_));(refine zs58 ?_;refine a8 ?_;refine a8 ?_;refine a8 ?_;refine dQ ?_;refine bq ?_;refine bq ?_;refine bq ?_;refine gG ?_;refine x8 ?_;refine jL ?_;refine cV ?_);(repeat(first|refine gk fun K hK=>?_|refine zs2 ?_));refine Dq ?_;(repeat(first|refine gk fun K hK=>?_|refine zs2 ?_));refine ba ?_;(repeat(first|refine gk fun K hK=>?_|refine zs2 ?_))
     simp only[nx,inB]
     exact⟨R.length-(i+1),_,by omega,(ai (sl':=[(6,dW R),(8,.opt 8 0),(9,dZ N2),(11,.own 11),(12,zI ((i+1:Nat):Int))]) (ow':=[(11,⟨62,2,out.map .nm++[.nm q]⟩),(8,⟨62,2,[.nm d]⟩)]) au aw),i+1,N2,O2,by omega,rfl,hN2l,hN2b,hcr,hO2l,by rw[hO2,List.map_append];rfl⟩
    ·have hcr:=hst.2 ht0
     have EC:pF (crd d R L0)= .tp [dZ [],.sc (.bool false)]:=by rw[hcr];rfl
     clear hst hq ht hdx0 hdxb CBk hcr SG hpz
     (repeat(first|refine gk fun K hK=>?_|refine zs2 ?_));refine jw ?_;(repeat(first|refine gk fun K hK=>?_|refine zs2 ?_))
     refine ay ?_
     (repeat(first|refine gk fun K hK=>?_|refine zs2 ?_));refine Dp ?_;(repeat(first|refine gk fun K hK=>?_|refine zs2 ?_));(refine gar ?_;refine aJ ?_;refine bL ?_;refine zs43 ?_;refine ae ?_);(repeat(first|refine gk fun K hK=>?_|refine zs2 ?_))
     refine av ?_
     (repeat(first|refine gk fun K hK=>?_|refine zs2 ?_));refine nW ?_;(repeat(first|refine gk fun K hK=>?_|refine zs2 ?_))
     rw[EC]
     exact⟨_,ir (t:=4) (wd:=2) b9,.two (.tmp 4) (.tmp 5) _ _ rfl (.tmp 4 rfl) (.tmp 5 rfl)⟩
  ·obtain rfl:i=R.length:=by omega
   rw[List.drop_length]at hcr
   have EC:pF (crd d R L0)= .tp [dZ out,.sc (.bool (left.all fun z=>decide (z=0)))]:=by
    rw[hcr]
    show DW.D.tp [dZ (out++[]),_]=_
    rw[List.append_nil]
   have FI:=CS [left] (by simp) (fun l hl=>by rw[List.mem_singleton.1 hl];omega) (fun l hl z hz=>by
    rw[List.mem_singleton.1 hl]at hz
    exact aY (hlb z hz) (by omega))
   have hfl:((fil [left]).length:Int)=if left.all (fun z=>decide (z=0))=true then 0 else 1:=by
    unfold fil
    cases h:left.all fun z=>decide (z=0)<;>simp[h]
   clear hcr hlb
   generalize left.all (fun z=>decide (z=0))=b at*
   generalize fil [left]=FL at*
   (repeat(first|refine gk fun K hK=>?_|refine zs2 ?_));refine bh ?_;(repeat(first|refine gk fun K hK=>?_|refine zs2 ?_))
   refine ay ?_
   (repeat(first|refine gk fun K hK=>?_|refine zs2 ?_))
   refine aq (aE (k:=11) aU bs br) ?_
   have hbd:decide ((FL.length:Int)=0)=b:=by
    cases b
    ·have h1:(FL.length:Int)=1:=hfl
     exact decide_eq_false (by omega)
    ·exact decide_eq_true hfl
   (repeat(first|refine gk fun K hK=>?_|refine zs2 ?_));(refine gar ?_;refine zs4 ?_;refine zs4 ?_;refine jk ?_;refine bL ?_;refine zs5 ?_;refine oT ?_;refine zs6 ?_;refine zs6 ?_;refine ae ?_);(repeat(first|refine gk fun K hK=>?_|refine zs2 ?_))
   rw[EC,hbd]
   exact⟨_,Sh.refl,.two (.tmp 4) (.tmp 5) _ _ rfl (.tmp 4 rfl) (.tmp 5 rfl)⟩
def vck(dim:Int)(l:List Int)(d:Int):Int:=if(l.length:Int)=dim then(if d<1∨1000000000000000<d∨l.any big=true then 2 else 0)else 9
theorem Hc(dim den d:Int)(m:Mx.Mat)(l:List Int)(hl:l.length≤1000000):Fn Tryz.prog 52 [dL dim m den,dV l d] (zI (vck dim l d)):=by
  by_cases h1:(l.length:Int)=dim
  · have hd1:(!decide ((l.length:Int)=dim))=false:=by rw[decide_eq_true h1];rfl
    refine aF Tryz.func52 af rfl rfl rfl fun X0=> ?_
    simp only[aA]
    (repeat(first|refine gk fun K hK=> ?_|refine zs2 ?_));refine kB ?_;(repeat(first|refine gk fun K hK=> ?_|refine zs2 ?_));refine lW ?_;(repeat(first|refine gk fun K hK=> ?_|refine zs2 ?_))
    refine ay ?_
    (repeat(first|refine gk fun K hK=> ?_|refine zs2 ?_));refine aQ ?_;(repeat(first|refine gk fun K hK=> ?_|refine zs2 ?_))
    (refine aq (ai (sl':=[(2, .pt (dL dim m den)),(3, .pt (dV l d)),(5,zI 0)]) (ow':=[]) au aw) ?_)
    refine aH (fun r s=>∃k,k≤l.length∧r=l.length-k∧(∀z∈l.take k,inb 1000000000000000 z=true)∧s=⟨[(2, .pt (dL dim m den)),(3, .pt (dV l d)),(5,zI (k:Nat))],[]⟩) (m:=l.length) ⟨0,Nat.zero_le _,rfl,fun z h=>absurd h (by simp),rfl⟩ fun r s hs=> ?_
    obtain⟨k,hk,rfl,hin,rfl⟩:=hs
    by_cases hkl:k<l.length
    · obtain⟨z,hz⟩:=get_some hkl
      have FI:=uY z
      by_cases hb:inb 1000000000000000 z=true
      · rw[hb]at FI
        (repeat(first|refine gk fun K hK=> ?_|refine zs2 ?_));refine sV ?_;(repeat(first|refine gk fun K hK=> ?_|refine zs2 ?_))
        refine av ?_
        (repeat(first|refine gk fun K hK=> ?_|refine zs2 ?_));refine Dn ?_;(repeat(first|refine gk fun K hK=> ?_|refine zs2 ?_))
        refine ay ?_
        (repeat(first|refine gk fun K hK=> ?_|refine zs2 ?_));refine ba ?_;(repeat(first|refine gk fun K hK=> ?_|refine zs2 ?_))
        simp only[nx,inB]
        exact⟨l.length-(k+1),_,by omega,(ai (sl':=[(2, .pt (dL dim m den)),(3, .pt (dV l d)),(5,zI ((k+1:Nat):Int))]) (ow':=[]) au aw),k+1,by omega,rfl,fun x hx=>by
          rw[bc hz,List.mem_append]at hx
          rcases hx with hx|hx
          · exact hin x hx
          · rw[List.mem_singleton.1 hx];exact hb,rfl⟩
      · have hb':inb 1000000000000000 z=false:=by simpa using hb
        rw[hb']at FI
        have EC:vck dim l d=2:=by
          unfold vck
          rw[if_pos h1,if_pos (.inr (.inr (List.any_eq_true.2 ⟨z,List.mem_of_getElem? hz,by unfold big;rw[hb'];rfl⟩)))]
        (repeat(first|refine gk fun K hK=> ?_|refine zs2 ?_));refine sV ?_;(repeat(first|refine gk fun K hK=> ?_|refine zs2 ?_))
        refine av ?_
        (repeat(first|refine gk fun K hK=> ?_|refine zs2 ?_));refine Dn ?_;(repeat(first|refine gk fun K hK=> ?_|refine zs2 ?_))
        refine av ?_
        (repeat(first|refine gk fun K hK=> ?_|refine zs2 ?_));refine aQ ?_;(repeat(first|refine gk fun K hK=> ?_|refine zs2 ?_))
        rw[EC]
        exact⟨_,Sh.refl, .one (.tmp 4) _ rfl (.tmp 4 rfl)⟩
    · obtain rfl:k=l.length:=by omega
      rw[List.take_length]at hin
      have WI:=jQ d 1 1000000000000000
      have hnb:l.any big=false:=by
        rw[List.any_eq_false]
        intro z hz h
        unfold big at h
        rw[hin z hz]at h;cases h
      by_cases h2:1≤d∧d≤1000000000000000
      · rw[decide_eq_true h2.1,decide_eq_true h2.2,Bool.and_self]at WI
        have EC:vck dim l d=0:=by
          unfold vck
          rw[if_pos h1,if_neg (by rw[hnb];simp;omega)]
        (repeat(first|refine gk fun K hK=> ?_|refine zs2 ?_));refine sV ?_;(repeat(first|refine gk fun K hK=> ?_|refine zs2 ?_))
        refine ay ?_
        (repeat(first|refine gk fun K hK=> ?_|refine zs2 ?_));(refine gar ?_;refine jo ?_;refine aJ ?_;refine tD ?_;refine fW ?_;refine ae ?_);(repeat(first|refine gk fun K hK=> ?_|refine zs2 ?_))
        refine ay ?_
        (repeat(first|refine gk fun K hK=> ?_|refine zs2 ?_));refine aQ ?_;(repeat(first|refine gk fun K hK=> ?_|refine zs2 ?_))
        rw[EC]
        exact⟨_,Sh.refl, .one (.tmp 4) _ rfl (.tmp 4 rfl)⟩
      · have h3 : (decide (1 ≤ d) && decide (d ≤ 1000000000000000)) = false := by
          rw[Bool.and_eq_false_iff,decide_eq_false_iff_not,decide_eq_false_iff_not]
          omega
        rw[h3]at WI
        have EC:vck dim l d=2:=by
          unfold vck
          rw[if_pos h1,if_pos (by omega)]
        (repeat(first|refine gk fun K hK=> ?_|refine zs2 ?_));refine sV ?_;(repeat(first|refine gk fun K hK=> ?_|refine zs2 ?_))
        refine ay ?_
        (repeat(first|refine gk fun K hK=> ?_|refine zs2 ?_));(refine gar ?_;refine jo ?_;refine aJ ?_;refine tD ?_;refine fW ?_;refine ae ?_);(repeat(first|refine gk fun K hK=> ?_|refine zs2 ?_))
        refine av ?_
        (repeat(first|refine gk fun K hK=> ?_|refine zs2 ?_));refine aQ ?_;(repeat(first|refine gk fun K hK=> ?_|refine zs2 ?_))
        rw[EC]
        exact⟨_,Sh.refl, .one (.tmp 4) _ rfl (.tmp 4 rfl)⟩
  · have hd1:(!decide ((l.length:Int)=dim))=true:=by rw[decide_eq_false h1];rfl
    have EC:vck dim l d=9:=if_neg h1
    refine aF Tryz.func52 af rfl rfl rfl fun X0=> ?_
    simp only[aA]
    (repeat(first|refine gk fun K hK=> ?_|refine zs2 ?_));refine kB ?_;(repeat(first|refine gk fun K hK=> ?_|refine zs2 ?_));refine lW ?_;(repeat(first|refine gk fun K hK=> ?_|refine zs2 ?_))
    refine av ?_
    (repeat(first|refine gk fun K hK=> ?_|refine zs2 ?_));refine aQ ?_;(repeat(first|refine gk fun K hK=> ?_|refine zs2 ?_))
    rw[EC]
    exact⟨_,Sh.refl, .one (.tmp 4) _ rfl (.tmp 4 rfl)⟩
theorem IB(z:Int):Fn Tryz.prog 170 [zI z] (.sc (.bool (big z))):=by
 have WI:=CG z 1000000000000000 (by omega) (by omega)
 unfold big
 refine aF Tryz.func170 af rfl rfl rfl fun X0=>?_
 simp only[aA]
 (repeat(first|refine gk fun K hK=>?_|refine zs2 ?_));refine cj ?_;(repeat(first|refine gk fun K hK=>?_|refine zs2 ?_));(refine gar ?_;refine zs4 ?_;refine Eg ?_;refine fW ?_;refine zs6 ?_;refine ae ?_);(repeat(first|refine gk fun K hK=>?_|refine zs2 ?_))
 exact⟨_,Sh.refl,.one (.tmp 2) _ rfl (.tmp 2 rfl)⟩
theorem IC(g:Nat)(p:Int→Bool)(l:List Int)(hl:l.length≤1000000000)(hg:∀z,Fn Tryz.prog g [zI z] (.sc (.bool (p z)))):Fn Tryz.prog 89 [dI l,dFn g] (.sc (.bool (l.any p))):=by
 refine⟨enters_of Tryz.func89 af rfl,fun X w vs hX hv=>?_⟩
 simp only[ATp]at hv
 obtain⟨v1,r1,e1,h1,v2,r2,e2,h2,rfl⟩:=hv
 simp only[AR]at h2
 obtain⟨rfl,_⟩:=h2
 subst e2
 obtain⟨a,c,rfl,_,hz⟩:=xj h1
 have:vs= #[.slice a l.length c,.func (.func g) #[] #[]]:=Array.toList_inj.1 e1
 subst this
 refine(vD l a c hl g p (hg 0).1 (fun x w=>?_) w hz).mono fun e w' ⟨h1,h2⟩=>⟨_,h1,by simp only[AR];exact⟨trivial,rfl⟩,h2⟩
 refine((hg x).2 (fun _=>False) w #[.int .i64 x] (fun _ h=>h.elim) (by simp only[ATp];exact⟨_,[],rfl,zj x,rfl⟩)).mono fun e w' ⟨u,k1,k2,k3⟩=>⟨?_,k3⟩
 simp only[AR]at k2
 rw[k1,k2.1]
theorem Hq(dim den d:Int)(m:Mx.Mat)(l:List Int)(hl:l.length≤1000000):Fn Tryz.prog 125 [dL dim m den,dV l d] (zI (vck dim l d)):=by
 have AN:=IC 170 big l (by omega) IB
 by_cases h1:(l.length:Int)=dim
 ·have hd1:(!decide ((l.length:Int)=dim))=false:=by rw[decide_eq_true h1];rfl
  by_cases h2:d<1
  ·have hd2:decide (d<1)=true:=decide_eq_true h2
   have EC:vck dim l d=2:=by unfold vck;rw[if_pos h1,if_pos (.inl h2)]
   refine aF Tryz.func125 af rfl rfl rfl fun X0=>?_
   simp only[aA]
   (repeat(first|refine gk fun K hK=>?_|refine zs2 ?_));refine kB ?_;(repeat(first|refine gk fun K hK=>?_|refine zs2 ?_));refine lW ?_;(repeat(first|refine gk fun K hK=>?_|refine zs2 ?_))
   refine ay ?_
   (repeat(first|refine gk fun K hK=>?_|refine zs2 ?_));refine Dm ?_;(repeat(first|refine gk fun K hK=>?_|refine zs2 ?_))
   refine av ?_
   (repeat(first|refine gk fun K hK=>?_|refine zs2 ?_));refine aQ ?_;(repeat(first|refine gk fun K hK=>?_|refine zs2 ?_))
   rw[EC]
   exact⟨_,Sh.refl,.one (.tmp 4) _ rfl (.tmp 4 rfl)⟩
  ·have hd2:decide (d<1)=false:=decide_eq_false h2
   by_cases h3:1000000000000000<d
   ·have hd3:decide (d>1000000000000000)=true:=decide_eq_true h3
    have EC:vck dim l d=2:=by unfold vck;rw[if_pos h1,if_pos (.inr (.inl h3))]
    refine aF Tryz.func125 af rfl rfl rfl fun X0=>?_
    simp only[aA]
    (repeat(first|refine gk fun K hK=>?_|refine zs2 ?_));refine kB ?_;(repeat(first|refine gk fun K hK=>?_|refine zs2 ?_));refine lW ?_;(repeat(first|refine gk fun K hK=>?_|refine zs2 ?_))
    refine ay ?_
    (repeat(first|refine gk fun K hK=>?_|refine zs2 ?_));refine Dm ?_;(repeat(first|refine gk fun K hK=>?_|refine zs2 ?_))
    refine av ?_
    (repeat(first|refine gk fun K hK=>?_|refine zs2 ?_));refine aQ ?_;(repeat(first|refine gk fun K hK=>?_|refine zs2 ?_))
    rw[EC]
    exact⟨_,Sh.refl,.one (.tmp 4) _ rfl (.tmp 4 rfl)⟩
   ·have hd3:decide (d>1000000000000000)=false:=decide_eq_false h3
    have EC:vck dim l d=if l.any big=true then 2 else 0:=by
     unfold vck
     rw[if_pos h1]
     by_cases h4:l.any big=true
     ·rw[if_pos (.inr (.inr h4)),if_pos h4]
     ·rw[if_neg h4,if_neg (by rintro(h|h|h)<;>first|omega|exact h4 h)]
    cases hb:l.any big
    ·rw[hb]at AN EC
     refine aF Tryz.func125 af rfl rfl rfl fun X0=>?_
     simp only[aA]
     (repeat(first|refine gk fun K hK=>?_|refine zs2 ?_));refine kB ?_;(repeat(first|refine gk fun K hK=>?_|refine zs2 ?_));refine lW ?_;(repeat(first|refine gk fun K hK=>?_|refine zs2 ?_))
     refine ay ?_
     (repeat(first|refine gk fun K hK=>?_|refine zs2 ?_));refine Dl ?_;(repeat(first|refine gk fun K hK=>?_|refine zs2 ?_))
     refine ay ?_
     (repeat(first|refine gk fun K hK=>?_|refine zs2 ?_));refine aQ ?_;(repeat(first|refine gk fun K hK=>?_|refine zs2 ?_))
     rw[EC]
     exact⟨_,Sh.refl,.one (.tmp 4) _ rfl (.tmp 4 rfl)⟩
    ·rw[hb]at AN EC
     refine aF Tryz.func125 af rfl rfl rfl fun X0=>?_
     simp only[aA]
     (repeat(first|refine gk fun K hK=>?_|refine zs2 ?_));refine kB ?_;(repeat(first|refine gk fun K hK=>?_|refine zs2 ?_));refine lW ?_;(repeat(first|refine gk fun K hK=>?_|refine zs2 ?_))
     refine ay ?_
     (repeat(first|refine gk fun K hK=>?_|refine zs2 ?_));refine Dl ?_;(repeat(first|refine gk fun K hK=>?_|refine zs2 ?_))
     refine av ?_
     (repeat(first|refine gk fun K hK=>?_|refine zs2 ?_));refine aQ ?_;(repeat(first|refine gk fun K hK=>?_|refine zs2 ?_))
     rw[EC]
     exact⟨_,Sh.refl,.one (.tmp 4) _ rfl (.tmp 4 rfl)⟩
 ·have hd1:(!decide ((l.length:Int)=dim))=true:=by rw[decide_eq_false h1];rfl
  have EC:vck dim l d=9:=if_neg h1
  refine aF Tryz.func125 af rfl rfl rfl fun X0=>?_
  simp only[aA]
  (repeat(first|refine gk fun K hK=>?_|refine zs2 ?_));refine kB ?_;(repeat(first|refine gk fun K hK=>?_|refine zs2 ?_));refine lW ?_;(repeat(first|refine gk fun K hK=>?_|refine zs2 ?_))
  refine av ?_
  (repeat(first|refine gk fun K hK=>?_|refine zs2 ?_));refine aQ ?_;(repeat(first|refine gk fun K hK=>?_|refine zs2 ?_))
  rw[EC]
  exact⟨_,Sh.refl,.one (.tmp 4) _ rfl (.tmp 4 rfl)⟩
end DW
end
end Go.Proofs.YtcgjmdpcplhanaaGreat
