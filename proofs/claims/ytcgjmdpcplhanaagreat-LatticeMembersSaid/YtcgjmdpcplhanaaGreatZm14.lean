/- Lemmas for the law: E44 L2 M12 M13 E40 -/
import Derived.Test.YtcgjmdpcplhanaaGreatZm13
namespace Go.Proofs.YtcgjmdpcplhanaaGreat
section
theorem Ek{p q:Prop}(h:q)(f:Wq q→p:=by(intro hW;((refine eF (k:=8) (z:=(.agg #[.bool false,.slice none 0 0])) (d:=(.nm 0)) rfl rfl rfl rfl rfl af aa aa cf aa aa bB ?_));exact hW.out)):p:=f ⟨h⟩
theorem zb28{p:Prop}(h:p:=by(apply fH;(focus(exact rfl));(focus((apply ao;(conv=>lhs;whnf);(first|done|exact rfl))));(focus((first|exact op_zero|exact rfl)));(focus(exact rfl));(focus(exact rfl));(focus(assumption));(focus(exact rfl)))):p:=h
theorem xY{p q:Prop}(h:q)(f:Wq q→p:=by(intro hW;(refine aL1 rfl rfl rfl zb28 ?_);exact hW.out)):p:=f ⟨h⟩
theorem Dq{p q:Prop}(h:q)(f:Wq q→p:=by(intro hW;((refine gar ?_;refine zs4 ?_;refine aJ ?_;refine jk ?_;refine tF ?_;refine zs6 ?_;refine ae ?_));exact hW.out)):p:=f ⟨h⟩
theorem Ej{p q:Prop}(h:q)(f:Wq q→p:=by(intro hW;(refine qP [14,15] af zb20 ?_);exact hW.out)):p:=f ⟨h⟩
theorem Ei{p q:Prop}(h:q)(f:Wq q→p:=by(intro hW;((refine jK (k:=14) (z:=(.agg #[.bool false,.slice none 0 0])) (d:=(.nm 0)) rfl rfl rfl rfl rfl af aa aa cf aa aa ?_));exact hW.out)):p:=f ⟨h⟩
theorem Eh{p q:Prop}(h:q)(f:Wq q→p:=by(intro hW;((refine jK (k:=15) (z:=(.agg #[.bool false,.slice none 0 0])) (d:=(.nm 0)) rfl rfl rfl rfl rfl af aa aa cf aa aa ?_));exact hW.out)):p:=f ⟨h⟩
theorem Dr{p q:Prop}(h:q)(f:Wq q→p:=by(intro hW;((refine Ej ?_;refine bA ?_;refine bA ?_;refine dn ?_;refine bV ?_;refine bV ?_;refine bA ?_;refine bA ?_;refine dn ?_;refine bV ?_;refine iV ?_;refine iV ?_;refine bA ?_;refine eL ?_;refine eL ?_;refine eL ?_;refine Ei ?_;refine Eh ?_;refine gK ?_;refine gK ?_;refine pR ?_;refine jx ?_));exact hW.out)):p:=f ⟨h⟩
end
section
open Go.RowKit
namespace DW
abbrev dV(l:List Int)(d:Int):D:=.st [dI l,zI d]
def pl0(r:List Int):Nat:=(ll r).toNat
def crd(d:Int):List (List Int)→List Int→Option (List Int×List Int)
 |[],left=>some ([],left)
 |r::rs,left=>
  if left.getD (pl0 r) 0%(d*r.getD (pl0 r) 0)=0 then(crd d rs (Mx.cg (-(left.getD (pl0 r) 0/(d*r.getD (pl0 r) 0)*d)) left r)).map fun x=>(left.getD (pl0 r) 0/(d*r.getD (pl0 r) 0)::x.1,x.2)
  else none
def pF:Option (List Int×List Int)→D
 |none=>.tp [dZ [],.sc (.bool false)]
 |some x=>.tp [dZ x.1,.sc (.bool (x.2.all fun z=>decide (z=0)))]
theorem vx(d:Int)(r:List Int)(rs:List (List Int))(left:List Int):crd d (r::rs) left=if left.getD (pl0 r) 0%(d*r.getD (pl0 r) 0)=0 then(crd d rs (Mx.cg (-(left.getD (pl0 r) 0/(d*r.getD (pl0 r) 0)*d)) left r)).map fun x=>(left.getD (pl0 r) 0/(d*r.getD (pl0 r) 0)::x.1,x.2)else none:=rfl
theorem vw{d:Int}{R:List (List Int)}{left0 left out:List Int}{i:Nat}{r:List Int}(hr:R[i]?=some r)(h:crd d R left0=(crd d (R.drop i) left).map fun x=>(out++x.1,x.2)):
  (left.getD (pl0 r) 0%(d*r.getD (pl0 r) 0)=0→crd d R left0=(crd d (R.drop (i+1)) (Mx.cg (-(left.getD (pl0 r) 0/(d*r.getD (pl0 r) 0)*d)) left r)).map fun x=>((out++[left.getD (pl0 r) 0/(d*r.getD (pl0 r) 0)])++x.1,x.2))∧(left.getD (pl0 r) 0%(d*r.getD (pl0 r) 0)≠0→crd d R left0=none):=by
 have hd:R.drop i=r::R.drop (i+1):=by
  obtain⟨hi,rfl⟩:=List.getElem?_eq_some_iff.1 hr
  exact List.drop_eq_getElem_cons hi
 rw[hd,vx]at h
 constructor
 ·intro h0
  rw[if_pos h0]at h
  rw[h,Option.map_map]
  congr 1
  funext x
  simp
 ·intro h0
  rw[if_neg h0]at h
  exact h
theorem Aj{r:List Int}(h:r.all (fun z=>decide (z=0))=false):∃x,ll r=(pl0 r:Nat)∧pl0 r<r.length∧r[pl0 r]?=some x∧x≠0∧r.getD (pl0 r) 0=x∧∀j y,j<pl0 r→r[j]?=some y→y=0:=by
 have e:ll r=(r.findIdx fun z=>!decide (z=0):Nat):=by unfold ll;rw[if_neg (by rw[h];simp)]
 have e2:pl0 r=r.findIdx fun z=>!decide (z=0):=by unfold pl0;rw[e];rfl
 have hlt:r.findIdx (fun z=>!decide (z=0))<r.length:=by
  rw[List.findIdx_lt_length]
  rw[List.all_eq_false]at h
  obtain⟨x,hx,h2⟩:=h
  exact⟨x,hx,by simpa using h2⟩
 refine⟨r[r.findIdx fun z=>!decide (z=0)],by rw[e,e2],by rw[e2];exact hlt,by rw[e2];exact List.getElem?_eq_getElem hlt,?_,by rw[e2,List.getD_eq_getElem?_getD,List.getElem?_eq_getElem hlt];rfl,fun j y hj hy=>?_⟩
 ·have:=List.findIdx_getElem (w:=hlt)
  simpa using this
 ·rw[e2]at hj
  have:=List.not_of_lt_findIdx hj
  obtain⟨hj2,rfl⟩:=List.getElem?_eq_some_iff.1 hy
  simpa using this
structure CB(a:Nat)(d q:Int)(left r:List Int):Prop where
 q1:q.natAbs≤2^a
 q2:(q*d).natAbs≤2^(a+50)
 q3:∀x∈r,(q*d*x).natAbs≤2^(a+570)
 q4:∀z∈Mx.cg (-(q*d)) left r,z.natAbs≤2^(a+571)
theorem Hp{x y a:Nat}(h1:x≤2^a)(h2:y≤2^a):x+y≤2^(a+1):=by rw[Nat.pow_succ];omega
theorem mB{x y:Int}{a b:Nat}(h1:x.natAbs≤2^a)(h2:y.natAbs≤2^b):(x*y).natAbs≤2^(a+b):=by
 rw[Int.natAbs_mul,Nat.pow_add];exact Nat.mul_le_mul h1 h2
theorem zf{a f:Nat}{d z D:Int}{left r:List Int}(hf:f=520)(hl:∀x∈left,x.natAbs≤2^a)(hz:z.natAbs≤2^a)(hd:d.natAbs≤2^50)(hr:∀x∈r,x.natAbs≤2^f):CB a d (z/D) left r:=by
 have h1:(z/D).natAbs≤2^a:=Nat.le_trans (Mx.gC z D) hz
 have h2:=mB h1 hd
 have e:a+50+f=a+570:=by omega
 have h3:∀x∈r,(z/D*d*x).natAbs≤2^(a+570):=fun x hx=>by rw[←e];exact mB h2 (hr x hx)
 refine⟨h1,h2,h3,fun y hy=>?_⟩
 unfold Mx.cg at hy
 obtain⟨i,hi,rfl⟩:=List.getElem_of_mem hy
 rw[List.getElem_zipWith]
 rw[List.length_zipWith]at hi
 have ha:=hl left[i] (List.getElem_mem (by omega))
 have hb:=h3 r[i] (List.getElem_mem (by omega))
 have:=Hp (a:=a+570) (Nat.le_trans ha (Nat.pow_le_pow_right (by decide) (by omega))) hb
 refine Nat.le_trans ?_ this
 rw[Int.neg_mul]
 have:=Int.natAbs_add_le left[i] (-(z/D*d*r[i]))
 rw[Int.natAbs_neg]at this
 exact this
set_option maxRecDepth 20000
set_option maxHeartbeats 2000000
theorem Ci(dim dl d:Int)(R:Mx.Mat)(l:List Int)(n:Nat)(hn:l.length=n)(hn5:n≤1000000)(hR:Mx.Rc n R)(hRl:R.length≤64)(hnz:∀r∈R,r.all (fun z=>decide (z=0))=false)(f:Nat)(hf:f=520)(hb:∀r∈R,∀x∈r,x.natAbs≤2^f)(hdl:dl.natAbs≤2^50)(hd0:d≠0)(hd:I64 d)(hd50:d.natAbs≤2^50)(hl:∀z∈l,I64 z∧z.natAbs≤2^50)(L0:List Int)(hL0:L0=l.map fun z=>z*dl):
  Fn Tryz.prog 126 [js dim R dl,dV l d] (pF (crd d R L0)):=by
 have WR:=G7 l (by omega) (fun z hz=>(hl z hz).1) 100 rfl
 have OD:=yU d hd
 refine aF Tryz.func126 af rfl rfl rfl fun X0=>?_
 simp only[aA]
 (repeat(first|refine gk fun K hK=>?_|refine zs2 ?_));(refine gar ?_;refine cK ?_;refine cK ?_;refine zs3 ?_;refine jj ?_;refine ae ?_);(repeat(first|refine gk fun K hK=>?_|refine zs2 ?_));(refine gar ?_;refine gF ?_;refine aJ ?_;(refine Bw rfl rfl rfl rfl bf (WR) aa aa aa ?_);refine zs6 ?_;refine ae ?_);(repeat(first|refine gk fun K hK=>?_|refine zs2 ?_));refine nV ?_;(repeat(first|refine gk fun K hK=>?_|refine zs2 ?_))
 (refine aq (ai (sl':=[(2,.pt (js dim R dl)),(3,.pt (dV l d)),(6,.own 100),(22,.own 100),(23,zI l.length),(24,zI 0)]) (ow':=[(100,⟨62,2,l.map .nm⟩)]) au aw) ?_)
 have hL0l:L0.length=n:=by rw[hL0,List.length_map,hn]
 refine aH (fun r s=>∃k,k≤l.length∧r=l.length-k∧s=⟨[(2,.pt (js dim R dl)),(3,.pt (dV l d)),(6,.own 100),(22,.own 100),(23,zI l.length),(24,zI (k:Nat))],[(100,⟨62,2,(L0.take k++l.drop k).map .nm⟩)]⟩) (m:=l.length) ⟨0,Nat.zero_le _,rfl,rfl⟩ fun r s hs=>?_
 obtain⟨k,hk,rfl,rfl⟩:=hs
 by_cases hkl:k<l.length
 ·obtain⟨z,hz⟩:=get_some hkl
  have hzb:=hl z (List.mem_of_getElem? hz)
  have ML:=qA z dl (aZ hzb.2 (by omega)) (aZ hdl (by omega))
  have hzL:L0[k]?=some (z*dl):=by rw[hL0,List.getElem?_map,hz];rfl
  have hq:(L0.take k++l.drop k).set k (z*dl)=L0.take (k+1)++l.drop (k+1):=by
   rw[bc hzL,List.set_append_right k _ jq,List.length_take,Nat.min_eq_left (by omega),Nat.sub_self,List.drop_eq_getElem_cons hkl,List.set_cons_zero,List.append_assoc]
   rfl
  have hq0:(L0.take k++l.drop k)[k]?=some z:=by
   rw[List.getElem?_append_right jq,List.length_take,Nat.min_eq_left (by omega),Nat.sub_self,List.getElem?_drop]
   exact hz
  have hql:(L0.take k++l.drop k).length=l.length:=by simp;omega
  obtain⟨W,hW⟩:∃W,W=L0.take k++l.drop k:=⟨_,rfl⟩
  rw[←hW]at hq hql hq0
  rw[←hW]
  clear hW
  have hE:(W.map D.nm).set k (.nm (z*dl))=(W.set k (z*dl)).map .nm:=by rw[List.map_set]
  (repeat(first|refine gk fun K hK=>?_|refine zs2 ?_));refine dR ?_;(repeat(first|refine gk fun K hK=>?_|refine zs2 ?_))
  refine av ?_
  (repeat(first|refine gk fun K hK=>?_|refine zs2 ?_));(refine gar ?_;refine zs4 ?_;refine cE ?_;refine aJ ?_;refine Ek ?_;refine zs6 ?_;refine eJ ?_;refine ae ?_);(repeat(first|refine gk fun K hK=>?_|refine zs2 ?_))
  (refine aq (ai (sl':=[(2,.pt (js dim R dl)),(3,.pt (dV l d)),(6,.own 100),(22,.own 100),(23,zI l.length),(24,zI (k:Nat)),(7,zI (k:Nat)),(8,.opt 8 0)]) (ow':=[(8,⟨62,2,[.nm z]⟩),(100,⟨62,2,W.map .nm⟩)]) au aw) ?_)
  (repeat(first|refine gk fun K hK=>?_|refine zs2 ?_));(refine gar ?_;refine zs4 ?_;refine zs4 ?_;refine aJ ?_;(refine aL1 rfl rfl rfl yj ?_);refine aJ ?_;refine fJ ?_;refine cE ?_;refine El ?_;refine ae ?_);(repeat(first|refine gk fun K hK=>?_|refine zs2 ?_))
  rw[hE,hq]
  (repeat(first|refine gk fun K hK=>?_|refine zs2 ?_));refine nU ?_;(repeat(first|refine gk fun K hK=>?_|refine zs2 ?_))
  simp only[nx,inB]
  exact⟨l.length-(k+1),_,by omega,(ai (sl':=[(2,.pt (js dim R dl)),(3,.pt (dV l d)),(6,.own 100),(22,.own 100),(23,zI l.length),(24,zI ((k+1:Nat):Int))]) (ow':=[(100,⟨62,2,(L0.take (k+1)++l.drop (k+1)).map .nm⟩)]) au aw),k+1,by omega,rfl,rfl⟩
 ·obtain rfl:k=l.length:=by omega
  have hq:L0.take l.length++l.drop l.length=L0:=by rw[List.drop_length,List.append_nil,List.take_of_length_le (by omega)]
  rw[hq]
  have hL0b:∀z∈L0,z.natAbs≤2^(100+571*0):=fun z hz=>by
   rw[hL0]at hz
   obtain⟨y,hy,rfl⟩:=List.mem_map.1 hz
   exact mB (a:=50) (b:=50) (hl y hy).2 hdl
  clear hL0 hl hq
  (repeat(first|refine gk fun K hK=>?_|refine zs2 ?_));refine dR ?_;(repeat(first|refine gk fun K hK=>?_|refine zs2 ?_))
  refine ay ?_
  (repeat(first|refine gk fun K hK=>?_|refine zs2 ?_));(refine gar ?_;refine jo ?_;refine aJ ?_;refine bL ?_;refine Eo ?_;refine eJ ?_;refine ae ?_);(repeat(first|refine gk fun K hK=>?_|refine zs2 ?_));refine bK ?_;(repeat(first|refine gk fun K hK=>?_|refine zs2 ?_))
  refine aq (b7 (t:=10) (k:=10) (T:=62) (wd:=2) b9 rfl rfl bB) ?_
  (repeat(first|refine gk fun K hK=>?_|refine zs2 ?_));(refine gar ?_;refine jo ?_;refine aJ ?_;refine zs5 ?_;refine Em ?_;refine ae ?_);(repeat(first|refine gk fun K hK=>?_|refine zs2 ?_))
  (refine aq (ai (sl':=[(6,.own 100),(9,.opt 9 0),(10,.own 10),(41,dW R),(42,zI R.length),(43,zI 0)]) (ow':=[(10,⟨62,2,[]⟩),(9,⟨62,2,[.nm d]⟩),(100,⟨62,2,L0.map .nm⟩)]) au aw) ?_)
  refine aH (fun r s=>∃i left out,i≤R.length∧r=R.length-i∧left.length=n∧(∀z∈left,z.natAbs≤2^(100+571*i))∧crd d R L0=(crd d (R.drop i) left).map (fun x=>(out++x.1,x.2))∧out.length=i∧s=⟨[(6,.own 100),(9,.opt 9 0),(10,.own 10),(41,dW R),(42,zI R.length),(43,zI (i:Nat))],[(10,⟨62,2,out.map .nm⟩),(9,⟨62,2,[.nm d]⟩),(100,⟨62,2,left.map .nm⟩)]⟩) (m:=R.length) ⟨0,L0,[],Nat.zero_le _,rfl,hL0l,hL0b,by simp,rfl,rfl⟩ fun r s hs=>?_
  clear hL0b hL0l
  obtain⟨i,left,out,hi,rfl,hll,hlb,hcr,hol,rfl⟩:=hs
  by_cases hil:i<R.length
  ·obtain⟨r,hr⟩:=get_some hil
   have hmem:=List.mem_of_getElem? hr
   have hrl:=hR r hmem
   obtain⟨x,hp,hpl,hpx,hx0,hpd,_⟩:=Aj (hnz r hmem)
   have hst:=vw hr hcr
   rw[hpd]at hst
   have IX:=EV 172 r (by omega) (fun z _=>nz1_d z)
   rw[hp]at IX
   obtain⟨y,hy⟩:=get_some (m:=left) (k:=pl0 r) (by omega)
   have hyd:left.getD (pl0 r) 0=y:=by rw[List.getD_eq_getElem?_getD,hy];rfl
   rw[hyd]at hst
   have hyb:=hlb y (List.mem_of_getElem? hy)
   have hxb:=hb r hmem x (List.mem_of_getElem? hpx)
   have ha:100+571*i≤40000:=by omega
   have M1:=qA d x (aZ hd50 (by omega)) (aZ hxb (by omega))
   have hdx0:d*x≠0:=Int.mul_ne_zero hd0 hx0
   have hdxb:=mB hd50 hxb
   have DM:=AQ y (d*x) (aZ hyb (by omega)) (aZ hdxb (by omega)) hdx0
   have CBk:=zf (D:=d*x) hf hlb hyb hd50 (hb r hmem)
   have PZ:=rG (y%(d*x))
   have hrb:=hb r hmem
   clear hcr hnz hyd hpd
   generalize pl0 r=p at*
   obtain⟨q,hq⟩:∃q,q=y/(d*x):=⟨_,rfl⟩
   obtain⟨t,ht⟩:∃t,t=y%(d*x):=⟨_,rfl⟩
   rw[←hq,←ht]at hst DM
   rw[←hq]at CBk
   rw[←ht]at PZ
   by_cases ht0:t=0
   ·have hcr:=hst.1 ht0
    rw[decide_eq_true ht0]at PZ
    clear hst hq ht hdx0 hdxb
    (repeat(first|refine gk fun K hK=>?_|refine zs2 ?_));refine dR ?_;(repeat(first|refine gk fun K hK=>?_|refine zs2 ?_))
    refine av ?_
    (repeat(first|refine gk fun K hK=>?_|refine zs2 ?_));(refine gar ?_;refine cE ?_;refine aJ ?_;refine zs6 ?_;refine ae ?_);(repeat(first|refine gk fun K hK=>?_|refine zs2 ?_));(refine gar ?_;refine zs4 ?_;refine xY ?_;refine zs6 ?_;refine ae ?_);(repeat(first|refine gk fun K hK=>?_|refine zs2 ?_))
    (refine aq (ai (sl':=[(6,.own 100),(9,.opt 9 0),(10,.own 10),(41,dW R),(42,zI R.length),(43,zI (i:Nat)),(12,dZ r),(13,zI (p:Nat))]) (ow':=[(10,⟨62,2,out.map .nm⟩),(9,⟨62,2,[.nm d]⟩),(100,⟨62,2,left.map .nm⟩)]) au aw) ?_)
    (repeat(first|refine gk fun K hK=>?_|refine zs2 ?_));refine Dr ?_;(repeat(first|refine gk fun K hK=>?_|refine zs2 ?_));(refine gar ?_;refine aJ ?_;refine bL ?_;refine fW ?_;refine ae ?_);(repeat(first|refine gk fun K hK=>?_|refine zs2 ?_))
    refine ay ?_
    (repeat(first|refine gk fun K hK=>?_|refine zs2 ?_));refine Dq ?_;(repeat(first|refine gk fun K hK=>?_|refine zs2 ?_));refine nV ?_;(repeat(first|refine gk fun K hK=>?_|refine zs2 ?_))
    (refine aq (ai (sl':=[(6,.own 100),(9,.opt 9 0),(10,.own 10),(41,dW R),(42,zI R.length),(43,zI (i:Nat)),(14,.opt 14 0),(71,dZ r),(72,zI r.length),(73,zI 0)]) (ow':=[(14,⟨62,2,[.nm q]⟩),(10,⟨62,2,out.map .nm++[.nm q]⟩),(9,⟨62,2,[.nm d]⟩),(100,⟨62,2,left.map .nm⟩)]) au aw) ?_)
    rw[show out.map D.nm++[.nm q]=(out++[q]).map .nm by rw[List.map_append];rfl]
    obtain⟨N2,hN2⟩:∃N2,N2=Mx.cg (-(q*d)) left r:=⟨_,rfl⟩
    have hN2l:N2.length=n:=by rw[hN2,Mx.gw _ _ _ (by omega)];exact hll
    rw[←hN2]at hcr
    have hN2b:∀z∈N2,z.natAbs≤2^(100+571*(i+1)):=fun z hz=>by
     rw[hN2]at hz
     have:=CBk.q4 z hz
     rwa[show 100+571*i+571=100+571*(i+1) by omega]at this
    obtain⟨O2,hO2⟩:∃O2,O2=out++[q]:=⟨_,rfl⟩
    have hO2l:O2.length=i+1:=by rw[hO2,List.length_append,hol];rfl
    rw[←hO2]at hcr
    rw[←hO2]
    clear hO2 hol
    refine aH (fun rr s=>∃j,j≤r.length∧rr=r.length-j∧s=⟨[(6,.own 100),(9,.opt 9 0),(10,.own 10),(41,dW R),(42,zI R.length),(43,zI (i:Nat)),(14,.opt 14 0),(71,dZ r),(72,zI r.length),(73,zI (j:Nat))],[(14,⟨62,2,[.nm q]⟩),(10,⟨62,2,O2.map .nm⟩),(9,⟨62,2,[.nm d]⟩),(100,⟨62,2,(N2.take j++left.drop j).map .nm⟩)]⟩) (m:=r.length) ⟨0,Nat.zero_le _,rfl,rfl⟩ fun rr s hs=>?_
    obtain⟨j,hj,rfl,rfl⟩:=hs
    by_cases hjl:j<r.length
    ·obtain⟨c,hc⟩:=get_some hjl
     obtain⟨b,hbj⟩:=get_some (m:=left) (k:=j) (by omega)
     have hnj:N2[j]?=some (b-q*d*c):=by
      rw[hN2,vA hbj hc,Int.neg_mul];rfl
     have hcb:=hrb c (List.mem_of_getElem? hc)
     have hbb:=hlb b (List.mem_of_getElem? hbj)
     have hqc:=CBk.q3 c (List.mem_of_getElem? hc)
     have MA:=qA q d (aZ CBk.q1 (by omega)) (aZ hd50 (by omega))
     have MB:=qA (q*d) c (aZ CBk.q2 (by omega)) (aZ hcb (by omega))
     have SB:=Ik b (q*d*c) (aZ hbb (by omega)) (aZ hqc (by omega))
     have hq1:(N2.take j++left.drop j).set j (b-q*d*c)=N2.take (j+1)++left.drop (j+1):=by
      rw[bc hnj,List.set_append_right j _ jq,List.length_take,Nat.min_eq_left (by omega),Nat.sub_self,List.drop_eq_getElem_cons (by omega),List.set_cons_zero,List.append_assoc]
      rfl
     have hq0:(N2.take j++left.drop j)[j]?=some b:=by
      rw[List.getElem?_append_right jq,List.length_take,Nat.min_eq_left (by omega),Nat.sub_self,List.getElem?_drop]
      exact hbj
     have hql:(N2.take j++left.drop j).length=n:=by simp;omega
     obtain⟨W,hW⟩:∃W,W=N2.take j++left.drop j:=⟨_,rfl⟩
     rw[←hW]at hq1 hql hq0
     rw[←hW]
     clear hW hnj hN2 hcb hbb hqc
     obtain⟨v,hv⟩:∃v,v=b-q*d*c:=⟨_,rfl⟩
     rw[←hv]at SB hq1
     obtain⟨qd,hqd⟩:∃qd,qd=q*d:=⟨_,rfl⟩
     rw[←hqd]at MA MB SB
     obtain⟨qdc,hqdc⟩:∃qdc,qdc=qd*c:=⟨_,rfl⟩
     rw[←hqdc]at MB SB
     clear hv hqd hqdc CBk
     have hE:(W.map D.nm).set j (.nm v)=(W.set j v).map .nm:=by rw[List.map_set]
     (repeat(first|refine gk fun K hK=>?_|refine zs2 ?_));refine dR ?_;(repeat(first|refine gk fun K hK=>?_|refine zs2 ?_))
     refine av ?_
     (repeat(first|refine gk fun K hK=>?_|refine zs2 ?_));(refine gar ?_;refine zs4 ?_;refine cE ?_;refine aJ ?_;(refine eF (k:=18) (z:=(.agg #[.bool false,.slice none 0 0])) (d:=(.nm 0)) rfl rfl rfl rfl rfl af aa aa cf aa aa bB ?_);refine zs6 ?_;refine eJ ?_;refine ae ?_);(repeat(first|refine gk fun K hK=>?_|refine zs2 ?_))
     (refine aq (ai (sl':=[(6,.own 100),(9,.opt 9 0),(10,.own 10),(41,dW R),(42,zI R.length),(43,zI (i:Nat)),(14,.opt 14 0),(71,dZ r),(72,zI r.length),(73,zI (j:Nat)),(17,zI (j:Nat)),(18,.opt 18 0)]) (ow':=[(18,⟨62,2,[.nm c]⟩),(14,⟨62,2,[.nm q]⟩),(10,⟨62,2,O2.map .nm⟩),(9,⟨62,2,[.nm d]⟩),(100,⟨62,2,W.map .nm⟩)]) au aw) ?_)
     (repeat(first|refine gk fun K hK=>?_|refine zs2 ?_));(refine pQ ?_;refine bA ?_;refine bA ?_;refine bA ?_;refine bA ?_;refine dn ?_;refine bV ?_;refine bV ?_;refine bV ?_;refine iV ?_;refine bV ?_;refine iV ?_;refine iV ?_;refine dn ?_;(refine oJ (i:=j) rfl rfl rfl bf bf aU aa jN aa cf aa af jO ?_);refine jx ?_);(repeat(first|refine gk fun K hK=>?_|refine zs2 ?_))
     rw[hE,hq1]
     (repeat(first|refine gk fun K hK=>?_|refine zs2 ?_));refine nU ?_;(repeat(first|refine gk fun K hK=>?_|refine zs2 ?_))
     simp only[nx,inB]
     exact⟨r.length-(j+1),_,by omega,(ai (sl':=[(6,.own 100),(9,.opt 9 0),(10,.own 10),(41,dW R),(42,zI R.length),(43,zI (i:Nat)),(14,.opt 14 0),(71,dZ r),(72,zI r.length),(73,zI ((j+1:Nat):Int))]) (ow':=[(14,⟨62,2,[.nm q]⟩),(10,⟨62,2,O2.map .nm⟩),(9,⟨62,2,[.nm d]⟩),(100,⟨62,2,(N2.take (j+1)++left.drop (j+1)).map .nm⟩)]) au aw),j+1,by omega,rfl,rfl⟩
    ·obtain rfl:j=r.length:=by omega
     have hq1:N2.take r.length++left.drop r.length=N2:=by rw[List.take_of_length_le (by omega),List.drop_eq_nil_of_le (by omega),List.append_nil]
     rw[hq1]
     clear hq1 hN2 CBk
     (repeat(first|refine gk fun K hK=>?_|refine zs2 ?_));refine dR ?_;(repeat(first|refine gk fun K hK=>?_|refine zs2 ?_))
     refine ay ?_
     (repeat(first|refine gk fun K hK=>?_|refine zs2 ?_));refine nU ?_;(repeat(first|refine gk fun K hK=>?_|refine zs2 ?_))
     simp only[nx,inB]
     exact⟨R.length-(i+1),_,by omega,(ai (sl':=[(6,.own 100),(9,.opt 9 0),(10,.own 10),(41,dW R),(42,zI R.length),(43,zI ((i+1:Nat):Int))]) (ow':=[(10,⟨62,2,O2.map .nm⟩),(9,⟨62,2,[.nm d]⟩),(100,⟨62,2,N2.map .nm⟩)]) au aw),i+1,N2,O2,by omega,rfl,hN2l,hN2b,hcr,hO2l,rfl⟩
   ·have hcr:=hst.2 ht0
    have EC:pF (crd d R L0)= .tp [dZ [],.sc (.bool false)]:=by rw[hcr];rfl
    rw[decide_eq_false ht0]at PZ
    clear hst hq ht hdx0 hdxb CBk hcr
    (repeat(first|refine gk fun K hK=>?_|refine zs2 ?_));refine dR ?_;(repeat(first|refine gk fun K hK=>?_|refine zs2 ?_))
    refine av ?_
    (repeat(first|refine gk fun K hK=>?_|refine zs2 ?_));(refine gar ?_;refine cE ?_;refine aJ ?_;refine zs6 ?_;refine ae ?_);(repeat(first|refine gk fun K hK=>?_|refine zs2 ?_));(refine gar ?_;refine zs4 ?_;refine xY ?_;refine zs6 ?_;refine ae ?_);(repeat(first|refine gk fun K hK=>?_|refine zs2 ?_))
    (refine aq (ai (sl':=[(6,.own 100),(9,.opt 9 0),(10,.own 10),(41,dW R),(42,zI R.length),(43,zI (i:Nat)),(12,dZ r),(13,zI (p:Nat))]) (ow':=[(10,⟨62,2,out.map .nm⟩),(9,⟨62,2,[.nm d]⟩),(100,⟨62,2,left.map .nm⟩)]) au aw) ?_)
    (repeat(first|refine gk fun K hK=>?_|refine zs2 ?_));refine Dr ?_;(repeat(first|refine gk fun K hK=>?_|refine zs2 ?_));(refine gar ?_;refine aJ ?_;refine bL ?_;refine fW ?_;refine ae ?_);(repeat(first|refine gk fun K hK=>?_|refine zs2 ?_))
    refine av ?_
    (repeat(first|refine gk fun K hK=>?_|refine zs2 ?_));refine nW ?_;(repeat(first|refine gk fun K hK=>?_|refine zs2 ?_))
    rw[EC]
    exact⟨_,ir (t:=4) (wd:=2) b9,.two (.tmp 4) (.tmp 5) _ _ rfl (.tmp 4 rfl) (.tmp 5 rfl)⟩
  ·obtain rfl:i=R.length:=by omega
   rw[List.drop_length]at hcr
   have EC:pF (crd d R L0)= .tp [dZ out,.sc (.bool (left.all fun z=>decide (z=0)))]:=by
    rw[hcr]
    show DW.D.tp [dZ (out++[]),_]=_
    rw[List.append_nil]
   have CT:=ctf_d 174 left (by omega) (fun z _=>nz2_d z)
   clear hcr hlb
   generalize left.all (fun z=>decide (z=0))=b at*
   (repeat(first|refine gk fun K hK=>?_|refine zs2 ?_));refine dR ?_;(repeat(first|refine gk fun K hK=>?_|refine zs2 ?_))
   refine ay ?_
   (repeat(first|refine gk fun K hK=>?_|refine zs2 ?_))
   refine aq (aE (k:=10) aU bs br) ?_
   refine aq (aE (k:=100) aU bs br) ?_
   (repeat(first|refine gk fun K hK=>?_|refine zs2 ?_));(refine gar ?_;refine zs4 ?_;refine zs4 ?_;refine xY ?_;refine fW ?_;refine zs6 ?_;refine zs6 ?_;refine ae ?_);(repeat(first|refine gk fun K hK=>?_|refine zs2 ?_))
   rw[EC]
   rw[Bool.not_not]
   exact⟨_,Sh.refl,.two (.tmp 4) (.tmp 5) _ _ rfl (.tmp 4 rfl) (.tmp 5 rfl)⟩
end DW
end
section
open Go.ChangeShapes Go.WideShapes Go.ChangeAt Go.RowKit Go.Joins Go.Deep
set_option maxRecDepth 100000 in
theorem Hg{H:Type}{enc:TypeId×Value→H}{w:World}{base:Nat}{spare:Nat→Bool}{held:Bool}{v:Value}{fuel:Nat}{x:DataW H×List MemPlace}
  (hf:DataW.trod enc Tryz.prog w base spare held fuel 40 [v]=some x):∃l:List Int,DW.AR (fun _=>False) w (DW.dI l) v:=by
 rcases open_ints Tryz.underlying40 Tryz.underlying3 sO hf with⟨h,_⟩|⟨a',len',cap',zs,h,_,hl',_,hz,_,hcell,_⟩
 ·simp at h
  subst h
  refine⟨[],?_⟩
  simp only[DW.dI,DW.AR]
  exact⟨none,0,rfl,Nat.le_refl _,.inl rfl⟩
 ·simp at h
  subst h
  have hzl:len'≤zs.length:=by rw[hz];split<;>omega
  have hlen:(zs.take len').length=len':=by rw[List.length_take];omega
  have hA:=DW.xo (w:=w) (a:=a') (l:=zs.take len') (cap:=cap') (by omega) (fun k hk=>by
   rw[hlen]at hk
   rw[hcell k (by omega),List.getD_eq_getElem?_getD,List.getD_eq_getElem?_getD,List.getElem?_take,if_pos hk])
  rw[hlen]at hA
  exact⟨zs.take len',hA⟩
theorem DW.ar_dV{X:Nat→Prop}{w:World}{l:List Int}{d:Int}{u:Value}(h:DW.AR X w (DW.dI l) u):DW.AR X w (DW.dV l d) (.agg #[u,.int .i64 d]):=by
 simp only[DW.dI,DW.AR]at h
 simp only[DW.dV,DW.AR,DW.ASt]
 have h2:=h
 obtain⟨a,c,rfl,_⟩:=h2
 exact⟨_,rfl,_,_,rfl,h,rfl,.int .i64 d,[],rfl,⟨rfl,rfl⟩,rfl,rfl⟩
set_option maxRecDepth 100000 in
theorem Ck{H:Type}{enc:TypeId×Value→H}{w:World}{base b0:Nat}{spare:Nat→Bool}{held:Bool}{r:Reach}{v:Value}{d:DataW H}{p:List MemPlace}
  (hv:Value.okWide Tryz.prog w r b0 80 v) (h:DataW.Trod enc Tryz.prog w base spare held 80 v d p):∃(l:List Int) (e:Int),I64 e∧DW.AR (fun _=>False) w (DW.dV l e) v:=by
 obtain⟨v0,v1,y0,y1,n,rfl,_,_,g0,g1⟩:=open_agg2 Tryz.underlying80 af af hv h
 obtain⟨a1,e1,_,w1⟩:=DataW.trod_int Tryz.underlying3 g1
 simp at e1
 subst e1
 obtain⟨l,hl⟩:=Hg g0
 exact⟨l,a1,bounds_i64 w1,DW.ar_dV hl⟩
end
section
namespace Mx
theorem se(j:Nat):skip 0 j=j+1:=by unfold skip;rw[if_neg (by omega)]
theorem rA(l:Nat):skip (l+1) 0=0:=by unfold skip;rw[if_pos (by omega)]
theorem zQ(l i:Nat):skip (l+1) (i+1)=skip l i+1:=by
 unfold skip
 by_cases h:i<l
 ·rw[if_pos h,if_pos (by omega)]
 ·rw[if_neg h,if_neg (by omega)]
theorem o7(n:Nat)(g:Nat→Int):sm (n+1) g=g 0+sm n (fun l=>g (l+1)):=by
 rw[wo g n 0 (Nat.zero_le _),bG n (fun l=>g (skip 0 l)) (fun l=>g (l+1)) fun l _=>by rw[se]]
 omega
theorem Fm(n:Nat)(h:∀f,D (n+1) f=D (n+1) fun i j=>f j i)(f:Nat→Nat→Int):
  D (n+2) f=f 0 0*D (n+1) (fun i j=>f (i+1) (j+1))+sm (n+1) fun l=>sm (n+1) fun m=>-(sg l*sg m)*(f 0 (l+1)*f (m+1) 0)*D n (fun i j=>f (skip m j+1) (skip l i+1)):=by
 show sm (n+2) (fun k=>sg k*f 0 k*D (n+1) (fun i j=>f (i+1) (skip k j)))=_
 rw[o7]
 congr 1
 ·rw[show sg 0=1 from rfl,Int.one_mul,cA (n+1) (fun i j=>f (i+1) (skip 0 j)) (fun i j=>f (i+1) (j+1)) fun i j _ _=>by rw[se]]
 ·refine bG _ _ _ fun l _=>?_
  rw[h]
  show sg (l+1)*f 0 (l+1)*sm (n+1) (fun m=>sg m*f (m+1) (skip (l+1) 0)*D n (fun i j=>f (skip m j+1) (skip (l+1) (i+1))))=_
  rw[←p9]
  refine bG _ _ _ fun m _=>?_
  rw[rA,wu,cA n (fun i j=>f (skip m j+1) (skip (l+1) (i+1))) (fun i j=>f (skip m j+1) (skip l i+1)) fun i j _ _=>by rw[zQ]]
  generalize D n _=d
  simp only[Int.neg_mul,Int.mul_assoc]
  congr 1
  rw[Int.mul_left_comm (f 0 (l+1)) (sg m)]
theorem Fp:∀n,(∀f,D n f=D n fun i j=>f j i)∧∀f,D (n+1) f=D (n+1) fun i j=>f j i
 |0=>⟨fun _=>rfl,fun f=>by
  show sm 1 (fun k=>sg k*f 0 k*1)=sm 1 (fun k=>sg k*f k 0*1)
  rfl⟩
 |n+1=>by
  obtain⟨h1,h2⟩:=Fp n
  refine⟨h2,fun f=>?_⟩
  rw[Fm n h2 f,Fm n h2 (fun i j=>f j i)]
  congr 1
  ·rw[h2]
  ·rw[rz]
   refine bG _ _ _ fun l _=>bG _ _ _ fun m _=>?_
   rw[h1,Int.mul_comm (sg m) (sg l),Int.mul_comm (f 0 (m+1))]
theorem D_tr(n:Nat)(f:Nat→Nat→Int):D n f=D n fun i j=>f j i:=(Fp n).1 f
theorem G3{n i:Nat}(hi:i<n)(f:Nat→Nat→Int):D n (upd f i fun _=>0)=0:=by
 have h:=qU 0 0 n f i (fun _=>0) (fun _=>0) hi
 simpa using h
theorem D_sm{n i:Nat}(hi:i<n)(f:Nat→Nat→Int)(v:Nat→Int)(A:Nat→Nat→Int):∀m,D n (upd f i fun j=>sm m fun k=>v k*A k j)=sm m fun k=>v k*D n (upd f i (A k))
 |0=>G3 hi f
 |m+1=>by
  have h:=qU 1 (v m) n f i (fun j=>sm m fun k=>v k*A k j) (A m) hi
  rw[D_sm hi f v A m]at h
  show D n (upd f i fun j=>sm m (fun k=>v k*A k j)+v m*A m j)=sm m (fun k=>v k*D n (upd f i (A k)))+v m*D n (upd f i (A m))
  rw[Int.one_mul]at h
  rw[←h]
  congr 2
  funext j
  rw[Int.one_mul]
theorem Am:∀(n:Nat) (τ:Nat→Nat),(∀i,i<n+1→τ i<n)→∃i j,i<j∧j<n+1∧τ i=τ j
 |0,τ,h=>absurd (h 0 (by omega)) (by omega)
 |n+1,τ,h=>by
  by_cases e:∃i,i<n+1∧τ i=τ (n+1)
  ·obtain⟨i,h1,h2⟩:=e
   exact⟨i,n+1,h1,by omega,h2⟩
  ·have hne:∀i,i<n+1→τ i≠τ (n+1):=fun i hi h2=>e ⟨i,hi,h2⟩
   have ht:=h (n+1) (by omega)
   obtain⟨i,j,h1,h2,h3⟩:=Am n (fun i=>if τ (n+1)<τ i then τ i-1 else τ i) fun i hi=>by
    have a:=hne i hi
    have b:=h i (by omega)
    show(if τ (n+1)<τ i then τ i-1 else τ i)<n
    split<;>omega
   refine⟨i,j,h1,by omega,?_⟩
   have a:=hne i (by omega)
   have b:=hne j h2
   split at h3<;>split at h3<;>omega
theorem pK{r:Nat}(H:Nat→Nat→Int):∀(d k:Nat),k+d=r→∀τ:Nat→Nat,(∀i,i<r→τ i<r)→(∀i,i<k→τ i=i)→∃c:Int,∀S:Nat→Nat,D r (fun i j=>H (τ i) (S j))=c*D r (fun i j=>H i (S j))
  |0,k,hk,τ,_,h2=>⟨1,fun S=>by
    rw[Int.one_mul]
    exact cA r _ _ fun i j hi _=>by rw[h2 i (by omega)]⟩
  |d+1,k,hk,τ,h1,h2=>by
    by_cases e:∃i j,i<j∧j<r∧τ i=τ j
    · obtain⟨i,j,hij,hj,he⟩:=e
      exact⟨0,fun S=>by
        rw[Int.zero_mul]
        exact vI (i:=i) (j:=j) (by omega) hj (by omega) _ fun l=>by rw[he]⟩
    · have hne:∀i j,i<j→j<r→τ i≠τ j:=fun i j hi hj he=>e ⟨i,j,hi,hj,he⟩
      have hp:∃p,p<r∧τ p=k:=Classical.byContradiction fun hno=>by
        have hno':∀p,p<r→τ p≠k:=fun p hp he=>hno ⟨p,hp,he⟩
        obtain⟨n,rfl⟩:∃n,r=n+1:=⟨r-1,by omega⟩
        obtain⟨i,j,g1,g2,g3⟩:=Am n (fun i=>if k<τ i then τ i-1 else τ i) fun i hi=>by
          have a:=hno' i hi
          have b:=h1 i hi
          show(if k<τ i then τ i-1 else τ i)<n
          split<;>omega
        have a:=hno' i (by omega)
        have b:=hno' j g2
        refine hne i j g1 g2 ?_
        split at g3<;>split at g3<;>omega
      obtain⟨p,hp,hpk⟩:=hp
      have hkp:k≤p:=Classical.byContradiction fun h=>by
        have:=h2 p (by omega)
        omega
      by_cases hpe:p=k
      · subst hpe
        exact pK (r:=r) H d (p+1) (by omega) τ h1 fun i hi=>by
          by_cases hi2:i<p
          · exact h2 i hi2
          · obtain rfl:i=p:=by omega
            exact hpk
      · obtain ⟨c, hc⟩ := pK (r := r) H d (k + 1) (by omega) (fun i => if i = k then τ p else if i = p then τ k else τ i) (fun i hi => by
            show(if i=k then τ p else if i=p then τ k else τ i)<r
            split
            · exact h1 p hp
            · split
              · exact h1 k (by omega)
              · exact h1 i hi) (fun i hi=>by
            show(if i=k then τ p else if i=p then τ k else τ i)=i
            split
            · omega
            · split
              · omega
              · exact h2 i (by omega))
        refine⟨-c,fun S=> ?_⟩
        rw[Int.neg_mul,←hc S]
        have hs:=I0 (n:=r) (i:=k) (j:=p) (by omega) hp (fun h=>hpe h.symm) (fun i j=>H (τ i) (S j))
        have:D r (upd (upd (fun i j=>H (τ i) (S j)) k ((fun i j=>H (τ i) (S j)) p)) p ((fun i j=>H (τ i) (S j)) k))=D r (fun i j=>H (if i=k then τ p else if i=p then τ k else τ i) (S j)):=cA r _ _ fun i j _ _=>by
          unfold upd
          by_cases e1:i=p
          · rw[if_pos e1,if_neg (by omega),if_pos e1]
          · rw[if_neg e1]
            by_cases e2:i=k
            · rw[if_pos e2,if_pos e2]
            · rw[if_neg e2,if_neg e2,if_neg e1]
        rw[this]at hs
        omega
theorem BC{r:Nat}(H V:Nat→Nat→Int):∀t,t≤r→∀τ:Nat→Nat,(∀i,i<r→τ i<r)→∃c:Int,∀S:Nat→Nat,D r (fun i j=>if i<t then sm r (fun k=>V i k*H k (S j))else H (τ i) (S j))=c*D r (fun i j=>H i (S j))
  |0,_,τ,h1=>by
    obtain⟨c,hc⟩:=pK (r:=r) H r 0 (by omega) τ h1 fun i hi=>absurd hi (Nat.not_lt_zero i)
    exact⟨c,fun S=>by
      rw[←hc S]
      exact cA r _ _ fun i j _ _=>if_neg (Nat.not_lt_zero i)⟩
  |t+1,ht,τ,h1=>by
    have hk:∀k,∃c:Int,k<r→∀S:Nat→Nat,D r (fun i j=>if i<t then sm r (fun k=>V i k*H k (S j))else H (if i=t then k else τ i) (S j))=c*D r (fun i j=>H i (S j)):=fun k=>by
      by_cases hkr:k<r
      · obtain ⟨c, hc⟩ := BC (r := r) H V t (by omega) (fun i => if i = t then k else τ i) fun i hi => by
          show(if i=t then k else τ i)<r
          split
          · exact hkr
          · exact h1 i hi
        exact⟨c,fun _=>hc⟩
      · exact⟨0,fun h=>absurd h hkr⟩
    refine⟨sm r fun k=>V t k*Classical.choose (hk k),fun S=> ?_⟩
    have e:=D_sm (n:=r) (i:=t) (by omega) (fun i j=>if i<t then sm r (fun k=>V i k*H k (S j))else H (τ i) (S j)) (V t) (fun k j=>H k (S j)) r
    rw[cA r (fun i j=>if i<t+1 then sm r (fun k=>V i k*H k (S j))else H (τ i) (S j)) (upd (fun i j=>if i<t then sm r (fun k=>V i k*H k (S j))else H (τ i) (S j)) t fun j=>sm r fun k=>V t k*H k (S j)) fun i j _ _=>by
      unfold upd
      by_cases e1:i=t
      · rw[if_pos e1,if_pos (by omega),e1]
      · rw[if_neg e1]
        show(if i<t+1 then sm r fun k=>V i k*H k (S j)else H (τ i) (S j))=if i<t then sm r (fun k=>V i k*H k (S j))else H (τ i) (S j)
        by_cases e2:i<t
        · rw[if_pos e2,if_pos (show i<t+1 by omega)]
        · rw[if_neg e2,if_neg (show¬i<t+1 by omega)],e,Int.mul_comm,←p9]
    refine bG r _ _ fun k hkr=> ?_
    have hc:=Classical.choose_spec (hk k) hkr S
    rw[cA r (upd (fun i j=>if i<t then sm r (fun k=>V i k*H k (S j))else H (τ i) (S j)) t fun j=>H k (S j)) (fun i j=>if i<t then sm r (fun k=>V i k*H k (S j))else H (if i=t then k else τ i) (S j)) fun i j _ _=>by
      unfold upd
      by_cases e1:i=t
      · rw[if_pos e1,if_neg (by omega),if_pos e1]
      · rw[if_neg e1,if_neg e1],hc,Int.mul_left_comm,Int.mul_comm (D r _)]
    rw[Int.mul_left_comm,Int.mul_assoc]
end Mx
end
section
namespace Mx
def fct:Nat→Nat
 |0=>1
 |n+1=>(n+1)*fct n
theorem yy:∀(n:Nat) (f:Nat→Int) (X:Nat),(∀k,k<n→(f k).natAbs≤X)→(sm n f).natAbs≤n*X
 |0,_,_,_=>by simp[sm]
 |n+1,f,X,h=>by
  have h1:=yy n f X fun k hk=>h k (by omega)
  have h2:=h n (by omega)
  show(sm n f+f n).natAbs≤_
  rw[Nat.succ_mul]
  omega
theorem zV(k:Nat):(sg k).natAbs=1:=by unfold sg;split<;>rfl
theorem D_bd{B:Nat}:∀(n:Nat) (f:Nat→Nat→Int),(∀i j,(f i j).natAbs≤B)→(D n f).natAbs≤fct n*B^n
 |0,_,_=>by simp[D,fct]
 |n+1,f,h=>by
  show(sm (n+1) fun k=>sg k*f 0 k*D n (fun i j=>f (i+1) (skip k j))).natAbs≤_
  refine Nat.le_trans (yy _ _ (B*(fct n*B^n)) fun k _=>?_) ?_
  ·rw[Int.natAbs_mul,Int.natAbs_mul,zV,Nat.one_mul]
   exact Nat.mul_le_mul (h 0 k) (D_bd n _ fun i j=>h _ _)
  ·show _≤(n+1)*fct n*B^(n+1)
   rw[Nat.pow_succ,Nat.mul_comm (B^n) B,←Nat.mul_assoc,Nat.mul_assoc,Nat.mul_assoc,Nat.mul_left_comm B]
   exact Nat.le_refl _
theorem Bz{r L:Nat}(A U:Nat→Nat→Int)(S:Nat→Nat)(h0:∀τ:Nat→Nat,(∀i,i<r→τ i<L)→D r (fun i j=>A (τ i) (S j))=0):∀t,t≤r→∀τ:Nat→Nat,(∀i,i<r→τ i<L)→D r (fun i j=>if i<t then sm L (fun k=>U i k*A k (S j))else A (τ i) (S j))=0
 |0,_,τ,h1=>by
  rw[←h0 τ h1]
  exact cA r _ _ fun i j _ _=>if_neg (Nat.not_lt_zero i)
 |t+1,ht,τ,h1=>by
  have e:=D_sm (n:=r) (i:=t) (by omega) (fun i j=>if i<t then sm L (fun k=>U i k*A k (S j))else A (τ i) (S j)) (U t) (fun k j=>A k (S j)) L
  rw[cA r (fun i j=>if i<t+1 then sm L (fun k=>U i k*A k (S j))else A (τ i) (S j)) (upd (fun i j=>if i<t then sm L (fun k=>U i k*A k (S j))else A (τ i) (S j)) t fun j=>sm L fun k=>U t k*A k (S j)) fun i j _ _=>by
   unfold upd
   by_cases e1:i=t
   ·rw[if_pos e1,if_pos (by omega),e1]
   ·rw[if_neg e1]
    show(if i<t+1 then sm L fun k=>U i k*A k (S j)else A (τ i) (S j))=if i<t then sm L (fun k=>U i k*A k (S j))else A (τ i) (S j)
    by_cases e2:i<t
    ·rw[if_pos e2,if_pos (show i<t+1 by omega)]
    ·rw[if_neg e2,if_neg (show¬i<t+1 by omega)],e]
  refine lC L _ fun k hk=>?_
  rw[cA r (upd (fun i j=>if i<t then sm L (fun k=>U i k*A k (S j))else A (τ i) (S j)) t fun j=>A k (S j)) (fun i j=>if i<t then sm L (fun k=>U i k*A k (S j))else A (if i=t then k else τ i) (S j)) fun i j _ _=>by
   unfold upd
   by_cases e1:i=t
   ·rw[if_pos e1,if_neg (by omega),if_pos e1]
   ·rw[if_neg e1,if_neg e1],Bz A U S h0 t (by omega) (fun i=>if i=t then k else τ i) (fun i hi=>by
    show(if i=t then k else τ i)<L
    split
    ·exact hk
    ·exact h1 i hi),Int.mul_zero]
theorem G4{r L B:Nat}(A H U V:Nat→Nat→Int)(c:Nat→Nat)(hU:∀i,i<r→∀j,H i j=sm L fun k=>U i k*A k j)(hV:∀i,i<L→∀j,A i j=sm r fun k=>V i k*H k j)(hp:D r (fun i j=>H i (c j))≠0)(hB:∀i j,(A i j).natAbs≤B)(S:Nat→Nat):(D r (fun i j=>H i (S j))).natAbs≤fct r*B^r:=by
 have hτ:∃τ:Nat→Nat,(∀i,i<r→τ i<L)∧D r (fun i j=>A (τ i) (c j))≠0:=Classical.byContradiction fun hno=>by
  have h0:∀τ:Nat→Nat,(∀i,i<r→τ i<L)→D r (fun i j=>A (τ i) (c j))=0:=fun τ h=>Classical.byContradiction fun h2=>hno ⟨τ,h,h2⟩
  by_cases hL:0<L
  ·have:=Bz A U c h0 r (Nat.le_refl _) (fun _=>0) fun _ _=>hL
   refine hp ?_
   rw[←this]
   exact cA r _ _ fun i j hi _=>by rw[if_pos hi,hU i hi]
  ·obtain rfl:L=0:=by omega
   by_cases hr:r=0
   ·subst hr;exact hp (h0 (fun _=>0) fun i hi=>absurd hi (Nat.not_lt_zero i))
   ·refine hp (IY (i:=0) (by omega) _ fun l _=>?_)
    show H 0 (c l)=0
    rw[hU 0 (by omega)];rfl
 obtain⟨τ,h1,h2⟩:=hτ
 obtain⟨z,hz⟩:=BC (r:=r) H (fun i k=>V (τ i) k) r (Nat.le_refl _) (fun _=>0) (fun i hi=>by omega)
 have e:∀S:Nat→Nat,D r (fun i j=>A (τ i) (S j))=z*D r (fun i j=>H i (S j)):=fun S=>by
  rw[←hz S]
  exact cA r _ _ fun i j hi _=>by rw[if_pos hi,hV _ (h1 i hi)]
 have hz0:z≠0:=fun hz0=>h2 (by rw[e c,hz0,Int.zero_mul])
 have h3:=D_bd (B:=B) r (fun i j=>A (τ i) (S j)) fun i j=>hB _ _
 rw[e S,Int.natAbs_mul]at h3
 exact Nat.le_trans (Nat.le_mul_of_pos_left _ (by omega)) h3
theorem Fo:∀(n:Nat) (f:Nat→Nat→Int),(∀i j,j<i→i<n→f i j=0)→(∀i,i<n→1≤f i i)→1≤D n f∧∀i,i<n→f i i≤D n f
 |0,_,_,_=>⟨by simp[D],fun i hi=>absurd hi (Nat.not_lt_zero i)⟩
 |n+1,f,h0,h1=>by
  have e:D (n+1) f=f 0 0*D n (fun i j=>f (i+1) (j+1)):=by
   rw[D_tr]
   show sm (n+1) (fun k=>sg k*f k 0*D n (fun i j=>f (skip k j) (i+1)))=_
   rw[zO (j:=0) (by omega) fun k hk hne=>by rw[h0 k 0 (by omega) hk];simp,D_tr n (fun i j=>f (i+1) (j+1))]
   rw[show sg 0=1 from rfl,Int.one_mul]
   congr 1
  obtain⟨i1,i2⟩:=Fo n (fun i j=>f (i+1) (j+1)) (fun i j hj hi=>h0 _ _ (by omega) (by omega)) fun i hi=>h1 _ (by omega)
  have ha:=h1 0 (by omega)
  rw[e]
  generalize D n (fun i j=>f (i+1) (j+1))=d at*
  have hda:d≤f 0 0*d:=by
   have:=Int.mul_le_mul_of_nonneg_right ha (show 0≤d by omega)
   omega
  have haa:f 0 0≤f 0 0*d:=by
   have:=Int.mul_le_mul_of_nonneg_left i1 (show 0≤f 0 0 by omega)
   omega
  refine⟨by omega,fun i hi=>?_⟩
  cases i with
  |zero=>exact haa
  |succ i=>exact Int.le_trans (i2 i (by omega)) hda
theorem I1{r K P:Nat}(H:Nat→Nat→Int)(c:Nat→Nat)(hK:∀S:Nat→Nat,(D r (fun i j=>H i (S j))).natAbs≤K)(hp:D r (fun i j=>H i (c j))≠0){i:Nat}(hi:i<r)(hP:∀l,l<r→(H i (c l)).natAbs≤P)(j:Nat):(H i j).natAbs≤r*(P*K):=by
 let col:Nat→Nat:=fun b=>if b=0 then j else c (b-1)
 let g:Nat→Nat→Int:=fun a b=>H (if a=0 then i else a-1) (col b)
 have h0:D (r+1) g=0:=vI (i:=0) (j:=i+1) (by omega) (by omega) (by omega) g fun l=>by
  show H (if 0=0 then i else _) _=H (if i+1=0 then i else i+1-1) _
  rw[if_pos rfl,if_neg (by omega),Nat.add_sub_cancel]
 have h1:D (r+1) g=sm (r+1) fun k=>sg k*g 0 k*D r (fun a b=>g (a+1) (skip k b)):=rfl
 have hg:∀k,D r (fun a b=>g (a+1) (skip k b))=D r (fun a b=>H a (col (skip k b))):=fun k=>cA r _ _ fun a b _ _=>by
  show H (if a+1=0 then i else a+1-1) _=_
  rw[if_neg (by omega),Nat.add_sub_cancel]
 rw[h0,o7]at h1
 have e1:sg 0*g 0 0*D r (fun a b=>g (a+1) (skip 0 b))=H i j*D r (fun a b=>H a (c b)):=by
  rw[hg 0,show sg 0=1 from rfl,Int.one_mul]
  show H (if 0=0 then i else _) (col 0)*_=_
  rw[if_pos rfl]
  congr 1
 rw[e1]at h1
 have h2:=yy r (fun l=>sg (l+1)*g 0 (l+1)*D r (fun a b=>g (a+1) (skip (l+1) b))) (P*K) fun l hl=>by
  rw[Int.natAbs_mul,Int.natAbs_mul,zV,Nat.one_mul,hg (l+1)]
  refine Nat.mul_le_mul ?_ (hK _)
  show(H (if 0=0 then i else _) (if l+1=0 then j else c (l+1-1))).natAbs≤P
  rw[if_pos rfl,if_neg (by omega),Nat.add_sub_cancel]
  exact hP l hl
 have h3:(H i j*D r (fun a b=>H a (c b))).natAbs≤r*(P*K):=by omega
 rw[Int.natAbs_mul]at h3
 exact Nat.le_trans (Nat.le_mul_of_pos_right _ (by omega)) h3
theorem uM:∀(M:Mat) (f:Nat→Int) (j:Nat),lcf f M j=sm M.length fun k=>f k*at' M k j
 |[],_,_=>rfl
 |a::A,f,j=>by
  rw[cM,uM A,List.length_cons,o7]
  simp only[bO,dF]
theorem Aa{n B:Nat}{M:Mat}(hR:Rc n M)(hB:∀i j,(at' M i j).natAbs≤B)(i j:Nat):∃r,r≤n∧(at' (red n 0 (0,M)).2 i j).natAbs≤r*((fct r*B^r)*(fct r*B^r)):=by
  have hre:RE M (red n 0 (0,M)).2:=fO n 0 (0,M) hR
  obtain⟨pv,he⟩:=lG n 0 (0,M) id hR (kT M)
  rw[Nat.zero_add]at he
  obtain⟨h1,h2⟩:=hre.sp hR
  generalize(red n 0 (0,M)).2=H at*
  generalize(red n 0 (0,M)).1=r at*
  have hlen:=hre.len
  have hRH:=hre.rc hR
  have hrn:r≤n:=by
    have:∀k,k≤r→k≤n∧∀i,i<k→i≤pv i:=fun k=>by
      induction k with
      |zero=>exact fun _=>⟨Nat.zero_le _,fun i hi=>absurd hi (Nat.not_lt_zero i)⟩
      |succ k ih=>
        intro hk
        obtain⟨a,b⟩:=ih (by omega)
        have hk2:k≤pv k:=by
          cases k with
          |zero=>omega
          |succ k=>have:=b k (by omega);have:=he.mono k (k+1) (by omega) (by omega);omega
        have:=he.lt k (by omega)
        refine⟨by omega,fun i hi=> ?_⟩
        by_cases e:i=k
        · rw[e];exact hk2
        · exact b i (by omega)
    exact(this r (Nat.le_refl _)).1
  refine⟨r,hrn,?_⟩
  by_cases hi:i<r
  · have hz : ∀ k, r ≤ k → ∀ j, at' H k j = 0 := fun k hk j => by
      by_cases hj:j<n
      · exact he.zb k hk j hj
      · exact tB hRH (by omega)
    have hU:∀i,∃f:Nat→Int,∀j,at' H i j=sm M.length fun k=>f k*at' M k j:=fun i=>by
      obtain⟨f,hf⟩:=h1 (at' H i) (SP.row H i)
      exact⟨f,fun j=>by rw[hf j,uM]⟩
    have hV:∀i,∃f:Nat→Int,∀j,at' M i j=sm r fun k=>f k*at' H k j:=fun i=>by
      obtain⟨f,hf⟩:=h2 (at' M i) (SP.row M i)
      refine⟨f,fun j=> ?_⟩
      rw[hf j,uM]
      have:∀d,sm (r+d) (fun k=>f k*at' H k j)=sm r fun k=>f k*at' H k j:=fun d=>by
        induction d with
        |zero=>rfl
        |succ d ih=>
          show sm (r+d) _+f (r+d)*at' H (r+d) j=_
          rw[hz (r+d) (by omega),Int.mul_zero,Int.add_zero,ih]
      have:=this (H.length-r)
      rwa[show r+(H.length-r)=H.length by have:=he.le;omega]at this
    have hT:=Fo r (fun i j=>at' H i (pv j)) (fun i j hj hi=>he.zl i hi _ (he.mono j i hj hi)) fun i hi=>by have:=he.pos i hi;omega
    have hp:D r (fun i j=>at' H i (pv j))≠0:=fun h=>by rw[h]at hT;omega
    have hK:=fun S=>G4 (B:=B) (at' M) (at' H) (fun i=>Classical.choose (hU i)) (fun i=>Classical.choose (hV i)) pv (fun i _ j=>Classical.choose_spec (hU i) j) (fun i _ j=>Classical.choose_spec (hV i) j) hp hB S
    refine I1 (at' H) pv hK hp hi (fun l hl=> ?_) j
    have hKp:=hK pv
    have hpl:=hT.2 l hl
    have hll:at' H l (pv l)≤(fct r*B^r:Nat):=by omega
    by_cases hil:i<l
    · have:=he.ab i l hil hl;omega
    · by_cases hli:i=l
      · subst hli;have:=he.pos i hi;omega
      · rw[he.zl i hi _ (he.mono l i (by omega) hi)];simp
  · have : at' H i j = 0 := by
      by_cases hj:j<n
      · exact he.zb i (by omega) j hj
      · exact tB hRH (by omega)
    rw[this];simp
end Mx
end
section
open Go.RowKit
namespace DW
theorem Cc{n:Nat}{den:Int}{m:Mx.Mat}(hc:lck n m den=0)(hn:n≤5):Mx.Bd (2^520) (Mx.red n 0 (0,m)).2:=fun i j=>by
 obtain⟨r,hr,h⟩:=Mx.Aa (B:=2^50) (jh hc) (qv hc) i j
 refine Nat.le_trans h ?_
 have:r=0∨r=1∨r=2∨r=3∨r=4∨r=5:=by omega
 clear h hr
 rcases this with rfl|rfl|rfl|rfl|rfl|rfl<;>exact of_decide_eq_true af
theorem rM{n:Nat}{den:Int}{m:Mx.Mat}(hc:lck n m den=0)(hn:n≤5):∀l∈nR n m den,∀x∈l,x.natAbs≤2^520:=fun l hl x hx=>by
 have hd:=(gY hc).1
 obtain⟨r,hr,rfl⟩:=List.mem_map.1 hl
 obtain⟨y,hy,rfl⟩:=List.mem_map.1 hx
 have h1:=(Mx.kI (jh hc) (show 0<den by omega)).2.2.2.2.1
 exact Nat.le_trans (Be h1 ((Mx.qE (nH n m) den).2 r hr y hy)) (qO (Cc hc hn) (Ax hr) hy)
structure Mk(n:Nat)(M:Mx.Mat)(z:Int):Prop where
 n0:0<n
 n5:n≤5
 len:M.length≤64
 rc:Mx.Rc n M
 bd:Mx.Bd (2^600) M
 z0:0<z
 zb:z.natAbs≤2^600
theorem Mk.red{n:Nat}{M:Mx.Mat}{z:Int}(h:Mk n M z):Mx.Bd (2^(600*11^n)) (Mx.red n 0 (0,M)).2:=by
 have:=Mx.qh (n:=n) (e:=600) (by omega) n 0 0 M h.rc (by rw[Nat.pow_zero,Nat.mul_one];exact h.bd)
 rw[Nat.zero_add]at this
 exact this
theorem e15{p:Int}(h: -1000000000000000≤p∧p≤1000000000000000):p.natAbs≤2^50:=Nat.le_trans (show p.natAbs≤1000000000000000 by omega) (by decide)
set_option maxRecDepth 20000
set_option maxHeartbeats 2000000
theorem Ab(dim den:Int)(m R:Mx.Mat)(d:Int)(WD:Fn Tryz.prog 23 [dM m] (dW m))(OF:Fn Tryz.prog 81 [zI den] (.nm den))(BS:Fn Tryz.prog 158 [dW m,.nm den,zI dim] (.tp [dW R,.nm d])):Fn Tryz.prog 105 [dL dim m den] (.tp [dW R,.nm d]):=by
 refine aF Tryz.func105 af rfl rfl rfl fun X0=>?_
 simp only[aA]
 (repeat(first|refine gk fun K hK=>?_|refine zs2 ?_));(refine gar ?_;refine cK ?_;refine zs3 ?_;(refine eF (k:=3) (z:=(.agg #[.bool false,.slice none 0 0])) (d:=(.nm 0)) rfl rfl rfl rfl rfl af aa aa cf aa aa bB ?_);refine ae ?_);(repeat(first|refine gk fun K hK=>?_|refine zs2 ?_));(refine pQ ?_;refine Et ?_;refine bV ?_;refine tg ?_;refine Es ?_;refine bV ?_;refine tg ?_;refine Eu ?_;refine bV ?_;refine Er ?_;refine eL ?_;refine eL ?_;refine pR ?_;refine gK ?_;refine jx ?_);(repeat(first|refine gk fun K hK=>?_|refine zs2 ?_))
 exact⟨_,aE (k:=3) aU bs br,.two (.tmp 2) (.cell 3 62) _ _ rfl (.tmp 2 rfl) (.cell 3 _ _ rfl rfl af af)⟩
theorem Ad{n:Nat}{m:Mx.Mat}{den:Int}(hc:lck n m den=0)(hn:n≤5):Fn Tryz.prog 105 [dL n m den] (.tp [dW (nR n m den),.nm (den/nG n m den)]):=by
 obtain⟨k1,k2,k3⟩:=gY hc
 have hR:=jh hc
 have WD:=G8 m (by omega) (fun l hl=>by have:=hR l hl;omega) (fun l hl z hz=>AJ hc l hl z hz)
 exact Ab n den m _ _ WD (pe den (by omega)) (Ce n den m hc hn)
end DW
end
end Go.Proofs.YtcgjmdpcplhanaaGreat
