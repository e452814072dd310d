/- Lemmas for the law: E59 E58 E60 -/
import Derived.Test.YtcgjmdpcplhanaaGreatZh15
namespace Go.Proofs.YtcgjmdpcplhanaaGreat
section
theorem vi{p q:Prop}(h:q)(f:Wq q->p:=by(intro hW;((first|(refine aLs rfl rfl rfl rfl ?_ ?_;(focus(apply aY;(conv=>lhs;whnf);(first|done|exact rfl|(apply aK;(first|(apply decide_eq_true;omega)|(apply decide_eq_false;omega)|assumption|(simp;done)))))))|refine aLw rfl rfl rfl rfl bK oh ?_));exact hW.out)):p:=f ⟨h⟩
theorem zE{p q:Prop}(h:q)(f:Wq q->p:=by(intro hW;((refine gar ?_;refine zs4 ?_;refine mW ?_;refine zs4 ?_;refine zs8 ?_;refine zs8 ?_;refine vi ?_;refine iC ?_;refine zs4 ?_;refine Ab ?_;refine iC ?_;refine zs6 ?_;refine af ?_));exact hW.out)):p:=f ⟨h⟩
theorem zb25{p:Prop}(h:p:=by(apply qj (i:=1) (wd:=1);(exact rfl);(focus((apply an;(conv=>lhs;whnf);(first|done|exact rfl))));(exact bu);(kernel_rfl);(kernel_rfl);(exact rfl);(exact rfl);(exact rfl);(exact rfl))):p:=h
theorem zs134{p q:Prop}(h:q)(f:Wq q->p:=by(intro hW;((first|(refine aLs rfl rfl rfl rfl ?_ ?_;(focus(apply aY;(conv=>lhs;whnf);(first|done|exact rfl|(apply aK;(first|(apply decide_eq_true;omega)|(apply decide_eq_false;omega)|assumption|(simp;done)))))))|refine aLw rfl rfl rfl rfl bK zb29 ?_));exact hW.out)):p:=f ⟨h⟩
theorem zD{p q:Prop}(h:q)(f:Wq q->p:=by(intro hW;((refine gar ?_;refine zs4 ?_;refine zs4 ?_;refine dh ?_;refine br ?_;refine zs4 ?_;refine dh ?_;refine br ?_;refine zs90 ?_;refine qm ?_;refine zs4 ?_;refine zs8 ?_;refine zs8 ?_;refine vF ?_;refine qo ?_;refine zs8 ?_;refine vF ?_;refine qo ?_;refine zs134 ?_;refine sV ?_;refine iu ?_;refine af ?_));exact hW.out)):p:=f ⟨h⟩
theorem zs132{p q:Prop}(h:q)(f:Wq q->p:=by(intro hW;((first|(refine aLs rfl rfl rfl rfl ?_ ?_;(focus(apply aY;(conv=>lhs;whnf);(first|done|exact rfl|(apply aK;(first|(apply decide_eq_true;omega)|(apply decide_eq_false;omega)|assumption|(simp;done)))))))|refine aLw rfl rfl rfl rfl bK zb15 ?_));exact hW.out)):p:=f ⟨h⟩
theorem F5{p q:Prop}(h:q)(f:Wq q->p:=by(intro hW;((refine gar ?_;refine zs4 ?_;refine zs45 ?_;refine zs4 ?_;refine zs8 ?_;refine zs8 ?_;refine vi ?_;refine sV ?_;refine iu ?_;refine zs4 ?_;refine zs8 ?_;refine zs8 ?_;refine iw ?_;refine vi ?_;refine sV ?_;refine iu ?_;refine zs4 ?_;refine zs8 ?_;refine zs8 ?_;refine vy ?_;refine zs8 ?_;refine vy ?_;refine zs132 ?_;refine zs8 ?_;refine vy ?_;refine vi ?_;refine sV ?_;refine iu ?_;refine af ?_));exact hW.out)):p:=f ⟨h⟩
theorem zb9{p:Prop}(h:p:=by(first|(apply Dv;(exact rfl);(focus((apply an;(conv=>lhs;whnf);(first|done|exact rfl))));(focus((apply an;(conv=>lhs;whnf);(first|done|exact rfl))));(exact rfl);(exact rfl))|(apply Du;(exact rfl);(focus((apply an;(conv=>lhs;whnf);(first|done|exact rfl))));(focus((apply an;(conv=>lhs;whnf);(first|done|exact rfl))));(omega))|(apply sH;(exact rfl);(focus((apply an;(conv=>lhs;whnf);(first|done|exact rfl))));(focus((apply an;(conv=>lhs;whnf);(first|done|exact rfl))));(focus(first|omega|decide))))):p:=h
theorem Gz{p q:Prop}(h:q)(f:Wq q->p:=by(intro hW;((first|refine cE rfl rfl rfl aa zb9 aa aa ?_|((try refine aB ?_);refine aL1 rfl rfl rfl zb9 ?_)));exact hW.out)):p:=f ⟨h⟩
theorem pg{p q:Prop}(h:q)(f:Wq q->p:=by(intro hW;((refine gar ?_;refine zs4 ?_;refine zs4 ?_;refine zs4 ?_;refine dh ?_;refine br ?_;refine zs5 ?_;refine lU ?_;refine zs4 ?_;refine zs8 ?_;refine zs8 ?_;refine GF ?_;refine iC ?_;refine af ?_));exact hW.out)):p:=f ⟨h⟩
theorem zb24{p:Prop}(h:p:=by(apply qj (i:=0) (wd:=1);(exact rfl);(focus((apply an;(conv=>lhs;whnf);(first|done|exact rfl))));(exact bu);(kernel_rfl);(kernel_rfl);(exact rfl);(exact rfl);(exact rfl);(exact rfl))):p:=h
end
section
open Go.RowKit
namespace DW
set_option maxRecDepth 20000
set_option maxHeartbeats 2000000
theorem wO(m:List (List Int))(a b q:Int)(hs:smL m=true)(hc:chk m=0)(hi:(ba m).all (fun l=>l.all (inb 1000000000000000))=true)(h2:¬m.length<2)(ha:0<=a/\a<=255)(hb:0<=b/\b<=255)(hq: -128<=q/\q<=127)(w:World)(vs:Array Value)(hv:ATp NoX w [dM m,dB a b,.sc (.int .i8 q)] vs.toList):
  Calls Tryz.prog 3 vs w fun e w'=>∃u,e= .returned u/\AR NoX w' (.sc (.bool true)) u/\Below w.heap.size w w':=by
 have SM:=qy m;have AW:=uj;obtain⟨HR,UN,TI,WD,WH,EQ,LS,hl,hrc⟩:=uQ m hs hc hi;have CO:=lP m;rw[hs]at SM;obtain⟨b1,b2⟩:=tI hs;have CK:=uh m (by omega);have LH:=kb m (by omega) (fun r hr=>by have:=b2 r hr;omega) (fun hc=>by have:=jg hs hc;omega);unfold lhr at LH;rw[if_neg (fun h=>h hc),if_pos hi]at LH;rw[hc]at CK;have CL:=And.intro (show m.length<=900000 by omega) (yg m (by omega) (fun r hr=>by have:=b2 r hr;omega));have hm0:0<m.length:=by omega
 have hml:decide ((m.length:Int)<2)=false:=decide_eq_false (by omega);obtain⟨i,hI⟩:∃i:Nat,a%(m.length:Int)=(i:Int):=⟨_,(Int.toNat_of_nonneg (Int.emod_nonneg _ (by omega))).symm⟩;obtain⟨k,hJ⟩:∃k:Nat,b%(m.length:Int)=(k:Int):=⟨_,(Int.toNat_of_nonneg (Int.emod_nonneg _ (by omega))).symm⟩;have hil:i<m.length:=by have:=Int.emod_lt_of_pos a (show(0:Int)<m.length by omega);omega
 have hkl:k<m.length:=by have:=Int.emod_lt_of_pos b (show(0:Int)<m.length by omega);omega
 obtain⟨row,hrow⟩:=get_some hil;obtain⟨rok,hrok⟩:=get_some hkl;obtain⟨k1,k2,hR,k4⟩:=eK hc;have hwr:row.length=wid m:=hR row (List.mem_of_getElem? hrow);have hwk:rok.length=wid m:=hR rok (List.mem_of_getElem? hrok);have ei:Mx.rw m i=row:=Mx.fl hrow;have ek:Mx.rw m k=rok:=Mx.fl hrok;have h5:=jg hs hc;have AG:i≠k->(∀j,(row.getD j 0).natAbs<=1000000000000)->(∀j,(rok.getD j 0).natAbs<=1000000000000)->∃U2,Fn0 Tryz.prog 16 [dM (m.set i (Mx.bP q row rok))] (.tp [dM (ba m),dW U2,zI 0]):=fun hik h1 h2=>by
  obtain⟨g1,g2,g3⟩:=De q hR hil hkl hik;rw[ei,ek]at g1 g2 g3;have hc2:chk (m.set i (Mx.bP q row rok))=0:=FR (by rw[List.length_set];exact k1) (by rw[g2];exact k2) (by rw[g2];exact g1) fun r hr z hz=>by
   rcases List.mem_or_eq_of_mem_set hr with h|h
   ·exact k4 r h z hz
   ·subst h;obtain⟨j,hj,e⟩:=List.getElem_of_mem hz;have e2:=Mx.fG q row rok j (hwr.trans hwk.symm);rw[List.getD_eq_getElem?_getD,List.getElem?_eq_getElem hj,e,Option.getD_some]at e2;have:=h1 j;have hx:=h2 j;generalize row.getD j 0=x at*;generalize rok.getD j 0=y at*;have e3:(q*y).natAbs<=128*1000000000000:=by rw[Int.natAbs_mul];exact Nat.mul_le_mul (by omega) hx
    omega
  have LH2:=kb (m.set i (Mx.bP q row rok)) (by rw[List.length_set];omega) (fun r hr=>by have:=g1 r hr;omega) (fun _=>by rw[g2];omega);unfold lhr at LH2;rw[if_neg (fun h=>h hc2),g3,if_pos hi]at LH2;exact⟨_,LH2⟩
 clear hi b2 hs hc hrc k4 k1 k2 ei ek;generalize ba m=H at*;generalize cj m=U at*;refine mL (X:=NoX) Tryz.func3 rfl vK rfl ?_ w vs (fun _ h=>h.elim) hv;simp only[aE]
 (repeat(first|refine gk fun K hK=>?_|refine zs2 ?_));refine rh ?_;(repeat(first|refine gk fun K hK=>?_|refine zs2 ?_));refine rf ?_;(repeat(first|refine gk fun K hK=>?_|refine zs2 ?_))
 refine az ?_
 (repeat(first|refine gk fun K hK=>?_|refine zs2 ?_));refine ph ?_;(repeat(first|refine gk fun K hK=>?_|refine zs2 ?_));refine lu ?_;(repeat(first|refine gk fun K hK=>?_|refine zs2 ?_));refine lp ?_;(repeat(first|refine gk fun K hK=>?_|refine zs2 ?_))
 refine az ?_
 (repeat(first|refine gk fun K hK=>?_|refine zs2 ?_));refine zF ?_;(repeat(first|refine gk fun K hK=>?_|refine zs2 ?_));refine ri ?_;(repeat(first|refine gk fun K hK=>?_|refine zs2 ?_))
 refine az ?_
 (repeat(first|refine gk fun K hK=>?_|refine zs2 ?_));refine F5 ?_;(repeat(first|refine gk fun K hK=>?_|refine zs2 ?_))
 refine az ?_
 (repeat(first|refine gk fun K hK=>?_|refine zs2 ?_));(refine gar ?_;refine zs4 ?_;refine zs5 ?_;refine zs7 ?_;refine af ?_);(repeat(first|refine gk fun K hK=>?_|refine zs2 ?_))
 refine az ?_
 (repeat(first|refine gk fun K hK=>?_|refine zs2 ?_));(refine zs92 ?_;(first|refine cE rfl rfl rfl aa zb24 aa aa ?_|((try refine aB ?_);refine aL1 rfl rfl rfl zb24 ?_));refine bp ?_;refine zB ?_;refine aQ ?_;refine vA ?_;refine Gz ?_;(first|refine cE rfl rfl rfl aa zb25 aa aa ?_|((try refine aB ?_);refine aL1 rfl rfl rfl zb25 ?_));refine bp ?_;refine zB ?_;refine aQ ?_;refine vA ?_;refine Gz ?_;refine mX ?_;refine mX ?_;refine di ?_);(repeat(first|refine gk fun K hK=>?_|refine zs2 ?_))
 (refine aq (aj (sl':=[(0,dM m),(2,.sc (.int .i8 q)),(7,dM H),(13,zI (i:Nat)),(14,zI (k:Nat))]) (ow':=[]) au ay) ?_)
 clear hI hJ ha hb
 (repeat(first|refine gk fun K hK=>?_|refine zs2 ?_));(refine gar ?_;refine zs4 ?_;(refine Jw rfl rfl rfl rfl bq (CL) aa aa aa ?_);refine zs6 ?_;refine af ?_);(repeat(first|refine gk fun K hK=>?_|refine zs2 ?_));refine aS ?_;(repeat(first|refine gk fun K hK=>?_|refine zs2 ?_))
 refine aq (aj (sl':=[(0,dM m),(2,.sc (.int .i8 q)),(7,dM H),(13,zI (i:Nat)),(14,zI (k:Nat)),(15,.own 2000000),(16,zI 0)]) (ow':=(2000000,⟨40,1,hds m.length⟩)::([]++rws 3 1 gI 0 m)) au (fun p hp=>by simpa using hp)) ?_;by_cases hik:i=k
 ·have hne:(!decide ((i:Int)=(k:Int)))=false:=by rw[decide_eq_true (by omega)];rfl
  have hset:m.set i row=m:=by
   obtain⟨_,rfl⟩:=List.getElem?_eq_some_iff.1 hrow;exact List.set_getElem_self _
  refine Jp hrow (by omega) rfl rfl fun X1 L hL hLi=>?_;refine aF (fun r s=>r=0/\s=⟨[(0,dM m),(2,.sc (.int .i8 q)),(7,dM H),(13,zI (i:Nat)),(14,zI (k:Nat)),(15,.own 2000000),(16,zI 0)],[(2000000,⟨40,1,L⟩),(1900000,⟨3,1,gI row⟩)]⟩) (m:=0) ⟨rfl,rfl⟩ fun r s hs=>?_;obtain⟨rfl,rfl⟩:=hs;by_cases h0:0<row.length
  ·(repeat(first|refine gk fun K hK=>?_|refine zs2 ?_));refine pg ?_;(repeat(first|refine gk fun K hK=>?_|refine zs2 ?_))
   refine az ?_
   (repeat(first|refine gk fun K hK=>?_|refine zs2 ?_))
   refine⟨row,[(0,dM m),(2,.sc (.int .i8 q)),(7,dM H),(13,zI (i:Nat)),(14,zI (k:Nat)),(15,.own 2000000)],[],(aj (sl':=[(0,dM m),(2,.sc (.int .i8 q)),(7,dM H),(13,zI (i:Nat)),(14,zI (k:Nat)),(15,.own 2000000)]) (ow':=[(2000000,⟨40,1,L⟩),(1900000,⟨3,1,gI row⟩)]) au ay),rfl,rfl,rfl,?_⟩;rw[hset]
   ((simp only[nx,inB,ite_true,ite_false,↓reduceIte,Nat.reduceEqDiff,reduceCtorEq]);apply_assumption-exfalso)
   refine aq (pc (by omega) rfl) ?_
   (refine aq (aj (sl':=[(7,dM H),(15,dM m)]) (ow':=[]) au ay) ?_)
   (repeat(first|refine gk fun K hK=>?_|refine zs2 ?_));refine ph ?_;(repeat(first|refine gk fun K hK=>?_|refine zs2 ?_));refine zE ?_;(repeat(first|refine gk fun K hK=>?_|refine zs2 ?_))
   exact⟨_,Sh.refl,.one (.tmp 6) _ rfl (.tmp 6 rfl)⟩
  ·(repeat(first|refine gk fun K hK=>?_|refine zs2 ?_));refine pg ?_;(repeat(first|refine gk fun K hK=>?_|refine zs2 ?_))
   refine az ?_
   (repeat(first|refine gk fun K hK=>?_|refine zs2 ?_))
   refine⟨row,[(0,dM m),(2,.sc (.int .i8 q)),(7,dM H),(13,zI (i:Nat)),(14,zI (k:Nat)),(15,.own 2000000)],[],(aj (sl':=[(0,dM m),(2,.sc (.int .i8 q)),(7,dM H),(13,zI (i:Nat)),(14,zI (k:Nat)),(15,.own 2000000)]) (ow':=[(2000000,⟨40,1,L⟩),(1900000,⟨3,1,gI row⟩)]) au ay),rfl,rfl,rfl,?_⟩;rw[hset]
   ((simp only[nx,inB,ite_true,ite_false,↓reduceIte,Nat.reduceEqDiff,reduceCtorEq]);apply_assumption-exfalso)
   refine aq (pc (by omega) rfl) ?_
   (refine aq (aj (sl':=[(7,dM H),(15,dM m)]) (ow':=[]) au ay) ?_)
   (repeat(first|refine gk fun K hK=>?_|refine zs2 ?_));refine ph ?_;(repeat(first|refine gk fun K hK=>?_|refine zs2 ?_));refine zE ?_;(repeat(first|refine gk fun K hK=>?_|refine zs2 ?_))
   exact⟨_,Sh.refl,.one (.tmp 6) _ rfl (.tmp 6 rfl)⟩
 ·have hne:(!decide ((i:Int)=(k:Int)))=true:=by rw[decide_eq_false (by omega)];rfl
  have hkr:rok.length=row.length:=hwk.trans hwr.symm;have AX:=Mx.fG q row rok;obtain⟨r2,hr2⟩:∃r2,r2=Mx.bP q row rok:=⟨_,rfl⟩;have hr2l:r2.length=row.length:=by rw[hr2];exact Mx.jv _ _ _ hkr.symm
  rw[<-hr2]at AX AG;have hset2:(m.set i r2).set k rok=m.set i r2:=by
   refine List.ext_getElem? fun j=>?_;rw[List.getElem?_set,List.length_set];by_cases e:k=j
   ·subst e;rw[if_pos rfl,if_pos hkl,List.getElem?_set,if_neg hik,hrok]
   ·rw[if_neg e]
  have hrw5:row.length<=5:=by omega
  clear hwr hwk hr2;refine Jo hrow hrok hik (by omega) rfl rfl fun X1 L hL hLi hLk=>?_;refine aF (fun r s=>∃j,j<=row.length/\r=row.length-j/\(∀l,l<j->(row.getD l 0).natAbs<=1000000000000/\(rok.getD l 0).natAbs<=1000000000000)/\s=⟨[(0,dM m),(2,.sc (.int .i8 q)),(7,dM H),(13,zI (i:Nat)),(14,zI (k:Nat)),(15,.own 2000000),(16,zI (j:Nat))],[(2000000,⟨40,1,L⟩),(1900000,⟨3,1,gI (r2.take j++row.drop j)⟩),(1900001,⟨3,1,gI rok⟩)]⟩) (m:=row.length) ⟨0,Nat.zero_le _,rfl,fun l h=>by omega,rfl⟩ fun r s hs=>?_;obtain⟨j,hj,rfl,hbd,rfl⟩:=hs;have hVl:(r2.take j++row.drop j).length=row.length:=by rw[List.length_append,List.length_take,List.length_drop];omega
  by_cases hjl:j<row.length
  ·obtain⟨x,hx⟩:=get_some hjl;obtain⟨y,hy⟩:=get_some (m:=rok) (k:=j) (by omega);have hxd:row.getD j 0=x:=by rw[List.getD_eq_getElem?_getD,hx];rfl
   have hyd:rok.getD j 0=y:=by rw[List.getD_eq_getElem?_getD,hy];rfl
   have hnk:r2[j]?=some (x+q*y):=by
    have:=AX j hkr.symm;rw[hxd,hyd,List.getD_eq_getElem?_getD,List.getElem?_eq_getElem (by omega),Option.getD_some]at this;rw[List.getElem?_eq_getElem (by omega),this]
   have hq1:(r2.take j++row.drop j).set j (x+q*y)=r2.take (j+1)++row.drop (j+1):=by
    rw[aX hnk,List.set_append_right j _ qs,List.length_take,Nat.min_eq_left (by omega),Nat.sub_self,List.drop_eq_getElem_cons (by omega),List.set_cons_zero,List.append_assoc];rfl
   have hq0:(r2.take j++row.drop j)[j]?=some x:=by
    rw[List.getElem?_append_right qs,List.length_take,Nat.min_eq_left (by omega),Nat.sub_self,List.getElem?_drop];exact hx
   obtain⟨V,hV⟩:∃V,V=r2.take j++row.drop j:=⟨_,rfl⟩;rw[<-hV]at hq1 hq0 hVl;rw[<-hV];clear hV hnk AX AG hx;have W1:=qv x (-1000000000000) 1000000000000;have W2:=qv y (-1000000000000) 1000000000000;have hE:(gI V).set j (zI (x+q*y))=gI (V.set j (x+q*y)):=by unfold gI;rw[List.map_set]
   by_cases hb:(decide (-1000000000000<=x)&&decide (x<=1000000000000))=true
   ·by_cases hb2:(decide (-1000000000000<=y)&&decide (y<=1000000000000))=true
    ·rw[hb]at W1;rw[hb2]at W2;rw[Bool.and_eq_true,decide_eq_true_iff,decide_eq_true_iff]at hb hb2;have hqy:(q*y).natAbs<=128*1000000000000:=by rw[Int.natAbs_mul];exact Nat.mul_le_mul (by omega) (by omega)
     (repeat(first|refine gk fun K hK=>?_|refine zs2 ?_));refine pg ?_;(repeat(first|refine gk fun K hK=>?_|refine zs2 ?_))
     refine av ?_
     (repeat(first|refine gk fun K hK=>?_|refine zs2 ?_));refine zD ?_;(repeat(first|refine gk fun K hK=>?_|refine zs2 ?_))
     refine az ?_
     (repeat(first|refine gk fun K hK=>?_|refine zs2 ?_));((refine oZ [] ae (by exact lE) ?_);refine bA ?_;refine bA ?_;refine dJ ?_;refine eX ?_;refine bA ?_;refine bA ?_;refine bA ?_;refine dJ ?_;refine eX ?_;refine bA ?_;refine dJ ?_;refine eX ?_;refine bA ?_;(first|refine aN1 rfl rfl rfl zb6 ?_|refine iZ rfl rfl rfl zb6 ?_);refine bA ?_;refine bA ?_;refine dJ ?_;refine eX ?_;refine bA ?_;refine dJ ?_;refine eX ?_;(first|refine aN1 rfl rfl rfl Ao ?_|refine iZ rfl rfl rfl Ao ?_);(first|refine aN1 rfl rfl rfl tz ?_|refine iZ rfl rfl rfl tz ?_);refine dJ ?_;(refine qc (i:=j) rfl rfl rfl bq bq bc aa lW aa dL aa ae lX ?_);(refine pa ae ?_));(repeat(first|refine gk fun K hK=>?_|refine zs2 ?_))
     rw[hE,hq1]
     (repeat(first|refine gk fun K hK=>?_|refine zs2 ?_));refine aZ ?_;(repeat(first|refine gk fun K hK=>?_|refine zs2 ?_))
     simp only[nx,inB];exact⟨row.length-(j+1),_,by omega,(aj (sl':=[(0,dM m),(2,.sc (.int .i8 q)),(7,dM H),(13,zI (i:Nat)),(14,zI (k:Nat)),(15,.own 2000000),(16,zI ((j+1:Nat):Int))]) (ow':=[(2000000,⟨40,1,L⟩),(1900000,⟨3,1,gI (r2.take (j+1)++row.drop (j+1))⟩),(1900001,⟨3,1,gI rok⟩)]) au ay),j+1,by omega,rfl,fun l hl=>by
      by_cases e:l=j
      ·subst e;rw[hxd,hyd];omega
      ·exact hbd l (by omega),rfl⟩
    ·rw[hb]at W1;rw[Bool.eq_false_iff.2 hb2]at W2
     (repeat(first|refine gk fun K hK=>?_|refine zs2 ?_));refine pg ?_;(repeat(first|refine gk fun K hK=>?_|refine zs2 ?_))
     refine av ?_
     (repeat(first|refine gk fun K hK=>?_|refine zs2 ?_));refine zD ?_;(repeat(first|refine gk fun K hK=>?_|refine zs2 ?_))
     refine av ?_
     (repeat(first|refine gk fun K hK=>?_|refine zs2 ?_));refine vd ?_;(repeat(first|refine gk fun K hK=>?_|refine zs2 ?_))
     refine⟨V,rok,[(6,.sc (.bool true)),(15,.own 2000000)],[],(aj (sl':=[(6,.sc (.bool true)),(15,.own 2000000)]) (ow':=[(2000000,⟨40,1,L⟩),(1900000,⟨3,1,gI V⟩),(1900001,⟨3,1,gI rok⟩)]) au ay),rfl,rfl,rfl,?_⟩;exact⟨_,Sh.refl,.one (.tmp 6) _ rfl (.tmp 6 rfl)⟩
   ·rw[Bool.eq_false_iff.2 hb]at W1
    (repeat(first|refine gk fun K hK=>?_|refine zs2 ?_));refine pg ?_;(repeat(first|refine gk fun K hK=>?_|refine zs2 ?_))
    refine av ?_
    (repeat(first|refine gk fun K hK=>?_|refine zs2 ?_));refine zD ?_;(repeat(first|refine gk fun K hK=>?_|refine zs2 ?_))
    refine av ?_
    (repeat(first|refine gk fun K hK=>?_|refine zs2 ?_));refine vd ?_;(repeat(first|refine gk fun K hK=>?_|refine zs2 ?_))
    refine⟨V,rok,[(6,.sc (.bool true)),(15,.own 2000000)],[],(aj (sl':=[(6,.sc (.bool true)),(15,.own 2000000)]) (ow':=[(2000000,⟨40,1,L⟩),(1900000,⟨3,1,gI V⟩),(1900001,⟨3,1,gI rok⟩)]) au ay),rfl,rfl,rfl,?_⟩;exact⟨_,Sh.refl,.one (.tmp 6) _ rfl (.tmp 6 rfl)⟩
  ·obtain rfl:j=row.length:=by omega
   have hV:r2.take row.length++row.drop row.length=r2:=by rw[List.take_of_length_le (by omega),List.drop_eq_nil_of_le (by omega),List.append_nil]
   rw[hV];clear hV hVl;obtain⟨U2,LH2⟩:=AG hik (fun l=>by
    by_cases hl:l<row.length
    ·exact(hbd l hl).1
    ·rw[List.getD_eq_getElem?_getD,List.getElem?_eq_none (by omega)];simp) (fun l=>by
    by_cases hl:l<row.length
    ·exact(hbd l hl).2
    ·rw[List.getD_eq_getElem?_getD,List.getElem?_eq_none (by omega)];simp)
   clear AG hbd AX
   (repeat(first|refine gk fun K hK=>?_|refine zs2 ?_));refine pg ?_;(repeat(first|refine gk fun K hK=>?_|refine zs2 ?_))
   refine az ?_
   (repeat(first|refine gk fun K hK=>?_|refine zs2 ?_))
   refine⟨r2,rok,[(0,dM m),(2,.sc (.int .i8 q)),(7,dM H),(13,zI (i:Nat)),(14,zI (k:Nat)),(15,.own 2000000)],[],(aj (sl':=[(0,dM m),(2,.sc (.int .i8 q)),(7,dM H),(13,zI (i:Nat)),(14,zI (k:Nat)),(15,.own 2000000)]) (ow':=[(2000000,⟨40,1,L⟩),(1900000,⟨3,1,gI r2⟩),(1900001,⟨3,1,gI rok⟩)]) au ay),rfl,rfl,rfl,?_⟩;rw[hset2]
   ((simp only[nx,inB,ite_true,ite_false,↓reduceIte,Nat.reduceEqDiff,reduceCtorEq]);apply_assumption-exfalso)
   rw[show m.length=(m.set i r2).length by rw[List.length_set]];refine aq (pc (by rw[List.length_set];omega) rfl) ?_
   (refine aq (aj (sl':=[(7,dM H),(15,dM (m.set i r2))]) (ow':=[]) au ay) ?_)
   (repeat(first|refine gk fun K hK=>?_|refine zs2 ?_));(refine gar ?_;refine zs4 ?_;(refine xK rfl rfl rfl rfl bq aa aa LH2 ?_);refine zs4 ?_;refine ir ?_;refine ir ?_;refine ir ?_;refine zs6 ?_;refine zs6 ?_;refine zs6 ?_;refine af ?_);(repeat(first|refine gk fun K hK=>?_|refine zs2 ?_));refine zE ?_;(repeat(first|refine gk fun K hK=>?_|refine zs2 ?_))
   exact⟨_,Sh.refl,.one (.tmp 6) _ rfl (.tmp 6 rfl)⟩
end DW
end
section
open Go.RowKit
namespace DW
set_option maxRecDepth 20000
set_option maxHeartbeats 2000000
theorem wP(m:List (List Int))(a b q:Int)(hs:smL m=true)(hc:chk m=0)(hi:(ba m).all (fun l=>l.all (inb 1000000000000000))=true)(h2:m.length<2)(w:World)(vs:Array Value)(hv:ATp NoX w [dM m,dB a b,.sc (.int .i8 q)] vs.toList):
  Calls Tryz.prog 3 vs w fun e w'=>∃u,e= .returned u/\AR NoX w' (.sc (.bool true)) u/\Below w.heap.size w w':=by
 have SM:=qy m;have AW:=uj;obtain⟨HR,UN,TI,WD,WH,EQ,LS,hl,hrc⟩:=uQ m hs hc hi;have CO:=lP m;rw[hs]at SM;obtain⟨b1,b2⟩:=tI hs;have CK:=uh m (by omega);have LH:=kb m (by omega) (fun r hr=>by have:=b2 r hr;omega) (fun hc=>by have:=jg hs hc;omega);unfold lhr at LH;rw[if_neg (fun h=>h hc),if_pos hi]at LH;rw[hc]at CK;have hml:decide ((m.length:Int)<2)=true:=decide_eq_true (by omega);clear hi b2 hs hc hrc;generalize ba m=H at*;generalize cj m=U at*;refine mL (X:=NoX) Tryz.func3 rfl vK rfl ?_ w vs (fun _ h=>h.elim) hv;simp only[aE]
 (repeat(first|refine gk fun K hK=>?_|refine zs2 ?_));refine rh ?_;(repeat(first|refine gk fun K hK=>?_|refine zs2 ?_));refine rf ?_;(repeat(first|refine gk fun K hK=>?_|refine zs2 ?_))
 refine az ?_
 (repeat(first|refine gk fun K hK=>?_|refine zs2 ?_));refine ph ?_;(repeat(first|refine gk fun K hK=>?_|refine zs2 ?_));refine lu ?_;(repeat(first|refine gk fun K hK=>?_|refine zs2 ?_));refine lp ?_;(repeat(first|refine gk fun K hK=>?_|refine zs2 ?_))
 refine az ?_
 (repeat(first|refine gk fun K hK=>?_|refine zs2 ?_));refine zF ?_;(repeat(first|refine gk fun K hK=>?_|refine zs2 ?_));refine ri ?_;(repeat(first|refine gk fun K hK=>?_|refine zs2 ?_))
 refine az ?_
 (repeat(first|refine gk fun K hK=>?_|refine zs2 ?_));refine F5 ?_;(repeat(first|refine gk fun K hK=>?_|refine zs2 ?_))
 refine az ?_
 (repeat(first|refine gk fun K hK=>?_|refine zs2 ?_));(refine gar ?_;refine zs4 ?_;refine zs5 ?_;refine zs7 ?_;refine af ?_);(repeat(first|refine gk fun K hK=>?_|refine zs2 ?_))
 refine av ?_
 (repeat(first|refine gk fun K hK=>?_|refine zs2 ?_));refine vd ?_;(repeat(first|refine gk fun K hK=>?_|refine zs2 ?_))
 exact⟨_,Sh.refl,.one (.tmp 6) _ rfl (.tmp 6 rfl)⟩
end DW
end
section
open Go.RowKit
open DW in
theorem xX(v:Value)(m:List (List Int))(a b q:Int)(ha:0<=a/\a<=255)(hb:0<=b/\b<=255)(hq: -128<=q/\q<=127)(w:World)(h:DW.AR (fun _=>False) w (DW.dM m) v):Calls Tryz.prog 3 #[v,.agg #[.int .u8 a,.int .u8 b],.int .i8 q] w fun e w'=>e= .returned (.bool true)/\Below w.heap.size w w':=by
 have hv:DW.ATp DW.NoX w [DW.dM m,DW.dB a b,.sc (.int .i8 q)] (#[v,.agg #[.int .u8 a,.int .u8 b],.int .i8 q]:Array Value).toList:=by
  simp only[DW.ATp];refine⟨v,_,rfl,h,_,_,rfl,?_,_,_,rfl,?_,rfl⟩
  ·simp only[DW.AR,DW.ASt];exact⟨_,rfl,.int .u8 a,_,rfl,⟨by first|rfl|trivial,rfl⟩,rfl,.int .u8 b,[],rfl,⟨by first|rfl|trivial,rfl⟩,rfl,rfl⟩
  ·simp only[DW.AR];exact⟨by first|rfl|trivial,by first|rfl|trivial⟩
 have key:Calls Tryz.prog 3 #[v,.agg #[.int .u8 a,.int .u8 b],.int .i8 q] w fun e w'=>∃u,e= .returned u/\DW.AR DW.NoX w' (.sc (.bool true)) u/\Below w.heap.size w w':=by
  by_cases hs:smL m=true/\chk m=0/\(ba m).all (fun l=>l.all (inb 1000000000000000))=true
  ·by_cases h2:m.length<2
   ·exact DW.wP m a b q hs.1 hs.2.1 hs.2.2 h2 w _ hv
   ·exact DW.wO m a b q hs.1 hs.2.1 hs.2.2 h2 ha hb hq w _ hv
  ·exact DW.wQ m a b q hs w _ hv
 refine key.mono fun e w' ⟨u,h1,h2,h3⟩=>⟨?_,h3⟩;simp only[DW.AR]at h2;rw[h1,h2.1]
end
end Go.Proofs.YtcgjmdpcplhanaaGreat
