/- Lemmas for the law: E11 E12 E13 Q1 Q2 Q3 -/
import Derived.Test.YtcgjmdpcplhanaaGreatZt5
namespace Go.Proofs.YtcgjmdpcplhanaaGreat
section
theorem xi{p q:Prop}(h:q)(f:Wq q->p:=by(intro hW;((refine gar ?_;refine bs ?_;refine cw ?_;refine fX ?_;refine af ?_));exact hW.out)):p:=f ⟨h⟩
theorem zs81{p q:Prop}(h:q)(f:Wq q->p:=by(intro hW;((first|(apply ah 13;(focus kernel_rfl);(decide+kernel))|(apply ah 12;(focus kernel_rfl);(decide+kernel))|(apply ah 11;(focus kernel_rfl);(decide+kernel))|(apply ah 10;(focus kernel_rfl);(decide+kernel))|(apply ah 9;(focus kernel_rfl);(decide+kernel))|(apply ah 8;(focus kernel_rfl);(decide+kernel))|(apply ah 7;(focus kernel_rfl);(decide+kernel))|(apply ah 6;(focus kernel_rfl);(decide+kernel)));simp only[List.take_succ_cons,List.take_zero,List.drop_succ_cons,List.drop_zero]);exact hW.out)):p:=f ⟨h⟩
theorem CE{p q:Prop}(h:q)(f:Wq q->p:=by(intro hW;((refine gar ?_;refine zs4 ?_;refine zs4 ?_;refine lh ?_;refine zs4 ?_;refine zs8 ?_;refine zs8 ?_;refine zs60 ?_;refine gg ?_;refine zs6 ?_;refine af ?_));exact hW.out)):p:=f ⟨h⟩
theorem zs84{p q:Prop}(h:q)(f:Wq q->p:=by(intro hW;((first|(refine aLs rfl rfl rfl rfl ?_ ?_;(focus(apply aQ;(conv=>lhs;whnf);(first|done|exact rfl|(apply aI;(first|(apply decide_eq_true;omega)|(apply decide_eq_false;omega)|assumption|(simp;done)))))))|refine aLw rfl rfl rfl rfl bI mC ?_));exact hW.out)):p:=f ⟨h⟩
theorem xh{p q:Prop}(h:q)(f:Wq q->p:=by(intro hW;((refine gar ?_;refine zs4 ?_;refine zs5 ?_;refine zs7 ?_;refine zs4 ?_;refine zs8 ?_;refine zs84 ?_;refine kX ?_;refine kY ?_;refine af ?_));exact hW.out)):p:=f ⟨h⟩
theorem fZ{p q:Prop}(h:q)(f:Wq q->p:=by(intro hW;((refine gar ?_;refine zs4 ?_;refine zs4 ?_;refine zs4 ?_;refine eI ?_;refine bs ?_;refine zs5 ?_;refine lh ?_;refine af ?_));exact hW.out)):p:=f ⟨h⟩
theorem zs85{p q:Prop}(h:q)(f:Wq q->p:=by(intro hW;(refine aL1 rfl rfl rfl zb45 ?_);exact hW.out)):p:=f ⟨h⟩
theorem CB{p q:Prop}(h:q)(f:Wq q->p:=by(intro hW;((refine gar ?_;refine zs4 ?_;refine zs4 ?_;refine eI ?_;refine bs ?_;refine zs4 ?_;refine eI ?_;refine bs ?_;refine cw ?_;refine zs85 ?_;refine af ?_));exact hW.out)):p:=f ⟨h⟩
theorem zb8{p:Prop}(h:p:=by(first|(apply gG;(exact rfl);(focus((apply ak;(conv=>lhs;whnf);(first|done|exact rfl))));(exact bq);(kernel_rfl);(kernel_rfl);(omega);(focus((first|(apply uF;(focus assumption);(focus assumption))|(apply get_map;assumption)|(apply get_own;assumption)))))|(apply et;(exact rfl);(focus((apply ak;(conv=>lhs;whnf);(first|done|exact rfl))));(exact bq);(focus((repeat(first|exact List.mem_cons_self|refine List.mem_cons_of_mem _ ?_))));(kernel_rfl);(kernel_rfl);(focus(first|omega|(simp;omega)));(focus(first|(apply dn;assumption)|exact rfl))))):p:=h
theorem zs80{p q:Prop}(h:q)(f:Wq q->p:=by(intro hW;(refine aL1 rfl rfl rfl zb8 ?_);exact hW.out)):p:=f ⟨h⟩
theorem zs83{p q:Prop}(h:q)(f:Wq q->p:=by(intro hW;((first|refine cr rfl rfl rfl aa zb8 aa aa ?_|((try refine av ?_);refine aL1 rfl rfl rfl zb8 ?_)));exact hW.out)):p:=f ⟨h⟩
theorem zs82{p q:Prop}(h:q)(f:Wq q->p:=by(intro hW;((first|refine cr rfl rfl rfl aa zb2 aa aa ?_|((try refine av ?_);refine aL1 rfl rfl rfl zb2 ?_)));exact hW.out)):p:=f ⟨h⟩
theorem CD{p q:Prop}(h:q)(f:Wq q->p:=by(intro hW;((refine zs58 ?_;refine aZ ?_;refine aZ ?_;refine tE ?_;refine qH ?_;refine zs82 ?_;refine aZ ?_;refine zs83 ?_;refine qH ?_;refine zs82 ?_;refine wR ?_;refine eA ?_));exact hW.out)):p:=f ⟨h⟩
end
section
open Go.RowKit
namespace DW
theorem cv{α:Type}{m:List α}{k:Nat}{x:α}(h:m[k]?=some x):m.take (k+1)=m.take k++[x]:=by rw[List.take_add_one,h];rfl
theorem get_some{α:Type}{m:List α}{k:Nat}(h:k<m.length):∃x,m[k]?=some x:=⟨_,List.getElem?_eq_getElem h⟩
theorem vM{m:List (List Int)}(h:0<m.length):∃l,m[0]?=some l/\l.length=wid m:=by
 cases m with
 |nil=>simp at h
 |cons l m=>exact⟨l,rfl,rfl⟩
set_option maxRecDepth 20000
set_option maxHeartbeats 1000000
theorem A7(z a b:Int):Fn Tryz.prog 26 [zI z,zI a,zI b] (.sc (.bool (decide (a<=z)&&decide (z<=b)))):=by
 refine aY Tryz.func26 ae rfl rfl rfl fun X0=>?_;simp only[aK];by_cases h:z>=a
 ·rw[show(decide (a<=z)&&decide (z<=b))=decide (z<=b) by rw[decide_eq_true h,Bool.true_and]];have hd:decide (z>=a)=true:=decide_eq_true h
  (repeat(first|refine gk fun K hK=>?_|refine zs2 ?_));refine bZ ?_;(repeat(first|refine gk fun K hK=>?_|refine zs2 ?_));refine CE ?_;(repeat(first|refine gk fun K hK=>?_|refine zs2 ?_))
  exact⟨_,Sh.refl,.one (.tmp 6) _ rfl (.tmp 6 rfl)⟩
 ·rw[show(decide (a<=z)&&decide (z<=b))=false by rw[decide_eq_false h,Bool.false_and]];have hd:decide (z>=a)=false:=decide_eq_false h
  (repeat(first|refine gk fun K hK=>?_|refine zs2 ?_));refine bZ ?_;(repeat(first|refine gk fun K hK=>?_|refine zs2 ?_));refine CE ?_;(repeat(first|refine gk fun K hK=>?_|refine zs2 ?_))
  exact⟨_,Sh.refl,.one (.tmp 6) _ rfl (.tmp 6 rfl)⟩
theorem GS(z:Int):Fn Tryz.prog 76 [zI z] (.sc (.bool (inb 1000000000000000 z))):=by
 have W:=A7 z (-1000000000000000) 1000000000000000;refine aY Tryz.func76 ae rfl rfl rfl fun X0=>?_;simp only[aK]
 (repeat(first|refine gk fun K hK=>?_|refine zs2 ?_));refine bZ ?_;(repeat(first|refine gk fun K hK=>?_|refine zs2 ?_));(refine gar ?_;refine zs4 ?_;(refine aL1 rfl rfl rfl (by(apply rO;(exact rfl);(focus((apply ak;(conv=>lhs;whnf);(first|done|exact rfl))));(exact bq);(exact bq);(exact rfl);(exact rfl);(exact rfl);(assumption);(exact rfl))) ?_);refine zs6 ?_;refine af ?_);(repeat(first|refine gk fun K hK=>?_|refine zs2 ?_))
 exact⟨_,Sh.refl,.one (.tmp 2) _ rfl (.tmp 2 rfl)⟩
theorem na(m:List (List Int)):Fn Tryz.prog 24 [dM m] (zI (wid m)):=by
 refine aY Tryz.func24 ae rfl rfl rfl fun X0=>?_;simp only[aK];by_cases h:m.length=0
 ·obtain rfl:=List.eq_nil_of_length_eq_zero h
  (repeat(first|refine gk fun K hK=>?_|refine zs2 ?_));refine aX ?_;(repeat(first|refine gk fun K hK=>?_|refine zs2 ?_));refine oY ?_;(repeat(first|refine gk fun K hK=>?_|refine zs2 ?_))
  refine aA ?_
  (repeat(first|refine gk fun K hK=>?_|refine zs2 ?_));refine aX ?_;(repeat(first|refine gk fun K hK=>?_|refine zs2 ?_))
  exact⟨_,Sh.refl,.one (.tmp 2) _ rfl (.tmp 2 rfl)⟩
 ·obtain⟨l,hl,hw⟩:=vM (m:=m) (by omega);have hc:(0:Int)=((0:Nat):Int):=rfl
  (repeat(first|refine gk fun K hK=>?_|refine zs2 ?_));refine aX ?_;(repeat(first|refine gk fun K hK=>?_|refine zs2 ?_));refine oY ?_;(repeat(first|refine gk fun K hK=>?_|refine zs2 ?_))
  refine aB ?_
  (repeat(first|refine gk fun K hK=>?_|refine zs2 ?_));(refine gar ?_;refine zs4 ?_;refine zs80 ?_;refine wQ ?_;refine zs5 ?_;refine zs6 ?_;refine af ?_);(repeat(first|refine gk fun K hK=>?_|refine zs2 ?_))
  rw[<-hw];exact⟨_,Sh.refl,.one (.tmp 2) _ rfl (.tmp 2 rfl)⟩
theorem zu(z:Int)(hz:Hf z):Fn Tryz.prog 110 [.nm z] (.nm (z.natAbs:Int)):=by
 have S:=kK z hz;have N:=BF z hz;have G:=yg z hz;have s1:=rp z;obtain⟨g,hg⟩:∃g,g=sgn z:=⟨_,rfl⟩;rw[<-hg]at s1 S;refine aY Tryz.func110 ae rfl rfl rfl fun X0=>?_;simp only[aK];by_cases h:z<0
 ·have h1:=s1.2 h;rw[show(z.natAbs:Int)= -z by omega]
  (repeat(first|refine gk fun K hK=>?_|refine zs2 ?_));refine te ?_;(repeat(first|refine gk fun K hK=>?_|refine zs2 ?_));(refine gar ?_;refine bs ?_;refine cw ?_;refine zs7 ?_;refine af ?_);(repeat(first|refine gk fun K hK=>?_|refine zs2 ?_))
  refine aA ?_
  (repeat(first|refine gk fun K hK=>?_|refine zs2 ?_));refine xi ?_;(repeat(first|refine gk fun K hK=>?_|refine zs2 ?_))
  exact⟨_,aE (k:=2) aR bz bw,.one (.cell 2 62) _ rfl (.cell 2 _ _ rfl rfl ae ae)⟩
 ·have h1:¬g<0:=fun e=>h (s1.1 e);rw[show(z.natAbs:Int)=z by omega]
  (repeat(first|refine gk fun K hK=>?_|refine zs2 ?_));refine te ?_;(repeat(first|refine gk fun K hK=>?_|refine zs2 ?_));(refine gar ?_;refine bs ?_;refine cw ?_;refine zs7 ?_;refine af ?_);(repeat(first|refine gk fun K hK=>?_|refine zs2 ?_))
  refine aB ?_
  (repeat(first|refine gk fun K hK=>?_|refine zs2 ?_));refine xi ?_;(repeat(first|refine gk fun K hK=>?_|refine zs2 ?_))
  exact⟨_,aE (k:=2) aR bz bw,.one (.cell 2 62) _ rfl (.cell 2 _ _ rfl rfl ae ae)⟩
theorem Ck{q:Int}{a b:List Int}{k:Nat}{x y:Int}(ha:a[k]?=some x)(hb:b[k]?=some y):(Mx.dw q a b)[k]?=some (x+q*y):=by
 unfold Mx.dw;rw[List.getElem?_zipWith,ha,hb]
theorem zh(row frm:List Int)(q:Int)(hl:row.length=frm.length)(hr:row.length<=1000000)(h1:∀x∈row,Hf x)(h2:∀y∈frm,Hf y/\Hf (q*y))(hq:Hf q):Fn Tryz.prog 149 [dZ row,dZ frm,.nm q] (dZ (Mx.dw (-q) row frm)):=by
 refine aY Tryz.func149 ae rfl rfl rfl fun X0=>?_;simp only[aK]
 (repeat(first|refine gk fun K hK=>?_|refine zs2 ?_));(refine gar ?_;refine gQ ?_;refine zs3 ?_;refine af ?_);(repeat(first|refine gk fun K hK=>?_|refine zs2 ?_));refine cL ?_;(repeat(first|refine gk fun K hK=>?_|refine zs2 ?_));refine aX ?_;(repeat(first|refine gk fun K hK=>?_|refine zs2 ?_))
 refine az (eu (t:=7) (k:=7) (T:=62) (wd:=2) iK rfl rfl cM) ?_
 (refine az (au (sl':=[(0,dZ row),(1,dZ frm),(5,.pt (.nm q)),(7,.own 7),(8,zI 0)]) (ow':=[(7,⟨62,2,[]⟩)]) ay aD) ?_)
 refine aV (fun r s=>∃k,k<=row.length/\r=row.length-k/\s=⟨[(0,dZ row),(1,dZ frm),(5,.pt (.nm q)),(7,.own 7),(8,zI (k:Nat))],[(7,⟨62,2,((Mx.dw (-q) row frm).take k).map .nm⟩)]⟩) (m:=row.length) ⟨0,Nat.zero_le _,rfl,rfl⟩ fun r s hs=>?_;obtain⟨k,hk,rfl,rfl⟩:=hs;by_cases hkl:k<row.length
 ·obtain⟨x,hx⟩:=get_some hkl;obtain⟨y,hy⟩:=get_some (m:=frm) (k:=k) (by omega);have hxy:=Ck (q:=-q) hx hy;rw[Int.neg_mul,<-Int.sub_eq_add_neg]at hxy;have hfx:=h1 x (List.mem_of_getElem? hx);have hfy:=h2 y (List.mem_of_getElem? hy);have M:=Dq q y hq hfy.1;have S:=Dk x (q*y) hfx hfy.2
  (repeat(first|refine gk fun K hK=>?_|refine zs2 ?_));refine aU ?_;(repeat(first|refine gk fun K hK=>?_|refine zs2 ?_))
  refine aA ?_
  (repeat(first|refine gk fun K hK=>?_|refine zs2 ?_));(refine zs81 ?_;refine aZ ?_;refine aZ ?_;refine aZ ?_;refine fY ?_;refine bR ?_;refine bR ?_;refine aZ ?_;refine aZ ?_;refine fY ?_;refine bR ?_;refine lg ?_;refine lg ?_;(first|refine cr rfl rfl rfl aa zb24 aa aa ?_|((try refine av ?_);refine aL1 rfl rfl rfl zb24 ?_));((try refine av ?_);(refine nn rfl rfl rfl rfl bu bu aR aa tU ae ae (by(simp only[List.length_map,List.length_take,List.length_cons,List.length_nil];omega)) cM tS ?_));refine oh ?_;refine eA ?_);(repeat(first|refine gk fun K hK=>?_|refine zs2 ?_));refine ba ?_;(repeat(first|refine gk fun K hK=>?_|refine zs2 ?_))
  simp only[nx,inB];exact⟨row.length-(k+1),_,by omega,(au (sl':=[(0,dZ row),(1,dZ frm),(5,.pt (.nm q)),(7,.own 7),(8,zI ((k+1:Nat):Int))]) (ow':=[(7,⟨62,2,((Mx.dw (-q) row frm).take k).map .nm++[.nm (x-q*y)]⟩)]) ay aD),k+1,by omega,rfl,by rw[cv hxy,List.map_append];rfl⟩
 ·obtain rfl:k=row.length:=by omega
  have hal:=Mx.jD (-q) row frm hl;rw[List.take_of_length_le (by omega)]
  (repeat(first|refine gk fun K hK=>?_|refine zs2 ?_));refine aU ?_;(repeat(first|refine gk fun K hK=>?_|refine zs2 ?_))
  refine aB ?_
  (repeat(first|refine gk fun K hK=>?_|refine zs2 ?_))
  refine az (aE (k:=7) aR bz bw) ?_;refine ik ?_
  (repeat(first|refine gk fun K hK=>?_|refine zs2 ?_))
  exact⟨_,Sh.refl,.one (.tmp 6) _ rfl (.tmp 6 rfl)⟩
end DW
end
section
open Go.RowKit
namespace DW
theorem yA{m:List (List Int)}(h:∀(j:Nat) (r:List Int),j<m.length->m[j]?=some r->r.length=wid m)(h2:64<m.length\/64<wid m):chk m=8:=by
 unfold chk;rw[if_pos (nN h),if_pos h2]
theorem chk2{m:List (List Int)}(h:∀(j:Nat) (r:List Int),j<m.length->m[j]?=some r->r.length=wid m)(h2:¬(64<m.length\/64<wid m)){r:List Int}{z:Int}(hr:r∈m)(hz:z∈r)(hb:inb 1000000000000000 z=false):chk m=2:=by
 unfold chk;rw[if_pos (nN h),if_neg h2,if_pos];rw[List.any_eq_true];refine⟨r,hr,?_⟩;rw[List.any_eq_true];exact⟨z,hz,by unfold big;rw[hb];rfl⟩
theorem chk0{m:List (List Int)}(h:∀(j:Nat) (r:List Int),j<m.length->m[j]?=some r->r.length=wid m)(h2:¬(64<m.length\/64<wid m))(h3:∀r∈m,∀z∈r,inb 1000000000000000 z=true):chk m=0:=by
 unfold chk;rw[if_pos (nN h),if_neg h2,if_neg];intro h4;rw[List.any_eq_true]at h4;obtain⟨r,hr,h5⟩:=h4;rw[List.any_eq_true]at h5;obtain⟨z,hz,h6⟩:=h5;unfold big at h6;rw[h3 r hr z hz]at h6;cases h6
set_option maxRecDepth 20000
set_option maxHeartbeats 1000000
theorem Fp(m:List (List Int))(hm:m.length<=1000000000):Fn Tryz.prog 17 [dM m] (zI (chk m)):=by
 refine aY Tryz.func17 ae rfl rfl rfl fun X0=>?_;simp only[aK];have hc0:(0:Int)=((0:Nat):Int):=rfl;have COLS:=na m
 (repeat(first|refine gk fun K hK=>?_|refine zs2 ?_));refine aX ?_;(repeat(first|refine gk fun K hK=>?_|refine zs2 ?_));refine aX ?_;(repeat(first|refine gk fun K hK=>?_|refine zs2 ?_))
 (refine az (au (sl':=[(0,dM m),(3,zI 0)]) (ow':=[]) ay aD) ?_)
 refine aV (fun r s=>∃k,k<=m.length/\r=m.length-k/\(∀(j:Nat) (r:List Int),j<k->m[j]?=some r->r.length=wid m)/\s=⟨[(0,dM m),(3,zI (k:Nat))],[]⟩) (m:=m.length) ⟨0,Nat.zero_le _,rfl,fun j r h=>absurd h (Nat.not_lt_zero j),rfl⟩ fun r s hs=>?_;obtain⟨k,hk,rfl,hall,rfl⟩:=hs;by_cases hkl:k<m.length
 ·obtain⟨l0,hl0,hw⟩:=vM (m:=m) (by omega);obtain⟨l,hl⟩:=get_some hkl;by_cases hlw:l.length=wid m
  ·have hn:l.length=l0.length:=by omega
   (repeat(first|refine gk fun K hK=>?_|refine zs2 ?_));refine aU ?_;(repeat(first|refine gk fun K hK=>?_|refine zs2 ?_))
   refine aA ?_
   (repeat(first|refine gk fun K hK=>?_|refine zs2 ?_));refine CD ?_;(repeat(first|refine gk fun K hK=>?_|refine zs2 ?_))
   refine aB ?_
   (repeat(first|refine gk fun K hK=>?_|refine zs2 ?_));refine ba ?_;(repeat(first|refine gk fun K hK=>?_|refine zs2 ?_))
   simp only[nx,inB];exact⟨m.length-(k+1),_,by omega,(au (sl':=[(0,dM m),(3,zI ((k+1:Nat):Int))]) (ow':=[]) ay aD),k+1,by omega,rfl,fun j r hj hr=>by
    by_cases h:j=k
    ·subst h;rw[hl]at hr;cases hr;exact hlw
    ·exact hall j r (by omega) hr,rfl⟩
  ·have hn:l.length≠l0.length:=by omega
   have EC:=chk9 (List.mem_of_getElem? hl) hlw
   (repeat(first|refine gk fun K hK=>?_|refine zs2 ?_));refine aU ?_;(repeat(first|refine gk fun K hK=>?_|refine zs2 ?_))
   refine aA ?_
   (repeat(first|refine gk fun K hK=>?_|refine zs2 ?_));refine CD ?_;(repeat(first|refine gk fun K hK=>?_|refine zs2 ?_))
   refine aA ?_
   (repeat(first|refine gk fun K hK=>?_|refine zs2 ?_));refine aX ?_;(repeat(first|refine gk fun K hK=>?_|refine zs2 ?_))
   rw[EC];exact⟨_,Sh.refl,.one (.tmp 2) _ rfl (.tmp 2 rfl)⟩
 ·obtain rfl:k=m.length:=by omega
  obtain⟨W,hW⟩:∃W,W=wid m:=⟨_,rfl⟩;rw[<-hW]at COLS;by_cases h64:64<m.length
  ·have EC:=yA hall (.inl h64);have hd:decide ((m.length:Int)>64)=true:=decide_eq_true (by omega)
   (repeat(first|refine gk fun K hK=>?_|refine zs2 ?_));refine aU ?_;(repeat(first|refine gk fun K hK=>?_|refine zs2 ?_))
   refine aB ?_
   (repeat(first|refine gk fun K hK=>?_|refine zs2 ?_));refine xh ?_;(repeat(first|refine gk fun K hK=>?_|refine zs2 ?_))
   refine aA ?_
   (repeat(first|refine gk fun K hK=>?_|refine zs2 ?_));refine aX ?_;(repeat(first|refine gk fun K hK=>?_|refine zs2 ?_))
   rw[EC];exact⟨_,Sh.refl,.one (.tmp 2) _ rfl (.tmp 2 rfl)⟩
  ·have hd:decide ((m.length:Int)>64)=false:=decide_eq_false (by omega);by_cases hw64:64<W
   ·have EC:=yA hall (.inr (by omega))
    (repeat(first|refine gk fun K hK=>?_|refine zs2 ?_));refine aU ?_;(repeat(first|refine gk fun K hK=>?_|refine zs2 ?_))
    refine aB ?_
    (repeat(first|refine gk fun K hK=>?_|refine zs2 ?_));refine xh ?_;(repeat(first|refine gk fun K hK=>?_|refine zs2 ?_))
    refine aA ?_
    (repeat(first|refine gk fun K hK=>?_|refine zs2 ?_));refine aX ?_;(repeat(first|refine gk fun K hK=>?_|refine zs2 ?_))
    rw[EC];exact⟨_,Sh.refl,.one (.tmp 2) _ rfl (.tmp 2 rfl)⟩
   ·have hno:¬(64<m.length\/64<wid m):=by omega
    (repeat(first|refine gk fun K hK=>?_|refine zs2 ?_));refine aU ?_;(repeat(first|refine gk fun K hK=>?_|refine zs2 ?_))
    refine aB ?_
    (repeat(first|refine gk fun K hK=>?_|refine zs2 ?_));refine xh ?_;(repeat(first|refine gk fun K hK=>?_|refine zs2 ?_))
    refine aB ?_
    (repeat(first|refine gk fun K hK=>?_|refine zs2 ?_));refine aX ?_;(repeat(first|refine gk fun K hK=>?_|refine zs2 ?_))
    (refine az (au (sl':=[(0,dM m),(4,zI 0)]) (ow':=[]) ay aD) ?_)
    refine aV (fun r s=>∃k,k<=m.length/\r=m.length-k/\(∀l∈m.take k,∀z∈l,inb 1000000000000000 z=true)/\s=⟨[(0,dM m),(4,zI (k:Nat))],[]⟩) (m:=m.length) ⟨0,Nat.zero_le _,rfl,fun l h=>absurd h (by simp),rfl⟩ fun r s hs=>?_;obtain⟨k,hk,rfl,hin,rfl⟩:=hs;by_cases hkl:k<m.length
    ·obtain⟨l,hl⟩:=get_some hkl;have hlw:l.length=wid m:=hall k l hkl hl
     (repeat(first|refine gk fun K hK=>?_|refine zs2 ?_));refine aU ?_;(repeat(first|refine gk fun K hK=>?_|refine zs2 ?_))
     refine aA ?_
     (repeat(first|refine gk fun K hK=>?_|refine zs2 ?_));refine aX ?_;(repeat(first|refine gk fun K hK=>?_|refine zs2 ?_))
     (refine az (au (sl':=[(0,dM m),(4,zI (k:Nat)),(5,zI 0)]) (ow':=[]) ay aD) ?_)
     refine aV (fun r s=>∃j,j<=l.length/\r=l.length-j/\(∀z∈l.take j,inb 1000000000000000 z=true)/\s=⟨[(0,dM m),(4,zI (k:Nat)),(5,zI (j:Nat))],[]⟩) (m:=l.length) ⟨0,Nat.zero_le _,rfl,fun z h=>absurd h (by simp),rfl⟩ fun r s hs=>?_;obtain⟨j,hj,rfl,hin2,rfl⟩:=hs;by_cases hjl:j<l.length
     ·obtain⟨z,hz⟩:=get_some hjl;have FITS:=GS z;by_cases hf:inb 1000000000000000 z=true
      ·rw[hf]at FITS
       (repeat(first|refine gk fun K hK=>?_|refine zs2 ?_));refine fZ ?_;(repeat(first|refine gk fun K hK=>?_|refine zs2 ?_))
       refine aA ?_
       (repeat(first|refine gk fun K hK=>?_|refine zs2 ?_));refine CB ?_;(repeat(first|refine gk fun K hK=>?_|refine zs2 ?_))
       refine aB ?_
       (repeat(first|refine gk fun K hK=>?_|refine zs2 ?_));refine ba ?_;(repeat(first|refine gk fun K hK=>?_|refine zs2 ?_))
       simp only[nx,inB];exact⟨l.length-(j+1),_,by omega,(au (sl':=[(0,dM m),(4,zI (k:Nat)),(5,zI ((j+1:Nat):Int))]) (ow':=[]) ay aD),j+1,by omega,rfl,fun y hy=>by
        rw[cv hz]at hy;rcases List.mem_append.1 hy with h|h
        ·exact hin2 y h
        ·rw[List.mem_singleton.1 h];exact hf,rfl⟩
      ·have hf':inb 1000000000000000 z=false:=by simpa using hf
       rw[hf']at FITS;have EC:=chk2 hall hno (List.mem_of_getElem? hl) (List.mem_of_getElem? hz) hf'
       (repeat(first|refine gk fun K hK=>?_|refine zs2 ?_));refine fZ ?_;(repeat(first|refine gk fun K hK=>?_|refine zs2 ?_))
       refine aA ?_
       (repeat(first|refine gk fun K hK=>?_|refine zs2 ?_));refine CB ?_;(repeat(first|refine gk fun K hK=>?_|refine zs2 ?_))
       refine aA ?_
       (repeat(first|refine gk fun K hK=>?_|refine zs2 ?_));refine aX ?_;(repeat(first|refine gk fun K hK=>?_|refine zs2 ?_))
       rw[EC];exact⟨_,Sh.refl,.one (.tmp 2) _ rfl (.tmp 2 rfl)⟩
     ·obtain rfl:j=l.length:=by omega
      rw[List.take_length]at hin2
      (repeat(first|refine gk fun K hK=>?_|refine zs2 ?_));refine fZ ?_;(repeat(first|refine gk fun K hK=>?_|refine zs2 ?_))
      refine aB ?_
      (repeat(first|refine gk fun K hK=>?_|refine zs2 ?_));refine ba ?_;(repeat(first|refine gk fun K hK=>?_|refine zs2 ?_))
      simp only[nx,inB];exact⟨m.length-(k+1),_,by omega,(au (sl':=[(0,dM m),(4,zI ((k+1:Nat):Int))]) (ow':=[]) ay aD),k+1,by omega,rfl,fun y hy=>by
       rw[cv hl]at hy;rcases List.mem_append.1 hy with h|h
       ·exact hin y h
       ·rw[List.mem_singleton.1 h];exact hin2,rfl⟩
    ·obtain rfl:k=m.length:=by omega
     rw[List.take_length]at hin;have EC:=chk0 hall hno hin
     (repeat(first|refine gk fun K hK=>?_|refine zs2 ?_));refine aU ?_;(repeat(first|refine gk fun K hK=>?_|refine zs2 ?_))
     refine aB ?_
     (repeat(first|refine gk fun K hK=>?_|refine zs2 ?_));refine aX ?_;(repeat(first|refine gk fun K hK=>?_|refine zs2 ?_))
     rw[EC];exact⟨_,Sh.refl,.one (.tmp 2) _ rfl (.tmp 2 rfl)⟩
end DW
end
section
open Go.RowKit
namespace DW
set_option maxRecDepth 20000
set_option maxHeartbeats 1000000
theorem yY(m:List (List Int))(hm:m.length<=1000000)(hm2:∀l∈m,l.length<=1000000)(hm3:∀l∈m,∀z∈l,-9223372036854775808<=z/\z<=9223372036854775807):Fn Tryz.prog 23 [dM m] (dW m):=by
 refine aY Tryz.func23 ae rfl rfl rfl fun X0=>?_;simp only[aK]
 (repeat(first|refine gk fun K hK=>?_|refine zs2 ?_))
 refine cL ?_
 (repeat(first|refine gk fun K hK=>?_|refine zs2 ?_))
 refine cL ?_
 (repeat(first|refine gk fun K hK=>?_|refine zs2 ?_))
 refine aX ?_
 (repeat(first|refine gk fun K hK=>?_|refine zs2 ?_))
 refine az (eu (t:=3) (k:=1) (T:=113) (wd:=1) iK rfl rfl cM) ?_;refine az (kU (sl':=[(0,.ls 1 (m.map dI)),(3,.own 1),(4,zI 0)]) ay rfl) ?_;refine aV (fun r s=>∃k:Nat,k<=m.length/\r=m.length-k/\s=⟨[(0,.ls 1 (m.map dI)),(3,.own 1),(4,zI k)],[(1,⟨113,1,(m.take k).map dZ⟩)]⟩) (m:=m.length) ⟨0,Nat.zero_le _,rfl,rfl⟩ fun r s hs=>?_;obtain⟨k,hk,rfl,rfl⟩:=hs
 (repeat(first|refine gk fun K hK=>?_|refine zs2 ?_))
 refine aU ?_
 (repeat(first|refine gk fun K hK=>?_|refine zs2 ?_))
 by_cases hkm:k<m.length
 ·obtain⟨l,hl⟩:∃l,m[k]?=some l:=⟨_,List.getElem?_eq_getElem hkm⟩;have hl2:=hm2 l (List.mem_of_getElem? hl);refine jF gR (decide_eq_true cA) ?_
  (repeat(first|refine gk fun K hK=>?_|refine zs2 ?_))
  refine cL ?_
  (repeat(first|refine gk fun K hK=>?_|refine zs2 ?_))
  refine aX ?_
  (repeat(first|refine gk fun K hK=>?_|refine zs2 ?_))
  refine az (eu (t:=5) (k:=2) (T:=62) (wd:=2) iK rfl rfl cM) ?_;refine az (kU (sl':=[(0,.ls 1 (m.map dI)),(3,.own 1),(4,zI k),(5,.own 2),(6,zI 0)]) ay rfl) ?_;refine aV (fun r s=>∃j:Nat,j<=l.length/\r=l.length-j/\s=⟨[(0,.ls 1 (m.map dI)),(3,.own 1),(4,zI k),(5,.own 2),(6,zI j)],[(2,⟨62,2,(l.take j).map .nm⟩),(1,⟨113,1,(m.take k).map dZ⟩)]⟩) (m:=l.length) ⟨0,Nat.zero_le _,rfl,rfl⟩ fun r s hs=>?_;obtain⟨j,hj,rfl,rfl⟩:=hs
  (repeat(first|refine gk fun K hK=>?_|refine zs2 ?_))
  refine fZ ?_
  (repeat(first|refine gk fun K hK=>?_|refine zs2 ?_))
  by_cases hjl:j<l.length
  ·obtain⟨x,hx⟩:∃x,l[j]?=some x:=⟨_,List.getElem?_eq_getElem hjl⟩;have HO:=of_d x (hm3 l (List.mem_of_getElem? hl) x (List.mem_of_getElem? hx));refine jF gR (decide_eq_true cA) ?_
   (repeat(first|refine gk fun K hK=>?_|refine zs2 ?_))
   (refine gar ?_;refine zs4 ?_;refine zs4 ?_;refine zs4 ?_;refine eI ?_;refine bs ?_;refine zs4 ?_;refine eI ?_;refine bs ?_;refine cw ?_;refine my ?_;refine zs16 ?_;refine zs6 ?_;refine af ?_)
   (repeat(first|refine gk fun K hK=>?_|refine zs2 ?_))
   refine ba ?_;simp only[nx];refine⟨l.length-(j+1),_,by omega,kU (sl':=[(0,.ls 1 (m.map dI)),(3,.own 1),(4,zI k),(5,.own 2),(6,zI (j+1:Nat))]) ay rfl,j+1,by omega,rfl,?_⟩;rw[cv hx,List.map_append];rfl
  ·refine kb gR (decide_eq_false cA) ?_;obtain rfl:j=l.length:=by omega
   (repeat(first|refine gk fun K hK=>?_|refine zs2 ?_))
   refine az (aE (k:=2) aR bz bw) ?_
   (refine gar ?_;refine zs4 ?_;refine zs4 ?_;refine my ?_;refine zs16 ?_;refine zs6 ?_;refine af ?_)
   (repeat(first|refine gk fun K hK=>?_|refine zs2 ?_))
   refine ba ?_;simp only[nx];refine⟨m.length-(k+1),_,by omega,kU (sl':=[(0,.ls 1 (m.map dI)),(3,.own 1),(4,zI (k+1:Nat))]) ay rfl,k+1,by omega,rfl,?_⟩;rw[cv hl,List.map_append,List.take_length];rfl
 ·refine kb gR (decide_eq_false cA) ?_;obtain rfl:k=m.length:=by omega
  (repeat(first|refine gk fun K hK=>?_|refine zs2 ?_))
  refine az (aE (k:=1) aR bz bw) ?_;refine ik ?_
  (repeat(first|refine gk fun K hK=>?_|refine zs2 ?_))
  rw[List.take_length];exact⟨_,Sh.refl,.one (.tmp 2) _ rfl (.tmp 2 rfl)⟩
end DW
end
section
open Go.RowKit
namespace CI
inductive C where
 |any
 |sc (v:Value)
 |nm (z:Int)
 |sl (k off n c:Nat) (x:Bool)
 |pt (k off:Nat)
 |fn (f:FuncId) (caps:List C)
 |ag (l:List C)
 |tp (l:List C)
 |yl (k:Nat)
 deriving Inhabited
inductive T(α:Type) where
 |e
 |n (v:Option α) (l r:T α)
def T.get{α:Type}:T α->Nat->Option α
 | .e,_=>none
 | .n v l r,k=>match k with
  |0=>v
  |k+1=>match k%2 with
   |0=>l.get (k/2)
   |_+1=>r.get (k/2)
def T.put{α:Type}:Nat->T α->Nat->Option α->T α
 |0,t,_,_=>t
 |f+1,t,k,x=>
  match t with
  | .e=>match k with
   |0=>.n x .e .e
   |k+1=>match k%2 with
    |0=>.n none (put f .e (k/2) x) .e
    |_+1=>.n none .e (put f .e (k/2) x)
  | .n v l r=>match k with
   |0=>.n x l r
   |k+1=>match k%2 with
    |0=>.n v (put f l (k/2) x) r
    |_+1=>.n v l (put f r (k/2) x)
inductive CO where
 |t (n:Nat)
 |c (x:C)
 deriving Inhabited
inductive X where
 |mv (x:CO)
 |pick (c a b:CO)
 |alloc (T:Nat) (z:List C)
 |box (T:Nat) (x:CO)
 |build (z:List C) (ps:List (Nat×Nat×CO))
 |bsl (T w len:Nat) (z:List C) (ps:List (Nat×Nat×CO))
 |load (row:Bool) (w:Nat) (x:CO)
 |store (w:Nat) (a x:CO)
 |bin (op:BinOp) (x y:CO)
 |beq (ng:Bool) (x y:CO)
 |snil (ng:Bool) (x y:CO)
 |un (op:UnOp) (x:CO)
 |conv (k:IntKind) (x:CO)
 |mkf (f:FuncId) (cs:List CO)
 |mks (T w bytes:Nat) (z:List C) (l c:CO)
 |slc (w:Nat) (x:CO) (lo hi mx:Option CO)
 |fa (off:Nat) (x:CO)
 |fd (row:Bool) (off w:Nat) (x:CO)
 |ia (w:Nat) (len:Option Nat) (x i:CO)
 |ix (row:Bool) (w len:Nat) (x i:CO)
 |sx (x i:CO)
 |ext (x:CO) (i:Nat)
 |nc (x:CO)
 |len (str:Bool) (x:CO)
 |mnx (gt:Bool) (x y:CO)
 |app (T w:Nat) (x y:CO)
 |appz (T:Nat) (z:List C) (x n:CO)
 |cap (x:CO)
 |bad
 |cal (f:CO) (args:List CO)
 deriving Inhabited
structure RO where
 dst:Option Nat
 g:Option (Nat×Bool)
 x:X
 pre:Nat
 deriving Inhabited
inductive CC where
 |skip
 |ret
 |exit (id:Nat)
 |seq (a b:CC)
 |cond (c:CO) (a b:CC)
 |block (id:Nat) (c:CC)
 |loop (c:CC)
 |rng (f:CO) (ps:List Nat) (assign body:CC)
 |reg (draw:Bool) (ops:List RO)
 deriving Inhabited
inductive Ex where
 |norm
 |ret
 |exit (id:Nat)
 deriving Inhabited
inductive LS where|ready|busy|done|over
inductive B where
 |cells (T:Nat) (l:List C)
 |loop (st:LS) (pend:Ex) (tm:T C) (ps:List Nat) (assign body:CC) (defers:Nat)
 |defd (isOpen:Bool)
structure H where
 next:Nat
 low:Nat
 forb:List (Nat×Nat)
 t:T B
def bL(k:Nat):List (Nat×Nat)->Bool
 |[]=>false
 |(a,b)::l=>match Nat.ble a k with
  |true=>match Nat.blt k b with
   |true=>true
   |false=>bL k l
  |false=>bL k l
def H.get(h:H)(k:Nat):Option B:=
 match bL k h.forb with
 |true=>none
 |false=>h.t.get k
def H.set(h:H)(k:Nat)(b:Option B):H:=⟨h.next,(match Nat.blt k h.low with|true=>k|false=>h.low),h.forb,T.put 24 h.t k b⟩
def H.new(h:H)(b:B):Option H:=match Nat.blt h.next 1000000 with
 |true=>some ⟨h.next+1,h.low,h.forb,T.put 24 h.t h.next (some b)⟩
 |false=>none
def C.wid:C->Nat
 | .nm _=>2
 | .sc _=>1
 | .sl ..=>1
 | .pt ..=>1
 | .fn ..=>1
 | .yl _=>1
 |_=>0
def tX:List C->Nat
 |[]=>0
 |c::l=>c.wid+tX l
def C.okP:C->Bool
 | .nm _=>true
 | .sc (.int .u32 _)=>false
 | .sc _=>true
 | .sl ..=>true
 | .pt ..=>true
 | .fn ..=>true
 | .yl _=>true
 |_=>false
def C.flat:C->Option (List C)
 | .ag l=>some l
 |c=>match c.okP with|true=>some [c]|false=>none
def eh(row:Bool)(l:List C):Option C:=
 match row with
 |true=>match l with
  |[.nm z]=>some (.nm z)
  |l=>some (.ag l)
 |false=>match l with
  |[.nm _]=>none
  |[c]=>some c
  |_=>none
def lW:List C->Nat->Option (List C)
 |l,0=>some l
 |[],_+1=>none
 |c::l,off+1=>match Nat.ble c.wid (off+1)with
  |true=>lW l (off+1-c.wid)
  |false=>none
def lv:List C->Nat->Option (List C)
 |_,0=>some []
 |[],_+1=>none
 |c::l,n+1=>match Nat.ble c.wid (n+1)with
  |true=>(lv l (n+1-c.wid)).map (c::·)
  |false=>none
def jv(l:List C)(off w:Nat):Option (List C):=(lW l off).bind (lv · w)
def ru(l:List C)(off w:Nat)(new:List C):Option (List C):=
 (lv l off).bind fun a=>(lW l (off+w)).map fun b=>a++new++b
def vm:C->Option Int
 | .nm z=>some z
 | .ag [.sc (.bool false),.sc (.slice none 0 0)]=>some 0
 |_=>none
def jV(l:List C):List (Nat×Nat×C)->Option (List C)
 |[]=>some l
 |(off,w,c)::ps=>c.flat.bind fun p=>match Nat.beq (tX p) w with
  |true=>(ru l off w p).bind (jV · ps)
  |false=>none
def gj(z:List C):Nat->List C
 |0=>[]
 |n+1=>z++gj z n
def ikB:IntKind->IntKind->Bool
 | .i8,.i8| .i16,.i16| .i32,.i32| .i64,.i64| .u8,.u8| .u16,.u16| .u32,.u32| .u64,.u64=>true
 |_,_=>false
def yd:C->Option Bool
 | .sc (.slice none _ _)=>some true
 | .sl ..=>some false
 |_=>none
def binZ(op:BinOp)(k:IntKind)(p q:Int):Option Value:=
 match op with
 | .add=>some (.int k (k.wrap (p+q)))
 | .sub=>some (.int k (k.wrap (p-q)))
 | .mul=>some (.int k (k.wrap (p*q)))
 | .quo=>match q with|0=>none|_=>some (.int k (k.wrap (p.tdiv q)))
 | .rem=>match q with|0=>none|_=>some (.int k (p.tmod q))
 | .eql=>some (.bool (p==q))
 | .neq=>some (.bool (p !=q))
 | .lss=>some (.bool (p<q))
 | .leq=>some (.bool (p<=q))
 | .gtr=>some (.bool (p>q))
 | .geq=>some (.bool (p>=q))
 |_=>none
def isNeg(q:Int):Bool:=match q with| .negSucc _=>true|_=>false
def bin(op:BinOp)(a b:C):Option C:=
 match a,b with
 | .sc (.int k p),.sc (.int k' q)=>
  match op with
  | .shl=>match isNeg q with|true=>none|false=>some (.sc (.int k (k.wrap (p*2^(min q.toNat k.bits)))))
  | .shr=>match isNeg q with|true=>none|false=>some (.sc (.int k (p.fdiv (2^(min q.toNat k.bits)))))
  |op=>match ikB k k' with
   |true=>(binZ op k p q).map .sc
   |false=>none
 |_,_=>none
def beqC(ng:Bool)(a b:C):Option C:=
 match a,b with
 | .sc (.bool p),.sc (.bool q)=>some (.sc (.bool (match ng with|true=>!(p==q)|false=>p==q)))
 |_,_=>none
def xO(ng:Bool)(a b:C):Option C:=
 match yd a,yd b with
 |some true,some y=>some (.sc (.bool (match ng with|true=>!y|false=>y)))
 |some false,some true=>some (.sc (.bool ng))
 |_,_=>none
def un(op:UnOp)(a:C):Option C:=
 match op,a with
 | .not,.sc (.bool b)=>some (.sc (.bool !b))
 | .neg,.sc (.int k p)=>some (.sc (.int k (k.wrap (0-p))))
 |_,_=>none
def ofN(n:Nat):C:=.sc (.int .i64 n)
def dB:C->Option Nat
 | .sc (.int _ (.ofNat n))=>some n
 |_=>none
abbrev Tm:=T C
def CO.ev(tm:Tm):CO->C
 |CO.t n=>match T.get tm n with|some y=>y|none=>C.any
 |CO.c x=>x
def fm(tm:Tm)(d:Nat):Option CO->Option Nat
 |none=>some d
 |some x=>dB (x.ev tm)
def parts(tm:Tm):List (Nat×Nat×CO)->List (Nat×Nat×C)
 |[]=>[]
 |(o,w,x)::l=>(o,w,x.ev tm)::parts tm l
def xQ(w off l m:Nat)(exact:Bool):Option Nat:=
 match l with
 |0=>some off
 |_=>match Nat.beq m l with
  |true=>match exact with
   |true=>some off
   |false=>none
  |false=>match w with
   |0=>none
   |_=>some (off+l*w)
def ym(mx:Option CO)(e:Bool):Bool:=match mx with|none=>e|some _=>true
def xT(x:X)(tm:Tm)(next:Nat):Option (C×Option B):=
 match x with
 | .mv x=>some (x.ev tm,none)
 | .pick c a b=>match c.ev tm with
  | .sc (.bool true)=>some (a.ev tm,none)
  | .sc (.bool false)=>some (b.ev tm,none)
  |_=>none
 | .alloc T z=>some (.pt next 0,some (.cells T z))
 | .box T x=>(x.ev tm).flat.map fun p=>(.pt next 0,some (.cells T p))
 | .build z ps=>(jV z (parts tm ps)).map fun l=>(.ag l,none)
 | .bsl T w len z ps=>(jV (gj z len) (parts tm ps)).map fun l=>(.sl next 0 len len true,some (.cells T l))
 | .bin op x y=>(bin op (x.ev tm) (y.ev tm)).map (·,none)
 | .beq ng x y=>(beqC ng (x.ev tm) (y.ev tm)).map (·,none)
 | .snil ng x y=>(xO ng (x.ev tm) (y.ev tm)).map (·,none)
 | .un op x=>(un op (x.ev tm)).map (·,none)
 | .conv k x=>match x.ev tm with
  | .sc (.int _ n)=>some (.sc (.int k (k.wrap n)),none)
  |_=>none
 | .mkf f cs=>some (.fn f (cs.map (·.ev tm)),none)
 | .mks T w bytes z l c=>match dB (l.ev tm),dB (c.ev tm)with
  |some l,some c=>match Nat.ble l c,Nat.ble c 1000000 with
   |true,true=>some (.sl next 0 l c true,some (.cells T (gj z c)))
   |_,_=>none
  |_,_=>none
 | .slc w x lo hi mx=>match x.ev tm with
  | .sl k off n c e=>
   match fm tm 0 lo,fm tm n hi,fm tm c mx with
   |some l,some h,some m=>match Nat.ble m c,Nat.ble h m,Nat.ble l h with
    |true,true,true=>(xQ w off l m (ym mx e)).map fun o=>(.sl k o (h-l) (m-l) (ym mx e),none)
    |_,_,_=>none
   |_,_,_=>none
  | .sc (.slice none 0 0)=>match fm tm 0 hi,fm tm 0 lo,fm tm 0 mx with
   |some 0,some 0,some 0=>some (.sc (.slice none 0 0),none)
   |_,_,_=>none
  |_=>none
 | .fa off x=>match x.ev tm with
  | .pt k o=>some (.pt k (o+off),none)
  |_=>none
 | .fd row off w x=>match x.ev tm with
  | .ag l=>((jv l off w).bind (eh row)).map (·,none)
  |_=>none
 | .ia w len x i=>match dB (i.ev tm)with
  |some i=>match x.ev tm,len with
   | .sl k off n _ _,none=>match Nat.blt i n with
    |true=>some (.pt k (off+i*w),none)
    |false=>none
   | .pt k off,some n=>match Nat.blt i n with
    |true=>some (.pt k (off+i*w),none)
    |false=>none
   |_,_=>none
  |none=>none
 | .ix row w len x i=>match dB (i.ev tm),x.ev tm with
  |some i,.ag l=>match Nat.blt i len with
   |true=>((jv l (i*w) w).bind (eh row)).map (·,none)
   |false=>none
  |_,_=>none
 | .sx x i=>match dB (i.ev tm),x.ev tm with
  |some i,.sc (.string s)=>s[i]?.map fun b=>(.sc (.int .u8 b.toNat),none)
  |_,_=>none
 | .ext x i=>match x.ev tm with
  | .tp l=>l[i]?.map (·,none)
  |_=>none
 | .nc x=>match x.ev tm with
  | .pt k o=>some (.pt k o,none)
  | .fn f c=>some (.fn f c,none)
  | .yl k=>some (.yl k,none)
  |_=>none
 | .len str x=>match str with
  |false=>match x.ev tm with
   | .sl _ _ n _ _=>some (ofN n,none)
   | .sc (.slice none n _)=>some (ofN n,none)
   |_=>none
  |true=>match x.ev tm with
   | .sc (.string s)=>some (ofN s.size,none)
   |_=>none
 | .cap x=>match x.ev tm with
  | .sl _ _ _ c true=>some (ofN c,none)
  | .sc (.slice none _ c)=>some (ofN c,none)
  |_=>none
 | .mnx gt x y=>match x.ev tm,y.ev tm with
  | .sc (.int k p),.sc (.int _ q)=>match gt with
   |true=>some (.sc (.int k (if q>p then q else p)),none)
   |false=>some (.sc (.int k (if q<p then q else p)),none)
  |_,_=>none
 |_=>none
def X.isT:X->Bool
 | .load ..=>false
 | .store ..=>false
 | .app ..=>false
 | .appz ..=>false
 | .cal ..=>false
 |_=>true
def H.gL(h:H):Option B->Option H
 |none=>some h
 |some b=>h.new b
def pg(row:Bool)(w:Nat)(a:C)(h:H):Option C:=
 match a with
 | .pt k off=>match h.get k with
  |some (.cells _ l)=>(jv l off w).bind (eh row)
  |_=>none
 |_=>none
def mE(w:Nat)(a v:C)(h:H):Option H:=
 match a with
 | .pt k off=>match h.get k with
  |some (.cells T l)=>v.flat.bind fun p=>match Nat.beq (tX p) w with
   |true=>(ru l off w p).map fun l'=>h.set k (some (.cells T l'))
   |false=>none
  |_=>none
 |_=>none
def slW(w:Nat)(a:C)(h:H):Option (List C×Nat):=
 match a with
 | .sc (.slice none 0 0)=>some ([],0)
 | .sl k off n _ _=>match h.get k with
  |some (.cells _ l)=>(jv l off (n*w)).map (·,n)
  |_=>none
 |_=>none
def tj(T w:Nat)(a:C)(new:List C)(m:Nat)(h:H):Option (C×H):=
 match m with
 |0=>match a with
  | .sc (.slice none 0 0)=>some (a,h)
  | .sl .. =>some (a,h)
  |_=>none
 |_=>match a with
  | .sc (.slice none 0 0)=>match Nat.ble m 1000000 with
   |true=>(h.new (.cells T new)).map fun h'=>(.sl h.next 0 m m false,h')
   |false=>none
  | .sl k off n c e=>match h.get k with
   |some (.cells T' l)=>match Nat.beq T' T with
    |false=>none
    |true=>match Nat.ble (n+m) c with
     |true=>(ru l (off+n*w) (m*w) new).map fun l'=>(.sl k off (n+m) c e,h.set k (some (.cells T' l')))
     |false=>match Nat.ble (n+m) 1000000 with
      |true=>(jv l off (n*w)).bind fun old=>match e with
       |true=>(h.new (.cells T' (old++new))).map fun h'=>(.sl h.next 0 (n+m) (n+m) false,h')
       |false=>match off with
        |0=>((h.set k none).new (.cells T' (old++new))).map fun h'=>(.sl h.next 0 (n+m) (n+m) false,h')
        |_=>none
      |false=>none
   |_=>none
  |_=>none
def xI(T w:Nat)(a b:C)(h:H):Option (C×H):=(slW w b h).bind fun (new,m)=>tj T w a new m h
abbrev Orc:=List C->Option C
inductive RV where
 |tmp (t:Nat)
 |cell (t:Nat) (row:Bool) (w:Nat)
 deriving Inhabited
structure F where
 ntmps:Nat
 body:CC
 res:List RV
structure Env where
 fns:FuncId->Option F
 orc:FuncId->Option Orc
def setArgs:Nat->Nat->List C->Tm->Tm
 |_,_,[],tm=>tm
 |f,k,c::l,tm=>setArgs f (k+1) l (T.put f tm k (some c))
def jL:List Nat->List C->Tm->Option Tm
 |[],[],tm=>some tm
 |t::ts,c::cs,tm=>jL ts cs (T.put 24 tm t (some c))
 |_,_,_=>none
inductive Task where
 |code (c:CC) (tm:Tm) (ds:List Nat) (rd:Option Nat) (h:H)
 |call (f:C) (args:List C) (h:H)
inductive Out where
 |code (e:Ex) (tm:Tm) (ds:List Nat) (h:H)
 |val (c:C) (h:H)
abbrev Rec:=Task->Option Out
def eM(tm:Tm)(dst:Option Nat)(c:C):Tm:=
 match dst with
 |some t=>T.put 24 tm t (some c)
 |none=>tm
def eZ(o:RO)(tm:Tm):Option Bool:=
 match o.g with
 |none=>some true
 |some (t,b)=>match tm.get t with
  |some (.sc (.bool c))=>some (match b with|true=>c|false=>!c)
  |_=>none
def xR(rec:Rec)(x:X)(tm:Tm)(h:H):Option (C×H):=
 match x with
 | .load row w a=>(pg row w (a.ev tm) h).map (·,h)
 | .store w a v=>(mE w (a.ev tm) (v.ev tm) h).map (.any,·)
 | .app T w a b=>xI T w (a.ev tm) (b.ev tm) h
 | .appz T z a n=>match a.ev tm,dB (n.ev tm)with
  | .sc (.slice none 0 0),some (m+1)=>match Nat.ble (m+1) 1000000 with
   |true=>(h.new (.cells T (gj z (m+1)))).map fun h'=>(.sl h.next 0 (m+1) (m+1) false,h')
   |false=>none
  |_,_=>none
 | .cal f args=>match rec (.call (f.ev tm) (args.map (·.ev tm)) h)with
  |some (.val c h)=>some (c,h)
  |_=>none
 |_=>none
def xJ(rec:Rec)(x:X)(tm:Tm)(h:H):Option (C×H):=
 match x.isT with
 |true=>(xT x tm h.next).bind fun (c,b)=>(h.gL b).map fun h=>(c,h)
 |false=>xR rec x tm h
def lB(rec:Rec):List RO->Tm->H->Option (Tm×H)
 |[],tm,h=>some (tm,h)
 |o::l,tm,h=>match eZ o tm with
  |some true=>match xJ rec o.x tm h with
   |some (c,h)=>lB rec l (eM tm o.dst c) h
   |none=>none
  |some false=>lB rec l (eM tm o.dst .any) h
  |none=>none
def eH(pre:Nat):List (Nat×Nat×Nat)->List (Nat×Nat)->List (Nat×Nat)
 |[],f=>f
 |(i,a,b)::l,f=>match pre.testBit i with
  |true=>eH pre l f
  |false=>(a,b)::eH pre l f
def mc(pre:Nat)(wr:Bool):List (Nat×Bool)->Bool
 |[]=>false
 |(i,w)::l=>match(w||wr)&& !pre.testBit i with
  |true=>true
  |false=>mc pre wr l
def eB(rec:Rec):List RO->Nat->List (Nat×Nat×Nat)->List (Nat×Bool)->Tm->H->Option (Tm×H)
 |[],_,_,_,tm,h=>some (tm,h)
 |o::l,j,iv,rw,tm,h=>match eZ o tm with
  |some true=>match o.x.isT with
   |true=>match xT o.x tm h.next with
    |some (c,none)=>eB rec l (j+1) iv rw (eM tm o.dst c) h
    |some (c,some b)=>match h.new b with
     |some h'=>eB rec l (j+1) ((j,h.next,h'.next)::iv) rw (eM tm o.dst c) h'
     |none=>none
    |none=>none
   |false=>match xR rec o.x tm ⟨h.next,h.next,eH o.pre iv h.forb,h.t⟩with
    |some (c,h')=>
     let wr:=Nat.blt h'.low h.next
     match mc o.pre wr rw with
     |true=>none
     | false => eB rec l (j + 1) (match Nat.blt h.next h'.next with | true => (j, h.next, h'.next) :: iv | false => iv) ((j, wr) :: rw) (eM tm o.dst c)
         ⟨h'.next,(match Nat.blt h'.low h.low with|true=>h'.low|false=>h.low),h.forb,h'.t⟩
    |none=>none
  |some false=>eB rec l (j+1) iv rw (eM tm o.dst .any) h
  |none=>none
def results(tm:Tm)(h:H):List RV->Option (List C)
 |[]=>some []
 | .tmp t::l=>(results tm h l).map (CO.ev tm (CO.t t)::·)
 | .cell t row w::l=>(pg row w (CO.ev tm (CO.t t)) h).bind fun c=>(results tm h l).map (c::·)
def mM:List C->C
 |[c]=>c
 |l=>.tp l
def fD:List Nat->H->Option H
 |[],h=>some h
 |k::l,h=>match h.get k with
  |some (.defd true)=>fD l (h.set k (some (.defd false)))
  |_=>none
def uT(l:Nat)(e:Ex)(h:H):Option (C×H):=
 match h.get l with
 |some (.loop .busy _ tm ps a b d)=>match e with
  | .norm=>some (.sc (.bool true),h.set l (some (.loop .ready .norm tm ps a b d)))
  |e=>some (.sc (.bool false),h.set l (some (.loop .done e tm ps a b d)))
 |_=>none
def body(E:Env)(rec:Rec):Task->Option Out
 | .code c tm ds rd h=>match c with
  | .skip=>some (.code .norm tm ds h)
  | .ret=>some (.code .ret tm ds h)
  | .exit id=>some (.code (.exit id) tm ds h)
  | .seq a b=>match rec (.code a tm ds rd h)with
   |some (.code .norm tm ds h)=>rec (.code b tm ds rd h)
   |o=>o
  | .cond c a b=>match c.ev tm with
   | .sc (.bool true)=>rec (.code a tm ds rd h)
   | .sc (.bool false)=>rec (.code b tm ds rd h)
   |_=>none
  | .block id c=>match rec (.code c tm ds rd h)with
   |some (.code (.exit i) tm ds h)=>match Nat.beq i id with
    |true=>some (.code .norm tm ds h)
    |false=>some (.code (.exit i) tm ds h)
   |o=>o
  | .loop c=>match rec (.code c tm ds rd h)with
   |some (.code .norm tm ds h)=>rec (.code (.loop c) tm ds rd h)
   |o=>o
  | .reg draw ops=>match(match draw with|true=>eB rec ops 0 [] [] tm h|false=>lB rec ops tm h)with
   |some (tm,h)=>some (.code .norm tm ds h)
   |none=>none
  | .rng f ps a b=>
   match(match rd with
    |some l=>match h.get l with
     |some (.loop _ _ _ _ _ _ d)=>some (d,ds,h)
     |_=>none
    |none=>(h.new (.defd true)).map fun h'=>(h.next,h.next::ds,h'))with
   |some (d,ds,h)=>match h.new (.loop .ready .norm tm ps a b d)with
    |some h'=>match(match f.ev tm with| .fn g caps=>rec (.call (.fn g caps) [.yl h.next] h')|_=>none)with
     |some (.val _ h2)=>match h2.get h.next with
      |some (.loop .busy ..)=>none
      |some (.loop _ p tm' ps' a' b' d')=>some (.code p tm ds (h2.set h.next (some (.loop .over p tm' ps' a' b' d'))))
      |_=>none
     |_=>none
    |none=>none
   |none=>none
 | .call f args h=>match f with
  | .fn g caps=>match E.orc g with
   |some o=>(o (args++caps)).map (.val · h)
   |none=>match E.fns g with
    |some fn=>match Nat.ble (args++caps).length fn.ntmps with
     |false=>none
     |true=>match rec (.code fn.body (setArgs 24 0 (args++caps) .e) [] none h)with
      |some (.code e tm ds h)=>match e with
       | .exit _=>none
       |_=>(fD ds h).bind fun h=>(results tm h fn.res).map fun rs=> .val (mM rs) h
      |_=>none
    |none=>none
  | .yl l=>match h.get l with
   |some (.loop .ready _ tm ps a b _)=>match jL ps args tm with
    |some tm=>match rec (.code a tm [] (some l) h)with
     |some (.code .norm tm [] h)=>match h.get l with
      |some (.loop .ready p tm' ps' a' b' d')=>match rec (.code b tm [] (some l) (h.set l (some (.loop .busy p tm' ps' a' b' d'))))with
       |some (.code e _ [] h)=>(uT l e h).map fun (c,h)=> .val c h
       |_=>none
      |_=>none
     |_=>none
    |none=>none
   |_=>none
  |_=>none
def run(E:Env):Nat->Rec
 |0=>fun _=>none
 |n+1=>body E (run E n)
section comp
variable (P : Program)
def ofV:Value->C
 | .agg cs=>match cs.toList.all (fun v=>v.oneCell'&&(C.sc v).okP)with
  |true=>.ag (cs.toList.map .sc)
  |false=>.any
 | .tuple _=>.any
 | .func (.func f) first cs=>match first.size,cs.size with
  |0,0=>.fn f []
  |_,_=>.any
 | .func ..=>.any
 |v=>.sc v
def ao:Operand->CO
 | .tmp t=>CO.t t
 | .const v=>CO.c (ofV v)
 | .global _=>CO.c .any
 | .func f=>CO.c (.fn f [])
def zOf(t:TypeId):Option (List C):=(P.info? t).bind fun i=>i.zero.bind fun z=>match z.cells.toList.all (fun v=>v.oneCell'&&(C.sc v).okP)&&Nat.beq z.cells.size i.size with
 |true=>some (z.cells.toList.map .sc)
 |false=>none
def bp(t:TypeId):Option Nat:=(P.info? t).map (·.size)
def rowOf(t:TypeId):Option Bool:=match P.underlying t with|some (.struct _)=>some true|some (.array ..)=>some true|some _=>some false|none=>none
def place(t:TypeId)(i:Nat):Option (Nat×Nat):=
 match P.underlying t with
 |some (.struct fs)=>fs[i]?.bind fun f=>(bp P f.type).map (f.offset,·)
 |some (.array _ e)=>(bp P e).map fun s=>(i*s,s)
 |some (.slice e)=>(bp P e).map fun s=>(i*s,s)
 |_=>none
def placesOf(t:TypeId):List (Nat×Operand)->Option (List (Nat×Nat×CO))
 |[]=>some []
 |(i,x)::l=>(place P t i).bind fun (o,w)=>(placesOf t l).map ((o,w,ao x)::·)
def jX(l:List Operand):List CO:=l.map ao
def aq(o:Op):Option X:=
 match o with
 | .move x=>some (.mv (ao x))
 | .assign x=>some (.mv (ao x))
 | .pick c a b=>some (.pick (ao c) (ao a) (ao b))
 | .alloc t=>(zOf P t).map (.alloc t)
 | .box t x=>some (.box t (ao x))
 | .build t ps=>match P.underlying t with
  |some (.struct fs)=>match fs.toList.all (fun f=>(P.info? f.type).isSome)with
   |true=>(zOf P t).bind fun z=>(placesOf P t ps.toList).map fun ps=> .build z ps
   |false=>none
  |some (.array _ e)=>(bp P e).bind fun _=>(zOf P t).bind fun z=>(placesOf P t ps.toList).map fun ps=> .build z ps
  |_=>none
 | .buildSlice t n ps=>match P.underlying t with
  |some (.slice e)=>(bp P e).bind fun w=>(zOf P e).bind fun z=>match Nat.ble (n*w) 16777216&&Nat.blt 0 w&&(Nat.blt 0 n||ps.toList.isEmpty)with
   |true=>(placesOf P t ps.toList).map fun ps=> .bsl e w n z ps
   |false=>none
  |_=>none
 | .load t a=>(bp P t).bind fun w=>(rowOf P t).map fun r=> .load r w (ao a)
 | .store t a x=>(bp P t).map fun w=> .store w (ao a) (ao x)
 | .binOp op t x y _=>match P.underlying t with
  |some (.int _)=>some (.bin op (ao x) (ao y))
  |some .bool=>match op with
   | .eql=>some (.beq false (ao x) (ao y))
   | .neq=>some (.beq true (ao x) (ao y))
   |_=>none
  |some (.slice _)=>match op with
   | .eql=>some (.snil false (ao x) (ao y))
   | .neq=>some (.snil true (ao x) (ao y))
   |_=>none
  |_=>none
 | .unOp op _ x=>some (.un op (ao x))
 | .convert s t x=>match P.underlying s,P.underlying t with
  |some (.int _),some (.int k)=>some (.conv k (ao x))
  |_,_=>none
 | .makeFunc (.func f) first cs=>match first.size with
  |0=>some (.mkf f (jX cs.toList))
  |_=>none
 | .makeSlice t l c=>match P.underlying t with
  |some (.slice e)=>(P.info? e).bind fun i=>(zOf P e).bind fun z=>match Nat.ble i.bytes 100000 with
   |true=>some (.mks e i.size i.bytes z (ao l) (ao c))
   |false=>none
  |_=>none
 | .slice t x lo hi mx=>match P.underlying t with
  |some (.slice e)=>match hi,mx with
   |none,some _=>none
   |_,_=>(bp P e).map fun w=> .slc w (ao x) (lo.map ao) (hi.map ao) (mx.map ao)
  |_=>none
 | .fieldAddr t x i=>match P.underlying t with
  |some (.struct fs)=>fs[i]?.bind fun f=>(bp P f.type).bind fun w=>match w with
   |0=>none
   |_=>some (.fa f.offset (ao x))
  |_=>none
 | .field t x i=>match P.underlying t with
  |some (.struct fs)=>fs[i]?.bind fun f=>(bp P f.type).bind fun w=>(rowOf P f.type).map fun r=> .fd r f.offset w (ao x)
  |_=>none
 | .indexAddr t x i=>match P.underlying t with
  |some (.slice e)=>(bp P e).map fun w=> .ia w none (ao x) (ao i)
  |some (.array n e)=>(bp P e).map fun w=> .ia w (some n) (ao x) (ao i)
  |_=>none
 | .index t x i=>match P.underlying t with
  |some (.array n e)=>(bp P e).bind fun w=>(rowOf P e).map fun r=> .ix r w n (ao x) (ao i)
  |some .string=>some (.sx (ao x) (ao i))
  |_=>none
 | .extract x i=>some (.ext (ao x) i)
 | .nilCheck x=>some (.nc (ao x))
 | .call {callee:= .builtin b,args,argTypes}=>match b,args.toList,argTypes.toList with
  | .len,[x],[t]=>match P.underlying t with
   |some (.slice _)=>some (.len false (ao x))
   |some .string=>some (.len true (ao x))
   |_=>none
  | .min,[x,y],_=>some (.mnx false (ao x) (ao y))
  | .max,[x,y],_=>some (.mnx true (ao x) (ao y))
  | .append,[x,y],[t,t']=>match P.underlying t,P.underlying t' with
   |some (.slice e),some (.slice _)=>match Nat.beq t t' with
    |false=>none
    |true=>(P.info? e).bind fun i=>(zOf P e).bind fun z=>match Nat.ble i.bytes 100000&&Nat.blt 0 i.size with
     |true=>some (.app e i.size (ao x) (ao y))
     |false=>none
   |some (.slice e),some (.int _)=>(P.info? e).bind fun i=>(zOf P e).bind fun z=>match Nat.ble i.bytes 100000&&Nat.blt 0 i.size with
    |true=>some (.appz e z (ao x) (ao y))
    |false=>none
   |_,_=>none
  | .cap,[x],[t]=>match P.underlying t with
   |some (.slice _)=>some (.cap (ao x))
   |_=>none
  |_,_,_=>none
 | .call {callee:= .value f,args, .. }=>some (.cal (ao f) (jX args.toList))
 |_=>none
def lR:List Nat->Nat->Nat
 |[],_=>0
 |x::_,0=>x
 |_::l,n+1=>lR l n
def gw(acc:List Nat):List Edge->Nat
 |[]=>0
 |e::l=>match Region.binds .any e with
  |true=>2^e.on|||lR acc e.on|||gw acc l
  |false=>gw acc l
def fI:List Oper->List Nat->List Nat
 |[],acc=>acc
 |o::l,acc=>fI l (acc++[gw acc o.after.toList])
def ko(t:Nat):List Nat->Bool
 |[]=>false
 |x::l=>match Nat.beq x t with|true=>true|false=>ko t l
def looks(ops:Array Oper)(o:Oper):List Nat:=
 (match o.guard with
  |some (g,_)=>((ops[g]?).bind (·.dst)).toList
  |none=>[])++(o.op.operands.toList.filterMap fun| .tmp t=>some t|_=>none)
def kj(t:Option Nat)(l:List Nat):Bool:=match t with|some t=>ko t l|none=>false
def lu(ops:Array Oper)(o:Oper)(pre:Nat):List Oper->Nat->Bool
 |[],_=>true
 |o'::l,i=>match(kj o'.dst (looks ops o)||kj o.dst (looks ops o')||kj o.dst o'.dst.toList)&& !pre.testBit i with
  |true=>false
  |false=>lu ops o pre l (i+1)
def ff(k:Nat):List Edge->Bool
 |[]=>true
 |e::l=>match Region.binds .any e&& !Nat.blt e.on k with
  |true=>false
  |false=>ff k l
def bG(n:Nat)(dst:Option Tmp):Bool:=match dst with|some t=>Nat.blt t n|none=>true
def db(n:Nat)(draw:Bool)(ops:Array Oper)(acc:List Oper):List Oper->List Nat->Option (List RO)
 |[],_=>some []
 |o::l,ps=>match ps with
  |p::ps=>match draw&& !(lu ops o p acc 0&&ff acc.length o.after.toList)|| !bG n o.dst with
   |true=>none
   |false=>(match o.guard with
    |none=>some none
    |some (j,b)=>((ops[j]?).bind (·.dst)).map fun t=>some (t,b)).bind fun g=>
     (db n draw ops (acc++[o]) l ps).map fun r=>⟨o.dst,g,(match aq P o.op with|some x=>x|none=>.bad),p⟩::r
  |[]=>none
def comp(n:Nat):Code->Option CC
 | .skip=>some .skip
 | .ret=>some .ret
 | .exit id=>some (.exit id)
 | .label _=>some .skip
 | .seq a b=>(comp n a).bind fun a=>(comp n b).map (.seq a)
 | .cond c a b=>(comp n a).bind fun a=>(comp n b).map (.cond (ao c) a)
 | .block id c=>(comp n c).map (.block id)
 | .loop c=>(comp n c).map .loop
 | .rangeFunc f ps a b=>match ps.toList.all (fun t=>Nat.blt t n)with
  |false=>none
  |true=>(comp n a).bind fun a=>(comp n b).map (.rng (ao f) ps.toList a)
 | .region _ ops draw=>(db P n draw ops [] ops.toList (fI ops.toList [])).map (.reg draw)
 |_=>none
def rvOf:ResultVar->Option RV
 | .tmp t=>some (.tmp t)
 | .cell t ty=>(bp P ty).bind fun w=>(rowOf P ty).map fun r=>.cell t r w
def ly:List ResultVar->Option (List RV)
 |[]=>some []
 |r::l=>(rvOf P r).bind fun r=>(ly l).map (r::·)
def jY (g : FuncId) : Option F := (P.funcs[g]?).bind fun fn => fn.body.bind fun c => match Nat.blt fn.ntmps 1000000 && !(fn.name == "runtime.NumGoroutine") with
 |true=>(comp P fn.ntmps c).bind fun c=>(ly P fn.results.toList).map fun r=>⟨fn.ntmps,c,r⟩
 |false=>none
end comp
end CI
end
section
open Go.RowKit
namespace CI
section
variable (P : Program)
mutual
def VR(A:Nat->Prop)(ρ:Nat->Nat)(w:World):C->Value->Prop
 | .any,_=>True
 | .sc u,v=>v=u/\u.oneCell'=true
 | .nm z,v=>∃x:IV,v= .agg #[.bool x.s, .slice x.a x.n x.cap]/\IZ w x z
 | .sl k off n c x, v => A k /\ ∃ cap, v = .slice (some ⟨ρ k, off, none⟩) n cap /\ n <= c /\ c <= cap /\ (x = true -> cap = c) /\
     (x=false->off=0->cap<=maxLen/\∃T s,w.shape? (ρ k)=some (T,cap*s)/\bp P T=some s)
 | .pt k off,v=>A k/\v= .pointer (some ⟨ρ k,off,none⟩)
 | .fn f cs,v=>∃us,v= .func (.func f) #[] us/\VRl A ρ w cs us.toList
 | .ag l,v=>∃cs,v= .agg cs/\VCs A ρ w l cs.toList
 | .tp l,v=>∃vs,v= .tuple vs/\VRl A ρ w l vs.toList
 | .yl k,v=>A k/\v= .func (.yield (ρ k)) #[] #[]
def VRl(A:Nat->Prop)(ρ:Nat->Nat)(w:World):List C->List Value->Prop
 |[],vs=>vs=[]
 |d::l,vs=>∃u rest,vs=u::rest/\VR A ρ w d u/\VRl A ρ w l rest
def VCs(A:Nat->Prop)(ρ:Nat->Nat)(w:World):List C->List Value->Prop
 |[],cs=>cs=[]
 |d::l,cs=>d.okP=true/\∃u rest,cs=u.cells.toList++rest/\VR A ρ w d u/\VCs A ρ w l rest
end
structure Lt(w w':World):Prop where
 os:w'.os=w.os
 tape:w'.tape=w.tape
 output:w'.output=w.output
 size:w.heap.size<=w'.heap.size
 iz:∀x z,IZ w x z->IZ w' x z
 shape:∀b s,w.shape? b=some s->w'.shape? b=some s
theorem Lt.refl(w:World):Lt w w:=⟨rfl,rfl,rfl,Nat.le_refl _,fun _ _ h=>h,fun _ _ h=>h⟩
theorem Lt.trans{a b c:World}(h:Lt a b)(k:Lt b c):Lt a c:=
 ⟨k.os.trans h.os,k.tape.trans h.tape,k.output.trans h.output,Nat.le_trans h.size k.size,fun x z e=>k.iz x z (h.iz x z e),fun x z e=>k.shape x z (h.shape x z e)⟩
theorem ui{w:World}{b:Nat}{s:TypeId×Nat}(h:w.shape? b=some s):b<w.heap.size:=by
 unfold World.shape? at h
 cases e:w.heap[b]? with
 |none=>rw[e]at h;cases h
 |some o=>exact(Array.getElem?_eq_some_iff.1 e).1
theorem uh{w w':World}{b:Nat}(h:w'.heap[b]?=w.heap[b]?):w'.shape? b=w.shape? b:=by
 unfold World.shape?;rw[h]
theorem Lt.below{w w':World}(h:Below w.heap.size w w'):Lt w w':=
 ⟨h.os,h.tape,h.output,h.size,fun _ _ hz=>hz.below h (Nat.le_refl _),fun b s e=>by rw[uh (h.block b (ui e))];exact e⟩
theorem Lt.chg{g:Nat}{w w':World}(h:Chg g w w')(hb:NW w g)(hs:∀s,w.shape? g=some s->w'.shape? g=some s):Lt w w':=
 ⟨h.os,h.tape,h.output,h.size,fun _ _ hz=>hz.chg h hb,fun b s e=>by
  by_cases hbg:b=g
  ·subst hbg;exact hs s e
  ·rw[uh (h.block b (ui e) hbg)];exact e⟩
variable {P}
structure Mo(A A':Nat->Prop)(ρ ρ':Nat->Nat):Prop where
 sub:∀k,A k->A' k
 eq:∀k,A k->ρ' k=ρ k
theorem Mo.refl(A:Nat->Prop)(ρ:Nat->Nat):Mo A A ρ ρ:=⟨fun _ h=>h,fun _ _=>rfl⟩
mutual
theorem VR.mo{A A':Nat->Prop}{ρ ρ':Nat->Nat}{w w':World}(m:Mo A A' ρ ρ')(k:Lt w w'):∀(c:C) (v:Value),VR P A ρ w c v->VR P A' ρ' w' c v
 | .any,_,_=>by simp only[VR]
 | .sc u,v,h=>by simp only[VR]at h⊢;exact h
 | .nm z,v,h=>by
  simp only[VR]at h⊢;obtain⟨x,h1,h2⟩:=h;exact⟨x,h1,k.iz _ _ h2⟩
 | .sl b off n c x,v,h=>by
  simp only[VR]at h⊢;obtain⟨h0,cap,h1,h2,h3,h4,h5⟩:=h;refine⟨m.sub _ h0,cap,by rw[m.eq _ h0];exact h1,h2,h3,h4,fun hx ho=>?_⟩;obtain⟨h6,T,s,h7,h8⟩:=h5 hx ho;exact⟨h6,T,s,by rw[m.eq _ h0];exact k.shape _ _ h7,h8⟩
 | .pt b off,v,h=>by
  simp only[VR]at h⊢;exact⟨m.sub _ h.1,by rw[m.eq _ h.1];exact h.2⟩
 | .fn f cs,v,h=>by
  simp only[VR]at h⊢;obtain⟨us,h1,h2⟩:=h;exact⟨us,h1,VRl.mo m k cs _ h2⟩
 | .ag l,v,h=>by
  simp only[VR]at h⊢;obtain⟨cs,h1,h2⟩:=h;exact⟨cs,h1,VCs.mo m k l _ h2⟩
 | .tp l,v,h=>by
  simp only[VR]at h⊢;obtain⟨vs,h1,h2⟩:=h;exact⟨vs,h1,VRl.mo m k l _ h2⟩
 | .yl b,v,h=>by
  simp only[VR]at h⊢;exact⟨m.sub _ h.1,by rw[m.eq _ h.1];exact h.2⟩
theorem VRl.mo{A A':Nat->Prop}{ρ ρ':Nat->Nat}{w w':World}(m:Mo A A' ρ ρ')(k:Lt w w'):∀(l:List C) (vs:List Value),VRl P A ρ w l vs->VRl P A' ρ' w' l vs
 |[],_,h=>by simp only[VRl]at h⊢;exact h
 |d::l,vs,h=>by
  simp only[VRl]at h⊢;obtain⟨u,rest,h1,h2,h3⟩:=h;exact⟨u,rest,h1,VR.mo m k d u h2,VRl.mo m k l rest h3⟩
theorem VCs.mo{A A':Nat->Prop}{ρ ρ':Nat->Nat}{w w':World}(m:Mo A A' ρ ρ')(k:Lt w w'):∀(l:List C) (cs:List Value),VCs P A ρ w l cs->VCs P A' ρ' w' l cs
 |[],_,h=>by simp only[VCs]at h⊢;exact h
 |d::l,cs,h=>by
  simp only[VCs]at h⊢;obtain⟨h0,u,rest,h1,h2,h3⟩:=h;exact⟨h0,u,rest,h1,VR.mo m k d u h2,VCs.mo m k l rest h3⟩
end
variable {A : Nat->Prop} {ρ : Nat->Nat} {w : World}
theorem nj{u:Value}(h:u.oneCell'=true):u.cells= #[u]:=by
 cases u<;>first|rfl|simp[Value.oneCell']at h
theorem VR.cells{c:C}{u:Value}(ho:c.okP=true)(h:VR P A ρ w c u):u.cells.toList.length=c.wid/\(∀x∈u.cells.toList,x.oneCell'=true)/\(∀n,u.cells.toList[0]?≠some (.int .u32 n)):=by
 cases c with
 |any=>simp[C.okP]at ho
 |ag l=>simp[C.okP]at ho
 |tp l=>simp[C.okP]at ho
 |sc v=>
  simp only[VR]at h;obtain⟨rfl,h⟩:=h;rw[nj h];refine⟨rfl,by simpa using h,fun n e=>?_⟩;simp at e;subst e;simp[C.okP]at ho
 |nm z=>
  simp only[VR]at h;obtain⟨x,rfl,_⟩:=h;refine⟨rfl,fun u hu=>?_,fun n e=>by simp[Value.cells]at e⟩;simp[Value.cells]at hu;rcases hu with rfl|rfl<;>rfl
 |sl k off n c x=>
  simp only[VR]at h;obtain⟨_,cap,rfl,_⟩:=h;exact⟨rfl,by simp[Value.cells,Value.oneCell'],fun n e=>by simp[Value.cells]at e⟩
 |pt k off=>
  simp only[VR]at h;obtain⟨_,rfl⟩:=h;exact⟨rfl,by simp[Value.cells,Value.oneCell'],fun n e=>by simp[Value.cells]at e⟩
 |fn f cs=>
  simp only[VR]at h;obtain⟨us,rfl,_⟩:=h;exact⟨rfl,by simp[Value.cells,Value.oneCell'],fun n e=>by simp[Value.cells]at e⟩
 |yl k=>
  simp only[VR]at h;obtain⟨_,rfl⟩:=h;exact⟨rfl,by simp[Value.cells,Value.oneCell'],fun n e=>by simp[Value.cells]at e⟩
theorem VCs.len:∀{l:List C} {xs:List Value},VCs P A ρ w l xs->xs.length=tX l
 |[],_,h=>by simp only[VCs]at h;subst h;rfl
 |d::l,xs,h=>by
  simp only[VCs]at h;obtain⟨h0,u,rest,rfl,h2,h3⟩:=h;rw[List.length_append,(VR.cells h0 h2).1,VCs.len h3];rfl
theorem VCs.one:∀{l:List C} {xs:List Value},VCs P A ρ w l xs->∀x∈xs,x.oneCell'=true
 |[],_,h=>by simp only[VCs]at h;subst h;intro x hx;cases hx
 |d::l,xs,h=>by
  simp only[VCs]at h;obtain⟨h0,u,rest,rfl,h2,h3⟩:=h;intro x hx;rcases List.mem_append.1 hx with hx|hx
  ·exact(VR.cells h0 h2).2.1 x hx
  ·exact VCs.one h3 x hx
theorem rF{c:C}(h:c.okP=true):0<c.wid:=by cases c<;>simp_all [C.okP,C.wid]
theorem VCs.nw{l:List C}{xs:List Value}(h:VCs P A ρ w l xs):∀n,xs[0]?≠some (.int .u32 n):=by
 cases l with
 |nil=>simp only[VCs]at h;subst h;intro n e;simp at e
 |cons d l=>
  simp only[VCs]at h;obtain⟨h0,u,rest,rfl,h2,h3⟩:=h;obtain⟨k1,_,k3⟩:=VR.cells h0 h2;have:=rF h0;intro n e;rw[List.getElem?_append_left (by omega)]at e;exact k3 n e
theorem VCs.app{l2:List C}{ys:List Value}(k:VCs P A ρ w l2 ys):∀{l:List C} {xs:List Value},VCs P A ρ w l xs->VCs P A ρ w (l++l2) (xs++ys)
 |[],_,h=>by simp only[VCs]at h;subst h;exact k
 |d::l,xs,h=>by
  simp only[VCs]at h;obtain⟨h0,u,rest,rfl,h2,h3⟩:=h;simp only[List.cons_append,VCs];exact⟨h0,u,rest++ys,by rw[List.append_assoc],h2,VCs.app k h3⟩
theorem VCs.drop:∀{l:List C} {xs:List Value} {off:Nat} {l':List C},VCs P A ρ w l xs->lW l off=some l'->VCs P A ρ w l' (xs.drop off)/\off<=xs.length
 |l,xs,0,l',h,e=>by
  have e':l'=l:=by cases l<;>simpa[lW]using e.symm
  subst e';exact⟨h,Nat.zero_le _⟩
 |[],_,off+1,l',_,e=>by simp[lW]at e
 |c::l,xs,off+1,l',h,e=>by
  simp only[lW]at e;split at e
  ·next hb=>
   have hb':=Nat.le_of_ble_eq_true hb;simp only[VCs]at h;obtain⟨h0,u,rest,rfl,h2,h3⟩:=h;have hl:=(VR.cells h0 h2).1;have:=rF h0;obtain⟨k1,k2⟩:=VCs.drop h3 e;refine⟨?_,by rw[List.length_append];omega⟩;rw[List.drop_append,List.drop_eq_nil_of_le (by omega),List.nil_append,hl];exact k1
  ·cases e
theorem VCs.take:∀{l:List C} {xs:List Value} {n:Nat} {l':List C},VCs P A ρ w l xs->lv l n=some l'->VCs P A ρ w l' (xs.take n)/\n<=xs.length
 |l,xs,0,l',h,e=>by
  have e':l'=[]:=by cases l<;>simpa[lv]using e.symm
  subst e';exact⟨by simp only[VCs,List.take_zero],Nat.zero_le _⟩
 |[],_,n+1,l',_,e=>by simp[lv]at e
 |c::l,xs,n+1,l',h,e=>by
  simp only[lv]at e;split at e
  ·next hb=>
   have hb':=Nat.le_of_ble_eq_true hb;obtain⟨l2,e2,rfl⟩:=Option.map_eq_some_iff.1 e;simp only[VCs]at h;obtain⟨h0,u,rest,rfl,h2,h3⟩:=h;have hl:=(VR.cells h0 h2).1;have:=rF h0;obtain⟨k1,k2⟩:=VCs.take h3 e2;refine⟨?_,by rw[List.length_append];omega⟩;rw[List.take_append,List.take_of_length_le (by omega),hl];simp only[VCs];exact⟨h0,u,_,rfl,h2,k1⟩
  ·cases e
theorem VCs.get{l:List C}{xs:List Value}{off n:Nat}{p:List C}(h:VCs P A ρ w l xs)(e:jv l off n=some p):VCs P A ρ w p ((xs.drop off).take n)/\off+n<=xs.length:=by
 unfold jv at e;obtain⟨l1,e1,e2⟩:=Option.bind_eq_some_iff.1 e;obtain⟨k1,k2⟩:=h.drop e1;obtain⟨k3,k4⟩:=k1.take e2;exact⟨k3,by rw[List.length_drop]at k4;omega⟩
theorem VCs.set{l:List C}{xs ys:List Value}{off n:Nat}{new l':List C}(h:VCs P A ρ w l xs)(hy:VCs P A ρ w new ys)(e:ru l off n new=some l'):VCs P A ρ w l' (xs.take off++ys++xs.drop (off+n))/\off+n<=xs.length:=by
 unfold ru at e;obtain⟨l1,e1,e2⟩:=Option.bind_eq_some_iff.1 e;obtain⟨l2,e3,rfl⟩:=Option.map_eq_some_iff.1 e2;obtain⟨k1,k2⟩:=h.take e1;obtain⟨k3,k4⟩:=h.drop e3;exact⟨VCs.app k3 (VCs.app hy k1),k4⟩
theorem VR.flat{c:C}{u:Value}{p:List C}(h:VR P A ρ w c u)(e:c.flat=some p):VCs P A ρ w p u.cells.toList:=by
 unfold C.flat at e;split at e
 ·simp only[Option.some.injEq]at e;subst e;simp only[VR]at h;obtain⟨cs,rfl,h2⟩:=h;exact h2
 ·split at e
  ·next ho=>
   simp only[Option.some.injEq]at e;subst e;simp only[VCs];exact⟨ho,u,[],by simp,h,rfl⟩
  ·cases e
theorem VCs.eh{row:Bool}{p:List C}{c:C}{xs:List Value}(h:VCs P A ρ w p xs)(e:eh row p=some c):if row then VR P A ρ w c (.agg xs.toArray)else∃u,xs=[u]/\VR P A ρ w c u:=by
 unfold CI.eh at e
 cases row with
 |true=>
  simp only[if_true];simp only at e;split at e
  ·simp only[Option.some.injEq]at e;subst e;simp only[VCs]at h;obtain⟨_,u,rest,rfl,h2,rfl⟩:=h;simp only[VR]at h2⊢;obtain⟨x,rfl,h3⟩:=h2;exact⟨x,by simp[Value.cells],h3⟩
  ·simp only[Option.some.injEq]at e;subst e;simp only[VR];exact⟨_,rfl,by simpa using h⟩
 |false=>
  simp only[Bool.false_eq_true,if_false];simp only at e;split at e
  ·cases e
  ·next c' hne=>
   simp only[Option.some.injEq]at e;subst e;simp only[VCs]at h;obtain⟨h0,u,rest,rfl,h2,rfl⟩:=h;refine⟨u,?_,h2⟩;obtain⟨k1,k2,_⟩:=VR.cells h0 h2;have hw:c'.wid=1:=by cases c'<;>simp_all [C.okP,C.wid]
   rw[hw]at k1;have hu:u.oneCell'=true:=by
    cases hc:c'<;>rw[hc]at h2 h0<;>simp only[VR]at h2<;>first|(simp[C.okP]at h0;done)|(obtain⟨rfl,h⟩:=h2;exact h)|(obtain⟨_,_,rfl,_⟩:=h2;rfl)|(obtain⟨_,rfl⟩:=h2;rfl)|(obtain⟨_,rfl,_⟩:=h2;rfl)|(exact absurd hc (hne _))
   rw[nj hu];rfl
  ·cases e
end
end CI
end
section
open Go.RowKit
namespace CI
theorem T.qe{α:Type}(k:Nat):T.get (T.e:T α) k=none:=by cases k<;>rfl
theorem wv{j k:Nat}(h:j≠k)(e:j%2=k%2):j/2≠k/2:=by omega
theorem T.wz{α:Type}:∀(f:Nat) (t:T α) (k j:Nat) (x:Option α),k+1<2^f->T.get (T.put f t k x) j=if j=k then x else T.get t j
 |0,t,k,j,x,h=>by simp at h
 |f+1,t,0,j,x,h=>by
  cases t<;>cases j<;>simp[T.put,T.get,T.qe];split<;>rfl
 |f+1,t,k+1,j,x,h=>by
  have hk:k/2+1<2^f:=by rw[Nat.pow_succ]at h;omega
  have IH:=fun t j=>T.wz f t (k/2) j x hk
  cases j with
  |zero=>cases t<;>simp only[T.put]<;>split<;>simp[T.get]
  |succ j=>
   have key:∀l r:T α,∀v,T.get (match k%2 with|0=>T.n v (T.put f l (k/2) x) r|_+1=>T.n v l (T.put f r (k/2) x)) (j+1)=if j+1=k+1 then x else T.get (T.n v l r) (j+1):=fun l r v=>by
    have hj:=Nat.mod_two_eq_zero_or_one j;have hk2:=Nat.mod_two_eq_zero_or_one k;rcases hk2 with e|e<;>rcases hj with e'|e'<;>simp only[e,e',T.get,IH]
    ·by_cases hjk:j=k
     ·subst hjk;simp
     ·rw[if_neg (wv hjk (by omega)),if_neg (by omega)]
    ·rw[if_neg (by omega)]
    ·rw[if_neg (by omega)]
    ·by_cases hjk:j=k
     ·subst hjk;simp
     ·rw[if_neg (wv hjk (by omega)),if_neg (by omega)]
   cases t with
   |e=>
    refine(key .e .e none).trans ?_;split
    ·rfl
    ·simp only[T.get];split<;>simp[T.qe]
   |n v l r=>exact key l r v
theorem T.oL{α:Type}{t:T α}{k j:Nat}{x:Option α}(h:k<1000000):T.get (T.put 24 t k x) j=if j=k then x else T.get t j:=
 T.wz 24 t k j x (Nat.lt_of_le_of_lt (Nat.succ_le_succ (Nat.le_of_lt h)) (by decide))
def qU:LS->LoopState
 | .ready=>.ready
 | .busy=>.busy
 | .done=>.done
 | .over=>.exhausted
def kv:Ex->Option Code
 | .norm=>none
 | .ret=>some .ret
 | .exit id=>some (.exit id)
def H.live(h:H)(k:Nat):Prop:=(h.get k).isSome=true
section
variable (P : Program)
def TR(A:Nat->Prop)(ρ:Nat->Nat)(w:World)(tm:Tm)(tmps:Array Value):Prop:=∀t,VR P A ρ w (CO.ev tm (CO.t t)) (tmps.getD t undef)
def BR(A:Nat->Prop)(ρ:Nat->Nat)(w:World)(r:Nat):B->Prop
 | .cells T l=>∃arr xs rest,w.heap[r]?=some (.cells arr T (0,0))/\arr.toList=xs++rest/\VCs P A ρ w l xs/\NW w r
 | .loop st p tm ps a b d=>A d/\∃fn tmps a' b',w.heap[r]?=some (.loop ⟨qU st,kv p,fn,tmps,ps.toArray,a',b',ρ d⟩)/\TR P A ρ w tm tmps/\comp P tmps.size a'=some a/\comp P tmps.size b'=some b/\tmps.size<1000000/\∀t∈ps,t<tmps.size
 | .defd o=>w.heap[r]?=some (.deferred (if o then some []else none))
structure Rel(A:Nat->Prop)(ρ:Nat->Nat)(w:World)(h:H):Prop where
 blk:∀k b,h.get k=some b->k<h.next/\A k/\ρ k<w.heap.size/\BR P A ρ w (ρ k) b
 inj:∀j k,h.live j->h.live k->ρ j=ρ k->j=k
 bd:h.next<=1000000
def Ext(A:Nat->Prop)(h h':H):Nat->Prop:=fun k=>A k\/(h.next<=k/\k<h'.next)
structure bg(A:Nat->Prop)(ρ:Nat->Nat)(w:World)(h:H)(ρ':Nat->Nat)(w':World)(h':H):Prop where
 rho:∀k,(k<h.next\/h'.next<=k)->ρ' k=ρ k
 rel:Rel P (Ext A h h') ρ' w' h'
 lt:Lt w w'
 fr:∀b,b<w.heap.size->(∀k,h.live k->h'.low<=k->ρ k≠b)->w'.heap[b]?=w.heap[b]?
 new:∀k,h.next<=k->h'.live k->w.heap.size<=ρ' k\/∃j,h.live j/\h'.low<=j/\ρ' k=ρ j
def Dj(A:Nat->Prop)(h h':H):Prop:=∀k,A k->k<h.next\/h'.next<=k
structure Good(h h':H):Prop where
 next:h.next<=h'.next
 low:h'.low<=h.low
 forb:h'.forb=h.forb
 keep:∀k,k<h.next->k<h'.low->T.get h'.t k=T.get h.t k
 dead:∀k,k<h.next->¬h.live k->T.get h'.t k=T.get h.t k
end
variable {P : Program} {A A' : Nat->Prop} {ρ ρ' : Nat->Nat} {w w' w'' : World} {h h' h'' : H}
theorem qd{h h':H}{k:Nat}(hf:h'.forb=h.forb)(ht:T.get h'.t k=T.get h.t k):h'.get k=h.get k:=by
 unfold H.get;rw[hf,ht]
theorem Good.refl(h:H):Good h h:=⟨Nat.le_refl _,Nat.le_refl _,rfl,fun _ _ _=>rfl,fun _ _ _=>rfl⟩
theorem Good.back(g:Good h h'){k:Nat}(hk:k<h.next)(hl:h'.live k):h.live k:=by
 by_cases hh:h.live k
 ·exact hh
 ·unfold H.live at hl hh⊢;rw[qd g.forb (g.dead k hk hh)]at hl;exact hl
theorem Good.trans(g:Good h h')(g':Good h' h''):Good h h'':=by
 refine⟨Nat.le_trans g.next g'.next,Nat.le_trans g'.low g.low,g'.forb.trans g.forb,fun k hk hl=>?_,fun k hk hl=>?_⟩
 ·rw[g'.keep k (Nat.lt_of_lt_of_le hk g.next) hl,g.keep k hk (Nat.lt_of_lt_of_le hl g'.low)]
 ·rw[g'.dead k (Nat.lt_of_lt_of_le hk g.next) (fun e=>hl (g.back hk e)),g.dead k hk hl]
theorem TR.mo{tm:Tm}{a:Array Value}(m:Mo A A' ρ ρ')(k:Lt w w')(t:TR P A ρ w tm a):TR P A' ρ' w' tm a:=fun i=>VR.mo m k _ _ (t i)
theorem NW.of{r:Nat}(hh:w'.heap[r]?=w.heap[r]?)(n:NW w r):NW w' r:=fun m e=>n m (by rw[<-e];exact(World.cell?_of_block (a:=⟨r,0,none⟩) hh).symm)
theorem BR.mo{r:Nat}{b:B}(m:Mo A A' ρ ρ')(k:Lt w w')(hh:w'.heap[r]?=w.heap[r]?)(t:BR P A ρ w r b):BR P A' ρ' w' r b:=by
 cases b with
 |cells T l=>
  obtain⟨arr,xs,rest,h1,h2,h3,h4⟩:=t;exact⟨arr,xs,rest,hh.trans h1,h2,VCs.mo m k _ _ h3,NW.of hh h4⟩
 |loop st p tm ps a b d=>
  obtain⟨h0,fn,tmps,a',b',h1,h2,h3⟩:=t;exact⟨m.sub _ h0,fn,tmps,a',b',by rw[hh,h1,m.eq _ h0],h2.mo m k,h3⟩
 |defd o=>exact hh.trans t
theorem Rel.mo(m:Mo A A' ρ ρ')(k:Lt w w')(hb:∀j,h.live j->w'.heap[ρ j]?=w.heap[ρ j]?)(t:Rel P A ρ w h):Rel P A' ρ' w' h:=by
 have hlv:∀j,h.live j->A j:=fun j hj=>by
  obtain⟨b,e⟩:=Option.isSome_iff_exists.1 hj;exact(t.blk j b e).2.1
 refine⟨fun j b e=>?_,fun i j hi hj e=>?_,t.bd⟩
 ·obtain⟨h1,h2,h3,h4⟩:=t.blk j b e;have hl:h.live j:=by unfold H.live;rw[e];rfl
  rw[m.eq _ h2];exact⟨h1,m.sub _ h2,Nat.lt_of_lt_of_le h3 k.size,h4.mo m k (hb j hl)⟩
 ·rw[m.eq _ (hlv i hi),m.eq _ (hlv j hj)]at e;exact t.inj i j hi hj e
theorem bg.mo(p:bg P A ρ w h ρ' w' h')(d:Dj A h h'):Mo A (Ext A h h') ρ ρ':=⟨fun _ hk=>.inl hk,fun k hk=>p.rho k (d k hk)⟩
theorem bg.refl(t:Rel P A ρ w h):bg P A ρ w h ρ w h:=
 ⟨fun _ _=>rfl,t.mo ⟨fun _ hk=>.inl hk,fun _ _=>rfl⟩ (Lt.refl w) (fun _ _=>rfl),Lt.refl w,fun _ _ _=>rfl,fun k hk hl=>by
  obtain⟨b,e⟩:=Option.isSome_iff_exists.1 hl;have:=(t.blk k b e).1;omega⟩
theorem bg.below(t:Rel P A ρ w h)(hb:Below w.heap.size w w'):bg P A ρ w h ρ w' h:=by
 have hlt:∀j,h.live j->ρ j<w.heap.size:=fun j hj=>by
  obtain⟨b,e⟩:=Option.isSome_iff_exists.1 hj;exact(t.blk j b e).2.2.1
 refine⟨fun _ _=>rfl,t.mo ⟨fun _ hk=>.inl hk,fun _ _=>rfl⟩ (Lt.below hb) (fun j hj=>hb.block _ (hlt j hj)),Lt.below hb,fun b hbl _=>hb.block b hbl,fun k hk hl=>?_⟩;obtain⟨b,e⟩:=Option.isSome_iff_exists.1 hl;have:=(t.blk k b e).1;omega
theorem Dj.left(d:Dj A h h'')(g:h'.next<=h''.next):Dj A h h':=fun k hk=>(d k hk).imp id (fun e=>Nat.le_trans g e)
theorem Dj.right(d:Dj A h h'')(g:h.next<=h'.next):Dj (Ext A h h') h' h'':=fun k hk=>by
 rcases hk with hk|hk
 ·exact(d k hk).imp (fun e=>Nat.lt_of_lt_of_le e g) id
 ·exact .inl hk.2
theorem Ext.trans(g:h.next<=h'.next)(g':h'.next<=h''.next)(k:Nat):Ext (Ext A h h') h' h'' k↔Ext A h h'' k:=by
 unfold Ext;constructor
 ·rintro((e|e)|e)
  ·exact .inl e
  ·exact .inr (by omega)
  ·exact .inr (by omega)
 ·rintro(e|e)
  ·exact .inl (.inl e)
  ·by_cases hk:k<h'.next
   ·exact .inl (.inr (by omega))
   ·exact .inr (by omega)
theorem Mo.ext(g:h.next<=h'.next)(g':h'.next<=h''.next)(ρ:Nat->Nat):Mo (Ext (Ext A h h') h' h'') (Ext A h h'') ρ ρ:=⟨fun k hk=>(Ext.trans g g' k).1 hk,fun _ _=>rfl⟩
theorem bg.trans{ρ'':Nat->Nat}(p:bg P A ρ w h ρ' w' h')(g:Good h h')(q:bg P (Ext A h h') ρ' w' h' ρ'' w'' h'')(g':Good h' h''):bg P A ρ w h ρ'' w'' h'':=by
 refine⟨fun k hk=>?_,q.rel.mo (Mo.ext g.next g'.next _) (Lt.refl _) (fun _ _=>rfl),p.lt.trans q.lt,fun b hb hn=>?_,fun k hk hl=>?_⟩
 ·rw[q.rho k (hk.imp (fun e=>Nat.lt_of_lt_of_le e g.next) id),p.rho k (hk.imp id (fun e=>Nat.le_trans g'.next e))]
 ·rw[q.fr b (Nat.lt_of_lt_of_le hb p.lt.size) fun k hl hk e=>?_,p.fr b hb fun k hl hk=>hn k hl (Nat.le_trans g'.low hk)];by_cases hkn:k<h.next
  ·rw[p.rho k (.inl hkn)]at e;exact hn k (g.back hkn hl) hk e
  ·rcases p.new k (by omega) hl with e2|⟨j,h1,h2,h3⟩
   ·omega
   ·exact hn j h1 (Nat.le_trans g'.low h2) (h3.symm.trans e)
 ·by_cases hkn:k<h'.next
  ·have hl':=g'.back hkn hl;rw[q.rho k (.inl hkn)];rcases p.new k hk hl' with e|⟨j,h1,h2,h3⟩
   ·exact .inl e
   ·exact .inr ⟨j,h1,Nat.le_trans g'.low h2,h3⟩
  ·rcases q.new k (by omega) hl with e|⟨j,h1,h2,h3⟩
   ·exact .inl (Nat.le_trans p.lt.size e)
   ·by_cases hj:j<h.next
    ·rw[p.rho j (.inl hj)]at h3;exact .inr ⟨j,g.back hj h1,h2,h3⟩
    ·rcases p.new j (by omega) h1 with e|⟨i,k1,k2,k3⟩
     ·exact .inl (by rw[h3];exact e)
     ·exact .inr ⟨i,k1,Nat.le_trans g'.low k2,h3.trans k3⟩
theorem bF{b:B}(e:h.new b=some h'):h'.next=h.next+1/\h'.low=h.low/\h'.forb=h.forb/\h.next<1000000/\∀j,T.get h'.t j=if j=h.next then some b else T.get h.t j:=by
 unfold H.new at e;split at e
 ·next hb=>
  simp only[Option.some.injEq]at e;subst e;have hb':h.next<1000000:=by simpa[Nat.blt_eq]using hb
  exact⟨rfl,rfl,rfl,hb',fun j=>T.oL hb'⟩
 ·cases e
theorem oG{b:B}(e:h.new b=some h'):Good h h':=by
 obtain⟨h1,h2,h3,h4,h5⟩:=bF e;exact⟨by omega,by omega,h3,fun k hk _=>by rw[h5,if_neg (by omega)],fun k hk _=>by rw[h5,if_neg (by omega)]⟩
def at'(ρ:Nat->Nat)(n r:Nat):Nat->Nat:=fun k=>if k=n then r else ρ k
theorem gZ{b:B}{r:Nat}(t:Rel P A ρ w h)(e:h.new b=some h')(hd:Dj A h h')(hbl:Below w.heap.size w w')(h1:w.heap.size<=r)(h2:r<w'.heap.size)
  (hB:∀A' ρ',Mo A A' ρ ρ'->ρ' h.next=r->A' h.next->BR P A' ρ' w' r b):bg P A ρ w h (at' ρ h.next r) w' h':=by
 obtain⟨k1,k2,k3,k4,k5⟩:=bF e;have hmo:Mo A (Ext A h h') ρ (at' ρ h.next r):=⟨fun _ hk=> .inl hk,fun k hk=>by
  have:=hd k hk;unfold at';rw[if_neg (by omega)]⟩
 have hg:∀k,h'.get k=some b/\k=h.next\/h'.get k=h.get k/\k≠h.next\/h'.get k=none:=fun k=>by
  unfold H.get;rw[k3,k5];by_cases hk:k=h.next
  ·rw[if_pos hk];cases bL k h.forb<;>simp[hk]
  ·rw[if_neg hk];exact .inr (.inl ⟨rfl,hk⟩)
 have hlt:∀j c,h.get j=some c->j<h.next/\ρ j<w.heap.size:=fun j c ej=>⟨(t.blk j c ej).1,(t.blk j c ej).2.2.1⟩
 have hat:∀j,j≠h.next->at' ρ h.next r j=ρ j:=fun j hj=>by unfold at';rw[if_neg hj]
 have hatn:at' ρ h.next r h.next=r:=by unfold at';rw[if_pos rfl]
 refine⟨fun k hk=>hat k (by omega),⟨fun k c ek=>?_,fun i j hi hj ee=>?_,by omega⟩,Lt.below hbl,fun b hb _=>hbl.block b hb,fun k hk hl=>?_⟩
 ·rcases hg k with⟨e1,e2⟩|⟨e1,e2⟩|e1
  ·rw[e1]at ek;simp only[Option.some.injEq]at ek;subst ek;subst e2;rw[hatn];have hA:Ext A h h' h.next:= .inr ⟨Nat.le_refl _,by omega⟩
   exact⟨by omega,hA,h2,hB _ _ hmo hatn hA⟩
  ·rw[e1]at ek;obtain⟨m1,m2,m3,m4⟩:=t.blk k c ek;rw[hat k e2];exact⟨by omega, .inl m2,Nat.lt_of_lt_of_le m3 hbl.size,m4.mo hmo (Lt.below hbl) (hbl.block _ m3)⟩
  ·rw[e1]at ek;cases ek
 ·have key : ∀ i, h'.live i -> (i = h.next \/ (i ≠ h.next /\ h.live i /\ ρ i < w.heap.size)) := fun i hi => by
   unfold H.live at hi;rcases hg i with⟨e1,e2⟩|⟨e1,e2⟩|e1
   ·exact .inl e2
   ·rw[e1]at hi;obtain⟨c,ec⟩:=Option.isSome_iff_exists.1 hi;exact .inr ⟨e2,hi,(hlt i c ec).2⟩
   ·rw[e1]at hi;cases hi
  rcases key i hi with hi'|⟨hi1,hi2,hi3⟩<;>rcases key j hj with hj'|⟨hj1,hj2,hj3⟩
  ·rw[hi',hj']
  ·rw[hi',hatn,hat j hj1]at ee;omega
  ·rw[hj',hatn,hat i hi1]at ee;omega
  ·rw[hat i hi1,hat j hj1]at ee;exact t.inj i j hi2 hj2 ee
 ·unfold H.live at hl;rcases hg k with⟨e1,e2⟩|⟨e1,e2⟩|e1
  ·subst e2;exact .inl (by rw[hatn];exact h1)
  ·rw[e1]at hl;obtain⟨c,ec⟩:=Option.isSome_iff_exists.1 hl;have:=(hlt k c ec).1;omega
  ·rw[e1]at hl;cases hl
theorem lx{k:Nat}{b:Option B}(hk:k<1000000):(h.set k b).next=h.next/\(h.set k b).forb=h.forb/\((h.set k b).low<=h.low/\(h.set k b).low<=k)/\∀j,T.get (h.set k b).t j=if j=k then b else T.get h.t j:=by
 refine⟨rfl,rfl,?_,fun j=>T.oL hk⟩;show(match Nat.blt k h.low with|true=>k|false=>h.low)<=h.low/\(match Nat.blt k h.low with|true=>k|false=>h.low)<=k;split
 ·next e=>
  have:k<h.low:=by simpa[Nat.blt_eq]using e
  exact⟨Nat.le_of_lt this,Nat.le_refl _⟩
 ·next e=>
  have:¬k<h.low:=by intro e2;rw[<-Nat.blt_eq]at e2;rw[e2]at e;cases e
  exact⟨Nat.le_refl _,by omega⟩
theorem fG{k:Nat}(hl:h.live k):bL k h.forb=false:=by
 unfold H.live H.get at hl
 cases e:bL k h.forb with
 |false=>rfl
 |true=>rw[e]at hl;cases hl
theorem Rel.live(t:Rel P A ρ w h){k:Nat}(hl:h.live k):k<h.next/\A k/\ρ k<w.heap.size:=by
 obtain⟨b,e⟩:=Option.isSome_iff_exists.1 hl;exact⟨(t.blk k b e).1,(t.blk k b e).2.1,(t.blk k b e).2.2.1⟩
theorem oB{k:Nat}{b:Option B}(hk:k<1000000)(hl:h.live k):Good h (h.set k b):=by
 obtain⟨k1,k2,k3,k4⟩:=lx (h:=h) (b:=b) hk;refine⟨Nat.le_of_eq k1.symm,k3.1,k2,fun j hj hlo=>?_,fun j hj hd=>?_⟩
 ·rw[k4,if_neg (by have:=k3.2;omega)]
 ·rw[k4,if_neg (fun e=>hd (by rw[e];exact hl))]
theorem uj{k:Nat}{b:B}(t:Rel P A ρ w h)(hl:h.live k)(hc:Chg (ρ k) w w')(hnw:NW w (ρ k))(hs:∀s,w.shape? (ρ k)=some s->w'.shape? (ρ k)=some s)
  (hB:BR P A ρ w' (ρ k) b):bg P A ρ w h ρ w' (h.set k (some b)):=by
 obtain⟨m1,m2,m3⟩:=t.live hl;have hk:k<1000000:=Nat.lt_of_lt_of_le m1 t.bd;obtain⟨k1,k2,k3,k4⟩:=lx (h:=h) (b:=some b) hk;have hlt:=Lt.chg hc hnw hs;have hmo:Mo A (Ext A h (h.set k (some b))) ρ ρ:=⟨fun _ hk=>.inl hk,fun _ _=>rfl⟩;have hg:∀j,j≠k->(h.set k (some b)).get j=h.get j:=fun j hj=>qd k2 (by rw[k4,if_neg hj]);have hgk:(h.set k (some b)).get k=some b:=by
  unfold H.get;rw[k2,fG hl,k4,if_pos rfl]
 have hlv:∀j,(h.set k (some b)).live j->h.live j:=fun j hj=>by
  by_cases e:j=k
  ·rw[e];exact hl
  ·unfold H.live at hj⊢;rw[hg j e]at hj;exact hj
 refine⟨fun _ _=>rfl,⟨fun j c ej=>?_,fun i j hi hj=>t.inj i j (hlv i hi) (hlv j hj),t.bd⟩,hlt,fun r hr hn=>hc.block r hr fun e=>hn k hl k3.2 e.symm,fun j hj hlj=>?_⟩
 ·by_cases e:j=k
  ·subst e;rw[hgk]at ej;simp only[Option.some.injEq]at ej;subst ej;exact⟨m1,.inl m2,Nat.lt_of_lt_of_le m3 hlt.size,hB.mo hmo (Lt.refl _) rfl⟩
  ·rw[hg j e]at ej;obtain⟨n1,n2,n3,n4⟩:=t.blk j c ej;have hne:ρ j≠ρ k:=fun e2=>e (t.inj j k (by unfold H.live;rw[ej];rfl) hl e2);exact⟨n1,.inl n2,Nat.lt_of_lt_of_le n3 hlt.size,n4.mo hmo hlt (hc.block _ n3 hne)⟩
 ·have:=(t.live (hlv j hlj)).1;omega
end CI
end
end Go.Proofs.YtcgjmdpcplhanaaGreat
