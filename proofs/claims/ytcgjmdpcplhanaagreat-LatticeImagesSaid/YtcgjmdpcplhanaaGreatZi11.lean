/- Lemmas for the law: DI DJ DL E31 DM E32 L1 DN E33 -/
import Derived.Test.YtcgjmdpcplhanaaGreatZi10
namespace Go.Proofs.YtcgjmdpcplhanaaGreat
section
theorem F6{p q:Prop}(h:q)(f:Wq q→p:=by(intro hW;((refine gar ?_;refine mJ ?_;refine aK ?_;refine zs4 ?_;refine dT ?_;refine aK ?_;refine zs4 ?_;refine dT ?_;refine aK ?_;refine cw ?_;refine iP ?_;refine af ?_));exact hW.out)):p:=f ⟨h⟩
theorem oY{p q:Prop}(h:q)(f:Wq q→p:=by(intro hW;((first|refine aN1 rfl rfl rfl u7 ?_|refine kK rfl rfl rfl u7 ?_));exact hW.out)):p:=f ⟨h⟩
theorem mL{p q:Prop}(h:q)(f:Wq q→p:=by(intro hW;((first|refine aN1 rfl rfl rfl u9 ?_|refine kK rfl rfl rfl u9 ?_));exact hW.out)):p:=f ⟨h⟩
theorem oX{p q:Prop}(h:q)(f:Wq q→p:=by(intro hW;((first|refine aN1 rfl rfl rfl qc ?_|refine kK rfl rfl rfl qc ?_));exact hW.out)):p:=f ⟨h⟩
theorem zs122{p q:Prop}(h:q)(f:Wq q→p:=by(intro hW;((refine bL (k:=2) (z:=(.agg #[.int .i64 0,.slice none 0 0,.int .i64 0])) (d:=(.st [.sc (.int .i64 0),.sc (.slice none 0 0),.sc (.int .i64 0)])) rfl rfl rfl rfl rfl aa ae ae bN ae ae bj ?_));exact hW.out)):p:=f ⟨h⟩
theorem ux{p q:Prop}(h:q)(f:Wq q→p:=by(intro hW;((refine gar ?_;refine ez ?_;refine zs122 ?_;refine gg ?_;refine af ?_));exact hW.out)):p:=f ⟨h⟩
theorem zR{p:Prop}(h:p:=by(first|(apply d_field_none;(focus(exact rfl));(focus((apply av;(conv=>lhs;whnf);(first|done|exact rfl))));(focus(kernel_rfl));(focus(kernel_rfl)))|(apply nC;(focus(exact rfl));(focus((apply av;(conv=>lhs;whnf);(first|done|exact rfl))));(focus(kernel_rfl));(focus(exact rfl));(focus(kernel_rfl))))):p:=h
theorem uC{p q:Prop}(h:q)(f:Wq q→p:=by(intro hW;((first|refine aN1 rfl rfl rfl zR ?_|refine kK rfl rfl rfl zR ?_));exact hW.out)):p:=f ⟨h⟩
theorem uu{p q:Prop}(h:q)(f:Wq q→p:=by(intro hW;((refine gar ?_;refine zs4 ?_;refine iP ?_;refine zs4 ?_;refine zs8 ?_;refine lD ?_;refine cP ?_;refine zs4 ?_;refine zs8 ?_;refine fG ?_;refine cP ?_;refine af ?_));exact hW.out)):p:=f ⟨h⟩
theorem zb79{p:Prop}(h:p:=by simp only[AR];exact⟨trivial,rfl⟩):p:=h
theorem dH{p q:Prop}(h:q)(f:Wq q→p:=by(intro hW;((first|refine aN1 rfl rfl rfl nN ?_|refine kK rfl rfl rfl nN ?_));exact hW.out)):p:=f ⟨h⟩
theorem F7{p q:Prop}(h:q)(f:Wq q→p:=by(intro hW;((refine zs55 ?_;refine zs26 ?_;refine bu ?_;refine aZ ?_;refine de ?_;refine bu ?_;refine yY ?_;refine sb ?_;refine bu ?_;refine uO ?_;refine dv ?_));exact hW.out)):p:=f ⟨h⟩
theorem zb29{p:Prop}(h:p:=by(apply(wT (z:=(.agg #[.int .i64 0,.slice none 0 0,.int .i64 0])) (d:=(.st [.sc (.int .i64 0),.sc (.slice none 0 0),.sc (.int .i64 0)])));(focus(exact rfl));(focus(kernel_rfl));(focus(exact rfl));(focus(exact rfl));(focus(exact rfl)))):p:=h
theorem GA{p q:Prop}(h:q)(f:Wq q→p:=by(intro hW;(refine aL1 rfl rfl rfl zb29 ?_);exact hW.out)):p:=f ⟨h⟩
theorem dp{p q:Prop}(h:q)(f:Wq q→p:=by(intro hW;((refine gar ?_;refine GA ?_;refine cv ?_;refine gg ?_;refine af ?_));exact hW.out)):p:=f ⟨h⟩
theorem GB{p q:Prop}(h:q)(f:Wq q→p:=by(intro hW;(refine aL1 rfl rfl rfl (by(apply FL;(focus(exact rfl));(focus((apply av;(conv=>lhs;whnf);(first|done|exact rfl))));(focus((apply av;(conv=>lhs;whnf);(first|done|exact rfl))));(focus((apply av;(conv=>lhs;whnf);(first|done|exact rfl))));(focus(exact rfl));(focus(exact rfl));(focus(exact rfl));(focus(kernel_rfl)))) ?_);exact hW.out)):p:=f ⟨h⟩
theorem zs124{p q:Prop}(h:q)(f:Wq q→p:=by(intro hW;(refine aL1 rfl rfl rfl zR ?_);exact hW.out)):p:=f ⟨h⟩
theorem uv{p q:Prop}(h:q)(f:Wq q→p:=by(intro hW;((refine gar ?_;refine zs124 ?_;refine aK ?_;refine cw ?_;refine zs4 ?_;refine bT ?_;refine bT ?_;refine zs6 ?_;refine zs6 ?_;refine af ?_));exact hW.out)):p:=f ⟨h⟩
theorem qJ{p q:Prop}(h:q)(f:Wq q→p:=by(intro hW;((refine gar ?_;refine zs4 ?_;refine ew ?_;refine aK ?_;refine lE ?_;refine af ?_));exact hW.out)):p:=f ⟨h⟩
theorem GD{p q:Prop}(h:q)(f:Wq q→p:=by(intro hW;(refine aL1 rfl rfl rfl (by(apply jg;(focus(exact rfl));(focus((apply av;(conv=>lhs;whnf);(first|done|exact rfl))));(focus(exact bB));(focus(exact rfl));(focus(exact rfl));(focus(assumption));(focus(exact rfl)))) ?_);exact hW.out)):p:=f ⟨h⟩
theorem uw{p q:Prop}(h:q)(f:Wq q→p:=by(intro hW;((refine gar ?_;refine mJ ?_;refine aK ?_;refine GD ?_;refine zs4 ?_;refine bT ?_;refine bT ?_;refine zs6 ?_;refine zs6 ?_;refine af ?_));exact hW.out)):p:=f ⟨h⟩
theorem zH{p q:Prop}(h:q)(f:Wq q→p:=by(intro hW;((first|(refine aLs rfl rfl rfl rfl ?_ ?_;(focus(apply aO;(conv=>lhs;whnf);(first|done|exact rfl|(apply aH;(first|(apply decide_eq_true;omega)|(apply decide_eq_false;omega)|assumption|(simp;done)))))))|refine aLw rfl rfl rfl rfl bp zb28 ?_));exact hW.out)):p:=f ⟨h⟩
theorem qL{p q:Prop}(h:q)(f:Wq q→p:=by(intro hW;((first|(refine aLs rfl rfl rfl rfl ?_ ?_;(focus(apply aO;(conv=>lhs;whnf);(first|done|exact rfl|(apply aH;(first|(apply decide_eq_true;omega)|(apply decide_eq_false;omega)|assumption|(simp;done)))))))|refine aLw rfl rfl rfl rfl bp zR ?_));exact hW.out)):p:=f ⟨h⟩
theorem ur{p q:Prop}(h:q)(f:Wq q→p:=by(intro hW;((refine gar ?_;refine ew ?_;refine aK ?_;refine uM ?_;refine iP ?_;refine zs4 ?_;refine qL ?_;refine cC ?_;refine zH ?_;refine lD ?_;refine cP ?_;refine af ?_));exact hW.out)):p:=f ⟨h⟩
end
section
open Go.RowKit
namespace DW
section
variable {P : Program} {X0 : Nat→Prop} {n : Nat} {Q : Exit→S→Prop} {s : S} {sl : List (Nat × D)} {ow : List (Nat × Ow)} {o : Oper} {ops : Array Oper} {l : List Oper} {K : S→Prop} {t : Nat} {d : D}
theorem Bv{X:Nat→Prop}{f:Nat→Value}{w:World}(s:S)(a:Act):∀l:List Operand,(∀x∈l,SR X f w (s.op x) (a.eval x))→SRs X f w (l.map s.op) (l.map a.eval)
 |[],_=>rfl
 |x::l,h=>⟨_,_,rfl,h x List.mem_cons_self,Bv s a l fun y hy=>h y (List.mem_cons_of_mem _ hy)⟩
structure xo(sl:List (Nat×D))(ow os os' ow1:List (Nat×Ow))(r:D):Prop where
 sub:∀p∈os,p∈ow
 rest:∀p∈ow1,p∈ow∧∀q∈os,q.1≠p.1
 new:∀p∈os',(∃q∈os,q.1=p.1)∨(pin p.1=false∧(∀t,(look sl t).is p.1=false)∧∀q∈ow1,q.1≠p.1∧(hdr q.1=true→gI p.1=true→.own p.1∉q.2.l))
 men:∀p∈os',hdr p.1=true→∀j,.own j∈p.2.l→∃q∈os',q.1=j
 res:∀k,r.is k=true→∃q∈os',q.1=k
theorem DK{g:FuncId}{xs:List Operand}{ts:Array TypeId}{ds:List D}{os os' ow1:List (Nat×Ow)}{r:D}(hdst:o.dst=some t)(ht:Nat.blt t n=true)(ho:o.op= .call {callee:=.value (.func g),args:=xs.toArray,argTypes:=ts})(hd:xs.map (S.op ⟨sl,ow⟩)=ds)(hf:FnG P g ds os r os')(hc:xo sl ow os os' ow1 r)
  {w0:Bs} {f:Nat→Value} {a:Act} {w:World} (hh:Hd X0 n w0 ⟨sl,ow⟩ f a w) (Qx:Exit→Act→World→Prop):o.wp P a w (fun a' w'=>∃f',Hd X0 n w0 ⟨(t,r)::sl,os'++ow1⟩ f' a' w') Qx:=by
 have hr:(execOp a.eval o).run P w= .ok (.enter g (xs.map a.eval).toArray) w:=by
  unfold execOp;rw[ho]
  have:=hf.1 (xs.map a.eval).toArray w
  simp[resolve,invoke,Deferred.ofValue,Act.eval,this]
 have hXB:XB (fun b=>XO X0 ⟨sl,ow⟩ f b∧¬blk f os b) f os=XO X0 ⟨sl,ow⟩ f:=funext fun b=>propext (by
  constructor
  ·rintro(h|⟨p,hp,e⟩)
   ·exact h.1
   ·exact .inr ⟨p,hc.sub p hp,e⟩
  ·intro h
   by_cases hb:blk f os b
   ·exact .inr hb
   ·exact .inl ⟨h,hb⟩)
 have hO:OS (fun b=>XO X0 ⟨sl,ow⟩ f b∧¬blk f os b) f w os:=⟨fun p hp=>by rw[hXB];exact hh.ow p (hc.sub p hp),fun b ⟨p,hp,e⟩=>hh.nw b ⟨p,hc.sub p hp,e⟩,fun p hp q hq=>hh.dj p (hc.sub p hp) q (hc.sub q hq),fun p hp q hq=>hh.un p (hc.sub p hp) q (hc.sub q hq),fun b hb=>hb.2⟩
 have hS:SRs (XB (fun b=>XO X0 ⟨sl,ow⟩ f b∧¬blk f os b) f os) f w ds (xs.map a.eval).toArray.toList:=by
  rw[hXB,←hd];exact Bv ⟨sl,ow⟩ a xs fun x _=>hh.op x
 unfold Oper.wp
 rw[hr,Oper.upon_enter]
 refine(hf.2 _ f w _ (fun b hb=>hh.xlt b hb.1) hO hS).mono fun e w' ⟨u,f',he,h1,h2,h3,h4,h5⟩=>?_
 subst he
 rw[hdst]
 exact⟨_,hh.call hc.sub hc.rest hc.new hc.men hc.res p6 h1 h2 h3 h4 h5⟩
theorem Jl{g:FuncId}{xs:List Operand}{ts:Array TypeId}{ds:List D}{os os':List (Nat×Ow)}{r:D}(ow1:List (Nat×Ow))(hg:o.guard=none)(hdst:o.dst=some t)(ht:Nat.blt t n=true)(ho:o.op= .call {callee:=.value (.func g),args:=xs.toArray,argTypes:=ts})(hd:xs.map (S.op ⟨sl,ow⟩)=ds)(hf:FnG P g ds os r os')(hc:xo sl ow os os' ow1 r)
  (h:aL P X0 n ops l K ⟨(t,r)::sl,os'++ow1⟩):aL P X0 n ops (o::l) K ⟨sl,ow⟩:=
 fm fun w0 f a w Qx hh=>⟨by simp[Region.wanted,hg],Oper.wp_mono (fun _ _ ⟨f',h1⟩=>⟨_,f',h1,h⟩) (DK hdst ht ho hd hf hc hh Qx)⟩
theorem ElH.map{X:Nat→Prop}{f f':Nat→Value}{w:World}:∀{l l':List D} {xs:List Value},ElH X f w l xs→l'.length=l.length→(∀(i:Nat) (d d':D),l[i]?=some d→l'[i]?=some d'→d'.wd=1∧∀u,ER X f w d u→ER X f' w d' u)→ElH X f' w l' xs
 |[],[],_,h,_,_=>h
 |[],_::_,_,_,h,_=>by simp at h
 |_::_,[],_,_,h,_=>by simp at h
 |d::_,d'::_,_,⟨u,rest,h1,h2,h3,h4,_,h6,h7⟩,hl,hh=>by
  obtain⟨k1,k2⟩:=hh 0 d d' rfl rfl
  exact⟨u,rest,h1,h2,h3,k2 u h4,k1,h6,ElH.map h7 jn fun i e e' he he'=>hh (i+1) e e' mO (by simpa using he')⟩
end
end DW
end
section
open Go.RowKit
namespace DW
section
variable {P : Program} {X0 : Nat→Prop} {n : Nat} {Q : Exit→S→Prop} {s : S} {sl : List (Nat × D)} {ow : List (Nat × Ow)} {o : Oper} {ops : Array Oper} {l : List Oper} {K : S→Prop} {t : Nat} {d : D}
def noS(b:Nat)(l:List (Nat×D)):Bool:=l.all fun p=>!p.2.is b
theorem vM{b:Nat}:∀{l:List (Nat×D)},noS b l=true→∀t,(look l t).is b=false
 |[],_,_=>rfl
 |(u,d)::l,h,t=>by
  simp only[noS,List.all_cons,Bool.and_eq_true,Bool.not_eq_true']at h
  simp only[look]
  split
  ·exact h.1
  ·exact vM (l:=l) h.2 t
end
end DW
end
section
open Go.RowKit
namespace DW
theorem tB.mv{P:Program}{g:FuncId}{ds:List D}{a:Nat}{q:Ow}(h:tB P g ds [] (.own a) [(a,q)])(ha:hdr a=false){b:Nat}(hb:hdr b=false):tB P g ds [] (.own b) [(b,q)]:=fun X f w vs hX hO hv=>by
 refine(h X f w vs hX hO hv).mono fun e w' ⟨u,f',he,h1,h2,h3,h4,h5⟩=>?_
 have hx:XB X (fun _=>f' a) [(b,q)]=XB X f' [(a,q)]:=funext fun x=>propext (by
  unfold XB blk
  constructor
  ·rintro(h|⟨p,hp,e⟩)
   ·exact .inl h
   ·exact .inr ⟨_,List.mem_singleton.2 rfl,e⟩
  ·rintro(h|⟨p,hp,e⟩)
   ·exact .inl h
   ·rw[List.mem_singleton.1 hp]at e
    exact .inr ⟨_,List.mem_singleton.2 rfl,e⟩)
 have hk:∀x,blk (fun _=>f' a) [(b,q)] x→blk f' [(a,q)] x:=fun x ⟨p,hp,e⟩=>⟨_,List.mem_singleton.2 rfl,e⟩
 refine⟨u,fun _=>f' a,he,h1,⟨fun p hp=>?_,fun x hx=>h2.nw x (hk x hx),fun p hp q' hq hne=>?_,fun p hp q' hq _=>?_,fun x hx hb'=>h2.xd x hx (hk x hb')⟩,fun x hx=>h3 x (hk x hx),fun p hp=>(by cases hp),?_⟩
 ·rw[List.mem_singleton.1 hp,hx]
  obtain⟨k0,xs,k1,k2⟩:=h2.ow _ (List.mem_singleton.2 rfl)
  exact⟨k0,xs,k1,EE.of (k2.pl ha) hb⟩
 ·rw[List.mem_singleton.1 hp,List.mem_singleton.1 hq]at hne;exact absurd rfl hne
 ·rw[List.mem_singleton.1 hp,List.mem_singleton.1 hq]
 ·simp only[SR]at h5⊢;exact h5
section
variable {P : Program} {X0 : Nat→Prop} {n : Nat} {Q : Exit→S→Prop} {s : S} {sl : List (Nat × D)} {ow : List (Nat × Ow)} {o : Oper} {ops : Array Oper} {l : List Oper} {K : S→Prop} {t : Nat} {d : D}
theorem Fg{k:Nat}(h:Nat.blt k 1000000=true):gI k=false:=by
 cases hb:gI k with
 |false=>rfl
 |true=>exact absurd rfl (pq h hb)
theorem Fh{k:Nat}(h:Nat.blt k 1000000=true):pin k=false:=by
 cases hb:pin k with
 |false=>rfl
 |true=>exact absurd rfl (px h hb)
theorem AV{k:Nat}{q:Ow}(hk:Nat.blt k 1000000=true)(hs:noS k sl=true)(hf:ow.all (fun p=>!Nat.beq p.1 k)=true):xo sl ow [] [(k,q)] ow (.own k):=
 ⟨fun _ hp=>(by cases hp),fun p hp=>⟨hp,fun _ hq=>(by cases hq)⟩,fun p hp=>(by
  rw[List.mem_singleton.1 hp]
  exact .inr ⟨Fh hk,vM hs,fun q hq=>⟨jc hf q hq,fun _ h=>(by rw[Fg hk]at h;cases h)⟩⟩),fun p hp hh=>(by
  rw[List.mem_singleton.1 hp,mu hk]at hh;cases hh),fun j hj=>⟨_,List.mem_singleton.2 rfl,by simpa[D.is]using hj⟩⟩
theorem Kg{g:FuncId}{x:Operand}{ts:Array TypeId}{d1:D}{k:Nat}{q:Ow}(hg:o.guard=none)(hdst:o.dst=some t)(ht:Nat.blt t n=true)(ho:o.op= .call {callee:=.value (.func g),args:=#[x],argTypes:=ts})(hx:S.op ⟨sl,ow⟩ x=d1)(hf:FnG P g [d1] [] (.own k) [(k,q)])(hk:Nat.blt k 1000000=true)(hs:noS k sl=true)(hfr:ow.all (fun p=>!Nat.beq p.1 k)=true)
  (h:aL P X0 n ops l K ⟨(t,.own k)::sl,(k,q)::ow⟩):aL P X0 n ops (o::l) K ⟨sl,ow⟩:=
 Jl (xs:=[x]) (os:=[]) (os':=[(k,q)]) ow hg hdst ht ho (by rw[←hx];rfl) hf (AV hk hs hfr) h
end
end DW
end
section
open Go.RowKit
namespace DW
theorem ar_ra{X:Nat→Prop}{w:World}{row:List Int}{v:Value}(h:AR X w (dZ row) v)(h0:row≠[]):∃b o c,v= .slice (some ⟨b,o,none⟩) row.length c∧row.length≤c∧RA w b o row:=by
 simp only[dZ,AR]at h
 obtain⟨a,c,rfl,h2,h3⟩:=h
 rw[List.length_map]at h2
 obtain⟨b,o,rfl,_,h4,h5⟩:=h3.resolve_left (by simpa using h0)
 refine⟨b,o,c,by rw[List.length_map],h2,h4,fun k z hz=>?_⟩
 obtain⟨u,k1,_,_,k4⟩:=ARs.at h5 (i:=k) (d:=.nm z) (by rw[List.getElem?_map,hz];rfl)
 simp only[AR]at k1
 obtain⟨x,rfl,hx⟩:=k1
 refine⟨x,?_,?_,hx⟩
 ·have:=k4 0 (.bool x.s) rfl
  simpa using this
 ·exact k4 1 (.slice x.a x.n x.cap) rfl
theorem oO{X:Nat→Prop}{w:World}{M:Mx.Mat}{v:Value}{n:Nat}(h:AR X w (dW M) v)(hr:Mx.Rc n M)(hn:0<n):MR w v n M:=by
 simp only[dW,AR]at h
 obtain⟨a,c,rfl,h2,h3⟩:=h
 rw[List.length_map]at h2
 refine⟨a,c,by rw[List.length_map],h2,hr,?_⟩
 rcases h3 with h3|⟨b,o,rfl,_,h4,h5⟩
 ·exact .inl (by simpa using h3)
 ·refine .inr ⟨b,o,rfl,h4,fun i hi=>?_⟩
  have hg:M[i]?=some (Mx.rw M i):=by unfold Mx.rw;rw[List.getD_eq_getElem?_getD,List.getElem?_eq_getElem hi];rfl
  obtain⟨u,k1,_,_,k4⟩:=ARs.at h5 (i:=i) (d:=dZ (Mx.rw M i)) (by rw[List.getElem?_map,hg];rfl)
  have hl:=hr.rw hi
  obtain⟨b',o',c',rfl,k5,k6⟩:=ar_ra k1 (fun e=>by rw[e]at hl;simp at hl;omega)
  have:=k4 0 _ rfl
  rw[hl]at this k5
  exact⟨some ⟨b',o',none⟩,c',by simpa using this,k5,AD.some _ _,.inr ⟨b',o',rfl,k6⟩⟩
theorem ro_ar{X:Nat→Prop}{w:World}{row:List Int}{g c B:Nat}(h:RO w g row)(hc:row.length≤c)(hg:B≤g)(hX:∀b,X b→b<B):AR X w (dZ row) (.slice (some ⟨g,0,none⟩) row.length c):=by
 have hra:=h.ra
 simp only[dZ,AR]
 refine⟨_,c,by rw[List.length_map],by rw[List.length_map];exact hc,.inr ⟨g,0,rfl,fun hx=>by have:=hX g hx;omega,hra.lt,ARs.mk fun k d hd=>?_⟩⟩
 rw[List.getElem?_map]at hd
 obtain⟨z,hz,rfl⟩:=Option.map_eq_some_iff.1 hd
 obtain⟨x,h1,h2,h3⟩:=hra.c k z hz
 refine⟨.agg #[.bool x.s,.slice x.a x.n x.cap],by simp only[AR];exact⟨x,rfl,h3⟩,rfl,rfl,fun j u hj=>?_⟩
 match j,hj with
 |0,hj=>
  have:u= .bool x.s:=by simpa[Value.cells]using hj.symm
  rw[this];exact h1
 |1,hj=>
  have:u= .slice x.a x.n x.cap:=by simpa[Value.cells]using hj.symm
  rw[this];exact h2
 |j+2,hj=>simp[Value.cells]at hj
theorem vW{X:Nat→Prop}{w:World}{B gm n cap:Nat}{gs cs:Nat→Nat}{M:Mx.Mat}(h:MB w B gm M.length gs cs n M)(hc:M.length≤cap)(hX:∀b,X b→b<B):AR X w (dW M) (.slice (some ⟨gm,0,none⟩) M.length cap):=by
 simp only[dW,AR]
 refine⟨_,cap,by rw[List.length_map],by rw[List.length_map];exact hc,.inr ⟨gm,0,rfl,fun hx=>by have:=hX gm hx;have:=h.b;omega,h.lt,ARs.mk fun i d hd=>?_⟩⟩
 rw[List.getElem?_map]at hd
 obtain⟨row,hrow,rfl⟩:=Option.map_eq_some_iff.1 hd
 have hi:=(List.getElem?_eq_some_iff.1 hrow).1
 have hl:row.length=n:=h.rc row (List.mem_of_getElem? hrow)
 obtain⟨b,h1,h2,⟨g0,o0,h3⟩,h4⟩:=h.hc i hi
 refine⟨.slice b n (cs i),?_,rfl,rfl,fun j u hj=>?_⟩
 ·by_cases hn:0<n
  ·obtain⟨rfl,h5,_,h7⟩:=h4 hn
   rw[Mx.eV hrow]at h7
   have:=ro_ar (X:=X) h7 (by rw[hl];exact h2) h5 hX
   rwa[hl]at this
  ·have h0:row=[]:=List.eq_nil_of_length_eq_zero (by omega)
   subst h0
   simp only[dZ,List.map_nil,AR]
   exact⟨b,cs i,by simp at hl;rw[←hl];rfl,Nat.zero_le _,.inl trivial⟩
 ·match j,hj with
  |0,hj=>
   have:u= .slice b n (cs i):=by simpa[Value.cells]using hj.symm
   rw[this]
   simpa using h1
  |j+1,hj=>simp[Value.cells]at hj
abbrev jH(dim:Int)(M:Mx.Mat)(d:Int):D:=.st [zI dim,dW M,.nm d]
theorem ast1{X:Nat→Prop}{w:World}{d:D}{u:Value}{l:List D}{cs:List Value}(h:AR X w d u)(hf:d.fits=true)(k:ASt X w l cs):ASt X w (d::l) (u.cells.toList++cs):=by
 simp only[ASt];exact⟨u,cs,rfl,h,hf,k⟩
theorem ym(dim:Int)(M:Mx.Mat)(n e:Nat)(d:Int)(hm:M.length≤1000)(hn0:0<n)(hn:n≤1000)(he:6≤e)(hf:2*(e*11^n)≤6000000000000)(hR:Mx.Rc n M)(hb:Mx.Bd (2^e) M)(fd:Fit d):Fn Tryz.prog 103 [zI dim,dW M,.nm d] (jH dim (nR n M d) (d/nG n M d)):=by
 refine⟨enters_of Tryz.func103 aa rfl,fun X w vs hX hv=>?_⟩
 simp only[ATp]at hv
 obtain⟨v1,r1,e1,h1,v2,r2,e2,h2,v3,r3,e3,h3,rfl⟩:=hv
 simp only[zI,AR]at h1
 obtain⟨rfl,_⟩:=h1
 have hm2:=oO h2 hR hn0
 simp only[AR]at h3
 obtain⟨K,rfl,hK⟩:=h3
 subst e3;subst e2
 have:vs= #[.int .i64 dim,v2,.agg #[.bool K.s,.slice K.a K.n K.cap]]:=Array.toList_inj.1 e1
 subst this
 refine(Cr dim M n e v2 K d hm hn he hf hb fd w hm2 hK).mono fun e w' ⟨⟨gm,gs,cs,cap,y,h5,h6,h7,h8⟩,h9⟩=>⟨_,h5,?_,h9⟩
 simp only[jH,AR]
 refine⟨_,rfl,?_⟩
 exact ast1 (u:=.int .i64 dim) (tu dim) rfl (ast1 (u:=.slice (some ⟨gm,0,none⟩) (nR n M d).length cap) (vW h7 h6 (fun b hb=>(hX b hb).1)) rfl (ast1 (u:=.agg #[.bool y.s,.slice y.a y.n y.cap]) (by simp only[AR];exact⟨y,rfl,h8⟩) rfl (by simp only[ASt])))
def smM(L:Nat)(M:Mx.Mat):D:=if M.all (fun l=>l.all (inb (L:Int)))=true then .tp [dM M,.sc (.bool true)]else .tp [dM [],.sc (.bool false)]
theorem yw{L:Nat}{M:Mx.Mat}:InL L M↔M.all (fun l=>l.all (inb (L:Int)))=true:=by
 constructor
 ·intro h
  refine List.all_eq_true.2 fun l hl=>List.all_eq_true.2 fun z hz=>dB.2 ?_
  have:=kH (B:=L) h hl hz
  omega
 ·intro h i j
  rcases at_mem M i j with h1|⟨r,hr,hz⟩
  ·rw[h1];exact Nat.zero_le _
  ·have:=dB.1 (List.all_eq_true.1 (List.all_eq_true.1 h r hr) _ hz)
   omega
theorem EY(M:Mx.Mat)(n L:Nat)(hm:M.length≤1000000)(hn0:0<n)(hn:n≤1000000)(hL:L≤1000000000000000000)(hR:Mx.Rc n M)(hf:∀i j,Fit (Mx.at' M i j)):Fn Tryz.prog 74 [dW M,zI L] (smM L M):=by
 refine⟨enters_of Tryz.func74 aa rfl,fun X w vs hX hv=>?_⟩
 simp only[ATp]at hv
 obtain⟨v1,r1,e1,h1,v2,r2,e2,h2,rfl⟩:=hv
 simp only[zI,AR]at h2
 obtain⟨rfl,_⟩:=h2
 subst e2
 have:vs= #[v1,.int .i64 ((L:Int))]:=Array.toList_inj.1 e1
 subst this
 refine(Ao M n L v1 hm hn hL hf w (oO h1 hR hn0)).mono fun e w' h=>?_
 obtain⟨h3,h4⟩:=h
 unfold smM
 by_cases hi:InL L M
 ·rw[if_pos hi]at h3
  rw[if_pos (yw.1 hi)]
  obtain⟨v,rfl,hz⟩:=h3
  exact⟨_,rfl,wY (Hj hz (fun b hb=>(hX b hb).1)) zb79,h4⟩
 ·rw[if_neg hi]at h3
  rw[if_neg (fun h=>hi (yw.2 h))]
  exact⟨_,h3,wY yS zb79,h4⟩
theorem Fk(z:Int)(fz:Fit z):Fn Tryz.prog 120 [.nm z] (.tp [zI (smv z),.sc (.bool (decide (I64 z)))]):=by
 refine⟨enters_of Tryz.func120 aa rfl,fun X w vs hX hv=>?_⟩
 simp only[ATp,AR]at hv
 obtain⟨v,r,e,⟨x,rfl,hx⟩,rfl⟩:=hv
 have:vs= #[.agg #[.bool x.s,.slice x.a x.n x.cap]]:=Array.toList_inj.1 e
 subst this
 exact(nX x z fz w hx.ip).mono fun e w' ⟨h1,h2⟩=>⟨_,h1,wY (tu _) zb79,h2⟩
end DW
end
section
open Go.RowKit
namespace DW
def szs:List Value→Nat
 |[]=>0
 |u::l=>u.cells.size+szs l
def fls:List Value→List Value
 |[]=>[]
 |u::l=>u.cells.toList++fls l
def sU(k:Nat):List Value→List (Nat×Value)
 |[]=>[]
 |u::l=>(k,u)::sU (k+1) l
def o9(off:Nat):List Nat→List (Nat×Nat)
 |[]=>[]
 |s::l=>(off,s)::o9 (off+s) l
theorem wC(place:Nat→Option (Nat×Nat)):∀(us:List Value) (k:Nat) (done:List Value) (cells:Array Value),cells.toList.take done.length=done→cells.size=done.length+szs us→
  (∀i x,(o9 done.length (us.map (·.cells.size)))[i]?=some x→place (k+i)=some x)→Instr.fill place cells (sU k us)=some (done++fls us).toArray
 |[],k,done,cells,h1,h2,_=>by
  simp only[sU,Instr.fill,fls,List.append_nil]
  have:cells.toList.length=done.length:=by simpa[szs]using h2
  rw[List.take_of_length_le (by omega)]at h1
  rw[←h1]
 |u::us,k,done,cells,h1,h2,h3=>by
  have h4:place k=some (done.length,u.cells.size):=h3 0 _ rfl
  simp only[szs]at h2
  simp only[sU,Instr.fill,h4]
  rw[if_neg bF]
  have hf:=CI.wz u.cells.toList done.length cells bF
  rw[h1]at hf
  have hd:(done++u.cells.toList).length=done.length+u.cells.size:=by simp
  have ih:=wC place us (k+1) (done++u.cells.toList) (u.cells.toList.zipIdx.foldl (fun cs (x:Value×Nat)=>cs.setIfInBounds (done.length+x.2) x.1) cells) (by
   rw[hf,List.take_left' rfl]) (by
   have hl:=congrArg List.length hf
   simp only[Array.length_toList,List.length_append,List.length_drop]at hl
   rw[hd];omega) (fun i x hx=>by
   rw[hd]at hx
   have:=h3 (i+1) x (by simpa[o9]using hx)
   rwa[show k+(i+1)=k+1+i by omega]at this)
  rw[←Array.foldl_toList,Array.toList_zipIdx,ih]
  simp only[fls,List.append_assoc]
section
variable {P : Program} {s : S} {o : Oper} {d : D}
def z8(P:Program)(T:TypeId):Option (Nat×List (Nat×Nat)):=
 (P.info? T).bind fun it=>it.zero.bind fun z=>match P.underlying T with
  |some (.struct fs)=>(fs.toList.mapM (fun f=>(P.info? f.type).map fun i=>(f.offset,i.size))).map fun pl=>(z.cells.size,pl)
  |_=>none
theorem Di{T:TypeId}{us:List Value}(h:z8 P T=some (szs us,o9 0 (us.map (·.cells.size)))):P.built T (sU 0 us)=some (fls us).toArray:=by
 unfold z8 at h
 obtain⟨it,h1,h⟩:=Option.bind_eq_some_iff.1 h
 obtain⟨z,h2,h⟩:=Option.bind_eq_some_iff.1 h
 unfold Program.built
 rw[h1]
 cases hu:P.underlying T with
 |none=>rw[hu]at h;cases h
 |some dd=>
  rw[hu]at h
  cases dd<;>simp only[reduceCtorEq]at h
  next fs=>
  obtain⟨pl,h3,h4⟩:=Option.map_eq_some_iff.1 h
  simp only[Prod.mk.injEq]at h4
  simp only[h2,h3]
  have:=wC (pl.toArray[·]?) us 0 [] z.cells (by simp) (by simp[h4.1]) (fun i x hx=>by
   rw[Nat.zero_add]
   simpa[h4.2]using hx)
  simpa using this
theorem yR{X:Nat→Prop}{f:Nat→Value}{w:World}:∀{ds:List D} {us:List Value},us.length=ds.length→(∀(i:Nat) (d:D) (u:Value),ds[i]?=some d→us[i]?=some u→SR X f w d u∧d.fits=true)→ASt X w ds (fls us)
 |[],[],_,_=>by simp only[ASt,fls]
 |[],_::_,h,_=>by simp at h
 |_::_,[],h,_=>by simp at h
 |d::ds,u::us,h,hh=>by
  obtain⟨h1,h2⟩:=hh 0 d u rfl rfl
  simp only[ASt,fls]
  refine⟨u,fls us,rfl,?_,h2,yR kT fun i e v he hv=>hh (i+1) e v mO (by simpa using hv)⟩
  cases d<;>first|exact h1|simp[D.fits]at h2
theorem FJ{T:TypeId}{xs:List Operand}{ds:List D}{ps:Array (Nat×Operand)}(ho:o.op= .build T ps)(hp:ps.toList.map (·.2)=xs)(hn:∀e:Operand→Value,ps.toList.map (fun p=>(p.1,e p.2))=sU 0 (xs.map e))(hx:xs.map s.op=ds)(hf:∀d∈ds,d.fits=true)
  (hs:z8 P T=some (D.wds ds,o9 0 (ds.map D.wd))):aV P o s (.st ds):=fun X f a w base _ _ hh=>by
 have hop:∀x∈xs,x∈o.op.operands:=fun x hx'=>by
  rw[ho]
  rw[←hp]at hx'
  simpa[Op.operands]using hx'
 have hl:(xs.map a.eval).length=ds.length:=by rw[←hx];simp
 have hi:∀(i:Nat) (d:D) (u:Value),ds[i]?=some d→(xs.map a.eval)[i]?=some u→SR X f w d u∧d.fits=true:=fun i d u hd hu=>by
  rw[List.getElem?_map]at hu
  obtain⟨x,h1,rfl⟩:=Option.map_eq_some_iff.1 hu
  rw[←hx,List.getElem?_map,h1]at hd
  cases hd
  exact⟨hh x (hop x (List.mem_of_getElem? h1)),hf _ (by rw[←hx];exact List.mem_map.2 ⟨x,List.mem_of_getElem? h1,rfl⟩)⟩
 have hw':∀(ds:List D) (us:List Value),us.length=ds.length→(∀(i:Nat) (d:D) (u:Value),ds[i]?=some d→us[i]?=some u→SR X f w d u∧d.fits=true)→us.map (·.cells.size)=ds.map D.wd:=fun ds=>by
  induction ds with
  |nil=>intro us h _;rw[List.eq_nil_of_length_eq_zero h];rfl
  |cons d ds ih=>
   intro us h hh
   cases us with
   |nil=>simp at h
   |cons u us=>
    obtain⟨k1,k2⟩:=hh 0 d u rfl rfl
    simp only[List.map_cons]
    rw[ih us kT fun i e v he hv=>hh (i+1) e v mO (by simpa using hv),AR.size (X:=X) (w:=w) d u k2 (by cases d<;>first|exact k1|simp[D.fits]at k2)]
 have hw:=hw' ds (xs.map a.eval) hl hi
 have hz:∀us:List Value,szs us=(us.map (·.cells.size)).sum:=fun us=>by
  induction us with
  |nil=>rfl
  |cons u us ih=>simp only[szs,List.map_cons,List.sum_cons,ih]
 have hz2:∀ds:List D,D.wds ds=(ds.map D.wd).sum:=fun ds=>by
  induction ds with
  |nil=>rfl
  |cons u us ih=>simp only[D.wds,List.map_cons,List.sum_cons,ih]
 have hb:=Di (P:=P) (T:=T) (us:=xs.map a.eval) (by rw[hz,hw,←hz2];exact hs)
 refine bU (u:=.agg (fls (xs.map a.eval)).toArray) ?_ (by
  simp only[SR,AR]
  exact⟨_,rfl,by simpa using yR hl hi⟩)
 unfold execOp;rw[ho]
 have:=run_build (P:=P) w T (ps.map fun p=>(p.1,a.eval p.2)) _ (by
  have:=hn a.eval
  simp only[Array.toList_map]
  rw[this];exact hb)
 simp only[Sem.run_bind,this];rfl
theorem FL{T:TypeId}{x y z:Operand}{d1 d2 d3:D}{w1 w2 w3:Nat}(ho:o.op= .build T #[(0,x),(1,y),(2,z)])(hx:s.op x=d1)(hy:s.op y=d2)(hz:s.op z=d3)(h1:(d1.fits,d1.wd)=(true,w1))(h2:(d2.fits,d2.wd)=(true,w2))(h3:(d3.fits,d3.wd)=(true,w3))(hs:z8 P T=some (w1+(w2+(w3+0)),[(0,w1),(0+w1,w2),(0+w1+w2,w3)])):aV P o s (.st [d1,d2,d3]):=by
 simp only[Prod.mk.injEq]at h1 h2 h3
 refine FJ (xs:=[x,y,z]) ho rfl (fun _=>rfl) (by rw[←hx,←hy,←hz];rfl) (fun d hd=>?_) ?_
 ·rcases List.mem_cons.1 hd with e|hd
  ·rw[e];exact h1.1
  ·rcases List.mem_cons.1 hd with e|hd
   ·rw[e];exact h2.1
   ·rw[List.mem_singleton.1 hd];exact h3.1
 ·simp only[D.wds,List.map_cons,List.map_nil,o9,h1.2,h2.2,h3.2];exact hs
end
end DW
end
section
open Go.RowKit
namespace DW
abbrev dL(dim:Int)(m:Mx.Mat)(den:Int):D:=.st [zI dim,dM m,zI den]
theorem Dp{X:Nat→Prop}{w:World}{a b:D}{v:Value}(h:AR X w (.st [a,.sc (.slice none 0 0),b]) v):AR X w (.st [a,dM [],b]) v:=by
 simp only[AR,ASt]at h⊢
 obtain⟨cs,e,u,r,h1,h2,h3,u2,r2,h4,h5,h6,h7⟩:=h
 refine⟨cs,e,u,r,h1,h2,h3,u2,r2,h4,?_,rfl,h7⟩
 rw[h5.1]
 exact⟨none,0,rfl,Nat.le_refl _,.inl rfl⟩
theorem bs{X:Nat→Prop}{w:World}{a b:D}{v:Value}(h:AR X w (.pt (.st [a,.sc (.slice none 0 0),b])) v):AR X w (.pt (.st [a,dM [],b])) v:=by
 simp only[AR]at h⊢
 obtain⟨bl,o,u,h1,h2,h3,h4,h5⟩:=h
 refine⟨bl,o,u,h1,h2,h3,?_,h5⟩
 have:=Dp (X:=X) (w:=w) (a:=a) (b:=b) (v:=u) (by simp only[AR];exact h4)
 simpa only[AR]using this
set_option maxRecDepth 20000
set_option maxHeartbeats 2000000
theorem GM(m:List (List Int))(n:Nat)(hm:m.length≤1000000)(hn:n≤1000000)(hr:Mx.Rc n m)(hb:∀l∈m,∀z∈l,I64 z):Fn Tryz.prog 72 [dM m] (dW m):=by
 refine⟨enters_of Tryz.func72 aa rfl,fun X w vs hX hv=>?_⟩
 simp only[ATp]at hv
 obtain⟨v,rest,e,h1,rfl⟩:=hv
 have:vs= #[v]:=Array.toList_inj.1 e
 subst this
 exact(Hm m n v hm hn hr hb w (rT h1)).mono fun e w' ⟨⟨gm,gs,cs,cap,h5,h6,h7⟩,h9⟩=>⟨_,h5,vW h7 h6 (fun b hb=>(hX b hb).1),h9⟩
theorem uI(z:Int)(hz:I64 z):Fn Tryz.prog 124 [zI z] (.nm z):=by
 refine⟨enters_of Tryz.func124 aa rfl,fun X w vs hX hv=>?_⟩
 simp only[ATp,zI,AR]at hv
 obtain⟨v,rest,e,⟨rfl,_⟩,rfl⟩:=hv
 have:vs= #[.int .i64 z]:=Array.toList_inj.1 e
 subst this
 exact(oB z hz w).mono fun e w' ⟨⟨y,h1,h2⟩,h3⟩=>⟨_,h1,by simp only[AR];exact⟨y,rfl,h2⟩,h3⟩
theorem B0(dim den:Int)(m:Mx.Mat)(n:Nat)(hd:I64 den)(hm:m.length≤1000)(hn0:0<n)(hn:n≤10)(hr:Mx.Rc n m)(hb:Mx.Bd (2^50) m)(hi:∀l∈m,∀z∈l,I64 z):Fn Tryz.prog 87 [dL dim m den] (jH dim (nR n m den) (den/nG n m den)):=by
 have OF:=GM m n (by omega) (by omega) hr hi
 have OD:=uI den hd
 have NT:=ym dim m n 50 den hm hn0 (by omega) (by omega) (e50 hn) hr hb (bf (e:=64) (by unfold I64 at hd;omega) (by omega))
 refine aE Tryz.func87 aa rfl rfl rfl fun X0=>?_
 simp only[ay]
 (repeat(first|refine gk fun K hK=>?_|refine zs2 ?_));(refine gar ?_;refine ez ?_;(refine bL (k:=2) (z:=(.agg #[.int .i64 0,.slice none 0 0,.bool false,.slice none 0 0])) (d:=(.st [.sc (.int .i64 0),.sc (.slice none 0 0),.sc (.bool false),.sc (.slice none 0 0)])) rfl rfl rfl rfl rfl aa ae ae bN ae ae bj ?_);refine af ?_);(repeat(first|refine gk fun K hK=>?_|refine zs2 ?_));(refine kR ?_;refine oY ?_;refine bG ?_;refine oX ?_;refine bG ?_;refine dH ?_;refine uC ?_;refine bG ?_;refine dH ?_;refine mL ?_;refine ic ?_;refine jj ?_);(repeat(first|refine gk fun K hK=>?_|refine zs2 ?_))
 exact⟨_,ai (k:=2) aG aQ aP,.one (.cell 2 121) _ rfl (.cell 2 _ _ rfl rfl aa aa)⟩
def hnd(dim:Int)(M:Mx.Mat)(d:Int):D:=if M.all (fun l=>l.all (inb 1000000000000000))=true∧inb 1000000000000000 d=true then .tp [dL dim M d,zI 0]else .tp [dL 0 [] 0,zI 8]
theorem Fp(dim:Int)(M:Mx.Mat)(n:Nat)(d:Int)(hm:M.length≤1000000)(hn0:0<n)(hn:n≤1000000)(hR:Mx.Rc n M)(hf:∀i j,Fit (Mx.at' M i j))(fd:Fit d)(hd0:0≤d):Fn Tryz.prog 88 [jH dim M d] (hnd dim M d):=by
 have SM:=EY M n 1000000000000000 hm hn0 hn (by omega) hR hf
 have SD:=Fk d fd
 have hib:inb 1000000000000000 d=decide (d≤1000000000000000):=by
  by_cases h:d≤1000000000000000
  ·rw[decide_eq_true h];exact dB.2 ⟨by omega,h⟩
  ·rw[decide_eq_false h]
   cases hb:inb 1000000000000000 d with
   |false=>rfl
   |true=>exact absurd (dB.1 hb).2 h
 unfold smM at SM
 by_cases h1:M.all (fun l=>l.all (inb ((1000000000000000:Nat):Int)))=true
 ·rw[if_pos h1]at SM
  by_cases h2:I64 d
  ·rw[oF h2,nW h2]at SD
   by_cases h3:d≤1000000000000000
   ·have EC:hnd dim M d= .tp [dL dim M d,zI 0]:=if_pos ⟨h1,by rw[hib];exact decide_eq_true h3⟩
    have hd3:decide (d>1000000000000000)=false:=decide_eq_false (by omega)
    refine aE Tryz.func88 aa rfl rfl rfl fun X0=>?_
    simp only[ay]
    (repeat(first|refine gk fun K hK=>?_|refine zs2 ?_));refine ux ?_;(repeat(first|refine gk fun K hK=>?_|refine zs2 ?_));refine uw ?_;(repeat(first|refine gk fun K hK=>?_|refine zs2 ?_));refine uv ?_;(repeat(first|refine gk fun K hK=>?_|refine zs2 ?_));refine uu ?_;(repeat(first|refine gk fun K hK=>?_|refine zs2 ?_))
    refine au ?_
    (repeat(first|refine gk fun K hK=>?_|refine zs2 ?_));(refine gar ?_;refine ew ?_;refine aK ?_;refine zs4 ?_;refine zs4 ?_;refine GB ?_;refine cv ?_;refine gg ?_;refine af ?_);(repeat(first|refine gk fun K hK=>?_|refine zs2 ?_))
    rw[EC]
    exact⟨_,ai (k:=2) aG aQ aP,.two (.cell 2 48) (.tmp 3) _ _ rfl (.cell 2 _ _ rfl rfl aa aa) (.tmp 3 rfl)⟩
   ·have EC:hnd dim M d= .tp [dL 0 [] 0,zI 8]:=if_neg (fun h=>by rw[hib]at h;exact h3 (of_decide_eq_true h.2))
    have hd3:decide (d>1000000000000000)=true:=decide_eq_true (by omega)
    refine aE Tryz.func88 aa rfl rfl rfl fun X0=>?_
    simp only[ay]
    (repeat(first|refine gk fun K hK=>?_|refine zs2 ?_));refine ux ?_;(repeat(first|refine gk fun K hK=>?_|refine zs2 ?_));refine uw ?_;(repeat(first|refine gk fun K hK=>?_|refine zs2 ?_));refine uv ?_;(repeat(first|refine gk fun K hK=>?_|refine zs2 ?_));refine uu ?_;(repeat(first|refine gk fun K hK=>?_|refine zs2 ?_))
    refine ao ?_
    (repeat(first|refine gk fun K hK=>?_|refine zs2 ?_));refine dp ?_;(repeat(first|refine gk fun K hK=>?_|refine zs2 ?_))
    rw[EC]
    exact⟨_,Sh.trans (ai (k:=2) aG aQ aP) (cq (t:=2) (d:=.pt (.st [_,.sc (.slice none 0 0),_])) (d':=.pt (.st [_,dM [],_])) ae rfl rfl fun X w v h=>bs h),.two (.cell 2 48) (.tmp 3) _ _ rfl (.cell 2 _ _ rfl rfl aa aa) (.tmp 3 rfl)⟩
  ·rw[mD h2]at SD
   have EC:hnd dim M d= .tp [dL 0 [] 0,zI 8]:=if_neg (fun h=>by rw[hib]at h;have:=of_decide_eq_true h.2;unfold I64 at h2;omega)
   refine aE Tryz.func88 aa rfl rfl rfl fun X0=>?_
   simp only[ay]
   (repeat(first|refine gk fun K hK=>?_|refine zs2 ?_));refine ux ?_;(repeat(first|refine gk fun K hK=>?_|refine zs2 ?_));refine uw ?_;(repeat(first|refine gk fun K hK=>?_|refine zs2 ?_));refine uv ?_;(repeat(first|refine gk fun K hK=>?_|refine zs2 ?_));refine uu ?_;(repeat(first|refine gk fun K hK=>?_|refine zs2 ?_))
   refine ao ?_
   (repeat(first|refine gk fun K hK=>?_|refine zs2 ?_));refine dp ?_;(repeat(first|refine gk fun K hK=>?_|refine zs2 ?_))
   rw[EC]
   exact⟨_,Sh.trans (ai (k:=2) aG aQ aP) (cq (t:=2) (d:=.pt (.st [_,.sc (.slice none 0 0),_])) (d':=.pt (.st [_,dM [],_])) ae rfl rfl fun X w v h=>bs h),.two (.cell 2 48) (.tmp 3) _ _ rfl (.cell 2 _ _ rfl rfl aa aa) (.tmp 3 rfl)⟩
 ·rw[if_neg h1]at SM
  have EC:hnd dim M d= .tp [dL 0 [] 0,zI 8]:=if_neg (fun h=>h1 h.1)
  refine aE Tryz.func88 aa rfl rfl rfl fun X0=>?_
  simp only[ay]
  (repeat(first|refine gk fun K hK=>?_|refine zs2 ?_));refine ux ?_;(repeat(first|refine gk fun K hK=>?_|refine zs2 ?_));refine uw ?_;(repeat(first|refine gk fun K hK=>?_|refine zs2 ?_));refine uv ?_;(repeat(first|refine gk fun K hK=>?_|refine zs2 ?_));refine uu ?_;(repeat(first|refine gk fun K hK=>?_|refine zs2 ?_))
  refine ao ?_
  (repeat(first|refine gk fun K hK=>?_|refine zs2 ?_));refine dp ?_;(repeat(first|refine gk fun K hK=>?_|refine zs2 ?_))
  rw[EC]
  exact⟨_,Sh.trans (ai (k:=2) aG aQ aP) (cq (t:=2) (d:=.pt (.st [_,.sc (.slice none 0 0),_])) (d':=.pt (.st [_,dM [],_])) ae rfl rfl fun X w v h=>bs h),.two (.cell 2 48) (.tmp 3) _ _ rfl (.cell 2 _ _ rfl rfl aa aa) (.tmp 3 rfl)⟩
end DW
end
section
open Go.ChangeShapes Go.WideShapes Go.ChangeAt Go.RowKit Go.Joins Go.Deep
theorem DW.ar_dL{X:Nat→Prop}{w:World}{dim den:Int}{m:Mx.Mat}{u:Value}(h:DW.AR X w (DW.dM m) u):DW.AR X w (DW.dL dim m den) (.agg #[.int .i64 dim,u,.int .i64 den]):=by
 simp only[DW.dM,DW.AR]at h
 simp only[DW.dL,DW.AR,DW.ASt]
 have h2:=h
 obtain⟨a,c,rfl,_⟩:=h2
 exact⟨_,rfl,.int .i64 dim,_,rfl,⟨rfl,rfl⟩,rfl,_,_,rfl,h,rfl,.int .i64 den,[],rfl,⟨rfl,rfl⟩,rfl,rfl⟩
set_option maxRecDepth 100000 in
theorem ES{H:Type}{enc:TypeId×Value→H}{w:World}{base b0:Nat}{spare:Nat→Bool}{held:Bool}{r:Reach}{v:Value}{d:DataW H}{p:List MemPlace}
  (hv:Value.okWide Tryz.prog w r b0 48 v) (h:DataW.Trod enc Tryz.prog w base spare held 48 v d p):∃(dim den:Int) (m:List (List Int)),I64 dim∧I64 den∧DW.AR (fun _=>False) w (DW.dL dim m den) v:=by
 obtain⟨v0,v1,v2,y0,y1,y2,n,rfl,_,_,g0,g1,g2⟩:=open_agg3 Tryz.underlying48 aa aa hv h
 obtain⟨a0,e0,_,w0⟩:=DataW.trod_int Tryz.underlying3 g0
 obtain⟨a2,e2,_,w2⟩:=DataW.trod_int Tryz.underlying3 g2
 simp at e0 e2
 subst e0 e2
 obtain⟨m,hm⟩:=Cu g1
 exact⟨a0,a2,m,bounds_i64 w0,bounds_i64 w2,DW.ar_dL hm⟩
end
section
open Go.RowKit
namespace DW
section
variable {P : Program} {X0 : Nat→Prop} {n : Nat} {Q : Exit→S→Prop} {s : S} {sl : List (Nat × D)} {ow : List (Nat × Ow)} {o : Oper} {ops : Array Oper} {l : List Oper} {K : S→Prop} {t : Nat} {d : D}
theorem vm{X:Nat→Prop}{f:Nat→Value}{w:World}:SR X f w (.tp []) undef:=by
 simp only[SR,AR,ATp]
 exact⟨#[],rfl,rfl⟩
theorem DS{X:Nat→Prop}{f:Nat→Value}{w:World}{v:Value}(h:SR X f w (.tp []) v):v=undef:=by
 simp only[SR,AR,ATp]at h
 obtain⟨vs,rfl,h⟩:=h
 have:vs= #[]:=Array.toList_inj.1 h
 rw[this];rfl
theorem zZ{a:Act}{j u:Nat}{c:Bool}(hg:o.guard=some (j,c))(hj:(ops[j]?).bind (·.dst)=some u)(h:a.tmps.getD u undef=undef):Region.wanted o (yielded ops a.tmps)=false:=by
 unfold Region.wanted
 rw[hg]
 simp only
 unfold yielded
 rw[hj]
 simp only[Option.bind_some]
 rw[Array.getD_eq_getD_getElem?]at h
 cases h6:a.tmps[u]? with
 |none=>rfl
 |some v=>
  rw[h6]at h
  simp only[Option.getD_some]at h
  subst h
  rfl
theorem aLs0{j u:Nat}{c:Bool}(hg:o.guard=some (j,c))(hdst:o.dst=some t)(ht:Nat.blt t n=true)(hj:(ops[j]?).bind (·.dst)=some u)(hc:look sl u= .sc (.bool (!c)))(h:aL P X0 n ops l K ⟨(t,.tp [])::sl,ow⟩):aL P X0 n ops (o::l) K ⟨sl,ow⟩:=fun w0 f a w Q hd hq=>by
 have ht':bC n o=true:=by unfold bC;rw[hdst];simpa[Nat.blt_eq]using ht
 have h':aL P X0 n ops l K ((⟨sl,ow⟩:S).put o.dst (.tp [])):=by rw[hdst];exact h
 have hi:HI (XO X0 ⟨sl,ow⟩ f) n w f Own3.Fs.none [] ⟨sl,ow⟩ a:=⟨hd.sz,hd.df,fun t _=>hd.sl t,fun t u e=>by simp[cZ]at e⟩
 have hw:=hi.want (ops:=ops) (o:=o) (b:=false) (by simp only[ck,hg];exact⟨u,!c,hj,rfl,hc,by cases c<;>rfl⟩)
 refine wpList_step fun K' hK=>?_
 rw[if_neg (by rw[hw];simp)]
 exact hK _ _ (h' w0 f _ w Q (hd.put vm (dQ ht')) hq)
theorem A3{j u:Nat}{c:Bool}(hg:o.guard=some (j,c))(hdst:o.dst=some t)(ht:Nat.blt t n=true)(hj:(ops[j]?).bind (·.dst)=some u)(hc:look sl u= .tp [])(h:aL P X0 n ops l K ⟨(t,.tp [])::sl,ow⟩):aL P X0 n ops (o::l) K ⟨sl,ow⟩:=fun w0 f a w Q hd hq=>by
 have ht':bC n o=true:=by unfold bC;rw[hdst];simpa[Nat.blt_eq]using ht
 have h':aL P X0 n ops l K ((⟨sl,ow⟩:S).put o.dst (.tp [])):=by rw[hdst];exact h
 have h1:=hd.sl u
 rw[show(⟨sl,ow⟩:S).gt u= .tp []from hc]at h1
 have hw:=zZ (ops:=ops) hg hj (DS h1)
 refine wpList_step fun K' hK=>?_
 rw[if_neg (by rw[hw];simp)]
 exact hK _ _ (h' w0 f _ w Q (hd.put vm (dQ ht')) hq)
end
end DW
end
section
open Go.RowKit
namespace DW
theorem Ar{dim:Int}{m:List (List Int)}:cA dim (m.drop m.length)=0:=by rw[List.drop_length];rfl
theorem xx{dim:Int}{m:List (List Int)}{k:Nat}{l:List Int}(hl:m[k]?=some l)(h:(l.length:Int)≠dim):cA dim (m.drop k)=9:=by rw[jQ hl,if_neg h]
theorem Cy{dim:Int}{m:List (List Int)}{k:Nat}{l:List Int}{z:Int}(hl:m[k]?=some l)(h:(l.length:Int)=dim)(hz:z∈l)(hb:inb 1000000000000000 z=false):cA dim (m.drop k)=2:=by
 rw[jQ hl,if_pos h,if_pos]
 rw[List.any_eq_true]
 exact⟨z,hz,by unfold big;rw[hb];rfl⟩
theorem As{dim:Int}{m:List (List Int)}{k:Nat}{l:List Int}(hl:m[k]?=some l)(h:(l.length:Int)=dim)(hb:∀z∈l,inb 1000000000000000 z=true):cA dim (m.drop k)=cA dim (m.drop (k+1)):=by
 rw[jQ hl,if_pos h,if_neg]
 intro h4
 rw[List.any_eq_true]at h4
 obtain⟨z,hz,h6⟩:=h4
 unfold big at h6
 rw[hb z hz]at h6
 cases h6
set_option maxRecDepth 20000
set_option maxHeartbeats 2000000
theorem EG(dim den:Int)(m:List (List Int))(hm:m.length≤1000000000):Fn Tryz.prog 32 [dL dim m den] (zI (lck dim m den)):=by
 have W1:=dh dim 1 6
 have W2:=dh den 1 1000000000000000
 by_cases c1:1≤dim∧dim≤6
 ·rw[show(decide (1≤dim)&&decide (dim≤6))=true by rw[decide_eq_true c1.1,decide_eq_true c1.2];rfl]at W1
  by_cases c2:1≤den∧den≤1000000000000000
  ·rw[show(decide (1≤den)&&decide (den≤1000000000000000))=true by rw[decide_eq_true c2.1,decide_eq_true c2.2];rfl]at W2
   have E:lck dim m den=if 64<m.length then 8 else cA dim m:=if_neg (by omega)
   by_cases c3:64<m.length
   ·have EC:lck dim m den=8:=by rw[E,if_pos c3]
    have hd:decide ((m.length:Int)>64)=true:=decide_eq_true (by omega)
    refine aE Tryz.func32 aa rfl rfl rfl fun X0=>?_
    simp only[ay]
    (repeat(first|refine gk fun K hK=>?_|refine zs2 ?_));refine oU ?_;(repeat(first|refine gk fun K hK=>?_|refine zs2 ?_));refine ur ?_;(repeat(first|refine gk fun K hK=>?_|refine zs2 ?_))
    refine au ?_
    (repeat(first|refine gk fun K hK=>?_|refine zs2 ?_));(refine gar ?_;refine mJ ?_;refine aK ?_;refine zs5 ?_;refine zs7 ?_;refine af ?_);(repeat(first|refine gk fun K hK=>?_|refine zs2 ?_))
    refine ao ?_
    (repeat(first|refine gk fun K hK=>?_|refine zs2 ?_));refine aS ?_;(repeat(first|refine gk fun K hK=>?_|refine zs2 ?_))
    rw[EC]
    exact⟨_,Sh.refl,.one (.tmp 2) _ rfl (.tmp 2 rfl)⟩
   ·have EC:lck dim m den=cA dim m:=by rw[E,if_neg c3]
    have hd:decide ((m.length:Int)>64)=false:=decide_eq_false (by omega)
    obtain⟨n,rfl⟩:∃n:Nat,dim=n:=⟨dim.toNat,by omega⟩
    clear E
    rw[EC]
    refine aE Tryz.func32 aa rfl rfl rfl fun X0=>?_
    simp only[ay]
    (repeat(first|refine gk fun K hK=>?_|refine zs2 ?_));refine oU ?_;(repeat(first|refine gk fun K hK=>?_|refine zs2 ?_));refine ur ?_;(repeat(first|refine gk fun K hK=>?_|refine zs2 ?_))
    refine au ?_
    (repeat(first|refine gk fun K hK=>?_|refine zs2 ?_));(refine gar ?_;refine mJ ?_;refine aK ?_;refine zs5 ?_;refine zs7 ?_;refine af ?_);(repeat(first|refine gk fun K hK=>?_|refine zs2 ?_))
    refine au ?_
    (repeat(first|refine gk fun K hK=>?_|refine zs2 ?_));refine aS ?_;(repeat(first|refine gk fun K hK=>?_|refine zs2 ?_))
    (refine aw (ak (sl':=[(1,.pt (dL n m den)),(3,zI 0)]) (ow':=[]) az aB) ?_)
    refine aJ (fun r s=>∃k,k≤m.length∧r=m.length-k∧cA n m=cA n (m.drop k)∧s=⟨[(1,.pt (dL n m den)),(3,zI (k:Nat))],[]⟩) (m:=m.length) ⟨0,Nat.zero_le _,rfl,rfl,rfl⟩ fun r s hs=>?_
    obtain⟨k,hk,rfl,hsc,rfl⟩:=hs
    by_cases hkl:k<m.length
    ·obtain⟨l,hl⟩:=get_some hkl
     by_cases hln:l.length=n
     ·(repeat(first|refine gk fun K hK=>?_|refine zs2 ?_));refine ib ?_;(repeat(first|refine gk fun K hK=>?_|refine zs2 ?_))
      refine ao ?_
      (repeat(first|refine gk fun K hK=>?_|refine zs2 ?_));refine F7 ?_;(repeat(first|refine gk fun K hK=>?_|refine zs2 ?_))
      refine au ?_
      (repeat(first|refine gk fun K hK=>?_|refine zs2 ?_));refine aS ?_;(repeat(first|refine gk fun K hK=>?_|refine zs2 ?_))
      (refine aw (ak (sl':=[(1,.pt (dL n m den)),(3,zI (k:Nat)),(4,zI 0)]) (ow':=[]) az aB) ?_)
      refine aJ (fun r s=>∃j,j≤n∧r=n-j∧(∀z∈l.take j,inb 1000000000000000 z=true)∧s=⟨[(1,.pt (dL n m den)),(3,zI (k:Nat)),(4,zI (j:Nat))],[]⟩) (m:=n) ⟨0,Nat.zero_le _,rfl,fun z h=>absurd h (by simp),rfl⟩ fun r s hs=>?_
      obtain⟨j,hj,rfl,hin,rfl⟩:=hs
      by_cases hjl:j<n
      ·obtain⟨z,hz⟩:=get_some (m:=l) (k:=j) (by omega)
       have FT:=oE z
       by_cases hb:inb 1000000000000000 z=true
       ·rw[hb]at FT
        (repeat(first|refine gk fun K hK=>?_|refine zs2 ?_));refine qJ ?_;(repeat(first|refine gk fun K hK=>?_|refine zs2 ?_))
        refine ao ?_
        (repeat(first|refine gk fun K hK=>?_|refine zs2 ?_));refine F6 ?_;(repeat(first|refine gk fun K hK=>?_|refine zs2 ?_))
        refine au ?_
        (repeat(first|refine gk fun K hK=>?_|refine zs2 ?_));refine a9 ?_;(repeat(first|refine gk fun K hK=>?_|refine zs2 ?_))
        simp only[nx,inB]
        exact⟨n-(j+1),_,by omega,(ak (sl':=[(1,.pt (dL n m den)),(3,zI (k:Nat)),(4,zI ((j+1:Nat):Int))]) (ow':=[]) az aB),j+1,by omega,rfl,fun x hx=>by
         rw[bc hz,List.mem_append]at hx
         rcases hx with hx|hx
         ·exact hin x hx
         ·rw[List.mem_singleton.1 hx];exact hb,rfl⟩
       ·have hb':inb 1000000000000000 z=false:=by simpa using hb
        have EZ:=Cy (dim:=n) hl (by omega) (List.mem_of_getElem? hz) hb'
        rw[hb']at FT
        (repeat(first|refine gk fun K hK=>?_|refine zs2 ?_));refine qJ ?_;(repeat(first|refine gk fun K hK=>?_|refine zs2 ?_))
        refine ao ?_
        (repeat(first|refine gk fun K hK=>?_|refine zs2 ?_));refine F6 ?_;(repeat(first|refine gk fun K hK=>?_|refine zs2 ?_))
        refine ao ?_
        (repeat(first|refine gk fun K hK=>?_|refine zs2 ?_));refine aS ?_;(repeat(first|refine gk fun K hK=>?_|refine zs2 ?_))
        rw[hsc,EZ]
        exact⟨_,Sh.refl,.one (.tmp 2) _ rfl (.tmp 2 rfl)⟩
      ·obtain rfl:j=n:=by omega
       have hnx:=As (dim:=j) hl (by omega) (fun z hz=>hin z (by rw[List.take_of_length_le (by omega)];exact hz))
       (repeat(first|refine gk fun K hK=>?_|refine zs2 ?_));refine qJ ?_;(repeat(first|refine gk fun K hK=>?_|refine zs2 ?_))
       refine au ?_
       (repeat(first|refine gk fun K hK=>?_|refine zs2 ?_));refine a9 ?_;(repeat(first|refine gk fun K hK=>?_|refine zs2 ?_))
       simp only[nx,inB]
       exact⟨m.length-(k+1),_,by omega,(ak (sl':=[(1,.pt (dL j m den)),(3,zI ((k+1:Nat):Int))]) (ow':=[]) az aB),k+1,by omega,rfl,hsc.trans hnx,rfl⟩
     ·have EZ:=xx (dim:=n) hl (by omega)
      (repeat(first|refine gk fun K hK=>?_|refine zs2 ?_));refine ib ?_;(repeat(first|refine gk fun K hK=>?_|refine zs2 ?_))
      refine ao ?_
      (repeat(first|refine gk fun K hK=>?_|refine zs2 ?_));refine F7 ?_;(repeat(first|refine gk fun K hK=>?_|refine zs2 ?_))
      refine ao ?_
      (repeat(first|refine gk fun K hK=>?_|refine zs2 ?_));refine aS ?_;(repeat(first|refine gk fun K hK=>?_|refine zs2 ?_))
      rw[hsc,EZ]
      exact⟨_,Sh.refl,.one (.tmp 2) _ rfl (.tmp 2 rfl)⟩
    ·obtain rfl:k=m.length:=by omega
     rw[Ar]at hsc
     (repeat(first|refine gk fun K hK=>?_|refine zs2 ?_));refine ib ?_;(repeat(first|refine gk fun K hK=>?_|refine zs2 ?_))
     refine au ?_
     (repeat(first|refine gk fun K hK=>?_|refine zs2 ?_));refine aS ?_;(repeat(first|refine gk fun K hK=>?_|refine zs2 ?_))
     rw[hsc]
     exact⟨_,Sh.refl,.one (.tmp 2) _ rfl (.tmp 2 rfl)⟩
  ·rw[show(decide (1≤den)&&decide (den≤1000000000000000))=false by rw[Bool.and_eq_false_iff,decide_eq_false_iff_not,decide_eq_false_iff_not];omega]at W2
   have EC:lck dim m den=2:=if_pos (by omega)
   refine aE Tryz.func32 aa rfl rfl rfl fun X0=>?_
   simp only[ay]
   (repeat(first|refine gk fun K hK=>?_|refine zs2 ?_));refine oU ?_;(repeat(first|refine gk fun K hK=>?_|refine zs2 ?_));refine ur ?_;(repeat(first|refine gk fun K hK=>?_|refine zs2 ?_))
   refine ao ?_
   (repeat(first|refine gk fun K hK=>?_|refine zs2 ?_));refine aS ?_;(repeat(first|refine gk fun K hK=>?_|refine zs2 ?_))
   rw[EC]
   exact⟨_,Sh.refl,.one (.tmp 2) _ rfl (.tmp 2 rfl)⟩
 ·rw[show(decide (1≤dim)&&decide (dim≤6))=false by rw[Bool.and_eq_false_iff,decide_eq_false_iff_not,decide_eq_false_iff_not];omega]at W1
  have EC:lck dim m den=2:=if_pos (by omega)
  refine aE Tryz.func32 aa rfl rfl rfl fun X0=>?_
  simp only[ay]
  (repeat(first|refine gk fun K hK=>?_|refine zs2 ?_));refine oU ?_;(repeat(first|refine gk fun K hK=>?_|refine zs2 ?_));refine ur ?_;(repeat(first|refine gk fun K hK=>?_|refine zs2 ?_))
  refine ao ?_
  (repeat(first|refine gk fun K hK=>?_|refine zs2 ?_));refine aS ?_;(repeat(first|refine gk fun K hK=>?_|refine zs2 ?_))
  rw[EC]
  exact⟨_,Sh.refl,.one (.tmp 2) _ rfl (.tmp 2 rfl)⟩
end DW
end
end Go.Proofs.YtcgjmdpcplhanaaGreat
