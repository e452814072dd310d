/- Lemmas for the law: DB DC DE DF DG DH DI DJ DL DM DO DU DZ1 DY DZ0 DZ M5 M25 M26 F2 -/
import Derived.Test.YtepdigdijecgpaaGreatDel
import Derived.Test.YtepdigdijecgpaaGreatZa3
namespace Go.Proofs.YtepdigdijecgpaaGreat
section
abbrev ir:=@List.filter_cons_of_neg
abbrev gG:=@List.filter_cons_of_pos
abbrev tj:=@List.filter_filter
abbrev cN:=@List.map_append
abbrev pE:=@Bool.true_or
abbrev ll:=@Bool.or_true
abbrev th:=@Array.getElem?_setIfInBounds_ne
abbrev tg:=@List.mem_range
abbrev xD:=@Array.getElem?_replicate
abbrev xC:=@List.eraseIdx_eq_take_drop_succ
abbrev tf:=@List.length_eraseIdx_of_lt
abbrev gF:=@Int.natAbs_mul
abbrev xB:=@List.getElem?_eraseIdx
abbrev nk:=@List.map_take
theorem zb81{p:Prop}(h:p:=by simp only[];omega):p:=h
theorem zb26{p:Prop}(h:p:=by first|with_reducible rfl|exact tL aa|exact tL zb81|exact tL aY|(apply tL;omega)|(apply bA;(first|(apply ao;omega)|(apply aq;omega)|(simp<;>omega)))):p:=h
theorem mR{p:Prop}(h:p:=by(apply bF;(conv=>lhs;whnf);(first|done|exact rfl))):p:=h
theorem ba{p:Prop}(h:p:=by(repeat(first|exact II|refine Fh mR zb26 ?_))):p:=h
theorem zb21{p:Prop}(h:p:=by(first|(apply Ib;(exact rfl);(focus((apply aB;(conv=>lhs;whnf);(first|done|exact rfl))));(exact cI);(omega))|(apply dB;(exact rfl);(focus((apply aB;(conv=>lhs;whnf);(first|done|exact rfl))));(exact cI);(exact rfl)))):p:=h
theorem AX{p q:Prop}(h:q)(f:Wq q->p:=by(intro hW;(refine aL1 rfl rfl rfl zb21 ?_);exact hW.out)):p:=f ⟨h⟩
theorem zb12{p:Prop}(h:p:=by(first|(apply Ib;(exact rfl);(focus((apply aB;(conv=>lhs;whnf);(first|done|exact rfl))));(focus((apply aB;(conv=>lhs;whnf);(first|done|exact rfl))));(omega))|(apply dB;(exact rfl);(focus((apply aB;(conv=>lhs;whnf);(first|done|exact rfl))));(focus((apply aB;(conv=>lhs;whnf);(first|done|exact rfl))));(exact rfl)))):p:=h
theorem zs27{p q:Prop}(h:q)(f:Wq q->p:=by(intro hW;(refine aL1 rfl rfl rfl zb12 ?_);exact hW.out)):p:=f ⟨h⟩
theorem Hp{p q:Prop}(h:q)(f:Wq q->p:=by(intro hW;(refine gar ?_;refine zs4 ?_;refine aK ?_);exact hW.out)):p:=f ⟨h⟩
theorem zs14{p q:Prop}(h:q)(f:Wq q->p:=by(intro hW;((apply L9;(focus(first|(apply aB;(conv=>lhs;whnf);(first|done|exact rfl))|with_reducible exact cI|with_reducible exact jI|with_reducible exact nM|exact op_zero));(focus(first|with_reducible rfl|(apply aq;omega)|assumption|(simp<;>omega)))));exact hW.out)):p:=f ⟨h⟩
theorem cq{p q:Prop}(h:q)(f:Wq q->p:=by(intro hW;(refine zs1 ?_;refine zs14 ?_;refine zs1 ?_);exact hW.out)):p:=f ⟨h⟩
theorem nX{p q:Prop}(h:q)(f:Wq q->p:=by(intro hW;(refine zs1 ?_;refine Hp ?_;refine cq ?_);exact hW.out)):p:=f ⟨h⟩
theorem zb18{p:Prop}(h:p:=by(apply Co;(exact rfl);(focus((apply aB;(conv=>lhs;whnf);(first|done|exact rfl))));(focus((apply aB;(conv=>lhs;whnf);(first|done|exact rfl))));(kernel_rfl);(kernel_rfl);(focus(first|exact ns _|exact rfl));(focus(first|omega|(simp;omega))))):p:=h
theorem zs28{p q:Prop}(h:q)(f:Wq q->p:=by(intro hW;(refine aL1 rfl rfl rfl zb18 ?_);exact hW.out)):p:=f ⟨h⟩
theorem zb7{p:Prop}(h:p:=by(first|(apply oZ;(exact rfl);(focus((apply aB;(conv=>lhs;whnf);(first|done|exact rfl))));(exact cI);(kernel_rfl);(kernel_rfl);(omega);(focus((first|(apply yx;(focus assumption);(focus assumption))|(apply get_map;assumption)|(apply get_own;assumption)))))|(apply d_index_own;(exact rfl);(focus((apply aB;(conv=>lhs;whnf);(first|done|exact rfl))));(exact cI);(focus((repeat(first|exact bn|refine bq _ ?_))));(kernel_rfl);(kernel_rfl);(focus(first|omega|(simp;omega)));(focus(first|(apply offs_nat;assumption)|exact rfl))))):p:=h
theorem zs23{p q:Prop}(h:q)(f:Wq q->p:=by(intro hW;(refine aL1 rfl rfl rfl zb7 ?_);exact hW.out)):p:=f ⟨h⟩
theorem zb1{p:Prop}(h:p:=by(first|(apply EJ;(exact rfl);(focus((apply aB;(conv=>lhs;whnf);(first|done|exact rfl))));(exact rfl);(focus((first|exact mA|exact my|exact mz|exact wd_pt|exact rfl)));(exact rfl);(kernel_rfl);(kernel_rfl))|(apply uu;(exact rfl);(focus((apply aB;(conv=>lhs;whnf);(first|done|exact rfl))));(focus((repeat(first|exact bn|refine bq _ ?_))));(exact rp);(exact rfl);(exact rfl);(focus((first|exact mA|exact my|exact mz|exact wd_pt|exact rfl)));(exact rfl);(kernel_rfl);(kernel_rfl))|(apply d_load_ownO;(exact rfl);(focus((apply aB;(conv=>lhs;whnf);(first|done|exact rfl))));(focus((repeat(first|exact bn|refine bq _ ?_))));(exact rfl);(focus((first|exact rp|(apply get_map1;assumption)|assumption|exact rfl)));(exact rfl);(focus((first|exact mA|exact my|exact mz|exact wd_pt|exact rfl)));(exact rfl);(kernel_rfl);(kernel_rfl))|(apply d_load_row;(exact rfl);(focus((apply aB;(conv=>lhs;whnf);(first|done|exact rfl))));(focus((repeat(first|exact bn|refine bq _ ?_))));(exact rfl);(focus(first|(apply offs_nat;assumption)|exact rfl));(assumption);(kernel_rfl);(kernel_rfl)))):p:=h
theorem ff{p q:Prop}(h:q)(f:Wq q->p:=by(intro hW;(refine aL1 rfl rfl rfl zb1 ?_);exact hW.out)):p:=f ⟨h⟩
theorem zb4{p:Prop}(h:p:=by(first|(apply oZ;(exact rfl);(focus((apply aB;(conv=>lhs;whnf);(first|done|exact rfl))));(focus((apply aB;(conv=>lhs;whnf);(first|done|exact rfl))));(kernel_rfl);(kernel_rfl);(omega);(focus((first|(apply get_map;assumption)|(apply get_own;assumption)))))|(apply d_index_own;(exact rfl);(focus((apply aB;(conv=>lhs;whnf);(first|done|exact rfl))));(focus((apply aB;(conv=>lhs;whnf);(first|done|exact rfl))));(focus((repeat(first|exact bn|refine bq _ ?_))));(kernel_rfl);(kernel_rfl);(focus(first|omega|(simp;omega)));(focus(first|(apply offs_nat;assumption)|exact rfl))))):p:=h
theorem xh{p q:Prop}(h:q)(f:Wq q->p:=by(intro hW;(refine aL1 rfl rfl rfl zb4 ?_);exact hW.out)):p:=f ⟨h⟩
theorem Bh{p q:Prop}(h:q)(f:Wq q->p:=by(intro hW;(refine gar ?_;refine xh ?_;refine ff ?_;refine cw ?_);exact hW.out)):p:=f ⟨h⟩
theorem xv{p:Prop}(h:p:=by(apply d_lit;(exact rfl);(focus((apply aB;(conv=>lhs;whnf);(first|done|exact rfl))));(exact rfl);(focus((first|exact mA|exact my|exact mz|exact wd_pt|exact rfl)));(kernel_rfl);(kernel_rfl);(exact rfl);(exact rfl))):p:=h
theorem xg{p q:Prop}(h:q)(f:Wq q->p:=by(intro hW;(refine aL1 rfl rfl rfl xv ?_);exact hW.out)):p:=f ⟨h⟩
theorem zs10{p q:Prop}(h:q)(f:Wq q->p:=by(intro hW;((apply aW_no;(focus(first|(apply aB;(conv=>lhs;whnf);(first|done|exact rfl))|with_reducible exact cI|with_reducible exact jI|with_reducible exact nM|exact op_zero));(focus(first|with_reducible rfl|(apply ao;omega)|assumption|(simp<;>omega)))));exact hW.out)):p:=f ⟨h⟩
theorem bc{p q:Prop}(h:q)(f:Wq q->p:=by(intro hW;(refine zs1 ?_;refine zs10 ?_;refine zs1 ?_);exact hW.out)):p:=f ⟨h⟩
theorem kz{p:Prop}(h:p:=by simp[h2]):p:=h
theorem zb2{p:Prop}(h:p:=by(first|(apply LM;(exact rfl);(focus((apply aB;(conv=>lhs;whnf);(first|done|exact rfl))));(kernel_rfl))|(apply d_len_ownm;(exact rfl);(focus((apply aB;(conv=>lhs;whnf);(first|done|exact rfl))));(focus((repeat(first|exact bn|refine bq _ ?_))));(kernel_rfl))|(apply d_len;(exact rfl);(focus((apply aB;(conv=>lhs;whnf);(first|done|exact rfl))));(kernel_rfl))|(apply d_len_own;(exact rfl);(focus((apply aB;(conv=>lhs;whnf);(first|done|exact rfl))));(focus((repeat(first|exact bn|refine bq _ ?_))));(kernel_rfl))|(apply d_len0;(exact rfl);(focus((apply aB;(conv=>lhs;whnf);(first|done|exact rfl))));(kernel_rfl)))):p:=h
theorem gh{p q:Prop}(h:q)(f:Wq q->p:=by(intro hW;(refine aL1 rfl rfl rfl zb2 ?_);exact hW.out)):p:=f ⟨h⟩
theorem zb19{p:Prop}(h:p:=by(first|(apply dB;(exact rfl);(focus((apply aB;(conv=>lhs;whnf);(first|done|exact rfl))));(exact cI);(exact rfl))|(apply Ia;(exact rfl);(focus((apply aB;(conv=>lhs;whnf);(first|done|exact rfl))));(exact cI);(kernel_rfl)))):p:=h
theorem uG{p q:Prop}(h:q)(f:Wq q->p:=by(intro hW;(refine aL1 rfl rfl rfl zb19 ?_);exact hW.out)):p:=f ⟨h⟩
theorem qG{p q:Prop}(h:q)(f:Wq q->p:=by(intro hW;(refine bI ?_;refine gh ?_;refine uG ?_;refine aK ?_);exact hW.out)):p:=f ⟨h⟩
theorem dX{p:Prop}(h:p:=by(repeat(first|exact Fm|(apply DD;(exact rfl))|apply Fo|apply IU))):p:=h
theorem zs119{p q:Prop}(h:q)(f:Wq q->p:=by(intro hW;(refine bI ?_;refine cw ?_);exact hW.out)):p:=f ⟨h⟩
theorem dD{p q:Prop}(h:q)(f:Wq q->p:=by(intro hW;(refine zs119 ?_;refine zs1 ?_);exact hW.out)):p:=f ⟨h⟩
theorem kG{p q:Prop}(h:q)(f:Wq q->p:=by(intro hW;(refine gar ?_;refine AX ?_;refine zs3 ?_;refine aK ?_);exact hW.out)):p:=f ⟨h⟩
theorem je{p q:Prop}(h:q)(f:Wq q->p:=by(intro hW;(refine aK ?_;refine zs1 ?_);exact hW.out)):p:=f ⟨h⟩
theorem jU{p q:Prop}(h:q)(f:Wq q->p:=by(intro hW;(refine bc ?_;refine kG ?_;refine zs1 ?_);exact hW.out)):p:=f ⟨h⟩
theorem dV{p:Prop}(h:p:=by(repeat(first|exact drop_nil|apply Gm|(apply EB;(exact rfl))))):p:=h
theorem xi{p q:Prop}(h:q)(f:Wq q->p:=by(intro hW;(refine aL1 rfl rfl rfl (by(apply ur;(exact rfl);(exact cI))) ?_);exact hW.out)):p:=f ⟨h⟩
theorem zs115{p q:Prop}(h:q)(f:Wq q->p:=by(intro hW;(refine bI ?_;refine gh ?_;refine xi ?_;refine aK ?_);exact hW.out)):p:=f ⟨h⟩
theorem jO{p q:Prop}(h:q)(f:Wq q->p:=by(intro hW;(refine zs115 ?_;refine zs1 ?_);exact hW.out)):p:=f ⟨h⟩
theorem zs117{p q:Prop}(h:q)(f:Wq q->p:=by(intro hW;(refine bI ?_;refine xh ?_;refine ff ?_;refine zs8 ?_;refine cw ?_);exact hW.out)):p:=f ⟨h⟩
theorem jV{p q:Prop}(h:q)(f:Wq q->p:=by(intro hW;(refine nX ?_;refine zs117 ?_;refine zs1 ?_);exact hW.out)):p:=f ⟨h⟩
theorem lj{p q:Prop}(h:q)(f:Wq q->p:=by(intro hW;(refine aL1 rfl rfl rfl (by(apply lQ;(exact rfl);(exact cI))) ?_);exact hW.out)):p:=f ⟨h⟩
theorem zs120{p q:Prop}(h:q)(f:Wq q->p:=by(intro hW;(refine gar ?_;refine lj ?_;refine aK ?_);exact hW.out)):p:=f ⟨h⟩
theorem dQ{p q:Prop}(h:q)(f:Wq q->p:=by(intro hW;(refine zs120 ?_;refine zs1 ?_);exact hW.out)):p:=f ⟨h⟩
theorem db{p q:Prop}(h:q)(f:Wq q->p:=by(intro hW;(refine cq ?_;refine dQ ?_);exact hW.out)):p:=f ⟨h⟩
theorem zb11{p:Prop}(h:p:=by(first|(apply d_mul;(exact rfl);(focus((apply aB;(conv=>lhs;whnf);(first|done|exact rfl))));(focus((apply aB;(conv=>lhs;whnf);(first|done|exact rfl))));(omega))|(apply dB;(exact rfl);(focus((apply aB;(conv=>lhs;whnf);(first|done|exact rfl))));(focus((apply aB;(conv=>lhs;whnf);(first|done|exact rfl))));(exact rfl)))):p:=h
theorem zs25{p q:Prop}(h:q)(f:Wq q->p:=by(intro hW;(refine aL1 rfl rfl rfl zb11 ?_);exact hW.out)):p:=f ⟨h⟩
theorem rS{p:Prop}(h:p:=by simpa using he):p:=h
theorem cK{p:Prop}(h:p:=by(repeat(first|exact bn|refine bq _ ?_))):p:=h
theorem Bo{p:Prop}(h:p:=by(apply vC;(exact rfl);(focus((apply aB;(conv=>lhs;whnf);(first|done|exact rfl))));(exact rfl);(assumption);(exact rfl))):p:=h
theorem gg{p q:Prop}(h:q)(f:Wq q->p:=by(intro hW;(refine aL1 rfl rfl rfl Bo ?_);exact hW.out)):p:=f ⟨h⟩
theorem fE{p:Prop}(h:p:=by(repeat(first|exact iR|(apply gP;(exact rfl))|(apply iS;(exact rfl))))):p:=h
theorem zb49{p:Prop}(h:p:=by(repeat(first|exact IC|apply ID|(apply E8;(exact rfl))))):p:=h
theorem ei{p:Prop}(h:p:=by(apply aB;(conv=>lhs;whnf);(first|done|exact rfl))):p:=h
theorem uO{p:Prop}(h:p:=by first|exact rfl|(apply yu;intro _;exact rfl)|(apply nw_take;apply yu;intro _;exact rfl)|(apply Jj;apply yu;intro _;exact rfl)|(simp[D.nw];done)):p:=h
theorem xf{p q:Prop}(h:q)(f:Wq q->p:=by(intro hW;((refine uy rfl rfl rfl rfl ei ei cK av uO ak ak (by(simp only[br,eV,fQ];omega)) fE zb49 ?_));exact hW.out)):p:=f ⟨h⟩
theorem aZ{p:Prop}(h:p:=by(repeat(first|exact Fg|(apply Dl;(focus(repeat(first|exact bn|refine bq _ ?_))))))):p:=h
theorem cH{p q:Prop}(h:q)(f:Wq q->p:=by(intro hW;(refine zs1 ?_;refine dQ ?_);exact hW.out)):p:=f ⟨h⟩
theorem zb9{p:Prop}(h:p:=by(first|(apply dB;(exact rfl);(focus((apply aB;(conv=>lhs;whnf);(first|done|exact rfl))));(focus((apply aB;(conv=>lhs;whnf);(first|done|exact rfl))));(exact rfl))|(apply d_neb;(exact rfl);(focus((apply aB;(conv=>lhs;whnf);(first|done|exact rfl))));(focus((apply aB;(conv=>lhs;whnf);(first|done|exact rfl))));(kernel_rfl)))):p:=h
theorem nZ{p q:Prop}(h:q)(f:Wq q->p:=by(intro hW;(refine aL1 rfl rfl rfl zb9 ?_);exact hW.out)):p:=f ⟨h⟩
theorem dC{p q:Prop}(h:q)(f:Wq q->p:=by(intro hW;(refine cw ?_;refine zs1 ?_);exact hW.out)):p:=f ⟨h⟩
theorem gu{p q:Prop}(h:q)(f:Wq q->p:=by(intro hW;(refine zs1 ?_;refine Hp ?_;refine bc ?_);exact hW.out)):p:=f ⟨h⟩
theorem zs9{p q:Prop}(h:q)(f:Wq q->p:=by(intro hW;(refine aL1 rfl rfl rfl (by(apply lQ;(exact rfl);(exact nM))) ?_);exact hW.out)):p:=f ⟨h⟩
theorem lY{p q:Prop}(h:q)(f:Wq q->p:=by(intro hW;(refine gar ?_;refine zs9 ?_;refine aK ?_);exact hW.out)):p:=f ⟨h⟩
theorem jW{p q:Prop}(h:q)(f:Wq q->p:=by(intro hW;(refine zs1 ?_;refine lY ?_;refine zs1 ?_);exact hW.out)):p:=f ⟨h⟩
theorem zb0{p:Prop}(h:p:=by(first|(apply EJ;(exact rfl);(focus((apply aB;(conv=>lhs;whnf);(first|done|exact rfl))));(exact rfl);(focus((first|exact mA|exact my|exact mz|exact wd_pt|exact rfl)));(exact rfl);(kernel_rfl);(kernel_rfl))|(apply uu;(exact rfl);(focus((apply aB;(conv=>lhs;whnf);(first|done|exact rfl))));(focus((repeat(first|exact bn|refine bq _ ?_))));(exact rp);(exact rfl);(exact rfl);(focus((first|exact mA|exact my|exact mz|exact wd_pt|exact rfl)));(exact rfl);(kernel_rfl);(kernel_rfl))|(apply d_load_ownO;(exact rfl);(focus((apply aB;(conv=>lhs;whnf);(first|done|exact rfl))));(focus((repeat(first|exact bn|refine bq _ ?_))));(exact rfl);(focus((first|exact rp|(apply get_map1;assumption)|assumption|(apply yx;(focus assumption);(focus assumption))|exact rfl)));(exact rfl);(focus((first|exact mA|exact my|exact mz|exact wd_pt|exact rfl)));(exact rfl);(kernel_rfl);(kernel_rfl))|(apply d_load_row;(exact rfl);(focus((apply aB;(conv=>lhs;whnf);(first|done|exact rfl))));(focus((repeat(first|exact bn|refine bq _ ?_))));(exact rfl);(focus(first|(apply offs_nat;assumption)|exact rfl));(assumption);(kernel_rfl);(kernel_rfl)))):p:=h
theorem zs24{p q:Prop}(h:q)(f:Wq q->p:=by(intro hW;(refine aL1 rfl rfl rfl zb0 ?_);exact hW.out)):p:=f ⟨h⟩
theorem zs11{p q:Prop}(h:q)(f:Wq q->p:=by(intro hW;((refine uy rfl rfl rfl rfl ei ei cK av uO ak ak (by(simp only[br,fQ];omega)) fE zb49 ?_));exact hW.out)):p:=f ⟨h⟩
end
section
open Go.RowKit
namespace DW
inductive Mn where
 |val (d:D)
 |alloc (k:Nat) (q:Ow) (d:D)
 |store (k i:Nat) (d:D)
 |app (k:Nat) (nw:List (Nat×Ow)) (d:D)
structure FP where
 rc:List Nat
 rs:List Nat
 wc:List Nat
 al:List Nat
 me:List Nat
def cut(k:Nat)(l:List (Nat×Ow)):List (Nat×Ow):=l.filter fun p=>!Nat.beq p.1 k
def mAp(t:Option Tmp)(m:Mn)(s:S):S:=
 match m with
 | .val d=>s.put t d
 | .alloc k q d=>⟨(s.put t d).sl,(k,q)::s.ow⟩
 | .store k i d=>⟨s.sl,bP k i d s.ow⟩
 | .app k nw d=>⟨(s.put t d).sl,nw++cut k s.ow⟩
def Mn.dt:Mn->Option D
 | .val d=>some d
 | .alloc _ _ d=>some d
 | .store ..=>none
 | .app _ _ d=>some d
def stL(L:Nat->Bool):List (Option Tmp×Mn)->Nat->S->S
 |[],_,s=>s
 |(t,m)::l,i,s=>stL L l (i+1) (match L i with|true=>mAp t m s|false=>s)
structure Eqv(s s':S):Prop where
 gt:∀t,s.gt t=s'.gt t
 ow:s.ow.Perm s'.ow
theorem Eqv.refl(s:S):Eqv s s:=⟨fun _=>rfl,.refl _⟩
theorem Eqv.of{s s':S}(h:s=s'):Eqv s s':=h▸Eqv.refl s
theorem Eqv.symm{s s':S}(h:Eqv s s'):Eqv s' s:=⟨fun t=>(h.gt t).symm,h.ow.symm⟩
theorem Eqv.trans{a b c:S}(h:Eqv a b)(k:Eqv b c):Eqv a c:=⟨fun t=>(h.gt t).trans (k.gt t),h.ow.trans k.ow⟩
theorem yk(s:S)(t:Option Tmp)(d:D)(u:Nat):(s.put t d).gt u=if t=some u then d else s.gt u:=by
 cases t with
 |none=>rfl
 |some t=>
  show look ((t,d)::s.sl) u=_;simp only[look,ah];rfl
theorem gM(s:S)(t:Option Tmp)(d:D):(s.put t d).ow=s.ow:=by cases t<;>rfl
theorem jw(t:Option Tmp)(m:Mn)(s:S)(u:Nat):(mAp t m s).gt u=match m.dt with|some d=>if t=some u then d else s.gt u|none=>s.gt u:=by
 cases m with
 |val d=>exact yk s t d u
 |alloc k q d=>exact yk s t d u
 |store k i d=>rfl
 |app k nw d=>exact yk s t d u
theorem DP(k i:Nat)(d:D){l l':List (Nat×Ow)}(h:l.Perm l'):(bP k i d l).Perm (bP k i d l'):=by
 have e:∀l:List (Nat×Ow),bP k i d l=l.map fun p=>match Nat.beq p.1 k with|true=>(p.1,⟨p.2.T,p.2.wd,p.2.l.set i d⟩)|false=>p:=fun l=>by
  induction l with
  |nil=>rfl
  |cons p l ih=>
   obtain⟨j,q⟩:=p;simp only[bP,dw,ih];cases Nat.beq j k<;>rfl
 rw[e,e];exact h.map _
theorem vR{k k' i i':Nat}{d d':D}(h:k≠k'):∀l:List (Nat×Ow),bP k i d (bP k' i' d' l)=bP k' i' d' (bP k i d l)
 |[]=>rfl
 |(j,q)::l=>by
  have ih:=vR (i:=i) (i':=i') (d:=d) (d':=d') h l
  cases h1:Nat.beq j k with
  |true=>
   have h2:Nat.beq j k'=false:=by
    cases h2:Nat.beq j k' with
    |false=>rfl
    |true=>exact absurd ((cn h1).symm.trans (cn h2)) h
   simp only[bP,h1,h2,ih]
  |false=>
   cases h2:Nat.beq j k' with
   |true=>simp only[bP,h1,h2,ih]
   |false=>simp only[bP,h1,h2,ih]
theorem JA(t:Option Tmp)(m:Mn){s s':S}(h:Eqv s s'):Eqv (mAp t m s) (mAp t m s'):=by
 refine⟨fun u=>by rw[jw,jw,h.gt],?_⟩
 cases m with
 |val d=>simp only[mAp,gM];exact h.ow
 |alloc k q d=>exact h.ow.cons _
 |store k i d=>exact DP k i d h.ow
 |app k nw d=>exact(h.ow.filter _).append_left nw
theorem uX(L:Nat->Bool):∀(l:List (Option Tmp×Mn)) (i:Nat) {s s':S},Eqv s s'->Eqv (stL L l i s) (stL L l i s')
 |[],_,_,_,h=>h
 |(t,m)::l,i,s,s',h=>by
  simp only[stL]
  cases L i with
  |true=>exact uX L l (i+1) (JA t m h)
  |false=>exact uX L l (i+1) h
def comm(t t':Option Tmp)(m m':Mn):Prop:=
 (∀u,t=some u->t'=some u->False)/\
 (∀k q d k' i' d',m= .alloc k q d->m'= .store k' i' d'->k≠k')/\
 (∀k q d k' i' d',m'= .alloc k q d->m= .store k' i' d'->k≠k')/\
 (∀k i d k' i' d',m= .store k i d->m'= .store k' i' d'->k≠k')/\
 (∀k nw d k' q' d',m= .app k nw d->m'= .alloc k' q' d'->k≠k')/\
 (∀k nw d k' q' d',m'= .app k nw d->m= .alloc k' q' d'->k≠k')/\
 (∀k nw d k' i d',m= .app k nw d->m'= .store k' i d'->∀p∈nw,p.1≠k')/\
 (∀k nw d k' i d',m'= .app k nw d->m= .store k' i d'->∀p∈nw,p.1≠k')/\
 (∀k nw d k' nw' d',m= .app k nw d->m'= .app k' nw' d'->(∀p∈nw,p.1≠k')/\∀p∈nw',p.1≠k)
theorem pV{k k' i:Nat}{q:Ow}{d:D}(h:k≠k')(l:List (Nat×Ow)):bP k' i d ((k,q)::l)=(k,q)::bP k' i d l:=by
 simp only[bP]
 cases hb:Nat.beq k k' with
 |true=>exact absurd (cn hb) h
 |false=>rfl
theorem si(k i:Nat)(d:D):∀l l':List (Nat×Ow),bP k i d (l++l')=bP k i d l++bP k i d l'
 |[],_=>rfl
 |(x,q)::l,l'=>by
  have ih:=si k i d l l';simp only[qM,bP,ih];cases Nat.beq x k<;>rfl
theorem mD{k i:Nat}{d:D}:∀{l:List (Nat×Ow)},(∀p∈l,p.1≠k)->bP k i d l=l
 |[],_=>rfl
 |(x,q)::l,h=>by
  simp only[bP]
  cases h1:Nat.beq x k with
  |true=>exact absurd (cn h1) (h _ bn)
  |false=>rw[mD fun p hp=>h p (bq _ hp)]
theorem sQ(k j i:Nat)(d:D):∀l:List (Nat×Ow),cut k (bP j i d l)=bP j i d (cut k l)
 |[]=>rfl
 |(x,q)::l=>by
  have ih:=sQ k j i d l;unfold cut at ih⊢
  cases h1:Nat.beq x j with
  |true=>
   simp only[bP,h1]
   cases h2:Nat.beq x k with
   |true=>rw[ir kz,ir kz,ih]
   |false=>rw[gG kz,gG kz,ih];simp only[bP,h1]
  |false=>
   simp only[bP,h1]
   cases h2:Nat.beq x k with
   |true=>rw[ir kz,ir kz,ih]
   |false=>rw[gG kz,gG kz,ih];simp only[bP,h1]
theorem nP{x k:Nat}(h:x≠k):Nat.beq x k=false:=by
 cases hb:Nat.beq x k with
 |true=>exact absurd (cn hb) h
 |false=>rfl
theorem pe{k:Nat}{l:List (Nat×Ow)}(h:∀p∈l,p.1≠k):cut k l=l:=by
 unfold cut;rw[List.filter_eq_self];exact fun p hp=>by rw[nP (h p hp)];rfl
theorem Ai(k:Nat)(l l':List (Nat×Ow)):cut k (l++l')=cut k l++cut k l':=List.filter_append ..
theorem GD(k k':Nat)(l:List (Nat×Ow)):cut k (cut k' l)=cut k' (cut k l):=by
 unfold cut;rw[tj,tj];exact List.filter_congr fun p _=>Bool.and_comm ..
theorem Gb{t t':Option Tmp}{m m':Mn}(h:comm t t' m m')(s:S):Eqv (mAp t m (mAp t' m' s)) (mAp t' m' (mAp t m s)):=by
 obtain⟨h1,h2,h3,h4,h5,h6,h7,h8,h9⟩:=h;refine⟨fun u=>?_,?_⟩
 ·rw[jw,jw,jw,jw]
  cases m.dt with
  |none=>rfl
  |some d=>
   cases m'.dt with
   |none=>rfl
   |some d'=>
    simp only;by_cases e:t=some u
    ·rw[aj e,ai (fun e'=>h1 u e e'),aj e]
    ·rw[ai e,ai e]
 ·cases m with
  |val d=>
   cases m' with
   |val d'=>simp only[mAp,gM];exact .refl _
   |alloc k q d'=>simp only[mAp,gM];exact .refl _
   |store k i d'=>simp only[mAp,gM];exact .refl _
   |app k nw d'=>simp only[mAp,gM];exact .refl _
  |alloc k q d=>
   cases m' with
   |val d'=>simp only[mAp,gM];exact .refl _
   |alloc k' q' d'=>simp only[mAp];exact List.Perm.swap _ _ _
   |store k' i d'=>
    simp only[mAp];rw[pV (h2 _ _ _ _ _ _ rfl rfl)]
   |app k' nw d'=>
    simp only[mAp];have e:cut k' ((k,q)::s.ow)=(k,q)::cut k' s.ow:=by
     unfold cut;rw[gG (by rw[nP (Ne.symm (h6 _ _ _ _ _ _ rfl rfl))];rfl)]
    rw[e];exact List.perm_middle.symm
  |store k i d=>
   cases m' with
   |val d'=>simp only[mAp,gM];exact .refl _
   |alloc k' q' d'=>
    simp only[mAp];rw[pV (h3 _ _ _ _ _ _ rfl rfl)]
   |store k' i' d'=>
    simp only[mAp];rw[vR (h4 _ _ _ _ _ _ rfl rfl)]
   |app k' nw d'=>
    simp only[mAp];rw[si,mD (h8 _ _ _ _ _ _ rfl rfl),sQ]
  |app k nw d=>
   cases m' with
   |val d'=>simp only[mAp,gM];exact .refl _
   |alloc k' q' d'=>
    simp only[mAp];have e:cut k ((k',q')::s.ow)=(k',q')::cut k s.ow:=by
     unfold cut;rw[gG (by rw[nP (Ne.symm (h5 _ _ _ _ _ _ rfl rfl))];rfl)]
    rw[e];exact List.perm_middle
   |store k' i d'=>
    simp only[mAp];rw[si,mD (h7 _ _ _ _ _ _ rfl rfl),sQ]
   |app k' nw' d'=>
    simp only[mAp];obtain⟨a1,a2⟩:=h9 _ _ _ _ _ _ rfl rfl;rw[Ai,Ai,pe a1,pe a2,GD,<-fS,<-fS];exact List.perm_append_comm.append_right _
theorem sd{L:Nat->Bool}:∀(l:List (Option Tmp×Mn)) (i:Nat) (s:S),(∀j,i<=j->L j=false)->stL L l i s=s
 |[],_,_,_=>rfl
 |(t,m)::l,i,s,h=>by
  simp only[stL,h i (af _)];exact sd l (i+1) s fun j hj=>h j aa
theorem vP{L L':Nat->Bool}:∀(l:List (Option Tmp×Mn)) (i:Nat) (s:S),(∀j,i<=j->L j=L' j)->stL L l i s=stL L' l i s
 |[],_,_,_=>rfl
 |(t,m)::l,i,s,h=>by
  simp only[stL,h i (af _)];exact vP l (i+1) _ fun j hj=>h j aa
theorem tI{L:Nat->Bool}{t:Option Tmp}{m:Mn}:∀(l:List (Option Tmp×Mn)) (i:Nat) (s:S),(∀j t' m',l[j]?=some (t',m')->L (i+j)=true->comm t t' m m')->Eqv (mAp t m (stL L l i s)) (stL L l i (mAp t m s))
 |[],_,s,_=>Eqv.refl _
 |(t',m')::l,i,s,h=>by
  simp only[stL];have ih:=fun s=>tI (L:=L) (t:=t) (m:=m) l (i+1) s fun j t'' m'' hj hL=>h (j+1) t'' m'' (by simpa using hj) (by rw[show i+(j+1)=i+1+j by omega];exact hL)
  cases hL:L i with
  |false=>exact ih s
  |true=>exact(ih _).trans (uX L l (i+1) (Gb (h 0 t' m' rfl hL) s))
theorem xU{L L':Nat->Bool}{t:Option Tmp}{m:Mn}:∀(l:List (Option Tmp×Mn)) (i j:Nat) (s:S),i<=j->l[j-i]?=some (t,m)->L j=false->L' j=true->(∀x,x≠j->L' x=L x)->
  (∀x t' m',j<i+x->l[x]?=some (t',m')->L (i+x)=true->comm t t' m m')->Eqv (mAp t m (stL L l i s)) (stL L' l i s)
 |[],i,j,s,_,e,_,_,_,_=>by simp at e
 |(t',m')::l,i,j,s,hij,e,h1,h2,h3,h4=>by
  simp only[stL];by_cases hx:i=j
  ·subst hx;rw[ly]at e;simp at e;obtain⟨rfl,rfl⟩:=e;rw[h1,h2];simp only;refine(tI l (i+1) s fun x t'' m'' hl hL=>h4 (x+1) t'' m'' aa pA (by rw[show i+(x+1)=i+1+x by omega];exact hL)).trans ?_;rw[vP (L:=L) (L':=L') l (i+1) _ fun x hx=>(h3 x aa).symm];exact Eqv.refl _
  ·rw[h3 i hx];refine xU l (i+1) j _ aa ?_ h1 h2 h3 fun x t'' m'' hlt hl hL=>h4 (x+1) t'' m'' aa pA (by rw[show i+(x+1)=i+1+x by omega];exact hL);rw[show j-i=j-(i+1)+1 by omega]at e;simpa using e
theorem Dp{L L':Nat->Bool}{u:Nat}:∀(l:List (Option Tmp×Mn)) (i:Nat) (s s':S),s.gt u=s'.gt u->(∀x m,l[x]?=some (some u,m)->L (i+x)=L' (i+x))->(stL L l i s).gt u=(stL L' l i s').gt u
 |[],_,s,s',h,_=>h
 |(t,m)::l,i,s,s',h,hh=>by
  simp only[stL];refine Dp l (i+1) _ _ ?_ fun x m' hl=>?_
  ·by_cases ht:t=some u
   ·have:=hh 0 m (by simp[ht]);simp only[cf]at this;rw[this]
    cases L' i with
    |false=>exact h
    |true=>simp only[jw];rw[h]
   ·have key : ∀ (b : Bool) (σ : S), (match b with | true => mAp t m σ | false => σ).gt u = σ.gt u := fun b σ => by
     cases b with
     |false=>rfl
     |true=>
      simp only[jw]
      cases m.dt with
      |none=>rfl
      |some d=>simp only[ai ht]
    rw[key,key];exact h
  ·have:=hh (x+1) m' pA;rwa[show i+(x+1)=i+1+x by omega]at this
def ent(k:Nat)(l:List (Nat×Ow)):List (Nat×Ow):=l.filter fun p=>Nat.beq p.1 k
theorem kV{k:Nat}{l:List (Nat×Ow)}{q:Ow}:(k,q)∈ent k l↔(k,q)∈l:=by
 unfold ent;rw[List.mem_filter];simp
def Mn.tc(k:Nat):Mn->Bool
 | .val _=>false
 | .alloc j _ _=>Nat.beq j k
 | .store j _ _=>Nat.beq j k
 | .app j nw _=>Nat.beq j k||nw.any fun p=>Nat.beq p.1 k
def Mn.mk'(k:Nat):Mn->Bool
 | .alloc j _ _=>Nat.beq j k
 | .app j nw _=>Nat.beq j k||nw.any fun p=>Nat.beq p.1 k
 |_=>false
theorem ru(k j:Nat)(l:List (Nat×Ow)):ent k (cut j l)=cut j (ent k l):=by
 unfold ent cut;rw[tj,tj];exact List.filter_congr fun p _=>Bool.and_comm ..
theorem ry(k:Nat)(l l':List (Nat×Ow)):ent k (l++l')=ent k l++ent k l':=List.filter_append ..
theorem oY(k j i:Nat)(d:D):∀l:List (Nat×Ow),ent k (bP j i d l)=bP j i d (ent k l)
 |[]=>rfl
 |(x,q)::l=>by
  have ih:=oY k j i d l;unfold ent at ih⊢
  cases h1:Nat.beq x j with
  |true=>
   simp only[bP,h1]
   cases h2:Nat.beq x k with
   |true=>rw[gG (by exact h2),gG (by exact h2),ih];simp only[bP,h1]
   |false=>rw[ir kz,ir kz,ih]
  |false=>
   simp only[bP,h1]
   cases h2:Nat.beq x k with
   |true=>rw[gG (by exact h2),gG (by exact h2),ih];simp only[bP,h1]
   |false=>rw[ir kz,ir kz,ih]
theorem rq{k:Nat}{l:List (Nat×Ow)}{p:Nat×Ow}(h:p∈ent k l):p.1=k:=by
 unfold ent at h;rw[List.mem_filter]at h;exact cn h.2
theorem JB{k:Nat}{t:Option Tmp}{m:Mn}{s s':S}(h:ent k s.ow=ent k s'.ow):ent k (mAp t m s).ow=ent k (mAp t m s').ow:=by
 cases m with
 |val d=>simp only[mAp,gM];exact h
 |alloc j q d=>
  simp only[mAp];unfold ent at h⊢;simp only[List.filter_cons,h]
 |store j i d=>
  simp only[mAp,oY,h]
 |app j nw d=>
  simp only[mAp,ry,ru,h]
theorem mW{k:Nat}{t:Option Tmp}{m:Mn}(hm:m.tc k=false)(s:S):ent k (mAp t m s).ow=ent k s.ow:=by
 cases m with
 |val d=>simp only[mAp,gM]
 |alloc j q d=>
  simp only[mAp];unfold ent;rw[ir (by show¬Nat.beq j k=true;rw[show Nat.beq j k=false from hm];decide)]
 |store j i d=>
  simp only[mAp,oY];refine mD fun p hp e=>?_;rw[rq hp]at e;simp[Mn.tc,e]at hm
 |app j nw d=>
  simp only[Mn.tc,xE]at hm;simp only[mAp,ry,ru];have e1:ent k nw=[]:=by
   unfold ent;rw[List.filter_eq_nil_iff];exact fun p hp h=>by
    have:=jj.1 hm.2 p hp;exact this h
  rw[e1,fV];exact pe fun p hp e=>by
   rw[rq hp]at e;rw[e]at hm;simp at hm
theorem uY{L L':Nat->Bool}{k:Nat}:∀(l:List (Option Tmp×Mn)) (i:Nat) (s s':S),ent k s.ow=ent k s'.ow->(∀x t m,l[x]?=some (t,m)->m.tc k=true->L (i+x)=L' (i+x))->ent k (stL L l i s).ow=ent k (stL L' l i s').ow
 |[],_,s,s',h,_=>h
 |(t,m)::l,i,s,s',h,hh=>by
  simp only[stL];refine uY l (i+1) _ _ ?_ fun x t' m' hl hm=>?_
  ·cases hm:m.tc k with
   |true=>
    have:=hh 0 t m aY hm;simp only[cf]at this;rw[this]
    cases L' i with
    |false=>exact h
    |true=>exact JB h
   |false=>
    have key:∀(b:Bool) (σ:S),ent k (match b with|true=>mAp t m σ|false=>σ).ow=ent k σ.ow:=fun b σ=>by
     cases b with
     |false=>rfl
     |true=>exact mW hm σ
    rw[key,key];exact h
  ·have:=hh (x+1) t' m' pA hm;rwa[show i+(x+1)=i+1+x by omega]at this
def shp(k:Nat)(l:List (Nat×Ow)):List (TypeId×Nat×Nat):=(ent k l).map fun p=>(p.2.T,p.2.wd,p.2.l.length)
theorem xX(k j i:Nat)(d:D):∀l:List (Nat×Ow),(bP j i d l).map (fun p=>(p.2.T,p.2.wd,p.2.l.length))=l.map fun p=>(p.2.T,p.2.wd,p.2.l.length)
 |[]=>rfl
 |(x,q)::l=>by
  have ih:=xX k j i d l;simp only[bP]
  cases Nat.beq x j with
  |true=>simp only[dw,ih,dc]
  |false=>simp only[dw,ih]
theorem zK{L L':Nat->Bool}{k:Nat}:∀(l:List (Option Tmp×Mn)) (i:Nat) (s s':S),shp k s.ow=shp k s'.ow->(∀x t m,l[x]?=some (t,m)->m.mk' k=true->L (i+x)=L' (i+x))->shp k (stL L l i s).ow=shp k (stL L' l i s').ow
 |[],_,s,s',h,_=>h
 |(t,m)::l,i,s,s',h,hh=>by
  simp only[stL];refine zK l (i+1) _ _ ?_ fun x t' m' hl hm=>?_
  ·have off : m.mk' k = false -> ∀ (b : Bool) (σ : S), shp k (match b with | true => mAp t m σ | false => σ).ow = shp k σ.ow := fun hm b σ => by
    cases b with
    |false=>rfl
    |true=>
     cases m with
     |val d=>simp only[mAp,gM]
     |alloc j q d=>
      unfold shp;rw[mW (by simpa[Mn.tc,Mn.mk']using hm)]
     |store j i d=>
      unfold shp;simp only[mAp,oY];exact xX k j i d _
     |app j nw d=>
      unfold shp;rw[mW (by exact hm)]
   cases hm:m.mk' k with
   |true=>
    have:=hh 0 t m aY hm;simp only[cf]at this;rw[this]
    cases L' i with
    |false=>exact h
    |true=>
     cases m with
     |val d=>simp[Mn.mk']at hm
     |store j i d=>simp[Mn.mk']at hm
     |alloc j q d=>
      simp only[mAp];unfold shp ent at h⊢;simp only[List.filter_cons];split
      ·simp only[dw,h]
      ·exact h
     |app j nw d=>
      simp only[mAp];unfold shp at h⊢;rw[ry,ry,ru,ru,cN,cN];congr 1;by_cases e:k=j
      ·have z : ∀ l : List (Nat × Ow), cut j (ent k l) = [] := fun l => by
        unfold cut;rw[List.filter_eq_nil_iff];exact fun p hp hh=>by rw[rq hp,e]at hh;simp at hh
       rw[z,z]
      ·have z:∀l:List (Nat×Ow),cut j (ent k l)=ent k l:=fun l=>pe fun p hp hh=>e ((rq hp).symm.trans hh);rw[z,z];exact h
   |false=>rw[off hm,off hm];exact h
  ·have:=hh (x+1) t' m' pA hm;rwa[show i+(x+1)=i+1+x by omega]at this
end DW
end
section
open Go.RowKit
namespace DW
def sH(a b:List Nat):Bool:=a.any fun x=>CI.eI x b
theorem kY{a b:List Nat}{k:Nat}(h1:k∈a)(h2:k∈b):sH a b=true:=eR.2 ⟨k,h1,CI.kZ h2⟩
def gL(ops:Array Oper)(o' o:Oper):Bool:=CI.mX o'.dst (CI.looks ops o)||CI.mX o.dst (CI.looks ops o')||CI.mX o.dst o'.dst.toList
def dlN:List Nat->List Nat
 |[]=>[]
 |x::l=>match Nat.ble 1000000000 x with|true=>Nat.sub x 1000000000::dlN l|false=>dlN l
def dm(f' f:FP):Bool:=sH f'.wc (f.rc++f.wc)||sH f'.rc f.wc||sH f'.al (f.rc++f.rs++f.wc++f.me)||sH (dlN f'.al) f.rs||sH (dlN f.al) f'.rs
def never(f' f:FP):Bool:=sH f.al (f'.rc++f'.rs++f'.wc++f'.me++f'.al)
def iB(ops:Array Oper)(o' o:Oper)(f' f:FP)(p i:Nat):Bool:=(!(gL ops o' o||dm f' f)||p.testBit i)&& !never f' f
def tO(ops:Array Oper)(o:Oper)(f:FP)(p:Nat):List (Oper×FP)->Nat->Bool
 |[],_=>true
 |(o',f')::l,i=>iB ops o' o f' f p i&&tO ops o f p l (i+1)
def oO(ops:Array Oper)(n:Nat)(ks:List Nat):List Oper->List FP->List Nat->List (Oper×FP)->Bool
 |[],[],_,_=>true
 |o::l,f::fs,p::ps,acc=>CI.ig acc.length o.after.toList&&f.al.all (fun k=>CI.eI k ks)&&tO ops o f p acc 0&&oO ops n ks l fs ps (acc++[(o,f)])
 |_,_,_,_=>false
def qe(ops:Array Oper)(n:Nat)(ks:List Nat)(fps:List FP):Bool:=oO ops n ks ops.toList fps (CI.iM ops.toList []) []
theorem jz{i k:Nat}(h:k<=i):Nat.blt i k=false:=by
 cases hb:Nat.blt i k with
 |false=>rfl
 |true=>rw[aV]at hb;omega
theorem tN{ops:Array Oper}{o:Oper}{f:FP}{p:Nat}:∀{l:List (Oper×FP)} {k:Nat},tO ops o f p l k=true->∀i o' f',l[i]?=some (o',f')->iB ops o' o f' f p (k+i)=true
 |[],_,_,i,o',f',e=>by simp at e
 |(x,y)::l,k,h,0,o',f',e=>by
  simp only[tO,bV]at h;rw[List.getElem?_cons_zero]at e;cases e;rw[cf];exact h.1
 |(x,y)::l,k,h,i+1,o',f',e=>by
  simp only[tO,bV]at h;have:=tN h.2 i o' f' oc;rwa[show k+1+i=k+(i+1) by omega]at this
theorem tZ{ops:Array Oper}{n:Nat}{ks:List Nat}:∀{l:List Oper} {fs:List FP} {ps:List Nat} {acc:List (Oper×FP)},oO ops n ks l fs ps acc=true->fs.length=l.length/\∀(j:Nat) (o:Oper),l[j]?=some o->∃f p,fs[j]?=some f/\ps[j]?=some p/\CI.ig (acc.length+j) o.after.toList=true/\(∀k∈f.al,CI.eI k ks=true)/\
  (∀i o' f',acc[i]?=some (o',f')->iB ops o' o f' f p i=true)/\∀i o' f',i<j->l[i]?=some o'->fs[i]?=some f'->iB ops o' o f' f p (acc.length+i)=true
 |[],[],_,_,_=>⟨rfl,fun j o h=>by simp at h⟩
 |o::l,f::fs,p::ps,acc,h=>by
  simp only[oO,bV]at h;obtain⟨⟨⟨h1,h2⟩,h3⟩,h4⟩:=h;obtain⟨k1,k2⟩:=tZ h4;refine⟨by simp[k1],fun j o' ho=>?_⟩
  cases j with
  |zero=>
   simp at ho;subst ho;exact⟨f,p,rfl,rfl,h1,by simpa using h2,fun i o' f' e=>by have:=tN h3 i o' f' e;rwa[bG]at this,fun i _ _ hi=>by omega⟩
  |succ j=>
   obtain⟨f1,p1,q1,q2,q3,q4,q5,q6⟩:=k2 j o' (by simpa using ho);simp only[cL,ji]at q3 q6;refine⟨f1,p1,by simpa using q1,by simpa using q2,by rwa[show acc.length+1+j=acc.length+(j+1) by omega]at q3,q4,fun i o2 f2 e=>q5 i o2 f2 ?_,fun i o2 f2 hi e1 e2=>?_⟩
   ·rw[en (bW.1 e).1];exact e
   ·cases i with
    |zero=>
     simp at e1 e2;subst e1;subst e2;have:=q5 acc.length o f (by rw[iE (af _)];simp);exact this
    |succ i=>
     have:=q6 i o2 f2 aa (by simpa using e1) (by simpa using e2);rwa[show acc.length+1+i=acc.length+(i+1) by omega]at this
 |[],_::_,_,_,h=>by simp[oO]at h
 |_::_,[],_,_,h=>by simp[oO]at h
 |_::_,_::_,[],_,h=>by simp[oO]at h
structure sU(ops:Array Oper)(o:Oper)(f:FP)(sj σ:S):Prop where
 sl:∀t,t∈CI.looks ops o->σ.gt t=sj.gt t
 rc:∀k,k∈f.rc->ent k σ.ow=ent k sj.ow
 rs:∀k,k∈f.rs\/k∈f.wc->shp k σ.ow=shp k sj.ow
 al:∀k,k∈f.al->ent k σ.ow=ent k sj.ow/\∀t,(σ.gt t).is k=false
def MS(P:Program)(X0:Nat->Prop)(n:Nat)(ops:Array Oper)(o:Oper)(sj:S)(m:Mn)(f:FP):Prop:=
 ∀σ,sU ops o f sj σ->∀w0 g a w,Hd X0 n w0 σ g a w->∀Qx:Exit->Act->World->Prop,
  if Region.wanted o (yielded ops a.tmps)=true then o.wp P a w (fun a' w'=>∃g',Hd X0 n w0 (mAp o.dst m σ) g' a' w') Qx else∃g',Hd X0 n w0 (mAp o.dst m σ) g' (a.put o.dst undef) w
def lV:Mn->FP->Prop
 | .val d,f=>∀k,d.is k=true->k∈f.me
 | .alloc k _ d,f=>k∈f.al/\∀k',d.is k'=true->k'=k
 | .store k _ _,f=>k∈f.wc
 | .app k nw d,f=>k∈f.wc/\k∈dlN f.al/\(∀p∈nw,p.1∈f.al)/\∀k',d.is k'=true->k'∈f.al
def aM(P:Program)(X0:Nat->Prop)(n:Nat)(ops:Array Oper):List Oper->S->List FP->(S->Prop)->Prop
 |[],s,fps,K=>fps=[]/\K s
 |o::l,s,fps,K=>∃f fs m,fps=f::fs/\lV m f/\MS P X0 n ops o s m f/\aM P X0 n ops l (mAp o.dst m s) fs K
def aML(P:Program)(X0:Nat->Prop)(n:Nat)(ops:Array Oper):List Oper->S->List FP->List (Option Tmp×Mn)->S->Prop
 |[],s,fps,st,s'=>fps=[]/\st=[]/\s=s'
 |o::l,s,fps,st,s'=>∃f fs m st',fps=f::fs/\st=(o.dst,m)::st'/\lV m f/\MS P X0 n ops o s m f/\aML P X0 n ops l (mAp o.dst m s) fs st' s'
section
variable {P : Program} {X0 : Nat->Prop} {n : Nat} {ops : Array Oper} {Q : Exit->S->Prop} {s : S}
theorem EW{K:S->Prop}:∀{l:List Oper} {s:S} {fps:List FP},aM P X0 n ops l s fps K->∃st s',aML P X0 n ops l s fps st s'/\K s'
 |[],s,fps,h=>⟨[],s,⟨h.1,rfl,rfl⟩,h.2⟩
 |o::l,s,fps,⟨f,fs,m,h1,h2,h3,h4⟩=>by
  obtain⟨st,s',k1,k2⟩:=EW h4;exact⟨(o.dst,m)::st,s',⟨f,fs,m,st,h1,rfl,h2,h3,k1⟩,k2⟩
theorem vH:∀{l:List Oper} {s:S} {fps:List FP} {st:List (Option Tmp×Mn)} {s':S} (k:Nat),aML P X0 n ops l s fps st s'->st.length=l.length/\s'=stL (fun _=>true) st k s
 |[],s,fps,st,s',k,⟨_,h2,h3⟩=>by subst h2;subst h3;exact⟨rfl,rfl⟩
 |o::l,s,fps,st,s',k,⟨f,fs,m,st',h1,h2,h3,h4,h5⟩=>by
  obtain⟨k1,k2⟩:=vH (k+1) h5;subst h2;exact⟨by simp[k1],by simp only[stL];exact k2⟩
theorem EX:∀{l:List Oper} {s:S} {fps:List FP} {st:List (Option Tmp×Mn)} {s':S} (k:Nat),aML P X0 n ops l s fps st s'->∀j o,k<=j->l[j-k]?=some o->∃f m,fps[j-k]?=some f/\st[j-k]?=some (o.dst,m)/\lV m f/\MS P X0 n ops o (stL (fun i=>Nat.blt i j) st k s) m f
 |[],s,fps,st,s',k,_,j,o,_,h=>by simp at h
 |o::l,s,fps,st,s',k,⟨f,fs,m,st',h1,h2,h3,h4,h5⟩,j,o',hkj,hl=>by
  subst h1;subst h2;by_cases hj:k=j
  ·subst hj;rw[ly]at hl⊢;simp at hl;subst hl;refine⟨f,m,rfl,rfl,h3,?_⟩;rw[sd _ _ _ fun i hi=>jz hi];exact h4
  ·have hlt:k<j:=by omega
   obtain⟨f',m',q1,q2,q3,q4⟩:=EX (k+1) h5 j o' aa (by rw[show j-k=j-(k+1)+1 by omega]at hl;simpa using hl);refine⟨f',m',by rw[show j-k=j-(k+1)+1 by omega];simpa using q1,by rw[show j-k=j-(k+1)+1 by omega];simpa using q2,q3,?_⟩;simp only[stL,(by simpa[aV]using hlt:Nat.blt k j=true)];exact q4
theorem uW{L:Nat->Bool}{u:Nat}:∀(l:List (Option Tmp×Mn)) (i:Nat) (s:S),(stL L l i s).gt u=s.gt u\/∃x t m d,l[x]?=some (t,m)/\L (i+x)=true/\m.dt=some d/\(stL L l i s).gt u=d
 |[],_,s=>.inl rfl
 |(t,m)::l,i,s=>by
  simp only[stL]
  cases hL:L i with
  |false=>
   rcases uW (L:=L) (u:=u) l (i+1) s with h|⟨x,t',m',d,h1,h2,h3,h4⟩
   ·exact .inl h
   ·exact .inr ⟨x+1,t',m',d,by simpa using h1,by rw[show i+(x+1)=i+1+x by omega];exact h2,h3,h4⟩
  |true=>
   rcases uW (L:=L) (u:=u) l (i+1) (mAp t m s)with h|⟨x,t',m',d,h1,h2,h3,h4⟩
   ·have h':(stL L l (i+1) (mAp t m s)).gt u=match m.dt with|some d=>if t=some u then d else s.gt u|none=>s.gt u:=h.trans (jw t m s u)
    cases hd:m.dt with
    |none=>
     rw[hd]at h';exact .inl h'
    |some d=>
     rw[hd]at h';simp only at h';by_cases e:t=some u
     ·rw[aj e]at h';exact .inr ⟨0,t,m,d,rfl,hL,hd,h'⟩
     ·rw[ai e]at h';exact .inl h'
   ·exact .inr ⟨x+1,t',m',d,by simpa using h1,by rw[show i+(x+1)=i+1+x by omega];exact h2,h3,h4⟩
theorem Hd.eqv{w0:Bs}{s s':S}{f:Nat->Value}{a:Act}{w:World}(h:Hd X0 n w0 s f a w)(e:Eqv s s'):Hd X0 n w0 s' f a w:=by
 have hm:∀p,p∈s'.ow↔p∈s.ow:=fun p=>e.ow.mem_iff.symm;have hX:XO X0 s' f=XO X0 s f:=funext fun b=>propext (by
  unfold XO;constructor
  ·rintro(h|⟨p,hp,q⟩)
   ·exact .inl h
   ·exact .inr ⟨p,(hm p).1 hp,q⟩
  ·rintro(h|⟨p,hp,q⟩)
   ·exact .inl h
   ·exact .inr ⟨p,(hm p).2 hp,q⟩)
 refine⟨h.sz,h.df,h.bl,h.x0,h.xy,h.fx,fun p hp=>h.lo p ((hm p).1 hp),fun t=>by rw[hX,<-e.gt];exact h.sl t,fun p hp=>by rw[hX];exact h.ow p ((hm p).1 hp),fun b hb=>?_,fun p hp q hq=>h.dj p ((hm p).1 hp) q ((hm q).1 hq),fun p hp q hq=>h.un p ((hm p).1 hp) q ((hm q).1 hq)⟩;obtain⟨p,hp,q⟩:=hb;exact h.nw b ⟨p,(hm p).1 hp,q⟩
structure Mix(P:Program)(X0:Nat->Prop)(n:Nat)(ops:Array Oper)(s:S)(st:List (Option Tmp×Mn))(ps:List Nat):Prop where
 len:st.length=ops.size
 row:∀j o,ops[j]?=some o->∃f p m,ps[j]?=some p/\st[j]?=some (o.dst,m)/\lV m f/\MS P X0 n ops o (stL (fun i=>Nat.blt i j) st 0 s) m f/\CI.ig j o.after.toList=true/\(∀k∈f.al,∀t,(s.gt t).is k=false)/\
  (∀i o',i<j->ops[i]?=some o'->∃f' m',st[i]?=some (o'.dst,m')/\lV m' f'/\iB ops o' o f' f p i=true)/\
  (∀i o',j<i->ops[i]?=some o'->∃f' m' p',st[i]?=some (o'.dst,m')/\lV m' f'/\ps[i]?=some p'/\iB ops o o' f f' p' j=true)
 pre:∀(i:Nat) (o:Oper) (p q:Nat),ops[i]?=some o->ps[i]?=some p->p.testBit q=true->∃e∈o.after.toList,Region.binds .any e=true/\(e.on=q\/∃p',ps[e.on]?=some p'/\p'.testBit q=true)
theorem Lb{ks:List Nat}{fps:List FP}{st:List (Option Tmp×Mn)}{s':S}(hc:qe ops n ks fps=true)(hb:∀k,k∈ks->∀t,(s.gt t).is k=false)(h:aML P X0 n ops ops.toList s fps st s'):Mix P X0 n ops s st (CI.iM ops.toList []):=by
 obtain⟨k1,k2⟩:=tZ hc;obtain⟨e1,_⟩:=vH 0 h;have at':=fun j o (ho:ops[j]?=some o)=>EX 0 h j o (aP _) (by rw[iw];simpa using ho);refine⟨by simpa using e1,fun j o ho=>?_,fun i o p q ho hp hq=>?_⟩
 ·obtain⟨f,m,q1,q2,q3,q4⟩:=at' j o ho;rw[iw]at q1 q2;obtain⟨f1,p,r1,r2,r3,r4,_,r6⟩:=k2 j o (by simpa using ho);rw[q1]at r1;simp only[ah]at r1;subst r1;simp only[fQ,bG]at r3 r6;refine⟨f,p,m,r2,q2,q3,q4,r3,fun k hk t=>hb k ?_ t,fun i o' hi ho'=>?_,fun i o' hi ho'=>?_⟩
  ·have:=r4 k hk;have hh:∀{l:List Nat},CI.eI k l=true->k∈l:=fun {l}=>by
    induction l with
    |nil=>intro h;simp[CI.eI]at h
    |cons x l ih=>
     intro h;simp only[CI.eI]at h;split at h
     ·next hb=>rw[cn hb];exact bn
     ·exact bq _ (ih h)
   exact hh this
  ·obtain⟨f',m',q1',q2',q3',_⟩:=at' i o' ho';rw[iw]at q1' q2';exact⟨f',m',q2',q3',r6 i o' f' hi (by simpa using ho') q1'⟩
  ·obtain⟨f',m',q1',q2',q3',_⟩:=at' i o' ho';rw[iw]at q1' q2';obtain⟨f1,p',t1,t2,_,_,_,t6⟩:=k2 i o' (by simpa using ho');rw[q1']at t1;simp only[ah]at t1;subst t1;simp only[fQ,bG]at t6;exact⟨f',m',p',q2',q3',t2,t6 j o f hi (by simpa using ho) q1⟩
 ·have h2:=CI.ve ops.toList [] i o (by simpa using ho);simp only[fQ,bG]at h2;rw[hp]at h2;simp only[ah]at h2;rw[h2]at hq;obtain⟨e,he,hb',hh⟩:=CI.kO hq;refine⟨e,he,hb',hh.imp id fun hx=>?_⟩;rw[CI.sL,et]at hx;split at hx
  ·cases hz:(CI.iM ops.toList [])[e.on]? with
   |none=>rw[hz]at hx;simp at hx
   |some p'=>rw[hz]at hx;exact⟨p',rfl,by simpa using hx⟩
  ·simp at hx
end
end DW
end
section
open Go.RowKit
namespace DW
section
variable {P : Program} {X0 : Nat->Prop} {n : Nat} {ops : Array Oper} {Q : Exit->S->Prop} {s : S} {st : List (Option Tmp × Mn)} {ps : List Nat} {L : Nat->Bool} {j : Nat} {o : Oper}
def uB(ps:List Nat)(L:Nat->Bool):Prop:=∀i p q,L i=true->ps[i]?=some p->p.testBit q=true->L q=true
theorem vu{t:Nat}{x:Option Tmp}{l:List Nat}(h:x=some t)(hl:t∈l):CI.mX x l=true:=by
 rw[h];exact CI.kZ hl
theorem tS{o' o:Oper}{f' f:FP}{p i:Nat}(h:iB ops o' o f' f p i=true):never f' f=false:=by
 unfold iB at h;simp only[bV,lp]at h;exact h.2
theorem tT{o' o:Oper}{f' f:FP}{p i:Nat}(h:iB ops o' o f' f p i=true)(hc:gL ops o' o=true\/dm f' f=true):p.testBit i=true:=by
 unfold iB at h;simp only[bV,nv,lp,xE]at h;rcases h.1 with⟨h1,h2⟩|h1
 ·rcases hc with hc|hc
  ·rw[h1]at hc;cases hc
  ·rw[h2]at hc;cases hc
 ·exact h1
theorem fj{f' f:FP}{k:Nat}(h1:k∈f.al)(h2:k∈f'.rc\/k∈f'.rs\/k∈f'.wc\/k∈f'.me\/k∈f'.al):never f' f=true:=by
 refine kY h1 ?_;simp only[dR];rcases h2 with h|h|h|h|h<;>simp[h]
theorem wV{f' f:FP}{k:Nat}(h1:k∈f'.wc)(h2:k∈f.rc\/k∈f.wc):dm f' f=true:=by
 unfold dm;rw[kY h1 (dR.2 h2)];simp only[pE]
theorem blk_r{f' f:FP}{k:Nat}(h1:k∈f'.rc)(h2:k∈f.wc):dm f' f=true:=by
 unfold dm;rw[kY h1 h2];simp only[pE,ll]
theorem mP{f' f:FP}{k:Nat}(h1:k∈f'.al)(h2:k∈f.rc\/k∈f.rs\/k∈f.wc\/k∈f.me):dm f' f=true:=by
 unfold dm;rw[kY h1 (by simp only[dR];rcases h2 with h|h|h|h<;>simp[h])];simp only[pE,ll]
theorem blk_d{f' f:FP}{k:Nat}(h1:k∈dlN f'.al)(h2:k∈f.rs):dm f' f=true:=by
 unfold dm;rw[kY h1 h2];simp only[pE,ll]
theorem LX{f' f:FP}{k:Nat}(h1:k∈dlN f.al)(h2:k∈f'.rs):dm f' f=true:=by
 unfold dm;rw[kY h1 h2];simp only[ll]
theorem Hx{m:Mn}{f:FP}{k:Nat}(h:lV m f)(ht:m.tc k=true):k∈f.wc\/k∈f.al:=by
 cases m with
 |val d=>simp[Mn.tc]at ht
 |alloc j q d=>rw[<-cn ht];exact .inr h.1
 |store j i d=>rw[<-cn ht];exact .inl h
 |app j nw d=>
  simp only[Mn.tc,nv,eR]at ht;rcases ht with ht|⟨p,hp,ht⟩
  ·rw[<-cn ht];exact .inl h.1
  ·rw[<-cn ht];exact .inr (h.2.2.1 p hp)
theorem mk_of{m:Mn}{f:FP}{k:Nat}(h:lV m f)(ht:m.mk' k=true):k∈f.al\/k∈dlN f.al/\k∈f.wc:=by
 cases m with
 |val d=>simp[Mn.mk']at ht
 |alloc j q d=>rw[<-cn ht];exact .inl h.1
 |store j i d=>simp[Mn.mk']at ht
 |app j nw d=>
  simp only[Mn.mk',nv,eR]at ht;rcases ht with ht|⟨p,hp,ht⟩
  ·rw[<-cn ht];exact .inr ⟨h.2.1,h.1⟩
  ·rw[<-cn ht];exact .inl (h.2.2.1 p hp)
theorem dt_of{m:Mn}{f:FP}{k:Nat}{d:D}(h:lV m f)(hd:m.dt=some d)(hk:d.is k=true):k∈f.me\/k∈f.al:=by
 cases m with
 |val d'=>simp[Mn.dt]at hd;subst hd;exact .inl (h k hk)
 |alloc j q d'=>simp[Mn.dt]at hd;subst hd;rw[h.2 k hk];exact .inr h.1
 |store j i d'=>simp[Mn.dt]at hd
 |app j nw d'=>simp[Mn.dt]at hd;subst hd;exact .inr (h.2.2.2 k hk)
theorem Mix.oper(M:Mix P X0 n ops s st ps){x:Nat}{t:Option Tmp}{m:Mn}(h:st[x]?=some (t,m)):∃o,ops[x]?=some o:=by
 have:=(bW.1 h).1;rw[M.len]at this;exact⟨ops[x],iu this⟩
theorem Mix.other(M:Mix P X0 n ops s st ps)(hL:uB ps L)(ho:ops[j]?=some o):∃f m p,st[j]?=some (o.dst,m)/\ps[j]?=some p/\lV m f/\MS P X0 n ops o (stL (fun i=>Nat.blt i j) st 0 s) m f/\(∀k∈f.al,∀t,(s.gt t).is k=false)/\
  (L j=false->(∀q,p.testBit q=true->L q=true)->∀x t' m',st[x]?=some (t',m')->∃o' f',ops[x]?=some o'/\t'=o'.dst/\lV m' f'/\
   ((x<j/\never f' f=false/\(gL ops o' o=true\/dm f' f=true->L x=true))\/(x=j)\/(j<x/\never f f'=false/\(gL ops o o'=true\/dm f f'=true->L x=false)))):=by
 obtain⟨f,p,m,h1,h2,h3,h4,h5,h6,h7,h8⟩:=M.row j o ho;refine⟨f,m,p,h2,h1,h3,h4,h6,fun hj hp x t' m' hx=>?_⟩;obtain⟨o',ho'⟩:=M.oper hx;rcases kJ x j with e|e|e
 ·obtain⟨f',m'',q1,q2,q3⟩:=h7 x o' e ho';rw[hx]at q1;simp only[ah,aD]at q1;obtain⟨rfl,rfl⟩:=q1;exact⟨o',f',ho',rfl,q2,.inl ⟨e,tS q3,fun hc=>hp x (tT q3 hc)⟩⟩
 ·subst e;rw[ho]at ho';simp only[ah]at ho';subst ho';rw[h2]at hx;simp only[ah,aD]at hx;obtain⟨rfl,rfl⟩:=hx;exact⟨o,f,ho,rfl,h3,.inr (.inl rfl)⟩
 ·obtain⟨f',m'',p',q1,q2,q3,q4⟩:=h8 x o' e ho';rw[hx]at q1;simp only[ah,aD]at q1;obtain⟨rfl,rfl⟩:=q1;refine⟨o',f',ho',rfl,q2,.inr (.inr ⟨e,tS q4,fun hc=>?_⟩)⟩;have hb:=tT q4 hc
  cases hLx:L x with
  |false=>rfl
  |true=>
   have:=hL x p' j hLx q3 hb;rw[hj]at this;cases this
theorem cT{b:Bool}(h:b=false)(h':b=true):False:=by rw[h]at h';cases h'
theorem vD{i k:Nat}(h:i<k):Nat.blt i k=true:=by rw[aV];exact h
theorem Mix.step(M:Mix P X0 n ops s st ps)(hL:uB ps L)(ho:ops[j]?=some o)(hj:L j=false)(hp:∀p q,ps[j]?=some p->p.testBit q=true->L q=true){L':Nat->Bool}(h2:L' j=true)(h3:∀x,x≠j->L' x=L x):
  ∃m,(∀w0 g a w,Hd X0 n w0 (stL L st 0 s) g a w->∀Qx:Exit->Act->World->Prop,
   if Region.wanted o (yielded ops a.tmps)=true then o.wp P a w (fun a' w'=>∃g',Hd X0 n w0 (mAp o.dst m (stL L st 0 s)) g' a' w') Qx else∃g',Hd X0 n w0 (mAp o.dst m (stL L st 0 s)) g' (a.put o.dst undef) w)/\Eqv (mAp o.dst m (stL L st 0 s)) (stL L' st 0 s):=by
 obtain⟨f,m,p,e1,e2,e3,e4,e5,e6⟩:=M.other (L:=L) hL ho;have oth:=e6 hj (fun q hq=>hp p q e2 hq);refine⟨m,e4 _ ⟨fun t ht=>?_,fun k hk=>?_,fun k hk=>?_,fun k hk=>⟨?_,fun t=>?_⟩⟩,?_⟩
 ·refine Dp st 0 s s rfl fun x m' hx=>?_;rw[bG];obtain⟨o',f',q1,q2,q3,q4⟩:=oth x _ m' hx;rcases q4 with⟨e,_,hc⟩|e|⟨e,_,hc⟩
  ·rw[vD e];refine hc (.inl ?_);unfold gL;rw[vu q2.symm ht];rfl
  ·subst e;rw[hj,jz (af _)]
  ·rw[jz (cD e)];refine hc (.inl ?_);unfold gL;rw[vu q2.symm ht,ll];rfl
 ·refine uY st 0 s s rfl fun x t' m' hx hm=>?_;rw[bG];obtain⟨o',f',q1,q2,q3,q4⟩:=oth x _ m' hx;have ht:=Hx q3 hm;rcases q4 with⟨e,hn,hc⟩|e|⟨e,hn,hc⟩
  ·rw[vD e];exact hc (.inr (ht.elim (fun h=>wV h (.inl hk)) (fun h=>mP h (.inl hk))))
  ·subst e;rw[hj,jz (af _)]
  ·rw[jz (cD e)];rcases ht with ht|ht
   ·exact hc (.inr (blk_r hk ht))
   ·exact(cT hn (fj ht (.inl hk))).elim
 ·refine zK st 0 s s rfl fun x t' m' hx hm=>?_;rw[bG];obtain⟨o',f',q1,q2,q3,q4⟩:=oth x _ m' hx;have ht:=mk_of q3 hm;rcases q4 with⟨e,hn,hc⟩|e|⟨e,hn,hc⟩
  ·rw[vD e];rcases ht with ht|⟨ht,hw⟩
   ·exact hc (.inr (mP ht (.inr (hk.elim .inl (fun h=>.inr (.inl h))))))
   ·exact hc (.inr (hk.elim (fun h=>blk_d ht h) (fun h=>wV hw (.inr h))))
  ·subst e;rw[hj,jz (af _)]
  ·rcases ht with ht|⟨ht,hw⟩
   ·exact(cT hn (fj ht (.inr (hk.elim .inl (fun h=>.inr (.inl h)))))).elim
   ·rw[jz (cD e)];exact hc (.inr (hk.elim (fun h=>LX ht h) (fun h=>wV h (.inr hw))))
 ·refine uY st 0 s s rfl fun x t' m' hx hm=>?_;rw[bG];obtain⟨o',f',q1,q2,q3,q4⟩:=oth x _ m' hx;have ht:=Hx q3 hm;rcases q4 with⟨e,hn,hc⟩|e|⟨e,hn,hc⟩
  ·exact(cT hn (fj hk (by rcases ht with h|h<;>simp[h]))).elim
  ·subst e;rw[hj,jz (af _)]
  ·rw[jz (cD e)];rcases ht with ht|ht
   ·exact hc (.inr (mP hk (by simp[ht])))
   ·exact(cT hn (fj ht (by simp[hk]))).elim
 ·rcases uW (L:=L) (u:=t) st 0 s with h|⟨x,t',m',d,q1,q2,q3,q4⟩
  ·rw[h];exact e5 k hk t
  ·rw[q4]
   cases hd:d.is k with
   |false=>rfl
   |true=>
    exfalso;rw[bG]at q2;obtain⟨o',f',_,_,r3,r4⟩:=oth x _ m' q1;have ht:=dt_of r3 q3 hd;rcases r4 with⟨e,hn,_⟩|e|⟨e,hn,hc⟩
    ·exact cT hn (fj hk (by rcases ht with h|h<;>simp[h]))
    ·subst e;exact cT hj q2
    ·rcases ht with ht|ht
     ·exact cT (hc (.inr (mP hk (by simp[ht])))) q2
     ·exact cT hn (fj ht (by simp[hk]))
 ·refine xU st 0 j s (aP _) (by rw[iw];exact e1) hj h2 h3 fun x t' m' hx hs hLx=>?_;rw[bG]at hx hLx;obtain⟨o',f',q1,q2,q3,q4⟩:=oth x _ m' hs;rcases q4 with⟨e,_⟩|e|⟨e,hn,hc⟩
  ·omega
  ·omega
  ·refine⟨fun u h1 h2=>?_,fun k q d k' i' d' h1 h2 hk=>?_,fun k q d k' i' d' h1 h2 hk=>?_,fun k i d k' i' d' h1 h2 hk=>?_,fun k nw d k' q' d' h1 h2 hk=>?_,fun k nw d k' q' d' h1 h2 hk=>?_,fun k nw d k' i d' h1 h2 p hp hk=>?_,fun k nw d k' i d' h1 h2 p hp hk=>?_,fun k nw d k' nw' d' h1 h2=>⟨fun p hp hk=>?_,fun p hp hk=>?_⟩⟩
   ·refine cT (hc (.inl ?_)) hLx;unfold gL;rw[vu (x:=o'.dst) (l:=o.dst.toList) (q2.symm.trans h2) (by rw[h1];simp),ll]
   ·subst h1;subst h2;subst hk;exact cT (hc (.inr (mP e3.1 (.inr (.inr (.inl q3)))))) hLx
   ·subst h1;subst h2;subst hk;exact cT hn (fj q3.1 (.inr (.inr (.inl e3))))
   ·subst h1;subst h2;subst hk;exact cT (hc (.inr (wV e3 (.inr q3)))) hLx
   ·subst h1;subst h2;subst hk;exact cT hn (fj q3.1 (.inr (.inr (.inl e3.1))))
   ·subst h1;subst h2;subst hk;exact cT (hc (.inr (mP e3.1 (.inr (.inr (.inl q3.1)))))) hLx
   ·subst h1;subst h2;subst hk;exact cT (hc (.inr (mP (e3.2.2.1 p hp) (.inr (.inr (.inl q3)))))) hLx
   ·subst h1;subst h2;subst hk;exact cT hn (fj (q3.2.2.1 p hp) (.inr (.inr (.inl e3))))
   ·subst h1;subst h2;subst hk;exact cT (hc (.inr (mP (e3.2.2.1 p hp) (.inr (.inr (.inl q3.1)))))) hLx
   ·subst h1;subst h2;subst hk;exact cT hn (fj (q3.2.2.1 p hp) (.inr (.inr (.inl e3.1))))
theorem Jx(M:Mix P X0 n ops s st ps){Qx:Exit->Act->World->Prop}{w0:Bs}(hq:∀g a w,Hd X0 n w0 (stL (fun _=>true) st 0 s) g a w->Qx .normal a w):∀(fuel:Nat) (listed:Array Bool) (a:Act) (w:World) (g:Nat->Value) (U:List Nat),listed.size=ops.size->U.length<=fuel->(∀i,i<ops.size->listed.getD i false=false->i∈U)->
  uB ps (fun i=>listed.getD i false)->Hd X0 n w0 (stL (fun i=>listed.getD i false) st 0 s) g a w->wpAny P .any ops Qx fuel listed a w:=by
 have done:∀(listed:Array Bool) (a:Act) (w:World) (g:Nat->Value),(∀i,i<ops.size->listed.getD i false=true)->Hd X0 n w0 (stL (fun i=>listed.getD i false) st 0 s) g a w->Qx .normal a w:=fun listed a w g hall hh=>by
  refine hq g a w (hh.eqv (Eqv.of ?_));have key:∀(l:List (Option Tmp×Mn)) (i:Nat) (σ:S),(∀x,x<l.length->listed.getD (i+x) false=true)->stL (fun i=>listed.getD i false) l i σ=stL (fun _=>true) l i σ:=fun l=>by
   induction l with
   |nil=>intro i σ _;rfl
   |cons x l ih=>
    intro i σ hx;obtain⟨t,m⟩:=x;have h0:=hx 0 aY;rw[cf]at h0;simp only[stL,h0];exact ih (i+1) _ fun y hy=>by
     have:=hx (y+1) fD;rwa[show i+(y+1)=i+1+y by omega]at this
  exact key st 0 s fun x hx=>by rw[bG];exact hall x (by rw[<-M.len];exact hx)
 have unl:∀(listed:Array Bool) (j:Nat),listed.size=ops.size->listed.getD j true=false->j<ops.size/\listed.getD j false=false:=fun listed j hs hl=>by
  rw[cg]at hl
  cases e:listed[j]? with
  |none=>rw[e]at hl;simp at hl
  |some b=>
   rw[e]at hl;have hlt:=(gi.1 e).1;refine⟨by omega,?_⟩;rw[cg,e];simpa using hl
 intro fuel
 induction fuel with
 |zero=>
  intro listed a w g U hs hU hin hcl hh;have hUn:U=[]:=gw aa;subst hUn;have hall:∀i,i<ops.size->listed.getD i false=true:=fun i hi=>by
   cases hb:listed.getD i false with
   |true=>rfl
   |false=>exact absurd (hin i hi hb) aY
  refine⟨?_,done listed a w g hall hh⟩
  cases hr:Region.ready .any ops listed with
  |nil=>rfl
  |cons x xs=>
   exfalso;have hx:x∈Region.ready .any ops listed:=by rw[hr];exact bn
   obtain⟨h1,h2⟩:=unl listed x hs (mem_ready.1 hx).1;rw[hall x h1]at h2;cases h2
 |succ fuel ih=>
  intro listed a w g U hs hU hin hcl hh;refine⟨fun hr=>?_,fun j hj=>?_⟩
  ·refine done listed a w g (fun i=>?_) hh
   induction i using Nat.strongRecOn with
   |_ i ihi=>
    intro hi
    cases hb:listed.getD i false with
    |true=>rfl
    |false=>
     exfalso;have hmem:i∈Region.ready .any ops listed:=by
      refine mem_ready.2 ⟨?_,ops[i],iu hi,fun e he hbd=>?_⟩
      ·have e:=iu (xs:=listed) (i:=i) aa;rw[cg,e]at hb⊢;simpa using hb
      ·obtain⟨_,_,_,_,_,_,_,h5,_⟩:=M.row i ops[i] (iu hi);have hlt:=CI.lP h5 e rS hbd;exact ihi e.on hlt aa
     rw[hr]at hmem;cases hmem
  ·obtain⟨h1,o,ho,h3⟩:=mem_ready.1 hj;obtain⟨hjs,hjl⟩:=unl listed j hs h1;have hpre:∀p q,ps[j]?=some p->p.testBit q=true->listed.getD q false=true:=fun p q hp hq=>by
    obtain⟨e,he,hbd,hx⟩:=M.pre j o p q ho hp hq;have hl:=h3 e rS hbd;rcases hx with hx|⟨p',hp',hq'⟩
    ·rw[<-hx];exact hl
    ·exact hcl e.on p' q hl hp' hq'
   have hset1:(listed.setIfInBounds j true).getD j false=true:=by
    simp[cg,nu,show j<listed.size by omega]
   have hset2:∀i,i≠j->(listed.setIfInBounds j true).getD i false=listed.getD i false:=fun i e=>by
    simp[cg,th (Ne.symm e)]
   obtain⟨m,hstep,heq⟩:=M.step (L:=fun i=>listed.getD i false) hcl ho hjl hpre (L':=fun i=>(listed.setIfInBounds j true).getD i false) hset1 hset2;have hjU:j∈U:=hin j hjs hjl;have hcl':uB ps (fun i=>(listed.setIfInBounds j true).getD i false):=fun i p q hi hp hq=>by
    have key:listed.getD q false=true:=by
     by_cases e:i=j
     ·subst e;exact hpre p q hp hq
     ·exact hcl i p q (by show listed.getD i false=true;rw[<-hset2 i e];exact hi) hp hq
    by_cases e:q=j
    ·subst e;exact hset1
    ·simp only[hset2 q e];exact key
   have go:∀g' a' w',Hd X0 n w0 (mAp o.dst m (stL (fun i=>listed.getD i false) st 0 s)) g' a' w'->wpAny P .any ops Qx fuel (listed.setIfInBounds j true) a' w':=fun g' a' w' h=>by
    refine ih _ _ _ g' (U.erase j) (by simp[hs]) (by rw[List.length_erase_of_mem hjU];omega) (fun i hi hb=>?_) hcl' (h.eqv heq);have hne:i≠j:=fun e=>by subst e;rw[hset1]at hb;cases hb
    exact(List.mem_erase_of_ne hne).2 (hin i hi (by rw[<-hset2 i hne];exact hb))
   refine wpOp_step ho fun K' hK=>?_;have:=hstep w0 g a w hh Qx;split
   ·next hw=>
    rw[aj hw]at this;exact Oper.wp_mono (fun a' w' ⟨g',h⟩=>hK _ _ (go g' a' w' h)) this
   ·next hw=>
    rw[ai hw]at this;obtain⟨g',h⟩:=this;exact hK _ _ (go g' _ _ h)
def gC:List Nat->List (Nat×D)->List (Nat×D)
 |[],sl=>sl
 |k::ks,sl=>kill k (gC ks sl)
theorem yF:∀{ks:List Nat} {sl:List (Nat×D)} {k:Nat},k∈ks->∀t,(look (gC ks sl) t).is k=false
 |j::ks,sl,k,h,t=>by
  simp only[gC];rcases fI j (gC ks sl) t with⟨h1,h2⟩|h1
  ·rcases bs.1 h with e|e
   ·subst e;rw[h1];exact h2
   ·rw[h1];exact yF e t
  ·rw[h1];rfl
theorem yI:∀(ks:List Nat) {w0:Bs} {w:World} {f:Nat->Value} {a:Act} {sl:List (Nat×D)} {ow:List (Nat×Ow)},Hd X0 n w0 ⟨sl,ow⟩ f a w->Hd X0 n w0 ⟨gC ks sl,ow⟩ f a w
 |[],_,_,_,_,_,_,h=>h
 |_::ks,_,_,_,_,_,_,h=>(yI ks h).kill
theorem Mb{id:Nat}{l:List Oper}(ks:List Nat){fps:List FP}(hm:P.follows .mixedOrders=true)(h:aM P X0 n l.toArray l ⟨gC ks s.sl,s.ow⟩ fps (Q .normal))(hc:qe l.toArray n ks fps=true):aW P X0 n (.region id l.toArray true) Q s:=fun w0 f a w hd=>by
 obtain⟨st,s',h1,h2⟩:=EW h;have M:=Lb (P:=P) (X0:=X0) (s:=⟨gC ks s.sl,s.ow⟩) (st:=st) (s':=s') hc (fun k hk t=>yF hk t) (by simpa using h1);obtain⟨_,e2⟩:=vH 0 h1;refine wp_region_any hm (Jx M (w0:=w0) (fun g a' w' hh=>?_) _ _ a _ f (List.range l.toArray.size) aY aY (fun i hi _=>tg.2 hi) ?_ ?_)
 ·rw[<-e2]at hh;exact⟨s',g,hh,h2⟩
 ·intro i p q hi;simp only[cg,xD]at hi;split at hi<;>simp at hi
 ·have hz : stL (fun i => (Array.replicate l.toArray.size false).getD i false) st 0 ⟨gC ks s.sl, s.ow⟩ = ⟨gC ks s.sl, s.ow⟩ := sd _ _ _ fun i _ => by
   simp only[cg,xD];split<;>rfl
  rw[hz];exact(yI ks hd).grow ((Below.refl _ w).drew)
end
end DW
end
section
open Go.RowKit
namespace DW
section
variable {P : Program} {X0 : Nat->Prop} {n : Nat} {sl : List (Nat × D)} {ow : List (Nat × Ow)} {o : Oper} {ops : Array Oper} {l : List Oper} {K : S->Prop} {t : Nat} {d : D} {fs : List FP}
theorem Gc{x:Operand}(hx:x∈o.op.operands){u:Nat}(e:x= .tmp u):u∈CI.looks ops o:=by
 subst e;unfold CI.looks;exact List.mem_append_right _ (List.mem_filterMap.2 ⟨.tmp u,by simpa using hx,rfl⟩)
theorem Ge{j u:Nat}{c:Bool}(hg:o.guard=some (j,c))(hj:(ops[j]?).bind (·.dst)=some u):u∈CI.looks ops o:=by
 unfold CI.looks;rw[hg];simp only[hj];exact List.mem_append_left _ aY
section
variable {f : FP} {sj σ : S}
theorem sU.op(ag:sU ops o f sj σ){x:Operand}(hx:x∈o.op.operands):σ.op x=sj.op x:=by
 cases x with
 |tmp u=>exact ag.sl u (Gc hx rfl)
 |const v=>rfl
 |global g=>rfl
 |func g=>rfl
theorem sU.di(ag:sU ops o f sj σ){b:Bool}(h:di ops [] sj o b):di ops [] σ o b:=by
 unfold DW.di at h⊢
 cases hg:o.guard with
 |none=>rw[hg]at h;exact h
 |some p=>
  obtain⟨j,c⟩:=p;rw[hg]at h;simp only at h⊢;obtain⟨t,e,h1,h2,h3,h4⟩:=h;exact⟨t,e,h1,h2,by rw[ag.sl t (Ge hg h1)];exact h3,h4⟩
theorem sU.Ae(ag:sU ops o f sj σ){k:Nat}{q:Ow}(hk:k∈f.rc)(h:(k,q)∈sj.ow):(k,q)∈σ.ow:=by
 have:=kV.2 h;rw[<-ag.rc k hk]at this;exact kV.1 this
theorem uQ{w0:Bs}{w:World}{g:Nat->Value}{a:Act}(hh:Hd X0 n w0 σ g a w){b:Bool}(h:di ops [] σ o b):Region.wanted o (yielded ops a.tmps)=b:=by
 have hi:HI (XO X0 σ g) n w g Own3.Fs.none [] σ a:=⟨hh.sz,hh.df,fun t _=>hh.sl t,fun t u e=>by simp[eC]at e⟩;exact hi.want h
end
theorem K7{f:FP}{own:List (Nat×Ow)}(hw:di ops [] ⟨sl,ow⟩ o true)(ht:cr n o=true)(hd:bj P o ⟨sl,own⟩ d)(ho:∀p∈own,p∈ow/\p.1∈f.rc):MS P X0 n ops o ⟨sl,ow⟩ (.val d) f:=fun σ ag w0 g a w hh Qx=>by
 rw[aj (uQ hh (ag.di hw))];have hD:bj P o σ d:=fun X f' a w base hX how hs=>hd X f' a w base hX (fun p hp=>by
  obtain⟨k,q⟩:=p;obtain⟨h1,h2⟩:=ho _ hp;exact how _ (ag.Ae h2 h1)) (fun x hx=>by
  have h1:=hs x hx;rw[ag.op hx]at h1;cases x<;>exact h1)
 exact Oper.wp_mono (fun a' w' h=>⟨g,h⟩) (ox hD hh ht)
def D.vm:D->List Nat
 | .own k=>[k]
 | .opt k _=>[k]
 |_=>[]
theorem vk{d:D}{k:Nat}(h:d.is k=true):k∈d.vm:=by
 cases d<;>simp[D.is]at h<;>simp[D.vm,h]
theorem LG(hdst:o.dst=some t)(ht:Nat.blt t n=true):cr n o=true:=by
 unfold cr;rw[hdst];simpa[aV]using ht
theorem pP{b:Bool}{s:S}(hg:o.guard=none)(hb:b=true):di ops [] s o b:=by
 unfold di;rw[hg];exact hb
theorem Me(h:K ⟨sl,ow⟩):aM P X0 n ops [] ⟨sl,ow⟩ [] K:=⟨rfl,h⟩
theorem wb:gC [] sl=sl:=rfl
theorem ib{k:Nat}{ks:List Nat}{sl1 sl2:List (Nat×D)}(h1:gC ks sl=sl1)(h2:kill k sl1=sl2):gC (k::ks) sl=sl2:=by
 subst h1;exact h2
theorem aWmix{id:Nat}{Q:Exit->S->Prop}{sl':List (Nat×D)}(ks:List Nat){fps:List FP}(hm:P.follows .mixedOrders=true)(hs:gC ks sl=sl')(h:aM P X0 n l.toArray l ⟨sl',ow⟩ fps (Q .normal))(hc:qe l.toArray n ks fps=true):aW P X0 n (.region id l.toArray true) Q ⟨sl,ow⟩:=by
 subst hs;exact Mb ks hm h hc
theorem aM1(hg:o.guard=none)(hdst:o.dst=some t)(ht:Nat.blt t n=true)(hd:bj P o ⟨sl,[]⟩ d)(h:aM P X0 n ops l ⟨(t,d)::sl,ow⟩ fs K):aM P X0 n ops (o::l) ⟨sl,ow⟩ (⟨[],[],[],[],d.vm⟩::fs) K:=
 ⟨_,fs,.val d,rfl,fun _ hk=>vk hk,K7 (pP hg rfl) (LG hdst ht) hd (fun p hp=>by cases hp),by rw[hdst];exact h⟩
def aN(P:Program)(X0:Nat->Prop)(n:Nat)(ops:Array Oper)(ks:List Nat)(l:List Oper)(s:S)(acc:List FP)(K:S->Prop):Prop:=∃fps,aM P X0 n ops l s fps K/\qe ops n ks (acc.reverse++fps)=true
section
variable {ks : List Nat} {acc : List FP}
theorem wW{s s':S}{f:FP}(hs:∀fs,aM P X0 n ops l s' fs K->aM P X0 n ops (o::l) s (f::fs) K)(h:aN P X0 n ops ks l s' (f::acc) K):aN P X0 n ops ks (o::l) s acc K:=by
 obtain⟨fps,h1,h2⟩:=h;exact⟨f::fps,hs fps h1,by simpa using h2⟩
theorem EU(hc:qe ops n ks acc.reverse=true)(h:K ⟨sl,ow⟩):aN P X0 n ops ks [] ⟨sl,ow⟩ acc K:=⟨[],Me h,by simpa using hc⟩
theorem EP{id:Nat}{Q:Exit->S->Prop}{sl':List (Nat×D)}(ks:List Nat)(hm:P.follows .mixedOrders=true)(hs:gC ks sl=sl')(h:aN P X0 n l.toArray ks l ⟨sl',ow⟩ [] (Q .normal)):aW P X0 n (.region id l.toArray true) Q ⟨sl,ow⟩:=by
 obtain⟨fps,h1,h2⟩:=h;exact aWmix ks hm hs h1 h2
theorem aN1(hg:o.guard=none)(hdst:o.dst=some t)(ht:Nat.blt t n=true)(hd:bj P o ⟨sl,[]⟩ d)(h:aN P X0 n ops ks l ⟨(t,d)::sl,ow⟩ (⟨[],[],[],[],d.vm⟩::acc) K):aN P X0 n ops ks (o::l) ⟨sl,ow⟩ acc K:=wW (fun _ h=>aM1 hg hdst ht hd h) h
end
end
end DW
end
section
open Go.RowKit
namespace DW
section
variable {P : Program} {s : S} {o : Oper}
theorem qu{x y:Operand}{tt:TypeId}{wd:Nat}{lo:List D}{q:IntKind}{z:Int}{m:Nat}(ho:o.op= .slice tt x (some y) none none)(hx:s.op x= .ls wd lo)(hy:s.op y= .sc (.int q z))(ht:P.underlying tt=some (.slice (P.elem tt)))(hz:(P.info? (P.elem tt)).map (·.size)=some wd)(hm:z.toNat=m)(hb:0<=z/\z<=lo.length):bj P o s (.ls wd (lo.drop m)):=fun X f a w base _ _ hs=>by
 subst hm;have h1:=hs x bC;have h2:=hs y bC;rw[hx]at h1;rw[hy]at h2;simp only[SR,AR]at h1 h2;obtain⟨ad,c,h3,h4,h5⟩:=h1
 cases hq:P.info? (P.elem tt)with
 |none=>rw[hq]at hz;cases hz
 |some inf=>
  rw[hq]at hz;simp only[bQ,ah]at hz;have hlen:(lo.drop z.toNat).length=lo.length-z.toNat:=by rw[ep]
  have hr:(execOp a.eval o).run P w= .ok (.value (.slice (if c=z.toNat then ad else ad.map (·.add (z.toNat*wd))) (lo.length-z.toNat) (c-z.toNat))) w:=by
   unfold execOp;rw[ho];simp only[Option.map_none,bQ,h3,h2.1];have hru:=run_underlying ht w;simp[Instr.sliceAt,Instr.slice,Instr.sliceBounds,Instr.sliceBound,asIntOf,hru,hb.1,hb.2,sizeOf,typeInfo,hq,hz]
  refine cO hr ?_;simp only[SR,AR];refine⟨_,c-z.toNat,by rw[hlen],by rw[hlen];omega,?_⟩;by_cases he:lo.drop z.toNat=[]
  ·exact .inl he
  ·have hlt:z.toNat<lo.length:=oh fun h=>he (pI h);rcases h5 with h5|⟨b,off,e,k1,k2,k3⟩
   ·rw[h5]at hlt;simp at hlt
   ·refine .inr ⟨b,off+z.toNat*wd,?_,k1,k2,ARs.mk fun i d hd=>?_⟩
    ·rw[ai aa,e,bQ,cP]
    ·rw[fU]at hd;have:=ARs.at k3 hd;rw[bU,<-mq]at this;exact this
end
end DW
end
section
open Go.RowKit
namespace DW
theorem IZ.gr{Y:Nat->Prop}{w w':World}{x:IV}{z:Int}(h:IZ w x z)(k:Gr Y w w')(hb:∀b,Y b->NW w b):IZ w' x z:=by
 obtain⟨l,h1,h2,h3⟩:=h;refine⟨l,⟨h1.n,h1.cap,?_,h1.nf⟩,h2,h3⟩;rcases h1.ws with h|⟨b,e,hg,hc⟩
 ·exact .inl h
 ·by_cases hl:l=[]
  ·exact .inl hl
  have hne:¬Y b:=fun e2=>hb b e2 _ (hc 0 _ (aS (gA.2 hl)));exact .inr ⟨b,e,aJ hg k.size,fun i x hk=>(World.cell?_of_block (a:=⟨b,i,none⟩) (k.block b hg hne)).trans (hc i x hk)⟩
theorem Gr.agr{X Y:Nat->Prop}{w w':World}(k:Gr Y w w')(hb:∀b,Y b->NW w b)(hX:∀b,Y b->X b):Agr X w w':=
 ⟨k.size,fun b h1 h2=>k.block b h1 fun h=>h2 (hX b h),fun _ _ h=>IZ.gr h k hb⟩
theorem Gr.trans{Y Z:Nat->Prop}{w w' w2:World}(h:Gr Y w w')(k:Gr Z w' w2)(hz:∀b,Z b->w.heap.size<=b\/Y b):Gr Y w w2:=
 ⟨k.os.trans h.os,k.tape.trans h.tape,k.output.trans h.output,aX h.size k.size,fun b hb hy=>(k.block b (aJ hb h.size) fun e=>by
  rcases hz b e with h1|h1
  ·omega
  ·exact hy h1).trans (h.block b hb hy)⟩
def blk(f:Nat->Value)(os:List (Nat×Ow))(b:Nat):Prop:=∃p∈os,(f p.1).ownBlock=some b
def XB(X:Nat->Prop)(f:Nat->Value)(os:List (Nat×Ow))(b:Nat):Prop:=X b\/blk f os b
structure OS(X:Nat->Prop)(f:Nat->Value)(w:World)(os:List (Nat×Ow)):Prop where
 ow:∀p∈os,OW (XB X f os) f w 0 p
 nw:∀b,blk f os b->NW w b
 dj:∀p∈os,∀q∈os,p.1≠q.1->∀b,(f p.1).ownBlock=some b->(f q.1).ownBlock≠some b
 un:∀p∈os,∀q∈os,p.1=q.1->p=q
 xd:∀b,X b->¬blk f os b
def SRs(X:Nat->Prop)(f:Nat->Value)(w:World):List D->List Value->Prop
 |[],vs=>vs=[]
 |d::l,vs=>∃u rest,vs=u::rest/\SR X f w d u/\SRs X f w l rest
theorem SRs.at{X:Nat->Prop}{f:Nat->Value}{w:World}:∀{l:List D} {i:Nat} {d:D} {vs:List Value},SRs X f w l vs->l[i]?=some d->∃u,vs[i]?=some u/\SR X f w d u
 |[],_,_,_,_,h=>by simp at h
 |_::_,0,_,_,⟨u,rest,h1,h2,_⟩,e=>by simp at e;subst e;exact⟨u,by rw[h1];rfl,h2⟩
 |_::_,i+1,_,_,⟨u,rest,h1,_,h3⟩,e=>by
  obtain⟨u',k1,k2⟩:=SRs.at h3 oc;exact⟨u',by rw[h1];simpa using k1,k2⟩
theorem SRs.len{X:Nat->Prop}{f:Nat->Value}{w:World}:∀{l:List D} {vs:List Value},SRs X f w l vs->vs.length=l.length
 |[],_,h=>by rw[show _=[]from h];rfl
 |_::_,_,⟨_,_,h1,_,h3⟩=>by rw[h1];simp[SRs.len h3]
def sT(P:Program)(g:FuncId)(ds:List D)(os:List (Nat×Ow))(r:D)(os':List (Nat×Ow)):Prop:=
 ∀(X:Nat->Prop) (f:Nat->Value) (w:World) (vs:Array Value),XW X w->OS X f w os->SRs (XB X f os) f w ds vs.toList->
  Calls P g vs w (fun e w'=>∃u f',e= .returned u/\Gr (blk f os) w w'/\OS X f' w' os'/\(∀b,blk f' os' b->blk f os b\/w.heap.size<=b)/\(∀p∈os,f' p.1=f p.1)/\SR (XB X f' os') f' w' r u)
abbrev FnG(P:Program)(g:FuncId)(ds:List D)(os:List (Nat×Ow))(r:D)(os':List (Nat×Ow)):Prop:=Go.Proofs.Enters P g/\sT P g ds os r os'
section
variable {P : Program} {X0 : Nat->Prop} {n : Nat} {Q : Exit->S->Prop} {s : S} {sl : List (Nat × D)} {ow : List (Nat × Ow)} {o : Oper} {ops : Array Oper} {l : List Oper} {K : S->Prop} {t : Nat} {d : D}
theorem yq{w w':World}{base:Nat}{e:TypeId}{size:Nat}{v:Value}{m:Nat}{xs:List Value}(h:w.ownsRow base e size v m xs){g:Nat}(hv:v.ownBlock=some g)(hb:w'.heap[g]?=w.heap[g]?):w'.ownsRow base e size v m xs:=by
 refine⟨h.1,?_⟩;rcases h.2 with hn|⟨g',cap,cur,rfl,hb',hgg,rest⟩
 ·exact .inl hn
 ·simp only[Value.ownBlock,ah]at hv;subst hv;exact .inr ⟨g',cap,cur,rfl,hb',hb.trans hgg,rest⟩
theorem yr{w w':World}{base:Nat}{e:TypeId}{size:Nat}{v:Value}{m:Nat}{xs:List Value}(h:w.ownsRow base e size v m xs)(hv:v.ownBlock=none):w'.ownsRow base e size v m xs:=by
 refine⟨h.1,?_⟩;rcases h.2 with hn|⟨g',cap,cur,rfl,_⟩
 ·exact .inl hn
 ·cases hv
inductive zn(P:Program)(fn:Func)(s:S):D->Prop
 |res (d:D) (h:Res P fn s d) (hd:d.seen=true):zn P fn s d
 |own (t k:Nat) (h:fn.results= #[.tmp t]) (h1:s.gt t= .own k):zn P fn s (.own k)
def fing(P:Program)(X0:Nat->Prop)(n:Nat)(fn:Func)(r:D)(os':List (Nat×Ow)):Exit->S->Prop
 | .normal,s=>∃s',Sh X0 n s s'/\zn P fn s' r/\s'.ow=os'
 | .ret,s=>∃s',Sh X0 n s s'/\zn P fn s' r/\s'.ow=os'
 |_,_=>False
theorem Ad{g:FuncId}{fn:Func}{c:Code}{ds:List D}{os os':List (Nat×Ow)}{r:D}(hf:P.funcs[g]?=some fn)(hb:fn.body=some c)(hn:Nat.ble ds.length fn.ntmps=true)(hpin:∀p∈os,pin p.1=true)
  (h:∀X0,aW P X0 fn.ntmps c (fing P X0 fn.ntmps fn r os') ⟨aA 0 ds,os⟩):sT P g ds os r os':=fun X f w vs hX hO hv=>by
 have hl:=hv.len;simp only[bJ]at hl;have hn':ds.length<=fn.ntmps:=by simpa using hn
 have hd:Hd X fn.ntmps ⟨w,blk f os,f⟩ ⟨aA 0 ds,os⟩ f {tmps:=vs++Array.replicate (fn.ntmps-vs.size) undef,defers:=[]} w:=by
  refine⟨by simp;omega,rfl,Gr.refl _ _,hX,hO.xd,fun _ _=>rfl,fun p hp b hb=>.inr ⟨p,hp,hb⟩,fun t=>?_,hO.ow,hO.nw,hO.dj,hO.un⟩;show SR _ _ _ (look (aA 0 ds) t) _;rw[qi,aj (aP _),iw]
  cases hd:ds[t]? with
  |none=>exact SR.any
  |some d=>
   obtain⟨u,k1,k2⟩:=SRs.at hv hd;have k1':vs[t]?=some u:=by simpa using k1
   have hlt:=(gi.1 k1').1;have e:(vs++Array.replicate (fn.ntmps-vs.size) undef).getD t undef=u:=by
    rw[cg,ot hlt,k1'];rfl
   show SR _ _ _ d (Array.getD _ t undef);rw[e];exact k2
 have key:∀s' f' a w',Hd X fn.ntmps ⟨w,blk f os,f⟩ s' f' a w'->(∃s'',Sh X fn.ntmps s' s''/\zn P fn s'' r/\s''.ow=os')->a.defers=[]/\∃v,(results fn a.tmps).run P w'= .ok v w'/\(∃u f',Ending.returned v= .returned u/\Gr (blk f os) w w'/\OS X f' w' os'/\(∀b,blk f' os' b->blk f os b\/w.heap.size<=b)/\(∀p∈os,f' p.1=f p.1)/\SR (XB X f' os') f' w' r u):=fun s' f' a w' h1 ⟨s'',h2,h3,h4⟩=>by
  obtain⟨f'',h5⟩:=h2 _ f' a w' h1;subst h4;refine⟨h5.df,?_⟩;have hos:OS X f'' w' s''.ow:=⟨h5.ow,fun b hb=>h5.nw b hb,h5.dj,h5.un,fun b hb ⟨p,hp,e⟩=>by
   rcases h5.lo p hp b e with h6|h6
   ·exact absurd (hX b hb).1 (by simp only at h6;omega)
   ·exact hO.xd b hb h6⟩
  have hbk:∀b,blk f'' s''.ow b->blk f os b\/w.heap.size<=b:=fun b ⟨p,hp,e⟩=>(h5.lo p hp b e).symm;have hkp:∀p∈os,f'' p.1=f p.1:=fun p hp=>h5.fx p.1 (hpin p hp)
  cases h3 with
  |res d h6 h7=>
   obtain⟨v,k1,k2⟩:=zQ h5 h6;refine⟨v,k1,v,f'',rfl,h5.bl,hos,hbk,hkp,?_⟩;have k3:AR (XB X f'' s''.ow) w' r v:=k2;cases r<;>first|exact k3|simp[D.seen]at h7
  |own t k h6 h7=>
   have h8:=h5.sl t;rw[h7]at h8;refine⟨f'' k,?_,f'' k,f'',rfl,h5.bl,hos,hbk,hkp,rfl⟩;unfold results;rw[h6];simp only[SR]at h8;rw[cg]at h8;simp[h8]
 refine calls_of_wp hf hb (Code.wp_mono (fun e a w' ⟨s',f',h1,h2⟩=>?_) (h X _ f _ w hd));cases e<;>simp only[fing]at h2<;>simp only[bodyPost]
 ·exact key s' f' a w' h1 h2
 ·exact key s' f' a w' h1 h2
theorem ER.re{X:Nat->Prop}{f f':Nat->Value}{w:World}{d:D}{u:Value}(h:ER X f w d u)(hf:∀j,im j=true->d= .own j->f' j=f j):ER X f' w d u:=by
 cases d<;>first|exact h|exact⟨h.1,by rw[hf _ h.1 rfl];exact h.2.1,h.2.2⟩
theorem ElH.re{X:Nat->Prop}{f f':Nat->Value}{w:World}:∀{l:List D} {xs:List Value},ElH X f w l xs->(∀j,im j=true->.own j∈l->f' j=f j)->ElH X f' w l xs
 |[],_,h,_=>h
 |d::_,_,⟨u,rest,h1,h2,h3,h4,h5,h6,h7⟩,hf=>⟨u,rest,h1,h2,h3,h4.re fun j hr e=>hf j hr (by rw[<-e];exact bn),h5,h6,h7.re fun j hr hj=>hf j hr (bq _ hj)⟩
theorem EE.re{X:Nat->Prop}{f f':Nat->Value}{w:World}{k wd:Nat}{l:List D}{xs:List Value}(h:EE X f w k wd l xs)(hf:hdr k=true->∀j,im j=true->.own j∈l->f' j=f j):EE X f' w k wd l xs:=by
 unfold EE at h⊢
 cases hh:hdr k with
 |false=>rw[hh]at h;exact h
 |true=>rw[hh]at h;exact⟨h.1,h.2.re (hf hh)⟩
def inK(os:List (Nat×Ow))(k:Nat):Bool:=os.any fun p=>Nat.beq p.1 k
theorem qp{os:List (Nat×Ow)}{k:Nat}:inK os k=true↔∃p∈os,p.1=k:=by
 unfold inK;rw[eR];constructor
 ·rintro⟨p,hp,h⟩;exact⟨p,hp,cn h⟩
 ·rintro⟨p,hp,h⟩;exact⟨p,hp,by rw[h,dz]⟩
theorem Hd.call{w0:Bs}{f f':Nat->Value}{a:Act}{w w':World}{os os' ow1:List (Nat×Ow)}{r:D}{u:Value}(h:Hd X0 n w0 ⟨sl,ow⟩ f a w)
  (hos:∀p∈os,p∈ow) (h1:∀p∈ow1,p∈ow/\∀q∈os,q.1≠p.1)
  (hnew:∀p∈os',(∃q∈os,q.1=p.1)\/(pin p.1=false/\(∀t,(look sl t).is p.1=false)/\∀q∈ow1,q.1≠p.1/\(hdr q.1=true->im p.1=true-> .own p.1∉q.2.l)))
  (hm':∀p∈os',hdr p.1=true->∀j, .own j∈p.2.l->∃q∈os',q.1=j) (hr:∀k,r.is k=true->∃q∈os',q.1=k) (ht:t<n)
  (hg:Gr (blk f os) w w') (hO:OS (fun b=>XO X0 ⟨sl,ow⟩ f b/\¬blk f os b) f' w' os') (hb:∀b,blk f' os' b->blk f os b\/w.heap.size<=b) (hk:∀p∈os,f' p.1=f p.1) (hu:SR (XB (fun b=>XO X0 ⟨sl,ow⟩ f b/\¬blk f os b) f' os') f' w' r u):
  Hd X0 n w0 ⟨(t,r)::sl,os'++ow1⟩ (fun k=>if inK os' k then f' k else f k) (a.put (some t) u) w':=by
 have e1:∀p∈os',(if inK os' p.1 then f' p.1 else f p.1)=f' p.1:=fun p hp=>aj (qp.2 ⟨p,hp,rfl⟩);have e2:∀p∈ow1,(if inK os' p.1 then f' p.1 else f p.1)=f p.1:=fun p hp=>ai fun hh=>by
  obtain⟨q,hq,e⟩:=qp.1 hh;rcases hnew q hq with⟨q2,h2,e'⟩|h2
  ·exact(h1 p hp).2 q2 h2 (e'.trans e)
  ·exact(h2.2.2 p hp).1 e.symm
 have e3:∀k,(∃q∈os,q.1=k)\/inK os' k=false->(if inK os' k then f' k else f k)=f k:=fun k hh=>by
  rcases hh with⟨q,hq,rfl⟩|hh
  ·split
   ·exact hk q hq
   ·rfl
  ·rw[ai (by rw[hh];simp)]
 have hlt:∀p∈ow,∀b,(f p.1).ownBlock=some b->b<w.heap.size:=fun p hp b e=>((h.ow p hp).lt e).2;have hbo:∀b,blk f os b->blk f ow b:=fun b ⟨p,hp,e⟩=>⟨p,hos p hp,e⟩;have hX0:∀b,X0 b->¬blk f ow b:=fun b hb0 ⟨p,hp,e⟩=>by
  rcases h.lo p hp b e with h2|h2
  ·exact absurd (h.x0 b hb0).1 aa
  ·exact h.xy b hb0 h2
 have hd1:∀b,blk f ow1 b->¬blk f os b:=fun b ⟨p,hp,e⟩ ⟨q,hq,e'⟩=>h.dj p (h1 p hp).1 q (hos q hq) (fun e2=>(h1 p hp).2 q hq e2.symm) b e e';have hag:Agr (XO X0 ⟨sl,ow⟩ f) w w':=hg.agr (fun b hb=>h.nw b (hbo b hb)) (fun b hb=> .inr (hbo b hb));have hX1:∀b,XO X0 ⟨(t,r)::sl,os'++ow1⟩ (fun k=>if inK os' k then f' k else f k) b->X0 b\/blk f' os' b\/blk f ow1 b:=fun b hb=>by
  rcases hb with hb|⟨p,hp,e⟩
  ·exact .inl hb
  ·rcases dR.1 hp with hp|hp
   ·simp only[e1 p hp]at e;exact .inr (.inl ⟨p,hp,e⟩)
   ·simp only[e2 p hp]at e;exact .inr (.inr ⟨p,hp,e⟩)
 have hXw:∀b,b<w.heap.size->XO X0 ⟨(t,r)::sl,os'++ow1⟩ (fun k=>if inK os' k then f' k else f k) b->XO X0 ⟨sl,ow⟩ f b:=fun b hbs hx=>by
  rcases hX1 b hx with h2|h2|⟨p,hp,e⟩
  ·exact .inl h2
  ·rcases hb b h2 with h3|h3
   ·exact .inr (hbo b h3)
   ·omega
  ·exact .inr ⟨p,(h1 p hp).1,e⟩
 have hXO:∀b,XO X0 ⟨(t,r)::sl,os'++ow1⟩ (fun k=>if inK os' k then f' k else f k) b->XB (fun b=>XO X0 ⟨sl,ow⟩ f b/\¬blk f os b) f' os' b:=fun b hx=>by
  rcases hX1 b hx with h2|h2|h2
  ·exact .inl ⟨.inl h2,fun hh=>hX0 b h2 (hbo b hh)⟩
  ·exact .inr h2
  ·obtain⟨p,hp,e⟩:=h2;exact .inl ⟨.inr ⟨p,(h1 p hp).1,e⟩,hd1 b ⟨p,hp,e⟩⟩
 refine⟨by simp[Act.put,h.sz],h.df,h.bl.trans hg fun b ⟨p,hp,e⟩=>h.lo p (hos p hp) b e,h.x0,h.xy,fun j hj=>?_,fun p hp b e=>?_,fun v=>?_,fun p hp=>?_,fun b ⟨p,hp,e⟩=>?_,fun p hp q hq hne b e e'=>?_,fun p hp q hq e=>?_⟩
 ·rw[e3 j ?_]
  ·exact h.fx j hj
  ·cases hi:inK os' j with
   |false=>exact .inr rfl
   |true=>
    obtain⟨q,hq,rfl⟩:=qp.1 hi;rcases hnew q hq with h2|h2
    ·exact .inl h2
    ·rw[h2.1]at hj;cases hj
 ·rcases dR.1 hp with hp|hp
  ·simp only[e1 p hp]at e;rcases hb b ⟨p,hp,e⟩with⟨q,hq,e'⟩|h3
   ·exact h.lo q (hos q hq) b e'
   ·exact .inl (by have:=h.bl.size;omega)
  ·simp only[e2 p hp]at e;exact h.lo p (h1 p hp).1 b e
 ·rw[jN (by rw[h.sz];exact ht)];show SR _ _ _ (look ((t,r)::sl) v) _;simp only[look];split
  ·cases hrd:r with
   |own k=>
    rw[hrd]at hu;obtain⟨q,hq,rfl⟩:=hr k (by rw[hrd];simp[D.is,dz]);simp only[SR,e1 q hq];exact hu
   |opt k off=>
    rw[hrd]at hu;obtain⟨q,hq,rfl⟩:=hr k (by rw[hrd];simp[D.is,dz]);simp only[SR,e1 q hq];exact hu
   |_=>rw[hrd]at hu;exact AR.free hu (fun b _ hb=>hXO b hb)
  ·have h2:SR (XO X0 ⟨sl,ow⟩ f) f w (look sl v) (a.tmps.getD v undef):=h.sl v;have h3:∀k,(look sl v).is k=true->(if inK os' k then f' k else f k)=f k:=fun k hk2=>e3 k (by
    cases hi:inK os' k with
    |false=>exact .inr rfl
    |true=>
     obtain⟨q,hq,rfl⟩:=qp.1 hi;rcases hnew q hq with h4|h4
     ·exact .inl h4
     ·rw[h4.2.1 v]at hk2;cases hk2)
   cases hd:look sl v with
   |own k=>
    rw[hd]at h2 h3;simp only[SR]at h2⊢;rw[h3 k (by simp[D.is,dz])];exact h2
   |opt k off=>
    rw[hd]at h2 h3;simp only[SR]at h2⊢;rw[h3 k (by simp[D.is,dz])];exact h2
   |_=>rw[hd]at h2;exact AR.agr hag hXw _ _ h2
 ·rcases dR.1 hp with hp|hp
  ·obtain⟨k0,zs,k1,k2⟩:=hO.ow p hp;refine⟨k0,zs,by simp only[e1 p hp];exact k1,?_⟩;exact(EE.agr (Agr.refl _ w') (fun b _ hb=>hXO b hb) (fun _ _=>rfl) k2).re fun hh j _ hj=>by
    obtain⟨q,hq,rfl⟩:=hm' p hp hh j hj;exact e1 q hq
  ·obtain⟨k0,zs,k1,k2⟩:=h.ow p (h1 p hp).1;refine⟨k0,zs,?_,?_⟩
   ·simp only[e2 p hp]
    cases hv:(f p.1).ownBlock with
    |none=>exact yr k1 hv
    |some g=>exact yq k1 hv (hg.block g (hlt p (h1 p hp).1 g hv) (hd1 g ⟨p,hp,hv⟩))
   ·refine(EE.agr hag hXw (fun _ _=>rfl) k2).re fun hh j hrw hj=>e3 j ?_
    cases hi:inK os' j with
    |false=>exact .inr rfl
    |true=>
     obtain⟨q,hq,rfl⟩:=qp.1 hi;rcases hnew q hq with h4|h4
     ·exact .inl h4
     ·exact absurd hj ((h4.2.2 p hp).2 hh hrw)
 ·rcases dR.1 hp with hp|hp
  ·simp only[e1 p hp]at e;exact hO.nw b ⟨p,hp,e⟩
  ·simp only[e2 p hp]at e;have hpo:=(h1 p hp).1;intro m hm;have:w'.cell? ⟨b,0,none⟩=w.cell? ⟨b,0,none⟩:=World.cell?_of_block (hg.block b (hlt p hpo b e) (hd1 b ⟨p,hp,e⟩));rw[this]at hm;exact h.nw b ⟨p,hpo,e⟩ m hm
 ·have cross : ∀ p ∈ os', ∀ q ∈ ow1, ∀ b, (f' p.1).ownBlock = some b -> (f q.1).ownBlock = some b -> False := fun p hp q hq b e e' => by
   rcases hb b ⟨p,hp,e⟩with h3|h3
   ·exact hd1 b ⟨q,hq,e'⟩ h3
   ·have:=hlt q (h1 q hq).1 b e';omega
  rcases dR.1 hp with hp|hp<;>rcases dR.1 hq with hq|hq
  ·simp only[e1 p hp,e1 q hq]at e e';exact hO.dj p hp q hq hne b e e'
  ·simp only[e1 p hp,e2 q hq]at e e';exact cross p hp q hq b e e'
  ·simp only[e2 p hp,e1 q hq]at e e';exact cross q hq p hp b e' e
  ·simp only[e2 p hp,e2 q hq]at e e';exact h.dj p (h1 p hp).1 q (h1 q hq).1 hne b e e'
 ·have cross : ∀ p ∈ os', ∀ q ∈ ow1, p.1 = q.1 -> False := fun p hp q hq e => by
   rcases hnew p hp with⟨q2,h4,e4⟩|h4
   ·exact(h1 q hq).2 q2 h4 (e4.trans e)
   ·exact(h4.2.2 q hq).1 e.symm
  rcases dR.1 hp with hp|hp<;>rcases dR.1 hq with hq|hq
  ·exact hO.un p hp q hq e
  ·exact(cross p hp q hq e).elim
  ·exact(cross q hq p hp e.symm).elim
  ·exact h.un p (h1 p hp).1 q (h1 q hq).1 e
end
end DW
end
section
open Go.RowKit
namespace DW
section
variable {P : Program} {X0 : Nat->Prop} {n : Nat} {Q : Exit->S->Prop} {s : S} {sl : List (Nat × D)} {ow : List (Nat × Ow)} {o : Oper} {ops : Array Oper} {l : List Oper} {K : S->Prop} {t : Nat} {d : D}
theorem Dq{X:Nat->Prop}{f:Nat->Value}{w:World}(s:S)(a:Act):∀l:List Operand,(∀x∈l,SR X f w (s.op x) (a.eval x))->SRs X f w (l.map s.op) (l.map a.eval)
 |[],_=>rfl
 |x::l,h=>⟨_,_,rfl,h x bn,Dq s a l fun y hy=>h y (bq _ hy)⟩
structure zq(sl:List (Nat×D))(ow os os' ow1:List (Nat×Ow))(r:D):Prop where
 sub:∀p∈os,p∈ow
 rest:∀p∈ow1,p∈ow/\∀q∈os,q.1≠p.1
 new:∀p∈os',(∃q∈os,q.1=p.1)\/(pin p.1=false/\(∀t,(look sl t).is p.1=false)/\∀q∈ow1,q.1≠p.1/\(hdr q.1=true->im p.1=true->.own p.1∉q.2.l))
 men:∀p∈os',hdr p.1=true->∀j,.own j∈p.2.l->∃q∈os',q.1=j
 res:∀k,r.is k=true->∃q∈os',q.1=k
theorem E7{g:FuncId}{xs:List Operand}{ts:Array TypeId}{ds:List D}{os os' ow1:List (Nat×Ow)}{r:D}(hdst:o.dst=some t)(ht:Nat.blt t n=true)(ho:o.op= .call {callee:=.value (.func g),args:=xs.toArray,argTypes:=ts})(hd:xs.map (S.op ⟨sl,ow⟩)=ds)(hf:FnG P g ds os r os')(hc:zq sl ow os os' ow1 r)
  {w0:Bs} {f:Nat->Value} {a:Act} {w:World} (hh:Hd X0 n w0 ⟨sl,ow⟩ f a w) (Qx:Exit->Act->World->Prop):o.wp P a w (fun a' w'=>∃f',Hd X0 n w0 ⟨(t,r)::sl,os'++ow1⟩ f' a' w') Qx:=by
 have hr:(execOp a.eval o).run P w= .ok (.enter g (xs.map a.eval).toArray) w:=by
  unfold execOp;rw[ho];have:=hf.1 (xs.map a.eval).toArray w;simp[resolve,invoke,Deferred.ofValue,Act.eval,this]
 have hXB:XB (fun b=>XO X0 ⟨sl,ow⟩ f b/\¬blk f os b) f os=XO X0 ⟨sl,ow⟩ f:=funext fun b=>propext (by
  constructor
  ·rintro(h|⟨p,hp,e⟩)
   ·exact h.1
   ·exact .inr ⟨p,hc.sub p hp,e⟩
  ·intro h;by_cases hb:blk f os b
   ·exact .inr hb
   ·exact .inl ⟨h,hb⟩)
 have hO:OS (fun b=>XO X0 ⟨sl,ow⟩ f b/\¬blk f os b) f w os:=⟨fun p hp=>by rw[hXB];exact hh.ow p (hc.sub p hp),fun b ⟨p,hp,e⟩=>hh.nw b ⟨p,hc.sub p hp,e⟩,fun p hp q hq=>hh.dj p (hc.sub p hp) q (hc.sub q hq),fun p hp q hq=>hh.un p (hc.sub p hp) q (hc.sub q hq),fun b hb=>hb.2⟩;have hS:SRs (XB (fun b=>XO X0 ⟨sl,ow⟩ f b/\¬blk f os b) f os) f w ds (xs.map a.eval).toArray.toList:=by
  rw[hXB,<-hd];exact Dq ⟨sl,ow⟩ a xs fun x _=>hh.op x
 unfold Oper.wp;rw[hr,Oper.upon_enter];refine(hf.2 _ f w _ (fun b hb=>hh.xlt b hb.1) hO hS).mono fun e w' ⟨u,f',he,h1,h2,h3,h4,h5⟩=>?_;subst he;rw[hdst];exact⟨_,hh.call hc.sub hc.rest hc.new hc.men hc.res Bi h1 h2 h3 h4 h5⟩
theorem AA{g:FuncId}{xs:List Operand}{ts:Array TypeId}{ds:List D}{os os':List (Nat×Ow)}{r:D}(ow1:List (Nat×Ow))(hg:o.guard=none)(hdst:o.dst=some t)(ht:Nat.blt t n=true)(ho:o.op= .call {callee:=.value (.func g),args:=xs.toArray,argTypes:=ts})(hd:xs.map (S.op ⟨sl,ow⟩)=ds)(hf:FnG P g ds os r os')(hc:zq sl ow os os' ow1 r)
  (h:aL P X0 n ops l K ⟨(t,r)::sl,os'++ow1⟩):aL P X0 n ops (o::l) K ⟨sl,ow⟩:=
 jd fun w0 f a w Qx hh=>⟨by simp[Region.wanted,hg],Oper.wp_mono (fun _ _ ⟨f',h1⟩=>⟨_,f',h1,h⟩) (E7 hdst ht ho hd hf hc hh Qx)⟩
theorem Hd.re{w0:Bs}{f f':Nat->Value}{a:Act}{w:World}{s':S}(h:Hd X0 n w0 s f a w)(τ:Nat->Nat)
  (h1:∀p∈s'.ow,∃q:Ow,(τ p.1,q)∈s.ow/\f' p.1=f (τ p.1)/\p.2.T=q.T/\p.2.wd=q.wd/\p.2.l.length=q.l.length/\∀X xs,EE X f w (τ p.1) q.wd q.l xs->EE X f' w p.1 q.wd p.2.l xs)
  (h2:∀p∈s'.ow,∀p2∈s'.ow,τ p.1=τ p2.1->p=p2) (h3:∀t X v,SR X f w (s.gt t) v->SR X f' w (s'.gt t) v) (h4:∀j,pin j=true->f' j=f j):Hd X0 n w0 s' f' a w:=by
 have hX:∀b,XO X0 s' f' b->XO X0 s f b:=fun b hb=>by
  rcases hb with hb|⟨p,hp,e⟩
  ·exact .inl hb
  ·obtain⟨q,q1,q2,_⟩:=h1 p hp;exact .inr ⟨_,q1,by rw[<-q2];exact e⟩
 refine⟨h.sz,h.df,h.bl,h.x0,h.xy,fun j hj=>(h4 j hj).trans (h.fx j hj),fun p hp b e=>?_,fun t=>?_,fun p hp=>?_,fun b ⟨p,hp,e⟩=>?_,fun p hp q hq hne b e e'=>?_,fun p hp q hq e=>h2 p hp q hq (by rw[e])⟩
 ·obtain⟨q,q1,q2,_⟩:=h1 p hp;exact h.lo _ q1 b (by rw[<-q2];exact e)
 ·have h5:=h3 t _ _ (h.sl t);cases hd:s'.gt t<;>rw[hd]at h5<;>first|exact AR.free h5 (fun b _ hb=>hX b hb)|exact h5
 ·obtain⟨q,q1,q2,q3,q4,q5,q6⟩:=h1 p hp;obtain⟨k0,zs,k1,k2⟩:=h.ow _ q1;refine⟨by rw[q4];exact k0,zs,by rw[q2,q3,q4,q5];exact k1,?_⟩;rw[q4];exact EE.agr (Agr.refl _ w) (fun b _ hb=>hX b hb) (fun _ _=>rfl) (q6 _ _ k2)
 ·obtain⟨q,q1,q2,_⟩:=h1 p hp;exact h.nw b ⟨_,q1,by rw[<-q2];exact e⟩
 ·obtain⟨q1,r1,r2,_⟩:=h1 p hp;obtain⟨q2,r3,r4,_⟩:=h1 q hq;exact h.dj _ r1 _ r3 (fun hh=>hne (by rw[h2 p hp q hq hh])) b (by rw[<-r2];exact e) (by rw[<-r4];exact e')
theorem ElH.map{X:Nat->Prop}{f f':Nat->Value}{w:World}:∀{l l':List D} {xs:List Value},ElH X f w l xs->l'.length=l.length->(∀(i:Nat) (d d':D),l[i]?=some d->l'[i]?=some d'->d'.wd=1/\∀u,ER X f w d u->ER X f' w d' u)->ElH X f' w l' xs
 |[],[],_,h,_,_=>h
 |[],_::_,_,_,h,_=>by simp at h
 |_::_,[],_,_,h,_=>by simp at h
 |d::_,d'::_,_,⟨u,rest,h1,h2,h3,h4,_,h6,h7⟩,hl,hh=>by
  obtain⟨k1,k2⟩:=hh 0 d d' rfl rfl;exact⟨u,rest,h1,h2,h3,k2 u h4,k1,h6,ElH.map h7 pA fun i e e' he he'=>hh (i+1) e e' rS (by simpa using he')⟩
end
end DW
end
section
open Go.RowKit
namespace DW
section
variable {P : Program} {X0 : Nat->Prop} {n : Nat} {Q : Exit->S->Prop} {s : S} {sl : List (Nat × D)} {ow : List (Nat × Ow)} {o : Oper} {ops : Array Oper} {l : List Oper} {K : S->Prop} {t : Nat} {d : D}
def mvD(a b:Nat):D->D
 | .own j=>match Nat.beq j a with|true=>.own b|false=>.own j
 | .opt j off=>match Nat.beq j a with|true=>.opt b off|false=>.opt j off
 |d=>d
def mvS(a b:Nat):List (Nat×D)->List (Nat×D)
 |[]=>[]
 |(t,d)::l=>(t,mvD a b d)::mvS a b l
theorem sC(a b:Nat):∀(l:List (Nat×D)) (t:Nat),look (mvS a b l) t=mvD a b (look l t)
 |[],_=>rfl
 |(u,d)::l,t=>by
  simp only[mvS,look];split
  ·rfl
  ·exact sC a b l t
def noS(b:Nat)(l:List (Nat×D)):Bool:=l.all fun p=>!p.2.is b
theorem oL{b:Nat}:∀{l:List (Nat×D)},noS b l=true->∀t,(look l t).is b=false
 |[],_,_=>rfl
 |(u,d)::l,h,t=>by
  simp only[noS,nt,bV,lp]at h;simp only[look];split
  ·exact h.1
  ·exact oL (l:=l) h.2 t
theorem Els.elh{X:Nat->Prop}{f:Nat->Value}{w:World}:∀{l:List D} {xs:List Value},Els X w 1 l xs->(∀d∈l,d.agg=false)->ElH X f w l xs
 |[],_,h,_=>h
 |d::l,_,⟨u,rest,h1,h2,h3,h4,h5,h6⟩,ha=>by
  have hs:=AR.shape h3 h2;rw[ha d bn]at hs;obtain⟨k1,k2⟩:=hs;refine⟨u,rest,by rw[h1,k2];rfl,k1,k2,?_,h4,fun m e=>AR.nwd d u h2 h5 m (by rw[k2,e];rfl),Els.elh h6 fun d hd=>ha d (bq _ hd)⟩;cases d<;>first|exact⟨h2,h3⟩|simp[D.fits]at h3
theorem Ij{a b:Nat}{q:Ow}{ow':List (Nat×Ow)}(hq:(a,q)∈ow)(hb:pin b=false)(hh:hdr b=hdr a\/(hdr a=false/\q.wd=1/\∀d∈q.l,d.agg=false))(hf:∀p∈ow,p.1≠b/\(hdr p.1=true->.own b∉p.2.l))(hs:noS b sl=true)
  (ho:∀p∈ow',p=(b,q)\/(p∈ow/\p.1≠a)):Sh X0 n ⟨sl,ow⟩ ⟨mvS a b sl,ow'⟩:=fun w0 f ac w h=>by
 refine⟨fun j=>if j=b then f a else f j,h.re (fun k=>if k=b then a else k) (fun p hp=>?_) (fun p hp p2 hp2 e=>?_) (fun t X v hv=>?_) fun j hj=>ai fun e=>by rw[e,hb]at hj;cases hj⟩
 ·rcases ho p hp with rfl|⟨h1,h2⟩
  ·refine⟨q,by simp only[if_true];exact hq,by simp,rfl,rfl,rfl,fun X xs hx=>?_⟩;simp only[if_true]at hx;have hx2:EE X (fun j=>if j=b then f a else f j) w a q.wd q.l xs:=hx.re fun hh j _ hj=>ai fun e=>(hf _ hq).2 hh (by rw[<-e];exact hj);rcases hh with hh|⟨hh,h3,h4⟩
   ·unfold EE at hx2⊢;rw[hh];exact hx2
   ·have h5:=hx2.pl hh;unfold EE
    cases hdr b with
    |false=>exact h5
    |true=>rw[h3]at h5;exact⟨h3,h5.elh h4⟩
  ·have hkb:=(hf _ h1).1;refine⟨p.2,by simp only[ai hkb];exact h1,by simp only[ai hkb],rfl,rfl,rfl,fun X xs hx=>?_⟩;simp only[ai hkb]at hx;exact hx.re fun hh j _ hj=>ai fun e=>(hf _ h1).2 hh (by rw[<-e];exact hj)
 ·rcases ho p hp with rfl|⟨h1,h2⟩<;>rcases ho p2 hp2 with rfl|⟨h3,h4⟩
  ·rfl
  ·rw[aj rfl,ai (hf _ h3).1]at e;exact absurd e.symm h4
  ·rw[aj rfl,ai (hf _ h1).1]at e;exact absurd e h2
  ·rw[ai (hf _ h1).1,ai (hf _ h3).1]at e;exact h.un p h1 p2 h3 e
 ·show SR X _ w (look (mvS a b sl) t) v;rw[sC];have hv':SR X f w (look sl t) v:=hv;have h2:=oL hs t
  cases hd:look sl t with
  |own j=>
   rw[hd]at hv' h2;simp only[SR]at hv';simp only[mvD]
   cases hja:Nat.beq j a with
   |true=>simp only[SR,if_true];rw[<-cn hja];exact hv'
   |false=>simp only[SR];rw[ai fun e=>by rw[e]at h2;simp[D.is,dz]at h2];exact hv'
  |opt j off=>
   rw[hd]at hv' h2;simp only[SR]at hv';simp only[mvD]
   cases hja:Nat.beq j a with
   |true=>simp only[SR,if_true];rw[<-cn hja];exact hv'
   |false=>simp only[SR];rw[ai fun e=>by rw[e]at h2;simp[D.is,dz]at h2];exact hv'
  |_=>rw[hd]at hv';exact hv'
end
end DW
end
section
open Go.RowKit
namespace DW
theorem sT.mv{P:Program}{g:FuncId}{ds:List D}{a:Nat}{q:Ow}(h:sT P g ds [] (.own a) [(a,q)])(ha:hdr a=false){b:Nat}(hb:hdr b=false):sT P g ds [] (.own b) [(b,q)]:=fun X f w vs hX hO hv=>by
 refine(h X f w vs hX hO hv).mono fun e w' ⟨u,f',he,h1,h2,h3,h4,h5⟩=>?_;have hx:XB X (fun _=>f' a) [(b,q)]=XB X f' [(a,q)]:=funext fun x=>propext (by
  unfold XB blk;constructor
  ·rintro(h|⟨p,hp,e⟩)
   ·exact .inl h
   ·exact .inr ⟨_,bu.2 rfl,e⟩
  ·rintro(h|⟨p,hp,e⟩)
   ·exact .inl h
   ·rw[bu.1 hp]at e;exact .inr ⟨_,bu.2 rfl,e⟩)
 have hk:∀x,blk (fun _=>f' a) [(b,q)] x->blk f' [(a,q)] x:=fun x ⟨p,hp,e⟩=>⟨_,bu.2 rfl,e⟩;refine⟨u,fun _=>f' a,he,h1,⟨fun p hp=>?_,fun x hx=>h2.nw x (hk x hx),fun p hp q' hq hne=>?_,fun p hp q' hq _=>?_,fun x hx hb'=>h2.xd x hx (hk x hb')⟩,fun x hx=>h3 x (hk x hx),fun p hp=>(by cases hp),?_⟩
 ·rw[bu.1 hp,hx];obtain⟨k0,xs,k1,k2⟩:=h2.ow _ (bu.2 rfl);exact⟨k0,xs,k1,EE.of (k2.pl ha) hb⟩
 ·rw[bu.1 hp,bu.1 hq]at hne;exact absurd rfl hne
 ·rw[bu.1 hp,bu.1 hq]
 ·simp only[SR]at h5⊢;exact h5
section
variable {P : Program} {X0 : Nat->Prop} {n : Nat} {Q : Exit->S->Prop} {s : S} {sl : List (Nat × D)} {ow : List (Nat × Ow)} {o : Oper} {ops : Array Oper} {l : List Oper} {K : S->Prop} {t : Nat} {d : D}
theorem yy{k:Nat}(h:Nat.blt k 1000000=true):im k=false:=by
 cases hb:im k with
 |false=>rfl
 |true=>exact absurd rfl (kW h hb)
theorem yz{k:Nat}(h:Nat.blt k 1000000=true):pin k=false:=by
 cases hb:pin k with
 |false=>rfl
 |true=>exact absurd rfl (kX h hb)
theorem Cs{k:Nat}{q:Ow}(hk:Nat.blt k 1000000=true)(hs:noS k sl=true)(hf:ow.all (fun p=>!Nat.beq p.1 k)=true):zq sl ow [] [(k,q)] ow (.own k):=
 ⟨fun _ hp=>(by cases hp),fun p hp=>⟨hp,fun _ hq=>(by cases hq)⟩,fun p hp=>(by
  rw[bu.1 hp];exact .inr ⟨yz hk,oL hs,fun q hq=>⟨iT hf q hq,fun _ h=>(by rw[yy hk]at h;cases h)⟩⟩),fun p hp hh=>(by
  rw[bu.1 hp,hZ hk]at hh;cases hh),fun j hj=>⟨_,bu.2 rfl,by simpa[D.is]using hj⟩⟩
theorem EY{g:FuncId}{x:Operand}{ts:Array TypeId}{d1:D}{k:Nat}{q:Ow}(hg:o.guard=none)(hdst:o.dst=some t)(ht:Nat.blt t n=true)(ho:o.op= .call {callee:=.value (.func g),args:=#[x],argTypes:=ts})(hx:S.op ⟨sl,ow⟩ x=d1)(hf:FnG P g [d1] [] (.own k) [(k,q)])(hk:Nat.blt k 1000000=true)(hs:noS k sl=true)(hfr:ow.all (fun p=>!Nat.beq p.1 k)=true)
  (h:aL P X0 n ops l K ⟨(t,.own k)::sl,(k,q)::ow⟩):aL P X0 n ops (o::l) K ⟨sl,ow⟩:=
 AA (xs:=[x]) (os:=[]) (os':=[(k,q)]) ow hg hdst ht ho (by rw[<-hx];rfl) hf (Cs hk hs hfr) h
end
end DW
end
section
open Go.RowKit
namespace DW
def szs:List Value->Nat
 |[]=>0
 |u::l=>u.cells.size+szs l
def fls:List Value->List Value
 |[]=>[]
 |u::l=>u.cells.toList++fls l
def vh(k:Nat):List Value->List (Nat×Value)
 |[]=>[]
 |u::l=>(k,u)::vh (k+1) l
def qT(off:Nat):List Nat->List (Nat×Nat)
 |[]=>[]
 |s::l=>(off,s)::qT (off+s) l
theorem yO(place:Nat->Option (Nat×Nat)):∀(us:List Value) (k:Nat) (done:List Value) (cells:Array Value),cells.toList.take done.length=done->cells.size=done.length+szs us->
  (∀i x,(qT done.length (us.map (·.cells.size)))[i]?=some x->place (k+i)=some x)->Instr.fill place cells (vh k us)=some (done++fls us).toArray
 |[],k,done,cells,h1,h2,_=>by
  simp only[vh,Instr.fill,fls,tw];have:cells.toList.length=done.length:=by simpa[szs]using h2
  rw[eA aa]at h1;rw[<-h1]
 |u::us,k,done,cells,h1,h2,h3=>by
  have h4:place k=some (done.length,u.cells.size):=h3 0 _ rfl;simp only[szs]at h2;simp only[vh,Instr.fill,h4];rw[ai fD];have hf:=CI.yL u.cells.toList done.length cells fD;rw[h1]at hf;have hd:(done++u.cells.toList).length=done.length+u.cells.size:=by simp
  have ih:=yO place us (k+1) (done++u.cells.toList) (u.cells.toList.zipIdx.foldl (fun cs (x:Value×Nat)=>cs.setIfInBounds (done.length+x.2) x.1) cells) (by
   rw[hf,List.take_left' rfl]) (by
   have hl:=kH List.length hf;simp only[bJ,cL,ep]at hl;rw[hd];omega) (fun i x hx=>by
   rw[hd]at hx;have:=h3 (i+1) x (by simpa[qT]using hx);rwa[show k+(i+1)=k+1+i by omega]at this)
  rw[<-xH,Array.toList_zipIdx,ih];simp only[fls,fS]
section
variable {P : Program} {s : S} {o : Oper} {d : D}
def BO(P:Program)(T:TypeId):Option (Nat×List (Nat×Nat)):=
 (P.info? T).bind fun it=>it.zero.bind fun z=>match P.underlying T with
  |some (.struct fs)=>(fs.toList.mapM (fun f=>(P.info? f.type).map fun i=>(f.offset,i.size))).map fun pl=>(z.cells.size,pl)
  |_=>none
theorem EM{T:TypeId}{us:List Value}(h:BO P T=some (szs us,qT 0 (us.map (·.cells.size)))):P.built T (vh 0 us)=some (fls us).toArray:=by
 unfold BO at h;obtain⟨it,h1,h⟩:=gH.1 h;obtain⟨z,h2,h⟩:=gH.1 h;unfold Program.built;rw[h1]
 cases hu:P.underlying T with
 |none=>rw[hu]at h;cases h
 |some dd=>
  rw[hu]at h;cases dd<;>simp only[reduceCtorEq]at h
  next fs=>
  obtain⟨pl,h3,h4⟩:=fw.1 h;simp only[aD]at h4;simp only[h2,h3];have:=yO (pl.toArray[·]?) us 0 [] z.cells aY (by simp[h4.1]) (fun i x hx=>by
   rw[bG];simpa[h4.2]using hx)
  simpa using this
theorem Ar{X:Nat->Prop}{f:Nat->Value}{w:World}:∀{ds:List D} {us:List Value},us.length=ds.length->(∀(i:Nat) (d:D) (u:Value),ds[i]?=some d->us[i]?=some u->SR X f w d u/\d.fits=true)->ASt X w ds (fls us)
 |[],[],_,_=>by simp only[ASt,fls]
 |[],_::_,h,_=>by simp at h
 |_::_,[],h,_=>by simp at h
 |d::ds,u::us,h,hh=>by
  obtain⟨h1,h2⟩:=hh 0 d u rfl rfl;simp only[ASt,fls];refine⟨u,fls us,rfl,?_,h2,Ar (by simpa using h) fun i e v he hv=>hh (i+1) e v rS (by simpa using hv)⟩;cases d<;>first|exact h1|simp[D.fits]at h2
theorem Gv{T:TypeId}{xs:List Operand}{ds:List D}{ps:Array (Nat×Operand)}(ho:o.op= .build T ps)(hp:ps.toList.map (·.2)=xs)(hn:∀e:Operand->Value,ps.toList.map (fun p=>(p.1,e p.2))=vh 0 (xs.map e))(hx:xs.map s.op=ds)(hf:∀d∈ds,d.fits=true)
  (hs:BO P T=some (D.wds ds,qT 0 (ds.map D.wd))):bj P o s (.st ds):=fun X f a w base _ _ hh=>by
 have hop:∀x∈xs,x∈o.op.operands:=fun x hx'=>by
  rw[ho];rw[<-hp]at hx';simpa[Op.operands]using hx'
 have hl:(xs.map a.eval).length=ds.length:=by rw[<-hx];simp
 have hi:∀(i:Nat) (d:D) (u:Value),ds[i]?=some d->(xs.map a.eval)[i]?=some u->SR X f w d u/\d.fits=true:=fun i d u hd hu=>by
  rw[cR]at hu;obtain⟨x,h1,rfl⟩:=fw.1 hu;rw[<-hx,cR,h1]at hd;cases hd;exact⟨hh x (hop x (bf h1)),hf _ (by rw[<-hx];exact mc.2 ⟨x,bf h1,rfl⟩)⟩
 have hw':∀(ds:List D) (us:List Value),us.length=ds.length->(∀(i:Nat) (d:D) (u:Value),ds[i]?=some d->us[i]?=some u->SR X f w d u/\d.fits=true)->us.map (·.cells.size)=ds.map D.wd:=fun ds=>by
  induction ds with
  |nil=>intro us h _;rw[gw h];rfl
  |cons d ds ih=>
   intro us h hh
   cases us with
   |nil=>simp at h
   |cons u us=>
    obtain⟨k1,k2⟩:=hh 0 d u rfl rfl;simp only[dw];rw[ih us (by simpa using h) fun i e v he hv=>hh (i+1) e v rS (by simpa using hv),AR.size (X:=X) (w:=w) d u k2 (by cases d<;>first|exact k1|simp[D.fits]at k2)]
 have hw:=hw' ds (xs.map a.eval) hl hi;have hz:∀us:List Value,szs us=(us.map (·.cells.size)).sum:=fun us=>by
  induction us with
  |nil=>rfl
  |cons u us ih=>simp only[szs,dw,List.sum_cons,ih]
 have hz2:∀ds:List D,D.wds ds=(ds.map D.wd).sum:=fun ds=>by
  induction ds with
  |nil=>rfl
  |cons u us ih=>simp only[D.wds,dw,List.sum_cons,ih]
 have hb:=EM (P:=P) (T:=T) (us:=xs.map a.eval) (by rw[hz,hw,<-hz2];exact hs);refine cO (u:=.agg (fls (xs.map a.eval)).toArray) ?_ (by
  simp only[SR,AR];exact⟨_,rfl,by simpa using Ar hl hi⟩)
 unfold execOp;rw[ho];have:=run_build (P:=P) w T (ps.map fun p=>(p.1,a.eval p.2)) _ (by
  have:=hn a.eval;simp only[Array.toList_map];rw[this];exact hb)
 simp only[Sem.run_bind,this];rfl
theorem Gy{T:TypeId}{x y:Operand}{d1 d2:D}{w1 w2:Nat}(ho:o.op= .build T #[(0,x),(1,y)])(hx:s.op x=d1)(hy:s.op y=d2)(h1:(d1.fits,d1.wd)=(true,w1))(h2:(d2.fits,d2.wd)=(true,w2))(hs:BO P T=some (w1+(w2+0),[(0,w1),(0+w1,w2)])):bj P o s (.st [d1,d2]):=by
 simp only[aD]at h1 h2;refine Gv (xs:=[x,y]) ho rfl (fun _=>rfl) (by rw[<-hx,<-hy];rfl) (fun d hd=>?_) ?_
 ·rcases bs.1 hd with e|hd
  ·rw[e];exact h1.1
  ·rw[bu.1 hd];exact h2.1
 ·simp only[D.wds,dw,gy,qT,h1.2,h2.2];exact hs
end
end DW
end
section
open Go.RowKit
namespace DW
def rk(i:Nat):Nat:=1000000+i
section
variable {P : Program} {X0 : Nat->Prop} {n : Nat} {Q : Exit->S->Prop} {s : S} {sl : List (Nat × D)} {T T1 : TypeId} {wd : Nat} {g : List Int->List D} {E : List (Nat × Ow)} {M : List (List Int)}
end
end DW
end
section
open Go.RowKit
namespace DW
theorem pY{a:Act}{dst:Option Tmp}{v:Value}{u:Nat}(h:dst≠some u):(a.put dst v).tmps.getD u undef=a.tmps.getD u undef:=by
 cases dst with
 |none=>rfl
 |some t=>
  have:t≠u:=fun e=>h (by rw[e]);unfold Act.put;simp[cg,th this]
theorem Iy{P:Program}{o:Oper}{a:Act}{w:World}{K:Act->World->Prop}{Q Q':Exit->Act->World->Prop}(hp:∀c a w,Q (.panic c) a w->Q' (.panic c) a w)(hl:LetsOut Q->LetsOut Q')(hh:o.wp P a w K Q):
  o.wp P a w (fun a' w'=>K a' w'/\∀u,o.dst≠some u->a'.tmps.getD u undef=a.tmps.getD u undef) Q':=by
 unfold Oper.wp at*;generalize(execOp a.eval o).run P w=r at*
 cases r with
 |ok n w'=>
  cases n with
  |value v=>simp only[Oper.upon]at hh⊢;exact⟨hh,fun u h=>pY h⟩
  |skip=>simp only[Oper.upon]at hh⊢;exact⟨hh,fun u h=>pY h⟩
  |defer d=>simp only[Oper.upon]at hh⊢;exact⟨hh,fun u h=>pY (a:={a with defers:=d::a.defers}) h⟩
  |enter f args=>
   simp only[Oper.upon]at hh⊢;refine Calls.mono hh fun e w'' he=>?_
   cases e with
   |returned v=>exact⟨he,fun u h=>pY h⟩
   |panicked c=>exact hp _ _ _ he
   |outgrown=>exact hl he
  |row row args=>simp only[Oper.upon]at hh⊢;exact Rows.mono hh fun v w'' he=>⟨he,fun u h=>pY h⟩
  |_=>simp only[Oper.upon]at hh
 |halt x w'=>
  cases x with
  |panic v=>simp only[Oper.upon]at hh⊢;exact hp _ _ _ hh
  |_=>simp only[Oper.upon]at hh
section
variable {P : Program} {X0 : Nat->Prop} {n : Nat} {ops : Array Oper} {s : S} {sl : List (Nat × D)} {ow : List (Nat × Ow)} {o : Oper} {l : List Oper} {t : Nat} {d : D} {K : S->Prop} {fs : List FP}
theorem xN{S0 S1:S}(hA:aL P X0 n ops [o] (fun s=>s=S1) S0){w0:Bs}{f:Nat->Value}{a:Act}{w:World}(hw:Region.wanted o (yielded ops a.tmps)=true)(hh:Hd X0 n w0 S0 f a w)(Qx:Exit->Act->World->Prop):
  o.wp P a w (fun a' w'=>(∃f',Hd X0 n w0 S1 f' a' w')/\∀u,o.dst≠some u->a'.tmps.getD u undef=a.tmps.getD u undef) Qx:=by
 have h:=hA w0 f a w (fun e a' w'=>e= .normal/\∃f',Hd X0 n w0 S1 f' a' w') hh fun s' f' a' w' h1 h2=>⟨rfl,f',by rw[<-h2];exact h1⟩;unfold wpList at h;rw[aj hw]at h;have h':=h.resolve_right fun hx=>by
  obtain⟨_,_,_,hx,_⟩:=hx;cases hx
 refine Oper.wp_mono (fun a' w' hx=>?_) (Iy (Q':=Qx) (fun c a w hx=>by cases hx.1) (fun hx=>by obtain⟨_,_,hx,_⟩:=hx;cases hx) h');obtain⟨h1,h2⟩:=hx;unfold wpList at h1;exact⟨h1.2,h2⟩
theorem jx{k u:Nat}:∀{r:List (Nat×D)},(look r u).is k=false->look (kill k r) u=look r u
 |[],_=>rfl
 |(v,d')::r,hh=>by
  simp only[kill,look]at hh⊢;split
  ·next e=>rw[aj e]at hh;rw[hh]
  ·next e=>rw[ai e]at hh;exact jx hh
theorem yJ{w0:Bs}{f g:Nat->Value}{a':Act}{w w':World}{k:Nat}{ow1:List (Nat×Ow)}(h:Hd X0 n w0 ⟨(t,d)::kill k sl,ow1⟩ f a' w')(h0:∀u,(look sl u).is k=true->u≠t->SR (fun _=>False) g w (look sl u) (a'.tmps.getD u undef))(hk1:∀p∈ow1,p.1≠k)(hk:Nat.blt k 1000000=true)(hd:d.is k=false):∃f',Hd X0 n w0 ⟨(t,d)::sl,ow1⟩ f' a' w':=by
 obtain⟨F,hF⟩:∃F:Nat->Value,F=fun j=>if j=k then g k else f j:=⟨_,rfl⟩
 have hFk:F k=g k:=by rw[hF];exact aj rfl
 have hFn:∀j,j≠k->F j=f j:=fun j hj=>by rw[hF];exact ai hj
 clear hF;have he:∀p∈ow1,F p.1=f p.1:=fun p hp=>hFn _ (hk1 p hp);have hX:∀sx:List (Nat×D),XO X0 ⟨sx,ow1⟩ F=XO X0 ⟨(t,d)::kill k sl,ow1⟩ f:=fun sx=>funext fun b=>propext (by
  unfold XO;constructor
  ·rintro(h|⟨p,hp,q⟩)
   ·exact .inl h
   ·exact .inr ⟨p,hp,by rw[<-he p hp];exact q⟩
  ·rintro(h|⟨p,hp,q⟩)
   ·exact .inl h
   ·exact .inr ⟨p,hp,by rw[he p hp];exact q⟩)
 have sr:∀{X:Nat->Prop} {d':D} {v:Value},d'.is k=false->SR X f w' d' v->SR X F w' d' v:=fun {X d' v} hn hv=>by
  cases d' with
  |own j=>
   have:j≠k:=fun e=>by subst e;simp[D.is]at hn
   simp only[SR,hFn j this]at hv⊢;exact hv
  |opt j off=>
   have:j≠k:=fun e=>by subst e;simp[D.is]at hn
   simp only[SR,hFn j this]at hv⊢;exact hv
  |_=>exact hv
 refine⟨F,h.sz,h.df,h.bl,h.x0,h.xy,fun j hj=>?_,fun p hp b hb=>h.lo p hp b (by rw[<-he p hp];exact hb),fun u=>?_,fun p hp=>?_,fun b hb=>?_,fun p hp q hq hne b hb=>?_,h.un⟩
 ·rw[hFn j (kX hk hj)];exact h.fx j hj
 ·rw[hX];show SR _ _ _ (look ((t,d)::sl) u) _;have h1:SR (XO X0 ⟨(t,d)::kill k sl,ow1⟩ f) f w' (look ((t,d)::kill k sl) u) (a'.tmps.getD u undef):=h.sl u;simp only[look]at h1⊢;by_cases hu:t=u
  ·rw[aj hu]at h1⊢;exact sr hd h1
  ·rw[ai hu]at h1⊢
   cases hi:(look sl u).is k with
   |true=>
    have h2:=h0 u hi (Ne.symm hu)
    cases hq:look sl u with
    |own j=>
     rw[hq]at hi h2;have:j=k:=by simpa[D.is]using hi
     subst this;simp only[SR,hFk]at h2⊢;exact h2
    |opt j off=>
     rw[hq]at hi h2;have:j=k:=by simpa[D.is]using hi
     subst this;simp only[SR,hFk]at h2⊢;exact h2
    |_=>rw[hq]at hi;simp[D.is]at hi
   |false=>
    rw[jx hi]at h1;exact sr hi h1
 ·obtain⟨k0,zs,k1,k2⟩:=h.ow p hp;refine⟨k0,zs,?_,?_⟩
  ·rw[he p hp];exact k1
  ·rw[hX];exact EE.agr (Agr.refl _ w') (fun _ _ h=>h) (fun j hj=>hFn j (kW hk hj)) k2
 ·obtain⟨p,hp,q⟩:=hb;exact h.nw b ⟨p,hp,by rw[<-he p hp];exact q⟩
 ·rw[he q hq];exact h.dj p hp q hq hne b (by rw[<-he p hp];exact hb)
theorem DK{k wd:Nat}{l:List D}{d:D}(h:d.is k=false):gY k wd l d=d:=by
 cases d with
 |own j=>simp only[gY];rw[show Nat.beq j k=false from h]
 |opt j off=>simp only[gY];rw[show Nat.beq j k=false from h]
 |_=>rfl
theorem Jr{a b:Nat}{d:D}(h:d.is a=false):mvD a b d=d:=by
 cases d with
 |own j=>simp only[mvD];rw[show Nat.beq j a=false from h]
 |opt j off=>simp only[mvD];rw[show Nat.beq j a=false from h]
 |_=>rfl
theorem sF(b:Nat):∀l:List (Nat×D),noS b (kill b l)=true
 |[]=>rfl
 |(u,d)::l=>by
  have ih:=sF b l;unfold noS at ih⊢;simp only[kill,nt,ih,Bool.and_true]
  cases h:d.is b with
  |true=>rfl
  |false=>simp[h]
theorem uS{k:Nat}{l2:List D}{q:Ow}:∀{l:List (Nat×Ow)},(k,q)∈l->(k,(⟨q.T,q.wd,q.l++l2⟩:Ow))∈upd k l2 l
 |(j,r)::l,h=>by
  simp only[upd];rcases bs.1 h with h|h
  ·cases h;rw[aj rfl];exact bn
  ·split
   ·exact bq _ (uS h)
   ·exact bq _ (uS h)
theorem sb{k:Nat}{l2:List D}:∀{l:List (Nat×Ow)} {p:Nat×Ow},p.1≠k->(p∈upd k l2 l↔p∈l)
 |[],p,_=>Iff.rfl
 |(j,r)::l,p,h=>by
  have ih:=sb (k:=k) (l2:=l2) (l:=l) h;simp only[upd];split
  ·next e=>
   have n1:p≠(j,⟨r.T,r.wd,r.l++l2⟩):=fun e'=>h (by rw[e'];exact e);have n2:p≠(j,r):=fun e'=>h (by rw[e'];exact e);simp only[bs,n1,n2,false_or];exact ih
  ·simp only[bs,ih]
theorem uT{k:Nat}{l2:List D}:∀{l:List (Nat×Ow)} {p:Nat×Ow},p∈upd k l2 l->∃q∈l,q.1=p.1
 |(j,r)::l,p,h=>by
  simp only[upd]at h;split at h
  ·rcases bs.1 h with h|h
   ·exact⟨_,bn,by rw[h]⟩
   ·obtain⟨q,h1,h2⟩:=uT h;exact⟨q,bq _ h1,h2⟩
  ·rcases bs.1 h with h|h
   ·exact⟨_,bn,by rw[h]⟩
   ·obtain⟨q,h1,h2⟩:=uT h;exact⟨q,bq _ h1,h2⟩
theorem vn{k:Nat}{l:List (Nat×Ow)}{p:Nat×Ow}:p∈cut k l↔p∈l/\p.1≠k:=by
 unfold cut;rw[List.mem_filter];constructor
 ·rintro⟨h1,h2⟩;exact⟨h1,fun e=>by rw[e]at h2;simp at h2⟩
 ·rintro⟨h1,h2⟩;exact⟨h1,by rw[nP h2];rfl⟩
theorem JZ{k:Nat}:cut k []=[]:=rfl
theorem J0{j k:Nat}{q:Ow}{l l':List (Nat×Ow)}(h:Nat.beq j k=true)(e:cut k l=l'):cut k ((j,q)::l)=l':=by
 unfold cut at e⊢;rw[ir (by simp[h])];exact e
theorem GA{j k:Nat}{q:Ow}{l l':List (Nat×Ow)}(h:Nat.beq j k=false)(e:cut k l=l'):cut k ((j,q)::l)=(j,q)::l':=by
 unfold cut at e⊢;rw[gG (by simp[h]),e]
theorem Hd.less{w0:Bs}{f:Nat->Value}{a:Act}{w:World}{ow1 ow2:List (Nat×Ow)}{sl1 sl2:List (Nat×D)}(h:Hd X0 n w0 ⟨sl1,ow1⟩ f a w)(h1:∀p,p∈ow2↔p∈ow1)(h2:∀u,look sl1 u=look sl2 u):Hd X0 n w0 ⟨sl2,ow2⟩ f a w:=by
 have hX:XO X0 ⟨sl2,ow2⟩ f=XO X0 ⟨sl1,ow1⟩ f:=funext fun b=>propext (by
  unfold XO;constructor
  ·rintro(h|⟨p,hp,q⟩)
   ·exact .inl h
   ·exact .inr ⟨p,(h1 p).1 hp,q⟩
  ·rintro(h|⟨p,hp,q⟩)
   ·exact .inl h
   ·exact .inr ⟨p,(h1 p).2 hp,q⟩)
 refine⟨h.sz,h.df,h.bl,h.x0,h.xy,h.fx,fun p hp=>h.lo p ((h1 p).1 hp),fun u=>?_,fun p hp=>by rw[hX];exact h.ow p ((h1 p).1 hp),fun b hb=>?_,fun p hp q hq=>h.dj p ((h1 p).1 hp) q ((h1 q).1 hq),fun p hp q hq=>h.un p ((h1 p).1 hp) q ((h1 q).1 hq)⟩
 ·rw[hX];show SR _ _ _ (look sl2 u) _;rw[<-h2 u];exact h.sl u
 ·obtain⟨p,hp,q⟩:=hb;exact h.nw b ⟨p,(h1 p).1 hp,q⟩
theorem Ah{X:Nat->Prop}{f:Nat->Value}{w:World}{j:Nat}:∀{l:List D} {xs:List Value},ElH X f w l xs->.own j∈l->im j=true
 |d::l,xs,⟨u,rest,h1,h2,h3,h4,h5,h6,h7⟩,h=>by
  rcases bs.1 h with h|h
  ·rw[<-h]at h4;exact h4.1
  ·exact Ah h7 h
theorem En{x y:Operand}{tt:TypeId}{k:Nat}{q:Ow}{wd:Nat}{l2:List D}{f:FP}{nw:List (Nat×Ow)}(hg:o.guard=none)(hdst:o.dst=some t)(ht:Nat.blt t n=true)
  (ho:o.op= .call {callee:= .builtin .append,args:= #[x,y],argTypes:= #[tt,tt]}) (hx:S.op ⟨sl,ow⟩ x= .own k) (hy:S.op ⟨sl,ow⟩ y= .ls wd l2) (hk:(k,q)∈ow) (hwd:wd=q.wd) (hn2:l2.all D.nw=true)
  (htt:P.underlying tt=some (.slice q.T)) (hI:(P.info? q.T).map (fun i=>(i.zero.map (·.cells.size),i.size,decide (i.bytes<=100000)))=some (some q.wd,q.wd,true)) (hlen:q.l.length+l2.length<=1000000000)
  (hk0:Nat.blt k 1000000=true) (hrc:k∈f.rc)
  (hnw:(nw=[]/\d= .ls wd (q.l++l2))\/∃j,nw=[(j,⟨q.T,q.wd,q.l++l2⟩)]/\d= .own j/\j∈f.al/\j≠k/\Nat.blt j 1000000=true/\ow.all (fun p=> !Nat.beq p.1 j)=true):MS P X0 n ops o ⟨sl,ow⟩ (.app k nw d) f:=fun σ ag w0 g a w hh Qx=>by
 have hw:=uQ hh (ag.di (pP hg rfl));rw[aj hw];have hkσ:=ag.Ae hrc hk;have h1:S.op ⟨σ.sl,σ.ow⟩ x= .own k:=by
  show σ.op x=_;rw[ag.op fJ];exact hx
 have h2:S.op ⟨σ.sl,σ.ow⟩ y= .ls wd l2:=by
  show σ.op y=_;rw[ag.op fJ];exact hy
 have hA:aL P X0 n ops [o] (fun s=>s=⟨(t, .own k)::kill k σ.sl,upd k l2 σ.ow⟩) ⟨σ.sl,σ.ow⟩:=uy hg hdst ht ho h1 h2 hkσ hwd hn2 htt hI hlen rfl rfl (aK rfl) hk0;refine Oper.wp_mono (fun a' w' ⟨⟨f',h3⟩,h4⟩=>?_) (xN hA hw hh Qx);rw[hdst];have old:∀u,(look σ.sl u).is k=true->u≠t->SR (fun _=>False) g w (look σ.sl u) (a'.tmps.getD u undef):=fun u hu hne=>by
  rw[h4 u (by rw[hdst];exact fun e=>hne (Option.some.inj e).symm)];have h5:SR (XO X0 σ g) g w (look σ.sl u) (a.tmps.getD u undef):=hh.sl u
  cases hq:look σ.sl u with
  |own j=>rw[hq]at h5;exact h5
  |opt j off=>rw[hq]at h5;exact h5
  |_=>rw[hq]at hu;simp[D.is]at hu
 have hlk:∀u,(look (kill k σ.sl) u).is k=false:=fun u=>by
  rcases fI k σ.sl u with⟨e1,e2⟩|e
  ·rw[e1];exact e2
  ·rw[e];rfl
 have hcm:∀p,p∈cut k σ.ow↔p∈upd k l2 σ.ow/\p.1≠k:=fun p=>by
  rw[vn];constructor
  ·rintro⟨e1,e2⟩;exact⟨(sb e2).2 e1,e2⟩
  ·rintro⟨e1,e2⟩;exact⟨(sb e2).1 e1,e2⟩
 have hum:=uS (l2:=l2) hkσ;rcases hnw with⟨rfl,rfl⟩|⟨j,rfl,rfl,hj1,hj2,hj3,hj4⟩
 ·obtain⟨f2,h5⟩:=AB (s:=⟨(t, .own k)::kill k σ.sl,upd k l2 σ.ow⟩) (n:=n) hum (hZ hk0) w0 f' a' w' h3;have h6:Hd X0 n w0 ⟨(t, .ls wd (q.l++l2))::kill k σ.sl,cut k σ.ow⟩ f2 a' w':=h5.less (fun p=>by
   rw[hcm];constructor
   ·rintro⟨e1,e2⟩;have key:∀{l:List (Nat×Ow)},p∈l->p∈eD k l:=fun {l}=>by
     induction l with
     |nil=>intro h;cases h
     |cons r l ih=>
      intro h;simp only[eD];rcases bs.1 h with h|h
      ·subst h;rw[ai e2];exact bn
      ·split
       ·exact ih h
       ·exact bq _ (ih h)
    exact key e1
   ·exact fun e=>du e) fun u=>by
    rw[qh];simp only[look];split
    ·subst hwd;simp[gY]
    ·exact DK (hlk u)
  exact yJ h6 (g:=g) (w:=w) old (fun p hp=>(vn.1 hp).2) hk0 rfl
 ·have hjf : ∀ p ∈ upd k l2 σ.ow, p.1 ≠ j := fun p hp e => by
   obtain⟨r,r1,r2⟩:=uT hp;obtain⟨e1,_⟩:=ag.al j hj1;have h7:=kV.2 (show(j,r.2)∈σ.ow by rw[<-e,<-r2];exact r1);rw[e1]at h7;exact iT hj4 _ (kV.1 h7) rfl
  have hjs:=(ag.al j hj1).2;have h3':Hd X0 n w0 ⟨kill j ((t, .own k)::kill k σ.sl),upd k l2 σ.ow⟩ f' a' w':=h3.kill
  obtain ⟨f2, h5⟩ := Ij (X0 := X0) (n := n) (a := k) (b := j) (ow' := (j, ⟨q.T, q.wd, q.l ++ l2⟩) :: cut k σ.ow) hum (by
      cases hb:pin j with
      |false=>rfl
      |true=>exact absurd rfl (kX hj3 hb)) (.inl (by rw[hZ hj3,hZ hk0])) (fun p hp=>⟨hjf p hp,fun hh hm=>by
      obtain⟨_,zs,_,k2⟩:=h3.ow p hp;unfold EE at k2;rw[hh]at k2;exact kW hj3 (Ah k2.2 hm) rfl⟩) (sF _ _) (fun p hp=>by
      rcases bs.1 hp with e|e
      ·exact .inl e
      ·exact .inr ((hcm p).1 e)) w0 f' a' w' h3'
  have h6 : Hd X0 n w0 ⟨(t, .own j) :: kill k σ.sl, (j, ⟨q.T, q.wd, q.l ++ l2⟩) :: cut k σ.ow⟩ f2 a' w' := h5.less (fun p => Iff.rfl) fun u => by
      have hku:Nat.beq k j=false:=nP (Ne.symm hj2);rw[sC];have e0:(look ((t, .own k)::kill k σ.sl) u).is j=false:=by
       simp only[look];split
       ·exact hku
       ·rcases fI k σ.sl u with⟨e1,e2⟩|e
        ·rw[e1];exact hjs u
        ·rw[e];rfl
      rw[jx e0];simp only[look];split
      ·simp[mvD]
      ·exact Jr (hlk u)
  exact yJ h6 (g:=g) (w:=w) old (fun p hp=>by
   rcases bs.1 hp with e|e
   ·rw[e];exact hj2
   ·exact(vn.1 e).2) hk0 (nP hj2)
theorem aMapp{x y:Operand}{tt:TypeId}{k j:Nat}{q:Ow}{wd:Nat}{l2:List D}{ow':List (Nat×Ow)}(hg:o.guard=none)(hdst:o.dst=some t)(ht:Nat.blt t n=true)
  (ho:o.op= .call {callee:=.builtin .append,args:=#[x,y],argTypes:=#[tt,tt]}) (hx:S.op ⟨sl,ow⟩ x= .own k) (hy:S.op ⟨sl,ow⟩ y= .ls wd l2) (hk:(k,q)∈ow) (hwd:wd=q.wd) (hn2:l2.all D.nw=true)
  (htt:P.underlying tt=some (.slice q.T)) (hI:(P.info? q.T).map (fun i=>(i.zero.map (·.cells.size),i.size,decide (i.bytes<=100000)))=some (some q.wd,q.wd,true)) (hlen:q.l.length+l2.length<=1000000000)
  (hjk:Nat.beq j k=false) (hj:ow.all (fun p=>!Nat.beq p.1 j)=true) (hc:cut k ow=ow') (h:aM P X0 n ops l ⟨(t,.own j)::sl,(j,⟨q.T,q.wd,q.l++l2⟩)::ow'⟩ fs K) (hk0:Nat.blt k 1000000=true:=by exact rfl) (hj0:Nat.blt j 1000000=true:=by exact rfl):aM P X0 n ops (o::l) ⟨sl,ow⟩ (⟨[k],[],[k],[j,1000000000+k],[]⟩::fs) K:=by
 subst hc;have hjk':j≠k:=fun e=>by rw[e]at hjk;simp at hjk
 have hkd:k∈dlN [j,1000000000+k]:=by
  simp only[dlN]
  cases hb:Nat.ble 1000000000 j with
  |true=>rw[ny]at hb;rw[aV]at hj0;omega
  |false=>
   have:Nat.ble 1000000000 (1000000000+k)=true:=by rw[ny];omega
   rw[this];simp
 exact⟨_,fs,.app k [(j,⟨q.T,q.wd,q.l++l2⟩)] (.own j),rfl,⟨bu.2 rfl,hkd,fun p hp=>by rw[bu.1 hp];exact bn,fun k' hk'=>by have:=vk hk';simp[D.vm]at this;rw[this];exact bn⟩,
  En hg hdst ht ho hx hy hk hwd hn2 htt hI hlen hk0 (bu.2 rfl) (.inr ⟨j,rfl,rfl,bn,hjk',hj0,hj⟩),by rw[hdst];exact h⟩
theorem Md{x y:Operand}{tt:TypeId}{k:Nat}{q:Ow}{wd:Nat}{l2:List D}{ow':List (Nat×Ow)}(hg:o.guard=none)(hdst:o.dst=some t)(ht:Nat.blt t n=true)
  (ho:o.op= .call {callee:=.builtin .append,args:=#[x,y],argTypes:=#[tt,tt]}) (hx:S.op ⟨sl,ow⟩ x= .own k) (hy:S.op ⟨sl,ow⟩ y= .ls wd l2) (hk:(k,q)∈ow) (hwd:wd=q.wd) (hn2:l2.all D.nw=true)
  (htt:P.underlying tt=some (.slice q.T)) (hI:(P.info? q.T).map (fun i=>(i.zero.map (·.cells.size),i.size,decide (i.bytes<=100000)))=some (some q.wd,q.wd,true)) (hlen:q.l.length+l2.length<=1000000000)
  (hc:cut k ow=ow') (h:aM P X0 n ops l ⟨(t,.ls wd (q.l++l2))::sl,ow'⟩ fs K) (hk0:Nat.blt k 1000000=true:=by exact rfl):aM P X0 n ops (o::l) ⟨sl,ow⟩ (⟨[k],[],[k],[1000000000+k],[]⟩::fs) K:=by
 subst hc;have hkd:k∈dlN [1000000000+k]:=by
  simp only[dlN];have:Nat.ble 1000000000 (1000000000+k)=true:=by rw[ny];omega
  rw[this];simp
 exact⟨_,fs,.app k [] (.ls wd (q.l++l2)),rfl,⟨bu.2 rfl,hkd,(fun p hp=>nomatch hp),(fun k' hk'=>nomatch hk')⟩,
  En hg hdst ht ho hx hy hk hwd hn2 htt hI hlen hk0 (bu.2 rfl) (.inl ⟨rfl,rfl⟩),by rw[hdst];exact h⟩
section
variable {ks : List Nat} {acc : List FP}
theorem aNapp{x y:Operand}{tt:TypeId}{k j:Nat}{q:Ow}{wd:Nat}{l2:List D}{ow':List (Nat×Ow)}(hg:o.guard=none)(hdst:o.dst=some t)(ht:Nat.blt t n=true)
 (ho:o.op= .call {callee:=.builtin .append,args:=#[x,y],argTypes:=#[tt,tt]}) (hx:S.op ⟨sl,ow⟩ x= .own k) (hy:S.op ⟨sl,ow⟩ y= .ls wd l2) (hk:(k,q)∈ow) (hwd:wd=q.wd) (hn2:l2.all D.nw=true)
 (htt:P.underlying tt=some (.slice q.T)) (hI:(P.info? q.T).map (fun i=>(i.zero.map (·.cells.size),i.size,decide (i.bytes<=100000)))=some (some q.wd,q.wd,true)) (hlen:q.l.length+l2.length<=1000000000)
 (hjk:Nat.beq j k=false) (hj:ow.all (fun p=>!Nat.beq p.1 j)=true) (hc:cut k ow=ow') (h:aN P X0 n ops ks l ⟨(t,.own j)::sl,(j,⟨q.T,q.wd,q.l++l2⟩)::ow'⟩ (⟨[k],[],[k],[j,1000000000+k],[]⟩::acc) K) (hk0:Nat.blt k 1000000=true:=by exact rfl) (hj0:Nat.blt j 1000000=true:=by exact rfl):aN P X0 n ops ks (o::l) ⟨sl,ow⟩ acc K:=wW (fun _ h=>aMapp hg hdst ht ho hx hy hk hwd hn2 htt hI hlen hjk hj hc h hk0 hj0) h
theorem ET{x y:Operand}{tt:TypeId}{k:Nat}{q:Ow}{wd:Nat}{l2:List D}{ow':List (Nat×Ow)}(hg:o.guard=none)(hdst:o.dst=some t)(ht:Nat.blt t n=true)
 (ho:o.op= .call {callee:=.builtin .append,args:=#[x,y],argTypes:=#[tt,tt]}) (hx:S.op ⟨sl,ow⟩ x= .own k) (hy:S.op ⟨sl,ow⟩ y= .ls wd l2) (hk:(k,q)∈ow) (hwd:wd=q.wd) (hn2:l2.all D.nw=true)
 (htt:P.underlying tt=some (.slice q.T)) (hI:(P.info? q.T).map (fun i=>(i.zero.map (·.cells.size),i.size,decide (i.bytes<=100000)))=some (some q.wd,q.wd,true)) (hlen:q.l.length+l2.length<=1000000000)
 (hc:cut k ow=ow') (h:aN P X0 n ops ks l ⟨(t,.ls wd (q.l++l2))::sl,ow'⟩ (⟨[k],[],[k],[1000000000+k],[]⟩::acc) K) (hk0:Nat.blt k 1000000=true:=by exact rfl):aN P X0 n ops ks (o::l) ⟨sl,ow⟩ acc K:=wW (fun _ h=>Md hg hdst ht ho hx hy hk hwd hn2 htt hI hlen hc h hk0) h
end
end
end DW
end
section
open Go.RowKit
namespace DW
section
variable {P : Program} {X0 : Nat->Prop} {n : Nat} {ops : Array Oper} {s : S} {sl : List (Nat × D)} {ow : List (Nat × Ow)} {o : Oper} {l : List Oper} {t : Nat} {d : D} {K : S->Prop} {fs : List FP}
theorem Jg{σ:S}{k:Nat}(h:∀u,(look σ.sl u).is k=false)(x:Operand):S.op ⟨kill k σ.sl,σ.ow⟩ x=S.op σ x:=by
 cases x with
 |tmp u=>exact jx (h u)
 |_=>rfl
theorem K8{k:Nat}{q:Ow}(hg:o.guard=none)(hdst:o.dst=some t)(hk:Nat.blt k 1000000=true)(hfr:ow.all (fun p=>!Nat.beq p.1 k)=true)
  (hA:∀σ:S,(∀x∈o.op.operands,S.op σ x=S.op ⟨sl,ow⟩ x)->noS k σ.sl=true->σ.ow.all (fun p=>!Nat.beq p.1 k)=true->aL P X0 n ops [o] (fun s=>s=⟨(t,.own k)::σ.sl,(k,q)::σ.ow⟩) σ)
  (h:aM P X0 n ops l ⟨(t,.own k)::sl,(k,q)::ow⟩ fs K):aM P X0 n ops (o::l) ⟨sl,ow⟩ (⟨[],[],[],[k],[]⟩::fs) K:=
 ⟨_,fs,.alloc k q (.own k),rfl,⟨bu.2 rfl,fun k' hk'=>by have:=vk hk';simpa[D.vm]using this⟩,fun σ ag w0 g a w hh Qx=>by
  have hw:=uQ hh (ag.di (pP hg rfl));rw[aj hw];obtain⟨e1,e2⟩:=ag.al k (bu.2 rfl);have hfr':σ.ow.all (fun p=>!Nat.beq p.1 k)=true:=eT.2 fun p hp=>by
   cases hb:Nat.beq p.1 k with
   |false=>rfl
   |true=>
    have h1:=kV.2 (show(k,p.2)∈σ.ow by rw[<-cn hb];exact hp);rw[e1]at h1;exact absurd rfl (iT hfr _ (kV.1 h1))
  have hh':Hd X0 n w0 ⟨kill k σ.sl,σ.ow⟩ g a w:=hh.kill;have hB:=hA ⟨kill k σ.sl,σ.ow⟩ (fun x hx=>by rw[Jg e2];exact ag.op hx) (sF _ _) hfr';refine Oper.wp_mono (fun a' w' ⟨⟨f',h3⟩,_⟩=>⟨f',?_⟩) (xN hB hw hh' Qx);rw[hdst];refine h3.less (fun p=>Iff.rfl) fun u=>?_;show look ((t,.own k)::kill k σ.sl) u=look ((t,.own k)::σ.sl) u;simp only[look];split
  ·rfl
  ·exact jx (e2 u),by rw[hdst];exact h⟩
theorem Mc{g:FuncId}{x:Operand}{ts:Array TypeId}{d1:D}{k:Nat}{q:Ow}(hg:o.guard=none)(hdst:o.dst=some t)(ht:Nat.blt t n=true)(ho:o.op= .call {callee:=.value (.func g),args:=#[x],argTypes:=ts})(hx:S.op ⟨sl,ow⟩ x=d1)(hf:FnG P g [d1] [] (.own k) [(k,q)])(hk:Nat.blt k 1000000=true)(hfr:ow.all (fun p=>!Nat.beq p.1 k)=true)
  (h:aM P X0 n ops l ⟨(t,.own k)::sl,(k,q)::ow⟩ fs K):aM P X0 n ops (o::l) ⟨sl,ow⟩ (⟨[],[],[],[k],[]⟩::fs) K:=
 K8 hg hdst hk hfr (fun σ he hs hw=>EY hg hdst ht ho (by rw[<-hx];exact he x fJ) hf hk hs hw (aK rfl)) h
section
variable {ks : List Nat} {acc : List FP}
theorem ES{g:FuncId}{x:Operand}{ts:Array TypeId}{d1:D}{k:Nat}{q:Ow}(hg:o.guard=none)(hdst:o.dst=some t)(ht:Nat.blt t n=true)(ho:o.op= .call {callee:=.value (.func g),args:=#[x],argTypes:=ts})(hx:S.op ⟨sl,ow⟩ x=d1)(hf:FnG P g [d1] [] (.own k) [(k,q)])(hk:Nat.blt k 1000000=true)(hfr:ow.all (fun p=>!Nat.beq p.1 k)=true)
 (h:aN P X0 n ops ks l ⟨(t,.own k)::sl,(k,q)::ow⟩ (⟨[],[],[],[k],[]⟩::acc) K):aN P X0 n ops ks (o::l) ⟨sl,ow⟩ acc K:=wW (fun _ h=>Mc hg hdst ht ho hx hf hk hfr h) h
end
end
end DW
end
section
open Go.RowKit
namespace DW
section
variable {P : Program} {s : S} {o : Oper}
theorem LL{g:FuncId}{x:Operand}{d:D}(ho:o.op= .makeFunc (.func g) #[] #[x])(hx:s.op x=d)(hs:d.seen=true):bj P o s (.cl g [d]):=fun X f a w base _ _ hh=>by
 have h1:=hh x bC;rw[hx]at h1;have h2:AR X w d (a.eval x):=by cases d<;>first|exact h1|simp[D.seen]at hs
 refine cO (u:=.func (.func g) #[] #[a.eval x]) ?_ ?_
 ·unfold execOp;rw[ho];simp[Instr.makeFunc]
 ·simp only[SR,AR,ATp];exact⟨_,rfl,_,[],rfl,h2,rfl⟩
theorem Gu{g:FuncId}{x y:Operand}{ts:Array TypeId}{cs:List D}{d1 r:D}(ho:o.op= .call {callee:=.value y,args:=#[x],argTypes:=ts})(hy:s.op y= .cl g cs)(hx:s.op x=d1)(hs:d1.seen=true)(hf:Go.Proofs.Enters P g/\Fun P g (d1::cs) r)(hr:r.seen=true):bj P o s r:=fun X f a w base hX _ hh=>by
 have h1:=hh x fJ;have h2:=hh y fJ;rw[hx]at h1;rw[hy]at h2;simp only[SR,AR]at h2;obtain⟨us,h2,h3⟩:=h2;have h4:AR X w d1 (a.eval x):=by cases d1<;>first|exact h1|simp[D.seen]at hs
 have h5:ATp X w (d1::cs) (#[a.eval x]++us).toList:=by
  simp only[ATp];exact⟨a.eval x,us.toList,by simp,h4,h3⟩
 have h6:(execOp a.eval o).run P w= .ok (.enter g (#[a.eval x]++us)) w:=by
  unfold execOp;rw[ho];have:=hf.1 (#[a.eval x]++us) w;simp[resolve,invoke,Deferred.ofValue,h2];simpa using this
 rw[h6];refine⟨rfl,(hf.2 X w _ hX h5).mono fun e w' ⟨u,k1,k2,k3⟩=>⟨u,k1,?_,k3⟩⟩;cases r<;>first|exact k2|simp[D.seen]at hr
theorem LK{x:Operand}{tt:TypeId}{p:Int}(ho:o.op= .unOp .neg tt x)(hx:s.op x= .sc (.int .i64 p)):bj P o s (.sc (.int .i64 (wrap64 (0-p)))):=fm rfl fun X f w a hs=>by
 have h1:=hs x bC;rw[hx]at h1;simp only[SR,AR]at h1;unfold execOp;rw[ho];simp[h1.1,Op.unary,Op.intArith,IntWalk.i64_left]
theorem d_max{x y:Operand}{ts:Array TypeId}{p q:Int}(ho:o.op= .call {callee:=.builtin .max,args:=#[x,y],argTypes:=ts})(hx:s.op x= .sc (.int .i64 p))(hy:s.op y= .sc (.int .i64 q)):bj P o s (.sc (.int .i64 (if q>p then q else p))):=fm (by split<;>rfl) fun X f w a hs=>by
 have h1:=hs x fJ;have h2:=hs y fJ;rw[hx]at h1;rw[hy]at h2;simp only[SR,AR]at h1 h2;unfold execOp;rw[ho];simp[resolve,invoke,builtin,h1.1,h2.1,Builtin.max_,Builtin.max2]
end
end DW
end
section
open Go.RowKit
namespace DW
section
variable {P : Program} {s : S} {o : Oper}
theorem Dw{X:Nat->Prop}{w:World}{wd:Nat}{lo:List D}{v:Value}(h:AR X w (.ls wd lo) v)(hne:lo≠[]):∃a n c,v= .slice a n c/\a.isNone=false:=by
 simp only[AR]at h;obtain⟨a,c,e,_,h3⟩:=h;rcases h3 with h|⟨b,o,rfl,_⟩
 ·exact absurd h hne
 ·exact⟨_,_,_,e,rfl⟩
theorem run_eql_slice_nil(w:World)(t e:TypeId)(a:Option Addr)(l c:Nat)(h:P.underlying t=some (.slice e)):(binOp .eql t (.slice a l c) (.slice none 0 0)).run P w= .ok (.bool a.isNone) w:=by
 simp only[binOp];simp[run_equal_slice_nil w t e a l c h]
theorem LI{x y:Operand}{tt tt':TypeId}{wd:Nat}{lo:List D}(ho:o.op= .binOp .eql tt x y tt')(hx:s.op x= .ls wd lo)(hy:s.op y= .sc (.slice none 0 0))(hne:lo≠[])(hu:P.underlying tt=some (.slice (P.elem tt))):bj P o s (.sc (.bool false)):=fm rfl fun X f w a hs=>by
 have h1:=hs x bC;have h2:=hs y bC;rw[hx]at h1;rw[hy]at h2;obtain⟨q,n,c,e1,hn⟩:=Dw h1 hne;have e2:a.eval y= .slice none 0 0:=h2.1;unfold execOp;rw[ho];have:=run_eql_slice_nil (P:=P) w tt _ q n c hu;simp only[eqGuard];simp[e1,e2,this,hn]
end
set_option maxRecDepth 20000
set_option maxHeartbeats 1000000
end DW
end
section
open Go.RowKit
namespace DW
section
variable {P : Program} {X0 : Nat->Prop} {n : Nat} {sl : List (Nat × D)} {o : Oper} {ops : Array Oper} {l : List Oper} {K : S->Prop} {t : Nat}
theorem Kn{g:FuncId}{x y z:Operand}{ts:Array TypeId}{d2 d3:D}{k k2:Nat}{q q2:Ow}{ow1:List (Nat×Ow)}(hg:o.guard=none)(hdst:o.dst=some t)(ht:Nat.blt t n=true)(ho:o.op= .call {callee:=.value (.func g),args:=#[x,y,z],argTypes:=ts})
  (hx:S.op ⟨sl,(k,q)::ow1⟩ x= .own k) (hy:S.op ⟨sl,(k,q)::ow1⟩ y=d2) (hz:S.op ⟨sl,(k,q)::ow1⟩ z=d3) (hf:FnG P g [.own k,d2,d3] [(k,q)] (.own k2) [(k2,q2)]) (hk2:Nat.blt k2 1000000=true) (hs:noS k2 sl=true)
  (hfr:ow1.all (fun p=>!Nat.beq p.1 k2)=true) (hfk:ow1.all (fun p=>!Nat.beq p.1 k)=true) (h:aL P X0 n ops l K ⟨(t,.own k2)::sl,(k2,q2)::ow1⟩):aL P X0 n ops (o::l) K ⟨sl,(k,q)::ow1⟩:=
 AA (xs:=[x,y,z]) (os:=[(k,q)]) (os':=[(k2,q2)]) ow1 hg hdst ht ho (by rw[<-hx,<-hy,<-hz];rfl) hf
  ⟨fun p hp=>by rw[bu.1 hp];exact bn,fun p hp=>⟨bq _ hp,fun r hr=>by rw[bu.1 hr];exact fun e=>iT hfk p hp e.symm⟩,fun p hp=>(by
   rw[bu.1 hp];exact .inr ⟨yz hk2,oL hs,fun r hr=>⟨iT hfr r hr,fun _ h=>(by rw[yy hk2]at h;cases h)⟩⟩),fun p hp hh=>(by
   rw[bu.1 hp,hZ hk2]at hh;cases hh),fun j hj=>⟨_,bu.2 rfl,by simpa[D.is]using hj⟩⟩ h
end
abbrev gN(l:List Int):List D:=l.map zI
set_option maxRecDepth 20000
set_option maxHeartbeats 2000000
theorem GH(l:List Int)(h0:l≠[])(hl:l.length<=1000000)(K:Nat)(hK:hdr K=false):FnG Tryz.prog 175 [dI l] [] (.own K) [(K,⟨3,1,gN l⟩)]:=by
 have hne:l.map zI≠[]:=by simpa using h0
 refine⟨enters_of Tryz.func175 ak rfl,sT.mv (a:=5) ?_ rfl hK⟩;refine Ad Tryz.func175 rfl rfl (fun _ hp=>by cases hp) fun X0=>?_;simp only[aA];refine jW ?_;refine bI ?_;(refine aL1 rfl rfl rfl (by(first|(apply LI;(exact rfl);(focus((apply aB;(conv=>lhs;whnf);(first|done|exact rfl))));(exact nM);(focus(first|assumption|(intro h;simp at h;done)|(simp;done)));(kernel_rfl))|(apply d_slqn;(exact rfl);(focus((apply aB;(conv=>lhs;whnf);(first|done|exact rfl))));(exact nM);(kernel_rfl)))) ?_);refine aK ?_;refine bc ?_;refine gar ?_;(refine Az (k:=5) (wd:=1) (T:=Tryz.prog.elem 45) rfl rfl rfl rfl ak ak av av fE ?_);refine zs3 ?_;refine zs11 ?_;refine dC ?_;exact⟨_,Sh.refl,.own 2 5 rfl rfl,rfl⟩
theorem Ag{X:Nat->Prop}{w:World}:∀(l:List Int) (xs:List Value),Els X w 1 (gN l) xs->xs=l.map (Value.int .i64)
 |[],_,h=>h
 |z::l,xs,⟨u,rest,h1,h2,_,_,_,h3⟩=>by
  simp only[AR]at h2;rw[h1,Ag l rest h3,h2.1];rfl
theorem EA{X:Nat->Prop}{w:World}:∀(l:List Int),Els X w 1 (gN l) (l.map (Value.int .i64))
 |[]=>rfl
 |z::l=>⟨_,_,rfl,by simp only[AR];exact⟨rfl,rfl⟩,rfl,rfl,rfl,EA l⟩
theorem FE{d:List Int}{cur:Array Value}{m:Nat}(hm:m<=d.length)(hd:d.length<=cur.size):(Sort.putCells (Value.int .i64) 0 d.toArray cur).toList.take m=(d.take m).map (Value.int .i64):=by
 refine nr fun k=>?_;rw[et,cR,et];split
 ·next hk=>
  rw[cQ];simp only[Sort.putCells,Array.getElem?_mapIdx,jh,bG,aP,true_and,iw];rw[iu (show k<cur.size by omega),bQ,aj aa,aS aa,bQ];congr 2;exact getElem!_pos d.toArray k fD
 ·rfl
theorem Gs(l:List Int)(i:Nat)(hi:i<l.length)(hl:l.length<=1000000)(K K2:Nat)(hK:hdr K=false)(hK2:hdr K2=false)(hne:K≠K2):FnG Tryz.prog 302 [.own K,zI (i:Nat),zI ((i:Nat)+1)] [(K,⟨3,1,gN l⟩)] (.own K2) [(K2,⟨3,1,gN (l.eraseIdx i)⟩)]:=by
 refine⟨enters_of Tryz.func302 ak rfl,fun X f w vs hX hO hv=>?_⟩;obtain⟨u1,r1,e1,h1,u2,r2,e2,h2,u3,r3,e3,h3,e4⟩:=hv;simp only[SR,AR]at h1 h2 h3;obtain⟨h2,_⟩:=h2;obtain⟨h3,_⟩:=h3;subst e4 e3 e2 h1 h2 h3;obtain⟨hwd,xs,⟨hxl,hsl⟩,hE⟩:=hO.ow _ (bu.2 rfl);have hxs:=Ag l xs (hE.pl hK);subst hxs;simp only[br,kK]at hsl;rcases hsl with⟨_,h⟩|⟨g,cap,cur,ef,_,hg,hc1,hc2,hcs,htk⟩
 ·omega
 have hvs:vs= #[.slice (some ⟨g,0,none⟩) l.length cap,.int .i64 (i:Int),.int .i64 ((i+1:Nat):Int)]:=by
  apply cU.1;rw[e1,ef];rfl
 subst hvs;have hcur:∀j,j<l.length->cur[j]?=some (.int .i64 l[j]!):=fun j hj=>by
  have h4:(cur.toList.take l.length)[j]?=(l.map (Value.int .i64))[j]?:=by rw[htk]
  rw[et,aj hj,cQ,cR,aS hj]at h4;rw[h4,getElem!_pos l j hj];rfl
 have hH:Sort.Holds (Value.int .i64) w g 0 l.toArray:=fun j hj=>by
  have hj':j<l.length:=by simpa using hj
  rw[bG];refine⟨?_,frozen_of_row _ _ _ _ _ hg⟩;rw[cell_of_row _ _ _ _ _ _ hg,hcur j hj',getElem!_pos l j hj',getElem!_pos l.toArray j hj];rfl
 have hD:=Any.slices_Delete_int Tryz.laysNm223 g 0 cap i (i+1) l w hH hc1 (by unfold maxLen at hc2;omega) aa aa;refine hD.mono ?_;rintro e w' ⟨rfl,q,rfl⟩;have hdl:l.take i++l.drop (i+1)++List.replicate (i+1-i) 0=l.eraseIdx i++[0]:=by
  rw[<-xC,show i+1-i=1 by omega];rfl
 rw[hdl];have hel:(l.eraseIdx i).length=l.length-1:=tf hi;obtain⟨d,hd⟩:∃d,d=l.eraseIdx i++[0]:=⟨_,rfl⟩;have hdln:d.length=l.length:=by rw[hd,cL,hel,ji];omega
 have hdt:d.take (l.length-1)=l.eraseIdx i:=by rw[hd,xG aa,eA aa]
 rw[<-hd];have hcsz:l.length<=cur.size:=by rw[hcs];exact hc1
 have hsz:(Sort.putRow (Value.int .i64) (Sort.ahead w q) g 0 d.toArray).heap.size=w.heap.size:=by simp[Sort.putRow,Sort.mapBlock,Sort.ahead]
 have hoth:∀b,b≠g->(Sort.putRow (Value.int .i64) (Sort.ahead w q) g 0 d.toArray).heap[b]?=w.heap[b]?:=fun b hb=>by
  simp[Sort.putRow,Sort.mapBlock,Sort.ahead,rT,Ne.symm hb]
 have hnew:(Sort.putRow (Value.int .i64) (Sort.ahead w q) g 0 d.toArray).heap[g]?=some (.cells (Sort.putCells (Value.int .i64) 0 d.toArray cur) 3 (0,0)):=by
  simp[Sort.putRow,Sort.mapBlock,Sort.ahead,rT,hg,Sort.onCells]
 have hbg:blk f [(K,(⟨3,1,gN l⟩:Ow))] g:=⟨_,bu.2 rfl,by rw[ef];rfl⟩;have hown:∀b,blk (fun j=>if j=K2 then .slice (some ⟨g,0,none⟩) (l.length-1) cap else f j) [(K2,(⟨3,1,gN (l.eraseIdx i)⟩:Ow))] b->b=g:=fun b ⟨p,hp,e⟩=>by
  rw[bu.1 hp]at e;simp only[if_true,Value.ownBlock,ah]at e;exact e.symm
 have hl1:l.length-(i+1-i)=l.length-1:=by omega
 rw[hl1];refine⟨_,fun j=>if j=K2 then .slice (some ⟨g,0,none⟩) (l.length-1) cap else f j,rfl,⟨rfl,rfl,rfl,Nat.le_of_eq hsz.symm,fun b hb hn=>hoth b fun e=>hn (e▸hbg)⟩,⟨fun p hp=>?_,fun b hb n hn=>?_,fun p hp p' hp' hn=>absurd (by rw[bu.1 hp,bu.1 hp']) hn,fun p hp p' hp' _=>by rw[bu.1 hp,bu.1 hp'],fun b hb h=>hO.xd b hb (hown b h▸hbg)⟩,fun b hb=>.inl (hown b hb▸hbg),fun p hp=>?_,by simp only[SR,if_true]⟩
 ·rw[bu.1 hp];refine⟨Nat.zero_lt_one,(l.eraseIdx i).map (Value.int .i64),⟨by simp,.inr ⟨g,cap,_,?_,aP _,hnew,?_,hc2,?_,?_⟩⟩,EE.of (EA _) hK2⟩
  ·simp only[if_true,br,hel]
  ·simp only[br,hel];omega
  ·rw[kK,<-hcs];simp[Sort.putCells]
  ·simp only[br,hel,kK];rw[FE aa aa,hdt]
 ·rw[hown b hb,cell_of_row _ _ _ _ _ _ hnew]at hn;simp only[Sort.putCells,Array.getElem?_mapIdx,jh]at hn;rw[hcur 0 aa,bQ,aj aa]at hn;cases hn
 ·rw[bu.1 hp];exact ai hne
end DW
end
section
namespace Mx
def jH(k:Nat)(M:Mat):Nat->Nat->Nat
 |0,p=>p
 |f+1,p=>if at' M p k=0 then jH k M f (p+1)else p
def piv(k:Nat)(M:Mat)(p:Nat):Nat:=jH k M (M.length-p) p
theorem Je{k p:Nat}{M:Mat}(h:M.length<=p):piv k M p=p:=by
 unfold piv;rw[show M.length-p=0 by omega];rfl
theorem FG{k p:Nat}{M:Mat}(h:p<M.length)(h0:at' M p k=0):piv k M p=piv k M (p+1):=by
 unfold piv;rw[show M.length-p=(M.length-(p+1))+1 by omega];show(if at' M p k=0 then jH k M (M.length-(p+1)) (p+1)else p)=_;rw[aj h0]
theorem FH{k p:Nat}{M:Mat}(h:p<M.length)(h0:at' M p k≠0):piv k M p=p:=by
 unfold piv;rw[show M.length-p=(M.length-(p+1))+1 by omega];show(if at' M p k=0 then jH k M (M.length-(p+1)) (p+1)else p)=_;rw[ai h0]
theorem zU(k:Nat)(M:Mat):∀f p,p<=jH k M f p
 |0,p=>af _
 |f+1,p=>by
  show p<=if at' M p k=0 then jH k M f (p+1)else p
  have:=zU k M f (p+1);split<;>omega
theorem KS(k:Nat)(M:Mat)(p:Nat):p<=piv k M p:=zU k M _ p
def pq(k:Nat)(last:Int)(p r:List Int):List Int:=(List.range r.length).map fun j=>if k<j then(p.getD k 0*r.getD j 0-r.getD k 0*p.getD j 0)/last else r.getD j 0
theorem iV(k:Nat)(last:Int)(p r:List Int):(pq k last p r).length=r.length:=by simp[pq]
theorem po{k j:Nat}{last:Int}{p r:List Int}(h:j<r.length):(pq k last p r)[j]?=some (if k<j then(p.getD k 0*r.getD j 0-r.getD k 0*p.getD j 0)/last else r.getD j 0):=by
 unfold pq;rw[cR,pF h];rfl
theorem Ao{k j:Nat}{last:Int}{p r:List Int}(h:j<r.length):(pq k last p r).getD j 0=if k<j then(p.getD k 0*r.getD j 0-r.getD k 0*p.getD j 0)/last else r.getD j 0:=by
 rw[aH,po h];rfl
def bK(k:Nat)(last:Int)(M:Mat):Nat->Mat
 |0=>M
 |t+1=>(bK k last M t).set (k+1+t) (pq k last (rw M k) (rw M (k+1+t)))
theorem ux(k:Nat)(last:Int)(M:Mat):∀t,(bK k last M t).length=M.length
 |0=>rfl
 |t+1=>by rw[bK,dc,ux k last M t]
theorem rF(k:Nat)(last:Int)(M:Mat):∀t,k+1+t<=M.length->∀i,rw (bK k last M t) i=if k+1<=i/\i<k+1+t then pq k last (rw M k) (rw M i)else rw M i
 |0,_,i=>by rw[ai aa];rfl
 |t+1,h,i=>by
  rw[bK,lF _ _ _ _ (by rw[ux];omega),rF k last M t aa];by_cases e:i=k+1+t
  ·rw[aj e,aj aa,e]
  ·rw[ai e];by_cases e2:k+1<=i/\i<k+1+t
   ·rw[aj e2,aj aa]
   ·rw[ai e2,ai aa]
theorem Cz{n k:Nat}{last:Int}{M:Mat}(h:Rc n M):∀t,k+1+t<=M.length->Rc n (bK k last M t)
 |0,_=>h
 |t+1,ht=>by
  rw[bK];exact(Cz h t aa).set (by rw[iV];exact h.rw aa)
def na(k:Nat)(last:Int)(M:Mat):Mat:=bK k last M (M.length-(k+1))
theorem bK_bd{n X k t:Nat}{last:Int}{M:Mat}(h:Rc n M)(hb:Bd X M)(h1:1<=X)(ht:k+1+t<=M.length):Bd (2*X*X) (bK k last M t):=fun i j=>by
 have hX:X<=2*X*X:=by
  have:X*1<=2*X*X:=eQ aa h1;omega
 unfold at';rw[rF k last M t ht];split
 ·next e=>
  by_cases hj:j<n
  ·have hl:(rw M i).length=n:=h.rw aa;rw[Ao (by rw[hl];exact hj)];split
   ·refine aX (EF _ _) ?_;have e1:((rw M k).getD k 0*(rw M i).getD j 0).natAbs<=X*X:=by
     rw[gF];exact eQ (hb k k) (hb i j)
    have e2:((rw M i).getD k 0*(rw M k).getD j 0).natAbs<=X*X:=by
     rw[gF];exact eQ (hb i k) (hb k j)
    have e3:2*X*X=X*X+X*X:=by rw[ck,Nat.two_mul]
    omega
   ·exact aX (hb i j) hX
  ·rw[aH,iG (by rw[iV,h.rw aa];omega)];simp
 ·exact aX (hb i j) hX
def bGo:Nat->Nat->Mat->Int->Int->Int
 |0,_,_,last,s=>s*last
 |r+1,k,M,last,s=>
  if piv k M k=M.length then 0
  else bGo r (k+1) (na k last (if piv k M k=k then M else swp M k (piv k M k))) (at' M (piv k M k) k) (if piv k M k=k then s else-s)
def vF(M:Mat):Int:=bGo M.length 0 M 1 1
def bE(e k:Nat):Nat:=2^k*(e+1)-1
theorem Ke(e:Nat):bE e 0=e:=by simp[bE]
theorem Ap(e k:Nat):2*2^(bE e k)*2^(bE e k)=2^(bE e (k+1)):=by
 have h:bE e (k+1)=bE e k+bE e k+1:=by
  have h1:1<=2^k*(e+1):=lz (gW aa) aa;have h2:2^(k+1)*(e+1)=2*(2^k*(e+1)):=by rw[dE,bB (2^k) 2,ck]
  unfold bE;rw[h2];omega
 rw[h,dE,qL,bB _ 2,ck]
theorem bE_le{e k n:Nat}(h:k<=n):bE e k<=2^n*(e+1):=by
 have:=cS (e+1) (eu (n:=2) aa h);unfold bE;omega
def minor(M:Mat)(r c:Nat):Mat:=(M.eraseIdx r).map fun l=>l.eraseIdx c
theorem Cj(l:List Int)(c j:Nat):(l.eraseIdx c).getD j 0=l.getD (skip c j) 0:=by
 rw[aH,aH,xB];unfold skip;split<;>rfl
theorem FZ(M:Mat)(r c i:Nat):rw (minor M r c) i=(rw M (skip r i)).eraseIdx c:=by
 unfold rw minor;rw[aH,aH,cR,xB];unfold skip;split
 ·cases M[i]?<;>simp
 ·cases M[i+1]?<;>simp
theorem sA(M:Mat)(r c i j:Nat):at' (minor M r c) i j=at' M (skip r i) (skip c j):=by
 unfold at';rw[FZ,Cj]
theorem F0{X:Nat}{M:Mat}(h:Bd X M)(r c:Nat):Bd X (minor M r c):=fun i j=>by
 rw[sA];exact h _ _
end Mx
end
section
namespace Mx
def yP:Nat->Nat
 |0=>1
 |n+1=>(n+1)*yP n
theorem nF:∀(n:Nat) (f:Nat->Int) (X:Nat),(∀k,k<n->(f k).natAbs<=X)->(sm n f).natAbs<=n*X
 |0,_,_,_=>by simp[sm]
 |n+1,f,X,h=>by
  have h1:=nF n f X fun k hk=>h k aa;have h2:=h n aa;show(sm n f+f n).natAbs<=_;rw[Nat.succ_mul];omega
theorem nH(k:Nat):(sg k).natAbs=1:=by unfold sg;split<;>rfl
theorem CX{B:Nat}:∀(n:Nat) (f:Nat->Nat->Int),(∀i j,(f i j).natAbs<=B)->(D n f).natAbs<=yP n*B^n
 |0,_,_=>by simp[D,yP]
 |n+1,f,h=>by
  show(sm (n+1) fun k=>sg k*f 0 k*D n (fun i j=>f (i+1) (skip k j))).natAbs<=_;refine aX (nF _ _ (B*(yP n*B^n)) fun k _=>?_) ?_
  ·rw[gF,gF,nH,cC];exact eQ (h 0 k) (CX n _ fun i j=>h _ _)
  ·show _<=(n+1)*yP n*B^(n+1);rw[dE,bB (B^n) B,<-ck,ck,ck,wK B];exact af _
theorem D_b3{f:Nat->Nat->Int}(h:∀i j,(f i j).natAbs<=20000){n:Nat}(hn:n<=3):(D n f).natAbs<=48000000000000:=by
 refine aX (CX n f h) ?_;have:n=0\/n=1\/n=2\/n=3:=by omega
 rcases this with rfl|rfl|rfl|rfl<;>decide
def mn(g:Mat)(rs cs:List Nat):Int:=D rs.length (fun i j=>at' g (rs.getD i 0) (cs.getD j 0))
theorem Ci(l:List Nat)(c j:Nat):(l.eraseIdx c).getD j 0=l.getD (skip c j) 0:=by
 simp only[aH,xB];unfold skip;split<;>rfl
theorem Jt(g:Mat)(r:Nat)(rs cs:List Nat)(k:Nat):D rs.length (fun i j=>at' g ((r::rs).getD (i+1) 0) (cs.getD (skip k j) 0))=mn g rs (cs.eraseIdx k):=by
 unfold mn;refine cE _ _ _ fun i j _ _=>?_;rw[Ci,wL]
theorem Jv(g:Mat)(n:Nat):mn g (List.range n) (List.range n)=D n (at' g):=by
 unfold mn;rw[List.length_range];refine cE _ _ _ fun i j hi hj=>?_;rw[aH,aH,pF hi,pF hj];rfl
theorem mn_bd{g:Mat}(h:Bd 20000 g)(rs cs:List Nat)(hr:rs.length<=3):(mn g rs cs).natAbs<=48000000000000:=D_b3 (fun _ _=>h _ _) hr
end Mx
end
section
namespace Mx
theorem yK{z:Nat}(hz:z<=100000000000000000000000000)(h1:2147483647∣z)(h2:2147483629∣z)(h3:2147483587∣z)(h4:2147483579∣z):z=0:=by
 have c1:Nat.Coprime 2147483647 2147483629:=by decide+kernel
 have c2:Nat.Coprime (2147483647*2147483629) 2147483587:=by decide+kernel
 have c3:Nat.Coprime (2147483647*2147483629*2147483587) 2147483579:=by decide+kernel
 have k3:=c3.mul_dvd_of_dvd_of_dvd (c2.mul_dvd_of_dvd_of_dvd (c1.mul_dvd_of_dvd_of_dvd h1 h2) h3) h4;clear h1 h2 h3 h4 c1 c2 c3;refine Nat.eq_zero_of_dvd_of_lt k3 (nB hz ?_);decide+kernel
end Mx
end
section
open Go.RowKit
namespace DW
theorem zy{α:Type}(l:List α)(x:α)(c:Nat):(l++[x]).eraseIdx c=if l.length=c then l.eraseIdx c else l.eraseIdx c++[x]:=by
 induction l generalizing c with
 |nil=>cases c<;>simp
 |cons y l ih=>
  cases c with
  |zero=>simp
  |succ c=>
   simp only[qM,List.eraseIdx_cons_succ,ih,eV,Nat.add_right_cancel_iff];split<;>rfl
theorem Ju(m:Mx.Mat)(l:List Int)(r c:Nat):Mx.minor (m++[l]) r c=if m.length=r then Mx.minor m r c else Mx.minor m r c++[l.eraseIdx c]:=by
 unfold Mx.minor;rw[zy];split
 ·rfl
 ·rw[cN];rfl
theorem La(m:Mx.Mat)(r c:Nat):(Mx.minor m r c).length<=m.length:=by unfold Mx.minor;rw[br];exact(List.eraseIdx_sublist m r).length_le
def dtm(n:Nat)(f:Nat->Nat->Int)(k:Nat):Int:=Mx.sg k*f 0 k*Mx.D n (fun i j=>f (i+1) (Mx.skip k j))
theorem tX{M:Mx.Mat}{n r k:Nat}(hl:M.length=n+1)(hM:Mx.Rc (n+1) M)(hr:r<n+1)(hk:k<n+1):(Mx.minor M r k).length=n/\Mx.Rc n (Mx.minor M r k):=by
 unfold Mx.minor;refine⟨by rw[br,tf aa];omega,fun q hq=>?_⟩;obtain⟨x,hx,rfl⟩:=mc.1 hq;have:=hM x (List.mem_of_mem_eraseIdx hx);rw[tf aa];omega
theorem mn_D(M:Mx.Mat)(n k:Nat):Mx.D n (Mx.at' (Mx.minor M 0 k))=Mx.D n (fun i j=>Mx.at' M (i+1) (Mx.skip k j)):=Mx.cE n _ _ fun i j _ _=>by
 rw[Mx.sA];rfl
set_option maxRecDepth 20000
set_option maxHeartbeats 2000000
theorem FD(m:Mx.Mat)(r c:Nat)(hm:m.length<=1000000)(hR:∀l∈m,c<l.length/\l.length<=1000000):Fn Tryz.prog 206 [dM m,zI r,zI c] (dM (Mx.minor m r c)):=by
 refine aF Tryz.func206 ak rfl rfl rfl fun X0=>?_;simp only[aA];refine jW ?_;refine lY ?_;refine zs1 ?_;refine bh (ik (t:=7) (k:=7) (T:=45) (wd:=1) mR rfl rfl fE) ?_;refine zs1 ?_;refine jO ?_
 (refine bh (aO (sl':=[(0,dM m),(1,zI r),(2,zI c),(7,.own 7),(10,dM m),(11,zI m.length),(12,zI 0)]) (ow':=[(7,⟨45,1,[]⟩)]) ba aZ) ?_)
 refine bw (fun q s=>∃k,k<=m.length/\q=m.length-k/\s=⟨[(0,dM m),(1,zI r),(2,zI c),(7,.own 7),(10,dM m),(11,zI m.length),(12,zI (k:Nat))],[(7,⟨45,1,(Mx.minor (m.take k) r c).map dI⟩)]⟩) (m:=m.length) ⟨0,aP _,rfl,by simp[Mx.minor]⟩ fun q s hs=>?_;obtain⟨k,hk,rfl,rfl⟩:=hs;by_cases hkl:k<m.length
 ·obtain⟨x,hx⟩:=get_some hkl;obtain⟨hc,hxl⟩:=hR x (bf hx);have hsn:Mx.minor (m.take (k+1)) r c=if k=r then Mx.minor (m.take k) r c else Mx.minor (m.take k) r c++[x.eraseIdx c]:=by
   rw[cF hx,Ju,aQ,dT hk]
  have hWl:(Mx.minor (m.take k) r c).length<=m.length:=by
   have:=La (m.take k) r c;rw[aQ]at this;omega
  obtain⟨W,hW⟩:∃W,W=Mx.minor (m.take k) r c:=⟨_,rfl⟩;rw[<-hW]at hsn hWl;rw[<-hW];clear hW hR;by_cases hkr:k=r
  ·rw[aj hkr]at hsn;refine jV ?_;refine cJ ?_;refine nZ ?_;refine aK ?_;refine jU ?_;simp only[nx];exact⟨m.length-(k+1),_,by omega,(aO (sl':=[(0,dM m),(1,zI r),(2,zI c),(7,.own 7),(10,dM m),(11,zI m.length),(12,zI ((k+1:Nat):Int))]) (ow':=[(7,⟨45,1,W.map dI⟩)]) ba aZ),k+1,by omega,rfl,by rw[hsn]⟩
  ·rw[ai hkr]at hsn;have hx0:x≠[]:=fun e=>by rw[e]at hc;simp at hc
   have hWs:(W++[x.eraseIdx c]).map dI=W.map dI++[.ls 1 (gN (x.eraseIdx c))]:=by rw[cN];rfl
   refine jV ?_;refine cJ ?_;refine nZ ?_;refine aK ?_;refine cq ?_;(refine gar ?_;refine zs3 ?_;refine zs3 ?_;(refine EY rfl rfl rfl rfl ei (GH x hx0 hxl 22 rfl) av av av ?_);refine zs3 ?_;refine zs3 ?_;refine AX ?_;(refine Kn rfl rfl rfl rfl ei ei ei (Gs x c hc hxl 22 26 rfl rfl ay) av av av av ?_);refine aL_sh (bN (k:=26) cK dX dV) ?_;refine xg ?_;refine xf ?_;refine zs8 ?_;refine aK ?_);refine zs1 ?_;refine kG ?_;refine zs1 ?_;simp only[nx];exact⟨m.length-(k+1),_,by omega,(aO (sl':=[(0,dM m),(1,zI r),(2,zI c),(7,.own 7),(10,dM m),(11,zI m.length),(12,zI ((k+1:Nat):Int))]) (ow':=[(7,⟨45,1,W.map dI++[.ls 1 (gN (x.eraseIdx c))]⟩)]) ba aZ),k+1,by omega,rfl,by rw[hsn,hWs]⟩
 ·obtain rfl:k=m.length:=by omega
  rw[kI];refine gu ?_;refine bh (bN (k:=7) cK dX dV) ?_;refine zs1 ?_;refine dD ?_;exact⟨_,Sh.refl,.one (.tmp 6) _ rfl (.tmp 6 rfl)⟩
theorem jL{a b:Int}{A B:Nat}(ha:a.natAbs<=A)(hb:b.natAbs<=B):(a*b).natAbs<=A*B:=by
 rw[gF];exact eQ ha hb
theorem zS{M:Mx.Mat}(hb:Mx.Bd 20000 M){n k:Nat}(hn:n<=3):(dtm n (Mx.at' M) k).natAbs<=960000000000000000:=by
 unfold dtm;refine aX (jL (A:=20000) (B:=48000000000000) ?_ (Mx.D_b3 (fun _ _=>hb _ _) hn)) ay;rw[gF,Mx.nH,cC];exact hb 0 k
theorem KQ{M:Mx.Mat}(hb:Mx.Bd 20000 M){n k:Nat}(hn:n<=3)(hk:k<=4):(Mx.sm k (dtm n (Mx.at' M))).natAbs<=3840000000000000000:=by
 refine aX (Mx.nF k _ _ fun l _=>zS hb hn) ?_;exact aX (cS _ hk) ay
theorem Eg:∀(n:Nat) (M:Mx.Mat),n<=4->M.length=n->Mx.Rc n M->Mx.Bd 20000 M->Fn Tryz.prog 167 [dM M] (zI (Mx.D n (Mx.at' M)))
 |0,M,hn,hl,hM,hb=>by
  obtain rfl:M=[]:=gw hl;refine aF Tryz.func167 ak rfl rfl rfl fun X0=>?_;simp only[aA];refine cH ?_;refine qG ?_;refine db ?_;exact⟨_,Sh.refl,.one (.tmp 2) _ rfl (.tmp 2 rfl)⟩
 |n+1,M,hn,hl,hM,hb=>by
  have hSB:=fun k (hk:k<=4)=>KQ hb (n:=n) aa hk;have hTB:=fun k=>zS hb (n:=n) (k:=k) aa;have IH:=fun k (hk:k<n+1)=>Eg n (Mx.minor M 0 k) aa (tX hl hM (Nat.succ_pos n) hk).1 (tX hl hM (Nat.succ_pos n) hk).2 ((Mx.F0 hb 0 k));have MI:=fun k (hk:k<n+1)=>FD M 0 k aa (fun l hl=>by have:=hM l hl;omega);obtain⟨R,hR⟩:=get_some (m:=M) (k:=0) aa;have hRl:=hM R (bf hR);have hc0:(0:Int)=((0:Nat):Int):=rfl;have hDD:Mx.D (n+1) (Mx.at' M)=Mx.sm (n+1) (dtm n (Mx.at' M)):=rfl;rw[hDD];clear hDD;refine aF Tryz.func167 ak rfl rfl rfl fun X0=>?_;simp only[aA];refine cH ?_;refine qG ?_;refine bc ?_;refine gar ?_;refine lj ?_;refine lj ?_;refine je ?_;refine bI ?_;refine zs23 ?_;refine zs24 ?_;refine gh ?_;refine xi ?_;refine je ?_
  (refine bh (aO (sl':=[(0,dM M),(3,zI 0),(4,zI 1),(12,dI R),(13,zI R.length),(14,zI 0)]) (ow':=[]) ba aZ) ?_)
  refine bw (fun q s=>∃k,k<=n+1/\q=n+1-k/\s=⟨[(0,dM M),(3,zI (Mx.sm k (dtm n (Mx.at' M)))),(4,zI (Mx.sg k)),(12,dI R),(13,zI R.length),(14,zI (k:Nat))],[]⟩) (m:=n+1) ⟨0,aP _,rfl,rfl⟩ fun q s hs=>?_;obtain⟨k,hk,rfl,rfl⟩:=hs;by_cases hkn:k<n+1
  ·obtain⟨x,hx⟩:=get_some (m:=R) (k:=k) aa;have ex:Mx.at' M 0 k=x:=by unfold Mx.at';rw[Mx.cM hR,aH,hx];rfl
   have hS1:Mx.sm (k+1) (dtm n (Mx.at' M))=Mx.sm k (dtm n (Mx.at' M))+dtm n (Mx.at' M) k:=rfl;have hg1:=Mx.nG k;have bg:=Mx.nH k;have bS:=hSB k aa;have bS1:=hSB (k+1) aa;have bT:=hTB k;have IHk:=IH k hkn;rw[mn_D]at IHk;have MIk:=MI k hkn;have bX:=hb 0 k;have hdt:dtm n (Mx.at' M) k=Mx.sg k*x*Mx.D n (fun i j=>Mx.at' M (i+1) (Mx.skip k j)):=by rw[<-ex];rfl
   rw[ex]at bX;obtain⟨S,hS⟩:∃S,S=Mx.sm k (dtm n (Mx.at' M)):=⟨_,rfl⟩;obtain⟨Dm,hDm⟩:∃Dm,Dm=Mx.D n (fun i j=>Mx.at' M (i+1) (Mx.skip k j)):=⟨_,rfl⟩;obtain⟨G,hG⟩:∃G,G=Mx.sg k:=⟨_,rfl⟩;rw[<-hG]at hg1 bg hdt;rw[<-hDm]at IHk hdt;rw[hdt]at bT hS1;rw[hS1]at bS1;rw[<-hS]at hS1 bS bS1;have bGX:(G*x).natAbs<=20000:=by rw[gF,bg,cC];exact bX
   rw[<-hS,<-hG];clear hS hDm hG IH MI hSB hTB hb ex hdt;refine jV ?_;refine cJ ?_;refine zs3 ?_;refine zs25 ?_;refine zs3 ?_;refine zs3 ?_;(refine aL1 rfl rfl rfl (by(apply vB;(exact rfl);(focus((apply aB;(conv=>lhs;whnf);(first|done|exact rfl))));(exact cI);(focus((apply aB;(conv=>lhs;whnf);(first|done|exact rfl))));(exact rfl);(exact rfl);(exact rfl);(assumption);(exact rfl))) ?_);refine gg ?_;refine zs25 ?_;refine zs27 ?_;refine dC ?_;refine bI ?_;(refine aL1 rfl rfl rfl (by(apply H9;(exact rfl);(focus((apply aB;(conv=>lhs;whnf);(first|done|exact rfl))));(omega))) ?_);refine dC ?_;refine kG ?_;refine zs1 ?_;simp only[nx];exact⟨n+1-(k+1),_,by omega,(aO (sl':=[(0,dM M),(3,zI (S+G*x*Dm)),(4,zI (-G)),(12,dI R),(13,zI R.length),(14,zI ((k+1:Nat):Int))]) (ow':=[]) ba aZ),k+1,by omega,rfl,by rw[hS1,hg1]⟩
  ·obtain rfl:k=n+1:=by omega
   generalize Mx.sm (n+1) (dtm n (Mx.at' M))=S;generalize Mx.sg (n+1)=G;refine gu ?_;refine dD ?_;exact⟨_,Sh.refl,.one (.tmp 2) _ rfl (.tmp 2 rfl)⟩
def crn(g:Mx.Mat)(m:Nat):Mx.Mat:=(g.take m).map fun r=>r.take m
theorem J1{g:Mx.Mat}{m:Nat}(h:m<=g.length):(crn g m).length=m:=by unfold crn;rw[br,aQ];omega
theorem LP{g:Mx.Mat}{m n:Nat}(h:m<=n)(hR:Mx.Rc n g):Mx.Rc m (crn g m):=fun r hr=>by
 obtain⟨x,hx,rfl⟩:=mc.1 hr;have:=hR x (Bz hx);rw[aQ];omega
theorem LU{g:Mx.Mat}{m i j:Nat}(h:m<=g.length)(hi:i<m)(hj:j<m):Mx.at' (crn g m) i j=Mx.at' g i j:=by
 obtain⟨r,hr⟩:=get_some (m:=g) (k:=i) aa;have h1:(crn g m)[i]?=some (r.take m):=by
  unfold crn;rw[cR,gV hi,hr];rfl
 unfold Mx.at';rw[Mx.cM h1,Mx.cM hr,aH,aH,gV hj]
theorem LR{g:Mx.Mat}{m B:Nat}(hb:Mx.Bd B g):Mx.Bd B (crn g m):=fun i j=>by
 have h1:Mx.at' (crn g m) i j=if i<m/\j<m then Mx.at' g i j else 0:=by
  unfold Mx.at' Mx.rw crn;simp only[aH,cR,et];by_cases hi:i<m
  ·rw[aj hi]
   cases g[i]? with
   |none=>simp
   |some r=>
    simp only[bQ,ln,et];by_cases hj:j<m
    ·rw[aj hj,aj ⟨hi,hj⟩]
    ·rw[ai hj,ai (fun h=>hj h.2)];rfl
  ·rw[ai hi,ai (fun h=>hi h.1)];rfl
 rw[h1];split
 ·exact hb i j
 ·exact aP _
theorem GF(g:Mx.Mat)(m n:Nat)(hl:g.length=n)(hn:n<=4)(hmn:m<=n)(hR:Mx.Rc n g):Fn Tryz.prog 168 [dM g,zI m] (dM (crn g m)):=by
 refine aF Tryz.func168 ak rfl rfl rfl fun X0=>?_;simp only[aA];have hgd:(g.map dI).take m=(g.take m).map dI:=nk.symm;have hml:(g.map dI).length=g.length:=br ..;refine jW ?_;refine lY ?_;refine zs1 ?_;refine bh (ik (t:=5) (k:=5) (T:=45) (wd:=1) mR rfl rfl fE) ?_;refine zs1 ?_;refine cJ ?_;refine zs28 ?_;refine gh ?_;refine xi ?_;refine je ?_;rw[hgd];have hgl:(g.take m).length=m:=by rw[aQ];omega
 obtain⟨V,hV⟩:∃V,V=g.take m:=⟨_,rfl⟩;have hLD:crn g m=V.map fun r=>r.take m:=by rw[hV];rfl
 rw[hLD];rw[<-hV]at hgl;rw[<-hV];have hVr:∀r∈V,r.length=n:=fun r hr=>by rw[hV]at hr;exact hR r (Bz hr)
 clear hgd hV hLD hml
 (refine bh (aO (sl':=[(0,dM g),(1,zI m),(5,.own 5),(10,dM V),(11,zI (V.length:Nat)),(12,zI 0)]) (ow':=[(5,⟨45,1,[]⟩)]) ba aZ) ?_)
 refine bw (fun rr s=>∃q,q<=V.length/\rr=V.length-q/\s=⟨[(0,dM g),(1,zI m),(5,.own 5),(10,dM V),(11,zI (V.length:Nat)),(12,zI (q:Nat))],[(5,⟨45,1,((V.take q).map fun r=>r.take m).map dI⟩)]⟩) (m:=V.length) ⟨0,aP _,rfl,rfl⟩ fun rr s hs=>?_;obtain⟨q,hq,rfl,rfl⟩:=hs;by_cases hql:q<V.length
 ·obtain⟨r,hr⟩:=get_some hql;have hrl:=hVr r (bf hr);have hrd:(r.map zI).take m=(r.take m).map zI:=nk.symm;have hml:(r.map zI).length=r.length:=br ..;have hfl:((V.take q).map fun r=>r.take m).length<=1000000:=by rw[br,aQ];omega
  have hsn:((V.take (q+1)).map fun r=>r.take m).map dI=((V.take q).map fun r=>r.take m).map dI++[.ls 1 ((r.map zI).take m)]:=by
   rw[cF hr,cN,cN,hrd];rfl
  obtain⟨F,hF⟩:∃F,F=(V.take q).map fun r=>r.take m:=⟨_,rfl⟩;rw[<-hF]at hsn hfl;rw[<-hF];clear hF hrd hVr;refine nX ?_;refine Bh ?_;refine zs1 ?_;refine cJ ?_;refine zs3 ?_;refine zs28 ?_;refine xg ?_;refine xf ?_;refine dC ?_;refine kG ?_;refine zs1 ?_;simp only[nx];exact⟨V.length-(q+1),_,by omega,(aO (sl':=[(0,dM g),(1,zI m),(5,.own 5),(10,dM V),(11,zI (V.length:Nat)),(12,zI ((q+1:Nat):Int))]) (ow':=[(5,⟨45,1,F.map dI++[.ls 1 ((r.map zI).take m)]⟩)]) ba aZ),q+1,by omega,rfl,by rw[hsn]⟩
 ·obtain rfl:q=V.length:=by omega
  rw[kI];refine gu ?_;refine bh (bN (k:=5) cK dX dV) ?_;refine zs1 ?_;refine dD ?_;exact⟨_,Sh.refl,.one (.tmp 4) _ rfl (.tmp 4 rfl)⟩
end DW
end
end Go.Proofs.YtepdigdijecgpaaGreat
