/- Lemmas for the law: W19 M1 M2 M3 V1 D1 D2 D3 D4 D5 D6 D7 D8 D9 DA H1 H2 H3 E2 V3 V5 V6 V7 V4 V8 V10 V12 V13 V15 V16 V18 E11 L0 Q1 Q2 Q3 Q4 -/
import Derived.Laws.MakeOwn
import Derived.Deep.MidRow
import Derived.Maps.AppendAt
import Derived.Great.BuildSlice
import Derived.Shelf.Abstract
import Derived.Laws.CopyRow
import Derived.Laws.Small
import Derived.Laws.AppendOwnNone
import Derived.BigQuiet
import Derived.Laws.Cover3
import Derived.Lib.AppendZerosOnto
import Derived.Deep.CutBlock
import Derived.Deep.RegionLaw
import Derived.Test.YtepdigdijecgpaaGreatRows
import Derived.WalkKit
import Derived.ProofKit
import Derived.OpenShut
import Derived.ChangeOld
import Derived.ChangeSlices
import Derived.Below
import Derived.Lib.SmallJoins
import Derived.Deep.Slices
import Derived.Lib.SliceRun
import Derived.Test.YtepdigdijecgpaaGreatZs1
namespace Go.Proofs.YtepdigdijecgpaaGreat
section
abbrev aF:=@decide_eq_true
abbrev aN:=@decide_eq_false
abbrev aJ:=@Nat.blt_eq
abbrev lp:=@Array.getElem?_map
abbrev ll:=@Array.getElem?_range
abbrev bL:=@Array.length_toList
abbrev ct:=@Array.getD_eq_getD_getElem?
abbrev lk:=@Array.getElem?_setIfInBounds
abbrev ox:=@List.all_cons
abbrev dB:=@Array.toList_inj
abbrev bX:=@Option.map_some
abbrev ah:=@Option.some.injEq
abbrev iG:=@List.all_eq_true
abbrev bH:=@Option.isSome_iff_exists
abbrev eQ:=@List.length_singleton
abbrev fy:=@List.append_assoc
abbrev de:=@Nat.beq_refl
abbrev bj:=@List.mem_cons
abbrev aZ:=@Nat.zero_le
abbrev dX:=@Nat.eq_of_beq_eq_true
abbrev dW:=@Option.bind_some
abbrev ov:=@Nat.ne_of_beq_eq_false
abbrev bu:=@List.length_map
abbrev fX:=@List.append_nil
abbrev rB:=@Int.tdiv_eq_ediv_of_nonneg
abbrev ou:=@Bool.true_and
abbrev bG:=@Nat.le_of_ble_eq_true
abbrev fW:=@Option.bind_eq_some_iff
abbrev ot:=@Bool.false_eq_true
abbrev oh:=@Array.eq_empty_of_size_eq_zero
theorem zb36{p:Prop}(h:p:=by simp only[vS,IntWalk.i64_left];rw[vg _ hb]):p:=h
theorem ed{p:Prop}(h:p:=by(apply cj;(conv=>lhs;whnf);(first|done|exact rfl|(apply bO;(first|(apply aF;omega)|(apply aN;omega)|assumption|(simp;done)))))):p:=h
theorem uO{p:Prop}(h:p:=by(apply xN;(exact rfl);(focus((apply aw;(conv=>lhs;whnf);(first|done|exact rfl)))))):p:=h
theorem zs5{p q:Prop}(h:q)(f:Wq q->p:=by(intro hW;((first|(refine aLs rfl rfl rfl rfl ?_ ?_;(focus(apply cj;(conv=>lhs;whnf);(first|done|exact rfl|(apply bO;(first|(apply aF;omega)|(apply aN;omega)|assumption|(simp;done)))))))|refine aLw rfl rfl rfl rfl ed uO ?_));exact hW.out)):p:=f ⟨h⟩
theorem zs3{p q:Prop}(h:q)(f:Wq q->p:=by(intro hW;(refine aL1 rfl rfl rfl uO ?_);exact hW.out)):p:=f ⟨h⟩
theorem ea{p q:Prop}(h:q)(f:Wq q->p:=by(intro hW;(refine zs3 ?_;refine zs5 ?_);exact hW.out)):p:=f ⟨h⟩
theorem bN{p q:Prop}(h:q)(f:Wq q->p:=by(intro hW;(refine gar ?_;refine zs3 ?_);exact hW.out)):p:=f ⟨h⟩
theorem cZ{p q:Prop}(h:q)(f:Wq q->p:=by(intro hW;(refine bN ?_;refine zs3 ?_);exact hW.out)):p:=f ⟨h⟩
theorem zb14{p:Prop}(h:p:=by(apply bZ;(exact rfl);(focus((apply aw;(conv=>lhs;whnf);(first|done|exact rfl))));(focus((apply aw;(conv=>lhs;whnf);(first|done|exact rfl))));(exact rfl))):p:=h
theorem zs6{p q:Prop}(h:q)(f:Wq q->p:=by(intro hW;((first|(refine aLs rfl rfl rfl rfl ?_ ?_;(focus(apply cj;(conv=>lhs;whnf);(first|done|exact rfl|(apply bO;(first|(apply aF;omega)|(apply aN;omega)|assumption|(simp;done)))))))|refine aLw rfl rfl rfl rfl ed zb14 ?_));exact hW.out)):p:=f ⟨h⟩
theorem zs8{p q:Prop}(h:q)(f:Wq q->p:=by(intro hW;(refine aL1 rfl rfl rfl (by(apply kT;(exact rfl);(focus((apply aw;(conv=>lhs;whnf);(first|done|exact rfl)))))) ?_);exact hW.out)):p:=f ⟨h⟩
theorem fQ{p q:Prop}(h:q)(f:Wq q->p:=by(intro hW;(refine zs8 ?_;refine aS ?_);exact hW.out)):p:=f ⟨h⟩
theorem zs7{p q:Prop}(h:q)(f:Wq q->p:=by(intro hW;(refine aL1 rfl rfl rfl (by(first|(apply sR;(exact rfl);(focus((apply aw;(conv=>lhs;whnf);(first|done|exact rfl))));(focus(first|exact rfl|(apply aF;omega)|assumption|(simp;done)));(focus((apply aw;(conv=>lhs;whnf);(first|done|exact rfl)))))|(apply sS;(exact rfl);(focus((apply aw;(conv=>lhs;whnf);(first|done|exact rfl))));(focus(first|exact rfl|(apply aN;omega)|assumption|(simp;done)));(exact gF))|(apply d_pick;(exact rfl);(focus((apply aw;(conv=>lhs;whnf);(first|done|exact rfl))));(focus((apply aw;(conv=>lhs;whnf);(first|done|exact rfl))));(exact gF);(exact rfl)))) ?_);exact hW.out)):p:=f ⟨h⟩
theorem zs4{p q:Prop}(h:q)(f:Wq q->p:=by(intro hW;(refine aL1 rfl rfl rfl zb14 ?_);exact hW.out)):p:=f ⟨h⟩
theorem zs70{p q:Prop}(h:q)(f:Wq q->p:=by(intro hW;(refine cZ ?_;refine zs4 ?_;refine ea ?_;refine zs5 ?_;refine zs6 ?_;refine zs7 ?_;refine fQ ?_);exact hW.out)):p:=f ⟨h⟩
theorem uL{p:Prop}(h:p:=by unfold cA;rw[hdst];simpa[aJ]using ht):p:=h
theorem bW{p:Prop}(h:p:=by exact rfl):p:=h
theorem zs1{p q:Prop}(h:q)(f:Wq q->p:=by(intro hW;(repeat(first|refine zm ?_|refine zo ?_|refine Bn ?_|refine Bo ?_|refine Cw ?_|with_reducible refine nx_c ?_|with_reducible refine nx_e ?_|with_reducible refine nx_r ?_|with_reducible refine in_n ?_|with_reducible refine in_r ?_|with_reducible refine in_e ?_|with_reducible refine in_x bW ?_));exact hW.out)):p:=f ⟨h⟩
theorem zs2{p q:Prop}(h:q)(f:Wq q->p:=by(intro hW;(refine aL1 rfl rfl rfl (by(apply kT;(exact rfl);(exact gF))) ?_);exact hW.out)):p:=f ⟨h⟩
theorem lf{p q:Prop}(h:q)(f:Wq q->p:=by(intro hW;(refine gar ?_;refine zs2 ?_;refine aS ?_);exact hW.out)):p:=f ⟨h⟩
theorem ij{p q:Prop}(h:q)(f:Wq q->p:=by(intro hW;(refine zs1 ?_;refine lf ?_;refine zs1 ?_);exact hW.out)):p:=f ⟨h⟩
theorem rl{p:Prop}(h:p:=by simp[results,Tryz.results251,go_sem]):p:=h
theorem bp{p:Prop}(h:p:=by rw[ho];simp[Op.operands]):p:=h
theorem gB{p:Prop}(h:p:=by rw[ho];simp[Op.operands,Call.operands]):p:=h
end
section
open Go.RowKit Go.BigFrame
attribute [local go_sem ↓] Go.wp_at_zero Go.wp_at_succ
structure RI(w:World)(g:Nat)(xs:List IV)(zs:List Int):Prop where
 lt:g<w.heap.size
 len:xs.length=zs.length
 c0:∀(k:Nat) (x:IV),xs[k]?=some x->w.cell? ⟨g,k*2,none⟩=some (.bool x.s)
 c1:∀(k:Nat) (x:IV),xs[k]?=some x->w.cell? ⟨g,k*2+1,none⟩=some (.slice x.a x.n x.cap)
 fr:∀k,w.frozen? ⟨g,k,none⟩=false
 iz:∀(k:Nat) (x:IV) (z:Int),xs[k]?=some x->zs[k]?=some z->IZ w x z
theorem RI.below{B:Nat}{w w':World}{g:Nat}{xs:List IV}{zs:List Int}(h:RI w g xs zs)(hb:Below B w w')(hB:w.heap.size<=B):RI w' g xs zs:=by
 have hg:g<B:=aH h.lt hB;exact⟨aH h.lt hb.size,h.len,fun k x hx=>(hb.cell (p:=⟨g,k*2,none⟩) hg).trans (h.c0 k x hx),fun k x hx=>(hb.cell (p:=⟨g,k*2+1,none⟩) hg).trans (h.c1 k x hx),fun k=>(hb.frozen (p:=⟨g,k,none⟩) hg).trans (h.fr k),fun k x z hx hz=>(h.iz k x z hx hz).below hb hB⟩
theorem lM(n k:Nat)(hk:k<n):(madeCells #[.bool false,.slice none 0 0] (n*2))[k*2]?=some (.bool false)/\(madeCells #[.bool false,.slice none 0 0] (n*2))[k*2+1]?=some (.slice none 0 0):=by
 unfold madeCells;rw[lp,lp,ll,ll,aB aa,aB aa];simp
theorem RI.made(w:World)(n:Nat):RI (w.alloc (.cells (madeCells #[.bool false,.slice none 0 0] (n*2)) 69)) w.heap.size (List.replicate n ⟨false,none,0,0⟩) (List.replicate n 0):=by
 have hh:=heap_alloc_new w (.cells (madeCells #[.bool false,.slice none 0 0] (n*2)) 69);have hr:∀{α:Type} {v x:α} {k:Nat},(List.replicate n v)[k]?=some x->k<n/\x=v:=fun h=>by
  rw[nZ]at h;split at h
  ·cases h;exact⟨by assumption,rfl⟩
  ·cases h
 refine⟨by simp,by simp,fun k x hx=>?_,fun k x hx=>?_,fun k=>?_,fun k x z hx hz=>?_⟩
 ·obtain⟨h1,rfl⟩:=hr hx;rw[cell_of_row _ w.heap.size _ _ _ (0,0) hh];exact(lM n k h1).1
 ·obtain⟨h1,rfl⟩:=hr hx;rw[cell_of_row _ w.heap.size _ _ _ (0,0) hh];exact(lM n k h1).2
 ·simp only[World.frozen?];rw[hh];simp
 ·obtain⟨_,rfl⟩:=hr hx;obtain⟨_,rfl⟩:=hr hz;exact IZ.zero _
def ZAt(w:World)(a:Option Addr)(l:List Int):Prop:=l=[]\/∃a0,a=some a0/\a0.block<w.heap.size/\∀(k:Nat) (x:Int),l[k]?=some x->w.cell? (a0.add k)=some (.int .i64 x)
def I64(z:Int):Prop:=-9223372036854775808<=z/\z<=9223372036854775807
end
section
namespace Mx
abbrev Mat:=List (List Int)
def rw(M:Mat)(i:Nat):List Int:=M.getD i []
def at'(M:Mat)(i j:Nat):Int:=(rw M i).getD j 0
def sW(q:Int)(a b:List Int):List Int:=List.zipWith (fun x y=>x+q*y) a b
theorem zj(q:Int)(a b:List Int)(h:a.length=b.length):(sW q a b).length=a.length:=by
 unfold sW;rw[List.length_zipWith,h,Nat.min_self]
def neg(a:List Int):List Int:=a.map fun x=>-x
theorem AE(a:List Int):(neg a).length=a.length:=by simp[neg]
def Rc(n:Nat)(M:Mat):Prop:=∀r∈M,r.length=n
theorem Rc.rw{n:Nat}{M:Mat}(h:Rc n M){i:Nat}(hi:i<M.length):(rw M i).length=n:=by
 unfold Mx.rw;rw[bg,aP hi];exact h _ (List.getElem_mem hi)
theorem Rc.set{n:Nat}{M:Mat}(h:Rc n M){i:Nat}{r:List Int}(hr:r.length=n):Rc n (M.set i r):=fun x hx=>by
 rcases List.mem_or_eq_of_mem_set hx with h1|h1
 ·exact h x h1
 ·rw[h1];exact hr
theorem oK(M:Mat)(i k:Nat)(r:List Int)(hi:i<M.length):rw (M.set i r) k=if k=i then r else rw M k:=by
 unfold rw;rw[bg,List.getElem?_set];by_cases h:i=k
 ·subst h;simp[hi]
 ·rw[an h,an (fun e=>h e.symm),bg]
def swp(M:Mat)(i j:Nat):Mat:=(M.set i (rw M j)).set j (rw M i)
theorem tL(M:Mat)(i j:Nat):(swp M i j).length=M.length:=by simp[swp]
theorem BD{n:Nat}{M:Mat}(h:Rc n M){i j:Nat}(hi:i<M.length)(hj:j<M.length):Rc n (swp M i j):=(h.set (h.rw hj)).set (h.rw hi)
theorem BC{M:Mat}{i j:Nat}(hi:i<M.length)(hj:j<M.length)(k:Nat):rw (swp M i j) k=if k=j then rw M i else if k=i then rw M j else rw M k:=by
 unfold swp;rw[oK _ _ _ _ (by simpa using hj),oK _ _ _ _ hi]
def scan(c r:Nat)(M:Mat):Nat->Option Nat×Nat
 |0=>(none,0)
 |k+1=>
  let p:=scan c r M k
  if at' M (r+k) c=0 then p
  else(match p.1 with
   |none=>some (r+k)
   |some t=>if(at' M (r+k) c).natAbs<(at' M t c).natAbs then some (r+k)else some t,p.2+1)
def Bc(p:List Int)(c:Nat)(a:List Int):List Int:=sW (-(a.getD c 0/p.getD c 0)) a p
def zK(r c s:Nat)(M:Mat):Nat->Mat
 |0=>M
 |k+1=>(zK r c s M k).set (s+k) (Bc (rw M r) c (rw M (s+k)))
def elim(r c:Nat)(M:Mat):Mat:=zK r c (r+1) M (M.length-(r+1))
def pick(r c:Nat)(M:Mat):Option Nat×Nat:=scan c r M (M.length-r)
end Mx
end
section
namespace Mx
inductive RE:Mat->Mat->Prop
 |refl (M:Mat):RE M M
 |add (M:Mat) (i j:Nat) (q:Int):i<M.length->j<M.length->i≠j->RE M (M.set i (sW q (rw M i) (rw M j)))
 |neg (M:Mat) (i:Nat):i<M.length->RE M (M.set i (neg (rw M i)))
 |swp (M:Mat) (i j:Nat):i<M.length->j<M.length->RE M (swp M i j)
 |trans {A B C:Mat}:RE A B->RE B C->RE A C
theorem RE.len{A B:Mat}(h:RE A B):B.length=A.length:=by
 induction h with
 |refl=>rfl
 |add=>simp
 |neg=>simp
 |swp=>exact tL _ _ _
 |trans _ _ h1 h2=>exact h2.trans h1
theorem RE.rc{n:Nat}{A B:Mat}(h:RE A B):Rc n A->Rc n B:=by
 induction h with
 |refl=>exact id
 |add M i j q hi hj _=>exact fun h=>h.set (by rw[zj _ _ _ (by rw[h.rw hi,h.rw hj]),h.rw hi])
 |neg M i hi=>exact fun h=>h.set (by rw[AE,h.rw hi])
 |swp M i j hi hj=>exact fun h=>BD h hi hj
 |trans _ _ h1 h2=>exact fun h=>h2 (h1 h)
def lcf:(Nat->Int)->Mat->Nat->Int
 |_,[],_=>0
 |f,a::A,j=>f 0*a.getD j 0+lcf (fun i=>f (i+1)) A j
theorem kJ(f:Nat->Int)(a:List Int)(A:Mat)(j:Nat):lcf f (a::A) j=f 0*a.getD j 0+lcf (fun i=>f (i+1)) A j:=rfl
def SP(M:Mat)(v:Nat->Int):Prop:=∃f,∀j,v j=lcf f M j
theorem tX:∀(M:Mat) (f g:Nat->Int) (x y:Int) (j:Nat),lcf (fun i=>x*f i+y*g i) M j=x*lcf f M j+y*lcf g M j
 |[],f,g,x,y,j=>by simp[lcf]
 |a::M,f,g,x,y,j=>by
  rw[kJ,kJ,kJ];show(x*f 0+y*g 0)*_+lcf (fun i=>x*f (i+1)+y*g (i+1)) M j=_;rw[tX M (fun i=>f (i+1)) (fun i=>g (i+1)) x y j,Int.add_mul,Int.mul_add,Int.mul_add,Int.mul_assoc,Int.mul_assoc];omega
theorem nH:∀(M:Mat) (j:Nat),lcf (fun _=>0) M j=0
 |[],_=>rfl
 |a::M,j=>by rw[kJ,nH M j];simp
theorem tW:∀(M:Mat) (k j:Nat),lcf (fun i=>if i=k then 1 else 0) M j=at' M k j
 |[],k,j=>by simp[lcf,at',rw]
 |a::M,0,j=>by
  show(if(0:Nat)=0 then(1:Int)else 0)*a.getD j 0+lcf (fun i:Nat=>if i+1=0 then(1:Int)else 0) M j=_;rw[aB rfl,show(fun i:Nat=>if i+1=0 then(1:Int)else 0)=fun _=>0 by funext i;rw[an aa],nH];simp[at',rw]
 |a::M,k+1,j=>by
  show(if(0:Nat)=k+1 then(1:Int)else 0)*a.getD j 0+lcf (fun i:Nat=>if i+1=k+1 then(1:Int)else 0) M j=_;rw[an aa,show(fun i:Nat=>if i+1=k+1 then(1:Int)else 0)=fun i=>if i=k then 1 else 0 by funext i;simp,tW M k j];simp[at',rw]
theorem SP.lin{M:Mat}{u v:Nat->Int}(h:SP M u)(k:SP M v)(x y:Int):SP M (fun j=>x*u j+y*v j):=by
 obtain⟨f,hf⟩:=h;obtain⟨g,hg⟩:=k;exact⟨fun i=>x*f i+y*g i,fun j=>by rw[tX,<-hf,<-hg]⟩
theorem SP.row(M:Mat)(k:Nat):SP M (at' M k):=⟨_,fun j=>(tW M k j).symm⟩
theorem SP.zero(M:Mat):SP M (fun _=>0):=⟨_,fun j=>(nH M j).symm⟩
theorem SP.congr{M:Mat}{u v:Nat->Int}(h:SP M u)(e:∀j,v j=u j):SP M v:=by
 obtain⟨f,hf⟩:=h;exact⟨f,fun j=>(e j).trans (hf j)⟩
theorem sY(a:List Int)(N:Mat)(i j:Nat):at' (a::N) (i+1) j=at' N i j:=by simp[at',rw]
theorem sX(a:List Int)(N:Mat)(j:Nat):at' (a::N) 0 j=a.getD j 0:=by simp[at',rw]
theorem wL{M:Mat}:∀(N:Mat) (f:Nat->Int),(∀i,i<N.length->SP M (at' N i))->SP M (fun j=>lcf f N j)
 |[],_,_=>SP.zero M
 |a::N,f,h=>by
  have h1:=wL N (fun i=>f (i+1)) fun i hi=>(h (i+1) fq).congr fun j=>(sY a N i j).symm;have h2:=h 0 aO;exact(h2.lin h1 (f 0) 1).congr fun j=>by
   show f 0*a.getD j 0+lcf (fun i=>f (i+1)) N j=_;rw[sX];omega
theorem SP.sub{M N:Mat}(h:∀i,i<N.length->SP M (at' N i)){v:Nat->Int}(hv:SP N v):SP M v:=by
 obtain⟨f,hf⟩:=hv;exact(wL N f h).congr hf
end Mx
end
section
namespace Mx
def skip(k j:Nat):Nat:=if j<k then j else j+1
theorem RE.lin{n:Nat}{A B:Mat}(h:RE A B)(L:List Int->Prop)(h1:∀a b q,a.length=n->b.length=n->L a->L b->L (sW q a b))(h2:∀a,L a->L (Mx.neg a)):Rc n A->(∀i,i<A.length->L (rw A i))->∀i,i<B.length->L (rw B i):=by
 induction h with
 |refl=>exact fun _ h=>h
 |add M i j q hi hj hij=>
  intro hM h k hk;rw[oK _ _ _ _ hi];split
  ·exact h1 _ _ q (hM.rw hi) (hM.rw hj) (h i hi) (h j hj)
  ·exact h k (by simpa using hk)
 |neg M i hi=>
  intro hM h k hk;rw[oK _ _ _ _ hi];split
  ·exact h2 _ (h i hi)
  ·exact h k (by simpa using hk)
 |swp M i j hi hj=>
  intro hM h k hk;rw[tL]at hk;rw[BC hi hj];split
  ·exact h i hi
  ·split
   ·exact h j hj
   ·exact h k hk
 |trans g1 _ i1 i2=>exact fun hM h=>i2 (g1.rc hM) (i1 hM h)
end Mx
end
section
open Go.RowKit Go.BigFrame
attribute [local go_sem ↓] Go.wp_at_zero Go.wp_at_succ
structure Chg(g:Nat)(w w':World):Prop where
 os:w'.os=w.os
 tape:w'.tape=w.tape
 output:w'.output=w.output
 size:w.heap.size<=w'.heap.size
 block:∀k,k<w.heap.size->k≠g->w'.heap[k]?=w.heap[k]?
theorem Chg.of{g:Nat}{w w':World}(h:Below w.heap.size w w'):Chg g w w':=⟨h.os,h.tape,h.output,h.size,fun k hk _=>h.block k hk⟩
theorem Chg.trans{g:Nat}{a b c:World}(h:Chg g a b)(k:Chg g b c):Chg g a c:=
 ⟨k.os.trans h.os,k.tape.trans h.tape,k.output.trans h.output,aE h.size k.size,fun i hi hg=>(k.block i (aH hi h.size) hg).trans (h.block i hi hg)⟩
theorem Chg.drew{g:Nat}{w w':World}(h:Chg g w w'):Chg g w w'.drew:=h.trans (Chg.of (Below.refl _ _).drew)
theorem Chg.cell{g:Nat}{w w':World}(h:Chg g w w'){b o:Nat}(hb:b<w.heap.size)(hg:b≠g):w'.cell? ⟨b,o,none⟩=w.cell? ⟨b,o,none⟩:=World.cell?_of_block (h.block b hb hg)
theorem frozen?_of_block{w w':World}{b o:Nat}(h:w'.heap[b]?=w.heap[b]?):w'.frozen? ⟨b,o,none⟩=w.frozen? ⟨b,o,none⟩:=by
 simp only[World.frozen?,h]
theorem Chg.frozen{g:Nat}{w w':World}(h:Chg g w w'){b o:Nat}(hb:b<w.heap.size)(hg:b≠g):w'.frozen? ⟨b,o,none⟩=w.frozen? ⟨b,o,none⟩:=frozen?_of_block (h.block b hb hg)
def NW(w:World)(g:Nat):Prop:=∀n,w.cell? ⟨g,0,none⟩≠some (.int .u32 n)
theorem WS.chg{g:Nat}{w w':World}{a:Option Addr}{l:List Nat}(h:WS w a l)(k:Chg g w w')(hb:NW w g):WS w' a l:=by
 rcases h with h|⟨b,e,hg,hc⟩
 ·exact .inl h
 ·by_cases hl:l=[]
  ·exact .inl hl
  have hne:b≠g:=fun e2=>by
   have h0:=hc 0 _ (aP (eM.2 hl));rw[e2]at h0;exact hb _ h0
  exact .inr ⟨b,e,aH hg k.size,fun i x hk=>(k.cell hg hne).trans (hc i x hk)⟩
theorem IW.chg{g:Nat}{w w':World}{x:IV}{l:List Nat}(h:IW w x l)(k:Chg g w w')(hb:NW w g):IW w' x l:=⟨h.n,h.cap,h.ws.chg k hb,h.nf⟩
theorem IZ.chg{g:Nat}{w w':World}{x:IV}{z:Int}(h:IZ w x z)(k:Chg g w w')(hb:NW w g):IZ w' x z:=by
 obtain⟨l,h1,h2,h3⟩:=h;exact⟨l,h1.chg k hb,h2,h3⟩
structure RA(w:World)(g o:Nat)(zs:List Int):Prop where
 lt:g<w.heap.size
 c:∀(k:Nat) (z:Int),zs[k]?=some z->∃x:IV,w.cell? ⟨g,o+k*2,none⟩=some (.bool x.s)/\w.cell? ⟨g,o+k*2+1,none⟩=some (.slice x.a x.n x.cap)/\IZ w x z
def RO(w:World)(g:Nat)(zs:List Int):Prop:=∃xs,RI w g xs zs
theorem RI.nw{w:World}{g:Nat}{xs:List IV}{zs:List Int}(h:RI w g xs zs)(hz:zs≠[]):NW w g:=fun n e=>by
 obtain⟨x,hx⟩:∃x,xs[0]?=some x:=⟨_,aP (by rw[h.len];exact eM.2 hz)⟩;have:=h.c0 0 x hx;rw[jb,e]at this;cases this
theorem RO.nw{w:World}{g:Nat}{zs:List Int}(h:RO w g zs)(hz:zs≠[]):NW w g:=h.elim fun _ h=>h.nw hz
theorem RO.below{B:Nat}{w w':World}{g:Nat}{zs:List Int}(h:RO w g zs)(hb:Below B w w')(hB:w.heap.size<=B):RO w' g zs:=h.elim fun xs h=>⟨xs,h.below hb hB⟩
theorem RO.lt{w:World}{g:Nat}{zs:List Int}(h:RO w g zs):g<w.heap.size:=h.elim fun _ h=>h.lt
theorem getD_some{l:List Int}{k:Nat}(h:k<l.length):l[k]?=some (l.getD k 0):=by
 rw[bg,aP h];rfl
def part(k:Nat)(a b:List Int):List Int:=a.take k++b.drop k
end
section
open Go.RowKit
namespace DW
inductive D where
 |any
 |sc (v:Value)
 |nm (z:Int)
 |ls (wd:Nat) (l:List D)
 |st (l:List D)
 |pt (d:D)
 |tp (l:List D)
 |own (k:Nat)
 |opt (k off:Nat)
 |cl (g:Nat) (l:List D)
 deriving Inhabited
mutual
def D.wd:D->Nat
 | .any=>0
 | .sc _=>1
 | .nm _=>2
 | .ls _ _=>1
 | .st l=>D.wds l
 | .pt _=>1
 | .tp _=>0
 | .own _=>1
 | .opt _ _=>1
 | .cl _ _=>1
def D.wds:List D->Nat
 |[]=>0
 |d::l=>D.wd d+D.wds l
end
def D.agg:D->Bool
 | .nm _=>true
 | .st _=>true
 |_=>false
def D.fits:D->Bool
 | .any=>false
 | .tp _=>false
 | .own _=>false
 | .opt _ _=>false
 | .cl _ _=>false
 |_=>true
mutual
def AR(X:Nat->Prop)(w:World):D->Value->Prop
 | .any,_=>True
 | .sc u,v=>v=u/\u.oneCell'=true
 | .nm z,v=>∃x:IV,v= .agg #[.bool x.s,.slice x.a x.n x.cap]/\IZ w x z
 | .ls wd l,v=>∃a c,v= .slice a l.length c/\l.length<=c/\(l=[]\/∃b o,a=some ⟨b,o,none⟩/\¬X b/\b<w.heap.size/\ARs X w b wd l o)
 | .st l,v=>∃cs,v= .agg cs/\ASt X w l cs.toList
 | .pt d,v=>∃b o u,v= .pointer (some ⟨b,o,none⟩)/\¬X b/\b<w.heap.size/\AR X w d u/\w.rangeAt b o u.cells.toList
 | .tp l,v=>∃vs,v= .tuple vs/\ATp X w l vs.toList
 | .own _,_=>False
 | .opt _ _,_=>False
 | .cl g l,v=>∃us,v= .func (.func g) #[] us/\ATp X w l us.toList
def ARs(X:Nat->Prop)(w:World)(b wd:Nat):List D->Nat->Prop
 |[],_=>True
 |d::l,o=>(∃u,AR X w d u/\d.fits=true/\d.wd=wd/\w.rangeAt b o u.cells.toList)/\ARs X w b wd l (o+wd)
def ASt(X:Nat->Prop)(w:World):List D->List Value->Prop
 |[],cs=>cs=[]
 |d::l,cs=>∃u rest,cs=u.cells.toList++rest/\AR X w d u/\d.fits=true/\ASt X w l rest
def ATp(X:Nat->Prop)(w:World):List D->List Value->Prop
 |[],vs=>vs=[]
 |d::l,vs=>∃u rest,vs=u::rest/\AR X w d u/\ATp X w l rest
end
structure Agr(X:Nat->Prop)(w w':World):Prop where
 size:w.heap.size<=w'.heap.size
 block:∀b,b<w.heap.size->¬X b->w'.heap[b]?=w.heap[b]?
 iz:∀x z,IZ w x z->IZ w' x z
theorem Agr.of{w w':World}(X:Nat->Prop)(h:Below w.heap.size w w'):Agr X w w':=⟨h.size,fun b hb _=>h.block b hb,fun _ _ hz=>hz.below h (ai _)⟩
theorem Agr.refl(X:Nat->Prop)(w:World):Agr X w w:=⟨ai _,fun _ _ _=>rfl,fun _ _ h=>h⟩
theorem Agr.range{X:Nat->Prop}{w w':World}(k:Agr X w w'){b o:Nat}{cs:List Value}(hb:b<w.heap.size)(hX:¬X b)(h:w.rangeAt b o cs):w'.rangeAt b o cs:=fun j v hj=>
 (World.cell?_of_block (k.block b hb hX)).trans (h j v hj)
mutual
theorem AR.agr{X X':Nat->Prop}{w w':World}(k:Agr X w w')(hX:∀b,b<w.heap.size->X' b->X b):∀(d:D) (v:Value),AR X w d v->AR X' w' d v
 | .any,_,_=>by simp only[AR]
 | .sc u,v,h=>by simp only[AR]at h⊢;exact h
 | .nm z,v,h=>by
  simp only[AR]at h⊢;obtain⟨x,h1,h2⟩:=h;exact⟨x,h1,k.iz _ _ h2⟩
 | .ls wd l,v,h=>by
  simp only[AR]at h⊢;obtain⟨a,c,h1,h2,h3⟩:=h;refine⟨a,c,h1,h2,?_⟩;rcases h3 with h3|⟨b,o,h4,h5,h6,h7⟩
  ·exact .inl h3
  ·exact .inr ⟨b,o,h4,fun e=>h5 (hX b h6 e),aH h6 k.size,ARs.agr k hX b wd h6 h5 l o h7⟩
 | .st l,v,h=>by
  simp only[AR]at h⊢;obtain⟨cs,h1,h2⟩:=h;exact⟨cs,h1,ASt.agr k hX l _ h2⟩
 | .pt d,v,h=>by
  simp only[AR]at h⊢;obtain⟨b,o,u,h1,h2,h3,h4,h5⟩:=h;exact⟨b,o,u,h1,fun e=>h2 (hX b h3 e),aH h3 k.size,AR.agr k hX d u h4,k.range h3 h2 h5⟩
 | .tp l,v,h=>by
  simp only[AR]at h⊢;obtain⟨vs,h1,h2⟩:=h;exact⟨vs,h1,ATp.agr k hX l _ h2⟩
 | .own _,_,h=>by simp only[AR]at h
 | .opt _ _,_,h=>by simp only[AR]at h
 | .cl g l,v,h=>by
  simp only[AR]at h⊢;obtain⟨vs,h1,h2⟩:=h;exact⟨vs,h1,ATp.agr k hX l _ h2⟩
theorem ARs.agr{X X':Nat->Prop}{w w':World}(k:Agr X w w')(hX:∀b,b<w.heap.size->X' b->X b)(b wd:Nat)(hb:b<w.heap.size)(hXb:¬X b):∀(l:List D) (o:Nat),ARs X w b wd l o->ARs X' w' b wd l o
 |[],_,_=>by simp only[ARs]
 |d::l,o,h=>by
  simp only[ARs]at h⊢;obtain⟨⟨u,h1,h2,h3,h4⟩,h5⟩:=h;exact⟨⟨u,AR.agr k hX d u h1,h2,h3,k.range hb hXb h4⟩,ARs.agr k hX b wd hb hXb l _ h5⟩
theorem ASt.agr{X X':Nat->Prop}{w w':World}(k:Agr X w w')(hX:∀b,b<w.heap.size->X' b->X b):∀(l:List D) (cs:List Value),ASt X w l cs->ASt X' w' l cs
 |[],_,h=>by simp only[ASt]at h⊢;exact h
 |d::l,cs,h=>by
  simp only[ASt]at h⊢;obtain⟨u,rest,h1,h2,h3,h4⟩:=h;exact⟨u,rest,h1,AR.agr k hX d u h2,h3,ASt.agr k hX l rest h4⟩
theorem ATp.agr{X X':Nat->Prop}{w w':World}(k:Agr X w w')(hX:∀b,b<w.heap.size->X' b->X b):∀(l:List D) (vs:List Value),ATp X w l vs->ATp X' w' l vs
 |[],_,h=>by simp only[ATp]at h⊢;exact h
 |d::l,vs,h=>by
  simp only[ATp]at h⊢;obtain⟨u,rest,h1,h2,h3⟩:=h;exact⟨u,rest,h1,AR.agr k hX d u h2,ATp.agr k hX l rest h3⟩
end
theorem AR.grow{X:Nat->Prop}{w w':World}{d:D}{v:Value}(h:AR X w d v)(k:Below w.heap.size w w'):AR X w' d v:=AR.agr (Agr.of X k) (fun _ _ h=>h) d v h
theorem AR.free{X X':Nat->Prop}{w:World}{d:D}{v:Value}(h:AR X w d v)(hX:∀b,b<w.heap.size->X' b->X b):AR X' w d v:=AR.agr (Agr.refl X w) hX d v h
theorem gX{u:Value}(h:u.oneCell'=true):u.cells= #[u]:=by
 cases u<;>first|rfl|simp[Value.oneCell']at h
mutual
theorem AR.size{X:Nat->Prop}{w:World}:∀(d:D) (v:Value),d.fits=true->AR X w d v->v.cells.size=d.wd
 | .any,_,h,_=>by simp[D.fits]at h
 | .sc u,v,_,h=>by
  simp only[AR]at h;obtain⟨rfl,h⟩:=h;rw[gX h];rfl
 | .nm z,v,_,h=>by
  simp only[AR]at h;obtain⟨x,rfl,_⟩:=h;rfl
 | .ls wd l,v,_,h=>by
  simp only[AR]at h;obtain⟨a,c,rfl,_⟩:=h;rfl
 | .st l,v,_,h=>by
  simp only[AR]at h;obtain⟨cs,rfl,h⟩:=h;have:=ASt.sz l _ h;simpa[Value.cells,D.wd]using this
 | .pt d,v,_,h=>by
  simp only[AR]at h;obtain⟨b,o,u,rfl,_⟩:=h;rfl
 | .tp l,v,h,_=>by simp[D.fits]at h
 | .own _,_,h,_=>by simp[D.fits]at h
 | .opt _ _,_,h,_=>by simp[D.fits]at h
 | .cl _ _,_,h,_=>by simp[D.fits]at h
theorem ASt.sz{X:Nat->Prop}{w:World}:∀(l:List D) (cs:List Value),ASt X w l cs->cs.length=D.wds l
 |[],cs,h=>by simp only[ASt]at h;subst h;rfl
 |d::l,cs,h=>by
  simp only[ASt]at h;obtain⟨u,rest,rfl,h2,h3,h4⟩:=h;have h5:=ASt.sz l rest h4;have h6:=AR.size d u h3 h2;simp only[bK,bL,D.wds];omega
end
theorem AR.shape{X:Nat->Prop}{w:World}{d:D}{v:Value}(hf:d.fits=true)(h:AR X w d v):if d.agg then v= .agg v.cells else(v.oneCell'=true/\v.cells= #[v]):=by
 cases d with
 |any=>simp[D.fits]at hf
 |tp l=>simp[D.fits]at hf
 |own k=>simp[D.fits]at hf
 |opt k o=>simp[D.fits]at hf
 |cl g l=>simp[D.fits]at hf
 |sc u=>simp only[AR]at h;obtain⟨rfl,h⟩:=h;exact⟨h,gX h⟩
 |nm z=>simp only[AR]at h;obtain⟨x,rfl,_⟩:=h;rfl
 |ls wd l=>simp only[AR]at h;obtain⟨a,c,rfl,_⟩:=h;exact⟨rfl,rfl⟩
 |st l=>simp only[AR]at h;obtain⟨cs,rfl,_⟩:=h;rfl
 |pt d=>simp only[AR]at h;obtain⟨b,o,u,rfl,_⟩:=h;exact⟨rfl,rfl⟩
theorem ARs.at{X:Nat->Prop}{w:World}{b wd:Nat}:∀{l:List D} {o i:Nat} {d:D},ARs X w b wd l o->l[i]?=some d->∃u,AR X w d u/\d.fits=true/\d.wd=wd/\w.rangeAt b (o+i*wd) u.cells.toList
 |[],_,_,_,_,h=>by simp at h
 |d::l,o,0,d',h,e=>by
  simp only[ARs]at h;simp at e;subst e;obtain⟨h1,_⟩:=h;simpa using h1
 |d::l,o,i+1,d',h,e=>by
  simp only[ARs]at h;have:=ARs.at h.2 (by simpa using e);rw[aU,cI,fe (i*wd) wd,<-ep];exact this
theorem ARs.mk{X:Nat->Prop}{w:World}{b wd:Nat}:∀{l:List D} {o:Nat},(∀i d,l[i]?=some d->∃u,AR X w d u/\d.fits=true/\d.wd=wd/\w.rangeAt b (o+i*wd) u.cells.toList)->ARs X w b wd l o
 |[],_,_=>by simp only[ARs]
 |d::l,o,h=>by
  simp only[ARs];refine⟨by simpa using h 0 d rfl,ARs.mk fun i d' hd=>?_⟩;have:=h (i+1) d' (by simpa using hd);rw[aU,cI,fe (i*wd) wd,<-ep]at this;exact this
theorem ATp.at{X:Nat->Prop}{w:World}:∀{l:List D} {i:Nat} {d:D} {vs:List Value},ATp X w l vs->l[i]?=some d->∃u,vs[i]?=some u/\AR X w d u
 |[],_,_,_,_,h=>by simp at h
 |d::l,0,d',vs,h,e=>by
  simp only[ATp]at h;simp at e;subst e;obtain⟨u,rest,rfl,h2,_⟩:=h;exact⟨u,rfl,h2⟩
 |d::l,i+1,d',vs,h,e=>by
  simp only[ATp]at h;obtain⟨u,rest,rfl,h2,h3⟩:=h;obtain⟨u',k1,k2⟩:=ATp.at h3 (by simpa using e);exact⟨u',by simpa using k1,k2⟩
end DW
end
section
open Go.RowKit
namespace DW
structure Ow where
 T:TypeId
 wd:Nat
 l:List D
structure S where
 sl:List (Nat×D)
 ow:List (Nat×Ow)
def look:List (Nat×D)->Nat->D
 |[],_=>.any
 |(u,d)::l,t=>if u=t then d else look l t
def S.gt(s:S)(t:Nat):D:=look s.sl t
def S.put(s:S)(dst:Option Tmp)(d:D):S:=
 match dst with
 |some t=>⟨(t,d)::s.sl,s.ow⟩
 |none=>s
def cstL:List Value->D
 |[.bool false,.slice none 0 0]=>.nm 0
 |l=>if l.all (·.oneCell')then .st (l.map .sc)else .any
def cst:Value->D
 | .agg cs=>cstL cs.toList
 | .tuple _=>.any
 |v=>.sc v
def S.op(s:S):Operand->D
 | .tmp t=>s.gt t
 | .const v=>cst v
 | .global _=>.any
 | .func f=>.sc (.func (.func f) #[] #[])
def SR(X:Nat->Prop)(f:Nat->Value)(w:World)(d:D)(v:Value):Prop:=
 match d with
 | .own k=>v=f k
 | .opt k off=>∃g n c,f k= .slice (some ⟨g,0,none⟩) n c/\v= .pointer (some ⟨g,off,none⟩)
 |d=>AR X w d v
def XO(X0:Nat->Prop)(s:S)(f:Nat->Value)(b:Nat):Prop:=X0 b\/∃p∈s.ow,(f p.1).ownBlock=some b
def D.nw:D->Bool
 | .sc (.int .u32 _)=>false
 | .sc _=>true
 | .nm _=>true
 | .ls _ _=>true
 | .pt _=>true
 | .st (d::_)=>d.nw&&decide (0<d.wd)
 |_=>false
def Els(X:Nat->Prop)(w:World)(wd:Nat):List D->List Value->Prop
 |[],xs=>xs=[]
 |d::l,xs=>∃u rest,xs=u.cells.toList++rest/\AR X w d u/\d.fits=true/\d.wd=wd/\d.nw=true/\Els X w wd l rest
def hdr(k:Nat):Bool:=Nat.ble 2000000 k&&(Nat.blt k 3000000||Nat.ble 4000000 k)
def hZ(k:Nat):Bool:=Nat.ble 1000000 k&&Nat.blt k 2000000||Nat.ble 3000000 k&&Nat.blt k 4000000
def pin(k:Nat):Bool:=Nat.ble 3000000 k
theorem mM{k:Nat}(h:Nat.blt k 1000000=true):hdr k=false:=by
 rw[aJ]at h;unfold hdr
 cases hb:Nat.ble 2000000 k with
 |false=>rfl
 |true=>rw[Nat.ble_eq]at hb;omega
theorem pX{j k:Nat}(h:Nat.blt k 1000000=true)(hj:hZ j=true):j≠k:=fun e=>by
 subst e;rw[aJ]at h;simp only[hZ,Bool.or_eq_true,cu,Nat.ble_eq,aJ]at hj;omega
theorem pY{j k:Nat}(h:Nat.blt k 1000000=true)(hj:pin j=true):j≠k:=fun e=>by
 subst e;rw[aJ]at h;simp only[pin,Nat.ble_eq]at hj;omega
def D.row:D->Option Nat
 | .own j=>some j
 |_=>none
def ER(X:Nat->Prop)(f:Nat->Value)(w:World)(d:D)(u:Value):Prop:=
 match d with
 | .own j=>hZ j=true/\u=f j/\∃a n c,u= .slice a n c
 |d=>AR X w d u/\d.fits=true
def ElH(X:Nat->Prop)(f:Nat->Value)(w:World):List D->List Value->Prop
 |[],xs=>xs=[]
 |d::l,xs=>∃u rest,xs=u::rest/\u.oneCell'=true/\u.cells= #[u]/\ER X f w d u/\d.wd=1/\(∀n,u≠ .int .u32 n)/\ElH X f w l rest
def EE(X:Nat->Prop)(f:Nat->Value)(w:World)(k wd:Nat)(l:List D)(xs:List Value):Prop:=
 match hdr k with
 |false=>Els X w wd l xs
 |true=>wd=1/\ElH X f w l xs
theorem EE.pl{X:Nat->Prop}{f:Nat->Value}{w:World}{k wd:Nat}{l:List D}{xs:List Value}(h:EE X f w k wd l xs)(hk:hdr k=false):Els X w wd l xs:=by unfold EE at h;rw[hk]at h;exact h
theorem EE.of{X:Nat->Prop}{f:Nat->Value}{w:World}{k wd:Nat}{l:List D}{xs:List Value}(h:Els X w wd l xs)(hk:hdr k=false):EE X f w k wd l xs:=by unfold EE;rw[hk];exact h
def XW(X:Nat->Prop)(w:World):Prop:=∀b,X b->b<w.heap.size/\NW w b
theorem XW.grow{X:Nat->Prop}{w w':World}(h:XW X w)(k:Below w.heap.size w w'):XW X w':=fun b hb=>
 ⟨aH (h b hb).1 k.size,fun m hm=>(h b hb).2 m ((k.cell (p:=⟨b,0,none⟩) (h b hb).1).symm.trans hm)⟩
def OW(X:Nat->Prop)(f:Nat->Value)(w:World)(base:Nat)(p:Nat×Ow):Prop:=0<p.2.wd/\∃xs,w.ownsRow base p.2.T p.2.wd (f p.1) p.2.l.length xs/\EE X f w p.1 p.2.wd p.2.l xs
structure Gr(Y:Nat->Prop)(w w':World):Prop where
 os:w'.os=w.os
 tape:w'.tape=w.tape
 output:w'.output=w.output
 size:w.heap.size<=w'.heap.size
 block:∀b,b<w.heap.size->¬Y b->w'.heap[b]?=w.heap[b]?
theorem Gr.refl(Y:Nat->Prop)(w:World):Gr Y w w:=⟨rfl,rfl,rfl,ai _,fun _ _ _=>rfl⟩
theorem Gr.below{Y:Nat->Prop}{w w' w2:World}(h:Gr Y w w')(k:Below w'.heap.size w' w2):Gr Y w w2:=
 ⟨k.os.trans h.os,k.tape.trans h.tape,k.output.trans h.output,aE h.size k.size,fun b hb hy=>(k.block b (aH hb h.size)).trans (h.block b hb hy)⟩
theorem Gr.grown{Y:Nat->Prop}{w w' w2:World}{r:Option Nat}(h:Gr Y w w')(k:w'.grownBy w2 r)(hr:∀b,r=some b->w.heap.size<=b\/Y b):Gr Y w w2:=
 ⟨k.os.trans h.os,k.tape.trans h.tape,k.output.trans h.output,aE h.size k.size,fun b hb hy=>(k.block b (aH hb h.size) fun e=>by
  rcases hr b e.symm with h1|h1
  ·omega
  ·exact hy h1).trans (h.block b hb hy)⟩
structure Bs where
 w:World
 Y:Nat->Prop
 f:Nat->Value
structure Hd(X0:Nat->Prop)(n:Nat)(w0:Bs)(s:S)(f:Nat->Value)(a:Act)(w:World):Prop where
 sz:a.tmps.size=n
 df:a.defers=[]
 bl:Gr w0.Y w0.w w
 x0:XW X0 w0.w
 xy:∀b,X0 b->¬w0.Y b
 fx:∀j,pin j=true->f j=w0.f j
 lo:∀p∈s.ow,∀b,(f p.1).ownBlock=some b->w0.w.heap.size<=b\/w0.Y b
 sl:∀t,SR (XO X0 s f) f w (s.gt t) (a.tmps.getD t undef)
 ow:∀p∈s.ow,OW (XO X0 s f) f w 0 p
 nw:∀b,(∃p∈s.ow,(f p.1).ownBlock=some b)->NW w b
 dj:∀p∈s.ow,∀q∈s.ow,p.1≠q.1->∀b,(f p.1).ownBlock=some b->(f q.1).ownBlock≠some b
 un:∀p∈s.ow,∀q∈s.ow,p.1=q.1->p=q
theorem SR.any{X:Nat->Prop}{f:Nat->Value}{w:World}{v:Value}:SR X f w .any v:=by simp only[SR,AR]
theorem SR.grow{X:Nat->Prop}{f:Nat->Value}{w w':World}{d:D}{v:Value}(h:SR X f w d v)(k:Below w.heap.size w w'):SR X f w' d v:=by
 cases d<;>first|exact h|exact AR.grow h k
theorem Els.agr{X X':Nat->Prop}{w w':World}(k:Agr X w w')(hX:∀b,b<w.heap.size->X' b->X b){wd:Nat}:∀{l:List D} {xs:List Value},Els X w wd l xs->Els X' w' wd l xs
 |[],_,h=>h
 |_::_,_,⟨u,rest,h1,h2,h3,h4,hn,h5⟩=>⟨u,rest,h1,AR.agr k hX _ _ h2,h3,h4,hn,Els.agr k hX h5⟩
theorem ER.agr{X X':Nat->Prop}{f f':Nat->Value}{w w':World}(k:Agr X w w')(hX:∀b,b<w.heap.size->X' b->X b)(hf:∀j,hZ j=true->f' j=f j){d:D}{u:Value}(h:ER X f w d u):ER X' f' w' d u:=by
 cases d<;>first|exact⟨AR.agr k hX _ _ h.1,h.2⟩|exact⟨h.1,by rw[hf _ h.1];exact h.2.1,h.2.2⟩
theorem ElH.agr{X X':Nat->Prop}{f f':Nat->Value}{w w':World}(k:Agr X w w')(hX:∀b,b<w.heap.size->X' b->X b)(hf:∀j,hZ j=true->f' j=f j):∀{l:List D} {xs:List Value},ElH X f w l xs->ElH X' f' w' l xs
 |[],_,h=>h
 |_::_,_,⟨u,rest,h1,h2,h3,h4,h5,h6,h7⟩=>⟨u,rest,h1,h2,h3,ER.agr k hX hf h4,h5,h6,ElH.agr k hX hf h7⟩
theorem EE.agr{X X':Nat->Prop}{f f':Nat->Value}{w w':World}(k:Agr X w w')(hX:∀b,b<w.heap.size->X' b->X b)(hf:∀j,hZ j=true->f' j=f j){i wd:Nat}{l:List D}{xs:List Value}(h:EE X f w i wd l xs):EE X' f' w' i wd l xs:=by
 unfold EE at h⊢
 cases hh:hdr i with
 |false=>rw[hh]at h;exact Els.agr k hX h
 |true=>rw[hh]at h;exact⟨h.1,ElH.agr k hX hf h.2⟩
theorem OW.grow{X:Nat->Prop}{f:Nat->Value}{w w':World}{base:Nat}{p:Nat×Ow}(h:OW X f w base p)(k:Below w.heap.size w w'):OW X f w' base p:=by
 obtain⟨h0,xs,h1,h2⟩:=h;refine⟨h0,xs,?_,EE.agr (Agr.of X k) (fun _ _ h=>h) (fun _ _=>rfl) h2⟩;exact World.ownsRow.kept (row:=none) h1 ⟨k.os,k.tape,k.output,k.size,fun b hb _=>k.block b hb⟩ (by cases(f p.1).ownBlock<;>simp)
theorem OW.lt{X:Nat->Prop}{f:Nat->Value}{w:World}{base:Nat}{p:Nat×Ow}(h:OW X f w base p){b:Nat}(hb:(f p.1).ownBlock=some b):base<=b/\b<w.heap.size:=by
 obtain⟨_,xs,h1,_⟩:=h;exact World.ownsRow.lt h1 b hb
theorem XW.gr{X Y:Nat->Prop}{w w':World}(h:XW X w)(k:Gr Y w w')(hy:∀b,X b->¬Y b):XW X w':=fun b hb=>
 ⟨aH (h b hb).1 k.size,fun m hm=>(h b hb).2 m ((World.cell?_of_block (a:=⟨b,0,none⟩) (k.block b (h b hb).1 (hy b hb))).symm.trans hm)⟩
theorem Hd.xlt{X0:Nat->Prop}{n:Nat}{w0:Bs}{s:S}{f:Nat->Value}{a:Act}{w:World}(h:Hd X0 n w0 s f a w):XW (XO X0 s f) w:=fun b hb=>by
 rcases hb with hb|⟨p,hp,hb⟩
 ·exact(h.x0.gr h.bl h.xy) b hb
 ·exact⟨((h.ow p hp).lt hb).2,h.nw b ⟨p,hp,hb⟩⟩
theorem Hd.grow{X0:Nat->Prop}{n:Nat}{w0:Bs}{s:S}{f:Nat->Value}{a:Act}{w w':World}(h:Hd X0 n w0 s f a w)(k:Below w.heap.size w w'):Hd X0 n w0 s f a w':=
 ⟨h.sz,h.df,h.bl.below k,h.x0,h.xy,h.fx,h.lo,fun t=>(h.sl t).grow k,fun p hp=>(h.ow p hp).grow k,fun b hb=>by
  have hb':=hb;obtain⟨p,hp,e⟩:=hb;exact fun m hm=>h.nw b hb' m ((k.cell (p:=⟨b,0,none⟩) ((h.ow p hp).lt e).2).symm.trans hm),h.dj,h.un⟩
theorem gK{a:Act}{t:Nat}{v:Value}(ht:t<a.tmps.size)(u:Nat):(a.put (some t) v).tmps.getD u undef=if t=u then v else a.tmps.getD u undef:=by
 simp only[Act.put,ct,lk];split
 ·simp
 ·rfl
theorem Hd.put{X0:Nat->Prop}{n:Nat}{w0:Bs}{s:S}{f:Nat->Value}{a:Act}{w:World}(h:Hd X0 n w0 s f a w){dst:Option Tmp}{d:D}{v:Value}(hd:SR (XO X0 s f) f w d v)(ht:∀t,dst=some t->t<n):Hd X0 n w0 (s.put dst d) f (a.put dst v) w:=by
 cases dst with
 |none=>exact h
 |some t=>
  have htn:=ht t rfl;refine⟨by simp[Act.put,h.sz],h.df,h.bl,h.x0,h.xy,h.fx,h.lo,fun u=>?_,h.ow,h.nw,h.dj,h.un⟩;rw[gK (by rw[h.sz];exact htn)];show SR (XO X0 s f) f w (look ((t,d)::s.sl) u) _;simp only[look];split
  ·exact hd
  ·exact h.sl u
theorem rQ{X:Nat->Prop}{f:Nat->Value}{w:World}(v:Value):SR X f w (cst v) v:=by
 have key:∀l:List Value,l.all (·.oneCell')=true->ASt X w (l.map .sc) l:=by
  intro l
  induction l with
  |nil=>intro _;simp only[eZ,ASt]
  |cons u l ih=>
   intro h;simp only[ox,cu]at h;simp only[eh,ASt];exact⟨u,l,by rw[gX h.1];rfl,by simp only[AR];exact⟨trivial,h.1⟩,rfl,ih h.2⟩
 cases v with
 |agg cs=>
  simp only[cst];have hc:∀l:List Value,cs.toList=l->SR X f w (cstL l) (.agg cs):=by
   intro l hl;unfold cstL;split
   ·have e : cs = #[.bool false, .slice none 0 0] := by
     apply dB.1;rw[hl]
    subst e;simp only[SR,AR];exact⟨⟨false,none,0,0⟩,rfl,IZ.zero w⟩
   ·split
    ·next h=>simp only[SR,AR];exact⟨cs,rfl,by rw[hl];exact key l h⟩
    ·exact SR.any
  exact hc _ rfl
 |tuple vs=>exact SR.any
 |_=>simp only[SR,cst,AR,Value.oneCell',and_self]
theorem Hd.op{X0:Nat->Prop}{n:Nat}{w0:Bs}{s:S}{f:Nat->Value}{a:Act}{w:World}(h:Hd X0 n w0 s f a w)(x:Operand):SR (XO X0 s f) f w (s.op x) (a.eval x):=by
 cases x with
 |tmp t=>exact h.sl t
 |const v=>exact rQ v
 |global g=>exact SR.any
 |func g=>exact⟨rfl,rfl⟩
def aW(P:Program)(X0:Nat->Prop)(n:Nat)(c:Code)(Q:Exit->S->Prop)(s:S):Prop:=
 ∀w0 f a w,Hd X0 n w0 s f a w->c.wp P (fun e a w=>∃s' f',Hd X0 n w0 s' f' a w/\Q e s') a w
section rules
variable {P : Program} {X0 : Nat->Prop} {n : Nat} {Q : Exit->S->Prop} {s : S}
theorem Bn(h:Q .normal s):aW P X0 n .skip Q s:=fun _ f _ _ hd=>wp_skip ⟨s,f,hd,h⟩
theorem Bo{id:Nat}(h:Q (.exit id) s):aW P X0 n (.exit id) Q s:=fun _ f _ _ hd=>wp_exit ⟨s,f,hd,h⟩
theorem Cw(h:Q .ret s):aW P X0 n .ret Q s:=fun _ f _ _ hd=>wp_ret ⟨s,f,hd,h⟩
def nx(K:S->Prop)(Q:Exit->S->Prop):Exit->S->Prop
 | .normal,s=>K s
 |e,s=>Q e s
theorem uq{c:Operand}{x y:Code}{b:Bool}(hc:s.op c= .sc (.bool b))(h:aW P X0 n (if b then x else y) Q s):aW P X0 n (.cond c x y) Q s:=fun w0 f a w hd=>
 wp_cond (by have:=hd.op c;rw[hc]at this;exact this.1) (h w0 f a w hd)
theorem Bm{c:Operand}{x y:Code}(hc:s.op c= .sc (.bool true))(h:aW P X0 n x Q s):aW P X0 n (.cond c x y) Q s:=uq hc h
theorem zn{c:Operand}{x y:Code}(hc:s.op c= .sc (.bool false))(h:aW P X0 n y Q s):aW P X0 n (.cond c x y) Q s:=uq hc h
def inB(id:Nat)(Q:Exit->S->Prop):Exit->S->Prop
 | .exit id',s=>if id'=id then Q .normal s else Q (.exit id') s
 |e,s=>Q e s
theorem zo{id:Nat}{c:Code}(h:aW P X0 n c (inB id Q) s):aW P X0 n (.block id c) Q s:=fun w0 f a w hd=>
 wp_block (Code.wp_mono (fun e a w ⟨s',f',h1,h2⟩=>by
  cases e with
  |exit id'=>
   simp only[inB]at h2;simp only[Exit.inBlock];split
   ·next e=>rw[aB e]at h2;exact⟨s',f',h1,h2⟩
   ·next e=>rw[an e]at h2;exact⟨s',f',h1,h2⟩
  |_=>exact⟨s',f',h1,h2⟩) (h w0 f a w hd))
def Sh(X0:Nat->Prop)(n:Nat)(s s':S):Prop:=∀w0 f a w,Hd X0 n w0 s f a w->∃f',Hd X0 n w0 s' f' a w
theorem Sh.refl:Sh X0 n s s:=fun _ f _ _ h=>⟨f,h⟩
theorem eP{c:Code}{s':S}(h:Sh X0 n s s')(k:aW P X0 n c Q s'):aW P X0 n c Q s:=fun w0 f a w hd=>by
 obtain⟨f',h1⟩:=h w0 f a w hd;exact k w0 f' a w h1
theorem wC{c:Code}{Q:Exit->Act->World->Prop}(I:Nat->Act->World->Prop){m:Nat}{a:Act}{w:World}(h0:I m a w)
  (round:∀m a w,I m a w->c.wp P (Exit.then (fun a' w'=>∃m',m'<m/\I m' a' w') Q) a w):(Code.loop c).wp P Q a w:=by
 intro b k cs;have key:∀m a w,I m a w->∃e a' w',Q e a' w'/\Arrives P (lone (b.at a (.code c:: .inLoop c::k)) cs w) b k cs e a' w':=by
  intro m
  induction m using Nat.strongRecOn with
  |_ m ih=>
   intro a w hI;obtain⟨e,a₁,w₁,hq,harr⟩:=round m a w hI b (.inLoop c::k) cs
   cases e with
   |normal=>
    obtain⟨m',hlt,hI₁⟩:=hq;obtain⟨e₂,a₂,w₂,hq₂,harr₂⟩:=ih m' hlt a₁ w₁ hI₁;exact⟨e₂,a₂,w₂,hq₂,.of_steps (Steps.trans harr (.one step_inLoop)) harr₂⟩
   |exit id=>exact⟨_,a₁,w₁,hq,.pass (x:=.inLoop c) rfl (fun _ _=>.inl aO) harr⟩
   |goto l=>exact⟨_,a₁,w₁,hq,.pass (x:=.inLoop c) rfl (fun _ _=>.inl aO) harr⟩
   |ret=>exact⟨_,a₁,w₁,hq,.pass (x:=.inLoop c) rfl (fun _ _=>.inl aO) harr⟩
   |panic ch=>exact⟨_,a₁,w₁,hq,.pass (x:=.inLoop c) rfl (fun _ _=>.inl aO) harr⟩
   |outgrown=>exact⟨_,a₁,w₁,hq,.pass (x:=.inLoop c) rfl (fun _ _=>.inl aO) harr⟩
 obtain⟨e,a',w',hq,harr⟩:=key m a w h0;exact⟨e,a',w',hq,.of_steps (.one step_loop) harr⟩
theorem dA{c:Code}(I:Nat->S->Prop){m:Nat}(h0:I m s)(round:∀m s,I m s->aW P X0 n c (nx (fun s'=>∃m' s'',m'<m/\Sh X0 n s' s''/\I m' s'') Q) s):aW P X0 n (.loop c) Q s:=fun w0 f a w hd=>
 wC (fun m a w=>∃s f,Hd X0 n w0 s f a w/\I m s) ⟨s,f,hd,h0⟩ fun m a w ⟨s,f,hd,hI⟩=>
  Code.wp_mono (fun e a w ⟨s',f',h1,h2⟩=>by
   cases e with
   |normal=>
    obtain⟨m',s'',hm,h3,h4⟩:=h2;obtain⟨f'',h5⟩:=h3 w0 f' a w h1;exact⟨m',hm,s'',f'',h5,h4⟩
   |_=>exact⟨s',f',h1,h2⟩) (round m s hI w0 f a w hd)
def aL(P:Program)(X0:Nat->Prop)(n:Nat)(ops:Array Oper)(l:List Oper)(K:S->Prop)(s:S):Prop:=
 ∀w0 f a w (Q:Exit->Act->World->Prop),Hd X0 n w0 s f a w->(∀s' f' a' w',Hd X0 n w0 s' f' a' w'->K s'->Q .normal a' w')->wpList P ops Q l a w
theorem aS{ops:Array Oper}{K:S->Prop}(h:K s):aL P X0 n ops [] K s:=fun _ f a w _ hd hq=>hq s f a w hd h
theorem gar{id:Nat}{l:List Oper}(h:aL P X0 n l.toArray l (Q .normal) s):aW P X0 n (.region id l.toArray false) Q s:=fun w0 f a w hd=>
 wp_region_lit (h w0 f a w _ hd fun s' f' _ _ h1 h2=>⟨s',f',h1,h2⟩)
theorem zN{ops:Array Oper}{l:List Oper}{K:S->Prop}{s':S}(h:Sh X0 n s s')(k:aL P X0 n ops l K s'):aL P X0 n ops l K s:=fun w0 f a w Q hd hq=>by
 obtain⟨f',h1⟩:=h w0 f a w hd;exact k w0 f' a w Q h1 hq
theorem iD{ops:Array Oper}{o:Oper}{l:List Oper}{K:S->Prop}
  (h:∀w0 f a w Qx,Hd X0 n w0 s f a w->Region.wanted o (yielded ops a.tmps)=true/\o.wp P a w (fun a' w'=>∃s' f',Hd X0 n w0 s' f' a' w'/\aL P X0 n ops l K s') Qx):aL P X0 n ops (o::l) K s:=fun w0 f a w Q hd hq=>by
 obtain⟨h1,h2⟩:=h w0 f a w Q hd;refine wpList_step fun K' hK=>?_;rw[aB h1];exact Oper.wp_mono (fun a' w' ⟨s',f',h3,h4⟩=>hK _ _ (h4 w0 f' a' w' Q h3 hq)) h2
def D.lQ:D->Bool
 | .sc _=>true
 |_=>false
def iI(P:Program)(X:Nat->Prop)(f:Nat->Value)(w:World)(d:D):Result Next->Prop
 | .ok (.value u) w'=>SR X f w' d u/\Below w.heap.size w w'/\(d.lQ=true->w'=w)
 | .ok (.enter g args) w'=>w'=w/\Calls P g args w (fun e w''=>∃u,e= .returned u/\SR X f w'' d u/\Below w.heap.size w w'')
 |_=>False
def bq(P:Program)(o:Oper)(s:S)(d:D):Prop:=
 ∀(X:Nat->Prop) (f:Nat->Value) (a:Act) (w:World) (base:Nat),XW X w->(∀p∈s.ow,OW X f w base p)->(∀x∈o.op.operands,SR X f w (s.op x) (a.eval x))->iI P X f w d ((execOp a.eval o).run P w)
def cA(n:Nat)(o:Oper):Bool:=match o.dst with|some t=>decide (t<n)|none=>true
theorem fm{o:Oper}(h:cA n o=true):∀t,o.dst=some t->t<n:=fun t e=>by
 unfold cA at h;rw[e]at h;simpa using h
theorem oA{o:Oper}{d:D}(hd:bq P o s d){w0:Bs}{f:Nat->Value}{a:Act}{w:World}(h:Hd X0 n w0 s f a w)(ht:cA n o=true){Q:Exit->Act->World->Prop}:
  o.wp P a w (fun a' w'=>Hd X0 n w0 (s.put o.dst d) f a' w') Q:=by
 have h1:=hd (XO X0 s f) f a w 0 h.xlt h.ow (fun x _=>h.op x);unfold Oper.wp;generalize(execOp a.eval o).run P w=r at h1
 cases r with
 |halt x w'=>simp only[iI]at h1
 |ok x w'=>
  cases x<;>simp only[iI]at h1<;>simp only[Oper.upon]
  case value u=>exact(h.grow h1.2.1).put h1.1 (fm ht)
  case enter g args=>
   obtain⟨rfl,h2⟩:=h1;exact h2.mono fun e w'' ⟨u,he,h3,h4⟩=>by subst he;exact(h.grow h4).put h3 (fm ht)
theorem Br{ops:Array Oper}{o:Oper}{l:List Oper}{K:S->Prop}{d:D}(hg:o.guard=none)(ht:cA n o=true)(hd:bq P o s d)(h:aL P X0 n ops l K (s.put o.dst d)):aL P X0 n ops (o::l) K s:=
 iD fun _ f _ _ _ hh=>⟨by simp[Region.wanted,hg],Oper.wp_mono (fun _ _ h1=>⟨_,f,h1,h⟩) (oA hd hh ht)⟩
end rules
end DW
end
section
open Go.RowKit
namespace DW
section ops
variable {P : Program} {s : S} {o : Oper}
theorem fI{X:Nat->Prop}{f:Nat->Value}{w:World}{d:D}{u:Value}{r:Result Next}(h:r= .ok (.value u) w)(hd:SR X f w d u):iI P X f w d r:=by
 rw[h];exact⟨hd,Below.refl _ _,fun _=>rfl⟩
theorem qB{x:Operand}(ho:o.op= .move x\/o.op= .assign x):bq P o s (s.op x):=fun X f a w base _ _ hs=>by
 rcases ho with ho|ho;all_goals
  refine fI (u:=a.eval x) ?_ (hs x bp);unfold execOp;rw[ho];rfl
theorem ze{x:Operand}{t e:TypeId}{wd:Nat}{l:List D}(ho:o.op= .call {callee:=.builtin .len,args:=#[x],argTypes:=#[t]})(hx:s.op x= .ls wd l)(ht:P.underlying t=some (.slice e)):
  bq P o s (.sc (.int .i64 (l.length:Int))):=fun X f a w base _ _ hs=>by
 have h1:=hs x gB;rw[hx]at h1;simp only[SR,AR]at h1;obtain⟨ad,c,h2,_⟩:=h1;refine fI (u:=.int .i64 (l.length:Int)) ?_ (by simp only[SR,AR];exact⟨trivial,rfl⟩);unfold execOp;rw[ho];simp only[resolve,invoke,builtin,Sem.run_bind,Sem.run_pure,Result.andThen_ok,ko,eh,eZ,h2,Builtin.len_,run_underlying ht];simp[run_underlying ht,goInt]
theorem cK(b o j:Nat):(⟨b,o,none⟩:Addr).add j=⟨b,o+j,none⟩:=Addr.add_mid b o j
theorem pe{x i:Operand}{t:TypeId}{wd:Nat}{l:List D}{k:IntKind}{n:Int}{d:D}(ho:o.op= .indexAddr t x i)(hx:s.op x= .ls wd l)(hi:s.op i= .sc (.int k n))
  (ht:P.underlying t=some (.slice (P.elem t))) (hz:(P.info? (P.elem t)).map (·.size)=some wd) (hn:0<=n) (hd:l[n.toNat]?=some d):bq P o s (.pt d):=fun X f a w base _ _ hs=>by
 have h1:=hs x bp;have h2:=hs i bp;rw[hx]at h1;rw[hi]at h2;simp only[SR,AR]at h1 h2;obtain⟨ad,c,h3,h4,h5⟩:=h1;have hl:=(cN.1 hd).1;rcases h5 with h5|⟨b,off,rfl,h6,h7,h8⟩
 ·rw[h5]at hl;simp at hl
 obtain⟨u,k1,k2,k3,k4⟩:=ARs.at h8 hd;have hlt:n<(l.length:Int):=by omega
 refine fI (u:=.pointer (some ⟨b,off+n.toNat*wd,none⟩)) ?_ (by simp only[SR,AR];exact⟨b,_,u,rfl,h6,h7,k1,k4⟩);unfold execOp;rw[ho]
 cases hq:P.info? (P.elem t)with
 |none=>rw[hq]at hz;cases hz
 |some inf=>
  rw[hq]at hz;simp only[bX,ah]at hz;have hrun:=run_indexAt_slice (P:=P) (w:=w) t ⟨b,off,none⟩ l.length c k n ht;rw[aB (And.intro hn hlt)]at hrun;simp only[Sem.run_bind,h3,h2.1,hrun];simp[sizeOf,typeInfo,hq,hz,cK]
theorem vD{w:World}{t:TypeId}{a:Addr}:(Instr.loadAt t (.pointer (some a))).run P w=(loadVar t a).run P w:=by
 simp[Instr.loadAt,Instr.sureAddr]
theorem su{X:Nat->Prop}{w:World}{d:D}{u:Value}{b off:Nat}{t:TypeId}(h:AR X w d u)(hf:d.fits=true)(hr:w.rangeAt b off u.cells.toList)(hz:(P.info? t).map (·.size)=some d.wd)(hg:(P.underlying t).map TypeDesc.isRow=some d.agg):
  (Instr.loadAt t (.pointer (some ⟨b,off,none⟩))).run P w= .ok u w:=by
 have hsh:=AR.shape hf h;have hsz:=AR.size d u hf h
 cases hu:P.underlying t with
 |none=>rw[hu]at hg;cases hg
 |some dd=>
  rw[hu]at hg;simp only[bX,ah]at hg
  cases ha:d.agg with
  |true=>
   rw[ha]at hsh hg;simp only[if_true]at hsh;have:=run_loadAt_mid (P:=P) w b off t u.cells.toList dd hr hu hg (by rw[hz];simp[hsz]);rw[this];rw[hsh];simp[Value.cells]
  |false=>
   rw[ha]at hsh hg;obtain⟨h1,h2⟩:=hsh;have hc:w.cell? ⟨b,off,none⟩=some u:=by
    have:=hr 0 u (by rw[h2];rfl);simpa using this
   have hagg:(isAgg t).run P w= .ok false w:=by
    unfold isAgg;rw[Sem.run_bind,run_underlying hu w];cases dd<;>simp_all
   simp[Instr.loadAt,Instr.sureAddr,loadVar,Sem.run_bind,hagg,hc]
theorem xH{x:Operand}{t:TypeId}{d:D}(ho:o.op= .load t x)(hx:s.op x= .pt d)(hf:d.fits=true)(hz:(P.info? t).map (·.size)=some d.wd)(hg:(P.underlying t).map TypeDesc.isRow=some d.agg):bq P o s d:=fun X f a w base _ _ hs=>by
 have h1:=hs x bp;rw[hx]at h1;simp only[SR,AR]at h1;obtain⟨b,off,u,h2,_,_,h3,h4⟩:=h1;refine fI (u:=u) ?_ (by cases d<;>first|exact h3|simp[D.fits]at hf);unfold execOp;rw[ho];simp only[Sem.run_bind,h2,su h3 hf h4 hz hg,Result.andThen_ok];rfl
theorem gR{u:Value}(hu:u.oneCell'=true)(hr:∀(X:Nat->Prop) (f:Nat->Value) (w:World) (a:Act),(∀x∈o.op.operands,SR X f w (s.op x) (a.eval x))->(execOp a.eval o).run P w= .ok (.value u) w):bq P o s (.sc u):=fun X f a w base _ _ hs=>
 fI (hr X f w a hs) (by simp only[SR,AR];exact⟨trivial,hu⟩)
theorem kR{op:BinOp}{t t':TypeId}{x y:Operand}{u1 u2 u:Value}(ho:o.op= .binOp op t x y t')(hx:s.op x= .sc u1)(hy:s.op y= .sc u2)(hu:u.oneCell'=true)
  (hr:∀w,((do eqGuard op t x y u1 u2;binOp op t u1 u2:Sem Value)).run P w= .ok u w):bq P o s (.sc u):=gR hu fun X f w a hs=>by
 have h1:=hs x bp;have h2:=hs y bp;rw[hx]at h1;rw[hy]at h2;simp only[SR,AR]at h1 h2;have h3:=hr w;unfold execOp;rw[ho];simp only[h1.1,h2.1];rw[Sem.run_bind,h3];rfl
def vS(op:BinOp)(p q:Int)(k:IntKind):Option Value:=
 match op with
 | .add=>some (.int k (k.wrap (p+q)))
 | .sub=>some (.int k (k.wrap (p-q)))
 | .mul=>some (.int k (k.wrap (p*q)))
 | .eql=>some (.bool (decide (p=q)))
 | .neq=>some (.bool (!decide (p=q)))
 | .lss=>some (.bool (decide (p<q)))
 | .leq=>some (.bool (decide (p<=q)))
 | .gtr=>some (.bool (decide (q<p)))
 | .geq=>some (.bool (decide (q<=p)))
 |_=>none
theorem bZ{op:BinOp}{t t':TypeId}{x y:Operand}{k:IntKind}{p q:Int}{u:Value}(ho:o.op= .binOp op t x y t')(hx:s.op x= .sc (.int k p))(hy:s.op y= .sc (.int k q))(hu:vS op p q k=some u):bq P o s (.sc u):=by
 refine kR ho hx hy (by cases op<;>simp[vS]at hu<;>subst hu<;>rfl) fun w=>?_;cases op<;>simp only[vS,ah,reduceCtorEq]at hu<;>subst hu<;>simp[eqGuard,binOp,Op.intArith,Op.intCmp,BEq.beq,bne]
theorem za{t:TypeId}{x:Operand}{b:Bool}(ho:o.op= .unOp .not t x)(hx:s.op x= .sc (.bool b)):bq P o s (.sc (.bool !b)):=gR rfl fun X f w a hs=>by
 have h1:=hs x bp;rw[hx]at h1;simp only[SR,AR]at h1;unfold execOp;rw[ho];simp[h1.1,Op.unary]
theorem qA{c x y:Operand}{b:Bool}(ho:o.op= .pick c x y)(hc:s.op c= .sc (.bool b)):bq P o s (if b then s.op x else s.op y):=fun X f a w base _ _ hs=>by
 have h1:=hs c bp;have h2:=hs x bp;have h3:=hs y bp;rw[hc]at h1;simp only[SR,AR]at h1;refine fI (u:=if b then a.eval x else a.eval y) ?_ (by cases b;exact h3;exact h2);unfold execOp;rw[ho];simp[h1.1,asBool]
theorem sL{x:Operand}{i:Nat}{l:List D}{d:D}(ho:o.op= .extract x i)(hx:s.op x= .tp l)(hd:l[i]?=some d):bq P o s d:=fun X f a w base _ _ hs=>by
 have h1:=hs x bp;rw[hx]at h1;simp only[SR,AR]at h1;obtain⟨vs,h2,h3⟩:=h1;obtain⟨u,h4,h5⟩:=ATp.at h3 hd;refine fI (u:=u) ?_ (by cases d<;>first|exact h5|(simp only[AR]at h5));unfold execOp;rw[ho];have h4':vs[i]?=some u:=by simpa using h4
 simp[h2,Instr.extract,h4']
def Fun(P:Program)(g:FuncId)(ds:List D)(r:D):Prop:=
 ∀(X:Nat->Prop) (w:World) (vs:Array Value),XW X w->ATp X w ds vs.toList->
  Calls P g vs w (fun e w'=>∃u,e= .returned u/\AR X w' r u/\Below w.heap.size w w')
def D.seen:D->Bool
 | .own _=>false
 | .opt _ _=>false
 |_=>true
theorem xQ{X:Nat->Prop}{f:Nat->Value}{w:World}(s:S)(a:Act):∀l:List Operand,(∀x∈l,SR X f w (s.op x) (a.eval x))->(∀x∈l,(s.op x).seen=true)->ATp X w (l.map s.op) (l.map a.eval)
 |[],_,_=>by simp only[eZ,ATp]
 |x::l,h,k=>by
  simp only[eh,ATp];refine⟨a.eval x,l.map a.eval,rfl,?_,xQ s a l (fun y hy=>h y (bh _ hy)) (fun y hy=>k y (bh _ hy))⟩;have h1:=h x ba;have h2:=k x ba;cases hd:s.op x<;>rw[hd]at h1 h2<;>first|exact h1|simp[D.seen]at h2
theorem jy{g:FuncId}{xs:List Operand}{ts:Array TypeId}{ds:List D}{r:D}(ho:o.op= .call {callee:=.value (.func g),args:=xs.toArray,argTypes:=ts})(he:Go.Proofs.Enters P g)(hd:xs.map s.op=ds)(hs:ds.all D.seen=true)(hf:Fun P g ds r)(hr:r.seen=true):bq P o s r:=fun X f a w base hX _ hh=>by
 have h1:ATp X w ds (xs.map a.eval):=by
  rw[<-hd];refine xQ s a xs (fun x hx=>hh x ?_) (fun x hx=>?_)
  ·rw[ho];simp[Op.operands,Call.operands];exact .inr hx
  ·rw[iG]at hs;exact hs _ (by rw[<-hd];exact im.2 ⟨x,hx,rfl⟩)
 have h2:(execOp a.eval o).run P w= .ok (.enter g (xs.map a.eval).toArray) w:=by
  unfold execOp;rw[ho];have:=he (xs.map a.eval).toArray w;simp[resolve,invoke,Deferred.ofValue,Act.eval,this]
 rw[h2];refine⟨rfl,(hf X w _ hX (by simpa using h1)).mono fun e w' ⟨u,k1,k2,k3⟩=>⟨u,k1,?_,k3⟩⟩;cases r<;>first|exact k2|simp[D.seen]at hr
theorem nh(w:World)(cs:Array Value)(t:TypeId):(w.alloc (.cells cs t)).rangeAt w.heap.size 0 cs.toList:=fun j v hj=>by
 rw[cell_of_row _ w.heap.size _ _ _ (0,0) (heap_alloc_new w _),bU];simpa using hj
theorem zf{x:Operand}{t:TypeId}{d:D}(ho:o.op= .box t x)(hx:s.op x=d)(hf:d.fits=true):bq P o s (.pt d):=fun X f a w base hX _ hs=>by
 have h1:=hs x bp;rw[hx]at h1;have h1':AR X w d (a.eval x):=by cases d<;>first|exact h1|simp[D.fits]at hf
 have hr:(execOp a.eval o).run P w= .ok (.value (.pointer (some ⟨w.heap.size,0,none⟩))) (w.alloc (.cells (a.eval x).cells t)):=by
  unfold execOp;rw[ho];simp[Instr.box,newVar,newRow]
 have hb:Below w.heap.size w (w.alloc (.cells (a.eval x).cells t)):=(Below.refl _ _).alloc (ai _) _;rw[hr];refine⟨?_,hb,fun h=>by simp[D.lQ]at h⟩;simp only[SR,AR];exact⟨w.heap.size,0,a.eval x,rfl,fun e=>by have:=(hX _ e).1;omega,by simp,h1'.grow hb,nh _ _ _⟩
theorem zd{x:Operand}{t e:TypeId}{d:D}(ho:o.op= .buildSlice t 1 #[(0,x)])(hx:s.op x=d)(hf:d.fits=true)(ht:P.underlying t=some (.slice e))(hz:(P.info? e).map (fun i=>(i.zero.isSome,i.size))=some (true,d.wd))(h0:0<d.wd)(h1:d.wd<=1000000):bq P o s (.ls d.wd [d]):=fun X f a w base hX _ hs=>by
 have h2:=hs x bp;rw[hx]at h2;have h2':AR X w d (a.eval x):=by cases d<;>first|exact h2|simp[D.fits]at hf
 have hsz:=AR.size d _ hf h2'
 cases hq:P.info? e with
 |none=>rw[hq]at hz;cases hz
 |some inf=>
  rw[hq]at hz;simp only[bX,ah,av]at hz;obtain⟨z,hz1⟩:=bH.1 hz.1;have hfill:=Go.Great.fill_whole (s:=inf.size) aa [a.eval x] ((Array.range (1*inf.size)).map (z.cells[· %z.cells.size]!)) (by intro v hv;rw[cD.1 hv,hsz,hz.2]) aO;have hr:(execOp a.eval o).run P w= .ok (.value (.slice (some ⟨w.heap.size,0,none⟩) 1 1)) (w.alloc (.cells (a.eval x).cells e)):=by
   unfold execOp;rw[ho];have:=run_buildSlice (P:=P) w t e 1 #[(0,a.eval x)] (a.eval x).cells inf z ht hq hz1 (by rw[hz.2];omega) (by rw[hz.2];omega) (by
    simpa using hfill)
   simp[Sem.run_bind,this]
  have hb:Below w.heap.size w (w.alloc (.cells (a.eval x).cells e)):=(Below.refl _ _).alloc (ai _) _;rw[hr];refine⟨?_,hb,fun h=>by simp[D.lQ]at h⟩;simp only[SR,AR,ARs,eQ,reduceCtorEq,false_or];exact⟨_,1,rfl,ai _,w.heap.size,0,rfl,fun e=>by have:=(hX _ e).1;omega,by simp,⟨a.eval x,h2'.grow hb,hf,trivial,nh _ _ _⟩,trivial⟩
end ops
end DW
end
section
open Go.RowKit
namespace DW
mutual
theorem AR.one{X:Nat->Prop}{w:World}:∀(d:D) (v:Value),d.fits=true->AR X w d v->∀u∈v.cells.toList,u.oneCell'=true
 | .any,_,h,_=>by simp[D.fits]at h
 | .sc u,v,_,h=>by
  simp only[AR]at h;obtain⟨rfl,h⟩:=h;rw[gX h];simpa using h
 | .nm z,v,_,h=>by
  simp only[AR]at h;obtain⟨x,rfl,_⟩:=h;intro u hu;simp[Value.cells]at hu;rcases hu with rfl|rfl<;>rfl
 | .ls wd l,v,_,h=>by
  simp only[AR]at h;obtain⟨a,c,rfl,_⟩:=h;intro u hu;simp[Value.cells]at hu;subst hu;rfl
 | .st l,v,_,h=>by
  simp only[AR]at h;obtain⟨cs,rfl,h⟩:=h;exact ASt.one l _ h
 | .pt d,v,_,h=>by
  simp only[AR]at h;obtain⟨b,o,u,rfl,_⟩:=h;intro u hu;simp[Value.cells]at hu;subst hu;rfl
 | .tp l,v,h,_=>by simp[D.fits]at h
 | .own _,_,h,_=>by simp[D.fits]at h
 | .opt _ _,_,h,_=>by simp[D.fits]at h
 | .cl _ _,_,h,_=>by simp[D.fits]at h
theorem ASt.one{X:Nat->Prop}{w:World}:∀(l:List D) (cs:List Value),ASt X w l cs->∀u∈cs,u.oneCell'=true
 |[],cs,h=>by simp only[ASt]at h;subst h;intro u hu;cases hu
 |d::l,cs,h=>by
  simp only[ASt]at h;obtain⟨u,rest,rfl,h2,h3,h4⟩:=h;intro x hx;rcases fg.1 hx with hx|hx
  ·exact AR.one d u h3 h2 x hx
  ·exact ASt.one l rest h4 x hx
end
theorem AR.nwd{X:Nat->Prop}{w:World}:∀(d:D) (v:Value),AR X w d v->d.nw=true->∀n,v.cells.toList[0]?≠some (.int .u32 n)
 | .any,_,_,h=>by simp[D.nw]at h
 | .sc u,v,h,hn=>by
  simp only[AR]at h;obtain⟨rfl,h⟩:=h;rw[gX h];intro n e;simp at e;subst e;simp[D.nw]at hn
 | .nm z,v,h,_=>by
  simp only[AR]at h;obtain⟨x,rfl,_⟩:=h;intro n e;simp[Value.cells]at e
 | .ls wd l,v,h,_=>by
  simp only[AR]at h;obtain⟨a,c,rfl,_⟩:=h;intro n e;simp[Value.cells]at e
 | .st [],v,_,h=>by simp[D.nw]at h
 | .st (d::l),v,h,hn=>by
  simp only[AR,ASt]at h;obtain⟨cs,rfl,u,rest,h1,h2,h3,h4⟩:=h;simp only[D.nw,cu,decide_eq_true_eq]at hn;have hsz:=AR.size d u h3 h2;intro n e;simp only[Value.cells]at e;rw[h1,dN (by simp only[bL];omega)]at e;exact AR.nwd d u h2 hn.1 n e
 | .pt d,v,h,_=>by
  simp only[AR]at h;obtain⟨b,o,u,rfl,_⟩:=h;intro n e;simp[Value.cells]at e
 | .tp l,v,_,h=>by simp[D.nw]at h
 | .own _,_,h,_=>by simp only[AR]at h
 | .opt _ _,_,h,_=>by simp only[AR]at h
 | .cl _ _,v,_,h=>by simp[D.nw]at h
theorem Els.len{X:Nat->Prop}{w:World}{wd:Nat}:∀{l:List D} {xs:List Value},Els X w wd l xs->xs.length=l.length*wd
 |[],_,h=>by rw[show _=[]from h];simp
 |d::l,_,⟨u,rest,h1,h2,h3,h4,_,h5⟩=>by
  have:=Els.len h5;have:=AR.size d u h3 h2;rw[h1];simp only[bK,bL,eu,aU,cI];omega
theorem Els.one{X:Nat->Prop}{w:World}{wd:Nat}:∀{l:List D} {xs:List Value},Els X w wd l xs->∀u∈xs,u.oneCell'=true
 |[],_,h=>by rw[show _=[]from h];intro u hu;cases hu
 |d::l,_,⟨u,rest,h1,h2,h3,h4,_,h5⟩=>by
  rw[h1];intro x hx;rcases fg.1 hx with hx|hx
  ·exact AR.one d u h3 h2 x hx
  ·exact Els.one h5 x hx
theorem Els.app{X:Nat->Prop}{w:World}{wd:Nat}{l2:List D}{ys:List Value}(k:Els X w wd l2 ys):∀{l:List D} {xs:List Value},Els X w wd l xs->Els X w wd (l++l2) (xs++ys)
 |[],_,h=>by rw[show _=[]from h];exact k
 |d::l,_,⟨u,rest,h1,h2,h3,h4,hn,h5⟩=>⟨u,rest++ys,by rw[h1,fy],h2,h3,h4,hn,Els.app k h5⟩
theorem Els.ars{X:Nat->Prop}{w:World}{b wd:Nat}:∀{l:List D} {xs:List Value} {o:Nat},Els X w wd l xs->w.rangeAt b o xs->ARs X w b wd l o
 |[],_,_,_,_=>by simp only[ARs]
 |d::l,_,o,⟨u,rest,h1,h2,h3,h4,_,h5⟩,hr=>by
  have hsz:=AR.size d u h3 h2;simp only[ARs];refine⟨⟨u,h2,h3,h4,fun j v hj=>hr j v ?_⟩,Els.ars h5 fun j v hj=>?_⟩
  ·rw[h1,dN (cN.1 hj).1];exact hj
  ·have:=hr (wd+j) v (by rw[h1,iW (by simp only[bL];omega),bL,hsz,h4,uS];exact hj);rw[<-ep]at this;exact this
theorem ARs.els{X:Nat->Prop}{w:World}{b wd:Nat}:∀{l:List D} {o:Nat},ARs X w b wd l o->l.all D.nw=true->∃xs,Els X w wd l xs/\w.rangeAt b o xs
 |[],_,_,_=>⟨[],rfl,fun j v hj=>by simp at hj⟩
 |d::l,o,h,hn=>by
  simp only[ARs]at h;simp only[ox,cu]at hn;obtain⟨⟨u,h1,h2,h3,h4⟩,h5⟩:=h;obtain⟨xs,k1,k2⟩:=ARs.els h5 hn.2;have hsz:=AR.size d u h2 h1;refine⟨u.cells.toList++xs,⟨u,xs,rfl,h1,h2,h3,hn.1,k1⟩,fun j v hj=>?_⟩;by_cases hjl:j<u.cells.toList.length
  ·rw[dN hjl]at hj;exact h4 j v hj
  ·rw[iW aa]at hj;simp only[bL]at hjl hj;have:=k2 _ _ hj;rw[show o+wd+(j-u.cells.size)=o+j by omega]at this;exact this
theorem Els.nw0{X:Nat->Prop}{w:World}{wd:Nat}:∀{l:List D} {xs:List Value},Els X w wd l xs->l≠[]->0<wd->∃u,xs[0]?=some u/\∀n,u≠ .int .u32 n
 |[],_,_,h,_=>absurd rfl h
 |d::l,_,⟨u,rest,h1,h2,h3,h4,hn,h5⟩,_,hw=>by
  have hsz:=AR.size d u h3 h2;have hlt:0<u.cells.toList.length:=by simp only[bL];omega
  refine⟨u.cells.toList[0],?_,fun m e=>AR.nwd d u h2 hn m ?_⟩
  ·rw[h1,dN hlt,aP hlt]
  ·rw[aP hlt,e]
def D.is(k:Nat):D->Bool
 | .own j=>Nat.beq j k
 | .opt j _=>Nat.beq j k
 |_=>false
def kill(k:Nat):List (Nat×D)->List (Nat×D)
 |[]=>[]
 |(t,d)::l=>(t,match d.is k with|true=>.any|false=>d)::kill k l
theorem gY(k:Nat):∀(l:List (Nat×D)) (t:Nat),look (kill k l) t=look l t/\(look l t).is k=false\/look (kill k l) t= .any
 |[],t=>.inl ⟨rfl,rfl⟩
 |(u,d)::l,t=>by
  have ih:=gY k l t;simp only[kill,look];split
  ·cases h:d.is k
   ·exact .inl ⟨rfl,rfl⟩
   ·exact .inr rfl
  ·exact ih
theorem SR.other{X X':Nat->Prop}{f:Nat->Value}{w w':World}{d:D}{v v':Value}{k:Nat}(h:SR X f w d v)(hk:d.is k=false)(hag:Agr X w w')(hX:∀b,b<w.heap.size->X' b->X b):SR X' (fun j=>if j=k then v' else f j) w' d v:=by
 cases d with
 |own j=>
  have hj:j≠k:=fun e=>by simp[D.is,e,de]at hk
  simp only[SR]at h⊢;rw[an hj];exact h
 |opt j off=>
  have hj:j≠k:=fun e=>by simp[D.is,e,de]at hk
  simp only[SR]at h⊢;rw[an hj];exact h
 |_=>exact AR.agr hag hX _ _ h
def upd(k:Nat)(l2:List D):List (Nat×Ow)->List (Nat×Ow)
 |[]=>[]
 |(j,q)::l=>if j=k then(j,⟨q.T,q.wd,q.l++l2⟩)::upd k l2 l else(j,q)::upd k l2 l
theorem eG{k:Nat}{l2:List D}{q:Ow}:∀{l:List (Nat×Ow)},(∀p∈l,p.1=k->p=(k,q))->∀p,p∈upd k l2 l->(p.1≠k/\p∈l)\/p=(k,⟨q.T,q.wd,q.l++l2⟩)
 |[],_,p,hp=>by simp[upd]at hp
 |(j,r)::l,hu,p,hp=>by
  simp only[upd]at hp;by_cases hj:j=k
  ·rw[aB hj]at hp;have e:=hu _ ba hj;cases e;rcases bj.1 hp with h|h
   ·exact .inr h
   ·rcases eG (fun a ha=>hu a (bh _ ha)) p h with h|h
    ·exact .inl ⟨h.1,bh _ h.2⟩
    ·exact .inr h
  ·rw[an hj]at hp;rcases bj.1 hp with h|h
   ·exact .inl ⟨by rw[h];exact hj,by rw[h];exact ba⟩
   ·rcases eG (fun a ha=>hu a (bh _ ha)) p h with h|h
    ·exact .inl ⟨h.1,bh _ h.2⟩
    ·exact .inr h
theorem As{X0:Nat->Prop}{n:Nat}{w0:Bs}{s:S}{f:Nat->Value}{a:Act}{w w':World}(h:Hd X0 n w0 s f a w){p:Nat×Ow}(hp:p∈s.ow)(hg:w.grownBy w' (f p.1).ownBlock):Agr (XO X0 s f) w w':=by
 refine⟨hg.size,fun b hb hX=>hg.block b hb fun e=>hX (.inr ⟨p,hp,e.symm⟩),fun x z hz=>?_⟩
 cases hv:(f p.1).ownBlock with
 |none=>exact hz.below (B:=w.heap.size) ⟨hg.os,hg.tape,hg.output,hg.size,fun k hk=>hg.block k hk (by rw[hv];simp)⟩ (ai _)
 |some b=>exact hz.chg (g:=b) ⟨hg.os,hg.tape,hg.output,hg.size,fun k hk hkb=>hg.block k hk (by rw[hv];simp only[ne_eq,ah];exact hkb)⟩ (h.nw b ⟨p,hp,hv⟩)
def S.app(s:S)(dst:Nat)(k:Nat)(l2:List D):S:=⟨(dst,.own k)::kill k s.sl,upd k l2 s.ow⟩
theorem Hd.app{X0:Nat->Prop}{n:Nat}{w0:Bs}{s:S}{f:Nat->Value}{a:Act}{w w':World}{k:Nat}{q:Ow}{l2:List D}{ys:List Value}{v':Value}{t:Nat}(h:Hd X0 n w0 s f a w)(hk:(k,q)∈s.ow)(hk0:Nat.blt k 1000000=true)(ht:t<n)
  (hg:w.grownBy w' (f k).ownBlock) (ho:∃xs,Els (XO X0 s f) w q.wd q.l xs/\w'.ownsRow 0 q.T q.wd v' (q.l.length+l2.length) (xs++ys)) (hy:Els (XO X0 s f) w q.wd l2 ys) (hb:v'.ownBlock=(f k).ownBlock\/v'.ownBlock=some w.heap.size) (hl:q.l++l2≠[]):
  Hd X0 n w0 (s.app t k l2) (fun j=>if j=k then v' else f j) (a.put (some t) v') w':=by
 obtain⟨xs,hx,ho⟩:=ho;obtain⟨hwd,_⟩:=h.ow _ hk;have hag:=As h hk hg;have hX:∀b,b<w.heap.size->XO X0 (s.app t k l2) (fun j=>if j=k then v' else f j) b->XO X0 s f b:=fun b hbs hb'=>by
  rcases hb' with hb'|⟨p,hp,e⟩
  ·exact .inl hb'
  ·rcases eG (fun p hp e=>h.un p hp _ hk e) p hp with⟨h1,h2⟩|h1
   ·simp only[an h1]at e;exact .inr ⟨p,h2,e⟩
   ·subst h1;simp only[if_true]at e;rcases hb with hb|hb
    ·exact .inr ⟨_,hk,by rw[<-hb];exact e⟩
    ·rw[hb]at e;simp only[ah]at e;omega
 have hsl:∀u,SR (XO X0 (s.app t k l2) (fun j=>if j=k then v' else f j)) (fun j=>if j=k then v' else f j) w' (look (kill k s.sl) u) (a.tmps.getD u undef):=fun u=>by
  rcases gY k s.sl u with⟨e,hne⟩|e
  ·rw[e];exact SR.other (h.sl u) hne hag hX
  ·rw[e];exact SR.any
 have hrow:∀j,hZ j=true->(if j=k then v' else f j)=f j:=fun j hj=>an (pX hk0 hj);have hoth:∀p∈s.ow,p.1≠k->(f p.1).ownBlock=none\/(f p.1).ownBlock≠(f k).ownBlock:=fun p hp hpk=>by
  cases hv:(f p.1).ownBlock with
  |none=>exact .inl rfl
  |some b=>exact .inr fun e=>h.dj p hp _ hk hpk b hv e.symm
 refine⟨by simp[Act.put,h.sz],h.df,h.bl.grown hg (fun b hb=>h.lo _ hk b hb),h.x0,h.xy,fun j hj=>(an (pY hk0 hj)).trans (h.fx j hj),fun p hp b e=>?_,fun u=>?_,fun p hp=>?_,fun b hb'=>?_,fun p hp p' hp' hne b e e'=>?_,fun p hp p' hp' e=>?_⟩
 ·rcases eG (fun p hp e=>h.un p hp _ hk e) p hp with⟨h1,h2⟩|h1
  ·simp only[an h1]at e;exact h.lo p h2 b e
  ·subst h1;simp only[if_true]at e;rcases hb with hb|hb
   ·exact h.lo _ hk b (by rw[<-hb];exact e)
   ·rw[hb]at e;simp only[ah]at e;exact .inl (by have:=h.bl.size;omega)
 ·rw[gK (by rw[h.sz];exact ht)];show SR _ _ _ (look ((t,.own k)::kill k s.sl) u) _;simp only[look];split
  ·simp only[SR,if_true]
  ·exact hsl u
 ·rcases eG (fun p hp e=>h.un p hp _ hk e) p hp with⟨h1,h2⟩|h1
  ·obtain⟨k0,zs,k1,k2⟩:=h.ow p h2;refine⟨k0,zs,?_,EE.agr hag hX hrow k2⟩;simp only[an h1];exact World.ownsRow.kept k1 hg (hoth p h2 h1)
  ·subst h1;refine⟨hwd,xs++ys,?_,EE.of (Els.agr hag hX (Els.app hy hx)) (mM hk0)⟩;simp only[if_true,bK];exact ho
 ·obtain⟨p,hp,e⟩:=hb';rcases eG (fun p hp e=>h.un p hp _ hk e) p hp with⟨h1,h2⟩|h1
  ·simp only[an h1]at e;have h3:=h.nw b ⟨p,h2,e⟩;intro m hm;have hlt:=((h.ow p h2).lt e).2;have:w'.cell? ⟨b,0,none⟩=w.cell? ⟨b,0,none⟩:=World.cell?_of_block (hg.block b hlt fun e2=>h.dj p h2 _ hk h1 b e e2.symm);rw[this]at hm;exact h3 m hm
  ·subst h1;simp only[if_true]at e;intro m hm;obtain⟨u,hu,hn⟩:=Els.nw0 (Els.app hy hx) hl hwd;have hc:=World.ownsRow.cells ho e 0 u hu;rw[cK,bS]at hc;rw[hc]at hm;exact hn m (by simpa using hm)
 ·rcases eG (fun p hp e=>h.un p hp _ hk e) p hp with⟨h1,h2⟩|h1<;>rcases eG (fun p hp e=>h.un p hp _ hk e) p' hp' with⟨h1',h2'⟩|h1'
  ·simp only[an h1,an h1']at e e';exact h.dj p h2 p' h2' hne b e e'
  ·subst h1';simp only[an h1,if_true]at e e';rcases hb with hb|hb
   ·exact h.dj p h2 _ hk h1 b e (by rw[<-hb];exact e')
   ·rw[hb]at e';simp only[ah]at e';have:=((h.ow p h2).lt e).2;omega
  ·subst h1;simp only[an h1',if_true]at e e';rcases hb with hb|hb
   ·exact h.dj p' h2' _ hk h1' b e' (by rw[<-hb];exact e)
   ·rw[hb]at e;simp only[ah]at e;have:=((h.ow p' h2').lt e').2;omega
  ·subst h1;subst h1';exact hne rfl
 ·rcases eG (fun p hp e=>h.un p hp _ hk e) p hp with⟨h1,h2⟩|h1<;>rcases eG (fun p hp e=>h.un p hp _ hk e) p' hp' with⟨h1',h2'⟩|h1'
  ·exact h.un p h2 p' h2' e
  ·subst h1';exact absurd e h1
  ·subst h1;exact absurd e.symm h1'
  ·rw[h1,h1']
section
variable {P : Program} {X0 : Nat->Prop} {n : Nat} {s : S}
theorem xX{ops:Array Oper}{o:Oper}{l:List Oper}{K:S->Prop}{x y:Operand}{t dst:Nat}{k:Nat}{q:Ow}{wd:Nat}{l2:List D}(hg:o.guard=none)(hdst:o.dst=some dst)(ht:dst<n)
  (ho:o.op= .call {callee:= .builtin .append,args:= #[x,y],argTypes:= #[t,t]}) (hx:s.op x= .own k) (hy:s.op y= .ls wd l2) (hk:(k,q)∈s.ow) (hwd:wd=q.wd) (hl2:l2≠[]) (hn2:l2.all D.nw=true)
  (htt:P.underlying t=some (.slice q.T)) (hI:(P.info? q.T).map (fun i=>(i.zero.map (·.cells.size),i.size,decide (i.bytes<=100000)))=some (some q.wd,q.wd,true)) (hlen:q.l.length+l2.length<=1000000000)
  (h:aL P X0 n ops l K (s.app dst k l2)) (hk0:Nat.blt k 1000000=true):aL P X0 n ops (o::l) K s:=by
 subst hwd;refine iD fun w0 f a w Qx hd=>⟨by simp[Region.wanted,hg],?_⟩;have h1:=hd.op x;have h2:=hd.op y;rw[hx]at h1;rw[hy]at h2;simp only[SR,AR]at h1 h2;obtain⟨ad,c,e1,h3,h4⟩:=h2;obtain⟨b,off,rfl,h5,h6,h7⟩:=h4.resolve_left hl2;obtain⟨ys,h8,h9⟩:=ARs.els h7 hn2;obtain⟨hw0,xs,h10,h11'⟩:=hd.ow _ hk;have h11:=h11'.pl (mM hk0)
 cases hq:P.info? q.T with
 |none=>rw[hq]at hI;cases hI
 |some inf=>
  rw[hq]at hI;simp only[bX,ah,av,decide_eq_true_eq]at hI;obtain⟨hz,hsz,hby⟩:=hI;obtain⟨z,hz1,hz2⟩:=fT.1 hz;have hyl:=Els.len h8;obtain⟨v',w',hr,k1,k2,_,k4⟩:=run_append_own_at (P:=P) w 0 t o.type q.T inf z q.wd inf.bytes htt hq hz1 hsz rfl hz2 hw0 (f k) q.l.length xs h10
   ⟨b,off,none⟩ l2.length c ys hyl (fun j u hj=>by rw[cK];exact h9 j u hj) (Els.one h8) rh
   (by have : (q.l.length + l2.length) * inf.bytes <= 1000000000 * 100000 := bF hlen hby
       omega) (aZ _)
  unfold Oper.wp execOp;simp only[ho,resolve,invoke,builtin,Sem.run_bind,Sem.run_pure,Result.andThen_ok,ko,eh,eZ,h1,e1,hr,Oper.upon,hdst];exact⟨_,_,hd.app hk hk0 ht k2 ⟨xs,h11,k1⟩ h8 k4 (by simp[hl2]),h⟩
theorem CA{t k:Nat}{T:TypeId}{wd:Nat}(ht:s.gt t= .sc (.slice none 0 0))(hk:∀p∈s.ow,p.1≠k)(hw:0<wd)(hk0:Nat.blt k 1000000=true):Sh X0 n s ⟨(t,.own k)::kill k s.sl,(k,⟨T,wd,[]⟩)::s.ow⟩:=fun w0 f a w h=>by
 refine⟨fun j=>if j=k then .slice none 0 0 else f j,?_⟩;have hX:∀b,XO X0 ⟨(t,.own k)::kill k s.sl,(k,⟨T,wd,[]⟩)::s.ow⟩ (fun j=>if j=k then .slice none 0 0 else f j) b->XO X0 s f b:=fun b hb=>by
  rcases hb with hb|⟨p,hp,e⟩
  ·exact .inl hb
  ·rcases bj.1 hp with h1|h1
   ·subst h1;simp[Value.ownBlock]at e
   ·simp only[an (hk p h1)]at e;exact .inr ⟨p,h1,e⟩
 refine⟨h.sz,h.df,h.bl,h.x0,h.xy,fun j hj=>(an (pY hk0 hj)).trans (h.fx j hj),fun p hp b e=>?_,fun u=>?_,fun p hp=>?_,fun b hb=>?_,fun p hp p' hp' hne b e e'=>?_,fun p hp p' hp' e=>?_⟩
 ·rcases bj.1 hp with h1|h1
  ·subst h1;simp[Value.ownBlock]at e
  ·simp only[an (hk p h1)]at e;exact h.lo p h1 b e
 ·show SR _ _ _ (look ((t,.own k)::kill k s.sl) u) _;simp only[look];split
  ·next e=>
   have h1:=h.sl t;rw[ht]at h1;simp only[SR,AR]at h1;simp only[SR,if_true];rw[<-e];exact h1.1
  ·rcases gY k s.sl u with⟨e,hne⟩|e
   ·rw[e];exact SR.other (h.sl u) hne (Agr.refl _ w) (fun b _ hb=>hX b hb)
   ·rw[e];exact SR.any
 ·rcases bj.1 hp with h1|h1
  ·subst h1;exact⟨hw,[],by simp only[if_true];exact World.ownsRow_nil _ _ _ _,EE.of (show Els _ _ _ [] []from rfl) (mM hk0)⟩
  ·obtain⟨k0,zs,k1,k2⟩:=h.ow p h1;exact⟨k0,zs,by simp only[an (hk p h1)];exact k1,EE.agr (Agr.refl _ w) (fun b _ hb=>hX b hb) (fun j hj=>an (pX hk0 hj)) k2⟩
 ·obtain⟨p,hp,e⟩:=hb;rcases bj.1 hp with h1|h1
  ·subst h1;simp[Value.ownBlock]at e
  ·simp only[an (hk p h1)]at e;exact h.nw b ⟨p,h1,e⟩
 ·rcases bj.1 hp with h1|h1<;>rcases bj.1 hp' with h1'|h1'
  ·subst h1;subst h1';exact hne rfl
  ·subst h1;simp[Value.ownBlock]at e
  ·subst h1';simp[Value.ownBlock]at e'
  ·simp only[an (hk p h1),an (hk p' h1')]at e e';exact h.dj p h1 p' h1' hne b e e'
 ·rcases bj.1 hp with h1|h1<;>rcases bj.1 hp' with h1'|h1'
  ·rw[h1,h1']
  ·subst h1;exact absurd e.symm (hk p' h1')
  ·subst h1';exact absurd e (hk p h1)
  ·exact h.un p h1 p' h1' e
def vx:Nat->List D->D
 |0,[d]=>.pt d
 |_,_=>.any
theorem vw(off:Nat)(l:List D):(∃d,off=0/\l=[d]/\vx off l= .pt d)\/vx off l= .any:=by
 match off,l with
 |0,[d]=>exact .inl ⟨d,rfl,rfl,rfl⟩
 |0,[]=>exact .inr rfl
 |0,_::_::_=>exact .inr rfl
 |_+1,_=>exact .inr rfl
def jj(k wd:Nat)(l:List D)(d:D):D:=
 match d with
 | .own j=>match Nat.beq j k with
  |true=>.ls wd l
  |false=>.own j
 | .opt j off=>match Nat.beq j k with
  |true=>vx off l
  |false=>.opt j off
 |d=>d
def shut(k wd:Nat)(l:List D):List (Nat×D)->List (Nat×D)
 |[]=>[]
 |(t,d)::r=>(t,jj k wd l d)::shut k wd l r
theorem qv(k wd:Nat)(l:List D):∀(r:List (Nat×D)) (t:Nat),look (shut k wd l r) t=jj k wd l (look r t)
 |[],t=>rfl
 |(u,d)::r,t=>by
  simp only[shut,look];split
  ·rfl
  ·exact qv k wd l r t
def dG(k:Nat):List (Nat×Ow)->List (Nat×Ow)
 |[]=>[]
 |p::l=>if p.1=k then dG k l else p::dG k l
theorem cV{k:Nat}:∀{l:List (Nat×Ow)} {p:Nat×Ow},p∈dG k l->p∈l/\p.1≠k
 |q::l,p,h=>by
  simp only[dG]at h;split at h
  ·have:=cV h;exact⟨bh _ this.1,this.2⟩
  ·next hk=>
   rcases bj.1 h with h|h
   ·subst h;exact⟨ba,hk⟩
   ·have:=cV h;exact⟨bh _ this.1,this.2⟩
 |[],p,h=>by simp[dG]at h
theorem Bu{k:Nat}{q:Ow}(hk:(k,q)∈s.ow)(hkh:hdr k=false):Sh X0 n s ⟨shut k q.wd q.l s.sl,dG k s.ow⟩:=fun w0 f a w h=>by
 refine⟨f,?_⟩;have hX:∀b,XO X0 ⟨shut k q.wd q.l s.sl,dG k s.ow⟩ f b->XO X0 s f b:=fun b hb=>by
  rcases hb with hb|⟨p,hp,e⟩
  ·exact .inl hb
  ·exact .inr ⟨p,(cV hp).1,e⟩
 refine⟨h.sz,h.df,h.bl,h.x0,h.xy,h.fx,fun p hp b e=>h.lo p (cV hp).1 b e,fun u=>?_,fun p hp=>?_,fun b ⟨p,hp,e⟩=>h.nw b ⟨p,(cV hp).1,e⟩,fun p hp p' hp' hne b e e'=>h.dj p (cV hp).1 p' (cV hp').1 hne b e e',fun p hp p' hp' e=>h.un p (cV hp).1 p' (cV hp').1 e⟩
 ·show SR _ _ _ (look _ u) _;rw[qv];have h1:=h.sl u;show SR _ _ _ (jj k q.wd q.l (s.gt u)) _;obtain⟨hw0,xs,⟨_,h10⟩,h11'⟩:=h.ow _ hk;have h11:=h11'.pl hkh;have hg:∀g n c,f k= .slice (some ⟨g,0,none⟩) n c->¬XO X0 ⟨shut k q.wd q.l s.sl,dG k s.ow⟩ f g:=fun g n c e hx=>by
   rcases hx with hx|⟨p,hp,e3⟩
   ·have:=(h.x0 g hx).1;rcases h.lo _ hk g (by simp only[e];rfl)with h1|h1
    ·omega
    ·exact h.xy g hx h1
   ·have:=cV hp;exact h.dj p this.1 _ hk this.2 g e3 (by simp only[e];rfl)
  have hE:=Els.agr (X':=XO X0 ⟨shut k q.wd q.l s.sl,dG k s.ow⟩ f) (Agr.refl _ w) (fun b _ hb=>hX b hb) h11;have hr:∀g cap cur,w.heap[g]?=some (.cells cur q.T (0,0))->cur.toList.take (q.l.length*q.wd)=xs->cur.size=cap*q.wd->q.l.length<=cap->w.rangeAt g 0 xs:=fun g cap cur hgg htk hsz hle j v hj=>by
   rw[cell_of_row w g _ cur _ (0,0) hgg,bU];have hj2:=(cN.1 hj).1;rw[<-htk,bf]at hj2;rw[<-htk,kj aa,cM]at hj;exact hj
  cases hd:s.gt u with
  |own j=>
   rw[hd]at h1;simp only[jj]
   cases hb:Nat.beq j k with
   |false=>exact h1
   |true=>
    have e2:=dX hb;subst e2;simp only[SR]at h1;simp only[SR,AR];rcases h10 with⟨h12,h13⟩|⟨g,cap,cur,h12,hb,hgg,hle,hm,hsz,htk⟩
    ·simp only at h13;exact⟨none,0,by rw[h1,h12,h13],by omega,.inl (fS h13)⟩
    ·exact⟨_,cap,by rw[h1,h12],hle,.inr ⟨g,0,rfl,hg g _ _ h12,(ft.1 hgg).1,Els.ars hE (hr g cap cur hgg htk hsz hle)⟩⟩
  |opt j off=>
   rw[hd]at h1;simp only[jj]
   cases hb:Nat.beq j k with
   |false=>exact h1
   |true=>
    have e2:=dX hb;subst e2;simp only[SR]at h1;obtain⟨g,n',c',e3,e4⟩:=h1;show SR _ _ _ (vx off q.l) _;rcases vw off q.l with⟨d,ho,hl,hod⟩|hod
    ·subst ho;rw[hod];rcases h10 with⟨h12,h13⟩|⟨g',cap,cur,h12,hb,hgg,hle,hm,hsz,htk⟩
     ·simp only at h12;rw[e3]at h12;cases h12
     ·simp only at h12;rw[e3]at h12;cases h12;have hR:=hr g _ cur hgg htk hsz hle;simp only[hl]at hE;obtain⟨u',rest,k1,k2,k3,k4,k5,k6⟩:=hE;simp only[SR,AR];refine⟨g,0,u',e4,hg g _ _ e3,(ft.1 hgg).1,k2,fun i v hi=>hR i v ?_⟩;rw[k1,dN (cN.1 hi).1];exact hi
    ·rw[hod];exact SR.any
  |_=>rw[hd]at h1;exact AR.free h1 (fun b _ hb=>hX b hb)
 ·obtain⟨k0,zs,k1,k2⟩:=h.ow p (cV hp).1;exact⟨k0,zs,k1,EE.agr (Agr.refl _ w) (fun b _ hb=>hX b hb) (fun _ _=>rfl) k2⟩
theorem Cz{sl:List (Nat×D)}(h:∀p∈sl,s.gt p.1=p.2):Sh X0 n s ⟨sl,s.ow⟩:=fun w0 f a w hd=>
 ⟨f,hd.sz,hd.df,hd.bl,hd.x0,hd.xy,hd.fx,hd.lo,fun u=>by
  have key:∀l:List (Nat×D),(∀p∈l,s.gt p.1=p.2)->look l u= .any\/look l u=s.gt u:=fun l=>by
   induction l with
   |nil=>intro _;exact .inl rfl
   |cons p l ih=>
    intro hl;obtain⟨t,d⟩:=p;simp only[look];split
    ·next e=>exact .inr (by rw[<-e];exact(hl _ ba).symm)
    ·exact ih fun p hp=>hl p (bh _ hp)
  show SR _ _ _ (look sl u) _;rcases key sl h with e|e
  ·rw[e];exact SR.any
  ·rw[e];exact hd.sl u,hd.ow,hd.nw,hd.dj,hd.un⟩
theorem zP{t:Nat}{d d':D}(ht:s.gt t=d)(hs:d.seen=true)(hs':d'.seen=true)(h:∀X w v,AR X w d v->AR X w d' v):Sh X0 n s ⟨(t,d')::s.sl,s.ow⟩:=fun w0 f a w hd=>
 ⟨f,hd.sz,hd.df,hd.bl,hd.x0,hd.xy,hd.fx,hd.lo,fun u=>by
  show SR _ _ _ (look ((t,d')::s.sl) u) _;simp only[look];split
  ·next e=>
   have h1:=hd.sl t;rw[ht]at h1;rw[<-e];have h2:AR (XO X0 s f) w d (a.tmps.getD t undef):=by cases d<;>first|exact h1|simp[D.seen]at hs
   have h3:=h _ _ _ h2;cases d'<;>first|exact h3|simp[D.seen]at hs'
  ·exact hd.sl u,hd.ow,hd.nw,hd.dj,hd.un⟩
def bC:Nat->List D->List (Nat×D)
 |_,[]=>[]
 |k,d::l=>(k,d)::bC (k+1) l
inductive kZ(P:Program)(s:S):ResultVar->D->Prop
 |tmp (t:Tmp) (h1:(s.gt t).seen=true):kZ P s (.tmp t) (s.gt t)
 |cell (t:Tmp) (ty:TypeId) (d:D) (h1:s.gt t= .pt d) (h2:d.fits=true) (hz:(P.info? ty).map (·.size)=some d.wd) (hg:(P.underlying ty).map TypeDesc.isRow=some d.agg):kZ P s (.cell t ty) d
inductive Res(P:Program)(fn:Func)(s:S):D->Prop
 |none (h:fn.results= #[]):Res P fn s (.tp [])
 |one (v:ResultVar) (d:D) (h:fn.results= #[v]) (h1:kZ P s v d):Res P fn s d
 |two (v v2:ResultVar) (d d2:D) (h:fn.results= #[v,v2]) (h1:kZ P s v d) (h2:kZ P s v2 d2):Res P fn s (.tp [d,d2])
 |three (v v2 v3:ResultVar) (d d2 d3:D) (h:fn.results= #[v,v2,v3]) (h1:kZ P s v d) (h2:kZ P s v2 d2) (h3:kZ P s v3 d3):Res P fn s (.tp [d,d2,d3])
def fin(P:Program)(X0:Nat->Prop)(n:Nat)(fn:Func)(r:D):Exit->S->Prop
 | .normal,s=>∃s',Sh X0 n s s'/\Res P fn s' r
 | .ret,s=>∃s',Sh X0 n s s'/\Res P fn s' r
 |_,_=>False
theorem lO:∀(l:List D) (k t:Nat),look (bC k l) t=if k<=t then(l[t-k]?).getD .any else .any
 |[],k,t=>by simp[bC,look]
 |d::l,k,t=>by
  simp only[bC,look];by_cases h:k=t
  ·rw[aB h,aB aa,show t-k=0 by omega];rfl
  ·rw[an h,lO l (k+1) t];by_cases h2:k+1<=t
   ·rw[aB h2,aB aa,show t-k=(t-(k+1))+1 by omega,List.getElem?_cons_succ]
   ·rw[an h2,an aa]
theorem tP{w0:Bs}{f:Nat->Value}{a:Act}{w:World}{fn:Func}{r:D}(h:Hd X0 n w0 s f a w)(h3:Res P fn s r):∃v,(results fn a.tmps).run P w= .ok v w/\AR (XO X0 s f) w r v:=by
 have hsr:∀t,(s.gt t).seen=true->AR (XO X0 s f) w (s.gt t) (a.tmps.getD t undef):=fun t hs=>by
  have h5:=h.sl t;have h6:AR (XO X0 s f) w (s.gt t) (a.tmps.getD t undef):=by
   cases hg:s.gt t<;>rw[hg]at h5 hs<;>first|exact h5|simp[D.seen]at hs
  exact h6
 have hvar:∀v d,kZ P s v d->∃u,(∃sm:Sem Value,sm.run P w= .ok u w/\((∃t,v= .tmp t/\a.tmps[t]?.getD undef=u)\/(∃t ty ad,v= .cell t ty/\a.tmps[t]?.getD undef= .pointer (some ad)/\(loadVar ty ad).run P w= .ok u w)))/\AR (XO X0 s f) w d u:=fun v d hv=>by
  cases hv with
  |tmp t h1=>exact⟨_,⟨pure _,rfl,.inl ⟨t,rfl,(ct ..).symm⟩⟩,hsr t h1⟩
  |cell t ty d h1 h2 hz hg=>
   have h6:=hsr t (by rw[h1];rfl);rw[h1]at h6;simp only[AR]at h6;obtain⟨b,o,u,e1,_,_,k1,k2⟩:=h6;have:=su (P:=P) k1 h2 k2 hz hg;rw[vD]at this;rw[ct]at e1;exact⟨u,⟨pure _,rfl,.inr ⟨t,ty,_,rfl,e1,this⟩⟩,k1⟩
 cases h3 with
 |none h5=>exact⟨.tuple #[],by simp[results,h5],by simp only[AR];exact⟨_,rfl,by simp only[ATp]⟩⟩
 |one v d h5 h6=>
  obtain⟨u,⟨_,_,k1⟩,k2⟩:=hvar v _ h6;refine⟨u,?_,k2⟩;unfold results;rw[h5];rcases k1 with⟨t,rfl,e1⟩|⟨t,ty,ad,rfl,e1,e2⟩<;>simp[*,asAddr]
 |two v v2 d d2 h5 h6 h7=>
  obtain⟨u,⟨_,_,k1⟩,k2⟩:=hvar v _ h6;obtain⟨u2,⟨_,_,k3⟩,k4⟩:=hvar v2 _ h7;refine⟨.tuple #[u,u2],?_,?_⟩
  ·unfold results;rw[h5];rcases k1 with⟨t,rfl,e1⟩|⟨t,ty,ad,rfl,e1,e2⟩<;>rcases k3 with⟨t',rfl,e3⟩|⟨t',ty',ad',rfl,e3,e4⟩<;>simp[*,asAddr]
  ·simp only[AR];refine⟨_,rfl,?_⟩;simp only[ATp];exact⟨_,_,rfl,k2,_,_,rfl,k4,rfl⟩
 |three v v2 v3 d d2 d3 h5 h6 h7 h8=>
  obtain⟨u,⟨_,_,k1⟩,k2⟩:=hvar v _ h6;obtain⟨u2,⟨_,_,k3⟩,k4⟩:=hvar v2 _ h7;obtain⟨u3,⟨_,_,k5⟩,k6⟩:=hvar v3 _ h8;refine⟨.tuple #[u,u2,u3],?_,?_⟩
  ·unfold results;rw[h5];rcases k1 with⟨t,rfl,e1⟩|⟨t,ty,ad,rfl,e1,e2⟩<;>rcases k3 with⟨t',rfl,e3⟩|⟨t',ty',ad',rfl,e3,e4⟩<;>rcases k5 with⟨t'',rfl,e5⟩|⟨t'',ty'',ad'',rfl,e5,e6⟩<;>simp[*,asAddr]
  ·simp only[AR];refine⟨_,rfl,?_⟩;simp only[ATp];exact⟨_,_,rfl,k2,_,_,rfl,k4,_,_,rfl,k6,rfl⟩
theorem Ch{g:FuncId}{fn:Func}{c:Code}{ds:List D}{r:D}(hf:P.funcs[g]?=some fn)(hb:fn.body=some c)(hn:ds.length<=fn.ntmps)(hds:ds.all D.seen=true)
  (h:∀X0,aW P X0 fn.ntmps c (fin P X0 fn.ntmps fn r) ⟨bC 0 ds,[]⟩):Fun P g ds r:=fun X w vs hX hv=>by
 have hlen:∀(ds:List D) (vs:List Value),ATp X w ds vs->vs.length=ds.length:=fun ds=>by
  induction ds with
  |nil=>intro vs h;simp only[ATp]at h;rw[h];rfl
  |cons d ds ih=>intro vs h;simp only[ATp]at h;obtain⟨u,rest,rfl,_,h3⟩:=h;simp[ih rest h3]
 have hl:=hlen ds _ hv;simp only[bL]at hl;have hd:Hd X fn.ntmps ⟨w,fun _=>False,fun _=>undef⟩ ⟨bC 0 ds,[]⟩ (fun _=>undef) {tmps:=vs++Array.replicate (fn.ntmps-vs.size) undef,defers:=[]} w:=by
  have hXX:∀b,XO X ⟨bC 0 ds,[]⟩ (fun _=>undef) b->X b:=fun b hb=>by
   rcases hb with hb|⟨p,hp,_⟩
   ·exact hb
   ·cases hp
  refine⟨by simp;omega,rfl,Gr.refl _ _,hX,fun _ _ h=>h,fun _ _=>rfl,fun p hp=>by(cases hp),fun t=>?_,fun p hp=>by(cases hp),fun b hb=>?_,fun p hp=>by(cases hp),fun p hp=>by(cases hp)⟩
  ·show SR _ _ _ (look (bC 0 ds) t) _;rw[lO,aB (aZ _),Nat.sub_zero]
   cases hd:ds[t]? with
   |none=>exact SR.any
   |some d=>
    have hd1:d.seen=true:=by rw[iG]at hds;exact hds d (eN hd)
    obtain⟨u,k1,k2⟩:=ATp.at hv hd;have k1':vs[t]?=some u:=by simpa using k1
    have hlt:=(ft.1 k1').1;have e:(vs++Array.replicate (fn.ntmps-vs.size) undef).getD t undef=u:=by
     rw[ct,kp hlt,k1'];rfl
    show SR _ _ _ d (Array.getD _ t undef);rw[e];have k3:=AR.free k2 (fun b _ hb=>hXX b hb);cases d<;>first|exact k3|simp[D.seen]at hd1
  ·obtain⟨p,hp,_⟩:=hb;cases hp
 have key:∀s' f' a w',Hd X fn.ntmps ⟨w,fun _=>False,fun _=>undef⟩ s' f' a w'->(∃s'',Sh X fn.ntmps s' s''/\Res P fn s'' r)->a.defers=[]/\∃v,(results fn a.tmps).run P w'= .ok v w'/\(∃u,Ending.returned v= .returned u/\AR X w' r u/\Below w.heap.size w w'):=fun s' f' a w' h1 ⟨s'',h2,h3⟩=>by
  obtain⟨f'',h4⟩:=h2 _ f' a w' h1;have hbl:Below w.heap.size w w':=⟨h4.bl.os,h4.bl.tape,h4.bl.output,h4.bl.size,fun b hb=>h4.bl.block b hb id⟩;refine⟨h4.df,?_⟩;obtain⟨v,h5,h6⟩:=tP h4 h3;exact⟨v,h5,v,rfl,AR.free h6 (fun b _ hb=>.inl hb),hbl⟩
 refine calls_of_wp hf hb (Code.wp_mono (fun e a w' ⟨s',f',h1,h2⟩=>?_) (h X _ (fun _=>undef) _ w hd));cases e<;>simp only[fin]at h2<;>simp only[bodyPost]
 ·exact key s' f' a w' h1 h2
 ·exact key s' f' a w' h1 h2
end
end DW
end
section
open Go.RowKit
namespace DW
def fE:List (Nat×Option Nat)->Nat->Option Nat
 |[],_=>none
 |(u,d)::l,t=>if u=t then d else fE l t
def jK(dst:Option Tmp)(v:Option Nat)(src:List (Nat×Option Nat)):List (Nat×Option Nat):=
 match dst with
 |some t=>(t,v)::src
 |none=>src
def mQ(o:Oper)(src:List (Nat×Option Nat)):Bool:=o.op.operands.toList.all fun x=>
 match x with
 | .tmp t=>match fE src t with
  |none=>true
  |some u=>Own3.oB .any o u
 |_=>true
def iu(ops:Array Oper)(src:List (Nat×Option Nat))(s:S)(o:Oper)(b:Bool):Prop:=
 match o.guard with
 |none=>b=true
 |some (j,c)=>∃t e,(ops[j]?).bind (·.dst)=some t/\fE src t=none/\s.gt t= .sc (.bool e)/\b=(e==c)
def okD:D->Bool
 | .sc v=>v.oneCell'
 |_=>true
def kG(d:D)(k:Nat):Option Nat:=if d.lQ then none else some k
def gy(P:Program)(n:Nat)(ops:Array Oper):List Oper->Nat->List (Nat×Option Nat)->S->(S->Prop)->Prop
 |[],_,_,s,K=>K s
 |o::l,k,src,s,K=>
  (∃d,iu ops src s o true/\mQ o src=true/\cA n o=true/\okD d=true/\bq P o s d/\gy P n ops l (k+1) (jK o.dst (kG d k) src) (s.put o.dst d) K)\/
  (iu ops src s o false/\cA n o=true/\gy P n ops l (k+1) (jK o.dst none src) (s.put o.dst .any) K)
section
variable {P : Program} {X0 : Nat->Prop} {n : Nat} {Q : Exit->S->Prop} {s : S}
theorem dZ{ops:Array Oper}{k:Nat}{src:List (Nat×Option Nat)}{K:S->Prop}(h:K s):gy P n ops [] k src s K:=h
theorem we{ops:Array Oper}{o:Oper}{l:List Oper}{k:Nat}{src:List (Nat×Option Nat)}{K:S->Prop}{d:D}(hg:o.guard=none)(hp:mQ o src=true)(ht:cA n o=true)(ho:okD d=true)(hd:bq P o s d)(h:gy P n ops l (k+1) (jK o.dst (kG d k) src) (s.put o.dst d) K):gy P n ops (o::l) k src s K:=
 .inl ⟨d,by simp[iu,hg],hp,ht,ho,hd,h⟩
structure HI(X:Nat->Prop)(n:Nat)(W:World)(f:Nat->Value)(F:Own3.Fs)(src:List (Nat×Option Nat))(s:S)(a:Act):Prop where
 sz:a.tmps.size=n
 df:a.defers=[]
 none':∀t,fE src t=none->SR X f W (s.gt t) (a.tmps.getD t undef)
 some':∀t u,fE src t=some u->F u (fun w=>SR X f w (s.gt t) (a.tmps.getD t undef))
theorem HI.put{X:Nat->Prop}{W:World}{f:Nat->Value}{F:Own3.Fs}{src:List (Nat×Option Nat)}{a:Act}(h:HI X n W f F src s a){dst:Option Tmp}(ht:∀t,dst=some t->t<n){d:D}{v:Value}{k:Option Nat}{F':Own3.Fs}(hF:∀u p,F u p->F' u p)
  (h0:k=none->SR X f W d v) (h1:∀u,k=some u->F' u (fun w=>SR X f w d v)):HI X n W f F' (jK dst k src) (s.put dst d) (a.put dst v):=by
 cases dst with
 |none=>exact⟨h.sz,h.df,h.none',fun t u e=>hF _ _ (h.some' t u e)⟩
 |some t=>
  refine⟨by simp[Act.put,h.sz],h.df,fun u e=>?_,fun u j e=>?_⟩
  ·rw[gK (by rw[h.sz];exact ht t rfl)];show SR X f W (look ((t,d)::s.sl) u) _;simp only[jK,fE]at e;simp only[look];split
   ·next e2=>rw[aB e2]at e;exact h0 e
   ·next e2=>rw[an e2]at e;exact h.none' u e
  ·rw[gK (by rw[h.sz];exact ht t rfl)];show F' j (fun w=>SR X f w (look ((t,d)::s.sl) u) _);simp only[jK,fE]at e;simp only[look];by_cases e2:t=u
   ·rw[aB e2]at e;simp only[aB e2];exact h1 j e
   ·rw[an e2]at e;simp only[an e2];exact hF _ _ (h.some' u j e)
theorem HI.op{X:Nat->Prop}{W w:World}{f:Nat->Value}{F:Own3.Fs}{src:List (Nat×Option Nat)}{a:Act}(h:HI X n W f F src s a){o:Oper}(hp:mQ o src=true)(hw:Own3.CF W (Own3.res .any o F) w)(x:Operand)(hx:x∈o.op.operands):SR X f w (s.op x) (a.eval x):=by
 have h1:_:=iG.1 hp x (by simpa using hx)
 cases x with
 |tmp t=>
  simp only at h1
  cases hs:fE src t with
  |none=>exact(h.none' t hs).grow hw.1
  |some u=>
   rw[hs]at h1;exact hw.get (u:=u) ⟨h.some' t u hs,h1⟩
 |const v=>exact rQ v
 |global g=>exact SR.any
 |func g=>exact⟨rfl,rfl⟩
theorem HI.want{X:Nat->Prop}{W:World}{f:Nat->Value}{F:Own3.Fs}{src:List (Nat×Option Nat)}{a:Act}(h:HI X n W f F src s a){ops:Array Oper}{o:Oper}{b:Bool}(hw:iu ops src s o b):Region.wanted o (yielded ops a.tmps)=b:=by
 unfold iu at hw;unfold Region.wanted
 cases hg:o.guard with
 |none=>rw[hg]at hw;simp only at hw⊢;exact hw.symm
 |some p=>
  obtain⟨j,c⟩:=p;rw[hg]at hw;simp only at hw⊢;obtain⟨t,e,h1,h2,h3,rfl⟩:=hw;have h4:=h.none' t h2;rw[h3]at h4;simp only[SR,AR]at h4;have h5:a.tmps[t]?=some (.bool e):=by
   have:=h4.1;rw[ct]at this
   cases h6:a.tmps[t]? with
   |none=>rw[h6]at this;simp[undef]at this
   |some v=>rw[h6]at this;simp at this;rw[this]
  unfold yielded;rw[h1];simp only[dW,h5];cases e<;>cases c<;>rfl
def vv(X:Nat->Prop)(f:Nat->Value)(d:D):Own3.Rel:=⟨Value,undef,id,fun u w=>SR X f w d u,fun _ _ _ h hb=>h.grow hb⟩
theorem Ao{X:Nat->Prop}{f:Nat->Value}{w:World}{d:D}{r:Result Next}(h:iI P X f w d r):Own3.pQ P w (vv X f d) r:=by
 cases r with
 |halt x w'=>simp only[iI]at h
 |ok x w'=>
  cases x<;>simp only[iI]at h
  case value u=>exact⟨u,rfl,h.1,h.2.1⟩
  case enter g args=>exact⟨h.1,h.2.mono fun e w'' ⟨u,k1,k2,k3⟩=>⟨u,k1,k2,k3⟩⟩
theorem xc{X:Nat->Prop}{f:Nat->Value}{w:World}{v:Value}{r:Result Next}(h:iI P X f w (.sc v) r):jW P w v r:=by
 cases r with
 |halt x w'=>simp only[iI]at h
 |ok x w'=>
  cases x<;>simp only[iI]at h
  case value u=>
   simp only[SR,AR]at h;exact⟨h.2.2 rfl,h.1.1⟩
  case enter g args=>
   refine⟨h.1,h.2.mono fun e w'' ⟨u,k1,k2,k3⟩=>?_⟩;simp only[SR,AR]at k2;exact⟨by rw[k1,k2.1],k3⟩
def pj(P:Program)(n:Nat)(ops:Array Oper):List Oper->Nat->List (Nat×Option Nat)->S->List (Option D)->S->Prop
 |[],_,_,s,ds,s'=>ds=[]/\s=s'
 |o::l,k,src,s,ds,s'=>
  match ds with
  |[]=>False
  |some d::ds=>iu ops src s o true/\mQ o src=true/\cA n o=true/\okD d=true/\bq P o s d/\pj P n ops l (k+1) (jK o.dst (kG d k) src) (s.put o.dst d) ds s'
  |none::ds=>iu ops src s o false/\cA n o=true/\pj P n ops l (k+1) (jK o.dst none src) (s.put o.dst .any) ds s'
theorem nK{ops:Array Oper}{K:S->Prop}:∀(l:List Oper) (k:Nat) (src:List (Nat×Option Nat)) (s:S),gy P n ops l k src s K->∃ds s',pj P n ops l k src s ds s'/\K s'
 |[],k,src,s,h=>⟨[],s,⟨rfl,rfl⟩,h⟩
 |o::l,k,src,s,h=>by
  rcases h with⟨d,h1,h2,h3,h4,h5,h6⟩|⟨h1,h3,h5⟩
  ·obtain⟨ds,s',k1,k2⟩:=nK l _ _ _ h6;exact⟨some d::ds,s',⟨h1,h2,h3,h4,h5,k1⟩,k2⟩
  ·obtain⟨ds,s',k1,k2⟩:=nK l _ _ _ h5;exact⟨none::ds,s',⟨h1,h3,k1⟩,k2⟩
def pL(X:Nat->Prop)(f:Nat->Value):Option D->Value⊕Own3.Rel
 |none=>.inl undef
 |some (.sc v)=>.inl v
 |some d=>.inr (vv X f d)
theorem gQ{X:Nat->Prop}{W:World}{f:Nat->Value}{base:Nat}(hX:XW X W){ops:Array Oper}{ow:List (Nat×Ow)}(how:∀p∈ow,OW X f W base p){s':S}{S':Nat->Value⊕Own3.Rel}:
  ∀(l:List Oper) (k:Nat) (src:List (Nat×Option Nat)) (s:S) (ds:List (Option D)) (F:Own3.Fs) (a:Act),s.ow=ow->pj P n ops l k src s ds s'->HI X n W f F src s a->
   (∀j,j<l.length->S' (k+j)=pL X f (ds.getD j none))->Own3.gI P .any ops W S' (fun F' a'=>∃src',s'.ow=ow/\HI X n W f F' src' s' a') l k F a
 |[],k,src,s,ds,F,a,ho,h,hi,_=>by
  obtain⟨_,rfl⟩:=h;exact⟨src,ho,hi⟩
 |o::l,k,src,s,[],F,a,ho,h,hi,hS=>h.elim
 |o::l,k,src,s,some d::ds,F,a,ho,h,hi,hS=>by
  have hpo:∀(dst:Option Tmp) (d:D),(s.put dst d).ow=ow:=fun dst d=>by cases dst<;>exact ho
  obtain⟨h1,h2,h3,hok,h4,h5⟩:=h;have hD:∀w,Own3.CF W (Own3.res .any o F) w->iI P X f w d ((execOp a.eval o).run P w):=fun w hw=>
   h4 X f a w base (hX.grow hw.1) (fun p hp=>(how p (by rw[<-ho];exact hp)).grow hw.1) (fun x hx=>hi.op h2 hw x hx)
  have e0:S' k=pL X f (some d):=by have:=hS 0 aO;simpa using this
  have hS':∀j,j<l.length->S' (k+1+j)=pL X f (ds.getD j none):=fun j hj=>by
   have:=hS (j+1) fq;rw[show k+1+j=k+(j+1) by omega,this];rfl
  by_cases hsc:d.lQ=true
  ·obtain⟨v,rfl⟩:∃v,d= .sc v:=by cases d<;>simp[D.lQ]at hsc;exact⟨_,rfl⟩
   have hi':HI X n W f F (jK o.dst (kG (.sc v) k) src) (s.put o.dst (.sc v)) (a.put o.dst v):=hi.put (fm h3) (fun _ _ h=>h) (fun _=>⟨rfl,hok⟩) (fun u e=>by simp[kG,D.lQ]at e);refine Own3.nF e0 fun K' hK=>?_;rw[aB (hi.want h1)];exact⟨fun w _ hw=>xc (hD w hw),hK _ (gQ hX how l (k+1) _ _ ds F _ (hpo _ _) h5 hi' hS')⟩
  ·have hns:kG d k=some k:=by simp[kG,hsc]
   have e1:S' k= .inr (vv X f d):=by rw[e0];cases d<;>first|rfl|simp[D.lQ]at hsc
   refine Own3.nG e1 (fun K' hK=>?_) (fun x=>?_)
   ·rw[aB (hi.want h1)];exact fun w _ hw=>Ao (hD w hw)
   ·exact gQ hX how l (k+1) _ _ ds _ _ (hpo _ _) h5 (hi.put (fm h3) (fun _ _ h=>.inr h) (fun e=>by rw[hns]at e;cases e) (fun u e=>by rw[hns]at e;cases e;exact .inl ⟨rfl,rfl⟩)) hS'
 |o::l,k,src,s,none::ds,F,a,ho,h,hi,hS=>by
  have hpo:∀(dst:Option Tmp) (d:D),(s.put dst d).ow=ow:=fun dst d=>by cases dst<;>exact ho
  obtain⟨h1,h3,h5⟩:=h;have hi':HI X n W f F (jK o.dst none src) (s.put o.dst .any) (a.put o.dst undef):=hi.put (fm h3) (fun _ _ h=>h) (fun _=>SR.any) (fun u e=>by cases e);have e0:S' k= .inl undef:=by have:=hS 0 aO;simpa[pL]using this
  refine Own3.nF e0 fun K' hK=>?_;rw[an (by rw[hi.want h1];simp)];refine⟨rfl,hK _ (gQ hX how l (k+1) _ _ ds F _ (hpo _ _) h5 hi' fun j hj=>?_)⟩;have:=hS (j+1) fq;rw[show k+1+j=k+(j+1) by omega,this];rfl
theorem cG{id:Nat}{l:List Oper}(k:Nat)(hm:P.follows .mixedOrders=true)(hB:Region.lexTailB .any l.toArray k=true)(h:gy P n l.toArray (l.take k) 0 [] s (aL P X0 n l.toArray (l.drop k) (Q .normal))):aW P X0 n (.region id l.toArray true) Q s:=fun w0 f a w hd=>by
 obtain⟨ds,s',h1,h2⟩:=nK _ _ _ _ h;have hi:HI (XO X0 s f) n w f Own3.Fs.none [] s a:=⟨hd.sz,hd.df,fun t _=>hd.sl t,fun t u e=>by simp[fE]at e⟩;have hlen:(l.take k).length<=l.length:=by rw[bf];omega
 refine Own3.jO k (ds.map (pL (XO X0 s f) f)) hm hB ?_;have key:=gQ hd.xlt hd.ow (l.take k) 0 [] s ds Own3.Fs.none a rfl h1 hi (S':=fun i=>(ds.map (pL (XO X0 s f) f)).getD i (.inl undef)) fun j _=>by
  simp only[bU,bg,eg];cases ds[j]?<;>rfl
 have mono:∀(l:List Oper) (k:Nat) (F:Own3.Fs) (a:Act) (S':Nat->Value⊕Own3.Rel) (ops:Array Oper) (Q1 Q2:Own3.Fs->Act->Prop),(∀F a,Q1 F a->Q2 F a)->Own3.gI P .any ops w S' Q1 l k F a->Own3.gI P .any ops w S' Q2 l k F a:=fun l=>by
  induction l with
  |nil=>intro k F a S' ops Q1 Q2 h hh;exact h _ _ hh
  |cons o l ih=>
   intro k F a S' ops Q1 Q2 h hh;exact⟨hh.1,Own3.gj (fun F' v _ hK=>ih _ _ _ _ _ _ _ h hK) hh.2⟩
 refine mono _ _ _ _ _ _ _ _ (fun F' a' ⟨src',ho,hi'⟩ w' hw'=>?_) key;have hd0:=hd.grow hw'.1;have hXO:XO X0 s' f=XO X0 s f:=by unfold XO;rw[ho]
 refine h2 w0 f a' w' _ ⟨hi'.sz,hi'.df,hd0.bl,hd0.x0,hd0.xy,hd0.fx,by rw[ho];exact hd0.lo,fun t=>?_,?_,?_,?_,?_⟩ fun s'' f'' _ _ h3 h4=>⟨s'',f'',h3,h4⟩
 ·rw[hXO]
  cases hs:fE src' t with
  |none=>exact(hi'.none' t hs).grow hw'.1
  |some u=>exact hw'.get (hi'.some' t u hs)
 ·rw[hXO,ho];exact hd0.ow
 ·rw[ho];exact hd0.nw
 ·rw[ho];exact hd0.dj
 ·rw[ho];exact hd0.un
theorem Bq{ops:Array Oper}{o:Oper}{l:List Oper}{K:S->Prop}{j t:Nat}{c:Bool}(hg:o.guard=some (j,c))(hj:(ops[j]?).bind (·.dst)=some t)(hc:s.gt t= .sc (.bool (!c)))(ht:cA n o=true)(h:aL P X0 n ops l K (s.put o.dst .any)):aL P X0 n ops (o::l) K s:=fun w0 f a w Q hd hq=>by
 have hi:HI (XO X0 s f) n w f Own3.Fs.none [] s a:=⟨hd.sz,hd.df,fun t _=>hd.sl t,fun t u e=>by simp[fE]at e⟩;have hw:=hi.want (ops:=ops) (o:=o) (b:=false) (by simp only[iu,hg];exact⟨t,!c,hj,rfl,hc,by cases c<;>rfl⟩);refine wpList_step fun K' hK=>?_;rw[an (by rw[hw];simp)];exact hK _ _ (h w0 f _ w Q (hd.put SR.any (fm ht)) hq)
theorem Bp{ops:Array Oper}{o:Oper}{l:List Oper}{K:S->Prop}{d:D}{j t:Nat}{c:Bool}(hg:o.guard=some (j,c))(hj:(ops[j]?).bind (·.dst)=some t)(hc:s.gt t= .sc (.bool c))(ht:cA n o=true)(hd:bq P o s d)(h:aL P X0 n ops l K (s.put o.dst d)):aL P X0 n ops (o::l) K s:=
 iD fun w0 f a w _ hh=>by
  have hi:HI (XO X0 s f) n w f Own3.Fs.none [] s a:=⟨hh.sz,hh.df,fun t _=>hh.sl t,fun t u e=>by simp[fE]at e⟩;exact⟨hi.want (ops:=ops) (o:=o) (b:=true) (by simp only[iu,hg];exact⟨t,c,hj,rfl,hc,by simp⟩),Oper.wp_mono (fun _ _ h1=>⟨_,f,h1,h⟩) (oA hd hh ht)⟩
end
end DW
end
section
open Go.RowKit
namespace DW
section
variable {P : Program} {X0 : Nat->Prop} {n : Nat} {Q : Exit->S->Prop} {s : S} {sl : List (Nat × D)} {ow : List (Nat × Ow)} {o : Oper} {ops : Array Oper} {l : List Oper} {K : S->Prop} {t : Nat} {d : D} {k : Nat} {src : List (Nat × Option Nat)}
structure aC(P:Program)(X0:Nat->Prop)(n:Nat)(y:Code)(Q:Exit->S->Prop)(s:S):Prop where
 h:aW P X0 n y Q s
theorem zm{x y:Code}(h:aW P X0 n x (nx (aC P X0 n y Q) Q) s):aW P X0 n (.seq x y) Q s:=fun w0 f a w hd=>
 wp_seq (Code.wp_mono (fun e a w ⟨s',f',h1,h2⟩=>by
  cases e with
  |normal=>exact h2.h w0 f' a w h1
  |_=>exact⟨s',f',h1,h2⟩) (h w0 f a w hd))
theorem nx_c{y:Code}{Q':Exit->S->Prop}(h:aW P X0 n y Q s):nx (aC P X0 n y Q) Q' .normal s:=⟨h⟩
theorem nx_e{K:S->Prop}{i:Nat}(h:Q (.exit i) s):nx K Q (.exit i) s:=h
theorem nx_r{K:S->Prop}(h:Q .ret s):nx K Q .ret s:=h
theorem in_n{id:Nat}(h:Q .normal s):inB id Q .normal s:=h
theorem in_r{id:Nat}(h:Q .ret s):inB id Q .ret s:=h
theorem in_e{id:Nat}(h:Q .normal s):inB id Q (.exit id) s:=by unfold inB;simp only[if_true];exact h
def oU:List (Nat×D)->Nat->D
 |[],_=>.any
 |(u,d)::l,t=>match Nat.beq u t with
  |true=>d
  |false=>oU l t
theorem nE:∀(l:List (Nat×D)) (t:Nat),look l t=oU l t
 |[],_=>rfl
 |(u,d)::l,t=>by
  simp only[look,oU]
  cases h:Nat.beq u t with
  |true=>rw[aB (dX h)]
  |false=>rw[an (ov h)];exact nE l t
theorem cj(h:oU sl t=d):look sl t=d:=(nE sl t).trans h
theorem aw(h:oU sl t=d):S.op ⟨sl,ow⟩ (.tmp t)=d:=(nE sl t).trans h
theorem bD{q:IntKind}{z:Int}:S.op s (.const (.int q z))= .sc (.int q z):=rfl
theorem gF{b:Bool}:S.op s (.const (.bool b))= .sc (.bool b):=rfl
theorem jZ:S.op s (.const (.slice none 0 0))= .sc (.slice none 0 0):=rfl
theorem aL1(hg:o.guard=none)(hdst:o.dst=some t)(ht:Nat.blt t n=true)(hd:bq P o ⟨sl,ow⟩ d)(h:aL P X0 n ops l K ⟨(t,d)::sl,ow⟩):aL P X0 n ops (o::l) K ⟨sl,ow⟩:=
 Br hg uL hd (by rw[hdst];exact h)
theorem aLw{j u:Nat}{c:Bool}(hg:o.guard=some (j,c))(hdst:o.dst=some t)(ht:Nat.blt t n=true)(hj:(ops[j]?).bind (·.dst)=some u)(hc:look sl u= .sc (.bool c))(hd:bq P o ⟨sl,ow⟩ d)(h:aL P X0 n ops l K ⟨(t,d)::sl,ow⟩):aL P X0 n ops (o::l) K ⟨sl,ow⟩:=
 Bp hg hj hc uL hd (by rw[hdst];exact h)
theorem aLs{j u:Nat}{c:Bool}(hg:o.guard=some (j,c))(hdst:o.dst=some t)(ht:Nat.blt t n=true)(hj:(ops[j]?).bind (·.dst)=some u)(hc:look sl u= .sc (.bool (!c)))(h:aL P X0 n ops l K ⟨(t,.any)::sl,ow⟩):aL P X0 n ops (o::l) K ⟨sl,ow⟩:=
 Bq hg hj hc uL (by rw[hdst];exact h)
theorem aH1{v:Option Nat}(hg:o.guard=none)(hdst:o.dst=some t)(ht:Nat.blt t n=true)(hp:mQ o src=true)(ho:okD d=true)(hv:kG d k=v)(hd:bq P o ⟨sl,ow⟩ d)(h:gy P n ops l (k+1) ((t,v)::src) ⟨(t,d)::sl,ow⟩ K):gy P n ops (o::l) k src ⟨sl,ow⟩ K:=
 we hg hp uL ho hd (by rw[hdst,hv];exact h)
theorem nS{v:Option Nat}(hg:o.guard=none)(hdst:o.dst=some t)(ht:Nat.blt t n=true)(hp:mQ o src=true)(hd:bq P o ⟨sl,ow⟩ d)(ho:okD d=true)(hv:kG d k=v)(h:gy P n ops l (k+1) ((t,v)::src) ⟨(t,d)::sl,ow⟩ K):gy P n ops (o::l) k src ⟨sl,ow⟩ K:=aH1 hg hdst ht hp ho hv hd h
theorem aLapp{x y:Operand}{tt:TypeId}{kk:Nat}{q:Ow}{wd:Nat}{l2:List D}{sl':List (Nat×D)}{ow':List (Nat×Ow)}(hg:o.guard=none)(hdst:o.dst=some t)(ht:Nat.blt t n=true)
  (ho:o.op= .call {callee:=.builtin .append,args:=#[x,y],argTypes:=#[tt,tt]}) (hx:S.op ⟨sl,ow⟩ x= .own kk) (hy:S.op ⟨sl,ow⟩ y= .ls wd l2) (hk:(kk,q)∈ow) (hwd:wd=q.wd) (hl2:l2≠[]) (hn2:l2.all D.nw=true)
  (htt:P.underlying tt=some (.slice q.T)) (hI:(P.info? q.T).map (fun i=>(i.zero.map (·.cells.size),i.size,decide (i.bytes<=100000)))=some (some q.wd,q.wd,true)) (hlen:q.l.length+l2.length<=1000000000)
  (hs:kill kk sl=sl') (how:upd kk l2 ow=ow') (h:aL P X0 n ops l K ⟨(t,.own kk)::sl',ow'⟩) (hk0:Nat.blt kk 1000000=true:=by exact rfl):aL P X0 n ops (o::l) K ⟨sl,ow⟩:=
 xX hg hdst (by simpa[aJ]using ht) ho hx hy hk hwd hl2 hn2 htt hI hlen (by subst hs;subst how;exact h) hk0
theorem xN{x:Operand}(ho:o.op= .move x)(hx:s.op x=d):bq P o s d:=hx▸qB (.inl ho)
theorem kT{x:Operand}(ho:o.op= .assign x)(hx:s.op x=d):bq P o s d:=hx▸qB (.inr ho)
theorem Co{α:Type}{f:α->D}{m:List α}{x:Operand}{t:TypeId}{wd:Nat}(ho:o.op= .call {callee:=.builtin .len,args:=#[x],argTypes:=#[t]})(hx:s.op x= .ls wd (m.map f))(ht:P.underlying t=some (.slice (P.elem t))):bq P o s (.sc (.int .i64 (m.length:Int))):=by
 have:=ze ho hx ht;rwa[bu]at this
theorem sR{c x y:Operand}{b:Bool}(ho:o.op= .pick c x y)(hc:s.op c= .sc (.bool b))(hb:b=true)(hx:s.op x=d):bq P o s d:=by
 subst hx;subst hb;exact qA ho hc
theorem sS{c x y:Operand}{b:Bool}(ho:o.op= .pick c x y)(hc:s.op c= .sc (.bool b))(hb:b=false)(hy:s.op y=d):bq P o s d:=by
 subst hy;subst hb;exact qA ho hc
theorem zM{x y:Operand}{tt tt':TypeId}{p q:Int}(ho:o.op= .binOp .add tt x y tt')(hx:s.op x= .sc (.int .i64 p))(hy:s.op y= .sc (.int .i64 q))(hb: -9223372036854775808<=p+q/\p+q<=9223372036854775807):bq P o s (.sc (.int .i64 (p+q))):=
 bZ ho hx hy zb36
theorem zL{x y:Operand}{tt tt':TypeId}{p q:Int}(ho:o.op= .binOp .sub tt x y tt')(hx:s.op x= .sc (.int .i64 p))(hy:s.op y= .sc (.int .i64 q))(hb: -9223372036854775808<=p-q/\p-q<=9223372036854775807):bq P o s (.sc (.int .i64 (p-q))):=
 bZ ho hx hy zb36
theorem Bd{g:FuncId}{x:Operand}{ts:Array TypeId}{d1 r:D}(ho:o.op= .call {callee:=.value (.func g),args:=#[x],argTypes:=ts})(hx:s.op x=d1)(hs:d1.seen=true)(hf:Go.Proofs.Enters P g/\Fun P g [d1] r)(hr:r.seen=true):bq P o s r:=
 jy (xs:=[x]) ho hf.1 (by simp[hx]) (by simp[hs]) hf.2 hr
theorem ud{g:FuncId}{x y:Operand}{ts:Array TypeId}{d1 d2 r:D}(ho:o.op= .call {callee:=.value (.func g),args:=#[x,y],argTypes:=ts})(hx:s.op x=d1)(hy:s.op y=d2)(hs:d1.seen=true)(hs2:d2.seen=true)(hf:Go.Proofs.Enters P g/\Fun P g [d1,d2] r)(hr:r.seen=true):bq P o s r:=
 jy (xs:=[x,y]) ho hf.1 (by simp[hx,hy]) (by simp[hs,hs2]) hf.2 hr
theorem qg{g:FuncId}{x y z:Operand}{ts:Array TypeId}{d1 d2 d3 r:D}(ho:o.op= .call {callee:=.value (.func g),args:=#[x,y,z],argTypes:=ts})(hx:s.op x=d1)(hy:s.op y=d2)(hz:s.op z=d3)(hs:d1.seen=true)(hs2:d2.seen=true)(hs3:d3.seen=true)(hf:Go.Proofs.Enters P g/\Fun P g [d1,d2,d3] r)(hr:r.seen=true):bq P o s r:=
 jy (xs:=[x,y,z]) ho hf.1 (by simp[hx,hy,hz]) (by simp[hs,hs2,hs3]) hf.2 hr
theorem Be{g:FuncId}{ts:Array TypeId}{r:D}(ho:o.op= .call {callee:=.value (.func g),args:=#[],argTypes:=ts})(hf:Go.Proofs.Enters P g/\Fun P g [] r)(hr:r.seen=true):bq P o s r:=
 jy (xs:=[]) ho hf.1 rfl rfl hf.2 hr
theorem xO{x:Operand}{tt:TypeId}{wd:Nat}{b:Bool}(ho:o.op= .load tt x)(hx:s.op x= .pt d)(hf:d.fits=true)(hw:d.wd=wd)(ha:d.agg=b)(hz:(P.info? tt).map (·.size)=some wd)(hg:(P.underlying tt).map TypeDesc.isRow=some b):bq P o s d:=xH ho hx hf (hw▸hz) (ha▸hg)
theorem d_lit{x:Operand}{tt:TypeId}{wd:Nat}(ho:o.op= .buildSlice tt 1 #[(0,x)])(hx:s.op x=d)(hf:d.fits=true)(hw:d.wd=wd)(ht:P.underlying tt=some (.slice (P.elem tt)))(hz:(P.info? (P.elem tt)).map (fun i=>(i.zero.isSome,i.size))=some (true,wd))(h0:Nat.blt 0 wd=true)(h1:Nat.ble wd 1000000=true):bq P o s (.ls wd [d]):=by
 subst hw;exact zd ho hx hf ht hz (by simpa[aJ]using h0) (by simpa using h1)
theorem si{α:Type}{f:α->D}{m:List α}(h:∀x,(f x).nw=true):(m.map f).all D.nw=true:=by
 rw[iG];intro d hd;obtain⟨x,_,rfl⟩:=im.1 hd;exact h x
theorem jg{w:Nat}{l:List D}:(D.ls w l).wd=1:=rfl
theorem je{v:Value}:(D.sc v).wd=1:=rfl
theorem get_map{α:Type}{f:α->D}{m:List α}{i:Nat}{x:α}(h:m[i]?=some x):(m.map f)[((i:Nat):Int).toNat]?=some (f x):=by rw[Int.toNat_natCast,eg,h];rfl
theorem Cv{c:Operand}{x y:Code}{b:Bool}(hc:s.op c= .sc (.bool b))(hb:b=true)(h:aW P X0 n x Q s):aW P X0 n (.cond c x y) Q s:=by subst hb;exact Bm hc h
theorem aW_no{c:Operand}{x y:Code}{b:Bool}(hc:s.op c= .sc (.bool b))(hb:b=false)(h:aW P X0 n y Q s):aW P X0 n (.cond c x y) Q s:=by subst hb;exact zn hc h
theorem yQ{k:Nat}:kill k []=[]:=rfl
theorem yR{k t:Nat}{d:D}{r r':List (Nat×D)}(hd:d.is k=true)(h:kill k r=r'):kill k ((t,d)::r)=(t,.any)::r':=by simp only[kill,hd];rw[h]
theorem xu{k t:Nat}{d:D}{r r':List (Nat×D)}(hd:d.is k=false)(h:kill k r=r'):kill k ((t,d)::r)=(t,d)::r':=by simp only[kill,hd];rw[h]
theorem Aa{k:Nat}{l2:List D}:upd k l2 []=[]:=rfl
theorem Ab{k wd:Nat}{T:TypeId}{l l2:List D}{r r':List (Nat×Ow)}(h:upd k l2 r=r'):upd k l2 ((k,⟨T,wd,l⟩)::r)=(k,⟨T,wd,l++l2⟩)::r':=by simp only[upd,aB];rw[h]
theorem yd{k j:Nat}{q:Ow}{l2:List D}{r r':List (Nat×Ow)}(hj:Nat.beq j k=false)(h:upd k l2 r=r'):upd k l2 ((j,q)::r)=(j,q)::r':=by
 simp only[upd];rw[an (fun e=>by rw[e,de]at hj;cases hj),h]
theorem yr{k wd:Nat}{l:List D}:shut k wd l []=[]:=rfl
theorem yt{k t wd:Nat}{l:List D}{r r':List (Nat×D)}(h:shut k wd l r=r'):shut k wd l ((t,.own k)::r)=(t,.ls wd l)::r':=by simp only[shut,jj,de];rw[h]
theorem wQ{k t wd:Nat}{l:List D}{d:D}{r r':List (Nat×D)}(hd:d.is k=false)(h:shut k wd l r=r'):shut k wd l ((t,d)::r)=(t,d)::r':=by
 have:jj k wd l d=d:=by
  cases d<;>first|rfl|(simp only[D.is]at hd;simp only[jj,hd])
 simp only[shut,this];rw[h]
theorem drop_nil{k:Nat}:dG k []=[]:=rfl
theorem yZ{k:Nat}{q:Ow}{r r':List (Nat×Ow)}(h:dG k r=r'):dG k ((k,q)::r)=r':=by simp only[dG,aB];rw[h]
theorem xG{k j:Nat}{q:Ow}{r r':List (Nat×Ow)}(hj:Nat.beq j k=false)(h:dG k r=r'):dG k ((j,q)::r)=(j,q)::r':=by
 simp only[dG];rw[an (fun e=>by rw[e,de]at hj;cases hj),h]
theorem Bv{t k:Nat}{T:TypeId}{wd:Nat}{sl':List (Nat×D)}(ht:look sl t= .sc (.slice none 0 0))(hk:ow.all (fun p=>!Nat.beq p.1 k)=true)(hw:Nat.blt 0 wd=true)(hs:kill k sl=sl')(hk0:Nat.blt k 1000000=true:=by exact rfl):Sh X0 n ⟨sl,ow⟩ ⟨(t,.own k)::sl',(k,⟨T,wd,[]⟩)::ow⟩:=by
 subst hs;exact CA (s:=⟨sl,ow⟩) ht (fun p hp e=>by
  have:=iG.1 hk p hp;rw[e,de]at this;cases this) (by simpa[aJ]using hw) hk0
theorem nT{k wd:Nat}{T:TypeId}{l:List D}{sl':List (Nat×D)}{ow':List (Nat×Ow)}(hk:(k,(⟨T,wd,l⟩:Ow))∈ow)(hs:shut k wd l sl=sl')(ho:dG k ow=ow')(hkh:hdr k=false:=by exact rfl):Sh X0 n ⟨sl,ow⟩ ⟨sl',ow'⟩:=by
 subst hs;subst ho;exact Bu (s:=⟨sl,ow⟩) hk hkh
def Sub(sl:List (Nat×D)):List (Nat×D)->Prop
 |[]=>True
 |p::r=>look sl p.1=p.2/\Sub sl r
theorem bO{a b:Bool}(h:a=b):D.sc (.bool a)= .sc (.bool b):=by rw[h]
theorem oJ{q:IntKind}{a b:Int}(h:a=b):D.sc (.int q a)= .sc (.int q b):=by rw[h]
theorem tJ{q:IntKind}{z:Int}(h:match q with| .i64=>-9223372036854775808<=z/\z<=9223372036854775807| .u32=>0<=z/\z<4294967296| .u64=>0<=z/\z<18446744073709551616|_=>False):q.wrap z=z:=by
 cases q<;>first|exact h.elim|skip
 ·simp only[]at h;rw[IntWalk.i64_left];exact vg _ h
 ·simp only[]at h;simp[IntKind.wrap,IntKind.bits,IntKind.signed];omega
 ·simp only[]at h;simp[IntKind.wrap,IntKind.bits,IntKind.signed];omega
def wg(ow:List (Nat×Ow))(ow':List (Nat×Ow)):Prop:=∀p∈ow',p∈ow
theorem yi:wg ow []:=fun p hp=>by cases hp
theorem wI{p:Nat×Ow}{r:List (Nat×Ow)}(h:p∈ow)(k:wg ow r):wg ow (p::r):=fun q hq=>by
 rcases bj.1 hq with e|e
 ·rw[e];exact h
 ·exact k q e
theorem Ad:Sub sl []:=trivial
theorem yj{t:Nat}{d d':D}{r:List (Nat×D)}(h:look sl t=d)(e:d=d')(k:Sub sl r):Sub sl ((t,d')::r):=⟨e▸h,k⟩
theorem Bt{sl':List (Nat×D)}{ow':List (Nat×Ow)}(h:Sub sl sl')(ho:ow=ow'):Sh X0 n ⟨sl,ow⟩ ⟨sl',ow'⟩:=by
 subst ho;refine Cz (s:=⟨sl,ow⟩) ?_;have key:∀r:List (Nat×D),Sub sl r->∀p∈r,look sl p.1=p.2:=fun r=>by
  induction r with
  |nil=>intro _ p hp;cases hp
  |cons q r ih=>
   intro h p hp;rcases bj.1 hp with e|e
   ·rw[e];exact h.1
   ·exact ih h.2 p e
 exact key _ h
theorem bn{sl':List (Nat×D)}{ow':List (Nat×Ow)}(h:Sub sl sl')(ho:wg ow ow'):Sh X0 n ⟨sl,ow⟩ ⟨sl',ow'⟩:=fun w0 f a w hd=>by
 obtain⟨f',h1⟩:=Bt (X0:=X0) (n:=n) (ow:=ow) h rfl w0 f a w hd;refine⟨f',?_⟩;have hX:∀b,XO X0 ⟨sl',ow'⟩ f' b->XO X0 ⟨sl',ow⟩ f' b:=fun b hb=>by
  rcases hb with hb|⟨p,hp,e⟩
  ·exact .inl hb
  ·exact .inr ⟨p,ho p hp,e⟩
 refine⟨h1.sz,h1.df,h1.bl,h1.x0,h1.xy,h1.fx,fun p hp=>h1.lo p (ho p hp),fun u=>?_,fun p hp=>?_,fun b ⟨p,hp,e⟩=>h1.nw b ⟨p,ho p hp,e⟩,fun p hp q hq=>h1.dj p (ho p hp) q (ho q hq),fun p hp q hq=>h1.un p (ho p hp) q (ho q hq)⟩
 ·have h2:=h1.sl u;show SR _ _ _ (look sl' u) _;have h3:SR (XO X0 ⟨sl',ow⟩ f') f' w (look sl' u) (a.tmps.getD u undef):=h2;cases hd:look sl' u<;>rw[hd]at h3<;>first|exact AR.free h3 (fun b _ hb=>hX b hb)|exact h3
 ·obtain⟨k0,zs,k1,k2⟩:=h1.ow p (ho p hp);exact⟨k0,zs,k1,EE.agr (Agr.refl _ w) (fun b _ hb=>hX b hb) (fun _ _=>rfl) k2⟩
theorem cR {g : FuncId} {fn : Func} {c : Code} {ds : List D} {r : D} (hf : P.funcs[g]? = some fn) (hname : (fn.name == "runtime.NumGoroutine") = false) (hb : fn.body = some c) (hn : Nat.ble ds.length fn.ntmps = true) (hds : ds.all D.seen = true)
 (h:∀X0,aW P X0 fn.ntmps c (fin P X0 fn.ntmps fn r) ⟨bC 0 ds,[]⟩):Go.Proofs.Enters P g/\Fun P g ds r:=⟨Go.Proofs.enters_of hf hname hb,Ch hf hb (by simpa using hn) hds h⟩
end
end DW
end
section
open Go.RowKit
namespace DW
theorem Hd.new{X0:Nat->Prop}{n:Nat}{w0:Bs}{s:S}{f:Nat->Value}{a:Act}{w:World}{k cap:Nat}{q:Ow}{cs:Array Value}(h:Hd X0 n w0 s f a w)(hk:∀p∈s.ow,p.1≠k)(hk0:Nat.blt k 1000000=true)(hwd:0<q.wd)(hc:q.l.length<=cap)(hm:cap<=maxLen)(hs:cs.size=cap*q.wd)
  (hx:Els (XO X0 s f) w q.wd q.l (cs.toList.take (q.l.length*q.wd))) (hl:q.l≠[]\/cs= #[]) {t:Nat} (ht:t<n) {d:D} {v:Value} (hd:∀X,SR X (fun j=>if j=k then .slice (some ⟨w.heap.size,0,none⟩) q.l.length cap else f j) (w.alloc (.cells cs q.T)) d v):
  Hd X0 n w0 ⟨(t,d)::kill k s.sl,(k,q)::s.ow⟩ (fun j=>if j=k then .slice (some ⟨w.heap.size,0,none⟩) q.l.length cap else f j) (a.put (some t) v) (w.alloc (.cells cs q.T)):=by
 have hb:Below w.heap.size w (w.alloc (.cells cs q.T)):=(Below.refl _ _).alloc (ai _) _;have hag:Agr (XO X0 s f) w (w.alloc (.cells cs q.T)):=Agr.of _ hb;have hX:∀b,b<w.heap.size->XO X0 ⟨(t,d)::kill k s.sl,(k,q)::s.ow⟩ (fun j=>if j=k then .slice (some ⟨w.heap.size,0,none⟩) q.l.length cap else f j) b->XO X0 s f b:=fun b hbs hb=>by
  rcases hb with hb|⟨p,hp,e⟩
  ·exact .inl hb
  ·rcases bj.1 hp with h1|h1
   ·subst h1;simp only[if_true,Value.ownBlock,ah]at e;omega
   ·simp only[an (hk p h1)]at e;exact .inr ⟨p,h1,e⟩
 have hrow:∀j,hZ j=true->(if j=k then Value.slice (some ⟨w.heap.size,0,none⟩) q.l.length cap else f j)=f j:=fun j hj=>an (pX hk0 hj);refine⟨by simp[Act.put,h.sz],h.df,h.bl.below hb,h.x0,h.xy,fun j hj=>(an (pY hk0 hj)).trans (h.fx j hj),fun p hp b e=>?_,fun u=>?_,fun p hp=>?_,fun b hb'=>?_,fun p hp p' hp' hne b e e'=>?_,fun p hp p' hp' e=>?_⟩
 ·rcases bj.1 hp with h1|h1
  ·subst h1;simp only[if_true,Value.ownBlock,ah]at e;exact .inl (by have:=h.bl.size;omega)
  ·simp only[an (hk p h1)]at e;exact h.lo p h1 b e
 ·rw[gK (by rw[h.sz];exact ht)];show SR _ _ _ (look ((t,d)::kill k s.sl) u) _;simp only[look];split
  ·exact hd _
  ·rcases gY k s.sl u with⟨e,hne⟩|e
   ·rw[e];exact SR.other (h.sl u) hne hag hX
   ·rw[e];exact SR.any
 ·rcases bj.1 hp with h1|h1
  ·subst h1;refine⟨hwd,_,?_,EE.of (Els.agr hag hX hx) (mM hk0)⟩;simp only[if_true];refine⟨by rw[bf,bL,hs];exact dn (cE _ hc),.inr ⟨w.heap.size,cap,cs,rfl,aZ _,heap_alloc_new w _,hc,hm,hs,rfl⟩⟩
  ·obtain⟨k0,zs,k1,k2⟩:=h.ow p h1;refine⟨k0,zs,?_,EE.agr hag hX hrow k2⟩;simp only[an (hk p h1)];exact World.ownsRow.kept (row:=none) k1 ⟨hb.os,hb.tape,hb.output,hb.size,fun b hbs _=>hb.block b hbs⟩ (by cases(f p.1).ownBlock<;>simp)
 ·obtain⟨p,hp,e⟩:=hb';rcases bj.1 hp with h1|h1
  ·subst h1;simp only[if_true,Value.ownBlock,ah]at e;subst e;intro m hm';rw[cell_of_row _ w.heap.size _ _ _ (0,0) (heap_alloc_new w _)]at hm';rcases hl with hl|hl
   ·obtain⟨u,hu,hn⟩:=Els.nw0 hx hl hwd;rw[gP]at hu;split at hu
    ·rw[cM]at hu;rw[hu]at hm';exact hn m (by simpa using hm')
    ·cases hu
   ·rw[hl]at hm';simp at hm'
  ·simp only[an (hk p h1)]at e;have hlt:=((h.ow p h1).lt e).2;intro m hm';exact h.nw b ⟨p,h1,e⟩ m ((hb.cell (p:=⟨b,0,none⟩) hlt).symm.trans hm')
 ·have hlt:∀p∈s.ow,∀b,(f p.1).ownBlock=some b->b<w.heap.size:=fun p hp b e=>((h.ow p hp).lt e).2;rcases bj.1 hp with h1|h1<;>rcases bj.1 hp' with h1'|h1'
  ·subst h1;subst h1';exact hne rfl
  ·subst h1;simp only[if_true,an (hk p' h1'),Value.ownBlock,ah]at e e';have:=hlt p' h1' b e';omega
  ·subst h1';simp only[if_true,an (hk p h1),Value.ownBlock,ah]at e e';have:=hlt p h1 b e;omega
  ·simp only[an (hk p h1),an (hk p' h1')]at e e';exact h.dj p h1 p' h1' hne b e e'
 ·rcases bj.1 hp with h1|h1<;>rcases bj.1 hp' with h1'|h1'
  ·rw[h1,h1']
  ·subst h1;exact absurd e.symm (hk p' h1')
  ·subst h1';exact absurd e (hk p h1)
  ·exact h.un p h1 p' h1' e
section
variable {P : Program} {X0 : Nat->Prop} {n : Nat} {sl : List (Nat × D)} {ow : List (Nat × Ow)} {o : Oper} {ops : Array Oper} {l : List Oper} {K : S->Prop} {t : Nat} {d : D}
theorem sE{k:Nat}(h:ow.all (fun p=>!Nat.beq p.1 k)=true):∀p∈ow,p.1≠k:=fun p hp e=>by
 have:=iG.1 h p hp;rw[e,de]at this;cases this
end
end DW
end
section
open Go.RowKit
namespace DW
theorem Els.mk{X:Nat->Prop}{w:World}{wd:Nat}:∀{l:List D} {xs:List Value},xs.length=l.length*wd->(∀i d,l[i]?=some d->∃u,AR X w d u/\d.fits=true/\d.wd=wd/\d.nw=true/\∀j v,u.cells.toList[j]?=some v->xs[i*wd+j]?=some v)->Els X w wd l xs
 |[],xs,hl,_=>fS (by simpa using hl)
 |d::l,xs,hl,h=>by
  obtain⟨u,h1,h2,h3,h4,h5⟩:=h 0 d rfl;have hsz:=AR.size d u h2 h1;have hul:u.cells.toList.length=wd:=by rw[bL,hsz,h3]
  simp only[eu,aU,cI]at hl;have e:xs.take wd=u.cells.toList:=by
   apply List.ext_getElem?;intro j;by_cases hj:j<wd
   ·rw[kj hj];have:=h5 j _ (aP aa);rw[jb,bU]at this;rw[this,aP aa]
   ·rw[qJ (by rw[bf];omega),qJ aa]
  refine⟨u,xs.drop wd,by rw[<-e,oc],h1,h2,h3,h4,Els.mk (by rw[fU];omega) fun i d' hd'=>?_⟩;obtain⟨u',k1,k2,k3,k4,k5⟩:=h (i+1) d' (by simpa using hd');refine⟨u',k1,k2,k3,k4,fun j v hj=>?_⟩;have:=k5 j v hj;rw[gV];rw[aU,cI]at this;rw[show wd+(i*wd+j)=i*wd+wd+j by omega];exact this
theorem Els.made{X:Nat->Prop}{w:World}{z:Value}{d:D}(h:AR X w d z)(hf:d.fits=true)(hn:d.nw=true)(h0:0<d.wd)(n:Nat):Els X w d.wd (List.replicate n d) (madeCells z.cells (n*d.wd)).toList:=by
 have hsz:=AR.size d z hf h;refine Els.mk (by simp[size_madeCells]) fun i d' hd'=>?_;obtain⟨rfl,hi⟩:d'=d/\i<n:=by
  rw[nZ]at hd';split at hd'
  ·next hi=>exact⟨by simpa using hd'.symm,hi⟩
  ·cases hd'
 refine⟨z,h,hf,rfl,hn,fun j v hj=>?_⟩;have hjl:j<d'.wd:=by have:=(cN.1 hj).1;rwa[bL,hsz]at this
 have hlt:i*d'.wd+j<n*d'.wd:=by
  have:=cE d'.wd (show i+1<=n by omega);rw[aU,cI]at this;omega
 unfold madeCells;rw[cM,lp,ll,aB hlt];simp only[bX,ah];rw[hsz,fe (i*d'.wd),uR,ik hjl];rw[cM]at hj;simp[getElem!_def,hj]
section
variable {P : Program} {X0 : Nat->Prop} {n : Nat} {Q : Exit->S->Prop} {s : S} {sl : List (Nat × D)} {ow : List (Nat × Ow)} {o : Oper} {ops : Array Oper} {l : List Oper} {K : S->Prop} {t : Nat} {d : D}
theorem vO{x y:Operand}{tt tt':TypeId}{p q:Int}(ho:o.op= .binOp .mul tt x y tt')(hx:s.op x= .sc (.int .i64 p))(hy:s.op y= .sc (.int .i64 q))(hb: -9223372036854775808<=p*q/\p*q<=9223372036854775807):bq P o s (.sc (.int .i64 (p*q))):=
 bZ ho hx hy zb36
theorem vN{x y:Operand}{tt tt':TypeId}{p q:Int}(ho:o.op= .binOp .quo tt x y tt')(hx:s.op x= .sc (.int .i64 p))(hy:s.op y= .sc (.int .i64 q))(hq:q≠0/\-9223372036854775808<=p.tdiv q/\p.tdiv q<=9223372036854775807):bq P o s (.sc (.int .i64 (p.tdiv q))):=
 kR ho hx hy rfl fun w=>by
  have:=vg _ hq.2;simp[eqGuard,binOp,Op.intDiv,hq.1,IntWalk.i64_left,this]
theorem ur{tt T:TypeId}{wd k:Nat}{sl':List (Nat×D)}(hg:o.guard=none)(hdst:o.dst=some t)(ht:Nat.blt t n=true)(ho:o.op= .buildSlice tt 0 #[])(htt:P.underlying tt=some (.slice T))(hi:(P.info? T).map (fun i=>i.size)=some wd)(h0:Nat.blt 0 wd=true)(hk:ow.all (fun p=>!Nat.beq p.1 k)=true)(hs:kill k sl=sl')
  (h:aL P X0 n ops l K ⟨(t,.own k)::sl',(k,⟨T,wd,[]⟩)::ow⟩) (hk0:Nat.blt k 1000000=true:=by exact rfl):aL P X0 n ops (o::l) K ⟨sl,ow⟩:=by
 subst hs;refine iD fun w0 f a w Qx hh=>⟨by simp[Region.wanted,hg],?_⟩
 cases hq:P.info? T with
 |none=>rw[hq]at hi;cases hi
 |some inf=>
  have hrun:(execOp a.eval o).run P w= .ok (.value (.slice (some ⟨w.heap.size,0,none⟩) 0 0)) (w.alloc (.cells #[] T)):=by
   unfold execOp;rw[ho];simp[Instr.buildSlice,run_underlying htt,sizeOf,typeInfo,hq,Instr.fill,newRow,Array.range_zero']
  unfold Oper.wp;rw[hrun];simp only[Oper.upon,hdst];have hnew:=hh.new (k:=k) (cap:=0) (q:=⟨T,wd,[]⟩) (cs:=#[]) (sE hk) hk0 (by simpa[aJ]using h0) (ai _) (by simp[maxLen]) aO (by simp[Els]) (.inr rfl) (t:=t) (by simpa[aJ]using ht) (d:=.own k) (v:=.slice (some ⟨w.heap.size,0,none⟩) 0 0) (fun X=>by simp[SR]);exact⟨_,_,hnew,h⟩
theorem nv{k:Nat}:∀ow:List (Nat×Ow),upd k [] ow=ow
 |[]=>rfl
 |(j,q)::l=>by
  simp only[upd];split
  ·rw[nv l,fX]
  ·rw[nv l]
theorem Hd.kill{w0:Bs}{w:World}{f:Nat->Value}{a:Act}{k:Nat}(h:Hd X0 n w0 ⟨sl,ow⟩ f a w):Hd X0 n w0 ⟨kill k sl,ow⟩ f a w:=
 ⟨h.sz,h.df,h.bl,h.x0,h.xy,h.fx,h.lo,fun u=>by
  show SR _ _ _ (look (DW.kill k sl) u) _;rcases gY k sl u with⟨e,_⟩|e
  ·rw[e];exact h.sl u
  ·rw[e];exact SR.any,h.ow,h.nw,h.dj,h.un⟩
theorem xW{x y:Operand}{tt:TypeId}{kk:Nat}{q:Ow}{wd:Nat}{l2:List D}{sl':List (Nat×D)}{ow':List (Nat×Ow)}(hg:o.guard=none)(hdst:o.dst=some t)(ht:Nat.blt t n=true)
  (ho:o.op= .call {callee:=.builtin .append,args:=#[x,y],argTypes:=#[tt,tt]}) (hx:S.op ⟨sl,ow⟩ x= .own kk) (hy:S.op ⟨sl,ow⟩ y= .ls wd l2) (hk:(kk,q)∈ow) (hwd:wd=q.wd) (hn2:l2.all D.nw=true)
  (htt:P.underlying tt=some (.slice q.T)) (hI:(P.info? q.T).map (fun i=>(i.zero.map (·.cells.size),i.size,decide (i.bytes<=100000)))=some (some q.wd,q.wd,true)) (hlen:q.l.length+l2.length<=1000000000)
  (hs:kill kk sl=sl') (how:upd kk l2 ow=ow') (h:aL P X0 n ops l K ⟨(t,.own kk)::sl',ow'⟩) (hk0:Nat.blt kk 1000000=true:=by exact rfl):aL P X0 n ops (o::l) K ⟨sl,ow⟩:=by
 by_cases hl2:l2=[]
 ·subst hl2;rw[nv]at how;subst how;subst hs;refine iD fun w0 f a w Qx hh=>⟨by simp[Region.wanted,hg],?_⟩;have h1:=hh.op x;have h2:=hh.op y;rw[hx]at h1;rw[hy]at h2;simp only[SR,AR]at h1 h2;obtain⟨ad,c,e1,h3,_⟩:=h2;obtain⟨hw0,xs,⟨hxl,h10⟩,h11⟩:=hh.ow _ hk;simp only at h10;have hsh:∃b cap,f kk= .slice b q.l.length cap/\q.l.length<=cap:=by
   rcases h10 with⟨h12,h13⟩|⟨g,cap,cur,h12,_,_,hle,_⟩
   ·exact⟨none,0,by rw[h12,h13],by omega⟩
   ·exact⟨_,cap,h12,hle⟩
  obtain⟨b,cap,e2,hle⟩:=hsh
  cases hq:P.info? q.T with
  |none=>rw[hq]at hI;cases hI
  |some inf=>
   have hru:=run_underlying htt w;have hrun:(execOp a.eval o).run P w= .ok (.value (f kk)) w:=by
    unfold execOp;have hfc:(Builtin.firstCells inf.size 0 (.slice ad 0 c)).run P w= .ok #[] w:=by
     cases ad<;>simp[Builtin.firstCells,loadCells,loadCellsFrom]
    simp only[ho,resolve,invoke,builtin,Sem.run_bind,Sem.run_pure,Result.andThen_ok,ko,eh,eZ,h1,e1,e2,Builtin.append_];simp[hru,sizeOf,typeInfo,hq,Builtin.lenOf,hle,hfc];cases b<;>simp[storeCells]
   unfold Oper.wp;rw[hrun];simp only[Oper.upon,hdst];exact⟨_,f,Hd.put (s:=⟨kill kk sl,ow⟩) (dst:=some t) (d:=.own kk) (hh.kill) (by simp only[SR]) (fun u e=>by cases e;simpa[aJ]using ht),h⟩
 ·exact aLapp hg hdst ht ho hx hy hk hwd hl2 hn2 htt hI hlen hs how h hk0
end
end DW
end
section
open Go.RowKit
namespace Dg
def dgs(b n:Nat):List Nat:=if h:1<b/\0<n then n%b::dgs b (n/b)else []
termination_by n
decreasing_by exact Nat.div_lt_self h.2 h.1
end Dg
namespace DW
abbrev zI(n:Int):D:=.sc (.int .i64 n)
abbrev dI(l:List Int):D:=.ls 1 (l.map zI)
abbrev dM(m:List (List Int)):D:=.ls 1 (m.map fun l=>dI l)
abbrev hN(x:Nat):D:=.sc (.int .i64 (x:Int))
def hd(n:Nat):List Nat:=Dg.dgs 65536 n
def wds(n:Nat):List Nat:=Dg.dgs 4294967296 n
abbrev Fn(P:Program)(g:FuncId)(ds:List D)(r:D):Prop:=Go.Proofs.Enters P g/\Fun P g ds r
section
variable {P : Program} {X0 : Nat->Prop} {n : Nat} {Q : Exit->S->Prop} {s : S} {sl : List (Nat × D)} {ow : List (Nat × Ow)} {o : Oper} {ops : Array Oper} {l : List Oper} {K : S->Prop} {t : Nat} {d : D}
theorem sP{x y:Operand}{tt tt':TypeId}{k:IntKind}{p q:Int}(ho:o.op= .binOp .rem tt x y tt')(hx:s.op x= .sc (.int k p))(hy:s.op y= .sc (.int k q))(hq:q≠0):bq P o s (.sc (.int k (p.tmod q))):=
 kR ho hx hy rfl fun w=>by simp[eqGuard,binOp,Op.intDiv,hq]
theorem sQ{x y:Operand}{tt tt':TypeId}{k:IntKind}{p q:Int}(ho:o.op= .binOp .quo tt x y tt')(hx:s.op x= .sc (.int k p))(hy:s.op y= .sc (.int k q))(hq:q≠0):bq P o s (.sc (.int k (k.wrap (p.tdiv q)))):=
 kR ho hx hy rfl fun w=>by simp[eqGuard,binOp,Op.intDiv,hq]
theorem xM{x y:Operand}{tt tt':TypeId}{k:IntKind}{m c:Nat}{q:Int}(ho:o.op= .binOp .quo tt x y tt')(hx:s.op x= .sc (.int k (m:Int)))(hy:s.op y= .sc (.int k q))(hq:q=(c:Int))(hc:Nat.blt 0 c=true)(hw:k.wrap ((m/c:Nat):Int)=((m/c:Nat):Int)):bq P o s (.sc (.int k ((m/c:Nat):Int))):=by
 subst hq;have hc':0<c:=by simpa[aJ]using hc
 have:=sQ (P:=P) ho hx hy aa;rw[show((m:Int)).tdiv (c:Int)=((m/c:Nat):Int)from rfl,hw]at this;exact this
theorem xK{x y:Operand}{tt tt':TypeId}{k:IntKind}{m c:Nat}{q:Int}(ho:o.op= .binOp .rem tt x y tt')(hx:s.op x= .sc (.int k (m:Int)))(hy:s.op y= .sc (.int k q))(hq:q=(c:Int))(hc:Nat.blt 0 c=true):bq P o s (.sc (.int k ((m%c:Nat):Int))):=by
 subst hq;have hc':0<c:=by simpa[aJ]using hc
 have:=sP (P:=P) ho hx hy aa;rw[show((m:Int)).tmod (c:Int)=((m%c:Nat):Int)from rfl]at this;exact this
theorem xL{x y:Operand}{tt tt':TypeId}{p q:Int}(ho:o.op= .binOp .quo tt x y tt')(hx:s.op x= .sc (.int .i64 p))(hy:s.op y= .sc (.int .i64 q))(hq:0<q/\0<=p/\p/q<=9223372036854775807):bq P o s (.sc (.int .i64 (p/q))):=by
 have h0:0<=p/q:=Int.ediv_nonneg hq.2.1 (Int.le_of_lt hq.1);have:=vN (P:=P) ho hx hy ⟨by omega,by rw[rB hq.2.1];omega,by rw[rB hq.2.1];omega⟩;rwa[rB hq.2.1]at this
end
end DW
end
section
open Go.RowKit
namespace DW
section
variable {P : Program} {X0 : Nat->Prop} {n : Nat} {Q : Exit->S->Prop} {s : S} {sl : List (Nat × D)} {ow : List (Nat × Ow)} {o : Oper} {ops : Array Oper} {l : List Oper} {K : S->Prop} {t : Nat} {d : D}
theorem xo{α:Type}{f:α->D}{m:List α}{z:Int}{j:Nat}{x:α}(hz:z=(j:Int))(h:m[j]?=some x):(m.map f)[z.toNat]?=some (f x):=by rw[hz,Int.toNat_natCast,eg,h];rfl
theorem qW{t wd:Nat}(ht:look sl t= .sc (.slice none 0 0)):Sh X0 n ⟨sl,ow⟩ ⟨(t,.ls wd [])::sl,ow⟩:=zP (s:=⟨sl,ow⟩) ht rfl rfl fun X w v h=>by
 simp only[AR]at h⊢;exact⟨none,0,by rw[h.1];rfl,ai _,.inl trivial⟩
theorem Cx{x:Operand}{tt T:TypeId}{wd k:Nat}{sl':List (Nat×D)}(hg:o.guard=none)(hdst:o.dst=some t)(ht:Nat.blt t n=true)(ho:o.op= .buildSlice tt 1 #[(0,x)])(hx:S.op ⟨sl,ow⟩ x=d)(hf:d.fits=true)(hw:d.wd=wd)(hn:d.nw=true)(htt:P.underlying tt=some (.slice T))(hi:(P.info? T).map (fun i=>(i.zero.isSome,i.size))=some (true,wd))(h0:Nat.blt 0 wd=true)(h1:Nat.ble wd 1000000=true)(hk:ow.all (fun p=>!Nat.beq p.1 k)=true)(hs:kill k sl=sl')
  (h:aL P X0 n ops l K ⟨(t,.own k)::sl',(k,⟨T,wd,[d]⟩)::ow⟩) (hk0:Nat.blt k 1000000=true:=by exact rfl):aL P X0 n ops (o::l) K ⟨sl,ow⟩:=by
 subst hs;subst hw;have h0':0<d.wd:=by simpa[aJ]using h0
 have h1':d.wd<=1000000:=by simpa using h1
 refine iD fun w0 f a w Qx hh=>⟨by simp[Region.wanted,hg],?_⟩;have h2:=hh.op x;rw[hx]at h2;have h2':AR (XO X0 ⟨sl,ow⟩ f) w d (a.eval x):=by cases d<;>first|exact h2|simp[D.fits]at hf
 have hsz:=AR.size d _ hf h2'
 cases hq:P.info? T with
 |none=>rw[hq]at hi;cases hi
 |some inf=>
  rw[hq]at hi;simp only[bX,ah,av]at hi;obtain⟨z,hz1⟩:=bH.1 hi.1;have hfill:=Go.Great.fill_whole (s:=inf.size) aa [a.eval x] ((Array.range (1*inf.size)).map (z.cells[· %z.cells.size]!)) (by intro v hv;rw[cD.1 hv,hsz,hi.2]) aO;have hrun:(execOp a.eval o).run P w= .ok (.value (.slice (some ⟨w.heap.size,0,none⟩) 1 1)) (w.alloc (.cells (a.eval x).cells T)):=by
   unfold execOp;rw[ho];have:=run_buildSlice (P:=P) w tt T 1 #[(0,a.eval x)] (a.eval x).cells inf z htt hq hz1 (by rw[hi.2];omega) (by rw[hi.2];omega) (by
    simpa using hfill)
   simp[Sem.run_bind,this]
  unfold Oper.wp;rw[hrun];simp only[Oper.upon,hdst];refine⟨_,_,hh.new (k:=k) (cap:=1) (q:=⟨T,d.wd,[d]⟩) (sE hk) hk0 h0' (ai _) (by simp[maxLen]) (by simpa using hsz) ⟨a.eval x,[],?_,h2',hf,rfl,hn,rfl⟩ (.inl aO) (by simpa[aJ]using ht) (d:=.own k) (fun X=>?_),h⟩
  ·simp only[eQ,cI,fX];rw[qM (by simp[hsz])]
  ·simp[SR]
end
end DW
end
section
open Go.RowKit Go.BigFrame
attribute [local go_sem ↓] Go.wp_at_zero Go.wp_at_succ
def HV(w:World)(v:Value)(l:List Nat):Prop:=(v= .slice none 0 0/\l=[])\/∃g cap,v= .slice (some ⟨g,0,none⟩) l.length cap/\l.length<=cap/\cap<=9223372036854775807/\g<w.heap.size/\∀(k:Nat) (x:Nat),l[k]?=some x->w.cell? ⟨g,k,none⟩=some (.int .i64 ((x:Int)))
theorem HV.take{w:World}{g cap n:Nat}{l:List Nat}(h:HV w (.slice (some ⟨g,0,none⟩) l.length cap) l)(hn:n<=l.length):HV w (.slice (some ⟨g,0,none⟩) n cap) (l.take n):=by
 rcases h with⟨e,_⟩|⟨g',cap',e,h1,h2,hg,hc⟩
 ·cases e
 ·cases e;refine .inr ⟨g,cap,by rw[bf,dn hn],by rw[bf];omega,h2,hg,fun k x hx=>?_⟩;have hk:k<n:=by have:=(cN.1 hx).1;rw[bf]at this;omega
  rw[kj hk]at hx;exact hc k x hx
end
section
open Go.RowKit Go.BigFrame
attribute [local go_sem ↓] Go.wp_at_zero Go.wp_at_succ
def hw:List Nat->List Nat
 |[]=>[]
 |x::l=>x%65536::x/65536::hw l
end
section
open Go.RowKit Go.BigFrame
attribute [local go_sem ↓] Go.wp_at_zero Go.wp_at_succ
def pk:List Nat->List Nat
 |[]=>[]
 |[x]=>[x]
 |x::y::l=>(x+y*65536)::pk l
end
section
open Go.RowKit
namespace DW
def Hf(z:Int):Prop:=(hd z.natAbs).length<=200000000
theorem Hf.neg{z:Int}(h:Hf z):Hf (-z):=by unfold Hf;rw[Int.natAbs_neg];exact h
set_option maxRecDepth 20000
set_option maxHeartbeats 1000000
end DW
end
section
open Go.RowKit Go.BigFrame
attribute [local go_sem ↓] Go.wp_at_zero Go.wp_at_succ
structure MO(w:World)(B gm L:Nat)(gs cs:Nat->Nat)(n:Nat)(M:Mx.Mat):Prop where
 b:B<=gm
 lt:gm<w.heap.size
 fr:∀k,w.frozen? ⟨gm,k,none⟩=false
 hl:∀i,i<L->∃u,w.cell? ⟨gm,i,none⟩=some u
 nw:NW w gm
 ml:M.length<=L
 rc:Mx.Rc n M
 n0:0<n
 hc:∀i,i<M.length->w.cell? ⟨gm,i,none⟩=some (.slice (some ⟨gs i,0,none⟩) n (cs i))/\n<=cs i/\B<=gs i/\gs i≠gm/\RO w (gs i) (Mx.rw M i)
 dj:∀i j,i<M.length->j<M.length->i≠j->gs i≠gs j
theorem NW.Av{w w':World}{g:Nat}(h:NW w g)(e:w'.cell? ⟨g,0,none⟩=w.cell? ⟨g,0,none⟩):NW w' g:=fun n h2=>h n (e.symm.trans h2)
theorem MO.below{B':Nat}{w w':World}{B gm L:Nat}{gs cs:Nat->Nat}{n:Nat}{M:Mx.Mat}(h:MO w B gm L gs cs n M)(hb:Below B' w w')(hB:w.heap.size<=B'):MO w' B gm L gs cs n M:=by
 have hg:gm<B':=aH h.lt hB;refine⟨h.b,aH h.lt hb.size,fun k=>(hb.frozen (p:=⟨gm,k,none⟩) hg).trans (h.fr k),fun i hi=>?_,h.nw.Av (hb.cell (p:=⟨gm,0,none⟩) hg),h.ml,h.rc,h.n0,fun i hi=>?_,h.dj⟩
 ·obtain⟨u,hu⟩:=h.hl i hi;exact⟨u,(hb.cell (p:=⟨gm,i,none⟩) hg).trans hu⟩
 ·obtain⟨h1,h2,h3,h4,h5⟩:=h.hc i hi;exact⟨(hb.cell (p:=⟨gm,i,none⟩) hg).trans h1,h2,h3,h4,h5.below hb hB⟩
def ix(f:Nat->Nat)(i j:Nat):Nat->Nat:=fun k=>if k=j then f i else if k=i then f j else f k
end
section
open Go.RowKit Go.BigFrame
attribute [local go_sem ↓] Go.wp_at_zero Go.wp_at_succ
def AD(b:Option Addr):Prop:=∃g o,b=some ⟨g,o,none⟩
theorem AD.some(g o:Nat):AD (some ⟨g,o,none⟩):=⟨g,o,rfl⟩
structure MB(w:World)(B gm L:Nat)(gs cs:Nat->Nat)(n:Nat)(M:Mx.Mat):Prop where
 b:B<=gm
 lt:gm<w.heap.size
 fr:∀k,w.frozen? ⟨gm,k,none⟩=false
 hl:∀i,i<L->∃u,w.cell? ⟨gm,i,none⟩=some u
 nw:NW w gm
 ml:M.length<=L
 rc:Mx.Rc n M
 hc:∀i,i<M.length->∃b,w.cell? ⟨gm,i,none⟩=some (.slice b n (cs i))/\n<=cs i/\AD b/\(0<n->b=some ⟨gs i,0,none⟩/\B<=gs i/\gs i≠gm/\RO w (gs i) (Mx.rw M i))
 dj:0<n->∀i j,i<M.length->j<M.length->i≠j->gs i≠gs j
theorem vC(n k:Nat)(hk:k<n):(madeCells #[.slice none 0 0] n)[k]?=some (.slice none 0 0):=by
 unfold madeCells;rw[lp,ll,aB aa];simp[Nat.mod_one]
theorem MB.made(w:World)(B L n:Nat)(gs cs:Nat->Nat)(hB:B<=w.heap.size):MB (w.alloc (.cells (madeCells #[.slice none 0 0] L) 155)) B w.heap.size L gs cs n []:=by
 have hh:=heap_alloc_new w (.cells (madeCells #[.slice none 0 0] L) 155);have hc:∀i,i<L->(w.alloc (.cells (madeCells #[.slice none 0 0] L) 155)).cell? ⟨w.heap.size,i,none⟩=some (.slice none 0 0):=fun i hi=>by
  rw[cell_of_row _ w.heap.size _ _ _ (0,0) hh];exact vC L i hi
 refine⟨hB,by simp,fun k=>?_,fun i hi=>⟨_,hc i hi⟩,fun n e=>?_,aZ _,fun r hr=>by(cases hr),fun i hi=>by(simp at hi),fun _ i j hi=>by(simp at hi)⟩
 ·simp only[World.frozen?];rw[hh];simp
 ·by_cases hL:0<L
  ·rw[hc 0 hL]at e;cases e
  ·rw[cell_of_row _ w.heap.size _ _ _ (0,0) hh]at e;have:L=0:=by omega
   subst this;simp[madeCells]at e
def MR(w:World)(v:Value)(n:Nat)(M:Mx.Mat):Prop:=∃a cap,v= .slice a M.length cap/\M.length<=cap/\Mx.Rc n M/\(M=[]\/∃gm om,a=some ⟨gm,om,none⟩/\gm<w.heap.size/\
 ∀i,i<M.length->∃b c,w.cell? ⟨gm,om+i,none⟩=some (.slice b n c)/\n<=c/\AD b/\(n=0\/∃g o,b=some ⟨g,o,none⟩/\RA w g o (Mx.rw M i)))
end
section
open Go.RowKit Go.BigFrame
attribute [local go_sem ↓] Go.wp_at_zero Go.wp_at_succ
def CI(w:World)(g o:Nat)(l:List IV):Prop:=∀(k:Nat) (x:IV),l[k]?=some x->w.cell? ⟨g,o+k*2,none⟩=some (.bool x.s)/\w.cell? ⟨g,o+k*2+1,none⟩=some (.slice x.a x.n x.cap)
theorem RA.ci{w:World}{g o:Nat}{zs:List Int}(h:RA w g o zs):∃l:List IV,l.length=zs.length/\CI w g o l/\∀(k:Nat) (x:IV) (z:Int),l[k]?=some x->zs[k]?=some z->IZ w x z:=by
 have key:∀k:Nat,∃x:IV,∀z,zs[k]?=some z->w.cell? ⟨g,o+k*2,none⟩=some (.bool x.s)/\w.cell? ⟨g,o+k*2+1,none⟩=some (.slice x.a x.n x.cap)/\IZ w x z:=fun k=>by
  cases e:zs[k]? with
  |none=>exact⟨⟨false,none,0,0⟩,fun z h=>by cases h⟩
  |some z=>
   obtain⟨x,hx⟩:=h.c k z e;exact⟨x,fun z' hz'=>by cases hz';exact hx⟩
 obtain⟨f,hf⟩:=Classical.axiomOfChoice key;have hget:∀(k:Nat) (x:IV),((List.range zs.length).map f)[k]?=some x->k<zs.length/\x=f k:=fun k x hx=>by
  rw[eg]at hx;by_cases hk:k<zs.length
  ·rw[List.getElem?_range hk]at hx;simp at hx;exact⟨hk,hx.symm⟩
  ·rw[qJ fq]at hx;cases hx
 refine⟨(List.range zs.length).map f,by simp,fun k x hx=>?_,fun k x z hx hz=>?_⟩
 ·obtain⟨hk,rfl⟩:=hget k x hx;have:=hf k _ (getD_some hk);exact⟨this.1,this.2.1⟩
 ·obtain⟨hk,rfl⟩:=hget k x hx;exact(hf k z hz).2.2
theorem CI.below{B:Nat}{w w':World}{g o:Nat}{l:List IV}(h:CI w g o l)(hb:Below B w w')(hg:g<B):CI w' g o l:=fun k x hx=>
 ⟨(hb.cell (p:=⟨g,_,none⟩) hg).trans (h k x hx).1,(hb.cell (p:=⟨g,_,none⟩) hg).trans (h k x hx).2⟩
def RV(w:World)(v:Value)(n:Nat)(zs:List Int):Prop:=∃b c,v= .slice b n c/\n<=c/\zs.length=n/\AD b/\(n=0\/∃g o,b=some ⟨g,o,none⟩/\RA w g o zs)
theorem run_eql_slice_nil{P:Program}(w:World)(t e:TypeId)(a:Option Addr)(l c:Nat)(h:P.underlying t=some (.slice e)):(binOp .eql t (.slice a l c) (.slice none 0 0)).run P w= .ok (.bool a.isNone) w:=by
 simp only[binOp];simp[run_equal_slice_nil w t e a l c h]
@[go_sem] theorem eql_row (a : Option Addr) (l c : Nat) (w : World) : (binOp .eql 155 (.slice a l c) (.slice none 0 0)).run Tryz.prog w = .ok (.bool a.isNone) w:=run_eql_slice_nil w _ _ a l c Tryz.underlying155
end
section
open Go.RowKit Go.BigFrame
attribute [local go_sem ↓] Go.wp_at_zero Go.wp_at_succ
theorem wpList_append_run{P:Program}{w w':World}{ops:Array Oper}{rest:List Oper}{o:Oper}{a:Act}{Q:Exit->Act->World->Prop}(hgd:o.guard=none)(s x:Operand)(t tx:TypeId)
  (ho:o.op= .call {callee:=.builtin .append,args:=#[s,x],argTypes:=#[t,tx]}) (v':Value) (hr:(Builtin.append_ #[t,tx] o.type #[a.eval s,a.eval x]).run P w= .ok v' w')
  (h:wpList P ops Q rest (a.put o.dst v') w'):wpList P ops Q (o::rest) a w:=by
 refine wpList_plain hgd fun K hK=>?_;unfold Oper.wp execOp;simp only[ho,resolve,invoke,builtin,Sem.run_bind,Sem.run_pure,Result.andThen_ok,ko,eh,eZ,hr];exact hK _ _ h
theorem RV.get{w:World}{v:Value}{n:Nat}{zs:List Int}(h:RV w v n zs):∃g o c l,v= .slice (some ⟨g,o,none⟩) n c/\n<=c/\zs.length=n/\l.length=n/\(∀W,Below w.heap.size w W->CI W g o l)/\∀W,Below w.heap.size w W->∀(k:Nat) (x:IV) (z:Int),l[k]?=some x->zs[k]?=some z->IZ W x z:=by
 obtain⟨b,c,h1,h2,h3,⟨g,o,rfl⟩,h4⟩:=h;rcases h4 with h4|⟨g',o',e,h5⟩
 ·exact⟨g,o,c,[],h1,h2,h3,by rw[h4];rfl,fun W _ k x hx=>by(simp at hx),fun W _ k x z hx=>by(simp at hx)⟩
 ·cases e;obtain⟨l,h6,h7,h8⟩:=h5.ci;exact⟨g,o,c,l,h1,h2,h3,h6.trans h3,fun W hW=>h7.below hW h5.lt,fun W hW k x z hx hz=>(h8 k x z hx hz).below hW (ai _)⟩
end
section
open Go.RowKit Go.BigFrame
attribute [local go_sem ↓] Go.wp_at_zero Go.wp_at_succ
structure R1(w wr:World)(B gm L n m:Nat)(gs cs:Nat->Nat)(M:Mx.Mat):Prop where
 mo:MO wr B gm L gs cs n M
 bl:Below B w wr
 len:M.length=m
theorem R1.ext{w wr wx:World}{B gm L n m:Nat}{gs cs:Nat->Nat}{M:Mx.Mat}(h:R1 w wr B gm L n m gs cs M)(hB:B<=wr.heap.size)(k:Below wr.heap.size wr wx):R1 w wx B gm L n m gs cs M:=
 ⟨h.mo.below k (ai _),h.bl.trans (k.mono hB),h.len⟩
end
section
open Go.RowKit Go.BigFrame
attribute [local go_sem ↓] Go.wp_at_zero Go.wp_at_succ
theorem MR.row{w:World}{v:Value}{n:Nat}{M:Mx.Mat}(h:MR w v n M):∃a cap,v= .slice a M.length cap/\M.length<=cap/\Mx.Rc n M/\(M=[]\/∃gm om,a=some ⟨gm,om,none⟩/\gm<w.heap.size/\
  ∀i,i<M.length->∃b c,w.cell? ⟨gm,om+i,none⟩=some (.slice b n c)/\RV w (.slice b n c) n (Mx.rw M i)):=by
 obtain⟨a,cap,h1,h2,h3,h4⟩:=h;refine⟨a,cap,h1,h2,h3,?_⟩;rcases h4 with h4|⟨gm,om,e,hg,h5⟩
 ·exact .inl h4
 ·refine .inr ⟨gm,om,e,hg,fun i hi=>?_⟩;obtain⟨b,c,k1,k2,kA,k3⟩:=h5 i hi;exact⟨b,c,k1,b,c,rfl,k2,h3.rw hi,kA,k3⟩
end
section
open Go.RowKit Go.BigFrame
attribute [local go_sem ↓] Go.wp_at_zero Go.wp_at_succ
def bQ(w:World)(base:Nat)(T:TypeId)(v:Value)(l:List Value):Prop:=w.ownsRow base T 1 v l.length l
theorem bQ.nil(w:World)(base:Nat)(T:TypeId):bQ w base T (.slice none 0 0) []:=⟨by simp,.inl ⟨rfl,rfl⟩⟩
theorem bQ.low{W W':World}{base:Nat}{T:TypeId}{v:Value}{l:List Value}(h:bQ W base T v l)(hb:Below W.heap.size W W'):bQ W' base T v l:=
 World.ownsRow.kept (row:=none) h ⟨hb.os,hb.tape,hb.output,hb.size,fun k hk _=>hb.block k hk⟩ (by cases v.ownBlock<;>simp)
structure mg(w w':World)(base:Nat)(T:TypeId)(v v':Value)(l:List Value)(u:Value):Prop where
 own:bQ w' base T v' (l++[u])
 by':w.grownBy w' v.ownBlock
 at':v'.ownBlock=v.ownBlock\/v'.ownBlock=some w.heap.size
theorem mg.below{w0 w w':World}{base:Nat}{T:TypeId}{v v':Value}{l:List Value}{u:Value}(h:mg w w' base T v v' l u)(hown:bQ w base T v l)(hB:Below base w0 w)(hbase:base<=w.heap.size):Below base w0 w':=
 hB.grown h.by' hbase fun k hk=>(hown.lt k hk).1
theorem jV{P:Program}{w:World}{base:Nat}{T t ty:TypeId}{z:Value}{bytes:Nat}(hI:(P.info? T).map (fun i=>(i.zero,i.size,i.bytes))=some (some z,1,bytes))(hz1:z.cells.size=1)(hby:bytes<=64)(ht:P.underlying t=some (.slice T))
  {v u:Value} {l:List Value} (hown:bQ w base T v l) (hl:l.length<=1000000000) (hbase:base<=w.heap.size) (a:Addr) (c:Nat) (hc:w.cell? a=some u) (h1:u.oneCell'=true):
  ∃v' w',(Builtin.append_ #[t,t] ty #[v, .slice (some a) 1 c]).run P w= .ok v' w'/\mg w w' base T v v' l u:=by
 obtain⟨i0,hi0,hz0,hzs,hzb⟩:=jG hI;have hnews:∀j x,[u][j]?=some x->w.cell? (a.add j)=some x:=fun j x hx=>by
  match j with
  |0=>
   simp at hx;subst hx;have:a.add 0=a:=by
    obtain⟨b,o,p⟩:=a;cases p<;>simp[Addr.add]
   rw[this];exact hc
  |j+1=>simp at hx
 obtain⟨v',w',hr,h2,h3,_,h5⟩:=run_append_own_at (P:=P) w base t ty T i0 z 1 bytes ht hi0 hz0 hzs hzb hz1 aa v l.length l hown a 1 c [u] aO hnews (by intro x hx;rw[cD.1 hx];exact h1)
  (by simp only [maxLen]; omega) (by have : (l.length + 1) * bytes <= 1000000001 * 64 := bF (by omega) hby
                                     omega) hbase
 exact⟨v',w',hr,by unfold bQ;rw[bK];exact h2,h3,h5⟩
theorem oG{P:Program}{ops:Array Oper}{o:Oper}{a:Act}{w w':World}{K:Act->World->Prop}{Q:Exit->Act->World->Prop}{E:Prop}(hgd:o.guard=none)(s x:Operand)(t tx:TypeId)
  (ho:o.op= .call {callee:=.builtin .append,args:=#[s,x],argTypes:=#[t,tx]}) (v':Value) (hr:(Builtin.append_ #[t,tx] o.type #[a.eval s,a.eval x]).run P w= .ok v' w')
  (hK:K (a.put o.dst v') w'):if Region.wanted o (yielded ops a.tmps)=true then Oper.wp P o a w K Q else E:=by
 have hw:Region.wanted o (yielded ops a.tmps)=true:=by simp[Region.wanted,hgd]
 rw[aB hw];unfold Oper.wp execOp;simp only[ho,resolve,invoke,builtin,Sem.run_bind,Sem.run_pure,Result.andThen_ok,ko,eh,eZ,hr];exact hK
theorem jh{P:Program}{ops:Array Oper}{o:Oper}{a:Act}{w:World}{K:Act->World->Prop}{Q:Exit->Act->World->Prop}{E:Prop}{base:Nat}{T t:TypeId}{z:Value}{bytes:Nat}(hI:(P.info? T).map (fun i=>(i.zero,i.size,i.bytes))=some (some z,1,bytes))(hz1:z.cells.size=1)(hby:bytes<=64)(ht:P.underlying t=some (.slice T))
  (hgd:o.guard=none) (s x:Operand) (ho:o.op= .call {callee:=.builtin .append,args:=#[s,x],argTypes:=#[t,t]}) {v u:Value} {l:List Value} {ad:Addr} {c:Nat} (hs:a.eval s=v) (hx:a.eval x= .slice (some ad) 1 c)
  (hown:bQ w base T v l) (hl:l.length<=1000000000) (hbase:base<=w.heap.size) (hc:w.cell? ad=some u) (h1:u.oneCell'=true)
  (hK:∀v' w',mg w w' base T v v' l u->K (a.put o.dst v') w'):if Region.wanted o (yielded ops a.tmps)=true then Oper.wp P o a w K Q else E:=by
 obtain⟨v',w',hr,hg⟩:=jV (ty:=o.type) hI hz1 hby ht hown hl hbase ad c hc h1;exact oG hgd s x t t ho v' (by rw[hs,hx];exact hr) (hK v' w' hg)
theorem mV{P:Program}{ops:Array Oper}{rest:List Oper}{o:Oper}{a:Act}{w:World}{Q:Exit->Act->World->Prop}{base:Nat}{T t:TypeId}{z:Value}{bytes:Nat}(hI:(P.info? T).map (fun i=>(i.zero,i.size,i.bytes))=some (some z,1,bytes))(hz1:z.cells.size=1)(hby:bytes<=64)(ht:P.underlying t=some (.slice T))
  (hgd:o.guard=none) (s x:Operand) (ho:o.op= .call {callee:=.builtin .append,args:=#[s,x],argTypes:=#[t,t]}) {v u:Value} {l:List Value} {ad:Addr} {c:Nat} (hs:a.eval s=v) (hx:a.eval x= .slice (some ad) 1 c)
  (hown:bQ w base T v l) (hl:l.length<=1000000000) (hbase:base<=w.heap.size) (hc:w.cell? ad=some u) (h1:u.oneCell'=true)
  (hK:∀v' w',mg w w' base T v v' l u->wpList P ops Q rest (a.put o.dst v') w'):wpList P ops Q (o::rest) a w:=by
 obtain⟨v',w',hr,hg⟩:=jV (ty:=o.type) hI hz1 hby ht hown hl hbase ad c hc h1;exact wpList_append_run hgd s x t t ho v' (by rw[hs,hx];exact hr) (hK v' w' hg)
structure Two(w0 wr w6:World)(base:Nat)(T:TypeId)(v:Value)(l:List Value)(v2:Value)(l2:List Value):Prop where
 bl:Below base w0 w6
 a:bQ w6 base T v l
 b:bQ w6 base T v2 l2
 ap:v2.ownBlock=none\/v2.ownBlock≠v.ownBlock
 sz:wr.heap.size<=w6.heap.size
theorem jY{w:World}{base:Nat}{T:TypeId}{v:Value}{l:List Value}(h:bQ w base T v l){b:Nat}(hb:v.ownBlock=some b):b<w.heap.size:=(World.ownsRow.lt h b hb).2
theorem Two.symm{w0 wr w6:World}{base:Nat}{T:TypeId}{v v2:Value}{l l2:List Value}(h:Two w0 wr w6 base T v l v2 l2):Two w0 wr w6 base T v2 l2 v l:=
 ⟨h.bl,h.b,h.a,by
  rcases h.ap with e|e
  ·cases e2:v.ownBlock with
   |none=>exact .inl rfl
   |some b=>right;rw[e];intro e3;cases e3
  ·exact .inr (Ne.symm e),h.sz⟩
def tk(n:Nat)(M:Mx.Mat):Mx.Mat:=M.map (List.take n)
theorem RA.take{w:World}{g o:Nat}{zs:List Int}(h:RA w g o zs)(n:Nat):RA w g o (zs.take n):=⟨h.lt,fun k z hz=>h.c k z (by
 rw[gP]at hz;split at hz
 ·exact hz
 ·cases hz)⟩
theorem RA.drop{w:World}{g o:Nat}{zs:List Int}(h:RA w g o zs)(n:Nat):RA w g (o+n*2) (zs.drop n):=⟨h.lt,fun k z hz=>by
 rw[gV]at hz;have:=h.c (n+k) z hz;rwa[show o+(n+k)*2=o+n*2+k*2 by omega]at this⟩
end
section
open Go.RowKit Go.BigFrame
attribute [local go_sem ↓] Go.wp_at_zero Go.wp_at_succ
instance decI64 (z:Int):Decidable (I64 z):=by unfold I64;exact inferInstance
def smv(z:Int):Int:=if I64 z then z else 0
theorem BP(a b:Nat)(h:b<4294967296):(a*4294967296)|||b=a*4294967296+b:=by
 have:=uU (i:=32) (b:=b) h a;rw[show(2:Nat)^32=4294967296 from rfl,aK]at this;exact this.symm
theorem BA{l:List Nat}(h:l.length<=2):Dg.vl B32 l=l.getD 1 0*4294967296+l.getD 0 0:=by
 match l with
 |[]=>rfl
 |[x]=>simp[Dg.vl]
 |[x,y]=>simp[Dg.vl,B32,fe,aK]
 |x::y::z::l=>simp at h
theorem wM{z:Int}(h:I64 z):smv z=z:=aB h
theorem pO{z:Int}(h:¬I64 z):smv z=0:=an h
theorem xJ{z:Int}(h:I64 z):decide (I64 z)=true:=by rw[ei];exact h
theorem qf{z:Int}(h:¬I64 z):decide (I64 z)=false:=by rw[db];exact h
def Cy(w:World)(z:Int)(e:Ending)(w':World):Prop:=e= .returned (.tuple #[.int .i64 (smv z),.bool (decide (I64 z))])/\Below w.heap.size w w'
set_option maxRecDepth 10000 in
set_option maxHeartbeats 8000000 in
theorem wN(x:IV)(z:Int)(fz:Fit z)(w:World)(hx:IP w x z):
  Calls Tryz.prog 251 #[.agg #[.bool x.s,.slice x.a x.n x.cap]] w (Cy w z):=by
 obtain⟨l,h1,rfl⟩:=hx;have bl:=dv h1.nf fz;have S1:=af (fun w (h:IW w x l)=>di x l aa w h);have AT:=af (fun i (hi:i<=10) w h=>mf l x.a l.length i aa aa h1.nf.dg w h);have H1:=af h1;by_cases hl:l.length<=2
 ·have hv:=BA hl;have d0:l.getD 0 0<4294967296:=Dg.aV h1.nf.dg aA 0;have d1:l.getD 1 0<4294967296:=Dg.aV h1.nf.dg aA 1;have A0:Hid (∀w,WS w x.a l->Calls Tryz.prog 323 #[.slice x.a l.length l.length,.int .i64 0] w fun e w'=>e= .returned (.int .u64 ((l.getD 0 0:Nat):Int))/\w'=w):=AT.out 0 aa;have A1:Hid (∀w,WS w x.a l->Calls Tryz.prog 323 #[.slice x.a l.length l.length,.int .i64 1] w fun e w'=>e= .returned (.int .u64 ((l.getD 1 0:Nat):Int))/\w'=w):=AT.out 1 aa;have HLL:=af hl;obtain⟨s,a,n,cap⟩:=x;simp only[]at S1 A0 A1⊢;generalize l.getD 0 0=x0 at*;generalize l.getD 1 0=x1 at*;rw[hv];generalize hN:x1*4294967296+x0=N;obtain⟨sh,hsh⟩:∃sh,sh=x1*4294967296:=⟨_,rfl⟩;have e1:IntKind.u64.wrap ((x1:Int)*4294967296)=(sh:Int):=by rw[cJ,hsh];omega
  have e2:bits .or .u64 (sh:Int) (x0:Int)=(N:Int):=by rw[u64_or_nat sh x0 aa aa,hsh,BP x1 x0 d0,hN]
  have hl3:¬(2:Int)<(l.length:Int):=by omega
  have hl4:decide ((2:Int)<(l.length:Int))=false:=by rw[db];exact hl3
  have hN2:(N:Int)<18446744073709551616:=by omega
  have hlI:(l.length:Int)<=2:=by omega
  generalize hL:l.length=q at*;clear h1 hv bl d0 d1 AT hsh hN;cases s
  ·have hz:Dg.iv false N=(N:Int):=by simp[Dg.iv]
   by_cases hs:N<9223372036854775808
   ·have t1:(N:Int)<9223372036854775808:=by omega
    have t2:decide ((N:Int)<9223372036854775808)=true:=by rw[ei];exact t1
    have HI:Hid (I64 (Dg.iv false N)):=by show I64 _;rw[hz];unfold I64;omega
    have HZ:=af hz;clear hs hz
    go_enter Tryz.func251,Tryz.ntmps251
    go_wp2_with (first|(go_at_call 246;(with_reducible refine(S1.out _ ?_).mono ?_);(exact H1.out.below (B:=w.heap.size) az (ai _));rintro e w1 ⟨rfl,hb1⟩;obtain⟨g1,rfl⟩:=mob hb1;clear hb1)|(go_at_call 323;(first|(with_reducible refine(A0.out _ ?_).mono ?_)|(with_reducible refine(A1.out _ ?_).mono ?_));(exact H1.out.ws.below (B:=w.heap.size) az (ai _));rintro e w2 ⟨rfl,rfl⟩))
    refine bodyPost_ret (v:=.tuple #[.int .i64 ((N:Int)),.bool true]) rl rfl ⟨?_,by exact bel⟩;rw[wM HI.out,xJ HI.out,HZ.out]
   ·have t1:¬(N:Int)<9223372036854775808:=by omega
    have t2:decide ((N:Int)<9223372036854775808)=false:=by rw[db];exact t1
    have HI:Hid (¬I64 (Dg.iv false N)):=by show¬I64 _;rw[hz];unfold I64;omega
    clear hs hz
    go_enter Tryz.func251,Tryz.ntmps251
    go_wp2_with (first|(go_at_call 246;(with_reducible refine(S1.out _ ?_).mono ?_);(exact H1.out.below (B:=w.heap.size) az (ai _));rintro e w1 ⟨rfl,hb1⟩;obtain⟨g1,rfl⟩:=mob hb1;clear hb1)|(go_at_call 323;(first|(with_reducible refine(A0.out _ ?_).mono ?_)|(with_reducible refine(A1.out _ ?_).mono ?_));(exact H1.out.ws.below (B:=w.heap.size) az (ai _));rintro e w2 ⟨rfl,rfl⟩))
    refine bodyPost_ret (v:=.tuple #[.int .i64 (0),.bool false]) rl rfl ⟨?_,by exact bel⟩;rw[pO HI.out,qf HI.out]
  ·have hz:Dg.iv true N= -(N:Int):=by simp[Dg.iv]
   by_cases hs:N<=9223372036854775808
   ·have t1:(N:Int)<=9223372036854775808:=by omega
    have t2:decide ((N:Int)<=9223372036854775808)=true:=by rw[ei];exact t1
    have HI:Hid (I64 (Dg.iv true N)):=by show I64 _;rw[hz];unfold I64;omega
    have HZ:=af hz;obtain⟨u,hu⟩:∃u:Int,u=(-(N:Int))%18446744073709551616:=⟨_,rfl⟩;have e3:IntKind.u64.wrap (-(N:Int))=u:=by rw[cJ,hu]
    have e4:IntKind.i64.wrap u= -(N:Int):=by rw[hu,IntKind.wrap_i64];omega
    clear hs hz hu
    go_enter Tryz.func251,Tryz.ntmps251
    go_wp2_with (first|(go_at_call 246;(with_reducible refine(S1.out _ ?_).mono ?_);(exact H1.out.below (B:=w.heap.size) az (ai _));rintro e w1 ⟨rfl,hb1⟩;obtain⟨g1,rfl⟩:=mob hb1;clear hb1)|(go_at_call 323;(first|(with_reducible refine(A0.out _ ?_).mono ?_)|(with_reducible refine(A1.out _ ?_).mono ?_));(exact H1.out.ws.below (B:=w.heap.size) az (ai _));rintro e w2 ⟨rfl,rfl⟩))
    refine bodyPost_ret (v:=.tuple #[.int .i64 ((-(N:Int))),.bool true]) rl rfl ⟨?_,by exact bel⟩;rw[wM HI.out,xJ HI.out,HZ.out]
   ·have t1:¬(N:Int)<=9223372036854775808:=by omega
    have t2:decide ((N:Int)<=9223372036854775808)=false:=by rw[db];exact t1
    have HI:Hid (¬I64 (Dg.iv true N)):=by show¬I64 _;rw[hz];unfold I64;omega
    clear hs hz
    go_enter Tryz.func251,Tryz.ntmps251
    go_wp2_with (first|(go_at_call 246;(with_reducible refine(S1.out _ ?_).mono ?_);(exact H1.out.below (B:=w.heap.size) az (ai _));rintro e w1 ⟨rfl,hb1⟩;obtain⟨g1,rfl⟩:=mob hb1;clear hb1)|(go_at_call 323;(first|(with_reducible refine(A0.out _ ?_).mono ?_)|(with_reducible refine(A1.out _ ?_).mono ?_));(exact H1.out.ws.below (B:=w.heap.size) az (ai _));rintro e w2 ⟨rfl,rfl⟩))
    refine bodyPost_ret (v:=.tuple #[.int .i64 (0),.bool false]) rl rfl ⟨?_,by exact bel⟩;rw[pO HI.out,qf HI.out]
 ·have hlen:2<l.length:=by omega
  have hbig:18446744073709551616<=Dg.vl B32 l:=by
   obtain⟨m,hm⟩:∃m,l.length=m+1:=⟨l.length-1,by omega⟩;have k1:=Dg.jq hm h1.nf;have k2:B32^2<=B32^m:=cv aA aa;have k3:B32^2=18446744073709551616:=by decide
   omega
  have HI:Hid (¬I64 (Dg.iv x.s (Dg.vl B32 l))):=by
   intro h;have h2:=Dg.hH x.s (Dg.vl B32 l);unfold I64 at h;omega
  have hl3:(2:Int)<(l.length:Int):=by omega
  have hl4:decide ((2:Int)<(l.length:Int))=true:=by rw[ei];exact hl3
  obtain⟨s,a,n,cap⟩:=x;simp only[]at S1 HI⊢;generalize Dg.iv s (Dg.vl B32 l)=z at*;generalize hL:l.length=q at*;clear h1 bl AT hL hbig hl hlen
  go_enter Tryz.func251,Tryz.ntmps251
  go_wp2_with (go_at_call 246;(with_reducible refine(S1.out _ ?_).mono ?_);(exact H1.out.below (B:=w.heap.size) az (ai _));rintro e w1 ⟨rfl,hb1⟩;obtain⟨g1,rfl⟩:=mob hb1;clear hb1)
  refine bodyPost_ret (v:=.tuple #[.int .i64 (0),.bool false]) rl rfl ⟨?_,by exact bel⟩;rw[pO HI.out,qf HI.out]
end
section
open Go.RowKit Go.BigFrame
attribute [local go_sem ↓] Go.wp_at_zero Go.wp_at_succ
structure IO'(w:World)(g:Nat)(zs:List Int):Prop where
 lt:g<w.heap.size
 c:∀(k:Nat) (z:Int),zs[k]?=some z->w.cell? ⟨g,k,none⟩=some (.int .i64 z)
 fr:∀k,w.frozen? ⟨g,k,none⟩=false
theorem IO'.z{w:World}{g:Nat}{zs:List Int}(h:IO' w g zs):ZAt w (some ⟨g,0,none⟩) zs:=
 .inr ⟨⟨g,0,none⟩,rfl,h.lt,fun k x hx=>by
  have e:(⟨g,0,none⟩:Addr).add k=⟨g,k,none⟩:=by unfold Addr.add;split<;>simp_all
  rw[e];exact h.c k x hx⟩
theorem nI:(Tryz.prog.info? 3).map (fun i=>(i.zero,i.size,i.bytes))=some (some (.int .i64 0),1,8):=by kernel_rfl
theorem IO'.made(w:World)(n:Nat):IO' (w.alloc (.cells (madeCells #[.int .i64 0] n) 3)) w.heap.size (List.replicate n 0):=by
 have hh:=heap_alloc_new w (.cells (madeCells #[.int .i64 0] n) 3);refine⟨by simp,fun k z hz=>?_,fun k=>?_⟩
 ·rw[nZ]at hz;split at hz
  ·cases hz;rw[cell_of_row _ w.heap.size _ _ _ (0,0) hh];unfold madeCells;rw[lp,ll,aB aa];simp[Nat.mod_one]
  ·cases hz
 ·simp only[World.frozen?];rw[hh];simp
theorem yv:(Tryz.prog.info? 45).map (fun i=>(i.zero,i.size,i.bytes))=some (some (.slice none 0 0),1,24):=by kernel_rfl
end
section
open Go.RowKit Go.BigFrame
attribute [local go_sem ↓] Go.wp_at_zero Go.wp_at_succ
def zR(W0 wr:World)(b:Nat)(z:Int):Prop:=Chg b W0 wr/\(∀k,wr.frozen? ⟨b,k,none⟩=false)/\b<wr.heap.size/\∃y:IV,wr.cell? ⟨b,0,none⟩=some (.bool y.s)/\wr.cell? ⟨b,1,none⟩=some (.slice y.a y.n y.cap)/\IZ wr y z
theorem zR.nw{W0 w:World}{b:Nat}{z:Int}(h:zR W0 w b z):NW w b:=fun n e=>by
 obtain⟨_,_,_,y,h4,_⟩:=h;rw[h4]at e;cases e
end
section
open Go.RowKit Go.BigFrame
attribute [local go_sem ↓] Go.wp_at_zero Go.wp_at_succ
theorem RO.zero(w:World)(n:Nat):RO (w.alloc (.cells (madeCells #[.bool false,.slice none 0 0] (n*2)) 69)) w.heap.size (List.replicate n 0):=⟨_,RI.made w n⟩
end
section
open Go.RowKit Go.BigFrame
attribute [local go_sem ↓] Go.wp_at_zero Go.wp_at_succ
def wid(m:List (List Int)):Nat:=(m.headD []).length
def zQ{α:Type}(p:α->Bool)(l:List α)(r:Int):Prop:=(r= -1/\∀x∈l,p x=false)\/∃(k:Nat) (x:α),r=k/\l[k]?=some x/\p x=true/\∀j y,j<k->l[j]?=some y->p y=false
theorem zQ.any{α:Type}{p:α->Bool}{l:List α}{r:Int}(h:zQ p l r):decide (0<=r)=l.any p:=by
 rcases h with⟨rfl,h⟩|⟨k,x,rfl,h1,h2,_⟩
 ·symm;rw[show decide ((0:Int)<=-1)=false from rfl,List.any_eq_false];exact fun x hx=>by rw[h x hx];simp
 ·rw[show l.any p=true from List.any_eq_true.2 ⟨x,eN h1,h2⟩];simp
end
section
open Go.RowKit
namespace DW
theorem eR{α:Type}{m:List α}{k:Nat}{x:α}(h:m[k]?=some x):m.take (k+1)=m.take k++[x]:=by rw[qN,h];rfl
theorem get_some{α:Type}{m:List α}{k:Nat}(h:k<m.length):∃x,m[k]?=some x:=⟨_,aP h⟩
set_option maxRecDepth 20000
set_option maxHeartbeats 1000000
theorem gC(z a b:Int):Fn Tryz.prog 29 [zI z,zI a,zI b] (.sc (.bool (decide (a<=z)&&decide (z<=b)))):=by
 refine cR Tryz.func29 aD rfl rfl rfl fun X0=>?_;simp only[bC];by_cases h:z>=a
 ·rw[show(decide (a<=z)&&decide (z<=b))=decide (z<=b) by rw[aF h,ou]];have hd:decide (z>=a)=true:=aF h;refine ij ?_;refine zs70 ?_;refine zs1 ?_;exact⟨_,Sh.refl,.one (.tmp 6) _ rfl (.tmp 6 rfl)⟩
 ·rw[show(decide (a<=z)&&decide (z<=b))=false by rw[aN h,Bool.false_and]];have hd:decide (z>=a)=false:=aN h;refine ij ?_;refine zs70 ?_;refine zs1 ?_;exact⟨_,Sh.refl,.one (.tmp 6) _ rfl (.tmp 6 rfl)⟩
end DW
end
section
open Go.ChangeShapes Go.WideShapes Go.ChangeAt Go.RowKit Go.Joins Go.Deep
theorem own:ownKnob Tryz.prog.godebug=none:=by kernel_rfl
theorem laidOut:laidOutB Tryz.prog=true:=by kernel_rfl
namespace DW
end DW
end
section
open Go.RowKit
namespace CI
inductive C where
 |any
 |sc (v:Value)
 |nm (z:Int)
 |sl (k off n c:Nat) (x:Bool)
 |pt (k off:Nat)
 |fn (f:FuncId) (caps:List C)
 |ag (l:List C)
 |tp (l:List C)
 |yl (k:Nat)
 |em
 deriving Inhabited
inductive T(α:Type) where
 |e
 |n (v:Option α) (l r:T α)
def T.get{α:Type}:T α->Nat->Option α
 | .e,_=>none
 | .n v l r,k=>match k with
  |0=>v
  |k+1=>match k%2 with
   |0=>l.get (k/2)
   |_+1=>r.get (k/2)
def T.mkL{α:Type}(t:T α)(v:Option α)(r:T α):T α:=match t with
 | .e=>.n v .e r
 | .n a b c=>.n v (.n a b c) r
def T.mkR{α:Type}(t:T α)(v:Option α)(l:T α):T α:=match t with
 | .e=>.n v l .e
 | .n a b c=>.n v l (.n a b c)
def T.put{α:Type}:Nat->T α->Nat->Option α->T α
 |0,t,_,_=>t
 |f+1,t,k,x=>
  match t with
  | .e=>match k with
   |0=>.n x .e .e
   |k+1=>match k%2 with
    |0=>(put f .e (k/2) x).mkL none .e
    |_+1=>(put f .e (k/2) x).mkR none .e
  | .n v l r=>match k with
   |0=>.n x l r
   |k+1=>match k%2 with
    |0=>(put f l (k/2) x).mkL v r
    |_+1=>(put f r (k/2) x).mkR v l
inductive CO where
 |t (n:Nat)
 |c (x:C)
 deriving Inhabited
inductive X where
 |mv (x:CO)
 |pick (c a b:CO)
 |alloc (T:Nat) (z:List C)
 |box (T:Nat) (x:CO)
 |build (z:List C) (ps:List (Nat×Nat×CO))
 |bsl (T w len:Nat) (z:List C) (ps:List (Nat×Nat×CO))
 |load (row:Bool) (w:Nat) (x:CO)
 |store (w:Nat) (a x:CO)
 |bin (op:BinOp) (x y:CO)
 |beq (ng:Bool) (x y:CO)
 |snil (ng:Bool) (x y:CO)
 |un (op:UnOp) (x:CO)
 |conv (k:IntKind) (x:CO)
 |mkf (f:FuncId) (cs:List CO)
 |mks (T w bytes:Nat) (z:List C) (l c:CO)
 |slc (w:Nat) (x:CO) (lo hi mx:Option CO)
 |fa (off:Nat) (x:CO)
 |fd (row:Bool) (off w:Nat) (x:CO)
 |ia (w:Nat) (len:Option Nat) (x i:CO)
 |ix (row:Bool) (w len:Nat) (x i:CO)
 |sx (x i:CO)
 |ext (x:CO) (i:Nat)
 |nc (x:CO)
 |len (str:Bool) (x:CO)
 |mnx (gt:Bool) (x y:CO)
 |app (T w:Nat) (x y:CO)
 |appz (T:Nat) (z:List C) (x n:CO)
 |cap (x:CO)
 |clr (w:Nat) (z:List C) (x:CO)
 |bad
 |cal (f:CO) (args:List CO)
 deriving Inhabited
structure RO where
 dst:Option Nat
 g:Option (Nat×Bool)
 x:X
 pre:Nat
 deriving Inhabited
inductive CC where
 |skip
 |ret
 |exit (id:Nat)
 |seq (a b:CC)
 |cond (c:CO) (a b:CC)
 |block (id:Nat) (c:CC)
 |loop (c:CC)
 |rng (f:CO) (ps:List Nat) (assign body:CC)
 |reg (draw:Bool) (ops:List RO)
 deriving Inhabited
inductive Ex where
 |norm
 |ret
 |exit (id:Nat)
 deriving Inhabited
inductive LS where|ready|busy|done|lJ
inductive B where
 |cells (T:Nat) (l:List C)
 |loop (st:LS) (pend:Ex) (tm:T C) (ps:List Nat) (assign body:CC) (defers:Nat)
 |defd (isOpen:Bool)
structure H where
 next:Nat
 low:Nat
 forb:List (Nat×Nat)
 t:T B
def aR(k:Nat):List (Nat×Nat)->Bool
 |[]=>false
 |(a,b)::l=>match Nat.ble a k with
  |true=>match Nat.blt k b with
   |true=>true
   |false=>aR k l
  |false=>aR k l
def H.get(h:H)(k:Nat):Option B:=
 match aR k h.forb with
 |true=>none
 |false=>h.t.get k
def H.set(h:H)(k:Nat)(b:Option B):H:=⟨h.next,(match Nat.blt k h.low with|true=>k|false=>h.low),h.forb,T.put 24 h.t k b⟩
def H.new(h:H)(b:B):Option H:=match Nat.blt h.next 1000000 with
 |true=>some ⟨h.next+1,h.low,h.forb,T.put 24 h.t h.next (some b)⟩
 |false=>none
def C.wid:C->Nat
 | .nm _=>2
 | .sc _=>1
 | .sl ..=>1
 | .pt ..=>1
 | .fn ..=>1
 | .yl _=>1
 |_=>0
def ly:List C->Nat
 |[]=>0
 |c::l=>c.wid+ly l
def C.okP:C->Bool
 | .nm _=>true
 | .sc (.int .u32 _)=>false
 | .sc _=>true
 | .sl ..=>true
 | .pt ..=>true
 | .fn ..=>true
 | .yl _=>true
 |_=>false
def C.flat:C->Option (List C)
 | .ag l=>some l
 |c=>match c.okP with|true=>some [c]|false=>none
def cT(row:Bool)(l:List C):Option C:=
 match row with
 |true=>match l with
  |[.nm z]=>some (.nm z)
  |l=>some (.ag l)
 |false=>match l with
  |[.nm _]=>none
  |[c]=>some c
  |_=>none
def fF:List C->Nat->Option (List C)
 |l,0=>some l
 |[],_+1=>none
 |c::l,off+1=>match Nat.ble c.wid (off+1)with
  |true=>fF l (off+1-c.wid)
  |false=>none
def fZ:List C->Nat->Option (List C)
 |_,0=>some []
 |[],_+1=>none
 |c::l,n+1=>match Nat.ble c.wid (n+1)with
  |true=>(fZ l (n+1-c.wid)).map (c::·)
  |false=>none
def eJ(l:List C)(off w:Nat):Option (List C):=(fF l off).bind (fZ · w)
def iH(l:List C)(off w:Nat)(new:List C):Option (List C):=
 (fZ l off).bind fun a=>(fF l (off+w)).map fun b=>a++new++b
def sZ:C->Option Int
 | .nm z=>some z
 | .ag [.sc (.bool false),.sc (.slice none 0 0)]=>some 0
 |_=>none
def eO(l:List C):List (Nat×Nat×C)->Option (List C)
 |[]=>some l
 |(off,w,c)::ps=>c.flat.bind fun p=>match Nat.beq (ly p) w with
  |true=>(iH l off w p).bind (eO · ps)
  |false=>none
def dp(z:List C):Nat->List C
 |0=>[]
 |n+1=>z++dp z n
def ikB:IntKind->IntKind->Bool
 | .i8,.i8| .i16,.i16| .i32,.i32| .i64,.i64| .u8,.u8| .u16,.u16| .u32,.u32| .u64,.u64=>true
 |_,_=>false
def vy:C->Option Bool
 | .sc (.slice none _ _)=>some true
 | .sl ..=>some false
 |_=>none
def binZ(op:BinOp)(k:IntKind)(p q:Int):Option Value:=
 match op with
 | .add=>some (.int k (k.wrap (p+q)))
 | .sub=>some (.int k (k.wrap (p-q)))
 | .mul=>some (.int k (k.wrap (p*q)))
 | .quo=>match q with|0=>none|_=>some (.int k (k.wrap (p.tdiv q)))
 | .rem=>match q with|0=>none|_=>some (.int k (p.tmod q))
 | .eql=>some (.bool (p==q))
 | .neq=>some (.bool (p !=q))
 | .lss=>some (.bool (p<q))
 | .leq=>some (.bool (p<=q))
 | .gtr=>some (.bool (p>q))
 | .geq=>some (.bool (p>=q))
 |_=>none
def isNeg(q:Int):Bool:=match q with| .negSucc _=>true|_=>false
def bin(op:BinOp)(a b:C):Option C:=
 match a,b with
 | .sc (.int k p),.sc (.int k' q)=>
  match op with
  | .shl=>match isNeg q with|true=>none|false=>some (.sc (.int k (k.wrap (p*2^(min q.toNat k.bits)))))
  | .shr=>match isNeg q with|true=>none|false=>some (.sc (.int k (p.fdiv (2^(min q.toNat k.bits)))))
  |op=>match ikB k k' with
   |true=>(binZ op k p q).map .sc
   |false=>none
 |_,_=>none
def vU(ng:Bool)(a b:C):Option C:=
 match a,b with
 | .sc (.bool p),.sc (.bool q)=>some (.sc (.bool (match ng with|true=>!(p==q)|false=>p==q)))
 |_,_=>none
def qR(ng:Bool)(a b:C):Option C:=
 match vy a,vy b with
 |some true,some y=>some (.sc (.bool (match ng with|true=>!y|false=>y)))
 |some false,some true=>some (.sc (.bool ng))
 |_,_=>none
def un(op:UnOp)(a:C):Option C:=
 match op,a with
 | .not,.sc (.bool b)=>some (.sc (.bool !b))
 | .neg,.sc (.int k p)=>some (.sc (.int k (k.wrap (0-p))))
 |_,_=>none
def ofN(n:Nat):C:=.sc (.int .i64 n)
def dc:C->Option Nat
 | .sc (.int _ (.ofNat n))=>some n
 |_=>none
abbrev Tm:=T C
def CO.ev(tm:Tm):CO->C
 |CO.t n=>match T.get tm n with|some y=>y|none=>C.any
 |CO.c x=>x
def cX(tm:Tm)(d:Nat):Option CO->Option Nat
 |none=>some d
 |some x=>dc (x.ev tm)
def parts(tm:Tm):List (Nat×Nat×CO)->List (Nat×Nat×C)
 |[]=>[]
 |(o,w,x)::l=>(o,w,x.ev tm)::parts tm l
def qS(w off l m:Nat)(exact:Bool):Option Nat:=
 match l with
 |0=>some off
 |_=>match Nat.beq m l with
  |true=>match exact with
   |true=>some off
   |false=>none
  |false=>match w with
   |0=>none
   |_=>some (off+l*w)
def oW(mx:Option CO)(e:Bool):Bool:=match mx with|none=>e|some _=>true
def xT(x:X)(tm:Tm)(next:Nat):Option (C×Option B):=
 match x with
 | .mv x=>some (x.ev tm,none)
 | .pick c a b=>match c.ev tm with
  | .sc (.bool true)=>some (a.ev tm,none)
  | .sc (.bool false)=>some (b.ev tm,none)
  |_=>none
 | .alloc T z=>some (.pt next 0,some (.cells T z))
 | .box T x=>(x.ev tm).flat.map fun p=>(.pt next 0,some (.cells T p))
 | .build z ps=>(eO z (parts tm ps)).map fun l=>(.ag l,none)
 | .bsl T w len z ps=>(eO (dp z len) (parts tm ps)).map fun l=>(.sl next 0 len len true,some (.cells T l))
 | .bin op x y=>(bin op (x.ev tm) (y.ev tm)).map (·,none)
 | .beq ng x y=>(vU ng (x.ev tm) (y.ev tm)).map (·,none)
 | .snil ng x y=>(qR ng (x.ev tm) (y.ev tm)).map (·,none)
 | .un op x=>(un op (x.ev tm)).map (·,none)
 | .conv k x=>match x.ev tm with
  | .sc (.int _ n)=>some (.sc (.int k (k.wrap n)),none)
  |_=>none
 | .mkf f cs=>some (.fn f (cs.map (·.ev tm)),none)
 | .mks T w bytes z l c=>match dc (l.ev tm),dc (c.ev tm)with
  |some l,some c=>match Nat.ble l c,Nat.ble c 1000000 with
   |true,true=>some (.sl next 0 l c true,some (.cells T (dp z c)))
   |_,_=>none
  |_,_=>none
 | .slc w x lo hi mx=>match x.ev tm with
  | .sl k off n c e=>
   match cX tm 0 lo,cX tm n hi,cX tm c mx with
   |some l,some h,some m=>match Nat.ble m c,Nat.ble h m,Nat.ble l h with
    |true,true,true=>match qS w off l m (oW mx e)with
     |some o=>some (.sl k o (h-l) (m-l) (oW mx e),none)
     |none=>match Nat.beq l h with
      |true=>some (.em,none)
      |false=>none
    |_,_,_=>none
   |_,_,_=>none
  | .sc (.slice none 0 0)=>match cX tm 0 hi,cX tm 0 lo,cX tm 0 mx with
   |some 0,some 0,some 0=>some (.sc (.slice none 0 0),none)
   |_,_,_=>none
  |_=>none
 | .fa off x=>match x.ev tm with
  | .pt k o=>some (.pt k (o+off),none)
  |_=>none
 | .fd row off w x=>match x.ev tm with
  | .ag l=>((eJ l off w).bind (cT row)).map (·,none)
  |_=>none
 | .ia w len x i=>match dc (i.ev tm)with
  |some i=>match x.ev tm,len with
   | .sl k off n _ _,none=>match Nat.blt i n with
    |true=>some (.pt k (off+i*w),none)
    |false=>none
   | .pt k off,some n=>match Nat.blt i n with
    |true=>some (.pt k (off+i*w),none)
    |false=>none
   |_,_=>none
  |none=>none
 | .ix row w len x i=>match dc (i.ev tm),x.ev tm with
  |some i,.ag l=>match Nat.blt i len with
   |true=>((eJ l (i*w) w).bind (cT row)).map (·,none)
   |false=>none
  |_,_=>none
 | .sx x i=>match dc (i.ev tm),x.ev tm with
  |some i,.sc (.string s)=>s[i]?.map fun b=>(.sc (.int .u8 b.toNat),none)
  |_,_=>none
 | .ext x i=>match x.ev tm with
  | .tp l=>l[i]?.map (·,none)
  |_=>none
 | .nc x=>match x.ev tm with
  | .pt k o=>some (.pt k o,none)
  | .fn f c=>some (.fn f c,none)
  | .yl k=>some (.yl k,none)
  |_=>none
 | .len str x=>match str with
  |false=>match x.ev tm with
   | .sl _ _ n _ _=>some (ofN n,none)
   | .em=>some (ofN 0,none)
   | .sc (.slice none n _)=>some (ofN n,none)
   |_=>none
  |true=>match x.ev tm with
   | .sc (.string s)=>some (ofN s.size,none)
   |_=>none
 | .cap x=>match x.ev tm with
  | .sl _ _ _ c true=>some (ofN c,none)
  | .sc (.slice none _ c)=>some (ofN c,none)
  |_=>none
 | .mnx gt x y=>match x.ev tm,y.ev tm with
  | .sc (.int k p),.sc (.int _ q)=>match gt with
   |true=>some (.sc (.int k (if q>p then q else p)),none)
   |false=>some (.sc (.int k (if q<p then q else p)),none)
  |_,_=>none
 |_=>none
def X.isT:X->Bool
 | .load ..=>false
 | .store ..=>false
 | .app ..=>false
 | .appz ..=>false
 | .clr ..=>false
 | .cal ..=>false
 |_=>true
def H.fw(h:H):Option B->Option H
 |none=>some h
 |some b=>h.new b
def ir(row:Bool)(w:Nat)(a:C)(h:H):Option C:=
 match a with
 | .pt k off=>match h.get k with
  |some (.cells _ l)=>(eJ l off w).bind (cT row)
  |_=>none
 |_=>none
def gW(w:Nat)(a v:C)(h:H):Option H:=
 match a with
 | .pt k off=>match h.get k with
  |some (.cells T l)=>v.flat.bind fun p=>match Nat.beq (ly p) w with
   |true=>(iH l off w p).map fun l'=>h.set k (some (.cells T l'))
   |false=>none
  |_=>none
 |_=>none
def slW(w:Nat)(a:C)(h:H):Option (List C×Nat):=
 match a with
 | .sc (.slice none 0 0)=>some ([],0)
 | .em=>some ([],0)
 | .sl k off n _ _=>match h.get k with
  |some (.cells _ l)=>(eJ l off (n*w)).map (·,n)
  |_=>none
 |_=>none
def jc(T w:Nat)(a:C)(new:List C)(m:Nat)(h:H):Option (C×H):=
 match m with
 |0=>match a with
  | .sc (.slice none 0 0)=>some (a,h)
  | .sl .. =>some (a,h)
  |_=>none
 |_=>match a with
  | .sc (.slice none 0 0)=>match Nat.ble m 1000000 with
   |true=>(h.new (.cells T new)).map fun h'=>(.sl h.next 0 m m false,h')
   |false=>none
  | .sl k off n c e=>match h.get k with
   |some (.cells T' l)=>match Nat.beq T' T with
    |false=>none
    |true=>match Nat.ble (n+m) c with
     |true=>(iH l (off+n*w) (m*w) new).map fun l'=>(.sl k off (n+m) c e,h.set k (some (.cells T' l')))
     |false=>match Nat.ble (n+m) 1000000 with
      |true=>(eJ l off (n*w)).bind fun old=>match e with
       |true=>(h.new (.cells T' (old++new))).map fun h'=>(.sl h.next 0 (n+m) (n+m) false,h')
       |false=>match off with
        |0=>((h.set k none).new (.cells T' (old++new))).map fun h'=>(.sl h.next 0 (n+m) (n+m) false,h')
        |_=>none
      |false=>none
   |_=>none
  |_=>none
def rI(T w:Nat)(a b:C)(h:H):Option (C×H):=(slW w b h).bind fun (new,m)=>jc T w a new m h
def rH(w:Nat)(z:List C)(a:C)(h:H):Option H:=
 match a with
 | .sc (.slice none _ _)=>some h
 | .sl k off n _ _=>match n with
  |0=>some h
  |m+1=>match h.get k with
   |some (.cells T l)=>(iH l off ((m+1)*w) (dp z (m+1))).map fun l'=>h.set k (some (.cells T l'))
   |_=>none
 |_=>none
abbrev Orc:=List C->Option C
inductive RV where
 |tmp (t:Nat)
 |cell (t:Nat) (row:Bool) (w:Nat)
 deriving Inhabited
structure F where
 ntmps:Nat
 body:CC
 res:List RV
structure Env where
 fns:FuncId->Option F
 orc:FuncId->Option Orc
def setArgs:Nat->Nat->List C->Tm->Tm
 |_,_,[],tm=>tm
 |f,k,c::l,tm=>setArgs f (k+1) l (T.put f tm k (some c))
def jn:List Nat->List C->Tm->Option Tm
 |[],[],tm=>some tm
 |t::ts,c::cs,tm=>jn ts cs (T.put 24 tm t (some c))
 |_,_,_=>none
inductive Task where
 |code (c:CC) (tm:Tm) (ds:List Nat) (rd:Option Nat) (h:H)
 |call (f:C) (args:List C) (h:H)
inductive Out where
 |code (e:Ex) (tm:Tm) (ds:List Nat) (h:H)
 |val (c:C) (h:H)
abbrev Rec:=Task->Option Out
def eI(tm:Tm)(dst:Option Nat)(c:C):Tm:=
 match dst with
 |some t=>T.put 24 tm t (some c)
 |none=>tm
def dC(o:RO)(tm:Tm):Option Bool:=
 match o.g with
 |none=>some true
 |some (t,b)=>match tm.get t with
  |some (.sc (.bool c))=>some (match b with|true=>c|false=>!c)
  |_=>none
def xR(rec:Rec)(x:X)(tm:Tm)(h:H):Option (C×H):=
 match x with
 | .load row w a=>(ir row w (a.ev tm) h).map (·,h)
 | .store w a v=>(gW w (a.ev tm) (v.ev tm) h).map (.any,·)
 | .app T w a b=>rI T w (a.ev tm) (b.ev tm) h
 | .appz T z a n=>match a.ev tm,dc (n.ev tm)with
  | .sc (.slice none 0 0),some (m+1)=>match Nat.ble (m+1) 1000000 with
   |true=>(h.new (.cells T (dp z (m+1)))).map fun h'=>(.sl h.next 0 (m+1) (m+1) false,h')
   |false=>none
  |_,_=>none
 | .clr w z a=>(rH w z (a.ev tm) h).map (.any,·)
 | .cal f args=>match rec (.call (f.ev tm) (args.map (·.ev tm)) h)with
  |some (.val c h)=>some (c,h)
  |_=>none
 |_=>none
def ns(rec:Rec)(x:X)(tm:Tm)(h:H):Option (C×H):=
 match x.isT with
 |true=>(xT x tm h.next).bind fun (c,b)=>(h.fw b).map fun h=>(c,h)
 |false=>xR rec x tm h
def ib(rec:Rec):List RO->Tm->H->Option (Tm×H)
 |[],tm,h=>some (tm,h)
 |o::l,tm,h=>match dC o tm with
  |some true=>match ns rec o.x tm h with
   |some (c,h)=>ib rec l (eI tm o.dst c) h
   |none=>none
  |some false=>ib rec l (eI tm o.dst .any) h
  |none=>none
def eA(pre:Nat):List (Nat×Nat×Nat)->List (Nat×Nat)->List (Nat×Nat)
 |[],f=>f
 |(i,a,b)::l,f=>match pre.testBit i with
  |true=>eA pre l f
  |false=>(a,b)::eA pre l f
abbrev Ft:=Option (List Nat)
def eV(t:Nat):List Nat->Bool
 |[]=>false
 |x::l=>match Nat.beq x t with|true=>true|false=>eV t l
def mT:C->List Nat
 | .sl k ..=>[k]
 | .pt k _=>[k]
 |_=>[]
def xFt(x:X)(tm:Tm):Ft:=
 match x with
 | .load _ _ a=>some (mT (a.ev tm))
 | .store _ a _=>some (mT (a.ev tm))
 | .app _ _ a b=>some (mT (a.ev tm)++mT (b.ev tm))
 | .clr _ _ a=>some (mT (a.ev tm))
 |_=>none
def Ft.has(f:Ft)(k:Nat):Bool:=match f with|none=>true|some l=>eV k l
def meets(l:List Nat):List Nat->Bool
 |[]=>false
 |k::m=>match eV k l with|true=>true|false=>meets l m
def Ft.meet(f g:Ft):Bool:=match f,g with
 |some l,some m=>meets l m
 |_,_=>true
def mnN(a b:Nat):Nat:=match Nat.ble a b with|true=>a|false=>b
def outs(next:Nat)(l:List Nat)(f:List (Nat×Nat)):List (Nat×Nat):=
 match l with
 |[]=>(0,next)::f
 |[k]=>(0,mnN k next)::(k+1,next)::f
 |k::k'::_=>match Nat.ble k k' with
  |true=>(0,mnN k next)::(k+1,mnN k' next)::(k'+1,next)::f
  |false=>(0,mnN k' next)::(k'+1,mnN k next)::(k+1,next)::f
def iK(next:Nat)(g:Ft)(f:List (Nat×Nat)):List (Nat×Nat):=match g with|none=>f|some l=>outs next l f
def gS(pre:Nat)(wr:Bool)(g:Ft):List (Nat×Bool×Ft)->Bool
 |[]=>false
 |(i,w,f)::l=>match(w||wr)&&f.meet g&& !pre.testBit i with
  |true=>true
  |false=>gS pre wr g l
def dK(rec:Rec):List RO->Nat->List (Nat×Nat×Nat)->List (Nat×Bool×Ft)->Tm->H->Option (Tm×H)
 |[],_,_,_,tm,h=>some (tm,h)
 |o::l,j,iv,rw,tm,h=>match dC o tm with
  |some true=>match o.x.isT with
   |true=>match xT o.x tm h.next with
    |some (c,none)=>dK rec l (j+1) iv rw (eI tm o.dst c) h
    |some (c,some b)=>match h.new b with
     |some h'=>dK rec l (j+1) ((j,h.next,h'.next)::iv) rw (eI tm o.dst c) h'
     |none=>none
    |none=>none
   |false=>match xR rec o.x tm ⟨h.next,h.next,iK h.next (xFt o.x tm) (eA o.pre iv h.forb),h.t⟩with
    |some (c,h')=>
     let wr:=Nat.blt h'.low h.next
     match gS o.pre wr (xFt o.x tm) rw with
     |true=>none
     | false => dK rec l (j + 1) (match Nat.blt h.next h'.next with | true => (j, h.next, h'.next) :: iv | false => iv) ((j, wr, xFt o.x tm) :: rw) (eI tm o.dst c)
         ⟨h'.next,(match Nat.blt h'.low h.low with|true=>h'.low|false=>h.low),h.forb,h'.t⟩
    |none=>none
  |some false=>dK rec l (j+1) iv rw (eI tm o.dst .any) h
  |none=>none
def results(tm:Tm)(h:H):List RV->Option (List C)
 |[]=>some []
 | .tmp t::l=>(results tm h l).map (CO.ev tm (CO.t t)::·)
 | .cell t row w::l=>(ir row w (CO.ev tm (CO.t t)) h).bind fun c=>(results tm h l).map (c::·)
def jD:List C->C
 |[c]=>c
 |l=>.tp l
def dH:List Nat->H->Option H
 |[],h=>some h
 |k::l,h=>match h.get k with
  |some (.defd true)=>dH l (h.set k (some (.defd false)))
  |_=>none
def sI(l:Nat)(e:Ex)(h:H):Option (C×H):=
 match h.get l with
 |some (.loop .busy _ tm ps a b d)=>match e with
  | .norm=>some (.sc (.bool true),h.set l (some (.loop .ready .norm tm ps a b d)))
  |e=>some (.sc (.bool false),h.set l (some (.loop .done e tm ps a b d)))
 |_=>none
def body(E:Env)(rec:Rec):Task->Option Out
 | .code c tm ds rd h=>match c with
  | .skip=>some (.code .norm tm ds h)
  | .ret=>some (.code .ret tm ds h)
  | .exit id=>some (.code (.exit id) tm ds h)
  | .seq a b=>match rec (.code a tm ds rd h)with
   |some (.code .norm tm ds h)=>rec (.code b tm ds rd h)
   |o=>o
  | .cond c a b=>match c.ev tm with
   | .sc (.bool true)=>rec (.code a tm ds rd h)
   | .sc (.bool false)=>rec (.code b tm ds rd h)
   |_=>none
  | .block id c=>match rec (.code c tm ds rd h)with
   |some (.code (.exit i) tm ds h)=>match Nat.beq i id with
    |true=>some (.code .norm tm ds h)
    |false=>some (.code (.exit i) tm ds h)
   |o=>o
  | .loop c=>match rec (.code c tm ds rd h)with
   |some (.code .norm tm ds h)=>rec (.code (.loop c) tm ds rd h)
   |o=>o
  | .reg draw ops=>match(match draw with|true=>dK rec ops 0 [] [] tm h|false=>ib rec ops tm h)with
   |some (tm,h)=>some (.code .norm tm ds h)
   |none=>none
  | .rng f ps a b=>
   match(match rd with
    |some l=>match h.get l with
     |some (.loop _ _ _ _ _ _ d)=>some (d,ds,h)
     |_=>none
    |none=>(h.new (.defd true)).map fun h'=>(h.next,h.next::ds,h'))with
   |some (d,ds,h)=>match h.new (.loop .ready .norm tm ps a b d)with
    |some h'=>match(match f.ev tm with| .fn g caps=>rec (.call (.fn g caps) [.yl h.next] h')|_=>none)with
     |some (.val _ h2)=>match h2.get h.next with
      |some (.loop .busy ..)=>none
      |some (.loop _ p tm' ps' a' b' d')=>some (.code p tm ds (h2.set h.next (some (.loop .lJ p tm' ps' a' b' d'))))
      |_=>none
     |_=>none
    |none=>none
   |none=>none
 | .call f args h=>match f with
  | .fn g caps=>match E.orc g with
   |some o=>(o (args++caps)).map (.val · h)
   |none=>match E.fns g with
    |some fn=>match Nat.ble (args++caps).length fn.ntmps with
     |false=>none
     |true=>match rec (.code fn.body (setArgs 24 0 (args++caps) .e) [] none h)with
      |some (.code e tm ds h)=>match e with
       | .exit _=>none
       |_=>(dH ds h).bind fun h=>(results tm h fn.res).map fun rs=> .val (jD rs) h
      |_=>none
    |none=>none
  | .yl l=>match h.get l with
   |some (.loop .ready _ tm ps a b _)=>match jn ps args tm with
    |some tm=>match rec (.code a tm [] (some l) h)with
     |some (.code .norm tm [] h)=>match h.get l with
      |some (.loop .ready p tm' ps' a' b' d')=>match rec (.code b tm [] (some l) (h.set l (some (.loop .busy p tm' ps' a' b' d'))))with
       |some (.code e _ [] h)=>(sI l e h).map fun (c,h)=> .val c h
       |_=>none
      |_=>none
     |_=>none
    |none=>none
   |_=>none
  |_=>none
def run(E:Env):Nat->Rec
 |0=>fun _=>none
 |n+1=>body E (run E n)
section comp
variable (P : Program)
def ofV:Value->C
 | .agg cs=>match cs.toList.all (fun v=>v.oneCell'&&(C.sc v).okP)with
  |true=>.ag (cs.toList.map .sc)
  |false=>.any
 | .tuple _=>.any
 | .func (.func f) first cs=>match first.size,cs.size with
  |0,0=>.fn f []
  |_,_=>.any
 | .func ..=>.any
 |v=>.sc v
def au:Operand->CO
 | .tmp t=>CO.t t
 | .const v=>CO.c (ofV v)
 | .global _=>CO.c .any
 | .func f=>CO.c (.fn f [])
def zOf(t:TypeId):Option (List C):=(P.info? t).bind fun i=>i.zero.bind fun z=>match z.cells.toList.all (fun v=>v.oneCell'&&(C.sc v).okP)&&Nat.beq z.cells.size i.size with
 |true=>some (z.cells.toList.map .sc)
 |false=>none
def bE(t:TypeId):Option Nat:=(P.info? t).map (·.size)
def rowOf(t:TypeId):Option Bool:=match P.underlying t with|some (.struct _)=>some true|some (.array ..)=>some true|some _=>some false|none=>none
def place(t:TypeId)(i:Nat):Option (Nat×Nat):=
 match P.underlying t with
 |some (.struct fs)=>fs[i]?.bind fun f=>(bE P f.type).map (f.offset,·)
 |some (.array _ e)=>(bE P e).map fun s=>(i*s,s)
 |some (.slice e)=>(bE P e).map fun s=>(i*s,s)
 |_=>none
def placesOf(t:TypeId):List (Nat×Operand)->Option (List (Nat×Nat×CO))
 |[]=>some []
 |(i,x)::l=>(place P t i).bind fun (o,w)=>(placesOf t l).map ((o,w,au x)::·)
def jz(l:List Operand):List CO:=l.map au
def ay(o:Op):Option X:=
 match o with
 | .move x=>some (.mv (au x))
 | .assign x=>some (.mv (au x))
 | .pick c a b=>some (.pick (au c) (au a) (au b))
 | .alloc t=>(zOf P t).map (.alloc t)
 | .box t x=>some (.box t (au x))
 | .build t ps=>match P.underlying t with
  |some (.struct fs)=>match fs.toList.all (fun f=>(P.info? f.type).isSome)with
   |true=>(zOf P t).bind fun z=>(placesOf P t ps.toList).map fun ps=> .build z ps
   |false=>none
  |some (.array _ e)=>(bE P e).bind fun _=>(zOf P t).bind fun z=>(placesOf P t ps.toList).map fun ps=> .build z ps
  |_=>none
 | .buildSlice t n ps=>match P.underlying t with
  |some (.slice e)=>(bE P e).bind fun w=>(zOf P e).bind fun z=>match Nat.ble (n*w) 16777216&&Nat.blt 0 w&&(Nat.blt 0 n||ps.toList.isEmpty)with
   |true=>(placesOf P t ps.toList).map fun ps=> .bsl e w n z ps
   |false=>none
  |_=>none
 | .load t a=>(bE P t).bind fun w=>(rowOf P t).map fun r=> .load r w (au a)
 | .store t a x=>(bE P t).map fun w=> .store w (au a) (au x)
 | .binOp op t x y _=>match P.underlying t with
  |some (.int _)=>some (.bin op (au x) (au y))
  |some .bool=>match op with
   | .eql=>some (.beq false (au x) (au y))
   | .neq=>some (.beq true (au x) (au y))
   |_=>none
  |some (.slice _)=>match op with
   | .eql=>some (.snil false (au x) (au y))
   | .neq=>some (.snil true (au x) (au y))
   |_=>none
  |_=>none
 | .unOp op _ x=>some (.un op (au x))
 | .convert s t x=>match P.underlying s,P.underlying t with
  |some (.int _),some (.int k)=>some (.conv k (au x))
  |_,_=>none
 | .makeFunc (.func f) first cs=>match first.size with
  |0=>some (.mkf f (jz cs.toList))
  |_=>none
 | .makeSlice t l c=>match P.underlying t with
  |some (.slice e)=>(P.info? e).bind fun i=>(zOf P e).bind fun z=>match Nat.ble i.bytes 100000 with
   |true=>some (.mks e i.size i.bytes z (au l) (au c))
   |false=>none
  |_=>none
 | .slice t x lo hi mx=>match P.underlying t with
  |some (.slice e)=>match hi,mx with
   |none,some _=>none
   |_,_=>(bE P e).map fun w=> .slc w (au x) (lo.map au) (hi.map au) (mx.map au)
  |_=>none
 | .fieldAddr t x i=>match P.underlying t with
  |some (.struct fs)=>fs[i]?.bind fun f=>(bE P f.type).bind fun w=>match w with
   |0=>none
   |_=>some (.fa f.offset (au x))
  |_=>none
 | .field t x i=>match P.underlying t with
  |some (.struct fs)=>fs[i]?.bind fun f=>(bE P f.type).bind fun w=>(rowOf P f.type).map fun r=> .fd r f.offset w (au x)
  |_=>none
 | .indexAddr t x i=>match P.underlying t with
  |some (.slice e)=>(bE P e).map fun w=> .ia w none (au x) (au i)
  |some (.array n e)=>(bE P e).map fun w=> .ia w (some n) (au x) (au i)
  |_=>none
 | .index t x i=>match P.underlying t with
  |some (.array n e)=>(bE P e).bind fun w=>(rowOf P e).map fun r=> .ix r w n (au x) (au i)
  |some .string=>some (.sx (au x) (au i))
  |_=>none
 | .extract x i=>some (.ext (au x) i)
 | .nilCheck x=>some (.nc (au x))
 | .call {callee:= .builtin b,args,argTypes}=>match b,args.toList,argTypes.toList with
  | .len,[x],[t]=>match P.underlying t with
   |some (.slice _)=>some (.len false (au x))
   |some .string=>some (.len true (au x))
   |_=>none
  | .min,[x,y],_=>some (.mnx false (au x) (au y))
  | .max,[x,y],_=>some (.mnx true (au x) (au y))
  | .append,[x,y],[t,t']=>match P.underlying t,P.underlying t' with
   |some (.slice e),some (.slice _)=>match Nat.beq t t' with
    |false=>none
    |true=>(P.info? e).bind fun i=>(zOf P e).bind fun z=>match Nat.ble i.bytes 100000&&Nat.blt 0 i.size with
     |true=>some (.app e i.size (au x) (au y))
     |false=>none
   |some (.slice e),some (.int _)=>(P.info? e).bind fun i=>(zOf P e).bind fun z=>match Nat.ble i.bytes 100000&&Nat.blt 0 i.size with
    |true=>some (.appz e z (au x) (au y))
    |false=>none
   |_,_=>none
  | .cap,[x],[t]=>match P.underlying t with
   |some (.slice _)=>some (.cap (au x))
   |_=>none
  | .clear,[x],[t]=>match P.underlying t with
   |some (.slice e)=>(P.info? e).bind fun i=>(zOf P e).map fun z=> .clr i.size z (au x)
   |_=>none
  |_,_,_=>none
 | .call {callee:= .value f,args, .. }=>some (.cal (au f) (jz args.toList))
 |_=>none
def kM:List Nat->Nat->Nat
 |[],_=>0
 |x::_,0=>x
 |_::l,n+1=>kM l n
def gg(acc:List Nat):List Edge->Nat
 |[]=>0
 |e::l=>match Region.binds .any e with
  |true=>2^e.on|||kM acc e.on|||gg acc l
  |false=>gg acc l
def ic:List Oper->List Nat->List Nat
 |[],acc=>acc
 |o::l,acc=>ic l (acc++[gg acc o.after.toList])
def looks(ops:Array Oper)(o:Oper):List Nat:=
 (match o.guard with
  |some (g,_)=>((ops[g]?).bind (·.dst)).toList
  |none=>[])++(o.op.operands.toList.filterMap fun| .tmp t=>some t|_=>none)
def qc(t:Option Nat)(l:List Nat):Bool:=match t with|some t=>eV t l|none=>false
def kt(ops:Array Oper)(o:Oper)(pre:Nat):List Oper->Nat->Bool
 |[],_=>true
 |o'::l,i=>match(qc o'.dst (looks ops o)||qc o.dst (looks ops o')||qc o.dst o'.dst.toList)&& !pre.testBit i with
  |true=>false
  |false=>kt ops o pre l (i+1)
def iC(k:Nat):List Edge->Bool
 |[]=>true
 |e::l=>match Region.binds .any e&& !Nat.blt e.on k with
  |true=>false
  |false=>iC k l
def cA(n:Nat)(dst:Option Tmp):Bool:=match dst with|some t=>Nat.blt t n|none=>true
def dz(n:Nat)(draw:Bool)(ops:Array Oper)(acc:List Oper):List Oper->List Nat->Option (List RO)
 |[],_=>some []
 |o::l,ps=>match ps with
  |p::ps=>match draw&& !(kt ops o p acc 0&&iC acc.length o.after.toList)|| !cA n o.dst with
   |true=>none
   |false=>(match o.guard with
    |none=>some none
    |some (j,b)=>((ops[j]?).bind (·.dst)).map fun t=>some (t,b)).bind fun g=>
     (dz n draw ops (acc++[o]) l ps).map fun r=>⟨o.dst,g,(match ay P o.op with|some x=>x|none=>.bad),p⟩::r
  |[]=>none
def comp(n:Nat):Code->Option CC
 | .skip=>some .skip
 | .ret=>some .ret
 | .exit id=>some (.exit id)
 | .label _=>some .skip
 | .seq a b=>(comp n a).bind fun a=>(comp n b).map (.seq a)
 | .cond c a b=>(comp n a).bind fun a=>(comp n b).map (.cond (au c) a)
 | .block id c=>(comp n c).map (.block id)
 | .loop c=>(comp n c).map .loop
 | .rangeFunc f ps a b=>match ps.toList.all (fun t=>Nat.blt t n)with
  |false=>none
  |true=>(comp n a).bind fun a=>(comp n b).map (.rng (au f) ps.toList a)
 | .region _ ops draw=>(dz P n draw ops [] ops.toList (ic ops.toList [])).map (.reg draw)
 |_=>none
def rvOf:ResultVar->Option RV
 | .tmp t=>some (.tmp t)
 | .cell t ty=>(bE P ty).bind fun w=>(rowOf P ty).map fun r=>.cell t r w
def kv:List ResultVar->Option (List RV)
 |[]=>some []
 |r::l=>(rvOf P r).bind fun r=>(kv l).map (r::·)
def jA (g : FuncId) : Option F := (P.funcs[g]?).bind fun fn => fn.body.bind fun c => match Nat.blt fn.ntmps 1000000 && !(fn.name == "runtime.NumGoroutine") with
 |true=>(comp P fn.ntmps c).bind fun c=>(kv P fn.results.toList).map fun r=>⟨fn.ntmps,c,r⟩
 |false=>none
end comp
end CI
end
section
open Go.RowKit
namespace CI
section
variable (P : Program)
mutual
def VR(A:Nat->Prop)(ρ:Nat->Nat)(w:World):C->Value->Prop
 | .any,_=>True
 | .sc u,v=>v=u/\u.oneCell'=true
 | .nm z,v=>∃x:IV,v= .agg #[.bool x.s, .slice x.a x.n x.cap]/\IZ w x z
 | .sl k off n c x, v => A k /\ ∃ cap, v = .slice (some ⟨ρ k, off, none⟩) n cap /\ n <= c /\ c <= cap /\ (x = true -> cap = c) /\
     (x=false->off=0->cap<=maxLen/\∃T s,w.shape? (ρ k)=some (T,cap*s)/\bE P T=some s)
 | .pt k off,v=>A k/\v= .pointer (some ⟨ρ k,off,none⟩)
 | .fn f cs,v=>∃us,v= .func (.func f) #[] us/\VRl A ρ w cs us.toList
 | .ag l,v=>∃cs,v= .agg cs/\VCs A ρ w l cs.toList
 | .tp l,v=>∃vs,v= .tuple vs/\VRl A ρ w l vs.toList
 | .yl k,v=>A k/\v= .func (.yield (ρ k)) #[] #[]
 | .em,v=>∃ad cp,v= .slice ad 0 cp
def VRl(A:Nat->Prop)(ρ:Nat->Nat)(w:World):List C->List Value->Prop
 |[],vs=>vs=[]
 |d::l,vs=>∃u rest,vs=u::rest/\VR A ρ w d u/\VRl A ρ w l rest
def VCs(A:Nat->Prop)(ρ:Nat->Nat)(w:World):List C->List Value->Prop
 |[],cs=>cs=[]
 |d::l,cs=>d.okP=true/\∃u rest,cs=u.cells.toList++rest/\VR A ρ w d u/\VCs A ρ w l rest
end
structure Lt(w w':World):Prop where
 os:w'.os=w.os
 tape:w'.tape=w.tape
 output:w'.output=w.output
 size:w.heap.size<=w'.heap.size
 iz:∀x z,IZ w x z->IZ w' x z
 shape:∀b s,w.shape? b=some s->w'.shape? b=some s
theorem Lt.refl(w:World):Lt w w:=⟨rfl,rfl,rfl,ai _,fun _ _ h=>h,fun _ _ h=>h⟩
theorem Lt.trans{a b c:World}(h:Lt a b)(k:Lt b c):Lt a c:=
 ⟨k.os.trans h.os,k.tape.trans h.tape,k.output.trans h.output,aE h.size k.size,fun x z e=>k.iz x z (h.iz x z e),fun x z e=>k.shape x z (h.shape x z e)⟩
theorem rS{w:World}{b:Nat}{s:TypeId×Nat}(h:w.shape? b=some s):b<w.heap.size:=by
 unfold World.shape? at h
 cases e:w.heap[b]? with
 |none=>rw[e]at h;cases h
 |some o=>exact(ft.1 e).1
theorem rR{w w':World}{b:Nat}(h:w'.heap[b]?=w.heap[b]?):w'.shape? b=w.shape? b:=by
 unfold World.shape?;rw[h]
theorem Lt.below{w w':World}(h:Below w.heap.size w w'):Lt w w':=
 ⟨h.os,h.tape,h.output,h.size,fun _ _ hz=>hz.below h (ai _),fun b s e=>by rw[rR (h.block b (rS e))];exact e⟩
theorem Lt.chg{g:Nat}{w w':World}(h:Chg g w w')(hb:NW w g)(hs:∀s,w.shape? g=some s->w'.shape? g=some s):Lt w w':=
 ⟨h.os,h.tape,h.output,h.size,fun _ _ hz=>hz.chg h hb,fun b s e=>by
  by_cases hbg:b=g
  ·subst hbg;exact hs s e
  ·rw[rR (h.block b (rS e) hbg)];exact e⟩
variable {P}
structure Mo(A A':Nat->Prop)(ρ ρ':Nat->Nat):Prop where
 sub:∀k,A k->A' k
 eq:∀k,A k->ρ' k=ρ k
theorem Mo.refl(A:Nat->Prop)(ρ:Nat->Nat):Mo A A ρ ρ:=⟨fun _ h=>h,fun _ _=>rfl⟩
mutual
theorem VR.mo{A A':Nat->Prop}{ρ ρ':Nat->Nat}{w w':World}(m:Mo A A' ρ ρ')(k:Lt w w'):∀(c:C) (v:Value),VR P A ρ w c v->VR P A' ρ' w' c v
 | .any,_,_=>by simp only[VR]
 | .sc u,v,h=>by simp only[VR]at h⊢;exact h
 | .nm z,v,h=>by
  simp only[VR]at h⊢;obtain⟨x,h1,h2⟩:=h;exact⟨x,h1,k.iz _ _ h2⟩
 | .sl b off n c x,v,h=>by
  simp only[VR]at h⊢;obtain⟨h0,cap,h1,h2,h3,h4,h5⟩:=h;refine⟨m.sub _ h0,cap,by rw[m.eq _ h0];exact h1,h2,h3,h4,fun hx ho=>?_⟩;obtain⟨h6,T,s,h7,h8⟩:=h5 hx ho;exact⟨h6,T,s,by rw[m.eq _ h0];exact k.shape _ _ h7,h8⟩
 | .pt b off,v,h=>by
  simp only[VR]at h⊢;exact⟨m.sub _ h.1,by rw[m.eq _ h.1];exact h.2⟩
 | .fn f cs,v,h=>by
  simp only[VR]at h⊢;obtain⟨us,h1,h2⟩:=h;exact⟨us,h1,VRl.mo m k cs _ h2⟩
 | .ag l,v,h=>by
  simp only[VR]at h⊢;obtain⟨cs,h1,h2⟩:=h;exact⟨cs,h1,VCs.mo m k l _ h2⟩
 | .tp l,v,h=>by
  simp only[VR]at h⊢;obtain⟨vs,h1,h2⟩:=h;exact⟨vs,h1,VRl.mo m k l _ h2⟩
 | .yl b,v,h=>by
  simp only[VR]at h⊢;exact⟨m.sub _ h.1,by rw[m.eq _ h.1];exact h.2⟩
 | .em,v,h=>by
  simp only[VR]at h⊢;exact h
theorem VRl.mo{A A':Nat->Prop}{ρ ρ':Nat->Nat}{w w':World}(m:Mo A A' ρ ρ')(k:Lt w w'):∀(l:List C) (vs:List Value),VRl P A ρ w l vs->VRl P A' ρ' w' l vs
 |[],_,h=>by simp only[VRl]at h⊢;exact h
 |d::l,vs,h=>by
  simp only[VRl]at h⊢;obtain⟨u,rest,h1,h2,h3⟩:=h;exact⟨u,rest,h1,VR.mo m k d u h2,VRl.mo m k l rest h3⟩
theorem VCs.mo{A A':Nat->Prop}{ρ ρ':Nat->Nat}{w w':World}(m:Mo A A' ρ ρ')(k:Lt w w'):∀(l:List C) (cs:List Value),VCs P A ρ w l cs->VCs P A' ρ' w' l cs
 |[],_,h=>by simp only[VCs]at h⊢;exact h
 |d::l,cs,h=>by
  simp only[VCs]at h⊢;obtain⟨h0,u,rest,h1,h2,h3⟩:=h;exact⟨h0,u,rest,h1,VR.mo m k d u h2,VCs.mo m k l rest h3⟩
end
variable {A : Nat->Prop} {ρ : Nat->Nat} {w : World}
theorem mb{u:Value}(h:u.oneCell'=true):u.cells= #[u]:=by
 cases u<;>first|rfl|simp[Value.oneCell']at h
theorem VR.cells{c:C}{u:Value}(ho:c.okP=true)(h:VR P A ρ w c u):u.cells.toList.length=c.wid/\(∀x∈u.cells.toList,x.oneCell'=true)/\(∀n,u.cells.toList[0]?≠some (.int .u32 n)):=by
 cases c with
 |any=>simp[C.okP]at ho
 |ag l=>simp[C.okP]at ho
 |tp l=>simp[C.okP]at ho
 |em=>simp[C.okP]at ho
 |sc v=>
  simp only[VR]at h;obtain⟨rfl,h⟩:=h;rw[mb h];refine⟨rfl,by simpa using h,fun n e=>?_⟩;simp at e;subst e;simp[C.okP]at ho
 |nm z=>
  simp only[VR]at h;obtain⟨x,rfl,_⟩:=h;refine⟨rfl,fun u hu=>?_,fun n e=>by simp[Value.cells]at e⟩;simp[Value.cells]at hu;rcases hu with rfl|rfl<;>rfl
 |sl k off n c x=>
  simp only[VR]at h;obtain⟨_,cap,rfl,_⟩:=h;exact⟨rfl,by simp[Value.cells,Value.oneCell'],fun n e=>by simp[Value.cells]at e⟩
 |pt k off=>
  simp only[VR]at h;obtain⟨_,rfl⟩:=h;exact⟨rfl,by simp[Value.cells,Value.oneCell'],fun n e=>by simp[Value.cells]at e⟩
 |fn f cs=>
  simp only[VR]at h;obtain⟨us,rfl,_⟩:=h;exact⟨rfl,by simp[Value.cells,Value.oneCell'],fun n e=>by simp[Value.cells]at e⟩
 |yl k=>
  simp only[VR]at h;obtain⟨_,rfl⟩:=h;exact⟨rfl,by simp[Value.cells,Value.oneCell'],fun n e=>by simp[Value.cells]at e⟩
theorem VCs.len:∀{l:List C} {xs:List Value},VCs P A ρ w l xs->xs.length=ly l
 |[],_,h=>by simp only[VCs]at h;subst h;rfl
 |d::l,xs,h=>by
  simp only[VCs]at h;obtain⟨h0,u,rest,rfl,h2,h3⟩:=h;rw[bK,(VR.cells h0 h2).1,VCs.len h3];rfl
theorem VCs.one:∀{l:List C} {xs:List Value},VCs P A ρ w l xs->∀x∈xs,x.oneCell'=true
 |[],_,h=>by simp only[VCs]at h;subst h;intro x hx;cases hx
 |d::l,xs,h=>by
  simp only[VCs]at h;obtain⟨h0,u,rest,rfl,h2,h3⟩:=h;intro x hx;rcases fg.1 hx with hx|hx
  ·exact(VR.cells h0 h2).2.1 x hx
  ·exact VCs.one h3 x hx
theorem pS{c:C}(h:c.okP=true):0<c.wid:=by cases c<;>simp_all [C.okP,C.wid]
theorem VCs.nw{l:List C}{xs:List Value}(h:VCs P A ρ w l xs):∀n,xs[0]?≠some (.int .u32 n):=by
 cases l with
 |nil=>simp only[VCs]at h;subst h;intro n e;simp at e
 |cons d l=>
  simp only[VCs]at h;obtain⟨h0,u,rest,rfl,h2,h3⟩:=h;obtain⟨k1,_,k3⟩:=VR.cells h0 h2;have:=pS h0;intro n e;rw[dN aa]at e;exact k3 n e
theorem VCs.app{l2:List C}{ys:List Value}(k:VCs P A ρ w l2 ys):∀{l:List C} {xs:List Value},VCs P A ρ w l xs->VCs P A ρ w (l++l2) (xs++ys)
 |[],_,h=>by simp only[VCs]at h;subst h;exact k
 |d::l,xs,h=>by
  simp only[VCs]at h;obtain⟨h0,u,rest,rfl,h2,h3⟩:=h;simp only[qO,VCs];exact⟨h0,u,rest++ys,by rw[fy],h2,VCs.app k h3⟩
theorem VCs.drop:∀{l:List C} {xs:List Value} {off:Nat} {l':List C},VCs P A ρ w l xs->fF l off=some l'->VCs P A ρ w l' (xs.drop off)/\off<=xs.length
 |l,xs,0,l',h,e=>by
  have e':l'=l:=by cases l<;>simpa[fF]using e.symm
  subst e';exact⟨h,aZ _⟩
 |[],_,off+1,l',_,e=>by simp[fF]at e
 |c::l,xs,off+1,l',h,e=>by
  simp only[fF]at e;split at e
  ·next hb=>
   have hb':=bG hb;simp only[VCs]at h;obtain⟨h0,u,rest,rfl,h2,h3⟩:=h;have hl:=(VR.cells h0 h2).1;have:=pS h0;obtain⟨k1,k2⟩:=VCs.drop h3 e;refine⟨?_,by rw[bK];omega⟩;rw[List.drop_append,List.drop_eq_nil_of_le aa,kg,hl];exact k1
  ·cases e
theorem VCs.take:∀{l:List C} {xs:List Value} {n:Nat} {l':List C},VCs P A ρ w l xs->fZ l n=some l'->VCs P A ρ w l' (xs.take n)/\n<=xs.length
 |l,xs,0,l',h,e=>by
  have e':l'=[]:=by cases l<;>simpa[fZ]using e.symm
  subst e';exact⟨by simp only[VCs,lu],aZ _⟩
 |[],_,n+1,l',_,e=>by simp[fZ]at e
 |c::l,xs,n+1,l',h,e=>by
  simp only[fZ]at e;split at e
  ·next hb=>
   have hb':=bG hb;obtain⟨l2,e2,rfl⟩:=fT.1 e;simp only[VCs]at h;obtain⟨h0,u,rest,rfl,h2,h3⟩:=h;have hl:=(VR.cells h0 h2).1;have:=pS h0;obtain⟨k1,k2⟩:=VCs.take h3 e2;refine⟨?_,by rw[bK];omega⟩;rw[List.take_append,qM aa,hl];simp only[VCs];exact⟨h0,u,_,rfl,h2,k1⟩
  ·cases e
theorem VCs.get{l:List C}{xs:List Value}{off n:Nat}{p:List C}(h:VCs P A ρ w l xs)(e:eJ l off n=some p):VCs P A ρ w p ((xs.drop off).take n)/\off+n<=xs.length:=by
 unfold eJ at e;obtain⟨l1,e1,e2⟩:=fW.1 e;obtain⟨k1,k2⟩:=h.drop e1;obtain⟨k3,k4⟩:=k1.take e2;exact⟨k3,by rw[fU]at k4;omega⟩
theorem VCs.set{l:List C}{xs ys:List Value}{off n:Nat}{new l':List C}(h:VCs P A ρ w l xs)(hy:VCs P A ρ w new ys)(e:iH l off n new=some l'):VCs P A ρ w l' (xs.take off++ys++xs.drop (off+n))/\off+n<=xs.length:=by
 unfold iH at e;obtain⟨l1,e1,e2⟩:=fW.1 e;obtain⟨l2,e3,rfl⟩:=fT.1 e2;obtain⟨k1,k2⟩:=h.take e1;obtain⟨k3,k4⟩:=h.drop e3;exact⟨VCs.app k3 (VCs.app hy k1),k4⟩
theorem VR.flat{c:C}{u:Value}{p:List C}(h:VR P A ρ w c u)(e:c.flat=some p):VCs P A ρ w p u.cells.toList:=by
 unfold C.flat at e;split at e
 ·simp only[ah]at e;subst e;simp only[VR]at h;obtain⟨cs,rfl,h2⟩:=h;exact h2
 ·split at e
  ·next ho=>
   simp only[ah]at e;subst e;simp only[VCs];exact⟨ho,u,[],by simp,h,rfl⟩
  ·cases e
theorem VCs.cT{row:Bool}{p:List C}{c:C}{xs:List Value}(h:VCs P A ρ w p xs)(e:cT row p=some c):if row then VR P A ρ w c (.agg xs.toArray)else∃u,xs=[u]/\VR P A ρ w c u:=by
 unfold CI.cT at e
 cases row with
 |true=>
  simp only[if_true];simp only at e;split at e
  ·simp only[ah]at e;subst e;simp only[VCs]at h;obtain⟨_,u,rest,rfl,h2,rfl⟩:=h;simp only[VR]at h2⊢;obtain⟨x,rfl,h3⟩:=h2;exact⟨x,by simp[Value.cells],h3⟩
  ·simp only[ah]at e;subst e;simp only[VR];exact⟨_,rfl,by simpa using h⟩
 |false=>
  simp only[ot,if_false];simp only at e;split at e
  ·cases e
  ·next c' hne=>
   simp only[ah]at e;subst e;simp only[VCs]at h;obtain⟨h0,u,rest,rfl,h2,rfl⟩:=h;refine⟨u,?_,h2⟩;obtain⟨k1,k2,_⟩:=VR.cells h0 h2;have hw:c'.wid=1:=by cases c'<;>simp_all [C.okP,C.wid]
   rw[hw]at k1;have hu:u.oneCell'=true:=by
    cases hc:c'<;>rw[hc]at h2 h0<;>simp only[VR]at h2<;>first|(simp[C.okP]at h0;done)|(obtain⟨rfl,h⟩:=h2;exact h)|(obtain⟨_,_,rfl,_⟩:=h2;rfl)|(obtain⟨_,rfl⟩:=h2;rfl)|(obtain⟨_,rfl,_⟩:=h2;rfl)|(exact absurd hc (hne _))
   rw[mb hu];rfl
  ·cases e
end
end CI
end
section
open Go.RowKit
namespace CI
theorem T.oY{α:Type}(k:Nat):T.get (T.e:T α) k=none:=by cases k<;>rfl
theorem tY{j k:Nat}(h:j≠k)(e:j%2=k%2):j/2≠k/2:=by omega
theorem T.iP{α:Type}(t:T α)(v:Option α)(r:T α):t.mkL v r= .n v t r:=by cases t<;>rfl
theorem T.iM{α:Type}(t:T α)(v:Option α)(l:T α):t.mkR v l= .n v l t:=by cases t<;>rfl
theorem T.tZ{α:Type}:∀(f:Nat) (t:T α) (k j:Nat) (x:Option α),k+1<2^f->T.get (T.put f t k x) j=if j=k then x else T.get t j
 |0,t,k,j,x,h=>by simp at h
 |f+1,t,0,j,x,h=>by
  cases t<;>cases j<;>simp[T.put,T.iP,T.iM,T.get,T.oY];split<;>rfl
 |f+1,t,k+1,j,x,h=>by
  have hk:k/2+1<2^f:=by rw[bT]at h;omega
  have IH:=fun t j=>T.tZ f t (k/2) j x hk
  cases j with
  |zero=>cases t<;>simp only[T.put,T.iP,T.iM]<;>split<;>simp[T.get]
  |succ j=>
   have key:∀l r:T α,∀v,T.get (match k%2 with|0=>T.n v (T.put f l (k/2) x) r|_+1=>T.n v l (T.put f r (k/2) x)) (j+1)=if j+1=k+1 then x else T.get (T.n v l r) (j+1):=fun l r v=>by
    have hj:=Nat.mod_two_eq_zero_or_one j;have hk2:=Nat.mod_two_eq_zero_or_one k;rcases hk2 with e|e<;>rcases hj with e'|e'<;>simp only[e,e',T.get,IH]
    ·by_cases hjk:j=k
     ·subst hjk;simp
     ·rw[an (tY hjk aa),an aa]
    ·rw[an aa]
    ·rw[an aa]
    ·by_cases hjk:j=k
     ·subst hjk;simp
     ·rw[an (tY hjk aa),an aa]
   cases t with
   |e=>
    simp only[T.put,T.iP,T.iM];refine(key .e .e none).trans ?_;split
    ·rfl
    ·simp only[T.get];split<;>simp[T.oY]
   |n v l r=>
    simp only[T.put,T.iP,T.iM];exact key l r v
theorem T.nL{α:Type}{t:T α}{k j:Nat}{x:Option α}(h:k<1000000):T.get (T.put 24 t k x) j=if j=k then x else T.get t j:=
 T.tZ 24 t k j x (oy (Nat.succ_le_succ (cC h)) aA)
def pK:LS->LoopState
 | .ready=>.ready
 | .busy=>.busy
 | .done=>.done
 | .lJ=>.exhausted
def jI:Ex->Option Code
 | .norm=>none
 | .ret=>some .ret
 | .exit id=>some (.exit id)
def H.live(h:H)(k:Nat):Prop:=(h.get k).isSome=true
section
variable (P : Program)
def TR(A:Nat->Prop)(ρ:Nat->Nat)(w:World)(tm:Tm)(tmps:Array Value):Prop:=∀t,VR P A ρ w (CO.ev tm (CO.t t)) (tmps.getD t undef)
def BR(A:Nat->Prop)(ρ:Nat->Nat)(w:World)(r:Nat):B->Prop
 | .cells T l=>∃arr xs rest,w.heap[r]?=some (.cells arr T (0,0))/\arr.toList=xs++rest/\VCs P A ρ w l xs/\NW w r
 | .loop st p tm ps a b d=>A d/\∃fn tmps a' b',w.heap[r]?=some (.loop ⟨pK st,jI p,fn,tmps,ps.toArray,a',b',ρ d⟩)/\TR P A ρ w tm tmps/\comp P tmps.size a'=some a/\comp P tmps.size b'=some b/\tmps.size<1000000/\∀t∈ps,t<tmps.size
 | .defd o=>w.heap[r]?=some (.deferred (if o then some []else none))
structure Rel(A:Nat->Prop)(ρ:Nat->Nat)(w:World)(h:H):Prop where
 blk:∀k b,h.get k=some b->k<h.next/\A k/\ρ k<w.heap.size/\BR P A ρ w (ρ k) b
 inj:∀j k,h.live j->h.live k->ρ j=ρ k->j=k
 bd:h.next<=1000000
def Ext(A:Nat->Prop)(h h':H):Nat->Prop:=fun k=>A k\/(h.next<=k/\k<h'.next)
structure bc(A:Nat->Prop)(ρ:Nat->Nat)(w:World)(h:H)(ρ':Nat->Nat)(w':World)(h':H):Prop where
 rho:∀k,(k<h.next\/h'.next<=k)->ρ' k=ρ k
 rel:Rel P (Ext A h h') ρ' w' h'
 lt:Lt w w'
 fr:∀b,b<w.heap.size->(∀k,h.live k->h'.low<=k->ρ k≠b)->w'.heap[b]?=w.heap[b]?
 new:∀k,h.next<=k->h'.live k->w.heap.size<=ρ' k\/∃j,h.live j/\h'.low<=j/\ρ' k=ρ j
def Dj(A:Nat->Prop)(h h':H):Prop:=∀k,A k->k<h.next\/h'.next<=k
structure Good(h h':H):Prop where
 next:h.next<=h'.next
 low:h'.low<=h.low
 forb:h'.forb=h.forb
 keep:∀k,k<h.next->k<h'.low->T.get h'.t k=T.get h.t k
 dead:∀k,k<h.next->¬h.live k->T.get h'.t k=T.get h.t k
end
variable {P : Program} {A A' : Nat->Prop} {ρ ρ' : Nat->Nat} {w w' w'' : World} {h h' h'' : H}
theorem oX{h h':H}{k:Nat}(hf:h'.forb=h.forb)(ht:T.get h'.t k=T.get h.t k):h'.get k=h.get k:=by
 unfold H.get;rw[hf,ht]
theorem Good.refl(h:H):Good h h:=⟨ai _,ai _,rfl,fun _ _ _=>rfl,fun _ _ _=>rfl⟩
theorem Good.back(g:Good h h'){k:Nat}(hk:k<h.next)(hl:h'.live k):h.live k:=by
 by_cases hh:h.live k
 ·exact hh
 ·unfold H.live at hl hh⊢;rw[oX g.forb (g.dead k hk hh)]at hl;exact hl
theorem Good.trans(g:Good h h')(g':Good h' h''):Good h h'':=by
 refine⟨aE g.next g'.next,aE g'.low g.low,g'.forb.trans g.forb,fun k hk hl=>?_,fun k hk hl=>?_⟩
 ·rw[g'.keep k (aH hk g.next) hl,g.keep k hk (aH hl g'.low)]
 ·rw[g'.dead k (aH hk g.next) (fun e=>hl (g.back hk e)),g.dead k hk hl]
theorem TR.mo{tm:Tm}{a:Array Value}(m:Mo A A' ρ ρ')(k:Lt w w')(t:TR P A ρ w tm a):TR P A' ρ' w' tm a:=fun i=>VR.mo m k _ _ (t i)
theorem NW.of{r:Nat}(hh:w'.heap[r]?=w.heap[r]?)(n:NW w r):NW w' r:=fun m e=>n m (by rw[<-e];exact(World.cell?_of_block (a:=⟨r,0,none⟩) hh).symm)
theorem BR.mo{r:Nat}{b:B}(m:Mo A A' ρ ρ')(k:Lt w w')(hh:w'.heap[r]?=w.heap[r]?)(t:BR P A ρ w r b):BR P A' ρ' w' r b:=by
 cases b with
 |cells T l=>
  obtain⟨arr,xs,rest,h1,h2,h3,h4⟩:=t;exact⟨arr,xs,rest,hh.trans h1,h2,VCs.mo m k _ _ h3,NW.of hh h4⟩
 |loop st p tm ps a b d=>
  obtain⟨h0,fn,tmps,a',b',h1,h2,h3⟩:=t;exact⟨m.sub _ h0,fn,tmps,a',b',by rw[hh,h1,m.eq _ h0],h2.mo m k,h3⟩
 |defd o=>exact hh.trans t
theorem Rel.mo(m:Mo A A' ρ ρ')(k:Lt w w')(hb:∀j,h.live j->w'.heap[ρ j]?=w.heap[ρ j]?)(t:Rel P A ρ w h):Rel P A' ρ' w' h:=by
 have hlv:∀j,h.live j->A j:=fun j hj=>by
  obtain⟨b,e⟩:=bH.1 hj;exact(t.blk j b e).2.1
 refine⟨fun j b e=>?_,fun i j hi hj e=>?_,t.bd⟩
 ·obtain⟨h1,h2,h3,h4⟩:=t.blk j b e;have hl:h.live j:=by unfold H.live;rw[e];rfl
  rw[m.eq _ h2];exact⟨h1,m.sub _ h2,aH h3 k.size,h4.mo m k (hb j hl)⟩
 ·rw[m.eq _ (hlv i hi),m.eq _ (hlv j hj)]at e;exact t.inj i j hi hj e
theorem bc.mo(p:bc P A ρ w h ρ' w' h')(d:Dj A h h'):Mo A (Ext A h h') ρ ρ':=⟨fun _ hk=>.inl hk,fun k hk=>p.rho k (d k hk)⟩
theorem bc.refl(t:Rel P A ρ w h):bc P A ρ w h ρ w h:=
 ⟨fun _ _=>rfl,t.mo ⟨fun _ hk=>.inl hk,fun _ _=>rfl⟩ (Lt.refl w) (fun _ _=>rfl),Lt.refl w,fun _ _ _=>rfl,fun k hk hl=>by
  obtain⟨b,e⟩:=bH.1 hl;have:=(t.blk k b e).1;omega⟩
theorem bc.below(t:Rel P A ρ w h)(hb:Below w.heap.size w w'):bc P A ρ w h ρ w' h:=by
 have hlt:∀j,h.live j->ρ j<w.heap.size:=fun j hj=>by
  obtain⟨b,e⟩:=bH.1 hj;exact(t.blk j b e).2.2.1
 refine⟨fun _ _=>rfl,t.mo ⟨fun _ hk=>.inl hk,fun _ _=>rfl⟩ (Lt.below hb) (fun j hj=>hb.block _ (hlt j hj)),Lt.below hb,fun b hbl _=>hb.block b hbl,fun k hk hl=>?_⟩;obtain⟨b,e⟩:=bH.1 hl;have:=(t.blk k b e).1;omega
theorem Dj.left(d:Dj A h h'')(g:h'.next<=h''.next):Dj A h h':=fun k hk=>(d k hk).imp id (fun e=>aE g e)
theorem Dj.right(d:Dj A h h'')(g:h.next<=h'.next):Dj (Ext A h h') h' h'':=fun k hk=>by
 rcases hk with hk|hk
 ·exact(d k hk).imp (fun e=>aH e g) id
 ·exact .inl hk.2
theorem Ext.trans(g:h.next<=h'.next)(g':h'.next<=h''.next)(k:Nat):Ext (Ext A h h') h' h'' k↔Ext A h h'' k:=by
 unfold Ext;constructor
 ·rintro((e|e)|e)
  ·exact .inl e
  ·exact .inr aa
  ·exact .inr aa
 ·rintro(e|e)
  ·exact .inl (.inl e)
  ·by_cases hk:k<h'.next
   ·exact .inl (.inr aa)
   ·exact .inr aa
theorem Mo.ext(g:h.next<=h'.next)(g':h'.next<=h''.next)(ρ:Nat->Nat):Mo (Ext (Ext A h h') h' h'') (Ext A h h'') ρ ρ:=⟨fun k hk=>(Ext.trans g g' k).1 hk,fun _ _=>rfl⟩
theorem bc.trans{ρ'':Nat->Nat}(p:bc P A ρ w h ρ' w' h')(g:Good h h')(q:bc P (Ext A h h') ρ' w' h' ρ'' w'' h'')(g':Good h' h''):bc P A ρ w h ρ'' w'' h'':=by
 refine⟨fun k hk=>?_,q.rel.mo (Mo.ext g.next g'.next _) (Lt.refl _) (fun _ _=>rfl),p.lt.trans q.lt,fun b hb hn=>?_,fun k hk hl=>?_⟩
 ·rw[q.rho k (hk.imp (fun e=>aH e g.next) id),p.rho k (hk.imp id (fun e=>aE g'.next e))]
 ·rw[q.fr b (aH hb p.lt.size) fun k hl hk e=>?_,p.fr b hb fun k hl hk=>hn k hl (aE g'.low hk)];by_cases hkn:k<h.next
  ·rw[p.rho k (.inl hkn)]at e;exact hn k (g.back hkn hl) hk e
  ·rcases p.new k aa hl with e2|⟨j,h1,h2,h3⟩
   ·omega
   ·exact hn j h1 (aE g'.low h2) (h3.symm.trans e)
 ·by_cases hkn:k<h'.next
  ·have hl':=g'.back hkn hl;rw[q.rho k (.inl hkn)];rcases p.new k hk hl' with e|⟨j,h1,h2,h3⟩
   ·exact .inl e
   ·exact .inr ⟨j,h1,aE g'.low h2,h3⟩
  ·rcases q.new k aa hl with e|⟨j,h1,h2,h3⟩
   ·exact .inl (aE p.lt.size e)
   ·by_cases hj:j<h.next
    ·rw[p.rho j (.inl hj)]at h3;exact .inr ⟨j,g.back hj h1,h2,h3⟩
    ·rcases p.new j aa h1 with e|⟨i,k1,k2,k3⟩
     ·exact .inl (by rw[h3];exact e)
     ·exact .inr ⟨i,k1,aE g'.low k2,h3.trans k3⟩
theorem bP{b:B}(e:h.new b=some h'):h'.next=h.next+1/\h'.low=h.low/\h'.forb=h.forb/\h.next<1000000/\∀j,T.get h'.t j=if j=h.next then some b else T.get h.t j:=by
 unfold H.new at e;split at e
 ·next hb=>
  simp only[ah]at e;subst e;have hb':h.next<1000000:=by simpa[aJ]using hb
  exact⟨rfl,rfl,rfl,hb',fun j=>T.nL hb'⟩
 ·cases e
theorem nC{b:B}(e:h.new b=some h'):Good h h':=by
 obtain⟨h1,h2,h3,h4,h5⟩:=bP e;exact⟨by omega,by omega,h3,fun k hk _=>by rw[h5,an aa],fun k hk _=>by rw[h5,an aa]⟩
def at'(ρ:Nat->Nat)(n r:Nat):Nat->Nat:=fun k=>if k=n then r else ρ k
theorem gH{b:B}{r:Nat}(t:Rel P A ρ w h)(e:h.new b=some h')(hd:Dj A h h')(hbl:Below w.heap.size w w')(h1:w.heap.size<=r)(h2:r<w'.heap.size)
  (hB:∀A' ρ',Mo A A' ρ ρ'->ρ' h.next=r->A' h.next->BR P A' ρ' w' r b):bc P A ρ w h (at' ρ h.next r) w' h':=by
 obtain⟨k1,k2,k3,k4,k5⟩:=bP e;have hmo:Mo A (Ext A h h') ρ (at' ρ h.next r):=⟨fun _ hk=> .inl hk,fun k hk=>by
  have:=hd k hk;unfold at';rw[an aa]⟩
 have hg:∀k,h'.get k=some b/\k=h.next\/h'.get k=h.get k/\k≠h.next\/h'.get k=none:=fun k=>by
  unfold H.get;rw[k3,k5];by_cases hk:k=h.next
  ·rw[aB hk];cases aR k h.forb<;>simp[hk]
  ·rw[an hk];exact .inr (.inl ⟨rfl,hk⟩)
 have hlt:∀j c,h.get j=some c->j<h.next/\ρ j<w.heap.size:=fun j c ej=>⟨(t.blk j c ej).1,(t.blk j c ej).2.2.1⟩
 have hat:∀j,j≠h.next->at' ρ h.next r j=ρ j:=fun j hj=>by unfold at';rw[an hj]
 have hatn:at' ρ h.next r h.next=r:=by unfold at';rw[aB rfl]
 refine⟨fun k hk=>hat k aa,⟨fun k c ek=>?_,fun i j hi hj ee=>?_,by omega⟩,Lt.below hbl,fun b hb _=>hbl.block b hb,fun k hk hl=>?_⟩
 ·rcases hg k with⟨e1,e2⟩|⟨e1,e2⟩|e1
  ·rw[e1]at ek;simp only[ah]at ek;subst ek;subst e2;rw[hatn];have hA:Ext A h h' h.next:= .inr ⟨ai _,by omega⟩
   exact⟨by omega,hA,h2,hB _ _ hmo hatn hA⟩
  ·rw[e1]at ek;obtain⟨m1,m2,m3,m4⟩:=t.blk k c ek;rw[hat k e2];exact⟨by omega, .inl m2,aH m3 hbl.size,m4.mo hmo (Lt.below hbl) (hbl.block _ m3)⟩
  ·rw[e1]at ek;cases ek
 ·have key : ∀ i, h'.live i -> (i = h.next \/ (i ≠ h.next /\ h.live i /\ ρ i < w.heap.size)) := fun i hi => by
   unfold H.live at hi;rcases hg i with⟨e1,e2⟩|⟨e1,e2⟩|e1
   ·exact .inl e2
   ·rw[e1]at hi;obtain⟨c,ec⟩:=bH.1 hi;exact .inr ⟨e2,hi,(hlt i c ec).2⟩
   ·rw[e1]at hi;cases hi
  rcases key i hi with hi'|⟨hi1,hi2,hi3⟩<;>rcases key j hj with hj'|⟨hj1,hj2,hj3⟩
  ·rw[hi',hj']
  ·rw[hi',hatn,hat j hj1]at ee;omega
  ·rw[hj',hatn,hat i hi1]at ee;omega
  ·rw[hat i hi1,hat j hj1]at ee;exact t.inj i j hi2 hj2 ee
 ·unfold H.live at hl;rcases hg k with⟨e1,e2⟩|⟨e1,e2⟩|e1
  ·subst e2;exact .inl (by rw[hatn];exact h1)
  ·rw[e1]at hl;obtain⟨c,ec⟩:=bH.1 hl;have:=(hlt k c ec).1;omega
  ·rw[e1]at hl;cases hl
theorem ku{k:Nat}{b:Option B}(hk:k<1000000):(h.set k b).next=h.next/\(h.set k b).forb=h.forb/\((h.set k b).low<=h.low/\(h.set k b).low<=k)/\∀j,T.get (h.set k b).t j=if j=k then b else T.get h.t j:=by
 refine⟨rfl,rfl,?_,fun j=>T.nL hk⟩;show(match Nat.blt k h.low with|true=>k|false=>h.low)<=h.low/\(match Nat.blt k h.low with|true=>k|false=>h.low)<=k;split
 ·next e=>
  have:k<h.low:=by simpa[aJ]using e
  exact⟨cC this,ai _⟩
 ·next e=>
  have:¬k<h.low:=by intro e2;rw[<-aJ]at e2;rw[e2]at e;cases e
  exact⟨ai _,by omega⟩
theorem cY{k:Nat}(hl:h.live k):aR k h.forb=false:=by
 unfold H.live H.get at hl
 cases e:aR k h.forb with
 |false=>rfl
 |true=>rw[e]at hl;cases hl
theorem Rel.live(t:Rel P A ρ w h){k:Nat}(hl:h.live k):k<h.next/\A k/\ρ k<w.heap.size:=by
 obtain⟨b,e⟩:=bH.1 hl;exact⟨(t.blk k b e).1,(t.blk k b e).2.1,(t.blk k b e).2.2.1⟩
theorem ny{k:Nat}{b:Option B}(hk:k<1000000)(hl:h.live k):Good h (h.set k b):=by
 obtain⟨k1,k2,k3,k4⟩:=ku (h:=h) (b:=b) hk;refine⟨Nat.le_of_eq k1.symm,k3.1,k2,fun j hj hlo=>?_,fun j hj hd=>?_⟩
 ·rw[k4,an (by have:=k3.2;omega)]
 ·rw[k4,an (fun e=>hd (by rw[e];exact hl))]
theorem rT{k:Nat}{b:B}(t:Rel P A ρ w h)(hl:h.live k)(hc:Chg (ρ k) w w')(hnw:NW w (ρ k))(hs:∀s,w.shape? (ρ k)=some s->w'.shape? (ρ k)=some s)
  (hB:BR P A ρ w' (ρ k) b):bc P A ρ w h ρ w' (h.set k (some b)):=by
 obtain⟨m1,m2,m3⟩:=t.live hl;have hk:k<1000000:=aH m1 t.bd;obtain⟨k1,k2,k3,k4⟩:=ku (h:=h) (b:=some b) hk;have hlt:=Lt.chg hc hnw hs;have hmo:Mo A (Ext A h (h.set k (some b))) ρ ρ:=⟨fun _ hk=>.inl hk,fun _ _=>rfl⟩;have hg:∀j,j≠k->(h.set k (some b)).get j=h.get j:=fun j hj=>oX k2 (by rw[k4,an hj]);have hgk:(h.set k (some b)).get k=some b:=by
  unfold H.get;rw[k2,cY hl,k4,aB rfl]
 have hlv:∀j,(h.set k (some b)).live j->h.live j:=fun j hj=>by
  by_cases e:j=k
  ·rw[e];exact hl
  ·unfold H.live at hj⊢;rw[hg j e]at hj;exact hj
 refine⟨fun _ _=>rfl,⟨fun j c ej=>?_,fun i j hi hj=>t.inj i j (hlv i hi) (hlv j hj),t.bd⟩,hlt,fun r hr hn=>hc.block r hr fun e=>hn k hl k3.2 e.symm,fun j hj hlj=>?_⟩
 ·by_cases e:j=k
  ·subst e;rw[hgk]at ej;simp only[ah]at ej;subst ej;exact⟨m1,.inl m2,aH m3 hlt.size,hB.mo hmo (Lt.refl _) rfl⟩
  ·rw[hg j e]at ej;obtain⟨n1,n2,n3,n4⟩:=t.blk j c ej;have hne:ρ j≠ρ k:=fun e2=>e (t.inj j k (by unfold H.live;rw[ej];rfl) hl e2);exact⟨n1,.inl n2,aH n3 hlt.size,n4.mo hmo hlt (hc.block _ n3 hne)⟩
 ·have:=(t.live (hlv j hlj)).1;omega
end CI
end
section
open Go.RowKit
namespace CI
variable {P : Program} {A : Nat->Prop} {ρ : Nat->Nat} {w : World} {tm : Tm} {a : Act} {o : Oper} {next : Nat} {c : C} {ob : Option B}
def XO'(P:Program)(A:Nat->Prop)(ρ:Nat->Nat)(w:World)(r:Result Next)(next:Nat)(c:C)(ob:Option B):Prop:=
 ∃u w',r= .ok (.value u) w'/\
  match ob with
  |none=>w'=w/\VR P A ρ w c u
  |some b=>Below w.heap.size w w'/\w.heap.size<w'.heap.size/\∀A' ρ',Mo A A' ρ ρ'->ρ' next=w.heap.size->A' next->BR P A' ρ' w' w.heap.size b/\VR P A' ρ' w' c u
theorem cH{u:Value}{r:Result Next}(h:r= .ok (.value u) w)(hu:VR P A ρ w c u):XO' P A ρ w r next c none:=⟨u,w,h,rfl,hu⟩
theorem vc{u:Value}{r:Result Next}{arr:Array Value}{T:TypeId}{l:List C}(h:r= .ok (.value u) (w.alloc (.cells arr T)))(hl:VCs P A ρ w l arr.toList)
  (hu:∀A' ρ',Mo A A' ρ ρ'->ρ' next=w.heap.size->A' next->VR P A' ρ' (w.alloc (.cells arr T)) c u):XO' P A ρ w r next c (some (.cells T l)):=by
 have hb:Below w.heap.size w (w.alloc (.cells arr T)):=(Below.refl _ _).alloc (ai _) _;refine⟨u,_,h,hb,by simp,fun A' ρ' m h1 h2=>⟨⟨arr,arr.toList,[],heap_alloc_new w _,by simp,VCs.mo m (Lt.below hb) _ _ hl,fun n e=>?_⟩,hu A' ρ' m h1 h2⟩⟩;rw[cell_of_row _ w.heap.size _ _ _ (0,0) (heap_alloc_new w _)]at e;exact VCs.nw hl n (by simpa using e)
theorem cU{t s:Nat}(h:bE P t=some s):∃i,P.info? t=some i/\i.size=s:=by
 unfold bE at h;exact fT.1 h
theorem scs{l:List Value}(h:l.all (fun v=>v.oneCell'&&(C.sc v).okP)=true):VCs P A ρ w (l.map .sc) l:=by
 induction l with
 |nil=>simp only[eZ,VCs]
 |cons v l ih=>
  simp only[ox,cu]at h;simp only[eh,VCs];exact⟨h.1.2,v,l,by rw[mb h.1.1];rfl,by simp only[VR];exact⟨trivial,h.1.1⟩,ih (by simpa using h.2)⟩
theorem fH{t:TypeId}{z:List C}(h:zOf P t=some z):∃i v,P.info? t=some i/\i.zero=some v/\v.cells.size=i.size/\∀(A:Nat->Prop) (ρ:Nat->Nat) (w:World),VCs P A ρ w z v.cells.toList:=by
 unfold zOf at h;obtain⟨i,hi,h⟩:=fW.1 h;obtain⟨v,hv,h⟩:=fW.1 h;split at h
 ·next hc=>
  simp only[ah]at h;subst h;simp only[cu]at hc;exact⟨i,v,hi,hv,by simpa using hc.2,fun _ _ _=>scs hc.1⟩
 ·cases h
theorem qs(v:Value):VR P A ρ w (ofV v) v:=by
 cases v with
 |agg cs=>
  simp only[ofV];split
  ·next h=>simp only[VR];exact⟨cs,rfl,scs h⟩
  ·simp only[VR]
 |func f first cs=>
  cases f with
  |func g=>
   simp only[ofV];split
   ·next h1 h2=>
    simp only[VR,VRl];have e1:first= #[]:=oh h1
    have e2:cs= #[]:=oh h2;subst e1;subst e2;exact⟨_,rfl,rfl⟩
   ·simp only[VR]
  |_=>simp only[ofV,VR]
 |tuple vs=>simp only[ofV,VR]
 |_=>simp only[ofV,VR,Value.oneCell',and_self]
def OpV(P:Program)(A:Nat->Prop)(ρ:Nat->Nat)(w:World)(tm:Tm)(a:Act)(x:Operand):Prop:=VR P A ρ w ((au x).ev tm) (a.eval x)
theorem TR.op(h:TR P A ρ w tm a.tmps)(x:Operand):OpV P A ρ w tm a x:=by
 cases x with
 |tmp t=>
  have:=h t;unfold OpV;simpa[au,Act.eval]using this
 |const v=>exact qs v
 |global g=>simp only[OpV,au,CO.ev,VR]
 |func g=>
  show VR P A ρ w (.fn g []) (.func (.func g) #[] #[]);simp only[VR,VRl];exact⟨_,rfl,rfl⟩
theorem dE{c:C}{n:Nat}{u:Value}(h:dc c=some n)(hu:VR P A ρ w c u):∃k,u= .int k (n:Int):=by
 unfold dc at h;split at h
 ·next k m=>
  simp only[ah]at h;subst h;simp only[VR]at hu;exact⟨k,hu.1⟩
 ·cases h
theorem yY(vs:List Value)(off:Nat)(cs:Array Value)(h:off+vs.length<=cs.size):(vs.zipIdx.foldl (fun cs (x:Value×Nat)=>cs.setIfInBounds (off+x.2) x.1) cs).toList=cs.toList.take off++vs++cs.toList.drop (off+vs.length):=by
 obtain⟨h1,h2⟩:=Go.Great.foldl_set off vs 0 cs;refine List.ext_getElem? fun k=>?_;rw[cM,h2 k];simp only[bS];by_cases hk:k<off
 ·rw[an aa,fy,dN fq,kj hk,cM]
 ·by_cases hk2:k<off+vs.length
  ·rw[aB aa,dN fq,iW fq];simp only[bf,bL];rw[dn aa]
  ·rw[an aa,iW fq,gV];simp only[bK,bf,bL];rw[dn aa,show off+vs.length+(k-(off+vs.length))=k by omega,cM]
theorem iy{t:TypeId}(pf:Nat->Option (Nat×Nat))(hpf:∀i x,place P t i=some x->pf i=some x):∀(pl:List (Nat×Operand)) (ps:List (Nat×Nat×CO)) (l l':List C) (cells:Array Value),placesOf P t pl=some ps->eO l (parts tm ps)=some l'->VCs P A ρ w l cells.toList->
  (∀p∈pl,OpV P A ρ w tm a p.2)->∃cells',Instr.fill pf cells (pl.map fun p=>(p.1,a.eval p.2))=some cells'/\VCs P A ρ w l' cells'.toList
 |[],ps,l,l',cells,h1,h2,h3,_=>by
  simp only[placesOf,ah]at h1;subst h1;simp only[parts,eO,ah]at h2;subst h2;exact⟨cells,rfl,h3⟩
 |(i,x)::pl,ps,l,l',cells,h1,h2,h3,h4=>by
  simp only[placesOf]at h1;obtain⟨⟨off,s⟩,e1,h1⟩:=fW.1 h1;obtain⟨ps',e2,rfl⟩:=fT.1 h1;simp only[parts,eO]at h2;obtain⟨p,e3,h2⟩:=fW.1 h2;split at h2
  ·next hw=>
   have hw':ly p=s:=by simpa using hw
   obtain⟨l1,e4,h2⟩:=fW.1 h2;have hv:=h4 _ ba;have hp:=VR.flat hv e3;have hlen:=hp.len;simp only at hlen hv hp;obtain⟨k1,k2⟩:=h3.set hp e4;have hsz:(a.eval x).cells.size=s:=by rw[<-hw',<-hlen,bL]
   have hfo:=yY (a.eval x).cells.toList off cells (by rw[bL,hsz];simpa using k2);obtain⟨cells',e5,k3⟩:=iy pf hpf pl ps' l1 l' ((a.eval x).cells.toList.zipIdx.foldl (fun cs (x:Value×Nat)=>cs.setIfInBounds (off+x.2) x.1) cells) e2 h2 (by
    rw[hfo,bL,hsz];exact k1) (fun q hq=>h4 q (bh _ hq))
   refine⟨cells',?_,k3⟩;simp only[eh];unfold Instr.fill;simp only[hpf _ _ e1];rw[an (by simp[hsz];simpa using k2),<-e5];congr 1;rw[<-Array.foldl_toList,Array.toList_zipIdx]
  ·cases h2
theorem yK{fs:List Field}(h:fs.all (fun f:Field=>(P.info? f.type).isSome)=true):∃pl,fs.mapM (fun f:Field=>(P.info? f.type).map fun i=>(f.offset,i.size))=some pl/\∀(i:Nat) (f:Field) (s:Nat),fs[i]?=some f->bE P f.type=some s->pl[i]?=some (f.offset,s):=by
 induction fs with
 |nil=>exact⟨[],rfl,fun i f s h=>by simp at h⟩
 |cons f fs ih=>
  simp only[ox,cu]at h;obtain⟨pl,e1,e2⟩:=ih h.2;obtain⟨inf,e3⟩:=bH.1 h.1;refine⟨(f.offset,inf.size)::pl,by simp[List.mapM_cons,e3,e1],fun i f' s hf hs=>?_⟩
  cases i with
  |zero=>
   simp only[List.getElem?_cons_zero,ah]at hf;subst hf;simp only[bE,e3,bX,ah]at hs;subst hs;rfl
  |succ i=>exact e2 i f' s (by simpa using hf) hs
theorem yM(z:Array Value)(n:Nat):(madeCells z ((n+1)*z.size)).toList=z.toList++(madeCells z (n*z.size)).toList:=by
 refine List.ext_getElem? fun k=>?_;by_cases hz:z.size=0
 ·have:z= #[]:=oh hz;subst this;simp[madeCells]
 by_cases hk:k<z.size
 ·rw[dN (by simpa using hk),cM,cM];unfold madeCells;have:k<(n+1)*z.size:=by rw[aU,cI];omega
  simp[this,ik hk,hk]
 ·rw[iW fq,cM,cM,bL];unfold madeCells;by_cases hk2:k<(n+1)*z.size
  ·have hk3:k-z.size<n*z.size:=by rw[aU,cI]at hk2;omega
   have hm:(k-z.size)%z.size=k%z.size:=by
    conv=>rhs;rw[show k=k-z.size+z.size by omega]
    rw[Nat.add_mod_right]
   simp[hk2,hk3,hm]
  ·have hk3:¬k-z.size<n*z.size:=by rw[aU,cI]at hk2;omega
   simp[hk2,hk3]
theorem gn{z:List C}{zc:Array Value}(h:VCs P A ρ w z zc.toList):∀n,VCs P A ρ w (dp z n) (madeCells zc (n*zc.size)).toList
 |0=>by simp[dp,VCs,madeCells]
 |n+1=>by rw[yM];exact VCs.app (gn h n) h
def HV(P:Program)(A:Nat->Prop)(ρ:Nat->Nat)(w:World)(tm:Tm)(a:Act)(o:Oper):Prop:=∀y∈o.op.operands,OpV P A ρ w tm a y
theorem wo(hv:HV P A ρ w tm a o){x:Operand}(ho:o.op= .move x\/o.op= .assign x):XO' P A ρ w ((execOp a.eval o).run P w) next ((au x).ev tm) none:=by
 refine cH (u:=a.eval x) ?_ (hv x (by rcases ho with ho|ho<;>rw[ho]<;>simp[Op.operands]));rcases ho with ho|ho<;>(unfold execOp;rw[ho];rfl)
theorem wm(hv:HV P A ρ w tm a o){x y z:Operand}{t:Bool}(ho:o.op= .pick x y z)(hc:(au x).ev tm= .sc (.bool t)):XO' P A ρ w ((execOp a.eval o).run P w) next ((au (if t then y else z)).ev tm) none:=by
 have h1:=hv x bp;unfold OpV at h1;rw[hc]at h1;simp only[VR]at h1;refine cH (u:=a.eval (if t then y else z)) ?_ (hv _ (by rw[ho];cases t<;>simp[Op.operands]));unfold execOp;rw[ho];cases t<;>simp[h1.1,asBool]
theorem zV{t:TypeId}{z:List C}(ho:o.op= .alloc t)(hz:zOf P t=some z):XO' P A ρ w ((execOp a.eval o).run P w) next (.pt next 0) (some (.cells t z)):=by
 obtain⟨i,v,h1,h2,_,h3⟩:=fH hz;refine vc (u:=.pointer (some ⟨w.heap.size,0,none⟩)) (arr:=v.cells) ?_ (h3 _ _ _) (fun A' ρ' m e1 e2=>by simp only[VR];exact⟨e2,by rw[e1]⟩);unfold execOp;rw[ho];simp[Instr.alloc,zeroValue,typeInfo,h1,h2,newVar,newRow]
theorem x_box(hv:HV P A ρ w tm a o){t:TypeId}{x:Operand}{p:List C}(ho:o.op= .box t x)(hp:((au x).ev tm).flat=some p):XO' P A ρ w ((execOp a.eval o).run P w) next (.pt next 0) (some (.cells t p)):=by
 have h1:=hv x bp;refine vc (u:=.pointer (some ⟨w.heap.size,0,none⟩)) (arr:=(a.eval x).cells) ?_ (VR.flat h1 hp) (fun A' ρ' m e1 e2=>by simp only[VR];exact⟨e2,by rw[e1]⟩);unfold execOp;rw[ho];simp[Instr.box,newVar,newRow]
theorem qu(hv:HV P A ρ w tm a o){ps:Array (Nat×Operand)}{t:TypeId}{n:Nat}(ho:o.op= .build t ps\/o.op= .buildSlice t n ps):∀p∈ps.toList,OpV P A ρ w tm a p.2:=fun p hp=>by
 refine hv p.2 ?_;rcases ho with ho|ho<;>rw[ho]<;>simp only[Op.operands]<;>simp only[List.mem_toArray,im]<;>exact⟨p,hp,rfl⟩
theorem zU(hv:HV P A ρ w tm a o){t:TypeId}{ps:Array (Nat×Operand)}{z:List C}{pl:List (Nat×Nat×CO)}{l:List C}(ho:o.op= .build t ps)(hz:zOf P t=some z)(hp:placesOf P t ps.toList=some pl)
  (hu:(∃fs,P.underlying t=some (.struct fs)/\fs.toList.all (fun f=>(P.info? f.type).isSome)=true)\/∃n e s,P.underlying t=some (.array n e)/\bE P e=some s) (hf:eO z (parts tm pl)=some l):XO' P A ρ w ((execOp a.eval o).run P w) next (.ag l) none:=by
 obtain⟨i,v,h1,h2,_,h3⟩:=fH hz;have hm:=qu hv (n:=0) (.inl ho);have key:∃cells,P.built t ((ps.map fun (i,x)=>(i,a.eval x)).toList)=some cells/\VCs P A ρ w l cells.toList:=by
  unfold Program.built;rcases hu with⟨fs,hu,hall⟩|⟨n,e,es,hu,hes⟩
  ·obtain⟨places,e1,e2⟩:=yK hall;simp only[h1,hu,h2,e1];obtain⟨cells,k1,k2⟩:=iy (places.toArray[·]?) (fun i x hx=>by
    unfold place at hx;rw[hu]at hx;obtain⟨f,hf,hx⟩:=fW.1 hx;obtain⟨s,hs,rfl⟩:=fT.1 hx;simpa using e2 i f s (by simpa using hf) hs) ps.toList pl z l v.cells hp hf (h3 _ _ _) hm
   exact⟨cells,by rw[<-k1];congr 1;simp,k2⟩
  ·obtain⟨ie,hie,his⟩:=cU hes;simp only[h1,hu,h2,hie];obtain⟨cells,k1,k2⟩:=iy (t:=t) (fun i=>some (i*ie.size,ie.size)) (fun i x hx=>by
    unfold place at hx;rw[hu]at hx;simpa[bE,hie]using hx) ps.toList pl z l v.cells hp hf (h3 _ _ _) hm
   exact⟨cells,by rw[<-k1];congr 1;simp,k2⟩
 obtain⟨cells,k1,k2⟩:=key;refine cH (u:=.agg cells) ?_ (by simp only[VR];exact⟨cells,rfl,k2⟩);unfold execOp;rw[ho];simp[run_build (P:=P) w t _ cells k1]
theorem x_bsl(hv:HV P A ρ w tm a o){t e:TypeId}{n s:Nat}{ps:Array (Nat×Operand)}{z:List C}{pl:List (Nat×Nat×CO)}{l:List C}(ho:o.op= .buildSlice t n ps)(hu:P.underlying t=some (.slice e))(hs:bE P e=some s)(hz:zOf P e=some z)(hp:placesOf P t ps.toList=some pl)
  (hb:n*s<=16777216) (h0:0<s) (hn0:0<n\/ps.toList=[]) (hf:eO (dp z n) (parts tm pl)=some l):XO' P A ρ w ((execOp a.eval o).run P w) next (.sl next 0 n n true) (some (.cells e l)):=by
 obtain⟨i,v,h1,h2,hsz,h3⟩:=fH hz;have hi:i.size=s:=by simpa[bE,h1]using hs
 have hm:=qu hv (.inr ho);obtain⟨cells,k1,k2⟩:=iy (t:=t) (fun i=>some (i*s,s)) (fun i x hx=>by
  unfold place at hx;rw[hu]at hx;simp only[hs,bX,ah]at hx;rw[hx]) ps.toList pl (dp z n) l (madeCells v.cells (n*v.cells.size)) hp hf (gn (h3 _ _ _) n) hm
 have hsl:∀A' ρ',Mo A A' ρ ρ'->ρ' next=w.heap.size->A' next->VR P A' ρ' (w.alloc (.cells cells e)) (.sl next 0 n n true) (.slice (some ⟨w.heap.size,0,none⟩) n n):=fun A' ρ' m e1 e2=>by
  simp only[VR,Bool.true_eq_false,false_imp_iff,and_true,true_imp_iff];exact⟨e2,n,by rw[e1],ai _,ai _,rfl⟩
 refine vc (u:= .slice (some ⟨w.heap.size,0,none⟩) n n) (arr:=cells) ?_ k2 hsl;unfold execOp;rw[ho];by_cases hn:n=0
 ·subst hn;have hps:ps= #[]:=dB.1 (hn0.resolve_left aa);subst hps;have hc:cells= #[]:=by
   simp[Instr.fill,madeCells,Array.range_zero']at k1;exact k1
  subst hc;simp[Instr.buildSlice,run_underlying hu,sizeOf,typeInfo,h1,newRow,Instr.fill,Array.range_zero']
 ·have hr := run_buildSlice (P := P) w t e n (ps.map fun (i, x) => (i, a.eval x)) cells i v hu h1 h2 (by rw [hi]; omega) (by rw [hi]; exact fun e => by rcases Nat.mul_eq_zero.1 e with e | e <;> omega) (by
   rw[hi,<-k1,hsz,hi];unfold madeCells;rw[hsz,hi];congr 1;simp)
  simp[hr]
end CI
end
end Go.Proofs.YtepdigdijecgpaaGreat
