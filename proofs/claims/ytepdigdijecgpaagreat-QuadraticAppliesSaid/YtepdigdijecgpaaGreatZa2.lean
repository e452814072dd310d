/- Lemmas for the law: W19 M1 M2 M3 V1 D1 D2 D3 D4 D5 D6 D7 D8 D9 DA H1 H2 H3 E2 V3 V5 V6 V7 M4 V4 V8 V9 V10 V12 V13 V14 V15 V16 V17 V18 V19 E11 L0 -/
import Derived.Laws.MakeOwn
import Derived.Deep.MidRow
import Derived.Maps.AppendAt
import Derived.Great.BuildSlice
import Derived.Shelf.Abstract
import Derived.Laws.CopyRow
import Derived.Laws.Small
import Derived.Laws.AppendOwnNone
import Derived.BigQuiet
import Derived.Laws.Cover3
import Derived.Lib.AppendZerosOnto
import Derived.Deep.CutBlock
import Derived.Deep.RegionLaw
import Derived.Test.YtepdigdijecgpaaGreatRows
import Derived.WalkKit
import Derived.ProofKit
import Derived.OpenShut
import Derived.ChangeOld
import Derived.ChangeSlices
import Derived.Below
import Derived.Lib.SmallJoins
import Derived.Deep.Slices
import Derived.Test.YtepdigdijecgpaaGreatZa1
namespace Go.Proofs.YtepdigdijecgpaaGreat
section
abbrev aV:=@Nat.blt_eq
abbrev aq:=@decide_eq_true
abbrev ao:=@decide_eq_false
abbrev bJ:=@Array.length_toList
abbrev pK:=@Array.getElem?_map
abbrev pJ:=@Array.getElem?_range
abbrev ly:=@Nat.sub_self
abbrev de:=@Int.mul_assoc
abbrev gI:=@Int.mul_comm
abbrev lx:=@Int.add_zero
abbrev tA:=@Int.mul_left_comm
abbrev kg:=@Int.neg_mul
abbrev lv:=@Int.mul_zero
abbrev pI:=@List.drop_eq_nil_of_le
abbrev tw:=@List.append_nil
abbrev ny:=@Nat.ble_eq
abbrev nv:=@Bool.or_eq_true
abbrev cg:=@Array.getD_eq_getD_getElem?
abbrev nu:=@Array.getElem?_setIfInBounds
abbrev nt:=@List.all_cons
abbrev cU:=@Array.toList_inj
abbrev bQ:=@Option.map_some
abbrev ah:=@Option.some.injEq
abbrev eT:=@List.all_eq_true
abbrev cA:=@Option.isSome_iff_exists
abbrev ji:=@List.length_singleton
abbrev fS:=@List.append_assoc
abbrev dz:=@Nat.beq_refl
abbrev bs:=@List.mem_cons
abbrev aP:=@Nat.zero_le
abbrev cn:=@Nat.eq_of_beq_eq_true
abbrev iw:=@Nat.sub_zero
abbrev eS:=@Option.bind_some
abbrev pH:=@Nat.ne_of_beq_eq_false
abbrev br:=@List.length_map
abbrev ns:=@Int.toNat_natCast
abbrev jh:=@List.size_toArray
abbrev pG:=@List.toList_toArray
abbrev nr:=@List.ext_getElem?
abbrev pF:=@List.getElem?_range
abbrev eR:=@List.any_eq_true
abbrev fR:=@Bool.true_and
abbrev nq:=@Bool.false_and
theorem xp{p:Prop}(h:p:=by rw[aQ];omega):p:=h
theorem bC{p:Prop}(h:p:=by rw[ho];simp[Op.operands]):p:=h
theorem Bj{p:Prop}(h:p:=by rw[aS hj,e]):p:=h
theorem uN{p:Prop}(h:p:=by unfold cr;rw[hdst];simpa[aV]using ht):p:=h
theorem xu{p:Prop}(h:p:=by(apply lQ;(exact rfl);(focus((apply aB;(conv=>lhs;whnf);(first|done|exact rfl)))))):p:=h
theorem zs8{p q:Prop}(h:q)(f:Wq q->p:=by(intro hW;(refine aL1 rfl rfl rfl xu ?_);exact hW.out)):p:=f ⟨h⟩
theorem cw{p q:Prop}(h:q)(f:Wq q->p:=by(intro hW;(refine zs8 ?_;refine aK ?_);exact hW.out)):p:=f ⟨h⟩
theorem cZ{p:Prop}(h:p:=by(apply bF;(conv=>lhs;whnf);(first|done|exact rfl|(apply bA;(first|(apply aq;omega)|(apply ao;omega)|assumption|(simp;done)))))):p:=h
theorem uP{p:Prop}(h:p:=by(apply dB;(exact rfl);(focus((apply aB;(conv=>lhs;whnf);(first|done|exact rfl))));(focus((apply aB;(conv=>lhs;whnf);(first|done|exact rfl))));(exact rfl))):p:=h
theorem zs6{p q:Prop}(h:q)(f:Wq q->p:=by(intro hW;((first|(refine aLs rfl rfl rfl rfl ?_ ?_;(focus(apply bF;(conv=>lhs;whnf);(first|done|exact rfl|(apply bA;(first|(apply aq;omega)|(apply ao;omega)|assumption|(simp;done)))))))|refine aLw rfl rfl rfl rfl cZ uP ?_));exact hW.out)):p:=f ⟨h⟩
theorem mS{p:Prop}(h:p:=by(apply ur;(exact rfl);(focus((apply aB;(conv=>lhs;whnf);(first|done|exact rfl)))))):p:=h
theorem zs5{p q:Prop}(h:q)(f:Wq q->p:=by(intro hW;((first|(refine aLs rfl rfl rfl rfl ?_ ?_;(focus(apply bF;(conv=>lhs;whnf);(first|done|exact rfl|(apply bA;(first|(apply aq;omega)|(apply ao;omega)|assumption|(simp;done)))))))|refine aLw rfl rfl rfl rfl cZ mS ?_));exact hW.out)):p:=f ⟨h⟩
theorem zs3{p q:Prop}(h:q)(f:Wq q->p:=by(intro hW;(refine aL1 rfl rfl rfl mS ?_);exact hW.out)):p:=f ⟨h⟩
theorem bI{p q:Prop}(h:q)(f:Wq q->p:=by(intro hW;(refine gar ?_;refine zs3 ?_);exact hW.out)):p:=f ⟨h⟩
theorem cJ{p q:Prop}(h:q)(f:Wq q->p:=by(intro hW;(refine bI ?_;refine zs3 ?_);exact hW.out)):p:=f ⟨h⟩
theorem zb6{p:Prop}(h:p:=by(first|(apply yX;(exact rfl);(focus((apply aB;(conv=>lhs;whnf);(first|done|exact rfl))));(focus(first|exact rfl|(apply aq;omega)|assumption|(simp;done)));(focus((apply aB;(conv=>lhs;whnf);(first|done|exact rfl)))))|(apply yY;(exact rfl);(focus((apply aB;(conv=>lhs;whnf);(first|done|exact rfl))));(focus(first|exact rfl|(apply ao;omega)|assumption|(simp;done)));(exact jI))|(apply d_pick;(exact rfl);(focus((apply aB;(conv=>lhs;whnf);(first|done|exact rfl))));(focus((apply aB;(conv=>lhs;whnf);(first|done|exact rfl))));(exact jI);(exact rfl)))):p:=h
theorem zs7{p q:Prop}(h:q)(f:Wq q->p:=by(intro hW;(refine aL1 rfl rfl rfl zb6 ?_);exact hW.out)):p:=f ⟨h⟩
theorem zs4{p q:Prop}(h:q)(f:Wq q->p:=by(intro hW;(refine aL1 rfl rfl rfl uP ?_);exact hW.out)):p:=f ⟨h⟩
theorem Hq{p q:Prop}(h:q)(f:Wq q->p:=by(intro hW;(refine cJ ?_;refine zs4 ?_;refine zs3 ?_;refine zs5 ?_;refine zs5 ?_;refine zs6 ?_;refine zs7 ?_;refine cw ?_);exact hW.out)):p:=f ⟨h⟩
theorem fJ{p:Prop}(h:p:=by rw[ho];simp[Op.operands,Call.operands]):p:=h
theorem Bi{p:Prop}(h:p:=by simpa[aV]using ht):p:=h
theorem zb70{p:Prop}(h:p:=by simp only[bJ];omega):p:=h
theorem zb59{p:Prop}(h:p:=by simp only[Cu,IntWalk.i64_left];rw[wO _ hb]):p:=h
theorem av{p:Prop}(h:p:=by exact rfl):p:=h
theorem zs1{p q:Prop}(h:q)(f:Wq q->p:=by(intro hW;(repeat(first|refine GR ?_|refine GU ?_|refine Kl ?_|refine Km ?_|refine Ma ?_|with_reducible refine nx_c ?_|with_reducible refine nx_e ?_|with_reducible refine nx_r ?_|with_reducible refine in_n ?_|with_reducible refine in_r ?_|with_reducible refine in_e ?_|with_reducible refine in_x av ?_));exact hW.out)):p:=f ⟨h⟩
theorem zs2{p q:Prop}(h:q)(f:Wq q->p:=by(intro hW;(refine aL1 rfl rfl rfl (by(apply lQ;(exact rfl);(exact jI))) ?_);exact hW.out)):p:=f ⟨h⟩
theorem qH{p q:Prop}(h:q)(f:Wq q->p:=by(intro hW;(refine gar ?_;refine zs2 ?_;refine aK ?_);exact hW.out)):p:=f ⟨h⟩
theorem cX{p q:Prop}(h:q)(f:Wq q->p:=by(intro hW;(refine zs1 ?_;refine qH ?_;refine zs1 ?_);exact hW.out)):p:=f ⟨h⟩
theorem oc{p:Prop}(h:p:=by simpa using e):p:=h
theorem xt{p:Prop}(h:p:=by simp[results,Tryz.results251,go_sem]):p:=h
end
section
open Go.RowKit Go.BigFrame
attribute [local go_sem ↓] Go.wp_at_zero Go.wp_at_succ
theorem Off.set(w:World)(g o:Nat)(v:Value):Off g w (w.setCell ⟨g,o,none⟩ v):=
 ⟨by simp,fun k hk=>by
  simp only[World.setCell,rT];rw[ai (fun e=>hk e.symm)]⟩
theorem Off.trans{b:Nat}{U V W:World}(h:Off b U V)(k:Off b V W):Off b U W:=⟨k.1.trans h.1,fun i hi=>(k.2 i hi).trans (h.2 i hi)⟩
structure RI(w:World)(g:Nat)(xs:List IV)(zs:List Int):Prop where
 lt:g<w.heap.size
 len:xs.length=zs.length
 c0:∀(k:Nat) (x:IV),xs[k]?=some x->w.cell? ⟨g,k*2,none⟩=some (.bool x.s)
 c1:∀(k:Nat) (x:IV),xs[k]?=some x->w.cell? ⟨g,k*2+1,none⟩=some (.slice x.a x.n x.cap)
 fr:∀k,w.frozen? ⟨g,k,none⟩=false
 iz:∀(k:Nat) (x:IV) (z:Int),xs[k]?=some x->zs[k]?=some z->IZ w x z
theorem RI.below{B:Nat}{w w':World}{g:Nat}{xs:List IV}{zs:List Int}(h:RI w g xs zs)(hb:Below B w w')(hB:w.heap.size<=B):RI w' g xs zs:=by
 have hg:g<B:=aJ h.lt hB;exact⟨aJ h.lt hb.size,h.len,fun k x hx=>(hb.cell (p:=⟨g,k*2,none⟩) hg).trans (h.c0 k x hx),fun k x hx=>(hb.cell (p:=⟨g,k*2+1,none⟩) hg).trans (h.c1 k x hx),fun k=>(hb.frozen (p:=⟨g,k,none⟩) hg).trans (h.fr k),fun k x z hx hz=>(h.iz k x z hx hz).below hb hB⟩
def eH(w:World)(g k:Nat)(x:IV):World:=(w.setCell ⟨g,k*2,none⟩ (.bool x.s)).setCell ⟨g,k*2+1,none⟩ (.slice x.a x.n x.cap)
theorem Fq(w:World)(g k:Nat)(x:IV):Off g w (eH w g k x):=(Off.set _ _ _ _).trans (Off.set _ _ _ _)
theorem RI.set{w:World}{g k:Nat}{xs:List IV}{zs:List Int}(h:RI w g xs zs)(hk:k<xs.length){x:IV}{z:Int}(hz:IZ w x z):RI (eH w g k x) g (xs.set k x) (zs.set k z):=by
 obtain⟨x0,hx0⟩:∃x0,xs[0]?=some x0:=⟨_,aS aa⟩;obtain⟨xk,hxk⟩:∃xk,xs[k]?=some xk:=⟨_,aS hk⟩;have hb:=h.c0 0 x0 hx0;rw[ka]at hb;have k0:=h.c0 k xk hxk;have k1:=h.c1 k xk hxk;have ho:=Fq w g k x;refine⟨by rw[ho.1];exact h.lt,by rw[dc,dc];exact h.len,fun i y hy=>?_,fun i y hy=>?_,fun i=>?_,fun i y u hy hu=>?_⟩
 ·unfold eH;rw[eh _ _ _ _ _ aa];by_cases e:i=k
  ·subst e;rw[mi hk]at hy;cases hy;exact fZ _ _ _ _ _ k0
  ·rw[qK (Ne.symm e)]at hy;rw[eh _ _ _ _ _ aa];exact h.c0 i y hy
 ·unfold eH;by_cases e:i=k
  ·subst e;rw[mi hk]at hy;cases hy;exact fZ _ _ _ _ _ ((eh _ _ _ _ _ aa).trans k1)
  ·rw[qK (Ne.symm e)]at hy;rw[eh _ _ _ _ _ aa,eh _ _ _ _ _ aa];exact h.c1 i y hy
 ·unfold eH;rw[World.frozen?_setCell,World.frozen?_setCell];exact h.fr i
 ·by_cases e:i=k
  ·subst e;rw[mi hk]at hy;rw[mi (by rw[<-h.len];exact hk)]at hu;cases hy;cases hu;exact hz.off ho hb
  ·rw[qK (Ne.symm e)]at hy hu;exact(h.iz i y u hy hu).off ho hb
theorem yG:(Tryz.prog.info? 69).map (fun i=>(i.zero,i.size,i.bytes))=some (some (.agg #[.bool false,.slice none 0 0]),2,32):=by kernel_rfl
theorem Ep(t:TypeId)(ht:Tryz.prog.underlying t=some (.slice 69))(n:Nat)(hn:n<=1000000000)(w:World):
  (Instr.makeSlice t (.int .i64 (n:Int)) (.int .i64 (n:Int))).run Tryz.prog w= .ok (.slice (some ⟨w.heap.size,0,none⟩) n n) (w.alloc (.cells (madeCells #[.bool false,.slice none 0 0] (n*2)) 69)):=by
 obtain⟨i,hi,hz,hs,hb⟩:=ke yG;have hr:=run_make (P:=Tryz.prog) w t 69 i _ ht hi hz .i64 .i64 n n aa (Int.le_refl _) (by rw[hb];omega) aa;rw[hs]at hr;simpa[Value.cells]using hr
theorem qg(n k:Nat)(hk:k<n):(madeCells #[.bool false,.slice none 0 0] (n*2))[k*2]?=some (.bool false)/\(madeCells #[.bool false,.slice none 0 0] (n*2))[k*2+1]?=some (.slice none 0 0):=by
 unfold madeCells;rw[pK,pK,pJ,pJ,aj aa,aj aa];simp
theorem RI.made(w:World)(n:Nat):RI (w.alloc (.cells (madeCells #[.bool false,.slice none 0 0] (n*2)) 69)) w.heap.size (List.replicate n ⟨false,none,0,0⟩) (List.replicate n 0):=by
 have hh:=heap_alloc_new w (.cells (madeCells #[.bool false,.slice none 0 0] (n*2)) 69);have hr:∀{α:Type} {v x:α} {k:Nat},(List.replicate n v)[k]?=some x->k<n/\x=v:=fun h=>by
  rw[sY]at h;split at h
  ·cases h;exact⟨by assumption,rfl⟩
  ·cases h
 refine⟨by simp,by simp,fun k x hx=>?_,fun k x hx=>?_,fun k=>?_,fun k x z hx hz=>?_⟩
 ·obtain⟨h1,rfl⟩:=hr hx;rw[cell_of_row _ w.heap.size _ _ _ (0,0) hh];exact(qg n k h1).1
 ·obtain⟨h1,rfl⟩:=hr hx;rw[cell_of_row _ w.heap.size _ _ _ (0,0) hh];exact(qg n k h1).2
 ·simp only[World.frozen?];rw[hh];simp
 ·obtain⟨_,rfl⟩:=hr hx;obtain⟨_,rfl⟩:=hr hz;exact IZ.zero _
def ZAt(w:World)(a:Option Addr)(l:List Int):Prop:=l=[]\/∃a0,a=some a0/\a0.block<w.heap.size/\∀(k:Nat) (x:Int),l[k]?=some x->w.cell? (a0.add k)=some (.int .i64 x)
theorem ZAt.below{B:Nat}{w w':World}{a:Option Addr}{l:List Int}(h:ZAt w a l)(hb:Below B w w')(hB:w.heap.size<=B):ZAt w' a l:=by
 rcases h with h|⟨a0,e,hl,hc⟩
 ·exact .inl h
 ·refine .inr ⟨a0,e,aJ hl hb.size,fun k x hx=>?_⟩;have h1:=hc k x hx;have h2:=World.block_lt_of_cell? w _ h1;rw[hb.cell (aJ h2 hB)];exact h1
def I64(z:Int):Prop:=-9223372036854775808<=z/\z<=9223372036854775807
theorem Gl{l zs:List Int}{k:Nat}{z:Int}(h:zs=l.take k++List.replicate (l.length-k) 0)(hz:l[k]?=some z):zs.set k z=l.take (k+1)++List.replicate (l.length-(k+1)) 0:=by
 have hk:=(bW.1 hz).1;have e:=(bW.1 hz).2;subst h;rw[wF,ai xp,aQ,dT aa,ly];obtain⟨m,hm⟩:∃m,l.length-k=m+1:=⟨l.length-k-1,by omega⟩;rw[hm,List.replicate_succ,iy,ov,hz,show l.length-(k+1)=m by omega];simp
def Kt(w:World)(l:List Int)(e:Ending)(w':World):Prop:=(∃g xs,e= .returned (.slice (some ⟨g,0,none⟩) l.length l.length)/\w.heap.size<=g/\RI w' g xs l)/\Below w.heap.size w w'
set_option maxRecDepth 10000 in
set_option maxHeartbeats 4000000 in
theorem D0(l:List Int)(a:Option Addr)(cap:Nat)(hl:l.length<=1000000)(hb:∀z∈l,I64 z)(w:World)(h:ZAt w a l):
  Calls Tryz.prog 273 #[.slice a l.length cap] w (Kt w l):=by
 have H:=ae h;have HB:Hid _:=hb;have OF:=ae (fun z (hz:I64 z) w=>qm z hz w);have hmk:=Ep 155 Tryz.underlying155 l.length aa;clear h hb;generalize hn:l.length=n at*;have HN:=ae hn;clear hn
 go_enter Tryz.func273,Tryz.ntmps273
 go_wp2_with fail
 go_loopw [11] (fun i wr=>∃(k:Nat) (xs:List IV) (zs:List Int),k<=n/\i= .int .i64 ((k:Int))/\Below w.heap.size w wr/\w.heap.size<wr.heap.size/\Hid (RI wr w.heap.size xs zs/\zs=l.take k++List.replicate (l.length-k) 0)) (fun i _=>n-(intOf i).toNat)
 case atStart=>
  exact⟨0,List.replicate n ⟨false,none,0,0⟩,List.replicate n 0,by omega,rfl,by exact bel,by simp,RI.made w n,by rw[HN.out];simp⟩
 case round=>
  obtain⟨k,xs,zs,hk,rfl,hB,hlt,HR⟩:=hrel;by_cases hkn:k<n
  ·have hkn2:(k:Int)<(n:Int):=by omega
   obtain⟨z,hz⟩:∃z,l[k]?=some z:=⟨l[k]'(by rw[HN.out];omega),aS _⟩;rcases H.out.below hB (af _)with h0|⟨a0,ha,hal,hcc⟩
   ·rw[h0]at hz;simp at hz
   have cz:=hcc k z hz;subst ha;have OFz:=ae (OF.out z (HB.out z (bf hz)));have hxl:k<xs.length:=by
    rw[HR.out.1.len,HR.out.2,cL,aQ,List.length_replicate,HN.out];omega
   obtain⟨x0,hx0⟩:∃x0,xs[k]?=some x0:=⟨_,aS hxl⟩;have c0:=HR.out.1.c0 k x0 hx0;have c1:=HR.out.1.c1 k x0 hx0;have f0:=HR.out.1.fr (k*2);have f1:=HR.out.1.fr (k*2+1);have HZ:=ae (And.intro hz hxl);clear hcc hz hx0 hxl
   go_wp2_with (first|(go_at_call 115;(with_reducible refine(OFz.out _).mono ?_);rintro e w4 ⟨⟨y,rfl,hy⟩,hb4⟩;have HY:=ae hy;clear hy;have HB4:=ae hb4;obtain⟨g4,rfl⟩:=mob hb4;clear hb4))
   go_roundw
   case rel=>
    have hg:w.heap.size<wr.heap.size:=hlt;have hR:=(HR.out.1.below HB4.out (af _)).set HZ.out.2 HY.out;have e5:eH (more wr g4) w.heap.size k y=more (eH wr w.heap.size k y) g4:=by
     unfold eH;rw[jo _ _ _ _ hg,jo _ _ _ _ (by simpa using hg)]
    rw[e5]at hR;refine⟨k+1,xs.set k y,zs.set k z,by omega,by go_num,by exact bel,?_,hR,Gl HR.out.2 HZ.out.1⟩;first|omega|(simp;omega)|(simp only[fG,World.size_setCell];omega)
   case measure=>simp[intOf];omega
  ·obtain rfl:k=n:=by omega
   have hkn2:¬(k:Int)<(k:Int):=by omega
   go_wp2_with fail
   go_ret
   refine⟨⟨w.heap.size,xs,by rw[HN.out];rfl,af _,?_⟩,hB⟩;have h1:=HR.out.1;rw[HR.out.2,eA (by rw[HN.out];exact af _),HN.out]at h1;simpa using h1
end
section
namespace Mx
abbrev Mat:=List (List Int)
def rw(M:Mat)(i:Nat):List Int:=M.getD i []
def at'(M:Mat)(i j:Nat):Int:=(rw M i).getD j 0
def zf(q:Int)(a b:List Int):List Int:=List.zipWith (fun x y=>x+q*y) a b
theorem GM(q:Int)(a b:List Int)(h:a.length=b.length):(zf q a b).length=a.length:=by
 unfold zf;rw[List.length_zipWith,h,Nat.min_self]
def neg(a:List Int):List Int:=a.map fun x=>-x
theorem Jq(a:List Int):(neg a).length=a.length:=by simp[neg]
def Rc(n:Nat)(M:Mat):Prop:=∀r∈M,r.length=n
theorem Rc.rw{n:Nat}{M:Mat}(h:Rc n M){i:Nat}(hi:i<M.length):(rw M i).length=n:=by
 unfold Mx.rw;rw[aH,aS hi];exact h _ (List.getElem_mem hi)
theorem Rc.set{n:Nat}{M:Mat}(h:Rc n M){i:Nat}{r:List Int}(hr:r.length=n):Rc n (M.set i r):=fun x hx=>by
 rcases List.mem_or_eq_of_mem_set hx with h1|h1
 ·exact h x h1
 ·rw[h1];exact hr
theorem lF(M:Mat)(i k:Nat)(r:List Int)(hi:i<M.length):rw (M.set i r) k=if k=i then r else rw M k:=by
 unfold rw;rw[aH,List.getElem?_set];by_cases h:i=k
 ·subst h;simp[hi]
 ·rw[ai h,ai (fun e=>h e.symm),aH]
def swp(M:Mat)(i j:Nat):Mat:=(M.set i (rw M j)).set j (rw M i)
theorem iX(M:Mat)(i j:Nat):(swp M i j).length=M.length:=by simp[swp]
theorem tF{n:Nat}{M:Mat}(h:Rc n M){i j:Nat}(hi:i<M.length)(hj:j<M.length):Rc n (swp M i j):=(h.set (h.rw hj)).set (h.rw hi)
theorem xS{M:Mat}{i j:Nat}(hi:i<M.length)(hj:j<M.length)(k:Nat):rw (swp M i j) k=if k=j then rw M i else if k=i then rw M j else rw M k:=by
 unfold swp;rw[lF _ _ _ _ (by simpa using hj),lF _ _ _ _ hi]
theorem tG{M:Mat}{i j:Nat}(hi:i<M.length)(hj:j<M.length)(k l:Nat):at' (swp M i j) k l=if k=j then at' M i l else if k=i then at' M j l else at' M k l:=by
 unfold at';rw[xS hi hj];split
 ·rfl
 ·split<;>rfl
def scan(c r:Nat)(M:Mat):Nat->Option Nat×Nat
 |0=>(none,0)
 |k+1=>
  let p:=scan c r M k
  if at' M (r+k) c=0 then p
  else(match p.1 with
   |none=>some (r+k)
   |some t=>if(at' M (r+k) c).natAbs<(at' M t c).natAbs then some (r+k)else some t,p.2+1)
def JV(p:List Int)(c:Nat)(a:List Int):List Int:=zf (-(a.getD c 0/p.getD c 0)) a p
def Ck(r c s:Nat)(M:Mat):Nat->Mat
 |0=>M
 |k+1=>(Ck r c s M k).set (s+k) (JV (rw M r) c (rw M (s+k)))
def elim(r c:Nat)(M:Mat):Mat:=Ck r c (r+1) M (M.length-(r+1))
def sumK(r c:Nat)(M:Mat):Nat->Nat
 |0=>0
 |k+1=>sumK r c M k+(at' M (r+k) c).natAbs
def meas(r c:Nat)(M:Mat):Nat:=sumK r c M (M.length-r)
def pick(r c:Nat)(M:Mat):Option Nat×Nat:=scan c r M (M.length-r)
def colN(r c:Nat):Nat->Mat->Mat
 |0,M=>M
 |f+1,M=>
  match(pick r c M).1 with
  |none=>M
  |some t=>if(pick r c M).2=1 then swp M r t else colN r c f (elim r c (swp M r t))
def colF(r c:Nat)(M:Mat):Mat:=colN r c (meas r c M+1) M
def above(r c:Nat)(M:Mat):Mat:=Ck r c 0 M r
def sgnd(r c:Nat)(M:Mat):Mat:=if at' M r c<0 then M.set r (neg (rw M r))else M
def step(r c:Nat)(M:Mat):Nat×Mat:=
 let A:=colF r c M
 if at' A r c=0 then(r,A)else(r+1,above r c (sgnd r c A))
def red:Nat->Nat->Nat×Mat->Nat×Mat
 |0,_,s=>s
 |k+1,c,s=>if s.1<s.2.length then red k (c+1) (step s.1 c s.2)else s
end Mx
end
section
namespace Mx
inductive RE:Mat->Mat->Prop
 |refl (M:Mat):RE M M
 |add (M:Mat) (i j:Nat) (q:Int):i<M.length->j<M.length->i≠j->RE M (M.set i (zf q (rw M i) (rw M j)))
 |neg (M:Mat) (i:Nat):i<M.length->RE M (M.set i (neg (rw M i)))
 |swp (M:Mat) (i j:Nat):i<M.length->j<M.length->RE M (swp M i j)
 |trans {A B C:Mat}:RE A B->RE B C->RE A C
theorem RE.len{A B:Mat}(h:RE A B):B.length=A.length:=by
 induction h with
 |refl=>rfl
 |add=>simp
 |neg=>simp
 |swp=>exact iX _ _ _
 |trans _ _ h1 h2=>exact h2.trans h1
theorem RE.rc{n:Nat}{A B:Mat}(h:RE A B):Rc n A->Rc n B:=by
 induction h with
 |refl=>exact id
 |add M i j q hi hj _=>exact fun h=>h.set (by rw[GM _ _ _ (by rw[h.rw hi,h.rw hj]),h.rw hi])
 |neg M i hi=>exact fun h=>h.set (by rw[Jq,h.rw hi])
 |swp M i j hi hj=>exact fun h=>tF h hi hj
 |trans _ _ h1 h2=>exact fun h=>h2 (h1 h)
theorem cM{M:Mat}{i:Nat}{a:List Int}(h:M[i]?=some a):rw M i=a:=by
 unfold rw;rw[aH,h];rfl
def lcf:(Nat->Int)->Mat->Nat->Int
 |_,[],_=>0
 |f,a::A,j=>f 0*a.getD j 0+lcf (fun i=>f (i+1)) A j
theorem oQ(f:Nat->Int)(a:List Int)(A:Mat)(j:Nat):lcf f (a::A) j=f 0*a.getD j 0+lcf (fun i=>f (i+1)) A j:=rfl
def SP(M:Mat)(v:Nat->Int):Prop:=∃f,∀j,v j=lcf f M j
theorem zZ:∀(M:Mat) (f g:Nat->Int) (x y:Int) (j:Nat),lcf (fun i=>x*f i+y*g i) M j=x*lcf f M j+y*lcf g M j
 |[],f,g,x,y,j=>by simp[lcf]
 |a::M,f,g,x,y,j=>by
  rw[oQ,oQ,oQ];show(x*f 0+y*g 0)*_+lcf (fun i=>x*f (i+1)+y*g (i+1)) M j=_;rw[zZ M (fun i=>f (i+1)) (fun i=>g (i+1)) x y j,Int.add_mul,mf,mf,de,de];omega
theorem yD:∀(M:Mat) (j:Nat),lcf (fun _=>0) M j=0
 |[],_=>rfl
 |a::M,j=>by rw[oQ,yD M j];simp
theorem SP.lin{M:Mat}{u v:Nat->Int}(h:SP M u)(k:SP M v)(x y:Int):SP M (fun j=>x*u j+y*v j):=by
 obtain⟨f,hf⟩:=h;obtain⟨g,hg⟩:=k;exact⟨fun i=>x*f i+y*g i,fun j=>by rw[zZ,<-hf,<-hg]⟩
theorem SP.zero(M:Mat):SP M (fun _=>0):=⟨_,fun j=>(yD M j).symm⟩
theorem SP.congr{M:Mat}{u v:Nat->Int}(h:SP M u)(e:∀j,v j=u j):SP M v:=by
 obtain⟨f,hf⟩:=h;exact⟨f,fun j=>(e j).trans (hf j)⟩
theorem zi(a:List Int)(N:Mat)(i j:Nat):at' (a::N) (i+1) j=at' N i j:=by simp[at',rw]
theorem zh(a:List Int)(N:Mat)(j:Nat):at' (a::N) 0 j=a.getD j 0:=by simp[at',rw]
theorem Dr{M:Mat}:∀(N:Mat) (f:Nat->Int),(∀i,i<N.length->SP M (at' N i))->SP M (fun j=>lcf f N j)
 |[],_,_=>SP.zero M
 |a::N,f,h=>by
  have h1:=Dr N (fun i=>f (i+1)) fun i hi=>(h (i+1) fD).congr fun j=>(zi a N i j).symm;have h2:=h 0 aY;exact(h2.lin h1 (f 0) 1).congr fun j=>by
   show f 0*a.getD j 0+lcf (fun i=>f (i+1)) N j=_;rw[zh];omega
theorem SP.sub{M N:Mat}(h:∀i,i<N.length->SP M (at' N i)){v:Nat->Int}(hv:SP N v):SP M v:=by
 obtain⟨f,hf⟩:=hv;exact(Dr N f h).congr hf
end Mx
end
section
namespace Mx
def sm:Nat->(Nat->Int)->Int
 |0,_=>0
 |n+1,f=>sm n f+f n
theorem cv:∀(n:Nat) (f g:Nat->Int),(∀k,k<n->f k=g k)->sm n f=sm n g
 |0,_,_,_=>rfl
 |n+1,f,g,h=>by unfold sm;rw[cv n f g fun k hk=>h k aa,h n aa]
theorem pS(x y:Int):∀(n:Nat) (f g:Nat->Int),sm n (fun k=>x*f k+y*g k)=x*sm n f+y*sm n g
 |0,_,_=>by simp[sm]
 |n+1,f,g=>by
  show sm n (fun k=>x*f k+y*g k)+(x*f n+y*g n)=x*(sm n f+f n)+y*(sm n g+g n);rw[pS x y n f g,mf,mf];omega
theorem tJ(x:Int):∀(n:Nat) (f:Nat->Int),sm n (fun k=>x*f k)=x*sm n f
 |0,_=>by simp[sm]
 |n+1,f=>by
  show sm n (fun k=>x*f k)+x*f n=x*(sm n f+f n);rw[tJ x n f,mf]
theorem iY:∀(n:Nat) (f:Nat->Int),(∀k,k<n->f k=0)->sm n f=0
 |0,_,_=>rfl
 |n+1,f,h=>by unfold sm;rw[iY n f fun k hk=>h k aa,h n aa];rfl
theorem Du(n:Nat)(f:Nat->Int):sm n (fun k=>-(f k))= -(sm n f):=by
 have:=pS (-1) 0 n f f;rw[cv n (fun k=>-(f k)) (fun k=>-1*f k+0*f k) fun k _=>by omega,this];omega
theorem Dt{n j:Nat}{f:Nat->Int}(hj:j<n)(h:∀k,k<n->k≠j->f k=0):sm n f=f j:=by
 induction n with
 |zero=>omega
 |succ n ih=>
  unfold sm;by_cases e:j=n
  ·subst e;rw[iY j f fun k hk=>h k aa aa];omega
  ·rw[ih aa fun k hk hk2=>h k aa hk2,h n aa (fun e2=>e e2.symm)];omega
theorem KH(n:Nat)(f g:Nat->Int):sm n (fun k=>f k+g k)=sm n f+sm n g:=by
 have:=pS 1 1 n f g;rw[cv n (fun k=>f k+g k) (fun k=>1*f k+1*g k) fun k _=>by omega,this];omega
theorem vb(m:Nat)(U:Nat->Nat->Int):∀n,sm n (fun k=>sm m (U k))=sm m (fun l=>sm n (fun k=>U k l))
 |0=>by rw[iY m (fun l=>sm 0 fun k=>U k l) fun _ _=>rfl];rfl
 |n+1=>by
  show sm n (fun k=>sm m (U k))+sm m (U n)=sm m (fun l=>sm n (fun k=>U k l)+U n l);rw[KH,vb m U n]
theorem IS(n:Nat)(U:Nat->Nat->Int)(h:∀k m,k<n->m<n->U k m= -(U m k)):sm n (fun k=>sm n (U k))=0:=by
 have h1:=vb n U n;have h2:sm n (fun l=>sm n (fun k=>U k l))= -(sm n (fun l=>sm n (U l))):=by
  rw[<-Du];refine cv n _ _ fun l hl=>?_;rw[<-Du];exact cv n _ _ fun k hk=>h k l hk hl
 omega
def skip(k j:Nat):Nat:=if j<k then j else j+1
theorem zM(g:Nat->Int):∀(n k:Nat),k<=n->sm (n+1) g=sm n (fun l=>g (skip k l))+g k
 |n,k,hk=>by
  induction n generalizing k with
  | zero => have : k = 0 := by omega
            subst this;rfl
  |succ n ih=>
   by_cases e:k=n+1
   ·subst e;show sm (n+1) g+g (n+1)=_;rw[cv (n+1) (fun l=>g (skip (n+1) l)) g fun l hl=>by unfold skip;rw[aj hl]]
   ·have h1:=ih k aa;show sm (n+1) g+g (n+1)=sm n (fun l=>g (skip k l))+g (skip k n)+g k;rw[h1,show skip k n=n+1 by unfold skip;rw[ai aa]];omega
def sg(k:Nat):Int:=if k%2=0 then 1 else-1
theorem nG(k:Nat):sg (k+1)= -(sg k):=by
 unfold sg;by_cases h:k%2=0
 ·rw[ai aa,aj h]
 ·rw[aj aa,ai h];rfl
def D:Nat->(Nat->Nat->Int)->Int
 |0,_=>1
 |n+1,f=>sm (n+1) fun k=>sg k*f 0 k*D n (fun i j=>f (i+1) (skip k j))
theorem cE:∀(n:Nat) (f g:Nat->Nat->Int),(∀i j,i<n->j<n->f i j=g i j)->D n f=D n g
 |0,_,_,_=>rfl
 |n+1,f,g,h=>by
  unfold D;refine cv _ _ _ fun k hk=>?_;rw[h 0 k aa hk,cE n _ _ fun i j hi hj=>h (i+1) (skip k j) aa (by unfold skip;split<;>omega)]
def upd(f:Nat->Nat->Int)(i:Nat)(a:Nat->Int):Nat->Nat->Int:=fun k j=>if k=i then a j else f k j
theorem rH(x y:Int):∀(n:Nat) (f:Nat->Nat->Int) (i:Nat) (a b:Nat->Int),i<n->D n (upd f i fun j=>x*a j+y*b j)=x*D n (upd f i a)+y*D n (upd f i b)
 |0,_,_,_,_,h=>by omega
 |n+1,f,0,a,b,_=>by
  unfold D;rw[<-pS];refine cv _ _ _ fun k _=>?_;have e:∀c:Nat->Int,(fun i j=>upd f 0 c (i+1) (skip k j))=fun i j=>f (i+1) (skip k j):=fun c=>by
   funext i j;unfold upd;rw[ai aa]
  rw[e,e,e];generalize D n (fun i j=>f (i+1) (skip k j))=d;unfold upd;rw[aj rfl,aj rfl,aj rfl];generalize sg k=s;rw[mf,Int.add_mul];congr 1
  ·rw[<-de,gI s x,de,de,de]
  ·rw[<-de,gI s y,de,de,de]
 |n+1,f,i+1,a,b,h=>by
  unfold D;rw[<-pS];refine cv _ _ _ fun k _=>?_;have e:∀c:Nat->Int,(fun i' j=>upd f (i+1) c (i'+1) (skip k j))=upd (fun i' j=>f (i'+1) (skip k j)) i (fun j=>c (skip k j)):=fun c=>by
   funext i' j;unfold upd;simp
  rw[e,e,e];have ih:=rH x y n (fun i' j=>f (i'+1) (skip k j)) i (fun j=>a (skip k j)) (fun j=>b (skip k j)) aa;rw[ih];generalize D n (upd _ i fun j=>a (skip k j))=d1;generalize D n (upd _ i fun j=>b (skip k j))=d2;have e0:∀c:Nat->Int,upd f (i+1) c 0 k=f 0 k:=fun c=>by unfold upd;rw[ai aa]
  rw[e0,e0,e0];generalize sg k*f 0 k=s;rw[mf,<-de,<-de,<-de,<-de,gI s x,gI s y]
theorem Dy{k m:Nat}(h:k<m)(j:Nat):skip k (skip (m-1) j)=skip m (skip k j):=by
 unfold skip;(repeat' split)<;>omega
theorem C1:∀(n:Nat) (f:Nat->Nat->Int) (i:Nat),i+1<n->(∀j,f i j=f (i+1) j)->D n f=0
 |0,_,_,h,_=>by omega
 |1,_,_,h,_=>by omega
 |n+2,f,0,_,he=>by
  let U:Nat->Nat->Int:=fun k m=>if m=k then 0 else if m<k then sg k*f 0 k*(sg m*f 0 m*D n fun i j=>f (i+2) (skip k (skip m j)))else sg k*f 0 k*(sg (m-1)*f 0 m*D n fun i j=>f (i+2) (skip k (skip (m-1) j)))
  have h1:D (n+2) f=sm (n+2) (fun k=>sm (n+2) (U k)):=by
   unfold D;refine cv _ _ _ fun k hk=>?_;rw[zM (U k) (n+1) k aa,show U k k=0 from aj rfl,lx];unfold D;have:=tJ (sg k*f 0 k) (n+1) (fun l=>sg l*f (0+1) (skip k l)*D n fun i j=>f (i+1+1) (skip k (skip l j)));refine this.symm.trans ?_;refine cv _ _ _ fun l hl=>?_;show _=if skip k l=k then 0 else _
   rw[ai (by unfold skip;split<;>omega),<-he];by_cases hlk:l<k
   ·rw[show skip k l=l by unfold skip;rw[aj hlk],aj hlk]
   ·rw[show skip k l=l+1 by unfold skip;rw[ai hlk],ai aa,sZ]
  rw[h1];have flip:∀k m,k<m->U k m= -(U m k):=fun k m h=>by
   show(if m=k then 0 else if m<k then _ else _)= -(if k=m then 0 else if k<m then _ else _);rw[ai aa,ai aa,ai aa,aj h];have e1:(fun i j=>f (i+2) (skip k (skip (m-1) j)))=fun i j=>f (i+2) (skip m (skip k j)):=by
    funext i j;rw[Dy h]
   rw[e1];generalize D n (fun i j=>f (i+2) (skip m (skip k j)))=d;have e2:sg m= -(sg (m-1)):=by
    conv=>lhs;rw[show m=m-1+1 by omega]
    exact nG _
   rw[e2];generalize sg (m-1)=s;generalize sg k=t;generalize f 0 k=a;generalize f 0 m=b;rw[tA (t*a) (s*b) d,kg,kg,Int.neg_neg]
  refine IS _ _ fun k m _ _=>?_;rcases kJ k m with h|h|h
  ·exact flip k m h
  ·subst h;rw[show U k k=0 from aj rfl];rfl
  ·rw[flip m k h,Int.neg_neg]
 |n+2,f,i+1,h,he=>by
  unfold D;refine iY _ _ fun k _=>?_;rw[C1 (n+1) (fun i' j=>f (i'+1) (skip k j)) i aa fun j=>he (skip k j),lv]
theorem jD{f:Nat->Nat->Int}{i j:Nat}(h:i≠j)(a b:Nat->Int):upd (upd f i a) j b=upd (upd f j b) i a:=by
 funext k l;unfold upd;by_cases e:k=j
 ·rw[aj e,ai aa,aj e]
 ·rw[ai e,ai e]
theorem lC(f:Nat->Nat->Int)(i:Nat):upd f i (f i)=f:=by
 funext k l;unfold upd;split
 ·rename_i e;rw[e]
 ·rfl
theorem zp{n:Nat}(f:Nat->Nat->Int){i:Nat}(a b:Nat->Int)(hi:i<n):D n (upd f i fun j=>a j+b j)=D n (upd f i a)+D n (upd f i b):=by
 have:=rH 1 1 n f i a b hi;rw[show(fun j=>a j+b j)=fun j=>1*a j+1*b j by funext j;omega,this];omega
theorem E3{n i j:Nat}(hi:i<n)(hj:j<n)(hij:i≠j)(h0:∀f:Nat->Nat->Int,(∀l,f i l=f j l)->D n f=0)(f:Nat->Nat->Int)(a b:Nat->Int):
  D n (upd (upd f i a) j b)= -(D n (upd (upd f i b) j a)):=by
 have z:∀c:Nat->Int,D n (upd (upd f i c) j c)=0:=fun c=>h0 _ fun l=>by
  unfold upd;rw[ai hij,aj rfl,aj rfl]
 have h1:=z fun l=>a l+b l;rw[zp _ _ _ hj,jD hij,zp _ _ _ hi,jD hij _ b,zp _ _ _ hi,<-jD hij a a,<-jD hij b a,<-jD hij a b,<-jD hij b b,z a,z b]at h1;omega
theorem D_eq(n:Nat):∀(d i:Nat),i+d+1<n->∀f:Nat->Nat->Int,(∀l,f i l=f (i+d+1) l)->D n f=0
 |0,i,h,f,he=>C1 n f i h he
 |d+1,i,h,f,he=>by
  have h1:=E3 (n:=n) (i:=i+d+1) (j:=i+d+2) aa aa aa (fun g hg=>C1 n g (i+d+1) aa hg) f (f (i+d+1)) (f (i+d+2));rw[lC,lC]at h1;rw[h1,D_eq n d i aa _ fun l=>by
   unfold upd;rw[ai aa,ai aa,ai aa,aj rfl];exact he l]
  rfl
theorem nR{n i j:Nat}(hi:i<n)(hj:j<n)(hij:i≠j)(f:Nat->Nat->Int)(h:∀l,f i l=f j l):D n f=0:=by
 by_cases h1:i<j
 ·obtain⟨d,rfl⟩:∃d,j=i+d+1:=⟨j-i-1,by omega⟩;exact D_eq n d i hj f h
 ·obtain⟨d,rfl⟩:∃d,i=j+d+1:=⟨i-j-1,by omega⟩;exact D_eq n d j hi f fun l=>(h l).symm
theorem E1{n i j:Nat}(hi:i<n)(hj:j<n)(hij:i≠j)(f:Nat->Nat->Int):D n (upd (upd f i (f j)) j (f i))= -(D n f):=by
 have:=E3 hi hj hij (fun g hg=>nR hi hj hij g hg) f (f j) (f i);rw[this,lC,lC]
theorem RE.lin{n:Nat}{A B:Mat}(h:RE A B)(L:List Int->Prop)(h1:∀a b q,a.length=n->b.length=n->L a->L b->L (zf q a b))(h2:∀a,L a->L (Mx.neg a)):Rc n A->(∀i,i<A.length->L (rw A i))->∀i,i<B.length->L (rw B i):=by
 induction h with
 |refl=>exact fun _ h=>h
 |add M i j q hi hj hij=>
  intro hM h k hk;rw[lF _ _ _ _ hi];split
  ·exact h1 _ _ q (hM.rw hi) (hM.rw hj) (h i hi) (h j hj)
  ·exact h k (by simpa using hk)
 |neg M i hi=>
  intro hM h k hk;rw[lF _ _ _ _ hi];split
  ·exact h2 _ (h i hi)
  ·exact h k (by simpa using hk)
 |swp M i j hi hj=>
  intro hM h k hk;rw[iX]at hk;rw[xS hi hj];split
  ·exact h i hi
  ·split
   ·exact h j hj
   ·exact h k hk
 |trans g1 _ i1 i2=>exact fun hM h=>i2 (g1.rc hM) (i1 hM h)
end Mx
end
section
open Go.RowKit Go.BigFrame
attribute [local go_sem ↓] Go.wp_at_zero Go.wp_at_succ
structure Chg(g:Nat)(w w':World):Prop where
 os:w'.os=w.os
 tape:w'.tape=w.tape
 output:w'.output=w.output
 size:w.heap.size<=w'.heap.size
 block:∀k,k<w.heap.size->k≠g->w'.heap[k]?=w.heap[k]?
theorem Chg.refl(g:Nat)(w:World):Chg g w w:=⟨rfl,rfl,rfl,af _,fun _ _ _=>rfl⟩
theorem Chg.of{g:Nat}{w w':World}(h:Below w.heap.size w w'):Chg g w w':=⟨h.os,h.tape,h.output,h.size,fun k hk _=>h.block k hk⟩
theorem Chg.trans{g:Nat}{a b c:World}(h:Chg g a b)(k:Chg g b c):Chg g a c:=
 ⟨k.os.trans h.os,k.tape.trans h.tape,k.output.trans h.output,aX h.size k.size,fun i hi hg=>(k.block i (aJ hi h.size) hg).trans (h.block i hi hg)⟩
theorem Chg.below{g B:Nat}{W w w':World}(h:Below B W w)(k:Chg g w w')(hg:B<=g)(hB:B<=w.heap.size):Below B W w':=
 ⟨k.os.trans h.os,k.tape.trans h.tape,k.output.trans h.output,aX h.size k.size,fun i hi=>(k.block i aa aa).trans (h.block i hi)⟩
theorem Chg.set{g:Nat}{w w':World}(h:Chg g w w')(b o:Nat)(v:Value)(hb:b=g\/w.heap.size<=b):Chg g w (w'.setCell ⟨b,o,none⟩ v):=
 ⟨h.os,h.tape,h.output,by simpa using h.size,fun k hk hg=>by
  simp only[World.setCell,rT];rw[ai aa];exact h.block k hk hg⟩
theorem Chg.drew{g:Nat}{w w':World}(h:Chg g w w'):Chg g w w'.drew:=h.trans (Chg.of (Below.refl _ _).drew)
theorem Chg.cell{g:Nat}{w w':World}(h:Chg g w w'){b o:Nat}(hb:b<w.heap.size)(hg:b≠g):w'.cell? ⟨b,o,none⟩=w.cell? ⟨b,o,none⟩:=World.cell?_of_block (h.block b hb hg)
theorem frozen?_of_block{w w':World}{b o:Nat}(h:w'.heap[b]?=w.heap[b]?):w'.frozen? ⟨b,o,none⟩=w.frozen? ⟨b,o,none⟩:=by
 simp only[World.frozen?,h]
theorem Chg.frozen{g:Nat}{w w':World}(h:Chg g w w'){b o:Nat}(hb:b<w.heap.size)(hg:b≠g):w'.frozen? ⟨b,o,none⟩=w.frozen? ⟨b,o,none⟩:=frozen?_of_block (h.block b hb hg)
def NW(w:World)(g:Nat):Prop:=∀n,w.cell? ⟨g,0,none⟩≠some (.int .u32 n)
theorem WS.chg{g:Nat}{w w':World}{a:Option Addr}{l:List Nat}(h:WS w a l)(k:Chg g w w')(hb:NW w g):WS w' a l:=by
 rcases h with h|⟨b,e,hg,hc⟩
 ·exact .inl h
 ·by_cases hl:l=[]
  ·exact .inl hl
  have hne:b≠g:=fun e2=>by
   have h0:=hc 0 _ (aS (gA.2 hl));rw[e2]at h0;exact hb _ h0
  exact .inr ⟨b,e,aJ hg k.size,fun i x hk=>(k.cell hg hne).trans (hc i x hk)⟩
theorem IW.chg{g:Nat}{w w':World}{x:IV}{l:List Nat}(h:IW w x l)(k:Chg g w w')(hb:NW w g):IW w' x l:=⟨h.n,h.cap,h.ws.chg k hb,h.nf⟩
theorem IZ.chg{g:Nat}{w w':World}{x:IV}{z:Int}(h:IZ w x z)(k:Chg g w w')(hb:NW w g):IZ w' x z:=by
 obtain⟨l,h1,h2,h3⟩:=h;exact⟨l,h1.chg k hb,h2,h3⟩
structure RA(w:World)(g o:Nat)(zs:List Int):Prop where
 lt:g<w.heap.size
 c:∀(k:Nat) (z:Int),zs[k]?=some z->∃x:IV,w.cell? ⟨g,o+k*2,none⟩=some (.bool x.s)/\w.cell? ⟨g,o+k*2+1,none⟩=some (.slice x.a x.n x.cap)/\IZ w x z
theorem RA.below{B:Nat}{w w':World}{g o:Nat}{zs:List Int}(h:RA w g o zs)(hb:Below B w w')(hB:w.heap.size<=B):RA w' g o zs:=
 ⟨aJ h.lt hb.size,fun k z hz=>by
  obtain⟨x,h1,h2,h3⟩:=h.c k z hz;have hg:g<B:=aJ h.lt hB;exact⟨x,(hb.cell (p:=⟨g,_,none⟩) hg).trans h1,(hb.cell (p:=⟨g,_,none⟩) hg).trans h2,h3.below hb hB⟩⟩
def RO(w:World)(g:Nat)(zs:List Int):Prop:=∃xs,RI w g xs zs
theorem RI.ra{w:World}{g:Nat}{xs:List IV}{zs:List Int}(h:RI w g xs zs):RA w g 0 zs:=
 ⟨h.lt,fun k z hz=>by
  have hk:=(bW.1 hz).1;obtain⟨x,hx⟩:∃x,xs[k]?=some x:=⟨_,aS (by rw[h.len];exact hk)⟩;rw[bG];exact⟨x,h.c0 k x hx,h.c1 k x hx,h.iz k x z hx hz⟩⟩
theorem RO.ra{w:World}{g:Nat}{zs:List Int}(h:RO w g zs):RA w g 0 zs:=h.elim fun _ h=>h.ra
theorem RI.nw{w:World}{g:Nat}{xs:List IV}{zs:List Int}(h:RI w g xs zs)(hz:zs≠[]):NW w g:=fun n e=>by
 obtain⟨x,hx⟩:∃x,xs[0]?=some x:=⟨_,aS (by rw[h.len];exact gA.2 hz)⟩;have:=h.c0 0 x hx;rw[ka,e]at this;cases this
theorem RO.nw{w:World}{g:Nat}{zs:List Int}(h:RO w g zs)(hz:zs≠[]):NW w g:=h.elim fun _ h=>h.nw hz
theorem RI.chg{b:Nat}{w w':World}{g:Nat}{xs:List IV}{zs:List Int}(h:RI w g xs zs)(k:Chg b w w')(hb:NW w b)(hne:g≠b):RI w' g xs zs:=
 ⟨aJ h.lt k.size,h.len,fun i x hx=>(k.cell h.lt hne).trans (h.c0 i x hx),fun i x hx=>(k.cell h.lt hne).trans (h.c1 i x hx),fun i=>(k.frozen h.lt hne).trans (h.fr i),fun i x z hx hz=>(h.iz i x z hx hz).chg k hb⟩
theorem RO.chg{b:Nat}{w w':World}{g:Nat}{zs:List Int}(h:RO w g zs)(k:Chg b w w')(hb:NW w b)(hne:g≠b):RO w' g zs:=h.elim fun xs h=>⟨xs,h.chg k hb hne⟩
theorem RO.below{B:Nat}{w w':World}{g:Nat}{zs:List Int}(h:RO w g zs)(hb:Below B w w')(hB:w.heap.size<=B):RO w' g zs:=h.elim fun xs h=>⟨xs,h.below hb hB⟩
theorem RO.lt{w:World}{g:Nat}{zs:List Int}(h:RO w g zs):g<w.heap.size:=h.elim fun _ h=>h.lt
theorem RO.at{w:World}{g:Nat}{zs:List Int}(h:RO w g zs){k:Nat}{z:Int}(hz:zs[k]?=some z):
  ∃x:IV,w.cell? ⟨g,k*2,none⟩=some (.bool x.s)/\w.cell? ⟨g,k*2+1,none⟩=some (.slice x.a x.n x.cap)/\IZ w x z/\w.frozen? ⟨g,k*2,none⟩=false/\w.frozen? ⟨g,k*2+1,none⟩=false:=by
 obtain⟨xs,h⟩:=h;have hk:=(bW.1 hz).1;obtain⟨x,hx⟩:∃x,xs[k]?=some x:=⟨_,aS (by rw[h.len];exact hk)⟩;exact⟨x,h.c0 k x hx,h.c1 k x hx,h.iz k x z hx hz,h.fr _,h.fr _⟩
theorem RO.set{w:World}{g k:Nat}{zs:List Int}(h:RO w g zs)(hk:k<zs.length){x:IV}{z:Int}(hz:IZ w x z):RO (eH w g k x) g (zs.set k z):=by
 obtain⟨xs,h⟩:=h;exact⟨_,h.set (by rw[h.len];exact hk) hz⟩
theorem sk{w w':World}{g:Nat}(h:Chg g w w')(k:Nat)(x:IV):Chg g w (eH w' g k x):=(h.set g _ _ (.inl rfl)).set g _ _ (.inl rfl)
theorem getD_some{l:List Int}{k:Nat}(h:k<l.length):l[k]?=some (l.getD k 0):=by
 rw[aH,aS h];rfl
def part(k:Nat)(a b:List Int):List Int:=a.take k++b.drop k
theorem FK{a b:List Int}{k:Nat}(h:a.length<=k)(h2:b.length<=k):part k a b=a:=by
 unfold part;rw[eA h,pI h2,tw]
theorem FJ{a b:List Int}(h:a.length=b.length){k:Nat}{z:Int}(hz:a[k]?=some z):(part k a b).set k z=part (k+1) a b:=by
 have hk:=(bW.1 hz).1;unfold part;rw[wF,ai xp,aQ,dT aa,ly,wM (by omega:k<b.length),iy,ov,hz];simp
end
section
open Go.RowKit
namespace DW
inductive D where
 |any
 |sc (v:Value)
 |nm (z:Int)
 |ls (wd:Nat) (l:List D)
 |st (l:List D)
 |pt (d:D)
 |tp (l:List D)
 |own (k:Nat)
 |opt (k off:Nat)
 |cl (g:Nat) (l:List D)
 deriving Inhabited
mutual
def D.wd:D->Nat
 | .any=>0
 | .sc _=>1
 | .nm _=>2
 | .ls _ _=>1
 | .st l=>D.wds l
 | .pt _=>1
 | .tp _=>0
 | .own _=>1
 | .opt _ _=>1
 | .cl _ _=>1
def D.wds:List D->Nat
 |[]=>0
 |d::l=>D.wd d+D.wds l
end
def D.agg:D->Bool
 | .nm _=>true
 | .st _=>true
 |_=>false
def D.fits:D->Bool
 | .any=>false
 | .tp _=>false
 | .own _=>false
 | .opt _ _=>false
 | .cl _ _=>false
 |_=>true
mutual
def AR(X:Nat->Prop)(w:World):D->Value->Prop
 | .any,_=>True
 | .sc u,v=>v=u/\u.oneCell'=true
 | .nm z,v=>∃x:IV,v= .agg #[.bool x.s,.slice x.a x.n x.cap]/\IZ w x z
 | .ls wd l,v=>∃a c,v= .slice a l.length c/\l.length<=c/\(l=[]\/∃b o,a=some ⟨b,o,none⟩/\¬X b/\b<w.heap.size/\ARs X w b wd l o)
 | .st l,v=>∃cs,v= .agg cs/\ASt X w l cs.toList
 | .pt d,v=>∃b o u,v= .pointer (some ⟨b,o,none⟩)/\¬X b/\b<w.heap.size/\AR X w d u/\w.rangeAt b o u.cells.toList
 | .tp l,v=>∃vs,v= .tuple vs/\ATp X w l vs.toList
 | .own _,_=>False
 | .opt _ _,_=>False
 | .cl g l,v=>∃us,v= .func (.func g) #[] us/\ATp X w l us.toList
def ARs(X:Nat->Prop)(w:World)(b wd:Nat):List D->Nat->Prop
 |[],_=>True
 |d::l,o=>(∃u,AR X w d u/\d.fits=true/\d.wd=wd/\w.rangeAt b o u.cells.toList)/\ARs X w b wd l (o+wd)
def ASt(X:Nat->Prop)(w:World):List D->List Value->Prop
 |[],cs=>cs=[]
 |d::l,cs=>∃u rest,cs=u.cells.toList++rest/\AR X w d u/\d.fits=true/\ASt X w l rest
def ATp(X:Nat->Prop)(w:World):List D->List Value->Prop
 |[],vs=>vs=[]
 |d::l,vs=>∃u rest,vs=u::rest/\AR X w d u/\ATp X w l rest
end
structure Agr(X:Nat->Prop)(w w':World):Prop where
 size:w.heap.size<=w'.heap.size
 block:∀b,b<w.heap.size->¬X b->w'.heap[b]?=w.heap[b]?
 iz:∀x z,IZ w x z->IZ w' x z
theorem Agr.of{w w':World}(X:Nat->Prop)(h:Below w.heap.size w w'):Agr X w w':=⟨h.size,fun b hb _=>h.block b hb,fun _ _ hz=>hz.below h (af _)⟩
theorem Agr.refl(X:Nat->Prop)(w:World):Agr X w w:=⟨af _,fun _ _ _=>rfl,fun _ _ h=>h⟩
theorem Agr.range{X:Nat->Prop}{w w':World}(k:Agr X w w'){b o:Nat}{cs:List Value}(hb:b<w.heap.size)(hX:¬X b)(h:w.rangeAt b o cs):w'.rangeAt b o cs:=fun j v hj=>
 (World.cell?_of_block (k.block b hb hX)).trans (h j v hj)
mutual
theorem AR.agr{X X':Nat->Prop}{w w':World}(k:Agr X w w')(hX:∀b,b<w.heap.size->X' b->X b):∀(d:D) (v:Value),AR X w d v->AR X' w' d v
 | .any,_,_=>by simp only[AR]
 | .sc u,v,h=>by simp only[AR]at h⊢;exact h
 | .nm z,v,h=>by
  simp only[AR]at h⊢;obtain⟨x,h1,h2⟩:=h;exact⟨x,h1,k.iz _ _ h2⟩
 | .ls wd l,v,h=>by
  simp only[AR]at h⊢;obtain⟨a,c,h1,h2,h3⟩:=h;refine⟨a,c,h1,h2,?_⟩;rcases h3 with h3|⟨b,o,h4,h5,h6,h7⟩
  ·exact .inl h3
  ·exact .inr ⟨b,o,h4,fun e=>h5 (hX b h6 e),aJ h6 k.size,ARs.agr k hX b wd h6 h5 l o h7⟩
 | .st l,v,h=>by
  simp only[AR]at h⊢;obtain⟨cs,h1,h2⟩:=h;exact⟨cs,h1,ASt.agr k hX l _ h2⟩
 | .pt d,v,h=>by
  simp only[AR]at h⊢;obtain⟨b,o,u,h1,h2,h3,h4,h5⟩:=h;exact⟨b,o,u,h1,fun e=>h2 (hX b h3 e),aJ h3 k.size,AR.agr k hX d u h4,k.range h3 h2 h5⟩
 | .tp l,v,h=>by
  simp only[AR]at h⊢;obtain⟨vs,h1,h2⟩:=h;exact⟨vs,h1,ATp.agr k hX l _ h2⟩
 | .own _,_,h=>by simp only[AR]at h
 | .opt _ _,_,h=>by simp only[AR]at h
 | .cl g l,v,h=>by
  simp only[AR]at h⊢;obtain⟨vs,h1,h2⟩:=h;exact⟨vs,h1,ATp.agr k hX l _ h2⟩
theorem ARs.agr{X X':Nat->Prop}{w w':World}(k:Agr X w w')(hX:∀b,b<w.heap.size->X' b->X b)(b wd:Nat)(hb:b<w.heap.size)(hXb:¬X b):∀(l:List D) (o:Nat),ARs X w b wd l o->ARs X' w' b wd l o
 |[],_,_=>by simp only[ARs]
 |d::l,o,h=>by
  simp only[ARs]at h⊢;obtain⟨⟨u,h1,h2,h3,h4⟩,h5⟩:=h;exact⟨⟨u,AR.agr k hX d u h1,h2,h3,k.range hb hXb h4⟩,ARs.agr k hX b wd hb hXb l _ h5⟩
theorem ASt.agr{X X':Nat->Prop}{w w':World}(k:Agr X w w')(hX:∀b,b<w.heap.size->X' b->X b):∀(l:List D) (cs:List Value),ASt X w l cs->ASt X' w' l cs
 |[],_,h=>by simp only[ASt]at h⊢;exact h
 |d::l,cs,h=>by
  simp only[ASt]at h⊢;obtain⟨u,rest,h1,h2,h3,h4⟩:=h;exact⟨u,rest,h1,AR.agr k hX d u h2,h3,ASt.agr k hX l rest h4⟩
theorem ATp.agr{X X':Nat->Prop}{w w':World}(k:Agr X w w')(hX:∀b,b<w.heap.size->X' b->X b):∀(l:List D) (vs:List Value),ATp X w l vs->ATp X' w' l vs
 |[],_,h=>by simp only[ATp]at h⊢;exact h
 |d::l,vs,h=>by
  simp only[ATp]at h⊢;obtain⟨u,rest,h1,h2,h3⟩:=h;exact⟨u,rest,h1,AR.agr k hX d u h2,ATp.agr k hX l rest h3⟩
end
theorem AR.grow{X:Nat->Prop}{w w':World}{d:D}{v:Value}(h:AR X w d v)(k:Below w.heap.size w w'):AR X w' d v:=AR.agr (Agr.of X k) (fun _ _ h=>h) d v h
theorem AR.free{X X':Nat->Prop}{w:World}{d:D}{v:Value}(h:AR X w d v)(hX:∀b,b<w.heap.size->X' b->X b):AR X' w d v:=AR.agr (Agr.refl X w) hX d v h
theorem kr{u:Value}(h:u.oneCell'=true):u.cells= #[u]:=by
 cases u<;>first|rfl|simp[Value.oneCell']at h
mutual
theorem AR.size{X:Nat->Prop}{w:World}:∀(d:D) (v:Value),d.fits=true->AR X w d v->v.cells.size=d.wd
 | .any,_,h,_=>by simp[D.fits]at h
 | .sc u,v,_,h=>by
  simp only[AR]at h;obtain⟨rfl,h⟩:=h;rw[kr h];rfl
 | .nm z,v,_,h=>by
  simp only[AR]at h;obtain⟨x,rfl,_⟩:=h;rfl
 | .ls wd l,v,_,h=>by
  simp only[AR]at h;obtain⟨a,c,rfl,_⟩:=h;rfl
 | .st l,v,_,h=>by
  simp only[AR]at h;obtain⟨cs,rfl,h⟩:=h;have:=ASt.sz l _ h;simpa[Value.cells,D.wd]using this
 | .pt d,v,_,h=>by
  simp only[AR]at h;obtain⟨b,o,u,rfl,_⟩:=h;rfl
 | .tp l,v,h,_=>by simp[D.fits]at h
 | .own _,_,h,_=>by simp[D.fits]at h
 | .opt _ _,_,h,_=>by simp[D.fits]at h
 | .cl _ _,_,h,_=>by simp[D.fits]at h
theorem ASt.sz{X:Nat->Prop}{w:World}:∀(l:List D) (cs:List Value),ASt X w l cs->cs.length=D.wds l
 |[],cs,h=>by simp only[ASt]at h;subst h;rfl
 |d::l,cs,h=>by
  simp only[ASt]at h;obtain⟨u,rest,rfl,h2,h3,h4⟩:=h;have h5:=ASt.sz l rest h4;have h6:=AR.size d u h3 h2;simp only[cL,bJ,D.wds];omega
end
theorem AR.shape{X:Nat->Prop}{w:World}{d:D}{v:Value}(hf:d.fits=true)(h:AR X w d v):if d.agg then v= .agg v.cells else(v.oneCell'=true/\v.cells= #[v]):=by
 cases d with
 |any=>simp[D.fits]at hf
 |tp l=>simp[D.fits]at hf
 |own k=>simp[D.fits]at hf
 |opt k o=>simp[D.fits]at hf
 |cl g l=>simp[D.fits]at hf
 |sc u=>simp only[AR]at h;obtain⟨rfl,h⟩:=h;exact⟨h,kr h⟩
 |nm z=>simp only[AR]at h;obtain⟨x,rfl,_⟩:=h;rfl
 |ls wd l=>simp only[AR]at h;obtain⟨a,c,rfl,_⟩:=h;exact⟨rfl,rfl⟩
 |st l=>simp only[AR]at h;obtain⟨cs,rfl,_⟩:=h;rfl
 |pt d=>simp only[AR]at h;obtain⟨b,o,u,rfl,_⟩:=h;exact⟨rfl,rfl⟩
theorem ARs.at{X:Nat->Prop}{w:World}{b wd:Nat}:∀{l:List D} {o i:Nat} {d:D},ARs X w b wd l o->l[i]?=some d->∃u,AR X w d u/\d.fits=true/\d.wd=wd/\w.rangeAt b (o+i*wd) u.cells.toList
 |[],_,_,_,_,h=>by simp at h
 |d::l,o,0,d',h,e=>by
  simp only[ARs]at h;simp at e;subst e;obtain⟨h1,_⟩:=h;simpa using h1
 |d::l,o,i+1,d',h,e=>by
  simp only[ARs]at h;have:=ARs.at h.2 oc;rw[bU,cC,jY (i*wd) wd,<-mq];exact this
theorem ARs.mk{X:Nat->Prop}{w:World}{b wd:Nat}:∀{l:List D} {o:Nat},(∀i d,l[i]?=some d->∃u,AR X w d u/\d.fits=true/\d.wd=wd/\w.rangeAt b (o+i*wd) u.cells.toList)->ARs X w b wd l o
 |[],_,_=>by simp only[ARs]
 |d::l,o,h=>by
  simp only[ARs];refine⟨by simpa using h 0 d rfl,ARs.mk fun i d' hd=>?_⟩;have:=h (i+1) d' (by simpa using hd);rw[bU,cC,jY (i*wd) wd,<-mq]at this;exact this
theorem ASt.at{X:Nat->Prop}{w:World}:∀{l:List D} {i:Nat} {d:D} {cs:List Value},ASt X w l cs->l[i]?=some d->∃u,AR X w d u/\d.fits=true/\∀j v,u.cells.toList[j]?=some v->cs[D.wds (l.take i)+j]?=some v
 |[],_,_,_,_,h=>by simp at h
 |d::l,0,d',cs,h,e=>by
  simp only[ASt]at h;simp at e;subst e;obtain⟨u,rest,rfl,h2,h3,_⟩:=h;refine⟨u,h2,h3,fun j v hj=>?_⟩;have hl:=(bW.1 hj).1;simp only[eU,D.wds,bG];rw[en hl];exact hj
 |d::l,i+1,d',cs,h,e=>by
  simp only[ASt]at h;obtain⟨u,rest,rfl,h2,h3,h4⟩:=h;obtain⟨u',k1,k2,k3⟩:=ASt.at h4 oc;refine⟨u',k1,k2,fun j v hj=>?_⟩;have h6:=AR.size d u h3 h2;simp only[fT,D.wds];rw[iE zb70,bJ,h6,show D.wd d+D.wds (List.take i l)+j-D.wd d=D.wds (List.take i l)+j by omega];exact k3 j v hj
theorem ATp.at{X:Nat->Prop}{w:World}:∀{l:List D} {i:Nat} {d:D} {vs:List Value},ATp X w l vs->l[i]?=some d->∃u,vs[i]?=some u/\AR X w d u
 |[],_,_,_,_,h=>by simp at h
 |d::l,0,d',vs,h,e=>by
  simp only[ATp]at h;simp at e;subst e;obtain⟨u,rest,rfl,h2,_⟩:=h;exact⟨u,rfl,h2⟩
 |d::l,i+1,d',vs,h,e=>by
  simp only[ATp]at h;obtain⟨u,rest,rfl,h2,h3⟩:=h;obtain⟨u',k1,k2⟩:=ATp.at h3 oc;exact⟨u',by simpa using k1,k2⟩
end DW
end
section
open Go.RowKit
namespace DW
structure Ow where
 T:TypeId
 wd:Nat
 l:List D
structure S where
 sl:List (Nat×D)
 ow:List (Nat×Ow)
def look:List (Nat×D)->Nat->D
 |[],_=>.any
 |(u,d)::l,t=>if u=t then d else look l t
def S.gt(s:S)(t:Nat):D:=look s.sl t
def S.put(s:S)(dst:Option Tmp)(d:D):S:=
 match dst with
 |some t=>⟨(t,d)::s.sl,s.ow⟩
 |none=>s
def cstL:List Value->D
 |[.bool false,.slice none 0 0]=>.nm 0
 |l=>if l.all (·.oneCell')then .st (l.map .sc)else .any
def cst:Value->D
 | .agg cs=>cstL cs.toList
 | .tuple _=>.any
 |v=>.sc v
def S.op(s:S):Operand->D
 | .tmp t=>s.gt t
 | .const v=>cst v
 | .global _=>.any
 | .func f=>.sc (.func (.func f) #[] #[])
def SR(X:Nat->Prop)(f:Nat->Value)(w:World)(d:D)(v:Value):Prop:=
 match d with
 | .own k=>v=f k
 | .opt k off=>∃g n c,f k= .slice (some ⟨g,0,none⟩) n c/\v= .pointer (some ⟨g,off,none⟩)
 |d=>AR X w d v
def XO(X0:Nat->Prop)(s:S)(f:Nat->Value)(b:Nat):Prop:=X0 b\/∃p∈s.ow,(f p.1).ownBlock=some b
def D.nw:D->Bool
 | .sc (.int .u32 _)=>false
 | .sc _=>true
 | .nm _=>true
 | .ls _ _=>true
 | .pt _=>true
 | .st (d::_)=>d.nw&&decide (0<d.wd)
 |_=>false
def Els(X:Nat->Prop)(w:World)(wd:Nat):List D->List Value->Prop
 |[],xs=>xs=[]
 |d::l,xs=>∃u rest,xs=u.cells.toList++rest/\AR X w d u/\d.fits=true/\d.wd=wd/\d.nw=true/\Els X w wd l rest
def hdr(k:Nat):Bool:=Nat.ble 2000000 k&&(Nat.blt k 3000000||Nat.ble 4000000 k)
def im(k:Nat):Bool:=Nat.ble 1000000 k&&Nat.blt k 2000000||Nat.ble 3000000 k&&Nat.blt k 4000000
def pin(k:Nat):Bool:=Nat.ble 3000000 k
theorem hZ{k:Nat}(h:Nat.blt k 1000000=true):hdr k=false:=by
 rw[aV]at h;unfold hdr
 cases hb:Nat.ble 2000000 k with
 |false=>rfl
 |true=>rw[ny]at hb;omega
theorem kW{j k:Nat}(h:Nat.blt k 1000000=true)(hj:im j=true):j≠k:=fun e=>by
 subst e;rw[aV]at h;simp only[im,nv,bV,ny,aV]at hj;omega
theorem kX{j k:Nat}(h:Nat.blt k 1000000=true)(hj:pin j=true):j≠k:=fun e=>by
 subst e;rw[aV]at h;simp only[pin,ny]at hj;omega
def D.row:D->Option Nat
 | .own j=>some j
 |_=>none
def ER(X:Nat->Prop)(f:Nat->Value)(w:World)(d:D)(u:Value):Prop:=
 match d with
 | .own j=>im j=true/\u=f j/\∃a n c,u= .slice a n c
 |d=>AR X w d u/\d.fits=true
def ElH(X:Nat->Prop)(f:Nat->Value)(w:World):List D->List Value->Prop
 |[],xs=>xs=[]
 |d::l,xs=>∃u rest,xs=u::rest/\u.oneCell'=true/\u.cells= #[u]/\ER X f w d u/\d.wd=1/\(∀n,u≠ .int .u32 n)/\ElH X f w l rest
def EE(X:Nat->Prop)(f:Nat->Value)(w:World)(k wd:Nat)(l:List D)(xs:List Value):Prop:=
 match hdr k with
 |false=>Els X w wd l xs
 |true=>wd=1/\ElH X f w l xs
theorem EE.pl{X:Nat->Prop}{f:Nat->Value}{w:World}{k wd:Nat}{l:List D}{xs:List Value}(h:EE X f w k wd l xs)(hk:hdr k=false):Els X w wd l xs:=by unfold EE at h;rw[hk]at h;exact h
theorem EE.of{X:Nat->Prop}{f:Nat->Value}{w:World}{k wd:Nat}{l:List D}{xs:List Value}(h:Els X w wd l xs)(hk:hdr k=false):EE X f w k wd l xs:=by unfold EE;rw[hk];exact h
def XW(X:Nat->Prop)(w:World):Prop:=∀b,X b->b<w.heap.size/\NW w b
theorem XW.grow{X:Nat->Prop}{w w':World}(h:XW X w)(k:Below w.heap.size w w'):XW X w':=fun b hb=>
 ⟨aJ (h b hb).1 k.size,fun m hm=>(h b hb).2 m ((k.cell (p:=⟨b,0,none⟩) (h b hb).1).symm.trans hm)⟩
def OW(X:Nat->Prop)(f:Nat->Value)(w:World)(base:Nat)(p:Nat×Ow):Prop:=0<p.2.wd/\∃xs,w.ownsRow base p.2.T p.2.wd (f p.1) p.2.l.length xs/\EE X f w p.1 p.2.wd p.2.l xs
structure Gr(Y:Nat->Prop)(w w':World):Prop where
 os:w'.os=w.os
 tape:w'.tape=w.tape
 output:w'.output=w.output
 size:w.heap.size<=w'.heap.size
 block:∀b,b<w.heap.size->¬Y b->w'.heap[b]?=w.heap[b]?
theorem Gr.refl(Y:Nat->Prop)(w:World):Gr Y w w:=⟨rfl,rfl,rfl,af _,fun _ _ _=>rfl⟩
theorem Gr.below{Y:Nat->Prop}{w w' w2:World}(h:Gr Y w w')(k:Below w'.heap.size w' w2):Gr Y w w2:=
 ⟨k.os.trans h.os,k.tape.trans h.tape,k.output.trans h.output,aX h.size k.size,fun b hb hy=>(k.block b (aJ hb h.size)).trans (h.block b hb hy)⟩
theorem Gr.grown{Y:Nat->Prop}{w w' w2:World}{r:Option Nat}(h:Gr Y w w')(k:w'.grownBy w2 r)(hr:∀b,r=some b->w.heap.size<=b\/Y b):Gr Y w w2:=
 ⟨k.os.trans h.os,k.tape.trans h.tape,k.output.trans h.output,aX h.size k.size,fun b hb hy=>(k.block b (aJ hb h.size) fun e=>by
  rcases hr b e.symm with h1|h1
  ·omega
  ·exact hy h1).trans (h.block b hb hy)⟩
structure Bs where
 w:World
 Y:Nat->Prop
 f:Nat->Value
structure Hd(X0:Nat->Prop)(n:Nat)(w0:Bs)(s:S)(f:Nat->Value)(a:Act)(w:World):Prop where
 sz:a.tmps.size=n
 df:a.defers=[]
 bl:Gr w0.Y w0.w w
 x0:XW X0 w0.w
 xy:∀b,X0 b->¬w0.Y b
 fx:∀j,pin j=true->f j=w0.f j
 lo:∀p∈s.ow,∀b,(f p.1).ownBlock=some b->w0.w.heap.size<=b\/w0.Y b
 sl:∀t,SR (XO X0 s f) f w (s.gt t) (a.tmps.getD t undef)
 ow:∀p∈s.ow,OW (XO X0 s f) f w 0 p
 nw:∀b,(∃p∈s.ow,(f p.1).ownBlock=some b)->NW w b
 dj:∀p∈s.ow,∀q∈s.ow,p.1≠q.1->∀b,(f p.1).ownBlock=some b->(f q.1).ownBlock≠some b
 un:∀p∈s.ow,∀q∈s.ow,p.1=q.1->p=q
theorem SR.any{X:Nat->Prop}{f:Nat->Value}{w:World}{v:Value}:SR X f w .any v:=by simp only[SR,AR]
theorem SR.grow{X:Nat->Prop}{f:Nat->Value}{w w':World}{d:D}{v:Value}(h:SR X f w d v)(k:Below w.heap.size w w'):SR X f w' d v:=by
 cases d<;>first|exact h|exact AR.grow h k
theorem Els.agr{X X':Nat->Prop}{w w':World}(k:Agr X w w')(hX:∀b,b<w.heap.size->X' b->X b){wd:Nat}:∀{l:List D} {xs:List Value},Els X w wd l xs->Els X' w' wd l xs
 |[],_,h=>h
 |_::_,_,⟨u,rest,h1,h2,h3,h4,hn,h5⟩=>⟨u,rest,h1,AR.agr k hX _ _ h2,h3,h4,hn,Els.agr k hX h5⟩
theorem ER.agr{X X':Nat->Prop}{f f':Nat->Value}{w w':World}(k:Agr X w w')(hX:∀b,b<w.heap.size->X' b->X b)(hf:∀j,im j=true->f' j=f j){d:D}{u:Value}(h:ER X f w d u):ER X' f' w' d u:=by
 cases d<;>first|exact⟨AR.agr k hX _ _ h.1,h.2⟩|exact⟨h.1,by rw[hf _ h.1];exact h.2.1,h.2.2⟩
theorem ElH.agr{X X':Nat->Prop}{f f':Nat->Value}{w w':World}(k:Agr X w w')(hX:∀b,b<w.heap.size->X' b->X b)(hf:∀j,im j=true->f' j=f j):∀{l:List D} {xs:List Value},ElH X f w l xs->ElH X' f' w' l xs
 |[],_,h=>h
 |_::_,_,⟨u,rest,h1,h2,h3,h4,h5,h6,h7⟩=>⟨u,rest,h1,h2,h3,ER.agr k hX hf h4,h5,h6,ElH.agr k hX hf h7⟩
theorem EE.agr{X X':Nat->Prop}{f f':Nat->Value}{w w':World}(k:Agr X w w')(hX:∀b,b<w.heap.size->X' b->X b)(hf:∀j,im j=true->f' j=f j){i wd:Nat}{l:List D}{xs:List Value}(h:EE X f w i wd l xs):EE X' f' w' i wd l xs:=by
 unfold EE at h⊢
 cases hh:hdr i with
 |false=>rw[hh]at h;exact Els.agr k hX h
 |true=>rw[hh]at h;exact⟨h.1,ElH.agr k hX hf h.2⟩
theorem OW.grow{X:Nat->Prop}{f:Nat->Value}{w w':World}{base:Nat}{p:Nat×Ow}(h:OW X f w base p)(k:Below w.heap.size w w'):OW X f w' base p:=by
 obtain⟨h0,xs,h1,h2⟩:=h;refine⟨h0,xs,?_,EE.agr (Agr.of X k) (fun _ _ h=>h) (fun _ _=>rfl) h2⟩;exact World.ownsRow.kept (row:=none) h1 ⟨k.os,k.tape,k.output,k.size,fun b hb _=>k.block b hb⟩ (by cases(f p.1).ownBlock<;>simp)
theorem OW.lt{X:Nat->Prop}{f:Nat->Value}{w:World}{base:Nat}{p:Nat×Ow}(h:OW X f w base p){b:Nat}(hb:(f p.1).ownBlock=some b):base<=b/\b<w.heap.size:=by
 obtain⟨_,xs,h1,_⟩:=h;exact World.ownsRow.lt h1 b hb
theorem XW.gr{X Y:Nat->Prop}{w w':World}(h:XW X w)(k:Gr Y w w')(hy:∀b,X b->¬Y b):XW X w':=fun b hb=>
 ⟨aJ (h b hb).1 k.size,fun m hm=>(h b hb).2 m ((World.cell?_of_block (a:=⟨b,0,none⟩) (k.block b (h b hb).1 (hy b hb))).symm.trans hm)⟩
theorem Hd.xlt{X0:Nat->Prop}{n:Nat}{w0:Bs}{s:S}{f:Nat->Value}{a:Act}{w:World}(h:Hd X0 n w0 s f a w):XW (XO X0 s f) w:=fun b hb=>by
 rcases hb with hb|⟨p,hp,hb⟩
 ·exact(h.x0.gr h.bl h.xy) b hb
 ·exact⟨((h.ow p hp).lt hb).2,h.nw b ⟨p,hp,hb⟩⟩
theorem Hd.grow{X0:Nat->Prop}{n:Nat}{w0:Bs}{s:S}{f:Nat->Value}{a:Act}{w w':World}(h:Hd X0 n w0 s f a w)(k:Below w.heap.size w w'):Hd X0 n w0 s f a w':=
 ⟨h.sz,h.df,h.bl.below k,h.x0,h.xy,h.fx,h.lo,fun t=>(h.sl t).grow k,fun p hp=>(h.ow p hp).grow k,fun b hb=>by
  have hb':=hb;obtain⟨p,hp,e⟩:=hb;exact fun m hm=>h.nw b hb' m ((k.cell (p:=⟨b,0,none⟩) ((h.ow p hp).lt e).2).symm.trans hm),h.dj,h.un⟩
theorem jN{a:Act}{t:Nat}{v:Value}(ht:t<a.tmps.size)(u:Nat):(a.put (some t) v).tmps.getD u undef=if t=u then v else a.tmps.getD u undef:=by
 simp only[Act.put,cg,nu];split
 ·simp
 ·rfl
theorem Hd.put{X0:Nat->Prop}{n:Nat}{w0:Bs}{s:S}{f:Nat->Value}{a:Act}{w:World}(h:Hd X0 n w0 s f a w){dst:Option Tmp}{d:D}{v:Value}(hd:SR (XO X0 s f) f w d v)(ht:∀t,dst=some t->t<n):Hd X0 n w0 (s.put dst d) f (a.put dst v) w:=by
 cases dst with
 |none=>exact h
 |some t=>
  have htn:=ht t rfl;refine⟨by simp[Act.put,h.sz],h.df,h.bl,h.x0,h.xy,h.fx,h.lo,fun u=>?_,h.ow,h.nw,h.dj,h.un⟩;rw[jN (by rw[h.sz];exact htn)];show SR (XO X0 s f) f w (look ((t,d)::s.sl) u) _;simp only[look];split
  ·exact hd
  ·exact h.sl u
theorem jG{X:Nat->Prop}{f:Nat->Value}{w:World}(v:Value):SR X f w (cst v) v:=by
 have key:∀l:List Value,l.all (·.oneCell')=true->ASt X w (l.map .sc) l:=by
  intro l
  induction l with
  |nil=>intro _;simp only[gy,ASt]
  |cons u l ih=>
   intro h;simp only[nt,bV]at h;simp only[dw,ASt];exact⟨u,l,by rw[kr h.1];rfl,by simp only[AR];exact⟨trivial,h.1⟩,rfl,ih h.2⟩
 cases v with
 |agg cs=>
  simp only[cst];have hc:∀l:List Value,cs.toList=l->SR X f w (cstL l) (.agg cs):=by
   intro l hl;unfold cstL;split
   ·have e : cs = #[.bool false, .slice none 0 0] := by
     apply cU.1;rw[hl]
    subst e;simp only[SR,AR];exact⟨⟨false,none,0,0⟩,rfl,IZ.zero w⟩
   ·split
    ·next h=>simp only[SR,AR];exact⟨cs,rfl,by rw[hl];exact key l h⟩
    ·exact SR.any
  exact hc _ rfl
 |tuple vs=>exact SR.any
 |_=>simp only[SR,cst,AR,Value.oneCell',and_self]
theorem Hd.op{X0:Nat->Prop}{n:Nat}{w0:Bs}{s:S}{f:Nat->Value}{a:Act}{w:World}(h:Hd X0 n w0 s f a w)(x:Operand):SR (XO X0 s f) f w (s.op x) (a.eval x):=by
 cases x with
 |tmp t=>exact h.sl t
 |const v=>exact jG v
 |global g=>exact SR.any
 |func g=>exact⟨rfl,rfl⟩
def aW(P:Program)(X0:Nat->Prop)(n:Nat)(c:Code)(Q:Exit->S->Prop)(s:S):Prop:=
 ∀w0 f a w,Hd X0 n w0 s f a w->c.wp P (fun e a w=>∃s' f',Hd X0 n w0 s' f' a w/\Q e s') a w
section rules
variable {P : Program} {X0 : Nat->Prop} {n : Nat} {Q : Exit->S->Prop} {s : S}
theorem Kl(h:Q .normal s):aW P X0 n .skip Q s:=fun _ f _ _ hd=>wp_skip ⟨s,f,hd,h⟩
theorem Km{id:Nat}(h:Q (.exit id) s):aW P X0 n (.exit id) Q s:=fun _ f _ _ hd=>wp_exit ⟨s,f,hd,h⟩
theorem Ma(h:Q .ret s):aW P X0 n .ret Q s:=fun _ f _ _ hd=>wp_ret ⟨s,f,hd,h⟩
def nx(K:S->Prop)(Q:Exit->S->Prop):Exit->S->Prop
 | .normal,s=>K s
 |e,s=>Q e s
theorem Ax{c:Operand}{x y:Code}{b:Bool}(hc:s.op c= .sc (.bool b))(h:aW P X0 n (if b then x else y) Q s):aW P X0 n (.cond c x y) Q s:=fun w0 f a w hd=>
 wp_cond (by have:=hd.op c;rw[hc]at this;exact this.1) (h w0 f a w hd)
theorem Kk{c:Operand}{x y:Code}(hc:s.op c= .sc (.bool true))(h:aW P X0 n x Q s):aW P X0 n (.cond c x y) Q s:=Ax hc h
theorem GS{c:Operand}{x y:Code}(hc:s.op c= .sc (.bool false))(h:aW P X0 n y Q s):aW P X0 n (.cond c x y) Q s:=Ax hc h
def inB(id:Nat)(Q:Exit->S->Prop):Exit->S->Prop
 | .exit id',s=>if id'=id then Q .normal s else Q (.exit id') s
 |e,s=>Q e s
theorem GU{id:Nat}{c:Code}(h:aW P X0 n c (inB id Q) s):aW P X0 n (.block id c) Q s:=fun w0 f a w hd=>
 wp_block (Code.wp_mono (fun e a w ⟨s',f',h1,h2⟩=>by
  cases e with
  |exit id'=>
   simp only[inB]at h2;simp only[Exit.inBlock];split
   ·next e=>rw[aj e]at h2;exact⟨s',f',h1,h2⟩
   ·next e=>rw[ai e]at h2;exact⟨s',f',h1,h2⟩
  |_=>exact⟨s',f',h1,h2⟩) (h w0 f a w hd))
def Sh(X0:Nat->Prop)(n:Nat)(s s':S):Prop:=∀w0 f a w,Hd X0 n w0 s f a w->∃f',Hd X0 n w0 s' f' a w
theorem Sh.refl:Sh X0 n s s:=fun _ f _ _ h=>⟨f,h⟩
theorem bh{c:Code}{s':S}(h:Sh X0 n s s')(k:aW P X0 n c Q s'):aW P X0 n c Q s:=fun w0 f a w hd=>by
 obtain⟨f',h1⟩:=h w0 f a w hd;exact k w0 f' a w h1
theorem Df{c:Code}{Q:Exit->Act->World->Prop}(I:Nat->Act->World->Prop){m:Nat}{a:Act}{w:World}(h0:I m a w)
  (round:∀m a w,I m a w->c.wp P (Exit.then (fun a' w'=>∃m',m'<m/\I m' a' w') Q) a w):(Code.loop c).wp P Q a w:=by
 intro b k cs;have key:∀m a w,I m a w->∃e a' w',Q e a' w'/\Arrives P (lone (b.at a (.code c:: .inLoop c::k)) cs w) b k cs e a' w':=by
  intro m
  induction m using Nat.strongRecOn with
  |_ m ih=>
   intro a w hI;obtain⟨e,a₁,w₁,hq,harr⟩:=round m a w hI b (.inLoop c::k) cs
   cases e with
   |normal=>
    obtain⟨m',hlt,hI₁⟩:=hq;obtain⟨e₂,a₂,w₂,hq₂,harr₂⟩:=ih m' hlt a₁ w₁ hI₁;exact⟨e₂,a₂,w₂,hq₂,.of_steps (Steps.trans harr (.one step_inLoop)) harr₂⟩
   |exit id=>exact⟨_,a₁,w₁,hq,.pass (x:=.inLoop c) rfl (fun _ _=>.inl aY) harr⟩
   |goto l=>exact⟨_,a₁,w₁,hq,.pass (x:=.inLoop c) rfl (fun _ _=>.inl aY) harr⟩
   |ret=>exact⟨_,a₁,w₁,hq,.pass (x:=.inLoop c) rfl (fun _ _=>.inl aY) harr⟩
   |panic ch=>exact⟨_,a₁,w₁,hq,.pass (x:=.inLoop c) rfl (fun _ _=>.inl aY) harr⟩
   |outgrown=>exact⟨_,a₁,w₁,hq,.pass (x:=.inLoop c) rfl (fun _ _=>.inl aY) harr⟩
 obtain⟨e,a',w',hq,harr⟩:=key m a w h0;exact⟨e,a',w',hq,.of_steps (.one step_loop) harr⟩
theorem bw{c:Code}(I:Nat->S->Prop){m:Nat}(h0:I m s)(round:∀m s,I m s->aW P X0 n c (nx (fun s'=>∃m' s'',m'<m/\Sh X0 n s' s''/\I m' s'') Q) s):aW P X0 n (.loop c) Q s:=fun w0 f a w hd=>
 Df (fun m a w=>∃s f,Hd X0 n w0 s f a w/\I m s) ⟨s,f,hd,h0⟩ fun m a w ⟨s,f,hd,hI⟩=>
  Code.wp_mono (fun e a w ⟨s',f',h1,h2⟩=>by
   cases e with
   |normal=>
    obtain⟨m',s'',hm,h3,h4⟩:=h2;obtain⟨f'',h5⟩:=h3 w0 f' a w h1;exact⟨m',hm,s'',f'',h5,h4⟩
   |_=>exact⟨s',f',h1,h2⟩) (round m s hI w0 f a w hd)
def aL(P:Program)(X0:Nat->Prop)(n:Nat)(ops:Array Oper)(l:List Oper)(K:S->Prop)(s:S):Prop:=
 ∀w0 f a w (Q:Exit->Act->World->Prop),Hd X0 n w0 s f a w->(∀s' f' a' w',Hd X0 n w0 s' f' a' w'->K s'->Q .normal a' w')->wpList P ops Q l a w
theorem aK{ops:Array Oper}{K:S->Prop}(h:K s):aL P X0 n ops [] K s:=fun _ f a w _ hd hq=>hq s f a w hd h
theorem gar{id:Nat}{l:List Oper}(h:aL P X0 n l.toArray l (Q .normal) s):aW P X0 n (.region id l.toArray false) Q s:=fun w0 f a w hd=>
 wp_region_lit (h w0 f a w _ hd fun s' f' _ _ h1 h2=>⟨s',f',h1,h2⟩)
theorem aL_sh{ops:Array Oper}{l:List Oper}{K:S->Prop}{s':S}(h:Sh X0 n s s')(k:aL P X0 n ops l K s'):aL P X0 n ops l K s:=fun w0 f a w Q hd hq=>by
 obtain⟨f',h1⟩:=h w0 f a w hd;exact k w0 f' a w Q h1 hq
theorem jd{ops:Array Oper}{o:Oper}{l:List Oper}{K:S->Prop}
  (h:∀w0 f a w Qx,Hd X0 n w0 s f a w->Region.wanted o (yielded ops a.tmps)=true/\o.wp P a w (fun a' w'=>∃s' f',Hd X0 n w0 s' f' a' w'/\aL P X0 n ops l K s') Qx):aL P X0 n ops (o::l) K s:=fun w0 f a w Q hd hq=>by
 obtain⟨h1,h2⟩:=h w0 f a w Q hd;refine wpList_step fun K' hK=>?_;rw[aj h1];exact Oper.wp_mono (fun a' w' ⟨s',f',h3,h4⟩=>hK _ _ (h4 w0 f' a' w' Q h3 hq)) h2
def D.qj:D->Bool
 | .sc _=>true
 |_=>false
def lG(P:Program)(X:Nat->Prop)(f:Nat->Value)(w:World)(d:D):Result Next->Prop
 | .ok (.value u) w'=>SR X f w' d u/\Below w.heap.size w w'/\(d.qj=true->w'=w)
 | .ok (.enter g args) w'=>w'=w/\Calls P g args w (fun e w''=>∃u,e= .returned u/\SR X f w'' d u/\Below w.heap.size w w'')
 |_=>False
def bj(P:Program)(o:Oper)(s:S)(d:D):Prop:=
 ∀(X:Nat->Prop) (f:Nat->Value) (a:Act) (w:World) (base:Nat),XW X w->(∀p∈s.ow,OW X f w base p)->(∀x∈o.op.operands,SR X f w (s.op x) (a.eval x))->lG P X f w d ((execOp a.eval o).run P w)
def cr(n:Nat)(o:Oper):Bool:=match o.dst with|some t=>decide (t<n)|none=>true
theorem fb{o:Oper}(h:cr n o=true):∀t,o.dst=some t->t<n:=fun t e=>by
 unfold cr at h;rw[e]at h;simpa using h
theorem ox{o:Oper}{d:D}(hd:bj P o s d){w0:Bs}{f:Nat->Value}{a:Act}{w:World}(h:Hd X0 n w0 s f a w)(ht:cr n o=true){Q:Exit->Act->World->Prop}:
  o.wp P a w (fun a' w'=>Hd X0 n w0 (s.put o.dst d) f a' w') Q:=by
 have h1:=hd (XO X0 s f) f a w 0 h.xlt h.ow (fun x _=>h.op x);unfold Oper.wp;generalize(execOp a.eval o).run P w=r at h1
 cases r with
 |halt x w'=>simp only[lG]at h1
 |ok x w'=>
  cases x<;>simp only[lG]at h1<;>simp only[Oper.upon]
  case value u=>exact(h.grow h1.2.1).put h1.1 (fb ht)
  case enter g args=>
   obtain⟨rfl,h2⟩:=h1;exact h2.mono fun e w'' ⟨u,he,h3,h4⟩=>by subst he;exact(h.grow h4).put h3 (fb ht)
theorem Kq{ops:Array Oper}{o:Oper}{l:List Oper}{K:S->Prop}{d:D}(hg:o.guard=none)(ht:cr n o=true)(hd:bj P o s d)(h:aL P X0 n ops l K (s.put o.dst d)):aL P X0 n ops (o::l) K s:=
 jd fun _ f _ _ _ hh=>⟨by simp[Region.wanted,hg],Oper.wp_mono (fun _ _ h1=>⟨_,f,h1,h⟩) (ox hd hh ht)⟩
end rules
end DW
end
section
open Go.RowKit
namespace DW
section ops
variable {P : Program} {s : S} {o : Oper}
theorem cO{X:Nat->Prop}{f:Nat->Value}{w:World}{d:D}{u:Value}{r:Result Next}(h:r= .ok (.value u) w)(hd:SR X f w d u):lG P X f w d r:=by
 rw[h];exact⟨hd,Below.refl _ _,fun _=>rfl⟩
theorem wj{x:Operand}(ho:o.op= .move x\/o.op= .assign x):bj P o s (s.op x):=fun X f a w base _ _ hs=>by
 rcases ho with ho|ho;all_goals
  refine cO (u:=a.eval x) ?_ (hs x bC);unfold execOp;rw[ho];rfl
theorem yT{x:Operand}{t e:TypeId}{wd:Nat}{l:List D}(ho:o.op= .call {callee:=.builtin .len,args:=#[x],argTypes:=#[t]})(hx:s.op x= .ls wd l)(ht:P.underlying t=some (.slice e)):
  bj P o s (.sc (.int .i64 (l.length:Int))):=fun X f a w base _ _ hs=>by
 have h1:=hs x fJ;rw[hx]at h1;simp only[SR,AR]at h1;obtain⟨ad,c,h2,_⟩:=h1;refine cO (u:=.int .i64 (l.length:Int)) ?_ (by simp only[SR,AR];exact⟨trivial,rfl⟩);unfold execOp;rw[ho];simp only[resolve,invoke,builtin,Sem.run_bind,Sem.run_pure,Result.andThen_ok,og,dw,gy,h2,Builtin.len_,run_underlying ht];simp[run_underlying ht,goInt]
theorem cP(b o j:Nat):(⟨b,o,none⟩:Addr).add j=⟨b,o+j,none⟩:=Addr.add_mid b o j
theorem oZ{x i:Operand}{t:TypeId}{wd:Nat}{l:List D}{k:IntKind}{n:Int}{d:D}(ho:o.op= .indexAddr t x i)(hx:s.op x= .ls wd l)(hi:s.op i= .sc (.int k n))
  (ht:P.underlying t=some (.slice (P.elem t))) (hz:(P.info? (P.elem t)).map (·.size)=some wd) (hn:0<=n) (hd:l[n.toNat]?=some d):bj P o s (.pt d):=fun X f a w base _ _ hs=>by
 have h1:=hs x bC;have h2:=hs i bC;rw[hx]at h1;rw[hi]at h2;simp only[SR,AR]at h1 h2;obtain⟨ad,c,h3,h4,h5⟩:=h1;have hl:=(bW.1 hd).1;rcases h5 with h5|⟨b,off,rfl,h6,h7,h8⟩
 ·rw[h5]at hl;simp at hl
 obtain⟨u,k1,k2,k3,k4⟩:=ARs.at h8 hd;have hlt:n<(l.length:Int):=by omega
 refine cO (u:=.pointer (some ⟨b,off+n.toNat*wd,none⟩)) ?_ (by simp only[SR,AR];exact⟨b,_,u,rfl,h6,h7,k1,k4⟩);unfold execOp;rw[ho]
 cases hq:P.info? (P.elem t)with
 |none=>rw[hq]at hz;cases hz
 |some inf=>
  rw[hq]at hz;simp only[bQ,ah]at hz;have hrun:=run_indexAt_slice (P:=P) (w:=w) t ⟨b,off,none⟩ l.length c k n ht;rw[aj (And.intro hn hlt)]at hrun;simp only[Sem.run_bind,h3,h2.1,hrun];simp[sizeOf,typeInfo,hq,hz,cP]
theorem Ce{w:World}{t:TypeId}{a:Addr}:(Instr.loadAt t (.pointer (some a))).run P w=(loadVar t a).run P w:=by
 simp[Instr.loadAt,Instr.sureAddr]
theorem sE{X:Nat->Prop}{w:World}{d:D}{u:Value}{b off:Nat}{t:TypeId}(h:AR X w d u)(hf:d.fits=true)(hr:w.rangeAt b off u.cells.toList)(hz:(P.info? t).map (·.size)=some d.wd)(hg:(P.underlying t).map TypeDesc.isRow=some d.agg):
  (Instr.loadAt t (.pointer (some ⟨b,off,none⟩))).run P w= .ok u w:=by
 have hsh:=AR.shape hf h;have hsz:=AR.size d u hf h
 cases hu:P.underlying t with
 |none=>rw[hu]at hg;cases hg
 |some dd=>
  rw[hu]at hg;simp only[bQ,ah]at hg
  cases ha:d.agg with
  |true=>
   rw[ha]at hsh hg;simp only[if_true]at hsh;have:=run_loadAt_mid (P:=P) w b off t u.cells.toList dd hr hu hg (by rw[hz];simp[hsz]);rw[this];rw[hsh];simp[Value.cells]
  |false=>
   rw[ha]at hsh hg;obtain⟨h1,h2⟩:=hsh;have hc:w.cell? ⟨b,off,none⟩=some u:=by
    have:=hr 0 u (by rw[h2];rfl);simpa using this
   have hagg:(isAgg t).run P w= .ok false w:=by
    unfold isAgg;rw[Sem.run_bind,run_underlying hu w];cases dd<;>simp_all
   simp[Instr.loadAt,Instr.sureAddr,loadVar,Sem.run_bind,hagg,hc]
theorem ED{x:Operand}{t:TypeId}{d:D}(ho:o.op= .load t x)(hx:s.op x= .pt d)(hf:d.fits=true)(hz:(P.info? t).map (·.size)=some d.wd)(hg:(P.underlying t).map TypeDesc.isRow=some d.agg):bj P o s d:=fun X f a w base _ _ hs=>by
 have h1:=hs x bC;rw[hx]at h1;simp only[SR,AR]at h1;obtain⟨b,off,u,h2,_,_,h3,h4⟩:=h1;refine cO (u:=u) ?_ (by cases d<;>first|exact h3|simp[D.fits]at hf);unfold execOp;rw[ho];simp only[Sem.run_bind,h2,sE h3 hf h4 hz hg,Result.andThen_ok];rfl
theorem fm{u:Value}(hu:u.oneCell'=true)(hr:∀(X:Nat->Prop) (f:Nat->Value) (w:World) (a:Act),(∀x∈o.op.operands,SR X f w (s.op x) (a.eval x))->(execOp a.eval o).run P w= .ok (.value u) w):bj P o s (.sc u):=fun X f a w base _ _ hs=>
 cO (hr X f w a hs) (by simp only[SR,AR];exact⟨trivial,hu⟩)
theorem sO{op:BinOp}{t t':TypeId}{x y:Operand}{u1 u2 u:Value}(ho:o.op= .binOp op t x y t')(hx:s.op x= .sc u1)(hy:s.op y= .sc u2)(hu:u.oneCell'=true)
  (hr:∀w,((do eqGuard op t x y u1 u2;binOp op t u1 u2:Sem Value)).run P w= .ok u w):bj P o s (.sc u):=fm hu fun X f w a hs=>by
 have h1:=hs x bC;have h2:=hs y bC;rw[hx]at h1;rw[hy]at h2;simp only[SR,AR]at h1 h2;have h3:=hr w;unfold execOp;rw[ho];simp only[h1.1,h2.1];rw[Sem.run_bind,h3];rfl
def Cu(op:BinOp)(p q:Int)(k:IntKind):Option Value:=
 match op with
 | .add=>some (.int k (k.wrap (p+q)))
 | .sub=>some (.int k (k.wrap (p-q)))
 | .mul=>some (.int k (k.wrap (p*q)))
 | .eql=>some (.bool (decide (p=q)))
 | .neq=>some (.bool (!decide (p=q)))
 | .lss=>some (.bool (decide (p<q)))
 | .leq=>some (.bool (decide (p<=q)))
 | .gtr=>some (.bool (decide (q<p)))
 | .geq=>some (.bool (decide (q<=p)))
 |_=>none
theorem dB{op:BinOp}{t t':TypeId}{x y:Operand}{k:IntKind}{p q:Int}{u:Value}(ho:o.op= .binOp op t x y t')(hx:s.op x= .sc (.int k p))(hy:s.op y= .sc (.int k q))(hu:Cu op p q k=some u):bj P o s (.sc u):=by
 refine sO ho hx hy (by cases op<;>simp[Cu]at hu<;>subst hu<;>rfl) fun w=>?_;cases op<;>simp only[Cu,ah,reduceCtorEq]at hu<;>subst hu<;>simp[eqGuard,binOp,Op.intArith,Op.intCmp,BEq.beq,bne]
theorem Gn{t:TypeId}{x:Operand}{b:Bool}(ho:o.op= .unOp .not t x)(hx:s.op x= .sc (.bool b)):bj P o s (.sc (.bool !b)):=fm rfl fun X f w a hs=>by
 have h1:=hs x bC;rw[hx]at h1;simp only[SR,AR]at h1;unfold execOp;rw[ho];simp[h1.1,Op.unary]
theorem wi{c x y:Operand}{b:Bool}(ho:o.op= .pick c x y)(hc:s.op c= .sc (.bool b)):bj P o s (if b then s.op x else s.op y):=fun X f a w base _ _ hs=>by
 have h1:=hs c bC;have h2:=hs x bC;have h3:=hs y bC;rw[hc]at h1;simp only[SR,AR]at h1;refine cO (u:=if b then a.eval x else a.eval y) ?_ (by cases b;exact h3;exact h2);unfold execOp;rw[ho];simp[h1.1,asBool]
theorem yU{x:Operand}{i:Nat}{l:List D}{d:D}(ho:o.op= .extract x i)(hx:s.op x= .tp l)(hd:l[i]?=some d):bj P o s d:=fun X f a w base _ _ hs=>by
 have h1:=hs x bC;rw[hx]at h1;simp only[SR,AR]at h1;obtain⟨vs,h2,h3⟩:=h1;obtain⟨u,h4,h5⟩:=ATp.at h3 hd;refine cO (u:=u) ?_ (by cases d<;>first|exact h5|(simp only[AR]at h5));unfold execOp;rw[ho];have h4':vs[i]?=some u:=by simpa using h4
 simp[h2,Instr.extract,h4']
def Fun(P:Program)(g:FuncId)(ds:List D)(r:D):Prop:=
 ∀(X:Nat->Prop) (w:World) (vs:Array Value),XW X w->ATp X w ds vs.toList->
  Calls P g vs w (fun e w'=>∃u,e= .returned u/\AR X w' r u/\Below w.heap.size w w')
def D.seen:D->Bool
 | .own _=>false
 | .opt _ _=>false
 |_=>true
theorem zg{X:Nat->Prop}{f:Nat->Value}{w:World}(s:S)(a:Act):∀l:List Operand,(∀x∈l,SR X f w (s.op x) (a.eval x))->(∀x∈l,(s.op x).seen=true)->ATp X w (l.map s.op) (l.map a.eval)
 |[],_,_=>by simp only[gy,ATp]
 |x::l,h,k=>by
  simp only[dw,ATp];refine⟨a.eval x,l.map a.eval,rfl,?_,zg s a l (fun y hy=>h y (bq _ hy)) (fun y hy=>k y (bq _ hy))⟩;have h1:=h x bn;have h2:=k x bn;cases hd:s.op x<;>rw[hd]at h1 h2<;>first|exact h1|simp[D.seen]at h2
theorem mK{g:FuncId}{xs:List Operand}{ts:Array TypeId}{ds:List D}{r:D}(ho:o.op= .call {callee:=.value (.func g),args:=xs.toArray,argTypes:=ts})(he:Go.Proofs.Enters P g)(hd:xs.map s.op=ds)(hs:ds.all D.seen=true)(hf:Fun P g ds r)(hr:r.seen=true):bj P o s r:=fun X f a w base hX _ hh=>by
 have h1:ATp X w ds (xs.map a.eval):=by
  rw[<-hd];refine zg s a xs (fun x hx=>hh x ?_) (fun x hx=>?_)
  ·rw[ho];simp[Op.operands,Call.operands];exact .inr hx
  ·rw[eT]at hs;exact hs _ (by rw[<-hd];exact mc.2 ⟨x,hx,rfl⟩)
 have h2:(execOp a.eval o).run P w= .ok (.enter g (xs.map a.eval).toArray) w:=by
  unfold execOp;rw[ho];have:=he (xs.map a.eval).toArray w;simp[resolve,invoke,Deferred.ofValue,Act.eval,this]
 rw[h2];refine⟨rfl,(hf X w _ hX (by simpa using h1)).mono fun e w' ⟨u,k1,k2,k3⟩=>⟨u,k1,?_,k3⟩⟩;cases r<;>first|exact k2|simp[D.seen]at hr
theorem rP(w:World)(cs:Array Value)(t:TypeId):(w.alloc (.cells cs t)).rangeAt w.heap.size 0 cs.toList:=fun j v hj=>by
 rw[cell_of_row _ w.heap.size _ _ _ (0,0) (heap_alloc_new w _),bG];simpa using hj
theorem Gq{x:Operand}{t:TypeId}{d:D}(ho:o.op= .box t x)(hx:s.op x=d)(hf:d.fits=true):bj P o s (.pt d):=fun X f a w base hX _ hs=>by
 have h1:=hs x bC;rw[hx]at h1;have h1':AR X w d (a.eval x):=by cases d<;>first|exact h1|simp[D.fits]at hf
 have hr:(execOp a.eval o).run P w= .ok (.value (.pointer (some ⟨w.heap.size,0,none⟩))) (w.alloc (.cells (a.eval x).cells t)):=by
  unfold execOp;rw[ho];simp[Instr.box,newVar,newRow]
 have hb:Below w.heap.size w (w.alloc (.cells (a.eval x).cells t)):=(Below.refl _ _).alloc (af _) _;rw[hr];refine⟨?_,hb,fun h=>by simp[D.qj]at h⟩;simp only[SR,AR];exact⟨w.heap.size,0,a.eval x,rfl,fun e=>by have:=(hX _ e).1;omega,by simp,h1'.grow hb,rP _ _ _⟩
theorem Gp{x:Operand}{t e:TypeId}{d:D}(ho:o.op= .buildSlice t 1 #[(0,x)])(hx:s.op x=d)(hf:d.fits=true)(ht:P.underlying t=some (.slice e))(hz:(P.info? e).map (fun i=>(i.zero.isSome,i.size))=some (true,d.wd))(h0:0<d.wd)(h1:d.wd<=1000000):bj P o s (.ls d.wd [d]):=fun X f a w base hX _ hs=>by
 have h2:=hs x bC;rw[hx]at h2;have h2':AR X w d (a.eval x):=by cases d<;>first|exact h2|simp[D.fits]at hf
 have hsz:=AR.size d _ hf h2'
 cases hq:P.info? e with
 |none=>rw[hq]at hz;cases hz
 |some inf=>
  rw[hq]at hz;simp only[bQ,ah,aD]at hz;obtain⟨z,hz1⟩:=cA.1 hz.1;have hfill:=Go.Great.fill_whole (s:=inf.size) aa [a.eval x] ((Array.range (1*inf.size)).map (z.cells[· %z.cells.size]!)) (by intro v hv;rw[bu.1 hv,hsz,hz.2]) aY;have hr:(execOp a.eval o).run P w= .ok (.value (.slice (some ⟨w.heap.size,0,none⟩) 1 1)) (w.alloc (.cells (a.eval x).cells e)):=by
   unfold execOp;rw[ho];have:=run_buildSlice (P:=P) w t e 1 #[(0,a.eval x)] (a.eval x).cells inf z ht hq hz1 (by rw[hz.2];omega) (by rw[hz.2];omega) (by
    simpa using hfill)
   simp[Sem.run_bind,this]
  have hb:Below w.heap.size w (w.alloc (.cells (a.eval x).cells e)):=(Below.refl _ _).alloc (af _) _;rw[hr];refine⟨?_,hb,fun h=>by simp[D.qj]at h⟩;simp only[SR,AR,ARs,ji,reduceCtorEq,false_or];exact⟨_,1,rfl,af _,w.heap.size,0,rfl,fun e=>by have:=(hX _ e).1;omega,by simp,⟨a.eval x,h2'.grow hb,hf,trivial,rP _ _ _⟩,trivial⟩
end ops
end DW
end
section
open Go.RowKit
namespace DW
mutual
theorem AR.one{X:Nat->Prop}{w:World}:∀(d:D) (v:Value),d.fits=true->AR X w d v->∀u∈v.cells.toList,u.oneCell'=true
 | .any,_,h,_=>by simp[D.fits]at h
 | .sc u,v,_,h=>by
  simp only[AR]at h;obtain⟨rfl,h⟩:=h;rw[kr h];simpa using h
 | .nm z,v,_,h=>by
  simp only[AR]at h;obtain⟨x,rfl,_⟩:=h;intro u hu;simp[Value.cells]at hu;rcases hu with rfl|rfl<;>rfl
 | .ls wd l,v,_,h=>by
  simp only[AR]at h;obtain⟨a,c,rfl,_⟩:=h;intro u hu;simp[Value.cells]at hu;subst hu;rfl
 | .st l,v,_,h=>by
  simp only[AR]at h;obtain⟨cs,rfl,h⟩:=h;exact ASt.one l _ h
 | .pt d,v,_,h=>by
  simp only[AR]at h;obtain⟨b,o,u,rfl,_⟩:=h;intro u hu;simp[Value.cells]at hu;subst hu;rfl
 | .tp l,v,h,_=>by simp[D.fits]at h
 | .own _,_,h,_=>by simp[D.fits]at h
 | .opt _ _,_,h,_=>by simp[D.fits]at h
 | .cl _ _,_,h,_=>by simp[D.fits]at h
theorem ASt.one{X:Nat->Prop}{w:World}:∀(l:List D) (cs:List Value),ASt X w l cs->∀u∈cs,u.oneCell'=true
 |[],cs,h=>by simp only[ASt]at h;subst h;intro u hu;cases hu
 |d::l,cs,h=>by
  simp only[ASt]at h;obtain⟨u,rest,rfl,h2,h3,h4⟩:=h;intro x hx;rcases dR.1 hx with hx|hx
  ·exact AR.one d u h3 h2 x hx
  ·exact ASt.one l rest h4 x hx
end
theorem AR.nwd{X:Nat->Prop}{w:World}:∀(d:D) (v:Value),AR X w d v->d.nw=true->∀n,v.cells.toList[0]?≠some (.int .u32 n)
 | .any,_,_,h=>by simp[D.nw]at h
 | .sc u,v,h,hn=>by
  simp only[AR]at h;obtain⟨rfl,h⟩:=h;rw[kr h];intro n e;simp at e;subst e;simp[D.nw]at hn
 | .nm z,v,h,_=>by
  simp only[AR]at h;obtain⟨x,rfl,_⟩:=h;intro n e;simp[Value.cells]at e
 | .ls wd l,v,h,_=>by
  simp only[AR]at h;obtain⟨a,c,rfl,_⟩:=h;intro n e;simp[Value.cells]at e
 | .st [],v,_,h=>by simp[D.nw]at h
 | .st (d::l),v,h,hn=>by
  simp only[AR,ASt]at h;obtain⟨cs,rfl,u,rest,h1,h2,h3,h4⟩:=h;simp only[D.nw,bV,decide_eq_true_eq]at hn;have hsz:=AR.size d u h3 h2;intro n e;simp only[Value.cells]at e;rw[h1,en zb70]at e;exact AR.nwd d u h2 hn.1 n e
 | .pt d,v,h,_=>by
  simp only[AR]at h;obtain⟨b,o,u,rfl,_⟩:=h;intro n e;simp[Value.cells]at e
 | .tp l,v,_,h=>by simp[D.nw]at h
 | .own _,_,h,_=>by simp only[AR]at h
 | .opt _ _,_,h,_=>by simp only[AR]at h
 | .cl _ _,v,_,h=>by simp[D.nw]at h
theorem Els.len{X:Nat->Prop}{w:World}{wd:Nat}:∀{l:List D} {xs:List Value},Els X w wd l xs->xs.length=l.length*wd
 |[],_,h=>by rw[show _=[]from h];simp
 |d::l,_,⟨u,rest,h1,h2,h3,h4,_,h5⟩=>by
  have:=Els.len h5;have:=AR.size d u h3 h2;rw[h1];simp only[cL,bJ,eV,bU,cC];omega
theorem Els.one{X:Nat->Prop}{w:World}{wd:Nat}:∀{l:List D} {xs:List Value},Els X w wd l xs->∀u∈xs,u.oneCell'=true
 |[],_,h=>by rw[show _=[]from h];intro u hu;cases hu
 |d::l,_,⟨u,rest,h1,h2,h3,h4,_,h5⟩=>by
  rw[h1];intro x hx;rcases dR.1 hx with hx|hx
  ·exact AR.one d u h3 h2 x hx
  ·exact Els.one h5 x hx
theorem Els.app{X:Nat->Prop}{w:World}{wd:Nat}{l2:List D}{ys:List Value}(k:Els X w wd l2 ys):∀{l:List D} {xs:List Value},Els X w wd l xs->Els X w wd (l++l2) (xs++ys)
 |[],_,h=>by rw[show _=[]from h];exact k
 |d::l,_,⟨u,rest,h1,h2,h3,h4,hn,h5⟩=>⟨u,rest++ys,by rw[h1,fS],h2,h3,h4,hn,Els.app k h5⟩
theorem Els.ars{X:Nat->Prop}{w:World}{b wd:Nat}:∀{l:List D} {xs:List Value} {o:Nat},Els X w wd l xs->w.rangeAt b o xs->ARs X w b wd l o
 |[],_,_,_,_=>by simp only[ARs]
 |d::l,_,o,⟨u,rest,h1,h2,h3,h4,_,h5⟩,hr=>by
  have hsz:=AR.size d u h3 h2;simp only[ARs];refine⟨⟨u,h2,h3,h4,fun j v hj=>hr j v ?_⟩,Els.ars h5 fun j v hj=>?_⟩
  ·rw[h1,en (bW.1 hj).1];exact hj
  ·have:=hr (wd+j) v (by rw[h1,iE zb70,bJ,hsz,h4,wE];exact hj);rw[<-mq]at this;exact this
theorem ARs.els{X:Nat->Prop}{w:World}{b wd:Nat}:∀{l:List D} {o:Nat},ARs X w b wd l o->l.all D.nw=true->∃xs,Els X w wd l xs/\w.rangeAt b o xs
 |[],_,_,_=>⟨[],rfl,fun j v hj=>by simp at hj⟩
 |d::l,o,h,hn=>by
  simp only[ARs]at h;simp only[nt,bV]at hn;obtain⟨⟨u,h1,h2,h3,h4⟩,h5⟩:=h;obtain⟨xs,k1,k2⟩:=ARs.els h5 hn.2;have hsz:=AR.size d u h2 h1;refine⟨u.cells.toList++xs,⟨u,xs,rfl,h1,h2,h3,hn.1,k1⟩,fun j v hj=>?_⟩;by_cases hjl:j<u.cells.toList.length
  ·rw[en hjl]at hj;exact h4 j v hj
  ·rw[iE aa]at hj;simp only[bJ]at hjl hj;have:=k2 _ _ hj;rw[show o+wd+(j-u.cells.size)=o+j by omega]at this;exact this
theorem Els.nw0{X:Nat->Prop}{w:World}{wd:Nat}:∀{l:List D} {xs:List Value},Els X w wd l xs->l≠[]->0<wd->∃u,xs[0]?=some u/\∀n,u≠ .int .u32 n
 |[],_,_,h,_=>absurd rfl h
 |d::l,_,⟨u,rest,h1,h2,h3,h4,hn,h5⟩,_,hw=>by
  have hsz:=AR.size d u h3 h2;have hlt:0<u.cells.toList.length:=by simp only[bJ];omega
  refine⟨u.cells.toList[0],?_,fun m e=>AR.nwd d u h2 hn m ?_⟩
  ·rw[h1,en hlt,aS hlt]
  ·rw[aS hlt,e]
def D.is(k:Nat):D->Bool
 | .own j=>Nat.beq j k
 | .opt j _=>Nat.beq j k
 |_=>false
def kill(k:Nat):List (Nat×D)->List (Nat×D)
 |[]=>[]
 |(t,d)::l=>(t,match d.is k with|true=>.any|false=>d)::kill k l
theorem fI(k:Nat):∀(l:List (Nat×D)) (t:Nat),look (kill k l) t=look l t/\(look l t).is k=false\/look (kill k l) t= .any
 |[],t=>.inl ⟨rfl,rfl⟩
 |(u,d)::l,t=>by
  have ih:=fI k l t;simp only[kill,look];split
  ·cases h:d.is k
   ·exact .inl ⟨rfl,rfl⟩
   ·exact .inr rfl
  ·exact ih
theorem SR.other{X X':Nat->Prop}{f:Nat->Value}{w w':World}{d:D}{v v':Value}{k:Nat}(h:SR X f w d v)(hk:d.is k=false)(hag:Agr X w w')(hX:∀b,b<w.heap.size->X' b->X b):SR X' (fun j=>if j=k then v' else f j) w' d v:=by
 cases d with
 |own j=>
  have hj:j≠k:=fun e=>by simp[D.is,e,dz]at hk
  simp only[SR]at h⊢;rw[ai hj];exact h
 |opt j off=>
  have hj:j≠k:=fun e=>by simp[D.is,e,dz]at hk
  simp only[SR]at h⊢;rw[ai hj];exact h
 |_=>exact AR.agr hag hX _ _ h
def upd(k:Nat)(l2:List D):List (Nat×Ow)->List (Nat×Ow)
 |[]=>[]
 |(j,q)::l=>if j=k then(j,⟨q.T,q.wd,q.l++l2⟩)::upd k l2 l else(j,q)::upd k l2 l
theorem fX{k:Nat}{l2:List D}{q:Ow}:∀{l:List (Nat×Ow)},(∀p∈l,p.1=k->p=(k,q))->∀p,p∈upd k l2 l->(p.1≠k/\p∈l)\/p=(k,⟨q.T,q.wd,q.l++l2⟩)
 |[],_,p,hp=>by simp[upd]at hp
 |(j,r)::l,hu,p,hp=>by
  simp only[upd]at hp;by_cases hj:j=k
  ·rw[aj hj]at hp;have e:=hu _ bn hj;cases e;rcases bs.1 hp with h|h
   ·exact .inr h
   ·rcases fX (fun a ha=>hu a (bq _ ha)) p h with h|h
    ·exact .inl ⟨h.1,bq _ h.2⟩
    ·exact .inr h
  ·rw[ai hj]at hp;rcases bs.1 hp with h|h
   ·exact .inl ⟨by rw[h];exact hj,by rw[h];exact bn⟩
   ·rcases fX (fun a ha=>hu a (bq _ ha)) p h with h|h
    ·exact .inl ⟨h.1,bq _ h.2⟩
    ·exact .inr h
theorem zV{X0:Nat->Prop}{n:Nat}{w0:Bs}{s:S}{f:Nat->Value}{a:Act}{w w':World}(h:Hd X0 n w0 s f a w){p:Nat×Ow}(hp:p∈s.ow)(hg:w.grownBy w' (f p.1).ownBlock):Agr (XO X0 s f) w w':=by
 refine⟨hg.size,fun b hb hX=>hg.block b hb fun e=>hX (.inr ⟨p,hp,e.symm⟩),fun x z hz=>?_⟩
 cases hv:(f p.1).ownBlock with
 |none=>exact hz.below (B:=w.heap.size) ⟨hg.os,hg.tape,hg.output,hg.size,fun k hk=>hg.block k hk (by rw[hv];simp)⟩ (af _)
 |some b=>exact hz.chg (g:=b) ⟨hg.os,hg.tape,hg.output,hg.size,fun k hk hkb=>hg.block k hk (by rw[hv];simp only[ne_eq,ah];exact hkb)⟩ (h.nw b ⟨p,hp,hv⟩)
def S.app(s:S)(dst:Nat)(k:Nat)(l2:List D):S:=⟨(dst,.own k)::kill k s.sl,upd k l2 s.ow⟩
theorem Hd.app{X0:Nat->Prop}{n:Nat}{w0:Bs}{s:S}{f:Nat->Value}{a:Act}{w w':World}{k:Nat}{q:Ow}{l2:List D}{ys:List Value}{v':Value}{t:Nat}(h:Hd X0 n w0 s f a w)(hk:(k,q)∈s.ow)(hk0:Nat.blt k 1000000=true)(ht:t<n)
  (hg:w.grownBy w' (f k).ownBlock) (ho:∃xs,Els (XO X0 s f) w q.wd q.l xs/\w'.ownsRow 0 q.T q.wd v' (q.l.length+l2.length) (xs++ys)) (hy:Els (XO X0 s f) w q.wd l2 ys) (hb:v'.ownBlock=(f k).ownBlock\/v'.ownBlock=some w.heap.size) (hl:q.l++l2≠[]):
  Hd X0 n w0 (s.app t k l2) (fun j=>if j=k then v' else f j) (a.put (some t) v') w':=by
 obtain⟨xs,hx,ho⟩:=ho;obtain⟨hwd,_⟩:=h.ow _ hk;have hag:=zV h hk hg;have hX:∀b,b<w.heap.size->XO X0 (s.app t k l2) (fun j=>if j=k then v' else f j) b->XO X0 s f b:=fun b hbs hb'=>by
  rcases hb' with hb'|⟨p,hp,e⟩
  ·exact .inl hb'
  ·rcases fX (fun p hp e=>h.un p hp _ hk e) p hp with⟨h1,h2⟩|h1
   ·simp only[ai h1]at e;exact .inr ⟨p,h2,e⟩
   ·subst h1;simp only[if_true]at e;rcases hb with hb|hb
    ·exact .inr ⟨_,hk,by rw[<-hb];exact e⟩
    ·rw[hb]at e;simp only[ah]at e;omega
 have hsl:∀u,SR (XO X0 (s.app t k l2) (fun j=>if j=k then v' else f j)) (fun j=>if j=k then v' else f j) w' (look (kill k s.sl) u) (a.tmps.getD u undef):=fun u=>by
  rcases fI k s.sl u with⟨e,hne⟩|e
  ·rw[e];exact SR.other (h.sl u) hne hag hX
  ·rw[e];exact SR.any
 have hrow:∀j,im j=true->(if j=k then v' else f j)=f j:=fun j hj=>ai (kW hk0 hj);have hoth:∀p∈s.ow,p.1≠k->(f p.1).ownBlock=none\/(f p.1).ownBlock≠(f k).ownBlock:=fun p hp hpk=>by
  cases hv:(f p.1).ownBlock with
  |none=>exact .inl rfl
  |some b=>exact .inr fun e=>h.dj p hp _ hk hpk b hv e.symm
 refine⟨by simp[Act.put,h.sz],h.df,h.bl.grown hg (fun b hb=>h.lo _ hk b hb),h.x0,h.xy,fun j hj=>(ai (kX hk0 hj)).trans (h.fx j hj),fun p hp b e=>?_,fun u=>?_,fun p hp=>?_,fun b hb'=>?_,fun p hp p' hp' hne b e e'=>?_,fun p hp p' hp' e=>?_⟩
 ·rcases fX (fun p hp e=>h.un p hp _ hk e) p hp with⟨h1,h2⟩|h1
  ·simp only[ai h1]at e;exact h.lo p h2 b e
  ·subst h1;simp only[if_true]at e;rcases hb with hb|hb
   ·exact h.lo _ hk b (by rw[<-hb];exact e)
   ·rw[hb]at e;simp only[ah]at e;exact .inl (by have:=h.bl.size;omega)
 ·rw[jN (by rw[h.sz];exact ht)];show SR _ _ _ (look ((t,.own k)::kill k s.sl) u) _;simp only[look];split
  ·simp only[SR,if_true]
  ·exact hsl u
 ·rcases fX (fun p hp e=>h.un p hp _ hk e) p hp with⟨h1,h2⟩|h1
  ·obtain⟨k0,zs,k1,k2⟩:=h.ow p h2;refine⟨k0,zs,?_,EE.agr hag hX hrow k2⟩;simp only[ai h1];exact World.ownsRow.kept k1 hg (hoth p h2 h1)
  ·subst h1;refine⟨hwd,xs++ys,?_,EE.of (Els.agr hag hX (Els.app hy hx)) (hZ hk0)⟩;simp only[if_true,cL];exact ho
 ·obtain⟨p,hp,e⟩:=hb';rcases fX (fun p hp e=>h.un p hp _ hk e) p hp with⟨h1,h2⟩|h1
  ·simp only[ai h1]at e;have h3:=h.nw b ⟨p,h2,e⟩;intro m hm;have hlt:=((h.ow p h2).lt e).2;have:w'.cell? ⟨b,0,none⟩=w.cell? ⟨b,0,none⟩:=World.cell?_of_block (hg.block b hlt fun e2=>h.dj p h2 _ hk h1 b e e2.symm);rw[this]at hm;exact h3 m hm
  ·subst h1;simp only[if_true]at e;intro m hm;obtain⟨u,hu,hn⟩:=Els.nw0 (Els.app hy hx) hl hwd;have hc:=World.ownsRow.cells ho e 0 u hu;rw[cP,cf]at hc;rw[hc]at hm;exact hn m (by simpa using hm)
 ·rcases fX (fun p hp e=>h.un p hp _ hk e) p hp with⟨h1,h2⟩|h1<;>rcases fX (fun p hp e=>h.un p hp _ hk e) p' hp' with⟨h1',h2'⟩|h1'
  ·simp only[ai h1,ai h1']at e e';exact h.dj p h2 p' h2' hne b e e'
  ·subst h1';simp only[ai h1,if_true]at e e';rcases hb with hb|hb
   ·exact h.dj p h2 _ hk h1 b e (by rw[<-hb];exact e')
   ·rw[hb]at e';simp only[ah]at e';have:=((h.ow p h2).lt e).2;omega
  ·subst h1;simp only[ai h1',if_true]at e e';rcases hb with hb|hb
   ·exact h.dj p' h2' _ hk h1' b e' (by rw[<-hb];exact e)
   ·rw[hb]at e;simp only[ah]at e;have:=((h.ow p' h2').lt e').2;omega
  ·subst h1;subst h1';exact hne rfl
 ·rcases fX (fun p hp e=>h.un p hp _ hk e) p hp with⟨h1,h2⟩|h1<;>rcases fX (fun p hp e=>h.un p hp _ hk e) p' hp' with⟨h1',h2'⟩|h1'
  ·exact h.un p h2 p' h2' e
  ·subst h1';exact absurd e h1
  ·subst h1;exact absurd e.symm h1'
  ·rw[h1,h1']
section
variable {P : Program} {X0 : Nat->Prop} {n : Nat} {s : S}
theorem EZ{ops:Array Oper}{o:Oper}{l:List Oper}{K:S->Prop}{x y:Operand}{t dst:Nat}{k:Nat}{q:Ow}{wd:Nat}{l2:List D}(hg:o.guard=none)(hdst:o.dst=some dst)(ht:dst<n)
  (ho:o.op= .call {callee:= .builtin .append,args:= #[x,y],argTypes:= #[t,t]}) (hx:s.op x= .own k) (hy:s.op y= .ls wd l2) (hk:(k,q)∈s.ow) (hwd:wd=q.wd) (hl2:l2≠[]) (hn2:l2.all D.nw=true)
  (htt:P.underlying t=some (.slice q.T)) (hI:(P.info? q.T).map (fun i=>(i.zero.map (·.cells.size),i.size,decide (i.bytes<=100000)))=some (some q.wd,q.wd,true)) (hlen:q.l.length+l2.length<=1000000000)
  (h:aL P X0 n ops l K (s.app dst k l2)) (hk0:Nat.blt k 1000000=true):aL P X0 n ops (o::l) K s:=by
 subst hwd;refine jd fun w0 f a w Qx hd=>⟨by simp[Region.wanted,hg],?_⟩;have h1:=hd.op x;have h2:=hd.op y;rw[hx]at h1;rw[hy]at h2;simp only[SR,AR]at h1 h2;obtain⟨ad,c,e1,h3,h4⟩:=h2;obtain⟨b,off,rfl,h5,h6,h7⟩:=h4.resolve_left hl2;obtain⟨ys,h8,h9⟩:=ARs.els h7 hn2;obtain⟨hw0,xs,h10,h11'⟩:=hd.ow _ hk;have h11:=h11'.pl (hZ hk0)
 cases hq:P.info? q.T with
 |none=>rw[hq]at hI;cases hI
 |some inf=>
  rw[hq]at hI;simp only[bQ,ah,aD,decide_eq_true_eq]at hI;obtain⟨hz,hsz,hby⟩:=hI;obtain⟨z,hz1,hz2⟩:=fw.1 hz;have hyl:=Els.len h8;obtain⟨v',w',hr,k1,k2,_,k4⟩:=run_append_own_at (P:=P) w 0 t o.type q.T inf z q.wd inf.bytes htt hq hz1 hsz rfl hz2 hw0 (f k) q.l.length xs h10
   ⟨b,off,none⟩ l2.length c ys hyl (fun j u hj=>by rw[cP];exact h9 j u hj) (Els.one h8) uJ
   (by have : (q.l.length + l2.length) * inf.bytes <= 1000000000 * 100000 := eQ hlen hby
       omega) (aP _)
  unfold Oper.wp execOp;simp only[ho,resolve,invoke,builtin,Sem.run_bind,Sem.run_pure,Result.andThen_ok,og,dw,gy,h1,e1,hr,Oper.upon,hdst];exact⟨_,_,hd.app hk hk0 ht k2 ⟨xs,h11,k1⟩ h8 k4 (by simp[hl2]),h⟩
theorem Ml{t k:Nat}{T:TypeId}{wd:Nat}(ht:s.gt t= .sc (.slice none 0 0))(hk:∀p∈s.ow,p.1≠k)(hw:0<wd)(hk0:Nat.blt k 1000000=true):Sh X0 n s ⟨(t,.own k)::kill k s.sl,(k,⟨T,wd,[]⟩)::s.ow⟩:=fun w0 f a w h=>by
 refine⟨fun j=>if j=k then .slice none 0 0 else f j,?_⟩;have hX:∀b,XO X0 ⟨(t,.own k)::kill k s.sl,(k,⟨T,wd,[]⟩)::s.ow⟩ (fun j=>if j=k then .slice none 0 0 else f j) b->XO X0 s f b:=fun b hb=>by
  rcases hb with hb|⟨p,hp,e⟩
  ·exact .inl hb
  ·rcases bs.1 hp with h1|h1
   ·subst h1;simp[Value.ownBlock]at e
   ·simp only[ai (hk p h1)]at e;exact .inr ⟨p,h1,e⟩
 refine⟨h.sz,h.df,h.bl,h.x0,h.xy,fun j hj=>(ai (kX hk0 hj)).trans (h.fx j hj),fun p hp b e=>?_,fun u=>?_,fun p hp=>?_,fun b hb=>?_,fun p hp p' hp' hne b e e'=>?_,fun p hp p' hp' e=>?_⟩
 ·rcases bs.1 hp with h1|h1
  ·subst h1;simp[Value.ownBlock]at e
  ·simp only[ai (hk p h1)]at e;exact h.lo p h1 b e
 ·show SR _ _ _ (look ((t,.own k)::kill k s.sl) u) _;simp only[look];split
  ·next e=>
   have h1:=h.sl t;rw[ht]at h1;simp only[SR,AR]at h1;simp only[SR,if_true];rw[<-e];exact h1.1
  ·rcases fI k s.sl u with⟨e,hne⟩|e
   ·rw[e];exact SR.other (h.sl u) hne (Agr.refl _ w) (fun b _ hb=>hX b hb)
   ·rw[e];exact SR.any
 ·rcases bs.1 hp with h1|h1
  ·subst h1;exact⟨hw,[],by simp only[if_true];exact World.ownsRow_nil _ _ _ _,EE.of (show Els _ _ _ [] []from rfl) (hZ hk0)⟩
  ·obtain⟨k0,zs,k1,k2⟩:=h.ow p h1;exact⟨k0,zs,by simp only[ai (hk p h1)];exact k1,EE.agr (Agr.refl _ w) (fun b _ hb=>hX b hb) (fun j hj=>ai (kW hk0 hj)) k2⟩
 ·obtain⟨p,hp,e⟩:=hb;rcases bs.1 hp with h1|h1
  ·subst h1;simp[Value.ownBlock]at e
  ·simp only[ai (hk p h1)]at e;exact h.nw b ⟨p,h1,e⟩
 ·rcases bs.1 hp with h1|h1<;>rcases bs.1 hp' with h1'|h1'
  ·subst h1;subst h1';exact hne rfl
  ·subst h1;simp[Value.ownBlock]at e
  ·subst h1';simp[Value.ownBlock]at e'
  ·simp only[ai (hk p h1),ai (hk p' h1')]at e e';exact h.dj p h1 p' h1' hne b e e'
 ·rcases bs.1 hp with h1|h1<;>rcases bs.1 hp' with h1'|h1'
  ·rw[h1,h1']
  ·subst h1;exact absurd e.symm (hk p' h1')
  ·subst h1';exact absurd e (hk p h1)
  ·exact h.un p h1 p' h1' e
def yt:Nat->List D->D
 |0,[d]=>.pt d
 |_,_=>.any
theorem B0(off:Nat)(l:List D):(∃d,off=0/\l=[d]/\yt off l= .pt d)\/yt off l= .any:=by
 match off,l with
 |0,[d]=>exact .inl ⟨d,rfl,rfl,rfl⟩
 |0,[]=>exact .inr rfl
 |0,_::_::_=>exact .inr rfl
 |_+1,_=>exact .inr rfl
def gY(k wd:Nat)(l:List D)(d:D):D:=
 match d with
 | .own j=>match Nat.beq j k with
  |true=>.ls wd l
  |false=>.own j
 | .opt j off=>match Nat.beq j k with
  |true=>yt off l
  |false=>.opt j off
 |d=>d
def shut(k wd:Nat)(l:List D):List (Nat×D)->List (Nat×D)
 |[]=>[]
 |(t,d)::r=>(t,gY k wd l d)::shut k wd l r
theorem qh(k wd:Nat)(l:List D):∀(r:List (Nat×D)) (t:Nat),look (shut k wd l r) t=gY k wd l (look r t)
 |[],t=>rfl
 |(u,d)::r,t=>by
  simp only[shut,look];split
  ·rfl
  ·exact qh k wd l r t
def eD(k:Nat):List (Nat×Ow)->List (Nat×Ow)
 |[]=>[]
 |p::l=>if p.1=k then eD k l else p::eD k l
theorem du{k:Nat}:∀{l:List (Nat×Ow)} {p:Nat×Ow},p∈eD k l->p∈l/\p.1≠k
 |q::l,p,h=>by
  simp only[eD]at h;split at h
  ·have:=du h;exact⟨bq _ this.1,this.2⟩
  ·next hk=>
   rcases bs.1 h with h|h
   ·subst h;exact⟨bn,hk⟩
   ·have:=du h;exact⟨bq _ this.1,this.2⟩
 |[],p,h=>by simp[eD]at h
theorem AB{k:Nat}{q:Ow}(hk:(k,q)∈s.ow)(hkh:hdr k=false):Sh X0 n s ⟨shut k q.wd q.l s.sl,eD k s.ow⟩:=fun w0 f a w h=>by
 refine⟨f,?_⟩;have hX:∀b,XO X0 ⟨shut k q.wd q.l s.sl,eD k s.ow⟩ f b->XO X0 s f b:=fun b hb=>by
  rcases hb with hb|⟨p,hp,e⟩
  ·exact .inl hb
  ·exact .inr ⟨p,(du hp).1,e⟩
 refine⟨h.sz,h.df,h.bl,h.x0,h.xy,h.fx,fun p hp b e=>h.lo p (du hp).1 b e,fun u=>?_,fun p hp=>?_,fun b ⟨p,hp,e⟩=>h.nw b ⟨p,(du hp).1,e⟩,fun p hp p' hp' hne b e e'=>h.dj p (du hp).1 p' (du hp').1 hne b e e',fun p hp p' hp' e=>h.un p (du hp).1 p' (du hp').1 e⟩
 ·show SR _ _ _ (look _ u) _;rw[qh];have h1:=h.sl u;show SR _ _ _ (gY k q.wd q.l (s.gt u)) _;obtain⟨hw0,xs,⟨_,h10⟩,h11'⟩:=h.ow _ hk;have h11:=h11'.pl hkh;have hg:∀g n c,f k= .slice (some ⟨g,0,none⟩) n c->¬XO X0 ⟨shut k q.wd q.l s.sl,eD k s.ow⟩ f g:=fun g n c e hx=>by
   rcases hx with hx|⟨p,hp,e3⟩
   ·have:=(h.x0 g hx).1;rcases h.lo _ hk g (by simp only[e];rfl)with h1|h1
    ·omega
    ·exact h.xy g hx h1
   ·have:=du hp;exact h.dj p this.1 _ hk this.2 g e3 (by simp only[e];rfl)
  have hE:=Els.agr (X':=XO X0 ⟨shut k q.wd q.l s.sl,eD k s.ow⟩ f) (Agr.refl _ w) (fun b _ hb=>hX b hb) h11;have hr:∀g cap cur,w.heap[g]?=some (.cells cur q.T (0,0))->cur.toList.take (q.l.length*q.wd)=xs->cur.size=cap*q.wd->q.l.length<=cap->w.rangeAt g 0 xs:=fun g cap cur hgg htk hsz hle j v hj=>by
   rw[cell_of_row w g _ cur _ (0,0) hgg,bG];have hj2:=(bW.1 hj).1;rw[<-htk,aQ]at hj2;rw[<-htk,gV aa,cQ]at hj;exact hj
  cases hd:s.gt u with
  |own j=>
   rw[hd]at h1;simp only[gY]
   cases hb:Nat.beq j k with
   |false=>exact h1
   |true=>
    have e2:=cn hb;subst e2;simp only[SR]at h1;simp only[SR,AR];rcases h10 with⟨h12,h13⟩|⟨g,cap,cur,h12,hb,hgg,hle,hm,hsz,htk⟩
    ·simp only at h13;exact⟨none,0,by rw[h1,h12,h13],by omega,.inl (gw h13)⟩
    ·exact⟨_,cap,by rw[h1,h12],hle,.inr ⟨g,0,rfl,hg g _ _ h12,(gi.1 hgg).1,Els.ars hE (hr g cap cur hgg htk hsz hle)⟩⟩
  |opt j off=>
   rw[hd]at h1;simp only[gY]
   cases hb:Nat.beq j k with
   |false=>exact h1
   |true=>
    have e2:=cn hb;subst e2;simp only[SR]at h1;obtain⟨g,n',c',e3,e4⟩:=h1;show SR _ _ _ (yt off q.l) _;rcases B0 off q.l with⟨d,ho,hl,hod⟩|hod
    ·subst ho;rw[hod];rcases h10 with⟨h12,h13⟩|⟨g',cap,cur,h12,hb,hgg,hle,hm,hsz,htk⟩
     ·simp only at h12;rw[e3]at h12;cases h12
     ·simp only at h12;rw[e3]at h12;cases h12;have hR:=hr g _ cur hgg htk hsz hle;simp only[hl]at hE;obtain⟨u',rest,k1,k2,k3,k4,k5,k6⟩:=hE;simp only[SR,AR];refine⟨g,0,u',e4,hg g _ _ e3,(gi.1 hgg).1,k2,fun i v hi=>hR i v ?_⟩;rw[k1,en (bW.1 hi).1];exact hi
    ·rw[hod];exact SR.any
  |_=>rw[hd]at h1;exact AR.free h1 (fun b _ hb=>hX b hb)
 ·obtain⟨k0,zs,k1,k2⟩:=h.ow p (du hp).1;exact⟨k0,zs,k1,EE.agr (Agr.refl _ w) (fun b _ hb=>hX b hb) (fun _ _=>rfl) k2⟩
theorem Mk{sl:List (Nat×D)}(h:∀p∈sl,s.gt p.1=p.2):Sh X0 n s ⟨sl,s.ow⟩:=fun w0 f a w hd=>
 ⟨f,hd.sz,hd.df,hd.bl,hd.x0,hd.xy,hd.fx,hd.lo,fun u=>by
  have key:∀l:List (Nat×D),(∀p∈l,s.gt p.1=p.2)->look l u= .any\/look l u=s.gt u:=fun l=>by
   induction l with
   |nil=>intro _;exact .inl rfl
   |cons p l ih=>
    intro hl;obtain⟨t,d⟩:=p;simp only[look];split
    ·next e=>exact .inr (by rw[<-e];exact(hl _ bn).symm)
    ·exact ih fun p hp=>hl p (bq _ hp)
  show SR _ _ _ (look sl u) _;rcases key sl h with e|e
  ·rw[e];exact SR.any
  ·rw[e];exact hd.sl u,hd.ow,hd.nw,hd.dj,hd.un⟩
def aA:Nat->List D->List (Nat×D)
 |_,[]=>[]
 |k,d::l=>(k,d)::aA (k+1) l
inductive px(P:Program)(s:S):ResultVar->D->Prop
 |tmp (t:Tmp) (h1:(s.gt t).seen=true):px P s (.tmp t) (s.gt t)
 |cell (t:Tmp) (ty:TypeId) (d:D) (h1:s.gt t= .pt d) (h2:d.fits=true) (hz:(P.info? ty).map (·.size)=some d.wd) (hg:(P.underlying ty).map TypeDesc.isRow=some d.agg):px P s (.cell t ty) d
inductive Res(P:Program)(fn:Func)(s:S):D->Prop
 |none (h:fn.results= #[]):Res P fn s (.tp [])
 |one (v:ResultVar) (d:D) (h:fn.results= #[v]) (h1:px P s v d):Res P fn s d
 |two (v v2:ResultVar) (d d2:D) (h:fn.results= #[v,v2]) (h1:px P s v d) (h2:px P s v2 d2):Res P fn s (.tp [d,d2])
 |three (v v2 v3:ResultVar) (d d2 d3:D) (h:fn.results= #[v,v2,v3]) (h1:px P s v d) (h2:px P s v2 d2) (h3:px P s v3 d3):Res P fn s (.tp [d,d2,d3])
def fin(P:Program)(X0:Nat->Prop)(n:Nat)(fn:Func)(r:D):Exit->S->Prop
 | .normal,s=>∃s',Sh X0 n s s'/\Res P fn s' r
 | .ret,s=>∃s',Sh X0 n s s'/\Res P fn s' r
 |_,_=>False
theorem qi:∀(l:List D) (k t:Nat),look (aA k l) t=if k<=t then(l[t-k]?).getD .any else .any
 |[],k,t=>by simp[aA,look]
 |d::l,k,t=>by
  simp only[aA,look];by_cases h:k=t
  ·rw[aj h,aj aa,show t-k=0 by omega];rfl
  ·rw[ai h,qi l (k+1) t];by_cases h2:k+1<=t
   ·rw[aj h2,aj aa,show t-k=(t-(k+1))+1 by omega,List.getElem?_cons_succ]
   ·rw[ai h2,ai aa]
theorem zQ{w0:Bs}{f:Nat->Value}{a:Act}{w:World}{fn:Func}{r:D}(h:Hd X0 n w0 s f a w)(h3:Res P fn s r):∃v,(results fn a.tmps).run P w= .ok v w/\AR (XO X0 s f) w r v:=by
 have hsr:∀t,(s.gt t).seen=true->AR (XO X0 s f) w (s.gt t) (a.tmps.getD t undef):=fun t hs=>by
  have h5:=h.sl t;have h6:AR (XO X0 s f) w (s.gt t) (a.tmps.getD t undef):=by
   cases hg:s.gt t<;>rw[hg]at h5 hs<;>first|exact h5|simp[D.seen]at hs
  exact h6
 have hvar:∀v d,px P s v d->∃u,(∃sm:Sem Value,sm.run P w= .ok u w/\((∃t,v= .tmp t/\a.tmps[t]?.getD undef=u)\/(∃t ty ad,v= .cell t ty/\a.tmps[t]?.getD undef= .pointer (some ad)/\(loadVar ty ad).run P w= .ok u w)))/\AR (XO X0 s f) w d u:=fun v d hv=>by
  cases hv with
  |tmp t h1=>exact⟨_,⟨pure _,rfl,.inl ⟨t,rfl,(cg ..).symm⟩⟩,hsr t h1⟩
  |cell t ty d h1 h2 hz hg=>
   have h6:=hsr t (by rw[h1];rfl);rw[h1]at h6;simp only[AR]at h6;obtain⟨b,o,u,e1,_,_,k1,k2⟩:=h6;have:=sE (P:=P) k1 h2 k2 hz hg;rw[Ce]at this;rw[cg]at e1;exact⟨u,⟨pure _,rfl,.inr ⟨t,ty,_,rfl,e1,this⟩⟩,k1⟩
 cases h3 with
 |none h5=>exact⟨.tuple #[],by simp[results,h5],by simp only[AR];exact⟨_,rfl,by simp only[ATp]⟩⟩
 |one v d h5 h6=>
  obtain⟨u,⟨_,_,k1⟩,k2⟩:=hvar v _ h6;refine⟨u,?_,k2⟩;unfold results;rw[h5];rcases k1 with⟨t,rfl,e1⟩|⟨t,ty,ad,rfl,e1,e2⟩<;>simp[*,asAddr]
 |two v v2 d d2 h5 h6 h7=>
  obtain⟨u,⟨_,_,k1⟩,k2⟩:=hvar v _ h6;obtain⟨u2,⟨_,_,k3⟩,k4⟩:=hvar v2 _ h7;refine⟨.tuple #[u,u2],?_,?_⟩
  ·unfold results;rw[h5];rcases k1 with⟨t,rfl,e1⟩|⟨t,ty,ad,rfl,e1,e2⟩<;>rcases k3 with⟨t',rfl,e3⟩|⟨t',ty',ad',rfl,e3,e4⟩<;>simp[*,asAddr]
  ·simp only[AR];refine⟨_,rfl,?_⟩;simp only[ATp];exact⟨_,_,rfl,k2,_,_,rfl,k4,rfl⟩
 |three v v2 v3 d d2 d3 h5 h6 h7 h8=>
  obtain⟨u,⟨_,_,k1⟩,k2⟩:=hvar v _ h6;obtain⟨u2,⟨_,_,k3⟩,k4⟩:=hvar v2 _ h7;obtain⟨u3,⟨_,_,k5⟩,k6⟩:=hvar v3 _ h8;refine⟨.tuple #[u,u2,u3],?_,?_⟩
  ·unfold results;rw[h5];rcases k1 with⟨t,rfl,e1⟩|⟨t,ty,ad,rfl,e1,e2⟩<;>rcases k3 with⟨t',rfl,e3⟩|⟨t',ty',ad',rfl,e3,e4⟩<;>rcases k5 with⟨t'',rfl,e5⟩|⟨t'',ty'',ad'',rfl,e5,e6⟩<;>simp[*,asAddr]
  ·simp only[AR];refine⟨_,rfl,?_⟩;simp only[ATp];exact⟨_,_,rfl,k2,_,_,rfl,k4,_,_,rfl,k6,rfl⟩
theorem Lz{g:FuncId}{fn:Func}{c:Code}{ds:List D}{r:D}(hf:P.funcs[g]?=some fn)(hb:fn.body=some c)(hn:ds.length<=fn.ntmps)(hds:ds.all D.seen=true)
  (h:∀X0,aW P X0 fn.ntmps c (fin P X0 fn.ntmps fn r) ⟨aA 0 ds,[]⟩):Fun P g ds r:=fun X w vs hX hv=>by
 have hlen:∀(ds:List D) (vs:List Value),ATp X w ds vs->vs.length=ds.length:=fun ds=>by
  induction ds with
  |nil=>intro vs h;simp only[ATp]at h;rw[h];rfl
  |cons d ds ih=>intro vs h;simp only[ATp]at h;obtain⟨u,rest,rfl,_,h3⟩:=h;simp[ih rest h3]
 have hl:=hlen ds _ hv;simp only[bJ]at hl;have hd:Hd X fn.ntmps ⟨w,fun _=>False,fun _=>undef⟩ ⟨aA 0 ds,[]⟩ (fun _=>undef) {tmps:=vs++Array.replicate (fn.ntmps-vs.size) undef,defers:=[]} w:=by
  have hXX:∀b,XO X ⟨aA 0 ds,[]⟩ (fun _=>undef) b->X b:=fun b hb=>by
   rcases hb with hb|⟨p,hp,_⟩
   ·exact hb
   ·cases hp
  refine⟨by simp;omega,rfl,Gr.refl _ _,hX,fun _ _ h=>h,fun _ _=>rfl,fun p hp=>by(cases hp),fun t=>?_,fun p hp=>by(cases hp),fun b hb=>?_,fun p hp=>by(cases hp),fun p hp=>by(cases hp)⟩
  ·show SR _ _ _ (look (aA 0 ds) t) _;rw[qi,aj (aP _),iw]
   cases hd:ds[t]? with
   |none=>exact SR.any
   |some d=>
    have hd1:d.seen=true:=by rw[eT]at hds;exact hds d (bf hd)
    obtain⟨u,k1,k2⟩:=ATp.at hv hd;have k1':vs[t]?=some u:=by simpa using k1
    have hlt:=(gi.1 k1').1;have e:(vs++Array.replicate (fn.ntmps-vs.size) undef).getD t undef=u:=by
     rw[cg,ot hlt,k1'];rfl
    show SR _ _ _ d (Array.getD _ t undef);rw[e];have k3:=AR.free k2 (fun b _ hb=>hXX b hb);cases d<;>first|exact k3|simp[D.seen]at hd1
  ·obtain⟨p,hp,_⟩:=hb;cases hp
 have key:∀s' f' a w',Hd X fn.ntmps ⟨w,fun _=>False,fun _=>undef⟩ s' f' a w'->(∃s'',Sh X fn.ntmps s' s''/\Res P fn s'' r)->a.defers=[]/\∃v,(results fn a.tmps).run P w'= .ok v w'/\(∃u,Ending.returned v= .returned u/\AR X w' r u/\Below w.heap.size w w'):=fun s' f' a w' h1 ⟨s'',h2,h3⟩=>by
  obtain⟨f'',h4⟩:=h2 _ f' a w' h1;have hbl:Below w.heap.size w w':=⟨h4.bl.os,h4.bl.tape,h4.bl.output,h4.bl.size,fun b hb=>h4.bl.block b hb id⟩;refine⟨h4.df,?_⟩;obtain⟨v,h5,h6⟩:=zQ h4 h3;exact⟨v,h5,v,rfl,AR.free h6 (fun b _ hb=>.inl hb),hbl⟩
 refine calls_of_wp hf hb (Code.wp_mono (fun e a w' ⟨s',f',h1,h2⟩=>?_) (h X _ (fun _=>undef) _ w hd));cases e<;>simp only[fin]at h2<;>simp only[bodyPost]
 ·exact key s' f' a w' h1 h2
 ·exact key s' f' a w' h1 h2
end
end DW
end
section
open Go.RowKit
namespace DW
def eC:List (Nat×Option Nat)->Nat->Option Nat
 |[],_=>none
 |(u,d)::l,t=>if u=t then d else eC l t
def kD(dst:Option Tmp)(v:Option Nat)(src:List (Nat×Option Nat)):List (Nat×Option Nat):=
 match dst with
 |some t=>(t,v)::src
 |none=>src
def kR(o:Oper)(src:List (Nat×Option Nat)):Bool:=o.op.operands.toList.all fun x=>
 match x with
 | .tmp t=>match eC src t with
  |none=>true
  |some u=>Own3.tC .any o u
 |_=>true
def di(ops:Array Oper)(src:List (Nat×Option Nat))(s:S)(o:Oper)(b:Bool):Prop:=
 match o.guard with
 |none=>b=true
 |some (j,c)=>∃t e,(ops[j]?).bind (·.dst)=some t/\eC src t=none/\s.gt t= .sc (.bool e)/\b=(e==c)
def okD:D->Bool
 | .sc v=>v.oneCell'
 |_=>true
def kC(d:D)(k:Nat):Option Nat:=if d.qj then none else some k
def dJ(P:Program)(n:Nat)(ops:Array Oper):List Oper->Nat->List (Nat×Option Nat)->S->(S->Prop)->Prop
 |[],_,_,s,K=>K s
 |o::l,k,src,s,K=>
  (∃d,di ops src s o true/\kR o src=true/\cr n o=true/\okD d=true/\bj P o s d/\dJ P n ops l (k+1) (kD o.dst (kC d k) src) (s.put o.dst d) K)\/
  (di ops src s o false/\cr n o=true/\dJ P n ops l (k+1) (kD o.dst none src) (s.put o.dst .any) K)
section
variable {P : Program} {X0 : Nat->Prop} {n : Nat} {Q : Exit->S->Prop} {s : S}
theorem bp{ops:Array Oper}{k:Nat}{src:List (Nat×Option Nat)}{K:S->Prop}(h:K s):dJ P n ops [] k src s K:=h
theorem CT{ops:Array Oper}{o:Oper}{l:List Oper}{k:Nat}{src:List (Nat×Option Nat)}{K:S->Prop}{d:D}(hg:o.guard=none)(hp:kR o src=true)(ht:cr n o=true)(ho:okD d=true)(hd:bj P o s d)(h:dJ P n ops l (k+1) (kD o.dst (kC d k) src) (s.put o.dst d) K):dJ P n ops (o::l) k src s K:=
 .inl ⟨d,by simp[di,hg],hp,ht,ho,hd,h⟩
theorem CQ{ops:Array Oper}{o:Oper}{l:List Oper}{k j:Nat}{c:Bool}{t:Nat}{src:List (Nat×Option Nat)}{K:S->Prop}{d:D}(hg:o.guard=some (j,c))(hj:(ops[j]?).bind (·.dst)=some t)(hs:eC src t=none)(hc:s.gt t= .sc (.bool c))(hp:kR o src=true)(ht:cr n o=true)(ho:okD d=true)(hd:bj P o s d)(h:dJ P n ops l (k+1) (kD o.dst (kC d k) src) (s.put o.dst d) K):dJ P n ops (o::l) k src s K:=
 .inl ⟨d,by simp only[di,hg];exact⟨t,c,hj,hs,hc,by simp⟩,hp,ht,ho,hd,h⟩
theorem CS{ops:Array Oper}{o:Oper}{l:List Oper}{k j:Nat}{c:Bool}{t:Nat}{src:List (Nat×Option Nat)}{K:S->Prop}(hg:o.guard=some (j,c))(hj:(ops[j]?).bind (·.dst)=some t)(hs:eC src t=none)(hc:s.gt t= .sc (.bool (!c)))(ht:cr n o=true)(h:dJ P n ops l (k+1) (kD o.dst none src) (s.put o.dst .any) K):dJ P n ops (o::l) k src s K:=
 .inr ⟨by simp only[di,hg];exact⟨t,!c,hj,hs,hc,by cases c<;>rfl⟩,ht,h⟩
structure HI(X:Nat->Prop)(n:Nat)(W:World)(f:Nat->Value)(F:Own3.Fs)(src:List (Nat×Option Nat))(s:S)(a:Act):Prop where
 sz:a.tmps.size=n
 df:a.defers=[]
 none':∀t,eC src t=none->SR X f W (s.gt t) (a.tmps.getD t undef)
 some':∀t u,eC src t=some u->F u (fun w=>SR X f w (s.gt t) (a.tmps.getD t undef))
theorem HI.put{X:Nat->Prop}{W:World}{f:Nat->Value}{F:Own3.Fs}{src:List (Nat×Option Nat)}{a:Act}(h:HI X n W f F src s a){dst:Option Tmp}(ht:∀t,dst=some t->t<n){d:D}{v:Value}{k:Option Nat}{F':Own3.Fs}(hF:∀u p,F u p->F' u p)
  (h0:k=none->SR X f W d v) (h1:∀u,k=some u->F' u (fun w=>SR X f w d v)):HI X n W f F' (kD dst k src) (s.put dst d) (a.put dst v):=by
 cases dst with
 |none=>exact⟨h.sz,h.df,h.none',fun t u e=>hF _ _ (h.some' t u e)⟩
 |some t=>
  refine⟨by simp[Act.put,h.sz],h.df,fun u e=>?_,fun u j e=>?_⟩
  ·rw[jN (by rw[h.sz];exact ht t rfl)];show SR X f W (look ((t,d)::s.sl) u) _;simp only[kD,eC]at e;simp only[look];split
   ·next e2=>rw[aj e2]at e;exact h0 e
   ·next e2=>rw[ai e2]at e;exact h.none' u e
  ·rw[jN (by rw[h.sz];exact ht t rfl)];show F' j (fun w=>SR X f w (look ((t,d)::s.sl) u) _);simp only[kD,eC]at e;simp only[look];by_cases e2:t=u
   ·rw[aj e2]at e;simp only[aj e2];exact h1 j e
   ·rw[ai e2]at e;simp only[ai e2];exact hF _ _ (h.some' u j e)
theorem HI.op{X:Nat->Prop}{W w:World}{f:Nat->Value}{F:Own3.Fs}{src:List (Nat×Option Nat)}{a:Act}(h:HI X n W f F src s a){o:Oper}(hp:kR o src=true)(hw:Own3.CF W (Own3.res .any o F) w)(x:Operand)(hx:x∈o.op.operands):SR X f w (s.op x) (a.eval x):=by
 have h1:_:=eT.1 hp x (by simpa using hx)
 cases x with
 |tmp t=>
  simp only at h1
  cases hs:eC src t with
  |none=>exact(h.none' t hs).grow hw.1
  |some u=>
   rw[hs]at h1;exact hw.get (u:=u) ⟨h.some' t u hs,h1⟩
 |const v=>exact jG v
 |global g=>exact SR.any
 |func g=>exact⟨rfl,rfl⟩
theorem HI.want{X:Nat->Prop}{W:World}{f:Nat->Value}{F:Own3.Fs}{src:List (Nat×Option Nat)}{a:Act}(h:HI X n W f F src s a){ops:Array Oper}{o:Oper}{b:Bool}(hw:di ops src s o b):Region.wanted o (yielded ops a.tmps)=b:=by
 unfold di at hw;unfold Region.wanted
 cases hg:o.guard with
 |none=>rw[hg]at hw;simp only at hw⊢;exact hw.symm
 |some p=>
  obtain⟨j,c⟩:=p;rw[hg]at hw;simp only at hw⊢;obtain⟨t,e,h1,h2,h3,rfl⟩:=hw;have h4:=h.none' t h2;rw[h3]at h4;simp only[SR,AR]at h4;have h5:a.tmps[t]?=some (.bool e):=by
   have:=h4.1;rw[cg]at this
   cases h6:a.tmps[t]? with
   |none=>rw[h6]at this;simp[undef]at this
   |some v=>rw[h6]at this;simp at this;rw[this]
  unfold yielded;rw[h1];simp only[eS,h5];cases e<;>cases c<;>rfl
def BU(X:Nat->Prop)(f:Nat->Value)(d:D):Own3.Rel:=⟨Value,undef,id,fun u w=>SR X f w d u,fun _ _ _ h hb=>h.grow hb⟩
theorem Ja{X:Nat->Prop}{f:Nat->Value}{w:World}{d:D}{r:Result Next}(h:lG P X f w d r):Own3.vd P w (BU X f d) r:=by
 cases r with
 |halt x w'=>simp only[lG]at h
 |ok x w'=>
  cases x<;>simp only[lG]at h
  case value u=>exact⟨u,rfl,h.1,h.2.1⟩
  case enter g args=>exact⟨h.1,h.2.mono fun e w'' ⟨u,k1,k2,k3⟩=>⟨u,k1,k2,k3⟩⟩
theorem Ef{X:Nat->Prop}{f:Nat->Value}{w:World}{v:Value}{r:Result Next}(h:lG P X f w (.sc v) r):nK P w v r:=by
 cases r with
 |halt x w'=>simp only[lG]at h
 |ok x w'=>
  cases x<;>simp only[lG]at h
  case value u=>
   simp only[SR,AR]at h;exact⟨h.2.2 rfl,h.1.1⟩
  case enter g args=>
   refine⟨h.1,h.2.mono fun e w'' ⟨u,k1,k2,k3⟩=>?_⟩;simp only[SR,AR]at k2;exact⟨by rw[k1,k2.1],k3⟩
def uz(P:Program)(n:Nat)(ops:Array Oper):List Oper->Nat->List (Nat×Option Nat)->S->List (Option D)->S->Prop
 |[],_,_,s,ds,s'=>ds=[]/\s=s'
 |o::l,k,src,s,ds,s'=>
  match ds with
  |[]=>False
  |some d::ds=>di ops src s o true/\kR o src=true/\cr n o=true/\okD d=true/\bj P o s d/\uz P n ops l (k+1) (kD o.dst (kC d k) src) (s.put o.dst d) ds s'
  |none::ds=>di ops src s o false/\cr n o=true/\uz P n ops l (k+1) (kD o.dst none src) (s.put o.dst .any) ds s'
theorem sI{ops:Array Oper}{K:S->Prop}:∀(l:List Oper) (k:Nat) (src:List (Nat×Option Nat)) (s:S),dJ P n ops l k src s K->∃ds s',uz P n ops l k src s ds s'/\K s'
 |[],k,src,s,h=>⟨[],s,⟨rfl,rfl⟩,h⟩
 |o::l,k,src,s,h=>by
  rcases h with⟨d,h1,h2,h3,h4,h5,h6⟩|⟨h1,h3,h5⟩
  ·obtain⟨ds,s',k1,k2⟩:=sI l _ _ _ h6;exact⟨some d::ds,s',⟨h1,h2,h3,h4,h5,k1⟩,k2⟩
  ·obtain⟨ds,s',k1,k2⟩:=sI l _ _ _ h5;exact⟨none::ds,s',⟨h1,h3,k1⟩,k2⟩
def uZ(X:Nat->Prop)(f:Nat->Value):Option D->Value⊕Own3.Rel
 |none=>.inl undef
 |some (.sc v)=>.inl v
 |some d=>.inr (BU X f d)
theorem kd{X:Nat->Prop}{W:World}{f:Nat->Value}{base:Nat}(hX:XW X W){ops:Array Oper}{ow:List (Nat×Ow)}(how:∀p∈ow,OW X f W base p){s':S}{S':Nat->Value⊕Own3.Rel}:
  ∀(l:List Oper) (k:Nat) (src:List (Nat×Option Nat)) (s:S) (ds:List (Option D)) (F:Own3.Fs) (a:Act),s.ow=ow->uz P n ops l k src s ds s'->HI X n W f F src s a->
   (∀j,j<l.length->S' (k+j)=uZ X f (ds.getD j none))->Own3.jM P .any ops W S' (fun F' a'=>∃src',s'.ow=ow/\HI X n W f F' src' s' a') l k F a
 |[],k,src,s,ds,F,a,ho,h,hi,_=>by
  obtain⟨_,rfl⟩:=h;exact⟨src,ho,hi⟩
 |o::l,k,src,s,[],F,a,ho,h,hi,hS=>h.elim
 |o::l,k,src,s,some d::ds,F,a,ho,h,hi,hS=>by
  have hpo:∀(dst:Option Tmp) (d:D),(s.put dst d).ow=ow:=fun dst d=>by cases dst<;>exact ho
  obtain⟨h1,h2,h3,hok,h4,h5⟩:=h;have hD:∀w,Own3.CF W (Own3.res .any o F) w->lG P X f w d ((execOp a.eval o).run P w):=fun w hw=>
   h4 X f a w base (hX.grow hw.1) (fun p hp=>(how p (by rw[<-ho];exact hp)).grow hw.1) (fun x hx=>hi.op h2 hw x hx)
  have e0:S' k=uZ X f (some d):=by have:=hS 0 aY;simpa using this
  have hS':∀j,j<l.length->S' (k+1+j)=uZ X f (ds.getD j none):=fun j hj=>by
   have:=hS (j+1) fD;rw[show k+1+j=k+(j+1) by omega,this];rfl
  by_cases hsc:d.qj=true
  ·obtain⟨v,rfl⟩:∃v,d= .sc v:=by cases d<;>simp[D.qj]at hsc;exact⟨_,rfl⟩
   have hi':HI X n W f F (kD o.dst (kC (.sc v) k) src) (s.put o.dst (.sc v)) (a.put o.dst v):=hi.put (fb h3) (fun _ _ h=>h) (fun _=>⟨rfl,hok⟩) (fun u e=>by simp[kC,D.qj]at e);refine Own3.oP e0 fun K' hK=>?_;rw[aj (hi.want h1)];exact⟨fun w _ hw=>Ef (hD w hw),hK _ (kd hX how l (k+1) _ _ ds F _ (hpo _ _) h5 hi' hS')⟩
  ·have hns:kC d k=some k:=by simp[kC,hsc]
   have e1:S' k= .inr (BU X f d):=by rw[e0];cases d<;>first|rfl|simp[D.qj]at hsc
   refine Own3.iQ e1 (fun K' hK=>?_) (fun x=>?_)
   ·rw[aj (hi.want h1)];exact fun w _ hw=>Ja (hD w hw)
   ·exact kd hX how l (k+1) _ _ ds _ _ (hpo _ _) h5 (hi.put (fb h3) (fun _ _ h=>.inr h) (fun e=>by rw[hns]at e;cases e) (fun u e=>by rw[hns]at e;cases e;exact .inl ⟨rfl,rfl⟩)) hS'
 |o::l,k,src,s,none::ds,F,a,ho,h,hi,hS=>by
  have hpo:∀(dst:Option Tmp) (d:D),(s.put dst d).ow=ow:=fun dst d=>by cases dst<;>exact ho
  obtain⟨h1,h3,h5⟩:=h;have hi':HI X n W f F (kD o.dst none src) (s.put o.dst .any) (a.put o.dst undef):=hi.put (fb h3) (fun _ _ h=>h) (fun _=>SR.any) (fun u e=>by cases e);have e0:S' k= .inl undef:=by have:=hS 0 aY;simpa[uZ]using this
  refine Own3.oP e0 fun K' hK=>?_;rw[ai (by rw[hi.want h1];simp)];refine⟨rfl,hK _ (kd hX how l (k+1) _ _ ds F _ (hpo _ _) h5 hi' fun j hj=>?_)⟩;have:=hS (j+1) fD;rw[show k+1+j=k+(j+1) by omega,this];rfl
theorem az{id:Nat}{l:List Oper}(k:Nat)(hm:P.follows .mixedOrders=true)(hB:Region.lexTailB .any l.toArray k=true)(h:dJ P n l.toArray (l.take k) 0 [] s (aL P X0 n l.toArray (l.drop k) (Q .normal))):aW P X0 n (.region id l.toArray true) Q s:=fun w0 f a w hd=>by
 obtain⟨ds,s',h1,h2⟩:=sI _ _ _ _ h;have hi:HI (XO X0 s f) n w f Own3.Fs.none [] s a:=⟨hd.sz,hd.df,fun t _=>hd.sl t,fun t u e=>by simp[eC]at e⟩;have hlen:(l.take k).length<=l.length:=by rw[aQ];omega
 refine Own3.jC k (ds.map (uZ (XO X0 s f) f)) hm hB ?_;have key:=kd hd.xlt hd.ow (l.take k) 0 [] s ds Own3.Fs.none a rfl h1 hi (S':=fun i=>(ds.map (uZ (XO X0 s f) f)).getD i (.inl undef)) fun j _=>by
  simp only[bG,aH,cR];cases ds[j]?<;>rfl
 have mono:∀(l:List Oper) (k:Nat) (F:Own3.Fs) (a:Act) (S':Nat->Value⊕Own3.Rel) (ops:Array Oper) (Q1 Q2:Own3.Fs->Act->Prop),(∀F a,Q1 F a->Q2 F a)->Own3.jM P .any ops w S' Q1 l k F a->Own3.jM P .any ops w S' Q2 l k F a:=fun l=>by
  induction l with
  |nil=>intro k F a S' ops Q1 Q2 h hh;exact h _ _ hh
  |cons o l ih=>
   intro k F a S' ops Q1 Q2 h hh;exact⟨hh.1,Own3.jt (fun F' v _ hK=>ih _ _ _ _ _ _ _ h hK) hh.2⟩
 refine mono _ _ _ _ _ _ _ _ (fun F' a' ⟨src',ho,hi'⟩ w' hw'=>?_) key;have hd0:=hd.grow hw'.1;have hXO:XO X0 s' f=XO X0 s f:=by unfold XO;rw[ho]
 refine h2 w0 f a' w' _ ⟨hi'.sz,hi'.df,hd0.bl,hd0.x0,hd0.xy,hd0.fx,by rw[ho];exact hd0.lo,fun t=>?_,?_,?_,?_,?_⟩ fun s'' f'' _ _ h3 h4=>⟨s'',f'',h3,h4⟩
 ·rw[hXO]
  cases hs:eC src' t with
  |none=>exact(hi'.none' t hs).grow hw'.1
  |some u=>exact hw'.get (hi'.some' t u hs)
 ·rw[hXO,ho];exact hd0.ow
 ·rw[ho];exact hd0.nw
 ·rw[ho];exact hd0.dj
 ·rw[ho];exact hd0.un
theorem Kp{ops:Array Oper}{o:Oper}{l:List Oper}{K:S->Prop}{j t:Nat}{c:Bool}(hg:o.guard=some (j,c))(hj:(ops[j]?).bind (·.dst)=some t)(hc:s.gt t= .sc (.bool (!c)))(ht:cr n o=true)(h:aL P X0 n ops l K (s.put o.dst .any)):aL P X0 n ops (o::l) K s:=fun w0 f a w Q hd hq=>by
 have hi:HI (XO X0 s f) n w f Own3.Fs.none [] s a:=⟨hd.sz,hd.df,fun t _=>hd.sl t,fun t u e=>by simp[eC]at e⟩;have hw:=hi.want (ops:=ops) (o:=o) (b:=false) (by simp only[di,hg];exact⟨t,!c,hj,rfl,hc,by cases c<;>rfl⟩);refine wpList_step fun K' hK=>?_;rw[ai (by rw[hw];simp)];exact hK _ _ (h w0 f _ w Q (hd.put SR.any (fb ht)) hq)
theorem Ko{ops:Array Oper}{o:Oper}{l:List Oper}{K:S->Prop}{d:D}{j t:Nat}{c:Bool}(hg:o.guard=some (j,c))(hj:(ops[j]?).bind (·.dst)=some t)(hc:s.gt t= .sc (.bool c))(ht:cr n o=true)(hd:bj P o s d)(h:aL P X0 n ops l K (s.put o.dst d)):aL P X0 n ops (o::l) K s:=
 jd fun w0 f a w _ hh=>by
  have hi:HI (XO X0 s f) n w f Own3.Fs.none [] s a:=⟨hh.sz,hh.df,fun t _=>hh.sl t,fun t u e=>by simp[eC]at e⟩;exact⟨hi.want (ops:=ops) (o:=o) (b:=true) (by simp only[di,hg];exact⟨t,c,hj,rfl,hc,by simp⟩),Oper.wp_mono (fun _ _ h1=>⟨_,f,h1,h⟩) (ox hd hh ht)⟩
end
end DW
end
section
open Go.RowKit
namespace DW
section
variable {P : Program} {X0 : Nat->Prop} {n : Nat} {Q : Exit->S->Prop} {s : S} {sl : List (Nat × D)} {ow : List (Nat × Ow)} {o : Oper} {ops : Array Oper} {l : List Oper} {K : S->Prop} {t : Nat} {d : D} {k : Nat} {src : List (Nat × Option Nat)}
structure aC(P:Program)(X0:Nat->Prop)(n:Nat)(y:Code)(Q:Exit->S->Prop)(s:S):Prop where
 h:aW P X0 n y Q s
theorem GR{x y:Code}(h:aW P X0 n x (nx (aC P X0 n y Q) Q) s):aW P X0 n (.seq x y) Q s:=fun w0 f a w hd=>
 wp_seq (Code.wp_mono (fun e a w ⟨s',f',h1,h2⟩=>by
  cases e with
  |normal=>exact h2.h w0 f' a w h1
  |_=>exact⟨s',f',h1,h2⟩) (h w0 f a w hd))
theorem nx_c{y:Code}{Q':Exit->S->Prop}(h:aW P X0 n y Q s):nx (aC P X0 n y Q) Q' .normal s:=⟨h⟩
theorem nx_e{K:S->Prop}{i:Nat}(h:Q (.exit i) s):nx K Q (.exit i) s:=h
theorem nx_r{K:S->Prop}(h:Q .ret s):nx K Q .ret s:=h
theorem in_n{id:Nat}(h:Q .normal s):inB id Q .normal s:=h
theorem in_r{id:Nat}(h:Q .ret s):inB id Q .ret s:=h
theorem in_e{id:Nat}(h:Q .normal s):inB id Q (.exit id) s:=by unfold inB;simp only[if_true];exact h
def ud:List (Nat×D)->Nat->D
 |[],_=>.any
 |(u,d)::l,t=>match Nat.beq u t with
  |true=>d
  |false=>ud l t
theorem sD:∀(l:List (Nat×D)) (t:Nat),look l t=ud l t
 |[],_=>rfl
 |(u,d)::l,t=>by
  simp only[look,ud]
  cases h:Nat.beq u t with
  |true=>rw[aj (cn h)]
  |false=>rw[ai (pH h)];exact sD l t
theorem bF(h:ud sl t=d):look sl t=d:=(sD sl t).trans h
theorem aB(h:ud sl t=d):S.op ⟨sl,ow⟩ (.tmp t)=d:=(sD sl t).trans h
theorem cI{q:IntKind}{z:Int}:S.op s (.const (.int q z))= .sc (.int q z):=rfl
theorem jI{b:Bool}:S.op s (.const (.bool b))= .sc (.bool b):=rfl
theorem nM:S.op s (.const (.slice none 0 0))= .sc (.slice none 0 0):=rfl
theorem aL1(hg:o.guard=none)(hdst:o.dst=some t)(ht:Nat.blt t n=true)(hd:bj P o ⟨sl,ow⟩ d)(h:aL P X0 n ops l K ⟨(t,d)::sl,ow⟩):aL P X0 n ops (o::l) K ⟨sl,ow⟩:=
 Kq hg uN hd (by rw[hdst];exact h)
theorem aLw{j u:Nat}{c:Bool}(hg:o.guard=some (j,c))(hdst:o.dst=some t)(ht:Nat.blt t n=true)(hj:(ops[j]?).bind (·.dst)=some u)(hc:look sl u= .sc (.bool c))(hd:bj P o ⟨sl,ow⟩ d)(h:aL P X0 n ops l K ⟨(t,d)::sl,ow⟩):aL P X0 n ops (o::l) K ⟨sl,ow⟩:=
 Ko hg hj hc uN hd (by rw[hdst];exact h)
theorem aLs{j u:Nat}{c:Bool}(hg:o.guard=some (j,c))(hdst:o.dst=some t)(ht:Nat.blt t n=true)(hj:(ops[j]?).bind (·.dst)=some u)(hc:look sl u= .sc (.bool (!c)))(h:aL P X0 n ops l K ⟨(t,.any)::sl,ow⟩):aL P X0 n ops (o::l) K ⟨sl,ow⟩:=
 Kp hg hj hc uN (by rw[hdst];exact h)
theorem aH1{v:Option Nat}(hg:o.guard=none)(hdst:o.dst=some t)(ht:Nat.blt t n=true)(hp:kR o src=true)(ho:okD d=true)(hv:kC d k=v)(hd:bj P o ⟨sl,ow⟩ d)(h:dJ P n ops l (k+1) ((t,v)::src) ⟨(t,d)::sl,ow⟩ K):dJ P n ops (o::l) k src ⟨sl,ow⟩ K:=
 CT hg hp uN ho hd (by rw[hdst,hv];exact h)
theorem aHw{j u:Nat}{c:Bool}{v:Option Nat}(hg:o.guard=some (j,c))(hdst:o.dst=some t)(ht:Nat.blt t n=true)(hj:(ops[j]?).bind (·.dst)=some u)(hs:eC src u=none)(hc:look sl u= .sc (.bool c))(hp:kR o src=true)(ho:okD d=true)(hv:kC d k=v)(hd:bj P o ⟨sl,ow⟩ d)(h:dJ P n ops l (k+1) ((t,v)::src) ⟨(t,d)::sl,ow⟩ K):dJ P n ops (o::l) k src ⟨sl,ow⟩ K:=
 CQ hg hj hs hc hp uN ho hd (by rw[hdst,hv];exact h)
theorem fo{v:Option Nat}(hg:o.guard=none)(hdst:o.dst=some t)(ht:Nat.blt t n=true)(hp:kR o src=true)(hd:bj P o ⟨sl,ow⟩ d)(ho:okD d=true)(hv:kC d k=v)(h:dJ P n ops l (k+1) ((t,v)::src) ⟨(t,d)::sl,ow⟩ K):dJ P n ops (o::l) k src ⟨sl,ow⟩ K:=aH1 hg hdst ht hp ho hv hd h
theorem CN{j u:Nat}{c:Bool}{v:Option Nat}(hg:o.guard=some (j,c))(hdst:o.dst=some t)(ht:Nat.blt t n=true)(hj:(ops[j]?).bind (·.dst)=some u)(hs:eC src u=none)(hc:look sl u= .sc (.bool c))(hp:kR o src=true)(hd:bj P o ⟨sl,ow⟩ d)(ho:okD d=true)(hv:kC d k=v)(h:dJ P n ops l (k+1) ((t,v)::src) ⟨(t,d)::sl,ow⟩ K):dJ P n ops (o::l) k src ⟨sl,ow⟩ K:=aHw hg hdst ht hj hs hc hp ho hv hd h
theorem aHs{j u:Nat}{c:Bool}(hg:o.guard=some (j,c))(hdst:o.dst=some t)(ht:Nat.blt t n=true)(hj:(ops[j]?).bind (·.dst)=some u)(hs:eC src u=none)(hc:look sl u= .sc (.bool (!c)))(h:dJ P n ops l (k+1) ((t,none)::src) ⟨(t,.any)::sl,ow⟩ K):dJ P n ops (o::l) k src ⟨sl,ow⟩ K:=
 CS hg hj hs hc uN (by rw[hdst];exact h)
theorem aLapp{x y:Operand}{tt:TypeId}{kk:Nat}{q:Ow}{wd:Nat}{l2:List D}{sl':List (Nat×D)}{ow':List (Nat×Ow)}(hg:o.guard=none)(hdst:o.dst=some t)(ht:Nat.blt t n=true)
  (ho:o.op= .call {callee:=.builtin .append,args:=#[x,y],argTypes:=#[tt,tt]}) (hx:S.op ⟨sl,ow⟩ x= .own kk) (hy:S.op ⟨sl,ow⟩ y= .ls wd l2) (hk:(kk,q)∈ow) (hwd:wd=q.wd) (hl2:l2≠[]) (hn2:l2.all D.nw=true)
  (htt:P.underlying tt=some (.slice q.T)) (hI:(P.info? q.T).map (fun i=>(i.zero.map (·.cells.size),i.size,decide (i.bytes<=100000)))=some (some q.wd,q.wd,true)) (hlen:q.l.length+l2.length<=1000000000)
  (hs:kill kk sl=sl') (how:upd kk l2 ow=ow') (h:aL P X0 n ops l K ⟨(t,.own kk)::sl',ow'⟩) (hk0:Nat.blt kk 1000000=true:=by exact rfl):aL P X0 n ops (o::l) K ⟨sl,ow⟩:=
 EZ hg hdst Bi ho hx hy hk hwd hl2 hn2 htt hI hlen (by subst hs;subst how;exact h) hk0
theorem ur{x:Operand}(ho:o.op= .move x)(hx:s.op x=d):bj P o s d:=hx▸wj (.inl ho)
theorem lQ{x:Operand}(ho:o.op= .assign x)(hx:s.op x=d):bj P o s d:=hx▸wj (.inr ho)
theorem d_len{x:Operand}{t:TypeId}{wd:Nat}{l:List D}(ho:o.op= .call {callee:=.builtin .len,args:=#[x],argTypes:=#[t]})(hx:s.op x= .ls wd l)(ht:P.underlying t=some (.slice (P.elem t))):bj P o s (.sc (.int .i64 (l.length:Int))):=yT ho hx ht
theorem LM{α:Type}{f:α->D}{m:List α}{x:Operand}{t:TypeId}{wd:Nat}(ho:o.op= .call {callee:=.builtin .len,args:=#[x],argTypes:=#[t]})(hx:s.op x= .ls wd (m.map f))(ht:P.underlying t=some (.slice (P.elem t))):bj P o s (.sc (.int .i64 (m.length:Int))):=by
 have:=yT ho hx ht;rwa[br]at this
theorem yX{c x y:Operand}{b:Bool}(ho:o.op= .pick c x y)(hc:s.op c= .sc (.bool b))(hb:b=true)(hx:s.op x=d):bj P o s d:=by
 subst hx;subst hb;exact wi ho hc
theorem yY{c x y:Operand}{b:Bool}(ho:o.op= .pick c x y)(hc:s.op c= .sc (.bool b))(hb:b=false)(hy:s.op y=d):bj P o s d:=by
 subst hy;subst hb;exact wi ho hc
theorem Ib{x y:Operand}{tt tt':TypeId}{p q:Int}(ho:o.op= .binOp .add tt x y tt')(hx:s.op x= .sc (.int .i64 p))(hy:s.op y= .sc (.int .i64 q))(hb: -9223372036854775808<=p+q/\p+q<=9223372036854775807):bj P o s (.sc (.int .i64 (p+q))):=
 dB ho hx hy zb59
theorem d_sub{x y:Operand}{tt tt':TypeId}{p q:Int}(ho:o.op= .binOp .sub tt x y tt')(hx:s.op x= .sc (.int .i64 p))(hy:s.op y= .sc (.int .i64 q))(hb: -9223372036854775808<=p-q/\p-q<=9223372036854775807):bj P o s (.sc (.int .i64 (p-q))):=
 dB ho hx hy zb59
theorem vC{g:FuncId}{x:Operand}{ts:Array TypeId}{d1 r:D}(ho:o.op= .call {callee:=.value (.func g),args:=#[x],argTypes:=ts})(hx:s.op x=d1)(hs:d1.seen=true)(hf:Go.Proofs.Enters P g/\Fun P g [d1] r)(hr:r.seen=true):bj P o s r:=
 mK (xs:=[x]) ho hf.1 (by simp[hx]) (by simp[hs]) hf.2 hr
theorem rA{g:FuncId}{x y:Operand}{ts:Array TypeId}{d1 d2 r:D}(ho:o.op= .call {callee:=.value (.func g),args:=#[x,y],argTypes:=ts})(hx:s.op x=d1)(hy:s.op y=d2)(hs:d1.seen=true)(hs2:d2.seen=true)(hf:Go.Proofs.Enters P g/\Fun P g [d1,d2] r)(hr:r.seen=true):bj P o s r:=
 mK (xs:=[x,y]) ho hf.1 (by simp[hx,hy]) (by simp[hs,hs2]) hf.2 hr
theorem vB{g:FuncId}{x y z:Operand}{ts:Array TypeId}{d1 d2 d3 r:D}(ho:o.op= .call {callee:=.value (.func g),args:=#[x,y,z],argTypes:=ts})(hx:s.op x=d1)(hy:s.op y=d2)(hz:s.op z=d3)(hs:d1.seen=true)(hs2:d2.seen=true)(hs3:d3.seen=true)(hf:Go.Proofs.Enters P g/\Fun P g [d1,d2,d3] r)(hr:r.seen=true):bj P o s r:=
 mK (xs:=[x,y,z]) ho hf.1 (by simp[hx,hy,hz]) (by simp[hs,hs2,hs3]) hf.2 hr
theorem JY{g:FuncId}{ts:Array TypeId}{r:D}(ho:o.op= .call {callee:=.value (.func g),args:=#[],argTypes:=ts})(hf:Go.Proofs.Enters P g/\Fun P g [] r)(hr:r.seen=true):bj P o s r:=
 mK (xs:=[]) ho hf.1 rfl rfl hf.2 hr
theorem EJ{x:Operand}{tt:TypeId}{wd:Nat}{b:Bool}(ho:o.op= .load tt x)(hx:s.op x= .pt d)(hf:d.fits=true)(hw:d.wd=wd)(ha:d.agg=b)(hz:(P.info? tt).map (·.size)=some wd)(hg:(P.underlying tt).map TypeDesc.isRow=some b):bj P o s d:=ED ho hx hf (hw▸hz) (ha▸hg)
theorem d_lit{x:Operand}{tt:TypeId}{wd:Nat}(ho:o.op= .buildSlice tt 1 #[(0,x)])(hx:s.op x=d)(hf:d.fits=true)(hw:d.wd=wd)(ht:P.underlying tt=some (.slice (P.elem tt)))(hz:(P.info? (P.elem tt)).map (fun i=>(i.zero.isSome,i.size))=some (true,wd))(h0:Nat.blt 0 wd=true)(h1:Nat.ble wd 1000000=true):bj P o s (.ls wd [d]):=by
 subst hw;exact Gp ho hx hf ht hz (by simpa[aV]using h0) (by simpa using h1)
theorem yu{α:Type}{f:α->D}{m:List α}(h:∀x,(f x).nw=true):(m.map f).all D.nw=true:=by
 rw[eT];intro d hd;obtain⟨x,_,rfl⟩:=mc.1 hd;exact h x
theorem Jj{m:List D}{k:Nat}(h:m.all D.nw=true):(m.drop k).all D.nw=true:=by
 rw[eT]at h⊢;intro d hd;exact h d (Bx hd)
theorem mA{w:Nat}{l:List D}:(D.ls w l).wd=1:=rfl
theorem my{v:Value}:(D.sc v).wd=1:=rfl
theorem mz{z:Int}:(D.nm z).wd=2:=rfl
theorem get_map{α:Type}{f:α->D}{m:List α}{i:Nat}{x:α}(h:m[i]?=some x):(m.map f)[((i:Nat):Int).toNat]?=some (f x):=by rw[ns,cR,h];rfl
theorem L9{c:Operand}{x y:Code}{b:Bool}(hc:s.op c= .sc (.bool b))(hb:b=true)(h:aW P X0 n x Q s):aW P X0 n (.cond c x y) Q s:=by subst hb;exact Kk hc h
theorem aW_no{c:Operand}{x y:Code}{b:Bool}(hc:s.op c= .sc (.bool b))(hb:b=false)(h:aW P X0 n y Q s):aW P X0 n (.cond c x y) Q s:=by subst hb;exact GS hc h
theorem iR{k:Nat}:kill k []=[]:=rfl
theorem iS{k t:Nat}{d:D}{r r':List (Nat×D)}(hd:d.is k=true)(h:kill k r=r'):kill k ((t,d)::r)=(t,.any)::r':=by simp only[kill,hd];rw[h]
theorem gP{k t:Nat}{d:D}{r r':List (Nat×D)}(hd:d.is k=false)(h:kill k r=r'):kill k ((t,d)::r)=(t,d)::r':=by simp only[kill,hd];rw[h]
theorem IC{k:Nat}{l2:List D}:upd k l2 []=[]:=rfl
theorem ID{k wd:Nat}{T:TypeId}{l l2:List D}{r r':List (Nat×Ow)}(h:upd k l2 r=r'):upd k l2 ((k,⟨T,wd,l⟩)::r)=(k,⟨T,wd,l++l2⟩)::r':=by simp only[upd,aj];rw[h]
theorem E8{k j:Nat}{q:Ow}{l2:List D}{r r':List (Nat×Ow)}(hj:Nat.beq j k=false)(h:upd k l2 r=r'):upd k l2 ((j,q)::r)=(j,q)::r':=by
 simp only[upd];rw[ai (fun e=>by rw[e,dz]at hj;cases hj),h]
theorem Fm{k wd:Nat}{l:List D}:shut k wd l []=[]:=rfl
theorem Fo{k t wd:Nat}{l:List D}{r r':List (Nat×D)}(h:shut k wd l r=r'):shut k wd l ((t,.own k)::r)=(t,.ls wd l)::r':=by simp only[shut,gY,dz];rw[h]
theorem IU{k t wd:Nat}{d:D}{r r':List (Nat×D)}(h:shut k wd [d] r=r'):shut k wd [d] ((t,.opt k 0)::r)=(t,.pt d)::r':=by simp only[shut,gY,dz,yt];rw[h]
theorem DD{k t wd:Nat}{l:List D}{d:D}{r r':List (Nat×D)}(hd:d.is k=false)(h:shut k wd l r=r'):shut k wd l ((t,d)::r)=(t,d)::r':=by
 have:gY k wd l d=d:=by
  cases d<;>first|rfl|(simp only[D.is]at hd;simp only[gY,hd])
 simp only[shut,this];rw[h]
theorem drop_nil{k:Nat}:eD k []=[]:=rfl
theorem Gm{k:Nat}{q:Ow}{r r':List (Nat×Ow)}(h:eD k r=r'):eD k ((k,q)::r)=r':=by simp only[eD,aj];rw[h]
theorem EB{k j:Nat}{q:Ow}{r r':List (Nat×Ow)}(hj:Nat.beq j k=false)(h:eD k r=r'):eD k ((j,q)::r)=(j,q)::r':=by
 simp only[eD];rw[ai (fun e=>by rw[e,dz]at hj;cases hj),h]
theorem ik{t k:Nat}{T:TypeId}{wd:Nat}{sl':List (Nat×D)}(ht:look sl t= .sc (.slice none 0 0))(hk:ow.all (fun p=>!Nat.beq p.1 k)=true)(hw:Nat.blt 0 wd=true)(hs:kill k sl=sl')(hk0:Nat.blt k 1000000=true:=by exact rfl):Sh X0 n ⟨sl,ow⟩ ⟨(t,.own k)::sl',(k,⟨T,wd,[]⟩)::ow⟩:=by
 subst hs;exact Ml (s:=⟨sl,ow⟩) ht (fun p hp e=>by
  have:=eT.1 hk p hp;rw[e,dz]at this;cases this) (by simpa[aV]using hw) hk0
theorem bN{k wd:Nat}{T:TypeId}{l:List D}{sl':List (Nat×D)}{ow':List (Nat×Ow)}(hk:(k,(⟨T,wd,l⟩:Ow))∈ow)(hs:shut k wd l sl=sl')(ho:eD k ow=ow')(hkh:hdr k=false:=by exact rfl):Sh X0 n ⟨sl,ow⟩ ⟨sl',ow'⟩:=by
 subst hs;subst ho;exact AB (s:=⟨sl,ow⟩) hk hkh
def Sub(sl:List (Nat×D)):List (Nat×D)->Prop
 |[]=>True
 |p::r=>look sl p.1=p.2/\Sub sl r
theorem bA{a b:Bool}(h:a=b):D.sc (.bool a)= .sc (.bool b):=by rw[h]
theorem tL{q:IntKind}{a b:Int}(h:a=b):D.sc (.int q a)= .sc (.int q b):=by rw[h]
def CU(ow:List (Nat×Ow))(ow':List (Nat×Ow)):Prop:=∀p∈ow',p∈ow
theorem Fg:CU ow []:=fun p hp=>by cases hp
theorem Dl{p:Nat×Ow}{r:List (Nat×Ow)}(h:p∈ow)(k:CU ow r):CU ow (p::r):=fun q hq=>by
 rcases bs.1 hq with e|e
 ·rw[e];exact h
 ·exact k q e
theorem II:Sub sl []:=trivial
theorem Fh{t:Nat}{d d':D}{r:List (Nat×D)}(h:look sl t=d)(e:d=d')(k:Sub sl r):Sub sl ((t,d')::r):=⟨e▸h,k⟩
theorem Ks{sl':List (Nat×D)}{ow':List (Nat×Ow)}(h:Sub sl sl')(ho:ow=ow'):Sh X0 n ⟨sl,ow⟩ ⟨sl',ow'⟩:=by
 subst ho;refine Mk (s:=⟨sl,ow⟩) ?_;have key:∀r:List (Nat×D),Sub sl r->∀p∈r,look sl p.1=p.2:=fun r=>by
  induction r with
  |nil=>intro _ p hp;cases hp
  |cons q r ih=>
   intro h p hp;rcases bs.1 hp with e|e
   ·rw[e];exact h.1
   ·exact ih h.2 p e
 exact key _ h
theorem aO{sl':List (Nat×D)}{ow':List (Nat×Ow)}(h:Sub sl sl')(ho:CU ow ow'):Sh X0 n ⟨sl,ow⟩ ⟨sl',ow'⟩:=fun w0 f a w hd=>by
 obtain⟨f',h1⟩:=Ks (X0:=X0) (n:=n) (ow:=ow) h rfl w0 f a w hd;refine⟨f',?_⟩;have hX:∀b,XO X0 ⟨sl',ow'⟩ f' b->XO X0 ⟨sl',ow⟩ f' b:=fun b hb=>by
  rcases hb with hb|⟨p,hp,e⟩
  ·exact .inl hb
  ·exact .inr ⟨p,ho p hp,e⟩
 refine⟨h1.sz,h1.df,h1.bl,h1.x0,h1.xy,h1.fx,fun p hp=>h1.lo p (ho p hp),fun u=>?_,fun p hp=>?_,fun b ⟨p,hp,e⟩=>h1.nw b ⟨p,ho p hp,e⟩,fun p hp q hq=>h1.dj p (ho p hp) q (ho q hq),fun p hp q hq=>h1.un p (ho p hp) q (ho q hq)⟩
 ·have h2:=h1.sl u;show SR _ _ _ (look sl' u) _;have h3:SR (XO X0 ⟨sl',ow⟩ f') f' w (look sl' u) (a.tmps.getD u undef):=h2;cases hd:look sl' u<;>rw[hd]at h3<;>first|exact AR.free h3 (fun b _ hb=>hX b hb)|exact h3
 ·obtain⟨k0,zs,k1,k2⟩:=h1.ow p (ho p hp);exact⟨k0,zs,k1,EE.agr (Agr.refl _ w) (fun b _ hb=>hX b hb) (fun _ _=>rfl) k2⟩
theorem aF {g : FuncId} {fn : Func} {c : Code} {ds : List D} {r : D} (hf : P.funcs[g]? = some fn) (hname : (fn.name == "runtime.NumGoroutine") = false) (hb : fn.body = some c) (hn : Nat.ble ds.length fn.ntmps = true) (hds : ds.all D.seen = true)
 (h:∀X0,aW P X0 fn.ntmps c (fin P X0 fn.ntmps fn r) ⟨aA 0 ds,[]⟩):Go.Proofs.Enters P g/\Fun P g ds r:=⟨Go.Proofs.enters_of hf hname hb,Lz hf hb (by simpa using hn) hds h⟩
end
end DW
end
section
open Go.RowKit
namespace DW
def bP(k i:Nat)(d:D):List (Nat×Ow)->List (Nat×Ow)
 |[]=>[]
 |(j,q)::l=>match Nat.beq j k with
  |true=>(j,⟨q.T,q.wd,q.l.set i d⟩)::bP k i d l
  |false=>(j,q)::bP k i d l
theorem fl{k i:Nat}{d:D}{q:Ow}:∀{l:List (Nat×Ow)},(∀p∈l,p.1=k->p=(k,q))->∀p,p∈bP k i d l->(p.1≠k/\p∈l)\/p=(k,⟨q.T,q.wd,q.l.set i d⟩)
 |[],_,p,hp=>by simp[bP]at hp
 |(j,r)::l,hu,p,hp=>by
  simp only[bP]at hp
  cases hj:Nat.beq j k with
  |true=>
   have hj':=cn hj;rw[hj]at hp;have e:=hu _ bn hj';cases e;rcases bs.1 hp with h|h
   ·exact .inr h
   ·rcases fl (fun a ha=>hu a (bq _ ha)) p h with h|h
    ·exact .inl ⟨h.1,bq _ h.2⟩
    ·exact .inr h
  |false=>
   rw[hj]at hp;rcases bs.1 hp with h|h
   ·exact .inl ⟨by rw[h];exact pH hj,by rw[h];exact bn⟩
   ·rcases fl (fun a ha=>hu a (bq _ ha)) p h with h|h
    ·exact .inl ⟨h.1,bq _ h.2⟩
    ·exact .inr h
theorem ElH.nw0{X:Nat->Prop}{f:Nat->Value}{w:World}:∀{l:List D} {xs:List Value},ElH X f w l xs->l≠[]->∃u,xs[0]?=some u/\∀n,u≠ .int .u32 n
 |[],_,_,h=>absurd rfl h
 |_::_,_,⟨u,rest,h1,_,_,_,_,h6,_⟩,_=>⟨u,by rw[h1];rfl,h6⟩
theorem EE.nw0{X:Nat->Prop}{f:Nat->Value}{w:World}{k wd:Nat}{l:List D}{xs:List Value}(h:EE X f w k wd l xs)(hl:l≠[])(h0:0<wd):∃u,xs[0]?=some u/\∀n,u≠ .int .u32 n:=by
 unfold EE at h
 cases hh:hdr k with
 |false=>rw[hh]at h;exact Els.nw0 h hl h0
 |true=>rw[hh]at h;exact ElH.nw0 h.2 hl
theorem Hd.set{X0:Nat->Prop}{n:Nat}{w0:Bs}{s:S}{f:Nat->Value}{a:Act}{w w':World}{k i:Nat}{q:Ow}{d:D}{xs:List Value}(h:Hd X0 n w0 s f a w)(hk:(k,q)∈s.ow)(hi:i<q.l.length)
  (hg:w.grownBy w' (f k).ownBlock) (ho:w'.ownsRow 0 q.T q.wd (f k) q.l.length xs) (hy:EE (XO X0 s f) f w k q.wd (q.l.set i d) xs):
  Hd X0 n w0 ⟨s.sl,bP k i d s.ow⟩ f a w':=by
 obtain⟨hwd,_⟩:=h.ow _ hk;have hag:=zV h hk hg;have hl:q.l.set i d≠[]:=fun e=>by have:=kH List.length e;simp at this;rw[this]at hi;simp at hi
 have hX:∀b,b<w.heap.size->XO X0 ⟨s.sl,bP k i d s.ow⟩ f b->XO X0 s f b:=fun b hbs hb'=>by
  rcases hb' with hb'|⟨p,hp,e⟩
  ·exact .inl hb'
  ·rcases fl (fun p hp e=>h.un p hp _ hk e) p hp with⟨h1,h2⟩|h1
   ·exact .inr ⟨p,h2,e⟩
   ·subst h1;exact .inr ⟨_,hk,e⟩
 have hoth:∀p∈s.ow,p.1≠k->(f p.1).ownBlock=none\/(f p.1).ownBlock≠(f k).ownBlock:=fun p hp hpk=>by
  cases hv:(f p.1).ownBlock with
  |none=>exact .inl rfl
  |some b=>exact .inr fun e=>h.dj p hp _ hk hpk b hv e.symm
 refine⟨h.sz,h.df,h.bl.grown hg (fun b hb=>h.lo _ hk b hb),h.x0,h.xy,h.fx,fun p hp b e=>?_,fun u=>?_,fun p hp=>?_,fun b hb'=>?_,fun p hp p' hp' hne b e e'=>?_,fun p hp p' hp' e=>?_⟩
 ·rcases fl (fun p hp e=>h.un p hp _ hk e) p hp with⟨_,h2⟩|h1
  ·exact h.lo p h2 b e
  ·subst h1;exact h.lo _ hk b e
 ·have h1:=h.sl u;show SR _ _ _ (s.gt u) _;cases hd:s.gt u<;>rw[hd]at h1<;>first|exact AR.agr hag hX _ _ h1|exact h1
 ·rcases fl (fun p hp e=>h.un p hp _ hk e) p hp with⟨h1,h2⟩|h1
  ·obtain⟨k0,zs,k1,k2⟩:=h.ow p h2;exact⟨k0,zs,World.ownsRow.kept k1 hg (hoth p h2 h1),EE.agr hag hX (fun _ _=>rfl) k2⟩
  ·subst h1;exact⟨hwd,xs,by rw[dc];exact ho,EE.agr hag hX (fun _ _=>rfl) hy⟩
 ·obtain⟨p,hp,e⟩:=hb';rcases fl (fun p hp e=>h.un p hp _ hk e) p hp with⟨h1,h2⟩|h1
  ·have h3:=h.nw b ⟨p,h2,e⟩;intro m hm;have hlt:=((h.ow p h2).lt e).2;have:w'.cell? ⟨b,0,none⟩=w.cell? ⟨b,0,none⟩:=World.cell?_of_block (hg.block b hlt fun e2=>h.dj p h2 _ hk h1 b e e2.symm);rw[this]at hm;exact h3 m hm
  ·subst h1;intro m hm;obtain⟨u,hu,hn⟩:=EE.nw0 hy hl hwd;have hc:=World.ownsRow.cells ho e 0 u hu;rw[cP,cf]at hc;rw[hc]at hm;exact hn m (by simpa using hm)
 ·rcases fl (fun p hp e=>h.un p hp _ hk e) p hp with⟨h1,h2⟩|h1<;>rcases fl (fun p hp e=>h.un p hp _ hk e) p' hp' with⟨h1',h2'⟩|h1'
  ·exact h.dj p h2 p' h2' hne b e e'
  ·subst h1';exact h.dj p h2 _ hk h1 b e e'
  ·subst h1;exact h.dj p' h2' _ hk h1' b e' e
  ·subst h1;subst h1';exact hne rfl
 ·rcases fl (fun p hp e=>h.un p hp _ hk e) p hp with⟨h1,h2⟩|h1<;>rcases fl (fun p hp e=>h.un p hp _ hk e) p' hp' with⟨h1',h2'⟩|h1'
  ·exact h.un p h2 p' h2' e
  ·subst h1';exact absurd e h1
  ·subst h1;exact absurd e.symm h1'
  ·rw[h1,h1']
theorem Hd.new{X0:Nat->Prop}{n:Nat}{w0:Bs}{s:S}{f:Nat->Value}{a:Act}{w:World}{k cap:Nat}{q:Ow}{cs:Array Value}(h:Hd X0 n w0 s f a w)(hk:∀p∈s.ow,p.1≠k)(hk0:Nat.blt k 1000000=true)(hwd:0<q.wd)(hc:q.l.length<=cap)(hm:cap<=maxLen)(hs:cs.size=cap*q.wd)
  (hx:Els (XO X0 s f) w q.wd q.l (cs.toList.take (q.l.length*q.wd))) (hl:q.l≠[]\/cs= #[]) {t:Nat} (ht:t<n) {d:D} {v:Value} (hd:∀X,SR X (fun j=>if j=k then .slice (some ⟨w.heap.size,0,none⟩) q.l.length cap else f j) (w.alloc (.cells cs q.T)) d v):
  Hd X0 n w0 ⟨(t,d)::kill k s.sl,(k,q)::s.ow⟩ (fun j=>if j=k then .slice (some ⟨w.heap.size,0,none⟩) q.l.length cap else f j) (a.put (some t) v) (w.alloc (.cells cs q.T)):=by
 have hb:Below w.heap.size w (w.alloc (.cells cs q.T)):=(Below.refl _ _).alloc (af _) _;have hag:Agr (XO X0 s f) w (w.alloc (.cells cs q.T)):=Agr.of _ hb;have hX:∀b,b<w.heap.size->XO X0 ⟨(t,d)::kill k s.sl,(k,q)::s.ow⟩ (fun j=>if j=k then .slice (some ⟨w.heap.size,0,none⟩) q.l.length cap else f j) b->XO X0 s f b:=fun b hbs hb=>by
  rcases hb with hb|⟨p,hp,e⟩
  ·exact .inl hb
  ·rcases bs.1 hp with h1|h1
   ·subst h1;simp only[if_true,Value.ownBlock,ah]at e;omega
   ·simp only[ai (hk p h1)]at e;exact .inr ⟨p,h1,e⟩
 have hrow:∀j,im j=true->(if j=k then Value.slice (some ⟨w.heap.size,0,none⟩) q.l.length cap else f j)=f j:=fun j hj=>ai (kW hk0 hj);refine⟨by simp[Act.put,h.sz],h.df,h.bl.below hb,h.x0,h.xy,fun j hj=>(ai (kX hk0 hj)).trans (h.fx j hj),fun p hp b e=>?_,fun u=>?_,fun p hp=>?_,fun b hb'=>?_,fun p hp p' hp' hne b e e'=>?_,fun p hp p' hp' e=>?_⟩
 ·rcases bs.1 hp with h1|h1
  ·subst h1;simp only[if_true,Value.ownBlock,ah]at e;exact .inl (by have:=h.bl.size;omega)
  ·simp only[ai (hk p h1)]at e;exact h.lo p h1 b e
 ·rw[jN (by rw[h.sz];exact ht)];show SR _ _ _ (look ((t,d)::kill k s.sl) u) _;simp only[look];split
  ·exact hd _
  ·rcases fI k s.sl u with⟨e,hne⟩|e
   ·rw[e];exact SR.other (h.sl u) hne hag hX
   ·rw[e];exact SR.any
 ·rcases bs.1 hp with h1|h1
  ·subst h1;refine⟨hwd,_,?_,EE.of (Els.agr hag hX hx) (hZ hk0)⟩;simp only[if_true];refine⟨by rw[aQ,bJ,hs];exact dT (cS _ hc),.inr ⟨w.heap.size,cap,cs,rfl,aP _,heap_alloc_new w _,hc,hm,hs,rfl⟩⟩
  ·obtain⟨k0,zs,k1,k2⟩:=h.ow p h1;refine⟨k0,zs,?_,EE.agr hag hX hrow k2⟩;simp only[ai (hk p h1)];exact World.ownsRow.kept (row:=none) k1 ⟨hb.os,hb.tape,hb.output,hb.size,fun b hbs _=>hb.block b hbs⟩ (by cases(f p.1).ownBlock<;>simp)
 ·obtain⟨p,hp,e⟩:=hb';rcases bs.1 hp with h1|h1
  ·subst h1;simp only[if_true,Value.ownBlock,ah]at e;subst e;intro m hm';rw[cell_of_row _ w.heap.size _ _ _ (0,0) (heap_alloc_new w _)]at hm';rcases hl with hl|hl
   ·obtain⟨u,hu,hn⟩:=Els.nw0 hx hl hwd;rw[et]at hu;split at hu
    ·rw[cQ]at hu;rw[hu]at hm';exact hn m (by simpa using hm')
    ·cases hu
   ·rw[hl]at hm';simp at hm'
  ·simp only[ai (hk p h1)]at e;have hlt:=((h.ow p h1).lt e).2;intro m hm';exact h.nw b ⟨p,h1,e⟩ m ((hb.cell (p:=⟨b,0,none⟩) hlt).symm.trans hm')
 ·have hlt:∀p∈s.ow,∀b,(f p.1).ownBlock=some b->b<w.heap.size:=fun p hp b e=>((h.ow p hp).lt e).2;rcases bs.1 hp with h1|h1<;>rcases bs.1 hp' with h1'|h1'
  ·subst h1;subst h1';exact hne rfl
  ·subst h1;simp only[if_true,ai (hk p' h1'),Value.ownBlock,ah]at e e';have:=hlt p' h1' b e';omega
  ·subst h1';simp only[if_true,ai (hk p h1),Value.ownBlock,ah]at e e';have:=hlt p h1 b e;omega
  ·simp only[ai (hk p h1),ai (hk p' h1')]at e e';exact h.dj p h1 p' h1' hne b e e'
 ·rcases bs.1 hp with h1|h1<;>rcases bs.1 hp' with h1'|h1'
  ·rw[h1,h1']
  ·subst h1;exact absurd e.symm (hk p' h1')
  ·subst h1';exact absurd e (hk p h1)
  ·exact h.un p h1 p' h1' e
section
variable {P : Program} {X0 : Nat->Prop} {n : Nat} {sl : List (Nat × D)} {ow : List (Nat × Ow)} {o : Oper} {ops : Array Oper} {l : List Oper} {K : S->Prop} {t : Nat} {d : D}
theorem iT{k:Nat}(h:ow.all (fun p=>!Nat.beq p.1 k)=true):∀p∈ow,p.1≠k:=fun p hp e=>by
 have:=eT.1 h p hp;rw[e,dz]at this;cases this
theorem lg{T:TypeId}{k wd:Nat}{z:Value}{sl':List (Nat×D)}(hg:o.guard=none)(hdst:o.dst=some t)(ht:Nat.blt t n=true)(ho:o.op= .alloc T)(hk:ow.all (fun p=>!Nat.beq p.1 k)=true)
  (hz:(P.info? T).map (fun i=>i.zero)=some (some z)) (hd:cst z=d) (hf:d.fits=true) (hw:d.wd=wd) (h0:Nat.blt 0 wd=true) (hn:d.nw=true) (hs:kill k sl=sl')
  (h:aL P X0 n ops l K ⟨(t,.opt k 0)::sl',(k,⟨T,wd,[d]⟩)::ow⟩) (hk0:Nat.blt k 1000000=true:=by exact rfl):aL P X0 n ops (o::l) K ⟨sl,ow⟩:=by
 subst hs;subst hw;subst hd;refine jd fun w0 f a w Qx hh=>⟨by simp[Region.wanted,hg],?_⟩
 cases hq:P.info? T with
 |none=>rw[hq]at hz;cases hz
 |some inf=>
  rw[hq]at hz;simp only[bQ,ah]at hz;have hsz:z.cells.size=(cst z).wd:=AR.size (X:=XO X0 ⟨sl,ow⟩ f) (w:=w) _ _ hf (by
   have:=jG (X:=XO X0 ⟨sl,ow⟩ f) (f:=f) (w:=w) z;cases hc:cst z<;>rw[hc]at this hf<;>first|exact this|simp[D.fits]at hf)
  have h0':0<(cst z).wd:=by simpa[aV]using h0
  have hAR:AR (XO X0 ⟨sl,ow⟩ f) w (cst z) z:=by
   have:=jG (X:=XO X0 ⟨sl,ow⟩ f) (f:=f) (w:=w) z;cases hc:cst z<;>rw[hc]at this hf<;>first|exact this|simp[D.fits]at hf
  have hrun:(execOp a.eval o).run P w= .ok (.value (.pointer (some ⟨w.heap.size,0,none⟩))) (w.alloc (.cells z.cells T)):=by
   unfold execOp;simp only[ho];simp[Instr.alloc,zeroValue,typeInfo,hq,hz,newVar,newRow]
  unfold Oper.wp;rw[hrun];simp only[Oper.upon,hdst];refine⟨_,_,hh.new (k:=k) (cap:=1) (q:=⟨T,(cst z).wd,[cst z]⟩) (iT hk) hk0 h0' (af _) (by simp[maxLen]) (by simpa using hsz) ⟨z,[],?_,hAR,hf,rfl,hn,rfl⟩ (.inl aY) Bi (fun X=>?_),h⟩
  ·simp only[ji,cC,tw];rw[eA (by simp[hsz])]
  ·simp only[SR,if_true];exact⟨w.heap.size,1,1,rfl,rfl⟩
theorem Ay{x y:Operand}{T tt:TypeId}{k off wd i:Nat}{lo:List D}{ow':List (Nat×Ow)}(hg:o.guard=none)(hdst:o.dst=none)(ho:o.op= .store tt x y)(hx:S.op ⟨sl,ow⟩ x= .opt k off)(hy:S.op ⟨sl,ow⟩ y=d)(hk:(k,(⟨T,wd,lo⟩:Ow))∈ow)
  (hoff:off=i*wd) (hi:i<lo.length) (hf:d.fits=true) (hw:d.wd=wd) (hn:d.nw=true) (hz:(P.info? tt).map (·.size)=some wd) (hs:bP k i d ow=ow')
  (h:aL P X0 n ops l K ⟨sl,ow'⟩) (hkh:hdr k=false:=by exact rfl):aL P X0 n ops (o::l) K ⟨sl,ow⟩:=by
 subst hs;subst hoff;subst hw;refine jd fun w0 f a w Qx hh=>⟨by simp[Region.wanted,hg],?_⟩;have h1:=hh.op x;have h2:=hh.op y;rw[hx]at h1;rw[hy]at h2;simp only[SR]at h1;obtain⟨g,n',c',e1,e2⟩:=h1;have hAR:AR (XO X0 ⟨sl,ow⟩ f) w d (a.eval y):=by cases d<;>first|exact h2|simp[D.fits]at hf
 have hsz:=AR.size _ _ hf hAR;obtain⟨hw0,xs,⟨hxl,h10⟩,h11'⟩:=hh.ow _ hk;have h11:=h11'.pl hkh;simp only at h10 h11 hw0 hxl;rcases h10 with⟨h12,_⟩|⟨g',cap,cur,h12,hb,hgg,hle,hm,hcs,htk⟩
 ·rw[e1]at h12;cases h12
 rw[e1]at h12;cases h12;have hlt:i*d.wd+d.wd<=lo.length*d.wd:=by
  have:=cS d.wd (show i+1<=lo.length by omega);rw[bU,cC]at this;exact this
 have hle2:lo.length*d.wd<=c'*d.wd:=cS _ hle
 cases hq:P.info? tt with
 |none=>rw[hq]at hz;cases hz
 |some inf=>
  rw[hq]at hz;simp only[bQ,ah]at hz;have hst:=run_storeCells_at (P:=P) g (i*d.wd) T (a.eval y).cells.toList 0 cur w hgg (by simp only[bJ,cf];omega) (AR.one _ _ hf hAR);have hrun:(execOp a.eval o).run P w= .ok .skip (w.setRow g (cur.toList.take (i*d.wd)++(a.eval y).cells.toList++cur.toList.drop (i*d.wd+d.wd)).toArray):=by
   unfold execOp;simp only[ho,Instr.storeAt,Instr.sureAddr,e2,storeVar,sizeOf,typeInfo];simp only[cf,bJ,hsz]at hst;simp[hq,hz,hsz,hst]
  unfold Oper.wp;rw[hrun];simp only[Oper.upon,hdst,Act.put];have hgrow:w.grownBy (w.setRow g (cur.toList.take (i*d.wd)++(a.eval y).cells.toList++cur.toList.drop (i*d.wd+d.wd)).toArray) (f k).ownBlock:=⟨rfl,rfl,rfl,by simp,fun b _ hb=>setRow_other w g b _ (fun e=>hb (by simp[e1,Value.ownBlock,e]))⟩;have hclen:cur.toList.length=c'*d.wd:=by simp[hcs]
  refine⟨_,f,hh.set (k:=k) (i:=i) (q:=⟨T,d.wd,lo⟩) (d:=d) (xs:=(cur.toList.take (i*d.wd)++(a.eval y).cells.toList++cur.toList.drop (i*d.wd+d.wd)).take (lo.length*d.wd)) hk hi hgrow ⟨?_,.inr ⟨g,c',_,e1,hb,setRow_heap w g cur _ T _ hgg,hle,hm,?_,?_⟩⟩ ?_,h⟩
  ·simp only[aQ,cL,ep,bJ,hsz,hcs];omega
  ·simp only[jh,cL,aQ,ep,bJ,hsz,hcs];omega
  ·simp only[pG]
  ·
   have key:∀(lo:List D) (i:Nat) (ys:List Value),Els (XO X0 ⟨sl,ow⟩ f) w d.wd lo ys->i<lo.length->Els (XO X0 ⟨sl,ow⟩ f) w d.wd (lo.set i d) (ys.take (i*d.wd)++(a.eval y).cells.toList++ys.drop (i*d.wd+d.wd)):=fun lo=>by
    induction lo with
    |nil=>intro i ys _ hi;simp at hi
    |cons d0 lo ih=>
     intro i ys ⟨u,rest,k1,k2,k3,k4,k5,k6⟩ hi;have hu:=AR.size d0 u k3 k2;have hul:u.cells.toList.length=d.wd:=by rw[bJ,hu,k4]
     match i with
     |0=>
      simp only[iy,ka,eU,fV,bG];refine⟨a.eval y,rest,?_,hAR,hf,rfl,hn,k6⟩;rw[k1,tB aa,pI aa,fV]
     |i+1=>
      simp only[mj];refine⟨u,_,?_,k2,k3,k4,k5,ih i rest k6 (by simpa using hi)⟩;rw[k1,show(i+1)*d.wd=d.wd+i*d.wd by rw[bU,cC,jY],List.take_append,eA aa,hul,wE,fS,fS,fS,
       List.drop_append,pI aa,fV,hul,show d.wd+i*d.wd+d.wd-d.wd=i*d.wd+d.wd by omega]
   have h13:=key lo i xs h11 hi;have e0:cur.toList=xs++cur.toList.drop (lo.length*d.wd):=by rw[<-htk];exact(ou _ _).symm
   have e5:(cur.toList.take (i*d.wd)++(a.eval y).cells.toList++cur.toList.drop (i*d.wd+d.wd)).take (lo.length*d.wd)=List.take (i*d.wd) xs++(a.eval y).cells.toList++List.drop (i*d.wd+d.wd) xs:=by
    have a1:cur.toList.take (i*d.wd)=xs.take (i*d.wd):=by rw[<-htk,List.take_take,dT aa]
    have a2:cur.toList.drop (i*d.wd+d.wd)=xs.drop (i*d.wd+d.wd)++cur.toList.drop (lo.length*d.wd):=by
     have:=kH (List.drop (i*d.wd+d.wd)) e0;rw[tB aa]at this;exact this
    rw[a1,a2,<-fS,List.take_left' (by simp only[cL,aQ,ep,bJ,hsz];omega)]
   rw[e5];exact EE.of h13 hkh
theorem set_nil{k i:Nat}{d:D}:bP k i d []=[]:=rfl
theorem I0{k wd:Nat}{T:TypeId}{d0 d:D}{r r':List (Nat×Ow)}(h:bP k 0 d r=r'):bP k 0 d ((k,⟨T,wd,[d0]⟩)::r)=(k,⟨T,wd,[d]⟩)::r':=by simp only[bP,dz,iy];rw[h]
theorem Fp{k j i:Nat}{q:Ow}{d:D}{r r':List (Nat×Ow)}(hj:Nat.beq j k=false)(h:bP k i d r=r'):bP k i d ((j,q)::r)=(j,q)::r':=by simp only[bP,hj];rw[h]
end
end DW
end
section
open Go.RowKit
namespace DW
theorem Els.at{X:Nat->Prop}{w:World}{wd:Nat}:∀{l:List D} {xs:List Value} {i:Nat} {d:D},Els X w wd l xs->l[i]?=some d->∃u,AR X w d u/\d.fits=true/\d.wd=wd/\∀j v,u.cells.toList[j]?=some v->xs[i*wd+j]?=some v
 |[],_,_,_,_,h=>by simp at h
 |d::l,_,0,d',⟨u,rest,h1,h2,h3,h4,_,h5⟩,e=>by
  simp at e;subst e;refine⟨u,h2,h3,h4,fun j v hj=>?_⟩;rw[h1,ka,bG,en (bW.1 hj).1];exact hj
 |d::l,_,i+1,d',⟨u,rest,h1,h2,h3,h4,_,h5⟩,e=>by
  obtain⟨u',k1,k2,k3,k4⟩:=Els.at h5 oc;have hsz:=AR.size d u h3 h2;refine⟨u',k1,k2,k3,fun j v hj=>?_⟩;rw[h1,iE (by simp only[bJ,hsz,h4,bU,cC];omega),bJ,hsz,h4,bU,cC,show i*wd+wd+j-wd=i*wd+j by omega];exact k4 j v hj
theorem ElH.at{X:Nat->Prop}{f:Nat->Value}{w:World}:∀{l:List D} {xs:List Value} {i:Nat} {d:D},ElH X f w l xs->l[i]?=some d->∃u,xs[i]?=some u/\u.oneCell'=true/\u.cells= #[u]/\ER X f w d u/\d.wd=1
 |[],_,_,_,_,h=>by simp at h
 |_::_,_,0,_,⟨u,rest,h1,h2,h3,h4,h5,_⟩,e=>by simp at e;subst e;exact⟨u,by rw[h1];rfl,h2,h3,h4,h5⟩
 |_::_,_,i+1,_,⟨u,rest,h1,_,_,_,_,_,h7⟩,e=>by
  obtain⟨u',k1,k2⟩:=ElH.at h7 oc;exact⟨u',by rw[h1];simpa using k1,k2⟩
theorem EE.at{X:Nat->Prop}{f:Nat->Value}{w:World}{k wd:Nat}{l:List D}{xs:List Value}{i:Nat}{d:D}(h:EE X f w k wd l xs)(e:l[i]?=some d)(hf:d.fits=true):∃u,AR X w d u/\d.wd=wd/\∀j v,u.cells.toList[j]?=some v->xs[i*wd+j]?=some v:=by
 unfold EE at h
 cases hh:hdr k with
 |false=>
  rw[hh]at h;obtain⟨u,k1,_,k3,k4⟩:=Els.at h e;exact⟨u,k1,k3,k4⟩
 |true=>
  rw[hh]at h;obtain⟨rfl,h⟩:=h;obtain⟨u,k1,_,k3,k4,k5⟩:=ElH.at h e;refine⟨u,?_,k5,fun j v hj=>?_⟩
  ·cases d<;>first|exact k4.1|simp[D.fits]at hf
  ·rw[k3]at hj
   match j with
   |0=>rw[kK,cf,k1];simpa using hj
   |j+1=>simp at hj
theorem Els.mk{X:Nat->Prop}{w:World}{wd:Nat}:∀{l:List D} {xs:List Value},xs.length=l.length*wd->(∀i d,l[i]?=some d->∃u,AR X w d u/\d.fits=true/\d.wd=wd/\d.nw=true/\∀j v,u.cells.toList[j]?=some v->xs[i*wd+j]?=some v)->Els X w wd l xs
 |[],xs,hl,_=>gw pA
 |d::l,xs,hl,h=>by
  obtain⟨u,h1,h2,h3,h4,h5⟩:=h 0 d rfl;have hsz:=AR.size d u h2 h1;have hul:u.cells.toList.length=wd:=by rw[bJ,hsz,h3]
  simp only[eV,bU,cC]at hl;have e:xs.take wd=u.cells.toList:=by
   apply nr;intro j;by_cases hj:j<wd
   ·rw[gV hj];have:=h5 j _ (aS aa);rw[ka,bG]at this;rw[this,aS aa]
   ·rw[iG xp,iG aa]
  refine⟨u,xs.drop wd,by rw[<-e,ou],h1,h2,h3,h4,Els.mk (by rw[ep];omega) fun i d' hd'=>?_⟩;obtain⟨u',k1,k2,k3,k4,k5⟩:=h (i+1) d' (by simpa using hd');refine⟨u',k1,k2,k3,k4,fun j v hj=>?_⟩;have:=k5 j v hj;rw[fU];rw[bU,cC]at this;rw[show wd+(i*wd+j)=i*wd+wd+j by omega];exact this
theorem Els.made{X:Nat->Prop}{w:World}{z:Value}{d:D}(h:AR X w d z)(hf:d.fits=true)(hn:d.nw=true)(h0:0<d.wd)(n:Nat):Els X w d.wd (List.replicate n d) (madeCells z.cells (n*d.wd)).toList:=by
 have hsz:=AR.size d z hf h;refine Els.mk (by simp[size_madeCells]) fun i d' hd'=>?_;obtain⟨rfl,hi⟩:d'=d/\i<n:=by
  rw[sY]at hd';split at hd'
  ·next hi=>exact⟨by simpa using hd'.symm,hi⟩
  ·cases hd'
 refine⟨z,h,hf,rfl,hn,fun j v hj=>?_⟩;have hjl:j<d'.wd:=by have:=(bW.1 hj).1;rwa[bJ,hsz]at this
 have hlt:i*d'.wd+j<n*d'.wd:=by
  have:=cS d'.wd (show i+1<=n by omega);rw[bU,cC]at this;omega
 unfold madeCells;rw[cQ,pK,pJ,aj hlt];simp only[bQ,ah];rw[hsz,jY (i*d'.wd),Nat.add_mul_mod_self_right,oe hjl];rw[cQ]at hj;simp[getElem!_def,hj]
section
variable {P : Program} {X0 : Nat->Prop} {n : Nat} {Q : Exit->S->Prop} {s : S} {sl : List (Nat × D)} {ow : List (Nat × Ow)} {o : Oper} {ops : Array Oper} {l : List Oper} {K : S->Prop} {t : Nat} {d : D}
theorem uu{x:Operand}{tt T:TypeId}{k off wd i:Nat}{lo:List D}{b:Bool}(ho:o.op= .load tt x)(hx:s.op x= .opt k off)(hk:(k,(⟨T,wd,lo⟩:Ow))∈s.ow)(hd:lo[i]?=some d)(hoff:i*wd=off)(hf:d.fits=true)(hw:d.wd=wd)(ha:d.agg=b)(hz:(P.info? tt).map (·.size)=some wd)(hg:(P.underlying tt).map TypeDesc.isRow=some b):bj P o s d:=fun X f a w base _ how hs=>by
 subst hoff;subst hw;subst ha;have h1:=hs x bC;rw[hx]at h1;simp only[SR]at h1;obtain⟨g,n',c',e1,e2⟩:=h1;obtain⟨hw0,xs,⟨hxl,h10⟩,h11⟩:=how _ hk;simp only at h10 h11 hxl;rcases h10 with⟨h12,h13⟩|⟨g',cap,cur,h12,hb,hgg,hle,hm,hcs,htk⟩
 ·rw[e1]at h12;cases h12
 rw[e1]at h12;cases h12;obtain⟨u,k1,_,k4⟩:=EE.at h11 hd hf;have hr:w.rangeAt g (i*d.wd) u.cells.toList:=fun j v hj=>by
  have h13:=k4 j v hj;rw[cell_of_row w g _ cur _ (0,0) hgg];have hlt:=(bW.1 h13).1;rw[<-htk,aQ]at hlt;rw[<-htk,gV aa,cQ]at h13;exact h13
 refine cO (u:=u) ?_ (by cases d<;>first|exact k1|simp[D.fits]at hf);unfold execOp;rw[ho];simp only[Sem.run_bind,e2,sE k1 hf hr hz hg,Result.andThen_ok];rfl
theorem yZ{x:Operand}{T:TypeId}{i off:Nat}{ls:List D}{fs:Array Field}{fd:Field}(ho:o.op= .fieldAddr T x i)(hx:s.op x= .pt (.st ls))(hu:P.underlying T=some (.struct fs))(hfd:fs[i]?=some fd)(hd:ls[i]?=some d)(hoff:D.wds (ls.take i)=off)(hfo:fd.offset=off)(hz:(P.info? fd.type).map (fun i=>decide (i.size≠0))=some true):bj P o s (.pt d):=fun X f a w base _ _ hs=>by
 subst hoff;have h1:=hs x bC;rw[hx]at h1;simp only[SR,AR]at h1;obtain⟨b,off,u,h2,h3,h4,h5,h6⟩:=h1;obtain⟨cs,rfl,h7⟩:=h5;obtain⟨u',k1,k2,k3⟩:=ASt.at h7 hd;refine cO (u:=.pointer (some ⟨b,off+D.wds (ls.take i),none⟩)) ?_ (by
  simp only[SR,AR];refine⟨b,_,u',rfl,h3,h4,k1,fun j v hj=>?_⟩;rw[mq];exact h6 _ v (k3 j v hj))
 unfold execOp;rw[ho]
 cases hq:P.info? fd.type with
 |none=>rw[hq]at hz;cases hz
 |some inf=>
  rw[hq]at hz;simp only[bQ,ah,decide_eq_true_eq]at hz;simp[h2,Instr.fieldAt,run_underlying hu,hfd,Instr.sureAddr,fieldPlace,sizeOf,typeInfo,hq,hz,hfo,cP]
theorem uv{x:Operand}{T:TypeId}{i:Nat}{ls:List D}(ho:o.op= .fieldAddr T x i)(hx:s.op x= .pt (.st ls))(hu:P.underlying T=some (.struct (P.fieldsOf T)))(hd:ls[i]?=some d)(hfo:((P.fieldsOf T)[i]?).map (fun fd=>(fd.offset,(P.info? fd.type).map (fun i=>decide (i.size≠0))))=some (D.wds (ls.take i),some true)):bj P o s (.pt d):=by
 obtain⟨fd,hfd,hfo⟩:=fw.1 hfo;simp only[aD]at hfo;exact yZ ho hx hu hfd hd rfl hfo.1 hfo.2
theorem d_mul{x y:Operand}{tt tt':TypeId}{p q:Int}(ho:o.op= .binOp .mul tt x y tt')(hx:s.op x= .sc (.int .i64 p))(hy:s.op y= .sc (.int .i64 q))(hb: -9223372036854775808<=p*q/\p*q<=9223372036854775807):bj P o s (.sc (.int .i64 (p*q))):=
 dB ho hx hy zb59
theorem H9{x:Operand}{tt:TypeId}{p:Int}(ho:o.op= .unOp .neg tt x)(hx:s.op x= .sc (.int .i64 p))(hb: -9223372036854775807<=p/\p<=9223372036854775807):bj P o s (.sc (.int .i64 (-p))):=fm rfl fun X f w a hs=>by
 have h1:=hs x bC;rw[hx]at h1;simp only[SR,AR]at h1;unfold execOp;rw[ho];have:=wO (0-p) aa;simp[h1.1,Op.unary,Op.intArith,IntWalk.i64_left]at this⊢;rw[this]
theorem Ia{x y:Operand}{tt tt':TypeId}{p q:Bool}(ho:o.op= .binOp .eql tt x y tt')(hx:s.op x= .sc (.bool p))(hy:s.op y= .sc (.bool q))(hu:P.underlying tt=some .bool):bj P o s (.sc (.bool (p==q))):=
 sO ho hx hy rfl fun w=>by
  have:=run_eql_bool (P:=P) w tt p q hu;simp only[eqGuard];simp[this]
theorem Az{tt T:TypeId}{wd k:Nat}{sl':List (Nat×D)}(hg:o.guard=none)(hdst:o.dst=some t)(ht:Nat.blt t n=true)(ho:o.op= .buildSlice tt 0 #[])(htt:P.underlying tt=some (.slice T))(hi:(P.info? T).map (fun i=>i.size)=some wd)(h0:Nat.blt 0 wd=true)(hk:ow.all (fun p=>!Nat.beq p.1 k)=true)(hs:kill k sl=sl')
  (h:aL P X0 n ops l K ⟨(t,.own k)::sl',(k,⟨T,wd,[]⟩)::ow⟩) (hk0:Nat.blt k 1000000=true:=by exact rfl):aL P X0 n ops (o::l) K ⟨sl,ow⟩:=by
 subst hs;refine jd fun w0 f a w Qx hh=>⟨by simp[Region.wanted,hg],?_⟩
 cases hq:P.info? T with
 |none=>rw[hq]at hi;cases hi
 |some inf=>
  have hrun:(execOp a.eval o).run P w= .ok (.value (.slice (some ⟨w.heap.size,0,none⟩) 0 0)) (w.alloc (.cells #[] T)):=by
   unfold execOp;rw[ho];simp[Instr.buildSlice,run_underlying htt,sizeOf,typeInfo,hq,Instr.fill,newRow,Array.range_zero']
  unfold Oper.wp;rw[hrun];simp only[Oper.upon,hdst];have hnew:=hh.new (k:=k) (cap:=0) (q:=⟨T,wd,[]⟩) (cs:=#[]) (iT hk) hk0 (by simpa[aV]using h0) (af _) (by simp[maxLen]) aY (by simp[Els]) (.inr rfl) (t:=t) Bi (d:=.own k) (v:=.slice (some ⟨w.heap.size,0,none⟩) 0 0) (fun X=>by simp[SR]);exact⟨_,_,hnew,h⟩
theorem sa{k:Nat}:∀ow:List (Nat×Ow),upd k [] ow=ow
 |[]=>rfl
 |(j,q)::l=>by
  simp only[upd];split
  ·rw[sa l,tw]
  ·rw[sa l]
theorem Hd.kill{w0:Bs}{w:World}{f:Nat->Value}{a:Act}{k:Nat}(h:Hd X0 n w0 ⟨sl,ow⟩ f a w):Hd X0 n w0 ⟨kill k sl,ow⟩ f a w:=
 ⟨h.sz,h.df,h.bl,h.x0,h.xy,h.fx,h.lo,fun u=>by
  show SR _ _ _ (look (DW.kill k sl) u) _;rcases fI k sl u with⟨e,_⟩|e
  ·rw[e];exact h.sl u
  ·rw[e];exact SR.any,h.ow,h.nw,h.dj,h.un⟩
theorem uy{x y:Operand}{tt:TypeId}{kk:Nat}{q:Ow}{wd:Nat}{l2:List D}{sl':List (Nat×D)}{ow':List (Nat×Ow)}(hg:o.guard=none)(hdst:o.dst=some t)(ht:Nat.blt t n=true)
  (ho:o.op= .call {callee:=.builtin .append,args:=#[x,y],argTypes:=#[tt,tt]}) (hx:S.op ⟨sl,ow⟩ x= .own kk) (hy:S.op ⟨sl,ow⟩ y= .ls wd l2) (hk:(kk,q)∈ow) (hwd:wd=q.wd) (hn2:l2.all D.nw=true)
  (htt:P.underlying tt=some (.slice q.T)) (hI:(P.info? q.T).map (fun i=>(i.zero.map (·.cells.size),i.size,decide (i.bytes<=100000)))=some (some q.wd,q.wd,true)) (hlen:q.l.length+l2.length<=1000000000)
  (hs:kill kk sl=sl') (how:upd kk l2 ow=ow') (h:aL P X0 n ops l K ⟨(t,.own kk)::sl',ow'⟩) (hk0:Nat.blt kk 1000000=true:=by exact rfl):aL P X0 n ops (o::l) K ⟨sl,ow⟩:=by
 by_cases hl2:l2=[]
 ·subst hl2;rw[sa]at how;subst how;subst hs;refine jd fun w0 f a w Qx hh=>⟨by simp[Region.wanted,hg],?_⟩;have h1:=hh.op x;have h2:=hh.op y;rw[hx]at h1;rw[hy]at h2;simp only[SR,AR]at h1 h2;obtain⟨ad,c,e1,h3,_⟩:=h2;obtain⟨hw0,xs,⟨hxl,h10⟩,h11⟩:=hh.ow _ hk;simp only at h10;have hsh:∃b cap,f kk= .slice b q.l.length cap/\q.l.length<=cap:=by
   rcases h10 with⟨h12,h13⟩|⟨g,cap,cur,h12,_,_,hle,_⟩
   ·exact⟨none,0,by rw[h12,h13],by omega⟩
   ·exact⟨_,cap,h12,hle⟩
  obtain⟨b,cap,e2,hle⟩:=hsh
  cases hq:P.info? q.T with
  |none=>rw[hq]at hI;cases hI
  |some inf=>
   have hru:=run_underlying htt w;have hrun:(execOp a.eval o).run P w= .ok (.value (f kk)) w:=by
    unfold execOp;have hfc:(Builtin.firstCells inf.size 0 (.slice ad 0 c)).run P w= .ok #[] w:=by
     cases ad<;>simp[Builtin.firstCells,loadCells,loadCellsFrom]
    simp only[ho,resolve,invoke,builtin,Sem.run_bind,Sem.run_pure,Result.andThen_ok,og,dw,gy,h1,e1,e2,Builtin.append_];simp[hru,sizeOf,typeInfo,hq,Builtin.lenOf,hle,hfc];cases b<;>simp[storeCells]
   unfold Oper.wp;rw[hrun];simp only[Oper.upon,hdst];exact⟨_,f,Hd.put (s:=⟨kill kk sl,ow⟩) (dst:=some t) (d:=.own kk) (hh.kill) (by simp only[SR]) (fun u e=>by cases e;simpa[aV]using ht),h⟩
 ·exact aLapp hg hdst ht ho hx hy hk hwd hl2 hn2 htt hI hlen hs how h hk0
theorem Gz{T:TypeId}{z:Value}(ho:o.op= .build T #[])(hb:P.built T []=some z.cells)(hz:z= .agg z.cells)(hd:cst z=d)(hs:d.seen=true):bj P o s d:=fun X f a w base _ _ _=>by
 subst hd;refine cO (u:=z) ?_ (by
  have:=jG (X:=X) (f:=f) (w:=w) z;exact this)
 unfold execOp;rw[ho];have:=run_build (P:=P) w T #[] z.cells (by simpa using hb);simp only[og,gy];rw[Sem.run_bind,this,hz];rfl
end
end DW
end
section
open Go.RowKit
namespace Dg
def dgs(b n:Nat):List Nat:=if h:1<b/\0<n then n%b::dgs b (n/b)else []
termination_by n
decreasing_by exact Nat.div_lt_self h.2 h.1
end Dg
namespace DW
abbrev zI(n:Int):D:=.sc (.int .i64 n)
abbrev dI(l:List Int):D:=.ls 1 (l.map zI)
abbrev dM(m:List (List Int)):D:=.ls 1 (m.map fun l=>dI l)
abbrev dZ(l:List Int):D:=.ls 2 (l.map .nm)
abbrev dW(m:List (List Int)):D:=.ls 1 (m.map fun l=>dZ l)
def hd(n:Nat):List Nat:=Dg.dgs 65536 n
def wds(n:Nat):List Nat:=Dg.dgs 4294967296 n
abbrev Fn(P:Program)(g:FuncId)(ds:List D)(r:D):Prop:=Go.Proofs.Enters P g/\Fun P g ds r
section
variable {P : Program} {X0 : Nat->Prop} {n : Nat} {Q : Exit->S->Prop} {s : S} {sl : List (Nat × D)} {ow : List (Nat × Ow)} {o : Oper} {ops : Array Oper} {l : List Oper} {K : S->Prop} {t : Nat} {d : D}
theorem uq{x y:Operand}{tt tt':TypeId}{k:IntKind}{p q:Int}(ho:o.op= .binOp .rem tt x y tt')(hx:s.op x= .sc (.int k p))(hy:s.op y= .sc (.int k q))(hq:q≠0):bj P o s (.sc (.int k (p.tmod q))):=
 sO ho hx hy rfl fun w=>by simp[eqGuard,binOp,Op.intDiv,hq]
theorem EI{x y:Operand}{tt tt':TypeId}{k:IntKind}{m c:Nat}{q:Int}(ho:o.op= .binOp .rem tt x y tt')(hx:s.op x= .sc (.int k (m:Int)))(hy:s.op y= .sc (.int k q))(hq:q=(c:Int))(hc:Nat.blt 0 c=true):bj P o s (.sc (.int k ((m%c:Nat):Int))):=by
 subst hq;have hc':0<c:=by simpa[aV]using hc
 have:=uq (P:=P) ho hx hy aa;rw[show((m:Int)).tmod (c:Int)=((m%c:Nat):Int)from rfl]at this;exact this
theorem EH{x y:Operand}{tt tt':TypeId}{k:IntKind}{p q:Int}(ho:o.op= .binOp .rem tt x y tt')(hx:s.op x= .sc (.int k p))(hy:s.op y= .sc (.int k q))(hq:0<q/\0<=p):bj P o s (.sc (.int k (p%q))):=by
 have:=uq (P:=P) ho hx hy aa;rwa[Int.tmod_eq_emod_of_nonneg hq.2]at this
theorem Co{x y:Operand}{tt:TypeId}{wd:Nat}{lo:List D}{q:IntKind}{z:Int}{m:Nat}(ho:o.op= .slice tt x none (some y) none)(hx:s.op x= .ls wd lo)(hy:s.op y= .sc (.int q z))(ht:P.underlying tt=some (.slice (P.elem tt)))(hz:(P.info? (P.elem tt)).map (·.size)=some wd)(hm:z.toNat=m)(hb:0<=z/\z<=lo.length):bj P o s (.ls wd (lo.take m)):=fun X f a w base _ _ hs=>by
 subst hm;have h1:=hs x bC;have h2:=hs y bC;rw[hx]at h1;rw[hy]at h2;simp only[SR,AR]at h1 h2;obtain⟨ad,c,h3,h4,h5⟩:=h1
 cases hq:P.info? (P.elem tt)with
 |none=>rw[hq]at hz;cases hz
 |some inf=>
  have hle:z<=(c:Int):=by omega
  have hlen:(lo.take z.toNat).length=z.toNat:=by rw[aQ];omega
  have hr:(execOp a.eval o).run P w= .ok (.value (.slice ad z.toNat c)) w:=by
   unfold execOp;rw[ho];simp only[Option.map_none,bQ,h3,h2.1];have hru:=run_underlying ht w;simp[Instr.sliceAt,Instr.slice,Instr.sliceBounds,Instr.sliceBound,asIntOf,hru,hb.1,hle,sizeOf,typeInfo,hq];intro _;cases ad<;>simp[Addr.add]
  refine cO hr ?_;simp only[SR,AR];refine⟨ad,c,by rw[hlen],by rw[hlen];omega,?_⟩;rcases h5 with h5|⟨b,off,e,k1,k2,k3⟩
  ·exact .inl (by rw[h5];simp)
  ·refine .inr ⟨b,off,e,k1,k2,ARs.mk fun i d hd=>?_⟩;rw[et]at hd;split at hd
   ·exact ARs.at k3 hd
   ·cases hd
end
end DW
end
section
open Go.RowKit
namespace DW
section
variable {P : Program} {X0 : Nat->Prop} {n : Nat} {Q : Exit->S->Prop} {s : S} {sl : List (Nat × D)} {ow : List (Nat × Ow)} {o : Oper} {ops : Array Oper} {l : List Oper} {K : S->Prop} {t : Nat} {d : D}
theorem yx{α:Type}{f:α->D}{m:List α}{z:Int}{j:Nat}{x:α}(hz:z=(j:Int))(h:m[j]?=some x):(m.map f)[z.toNat]?=some (f x):=by rw[hz,ns,cR,h];rfl
theorem rp{x:D}:([x]:List D)[0]?=some x:=rfl
end
end DW
end
section
open Go.RowKit Go.BigFrame
attribute [local go_sem ↓] Go.wp_at_zero Go.wp_at_succ
def HV(w:World)(v:Value)(l:List Nat):Prop:=(v= .slice none 0 0/\l=[])\/∃g cap,v= .slice (some ⟨g,0,none⟩) l.length cap/\l.length<=cap/\cap<=9223372036854775807/\g<w.heap.size/\∀(k:Nat) (x:Nat),l[k]?=some x->w.cell? ⟨g,k,none⟩=some (.int .i64 ((x:Int)))
theorem HV.take{w:World}{g cap n:Nat}{l:List Nat}(h:HV w (.slice (some ⟨g,0,none⟩) l.length cap) l)(hn:n<=l.length):HV w (.slice (some ⟨g,0,none⟩) n cap) (l.take n):=by
 rcases h with⟨e,_⟩|⟨g',cap',e,h1,h2,hg,hc⟩
 ·cases e
 ·cases e;refine .inr ⟨g,cap,by rw[aQ,dT hn],by rw[aQ];omega,h2,hg,fun k x hx=>?_⟩;have hk:k<n:=by have:=(bW.1 hx).1;rw[aQ]at this;omega
  rw[gV hk]at hx;exact hc k x hx
end
section
open Go.RowKit Go.BigFrame
attribute [local go_sem ↓] Go.wp_at_zero Go.wp_at_succ
def hw:List Nat->List Nat
 |[]=>[]
 |x::l=>x%65536::x/65536::hw l
end
section
open Go.RowKit Go.BigFrame
attribute [local go_sem ↓] Go.wp_at_zero Go.wp_at_succ
def pk:List Nat->List Nat
 |[]=>[]
 |[x]=>[x]
 |x::y::l=>(x+y*65536)::pk l
end
section
open Go.RowKit
namespace DW
def Hf(z:Int):Prop:=(hd z.natAbs).length<=200000000
theorem Hf.neg{z:Int}(h:Hf z):Hf (-z):=by unfold Hf;rw[Int.natAbs_neg];exact h
set_option maxRecDepth 20000
set_option maxHeartbeats 1000000
end DW
end
section
open Go.RowKit Go.BigFrame
attribute [local go_sem ↓] Go.wp_at_zero Go.wp_at_succ
structure MO(w:World)(B gm L:Nat)(gs cs:Nat->Nat)(n:Nat)(M:Mx.Mat):Prop where
 b:B<=gm
 lt:gm<w.heap.size
 fr:∀k,w.frozen? ⟨gm,k,none⟩=false
 hl:∀i,i<L->∃u,w.cell? ⟨gm,i,none⟩=some u
 nw:NW w gm
 ml:M.length<=L
 rc:Mx.Rc n M
 n0:0<n
 hc:∀i,i<M.length->w.cell? ⟨gm,i,none⟩=some (.slice (some ⟨gs i,0,none⟩) n (cs i))/\n<=cs i/\B<=gs i/\gs i≠gm/\RO w (gs i) (Mx.rw M i)
 dj:∀i j,i<M.length->j<M.length->i≠j->gs i≠gs j
theorem NW.nN{w w':World}{g:Nat}(h:NW w g)(e:w'.cell? ⟨g,0,none⟩=w.cell? ⟨g,0,none⟩):NW w' g:=fun n h2=>h n (e.symm.trans h2)
theorem MO.below{B':Nat}{w w':World}{B gm L:Nat}{gs cs:Nat->Nat}{n:Nat}{M:Mx.Mat}(h:MO w B gm L gs cs n M)(hb:Below B' w w')(hB:w.heap.size<=B'):MO w' B gm L gs cs n M:=by
 have hg:gm<B':=aJ h.lt hB;refine⟨h.b,aJ h.lt hb.size,fun k=>(hb.frozen (p:=⟨gm,k,none⟩) hg).trans (h.fr k),fun i hi=>?_,h.nw.nN (hb.cell (p:=⟨gm,0,none⟩) hg),h.ml,h.rc,h.n0,fun i hi=>?_,h.dj⟩
 ·obtain⟨u,hu⟩:=h.hl i hi;exact⟨u,(hb.cell (p:=⟨gm,i,none⟩) hg).trans hu⟩
 ·obtain⟨h1,h2,h3,h4,h5⟩:=h.hc i hi;exact⟨(hb.cell (p:=⟨gm,i,none⟩) hg).trans h1,h2,h3,h4,h5.below hb hB⟩
theorem MO.KN{w:World}{B gm L:Nat}{gs cs:Nat->Nat}{n:Nat}{M:Mx.Mat}(h:MO w B gm L gs cs n M){i:Nat}(hi:i<M.length):Mx.rw M i≠[]:=fun e=>by
 have:=h.rc.rw hi;have:=h.n0;rw[e]at*;simp at*;omega
theorem MO.Ea{w:World}{B gm L:Nat}{gs cs:Nat->Nat}{n:Nat}{M:Mx.Mat}(h:MO w B gm L gs cs n M){i:Nat}(hi:i<M.length):NW w (gs i):=(h.hc i hi).2.2.2.2.nw (h.KN hi)
theorem MO.setRow{w w':World}{B gm L:Nat}{gs cs:Nat->Nat}{n:Nat}{M:Mx.Mat}(h:MO w B gm L gs cs n M){i:Nat}(hi:i<M.length){zs:List Int}(hz:zs.length=n)(k:Chg (gs i) w w')(hr:RO w' (gs i) zs):MO w' B gm L gs cs n (M.set i zs):=by
 have hne:=(h.hc i hi).2.2.2.1;have hnw:=h.Ea hi;refine⟨h.b,aJ h.lt k.size,fun j=>(k.frozen h.lt (Ne.symm hne)).trans (h.fr j),fun j hj=>?_,h.nw.nN (k.cell h.lt (Ne.symm hne)),by rw[dc];exact h.ml,h.rc.set hz,h.n0,fun j hj=>?_,fun a b ha hb=>?_⟩
 ·obtain⟨u,hu⟩:=h.hl j hj;exact⟨u,(k.cell h.lt (Ne.symm hne)).trans hu⟩
 ·rw[dc]at hj;obtain⟨h1,h2,h3,h4,h5⟩:=h.hc j hj;refine⟨(k.cell h.lt (Ne.symm hne)).trans h1,h2,h3,h4,?_⟩;rw[Mx.lF _ _ _ _ hi];by_cases e:j=i
  ·rw[aj e,e];exact hr
  ·rw[ai e];exact h5.chg k hnw (h.dj j i hj hi e)
 ·rw[dc]at ha hb;exact h.dj a b ha hb
def ix(f:Nat->Nat)(i j:Nat):Nat->Nat:=fun k=>if k=j then f i else if k=i then f j else f k
theorem MO.swp{w:World}{B gm L:Nat}{gs cs:Nat->Nat}{n:Nat}{M:Mx.Mat}(h:MO w B gm L gs cs n M){i j:Nat}(hi:i<M.length)(hj:j<M.length):
  MO ((w.setCell ⟨gm,i,none⟩ (.slice (some ⟨gs j,0,none⟩) n (cs j))).setCell ⟨gm,j,none⟩ (.slice (some ⟨gs i,0,none⟩) n (cs i))) B gm L (ix gs i j) (ix cs i j) n (Mx.swp M i j):=by
 have k:Chg gm w ((w.setCell ⟨gm,i,none⟩ (.slice (some ⟨gs j,0,none⟩) n (cs j))).setCell ⟨gm,j,none⟩ (.slice (some ⟨gs i,0,none⟩) n (cs i))):=((Chg.refl gm w).set gm _ _ (.inl rfl)).set gm _ _ (.inl rfl);obtain⟨i1,i2,i3,i4,i5⟩:=h.hc i hi;obtain⟨j1,j2,j3,j4,j5⟩:=h.hc j hj;have cell:∀(l:Nat) (u:Value),w.cell? ⟨gm,l,none⟩=some u->((w.setCell ⟨gm,i,none⟩ (.slice (some ⟨gs j,0,none⟩) n (cs j))).setCell ⟨gm,j,none⟩ (.slice (some ⟨gs i,0,none⟩) n (cs i))).cell? ⟨gm,l,none⟩=some (if l=j then .slice (some ⟨gs i,0,none⟩) n (cs i)else if l=i then .slice (some ⟨gs j,0,none⟩) n (cs j)else u):=fun l u hu=>by
  by_cases e:l=j
  ·subst e;rw[aj rfl];by_cases e2:l=i
   ·subst e2;exact fZ _ _ _ _ _ (fZ _ _ _ _ _ hu)
   ·exact fZ _ _ _ _ _ ((eh _ _ _ _ _ e2).trans hu)
  ·rw[ai e,eh _ _ _ _ _ e];by_cases e2:l=i
   ·subst e2;rw[aj rfl];exact fZ _ _ _ _ _ hu
   ·rw[ai e2,eh _ _ _ _ _ e2];exact hu
 refine⟨h.b,by simpa using h.lt,fun l=>by rw[World.frozen?_setCell,World.frozen?_setCell];exact h.fr l,fun l hl=>?_,fun m e=>?_,by rw[Mx.iX];exact h.ml,Mx.tF h.rc hi hj,h.n0,fun l hl=>?_,fun a b ha hb hab=>?_⟩
 ·obtain⟨u,hu⟩:=h.hl l hl;exact⟨_,cell l u hu⟩
 ·obtain⟨u,hu⟩:=h.hl 0 (by have:=h.ml;omega);rw[cell 0 u hu]at e;simp only[ah]at e;split at e
  ·cases e
  ·split at e
   ·cases e
   ·rw[e]at hu;exact h.nw m hu
 ·rw[Mx.iX]at hl;obtain⟨h1,h2,h3,h4,h5⟩:=h.hc l hl;rw[cell l _ h1,Mx.xS hi hj];unfold ix;by_cases e:l=j
  ·rw[aj e,aj e,aj e,aj e];exact⟨rfl,i2,i3,i4,i5.chg k h.nw i4⟩
  ·rw[ai e,ai e,ai e,ai e];by_cases e2:l=i
   ·rw[aj e2,aj e2,aj e2,aj e2];exact⟨rfl,j2,j3,j4,j5.chg k h.nw j4⟩
   ·rw[ai e2,ai e2,ai e2,ai e2];exact⟨rfl,h2,h3,h4,h5.chg k h.nw h4⟩
 ·rw[Mx.iX]at ha hb;unfold ix;by_cases a1:a=j
  ·rw[aj a1];by_cases b1:b=j
   ·omega
   ·rw[ai b1];by_cases b2:b=i
    ·rw[aj b2];by_cases e:i=j
     ·omega
     ·exact h.dj i j hi hj e
    ·rw[ai b2];exact h.dj i b hi hb (Ne.symm b2)
  ·rw[ai a1];by_cases a2:a=i
   ·rw[aj a2];by_cases b1:b=j
    ·rw[aj b1];by_cases e:i=j
     ·omega
     ·exact h.dj j i hj hi (Ne.symm e)
    ·rw[ai b1,ai aa];exact h.dj j b hj hb (Ne.symm b1)
   ·rw[ai a2];by_cases b1:b=j
    ·rw[aj b1];exact h.dj a i ha hi a2
    ·rw[ai b1];by_cases b2:b=i
     ·rw[aj b2];exact h.dj a j ha hj a1
     ·rw[ai b2];exact h.dj a b ha hb hab
end
section
open Go.RowKit Go.BigFrame
attribute [local go_sem ↓] Go.wp_at_zero Go.wp_at_succ
def AD(b:Option Addr):Prop:=∃g o,b=some ⟨g,o,none⟩
theorem AD.some(g o:Nat):AD (some ⟨g,o,none⟩):=⟨g,o,rfl⟩
structure MB(w:World)(B gm L:Nat)(gs cs:Nat->Nat)(n:Nat)(M:Mx.Mat):Prop where
 b:B<=gm
 lt:gm<w.heap.size
 fr:∀k,w.frozen? ⟨gm,k,none⟩=false
 hl:∀i,i<L->∃u,w.cell? ⟨gm,i,none⟩=some u
 nw:NW w gm
 ml:M.length<=L
 rc:Mx.Rc n M
 hc:∀i,i<M.length->∃b,w.cell? ⟨gm,i,none⟩=some (.slice b n (cs i))/\n<=cs i/\AD b/\(0<n->b=some ⟨gs i,0,none⟩/\B<=gs i/\gs i≠gm/\RO w (gs i) (Mx.rw M i))
 dj:0<n->∀i j,i<M.length->j<M.length->i≠j->gs i≠gs j
theorem MB.mo{w:World}{B gm L:Nat}{gs cs:Nat->Nat}{n:Nat}{M:Mx.Mat}(h:MB w B gm L gs cs n M)(h0:0<n):MO w B gm L gs cs n M:=
 ⟨h.b,h.lt,h.fr,h.hl,h.nw,h.ml,h.rc,h0,fun i hi=>by
  obtain⟨b,h1,h2,_,h3⟩:=h.hc i hi;obtain⟨rfl,h4,h5,h6⟩:=h3 h0;exact⟨h1,h2,h4,h5,h6⟩,h.dj h0⟩
theorem MO.mb{w:World}{B gm L:Nat}{gs cs:Nat->Nat}{n:Nat}{M:Mx.Mat}(h:MO w B gm L gs cs n M):MB w B gm L gs cs n M:=
 ⟨h.b,h.lt,h.fr,h.hl,h.nw,h.ml,h.rc,fun i hi=>by
  obtain⟨h1,h2,h3,h4,h5⟩:=h.hc i hi;exact⟨_,h1,h2,AD.some _ _,fun _=>⟨rfl,h3,h4,h5⟩⟩,fun _=>h.dj⟩
theorem MB.below{B':Nat}{w w':World}{B gm L:Nat}{gs cs:Nat->Nat}{n:Nat}{M:Mx.Mat}(h:MB w B gm L gs cs n M)(hb:Below B' w w')(hB:w.heap.size<=B'):MB w' B gm L gs cs n M:=by
 have hg:gm<B':=aJ h.lt hB;refine⟨h.b,aJ h.lt hb.size,fun k=>(hb.frozen (p:=⟨gm,k,none⟩) hg).trans (h.fr k),fun i hi=>?_,h.nw.nN (hb.cell (p:=⟨gm,0,none⟩) hg),h.ml,h.rc,fun i hi=>?_,h.dj⟩
 ·obtain⟨u,hu⟩:=h.hl i hi;exact⟨u,(hb.cell (p:=⟨gm,i,none⟩) hg).trans hu⟩
 ·obtain⟨b,h1,h2,hA,h3⟩:=h.hc i hi;exact⟨b,(hb.cell (p:=⟨gm,i,none⟩) hg).trans h1,h2,hA,fun h0=>⟨(h3 h0).1,(h3 h0).2.1,(h3 h0).2.2.1,(h3 h0).2.2.2.below hb hB⟩⟩
theorem I1(M:Mx.Mat)(zs:List Int)(i:Nat):Mx.rw (M++[zs]) i=if i=M.length then zs else Mx.rw M i:=by
 unfold Mx.rw;rw[aH,aH];by_cases e:i=M.length
 ·subst e;rw[aj rfl,iE (af _)];simp
 ·rw[ai e];by_cases e2:i<M.length
  ·rw[en e2]
  ·rw[iE aa,iG fD,iG aa]
theorem MB.push{w:World}{B gm L:Nat}{gs cs:Nat->Nat}{n:Nat}{M:Mx.Mat}(h:MB w B gm L gs cs n M){g c:Nat}{b:Option Addr}{zs:List Int}(hL:M.length<L)(hz:zs.length=n)(hc:n<=c)(hA:AD b)(hr:0<n->b=some ⟨g,0,none⟩/\RO w g zs/\B<=g/\g≠gm/\∀i,i<M.length->gs i≠g):
  MB (w.setCell ⟨gm,M.length,none⟩ (.slice b n c)) B gm L (fun i=>if i=M.length then g else gs i) (fun i=>if i=M.length then c else cs i) n (M++[zs]):=by
 have k:Chg gm w (w.setCell ⟨gm,M.length,none⟩ (.slice b n c)):=(Chg.refl gm w).set gm _ _ (.inl rfl);have cell:∀(l:Nat) (u:Value),w.cell? ⟨gm,l,none⟩=some u->(w.setCell ⟨gm,M.length,none⟩ (.slice b n c)).cell? ⟨gm,l,none⟩=some (if l=M.length then .slice b n c else u):=fun l u hu=>by
  by_cases e:l=M.length
  ·rw[aj e,<-e];exact fZ _ _ _ _ _ hu
  ·rw[ai e,eh _ _ _ _ _ e];exact hu
 refine⟨h.b,by simpa using h.lt,fun l=>by rw[World.frozen?_setCell];exact h.fr l,fun l hl=>?_,fun m e=>?_,by simp;omega,fun r hr=>?_,fun l hl=>?_,fun h0 a b ha hb hab=>?_⟩
 ·obtain⟨u,hu⟩:=h.hl l hl;exact⟨_,cell l u hu⟩
 ·obtain⟨u,hu⟩:=h.hl 0 aa;rw[cell 0 u hu]at e;simp only[ah]at e;split at e
  ·cases e
  ·rw[e]at hu;exact h.nw m hu
 ·rcases dR.1 hr with h1|h1
  ·exact h.rc r h1
  ·rw[bu.1 h1];exact hz
 ·simp only[cL,ji]at hl;rw[I1];by_cases e:l=M.length
  ·subst e;obtain⟨u,hu⟩:=h.hl M.length hL;rw[cell _ u hu,aj rfl,aj rfl,aj rfl,aj rfl];exact⟨b,rfl,hc,hA,fun h0=>⟨(hr h0).1,(hr h0).2.2.1,(hr h0).2.2.2.1,(hr h0).2.1.chg k h.nw (hr h0).2.2.2.1⟩⟩
  ·obtain⟨b',h1,h2,hA',h3⟩:=h.hc l aa;rw[cell l _ h1,ai e,ai e,ai e,ai e];exact⟨b',rfl,h2,hA',fun h0=>⟨(h3 h0).1,(h3 h0).2.1,(h3 h0).2.2.1,(h3 h0).2.2.2.chg k h.nw (h3 h0).2.2.1⟩⟩
 ·simp only[cL,ji]at ha hb;by_cases a1:a=M.length
  ·rw[aj a1,ai aa];exact fun e=>(hr h0).2.2.2.2 b aa e.symm
  ·rw[ai a1];by_cases b1:b=M.length
   ·rw[aj b1];exact(hr h0).2.2.2.2 a aa
   ·rw[ai b1];exact h.dj h0 a b aa aa hab
theorem I7:(Tryz.prog.info? 155).map (fun i=>(i.zero,i.size,i.bytes))=some (some (.slice none 0 0),1,24):=by kernel_rfl
theorem vZ(n:Nat)(hn:n<=1000000000)(w:World):
  (Instr.makeSlice 146 (.int .i64 (n:Int)) (.int .i64 (n:Int))).run Tryz.prog w= .ok (.slice (some ⟨w.heap.size,0,none⟩) n n) (w.alloc (.cells (madeCells #[.slice none 0 0] n) 155)):=by
 obtain⟨i,hi,hz,hs,hb⟩:=ke I7;have hr:=run_make (P:=Tryz.prog) w 146 155 i _ Tryz.underlying146 hi hz .i64 .i64 n n aa (Int.le_refl _) (by rw[hb];omega) aa;rw[hs]at hr;simpa[Value.cells]using hr
theorem Cd(n k:Nat)(hk:k<n):(madeCells #[.slice none 0 0] n)[k]?=some (.slice none 0 0):=by
 unfold madeCells;rw[pK,pJ,aj aa];simp[Nat.mod_one]
theorem MB.made(w:World)(B L n:Nat)(gs cs:Nat->Nat)(hB:B<=w.heap.size):MB (w.alloc (.cells (madeCells #[.slice none 0 0] L) 155)) B w.heap.size L gs cs n []:=by
 have hh:=heap_alloc_new w (.cells (madeCells #[.slice none 0 0] L) 155);have hc:∀i,i<L->(w.alloc (.cells (madeCells #[.slice none 0 0] L) 155)).cell? ⟨w.heap.size,i,none⟩=some (.slice none 0 0):=fun i hi=>by
  rw[cell_of_row _ w.heap.size _ _ _ (0,0) hh];exact Cd L i hi
 refine⟨hB,by simp,fun k=>?_,fun i hi=>⟨_,hc i hi⟩,fun n e=>?_,aP _,fun r hr=>by(cases hr),fun i hi=>by(simp at hi),fun _ i j hi=>by(simp at hi)⟩
 ·simp only[World.frozen?];rw[hh];simp
 ·by_cases hL:0<L
  ·rw[hc 0 hL]at e;cases e
  ·rw[cell_of_row _ w.heap.size _ _ _ (0,0) hh]at e;have:L=0:=by omega
   subst this;simp[madeCells]at e
def MR(w:World)(v:Value)(n:Nat)(M:Mx.Mat):Prop:=∃a cap,v= .slice a M.length cap/\M.length<=cap/\Mx.Rc n M/\(M=[]\/∃gm om,a=some ⟨gm,om,none⟩/\gm<w.heap.size/\
 ∀i,i<M.length->∃b c,w.cell? ⟨gm,om+i,none⟩=some (.slice b n c)/\n<=c/\AD b/\(n=0\/∃g o,b=some ⟨g,o,none⟩/\RA w g o (Mx.rw M i)))
theorem MR.below{B:Nat}{w w':World}{v:Value}{n:Nat}{M:Mx.Mat}(h:MR w v n M)(hb:Below B w w')(hB:w.heap.size<=B):MR w' v n M:=by
 obtain⟨a,cap,h1,h2,h3,h4⟩:=h;refine⟨a,cap,h1,h2,h3,?_⟩;rcases h4 with h4|⟨gm,om,e,hg,h5⟩
 ·exact .inl h4
 ·refine .inr ⟨gm,om,e,aJ hg hb.size,fun i hi=>?_⟩;obtain⟨b,c,k1,k2,kA,k3⟩:=h5 i hi;refine⟨b,c,(hb.cell (p:=⟨gm,_,none⟩) (aJ hg hB)).trans k1,k2,kA,?_⟩;rcases k3 with k3|⟨g,o,e,k4⟩
  ·exact .inl k3
  ·exact .inr ⟨g,o,e,k4.below hb hB⟩
def ZM(w:World)(v:Value)(m:List (List Int)):Prop:=∃a cap,v= .slice a m.length cap/\m.length<=cap/\(m=[]\/∃a0,a=some a0/\a0.block<w.heap.size/\
 ∀(i:Nat) (l:List Int),m[i]?=some l->∃b c,w.cell? (a0.add i)=some (.slice b l.length c)/\l.length<=c/\ZAt w b l)
theorem kS{B:Nat}{w w':World}(hb:Below B w w')(hB:w.heap.size<=B){a:Addr}{v:Value}(h:w.cell? a=some v):w'.cell? a=some v:=by
 have h2:=World.block_lt_of_cell? w _ h;rw[hb.cell (aJ h2 hB)];exact h
theorem ZM.below{B:Nat}{w w':World}{v:Value}{m:List (List Int)}(h:ZM w v m)(hb:Below B w w')(hB:w.heap.size<=B):ZM w' v m:=by
 obtain⟨a,cap,h1,h2,h4⟩:=h;refine⟨a,cap,h1,h2,?_⟩;rcases h4 with h4|⟨a0,e,hg,h5⟩
 ·exact .inl h4
 ·refine .inr ⟨a0,e,aJ hg hb.size,fun i l hl=>?_⟩;obtain⟨b,c,k1,k2,k3⟩:=h5 i l hl;exact⟨b,c,kS hb hB k1,k2,k3.below hb hB⟩
def CV(w:World)(n:Nat)(M:Mx.Mat)(e:Ending)(w':World):Prop:=(∃gm gs cs cap,e= .returned (.slice (some ⟨gm,0,none⟩) M.length cap)/\M.length<=cap/\MB w' w.heap.size gm M.length gs cs n M)/\Below w.heap.size w w'
theorem vN{m:List (List Int)}{k:Nat}{l:List Int}(h:m[k]?=some l):m.take (k+1)=m.take k++[l]:=by
 rw[ov,h];rfl
set_option maxRecDepth 10000 in
set_option maxHeartbeats 4000000 in
theorem Iz(m:List (List Int))(n:Nat)(v:Value)(hm:m.length<=1000000)(hn:n<=1000000)(hr:Mx.Rc n m)(hb:∀l∈m,∀z∈l,I64 z)(w:World)(h:ZM w v m):
  Calls Tryz.prog 152 #[v] w (CV w n m):=by
 obtain⟨a,cap,rfl,_,h4⟩:=h;have RO':=ae (fun (l:List Int) (hl:l∈m) a cap w hz=>D0 l a cap (by rw[hr l hl];exact hn) (hb l hl) w hz);have HRC:Hid (Mx.Rc n m):=hr;have hmk:=vZ m.length aa;have H4:=ae h4;clear hb hr h4;generalize hml:m.length=q at*;have HQ:=ae hml;clear hml
 go_enter Tryz.func152,Tryz.ntmps152
 go_wp2_with fail
 go_loopw [11] (fun i wr=>∃(k:Nat) (gs cs:Nat->Nat),k<=q/\i= .int .i64 ((k:Int))/\Below w.heap.size w wr/\Hid (MB wr w.heap.size w.heap.size q gs cs n (m.take k)/\∀i,i<k->0<n->w.heap.size<gs i/\gs i<wr.heap.size)) (fun i _=>q-(intOf i).toNat)
 case atStart=>
  exact⟨0,id,id,by omega,rfl,by exact bel,MB.made w w.heap.size q n id id (af _),fun i hi=>by omega⟩
 case round=>
  obtain⟨k,gs,cs,hk,rfl,hB,HR⟩:=hrel;have hlt:w.heap.size<wr.heap.size:=HR.out.1.lt;by_cases hkn:k<q
  ·have hkn2:(k:Int)<(q:Int):=by omega
   obtain⟨l,hl⟩:∃l,m[k]?=some l:=⟨m[k]'(by rw[HQ.out];omega),aS _⟩;have hll:l.length=n:=HRC.out l (bf hl);rcases H4.out with h0|⟨a0,ha,hal,hcc⟩
   ·rw[h0]at hl;simp at hl
   obtain⟨b,c,cz,hlc,hza⟩:=hcc k l hl;have cz2:=kS hB (af _) cz;subst ha;have HZA:=ae (hza.below hB (af _));have ROl:=ae (RO'.out l (bf hl) b c);rw[hll]at ROl;obtain⟨u,hu⟩:=HR.out.1.hl k hkn;have hfr:=HR.out.1.fr k;have HL:=ae (And.intro hl hll);clear hcc hl hza cz
   go_wp2_with (first|(go_at_call 273;(with_reducible refine(ROl.out _ ?_).mono ?_);(exact HZA.out.below (B:=wr.heap.size) aG (af _));rintro e w4 ⟨⟨g4',xs,rfl,hge,hy⟩,hb4⟩;have HY:=ae (And.intro hge hy);clear hge hy;have HB4:=ae hb4;obtain⟨g4,rfl⟩:=mob hb4;clear hb4))
   go_roundw
   case rel=>
    have hp:=(HR.out.1.below HB4.out (af _)).push (g:=g4') (c:=l.length) (b:=some ⟨g4',0,none⟩) (zs:=l) (by rw[aQ,HQ.out];omega) HL.out.2 aa (AD.some _ _) (fun h0=>⟨rfl,⟨xs,HY.out.2⟩,by have:=HY.out.1;omega,by have:=HY.out.1;omega,fun i hi=>by
     have h1:=(HR.out.2 i (by rw[aQ,HQ.out]at hi;omega) h0).2;have:=HY.out.1;omega⟩)
    have hkl:(m.take k).length=k:=by rw[aQ,HQ.out];omega
    rw[<-vN HL.out.1,hkl]at hp;have hg4:g4'<(more wr g4).heap.size:=HY.out.2.lt;have e5:(more wr g4).setCell ⟨w.heap.size,k,none⟩ (.slice (some ⟨g4',0,none⟩) n l.length)=more (wr.setCell ⟨w.heap.size,k,none⟩ (.slice (some ⟨g4',0,none⟩) n l.length)) g4:=jo _ _ _ _ hlt;rw[e5]at hp;rw[HL.out.2]at hp;refine⟨k+1,_,_,by omega,by go_num,by exact bel,hp,fun i hi h0=>?_⟩;have hsz:(more (wr.setCell ⟨w.heap.size,k,none⟩ (.slice (some ⟨g4',0,none⟩) n n)) g4).heap.size=(more wr g4).heap.size:=by simp
    rw[hsz];by_cases e:i=k
    ·rw[aj e];have:=HY.out.1;omega
    ·rw[ai e];have h1:=HR.out.2 i aa h0;have:wr.heap.size<=(more wr g4).heap.size:=HB4.out.size;omega
   case measure=>simp[intOf];omega
  ·obtain rfl:k=q:=by omega
   have hkn2:¬(k:Int)<(k:Int):=by omega
   go_wp2_with fail
   go_ret
   refine⟨⟨w.heap.size,gs,cs,k,by rw[HQ.out];rfl,by rw[HQ.out];exact af _,?_⟩,hB⟩;have h1:=HR.out.1;rw[eA (by rw[HQ.out];exact af _)]at h1;rw[HQ.out];exact h1
end
section
open Go.RowKit Go.BigFrame
attribute [local go_sem ↓] Go.wp_at_zero Go.wp_at_succ
def encI(l:List IV):List Value:=l.flatMap fun x=>[.bool x.s,.slice x.a x.n x.cap]
theorem zE(l m:List IV):encI (l++m)=encI l++encI m:=by simp[encI]
theorem yR:∀l:List IV,(encI l).length=l.length*2
 |[]=>rfl
 |x::l=>by
  show(([.bool x.s,.slice x.a x.n x.cap]:List Value)++encI l).length=_;rw[cL,yR l,eV];simp;omega
theorem vz:∀(l:List IV) (k:Nat) (x:IV),l[k]?=some x->(encI l)[k*2]?=some (.bool x.s)/\(encI l)[k*2+1]?=some (.slice x.a x.n x.cap)
 |y::l,0,x,h=>by
  simp at h;subst h;exact⟨rfl,rfl⟩
 |y::l,k+1,x,h=>by
  have ih:=vz l k x (by simpa using h);rw[show(k+1)*2=k*2+2 by omega];exact ih
def lU(w:World)(base:Nat)(v:Value)(l:List IV):Prop:=w.ownsRow base 69 2 v l.length (encI l)
theorem lU.B5(W:World)(base b:Nat)(hb:b=W.heap.size)(h:base<=b):lU (W.alloc (.cells #[] 69)) base (.slice (some ⟨b,0,none⟩) 0 0) []:=by
 subst hb;exact⟨by simp[encI],.inr ⟨W.heap.size,0,#[],rfl,h,heap_alloc_new W (.cells #[] 69),af _,by simp[maxLen],by simp,by simp[encI]⟩⟩
theorem sB:∀(l:List IV) (j:Nat) (u:Value),(encI l)[j]?=some u->∃k x,l[k]?=some x/\((j=k*2/\u= .bool x.s)\/(j=k*2+1/\u= .slice x.a x.n x.cap))
 |y::l,0,u,h=>⟨0,y,rfl,.inl ⟨rfl,by simp[encI]at h;exact h.symm⟩⟩
 |y::l,1,u,h=>⟨0,y,rfl,.inr ⟨rfl,by simp[encI]at h;exact h.symm⟩⟩
 |y::l,j+2,u,h=>by
  obtain⟨k,x,h1,h2⟩:=sB l j u h;rcases h2 with⟨h2,h3⟩|⟨h2,h3⟩
  ·exact⟨k+1,x,h1,.inl ⟨by omega,h3⟩⟩
  ·exact⟨k+1,x,h1,.inr ⟨by omega,h3⟩⟩
theorem lU.ro{w:World}{base:Nat}{v:Value}{l:List IV}(h:lU w base v l){zs:List Int}(hl:l.length=zs.length)(hz:∀(k:Nat) (x:IV) (z:Int),l[k]?=some x->zs[k]?=some z->IZ w x z):
  ∃b g c,v= .slice b zs.length c/\zs.length<=c/\(0<zs.length->b=some ⟨g,0,none⟩/\base<=g/\RO w g zs):=by
 obtain⟨h0,h⟩:=h;rcases h with⟨hv,hn⟩|⟨g,cap,cur,rfl,hb,hg,hle,hm,hsz,htk⟩
 ·exact⟨none,0,0,by rw[hv,show zs.length=0 by omega],by omega,fun h1=>by omega⟩
 ·refine⟨_,g,cap,by rw[hl],by omega,fun _=>⟨rfl,hb,l,(gi.1 hg).1,hl,fun k x hk=>?_,fun k x hk=>?_,fun k=>?_,hz⟩⟩
  ·have h1:=(vz l k x hk).1;have hk2:=(bW.1 hk).1;rw[cell_of_row w g _ cur _ (0,0) hg];rw[<-htk,gV aa,cQ]at h1;exact h1
  ·have h1:=(vz l k x hk).2;have hk2:=(bW.1 hk).1;rw[cell_of_row w g _ cur _ (0,0) hg];rw[<-htk,gV aa,cQ]at h1;exact h1
  ·simp only[World.frozen?];rw[hg];simp
def CI(w:World)(g o:Nat)(l:List IV):Prop:=∀(k:Nat) (x:IV),l[k]?=some x->w.cell? ⟨g,o+k*2,none⟩=some (.bool x.s)/\w.cell? ⟨g,o+k*2+1,none⟩=some (.slice x.a x.n x.cap)
theorem RA.ci{w:World}{g o:Nat}{zs:List Int}(h:RA w g o zs):∃l:List IV,l.length=zs.length/\CI w g o l/\∀(k:Nat) (x:IV) (z:Int),l[k]?=some x->zs[k]?=some z->IZ w x z:=by
 have key:∀k:Nat,∃x:IV,∀z,zs[k]?=some z->w.cell? ⟨g,o+k*2,none⟩=some (.bool x.s)/\w.cell? ⟨g,o+k*2+1,none⟩=some (.slice x.a x.n x.cap)/\IZ w x z:=fun k=>by
  cases e:zs[k]? with
  |none=>exact⟨⟨false,none,0,0⟩,fun z h=>by cases h⟩
  |some z=>
   obtain⟨x,hx⟩:=h.c k z e;exact⟨x,fun z' hz'=>by cases hz';exact hx⟩
 obtain⟨f,hf⟩:=Classical.axiomOfChoice key;have hget:∀(k:Nat) (x:IV),((List.range zs.length).map f)[k]?=some x->k<zs.length/\x=f k:=fun k x hx=>by
  rw[cR]at hx;by_cases hk:k<zs.length
  ·rw[pF hk]at hx;simp at hx;exact⟨hk,hx.symm⟩
  ·rw[iG fD]at hx;cases hx
 refine⟨(List.range zs.length).map f,by simp,fun k x hx=>?_,fun k x z hx hz=>?_⟩
 ·obtain⟨hk,rfl⟩:=hget k x hx;have:=hf k _ (getD_some hk);exact⟨this.1,this.2.1⟩
 ·obtain⟨hk,rfl⟩:=hget k x hx;exact(hf k z hz).2.2
theorem CI.below{B:Nat}{w w':World}{g o:Nat}{l:List IV}(h:CI w g o l)(hb:Below B w w')(hg:g<B):CI w' g o l:=fun k x hx=>
 ⟨(hb.cell (p:=⟨g,_,none⟩) hg).trans (h k x hx).1,(hb.cell (p:=⟨g,_,none⟩) hg).trans (h k x hx).2⟩
theorem zG{w0 w:World}{base:Nat}{v:Value}{l:List IV}(hown:lU w base v l)(hB:Below base w0 w)(hbase:base<=w.heap.size)(t tx:TypeId)(ht:Tryz.prog.underlying t=some (.slice 69))(hk:Tryz.prog.underlying tx=some (.slice 69))
  (l2:List IV) (g o c n:Nat) (hn:n=l2.length) (h2:CI w g o l2) (hlen:l.length+l2.length<=4000000000)
  {ops:Array Oper} {rest:List Oper} {oo:Oper} {a:Act} {Q:Exit->Act->World->Prop} (hgd:oo.guard=none) (s y:Operand)
  (ho:oo.op= .call {callee:=.builtin .append,args:=#[s,y],argTypes:=#[t,tx]})
  (hs:a.eval s=v) (hx:a.eval y= .slice (some ⟨g,o,none⟩) n c)
  (h:∀v' w',lU w' base v' (l++l2)->Below base w0 w'->base<=w'.heap.size->w.heap.size<=w'.heap.size->(∀b,b<w.heap.size->some b≠v.ownBlock->w'.heap[b]?=w.heap[b]?)->(v'= .slice none 0 0↔v= .slice none 0 0/\l2.length=0)->wpList Tryz.prog ops Q rest (a.put oo.dst v') w'):wpList Tryz.prog ops Q (oo::rest) a w:=by
 obtain⟨i0,hi0,hz0,hz1,hz2⟩:=ke yG;subst hn;refine lB hgd s y t tx ho base 69 69 i0 _ 2 32 ht hk hi0 hz0 hz1 hz2 rfl aa v l.length (encI l) hs hown
  ⟨g,o,none⟩ l2.length c (encI l2) hx (by rw[yR]) ?_ ?_ uJ aa hbase ?_
 ·intro j u hu;have hj:(⟨g,o,none⟩:Addr).add j=⟨g,o+j,none⟩:=by unfold Addr.add;split<;>simp_all
  rw[hj];obtain⟨k,x,h3,⟨rfl,rfl⟩|⟨rfl,rfl⟩⟩:=sB l2 j u hu
  ·exact(h2 k x h3).1
  ·exact(h2 k x h3).2
 ·intro u hu;obtain⟨j,hj⟩:=List.getElem?_of_mem hu;obtain⟨k,x,h3,⟨rfl,rfl⟩|⟨rfl,rfl⟩⟩:=sB l2 j u hj<;>rfl
 ·intro v' w' h1 h3 hnn;have hsz:=h3.size;refine h v' w' (by unfold lU;rw[zE,cL];exact h1) (hB.grown h3 hbase ?_) aa hsz (fun b hb hne=>h3.block b hb hne) hnn;intro k hk;exact(hown.lt k hk).1
def RV(w:World)(v:Value)(n:Nat)(zs:List Int):Prop:=∃b c,v= .slice b n c/\n<=c/\zs.length=n/\AD b/\(n=0\/∃g o,b=some ⟨g,o,none⟩/\RA w g o zs)
theorem RV.below{B:Nat}{w w':World}{v:Value}{n:Nat}{zs:List Int}(h:RV w v n zs)(hb:Below B w w')(hB:w.heap.size<=B):RV w' v n zs:=by
 obtain⟨b,c,h1,h2,h3,hA,h4⟩:=h;refine⟨b,c,h1,h2,h3,hA,?_⟩;rcases h4 with h4|⟨g,o,e,h5⟩
 ·exact .inl h4
 ·exact .inr ⟨g,o,e,h5.below hb hB⟩
def RPost(w:World)(n:Nat)(zs:List Int)(e:Ending)(w':World):Prop:=(∃b g c,e= .returned (.slice b n c)/\n<=c/\AD b/\(0<n->b=some ⟨g,0,none⟩/\w.heap.size<=g/\RO w' g zs))/\Below w.heap.size w w'
theorem run_eql_slice_nil{P:Program}(w:World)(t e:TypeId)(a:Option Addr)(l c:Nat)(h:P.underlying t=some (.slice e)):(binOp .eql t (.slice a l c) (.slice none 0 0)).run P w= .ok (.bool a.isNone) w:=by
 simp only[binOp];simp[run_equal_slice_nil w t e a l c h]
@[go_sem] theorem eql_row (a : Option Addr) (l c : Nat) (w : World) : (binOp .eql 155 (.slice a l c) (.slice none 0 0)).run Tryz.prog w = .ok (.bool a.isNone) w:=run_eql_slice_nil w _ _ a l c Tryz.underlying155
theorem lU.ad{w:World}{base:Nat}{v:Value}{l:List IV}(h:lU w base v l)(h0:v≠ .slice none 0 0):∃b c,v= .slice b l.length c/\AD b:=by
 rcases h.2 with⟨hv,hn⟩|⟨g,cap,cur,hv,_⟩
 ·exact absurd hv h0
 ·exact⟨_,cap,hv,AD.some _ _⟩
set_option maxRecDepth 10000 in
set_option maxHeartbeats 4000000 in
theorem BV(v:Value)(n:Nat)(zs:List Int)(hn:n<=1000000)(w:World)(h:RV w v n zs):
  Calls Tryz.prog 241 #[v] w (RPost w n zs):=by
 obtain⟨b,c,rfl,hc,hz,hA,h4⟩:=h;obtain⟨g,o,rfl⟩:=hA
 ·obtain ⟨l, hl, hci, hiz⟩ : ∃ l : List IV, l.length = zs.length /\ CI w g o l /\ (∀ (k : Nat) (x : IV) (z : Int), l[k]? = some x -> zs[k]? = some z -> IZ w x z) /\ (n = 0 \/ g < w.heap.size) := by
   rcases h4 with h4|⟨g',o',e,h5⟩
   ·subst h4;have hz0:zs=[]:=gw hz;subst hz0;exact⟨[],rfl,fun k x hx=>by(simp at hx),fun k x z hx=>by(simp at hx), .inl rfl⟩
   ·cases e;obtain⟨l,h6,h7,h8⟩:=h5.ci;exact⟨l,h6,h7,h8, .inr h5.lt⟩
  have HCI:=ae hci;have HIZ:Hid _:=hiz;have HLN:=ae (hl.trans hz);have HZN:=ae hz;have CIb:Hid (∀W,Below w.heap.size w W->CI W g o l):=fun W hW k x hx=>by
   rcases HIZ.out.2 with h|h
   ·rw[iG (by rw[HLN.out,h];omega)]at hx;cases hx
   ·exact⟨(hW.cell (p:=⟨g,_,none⟩) h).trans (HCI.out k x hx).1,(hW.cell (p:=⟨g,_,none⟩) h).trans (HCI.out k x hx).2⟩
  clear h4 hci hiz hl hz
  go_enter Tryz.func241,Tryz.ntmps241
  go_wp2_with (at_builtin;go_must (refine zG (w0:=w) (base:=w.heap.size) (l:=[]) ?_ ?_ ?_ 155 155 Tryz.underlying155 Tryz.underlying155 l g o c n HLN.out.symm ?_ ?_ rfl (.tmp 5) (.tmp 6) rfl (by rfl) (by rfl) ?_);(exact lU.B5 _ _ _ (by first|rfl|(simp;done)) (by first|omega|(simp;done)));(exact bel);(focus(simp));(exact CIb.out _ aG);(focus(rw[HLN.out];simp;omega));intro v5 w5 hown5 hB5 hz5 hs5 hk5 hn5;have HO5:=ae hown5;have HN5:Hid (v5≠Value.slice none 0 0):=(fun e=>by have h9:=(hn5.1 e).1;cases h9);clear hown5 hk5 hn5)
  go_ret
  rw[fV]at HO5;obtain⟨b',c',hv,hA⟩:=HO5.out.ad HN5.out;obtain⟨b,g',c2,h1,h2,h3⟩:=HO5.out.ro (zs:=zs) (HLN.out.trans HZN.out.symm) (fun k x z hx hz=>(HIZ.out.1 k x z hx hz).below hB5 (af _));rw[HZN.out]at h1 h2 h3;have hA2:AD b:=by rw[h1]at hv;cases hv;exact hA
  exact⟨⟨b,g',c2,by rw[<-h1];rfl,h2,hA2,h3⟩,hB5⟩
end
section
open Go.RowKit Go.BigFrame
attribute [local go_sem ↓] Go.wp_at_zero Go.wp_at_succ
theorem RV.get{w:World}{v:Value}{n:Nat}{zs:List Int}(h:RV w v n zs):∃g o c l,v= .slice (some ⟨g,o,none⟩) n c/\n<=c/\zs.length=n/\l.length=n/\(∀W,Below w.heap.size w W->CI W g o l)/\∀W,Below w.heap.size w W->∀(k:Nat) (x:IV) (z:Int),l[k]?=some x->zs[k]?=some z->IZ W x z:=by
 obtain⟨b,c,h1,h2,h3,⟨g,o,rfl⟩,h4⟩:=h;rcases h4 with h4|⟨g',o',e,h5⟩
 ·exact⟨g,o,c,[],h1,h2,h3,by rw[h4];rfl,fun W _ k x hx=>by(simp at hx),fun W _ k x z hx=>by(simp at hx)⟩
 ·cases e;obtain⟨l,h6,h7,h8⟩:=h5.ci;exact⟨g,o,c,l,h1,h2,h3,h6.trans h3,fun W hW=>h7.below hW h5.lt,fun W hW k x z hx hz=>(h8 k x z hx hz).below hW (af _)⟩
end
section
namespace Mx
def Bd(X:Nat)(M:Mat):Prop:=∀i j,(at' M i j).natAbs<=X
theorem KF{X:Nat}{M:Mat}(h:Bd X M){i j:Nat}(hi:i<M.length)(hj:j<M.length):Bd X (swp M i j):=fun k l=>by
 rw[tG hi hj];split
 ·exact h _ _
 ·split<;>exact h _ _
theorem EF(x p:Int):(x/p).natAbs<=x.natAbs:=Int.natAbs_ediv_le_natAbs x p
theorem KK(M:Mat)(i:Nat):M.set i (rw M i)=M:=by
 apply nr;intro k;by_cases e:i=k
 ·subst e;by_cases h:i<M.length
  ·rw[mi h];unfold rw;rw[aH,aS h];rfl
  ·rw[iG fD,iG aa]
 ·rw[qK e]
end Mx
end
section
open Go.RowKit Go.BigFrame
attribute [local go_sem ↓] Go.wp_at_zero Go.wp_at_succ
theorem ic{z:Int}{e:Nat}(h:z.natAbs<=2^e)(he:e<=6000000000000):Fit z:=by
 refine⟨e/32+1,by omega,nB h ?_⟩;rw[show B32=2^32 from rfl,<-Nat.pow_mul];exact wG aa aa
structure R1(w wr:World)(B gm L n m:Nat)(gs cs:Nat->Nat)(M:Mx.Mat):Prop where
 mo:MO wr B gm L gs cs n M
 bl:Below B w wr
 len:M.length=m
theorem R1.ext{w wr wx:World}{B gm L n m:Nat}{gs cs:Nat->Nat}{M:Mx.Mat}(h:R1 w wr B gm L n m gs cs M)(hB:B<=wr.heap.size)(k:Below wr.heap.size wr wx):R1 w wx B gm L n m gs cs M:=
 ⟨h.mo.below k (af _),h.bl.trans (k.mono hB),h.len⟩
theorem MO.elem{w:World}{B gm L:Nat}{gs cs:Nat->Nat}{n:Nat}{M:Mx.Mat}(h:MO w B gm L gs cs n M){i j:Nat}(hi:i<M.length)(hj:j<n):
  ∃x:IV,w.cell? ⟨gm,i,none⟩=some (.slice (some ⟨gs i,0,none⟩) n (cs i))/\w.cell? ⟨gs i,j*2,none⟩=some (.bool x.s)/\w.cell? ⟨gs i,j*2+1,none⟩=some (.slice x.a x.n x.cap)/\IZ w x (Mx.at' M i j)/\gs i<w.heap.size:=by
 obtain⟨h1,h2,h3,h4,h5⟩:=h.hc i hi;obtain⟨x,x1,x2,x3,_⟩:=h5.at (k:=j) (z:=Mx.at' M i j) (getD_some (by rw[h.rc.rw hi];exact hj));exact⟨x,h1,x1,x2,x3,h5.lt⟩
end
section
open Go.RowKit Go.BigFrame
attribute [local go_sem ↓] Go.wp_at_zero Go.wp_at_succ
theorem MR.row{w:World}{v:Value}{n:Nat}{M:Mx.Mat}(h:MR w v n M):∃a cap,v= .slice a M.length cap/\M.length<=cap/\Mx.Rc n M/\(M=[]\/∃gm om,a=some ⟨gm,om,none⟩/\gm<w.heap.size/\
  ∀i,i<M.length->∃b c,w.cell? ⟨gm,om+i,none⟩=some (.slice b n c)/\RV w (.slice b n c) n (Mx.rw M i)):=by
 obtain⟨a,cap,h1,h2,h3,h4⟩:=h;refine⟨a,cap,h1,h2,h3,?_⟩;rcases h4 with h4|⟨gm,om,e,hg,h5⟩
 ·exact .inl h4
 ·refine .inr ⟨gm,om,e,hg,fun i hi=>?_⟩;obtain⟨b,c,k1,k2,kA,k3⟩:=h5 i hi;exact⟨b,c,k1,b,c,rfl,k2,h3.rw hi,kA,k3⟩
theorem KL{M:Mx.Mat}{i:Nat}(h:i<M.length):M[i]?=some (Mx.rw M i):=by
 unfold Mx.rw;rw[aH,aS h];rfl
set_option maxRecDepth 10000 in
set_option maxHeartbeats 4000000 in
theorem Cc(m:List (List Int))(n:Nat)(v:Value)(hm:m.length<=1000000)(hn:n<=1000000)(w:World)(h:MR w v n m):
  Calls Tryz.prog 112 #[v] w (CV w n m):=by
 obtain⟨a,cap,rfl,_,hr,h4⟩:=h.row;have HRC:Hid (Mx.Rc n m):=hr;have hmk:=vZ m.length aa;have H4:=ae h4;clear hr h4 h;generalize hml:m.length=q at*;have HQ:=ae hml;clear hml
 go_enter Tryz.func112,Tryz.ntmps112
 go_wp2_with fail
 go_loopw [11] (fun i wr=>∃(k:Nat) (gs cs:Nat->Nat),k<=q/\i= .int .i64 ((k:Int))/\Below w.heap.size w wr/\Hid (MB wr w.heap.size w.heap.size q gs cs n (m.take k)/\∀i,i<k->0<n->w.heap.size<gs i/\gs i<wr.heap.size)) (fun i _=>q-(intOf i).toNat)
 case atStart=>
  exact⟨0,id,id,by omega,rfl,by exact bel,MB.made w w.heap.size q n id id (af _),fun i hi=>by omega⟩
 case round=>
  obtain⟨k,gs,cs,hk,rfl,hB,HR⟩:=hrel;have hlt:w.heap.size<wr.heap.size:=HR.out.1.lt;by_cases hkn:k<q
  ·have hkn2:(k:Int)<(q:Int):=by omega
   rcases H4.out with h0|⟨gm,om,ha,hal,hcc⟩
   ·have:=HQ.out;rw[h0]at this;simp at this;omega
   obtain⟨b,c,cz,hza⟩:=hcc k hkn;have cz2:=(hB.cell (p:=⟨gm,om+k,none⟩) hal).trans cz;subst ha;have HZA:=ae (hza.below hB (af _));obtain⟨u,hu⟩:=HR.out.1.hl k hkn;have hfr:=HR.out.1.fr k;have HL:=ae (KL (M:=m) (i:=k) (by rw[HQ.out];exact hkn));clear hcc hza cz
   go_wp2_with (first|(go_at_call 241;(with_reducible refine(BV _ n (Mx.rw m k) hn _ ?_).mono ?_);(exact HZA.out.below (B:=wr.heap.size) aG (af _));rintro e w4 ⟨⟨b4,g4',c4,rfl,hc4,hA4,hy⟩,hb4⟩;have HY:=ae (And.intro hc4 (And.intro hA4 hy));clear hc4 hA4 hy;have HB4:=ae hb4;obtain⟨g4,rfl⟩:=mob hb4;clear hb4))
   go_roundw
   case rel=>
    have hkl:(m.take k).length=k:=by rw[aQ,HQ.out];omega
    have hp:=(HR.out.1.below HB4.out (af _)).push (g:=g4') (c:=c4) (b:=b4) (zs:=Mx.rw m k) (by rw[hkl];exact hkn) (HRC.out.rw (by rw[HQ.out];exact hkn)) HY.out.1 HY.out.2.1 (fun h0=>⟨(HY.out.2.2 h0).1,(HY.out.2.2 h0).2.2,by have:=(HY.out.2.2 h0).2.1;omega,by have:=(HY.out.2.2 h0).2.1;omega,fun i hi=>by
     have h1:=(HR.out.2 i (by rw[hkl]at hi;exact hi) h0).2;have:=(HY.out.2.2 h0).2.1;omega⟩)
    rw[<-vN HL.out,hkl]at hp;have e5:(more wr g4).setCell ⟨w.heap.size,k,none⟩ (.slice b4 n c4)=more (wr.setCell ⟨w.heap.size,k,none⟩ (.slice b4 n c4)) g4:=jo _ _ _ _ hlt;rw[e5]at hp;refine⟨k+1,_,_,by omega,by go_num,by exact bel,hp,fun i hi h0=>?_⟩;have hsz:(more (wr.setCell ⟨w.heap.size,k,none⟩ (.slice b4 n c4)) g4).heap.size=(more wr g4).heap.size:=by simp
    rw[hsz];by_cases e:i=k
    ·rw[aj e];have h1:=(HY.out.2.2 h0).2.1;have h2:=(HY.out.2.2 h0).2.2.lt;omega
    ·rw[ai e];have h1:=HR.out.2 i aa h0;have:wr.heap.size<=(more wr g4).heap.size:=HB4.out.size;omega
   case measure=>simp[intOf];omega
  ·obtain rfl:k=q:=by omega
   have hkn2:¬(k:Int)<(k:Int):=by omega
   go_wp2_with fail
   go_ret
   refine⟨⟨w.heap.size,gs,cs,k,by rw[HQ.out];rfl,by rw[HQ.out];exact af _,?_⟩,hB⟩;have h1:=HR.out.1;rw[eA (by rw[HQ.out];exact af _)]at h1;rw[HQ.out];exact h1
end
section
open Go.RowKit Go.BigFrame
attribute [local go_sem ↓] Go.wp_at_zero Go.wp_at_succ
def unitR(n k:Nat):List Int:=(List.replicate n 0).set k 1
end
section
open Go.RowKit Go.BigFrame
attribute [local go_sem ↓] Go.wp_at_zero Go.wp_at_succ
def OwnG(w:World)(base:Nat)(T:TypeId)(v:Value)(l:List Value):Prop:=w.ownsRow base T 1 v l.length l
structure Two(w0 wr w6:World)(base:Nat)(T:TypeId)(v:Value)(l:List Value)(v2:Value)(l2:List Value):Prop where
 bl:Below base w0 w6
 a:OwnG w6 base T v l
 b:OwnG w6 base T v2 l2
 ap:v2.ownBlock=none\/v2.ownBlock≠v.ownBlock
 sz:wr.heap.size<=w6.heap.size
theorem Two.symm{w0 wr w6:World}{base:Nat}{T:TypeId}{v v2:Value}{l l2:List Value}(h:Two w0 wr w6 base T v l v2 l2):Two w0 wr w6 base T v2 l2 v l:=
 ⟨h.bl,h.b,h.a,by
  rcases h.ap with e|e
  ·cases e2:v.ownBlock with
   |none=>exact .inl rfl
   |some b=>right;rw[e];intro e3;cases e3
  ·exact .inr (Ne.symm e),h.sz⟩
def extM(M:Mx.Mat):Mx.Mat:=(List.range M.length).map fun i=>Mx.rw M i++unitR M.length i
def tk(n:Nat)(M:Mx.Mat):Mx.Mat:=M.map (List.take n)
theorem RA.take{w:World}{g o:Nat}{zs:List Int}(h:RA w g o zs)(n:Nat):RA w g o (zs.take n):=⟨h.lt,fun k z hz=>h.c k z (by
 rw[et]at hz;split at hz
 ·exact hz
 ·cases hz)⟩
theorem RA.drop{w:World}{g o:Nat}{zs:List Int}(h:RA w g o zs)(n:Nat):RA w g (o+n*2) (zs.drop n):=⟨h.lt,fun k z hz=>by
 rw[fU]at hz;have:=h.c (n+k) z hz;rwa[show o+(n+k)*2=o+n*2+k*2 by omega]at this⟩
end
section
open Go.RowKit Go.BigFrame
attribute [local go_sem ↓] Go.wp_at_zero Go.wp_at_succ
instance decI64 (z:Int):Decidable (I64 z):=by unfold I64;exact inferInstance
def smv(z:Int):Int:=if I64 z then z else 0
theorem KX(a b:Nat)(h:b<4294967296):(a*4294967296)|||b=a*4294967296+b:=by
 have:=Bt (i:=32) (b:=b) h a;rw[show(2:Nat)^32=4294967296 from rfl,bB]at this;exact this.symm
theorem Kz{l:List Nat}(h:l.length<=2):Dg.vl B32 l=l.getD 1 0*4294967296+l.getD 0 0:=by
 match l with
 |[]=>rfl
 |[x]=>simp[Dg.vl]
 |[x,y]=>simp[Dg.vl,B32,jY,bB]
 |x::y::z::l=>simp at h
theorem Ds{z:Int}(h:I64 z):smv z=z:=aj h
theorem va{z:Int}(h:¬I64 z):smv z=0:=ai h
theorem EG{z:Int}(h:I64 z):decide (I64 z)=true:=by rw[da];exact h
theorem vA{z:Int}(h:¬I64 z):decide (I64 z)=false:=by rw[dh];exact h
def Mj(w:World)(z:Int)(e:Ending)(w':World):Prop:=e= .returned (.tuple #[.int .i64 (smv z),.bool (decide (I64 z))])/\Below w.heap.size w w'
set_option maxRecDepth 10000 in
set_option maxHeartbeats 8000000 in
theorem vQ(x:IV)(z:Int)(fz:Fit z)(w:World)(hx:IP w x z):
  Calls Tryz.prog 251 #[.agg #[.bool x.s,.slice x.a x.n x.cap]] w (Mj w z):=by
 obtain⟨l,h1,rfl⟩:=hx;have bl:=eE h1.nf fz;have S1:=ae (fun w (h:IW w x l)=>eG x l aa w h);have AT:=ae (fun i (hi:i<=10) w h=>qA l x.a l.length i aa aa h1.nf.dg w h);have H1:=ae h1;by_cases hl:l.length<=2
 ·have hv:=Kz hl;have d0:l.getD 0 0<4294967296:=Dg.bL h1.nf.dg ay 0;have d1:l.getD 1 0<4294967296:=Dg.bL h1.nf.dg ay 1;have A0:Hid (∀w,WS w x.a l->Calls Tryz.prog 323 #[.slice x.a l.length l.length,.int .i64 0] w fun e w'=>e= .returned (.int .u64 ((l.getD 0 0:Nat):Int))/\w'=w):=AT.out 0 aa;have A1:Hid (∀w,WS w x.a l->Calls Tryz.prog 323 #[.slice x.a l.length l.length,.int .i64 1] w fun e w'=>e= .returned (.int .u64 ((l.getD 1 0:Nat):Int))/\w'=w):=AT.out 1 aa;have HLL:=ae hl;obtain⟨s,a,n,cap⟩:=x;simp only[]at S1 A0 A1⊢;generalize l.getD 0 0=x0 at*;generalize l.getD 1 0=x1 at*;rw[hv];generalize hN:x1*4294967296+x0=N;obtain⟨sh,hsh⟩:∃sh,sh=x1*4294967296:=⟨_,rfl⟩;have e1:IntKind.u64.wrap ((x1:Int)*4294967296)=(sh:Int):=by rw[dA,hsh];omega
  have e2:bits .or .u64 (sh:Int) (x0:Int)=(N:Int):=by rw[u64_or_nat sh x0 aa aa,hsh,KX x1 x0 d0,hN]
  have hl3:¬(2:Int)<(l.length:Int):=by omega
  have hl4:decide ((2:Int)<(l.length:Int))=false:=by rw[dh];exact hl3
  have hN2:(N:Int)<18446744073709551616:=by omega
  have hlI:(l.length:Int)<=2:=by omega
  generalize hL:l.length=q at*;clear h1 hv bl d0 d1 AT hsh hN;cases s
  ·have hz:Dg.iv false N=(N:Int):=by simp[Dg.iv]
   by_cases hs:N<9223372036854775808
   ·have t1:(N:Int)<9223372036854775808:=by omega
    have t2:decide ((N:Int)<9223372036854775808)=true:=by rw[da];exact t1
    have HI:Hid (I64 (Dg.iv false N)):=by show I64 _;rw[hz];unfold I64;omega
    have HZ:=ae hz;clear hs hz
    go_enter Tryz.func251,Tryz.ntmps251
    go_wp2_with (first|(go_at_call 246;(with_reducible refine(S1.out _ ?_).mono ?_);(exact H1.out.below (B:=w.heap.size) aG (af _));rintro e w1 ⟨rfl,hb1⟩;obtain⟨g1,rfl⟩:=mob hb1;clear hb1)|(go_at_call 323;(first|(with_reducible refine(A0.out _ ?_).mono ?_)|(with_reducible refine(A1.out _ ?_).mono ?_));(exact H1.out.ws.below (B:=w.heap.size) aG (af _));rintro e w2 ⟨rfl,rfl⟩))
    refine bodyPost_ret (v:=.tuple #[.int .i64 ((N:Int)),.bool true]) xt rfl ⟨?_,by exact bel⟩;rw[Ds HI.out,EG HI.out,HZ.out]
   ·have t1:¬(N:Int)<9223372036854775808:=by omega
    have t2:decide ((N:Int)<9223372036854775808)=false:=by rw[dh];exact t1
    have HI:Hid (¬I64 (Dg.iv false N)):=by show¬I64 _;rw[hz];unfold I64;omega
    clear hs hz
    go_enter Tryz.func251,Tryz.ntmps251
    go_wp2_with (first|(go_at_call 246;(with_reducible refine(S1.out _ ?_).mono ?_);(exact H1.out.below (B:=w.heap.size) aG (af _));rintro e w1 ⟨rfl,hb1⟩;obtain⟨g1,rfl⟩:=mob hb1;clear hb1)|(go_at_call 323;(first|(with_reducible refine(A0.out _ ?_).mono ?_)|(with_reducible refine(A1.out _ ?_).mono ?_));(exact H1.out.ws.below (B:=w.heap.size) aG (af _));rintro e w2 ⟨rfl,rfl⟩))
    refine bodyPost_ret (v:=.tuple #[.int .i64 (0),.bool false]) xt rfl ⟨?_,by exact bel⟩;rw[va HI.out,vA HI.out]
  ·have hz:Dg.iv true N= -(N:Int):=by simp[Dg.iv]
   by_cases hs:N<=9223372036854775808
   ·have t1:(N:Int)<=9223372036854775808:=by omega
    have t2:decide ((N:Int)<=9223372036854775808)=true:=by rw[da];exact t1
    have HI:Hid (I64 (Dg.iv true N)):=by show I64 _;rw[hz];unfold I64;omega
    have HZ:=ae hz;obtain⟨u,hu⟩:∃u:Int,u=(-(N:Int))%18446744073709551616:=⟨_,rfl⟩;have e3:IntKind.u64.wrap (-(N:Int))=u:=by rw[dA,hu]
    have e4:IntKind.i64.wrap u= -(N:Int):=by rw[hu,IntKind.wrap_i64];omega
    clear hs hz hu
    go_enter Tryz.func251,Tryz.ntmps251
    go_wp2_with (first|(go_at_call 246;(with_reducible refine(S1.out _ ?_).mono ?_);(exact H1.out.below (B:=w.heap.size) aG (af _));rintro e w1 ⟨rfl,hb1⟩;obtain⟨g1,rfl⟩:=mob hb1;clear hb1)|(go_at_call 323;(first|(with_reducible refine(A0.out _ ?_).mono ?_)|(with_reducible refine(A1.out _ ?_).mono ?_));(exact H1.out.ws.below (B:=w.heap.size) aG (af _));rintro e w2 ⟨rfl,rfl⟩))
    refine bodyPost_ret (v:=.tuple #[.int .i64 ((-(N:Int))),.bool true]) xt rfl ⟨?_,by exact bel⟩;rw[Ds HI.out,EG HI.out,HZ.out]
   ·have t1:¬(N:Int)<=9223372036854775808:=by omega
    have t2:decide ((N:Int)<=9223372036854775808)=false:=by rw[dh];exact t1
    have HI:Hid (¬I64 (Dg.iv true N)):=by show¬I64 _;rw[hz];unfold I64;omega
    clear hs hz
    go_enter Tryz.func251,Tryz.ntmps251
    go_wp2_with (first|(go_at_call 246;(with_reducible refine(S1.out _ ?_).mono ?_);(exact H1.out.below (B:=w.heap.size) aG (af _));rintro e w1 ⟨rfl,hb1⟩;obtain⟨g1,rfl⟩:=mob hb1;clear hb1)|(go_at_call 323;(first|(with_reducible refine(A0.out _ ?_).mono ?_)|(with_reducible refine(A1.out _ ?_).mono ?_));(exact H1.out.ws.below (B:=w.heap.size) aG (af _));rintro e w2 ⟨rfl,rfl⟩))
    refine bodyPost_ret (v:=.tuple #[.int .i64 (0),.bool false]) xt rfl ⟨?_,by exact bel⟩;rw[va HI.out,vA HI.out]
 ·have hlen:2<l.length:=by omega
  have hbig:18446744073709551616<=Dg.vl B32 l:=by
   obtain⟨m,hm⟩:∃m,l.length=m+1:=⟨l.length-1,by omega⟩;have k1:=Dg.mG hm h1.nf;have k2:B32^2<=B32^m:=eu ay aa;have k3:B32^2=18446744073709551616:=by decide
   omega
  have HI:Hid (¬I64 (Dg.iv x.s (Dg.vl B32 l))):=by
   intro h;have h2:=Dg.ku x.s (Dg.vl B32 l);unfold I64 at h;omega
  have hl3:(2:Int)<(l.length:Int):=by omega
  have hl4:decide ((2:Int)<(l.length:Int))=true:=by rw[da];exact hl3
  obtain⟨s,a,n,cap⟩:=x;simp only[]at S1 HI⊢;generalize Dg.iv s (Dg.vl B32 l)=z at*;generalize hL:l.length=q at*;clear h1 bl AT hL hbig hl hlen
  go_enter Tryz.func251,Tryz.ntmps251
  go_wp2_with (go_at_call 246;(with_reducible refine(S1.out _ ?_).mono ?_);(exact H1.out.below (B:=w.heap.size) aG (af _));rintro e w1 ⟨rfl,hb1⟩;obtain⟨g1,rfl⟩:=mob hb1;clear hb1)
  refine bodyPost_ret (v:=.tuple #[.int .i64 (0),.bool false]) xt rfl ⟨?_,by exact bel⟩;rw[va HI.out,vA HI.out]
end
section
open Go.RowKit Go.BigFrame
attribute [local go_sem ↓] Go.wp_at_zero Go.wp_at_succ
structure IO'(w:World)(g:Nat)(zs:List Int):Prop where
 lt:g<w.heap.size
 c:∀(k:Nat) (z:Int),zs[k]?=some z->w.cell? ⟨g,k,none⟩=some (.int .i64 z)
 fr:∀k,w.frozen? ⟨g,k,none⟩=false
theorem IO'.z{w:World}{g:Nat}{zs:List Int}(h:IO' w g zs):ZAt w (some ⟨g,0,none⟩) zs:=
 .inr ⟨⟨g,0,none⟩,rfl,h.lt,fun k x hx=>by
  have e:(⟨g,0,none⟩:Addr).add k=⟨g,k,none⟩:=by unfold Addr.add;split<;>simp_all
  rw[e];exact h.c k x hx⟩
theorem IO'.made(w:World)(n:Nat):IO' (w.alloc (.cells (madeCells #[.int .i64 0] n) 3)) w.heap.size (List.replicate n 0):=by
 have hh:=heap_alloc_new w (.cells (madeCells #[.int .i64 0] n) 3);refine⟨by simp,fun k z hz=>?_,fun k=>?_⟩
 ·rw[sY]at hz;split at hz
  ·cases hz;rw[cell_of_row _ w.heap.size _ _ _ (0,0) hh];unfold madeCells;rw[pK,pJ,aj aa];simp[Nat.mod_one]
  ·cases hz
 ·simp only[World.frozen?];rw[hh];simp
end
section
open Go.RowKit Go.BigFrame
attribute [local go_sem ↓] Go.wp_at_zero Go.wp_at_succ
def mapM(f:Int->Int)(M:Mx.Mat):Mx.Mat:=M.map (List.map f)
end
section
open Go.RowKit Go.BigFrame
attribute [local go_sem ↓] Go.wp_at_zero Go.wp_at_succ
def Iq(W0 wr:World)(b:Nat)(z:Int):Prop:=Chg b W0 wr/\(∀k,wr.frozen? ⟨b,k,none⟩=false)/\b<wr.heap.size/\∃y:IV,wr.cell? ⟨b,0,none⟩=some (.bool y.s)/\wr.cell? ⟨b,1,none⟩=some (.slice y.a y.n y.cap)/\IZ wr y z
theorem Iq.nw{W0 w:World}{b:Nat}{z:Int}(h:Iq W0 w b z):NW w b:=fun n e=>by
 obtain⟨_,_,_,y,h4,_⟩:=h;rw[h4]at e;cases e
end
section
open Go.RowKit Go.BigFrame
attribute [local go_sem ↓] Go.wp_at_zero Go.wp_at_succ
theorem RO.zero(w:World)(n:Nat):RO (w.alloc (.cells (madeCells #[.bool false,.slice none 0 0] (n*2)) 69)) w.heap.size (List.replicate n 0):=⟨_,RI.made w n⟩
end
section
open Go.RowKit Go.BigFrame
attribute [local go_sem ↓] Go.wp_at_zero Go.wp_at_succ
theorem NW.below{B:Nat}{w w':World}{g:Nat}(h:NW w g)(hb:Below B w w')(hB:w.heap.size<=B)(hg:g<w.heap.size):NW w' g:=
 h.nN (hb.cell (p:=⟨g,0,none⟩) (aJ hg hB))
end
section
open Go.RowKit Go.BigFrame
attribute [local go_sem ↓] Go.wp_at_zero Go.wp_at_succ
def inb(L:Int)(z:Int):Bool:=decide (-L<=z)&&decide (z<=L)
set_option maxRecDepth 10000 in
theorem BH(z L:Int)(hL:0<=L)(hL2:L<=1000000000000000000)(w:World):
  Calls Tryz.prog 237 #[.int .i64 z,.int .i64 L] w fun e w'=>e= .returned (.bool (inb L z))/\Below w.heap.size w w':=by
 by_cases h1: -L<=z
 ·have d1:decide (-L<=z)=true:=by rw[da];exact h1
  have E:Hid (inb L z=decide (z<=L)):=by show inb L z=_;unfold inb;rw[d1];rfl
  go_enter Tryz.func237,Tryz.ntmps237
  go_wp2_with fail
  go_ret
  exact⟨by rw[E.out];rfl,by exact bel⟩
 ·have d1:decide (-L<=z)=false:=by rw[dh];exact h1
  have E:Hid (inb L z=false):=by show inb L z=_;unfold inb;rw[d1];rfl
  go_enter Tryz.func237,Tryz.ntmps237
  go_wp2_with fail
  go_ret
  exact⟨by rw[E.out];rfl,by exact bel⟩
def wid(m:List (List Int)):Nat:=(m.headD []).length
set_option maxRecDepth 10000 in
theorem vK(m:List (List Int))(v:Value)(hm:m.length<=1000000000)(w:World)(h:ZM w v m):
  Calls Tryz.prog 150 #[v] w fun e w'=>e= .returned (.int .i64 ((wid m:Int)))/\Below w.heap.size w w':=by
 obtain⟨a,cap,rfl,_,h4⟩:=h;rcases m with _|⟨l,m⟩
 ·go_enter Tryz.func150,Tryz.ntmps150
  go_wp2_with fail
  go_ret
  exact⟨rfl,by exact bel⟩
 ·rcases h4 with h4|⟨a0,rfl,_,h5⟩
  ·cases h4
  obtain⟨b,c,cz,_⟩:=h5 0 l rfl;have e0:a0.add 0=a0:=by cases a0;unfold Addr.add;split<;>simp_all
  have cz2:=cz;rw[e0]at cz2;have E:Hid (wid (l::m)=l.length):=rfl;rw[eV]at hm⊢;generalize m.length=q at*;have hq:¬(q:Int)+1=0:=by omega
  have hq1:(0:Int)<(q:Int)+1:=by omega
  have hq2:¬q+1=0:=by omega
  clear h5
  go_enter Tryz.func150,Tryz.ntmps150
  go_wp2_with fail
  go_ret
  exact⟨by rw[E.out];rfl,by exact bel⟩
def wX{α:Type}(p:α->Bool)(l:List α)(r:Int):Prop:=(r= -1/\∀x∈l,p x=false)\/∃(k:Nat) (x:α),r=k/\l[k]?=some x/\p x=true/\∀j y,j<k->l[j]?=some y->p y=false
theorem wX.any{α:Type}{p:α->Bool}{l:List α}{r:Int}(h:wX p l r):decide (0<=r)=l.any p:=by
 rcases h with⟨rfl,h⟩|⟨k,x,rfl,h1,h2,_⟩
 ·symm;rw[show decide ((0:Int)<=-1)=false from rfl,jj];exact fun x hx=>by rw[h x hx];simp
 ·rw[show l.any p=true from eR.2 ⟨x,bf h1,h2⟩];simp
def Mp(w:World){α:Type}(p:α->Bool)(l:List α)(e:Ending)(w':World):Prop:=(∃r:Int,e= .returned (.int .i64 r)/\I64 r/\wX p l r)/\Below w.heap.size w w'
set_option maxRecDepth 10000 in
set_option maxHeartbeats 2000000 in
theorem Gi(l:List Int)(b:Option Addr)(c:Nat)(hl:l.length<=1000000000)(g:Nat)(p:Int->Bool)(eg:∀args w,(callFunc g args).run Tryz.prog w= .ok (.enter g args) w)(hp:∀x w,Calls Tryz.prog g #[.int .i64 x] w fun e w'=>e= .returned (.bool (p x))/\Below w.heap.size w w')(w:World)(h:ZAt w b l):
  Calls Tryz.prog 315 #[.slice b l.length c,.func (.func g) #[] #[]] w (Mp w p l):=by
 have H:=ae h;have HP:Hid _:=hp;clear h hp;generalize hn:l.length=n at*;have HN:=ae hn;clear hn
 go_enter Tryz.func315,Tryz.ntmps315
 go_wp2_with fail
 go_loopw [8] (fun i wr=>∃k:Nat,k<=n/\i= .int .i64 ((k:Int))/\Below w.heap.size w wr/\Hid (∀j y,j<k->l[j]?=some y->p y=false)) (fun i _=>n-(intOf i).toNat)
 case atStart=>exact⟨0,by omega,rfl,by exact bel,fun j y hj=>by omega⟩
 case round=>
  obtain⟨k,hk,rfl,hB,HJ⟩:=hrel;by_cases hkn:k<n
  ·have hkn2:(k:Int)<(n:Int):=by omega
   obtain⟨z,hz⟩:∃z,l[k]?=some z:=⟨l[k]'(by rw[HN.out];omega),aS _⟩;rcases H.out.below hB (af _)with h0|⟨a0,ha,hal,hcc⟩
   ·rw[h0]at hz;simp at hz
   have cz:=hcc k z hz;subst ha;have HPz:=ae (HP.out z);have hsw:w.heap.size<=wr.heap.size:=hB.size;have HZ:=ae hz;clear hcc hz;generalize hpz:p z=pz at HPz;have HQ:=ae hpz;clear hpz;cases pz
   ·go_wp2_with (go_at_fn g;(with_reducible refine(HPz.out _).mono ?_);rintro e w4 ⟨rfl,hb4⟩;have HB4:=ae hb4;obtain⟨g4,rfl⟩:=mob hb4;clear hb4)
    go_roundw
    case rel=>
     refine⟨k+1,by omega,by go_num,by exact bel,fun j y hj hy=>?_⟩;by_cases e:j=k
     ·subst e;rw[HZ.out]at hy;cases hy;exact HQ.out
     ·exact HJ.out j y aa hy
    case measure=>simp[intOf];omega
   ·go_wp2_with (go_at_fn g;(with_reducible refine(HPz.out _).mono ?_);rintro e w4 ⟨rfl,hb4⟩;have HB4:=ae hb4;obtain⟨g4,rfl⟩:=mob hb4;clear hb4)
    go_ret
    exact⟨⟨(k:Int),rfl,⟨by omega,by omega⟩,.inr ⟨k,z,rfl,HZ.out,HQ.out,HJ.out⟩⟩,by exact bel⟩
  ·obtain rfl:k=n:=by omega
   have hkn2:¬(k:Int)<(k:Int):=by omega
   go_wp2_with fail
   go_ret
   refine⟨⟨-1,rfl,⟨by omega,by omega⟩,.inl ⟨rfl,fun x hx=>?_⟩⟩,hB⟩;obtain⟨j,hj,e⟩:=td hx;exact HJ.out j x (by rw[<-HN.out];exact hj) Bj
set_option maxRecDepth 10000 in
theorem GP(l:List Int)(b:Option Addr)(c:Nat)(hl:l.length<=1000000000)(g:Nat)(p:Int->Bool)(eg:∀args w,(callFunc g args).run Tryz.prog w= .ok (.enter g args) w)(hp:∀x w,Calls Tryz.prog g #[.int .i64 x] w fun e w'=>e= .returned (.bool (p x))/\Below w.heap.size w w')(w:World)(h:ZAt w b l):
  Calls Tryz.prog 235 #[.slice b l.length c,.func (.func g) #[] #[]] w fun e w'=>e= .returned (.bool (l.any p))/\Below w.heap.size w w':=by
 have IX:=ae (fun w h=>Gi l b c hl g p eg hp w h);have H:=ae h;have HA:=ae (fun r (h:wX p l r)=>h.any);clear h hp eg;generalize l.length=n at*
 go_enter Tryz.func235,Tryz.ntmps235
 go_wp2_with (go_at_call 315;(with_reducible refine(IX.out _ ?_).mono ?_);(exact H.out.below (B:=w.heap.size) aG (af _));rintro e w4 ⟨⟨r,rfl,hi,hr⟩,hb4⟩;have HR:=ae hr;clear hr;obtain⟨g4,rfl⟩:=mob hb4;clear hb4)
 all_goals go_ret
 all_goals exact⟨by rw[<-HA.out r HR.out];first|rfl|(congr 2;simp;omega)|simp,by exact bel⟩
end
section
open Go.RowKit Go.BigFrame
attribute [local go_sem ↓] Go.wp_at_zero Go.wp_at_succ
def big(z:Int):Bool:=!(inb 1000000000000000 z)
def chk(m:List (List Int)):Int:=if m.all (fun r=>r.length==wid m)=true then(if 64<m.length\/64<wid m then 8 else if m.any (fun r=>r.any big)=true then 2 else 0)else 9
theorem chk9{m:List (List Int)}{r:List Int}(h:r∈m)(h2:r.length≠wid m):chk m=9:=by
 unfold chk;rw[ai];intro h3;have:=eT.1 h3 r h;simp at this;exact h2 this
theorem J3{m:List (List Int)}(h:∀(j:Nat) (r:List Int),j<m.length->m[j]?=some r->r.length=wid m):m.all (fun r=>r.length==wid m)=true:=by
 rw[eT];intro r hr;obtain⟨j,hj,e⟩:=td hr;simpa using h j r hj Bj
theorem chk8{m:List (List Int)}(h:m.all (fun r=>r.length==wid m)=true)(h2:64<m.length\/64<wid m):chk m=8:=by
 unfold chk;rw[aj h,aj h2]
theorem chk2{m:List (List Int)}(h:m.all (fun r=>r.length==wid m)=true)(h2:¬(64<m.length\/64<wid m)){r:List Int}(h3:r∈m)(h4:r.any big=true):chk m=2:=by
 unfold chk;rw[aj h,ai h2,aj (eR.2 ⟨r,h3,h4⟩)]
theorem chk0{m:List (List Int)}(h:m.all (fun r=>r.length==wid m)=true)(h2:¬(64<m.length\/64<wid m))(h3:∀(j:Nat) (r:List Int),j<m.length->m[j]?=some r->r.any big=false):chk m=0:=by
 unfold chk;rw[aj h,ai h2,ai];intro h4;obtain⟨r,hr,h5⟩:=eR.1 h4;obtain⟨j,hj,e⟩:=td hr;rw[h3 j r hj Bj]at h5;cases h5
set_option maxRecDepth 10000 in
theorem Ka(z:Int)(w:World):
  Calls Tryz.prog 276 #[.int .i64 z] w fun e w'=>e= .returned (.bool (big z))/\Below w.heap.size w w':=by
 have WI:=ae (fun w=>BH z 1000000000000000 aa aa w);have E:Hid (big z= !(inb 1000000000000000 z)):=rfl;generalize inb 1000000000000000 z=c at*
 go_enter Tryz.func276,Tryz.ntmps276
 go_wp2_with (go_at_call 237;(with_reducible refine(WI.out _).mono ?_);rintro e w4 ⟨rfl,hb4⟩;obtain⟨g4,rfl⟩:=mob hb4;clear hb4)
 go_ret
 exact⟨by rw[E.out];rfl,by exact bel⟩
theorem Cw:∀args w,(callFunc 276 args).run Tryz.prog w= .ok (.enter 276 args) w:=enters_of Tryz.func276 ak rfl
set_option maxRecDepth 10000 in
set_option maxHeartbeats 4000000 in
theorem EK(m:List (List Int))(v:Value)(hm:m.length<=1000000000)(hr:∀r∈m,r.length<=1000000000)(w:World)(h:ZM w v m):
  Calls Tryz.prog 149 #[v] w fun e w'=>e= .returned (.int .i64 (chk m))/\Below w.heap.size w w':=by
 have WI:=ae (fun w h=>vK m v hm w h);have AN:=ae (fun (r:List Int) (hr':r∈m) b c w h=>GP r b c (hr r hr') _ big Cw (fun x w=>Ka x w) w h);have H:=ae h;have C9:=ae (fun (r:List Int) (h:r∈m) h2=>chk9 h h2);have CA:=ae (J3 (m:=m));have C8:=ae (chk8 (m:=m));have C2:=ae (fun h h2 (r:List Int) h3 h4=>chk2 (m:=m) h h2 (r:=r) h3 h4);have C0:=ae (chk0 (m:=m));have HW1:Hid (wid m<=1000000000):=by
  show wid m<=1000000000;unfold wid
  cases m with
  |nil=>simp
  |cons a l=>exact hr a aY
 have hW:=HW1.out;have HLR:Hid _:=hr;obtain⟨a,cap,rfl,_,h4⟩:=h;have H4:=ae h4;clear h4 hr;generalize hml:m.length=q at*;generalize wid m=W at*;have HQ:=ae hml;clear hml;generalize chk m=R at*
 go_enter Tryz.func149,Tryz.ntmps149
 go_wp2_with fail
 go_loopw [9] (fun i wr=>∃k:Nat,k<=q/\i= .int .i64 ((k:Int))/\Below w.heap.size w wr/\Hid (∀(j:Nat) (r:List Int),j<k->m[j]?=some r->r.length=W)) (fun i _=>q-(intOf i).toNat)
 case atStart=>exact⟨0,by omega,rfl,by exact bel,fun j r hj=>by omega⟩
 case round=>
  obtain⟨k,hk,rfl,hB,HJ⟩:=hrel;have hsw:w.heap.size<=wr.heap.size:=hB.size;by_cases hkn:k<q
  ·have hkn2:(k:Int)<(q:Int):=by omega
   obtain⟨l,hl⟩:∃l,m[k]?=some l:=⟨m[k]'(by rw[HQ.out];omega),aS _⟩;rcases H4.out with h0|⟨a0,ha,hal,hcc⟩
   ·rw[h0]at hl;simp at hl
   obtain⟨b,c,cz,_⟩:=hcc k l hl;have cz2:=kS hB (af _) cz;subst ha;have HL:=ae hl;have hll:l.length<=1000000000:=HLR.out l (bf hl);clear hcc cz hl;generalize hgl:l.length=p at*;have HP:=ae hgl;clear hgl;by_cases he:p=W
   ·subst he
    go_wp2_with (go_at_call 150;(with_reducible refine(WI.out _ ?_).mono ?_);(exact H.out.below (B:=w.heap.size) aG (af _));rintro e w4 ⟨rfl,hb4⟩;obtain⟨g4,rfl⟩:=mob hb4;clear hb4)
    go_roundw
    case rel=>
     refine⟨k+1,by omega,by go_num,by exact bel,fun j y hj hy=>?_⟩;by_cases e:j=k
     ·subst e;rw[HL.out]at hy;cases hy;exact HP.out
     ·exact HJ.out j y aa hy
    case measure=>simp[intOf];omega
   ·have he2:¬(p:Int)=(W:Int):=by omega
    have E:Hid (R=9):=C9.out l (bf HL.out) (by rw[HP.out];exact he)
    go_wp2_with (go_at_call 150;(with_reducible refine(WI.out _ ?_).mono ?_);(exact H.out.below (B:=w.heap.size) aG (af _));rintro e w4 ⟨rfl,hb4⟩;obtain⟨g4,rfl⟩:=mob hb4;clear hb4)
    go_ret
    exact⟨by rw[E.out];rfl,by exact bel⟩
  ·obtain rfl:k=q:=by omega
   have hkn2:¬(k:Int)<(k:Int):=by omega
   have HA:=ae (CA.out (fun j r hj hjr=>HJ.out j r hj hjr));by_cases h1:64<k
   ·have h2:(64:Int)<(k:Int):=by omega
    have E:Hid (R=8):=C8.out HA.out (.inl h1)
    go_wp2_with fail
    go_ret
    exact⟨by rw[E.out];rfl,by exact bel⟩
   ·have h2:¬(64:Int)<(k:Int):=by omega
    have h3:decide ((64:Int)<(k:Int))=false:=by rw[dh];exact h2
    by_cases h5:64<W
    ·have h6:(64:Int)<(W:Int):=by omega
     have E:Hid (R=8):=C8.out HA.out (.inr h5)
     go_wp2_with (go_at_call 150;(with_reducible refine(WI.out _ ?_).mono ?_);(exact H.out.below (B:=w.heap.size) aG (af _));rintro e w4 ⟨rfl,hb4⟩;obtain⟨g4,rfl⟩:=mob hb4;clear hb4)
     go_ret
     exact⟨by rw[E.out];rfl,by exact bel⟩
    ·have h6:¬(64:Int)<(W:Int):=by omega
     have HN:Hid (¬(64<k\/64<W)):=fun h=>h.elim h1 h5
     go_wp2_with (go_at_call 150;(with_reducible refine(WI.out _ ?_).mono ?_);(exact H.out.below (B:=w.heap.size) aG (af _));rintro e w4 ⟨rfl,hb4⟩;obtain⟨g4,rfl⟩:=mob hb4;clear hb4)
     go_loopw [29] (fun i wx=>∃j:Nat,j<=k/\i= .int .i64 ((j:Int))/\Below w.heap.size w wx/\Hid (∀(j':Nat) (r:List Int),j'<j->m[j']?=some r->r.any big=false)) (fun i _=>k-(intOf i).toNat)
     case atStart=>exact⟨0,by omega,rfl,by exact bel,fun j r hj=>by omega⟩
     case round=>
      obtain⟨j,hj,rfl,hBx,HX⟩:=hrel;have hsx:w.heap.size<=wr.heap.size:=hBx.size;by_cases hjk:j<k
      ·have hjk2:(j:Int)<(k:Int):=by omega
       obtain⟨l,hl⟩:∃l,m[j]?=some l:=⟨m[j]'(by rw[HQ.out];omega),aS _⟩;rcases H4.out with h0|⟨a0,ha,hal,hcc⟩
       ·rw[h0]at hl;simp at hl
       obtain⟨b,c,cz,_,hz⟩:=hcc j l hl;have cz2:=kS hBx (af _) cz;subst ha;have HL:=ae hl;have ANl:=ae (AN.out l (bf hl) b c);have HZ:=ae hz;clear hcc cz hl hz;generalize hgl:l.length=p at*;clear hgl;generalize hab:l.any big=t at*;have HT:=ae hab;clear hab;cases t
       ·go_wp2_with (go_at_call 235;(with_reducible refine(ANl.out _ ?_).mono ?_);(exact HZ.out.below (B:=w.heap.size) aG (af _));rintro e w4 ⟨rfl,hb4⟩;obtain⟨g4,rfl⟩:=mob hb4;clear hb4)
        go_roundw
        case rel=>
         refine⟨j+1,by omega,by go_num,by exact bel,fun j' y hj' hy=>?_⟩;by_cases e:j'=j
         ·subst e;rw[HL.out]at hy;cases hy;exact HT.out
         ·exact HX.out j' y aa hy
        case measure=>simp[intOf];omega
       ·have E:Hid (R=2):=C2.out HA.out HN.out l (bf HL.out) HT.out
        go_wp2_with (go_at_call 235;(with_reducible refine(ANl.out _ ?_).mono ?_);(exact HZ.out.below (B:=w.heap.size) aG (af _));rintro e w4 ⟨rfl,hb4⟩;obtain⟨g4,rfl⟩:=mob hb4;clear hb4)
        go_ret
        exact⟨by rw[E.out];rfl,by exact bel⟩
      ·obtain rfl:j=k:=by omega
       have hjk2:¬(j:Int)<(j:Int):=by omega
       have E:Hid (R=0):=C0.out HA.out HN.out (fun j' r h1 h2=>HX.out j' r h1 h2)
       go_wp2_with fail
       go_ret
       exact⟨by rw[E.out];rfl,hBx⟩
end
section
open Go.RowKit
namespace DW
theorem cF{α:Type}{m:List α}{k:Nat}{x:α}(h:m[k]?=some x):m.take (k+1)=m.take k++[x]:=by rw[ov,h];rfl
theorem get_some{α:Type}{m:List α}{k:Nat}(h:k<m.length):∃x,m[k]?=some x:=⟨_,aS h⟩
set_option maxRecDepth 20000
set_option maxHeartbeats 1000000
theorem oy(z a b:Int):Fn Tryz.prog 29 [zI z,zI a,zI b] (.sc (.bool (decide (a<=z)&&decide (z<=b)))):=by
 refine aF Tryz.func29 ak rfl rfl rfl fun X0=>?_;simp only[aA];by_cases h:z>=a
 ·rw[show(decide (a<=z)&&decide (z<=b))=decide (z<=b) by rw[aq h,fR]];have hd:decide (z>=a)=true:=aq h;refine cX ?_;refine Hq ?_;refine zs1 ?_;exact⟨_,Sh.refl,.one (.tmp 6) _ rfl (.tmp 6 rfl)⟩
 ·rw[show(decide (a<=z)&&decide (z<=b))=false by rw[ao h,nq]];have hd:decide (z>=a)=false:=ao h;refine cX ?_;refine Hq ?_;refine zs1 ?_;exact⟨_,Sh.refl,.one (.tmp 6) _ rfl (.tmp 6 rfl)⟩
end DW
end
section
open Go.ChangeShapes Go.WideShapes Go.ChangeAt Go.RowKit Go.Joins Go.Deep
theorem own:ownKnob Tryz.prog.godebug=none:=by kernel_rfl
theorem laidOut:laidOutB Tryz.prog=true:=by kernel_rfl
theorem EL:Tryz.prog.cellsOf 3=1:=by kernel_rfl
theorem Cr:Tryz.prog.cellsOf 45=1:=by kernel_rfl
namespace DW
theorem wm{w:World}{a:Addr}{v:Value}(h:w.cell? a=some v):a=⟨a.block,a.off,none⟩:=by
 obtain⟨b,o,s⟩:=a
 cases s with
 |none=>rfl
 |some k=>
  unfold World.cell? at h;simp only at h;split at h
  ·simp at h
  ·cases h
theorem zm(b o j:Nat):(⟨b,o,none⟩:Addr).add j=⟨b,o+j,none⟩:=Addr.add_mid b o j
theorem GN{X:Nat->Prop}{w:World}:AR X w (dM []) (.slice none 0 0):=by
 simp only[dM,gy,AR];exact⟨none,0,rfl,af _,.inl aY⟩
theorem ar_n0{X:Nat->Prop}{w:World}(z:Int):AR X w (zI z) (.int .i64 z):=by simp only[zI,AR];exact⟨trivial,rfl⟩
theorem Kj{w:World}{a:Addr}{l:List Int}{cap:Nat}(hc:l.length<=cap)(h:∀i,i<l.length->w.cell? (a.add i)=some (.int .i64 (l.getD i 0))):AR (fun _=>False) w (dI l) (.slice (some a) l.length cap):=by
 simp only[dI,AR];refine⟨some a,cap,by rw[br],by rw[br];exact hc,?_⟩;by_cases hl:l=[]
 ·exact .inl (by rw[hl];rfl)
 ·have hp:0<l.length:=gA.2 hl;have h0:w.cell? a=some (.int .i64 (l.getD 0 0)):=h 0 hp;have ha:=wm h0;refine .inr ⟨a.block,a.off,kH some ha,fun h=>h,World.block_lt_of_cell? w _ h0,ARs.mk fun i d hd=>?_⟩;rw[cR]at hd;obtain⟨z,hz,rfl⟩:=fw.1 hd;have hi:=(bW.1 hz).1;refine⟨.int .i64 z,ar_n0 z,rfl,rfl,fun j u hj=>?_⟩
  match j,hj with
  |0,hj=>
   have:u= .int .i64 z:=by simpa[Value.cells]using hj.symm
   have h1:=h i hi;rw[aH,hz]at h1;rw[this,kK,cf];rw[ha,zm]at h1;exact h1
  |j+1,hj=>simp[Value.cells]at hj
theorem Ki{w:World}{a:Addr}{m:List (List Int)}{cap:Nat}(hc:m.length<=cap)(h:∀i l,m[i]?=some l->∃u,w.cell? (a.add i)=some u/\AR (fun _=>False) w (dI l) u):AR (fun _=>False) w (dM m) (.slice (some a) m.length cap):=by
 simp only[dM,AR];refine⟨some a,cap,by rw[br],by rw[br];exact hc,?_⟩
 cases m with
 |nil=>exact .inl rfl
 |cons l0 m0=>
  obtain⟨u0,h0,_⟩:=h 0 l0 rfl;have ha:=wm (show w.cell? a=some u0 from h0);refine .inr ⟨a.block,a.off,kH some ha,fun h=>h,World.block_lt_of_cell? w _ (show w.cell? a=some u0 from h0),ARs.mk fun i d hd=>?_⟩;rw[cR]at hd;obtain⟨l,hl,rfl⟩:=fw.1 hd;obtain⟨u,h1,h2⟩:=h i l hl;have h3:=h2;simp only[dI,AR]at h3;obtain⟨a',c',rfl,_⟩:=h3;refine⟨_,h2,rfl,rfl,fun j u hj=>?_⟩
  match j,hj with
  |0,hj=>
   have:u= .slice a' (l.map zI).length c':=by simpa[Value.cells]using hj.symm
   rw[this,kK,cf];rw[ha,zm]at h1;exact h1
  |j+1,hj=>simp[Value.cells]at hj
end DW
set_option maxRecDepth 100000 in
theorem Eo{H:Type}{enc:TypeId×Value->H}{w:World}{base:Nat}{spare:Nat->Bool}{held:Bool}{v:Value}{fuel:Nat}{x:DataW H×List MemPlace}
  (hf:DataW.trod enc Tryz.prog w base spare held fuel 22 [v]=some x):∃m:List (List Int),DW.AR (fun _=>False) w (DW.dM m) v:=by
 rcases open_slice Tryz.underlying22 hf with⟨hcs,hx⟩|⟨a,len0,cap0,m,n,D,Pl,hcs,_,hl,hm,hmm,_,hel⟩
 ·simp at hcs;subst hcs;exact⟨[],DW.GN⟩
 ·simp at hcs;subst hcs;rw[Cr]at hel;have hlm:len0<=m:=by rw[hmm];split<;>omega
  obtain⟨F,hF⟩:=choose_lt (α:=List Int) (n:=len0) (p:=fun i (l:List Int)=>∃u,w.cell? (a.add i)=some u/\DW.AR (fun _=>False) w (DW.dI l) u) (fun i hi=>by
   obtain⟨cs',h1,h2⟩:=hel i aa;obtain⟨_,hlen,hc⟩:=World.cells?_some h1;have hc0:=hc 0 aa;rw[kK]at hc0;rcases open_ints Tryz.underlying45 Tryz.underlying3 EL h2 with⟨rfl,_⟩|⟨a',len',cap',zs,rfl,_,hl',_,hz,_,hcell,_⟩
   ·refine⟨[],.slice none 0 0,hc0,?_⟩;simp only[DW.dI,DW.AR];exact⟨none,0,rfl,af _,.inl rfl⟩
   ·have hzl:len'<=zs.length:=by rw[hz];split<;>omega
    have hlen:(zs.take len').length=len':=by rw[aQ];omega
    have hA:=DW.Kj (w:=w) (a:=a') (l:=zs.take len') (cap:=cap') aa (fun k hk=>by
     rw[hlen]at hk;rw[hcell k aa,aH,aH,et,aj hk])
    rw[hlen]at hA;exact⟨zs.take len',_,hc0,hA⟩)
  have hlen:((List.range len0).map F).length=len0:=by simp
  have hA:=DW.Ki (w:=w) (a:=a) (m:=(List.range len0).map F) (cap:=cap0) aa (fun i l hi=>by
   have hk:i<len0:=by simpa using(bW.1 hi).1
   rw[cR,pF hk]at hi;cases hi;exact hF i hk)
  rw[hlen]at hA;exact⟨_,hA⟩
set_option maxRecDepth 100000 in
theorem FN{H:Type}{enc:TypeId×Value->H}{w:World}{base b0:Nat}{spare:Nat->Bool}{held:Bool}{r:Reach}{v:Value}{d:DataW H}{p:List MemPlace}
  (hv:Value.okWide Tryz.prog w r b0 22 v) (h:DataW.Trod enc Tryz.prog w base spare held 22 v d p):∃m:List (List Int),DW.AR (fun _=>False) w (DW.dM m) v:=by
 obtain⟨a0,len0,cap0,rfl⟩:=okWide_slice Tryz.underlying22 hv;obtain⟨fuel,hf⟩:=h;exact Eo hf
end
end Go.Proofs.YtepdigdijecgpaaGreat
