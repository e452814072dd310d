/- Lemmas for the law: Base K1 K2 K3 W1 W2 W3 W4 W5 W6 W7 W8 W9 K4 W10 K5 W11 W12 W13 W14 R0 W15 W16 W17 W18 -/
import Derived.WalkKit
import Derived.Below
import Derived.Deep.Quiet
import Derived.StillTail
import Derived.Test.YtepdigdijecgpaaGreatProg
import Derived.Deep.OwnRows
import Derived.BigQuiet
import Derived.BigRegion
import Derived.KernelRfl
import Derived.WalkSpells
import Derived.WalkLawsBesides
import Derived.Deep.QuietTactic
import Derived.StillTailTactics
import Derived.Handy
import Derived.Deep.LoopGhost
import Derived.OwnWalk
import Derived.Deep.DrawnRows
import Derived.Deep.RegionWith
import Derived.Deep.CutRange
import Derived.Lib.Hide
import Derived.Laws.AppendOwn
import Derived.Deep.AppendSrc
import Derived.Laws.BitsAllLaws
namespace Go.Proofs.YtepdigdijecgpaaGreat
section
abbrev bK:=@List.length_append
abbrev fG:=@Nat.div_le_self
abbrev ai:=@Nat.le_refl
abbrev kp:=@Array.getElem?_append_left
abbrev nr:=@Array.getElem?_append_right
abbrev aB:=@if_pos
abbrev an:=@if_neg
abbrev rq:=@Array.getElem?_eq_none
abbrev zal8:=@Array.getElem?_modify
abbrev ft:=@Array.getElem?_eq_some_iff
abbrev qO:=@List.cons_append
abbrev eu:=@List.length_cons
abbrev bT:=@Nat.pow_succ
abbrev cw:=@Nat.mul_add
abbrev br:=@Nat.mul_assoc
abbrev aK:=@Nat.mul_comm
abbrev ep:=@Nat.add_assoc
abbrev ba:=@List.mem_cons_self
abbrev bh:=@List.mem_cons_of_mem
abbrev fi:=@Nat.mul_le_mul_left
abbrev bg:=@List.getD_eq_getElem?_getD
abbrev eN:=@List.mem_of_getElem?
abbrev qN:=@List.take_add_one
abbrev cN:=@List.getElem?_eq_some_iff
abbrev bf:=@List.length_take
abbrev dn:=@Nat.min_eq_left
abbrev qM:=@List.take_of_length_le
abbrev vb:=@List.drop_eq_getElem_cons
abbrev aP:=@List.getElem?_eq_getElem
abbrev oc:=@List.take_append_drop
abbrev va:=@List.set_cons_succ
abbrev uZ:=@List.getD_cons_succ
abbrev uY:=@List.mem_of_mem_take
abbrev fg:=@List.mem_append
abbrev eM:=@List.length_pos_iff
abbrev aH:=@Nat.lt_of_lt_of_le
abbrev ff:=@Nat.pow_pos
abbrev cv:=@Nat.pow_le_pow_right
abbrev uX:=@List.getLast?_eq_getElem?
abbrev gP:=@List.getElem?_take
abbrev eL:=@Nat.mul_zero
abbrev bS:=@Nat.add_zero
abbrev fU:=@List.length_drop
abbrev uW:=@List.getElem?_set_self
abbrev gO:=@Nat.div_add_mod
abbrev aU:=@Nat.add_mul
abbrev jb:=@Nat.zero_mul
abbrev cI:=@Nat.one_mul
abbrev ja:=@Nat.pow_add
abbrev iZ:=@Nat.mul_left_comm
abbrev gM:=@List.drop_of_length_le
abbrev fe:=@Nat.add_comm
abbrev cq:=@Nat.le_of_not_lt
abbrev cE:=@Nat.mul_le_mul_right
abbrev mz:=@Nat.add_sub_cancel
abbrev en:=@Nat.mul_one
abbrev oa:=@Nat.le_div_iff_mul_le
abbrev qL:=@Nat.le_antisymm
abbrev uV:=@Nat.div_lt_iff_lt_mul
abbrev dQ:=@Nat.mod_lt
abbrev qK:=@Int.natCast_add
abbrev fC:=@Int.natCast_mul
abbrev fb:=@List.length_set
abbrev nZ:=@List.getElem?_replicate
abbrev qJ:=@List.getElem?_eq_none
abbrev af:=@Lib.hid
abbrev ei:=@decide_eq_true_iff
abbrev my:=@Nat.lt_of_not_le
abbrev ko:=@List.map_toArray
abbrev eh:=@List.map_cons
abbrev eZ:=@List.map_nil
abbrev fT:=@Option.map_eq_some_iff
abbrev av:=@Prod.mk.injEq
abbrev fS:=@List.eq_nil_of_length_eq_zero
abbrev eg:=@List.getElem?_map
abbrev kj:=@List.getElem?_take_of_lt
abbrev cM:=@Array.getElem?_toList
abbrev mu:=@Array.size_append
abbrev im:=@List.mem_map
abbrev iY:=@Nat.lt_trichotomy
abbrev nY:=@Nat.eq_zero_of_not_pos
abbrev bF:=@Nat.mul_le_mul
abbrev il:=@List.take_length
abbrev uU:=@Nat.two_pow_add_eq_or_of_lt
abbrev iX:=@List.drop_zero
abbrev qI:=@Nat.div_eq_of_lt
abbrev ik:=@Nat.mod_eq_of_lt
abbrev nX:=@Int.natCast_ediv
abbrev uT:=@Nat.pow_lt_pow_right
abbrev cD:=@List.mem_singleton
abbrev aE:=@Nat.le_trans
abbrev uS:=@Nat.add_sub_cancel_left
abbrev iW:=@List.getElem?_append_right
abbrev dN:=@List.getElem?_append_left
abbrev fR:=@Nat.pos_of_ne_zero
abbrev cC:=@Nat.le_of_lt
abbrev uR:=@Nat.add_mul_mod_self_right
abbrev db:=@decide_eq_false_iff_not
abbrev kg:=@List.nil_append
abbrev mr:=@Nat.mul_pos
abbrev rF:=@Nat.mul_div_cancel
abbrev rE:=@Nat.mul_lt_mul_of_lt_of_le
abbrev oy:=@Nat.lt_of_le_of_lt
abbrev cu:=@Bool.and_eq_true
abbrev bU:=@Nat.zero_add
abbrev gV:=@List.getElem?_drop
abbrev rD:=@List.take_succ_cons
abbrev lu:=@List.take_zero
abbrev rC:=@List.drop_succ_cons
structure Wq(q:Prop):Prop where
 out:q
theorem fq{p:Prop}(h:p:=by simp;omega):p:=h
theorem aD{p:Prop}(h:p:=by kernel_rfl):p:=h
theorem uK{p:Prop}(h:p:=by simp[results,Tryz.results322,go_sem]):p:=h
theorem zb44{p:Prop}(h:p:=by simp[results,Tryz.results332,go_sem]):p:=h
theorem zb43{p:Prop}(h:p:=by simp[results,Tryz.results358,go_sem]):p:=h
theorem pF{p:Prop}(h:p:=by rw[bK,bK];omega):p:=h
theorem zb28{p:Prop}(h:p:=by rw[D.out.2.2.2.2.2.2.1];have:=fG (Dg.vl B32 l) (Dg.vl B32 m);omega):p:=h
theorem zb19{p:Prop}(h:p:=by have:=LB.out l1 (D.out.2.2.2.2.1) zb28;omega):p:=h
theorem zb29{p:Prop}(h:p:=by rw[D.out.2.2.2.2.2.2.2];have:=Nat.mod_le (Dg.vl B32 l) (Dg.vl B32 m);omega):p:=h
theorem zb20{p:Prop}(h:p:=by have:=LB.out l2 (D.out.2.2.2.2.2.1) zb29;omega):p:=h
theorem zs0{p q:Prop}(h:q)(f:Wq q->p:=by(intro hW;((refine Own3.nF rfl (fun K hK=>?_);go_simp;(try go_bits);refine⟨fun w' hw' hcb'=>?_,hK _ ?_⟩;(focus(first|with_reducible exact rfl|with_reducible exact⟨rfl,rfl⟩|(obtain⟨gx,rfl⟩:=mob (Ext.below hw');go_simp;first|exact rfl|exact⟨rfl,rfl⟩)|(go_at_call 246;(first|with_reducible exact(S1.out _ (H1.out.below (Below.trans hB0 ((Ext.below hw').mono hB0.size)) (ai _)))|with_reducible exact(S2.out _ (H2.out.below (Below.trans hB0 ((Ext.below hw').mono hB0.size)) (ai _)))))));clear hK K));exact hW.out)):p:=f ⟨h⟩
theorem zb45{p:Prop}(h:p:=by simp[results,Tryz.results242,go_sem]):p:=h
theorem az{p:Prop}(h:p:=by exact bel):p:=h
theorem rj{p:Prop}(h:p:=by rw[ho];exact ai _):p:=h
theorem zb38{p:Prop}(h:p:=by first|omega|(simp;done)|(simp;omega)):p:=h
theorem aO{p:Prop}(h:p:=by simp):p:=h
theorem pD{p:Prop}(h:p:=by have:=NL.out;rw[HQ.out];omega):p:=h
theorem rh{p:Prop}(h:p:=by simp only[maxLen];omega):p:=h
theorem pC{p:Prop}(h:p:=by rw[HP.out];omega):p:=h
theorem aA{p:Prop}(h:p:=by decide):p:=h
theorem pE{p:Prop}(h:p:=by have:=NL.out;rw[HP.out];omega):p:=h
theorem uN{p:Prop}(h:p:=by rw[bK,bK,HP.out];omega):p:=h
theorem zb10{p:Prop}(h:p:=by first|exact⟨Or.inl ⟨rfl,rfl⟩,by rfl⟩|exact⟨Or.inr (Or.inl ⟨rfl,rfl⟩),by rfl⟩|exact⟨Or.inr (Or.inr (Or.inl ⟨rfl,rfl⟩)),by rfl⟩|exact⟨Or.inr (Or.inr (Or.inr (Or.inl ⟨rfl,rfl⟩))),by rfl⟩|exact⟨Or.inr (Or.inr (Or.inr (Or.inr (Or.inl ⟨rfl,rfl⟩)))),by rfl⟩):p:=h
theorem pB{p:Prop}(h:p:=by rw[hld];omega):p:=h
theorem aa{p:Prop}(h:p:=by omega):p:=h
end
section
open Go.RowKit
theorem vg(n:Int)(h: -9223372036854775808<=n/\n<=9223372036854775807):wrap64 n=n:=IntWalk.wrap64_in n h
structure Qt where
 w:Int
 x:Int
 y:Int
 z:Int
namespace Qt
def mul(a b:Qt):Qt:=⟨a.w*b.w-a.x*b.x-a.y*b.y-a.z*b.z,a.w*b.x+a.x*b.w+a.y*b.z-a.z*b.y,a.w*b.y+a.y*b.w+a.z*b.x-a.x*b.z,a.w*b.z+a.z*b.w+a.x*b.y-a.y*b.x⟩
def sub(a b:Qt):Qt:=⟨a.w-b.w,a.x-b.x,a.y-b.y,a.z-b.z⟩
def lJ(a:Qt)(n:Int):Qt:=⟨a.w.tdiv n,a.x.tdiv n,a.y.tdiv n,a.z.tdiv n⟩
def wr(a:Qt):Qt:=⟨wrap64 a.w,wrap64 a.x,wrap64 a.y,wrap64 a.z⟩
end Qt
end
section
open Go.RowKit
def more(W:World)(g:Nat×Array Obj):World:={W with heap:=W.heap++g.2,drawn:=g.1}
theorem mob{W w:World}(h:Below W.heap.size W w):∃g,w=more W g:=by
 refine⟨(w.drawn,w.heap.extract W.heap.size w.heap.size),?_⟩;have hh:w.heap=W.heap++w.heap.extract W.heap.size w.heap.size:=by
  apply Array.ext_getElem?;intro i;by_cases hi:i<W.heap.size
  ·rw[h.block i hi,kp hi]
  ·rw[nr aa,Array.getElem?_extract];have:W.heap.size+(i-W.heap.size)=i:=by omega
   rw[this];by_cases hj:i<w.heap.size
   ·rw[aB aa]
   ·rw[an aa];exact rq aa
 cases w with
 |mk heap tape drawn os output=>
  have h1:=h.os;have h2:=h.tape;have h3:=h.output;simp only at h1 h2 h3 hh;subst h1;subst h2;subst h3;simp only[more];rw[<-hh]
section
variable (W : World) (g : Nat × Array Obj)
theorem wP:W.heap.size<=(more W g).heap.size:=by simp[more]
theorem jw{b:Nat}(h:b<W.heap.size):(more W g).heap[b]?=W.heap[b]?:=by
 simp only[more];rw[kp h]
theorem fp{B:Nat}{a:World}(h:Below B a W)(hB:B<=W.heap.size):Below B a (more W g):=
 Below.trans h ⟨rfl,rfl,rfl,wP W g,fun k hk=>jw W g aa⟩
@[go_sem] theorem CR {b : Nat} (o : Nat) (h : b < W.heap.size) : (more W g).cell? ⟨b,o,none⟩ = W.cell? ⟨b,o,none⟩ :=
 World.cell?_of_block (w:=W) (jw W g h)
@[go_sem] theorem Ci {b : Nat} (o : Nat) (h : b < W.heap.size) : (more W g).frozen? ⟨b,o,none⟩ = W.frozen? ⟨b,o,none⟩ :=
 World.frozen?_of_block (w:=W) (jw W g h)
@[go_sem] theorem BF {b : Nat} (o : Nat) (v : Value) (h : b < W.heap.size) : (more W g).setCell ⟨b,o,none⟩ v = more (W.setCell ⟨b,o,none⟩ v) g:=by
 simp only[more,World.setCell];congr 1;apply Array.ext_getElem?;intro i;by_cases hi:i<W.heap.size
 ·rw[kp (by simpa using hi)];simp only[zal8];rw[kp hi]
 ·rw[nr (by simpa using hi)];simp only[zal8,Array.size_modify];rw[an aa,nr aa]
@[go_sem] theorem CS : (more W g).drew = more W (g.1 + 1,g.2):=rfl
@[go_sem] theorem BU : more W.drew g = more W g:=rfl
@[simp,go_sem] theorem eS : (more W g).heap.size = W.heap.size + g.2.size:=by simp [more]
end
@[go_sem] theorem C2 {b c k0 : Nat} (h : b < c) : b < c + k0:=by omega
@[go_sem] theorem C1 {b c k0 k1 : Nat} (h : b < c) : b < c + k0 + k1:=by omega
@[go_sem] theorem C0 {b c k0 k1 k2 : Nat} (h : b < c) : b < c + k0 + k1 + k2:=by omega
@[go_sem] theorem CY {b c k0 k1 k2 k3 : Nat} (h : b < c) : b < c + k0 + k1 + k2 + k3:=by omega
@[go_sem] theorem CX {b c k0 k1 k2 k3 k4 : Nat} (h : b < c) : b < c + k0 + k1 + k2 + k3 + k4:=by omega
@[go_sem] theorem CW {b c k0 k1 k2 k3 k4 k5 : Nat} (h : b < c) : b < c + k0 + k1 + k2 + k3 + k4 + k5:=by omega
@[go_sem] theorem CV {b c k0 k1 k2 k3 k4 k5 k6 : Nat} (h : b < c) : b < c + k0 + k1 + k2 + k3 + k4 + k5 + k6:=by omega
@[go_sem] theorem CU {b c k0 k1 k2 k3 k4 k5 k6 k7 : Nat} (h : b < c) : b < c + k0 + k1 + k2 + k3 + k4 + k5 + k6 + k7:=by omega
@[go_sem] theorem CT {b c k0 k1 k2 k3 k4 k5 k6 k7 k8 : Nat} (h : b < c) : b < c + k0 + k1 + k2 + k3 + k4 + k5 + k6 + k7 + k8:=by omega
@[go_sem] theorem CP {b c k0 k1 k2 k3 k4 k5 k6 k7 k8 k9 : Nat} (h : b < c) : b < c + k0 + k1 + k2 + k3 + k4 + k5 + k6 + k7 + k8 + k9:=by omega
@[go_sem] theorem CN {b c k0 k1 k2 k3 k4 k5 k6 k7 k8 k9 k10 : Nat} (h : b < c) : b < c + k0 + k1 + k2 + k3 + k4 + k5 + k6 + k7 + k8 + k9 + k10:=by omega
@[go_sem] theorem CL {b c k0 k1 k2 k3 k4 k5 k6 k7 k8 k9 k10 k11 : Nat} (h : b < c) : b < c + k0 + k1 + k2 + k3 + k4 + k5 + k6 + k7 + k8 + k9 + k10 + k11:=by omega
@[go_sem] theorem CK {b c k0 k1 k2 k3 k4 k5 k6 k7 k8 k9 k10 k11 k12 : Nat} (h : b < c) : b < c + k0 + k1 + k2 + k3 + k4 + k5 + k6 + k7 + k8 + k9 + k10 + k11 + k12:=by omega
@[go_sem] theorem CJ {b c k0 k1 k2 k3 k4 k5 k6 k7 k8 k9 k10 k11 k12 k13 : Nat} (h : b < c) : b < c + k0 + k1 + k2 + k3 + k4 + k5 + k6 + k7 + k8 + k9 + k10 + k11 + k12 + k13:=by omega
@[go_sem] theorem CH {b c k0 k1 k2 k3 k4 k5 k6 k7 k8 k9 k10 k11 k12 k13 k14 : Nat} (h : b < c) : b < c + k0 + k1 + k2 + k3 + k4 + k5 + k6 + k7 + k8 + k9 + k10 + k11 + k12 + k13 + k14:=by omega
@[go_sem] theorem CG {b c k0 k1 k2 k3 k4 k5 k6 k7 k8 k9 k10 k11 k12 k13 k14 k15 : Nat} (h : b < c) : b < c + k0 + k1 + k2 + k3 + k4 + k5 + k6 + k7 + k8 + k9 + k10 + k11 + k12 + k13 + k14 + k15:=by omega
@[go_sem] theorem CE {b c k0 k1 k2 k3 k4 k5 k6 k7 k8 k9 k10 k11 k12 k13 k14 k15 k16 : Nat} (h : b < c) : b < c + k0 + k1 + k2 + k3 + k4 + k5 + k6 + k7 + k8 + k9 + k10 + k11 + k12 + k13 + k14 + k15 + k16:=by omega
@[go_sem] theorem CD {b c k0 k1 k2 k3 k4 k5 k6 k7 k8 k9 k10 k11 k12 k13 k14 k15 k16 k17 : Nat} (h : b < c) : b < c + k0 + k1 + k2 + k3 + k4 + k5 + k6 + k7 + k8 + k9 + k10 + k11 + k12 + k13 + k14 + k15 + k16 + k17:=by omega
end
section
open Go.RowKit
section
variable {P : Program} {ops : Array Oper} {md : Region.Mode} {C : World->Prop}
def Ext(W w:World):Prop:=Below W.heap.size W w
theorem Ext.start(W:World):Ext W W.drew:=(Below.refl _ _).drew
theorem Ext.refl(W:World):Ext W W:=Below.refl _ _
theorem Ext.below{W w:World}(h:Ext W w):Below W.heap.size W w:=h
theorem Ext.cells{W w:World}(h:Ext W w):(∀b o,b<W.heap.size->w.cell? ⟨b,o,none⟩=W.cell? ⟨b,o,none⟩)/\W.heap.size<=w.heap.size:=
 ⟨fun b o hb=>Below.cell (p:=⟨b,o,none⟩) h hb,Below.size h⟩
theorem Ext.call{W w:World}(h:Ext W w){f:FuncId}{args:Array Value}{v:Value}(hc:Calls P f args w fun e w'=>e= .returned v/\Below w.heap.size w w'):
  Calls P f args w fun e w'=>e= .returned v/\Ext W w':=
 hc.mono fun _ _ ⟨he,hb⟩=>⟨he,Below.trans h (hb.mono (Below.size h))⟩
end
end
section
open Go.RowKit
def Made:=Nat->Obj->Prop
def Made.none:Made:=fun _ _=>False
def CB(W:World)(B:Made)(w:World):Prop:=Below W.heap.size W w/\∀x y,B x y->W.heap.size<=x/\w.heap[x]?=some y
section
variable {P : Program} {ops : Array Oper} {md : Region.Mode} {W : World} {S : Nat->Value ⊕ Obj}
theorem CB.lt{B:Made}{w:World}(h:CB W B w){x:Nat}{y:Obj}(hb:B x y):x<w.heap.size:=by
 have:=(h.2 x y hb).2;exact(ft.1 this).1
def jW(P:Program)(w:World)(v:Value):Result Next->Prop
 | .ok (.value u) w'=>w'=w/\u=v
 | .ok .skip w'=>w'=w/\v=undef
 | .ok (.enter f args) w'=>w'=w/\Calls P f args w (fun e w''=>e= .returned v/\Below w.heap.size w w'')
 |_=>False
def Bdd(B:Made):Prop:=∃N,∀x y,B x y->x<N
theorem Bdd.none:Bdd Made.none:=⟨0,fun _ _ h=>h.elim⟩
end
end
section
open Go.RowKit
namespace Own2
def Made:=Nat->Nat->Obj->Prop
def Made.none:Made:=fun _ _ _=>False
def Made.ins(k b:Nat)(ob:Obj)(B:Made):Made:=fun u x y=>(u=k/\x=b/\y=ob)\/B u x y
def res(md:Region.Mode)(o:Oper)(B:Made):Made:=fun u x y=>B u x y/\∃e∈o.after,Region.binds md e=true/\e.on=u
def CB(W:World)(B:Made)(w:World):Prop:=Below W.heap.size W w/\∀u x y,B u x y->W.heap.size<=x/\w.heap[x]?=some y
section
variable {P : Program} {ops : Array Oper} {md : Region.Mode} {W : World} {S : Nat->Value ⊕ (Obj × (Nat->Value))}
theorem CB.lt{B:Made}{w:World}(h:CB W B w){u x:Nat}{y:Obj}(hb:B u x y):x<w.heap.size:=by
 have:=(h.2 u x y hb).2;exact(ft.1 this).1
def Bdd(B:Made):Prop:=∃N,∀u x y,B u x y->x<N
theorem Bdd.none:Bdd Made.none:=⟨0,fun _ _ _ h=>h.elim⟩
def kY(k:Nat)(B B':Made):Prop:=B'=B\/∃b ob,B'=Made.ins k b ob B
theorem kY.sub{k:Nat}{B B':Made}(h:kY k B B'):∀u x y,B u x y->B' u x y:=by
 rcases h with rfl|⟨b,ob,rfl⟩
 ·exact fun _ _ _ h=>h
 ·exact fun _ _ _ h=>.inr h
end
end Own2
theorem bel{p:Prop}(h:p:=by(repeat(first|with_reducible assumption|with_reducible exact Below.refl _ _|with_reducible refine Below.drewN ?_ _|with_reducible refine Below.drew ?_|with_reducible refine Below.alloc ?_ zb38 _|with_reducible refine Below.setCell ?_ zb38 _|with_reducible refine fp _ _ ?_ zb38))):p:=h
end
section
namespace Dg
def vl(b:Nat):List Nat->Nat
 |[]=>0
 |x::l=>x+b*vl b l
def dig(b:Nat)(l:List Nat):Prop:=∀x∈l,x<b
section
variable {b : Nat}
theorem jQ:vl b []=0:=rfl
theorem fj(x:Nat)(l:List Nat):vl b (x::l)=x+b*vl b l:=rfl
theorem cS:∀(l m:List Nat),vl b (l++m)=vl b l+b^l.length*vl b m
 |[],m=>by simp[vl]
 |x::l,m=>by
  rw[qO,fj,fj,cS l m,eu,bT,cw,<-br,aK (b^l.length) b,ep]
theorem sO{x:Nat}{l:List Nat}(h:dig b (x::l)):x<b/\dig b l:=⟨h x ba,fun y hy=>h y (bh _ hy)⟩
theorem aY:∀{l:List Nat},dig b l->vl b l<b^l.length
 |[],_=>by simp[vl]
 |x::l,h=>by
  obtain⟨h1,h2⟩:=sO h;have ih:=aY h2;rw[fj,eu,bT,aK (b^l.length) b];have:b*(vl b l+1)<=b*b^l.length:=fi b ih;rw[cw]at this;omega
theorem aV{l:List Nat}(h:dig b l)(hb:0<b)(i:Nat):l.getD i 0<b:=by
 rw[bg]
 cases hi:l[i]? with
 |none=>exact hb
 |some x=>exact h x (eN hi)
theorem cg(l:List Nat)(i:Nat):vl b (l.take (i+1))=vl b (l.take i)+l.getD i 0*b^i:=by
 rw[qN,cS,bg]
 cases hi:l[i]? with
 |none=>simp[vl]
 |some x=>
  have:i<l.length:=(cN.1 hi).1;rw[bf,dn aa];simp[vl,aK]
theorem aI{l:List Nat}{i:Nat}(h:l.length<=i):vl b (l.take i)=vl b l:=by rw[qM h]
theorem bI{l:List Nat}{i:Nat}(h:i<l.length):vl b (l.drop i)=l.getD i 0+b*vl b (l.drop (i+1)):=by
 rw[vb h,fj,bg,aP h];rfl
theorem dh(l:List Nat){i:Nat}(h:i<=l.length):vl b l=vl b (l.take i)+b^i*vl b (l.drop i):=by
 conv=>lhs;rw[<-oc i l]
 rw[cS,bf,dn h]
theorem rM:∀{l:List Nat} {j:Nat} (d:Nat),j<l.length->vl b (l.set j d)+l.getD j 0*b^j=vl b l+d*b^j
 |x::l,0,d,_=>by simp[vl];omega
 |x::l,j+1,d,h=>by
  have ih:=rM (l:=l) (j:=j) d (by simpa using h);rw[va,fj,fj,uZ,bT,aK (b^j) b,<-br,<-br,aK _ b,aK d b,br,br];have:b*(vl b (l.set j d)+l.getD j 0*b^j)=b*(vl b l+d*b^j):=by rw[ih]
  rw[cw,cw]at this;omega
theorem dw{l:List Nat}(h:dig b l){j d:Nat}(hd:d<b):dig b (l.set j d):=fun x hx=>by
 rcases List.mem_or_eq_of_mem_set hx with h1|h1
 ·exact h x h1
 ·rw[h1];exact hd
theorem eB{l:List Nat}(h:dig b l)(i:Nat):dig b (l.take i):=fun x hx=>h x (uY hx)
theorem nO{l:List Nat}(h:dig b l)(i:Nat):dig b (l.drop i):=fun x hx=>h x (List.mem_of_mem_drop hx)
theorem iA{l m:List Nat}(h:dig b l)(k:dig b m):dig b (l++m):=fun x hx=>by
 rcases fg.1 hx with h1|h1
 ·exact h x h1
 ·exact k x h1
theorem eW(hb:0<b)(n:Nat):dig b (List.replicate n 0):=fun x hx=>by rw[(List.mem_replicate.1 hx).2];exact hb
theorem nu:∀n,vl b (List.replicate n 0)=0
 |0=>rfl
 |n+1=>by rw[List.replicate_succ,fj,nu n];simp
theorem mX:∀{l:List Nat},(∀x∈l,x=0)->vl b l=0
 |[],_=>rfl
 |x::l,h=>by
  rw[fj,h x ba,mX (fun y hy=>h y (bh _ hy))];simp
structure NF(b:Nat)(l:List Nat):Prop where
 dg:dig b l
 nz:l.getLast?≠some 0
theorem xj:NF b []:=⟨fun _ h=>(by cases h),by simp⟩
theorem AB{x:Nat}{l:List Nat}(h:NF b (x::l)):NF b l:=by
 refine⟨(sO h.dg).2,?_⟩
 cases l with
 |nil=>simp
 |cons y m=>have:=h.nz;rwa[List.getLast?_cons_cons]at this
theorem jq:∀{l:List Nat} {n:Nat},l.length=n+1->NF b l->b^n<=vl b l
 |[x],0,_,h=>by
  have:=h.nz;simp at this;simp[vl];omega
 |x::y::m,n+1,hl,h=>by
  have ih:=jq (l:=y::m) (n:=n) (by simpa using hl) (AB h);rw[fj,bT,aK];have:=fi b ih;omega
 |[x],n+1,hl,_=>by simp at hl
theorem gi{l:List Nat}(h:NF b l)(hl:l≠[])(hb:0<b):0<vl b l:=by
 obtain⟨n,hn⟩:∃n,l.length=n+1:=⟨l.length-1,by have:=eM.2 hl;omega⟩;exact aH (ff hb) (jq hn h)
theorem Az{l:List Nat}(h:NF b l)(hb:0<b):vl b l=0↔l=[]:=
 ⟨fun e=>by
  by_cases hl:l=[]
  ·exact hl
  ·have:=gi h hl hb;omega,fun e=>by rw[e];rfl⟩
theorem fN(hb:0<b){l m:List Nat}(hl:NF b l)(hm:NF b m)(h:l.length<m.length):vl b l<vl b m:=by
 obtain⟨n,hn⟩:∃n,m.length=n+1:=⟨m.length-1,by omega⟩;have h1:=aY hl.dg;have h2:=jq hn hm;have h3:b^l.length<=b^n:=cv hb aa;omega
theorem lex_lt{l m:List Nat}{i:Nat}(hl:dig b l)(hi:i<l.length)(hlen:l.length=m.length)(hd:l.drop (i+1)=m.drop (i+1))(h:l.getD i 0<m.getD i 0):vl b l<vl b m:=by
 rw[dh l (i:=i) aa,dh m (i:=i) aa,bI hi,bI (by omega:i<m.length),hd];have h1:=aY (eB hl i);rw[bf,dn aa]at h1;have h2:b^i*(l.getD i 0+b*vl b (m.drop (i+1))+1)<=b^i*(m.getD i 0+b*vl b (m.drop (i+1))):=fi _ aa;rw[cw _ _ 1]at h2;omega
theorem AA{l:List Nat}(h:dig b l){n:Nat}(hn:n<=l.length)(hz:∀j,n<=j->j<l.length->l.getD j 0=0)(hl:n=0\/l.getD (n-1) 0≠0):NF b (l.take n)/\vl b (l.take n)=vl b l:=by
 refine⟨⟨eB h n,?_⟩,?_⟩
 ·rcases hl with rfl|hl
  ·simp
  ·by_cases h0:n=0
   ·subst h0;simp
   rw[uX,bf,dn hn,gP,aB aa];intro e;rw[bg,e]at hl;exact hl rfl
 ·rw[dh l hn,mX (l:=l.drop n),eL,bS];intro x hx;obtain⟨k,hk,e⟩:=List.getElem_of_mem hx;rw[List.getElem_drop]at e;rw[fU]at hk;have:=hz (n+k) aa aa;rw[bg,aP aa]at this;rw[<-e];simpa using this
theorem qD{l:List Nat}{i d:Nat}(h:i<l.length):(l.set i d).take (i+1)=l.take i++[d]:=by
 rw[qN,uW h,List.take_set_of_le (ai _)];rfl
theorem fA{l:List Nat}{i d:Nat}(h:i<l.length):vl b ((l.set i d).take (i+1))=vl b (l.take i)+d*b^i:=by
 rw[qD h,cS,bf,dn aa];simp[vl,aK]
theorem mY{l:List Nat}{i d:Nat}(h:i<l.length):vl b ((l.set i d).drop i)=d+b*vl b (l.drop (i+1)):=by
 rw[bI (by simpa using h),bg,uW h,List.drop_set_of_lt aa];rfl
end
end Dg
end
section
namespace Dg
variable {B : Nat}
theorem lG{a b o:List Nat}{i c:Nat}(hi:i<o.length)(h:vl B (o.take i)+c*B^i=vl B (a.take i)+vl B (b.take i)):
  vl B ((o.set i ((a.getD i 0+b.getD i 0+c)%B)).take (i+1))+(a.getD i 0+b.getD i 0+c)/B*B^(i+1)=vl B (a.take (i+1))+vl B (b.take (i+1)):=by
 rw[fA hi,cg a,cg b,bT];have e:=gO (a.getD i 0+b.getD i 0+c) B;generalize a.getD i 0=x at*;generalize b.getD i 0=y at*;generalize(x+y+c)/B=q at*;generalize(x+y+c)%B=r at*;generalize B^i=P at*;have e2:(B*q+r)*P=(x+y+c)*P:=by rw[e]
 have e3:q*(P*B)=B*q*P:=by rw[aK P B,<-br,aK q B]
 rw[e3];simp only[aU]at e2;omega
theorem yI{a b o:List Nat}{i c:Nat}(hi:i<o.length)(h:vl B (o.take i)+vl B (b.take i)=vl B (a.take i)+c*B^i)(hc:b.getD i 0+c<=a.getD i 0):
  vl B ((o.set i (a.getD i 0-b.getD i 0-c)).take (i+1))+vl B (b.take (i+1))=vl B (a.take (i+1))+0*B^(i+1):=by
 rw[fA hi,cg a,cg b];generalize a.getD i 0=x at*;generalize b.getD i 0=y at*;generalize B^i=P at*;obtain⟨z,rfl⟩:∃z,x=y+c+z:=⟨x-(y+c),by omega⟩;rw[show y+c+z-y-c=z by omega];simp only[aU,jb];omega
theorem yJ{a b o:List Nat}{i c:Nat}(hi:i<o.length)(h:vl B (o.take i)+vl B (b.take i)=vl B (a.take i)+c*B^i)(hb:b.getD i 0+c<=a.getD i 0+B):
  vl B ((o.set i (a.getD i 0+B-b.getD i 0-c)).take (i+1))+vl B (b.take (i+1))=vl B (a.take (i+1))+1*B^(i+1):=by
 rw[fA hi,cg a,cg b,bT,aK (B^i) B];generalize a.getD i 0=x at*;generalize b.getD i 0=y at*;generalize B^i=P at*;obtain⟨z,hz⟩:∃z,x+B=y+c+z:=⟨x+B-(y+c),by omega⟩;rw[show x+B-y-c=z by omega];have e:(x+B)*P=(y+c+z)*P:=by rw[hz]
 simp only[aU]at e;simp only[cI];omega
theorem vm{b o:List Nat}{i k x c T:Nat}(hk:i+k<o.length)(h:vl B o+c*B^(i+k)=T+x*vl B (b.take k)*B^i):
  vl B (o.set (i+k) ((x*b.getD k 0+o.getD (i+k) 0+c)%B))+(x*b.getD k 0+o.getD (i+k) 0+c)/B*B^(i+(k+1))=T+x*vl B (b.take (k+1))*B^i:=by
 have e1:=rM (b:=B) ((x*b.getD k 0+o.getD (i+k) 0+c)%B) hk;have e:=gO (x*b.getD k 0+o.getD (i+k) 0+c) B;rw[cg b,show i+(k+1)=(i+k)+1 by omega,bT];have e4:x*(vl B (b.take k)+b.getD k 0*B^k)*B^i=x*vl B (b.take k)*B^i+x*b.getD k 0*B^(i+k):=by
  rw[ja];simp only[cw,br,aK,iZ]
 rw[e4];generalize x*b.getD k 0=u at*;generalize o.getD (i+k) 0=y at*;generalize(u+y+c)/B=q at*;generalize(u+y+c)%B=r at*;generalize x*vl B (b.take k)*B^i=S at*;generalize B^(i+k)=P at*;have e2:(B*q+r)*P=(u+y+c)*P:=by rw[e]
 have e3:q*(P*B)=B*q*P:=by rw[aK P B,<-br,aK q B]
 rw[e3];simp only[aU]at e2;omega
theorem vp{a o:List Nat}{i d r:Nat}(hi:i<a.length)(ho:i<o.length)(h:vl B (a.drop (i+1))=d*vl B (o.drop (i+1))+r):
  vl B (a.drop i)=d*vl B ((o.set i ((r*B+a.getD i 0)/d)).drop i)+(r*B+a.getD i 0)%d:=by
 rw[bI hi,mY ho,h];have e:=gO (r*B+a.getD i 0) d;generalize a.getD i 0=x at*;generalize(r*B+x)/d=q at*;generalize(r*B+x)%d=t at*;generalize vl B (o.drop (i+1))=S at*;rw[cw,cw,<-br,<-br,aK B d,aK B r];omega
theorem wG{d r r0:List Nat}{i g c:Nat}(hi:i<r.length)(hr:r.getD i 0=r0.getD i 0)(h:vl B (r.take i)+g*vl B (d.take i)=vl B (r0.take i)+c*B^i){lo hi':Nat}(hp:g*d.getD i 0+c=hi'*B+lo):
  (lo<=r0.getD i 0->vl B ((r.set i (r0.getD i 0-lo)).take (i+1))+g*vl B (d.take (i+1))=vl B (r0.take (i+1))+hi'*B^(i+1))/\
  (r0.getD i 0<lo->lo<=r0.getD i 0+B->vl B ((r.set i (r0.getD i 0+B-lo)).take (i+1))+g*vl B (d.take (i+1))=vl B (r0.take (i+1))+(hi'+1)*B^(i+1)):=by
 rw[cg d,cg r0,bT,cw,<-br g];refine⟨fun hle=>?_,fun hlt hle=>?_⟩
 ·rw[fA hi];generalize r0.getD i 0=x at*;generalize g*d.getD i 0=u at*;generalize B^i=P at*;obtain⟨z,rfl⟩:∃z,x=lo+z:=⟨x-lo,by omega⟩;rw[show lo+z-lo=z by omega];have e:(u+c)*P=(hi'*B+lo)*P:=by rw[hp]
  have e3:hi'*(P*B)=hi'*B*P:=by rw[aK P B,br]
  rw[e3];simp only[aU]at e⊢;omega
 ·rw[fA hi];generalize r0.getD i 0=x at*;generalize g*d.getD i 0=u at*;generalize B^i=P at*;obtain⟨z,hz⟩:∃z,x+B=lo+z:=⟨x+B-lo,by omega⟩;rw[show x+B-lo=z by omega];have e:(u+c)*P=(hi'*B+lo)*P:=by rw[hp]
  have e2:(x+B)*P=(lo+z)*P:=by rw[hz]
  have e3:(hi'+1)*(P*B)=hi'*B*P+B*P:=by rw[aK P B,aU,br,cI]
  rw[e3];simp only[aU]at e e2⊢;omega
theorem top2{l:List Nat}{n:Nat}(h:dig B l)(hl:l.length=n+2):∃r,r<B^n/\vl B l=(l.getD (n+1) 0*B+l.getD n 0)*B^n+r:=by
 refine⟨vl B (l.take n),?_,?_⟩
 ·have:=aY (eB h n);rwa[bf,dn aa]at this
 ·rw[dh l (i:=n) aa,bI aa,bI aa,gM aa,jQ];rw[aK (B^n),eL,bS,aK B,fe (l.getD n 0)];omega
theorem top3{l:List Nat}{n:Nat}(h:dig B l)(hl:l.length=n+3):∃r,r<B^n/\vl B l=((l.getD (n+2) 0*B+l.getD (n+1) 0)*B+l.getD n 0)*B^n+r:=by
 refine⟨vl B (l.take n),?_,?_⟩
 ·have:=aY (eB h n);rwa[bf,dn aa]at this
 ·rw[dh l (i:=n) aa,bI aa,bI aa,bI aa,gM aa,jQ];simp only[eL,bS];rw[aK (B^n),aK B (l.getD (n+2) 0),aK B,fe (l.getD (n+1) 0),fe (l.getD n 0)];omega
theorem yW{V U v1 v2 t r3 g P s u:Nat}(hV:V=(v1*B+v2)*P+s)(hU:U=(t*B+r3)*P+u)(hu:u<P)(hq:g*V<=U):g*(v1*B+v2)<=t*B+r3:=by
 apply cq;intro h;have h1:(t*B+r3+1)*P<=g*(v1*B+v2)*P:=cE _ h;have h2:g*(v1*B+v2)*P<=g*V:=by rw[hV,br];exact fi _ aa
 rw[aU,cI]at h1;omega
theorem yV{V U v1 v2 t r3 g P s u:Nat}(hV:V=(v1*B+v2)*P+s)(hs:s<P)(hU:U=(t*B+r3)*P+u)(hg:g<=B)(hg1:1<=g)(hv:1<=v1)(h:g*(v1*B+v2)<=t*B+r3):(g-1)*V<=U:=by
 obtain⟨k,rfl⟩:∃k,g=k+1:=⟨g-1,by omega⟩;rw[mz];have h1:k*V<=k*((v1*B+v2+1)*P):=fi _ (by rw[hV,aU _ 1,cI];omega);have h3:B<=v1*B:=by have:=cE B hv;omega
 have h2:k*(v1*B+v2+1)<=t*B+r3:=by
  rw[cw,en];rw[aU,cI]at h;omega
 have h4:=cE P h2;rw[<-br]at h1;omega
end Dg
end
section
namespace Dg
variable {B : Nat}
theorem xa{R V:Nat}(h:R<B*V):R/V<B:=Nat.div_lt_of_lt_mul (by rwa[aK])
theorem xF{r d:List Nat}{n:Nat}(hr:dig B r)(hd:dig B d)(hrl:r.length=n+3)(hdl:d.length=n+2)(hv:1<=d.getD (n+1) 0):
  vl B r/vl B d<=(r.getD (n+2) 0*B+r.getD (n+1) 0)/d.getD (n+1) 0:=by
 obtain⟨u,hu,hU⟩:=top3 hr hrl;obtain⟨s,hs,hV⟩:=top2 hd hdl;rw[oa hv];have h1:vl B r/vl B d*vl B d<=vl B r:=Nat.div_mul_le_self _ _;have hb:0<B:=by have:=hr (r[0]'aa) (List.getElem_mem _);omega
 have h3:=aV hr hb n;generalize vl B r/vl B d=q at*;generalize vl B r=U at*;generalize vl B d=V at*;generalize r.getD (n+2) 0*B+r.getD (n+1) 0=t at*;generalize r.getD n 0=r3 at*;generalize d.getD (n+1) 0=v1 at*;generalize d.getD n 0=v2 at*;have hP:0<B^n:=ff hb;generalize B^n=P at*;have h2:v1*(B*P)<=V:=by
  rw[hV,<-br,aU];omega
 have h4:U<(t+1)*(B*P):=by
  have h5:(t*B+r3+1)*P<=(t+1)*B*P:=cE _ (by rw[aU,cI];omega);rw[aU _ 1,cI]at h5;rw[hU,<-br];omega
 have h6:q*(v1*(B*P))<=q*V:=fi _ h2;have h7:q*v1*(B*P)<(t+1)*(B*P):=by rw[br];omega
 have:=Nat.lt_of_mul_lt_mul_right h7;omega
theorem yk{R V g:Nat}(hV:0<V)(hq:R/V<=g)(h:g*V<=R):g=R/V:=
 qL ((oa hV).2 h) hq
theorem Af{R V g:Nat}(hV:0<V)(hg:1<=g)(h1:(g-1)*V<=R)(h:R<g*V):g-1=R/V:=by
 have h2:=(oa hV).2 h1;have h3:R/V<g:=(uV hV).2 h;omega
def iv(neg:Bool)(n:Nat):Int:=if neg then-(n:Int)else n
theorem hH(s:Bool)(n:Nat):(iv s n).natAbs=n:=by unfold iv;split<;>omega
theorem B7(s:Bool)(n:Nat):iv (!s) n= -iv s n:=by cases s<;>simp[iv]
theorem pZ(s:Bool):iv s 0=0:=by cases s<;>simp[iv]
theorem AZ(s:Bool)(m n:Nat):iv s (m+n)=iv s m+iv s n:=by cases s<;>simp[iv]<;>omega
theorem vI{s t:Bool}(h:s≠t){m n:Nat}(hmn:n<=m):iv s (m-n)=iv s m+iv t n:=by cases s<;>cases t<;>simp[iv]at* <;>omega
theorem vH{s t:Bool}(h:s≠t){m n:Nat}(hmn:m<=n):iv t (n-m)=iv s m+iv t n:=by cases s<;>cases t<;>simp[iv]at* <;>omega
theorem xx(s t:Bool)(m n:Nat):iv (s !=t) (m*n)=iv s m*iv t n:=by cases s<;>cases t<;>simp[iv]<;>grind
theorem B8{s t:Bool}{m n:Nat}(hn:0<n):(s=false\/m%n=0->iv s m/iv t n=iv (s !=t) (m/n)/\iv s m%iv t n=((m%n:Nat):Int))/\
  (s=true->0<m%n->iv s m/iv t n=iv (s !=t) (m/n+1)/\iv s m%iv t n=((n-m%n:Nat):Int)):=by
 have e:=gO m n;have hlt:=dQ m hn;have key:∀(a q r:Int),r+(n:Int)*q=a->0<=r->r<n->a/(n:Int)=q/\a%(n:Int)=r:=fun a q r h1 h2 h3=>(Int.ediv_emod_unique aa).2 ⟨h1,h2,h3⟩;have both:∀(q r:Int),r+(n:Int)*q=iv s m->0<=r->r<n->iv s m/iv t n=(if t then-q else q)/\iv s m%iv t n=r:=fun q r h1 h2 h3=>by
  obtain⟨e1,e2⟩:=key _ q r h1 h2 h3;cases t
  ·exact⟨e1,e2⟩
  ·refine⟨?_,?_⟩
   ·show iv s m/ -(n:Int)=_;rw[Int.ediv_neg,e1];rfl
   ·show iv s m% -(n:Int)=_;rw[Int.emod_neg,e2]
 generalize m/n=q at*;generalize m%n=r at*;subst e;refine⟨fun h=>?_,fun h h0=>?_⟩
 ·obtain ⟨e1, e2⟩ := both (iv s q) r (by
   cases s
   ·simp[iv];omega
   ·rcases h with h|h
    ·cases h
    ·subst h;simp[iv];grind) aa aa
  refine⟨?_,e2⟩;rw[e1];cases s<;>cases t<;>simp[iv]
 ·subst h;obtain⟨e1,e2⟩:=both (-((q:Int)+1)) ((n-r:Nat):Int) (by
   simp only[iv,if_true,Int.mul_neg,Int.mul_add,qK,fC,Int.mul_one];omega) aa aa
  refine⟨?_,e2⟩;rw[e1];cases t<;>simp[iv]
end Dg
end
section
open Go.RowKit Go.BigFrame
theorem gu{W w:World}(h:Below W.heap.size W w):Ext W w:=h
abbrev B32:Nat:=4294967296
def WS(w:World)(a:Option Addr)(l:List Nat):Prop:=l=[]\/∃g,a=some ⟨g,0,none⟩/\g<w.heap.size/\∀k x,l[k]?=some x->w.cell? ⟨g,k,none⟩=some (.int .u32 (x:Nat))
theorem WS.nil(w:World)(a:Option Addr):WS w a []:=.inl rfl
theorem WS.below{B:Nat}{w w':World}{a:Option Addr}{l:List Nat}(h:WS w a l)(hb:Below B w w')(hB:w.heap.size<=B):WS w' a l:=by
 rcases h with h|⟨g,e,hg,hc⟩
 ·exact .inl h
 ·exact .inr ⟨g,e,aH hg hb.size,fun k x hk=>(hb.cell (p:=⟨g,k,none⟩) (aH hg hB)).trans (hc k x hk)⟩
theorem WS.take{w:World}{a:Option Addr}{l:List Nat}(h:WS w a l)(n:Nat):WS w a (l.take n):=by
 rcases h with h|⟨g,e,hg,hc⟩
 ·exact .inl (by rw[h];simp)
 ·refine .inr ⟨g,e,hg,fun k x hk=>hc k x ?_⟩;rw[gP]at hk;split at hk
  ·exact hk
  ·cases hk
theorem A7(w:World)(g k:Nat)(v u:Value)(h:w.cell? ⟨g,k,none⟩=some u):(w.setCell ⟨g,k,none⟩ v).cell? ⟨g,k,none⟩=some v:=by
 go_simp
theorem yX(w:World)(g k i:Nat)(v:Value)(h:¬i=k):(w.setCell ⟨g,k,none⟩ v).cell? ⟨g,i,none⟩=w.cell? ⟨g,i,none⟩:=by
 go_simp
structure aQ(w:World)(g:Nat)(o:List Nat):Prop where
 lt:g<w.heap.size
 cells:∀k,k<o.length->w.cell? ⟨g,k,none⟩=some (.int .u32 ((o.getD k 0:Nat):Int))
 fr:∀k,w.frozen? ⟨g,k,none⟩=false
theorem aQ.yF{w:World}{g:Nat}{o:List Nat}(h:w.rowIs g 280 o.length (fun k=>.int .u32 ((o.getD k 0:Nat):Int))):aQ w g o:=
 ⟨World.rowIs.lt h,fun _ hk=>World.rowIs.cell h hk,fun k=>World.rowIs.frozen h k⟩
theorem aQ.ws{w:World}{g:Nat}{o:List Nat}(h:aQ w g o):WS w (some ⟨g,0,none⟩) o:=
 .inr ⟨g,rfl,h.lt,fun k x hk=>by
  have hl:=(cN.1 hk).1;rw[h.cells k hl,bg,hk];rfl⟩
theorem aQ.cell{w:World}{g:Nat}{o:List Nat}(h:aQ w g o){k:Nat}(hk:k<o.length):w.cell? ⟨g,k,none⟩=some (.int .u32 ((o.getD k 0:Nat):Int)):=h.cells k hk
theorem aQ.frozen{w:World}{g:Nat}{o:List Nat}(h:aQ w g o)(k:Nat):w.frozen? ⟨g,k,none⟩=false:=h.fr k
theorem aQ.set{w:World}{g:Nat}{o:List Nat}(h:aQ w g o){k:Nat}(hk:k<o.length)(d:Nat):aQ (w.setCell ⟨g,k,none⟩ (.int .u32 (d:Int))) g (o.set k d):=by
 have hc:=h.cells k hk;refine⟨by simpa using h.lt,fun i hi=>?_,fun i=>by simpa using h.fr i⟩;rw[fb]at hi;by_cases e:i=k
 ·subst e;rw[bg,uW hk];exact A7 w g i _ _ hc
 ·rw[bg,List.getElem?_set_ne aa,<-bg,yX w g k i _ e];exact h.cells i hi
theorem aQ.below{B:Nat}{w w':World}{g:Nat}{o:List Nat}(h:aQ w g o)(hb:Below B w w')(hB:w.heap.size<=B):aQ w' g o:=
 ⟨aH h.lt hb.size,fun k hk=>(hb.cell (p:=⟨g,k,none⟩) (aH h.lt hB)).trans (h.cells k hk),fun k=>(hb.frozen (p:=⟨g,k,none⟩) (aH h.lt hB)).trans (h.fr k)⟩
theorem aQ.mor{w:World}{g:Nat}{o:List Nat}(h:aQ w g o)(gx:Nat×Array Obj):aQ (more w gx) g o:=h.below (fp w gx (Below.refl _ _) (ai _)) (ai _)
theorem gD:(Tryz.prog.info? 280).map (fun i=>(i.zero,i.size,i.bytes))=some (some (.int .u32 0),1,4):=by kernel_rfl
theorem aQ.made(w:World)(n:Nat):aQ (w.alloc (.cells (madeCells #[.int .u32 0] n) 280)) w.heap.size (List.replicate n 0):=by
 refine aQ.yF ?_;rw[List.length_replicate];refine World.rowIs.congr (World.rowIs_made w (.int .u32 0) n 280) fun i hi=>?_;rw[bg,nZ,aB hi];rfl
def tl:List Nat->Nat
 |[]=>0
 |x::l=>if tl l=0/\x=0 then 0 else tl l+1
theorem fD:∀l,tl l<=l.length
 |[]=>ai _
 |x::l=>by have:=fD l;unfold tl;split<;>simp<;>omega
theorem mB:∀(l:List Nat) (j:Nat),tl l<=j->l.getD j 0=0
 |[],j,_=>by simp
 |x::l,0,h=>by
  unfold tl at h;split at h
  ·rename_i h1;simpa using h1.2
  ·omega
 |x::l,j+1,h=>by
  rw[uZ];refine mB l j ?_;unfold tl at h;split at h<;>omega
theorem pI:∀l:List Nat,tl l=0\/l.getD (tl l-1) 0≠0
 |[]=>.inl rfl
 |x::l=>by
  unfold tl;split
  ·exact .inl rfl
  ·rename_i h;right;rcases pI l with h1|h1
   ·rw[h1];simp;intro e;exact h ⟨h1,e⟩
   ·by_cases h0:tl l=0
    ·rw[h0];simp;intro e;exact h ⟨h0,e⟩
    ·rw[show tl l+1-1=(tl l-1)+1 by omega,uZ];exact h1
theorem mC{l:List Nat}(h:Dg.dig B32 l):Dg.NF B32 (l.take (tl l))/\Dg.vl B32 (l.take (tl l))=Dg.vl B32 l:=
 Dg.AA h (fD l) (fun j h1 _=>mB l j h1) (pI l)
theorem yf{l:List Nat}(h:l.getLast?≠some 0):tl l=l.length:=by
 have h1:=fD l;apply qL h1;apply cq;intro hlt;have h2:=mB l (l.length-1) aa;rw[bg,aP aa]at h2;apply h;rw[uX,aP aa];simpa using h2
set_option maxHeartbeats 2000000 in
theorem mf(l:List Nat)(a:Option Addr)(cap i:Nat)(hl:l.length<=4000000000000000000)(_hi:i<=4000000000000000000)(hd:Dg.dig B32 l)(w:World)(h:WS w a l):
  Calls Tryz.prog 323 #[.slice a l.length cap,.int .i64 ((i:Int))] w fun e w'=>e= .returned (.int .u64 ((l.getD i 0:Nat):Int))/\w'=w:=by
 by_cases hin:i<l.length
 ·obtain⟨x,hx⟩:∃x,l[i]?=some x:=⟨_,aP hin⟩;rcases h with rfl|⟨g,rfl,hg,hc⟩
  ·simp at hin
  have c0:=hc i x hx;have hxb:x<4294967296:=hd x (eN hx);have e:l.getD i 0=x:=by rw[bg,hx];rfl
  rw[e];have hin2:(i:Int)<(l.length:Int):=by omega
  generalize l.length=n at*;clear hx hc e hd
  go_enter Tryz.func323,Tryz.ntmps323
  go_wp2
  go_ret
  exact⟨rfl,rfl⟩
 ·have e:l.getD i 0=0:=by rw[bg,qJ aa];rfl
  rw[e];have hin2:¬(i:Int)<(l.length:Int):=by omega
  generalize l.length=n at*;clear e h hd
  go_enter Tryz.func323,Tryz.ntmps323
  go_wp2
  go_ret
  exact⟨rfl,rfl⟩
set_option maxHeartbeats 2000000 in
theorem cO(l:List Nat)(a:Option Addr)(cap:Nat)(hl:l.length<=4000000000000000000)(hc:l.length<=cap)(w:World)(h:WS w a l):
  Calls Tryz.prog 321 #[.slice a l.length cap] w fun e w'=>e= .returned (.slice a (tl l) (tl l))/\w'=w:=by
 have H:=af h;obtain⟨n,hn⟩:∃n,n=l.length:=⟨_,rfl⟩;have HN:=af hn;rw[<-hn]at hl hc⊢;clear hn h
 go_enter Tryz.func321,Tryz.ntmps321
 go_wp2_with fail
 go_loopw [3] (fun i wr=>∃k:Nat,tl l<=k/\k<=n/\i= .int .i64 k/\wr=w) (fun i _=>(intOf i).toNat)
 case atStart=>exact⟨n,by rw[HN.out];exact fD l,ai _,rfl,rfl⟩
 case round=>
  obtain⟨k,hk1,hk2,rfl,rfl⟩:=hrel;have HT:=af hk1;by_cases hk0:k=0
  ·subst hk0;have hgd:decide ((0:Int)<0)=false:=by decide
   have ht:tl l=0:=by have:=HT.out;omega
   have HT2:=af ht;clear hk1 ht
   go_wp2_with fail
   go_ret
   exact⟨by rw[HT2.out];rfl,rfl⟩
  ·obtain⟨j,rfl⟩:∃j,k=j+1:=⟨k-1,by omega⟩;have hjl:j<l.length:=by rw[<-HN.out];omega
   obtain⟨x,hx⟩:∃x,l[j]?=some x:=⟨_,aP hjl⟩;have hxd:l.getD j 0=x:=by rw[bg,hx];rfl
   rcases H.out with h0|⟨g,ha,hg,hcc⟩
   ·rw[h0]at hjl;simp at hjl
   have c0:=hcc j x hx;subst ha;have j1:(j:Int)<(n:Int):=by omega
   have j2:(0:Int)<(j:Int)+1:=by omega
   have j3:((j:Int)+1)-1=(j:Int):=by omega
   have hgd:decide ((0:Int)<(j:Int)+1)=true:=by rw[ei];omega
   by_cases hx0:x=0
   ·subst hx0;have ht:tl l<=j:=by
     rcases pI l with h1|h1
     ·omega
     ·apply cq;intro hlt;have:tl l=j+1:=by have:=HT.out;omega
      rw[this,mz]at h1;exact h1 hxd
    clear hk1 hcc hx hxd
    go_wp2_with fail
    go_roundw
    case rel=>exact⟨j,ht,by omega,by go_num,trivial⟩
    case measure=>simp[intOf]
   ·have ht : tl l = j + 1 := by
     apply qL HT.out;apply my;intro hle;have:=mB l j hle;omega
    have hx1:¬(x:Int)=0:=by omega
    have HT2:=af ht;clear hk1 hcc hx hxd ht
    go_wp2_with fail
    go_ret
    exact⟨by rw[HT2.out];rfl,rfl⟩
end
section
open Go.RowKit Go.BigFrame
theorem xU{P:Program}(w:World)(t tx ty e e':TypeId)(ht:P.underlying t=some (.slice e))(hk:P.underlying tx=some (.slice e'))(s x:Value):
  (Builtin.append_ #[t,tx] ty #[s,x]).run P w=(Builtin.append_ #[t,t] ty #[s,x]).run P w:=by
 unfold Builtin.append_
 cases s with
 |slice b n c=>simp[run_underlying ht,run_underlying hk]
 |_=>simp[run_underlying ht]
theorem nt{P:Program}{w:World}{ops:Array Oper}{rest:List Oper}{o:Oper}{a:Act}{Q:Exit->Act->World->Prop}(hgd:o.guard=none)(s x:Operand)(t tx:TypeId)
  (ho:o.op= .call {callee:=.builtin .append,args:=#[s,x],argTypes:=#[t,tx]})
  (base:Nat) (e e':TypeId) (i:TypeInfo) (z:Value) (size bytes:Nat) (ht:P.underlying t=some (.slice e)) (hk:P.underlying tx=some (.slice e')) (hi:P.info? e=some i) (hz:i.zero=some z)
  (hsize:i.size=size) (hby:i.bytes=bytes) (hzs:z.cells.size=size) (hsz:0<size)
  (v:Value) (n:Nat) (xs:List Value) (hs:a.eval s=v) (hown:w.ownsRow base e size v n xs)
  (ad:Addr) (m c:Nat) (news:List Value) (hx:a.eval x= .slice (some ad) m c) (hl:news.length=m*size) (hnews:∀j u,news[j]?=some u->w.cell? (ad.add j)=some u) (h1:∀u∈news,u.oneCell'=true)
  (h63:n+m<=maxLen) (hbytes:(n+m)*bytes<=140737488355328) (hbase:base<=w.heap.size)
  (h:∀v' w',w'.ownsRow base e size v' (n+m) (xs++news)->w.grownBy w' v.ownBlock->(v'= .slice none 0 0↔v= .slice none 0 0/\m=0)->wpList P ops Q rest (a.put o.dst v') w'):wpList P ops Q (o::rest) a w:=by
 refine wpList_plain hgd fun K hK=>?_;obtain⟨v',w',hr,h2,h3,h4⟩:=run_append_own (P:=P) w base t o.type e i z size bytes ht hi hz hsize hby hzs hsz v n xs hown ad m c news hl hnews h1 h63 hbytes hbase;rw[<-xU w t tx o.type e e' ht hk]at hr;unfold Oper.wp execOp;simp only[ho,resolve,invoke,builtin,Sem.run_bind,Sem.run_pure,Result.andThen_ok,ko,eh,eZ,hs,hx,hr];exact hK _ _ (h v' w' h2 h3 h4)
theorem jG{P:Program}{t:TypeId}{z:Value}{s b:Nat}(h:(P.info? t).map (fun i=>(i.zero,i.size,i.bytes))=some (some z,s,b)):∃i,P.info? t=some i/\i.zero=some z/\i.size=s/\i.bytes=b:=by
 obtain⟨i,hi,hzz⟩:=fT.1 h;simp only[av]at hzz;exact⟨i,hi,hzz.1,hzz.2.1,hzz.2.2⟩
def fK(l:List Nat):List Value:=l.map fun x=>.int .u32 ((x:Nat):Int)
theorem tE(l m:List Nat):fK (l++m)=fK l++fK m:=by simp[fK]
def eK(w:World)(base:Nat)(v:Value)(l:List Nat):Prop:=w.ownsRow base 280 1 v l.length (fK l)
theorem eK.nil(w:World)(base:Nat):eK w base (.slice none 0 0) []:=⟨by simp[fK],.inl ⟨rfl,rfl⟩⟩
theorem eK.ws{w:World}{base:Nat}{v:Value}{l:List Nat}(h:eK w base v l):∃a cap,v= .slice a l.length cap/\l.length<=cap/\cap<=9223372036854775807/\WS w a l/\(l≠[]->∃g,a=some ⟨g,0,none⟩/\base<=g):=by
 obtain⟨h0,h⟩:=h;rcases h with⟨hv,hn⟩|⟨g,cap,cur,rfl,hb,hg,hle,hm,hsz,htk⟩
 ·have e:l=[]:=fS hn;subst e;exact⟨none,0,hv,ai _,by omega,.inl rfl,fun h=>absurd rfl h⟩
 ·refine⟨_,cap,rfl,hle,hm,.inr ⟨g,rfl,(ft.1 hg).1,fun k x hk=>?_⟩,fun _=>⟨g,rfl,hb⟩⟩;have hk2:=(cN.1 hk).1;rw[cell_of_row w g _ cur _ (0,0) hg];have h1:(fK l)[k]?=some (.int .u32 ((x:Nat):Int)):=by unfold fK;rw[eg,hk];rfl
  rw[<-htk,kj aa,cM]at h1;exact h1
theorem xE{W W':World}{v:Nat×Array Obj}(hs:W'.heap.size=W.heap.size){g:Nat}(hg:W.heap.size<=g):(more W' v).heap[g]?=(more W v).heap[g]?:=by
 simp only[more];rw[nr aa,nr hg,hs]
theorem WS.swap{W W':World}{v:Nat×Array Obj}{g:Nat}{l:List Nat}(h:WS (more W v) (some ⟨g,0,none⟩) l)(hs:W'.heap.size=W.heap.size)(hb:W.heap.size<=g):WS (more W' v) (some ⟨g,0,none⟩) l:=by
 rcases h with h|⟨g',e,hg,hc⟩
 ·exact .inl h
 ·cases e;refine .inr ⟨g,rfl,?_,fun k x hk=>(World.cell?_of_block (xE hs hb)).trans (hc k x hk)⟩;simp only[more,mu]at hg⊢;omega
theorem iT{w0 w:World}{base:Nat}{v:Value}{l:List Nat}(hown:eK w base v l)(hB:Below base w0 w)(hbase:base<=w.heap.size)(t tx:TypeId)(ht:Tryz.prog.underlying t=some (.slice 280))(hk:Tryz.prog.underlying tx=some (.slice 280))
  (l2:List Nat) (g n c:Nat) (hn:n=l2.length) (h2:WS w (some ⟨g,0,none⟩) l2) (hlen:l.length+l2.length<=4000000000000)
  {ops:Array Oper} {rest:List Oper} {o:Oper} {a:Act} {Q:Exit->Act->World->Prop} (hgd:o.guard=none) (s y:Operand)
  (ho:o.op= .call {callee:=.builtin .append,args:=#[s,y],argTypes:=#[t,tx]})
  (hs:a.eval s=v) (hx:a.eval y= .slice (some ⟨g,0,none⟩) n c)
  (h:∀v' w',eK w' base v' (l++l2)->Below base w0 w'->base<=w'.heap.size->wpList Tryz.prog ops Q rest (a.put o.dst v') w'):wpList Tryz.prog ops Q (o::rest) a w:=by
 subst hn;obtain⟨i0,hi0,hz0,hz1,hz2⟩:=jG gD;refine nt hgd s y t tx ho base 280 280 i0 _ 1 4 ht hk hi0 hz0 hz1 hz2 rfl aa v l.length (fK l) hs hown
  ⟨g,0,none⟩ l2.length c (fK l2) hx (by simp[fK]) ?_ ?_ rh aa hbase ?_
 ·intro j u hu;unfold fK at hu;rw[eg]at hu;have hj:(⟨g,0,none⟩:Addr).add j=⟨g,j,none⟩:=by unfold Addr.add;split<;>simp_all
  rw[hj]
  cases hx:l2[j]? with
  |none=>rw[hx]at hu;cases hu
  |some x=>
   rw[hx]at hu;cases hu;rcases h2 with h2|⟨g',e,_,hc⟩
   ·rw[h2]at hx;cases hx
   ·cases e;exact hc j x hx
 ·intro u hu;obtain⟨x,_,rfl⟩:=im.1 hu;rfl
 ·intro v' w' h1 h3 _;have hsz:=h3.size;refine h v' w' (by unfold eK;rw[tE,bK];exact h1) (hB.grown h3 hbase ?_) aa;intro k hk;rcases hown.2 with⟨hv,_⟩|⟨g',cap,cur,hv,hb,_⟩
  ·rw[hv]at hk;simp[Value.ownBlock]at hk
  ·rw[hv]at hk;simp[Value.ownBlock]at hk;omega
def Off(b:Nat)(V V':World):Prop:=V'.heap.size=V.heap.size/\∀k,k≠b->V'.heap[k]?=V.heap[k]?
theorem Off.iU(W:World)(R R':Obj):Off W.heap.size (W.alloc R) (W.alloc R'):=
 ⟨by simp,fun k hk=>by
  by_cases h:k<W.heap.size
  ·rw[heap_alloc_old _ _ h,heap_alloc_old _ _ h]
  ·rw[rq fq,rq fq]⟩
theorem Off.alloc{b:Nat}{V V':World}(h:Off b V V')(R:Obj):Off b (V.alloc R) (V'.alloc R):=
 ⟨by simp[h.1],fun k hk=>by
  by_cases h1:k<V.heap.size
  ·rw[heap_alloc_old _ _ h1,heap_alloc_old _ _ (show k<V'.heap.size by rw[h.1];exact h1)];exact h.2 k hk
  ·by_cases h2:k=V.heap.size
   ·subst h2;rw[heap_alloc_new V R,<-h.1,heap_alloc_new V' R]
   ·rw[rq (by simp[h.1];omega),rq fq]⟩
theorem Off.mor{b:Nat}{V V':World}(h:Off b V V')(g:Nat×Array Obj):Off b (more V g) (more V' g):=
 ⟨by simp[Go.Proofs.YtepdigdijecgpaaGreat.more,h.1],fun k hk=>by
  simp only[Go.Proofs.YtepdigdijecgpaaGreat.more];by_cases h1:k<V.heap.size
  ·rw[kp h1,kp (by rw[h.1];exact h1)];exact h.2 k hk
  ·have h2:¬k<V'.heap.size:=by rw[h.1];exact h1
   rw[nr (cq h2),nr (cq h1),h.1]⟩
theorem Off.drew{b:Nat}{V V':World}(h:Off b V V'):Off b V.drew V'.drew:=h
theorem WS.off{b:Nat}{c:Bool}{V V':World}{a:Option Addr}{l:List Nat}(h:WS V a l)(ho:Off b V V')(hb:V.cell? ⟨b,0,none⟩=some (.bool c)):WS V' a l:=by
 rcases h with h|⟨g,e,hg,hc⟩
 ·exact .inl h
 ·by_cases hl:l=[]
  ·exact .inl hl
  refine .inr ⟨g,e,by rw[ho.1];exact hg,fun k x hk=>?_⟩;have hne:g≠b:=fun e2=>by
   have h0:=hc 0 _ (aP (eM.2 hl));rw[e2,hb]at h0;cases h0
  exact(World.cell?_of_block (ho.2 g hne)).trans (hc k x hk)
def dL(V V':World):Prop:=∃b,Off b V V'/\V.cell? ⟨b,0,none⟩=some (.bool false)
theorem dL.iU(W:World)(v:Value)(t:TypeId)(R':Obj):dL (W.alloc (.cells #[.bool false,v] t)) (W.alloc R'):=
 ⟨W.heap.size,Off.iU W _ _,by rw[cell_of_row _ W.heap.size 0 _ t (0,0) (heap_alloc_new W _)];rfl⟩
theorem dL.alloc{V V':World}(h:dL V V')(R:Obj):dL (V.alloc R) (V'.alloc R):=by
 obtain⟨b,h1,h2⟩:=h;exact⟨b,h1.alloc R,(World.cell?_of_block (heap_alloc_old V R (World.block_lt_of_cell? V ⟨b,0,none⟩ h2))).trans h2⟩
theorem dL.mor{V V':World}(h:dL V V')(g:Nat×Array Obj):dL (more V g) (more V' g):=by
 obtain⟨b,h1,h2⟩:=h;exact⟨b,h1.mor g,(World.cell?_of_block (jw V g (World.block_lt_of_cell? V ⟨b,0,none⟩ h2))).trans h2⟩
theorem dL.drew{V V':World}(h:dL V V'):dL V.drew V'.drew:=by
 obtain⟨b,h1,h2⟩:=h;exact⟨b,h1,h2⟩
theorem gh{p:Prop}(h:p:=by(repeat(first|with_reducible exact dL.iU _ _ _ _|with_reducible refine dL.mor ?_ _|with_reducible refine dL.alloc ?_ _|with_reducible refine dL.drew ?_))):p:=h
structure IV where
 s:Bool
 a:Option Addr
 n:Nat
 cap:Nat
structure IW(w:World)(x:IV)(l:List Nat):Prop where
 n:x.n=l.length
 cap:l.length<=x.cap
 ws:WS w x.a l
 nf:Dg.NF B32 l
def IZ(w:World)(x:IV)(z:Int):Prop:=∃l,IW w x l/\(l=[]->x.s=false)/\z=Dg.iv x.s (Dg.vl B32 l)
theorem IW.below{B:Nat}{w w':World}{x:IV}{l:List Nat}(h:IW w x l)(hb:Below B w w')(hB:w.heap.size<=B):IW w' x l:=⟨h.n,h.cap,h.ws.below hb hB,h.nf⟩
theorem IZ.below{B:Nat}{w w':World}{x:IV}{z:Int}(h:IZ w x z)(hb:Below B w w')(hB:w.heap.size<=B):IZ w' x z:=by
 obtain⟨l,h1,h2,h3⟩:=h;exact⟨l,h1.below hb hB,h2,h3⟩
theorem IZ.off{b:Nat}{c:Bool}{V V':World}{x:IV}{z:Int}(h:IZ V x z)(ho:Off b V V')(hb:V.cell? ⟨b,0,none⟩=some (.bool c)):IZ V' x z:=by
 obtain⟨l,h1,h2,h3⟩:=h;exact⟨l,⟨h1.n,h1.cap,h1.ws.off ho hb,h1.nf⟩,h2,h3⟩
theorem IZ.dt{V V':World}{x:IV}{z:Int}(h:IZ V x z)(k:dL V V'):IZ V' x z:=by
 obtain⟨b,k1,k2⟩:=k;exact h.off k1 k2
theorem IZ.zero(w:World):IZ w ⟨false,none,0,0⟩ 0:=⟨[],⟨rfl,ai _,.inl rfl,Dg.xj⟩,fun _=>rfl,rfl⟩
set_option maxRecDepth 10000 in
set_option maxHeartbeats 2000000 in
theorem fJ(s:Bool)(l:List Nat)(a:Option Addr)(cap:Nat)(hl:l.length<=3000000000000)(hc:l.length<=cap)(hd:Dg.dig B32 l)(w:World)(h:WS w a l):
  Calls Tryz.prog 244 #[.bool s,.slice a l.length cap] w fun e w'=>(∃x,e= .returned (.agg #[.bool x.s,.slice x.a x.n x.cap])/\IZ w' x (Dg.iv s (Dg.vl B32 l)))/\Below w.heap.size w w':=by
 have TR:=af (fun w (h:WS w a l)=>cO l a cap aa hc w h);obtain⟨hnf,hv⟩:=mC hd;have hle:=fD l;obtain⟨m,hm⟩:∃m,m=l.take (tl l):=⟨_,rfl⟩;have hml:m.length=tl l:=by rw[hm,bf];omega
 have hW:Hid (WS w a m):=by rw[hm];exact h.take _
 rw[<-hm]at hnf hv;have H0:=af h;by_cases hm0:m=[]
 ·have ht:tl l=0:=by rw[<-hml,hm0];rfl
  have hz:Dg.vl B32 l=0:=by rw[<-hv,hm0];rfl
  rw[ht]at TR;have HZ:=af hz;clear hnf hv hm hml hm0 hz ht h hle;generalize l.length=n at*
  go_enter Tryz.func244,Tryz.ntmps244
  go_wp2_with (first|(go_at_call 321;with_reducible refine(TR.out _ ?_).mono ?_;(exact H0.out.below (B:=w.heap.size) az (ai _));rintro e w' ⟨rfl,rfl⟩))
  refine bodyPost_ret (v:=.agg #[.bool ((⟨false,none,0,0⟩:IV)).s,.slice ((⟨false,none,0,0⟩:IV)).a ((⟨false,none,0,0⟩:IV)).n ((⟨false,none,0,0⟩:IV)).cap]) (by simp[results,Tryz.results244,go_sem]) rfl ⟨⟨⟨false,none,0,0⟩,rfl,by rw[HZ.out,Dg.pZ];exact IZ.zero _⟩,by exact bel⟩
 ·have hpos:0<m.length:=eM.2 hm0;obtain⟨g,hg⟩:∃g,a=some ⟨g,0,none⟩:=by
   rcases hW.out with h1|⟨g,e,_⟩
   ·exact absurd h1 hm0
   ·exact⟨g,e⟩
  subst hg;rw[<-hml]at TR hle;have HV:=af hv;have HNF:=af hnf;have HM:Hid (m≠[]):=hm0;have t0:¬m.length=0:=by omega
  have t1:¬(m.length:Int)=0:=by omega
  have hlen:([]:List Nat).length+m.length<=4000000000000:=by simp;omega
  obtain⟨k,hk⟩:∃k,k=m.length:=⟨_,rfl⟩;have HK:=af hk;rw[<-hk]at TR t0 t1 hpos;clear hnf hv hm hml hm0 h hle hk;generalize l.length=n at*
  go_enter Tryz.func244,Tryz.ntmps244
  go_wp2_with (first|(go_at_call 321;with_reducible refine(TR.out _ ?_).mono ?_;(exact H0.out.below (B:=w.heap.size) az (ai _));rintro e w' ⟨rfl,rfl⟩)|(at_builtin;go_must (refine iT (eK.nil _ _) (Below.refl _ _) (ai _) 67 260 Tryz.underlying67 Tryz.underlying260 m g k k HK.out ?_ hlen rfl (.const (.slice none 0 0)) (.tmp 12) rfl (by rfl) (by rfl) ?_);(exact hW.out.below (B:=w.heap.size) az (ai _));intro v3 w3 hown3 hB3 hz3;obtain⟨a3,cap3,rfl,hc3,hcap3,hws3,hge3⟩:=hown3.ws;obtain⟨g3',rfl,hge⟩:=hge3 (fun e=>HM.out e);have HS:=af hws3;clear hown3 hws3 hge3;obtain⟨g3,rfl⟩:=mob hB3;clear hB3))
  refine bodyPost_ret (v:=.agg #[.bool ((⟨s,some ⟨g3',0,none⟩,([]++m).length,cap3⟩:IV)).s,.slice ((⟨s,some ⟨g3',0,none⟩,([]++m).length,cap3⟩:IV)).a ((⟨s,some ⟨g3',0,none⟩,([]++m).length,cap3⟩:IV)).n ((⟨s,some ⟨g3',0,none⟩,([]++m).length,cap3⟩:IV)).cap]) (by simp[results,Tryz.results244,go_sem]) rfl ⟨⟨⟨s,some ⟨g3',0,none⟩,([]++m).length,cap3⟩,rfl,m,⟨rfl,hc3,?_,HNF.out⟩,fun e=>absurd e HM.out,by rw[HV.out]⟩,by exact bel⟩;exact WS.swap HS.out aO hge
end
section
open Go.RowKit Go.BigFrame
attribute [local go_sem ↓] Go.wp_at_zero Go.wp_at_succ
def jL(w:World)(e:Ending)(N:Nat):Prop:=∃a l,e= .returned (.slice a l.length l.length)/\WS w a l/\Dg.NF B32 l/\Dg.vl B32 l=N
theorem wD{l:List Nat}(h:Dg.NF B32 l):tl l=l.length:=yf h.nz
set_option maxRecDepth 10000 in
set_option maxHeartbeats 2000000 in
theorem di(x:IV)(l:List Nat)(hl:l.length<=3000000000000)(w:World)(h:IW w x l):
  Calls Tryz.prog 246 #[.agg #[.bool x.s,.slice x.a x.n x.cap]] w fun e w'=>e= .returned (.slice x.a l.length l.length)/\Below w.heap.size w w':=by
 have TR:=af (fun w (k:WS w x.a l)=>cO l x.a x.cap aa h.cap w k);rw[wD h.nf]at TR;have H:=af h.ws;obtain⟨s,a,n,cap⟩:=x;obtain rfl:n=l.length:=h.n;clear h;generalize l.length=n at*
 go_enter Tryz.func246,Tryz.ntmps246
 go_wp2_with (first|(go_at_call 321;with_reducible refine(TR.out _ ?_).mono ?_;(exact H.out.below (B:=w.heap.size) az (ai _));rintro e w' ⟨rfl,rfl⟩))
 go_ret
 exact⟨rfl,by exact bel⟩
set_option maxRecDepth 10000 in
set_option maxHeartbeats 2000000 in
theorem oP(x:IV)(l:List Nat)(hl:l.length<=3000000000000)(w:World)(h:IW w x l):
  Calls Tryz.prog 151 #[.agg #[.bool x.s,.slice x.a x.n x.cap]] w fun e w'=>(∃y,e= .returned (.agg #[.bool y.s,.slice y.a y.n y.cap])/\IZ w' y (Dg.iv x.s (Dg.vl B32 l)))/\Below w.heap.size w w':=by
 have SZ:=af (fun w (h:IW w x l)=>di x l hl w h);have H:=af h;have MA:=af (fun w h=>fJ x.s l x.a l.length hl (ai _) H.out.nf.dg w h);obtain⟨s,a,n,cap⟩:=x;clear h;generalize l.length=m at*
 go_enter Tryz.func151,Tryz.ntmps151
 go_wp2_with fail
 go_region_with (first|(go_at_call 246;with_reducible refine(SZ.out _ ?_).mono ?_;(exact H.out.below (B:=w.heap.size) az (ai _));rintro e w1 ⟨rfl,hb1⟩;obtain⟨g1,rfl⟩:=mob hb1;clear hb1)|(go_at_call 244;with_reducible refine(MA.out _ ?_).mono ?_;(exact H.out.ws.below (B:=w.heap.size) az (ai _));rintro e w2 ⟨⟨y,rfl,hy⟩,hb2⟩;have HY:=af hy;clear hy;obtain⟨g2,rfl⟩:=mob hb2;clear hb2))
 all_goals(go_wp2_with fail)
 all_goals(refine bodyPost_ret (v:=.agg #[.bool y.s,.slice y.a y.n y.cap]) (by simp[results,Tryz.results151,go_sem]) rfl ⟨⟨y,rfl,IZ.dt HY.out ?_⟩,?_⟩;(exact gh);(exact bel))
theorem Bz(w:World)(t:TypeId)(a b:Nat):WS (w.alloc (.cells #[.int .u32 (a:Int),.int .u32 (b:Int)] t)) (some ⟨w.heap.size,0,none⟩) [a,b]:=
 .inr ⟨w.heap.size,rfl,by simp,fun k x hk=>by
  rw[cell_of_row _ w.heap.size k _ t (0,0) (heap_alloc_new w _)]
  match k,hk with
  |0,hk=>cases hk;rfl
  |1,hk=>cases hk;rfl
  |k+2,hk=>cases hk⟩
set_option maxRecDepth 10000 in
set_option maxHeartbeats 2000000 in
theorem xh(n:Nat)(hn:n<18446744073709551616)(w:World):
  Calls Tryz.prog 247 #[.int .u64 ((n:Nat):Int)] w fun e w'=>jL w' e n/\Below w.heap.size w w':=by
 have hd:Dg.dig B32 [n%4294967296,n/4294967296]:=fun x hx=>by
  simp at hx;rcases hx with rfl|rfl
  ·exact dQ _ aa
  ·show n/4294967296<4294967296;omega
 obtain⟨h1,h2⟩:=mC hd;have h3:Dg.vl B32 [n%4294967296,n/4294967296]=n:=by
  simp only[Dg.vl,B32];omega
 have h4:tl [n%4294967296,n/4294967296]=([n%4294967296,n/4294967296].take (tl [n%4294967296,n/4294967296])).length:=by
  have:=fD [n%4294967296,n/4294967296];rw[bf];omega
 have TR:Hid (∀w,WS w (some ⟨w.heap.size-1,0,none⟩) [n%4294967296,n/4294967296]->Calls Tryz.prog 321 #[.slice (some ⟨w.heap.size-1,0,none⟩) 2 2] w fun e w'=>e= .returned (.slice (some ⟨w.heap.size-1,0,none⟩) (tl [n%4294967296,n/4294967296]) (tl [n%4294967296,n/4294967296]))/\w'=w):=
  fun w h=>cO [n%4294967296,n/4294967296] _ 2 aO aO w h
 have WT:Hid (∀t,WS (w.alloc (.cells #[.int .u32 ((n:Int)%4294967296),.int .u32 ((n:Int)/4294967296)] t)) (some ⟨w.heap.size,0,none⟩) [n%4294967296,n/4294967296]):=fun t=>by
  have:=Bz w t (n%4294967296) (n/4294967296);simpa using this
 have TR2:=TR.out (w.alloc (.cells #[.int .u32 ((n:Int)%4294967296),.int .u32 ((n:Int)/4294967296)] 280));simp only[World.size_alloc,mz]at TR2;have TR3:=af (TR2 (WT.out _));have WT2:=af (WT.out 280);have R:=af (And.intro h1 (And.intro (h2.trans h3) h4));clear TR TR2 WT h1 h2 h3 h4 hd
 go_enter Tryz.func247,Tryz.ntmps247
 go_wp2_with (first|(go_at_call 321;with_reducible refine(TR3.out).mono ?_;rintro e w' ⟨rfl,rfl⟩))
 go_ret
 obtain⟨r1,r2,r3⟩:=R.out;refine⟨⟨_,_,?_,WT2.out.take _,r1,r2⟩,by exact bel⟩;rw[<-r3];rfl
end
section
open Go.RowKit Go.BigFrame
attribute [local go_sem ↓] Go.wp_at_zero Go.wp_at_succ
def du(a b:Nat):Int:=if a<b then-1 else if b<a then 1 else 0
set_option maxRecDepth 10000 in
set_option maxHeartbeats 4000000 in
theorem fB(l m:List Nat)(a b:Option Addr)(cl cm:Nat)(hl:Dg.NF B32 l)(hm:Dg.NF B32 m)(bl:l.length<=3000000000000)(w:World)(h1:WS w a l)(h2:WS w b m):
  Calls Tryz.prog 319 #[.slice a l.length cl,.slice b m.length cm] w fun e w'=>e= .returned (.int .i64 (du (Dg.vl B32 l) (Dg.vl B32 m)))/\Below w.heap.size w w':=by
 by_cases hlen:l.length=m.length
 ·obtain⟨n,hn⟩:∃n,n=l.length:=⟨_,rfl⟩;have HN:=af hn;have HM:=af (hn.trans hlen);have H1:=af h1;have H2:=af h2;have HL:=af hl;have HMN:=af hm;rw[<-hlen,<-hn];rw[<-hn]at bl;clear hn hlen h1 h2 hl hm
  go_enter Tryz.func319,Tryz.ntmps319
  go_wp2_with fail
  go_loopw [5] (fun i wr=>∃k:Nat,k<=n/\i= .int .i64 ((k:Int)-1)/\Hid (l.drop k=m.drop k)/\Ext w wr) (fun i _=>((intOf i)+1).toNat)
  case atStart=>exact⟨n,ai _,rfl,(by rw[gM (by rw[HN.out];omega),gM (by rw[HM.out];omega)]:l.drop n=m.drop n),Ext.refl _⟩
  case round=>
   obtain⟨k,hk,rfl,HD,hext⟩:=hrel;obtain⟨gx,rfl⟩:=mob (Ext.below hext);clear hext;by_cases hk0:k=0
   ·subst hk0;have he:l=m:=by simpa using HD.out
    have j0:¬(0:Int)<=(0:Int)-1:=by omega
    clear HD
    go_wp2_with fail
    go_ret
    refine⟨?_,by exact bel⟩;subst he;simp[du]
   ·obtain⟨j,hj⟩:∃j,k=j+1:=⟨k-1,by omega⟩;subst hj;obtain⟨x,hx⟩:∃x,l[j]?=some x:=⟨_,aP (by rw[<-HN.out];omega)⟩;obtain⟨y,hy⟩:∃y,m[j]?=some y:=⟨_,aP (by rw[<-HM.out];omega)⟩;have HX:=af hx;have HY:=af hy;have dx:l.getD j 0=x:=by rw[bg,hx];rfl
    have dy:m.getD j 0=y:=by rw[bg,hy];rfl
    have DX:=af dx;have DY:=af dy;rcases H1.out with h0|⟨g,ha,hg,hcc⟩
    ·rw[h0]at hx;cases hx
    rcases H2.out with h0|⟨g',hb,hg',hcc'⟩
    ·rw[h0]at hy;cases hy
    subst ha hb;have c0:=hcc j x hx;have c1:=hcc' j y hy;have j0:(0:Int)<=(j:Int):=by omega
    have j1:(j:Int)+1-1=(j:Int):=by omega
    have j2:(j:Int)<(n:Int):=by omega
    have jl:j<l.length:=by rw[<-HN.out];omega
    have jm:j<m.length:=by rw[<-HM.out];omega
    have JL:=af jl;have JM:=af jm;clear hcc hcc' hx hy dx dy hk jl jm;rcases iY x y with hxy|hxy|hxy
    ·have hne:¬(x:Int)=(y:Int):=by omega
     have hlt:(x:Int)<(y:Int):=by omega
     have hne2:((x:Int) !=(y:Int))=true:=by simpa using hne
     go_wp2_with fail
     (refine wp_region_quiet (C:=Ext _) aD aD (Ext.start _) ?_;simp only[];(repeat(first|go_big_quiet_skip|(go_big_quiet_want;go_big_quiet_op;first|go_big_quiet_on|(apply Exists.intro;refine⟨fun w' hw'=>?_,?_⟩;(focus(first|with_reducible exact rfl|(go_at_call 319;fail)|(obtain⟨gx,rfl⟩:=mob (Ext.below hw');go_simp;exact rfl)));go_big_quiet_on))));refine wpQuiet_nil ?_;intro w8 hw8;have hb8:=Ext.below hw8;clear hw8;obtain⟨g8,rfl⟩:=mob hb8;clear hb8)
     go_wp2_with fail
     (refine wp_region_quiet (C:=Ext _) aD aD (Ext.start _) ?_;simp only[];(repeat(first|go_big_quiet_skip|(go_big_quiet_want;go_big_quiet_op;first|go_big_quiet_on|(apply Exists.intro;refine⟨fun w' hw'=>?_,?_⟩;(focus(first|with_reducible exact rfl|(go_at_call 319;fail)|(obtain⟨gx,rfl⟩:=mob (Ext.below hw');go_simp;exact rfl)));go_big_quiet_on))));refine wpQuiet_nil ?_;intro w9 hw9;have hb9:=Ext.below hw9;clear hw9;obtain⟨g9,rfl⟩:=mob hb9;clear hb9)
     go_wp2_with fail
     go_ret
     refine⟨?_,by exact bel⟩;have:=Dg.lex_lt HL.out.dg JL.out (by rw[<-HN.out];exact HM.out) HD.out (by rw[DX.out,DY.out];exact hxy);simp[du,this]
    ·subst hxy;have hne:((x:Int) !=(x:Int))=false:=by simp
     go_wp2_with fail
     (refine wp_region_quiet (C:=Ext _) aD aD (Ext.start _) ?_;simp only[];(repeat(first|go_big_quiet_skip|(go_big_quiet_want;go_big_quiet_op;first|go_big_quiet_on|(apply Exists.intro;refine⟨fun w' hw'=>?_,?_⟩;(focus(first|with_reducible exact rfl|(go_at_call 319;fail)|(obtain⟨gx,rfl⟩:=mob (Ext.below hw');go_simp;exact rfl)));go_big_quiet_on))));refine wpQuiet_nil ?_;intro w8 hw8;have hb8:=Ext.below hw8;clear hw8;obtain⟨g8,rfl⟩:=mob hb8;clear hb8)
     go_wp2_with fail
     go_roundw
     case rel=>
      refine⟨j,by omega,by go_num,?_,gu az⟩;show l.drop j=m.drop j;rw[vb JL.out,vb JM.out,HD.out];have e1:=(cN.1 HX.out).2;have e2:=(cN.1 HY.out).2;rw[e1,e2]
     case measure=>simp[intOf]
    ·have hne:¬(x:Int)=(y:Int):=by omega
     have hlt:¬(x:Int)<(y:Int):=by omega
     have hne2:((x:Int) !=(y:Int))=true:=by simpa using hne
     go_wp2_with fail
     (refine wp_region_quiet (C:=Ext _) aD aD (Ext.start _) ?_;simp only[];(repeat(first|go_big_quiet_skip|(go_big_quiet_want;go_big_quiet_op;first|go_big_quiet_on|(apply Exists.intro;refine⟨fun w' hw'=>?_,?_⟩;(focus(first|with_reducible exact rfl|(go_at_call 319;fail)|(obtain⟨gx,rfl⟩:=mob (Ext.below hw');go_simp;exact rfl)));go_big_quiet_on))));refine wpQuiet_nil ?_;intro w8 hw8;have hb8:=Ext.below hw8;clear hw8;obtain⟨g8,rfl⟩:=mob hb8;clear hb8)
     go_wp2_with fail
     (refine wp_region_quiet (C:=Ext _) aD aD (Ext.start _) ?_;simp only[];(repeat(first|go_big_quiet_skip|(go_big_quiet_want;go_big_quiet_op;first|go_big_quiet_on|(apply Exists.intro;refine⟨fun w' hw'=>?_,?_⟩;(focus(first|with_reducible exact rfl|(go_at_call 319;fail)|(obtain⟨gx,rfl⟩:=mob (Ext.below hw');go_simp;exact rfl)));go_big_quiet_on))));refine wpQuiet_nil ?_;intro w9 hw9;have hb9:=Ext.below hw9;clear hw9;obtain⟨g9,rfl⟩:=mob hb9;clear hb9)
     go_wp2_with fail
     go_ret
     refine⟨?_,by exact bel⟩;have:=Dg.lex_lt HMN.out.dg JM.out (by rw[<-HM.out];exact HN.out) HD.out.symm (by rw[DX.out,DY.out];exact hxy);have h2:¬Dg.vl B32 l<Dg.vl B32 m:=by omega
     simp[du,this,h2]
 ·by_cases hlt:l.length<m.length
  ·have hv:=Dg.fN aA hl hm hlt;have hlt2:(l.length:Int)<(m.length:Int):=by omega
   have hne2:((l.length:Int) !=(m.length:Int))=true:=by simp;omega
   have HV:=af hv;clear hl hm h1 h2 hlen hv hlt;generalize l.length=p at*;generalize m.length=q at*
   go_enter Tryz.func319,Tryz.ntmps319
   go_wp2_with fail
   go_ret
   refine⟨?_,by exact bel⟩;simp[du,HV.out]
  ·have hv:=Dg.fN aA hm hl aa;have hlt2:¬(l.length:Int)<(m.length:Int):=by omega
   have hne2:((l.length:Int) !=(m.length:Int))=true:=by simp;omega
   have HV:=af hv;clear hl hm h1 h2 hlen hv hlt;generalize l.length=p at*;generalize m.length=q at*
   go_enter Tryz.func319,Tryz.ntmps319
   go_wp2_with fail
   go_ret
   refine⟨?_,by exact bel⟩;have h2:¬Dg.vl B32 l<Dg.vl B32 m:=by have:=HV.out;omega
   simp[du,HV.out,h2]
end
section
open Go.RowKit Go.BigFrame
attribute [local go_sem ↓] Go.wp_at_zero Go.wp_at_succ
theorem fY{w:World}{g:Nat}{o:List Nat}{N:Nat}(h:aQ w g o)(hd:Dg.dig B32 o)(hv:Dg.vl B32 o=N):jL w (.returned (.slice (some ⟨g,0,none⟩) (tl o) (tl o))) N:=by
 obtain⟨h1,h2⟩:=mC hd;have h3:(o.take (tl o)).length=tl o:=by rw[bf];have:=fD o;omega
 exact⟨_,o.take (tl o),by rw[h3],h.ws.take _,h1,h2.trans hv⟩
set_option maxRecDepth 10000 in
set_option maxHeartbeats 4000000 in
theorem nB(l m:List Nat)(a b:Option Addr)(cl cm:Nat)(hl:Dg.dig B32 l)(hm:Dg.dig B32 m)(bl:l.length<=2000000000000)(bm:m.length<=2000000000000)(w:World)(h1:WS w a l)(h2:WS w b m):
  Calls Tryz.prog 318 #[.slice a l.length cl,.slice b m.length cm] w fun e w'=>jL w' e (Dg.vl B32 l+Dg.vl B32 m)/\Below w.heap.size w w':=by
 obtain⟨N,hN⟩:∃N,N=max l.length m.length+1:=⟨_,rfl⟩;have hNl:l.length<N:=by omega
 have hNm:m.length<N:=by omega
 have hNb:N<=2000000000001:=by omega
 have AL:=af (fun (i:Nat) (hi:i<=4000000000000) w h=>mf l a cl i aa aa hl w h);have AM:=af (fun (i:Nat) (hi:i<=4000000000000) w h=>mf m b cm i aa aa hm w h);have TR:=af (fun (o:List Nat) (g:Nat) (ho:o.length=N) w h=>cO o (some ⟨g,0,none⟩) N aa aa w h);have H1:=af h1;have H2:=af h2;have HL:=af hl;have HM:=af hm;have NL:=af (And.intro hNl hNm);have hmk:=run_make_row' (P:=Tryz.prog) 260 280 (.int .u32 0) 4 Tryz.underlying260 gD rfl .i64 .i64 N aa aa;clear h1 h2 hl hm;have HNM:=af hN;clear hN hNl hNm;generalize hp:l.length=p at*;generalize hq:m.length=q at*;have HP:=af hp;have HQ:=af hq;clear hp hq;rcases Nat.lt_or_ge p q with hpq|hpq
 ·have k1:(p:Int)<(q:Int):=by omega
  have k2:(p:Int)<=(q:Int):=by omega
  have k3:¬(q:Int)<=(p:Int):=by omega
  have k4:(q:Int)+1=(N:Int):=by have:=HNM.out;omega
  go_enter Tryz.func318,Tryz.ntmps318
  go_wp2_with fail
  go_loopw [6,18] (fun c i wr=>∃(k e:Nat) (o:List Nat),k<=N/\i= .int .i64 ((k:Int))/\c= .int .u64 ((e:Nat):Int)/\e<=1/\o.length=N/\Below w.heap.size w wr/\Hid (Dg.dig B32 o/\aQ wr w.heap.size o/\Dg.vl B32 (o.take k)+e*B32^k=Dg.vl B32 (l.take k)+Dg.vl B32 (m.take k))) (fun _ i _=>N-(intOf i).toNat)
  case atStart=>exact⟨0,0,List.replicate N 0,by omega,rfl,rfl,by omega,by simp,by exact bel,Dg.eW aA _,aQ.made w N,by simp[Dg.vl]⟩
  case round=>
   obtain⟨k,e,o,hk,rfl,rfl,he,ho,hB,HR⟩:=hrel;by_cases hkn:k<N
   ·have hkn2:(k:Int)<(N:Int):=by omega
    obtain⟨hd,hr,hv⟩:=HR.out;have c0:=hr.cell (k:=k) aa;have f0:=hr.frozen k;have g0:=hr.lt;have bx:=Dg.aV HL.out aA k;have by':=Dg.aV HM.out aA k
    have A1:=af (fun w h=>AL.out k aa w h);have A2:=af (fun w h=>AM.out k aa w h);have ST:=af (Dg.lG (B:=B32) (i:=k) (o:=o) aa hv);have HO:=af (And.intro hd hr);clear hd hr hv HR;generalize l.getD k 0=x at*;generalize m.getD k 0=y at*;have bx2:(x:Int)<4294967296:=by have:x<4294967296:=bx;omega
    have by2:(y:Int)<4294967296:=by have:y<4294967296:=by';omega
    have he2:(e:Int)<=1:=by omega
    clear bx by'
    go_wp2_with (first|(go_at_call 323;(first|(with_reducible refine(A1.out _ ?_).mono ?_;(exact H1.out.below (B:=w.heap.size) az (ai _)))|(with_reducible refine(A2.out _ ?_).mono ?_;(exact H2.out.below (B:=w.heap.size) az (ai _))));rintro e w' ⟨rfl,rfl⟩))
    go_roundw
    case rel=>
     have e1:((x:Int)+(y:Int)+(e:Int))%4294967296=(((x+y+e)%B32:Nat):Int):=by simp[B32]
     have e2:((x:Int)+(y:Int)+(e:Int))/4294967296=(((x+y+e)/B32:Nat):Int):=by simp[B32]
     refine⟨k+1,(x+y+e)/B32,o.set k ((x+y+e)%B32),by omega,by go_num,by rw[e2],?_,by rw[fb];exact ho,by exact bel,Dg.dw HO.out.1 (dQ _ aA),?_,ST.out⟩
     ·have:(x+y+e)/4294967296<=1:=by omega
      exact this
     ·rw[e1];exact HO.out.2.set aa _
    case measure=>simp[intOf];omega
   ·obtain rfl:k=N:=by omega
    have hkn2:¬(k:Int)<(k:Int):=by omega
    obtain⟨hd,hr,hv⟩:=HR.out;have T:=af (TR.out o w.heap.size ho _ hr.ws);have hbig:=Dg.aY HL.out;have hbig2:=Dg.aY HM.out;have e0:e=0:=by
     rw[Dg.aI rj,Dg.aI pE,Dg.aI pD]at hv;obtain⟨j,rfl⟩:∃j,k=j+1:=⟨k-1,by have:=NL.out;omega⟩;have p1:B32^l.length<=B32^j:=cv aA pE;have p2:B32^m.length<=B32^j:=cv aA pD;apply nY;intro h0;have h3:1*B32^(j+1)<=e*B32^(j+1):=cE _ h0;have h4:B32^(j+1)=4294967296*B32^j:=by rw[bT,aK]
     omega
    have V:=af (show Dg.vl B32 o=Dg.vl B32 l+Dg.vl B32 m by
     rw[e0,Dg.aI rj,Dg.aI pE,Dg.aI pD]at hv;omega)
    have HO:=af (And.intro hd hr);rw[ho]at T;clear hd hr hv HR hbig hbig2 e0
    go_wp2_with (first|(go_at_call 321;with_reducible refine(T.out).mono ?_;rintro e w' ⟨rfl,rfl⟩))
    go_ret
    exact⟨fY HO.out.2 HO.out.1 V.out,by exact bel⟩
 ·have k1:¬(p:Int)<(q:Int):=by omega
  have k3:(q:Int)<=(p:Int):=by omega
  have k4:(p:Int)+1=(N:Int):=by have:=HNM.out;omega
  go_enter Tryz.func318,Tryz.ntmps318
  go_wp2_with fail
  go_loopw [6,18] (fun c i wr=>∃(k e:Nat) (o:List Nat),k<=N/\i= .int .i64 ((k:Int))/\c= .int .u64 ((e:Nat):Int)/\e<=1/\o.length=N/\Below w.heap.size w wr/\Hid (Dg.dig B32 o/\aQ wr w.heap.size o/\Dg.vl B32 (o.take k)+e*B32^k=Dg.vl B32 (l.take k)+Dg.vl B32 (m.take k))) (fun _ i _=>N-(intOf i).toNat)
  case atStart=>exact⟨0,0,List.replicate N 0,by omega,rfl,rfl,by omega,by simp,by exact bel,Dg.eW aA _,aQ.made w N,by simp[Dg.vl]⟩
  case round=>
   obtain⟨k,e,o,hk,rfl,rfl,he,ho,hB,HR⟩:=hrel;by_cases hkn:k<N
   ·have hkn2:(k:Int)<(N:Int):=by omega
    obtain⟨hd,hr,hv⟩:=HR.out;have c0:=hr.cell (k:=k) aa;have f0:=hr.frozen k;have g0:=hr.lt;have bx:=Dg.aV HL.out aA k;have by':=Dg.aV HM.out aA k
    have A1:=af (fun w h=>AL.out k aa w h);have A2:=af (fun w h=>AM.out k aa w h);have ST:=af (Dg.lG (B:=B32) (i:=k) (o:=o) aa hv);have HO:=af (And.intro hd hr);clear hd hr hv HR;generalize l.getD k 0=x at*;generalize m.getD k 0=y at*;have bx2:(x:Int)<4294967296:=by have:x<4294967296:=bx;omega
    have by2:(y:Int)<4294967296:=by have:y<4294967296:=by';omega
    have he2:(e:Int)<=1:=by omega
    clear bx by'
    go_wp2_with (first|(go_at_call 323;(first|(with_reducible refine(A1.out _ ?_).mono ?_;(exact H1.out.below (B:=w.heap.size) az (ai _)))|(with_reducible refine(A2.out _ ?_).mono ?_;(exact H2.out.below (B:=w.heap.size) az (ai _))));rintro e w' ⟨rfl,rfl⟩))
    go_roundw
    case rel=>
     have e1:((x:Int)+(y:Int)+(e:Int))%4294967296=(((x+y+e)%B32:Nat):Int):=by simp[B32]
     have e2:((x:Int)+(y:Int)+(e:Int))/4294967296=(((x+y+e)/B32:Nat):Int):=by simp[B32]
     refine⟨k+1,(x+y+e)/B32,o.set k ((x+y+e)%B32),by omega,by go_num,by rw[e2],?_,by rw[fb];exact ho,by exact bel,Dg.dw HO.out.1 (dQ _ aA),?_,ST.out⟩
     ·have:(x+y+e)/4294967296<=1:=by omega
      exact this
     ·rw[e1];exact HO.out.2.set aa _
    case measure=>simp[intOf];omega
   ·obtain rfl:k=N:=by omega
    have hkn2:¬(k:Int)<(k:Int):=by omega
    obtain⟨hd,hr,hv⟩:=HR.out;have T:=af (TR.out o w.heap.size ho _ hr.ws);have hbig:=Dg.aY HL.out;have hbig2:=Dg.aY HM.out;have e0:e=0:=by
     rw[Dg.aI rj,Dg.aI pE,Dg.aI pD]at hv;obtain⟨j,rfl⟩:∃j,k=j+1:=⟨k-1,by have:=NL.out;omega⟩;have p1:B32^l.length<=B32^j:=cv aA pE;have p2:B32^m.length<=B32^j:=cv aA pD;apply nY;intro h0;have h3:1*B32^(j+1)<=e*B32^(j+1):=cE _ h0;have h4:B32^(j+1)=4294967296*B32^j:=by rw[bT,aK]
     omega
    have V:=af (show Dg.vl B32 o=Dg.vl B32 l+Dg.vl B32 m by
     rw[e0,Dg.aI rj,Dg.aI pE,Dg.aI pD]at hv;omega)
    have HO:=af (And.intro hd hr);rw[ho]at T;clear hd hr hv HR hbig hbig2 e0
    go_wp2_with (first|(go_at_call 321;with_reducible refine(T.out).mono ?_;rintro e w' ⟨rfl,rfl⟩))
    go_ret
    exact⟨fY HO.out.2 HO.out.1 V.out,by exact bel⟩
end
section
open Go.RowKit Go.BigFrame
attribute [local go_sem ↓] Go.wp_at_zero Go.wp_at_succ
theorem cJ(n:Int):IntKind.u64.wrap n=n%18446744073709551616:=by simp[IntKind.wrap,IntKind.bits,IntKind.signed]
theorem vX(l:List Nat)(a:Option Addr)(cap i:Nat)(hl:l.length<=4000000000000000000)(hi:i<=4000000000000000000)(hd:Dg.dig B32 l)(w:World)(h:WS w a l):
  Calls Tryz.prog 323 #[.slice a l.length cap,.int .i64 ((i:Int))] w fun e w'=>e= .returned (.int .u64 ((l.getD i 0:Nat):Int))/\Below w.heap.size w w':=by
 refine(mf l a cap i hl hi hd w h).mono ?_;rintro e w' ⟨h1,rfl⟩;exact⟨h1,Below.refl _ _⟩
set_option maxRecDepth 10000 in
set_option maxHeartbeats 4000000 in
theorem lL(l m:List Nat)(a b:Option Addr)(cl cm:Nat)(hl:Dg.dig B32 l)(hm:Dg.dig B32 m)(bl:l.length<=2000000000000)(bm:m.length<=2000000000000)(hlm:m.length<=l.length)(hge:Dg.vl B32 m<=Dg.vl B32 l)(w:World)(h1:WS w a l)(h2:WS w b m):
  Calls Tryz.prog 320 #[.slice a l.length cl,.slice b m.length cm] w fun e w'=>jL w' e (Dg.vl B32 l-Dg.vl B32 m)/\Below w.heap.size w w':=by
 have AM:=af (fun (i:Nat) (hi:i<=4000000000000) w h=>vX m b cm i aa aa hm w h);have H1:=af h1;have H2:=af h2;have HL:=af hl;have HM:=af hm;have HGE:=af hge;have HLM:=af hlm;have hmk:=run_make_row' (P:=Tryz.prog) 260 280 (.int .u32 0) 4 Tryz.underlying260 gD rfl .i64 .i64 l.length aa aa;have TR:=af (fun (o:List Nat) (g:Nat) (ho:o.length=l.length) w h=>cO o (some ⟨g,0,none⟩) l.length aa aa w h);clear h1 h2 hl hm hge hlm;generalize hp:l.length=p at*;generalize hq:m.length=q at*;have HP:=af hp;have HQ:=af hq;clear hp hq
 go_enter Tryz.func320,Tryz.ntmps320
 go_wp2_with fail
 go_loopw [6,14] (fun c i wr=>∃(k e:Nat) (o:List Nat),k<=p/\i= .int .i64 ((k:Int))/\c= .int .u64 ((e:Nat):Int)/\e<=1/\o.length=p/\Below w.heap.size w wr/\Hid (Dg.dig B32 o/\aQ wr w.heap.size o/\Dg.vl B32 (o.take k)+Dg.vl B32 (m.take k)=Dg.vl B32 (l.take k)+e*B32^k)) (fun _ i _=>p-(intOf i).toNat)
 case atStart=>exact⟨0,0,List.replicate p 0,by omega,rfl,rfl,by omega,by simp,by exact bel,Dg.eW aA _,aQ.made w p,by simp[Dg.vl]⟩
 case round=>
  obtain⟨k,e,o,hk,rfl,rfl,he,ho,hB,HR⟩:=hrel;by_cases hkn:k<p
  ·have hkn2:(k:Int)<(p:Int):=by omega
   obtain⟨hd,hr,hv⟩:=HR.out;have c0:=hr.cell (k:=k) aa;have f0:=hr.frozen k;have g0:=hr.lt;obtain⟨x,hx⟩:∃x,l[k]?=some x:=⟨l[k]'pC,aP _⟩;have dx:l.getD k 0=x:=by rw[bg,hx];rfl
   have bx:x<B32:=HL.out x (eN hx);have by':=Dg.aV HM.out aA k
   have H1w:=H1.out.below hB (ai _);rcases H1w with h0|⟨g,ha,hg,hcc⟩
   ·rw[h0]at hx;cases hx
   have cx:=hcc k x hx;have A2:=af (fun w' (h:Ext wr w')=>AM.out k aa w' ((H2.out.below hB (ai _)).below (Ext.below h) (ai _)));have S1:=af (fun hc=>Dg.yI (B:=B32) (a:=l) (b:=m) (i:=k) (o:=o) aa hv hc);have S2:=af (fun hb=>Dg.yJ (B:=B32) (a:=l) (b:=m) (i:=k) (o:=o) aa hv hb);rw[dx]at S1 S2;have HO:=af (And.intro hd hr);subst ha;clear hd hr hv HR hcc hx dx;generalize m.getD k 0=y at*;have bx2:(x:Int)<4294967296:=by have:x<4294967296:=bx;omega
   have by2:(y:Int)<4294967296:=by have:y<4294967296:=by';omega
   have he2:(e:Int)<=1:=by omega
   have bxy:x<4294967296/\y<4294967296:=⟨bx,by'⟩;have BXY:=af bxy;clear bx by' bxy
   by_cases hc:y+e<=x
   ·have h1:(y:Int)+(e:Int)<=(x:Int):=by omega
    have w1:IntKind.u64.wrap ((x:Int)-(y:Int))=(x:Int)-(y:Int):=by rw[cJ];omega
    have w2:IntKind.u64.wrap ((x:Int)-(y:Int)-(e:Int))=(x:Int)-(y:Int)-(e:Int):=by rw[cJ];omega
    go_wp2_with fail
    (refine wp_region_quiet (C:=Ext _) aD aD (Ext.start _) ?_;simp only[];(repeat(first|go_big_quiet_skip|(go_big_quiet_want;go_big_quiet_op;first|go_big_quiet_on|(apply Exists.intro;refine⟨fun w' hw'=>?_,?_⟩;(focus(first|with_reducible exact rfl|(go_at_call 323;(with_reducible exact Ext.call hw' (A2.out _ hw')))|(obtain⟨gx,rfl⟩:=mob (Ext.below hw');go_simp;exact rfl)));go_big_quiet_on))));refine wpQuiet_nil ?_;intro w6 hw6;have hb6:=Ext.below hw6;clear hw6;obtain⟨g6,rfl⟩:=mob hb6;clear hb6)
    go_wp2_with fail
    go_roundw
    case rel=>
     have e1:(x:Int)-(y:Int)-(e:Int)=((x-y-e:Nat):Int):=by have:=BXY.out;(try simp only[B32]);omega
     have e2:((x:Int)-(y:Int)-(e:Int))/9223372036854775808=((0:Nat):Int):=by omega
     have hlt:x-y-e<B32:=by have:=BXY.out;simp only[B32];omega
     have e3:k<o.length:=by omega
     refine⟨k+1,0,o.set k (x-y-e),by omega,by go_num,by rw[e2],by omega,by rw[fb];exact ho,by exact bel,Dg.dw HO.out.1 hlt,?_,S1.out hc⟩;rw[e1];exact(HO.out.2.set e3 _).mor _
    case measure=>simp[intOf];omega
   ·by_cases hxy:y<=x
    ·have w1:IntKind.u64.wrap ((x:Int)-(y:Int))=(x:Int)-(y:Int):=by rw[cJ];omega
     have w2:IntKind.u64.wrap ((x:Int)-(y:Int)-(e:Int))=(x:Int)-(y:Int)-(e:Int)+18446744073709551616:=by rw[cJ];omega
     go_wp2_with fail
     (refine wp_region_quiet (C:=Ext _) aD aD (Ext.start _) ?_;simp only[];(repeat(first|go_big_quiet_skip|(go_big_quiet_want;go_big_quiet_op;first|go_big_quiet_on|(apply Exists.intro;refine⟨fun w' hw'=>?_,?_⟩;(focus(first|with_reducible exact rfl|(go_at_call 323;(with_reducible exact Ext.call hw' (A2.out _ hw')))|(obtain⟨gx,rfl⟩:=mob (Ext.below hw');go_simp;exact rfl)));go_big_quiet_on))));refine wpQuiet_nil ?_;intro w6 hw6;have hb6:=Ext.below hw6;clear hw6;obtain⟨g6,rfl⟩:=mob hb6;clear hb6)
     go_wp2_with fail
     go_roundw
     case rel=>
      have e1:((x:Int)-(y:Int)-(e:Int)+18446744073709551616)%4294967296=((x+B32-y-e:Nat):Int):=by have:=BXY.out;(try simp only[B32]);omega
      have e2:((x:Int)-(y:Int)-(e:Int)+18446744073709551616)/9223372036854775808=((1:Nat):Int):=by omega
      have hlt:x+B32-y-e<B32:=by have:=BXY.out;simp only[B32];omega
      have e3:k<o.length:=by omega
      refine⟨k+1,1,o.set k (x+B32-y-e),by omega,by go_num,by rw[e2],by omega,by rw[fb];exact ho,by exact bel,Dg.dw HO.out.1 hlt,?_,S2.out (by simp only[B32];omega)⟩;rw[e1];exact(HO.out.2.set e3 _).mor _
     case measure=>simp[intOf];omega
    ·have w1:IntKind.u64.wrap ((x:Int)-(y:Int))=(x:Int)-(y:Int)+18446744073709551616:=by rw[cJ];omega
     have w2:IntKind.u64.wrap ((x:Int)-(y:Int)+18446744073709551616-(e:Int))=(x:Int)-(y:Int)+18446744073709551616-(e:Int):=by rw[cJ];omega
     go_wp2_with fail
     (refine wp_region_quiet (C:=Ext _) aD aD (Ext.start _) ?_;simp only[];(repeat(first|go_big_quiet_skip|(go_big_quiet_want;go_big_quiet_op;first|go_big_quiet_on|(apply Exists.intro;refine⟨fun w' hw'=>?_,?_⟩;(focus(first|with_reducible exact rfl|(go_at_call 323;(with_reducible exact Ext.call hw' (A2.out _ hw')))|(obtain⟨gx,rfl⟩:=mob (Ext.below hw');go_simp;exact rfl)));go_big_quiet_on))));refine wpQuiet_nil ?_;intro w6 hw6;have hb6:=Ext.below hw6;clear hw6;obtain⟨g6,rfl⟩:=mob hb6;clear hb6)
     go_wp2_with fail
     go_roundw
     case rel=>
      have e1:((x:Int)-(y:Int)+18446744073709551616-(e:Int))%4294967296=((x+B32-y-e:Nat):Int):=by have:=BXY.out;(try simp only[B32]);omega
      have e2:((x:Int)-(y:Int)+18446744073709551616-(e:Int))/9223372036854775808=((1:Nat):Int):=by omega
      have hlt:x+B32-y-e<B32:=by have:=BXY.out;simp only[B32];omega
      have e3:k<o.length:=by omega
      refine⟨k+1,1,o.set k (x+B32-y-e),by omega,by go_num,by rw[e2],by omega,by rw[fb];exact ho,by exact bel,Dg.dw HO.out.1 hlt,?_,S2.out (by have:=BXY.out;simp only[B32];omega)⟩;rw[e1];exact(HO.out.2.set e3 _).mor _
     case measure=>simp[intOf];omega
  ·obtain rfl:k=p:=by omega
   have hkn2:¬(k:Int)<(k:Int):=by omega
   obtain⟨hd,hr,hv⟩:=HR.out;have T:=af (TR.out o w.heap.size ho _ hr.ws);have hol:=Dg.aY hd;rw[Dg.aI rj,Dg.aI (by rw[HQ.out];exact HLM.out),Dg.aI (by rw[HP.out];exact ai _)]at hv;have e0:e=0:=by
    apply nY;intro h0;have h3:1*B32^k<=e*B32^k:=cE _ h0;have:=HGE.out;rw[ho]at hol;omega
   have V:=af (show Dg.vl B32 o=Dg.vl B32 l-Dg.vl B32 m by
    rw[e0]at hv;have:=HGE.out;omega)
   have HO:=af (And.intro hd hr);rw[ho]at T;clear hd hr hv HR hol e0
   go_wp2_with (first|(go_at_call 321;with_reducible refine(T.out).mono ?_;rintro e w' ⟨rfl,rfl⟩))
   go_ret
   exact⟨fY HO.out.2 HO.out.1 V.out,by exact bel⟩
end
section
open Go.RowKit Go.BigFrame
attribute [local go_sem ↓] Go.wp_at_zero Go.wp_at_succ
theorem iL{x y:Nat}(hx:x<4294967296)(hy:y<4294967296):x*y<=18446744065119617025:=
 bF (Nat.le_of_lt_succ (show x<4294967295+1 from hx)) (Nat.le_of_lt_succ (show y<4294967295+1 from hy))
theorem ka{l:List Nat}{j k d:Nat}(h:j≠k):(l.set j d).getD k 0=l.getD k 0:=by
 rw[bg,bg,List.getElem?_set_ne h]
structure TO(l m:List Nat)(N i:Nat)(o:List Nat):Prop where
 len:o.length=N
 dg:Dg.dig B32 o
 val:Dg.vl B32 o=Dg.vl B32 (l.take i)*Dg.vl B32 m
 hi:∀j,i+m.length<=j->o.getD j 0=0
structure TI(m:List Nat)(N i x T k c:Nat)(o:List Nat):Prop where
 len:o.length=N
 dg:Dg.dig B32 o
 cb:c<4294967296
 val:Dg.vl B32 o+c*B32^(i+k)=T+x*Dg.vl B32 (m.take k)*B32^i
 hi:∀j,i+m.length<=j->o.getD j 0=0
theorem TO.inner{l m:List Nat}{N i:Nat}{o:List Nat}(h:TO l m N i o)(x:Nat):TI m N i x (Dg.vl B32 o) 0 0 o:=
 ⟨h.len,h.dg,by omega,by simp[Dg.vl],h.hi⟩
theorem TI.step{m:List Nat}{N i x T k c:Nat}{o:List Nat}(h:TI m N i x T k c o)(hx:x<4294967296)(hm:Dg.dig B32 m)(hk:k<m.length)(hN:i+k<N):
  TI m N i x T (k+1) ((x*m.getD k 0+o.getD (i+k) 0+c)/4294967296) (o.set (i+k) ((x*m.getD k 0+o.getD (i+k) 0+c)%4294967296)):=by
 have hy:m.getD k 0<4294967296:=Dg.aV hm aA k;have ho:o.getD (i+k) 0<4294967296:=Dg.aV h.dg aA (i+k);have hxy:=iL hx hy;have hc:=h.cb;refine⟨by rw[fb];exact h.len,Dg.dw h.dg (dQ _ aA),by omega,Dg.vm (by rw[h.len];exact hN) h.val,fun j hj=>?_⟩;rw[ka aa];exact h.hi j hj
theorem TI.done{l m:List Nat}{N i x c:Nat}{o o0:List Nat}(h:TI m N i x (Dg.vl B32 o0) m.length c o)(h0:TO l m N i o0)(hx:l.getD i 0=x)(hN:i+m.length<N):TO l m N (i+1) (o.set (i+m.length) c):=by
 refine⟨by rw[fb];exact h.len,Dg.dw h.dg h.cb,?_,fun j hj=>?_⟩
 ·have e:=Dg.rM (b:=B32) c (show i+m.length<o.length by rw[h.len];exact hN);rw[h.hi _ (ai _),jb,bS]at e;have v:=h.val;rw[il]at v;rw[e,v,h0.val,Dg.cg,hx,aU];simp only[br,aK,iZ]
 ·rw[ka aa];exact h.hi j aa
set_option maxRecDepth 10000 in
set_option maxHeartbeats 4000000 in
theorem qm(l m:List Nat)(a b:Option Addr)(cl cm:Nat)(hl:Dg.dig B32 l)(hm:Dg.dig B32 m)(bl:l.length<=1000000000000)(bm:m.length<=1000000000000)(w:World)(h1:WS w a l)(h2:WS w b m):
  Calls Tryz.prog 245 #[.slice a l.length cl,.slice b m.length cm] w fun e w'=>jL w' e (Dg.vl B32 l*Dg.vl B32 m)/\Below w.heap.size w w':=by
 have H1:=af h1;have H2:=af h2;have HL:=af hl;have HM:=af hm;obtain⟨N,hN⟩:∃N,N=l.length+m.length:=⟨_,rfl⟩;have hmk0:=run_make_row' (P:=Tryz.prog) 260 280 (.int .u32 0) 4 Tryz.underlying260 gD rfl .i64 .i64 N aa aa;have TR:=af (fun (o:List Nat) (g:Nat) (ho:o.length=N) w h=>cO o (some ⟨g,0,none⟩) N aa aa w h);have hmk:∀w:World,(Instr.makeSlice 260 (.int .i64 ((l.length:Int)+(m.length:Int))) (.int .i64 ((l.length:Int)+(m.length:Int)))).run Tryz.prog w= .ok (.slice (some ⟨w.heap.size,0,none⟩) N N) (w.alloc (.cells (madeCells #[.int .u32 0] N) 280)):=fun w=>by
  have:=hmk0 w;rw[show(N:Int)=(l.length:Int)+(m.length:Int) by omega]at this;exact this
 have HNN:=af hN;clear h1 h2 hl hm hmk0 hN;generalize hp:l.length=p at*;generalize hq:m.length=q at*;have HP:=af hp;have HQ:=af hq;clear hp hq
 go_enter Tryz.func245,Tryz.ntmps245
 go_wp2_with fail
 go_loopw [19] (fun i wr=>∃(k:Nat) (o:List Nat),k<=p/\i= .int .i64 ((k:Int))/\Below w.heap.size w wr/\Hid (TO l m N k o/\aQ wr w.heap.size o)) (fun i _=>p-(intOf i).toNat)
 case atStart=>
  refine⟨0,List.replicate N 0,by omega,rfl,by exact bel,⟨by simp,Dg.eW aA _,?_,fun j _=>?_⟩,aQ.made w N⟩
  ·rw[Dg.nu];simp[Dg.vl]
  ·rw[bg,nZ];split<;>rfl
 case round=>
  obtain⟨i,o,hi,rfl,hB,HR⟩:=hrel;by_cases hip:i<p
  ·have hip2:(i:Int)<(p:Int):=by omega
   obtain⟨x,hx⟩:∃x,l[i]?=some x:=⟨l[i]'pC,aP _⟩;have dx:l.getD i 0=x:=by rw[bg,hx];rfl
   have bx:x<4294967296:=HL.out x (eN hx);rcases H1.out.below hB (ai _)with h0|⟨g,ha,hg,hcc⟩
   ·rw[h0]at hx;cases hx
   have cx:=hcc i x hx;have DX:=af dx;subst ha;clear hcc hx dx
   go_wp2_with fail
   go_loopw [8,26] (fun c k wr=>∃(j e:Nat) (o':List Nat),j<=q/\k= .int .i64 ((j:Int))/\c= .int .u64 ((e:Nat):Int)/\Below w.heap.size w wr/\Hid (TI m N i x (Dg.vl B32 o) j e o'/\aQ wr w.heap.size o')) (fun _ k _=>q-(intOf k).toNat)
   case atStart=>exact⟨0,0,o,by omega,rfl,rfl,hB,HR.out.1.inner x,HR.out.2⟩
   case round=>
    obtain⟨j,e,o',hj,rfl,rfl,hB',HI⟩:=hrel;by_cases hjq:j<q
    ·have hjq2:(j:Int)<(q:Int):=by omega
     obtain⟨ti,hr⟩:=HI.out;have hijN:i+j<N:=by have:=HNN.out;omega
     have hol:=ti.len;have c0:=hr.cell (k:=i+j) aa;have f0:=hr.frozen (i+j);have g0:=hr.lt;obtain⟨y,hy⟩:∃y,m[j]?=some y:=⟨m[j]'(by rw[HQ.out];omega),aP _⟩;have dy:m.getD j 0=y:=by rw[bg,hy];rfl
     have byy:y<4294967296:=HM.out y (eN hy);have bo:o'.getD (i+j) 0<4294967296:=Dg.aV ti.dg aA _;have be:=ti.cb;rcases H2.out.below hB' (ai _)with h0|⟨g',hb',hg',hcc⟩
     ·rw[h0]at hy;cases hy
     have cy:=hcc j y hy;have ST:=ti.step bx HM.out (by rw[HQ.out];exact hjq) hijN;rw[dy]at ST;have STH:=af ST;have HO:=af (And.intro hol hr);have mw:=iL bx byy;subst hb';clear hcc hy dy ti hr ST HI;generalize o'.getD (i+j) 0=z at*;obtain⟨u,hu⟩:∃u,u=x*y:=⟨_,rfl⟩;have hu2:(x:Int)*(y:Int)=(u:Int):=by rw[hu];simp
     rw[<-hu]at mw STH;have UB:(u:Int)<=18446744065119617025:=by omega
     have zb:(z:Int)<4294967296:=by omega
     have eb:(e:Int)<4294967296:=by omega
     have xb:(x:Int)<4294967296:=by omega
     have yb:(y:Int)<4294967296:=by omega
     have ijN:(i:Int)+(j:Int)<(N:Int):=by omega
     have BB:=af (And.intro mw (And.intro bo be));clear hu mw bo be byy
     go_wp2_with fail
     (refine wp_region_quiet (C:=Ext _) aD aD (Ext.start _) ?_;simp only[];(repeat(first|go_big_quiet_skip|(go_big_quiet_want;go_big_quiet_op;first|go_big_quiet_on|(apply Exists.intro;refine⟨fun w' hw'=>?_,?_⟩;(focus(first|with_reducible exact rfl|(go_at_call 245;fail)|(obtain⟨gx,rfl⟩:=mob (Ext.below hw');go_simp;exact rfl)));go_big_quiet_on))));refine wpQuiet_nil ?_;intro w9 hw9;have hb9:=Ext.below hw9;clear hw9;obtain⟨g9,rfl⟩:=mob hb9;clear hb9)
     go_wp2_with fail
     go_roundw
     case rel=>
      have e1:((u:Int)+(z:Int)+(e:Int))%4294967296=(((u+z+e)%4294967296:Nat):Int):=by omega
      have e2:((u:Int)+(z:Int)+(e:Int))/4294967296=(((u+z+e)/4294967296:Nat):Int):=by omega
      have e3:i+j<o'.length:=by have:=HO.out.1;omega
      refine⟨j+1,(u+z+e)/4294967296,o'.set (i+j) ((u+z+e)%4294967296),by omega,by go_num,by rw[e2],by exact bel,STH.out,?_⟩;rw[e1];exact(HO.out.2.set e3 _).mor _
     case measure=>simp[intOf];omega
    ·obtain rfl:j=q:=by omega
     have hjq2:¬(j:Int)<(j:Int):=by omega
     obtain⟨ti,hr⟩:=HI.out;have hijN:i+j<N:=by have:=HNN.out;omega
     have hol:=ti.len;have c0:=hr.cell (k:=i+j) aa;have f0:=hr.frozen (i+j);have g0:=hr.lt;have eb:(e:Int)<4294967296:=by have:=ti.cb;omega
     have ijN:(i:Int)+(j:Int)<(N:Int):=by omega
     have DN:=af (show TO l m N (i+1) (o'.set (i+j) e) by
      have h3:=HQ.out;have:=TI.done (c:=e) (o:=o') (by rw[h3];exact ti) HR.out.1 DX.out (by rw[h3];exact hijN);rw[h3]at this;exact this)
     have HO:=af (And.intro hol hr);clear ti hr HI hol
     go_wp2_with fail
     go_roundw
     case rel=>
      have e3:i+j<o'.length:=by have:=HO.out.1;omega
      exact⟨i+1,o'.set (i+j) e,by omega,by go_num,by exact bel,DN.out,HO.out.2.set e3 _⟩
     case measure=>simp[intOf];omega
  ·obtain rfl:i=p:=by omega
   have hip2:¬(i:Int)<(i:Int):=by omega
   obtain⟨tt,hr⟩:=HR.out;have T:=af (TR.out o w.heap.size tt.len _ hr.ws);have V:=af (show Dg.vl B32 o=Dg.vl B32 l*Dg.vl B32 m by
    have:=tt.val;rw[<-HP.out,il]at this;exact this)
   have HO:=af (And.intro tt.dg hr);rw[tt.len]at T;clear tt hr HR
   go_wp2_with (first|(go_at_call 321;with_reducible refine(T.out).mono ?_;rintro e w' ⟨rfl,rfl⟩))
   go_ret
   exact⟨fY HO.out.2 HO.out.1 V.out,by exact bel⟩
end
section
open Go.RowKit Go.BigFrame
attribute [local go_sem ↓] Go.wp_at_zero Go.wp_at_succ
theorem tU(r x:Nat)(hr:r<4294967296)(hx:x<4294967296):bits .or .u64 ((r:Int)*4294967296) (x:Int)=((r*4294967296+x:Nat):Int):=by
 have h1:=u64_or_nat (r*4294967296) x aa aa;have h2:=uU (i:=32) (b:=x) aa r;rw[show((r:Int)*4294967296)=((r*4294967296:Nat):Int) by simp,h1];rw[show(2:Nat)^32*r=r*4294967296 by omega]at h2;rw[h2]
set_option maxRecDepth 10000 in
set_option maxHeartbeats 4000000 in
theorem lC(l:List Nat)(a:Option Addr)(cl d:Nat)(hd:1<=d/\d<4294967296)(hl:Dg.dig B32 l)(bl:l.length<=1000000000000)(w:World)(h1:WS w a l):
  Calls Tryz.prog 356 #[.slice a l.length cl, .int .u32 (d:Int)] w fun e w'=>(∃a' l',e= .returned (.tuple #[.slice a' l'.length l'.length, .int .u32 ((Dg.vl B32 l%d:Nat):Int)])/\WS w' a' l'/\Dg.NF B32 l'/\Dg.vl B32 l'=Dg.vl B32 l/d)/\Below w.heap.size w w':=by
 have H1:=af h1;have HL:=af hl;have hmk:=run_make_row' (P:=Tryz.prog) 260 280 (.int .u32 0) 4 Tryz.underlying260 gD rfl .i64 .i64 l.length aa aa;have TR:=af (fun (o:List Nat) (g:Nat) (ho:o.length=l.length) w h=>cO o (some ⟨g,0,none⟩) l.length aa aa w h);clear h1 hl;generalize hp:l.length=p at*;have HP:=af hp;clear hp;have d1:(1:Int)<=(d:Int):=by omega
 have d2:(d:Int)<4294967296:=by omega
 have d3:¬(d:Int)=0:=by omega
 go_enter Tryz.func356,Tryz.ntmps356
 go_wp2_with fail
 go_loopw [7,8] (fun c i wr=>∃(k r:Nat) (o:List Nat),k<=p/\i= .int .i64 ((k:Int)-1)/\c= .int .u64 ((r:Nat):Int)/\r<d/\Below w.heap.size w wr/\Hid (o.length=p/\Dg.dig B32 o/\aQ wr w.heap.size o/\Dg.vl B32 (l.drop k)=d*Dg.vl B32 (o.drop k)+r)) (fun _ i _=>(intOf i+1).toNat)
 case atStart=>
  refine⟨p,0,List.replicate p 0,by omega,rfl,rfl,by omega,by exact bel,by simp,Dg.eW aA _,aQ.made w p,?_⟩;rw[gM (by rw[HP.out];exact ai _),gM aO];simp[Dg.vl]
 case round=>
  obtain⟨k,r,o,hk,rfl,rfl,hrd,hB,HR⟩:=hrel;by_cases hk0:k=0
  ·subst hk0;obtain⟨ho,hdg,hr,hv⟩:=HR.out;have T:=af (TR.out o w.heap.size ho _ hr.ws);rw[iX,iX]at hv;have q1:Dg.vl B32 l/d=Dg.vl B32 o:=by rw[hv,Nat.mul_add_div hd.1,qI hrd,bS]
   have q2:Dg.vl B32 l%d=r:=by rw[hv,Nat.mul_add_mod,ik hrd]
   have Q:=af (And.intro q1 q2);have HO:=af (And.intro hdg hr);have rb:(r:Int)<4294967296:=by omega
   have j0:¬(0:Int)<=(0:Int)-1:=by omega
   rw[ho]at T;clear ho hdg hr hv HR q1 q2
   go_wp2_with (first|(go_at_call 321;with_reducible refine(T.out).mono ?_;rintro e w' ⟨rfl,rfl⟩))
   refine bodyPost_ret (v:= .tuple #[.slice (some ⟨w.heap.size,0,none⟩) (tl o) (tl o), .int .u32 (r:Int)]) (by simp[results,Tryz.results356,go_sem]) rfl ?_;obtain⟨n1,n2⟩:=mC HO.out.1;refine⟨⟨_,o.take (tl o),?_,HO.out.2.ws.take _,n1,by rw[n2,Q.out.1]⟩,by exact bel⟩;rw[Q.out.2,show(o.take (tl o)).length=tl o by rw[bf];have:=fD o;omega]
  ·obtain⟨j,hj⟩:∃j,k=j+1:=⟨k-1,by omega⟩;subst hj;obtain⟨ho,hdg,hr,hv⟩:=HR.out;obtain⟨x,hx⟩:∃x,l[j]?=some x:=⟨l[j]'pC,aP _⟩;have dx:l.getD j 0=x:=by rw[bg,hx];rfl
   have bx:x<4294967296:=HL.out x (eN hx);rcases H1.out.below hB (ai _)with h0|⟨g,ha,hg,hcc⟩
   ·rw[h0]at hx;cases hx
   have cx:=hcc j x hx;have c0:=hr.cell (k:=j) aa;have f0:=hr.frozen j;have g0:=hr.lt;have j0:(0:Int)<=(j:Int):=by omega
   have j1:(j:Int)+1-1=(j:Int):=by omega
   have j2:(j:Int)<(p:Int):=by omega
   have rb:(r:Int)<4294967296:=by omega
   have xb:(x:Int)<4294967296:=by omega
   have ST:=af (Dg.vp (B:=B32) (a:=l) (o:=o) (i:=j) (d:=d) (r:=r) pC aa hv);have DX:=af dx;have HO:=af (And.intro ho (And.intro hdg hr));subst ha;have OW:=tU r x aa bx;obtain⟨T,hT⟩:∃T,T=r*4294967296+x:=⟨_,rfl⟩;rw[<-hT]at OW;have hq:T/d<4294967296:=(uV hd.1).2 (by
    have h3:(r+1)*4294967296<=d*4294967296:=cE _ hrd;rw[aU,cI]at h3;rw[hT,aK 4294967296];omega)
   have tb:(T:Int)<18446744073709551616:=by omega
   have tq0:((T/d:Nat):Int)<4294967296:=by omega
   have tq:(T:Int)/(d:Int)<4294967296:=by rw[<-nX];exact tq0
   have tr:T%d<d:=dQ _ hd.1;have HT:=af (And.intro hT (And.intro hq tr));clear hcc hx dx ho hdg hr hv HR bx hT hq tq0 tr
   go_wp2_with fail
   go_roundw
   case rel=>
    have e1:(T:Int)/(d:Int)=((T/d:Nat):Int):=(nX T d).symm;have e2:(T:Int)%(d:Int)=((T%d:Nat):Int):=(Int.natCast_emod T d).symm;refine⟨j,T%d,o.set j (T/d),by omega,by go_num,by rw[e2],HT.out.2.2,by exact bel,by rw[fb];exact HO.out.1,Dg.dw HO.out.2.1 HT.out.2.1,?_,?_⟩
    ·have e4 : IntKind.u64.wrap ((T / d : Nat) : Int) % 4294967296 = ((T / d : Nat) : Int) := by
      have hq:=HT.out.2.1;generalize T/d=q at hq⊢;rw[cJ];omega
     rw[e1,e4];have e3:j<o.length:=by have:=HO.out.1;omega
     exact HO.out.2.2.set e3 _
    ·have:=ST.out;rw[DX.out,<-show T=r*B32+x from HT.out.1]at this;exact this
   case measure=>simp[intOf]
theorem rJ(w:World)(t:TypeId)(a:Nat):WS (w.alloc (.cells #[.int .u32 (a:Int)] t)) (some ⟨w.heap.size,0,none⟩) [a]:=
 .inr ⟨w.heap.size,rfl,by simp,fun k x hk=>by
  rw[cell_of_row _ w.heap.size k _ t (0,0) (heap_alloc_new w _)]
  match k,hk with
  |0,hk=>cases hk;rfl
  |k+1,hk=>cases hk⟩
set_option maxRecDepth 10000 in
set_option maxHeartbeats 2000000 in
theorem nd(l:List Nat)(a:Option Addr)(cl k:Nat)(hk:k<32)(hl:Dg.dig B32 l)(bl:l.length<=1000000000000)(w:World)(h1:WS w a l):
  Calls Tryz.prog 357 #[.slice a l.length cl,.int .u64 (k:Int)] w fun e w'=>jL w' e (Dg.vl B32 l*2^k)/\Below w.heap.size w w':=by
 have H1:=af h1;have hp:2^k<4294967296:=by
  have:=uT (a:=2) aa hk;omega
 have TI:Hid (∀b w,WS w a l->WS w b [2^k]->Calls Tryz.prog 245 #[.slice a l.length cl,.slice b 1 1] w fun e w'=>jL w' e (Dg.vl B32 l*Dg.vl B32 [2^k])/\Below w.heap.size w w'):=(fun b w (h:WS w a l) (h2:WS w b [2^k])=>qm l [2^k] a b cl 1 hl (fun x hx=>by rw[cD.1 hx];exact hp) bl aO w h h2);have WO:Hid (∀t,WS (w.alloc (.cells #[.int .u32 ((2:Int)^k%4294967296)] t)) (some ⟨w.heap.size,0,none⟩) [2^k]):=fun t=>by
  have e:((2:Int)^k%4294967296)=((2^k:Nat):Int):=by
   have:((2:Int)^k)=((2^k:Nat):Int):=by simp
   rw[this];generalize(2:Nat)^k=P at hp⊢;omega
  rw[e];exact rJ w t _
 clear h1 hl;generalize hn:l.length=n at*
 go_enter Tryz.func357,Tryz.ntmps357
 go_wp2_with (first|(go_at_call 245;(with_reducible refine(TI.out _ _ ?_ ?_).mono ?_);(exact H1.out.below (B:=w.heap.size) az (ai _));(exact WO.out _);rintro e w1 ⟨⟨a1,l1,rfl,r1,r2,r3⟩,hb1⟩;have R1:=af (And.intro r1 (And.intro r2 r3));clear r1 r2 r3;obtain⟨g1,rfl⟩:=mob hb1;clear hb1))
 go_ret
 obtain⟨r1,r2,r3⟩:=R1.out;exact⟨⟨a1,l1,rfl,r1,r2,by rw[r3];simp[Dg.vl]⟩,by exact bel⟩
end
section
open Go.RowKit Go.BigFrame
attribute [local go_sem ↓] Go.wp_at_zero Go.wp_at_succ
theorem fO(w:World)(g o:Nat)(u:Value):w.grownBy (w.setCell ⟨g,o,none⟩ u) (some g):=
 ⟨rfl,rfl,rfl,by simp,fun k _ hk=>by
  simp only[World.setCell,zal8];rw[an (fun e=>hk (by rw[e]))]⟩
theorem vJ(w:World)(row:Option Nat):w.grownBy w row:=⟨rfl,rfl,rfl,ai _,fun _ _ _=>rfl⟩
theorem cn{a b c:World}{row:Option Nat}(h:a.grownBy b row)(k:b.grownBy c row):a.grownBy c row:=
 ⟨k.os.trans h.os,k.tape.trans h.tape,k.output.trans h.output,aE h.size k.size,fun i hi hr=>(k.block i (aH hi h.size) hr).trans (h.block i hi hr)⟩
theorem eH{w w':World}{row:Option Nat}(h:Below w.heap.size w w'):w.grownBy w' row:=⟨h.os,h.tape,h.output,h.size,fun k hk _=>h.block k hk⟩
theorem WS.grown{w w':World}{g:Nat}{a:Option Addr}{l:List Nat}(h:WS w a l)(hg:w.grownBy w' (some g))(hne:a≠some ⟨g,0,none⟩):WS w' a l:=by
 rcases h with h|⟨g',e,hl,hc⟩
 ·exact .inl h
 ·refine .inr ⟨g',e,aH hl hg.size,fun k x hk=>(World.cell?_of_block (hg.block g' hl (fun e2=>?_))).trans (hc k x hk)⟩;cases e2;exact hne e
theorem jT(P r S:List Nat)(i d:Nat)(hi:i<r.length):(P++(r++S)).set (P.length+i) d=P++(r.set i d++S):=by
 rw[List.set_append,an aa,uS,List.set_append,aB hi]
theorem iR(P r S:List Nat)(i:Nat)(hi:i<r.length):(P++(r++S)).getD (P.length+i) 0=r.getD i 0:=by
 rw[bg,bg,iW aa,uS,dN hi]
structure TK(r d:List Nat)(n k c:Nat)(r1:List Nat):Prop where
 len:r1.length=r.length
 dg:Dg.dig B32 r1
 cb:c<4294967296
 hi:∀j,k<=j->r1.getD j 0=r.getD j 0
 val:Dg.vl B32 (r1.take k)+n*Dg.vl B32 (d.take k)=Dg.vl B32 (r.take k)+c*B32^k
theorem TK.start{r:List Nat}(d:List Nat)(n:Nat)(h:Dg.dig B32 r):TK r d n 0 0 r:=⟨rfl,h,by omega,fun _ _=>rfl,by simp[Dg.vl]⟩
theorem TK.step{r d:List Nat}{n k c:Nat}{r1:List Nat}(h:TK r d n k c r1)(hr:Dg.dig B32 r)(hd:Dg.dig B32 d)(hn:n<4294967296)(hk:k<r.length){x y p:Nat}(hx:r.getD k 0=x)(hy:d.getD k 0=y)(hp:p=n*y+c):
  (p%4294967296<=x->TK r d n (k+1) (p/4294967296) (r1.set k (x-p%4294967296)))/\(x<p%4294967296->TK r d n (k+1) (p/4294967296+1) (r1.set k (x+4294967296-p%4294967296))):=by
 have bx:x<4294967296:=by rw[<-hx];exact Dg.aV hr aA k
 have by':y<4294967296:=by rw[<-hy];exact Dg.aV hd aA k
 have hc:=h.cb;have hpb:n*y<=4294967295*4294967295:=bF aa aa;have hkl:k<r1.length:=by rw[h.len];exact hk
 have S:=Dg.wG (B:=B32) (d:=d) (r:=r1) (r0:=r) (i:=k) (g:=n) (c:=c) hkl (h.hi k (ai _)) h.val (lo:=p%4294967296) (hi':=p/4294967296) (by rw[hy,<-hp];show p=p/4294967296*4294967296+_;omega);rw[hx]at S;refine⟨fun hle=>⟨by rw[fb];exact h.len,Dg.dw h.dg (show x-_<4294967296 by omega),by omega,fun j hj=>?_,S.1 hle⟩,fun hlt=>⟨by rw[fb];exact h.len,Dg.dw h.dg (show x+4294967296-_<4294967296 by omega),by omega,fun j hj=>?_,S.2 hlt (show _<=x+4294967296 by omega)⟩⟩
 ·rw[ka aa];exact h.hi j aa
 ·rw[ka aa];exact h.hi j aa
set_option maxRecDepth 100000 in
set_option maxHeartbeats 4000000 in
theorem yh(P r S d:List Nat)(g cap cd n:Nat)(ad:Option Addr)(hd:Dg.dig B32 d)(hr:Dg.dig B32 r)(hn:n<4294967296)(hdr:d.length<=r.length)(hlen:P.length+r.length<=2000000000000)(hne:ad≠some ⟨g,0,none⟩)(w:World)(hw:aQ w g (P++(r++S)))(hs:WS w ad d):
  Calls Tryz.prog 390 #[.slice (some ⟨g,P.length,none⟩) r.length cap,.slice ad d.length cd,.int .u64 (n:Int)] w fun e w'=>∃(r':List Nat) (c:Nat),e= .returned (.bool (decide (c=0)))/\r'.length=r.length/\Dg.dig B32 r'/\aQ w' g (P++(r'++S))/\w.grownBy w' (some g)/\Dg.vl B32 r'+n*Dg.vl B32 d=Dg.vl B32 r+c*B32^r.length:=by
 have HS:=af hs;have HD:=af hd;have HR:=af hr;have HNE:Hid (ad≠some ⟨g,0,none⟩):=hne;have HDR:=af hdr;have W0:Hid (aQ w g (P++(r++S))/\w.grownBy w (some g)/\TK r d n 0 0 r):=⟨hw,vJ _ _,TK.start d n hr⟩;clear hs hd hr hw hne hdr;generalize hP:P.length=off at*;generalize hq:r.length=q at*;generalize hm:d.length=m at*;have HP:=af hP;have HQ:=af hq;have HM:=af hm;clear hP hq hm;have AD:=af (fun (i:Nat) (hi:i<=4000000000000) (hml:m<=4000000000000000000) w h=>mf d ad cd i (by rw[HM.out];exact hml) aa HD.out w h);have nb:(n:Int)<4294967296:=by omega
 go_enter Tryz.func390,Tryz.ntmps390
 go_wp2_with fail
 go_loopw [7,13] (fun c i wr=>∃(k e:Nat) (r1:List Nat),k<=q/\i= .int .i64 ((k:Int))/\c= .int .u64 ((e:Nat):Int)/\Hid (aQ wr g (P++(r1++S))/\w.grownBy wr (some g)/\TK r d n k e r1)) (fun _ i _=>q-(intOf i).toNat)
 case atStart=>exact⟨0,0,r,by omega,rfl,rfl,W0.out⟩
 case round=>
  clear W0;obtain⟨k,e,r1,hk,rfl,rfl,HI⟩:=hrel;by_cases hkq:k<q
  ·have hkq2:(k:Int)<(q:Int):=by omega
   obtain⟨hw,hg,tk⟩:=HI.out;have hl1:k<r1.length:=by rw[tk.len,HQ.out];exact hkq
   have c0:=hw.cell (k:=off+k) uN;have f0:=hw.frozen (off+k);have g0:=hw.lt;obtain⟨x,hx⟩:∃x,r.getD k 0=x:=⟨_,rfl⟩;obtain⟨y,hy⟩:∃y,d.getD k 0=y:=⟨_,rfl⟩;rw[<-HP.out,iR P r1 S k hl1,tk.hi k (ai _),hx,HP.out]at c0;have by':y<4294967296:=by rw[<-hy];exact Dg.aV HD.out aA k
   have bx:x<4294967296:=by rw[<-hx];exact Dg.aV HR.out aA k
   have be:=tk.cb;obtain⟨p,hp⟩:∃p,p=n*y+e:=⟨_,rfl⟩;have ST:=tk.step HR.out HD.out hn (by rw[HQ.out];exact hkq) hx hy hp;have A1:=AD.out k aa (by have:=HDR.out;omega) wr (HS.out.grown hg HNE.out);rw[hy,HM.out]at A1;have A1H:=af A1;have mw:=iL hn by'
   obtain⟨u,hu⟩:∃u,u=n*y:=⟨_,rfl⟩;have hu2:(n:Int)*(y:Int)=(u:Int):=by rw[hu];simp
   rw[<-hu]at mw hp;have hp2:(u:Int)+(e:Int)=(p:Int):=by omega
   have ub:(u:Int)<=18446744065119617025:=by omega
   have eb:(e:Int)<4294967296:=by omega
   have xb:(x:Int)<4294967296:=by omega
   have pb:(p:Int)<18446744073709551616:=by omega
   have B:=af (And.intro bx (And.intro mw (And.intro be hp)));have H2:=af (And.intro hw (And.intro hg hl1));have hqo:(off:Int)+(k:Int)<=2000000000000:=by omega
   clear hw hg tk hl1 A1 hx hy hu mw hp by' bx be HI
   by_cases hlt:x<p%4294967296
   ·have ST2:=af (ST.2 hlt);have hlt2:(x:Int)<(p:Int)%4294967296:=by omega
    have w1:IntKind.u32.wrap ((x:Int)-(p:Int)%4294967296)=(x:Int)-(p:Int)%4294967296+4294967296:=by rw[IntKind.wrap_u32];omega
    clear ST
    go_wp2_with (first|(go_at_call 323;(with_reducible refine(A1H.out).mono ?_);rintro e w' ⟨rfl,rfl⟩))
    go_roundw
    case rel=>
     have e1:(x:Int)-(p:Int)%4294967296+4294967296=(((x+4294967296-p%4294967296):Nat):Int):=by have:=B.out.1;omega
     have e2:(p:Int)/4294967296+1=(((p/4294967296+1):Nat):Int):=by omega
     obtain⟨hw,hg,hl1⟩:=H2.out;refine⟨k+1,p/4294967296+1,r1.set k (x+4294967296-p%4294967296),by omega,by go_num,by rw[e2],?_,cn hg (fO _ _ _ _),ST2.out⟩;rw[e1,<-HP.out,<-jT P r1 S k _ hl1];exact hw.set pF _
    case measure=>simp[intOf];omega
   ·have ST2:=af (ST.1 aa);obtain⟨lo,hlo⟩:∃lo,lo=p%4294967296:=⟨_,rfl⟩;obtain⟨hi,hhi⟩:∃hi,hi=p/4294967296:=⟨_,rfl⟩;rw[<-hlo]at hlt;rw[<-hlo,<-hhi]at ST2;have l1:(p:Int)%4294967296=(lo:Int):=by omega
    have l2:(p:Int)/4294967296=(hi:Int):=by omega
    have hlt2:(lo:Int)<=(x:Int):=by omega
    have hlt3:¬(x:Int)<(lo:Int):=by omega
    have lob:(lo:Int)<4294967296:=by omega
    have B3:=af (show lo<=x by omega);clear ST hlo hhi
    go_wp2_with (first|(go_at_call 323;(with_reducible refine(A1H.out).mono ?_);rintro e w' ⟨rfl,rfl⟩))
    go_roundw
    case rel=>
     have e1:(x:Int)-(lo:Int)=((x-lo:Nat):Int):=by have:=B3.out;omega
     obtain⟨hw,hg,hl1⟩:=H2.out;refine⟨k+1,hi,r1.set k (x-lo),by omega,by go_num,rfl,?_,cn hg (fO _ _ _ _),ST2.out⟩;rw[e1,<-HP.out,<-jT P r1 S k _ hl1];exact hw.set pF _
    case measure=>simp[intOf];omega
  ·obtain rfl:k=q:=by omega
   have hkq2:¬(k:Int)<(k:Int):=by omega
   have eb:=HI.out.2.2.cb
   go_wp2_with fail
   go_ret
   obtain⟨hw,hg,tk⟩:=HI.out;refine⟨r1,e,?_,by rw[tk.len,HQ.out],tk.dg,hw,hg,?_⟩
   ·have:((e:Int)==0)=decide (e=0):=by rw[Bool.eq_iff_iff];simp
    rw[<-this];rfl
   ·have:=tk.val;rw[Dg.aI (by rw[tk.len,HQ.out];exact ai _),Dg.aI (by rw[HM.out];exact HDR.out),Dg.aI (by rw[HQ.out];exact ai _)]at this;exact this
end
section
structure SG(r d:List Nat)(N q:Nat):Prop where
 lt:q<4294967296
 ge:Dg.vl B32 r/Dg.vl B32 d<=q
 le:q*d.getD (N+1) 0<=r.getD (N+2) 0*4294967296+r.getD (N+1) 0
structure SN(r d:List Nat)(N:Nat):Prop where
 dr:Dg.dig B32 r
 dd:Dg.dig B32 d
 lr:r.length=N+3
 ld:d.length=N+2
 v1:1<=d.getD (N+1) 0
 lt:Dg.vl B32 r<4294967296*Dg.vl B32 d
theorem SN.pos{r d:List Nat}{N:Nat}(h:SN r d N):0<Dg.vl B32 d:=by have:=h.lt;omega
theorem SG.start{r d:List Nat}{N:Nat}(h:SN r d N):SG r d N (min ((r.getD (N+2) 0*4294967296+r.getD (N+1) 0)/d.getD (N+1) 0) 4294967295):=by
 have h1:=Dg.xF h.dr h.dd h.lr h.ld h.v1;have h2:=Dg.xa (B:=4294967296) h.lt;have h3:=Nat.div_mul_le_self (r.getD (N+2) 0*4294967296+r.getD (N+1) 0) (d.getD (N+1) 0);refine⟨by omega,?_,?_⟩
 ·have h1':Dg.vl B32 r/Dg.vl B32 d<=(r.getD (N+2) 0*4294967296+r.getD (N+1) 0)/d.getD (N+1) 0:=h1;omega
 ·exact aE (cE _ (Nat.min_le_left _ _)) h3
theorem SG.less{r d:List Nat}{N q:Nat}(h:SG r d N q)(k:SN r d N){a rm:Nat}(ha:q*d.getD N 0=a)(hr:q*d.getD (N+1) 0+rm=r.getD (N+2) 0*4294967296+r.getD (N+1) 0)(hlt:rm*4294967296+r.getD N 0<a):1<=q/\SG r d N (q-1):=by
 obtain⟨u,hu,hU⟩:=Dg.top3 k.dr k.lr;obtain⟨s,hs,hV⟩:=Dg.top2 k.dd k.ld;have q1:1<=q:=by
  apply fR;intro e;rw[e,jb]at ha;omega
 refine⟨q1,by have:=h.lt;omega,?_,aE (cE _ aa) h.le⟩;have hn:¬q*Dg.vl B32 d<=Dg.vl B32 r:=fun hq=>by
  have h3:=Dg.yW hV hU hu hq;have e:q*(d.getD (N+1) 0*B32+d.getD N 0)=q*d.getD (N+1) 0*4294967296+a:=by rw[cw,ha,br]
  rw[e]at h3;have h4:q*d.getD (N+1) 0*4294967296+a<=(r.getD (N+2) 0*4294967296+r.getD (N+1) 0)*4294967296+r.getD N 0:=h3;generalize q*d.getD (N+1) 0=b at*;omega
 have h5:Dg.vl B32 r/Dg.vl B32 d<q:=(uV k.pos).2 aa;omega
theorem SG.stop{r d:List Nat}{N q:Nat}(h:SG r d N q)(k:SN r d N){a rm:Nat}(ha:q*d.getD N 0=a)(hr:q*d.getD (N+1) 0+rm=r.getD (N+2) 0*4294967296+r.getD (N+1) 0)(hst:4294967296<=rm\/a<=rm*4294967296+r.getD N 0):(q-1)*Dg.vl B32 d<=Dg.vl B32 r:=by
 by_cases q0:q=0
 ·subst q0;simp
 obtain⟨u,hu,hU⟩:=Dg.top3 k.dr k.lr;obtain⟨s,hs,hV⟩:=Dg.top2 k.dd k.ld;have hv2:d.getD N 0<4294967296:=Dg.aV k.dd aA N;have hab:a<=18446744065119617025:=by rw[<-ha];exact iL h.lt hv2
 refine Dg.yV hV hs hU (cC h.lt) aa k.v1 ?_;have e:q*(d.getD (N+1) 0*B32+d.getD N 0)=q*d.getD (N+1) 0*4294967296+a:=by rw[cw,ha,br]
 rw[e];show _<=(r.getD (N+2) 0*4294967296+r.getD (N+1) 0)*4294967296+r.getD N 0;generalize q*d.getD (N+1) 0=b at*;omega
theorem SG.yes{r d:List Nat}{N q:Nat}(h:SG r d N q)(k:SN r d N){v M:Nat}(hv:v+q*Dg.vl B32 d=Dg.vl B32 r+0*M):q=Dg.vl B32 r/Dg.vl B32 d/\v=Dg.vl B32 r%Dg.vl B32 d:=by
 have e:=Dg.yk k.pos h.ge aa;refine⟨e,?_⟩;have:=gO (Dg.vl B32 r) (Dg.vl B32 d);rw[<-e,aK]at this;omega
theorem yH{a b c e M:Nat}(ha:a<M)(hb:b<M)(h:a+c*M=b+e*M):a=b:=by
 have:=congrArg (· %M) h;simpa[uR,ik ha,ik hb]using this
theorem SG.no{r d:List Nat}{N q:Nat}(h:SG r d N q)(k:SN r d N){v c M v2 c2:Nat}(hst:(q-1)*Dg.vl B32 d<=Dg.vl B32 r)(hvM:v<M)(hv:v+q*Dg.vl B32 d=Dg.vl B32 r+c*M)(hc:c≠0)(hM:Dg.vl B32 d<=M)(h2M:v2<M)(h2:v2+c2*M=v+Dg.vl B32 d):
  1<=q/\q-1=Dg.vl B32 r/Dg.vl B32 d/\v2=Dg.vl B32 r%Dg.vl B32 d:=by
 have hcM:1*M<=c*M:=cE _ aa;have hlt:Dg.vl B32 r<q*Dg.vl B32 d:=by omega
 have q1:1<=q:=by
  apply fR;intro e;rw[e,jb]at hlt;omega
 have e:=Dg.Af k.pos q1 hst hlt;refine⟨q1,e,?_⟩;have e2:=gO (Dg.vl B32 r) (Dg.vl B32 d);rw[<-e]at e2;have hm:=dQ (Dg.vl B32 r) k.pos;obtain⟨p,rfl⟩:∃p,q=p+1:=⟨q-1,by omega⟩;rw[mz,aK]at e2;rw[aU,cI]at hv;refine yH (c:=c2) (e:=c) h2M aa ?_;omega
structure PK(r d:List Nat)(k e:Nat)(r1:List Nat):Prop where
 len:r1.length=r.length
 dg:Dg.dig B32 r1
 hi:∀j,k<=j->r1.getD j 0=r.getD j 0
 val:Dg.vl B32 (r1.take k)+e*B32^k=Dg.vl B32 (r.take k)+Dg.vl B32 (d.take k)
theorem PK.start{r:List Nat}(d:List Nat)(h:Dg.dig B32 r):PK r d 0 0 r:=⟨rfl,h,fun _ _=>rfl,by simp[Dg.vl]⟩
theorem PK.step{r d:List Nat}{k e:Nat}{r1:List Nat}(h:PK r d k e r1)(hk:k<r.length){x y:Nat}(hx:r.getD k 0=x)(hy:d.getD k 0=y):
  PK r d (k+1) ((x+y+e)/4294967296) (r1.set k ((x+y+e)%4294967296)):=by
 refine⟨by rw[fb];exact h.len,Dg.dw h.dg (dQ _ aA),fun j hj=>?_,?_⟩
 ·rw[ka aa];exact h.hi j aa
 ·have:=Dg.lG (B:=B32) (a:=r) (b:=d) (o:=r1) (i:=k) (c:=e) (by rw[h.len];exact hk) h.val;rw[hx,hy]at this;exact this
end
section
open Go.RowKit Go.BigFrame
attribute [local go_sem ↓] Go.wp_at_zero Go.wp_at_succ
def zp(w:World)(P r S d:List Nat)(g N:Nat)(e:Ending)(w':World):Prop:=∃r':List Nat,e= .returned (.int .u32 ((Dg.vl B32 r/Dg.vl B32 d:Nat):Int))/\r'.length=N+3/\Dg.dig B32 r'/\aQ w' g (P++(r'++S))/\w.grownBy w' (some g)/\Dg.vl B32 r'=Dg.vl B32 r%Dg.vl B32 d
set_option maxRecDepth 100000 in
set_option maxHeartbeats 8000000 in
theorem ym(P r S d:List Nat)(g cap cd N:Nat)(ad:Option Addr)(k:SN r d N)(hlen:P.length+r.length<=2000000000000)(hne:ad≠some ⟨g,0,none⟩)(w:World)(hw:aQ w g (P++(r++S)))(hs:WS w ad d):
  Calls Tryz.prog 358 #[.slice (some ⟨g,P.length,none⟩) r.length cap,.slice ad d.length cd] w (zp w P r S d g N):=by
 have K:=af k;have HS:=af hs;have HNE:Hid (ad≠some ⟨g,0,none⟩):=hne;have HW:=af hw;have TA:=af (fun (n:Nat) (hn:n<4294967296) w hw hs=>yh P r S d g cap cd n ad k.dd k.dr hn (by rw[k.ld,k.lr];omega) hlen hne w hw hs);have hlr:=k.lr;have hld:=k.ld;obtain⟨gd,rfl⟩:∃gd,ad=some ⟨gd,0,none⟩:=by
  rcases hs with h0|⟨gd,e,_⟩
  ·rw[h0]at hld;simp at hld
  ·exact⟨gd,e⟩
 have hgd:gd<w.heap.size/\∀k x,d[k]?=some x->w.cell? ⟨gd,k,none⟩=some (.int .u32 (x:Nat)):=by
  rcases hs with h0|⟨gd',e,h1,h2⟩
  ·rw[h0]at hld;simp at hld
  ·cases e;exact⟨h1,h2⟩
 have dget:∀i,i<d.length->w.cell? ⟨gd,i,none⟩=some (.int .u32 ((d.getD i 0:Nat):Int)):=fun i hi=>by
  have:=hgd.2 i _ (aP hi);rw[this,bg,aP hi];rfl
 have rget:∀i,i<r.length->w.cell? ⟨g,P.length+i,none⟩=some (.int .u32 ((r.getD i 0:Nat):Int)):=fun i hi=>by
  have:=hw.cell (k:=P.length+i) pF;rw[iR P r S i hi]at this;exact this
 have c2:=rget (N+2) aa;have c1:=rget (N+1) aa;have c0:=rget N aa;have d1:=dget (N+1) aa;have d0:=dget N aa;have g0:=hw.lt;have g1:=hgd.1;have b2:r.getD (N+2) 0<4294967296:=Dg.aV k.dr aA _;have b1:r.getD (N+1) 0<4294967296:=Dg.aV k.dr aA _;have b0:r.getD N 0<4294967296:=Dg.aV k.dr aA _;have bv1:d.getD (N+1) 0<4294967296:=Dg.aV k.dd aA _;have bv2:d.getD N 0<4294967296:=Dg.aV k.dd aA _;have pv1:=k.v1;have SG0:=SG.start k;have LESS:=af (fun q (h:SG r d N q) a rm ha hr hl=>h.less k (a:=a) (rm:=rm) ha hr hl);have STOP:=af (fun q (h:SG r d N q) a rm ha hr hl=>h.stop k (a:=a) (rm:=rm) ha hr hl);have LE:Hid (∀q,SG r d N q->q*d.getD (N+1) 0<=r.getD (N+2) 0*4294967296+r.getD (N+1) 0):=fun q h=>h.le;rw[hlr,hld]at TA;rw[hlr]at hlen;rw[hlr,hld];clear hs hw hne dget rget hgd k;generalize hP:P.length=off at*;have HP:=af hP;clear hP;generalize r.getD (N+2) 0=t2 at*;generalize r.getD (N+1) 0=t1 at*;generalize r.getD N 0=t0 at*;generalize d.getD (N+1) 0=v1 at*;generalize d.getD N 0=v2 at*;have OW:=tU t2 t1 b2 b1;obtain⟨T,hT⟩:∃T,T=t2*4294967296+t1:=⟨_,rfl⟩;rw[<-hT]at OW SG0 LESS STOP LE;have tb:(T:Int)<18446744073709551616:=by omega
 have n1:(N:Int)+2-1=(N:Int)+1:=by omega
 have n2:(N:Int)+2-2=(N:Int):=by omega
 have v1p:(1:Int)<=(v1:Int):=by omega
 have v1n:¬(v1:Int)=0:=by omega
 have v1b:(v1:Int)<4294967296:=by omega
 have v2b:(v2:Int)<4294967296:=by omega
 have t0b:(t0:Int)<4294967296:=by omega
 have t1b:(t1:Int)<4294967296:=by omega
 have t2b:(t2:Int)<4294967296:=by omega
 have SG0H:=af SG0;have i0:(N:Int)<(N:Int)+2:=by omega
 have HT:=af hT;clear SG0 hT
 go_enter Tryz.func358,Tryz.ntmps358
 go_wp2_with fail
 (refine wp_region_quiet (C:=Ext _) aD aD (Ext.start _) ?_;simp only[];(repeat(first|go_big_quiet_skip|(go_big_quiet_want;go_big_quiet_op;first|go_big_quiet_on|(apply Exists.intro;refine⟨fun w' hw'=>?_,?_⟩;(focus(first|with_reducible exact rfl|(go_at_call 358;fail)|(obtain⟨gx,rfl⟩:=mob (Ext.below hw');go_simp;exact rfl)));go_big_quiet_on))));refine wpQuiet_nil ?_;intro w2 hw2;have hb2:=Ext.below hw2;clear hw2;obtain⟨g2,rfl⟩:=mob hb2;clear hb2)
 obtain⟨G0,hG0⟩:∃G0,G0=min (T/v1) 4294967295:=⟨_,rfl⟩;have HG0:=af hG0;rw[<-hG0]at SG0H;clear hG0
 go_upto_region 3 with fail
 go_cut [7]from 26 to 34 (fun s7 wx=>s7= .int .u64 ((G0:Nat):Int)/\Ext w wx)
 case first=>
  obtain⟨Q0,hQ0⟩:∃Q0,Q0=T/v1:=⟨_,rfl⟩;have q0:(T:Int)/(v1:Int)=(Q0:Int):=by rw[hQ0];exact(nX T v1).symm
  have q0b:Q0<=T:=by rw[hQ0];exact fG _ _
  have q0c:(Q0:Int)<18446744073709551616:=by omega
  have hG1:=HG0.out;rw[<-hQ0]at hG1;by_cases hm:Q0<=4294967295
  ·have hm1:(Q0:Int)<=4294967295:=by omega
   have hm2:¬4294967295<Q0:=by omega
   have hm3:¬(4294967295:Int)<(Q0:Int):=by omega
   obtain rfl:G0=Q0:=by omega
   clear hQ0 hG1
   go_wp2_with fail
   go_meet
   exact⟨rfl,gu az⟩
  ·have hm1:¬(Q0:Int)<=4294967295:=by omega
   have hm2:4294967295<Q0:=by omega
   have hm3:(4294967295:Int)<(Q0:Int):=by omega
   have e:G0=4294967295:=by omega
   have E:=af e;clear hQ0 hG1 e
   go_wp2_with fail
   go_meet
   exact⟨by rw[E.out];rfl,gu az⟩
 case rest=>
  obtain⟨rfl,hext⟩:=hcut;obtain⟨gz,rfl⟩:=mob (Ext.below hext);clear hext
  go_wp2_with fail
  go_loopw [7] (fun c wr=>∃q:Nat,c= .int .u64 ((q:Nat):Int)/\Hid (SG r d N q)/\Ext w wr) (fun c _=>(intOf c).toNat)
  case atStart=>exact⟨G0,rfl,SG0H.out,gu az⟩
  case round=>
   obtain⟨q,rfl,HQ,hext⟩:=hrel;obtain⟨gx,rfl⟩:=mob (Ext.below hext);clear hext;have qb:q<4294967296:=HQ.out.lt;have qb2:(q:Int)<4294967296:=by omega
   have hle:=LE.out q HQ.out;obtain⟨b,hb⟩:∃b,b=q*v1:=⟨_,rfl⟩;obtain⟨a,ha⟩:∃a,a=q*v2:=⟨_,rfl⟩;have ma:a<=18446744065119617025:=by rw[ha];exact iL qb bv2
   rw[<-hb]at hle;obtain⟨rm,hrm⟩:∃rm,b+rm=T:=⟨T-b,by omega⟩;have hb2:(q:Int)*(v1:Int)=(b:Int):=by rw[hb];simp
   have ha2:(q:Int)*(v2:Int)=(a:Int):=by rw[ha];simp
   have hrm2:(T:Int)-(b:Int)=(rm:Int):=by omega
   have ab:(a:Int)<18446744073709551616:=by omega
   have bb:(b:Int)<18446744073709551616:=by omega
   have rb:(rm:Int)<18446744073709551616:=by omega
   obtain⟨sh,hsh⟩:∃sh:Nat,sh=rm*4294967296%18446744073709551616:=⟨_,rfl⟩;have hs1:IntKind.u64.wrap ((rm:Int)*4294967296)=(sh:Int):=by rw[cJ,hsh];omega
   have shb:sh<18446744073709551616:=by rw[hsh];exact dQ _ aA
   obtain⟨OV,hOV⟩:∃OV:Nat,OV=sh|||t0:=⟨_,rfl⟩;have ho1:bits .or .u64 (sh:Int) (t0:Int)=(OV:Int):=by rw[u64_or_nat sh t0 shb aa,hOV]
   have hOVb:OV<18446744073709551616:=by rw[hOV];exact Nat.or_lt_two_pow (n:=64) shb aa
   have OVX:Hid (rm<4294967296->sh=rm*4294967296/\OV=rm*4294967296+t0):=fun h=>by
    have e1:sh=rm*4294967296:=by rw[hsh];omega
    refine⟨e1,?_⟩;have h2:=uU (i:=32) (b:=t0) aa rm;rw[show(2:Nat)^32*rm=rm*4294967296 by omega]at h2;rw[hOV,e1,h2]
   have HA:=af (And.intro ha (And.intro (show q*v1+rm=T by rw[<-hb];exact hrm) hrm));have ovb:(OV:Int)<18446744073709551616:=by omega
   have shb2:(sh:Int)<18446744073709551616:=by omega
   clear ha hb hrm hle ma hsh shb hOV hOVb;by_cases hr:rm<4294967296
   ·obtain⟨x1,x2⟩:=OVX.out hr;have hr2:(rm:Int)<4294967296:=by omega
    have s2:(rm:Int)*4294967296=(sh:Int):=by omega
    have X:=af (And.intro x1 x2);clear x1 x2 OVX;by_cases ho:OV<a
    ·have ho2:(OV:Int)<(a:Int):=by omega
     have ho3:decide ((OV:Int)<(a:Int))=true:=by rw[ei];exact ho2
     have L:=LESS.out q HQ.out a rm HA.out.1.symm HA.out.2.1 (by rw[<-X.out.2];exact ho);have q1:(1:Int)<=(q:Int):=by have:=L.1;omega
     have LH:=af L.2;have LQ:=L.1;clear L
     go_wp2_with fail
     (refine wp_region_quiet (C:=Ext _) aD aD (Ext.start _) ?_;simp only[];(repeat(first|go_big_quiet_skip|(go_big_quiet_want;go_big_quiet_op;first|go_big_quiet_on|(apply Exists.intro;refine⟨fun w' hw'=>?_,?_⟩;(focus(first|with_reducible exact rfl|(go_at_call 358;fail)|(obtain⟨gx,rfl⟩:=mob (Ext.below hw');go_simp;exact rfl)));go_big_quiet_on))));refine wpQuiet_nil ?_;intro w4 hw4;have hb4:=Ext.below hw4;clear hw4;obtain⟨g4,rfl⟩:=mob hb4;clear hb4)
     go_wp2_with fail
     go_roundw
     case rel=>exact⟨q-1,by rw[show(((q-1:Nat)):Int)=(q:Int)-1 by omega],LH.out,gu az⟩
     case measure=>simp[intOf];omega
    ·have ho2:¬(OV:Int)<(a:Int):=by omega
     have ho3:decide ((OV:Int)<(a:Int))=false:=by rw[db];exact ho2
     have HS0:4294967296<=rm\/a<=rm*4294967296+t0:=.inr (by have:=X.out.2;omega);clear X s2;have ST:=af (STOP.out q HQ.out a rm HA.out.1.symm HA.out.2.1 HS0);have TQ:=af (TA.out q qb);clear LESS STOP LE OW HS0
     go_wp2_with fail
     (refine wp_region_quiet (C:=Ext _) aD aD (Ext.start _) ?_;simp only[];(repeat(first|go_big_quiet_skip|(go_big_quiet_want;go_big_quiet_op;first|go_big_quiet_on|(apply Exists.intro;refine⟨fun w' hw'=>?_,?_⟩;(focus(first|with_reducible exact rfl|(go_at_call 358;fail)|(obtain⟨gx,rfl⟩:=mob (Ext.below hw');go_simp;exact rfl)));go_big_quiet_on))));refine wpQuiet_nil ?_;intro w4 hw4;have hb4:=Ext.below hw4;clear hw4;obtain⟨g4,rfl⟩:=mob hb4;clear hb4)
     clear c2 c1 c0 d1 d0 hb2 ha2 hrm2 ab bb rb hs1 ho1 HA
     go_wp2_with (first|(go_at_call 390;(refine(TQ.out _ ?_ ?_).mono ?_);(exact HW.out.below (B:=w.heap.size) az (ai _));(exact HS.out.below (B:=w.heap.size) az (ai _));rintro e w6 ⟨r6,c6,rfl,l6,dg6,rw6,gr6,v6⟩;have gw6:w.grownBy w6 (some g):=cn (eH az) gr6;have H6:=af (And.intro l6 (And.intro dg6 (And.intro rw6 (And.intro gw6 v6))));clear l6 dg6 rw6 gr6 v6 gw6;by_cases h6:c6=0;(have h7:decide (c6=0)=true:=by rw[ei];exact h6);rotate_left;(have h7:decide (c6=0)=false:=by rw[db];exact h6);rotate_left))
     rotate_left
     ·have B6:=af (PK.start (r:=r6) d H6.out.2.1);have AT:=af (fun (i:Nat) (hi:i<=4000000000000) w (hw:WS w (some ⟨gd,0,none⟩) d)=>vX d (some ⟨gd,0,none⟩) cd i pB aa K.out.dd w hw)
      go_loopw [8,85] (fun c i wr=>∃(k e:Nat) (r1:List Nat),k<=N+3/\i= .int .i64 ((k:Int))/\c= .int .u64 ((e:Nat):Int)/\e<=1/\Hid (PK r6 d k e r1/\aQ wr g (P++(r1++S))/\w.grownBy wr (some g))) (fun _ i _=>N+3-(intOf i).toNat)
      case atStart=>exact⟨0,0,r6,by omega,rfl,rfl,by omega,B6.out,H6.out.2.2.1,H6.out.2.2.2.1⟩
      case round=>
       obtain⟨k,e,r1,hk,rfl,rfl,he,HI⟩:=hrel;by_cases hkn:k<N+3
       ·have hkn2:(k:Int)<(N:Int)+3:=by omega
        obtain⟨pk,hrw,hgw⟩:=HI.out;have hl1:k<r1.length:=by rw[pk.len,H6.out.1];exact hkn
        have c0:=hrw.cell (k:=off+k) uN;have f0:=hrw.frozen (off+k);have g2:=hrw.lt;obtain⟨x,hx⟩:∃x,r6.getD k 0=x:=⟨_,rfl⟩;obtain⟨y,hy⟩:∃y,d.getD k 0=y:=⟨_,rfl⟩;rw[<-HP.out,iR P r1 S k hl1,pk.hi k (ai _),hx,HP.out]at c0;have by':y<4294967296:=by rw[<-hy];exact Dg.aV K.out.dd aA k
        have bx:x<4294967296:=by rw[<-hx];exact Dg.aV H6.out.2.1 aA k
        have PS:=af (pk.step (by rw[H6.out.1];exact hkn) hx hy);have A2:=af (fun w' (h:Ext wr w')=>AT.out k aa w' ((HS.out.grown hgw HNE.out).below (Ext.below h) (ai _)));rw[hy,hld]at A2;have H2:=af (And.intro hrw (And.intro hgw hl1));have bx2:(x:Int)<4294967296:=by omega
        have by2:(y:Int)<4294967296:=by omega
        have he2:(e:Int)<=1:=by omega
        have hqo:(off:Int)+(k:Int)<=2000000000000:=by omega
        clear pk hrw hgw hl1 hx hy HI
        go_wp2_with fail
        (refine wp_region_quiet (C:=Ext _) aD aD (Ext.start _) ?_;simp only[];(repeat(first|go_big_quiet_skip|(go_big_quiet_want;go_big_quiet_op;first|go_big_quiet_on|(apply Exists.intro;refine⟨fun w' hw'=>?_,?_⟩;(focus(first|with_reducible exact rfl|(go_at_call 323;(with_reducible exact Ext.call hw' (A2.out _ hw')))|(obtain⟨gx,rfl⟩:=mob (Ext.below hw');go_simp;exact rfl)));go_big_quiet_on))));refine wpQuiet_nil ?_;intro w12 hw12;have hb12:=Ext.below hw12;clear hw12;obtain⟨g12,rfl⟩:=mob hb12;clear hb12)
        go_wp2_with fail
        go_roundw
        case rel=>
         have e1:((x:Int)+(y:Int)+(e:Int))%4294967296=(((x+y+e)%4294967296:Nat):Int):=by omega
         have e2:((x:Int)+(y:Int)+(e:Int))/4294967296=(((x+y+e)/4294967296:Nat):Int):=by omega
         obtain⟨hrw,hgw,hl1⟩:=H2.out;refine⟨k+1,(x+y+e)/4294967296,r1.set k ((x+y+e)%4294967296),by omega,by go_num,by rw[e2],by omega,PS.out,?_,?_⟩
         ·rw[e1,<-HP.out,<-jT P r1 S k _ hl1];exact(hrw.set pF _).mor _
         ·exact cn hgw (cn (fO _ _ _ _) (eH (fp _ _ (Below.refl _ _) (ai _))))
        case measure=>simp[intOf];omega
       ·obtain rfl:k=N+3:=by omega
        have hkn2:¬(((N+3:Nat)):Int)<(N:Int)+3:=by omega
        have hkn3:¬(N:Int)+3<(N:Int)+3:=by omega
        obtain⟨pk,hrw,hgw⟩:=HI.out;have l1:r1.length=N+3:=by rw[pk.len];exact H6.out.1
        have bM:=Dg.aY pk.dg;have bM6:=Dg.aY H6.out.2.1;have bMd:=Dg.aY K.out.dd;rw[l1]at bM;rw[H6.out.1]at bM6;rw[hld]at bMd;have pv:=pk.val;rw[Dg.aI (by rw[l1];exact ai _),Dg.aI (by rw[H6.out.1];exact ai _),Dg.aI pB]at pv;have NO:=SG.no HQ.out K.out ST.out bM6 H6.out.2.2.2.2 h6 (aE (cC bMd) (cv aA aa)) bM pv;have NOH:=af NO;have q1:(1:Int)<=(q:Int):=by have:=NO.1;omega
        have F:=af (And.intro l1 (And.intro pk.dg (And.intro hrw hgw)));clear pk hrw hgw l1 bM bM6 bMd pv NO HI
        go_wp2_with fail
        refine bodyPost_ret (v:=.int .u32 ((q:Int)-1)) zb43 rfl ⟨r1,?_,F.out.1,F.out.2.1,F.out.2.2.1,F.out.2.2.2,NOH.out.2.2⟩;rw[<-NOH.out.2.1,show(((q-1:Nat)):Int)=(q:Int)-1 by have:=NOH.out.1;omega]
     ·have v6:=H6.out.2.2.2.2;rw[h6]at v6;have YES:=SG.yes HQ.out K.out v6
      go_ret
      exact⟨r6,by rw[<-YES.1];rfl,H6.out.1,H6.out.2.1,H6.out.2.2.1,H6.out.2.2.2.1,YES.2⟩
   ·have hr2:¬(rm:Int)<4294967296:=by omega
    have hr3:decide ((rm:Int)<4294967296)=false:=by rw[db];exact hr2
    have HS0:4294967296<=rm\/a<=rm*4294967296+t0:=.inl aa;clear OVX;have hr4:4294967296<=rm:=by omega
    by_cases ho:OV<a
    ·have ho2:(OV:Int)<(a:Int):=by omega
     have ho3:decide ((OV:Int)<(a:Int))=true:=by rw[ei];exact ho2
     have ST:=af (STOP.out q HQ.out a rm HA.out.1.symm HA.out.2.1 HS0);have TQ:=af (TA.out q qb);clear LESS STOP LE OW HS0
     go_wp2_with fail
     (refine wp_region_quiet (C:=Ext _) aD aD (Ext.start _) ?_;simp only[];(repeat(first|go_big_quiet_skip|(go_big_quiet_want;go_big_quiet_op;first|go_big_quiet_on|(apply Exists.intro;refine⟨fun w' hw'=>?_,?_⟩;(focus(first|with_reducible exact rfl|(go_at_call 358;fail)|(obtain⟨gx,rfl⟩:=mob (Ext.below hw');go_simp;exact rfl)));go_big_quiet_on))));refine wpQuiet_nil ?_;intro w4 hw4;have hb4:=Ext.below hw4;clear hw4;obtain⟨g4,rfl⟩:=mob hb4;clear hb4)
     clear c2 c1 c0 d1 d0 hb2 ha2 hrm2 ab bb rb hs1 ho1 HA
     go_wp2_with (first|(go_at_call 390;(refine(TQ.out _ ?_ ?_).mono ?_);(exact HW.out.below (B:=w.heap.size) az (ai _));(exact HS.out.below (B:=w.heap.size) az (ai _));rintro e w6 ⟨r6,c6,rfl,l6,dg6,rw6,gr6,v6⟩;have gw6:w.grownBy w6 (some g):=cn (eH az) gr6;have H6:=af (And.intro l6 (And.intro dg6 (And.intro rw6 (And.intro gw6 v6))));clear l6 dg6 rw6 gr6 v6 gw6;by_cases h6:c6=0;(have h7:decide (c6=0)=true:=by rw[ei];exact h6);rotate_left;(have h7:decide (c6=0)=false:=by rw[db];exact h6);rotate_left))
     rotate_left
     ·have B6:=af (PK.start (r:=r6) d H6.out.2.1);have AT:=af (fun (i:Nat) (hi:i<=4000000000000) w (hw:WS w (some ⟨gd,0,none⟩) d)=>vX d (some ⟨gd,0,none⟩) cd i pB aa K.out.dd w hw)
      go_loopw [8,85] (fun c i wr=>∃(k e:Nat) (r1:List Nat),k<=N+3/\i= .int .i64 ((k:Int))/\c= .int .u64 ((e:Nat):Int)/\e<=1/\Hid (PK r6 d k e r1/\aQ wr g (P++(r1++S))/\w.grownBy wr (some g))) (fun _ i _=>N+3-(intOf i).toNat)
      case atStart=>exact⟨0,0,r6,by omega,rfl,rfl,by omega,B6.out,H6.out.2.2.1,H6.out.2.2.2.1⟩
      case round=>
       obtain⟨k,e,r1,hk,rfl,rfl,he,HI⟩:=hrel;by_cases hkn:k<N+3
       ·have hkn2:(k:Int)<(N:Int)+3:=by omega
        obtain⟨pk,hrw,hgw⟩:=HI.out;have hl1:k<r1.length:=by rw[pk.len,H6.out.1];exact hkn
        have c0:=hrw.cell (k:=off+k) uN;have f0:=hrw.frozen (off+k);have g2:=hrw.lt;obtain⟨x,hx⟩:∃x,r6.getD k 0=x:=⟨_,rfl⟩;obtain⟨y,hy⟩:∃y,d.getD k 0=y:=⟨_,rfl⟩;rw[<-HP.out,iR P r1 S k hl1,pk.hi k (ai _),hx,HP.out]at c0;have by':y<4294967296:=by rw[<-hy];exact Dg.aV K.out.dd aA k
        have bx:x<4294967296:=by rw[<-hx];exact Dg.aV H6.out.2.1 aA k
        have PS:=af (pk.step (by rw[H6.out.1];exact hkn) hx hy);have A2:=af (fun w' (h:Ext wr w')=>AT.out k aa w' ((HS.out.grown hgw HNE.out).below (Ext.below h) (ai _)));rw[hy,hld]at A2;have H2:=af (And.intro hrw (And.intro hgw hl1));have bx2:(x:Int)<4294967296:=by omega
        have by2:(y:Int)<4294967296:=by omega
        have he2:(e:Int)<=1:=by omega
        have hqo:(off:Int)+(k:Int)<=2000000000000:=by omega
        clear pk hrw hgw hl1 hx hy HI
        go_wp2_with fail
        (refine wp_region_quiet (C:=Ext _) aD aD (Ext.start _) ?_;simp only[];(repeat(first|go_big_quiet_skip|(go_big_quiet_want;go_big_quiet_op;first|go_big_quiet_on|(apply Exists.intro;refine⟨fun w' hw'=>?_,?_⟩;(focus(first|with_reducible exact rfl|(go_at_call 323;(with_reducible exact Ext.call hw' (A2.out _ hw')))|(obtain⟨gx,rfl⟩:=mob (Ext.below hw');go_simp;exact rfl)));go_big_quiet_on))));refine wpQuiet_nil ?_;intro w12 hw12;have hb12:=Ext.below hw12;clear hw12;obtain⟨g12,rfl⟩:=mob hb12;clear hb12)
        go_wp2_with fail
        go_roundw
        case rel=>
         have e1:((x:Int)+(y:Int)+(e:Int))%4294967296=(((x+y+e)%4294967296:Nat):Int):=by omega
         have e2:((x:Int)+(y:Int)+(e:Int))/4294967296=(((x+y+e)/4294967296:Nat):Int):=by omega
         obtain⟨hrw,hgw,hl1⟩:=H2.out;refine⟨k+1,(x+y+e)/4294967296,r1.set k ((x+y+e)%4294967296),by omega,by go_num,by rw[e2],by omega,PS.out,?_,?_⟩
         ·rw[e1,<-HP.out,<-jT P r1 S k _ hl1];exact(hrw.set pF _).mor _
         ·exact cn hgw (cn (fO _ _ _ _) (eH (fp _ _ (Below.refl _ _) (ai _))))
        case measure=>simp[intOf];omega
       ·obtain rfl:k=N+3:=by omega
        have hkn2:¬(((N+3:Nat)):Int)<(N:Int)+3:=by omega
        have hkn3:¬(N:Int)+3<(N:Int)+3:=by omega
        obtain⟨pk,hrw,hgw⟩:=HI.out;have l1:r1.length=N+3:=by rw[pk.len];exact H6.out.1
        have bM:=Dg.aY pk.dg;have bM6:=Dg.aY H6.out.2.1;have bMd:=Dg.aY K.out.dd;rw[l1]at bM;rw[H6.out.1]at bM6;rw[hld]at bMd;have pv:=pk.val;rw[Dg.aI (by rw[l1];exact ai _),Dg.aI (by rw[H6.out.1];exact ai _),Dg.aI pB]at pv;have NO:=SG.no HQ.out K.out ST.out bM6 H6.out.2.2.2.2 h6 (aE (cC bMd) (cv aA aa)) bM pv;have NOH:=af NO;have q1:(1:Int)<=(q:Int):=by have:=NO.1;omega
        have F:=af (And.intro l1 (And.intro pk.dg (And.intro hrw hgw)));clear pk hrw hgw l1 bM bM6 bMd pv NO HI
        go_wp2_with fail
        refine bodyPost_ret (v:=.int .u32 ((q:Int)-1)) zb43 rfl ⟨r1,?_,F.out.1,F.out.2.1,F.out.2.2.1,F.out.2.2.2,NOH.out.2.2⟩;rw[<-NOH.out.2.1,show(((q-1:Nat)):Int)=(q:Int)-1 by have:=NOH.out.1;omega]
     ·have v6:=H6.out.2.2.2.2;rw[h6]at v6;have YES:=SG.yes HQ.out K.out v6
      go_ret
      exact⟨r6,by rw[<-YES.1];rfl,H6.out.1,H6.out.2.1,H6.out.2.2.1,H6.out.2.2.2.1,YES.2⟩
    ·have ho2:¬(OV:Int)<(a:Int):=by omega
     have ho3:decide ((OV:Int)<(a:Int))=false:=by rw[db];exact ho2
     have ST:=af (STOP.out q HQ.out a rm HA.out.1.symm HA.out.2.1 HS0);have TQ:=af (TA.out q qb);clear LESS STOP LE OW HS0
     go_wp2_with fail
     (refine wp_region_quiet (C:=Ext _) aD aD (Ext.start _) ?_;simp only[];(repeat(first|go_big_quiet_skip|(go_big_quiet_want;go_big_quiet_op;first|go_big_quiet_on|(apply Exists.intro;refine⟨fun w' hw'=>?_,?_⟩;(focus(first|with_reducible exact rfl|(go_at_call 358;fail)|(obtain⟨gx,rfl⟩:=mob (Ext.below hw');go_simp;exact rfl)));go_big_quiet_on))));refine wpQuiet_nil ?_;intro w4 hw4;have hb4:=Ext.below hw4;clear hw4;obtain⟨g4,rfl⟩:=mob hb4;clear hb4)
     clear c2 c1 c0 d1 d0 hb2 ha2 hrm2 ab bb rb hs1 ho1 HA
     go_wp2_with (first|(go_at_call 390;(refine(TQ.out _ ?_ ?_).mono ?_);(exact HW.out.below (B:=w.heap.size) az (ai _));(exact HS.out.below (B:=w.heap.size) az (ai _));rintro e w6 ⟨r6,c6,rfl,l6,dg6,rw6,gr6,v6⟩;have gw6:w.grownBy w6 (some g):=cn (eH az) gr6;have H6:=af (And.intro l6 (And.intro dg6 (And.intro rw6 (And.intro gw6 v6))));clear l6 dg6 rw6 gr6 v6 gw6;by_cases h6:c6=0;(have h7:decide (c6=0)=true:=by rw[ei];exact h6);rotate_left;(have h7:decide (c6=0)=false:=by rw[db];exact h6);rotate_left))
     rotate_left
     ·have B6:=af (PK.start (r:=r6) d H6.out.2.1);have AT:=af (fun (i:Nat) (hi:i<=4000000000000) w (hw:WS w (some ⟨gd,0,none⟩) d)=>vX d (some ⟨gd,0,none⟩) cd i pB aa K.out.dd w hw)
      go_loopw [8,85] (fun c i wr=>∃(k e:Nat) (r1:List Nat),k<=N+3/\i= .int .i64 ((k:Int))/\c= .int .u64 ((e:Nat):Int)/\e<=1/\Hid (PK r6 d k e r1/\aQ wr g (P++(r1++S))/\w.grownBy wr (some g))) (fun _ i _=>N+3-(intOf i).toNat)
      case atStart=>exact⟨0,0,r6,by omega,rfl,rfl,by omega,B6.out,H6.out.2.2.1,H6.out.2.2.2.1⟩
      case round=>
       obtain⟨k,e,r1,hk,rfl,rfl,he,HI⟩:=hrel;by_cases hkn:k<N+3
       ·have hkn2:(k:Int)<(N:Int)+3:=by omega
        obtain⟨pk,hrw,hgw⟩:=HI.out;have hl1:k<r1.length:=by rw[pk.len,H6.out.1];exact hkn
        have c0:=hrw.cell (k:=off+k) uN;have f0:=hrw.frozen (off+k);have g2:=hrw.lt;obtain⟨x,hx⟩:∃x,r6.getD k 0=x:=⟨_,rfl⟩;obtain⟨y,hy⟩:∃y,d.getD k 0=y:=⟨_,rfl⟩;rw[<-HP.out,iR P r1 S k hl1,pk.hi k (ai _),hx,HP.out]at c0;have by':y<4294967296:=by rw[<-hy];exact Dg.aV K.out.dd aA k
        have bx:x<4294967296:=by rw[<-hx];exact Dg.aV H6.out.2.1 aA k
        have PS:=af (pk.step (by rw[H6.out.1];exact hkn) hx hy);have A2:=af (fun w' (h:Ext wr w')=>AT.out k aa w' ((HS.out.grown hgw HNE.out).below (Ext.below h) (ai _)));rw[hy,hld]at A2;have H2:=af (And.intro hrw (And.intro hgw hl1));have bx2:(x:Int)<4294967296:=by omega
        have by2:(y:Int)<4294967296:=by omega
        have he2:(e:Int)<=1:=by omega
        have hqo:(off:Int)+(k:Int)<=2000000000000:=by omega
        clear pk hrw hgw hl1 hx hy HI
        go_wp2_with fail
        (refine wp_region_quiet (C:=Ext _) aD aD (Ext.start _) ?_;simp only[];(repeat(first|go_big_quiet_skip|(go_big_quiet_want;go_big_quiet_op;first|go_big_quiet_on|(apply Exists.intro;refine⟨fun w' hw'=>?_,?_⟩;(focus(first|with_reducible exact rfl|(go_at_call 323;(with_reducible exact Ext.call hw' (A2.out _ hw')))|(obtain⟨gx,rfl⟩:=mob (Ext.below hw');go_simp;exact rfl)));go_big_quiet_on))));refine wpQuiet_nil ?_;intro w12 hw12;have hb12:=Ext.below hw12;clear hw12;obtain⟨g12,rfl⟩:=mob hb12;clear hb12)
        go_wp2_with fail
        go_roundw
        case rel=>
         have e1:((x:Int)+(y:Int)+(e:Int))%4294967296=(((x+y+e)%4294967296:Nat):Int):=by omega
         have e2:((x:Int)+(y:Int)+(e:Int))/4294967296=(((x+y+e)/4294967296:Nat):Int):=by omega
         obtain⟨hrw,hgw,hl1⟩:=H2.out;refine⟨k+1,(x+y+e)/4294967296,r1.set k ((x+y+e)%4294967296),by omega,by go_num,by rw[e2],by omega,PS.out,?_,?_⟩
         ·rw[e1,<-HP.out,<-jT P r1 S k _ hl1];exact(hrw.set pF _).mor _
         ·exact cn hgw (cn (fO _ _ _ _) (eH (fp _ _ (Below.refl _ _) (ai _))))
        case measure=>simp[intOf];omega
       ·obtain rfl:k=N+3:=by omega
        have hkn2:¬(((N+3:Nat)):Int)<(N:Int)+3:=by omega
        have hkn3:¬(N:Int)+3<(N:Int)+3:=by omega
        obtain⟨pk,hrw,hgw⟩:=HI.out;have l1:r1.length=N+3:=by rw[pk.len];exact H6.out.1
        have bM:=Dg.aY pk.dg;have bM6:=Dg.aY H6.out.2.1;have bMd:=Dg.aY K.out.dd;rw[l1]at bM;rw[H6.out.1]at bM6;rw[hld]at bMd;have pv:=pk.val;rw[Dg.aI (by rw[l1];exact ai _),Dg.aI (by rw[H6.out.1];exact ai _),Dg.aI pB]at pv;have NO:=SG.no HQ.out K.out ST.out bM6 H6.out.2.2.2.2 h6 (aE (cC bMd) (cv aA aa)) bM pv;have NOH:=af NO;have q1:(1:Int)<=(q:Int):=by have:=NO.1;omega
        have F:=af (And.intro l1 (And.intro pk.dg (And.intro hrw hgw)));clear pk hrw hgw l1 bM bM6 bMd pv NO HI
        go_wp2_with fail
        refine bodyPost_ret (v:=.int .u32 ((q:Int)-1)) zb43 rfl ⟨r1,?_,F.out.1,F.out.2.1,F.out.2.2.1,F.out.2.2.2,NOH.out.2.2⟩;rw[<-NOH.out.2.1,show(((q-1:Nat)):Int)=(q:Int)-1 by have:=NOH.out.1;omega]
     ·have v6:=H6.out.2.2.2.2;rw[h6]at v6;have YES:=SG.yes HQ.out K.out v6
      go_ret
      exact⟨r6,by rw[<-YES.1];rfl,H6.out.1,H6.out.2.1,H6.out.2.2.1,H6.out.2.2.2.1,YES.2⟩
end
section
theorem yG{l:List Nat}{N k:Nat}(h:Dg.dig B32 l)(hl:l.length=N+2)(h1:l.getD (N+1) 0*2^k<4294967296)(h2:2147483648<=l.getD (N+1) 0*2^k)(hk:k<=31){d:List Nat}(hd:Dg.NF B32 d)(hv:Dg.vl B32 d=Dg.vl B32 l*2^k):
  d.length=N+2/\2147483648<=d.getD (N+1) 0:=by
 have e:=Dg.dh (b:=B32) l (i:=N+1) aa;rw[Dg.bI aa,gM aa,Dg.jQ]at e;simp only[eL,bS]at e;have r0:=Dg.aY (Dg.eB h (N+1));rw[bf,dn aa]at r0;generalize l.getD (N+1) 0=t at*;generalize Dg.vl B32 (l.take (N+1))=r at*;have hP:0<B32^(N+1):=ff aA;have hkp:0<2^k:=ff aA;have t1:(t+1)*2^k<=4294967296:=by
  have e32:4294967296=2^(32-k)*2^k:=by
   rw[<-ja,show 32-k+k=32 by omega]
  rw[e32]at h1⊢;exact cE _ (Nat.lt_of_mul_lt_mul_right h1)
 have up:Dg.vl B32 d<4294967296*B32^(N+1):=by
  rw[hv];have h3:Dg.vl B32 l<(t+1)*B32^(N+1):=by
   rw[e,aU,cI,aK _ t];omega
  have h4:Dg.vl B32 l*2^k<(t+1)*B32^(N+1)*2^k:=Nat.mul_lt_mul_of_pos_right h3 hkp;have h5:(t+1)*B32^(N+1)*2^k<=4294967296*B32^(N+1):=by
   rw[br,aK (B32^(N+1)),<-br];exact cE _ t1
  omega
 have lo:2147483648*B32^(N+1)<=Dg.vl B32 d:=by
  rw[hv,e,aU,aK _ t,br t,aK (B32^(N+1)) (2^k),<-br];have:=cE (B32^(N+1)) h2;omega
 have len:d.length=N+2:=by
  apply qL
  ·apply cq;intro hlt;obtain⟨m,hm⟩:∃m,d.length=m+1:=⟨d.length-1,by omega⟩;have h3:=Dg.jq hm hd;have h4:B32^(N+2)<=B32^m:=cv aA aa;have h5:B32^(N+2)=4294967296*B32^(N+1):=by rw[bT,aK]
   omega
  ·apply cq;intro hlt;have h3:=Dg.aY hd.dg;have h4:B32^d.length<=B32^(N+1):=cv aA aa;omega
 refine⟨len,?_⟩;have e2:=Dg.dh (b:=B32) d (i:=N+1) aa;rw[Dg.bI aa,gM aa,Dg.jQ]at e2;simp only[eL,bS]at e2;have r2:=Dg.aY (Dg.eB hd.dg (N+1));rw[bf,dn aa]at r2;apply cq;intro hlt;have h6:(d.getD (N+1) 0+1)*B32^(N+1)<=2147483648*B32^(N+1):=cE _ hlt;rw[aU,cI,aK _ (B32^(N+1))]at h6;omega
structure DV(A:Nat)(d:List Nat)(N M j:Nat)(q o:List Nat):Prop where
 lq:q.length=M
 lo:o.length=M+(N+2)
 dq:Dg.dig B32 q
 dO:Dg.dig B32 o
 lt:Dg.vl B32 (o.drop j)<Dg.vl B32 d
 val:A=Dg.vl B32 d*(B32^j*Dg.vl B32 (q.drop j))+Dg.vl B32 o
theorem DV.win{A:Nat}{d:List Nat}{N M j:Nat}{q o:List Nat}(h:DV A d N M (j+1) q o)(hd:Dg.dig B32 d)(hdl:d.length=N+2)(hv:1<=d.getD (N+1) 0)(hj:j<M):
  ∃P r S,o=P++(r++S)/\P.length=j/\SN r d N/\Dg.vl B32 S=0/\Dg.dig B32 P/\Dg.dig B32 S:=by
 have hdM:=Dg.aY hd;rw[hdl]at hdM;have hlo:=h.lo;have e1:=Dg.bI (b:=B32) (l:=o) (i:=j) aa;have h2:o.getD j 0<4294967296:=Dg.aV h.dO aA j;have hlt:=h.lt;have h3:Dg.vl B32 (o.drop j)<4294967296*Dg.vl B32 d:=by
  rw[e1];show _+4294967296*_<_;omega
 have e2:=Dg.dh (b:=B32) (o.drop j) (i:=N+3) (by rw[fU];omega);have h4:B32^(N+3)=4294967296*B32^(N+2):=by rw[bT,aK]
 have hS:Dg.vl B32 ((o.drop j).drop (N+3))=0:=by
  apply nY;intro h0;have:=fi (B32^(N+3)) h0;omega
 rw[hS,eL,bS]at e2;refine⟨o.take j,(o.drop j).take (N+3),(o.drop j).drop (N+3),by rw[oc,oc],by rw[bf];omega,⟨Dg.eB (Dg.nO h.dO j) _,hd,by rw[bf,fU];omega,hdl,hv,?_⟩,hS,Dg.eB h.dO j,Dg.nO (Dg.nO h.dO j) _⟩;rw[<-e2];exact h3
theorem DV.step{A:Nat}{d:List Nat}{N M:Nat}{q P r S r':List Nat}(h:DV A d N M (P.length+1) q (P++(r++S)))(k:SN r d N)(hj:P.length<M)(hS:Dg.vl B32 S=0)(hP:Dg.dig B32 P)(hSd:Dg.dig B32 S)(hr:Dg.dig B32 r')(hl:r'.length=N+3)(hv:Dg.vl B32 r'=Dg.vl B32 r%Dg.vl B32 d):
  DV A d N M P.length (q.set P.length (Dg.vl B32 r/Dg.vl B32 d)) (P++(r'++S)):=by
 have hq:Dg.vl B32 r/Dg.vl B32 d<B32:=Dg.xa (B:=4294967296) k.lt;have hlo:=h.lo;rw[bK,bK,k.lr]at hlo;have e0:=gO (Dg.vl B32 r) (Dg.vl B32 d);refine⟨by rw[fb];exact h.lq,by rw[bK,bK,hl];exact hlo,Dg.dw h.dq hq,Dg.iA hP (Dg.iA hr hSd),?_,?_⟩
 ·rw[List.drop_append_of_le_length (ai _),List.drop_length,kg,Dg.cS,hS,eL,bS,hv];exact dQ _ k.pos
 ·have hval:=h.val;rw[Dg.mY (by rw[h.lq];exact hj),Dg.cS,Dg.cS,hS,eL,bS,hv];rw[Dg.cS,Dg.cS,hS,eL,bS,bT]at hval;rw[hval];generalize Dg.vl B32 d=V at*;generalize Dg.vl B32 r/V=t at*;generalize Dg.vl B32 r%V=u at*;generalize Dg.vl B32 (q.drop (P.length+1))=Q at*;rw[<-e0];generalize B32^P.length=X at*;generalize Dg.vl B32 P=Y at*;simp only[cw,iZ,aK];omega
theorem DV.done{A V k:Nat}{d:List Nat}{N M:Nat}{q o:List Nat}(h:DV (A*2^k) d N M 0 q o)(hd:Dg.vl B32 d=V*2^k)(hdd:Dg.dig B32 d)(hdl:d.length=N+2)(hV:0<V):
  Dg.vl B32 q=A/V/\Dg.vl B32 (o.take (N+2))/2^k=A%V:=by
 have hkp:0<2^k:=ff aA;have hval:=h.val;have hlt:=h.lt;rw[iX]at hlt;rw[Nat.pow_zero,cI,iX,hd]at hval;have hdM:=Dg.aY hdd;rw[hdl]at hdM;have ho:Dg.vl B32 (o.take (N+2))=Dg.vl B32 o:=by
  have e2:=Dg.dh (b:=B32) o (i:=N+2) (by rw[h.lo];omega);have hS:Dg.vl B32 (o.drop (N+2))=0:=by
   apply nY;intro h0;have:=fi (B32^(N+2)) h0;omega
  rw[hS,eL,bS]at e2;exact e2.symm
 rw[ho];rw[hd]at hlt;generalize Dg.vl B32 q=Q at*;generalize Dg.vl B32 o=R at*;have q1:A*2^k/(V*2^k)=A/V:=Nat.mul_div_mul_right _ _ hkp;have q2:A*2^k%(V*2^k)=A%V*2^k:=Nat.mul_mod_mul_right _ _ _;have p:0<V*2^k:=mr hV hkp;rw[hval,Nat.mul_add_div p,qI hlt,bS]at q1;rw[hval,Nat.mul_add_mod,ik hlt]at q2;exact⟨q1,by rw[q2,rF _ hkp]⟩
end
section
open Go.RowKit Go.BigFrame
attribute [local go_sem ↓] Go.wp_at_zero Go.wp_at_succ
def wh(w:World)(Q R:Nat)(e:Ending)(w':World):Prop:=∃a1 l1 c1 a2 l2 c2,e= .returned (.tuple #[.slice a1 l1.length c1,.slice a2 l2.length c2])/\l1.length<=c1/\l2.length<=c2/\WS w' a1 l1/\WS w' a2 l2/\Dg.NF B32 l1/\Dg.NF B32 l2/\Dg.vl B32 l1=Q/\Dg.vl B32 l2=R/\Below w.heap.size w w'
theorem eK.row{w:World}{base:Nat}{v:Value}{l:List Nat}(h:eK w base v l)(hl:0<l.length):∃g cap,v= .slice (some ⟨g,0,none⟩) l.length cap/\l.length<=cap/\base<=g/\aQ w g l:=by
 obtain⟨h0,h⟩:=h;rcases h with⟨_,hn⟩|⟨g,cap,cur,rfl,hb,hg,hle,hm,hsz,htk⟩
 ·omega
 ·refine⟨g,cap,rfl,hle,hb,(ft.1 hg).1,fun k hk=>?_,fun k=>?_⟩
  ·rw[cell_of_row w g _ cur _ (0,0) hg];have h1:(fK l)[k]?=some (.int .u32 ((l.getD k 0:Nat):Int)):=by
    unfold fK;rw[eg,aP hk,bg,aP hk];rfl
   rw[<-htk,kj aa,cM]at h1;exact h1
  ·simp[World.frozen?,hg]
set_option maxRecDepth 10000 in
set_option maxHeartbeats 4000000 in
theorem sM(la lb:List Nat)(a b:Option Addr)(ca cb:Nat)(ha:Dg.NF B32 la)(hb:Dg.NF B32 lb)(bl:la.length<=900000000000)(hca:la.length<=ca)(hlt:Dg.vl B32 la<Dg.vl B32 lb)(w:World)(h1:WS w a la)(h2:WS w b lb):
  Calls Tryz.prog 332 #[.slice a la.length ca,.slice b lb.length cb] w (wh w (Dg.vl B32 la/Dg.vl B32 lb) (Dg.vl B32 la%Dg.vl B32 lb)):=by
 have CO:=af (fun w h1 h2=>fB la lb a b ca cb ha hb aa w h1 h2);have e:du (Dg.vl B32 la) (Dg.vl B32 lb)= -1:=by unfold du;rw[aB hlt]
 rw[e]at CO;have H1:=af h1;have H2:=af h2;have F:=af (And.intro ha (And.intro hca hlt));clear h1 h2 ha hb hca hlt e;generalize hn:la.length=n at*;generalize lb.length=m at*;have HN:=af hn;clear hn
 go_enter Tryz.func332,Tryz.ntmps332
 go_wp2_with (first|(go_at_call 319;(with_reducible refine(CO.out _ ?_ ?_).mono ?_);(exact H1.out);(exact H2.out);rintro e w1 ⟨rfl,hb1⟩;obtain⟨g1,rfl⟩:=mob hb1;clear hb1))
 refine bodyPost_ret (v:=.tuple #[.slice none 0 0,.slice a n ca]) zb44 rfl ?_;refine⟨none,[],0,a,la,ca,by rw[HN.out];rfl,ai _,by rw[HN.out];exact F.out.2.1,WS.nil _ _,H1.out.below (B:=w.heap.size) az (ai _),Dg.xj,F.out.1,(qI F.out.2.2).symm,(ik F.out.2.2).symm,by exact bel⟩
set_option maxRecDepth 10000 in
set_option maxHeartbeats 4000000 in
theorem vM(la:List Nat)(d:Nat)(a b:Option Addr)(ca cb:Nat)(ha:Dg.NF B32 la)(hd:1<=d/\d<4294967296)(bl:la.length<=900000000000)(hlt:d<=Dg.vl B32 la)(w:World)(h1:WS w a la)(h2:WS w b [d]):
  Calls Tryz.prog 332 #[.slice a la.length ca,.slice b 1 cb] w (wh w (Dg.vl B32 la/d) (Dg.vl B32 la%d)):=by
 have hnf:Dg.NF B32 [d]:=⟨fun x hx=>by rw[cD.1 hx];exact hd.2,by simp;omega⟩;have hvd:Dg.vl B32 [d]=d:=by simp[Dg.vl]
 have CO:Hid (∀w,WS w a la->WS w b [d]->Calls Tryz.prog 319 #[.slice a la.length ca,.slice b 1 cb] w fun e w'=>e= .returned (.int .i64 (du (Dg.vl B32 la) (Dg.vl B32 [d])))/\Below w.heap.size w w'):=fun w h1 h2=>fB la [d] a b ca cb ha hnf aa w h1 h2;obtain⟨c,hc⟩:∃c,c=du (Dg.vl B32 la) (Dg.vl B32 [d]):=⟨_,rfl⟩;have hc0:c=0\/c=1:=by rw[hc,hvd];unfold du;rw[an aa];split<;>omega
 rw[<-hc]at CO;have SH:=af (fun w h=>lC la a ca d hd ha.dg aa w h);have OF:=af (fun w=>xh (Dg.vl B32 la%d) (by have:=dQ (Dg.vl B32 la) hd.1;omega) w);have hrb:Dg.vl B32 la%d<4294967296:=by have:=dQ (Dg.vl B32 la) hd.1;omega
 generalize Dg.vl B32 la%d=R at*;generalize Dg.vl B32 la/d=Q at*;have hrb2:(R:Int)<4294967296:=by omega
 obtain⟨gb,rfl⟩:∃gb,b=some ⟨gb,0,none⟩:=by
  rcases h2 with h0|⟨gd,e,_⟩
  ·cases h0
  ·exact⟨gd,e⟩
 have cb0:w.cell? ⟨gb,0,none⟩=some (.int .u32 (d:Int)):=by
  rcases h2 with h0|⟨gd,e,_,hcc⟩
  ·cases h0
  ·cases e;exact hcc 0 d rfl
 have gb0:gb<w.heap.size:=World.block_lt_of_cell? w ⟨gb,0,none⟩ cb0;have H1:=af h1;have H2:=af h2;clear h1 h2 ha hc hlt hnf hvd;generalize la.length=n at*
 go_enter Tryz.func332,Tryz.ntmps332
 rcases hc0 with rfl|rfl;all_goals go_wp2_with (first|(go_at_call 319;(with_reducible refine(CO.out _ ?_ ?_).mono ?_);(exact H1.out);(exact H2.out);rintro e w1 ⟨rfl,hb1⟩;obtain⟨g1,rfl⟩:=mob hb1;clear hb1)|(go_at_call 356;(with_reducible refine(SH.out _ ?_).mono ?_);(exact H1.out.below (B:=w.heap.size) az (ai _));rintro e w2 ⟨⟨a1,l1,rfl,s1,s2,s3⟩,hb2⟩;have S1:=af (And.intro s1 (And.intro s2 s3));clear s1 s2 s3;obtain⟨g2,rfl⟩:=mob hb2;clear hb2)|(go_at_call 247;(with_reducible refine(OF.out _).mono ?_);rintro e w3 ⟨⟨a3,l3,rfl,s1,s2,s3⟩,hb3⟩;have S3:=af (And.intro s1 (And.intro s2 s3));clear s1 s2 s3;have HB3:=af hb3;obtain⟨g3,rfl⟩:=mob hb3;clear hb3))
 all_goals refine bodyPost_ret (v:=.tuple #[.slice a1 l1.length l1.length,.slice a3 l3.length l3.length]) zb44 rfl ?_
 all_goals exact⟨a1,l1,_,a3,l3,_,rfl,ai _,ai _,S1.out.1.below HB3.out (ai _),S3.out.1,S1.out.2.1,S3.out.2.1,S1.out.2.2,S3.out.2.2,by exact bel⟩
end
section
open Go.RowKit Go.BigFrame
attribute [local go_sem ↓] Go.wp_at_zero Go.wp_at_succ
theorem na{l lr:List Nat}{k:Nat}(hk:k<=31)(hl:Dg.dig B32 l)(hr:Dg.NF B32 lr)(hv:Dg.vl B32 lr=Dg.vl B32 l*2^k):lr.length<=l.length+1:=by
 apply cq;intro hlt;obtain⟨m,hm⟩:∃m,lr.length=m+1:=⟨lr.length-1,by omega⟩;have h1:=Dg.jq hm hr;have h2:=Dg.aY hl;have h3:B32^(l.length+1)<=B32^m:=cv aA aa;have h4:B32^(l.length+1)=4294967296*B32^l.length:=by rw[bT,aK]
 have h5:2^k<4294967296:=by
  have:=uT (a:=2) aa (show k<32 by omega);omega
 have h6:Dg.vl B32 l*2^k<B32^l.length*4294967296:=rE h2 (cC h5) aa;omega
theorem DV.start{la lr d:List Nat}{N M k:Nat}(hla:Dg.dig B32 la)(hp:la.length=M+(N+1))(hk:k<=31)(hr:Dg.dig B32 lr)(hv:Dg.vl B32 lr=Dg.vl B32 la*2^k)(hl:lr.length=M+(N+2))(hdl:d.length=N+2)(h1:2147483648<=d.getD (N+1) 0):
  DV (Dg.vl B32 la*2^k) d N M M (List.replicate M 0) lr:=by
 refine⟨by simp,hl,Dg.eW aA _,hr,?_,?_⟩
 ·have e:=Dg.dh (b:=B32) lr (i:=M) aa;have e2:=Dg.dh (b:=B32) d (i:=N+1) aa;rw[Dg.bI aa,gM aa,Dg.jQ]at e2;simp only[eL,bS]at e2;have h3:=Dg.aY hla;rw[hp,ja]at h3;have h5:2^k<=2147483648:=by
   have:=cv (n:=2) aa hk;omega
  have h6:Dg.vl B32 la*2^k<B32^M*B32^(N+1)*2147483648:=rE h3 h5 aa;have h7:B32^M*Dg.vl B32 (lr.drop M)<B32^M*(B32^(N+1)*2147483648):=by
   rw[<-br];omega
  have h8:=Nat.lt_of_mul_lt_mul_left h7;have h9:B32^(N+1)*2147483648<=B32^(N+1)*d.getD (N+1) 0:=fi _ h1;omega
 ·rw[gM aO,Dg.jQ,hv];simp
theorem aQ.grown{w w':World}{g g':Nat}{o:List Nat}(h:aQ w g o)(hg:w.grownBy w' (some g'))(hne:g≠g'):aQ w' g o:=
 ⟨aH h.lt hg.size,fun k hk=>(World.cell?_of_block (a:=⟨g,k,none⟩) (hg.block g h.lt (fun e=>hne (by cases e;rfl)))).trans (h.cells k hk),fun k=>(World.frozen?_of_block (a:=⟨g,k,none⟩) (hg.block g h.lt (fun e=>hne (by cases e;rfl)))).trans (h.fr k)⟩
def slen:Value->Nat
 | .slice _ n _=>n
 |_=>0
theorem eK.low{W W':World}{base:Nat}{v:Value}{l:List Nat}(h:eK W base v l)(hb:Below W.heap.size W W'):eK W' base v l:=
 World.ownsRow.kept (row:=none) h ⟨hb.os,hb.tape,hb.output,hb.size,fun k hk _=>hb.block k hk⟩ (by cases v.ownBlock<;>simp)
theorem eK.Cm(W:World)(base b:Nat)(hb:b=W.heap.size)(h:base<=b):eK (W.alloc (.cells #[] 280)) base (.slice (some ⟨b,0,none⟩) 0 0) []:=by
 subst hb;exact⟨by simp[fK],.inr ⟨W.heap.size,0,#[],rfl,h,heap_alloc_new W _,ai _,by simp[maxLen],rfl,rfl⟩⟩
theorem tI{w:World}{a:Option Addr}{l:List Nat}(h:WS w a l)(hl:l≠[]):∃g,a=some ⟨g,0,none⟩:=by
 rcases h with h|⟨g,e,_⟩
 ·exact absurd h hl
 ·exact⟨g,e⟩
theorem oI{l lr:List Nat}{k:Nat}(hl:Dg.NF B32 l)(hv:Dg.vl B32 lr=Dg.vl B32 l*2^k)(hp:0<l.length):lr≠[]:=fun e=>by
 have h1:=Dg.gi hl (fun e2=>by rw[e2]at hp;simp at hp) aA;have h2:0<Dg.vl B32 l*2^k:=mr h1 (ff aA);rw[<-hv,e]at h2;simp[Dg.vl]at h2
set_option maxRecDepth 100000 in
set_option maxHeartbeats 8000000 in
theorem tF(la lb:List Nat)(a b:Option Addr)(ca cb N:Nat)(ha:Dg.NF B32 la)(hb:Dg.NF B32 lb)(hbl:lb.length=N+2)(bl:la.length<=900000000000)(hge:Dg.vl B32 lb<=Dg.vl B32 la)(w:World)(h1:WS w a la)(h2:WS w b lb):
  Calls Tryz.prog 332 #[.slice a la.length ca,.slice b (N+2) cb] w (wh w (Dg.vl B32 la/Dg.vl B32 lb) (Dg.vl B32 la%Dg.vl B32 lb)):=by
 have hpl:N+2<=la.length:=by
  apply cq;intro hlt;have:=Dg.fN aA ha hb aa;omega
 have CO:=af (fun w h1 h2=>fB la lb a b ca cb ha hb aa w h1 h2);rw[hbl]at CO;obtain⟨c,hc⟩:∃c,c=du (Dg.vl B32 la) (Dg.vl B32 lb):=⟨_,rfl⟩;have hc0:decide (c<0)=false:=by rw[db,hc];unfold du;rw[an aa];split<;>omega
 rw[<-hc]at CO;obtain⟨bt,hbt⟩:∃bt,lb.getD (N+1) 0=bt:=⟨_,rfl⟩;have bt0:1<=bt:=by
  have:=hb.nz;rw[uX,hbl,show N+2-1=N+1 by omega]at this;rw[bg,aP aa]at hbt;rw[aP aa]at this;apply fR;intro e;rw[e]at hbt;exact this (by rw[<-hbt];rfl)
 have btb:bt<4294967296:=by rw[<-hbt];exact Dg.aV hb.dg aA _
 obtain⟨gb,rfl⟩:∃gb,b=some ⟨gb,0,none⟩:=by
  rcases h2 with h0|⟨gd,e,_⟩
  ·rw[h0]at hbl;simp at hbl
  ·exact⟨gd,e⟩
 have cb0:w.cell? ⟨gb,N+1,none⟩=some (.int .u32 (bt:Int)):=by
  rcases h2 with h0|⟨gd,e,_,hcc⟩
  ·rw[h0]at hbl;simp at hbl
  ·cases e;rw[hcc (N+1) _ (aP aa),<-hbt,bg,aP aa];rfl
 have gb0:gb<w.heap.size:=World.block_lt_of_cell? w ⟨gb,N+1,none⟩ cb0;have SA:=af (fun k hk w h=>nd la a ca k hk ha.dg aa w h);have SB:=af (fun k hk w h=>nd lb (some ⟨gb,0,none⟩) cb k hk hb.dg aa w h);rw[hbl]at SB;have H1:=af h1;have H2:=af h2;have HB:=af (And.intro hb (And.intro hbl hbt));have HA:=af ha;have HVp:Hid (0<Dg.vl B32 lb):=Dg.gi hb (fun e=>by rw[e]at hbl;simp at hbl) aA;clear h1 h2 ha hb hc hge hbl hbt;generalize hp:la.length=p at*;have HP:=af hp;clear hp;have n1:(N:Int)+2-1=(N:Int)+1:=by omega
 have n3:¬(N:Int)+2=1:=by omega
 have n4:((N:Int)+2==1)=false:=by simp;omega
 have btI:(1:Int)<=(bt:Int):=by omega
 have btJ:(bt:Int)<4294967296:=by omega
 have i1:(N:Int)+1<(N:Int)+2:=by omega
 go_enter Tryz.func332,Tryz.ntmps332
 go_upto_region 6 with(first|(go_at_call 319;(with_reducible refine(CO.out _ ?_ ?_).mono ?_);(exact H1.out);(exact H2.out);rintro e w1 ⟨rfl,hb1⟩;obtain⟨g1,rfl⟩:=mob hb1;clear hb1))
 go_wp2_with fail
 go_loopw [8] (fun c wr=>∃k:Nat,c= .int .u64 (k:Int)/\k<=31/\bt*2^k<4294967296/\Ext w wr) (fun c _=>32-(intOf c).toNat)
 case atStart=>exact⟨0,rfl,by omega,by simp;omega,gu az⟩
 case round=>
  obtain⟨k,rfl,hk,hsv,hext⟩:=hrel;obtain⟨gx,rfl⟩:=mob (Ext.below hext);clear hext;obtain⟨sv,hs⟩:∃sv,sv=bt*2^k:=⟨_,rfl⟩;have hs2:((bt:Int)*2^k)%4294967296=(sv:Int):=by
   have e:((bt:Int)*2^k)=((bt*2^k:Nat):Int):=by simp
   rw[e,<-hs];rw[<-hs]at hsv;omega
  have hkI:(k:Int)<=31:=by omega
  by_cases hlt:sv<2147483648
  ·have hlt2:(sv:Int)<2147483648:=by omega
   have nx:bt*2^(k+1)<4294967296:=by rw[bT,<-br,<-hs];omega
   have kx:k+1<=31:=by
    apply cq;intro h;have e:k+1=32:=by omega
    rw[e]at nx;have:=cE (2^32) bt0;omega
   have NX:=af nx;clear nx hs hsv
   go_wp2_with fail
   go_roundw
   case rel=>exact⟨k+1,by go_num,kx,NX.out,gu az⟩
   case measure=>simp[intOf];omega
  ·have hlt2:decide ((sv:Int)<2147483648)=false:=by rw[db];omega
   have BK:=af (And.intro (show bt*2^k<4294967296 from hsv) (show 2147483648<=bt*2^k by omega));have hlt3:¬(sv:Int)<2147483648:=by omega
   clear hs hsv;have SBk:=af (SB.out k aa);have SAk:=af (SA.out k aa);have hBx:Below w.heap.size w (more w gx):=fp _ _ (Below.refl _ _) (ai _);have HK:=af hk
   go_wp2_with (first|(go_at_call 357;(with_reducible refine(SBk.out _ ?_).mono ?_);(exact H2.out.below hBx (ai _));rintro e wd ⟨⟨ad,ld,rfl,s1,s2,s3⟩,hbd⟩;have SD:=af (And.intro s1 (And.intro s2 s3));clear s1 s2 s3;have hBD:=Below.trans hBx (hbd.mono hBx.size);have hBDs:=hBD.size;clear hbd)|(go_at_call 357;(with_reducible refine(SAk.out _ ?_).mono ?_);(exact H1.out.below (B:=w.heap.size) az (ai _));rintro e wr ⟨⟨ar,lr,rfl,s1,s2,s3⟩,hbr⟩;have SR:=af (And.intro s1 (And.intro s2 s3));clear s1 s2 s3;have HBR:=af hbr;obtain⟨gr,rfl⟩:=mob hbr;clear hbr;obtain⟨ga,hga⟩:=tI SR.out.1 (oI HA.out SR.out.2.2 pC);subst hga)|(at_builtin;go_must (refine iT (w0:=wd) (base:=wd.heap.size) (l:=[]) ?_ ?_ ?_ 260 260 Tryz.underlying260 Tryz.underlying260 lr ga lr.length lr.length rfl SR.out.1 ?_ rfl (.tmp 50) (.tmp 53) rfl (by rfl) (by rfl) ?_);(exact(eK.Cm _ _ _ (by first|rfl|(simp;done)) (by first|omega|(simp;omega)|(simp only[eS];omega))).low HBR.out);(exact bel);(focus(first|omega|(simp;omega)|(simp only[eS,World.size_alloc];omega)));(focus(have h1:=na HK.out HA.out.dg SR.out.2.1 SR.out.2.2;have h2:=HP.out;simp;omega));intro vr w5 hown5 hB5 hz5;have hr0:0<lr.length:=eM.2 (oI HA.out SR.out.2.2 pC);obtain⟨g5,c5,rfl,hc5,hg5,hrow5⟩:=hown5.row (by simpa using hr0);have OR:=af hown5;clear hown5 hrow5))
   have LN:=yG HB.out.1.dg HB.out.2.1 (k:=k) (by rw[HB.out.2.2];exact BK.out.1) (by rw[HB.out.2.2];exact BK.out.2) HK.out SD.out.2.1 SD.out.2.2;have hld:=LN.1;have LNH:=af LN;have hlr:=na HK.out HA.out.dg SR.out.2.1 SR.out.2.2;rw[HP.out]at hlr;obtain⟨gv,hgv⟩:=tI SD.out.1 (fun e=>by rw[e]at hld;simp at hld);subst hgv;have hgvl:gv<wd.heap.size:=by
    rcases SD.out.1 with h0|⟨g',e,h3,_⟩
    ·rw[h0]at hld;simp at hld
    ·cases e;exact h3
   simp only[kg]at OR;have L0:Hid (eK w5 wd.heap.size (.slice (some ⟨g5,0,none⟩) lr.length c5) lr/\Dg.dig B32 lr/\Dg.vl B32 lr=Dg.vl B32 la*2^k/\0<lr.length):=⟨OR.out,SR.out.2.1.dg,SR.out.2.2,hr0⟩;clear OR LN hg5 hc5 hBx cb0 gb0;generalize hgl:ld.length=nl at*;subst hld;have HLD:=af hgl;clear hgl
   go_loopw [10] (fun v wr=>∃(l':List Nat) (g' c':Nat),v= .slice (some ⟨g',0,none⟩) l'.length c'/\l'.length<=p+1/\Below wd.heap.size wd wr/\wd.heap.size<=wr.heap.size/\Hid (eK wr wd.heap.size (.slice (some ⟨g',0,none⟩) l'.length c') l'/\Dg.dig B32 l'/\Dg.vl B32 l'=Dg.vl B32 la*2^k/\0<l'.length)) (fun v _=>p+2-slen v)
   case atStart=>exact⟨lr,g5,c5,by simp,hlr,hB5,hz5,L0.out⟩
   case round=>
    clear L0 hr0 hlr;obtain⟨l',g',c',rfl,hl',hB',hz',HL⟩:=hrel;by_cases hle:l'.length<=p
    ·have hle2:(l'.length:Int)<=(p:Int):=by omega
     obtain⟨q',hq'⟩:∃q',q'=l'.length:=⟨_,rfl⟩;have WO:Hid (∀t,WS (wr.alloc (.cells #[.int .u32 0] t)) (some ⟨wr.heap.size,0,none⟩) [0]):=fun t=>rJ wr t 0
     go_wp2_with (first|(at_builtin;go_must (refine iT (w0:=wd) (base:=wd.heap.size) (l:=l') ?_ ?_ ?_ 260 260 Tryz.underlying260 Tryz.underlying260 [0] wr.heap.size 1 1 rfl (WO.out _) ?_ rfl (.tmp 60) (.tmp 61) rfl (by rfl) (by rfl) ?_);(exact HL.out.1.low az);(exact bel);(focus(first|omega|(simp;omega)|(simp only[eS,World.size_alloc];omega)));(focus(simp;omega));intro v6 w6 hown6 hB6 hz6;obtain⟨g6,c6,rfl,hc6,hg6,hrow6⟩:=hown6.row aO;have OR6:=af hown6;clear hown6 hrow6))
     go_roundw
     case rel=>
      refine⟨l'++[0],g6,c6,by simp,by simp;omega,hB6,hz6,OR6.out,Dg.iA HL.out.2.1 (fun x hx=>by rw[cD.1 hx];decide),?_,by simp⟩;rw[Dg.cS,HL.out.2.2.1];simp[Dg.vl]
     case measure=>simp[slen];omega
    ·have hle2:¬(l'.length:Int)<=(p:Int):=by omega
     have hlp:l'.length=p+1:=by omega
     obtain⟨M,hM⟩:∃M,p=M+(N+1):=⟨p-(N+1),by omega⟩;have hMI:(l'.length:Int)-((N:Int)+2)=(M:Int):=by omega
     obtain⟨g7,c7,e7,hc7,hg7,hrow7⟩:=HL.out.1.row HL.out.2.2.2;cases e7;have HLP:=af hlp;have R7:=af hrow7;have L7:=af (And.intro HL.out.2.1 (And.intro HL.out.2.2.1 hM));clear hrow7 HL;have hmk:=run_make_row' (P:=Tryz.prog) 260 280 (.int .u32 0) 4 Tryz.underlying260 gD rfl .i64 .i64 M aa aa;clear hlp hM;generalize hq7:l'.length=q7 at*;have HLQ:=af hq7;clear hq7
     go_wp2_with fail
     have hwd7:Below wd.heap.size wd (wr.alloc (.cells (madeCells #[.int .u32 0] M) 280)):=Below.alloc hB' hz' _;have g7l:g'<wr.heap.size:=R7.out.lt;have L3:Hid (DV (Dg.vl B32 la*2^k) ld N M M (List.replicate M 0) l'/\aQ (wr.alloc (.cells (madeCells #[.int .u32 0] M) 280)) g' l'/\aQ (wr.alloc (.cells (madeCells #[.int .u32 0] M) 280)) wr.heap.size (List.replicate M 0)):=
      ⟨DV.start HA.out.dg (by rw[HP.out];exact L7.out.2.2) HK.out L7.out.1 L7.out.2.1 (by rw[HLQ.out,HLP.out,L7.out.2.2];omega) HLD.out LNH.out.2,R7.out.below (Below.alloc (Below.refl _ _) (ai _) _) (ai _),aQ.made wr M⟩
     have c7:(q7:Int)<=(c':Int):=by omega
     have HC7:=af hc7;have HQ7:=af (show q7=M+(N+2) by have h1:=HLP.out;have h2:=L7.out.2.2;omega);have hd1:1<=ld.getD (N+1) 0:=by have:=LNH.out.2;omega
     have HD1:=af hd1;clear hd1 hmk hle hle2 hMI c7 hc7;generalize hgq:wr.heap.size=gq at*;clear hgq
     go_loopw [13] (fun i wx=>∃(j:Nat) (oq o:List Nat),j<=M/\i= .int .i64 ((j:Int)-1)/\Below wd.heap.size wd wx/\Hid (DV (Dg.vl B32 la*2^k) ld N M j oq o/\aQ wx g' o/\aQ wx gq oq)) (fun i _=>(intOf i+1).toNat)
     case atStart=>exact⟨M,List.replicate M 0,l',ai _,rfl,hwd7,L3.out⟩
     case round=>
      clear L3 hwd7;obtain⟨j,oq,o,hjM,rfl,hBx,HX⟩:=hrel;by_cases hj0:j=0
      ·subst hj0;have DN:=DV.done HX.out.1 SD.out.2.2 SD.out.2.1.dg HLD.out HVp.out;have lo:=HX.out.1.lo;have j0:¬(0:Int)<=(0:Int)-1:=by omega
       obtain⟨m,hm⟩:∃m,m=o.take (N+2):=⟨_,rfl⟩;have ml:m.length=N+2:=by rw[hm,bf];omega
       have mdg:Dg.dig B32 m:=by rw[hm];exact Dg.eB HX.out.1.dO _
       have mws:WS wr (some ⟨g',0,none⟩) m:=by rw[hm];exact HX.out.2.1.ws.take _
       rw[<-hm]at DN;obtain⟨m2,hm2⟩:∃m2,m2=m.take (tl m):=⟨_,rfl⟩;have m2l:m2.length=tl m:=by rw[hm2,bf];have:=fD m;omega
       obtain⟨m2n,m2v⟩:=mC mdg;rw[<-hm2]at m2n m2v;have m2ws:WS wr (some ⟨g',0,none⟩) m2:=by rw[hm2];exact mws.take _
       have hk2:2^k<4294967296:=by
        have:=uT (a:=2) aa (show k<32 by have:=HK.out;omega);omega
       have pk:1<=2^k:=ff aA;have hc2:N+2<=c':=by have h1:=HQ7.out;have h2:=HC7.out;omega
       have T1:=cO m (some ⟨g',0,none⟩) c' (by rw[ml];have:=L7.out.2.2;omega) (by rw[ml];exact hc2) wr mws;rw[ml]at T1;have SH:=fun w h=>lC m2 (some ⟨g',0,none⟩) (tl m) (2^k) ⟨pk,hk2⟩ m2n.dg (by rw[m2l];have h1:=fD m;rw[ml]at h1;have:=L7.out.2.2;omega) w h;rw[m2l,m2v,DN.2]at SH;have T2:=fun w h=>cO oq (some ⟨gq,0,none⟩) M (by rw[HX.out.1.lq];have:=L7.out.2.2;omega) (by rw[HX.out.1.lq];exact ai _) w h;rw[HX.out.1.lq]at T2;have TO:=af T1;have SHO:=af SH;have TT:=af T2;have M2:=af m2ws;obtain⟨oqn,oqv⟩:=mC HX.out.1.dq;have OQ:=af (And.intro oqn (And.intro (oqv.trans DN.1) (show(oq.take (tl oq)).length=tl oq by rw[bf];have:=fD oq;omega)));have tml:=fD m;rw[ml]at tml;have hc3:(N:Int)+2<=(c':Int):=by omega
       have hNb:(N:Int)<=900000000000:=by have:=L7.out.2.2;omega
       obtain⟨dk,hdk⟩:∃dk,dk=2^k:=⟨_,rfl⟩;have hdk2:((2:Int)^k)%4294967296=(dk:Int):=by
        have e:((2:Int)^k)=((2^k:Nat):Int):=by simp
        rw[e,<-hdk];rw[<-hdk]at hk2;omega
       rw[<-hdk]at SHO;clear T1 SH T2 DN lo hm hm2 mdg mws m2n m2v m2ws hk2 pk oqn oqv hdk ml m2l;have hBW:Below w.heap.size w wr:=Below.trans hBD (hBx.mono hBDs);have hBWs:=hBW.size
       go_wp2_with (first|(go_at_call 321;(with_reducible refine(TO.out).mono ?_);rintro e w' ⟨rfl,rfl⟩)|(go_at_call 356;(with_reducible refine(SHO.out _ M2.out).mono ?_);rintro e w9 ⟨⟨a1,l1,rfl,s1,s2,s3⟩,hb9⟩;have S1:=af (And.intro s1 (And.intro s2 s3));clear s1 s2 s3;have HB9:=af hb9;obtain⟨g9,rfl⟩:=mob hb9;clear hb9)|(go_at_call 321;(with_reducible refine(TT.out _ ?_).mono ?_);(exact HX.out.2.2.ws.below HB9.out (ai _));rintro e w' ⟨rfl,rfl⟩))
       refine bodyPost_ret (v:=.tuple #[.slice (some ⟨gq,0,none⟩) (tl oq) (tl oq),.slice a1 l1.length l1.length]) zb44 rfl ?_;refine⟨some ⟨gq,0,none⟩,oq.take (tl oq),tl oq,a1,l1,l1.length,by rw[OQ.out.2.2],by rw[OQ.out.2.2];exact ai _,ai _,(HX.out.2.2.ws.below HB9.out (ai _)).take _,S1.out.1,OQ.out.1,S1.out.2.1,OQ.out.2.1,S1.out.2.2,by exact bel⟩
      ·obtain⟨i,hi⟩:∃i,j=i+1:=⟨j-1,by omega⟩;subst hi;obtain⟨P,r,S,eo,hPl,sn,hS,dP,dS⟩:=HX.out.1.win SD.out.2.1.dg HLD.out HD1.out aa;subst eo;subst hPl;have STP:=fun c'' w hw hs=>ym P r S ld g' c'' (N+2) N (some ⟨gv,0,none⟩) sn (by have:=HQ7.out;rw[sn.lr];omega) (fun e=>by cases e;omega) w hw hs;rw[sn.lr,HLD.out]at STP;have STH:=af STP;have Q1:=af (And.intro sn (And.intro hS (And.intro dP dS)));have hcq:=(HX.out.2.2.cell (k:=P.length) (by rw[HX.out.1.lq];omega));have s1:(P.length:Int)+((N:Int)+2)+1<=(c':Int):=by have h1:=HQ7.out;have h2:=HC7.out;omega
       have s2:(P.length:Int)<(M:Int):=by omega
       have PM:=af (show P.length<M by omega);clear STP sn hS dP dS hj0 hcq;generalize hPl:P.length=i at*;have HPl:=af hPl;clear hPl;have j0:(0:Int)<=(i:Int):=by omega
       have j1:(i:Int)+1-1=(i:Int):=by omega
       have hNb:(N:Int)<=900000000000:=by have:=L7.out.2.2;omega
       have hib:(i:Int)<=900000000000:=by have:=L7.out.2.2;omega
       have t1:i+(N+2)+1<=c':=by omega
       have t2:i<c':=by omega
       have t3:¬c'=i:=by omega
       have t4:¬i=c':=by omega
       have t5:i<=i+(N+2)+1:=by omega
       have u2:(i:Int)<(c':Int):=by omega
       have u3:¬(c':Int)=(i:Int):=by omega
       have u4:¬(i:Int)=(c':Int):=by omega
       have u5:(i:Int)<=(i:Int)+((N:Int)+2)+1:=by omega
       have z1:0<=(i:Int)+((N:Int)+2)+1:=by omega
       have z2:((i:Int)+((N:Int)+2)+1).toNat=i+(N+2)+1:=by omega
       have z3:i+(N+2)+1-i=N+3:=by omega
       obtain⟨D8,hD8⟩:∃D8,D8=Dg.vl B32 r/Dg.vl B32 ld:=⟨_,rfl⟩;have HD8:=af hD8;clear hD8
       go_wp2_with (first|(go_at_call 358;(refine(STH.out _ _ ?_ ?_).mono ?_);(exact HX.out.2.1);(exact SD.out.1.below hBx (ai _));rintro e w8 ⟨r',rfl,l8,dg8,rw8,gr8,v8⟩;have RQ8:=(HX.out.2.2).grown gr8 aa;have c8:=RQ8.cell (k:=i) (by rw[HX.out.1.lq];omega);have f8:=RQ8.frozen i;have g8l:=RQ8.lt;have H8:=af (And.intro l8 (And.intro dg8 (And.intro rw8 (And.intro gr8 (And.intro v8 RQ8)))));clear l8 dg8 rw8 gr8 v8 RQ8))
       go_roundw
       case rel=>
        have e1:((Dg.vl B32 r:Nat):Int)/((Dg.vl B32 ld:Nat):Int)=((D8:Nat):Int):=by rw[HD8.out];exact(nX _ _).symm
        have hix:i<oq.length:=by rw[HX.out.1.lq];exact PM.out
        have ST8:DV (Dg.vl B32 la*2^k) ld N M i (oq.set i D8) (P++(r'++S)):=by
         have:=DV.step (r':=r') (by rw[HPl.out];exact HX.out.1) Q1.out.1 (by rw[HPl.out];exact PM.out) Q1.out.2.1 Q1.out.2.2.1 Q1.out.2.2.2 H8.out.2.1 H8.out.1 H8.out.2.2.2.2.1;rw[HPl.out,<-HD8.out]at this;exact this
        have hB8:Below wd.heap.size wd w8:=hBx.grown H8.out.2.2.2.1 hBx.size (fun j hj=>by cases hj;exact hg7);refine⟨i,oq.set i D8,P++(r'++S),by omega,rfl,Below.setCell hB8 hz' _,ST8,?_,?_⟩
        ·exact H8.out.2.2.1.grown (fO _ _ _ _) aa
        ·rw[e1];exact H8.out.2.2.2.2.2.set hix _
       case measure=>simp[intOf]
end
section
open Go.RowKit Go.BigFrame
attribute [local go_sem ↓] Go.wp_at_zero Go.wp_at_succ
theorem kS(la lb:List Nat)(a b:Option Addr)(ca cb:Nat)(ha:Dg.NF B32 la)(hb:Dg.NF B32 lb)(hb0:lb≠[])(bl:la.length<=900000000000)(hca:la.length<=ca)(w:World)(h1:WS w a la)(h2:WS w b lb):
  Calls Tryz.prog 332 #[.slice a la.length ca,.slice b lb.length cb] w (wh w (Dg.vl B32 la/Dg.vl B32 lb) (Dg.vl B32 la%Dg.vl B32 lb)):=by
 by_cases hlt:Dg.vl B32 la<Dg.vl B32 lb
 ·exact sM la lb a b ca cb ha hb bl hca hlt w h1 h2
 match lb,hb0 with
 |[d],_=>
  have hv:Dg.vl B32 [d]=d:=by simp[Dg.vl]
  rw[hv]at hlt⊢;have h0:=hb.nz;simp at h0;exact vM la d a b ca cb ha ⟨by omega,hb.dg d ba⟩ bl aa w h1 h2
 |d::e::l,_=>exact tF la (d::e::l) a b ca cb l.length ha hb aO bl aa w h1 h2
def Fit(z:Int):Prop:=∃n,n<=200000000000/\z.natAbs<B32^n
def IP(w:World)(x:IV)(z:Int):Prop:=∃l,IW w x l/\z=Dg.iv x.s (Dg.vl B32 l)
theorem IZ.ip{w:World}{x:IV}{z:Int}(h:IZ w x z):IP w x z:=by
 obtain⟨l,h1,_,h3⟩:=h;exact⟨l,h1,h3⟩
theorem IP.below{B:Nat}{w w':World}{x:IV}{z:Int}(h:IP w x z)(hb:Below B w w')(hB:w.heap.size<=B):IP w' x z:=by
 obtain⟨l,h1,h3⟩:=h;exact⟨l,h1.below hb hB,h3⟩
theorem dv{l:List Nat}{s:Bool}(h:Dg.NF B32 l)(hf:Fit (Dg.iv s (Dg.vl B32 l))):l.length<=200000000000:=by
 obtain⟨n,hn,hv⟩:=hf;rw[Dg.hH]at hv;apply aE _ hn;apply cq;intro hlt;obtain⟨m,hm⟩:∃m,l.length=m+1:=⟨l.length-1,by omega⟩;have h1:=Dg.jq hm h;have h2:B32^n<=B32^m:=cv aA aa;omega
theorem gZ{k:List Nat}{n:Nat}(h:Dg.NF B32 k)(hv:Dg.vl B32 k<B32^n):k.length<=n:=by
 apply cq;intro hlt;obtain⟨m,hm⟩:∃m,k.length=m+1:=⟨k.length-1,by omega⟩;have h1:=Dg.jq hm h;have h2:B32^n<=B32^m:=cv aA aa;omega
theorem lz{x y q r:Nat}(hx:x<B32^q)(hy:y<B32^r):x+y<B32^(q+r+1):=by
 have h1:B32^q<=B32^(q+r):=cv aA aa;have h2:B32^r<=B32^(q+r):=cv aA aa;have h3:B32^(q+r+1)=4294967296*B32^(q+r):=by rw[bT,aK]
 omega
theorem Ba{z:Int}(h:Fit z):Fit (-z):=by
 obtain⟨n,hn,hv⟩:=h;exact⟨n,hn,by rw[Int.natAbs_neg];exact hv⟩
set_option maxRecDepth 10000 in
set_option maxHeartbeats 2000000 in
theorem sk(x:IV)(w:World):
  Calls Tryz.prog 243 #[.agg #[.bool x.s,.slice x.a x.n x.cap]] w fun e w'=>e= .returned (.agg #[.bool ((⟨!x.s,x.a,x.n,x.cap⟩:IV)).s,.slice ((⟨!x.s,x.a,x.n,x.cap⟩:IV)).a ((⟨!x.s,x.a,x.n,x.cap⟩:IV)).n ((⟨!x.s,x.a,x.n,x.cap⟩:IV)).cap])/\Below w.heap.size w w':=by
 obtain⟨s,a,n,cap⟩:=x
 go_enter Tryz.func243,Tryz.ntmps243
 go_wp2_with fail
 refine bodyPost_ret (v:=.agg #[.bool (!s),.slice a n cap]) (by simp[results,Tryz.results243,go_sem]) rfl ⟨rfl,by exact bel⟩
theorem IP.neg{w:World}{x:IV}{z:Int}(h:IP w x z):IP w ⟨!x.s,x.a,x.n,x.cap⟩ (-z):=by
 obtain⟨l,h1,h2⟩:=h;exact⟨l,⟨h1.n,h1.cap,h1.ws,h1.nf⟩,by rw[h2];exact(Dg.B7 _ _).symm⟩
set_option maxRecDepth 10000 in
set_option maxHeartbeats 4000000 in
theorem um(x y:IV)(u v:Int)(fu:Fit u)(fv:Fit v)(w:World)(hx:IP w x u)(hy:IP w y v):
  Calls Tryz.prog 242 #[.agg #[.bool x.s,.slice x.a x.n x.cap],.agg #[.bool y.s,.slice y.a y.n y.cap]] w fun e w'=>(∃z,e= .returned (.agg #[.bool z.s,.slice z.a z.n z.cap])/\IZ w' z (u+v))/\Below w.heap.size w w':=by
 obtain⟨l,h1,rfl⟩:=hx;obtain⟨m,h2,rfl⟩:=hy;have bl:=dv h1.nf fu;have bm:=dv h2.nf fv;have S1:=af (fun w (h:IW w x l)=>di x l aa w h);have S2:=af (fun w (h:IW w y m)=>di y m aa w h);have PL:=af (fun w ha hb=>nB l m x.a y.a l.length m.length h1.nf.dg h2.nf.dg aa aa w ha hb);have CO:=af (fun w ha hb=>fB l m x.a y.a l.length m.length h1.nf h2.nf aa w ha hb);have MI1:=af (fun (hle:Dg.vl B32 m<=Dg.vl B32 l) w ha hb=>lL l m x.a y.a l.length m.length h1.nf.dg h2.nf.dg aa aa (cq fun hlt=>by have:=Dg.fN aA h1.nf h2.nf hlt;omega) hle w ha hb);have MI2:=af (fun (hle:Dg.vl B32 l<=Dg.vl B32 m) w ha hb=>lL m l y.a x.a m.length l.length h2.nf.dg h1.nf.dg aa aa (cq fun hlt=>by have:=Dg.fN aA h2.nf h1.nf hlt;omega) hle w ha hb);have MA:=af (fun (s:Bool) (k:List Nat) a (hk:Dg.NF B32 k) (hb:k.length<=3000000000000) w h=>fJ s k a k.length hb (ai _) hk.dg w h);have LB:Hid (∀k,Dg.NF B32 k->Dg.vl B32 k<=Dg.vl B32 l+Dg.vl B32 m->k.length<=3000000000000):=fun k hk hv=>by
  have:=gZ hk (oy hv (lz (Dg.aY h1.nf.dg) (Dg.aY h2.nf.dg)));omega
 have H1:=af h1;have H2:=af h2;obtain⟨s,a,n,cap⟩:=x;obtain⟨t,b,p,cbp⟩:=y;clear h1 h2 fu fv;generalize hl:l.length=q at*;generalize hm:m.length=r at*;have HL:=af hl;have HM:=af hm;clear hl hm
 go_enter Tryz.func242,Tryz.ntmps242
 have hB0:Below w.heap.size w (((w.alloc (.cells #[.bool s,.slice a n cap] 69)).alloc (.cells #[.bool t,.slice b p cbp] 69)).alloc (.cells #[.bool false,.slice none 0 0] 69)):=by exact bel
 by_cases hst:s=t
 ·subst hst
  go_wp2_with fail
  (refine wp_region_quiet (C:=Ext _) aD aD (Ext.start _) ?_;simp only[];(repeat(first|go_big_quiet_skip|(go_big_quiet_want;go_big_quiet_op;first|go_big_quiet_on|(apply Exists.intro;refine⟨fun w' hw'=>?_,?_⟩;(focus(first|with_reducible exact rfl|(go_at_call 246;(first|with_reducible exact Ext.call hw' (S1.out _ (H1.out.below (Below.trans hB0 ((Ext.below hw').mono hB0.size)) (ai _)))|with_reducible exact Ext.call hw' (S2.out _ (H2.out.below (Below.trans hB0 ((Ext.below hw').mono hB0.size)) (ai _)))))|(obtain⟨gx,rfl⟩:=mob (Ext.below hw');go_simp;exact rfl)));go_big_quiet_on))));refine wpQuiet_nil ?_;intro w1 hw1;have hb1:=Ext.below hw1;clear hw1;obtain⟨g1,rfl⟩:=mob hb1;clear hb1)
  go_wp2_with fail
  go_region_with (first|(go_at_call 318;(with_reducible refine(PL.out _ ?_ ?_).mono ?_);(exact H1.out.ws.below (B:=w.heap.size) az (ai _));(exact H2.out.ws.below (B:=w.heap.size) az (ai _));rintro e w3 ⟨⟨a3,l3,rfl,s1,s2,s3⟩,hb3⟩;have T3:=af (And.intro s1 (And.intro s2 s3));clear s1 s2 s3;obtain⟨g3,rfl⟩:=mob hb3;clear hb3)|(go_at_call 244;(with_reducible refine(MA.out _ l3 _ T3.out.2.1 (LB.out l3 T3.out.2.1 (by rw[T3.out.2.2];omega)) _ ?_).mono ?_);(exact T3.out.1.below (B:=_) az (ai _));rintro e w4 ⟨⟨y,rfl,hy⟩,hb4⟩;rw[T3.out.2.2,Dg.AZ]at hy;have HY:=af hy;clear hy;obtain⟨g4,rfl⟩:=mob hb4;clear hb4))
  all_goals(go_wp2_with fail)
  all_goals(refine bodyPost_ret (v:=.agg #[.bool y.s,.slice y.a y.n y.cap]) zb45 rfl ⟨⟨y,rfl,IZ.dt HY.out ?_⟩,?_⟩;(exact gh);(exact bel))
 ·have hst1:(s==t)=false:=by simpa using hst
  have HST:Hid (s≠t):=hst;have HTS:Hid (t≠s):=fun e=>hst e.symm;by_cases hle:Dg.vl B32 m<=Dg.vl B32 l
  ·have hc:0<=du (Dg.vl B32 l) (Dg.vl B32 m):=by unfold du;rw[an aa];split<;>omega
   have M1:=af (MI1.out hle);have HLE:=af hle;generalize du (Dg.vl B32 l) (Dg.vl B32 m)=c at*;have hc1:decide (0<=c)=true:=by rw[ei];exact hc
   clear hst hle MI1 MI2 PL
   go_wp2_with fail
   (refine wp_region_quiet (C:=Ext _) aD aD (Ext.start _) ?_;simp only[];(repeat(first|go_big_quiet_skip|(go_big_quiet_want;go_big_quiet_op;first|go_big_quiet_on|(apply Exists.intro;refine⟨fun w' hw'=>?_,?_⟩;(focus(first|with_reducible exact rfl|(go_at_call 246;(first|with_reducible exact Ext.call hw' (S1.out _ (H1.out.below (Below.trans hB0 ((Ext.below hw').mono hB0.size)) (ai _)))|with_reducible exact Ext.call hw' (S2.out _ (H2.out.below (Below.trans hB0 ((Ext.below hw').mono hB0.size)) (ai _)))))|(obtain⟨gx,rfl⟩:=mob (Ext.below hw');go_simp;exact rfl)));go_big_quiet_on))));refine wpQuiet_nil ?_;intro w1 hw1;have hb1:=Ext.below hw1;clear hw1;obtain⟨g1,rfl⟩:=mob hb1;clear hb1)
   clear hB0
   go_wp2_with (first|(go_at_call 319;(with_reducible refine(CO.out _ ?_ ?_).mono ?_);(exact H1.out.ws.below (B:=w.heap.size) az (ai _));(exact H2.out.ws.below (B:=w.heap.size) az (ai _));rintro e w2 ⟨rfl,hb2⟩;obtain⟨g2,rfl⟩:=mob hb2;clear hb2))
   go_region_with (first|(go_at_call 320;(with_reducible refine(M1.out _ ?_ ?_).mono ?_);(exact H1.out.ws.below (B:=w.heap.size) az (ai _));(exact H2.out.ws.below (B:=w.heap.size) az (ai _));rintro e w3 ⟨⟨a3,l3,rfl,s1,s2,s3⟩,hb3⟩;have T3:=af (And.intro s1 (And.intro s2 s3));clear s1 s2 s3;obtain⟨g3,rfl⟩:=mob hb3;clear hb3)|(go_at_call 244;(with_reducible refine(MA.out _ l3 _ T3.out.2.1 (LB.out l3 T3.out.2.1 (by rw[T3.out.2.2];omega)) _ ?_).mono ?_);(exact T3.out.1.below (B:=_) az (ai _));rintro e w4 ⟨⟨y,rfl,hy⟩,hb4⟩;rw[T3.out.2.2,Dg.vI HST.out HLE.out]at hy;have HY:=af hy;clear hy;obtain⟨g4,rfl⟩:=mob hb4;clear hb4))
   all_goals(go_wp2_with fail)
   all_goals(refine bodyPost_ret (v:=.agg #[.bool y.s,.slice y.a y.n y.cap]) zb45 rfl ⟨⟨y,rfl,IZ.dt HY.out ?_⟩,?_⟩;(exact gh);(exact bel))
  ·have hc:du (Dg.vl B32 l) (Dg.vl B32 m)= -1:=by unfold du;rw[aB aa]
   have hle2:Dg.vl B32 l<=Dg.vl B32 m:=by omega
   have M2:=af (MI2.out hle2);have HLE:=af hle2;rw[hc]at CO;clear hst hle hle2 MI1 MI2 PL hc
   go_wp2_with fail
   (refine wp_region_quiet (C:=Ext _) aD aD (Ext.start _) ?_;simp only[];(repeat(first|go_big_quiet_skip|(go_big_quiet_want;go_big_quiet_op;first|go_big_quiet_on|(apply Exists.intro;refine⟨fun w' hw'=>?_,?_⟩;(focus(first|with_reducible exact rfl|(go_at_call 246;(first|with_reducible exact Ext.call hw' (S1.out _ (H1.out.below (Below.trans hB0 ((Ext.below hw').mono hB0.size)) (ai _)))|with_reducible exact Ext.call hw' (S2.out _ (H2.out.below (Below.trans hB0 ((Ext.below hw').mono hB0.size)) (ai _)))))|(obtain⟨gx,rfl⟩:=mob (Ext.below hw');go_simp;exact rfl)));go_big_quiet_on))));refine wpQuiet_nil ?_;intro w1 hw1;have hb1:=Ext.below hw1;clear hw1;obtain⟨g1,rfl⟩:=mob hb1;clear hb1)
   clear hB0
   go_wp2_with (first|(go_at_call 319;(with_reducible refine(CO.out _ ?_ ?_).mono ?_);(exact H1.out.ws.below (B:=w.heap.size) az (ai _));(exact H2.out.ws.below (B:=w.heap.size) az (ai _));rintro e w2 ⟨rfl,hb2⟩;obtain⟨g2,rfl⟩:=mob hb2;clear hb2))
   go_region_with (first|(go_at_call 320;(with_reducible refine(M2.out _ ?_ ?_).mono ?_);(exact H2.out.ws.below (B:=w.heap.size) az (ai _));(exact H1.out.ws.below (B:=w.heap.size) az (ai _));rintro e w3 ⟨⟨a3,l3,rfl,s1,s2,s3⟩,hb3⟩;have T3:=af (And.intro s1 (And.intro s2 s3));clear s1 s2 s3;obtain⟨g3,rfl⟩:=mob hb3;clear hb3)|(go_at_call 244;(with_reducible refine(MA.out _ l3 _ T3.out.2.1 (LB.out l3 T3.out.2.1 (by rw[T3.out.2.2];omega)) _ ?_).mono ?_);(exact T3.out.1.below (B:=_) az (ai _));rintro e w4 ⟨⟨y,rfl,hy⟩,hb4⟩;rw[T3.out.2.2,Dg.vH HST.out HLE.out]at hy;have HY:=af hy;clear hy;obtain⟨g4,rfl⟩:=mob hb4;clear hb4))
   all_goals(go_wp2_with fail)
   all_goals(refine bodyPost_ret (v:=.agg #[.bool y.s,.slice y.a y.n y.cap]) zb45 rfl ⟨⟨y,rfl,IZ.dt HY.out ?_⟩,?_⟩;(exact gh);(exact bel))
end
section
open Go.RowKit Go.BigFrame
attribute [local go_sem ↓] Go.wp_at_zero Go.wp_at_succ
set_option maxRecDepth 10000 in
set_option maxHeartbeats 4000000 in
theorem pJ(x y:IV)(u v:Int)(fu:Fit u)(fv:Fit v)(w:World)(hx:IP w x u)(hy:IP w y v):
  Calls Tryz.prog 113 #[.agg #[.bool x.s,.slice x.a x.n x.cap],.agg #[.bool y.s,.slice y.a y.n y.cap]] w fun e w'=>(∃z,e= .returned (.agg #[.bool z.s,.slice z.a z.n z.cap])/\IZ w' z (u-v))/\Below w.heap.size w w':=by
 have NG:=af (fun w=>sk y w);have AD:=af (fun w hx hy=>um x ⟨!y.s,y.a,y.n,y.cap⟩ u (-v) fu (Ba fv) w hx hy);have HX:=af hx;have HY:=af hy.neg;obtain⟨s,a,n,cap⟩:=x;obtain⟨t,b,p,cbp⟩:=y;simp only[]at NG AD;clear hx hy fu fv
 go_enter Tryz.func113,Tryz.ntmps113
 go_wp2_with fail
 go_region_with (first|(go_at_call 243;with_reducible refine(NG.out _).mono ?_;rintro e w3 ⟨rfl,hb3⟩;obtain⟨g3,rfl⟩:=mob hb3;clear hb3)|(go_at_call 242;(with_reducible refine(AD.out _ ?_ ?_).mono ?_);(exact HX.out.below (B:=w.heap.size) az (ai _));(exact HY.out.below (B:=w.heap.size) az (ai _));rintro e w4 ⟨⟨y,rfl,hy⟩,hb4⟩;rw[<-Int.sub_eq_add_neg]at hy;have HZ:=af hy;clear hy;obtain⟨g4,rfl⟩:=mob hb4;clear hb4))
 all_goals(go_wp2_with fail)
 all_goals(refine bodyPost_ret (v:=.agg #[.bool y.s,.slice y.a y.n y.cap]) (by simp[results,Tryz.results113,go_sem]) rfl ⟨⟨y,rfl,IZ.dt HZ.out ?_⟩,?_⟩;(exact gh);(exact bel))
theorem IZ.wi{w:World}{x:IV}{z:Int}(h:IZ w x z):(x.n=0↔z=0)/\(x.s=true↔z<0):=by
 obtain⟨l,h1,h2,h3⟩:=h;have hz:=Dg.Az h1.nf aA;by_cases hl:l=[]
 ·have e:=h2 hl;rw[h1.n,h3,e,hl];simp[Dg.iv,Dg.vl]
 ·have hp:=Dg.gi h1.nf hl aA;have hn:¬x.n=0:=by rw[h1.n];exact fun e=>hl (fS e)
  rw[h3];cases x.s<;>simp[Dg.iv,hn]<;>omega
def sgn(z:Int):Int:=if z=0 then 0 else if z<0 then-1 else 1
set_option maxRecDepth 10000 in
set_option maxHeartbeats 4000000 in
theorem uf(x y:IV)(u v:Int)(fu:Fit u)(fv:Fit v)(w:World)(hx:IP w x u)(hy:IP w y v):
  Calls Tryz.prog 159 #[.agg #[.bool x.s, .slice x.a x.n x.cap], .agg #[.bool y.s, .slice y.a y.n y.cap]] w fun e w'=>e= .returned (.int .i64 (sgn (u-v)))/\Below w.heap.size w w':=by
 have SU:=af (fun w hx hy=>pJ x y u v fu fv w hx hy);have HX:=af hx;have HY:=af hy;obtain⟨s,a,n,cap⟩:=x;obtain⟨t,b,p,cbp⟩:=y;simp only[]at SU;clear hx hy fu fv
 go_enter Tryz.func159,Tryz.ntmps159
 go_upto_region 2 with(first|(go_at_call 113;(with_reducible refine(SU.out _ ?_ ?_).mono ?_);(exact HX.out.below (B:=w.heap.size) az (ai _));(exact HY.out.below (B:=w.heap.size) az (ai _));rintro e w4 ⟨⟨y,rfl,hy⟩,hb4⟩;have HZ:=af hy.wi;clear hy;obtain⟨g4,rfl⟩:=mob hb4;clear hb4))
 obtain⟨c,d,k,kc⟩:=y;obtain⟨z1,z2⟩:=HZ.out;by_cases h0:k=0
 ·have e:sgn (u-v)=0:=by unfold sgn;rw[aB (z1.1 h0)]
  have E:=af e;clear z1 z2 e HZ;subst h0
  go_wp2_with fail
  go_ret
  exact⟨by rw[E.out];rfl,by exact bel⟩
 ·have k1:¬(k:Int)=0:=by omega
  have hz0:¬(u-v=0):=fun e=>h0 (z1.2 e);cases c
  ·have e : sgn (u - v) = 1 := by
    unfold sgn;rw[an hz0,an (fun e=>by have:=z2.2 e;cases this)]
   have E:=af e;clear z1 z2 e HZ hz0
   go_wp2_with fail
   go_ret
   exact⟨by rw[E.out];rfl,by exact bel⟩
  ·have e : sgn (u - v) = -1 := by
    unfold sgn;rw[an hz0,aB (z2.1 rfl)]
   have E:=af e;clear z1 z2 e HZ hz0
   go_wp2_with fail
   go_ret
   exact⟨by rw[E.out];rfl,by exact bel⟩
set_option maxRecDepth 10000 in
set_option maxHeartbeats 4000000 in
theorem xD(n:Int)(hn: -9223372036854775808<=n/\n<=9223372036854775807)(w:World):
  Calls Tryz.prog 115 #[.int .i64 n] w fun e w'=>(∃z,e= .returned (.agg #[.bool z.s,.slice z.a z.n z.cap])/\IZ w' z n)/\Below w.heap.size w w':=by
 obtain⟨m,hm⟩:∃m,m=n.natAbs:=⟨_,rfl⟩;have OF:=af (fun w=>xh m aa w);have MA:=af (fun (s:Bool) (k:List Nat) a (hk:Dg.NF B32 k) (hb:k.length<=3000000000000) w h=>fJ s k a k.length hb (ai _) hk.dg w h);have LB:Hid (∀k,Dg.NF B32 k->Dg.vl B32 k=m->k.length<=3000000000000):=fun k hk hv=>by
  have:=gZ (n:=2) hk (by rw[hv];show m<4294967296^2;omega);omega
 by_cases h0:n<0
 ·have e:Dg.iv true m=n:=by simp[Dg.iv];omega
  have E:=af e;have w1:IntKind.u64.wrap n=n+18446744073709551616:=by rw[cJ];omega
  have w2:IntKind.u64.wrap (-(n+18446744073709551616))=(m:Int):=by rw[cJ];omega
  clear e hm hn
  go_enter Tryz.func115,Tryz.ntmps115
  go_wp2_with (first|(go_at_call 247;(with_reducible refine(OF.out _).mono ?_);rintro e w3 ⟨⟨a3,l3,rfl,s1,s2,s3⟩,hb3⟩;have T3:=af (And.intro s1 (And.intro s2 s3));clear s1 s2 s3;obtain⟨g3,rfl⟩:=mob hb3;clear hb3)|(go_at_call 244;(with_reducible refine(MA.out _ l3 _ T3.out.2.1 (LB.out l3 T3.out.2.1 T3.out.2.2) _ T3.out.1).mono ?_);rintro e w4 ⟨⟨y,rfl,hy⟩,hb4⟩;rw[T3.out.2.2,E.out]at hy;have HY:=af hy;clear hy;obtain⟨g4,rfl⟩:=mob hb4;clear hb4))
  (refine bodyPost_ret (v:=.agg #[.bool y.s,.slice y.a y.n y.cap]) (by simp[results,Tryz.results115,go_sem]) rfl ⟨⟨y,rfl,IZ.dt HY.out ?_⟩,?_⟩;(exact gh);(exact bel))
 ·have e:Dg.iv false m=n:=by simp[Dg.iv];omega
  have E:=af e;have w1:IntKind.u64.wrap n=(m:Int):=by rw[cJ];omega
  clear e hm hn
  go_enter Tryz.func115,Tryz.ntmps115
  go_wp2_with (first|(go_at_call 247;(with_reducible refine(OF.out _).mono ?_);rintro e w3 ⟨⟨a3,l3,rfl,s1,s2,s3⟩,hb3⟩;have T3:=af (And.intro s1 (And.intro s2 s3));clear s1 s2 s3;obtain⟨g3,rfl⟩:=mob hb3;clear hb3)|(go_at_call 244;(with_reducible refine(MA.out _ l3 _ T3.out.2.1 (LB.out l3 T3.out.2.1 T3.out.2.2) _ T3.out.1).mono ?_);rintro e w4 ⟨⟨y,rfl,hy⟩,hb4⟩;rw[T3.out.2.2,E.out]at hy;have HY:=af hy;clear hy;obtain⟨g4,rfl⟩:=mob hb4;clear hb4))
  (refine bodyPost_ret (v:=.agg #[.bool y.s,.slice y.a y.n y.cap]) (by simp[results,Tryz.results115,go_sem]) rfl ⟨⟨y,rfl,IZ.dt HY.out ?_⟩,?_⟩;(exact gh);(exact bel))
end
section
open Go.RowKit
namespace Own3
structure Rel where
 α:Type
 d:α
 val:α->Value
 R:α->World->Prop
 st:∀x w w',R x w->Below w.heap.size w w'->R x w'
def Fs:=Nat->(World->Prop)->Prop
def Fs.none:Fs:=fun _ _=>False
def Fs.ins(k:Nat)(p:World->Prop)(F:Fs):Fs:=fun u q=>(u=k/\q=p)\/F u q
theorem Fs.yU(k k':Nat)(p p':World->Prop)(F:Fs):Fs.ins k p (Fs.ins k' p' F)=Fs.ins k' p' (Fs.ins k p F):=by
 funext u q;apply propext;unfold Fs.ins;constructor<;>(rintro(h|h|h)<;>simp[h])
def oB(md:Region.Mode)(o:Oper)(u:Nat):Bool:=o.after.toList.any fun e=>Region.binds md e&&e.on==u
theorem vi{md:Region.Mode}{o:Oper}{k:Nat}(h:∀e∈o.after,Region.binds md e=true->e.on≠k):oB md o k=false:=by
 unfold oB;rw[List.any_eq_false];intro e he;simp only[cu,beq_iff_eq,not_and];intro hb;exact h e (Array.mem_toList_iff.1 he) hb
def res(md:Region.Mode)(o:Oper)(F:Fs):Fs:=fun u q=>F u q/\oB md o u=true
theorem An{md:Region.Mode}{o:Oper}{k:Nat}{p:World->Prop}{F:Fs}(h:∀e∈o.after,Region.binds md e=true->e.on≠k):res md o (Fs.ins k p F)=res md o F:=by
 have hw:=vi h;funext u q;apply propext;unfold res Fs.ins;constructor
 ·rintro⟨⟨rfl,_⟩|hF,hb⟩
  ·rw[hw]at hb;cases hb
  ·exact⟨hF,hb⟩
 ·rintro⟨hF,hb⟩;exact⟨.inr hF,hb⟩
def CF(W:World)(F:Fs)(w:World):Prop:=Below W.heap.size W w/\∀u p,F u p->p w/\∀w' w'',p w'->Below w'.heap.size w' w''->p w''
theorem CF.mono{W w:World}{F F':Fs}(h:CF W F' w)(hs:∀u p,F u p->F' u p):CF W F w:=⟨h.1,fun u p hp=>h.2 u p (hs u p hp)⟩
theorem CF.step{W w w':World}{F:Fs}(h:CF W F w)(hb:Below w.heap.size w w'):CF W F w':=
 ⟨h.1.trans (hb.mono h.1.size),fun u p hp=>⟨(h.2 u p hp).2 w w' (h.2 u p hp).1 hb,(h.2 u p hp).2⟩⟩
theorem CF.ins{W w:World}{F:Fs}(h:CF W F w)(k:Nat)(r:Rel)(x:r.α)(hx:r.R x w):CF W (Fs.ins k (r.R x) F) w:=
 ⟨h.1,fun u p hp=>by
  rcases hp with⟨rfl,rfl⟩|hp
  ·exact⟨hx,r.st x⟩
  ·exact h.2 u p hp⟩
theorem CF.get{W w:World}{F:Fs}(h:CF W F w){u:Nat}{p:World->Prop}(hp:F u p):p w:=(h.2 u p hp).1
def pQ(P:Program)(w:World)(r:Rel):Result Next->Prop
 | .ok (.value u) w'=>∃x,u=r.val x/\r.R x w'/\Below w.heap.size w w'
 | .ok (.enter f args) w'=>w'=w/\Calls P f args w (fun e w''=>∃x,e= .returned (r.val x)/\r.R x w''/\Below w.heap.size w w'')
 |_=>False
section
variable {P : Program} {ops : Array Oper} {md : Region.Mode} {W : World} {S : Nat->Value ⊕ Rel}
def cW(P:Program)(md:Region.Mode)(ops:Array Oper)(W:World)(o:Oper)(F:Fs)(a:Act):Value⊕Rel->Prop
 | .inl v=>(Region.wanted o (yielded ops a.tmps)=true/\∀w,CF W (res md o F) w->jW P w v ((execOp a.eval o).run P w))\/(Region.wanted o (yielded ops a.tmps)=false/\v=undef)
 | .inr r=>Region.wanted o (yielded ops a.tmps)=true/\∀w,CF W (res md o F) w->pQ P w r ((execOp a.eval o).run P w)
theorem rG{o:Oper}{F F':Fs}{a:Act}{s:Value⊕Rel}(hs:∀u p,F u p->F' u p)(h:cW P md ops W o F a s):cW P md ops W o F' a s:=by
 cases s with
 |inl v=>
  rcases h with⟨h1,h2⟩|h
  ·exact .inl ⟨h1,fun w hw=>h2 w (hw.mono fun u p hb=>⟨hs u p hb.1,hb.2⟩)⟩
  ·exact .inr h
 |inr r=>exact⟨h.1,fun w hw=>h.2 w (hw.mono fun u p hb=>⟨hs u p hb.1,hb.2⟩)⟩
def dT(k:Nat)(s:Value⊕Rel)(dst:Option Tmp)(K:Fs->Act->Prop)(F:Fs)(a:Act):Prop:=
 match s with
 | .inl v=>K F (a.put dst v)
 | .inr r=>∀x:r.α,K (Fs.ins k (r.R x) F) (a.put dst (r.val x))
def opM(P:Program)(md:Region.Mode)(ops:Array Oper)(W:World)(S:Nat->Value⊕Rel)(i:Nat)(K:Fs->Act->Prop)(F:Fs)(a:Act):Prop:=
 match ops[i]? with
 |none=>K F a
 |some o=>cW P md ops W o F a (S i)/\dT i (S i) o.dst K F a
def jx(P:Program)(md:Region.Mode)(ops:Array Oper)(W:World)(S:Nat->Value⊕Rel)(n:Nat)(L:Array Bool->Fs->Act->Prop):Nat->Array Bool->Fs->Act->Prop
 |0,listed,F,a=>L listed F a
 |f+1,listed,F,a=>
  Region.ready md ops listed≠[]/\∀i∈Region.ready md ops listed,i<n/\opM P md ops W S i (jx P md ops W S n L f (listed.setIfInBounds i true)) F a
theorem tu{i:Nat}{a:Act}{F:Fs}{w:World}{K:Fs->Act->Prop}{K':Act->World->Prop}{Q':Exit->Act->World->Prop}(hw:CF W F w)(h:∀F a w',CF W F w'->K F a->K' a w')
  (hh:opM P md ops W S i K F a):wpOp P ops Q' i K' a w:=by
 unfold opM at hh;unfold wpOp;split
 ·rename_i ho;simp only[ho]at hh;exact h _ _ _ hw hh
 ·rename_i o ho;simp only[ho]at hh;obtain⟨hy,hn⟩:=hh;generalize S i=s at hy hn
  cases s with
  |inl v=>
   rcases hy with⟨hwt,hq⟩|⟨hwt,rfl⟩
   ·rw[aB hwt];left;have hq:=hq w (hw.mono fun u p hb=>hb.1);unfold Oper.wp;generalize(execOp a.eval o).run P w=r at*
    cases r with
    |ok x w'=>
     cases x<;>simp only[jW]at hq<;>simp only[Oper.upon]
     case value u=>
      obtain⟨e1,e2⟩:=hq;rw[e1,e2];exact h _ _ _ hw hn
     case skip=>
      obtain⟨e1,e2⟩:=hq;rw[e1,<-e2];exact h _ _ _ hw hn
     case enter f args=>
      obtain⟨e1,hc⟩:=hq;rw[e1];exact hc.mono fun e w'' ⟨he,hb⟩=>by subst he;exact h _ _ _ (hw.step hb) hn
    |halt x w'=>simp only[jW]at hq
   ·rw[an (by rw[hwt];simp)];exact h _ _ _ hw hn
  |inr r=>
   obtain⟨hwt,hq⟩:=hy;rw[aB hwt];left;have hq:=hq w (hw.mono fun u p hb=>hb.1);unfold Oper.wp;generalize(execOp a.eval o).run P w=rr at*
   cases rr with
   |ok x w'=>
    cases x<;>simp only[pQ]at hq<;>simp only[Oper.upon]
    case value u=>
     obtain⟨x,e1,e2,e3⟩:=hq;rw[e1];exact h _ _ _ ((hw.step e3).ins i r x e2) (hn x)
    case enter f args=>
     obtain⟨e1,hc⟩:=hq;rw[e1];exact hc.mono fun e w'' ⟨x,he,hr,hb⟩=>by subst he;exact h _ _ _ ((hw.step hb).ins i r x hr) (hn x)
   |halt x w'=>simp only[pQ]at hq
theorem jP{n g:Nat}{L:Array Bool->Fs->Act->Prop}{Q':Exit->Act->World->Prop}(hL:∀listed F a w,CF W F w->L listed F a->wpAny P md ops Q' g listed a w):
  ∀(f:Nat) (listed:Array Bool) (F:Fs) (a:Act) (w:World),CF W F w->jx P md ops W S n L f listed F a->wpAny P md ops Q' (f+g) listed a w
 |0,_,_,_,_,hw,h=>by rw[bU];exact hL _ _ _ _ hw h
 |f+1,listed,F,a,w,hw,h=>by
  rw[show f+1+g=(f+g)+1 by omega];exact⟨fun h0=>absurd h0 h.1,fun i hi=>tu hw (fun F' a' w' hw' h'=>jP hL f _ F' a' w' hw' h') (h.2 i hi).2⟩
def kY(k:Nat)(F F':Fs):Prop:=F'=F\/∃p,F'=Fs.ins k p F
theorem kY.sub{k:Nat}{F F':Fs}(h:kY k F F'):∀u p,F u p->F' u p:=by
 rcases h with rfl|⟨q,rfl⟩
 ·exact fun _ _ h=>h
 ·exact fun _ _ h=>.inr h
theorem kY.BH{o:Oper}{k:Nat}{F F':Fs}(h:kY k F F')(hn:∀e∈o.after,Region.binds md e=true->e.on≠k):res md o F'=res md o F:=by
 rcases h with rfl|⟨q,rfl⟩
 ·rfl
 ·exact An hn
theorem tj{o:Oper}{F F':Fs}{a:Act}{s:Value⊕Rel}(e:res md o F'=res md o F)(h:cW P md ops W o F' a s):cW P md ops W o F a s:=by
 cases s<;>(simp only[cW]at h⊢;rw[<-e];exact h)
theorem gj{k:Nat}{s:Value⊕Rel}{dst:Option Tmp}{K K':Fs->Act->Prop}{F:Fs}{a:Act}(h:∀F' v,kY k F F'->K F' (a.put dst v)->K' F' (a.put dst v))(hh:dT k s dst K F a):dT k s dst K' F a:=by
 cases s with
 |inl v=>exact h F v (.inl rfl) hh
 |inr r=>exact fun x=>h _ _ (.inr ⟨_,rfl⟩) (hh x)
theorem oQ{k:Nat}{s:Value⊕Rel}{dst:Option Tmp}{K:Fs->Act->Prop}{F:Fs}{a:Act}(hh:dT k s dst K F a):∃F' v,kY k F F'/\K F' (a.put dst v):=by
 cases s with
 |inl v=>exact⟨F,v,.inl rfl,hh⟩
 |inr r=>exact⟨_,_,.inr ⟨_,rfl⟩,hh r.d⟩
theorem vz{i j:Nat}{s t:Value⊕Rel}{x y:Option Tmp}{K:Fs->Act->Prop}{F:Fs}{a:Act}(hxy:∀d,x=some d->y≠some d)(hh:dT i s x (dT j t y K) F a):dT j t y (dT i s x K) F a:=by
 cases s with
 |inl v=>
  cases t with
  |inl u=>simp only[dT]at*;rwa[<-Act.put_comm a v u hxy]
  |inr m=>intro b;have:=hh b;simp only[dT]at*;rwa[<-Act.put_comm a v _ hxy]
 |inr m=>
  cases t with
  |inl u=>intro b;have:=hh b;simp only[dT]at*;rwa[<-Act.put_comm a _ u hxy]
  |inr m'=>
   intro b b';have:=hh b' b;rw[<-Act.put_comm a _ _ hxy,Fs.yU];exact this
theorem mW{o:Oper}{a:Act}{F:Fs}{s:Value⊕Rel}{dst:Option Tmp}{v:Value}(hs:∀cs b,o.op≠ .select cs b)(h:∀d,dst=some d->d∉o.looksAt ops):cW P md ops W o F (a.put dst v) s↔cW P md ops W o F a s:=by
 have e1:=execOp_put (ops:=ops) o hs a dst v h;have e2:=wanted_put (ops:=ops) o a dst v h;cases s<;>simp only[cW,e1,e2]
theorem tC{n i:Nat}{oi:Oper}{L:Array Bool->Fs->Act->Prop}(hi:ops[i]?=some oi)(hsel:∀(j:Nat) (o:Oper) cs b,ops[j]?=some o->o.op≠ .select cs b)
  (hs:Region.sinkB md ops n=true) (hc:Region.chainB md ops n=true) (hn:n<ops.size) (hin:i<n)
  (hdone:∀listed F a,L listed F a->∀j∈Region.ready md ops listed,n<=j):
  ∀(f:Nat) (listed:Array Bool) (F:Fs) (a:Act),HeadInv md ops n listed->
   (∀j oj,ops[j]?=some oj->j≠i->listed.getD j true=false->(∀e∈oj.after,Region.binds md e=true->e.on≠i)->oi.apart ops oj=true)->
   i∈Region.ready md ops listed->cW P md ops W oi F a (S i)->
   dT i (S i) oi.dst (jx P md ops W S n L f (listed.setIfInBounds i true)) F a->jx P md ops W S n L (f+1) listed F a:=by
 have here : ∀ (f : Nat) (listed : Array Bool) (F : Fs) (a : Act), cW P md ops W oi F a (S i) -> dT i (S i) oi.dst (jx P md ops W S n L f (listed.setIfInBounds i true)) F a ->
     opM P md ops W S i (jx P md ops W S n L f (listed.setIfInBounds i true)) F a:=fun f listed F a hy H=>by
  unfold opM;simp only[hi];exact⟨hy,H⟩
 intro f
 induction f with
 |zero=>
  intro listed F a inv _ hr hy H;have hun:=(mem_ready.1 hr).1;refine⟨fun h=>(by rw[h]at hr;cases hr),fun j hj=>?_⟩;have hjn:j<n:=my fun h=>absurd hj (tail_waits hs hc hn inv _ i rfl hin hun j h);refine⟨hjn,?_⟩;by_cases hji:j=i
  ·subst hji;exact here _ _ _ _ hy H
  ·obtain⟨F',v,_,hL⟩:=oQ H;have:=hdone _ _ _ hL j (ready_mono hj hji);omega
 |succ f ih=>
  intro listed F a inv hfree hr hy H;have hun:=(mem_ready.1 hr).1;refine⟨fun h=>(by rw[h]at hr;cases hr),fun j hj=>?_⟩;have hjn:j<n:=my fun h=>absurd hj (tail_waits hs hc hn inv _ i rfl hin hun j h);refine⟨hjn,?_⟩;by_cases hji:j=i
  ·subst hji;exact here _ _ _ _ hy H
  ·obtain⟨hjun,oj,hoj,hall⟩:=mem_ready.1 hj;have hnot:∀e∈oj.after,Region.binds md e=true->e.on≠i:=fun e he hb heq=>by
    have h1:=hall e he hb;rw[heq,getD_both hun]at h1;cases h1
   obtain⟨p1,p2,p3⟩:=Oper.apart_spec (hfree j oj hoj hji hjun hnot);have H1:dT i (S i) oi.dst (fun F' a'=>cW P md ops W oj F' a' (S j)/\dT j (S j) oj.dst (jx P md ops W S n L f ((listed.setIfInBounds i true).setIfInBounds j true)) F' a') F a:=
    gj (fun F' v _ hK=>by
     have h1:=(hK.2 j (ready_mono hj hji)).2;unfold opM at h1;simp only[hoj]at h1;exact h1) H
   have hyj:cW P md ops W oj F a (S j):=by
    obtain⟨F',v,hU,h1,_⟩:=oQ H1;exact tj (hU.BH hnot) ((mW (fun cs b=>hsel j oj cs b hoj) p1).1 h1)
   have H2:=vz p2 (gj (fun F' v _ hK=>hK.2) H1)
   have hfree' : ∀ k ok, ops[k]? = some ok -> k ≠ i -> (listed.setIfInBounds j true).getD k true = false ->
       (∀e∈ok.after,Region.binds md e=true->e.on≠i)->oi.apart ops ok=true:=fun k ok hk hki hu hno=>by
    refine hfree k ok hk hki ?_ hno;by_cases hjk:j=k
    ·subst hjk;exact hjun
    ·rw[getD_set_ne true hjk]at hu;exact hu
   unfold opM;simp only[hoj];refine⟨hyj,gj (fun F' v hU hK=>ih (listed.setIfInBounds j true) F' _ (inv.set hj hjn) hfree' (ready_mono hr (Ne.symm hji)) ((mW (fun cs b=>hsel i oi cs b hi) p3).2 (rG hU.sub hy)) ?_) H2⟩;rw[Array.setIfInBounds_comm _ _ hji];exact hK
def gI(P:Program)(md:Region.Mode)(ops:Array Oper)(W:World)(S:Nat->Value⊕Rel)(Q:Fs->Act->Prop):List Oper->Nat->Fs->Act->Prop
 |[],_,F,a=>Q F a
 |o::l,k,F,a=>cW P md ops W o F a (S k)/\dT k (S k) o.dst (gI P md ops W S Q l (k+1)) F a
theorem qx{n g:Nat}{Lq:Fs->Act->Prop}(hsel:Region.noSelect ops=true)(hs:Region.sinkB md ops n=true)(hc:Region.chainB md ops n=true)(hn:n<ops.size):
  ∀(l:List Oper) (k:Nat) (listed:Array Bool) (F:Fs) (a:Act),(∀j,j<l.length->l[j]?=ops[k+j]?)->k+l.length=n->HeadInv md ops n listed->
  Region.lexHead md ops g l.length k listed=true->gI P md ops W S Lq l k F a->
  jx P md ops W S n (fun listed' F' a'=>Region.seqB md ops g n listed'=true/\Lq F' a') l.length listed F a
 |[],k,listed,F,a,_,hk,_,hB,h=>by
  have:k=n:=by simpa using hk
  subst this;exact⟨by simpa[Region.lexHead]using hB,h⟩
 |o::l,k,listed,F,a,hl,hk,inv,hB,h=>by
  have h0:ops[k]?=some o:=by simpa using(hl 0 aO).symm
  simp only[eu,Region.lexHead,cu]at hB;obtain⟨⟨hr,hf⟩,hB'⟩:=hB;have hkn:k<n:=by simp only[eu]at hk;omega
  have hr':k∈Region.ready md ops listed:=by simpa using hr
  exact tC h0 (Region.noSelect_spec hsel) hs hc hn hkn (fun listed' F' a' hL=>seqB_ready hL.1) l.length listed F a inv (Region.free_spec h0 hf) hr' h.1
   (gj (fun F' v _ hK=>qx hsel hs hc hn l (k+1) _ F' _ (fun j hj=>by have:=hl (j+1) fq;simpa[ep,fe 1 j]using this) (by simp only[eu]at hk;omega) (inv.set hr' hkn) hB' hK) h.2)
theorem jO{id:Nat}{Q:Exit->Act->World->Prop}{a:Act}{w:World}{l:List Oper}(n:Nat)(ss:List (Value⊕Rel))(hm:P.follows .mixedOrders=true)(hB:Region.lexTailB .any l.toArray n=true)
  (h:gI P .any l.toArray w (fun i=>ss.getD i (.inl undef)) (fun F a'=>∀w',CF w F w'->wpList P l.toArray Q (l.drop n) a' w') (l.take n) 0 Fs.none a):(Code.region id l.toArray true).wp P Q a w:=by
 simp only[Region.lexTailB,cu,decide_eq_true_eq]at hB;obtain⟨⟨⟨⟨hsel,hn⟩,hs⟩,hc⟩,hlex⟩:=hB;have hn':n<l.length:=by simpa using hn
 have htl:(l.take n).length=n:=by simp;omega
 have hdl:(l.drop n).length=l.toArray.size-n:=by simp
 have inv0:HeadInv .any l.toArray n (Array.replicate l.toArray.size false):=
  ⟨by simp,fun j oj _ hl=>(by rw[getD_replicate_false]at hl;cases hl),fun t _ ht=>getD_in (by simpa using ht) (getD_replicate_false _ _)⟩
 have H:=qx (md:=.any) (g:=l.toArray.size-n) hsel hs hc hn (l.take n) 0 _ Fs.none a (fun j hj=>by
  have hj':j<n:=by rw[htl]at hj;exact hj
  simp[hj']) (by simpa using htl) inv0 (by rw[htl];exact hlex) h
 refine wp_region_any hm ?_;have hC:CF w Fs.none w.drew:=⟨(Below.refl _ _).drew,fun _ _ h=>h.elim⟩;have:=jP (Q':=Q) (g:=l.toArray.size-n) (fun listed F a' w' hw' hL=>by
  have:=wpAny_of_seq (md:=.any) (Q':=Q) (l.drop n) n listed a' w' (fun j=>by simp[gV]) (by rw[hdl];exact hL.1) (hL.2 w' hw');rwa[hdl]at this) _ _ _ _ w.drew hC H
 rw[htl,show n+(l.toArray.size-n)=l.toArray.size by omega]at this;exact this
theorem yO{Q:Fs->Act->Prop}{k:Nat}{F:Fs}{a:Act}(h:Q F a):gI P md ops W S Q [] k F a:=h
theorem nF{Q:Fs->Act->Prop}{o:Oper}{l:List Oper}{k:Nat}{F:Fs}{a:Act}{v:Value}(hS:S k= .inl v)
  (h:∀K:Act->Prop,(∀a',gI P md ops W S Q l (k+1) F a'->K a')->if Region.wanted o (yielded ops a.tmps)=true then(∀w,Ext W w->CF W (res md o F) w->jW P w v ((execOp a.eval o).run P w))/\K (a.put o.dst v)else v=undef/\K (a.put o.dst undef)):
  gI P md ops W S Q (o::l) k F a:=by
 have h0:=h (gI P md ops W S Q l (k+1) F) (fun _ h=>h);refine⟨?_,?_⟩<;>rw[hS]<;>by_cases hw:Region.wanted o (yielded ops a.tmps)=true
 ·rw[aB hw]at h0;exact .inl ⟨hw,fun w hc=>h0.1 w hc.1 hc⟩
 ·rw[an hw]at h0;exact .inr ⟨by simpa using hw,h0.1⟩
 ·rw[aB hw]at h0;exact h0.2
 ·rw[an hw]at h0;obtain⟨e,h1⟩:=h0;rw[e];exact h1
theorem nG{Q:Fs->Act->Prop}{o:Oper}{l:List Oper}{k:Nat}{F:Fs}{a:Act}{r:Rel}(hS:S k= .inr r)
  (h:∀K:Act->Prop,(∀(x:r.α) a',gI P md ops W S Q l (k+1) (Fs.ins k (r.R x) F) a'->K a')->if Region.wanted o (yielded ops a.tmps)=true then(∀w,Ext W w->CF W (res md o F) w->pQ P w r ((execOp a.eval o).run P w))else False)
  (hn:∀x:r.α,gI P md ops W S Q l (k+1) (Fs.ins k (r.R x) F) (a.put o.dst (r.val x))):
  gI P md ops W S Q (o::l) k F a:=by
 have h0:=h (fun _=>True) (fun _ _ _=>trivial);by_cases hw:Region.wanted o (yielded ops a.tmps)=true
 ·rw[aB hw]at h0;exact⟨by rw[hS];exact⟨hw,fun w hc=>h0 w hc.1 hc⟩,by rw[hS];exact hn⟩
 ·rw[an hw]at h0;exact h0.elim
end
end Own3
attribute [go_sem] jW Own3.pQ
end
section
open Go.RowKit Go.BigFrame
attribute [local go_sem ↓] Go.wp_at_zero Go.wp_at_succ
def rIZ(z:Int):Own3.Rel:=⟨IV,⟨false,none,0,0⟩,fun y=>.agg #[.bool y.s,.slice y.a y.n y.cap],fun y w=>IZ w y z,fun _ _ _ h hb=>h.below hb (ai _)⟩
theorem zA{P:Program}{f:FuncId}{args:Array Value}{w:World}{z:Int}(h:Calls P f args w fun e w'=>(∃y,e= .returned (.agg #[.bool y.s,.slice y.a y.n y.cap])/\IZ w' y z)/\Below w.heap.size w w'):
 Calls P f args w fun e w'=>∃x,e= .returned ((rIZ z).val x)/\(rIZ z).R x w'/\Below w.heap.size w w':=h.mono fun _ _ ⟨⟨y,h1,h2⟩,h3⟩=>⟨y,h1,h2,h3⟩
def rW(N:Nat):Own3.Rel:=⟨Option Addr×List Nat,(none,[]),fun p=>.slice p.1 p.2.length p.2.length,fun p w=>WS w p.1 p.2/\Dg.NF B32 p.2/\Dg.vl B32 p.2=N,fun _ _ _ h hb=>⟨h.1.below hb (ai _),h.2⟩⟩
theorem relW{P:Program}{f:FuncId}{args:Array Value}{w:World}{N:Nat}(h:Calls P f args w fun e w'=>jL w' e N/\Below w.heap.size w w'):
 Calls P f args w fun e w'=>∃x,e= .returned ((rW N).val x)/\(rW N).R x w'/\Below w.heap.size w w':=h.mono fun _ _ ⟨⟨a,l,h1,h2,h3,h4⟩,h5⟩=>⟨(a,l),h1,⟨h2,h3,h4⟩,h5⟩
theorem Ar{x y q r:Nat}(hx:x<B32^q)(hy:y<B32^r):x*y<B32^(q+r):=by
 rw[ja];by_cases h0:y=0
 ·rw[h0,eL];exact mr (ff aA) (ff aA)
 ·exact rE hx (cC hy) aa
set_option maxRecDepth 10000 in
set_option maxHeartbeats 8000000 in
theorem AF(x y:IV)(u v:Int)(fu:Fit u)(fv:Fit v)(w:World)(hx:IP w x u)(hy:IP w y v):
  Calls Tryz.prog 114 #[.agg #[.bool x.s,.slice x.a x.n x.cap],.agg #[.bool y.s,.slice y.a y.n y.cap]] w fun e w'=>(∃z,e= .returned (.agg #[.bool z.s,.slice z.a z.n z.cap])/\IZ w' z (u*v))/\Below w.heap.size w w':=by
 obtain⟨l,h1,rfl⟩:=hx;obtain⟨m,h2,rfl⟩:=hy;have bl:=dv h1.nf fu;have bm:=dv h2.nf fv;have S1:=af (fun w (h:IW w x l)=>di x l aa w h);have S2:=af (fun w (h:IW w y m)=>di y m aa w h);have TI:=af (fun w ha hb=>qm l m x.a y.a l.length m.length h1.nf.dg h2.nf.dg aa aa w ha hb);have MA:=af (fun (s:Bool) (k:List Nat) a (hk:Dg.NF B32 k) (hb:k.length<=3000000000000) w h=>fJ s k a k.length hb (ai _) hk.dg w h);have LB:Hid (∀k,Dg.NF B32 k->Dg.vl B32 k=Dg.vl B32 l*Dg.vl B32 m->k.length<=3000000000000):=fun k hk hv=>by
  have:=gZ hk (by rw[hv];exact Ar (Dg.aY h1.nf.dg) (Dg.aY h2.nf.dg));omega
 have H1:=af h1;have H2:=af h2;obtain⟨s,a,n,cap⟩:=x;obtain⟨t,b,p,cbp⟩:=y;simp only[]at S1 S2 TI;clear h1 h2 fu fv;generalize hl:l.length=q at*;generalize hm:m.length=r at*;have hB0:Below w.heap.size w (((w.alloc (.cells #[.bool s,.slice a n cap] 69)).alloc (.cells #[.bool t,.slice b p cbp] 69)).alloc (.cells #[.bool false,.slice none 0 0] 69)):=by exact bel
 go_enter Tryz.func114,Tryz.ntmps114
 go_wp2_with fail
 (apply Own3.jO 11 [.inl _,.inl _,.inl _,.inl _,.inl _,.inl _,.inl _,.inl _,.inl _,.inr (rW (Dg.vl B32 l*Dg.vl B32 m)),.inr (rIZ (Dg.iv s (Dg.vl B32 l)*Dg.iv t (Dg.vl B32 m)))] aD aD;simp only[rD,lu,rC,iX];refine zs0 ?_;refine zs0 ?_;refine zs0 ?_;refine zs0 ?_;refine zs0 ?_;refine zs0 ?_;refine zs0 ?_;refine zs0 ?_;refine zs0 ?_;(refine Own3.nG rfl (fun K hK=>?_) (fun x11=>?_);(focus(go_simp;clear hK K;intro w' hw' hcb';first|(go_at_call 245;exact(relW (TI.out _ (H1.out.ws.below (Below.trans hB0 ((Ext.below hw').mono hB0.size)) (ai _)) (H2.out.ws.below (Below.trans hB0 ((Ext.below hw').mono hB0.size)) (ai _)))))|(go_at_call 244;(have hf:=hcb'.get (u:=9) zb10;have hf2:WS w' x11.1 x11.2/\Dg.NF B32 x11.2/\Dg.vl B32 x11.2=Dg.vl B32 l*Dg.vl B32 m:=hf;refine zA ?_;rw[<-Dg.xx,<-hf2.2.2];exact MA.out _ _ _ hf2.2.1 (LB.out _ hf2.2.1 hf2.2.2) _ hf2.1))));simp only[rW,Act.put,List.setIfInBounds_toArray,va,List.set_cons_zero]);(refine Own3.nG rfl (fun K hK=>?_) (fun x12=>?_);(focus(go_simp;clear hK K;intro w' hw' hcb';first|(go_at_call 245;exact(relW (TI.out _ (H1.out.ws.below (Below.trans hB0 ((Ext.below hw').mono hB0.size)) (ai _)) (H2.out.ws.below (Below.trans hB0 ((Ext.below hw').mono hB0.size)) (ai _)))))|(go_at_call 244;(have hf:=hcb'.get (u:=9) zb10;have hf2:WS w' x11.1 x11.2/\Dg.NF B32 x11.2/\Dg.vl B32 x11.2=Dg.vl B32 l*Dg.vl B32 m:=hf;refine zA ?_;rw[<-Dg.xx,<-hf2.2.2];exact MA.out _ _ _ hf2.2.1 (LB.out _ hf2.2.1 hf2.2.2) _ hf2.1))));simp only[rIZ,Act.put,List.setIfInBounds_toArray,va,List.set_cons_zero]);refine Own3.yO ?_;intro w1 hw1;have hB1:=hw1.1;have HW11:Hid ((WS w1 x11.1 x11.2/\Dg.NF B32 x11.2/\Dg.vl B32 x11.2=Dg.vl B32 l*Dg.vl B32 m)):=af (hw1.get (u:=9) (Or.inr (Or.inl ⟨rfl,rfl⟩)));have HY12:Hid (IZ w1 x12 (Dg.iv s (Dg.vl B32 l)*Dg.iv t (Dg.vl B32 m))):=af (hw1.get (u:=10) (Or.inl ⟨rfl,rfl⟩));clear hw1;obtain⟨g1,rfl⟩:=mob hB1;clear hB1)
 go_wp2_with fail
 (refine bodyPost_ret (v:=.agg #[.bool x12.s,.slice x12.a x12.n x12.cap]) (by simp[results,Tryz.results114,go_sem]) rfl ⟨⟨x12,rfl,IZ.dt HY12.out ?_⟩,?_⟩;(exact gh);(exact bel))
end
section
open Go.RowKit Go.BigFrame
attribute [local go_sem ↓] Go.wp_at_zero Go.wp_at_succ
def dU(V V':World):Prop:=∃M,dL V M/\dL M V'
theorem dU.iU(W:World)(v v2:Value)(t t2:TypeId)(R R':Obj):dU ((W.alloc (.cells #[.bool false,v] t)).alloc (.cells #[.bool false,v2] t2)) ((W.alloc R).alloc R'):=
 ⟨(W.alloc R).alloc (.cells #[.bool false,v2] t2),dL.alloc (dL.iU _ _ _ _) _,dL.iU _ _ _ _⟩
theorem dU.alloc{V V':World}(h:dU V V')(R:Obj):dU (V.alloc R) (V'.alloc R):=by
 obtain⟨M,h1,h2⟩:=h;exact⟨_,h1.alloc R,h2.alloc R⟩
theorem dU.mor{V V':World}(h:dU V V')(g:Nat×Array Obj):dU (more V g) (more V' g):=by
 obtain⟨M,h1,h2⟩:=h;exact⟨_,h1.mor g,h2.mor g⟩
theorem dU.drew{V V':World}(h:dU V V'):dU V.drew V'.drew:=by
 obtain⟨M,h1,h2⟩:=h;exact⟨_,h1.drew,h2.drew⟩
theorem gG{p:Prop}(h:p:=by(repeat(first|with_reducible exact dU.iU _ _ _ _ _ _ _|with_reducible refine dU.mor ?_ _|with_reducible refine dU.alloc ?_ _|with_reducible refine dU.drew ?_))):p:=h
theorem IZ.gG{V V':World}{x:IV}{z:Int}(h:IZ V x z)(k:dU V V'):IZ V' x z:=by
 obtain⟨M,k1,k2⟩:=k;exact(h.dt k1).dt k2
theorem zY(W:World)(t:TypeId)(b:Nat)(a:Nat)(hb:b=W.heap.size):WS (W.alloc (.cells #[.int .u32 (a:Int)] t)) (some ⟨b,0,none⟩) [a]:=by
 subst hb;exact rJ W t a
def DMRes(w:World)(u v:Int)(e:Ending)(w':World):Prop:=∃q r,e= .returned (.tuple #[.agg #[.bool q.s,.slice q.a q.n q.cap],.agg #[.bool r.s,.slice r.a r.n r.cap],.int .i64 (if v=0 then 10 else 0)])/\IZ w' q (u/v)/\IZ w' r (if v=0 then 0 else u%v)/\Below w.heap.size w w'
set_option maxRecDepth 10000 in
set_option maxHeartbeats 8000000 in
theorem pg(x y:IV)(u v:Int)(fu:Fit u)(fv:Fit v)(w:World)(hx:IP w x u)(hy:IP w y v):
  Calls Tryz.prog 322 #[.agg #[.bool x.s,.slice x.a x.n x.cap],.agg #[.bool y.s,.slice y.a y.n y.cap]] w (DMRes w u v):=by
 obtain⟨l,h1,rfl⟩:=hx;obtain⟨m,h2,rfl⟩:=hy;have bl:=dv h1.nf fu;have bm:=dv h2.nf fv;have S1:=af (fun w (h:IW w x l)=>di x l aa w h);have S2:=af (fun w (h:IW w y m)=>di y m aa w h);have H1:=af h1;have H2:=af h2;by_cases hm0:m=[]
 ·have hv0:Dg.iv y.s (Dg.vl B32 m)=0:=by rw[hm0];exact Dg.pZ _
  rw[hv0];have hml:m.length=0:=by rw[hm0];rfl
  rw[hml]at S2;obtain⟨s,a,n,cap⟩:=x;obtain⟨t,b,p,cbp⟩:=y;simp only[]at S1 S2;clear h1 h2 fu fv hv0 hml hm0
  go_enter Tryz.func322,Tryz.ntmps322
  go_wp2_with (first|(go_at_call 246;(with_reducible refine(S2.out _ ?_).mono ?_);(exact H2.out.below (B:=w.heap.size) az (ai _));rintro e w1 ⟨rfl,hb1⟩;obtain⟨g1,rfl⟩:=mob hb1;clear hb1))
  refine bodyPost_ret (v:=.tuple #[.agg #[.bool ((⟨false,none,0,0⟩:IV)).s,.slice ((⟨false,none,0,0⟩:IV)).a ((⟨false,none,0,0⟩:IV)).n ((⟨false,none,0,0⟩:IV)).cap],.agg #[.bool ((⟨false,none,0,0⟩:IV)).s,.slice ((⟨false,none,0,0⟩:IV)).a ((⟨false,none,0,0⟩:IV)).n ((⟨false,none,0,0⟩:IV)).cap],.int .i64 10]) uK rfl ?_;exact⟨⟨false,none,0,0⟩,⟨false,none,0,0⟩,rfl,by rw[Int.ediv_zero];exact IZ.zero _,by rw[aB rfl];exact IZ.zero _,by exact bel⟩
 have hvp:=Dg.gi h2.nf hm0 aA;have hv0:¬Dg.iv y.s (Dg.vl B32 m)=0:=fun e=>by
  have:=Dg.hH y.s (Dg.vl B32 m);rw[e]at this;simp at this;omega
 have DV:=af (fun w ha hb=>kS l m x.a y.a l.length m.length h1.nf h2.nf hm0 aa (ai _) w ha hb);have MA:=af (fun (s:Bool) (k:List Nat) a c (hc:k.length<=c) (hk:Dg.NF B32 k) (hb:k.length<=3000000000000) w h=>fJ s k a c hb hc hk.dg w h);have LB:Hid (∀k,Dg.NF B32 k->Dg.vl B32 k<=Dg.vl B32 l+Dg.vl B32 m+1->k.length<=1000000000000):=fun k hk hv=>by
  have h3:=lz (Dg.aY h1.nf.dg) (Dg.aY h2.nf.dg);have h4:Dg.vl B32 k<B32^(l.length+m.length+1+1):=by
   have h5:1<=B32^(l.length+m.length+1):=ff aA;have h6:B32^(l.length+m.length+1+1)=4294967296*B32^(l.length+m.length+1):=by rw[bT,aK]
   omega
  have:=gZ hk h4;omega
 have PL:Hid (∀(k:List Nat) (a:Option Addr) (c:Nat) (b:Option Addr),Dg.NF B32 k->k.length<=1000000000000->∀w,WS w a k->WS w b [1]->Calls Tryz.prog 318 #[.slice a k.length c,.slice b 1 1] w fun e w'=>jL w' e (Dg.vl B32 k+Dg.vl B32 [1])/\Below w.heap.size w w'):=
  fun k a c b hk hb w ha hb1=>nB k [1] a b c 1 hk.dg (fun x hx=>by rw[cD.1 hx];decide) aa aO w ha hb1
 have MI:=af (fun (k:List Nat) a c (hk:Dg.NF B32 k) (hb:k.length<=1000000000000) (hle:Dg.vl B32 k<=Dg.vl B32 m) w ha hb1=>lL m k y.a a m.length c h2.nf.dg hk.dg aa aa (cq fun hlt=>by have:=Dg.fN aA h2.nf hk hlt;omega) hle w ha hb1);have K:=af (Dg.B8 (s:=x.s) (t:=y.s) (m:=Dg.vl B32 l) (n:=Dg.vl B32 m) hvp);have V0:=af hv0;have VP:=af hvp;have m1:¬m.length=0:=fun e=>hm0 (fS e);have m2:¬(m.length:Int)=0:=by omega
 obtain⟨s,a,n,cap⟩:=x;obtain⟨t,b,p,cbp⟩:=y;simp only[]at S1 S2 DV MI K V0;clear h1 h2 fu fv hm0 hv0 hvp;generalize hl:l.length=q at*;generalize hm:m.length=r at*;have HL:=af hl;have HM:=af hm;clear hl hm
 go_enter Tryz.func322,Tryz.ntmps322
 go_upto_region 5 with(first|(go_at_call 246;(first|((with_reducible refine(S1.out _ ?_).mono ?_);(exact H1.out.below (B:=w.heap.size) az (ai _)))|((with_reducible refine(S2.out _ ?_).mono ?_);(exact H2.out.below (B:=w.heap.size) az (ai _))));rintro e w1 ⟨rfl,hb1⟩;obtain⟨g1,rfl⟩:=mob hb1;clear hb1)|(go_at_call 332;(with_reducible refine(DV.out _ ?_ ?_).mono ?_);(exact H1.out.ws.below (B:=w.heap.size) az (ai _));(exact H2.out.ws.below (B:=w.heap.size) az (ai _));rintro e w3 ⟨a1,l1,c1,a2,l2,c2,rfl,d1,d2,d3,d4,d5,d6,d7,d8,hb3⟩;have D:=af (And.intro d1 (And.intro d2 (And.intro d3 (And.intro d4 (And.intro d5 (And.intro d6 (And.intro d7 d8)))))));clear d1 d2 d3 d4 d5 d6 d7 d8;obtain⟨g3,rfl⟩:=mob hb3;clear hb3))
 by_cases hs:s=true
 rotate_left
 ·have hs':s=false:=by simpa using hs
  subst hs'
  go_wp2_with (first|(go_at_call 244;(with_reducible refine(MA.out _ l1 a1 c1 (D.out.1) (D.out.2.2.2.2.1) zb19 _ ?_).mono ?_);(exact(D.out.2.2.1).below (B:=_) az (ai _));rintro e w4 ⟨⟨y1,rfl,hy1⟩,hb4⟩;rw[D.out.2.2.2.2.2.2.1]at hy1;have HY1:=af hy1;clear hy1;obtain⟨g4,rfl⟩:=mob hb4;clear hb4)|(go_at_call 244;(with_reducible refine(MA.out _ l2 a2 c2 (D.out.2.1) (D.out.2.2.2.2.2.1) zb20 _ ?_).mono ?_);(exact(D.out.2.2.2.1).below (B:=_) az (ai _));rintro e w5 ⟨⟨y2,rfl,hy2⟩,hb5⟩;rw[D.out.2.2.2.2.2.2.2]at hy2;have HZ1:=af (HY1.out.below hb5 (ai _));have HY2:=af hy2;clear hy2;obtain⟨g5,rfl⟩:=mob hb5;clear hb5))
  refine bodyPost_ret (v:=.tuple #[.agg #[.bool y1.s,.slice y1.a y1.n y1.cap],.agg #[.bool y2.s,.slice y2.a y2.n y2.cap],.int .i64 0]) uK rfl ?_;refine⟨y1,y2,by rw[an V0.out],?_,?_,by exact bel⟩
  ·rw[(K.out.1 (.inl (by first|rfl|trivial))).1,show(false !=t)=t by cases t<;>rfl];refine IZ.gG HZ1.out ?_;exact gG
  ·rw[an V0.out,(K.out.1 (.inl (by first|rfl|trivial))).2];refine IZ.gG HY2.out ?_;exact gG
 subst hs;by_cases hl2:l2=[]
 ·have hr0:Dg.vl B32 l%Dg.vl B32 m=0:=by rw[<-D.out.2.2.2.2.2.2.2,hl2];rfl
  have HR0:=af hr0;have hlen0:l2.length=0:=by rw[hl2];rfl
  have hlg:decide (0<(l2.length:Int))=false:=by rw[db];omega
  have hlg2:¬0<l2.length:=by omega
  have hlg3:¬(0:Int)<(l2.length:Int):=by omega
  clear hr0 hl2 hlen0
  go_wp2_with (first|(go_at_call 244;(with_reducible refine(MA.out _ l1 a1 c1 (D.out.1) (D.out.2.2.2.2.1) zb19 _ ?_).mono ?_);(exact(D.out.2.2.1).below (B:=_) az (ai _));rintro e w4 ⟨⟨y1,rfl,hy1⟩,hb4⟩;rw[D.out.2.2.2.2.2.2.1]at hy1;have HY1:=af hy1;clear hy1;obtain⟨g4,rfl⟩:=mob hb4;clear hb4)|(go_at_call 244;(with_reducible refine(MA.out _ l2 a2 c2 (D.out.2.1) (D.out.2.2.2.2.2.1) zb20 _ ?_).mono ?_);(exact(D.out.2.2.2.1).below (B:=_) az (ai _));rintro e w5 ⟨⟨y2,rfl,hy2⟩,hb5⟩;rw[D.out.2.2.2.2.2.2.2]at hy2;have HZ1:=af (HY1.out.below hb5 (ai _));have HY2:=af hy2;clear hy2;obtain⟨g5,rfl⟩:=mob hb5;clear hb5))
  refine bodyPost_ret (v:=.tuple #[.agg #[.bool y1.s,.slice y1.a y1.n y1.cap],.agg #[.bool y2.s,.slice y2.a y2.n y2.cap],.int .i64 0]) uK rfl ?_;refine⟨y1,y2,by rw[an V0.out],?_,?_,by exact bel⟩
  ·rw[(K.out.1 (.inr HR0.out)).1,show(true !=t)= !t by cases t<;>rfl];refine IZ.gG HZ1.out ?_;exact gG
  ·rw[an V0.out,(K.out.1 (.inr HR0.out)).2];refine IZ.gG HY2.out ?_;exact gG
 ·have hlp:0<l2.length:=eM.2 hl2;have hlp2:(0:Int)<(l2.length:Int):=by omega
  have hlg:decide (0<(l2.length:Int))=true:=by rw[ei];exact hlp2
  have hmp:0<Dg.vl B32 l%Dg.vl B32 m:=by
   rw[<-D.out.2.2.2.2.2.2.2];exact Dg.gi D.out.2.2.2.2.2.1 hl2 aA
  have K2:=af (K.out.2 rfl hmp);have P2:Hid (Dg.vl B32 l2<=Dg.vl B32 m):=by
   rw[D.out.2.2.2.2.2.2.2];exact cC (dQ _ VP.out)
  have P1:Hid (Dg.vl B32 l1+Dg.vl B32 [1]<=Dg.vl B32 l+Dg.vl B32 m+1/\Dg.vl B32 l1+Dg.vl B32 [1]=Dg.vl B32 l/Dg.vl B32 m+1):=by
   rw[D.out.2.2.2.2.2.2.1,show Dg.vl B32 [1]=1 by simp[Dg.vl]];refine⟨?_,rfl⟩;have:=fG (Dg.vl B32 l) (Dg.vl B32 m);omega
  clear hl2 hmp
  go_wp2_with (first|(go_at_call 318;(with_reducible refine(PL.out l1 a1 c1 _ D.out.2.2.2.2.1 (LB.out l1 D.out.2.2.2.2.1 zb28) _ ?_ ?_).mono ?_);(exact D.out.2.2.1.below (B:=_) az (ai _));(exact zY _ _ _ 1 (by first|rfl|(simp;done)|(simp;omega)));rintro e w6 ⟨⟨a6,l6,rfl,s1,s2,s3⟩,hb6⟩;have T6:=af (And.intro s1 (And.intro s2 s3));clear s1 s2 s3;obtain⟨g6,rfl⟩:=mob hb6;clear hb6)|(go_at_call 320;(with_reducible refine(MI.out l2 a2 c2 D.out.2.2.2.2.2.1 (LB.out l2 D.out.2.2.2.2.2.1 zb29) P2.out _ ?_ ?_).mono ?_);(exact H2.out.ws.below (B:=w.heap.size) az (ai _));(exact D.out.2.2.2.1.below (B:=_) az (ai _));rintro e w7 ⟨⟨a7,l7,rfl,s1,s2,s3⟩,hb7⟩;have T7:=af (And.intro s1 (And.intro s2 s3));clear s1 s2 s3;obtain⟨g7,rfl⟩:=mob hb7;clear hb7)|(go_at_call 244;(with_reducible refine(MA.out _ l6 a6 l6.length (ai _) T6.out.2.1 (by have:=LB.out l6 T6.out.2.1 (by rw[T6.out.2.2];exact P1.out.1);omega) _ ?_).mono ?_);(exact T6.out.1.below (B:=_) az (ai _));rintro e w4 ⟨⟨y1,rfl,hy1⟩,hb4⟩;rw[T6.out.2.2,P1.out.2]at hy1;have HY1:=af hy1;clear hy1;obtain⟨g4,rfl⟩:=mob hb4;clear hb4)|(go_at_call 244;(with_reducible refine(MA.out _ l7 a7 l7.length (ai _) T7.out.2.1 (by have:=LB.out l7 T7.out.2.1 (by rw[T7.out.2.2];omega);omega) _ ?_).mono ?_);(exact T7.out.1.below (B:=_) az (ai _));rintro e w5 ⟨⟨y2,rfl,hy2⟩,hb5⟩;rw[T7.out.2.2,D.out.2.2.2.2.2.2.2]at hy2;have HZ1:=af (HY1.out.below hb5 (ai _));have HY2:=af hy2;clear hy2;obtain⟨g5,rfl⟩:=mob hb5;clear hb5))
  refine bodyPost_ret (v:=.tuple #[.agg #[.bool y1.s,.slice y1.a y1.n y1.cap],.agg #[.bool y2.s,.slice y2.a y2.n y2.cap],.int .i64 0]) uK rfl ?_;refine⟨y1,y2,by rw[an V0.out],?_,?_,by exact bel⟩
  ·rw[K2.out.1,show(true !=t)= !t by cases t<;>rfl];refine IZ.gG HZ1.out ?_;exact gG
  ·rw[an V0.out,K2.out.2];refine IZ.gG HY2.out ?_;exact gG
end
section
open Go.RowKit Go.BigFrame
attribute [local go_sem ↓] Go.wp_at_zero Go.wp_at_succ
structure GC(wr:World)(G:Nat)(L:Nat)(k:Nat)(a1:Option Addr)(l1:List Nat)(c1:Nat)(a2:Option Addr)(l2:List Nat)(c2:Nat):Prop where
 w1:WS wr a1 l1
 w2:WS wr a2 l2
 n1:Dg.NF B32 l1
 n2:Dg.NF B32 l2
 h1:l1.length<=c1
 h2:l2.length<=c2
 b1:l1.length<=L
 b2:l2.length<=L
 g:Nat.gcd (Dg.vl B32 l1) (Dg.vl B32 l2)=G
 k:k=Dg.vl B32 l2
theorem dJ{k l:List Nat}(hk:Dg.NF B32 k)(hl:Dg.dig B32 l)(h:Dg.vl B32 k<=Dg.vl B32 l):k.length<=l.length:=
 gZ hk (oy h (Dg.aY hl))
set_option maxRecDepth 10000 in
set_option maxHeartbeats 8000000 in
theorem A8(x y:IV)(u v:Int)(fu:Fit u)(fv:Fit v)(w:World)(hx:IP w x u)(hy:IP w y v):
  Calls Tryz.prog 256 #[.agg #[.bool x.s,.slice x.a x.n x.cap],.agg #[.bool y.s,.slice y.a y.n y.cap]] w fun e w'=>(∃z,e= .returned (.agg #[.bool z.s,.slice z.a z.n z.cap])/\IZ w' z ((Int.gcd u v:Nat):Int))/\Below w.heap.size w w':=by
 obtain⟨l,h1,rfl⟩:=hx;obtain⟨m,h2,rfl⟩:=hy;have bl:=dv h1.nf fu;have bm:=dv h2.nf fv;have hG:Int.gcd (Dg.iv x.s (Dg.vl B32 l)) (Dg.iv y.s (Dg.vl B32 m))=Nat.gcd (Dg.vl B32 l) (Dg.vl B32 m):=by
  unfold Int.gcd;rw[Dg.hH,Dg.hH]
 rw[hG];have S1:=af (fun w (h:IW w x l)=>di x l aa w h);have S2:=af (fun w (h:IW w y m)=>di y m aa w h);have DV:=af (fun la lb a b ca cb ha hb hb0 bl hca w h1 h2=>kS la lb a b ca cb ha hb hb0 bl hca w h1 h2);have MA:=af (fun (k:List Nat) a c (hc:k.length<=c) (hk:Dg.NF B32 k) (hb:k.length<=3000000000000) w h=>fJ false k a c hb hc hk.dg w h);have H1:=af h1;have H2:=af h2;obtain⟨s,a,n,cap⟩:=x;obtain⟨t,b,p,cbp⟩:=y;simp only[]at S1 S2;clear h1 h2 fu fv hG;have hB0:Below w.heap.size w (((w.alloc (.cells #[.bool s,.slice a n cap] 69)).alloc (.cells #[.bool t,.slice b p cbp] 69)).alloc (.cells #[.bool false,.slice none 0 0] 69)):=by exact bel
 go_enter Tryz.func256,Tryz.ntmps256
 go_wp2_with fail
 (refine wp_region_quiet (C:=Ext _) aD aD (Ext.start _) ?_;simp only[];(repeat(first|go_big_quiet_skip|(go_big_quiet_want;go_big_quiet_op;first|go_big_quiet_on|(apply Exists.intro;refine⟨fun w' hw'=>?_,?_⟩;(focus(first|with_reducible exact rfl|(go_at_call 246;(first|with_reducible exact Ext.call hw' (S1.out _ (H1.out.below (Below.trans hB0 ((Ext.below hw').mono hB0.size)) (ai _)))|with_reducible exact Ext.call hw' (S2.out _ (H2.out.below (Below.trans hB0 ((Ext.below hw').mono hB0.size)) (ai _)))))|(obtain⟨gx,rfl⟩:=mob (Ext.below hw');go_simp;exact rfl)));go_big_quiet_on))));refine wpQuiet_nil ?_;intro w1 hw1;have hb1:=Ext.below hw1;clear hw1;obtain⟨g1,rfl⟩:=mob hb1;clear hb1)
 clear hB0
 go_wp2_with fail
 have hBW:Below w.heap.size w (more (((w.alloc (.cells #[.bool s,.slice a n cap] 69)).alloc (.cells #[.bool t,.slice b p cbp] 69)).alloc (.cells #[.bool false,.slice none 0 0] 69)) g1):=by exact bel
 have G0:Hid (GC (more (((w.alloc (.cells #[.bool s,.slice a n cap] 69)).alloc (.cells #[.bool t,.slice b p cbp] 69)).alloc (.cells #[.bool false,.slice none 0 0] 69)) g1) (Nat.gcd (Dg.vl B32 l) (Dg.vl B32 m)) 200000000000 (Dg.vl B32 m) a l l.length b m m.length):=
  ⟨H1.out.ws.below hBW (ai _),H2.out.ws.below hBW (ai _),H1.out.nf,H2.out.nf,ai _,ai _,bl,bm,rfl,rfl⟩
 clear hBW S1 S2 bl bm
 go_loopg [5,6] (Dg.vl B32 m) (fun k A B wr=>∃(a1:Option Addr) (l1:List Nat) (c1:Nat) (a2:Option Addr) (l2:List Nat) (c2:Nat),A= .slice a1 l1.length c1/\B= .slice a2 l2.length c2/\Ext (more (((w.alloc (.cells #[.bool s,.slice a n cap] 69)).alloc (.cells #[.bool t,.slice b p cbp] 69)).alloc (.cells #[.bool false,.slice none 0 0] 69)) g1) wr/\Hid (GC wr (Nat.gcd (Dg.vl B32 l) (Dg.vl B32 m)) 200000000000 k a1 l1 c1 a2 l2 c2))
 case atStart=>exact⟨a,l,l.length,b,m,m.length,rfl,rfl,Ext.refl _,G0.out⟩
 case round=>
  obtain⟨a1,l1,c1,a2,l2,c2,rfl,rfl,hext,HG⟩:=hrel;obtain⟨gx,rfl⟩:=mob (Ext.below hext);clear hext G0;by_cases h0:l2=[]
  ·have hz:l2.length=0:=by rw[h0];rfl
   have hz1:¬0<l2.length:=by omega
   have hz2:¬(0:Int)<(l2.length:Int):=by omega
   have hz3:decide ((0:Int)<(l2.length:Int))=false:=by rw[db];exact hz2
   have hv:Dg.vl B32 l1=Nat.gcd (Dg.vl B32 l) (Dg.vl B32 m):=by
    have:=HG.out.g;rw[h0]at this;simpa[Dg.vl]using this
   have HV:=af hv;have MA1:=af (MA.out l1 a1 c1 HG.out.h1 HG.out.n1 (by have:=HG.out.b1;omega) _ HG.out.w1);clear h0 hv hz
   go_wp2_with (first|(go_at_call 244;(with_reducible refine(MA1.out).mono ?_);rintro e w4 ⟨⟨y,rfl,hy⟩,hb4⟩;rw[HV.out]at hy;have HY:=af (show IZ w4 y ((Nat.gcd (Dg.vl B32 l) (Dg.vl B32 m):Nat):Int)from hy);clear hy;obtain⟨g4,rfl⟩:=mob hb4;clear hb4))
   (refine bodyPost_ret (v:=.agg #[.bool y.s,.slice y.a y.n y.cap]) (by simp[results,Tryz.results256,go_sem]) rfl ⟨⟨y,rfl,IZ.dt HY.out ?_⟩,?_⟩;(exact gh);(exact bel))
  ·have hp:0<l2.length:=eM.2 h0;have hz2:(0:Int)<(l2.length:Int):=by omega
   have hz3:decide ((0:Int)<(l2.length:Int))=true:=by rw[ei];exact hz2
   have hvp:=Dg.gi HG.out.n2 h0 aA;have DV1:=af (DV.out l1 l2 a1 a2 c1 c2 HG.out.n1 HG.out.n2 h0 (by have:=HG.out.b1;omega) HG.out.h1 _ HG.out.w1 HG.out.w2);have HVP:=af hvp;clear h0 hvp
   go_wp2_with (first|(go_at_call 332;(with_reducible refine(DV1.out).mono ?_);rintro e w3 ⟨a3,l3,c3,a4,l4,c4,rfl,d1,d2,d3,d4,d5,d6,d7,d8,hb3⟩;have D:=af (And.intro d1 (And.intro d2 (And.intro d3 (And.intro d4 (And.intro d5 (And.intro d6 (And.intro d7 d8)))))));clear d1 d2 d3 d4 d5 d6 d7 d8;have HB3:=af hb3;obtain⟨g3,rfl⟩:=mob hb3;clear hb3))
   go_roundg (Dg.vl B32 l4)
   case measure=>rw[D.out.2.2.2.2.2.2.2,HG.out.k];exact dQ _ HVP.out
   case rel=>
    refine⟨a2,l2,c2,a4,l4,c4,rfl,rfl,gu az,HG.out.w2.below HB3.out (ai _),D.out.2.2.2.1,HG.out.n2,D.out.2.2.2.2.2.1,HG.out.h2,D.out.2.1,HG.out.b2,?_,?_,rfl⟩
    ·have h5:=dJ D.out.2.2.2.2.2.1 HG.out.n2.dg (by rw[D.out.2.2.2.2.2.2.2];exact cC (dQ _ HVP.out));exact aE h5 HG.out.b2
    ·rw[D.out.2.2.2.2.2.2.2,Nat.gcd_comm,<-Nat.gcd_rec,Nat.gcd_comm];exact HG.out.g
end
section
open Go.RowKit Go.BigFrame
attribute [local go_sem ↓] Go.wp_at_zero Go.wp_at_succ
theorem sG:Fit 0:=⟨1,by omega,by simp[B32]⟩
theorem wA(x:IV)(u:Int)(w:World)(hx:IZ w x u):
  Calls Tryz.prog 231 #[.agg #[.bool x.s,.slice x.a x.n x.cap]] w fun e w'=>e= .returned (.bool (decide (u=0)))/\Below w.heap.size w w':=by
 have hz:=hx.wi.1;obtain⟨s,a,n,cap⟩:=x;clear hx;have E:Hid (((n:Int)==0)=decide (u=0)):=by
  show((n:Int)==0)=decide (u=0);rw[Bool.eq_iff_iff,beq_iff_eq,ei,<-hz];simp
 clear hz
 go_enter Tryz.func231,Tryz.ntmps231
 go_wp2_with fail
 go_ret
 exact⟨by rw[<-E.out];rfl,by exact bel⟩
set_option maxRecDepth 10000 in
theorem qk(x:IV)(u:Int)(fu:Fit u)(w:World)(hx:IP w x u):
  Calls Tryz.prog 233 #[.agg #[.bool x.s,.slice x.a x.n x.cap]] w fun e w'=>e= .returned (.int .i64 (sgn u))/\Below w.heap.size w w':=by
 have CM:=af (fun w hx=>uf x ⟨false,none,0,0⟩ u 0 fu sG w hx (IZ.zero w).ip);have HX:=af hx;obtain⟨s,a,n,cap⟩:=x;simp only[Int.sub_zero]at CM;clear hx fu
 go_enter Tryz.func233,Tryz.ntmps233
 go_wp2_with (first|(go_at_call 159;(with_reducible refine(CM.out _ ?_).mono ?_);(exact HX.out.below (B:=w.heap.size) az (ai _));rintro e w1 ⟨rfl,hb1⟩;obtain⟨g1,rfl⟩:=mob hb1;clear hb1))
 go_ret
 exact⟨rfl,by exact bel⟩
set_option maxRecDepth 10000 in
theorem rK(x:IV)(u:Int)(fu:Fit u)(w:World)(hx:IP w x u):
  Calls Tryz.prog 234 #[.agg #[.bool x.s,.slice x.a x.n x.cap]] w fun e w'=>(∃z,e= .returned (.agg #[.bool z.s,.slice z.a z.n z.cap])/\IZ w' z (-u))/\Below w.heap.size w w':=by
 have SU:=af (fun w hx=>pJ ⟨false,none,0,0⟩ x 0 u sG fu w (IZ.zero w).ip hx);have HX:=af hx;obtain⟨s,a,n,cap⟩:=x;simp only[Int.zero_sub]at SU;clear hx fu
 go_enter Tryz.func234,Tryz.ntmps234
 go_wp2_with (first|(go_at_call 113;(with_reducible refine(SU.out _ ?_).mono ?_);(exact HX.out.below (B:=w.heap.size) az (ai _));rintro e w1 ⟨⟨y,rfl,hy⟩,hb1⟩;have HY:=af hy;clear hy;obtain⟨g1,rfl⟩:=mob hb1;clear hb1))
 (refine bodyPost_ret (v:=.agg #[.bool y.s,.slice y.a y.n y.cap]) (by simp[results,Tryz.results234,go_sem]) rfl ⟨⟨y,rfl,IZ.dt HY.out ?_⟩,?_⟩;(exact gh);(exact bel))
set_option maxRecDepth 10000 in
set_option maxHeartbeats 2000000 in
theorem wB(x:IV)(u:Int)(fu:Fit u)(w:World)(hx:IP w x u):
  Calls Tryz.prog 160 #[.agg #[.bool x.s,.slice x.a x.n x.cap]] w fun e w'=>(∃z,e= .returned (.agg #[.bool z.s,.slice z.a z.n z.cap])/\IZ w' z (u.natAbs:Int))/\Below w.heap.size w w':=by
 have SI:=af (fun w hx=>qk x u fu w hx);have NE:=af (fun w hx=>rK x u fu w hx);have NO:Hid (∀w,IP w x u->Calls Tryz.prog 151 #[.agg #[.bool x.s,.slice x.a x.n x.cap]] w fun e w'=>(∃y,e= .returned (.agg #[.bool y.s,.slice y.a y.n y.cap])/\IZ w' y u)/\Below w.heap.size w w'):=fun w hx=>by
  obtain⟨l,h1,rfl⟩:=hx;exact oP x l (by have:=dv h1.nf fu;omega) w h1
 have HX:=af hx;by_cases h0:u<0
 ·have e:sgn u= -1:=by unfold sgn;rw[an aa,aB h0]
  have E:=af (show-u=(u.natAbs:Int) by omega);rw[e]at SI;obtain⟨s,a,n,cap⟩:=x;simp only[]at SI NE NO;clear hx fu e
  go_enter Tryz.func160,Tryz.ntmps160
  go_wp2_with (first|(go_at_call 233;(with_reducible refine(SI.out _ ?_).mono ?_);(exact HX.out.below (B:=w.heap.size) az (ai _));rintro e w1 ⟨rfl,hb1⟩;obtain⟨g1,rfl⟩:=mob hb1;clear hb1)|(go_at_call 234;(with_reducible refine(NE.out _ ?_).mono ?_);(exact HX.out.below (B:=w.heap.size) az (ai _));rintro e w2 ⟨⟨y,rfl,hy⟩,hb2⟩;rw[E.out]at hy;have HY:=af hy;clear hy;obtain⟨g2,rfl⟩:=mob hb2;clear hb2))
  (refine bodyPost_ret (v:=.agg #[.bool y.s,.slice y.a y.n y.cap]) (by simp[results,Tryz.results160,go_sem]) rfl ⟨⟨y,rfl,IZ.dt HY.out ?_⟩,?_⟩;(exact gh);(exact bel))
 ·have e:sgn u=0\/sgn u=1:=by unfold sgn;by_cases hz:u=0<;>simp[hz,h0]
  have E:=af (show u=(u.natAbs:Int) by omega);generalize sgn u=c at*;obtain⟨s,a,n,cap⟩:=x;simp only[]at SI NE NO;clear hx fu h0
  go_enter Tryz.func160,Tryz.ntmps160
  rcases e with rfl|rfl;all_goals go_wp2_with (first|(go_at_call 233;(with_reducible refine(SI.out _ ?_).mono ?_);(exact HX.out.below (B:=w.heap.size) az (ai _));rintro e w1 ⟨rfl,hb1⟩;obtain⟨g1,rfl⟩:=mob hb1;clear hb1)|(go_at_call 151;(with_reducible refine(NO.out _ ?_).mono ?_);(exact HX.out.below (B:=w.heap.size) az (ai _));rintro e w2 ⟨⟨y,rfl,hy⟩,hb2⟩;rw[E.out]at hy;have HY:=af hy;clear hy;obtain⟨g2,rfl⟩:=mob hb2;clear hb2))
  all_goals(refine bodyPost_ret (v:=.agg #[.bool y.s,.slice y.a y.n y.cap]) (by simp[results,Tryz.results160,go_sem]) rfl ⟨⟨y,rfl,IZ.dt HY.out ?_⟩,?_⟩;(exact gh);(exact bel))
set_option maxRecDepth 10000 in
set_option maxHeartbeats 2000000 in
theorem yc(x y:IV)(u v:Int)(fu:Fit u)(fv:Fit v)(w:World)(hx:IP w x u)(hy:IP w y v):
  Calls Tryz.prog 250 #[.agg #[.bool x.s,.slice x.a x.n x.cap],.agg #[.bool y.s,.slice y.a y.n y.cap]] w fun e w'=>(∃z,e= .returned (.agg #[.bool z.s,.slice z.a z.n z.cap])/\IZ w' z (u/v))/\Below w.heap.size w w':=by
 have DM:=af (fun w hx hy=>pg x y u v fu fv w hx hy);have HX:=af hx;have HY:=af hy;obtain⟨s,a,n,cap⟩:=x;obtain⟨t,b,p,cbp⟩:=y;simp only[]at DM;clear hx hy fu fv
 go_enter Tryz.func250,Tryz.ntmps250
 go_wp2_with (first|(go_at_call 322;(with_reducible refine(DM.out _ ?_ ?_).mono ?_);(exact HX.out.below (B:=w.heap.size) az (ai _));(exact HY.out.below (B:=w.heap.size) az (ai _));rintro e w4 ⟨y1,y2,he,hy1,_,hb4⟩;generalize(if v=0 then(10:Int)else 0)=ec at he;subst he;have HZ:=af hy1;clear hy1;obtain⟨g4,rfl⟩:=mob hb4;clear hb4))
 have HZ2:=af (HZ.out.below (Below.alloc (Below.alloc (Below.refl _ _) (ai _) (.cells #[.bool y1.s,.slice y1.a y1.n y1.cap] 69)) aO (.cells #[.bool y2.s,.slice y2.a y2.n y2.cap] 69)) (ai _))
 (refine bodyPost_ret (v:=.agg #[.bool y1.s,.slice y1.a y1.n y1.cap]) (by simp[results,Tryz.results250,go_sem]) rfl ⟨⟨y1,rfl,IZ.dt HZ2.out ?_⟩,?_⟩;(exact gh);(exact bel))
end
end Go.Proofs.YtepdigdijecgpaaGreat
