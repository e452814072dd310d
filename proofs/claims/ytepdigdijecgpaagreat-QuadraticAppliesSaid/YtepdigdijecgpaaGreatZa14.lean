/- Proved: for every argument the law QuadraticApplies returns true, and its arguments read as they did. No condition. -/
import Derived.Test.YtepdigdijecgpaaGreatZa13
namespace Go.Proofs.YtepdigdijecgpaaGreat.quadraticApplies
open Go.ChangeShapes Go.WideShapes Go.ChangeAt Go.RowKit Go.Joins Go.Deep

set_option maxRecDepth 100000 in
theorem lifted(os:Os)(started:os.Started)(H:Type)(enc:TypeId×Value->H):
  ReturnsInHanded {} Tryz.checked os 13 .any (Rows.quadraticAppliesSpec.pre6 enc Tryz.prog Tryz.f13 Rows.quadraticAppliesRow.domain false) (Rows.quadraticAppliesSpec.post enc Tryz.prog Tryz.f13 false true false false):=by
 refine returnsInHanded_of_change (C:=Tryz.checked) own started (by kernel_rfl) Tryz.func13
  (ChangeSpec.witness6 (enc:=enc) (C:=Tryz.checked) false ⟨#[], #[.agg #[.int .i64 0, .slice none 0 0], .slice none 0 0],[]⟩ 8 (by kernel_rfl) (by kernel_rfl) (by kernel_rfl) (by kernel_rfl)) ?_
 intro W base args ds gs before hval0 hW _ _;have hval:∀(j:Nat) t v,Tryz.f13.params[j]?=some t->args[j]?=some v->Value.okWide Tryz.prog W .any base t v:=hval0;have hW':=hW;obtain⟨p,q,hA0,hV,rfl,_,_⟩:=hW;have hA:DataW.TrodAll enc Tryz.prog W 0 (fun _=>true) true Tryz.f13.params.toList args.toList ds p:=hA0;rw[Tryz.params13]at hA hval;obtain⟨v0,vs0,d0,ds0,p0,q0,hargs,rfl,rfl,h0,r0⟩:=trodAll_cons hA;obtain⟨v1,vs1,d1,ds1,p1,q1,rfl,rfl,rfl,h1,r1⟩:=trodAll_cons r0;obtain⟨rfl,rfl,rfl⟩:=trodAll_nil r1;obtain rfl:args= #[v0,v1]:=by cases args;simp_all
 obtain⟨rfl,rfl⟩:=trodVars_none hV;have k0:=h0;have lt0:∀x∈p0,x.block<W.heap.size:=by obtain⟨m,hm⟩:=k0;exact DataW.trod_lt m _ _ _ hm
 have k1:=h1;have lt1:∀x∈p1,x.block<W.heap.size:=by obtain⟨m,hm⟩:=k1;exact DataW.trod_lt m _ _ _ hm
 obtain⟨n0,l0,b0,s0⟩:=Ei (hval 0 79 v0 rfl rfl) h0;obtain⟨l1,s1⟩:=FN (hval 1 22 v1 rfl rfl) h1;clear hA0 hval0;refine(yE v0 v1 n0 l0 l1 W s0 s1).mono fun e W' ⟨he,bel⟩=>?_;subst he;exact⟨_,rfl,_,_,_,[],_,[],hW',trodAll_mk1 (shut_bool Tryz.underlying4 _),(trodAll_cons_mk (Below.trod laidOut (by kernel_rfl) (of_decide_eq_true (by kernel_rfl)) k0 bel lt0) (trodAll_cons_mk (Below.trod laidOut (by kernel_rfl) (of_decide_eq_true (by kernel_rfl)) k1 bel lt1) trodAll_mk0)),rfl,bel.frame _,fun h=>by cases h⟩


theorem GI:(Rows.quadraticAppliesRow.inPlace==Tryz.prog.inPlace 13)=true:=by kernel_rfl
theorem cUnf:(Rows.quadraticAppliesRow.unfollowed==Tryz.prog.unfollowed 13)=true:=by kernel_rfl
theorem cRec:(Rows.quadraticAppliesRow.recurses==Tryz.prog.recurses 13)=true:=by kernel_rfl
theorem LV:(Rows.quadraticAppliesRow.named==Tryz.prog.varsNamed 13)=true:=by kernel_rfl
theorem cFunc:Tryz.pinned.checked.prog.funcNamed Rows.quadraticAppliesRow.func=some 13:=by kernel_rfl
set_option maxRecDepth 100000 in
theorem Lf:joinedFacts Tryz.prog 13 Tryz.f13 Rows.quadraticAppliesSpec Rows.quadraticAppliesRow=true:=Er Lj Lh JH GI cUnf cRec LV JI JN JP JO Li (by kernel_rfl)

theorem proved:Rows.QuadraticAppliesSaid:=
 OpenClaim.holds_of_wide 13 Tryz.f13 rfl rfl rfl rfl rfl rfl rfl ⟨rfl,rfl,rfl,rfl,rfl⟩ rfl rfl rfl rfl rfl cFunc Tryz.func13 Lf
  (of_decide_eq_true (by kernel_rfl)) (by unfold Func.isWrapper;first|(rw[if_pos (by decide+kernel)];kernel_rfl)|(rw[if_neg (by decide+kernel)];exact⟨rfl,rfl⟩))
  (fun os started H enc _=>lifted os started H enc)
end Go.Proofs.YtepdigdijecgpaaGreat.quadraticApplies
