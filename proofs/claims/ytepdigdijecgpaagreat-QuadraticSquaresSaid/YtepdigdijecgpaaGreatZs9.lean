/- Proved: for every argument the law QuadraticSquares returns true, and its arguments read as they did. No condition. -/
import Derived.Test.YtepdigdijecgpaaGreatZs8
namespace Go.Proofs.YtepdigdijecgpaaGreat.quadraticSquares
open Go.ChangeShapes Go.WideShapes Go.ChangeAt Go.RowKit Go.Joins Go.Deep

set_option maxRecDepth 100000 in
theorem lifted(os:Os)(started:os.Started)(H:Type)(enc:TypeId×Value->H):
  ReturnsInHanded {} Tryz.checked os 9 .any (Rows.quadraticSquaresSpec.pre6 enc Tryz.prog Tryz.f9 Rows.quadraticSquaresRow.domain false) (Rows.quadraticSquaresSpec.post enc Tryz.prog Tryz.f9 false true false false):=by
 refine returnsInHanded_of_change (C:=Tryz.checked) own started (by kernel_rfl) Tryz.func9
  (ChangeSpec.witness6 (enc:=enc) (C:=Tryz.checked) false ⟨#[], #[.int .i64 0, .int .i64 0],[]⟩ 8 (by kernel_rfl) (by kernel_rfl) (by kernel_rfl) (by kernel_rfl)) ?_
 intro W base args ds gs before hval0 hW _ _;have hval:∀(j:Nat) t v,Tryz.f9.params[j]?=some t->args[j]?=some v->Value.okWide Tryz.prog W .any base t v:=hval0;have hW':=hW;obtain⟨p,q,hA0,hV,rfl,_,_⟩:=hW;have hA:DataW.TrodAll enc Tryz.prog W 0 (fun _=>true) true Tryz.f9.params.toList args.toList ds p:=hA0;rw[Tryz.params9]at hA hval;obtain⟨v0,vs0,d0,ds0,p0,q0,hargs,rfl,rfl,h0,r0⟩:=trodAll_cons hA;obtain⟨v1,vs1,d1,ds1,p1,q1,rfl,rfl,rfl,h1,r1⟩:=trodAll_cons r0;obtain⟨rfl,rfl,rfl⟩:=trodAll_nil r1;obtain rfl:args= #[v0,v1]:=by cases args;simp_all
 obtain⟨rfl,rfl⟩:=trodVars_none hV;have k0:=h0;have lt0:∀x∈p0,x.block<W.heap.size:=by obtain⟨m,hm⟩:=k0;exact DataW.trod_lt m _ _ _ hm
 have k1:=h1;have lt1:∀x∈p1,x.block<W.heap.size:=by obtain⟨m,hm⟩:=k1;exact DataW.trod_lt m _ _ _ hm
 obtain⟨n0,rfl,_,_,w0⟩:=open_int Tryz.underlying3 (hval 0 3 v0 rfl rfl) h0;have b0:=bounds_i64 w0;obtain⟨n1,rfl,_,_,w1⟩:=open_int Tryz.underlying3 (hval 1 3 v1 rfl rfl) h1;have b1:=bounds_i64 w1;clear hA0 hval0;refine(sA n0 n1 W).mono fun e W' ⟨he,bel⟩=>?_;subst he;exact⟨_,rfl,_,_,_,[],_,[],hW',trodAll_mk1 (shut_bool Tryz.underlying4 _),(trodAll_cons_mk (Below.trod laidOut (by kernel_rfl) (of_decide_eq_true (by kernel_rfl)) k0 bel lt0) (trodAll_cons_mk (Below.trod laidOut (by kernel_rfl) (of_decide_eq_true (by kernel_rfl)) k1 bel lt1) trodAll_mk0)),rfl,bel.frame _,fun h=>by cases h⟩


theorem zh:(Rows.quadraticSquaresRow.inPlace==Tryz.prog.inPlace 9)=true:=by kernel_rfl
theorem cUnf:(Rows.quadraticSquaresRow.unfollowed==Tryz.prog.unfollowed 9)=true:=by kernel_rfl
theorem cRec:(Rows.quadraticSquaresRow.recurses==Tryz.prog.recurses 9)=true:=by kernel_rfl
theorem Cq:(Rows.quadraticSquaresRow.named==Tryz.prog.varsNamed 9)=true:=by kernel_rfl
theorem cFunc:Tryz.pinned.checked.prog.funcNamed Rows.quadraticSquaresRow.func=some 9:=by kernel_rfl
set_option maxRecDepth 100000 in
theorem BX:joinedFacts Tryz.prog 9 Tryz.f9 Rows.quadraticSquaresSpec Rows.quadraticSquaresRow=true:=xw B2 B0 AP zh cUnf cRec Cq AQ AV AY AX B1 (by kernel_rfl)

theorem proved:Rows.QuadraticSquaresSaid:=
 OpenClaim.holds_of_wide 9 Tryz.f9 rfl rfl rfl rfl rfl rfl rfl ⟨rfl,rfl,rfl,rfl,rfl⟩ rfl rfl rfl rfl rfl cFunc Tryz.func9 BX
  (of_decide_eq_true (by kernel_rfl)) (by unfold Func.isWrapper;first|(rw[if_pos (by decide+kernel)];kernel_rfl)|(rw[if_neg (by decide+kernel)];exact⟨rfl,rfl⟩))
  (fun os started H enc _=>lifted os started H enc)
end Go.Proofs.YtepdigdijecgpaaGreat.quadraticSquares
