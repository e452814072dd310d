/- Lemmas for the law: E29 E30 E35 Q21 Q22 -/
import Derived.Test.YtcgjmdpcplhanaaGreatZn12
namespace Go.Proofs.YtcgjmdpcplhanaaGreat
theorem zs223 {p q : Prop} (h : q) (f : Wq q→p:=by (intro hW;((refine gar ?_;refine zs23 ?_;refine zs33 ?_;refine zs33 ?_;refine zs79 ?_;refine zs79 ?_;refine zs47 ?_;refine zs6 ?_;refine aL_nil ?_));exact hW.out)) : p:=f ⟨h⟩
theorem zs138 {p q : Prop} (h : q) (f : Wq q→p:=by (intro hW;((refine aLalloc (k:=6) (z:=(.agg #[.int .i64 0,.slice none 0 0,.int .i64 0])) (d:=(.st [.sc (.int .i64 0),.sc (.slice none 0 0),.sc (.int .i64 0)])) rfl rfl rfl rfl rfl zb101 zb102 zb102 zb59 zb102 zb102 zb42 ?_));exact hW.out)) : p:=f ⟨h⟩
theorem zs217 {p q : Prop} (h : q) (f : Wq q→p:=by (intro hW;((refine gar ?_;refine zs20 ?_;refine zs138 ?_;refine zs21 ?_;refine aL_nil ?_));exact hW.out)) : p:=f ⟨h⟩
theorem zs222 {p q : Prop} (h : q) (f : Wq q→p:=by (intro hW;((refine zs114 ?_;refine zs116 ?_;refine zs100 ?_;refine zs117 ?_;refine zs118 ?_;refine zs100 ?_;refine zs117 ?_;refine zs115 ?_;refine zs100 ?_;refine zs119 ?_;refine zs102 ?_;refine zs102 ?_;refine zs103 ?_;refine zs104 ?_;refine zs105 ?_));exact hW.out)) : p:=f ⟨h⟩
theorem zs220 {p q : Prop} (h : q) (f : Wq q→p:=by (intro hW;((refine gar ?_;refine zs23 ?_;refine zs50 ?_;refine zs50 ?_;refine zs33 ?_;refine zs4 ?_;refine zs79 ?_;refine zs79 ?_;refine zs6 ?_;refine zs6 ?_;refine aL_nil ?_));exact hW.out)) : p:=f ⟨h⟩
theorem zs137 {p q : Prop} (h : q) (f : Wq q→p:=by (intro hW;((refine aLalloc (k:=9) (z:=(.agg #[.bool false,.slice none 0 0])) (d:=(.nm 0)) rfl rfl rfl rfl rfl zb101 zb102 zb102 zb59 zb102 zb102 zb42 ?_));exact hW.out)) : p:=f ⟨h⟩
theorem zs140 {p q : Prop} (h : q) (f : Wq q→p:=by (intro hW;(refine aL1 rfl rfl rfl (by (first | (apply does_index;(focus (exact rfl));(focus ((apply op_b;(conv=>lhs;whnf);(first | done | exact rfl))));(focus (exact op_int));(focus (kernel_rfl));(focus (kernel_rfl));(focus (omega));(focus ((first | (apply map_at;(focus assumption);(focus assumption)) | (apply get_map;assumption) | (apply get_own;assumption))))) | (apply d_index_own;(focus (exact rfl));(focus ((apply op_b;(conv=>lhs;whnf);(first | done | exact rfl))));(focus (exact op_int));(focus ((repeat (first | exact List.mem_cons_self | refine List.mem_cons_of_mem _ ?_))));(focus (kernel_rfl));(focus (kernel_rfl));(focus (first | omega | (simp;omega)));(focus (first | (apply offs_nat;assumption) | exact rfl))))) ?_);exact hW.out)) : p:=f ⟨h⟩
theorem zs139 {p q : Prop} (h : q) (f : Wq q→p:=by (intro hW;(refine aL1 rfl rfl rfl zb15 ?_);exact hW.out)) : p:=f ⟨h⟩
theorem zs218 {p q : Prop} (h : q) (f : Wq q→p:=by (intro hW;((refine gar ?_;refine zs4 ?_;refine zs23 ?_;refine zs4 ?_;refine zs139 ?_;refine zs4 ?_;refine zs79 ?_;refine zs79 ?_;refine zs137 ?_;refine zs6 ?_;refine zs47 ?_;refine aL_nil ?_));exact hW.out)) : p:=f ⟨h⟩
theorem zs219 {p q : Prop} (h : q) (f : Wq q→p:=by (intro hW;((refine gar ?_;refine zs4 ?_;refine zs33 ?_;refine zs4 ?_;refine zs79 ?_;refine zs79 ?_;refine zs6 ?_;refine zs6 ?_;refine aL_nil ?_));exact hW.out)) : p:=f ⟨h⟩
theorem zs216 {p q : Prop} (h : q) (f : Wq q→p:=by (intro hW;((refine gar ?_;refine zs4 ?_;refine zs4 ?_;refine zs8 ?_;refine zs8 ?_;refine zs10 ?_;refine zs11 ?_;refine zs8 ?_;refine zs10 ?_;refine zs11 ?_;refine zs95 ?_;refine zs12 ?_;refine zs13 ?_;refine zs6 ?_;refine aL_nil ?_));exact hW.out)) : p:=f ⟨h⟩
theorem zs221 {p q : Prop} (h : q) (f : Wq q→p:=by (intro hW;((refine gar ?_;refine zs4 ?_;refine zs94 ?_;refine zs4 ?_;refine zs8 ?_;refine zs96 ?_;refine zs62 ?_;refine aL_nil ?_));exact hW.out)) : p:=f ⟨h⟩
end Go.Proofs.YtcgjmdpcplhanaaGreat
namespace Go.Proofs.YtcgjmdpcplhanaaGreat
open Go.RowKit
namespace DW
set_option maxRecDepth 20000
set_option maxHeartbeats 1000000
theorem filled_g (m : List (List Int)) (hm : m.length≤1000000) (hm2 : ∀ l ∈ m,l.length≤1000000) (hm3 : ∀ l ∈ m,∀ z ∈ l,Hf z) (K : Nat) (hK : hdr K = false) : FnG Tryz.prog 114 [dW m] [] (.own K) [(K,⟨113,1,(fil m).map dZ⟩)]:=by
 refine ⟨enters_of Tryz.func114 zb101 rfl,FunG.mv (a:=3) ?_ rfl hK⟩
 refine fung_of Tryz.func114 rfl rfl (fun _ hp=>by cases hp) fun X0=>?_
 simp only [initL]
 (repeat (first | refine gk fun K hK=>?_ | refine zs2 ?_));refine zs145 ?_;(repeat (first | refine gk fun K hK=>?_ | refine zs2 ?_));refine zs145 ?_;(repeat (first | refine gk fun K hK=>?_ | refine zs2 ?_));refine zs149 ?_;(repeat (first | refine gk fun K hK=>?_ | refine zs2 ?_))
 refine aW_sh (Sh_nil' (t:=3) (k:=3) (T:=113) (wd:=1) zb60 rfl rfl zb42) ?_
 (refine aW_sh (Sh_to (sl':=[(0,dW m),(3,.own 3),(4,zI 0)]) (ow':=[(3,⟨113,1,[]⟩)]) zb19 zb37) ?_)
 refine aW_loop (fun r s=>∃ k,k≤m.length∧r = m.length - k∧s = ⟨[(0,dW m),(3,.own 3),(4,zI (k : Nat))],[(3,⟨113,1,(fil (m.take k)).map dZ⟩)]⟩) (m:=m.length) ⟨0,Nat.zero_le _,rfl,rfl⟩ fun r s hs=>?_
 obtain ⟨k,hk,rfl,rfl⟩:=hs
 by_cases hkl : k < m.length
 ·obtain ⟨l,hl⟩:=get_some hkl
  have hll:=hm2 l (List.mem_of_getElem? hl)
  have hfl:=fil_len (m.take k)
  rw [List.length_take] at hfl
  have hfl2 : (fil (m.take k)).length≤1000000:=Nat.le_trans hfl (by omega)
  clear hfl
  have hsn:=fil_snoc (m.take k) l
  rw [← take_snoc hl] at hsn
  obtain ⟨F,hF⟩ : ∃ F,F = fil (m.take k):=⟨_,rfl⟩
  rw [← hF] at hsn hfl2
  rw [← hF]
  clear hF
  (repeat (first | refine gk fun K hK=>?_ | refine zs2 ?_));refine zs165 ?_;(repeat (first | refine gk fun K hK=>?_ | refine zs2 ?_))
  refine zs48 ?_
  (repeat (first | refine gk fun K hK=>?_ | refine zs2 ?_));refine zs160 ?_;(repeat (first | refine gk fun K hK=>?_ | refine zs2 ?_));refine zs149 ?_;(repeat (first | refine gk fun K hK=>?_ | refine zs2 ?_))
  (refine aW_sh (Sh_to (sl':=[(0,dW m),(3,.own 3),(4,zI (k : Nat)),(5,.sc (.bool true)),(6,zI 0)]) (ow':=[(3,⟨113,1,F.map dZ⟩)]) zb19 zb37) ?_)
  refine aW_loop (fun r s=>∃ j b,j≤l.length∧r = l.length - j∧b = (l.take j).all (fun z=>decide (z = 0))∧s = ⟨[(0,dW m),(3,.own 3),(4,zI (k : Nat)),(5,.sc (.bool b)),(6,zI (j : Nat))],[(3,⟨113,1,F.map dZ⟩)]⟩) (m:=l.length) ⟨0,true,Nat.zero_le _,rfl,rfl,rfl⟩ fun r s hs=>?_
  obtain ⟨j,b,hj,rfl,hb,rfl⟩:=hs
  by_cases hjl : j < l.length
  ·obtain ⟨z,hz⟩:=get_some hjl
   have SX:=sign_d z (hm3 l (List.mem_of_getElem? hl) z (List.mem_of_getElem? hz))
   have gx:=sgn_z z
   have hb' : (l.take (j + 1)).all (fun z=>decide (z = 0)) = (b && decide (z = 0)):=by rw [take_snoc hz,List.all_append,← hb];simp
   have hd : decide (sgn z = 0) = decide (z = 0):=by
    by_cases h : z = 0
    ·rw [decide_eq_true h,decide_eq_true (gx.2 h)]
    ·rw [decide_eq_false h,decide_eq_false (fun e=>h (gx.1 e))]
   clear hb
   cases b with
   | true =>
    rw [Bool.true_and] at hb'
    (repeat (first | refine gk fun K hK=>?_ | refine zs2 ?_));refine zs188 ?_;(repeat (first | refine gk fun K hK=>?_ | refine zs2 ?_))
    refine zs48 ?_
    (repeat (first | refine gk fun K hK=>?_ | refine zs2 ?_));refine zs216 ?_;(repeat (first | refine gk fun K hK=>?_ | refine zs2 ?_));refine zs151 ?_;(repeat (first | refine gk fun K hK=>?_ | refine zs2 ?_))
    simp only [nx,inB]
    exact ⟨l.length - (j + 1),_,by omega,(Sh_to (sl':=[(0,dW m),(3,.own 3),(4,zI (k : Nat)),(5,.sc (.bool (decide (sgn z = 0)))),(6,zI ((j + 1 : Nat) : Int))]) (ow':=[(3,⟨113,1,F.map dZ⟩)]) zb19 zb37),j + 1,decide (sgn z = 0),by omega,rfl,by rw [hb',hd],rfl⟩
   | false =>
    rw [Bool.false_and] at hb'
    (repeat (first | refine gk fun K hK=>?_ | refine zs2 ?_));refine zs188 ?_;(repeat (first | refine gk fun K hK=>?_ | refine zs2 ?_))
    refine zs48 ?_
    (repeat (first | refine gk fun K hK=>?_ | refine zs2 ?_));refine zs216 ?_;(repeat (first | refine gk fun K hK=>?_ | refine zs2 ?_));refine zs151 ?_;(repeat (first | refine gk fun K hK=>?_ | refine zs2 ?_))
    simp only [nx,inB]
    exact ⟨l.length - (j + 1),_,by omega,(Sh_to (sl':=[(0,dW m),(3,.own 3),(4,zI (k : Nat)),(5,.sc (.bool false)),(6,zI ((j + 1 : Nat) : Int))]) (ow':=[(3,⟨113,1,F.map dZ⟩)]) zb19 zb37),j + 1,false,by omega,rfl,by rw [hb'],rfl⟩
  ·obtain rfl : j = l.length:=by omega
   rw [List.take_length] at hb
   rw [← hb] at hsn
   clear hb
   cases b with
   | true =>
    rw [if_pos rfl] at hsn
    (repeat (first | refine gk fun K hK=>?_ | refine zs2 ?_));refine zs188 ?_;(repeat (first | refine gk fun K hK=>?_ | refine zs2 ?_))
    refine zs45 ?_
    (repeat (first | refine gk fun K hK=>?_ | refine zs2 ?_));refine zs199 ?_;(repeat (first | refine gk fun K hK=>?_ | refine zs2 ?_))
    refine zs45 ?_
    (repeat (first | refine gk fun K hK=>?_ | refine zs2 ?_));refine zs151 ?_;(repeat (first | refine gk fun K hK=>?_ | refine zs2 ?_))
    simp only [nx,inB]
    exact ⟨m.length - (k + 1),_,by omega,(Sh_to (sl':=[(0,dW m),(3,.own 3),(4,zI ((k + 1 : Nat) : Int))]) (ow':=[(3,⟨113,1,F.map dZ⟩)]) zb19 zb37),k + 1,by omega,rfl,by rw [hsn]⟩
   | false =>
    rw [if_neg (by decide)] at hsn
    (repeat (first | refine gk fun K hK=>?_ | refine zs2 ?_));refine zs188 ?_;(repeat (first | refine gk fun K hK=>?_ | refine zs2 ?_))
    refine zs45 ?_
    (repeat (first | refine gk fun K hK=>?_ | refine zs2 ?_));refine zs199 ?_;(repeat (first | refine gk fun K hK=>?_ | refine zs2 ?_))
    refine zs48 ?_
    (repeat (first | refine gk fun K hK=>?_ | refine zs2 ?_));(refine gar ?_;refine zs4 ?_;refine zs4 ?_;refine zs4 ?_;refine zs67 ?_;refine zs23 ?_;refine zs50 ?_;refine zs51 ?_;refine zs6 ?_;refine aL_nil ?_);(repeat (first | refine gk fun K hK=>?_ | refine zs2 ?_));refine zs151 ?_;(repeat (first | refine gk fun K hK=>?_ | refine zs2 ?_))
    simp only [nx,inB]
    exact ⟨m.length - (k + 1),_,by omega,(Sh_to (sl':=[(0,dW m),(3,.own 3),(4,zI ((k + 1 : Nat) : Int))]) (ow':=[(3,⟨113,1,F.map dZ ++ [dZ l]⟩)]) zb19 zb37),k + 1,by omega,rfl,by rw [hsn,List.map_append];rfl⟩
 ·obtain rfl : k = m.length:=by omega
  rw [List.take_length]
  (repeat (first | refine gk fun K hK=>?_ | refine zs2 ?_));refine zs165 ?_;(repeat (first | refine gk fun K hK=>?_ | refine zs2 ?_))
  refine zs45 ?_
  (repeat (first | refine gk fun K hK=>?_ | refine zs2 ?_))
  refine zs174 ?_
  (repeat (first | refine gk fun K hK=>?_ | refine zs2 ?_))
  exact ⟨_,(Sh_to (sl':=[(2,.own 3)]) (ow':=[(3,⟨113,1,(fil m).map dZ⟩)]) zb19 zb37),.own 2 3 rfl rfl,rfl⟩
end DW
end Go.Proofs.YtcgjmdpcplhanaaGreat
namespace Go.Proofs.YtcgjmdpcplhanaaGreat
open Go.RowKit
namespace Mx
theorem fil_app (A B : Mat) : DW.fil (A ++ B) = DW.fil A ++ DW.fil B:=List.filter_append ..
theorem fil_all {A : Mat} (h : ∀ l ∈ A,l.all (fun z=>decide (z = 0)) = false) : DW.fil A = A:=by
 unfold DW.fil
 rw [List.filter_eq_self]
 intro l hl;rw [h l hl];rfl
theorem fil_none {A : Mat} (h : ∀ l ∈ A,l.all (fun z=>decide (z = 0)) = true) : DW.fil A = []:=by
 unfold DW.fil
 rw [List.filter_eq_nil_iff]
 intro l hl;rw [h l hl];simp
theorem fil_red {n : Nat} {M : Mat} (h : Rc n M) : DW.fil (red n 0 (0,M)).2 = nH n M:=by
 obtain ⟨pv,he⟩:=red_ech n 0 (0,M) id h (ech_start M)
 have hR : Rc n (red n 0 (0,M)).2:=(red_re n 0 (0,M) h).rc h
 unfold nH
 generalize red n 0 (0,M) = T at *
 obtain ⟨r,N⟩:=T
 simp only at he hR ⊢
 rw [Nat.zero_add] at he
 have hz : ∀ {i : Nat} {l : List Int},N[i]? = some l→(l.all (fun z=>decide (z = 0)) = true ↔ ∀ j,j < n→at' N i j = 0):=fun {i l} hl=>by
  have hi:=(List.getElem?_eq_some_iff.1 hl).1
  have hrw : rw N i = l:=at_getElem hl
  have hlen : l.length = n:=hR l (List.mem_of_getElem? hl)
  rw [List.all_eq_true]
  constructor
  ·intro h j hj
   unfold at'
   rw [hrw,List.getD_eq_getElem?_getD,List.getElem?_eq_getElem (by omega)]
   simpa using h _ (List.getElem_mem (by omega))
  ·intro h z hz
   obtain ⟨j,hj,rfl⟩:=List.getElem_of_mem hz
   have:=h j (by omega)
   unfold at' at this
   rw [hrw,List.getD_eq_getElem?_getD,List.getElem?_eq_getElem hj] at this
   simpa using this
 have e:=List.take_append_drop r N
 conv=>lhs;rw [← e]
 rw [fil_app,fil_all,fil_none,List.append_nil]
 ·intro l hl
  obtain ⟨i,hi⟩:=List.getElem?_of_mem hl
  rw [List.getElem?_drop] at hi
  exact (hz hi).2 fun j hj=>he.zb _ (by omega) j hj
 ·intro l hl
  obtain ⟨i,hi⟩:=List.getElem?_of_mem hl
  rw [List.getElem?_take] at hi
  split at hi
  ·next hir =>
   cases hb : l.all (fun z=>decide (z = 0)) with
   | false=>rfl
   | true =>
    have h1:=(hz hi).1 hb (pv i) (he.lt i hir)
    have h2:=he.pos i hir
    omega
  ·cases hi
theorem nH_rc {n : Nat} {M : Mat} (h : Rc n M) : Rc n (nH n M):=fun l hl=>(red_re n 0 (0,M) h).rc h l (List.mem_of_mem_take hl)
end Mx
namespace DW
theorem hf_le {x y : Int} (h : x.natAbs≤y.natAbs) (hy : Hf y) : Hf x:=Nat.le_trans (hd_mono h) hy
theorem gcd_le {a : Int} (b : Int) (h : a ≠ 0) : ((Int.gcd a b : Nat) : Int) ≠ 0∧(((Int.gcd a b : Nat) : Int)).natAbs≤a.natAbs:=by
 have h1 : Int.gcd a b∣a.natAbs:=Int.gcd_dvd_natAbs_left a b
 have h2:=Nat.le_of_dvd (by omega) h1
 have h3 : Int.gcd a b ≠ 0:=fun e=>by rw [Int.gcd_eq_zero_iff] at e;exact h e.1
 omega
theorem gR_le : ∀ (row : List Int) (z : Int),z ≠ 0→gR row z ≠ 0∧(gR row z).natAbs≤z.natAbs
 | [],z,h=>⟨h,Nat.le_refl _⟩
 | x :: l,z,h=>by
  have h1:=gcd_le x h
  have h2:=gR_le l _ h1.1
  exact ⟨h2.1,Nat.le_trans h2.2 h1.2⟩
theorem gM_le : ∀ (M : Mx.Mat) (z : Int),z ≠ 0→gM M z ≠ 0∧(gM M z).natAbs≤z.natAbs
 | [],z,h=>⟨h,Nat.le_refl _⟩
 | r :: M,z,h=>by
  have h1:=gR_le r z h
  have h2:=gM_le M _ h1.1
  exact ⟨h2.1,Nat.le_trans h2.2 h1.2⟩
theorem dW_set (A : Mx.Mat) (i : Nat) (l : List Int) : (A.map dZ).set i (dZ l) = (A.set i l).map dZ:=(List.map_set ..).symm
set_option maxRecDepth 20000
set_option maxHeartbeats 2000000
theorem basis_d (M : Mx.Mat) (n e p : Nat) (z : Int) (hR : Mx.Rc n M) (hn : n≤1000) (hm : M.length≤1000) (he : 6≤e) (hp : M.length≤p∨n≤p) (hf : 2 * (e * 11 ^ p)≤3000000000) (hb : Mx.Bd (2 ^ e) M) (hz : Hf z) (hz0 : z ≠ 0) (hH : ∀ l ∈ nH n M,∀ x ∈ l,Hf x) (hE : ∀ l ∈ (Mx.red n 0 (0,M)).2,∀ x ∈ l,Hf x) :
  Fn Tryz.prog 158 [dW M,.nm z,zI n] (.tp [dW (nR n M z),.nm (z / nG n M z)]):=by
 have EC:=echelon_p M n n e p hR (Nat.le_refl _) hn hm he hp hf hb
 have hre:=Mx.red_re n 0 (0,M) hR
 have hRe:=hre.rc hR
 have FI:=filled_g (Mx.red n 0 (0,M)).2 (by rw [hre.len];show M.length≤1000000;omega) (fun l hl=>by have:=hRe l hl;omega) hE 100 rfl
 rw [Mx.fil_red hR] at FI
 have NO:=normal_d z hz
 have hgl:=gM_le (nH n M) z hz0
 have hnl:=nH_len hR
 have hnr:=Mx.nH_rc hR
 have QZ:=quo_d z (nG n M z) hz (hf_le hgl.2 hz) hgl.1
 unfold nR
 obtain ⟨G,hG⟩ : ∃ G,G = nG n M z:=⟨_,rfl⟩
 have hG2 : G = gM (nH n M) z:=hG
 rw [← hG] at QZ
 rw [← hG]
 rw [show gM (nH n M) z = G from hG2.symm] at hgl
 clear hG hf hb hE hRe hre hR
 generalize (Mx.red n 0 (0,M)).2 = E0 at *
 generalize nH n M = H at *
 refine fn_of Tryz.func158 zb101 rfl rfl rfl fun X0=>?_
 simp only [initL]
 (repeat (first | refine gk fun K hK=>?_ | refine zs2 ?_));(refine gar ?_;refine zs20 ?_;refine zs3 ?_;(refine aLalloc (k:=7) (z:=(.agg #[.bool false,.slice none 0 0])) (d:=(.nm 0)) rfl rfl rfl rfl rfl zb101 zb102 zb102 zb59 zb102 zb102 zb42 ?_);refine aL_nil ?_);(repeat (first | refine gk fun K hK=>?_ | refine zs2 ?_));(refine gar ?_;refine zs4 ?_;refine zs4 ?_;refine zs74 ?_;(refine aLnew1 rfl rfl rfl rfl zb61 (FI) zb102 zb102 zb102 ?_);refine zs6 ?_;refine aL_nil ?_);(repeat (first | refine gk fun K hK=>?_ | refine zs2 ?_));(refine gar ?_;refine zs23 ?_;refine zs33 ?_;refine zs137 ?_;refine zs47 ?_;refine aL_nil ?_);(repeat (first | refine gk fun K hK=>?_ | refine zs2 ?_));refine zs149 ?_;(repeat (first | refine gk fun K hK=>?_ | refine zs2 ?_))
 have hHl : H.length≤1000:=by omega
 (refine aW_sh (Sh_to (sl':=[(2,zI n),(4,.pt (.nm z)),(7,.opt 7 0),(8,.own 100),(9,.opt 9 0),(10,zI 0)]) (ow':=[(7,⟨62,2,[.nm 0]⟩),(9,⟨62,2,[.nm z]⟩),(100,⟨113,1,H.map dZ⟩)]) zb19 zb37) ?_)
 refine aW_loop (fun r s=>∃ i,i≤H.length∧r = H.length - i∧s = ⟨[(2,zI n),(4,.pt (.nm z)),(7,.opt 7 0),(8,.own 100),(9,.opt 9 0),(10,zI (i : Nat))],[(7,⟨62,2,[.nm 0]⟩),(9,⟨62,2,[.nm (gM (H.take i) z)]⟩),(100,⟨113,1,H.map dZ⟩)]⟩) (m:=H.length) ⟨0,Nat.zero_le _,rfl,rfl⟩ fun r s hs=>?_
 obtain ⟨i,hi,rfl,rfl⟩:=hs
 by_cases hil : i < H.length
 ·obtain ⟨row,hrow⟩:=get_some hil
  have hrl:=hnr row (List.mem_of_getElem? hrow)
  have hrf:=hH row (List.mem_of_getElem? hrow)
  have hgi:=gM_le (H.take i) z hz0
  have hps:=gM_push hrow z
  obtain ⟨g,hg⟩ : ∃ g,g = gM (H.take i) z:=⟨_,rfl⟩
  rw [← hg] at hgi hps
  rw [← hg]
  clear hg
  (repeat (first | refine gk fun K hK=>?_ | refine zs2 ?_));refine zs165 ?_;(repeat (first | refine gk fun K hK=>?_ | refine zs2 ?_))
  refine zs48 ?_
  (repeat (first | refine gk fun K hK=>?_ | refine zs2 ?_));refine zs149 ?_;(repeat (first | refine gk fun K hK=>?_ | refine zs2 ?_))
  (refine aW_sh (Sh_to (sl':=[(2,zI n),(4,.pt (.nm z)),(7,.opt 7 0),(8,.own 100),(9,.opt 9 0),(10,zI (i : Nat)),(11,zI 0)]) (ow':=[(7,⟨62,2,[.nm 0]⟩),(9,⟨62,2,[.nm g]⟩),(100,⟨113,1,H.map dZ⟩)]) zb19 zb37) ?_)
  refine aW_loop (fun r s=>∃ j,j≤n∧r = n - j∧s = ⟨[(2,zI n),(4,.pt (.nm z)),(7,.opt 7 0),(8,.own 100),(9,.opt 9 0),(10,zI (i : Nat)),(11,zI (j : Nat))],[(7,⟨62,2,[.nm 0]⟩),(9,⟨62,2,[.nm (gR (row.take j) g)]⟩),(100,⟨113,1,H.map dZ⟩)]⟩) (m:=n) ⟨0,Nat.zero_le _,rfl,rfl⟩ fun r s hs=>?_
  obtain ⟨j,hj,rfl,rfl⟩:=hs
  by_cases hjl : j < n
  ·obtain ⟨x,hx⟩:=get_some (m:=row) (k:=j) (by omega)
   have hgj:=gR_le (row.take j) g hgi.1
   have hpj:=gR_push hx g
   have GC:=gcd_d (gR (row.take j) g) x (hf_le (Nat.le_trans hgj.2 hgi.2) hz) (hrf x (List.mem_of_getElem? hx))
   rw [← hpj] at GC
   (repeat (first | refine gk fun K hK=>?_ | refine zs2 ?_));refine zs171 ?_;(repeat (first | refine gk fun K hK=>?_ | refine zs2 ?_))
   refine zs48 ?_
   (repeat (first | refine gk fun K hK=>?_ | refine zs2 ?_));(refine zs114 ?_;refine zs100 ?_;refine zs98 ?_;refine zs98 ?_;refine zs99 ?_;refine zs100 ?_;refine zs98 ?_;refine zs99 ?_;refine zs100 ?_;refine zs101 ?_;refine zs103 ?_;refine zs105 ?_);(repeat (first | refine gk fun K hK=>?_ | refine zs2 ?_));refine zs151 ?_;(repeat (first | refine gk fun K hK=>?_ | refine zs2 ?_))
   simp only [nx,inB]
   exact ⟨n - (j + 1),_,by omega,(Sh_to (sl':=[(2,zI n),(4,.pt (.nm z)),(7,.opt 7 0),(8,.own 100),(9,.opt 9 0),(10,zI (i : Nat)),(11,zI ((j + 1 : Nat) : Int))]) (ow':=[(7,⟨62,2,[.nm 0]⟩),(9,⟨62,2,[.nm (gR (row.take (j + 1)) g)]⟩),(100,⟨113,1,H.map dZ⟩)]) zb19 zb37),j + 1,by omega,rfl,rfl⟩
  ·obtain rfl : j = n:=by omega
   rw [List.take_of_length_le (by omega),← hps]
   (repeat (first | refine gk fun K hK=>?_ | refine zs2 ?_));refine zs171 ?_;(repeat (first | refine gk fun K hK=>?_ | refine zs2 ?_))
   refine zs45 ?_
   (repeat (first | refine gk fun K hK=>?_ | refine zs2 ?_));refine zs151 ?_;(repeat (first | refine gk fun K hK=>?_ | refine zs2 ?_))
   simp only [nx,inB]
   exact ⟨H.length - (i + 1),_,by omega,(Sh_to (sl':=[(2,zI j),(4,.pt (.nm z)),(7,.opt 7 0),(8,.own 100),(9,.opt 9 0),(10,zI ((i + 1 : Nat) : Int))]) (ow':=[(7,⟨62,2,[.nm 0]⟩),(9,⟨62,2,[.nm (gM (H.take (i + 1)) z)]⟩),(100,⟨113,1,H.map dZ⟩)]) zb19 zb37),i + 1,by omega,rfl,rfl⟩
 ·obtain rfl : i = H.length:=by omega
  rw [List.take_length,← hG2]
  (repeat (first | refine gk fun K hK=>?_ | refine zs2 ?_));refine zs165 ?_;(repeat (first | refine gk fun K hK=>?_ | refine zs2 ?_))
  refine zs45 ?_
  (repeat (first | refine gk fun K hK=>?_ | refine zs2 ?_));refine zs149 ?_;(repeat (first | refine gk fun K hK=>?_ | refine zs2 ?_))
  (refine aW_sh (Sh_to (sl':=[(2,zI n),(4,.pt (.nm z)),(7,.opt 7 0),(8,.own 100),(9,.opt 9 0),(12,zI 0)]) (ow':=[(7,⟨62,2,[.nm 0]⟩),(9,⟨62,2,[.nm G]⟩),(100,⟨113,1,H.map dZ⟩)]) zb19 zb37) ?_)
  obtain ⟨R,hR⟩ : ∃ R,R = mapM (fun z=>z / G) H:=⟨_,rfl⟩
  rw [← hR]
  have hRl : R.length = H.length:=by rw [hR];exact mapM_len _ _
  refine aW_loop (fun r s=>∃ i,i≤H.length∧r = H.length - i∧s = ⟨[(2,zI n),(4,.pt (.nm z)),(7,.opt 7 0),(8,.own 100),(9,.opt 9 0),(12,zI (i : Nat))],[(7,⟨62,2,[.nm 0]⟩),(9,⟨62,2,[.nm G]⟩),(100,⟨113,1,(partM i R H).map dZ⟩)]⟩) (m:=H.length) ⟨0,Nat.zero_le _,rfl,by rw [partM_zero];rfl⟩ fun r s hs=>?_
  obtain ⟨i,hi,rfl,rfl⟩:=hs
  have hPl:=partM_len hRl i
  by_cases hil : i < H.length
  ·obtain ⟨row,hrow⟩:=get_some hil
   have hrl:=hnr row (List.mem_of_getElem? hrow)
   have hrf:=hH row (List.mem_of_getElem? hrow)
   have hPr : (partM i R H)[i]? = some row:=by
    unfold partM
    rw [List.getElem?_append_right zb83,List.length_take,List.getElem?_drop,show i + (i - min i R.length) = i by omega]
    exact hrow
   have hRi : Mx.rw R i = row.map (fun z=>z / G):=by rw [hR,mapM_rw,Mx.at_getElem hrow]
   have hst:=partM_set hRl hil
   rw [hRi] at hst
   obtain ⟨A,hA⟩ : ∃ A,A = partM i R H:=⟨_,rfl⟩
   rw [← hA] at hPl hPr hst
   rw [← hA]
   clear hA hRi
   (repeat (first | refine gk fun K hK=>?_ | refine zs2 ?_));refine zs165 ?_;(repeat (first | refine gk fun K hK=>?_ | refine zs2 ?_))
   refine zs48 ?_
   (repeat (first | refine gk fun K hK=>?_ | refine zs2 ?_));refine zs145 ?_;(repeat (first | refine gk fun K hK=>?_ | refine zs2 ?_));refine zs149 ?_;(repeat (first | refine gk fun K hK=>?_ | refine zs2 ?_))
   refine aW_sh (Sh_nil' (t:=13) (k:=13) (T:=62) (wd:=2) zb60 rfl rfl zb42) ?_
   (refine aW_sh (Sh_to (sl':=[(2,zI n),(4,.pt (.nm z)),(7,.opt 7 0),(8,.own 100),(9,.opt 9 0),(12,zI (i : Nat)),(13,.own 13),(14,zI 0)]) (ow':=[(13,⟨62,2,[]⟩),(7,⟨62,2,[.nm 0]⟩),(9,⟨62,2,[.nm G]⟩),(100,⟨113,1,A.map dZ⟩)]) zb19 zb37) ?_)
   refine aW_loop (fun r s=>∃ j,j≤n∧r = n - j∧s = ⟨[(2,zI n),(4,.pt (.nm z)),(7,.opt 7 0),(8,.own 100),(9,.opt 9 0),(12,zI (i : Nat)),(13,.own 13),(14,zI (j : Nat))],[(13,⟨62,2,((row.map (fun z=>z / G)).take j).map .nm⟩),(7,⟨62,2,[.nm 0]⟩),(9,⟨62,2,[.nm G]⟩),(100,⟨113,1,A.map dZ⟩)]⟩) (m:=n) ⟨0,Nat.zero_le _,rfl,rfl⟩ fun r s hs=>?_
   obtain ⟨j,hj,rfl,rfl⟩:=hs
   by_cases hjl : j < n
   ·obtain ⟨x,hx⟩:=get_some (m:=row) (k:=j) (by omega)
    have hx2 : (row.map (fun z=>z / G))[j]? = some (x / G):=by rw [List.getElem?_map,hx];rfl
    have hsn:=take_snoc hx2
    have hle : ((row.map (fun z=>z / G)).take j).length≤1000:=by rw [List.length_take];omega
    have QX:=quo_d x G (hrf x (List.mem_of_getElem? hx)) (hf_le hgl.2 hz) hgl.1
    obtain ⟨B,hB⟩ : ∃ B,B = (row.map (fun z=>z / G)).take j:=⟨_,rfl⟩
    rw [← hB] at hsn hle
    rw [← hB]
    clear hB hx2
    (repeat (first | refine gk fun K hK=>?_ | refine zs2 ?_));refine zs171 ?_;(repeat (first | refine gk fun K hK=>?_ | refine zs2 ?_))
    refine zs48 ?_
    (repeat (first | refine gk fun K hK=>?_ | refine zs2 ?_));(refine zs69 ?_;refine zs25 ?_;refine zs25 ?_;refine zs25 ?_;refine zs28 ?_;refine zs27 ?_;refine zs25 ?_;refine zs28 ?_;refine zs27 ?_;refine zs27 ?_;refine zs38 ?_;refine zs93 ?_;((try refine aHead_nil ?_);(refine aLappA rfl rfl rfl rfl zb61 zb61 zb57 zb102 zb33 zb101 zb101 (by (simp only [List.length_map,List.length_cons,List.length_nil];omega)) zb42 zb53 ?_));refine zs30 ?_;refine zs31 ?_);(repeat (first | refine gk fun K hK=>?_ | refine zs2 ?_));refine zs151 ?_;(repeat (first | refine gk fun K hK=>?_ | refine zs2 ?_))
    simp only [nx,inB]
    exact ⟨n - (j + 1),_,by omega,(Sh_to (sl':=[(2,zI n),(4,.pt (.nm z)),(7,.opt 7 0),(8,.own 100),(9,.opt 9 0),(12,zI (i : Nat)),(13,.own 13),(14,zI ((j + 1 : Nat) : Int))]) (ow':=[(13,⟨62,2,B.map .nm ++ [.nm (x / G)]⟩),(7,⟨62,2,[.nm 0]⟩),(9,⟨62,2,[.nm G]⟩),(100,⟨113,1,A.map dZ⟩)]) zb19 zb37),j + 1,by omega,rfl,by rw [hsn,List.map_append];rfl⟩
   ·obtain rfl : j = n:=by omega
    rw [List.take_of_length_le (by rw [List.length_map];omega)]
    have hii : (i : Int) = ((i : Nat) : Int):=rfl
    (repeat (first | refine gk fun K hK=>?_ | refine zs2 ?_));refine zs171 ?_;(repeat (first | refine gk fun K hK=>?_ | refine zs2 ?_))
    refine zs45 ?_
    (repeat (first | refine gk fun K hK=>?_ | refine zs2 ?_))
    refine aW_sh (Sh_shut' (k:=13) zb57 zb46 zb50) ?_
    refine zs172 ?_
    (repeat (first | refine gk fun K hK=>?_ | refine zs2 ?_));refine zs151 ?_;(repeat (first | refine gk fun K hK=>?_ | refine zs2 ?_))
    simp only [nx,inB]
    exact ⟨H.length - (i + 1),_,by omega,(Sh_to (sl':=[(2,zI j),(4,.pt (.nm z)),(7,.opt 7 0),(8,.own 100),(9,.opt 9 0),(12,zI ((i + 1 : Nat) : Int))]) (ow':=[(7,⟨62,2,[.nm 0]⟩),(9,⟨62,2,[.nm G]⟩),(100,⟨113,1,(A.map dZ).set i (dZ (row.map (fun z=>z / G)))⟩)]) zb19 zb37),i + 1,by omega,rfl,by rw [dW_set,hst]⟩
  ·obtain rfl : i = H.length:=by omega
   rw [partM_all (by omega) (Nat.le_refl _)]
   (repeat (first | refine gk fun K hK=>?_ | refine zs2 ?_));refine zs165 ?_;(repeat (first | refine gk fun K hK=>?_ | refine zs2 ?_))
   refine zs45 ?_
   (repeat (first | refine gk fun K hK=>?_ | refine zs2 ?_));(refine gar ?_;refine zs4 ?_;refine zs23 ?_;refine zs23 ?_;refine zs74 ?_;refine zs6 ?_;refine zs47 ?_;refine aL_nil ?_);(repeat (first | refine gk fun K hK=>?_ | refine zs2 ?_))
   rw [← hR]
   refine ⟨_,Sh.trans (Sh_shut' (k:=100) zb57 zb46 zb50) (Sh_shut' (k:=7) zb57 zb46 zb50),?_⟩
   exact .two (.tmp 6) (.cell 7 62) _ _ rfl (.tmp 6 rfl) (.cell 7 _ _ rfl rfl zb101 zb101)
end DW
end Go.Proofs.YtcgjmdpcplhanaaGreat
namespace Go.Proofs.YtcgjmdpcplhanaaGreat
open Go.RowKit
namespace DW
theorem lscan_ok {dim : Int} : ∀ {m : List (List Int)},lscan dim m = 0→∀ l ∈ m,(l.length : Int) = dim∧∀ z ∈ l,inb 1000000000000000 z = true
 | [],_=>fun l hl=>by cases hl
 | r :: t,h=>by
  unfold lscan at h
  split at h
  ·next h1 =>
   split at h
   ·cases h
   ·next h2 =>
    intro l hl
    rcases List.mem_cons.1 hl with rfl | hl
    ·refine ⟨h1,fun z hz=>?_⟩
     cases hb : inb 1000000000000000 z with
     | true=>rfl
     | false=>exact absurd (List.any_eq_true.2 ⟨z,hz,by unfold big;rw [hb];rfl⟩) h2
    ·exact lscan_ok h l hl
  ·cases h
theorem lck_ok {dim den : Int} {m : List (List Int)} (h : lck dim m den = 0) : (1≤dim∧dim≤6∧1≤den∧den≤1000000000000000)∧m.length≤64∧∀ l ∈ m,(l.length : Int) = dim∧∀ z ∈ l,inb 1000000000000000 z = true:=by
 unfold lck at h
 split at h
 ·cases h
 ·split at h
  ·cases h
  ·exact ⟨by omega,by omega,lscan_ok h⟩
theorem lck_rc {n : Nat} {den : Int} {m : List (List Int)} (h : lck n m den = 0) : Mx.Rc n m:=fun l hl=>by have:=((lck_ok h).2.2 l hl).1;omega
theorem lck_bd {dim den : Int} {m : List (List Int)} (h : lck dim m den = 0) : Mx.Bd (2 ^ 50) m:=fun i j=>by
 rcases at_mem m i j with h1 | ⟨r,hr,hz⟩
 ·rw [h1];simp
 ·have:=inb_iff.1 (((lck_ok h).2.2 r hr).2 _ hz)
  exact Nat.le_trans (show (Mx.at' m i j).natAbs≤1000000000000000 by omega) (by decide)
theorem lck_in {dim den : Int} {m : List (List Int)} (h : lck dim m den = 0) : ∀ l ∈ m,∀ z ∈ l,I64 z:=fun l hl z hz=>by
 have:=inb_iff.1 (((lck_ok h).2.2 l hl).2 z hz)
 unfold I64;omega
set_option maxRecDepth 20000
set_option maxHeartbeats 2000000
theorem rmade_d (dim : Int) (M R : Mx.Mat) (z d : Int) (BS : Fn Tryz.prog 158 [dW M,.nm z,zI dim] (.tp [dW R,.nm d])) (hR : R.length≤1000000) (hR2 : ∀ l ∈ R,l.length≤1000000) (hR3 : ∀ l ∈ R,∀ x ∈ l,(hd x.natAbs).length≤199999999) (hdl : (hd d.natAbs).length≤199999999) : Fn Tryz.prog 92 [dW M,.nm z,zI dim] (hnd dim R d):=by
 have NR:=narrow_d R hR hR2 hR3
 have ND:=narrow_d [[d]] (by simp) (by simp) (by simpa using hdl)
 unfold nrw at NR ND
 rw [show ([[d]] : Mx.Mat).all (fun l=>l.all (inb 1000000000000000)) = inb 1000000000000000 d by simp] at ND
 by_cases h1 : R.all (fun l=>l.all (inb 1000000000000000)) = true
 ·rw [if_pos h1] at NR
  by_cases h2 : inb 1000000000000000 d = true
  ·rw [if_pos h2] at ND
   have EC : hnd dim R d = .tp [dL dim R d,zI 0]:=if_pos ⟨h1,h2⟩
   have hc0 : (0 : Int) = ((0 : Nat) : Int):=rfl
   obtain ⟨N,L,g0,g1,ND⟩ : ∃ (N : Mx.Mat) (L : List Int),N[0]? = some L∧L[0]? = some d∧Fn Tryz.prog 77 [dW [[d]]] (.tp [dM N,.sc (.bool true)]):=⟨[[d]],[d],rfl,rfl,ND⟩
   refine fn_of Tryz.func92 zb101 rfl rfl rfl fun X0=>?_
   simp only [initL]
   (repeat (first | refine gk fun K hK=>?_ | refine zs2 ?_));refine zs217 ?_;(repeat (first | refine gk fun K hK=>?_ | refine zs2 ?_));refine zs218 ?_;(repeat (first | refine gk fun K hK=>?_ | refine zs2 ?_));refine zs219 ?_;(repeat (first | refine gk fun K hK=>?_ | refine zs2 ?_));refine zs220 ?_;(repeat (first | refine gk fun K hK=>?_ | refine zs2 ?_));refine zs221 ?_;(repeat (first | refine gk fun K hK=>?_ | refine zs2 ?_))
   refine zs45 ?_
   (repeat (first | refine gk fun K hK=>?_ | refine zs2 ?_));(refine gar ?_;refine zs4 ?_;refine zs4 ?_;refine zs4 ?_;refine zs140 ?_;refine zs72 ?_;refine zs140 ?_;refine zs72 ?_;refine zs123 ?_;refine zs47 ?_;refine zs21 ?_;refine aL_nil ?_);(repeat (first | refine gk fun K hK=>?_ | refine zs2 ?_))
   rw [EC]
   exact ⟨_,Sh_shut' (k:=6) zb57 zb46 zb50,.two (.cell 6 48) (.tmp 7) _ _ rfl (.cell 6 _ _ rfl rfl zb101 zb101) (.tmp 7 rfl)⟩
  ·rw [if_neg h2] at ND
   have EC : hnd dim R d = .tp [dL 0 [] 0,zI 8]:=if_neg (fun h=>h2 h.2)
   refine fn_of Tryz.func92 zb101 rfl rfl rfl fun X0=>?_
   simp only [initL]
   (repeat (first | refine gk fun K hK=>?_ | refine zs2 ?_));refine zs217 ?_;(repeat (first | refine gk fun K hK=>?_ | refine zs2 ?_));refine zs218 ?_;(repeat (first | refine gk fun K hK=>?_ | refine zs2 ?_));refine zs219 ?_;(repeat (first | refine gk fun K hK=>?_ | refine zs2 ?_));refine zs220 ?_;(repeat (first | refine gk fun K hK=>?_ | refine zs2 ?_));refine zs221 ?_;(repeat (first | refine gk fun K hK=>?_ | refine zs2 ?_))
   refine zs48 ?_
   (repeat (first | refine gk fun K hK=>?_ | refine zs2 ?_));refine zs206 ?_;(repeat (first | refine gk fun K hK=>?_ | refine zs2 ?_))
   rw [EC]
   exact ⟨_,Sh.trans (Sh_shut' (k:=6) zb57 zb46 zb50) (Sh_as (t:=6) (d:=.pt (.st [_,.sc (.slice none 0 0),_])) (d':=.pt (.st [_,dM [],_])) zb102 rfl rfl fun X w v h=>ar_ptlat h),.two (.cell 6 48) (.tmp 7) _ _ rfl (.cell 6 _ _ rfl rfl zb101 zb101) (.tmp 7 rfl)⟩
 ·rw [if_neg h1] at NR
  have EC : hnd dim R d = .tp [dL 0 [] 0,zI 8]:=if_neg (fun h=>h1 h.1)
  have ND' : ∃ a b,Fn Tryz.prog 77 [dW [[d]]] (.tp [dM a,.sc (.bool b)]):=by
   split at ND
   ·exact ⟨_,_,ND⟩
   ·exact ⟨_,_,ND⟩
  clear ND
  obtain ⟨a,b,ND⟩:=ND'
  refine fn_of Tryz.func92 zb101 rfl rfl rfl fun X0=>?_
  simp only [initL]
  (repeat (first | refine gk fun K hK=>?_ | refine zs2 ?_));refine zs217 ?_;(repeat (first | refine gk fun K hK=>?_ | refine zs2 ?_));refine zs218 ?_;(repeat (first | refine gk fun K hK=>?_ | refine zs2 ?_));refine zs219 ?_;(repeat (first | refine gk fun K hK=>?_ | refine zs2 ?_));refine zs220 ?_;(repeat (first | refine gk fun K hK=>?_ | refine zs2 ?_));refine zs221 ?_;(repeat (first | refine gk fun K hK=>?_ | refine zs2 ?_))
  refine zs48 ?_
  (repeat (first | refine gk fun K hK=>?_ | refine zs2 ?_));refine zs206 ?_;(repeat (first | refine gk fun K hK=>?_ | refine zs2 ?_))
  rw [EC]
  exact ⟨_,Sh.trans (Sh_shut' (k:=6) zb57 zb46 zb50) (Sh_as (t:=6) (d:=.pt (.st [_,.sc (.slice none 0 0),_])) (d':=.pt (.st [_,dM [],_])) zb102 rfl rfl fun X w v h=>ar_ptlat h),.two (.cell 6 48) (.tmp 7) _ _ rfl (.cell 6 _ _ rfl rfl zb101 zb101) (.tmp 7 rfl)⟩
theorem rnormal_w (dim den : Int) (m R : Mx.Mat) (d : Int) (WD : Fn Tryz.prog 23 [dM m] (dW m)) (OF : Fn Tryz.prog 81 [zI den] (.nm den)) (MD : Fn Tryz.prog 92 [dW m,.nm den,zI dim] (hnd dim R d)) : Fn Tryz.prog 34 [dL dim m den] (hnd dim R d):=by
 unfold hnd at MD ⊢
 split at MD
 ·next h =>
  rw [if_pos h]
  refine fn_of Tryz.func34 zb101 rfl rfl rfl fun X0=>?_
  simp only [initL]
  (repeat (first | refine gk fun K hK=>?_ | refine zs2 ?_));refine zs202 ?_;(repeat (first | refine gk fun K hK=>?_ | refine zs2 ?_));refine zs222 ?_;(repeat (first | refine gk fun K hK=>?_ | refine zs2 ?_))
  exact ⟨_,Sh_shut' (k:=2) zb57 zb46 zb50,.two (.cell 2 48) (.tmp 3) _ _ rfl (.cell 2 _ _ rfl rfl zb101 zb101) (.tmp 3 rfl)⟩
 ·next h =>
  rw [if_neg h]
  refine fn_of Tryz.func34 zb101 rfl rfl rfl fun X0=>?_
  simp only [initL]
  (repeat (first | refine gk fun K hK=>?_ | refine zs2 ?_));refine zs202 ?_;(repeat (first | refine gk fun K hK=>?_ | refine zs2 ?_));refine zs222 ?_;(repeat (first | refine gk fun K hK=>?_ | refine zs2 ?_))
  exact ⟨_,Sh_shut' (k:=2) zb57 zb46 zb50,.two (.cell 2 48) (.tmp 3) _ _ rfl (.cell 2 _ _ rfl rfl zb101 zb101) (.tmp 3 rfl)⟩
theorem lnormal_e (dim den C : Int) (m : Mx.Mat) (hC : C ≠ 0) (CK : Fn Tryz.prog 33 [dL dim m den] (zI C)) : Fn Tryz.prog 31 [dL dim m den] (.tp [dL 0 [] 0,zI C]):=by
 refine fn_of Tryz.func31 zb101 rfl rfl rfl fun X0=>?_
 simp only [initL]
 (repeat (first | refine gk fun K hK=>?_ | refine zs2 ?_));refine zs202 ?_;(repeat (first | refine gk fun K hK=>?_ | refine zs2 ?_));refine zs179 ?_;(repeat (first | refine gk fun K hK=>?_ | refine zs2 ?_));refine zs156 ?_;(repeat (first | refine gk fun K hK=>?_ | refine zs2 ?_))
 refine zs48 ?_
 (repeat (first | refine gk fun K hK=>?_ | refine zs2 ?_));(refine gar ?_;refine zs124 ?_;refine zs4 ?_;refine zs47 ?_;refine zs6 ?_;refine aL_nil ?_);(repeat (first | refine gk fun K hK=>?_ | refine zs2 ?_))
 exact ⟨_,Sh.trans (Sh_shut' (k:=2) zb57 zb46 zb50) (Sh_as (t:=2) (d:=.pt (.st [_,.sc (.slice none 0 0),_])) (d':=.pt (.st [_,dM [],_])) zb102 rfl rfl fun X w v h=>ar_ptlat h),.two (.cell 2 48) (.tmp 3) _ _ rfl (.cell 2 _ _ rfl rfl zb101 zb101) (.tmp 3 rfl)⟩
theorem lnormal_w (dim den : Int) (m R : Mx.Mat) (d : Int) (CK : Fn Tryz.prog 33 [dL dim m den] (zI 0)) (RD : Fn Tryz.prog 87 [dL dim m den] (dNet dim R d)) (HN : Fn Tryz.prog 88 [dNet dim R d] (hnd dim R d)) : Fn Tryz.prog 31 [dL dim m den] (hnd dim R d):=by
 unfold hnd at HN ⊢
 split at HN
 ·next h =>
  rw [if_pos h]
  refine fn_of Tryz.func31 zb101 rfl rfl rfl fun X0=>?_
  simp only [initL]
  (repeat (first | refine gk fun K hK=>?_ | refine zs2 ?_));refine zs202 ?_;(repeat (first | refine gk fun K hK=>?_ | refine zs2 ?_));refine zs179 ?_;(repeat (first | refine gk fun K hK=>?_ | refine zs2 ?_));refine zs156 ?_;(repeat (first | refine gk fun K hK=>?_ | refine zs2 ?_))
  refine zs45 ?_
  (repeat (first | refine gk fun K hK=>?_ | refine zs2 ?_));refine zs223 ?_;(repeat (first | refine gk fun K hK=>?_ | refine zs2 ?_))
  exact ⟨_,Sh_shut' (k:=2) zb57 zb46 zb50,.two (.cell 2 48) (.tmp 3) _ _ rfl (.cell 2 _ _ rfl rfl zb101 zb101) (.tmp 3 rfl)⟩
 ·next h =>
  rw [if_neg h]
  refine fn_of Tryz.func31 zb101 rfl rfl rfl fun X0=>?_
  simp only [initL]
  (repeat (first | refine gk fun K hK=>?_ | refine zs2 ?_));refine zs202 ?_;(repeat (first | refine gk fun K hK=>?_ | refine zs2 ?_));refine zs179 ?_;(repeat (first | refine gk fun K hK=>?_ | refine zs2 ?_));refine zs156 ?_;(repeat (first | refine gk fun K hK=>?_ | refine zs2 ?_))
  refine zs45 ?_
  (repeat (first | refine gk fun K hK=>?_ | refine zs2 ?_));refine zs223 ?_;(repeat (first | refine gk fun K hK=>?_ | refine zs2 ?_))
  exact ⟨_,Sh_shut' (k:=2) zb57 zb46 zb50,.two (.cell 2 48) (.tmp 3) _ _ rfl (.cell 2 _ _ rfl rfl zb101 zb101) (.tmp 3 rfl)⟩
end DW
end Go.Proofs.YtcgjmdpcplhanaaGreat
namespace Go.Proofs.YtcgjmdpcplhanaaGreat
open Go.RowKit
namespace CI
variable {P : Program} {h h' : H} {tm tm' : Tm} {rec : Rec} {n : Nat} {r : List RO} {S : Nat→SD} {ops : Array Oper}
theorem Trace.mono (t : Trace rec r tm h tm' h' S) (hg : RecGd rec) (f : Wf h) {i j : Nat} (hij : i≤j) (hj : j≤r.length) : (S i).h.next≤(S j).h.next:=by
 have:=(t.gdm hg f (j - i) i (by omega)).good.next
 rwa [show i + (j - i) = j by omega] at this
theorem Trace.low (t : Trace rec r tm h tm' h' S) (hg : RecGd rec) (f : Wf h) {i j : Nat} (hij : i≤j) (hj : j≤r.length) : (S j).h.low≤(S i).h.low:=by
 have:=(t.gdm hg f (j - i) i (by omega)).good.low
 rwa [show i + (j - i) = j by omega] at this
theorem whole_get {g h1 : H} {k : Nat} (e : T.get h1.t k = T.get g.t k) : (g.whole h1).get k = g.get k:=by
 unfold H.get
 show (match inForb k g.forb with | true=>none | false=>T.get h1.t k) = _
 rw [e];rfl
theorem addO_get {g g' : H} {ob : Option B} (e : g.addO ob = some g') {k : Nat} (hk : k < g.next) : g'.get k = g.get k:=by
 cases ob with
 | none=>simp only [H.addO,Option.some.injEq] at e;rw [e]
 | some b =>
  obtain ⟨_,_,h3,_,h5⟩:=new_spec e
  exact get_of h3 (by rw [h5,if_neg (by omega)])
theorem Trace.keepW (t : Trace rec r tm h tm' h' S) (hg : RecGd rec) (f : Wf h) {i k : Nat} (hi : i < r.length) (hw : (S (i + 1)).wr = false) (hk : k < (S i).h.next) : (S (i + 1)).h.get k = (S i).h.get k:=by
 obtain ⟨o,ho⟩ : ∃ o,r[i]? = some o:=⟨_,List.getElem?_eq_getElem hi⟩
 have f1:=(t.gd hg f i (by omega)).1
 rcases (t.cases ho).2 with ⟨_,_,e,_⟩ | ⟨_,_,_,_,_,ob,_,e,_⟩ | ⟨_,_,_,h1,e1,e2,e3,_⟩
 ·rw [e]
 ·exact addO_get e hk
 ·rw [e2]
  refine whole_get ((xR_gd hg (part_wf f1) e1).good.keep k hk ?_)
  rw [e3] at hw
  refine Nat.lt_of_lt_of_le hk (Nat.le_of_not_lt fun hlt=>?_)
  rw [← Nat.blt_eq] at hlt
  rw [hlt] at hw;cases hw
theorem Trace.keepO (t : Trace rec r tm h tm' h' S) (hg : RecGd rec) (f : Wf h) {i k q : Nat} {ro : RO} (hi : r[i]? = some ro) (hq : q < i) (hp : ro.pre.testBit q = false) (h1 : (S q).h.next≤k) (h2 : k < (S (q + 1)).h.next) : (S (i + 1)).h.get k = (S i).h.get k:=by
 have hlt:=(List.getElem?_eq_some_iff.1 hi).1
 have hk : k < (S i).h.next:=Nat.lt_of_lt_of_le h2 (t.mono hg f hq (by omega))
 have f1:=(t.gd hg f i (by omega)).1
 rcases (t.cases hi).2 with ⟨_,_,e,_⟩ | ⟨_,_,_,_,_,ob,_,e,_⟩ | ⟨_,_,_,g1,e1,e2,e3,_⟩
 ·rw [e]
 ·exact addO_get e hk
 ·rw [e2]
  refine whole_get ((xR_gd hg (part_wf f1) e1).good.dead k hk fun hl=>?_)
  have:=live_not_forb hl
  rw [show ((S i).h.part ro.pre (S i).iv).forb = forbs ro.pre (S i).iv (S i).h.forb from rfl,forbs_mem ((t.iv i (by omega)).2 q hq (by omega)) hp h1 h2] at this
  cases this
theorem Trace.wr_rd (t : Trace rec r tm h tm' h' S) {i : Nat} (hi : i < r.length) (hw : (S (i + 1)).wr = true) : (S (i + 1)).rd = true:=by
 obtain ⟨o,ho⟩ : ∃ o,r[i]? = some o:=⟨_,List.getElem?_eq_getElem hi⟩
 rcases (t.cases ho).2 with ⟨_,_,_,e,_⟩ | ⟨_,_,e,_⟩ | ⟨_,_,e,_⟩
 ·rw [e] at hw;cases hw
 ·rw [e] at hw;cases hw
 ·exact e
theorem Trace.bound (t : Trace rec r tm h tm' h' S) {i j : Nat} {ro : RO} (hij : i < j) (hj : r[j]? = some ro) (hh : ((S (i + 1)).wr = true∧(S (j + 1)).rd = true)∨((S (i + 1)).rd = true∧(S (j + 1)).wr = true)) : ro.pre.testBit i = true:=by
 have hlt:=(List.getElem?_eq_some_iff.1 hj).1
 have hri : (S (i + 1)).rd = true:=by
  rcases hh with ⟨h1,_⟩ | ⟨h1,_⟩
  ·exact t.wr_rd (by omega) h1
  ·exact h1
 have hrj : (S (j + 1)).rd = true:=by
  rcases hh with ⟨_,h1⟩ | ⟨_,h1⟩
  ·exact h1
  ·exact t.wr_rd hlt h1
 rcases (t.cases hj).2 with ⟨_,_,_,_,e,_⟩ | ⟨_,_,_,e,_⟩ | ⟨_,_,_,g1,_,_,_,e4,_⟩
 ·rw [e] at hrj;cases hrj
 ·rw [e] at hrj;cases hrj
 ·refine clash_false e4 (t.rw' j (by omega) i hij hri) ?_
  rcases hh with ⟨h1,_⟩ | ⟨_,h1⟩ <;> simp [h1]
theorem stay {k x : Nat} : ∀ {y : Nat},x≤y→(∀ i,x≤i→i < y→(S (i + 1)).h.get k = (S i).h.get k)→(S y).h.get k = (S x).h.get k:=fun {y} hxy=>by
 induction y with
 | zero=>intro _;rw [show x = 0 by omega]
 | succ y ih =>
  intro hh
  by_cases hx : x = y + 1
  ·rw [hx]
  ·rw [hh y (by omega) (by omega),ih (by omega) fun i h1 h2=>hh i h1 (by omega)]
theorem Trace.owner (t : Trace rec r tm h tm' h' S) {k : Nat} : ∀ {j : Nat},(S 0).h.next≤k→k < (S j).h.next→∃ q,q < j∧(S q).h.next≤k∧k < (S (q + 1)).h.next
 | 0,h1,h2=>by omega
 | j + 1,h1,h2=>by
  by_cases hk : k < (S j).h.next
  ·obtain ⟨q,q1,q2⟩:=t.owner h1 hk
   exact ⟨q,by omega,q2⟩
  ·exact ⟨j,by omega,by omega,h2⟩
structure StepG (P : Program) (S : Nat→SD) (ops : Array Oper) (j : Nat) (o : Oper) (pre : Nat) (G h1 : H) : Prop where
 nx : G.next = (S j).h.next
 nx1 : h1.next = (S (j + 1)).h.next
 g1 : ∀ k b,G.get k = some b→k < (S j).h.next∧(S j).h.get k = some b∧(S (j + 1)).rd = true∧∀ q,q < j→(S q).h.next≤k→k < (S (q + 1)).h.next→pre.testBit q = true
 g2 : ∀ k b,(S j).h.next≤k→(S (j + 1)).h.get k = some b→h1.get k = some b
 g3 : ∀ k,G.live k→(S (j + 1)).h.get k = h1.get k
 g4 : ∀ k,k < (S j).h.next→¬ G.live k→(S (j + 1)).h.get k = (S j).h.get k
 g5 : (S (j + 1)).wr = false→∀ k,G.live k→h1.get k = G.get k
 low : ∀ k,G.live k→h1.low≤k→(S (j + 1)).h.low≤k
 bd : (S j).h.next≤1000000
 wp : ∀ (F : Fence) (_ : FC F) (Q : Exit→Act→World→Prop) (K : Act→World→Prop) (A : Nat→Prop) (ρ : Nat→Nat) (w : World) (a : Act),Rel P A ρ w G→Dj A G h1→(∀ u,u ∈ looks ops o→VR P A ρ w (CO.ev (S j).tm (CO.t u)) (a.tmps.getD u undef)) →
  (∀ u w' ρ',Post P A ρ w G ρ' w' h1→VR P (Ext A G h1) ρ' w' (S (j + 1)).v u→K (a.put o.dst u) w')→wpOpIn F 0 P ops Q j K a w
def bare (k : Nat) : H:=⟨k,k,[],.e⟩
theorem bare_get (k j : Nat) : (bare k).get j = none:=by
 unfold H.get bare
 simp only [inForb,T.get_e]
theorem bare_live (k j : Nat) : ¬ (bare k).live j:=by unfold H.live;rw [bare_get];simp
theorem looks_hv {A : Nat→Prop} {ρ : Nat→Nat} {w : World} {a : Act} {o : Oper} {tm : Tm} (hl : ∀ u,u ∈ looks ops o→VR P A ρ w (CO.ev tm (CO.t u)) (a.tmps.getD u undef)) : HV P A ρ w tm a o:=fun y hy=>by
 cases y with
 | tmp u =>
  have:=hl u (by
   unfold looks
   exact List.mem_append_right _ (List.mem_filterMap.2 ⟨.tmp u,by simpa using hy,rfl⟩))
  unfold OpV
  simpa [coOf,Act.eval] using this
 | const v=>exact ofV_sound v
 | global g=>simp only [OpV,coOf,CO.ev,VR]
 | func g =>
  show VR P A ρ w (.fn g []) (.func (.func g) #[] #[])
  simp only [VR,VRl]
  exact ⟨_,rfl,rfl⟩
theorem step_of (hrec : RecOK P rec) (hg : RecGd rec) (t : Trace rec r tm h tm' h' S) (st : Stat P n ops r) (f : Wf h) {j : Nat} {o : Oper} (ho : ops[j]? = some o) : ∃ ro G h1, r[j]? = some ro ∧ dstOk n o.dst = true ∧ (S (j + 1)).tm = putO (S j).tm o.dst (S (j + 1)).v ∧ StepG P S ops j o ro.pre G h1 := by
  obtain ⟨g, p, hr, hdst, hgd⟩ := st.row j o ho
  have hjl : j < r.length := (List.getElem?_eq_some_iff.1 hr).1
  obtain ⟨f1, _⟩ := t.gd hg f j (by omega)
  obtain ⟨ht, hcs⟩ := t.cases hr
  have hwant : ∀ (A : Nat → Prop) (ρ : Nat → Nat) (w : World) (a : Act) (b : Bool), wantR ⟨o.dst, g, (match compOp P o.op with | some x => x | none => .bad), p⟩ (S j).tm = some b → (∀ u, u ∈ looks ops o → VR P A ρ w (CO.ev (S j).tm (CO.t u)) (a.tmps.getD u undef)) → Region.wanted o (yielded ops a.tmps) = b := fun A ρ w a b hw hl => by
    refine want_sound (P := P) (A := A) (ρ := ρ) (w := w) hgd hw fun u c hc => hl u ?_
    unfold looks
    refine List.mem_append_left _ ?_
    cases hog : o.guard with
    | none => rw [hog] at hgd; simp only [Option.some.injEq] at hgd; rw [← hgd] at hc; cases hc
    | some q =>
      obtain ⟨q1, q2⟩ := q
      rw [hog] at hgd
      simp only at hgd ⊢
      obtain ⟨u', e1, e2⟩ := opt_map hgd
      rw [hc] at e2
      simp only [Option.some.injEq, Prod.mk.injEq] at e2
      rw [e1, e2.1]; simp
  rcases hcs with ⟨hw, hv, hh, hwr, hrd, _⟩ | ⟨hw, hT, hwr, hrd, _, ob, e1, e2, _⟩ | ⟨hw, hT, hrd, h1, e1, e2, e3, e4, _⟩
  · refine ⟨_, bare (S j).h.next, bare (S j).h.next, hr, hdst, ht, rfl, (by rw [hh]; rfl), (fun k b e => by rw [bare_get] at e; cases e), fun k b hk e => ?_, fun k hl => absurd hl (bare_live _ _), (fun k _ _ => by rw [hh]), fun _ k hl => absurd hl (bare_live _ _), fun k hl => absurd hl (bare_live _ _), f1.bd, fun F hF Q K A ρ w a tR hd hl hK => ?_⟩
    · rw [hh] at e
      have := f1.lt k b (get_tree e); omega
    · unfold wpOpIn
      simp only [ho]
      rw [hwant A ρ w a false hw hl, if_neg (by simp)]
      exact ⟨fun g _ => hF.fn g, hK undef w ρ (Post.refl tR) (by rw [hv]; simp only [VR])⟩
  · obtain ⟨h1, e3⟩ : ∃ h1, (bare (S j).h.next).addO ob = some h1 := by
      cases ob with
      | none => exact ⟨_, rfl⟩
      | some b =>
        have := (new_spec e2).2.2.2.1
        exact ⟨_, by
          show (bare (S j).h.next).new b = _
          unfold H.new bare
          rw [(by simpa [Nat.blt_eq] using this : Nat.blt (S j).h.next 1000000 = true)]⟩
    have hcc := x_bad (P := P) (o := o) rfl (.inr fun e5 => by
      have e6 := (congrArg (fun x => xT x (S j).tm (S j).h.next) e5).symm.trans e1
      rw [xT_bad] at e6; cases e6)
    have hn1 : h1.next = (S (j + 1)).h.next := by
      cases ob with
      | none =>
        simp only [H.addO, Option.some.injEq] at e2 e3
        rw [← e2, ← e3]; rfl
      | some b => rw [(new_spec e3).1, (new_spec e2).1]; rfl
    refine ⟨_, bare (S j).h.next, h1, hr, hdst, ht, rfl, hn1, (fun k b e => by rw [bare_get] at e; cases e), fun k b hk e => ?_, fun k hl => absurd hl (bare_live _ _), fun k hk _ => addO_get e2 hk, fun _ k hl => absurd hl (bare_live _ _), fun k hl => absurd hl (bare_live _ _), f1.bd, fun F hF Q K A ρ w a tR hd hl hK => ?_⟩
    · cases ob with
      | none =>
        simp only [H.addO, Option.some.injEq] at e2
        rw [← e2] at e
        have := f1.lt k b (get_tree e); omega
      | some b' =>
        obtain ⟨q1, q2, q3, q4, q5⟩ := new_spec e2
        obtain ⟨s1, s2, s3, s4, s5⟩ := new_spec e3
        have e' := get_tree e
        rw [q5] at e'
        split at e'
        · next hk' =>
          simp only [Option.some.injEq] at e'; subst e'
          unfold H.get
          rw [s3]
          simp only [bare, inForb]
          rw [s5]; exact if_pos hk'
        · have := f1.lt k b e'; omega
    · unfold wpOpIn
      simp only [ho]
      rw [hwant A ρ w a true hw hl, if_pos rfl]
      exact me_wp hF (compOp_defer ⟨_, hcc⟩) (t_me (h := bare (S j).h.next) hcc hT e1 e3 (looks_hv hl) tR hd) hK
  · have hcc := x_bad (P := P) (o := o) rfl (.inl hT)
    have gp := xR_gd hg (part_wf f1) e1
    have hout : ∀ k, (S j).h.next ≤ k → inForb k (forbs p (S j).iv (S j).h.forb) = inForb k (S j).h.forb := fun k hk => forbs_out fun x hx => by
      obtain ⟨q, hq, rfl⟩ := (t.iv j (by omega)).1 x hx
      have := t.mono hg f (show q + 1 ≤ j by omega) (by omega)
      simp only; omega
    refine ⟨_, (S j).h.part p (S j).iv, h1, hr, hdst, ht, rfl, (by rw [e2]; rfl), fun k b e => ⟨f1.lt k b (get_tree (part_get e)), part_get e, hrd, fun q hq q1 q2 => ?_⟩, fun k b hk e => ?_, fun k hl => ?_, fun k hk hl => ?_, fun hw0 k hl => ?_, fun k _ hlo => ?_, f1.bd, fun F hF Q K A ρ w a tR hd hl hK => ?_⟩
    · cases hp : p.testBit q with
      | true => rfl
      | false =>
        have := live_not_forb (get_live e)
        rw [show ((S j).h.part p (S j).iv).forb = forbs p (S j).iv (S j).h.forb from rfl, forbs_mem ((t.iv j (by omega)).2 q hq (by omega)) hp q1 q2] at this
        cases this
    · rw [e2] at e
      have hf := gp.good.forb
      unfold H.get at e ⊢
      rw [hf, show ((S j).h.part p (S j).iv).forb = forbs p (S j).iv (S j).h.forb from rfl, hout k hk]
      exact e
    · rw [e2]
      have hb := live_not_forb hl
      have hb2 : inForb k (S j).h.forb = false := inForb_forbs p k _ _ hb
      unfold H.get
      rw [gp.good.forb, hb]
      show (match inForb k (S j).h.forb with | true => none | false => T.get h1.t k) = _
      rw [hb2]
    · rw [e2]; exact whole_get (gp.good.dead k hk hl)
    · have hk : k < (S j).h.next := by
        obtain ⟨b, eb⟩ := Option.isSome_iff_exists.1 hl
        exact f1.lt k b (get_tree (part_get eb))
      rw [e3] at hw0
      refine get_of gp.good.forb (gp.good.keep k hk (Nat.lt_of_lt_of_le hk (Nat.le_of_not_lt fun hlt => ?_)))
      rw [← Nat.blt_eq] at hlt
      rw [hlt] at hw0; cases hw0
    · rw [e2]; exact Nat.le_trans (whole_low _ _).2 hlo
    · unfold wpOpIn
      simp only [ho]
      rw [hwant A ρ w a true hw hl, if_pos rfl]
      exact r_wp hrec hF hcc hT e1 (part_wf f1) (looks_hv hl) tR hd hK
end CI
end Go.Proofs.YtcgjmdpcplhanaaGreat
namespace Go.Proofs.YtcgjmdpcplhanaaGreat
open Go.RowKit
namespace CI
variable {P : Program} {h h' : H} {tm tm' : Tm} {rec : Rec} {n : Nat} {r : List RO} {S : Nat→SD} {ops : Array Oper} {A : Nat→Prop} {ρ ρ1 ρ2 : Nat→Nat} {w w1 w2 : World} {a : Act} {ds : List Nat} {L : Nat→Prop} {s j : Nat}
def AL (A : Nat→Prop) (S : Nat→SD) (L : Nat→Prop) (k : Nat) : Prop:=A k∨∃ i,L i∧(S i).h.next≤k∧k < (S (i + 1)).h.next
def Lv (S : Nat→SD) (L : Nat→Prop) (s k : Nat) (b : B) : Prop:=(k < (S 0).h.next∧(S s).h.get k = some b)∨∃ i,L i∧(S i).h.next≤k∧k < (S (i + 1)).h.next∧(S (max s (i + 1))).h.get k = some b
structure Inv (P : Program) (S : Nat→SD) (ops : Array Oper) (r : List RO) (h' : H) (n : Nat) (ds : List Nat) (A : Nat→Prop) (ρ : Nat→Nat) (w : World) (L : Nat→Prop) (s : Nat) (ρ1 : Nat→Nat) (a : Act) (w1 : World) : Prop where
 cl : ∀ i ro q,L i→r[i]? = some ro→ro.pre.testBit q = true→L q
 lN : ∀ i,L i→i < r.length
 s0 : s≤r.length
 sl : ∀ i,i < s→(S (i + 1)).wr = true→L i
 sr : ∀ i,s≤i→i < r.length→(S (i + 1)).wr = true→¬ L i
 tmv : ∀ t,(∃ i o,L i∧ops[i]? = some o∧o.dst = some t∧(∀ i' o',L i'→i < i'→ops[i']? = some o'→o'.dst ≠ some t)∧VR P (AL A S L) ρ1 w1 (S (i + 1)).v (a.tmps.getD t undef)) ∨
  ((∀ i o,L i→ops[i]? = some o→o.dst ≠ some t)∧VR P (AL A S L) ρ1 w1 (CO.ev (S 0).tm (CO.t t)) (a.tmps.getD t undef))
 sz : a.tmps.size = n
 df : a.defers = ds.map (coll ρ)
 blk : ∀ k b,Lv S L s k b→ρ1 k < w1.heap.size∧BR P (AL A S L) ρ1 w1 (ρ1 k) b
 inj : ∀ k b k' b',Lv S L s k b→Lv S L s k' b'→ρ1 k = ρ1 k'→k = k'
 lt : Lt w w1
 fr : ∀ b,b < w.heap.size→(∀ k,(S 0).h.live k→h'.low≤k→ρ k ≠ b)→w1.heap[b]? = w.heap[b]?
 rho : ∀ k,(k < (S 0).h.next∨h'.next≤k)→ρ1 k = ρ k
 new : ∀ k b,Lv S L s k b→(S 0).h.next≤k→w.heap.size≤ρ1 k∨∃ i,(S 0).h.live i∧h'.low≤i∧ρ1 k = ρ i
theorem tm_at (t : Trace rec r tm h tm' h' S) (st : Stat P n ops r) (hn : n < 1000000) (u : Nat) : ∀ j, j ≤ r.length → (∃ i o, i < j ∧ ops[i]? = some o ∧ o.dst = some u ∧ (∀ i' o', i' < j → i < i' → ops[i']? = some o' → o'.dst ≠ some u) ∧ CO.ev (S j).tm (CO.t u) = (S (i + 1)).v) ∨
    ((∀ i o, i < j → ops[i]? = some o → o.dst ≠ some u) ∧ CO.ev (S j).tm (CO.t u) = CO.ev (S 0).tm (CO.t u))
  | 0, _ => .inr ⟨fun i o hi => by omega, rfl⟩
  | j + 1, hj => by
    have hjo : j < ops.size := by rw [← st.len]; omega
    obtain ⟨o, ho⟩ : ∃ o, ops[j]? = some o := ⟨_, Array.getElem?_eq_getElem hjo⟩
    obtain ⟨g, p, hr, hdst, _⟩ := st.row j o ho
    have ht := (t.cases hr).1
    have ih := tm_at t st hn u j (by omega)
    by_cases hd : o.dst = some u
    · refine .inl ⟨j, o, by omega, ho, hd, fun i' o' h1 h2 => by omega, ?_⟩
      have hu : u < n := by rw [hd] at hdst; simpa [dstOk, Nat.blt_eq] using hdst
      rw [ht]
      simp only [putO, hd]
      rw [ev_put (t := u) (by omega), if_pos rfl]
    · have hsame : CO.ev (S (j + 1)).tm (CO.t u) = CO.ev (S j).tm (CO.t u) := by
        rw [ht]
        cases hdd : o.dst with
        | none => rfl
        | some v =>
          have hv : v < n := by rw [hdd] at hdst; simpa [dstOk, Nat.blt_eq] using hdst
          simp only [putO]
          rw [ev_put (t := v) (Nat.lt_trans hv hn), if_neg (fun e => hd (by rw [hdd, e]))]
      rcases ih with ⟨i, o', h1, h2, h3, h4, h5⟩ | ⟨h1, h2⟩
      · refine .inl ⟨i, o', by omega, h2, h3, fun i' o'' k1 k2 k3 => ?_, by rw [hsame, h5]⟩
        rcases Nat.lt_succ_iff_lt_or_eq.1 k1 with k | k
        · exact h4 i' o'' k k2 k3
        · subst k; rw [ho] at k3; simp only [Option.some.injEq] at k3; rw [← k3]; exact hd
      · refine .inr ⟨fun i o' k1 k2 => ?_, by rw [hsame, h2]⟩
        rcases Nat.lt_succ_iff_lt_or_eq.1 k1 with k | k
        · exact h1 i o' k k2
        · subst k; rw [ho] at k2; simp only [Option.some.injEq] at k2; rw [← k2]; exact hd
section
variable (t : Trace rec r tm h tm' h' S) (st : Stat P n ops r) (hg : RecGd rec) (f : Wf h)
theorem Inv.slots (I : Inv P S ops r h' n ds A ρ w L s ρ1 a w1) (t : Trace rec r tm h tm' h' S) (st : Stat P n ops r) (hn : n < 1000000) {o : Oper} {ro : RO} (ho : ops[j]? = some o) (hr : r[j]? = some ro) (hj : ¬ L j) (hpre : ∀ q, ro.pre.testBit q = true → L q) : ∀ u, u ∈ looks ops o → VR P (AL A S L) ρ1 w1 (CO.ev (S j).tm (CO.t u)) (a.tmps.getD u undef) := fun u hu => by
  have hjl : j < r.length := (List.getElem?_eq_some_iff.1 hr).1
  have later : ∀ i o', L i → j < i → ops[i]? = some o' → o'.dst ≠ some u := fun i o' hL hji hi hd => by
    obtain ⟨ro', hro'⟩ : ∃ ro', r[i]? = some ro' := ⟨_, List.getElem?_eq_getElem (I.lN i hL)⟩
    exact hj (I.cl i ro' j hL hro' (st.tmp j i o o' ro' u hji ho hi hro' (.inr (.inl ⟨hd, hu⟩))))
  rcases tm_at t st hn u j (by omega) with ⟨i, o', h1, h2, h3, h4, h5⟩ | ⟨h1, h2⟩
  · have hLi : L i := hpre i (st.tmp i j o' o ro u h1 h2 ho hr (.inl ⟨h3, hu⟩))
    rw [h5]
    rcases I.tmv u with ⟨i', o'', k1, k2, k3, k4, k5⟩ | ⟨k1, k2⟩
    · have : i' = i := by
        rcases Nat.lt_trichotomy i i' with e | e | e
        · exfalso
          rcases Nat.lt_trichotomy i' j with e2 | e2 | e2
          · exact h4 i' o'' e2 e k2 k3
          · exact hj (e2 ▸ k1)
          · exact later i' o'' k1 e2 k2 k3
        · exact e.symm
        · exact absurd h3 (k4 i o' hLi e h2)
      subst this; exact k5
    · exact absurd h3 (k1 i o' hLi h2)
  · rw [h2]
    rcases I.tmv u with ⟨i', o'', k1, k2, k3, k4, k5⟩ | ⟨k1, k2⟩
    · exfalso
      rcases Nat.lt_trichotomy i' j with e2 | e2 | e2
      · exact h1 i' o'' e2 k2 k3
      · exact hj (e2 ▸ k1)
      · exact later i' o'' k1 e2 k2 k3
    · exact k2
theorem Inv.quiet (I : Inv P S ops r h' n ds A ρ w L s ρ1 a w1) (t : Trace rec r tm h tm' h' S) {ro : RO} (hr : r[j]? = some ro) (hj : ¬ L j) (hpre : ∀ q,ro.pre.testBit q = true→L q) (hrd : (S (j + 1)).rd = true) :
  (∀ i,s≤i→i < j→(S (i + 1)).wr = false)∧(∀ i,j≤i→i < s→(S (i + 1)).wr = false):=by
 have hjl : j < r.length:=(List.getElem?_eq_some_iff.1 hr).1
 refine ⟨fun i h1 h2=>?_,fun i h1 h2=>?_⟩
 ·cases hw : (S (i + 1)).wr with
  | false=>rfl
  | true=>exact absurd (hpre i (t.bound h2 hr (.inl ⟨hw,hrd⟩))) (I.sr i h1 (by omega) hw)
 ·cases hw : (S (i + 1)).wr with
  | false=>rfl
  | true =>
   exfalso
   have hLi:=I.sl i h2 hw
   have hne : i ≠ j:=fun e=>hj (e ▸ hLi)
   obtain ⟨ro',hro'⟩ : ∃ ro',r[i]? = some ro':=⟨_,List.getElem?_eq_getElem (I.lN i hLi)⟩
   exact hj (I.cl i ro' j hLi hro' (t.bound (by omega) hro' (.inr ⟨hrd,hw⟩)))
theorem stage_old (t : Trace rec r tm h tm' h' S) (hg : RecGd rec) (f : Wf h) {x y k : Nat} (hxy : x≤y) (hy : y≤r.length) (hk : k < (S x).h.next) (hw : ∀ i,x≤i→i < y→(S (i + 1)).wr = false) : (S y).h.get k = (S x).h.get k :=
 stay hxy fun i h1 h2=>t.keepW hg f (by omega) (hw i h1 h2) (Nat.lt_of_lt_of_le hk (t.mono hg f h1 (by omega)))
end
end CI
end Go.Proofs.YtcgjmdpcplhanaaGreat
