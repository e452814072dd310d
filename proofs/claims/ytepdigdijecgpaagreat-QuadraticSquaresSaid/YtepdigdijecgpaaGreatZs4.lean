/- Lemmas for the law: Q25 W20 Q26 QF Q28 F6 F10 F11 M27 F18 M28 F19 -/
import Derived.Test.YtepdigdijecgpaaGreatZs3
namespace Go.Proofs.YtepdigdijecgpaaGreat
section
abbrev eD:=@Int.ofNat_eq_natCast
abbrev dV:=@Int.negSucc_eq
abbrev lh:=@Array.ext'
abbrev ru:=@Nat.exists_eq_add_of_le
abbrev lg:=@Nat.succ_mul
abbrev od:=@Nat.lt_succ_self
abbrev gT:=@List.map_append
theorem zb1{p:Prop}(h:p:=by(first|(apply Co;(exact rfl);(focus((apply aw;(conv=>lhs;whnf);(first|done|exact rfl))));(kernel_rfl))|(apply d_len_ownm;(exact rfl);(focus((apply aw;(conv=>lhs;whnf);(first|done|exact rfl))));(focus((repeat(first|exact ba|refine bh _ ?_))));(kernel_rfl))|(apply d_len;(exact rfl);(focus((apply aw;(conv=>lhs;whnf);(first|done|exact rfl))));(kernel_rfl))|(apply d_len_own;(exact rfl);(focus((apply aw;(conv=>lhs;whnf);(first|done|exact rfl))));(focus((repeat(first|exact ba|refine bh _ ?_))));(kernel_rfl))|(apply d_len0;(exact rfl);(focus((apply aw;(conv=>lhs;whnf);(first|done|exact rfl))));(kernel_rfl)))):p:=h
theorem uD{p q:Prop}(h:q)(f:Wq q->p:=by(intro hW;(refine aL1 rfl rfl rfl zb1 ?_);exact hW.out)):p:=f ⟨h⟩
theorem pw{p q:Prop}(h:q)(f:Wq q->p:=by(intro hW;(refine cZ ?_;refine uD ?_;refine zs4 ?_;refine aS ?_);exact hW.out)):p:=f ⟨h⟩
theorem zs14{p q:Prop}(h:q)(f:Wq q->p:=by(intro hW;((apply Cv;(focus(first|(apply aw;(conv=>lhs;whnf);(first|done|exact rfl))|with_reducible exact bD|with_reducible exact gF|with_reducible exact jZ|exact op_zero));(focus(first|with_reducible rfl|(apply aF;omega)|assumption|(simp<;>omega)))));exact hW.out)):p:=f ⟨h⟩
theorem aX{p q:Prop}(h:q)(f:Wq q->p:=by(intro hW;(refine zs1 ?_;refine zs14 ?_;refine zs1 ?_);exact hW.out)):p:=f ⟨h⟩
theorem uF{p q:Prop}(h:q)(f:Wq q->p:=by(intro hW;(refine aL1 rfl rfl rfl (by(first|(apply vO;(exact rfl);(focus((apply aw;(conv=>lhs;whnf);(first|done|exact rfl))));(focus((apply aw;(conv=>lhs;whnf);(first|done|exact rfl))));(omega))|(apply bZ;(exact rfl);(focus((apply aw;(conv=>lhs;whnf);(first|done|exact rfl))));(focus((apply aw;(conv=>lhs;whnf);(first|done|exact rfl))));(exact rfl)))) ?_);exact hW.out)):p:=f ⟨h⟩
theorem zs27{p q:Prop}(h:q)(f:Wq q->p:=by(intro hW;((refine xW rfl rfl rfl rfl rn rn rp bW zb16 aD aD (by(simp only[bu,eu,gU];omega)) pG zb27 ?_));exact hW.out)):p:=f ⟨h⟩
theorem zb6{p:Prop}(h:p:=by(apply qg;(exact rfl);(focus((apply aw;(conv=>lhs;whnf);(first|done|exact rfl))));(focus((apply aw;(conv=>lhs;whnf);(first|done|exact rfl))));(focus((apply aw;(conv=>lhs;whnf);(first|done|exact rfl))));(exact rfl);(exact rfl);(exact rfl);(assumption);(exact rfl))):p:=h
theorem zs23{p q:Prop}(h:q)(f:Wq q->p:=by(intro hW;(refine aL1 rfl rfl rfl zb6 ?_);exact hW.out)):p:=f ⟨h⟩
theorem zb31{p:Prop}(h:p:=by(apply cj;(conv=>lhs;whnf);(first|done|exact rfl))):p:=h
theorem rf{p:Prop}(h:p:=by simp only[];omega):p:=h
theorem zb13{p:Prop}(h:p:=by first|with_reducible rfl|exact oJ aa|exact oJ rf|exact oJ aO|(apply oJ;omega)|(apply bO;(first|(apply aN;omega)|(apply aF;omega)|(simp<;>omega)))):p:=h
theorem zb5{p:Prop}(h:p:=by(repeat(first|exact Ad|refine yj zb31 zb13 ?_))):p:=h
theorem uM{p:Prop}(h:p:=by simp only[eD,dV];omega):p:=h
theorem zs74{p q:Prop}(h:q)(f:Wq q->p:=by(intro hW;(refine cZ ?_;refine zs4 ?_;refine aS ?_);exact hW.out)):p:=f ⟨h⟩
theorem gL{p q:Prop}(h:q)(f:Wq q->p:=by(intro hW;(refine zs1 ?_;refine zs74 ?_);exact hW.out)):p:=f ⟨h⟩
theorem np{p q:Prop}(h:q)(f:Wq q->p:=by(intro hW;(refine aL1 rfl rfl rfl (by(first|(apply zM;(exact rfl);(focus((apply aw;(conv=>lhs;whnf);(first|done|exact rfl))));(focus((apply aw;(conv=>lhs;whnf);(first|done|exact rfl))));(omega))|(apply bZ;(exact rfl);(focus((apply aw;(conv=>lhs;whnf);(first|done|exact rfl))));(focus((apply aw;(conv=>lhs;whnf);(first|done|exact rfl))));(exact rfl)))) ?_);exact hW.out)):p:=f ⟨h⟩
theorem nq{p q:Prop}(h:q)(f:Wq q->p:=by(intro hW;(refine aL1 rfl rfl rfl (by(apply kT;(exact rfl);(exact bD))) ?_);exact hW.out)):p:=f ⟨h⟩
theorem zs72{p q:Prop}(h:q)(f:Wq q->p:=by(intro hW;(refine gar ?_;refine nq ?_;refine aS ?_);exact hW.out)):p:=f ⟨h⟩
theorem cB{p q:Prop}(h:q)(f:Wq q->p:=by(intro hW;(refine zs72 ?_;refine zs1 ?_);exact hW.out)):p:=f ⟨h⟩
theorem zb39{p:Prop}(h:p:=by rw[D.out.2.2.2];exact fG _ _):p:=h
theorem zb25{p:Prop}(h:p:=by rw[<-HQ.out];exact dJ D.out.2.2.1 H1.out.nf.dg zb39):p:=h
theorem bR{p:Prop}(h:p:=by(repeat(first|exact yi|(apply wI;(focus(repeat(first|exact ba|refine bh _ ?_))))))):p:=h
theorem zb7{p:Prop}(h:p:=by(first|(apply bZ;(exact rfl);(focus((apply aw;(conv=>lhs;whnf);(first|done|exact rfl))));(exact bD);(exact rfl))|(apply d_eqb;(exact rfl);(focus((apply aw;(conv=>lhs;whnf);(first|done|exact rfl))));(exact bD);(kernel_rfl)))):p:=h
theorem uE{p q:Prop}(h:q)(f:Wq q->p:=by(intro hW;(refine aL1 rfl rfl rfl zb7 ?_);exact hW.out)):p:=f ⟨h⟩
theorem nj{p q:Prop}(h:q)(f:Wq q->p:=by(intro hW;(refine bN ?_;refine uE ?_;refine aS ?_);exact hW.out)):p:=f ⟨h⟩
theorem ra{p q:Prop}(h:q)(f:Wq q->p:=by(intro hW;(refine aL1 rfl rfl rfl (by(first|(apply zM;(exact rfl);(focus((apply aw;(conv=>lhs;whnf);(first|done|exact rfl))));(exact bD);(omega))|(apply bZ;(exact rfl);(focus((apply aw;(conv=>lhs;whnf);(first|done|exact rfl))));(exact bD);(exact rfl)))) ?_);exact hW.out)):p:=f ⟨h⟩
theorem zs79{p q:Prop}(h:q)(f:Wq q->p:=by(intro hW;(refine bN ?_;refine ra ?_;refine fQ ?_);exact hW.out)):p:=f ⟨h⟩
theorem cL{p q:Prop}(h:q)(f:Wq q->p:=by(intro hW;(refine zs79 ?_;refine zs1 ?_);exact hW.out)):p:=f ⟨h⟩
theorem uG{p q:Prop}(h:q)(f:Wq q->p:=by(intro hW;(refine aL1 rfl rfl rfl (by(first|(apply xM;(exact rfl);(focus((apply aw;(conv=>lhs;whnf);(first|done|exact rfl))));(focus((apply aw;(conv=>lhs;whnf);(first|done|exact rfl))));(exact rfl);(exact rfl);(focus(apply tJ;(try simp only[]);omega)))|(apply xL;(exact rfl);(focus((apply aw;(conv=>lhs;whnf);(first|done|exact rfl))));(focus((apply aw;(conv=>lhs;whnf);(first|done|exact rfl))));(omega))|(apply vN;(exact rfl);(focus((apply aw;(conv=>lhs;whnf);(first|done|exact rfl))));(focus((apply aw;(conv=>lhs;whnf);(first|done|exact rfl))));(omega))|(apply sQ;(exact rfl);(focus((apply aw;(conv=>lhs;whnf);(first|done|exact rfl))));(focus((apply aw;(conv=>lhs;whnf);(first|done|exact rfl))));(focus(first|omega|decide))))) ?_);exact hW.out)):p:=f ⟨h⟩
theorem zb26{p:Prop}(h:p:=by(repeat(first|exact drop_nil|apply yZ|(apply xG;(exact rfl))))):p:=h
theorem zs76{p q:Prop}(h:q)(f:Wq q->p:=by(intro hW;(refine cZ ?_;refine np ?_;refine zs3 ?_;refine zs3 ?_;refine np ?_;refine uF ?_;refine zs3 ?_;refine zs4 ?_;refine aS ?_);exact hW.out)):p:=f ⟨h⟩
theorem zb2{p:Prop}(h:p:=by(first|(apply pe;(exact rfl);(focus((apply aw;(conv=>lhs;whnf);(first|done|exact rfl))));(focus((apply aw;(conv=>lhs;whnf);(first|done|exact rfl))));(kernel_rfl);(kernel_rfl);(omega);(focus((first|(apply get_map;assumption)|(apply get_own;assumption)))))|(apply d_index_own;(exact rfl);(focus((apply aw;(conv=>lhs;whnf);(first|done|exact rfl))));(focus((apply aw;(conv=>lhs;whnf);(first|done|exact rfl))));(focus((repeat(first|exact ba|refine bh _ ?_))));(kernel_rfl);(kernel_rfl);(focus(first|omega|(simp;omega)));(focus(first|(apply offs_nat;assumption)|exact rfl))))):p:=h
theorem qZ{p q:Prop}(h:q)(f:Wq q->p:=by(intro hW;(refine aL1 rfl rfl rfl zb2 ?_);exact hW.out)):p:=f ⟨h⟩
theorem zb0{p:Prop}(h:p:=by(first|(apply xO;(exact rfl);(focus((apply aw;(conv=>lhs;whnf);(first|done|exact rfl))));(exact rfl);(focus((first|exact jg|exact je|exact wd_nm|exact wd_pt|exact rfl)));(exact rfl);(kernel_rfl);(kernel_rfl))|(apply d_load_own;(exact rfl);(focus((apply aw;(conv=>lhs;whnf);(first|done|exact rfl))));(focus((repeat(first|exact ba|refine bh _ ?_))));(exact get_one);(exact rfl);(exact rfl);(focus((first|exact jg|exact je|exact wd_nm|exact wd_pt|exact rfl)));(exact rfl);(kernel_rfl);(kernel_rfl))|(apply d_load_ownO;(exact rfl);(focus((apply aw;(conv=>lhs;whnf);(first|done|exact rfl))));(focus((repeat(first|exact ba|refine bh _ ?_))));(exact rfl);(focus((first|exact get_one|(apply get_map1;assumption)|assumption|exact rfl)));(exact rfl);(focus((first|exact jg|exact je|exact wd_nm|exact wd_pt|exact rfl)));(exact rfl);(kernel_rfl);(kernel_rfl))|(apply d_load_row;(exact rfl);(focus((apply aw;(conv=>lhs;whnf);(first|done|exact rfl))));(focus((repeat(first|exact ba|refine bh _ ?_))));(exact rfl);(focus(first|(apply offs_nat;assumption)|exact rfl));(assumption);(kernel_rfl);(kernel_rfl)))):p:=h
theorem pA{p q:Prop}(h:q)(f:Wq q->p:=by(intro hW;(refine aL1 rfl rfl rfl zb0 ?_);exact hW.out)):p:=f ⟨h⟩
theorem zb9{p:Prop}(h:p:=by(first|(apply zL;(exact rfl);(focus((apply aw;(conv=>lhs;whnf);(first|done|exact rfl))));(exact bD);(omega))|(apply bZ;(exact rfl);(focus((apply aw;(conv=>lhs;whnf);(first|done|exact rfl))));(exact bD);(exact rfl)))):p:=h
theorem zs22{p q:Prop}(h:q)(f:Wq q->p:=by(intro hW;(refine aL1 rfl rfl rfl zb9 ?_);exact hW.out)):p:=f ⟨h⟩
theorem zs20{p q:Prop}(h:q)(f:Wq q->p:=by(intro hW;(refine aL1 rfl rfl rfl (by(apply d_lit;(exact rfl);(focus((apply aw;(conv=>lhs;whnf);(first|done|exact rfl))));(exact rfl);(focus((first|exact jg|exact je|exact wd_nm|exact wd_pt|exact rfl)));(kernel_rfl);(kernel_rfl);(exact rfl);(exact rfl))) ?_);exact hW.out)):p:=f ⟨h⟩
theorem kd{p q:Prop}(h:q)(f:Wq q->p:=by(intro hW;(refine bN ?_;refine fQ ?_);exact hW.out)):p:=f ⟨h⟩
theorem zs21{p q:Prop}(h:q)(f:Wq q->p:=by(intro hW;(refine aL1 rfl rfl rfl (by(apply Bd;(exact rfl);(focus((apply aw;(conv=>lhs;whnf);(first|done|exact rfl))));(exact rfl);(assumption);(exact rfl))) ?_);exact hW.out)):p:=f ⟨h⟩
theorem ke{p q:Prop}(h:q)(f:Wq q->p:=by(intro hW;(refine zs1 ?_;refine pw ?_;refine aX ?_);exact hW.out)):p:=f ⟨h⟩
theorem zb24{p:Prop}(h:p:=by(repeat(first|exact yr|(apply wQ;(exact rfl))|apply yt|apply shut_pt))):p:=h
theorem zb17{p:Prop}(h:p:=by(apply bZ;(exact rfl);(focus((apply aw;(conv=>lhs;whnf);(first|done|exact rfl))));(exact bD);(exact rfl))):p:=h
theorem nk{p q:Prop}(h:q)(f:Wq q->p:=by(intro hW;(refine aL1 rfl rfl rfl zb17 ?_);exact hW.out)):p:=f ⟨h⟩
theorem px{p q:Prop}(h:q)(f:Wq q->p:=by(intro hW;(refine bN ?_;refine nk ?_;refine aS ?_);exact hW.out)):p:=f ⟨h⟩
theorem uH{p q:Prop}(h:q)(f:Wq q->p:=by(intro hW;(refine aL1 rfl rfl rfl (by(first|(apply(xM (c:=2));(exact rfl);(focus((apply aw;(conv=>lhs;whnf);(first|done|exact rfl))));(exact bD);(exact rfl);(exact rfl);(focus(apply tJ;(try simp only[]);omega)))|(apply xL;(exact rfl);(focus((apply aw;(conv=>lhs;whnf);(first|done|exact rfl))));(exact bD);(omega))|(apply vN;(exact rfl);(focus((apply aw;(conv=>lhs;whnf);(first|done|exact rfl))));(exact bD);(omega))|(apply sQ;(exact rfl);(focus((apply aw;(conv=>lhs;whnf);(first|done|exact rfl))));(exact bD);(focus(first|omega|decide))))) ?_);exact hW.out)):p:=f ⟨h⟩
end
section
open Go.RowKit
namespace CI
variable {P : Program} {h h' : H} {tm tm' : Tm} {rec : Rec} {n : Nat} {r : List RO} {S : Nat->SD} {ops : Array Oper} {A : Nat->Prop} {ρ ρ1 ρ2 : Nat->Nat} {w w1 w2 : World} {a : Act} {ds : List Nat} {L : Nat->Prop} {s : Nat->Nat} {j : Nat} {o : Oper} {ro : RO} {G h1 : H} {E : Env}
theorem vL(w:World):Below w.heap.size w {w with drawn:=w.drawn+1}:=(Below.refl _ w).drew
theorem xC(t:Trace rec r tm h tm' h' S)(tR:Rel P A ρ w h)(hf:Fr P A ρ w n ds tm a):Inv P S ops r h' n ds A ρ w (fun _=>False) (fun _=>0) ρ a {w with drawn:=w.drawn+1}:=by
 have hlt:=Lt.below (vL w);have hA:∀k,A k->AL A S (fun _=>False) k:=fun k hk=>.inl hk;have hmo:Mo A (AL A S fun _=>False) ρ ρ:=⟨hA,fun _ _=>rfl⟩;have hlv:∀k b,Lv S (fun _=>False) (fun _=>0) k b->h.get k=some b:=fun k b e=>by
  rcases e with⟨_,e⟩|⟨_,e,_⟩
  ·rw[t.h0]at e;exact e
  ·exact e.elim
 refine⟨fun _ _ _ e=>e.elim,fun _ e=>e.elim,fun _=>aZ _,fun k i hi=>by omega,fun _ _ _ _ _ e=>e,fun u=>.inr ⟨fun _ _ e=>e.elim,?_⟩,hf.sz,hf.df,fun k b e=>?_,fun k b k' b' e e' hk=>?_,hlt,fun b _ _=>rfl,fun _ _=>rfl,fun k b e hk=>?_⟩
 ·rw[t.tm0];exact VR.mo hmo hlt _ _ (hf.tr u)
 ·obtain⟨_,_,b1,b2⟩:=tR.blk k b (hlv k b e);exact⟨b1,b2.mo hmo hlt rfl⟩
 ·exact tR.inj k k' (aG (hlv k b e)) (aG (hlv k' b' e')) hk
 ·have:=(tR.blk k b (hlv k b e)).1;rw[t.h0]at hk;omega
theorem A6{a0:Act}(I:Inv P S ops r h' n ds A ρ w L s ρ1 a w1)(t:Trace rec r tm h tm' h' S)(st:Stat P n ops r)(hg:cF rec)(f:Wf h)(hn:n<1000000)(hall:∀i,i<r.length->L i)(tR:Rel P A ρ w h)(hd:Dj A h h')(hf:Fr P A ρ w n ds tm a0):bc P A ρ w h ρ1 w1 h'/\Fr P (Ext A h h') ρ1 w1 n ds tm' a:=by
 have hAL:∀k,AL A S L k->Ext A h h' k:=fun k hk=>by
  rcases hk with hk|⟨i,hi,a1,a2⟩
  ·exact .inl hk
  ·have m1:=t.mono hg f (aZ i) (cC (I.lN i hi));have m2:=t.mono hg f (show i+1<=r.length from I.lN i hi) (ai _);rw[t.h0]at m1;rw[t.hN]at m2;exact .inr aa
 have hmo:Mo (AL A S L) (Ext A h h') ρ1 ρ1:=⟨hAL,fun _ _=>rfl⟩;obtain⟨wfN,gN⟩:=t.gd hg f r.length (ai _);rw[t.hN]at wfN gN;have hq:∀k i,s k<=i->i<r.length->(S (i+1)).wk k=false:=fun k i h1 h2=>by
  cases hw:(S (i+1)).wk k with
  |false=>rfl
  |true=>exact absurd (hall i h2) (I.sr k i h1 h2 hw)
 have hlv:∀k b,h'.get k=some b->Lv S L s k b:=fun k b e=>by
  by_cases hk:k<(S 0).h.next
  ·refine .inl ⟨hk,?_⟩;rw[<-dY t hg f (I.s0 k) (ai _) (aH hk (t.mono hg f (aZ _) (I.s0 k))) (hq k),t.hN];exact e
  ·have hkN:k<(S r.length).h.next:=by rw[t.hN];exact wfN.lt k b (ew e)
   obtain⟨q,hq1,a1,a2⟩:=t.owner (cq hk) hkN;refine .inr ⟨q,hall q hq1,a1,a2,?_⟩;have hs0:=I.s0 k;rw[<-dY t hg f (x:=max (s k) (q+1)) (y:=r.length) aa (ai _) (aH a2 (t.mono hg f aa aa)) (fun i i1 i2=>hq k i aa i2),t.hN];exact e
 refine⟨⟨fun k hk=>I.rho k (by rw[t.h0];exact hk),⟨fun k b e=>?_,fun k k' hl hl' hk=>?_,wfN.bd⟩,I.lt,fun b hb hx=>I.fr b hb (by rw[t.h0];exact hx),fun k hk hl=>?_⟩,⟨fun u=>?_,I.sz,fun k hk=> .inl (hf.nm k hk),?_⟩⟩
 ·obtain⟨b1,b2⟩:=I.blk k b (hlv k b e);have hAk:AL A S L k:=by
   rcases hlv k b e with⟨hk,e2⟩|⟨i,hi,a1,a2,_⟩
   ·rw[t.h0]at hk;exact .inl (tR.live (gN.good.back hk (aG e))).2.1
   ·exact .inr ⟨i,hi,a1,a2⟩
  exact⟨wfN.lt k b (ew e),hAL k hAk,b1,b2.mo hmo (Lt.refl _) rfl⟩
 ·obtain⟨b,eb⟩:=bH.1 hl;obtain⟨b',eb'⟩:=bH.1 hl';exact I.inj k b k' b' (hlv k b eb) (hlv k' b' eb') hk
 ·obtain⟨b,eb⟩:=bH.1 hl;have:=I.new k b (hlv k b eb) (by rw[t.h0];exact hk);rwa[t.h0]at this
 ·refine VR.mo hmo (Lt.refl _) _ _ ?_;rw[<-t.tmN];have hlo:∀{i:Nat} {o:Oper},ops[i]?=some o->i<r.length:=fun ho=>by rw[st.len];exact(ft.1 ho).1
  rcases vk t st hn u r.length (ai _)with⟨i,o',h1,h2,h3,h4,h5⟩|⟨h1,h2⟩
  ·rw[h5];rcases I.tmv u with⟨i',o'',k1,k2,k3,k4,k5⟩|⟨k1,k2⟩
   ·have : i' = i := by
     rcases iY i i' with e|e|e
     ·exact absurd k3 (h4 i' o'' (hlo k2) e k2)
     ·exact e.symm
     ·exact absurd h3 (k4 i o' (hall i h1) e h2)
    subst this;exact k5
   ·exact absurd h3 (k1 i o' (hall i h1) h2)
  ·rw[h2];rcases I.tmv u with⟨i',o'',k1,k2,k3,k4,k5⟩|⟨k1,k2⟩
   ·exact absurd k3 (h1 i' o'' (hlo k2) k2)
   ·exact k2
 ·rw[I.df];exact oe fun k hk=>by
   unfold lY;rw[I.rho k (by rw[t.h0];exact hd k (hf.nm k hk))]
theorem Cu(hrec:gA P rec)(hg:cF rec)(t:Trace rec r tm h tm' h' S)(st:Stat P n ops r)(f:Wf h)(hn:n<1000000){F:Fence}(hF:FC F){Q:Exit->Act->World->Prop}{a0:Act}(tR:Rel P A ρ w h)(hd:Dj A h h')(hf:Fr P A ρ w n ds tm a0)
  (hq:∀ρ' w' a',bc P A ρ w h ρ' w' h'->Fr P (Ext A h h') ρ' w' n ds tm' a'->Q .normal a' w'):∀(fuel:Nat) (listed:Array Bool) (a:Act) (w1:World) (s:Nat->Nat) (ρ1:Nat->Nat) (U:List Nat),listed.size=ops.size->U.length<=fuel->(∀i,i<ops.size->listed.getD i false=false->i∈U)->
   Inv P S ops r h' n ds A ρ w (fun i=>listed.getD i false=true) s ρ1 a w1->wpAnyIn F 0 P .any ops Q fuel listed a w1:=by
 have hsz:=st.len;have done:∀(listed:Array Bool) (a:Act) (w1:World) (s:Nat->Nat) (ρ1:Nat->Nat),(∀i,i<ops.size->listed.getD i false=true)->Inv P S ops r h' n ds A ρ w (fun i=>listed.getD i false=true) s ρ1 a w1->Q .normal a w1:=fun listed a w1 s ρ1 hall I=>by
  obtain⟨p,fr⟩:=A6 I t st hg f hn (fun i hi=>hall i aa) tR hd hf;exact hq ρ1 w1 a p fr
 have unl:∀(listed:Array Bool) (j:Nat),listed.size=ops.size->listed.getD j true=false->j<ops.size/\listed.getD j false=false:=fun listed j hs hl=>by
  rw[ct]at hl
  cases e:listed[j]? with
  |none=>rw[e]at hl;simp at hl
  |some b=>
   rw[e]at hl;have hlt:=(ft.1 e).1;refine⟨by omega,?_⟩;rw[ct,e];simpa using hl
 intro fuel
 induction fuel with
 |zero=>
  intro listed a w1 s ρ1 U hs hU hin I;have hUn:U=[]:=fS aa;subst hUn;have hall:∀i,i<ops.size->listed.getD i false=true:=fun i hi=>by
   cases hb:listed.getD i false with
   |true=>rfl
   |false=>exact absurd (hin i hi hb) aO
  refine⟨?_,done listed a w1 s ρ1 hall I⟩
  cases hr:Region.ready .any ops listed with
  |nil=>rfl
  |cons x xs=>
   exfalso;have hx:x∈Region.ready .any ops listed:=by rw[hr];exact ba
   obtain⟨h1,h2⟩:=unl listed x hs (mem_ready.1 hx).1;rw[hall x h1]at h2;cases h2
 |succ fuel ih=>
  intro listed a w1 s ρ1 U hs hU hin I;refine⟨fun hr=>?_,fun j hj=>?_⟩
  ·refine done listed a w1 s ρ1 (fun i=>?_) I
   induction i using Nat.strongRecOn with
   |_ i ihi=>
    intro hi
    cases hb:listed.getD i false with
    |true=>rfl
    |false=>
     exfalso;have hmem:i∈Region.ready .any ops listed:=by
      refine mem_ready.2 ⟨?_,ops[i],lj hi,fun e he hbd=>?_⟩
      ·have e:=lj (xs:=listed) (i:=i) aa;rw[ct,e]at hb⊢;simpa using hb
      ·have hlt:=st.edge i ops[i] e (lj hi) (by simpa using he) hbd;exact ihi e.on hlt aa
     rw[hr]at hmem;cases hmem
  ·obtain⟨h1,o,ho,h3⟩:=mem_ready.1 hj;obtain⟨hjs,hjl⟩:=unl listed j hs h1;obtain⟨ro,G,h1',hr,hdst,_,sg⟩:=Ae hrec hg t st f ho;have hpre:∀q,ro.pre.testBit q=true->listed.getD q false=true:=fun q hq=>by
    obtain⟨e,he,hbd,hx⟩:=st.pre j o ro q ho hr hq;have hl:=h3 e (by simpa using he) hbd;rcases hx with hx|⟨ro',hr',hq'⟩
    ·rw[<-hx];exact hl
    ·exact I.cl e.on ro' q hl hr' hq'
   have M:ig rec P S ops r tm h tm' h' n A (fun i=>listed.getD i false=true) j o ro G h1':=⟨t,st,hg,f,hn,ho,hr,by simp only[hjl];simp,hpre,hdst,sg,hd,fun k hk=>(tR.live hk).2.1⟩;refine sg.wp F hF Q _ _ ρ1 w1 a (I.rel M) (I.dj M) (I.slots t st hn ho hr M.hj hpre) fun u w2 ρ2 p hu=>?_;have I2:=I.step M p hu;have hset:∀i,(listed.setIfInBounds j true).getD i false=true↔(listed.getD i false=true\/i=j):=fun i=>by
    by_cases e:i=j
    ·subst e;simp[ct,lk,show i<listed.size by omega]
    ·simp[ct,Array.getElem?_setIfInBounds_ne (Ne.symm e),e]
   have hfun:(fun i=>listed.getD i false=true\/i=j)=(fun i=>(listed.setIfInBounds j true).getD i false=true):=funext fun i=>propext (hset i).symm;rw[hfun]at I2;have hjU:j∈U:=hin j hjs hjl;refine ih _ _ _ _ _ (U.erase j) (by simp[hs]) (by rw[List.length_erase_of_mem hjU];omega) (fun i hi hb=>?_) I2;have hne:i≠j:=fun e=>by
    have:=(hset i).2 (.inr e);rw[this]at hb;cases hb
   have hb':listed.getD i false=false:=by
    cases hx:listed.getD i false with
    |false=>rfl
    |true=>rw[(hset i).2 (.inl hx)]at hb;cases hb
   exact(List.mem_erase_of_ne hne).2 (hin i hi hb')
theorem Ap(hmix:P.follows .mixedOrders=true)(rec:Rec)(hrec:gA P rec)(hg:cF rec):tg P rec:=by
 intro F hF Q ops id n hn r hc tm h tm' h' e f A ρ w a ds tR hd hf hq;obtain⟨S,t⟩:=ye e;have st:=Ag hc;refine wpIn_region_any hmix (Cu hrec hg t st f hn hF tR hd hf hq ops.size _ a _ (fun _=>0) ρ (List.range ops.size) aO aO (fun i hi _=>List.mem_range.2 hi) ?_);have I:=xC (ops:=ops) t tR hf;have hfun:(fun _:Nat=>False)=(fun i=>(Array.replicate ops.size false).getD i false=true):=funext fun i=>propext (by
  simp only[false_iff,ct,Array.getElem?_replicate];split<;>simp)
 rw[hfun]at I;exact I
theorem wR(hmix:P.follows .mixedOrders=true)(hO:pn P E)(hfn:E.fns=jA P){N g:Nat}(hE:Enters P g){c:C}{h':H}(e:run E N (.call (.fn g []) [] ⟨0,0,[], .e⟩)=some (.val c h'))(w:World):
  Calls P g #[] w (fun e w'=>∃u A ρ,e= .returned u/\VR P A ρ w' c u/\Rel P A ρ w' h'/\Below w.heap.size w w'):=by
 have hok:=(BG hO hfn (fun rec h1 h2=>Ap hmix rec h1 h2) N).1;have hbare:∀k,(⟨0,0,[], .e⟩:H).get k=none:=kW 0;have tR:Rel P (fun _=>False) (fun _=>0) w ⟨0,0,[], .e⟩:=⟨(fun k b e=>by rw[hbare]at e;cases e),(fun k _ hl=>by unfold H.live at hl;rw[hbare]at hl;cases hl),by simp⟩;obtain⟨d,hd,hk⟩:=hok _ _ _ _ _ e ⟨by simp,(fun k b e=>by rw[T.oY]at e;cases e)⟩ (fun _=>False) (fun _=>0) w (.func (.func g) #[] #[]) #[] tR (fun k hk=>hk.elim) (by simp only[VR,VRl];exact⟨_,rfl,rfl⟩) (by simp only[VRl]);rcases hk with⟨g',args',q1,q2⟩|⟨l,g',tmps,s,b,q0,_⟩
 ·have hkey : g' = g /\ args' = #[] := by
   obtain⟨d',r1,r2⟩:=lR hE #[] #[] w;rw[r1]at hd;simp only[Result.ok.injEq,and_true]at hd;rw[<-hd,r2]at q1;simp only[Result.ok.injEq,Next.enter.injEq,and_true]at q1;exact⟨q1.1.symm,by rw[<-q1.2];rfl⟩
  obtain⟨rfl,rfl⟩:=hkey;refine(callsIn_wide.1 q2).mono fun e' w' ⟨u,ρ',h1,p,hu⟩=>⟨u,_,ρ',h1,hu,p.rel,p.lt.os,p.lt.tape,p.lt.output,p.lt.size,fun k hk=>p.fr k hk fun j hl=>?_⟩;unfold H.live at hl;rw[hbare]at hl;cases hl
 ·cases q0
end CI
end
section
open Go.RowKit Go.BigFrame
attribute [local go_sem ↓] Go.wp_at_zero Go.wp_at_succ
theorem tD(r y:Nat):4*(r*y)<=(r+y)*(r+y):=by
 rcases Nat.le_total r y with h|h<;>obtain⟨d,rfl⟩:=Nat.le.dest h
 ·have:(r+(r+d))*(r+(r+d))=4*(r*(r+d))+d*d:=by grind
  omega
 ·have:(y+d+y)*(y+d+y)=4*((y+d)*y)+d*d:=by grind
  omega
theorem xk{a r:Nat}(hr:0<r):a<((r+a/r)/2+1)*((r+a/r)/2+1):=by
 have h1:a<r*(a/r+1):=by
  have:=gO a r;have:=dQ a hr;rw[cw,en];omega
 generalize a/r=q at*;have h2:=tD r (q+1);have h3:r+(q+1)<=2*((r+q)/2+1):=by omega
 generalize(r+q)/2+1=m at*;have h4:=bF h3 h3;have h5:2*m*(2*m)=4*(m*m):=by grind
 omega
theorem kF{a r:Nat}(h:r<=(r+a/r)/2):r*r<=a:=by
 have h1:r<=a/r:=by omega
 exact aE (fi r h1) (Nat.mul_div_le a r)
theorem tA(n:Nat):Dg.NF B32 ((List.replicate (n+1) 0).set n 1)/\Dg.vl B32 ((List.replicate (n+1) 0).set n 1)=B32^n:=by
 have e:(List.replicate (n+1) 0).set n 1=List.replicate n 0++[1]:=by
  rw[List.replicate_succ',List.set_append_right _ _ aO];simp
 rw[e];refine⟨⟨Dg.iA (Dg.eW aA _) (fun x hx=>by rw[cD.1 hx];decide),by simp⟩,?_⟩;rw[Dg.cS,Dg.nu];simp[Dg.vl]
theorem aQ.yL(W:World)(N k d:Nat)(hk:k<N):aQ (W.alloc (.cells ((madeCells #[.int .u32 0] N).setIfInBounds k (.int .u32 (d:Int))) 280)) W.heap.size ((List.replicate N 0).set k d):=by
 have h:=(aQ.made W N).set (k:=k) (by simpa using hk) d;simpa only[go_sem]using h
structure RC(wr:World)(a:Option Addr)(l:List Nat)(L k:Nat)(a1:Option Addr)(l1:List Nat)(c1:Nat):Prop where
 w0:WS wr a l
 w1:WS wr a1 l1
 n1:Dg.NF B32 l1
 h1:l1.length<=c1
 b1:l1.length<=L
 p:0<Dg.vl B32 l1
 u:Dg.vl B32 l<(Dg.vl B32 l1+1)*(Dg.vl B32 l1+1)
 k:k=Dg.vl B32 l1
def RtRes(u:Nat)(e:Ending)(w':World):Prop:=∃z r,e= .returned (.tuple #[.agg #[.bool z.s,.slice z.a z.n z.cap],.int .i64 0])/\IZ w' z ((r:Nat):Int)/\r*r<=u/\u<(r+1)*(r+1)
set_option maxRecDepth 10000 in
set_option maxHeartbeats 8000000 in
theorem yw(x:IV)(u:Int)(fu:Fit u)(hu:0<=u)(w:World)(hx:IP w x u):
  Calls Tryz.prog 338 #[.agg #[.bool x.s,.slice x.a x.n x.cap]] w fun e w'=>RtRes u.toNat e w'/\Below w.heap.size w w':=by
 obtain⟨l,h1,rfl⟩:=hx;have bl:=dv h1.nf fu;have S1:=af (fun w (h:IW w x l)=>di x l aa w h);have H1:=af h1;by_cases hl0:l=[]
 ·have hv0:Dg.iv x.s (Dg.vl B32 l)=0:=by rw[hl0];exact Dg.pZ _
  rw[hv0];have hml:l.length=0:=by rw[hl0];rfl
  rw[hml]at S1;obtain⟨s,a,n,cap⟩:=x;simp only[]at S1;clear h1 fu hv0 hml hl0 hu
  go_enter Tryz.func338,Tryz.ntmps338
  go_wp2_with (first|(go_at_call 246;(with_reducible refine(S1.out _ ?_).mono ?_);(exact H1.out.below (B:=w.heap.size) az (ai _));rintro e w1 ⟨rfl,hb1⟩;obtain⟨g1,rfl⟩:=mob hb1;clear hb1))
  refine bodyPost_ret (v:=.tuple #[.agg #[.bool ((⟨false,none,0,0⟩:IV)).s,.slice ((⟨false,none,0,0⟩:IV)).a ((⟨false,none,0,0⟩:IV)).n ((⟨false,none,0,0⟩:IV)).cap],.int .i64 0]) (by simp[results,Tryz.results338,go_sem]) rfl ?_;exact⟨⟨⟨false,none,0,0⟩,0,rfl,IZ.zero _,by simp,by simp⟩,by exact bel⟩
 have hvp:=Dg.gi h1.nf hl0 aA;have hs:x.s=false:=by
  cases hxs:x.s with
  |false=>rfl
  |true=>rw[hxs]at hu;simp[Dg.iv]at hu;omega
 have hut:(Dg.iv x.s (Dg.vl B32 l)).toNat=Dg.vl B32 l:=by rw[hs];simp[Dg.iv]
 rw[hut];have hlp:0<l.length:=eM.2 hl0;obtain⟨n,hn⟩:∃n,n=l.length/2+1:=⟨_,rfl⟩;have m1:¬l.length=0:=by omega
 have m2:¬(l.length:Int)=0:=by omega
 have m3:((l.length:Int)==0)=false:=by simpa using hl0
 have hmk:∀w:World,(Instr.makeSlice 260 (.int .i64 ((l.length:Int)/2+2)) (.int .i64 ((l.length:Int)/2+2))).run Tryz.prog w= .ok (.slice (some ⟨w.heap.size,0,none⟩) (n+1) (n+1)) (w.alloc (.cells (madeCells #[.int .u32 0] (n+1)) 280)):=fun w=>by
  have:=run_make_row' (P:=Tryz.prog) 260 280 (.int .u32 0) 4 Tryz.underlying260 gD rfl .i64 .i64 (n+1) aa aa w;rw[show((n+1:Nat):Int)=(l.length:Int)/2+2 by omega]at this;exact this
 have start:Hid (Dg.vl B32 l<(B32^n+1)*(B32^n+1)):=by
  refine aH (Dg.aY h1.nf.dg) (aE (cv (n:=B32) aA (show l.length<=n+n by omega)) ?_);rw[ja];exact bF (Nat.le_succ _) (Nat.le_succ _)
 have DV:=af (fun lb a b ca cb hb hb0 hca w h1' h2=>kS l lb a b ca cb h1.nf hb hb0 aa hca w h1' h2);have MA:=af (fun (k:List Nat) a c (hc:k.length<=c) (hk:Dg.NF B32 k) (hb:k.length<=3000000000000) w h=>fJ false k a c hb hc hk.dg w h);obtain⟨s,a,p0,cap⟩:=x;simp only[]at S1 DV hs;subst hs;clear h1 fu hu hut hl0 hvp;generalize hq:l.length=q at*;have HQ:=af hq;have HN:=0;clear hq HN;subst hn
 go_enter Tryz.func338,Tryz.ntmps338
 go_upto_region 7 with(first|(go_at_call 246;(with_reducible refine(S1.out _ ?_).mono ?_);(exact H1.out.below (B:=w.heap.size) az (ai _));rintro e w1 ⟨rfl,hb1⟩;obtain⟨g1,rfl⟩:=mob hb1;clear hb1))
 have RU:=aQ.made (more ((w.alloc (.cells #[.bool false,.slice a p0 cap] 69)).alloc (.cells #[.bool false,.slice none 0 0] 69)) g1) (q/2+1+1);have HB:=af RU;have c0:=RU.cell (k:=q/2+1) aO;have f0:=RU.frozen (q/2+1);simp only[eS,World.size_alloc]at c0 f0;clear RU hmk;have hB0:Below w.heap.size w (more ((w.alloc (.cells #[.bool false,.slice a p0 cap] 69)).alloc (.cells #[.bool false,.slice none 0 0] 69)) g1):=by exact bel
 have G0:Hid (RC ((more ((w.alloc (.cells #[.bool false,.slice a p0 cap] 69)).alloc (.cells #[.bool false,.slice none 0 0] 69)) g1).alloc (.cells ((madeCells #[.int .u32 0] (q/2+1+1)).setIfInBounds (q/2+1) (.int .u32 1)) 280)) a l 300000000000 (B32^(q/2+1)) (some ⟨w.heap.size+1+1+g1.2.size,0,none⟩) ((List.replicate (q/2+1+1) 0).set (q/2+1) 1) (q/2+1+1)):=by
  obtain⟨n1,n2⟩:=tA (q/2+1);refine⟨H1.out.ws.below (hB0.trans (Below.alloc (Below.refl _ _) hB0.size _)) (ai _),?_,n1,by simp,by simp;omega,by rw[n2];exact ff aA,by rw[n2];exact start.out,n2.symm⟩;have:=(aQ.yL (more ((w.alloc (.cells #[.bool false,.slice a p0 cap] 69)).alloc (.cells #[.bool false,.slice none 0 0] 69)) g1) (q/2+1+1) (q/2+1) 1 aa).ws;simp only[eS,World.size_alloc]at this;exact this
 go_wp2_with fail
 clear hB0 start c0 f0 HB
 go_loopg [5] (B32^(q/2+1)) (fun k A wr=>∃(a1:Option Addr) (l1:List Nat) (c1:Nat),A= .slice a1 l1.length c1/\Ext ((more ((w.alloc (.cells #[.bool false,.slice a p0 cap] 69)).alloc (.cells #[.bool false,.slice none 0 0] 69)) g1).alloc (.cells ((madeCells #[.int .u32 0] (q/2+1+1)).setIfInBounds (q/2+1) (.int .u32 1)) 280)) wr/\Hid (RC wr a l 300000000000 k a1 l1 c1))
 case atStart=>exact⟨_,_,q/2+1+1,by simp,Ext.refl _,G0.out⟩
 case round=>
  obtain⟨a1,l1,c1,rfl,hext,HG⟩:=hrel;obtain⟨gx,rfl⟩:=mob (Ext.below hext);clear hext G0;have PL:Hid (∀(k m:List Nat) (a b:Option Addr) (c cb:Nat),Dg.NF B32 k->Dg.NF B32 m->k.length<=300000000000->m.length<=300000000000->∀w,WS w a k->WS w b m->Calls Tryz.prog 318 #[.slice a k.length c,.slice b m.length cb] w fun e w'=>jL w' e (Dg.vl B32 k+Dg.vl B32 m)/\Below w.heap.size w w'):=
   fun k m a b c cb hk hm bk bm w ha hb=>nB k m a b c cb hk.dg hm.dg aa aa w ha hb
  have SH:Hid (∀(k:List Nat) (a:Option Addr) (c:Nat),Dg.NF B32 k->k.length<=1000000000000->∀w,WS w a k->Calls Tryz.prog 356 #[.slice a k.length c,.int .u32 2] w fun e w'=>(∃a' l',e= .returned (.tuple #[.slice a' l'.length l'.length,.int .u32 ((Dg.vl B32 k%2:Nat):Int)])/\WS w' a' l'/\Dg.NF B32 l'/\Dg.vl B32 l'=Dg.vl B32 k/2)/\Below w.heap.size w w'):=
   fun k a c hk bk w ha=>lC k a c 2 aa hk.dg bk w ha
  have CM:=af (fun (k m:List Nat) (a b:Option Addr) (c cb:Nat) (hk:Dg.NF B32 k) (hm:Dg.NF B32 m) (bk:k.length<=3000000000000) w ha hb=>fB k m a b c cb hk hm bk w ha hb);have hne:l1≠[]:=fun e=>by have:=HG.out.p;rw[e]at this;simp[Dg.vl]at this
  have DV1:=af (DV.out l1 a a1 q c1 HG.out.n1 hne (ai _) _ HG.out.w0 HG.out.w1);clear DV hne;obtain⟨U,hU⟩:∃U,U=(Dg.vl B32 l1+Dg.vl B32 l/Dg.vl B32 l1)/2:=⟨_,rfl⟩;have UP:Hid (Dg.vl B32 l<(U+1)*(U+1)):=by rw[hU];exact xk HG.out.p
  have UE:Hid (Dg.vl B32 l1<=U->Dg.vl B32 l1*Dg.vl B32 l1<=Dg.vl B32 l):=by rw[hU];exact kF
  have U0:Hid (0<U):=by
   have h1:=HG.out.p;have h2:=UP.out;rcases Nat.eq_zero_or_pos U with h3|h3
   ·rw[h3]at h2;have h4:Dg.vl B32 l=0:=by omega
    exact absurd (Dg.gi H1.out.nf (fun e=>by have:=HQ.out;rw[e]at this;simp at this;omega) aA) aa
   ·exact h3
  have HU:=af hU;clear hU;by_cases hlt:U<Dg.vl B32 l1
  ·have cz:du U (Dg.vl B32 l1)= -1:=by unfold du;rw[aB hlt]
   have CZ:=af cz;have HLT:=af hlt;clear cz hlt
   go_wp2_with (first|(go_at_call 332;(with_reducible refine(DV1.out).mono ?_);rintro e w3 ⟨a3,l3,c3,a4,l4,c4,rfl,d1,d2,d3,d4,d5,d6,d7,d8,hb3⟩;have D:=af (And.intro d1 (And.intro d3 (And.intro d5 d7)));clear d1 d2 d3 d4 d5 d6 d7 d8;have HB3:=af hb3;obtain⟨g3,rfl⟩:=mob hb3;clear hb3)|(go_at_call 318;(with_reducible refine(PL.out l1 l3 a1 a3 c1 c3 HG.out.n1 D.out.2.2.1 HG.out.b1 ?_ _ ?_ ?_).mono ?_);(focus(refine aE (dJ D.out.2.2.1 H1.out.nf.dg ?_) ?_;(focus(rw[D.out.2.2.2];exact fG _ _));(focus(rw[HQ.out];omega))));(exact HG.out.w1.below HB3.out (ai _));(exact D.out.2.1);rintro e w5 ⟨⟨a5,l5,rfl,r1,r2,r3⟩,hb5⟩;have R5:=af (And.intro r1 (And.intro r2 r3));clear r1 r2 r3;have HB5:=af (HB3.out.trans (hb5.mono HB3.out.size));obtain⟨g5,rfl⟩:=mob hb5;clear hb5)|(go_at_call 356;(with_reducible refine(SH.out l5 a5 l5.length R5.out.2.1 ?_ _ R5.out.1).mono ?_);(focus(have h5:=lz (Dg.aY HG.out.n1.dg) (Dg.aY D.out.2.2.1.dg);rw[<-R5.out.2.2]at h5;have h6:=gZ R5.out.2.1 h5;have h7:=HG.out.b1;have h8:l3.length<=q:=zb25;omega));rintro e w6 ⟨⟨a6,l6,rfl,r1,r2,r3⟩,hb6⟩;rw[R5.out.2.2,D.out.2.2.2,<-HU.out]at r3;have R6:=af (And.intro r1 (And.intro r2 r3));clear r1 r2 r3;have HB6:=af (HB5.out.trans (hb6.mono HB5.out.size));obtain⟨g6,rfl⟩:=mob hb6;clear hb6)|(go_at_call 319;(with_reducible refine(CM.out l6 l1 a6 a1 l6.length c1 R6.out.2.1 HG.out.n1 ?_ _ R6.out.1 (HG.out.w1.below HB6.out (ai _))).mono ?_);(focus(have h9:=dJ R6.out.2.1 HG.out.n1.dg (by rw[R6.out.2.2];exact cC HLT.out);have:=HG.out.b1;omega));rintro e w7 ⟨rfl,hb7⟩;rw[R6.out.2.2,CZ.out];have R7:=af (R6.out.1.below hb7 (ai _));have HB7:=af (HB6.out.trans (hb7.mono HB6.out.size));obtain⟨g7,rfl⟩:=mob hb7;clear hb7))
   go_roundg U
   case measure=>rw[HG.out.k];exact HLT.out
   case rel=>exact⟨a6,l6,l6.length,rfl,gu az,HG.out.w0.below HB7.out (ai _),R7.out,R6.out.2.1,ai _,aE (dJ R6.out.2.1 HG.out.n1.dg (by rw[R6.out.2.2];exact cC HLT.out)) HG.out.b1,by rw[R6.out.2.2];exact U0.out,by rw[R6.out.2.2];exact UP.out,R6.out.2.2.symm⟩
  ·obtain⟨C,hC0,hC⟩:∃C:Int,0<=C/\du U (Dg.vl B32 l1)=C:=⟨_,by unfold du;rw[an hlt];split<;>decide,rfl⟩;have CZ:=af hC;have HE:=af (UE.out (cq hlt));have hC1:decide ((0:Int)<=C)=true:=by rw[ei];exact hC0
   clear hC hlt
   go_wp2_with (first|(go_at_call 332;(with_reducible refine(DV1.out).mono ?_);rintro e w3 ⟨a3,l3,c3,a4,l4,c4,rfl,d1,d2,d3,d4,d5,d6,d7,d8,hb3⟩;have D:=af (And.intro d1 (And.intro d3 (And.intro d5 d7)));clear d1 d2 d3 d4 d5 d6 d7 d8;have HB3:=af hb3;obtain⟨g3,rfl⟩:=mob hb3;clear hb3)|(go_at_call 318;(with_reducible refine(PL.out l1 l3 a1 a3 c1 c3 HG.out.n1 D.out.2.2.1 HG.out.b1 ?_ _ ?_ ?_).mono ?_);(focus(refine aE (dJ D.out.2.2.1 H1.out.nf.dg ?_) ?_;(focus(rw[D.out.2.2.2];exact fG _ _));(focus(rw[HQ.out];omega))));(exact HG.out.w1.below HB3.out (ai _));(exact D.out.2.1);rintro e w5 ⟨⟨a5,l5,rfl,r1,r2,r3⟩,hb5⟩;have R5:=af (And.intro r1 (And.intro r2 r3));clear r1 r2 r3;have HB5:=af (HB3.out.trans (hb5.mono HB3.out.size));obtain⟨g5,rfl⟩:=mob hb5;clear hb5)|(go_at_call 356;(with_reducible refine(SH.out l5 a5 l5.length R5.out.2.1 ?_ _ R5.out.1).mono ?_);(focus(have h5:=lz (Dg.aY HG.out.n1.dg) (Dg.aY D.out.2.2.1.dg);rw[<-R5.out.2.2]at h5;have h6:=gZ R5.out.2.1 h5;have h7:=HG.out.b1;have h8:l3.length<=q:=zb25;omega));rintro e w6 ⟨⟨a6,l6,rfl,r1,r2,r3⟩,hb6⟩;rw[R5.out.2.2,D.out.2.2.2,<-HU.out]at r3;have R6:=af (And.intro r1 (And.intro r2 r3));clear r1 r2 r3;have HB6:=af (HB5.out.trans (hb6.mono HB5.out.size));obtain⟨g6,rfl⟩:=mob hb6;clear hb6)|(go_at_call 319;(with_reducible refine(CM.out l6 l1 a6 a1 l6.length c1 R6.out.2.1 HG.out.n1 ?_ _ R6.out.1 (HG.out.w1.below HB6.out (ai _))).mono ?_);(focus(have h9:=dJ R6.out.2.1 R5.out.2.1.dg (by rw[R6.out.2.2,R5.out.2.2,D.out.2.2.2,HU.out];exact fG _ _);have h5:=lz (Dg.aY HG.out.n1.dg) (Dg.aY D.out.2.2.1.dg);rw[<-R5.out.2.2]at h5;have h6:=gZ R5.out.2.1 h5;have h7:=HG.out.b1;have h8:l3.length<=q:=zb25;omega));rintro e w7 ⟨rfl,hb7⟩;rw[R6.out.2.2,CZ.out];have R7:=af (R6.out.1.below hb7 (ai _));have HB7:=af (HB6.out.trans (hb7.mono HB6.out.size));obtain⟨g7,rfl⟩:=mob hb7;clear hb7)|(go_at_call 244;(with_reducible refine(MA.out l1 a1 c1 HG.out.h1 HG.out.n1 (by have:=HG.out.b1;omega) _ (HG.out.w1.below HB7.out (ai _))).mono ?_);rintro e w8 ⟨⟨y,rfl,hy⟩,hb8⟩;have HY:=af (show IZ w8 y ((Dg.vl B32 l1:Nat):Int)from hy);clear hy;obtain⟨g8,rfl⟩:=mob hb8;clear hb8))
   refine bodyPost_ret (v:=.tuple #[.agg #[.bool y.s,.slice y.a y.n y.cap],.int .i64 0]) (by simp[results,Tryz.results338,go_sem]) rfl ?_;exact⟨⟨y,_,rfl,IZ.dt HY.out (by exact gh),HE.out,HG.out.u⟩,by exact bel⟩
end
section
open Go.RowKit
namespace CI
def bnd(z:Int):Bool:=Nat.blt z.natAbs 1208925819614629174706176
def i64(n:Int):C:=.sc (.int .i64 n)
def o1(f:Int->Option C):Orc:=fun l=>match l with
 |[a]=>match sZ a with
  |some z=>match bnd z with
   |true=>f z
   |false=>none
  |none=>none
 |_=>none
def o2(f:Int->Int->Option C):Orc:=fun l=>match l with
 |[a,b]=>match sZ a with
  |some y=>match sZ b with
   |some z=>match bnd y with
    |true=>match bnd z with
     |true=>f y z
     |false=>none
    |false=>none
   |none=>none
  |none=>none
 |_=>none
def sg(z:Int):Int:=match z with| .negSucc _=>-1| .ofNat 0=>0| .ofNat (_+1)=>1
def sqf:Nat->Nat->Nat->Nat
 |0,_,r=>r
 |f+1,n,r=>match Nat.ble ((r+1)*(r+1)) n with
  |true=>sqf f n (r+1)
  |false=>r
def isz(z:Int):Bool:=match z with| .ofNat 0=>true|_=>false
def oAdd:Orc:=o2 fun a b=>some (.nm (a+b))
def oSub:Orc:=o2 fun a b=>some (.nm (a-b))
def oMul:Orc:=o2 fun a b=>some (.nm (a*b))
def Ax:Orc:=o2 fun a b=>match isz b with|true=>none|false=>some (.tp [.nm (a/b),.nm (a%b),i64 0])
def oCmp:Orc:=o2 fun a b=>some (i64 (sg (a-b)))
def oGcd:Orc:=o2 fun a b=>some (.nm (Int.gcd a b))
def oOf:Orc:=fun l=>match l with
 |[.sc (.int .i64 n)]=>match Nat.blt n.natAbs 4611686018427387904 with
  |true=>some (.nm n)
  |false=>none
 |_=>none
def BQ:Orc:=o1 fun a=>match Nat.blt a.natAbs 4611686018427387904 with
 |true=>some (.tp [i64 a,.sc (.bool true)])
 |false=>none
def Aw:Orc:=o1 fun a=>some (.nm a)
def rt(n r:Nat):Option C:=match Nat.ble (r*r) n with
 |true=>match Nat.blt n ((r+1)*(r+1))with
  |true=>some (.tp [.nm r,i64 0])
  |false=>none
 |false=>none
def oRoot:Orc:=o1 fun a=>match a with
 | .ofNat n=>rt n (sqf 10000 n 0)
 |_=>none
def oZero:Orc:=o1 fun a=>some (.sc (.bool (isz a)))
def oSign:Orc:=o1 fun a=>some (i64 (sg a))
def oNeg:Orc:=o1 fun a=>some (.nm (-a))
def oSize:Orc:=o1 fun a=>some (.nm a.natAbs)
def oQuo:Orc:=o2 fun a b=>match isz b with|true=>none|false=>some (.nm (a/b))
def oT:List (Nat×Orc)->Nat->Option Orc
 |[],_=>none
 |(k,o)::l,n=>match Nat.beq k n with|true=>some o|false=>oT l n
def orcT:List (Nat×Orc):=[(242,oAdd),(113,oSub),(114,oMul),(322,Ax),(159,oCmp),(256,oGcd),(115,oOf),(251,BQ),(151,Aw),(338,oRoot),(231,oZero),(233,oSign),(234,oNeg),(160,oSize),(250,oQuo)]
def theE(P:Program):Env:=⟨jA P,oT orcT⟩
theorem yg(P:Program):(theE P).fns=jA P:=rfl
theorem kN{z:Int}(h:bnd z=true):Fit z:=by
 unfold bnd at h;rw[aJ]at h;exact⟨3,by omega,Nat.lt_trans h aA⟩
section
variable {P : Program} {A : Nat->Prop} {ρ : Nat->Nat} {w : World}
theorem qi{c:C}{z:Int}{v:Value}(h:sZ c=some z)(hv:VR P A ρ w c v):∃x:IV,v= .agg #[.bool x.s,.slice x.a x.n x.cap]/\IZ w x z:=by
 unfold sZ at h;split at h
 ·cases h;simp only[VR]at hv;exact hv
 ·cases h;simp only[VR,VCs]at hv;obtain⟨cs,rfl,h1,u,r,h2,⟨h3,_⟩,h4,u2,r2,h5,⟨h6,_⟩,h7⟩:=hv;subst h3;subst h6;subst h7;subst h5;refine⟨⟨false,none,0,0⟩,?_,IZ.zero w⟩;have:cs= #[.bool false,.slice none 0 0]:=by apply lh;rw[h2];rfl
  rw[this]
 ·cases h
def Ans(P:Program)(g:Nat)(vs:Array Value)(w:World)(c:C):Prop:=Calls P g vs w (fun e w'=>∃u,e= .returned u/\(∀A ρ,VR P A ρ w' c u)/\Below w.heap.size w w')
theorem Ans.calls{g:Nat}{vs:Array Value}{c:C}(h:Ans P g vs w c)(A:Nat->Prop)(ρ:Nat->Nat):Calls P g vs w (fun e w'=>∃u,e= .returned u/\VR P A ρ w' c u/\Below w.heap.size w w'):=by
 unfold Ans at h;refine h.mono ?_;rintro e w' ⟨u,h1,h2,h3⟩;exact⟨u,h1,h2 A ρ,h3⟩
theorem kE{g:Nat}{f:Int->Option C}(hE:Enters P g)(H:∀(x:IV) (z:Int) (w:World) (c:C),Fit z->IZ w x z->f z=some c->Ans P g #[.agg #[.bool x.s,.slice x.a x.n x.cap]] w c):
  ∀args r,o1 f args=some r->∀A ρ w vs,VRl P A ρ w args vs.toList->Enters P g/\Calls P g vs w (fun e w'=>∃u,e= .returned u/\VR P A ρ w' r u/\Below w.heap.size w w'):=by
 intro args r e A ρ w vs hv;refine⟨hE,?_⟩;unfold o1 at e;split at e
 ·next a=>
  split at e
  ·next z hz=>
   split at e
   ·next hb=>
    simp only[VRl]at hv;obtain⟨u,r',h1,h2,h3⟩:=hv;subst h3;obtain⟨x,rfl,hx⟩:=qi hz h2;have:vs= #[.agg #[.bool x.s,.slice x.a x.n x.cap]]:=by apply lh;rw[h1]
    rw[this];exact(H x z w r (kN hb) hx e).calls A ρ
   ·cases e
  ·cases e
 ·cases e
theorem kD{g:Nat}{f:Int->Int->Option C}(hE:Enters P g)(H:∀(x y:IV) (u v:Int) (w:World) (c:C),Fit u->Fit v->IZ w x u->IZ w y v->f u v=some c->Ans P g #[.agg #[.bool x.s,.slice x.a x.n x.cap],.agg #[.bool y.s,.slice y.a y.n y.cap]] w c):
  ∀args r,o2 f args=some r->∀A ρ w vs,VRl P A ρ w args vs.toList->Enters P g/\Calls P g vs w (fun e w'=>∃u,e= .returned u/\VR P A ρ w' r u/\Below w.heap.size w w'):=by
 intro args r e A ρ w vs hv;refine⟨hE,?_⟩;unfold o2 at e;split at e
 ·next a b=>
  split at e
  ·next y hy=>
   split at e
   ·next z hz=>
    split at e
    ·next hb=>
     split at e
     ·next hb2=>
      simp only[VRl]at hv;obtain⟨u,r',h1,h2,u2,r2,h4,h5,h3⟩:=hv;subst h3;subst h4;obtain⟨x,rfl,hx⟩:=qi hy h2;obtain⟨x2,rfl,hx2⟩:=qi hz h5;have:vs= #[.agg #[.bool x.s,.slice x.a x.n x.cap],.agg #[.bool x2.s,.slice x2.a x2.n x2.cap]]:=by apply lh;rw[h1]
      rw[this];exact(H x x2 y z w r (kN hb) (kN hb2) hx hx2 e).calls A ρ
     ·cases e
    ·cases e
   ·cases e
  ·cases e
 ·cases e
theorem vr_nm{z:Int}{x:IV}(h:IZ w x z)(A:Nat->Prop)(ρ:Nat->Nat):VR P A ρ w (.nm z) (.agg #[.bool x.s,.slice x.a x.n x.cap]):=by
 simp only[VR];exact⟨x,rfl,h⟩
theorem oC(n:Int)(A:Nat->Prop)(ρ:Nat->Nat):VR P A ρ w (i64 n) (.int .i64 n):=by
 simp only[i64,VR];exact⟨trivial,rfl⟩
theorem zZ(b:Bool)(A:Nat->Prop)(ρ:Nat->Nat):VR P A ρ w (.sc (.bool b)) (.bool b):=by
 simp only[VR];exact⟨trivial,rfl⟩
theorem gw{g:Nat}{vs:Array Value}{z:Int}(h:Calls P g vs w fun e w'=>(∃x:IV,e= .returned (.agg #[.bool x.s,.slice x.a x.n x.cap])/\IZ w' x z)/\Below w.heap.size w w'):Ans P g vs w (.nm z):=by
 unfold Ans;refine h.mono ?_;rintro e w' ⟨⟨x,rfl,hx⟩,hb⟩;exact⟨_,rfl,vr_nm hx,hb⟩
theorem uk{g:Nat}{vs:Array Value}{z:Int}(h:Calls P g vs w fun e w'=>e= .returned (.int .i64 z)/\Below w.heap.size w w'):Ans P g vs w (i64 z):=by
 unfold Ans;refine h.mono ?_;rintro e w' ⟨rfl,hb⟩;exact⟨_,rfl,oC z,hb⟩
end
theorem zz(z:Int):sg z=sgn z:=by
 unfold sg sgn;split
 ·next n=>
  have h:Int.negSucc n<0:=Int.negSucc_lt_zero n;generalize Int.negSucc n=z at*;rw[an aa,aB aa]
 ·rfl
 ·next n=>
  have h:(0:Int)<Int.ofNat (n+1):=Int.natCast_pos.2 (Nat.succ_pos n);generalize Int.ofNat (n+1)=z at*;rw[an aa,an aa]
theorem xz(z:Int):isz z=decide (z=0):=by
 unfold isz;split
 ·rfl
 ·next h=>
  symm;rw[db];intro e;exact h e
theorem B9{z:Int}(h:isz z=false):z≠0:=by
 rw[xz]at h;simpa using h
theorem wW{n r s:Nat}(h1:r*r<=n)(h2:n<(r+1)*(r+1))(h3:s*s<=n)(h4:n<(s+1)*(s+1)):r=s:=by
 have k1:r<s+1:=my fun h=>by have:=bF h h;omega
 have k2:s<r+1:=my fun h=>by have:=bF h h;omega
 omega
theorem qw:∀{l:List (Nat×Orc)} {n:Nat} {o:Orc},oT l n=some o->(n,o)∈l
 |[],_,_,h=>by cases h
 |(k,o')::l,n,o,h=>by
  unfold oT at h;split at h
  ·next hb=>
   cases h;rw[dX hb];exact ba
  ·exact bh _ (qw h)
theorem Au:pn Tryz.prog (theE Tryz.prog):=by
 intro g f hg;have hm:=qw (show oT orcT g=some f from hg);simp only[orcT,bj,av,List.not_mem_nil,or_false]at hm;rcases hm with⟨rfl,rfl⟩|⟨rfl,rfl⟩|⟨rfl,rfl⟩|⟨rfl,rfl⟩|⟨rfl,rfl⟩|⟨rfl,rfl⟩|⟨rfl,rfl⟩|⟨rfl,rfl⟩|⟨rfl,rfl⟩|⟨rfl,rfl⟩|⟨rfl,rfl⟩|⟨rfl,rfl⟩|⟨rfl,rfl⟩|⟨rfl,rfl⟩|⟨rfl,rfl⟩
 ·exact kD (enters_of Tryz.func242 (by kernel_rfl) rfl) fun x y u v w c fu fv hx hy e => by
   cases e;exact gw (um x y u v fu fv w hx.ip hy.ip)
 ·exact kD (enters_of Tryz.func113 (by kernel_rfl) rfl) fun x y u v w c fu fv hx hy e => by
   cases e;exact gw (pJ x y u v fu fv w hx.ip hy.ip)
 ·exact kD (enters_of Tryz.func114 (by kernel_rfl) rfl) fun x y u v w c fu fv hx hy e => by
   cases e;exact gw (AF x y u v fu fv w hx.ip hy.ip)
 ·exact kD (enters_of Tryz.func322 (by kernel_rfl) rfl) fun x y u v w c fu fv hx hy e => by
   split at e
   ·cases e
   ·next hz=>
    cases e;have hv:=B9 hz;unfold Ans;refine(pg x y u v fu fv w hx.ip hy.ip).mono ?_;rintro e w' ⟨q,r,rfl,h1,h2,hb⟩;rw[an hv]at h2;refine⟨_,rfl,fun A ρ=>?_,hb⟩;rw[an hv];simp only[VR,VRl];exact⟨_,rfl,_,_,rfl,⟨q,rfl,h1⟩,_,_,rfl,⟨r,rfl,h2⟩,_,_,rfl,oC 0 A ρ,rfl⟩
 ·exact kD (enters_of Tryz.func159 (by kernel_rfl) rfl) fun x y u v w c fu fv hx hy e => by
   cases e;rw[zz];exact uk (uf x y u v fu fv w hx.ip hy.ip)
 ·exact kD (enters_of Tryz.func256 (by kernel_rfl) rfl) fun x y u v w c fu fv hx hy e => by
   cases e;exact gw (A8 x y u v fu fv w hx.ip hy.ip)
 ·intro args r e A ρ w vs hv;refine⟨enters_of Tryz.func115 aD rfl,?_⟩;unfold oOf at e;split at e
  ·next n=>
   split at e
   ·next hb=>
    cases e;rw[aJ]at hb;simp only[VRl,VR]at hv;obtain⟨u,r',h1,⟨rfl,_⟩,h3⟩:=hv;subst h3;have:vs= #[.int .i64 n]:=by apply lh;rw[h1]
    rw[this];exact(gw (xD n aa w)).calls A ρ
   ·cases e
  ·cases e
 ·exact kE (enters_of Tryz.func251 (by kernel_rfl) rfl) fun x z w c fz hx e => by
   split at e
   ·next hb=>
    cases e;rw[aJ]at hb;have hI:I64 z:=by unfold I64;omega
    unfold Ans;refine(wN x z fz w hx.ip).mono ?_;rintro e w' ⟨rfl,hb⟩;refine⟨_,rfl,fun A ρ=>?_,hb⟩;rw[show smv z=z from aB hI,show decide (I64 z)=true from aF hI];simp only[VR,VRl];exact⟨_,rfl,_,_,rfl,oC z A ρ,_,_,rfl,⟨rfl,rfl⟩,rfl⟩
   ·cases e
 ·exact kE (enters_of Tryz.func151 (by kernel_rfl) rfl) fun x z w c fz hx e => by
   cases e;obtain⟨l,h1,rfl⟩:=hx.ip;have bl:=dv h1.nf fz;exact gw (oP x l aa w h1)
 ·exact kE (enters_of Tryz.func338 (by kernel_rfl) rfl) fun x z w c fz hx e => by
   split at e
   ·next n=>
    generalize sqf 10000 n 0=r at e;unfold rt at e;split at e
    ·next h1=>
     split at e
     ·next h2=>
      cases e;have k1:=bG h1;rw[aJ]at h2;unfold Ans;refine(yw x _ fz (Int.natCast_nonneg n) w hx.ip).mono ?_;rintro e w' ⟨⟨y,s,rfl,hy,h3,h4⟩,hb⟩;have:s=r:=wW h3 h4 k1 h2;subst this;refine⟨_,rfl,fun A ρ=>?_,hb⟩;simp only[VR,VRl];exact⟨_,rfl,_,_,rfl,⟨y,rfl,hy⟩,_,_,rfl,oC 0 A ρ,rfl⟩
     ·cases e
    ·cases e
   ·cases e
 ·exact kE (enters_of Tryz.func231 (by kernel_rfl) rfl) fun x z w c fz hx e => by
   cases e;rw[xz];unfold Ans;refine(wA x z w hx).mono ?_;rintro e w' ⟨rfl,hb⟩;exact⟨_,rfl,fun A ρ=>zZ _ A ρ,hb⟩
 ·exact kE (enters_of Tryz.func233 (by kernel_rfl) rfl) fun x z w c fz hx e => by
   cases e;rw[zz];exact uk (qk x z fz w hx.ip)
 ·exact kE (enters_of Tryz.func234 (by kernel_rfl) rfl) fun x z w c fz hx e => by
   cases e;exact gw (rK x z fz w hx.ip)
 ·exact kE (enters_of Tryz.func160 (by kernel_rfl) rfl) fun x z w c fz hx e => by
   cases e;exact gw (wB x z fz w hx.ip)
 ·exact kD (enters_of Tryz.func250 (by kernel_rfl) rfl) fun x y u v w c fu fv hx hy e => by
   split at e
   ·cases e
   ·cases e;exact gw (yc x y u v fu fv w hx.ip hy.ip)
end CI
end
section
open Go.RowKit
namespace CI
section
variable {α : Type}
noncomputable def T.ez (t:T α):Nat->Option α:=
 T.rec (motive:=fun _=>Nat->Option α) (fun _=>none)
  (fun v _ _ gl gr k=>Nat.rec (motive:=fun _=>Option α) v
   (fun k _=>Nat.rec (motive:=fun _=>Option α) (gl (Nat.div k 2)) (fun _ _=>gr (Nat.div k 2)) (Nat.mod k 2)) k) t
theorem qe(t:T α)(k:Nat):t.ez k=t.get k:=by
 induction t generalizing k with
 |e=>rfl
 |n v l r ihl ihr=>
  cases k with
  |zero=>rfl
  |succ k=>
   show Nat.rec (motive:=fun _=>Option α) (l.ez (k/2)) (fun _ _=>r.ez (k/2)) (k%2)=_;rw[ihl,ihr]
   conv=>rhs;unfold T.get
   dsimp only;generalize k%2=m;cases m<;>rfl
noncomputable def T.jE (f:Nat):T α->Nat->Option α->T α:=
 Nat.rec (motive:=fun _=>T α->Nat->Option α->T α) (fun t _ _=>t)
  (fun _ ih t=>T.rec (motive:=fun _=>Nat->Option α->T α)
   (fun k x=>Nat.rec (motive:=fun _=>T α) (.n x .e .e)
    (fun k _=>Nat.rec (motive:=fun _=>T α) (.n none (ih .e (Nat.div k 2) x) .e) (fun _ _=>.n none .e (ih .e (Nat.div k 2) x)) (Nat.mod k 2)) k)
   (fun v l r _ _ k x=>Nat.rec (motive:=fun _=>T α) (.n x l r)
    (fun k _=>Nat.rec (motive:=fun _=>T α) (.n v (ih l (Nat.div k 2) x) r) (fun _ _=>.n v l (ih r (Nat.div k 2) x)) (Nat.mod k 2)) k) t) f
theorem iP(t:T α)(v:Option α)(r:T α):t.mkL v r= .n v t r:=by cases t<;>rfl
theorem iM(t:T α)(v:Option α)(l:T α):t.mkR v l= .n v l t:=by cases t<;>rfl
theorem mJ(f:Nat)(t:T α)(k:Nat)(x:Option α):T.jE f t k x=T.put f t k x:=by
 induction f generalizing t k x with
 |zero=>rfl
 |succ f ih=>
  cases t with
  |e=>
   cases k with
   |zero=>rfl
   |succ k=>
    show Nat.rec (motive:=fun _=>T α) (.n none (T.jE f .e (k/2) x) .e) (fun _ _=>.n none .e (T.jE f .e (k/2) x)) (k%2)=_;rw[ih]
    conv=>rhs;unfold T.put
    simp only[iP,iM];generalize k%2=m;cases m<;>rfl
  |n v l r=>
   cases k with
   |zero=>rfl
   |succ k=>
    show Nat.rec (motive:=fun _=>T α) (.n v (T.jE f l (k/2) x) r) (fun _ _=>.n v l (T.jE f r (k/2) x)) (k%2)=_;rw[ih,ih]
    conv=>rhs;unfold T.put
    simp only[iP,iM];generalize k%2=m;cases m<;>rfl
noncomputable def evF (x:CO):Tm->C:=
 CO.rec (motive:=fun _=>Tm->C) (fun n tm=>Option.rec (motive:=fun _=>C) .any (fun y=>y) (T.ez tm n)) (fun x _=>x) x
theorem bJ(x:CO)(tm:Tm):evF x tm=x.ev tm:=by
 cases x with
 |t n=>
  show Option.rec (motive:=fun _=>C) .any (fun y=>y) (T.ez tm n)=_;rw[qe];unfold CO.ev;dsimp only;cases tm.get n<;>rfl
 |c x=>rfl
noncomputable def H.ez (h:H) (k:Nat):Option B:=Bool.rec (motive:=fun _=>Option B) (h.t.ez k) none (aR k h.forb)
theorem kK(h:H)(k:Nat):h.ez k=h.get k:=by
 unfold H.ez H.get;rw[qe];cases aR k h.forb<;>rfl
noncomputable def H.lD (h:H) (k:Nat) (b:Option B):H:=⟨h.next,Bool.rec (motive:=fun _=>Nat) h.low k (Nat.blt k h.low),h.forb,T.jE 24 h.t k b⟩
theorem sC(h:H)(k:Nat)(b:Option B):h.lD k b=h.set k b:=by
 unfold H.lD H.set;rw[mJ];cases Nat.blt k h.low<;>rfl
noncomputable def H.kH (h:H) (b:B):Option H:=Bool.rec (motive:=fun _=>Option H) none (some ⟨Nat.succ h.next,h.low,h.forb,T.jE 24 h.t h.next (some b)⟩) (Nat.blt h.next 1000000)
theorem nJ(h:H)(b:B):h.kH b=h.new b:=by
 unfold H.kH H.new;rw[mJ];cases Nat.blt h.next 1000000<;>rfl
noncomputable def qV (l:List C):Nat->Option (List C):=
 List.rec (motive:=fun _=>Nat->Option (List C)) (fun n=>Nat.rec (motive:=fun _=>Option (List C)) (some []) (fun _ _=>none) n)
  (fun c l ih n=>Nat.rec (motive:=fun _=>Option (List C)) (some (c::l))
   (fun o _=>Bool.rec (motive:=fun _=>Option (List C)) none (ih (Nat.sub (Nat.succ o) c.wid)) (Nat.ble c.wid (Nat.succ o))) n) l
theorem sJ(l:List C)(n:Nat):qV l n=fF l n:=by
 induction l generalizing n with
 |nil=>cases n<;>rfl
 |cons c l ih=>
  cases n with
  |zero=>rfl
  |succ o=>
   show Bool.rec (motive:=fun _=>Option (List C)) none (qV l (o+1-c.wid)) (Nat.ble c.wid (o+1))=_;rw[ih]
   conv=>rhs;unfold fF
   cases Nat.ble c.wid (o+1)<;>rfl
noncomputable def qQ (l:List C):Nat->Option (List C):=
 List.rec (motive:=fun _=>Nat->Option (List C)) (fun n=>Nat.rec (motive:=fun _=>Option (List C)) (some []) (fun _ _=>none) n)
  (fun c _ ih n=>Nat.rec (motive:=fun _=>Option (List C)) (some [])
   (fun o _=>Bool.rec (motive:=fun _=>Option (List C)) none
    (Option.rec (motive:=fun _=>Option (List C)) none (fun m=>some (c::m)) (ih (Nat.sub (Nat.succ o) c.wid))) (Nat.ble c.wid (Nat.succ o))) n) l
theorem rN(l:List C)(n:Nat):qQ l n=fZ l n:=by
 induction l generalizing n with
 |nil=>cases n<;>rfl
 |cons c l ih=>
  cases n with
  |zero=>rfl
  |succ o=>
   show Bool.rec (motive:=fun _=>Option (List C)) none (Option.rec (motive:=fun _=>Option (List C)) none (fun m=>some (c::m)) (qQ l (o+1-c.wid))) (Nat.ble c.wid (o+1))=_;rw[ih]
   conv=>rhs;unfold fZ
   cases Nat.ble c.wid (o+1)
   ·rfl
   ·cases fZ l (o+1-c.wid)<;>rfl
noncomputable def kL (l:List C) (off w:Nat):Option (List C):=Option.rec (motive:=fun _=>Option (List C)) none (fun l=>qQ l w) (qV l off)
theorem nM(l:List C)(off w:Nat):kL l off w=eJ l off w:=by
 unfold kL eJ;rw[sJ]
 cases fF l off with
 |none=>rfl
 |some m=>exact rN m w
noncomputable def fL (a b:List C):List C:=List.rec (motive:=fun _=>List C) b (fun c _ ih=>c::ih) a
theorem mU(a b:List C):fL a b=a++b:=by
 induction a with
 |nil=>rfl
 |cons c a ih=>
  show c::fL a b=_;rw[ih];rfl
noncomputable def mE (l:List C) (off w:Nat) (new:List C):Option (List C):=
 Option.rec (motive:=fun _=>Option (List C)) none
  (fun a=>Option.rec (motive:=fun _=>Option (List C)) none (fun b=>some (fL a (fL new b))) (qV l (Nat.add off w))) (qQ l off)
theorem rU(l:List C)(off w:Nat)(new:List C):mE l off w new=iH l off w new:=by
 unfold mE iH;rw[rN,sJ]
 cases fZ l off with
 |none=>rfl
 |some a=>
  show Option.rec (motive:=fun _=>Option (List C)) none (fun b=>some (fL a (fL new b))) (fF l (off+w))=_;simp only[dW]
  cases fF l (off+w)with
  |none=>rfl
  |some b=>
   show some (fL a (fL new b))=_;rw[mU,mU,bX,fy]
noncomputable def td (p q:Int):Int:=Int.rec (motive:=fun _=>Int->Int)
 (fun a q=>Int.rec (motive:=fun _=>Int) (fun b=>.ofNat (Nat.add a b)) (fun b=>Bool.rec (motive:=fun _=>Int) (.negSucc (Nat.sub b a)) (.ofNat (Nat.sub a (Nat.succ b))) (Nat.ble (Nat.succ b) a)) q)
 (fun a q=>Int.rec (motive:=fun _=>Int) (fun b=>Bool.rec (motive:=fun _=>Int) (.negSucc (Nat.sub a b)) (.ofNat (Nat.sub b (Nat.succ a))) (Nat.ble (Nat.succ a) b)) (fun b=>.negSucc (Nat.succ (Nat.add a b))) q) p q
theorem uo(p q:Int):td p q=p+q:=by
 rcases p with a|a<;>rcases q with b|b
 ·rfl
 ·show Bool.rec (motive:=fun _=>Int) (.negSucc (b-a)) (.ofNat (a-(b+1))) (Nat.ble (b+1) a)=_;cases h:Nat.ble (b+1) a
  ·have h':¬b+1<=a:=fun e=>by rw[iE e]at h;cases h
   show Int.negSucc (b-a)=_;simp only[dV,eD];omega
  ·have h':=bG h;show Int.ofNat (a-(b+1))=_;simp only[dV,eD];omega
 ·show Bool.rec (motive:=fun _=>Int) (.negSucc (a-b)) (.ofNat (b-(a+1))) (Nat.ble (a+1) b)=_;cases h:Nat.ble (a+1) b
  ·have h':¬a+1<=b:=fun e=>by rw[iE e]at h;cases h
   show Int.negSucc (a-b)=_;simp only[dV,eD];omega
  ·have h':=bG h;show Int.ofNat (b-(a+1))=_;simp only[dV,eD];omega
 ·show Int.negSucc (a+b+1)=_;simp only[dV];omega
noncomputable def nD (p:Int):Int:=Int.rec (motive:=fun _=>Int) (fun a=>Nat.rec (motive:=fun _=>Int) (.ofNat 0) (fun n _=>.negSucc n) a) (fun a=>.ofNat (Nat.succ a)) p
theorem pV(p:Int):nD p= -p:=by rcases p with(_|a)|a<;>rfl
noncomputable def mulI (p q:Int):Int:=Int.rec (motive:=fun _=>Int->Int)
 (fun a q=>Int.rec (motive:=fun _=>Int) (fun b=>.ofNat (Nat.mul a b)) (fun b=>nD (.ofNat (Nat.mul a (Nat.succ b)))) q)
 (fun a q=>Int.rec (motive:=fun _=>Int) (fun b=>nD (.ofNat (Nat.mul (Nat.succ a) b))) (fun b=>.ofNat (Nat.mul (Nat.succ a) (Nat.succ b))) q) p q
theorem AG(p q:Int):mulI p q=p*q:=by
 rcases p with a|a<;>rcases q with b|b
 ·rfl
 ·show nD (.ofNat (a*(b+1)))=_;rw[pV];simp only[dV,eD,fC,Int.mul_neg];rfl
 ·show nD (.ofNat ((a+1)*b))=_;rw[pV];simp only[dV,eD,fC,Int.neg_mul];rfl
 ·show Int.ofNat ((a+1)*(b+1))=_;simp only[dV,eD,fC,Int.neg_mul_neg];rfl
noncomputable def ltI (p q:Int):Bool:=Int.rec (motive:=fun _=>Int->Bool)
 (fun a q=>Int.rec (motive:=fun _=>Bool) (fun b=>Nat.ble (Nat.succ a) b) (fun _=>false) q)
 (fun a q=>Int.rec (motive:=fun _=>Bool) (fun _=>true) (fun b=>Nat.ble (Nat.succ b) a) q) p q
theorem ui(a b:Nat):Nat.ble a b=decide (a<=b):=by
 cases h:Nat.ble a b
 ·exact(aN fun e=>by rw[iE e]at h;cases h).symm
 ·exact(aF (bG h)).symm
theorem oS(p q:Int):ltI p q=decide (p<q):=by
 rcases p with a|a<;>rcases q with b|b
 ·show Nat.ble (a+1) b=_;rw[ui,decide_eq_decide];simp only[eD];omega
 ·exact(aN uM).symm
 ·exact(aF uM).symm
 ·show Nat.ble (b+1) a=_;rw[ui,decide_eq_decide];simp only[dV];omega
noncomputable def eqI (p q:Int):Bool:=Int.rec (motive:=fun _=>Int->Bool)
 (fun a q=>Int.rec (motive:=fun _=>Bool) (fun b=>Nat.beq a b) (fun _=>false) q)
 (fun a q=>Int.rec (motive:=fun _=>Bool) (fun _=>false) (fun b=>Nat.beq a b) q) p q
theorem uj(a b:Nat):Nat.beq a b=decide (a=b):=by
 cases h:Nat.beq a b
 ·exact(aN (ov h)).symm
 ·exact(aF (dX h)).symm
theorem pd(p q:Int):eqI p q=decide (p=q):=by
 rcases p with a|a<;>rcases q with b|b
 ·show Nat.beq a b=_;rw[uj,decide_eq_decide];simp only[eD];omega
 ·exact(aN uM).symm
 ·exact(aN uM).symm
 ·show Nat.beq a b=_;rw[uj,decide_eq_decide];simp only[dV];omega
noncomputable def jF (b:Bool):Bool:=Bool.rec (motive:=fun _=>Bool) true false b
theorem pU(b:Bool):jF b= !b:=by cases b<;>rfl
noncomputable def wrF (k:IntKind) (z:Int):Int:=IntKind.rec (motive:=fun _=>Int->Int)
 (fun z=>IntKind.i8.wrap z) (fun z=>IntKind.i16.wrap z) (fun z=>IntKind.i32.wrap z)
 (fun z=>Int.rec (motive:=fun _=>Int) (fun n=>Bool.rec (motive:=fun _=>Int) (IntKind.i64.wrap (.ofNat n)) (.ofNat n) (Nat.ble n 9223372036854775807))
  (fun n=>Bool.rec (motive:=fun _=>Int) (IntKind.i64.wrap (.negSucc n)) (.negSucc n) (Nat.ble n 9223372036854775807)) z)
 (fun z=>IntKind.u8.wrap z) (fun z=>IntKind.u16.wrap z) (fun z=>IntKind.u32.wrap z) (fun z=>IntKind.u64.wrap z) k z
theorem wrap_small{z:Int}(h: -9223372036854775808<=z)(h':z<=9223372036854775807):IntKind.i64.wrap z=z:=by
 have e:IntKind.i64.wrap z=if(true&&decide (z%18446744073709551616>=(9223372036854775808:Int)))=true then z%18446744073709551616-18446744073709551616 else z%18446744073709551616:=rfl
 rw[e];simp only[ou,decide_eq_true_eq];split<;>omega
theorem lx(k:IntKind)(z:Int):wrF k z=k.wrap z:=by
 cases k
 case i64=>
  rcases z with n|n
  ·show Bool.rec (motive:=fun _=>Int) (IntKind.i64.wrap (.ofNat n)) (.ofNat n) (Nat.ble n 9223372036854775807)=_;cases h:Nat.ble n 9223372036854775807
   ·rfl
   ·have h':=bG h;exact(wrap_small (by simp only[eD];omega) (by simp only[eD];omega)).symm
  ·show Bool.rec (motive:=fun _=>Int) (IntKind.i64.wrap (.negSucc n)) (.negSucc n) (Nat.ble n 9223372036854775807)=_;cases h:Nat.ble n 9223372036854775807
   ·rfl
   ·have h':=bG h;exact(wrap_small (by simp only[dV];omega) (by simp only[dV];omega)).symm
 all_goals rfl
noncomputable def scOf {R:Type} (c:C) (d:R) (f:Value->R):R:=
 C.rec (motive_1:=fun _=>R) (motive_2:=fun _=>PUnit) d f (fun _=>d) (fun _ _ _ _ _=>d) (fun _ _=>d) (fun _ _ _=>d) (fun _ _=>d) (fun _ _=>d) (fun _=>d) d ⟨⟩ (fun _ _ _ _=>⟨⟩) c
noncomputable def lS {R:Type} (c:C) (d:R) (f:IntKind->Int->R):R:=
 scOf c d fun v=>match v with| .int k n=>f k n|_=>d
noncomputable def jC {R:Type} (c:C) (d:R) (f:Bool->R):R:=
 scOf c d fun v=>match v with| .bool b=>f b|_=>d
noncomputable def ikF (k k':IntKind):Bool:=Nat.beq k.ctorIdx k'.ctorIdx
theorem Cd(k k':IntKind):ikF k k'=ikB k k':=by cases k<;>cases k'<;>rfl
noncomputable def bz (op:BinOp):IntKind->Int->Int->Option C:=
 BinOp.rec (motive:=fun _=>IntKind->Int->Int->Option C)
  (fun k p q=>some (.sc (.int k (wrF k (td p q)))))
  (fun k p q=>some (.sc (.int k (wrF k (td p (nD q))))))
  (fun k p q=>some (.sc (.int k (wrF k (mulI p q)))))
  (fun k p q=>Bool.rec (motive:=fun _=>Option C) (some (.sc (.int k (wrF k (Int.tdiv p q))))) none (eqI q 0))
  (fun k p q=>Bool.rec (motive:=fun _=>Option C) (some (.sc (.int k (Int.tmod p q)))) none (eqI q 0))
  (fun _ _ _=>none) (fun _ _ _=>none) (fun _ _ _=>none)
  (fun _ _ _=>none) (fun _ _ _=>none) (fun _ _ _=>none)
  (fun _ p q=>some (.sc (.bool (eqI p q))))
  (fun _ p q=>some (.sc (.bool (jF (eqI p q)))))
  (fun _ p q=>some (.sc (.bool (ltI p q))))
  (fun _ p q=>some (.sc (.bool (jF (ltI q p)))))
  (fun _ p q=>some (.sc (.bool (ltI q p))))
  (fun _ p q=>some (.sc (.bool (jF (ltI p q))))) op
theorem bz_eq(op:BinOp)(k:IntKind)(p q:Int)(h:op≠ .shl/\op≠ .shr):bz op k p q=(binZ op k p q).map .sc:=by
 cases op
 case add=>show some (C.sc (.int k (wrF k (td p q))))=_;rw[lx,uo];rfl
 case sub=>show some (C.sc (.int k (wrF k (td p (nD q)))))=_;rw[lx,uo,pV];rfl
 case mul=>show some (C.sc (.int k (wrF k (mulI p q))))=_;rw[lx,AG];rfl
 case quo=>
  show Bool.rec (motive:=fun _=>Option C) (some (.sc (.int k (wrF k (Int.tdiv p q))))) none (eqI q 0)=_;rw[pd,lx];rcases q with(_|q)|q<;>rfl
 case rem=>
  show Bool.rec (motive:=fun _=>Option C) (some (.sc (.int k (Int.tmod p q)))) none (eqI q 0)=_;rw[pd];rcases q with(_|q)|q<;>rfl
 case eql=>show some (C.sc (.bool (eqI p q)))=_;rw[pd];rfl
 case neq=>show some (C.sc (.bool (jF (eqI p q))))=_;rw[pd,pU];rfl
 case lss=>show some (C.sc (.bool (ltI p q)))=_;rw[oS];rfl
 case leq=>
  show some (C.sc (.bool (jF (ltI q p))))=some (C.sc (.bool (decide (p<=q))));rw[oS,pU,<-decide_not,decide_eq_decide.mpr Int.not_lt]
 case gtr=>
  show some (C.sc (.bool (ltI q p)))=some (C.sc (.bool (decide (p>q))));rw[oS]
 case geq=>
  show some (C.sc (.bool (jF (ltI p q))))=some (C.sc (.bool (decide (p>=q))));rw[oS,pU,<-decide_not,decide_eq_decide.mpr Int.not_lt]
 case shl=>exact absurd rfl h.1
 case shr=>exact absurd rfl h.2
 all_goals rfl
noncomputable def isSh (op:BinOp):Bool:=BinOp.rec (motive:=fun _=>Bool) false false false false false false false false true true false false false false false false false op
noncomputable def vT (op:BinOp) (a b:C):Option C:=
 Bool.rec (motive:=fun _=>Option C)
  (lS a none fun k p=>lS b none fun k' q=>Bool.rec (motive:=fun _=>Option C) none (bz op k p q) (ikF k k'))
  (bin op a b) (isSh op)
theorem mO{R:Type}(c:C)(d:R)(f:IntKind->Int->R):lS c d f=match c with| .sc (.int k n)=>f k n|_=>d:=by
 cases c with
 |sc v=>cases v<;>rfl
 |_=>rfl
theorem nQ{R:Type}(c:C)(d:R)(f:Bool->R):jC c d f=match c with| .sc (.bool b)=>f b|_=>d:=by
 cases c with
 |sc v=>cases v<;>rfl
 |_=>rfl
theorem A5(op:BinOp):isSh op=false->op≠ .shl/\op≠ .shr:=by
 cases op<;>intro h<;>first|(exact⟨fun e=>BinOp.noConfusion e,fun e=>BinOp.noConfusion e⟩)|cases h
theorem Bk(op:BinOp)(a b:C):vT op a b=bin op a b:=by
 unfold vT
 cases h:isSh op with
 |true=>rfl
 |false=>
  have h':=A5 op h;show(lS a none fun k p=>lS b none fun k' q=>Bool.rec (motive:=fun _=>Option C) none (bz op k p q) (ikF k k'))=_;rw[mO]
  conv=>rhs;unfold bin
  cases a with
  |sc v=>
   cases v with
   |int k p=>
    dsimp only;rw[mO]
    cases b with
    |sc u=>
     cases u with
     |int k' q=>
      dsimp only;rw[bz_eq op k p q h',Cd];split
      ·exact absurd rfl h'.1
      ·exact absurd rfl h'.2
      ·cases ikB k k'<;>rfl
     |_=>rfl
    |_=>rfl
   |_=>rfl
  |_=>rfl
noncomputable def kI (c:C):Option Nat:=lS c none fun _ n=>Int.rec (motive:=fun _=>Option Nat) (fun n=>some n) (fun _=>none) n
theorem mK(c:C):kI c=dc c:=by
 unfold kI;rw[mO]
 cases c with
 |sc v=>cases v with
  |int k n=>cases n<;>rfl
  |_=>rfl
 |_=>rfl
noncomputable def ptF (c:C):Option (Nat×Nat):=
 C.rec (motive_1:=fun _=>Option (Nat×Nat)) (motive_2:=fun _=>PUnit) none (fun _=>none) (fun _=>none) (fun _ _ _ _ _=>none) (fun k o=>some (k,o)) (fun _ _ _=>none) (fun _ _=>none) (fun _ _=>none) (fun _=>none) none ⟨⟩ (fun _ _ _ _=>⟨⟩) c
noncomputable def agF (c:C):Option (List C):=
 C.rec (motive_1:=fun _=>Option (List C)) (motive_2:=fun _=>PUnit) none (fun _=>none) (fun _=>none) (fun _ _ _ _ _=>none) (fun _ _=>none) (fun _ _ _=>none) (fun l _=>some l) (fun _ _=>none) (fun _=>none) none ⟨⟩ (fun _ _ _ _=>⟨⟩) c
noncomputable def oZ (c:C):Option (List C):=
 C.rec (motive_1:=fun _=>Option (List C)) (motive_2:=fun _=>PUnit) none (fun v=>C.flat (.sc v)) (fun z=>some [.nm z]) (fun k o n c x=>some [.sl k o n c x]) (fun k o=>some [.pt k o]) (fun f l _=>some [.fn f l]) (fun l _=>some l) (fun _ _=>none) (fun k=>some [.yl k]) none ⟨⟩ (fun _ _ _ _=>⟨⟩) c
theorem sF(c:C):oZ c=c.flat:=by cases c<;>rfl
noncomputable def pW (l:List CO) (tm:Tm):List C:=List.rec (motive:=fun _=>List C) [] (fun x _ ih=>evF x tm::ih) l
theorem tV(l:List CO)(tm:Tm):pW l tm=l.map (·.ev tm):=by
 induction l with
 |nil=>rfl
 |cons x l ih=>
  show evF x tm::pW l tm=_;rw[ih,bJ];rfl
noncomputable def jX (tm:Tm) (l:List (Nat×Nat×CO)):List (Nat×Nat×C):=
 List.rec (motive:=fun _=>List (Nat×Nat×C)) [] (fun x _ ih=>(x.1,x.2.1,evF x.2.2 tm)::ih) l
theorem qq(tm:Tm)(l:List (Nat×Nat×CO)):jX tm l=parts tm l:=by
 induction l with
 |nil=>rfl
 |cons x l ih=>
  show(x.1,x.2.1,evF x.2.2 tm)::jX tm l=_;rw[ih,bJ];rfl
noncomputable def mp (o:Option C):Option (C×Option B):=Option.rec (motive:=fun _=>Option (C×Option B)) none (fun c=>some (c,none)) o
theorem vA(o:Option C):mp o=o.map (·,none):=by cases o<;>rfl
noncomputable def tK (row:Bool) (l:List C):Option C:=Bool.rec (motive:=fun _=>Option C) (cT false l) (cT true l) row
theorem vj(row:Bool)(l:List C):tK row l=cT row l:=by cases row<;>rfl
noncomputable def lU (row:Bool) (l:List C) (off w:Nat):Option C:=Option.rec (motive:=fun _=>Option C) none (fun m=>tK row m) (kL l off w)
theorem qd(row:Bool)(l:List C)(off w:Nat):lU row l off w=(eJ l off w).bind (cT row):=by
 unfold lU;rw[nM]
 cases eJ l off w with
 |none=>rfl
 |some m=>exact vj row m
noncomputable def slF (w:Nat) (a:C) (i:Nat):Option (C×Option B):=
 C.rec (motive_1:=fun _=>Nat->Nat->Option (C×Option B)) (motive_2:=fun _=>PUnit) (fun _ _=>none) (fun _ _ _=>none) (fun _ _ _=>none)
  (fun k off n _ _ w i=>Bool.rec (motive:=fun _=>Option (C×Option B)) none (some (.pt k (Nat.add off (Nat.mul i w)),none)) (Nat.ble (Nat.succ i) n))
  (fun _ _ _ _=>none) (fun _ _ _ _ _=>none) (fun _ _ _ _=>none) (fun _ _ _ _=>none) (fun _ _ _=>none) (fun _ _=>none) ⟨⟩ (fun _ _ _ _=>⟨⟩) a w i
theorem BE(w:Nat)(a:C)(i:Nat):slF w a i=match a with| .sl k off n _ _=>(match Nat.blt i n with|true=>some (.pt k (off+i*w),none)|false=>none)|_=>none:=by
 cases a with
 |sl k off n c x=>
  show Bool.rec (motive:=fun _=>Option (C×Option B)) none (some (.pt k (off+i*w),none)) (Nat.blt i n)=_;dsimp only;cases Nat.blt i n<;>rfl
 |_=>rfl
noncomputable def lenF (c:C):Option (C×Option B):=
 C.rec (motive_1:=fun _=>Option (C×Option B)) (motive_2:=fun _=>PUnit) none (fun v=>match v with| .slice none n _=>some (ofN n,none)|_=>none) (fun _=>none) (fun _ _ n _ _=>some (.sc (.int .i64 (.ofNat n)),none)) (fun _ _=>none) (fun _ _ _=>none) (fun _ _=>none) (fun _ _=>none) (fun _=>none) (some (ofN 0,none)) ⟨⟩ (fun _ _ _ _=>⟨⟩) c
theorem AN(c:C):lenF c=match c with
  | .sl _ _ n _ _=>some (ofN n,none)
  | .em=>some (ofN 0,none)
  | .sc (.slice none n _)=>some (ofN n,none)
  |_=>none:=by
 cases c with
 |sc v=>cases v with
  |slice a n k=>cases a<;>rfl
  |_=>rfl
 |_=>rfl
noncomputable def ncF (c:C):Option (C×Option B):=
 C.rec (motive_1:=fun _=>Option (C×Option B)) (motive_2:=fun _=>PUnit) none (fun _=>none) (fun _=>none) (fun _ _ _ _ _=>none) (fun k o=>some (.pt k o,none)) (fun f l _=>some (.fn f l,none)) (fun _ _=>none) (fun _ _=>none) (fun k=>some (.yl k,none)) none ⟨⟩ (fun _ _ _ _=>⟨⟩) c
noncomputable def nthF (l:List C):Nat->Option (C×Option B):=
 List.rec (motive:=fun _=>Nat->Option (C×Option B)) (fun _=>none) (fun c _ ih n=>Nat.rec (motive:=fun _=>Option (C×Option B)) (some (c,none)) (fun n _=>ih n) n) l
theorem Ay(l:List C)(n:Nat):nthF l n=l[n]?.map (·,none):=by
 induction l generalizing n with
 |nil=>rfl
 |cons c l ih=>
  cases n with
  |zero=>rfl
  |succ n=>
   show nthF l n=_;rw[ih];rfl
noncomputable def tpF (c:C):Nat->Option (C×Option B):=
 C.rec (motive_1:=fun _=>Nat->Option (C×Option B)) (motive_2:=fun _=>PUnit) (fun _=>none) (fun _ _=>none) (fun _ _=>none) (fun _ _ _ _ _ _=>none) (fun _ _ _=>none) (fun _ _ _ _=>none) (fun _ _ _=>none) (fun l _ n=>nthF l n) (fun _ _=>none) (fun _=>none) ⟨⟩ (fun _ _ _ _=>⟨⟩) c
noncomputable def xTF (x:X):Tm->Nat->Option (C×Option B):=
 X.rec (motive:=fun _=>Tm->Nat->Option (C×Option B))
  (fun x tm _=>some (evF x tm,none))
  (fun c a b tm _=>jC (evF c tm) none fun t=>Bool.rec (motive:=fun _=>Option (C×Option B)) (some (evF b tm,none)) (some (evF a tm,none)) t)
  (fun T z _ next=>some (.pt next 0,some (.cells T z)))
  (fun T x tm next=>Option.rec (motive:=fun _=>Option (C×Option B)) none (fun p=>some (.pt next 0,some (.cells T p))) (oZ (evF x tm)))
  (fun z ps tm _=>Option.rec (motive:=fun _=>Option (C×Option B)) none (fun l=>some (.ag l,none)) (eO z (jX tm ps)))
  (fun T _ len z ps tm next=>Option.rec (motive:=fun _=>Option (C×Option B)) none (fun l=>some (.sl next 0 len len true,some (.cells T l))) (eO (dp z len) (jX tm ps)))
  (fun _ _ _ _ _=>none)
  (fun _ _ _ _ _=>none)
  (fun op x y tm _=>mp (vT op (evF x tm) (evF y tm)))
  (fun ng x y tm _=>(vU ng (evF x tm) (evF y tm)).map (·,none))
  (fun ng x y tm _=>(qR ng (evF x tm) (evF y tm)).map (·,none))
  (fun op x tm _=>(un op (evF x tm)).map (·,none))
  (fun k x tm _=>lS (evF x tm) none fun _ n=>some (.sc (.int k (wrF k n)),none))
  (fun f cs tm _=>some (.fn f (pW cs tm),none))
  (fun T _ _ z l c tm next=>match kI (evF l tm),kI (evF c tm)with
   |some l,some c=>match Nat.ble l c,Nat.ble c 1000000 with
    |true,true=>some (.sl next 0 l c true,some (.cells T (dp z c)))
    |_,_=>none
   |_,_=>none)
  (fun w x lo hi mx tm _=>match evF x tm with
   | .sl k off n c e=>
    match cX tm 0 lo,cX tm n hi,cX tm c mx with
    |some l,some h,some m=>match Nat.ble m c,Nat.ble h m,Nat.ble l h with
     |true,true,true=>match qS w off l m (oW mx e)with
      |some o=>some (.sl k o (h-l) (m-l) (oW mx e),none)
      |none=>match Nat.beq l h with
       |true=>some (.em,none)
       |false=>none
     |_,_,_=>none
    |_,_,_=>none
   | .sc (.slice none 0 0)=>match cX tm 0 hi,cX tm 0 lo,cX tm 0 mx with
    |some 0,some 0,some 0=>some (.sc (.slice none 0 0),none)
    |_,_,_=>none
   |_=>none)
  (fun off x tm _=>Option.rec (motive:=fun _=>Option (C×Option B)) none (fun p=>some (.pt p.1 (Nat.add p.2 off),none)) (ptF (evF x tm)))
  (fun row off w x tm _=>Option.rec (motive:=fun _=>Option (C×Option B)) none (fun l=>mp (lU row l off w)) (agF (evF x tm)))
  (fun w len x i tm _=>Option.rec (motive:=fun _=>Option (C×Option B)) none (fun i=>Option.rec (motive:=fun _=>Option (C×Option B)) (slF w (evF x tm) i) (fun n=>Option.rec (motive:=fun _=>Option (C×Option B)) none (fun p=>Bool.rec (motive:=fun _=>Option (C×Option B)) none (some (.pt p.1 (Nat.add p.2 (Nat.mul i w)),none)) (Nat.ble (Nat.succ i) n)) (ptF (evF x tm))) len) (kI (evF i tm)))
  (fun row w len x i tm _=>Option.rec (motive:=fun _=>Option (C×Option B)) none (fun i=>Option.rec (motive:=fun _=>Option (C×Option B)) none (fun l=>Bool.rec (motive:=fun _=>Option (C×Option B)) none (mp (lU row l (Nat.mul i w) w)) (Nat.ble (Nat.succ i) len)) (agF (evF x tm))) (kI (evF i tm)))
  (fun x i tm _=>match kI (evF i tm),evF x tm with
   |some i, .sc (.string s)=>s[i]?.map fun b=>(.sc (.int .u8 b.toNat),none)
   |_,_=>none)
  (fun x i tm _=>tpF (evF x tm) i)
  (fun x tm _=>ncF (evF x tm))
  (fun str x tm _ => Bool.rec (motive := fun _ => Option (C × Option B)) (lenF (evF x tm)) (match evF x tm with
        | .sc (.string s)=>some (ofN s.size,none)
        |_=>none) str)
  (fun gt x y tm _=>match evF x tm,evF y tm with
   | .sc (.int k p), .sc (.int _ q)=>match gt with
    |true=>some (.sc (.int k (if q>p then q else p)),none)
    |false=>some (.sc (.int k (if q<p then q else p)),none)
   |_,_=>none)
  (fun _ _ _ _ _ _=>none)
  (fun _ _ _ _ _ _=>none)
  (fun x tm _=>match evF x tm with
   | .sl _ _ _ c true=>some (ofN c,none)
   | .sc (.slice none _ c)=>some (ofN c,none)
   |_=>none)
  (fun _ _ _ _ _=>none)
  (fun _ _=>none)
  (fun _ _ _ _=>none)
  x
theorem oN(c:C):ptF c=match c with| .pt k o=>some (k,o)|_=>none:=by cases c<;>rfl
theorem xV(c:C):agF c=match c with| .ag l=>some l|_=>none:=by cases c<;>rfl
theorem BS(c:C):ncF c=match c with
 | .pt k o=>some (.pt k o,none)
 | .fn f c=>some (.fn f c,none)
 | .yl k=>some (.yl k,none)
 |_=>none:=by cases c<;>rfl
theorem wu(x:X)(tm:Tm)(next:Nat):xTF x tm next=xT x tm next:=by
 cases x
 case pick c a b=>
  show(jC (evF c tm) none fun t=>Bool.rec (motive:=fun _=>Option (C×Option B)) (some (evF b tm,none)) (some (evF a tm,none)) t)=_;simp only[bJ,nQ,xT]
  cases c.ev tm with
  |sc v=>cases v with
   |bool b=>cases b<;>rfl
   |_=>rfl
  |_=>rfl
 case box T x=>
  show Option.rec (motive:=fun _=>Option (C×Option B)) none (fun p=>some (.pt next 0,some (.cells T p))) (oZ (evF x tm))=_;simp only[bJ,sF,xT];cases(x.ev tm).flat<;>rfl
 case build z ps=>
  show Option.rec (motive:=fun _=>Option (C×Option B)) none (fun l=>some (.ag l,none)) (eO z (jX tm ps))=_;simp only[qq,xT];cases eO z (parts tm ps)<;>rfl
 case bsl T w len z ps=>
  show Option.rec (motive:=fun _=>Option (C×Option B)) none (fun l=>some (.sl next 0 len len true,some (.cells T l))) (eO (dp z len) (jX tm ps))=_;simp only[qq,xT];cases eO (dp z len) (parts tm ps)<;>rfl
 case bin op x y=>
  show mp (vT op (evF x tm) (evF y tm))=_;simp only[bJ,Bk,vA,xT]
 case mkf f cs=>
  show some (C.fn f (pW cs tm),none)=_;simp only[tV,xT]
 case conv k x=>
  show(lS (evF x tm) none fun _ n=>some (C.sc (.int k (wrF k n)),none))=(_:Option (C×Option B));simp only[bJ,mO,lx,xT];rfl
 case fa off x=>
  show Option.rec (motive:=fun _=>Option (C×Option B)) none (fun p=>some (.pt p.1 (Nat.add p.2 off),none)) (ptF (evF x tm))=_;simp only[bJ,oN,xT];cases x.ev tm<;>rfl
 case fd row off w x=>
  show Option.rec (motive:=fun _=>Option (C×Option B)) none (fun l=>mp (lU row l off w)) (agF (evF x tm))=_;simp only[bJ,xV,qd,vA,xT];cases x.ev tm<;>rfl
 case ia w len x i=>
  show Option.rec (motive:=fun _=>Option (C×Option B)) none (fun i=>Option.rec (motive:=fun _=>Option (C×Option B)) (slF w (evF x tm) i) (fun n=>Option.rec (motive:=fun _=>Option (C×Option B)) none (fun p=>Bool.rec (motive:=fun _=>Option (C×Option B)) none (some (.pt p.1 (p.2+i*w),none)) (Nat.blt i n)) (ptF (evF x tm))) len) (kI (evF i tm))=_;simp only[bJ,mK,BE,oN,xT]
  cases dc (i.ev tm)with
  |none=>rfl
  |some i=>
   cases len with
   |none=>cases x.ev tm<;>rfl
   |some n=>
    cases x.ev tm with
    |pt k o=>
     show Bool.rec (motive:=fun _=>Option (C×Option B)) none (some (.pt k (o+i*w),none)) (Nat.blt i n)=_;dsimp only;cases Nat.blt i n<;>rfl
    |_=>rfl
 case ix row w len x i=>
  show Option.rec (motive:=fun _=>Option (C×Option B)) none (fun i=>Option.rec (motive:=fun _=>Option (C×Option B)) none (fun l=>Bool.rec (motive:=fun _=>Option (C×Option B)) none (mp (lU row l (i*w) w)) (Nat.blt i len)) (agF (evF x tm))) (kI (evF i tm))=_;simp only[bJ,mK,xV,qd,vA,xT]
  cases dc (i.ev tm)with
  |none=>rfl
  |some i=>
   cases x.ev tm with
   |ag l=>
    show Bool.rec (motive:=fun _=>Option (C×Option B)) none (((eJ l (i*w) w).bind (cT row)).map (·,none)) (Nat.blt i len)=_;dsimp only;cases Nat.blt i len<;>rfl
   |_=>rfl
 case nc x=>
  show ncF (evF x tm)=_;simp only[bJ,BS,xT];try rfl
 case ext x i=>
  show tpF (evF x tm) i=_;simp only[bJ,xT]
  cases x.ev tm with
  |tp l=>exact Ay l i
  |_=>rfl
 case len str x=>
  show Bool.rec (motive := fun _ => Option (C × Option B)) (lenF (evF x tm)) (match evF x tm with
      | .sc (.string s)=>some (ofN s.size,none)
      |_=>none) str=_
  simp only[bJ,AN,xT];cases str<;>rfl
 case mv x=>
  show some (evF x tm,none)=_;rw[bJ];rfl
 all_goals first
  |rfl
  |(unfold xTF;dsimp only;simp only[bJ,mK,xT];done)
  |(unfold xTF;dsimp only;simp only[bJ,mK,xT];rfl)
noncomputable def kU {R:Type} (b:Option B) (d:R) (f:Nat->List C->R):R:=
 Option.rec (motive:=fun _=>R) d (fun b=>B.rec (motive:=fun _=>R) f (fun _ _ _ _ _ _ _=>d) (fun _=>d) b) b
theorem mR{R:Type}(b:Option B)(d:R)(f:Nat->List C->R):kU b d f=match b with|some (.cells T l)=>f T l|_=>d:=by
 cases b with
 |none=>rfl
 |some b=>cases b<;>rfl
noncomputable def mN (row:Bool) (w:Nat) (a:C) (h:H):Option C:=
 Option.rec (motive:=fun _=>Option C) none (fun p=>kU (h.ez p.1) none fun _ l=>lU row l p.2 w) (ptF a)
theorem sy(row:Bool)(w:Nat)(a:C)(h:H):mN row w a h=ir row w a h:=by
 unfold mN ir;rw[oN]
 cases a with
 |pt k off=>
  show kU (h.ez k) none (fun _ l=>lU row l off w)=_;rw[mR,kK];simp only[qd];rfl
 |_=>rfl
noncomputable def oF (w:Nat) (a v:C) (h:H):Option H:=
 Option.rec (motive:=fun _=>Option H) none (fun p=>kU (h.ez p.1) none fun T l=>
  Option.rec (motive:=fun _=>Option H) none (fun q=>Bool.rec (motive:=fun _=>Option H) none
   (Option.rec (motive:=fun _=>Option H) none (fun l'=>some (h.lD p.1 (some (.cells T l')))) (mE l p.2 w q)) (Nat.beq (ly q) w)) (oZ v)) (ptF a)
theorem wJ(w:Nat)(a v:C)(h:H):oF w a v h=gW w a v h:=by
 unfold oF gW;rw[oN]
 cases a with
 |pt k off=>
  show(kU (h.ez k) none fun T l=>
   Option.rec (motive:=fun _=>Option H) none (fun q=>Bool.rec (motive:=fun _=>Option H) none
    (Option.rec (motive:=fun _=>Option H) none (fun l'=>some (h.lD k (some (.cells T l')))) (mE l off w q)) (Nat.beq (ly q) w)) (oZ v))=_
  rw[mR,kK,sF];simp only[rU,sC]
  cases h.get k with
  |none=>rfl
  |some b=>
   cases b with
   |cells T l=>
    dsimp only
    cases v.flat with
    |none=>rfl
    |some q=>
     simp only[dW]
     cases Nat.beq (ly q) w with
     |false=>rfl
     |true=>cases iH l off w q<;>rfl
   |_=>rfl
 |_=>rfl
noncomputable def slWF (w:Nat) (a:C) (h:H):Option (List C×Nat):=
 C.rec (motive_1:=fun _=>Nat->H->Option (List C×Nat)) (motive_2:=fun _=>PUnit) (fun _ _=>none) (fun v w h=>slW w (.sc v) h) (fun _ _ _=>none)
  (fun k off n _ _ w h=>kU (h.ez k) none fun _ l=>Option.rec (motive:=fun _=>Option (List C×Nat)) none (fun m=>some (m,n)) (kL l off (Nat.mul n w)))
  (fun _ _ _ _=>none) (fun _ _ _ _ _=>none) (fun _ _ _ _=>none) (fun _ _ _ _=>none) (fun _ _ _=>none) (fun _ _=>some ([],0)) ⟨⟩ (fun _ _ _ _=>⟨⟩) a w h
theorem Ak(w:Nat)(a:C)(h:H):slWF w a h=slW w a h:=by
 cases a with
 |sl k off n c x=>
  show(kU (h.ez k) none fun _ l=>Option.rec (motive:=fun _=>Option (List C×Nat)) none (fun m=>some (m,n)) (kL l off (n*w)))=_;unfold slW;rw[mR,kK];simp only[nM]
  cases h.get k with
  |none=>rfl
  |some b=>
   cases b with
   |cells T l=>
    dsimp only;cases eJ l off (n*w)<;>rfl
   |_=>rfl
 |_=>rfl
noncomputable def wa (T w:Nat) (a:C) (new:List C) (m:Nat) (h:H):Option (C×H):=
 Nat.rec (motive:=fun _=>Option (C×H)) (jc T w a new 0 h) (fun _ _=>
  C.rec (motive_1:=fun _=>Option (C×H)) (motive_2:=fun _=>PUnit) none
   (fun v=>jc T w (.sc v) new m h) (fun _=>none)
   (fun k off n c e=>kU (h.ez k) none fun T' l=>Bool.rec (motive:=fun _=>Option (C×H)) none
    (Bool.rec (motive:=fun _=>Option (C×H))
     (Bool.rec (motive:=fun _=>Option (C×H)) none
      (Option.rec (motive:=fun _=>Option (C×H)) none (fun old=>Bool.rec (motive:=fun _=>Option (C×H))
       (Nat.rec (motive:=fun _=>Option (C×H)) (Option.rec (motive:=fun _=>Option (C×H)) none (fun h'=>some (.sl h.next 0 (Nat.add n m) (Nat.add n m) false,h')) ((h.lD k none).kH (.cells T' (fL old new)))) (fun _ _=>none) off)
       (Option.rec (motive:=fun _=>Option (C×H)) none (fun h'=>some (.sl h.next 0 (Nat.add n m) (Nat.add n m) false,h')) (h.kH (.cells T' (fL old new)))) e) (kL l off (Nat.mul n w)))
      (Nat.ble (Nat.add n m) 1000000))
     (Option.rec (motive:=fun _=>Option (C×H)) none (fun l'=>some (.sl k off (Nat.add n m) c e,h.lD k (some (.cells T' l')))) (mE l (Nat.add off (Nat.mul n w)) (Nat.mul m w) new))
     (Nat.ble (Nat.add n m) c)) (Nat.beq T' T))
   (fun _ _=>none) (fun _ _ _=>none) (fun _ _=>none) (fun _ _=>none) (fun _=>none) none ⟨⟩ (fun _ _ _ _=>⟨⟩) a) m
theorem zk(T w:Nat)(a:C)(new:List C)(m:Nat)(h:H):wa T w a new m h=jc T w a new m h:=by
 cases m with
 |zero=>rfl
 |succ m=>
  cases a with
  |sl k off n c e=>
   show(kU (h.ez k) none fun T' l=>Bool.rec (motive:=fun _=>Option (C×H)) none
    (Bool.rec (motive:=fun _=>Option (C×H))
     (Bool.rec (motive:=fun _=>Option (C×H)) none
      (Option.rec (motive:=fun _=>Option (C×H)) none (fun old=>Bool.rec (motive:=fun _=>Option (C×H))
       (Nat.rec (motive:=fun _=>Option (C×H)) (Option.rec (motive:=fun _=>Option (C×H)) none (fun h'=>some (.sl h.next 0 (n+(m+1)) (n+(m+1)) false,h')) ((h.lD k none).kH (.cells T' (fL old new)))) (fun _ _=>none) off)
       (Option.rec (motive:=fun _=>Option (C×H)) none (fun h'=>some (.sl h.next 0 (n+(m+1)) (n+(m+1)) false,h')) (h.kH (.cells T' (fL old new)))) e) (kL l off (n*w)))
      (Nat.ble (n+(m+1)) 1000000))
     (Option.rec (motive:=fun _=>Option (C×H)) none (fun l'=>some (.sl k off (n+(m+1)) c e,h.lD k (some (.cells T' l')))) (mE l (off+n*w) ((m+1)*w) new))
     (Nat.ble (n+(m+1)) c)) (Nat.beq T' T))=_
   rw[mR,kK];simp only[rU,sC,nJ,nM,mU];unfold jc;dsimp only
   cases h.get k with
   |none=>rfl
   |some b=>
    cases b with
    |cells T' l=>
     dsimp only
     cases Nat.beq T' T with
     |false=>rfl
     |true=>
      dsimp only
      cases Nat.ble (n+(m+1)) c with
      |true=>cases iH l (off+n*w) ((m+1)*w) new<;>rfl
      |false=>
       dsimp only
       cases Nat.ble (n+(m+1)) 1000000 with
       |false=>rfl
       |true=>
        dsimp only
        cases eJ l off (n*w)with
        |none=>rfl
        |some old=>
         cases e with
         |true=>
          simp only[dW];cases h.new (.cells T' (old++new))<;>rfl
         |false=>
          simp only[dW]
          cases off with
          |zero=>
           cases(h.set k none).new (.cells T' (old++new))<;>rfl
          |succ off=>rfl
    |_=>rfl
  |_=>rfl
noncomputable def xRF (x:X):Rec->Tm->H->Option (C×H):=
 X.rec (motive:=fun _=>Rec->Tm->H->Option (C×H))
  (fun _ _ _ _=>none) (fun _ _ _ _ _ _=>none) (fun _ _ _ _ _=>none) (fun _ _ _ _ _=>none) (fun _ _ _ _ _=>none) (fun _ _ _ _ _ _ _ _=>none)
  (fun row w a _ tm h=>Option.rec (motive:=fun _=>Option (C×H)) none (fun c=>some (c,h)) (mN row w (evF a tm) h))
  (fun w a v _ tm h=>Option.rec (motive:=fun _=>Option (C×H)) none (fun h'=>some (.any,h')) (oF w (evF a tm) (evF v tm) h))
  (fun _ _ _ _ _ _=>none) (fun _ _ _ _ _ _=>none) (fun _ _ _ _ _ _=>none) (fun _ _ _ _ _=>none) (fun _ _ _ _ _=>none) (fun _ _ _ _ _=>none)
  (fun _ _ _ _ _ _ _ _ _=>none) (fun _ _ _ _ _ _ _ _=>none) (fun _ _ _ _ _=>none) (fun _ _ _ _ _ _ _=>none) (fun _ _ _ _ _ _ _=>none) (fun _ _ _ _ _ _ _ _=>none)
  (fun _ _ _ _ _=>none) (fun _ _ _ _ _=>none) (fun _ _ _ _=>none) (fun _ _ _ _ _=>none) (fun _ _ _ _ _ _=>none)
  (fun T w a b _ tm h=>Option.rec (motive:=fun _=>Option (C×H)) none (fun p=>wa T w (evF a tm) p.1 p.2 h) (slWF w (evF b tm) h))
  (fun T z a n rec tm h=>xR rec (.appz T z a n) tm h)
  (fun _ _ _ _=>none)
  (fun w z a rec tm h=>xR rec (.clr w z a) tm h)
  (fun _ _ _=>none)
  (fun f args rec tm h=>Option.rec (motive:=fun _=>Option (C×H)) none (fun o=>Out.rec (motive:=fun _=>Option (C×H)) (fun _ _ _ _=>none) (fun c h=>some (c,h)) o) (rec (.call (evF f tm) (pW args tm) h)))
  x
theorem wy(x:X)(rec:Rec)(tm:Tm)(h:H):xRF x rec tm h=xR rec x tm h:=by
 cases x
 case load row w a=>
  show Option.rec (motive:=fun _=>Option (C×H)) none (fun c=>some (c,h)) (mN row w (evF a tm) h)=_;rw[bJ,sy];unfold xR;dsimp only;cases ir row w (a.ev tm) h<;>rfl
 case store w a v=>
  show Option.rec (motive:=fun _=>Option (C×H)) none (fun h'=>some (.any,h')) (oF w (evF a tm) (evF v tm) h)=_;rw[bJ,bJ,wJ];unfold xR;dsimp only;cases gW w (a.ev tm) (v.ev tm) h<;>rfl
 case app T w a b=>
  show Option.rec (motive:=fun _=>Option (C×H)) none (fun p=>wa T w (evF a tm) p.1 p.2 h) (slWF w (evF b tm) h)=_;rw[bJ,bJ,Ak];unfold xR rI;dsimp only
  cases slW w (b.ev tm) h with
  |none=>rfl
  |some p=>exact zk ..
 case cal f args=>
  show Option.rec (motive:=fun _=>Option (C×H)) none (fun o=>Out.rec (motive:=fun _=>Option (C×H)) (fun _ _ _ _=>none) (fun c h=>some (c,h)) o) (rec (.call (evF f tm) (pW args tm) h))=_;rw[bJ,tV];unfold xR;dsimp only
  cases rec (.call (f.ev tm) (args.map (·.ev tm)) h)with
  |none=>rfl
  |some o=>cases o<;>rfl
 all_goals rfl
noncomputable def fk (tm:Tm) (dst:Option Nat) (c:C):Tm:=Option.rec (motive:=fun _=>Tm) tm (fun t=>T.jE 24 tm t (some c)) dst
theorem sd(tm:Tm)(dst:Option Nat)(c:C):fk tm dst c=eI tm dst c:=by
 cases dst with
 |none=>rfl
 |some t=>exact mJ 24 tm t (some c)
noncomputable def mA (o:RO) (tm:Tm):Option Bool:=
 Option.rec (motive:=fun _=>Option Bool) (some true)
  (fun p=>Option.rec (motive:=fun _=>Option Bool) none (fun c=>jC c none fun b=>some (Bool.rec (motive:=fun _=>Bool) (jF b) b p.2)) (tm.ez p.1)) o.g
theorem rL(o:RO)(tm:Tm):mA o tm=dC o tm:=by
 unfold mA dC
 cases o.g with
 |none=>rfl
 |some p=>
  obtain⟨t,b⟩:=p;show Option.rec (motive:=fun _=>Option Bool) none (fun c=>jC c none fun b'=>some (Bool.rec (motive:=fun _=>Bool) (jF b') b' b)) (tm.ez t)=_;rw[qe];dsimp only
  cases tm.get t with
  |none=>rfl
  |some c=>
   show(jC c none fun b'=>some (Bool.rec (motive:=fun _=>Bool) (jF b') b' b))=_;rw[nQ]
   cases c with
   |sc v=>
    cases v with
    |bool b'=>cases b<;>cases b'<;>rfl
    |_=>rfl
   |_=>rfl
noncomputable def wb (h:H) (b:Option B):Option H:=Option.rec (motive:=fun _=>Option H) (some h) (fun b=>h.kH b) b
theorem zl(h:H)(b:Option B):wb h b=h.fw b:=by
 cases b with
 |none=>rfl
 |some b=>exact nJ h b
noncomputable def xAF (x:X) (rec:Rec) (tm:Tm) (h:H):Option (C×H):=
 Bool.rec (motive:=fun _=>Option (C×H)) (xRF x rec tm h)
  (Option.rec (motive:=fun _=>Option (C×H)) none (fun p=>Option.rec (motive:=fun _=>Option (C×H)) none (fun h'=>some (p.1,h')) (wb h p.2)) (xTF x tm h.next)) x.isT
theorem Bx(x:X)(rec:Rec)(tm:Tm)(h:H):xAF x rec tm h=ns rec x tm h:=by
 unfold xAF ns;rw[wy,wu]
 cases x.isT with
 |false=>rfl
 |true=>
  dsimp only
  cases xT x tm h.next with
  |none=>rfl
  |some p=>
   obtain⟨c,b⟩:=p;show Option.rec (motive:=fun _=>Option (C×H)) none (fun h'=>some (c,h')) (wb h b)=_;rw[zl];simp only[dW];cases h.fw b<;>rfl
noncomputable def oM (l:List RO):Rec->Tm->H->Option (Tm×H):=
 List.rec (motive:=fun _=>Rec->Tm->H->Option (Tm×H)) (fun _ tm h=>some (tm,h))
  (fun o _ ih rec tm h=>Option.rec (motive:=fun _=>Option (Tm×H)) none (fun b=>Bool.rec (motive:=fun _=>Option (Tm×H))
   (ih rec (fk tm o.dst .any) h)
   (Option.rec (motive:=fun _=>Option (Tm×H)) none (fun p=>ih rec (fk tm o.dst p.1) p.2) (xAF o.x rec tm h)) b) (mA o tm)) l
theorem yx(l:List RO)(rec:Rec)(tm:Tm)(h:H):oM l rec tm h=ib rec l tm h:=by
 induction l generalizing tm h with
 |nil=>rfl
 |cons o l ih=>
  show Option.rec (motive:=fun _=>Option (Tm×H)) none (fun b=>Bool.rec (motive:=fun _=>Option (Tm×H))
   (oM l rec (fk tm o.dst .any) h)
   (Option.rec (motive:=fun _=>Option (Tm×H)) none (fun p=>oM l rec (fk tm o.dst p.1) p.2) (xAF o.x rec tm h)) b) (mA o tm)=_
  simp only[ih,rL,Bx,sd]
  conv=>rhs;unfold ib
  cases dC o tm with
  |none=>rfl
  |some b=>
   cases b with
   |false=>rfl
   |true=>
    dsimp only;cases ns rec o.x tm h<;>rfl
noncomputable def qh (c:C):List Nat:=
 C.rec (motive_1:=fun _=>List Nat) (motive_2:=fun _=>PUnit) [] (fun _=>[]) (fun _=>[]) (fun k _ _ _ _=>[k]) (fun k _=>[k]) (fun _ _ _=>[]) (fun _ _=>[]) (fun _ _=>[]) (fun _=>[]) [] ⟨⟩ (fun _ _ _ _=>⟨⟩) c
theorem Bj(c:C):qh c=mT c:=by cases c<;>rfl
noncomputable def lv (x:X) (tm:Tm):Ft:=
 match x with
 | .load _ _ a=>some (qh (evF a tm))
 | .store _ a _=>some (qh (evF a tm))
 | .app _ _ a b=>some (qh (evF a tm)++qh (evF b tm))
 | .clr _ _ a=>some (qh (evF a tm))
 |_=>none
theorem zW(x:X)(tm:Tm):lv x tm=xFt x tm:=by
 cases x;all_goals first
  |rfl
  |(unfold lv xFt;simp only[Bj,bJ])
noncomputable def kz (l:List RO):Rec->Nat->List (Nat×Nat×Nat)->List (Nat×Bool×Ft)->Tm->H->Option (Tm×H):=
 List.rec (motive:=fun _=>Rec->Nat->List (Nat×Nat×Nat)->List (Nat×Bool×Ft)->Tm->H->Option (Tm×H)) (fun _ _ _ _ tm h=>some (tm,h))
  (fun o _ ih rec j iv rw tm h=>Option.rec (motive:=fun _=>Option (Tm×H)) none (fun b=>Bool.rec (motive:=fun _=>Option (Tm×H))
   (ih rec (Nat.succ j) iv rw (fk tm o.dst .any) h)
   (Bool.rec (motive:=fun _=>Option (Tm×H))
    (Option.rec (motive := fun _ => Option (Tm × H)) none (fun p => Bool.rec (motive := fun _ => Option (Tm × H))
        (ih rec (Nat.succ j) (match Nat.blt h.next p.2.next with|true=>(j,h.next,p.2.next)::iv|false=>iv) ((j,Nat.blt p.2.low h.next,lv o.x tm)::rw) (fk tm o.dst p.1)
         ⟨p.2.next,(match Nat.blt p.2.low h.low with|true=>p.2.low|false=>h.low),h.forb,p.2.t⟩) none (gS o.pre (Nat.blt p.2.low h.next) (lv o.x tm) rw))
     (xRF o.x rec tm ⟨h.next,h.next,iK h.next (lv o.x tm) (eA o.pre iv h.forb),h.t⟩))
    (Option.rec (motive := fun _ => Option (Tm × H)) none (fun p => Option.rec (motive := fun _ => Option (Tm × H)) (ih rec (Nat.succ j) iv rw (fk tm o.dst p.1) h)
        (fun b=>Option.rec (motive:=fun _=>Option (Tm×H)) none (fun h'=>ih rec (Nat.succ j) ((j,h.next,h'.next)::iv) rw (fk tm o.dst p.1) h') (h.kH b)) p.2)
     (xTF o.x tm h.next)) o.x.isT) b) (mA o tm)) l
theorem yy(l:List RO)(rec:Rec)(j:Nat)(iv:List (Nat×Nat×Nat))(rw:List (Nat×Bool×Ft))(tm:Tm)(h:H):kz l rec j iv rw tm h=dK rec l j iv rw tm h:=by
 induction l generalizing j iv rw tm h with
 |nil=>rfl
 |cons o l ih=>
  show Option.rec (motive:=fun _=>Option (Tm×H)) none (fun b=>Bool.rec (motive:=fun _=>Option (Tm×H))
   (kz l rec (j+1) iv rw (fk tm o.dst .any) h)
   (Bool.rec (motive:=fun _=>Option (Tm×H))
    (Option.rec (motive := fun _ => Option (Tm × H)) none (fun p => Bool.rec (motive := fun _ => Option (Tm × H))
        (kz l rec (j+1) (match Nat.blt h.next p.2.next with|true=>(j,h.next,p.2.next)::iv|false=>iv) ((j,Nat.blt p.2.low h.next,lv o.x tm)::rw) (fk tm o.dst p.1)
         ⟨p.2.next,(match Nat.blt p.2.low h.low with|true=>p.2.low|false=>h.low),h.forb,p.2.t⟩) none (gS o.pre (Nat.blt p.2.low h.next) (lv o.x tm) rw))
     (xRF o.x rec tm ⟨h.next,h.next,iK h.next (lv o.x tm) (eA o.pre iv h.forb),h.t⟩))
    (Option.rec (motive := fun _ => Option (Tm × H)) none (fun p => Option.rec (motive := fun _ => Option (Tm × H)) (kz l rec (j + 1) iv rw (fk tm o.dst p.1) h)
        (fun b=>Option.rec (motive:=fun _=>Option (Tm×H)) none (fun h'=>kz l rec (j+1) ((j,h.next,h'.next)::iv) rw (fk tm o.dst p.1) h') (h.kH b)) p.2)
     (xTF o.x tm h.next)) o.x.isT) b) (mA o tm)=_
  simp only[ih,rL,wy,wu,zW,sd,nJ]
  conv=>rhs;unfold dK
  cases dC o tm with
  |none=>rfl
  |some b=>
   cases b with
   |false=>rfl
   |true=>
    dsimp only
    cases o.x.isT with
    |true=>
     dsimp only
     cases xT o.x tm h.next with
     |none=>rfl
     |some p=>
      obtain⟨c,b⟩:=p
      cases b with
      |none=>rfl
      |some b=>
       dsimp only;cases h.new b<;>rfl
    |false=>
     dsimp only
     cases xR rec o.x tm ⟨h.next,h.next,iK h.next (xFt o.x tm) (eA o.pre iv h.forb),h.t⟩with
     |none=>rfl
     |some p=>
      obtain⟨c,h'⟩:=p;dsimp only;cases gS o.pre (Nat.blt h'.low h.next) (xFt o.x tm) rw<;>rfl
noncomputable def sa (l:List RV):Tm->H->Option (List C):=
 List.rec (motive:=fun _=>Tm->H->Option (List C)) (fun _ _=>some [])
  (fun r _ ih tm h=>RV.rec (motive:=fun _=>Option (List C))
   (fun t=>Option.rec (motive:=fun _=>Option (List C)) none (fun m=>some (evF (.t t) tm::m)) (ih tm h))
   (fun t row w=>Option.rec (motive:=fun _=>Option (List C)) none (fun c=>Option.rec (motive:=fun _=>Option (List C)) none (fun m=>some (c::m)) (ih tm h)) (mN row w (evF (.t t) tm) h)) r) l
theorem tQ(l:List RV)(tm:Tm)(h:H):sa l tm h=results tm h l:=by
 induction l with
 |nil=>rfl
 |cons r l ih=>
  cases r with
  |tmp t=>
   show Option.rec (motive:=fun _=>Option (List C)) none (fun m=>some (evF (.t t) tm::m)) (sa l tm h)=_;rw[ih,bJ]
   conv=>rhs;unfold results
   cases results tm h l<;>rfl
  |cell t row w=>
   show Option.rec (motive:=fun _=>Option (List C)) none (fun c=>Option.rec (motive:=fun _=>Option (List C)) none (fun m=>some (c::m)) (sa l tm h)) (mN row w (evF (.t t) tm) h)=_;rw[ih,bJ,sy]
   conv=>rhs;unfold results
   cases ir row w (CO.ev tm (CO.t t)) h with
   |none=>rfl
   |some c=>
    simp only[dW];cases results tm h l<;>rfl
noncomputable def lenL (l:List C):Nat:=List.rec (motive:=fun _=>Nat) 0 (fun _ _ n=>Nat.succ n) l
theorem AK(l:List C):lenL l=l.length:=by
 induction l with
 |nil=>rfl
 |cons c l ih=>
  show Nat.succ (lenL l)=_;rw[ih];rfl
noncomputable def vq (f:Nat) (l:List C):Nat->Tm->Tm:=
 List.rec (motive:=fun _=>Nat->Tm->Tm) (fun _ tm=>tm) (fun c _ ih k tm=>ih (Nat.succ k) (T.jE f tm k (some c))) l
theorem yu(f:Nat)(l:List C)(k:Nat)(tm:Tm):vq f l k tm=setArgs f k l tm:=by
 induction l generalizing k tm with
 |nil=>rfl
 |cons c l ih=>
  show vq f l (k+1) (T.jE f tm k (some c))=_;rw[ih,mJ];rfl
noncomputable def codeF (c:CC):Env->Rec->Tm->List Nat->Option Nat->H->Option Out:=
 CC.rec (motive:=fun _=>Env->Rec->Tm->List Nat->Option Nat->H->Option Out)
  (fun _ _ tm ds _ h=>some (.code .norm tm ds h))
  (fun _ _ tm ds _ h=>some (.code .ret tm ds h))
  (fun id _ _ tm ds _ h=>some (.code (.exit id) tm ds h))
  (fun a b _ _ _ rec tm ds rd h=>Option.rec (motive:=fun _=>Option Out) none
   (fun o=>Out.rec (motive:=fun _=>Option Out)
    (fun e tm ds h=>Ex.rec (motive:=fun _=>Option Out) (rec (.code b tm ds rd h)) (some (.code .ret tm ds h)) (fun i=>some (.code (.exit i) tm ds h)) e)
    (fun c h=>some (.val c h)) o) (rec (.code a tm ds rd h)))
  (fun c a b _ _ _ rec tm ds rd h=>jC (evF c tm) none fun t=>Bool.rec (motive:=fun _=>Option Out) (rec (.code b tm ds rd h)) (rec (.code a tm ds rd h)) t)
  (fun id c _ _ rec tm ds rd h=>Option.rec (motive:=fun _=>Option Out) none
   (fun o=>Out.rec (motive:=fun _=>Option Out)
    (fun e tm ds h=>Ex.rec (motive:=fun _=>Option Out) (some (.code .norm tm ds h)) (some (.code .ret tm ds h))
     (fun i=>Bool.rec (motive:=fun _=>Option Out) (some (.code (.exit i) tm ds h)) (some (.code .norm tm ds h)) (Nat.beq i id)) e)
    (fun c h=>some (.val c h)) o) (rec (.code c tm ds rd h)))
  (fun c _ _ rec tm ds rd h=>Option.rec (motive:=fun _=>Option Out) none
   (fun o=>Out.rec (motive:=fun _=>Option Out)
    (fun e tm ds h=>Ex.rec (motive:=fun _=>Option Out) (rec (.code (.loop c) tm ds rd h)) (some (.code .ret tm ds h)) (fun i=>some (.code (.exit i) tm ds h)) e)
    (fun c h=>some (.val c h)) o) (rec (.code c tm ds rd h)))
  (fun f ps a b _ _ E rec tm ds rd h=>body E rec (.code (.rng f ps a b) tm ds rd h))
  (fun draw ops _ rec tm ds _ h=>Option.rec (motive:=fun _=>Option Out) none (fun p=>some (.code .norm p.1 ds p.2))
   (Bool.rec (motive:=fun _=>Option (Tm×H)) (oM ops rec tm h) (kz ops rec 0 [] [] tm h) draw)) c
noncomputable def fnF (f:FuncId) (caps:List C) (E:Env) (rec:Rec) (args:List C) (h:H):Option Out:=
 Option.rec (motive:=fun _=>Option Out)
  (Option.rec (motive:=fun _=>Option Out) none
   (fun fn=>Bool.rec (motive:=fun _=>Option Out) none
    (Option.rec (motive:=fun _=>Option Out) none (fun o=>Out.rec (motive:=fun _=>Option Out)
     (fun e tm ds h=>Ex.rec (motive:=fun _=>Option Out)
      (Option.rec (motive:=fun _=>Option Out) none (fun h=>Option.rec (motive:=fun _=>Option Out) none (fun rs=>some (.val (jD rs) h)) (sa fn.res tm h)) (dH ds h))
      (Option.rec (motive:=fun _=>Option Out) none (fun h=>Option.rec (motive:=fun _=>Option Out) none (fun rs=>some (.val (jD rs) h)) (sa fn.res tm h)) (dH ds h))
      (fun _=>none) e)
     (fun _ _=>none) o) (rec (.code fn.body (vq 24 (fL args caps) 0 .e) [] none h)))
    (Nat.ble (lenL (fL args caps)) fn.ntmps)) (E.fns f))
  (fun o=>Option.rec (motive:=fun _=>Option Out) none (fun c=>some (.val c h)) (o (fL args caps))) (E.orc f)
noncomputable def vR (E:Env) (rec:Rec) (t:Task):Option Out:=
 Task.rec (motive:=fun _=>Option Out) (fun c tm ds rd h=>codeF c E rec tm ds rd h)
  (fun f args h=>C.rec (motive_1:=fun _=>Option Out) (motive_2:=fun _=>PUnit) none (fun _=>none) (fun _=>none) (fun _ _ _ _ _=>none) (fun _ _=>none)
   (fun f caps _=>fnF f caps E rec args h) (fun _ _=>none) (fun _ _=>none) (fun k=>body E rec (.call (.yl k) args h)) none ⟨⟩ (fun _ _ _ _=>⟨⟩) f) t
theorem Cl(f:FuncId)(caps:List C)(E:Env)(rec:Rec)(args:List C)(h:H):fnF f caps E rec args h=body E rec (.call (.fn f caps) args h):=by
 unfold fnF;rw[mU]
 conv=>rhs;unfold body
 dsimp only
 cases E.orc f with
 |some o=>
  dsimp only;cases o (args++caps)<;>rfl
 |none=>
  dsimp only
  cases E.fns f with
  |none=>rfl
  |some fn=>
   dsimp only;rw[AK,yu]
   cases Nat.ble (args++caps).length fn.ntmps with
   |false=>rfl
   |true=>
    dsimp only
    cases rec (.code fn.body (setArgs 24 0 (args++caps) .e) [] none h)with
    |none=>rfl
    |some o=>
     cases o with
     |val c h=>rfl
     |code e tm ds h=>
      cases e with
      |exit i=>rfl
      |norm=>
       dsimp only
       cases dH ds h with
       |none=>rfl
       |some h=>
        simp only[dW];rw[tQ];cases results tm h fn.res<;>rfl
      |ret=>
       dsimp only
       cases dH ds h with
       |none=>rfl
       |some h=>
        simp only[dW];rw[tQ];cases results tm h fn.res<;>rfl
theorem codeF_eq(c:CC)(E:Env)(rec:Rec)(tm:Tm)(ds:List Nat)(rd:Option Nat)(h:H):codeF c E rec tm ds rd h=body E rec (.code c tm ds rd h):=by
 cases c with
 |skip=>rfl
 |ret=>rfl
 |exit id=>rfl
 |seq a b=>
  show Option.rec (motive:=fun _=>Option Out) none
   (fun o=>Out.rec (motive:=fun _=>Option Out)
    (fun e tm ds h=>Ex.rec (motive:=fun _=>Option Out) (rec (.code b tm ds rd h)) (some (.code .ret tm ds h)) (fun i=>some (.code (.exit i) tm ds h)) e)
    (fun c h=>some (.val c h)) o) (rec (.code a tm ds rd h))=_
  conv=>rhs;unfold body
  dsimp only
  cases rec (.code a tm ds rd h)with
  |none=>rfl
  |some o=>
   cases o with
   |val c h=>rfl
   |code e tm ds h=>cases e<;>rfl
 |cond c a b=>
  show(jC (evF c tm) none fun t=>Bool.rec (motive:=fun _=>Option Out) (rec (.code b tm ds rd h)) (rec (.code a tm ds rd h)) t)=_;rw[nQ,bJ]
  conv=>rhs;unfold body
  dsimp only
  cases c.ev tm with
  |sc v=>cases v with
   |bool b=>cases b<;>rfl
   |_=>rfl
  |_=>rfl
 |block id c=>
  show Option.rec (motive:=fun _=>Option Out) none
   (fun o=>Out.rec (motive:=fun _=>Option Out)
    (fun e tm ds h=>Ex.rec (motive:=fun _=>Option Out) (some (.code .norm tm ds h)) (some (.code .ret tm ds h))
     (fun i=>Bool.rec (motive:=fun _=>Option Out) (some (.code (.exit i) tm ds h)) (some (.code .norm tm ds h)) (Nat.beq i id)) e)
    (fun c h=>some (.val c h)) o) (rec (.code c tm ds rd h))=_
  conv=>rhs;unfold body
  dsimp only
  cases rec (.code c tm ds rd h)with
  |none=>rfl
  |some o=>
   cases o with
   |val c h=>rfl
   |code e tm ds h=>
    cases e with
    |exit i=>
     dsimp only;cases Nat.beq i id<;>rfl
    |_=>rfl
 |loop c=>
  show Option.rec (motive:=fun _=>Option Out) none
   (fun o=>Out.rec (motive:=fun _=>Option Out)
    (fun e tm ds h=>Ex.rec (motive:=fun _=>Option Out) (rec (.code (.loop c) tm ds rd h)) (some (.code .ret tm ds h)) (fun i=>some (.code (.exit i) tm ds h)) e)
    (fun c h=>some (.val c h)) o) (rec (.code c tm ds rd h))=_
  conv=>rhs;unfold body
  dsimp only
  cases rec (.code c tm ds rd h)with
  |none=>rfl
  |some o=>
   cases o with
   |val c h=>rfl
   |code e tm ds h=>cases e<;>rfl
 |rng f ps a b=>rfl
 |reg draw ops=>
  show Option.rec (motive:=fun _=>Option Out) none (fun p=>some (.code .norm p.1 ds p.2))
   (Bool.rec (motive:=fun _=>Option (Tm×H)) (oM ops rec tm h) (kz ops rec 0 [] [] tm h) draw)=_
  rw[yx,yy]
  conv=>rhs;unfold body
  dsimp only
  cases draw with
  |true=>
   dsimp only;cases dK rec ops 0 [] [] tm h<;>rfl
  |false=>
   dsimp only;cases ib rec ops tm h<;>rfl
theorem zi(E:Env)(rec:Rec)(t:Task):vR E rec t=body E rec t:=by
 cases t with
 |code c tm ds rd h=>exact codeF_eq c E rec tm ds rd h
 |call f args h=>
  cases f with
  |fn f caps=>exact Cl f caps E rec args h
  |_=>rfl
noncomputable def runF (E:Env) (n:Nat):Rec:=Nat.rec (motive:=fun _=>Rec) (fun _=>none) (fun _ ih t=>vR E ih t) n
theorem Am(E:Env)(n:Nat)(t:Task):runF E n t=run E n t:=by
 induction n generalizing t with
 |zero=>rfl
 |succ n ih=>
  show vR E (runF E n) t=_;rw[zi,funext ih];rfl
end
def isTrue:Option Out->Bool
 |some (.val (.sc (.bool true)) _)=>true
 |_=>false
theorem xg{o:Option Out}(h:isTrue o=true):∃h',o=some (.val (.sc (.bool true)) h'):=by
 unfold isTrue at h;split at h
 ·exact⟨_,rfl⟩
 ·cases h
end CI
end
section
open Go.RowKit
namespace CI
set_option maxRecDepth 100000 in
theorem vV:isTrue (runF (theE Tryz.prog) 3000 (.call (.fn 45 []) [] ⟨0,0,[],.e⟩))=true:=by kernel_rfl
theorem vW(w:World):Calls Tryz.prog 45 #[] w (fun e w'=>e= .returned (.bool true)/\Below w.heap.size w w'):=by
 obtain⟨h',e⟩:=xg vV;rw[Am]at e;refine(wR aD Au (yg _) (enters_of Tryz.func45 aD rfl) e w).mono ?_;rintro e w' ⟨u,A,ρ,rfl,h1,_,h2⟩;simp only[VR]at h1;exact⟨by rw[h1.1],h2⟩
end CI
end
section
open Go.RowKit
namespace DW
set_option maxRecDepth 20000
set_option maxHeartbeats 2000000
theorem kX:Fn Tryz.prog 45 [] (.sc (.bool true)):=by
 refine⟨enters_of Tryz.func45 aD rfl,fun X w vs _ hv=>?_⟩;simp only[ATp]at hv;obtain rfl:vs= #[]:=by apply lh;rw[hv]
 refine(CI.vW w).mono fun e w' ⟨h,hb⟩=>⟨_,h,?_,hb⟩;simp only[AR];exact⟨trivial,rfl⟩
end DW
end
section
open Go.RowKit
namespace DW
set_option maxRecDepth 20000
set_option maxHeartbeats 2000000
def hv(z:Int):Int:=IntKind.i64.wrap (z.tdiv 2)
end DW
end
section
open Go.RowKit
namespace DW
theorem mI(a b:Nat):(a:Int)/(b:Int)=((a/b:Nat):Int):=(nX a b).symm
set_option maxRecDepth 20000
set_option maxHeartbeats 2000000
end DW
end
section
namespace Mx
def isF(n:Nat):Nat->Nat
 |0=>0
 |f+1=>if(f+1)*(f+1)<=n then f+1 else isF n f
def isq(n:Nat):Nat:=isF n n
theorem xA(n:Nat):∀f,isF n f*isF n f<=n
 |0=>aZ _
 |f+1=>by
  unfold isF;split
  ·assumption
  ·exact xA n f
theorem xB(n:Nat):∀f r,r<=f->r*r<=n->r<=isF n f
 |0,r,h,_=>by omega
 |f+1,r,h,h2=>by
  unfold isF;split
  ·exact h
  ·next hn=>
   by_cases e:r=f+1
   ·rw[e]at h2;exact absurd h2 hn
   ·exact xB n f r aa h2
theorem dm(n:Nat):isq n*isq n<=n:=xA n n
theorem lP{n r:Nat}(h:r*r<=n):r<=isq n:=xB n n r (aE (Nat.le_mul_self r) h) h
theorem Ca(n:Nat):n<(isq n+1)*(isq n+1):=by
 by_cases h:(isq n+1)*(isq n+1)<=n
 ·have:=lP h;omega
 ·omega
theorem Cb{n r:Nat}(h1:r*r<=n)(h2:n<(r+1)*(r+1)):isq n=r:=by
 have a:=lP h1;have b:=dm n;by_cases h:r+1<=isq n
 ·have:=bF h h;omega
 ·omega
theorem gJ(n:Nat):isq n<=n:=aE (Nat.le_mul_self _) (dm n)
theorem xl{n r s:Nat}(hr:0<r)(hs:s*s<=n):s<=(r+n/r)/2:=by
 have h1:2*s*r<=s*s+r*r:=by
  rcases Nat.le_total s r with h|h
  ·obtain⟨d,rfl⟩:=ru h;have:s*s+(s+d)*(s+d)=2*s*(s+d)+d*d:=by simp only[aU,cw,Nat.two_mul,aK d s];omega
   omega
  ·obtain⟨d,rfl⟩:=ru h;have:(r+d)*(r+d)+r*r=2*(r+d)*r+d*d:=by simp only[aU,cw,Nat.two_mul,aK d r];omega
   omega
 have h2:2*s<=r+n/r:=by
  have h3:(2*s)<=(n+r*r)/r:=(oa hr).2 aa;rw[Nat.add_mul_div_right _ _ hr]at h3;omega
 omega
theorem kF{n r:Nat}(hr:0<r)(h:r<=(r+n/r)/2):r*r<=n:=by
 have h1:r<=n/r:=by omega
 exact(oa hr).1 h1
end Mx
end
section
open Go.RowKit
namespace DW
set_option maxRecDepth 20000
set_option maxHeartbeats 1000000
theorem Aq(n:Nat)(hn:n<=1000000000):Fn Tryz.prog 189 [zI n] (zI (Mx.isq n:Nat)):=by
 refine cR Tryz.func189 aD rfl rfl rfl fun X0=>?_;simp only[bC];refine zs1 ?_;refine cB ?_;refine kd ?_;refine zs1 ?_;refine bN ?_;refine ra ?_;refine uH ?_;refine da ?_
 (refine eP (bn (sl':=[(0,zI n),(3,zI n),(4,zI ((n+1)/2:Nat))]) (ow':=[]) zb5 bR) ?_)
 refine dA (fun q s => ∃ r x : Nat, q = r /\ Mx.isq n <= r /\ r <= n /\ x <= n + 1 /\ Mx.isq n <= x /\ (r <= x -> r * r <= n) /\ s = ⟨[(0, zI n), (3, zI (r : Nat)), (4, zI (x : Nat))], []⟩) (m := n) ⟨n, (n + 1) / 2, rfl, Mx.gJ n, ai _, by omega, by
     by_cases h:n=0
     ·subst h;decide
     ·have:=Mx.xl (n:=n) (r:=n) (s:=Mx.isq n) aa (Mx.dm n);rw[Nat.div_self aa]at this;exact this,fun h=>by
     have:n=0\/n=1:=by omega
     rcases this with e|e<;>subst e<;>decide,rfl⟩ fun q s hs=>?_
 obtain⟨r,x,rfl,h1,h2,h3,h4,h5,rfl⟩:=hs;by_cases hx:x<q
 ·have hr0:0<x\/x=0:=by omega
  by_cases hx0:x=0
  ·subst hx0;have hz:Mx.isq n=0:=by omega
   have h6:=Mx.Ca n;rw[hz]at h6;have hn0:n=0:=by omega
   omega
  ·have hx1:0<x:=by omega
   have h6:=Mx.xl (n:=n) (r:=x) hx1 (Mx.dm n);have h7:x<=(x+n/x)/2->x*x<=n:=Mx.kF hx1;have hq:(n:Int)/(x:Int)=((n/x:Nat):Int):=mI n x;have h8:n/x<=n:=fG _ _;refine gL ?_;refine aX ?_;refine kd ?_;refine zs1 ?_;refine cZ ?_;refine zs3 ?_;refine uG ?_;refine np ?_;refine uH ?_;refine da ?_;simp only[nx];exact⟨x,_,by omega,(bn (sl':=[(0,zI n),(3,zI (x:Nat)),(4,zI ((x+n/x)/2:Nat))]) (ow':=[]) zb5 bR),x,(x+n/x)/2,rfl,h4,by omega,by omega,h6,h7,rfl⟩
 ·have hE : Mx.isq n = q := by
   have h6:=Mx.lP (h5 aa);omega
  rw[hE];clear hE h5;refine gL ?_;refine aM ?_;refine kd ?_;refine zs1 ?_;exact⟨_,Sh.refl, .one (.tmp 2) _ rfl (.tmp 2 rfl)⟩
theorem tO(n:Nat)(hn:n<=1000000000):Fn Tryz.prog 190 [zI n] (zI (Mx.isq n:Nat)):=by
 refine cR Tryz.func190 aD rfl rfl rfl fun X0=>?_;simp only[bC];refine zs1 ?_;refine cB ?_;refine cB ?_;refine cB ?_
 (refine eP (bn (sl':=[(0,zI n),(3,zI 0),(4,zI (2^31/2:Nat))]) (ow':=[]) zb5 bR) ?_)
 refine dA (fun q s=>∃r j:Nat,q=j/\j<=31/\r*r<=n/\n<(r+2^j)*(r+2^j)/\r+2^j<=2147483648/\s=⟨[(0,zI n),(3,zI (r:Nat)),(4,zI (2^j/2:Nat))],[]⟩) (m:=31) ⟨0,31,rfl,ai _,aZ _,oy hn aA,by decide,rfl⟩ fun q s hs=>?_;obtain⟨r,j,rfl,hj,h1,h2,h3,rfl⟩:=hs
 cases q with
 |zero=>
  have hE:Mx.isq n=r:=Mx.Cb h1 h2;rw[hE];clear hE h1 h2;refine zs1 ?_;refine px ?_;refine aM ?_;refine kd ?_;refine zs1 ?_;exact⟨_,Sh.refl,.one (.tmp 2) _ rfl (.tmp 2 rfl)⟩
 |succ k=>
  have hp:0<2^k:=Nat.two_pow_pos k;have e1:2^(k+1)/2=2^k:=by rw[bT];exact rF _ aA
  rw[e1];rw[bT]at h2 h3;have e2:((2^k/2:Nat):Int)=((2^k/2:Nat):Int):=rfl;obtain⟨P,hP⟩:∃P,P=2^k:=⟨_,rfl⟩;rw[<-hP]at h2 h3 hp;rw[<-hP];have hm:((r:Int)+(P:Int))*((r:Int)+(P:Int))=(((r+P)*(r+P):Nat):Int):=by rw[fC,qK]
  have hmb:(r+P)*(r+P)<=2147483648*2147483648:=bF aa aa;have hpos:decide ((P:Int)>0)=true:=aF aa;by_cases hs:(r+P)*(r+P)<=n
  ·have hd:decide (((r:Int)+(P:Int))*((r:Int)+(P:Int))<=(n:Int))=true:=aF (by rw[hm];exact Int.ofNat_le.2 hs);have h2':n<(r+P+P)*(r+P+P):=by rw[ep,<-Nat.mul_two];exact h2
   clear h2 e1 e2;refine zs1 ?_;refine px ?_;refine aX ?_;refine zs76 ?_;refine aX ?_;refine cZ ?_;refine np ?_;refine da ?_;refine bN ?_;refine uH ?_;refine da ?_;simp only[nx];exact⟨k,_,by omega,(bn (sl':=[(0,zI n),(3,zI ((r+P:Nat):Int)),(4,zI (P/2:Nat))]) (ow':=[]) zb5 bR),r+P,k,rfl,by omega,hs,by rw[<-hP];exact h2',by rw[<-hP];omega,by rw[hP]⟩
  ·have hd:decide (((r:Int)+(P:Int))*((r:Int)+(P:Int))<=(n:Int))=false:=aN (by rw[hm];exact fun h=>hs (Int.ofNat_le.1 h));clear h2 e1 e2;refine zs1 ?_;refine px ?_;refine aX ?_;refine zs76 ?_;refine aM ?_;refine bN ?_;refine uH ?_;refine da ?_;simp only[nx];exact⟨k,_,by omega,(bn (sl':=[(0,zI n),(3,zI (r:Nat)),(4,zI (P/2:Nat))]) (ow':=[]) zb5 bR),r,k,rfl,by omega,h1,by rw[<-hP];omega,by rw[<-hP];omega,by rw[hP]⟩
end DW
end
section
namespace Mx
def down{α:Type}(f:Nat->List α):Nat->List α
 |0=>[]
 |x+1=>f x++down f x
def sqs:Nat->Nat->Nat->List (List Nat)
 |0,n,_=>if n=0 then [[]]else []
 |k+1,n,m=>down (fun x=>(sqs k (n-x*x) x).map (x::·)) (min m (isq n)+1)
theorem sK{α:Type}{f:Nat->List α}{B:Nat}(h:∀x,(f x).length<=B):∀n,(down f n).length<=n*B
 |0=>by simp[down]
 |n+1=>by
  unfold down;rw[bK,lg];have:=sK h n;have:=h n;omega
theorem jS:∀(k n m:Nat),n<=1500->(sqs k n m).length<=39^k
 |0,n,m,_=>by
  unfold sqs;split<;>simp
 |k+1,n,m,h=>by
  have h1:isq n<=38:=by
   have a:=dm n;by_cases e:39<=isq n
   ·have:=bF e e;omega
   ·omega
  have h2:=sK (f:=fun x=>(sqs k (n-x*x) x).map (x::·)) (B:=39^k) (fun x=>by rw[bu];exact jS k (n-x*x) x aa) (min m (isq n)+1);refine aE h2 ?_;rw[bT,aK (39^k)];exact cE _ aa
theorem kQ{α:Type}{f:Nat->List α}{a:α}:∀{n:Nat},a∈down f n->∃x,x<n/\a∈f x
 |0,h=>by cases h
 |n+1,h=>by
  unfold down at h;rcases fg.1 h with h|h
  ·exact⟨n,od n,h⟩
  ·obtain⟨x,h1,h2⟩:=kQ h;exact⟨x,by omega,h2⟩
theorem iB:∀{k n m:Nat} {l:List Nat},l∈sqs k n m->l.length=k
 |0,n,m,l,h=>by
  unfold sqs at h;split at h
  ·rw[cD.1 h];rfl
  ·cases h
 |k+1,n,m,l,h=>by
  obtain⟨x,_,h2⟩:=kQ h;obtain⟨y,hy,rfl⟩:=im.1 h2;rw[eu,iB hy]
end Mx
end
section
open Go.RowKit
namespace DW
theorem ar_zs{X:Nat->Prop}{w:World}{v:Value}(h:AR X w (.sc (.slice none 0 0)) v):AR X w (dM []) v:=by
 simp only[AR]at h;obtain⟨h,_⟩:=h;subst h;simp only[eZ,AR];exact⟨none,0,rfl,ai _,.inl aO⟩
set_option maxRecDepth 20000
set_option maxHeartbeats 1000000
theorem rZ:∀(k n m:Nat),k<=4->n<=1500->m<=1000000->Fn Tryz.prog 57 [zI k,zI n,zI m] (dM ((Mx.sqs k n m).map nn))
 |0,n,m,_,hn,hm=>by
  by_cases h0:n=0
  ·subst h0;have e:(Mx.sqs 0 0 m).map nn=[[]]:=rfl;rw[e];refine cR Tryz.func57 aD rfl rfl rfl fun X0=>?_;simp only[bC];refine zs1 ?_;refine py ?_;refine zs1 ?_;refine nj ?_;refine aX ?_;refine nj ?_;refine aX ?_;(refine gar ?_;(refine ur (k:=15) (wd:=1) (T:=Tryz.prog.elem 45) rfl rfl rfl rfl aD aD bW bW pG ?_);refine zN (nT (k:=15) rp zb24 zb26) ?_;refine zs20 ?_;refine zs8 ?_;refine aS ?_);refine zs1 ?_;exact⟨_,Sh.refl,.one (.tmp 6) _ rfl (.tmp 6 rfl)⟩
  ·have e:(Mx.sqs 0 n m).map nn=[]:=by unfold Mx.sqs;rw[an h0];rfl
   rw[e];refine cR Tryz.func57 aD rfl rfl rfl fun X0=>?_;simp only[bC];refine zs1 ?_;refine py ?_;refine zs1 ?_;refine nj ?_;refine aX ?_;refine nj ?_;refine aM ?_;refine py ?_;refine zs1 ?_;exact⟨_,zP (t:=6) (d:=.sc (.slice none 0 0)) (d':=dM []) bW rfl rfl (fun X w v h=>ar_zs h),.one (.tmp 6) _ rfl (.tmp 6 rfl)⟩
 |k+1,n,m,hk,hn,hm=>by
  have IH:=fun x (hx:x*x<=n) (hx2:x<=1000000)=>rZ k (n-x*x) x aa aa hx2;have RT:=tO n aa;have hL:=Mx.jS (k+1) n m hn;have hL4:39^(k+1)<=39^4:=cv aA hk;have hI:=Mx.dm n;have hIs:=Mx.gJ n;obtain⟨f,hf⟩:∃f,f=fun x=>(Mx.sqs k (n-x*x) x).map (x::·):=⟨_,rfl⟩;have hE:Mx.sqs (k+1) n m=Mx.down f (min m (Mx.isq n)+1):=by rw[hf];rfl
  have hfx:∀x,f x=(Mx.sqs k (n-x*x) x).map (x::·):=fun x=>by rw[hf]
  rw[hE]at hL;rw[hE];clear hE hf;obtain⟨q,hq⟩:∃q,q=Mx.isq n:=⟨_,rfl⟩;rw[<-hq]at RT hI hIs hL;rw[<-hq];have hmin:(if(q:Int)<(m:Int)then(q:Int)else(m:Int))=((min m q:Nat):Int):=by split<;>omega
  refine cR Tryz.func57 aD rfl rfl rfl fun X0=>?_;simp only[bC];refine zs1 ?_;refine py ?_;refine zs1 ?_;refine nj ?_;refine aM ?_;refine py ?_;refine zs1 ?_;refine eP (Bv (t:=7) (k:=7) (T:=45) (wd:=1) zb31 rfl rfl pG) ?_;refine zs1 ?_;refine cZ ?_;refine zs21 ?_;(refine aL1 rfl rfl rfl (by(apply d_min;(exact rfl);(focus((apply aw;(conv=>lhs;whnf);(first|done|exact rfl))));(focus((apply aw;(conv=>lhs;whnf);(first|done|exact rfl)))))) ?_);refine da ?_;rw[hmin];obtain⟨X,hX⟩:∃X,X=min m q:=⟨_,rfl⟩;have hXq:X<=q:=by omega
  have hXX:X*X<=n:=aE (bF hXq hXq) hI;rw[<-hX]at hL;rw[<-hX];have hXi:(X:Int)=((X+1:Nat):Int)-1:=by omega
  rw[hXi];clear RT hmin
  (refine eP (bn (sl':=[(0,zI ((k+1:Nat):Int)),(1,zI n),(7,.own 7),(8,zI (((X+1:Nat):Int)-1))]) (ow':=[(7,⟨45,1,[]⟩)]) zb5 bR) ?_)
  refine dA (fun r s=>∃(t:Nat) (L:List (List Nat)),t<=X+1/\r=t/\L++Mx.down f t=Mx.down f (X+1)/\s=⟨[(0,zI ((k+1:Nat):Int)),(1,zI n),(7,.own 7),(8,zI ((t:Int)-1))],[(7,⟨45,1,(L.map nn).map dI⟩)]⟩) (m:=X+1) ⟨X+1,[],ai _,rfl,rfl,rfl⟩ fun r s hs=>?_;obtain⟨t,L,ht,rfl,hLt,rfl⟩:=hs
  cases r with
  |zero=>
   have hLe:L=Mx.down f (X+1):=by rw[<-hLt];exact(fX L).symm
   rw[<-hLe];clear hLe hLt hL hfx IH;refine zs1 ?_;refine px ?_;refine aM ?_;refine eP (nT (k:=7) rp zb24 zb26) ?_;refine zs1 ?_;refine kd ?_;refine zs1 ?_;exact⟨_,Sh.refl,.one (.tmp 6) _ rfl (.tmp 6 rfl)⟩
  |succ x=>
   have hxx:x*x<=n:=aE (bF (by omega:x<=X) (by omega:x<=X)) hXX;have IHx:=IH x hxx aa;have hx1:((x+1:Nat):Int)-1=(x:Int):=by omega
   rw[hx1];have hsub:(n:Int)-(x:Int)*(x:Int)=((n-x*x:Nat):Int):=by rw[Int.ofNat_sub hxx];rfl
   have hk1:((k+1:Nat):Int)-1=(k:Int):=by omega
   have hxb:((x:Int)*(x:Int))=((x*x:Nat):Int):=rfl;have hxn:x<=1500:=by
    have:=Nat.le_mul_self x;omega
   rw[<-hsub,<-hk1]at IHx;have hdn:L++(f x++Mx.down f x)=Mx.down f (X+1):=hLt;rw[hfx x]at hdn;obtain⟨S,hS⟩:∃S,S=Mx.sqs k (n-x*x) x:=⟨_,rfl⟩;have hSr:∀l∈S,l.length=k:=fun l hl=>by rw[hS]at hl;exact Mx.iB hl
   rw[<-hS]at IHx hdn;have hlen:L.length+S.length<=2313441:=by
    have:=congrArg List.length hdn;rw[bK,bK,bu]at this;have:(39:Nat)^4=2313441:=by decide
    omega
   clear hLt IH hS hL;refine zs1 ?_;refine px ?_;refine aX ?_;refine bN ?_;refine zs22 ?_;refine zs3 ?_;refine zs3 ?_;refine zs3 ?_;refine uF ?_;(refine aL1 rfl rfl rfl (by(first|(apply zL;(exact rfl);(focus((apply aw;(conv=>lhs;whnf);(first|done|exact rfl))));(focus((apply aw;(conv=>lhs;whnf);(first|done|exact rfl))));(omega))|(apply bZ;(exact rfl);(focus((apply aw;(conv=>lhs;whnf);(first|done|exact rfl))));(focus((apply aw;(conv=>lhs;whnf);(first|done|exact rfl))));(exact rfl)))) ?_);refine zs3 ?_;refine zs23 ?_;refine da ?_;refine cB ?_;rw[hsub]at IHx
   (refine eP (bn (sl':=[(0,zI ((k+1:Nat):Int)),(1,zI n),(7,.own 7),(8,zI (x:Nat)),(9,dM (S.map nn)),(10,zI 0)]) (ow':=[(7,⟨45,1,(L.map nn).map dI⟩)]) zb5 bR) ?_)
   refine dA (fun r s=>∃i:Nat,i<=S.length/\r=S.length-i/\s=⟨[(0,zI ((k+1:Nat):Int)),(1,zI n),(7,.own 7),(8,zI (x:Nat)),(9,dM (S.map nn)),(10,zI (i:Nat))],[(7,⟨45,1,((L++(S.take i).map (x::·)).map nn).map dI⟩)]⟩) (m:=S.length) ⟨0,aZ _,rfl,by rw[lu,eZ,fX];rfl⟩ fun r s hs=>?_;obtain⟨i,hi,rfl,rfl⟩:=hs;have hSl:(S.map nn).length=S.length:=bu ..;by_cases hil:i<S.length
   ·obtain⟨l,hl⟩:=get_some hil;have hl2:(S.map nn)[i]?=some (nn l):=by rw[eg,hl];rfl
    have hsn:((L++(S.take (i+1)).map (x::·)).map nn).map dI=((L++(S.take i).map (x::·)).map nn).map dI++[dI (nn (x::l))]:=by
     simp only[eR hl,gT,eh,eZ,fy]
    have hFl:(L++(S.take i).map (x::·)).length<=2313441:=by rw[bK,bu,bf];omega
    have hrow:(nn l).length<=1000000:=by rw[lK,hSr l (eN hl)];omega
    obtain⟨F,hF⟩:∃F,F=L++(S.take i).map (x::·):=⟨_,rfl⟩;rw[<-hF]at hsn hFl;rw[<-hF];clear hF hdn IHx hfx;refine ke ?_;(refine gar ?_;refine zs3 ?_;refine zs3 ?_;(refine Cx (k:=42) (T:=Tryz.prog.elem 45) rfl rfl rfl rfl rn bW (by(first|exact jg|exact je|exact wd_nm|exact wd_pt|exact rfl)) bW aD aD bW bW bW pG ?_);refine zs3 ?_;refine zs3 ?_;refine qZ ?_;refine pA ?_;refine zs27 ?_;refine zN (nT (k:=42) rp zb24 zb26) ?_;refine zs20 ?_;refine zs27 ?_;refine zs8 ?_;refine aS ?_);refine zs1 ?_;refine cL ?_;simp only[nx];exact⟨S.length-(i+1),_,by omega,(bn (sl':=[(0,zI ((k+1:Nat):Int)),(1,zI n),(7,.own 7),(8,zI (x:Nat)),(9,dM (S.map nn)),(10,zI ((i+1:Nat):Int))]) (ow':=[(7,⟨45,1,(F.map nn).map dI++[dI (nn (x::l))]⟩)]) zb5 bR),i+1,by omega,rfl,by rw[hsn]⟩
   ·obtain rfl:i=S.length:=by omega
    rw[il];obtain⟨F,hF⟩:∃F,F=L++S.map (x::·):=⟨_,rfl⟩;have hFe:F++Mx.down f x=Mx.down f (X+1):=by rw[hF,fy];exact hdn
    rw[<-hF];clear hF hdn IHx hfx;refine zs1 ?_;refine pw ?_;refine aM ?_;refine bN ?_;refine zs22 ?_;refine da ?_;simp only[nx];exact⟨x,_,by omega,(bn (sl':=[(0,zI ((k+1:Nat):Int)),(1,zI n),(7,.own 7),(8,zI ((x:Int)-1))]) (ow':=[(7,⟨45,1,(F.map nn).map dI⟩)]) zb5 bR),x,F,by omega,rfl,hFe,rfl⟩
end DW
end
end Go.Proofs.YtepdigdijecgpaaGreat
