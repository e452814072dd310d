/- Lemmas for the law: Q22 Q23 Q24 Q25 W20 Q26 Q27 E28 M11 E36 M12 M13 E40 -/
import Derived.Test.YtcgjmdpcplhanaaGreatZi15
namespace Go.Proofs.YtcgjmdpcplhanaaGreat
section
theorem zb70{p:Prop}(h:p:=by rw[D.out.2.2.2];exact Nat.div_le_self _ _):p:=h
theorem zb49{p:Prop}(h:p:=by rw[←HQ.out];exact dV D.out.2.2.1 H1.out.nf.dg zb70):p:=h
end
section
open Go.RowKit
namespace CI
variable {P : Program} {h h' : H} {tm tm' : Tm} {rec : Rec} {n : Nat} {r : List RO} {S : Nat→SD} {ops : Array Oper} {A : Nat→Prop} {ρ ρ1 ρ2 : Nat→Nat} {w w1 w2 : World} {a : Act} {ds : List Nat} {L : Nat→Prop} {s j : Nat}
def AL(A:Nat→Prop)(S:Nat→SD)(L:Nat→Prop)(k:Nat):Prop:=A k∨∃i,L i∧(S i).h.next≤k∧k<(S (i+1)).h.next
def Lv(S:Nat→SD)(L:Nat→Prop)(s k:Nat)(b:B):Prop:=(k<(S 0).h.next∧(S s).h.get k=some b)∨∃i,L i∧(S i).h.next≤k∧k<(S (i+1)).h.next∧(S (max s (i+1))).h.get k=some b
structure Inv(P:Program)(S:Nat→SD)(ops:Array Oper)(r:List RO)(h':H)(n:Nat)(ds:List Nat)(A:Nat→Prop)(ρ:Nat→Nat)(w:World)(L:Nat→Prop)(s:Nat)(ρ1:Nat→Nat)(a:Act)(w1:World):Prop where
 cl:∀i ro q,L i→r[i]?=some ro→ro.pre.testBit q=true→L q
 lN:∀i,L i→i<r.length
 s0:s≤r.length
 sl:∀i,i<s→(S (i+1)).wr=true→L i
 sr:∀i,s≤i→i<r.length→(S (i+1)).wr=true→¬L i
 tmv:∀t,(∃i o,L i∧ops[i]?=some o∧o.dst=some t∧(∀i' o',L i'→i<i'→ops[i']?=some o'→o'.dst≠some t)∧VR P (AL A S L) ρ1 w1 (S (i+1)).v (a.tmps.getD t undef))∨
  ((∀i o,L i→ops[i]?=some o→o.dst≠some t)∧VR P (AL A S L) ρ1 w1 (CO.ev (S 0).tm (CO.t t)) (a.tmps.getD t undef))
 sz:a.tmps.size=n
 df:a.defers=ds.map (oH ρ)
 blk:∀k b,Lv S L s k b→ρ1 k<w1.heap.size∧BR P (AL A S L) ρ1 w1 (ρ1 k) b
 inj:∀k b k' b',Lv S L s k b→Lv S L s k' b'→ρ1 k=ρ1 k'→k=k'
 lt:Lt w w1
 fr:∀b,b<w.heap.size→(∀k,(S 0).h.live k→h'.low≤k→ρ k≠b)→w1.heap[b]?=w.heap[b]?
 rho:∀k,(k<(S 0).h.next∨h'.next≤k)→ρ1 k=ρ k
 new:∀k b,Lv S L s k b→(S 0).h.next≤k→w.heap.size≤ρ1 k∨∃i,(S 0).h.live i∧h'.low≤i∧ρ1 k=ρ i
theorem z6(t:Trace rec r tm h tm' h' S)(st:Stat P n ops r)(hn:n<1000000)(u:Nat):∀j,j≤r.length→(∃i o,i<j∧ops[i]?=some o∧o.dst=some u∧(∀i' o',i'<j→i<i'→ops[i']?=some o'→o'.dst≠some u)∧CO.ev (S j).tm (CO.t u)=(S (i+1)).v)∨
    ((∀i o,i<j→ops[i]?=some o→o.dst≠some u)∧CO.ev (S j).tm (CO.t u)=CO.ev (S 0).tm (CO.t u))
  |0,_=> .inr ⟨fun i o hi=>by omega,rfl⟩
  |j+1,hj=>by
    have hjo:j<ops.size:=by rw[←st.len];omega
    obtain⟨o,ho⟩:∃o,ops[j]?=some o:=⟨_,Array.getElem?_eq_getElem hjo⟩
    obtain⟨g,p,hr,hdst,_⟩:=st.row j o ho
    have ht:=(t.cases hr).1
    have ih:=z6 t st hn u j (by omega)
    by_cases hd:o.dst=some u
    · refine .inl ⟨j,o,by omega,ho,hd,fun i' o' h1 h2=>by omega,?_⟩
      have hu:u<n:=by rw[hd]at hdst;simpa[bC,Nat.blt_eq]using hdst
      rw[ht]
      simp only[fJ,hd]
      rw[rL (t:=u) (by omega),if_pos rfl]
    · have hsame : CO.ev (S (j + 1)).tm (CO.t u) = CO.ev (S j).tm (CO.t u) := by
        rw[ht]
        cases hdd:o.dst with
        |none=>rfl
        |some v=>
          have hv:v<n:=by rw[hdd]at hdst;simpa[bC,Nat.blt_eq]using hdst
          simp only[fJ]
          rw[rL (t:=v) (Nat.lt_trans hv hn),if_neg (fun e=>hd (by rw[hdd,e]))]
      rcases ih with⟨i,o',h1,h2,h3,h4,h5⟩|⟨h1,h2⟩
      · refine .inl ⟨i,o',by omega,h2,h3,fun i' o'' k1 k2 k3=> ?_,by rw[hsame,h5]⟩
        rcases Nat.lt_succ_iff_lt_or_eq.1 k1 with k|k
        · exact h4 i' o'' k k2 k3
        · subst k;rw[ho]at k3;simp only[Option.some.injEq]at k3;rw[←k3];exact hd
      · refine .inr ⟨fun i o' k1 k2=> ?_,by rw[hsame,h2]⟩
        rcases Nat.lt_succ_iff_lt_or_eq.1 k1 with k|k
        · exact h1 i o' k k2
        · subst k;rw[ho]at k2;simp only[Option.some.injEq]at k2;rw[←k2];exact hd
section
variable (t : Trace rec r tm h tm' h' S) (st : Stat P n ops r) (hg : cr rec) (f : Wf h)
theorem Inv.slots(I:Inv P S ops r h' n ds A ρ w L s ρ1 a w1)(t:Trace rec r tm h tm' h' S)(st:Stat P n ops r)(hn:n<1000000){o:Oper}{ro:RO}(ho:ops[j]?=some o)(hr:r[j]?=some ro)(hj:¬L j)(hpre:∀q,ro.pre.testBit q=true→L q):∀u,u∈looks ops o→VR P (AL A S L) ρ1 w1 (CO.ev (S j).tm (CO.t u)) (a.tmps.getD u undef):=fun u hu=>by
  have hjl:j<r.length:=(List.getElem?_eq_some_iff.1 hr).1
  have later:∀i o',L i→j<i→ops[i]?=some o'→o'.dst≠some u:=fun i o' hL hji hi hd=>by
    obtain⟨ro',hro'⟩:∃ro',r[i]?=some ro':=⟨_,List.getElem?_eq_getElem (I.lN i hL)⟩
    exact hj (I.cl i ro' j hL hro' (st.tmp j i o o' ro' u hji ho hi hro' (.inr (.inl ⟨hd,hu⟩))))
  rcases z6 t st hn u j (by omega)with⟨i,o',h1,h2,h3,h4,h5⟩|⟨h1,h2⟩
  · have hLi:L i:=hpre i (st.tmp i j o' o ro u h1 h2 ho hr (.inl ⟨h3,hu⟩))
    rw[h5]
    rcases I.tmv u with⟨i',o'',k1,k2,k3,k4,k5⟩|⟨k1,k2⟩
    · have : i' = i := by
        rcases Nat.lt_trichotomy i i' with e|e|e
        · exfalso
          rcases Nat.lt_trichotomy i' j with e2|e2|e2
          · exact h4 i' o'' e2 e k2 k3
          · exact hj (e2▸k1)
          · exact later i' o'' k1 e2 k2 k3
        · exact e.symm
        · exact absurd h3 (k4 i o' hLi e h2)
      subst this;exact k5
    · exact absurd h3 (k1 i o' hLi h2)
  · rw[h2]
    rcases I.tmv u with⟨i',o'',k1,k2,k3,k4,k5⟩|⟨k1,k2⟩
    · exfalso
      rcases Nat.lt_trichotomy i' j with e2|e2|e2
      · exact h1 i' o'' e2 k2 k3
      · exact hj (e2▸k1)
      · exact later i' o'' k1 e2 k2 k3
    · exact k2
theorem Inv.quiet(I:Inv P S ops r h' n ds A ρ w L s ρ1 a w1)(t:Trace rec r tm h tm' h' S){ro:RO}(hr:r[j]?=some ro)(hj:¬L j)(hpre:∀q,ro.pre.testBit q=true→L q)(hrd:(S (j+1)).rd=true):
  (∀i,s≤i→i<j→(S (i+1)).wr=false)∧(∀i,j≤i→i<s→(S (i+1)).wr=false):=by
 have hjl:j<r.length:=(List.getElem?_eq_some_iff.1 hr).1
 refine⟨fun i h1 h2=>?_,fun i h1 h2=>?_⟩
 ·cases hw:(S (i+1)).wr with
  |false=>rfl
  |true=>exact absurd (hpre i (t.bound h2 hr (.inl ⟨hw,hrd⟩))) (I.sr i h1 (by omega) hw)
 ·cases hw:(S (i+1)).wr with
  |false=>rfl
  |true=>
   exfalso
   have hLi:=I.sl i h2 hw
   have hne:i≠j:=fun e=>hj (e▸hLi)
   obtain⟨ro',hro'⟩:∃ro',r[i]?=some ro':=⟨_,List.getElem?_eq_getElem (I.lN i hLi)⟩
   exact hj (I.cl i ro' j hLi hro' (t.bound (by omega) hro' (.inr ⟨hrd,hw⟩)))
theorem eF(t:Trace rec r tm h tm' h' S)(hg:cr rec)(f:Wf h){x y k:Nat}(hxy:x≤y)(hy:y≤r.length)(hk:k<(S x).h.next)(hw:∀i,x≤i→i<y→(S (i+1)).wr=false):(S y).h.get k=(S x).h.get k:=
 stay hxy fun i h1 h2=>t.GX hg f (by omega) (hw i h1 h2) (Nat.lt_of_lt_of_le hk (t.mono hg f h1 (by omega)))
end
end CI
end
section
open Go.RowKit
namespace CI
variable {P : Program} {h h' : H} {tm tm' : Tm} {rec : Rec} {n : Nat} {r : List RO} {S : Nat→SD} {ops : Array Oper} {A : Nat→Prop} {ρ ρ1 ρ2 : Nat→Nat} {w w1 w2 : World} {a : Act} {ds : List Nat} {L : Nat→Prop} {s j : Nat} {o : Oper} {ro : RO} {G h1 : H}
structure jJ(rec:Rec)(P:Program)(S:Nat→SD)(ops:Array Oper)(r:List RO)(tm:Tm)(h:H)(tm':Tm)(h':H)(n:Nat)(A:Nat→Prop)(L:Nat→Prop)(j:Nat)(o:Oper)(ro:RO)(G h1:H):Prop where
 t:Trace rec r tm h tm' h' S
 st:Stat P n ops r
 hg:cr rec
 f:Wf h
 hn:n<1000000
 ho:ops[j]?=some o
 hr:r[j]?=some ro
 hj:¬L j
 pre:∀q,ro.pre.testBit q=true→L q
 dst:bC n o.dst=true
 sg:Hc P S ops j o ro.pre G h1
 dj:Dj A h h'
 nm:∀k,h.live k→A k
theorem Lv.uniq(t:Trace rec r tm h tm' h' S)(hg:cr rec)(f:Wf h)(hL:∀i,L i→i<r.length){k:Nat}{b b':B}(e:Lv S L s k b)(e':Lv S L s k b'):b=b':=by
  have m0:∀i,L i→(S 0).h.next≤(S i).h.next:=fun i hi=>t.mono hg f (Nat.zero_le _) (Nat.le_of_lt (hL i hi))
  rcases e with⟨h1,e⟩|⟨i,hi,a1,a2,e⟩<;>rcases e' with⟨h1',e'⟩|⟨i',hi',a1',a2',e'⟩
  · rw[e]at e';simpa using e'
  · have:=m0 i' hi';omega
  · have:=m0 i hi;omega
  · have : i = i' := by
      rcases Nat.lt_trichotomy i i' with x|x|x
      · have:=t.mono hg f (show i+1≤i' from x) (Nat.le_of_lt (hL i' hi'));omega
      · exact x
      · have:=t.mono hg f (show i'+1≤i from x) (Nat.le_of_lt (hL i hi));omega
    subst this
    rw[e]at e';simpa using e'
section
variable (M : jJ rec P S ops r tm h tm' h' n A L j o ro G h1)
theorem jJ.jl(M:jJ rec P S ops r tm h tm' h' n A L j o ro G h1):j<r.length:=(List.getElem?_eq_some_iff.1 M.hr).1
theorem jJ.mono(M:jJ rec P S ops r tm h tm' h' n A L j o ro G h1){x y:Nat}(h1:x≤y)(h2:y≤r.length):(S x).h.next≤(S y).h.next:=M.t.mono M.hg M.f h1 h2
theorem Inv.lM(I:Inv P S ops r h' n ds A ρ w L s ρ1 a w1)(M:jJ rec P S ops r tm h tm' h' n A L j o ro G h1){k:Nat}{b:B}(e:G.get k=some b):Lv S L s k b:=by
 obtain⟨k1,k2,k3,k4⟩:=M.sg.g1 k b e
 obtain⟨q1,q2⟩:=I.quiet M.t M.hr M.hj M.pre k3
 have jl:=M.jl
 by_cases hk:k<(S 0).h.next
 ·refine .inl ⟨hk,?_⟩
  rcases Nat.le_total s j with hs|hs
  ·rw[←eF M.t M.hg M.f hs (by omega) (Nat.lt_of_lt_of_le hk (M.mono (Nat.zero_le _) I.s0)) q1];exact k2
  ·rw[eF M.t M.hg M.f hs I.s0 k1 q2];exact k2
 ·obtain⟨q,hq,a1,a2⟩:=M.t.owner (Nat.le_of_not_lt hk) k1
  refine .inr ⟨q,M.pre q (k4 q hq a1 a2),a1,a2,?_⟩
  rcases Nat.le_total s j with hs|hs
  ·rw[←eF M.t M.hg M.f (x:=max s (q+1)) (y:=j) (by omega) (by omega) (Nat.lt_of_lt_of_le a2 (M.mono (by omega) (by omega))) (fun i i1 i2=>q1 i (by omega) i2)];exact k2
  ·rw[show max s (q+1)=s by omega,eF M.t M.hg M.f hs I.s0 k1 q2];exact k2
theorem Inv.nmA(I:Inv P S ops r h' n ds A ρ w L s ρ1 a w1)(M:jJ rec P S ops r tm h tm' h' n A L j o ro G h1){k:Nat}{b:B}(e:Lv S L s k b):AL A S L k:=by
 rcases e with⟨hk,e⟩|⟨i,hi,a1,a2,_⟩
 ·refine .inl (M.nm k ?_)
  have g:=(M.t.gd M.hg M.f s I.s0).2
  rw[M.t.h0]at hk
  exact g.good.back hk (aU e)
 ·exact .inr ⟨i,hi,a1,a2⟩
theorem Inv.rel(I:Inv P S ops r h' n ds A ρ w L s ρ1 a w1)(M:jJ rec P S ops r tm h tm' h' n A L j o ro G h1):Rel P (AL A S L) ρ1 w1 G:=by
 refine⟨fun k b e=>?_,fun k k' hl hl' e=>?_,by rw[M.sg.nx];exact M.sg.bd⟩
 ·have hlv:=I.lM M e
  obtain⟨b1,b2⟩:=I.blk k b hlv
  exact⟨by rw[M.sg.nx];exact(M.sg.g1 k b e).1,I.nmA M hlv,b1,b2⟩
 ·obtain⟨b,eb⟩:=Option.isSome_iff_exists.1 hl
  obtain⟨b',eb'⟩:=Option.isSome_iff_exists.1 hl'
  exact I.inj k b k' b' (I.lM M eb) (I.lM M eb') e
theorem Inv.dj(I:Inv P S ops r h' n ds A ρ w L s ρ1 a w1)(M:jJ rec P S ops r tm h tm' h' n A L j o ro G h1):Dj (AL A S L) G h1:=fun k hk=>by
 have jl:=M.jl
 rw[M.sg.nx,M.sg.nx1]
 rcases hk with hk|⟨i,hi,a1,a2⟩
 ·have e1:(S 0).h.next=h.next:=by rw[M.t.h0]
  have e2:(S r.length).h.next=h'.next:=by rw[M.t.hN]
  have m1:=M.mono (Nat.zero_le j) (by omega)
  have m2:=M.mono (show j+1≤r.length by omega) (Nat.le_refl _)
  have:=M.dj k hk
  omega
 ·rcases Nat.lt_trichotomy i j with x|x|x
  ·have:=M.mono (show i+1≤j from x) (by omega);omega
  ·exact absurd (x▸hi) M.hj
  ·have:=M.mono (show j+1≤i from x) (Nat.le_of_lt (I.lN i hi));omega
def lf(S:Nat→SD)(s j:Nat):Nat:=if(S (j+1)).wr=true then j+1 else s
theorem Inv.po(I:Inv P S ops r h' n ds A ρ w L s ρ1 a w1)(M:jJ rec P S ops r tm h tm' h' n A L j o ro G h1){k:Nat}{b:B}(e:Lv S (fun i=>L i∨i=j) (lf S s j) k b):
    (h1.get k=some b∧(G.live k∨((S j).h.next≤k∧k<(S (j+1)).h.next)))∨(¬G.live k∧¬((S j).h.next≤k∧k<(S (j+1)).h.next)∧Lv S L s k b):=by
  have jl:=M.jl
  have hwr:(S (j+1)).wr=true→s≤j∧∀i,s≤i→i<j→(S (i+1)).wr=false:=fun hw=>
    ⟨Nat.le_of_not_lt fun hlt=>M.hj (I.sl j hlt hw),(I.quiet M.t M.hr M.hj M.pre (M.t.qN jl hw)).1⟩
  have hs':((S (j+1)).wr=true∧lf S s j=j+1)∨((S (j+1)).wr=false∧lf S s j=s):=by
    unfold lf
    cases hw:(S (j+1)).wr with
    |true=>exact .inl ⟨rfl,by simp⟩
    |false=>exact .inr ⟨rfl,by simp⟩
  have hlive:G.live k→(S (j+1)).wr=false→Lv S L s k b→h1.get k=some b:=fun hG hw hl=>by
    obtain⟨b0,eb⟩:=Option.isSome_iff_exists.1 hG
    have:=Lv.uniq M.t M.hg M.f I.lN hl (I.lM M eb)
    rw[M.sg.g5 hw k hG,eb,this]
  rcases e with⟨hk,e⟩|⟨i,hi,a1,a2,e⟩
  · have hkj:k<(S j).h.next:=Nat.lt_of_lt_of_le hk (M.mono (Nat.zero_le _) (by omega))
    by_cases hG:G.live k
    · refine .inl ⟨?_, .inl hG⟩
      rcases hs' with⟨hw,hs⟩|⟨hw,hs⟩
      · rw[hs,M.sg.g3 k hG]at e;exact e
      · rw[hs]at e;exact hlive hG hw (.inl ⟨hk,e⟩)
    · refine .inr ⟨hG,by omega, .inl ⟨hk,?_⟩⟩
      rcases hs' with⟨hw,hs⟩|⟨hw,hs⟩
      · obtain⟨q1,q2⟩:=hwr hw
        rw[hs,M.sg.g4 k hkj hG,eF M.t M.hg M.f q1 (by omega) (Nat.lt_of_lt_of_le hk (M.mono (Nat.zero_le _) I.s0)) q2]at e;exact e
      · rw[hs]at e;exact e
  · rcases hi with hi|hi
    · have hij:i≠j:=fun x=>M.hj (x▸hi)
      have hni:¬((S j).h.next≤k∧k<(S (j+1)).h.next):=fun hx=>by
        rcases Nat.lt_or_gt_of_ne hij with x|x
        · have:=M.mono (show i+1≤j from x) (by omega);omega
        · have:=M.mono (show j+1≤i from x) (Nat.le_of_lt (I.lN i hi));omega
      by_cases hG:G.live k
      · obtain⟨b0,eb⟩:=Option.isSome_iff_exists.1 hG
        have hkj:=(M.sg.g1 k b0 eb).1
        have hlt:i<j:=by
          rcases Nat.lt_or_gt_of_ne hij with x|x
          · exact x
          · have h1:=M.mono (show j+1≤i from x) (Nat.le_of_lt (I.lN i hi))
            have h2:=M.mono (show j≤j+1 by omega) (by omega)
            omega
        refine .inl ⟨?_, .inl hG⟩
        rcases hs' with⟨hw,hs⟩|⟨hw,hs⟩
        · rw[hs,show max (j+1) (i+1)=j+1 by omega,M.sg.g3 k hG]at e;exact e
        · rw[hs]at e;exact hlive hG hw (.inr ⟨i,hi,a1,a2,e⟩)
      · refine .inr ⟨hG,hni, .inr ⟨i,hi,a1,a2,?_⟩⟩
        rcases hs' with⟨hw,hs⟩|⟨hw,hs⟩
        · obtain⟨q1,q2⟩:=hwr hw
          rcases Nat.lt_or_gt_of_ne hij with x|x
          · rw [hs, show max (j + 1) (i + 1) = j + 1 by omega, M.sg.g4 k (Nat.lt_of_lt_of_le a2 (M.mono (show i + 1 ≤ j from x) (by omega))) hG,
              eF M.t M.hg M.f (x:=max s (i+1)) (y:=j) (by omega) (by omega) (Nat.lt_of_lt_of_le a2 (M.mono (by omega) (by omega))) (fun i' i1 i2=>q2 i' (by omega) i2)]at e
            exact e
          · rw[hs,show max (j+1) (i+1)=max s (i+1) by omega]at e;exact e
        · rw[hs]at e;exact e
    · subst hi
      refine .inl ⟨?_, .inr ⟨a1,a2⟩⟩
      rcases hs' with⟨hw,hs⟩|⟨hw,hs⟩
      · rw[hs,show max (i+1) (i+1)=i+1 by omega]at e
        exact M.sg.g2 k b a1 e
      · rw[hs,stay (x:=i+1) (y:=max s (i+1)) (by omega) (fun x x1 x2=> ?_)]at e
        · exact M.sg.g2 k b a1 e
        · have hxs:x<s:=by omega
          have hxr:x<r.length:=Nat.lt_of_lt_of_le hxs I.s0
          cases hwx:(S (x+1)).wr with
          |false=>exact M.t.GX M.hg M.f hxr hwx (Nat.lt_of_lt_of_le a2 (M.mono x1 (by omega)))
          |true=>
            obtain⟨rx,hrx⟩:∃rx,r[x]?=some rx:=⟨_,List.getElem?_eq_getElem hxr⟩
            refine M.t.keepO M.hg M.f hrx (show i<x by omega) ?_ a1 a2
            cases hp:rx.pre.testBit i with
            |false=>rfl
            |true=>exact absurd (I.cl x rx i (I.sl x hxs hwx) hrx hp) M.hj
end
end CI
end
section
open Go.RowKit
namespace CI
variable {P : Program} {h h' : H} {tm tm' : Tm} {rec : Rec} {n : Nat} {r : List RO} {S : Nat→SD} {ops : Array Oper} {A : Nat→Prop} {ρ ρ1 ρ2 : Nat→Nat} {w w1 w2 : World} {a : Act} {ds : List Nat} {L : Nat→Prop} {s j : Nat} {o : Oper} {ro : RO} {G h1 : H}
theorem B5{dst:Option Tmp}{t:Nat}{u:Value}(h:dst≠some t):(a.put dst u).tmps.getD t undef=a.tmps.getD t undef:=by
 cases dst with
 |none=>rfl
 |some d=>
  have hne:d≠t:=fun e=>h (by rw[e])
  simp only[Act.put,Array.getD_eq_getD_getElem?,Array.getElem?_setIfInBounds_ne hne]
theorem EJ{t:Nat}{u:Value}(ht:t<a.tmps.size):(a.put (some t) u).tmps.getD t undef=u:=by
 simp only[Act.put,Array.getD_eq_getD_getElem?,Array.getElem?_setIfInBounds]
 simp[ht]
theorem Inv.step(I:Inv P S ops r h' n ds A ρ w L s ρ1 a w1)(M:jJ rec P S ops r tm h tm' h' n A L j o ro G h1){u:Value}(p:br P (AL A S L) ρ1 w1 G ρ2 w2 h1)(hu:VR P (Ext (AL A S L) G h1) ρ2 w2 (S (j+1)).v u):
    Inv P S ops r h' n ds A ρ w (fun i=>L i∨i=j) (lf S s j) ρ2 (a.put o.dst u) w2:=by
  have jl:=M.jl
  have hdj:=I.dj M
  have hmo:Mo (AL A S L) (AL A S fun i=>L i∨i=j) ρ1 ρ2:=⟨fun k hk=>hk.imp id fun ⟨i,hi,hx⟩=>⟨i, .inl hi,hx⟩,(p.mo hdj).eq⟩
  have hmo2:Mo (Ext (AL A S L) G h1) (AL A S fun i=>L i∨i=j) ρ2 ρ2:=⟨fun k hk=>by
    rcases hk with hk|hk
    · exact hmo.sub k hk
    · rw[M.sg.nx,M.sg.nx1]at hk
      exact .inr ⟨j, .inr rfl,hk⟩,fun _ _=>rfl⟩
  have hs':((S (j+1)).wr=true∧lf S s j=j+1)∨((S (j+1)).wr=false∧lf S s j=s):=by
    unfold lf
    cases hw:(S (j+1)).wr with
    |true=>exact .inl ⟨rfl,by simp⟩
    |false=>exact .inr ⟨rfl,by simp⟩
  have after:∀i,L i→∀rx,r[i]?=some rx→rx.pre.testBit j=true→False:=fun i hi rx hrx hp=>M.hj (I.cl i rx j hi hrx hp)
  have hframe:∀k b,Lv S L s k b→¬G.live k→w2.heap[ρ1 k]?=w1.heap[ρ1 k]?:=fun k b hl hG=>p.fr _ (I.blk k b hl).1 fun k' hl' _ e=>by
    obtain⟨b',eb'⟩:=Option.isSome_iff_exists.1 hl'
    have:=I.inj k' b' k b (I.lM M eb') hl e
    subst this;exact hG hl'
  have hrho:∀k b,Lv S L s k b→ρ2 k=ρ1 k:=fun k b hl=>hmo.eq k (I.nmA M hl)
  have hbN:h'.next=(S r.length).h.next:=by rw[M.t.hN]
  refine⟨fun i rx q hi hrx hp=> ?_,fun i hi=> ?_,?_,fun i hi hw=> ?_,fun i hi hir hw hL=> ?_,fun t=> ?_,?_,?_,fun k b e=> ?_,fun k b k' b' e e' hk=> ?_,I.lt.trans p.lt,fun b hb hn=> ?_,fun k hk=> ?_,fun k b e hk=> ?_⟩
  · rcases hi with hi|hi
    · exact .inl (I.cl i rx q hi hrx hp)
    · subst hi
      rw[M.hr]at hrx
      simp only[Option.some.injEq]at hrx;subst hrx
      exact .inl (M.pre q hp)
  · rcases hi with hi|hi
    · exact I.lN i hi
    · rw[hi];exact jl
  · rcases hs' with⟨_,e⟩|⟨_,e⟩<;>rw[e]
    · exact jl
    · exact I.s0
  · rcases hs' with⟨hwj,e⟩|⟨_,e⟩<;>rw[e]at hi
    · rcases Nat.lt_succ_iff_lt_or_eq.1 hi with x|x
      · exact .inl (M.pre i (M.t.bound x M.hr (.inl ⟨hw,M.t.qN jl hwj⟩)))
      · exact .inr x
    · exact .inl (I.sl i hi hw)
  · rcases hs' with⟨hwj,e⟩|⟨hwj,e⟩<;>rw[e]at hi
    · rcases hL with hL|hL
      · obtain⟨rx,hrx⟩:∃rx,r[i]?=some rx:=⟨_,List.getElem?_eq_getElem hir⟩
        exact after i hL rx hrx (M.t.bound (show j<i by omega) hrx (.inl ⟨hwj,M.t.qN hir hw⟩))
      · omega
    · rcases hL with hL|hL
      · exact I.sr i hi hir hw hL
      · subst hL;rw[hw]at hwj;cases hwj
  · by_cases hd:o.dst=some t
    · have ht:t<n:=by have:=M.dst;rw[hd]at this;simpa[bC,Nat.blt_eq]using this
      refine .inl ⟨j,o, .inr rfl,M.ho,hd,fun i' o' hi' hlt ho' hd'=> ?_,?_⟩
      · rcases hi' with hi'|hi'
        · obtain⟨rx,hrx⟩:∃rx,r[i']?=some rx:=⟨_,List.getElem?_eq_getElem (I.lN i' hi')⟩
          exact after i' hi' rx hrx (M.st.tmp j i' o o' rx t hlt M.ho ho' hrx (.inr (.inr ⟨hd',hd⟩)))
        · omega
      · rw[hd,EJ (by rw[I.sz];exact ht)]
        exact VR.mo hmo2 (Lt.refl _) _ _ hu
    · rw[B5 hd]
      rcases I.tmv t with⟨i,o',q1,q2,q3,q4,q5⟩|⟨q1,q2⟩
      · refine .inl ⟨i,o', .inl q1,q2,q3,fun i' o'' hi' hlt ho'=> ?_,VR.mo hmo p.lt _ _ q5⟩
        rcases hi' with hi'|hi'
        · exact q4 i' o'' hi' hlt ho'
        · subst hi';rw[M.ho]at ho';simp only[Option.some.injEq]at ho';rw[←ho'];exact hd
      · refine .inr ⟨fun i' o'' hi' ho'=> ?_,VR.mo hmo p.lt _ _ q2⟩
        rcases hi' with hi'|hi'
        · exact q1 i' o'' hi' ho'
        · subst hi';rw[M.ho]at ho';simp only[Option.some.injEq]at ho';rw[←ho'];exact hd
  · have:=I.sz
    cases o.dst<;>simp[Act.put,this]
  · have:=I.df
    cases o.dst<;>simp[Act.put,this]
  · rcases I.po M e with⟨e1,_⟩|⟨hG,_,hl⟩
    · obtain⟨_,_,b1,b2⟩:=p.rel.blk k b e1
      exact⟨b1,b2.mo hmo2 (Lt.refl _) rfl⟩
    · obtain⟨b1,b2⟩:=I.blk k b hl
      rw[hrho k b hl]
      exact⟨Nat.lt_of_lt_of_le b1 p.lt.size,b2.mo hmo p.lt (hframe k b hl hG)⟩
  · have key : ∀ x y bx, h1.get x = some bx → (G.live x ∨ ((S j).h.next ≤ x ∧ x < (S (j + 1)).h.next)) → ∀ by', ¬ G.live y → Lv S L s y by' → ρ2 x = ρ2 y → x = y := fun x y bx ex hx by' hy hly hxy => by
      rw[hrho y by' hly]at hxy
      rcases hx with hx|hx
      · obtain⟨b0,eb⟩:=Option.isSome_iff_exists.1 hx
        have hlx:=I.lM M eb
        rw[hrho x b0 hlx]at hxy
        exact I.inj x b0 y by' hlx hly hxy
      · rcases p.new x (by rw[M.sg.nx];exact hx.1) (aU ex)with q|⟨i,q1,q2,q3⟩
        · have:=(I.blk y by' hly).1;omega
        · exfalso
          obtain⟨b0,eb⟩:=Option.isSome_iff_exists.1 q1
          have:=I.inj i b0 y by' (I.lM M eb) hly (q3.symm.trans hxy)
          subst this;exact hy q1
    rcases I.po M e with⟨e1,x1⟩|⟨hG,_,hl⟩<;>rcases I.po M e' with⟨e1',x1'⟩|⟨hG',_,hl'⟩
    · exact p.rel.inj k k' (aU e1) (aU e1') hk
    · exact key k k' b e1 x1 b' hG' hl' hk
    · exact(key k' k b' e1' x1' b hG hl hk.symm).symm
    · rw[hrho k b hl,hrho k' b' hl']at hk
      exact I.inj k b k' b' hl hl' hk
  · rw[p.fr b (Nat.lt_of_lt_of_le hb I.lt.size) fun k hl hlo hk=> ?_,I.fr b hb hn]
    obtain⟨b0,eb⟩:=Option.isSome_iff_exists.1 hl
    have hlv:=I.lM M eb
    have hlow:h'.low≤k:=by
      have h2:=M.t.low M.hg M.f (show j+1≤r.length by omega) (Nat.le_refl _)
      rw[M.t.hN]at h2
      exact Nat.le_trans h2 (M.sg.low k hl hlo)
    by_cases hk0:k<(S 0).h.next
    · rw[I.rho k (.inl hk0)]at hk
      refine hn k ?_ hlow hk
      rcases hlv with⟨_,e⟩|⟨i,hi,a1,_⟩
      · have g:=(M.t.gd M.hg M.f s I.s0).2
        rw[M.t.h0]at hk0⊢
        exact g.good.back hk0 (aU e)
      · have:=M.mono (Nat.zero_le i) (Nat.le_of_lt (I.lN i hi));omega
    · rcases I.new k b0 hlv (Nat.le_of_not_lt hk0)with q|⟨i,q1,q2,q3⟩
      · omega
      · exact hn i q1 q2 (q3.symm.trans hk)
  · have m1:=M.mono (Nat.zero_le j) (by omega)
    have m2:=M.mono (show j+1≤r.length by omega) (Nat.le_refl _)
    rw[p.rho k (by rw[M.sg.nx,M.sg.nx1];omega),I.rho k hk]
  · rcases I.po M e with⟨e1,x1⟩|⟨hG,_,hl⟩
    · rcases x1 with x1|x1
      · obtain⟨b0,eb⟩:=Option.isSome_iff_exists.1 x1
        have hlv:=I.lM M eb
        rw[hrho k b0 hlv]
        exact I.new k b0 hlv hk
      · rcases p.new k (by rw[M.sg.nx];exact x1.1) (aU e1)with q|⟨i,q1,q2,q3⟩
        · exact .inl (Nat.le_trans I.lt.size q)
        · obtain⟨b0,eb⟩:=Option.isSome_iff_exists.1 q1
          have hlv:=I.lM M eb
          have hlow:h'.low≤i:=by
            have h2:=M.t.low M.hg M.f (show j+1≤r.length by omega) (Nat.le_refl _)
            rw[M.t.hN]at h2
            exact Nat.le_trans h2 (M.sg.low i q1 q2)
          rw[q3]
          by_cases hi0:i<(S 0).h.next
          · refine .inr ⟨i,?_,hlow,I.rho i (.inl hi0)⟩
            rcases hlv with⟨_,e⟩|⟨i',hi',a1,_⟩
            · have g:=(M.t.gd M.hg M.f s I.s0).2
              rw[M.t.h0]at hi0⊢
              exact g.good.back hi0 (aU e)
            · have:=M.mono (Nat.zero_le i') (Nat.le_of_lt (I.lN i' hi'));omega
          · exact I.new i b0 hlv (Nat.le_of_not_lt hi0)
    · rw[hrho k b hl]
      exact I.new k b hl hk
end CI
end
section
open Go.RowKit
namespace CI
variable {P : Program} {h h' : H} {tm tm' : Tm} {rec : Rec} {n : Nat} {r : List RO} {S : Nat→SD} {ops : Array Oper} {A : Nat→Prop} {ρ ρ1 ρ2 : Nat→Nat} {w w1 w2 : World} {a : Act} {ds : List Nat} {L : Nat→Prop} {s j : Nat} {o : Oper} {ro : RO} {G h1 : H} {E : Env}
theorem AG(w:World):Below w.heap.size w {w with drawn:=w.drawn+1}:=(Below.refl _ w).drew
theorem CG(t:Trace rec r tm h tm' h' S)(tR:Rel P A ρ w h)(hf:Fr P A ρ w n ds tm a):Inv P S ops r h' n ds A ρ w (fun _=>False) 0 ρ a {w with drawn:=w.drawn+1}:=by
 have hlt:=Lt.below (AG w)
 have hA:∀k,A k→AL A S (fun _=>False) k:=fun k hk=>.inl hk
 have hmo:Mo A (AL A S fun _=>False) ρ ρ:=⟨hA,fun _ _=>rfl⟩
 have hlv:∀k b,Lv S (fun _=>False) 0 k b→h.get k=some b:=fun k b e=>by
  rcases e with⟨_,e⟩|⟨_,e,_⟩
  ·rw[t.h0]at e;exact e
  ·exact e.elim
 refine⟨fun _ _ _ e=>e.elim,fun _ e=>e.elim,Nat.zero_le _,fun i hi=>by omega,fun _ _ _ _ e=>e,fun u=>.inr ⟨fun _ _ e=>e.elim,?_⟩,hf.sz,hf.df,fun k b e=>?_,fun k b k' b' e e' hk=>?_,hlt,fun b _ _=>rfl,fun _ _=>rfl,fun k b e hk=>?_⟩
 ·rw[t.tm0]
  exact VR.mo hmo hlt _ _ (hf.tr u)
 ·obtain⟨_,_,b1,b2⟩:=tR.blk k b (hlv k b e)
  exact⟨b1,b2.mo hmo hlt rfl⟩
 ·exact tR.inj k k' (aU (hlv k b e)) (aU (hlv k' b' e')) hk
 ·have:=(tR.blk k b (hlv k b e)).1
  rw[t.h0]at hk;omega
theorem IJ{a0:Act}(I:Inv P S ops r h' n ds A ρ w L s ρ1 a w1)(t:Trace rec r tm h tm' h' S)(st:Stat P n ops r)(hg:cr rec)(f:Wf h)(hn:n<1000000)(hall:∀i,i<r.length→L i)(tR:Rel P A ρ w h)(hd:Dj A h h')(hf:Fr P A ρ w n ds tm a0):br P A ρ w h ρ1 w1 h'∧Fr P (Ext A h h') ρ1 w1 n ds tm' a:=by
  have hAL:∀k,AL A S L k→Ext A h h' k:=fun k hk=>by
    rcases hk with hk|⟨i,hi,a1,a2⟩
    · exact .inl hk
    · have m1:=t.mono hg f (Nat.zero_le i) (Nat.le_of_lt (I.lN i hi))
      have m2:=t.mono hg f (show i+1≤r.length from I.lN i hi) (Nat.le_refl _)
      rw[t.h0]at m1
      rw[t.hN]at m2
      exact .inr (by omega)
  have hmo:Mo (AL A S L) (Ext A h h') ρ1 ρ1:=⟨hAL,fun _ _=>rfl⟩
  obtain⟨wfN,gN⟩:=t.gd hg f r.length (Nat.le_refl _)
  rw[t.hN]at wfN gN
  have hq:∀i,s≤i→i<r.length→(S (i+1)).wr=false:=fun i h1 h2=>by
    cases hw:(S (i+1)).wr with
    |false=>rfl
    |true=>exact absurd (hall i h2) (I.sr i h1 h2 hw)
  have hlv:∀k b,h'.get k=some b→Lv S L s k b:=fun k b e=>by
    by_cases hk:k<(S 0).h.next
    · refine .inl ⟨hk,?_⟩
      rw[←eF t hg f I.s0 (Nat.le_refl _) (Nat.lt_of_lt_of_le hk (t.mono hg f (Nat.zero_le _) I.s0)) hq,t.hN];exact e
    · have hkN:k<(S r.length).h.next:=by rw[t.hN];exact wfN.lt k b (fQ e)
      obtain⟨q,hq1,a1,a2⟩:=t.owner (Nat.le_of_not_lt hk) hkN
      refine .inr ⟨q,hall q hq1,a1,a2,?_⟩
      have hs0:=I.s0
      rw[←eF t hg f (x:=max s (q+1)) (y:=r.length) (by omega) (Nat.le_refl _) (Nat.lt_of_lt_of_le a2 (t.mono hg f (by omega) (by omega))) (fun i i1 i2=>hq i (by omega) i2),t.hN];exact e
  refine⟨⟨fun k hk=>I.rho k (by rw[t.h0];exact hk),⟨fun k b e=> ?_,fun k k' hl hl' hk=> ?_,wfN.bd⟩,I.lt,fun b hb hx=>I.fr b hb (by rw[t.h0];exact hx),fun k hk hl=> ?_⟩,⟨fun u=> ?_,I.sz,fun k hk=> .inl (hf.nm k hk),?_⟩⟩
  · obtain⟨b1,b2⟩:=I.blk k b (hlv k b e)
    have hAk:AL A S L k:=by
      rcases hlv k b e with⟨hk,e2⟩|⟨i,hi,a1,a2,_⟩
      · rw[t.h0]at hk
        exact .inl (tR.live (gN.good.back hk (aU e))).2.1
      · exact .inr ⟨i,hi,a1,a2⟩
    exact⟨wfN.lt k b (fQ e),hAL k hAk,b1,b2.mo hmo (Lt.refl _) rfl⟩
  · obtain⟨b,eb⟩:=Option.isSome_iff_exists.1 hl
    obtain⟨b',eb'⟩:=Option.isSome_iff_exists.1 hl'
    exact I.inj k b k' b' (hlv k b eb) (hlv k' b' eb') hk
  · obtain⟨b,eb⟩:=Option.isSome_iff_exists.1 hl
    have:=I.new k b (hlv k b eb) (by rw[t.h0];exact hk)
    rwa[t.h0]at this
  · refine VR.mo hmo (Lt.refl _) _ _ ?_
    rw[←t.tmN]
    have hlo:∀{i:Nat} {o:Oper},ops[i]?=some o→i<r.length:=fun ho=>by rw[st.len];exact(Array.getElem?_eq_some_iff.1 ho).1
    rcases z6 t st hn u r.length (Nat.le_refl _)with⟨i,o',h1,h2,h3,h4,h5⟩|⟨h1,h2⟩
    · rw[h5]
      rcases I.tmv u with⟨i',o'',k1,k2,k3,k4,k5⟩|⟨k1,k2⟩
      · have : i' = i := by
          rcases Nat.lt_trichotomy i i' with e|e|e
          · exact absurd k3 (h4 i' o'' (hlo k2) e k2)
          · exact e.symm
          · exact absurd h3 (k4 i o' (hall i h1) e h2)
        subst this;exact k5
      · exact absurd h3 (k1 i o' (hall i h1) h2)
    · rw[h2]
      rcases I.tmv u with⟨i',o'',k1,k2,k3,k4,k5⟩|⟨k1,k2⟩
      · exact absurd k3 (h1 i' o'' (hlo k2) k2)
      · exact k2
  · rw[I.df]
    exact List.map_congr_left fun k hk=>by
      unfold oH
      rw[I.rho k (by rw[t.h0];exact hd k (hf.nm k hk))]
theorem Ka(hrec:iL P rec)(hg:cr rec)(t:Trace rec r tm h tm' h' S)(st:Stat P n ops r)(f:Wf h)(hn:n<1000000){F:Fence}(hF:FC F){Q:Exit→Act→World→Prop}{a0:Act}(tR:Rel P A ρ w h)(hd:Dj A h h')(hf:Fr P A ρ w n ds tm a0)
  (hq:∀ρ' w' a',br P A ρ w h ρ' w' h'→Fr P (Ext A h h') ρ' w' n ds tm' a'→Q .normal a' w'):∀(fuel:Nat) (listed:Array Bool) (a:Act) (w1:World) (s:Nat) (ρ1:Nat→Nat) (U:List Nat),listed.size=ops.size→U.length≤fuel→(∀i,i<ops.size→listed.getD i false=false→i∈U)→
   Inv P S ops r h' n ds A ρ w (fun i=>listed.getD i false=true) s ρ1 a w1→wpAnyIn F 0 P .any ops Q fuel listed a w1:=by
 have hsz:=st.len
 have done:∀(listed:Array Bool) (a:Act) (w1:World) (s:Nat) (ρ1:Nat→Nat),(∀i,i<ops.size→listed.getD i false=true)→Inv P S ops r h' n ds A ρ w (fun i=>listed.getD i false=true) s ρ1 a w1→Q .normal a w1:=fun listed a w1 s ρ1 hall I=>by
  obtain⟨p,fr⟩:=IJ I t st hg f hn (fun i hi=>hall i (by omega)) tR hd hf
  exact hq ρ1 w1 a p fr
 have unl:∀(listed:Array Bool) (j:Nat),listed.size=ops.size→listed.getD j true=false→j<ops.size∧listed.getD j false=false:=fun listed j hs hl=>by
  rw[Array.getD_eq_getD_getElem?]at hl
  cases e:listed[j]? with
  |none=>rw[e]at hl;simp at hl
  |some b=>
   rw[e]at hl
   have hlt:=(Array.getElem?_eq_some_iff.1 e).1
   refine⟨by omega,?_⟩
   rw[Array.getD_eq_getD_getElem?,e];simpa using hl
 intro fuel
 induction fuel with
 |zero=>
  intro listed a w1 s ρ1 U hs hU hin I
  have hUn:U=[]:=List.eq_nil_of_length_eq_zero (by omega)
  subst hUn
  have hall:∀i,i<ops.size→listed.getD i false=true:=fun i hi=>by
   cases hb:listed.getD i false with
   |true=>rfl
   |false=>exact absurd (hin i hi hb) (by simp)
  refine⟨?_,done listed a w1 s ρ1 hall I⟩
  cases hr:Region.ready .any ops listed with
  |nil=>rfl
  |cons x xs=>
   exfalso
   have hx:x∈Region.ready .any ops listed:=by rw[hr];exact List.mem_cons_self
   obtain⟨h1,h2⟩:=unl listed x hs (mem_ready.1 hx).1
   rw[hall x h1]at h2;cases h2
 |succ fuel ih=>
  intro listed a w1 s ρ1 U hs hU hin I
  refine⟨fun hr=>?_,fun j hj=>?_⟩
  ·refine done listed a w1 s ρ1 (fun i=>?_) I
   induction i using Nat.strongRecOn with
   |_ i ihi=>
    intro hi
    cases hb:listed.getD i false with
    |true=>rfl
    |false=>
     exfalso
     have hmem:i∈Region.ready .any ops listed:=by
      refine mem_ready.2 ⟨?_,ops[i],Array.getElem?_eq_getElem hi,fun e he hbd=>?_⟩
      ·have e:=Array.getElem?_eq_getElem (xs:=listed) (i:=i) (by omega)
       rw[Array.getD_eq_getD_getElem?,e]at hb⊢
       simpa using hb
      ·have hlt:=st.edge i ops[i] e (Array.getElem?_eq_getElem hi) mO hbd
       exact ihi e.on hlt (by omega)
     rw[hr]at hmem;cases hmem
  ·obtain⟨h1,o,ho,h3⟩:=mem_ready.1 hj
   obtain⟨hjs,hjl⟩:=unl listed j hs h1
   obtain⟨ro,G,h1',hr,hdst,_,sg⟩:=Hz hrec hg t st f ho
   have hpre:∀q,ro.pre.testBit q=true→listed.getD q false=true:=fun q hq=>by
    obtain⟨e,he,hbd,hx⟩:=st.pre j o ro q ho hr hq
    have hl:=h3 e mO hbd
    rcases hx with hx|⟨ro',hr',hq'⟩
    ·rw[←hx];exact hl
    ·exact I.cl e.on ro' q hl hr' hq'
   have M:jJ rec P S ops r tm h tm' h' n A (fun i=>listed.getD i false=true) j o ro G h1':=⟨t,st,hg,f,hn,ho,hr,by simp only[hjl];simp,hpre,hdst,sg,hd,fun k hk=>(tR.live hk).2.1⟩
   refine sg.wp F hF Q _ _ ρ1 w1 a (I.rel M) (I.dj M) (I.slots t st hn ho hr M.hj hpre) fun u w2 ρ2 p hu=>?_
   have I2:=I.step M p hu
   have hset:∀i,(listed.setIfInBounds j true).getD i false=true↔(listed.getD i false=true∨i=j):=fun i=>by
    by_cases e:i=j
    ·subst e
     simp[Array.getD_eq_getD_getElem?,Array.getElem?_setIfInBounds,show i<listed.size by omega]
    ·simp[Array.getD_eq_getD_getElem?,Array.getElem?_setIfInBounds_ne (Ne.symm e),e]
   have hfun:(fun i=>listed.getD i false=true∨i=j)=(fun i=>(listed.setIfInBounds j true).getD i false=true):=funext fun i=>propext (hset i).symm
   rw[hfun]at I2
   have hjU:j∈U:=hin j hjs hjl
   refine ih _ _ _ _ _ (U.erase j) (by simp[hs]) (by rw[List.length_erase_of_mem hjU];omega) (fun i hi hb=>?_) I2
   have hne:i≠j:=fun e=>by
    have:=(hset i).2 (.inr e)
    rw[this]at hb;cases hb
   have hb':listed.getD i false=false:=by
    cases hx:listed.getD i false with
    |false=>rfl
    |true=>rw[(hset i).2 (.inl hx)]at hb;cases hb
   exact(List.mem_erase_of_ne hne).2 (hin i hi hb')
theorem Ip(hmix:P.follows .mixedOrders=true)(rec:Rec)(hrec:iL P rec)(hg:cr rec):xi P rec:=by
 intro F hF Q ops id n hn r hc tm h tm' h' e f A ρ w a ds tR hd hf hq
 obtain⟨S,t⟩:=DT e
 have st:=H7 hc
 refine wpIn_region_any hmix (Ka hrec hg t st f hn hF tR hd hf hq ops.size _ a _ 0 ρ (List.range ops.size) (by simp) (by simp) (fun i hi _=>List.mem_range.2 hi) ?_)
 have I:=CG (ops:=ops) t tR hf
 have hfun:(fun _:Nat=>False)=(fun i=>(Array.replicate ops.size false).getD i false=true):=funext fun i=>propext (by
  simp only[false_iff,Array.getD_eq_getD_getElem?,Array.getElem?_replicate]
  split<;>simp)
 rw[hfun]at I
 exact I
theorem BO(hmix:P.follows .mixedOrders=true)(hO:rX P E)(hfn:E.fns=ly P){N g:Nat}(hE:Enters P g){c:C}{h':H}(e:run E N (.call (.fn g []) [] ⟨0,0,[], .e⟩)=some (.val c h'))(w:World):
    Calls P g #[] w (fun e w'=>∃u A ρ,e= .returned u∧VR P A ρ w' c u∧Rel P A ρ w' h'∧Below w.heap.size w w'):=by
  have hok:=(Jz hO hfn (fun rec h1 h2=>Ip hmix rec h1 h2) N).1
  have hbare:∀k,(⟨0,0,[], .e⟩:H).get k=none:=nI 0
  have tR:Rel P (fun _=>False) (fun _=>0) w ⟨0,0,[], .e⟩:=⟨(fun k b e=>by rw[hbare]at e;cases e),(fun k _ hl=>by unfold H.live at hl;rw[hbare]at hl;cases hl),by simp⟩
  obtain⟨d,hd,hk⟩:=hok _ _ _ _ _ e ⟨by simp,(fun k b e=>by rw[T.rJ]at e;cases e)⟩ (fun _=>False) (fun _=>0) w (.func (.func g) #[] #[]) #[] tR (fun k hk=>hk.elim) (by simp only[VR,VRl];exact⟨_,rfl,rfl⟩) (by simp only[VRl])
  rcases hk with⟨g',args',q1,q2⟩|⟨l,g',tmps,s,b,q0,_⟩
  · have hkey : g' = g ∧ args' = #[] := by
      obtain⟨d',r1,r2⟩:=oA hE #[] #[] w
      rw[r1]at hd
      simp only[Result.ok.injEq,and_true]at hd
      rw[←hd,r2]at q1
      simp only[Result.ok.injEq,Next.enter.injEq,and_true]at q1
      exact⟨q1.1.symm,by rw[←q1.2];rfl⟩
    obtain⟨rfl,rfl⟩:=hkey
    refine(callsIn_wide.1 q2).mono fun e' w' ⟨u,ρ',h1,p,hu⟩=>⟨u,_,ρ',h1,hu,p.rel,p.lt.os,p.lt.tape,p.lt.output,p.lt.size,fun k hk=>p.fr k hk fun j hl=> ?_⟩
    unfold H.live at hl;rw[hbare]at hl;cases hl
  · cases q0
end CI
end
section
open Go.RowKit Go.BigFrame
attribute [local go_sem ↓] Go.wp_at_zero Go.wp_at_succ
theorem xF(r y:Nat):4*(r*y)≤(r+y)*(r+y):=by
 rcases Nat.le_total r y with h|h<;>obtain⟨d,rfl⟩:=Nat.le.dest h
 ·have:(r+(r+d))*(r+(r+d))=4*(r*(r+d))+d*d:=by grind
  omega
 ·have:(y+d+y)*(y+d+y)=4*((y+d)*y)+d*d:=by grind
  omega
theorem Cq{a r:Nat}(hr:0<r):a<((r+a/r)/2+1)*((r+a/r)/2+1):=by
 have h1:a<r*(a/r+1):=by
  have:=Nat.div_add_mod a r;have:=Nat.mod_lt a hr
  rw[Nat.mul_add,Nat.mul_one];omega
 generalize a/r=q at*
 have h2:=xF r (q+1)
 have h3:r+(q+1)≤2*((r+q)/2+1):=by omega
 generalize(r+q)/2+1=m at*
 have h4:=Nat.mul_le_mul h3 h3
 have h5:2*m*(2*m)=4*(m*m):=by grind
 omega
theorem Am{a r:Nat}(h:r≤(r+a/r)/2):r*r≤a:=by
 have h1:r≤a/r:=by omega
 exact Nat.le_trans (Nat.mul_le_mul_left r h1) (Nat.mul_div_le a r)
theorem xw(n:Nat):Dg.NF B32 ((List.replicate (n+1) 0).set n 1)∧Dg.vl B32 ((List.replicate (n+1) 0).set n 1)=B32^n:=by
 have e:(List.replicate (n+1) 0).set n 1=List.replicate n 0++[1]:=by
  rw[List.replicate_succ',List.set_append_right _ _ (by simp)];simp
 rw[e]
 refine⟨⟨Dg.iE (Dg.dR (by decide) _) (fun x hx=>by rw[List.mem_singleton.1 hx];decide),by simp⟩,?_⟩
 rw[Dg.cu,Dg.mR];simp[Dg.vl]
theorem bg.Fc(W:World)(N k d:Nat)(hk:k<N):bg (W.alloc (.cells ((madeCells #[.int .u32 0] N).setIfInBounds k (.int .u32 (d:Int))) 138)) W.heap.size ((List.replicate N 0).set k d):=by
 have h:=(bg.made W N).set (k:=k) (by simpa using hk) d
 simpa only[go_sem]using h
structure RC(wr:World)(a:Option Addr)(l:List Nat)(L k:Nat)(a1:Option Addr)(l1:List Nat)(c1:Nat):Prop where
 w0:WS wr a l
 w1:WS wr a1 l1
 n1:Dg.NF B32 l1
 h1:l1.length≤c1
 b1:l1.length≤L
 p:0<Dg.vl B32 l1
 u:Dg.vl B32 l<(Dg.vl B32 l1+1)*(Dg.vl B32 l1+1)
 k:k=Dg.vl B32 l1
def RtRes(u:Nat)(e:Ending)(w':World):Prop:=∃z r,e= .returned (.tuple #[.agg #[.bool z.s,.slice z.a z.n z.cap],.int .i64 0])∧IZ w' z ((r:Nat):Int)∧r*r≤u∧u<(r+1)*(r+1)
set_option maxRecDepth 10000 in
set_option maxHeartbeats 8000000 in
theorem EA(x:IV)(u:Int)(fu:Fit u)(hu:0≤u)(w:World)(hx:IP w x u):
  Calls Tryz.prog 203 #[.agg #[.bool x.s,.slice x.a x.n x.cap]] w fun e w'=>RtRes u.toNat e w'∧Below w.heap.size w w':=by
 obtain⟨l,h1,rfl⟩:=hx
 have bl:=dC h1.nf fu
 have S1:=Lib.hid (fun w (h:IW w x l)=>di x l (by omega) w h)
 have H1:=Lib.hid h1
 by_cases hl0:l=[]
 ·have hv0:Dg.iv x.s (Dg.vl B32 l)=0:=by rw[hl0];exact Dg.my _
  rw[hv0]
  have hml:l.length=0:=by rw[hl0];rfl
  rw[hml]at S1
  obtain⟨s,a,n,cap⟩:=x
  simp only[]at S1
  clear h1 fu hv0 hml hl0 hu
  go_enter Tryz.func203,Tryz.ntmps203
  go_wp2_with (first|(go_at_call 163;(with_reducible refine(S1.out _ ?_).mono ?_);(focus(exact H1.out.below (B:=w.heap.size) ah (Nat.le_refl _)));rintro e w1 ⟨rfl,hb1⟩;obtain⟨g1,rfl⟩:=mob hb1;clear hb1))
  refine bodyPost_ret (v:=.tuple #[.agg #[.bool ((⟨false,none,0,0⟩:IV)).s,.slice ((⟨false,none,0,0⟩:IV)).a ((⟨false,none,0,0⟩:IV)).n ((⟨false,none,0,0⟩:IV)).cap],.int .i64 0]) (by simp[results,Tryz.results203,go_sem]) rfl ?_
  exact⟨⟨⟨false,none,0,0⟩,0,rfl,IZ.zero _,by simp,by simp⟩,by exact bel⟩
 have hvp:=Dg.gy h1.nf hl0 (by decide)
 have hs:x.s=false:=by
  cases hxs:x.s with
  |false=>rfl
  |true=>rw[hxs]at hu;simp[Dg.iv]at hu;omega
 have hut:(Dg.iv x.s (Dg.vl B32 l)).toNat=Dg.vl B32 l:=by rw[hs];simp[Dg.iv]
 rw[hut]
 have hlp:0<l.length:=List.length_pos_iff.2 hl0
 obtain⟨n,hn⟩:∃n,n=l.length/2+1:=⟨_,rfl⟩
 have m1:¬l.length=0:=by omega
 have m2:¬(l.length:Int)=0:=by omega
 have m3:((l.length:Int)==0)=false:=by simpa using hl0
 have hmk:∀w:World,(Instr.makeSlice 176 (.int .i64 ((l.length:Int)/2+2)) (.int .i64 ((l.length:Int)/2+2))).run Tryz.prog w= .ok (.slice (some ⟨w.heap.size,0,none⟩) (n+1) (n+1)) (w.alloc (.cells (madeCells #[.int .u32 0] (n+1)) 138)):=fun w=>by
  have:=run_make_row' (P:=Tryz.prog) 176 138 (.int .u32 0) 4 Tryz.underlying176 iT rfl .i64 .i64 (n+1) (by omega) (by omega) w
  rw[show((n+1:Nat):Int)=(l.length:Int)/2+2 by omega]at this
  exact this
 have start:Hid (Dg.vl B32 l<(B32^n+1)*(B32^n+1)):=by
  refine Nat.lt_of_lt_of_le (Dg.ba h1.nf.dg) (Nat.le_trans (Nat.pow_le_pow_right (n:=B32) (by decide) (show l.length≤n+n by omega)) ?_)
  rw[Nat.pow_add]
  exact Nat.mul_le_mul (Nat.le_succ _) (Nat.le_succ _)
 have DV:=Lib.hid (fun lb a b ca cb hb hb0 hca w h1' h2=>nB l lb a b ca cb h1.nf hb hb0 (by omega) hca w h1' h2)
 have MA:=Lib.hid (fun (k:List Nat) a c (hc:k.length≤c) (hk:Dg.NF B32 k) (hb:k.length≤3000000000000) w h=>gL false k a c hb hc hk.dg w h)
 obtain⟨s,a,p0,cap⟩:=x
 simp only[]at S1 DV hs
 subst hs
 clear h1 fu hu hut hl0 hvp
 generalize hq:l.length=q at*
 have HQ:=Lib.hid hq
 have HN:=0
 clear hq HN
 subst hn
 go_enter Tryz.func203,Tryz.ntmps203
 go_upto_region 7 with(first|(go_at_call 163;(with_reducible refine(S1.out _ ?_).mono ?_);(focus(exact H1.out.below (B:=w.heap.size) ah (Nat.le_refl _)));rintro e w1 ⟨rfl,hb1⟩;obtain⟨g1,rfl⟩:=mob hb1;clear hb1))
 have RU:=bg.made (more ((w.alloc (.cells #[.bool false,.slice a p0 cap] 62)).alloc (.cells #[.bool false,.slice none 0 0] 62)) g1) (q/2+1+1)
 have HB:=Lib.hid RU
 have c0:=RU.cell (k:=q/2+1) (by simp)
 have f0:=RU.frozen (q/2+1)
 simp only[eB,World.size_alloc]at c0 f0
 clear RU hmk
 have hB0:Below w.heap.size w (more ((w.alloc (.cells #[.bool false,.slice a p0 cap] 62)).alloc (.cells #[.bool false,.slice none 0 0] 62)) g1):=by exact bel
 have G0:Hid (RC ((more ((w.alloc (.cells #[.bool false,.slice a p0 cap] 62)).alloc (.cells #[.bool false,.slice none 0 0] 62)) g1).alloc (.cells ((madeCells #[.int .u32 0] (q/2+1+1)).setIfInBounds (q/2+1) (.int .u32 1)) 138)) a l 300000000000 (B32^(q/2+1)) (some ⟨w.heap.size+1+1+g1.2.size,0,none⟩) ((List.replicate (q/2+1+1) 0).set (q/2+1) 1) (q/2+1+1)):=by
  obtain⟨n1,n2⟩:=xw (q/2+1)
  refine⟨H1.out.ws.below (hB0.trans (Below.alloc (Below.refl _ _) hB0.size _)) (Nat.le_refl _),?_,n1,by simp,by simp;omega,by rw[n2];exact Nat.pow_pos (by decide),by rw[n2];exact start.out,n2.symm⟩
  have:=(bg.Fc (more ((w.alloc (.cells #[.bool false,.slice a p0 cap] 62)).alloc (.cells #[.bool false,.slice none 0 0] 62)) g1) (q/2+1+1) (q/2+1) 1 (by omega)).ws
  simp only[eB,World.size_alloc]at this
  exact this
 go_wp2_with fail
 clear hB0 start c0 f0 HB
 go_loopg [5] (B32^(q/2+1)) (fun k A wr=>∃(a1:Option Addr) (l1:List Nat) (c1:Nat),A= .slice a1 l1.length c1∧Ext ((more ((w.alloc (.cells #[.bool false,.slice a p0 cap] 62)).alloc (.cells #[.bool false,.slice none 0 0] 62)) g1).alloc (.cells ((madeCells #[.int .u32 0] (q/2+1+1)).setIfInBounds (q/2+1) (.int .u32 1)) 138)) wr∧Hid (RC wr a l 300000000000 k a1 l1 c1))
 case atStart=>exact⟨_,_,q/2+1+1,by simp,Ext.refl _,G0.out⟩
 case round=>
  obtain⟨a1,l1,c1,rfl,hext,HG⟩:=hrel
  obtain⟨gx,rfl⟩:=mob (Ext.below hext)
  clear hext G0
  have PL:Hid (∀(k m:List Nat) (a b:Option Addr) (c cb:Nat),Dg.NF B32 k→Dg.NF B32 m→k.length≤300000000000→m.length≤300000000000→∀w,WS w a k→WS w b m→Calls Tryz.prog 194 #[.slice a k.length c,.slice b m.length cb] w fun e w'=>lQ w' e (Dg.vl B32 k+Dg.vl B32 m)∧Below w.heap.size w w'):=
   fun k m a b c cb hk hm bk bm w ha hb=>qk k m a b c cb hk.dg hm.dg (by omega) (by omega) w ha hb
  have SH:Hid (∀(k:List Nat) (a:Option Addr) (c:Nat),Dg.NF B32 k→k.length≤1000000000000→∀w,WS w a k→Calls Tryz.prog 209 #[.slice a k.length c,.int .u32 2] w fun e w'=>(∃a' l',e= .returned (.tuple #[.slice a' l'.length l'.length,.int .u32 ((Dg.vl B32 k%2:Nat):Int)])∧WS w' a' l'∧Dg.NF B32 l'∧Dg.vl B32 l'=Dg.vl B32 k/2)∧Below w.heap.size w w'):=
   fun k a c hk bk w ha=>n6 k a c 2 (by omega) hk.dg bk w ha
  have CM:=Lib.hid (fun (k m:List Nat) (a b:Option Addr) (c cb:Nat) (hk:Dg.NF B32 k) (hm:Dg.NF B32 m) (bk:k.length≤3000000000000) w ha hb=>gA k m a b c cb hk hm bk w ha hb)
  have hne:l1≠[]:=fun e=>by have:=HG.out.p;rw[e]at this;simp[Dg.vl]at this
  have DV1:=Lib.hid (DV.out l1 a a1 q c1 HG.out.n1 hne (Nat.le_refl _) _ HG.out.w0 HG.out.w1)
  clear DV hne
  obtain⟨U,hU⟩:∃U,U=(Dg.vl B32 l1+Dg.vl B32 l/Dg.vl B32 l1)/2:=⟨_,rfl⟩
  have UP:Hid (Dg.vl B32 l<(U+1)*(U+1)):=by rw[hU];exact Cq HG.out.p
  have UE:Hid (Dg.vl B32 l1≤U→Dg.vl B32 l1*Dg.vl B32 l1≤Dg.vl B32 l):=by rw[hU];exact Am
  have U0:Hid (0<U):=by
   have h1:=HG.out.p;have h2:=UP.out
   rcases Nat.eq_zero_or_pos U with h3|h3
   ·rw[h3]at h2
    have h4:Dg.vl B32 l=0:=by omega
    exact absurd (Dg.gy H1.out.nf (fun e=>by have:=HQ.out;rw[e]at this;simp at this;omega) (by decide)) (by omega)
   ·exact h3
  have HU:=Lib.hid hU
  clear hU
  by_cases hlt:U<Dg.vl B32 l1
  ·have cz:dA U (Dg.vl B32 l1)= -1:=by unfold dA;rw[if_pos hlt]
   have CZ:=Lib.hid cz
   have HLT:=Lib.hid hlt
   clear cz hlt
   go_wp2_with (first|(go_at_call 193;(with_reducible refine(DV1.out).mono ?_);rintro e w3 ⟨a3,l3,c3,a4,l4,c4,rfl,d1,d2,d3,d4,d5,d6,d7,d8,hb3⟩;have D:=Lib.hid (And.intro d1 (And.intro d3 (And.intro d5 d7)));clear d1 d2 d3 d4 d5 d6 d7 d8;have HB3:=Lib.hid hb3;obtain⟨g3,rfl⟩:=mob hb3;clear hb3)|(go_at_call 194;(with_reducible refine(PL.out l1 l3 a1 a3 c1 c3 HG.out.n1 D.out.2.2.1 HG.out.b1 ?_ _ ?_ ?_).mono ?_);(focus(refine Nat.le_trans (dV D.out.2.2.1 H1.out.nf.dg ?_) ?_;(focus(rw[D.out.2.2.2];exact Nat.div_le_self _ _));(focus(rw[HQ.out];omega))));(focus(exact HG.out.w1.below HB3.out (Nat.le_refl _)));(focus(exact D.out.2.1));rintro e w5 ⟨⟨a5,l5,rfl,r1,r2,r3⟩,hb5⟩;have R5:=Lib.hid (And.intro r1 (And.intro r2 r3));clear r1 r2 r3;have HB5:=Lib.hid (HB3.out.trans (hb5.mono HB3.out.size));obtain⟨g5,rfl⟩:=mob hb5;clear hb5)|(go_at_call 209;(with_reducible refine(SH.out l5 a5 l5.length R5.out.2.1 ?_ _ R5.out.1).mono ?_);(focus(have h5:=nV (Dg.ba HG.out.n1.dg) (Dg.ba D.out.2.2.1.dg);rw[←R5.out.2.2]at h5;have h6:=jB R5.out.2.1 h5;have h7:=HG.out.b1;have h8:l3.length≤q:=zb49;omega));rintro e w6 ⟨⟨a6,l6,rfl,r1,r2,r3⟩,hb6⟩;rw[R5.out.2.2,D.out.2.2.2,←HU.out]at r3;have R6:=Lib.hid (And.intro r1 (And.intro r2 r3));clear r1 r2 r3;have HB6:=Lib.hid (HB5.out.trans (hb6.mono HB5.out.size));obtain⟨g6,rfl⟩:=mob hb6;clear hb6)|(go_at_call 208;(with_reducible refine(CM.out l6 l1 a6 a1 l6.length c1 R6.out.2.1 HG.out.n1 ?_ _ R6.out.1 (HG.out.w1.below HB6.out (Nat.le_refl _))).mono ?_);(focus(have h9:=dV R6.out.2.1 HG.out.n1.dg (by rw[R6.out.2.2];exact Nat.le_of_lt HLT.out);have:=HG.out.b1;omega));rintro e w7 ⟨rfl,hb7⟩;rw[R6.out.2.2,CZ.out];have R7:=Lib.hid (R6.out.1.below hb7 (Nat.le_refl _));have HB7:=Lib.hid (HB6.out.trans (hb7.mono HB6.out.size));obtain⟨g7,rfl⟩:=mob hb7;clear hb7))
   go_roundg U
   case measure=>rw[HG.out.k];exact HLT.out
   case rel=>exact⟨a6,l6,l6.length,rfl,iB ah,HG.out.w0.below HB7.out (Nat.le_refl _),R7.out,R6.out.2.1,Nat.le_refl _,Nat.le_trans (dV R6.out.2.1 HG.out.n1.dg (by rw[R6.out.2.2];exact Nat.le_of_lt HLT.out)) HG.out.b1,by rw[R6.out.2.2];exact U0.out,by rw[R6.out.2.2];exact UP.out,R6.out.2.2.symm⟩
  ·obtain⟨C,hC0,hC⟩:∃C:Int,0≤C∧dA U (Dg.vl B32 l1)=C:=⟨_,by unfold dA;rw[if_neg hlt];split<;>decide,rfl⟩
   have CZ:=Lib.hid hC
   have HE:=Lib.hid (UE.out (Nat.le_of_not_lt hlt))
   have hC1:decide ((0:Int)≤C)=true:=by rw[decide_eq_true_iff];exact hC0
   clear hC hlt
   go_wp2_with (first|(go_at_call 193;(with_reducible refine(DV1.out).mono ?_);rintro e w3 ⟨a3,l3,c3,a4,l4,c4,rfl,d1,d2,d3,d4,d5,d6,d7,d8,hb3⟩;have D:=Lib.hid (And.intro d1 (And.intro d3 (And.intro d5 d7)));clear d1 d2 d3 d4 d5 d6 d7 d8;have HB3:=Lib.hid hb3;obtain⟨g3,rfl⟩:=mob hb3;clear hb3)|(go_at_call 194;(with_reducible refine(PL.out l1 l3 a1 a3 c1 c3 HG.out.n1 D.out.2.2.1 HG.out.b1 ?_ _ ?_ ?_).mono ?_);(focus(refine Nat.le_trans (dV D.out.2.2.1 H1.out.nf.dg ?_) ?_;(focus(rw[D.out.2.2.2];exact Nat.div_le_self _ _));(focus(rw[HQ.out];omega))));(focus(exact HG.out.w1.below HB3.out (Nat.le_refl _)));(focus(exact D.out.2.1));rintro e w5 ⟨⟨a5,l5,rfl,r1,r2,r3⟩,hb5⟩;have R5:=Lib.hid (And.intro r1 (And.intro r2 r3));clear r1 r2 r3;have HB5:=Lib.hid (HB3.out.trans (hb5.mono HB3.out.size));obtain⟨g5,rfl⟩:=mob hb5;clear hb5)|(go_at_call 209;(with_reducible refine(SH.out l5 a5 l5.length R5.out.2.1 ?_ _ R5.out.1).mono ?_);(focus(have h5:=nV (Dg.ba HG.out.n1.dg) (Dg.ba D.out.2.2.1.dg);rw[←R5.out.2.2]at h5;have h6:=jB R5.out.2.1 h5;have h7:=HG.out.b1;have h8:l3.length≤q:=zb49;omega));rintro e w6 ⟨⟨a6,l6,rfl,r1,r2,r3⟩,hb6⟩;rw[R5.out.2.2,D.out.2.2.2,←HU.out]at r3;have R6:=Lib.hid (And.intro r1 (And.intro r2 r3));clear r1 r2 r3;have HB6:=Lib.hid (HB5.out.trans (hb6.mono HB5.out.size));obtain⟨g6,rfl⟩:=mob hb6;clear hb6)|(go_at_call 208;(with_reducible refine(CM.out l6 l1 a6 a1 l6.length c1 R6.out.2.1 HG.out.n1 ?_ _ R6.out.1 (HG.out.w1.below HB6.out (Nat.le_refl _))).mono ?_);(focus(have h9:=dV R6.out.2.1 R5.out.2.1.dg (by rw[R6.out.2.2,R5.out.2.2,D.out.2.2.2,HU.out];exact Nat.div_le_self _ _);have h5:=nV (Dg.ba HG.out.n1.dg) (Dg.ba D.out.2.2.1.dg);rw[←R5.out.2.2]at h5;have h6:=jB R5.out.2.1 h5;have h7:=HG.out.b1;have h8:l3.length≤q:=zb49;omega));rintro e w7 ⟨rfl,hb7⟩;rw[R6.out.2.2,CZ.out];have R7:=Lib.hid (R6.out.1.below hb7 (Nat.le_refl _));have HB7:=Lib.hid (HB6.out.trans (hb7.mono HB6.out.size));obtain⟨g7,rfl⟩:=mob hb7;clear hb7)|(go_at_call 162;(with_reducible refine(MA.out l1 a1 c1 HG.out.h1 HG.out.n1 (by have:=HG.out.b1;omega) _ (HG.out.w1.below HB7.out (Nat.le_refl _))).mono ?_);rintro e w8 ⟨⟨y,rfl,hy⟩,hb8⟩;have HY:=Lib.hid (show IZ w8 y ((Dg.vl B32 l1:Nat):Int)from hy);clear hy;obtain⟨g8,rfl⟩:=mob hb8;clear hb8))
   refine bodyPost_ret (v:=.tuple #[.agg #[.bool y.s,.slice y.a y.n y.cap],.int .i64 0]) (by simp[results,Tryz.results203,go_sem]) rfl ?_
   exact⟨⟨y,_,rfl,IZ.dz HY.out (by exact iq),HE.out,HG.out.u⟩,by exact bel⟩
end
section
open Go.RowKit
namespace CI
def bnd(z:Int):Bool:=Nat.blt z.natAbs 1208925819614629174706176
def i64(n:Int):C:=.sc (.int .i64 n)
def o1(f:Int→Option C):Orc:=fun l=>match l with
 |[a]=>match wX a with
  |some z=>match bnd z with
   |true=>f z
   |false=>none
  |none=>none
 |_=>none
def o2(f:Int→Int→Option C):Orc:=fun l=>match l with
 |[a,b]=>match wX a with
  |some y=>match wX b with
   |some z=>match bnd y with
    |true=>match bnd z with
     |true=>f y z
     |false=>none
    |false=>none
   |none=>none
  |none=>none
 |_=>none
def sg(z:Int):Int:=match z with| .negSucc _=>-1| .ofNat 0=>0| .ofNat (_+1)=>1
def sqf:Nat→Nat→Nat→Nat
 |0,_,r=>r
 |f+1,n,r=>match Nat.ble ((r+1)*(r+1)) n with
  |true=>sqf f n (r+1)
  |false=>r
def isz(z:Int):Bool:=match z with| .ofNat 0=>true|_=>false
def oAdd:Orc:=o2 fun a b=>some (.nm (a+b))
def oSub:Orc:=o2 fun a b=>some (.nm (a-b))
def oMul:Orc:=o2 fun a b=>some (.nm (a*b))
def It:Orc:=o2 fun a b=>match isz b with|true=>none|false=>some (.tp [.nm (a/b),.nm (a%b),i64 0])
def oCmp:Orc:=o2 fun a b=>some (i64 (sg (a-b)))
def oGcd:Orc:=o2 fun a b=>some (.nm (Int.gcd a b))
def oOf:Orc:=fun l=>match l with
 |[.sc (.int .i64 n)]=>match Nat.blt n.natAbs 4611686018427387904 with
  |true=>some (.nm n)
  |false=>none
 |_=>none
def JJ:Orc:=o1 fun a=>match Nat.blt a.natAbs 4611686018427387904 with
 |true=>some (.tp [i64 a,.sc (.bool true)])
 |false=>none
def Is:Orc:=o1 fun a=>some (.nm a)
def rt(n r:Nat):Option C:=match Nat.ble (r*r) n with
  |true=>match Nat.blt n ((r+1)*(r+1))with
   |true=>some (.tp [.nm r,i64 0])
   |false=>none
  |false=>none
def oRoot:Orc:=o1 fun a=>match a with
 | .ofNat n=>rt n (sqf 10000 n 0)
 |_=>none
def oZero:Orc:=o1 fun a=>some (.sc (.bool (isz a)))
def oSign:Orc:=o1 fun a=>some (i64 (sg a))
def oNeg:Orc:=o1 fun a=>some (.nm (-a))
def oSize:Orc:=o1 fun a=>some (.nm a.natAbs)
def oQuo:Orc:=o2 fun a b=>match isz b with|true=>none|false=>some (.nm (a/b))
def rA:List (Nat×Orc)→Nat→Option Orc
 |[],_=>none
 |(k,o)::l,n=>match Nat.beq k n with|true=>some o|false=>rA l n
def orcT:List (Nat×Orc):=[(190,oAdd),(159,oSub),(117,oMul),(167,It),(161,oCmp),(165,oGcd),(124,oOf),(120,JJ),(112,Is),(203,oRoot),(95,oZero),(101,oSign),(102,oNeg),(185,oSize),(121,oQuo)]
def theE(P:Program):Env:=⟨ly P,rA orcT⟩
theorem Eb(P:Program):(theE P).fns=ly P:=rfl
theorem nu{z:Int}(h:bnd z=true):Fit z:=by
 unfold bnd at h
 rw[Nat.blt_eq]at h
 exact⟨3,by omega,Nat.lt_trans h (by decide)⟩
section
variable {P : Program} {A : Nat→Prop} {ρ : Nat→Nat} {w : World}
theorem tj{c:C}{z:Int}{v:Value}(h:wX c=some z)(hv:VR P A ρ w c v):∃x:IV,v= .agg #[.bool x.s,.slice x.a x.n x.cap]∧IZ w x z:=by
 unfold wX at h
 split at h
 ·cases h
  simp only[VR]at hv
  exact hv
 ·cases h
  simp only[VR,VCs]at hv
  obtain⟨cs,rfl,h1,u,r,h2,⟨h3,_⟩,h4,u2,r2,h5,⟨h6,_⟩,h7⟩:=hv
  subst h3;subst h6;subst h7;subst h5
  refine⟨⟨false,none,0,0⟩,?_,IZ.zero w⟩
  have:cs= #[.bool false,.slice none 0 0]:=by apply Array.ext';rw[h2];rfl
  rw[this]
 ·cases h
def Ans(P:Program)(g:Nat)(vs:Array Value)(w:World)(c:C):Prop:=Calls P g vs w (fun e w'=>∃u,e= .returned u∧(∀A ρ,VR P A ρ w' c u)∧Below w.heap.size w w')
theorem Ans.calls{g:Nat}{vs:Array Value}{c:C}(h:Ans P g vs w c)(A:Nat→Prop)(ρ:Nat→Nat):Calls P g vs w (fun e w'=>∃u,e= .returned u∧VR P A ρ w' c u∧Below w.heap.size w w'):=by
 unfold Ans at h
 refine h.mono ?_
 rintro e w' ⟨u,h1,h2,h3⟩
 exact⟨u,h1,h2 A ρ,h3⟩
theorem ni{g:Nat}{f:Int→Option C}(hE:Enters P g)(H:∀(x:IV) (z:Int) (w:World) (c:C),Fit z→IZ w x z→f z=some c→Ans P g #[.agg #[.bool x.s,.slice x.a x.n x.cap]] w c):
  ∀args r,o1 f args=some r→∀A ρ w vs,VRl P A ρ w args vs.toList→Enters P g∧Calls P g vs w (fun e w'=>∃u,e= .returned u∧VR P A ρ w' r u∧Below w.heap.size w w'):=by
 intro args r e A ρ w vs hv
 refine⟨hE,?_⟩
 unfold o1 at e
 split at e
 ·next a=>
  split at e
  ·next z hz=>
   split at e
   ·next hb=>
    simp only[VRl]at hv
    obtain⟨u,r',h1,h2,h3⟩:=hv
    subst h3
    obtain⟨x,rfl,hx⟩:=tj hz h2
    have:vs= #[.agg #[.bool x.s,.slice x.a x.n x.cap]]:=by apply Array.ext';rw[h1]
    rw[this]
    exact(H x z w r (nu hb) hx e).calls A ρ
   ·cases e
  ·cases e
 ·cases e
theorem nh{g:Nat}{f:Int→Int→Option C}(hE:Enters P g)(H:∀(x y:IV) (u v:Int) (w:World) (c:C),Fit u→Fit v→IZ w x u→IZ w y v→f u v=some c→Ans P g #[.agg #[.bool x.s,.slice x.a x.n x.cap],.agg #[.bool y.s,.slice y.a y.n y.cap]] w c):
  ∀args r,o2 f args=some r→∀A ρ w vs,VRl P A ρ w args vs.toList→Enters P g∧Calls P g vs w (fun e w'=>∃u,e= .returned u∧VR P A ρ w' r u∧Below w.heap.size w w'):=by
 intro args r e A ρ w vs hv
 refine⟨hE,?_⟩
 unfold o2 at e
 split at e
 ·next a b=>
  split at e
  ·next y hy=>
   split at e
   ·next z hz=>
    split at e
    ·next hb=>
     split at e
     ·next hb2=>
      simp only[VRl]at hv
      obtain⟨u,r',h1,h2,u2,r2,h4,h5,h3⟩:=hv
      subst h3;subst h4
      obtain⟨x,rfl,hx⟩:=tj hy h2
      obtain⟨x2,rfl,hx2⟩:=tj hz h5
      have:vs= #[.agg #[.bool x.s,.slice x.a x.n x.cap],.agg #[.bool x2.s,.slice x2.a x2.n x2.cap]]:=by apply Array.ext';rw[h1]
      rw[this]
      exact(H x x2 y z w r (nu hb) (nu hb2) hx hx2 e).calls A ρ
     ·cases e
    ·cases e
   ·cases e
  ·cases e
 ·cases e
theorem vr_nm{z:Int}{x:IV}(h:IZ w x z)(A:Nat→Prop)(ρ:Nat→Nat):VR P A ρ w (.nm z) (.agg #[.bool x.s,.slice x.a x.n x.cap]):=by
 simp only[VR];exact⟨x,rfl,h⟩
theorem qP(n:Int)(A:Nat→Prop)(ρ:Nat→Nat):VR P A ρ w (i64 n) (.int .i64 n):=by
 simp only[i64,VR];exact⟨trivial,rfl⟩
theorem Hp(b:Bool)(A:Nat→Prop)(ρ:Nat→Nat):VR P A ρ w (.sc (.bool b)) (.bool b):=by
 simp only[VR];exact⟨trivial,rfl⟩
theorem iI{g:Nat}{vs:Array Value}{z:Int}(h:Calls P g vs w fun e w'=>(∃x:IV,e= .returned (.agg #[.bool x.s,.slice x.a x.n x.cap])∧IZ w' x z)∧Below w.heap.size w w'):Ans P g vs w (.nm z):=by
 unfold Ans
 refine h.mono ?_
 rintro e w' ⟨⟨x,rfl,hx⟩,hb⟩
 exact⟨_,rfl,vr_nm hx,hb⟩
theorem yT{g:Nat}{vs:Array Value}{z:Int}(h:Calls P g vs w fun e w'=>e= .returned (.int .i64 z)∧Below w.heap.size w w'):Ans P g vs w (i64 z):=by
 unfold Ans
 refine h.mono ?_
 rintro e w' ⟨rfl,hb⟩
 exact⟨_,rfl,qP z,hb⟩
end
theorem GP(z:Int):sg z=sgn z:=by
 unfold sg sgn
 split
 ·next n=>
  have h:Int.negSucc n<0:=Int.negSucc_lt_zero n
  generalize Int.negSucc n=z at*
  rw[if_neg (by omega),if_pos (by omega)]
 ·rfl
 ·next n=>
  have h:(0:Int)<Int.ofNat (n+1):=Int.natCast_pos.2 (Nat.succ_pos n)
  generalize Int.ofNat (n+1)=z at*
  rw[if_neg (by omega),if_neg (by omega)]
theorem CE(z:Int):isz z=decide (z=0):=by
 unfold isz
 split
 ·rfl
 ·next h=>
  symm
  rw[decide_eq_false_iff_not]
  intro e
  exact h e
theorem JT{z:Int}(h:isz z=false):z≠0:=by
 rw[CE]at h;simpa using h
theorem BQ{n r s:Nat}(h1:r*r≤n)(h2:n<(r+1)*(r+1))(h3:s*s≤n)(h4:n<(s+1)*(s+1)):r=s:=by
 have k1:r<s+1:=Nat.lt_of_not_le fun h=>by have:=Nat.mul_le_mul h h;omega
 have k2:s<r+1:=Nat.lt_of_not_le fun h=>by have:=Nat.mul_le_mul h h;omega
 omega
theorem tV:∀{l:List (Nat×Orc)} {n:Nat} {o:Orc},rA l n=some o→(n,o)∈l
 |[],_,_,h=>by cases h
 |(k,o')::l,n,o,h=>by
  unfold rA at h
  split at h
  ·next hb=>
   cases h
   rw[Nat.eq_of_beq_eq_true hb]
   exact List.mem_cons_self
  ·exact List.mem_cons_of_mem _ (tV h)
theorem Ir:rX Tryz.prog (theE Tryz.prog):=by
  intro g f hg
  have hm:=tV (show rA orcT g=some f from hg)
  simp only[orcT,List.mem_cons,Prod.mk.injEq,List.not_mem_nil,or_false]at hm
  rcases hm with⟨rfl,rfl⟩|⟨rfl,rfl⟩|⟨rfl,rfl⟩|⟨rfl,rfl⟩|⟨rfl,rfl⟩|⟨rfl,rfl⟩|⟨rfl,rfl⟩|⟨rfl,rfl⟩|⟨rfl,rfl⟩|⟨rfl,rfl⟩|⟨rfl,rfl⟩|⟨rfl,rfl⟩|⟨rfl,rfl⟩|⟨rfl,rfl⟩|⟨rfl,rfl⟩
  · exact nh (enters_of Tryz.func190 (by kernel_rfl) rfl) fun x y u v w c fu fv hx hy e => by
      cases e;exact iI (pH x y u v fu fv w hx.ip hy.ip)
  · exact nh (enters_of Tryz.func159 (by kernel_rfl) rfl) fun x y u v w c fu fv hx hy e => by
      cases e;exact iI (sD x y u v fu fv w hx.ip hy.ip)
  · exact nh (enters_of Tryz.func117 (by kernel_rfl) rfl) fun x y u v w c fu fv hx hy e => by
      cases e;exact iI (mr x y u v fu fv w hx.ip hy.ip)
  · exact nh (enters_of Tryz.func167 (by kernel_rfl) rfl) fun x y u v w c fu fv hx hy e => by
      split at e
      · cases e
      · next hz=>
        cases e
        have hv:=JT hz
        unfold Ans
        refine(rN x y u v fu fv w hx.ip hy.ip).mono ?_
        rintro e w' ⟨q,r,rfl,h1,h2,hb⟩
        rw[if_neg hv]at h2
        refine⟨_,rfl,fun A ρ=> ?_,hb⟩
        rw[if_neg hv]
        simp only[VR,VRl]
        exact⟨_,rfl,_,_,rfl,⟨q,rfl,h1⟩,_,_,rfl,⟨r,rfl,h2⟩,_,_,rfl,qP 0 A ρ,rfl⟩
  · exact nh (enters_of Tryz.func161 (by kernel_rfl) rfl) fun x y u v w c fu fv hx hy e => by
      cases e;rw[GP];exact yT (tg x y u v fu fv w hx.ip hy.ip)
  · exact nh (enters_of Tryz.func165 (by kernel_rfl) rfl) fun x y u v w c fu fv hx hy e => by
      cases e;exact iI (yE x y u v fu fv w hx.ip hy.ip)
  · intro args r e A ρ w vs hv
    refine⟨enters_of Tryz.func124 aa rfl,?_⟩
    unfold oOf at e
    split at e
    · next n=>
      split at e
      · next hb=>
        cases e
        rw[Nat.blt_eq]at hb
        simp only[VRl,VR]at hv
        obtain⟨u,r',h1,⟨rfl,_⟩,h3⟩:=hv
        subst h3
        have:vs= #[.int .i64 n]:=by apply Array.ext';rw[h1]
        rw[this]
        exact(iI (oB n (by omega) w)).calls A ρ
      · cases e
    · cases e
  · exact ni (enters_of Tryz.func120 (by kernel_rfl) rfl) fun x z w c fz hx e => by
      split at e
      · next hb=>
        cases e
        rw[Nat.blt_eq]at hb
        have hI:I64 z:=by unfold I64;omega
        unfold Ans
        refine(nX x z fz w hx.ip).mono ?_
        rintro e w' ⟨rfl,hb⟩
        refine⟨_,rfl,fun A ρ=> ?_,hb⟩
        rw[show smv z=z from if_pos hI,show decide (I64 z)=true from decide_eq_true hI]
        simp only[VR,VRl]
        exact⟨_,rfl,_,_,rfl,qP z A ρ,_,_,rfl,⟨rfl,rfl⟩,rfl⟩
      · cases e
  · exact ni (enters_of Tryz.func112 (by kernel_rfl) rfl) fun x z w c fz hx e => by
      cases e
      obtain⟨l,h1,rfl⟩:=hx.ip
      have bl:=dC h1.nf fz
      exact iI (rl x l (by omega) w h1)
  · exact ni (enters_of Tryz.func203 (by kernel_rfl) rfl) fun x z w c fz hx e => by
      split at e
      · next n=>
        generalize sqf 10000 n 0=r at e
        unfold rt at e
        split at e
        · next h1=>
          split at e
          · next h2=>
            cases e
            have k1:=Nat.le_of_ble_eq_true h1
            rw[Nat.blt_eq]at h2
            unfold Ans
            refine(EA x _ fz (Int.natCast_nonneg n) w hx.ip).mono ?_
            rintro e w' ⟨⟨y,s,rfl,hy,h3,h4⟩,hb⟩
            have:s=r:=BQ h3 h4 k1 h2
            subst this
            refine⟨_,rfl,fun A ρ=> ?_,hb⟩
            simp only[VR,VRl]
            exact⟨_,rfl,_,_,rfl,⟨y,rfl,hy⟩,_,_,rfl,qP 0 A ρ,rfl⟩
          · cases e
        · cases e
      · cases e
  · exact ni (enters_of Tryz.func95 (by kernel_rfl) rfl) fun x z w c fz hx e => by
      cases e
      rw[CE]
      unfold Ans
      refine(eE x z w hx).mono ?_
      rintro e w' ⟨rfl,hb⟩
      exact⟨_,rfl,fun A ρ=>Hp _ A ρ,hb⟩
  · exact ni (enters_of Tryz.func101 (by kernel_rfl) rfl) fun x z w c fz hx e => by
      cases e;rw[GP];exact yT (nQ x z fz w hx.ip)
  · exact ni (enters_of Tryz.func102 (by kernel_rfl) rfl) fun x z w c fz hx e => by
      cases e;exact iI (gH x z fz w hx.ip)
  · exact ni (enters_of Tryz.func185 (by kernel_rfl) rfl) fun x z w c fz hx e => by
      cases e;exact iI (jw x z fz w hx.ip)
  · exact nh (enters_of Tryz.func121 (by kernel_rfl) rfl) fun x y u v w c fu fv hx hy e => by
      split at e
      · cases e
      · cases e;exact iI (gG x y u v fu fv w hx.ip hy.ip)
end CI
end
section
open Go.RowKit
namespace CI
def isTrue:Option Out→Bool
 |some (.val (.sc (.bool true)) _)=>true
 |_=>false
theorem Cm{o:Option Out}(h:isTrue o=true):∃h',o=some (.val (.sc (.bool true)) h'):=by
 unfold isTrue at h
 split at h
 ·exact⟨_,rfl⟩
 ·cases h
set_option maxRecDepth 100000 in
theorem Dk:isTrue (run (theE Tryz.prog) 3000 (.call (.fn 15 []) [] ⟨0,0,[],.e⟩))=true:=by kernel_rfl
theorem Dl(w:World):Calls Tryz.prog 15 #[] w (fun e w'=>e= .returned (.bool true)∧Below w.heap.size w w'):=by
 obtain⟨h',e⟩:=Cm Dk
 refine(BO aa Ir (Eb _) (enters_of Tryz.func15 aa rfl) e w).mono ?_
 rintro e w' ⟨u,A,ρ,rfl,h1,_,h2⟩
 simp only[VR]at h1
 exact⟨by rw[h1.1],h2⟩
end CI
end
section
open Go.RowKit
namespace DW
theorem pF:Fn Tryz.prog 15 [] (.sc (.bool true)):=by
 refine⟨enters_of Tryz.func15 aa rfl,fun X w vs _ hv=>?_⟩
 simp only[ATp]at hv
 have:vs= #[]:=Array.toList_inj.1 hv
 subst this
 refine(CI.Dl w).mono fun e w' ⟨h,hb⟩=>⟨_,h,?_,hb⟩
 simp only[AR];exact⟨trivial,rfl⟩
theorem qV{n:Nat}(h:(!(smq n))=true):n≤70∧(n≤64→n≤5):=by
 unfold smq at h
 simp at h
 omega
theorem Ib{m:List (List Int)}(h:smL m=true):m.length≤70∧∀l∈m,l.length≤70:=by
 unfold smL at h
 rw[Bool.and_eq_true]at h
 exact⟨(qV h.1).1,fun l hl=>(qV (List.all_eq_true.1 h.2 l hl)).1⟩
theorem Ek{m:List (List Int)}(h:smL m=true)(hc:chk m=0):m.length≤5∧wid m≤5:=by
 obtain⟨k1,k2,k3,_⟩:=kG hc
 unfold smL at h
 rw[Bool.and_eq_true]at h
 refine⟨(qV h.1).2 k1,?_⟩
 cases m with
 |nil=>exact Nat.zero_le _
 |cons l m=>
  have h1:=k3 l List.mem_cons_self
  have h2:=(qV (List.all_eq_true.1 h.2 l List.mem_cons_self)).2 (by omega)
  omega
set_option maxRecDepth 20000
set_option maxHeartbeats 2000000
end DW
end
section
namespace Mx
theorem jU{A:Mat}{r i j:Nat}(h:i<r):at' (A.take r) i j=at' A i j:=by
 unfold at' rw
 rw[List.getD_eq_getElem?_getD,List.getD_eq_getElem?_getD,List.getElem?_take,if_pos h,←List.getD_eq_getElem?_getD,←List.getD_eq_getElem?_getD]
theorem nJ{A:Mat}{r i j:Nat}(h:¬i<r):at' (A.take r) i j=0:=by
 have:rw (A.take r) i=[]:=by
  unfold rw
  rw[List.getD_eq_getElem?_getD,List.getElem?_take,if_neg h]
  rfl
 unfold at'
 rw[this]
 rfl
theorem HF.take:∀(A:Mat) (r:Nat),HF A→HF (A.take r)
 |_,0,_=>trivial
 |[],_+1,_=>trivial
 |a::A,r+1,h=>by
  have hz:∀i j,at' (a::A) i j=0→at' (a::A.take r) i j=0:=fun i j h=>by
   show at' ((a::A).take (r+1)) i j=0
   by_cases hi:i<r+1
   ·rw[jU hi];exact h
   ·exact nJ hi
  have hz2:∀i j,at' A i j=0→at' (A.take r) i j=0:=fun i j h=>by
   by_cases hi:i<r
   ·rw[jU hi];exact h
   ·exact nJ hi
  rcases h with h|⟨p,h1,h2,h3,h4,h5⟩
  ·exact .inl fun i j=>hz i j (h i j)
  ·refine .inr ⟨p,fun i j hj=>hz i j (h1 i j hj),h2,fun i=>hz2 i p (h3 i),HF.take A r h4,fun i q k1 k2=>?_⟩
   have hi:i<r:=Classical.byContradiction fun hi=>k2 (nJ hi)
   rw[jU hi]at k2⊢
   exact h5 i q (fun j hj=>by rw[←jU (r:=r) hi];exact k1 j hj) k2
theorem HF.div{g:Int}(hg:0<g):∀(A B:Mat),A.length=B.length→(∀i j,at' A i j=g*at' B i j)→HF A→HF B
 |_,[],_,_,_=>trivial
 |[],b::B,hl,_,_=>by simp at hl
 |a::A,b::B,hl,h,hA=>by
  have h0:∀j,a.getD j 0=g*b.getD j 0:=fun j=>h 0 j
  have ht:∀i j,at' A i j=g*at' B i j:=fun i j=>h (i+1) j
  have hz:∀{x:Int},g*x=0→x=0:=fun e=>by
   rcases Int.mul_eq_zero.1 e with e|e
   ·omega
   ·exact e
  rcases hA with hA|⟨p,h1,h2,h3,h4,h5⟩
  ·exact .inl fun i j=>hz (by rw[←h i j];exact hA i j)
  ·refine .inr ⟨p,fun i j hj=>hz (by rw[←h i j];exact h1 i j hj),?_,fun i=>hz (by rw[←ht i p];exact h3 i),HF.div hg A B jn ht h4,fun i q k1 k2=>?_⟩
   ·rw[h0]at h2
    exact Int.lt_of_mul_lt_mul_left (a:=g) (by rw[Int.mul_zero];exact h2) (by omega)
   ·have h6:=h5 i q (fun j hj=>by rw[ht,k1 j hj,Int.mul_zero]) (by rw[ht];exact fun e=>k2 (hz e))
    rw[h0,ht]at h6
    exact⟨Int.le_of_mul_le_mul_left (a:=g) (by rw[Int.mul_zero];exact h6.1) hg,Int.lt_of_mul_lt_mul_left (a:=g) h6.2 (by omega)⟩
theorem nH_hf{n:Nat}{M:Mat}(h:Rc n M):HF (nH n M):=by
 obtain⟨pv,he⟩:=mc n 0 (0,M) id h (lu M)
 rw[Nat.zero_add]at he
 have h2:=wI ((gu n 0 (0,M) h).rc h) he (red n 0 (0,M)).2.length 0 (Nat.zero_add _).symm
 rw[List.drop_zero]at h2
 exact HF.take _ _ h2
theorem nH_nz{n:Nat}{M:Mat}(h:Rc n M):∀l∈nH n M,l.all (fun z=>decide (z=0))=false:=fun l hl=>by
 rw[←ta h]at hl
 unfold DW.fil at hl
 have:=(List.mem_filter.1 hl).2
 simpa using this
theorem Iv{n:Nat}{X:Mat}(h:Rc n X)(hf:HF X)(hz:∀l∈X,l.all (fun z=>decide (z=0))=false):nH n X=X:=by
 obtain⟨pv,he⟩:=mc n 0 (0,X) id h (lu X)
 rw[Nat.zero_add]at he
 have hre:=gu n 0 (0,X) h
 have h2:=wI (hre.rc h) he (red n 0 (0,X)).2.length 0 (Nat.zero_add _).symm
 rw[List.drop_zero]at h2
 have hs:=hre.sp h
 have:=yA (red n 0 (0,X)).2 X hre.len (hre.rc h) h h2 hf hs.1 hs.2
 rw[←ta h,this]
 exact yH hz
theorem CX:∀(row:List Int) (z:Int),gR row z∣z∧∀x∈row,gR row z∣x
 |[],z=>⟨Int.dvd_refl z,fun x hx=>by cases hx⟩
 |x::l,z=>by
  have h:=CX l ((Int.gcd z x:Nat):Int)
  refine⟨Int.dvd_trans h.1 (Int.gcd_dvd_left ..),fun y hy=>?_⟩
  rcases List.mem_cons.1 hy with rfl|hy
  ·exact Int.dvd_trans h.1 (Int.gcd_dvd_right ..)
  ·exact h.2 y hy
theorem mB:∀(M:Mat) (z:Int),gM M z∣z∧∀l∈M,∀x∈l,gM M z∣x
 |[],z=>⟨Int.dvd_refl z,fun x hx=>by cases hx⟩
 |r::M,z=>by
  have h:=mB M (gR r z)
  have h1:=CX r z
  refine⟨Int.dvd_trans h.1 h1.1,fun l hl=>?_⟩
  rcases List.mem_cons.1 hl with rfl|hl
  ·exact fun x hx=>Int.dvd_trans h.1 (h1.2 x hx)
  ·exact h.2 l hl
theorem GZ:∀(row:List Int) (z:Int),0≤z→0≤gR row z
 |[],_,h=>h
 |x::l,z,_=>GZ l _ (Int.natCast_nonneg _)
theorem G1:∀(M:Mat) (z:Int),0≤z→0≤gM M z
 |[],_,h=>h
 |r::M,z,h=>G1 M _ (GZ r z h)
theorem CW{g:Int}(hg:0≤g):∀(row:List Int) (z:Int),gR (row.map (fun x=>g*x)) (g*z)=g*gR row z
 |[],_=>rfl
 |x::l,z=>by
  have h:=CW hg l ((Int.gcd z x:Nat):Int)
  show gR (l.map (fun x=>g*x)) ((Int.gcd (g*z) (g*x):Nat):Int)=g*gR l ((Int.gcd z x:Nat):Int)
  rw[←h,Int.gcd_mul_left,Int.natCast_mul,Int.natAbs_of_nonneg hg]
theorem CY{g:Int}(hg:0≤g):∀(M:Mat) (z:Int),gM (mapM (fun x=>g*x) M) (g*z)=g*gM M z
 |[],_=>rfl
 |r::M,z=>by
  show gM (mapM (fun x=>g*x) M) (gR (r.map (fun x=>g*x)) (g*z))=g*gM M (gR r z)
  rw[CW hg,CY hg]
theorem Cw{g:Int}{M:Mat}(h:∀l∈M,∀x∈l,g∣x):mapM (fun x=>g*x) (mapM (fun x=>x/g) M)=M:=by
 unfold mapM
 rw[List.map_map]
 have:∀l∈M,(List.map (fun x=>g*x)∘List.map (fun x=>x/g)) l=l:=fun l hl=>by
  show List.map (fun x=>g*x) (List.map (fun x=>x/g) l)=l
  rw[List.map_map]
  have:∀x∈l,((fun x=>g*x)∘(fun x=>x/g)) x=x:=fun x hx=>Int.mul_ediv_cancel' (h l hl x hx)
  rw[List.map_congr_left this,List.map_id']
 rw[List.map_congr_left this,List.map_id']
theorem pG(f:Int→Int)(hf:f 0=0)(M:Mat)(i j:Nat):at' (mapM f M) i j=f (at' M i j):=by
 unfold at'
 rw[gT,List.getD_eq_getElem?_getD,List.getD_eq_getElem?_getD,List.getElem?_map]
 cases(rw M i)[j]? with
 |none=>exact hf.symm
 |some x=>rfl
theorem bV{n:Nat}{M:Mat}{d:Int}(h:Rc n M)(hd:0<d):nH n (nR n M d)=nR n M d∧nG n (nR n M d) (d/nG n M d)=1∧nR n (nR n M d) (d/nG n M d)=nR n M d∧Rc n (nR n M d)∧0<nG n M d∧0<d/nG n M d:=by
 have hD:=mB (nH n M) d
 have hp:0<nG n M d:=by
  have h1:=G1 (nH n M) d (by omega)
  have h2:=(DW.uJ (nH n M) d (by omega)).1
  unfold nG;omega
 have hH:=GW h
 have hF:=nH_hf h
 have hZ:=nH_nz h
 have hR:Rc n (nR n M d):=yr hH
 have hb:mapM (fun x=>nG n M d*x) (nR n M d)=nH n M:=Cw hD.2
 have hdd:nG n M d*(d/nG n M d)=d:=Int.mul_ediv_cancel' hD.1
 have hg:gM (nH n M) d=nG n M d:=rfl
 have hX:nH n (nR n M d)=nR n M d:=Iv hR (HF.div hp (nH n M) (nR n M d) (b7 _ _).symm (fun i j=>by
  conv=>lhs;rw[←hb]
  exact pG _ (Int.mul_zero _) _ _ _) hF) fun l hl=>by
   obtain⟨r,hr,rfl⟩:=List.mem_map.1 hl
   have h1:=hZ r hr
   rw[List.all_eq_false]at h1⊢
   obtain⟨x,hx,h2⟩:=h1
   refine⟨x/nG n M d,List.mem_map.2 ⟨x,hx,rfl⟩,?_⟩
   have h3:=Int.mul_ediv_cancel' (hD.2 r hr x hx)
   rw[hg]at h3
   simp only[decide_eq_true_eq]at h2⊢
   intro h4
   rw[h4,Int.mul_zero]at h3
   exact h2 h3.symm
 have hG:nG n (nR n M d) (d/nG n M d)=1:=by
  have h1:=CY (g:=nG n M d) (by omega) (nR n M d) (d/nG n M d)
  rw[hb,hdd,hg]at h1
  have h2:nG n M d*(gM (nR n M d) (d/nG n M d)-1)=0:=by rw[Int.mul_sub,←h1,Int.mul_one,Int.sub_self]
  show gM (nH n (nR n M d)) (d/nG n M d)=1
  rw[hX]
  rcases Int.mul_eq_zero.1 h2 with h2|h2
  ·omega
  ·omega
 refine⟨hX,hG,?_,hR,hp,?_⟩
 ·show mapM (fun z=>z/nG n (nR n M d) (d/nG n M d)) (nH n (nR n M d))=nR n M d
  rw[hG,hX]
  unfold mapM
  have:∀l:List Int,l.map (fun z=>z/1)=l:=fun l=>by
   rw[List.map_congr_left (g:=fun x=>x) (fun x _=>Int.ediv_one x),List.map_id']
  rw[List.map_congr_left (g:=fun x=>x) (fun l _=>this l),List.map_id']
 ·refine Int.lt_of_mul_lt_mul_left (a:=nG n M d) ?_ (by omega)
  rw[hdd,Int.mul_zero];exact hd
end Mx
end
section
open Go.RowKit
namespace DW
theorem rq{n:Nat}{m:Mx.Mat}:∀{l:List Int},l∈nH n m→l∈(Mx.red n 0 (0,m)).2:=fun h=>List.mem_of_mem_take h
theorem yd{n:Nat}{den:Int}{m:Mx.Mat}(hc:lck n m den=0):Mx.Bd (2^(50*11^n)) (Mx.red n 0 (0,m)).2:=by
 have:=Mx.rf (n:=n) (e:=50) (by omega) n 0 0 m (cB hc) (by simpa using oy hc)
 rw[Nat.zero_add]at this
 exact this
theorem rO{g x:Int}(hg:0<g)(h:g∣x):(x/g).natAbs≤x.natAbs:=by
 have h1:=Int.mul_ediv_cancel' h
 have h2:x.natAbs=g.natAbs*(x/g).natAbs:=by rw[←Int.natAbs_mul,h1]
 rw[h2]
 exact Nat.le_mul_of_pos_left _ (by omega)
theorem mC{n:Nat}{den:Int}{m:Mx.Mat}(hc:lck n m den=0):(den/nG n m den).natAbs≤2^50:=by
 have hd:=(cS hc).1
 have h1:=(Mx.bV (cB hc) (show 0<den by omega)).2.2.2.2.1
 exact Nat.le_trans (rO h1 (Mx.mB (nH n m) den).1) (Nat.le_trans (show den.natAbs≤1000000000000000 by omega) (by decide))
theorem mn{n:Nat}{den:Int}{m:Mx.Mat}(hc:lck n m den=0):(nR n m den).length≤64:=by
 have h1:=(cS hc).2.1
 have h2:=ru (cB hc)
 unfold nR
 rw[b7];omega
theorem EH(n:Nat)(den:Int)(m:Mx.Mat)(hc:lck n m den=0)(hn:n≤5):Fn Tryz.prog 158 [dW m,.nm den,zI n] (.tp [dW (nR n m den),.nm (den/nG n m den)]):=by
 obtain⟨k1,k2,k3⟩:=cS hc
 have hR:=cB hc
 have h5:=Hn hn
 exact yQ m n 50 n den hR (by omega) (by omega) (by omega) (.inr (Nat.le_refl _)) h5 (oy hc) (bh (e:=50) (Nat.le_trans (show den.natAbs≤1000000000000000 by omega) (by decide)) (by omega)) (by omega)
  (fun l hl x hx=>bh (kH (yd hc) (rq hl) hx) (by omega)) (fun l hl x hx=>bh (kH (yd hc) hl hx) (by omega))
theorem JQ{n:Int}{m:List (List Int)}(h:lgt n m=true):n≠6∧m.length≤70∧∀l∈m,l.length≤10:=by
 unfold lgt at h
 rw[Bool.and_eq_true,Bool.not_eq_true',Bool.or_eq_false_iff,Bool.or_eq_false_iff,decide_eq_false_iff_not,decide_eq_false_iff_not,List.all_eq_true]at h
 exact⟨h.1.1.1,by omega,fun l hl=>of_decide_eq_true (h.2 l hl)⟩
theorem Fn.sB{P:Program}{f:FuncId}{ds ds':List D}{r:D}(h:Fn P f ds r)(hw:∀X w vs,ATp X w ds' vs→ATp X w ds vs):Fn P f ds' r:=⟨h.1,fun X w vs hX hv=>h.2 X w vs hX (hw X w vs.toList hv)⟩
set_option maxRecDepth 20000
set_option maxHeartbeats 2000000
theorem BN:Fn Tryz.prog 35 [dL 0 [] 0,.st [zI 0,.sc (.slice none 0 0),zI 0]] (.sc (.bool true)):=by
 refine(xZ 0 0 0 0 [] [] (by simp) (fun l hl=>by cases hl)).sB fun X w vs h=>?_
 simp only[ATp]at h⊢
 obtain⟨u,rest,e,h1,u2,rest2,e2,h2,e3⟩:=h
 exact⟨u,rest,e,h1,u2,rest2,e2,Dp h2,e3⟩
end DW
end
section
namespace Mx
theorem tI(j:Nat):skip 0 j=j+1:=by unfold skip;rw[if_neg (by omega)]
theorem sK(l:Nat):skip (l+1) 0=0:=by unfold skip;rw[if_pos (by omega)]
theorem BC(l i:Nat):skip (l+1) (i+1)=skip l i+1:=by
 unfold skip
 by_cases h:i<l
 ·rw[if_pos h,if_pos (by omega)]
 ·rw[if_neg h,if_neg (by omega)]
theorem qg(n:Nat)(g:Nat→Int):sm (n+1) g=g 0+sm n (fun l=>g (l+1)):=by
 rw[xU g n 0 (Nat.zero_le _),bO n (fun l=>g (skip 0 l)) (fun l=>g (l+1)) fun l _=>by rw[tI]]
 omega
theorem Hg(n:Nat)(h:∀f,D (n+1) f=D (n+1) fun i j=>f j i)(f:Nat→Nat→Int):
  D (n+2) f=f 0 0*D (n+1) (fun i j=>f (i+1) (j+1))+sm (n+1) fun l=>sm (n+1) fun m=>-(sg l*sg m)*(f 0 (l+1)*f (m+1) 0)*D n (fun i j=>f (skip m j+1) (skip l i+1)):=by
 show sm (n+2) (fun k=>sg k*f 0 k*D (n+1) (fun i j=>f (i+1) (skip k j)))=_
 rw[qg]
 congr 1
 ·rw[show sg 0=1 from rfl,Int.one_mul,cK (n+1) (fun i j=>f (i+1) (skip 0 j)) (fun i j=>f (i+1) (j+1)) fun i j _ _=>by rw[tI]]
 ·refine bO _ _ _ fun l _=>?_
  rw[h]
  show sg (l+1)*f 0 (l+1)*sm (n+1) (fun m=>sg m*f (m+1) (skip (l+1) 0)*D n (fun i j=>f (skip m j+1) (skip (l+1) (i+1))))=_
  rw[←qW]
  refine bO _ _ _ fun m _=>?_
  rw[sK,xW,cK n (fun i j=>f (skip m j+1) (skip (l+1) (i+1))) (fun i j=>f (skip m j+1) (skip l i+1)) fun i j _ _=>by rw[BC]]
  generalize D n _=d
  simp only[Int.neg_mul,Int.mul_assoc]
  congr 1
  rw[Int.mul_left_comm (f 0 (l+1)) (sg m)]
theorem Hi:∀n,(∀f,D n f=D n fun i j=>f j i)∧∀f,D (n+1) f=D (n+1) fun i j=>f j i
 |0=>⟨fun _=>rfl,fun f=>by
  show sm 1 (fun k=>sg k*f 0 k*1)=sm 1 (fun k=>sg k*f k 0*1)
  rfl⟩
 |n+1=>by
  obtain⟨h1,h2⟩:=Hi n
  refine⟨h2,fun f=>?_⟩
  rw[Hg n h2 f,Hg n h2 (fun i j=>f j i)]
  congr 1
  ·rw[h2]
  ·rw[sJ]
   refine bO _ _ _ fun l _=>bO _ _ _ fun m _=>?_
   rw[h1,Int.mul_comm (sg m) (sg l),Int.mul_comm (f 0 (m+1))]
theorem D_tr(n:Nat)(f:Nat→Nat→Int):D n f=D n fun i j=>f j i:=(Hi n).1 f
theorem Jr{n i:Nat}(hi:i<n)(f:Nat→Nat→Int):D n (upd f i fun _=>0)=0:=by
 have h:=rY 0 0 n f i (fun _=>0) (fun _=>0) hi
 simpa using h
theorem D_sm{n i:Nat}(hi:i<n)(f:Nat→Nat→Int)(v:Nat→Int)(A:Nat→Nat→Int):∀m,D n (upd f i fun j=>sm m fun k=>v k*A k j)=sm m fun k=>v k*D n (upd f i (A k))
 |0=>Jr hi f
 |m+1=>by
  have h:=rY 1 (v m) n f i (fun j=>sm m fun k=>v k*A k j) (A m) hi
  rw[D_sm hi f v A m]at h
  show D n (upd f i fun j=>sm m (fun k=>v k*A k j)+v m*A m j)=sm m (fun k=>v k*D n (upd f i (A k)))+v m*D n (upd f i (A m))
  rw[Int.one_mul]at h
  rw[←h]
  congr 2
  funext j
  rw[Int.one_mul]
theorem Ch:∀(n:Nat) (τ:Nat→Nat),(∀i,i<n+1→τ i<n)→∃i j,i<j∧j<n+1∧τ i=τ j
 |0,τ,h=>absurd (h 0 (by omega)) (by omega)
 |n+1,τ,h=>by
  by_cases e:∃i,i<n+1∧τ i=τ (n+1)
  ·obtain⟨i,h1,h2⟩:=e
   exact⟨i,n+1,h1,by omega,h2⟩
  ·have hne:∀i,i<n+1→τ i≠τ (n+1):=fun i hi h2=>e ⟨i,hi,h2⟩
   have ht:=h (n+1) (by omega)
   obtain⟨i,j,h1,h2,h3⟩:=Ch n (fun i=>if τ (n+1)<τ i then τ i-1 else τ i) fun i hi=>by
    have a:=hne i hi
    have b:=h i (by omega)
    show(if τ (n+1)<τ i then τ i-1 else τ i)<n
    split<;>omega
   refine⟨i,j,h1,by omega,?_⟩
   have a:=hne i (by omega)
   have b:=hne j h2
   split at h3<;>split at h3<;>omega
theorem qF{r:Nat}(H:Nat→Nat→Int):∀(d k:Nat),k+d=r→∀τ:Nat→Nat,(∀i,i<r→τ i<r)→(∀i,i<k→τ i=i)→∃c:Int,∀S:Nat→Nat,D r (fun i j=>H (τ i) (S j))=c*D r (fun i j=>H i (S j))
  |0,k,hk,τ,_,h2=>⟨1,fun S=>by
    rw[Int.one_mul]
    exact cK r _ _ fun i j hi _=>by rw[h2 i (by omega)]⟩
  |d+1,k,hk,τ,h1,h2=>by
    by_cases e:∃i j,i<j∧j<r∧τ i=τ j
    · obtain⟨i,j,hij,hj,he⟩:=e
      exact⟨0,fun S=>by
        rw[Int.zero_mul]
        exact xj (i:=i) (j:=j) (by omega) hj (by omega) _ fun l=>by rw[he]⟩
    · have hne:∀i j,i<j→j<r→τ i≠τ j:=fun i j hi hj he=>e ⟨i,j,hi,hj,he⟩
      have hp:∃p,p<r∧τ p=k:=Classical.byContradiction fun hno=>by
        have hno':∀p,p<r→τ p≠k:=fun p hp he=>hno ⟨p,hp,he⟩
        obtain⟨n,rfl⟩:∃n,r=n+1:=⟨r-1,by omega⟩
        obtain⟨i,j,g1,g2,g3⟩:=Ch n (fun i=>if k<τ i then τ i-1 else τ i) fun i hi=>by
          have a:=hno' i hi
          have b:=h1 i hi
          show(if k<τ i then τ i-1 else τ i)<n
          split<;>omega
        have a:=hno' i (by omega)
        have b:=hno' j g2
        refine hne i j g1 g2 ?_
        split at g3<;>split at g3<;>omega
      obtain⟨p,hp,hpk⟩:=hp
      have hkp:k≤p:=Classical.byContradiction fun h=>by
        have:=h2 p (by omega)
        omega
      by_cases hpe:p=k
      · subst hpe
        exact qF (r:=r) H d (p+1) (by omega) τ h1 fun i hi=>by
          by_cases hi2:i<p
          · exact h2 i hi2
          · obtain rfl:i=p:=by omega
            exact hpk
      · obtain ⟨c, hc⟩ := qF (r := r) H d (k + 1) (by omega) (fun i => if i = k then τ p else if i = p then τ k else τ i) (fun i hi => by
            show(if i=k then τ p else if i=p then τ k else τ i)<r
            split
            · exact h1 p hp
            · split
              · exact h1 k (by omega)
              · exact h1 i hi) (fun i hi=>by
            show(if i=k then τ p else if i=p then τ k else τ i)=i
            split
            · omega
            · split
              · omega
              · exact h2 i (by omega))
        refine⟨-c,fun S=> ?_⟩
        rw[Int.neg_mul,←hc S]
        have hs:=Ko (n:=r) (i:=k) (j:=p) (by omega) hp (fun h=>hpe h.symm) (fun i j=>H (τ i) (S j))
        have:D r (upd (upd (fun i j=>H (τ i) (S j)) k ((fun i j=>H (τ i) (S j)) p)) p ((fun i j=>H (τ i) (S j)) k))=D r (fun i j=>H (if i=k then τ p else if i=p then τ k else τ i) (S j)):=cK r _ _ fun i j _ _=>by
          unfold upd
          by_cases e1:i=p
          · rw[if_pos e1,if_neg (by omega),if_pos e1]
          · rw[if_neg e1]
            by_cases e2:i=k
            · rw[if_pos e2,if_pos e2]
            · rw[if_neg e2,if_neg e2,if_neg e1]
        rw[this]at hs
        omega
theorem Dw{r:Nat}(H V:Nat→Nat→Int):∀t,t≤r→∀τ:Nat→Nat,(∀i,i<r→τ i<r)→∃c:Int,∀S:Nat→Nat,D r (fun i j=>if i<t then sm r (fun k=>V i k*H k (S j))else H (τ i) (S j))=c*D r (fun i j=>H i (S j))
  |0,_,τ,h1=>by
    obtain⟨c,hc⟩:=qF (r:=r) H r 0 (by omega) τ h1 fun i hi=>absurd hi (Nat.not_lt_zero i)
    exact⟨c,fun S=>by
      rw[←hc S]
      exact cK r _ _ fun i j _ _=>if_neg (Nat.not_lt_zero i)⟩
  |t+1,ht,τ,h1=>by
    have hk:∀k,∃c:Int,k<r→∀S:Nat→Nat,D r (fun i j=>if i<t then sm r (fun k=>V i k*H k (S j))else H (if i=t then k else τ i) (S j))=c*D r (fun i j=>H i (S j)):=fun k=>by
      by_cases hkr:k<r
      · obtain ⟨c, hc⟩ := Dw (r := r) H V t (by omega) (fun i => if i = t then k else τ i) fun i hi => by
          show(if i=t then k else τ i)<r
          split
          · exact hkr
          · exact h1 i hi
        exact⟨c,fun _=>hc⟩
      · exact⟨0,fun h=>absurd h hkr⟩
    refine⟨sm r fun k=>V t k*Classical.choose (hk k),fun S=> ?_⟩
    have e:=D_sm (n:=r) (i:=t) (by omega) (fun i j=>if i<t then sm r (fun k=>V i k*H k (S j))else H (τ i) (S j)) (V t) (fun k j=>H k (S j)) r
    rw[cK r (fun i j=>if i<t+1 then sm r (fun k=>V i k*H k (S j))else H (τ i) (S j)) (upd (fun i j=>if i<t then sm r (fun k=>V i k*H k (S j))else H (τ i) (S j)) t fun j=>sm r fun k=>V t k*H k (S j)) fun i j _ _=>by
      unfold upd
      by_cases e1:i=t
      · rw[if_pos e1,if_pos (by omega),e1]
      · rw[if_neg e1]
        show(if i<t+1 then sm r fun k=>V i k*H k (S j)else H (τ i) (S j))=if i<t then sm r (fun k=>V i k*H k (S j))else H (τ i) (S j)
        by_cases e2:i<t
        · rw[if_pos e2,if_pos (show i<t+1 by omega)]
        · rw[if_neg e2,if_neg (show¬i<t+1 by omega)],e,Int.mul_comm,←qW]
    refine bO r _ _ fun k hkr=> ?_
    have hc:=Classical.choose_spec (hk k) hkr S
    rw[cK r (upd (fun i j=>if i<t then sm r (fun k=>V i k*H k (S j))else H (τ i) (S j)) t fun j=>H k (S j)) (fun i j=>if i<t then sm r (fun k=>V i k*H k (S j))else H (if i=t then k else τ i) (S j)) fun i j _ _=>by
      unfold upd
      by_cases e1:i=t
      · rw[if_pos e1,if_neg (by omega),if_pos e1]
      · rw[if_neg e1,if_neg e1],hc,Int.mul_left_comm,Int.mul_comm (D r _)]
    rw[Int.mul_left_comm,Int.mul_assoc]
end Mx
end
section
namespace Mx
def fct:Nat→Nat
 |0=>1
 |n+1=>(n+1)*fct n
theorem Aa:∀(n:Nat) (f:Nat→Int) (X:Nat),(∀k,k<n→(f k).natAbs≤X)→(sm n f).natAbs≤n*X
 |0,_,_,_=>by simp[sm]
 |n+1,f,X,h=>by
  have h1:=Aa n f X fun k hk=>h k (by omega)
  have h2:=h n (by omega)
  show(sm n f+f n).natAbs≤_
  rw[Nat.succ_mul]
  omega
theorem BH(k:Nat):(sg k).natAbs=1:=by unfold sg;split<;>rfl
theorem D_bd{B:Nat}:∀(n:Nat) (f:Nat→Nat→Int),(∀i j,(f i j).natAbs≤B)→(D n f).natAbs≤fct n*B^n
 |0,_,_=>by simp[D,fct]
 |n+1,f,h=>by
  show(sm (n+1) fun k=>sg k*f 0 k*D n (fun i j=>f (i+1) (skip k j))).natAbs≤_
  refine Nat.le_trans (Aa _ _ (B*(fct n*B^n)) fun k _=>?_) ?_
  ·rw[Int.natAbs_mul,Int.natAbs_mul,BH,Nat.one_mul]
   exact Nat.mul_le_mul (h 0 k) (D_bd n _ fun i j=>h _ _)
  ·show _≤(n+1)*fct n*B^(n+1)
   rw[Nat.pow_succ,Nat.mul_comm (B^n) B,←Nat.mul_assoc,Nat.mul_assoc,Nat.mul_assoc,Nat.mul_left_comm B]
   exact Nat.le_refl _
theorem Du{r L:Nat}(A U:Nat→Nat→Int)(S:Nat→Nat)(h0:∀τ:Nat→Nat,(∀i,i<r→τ i<L)→D r (fun i j=>A (τ i) (S j))=0):∀t,t≤r→∀τ:Nat→Nat,(∀i,i<r→τ i<L)→D r (fun i j=>if i<t then sm L (fun k=>U i k*A k (S j))else A (τ i) (S j))=0
 |0,_,τ,h1=>by
  rw[←h0 τ h1]
  exact cK r _ _ fun i j _ _=>if_neg (Nat.not_lt_zero i)
 |t+1,ht,τ,h1=>by
  have e:=D_sm (n:=r) (i:=t) (by omega) (fun i j=>if i<t then sm L (fun k=>U i k*A k (S j))else A (τ i) (S j)) (U t) (fun k j=>A k (S j)) L
  rw[cK r (fun i j=>if i<t+1 then sm L (fun k=>U i k*A k (S j))else A (τ i) (S j)) (upd (fun i j=>if i<t then sm L (fun k=>U i k*A k (S j))else A (τ i) (S j)) t fun j=>sm L fun k=>U t k*A k (S j)) fun i j _ _=>by
   unfold upd
   by_cases e1:i=t
   ·rw[if_pos e1,if_pos (by omega),e1]
   ·rw[if_neg e1]
    show(if i<t+1 then sm L fun k=>U i k*A k (S j)else A (τ i) (S j))=if i<t then sm L (fun k=>U i k*A k (S j))else A (τ i) (S j)
    by_cases e2:i<t
    ·rw[if_pos e2,if_pos (show i<t+1 by omega)]
    ·rw[if_neg e2,if_neg (show¬i<t+1 by omega)],e]
  refine lX L _ fun k hk=>?_
  rw[cK r (upd (fun i j=>if i<t then sm L (fun k=>U i k*A k (S j))else A (τ i) (S j)) t fun j=>A k (S j)) (fun i j=>if i<t then sm L (fun k=>U i k*A k (S j))else A (if i=t then k else τ i) (S j)) fun i j _ _=>by
   unfold upd
   by_cases e1:i=t
   ·rw[if_pos e1,if_neg (by omega),if_pos e1]
   ·rw[if_neg e1,if_neg e1],Du A U S h0 t (by omega) (fun i=>if i=t then k else τ i) (fun i hi=>by
    show(if i=t then k else τ i)<L
    split
    ·exact hk
    ·exact h1 i hi),Int.mul_zero]
theorem Js{r L B:Nat}(A H U V:Nat→Nat→Int)(c:Nat→Nat)(hU:∀i,i<r→∀j,H i j=sm L fun k=>U i k*A k j)(hV:∀i,i<L→∀j,A i j=sm r fun k=>V i k*H k j)(hp:D r (fun i j=>H i (c j))≠0)(hB:∀i j,(A i j).natAbs≤B)(S:Nat→Nat):(D r (fun i j=>H i (S j))).natAbs≤fct r*B^r:=by
 have hτ:∃τ:Nat→Nat,(∀i,i<r→τ i<L)∧D r (fun i j=>A (τ i) (c j))≠0:=Classical.byContradiction fun hno=>by
  have h0:∀τ:Nat→Nat,(∀i,i<r→τ i<L)→D r (fun i j=>A (τ i) (c j))=0:=fun τ h=>Classical.byContradiction fun h2=>hno ⟨τ,h,h2⟩
  by_cases hL:0<L
  ·have:=Du A U c h0 r (Nat.le_refl _) (fun _=>0) fun _ _=>hL
   refine hp ?_
   rw[←this]
   exact cK r _ _ fun i j hi _=>by rw[if_pos hi,hU i hi]
  ·obtain rfl:L=0:=by omega
   by_cases hr:r=0
   ·subst hr;exact hp (h0 (fun _=>0) fun i hi=>absurd hi (Nat.not_lt_zero i))
   ·refine hp (Kn (i:=0) (by omega) _ fun l _=>?_)
    show H 0 (c l)=0
    rw[hU 0 (by omega)];rfl
 obtain⟨τ,h1,h2⟩:=hτ
 obtain⟨z,hz⟩:=Dw (r:=r) H (fun i k=>V (τ i) k) r (Nat.le_refl _) (fun _=>0) (fun i hi=>by omega)
 have e:∀S:Nat→Nat,D r (fun i j=>A (τ i) (S j))=z*D r (fun i j=>H i (S j)):=fun S=>by
  rw[←hz S]
  exact cK r _ _ fun i j hi _=>by rw[if_pos hi,hV _ (h1 i hi)]
 have hz0:z≠0:=fun hz0=>h2 (by rw[e c,hz0,Int.zero_mul])
 have h3:=D_bd (B:=B) r (fun i j=>A (τ i) (S j)) fun i j=>hB _ _
 rw[e S,Int.natAbs_mul]at h3
 exact Nat.le_trans (Nat.le_mul_of_pos_left _ (by omega)) h3
theorem Hh:∀(n:Nat) (f:Nat→Nat→Int),(∀i j,j<i→i<n→f i j=0)→(∀i,i<n→1≤f i i)→1≤D n f∧∀i,i<n→f i i≤D n f
 |0,_,_,_=>⟨by simp[D],fun i hi=>absurd hi (Nat.not_lt_zero i)⟩
 |n+1,f,h0,h1=>by
  have e:D (n+1) f=f 0 0*D n (fun i j=>f (i+1) (j+1)):=by
   rw[D_tr]
   show sm (n+1) (fun k=>sg k*f k 0*D n (fun i j=>f (skip k j) (i+1)))=_
   rw[Bz (j:=0) (by omega) fun k hk hne=>by rw[h0 k 0 (by omega) hk];simp,D_tr n (fun i j=>f (i+1) (j+1))]
   rw[show sg 0=1 from rfl,Int.one_mul]
   congr 1
  obtain⟨i1,i2⟩:=Hh n (fun i j=>f (i+1) (j+1)) (fun i j hj hi=>h0 _ _ (by omega) (by omega)) fun i hi=>h1 _ (by omega)
  have ha:=h1 0 (by omega)
  rw[e]
  generalize D n (fun i j=>f (i+1) (j+1))=d at*
  have hda:d≤f 0 0*d:=by
   have:=Int.mul_le_mul_of_nonneg_right ha (show 0≤d by omega)
   omega
  have haa:f 0 0≤f 0 0*d:=by
   have:=Int.mul_le_mul_of_nonneg_left i1 (show 0≤f 0 0 by omega)
   omega
  refine⟨by omega,fun i hi=>?_⟩
  cases i with
  |zero=>exact haa
  |succ i=>exact Int.le_trans (i2 i (by omega)) hda
theorem Kp{r K P:Nat}(H:Nat→Nat→Int)(c:Nat→Nat)(hK:∀S:Nat→Nat,(D r (fun i j=>H i (S j))).natAbs≤K)(hp:D r (fun i j=>H i (c j))≠0){i:Nat}(hi:i<r)(hP:∀l,l<r→(H i (c l)).natAbs≤P)(j:Nat):(H i j).natAbs≤r*(P*K):=by
 let col:Nat→Nat:=fun b=>if b=0 then j else c (b-1)
 let g:Nat→Nat→Int:=fun a b=>H (if a=0 then i else a-1) (col b)
 have h0:D (r+1) g=0:=xj (i:=0) (j:=i+1) (by omega) (by omega) (by omega) g fun l=>by
  show H (if 0=0 then i else _) _=H (if i+1=0 then i else i+1-1) _
  rw[if_pos rfl,if_neg (by omega),Nat.add_sub_cancel]
 have h1:D (r+1) g=sm (r+1) fun k=>sg k*g 0 k*D r (fun a b=>g (a+1) (skip k b)):=rfl
 have hg:∀k,D r (fun a b=>g (a+1) (skip k b))=D r (fun a b=>H a (col (skip k b))):=fun k=>cK r _ _ fun a b _ _=>by
  show H (if a+1=0 then i else a+1-1) _=_
  rw[if_neg (by omega),Nat.add_sub_cancel]
 rw[h0,qg]at h1
 have e1:sg 0*g 0 0*D r (fun a b=>g (a+1) (skip 0 b))=H i j*D r (fun a b=>H a (c b)):=by
  rw[hg 0,show sg 0=1 from rfl,Int.one_mul]
  show H (if 0=0 then i else _) (col 0)*_=_
  rw[if_pos rfl]
  congr 1
 rw[e1]at h1
 have h2:=Aa r (fun l=>sg (l+1)*g 0 (l+1)*D r (fun a b=>g (a+1) (skip (l+1) b))) (P*K) fun l hl=>by
  rw[Int.natAbs_mul,Int.natAbs_mul,BH,Nat.one_mul,hg (l+1)]
  refine Nat.mul_le_mul ?_ (hK _)
  show(H (if 0=0 then i else _) (if l+1=0 then j else c (l+1-1))).natAbs≤P
  rw[if_pos rfl,if_neg (by omega),Nat.add_sub_cancel]
  exact hP l hl
 have h3:(H i j*D r (fun a b=>H a (c b))).natAbs≤r*(P*K):=by omega
 rw[Int.natAbs_mul]at h3
 exact Nat.le_trans (Nat.le_mul_of_pos_right _ (by omega)) h3
theorem wb:∀(M:Mat) (f:Nat→Int) (j:Nat),lcf f M j=sm M.length fun k=>f k*at' M k j
 |[],_,_=>rfl
 |a::A,f,j=>by
  rw[cY,wb A,List.length_cons,qg]
  simp only[bX,eD]
theorem BZ{n B:Nat}{M:Mat}(hR:Rc n M)(hB:∀i j,(at' M i j).natAbs≤B)(i j:Nat):∃r,r≤n∧(at' (red n 0 (0,M)).2 i j).natAbs≤r*((fct r*B^r)*(fct r*B^r)):=by
  have hre:RE M (red n 0 (0,M)).2:=gu n 0 (0,M) hR
  obtain⟨pv,he⟩:=mc n 0 (0,M) id hR (lu M)
  rw[Nat.zero_add]at he
  obtain⟨h1,h2⟩:=hre.sp hR
  generalize(red n 0 (0,M)).2=H at*
  generalize(red n 0 (0,M)).1=r at*
  have hlen:=hre.len
  have hRH:=hre.rc hR
  have hrn:r≤n:=by
    have:∀k,k≤r→k≤n∧∀i,i<k→i≤pv i:=fun k=>by
      induction k with
      |zero=>exact fun _=>⟨Nat.zero_le _,fun i hi=>absurd hi (Nat.not_lt_zero i)⟩
      |succ k ih=>
        intro hk
        obtain⟨a,b⟩:=ih (by omega)
        have hk2:k≤pv k:=by
          cases k with
          |zero=>omega
          |succ k=>have:=b k (by omega);have:=he.mono k (k+1) (by omega) (by omega);omega
        have:=he.lt k (by omega)
        refine⟨by omega,fun i hi=> ?_⟩
        by_cases e:i=k
        · rw[e];exact hk2
        · exact b i (by omega)
    exact(this r (Nat.le_refl _)).1
  refine⟨r,hrn,?_⟩
  by_cases hi:i<r
  · have hz : ∀ k, r ≤ k → ∀ j, at' H k j = 0 := fun k hk j => by
      by_cases hj:j<n
      · exact he.zb k hk j hj
      · exact uK hRH (by omega)
    have hU:∀i,∃f:Nat→Int,∀j,at' H i j=sm M.length fun k=>f k*at' M k j:=fun i=>by
      obtain⟨f,hf⟩:=h1 (at' H i) (SP.row H i)
      exact⟨f,fun j=>by rw[hf j,wb]⟩
    have hV:∀i,∃f:Nat→Int,∀j,at' M i j=sm r fun k=>f k*at' H k j:=fun i=>by
      obtain⟨f,hf⟩:=h2 (at' M i) (SP.row M i)
      refine⟨f,fun j=> ?_⟩
      rw[hf j,wb]
      have:∀d,sm (r+d) (fun k=>f k*at' H k j)=sm r fun k=>f k*at' H k j:=fun d=>by
        induction d with
        |zero=>rfl
        |succ d ih=>
          show sm (r+d) _+f (r+d)*at' H (r+d) j=_
          rw[hz (r+d) (by omega),Int.mul_zero,Int.add_zero,ih]
      have:=this (H.length-r)
      rwa[show r+(H.length-r)=H.length by have:=he.le;omega]at this
    have hT:=Hh r (fun i j=>at' H i (pv j)) (fun i j hj hi=>he.zl i hi _ (he.mono j i hj hi)) fun i hi=>by have:=he.pos i hi;omega
    have hp:D r (fun i j=>at' H i (pv j))≠0:=fun h=>by rw[h]at hT;omega
    have hK:=fun S=>Js (B:=B) (at' M) (at' H) (fun i=>Classical.choose (hU i)) (fun i=>Classical.choose (hV i)) pv (fun i _ j=>Classical.choose_spec (hU i) j) (fun i _ j=>Classical.choose_spec (hV i) j) hp hB S
    refine Kp (at' H) pv hK hp hi (fun l hl=> ?_) j
    have hKp:=hK pv
    have hpl:=hT.2 l hl
    have hll:at' H l (pv l)≤(fct r*B^r:Nat):=by omega
    by_cases hil:i<l
    · have:=he.ab i l hil hl;omega
    · by_cases hli:i=l
      · subst hli;have:=he.pos i hi;omega
      · rw[he.zl i hi _ (he.mono l i (by omega) hi)];simp
  · have : at' H i j = 0 := by
      by_cases hj:j<n
      · exact he.zb i (by omega) j hj
      · exact uK hRH (by omega)
    rw[this];simp
end Mx
end
section
open Go.RowKit
namespace DW
theorem EF{n:Nat}{den:Int}{m:Mx.Mat}(hc:lck n m den=0)(hn:n≤5):Mx.Bd (2^520) (Mx.red n 0 (0,m)).2:=fun i j=>by
 obtain⟨r,hr,h⟩:=Mx.BZ (B:=2^50) (cB hc) (oy hc) i j
 refine Nat.le_trans h ?_
 have:r=0∨r=1∨r=2∨r=3∨r=4∨r=5:=by omega
 clear h hr
 rcases this with rfl|rfl|rfl|rfl|rfl|rfl<;>exact of_decide_eq_true aa
theorem mq{n:Nat}{den:Int}{m:Mx.Mat}(hc:lck n m den=0)(hn:n≤5):∀l∈nR n m den,∀x∈l,x.natAbs≤2^520:=fun l hl x hx=>by
 have hd:=(cS hc).1
 obtain⟨r,hr,rfl⟩:=List.mem_map.1 hl
 obtain⟨y,hy,rfl⟩:=List.mem_map.1 hx
 have h1:=(Mx.bV (cB hc) (show 0<den by omega)).2.2.2.2.1
 exact Nat.le_trans (rO h1 ((Mx.mB (nH n m) den).2 r hr y hy)) (kH (EF hc hn) (rq hr) hy)
theorem pE{X:Nat}{M:Mx.Mat}(h:∀l∈M,∀x∈l,x.natAbs≤X):Mx.Bd X M:=fun i j=>by
 rcases at_mem M i j with h1|⟨r,hr,hz⟩
 ·rw[h1];exact Nat.zero_le _
 ·exact h r hr _ hz
theorem w600{n:Nat}(h:n≤5):2*(600*11^n)≤3000000000:=by
 have:=Nat.pow_le_pow_right (n:=11) (by omega) h
 have e:11^5=161051:=rfl
 omega
structure Mk(n:Nat)(M:Mx.Mat)(z:Int):Prop where
 n0:0<n
 n5:n≤5
 len:M.length≤64
 rc:Mx.Rc n M
 bd:Mx.Bd (2^600) M
 z0:0<z
 zb:z.natAbs≤2^600
theorem Mk.red{n:Nat}{M:Mx.Mat}{z:Int}(h:Mk n M z):Mx.Bd (2^(600*11^n)) (Mx.red n 0 (0,M)).2:=by
 have:=Mx.rf (n:=n) (e:=600) (by omega) n 0 0 M h.rc (by rw[Nat.pow_zero,Nat.mul_one];exact h.bd)
 rw[Nat.zero_add]at this
 exact this
theorem Mk.rows{n:Nat}{M:Mx.Mat}{z:Int}(h:Mk n M z):∀l∈nR n M z,∀x∈l,x.natAbs≤2^(600*11^n):=fun l hl x hx=>by
 obtain⟨r,hr,rfl⟩:=List.mem_map.1 hl
 obtain⟨y,hy,rfl⟩:=List.mem_map.1 hx
 have h1:=(Mx.bV h.rc h.z0).2.2.2.2.1
 exact Nat.le_trans (rO h1 ((Mx.mB (nH n M) z).2 r hr y hy)) (kH h.red (rq hr) hy)
theorem Mk.den{n:Nat}{M:Mx.Mat}{z:Int}(h:Mk n M z):(z/nG n M z).natAbs≤2^600:=
 Nat.le_trans (rO (Mx.bV h.rc h.z0).2.2.2.2.1 (Mx.mB (nH n M) z).1) h.zb
theorem Mk.Ad{n:Nat}{M:Mx.Mat}{z:Int}(h:Mk n M z):(nR n M z).length≤64:=by
 have:=ru h.rc
 have:=h.len
 unfold nR
 rw[b7];omega
theorem Mk.rrc{n:Nat}{M:Mx.Mat}{z:Int}(h:Mk n M z):Mx.Rc n (nR n M z):=(Mx.bV h.rc h.z0).2.2.2.1
theorem Mk.made{n:Nat}{M:Mx.Mat}{z:Int}(h:Mk n M z):Fn Tryz.prog 92 [dW M,.nm z,zI n] (hnd n (nR n M z) (z/nG n M z)):=by
 have h5:=w600 h.n5
 have hn:=h.n5
 have hm:=h.len
 have hz:=h.z0
 have hl:=h.Ad
 have hr:=h.rrc
 have BS:=yQ M n 600 n z h.rc (by omega) (by omega) (by omega) (.inr (Nat.le_refl _)) h5 h.bd (bh h.zb (by omega)) (by omega)
  (fun l hl x hx=>bh (kH h.red (rq hl) hx) (by omega)) (fun l hl x hx=>bh (kH h.red hl hx) (by omega))
 exact Ik n M (nR n M z) z (z/nG n M z) BS (by omega) (fun l hl=>by have:=hr l hl;omega) (fun l hl x hx=>mz (h.rows l hl x hx) (by omega)) (mz h.den (by omega))
theorem Mk.net{n:Nat}{M:Mx.Mat}{z:Int}(h:Mk n M z):Fn Tryz.prog 103 [zI n,dW M,.nm z] (jH n (nR n M z) (z/nG n M z)):=by
 have h5:=w600 h.n5
 have hn:=h.n5
 have hm:=h.len
 exact ym n M n 600 z (by omega) h.n0 (by omega) (by omega) (by omega) h.rc h.bd (bf h.zb (by omega))
theorem Mk.hand{n:Nat}{M:Mx.Mat}{z:Int}(h:Mk n M z):Fn Tryz.prog 88 [jH n (nR n M z) (z/nG n M z)] (hnd n (nR n M z) (z/nG n M z)):=by
 have h5:=w600 h.n5
 have hn:=h.n5
 have hl:=h.Ad
 have hz:=(Mx.bV h.rc h.z0).2.2.2.2.2
 exact Fp n (nR n M z) n (z/nG n M z) (by omega) h.n0 (by omega) h.rrc (fun i j=>bf (pE h.rows i j) (by omega)) (bf h.den (by omega)) (by omega)
theorem CQ(dim:Int)(R:Mx.Mat)(d:Int):∃n2 R2 d2 C,hnd dim R d= .tp [dL n2 R2 d2,zI C]∧R2.length≤R.length∧∀l∈R2,l∈R:=by
 unfold hnd
 split
 ·exact⟨_,_,_,_,rfl,Nat.le_refl _,fun l hl=>hl⟩
 ·exact⟨_,_,_,_,rfl,Nat.zero_le _,fun l hl=>by cases hl⟩
theorem pG(f:Int→Int)(hf:f 0=0)(M:Mx.Mat)(i j:Nat):Mx.at' (mapM f M) i j=f (Mx.at' M i j):=Mx.pG f hf M i j
theorem pw(a b:Nat)(h:a≤b):2^a≤2^b:=Nat.pow_le_pow_right (by decide) h
theorem pmul{x y a b c:Nat}(h1:x≤2^a)(h2:y≤2^b)(h:a+b≤c):x*y≤2^c:=Nat.le_trans (Nat.mul_le_mul h1 h2) (by rw[←Nat.pow_add];exact pw _ _ h)
theorem nT{p q:Int}{a b c:Nat}(h1:p.natAbs≤2^a)(h2:q.natAbs≤2^b)(h:a+b≤c):(p*q).natAbs≤2^c:=by
 rw[Int.natAbs_mul];exact pmul h1 h2 h
theorem e15{p:Int}(h: -1000000000000000≤p∧p≤1000000000000000):p.natAbs≤2^50:=Nat.le_trans (show p.natAbs≤1000000000000000 by omega) (by decide)
def j8(n:Nat)(m:Mx.Mat)(den p:Int):Mx.Mat:=mapM (fun x=>p*x) (nR n m den)
def eC(n:Nat)(m:Mx.Mat)(den q:Int):Int:=den/nG n m den*q
theorem vw{n:Nat}{m:Mx.Mat}{den p q:Int}(hc:lck n m den=0)(hn:n≤5)(hp:inb 1000000000000000 p=true)(hq:1≤q∧q≤1000000000000000):Mk n (j8 n m den p) (eC n m den q):=by
 have hd:=(cS hc).1
 have hnn:=Mx.bV (cB hc) (show 0<den by omega)
 refine⟨by omega,hn,?_,yr hnn.2.2.2.1,fun i j=>?_,Int.mul_pos hnn.2.2.2.2.2 (by omega),?_⟩
 ·unfold j8;rw[b7];exact mn hc
 ·unfold j8
  rw[pG _ (by simp)]
  exact nT (a:=50) (b:=520) (c:=600) (e15 (dB.1 hp)) (pE (mq hc hn) i j) (by decide)
 ·exact nT (a:=50) (b:=50) (c:=600) (mC hc) (e15 ⟨by omega,hq.2⟩) (by decide)
theorem EL{n:Nat}{m:Mx.Mat}{den p q:Int}(hc:lck n m den=0)(hn:n≤5)(hp:inb 1000000000000000 p=true)(hq:1≤q∧q≤1000000000000000){n2 d2 C:Int}{R2:Mx.Mat}(e:hnd n (nR n (j8 n m den p) (eC n m den q)) (eC n m den q/nG n (j8 n m den p) (eC n m den q))= .tp [dL n2 R2 d2,zI C]):Fn Tryz.prog 46 [dL n m den,dF p q] (.tp [dL n2 R2 d2,zI C]):=by
 have hk:=vw hc hn hp hq
 have hl:=mn hc
 obtain⟨k1,k2,k3⟩:=cS hc
 have hnn:=Mx.bV (cB hc) (show 0<den by omega)
 have hR:=cB hc
 have CK:=nq n den m j6 j6 (by omega) (fun r hr=>by have:=hR r hr;omega)
 rw[hc]at CK
 have RD:=B0 n den m n j6 (by omega) (by omega) (by omega) hR (oy hc) (wa hc)
 have h1:=dB.1 hp
 have BY:=wby_d (nR n m den) n p (by omega) (by omega) (by omega) hnn.2.2.2.1 (bf (e15 h1) (by omega)) (fun i j=>bf (pE (mq hc hn) i j) (by omega))
 have ML:=CH (den/nG n m den) q (bf (mC hc) (by omega)) (bf (e15 ⟨by omega,hq.2⟩) (by omega))
 have HN:=hk.hand
 rw[e]at HN
 exact EK n den m p q CK hp hq _ _ _ _ _ _ _ _ _ _ RD BY ML hk.net HN
set_option maxRecDepth 20000
set_option maxHeartbeats 2000000
theorem B1(dim den:Int)(m R:Mx.Mat)(d:Int)(WD:Fn Tryz.prog 23 [dM m] (dW m))(OF:Fn Tryz.prog 81 [zI den] (.nm den))(BS:Fn Tryz.prog 158 [dW m,.nm den,zI dim] (.tp [dW R,.nm d])):Fn Tryz.prog 105 [dL dim m den] (.tp [dW R,.nm d]):=by
 refine aE Tryz.func105 aa rfl rfl rfl fun X0=>?_
 simp only[ay]
 (repeat(first|refine gk fun K hK=>?_|refine zs2 ?_));(refine gar ?_;refine ez ?_;refine zs3 ?_;(refine bL (k:=3) (z:=(.agg #[.bool false,.slice none 0 0])) (d:=(.nm 0)) rfl rfl rfl rfl rfl aa ae ae bN ae ae bj ?_);refine af ?_);(repeat(first|refine gk fun K hK=>?_|refine zs2 ?_));(refine kR ?_;refine oX ?_;refine bG ?_;refine dH ?_;refine uC ?_;refine bG ?_;refine dH ?_;refine oY ?_;refine bG ?_;refine mL ?_;refine en ?_;refine en ?_;refine mM ?_;refine ic ?_;refine jj ?_);(repeat(first|refine gk fun K hK=>?_|refine zs2 ?_))
 exact⟨_,ai (k:=3) aG aQ aP,.two (.tmp 2) (.cell 3 62) _ _ rfl (.tmp 2 rfl) (.cell 3 _ _ rfl rfl aa aa)⟩
theorem tO{n:Nat}{m:Mx.Mat}{den:Int}(hc:lck n m den=0)(hn:n≤5):Fn Tryz.prog 105 [dL n m den] (.tp [dW (nR n m den),.nm (den/nG n m den)]):=by
 obtain⟨k1,k2,k3⟩:=cS hc
 have hR:=cB hc
 have WD:=Bj m (by omega) (fun l hl=>by have:=hR l hl;omega) (fun l hl z hz=>wa hc l hl z hz)
 exact B1 n den m _ _ WD (oe den (by omega)) (EH n den m hc hn)
theorem Ey{n:Nat}{m:Mx.Mat}{den p q:Int}(hc:lck n m den=0)(hn:n≤5)(hp:inb 1000000000000000 p=true)(hq:1≤q∧q≤1000000000000000){n2 d2 C:Int}{R2:Mx.Mat}(e:hnd n (nR n (j8 n m den p) (eC n m den q)) (eC n m den q/nG n (j8 n m den p) (eC n m den q))= .tp [dL n2 R2 d2,zI C]):Fn Tryz.prog 48 [dL n m den,dF p q] (.tp [dL n2 R2 d2,zI C]):=by
 have hk:=vw hc hn hp hq
 have hl:=mn hc
 have hd:=(cS hc).1
 have hnn:=Mx.bV (cB hc) (show 0<den by omega)
 have h1:=dB.1 hp
 have SC:=Et (nR n m den) p (by omega) (fun l hl=>by have:=hnn.2.2.2.1 l hl;omega) (bh (e15 h1) (by omega)) (fun l hl x hx=>bh (mq hc hn l hl x hx) (by omega))
 rw[show(fun x=>x*p)=fun x=>p*x from funext fun x=>Int.mul_comm x p]at SC
 have ML:=ry (den/nG n m den) q (bh (mC hc) (by omega)) (bh (e15 ⟨by omega,hq.2⟩) (by omega))
 have MD:=hk.made
 rw[e]at MD
 exact Ev n den m p q hp hq _ _ _ _ _ _ _ _ (tO hc hn) SC ML MD
theorem vQ{n:Nat}{r:List Int}{N:Mx.Mat}(h:Mx.Rc n N):∀k,k≤N.length→mulR n r N k=(List.range n).map fun j=>fA r N j k
 |0,_=>by
  show List.replicate n 0=(List.range n).map fun _=>(0:Int)
  rw[List.map_const',List.length_range]
 |k+1,hk=>by
  show Mx.dn (r.getD k 0) (mulR n r N k) (Mx.rw N k)=_
  rw[vQ h k (by omega)]
  refine List.ext_getElem? fun j=>?_
  have hl:(Mx.rw N k).length=n:=h.rw (by omega)
  by_cases hj:j<n
  ·rw[wW (x:=fA r N j k) (y:=Mx.at' N k j) (by rw[List.getElem?_map,List.getElem?_range hj];rfl) (jE h (by omega) hj),List.getElem?_map,List.getElem?_range hj]
   rfl
  ·rw[List.getElem?_eq_none,List.getElem?_eq_none]
   ·simp;omega
   ·have:=Mx.gQ (r.getD k 0) ((List.range n).map fun j=>fA r N j k) (Mx.rw N k) (by simp[hl])
    rw[this];simp;omega
theorem sX{n:Nat}{M N:Mx.Mat}(h:Mx.Rc n N):mulM n M N=tim M N n:=by
 unfold mulM tim jF
 exact List.map_congr_left fun r _=>vQ h _ (Nat.le_refl _)
theorem yL{row:List Int}{B:Mx.Mat}{k X L:Nat}(hl:row.length≤L)(h:∀j,(row.getD j 0*Mx.at' B j k).natAbs≤X):∀j,(fA row B k j).natAbs≤min j L*X
 |0=>by simp[fA]
 |j+1=>by
  have h1:=yL hl h j
  have h2:=h j
  show(fA row B k j+row.getD j 0*Mx.at' B j k).natAbs≤_
  by_cases hj:j<L
  ·rw[Nat.min_eq_left (by omega)]at h1
   rw[Nat.min_eq_left (by omega),Nat.succ_mul]
   omega
  ·rw[List.getD_eq_getElem?_getD,List.getElem?_eq_none (by omega)]
   rw[Nat.min_eq_right (by omega)]at h1⊢
   simpa using h1
def kj(n:Nat)(m:Mx.Mat)(den:Int)(f:Mx.Mat):Mx.Mat:=mulM (wid f) (nR n m den) f
theorem pB{f:Mx.Mat}(hf:chk f=0):Mx.Bd (2^50) f:=pE fun l hl x hx=>Nat.le_trans ((kG hf).2.2.2 l hl x hx) (by decide)
theorem ua{n:Nat}{m:Mx.Mat}{den:Int}(hc:lck n m den=0)(hn:n≤5){row:List Int}(hr:row∈nR n m den)(j:Nat):(row.getD j 0).natAbs≤2^520:=by
 rw[List.getD_eq_getElem?_getD]
 cases hg:row[j]? with
 |none=>exact Nat.zero_le _
 |some x=>exact mq hc hn row hr x (List.mem_of_getElem? hg)
theorem yx{n:Nat}{m f:Mx.Mat}{den:Int}(hc:lck n m den=0)(hn:n≤5)(hf:chk f=0){row:List Int}(hr:row∈nR n m den)(k j:Nat):(fA row f k j).natAbs≤2^573:=by
 have hd:=(cS hc).1
 have hnn:=Mx.bV (cB hc) (show 0<den by omega)
 have h1:=yL (row:=row) (B:=f) (k:=k) (X:=2^570) (L:=5) (by have:=hnn.2.2.2.1 row hr;omega) (fun j=>nT (a:=520) (b:=50) (c:=570) (ua hc hn hr j) (pB hf j k) (by decide)) j
 refine Nat.le_trans h1 ?_
 exact pmul (a:=3) (b:=570) (c:=573) (Nat.le_trans (Nat.min_le_right j 5) (show 5≤2^3 by decide)) (Nat.le_refl _) (by decide)
theorem wm{n:Nat}{m f:Mx.Mat}{den q:Int}(hc:lck n m den=0)(hn:n≤5)(hf:chk f=0)(hw:1≤wid f)(hw5:wid f≤5)(hq:1≤q∧q≤1000000000000000):Mk (wid f) (kj n m den f) (eC n m den q):=by
 have hd:=(cS hc).1
 have hnn:=Mx.bV (cB hc) (show 0<den by omega)
 have hR:=(kG hf).2.2.1
 refine⟨by omega,hw5,?_,Iw hR,pE fun l hl x hx=>?_,Int.mul_pos hnn.2.2.2.2.2 (by omega),?_⟩
 ·unfold kj;rw[vR];exact mn hc
 ·unfold kj at hl
  rw[sX hR]at hl
  obtain⟨row,hr,rfl⟩:=List.mem_map.1 hl
  obtain⟨k,hk,rfl⟩:=List.mem_map.1 hx
  exact Nat.le_trans (yx hc hn hf hr k _) (pw 573 600 (by decide))
 ·exact nT (a:=50) (b:=50) (c:=600) (mC hc) (e15 ⟨by omega,hq.2⟩) (by decide)
theorem vE{n:Nat}{m f:Mx.Mat}{den q:Int}(hc:lck n m den=0)(hn:n≤5)(hf:chk f=0)(hfl:f.length=n)(hw:1≤wid f)(hw5:wid f≤5)(hq:1≤q∧q≤1000000000000000){n2 d2 C:Int}{R2:Mx.Mat}(e:hnd (wid f) (nR (wid f) (kj n m den f) (eC n m den q)) (eC n m den q/nG (wid f) (kj n m den f) (eC n m den q))= .tp [dL n2 R2 d2,zI C]):Fn Tryz.prog 47 [dL n m den,dM f,zI q] (.tp [dL n2 R2 d2,zI C]):=by
 have hk:=wm hc hn hf hw hw5 hq
 have hl:=mn hc
 obtain⟨k1,k2,k3⟩:=cS hc
 have hnn:=Mx.bV (cB hc) (show 0<den by omega)
 have hR:=cB hc
 have hRf:=(kG hf).2.2.1
 have CK:=nq n den m j6 j6 (by omega) (fun r hr=>by have:=hR r hr;omega)
 rw[hc]at CK
 have CM:=Ci f (by omega) (fun r hr=>by have:=hRf r hr;omega)
 rw[hf]at CM
 have RD:=B0 n den m n j6 (by omega) (by omega) (by omega) hR (oy hc) (wa hc)
 have WO:=GM f (wid f) (by omega) (by omega) hRf (fun l hl z hz=>by
  have:=(kG hf).2.2.2 l hl z hz
  unfold I64;omega)
 have TI:=DD (nR n m den) f n (wid f) 520 50 (by omega) (by omega) (by omega) (by omega) (by omega) hfl (by omega) hnn.2.2.2.1 hRf (pE (mq hc hn)) (pB hf)
 have ML:=CH (den/nG n m den) q (bf (mC hc) (by omega)) (bf (e15 ⟨by omega,hq.2⟩) (by omega))
 have HN:=hk.hand
 rw[e]at HN
 exact EO n den m f q (by omega) CK CM (by omega) ⟨by omega,by omega⟩ hq _ _ _ _ _ _ _ _ _ _ RD WO TI ML hk.net HN
theorem ED{n:Nat}{m f:Mx.Mat}{den q:Int}(hc:lck n m den=0)(hn:n≤5)(hf:chk f=0)(hfl:f.length=n)(hw:1≤wid f)(hw5:wid f≤5)(hq:1≤q∧q≤1000000000000000){n2 d2 C:Int}{R2:Mx.Mat}(e:hnd (wid f) (nR (wid f) (kj n m den f) (eC n m den q)) (eC n m den q/nG (wid f) (kj n m den f) (eC n m den q))= .tp [dL n2 R2 d2,zI C]):Fn Tryz.prog 49 [dL n m den,dM f,zI q] (.tp [dL n2 R2 d2,zI C]):=by
 have hk:=wm hc hn hf hw hw5 hq
 have hl:=mn hc
 have hd:=(cS hc).1
 have hnn:=Mx.bV (cB hc) (show 0<den by omega)
 have hRf:=(kG hf).2.2.1
 have CM:=yP f (by omega)
 rw[hf]at CM
 have hin:=(kG hf).2.2.2
 have WD:=Bj f (by omega) (fun l hl=>by have:=hRf l hl;omega) (fun l hl z hz=>by have:=hin l hl z hz;omega)
 have hg:∀(row:List Int),row∈nR n m den→∀j,(row.getD j 0).natAbs≤2^520:=fun row hr j=>ua hc hn hr j
 have TI:=Hu (nR n m den) f (wid f) (by omega) (by omega) (by omega) ⟨fun row hr=>by have:=hnn.2.2.2.1 row hr;omega,fun j hj=>by rw[hRf.rw hj];exact Nat.le_refl _,fun row hr j=>bh (hg row hr j) (by omega),fun j k=>bh (pB hf j k) (by omega),fun row hr j k=>bh (e:=570) (nT (a:=520) (b:=50) (c:=570) (hg row hr j) (pB hf j k) (by decide)) (by omega),fun row hr k j=>bh (yx hc hn hf hr k j) (by omega)⟩
 rw[←sX hRf]at TI
 have ML:=ry (den/nG n m den) q (bh (mC hc) (by omega)) (bh (e15 ⟨by omega,hq.2⟩) (by omega))
 have MD:=hk.made
 rw[e]at MD
 exact EB n den m f q CM (by omega) ⟨by omega,by omega⟩ hq _ _ _ _ _ _ _ _ (tO hc hn) WD TI ML MD
end DW
end
end Go.Proofs.YtcgjmdpcplhanaaGreat
