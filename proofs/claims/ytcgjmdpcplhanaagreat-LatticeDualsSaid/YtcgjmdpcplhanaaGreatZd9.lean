/- Lemmas for the law: Q3 Q4 Q5 Q6 Q7 Q8 Q9 Q10 Q11 Q12 Q13 Q14 Q15 Q16 Q17 Q18 Q19 Q20 DB DC DE -/
import Derived.Great.BuildSlice
import Derived.Lib.SliceRun
import Derived.Laws.Slices
import Derived.Lib.AppendZerosOnto
import Derived.RangeFuncIn
import Derived.RangeFuncCalls
import Derived.OrdersIn
import Derived.DefersIn
import Derived.RangeFuncLeaves
import Derived.RangeFuncRecord
import Derived.Shelf.Abstract
import Derived.Test.YtcgjmdpcplhanaaGreatZd8
namespace Go.Proofs.YtcgjmdpcplhanaaGreat
section
theorem DP{p:Prop}(h:p:=by unfold at';rw[ak rfl]):p:=h
theorem tN{p:Prop}(h:p:=by simpa using he):p:=h
theorem AY{p:Prop}(h:p:=by rw[ho,hy];simp[Op.operands]):p:=h
end
section
open Go.RowKit
namespace CI
theorem T.Ak{α:Type}(k:Nat):T.get (T.e:T α) k=none:=by cases k<;>rfl
theorem Il{j k:Nat}(h:j≠k)(e:j%2=k%2):j/2≠k/2:=by omega
theorem T.Im{α:Type}:∀(f:Nat) (t:T α) (k j:Nat) (x:Option α),k+1<2^f->T.get (T.put f t k x) j=if j=k then x else T.get t j
 |0,t,k,j,x,h=>by simp at h
 |f+1,t,0,j,x,h=>by
  cases t<;>cases j<;>simp[T.put,T.get,T.Ak];split<;>rfl
 |f+1,t,k+1,j,x,h=>by
  have hk:k/2+1<2^f:=by rw[ei]at h;omega
  have IH:=fun t j=>T.Im f t (k/2) j x hk
  cases j with
  |zero=>cases t<;>simp only[T.put]<;>split<;>simp[T.get]
  |succ j=>
   have key:∀l r:T α,∀v,T.get (match k%2 with|0=>T.n v (T.put f l (k/2) x) r|_+1=>T.n v l (T.put f r (k/2) x)) (j+1)=if j+1=k+1 then x else T.get (T.n v l r) (j+1):=fun l r v=>by
    have hj:=Nat.mod_two_eq_zero_or_one j;have hk2:=Nat.mod_two_eq_zero_or_one k;rcases hk2 with e|e<;>rcases hj with e'|e'<;>simp only[e,e',T.get,IH]
    ·by_cases hjk:j=k
     ·subst hjk;simp
     ·rw[ah (Il hjk aa),ah aa]
    ·rw[ah aa]
    ·rw[ah aa]
    ·by_cases hjk:j=k
     ·subst hjk;simp
     ·rw[ah (Il hjk aa),ah aa]
   cases t with
   |e=>
    refine(key .e .e none).trans ?_;split
    ·rfl
    ·simp only[T.get];split<;>simp[T.Ak]
   |n v l r=>exact key l r v
theorem T.yE{α:Type}{t:T α}{k j:Nat}{x:Option α}(h:k<1000000):T.get (T.put 24 t k x) j=if j=k then x else T.get t j:=
 T.Im 24 t k j x (gi (Nat.succ_le_succ (bO h)) av)
def Bf:LS->LoopState
 | .ready=>.ready
 | .busy=>.busy
 | .done=>.done
 | .vP=>.exhausted
def su:Ex->Option Code
 | .norm=>none
 | .ret=>some .ret
 | .exit id=>some (.exit id)
def H.live(h:H)(k:Nat):Prop:=(h.get k).isSome=true
section
variable (P : Program)
def TR(A:Nat->Prop)(ρ:Nat->Nat)(w:World)(tm:Tm)(tmps:Array Value):Prop:=∀t,VR P A ρ w (CO.ev tm (CO.t t)) (tmps.getD t undef)
def BR(A:Nat->Prop)(ρ:Nat->Nat)(w:World)(r:Nat):B->Prop
 | .cells T l=>∃arr xs rest,w.heap[r]?=some (.cells arr T (0,0))/\arr.toList=xs++rest/\VCs P A ρ w l xs/\NW w r
 | .loop st p tm ps a b d=>A d/\∃fn tmps a' b',w.heap[r]?=some (.loop ⟨Bf st,su p,fn,tmps,ps.toArray,a',b',ρ d⟩)/\TR P A ρ w tm tmps/\comp P tmps.size a'=some a/\comp P tmps.size b'=some b/\tmps.size<1000000/\∀t∈ps,t<tmps.size
 | .defd o=>w.heap[r]?=some (.deferred (if o then some []else none))
structure Rel(A:Nat->Prop)(ρ:Nat->Nat)(w:World)(h:H):Prop where
 blk:∀k b,h.get k=some b->k<h.next/\A k/\ρ k<w.heap.size/\BR P A ρ w (ρ k) b
 inj:∀j k,h.live j->h.live k->ρ j=ρ k->j=k
 bd:h.next<=1000000
def Ext(A:Nat->Prop)(h h':H):Nat->Prop:=fun k=>A k\/(h.next<=k/\k<h'.next)
structure cP(A:Nat->Prop)(ρ:Nat->Nat)(w:World)(h:H)(ρ':Nat->Nat)(w':World)(h':H):Prop where
 rho:∀k,(k<h.next\/h'.next<=k)->ρ' k=ρ k
 rel:Rel P (Ext A h h') ρ' w' h'
 lt:Lt w w'
 fr:∀b,b<w.heap.size->(∀k,h.live k->h'.low<=k->ρ k≠b)->w'.heap[b]?=w.heap[b]?
 new:∀k,h.next<=k->h'.live k->w.heap.size<=ρ' k\/∃j,h.live j/\h'.low<=j/\ρ' k=ρ j
def Dj(A:Nat->Prop)(h h':H):Prop:=∀k,A k->k<h.next\/h'.next<=k
structure Good(h h':H):Prop where
 next:h.next<=h'.next
 low:h'.low<=h.low
 forb:h'.forb=h.forb
 keep:∀k,k<h.next->k<h'.low->T.get h'.t k=T.get h.t k
 dead:∀k,k<h.next->¬h.live k->T.get h'.t k=T.get h.t k
end
variable {P : Program} {A A' : Nat->Prop} {ρ ρ' : Nat->Nat} {w w' w'' : World} {h h' h'' : H}
theorem Aj{h h':H}{k:Nat}(hf:h'.forb=h.forb)(ht:T.get h'.t k=T.get h.t k):h'.get k=h.get k:=by
 unfold H.get;rw[hf,ht]
theorem Good.refl(h:H):Good h h:=⟨af _,af _,rfl,fun _ _ _=>rfl,fun _ _ _=>rfl⟩
theorem Good.back(g:Good h h'){k:Nat}(hk:k<h.next)(hl:h'.live k):h.live k:=by
 by_cases hh:h.live k
 ·exact hh
 ·unfold H.live at hl hh⊢;rw[Aj g.forb (g.dead k hk hh)]at hl;exact hl
theorem Good.trans(g:Good h h')(g':Good h' h''):Good h h'':=by
 refine⟨aH g.next g'.next,aH g'.low g.low,g'.forb.trans g.forb,fun k hk hl=>?_,fun k hk hl=>?_⟩
 ·rw[g'.keep k (aS hk g.next) hl,g.keep k hk (aS hl g'.low)]
 ·rw[g'.dead k (aS hk g.next) (fun e=>hl (g.back hk e)),g.dead k hk hl]
theorem TR.mo{tm:Tm}{a:Array Value}(m:Mo A A' ρ ρ')(k:Lt w w')(t:TR P A ρ w tm a):TR P A' ρ' w' tm a:=fun i=>VR.mo m k _ _ (t i)
theorem NW.of{r:Nat}(hh:w'.heap[r]?=w.heap[r]?)(n:NW w r):NW w' r:=fun m e=>n m (by rw[<-e];exact(World.cell?_of_block (a:=⟨r,0,none⟩) hh).symm)
theorem BR.mo{r:Nat}{b:B}(m:Mo A A' ρ ρ')(k:Lt w w')(hh:w'.heap[r]?=w.heap[r]?)(t:BR P A ρ w r b):BR P A' ρ' w' r b:=by
 cases b with
 |cells T l=>
  obtain⟨arr,xs,rest,h1,h2,h3,h4⟩:=t;exact⟨arr,xs,rest,hh.trans h1,h2,VCs.mo m k _ _ h3,NW.of hh h4⟩
 |loop st p tm ps a b d=>
  obtain⟨h0,fn,tmps,a',b',h1,h2,h3⟩:=t;exact⟨m.sub _ h0,fn,tmps,a',b',by rw[hh,h1,m.eq _ h0],h2.mo m k,h3⟩
 |defd o=>exact hh.trans t
theorem Rel.mo(m:Mo A A' ρ ρ')(k:Lt w w')(hb:∀j,h.live j->w'.heap[ρ j]?=w.heap[ρ j]?)(t:Rel P A ρ w h):Rel P A' ρ' w' h:=by
 have hlv:∀j,h.live j->A j:=fun j hj=>by
  obtain⟨b,e⟩:=cU.1 hj;exact(t.blk j b e).2.1
 refine⟨fun j b e=>?_,fun i j hi hj e=>?_,t.bd⟩
 ·obtain⟨h1,h2,h3,h4⟩:=t.blk j b e;have hl:h.live j:=by unfold H.live;rw[e];rfl
  rw[m.eq _ h2];exact⟨h1,m.sub _ h2,aS h3 k.size,h4.mo m k (hb j hl)⟩
 ·rw[m.eq _ (hlv i hi),m.eq _ (hlv j hj)]at e;exact t.inj i j hi hj e
theorem cP.mo(p:cP P A ρ w h ρ' w' h')(d:Dj A h h'):Mo A (Ext A h h') ρ ρ':=⟨fun _ hk=>.inl hk,fun k hk=>p.rho k (d k hk)⟩
theorem cP.refl(t:Rel P A ρ w h):cP P A ρ w h ρ w h:=
 ⟨fun _ _=>rfl,t.mo ⟨fun _ hk=>.inl hk,fun _ _=>rfl⟩ (Lt.refl w) (fun _ _=>rfl),Lt.refl w,fun _ _ _=>rfl,fun k hk hl=>by
  obtain⟨b,e⟩:=cU.1 hl;have:=(t.blk k b e).1;omega⟩
theorem cP.below(t:Rel P A ρ w h)(hb:Below w.heap.size w w'):cP P A ρ w h ρ w' h:=by
 have hlt:∀j,h.live j->ρ j<w.heap.size:=fun j hj=>by
  obtain⟨b,e⟩:=cU.1 hj;exact(t.blk j b e).2.2.1
 refine⟨fun _ _=>rfl,t.mo ⟨fun _ hk=>.inl hk,fun _ _=>rfl⟩ (Lt.below hb) (fun j hj=>hb.block _ (hlt j hj)),Lt.below hb,fun b hbl _=>hb.block b hbl,fun k hk hl=>?_⟩;obtain⟨b,e⟩:=cU.1 hl;have:=(t.blk k b e).1;omega
theorem Dj.left(d:Dj A h h'')(g:h'.next<=h''.next):Dj A h h':=fun k hk=>(d k hk).imp id (fun e=>aH g e)
theorem Dj.right(d:Dj A h h'')(g:h.next<=h'.next):Dj (Ext A h h') h' h'':=fun k hk=>by
 rcases hk with hk|hk
 ·exact(d k hk).imp (fun e=>aS e g) id
 ·exact .inl hk.2
theorem Ext.trans(g:h.next<=h'.next)(g':h'.next<=h''.next)(k:Nat):Ext (Ext A h h') h' h'' k↔Ext A h h'' k:=by
 unfold Ext;constructor
 ·rintro((e|e)|e)
  ·exact .inl e
  ·exact .inr aa
  ·exact .inr aa
 ·rintro(e|e)
  ·exact .inl (.inl e)
  ·by_cases hk:k<h'.next
   ·exact .inl (.inr aa)
   ·exact .inr aa
theorem Mo.ext(g:h.next<=h'.next)(g':h'.next<=h''.next)(ρ:Nat->Nat):Mo (Ext (Ext A h h') h' h'') (Ext A h h'') ρ ρ:=⟨fun k hk=>(Ext.trans g g' k).1 hk,fun _ _=>rfl⟩
theorem cP.trans{ρ'':Nat->Nat}(p:cP P A ρ w h ρ' w' h')(g:Good h h')(q:cP P (Ext A h h') ρ' w' h' ρ'' w'' h'')(g':Good h' h''):cP P A ρ w h ρ'' w'' h'':=by
 refine⟨fun k hk=>?_,q.rel.mo (Mo.ext g.next g'.next _) (Lt.refl _) (fun _ _=>rfl),p.lt.trans q.lt,fun b hb hn=>?_,fun k hk hl=>?_⟩
 ·rw[q.rho k (hk.imp (fun e=>aS e g.next) id),p.rho k (hk.imp id (fun e=>aH g'.next e))]
 ·rw[q.fr b (aS hb p.lt.size) fun k hl hk e=>?_,p.fr b hb fun k hl hk=>hn k hl (aH g'.low hk)];by_cases hkn:k<h.next
  ·rw[p.rho k (.inl hkn)]at e;exact hn k (g.back hkn hl) hk e
  ·rcases p.new k aa hl with e2|⟨j,h1,h2,h3⟩
   ·omega
   ·exact hn j h1 (aH g'.low h2) (h3.symm.trans e)
 ·by_cases hkn:k<h'.next
  ·have hl':=g'.back hkn hl;rw[q.rho k (.inl hkn)];rcases p.new k hk hl' with e|⟨j,h1,h2,h3⟩
   ·exact .inl e
   ·exact .inr ⟨j,h1,aH g'.low h2,h3⟩
  ·rcases q.new k aa hl with e|⟨j,h1,h2,h3⟩
   ·exact .inl (aH p.lt.size e)
   ·by_cases hj:j<h.next
    ·rw[p.rho j (.inl hj)]at h3;exact .inr ⟨j,g.back hj h1,h2,h3⟩
    ·rcases p.new j aa h1 with e|⟨i,k1,k2,k3⟩
     ·exact .inl (by rw[h3];exact e)
     ·exact .inr ⟨i,k1,aH g'.low k2,h3.trans k3⟩
theorem dF{b:B}(e:h.new b=some h'):h'.next=h.next+1/\h'.low=h.low/\h'.forb=h.forb/\h.next<1000000/\∀j,T.get h'.t j=if j=h.next then some b else T.get h.t j:=by
 unfold H.new at e;split at e
 ·next hb=>
  simp only[an]at e;subst e;have hb':h.next<1000000:=by simpa[bs]using hb
  exact⟨rfl,rfl,rfl,hb',fun j=>T.yE hb'⟩
 ·cases e
theorem yv{b:B}(e:h.new b=some h'):Good h h':=by
 obtain⟨h1,h2,h3,h4,h5⟩:=dF e;exact⟨by omega,by omega,h3,fun k hk _=>by rw[h5,ah aa],fun k hk _=>by rw[h5,ah aa]⟩
def at'(ρ:Nat->Nat)(n r:Nat):Nat->Nat:=fun k=>if k=n then r else ρ k
theorem nS{b:B}{r:Nat}(t:Rel P A ρ w h)(e:h.new b=some h')(hd:Dj A h h')(hbl:Below w.heap.size w w')(h1:w.heap.size<=r)(h2:r<w'.heap.size)
  (hB:∀A' ρ',Mo A A' ρ ρ'->ρ' h.next=r->A' h.next->BR P A' ρ' w' r b):cP P A ρ w h (at' ρ h.next r) w' h':=by
 obtain⟨k1,k2,k3,k4,k5⟩:=dF e;have hmo:Mo A (Ext A h h') ρ (at' ρ h.next r):=⟨fun _ hk=> .inl hk,fun k hk=>by
  have:=hd k hk;unfold at';rw[ah aa]⟩
 have hg:∀k,h'.get k=some b/\k=h.next\/h'.get k=h.get k/\k≠h.next\/h'.get k=none:=fun k=>by
  unfold H.get;rw[k3,k5];by_cases hk:k=h.next
  ·rw[ak hk];cases ep k h.forb<;>simp[hk]
  ·rw[ah hk];exact .inr (.inl ⟨rfl,hk⟩)
 have hlt:∀j c,h.get j=some c->j<h.next/\ρ j<w.heap.size:=fun j c ej=>⟨(t.blk j c ej).1,(t.blk j c ej).2.2.1⟩
 have hat:∀j,j≠h.next->at' ρ h.next r j=ρ j:=fun j hj=>by unfold at';rw[ah hj]
 have hatn:at' ρ h.next r h.next=r:=by unfold at';rw[ak rfl]
 refine⟨fun k hk=>hat k aa,⟨fun k c ek=>?_,fun i j hi hj ee=>?_,by omega⟩,Lt.below hbl,fun b hb _=>hbl.block b hb,fun k hk hl=>?_⟩
 ·rcases hg k with⟨e1,e2⟩|⟨e1,e2⟩|e1
  ·rw[e1]at ek;simp only[an]at ek;subst ek;subst e2;rw[hatn];have hA:Ext A h h' h.next:= .inr ⟨af _,by omega⟩
   exact⟨by omega,hA,h2,hB _ _ hmo hatn hA⟩
  ·rw[e1]at ek;obtain⟨m1,m2,m3,m4⟩:=t.blk k c ek;rw[hat k e2];exact⟨by omega, .inl m2,aS m3 hbl.size,m4.mo hmo (Lt.below hbl) (hbl.block _ m3)⟩
  ·rw[e1]at ek;cases ek
 ·have key : ∀ i, h'.live i -> (i = h.next \/ (i ≠ h.next /\ h.live i /\ ρ i < w.heap.size)) := fun i hi => by
   unfold H.live at hi;rcases hg i with⟨e1,e2⟩|⟨e1,e2⟩|e1
   ·exact .inl e2
   ·rw[e1]at hi;obtain⟨c,ec⟩:=cU.1 hi;exact .inr ⟨e2,hi,(hlt i c ec).2⟩
   ·rw[e1]at hi;cases hi
  rcases key i hi with hi'|⟨hi1,hi2,hi3⟩<;>rcases key j hj with hj'|⟨hj1,hj2,hj3⟩
  ·rw[hi',hj']
  ·rw[hi',hatn,hat j hj1]at ee;omega
  ·rw[hj',hatn,hat i hi1]at ee;omega
  ·rw[hat i hi1,hat j hj1]at ee;exact t.inj i j hi2 hj2 ee
 ·unfold H.live at hl;rcases hg k with⟨e1,e2⟩|⟨e1,e2⟩|e1
  ·subst e2;exact .inl (by rw[hatn];exact h1)
  ·rw[e1]at hl;obtain⟨c,ec⟩:=cU.1 hl;have:=(hlt k c ec).1;omega
  ·rw[e1]at hl;cases hl
theorem uf{k:Nat}{b:Option B}(hk:k<1000000):(h.set k b).next=h.next/\(h.set k b).forb=h.forb/\((h.set k b).low<=h.low/\(h.set k b).low<=k)/\∀j,T.get (h.set k b).t j=if j=k then b else T.get h.t j:=by
 refine⟨rfl,rfl,?_,fun j=>T.yE hk⟩;show(match Nat.blt k h.low with|true=>k|false=>h.low)<=h.low/\(match Nat.blt k h.low with|true=>k|false=>h.low)<=k;split
 ·next e=>
  have:k<h.low:=by simpa[bs]using e
  exact⟨bO this,af _⟩
 ·next e=>
  have:¬k<h.low:=by intro e2;rw[<-bs]at e2;rw[e2]at e;cases e
  exact⟨af _,by omega⟩
theorem lQ{k:Nat}(hl:h.live k):ep k h.forb=false:=by
 unfold H.live H.get at hl
 cases e:ep k h.forb with
 |false=>rfl
 |true=>rw[e]at hl;cases hl
theorem Rel.live(t:Rel P A ρ w h){k:Nat}(hl:h.live k):k<h.next/\A k/\ρ k<w.heap.size:=by
 obtain⟨b,e⟩:=cU.1 hl;exact⟨(t.blk k b e).1,(t.blk k b e).2.1,(t.blk k b e).2.2.1⟩
theorem yq{k:Nat}{b:Option B}(hk:k<1000000)(hl:h.live k):Good h (h.set k b):=by
 obtain⟨k1,k2,k3,k4⟩:=uf (h:=h) (b:=b) hk;refine⟨Nat.le_of_eq k1.symm,k3.1,k2,fun j hj hlo=>?_,fun j hj hd=>?_⟩
 ·rw[k4,ah (by have:=k3.2;omega)]
 ·rw[k4,ah (fun e=>hd (by rw[e];exact hl))]
theorem EL{k:Nat}{b:B}(t:Rel P A ρ w h)(hl:h.live k)(hc:Chg (ρ k) w w')(hnw:NW w (ρ k))(hs:∀s,w.shape? (ρ k)=some s->w'.shape? (ρ k)=some s)
  (hB:BR P A ρ w' (ρ k) b):cP P A ρ w h ρ w' (h.set k (some b)):=by
 obtain⟨m1,m2,m3⟩:=t.live hl;have hk:k<1000000:=aS m1 t.bd;obtain⟨k1,k2,k3,k4⟩:=uf (h:=h) (b:=some b) hk;have hlt:=Lt.chg hc hnw hs;have hmo:Mo A (Ext A h (h.set k (some b))) ρ ρ:=⟨fun _ hk=>.inl hk,fun _ _=>rfl⟩;have hg:∀j,j≠k->(h.set k (some b)).get j=h.get j:=fun j hj=>Aj k2 (by rw[k4,ah hj]);have hgk:(h.set k (some b)).get k=some b:=by
  unfold H.get;rw[k2,lQ hl,k4,ak rfl]
 have hlv:∀j,(h.set k (some b)).live j->h.live j:=fun j hj=>by
  by_cases e:j=k
  ·rw[e];exact hl
  ·unfold H.live at hj⊢;rw[hg j e]at hj;exact hj
 refine⟨fun _ _=>rfl,⟨fun j c ej=>?_,fun i j hi hj=>t.inj i j (hlv i hi) (hlv j hj),t.bd⟩,hlt,fun r hr hn=>hc.block r hr fun e=>hn k hl k3.2 e.symm,fun j hj hlj=>?_⟩
 ·by_cases e:j=k
  ·subst e;rw[hgk]at ej;simp only[an]at ej;subst ej;exact⟨m1,.inl m2,aS m3 hlt.size,hB.mo hmo (Lt.refl _) rfl⟩
  ·rw[hg j e]at ej;obtain⟨n1,n2,n3,n4⟩:=t.blk j c ej;have hne:ρ j≠ρ k:=fun e2=>e (t.inj j k (by unfold H.live;rw[ej];rfl) hl e2);exact⟨n1,.inl n2,aS n3 hlt.size,n4.mo hmo hlt (hc.block _ n3 hne)⟩
 ·have:=(t.live (hlv j hlj)).1;omega
end CI
end
section
open Go.RowKit
namespace CI
variable {P : Program} {A : Nat->Prop} {ρ : Nat->Nat} {w : World} {tm : Tm} {a : Act} {o : Oper} {next : Nat} {c : C} {ob : Option B}
def XO'(P:Program)(A:Nat->Prop)(ρ:Nat->Nat)(w:World)(r:Result Next)(next:Nat)(c:C)(ob:Option B):Prop:=
 ∃u w',r= .ok (.value u) w'/\
  match ob with
  |none=>w'=w/\VR P A ρ w c u
  |some b=>Below w.heap.size w w'/\w.heap.size<w'.heap.size/\∀A' ρ',Mo A A' ρ ρ'->ρ' next=w.heap.size->A' next->BR P A' ρ' w' w.heap.size b/\VR P A' ρ' w' c u
theorem fS{u:Value}{r:Result Next}(h:r= .ok (.value u) w)(hu:VR P A ρ w c u):XO' P A ρ w r next c none:=⟨u,w,h,rfl,hu⟩
theorem J9{u:Value}{r:Result Next}{arr:Array Value}{T:TypeId}{l:List C}(h:r= .ok (.value u) (w.alloc (.cells arr T)))(hl:VCs P A ρ w l arr.toList)
  (hu:∀A' ρ',Mo A A' ρ ρ'->ρ' next=w.heap.size->A' next->VR P A' ρ' (w.alloc (.cells arr T)) c u):XO' P A ρ w r next c (some (.cells T l)):=by
 have hb:Below w.heap.size w (w.alloc (.cells arr T)):=(Below.refl _ _).alloc (af _) _;refine⟨u,_,h,hb,by simp,fun A' ρ' m h1 h2=>⟨⟨arr,arr.toList,[],heap_alloc_new w _,by simp,VCs.mo m (Lt.below hb) _ _ hl,fun n e=>?_⟩,hu A' ρ' m h1 h2⟩⟩;rw[cell_of_row _ w.heap.size _ _ _ (0,0) (heap_alloc_new w _)]at e;exact VCs.nw hl n oB
theorem gI{t s:Nat}(h:dh P t=some s):∃i,P.info? t=some i/\i.size=s:=by
 unfold dh at h;exact eW.1 h
theorem scs{l:List Value}(h:l.all (fun v=>v.oneCell'&&(C.sc v).okP)=true):VCs P A ρ w (l.map .sc) l:=by
 induction l with
 |nil=>simp only[jb,VCs]
 |cons v l ih=>
  simp only[sP,dV]at h;simp only[eL,VCs];exact⟨h.1.2,v,l,by rw[wu h.1.1];rfl,by simp only[VR];exact⟨trivial,h.1.1⟩,ih (by simpa using h.2)⟩
theorem nI{t:TypeId}{z:List C}(h:zOf P t=some z):∃i v,P.info? t=some i/\i.zero=some v/\v.cells.size=i.size/\∀(A:Nat->Prop) (ρ:Nat->Nat) (w:World),VCs P A ρ w z v.cells.toList:=by
 unfold zOf at h;obtain⟨i,hi,h⟩:=kB.1 h;obtain⟨v,hv,h⟩:=kB.1 h;split at h
 ·next hc=>
  simp only[an]at h;subst h;simp only[dV]at hc;exact⟨i,v,hi,hv,by simpa using hc.2,fun _ _ _=>scs hc.1⟩
 ·cases h
theorem Cj(v:Value):VR P A ρ w (ofV v) v:=by
 cases v with
 |agg cs=>
  simp only[ofV];split
  ·next h=>simp only[VR];exact⟨cs,rfl,scs h⟩
  ·simp only[VR]
 |func f first cs=>
  cases f with
  |func g=>
   simp only[ofV];split
   ·next h1 h2=>
    simp only[VR,VRl];have e1:first= #[]:=zi h1
    have e2:cs= #[]:=zi h2;subst e1;subst e2;exact⟨_,rfl,rfl⟩
   ·simp only[VR]
  |_=>simp only[ofV,VR]
 |tuple vs=>simp only[ofV,VR]
 |_=>simp only[ofV,VR,Value.oneCell',and_self]
def OpV(P:Program)(A:Nat->Prop)(ρ:Nat->Nat)(w:World)(tm:Tm)(a:Act)(x:Operand):Prop:=VR P A ρ w ((aU x).ev tm) (a.eval x)
theorem TR.op(h:TR P A ρ w tm a.tmps)(x:Operand):OpV P A ρ w tm a x:=by
 cases x with
 |tmp t=>
  have:=h t;unfold OpV;simpa[aU,Act.eval]using this
 |const v=>exact Cj v
 |global g=>simp only[OpV,aU,CO.ev,VR]
 |func g=>
  show VR P A ρ w (.fn g []) (.func (.func g) #[] #[]);simp only[VR,VRl];exact⟨_,rfl,rfl⟩
theorem iP{c:C}{n:Nat}{u:Value}(h:je c=some n)(hu:VR P A ρ w c u):∃k,u= .int k (n:Int):=by
 unfold je at h;split at h
 ·next k m=>
  simp only[an]at h;subst h;simp only[VR]at hu;exact⟨k,hu.1⟩
 ·cases h
theorem F0(vs:List Value)(off:Nat)(cs:Array Value)(h:off+vs.length<=cs.size):(vs.zipIdx.foldl (fun cs (x:Value×Nat)=>cs.setIfInBounds (off+x.2) x.1) cs).toList=cs.toList.take off++vs++cs.toList.drop (off+vs.length):=by
 obtain⟨h1,h2⟩:=Go.Great.foldl_set off vs 0 cs;refine oN fun k=>?_;rw[dG,h2 k];simp only[cg];by_cases hk:k<off
 ·rw[ah aa,gW,eD cX,ik hk,dG]
 ·by_cases hk2:k<off+vs.length
  ·rw[ak aa,eD cX,fF cX];simp only[aP,cf];rw[dp aa]
  ·rw[ah aa,fF cX,fE];simp only[cI,aP,cf];rw[dp aa,show off+vs.length+(k-(off+vs.length))=k by omega,dG]
theorem pN{t:TypeId}(pf:Nat->Option (Nat×Nat))(hpf:∀i x,place P t i=some x->pf i=some x):∀(pl:List (Nat×Operand)) (ps:List (Nat×Nat×CO)) (l l':List C) (cells:Array Value),placesOf P t pl=some ps->rR l (parts tm ps)=some l'->VCs P A ρ w l cells.toList->
  (∀p∈pl,OpV P A ρ w tm a p.2)->∃cells',Instr.fill pf cells (pl.map fun p=>(p.1,a.eval p.2))=some cells'/\VCs P A ρ w l' cells'.toList
 |[],ps,l,l',cells,h1,h2,h3,_=>by
  simp only[placesOf,an]at h1;subst h1;simp only[parts,rR,an]at h2;subst h2;exact⟨cells,rfl,h3⟩
 |(i,x)::pl,ps,l,l',cells,h1,h2,h3,h4=>by
  simp only[placesOf]at h1;obtain⟨⟨off,s⟩,e1,h1⟩:=kB.1 h1;obtain⟨ps',e2,rfl⟩:=eW.1 h1;simp only[parts,rR]at h2;obtain⟨p,e3,h2⟩:=kB.1 h2;split at h2
  ·next hw=>
   have hw':Et p=s:=by simpa using hw
   obtain⟨l1,e4,h2⟩:=kB.1 h2;have hv:=h4 _ bF;have hp:=VR.flat hv e3;have hlen:=hp.len;simp only at hlen hv hp;obtain⟨k1,k2⟩:=h3.set hp e4;have hsz:(a.eval x).cells.size=s:=by rw[<-hw',<-hlen,cf]
   have hfo:=F0 (a.eval x).cells.toList off cells (by rw[cf,hsz];simpa using k2);obtain⟨cells',e5,k3⟩:=pN pf hpf pl ps' l1 l' ((a.eval x).cells.toList.zipIdx.foldl (fun cs (x:Value×Nat)=>cs.setIfInBounds (off+x.2) x.1) cells) e2 h2 (by
    rw[hfo,cf,hsz];exact k1) (fun q hq=>h4 q (bJ _ hq))
   refine⟨cells',?_,k3⟩;simp only[eL];unfold Instr.fill;simp only[hpf _ _ e1];rw[ah (by simp[hsz];simpa using k2),<-e5];congr 1;rw[<-El,Array.toList_zipIdx]
  ·cases h2
theorem Ph{fs:List Field}(h:fs.all (fun f:Field=>(P.info? f.type).isSome)=true):∃pl,fs.mapM (fun f:Field=>(P.info? f.type).map fun i=>(f.offset,i.size))=some pl/\∀(i:Nat) (f:Field) (s:Nat),fs[i]?=some f->dh P f.type=some s->pl[i]?=some (f.offset,s):=by
 induction fs with
 |nil=>exact⟨[],rfl,fun i f s h=>by simp at h⟩
 |cons f fs ih=>
  simp only[sP,dV]at h;obtain⟨pl,e1,e2⟩:=ih h.2;obtain⟨inf,e3⟩:=cU.1 h.1;refine⟨(f.offset,inf.size)::pl,by simp[List.mapM_cons,e3,e1],fun i f' s hf hs=>?_⟩
  cases i with
  |zero=>
   simp only[List.getElem?_cons_zero,an]at hf;subst hf;simp only[dh,e3,cw,an]at hs;subst hs;rfl
  |succ i=>exact e2 i f' s (by simpa using hf) hs
theorem Pk(z:Array Value)(n:Nat):(madeCells z ((n+1)*z.size)).toList=z.toList++(madeCells z (n*z.size)).toList:=by
 refine oN fun k=>?_;by_cases hz:z.size=0
 ·have:z= #[]:=zi hz;subst this;simp[madeCells]
 by_cases hk:k<z.size
 ·rw[eD (by simpa using hk),dG,dG];unfold madeCells;have:k<(n+1)*z.size:=by rw[cq,cR];omega
  simp[this,oE hk,hk]
 ·rw[fF cX,dG,dG,cf];unfold madeCells;by_cases hk2:k<(n+1)*z.size
  ·have hk3:k-z.size<n*z.size:=by rw[cq,cR]at hk2;omega
   have hm:(k-z.size)%z.size=k%z.size:=by
    conv=>rhs;rw[show k=k-z.size+z.size by omega]
    rw[Nat.add_mod_right]
   simp[hk2,hk3,hm]
  ·have hk3:¬k-z.size<n*z.size:=by rw[cq,cR]at hk2;omega
   simp[hk2,hk3]
theorem pK{z:List C}{zc:Array Value}(h:VCs P A ρ w z zc.toList):∀n,VCs P A ρ w (mX z n) (madeCells zc (n*zc.size)).toList
 |0=>by simp[mX,VCs,madeCells]
 |n+1=>by rw[Pk];exact VCs.app (pK h n) h
def HV(P:Program)(A:Nat->Prop)(ρ:Nat->Nat)(w:World)(tm:Tm)(a:Act)(o:Oper):Prop:=∀y∈o.op.operands,OpV P A ρ w tm a y
theorem Lx(hv:HV P A ρ w tm a o){x:Operand}(ho:o.op= .move x\/o.op= .assign x):XO' P A ρ w ((execOp a.eval o).run P w) next ((aU x).ev tm) none:=by
 refine fS (u:=a.eval x) ?_ (hv x (by rcases ho with ho|ho<;>rw[ho]<;>simp[Op.operands]));rcases ho with ho|ho<;>(unfold execOp;rw[ho];rfl)
theorem Lw(hv:HV P A ρ w tm a o){x y z:Operand}{t:Bool}(ho:o.op= .pick x y z)(hc:(aU x).ev tm= .sc (.bool t)):XO' P A ρ w ((execOp a.eval o).run P w) next ((aU (if t then y else z)).ev tm) none:=by
 have h1:=hv x bV;unfold OpV at h1;rw[hc]at h1;simp only[VR]at h1;refine fS (u:=a.eval (if t then y else z)) ?_ (hv _ (by rw[ho];cases t<;>simp[Op.operands]));unfold execOp;rw[ho];cases t<;>simp[h1.1,asBool]
theorem Sm{t:TypeId}{z:List C}(ho:o.op= .alloc t)(hz:zOf P t=some z):XO' P A ρ w ((execOp a.eval o).run P w) next (.pt next 0) (some (.cells t z)):=by
 obtain⟨i,v,h1,h2,_,h3⟩:=nI hz;refine J9 (u:=.pointer (some ⟨w.heap.size,0,none⟩)) (arr:=v.cells) ?_ (h3 _ _ _) (fun A' ρ' m e1 e2=>by simp only[VR];exact⟨e2,by rw[e1]⟩);unfold execOp;rw[ho];simp[Instr.alloc,zeroValue,typeInfo,h1,h2,newVar,newRow]
theorem x_box(hv:HV P A ρ w tm a o){t:TypeId}{x:Operand}{p:List C}(ho:o.op= .box t x)(hp:((aU x).ev tm).flat=some p):XO' P A ρ w ((execOp a.eval o).run P w) next (.pt next 0) (some (.cells t p)):=by
 have h1:=hv x bV;refine J9 (u:=.pointer (some ⟨w.heap.size,0,none⟩)) (arr:=(a.eval x).cells) ?_ (VR.flat h1 hp) (fun A' ρ' m e1 e2=>by simp only[VR];exact⟨e2,by rw[e1]⟩);unfold execOp;rw[ho];simp[Instr.box,newVar,newRow]
theorem Cm(hv:HV P A ρ w tm a o){ps:Array (Nat×Operand)}{t:TypeId}{n:Nat}(ho:o.op= .build t ps\/o.op= .buildSlice t n ps):∀p∈ps.toList,OpV P A ρ w tm a p.2:=fun p hp=>by
 refine hv p.2 ?_;rcases ho with ho|ho<;>rw[ho]<;>simp only[Op.operands]<;>simp only[List.mem_toArray,dw]<;>exact⟨p,hp,rfl⟩
theorem Sl(hv:HV P A ρ w tm a o){t:TypeId}{ps:Array (Nat×Operand)}{z:List C}{pl:List (Nat×Nat×CO)}{l:List C}(ho:o.op= .build t ps)(hz:zOf P t=some z)(hp:placesOf P t ps.toList=some pl)
  (hu:(∃fs,P.underlying t=some (.struct fs)/\fs.toList.all (fun f=>(P.info? f.type).isSome)=true)\/∃n e s,P.underlying t=some (.array n e)/\dh P e=some s) (hf:rR z (parts tm pl)=some l):XO' P A ρ w ((execOp a.eval o).run P w) next (.ag l) none:=by
 obtain⟨i,v,h1,h2,_,h3⟩:=nI hz;have hm:=Cm hv (n:=0) (.inl ho);have key:∃cells,P.built t ((ps.map fun (i,x)=>(i,a.eval x)).toList)=some cells/\VCs P A ρ w l cells.toList:=by
  unfold Program.built;rcases hu with⟨fs,hu,hall⟩|⟨n,e,es,hu,hes⟩
  ·obtain⟨places,e1,e2⟩:=Ph hall;simp only[h1,hu,h2,e1];obtain⟨cells,k1,k2⟩:=pN (places.toArray[·]?) (fun i x hx=>by
    unfold place at hx;rw[hu]at hx;obtain⟨f,hf,hx⟩:=kB.1 hx;obtain⟨s,hs,rfl⟩:=eW.1 hx;simpa using e2 i f s (by simpa using hf) hs) ps.toList pl z l v.cells hp hf (h3 _ _ _) hm
   exact⟨cells,by rw[<-k1];congr 1;simp,k2⟩
  ·obtain⟨ie,hie,his⟩:=gI hes;simp only[h1,hu,h2,hie];obtain⟨cells,k1,k2⟩:=pN (t:=t) (fun i=>some (i*ie.size,ie.size)) (fun i x hx=>by
    unfold place at hx;rw[hu]at hx;simpa[dh,hie]using hx) ps.toList pl z l v.cells hp hf (h3 _ _ _) hm
   exact⟨cells,by rw[<-k1];congr 1;simp,k2⟩
 obtain⟨cells,k1,k2⟩:=key;refine fS (u:=.agg cells) ?_ (by simp only[VR];exact⟨cells,rfl,k2⟩);unfold execOp;rw[ho];simp[run_build (P:=P) w t _ cells k1]
theorem x_bsl(hv:HV P A ρ w tm a o){t e:TypeId}{n s:Nat}{ps:Array (Nat×Operand)}{z:List C}{pl:List (Nat×Nat×CO)}{l:List C}(ho:o.op= .buildSlice t n ps)(hu:P.underlying t=some (.slice e))(hs:dh P e=some s)(hz:zOf P e=some z)(hp:placesOf P t ps.toList=some pl)
  (hb:n*s<=16777216) (h0:0<s) (hn0:0<n\/ps.toList=[]) (hf:rR (mX z n) (parts tm pl)=some l):XO' P A ρ w ((execOp a.eval o).run P w) next (.sl next 0 n n true) (some (.cells e l)):=by
 obtain⟨i,v,h1,h2,hsz,h3⟩:=nI hz;have hi:i.size=s:=by simpa[dh,h1]using hs
 have hm:=Cm hv (.inr ho);obtain⟨cells,k1,k2⟩:=pN (t:=t) (fun i=>some (i*s,s)) (fun i x hx=>by
  unfold place at hx;rw[hu]at hx;simp only[hs,cw,an]at hx;rw[hx]) ps.toList pl (mX z n) l (madeCells v.cells (n*v.cells.size)) hp hf (pK (h3 _ _ _) n) hm
 have hsl:∀A' ρ',Mo A A' ρ ρ'->ρ' next=w.heap.size->A' next->VR P A' ρ' (w.alloc (.cells cells e)) (.sl next 0 n n true) (.slice (some ⟨w.heap.size,0,none⟩) n n):=fun A' ρ' m e1 e2=>by
  simp only[VR,Bool.true_eq_false,false_imp_iff,and_true,true_imp_iff];exact⟨e2,n,by rw[e1],af _,af _,rfl⟩
 refine J9 (u:= .slice (some ⟨w.heap.size,0,none⟩) n n) (arr:=cells) ?_ k2 hsl;unfold execOp;rw[ho];by_cases hn:n=0
 ·subst hn;have hps:ps= #[]:=cQ.1 (hn0.resolve_left aa);subst hps;have hc:cells= #[]:=by
   simp[Instr.fill,madeCells,Array.range_zero']at k1;exact k1
  subst hc;simp[Instr.buildSlice,run_underlying hu,sizeOf,typeInfo,h1,newRow,Instr.fill,Array.range_zero']
 ·have hr := run_buildSlice (P := P) w t e n (ps.map fun (i, x) => (i, a.eval x)) cells i v hu h1 h2 (by rw [hi]; omega) (by rw [hi]; exact fun e => by rcases Nat.mul_eq_zero.1 e with e | e <;> omega) (by
   rw[hi,<-k1,hsz,hi];unfold madeCells;rw[hsz,hi];congr 1;simp)
  simp[hr]
end CI
end
section
open Go.RowKit
namespace CI
variable {P : Program} {A : Nat->Prop} {ρ : Nat->Nat} {w : World} {tm : Tm} {a : Act} {o : Oper} {next : Nat} {c : C} {ob : Option B}
theorem Vg{k k':IntKind}(h:ikB k k'=true):k=k':=by cases k<;>cases k'<;>simp_all [ikB]
theorem not_neg{q:Int}(h:isNeg q=false):¬q<0:=by
 cases q with
 |ofNat n=>simp
 |negSucc n=>simp[isNeg]at h
theorem VR.int{k:IntKind}{p:Int}{u:Value}(h:VR P A ρ w (.sc (.int k p)) u):u= .int k p:=by simp only[VR]at h;exact h.1
theorem VR.bool{b:Bool}{u:Value}(h:VR P A ρ w (.sc (.bool b)) u):u= .bool b:=by simp only[VR]at h;exact h.1
theorem jC{u:Value}(h:u.oneCell'=true):VR P A ρ w (.sc u) u:=by simp only[VR];exact⟨trivial,h⟩
theorem x_bin(hv:HV P A ρ w tm a o){op:BinOp}{t t':TypeId}{x y:Operand}(ho:o.op= .binOp op t x y t')(hb:bin op ((aU x).ev tm) ((aU y).ev tm)=some c):XO' P A ρ w ((execOp a.eval o).run P w) next c none:=by
 have h1:=hv x bV;have h2:=hv y bV;unfold OpV at h1 h2;unfold bin at hb;split at hb
 ·next k p k' q e1 e2=>
  rw[e1]at h1;rw[e2]at h2;have h3:=h1.int;have h4:=h2.int;split at hb
  ·split at hb
   ·cases hb
   ·next hn=>
    simp only[an]at hb;subst hb;refine fS ?_ (jC rfl);unfold execOp;rw[ho];simp[h3,h4,eqGuard,binOp,Op.shift,not_neg hn]
  ·split at hb
   ·cases hb
   ·next hn=>
    simp only[an]at hb;subst hb;refine fS ?_ (jC rfl);unfold execOp;rw[ho];simp[h3,h4,eqGuard,binOp,Op.shift,not_neg hn]
  ·next hs1 hs2=>
   split at hb
   ·next hk=>
    have hk':=Vg hk;subst hk';obtain⟨u,e3,rfl⟩:=eW.1 hb;have hu:u.oneCell'=true/\((do eqGuard op t x y (.int k p) (.int k q);binOp op t (.int k p) (.int k q):Sem Value)).run P w= .ok u w:=by
     unfold binZ at e3;split at e3<;>try(simp only[an]at e3;subst e3;refine⟨rfl,?_⟩;simp[eqGuard,binOp,Op.intArith,Op.intCmp];done)
     ·split at e3
      ·cases e3
      ·next hq=>
       simp only[an]at e3;subst e3;exact⟨rfl,by simp[eqGuard,binOp,Op.intDiv,show q≠0 from fun e=>hq e]⟩
     ·split at e3
      ·cases e3
      ·next hq=>
       simp only[an]at e3;subst e3;exact⟨rfl,by simp[eqGuard,binOp,Op.intDiv,show q≠0 from fun e=>hq e]⟩
     ·cases e3
    refine fS ?_ (jC hu.1);unfold execOp;rw[ho];simp only[h3,h4];rw[Sem.run_bind,hu.2];rfl
   ·cases hb
 ·cases hb
theorem Rs(hv:HV P A ρ w tm a o){op:BinOp}{t t':TypeId}{x y:Operand}{ng:Bool}(ho:o.op= .binOp op t x y t')(hu:P.underlying t=some .bool)(hop:op=if ng then .neq else .eql)(hb:beqC ng ((aU x).ev tm) ((aU y).ev tm)=some c):XO' P A ρ w ((execOp a.eval o).run P w) next c none:=by
 have h1:=hv x bV;have h2:=hv y bV;unfold OpV at h1 h2;unfold beqC at hb;split at hb
 ·next p q e1 e2=>
  rw[e1]at h1;rw[e2]at h2;have h3:=h1.bool;have h4:=h2.bool;simp only[an]at hb;subst hb;refine fS ?_ (jC rfl);unfold execOp;rw[ho];subst hop;cases ng
  ·have:=run_eql_bool (P:=P) w t p q hu;simp[h3,h4,eqGuard,this]
  ·have:=run_neq_bool (P:=P) w t p q hu;simp[h3,h4,eqGuard,this]
 ·cases hb
theorem rE{c:C}{b:Bool}{u:Value}(h:Kw c=some b)(hu:VR P A ρ w c u):∃ad n cp,u= .slice ad n cp/\ad.isNone=b:=by
 unfold Kw at h;split at h
 ·simp only[an]at h;subst h;simp only[VR]at hu;exact⟨none,_,_,hu.1,rfl⟩
 ·simp only[an]at h;subst h;simp only[VR]at hu;obtain⟨_,cap,rfl,_⟩:=hu;exact⟨_,_,_,rfl,rfl⟩
 ·cases h
theorem dA(b o j:Nat):(⟨b,o,none⟩:Addr).add j=⟨b,o+j,none⟩:=Addr.add_mid b o j
theorem ES(d:Nat)(w:World){t e:TypeId}(ad ad':Option Addr)(n c n' c':Nat)(h:P.underlying t=some (.slice e))(hn:ad.isNone=true\/ad'.isNone=true):(Op.equalIn (d+1) t (.slice ad n c) (.slice ad' n' c')).run P w= .ok (ad.isNone&&ad'.isNone) w:=by
 cases ad<;>cases ad'<;>simp[Op.equalIn,run_underlying h]at hn⊢
theorem zM(w:World){t e:TypeId}(ad ad':Option Addr)(n c n' c':Nat)(h:P.underlying t=some (.slice e))(hn:ad.isNone=true\/ad'.isNone=true):(Op.equal t (.slice ad n c) (.slice ad' n' c')).run P w= .ok (ad.isNone&&ad'.isNone) w:=
 ES (P:=P) 9999 w ad ad' n c n' c' h hn
theorem Lu(hv:HV P A ρ w tm a o){op:BinOp}{t t' e:TypeId}{x y:Operand}{ng:Bool}(ho:o.op= .binOp op t x y t')(hu:P.underlying t=some (.slice e))(hop:op=if ng then .neq else .eql)(hb:Km ng ((aU x).ev tm) ((aU y).ev tm)=some c):XO' P A ρ w ((execOp a.eval o).run P w) next c none:=by
 have h1:=hv x bV;have h2:=hv y bV;unfold OpV at h1 h2;unfold Km at hb;split at hb
 ·next b e1 e2=>
  obtain⟨ad,n,cp,e3,e4⟩:=rE e1 h1;obtain⟨ad',n',cp',e5,e6⟩:=rE e2 h2;simp only[an]at hb;subst hb;refine fS ?_ (jC rfl);have hr:=zM (P:=P) w ad ad' n cp n' cp' hu (.inl e4);rw[e4,e6]at hr;unfold execOp;rw[ho];subst hop;cases ng<;>simp[e3,e5,eqGuard,binOp,hr]
 ·next e1 e2=>
  obtain⟨ad,n,cp,e3,e4⟩:=rE e1 h1;obtain⟨ad',n',cp',e5,e6⟩:=rE e2 h2;simp only[an]at hb;subst hb;refine fS ?_ (jC rfl);have hr:=zM (P:=P) w ad ad' n cp n' cp' hu (.inr e6);rw[e4,e6]at hr;unfold execOp;rw[ho];subst hop;cases ng<;>simp[e3,e5,eqGuard,binOp,hr]
 ·cases hb
theorem x_un(hv:HV P A ρ w tm a o){op:UnOp}{t:TypeId}{x:Operand}(ho:o.op= .unOp op t x)(hb:un op ((aU x).ev tm)=some c):XO' P A ρ w ((execOp a.eval o).run P w) next c none:=by
 have h1:=hv x bV;unfold OpV at h1;unfold un at hb;split at hb
 ·next b e1=>
  rw[e1]at h1;simp only[an]at hb;subst hb;refine fS ?_ (jC rfl);unfold execOp;rw[ho];simp[h1.bool,Op.unary]
 ·next k p e1=>
  rw[e1]at h1;simp only[an]at hb;subst hb;refine fS ?_ (jC rfl);unfold execOp;rw[ho];simp[h1.int,Op.unary,Op.intArith]
 ·cases hb
theorem UG(hv:HV P A ρ w tm a o){t1 t2:TypeId}{x:Operand}{k k1 k2:IntKind}{n:Int}(ho:o.op= .convert t1 t2 x)(h1:P.underlying t1=some (.int k1))(h2:P.underlying t2=some (.int k))(hx:(aU x).ev tm= .sc (.int k2 n)):XO' P A ρ w ((execOp a.eval o).run P w) next (.sc (.int k (k.wrap n))) none:=by
 have h3:=hv x bV;unfold OpV at h3;rw[hx]at h3;refine fS ?_ (jC rfl);unfold execOp;rw[ho];simp[convert,run_underlying h1,run_underlying h2,h3.int,Conv.intToInt]
theorem Bb(tm:Tm)(a:Act):∀l:List Operand,(∀x∈l,OpV P A ρ w tm a x)->VRl P A ρ w ((rT l).map (·.ev tm)) (l.map a.eval)
 |[],_=>by simp[rT,VRl]
 |x::l,h=>by
  simp only[rT,eL,VRl];exact⟨a.eval x,l.map a.eval,rfl,h x bF,by simpa[rT]using Bb tm a l fun y hy=>h y (bJ _ hy)⟩
theorem x_mkf(hv:HV P A ρ w tm a o){f:FuncId}{first cs:Array Operand}(ho:o.op= .makeFunc (.func f) first cs)(hs:first.size=0):XO' P A ρ w ((execOp a.eval o).run P w) next (.fn f ((rT cs.toList).map (·.ev tm))) none:=by
 have e1:first= #[]:=zi hs
 subst e1;refine fS (u:=.func (.func f) #[] (cs.map a.eval)) ?_ ?_
 ·unfold execOp;rw[ho];simp[Instr.makeFunc]
 ·simp only[VR];exact⟨_,rfl,by rw[Array.toList_map];exact Bb tm a _ fun x hx=>hv x (by rw[ho];simp[Op.operands];simpa using hx)⟩
theorem x_mks(hv:HV P A ρ w tm a o){t e:TypeId}{x y:Operand}{i:TypeInfo}{z:List C}{l m:Nat}(ho:o.op= .makeSlice t x y)(hu:P.underlying t=some (.slice e))(hi:P.info? e=some i)(hz:zOf P e=some z)(hby:i.bytes<=100000)
  (hl:je ((aU x).ev tm)=some l) (hm:je ((aU y).ev tm)=some m) (h1:l<=m) (h2:m<=1000000):XO' P A ρ w ((execOp a.eval o).run P w) next (.sl next 0 l m true) (some (.cells e (mX z m))):=by
 obtain⟨i',v,k1,k2,k3,k4⟩:=nI hz;rw[hi]at k1;simp only[an]at k1;subst k1;obtain⟨kl,e1⟩:=iP hl (hv x bV);obtain⟨kc,e2⟩:=iP hm (hv y bV);have hbm:(i.bytes:Int)*m<=100000*1000000:=vt aa aa aa aa;have hr:=run_make (P:=P) w t e i v hu hi k2 kl kc l m aa aa aa aa;simp only[mT]at hr;refine J9 (u:=.slice (some ⟨w.heap.size,0,none⟩) l m) (arr:=madeCells v.cells (m*i.size)) ?_ (by rw[<-k3];exact pK (k4 _ _ _) m) (fun A' ρ' _ e3 e4=>?_)
 ·unfold execOp;rw[ho];simp[e1,e2,hr]
 ·simp only[VR,Bool.true_eq_false,false_imp_iff,and_true,true_imp_iff];exact⟨e4,m,by rw[e3],h1,af _,rfl⟩
theorem mq{x:Option Operand}{d n:Nat}(h:lx tm d (x.map aU)=some n)(hv:∀y,x=some y->OpV P A ρ w tm a y):(x=none/\n=d)\/∃y k,x=some y/\a.eval y= .int k (n:Int):=by
 cases x with
 |none=>simp[lx]at h;exact .inl ⟨rfl,h.symm⟩
 |some y=>
  simp only[cw,lx]at h;obtain⟨k,e⟩:=iP h (hv y rfl);exact .inr ⟨y,k,rfl,e⟩
theorem Ax(w:World)(n cap l h m:Nat)(lo hi mx:Option Value)(hlo:(lo=none/\l=0)\/∃k,lo=some (.int k (l:Int)))(hhi:(hi=none/\mx=none/\h=n)\/∃k,hi=some (.int k (h:Int)))(hmx:(mx=none/\m=cap)\/∃k,mx=some (.int k (m:Int)))
  (h1:m<=cap) (h2:h<=m) (h3:l<=h):(Instr.sliceBounds true n cap lo hi mx).run P w= .ok (l,h,m) w:=by
 have e1:(m:Int)<=(cap:Int):=by omega
 have e2:(h:Int)<=(m:Int):=by omega
 have e3:(l:Int)<=(h:Int):=by omega
 rcases hmx with⟨rfl,rfl⟩|⟨km,rfl⟩<;>rcases hhi with⟨rfl,hm,rfl⟩|⟨kh,rfl⟩<;>rcases hlo with⟨rfl,rfl⟩|⟨kl,rfl⟩<;>first|(cases hm;done)|simp[Instr.sliceBounds,Instr.sliceBound,asIntOf,h1,h2,h3]
theorem x_slc(hv:HV P A ρ w tm a o){t e:TypeId}{x:Operand}{lo hi mx:Option Operand}{s k off n cp:Nat}{ex ex':Bool}{l h m:Nat}{iw:Nat}(ho:o.op= .slice t x lo hi mx)(he:(mx=none/\ex'=ex)\/(mx.isSome=true/\ex'=true))(hu:P.underlying t=some (.slice e))(hs:dh P e=some s)(hhm:hi=none->mx=none)
  (hx:(aU x).ev tm= .sl k off n cp ex) (hl:lx tm 0 (lo.map aU)=some l) (hh:lx tm n (hi.map aU)=some h) (hm:lx tm cp (mx.map aU)=some m) (h1:m<=cp) (h2:h<=m) (h3:l<=h)
  (hoff:Ko s off l m ex'=some iw):XO' P A ρ w ((execOp a.eval o).run P w) next (.sl k iw (h-l) (m-l) ex') none:=by
 have hX:=hv x bV;unfold OpV at hX;rw[hx]at hX;simp only[VR]at hX;obtain⟨hA,cap,e0,hn,hc,hex,hne⟩:=hX;have ml:∀y,lo=some y->OpV P A ρ w tm a y:=fun y hy=>hv y AY;have mh:∀y,hi=some y->OpV P A ρ w tm a y:=fun y hy=>hv y AY;have mm:∀y,mx=some y->OpV P A ρ w tm a y:=fun y hy=>hv y AY;obtain⟨i,hi1,hi2⟩:=gI hs;obtain⟨m',hm1,hm2,hm3⟩:∃m',((mx.map a.eval=none/\m'=cap)\/∃k,mx.map a.eval=some (.int k (m':Int)))/\(m<=m'/\m'<=cap)/\((mx=none/\m'=cap)\/(mx.isSome=true/\m'=m)):=by
  rcases mq hm mm with⟨r1,r2⟩|⟨y,k,r1,r2⟩
  ·exact⟨cap, .inl ⟨by rw[r1];rfl,rfl⟩,⟨by omega,af _⟩, .inl ⟨r1,rfl⟩⟩
  ·exact⟨m, .inr ⟨k,by rw[r1,cw,r2]⟩,⟨af _,by omega⟩, .inr ⟨by rw[r1];rfl,rfl⟩⟩
 have hb:=Ax (P:=P) w n cap l h m' (lo.map a.eval) (hi.map a.eval) (mx.map a.eval) (by
  rcases mq hl ml with⟨r1,r2⟩|⟨y,k,r1,r2⟩
  ·exact .inl ⟨by rw[r1];rfl,r2⟩
  ·exact .inr ⟨k,by rw[r1,cw,r2]⟩) (by
  rcases mq hh mh with⟨r1,r2⟩|⟨y,k,r1,r2⟩
  ·exact .inl ⟨by rw[r1];rfl,by rw[hhm r1];rfl,r2⟩
  ·exact .inr ⟨k,by rw[r1,cw,r2]⟩) hm1 hm2.2 aa h3
 have hrun:(execOp a.eval o).run P w= .ok (.value (.slice (if m'=l then some ⟨ρ k,off,none⟩else some ((⟨ρ k,off,none⟩:Addr).add (l*s))) (h-l) (m'-l))) w:=by
  unfold execOp;rw[ho];simp only[Instr.sliceAt,Instr.slice,e0,Sem.run_bind,run_underlying hu,Result.andThen_ok,hb];simp[sizeOf,typeInfo,hi1,hi2]
 have hmo:m'=m\/(mx=none/\ex=false):=by
  rcases hm3 with⟨r1,r2⟩|⟨_,r2⟩
  ·cases hx':ex with
   |true=>have:=hex hx';exact .inl (by subst r1;simp[lx]at hm;omega)
   |false=>exact .inr ⟨r1,rfl⟩
  ·exact .inl r2
 have haddr:(if m'=l then some (⟨ρ k,off,none⟩:Addr)else some ((⟨ρ k,off,none⟩:Addr).add (l*s)))=some ⟨ρ k,iw,none⟩/\(iw=0->l=0/\off=0\/m=l/\m'=m/\ex'=true):=by
  unfold Ko at hoff;split at hoff
  ·simp only[an]at hoff;subst hoff;refine⟨?_,fun e=> .inl ⟨rfl,e⟩⟩;rw[kY,dA,cg];split<;>rfl
  ·next hl0=>
   split at hoff
   ·next hml=>
    have hml':m=l:=by simpa using hml
    cases hE:ex' with
    |true=>
     rw[hE]at hoff;simp only[an]at hoff;subst hoff;have hmm:m'=m:=hmo.resolve_right fun r=>by
      rcases he with⟨_,e1⟩|⟨e1,_⟩
      ·rw[e1,r.2]at hE;cases hE
      ·rw[r.1]at e1;cases e1
     exact⟨by rw[ak aa],fun _=> .inr ⟨hml',hmm,rfl⟩⟩
    |false=>rw[hE]at hoff;cases hoff
   ·next hml=>
    have hml':m≠l:=zo hml;split at hoff
    ·cases hoff
    ·next hs0=>
     simp only[an]at hoff;subst hoff;refine⟨by rw[ah aa,dA],fun e=>?_⟩;have:0<l*s:=qk (qm hl0) (qm hs0);omega
 rw[haddr.1]at hrun;refine fS hrun ?_;simp only[VR];refine⟨hA,m'-l,rfl,by omega,by omega,fun e=>?_,fun e eo=>?_⟩
 ·rcases hmo with r|⟨r1,r2⟩
  ·rw[r]
  ·rcases he with⟨_,e1⟩|⟨e1,_⟩
   ·rw[e1,r2]at e;cases e
   ·rw[r1]at e1;cases e1
 ·rcases haddr.2 eo with⟨r1,r2⟩|⟨_,_,r3⟩
  ·have hmx : mx = none /\ ex = false := by
    rcases he with⟨e1,e2⟩|⟨_,e2⟩
    ·exact⟨e1,by rw[<-e2];exact e⟩
    ·rw[e2]at e;cases e
   obtain⟨r3,T,s',r4,r5⟩:=hne hmx.2 r2;have:m'=cap:=by
    rcases hm3 with⟨_,r⟩|⟨r,_⟩
    ·exact r
    ·rw[hmx.1]at r;cases r
   rw[this,r1,kC];exact⟨r3,T,s',r4,r5⟩
  ·rw[r3]at e;cases e
theorem N4(hv:HV P A ρ w tm a o){t e:TypeId}{x:Operand}{lo hi mx:Option Operand}{s:Nat}(ho:o.op= .slice t x lo hi mx)(hu:P.underlying t=some (.slice e))(hs:dh P e=some s)(hhm:hi=none->mx=none)
  (hx:(aU x).ev tm= .sc (.slice none 0 0)) (hl:lx tm 0 (lo.map aU)=some 0) (hh:lx tm 0 (hi.map aU)=some 0) (hm:lx tm 0 (mx.map aU)=some 0):XO' P A ρ w ((execOp a.eval o).run P w) next (.sc (.slice none 0 0)) none:=by
 have hX:=hv x bV;unfold OpV at hX;rw[hx]at hX;simp only[VR]at hX;have ml:∀y,lo=some y->OpV P A ρ w tm a y:=fun y hy=>hv y AY;have mh:∀y,hi=some y->OpV P A ρ w tm a y:=fun y hy=>hv y AY;have mm:∀y,mx=some y->OpV P A ρ w tm a y:=fun y hy=>hv y AY;obtain⟨i,hi1,hi2⟩:=gI hs;have hb:=Ax (P:=P) w 0 0 0 0 0 (lo.map a.eval) (hi.map a.eval) (mx.map a.eval) (by
  rcases mq hl ml with⟨r1,r2⟩|⟨y,k,r1,r2⟩
  ·exact .inl ⟨by rw[r1];rfl,r2⟩
  ·exact .inr ⟨k,by rw[r1,cw,r2]⟩) (by
  rcases mq hh mh with⟨r1,r2⟩|⟨y,k,r1,r2⟩
  ·exact .inl ⟨by rw[r1];rfl,by rw[hhm r1];rfl,r2⟩
  ·exact .inr ⟨k,by rw[r1,cw,r2]⟩) (by
  rcases mq hm mm with⟨r1,r2⟩|⟨y,k,r1,r2⟩
  ·exact .inl ⟨by rw[r1];rfl,r2⟩
  ·exact .inr ⟨k,by rw[r1,cw,r2]⟩) (af _) (af _) (af _)
 refine fS (u:=.slice none 0 0) ?_ (jC rfl);unfold execOp;rw[ho];simp only[Instr.sliceAt,Instr.slice,hX.1,Sem.run_bind,run_underlying hu,Result.andThen_ok,hb];simp[sizeOf,typeInfo,hi1]
end CI
end
section
open Go.RowKit
namespace CI
variable {P : Program} {A : Nat->Prop} {ρ : Nat->Nat} {w : World} {tm : Tm} {a : Act} {o : Oper} {next : Nat} {c : C} {ob : Option B}
theorem rL{t:TypeId}{r:Bool}(h:rowOf P t=some r)(w:World):(isAgg t).run P w= .ok r w:=by
 unfold rowOf at h
 cases hu:P.underlying t with
 |none=>rw[hu]at h;cases h
 |some d=>
  unfold isAgg;rw[Sem.run_bind,run_underlying hu w];rw[hu]at h;cases d<;>simp at h<;>subst h<;>rfl
theorem P3(cs:Array Value)(i n:Nat):(cs.extract i (i+n)).toList=(cs.toList.drop i).take n:=by
 simp
theorem Fa{t:TypeId}{r:Bool}{s off:Nat}{cs:Array Value}{p l:List C}{c:C}(hr:rowOf P t=some r)(hs:dh P t=some s)(hl:VCs P A ρ w l cs.toList)(hp:qC l off s=some p)(hc:jL r p=some c):∃u,(Go.part t cs off).run P w= .ok u w/\VR P A ρ w c u:=by
 obtain⟨i,hi1,hi2⟩:=gI hs;obtain⟨k1,k2⟩:=hl.get hp;have k3:=k1.jL hc
 cases r with
 |true=>
  simp only[if_true]at k3;refine⟨.agg (cs.extract off (off+s)),?_,?_⟩
  ·unfold Go.part;simp[rL hr,sizeOf,typeInfo,hi1,hi2]
  ·have : cs.extract off (off + s) = ((cs.toList.drop off).take s).toArray := by
    apply cQ.1;rw[P3]
   rw[this];exact k3
 |false=>
  simp only[zj,if_false]at k3;obtain⟨u,e,k4⟩:=k3;refine⟨u,?_,k4⟩;have h0:((cs.toList.drop off).take s)[0]?=some u:=by rw[e];rfl
  have h1:cs[off]?=some u:=by
   rw[gB]at h0;split at h0
   ·rw[fE,cg,dG]at h0;exact h0
   ·cases h0
  unfold Go.part;simp[rL hr,h1]
theorem x_fa(hv:HV P A ρ w tm a o){t:TypeId}{x:Operand}{i k off s:Nat}{fs:Array Field}{f:Field}(ho:o.op= .fieldAddr t x i)(hu:P.underlying t=some (.struct fs))(hf:fs[i]?=some f)(hs:dh P f.type=some s)(h0:s≠0)(hx:(aU x).ev tm= .pt k off):XO' P A ρ w ((execOp a.eval o).run P w) next (.pt k (off+f.offset)) none:=by
 have hX:=hv x bV;unfold OpV at hX;rw[hx]at hX;simp only[VR]at hX;obtain⟨j,hj1,hj2⟩:=gI hs;refine fS (u:=.pointer (some ⟨ρ k,off+f.offset,none⟩)) ?_ (by simp only[VR];exact⟨hX.1,trivial⟩);unfold execOp;rw[ho];have h0':j.size≠0:=by omega
 simp[hX.2,Instr.fieldAt,run_underlying hu,hf,Instr.sureAddr,fieldPlace,sizeOf,typeInfo,hj1,h0',dA]
theorem x_fd(hv:HV P A ρ w tm a o){t:TypeId}{x:Operand}{i s:Nat}{r:Bool}{fs:Array Field}{f:Field}{l p:List C}(ho:o.op= .field t x i)(hu:P.underlying t=some (.struct fs))(hf:fs[i]?=some f)(hs:dh P f.type=some s)(hr:rowOf P f.type=some r)(hx:(aU x).ev tm= .ag l)(hp:qC l f.offset s=some p)(hc:jL r p=some c):XO' P A ρ w ((execOp a.eval o).run P w) next c none:=by
 have hX:=hv x bV;unfold OpV at hX;rw[hx]at hX;simp only[VR]at hX;obtain⟨cs,e1,hl⟩:=hX;obtain⟨u,k1,k2⟩:=Fa hr hs hl hp hc;refine fS (u:=u) ?_ k2;unfold execOp;rw[ho];simp[Instr.field,run_underlying hu,hf,e1,asAgg,k1]
theorem KQ{t e:TypeId}(h:P.underlying t=some (.slice e)):P.elem t=e:=by unfold Program.elem;rw[h]
theorem x_ia(hv:HV P A ρ w tm a o){t e:TypeId}{x y:Operand}{i k off n cp s:Nat}{ex:Bool}(ho:o.op= .indexAddr t x y)(hu:P.underlying t=some (.slice e))(hs:dh P e=some s)(hi:je ((aU y).ev tm)=some i)(hx:(aU x).ev tm= .sl k off n cp ex)(hlt:i<n):XO' P A ρ w ((execOp a.eval o).run P w) next (.pt k (off+i*s)) none:=by
 have hX:=hv x bV;unfold OpV at hX;rw[hx]at hX;simp only[VR]at hX;obtain⟨hA,cap,e1,_⟩:=hX;obtain⟨ki,e2⟩:=iP hi (hv y bV);obtain⟨j,hj1,hj2⟩:=gI hs;refine fS (u:=.pointer (some ⟨ρ k,off+i*s,none⟩)) ?_ (by simp only[VR];exact⟨hA,trivial⟩);unfold execOp;rw[ho];have he:=KQ hu;have hrun:=run_indexAt_slice (P:=P) (w:=w) t ⟨ρ k,off,none⟩ n cap ki (i:Int) (by rw[he];exact hu);rw[ak ⟨by omega,by omega⟩]at hrun;simp only[Sem.run_bind,e1,e2,hrun];simp[sizeOf,typeInfo,he,hj1,hj2,dA]
theorem x_iaA(hv:HV P A ρ w tm a o){t e:TypeId}{x y:Operand}{i k off n s:Nat}(ho:o.op= .indexAddr t x y)(hu:P.underlying t=some (.array n e))(hs:dh P e=some s)(hi:je ((aU y).ev tm)=some i)(hx:(aU x).ev tm= .pt k off)(hlt:i<n):XO' P A ρ w ((execOp a.eval o).run P w) next (.pt k (off+i*s)) none:=by
 have hX:=hv x bV;unfold OpV at hX;rw[hx]at hX;simp only[VR]at hX;obtain⟨hA,e1⟩:=hX;obtain⟨ki,e2⟩:=iP hi (hv y bV);obtain⟨j,hj1,hj2⟩:=gI hs;refine fS (u:=.pointer (some ⟨ρ k,off+i*s,none⟩)) ?_ (by simp only[VR];exact⟨hA,trivial⟩);unfold execOp;rw[ho];have hlt':(i:Int)<(n:Int):=by omega
 simp[Instr.indexAt,e1,e2,asIntOf,run_underlying hu,Instr.sureAddr,hlt,sizeOf,typeInfo,hj1,hj2,dA]
theorem x_ix(hv:HV P A ρ w tm a o){t e:TypeId}{x y:Operand}{i n s:Nat}{r:Bool}{l p:List C}(ho:o.op= .index t x y)(hu:P.underlying t=some (.array n e))(hs:dh P e=some s)(hr:rowOf P e=some r)(hi:je ((aU y).ev tm)=some i)(hx:(aU x).ev tm= .ag l)(hlt:i<n)(hp:qC l (i*s) s=some p)(hc:jL r p=some c):XO' P A ρ w ((execOp a.eval o).run P w) next c none:=by
 have hX:=hv x bV;unfold OpV at hX;rw[hx]at hX;simp only[VR]at hX;obtain⟨cs,e1,hl⟩:=hX;obtain⟨ki,e2⟩:=iP hi (hv y bV);obtain⟨j,hj1,hj2⟩:=gI hs;obtain⟨u,k1,k2⟩:=Fa hr hs hl hp hc;refine fS (u:=u) ?_ k2;unfold execOp;rw[ho];simp[Instr.index,e1,e2,asIntOf,run_underlying hu,hlt,sizeOf,typeInfo,hj1,hj2,k1]
theorem x_sx(hv:HV P A ρ w tm a o){t:TypeId}{x y:Operand}{i:Nat}{s:ByteArray}{b:UInt8}(ho:o.op= .index t x y)(hu:P.underlying t=some .string)(hi:je ((aU y).ev tm)=some i)(hx:(aU x).ev tm= .sc (.string s))(hb:s[i]?=some b):XO' P A ρ w ((execOp a.eval o).run P w) next (.sc (.int .u8 b.toNat)) none:=by
 have hX:=hv x bV;unfold OpV at hX;rw[hx]at hX;simp only[VR]at hX;obtain⟨ki,e2⟩:=iP hi (hv y bV);refine fS (u:=.int .u8 b.toNat) ?_ (jC rfl);unfold execOp;rw[ho];simp[Instr.index,hX.1,e2,asIntOf,run_underlying hu,hb]
theorem VRl.at:∀{l:List C} {vs:List Value} {i:Nat} {c:C},VRl P A ρ w l vs->l[i]?=some c->∃u,vs[i]?=some u/\VR P A ρ w c u
 |[],_,_,_,_,h=>by simp at h
 |d::l,vs,0,c,h,e=>by
  simp only[VRl]at h;simp at e;subst e;obtain⟨u,rest,rfl,h2,_⟩:=h;exact⟨u,rfl,h2⟩
 |d::l,vs,i+1,c,h,e=>by
  simp only[VRl]at h;obtain⟨u,rest,rfl,h2,h3⟩:=h;obtain⟨u',k1,k2⟩:=VRl.at h3 oB;exact⟨u',by simpa using k1,k2⟩
theorem x_ext(hv:HV P A ρ w tm a o){x:Operand}{i:Nat}{l:List C}(ho:o.op= .extract x i)(hx:(aU x).ev tm= .tp l)(hc:l[i]?=some c):XO' P A ρ w ((execOp a.eval o).run P w) next c none:=by
 have hX:=hv x bV;unfold OpV at hX;rw[hx]at hX;simp only[VR]at hX;obtain⟨vs,e1,h2⟩:=hX;obtain⟨u,k1,k2⟩:=VRl.at h2 hc;refine fS (u:=u) ?_ k2;unfold execOp;rw[ho];have k1':vs[i]?=some u:=by simpa using k1
 simp[e1,Instr.extract,k1']
theorem x_nc(hv:HV P A ρ w tm a o){x:Operand}(ho:o.op= .nilCheck x)(hx:(∃k off,(aU x).ev tm= .pt k off)\/(∃f cs,(aU x).ev tm= .fn f cs)\/(∃k,(aU x).ev tm= .yl k)):XO' P A ρ w ((execOp a.eval o).run P w) next ((aU x).ev tm) none:=by
 have hX:=hv x bV;refine fS (u:=a.eval x) ?_ hX;unfold OpV at hX;unfold execOp;rw[ho];rcases hx with⟨k,off,e⟩|⟨f,cs,e⟩|⟨k,e⟩<;>rw[e]at hX<;>simp only[VR]at hX
 ·simp[hX.2]
 ·obtain⟨us,e2,_⟩:=hX;simp[e2]
 ·simp[hX.2]
theorem Ka(hv:HV P A ρ w tm a o){t:TypeId}{x:Operand}{n:Nat}(ho:o.op= .call {callee:= .builtin .len,args:= #[x],argTypes:= #[t]})(hx:(∃e,P.underlying t=some (.slice e)/\((∃k off cp ex,(aU x).ev tm= .sl k off n cp ex)\/∃cp,(aU x).ev tm= .sc (.slice none n cp)))\/(∃s:ByteArray,P.underlying t=some .string/\(aU x).ev tm= .sc (.string s)/\s.size=n)):XO' P A ρ w ((execOp a.eval o).run P w) next (ofN n) none:=by
 have hX:=hv x se;unfold OpV at hX;refine fS (u:= .int .i64 n) ?_ (jC rfl);unfold execOp;rw[ho];rcases hx with⟨e,hu,hx⟩|⟨s,hu,hx,hn⟩
 ·have : ∃ ad cp, a.eval x = .slice ad n cp := by
   rcases hx with⟨k,off,cp,ex,e1⟩|⟨cp,e1⟩<;>rw[e1]at hX<;>simp only[VR]at hX
   ·obtain⟨_,cap,e2,_⟩:=hX;exact⟨_,_,e2⟩
   ·exact⟨_,_,hX.1⟩
  obtain⟨ad,cp,e2⟩:=this;simp[resolve,invoke,builtin,e2,Builtin.len_,run_underlying hu,goInt]
 ·rw[hx]at hX;simp only[VR]at hX;simp[resolve,invoke,builtin,hX.1,Builtin.len_,run_underlying hu,goInt,hn]
theorem Rr(hv:HV P A ρ w tm a o){t e:TypeId}{x:Operand}{n:Nat}(ho:o.op= .call {callee:=.builtin .cap,args:=#[x],argTypes:=#[t]})(hu:P.underlying t=some (.slice e))(hx:(∃k off m,(aU x).ev tm= .sl k off m n true)\/∃m,(aU x).ev tm= .sc (.slice none m n)):XO' P A ρ w ((execOp a.eval o).run P w) next (ofN n) none:=by
 have hX:=hv x se;unfold OpV at hX;refine fS (u:=.int .i64 n) ?_ (jC rfl);unfold execOp;rw[ho];have:∃ad m,a.eval x= .slice ad m n:=by
  rcases hx with⟨k,off,m,e1⟩|⟨m,e1⟩<;>rw[e1]at hX<;>simp only[VR]at hX
  ·obtain⟨_,cap,e2,_,_,h3,_⟩:=hX;have:cap=n:=by simpa using h3
   subst this;exact⟨_,_,e2⟩
  ·exact⟨_,_,hX.1⟩
 obtain⟨ad,m,e2⟩:=this;simp[resolve,invoke,builtin,e2,Builtin.cap_,run_underlying hu,goInt]
theorem Rq(hv:HV P A ρ w tm a o){ts:Array TypeId}{x y:Operand}{g:Bool}{k k':IntKind}{p q:Int}(ho:o.op= .call {callee:=.builtin (if g then .max else .min),args:=#[x,y],argTypes:=ts})(hx:(aU x).ev tm= .sc (.int k p))(hy:(aU y).ev tm= .sc (.int k' q)):XO' P A ρ w ((execOp a.eval o).run P w) next (.sc (.int k (if g then(if q>p then q else p)else(if q<p then q else p)))) none:=by
 have h1:=hv x se;have h2:=hv y se;unfold OpV at h1 h2;rw[hx]at h1;rw[hy]at h2;refine fS (u:=.int k (if g then(if q>p then q else p)else(if q<p then q else p))) ?_ (jC rfl);unfold execOp;rw[ho];cases g<;>simp[resolve,invoke,builtin,h1.int,h2.int,Builtin.max_,Builtin.min_,Builtin.max2,Builtin.min2]
end CI
end
section
open Go.RowKit
namespace CI
variable {P : Program} {A : Nat->Prop} {ρ : Nat->Nat} {w : World} {tm : Tm} {a : Act} {o : Oper} {next : Nat} {c : C} {ob : Option B}
theorem aF{α β:Type}{f:α->β}{x:Option α}{y:β}(h:x.map f=some y):∃z,x=some z/\f z=y:=eW.1 h
theorem aJ{α β:Type}{f:α->Option β}{x:Option α}{y:β}(h:x.bind f=some y):∃z,x=some z/\f z=some y:=kB.1 h
theorem N5{x:X}(hc:aZ P o.op=some x)(hT:x.isT=true)(hx:xT x tm next=some (c,ob))(hv:HV P A ρ w tm a o):XO' P A ρ w ((execOp a.eval o).run P w) next c ob:=by
 cases hop:o.op with
 |move y=>
  rw[hop]at hc;simp only[aZ,an]at hc;subst hc;simp only[xT,an,aR]at hx;obtain⟨rfl,rfl⟩:=hx;exact Lx hv (.inl hop)
 |assign y=>
  rw[hop]at hc;simp only[aZ,an]at hc;subst hc;simp only[xT,an,aR]at hx;obtain⟨rfl,rfl⟩:=hx;exact Lx hv (.inr hop)
 |pick y y1 y2=>
  rw[hop]at hc;simp only[aZ,an]at hc;subst hc;simp only[xT]at hx;split at hx
  ·next e=>
   simp only[an,aR]at hx;obtain⟨rfl,rfl⟩:=hx;exact Lw hv (t:=true) hop e
  ·next e=>
   simp only[an,aR]at hx;obtain⟨rfl,rfl⟩:=hx;exact Lw hv (t:=false) hop e
  ·cases hx
 |alloc t=>
  rw[hop]at hc;simp only[aZ]at hc;obtain⟨z,e1,rfl⟩:=aF hc;simp only[xT,an,aR]at hx;obtain⟨rfl,rfl⟩:=hx;exact Sm hop e1
 |box t y=>
  rw[hop]at hc;simp only[aZ,an]at hc;subst hc;simp only[xT]at hx;obtain⟨p,e1,e2⟩:=aF hx;simp only[aR]at e2;obtain⟨rfl,rfl⟩:=e2;exact x_box hv hop e1
 |build t ps=>
  rw[hop]at hc;simp only[aZ]at hc;have key:∃z pl,zOf P t=some z/\placesOf P t ps.toList=some pl/\x= .build z pl/\((∃fs,P.underlying t=some (.struct fs)/\fs.toList.all (fun f=>(P.info? f.type).isSome)=true)\/∃n e s,P.underlying t=some (.array n e)/\dh P e=some s):=by
   split at hc
   ·next fs e=>
    split at hc
    ·next hall=>
     obtain⟨z,e1,hc⟩:=aJ hc;obtain⟨pl,e2,e3⟩:=aF hc;exact⟨z,pl,e1,e2,e3.symm,.inl ⟨fs,e,hall⟩⟩
    ·cases hc
   ·next n e' e=>
    obtain⟨s,e0,hc⟩:=aJ hc;obtain⟨z,e1,hc⟩:=aJ hc;obtain⟨pl,e2,e3⟩:=aF hc;exact⟨z,pl,e1,e2,e3.symm,.inr ⟨n,e',s,e,e0⟩⟩
   ·cases hc
  obtain⟨z,pl,e1,e2,rfl,e3⟩:=key;simp only[xT]at hx;obtain⟨l,e4,e5⟩:=aF hx;simp only[aR]at e5;obtain⟨rfl,rfl⟩:=e5;exact Sl hv hop e1 e2 e3 e4
 |buildSlice t n ps=>
  rw[hop]at hc;simp only[aZ]at hc;split at hc
  ·next e hu=>
   obtain⟨s,e1,hc⟩:=aJ hc;obtain⟨z,e2,hc⟩:=aJ hc;split at hc
   ·next hb=>
    obtain⟨pl,e3,rfl⟩:=aF hc;simp only[dV,zp]at hb;simp only[xT]at hx;obtain⟨l,e4,e5⟩:=aF hx;simp only[aR]at e5;obtain⟨rfl,rfl⟩:=e5;exact x_bsl hv hop hu e1 e2 e3 (fD hb.1.1) (by simpa[bs]using hb.1.2) (hb.2.imp (fun h=>by simpa[bs]using h) (fun h=>List.isEmpty_iff.1 h)) e4
   ·cases hc
  ·cases hc
 |load t y=>
  rw[hop]at hc;simp only[aZ]at hc;obtain⟨s,_,hc⟩:=aJ hc;obtain⟨r,_,rfl⟩:=aF hc;simp[X.isT]at hT
 |store t y v=>
  rw[hop]at hc;simp only[aZ]at hc;obtain⟨s,_,rfl⟩:=aF hc;simp[X.isT]at hT
 |binOp op t y y2 t2=>
  rw[hop]at hc;simp only[aZ]at hc;split at hc
  ·simp only[an]at hc;subst hc;simp only[xT]at hx;obtain⟨c',e1,e2⟩:=aF hx;simp only[aR]at e2;obtain⟨rfl,rfl⟩:=e2;exact x_bin hv hop e1
  ·next hu=>
   split at hc
   ·simp only[an]at hc;subst hc;simp only[xT]at hx;obtain⟨c',e1,e2⟩:=aF hx;simp only[aR]at e2;obtain⟨rfl,rfl⟩:=e2;exact Rs hv hop hu rfl e1
   ·simp only[an]at hc;subst hc;simp only[xT]at hx;obtain⟨c',e1,e2⟩:=aF hx;simp only[aR]at e2;obtain⟨rfl,rfl⟩:=e2;exact Rs hv hop hu rfl e1
   ·cases hc
  ·next hu=>
   split at hc
   ·simp only[an]at hc;subst hc;simp only[xT]at hx;obtain⟨c',e1,e2⟩:=aF hx;simp only[aR]at e2;obtain⟨rfl,rfl⟩:=e2;exact Lu hv hop hu rfl e1
   ·simp only[an]at hc;subst hc;simp only[xT]at hx;obtain⟨c',e1,e2⟩:=aF hx;simp only[aR]at e2;obtain⟨rfl,rfl⟩:=e2;exact Lu hv hop hu rfl e1
   ·cases hc
  ·cases hc
 |unOp op t y=>
  rw[hop]at hc;simp only[aZ,an]at hc;subst hc;simp only[xT]at hx;obtain⟨c',e1,e2⟩:=aF hx;simp only[aR]at e2;obtain⟨rfl,rfl⟩:=e2;exact x_un hv hop e1
 |convert t1 t2 y=>
  rw[hop]at hc;simp only[aZ]at hc;split at hc
  ·next k1 k h1 h2=>
   simp only[an]at hc;subst hc;simp only[xT]at hx;split at hx
   ·next k2 n e=>
    simp only[an,aR]at hx;obtain⟨rfl,rfl⟩:=hx;exact UG hv hop h1 h2 e
   ·cases hx
  ·cases hc
 |makeFunc f first cs=>
  rw[hop]at hc
  cases f with
  |func g=>
   simp only[aZ]at hc;split at hc
   ·next hs=>
    simp only[an]at hc;subst hc;simp only[xT,an,aR]at hx;obtain⟨rfl,rfl⟩:=hx;exact x_mkf hv hop hs
   ·cases hc
  |_=>simp[aZ]at hc
 |makeSlice t y y2=>
  rw[hop]at hc;simp only[aZ]at hc;split at hc
  ·next e hu=>
   obtain⟨i,e1,hc⟩:=aJ hc;obtain⟨z,e2,hc⟩:=aJ hc;split at hc
   ·next hb=>
    simp only[an]at hc;subst hc;simp only[xT]at hx;split at hx
    ·next l m h1 h2=>
     split at hx
     ·next h3 h4=>
      simp only[an,aR]at hx;obtain⟨rfl,rfl⟩:=hx;exact x_mks hv hop hu e1 e2 (fD hb) h1 h2 (fD h3) (fD h4)
     ·cases hx
    ·cases hx
   ·cases hc
  ·cases hc
 |slice t y lo hi mx=>
  rw[hop]at hc;simp only[aZ]at hc;split at hc
  ·next e hu=>
   have key:∃s,dh P e=some s/\x= .slc s (aU y) (lo.map aU) (hi.map aU) (mx.map aU)/\(hi=none->mx=none):=by
    split at hc
    ·cases hc
    ·next hn=>
     obtain⟨s,e1,e2⟩:=aF hc;refine⟨s,e1,e2.symm,fun h=>?_⟩
     cases mx with
     |none=>rfl
     |some z=>exact absurd rfl (hn z h)
   obtain⟨s,e1,rfl,hhm⟩:=key;simp only[xT]at hx;split at hx
   ·next k off n cp ex ey=>
    split at hx
    ·next l h m h1 h2 h3=>
     split at hx
     ·next h4 h5 h6=>
      obtain⟨iw,e2,e3⟩:=aF hx;simp only[aR]at e3;obtain⟨rfl,rfl⟩:=e3;exact x_slc hv hop (by cases mx<;>simp[KJ]) hu e1 hhm ey h1 h2 h3 (fD h4) (fD h5) (fD h6) e2
     ·cases hx
    ·cases hx
   ·next ey=>
    split at hx
    ·next h1 h2 h3=>
     simp only[an,aR]at hx;obtain⟨rfl,rfl⟩:=hx;exact N4 hv hop hu e1 hhm ey h2 h1 h3
    ·cases hx
   ·cases hx
  ·cases hc
 |fieldAddr t y i=>
  rw[hop]at hc;simp only[aZ]at hc;split at hc
  ·next fs hu=>
   obtain⟨f,e1,hc⟩:=aJ hc;obtain⟨s,e2,hc⟩:=aJ hc;split at hc
   ·cases hc
   ·next h0=>
    simp only[an]at hc;subst hc;simp only[xT]at hx;split at hx
    ·next k off ey=>
     simp only[an,aR]at hx;obtain⟨rfl,rfl⟩:=hx;exact x_fa hv hop hu e1 e2 (fun e=>h0 e) ey
    ·cases hx
  ·cases hc
 |field t y i=>
  rw[hop]at hc;simp only[aZ]at hc;split at hc
  ·next fs hu=>
   obtain⟨f,e1,hc⟩:=aJ hc;obtain⟨s,e2,hc⟩:=aJ hc;obtain⟨r,e3,rfl⟩:=aF hc;simp only[xT]at hx;split at hx
   ·next l ey=>
    obtain⟨c',e4,e5⟩:=aF hx;simp only[aR]at e5;obtain⟨rfl,rfl⟩:=e5;obtain⟨p,e6,e7⟩:=aJ e4;exact x_fd hv hop hu e1 e2 e3 ey e6 e7
   ·cases hx
  ·cases hc
 |indexAddr t y i=>
  rw[hop]at hc;simp only[aZ]at hc;split at hc
  ·next e hu=>
   obtain⟨s,e1,rfl⟩:=aF hc;simp only[xT]at hx;split at hx
   ·next i' hi=>
    split at hx
    ·next k off n cp ex ey _=>
     split at hx
     ·next hlt=>
      simp only[an,aR]at hx;obtain⟨rfl,rfl⟩:=hx;exact x_ia hv hop hu e1 hi ey (by simpa[bs]using hlt)
     ·cases hx
    ·next hh=>cases hh
    ·cases hx
   ·cases hx
  ·next n e hu=>
   obtain⟨s,e1,rfl⟩:=aF hc;simp only[xT]at hx;split at hx
   ·next i' hi=>
    split at hx
    ·next hh=>cases hh
    ·next k off n' ey hh=>
     simp only[an]at hh;subst hh;split at hx
     ·next hlt=>
      simp only[an,aR]at hx;obtain⟨rfl,rfl⟩:=hx;exact x_iaA hv hop hu e1 hi ey (by simpa[bs]using hlt)
     ·cases hx
    ·cases hx
   ·cases hx
  ·cases hc
 |index t y i=>
  rw[hop]at hc;simp only[aZ]at hc;split at hc
  ·next n e hu=>
   obtain⟨s,e1,hc⟩:=aJ hc;obtain⟨r,e2,rfl⟩:=aF hc;simp only[xT]at hx;split at hx
   ·next i' l hi ey=>
    split at hx
    ·next hlt=>
     obtain⟨c',e4,e5⟩:=aF hx;simp only[aR]at e5;obtain⟨rfl,rfl⟩:=e5;obtain⟨p,e6,e7⟩:=aJ e4;exact x_ix hv hop hu e1 e2 hi ey (by simpa[bs]using hlt) e6 e7
    ·cases hx
   ·cases hx
  ·next hu=>
   simp only[an]at hc;subst hc;simp only[xT]at hx;split at hx
   ·next i' s hi ey=>
    obtain⟨b,e4,e5⟩:=aF hx;simp only[aR]at e5;obtain⟨rfl,rfl⟩:=e5;exact x_sx hv hop hu hi ey e4
   ·cases hx
  ·cases hc
 |extract y i=>
  rw[hop]at hc;simp only[aZ,an]at hc;subst hc;simp only[xT]at hx;split at hx
  ·next l ey=>
   obtain⟨c',e4,e5⟩:=aF hx;simp only[aR]at e5;obtain⟨rfl,rfl⟩:=e5;exact x_ext hv hop ey e4
  ·cases hx
 |nilCheck y=>
  rw[hop]at hc;simp only[aZ,an]at hc;subst hc;simp only[xT]at hx;split at hx
  ·next k off ey=>
   simp only[an,aR]at hx;obtain⟨rfl,rfl⟩:=hx;rw[<-ey];exact x_nc hv hop (.inl ⟨k,off,ey⟩)
  ·next f cs ey=>
   simp only[an,aR]at hx;obtain⟨rfl,rfl⟩:=hx;rw[<-ey];exact x_nc hv hop (.inr (.inl ⟨f,cs,ey⟩))
  ·next k ey=>
   simp only[an,aR]at hx;obtain⟨rfl,rfl⟩:=hx;rw[<-ey];exact x_nc hv hop (.inr (.inr ⟨k,ey⟩))
  ·cases hx
 |call cl=>
  obtain⟨callee,args,argTypes⟩:=cl;rw[hop]at hc
  cases callee with
  |value f=>
   simp only[aZ,an]at hc;subst hc;simp[X.isT]at hT
  |invoke r m=>simp[aZ]at hc
  |builtin b=>
   simp only[aZ]at hc;split at hc
   ·next y t ha ht=>
    have ha':args= #[y]:=cQ.1 ha;have ht':argTypes= #[t]:=cQ.1 ht;subst ha';subst ht';split at hc
    ·next e hu=>
     simp only[an]at hc;subst hc;simp only[xT]at hx;split at hx
     ·next k off n cp ex ey=>
      simp only[an,aR]at hx;obtain⟨rfl,rfl⟩:=hx;exact Ka hv hop (.inl ⟨e,hu,.inl ⟨k,off,cp,ex,ey⟩⟩)
     ·next n cp ey=>
      simp only[an,aR]at hx;obtain⟨rfl,rfl⟩:=hx;exact Ka hv hop (.inl ⟨e,hu,.inr ⟨cp,ey⟩⟩)
     ·cases hx
    ·next hu=>
     simp only[an]at hc;subst hc;simp only[xT]at hx;split at hx
     ·next s ey=>
      simp only[an,aR]at hx;obtain⟨rfl,rfl⟩:=hx;exact Ka hv hop (.inr ⟨s,hu,ey,rfl⟩)
     ·cases hx
    ·cases hc
   ·next y y2 ha=>
    have ha':args= #[y,y2]:=cQ.1 ha;subst ha';simp only[an]at hc;subst hc;simp only[xT]at hx;split at hx
    ·next k p k' q e1 e2=>
     simp only[an,aR]at hx;obtain⟨rfl,rfl⟩:=hx;exact Rq hv (g:=false) hop e1 e2
    ·cases hx
   ·next y y2 ha=>
    have ha':args= #[y,y2]:=cQ.1 ha;subst ha';simp only[an]at hc;subst hc;simp only[xT]at hx;split at hx
    ·next k p k' q e1 e2=>
     simp only[an,aR]at hx;obtain⟨rfl,rfl⟩:=hx;exact Rq hv (g:=true) hop e1 e2
    ·cases hx
   ·next y y2 t t' ha ht=>
    split at hc
    ·split at hc
     ·cases hc
     ·obtain⟨i,_,hc⟩:=aJ hc;obtain⟨z,_,hc⟩:=aJ hc;split at hc
      ·simp only[an]at hc;subst hc;simp[X.isT]at hT
      ·cases hc
    ·obtain⟨i,_,hc⟩:=aJ hc;obtain⟨z,_,hc⟩:=aJ hc;split at hc
     ·simp only[an]at hc;subst hc;simp[X.isT]at hT
     ·cases hc
    ·cases hc
   ·next y t ha ht=>
    have ha':args= #[y]:=cQ.1 ha;have ht':argTypes= #[t]:=cQ.1 ht;subst ha';subst ht';split at hc
    ·next e hu=>
     simp only[an]at hc;subst hc;simp only[xT]at hx;split at hx
     ·next k off n cp ey=>
      simp only[an,aR]at hx;obtain⟨rfl,rfl⟩:=hx;exact Rr hv hop hu (.inl ⟨k,off,n,ey⟩)
     ·next m n ey=>
      simp only[an,aR]at hx;obtain⟨rfl,rfl⟩:=hx;exact Rr hv hop hu (.inr ⟨m,ey⟩)
     ·cases hx
    ·cases hc
   ·cases hc
 |_=>rw[hop]at hc;simp[aZ]at hc
end CI
end
section
open Go.RowKit
namespace CI
variable {P : Program} {A : Nat->Prop} {ρ : Nat->Nat} {w : World} {tm : Tm} {a : Act} {o : Oper} {c : C} {h h' : H}
def ME(P:Program)(A:Nat->Prop)(ρ:Nat->Nat)(w:World)(h:H)(r:Result Next)(c:C)(h':H):Prop:=
 ∃u w' ρ',(r= .ok (.value u) w'\/(r= .ok .skip w'/\u=undef))/\cP P A ρ w h ρ' w' h'/\VR P (Ext A h h') ρ' w' c u
theorem bH{k:Nat}{b:B}(e:h.get k=some b):h.live k:=by unfold H.live;rw[e];rfl
theorem yr{r:Nat}{arr:Array Value}{T:TypeId}{xs rest:List Value}(hg:w.heap[r]?=some (.cells arr T (0,0)))(e:arr.toList=xs++rest){j:Nat}{v:Value}(hj:xs[j]?=some v):w.cell? ⟨r,j,none⟩=some v:=by
 rw[cell_of_row w r _ _ _ (0,0) hg,<-dG,e,eD (cB.1 hj).1];exact hj
theorem Ab(t:Rel P A ρ w h){k off s:Nat}{r:Bool}{T:TypeId}{l p:List C}{ty:TypeId}(hb:h.get k=some (.cells T l))(hp:qC l off s=some p)(hc:jL r p=some c)(hr:rowOf P ty=some r)(hs:dh P ty=some s):
  ∃u,(loadVar ty ⟨ρ k,off,none⟩).run P w= .ok u w/\VR P A ρ w c u:=by
 obtain⟨_,_,_,arr,xs,rest,e1,e2,e3,_⟩:=t.blk k _ hb;obtain⟨k1,k2⟩:=e3.get hp;have k3:=k1.jL hc;obtain⟨i,hi1,hi2⟩:=gI hs;have hcell:∀j v,((xs.drop off).take s)[j]?=some v->w.cell? ((⟨ρ k,off,none⟩:Addr).add j)=some v:=fun j v hj=>by
  rw[dA];rw[gB]at hj;split at hj
  ·rw[fE]at hj;exact yr e1 e2 hj
  ·cases hj
 have hlen:((xs.drop off).take s).length=s:=by rw[aP,eM];omega
 cases r with
 |true=>
  simp only[if_true]at k3;refine⟨_,?_,k3⟩;have hr2:=run_loadCells_list (P:=P) (w:=w) ⟨ρ k,off,none⟩ ((xs.drop off).take s) hcell;rw[hlen]at hr2;unfold loadVar;simp[rL hr,sizeOf,typeInfo,hi1,hi2,hr2]
 |false=>
  simp only[zj,if_false]at k3;obtain⟨u,e,k4⟩:=k3;refine⟨u,?_,k4⟩;have h0:=hcell 0 u (by rw[e];rfl);rw[dA,cg]at h0;unfold loadVar;simp[rL hr,h0]
theorem U9(hv:HV P A ρ w tm a o)(t:Rel P A ρ w h){ty:TypeId}{x:Operand}{s:Nat}{r:Bool}(ho:o.op= .load ty x)(hr:rowOf P ty=some r)(hs:dh P ty=some s)(hx:zt r s ((aU x).ev tm) h=some c):ME P A ρ w h ((execOp a.eval o).run P w) c h:=by
 have hX:=hv x bV;unfold OpV at hX;unfold zt at hx;split at hx
 ·next k off e=>
  rw[e]at hX;simp only[VR]at hX;split at hx
  ·next T l hb=>
   obtain⟨p,e1,e2⟩:=aJ hx;obtain⟨u,k1,k2⟩:=Ab t hb e1 e2 hr hs;have p0:=cP.refl t;refine⟨u,w,ρ,.inl ?_,p0,VR.mo ⟨fun _ hk=>.inl hk,fun _ _=>rfl⟩ (Lt.refl w) _ _ k2⟩;unfold execOp;rw[ho];simp[hX.2,Instr.loadAt,Instr.sureAddr,k1]
  ·cases hx
 ·cases hx
theorem Ce(t:Rel P A ρ w h){k off:Nat}{T:TypeId}{l l' new:List C}{ys:List Value}{s:Nat}(hb:h.get k=some (.cells T l))(hs:Bo l off s new=some l')(hn:VCs P A ρ w new ys)(hl:ys.length=s):
  ∃arr,w.heap[ρ k]?=some (.cells arr T (0,0))/\off+s<=arr.size/\cP P A ρ w h ρ (w.setRow (ρ k) (arr.toList.take off++ys++arr.toList.drop (off+s)).toArray) (h.set k (some (.cells T l'))):=by
 obtain⟨_,_,hlt,arr,xs,rest,e1,e2,e3,e4⟩:=t.blk k _ hb;obtain⟨k1,k2⟩:=e3.set hn hs;have hlen:off+s<=arr.size:=by rw[<-cf,e2,cI];omega
 refine⟨arr,e1,hlen,?_⟩;have hnew:=setRow_heap w (ρ k) arr (arr.toList.take off++ys++arr.toList.drop (off+s)).toArray T (0,0) e1;have hc:Chg (ρ k) w (w.setRow (ρ k) (arr.toList.take off++ys++arr.toList.drop (off+s)).toArray):=⟨rfl,rfl,rfl,by simp,fun j _ hj=>setRow_other w (ρ k) j _ hj⟩;have hsz:(arr.toList.take off++ys++arr.toList.drop (off+s)).toArray.size=arr.size:=by
  simp only[mS,cI,aP,eM,cf];omega
 have hsh:∀q,w.shape? (ρ k)=some q->(w.setRow (ρ k) (arr.toList.take off++ys++arr.toList.drop (off+s)).toArray).shape? (ρ k)=some q:=fun q hq=>by
  unfold World.shape? at hq⊢;rw[e1]at hq;rw[hnew];simp only at hq⊢;rw[hsz];exact hq
 have hLt:=Lt.chg hc e4 hsh;have harr:(arr.toList.take off++ys++arr.toList.drop (off+s))=(xs.take off++ys++xs.drop (off+s))++rest:=by
  rw[e2,sM aa,sT aa];simp only[gW]
 refine EL t (bH hb) hc e4 hsh ⟨_,xs.take off++ys++xs.drop (off+s),rest,hnew,by rw[qj];exact harr,VCs.mo (Mo.refl A ρ) hLt _ _ k1,fun n e=>?_⟩;rw[cell_of_row _ (ρ k) _ _ _ (0,0) hnew,<-dG,qj,harr]at e;by_cases hx:(xs.take off++ys++xs.drop (off+s))=[]
 ·have hx0 : xs = [] := by
   apply fN;have:=ke List.length hx;simp only[cI,aP,eM,iI]at this;omega
  rw[hx,gj]at e;refine e4 n ?_;rw[cell_of_row _ (ρ k) _ _ _ (0,0) e1,<-dG,e2,hx0,gj];exact e
 ·rw[eD (il.2 hx)]at e;exact VCs.nw k1 n e
theorem Ts(hv:HV P A ρ w tm a o)(t:Rel P A ρ w h){ty:TypeId}{x y:Operand}{s:Nat}(ho:o.op= .store ty x y)(hs:dh P ty=some s)(hx:vC s ((aU x).ev tm) ((aU y).ev tm) h=some h'):ME P A ρ w h ((execOp a.eval o).run P w) .any h'/\Good h h':=by
 have hX:=hv x bV;have hY:=hv y bV;unfold OpV at hX hY;unfold vC at hx;split at hx
 ·next k off e=>
  rw[e]at hX;simp only[VR]at hX;split at hx
  ·next T l hb=>
   obtain⟨p,e1,hx⟩:=aJ hx;split at hx
   ·next hw=>
    obtain⟨l',e2,rfl⟩:=aF hx;have hp:=VR.flat hY e1;have hlen:(a.eval y).cells.toList.length=s:=by rw[hp.len];simpa using hw
    obtain⟨arr,k1,k2,k3⟩:=Ce t hb e2 hp hlen;obtain⟨i,hi1,hi2⟩:=gI hs;have hk:k<1000000:=aS (t.live (bH hb)).1 t.bd;refine⟨⟨undef,_,ρ,.inr ⟨?_,rfl⟩,k3,by simp only[VR]⟩,yq hk (bH hb)⟩;have hst:=run_storeCells_at P (ρ k) off T (a.eval y).cells.toList 0 arr w k1 aa hp.one;have hsz:(a.eval y).cells.size=s:=by rw[<-hlen,cf]
    unfold execOp;rw[ho];simp only[cg,hlen]at hst;simp[hX.2,Instr.storeAt,Instr.sureAddr,storeVar,sizeOf,typeInfo,hi1,hi2,hsz,hst]
   ·cases hx
  ·cases hx
 ·cases hx
theorem Ck{k r:Nat}{b:B}{w':World}(t:Rel P A ρ w h)(hl:h.live k)(e:(h.set k none).new b=some h')(hd:Dj A h h')(hc:Chg (ρ k) w w')(hnw:NW w (ρ k))(hs:∀s,w.shape? (ρ k)=some s->w'.shape? (ρ k)=some s)
  (hr:r=ρ k\/w.heap.size<=r/\r<w'.heap.size) (hB:∀A' ρ',Mo A A' ρ ρ'->ρ' h.next=r->A' h.next->BR P A' ρ' w' r b):cP P A ρ w h (at' ρ h.next r) w' h'/\Good h h':=by
 obtain⟨m1,m2,m3⟩:=t.live hl;have hk:k<1000000:=aS m1 t.bd;obtain⟨s1,s2,s3,s4⟩:=uf (h:=h) (b:=none) hk;obtain⟨k1,k2,k3,k4,k5⟩:=dF e;rw[s1]at k1 k4 k5;rw[s2]at k3;have hlt:=Lt.chg hc hnw hs;have hmo:Mo A (Ext A h h') ρ (at' ρ h.next r):=⟨fun _ hk=> .inl hk,fun k hk=>by
  have:=hd k hk;unfold at';rw[ah aa]⟩
 have hat:∀j,j≠h.next->at' ρ h.next r j=ρ j:=fun j hj=>by unfold at';rw[ah hj]
 have hatn:at' ρ h.next r h.next=r:=by unfold at';rw[ak rfl]
 have hT:∀j,T.get h'.t j=if j=h.next then some b else if j=k then none else T.get h.t j:=fun j=>by rw[k5,s4]
 have hg:∀j c,h'.get j=some c->(j=h.next/\c=b)\/(j≠h.next/\j≠k/\h.get j=some c):=fun j c ej=>by
  unfold H.get at ej⊢;rw[k3]at ej;split at ej
  ·cases ej
  ·next hf=>
   rw[hT]at ej;by_cases e1:j=h.next
   ·rw[ak e1]at ej;simp only[an]at ej;exact .inl ⟨e1,ej.symm⟩
   ·rw[ah e1]at ej;by_cases e2:j=k
    ·rw[ak e2]at ej;cases ej
    ·rw[ah e2]at ej;exact .inr ⟨e1,e2,ej⟩
 have hlv:∀j,h'.live j->j=h.next\/(j≠h.next/\j≠k/\h.live j):=fun j hj=>by
  obtain⟨c,ec⟩:=cU.1 hj;rcases hg j c ec with⟨e1,_⟩|⟨e1,e2,e3⟩
  ·exact .inl e1
  ·exact .inr ⟨e1,e2,bH e3⟩
 have hlow:h'.low<=h.low/\h'.low<=k:=by rw[k2];exact s3
 refine⟨⟨fun j hj=>hat j aa,⟨fun j c ej=>?_,fun i j hi hj ee=>?_,by omega⟩,hlt,fun q hq hn=>hc.block q hq fun e2=>hn k hl hlow.2 e2.symm,fun j hj hlj=>?_⟩,⟨by omega,hlow.1,k3,fun j hj hlo=>?_,fun j hj hd=>?_⟩⟩
 ·rcases hg j c ej with⟨e1,e2⟩|⟨e1,e2,e3⟩
  ·subst e1;subst e2;have hA:Ext A h h' h.next:= .inr ⟨af _,by omega⟩
   rw[hatn];refine⟨by omega,hA,?_,hB _ _ hmo hatn hA⟩;rcases hr with hr|hr
   ·rw[hr];exact aS m3 hlt.size
   ·exact hr.2
  ·obtain⟨n1,n2,n3,n4⟩:=t.blk j c e3;rw[hat j e1];have hne:ρ j≠ρ k:=fun e5=>e2 (t.inj j k (bH e3) hl e5);exact⟨by omega, .inl n2,aS n3 hlt.size,n4.mo hmo hlt (hc.block _ n3 hne)⟩
 ·have key : ∀ i, i ≠ h.next -> i ≠ k -> h.live i -> ρ i ≠ r := fun i h1 h2 h3 e5 => by
   rcases hr with hr|hr
   ·rw[hr]at e5;exact h2 (t.inj i k h3 hl e5)
   ·have:=(t.live h3).2.2;omega
  rcases hlv i hi with hi'|⟨hi1,hi2,hi3⟩<;>rcases hlv j hj with hj'|⟨hj1,hj2,hj3⟩
  ·rw[hi',hj']
  ·rw[hi',hatn,hat j hj1]at ee;exact absurd ee.symm (key j hj1 hj2 hj3)
  ·rw[hj',hatn,hat i hi1]at ee;exact absurd ee (key i hi1 hi2 hi3)
  ·rw[hat i hi1,hat j hj1]at ee;exact t.inj i j hi3 hj3 ee
 ·rcases hlv j hlj with e1|⟨_,_,e3⟩
  ·subst e1;rw[hatn];rcases hr with hr|hr
   ·exact .inr ⟨k,hl,hlow.2,hr⟩
   ·exact .inl hr.1
  ·have:=(t.live e3).1;omega
 ·rw[hT,ah aa,ah aa]
 ·rw[hT,ah aa,ah (fun e2=>hd (by rw[e2];exact hl))]
end CI
end
section
open Go.RowKit
namespace CI
variable {P : Program} {A : Nat->Prop} {ρ : Nat->Nat} {w : World} {tm : Tm} {a : Act} {o : Oper} {c : C} {h h' : H}
theorem Ox(t:Rel P A ρ w h){s m:Nat}{b:C}{v:Value}{new:List C}(hb:slW s b h=some (new,m))(hv:VR P A ρ w b v):∃ys,VCs P A ρ w new ys/\ys.length=m*s/\((m=0/\∃ad cp,v= .slice ad 0 cp)\/∃ad cp,v= .slice (some ad) m cp/\∀j u,ys[j]?=some u->w.cell? (ad.add j)=some u):=by
 unfold slW at hb;split at hb
 ·simp only[an,aR]at hb;obtain⟨rfl,rfl⟩:=hb;simp only[VR]at hv;exact⟨[],by simp only[VCs],by simp,.inl ⟨rfl,none,0,hv.1⟩⟩
 ·next k off n cp ex=>
  split at hb
  ·next T l hg=>
   obtain⟨p,e1,e2⟩:=aF hb;simp only[aR]at e2;obtain⟨rfl,rfl⟩:=e2;obtain⟨_,_,_,arr,xs,rest,f1,f2,f3,_⟩:=t.blk k _ hg;obtain⟨k1,k2⟩:=f3.get e1;simp only[VR]at hv;obtain⟨_,cap,hv,_⟩:=hv;refine⟨_,k1,by rw[aP,eM];omega,.inr ⟨_,_,hv,fun j u hj=>?_⟩⟩;rw[dA];rw[gB]at hj;split at hj
   ·rw[fE]at hj;exact yr f1 f2 hj
   ·cases hj
  ·cases hb
 ·cases hb
theorem qB{T s m cap:Nat}{arr:Array Value}{A':Nat->Prop}{ρ':Nat->Nat}{w':World}{k r:Nat}(hA:A' k)(hr:ρ' k=r)(hg:w'.heap[r]?=some (.cells arr T (0,0)))(hs:dh P T=some s)(hm:m<=cap)(hml:cap<=maxLen)(hsz:arr.size=cap*s):VR P A' ρ' w' (.sl k 0 m m false) (.slice (some ⟨r,0,none⟩) m cap):=by
 simp only[VR,zj,false_imp_iff,true_and,true_imp_iff];refine⟨hA,cap,by rw[hr],af _,hm,hml,T,s,?_,hs⟩;unfold World.shape?;rw[hr,hg];show some (T,arr.size)=_;rw[hsz]
theorem xG(w:World)(arr:Array Value)(T:TypeId){l:List C}{xs rest:List Value}{A':Nat->Prop}{ρ':Nat->Nat}(m:Mo A A' ρ ρ')(hb:Below w.heap.size w (w.drew.alloc (.cells arr T)))(e:arr.toList=xs++rest)(hl:VCs P A ρ w l xs)(hne:xs≠[]):BR P A' ρ' (w.drew.alloc (.cells arr T)) w.heap.size (.cells T l):=by
 refine⟨arr,xs,rest,heap_alloc_new w.drew _,e,VCs.mo m (Lt.below hb) _ _ hl,fun n e2=>?_⟩;rw[cell_of_row _ w.heap.size _ _ _ (0,0) (heap_alloc_new w.drew _),<-dG,e,eD (il.2 hne)]at e2;exact VCs.nw hl n e2
theorem kP(w:World)(arr:Array Value)(T:TypeId):Below w.heap.size w (w.drew.alloc (.cells arr T)):=((Below.refl _ w).drew).alloc (by exact af _) _
theorem EP{t ty e:TypeId}{i:TypeInfo}(ht:P.underlying t=some (.slice e))(hi:P.info? e=some i){g off n cap:Nat}{cur:Array Value}{T:TypeId}(hg:w.heap[g]?=some (.cells cur T (0,0)))
  {ad:Addr} {m cp:Nat} {ys:List Value} (hl:ys.length=m*i.size) (hc:∀j u,ys[j]?=some u->w.cell? (ad.add j)=some u) (h1:∀u∈ys,u.oneCell'=true) (hroom:n+m<=cap) (hfit:off+n*i.size+ys.length<=cur.size):
  (Builtin.append_ #[t,t] ty #[.slice (some ⟨g,off,none⟩) n cap,.slice (some ad) m cp]).run P w= .ok (.slice (some ⟨g,off,none⟩) (n+m) cap) (w.setRow g (cur.toList.take (off+n*i.size)++ys++cur.toList.drop (off+n*i.size+ys.length)).toArray):=by
 have hf:=run_firstCells_some (P:=P) w i.size m ad m cp ys hl hc;have hst:=run_storeCells_at P g (off+n*i.size) T ys 0 cur w hg (by simpa using hfit) h1;simp only[cg]at hst;simp[Builtin.append_,run_underlying ht,sizeOf,typeInfo,hi,Builtin.lenOf,hroom,hf,Addr.add_lit,hst]
theorem m_app(hv:HV P A ρ w tm a o)(t:Rel P A ρ w h)(hd:Dj A h h'){ty e:TypeId}{x y:Operand}{s:Nat}{i:TypeInfo}{z:List C}(ho:o.op= .call {callee:=.builtin .append,args:=#[x,y],argTypes:=#[ty,ty]})(hu:P.underlying ty=some (.slice e))(hi:P.info? e=some i)(his:i.size=s)(hz:zOf P e=some z)(hby:i.bytes<=100000)(h0:0<s)
  (hx:Kc e s ((aU x).ev tm) ((aU y).ev tm) h=some (c,h')):ME P A ρ w h ((execOp a.eval o).run P w) c h'/\Good h h':=by
 have hX:=hv x se;have hY:=hv y se;unfold OpV at hX hY;unfold Kc at hx;have hq:=aJ hx;clear hx;obtain⟨⟨new,m⟩,e1,hx⟩:=hq;obtain⟨ys,k1,k2,k3⟩:=Ox t e1 hY;obtain⟨i',zv,z1,z2,z3,_⟩:=nI hz;rw[hi]at z1;simp only[an]at z1;subst z1;have hse:dh P e=some s:=by unfold dh;rw[hi,cw,his]
 have hex:∀v w',(Builtin.append_ #[ty,ty] o.type #[a.eval x,a.eval y]).run P w= .ok v w'->(execOp a.eval o).run P w= .ok (.value v) w':=fun v w' hr=>by
  unfold execOp;rw[ho];simp[resolve,invoke,builtin,hr]
 simp only at hx;unfold De at hx;split at hx
 ·
  have hys:ys=[]:=fN (by simpa using k2);have hyv:∃ad cp,a.eval y= .slice ad 0 cp:=by
   rcases k3 with⟨_,h⟩|⟨ad,cp,h,_⟩
   ·exact h
   ·exact⟨_,_,h⟩
  obtain⟨ad,cp,hyv⟩:=hyv;have hfc:∀ad:Option Addr,(Builtin.firstCells i.size 0 (.slice ad 0 cp)).run P w= .ok #[] w:=fun ad=>by
   cases ad<;>simp[Builtin.firstCells,loadCells,loadCellsFrom]
  have key:c=(aU x).ev tm/\h'=h/\∃b n cap,a.eval x= .slice b n cap/\n<=cap:=by
   split at hx
   ·next ex=>
    simp only[an,aR]at hx;obtain⟨rfl,rfl⟩:=hx;rw[ex]at hX;simp only[VR]at hX;exact⟨rfl,rfl,_,_,_,hX.1,af _⟩
   ·next k off n cp' e' ex=>
    simp only[an,aR]at hx;obtain⟨rfl,rfl⟩:=hx;rw[ex]at hX;simp only[VR]at hX;obtain⟨_,cap,hX,q1,q2,_⟩:=hX;exact⟨rfl,rfl,_,_,_,hX,by omega⟩
   ·cases hx
  obtain⟨rfl,rfl,b,n,cap,hxv,hle⟩:=key;have hrun:(Builtin.append_ #[ty,ty] o.type #[a.eval x,a.eval y]).run P w= .ok (a.eval x) w:=by
   rw[hxv,hyv];have hru:=run_underlying hu w;simp[Builtin.append_,hru,sizeOf,typeInfo,hi,Builtin.lenOf,hle,hfc];cases b<;>simp[storeCells]
  exact⟨⟨_,w,ρ,.inl (hex _ _ hrun),cP.refl t,VR.mo ⟨fun _ hk=>.inl hk,fun _ _=>rfl⟩ (Lt.refl w) _ _ hX⟩,Good.refl _⟩
 ·next hm0=>
  have hmp:0<m:=qm hm0;obtain⟨ad,cp,hyv,hcell⟩:=k3.resolve_left (fun q=>hm0 q.1);have hysne:ys≠[]:=fun e2=>by
   rw[e2]at k2;have:0<m*s:=qk hmp h0;simp at k2;omega
  have hz3:zv.cells.size=i.size:=z3;have hzc:∀n,(Builtin.zeroCells zv.cells n).size=n*s:=fun n=>by rw[size_zeroCells,hz3,his]
  split at hx
  ·next ex=>
   split at hx<;>try(cases hx;done)
   next hml=>
   have hmle:=fD hml;obtain⟨h1,e2,e3⟩:=aF hx;simp only[aR]at e3;obtain⟨rfl,rfl⟩:=e3;rw[ex]at hX;simp only[VR]at hX;have hr:=run_append_nil (P:=P) w ty o.type e i zv hu hi z2 ad m cp ys (by rw[his];exact k2) hcell hmp aa (aH (cv hmle hby) av);rw[<-hX.1,<-hyv]at hr;have hge:=grownCap_ge w m 0 e;have hel:(ys.toArray++Builtin.zeroCells zv.cells (grownCap w m 0 e-m)).toList=ys++(Builtin.zeroCells zv.cells (grownCap w m 0 e-m)).toList:=by simp
   have hp:=nS (r:=w.heap.size) t e2 hd (kP w _ e) (af _) aK (fun A' ρ' mo h1 h2=>xG w _ e mo (kP w _ e) hel k1 hysne);refine⟨⟨_,_,_,.inl (hex _ _ hr),hp,?_⟩,yv e2⟩;refine qB (.inr ⟨af _,by have:=(dF e2).1;omega⟩) DP (heap_alloc_new w.drew _) hse hge (grownCap_le_maxLen w m 0 e qW) ?_;rw[tQ,hzc,mS,k2,<-cq];congr 1;omega
  ·next k off n cp' exx ex=>
   rw[ex]at hX;simp only[VR]at hX;obtain⟨hA,cap,hxv,q1,q2,q3,q4⟩:=hX;split at hx
   ·next T' l hg=>
    split at hx
    ·cases hx
    ·next hT=>
     have hT':T'=e:=by simpa using hT
     subst hT';obtain⟨_,_,hlt,arr,xs,rest,f1,f2,f3,f4⟩:=t.blk k _ hg;split at hx
     ·next hroom=>
      have hroom':=fD hroom;obtain⟨l',e2,e3⟩:=aF hx;simp only[aR]at e3;obtain⟨rfl,rfl⟩:=e3;have hlen:(ys).length=m*i.size:=by rw[his];exact k2
      obtain⟨arr',g1,g2,g3⟩:=Ce t hg e2 k1 k2;rw[f1]at g1;simp only[an,Obj.cells.injEq,and_true]at g1;obtain rfl:=g1.symm;have hr:=EP (ty:=o.type) (cap:=cap) (cp:=cp) hu hi (off:=off) (n:=n) f1 hlen hcell (VCs.one k1) aa (by rw[hlen,his];exact g2);rw[<-hxv,<-hyv,hlen,his]at hr;have hk:k<1000000:=aS (t.live (bH hg)).1 t.bd;refine⟨⟨_,_,_,.inl (hex _ _ hr),g3,?_⟩,yq hk (bH hg)⟩;simp only[VR];refine⟨.inl hA,cap,rfl,hroom',q2,q3,fun r1 r2=>?_⟩;obtain⟨r3,T,s',r4,r5⟩:=q4 r1 r2;exact⟨r3,T,s',g3.lt.shape _ _ r4,r5⟩
     ·next hf=>
      split at hx
      ·next hle=>
       have hle':=fD hle;obtain⟨old,e2,hx⟩:=aJ hx;have hnle:¬n+m<=cp':=fun e5=>by
        rw[Nat.ble_eq_true_of_le e5]at hf;cases hf
       obtain⟨g1,g2⟩:=f3.get e2;have hlo:((xs.drop off).take (n*s)).length=n*s:=by rw[aP,eM];omega
       have hold:∀j u,((xs.drop off).take (n*s))[j]?=some u->w.cell? ((⟨ρ k,off,none⟩:Addr).add j)=some u:=fun j u hj=>by
        rw[dA];rw[gB]at hj;split at hj
        ·rw[fE]at hj;exact yr f1 f2 hj
        ·cases hj
       have hne:(xs.drop off).take (n*s)++ys≠[]:=fun e5=>hysne (List.append_eq_nil_iff.1 e5).2;have hgr:∀cap,cap<n+m->_:=fun cap hc=>run_append_grow (P:=P) w ty o.type T' i zv hu hi z2 ⟨ρ k,off,none⟩ n cap _ (by rw[his];exact hlo) hold ad m cp ys (by rw[his];exact k2) hcell hc aa (growslice_fits hc (aH (cv hle' hby) av));have hge:=grownCap_ge w (n+m) cap T';have hgm:=grownCap_le_maxLen w (n+m) cap T' qW;have hel:(((xs.drop off).take (n*s)).toArray++ys.toArray++Builtin.zeroCells zv.cells (grownCap w (n+m) cap T'-(n+m))).toList=((xs.drop off).take (n*s)++ys)++(Builtin.zeroCells zv.cells (grownCap w (n+m) cap T'-(n+m))).toList:=by simp
       have hasz:(((xs.drop off).take (n*s)).toArray++ys.toArray++Builtin.zeroCells zv.cells (grownCap w (n+m) cap T'-(n+m))).size=grownCap w (n+m) cap T'*s:=by
        rw[tQ,tQ,hzc,mS,mS,k2,hlo,<-cq,<-cq];congr 1;omega
       split at hx
       ·next he=>
        obtain⟨h1,e3,e4⟩:=aF hx;simp only[aR]at e4;obtain⟨rfl,rfl⟩:=e4;have hcap:cap=cp':=q3 aK;have hr:=hgr cap aa;rw[<-hxv,<-hyv]at hr;have hp:=nS (r:=w.heap.size) t e3 hd (kP w _ T') (af _) aK (fun A' ρ' mo h1 h2=>xG w _ T' mo (kP w _ T') hel (VCs.app k1 g1) hne);refine⟨⟨_,_,_,.inl (hex _ _ hr),hp,?_⟩,yv e3⟩;exact qB (.inr ⟨af _,by have:=(dF e3).1;omega⟩) DP (heap_alloc_new w.drew _) hse hge hgm hasz
       ·split at hx
        ·obtain⟨h1,e3,e4⟩:=aF hx;simp only[aR]at e4;obtain⟨rfl,rfl⟩:=e4;obtain⟨r3,T2,s',r4,r5⟩:=q4 aK rfl;have hk:k<1000000:=aS (t.live (bH hg)).1 t.bd;have hnx:h1.next=h.next+1:=(dF e3).1
         have hT2:T2=T'/\cap*s'=arr.size:=by
          unfold World.shape? at r4;rw[f1]at r4;simp only[an,aR]at r4;exact⟨r4.1.symm,r4.2.symm⟩
         rw[hT2.1,hse]at r5;simp only[an]at r5;subst r5;by_cases hroom:n+m<=cap
         ·have hlen:ys.length=m*i.size:=by rw[his];exact k2
          have hfit:0+n*i.size+ys.length<=arr.size:=by
           rw[hlen,his,bn,<-cq,<-hT2.2];exact cZ _ hroom
          have hr:=EP (ty:=o.type) (cap:=cap) (cp:=cp) hu hi (off:=0) (n:=n) f1 hlen hcell (VCs.one k1) hroom hfit;rw[<-hxv,<-hyv,hlen,his,bn]at hr;rw[hlen,his,bn]at hfit;have hnew:=setRow_heap w (ρ k) arr (arr.toList.take (n*s)++ys++arr.toList.drop (n*s+m*s)).toArray T' (0,0) f1;have hc:Chg (ρ k) w (w.setRow (ρ k) (arr.toList.take (n*s)++ys++arr.toList.drop (n*s+m*s)).toArray):=⟨rfl,rfl,rfl,by simp,fun j _ hj=>setRow_other w (ρ k) j _ hj⟩;have hsz:(arr.toList.take (n*s)++ys++arr.toList.drop (n*s+m*s)).toArray.size=arr.size:=by
           simp only[mS,cI,aP,eM,cf,k2];omega
          have hsh:∀q,w.shape? (ρ k)=some q->(w.setRow (ρ k) (arr.toList.take (n*s)++ys++arr.toList.drop (n*s+m*s)).toArray).shape? (ρ k)=some q:=fun q hq=>by
           unfold World.shape? at hq⊢;rw[f1]at hq;rw[hnew];simp only at hq⊢;rw[hsz];exact hq
          have hold2:arr.toList.take (n*s)=(xs.drop 0).take (n*s):=by
           rw[f2,cY,sM aa]
          have hmp:=Ck (r:=ρ k) t (bH hg) e3 hd hc f4 hsh (.inl rfl) (fun A' ρ' mo h1 h2=>⟨_,(xs.drop 0).take (n*s)++ys,arr.toList.drop (n*s+m*s),hnew,by rw[qj,hold2],VCs.mo mo (Lt.chg hc f4 hsh) _ _ (VCs.app k1 g1),fun q e5=>by
           rw[cell_of_row _ (ρ k) _ _ _ (0,0) hnew,<-dG,qj,hold2,eD (il.2 hne)]at e5;exact VCs.nw (VCs.app k1 g1) q e5⟩)
          refine⟨⟨_,_,_,.inl (hex _ _ hr),hmp.1,?_⟩,hmp.2⟩;exact qB (.inr ⟨af _,by omega⟩) DP hnew hse hroom r3 (by rw[hsz,hT2.2])
         ·have hr:=hgr cap aa;rw[<-hxv,<-hyv]at hr;have hbl:=kP w (((xs.drop 0).take (n*s)).toArray++ys.toArray++Builtin.zeroCells zv.cells (grownCap w (n+m) cap T'-(n+m))) T';have hmp:=Ck (r:=w.heap.size) t (bH hg) e3 hd (Chg.of hbl) f4 (fun q hq=>(Lt.below hbl).shape _ _ hq) (.inr ⟨af _,by simp⟩) (fun A' ρ' mo h1 h2=>xG w _ T' mo hbl hel (VCs.app k1 g1) hne);refine⟨⟨_,_,_,.inl (hex _ _ hr),hmp.1,?_⟩,hmp.2⟩;exact qB (.inr ⟨af _,by omega⟩) DP (heap_alloc_new w.drew _) hse hge hgm hasz
        ·cases hx
      ·cases hx
   ·cases hx
  ·cases hx
end CI
end
section
open Go.RowKit
namespace CI
variable {P : Program} {A : Nat->Prop} {ρ : Nat->Nat} {w : World} {tm : Tm} {a : Act} {o : Oper} {c : C} {h h' h'' : H}
structure Wf(h:H):Prop where
 bd:h.next<=1000000
 lt:∀k b,T.get h.t k=some b->k<h.next
structure Gd(h h':H):Prop where
 wf:Wf h'
 good:Good h h'
theorem kO{k:Nat}{b:B}(e:h.get k=some b):T.get h.t k=some b:=by
 unfold H.get at e;split at e
 ·cases e
 ·exact e
theorem Gd.refl(f:Wf h):Gd h h:=⟨f,Good.refl h⟩
theorem Gd.trans(g:Gd h h')(g':Gd h' h''):Gd h h'':=⟨g'.wf,g.good.trans g'.good⟩
theorem ni{b:B}(f:Wf h)(e:h.new b=some h'):Gd h h':=by
 obtain⟨h1,h2,h3,h4,h5⟩:=dF e;refine⟨⟨by omega,fun k c hc=>?_⟩,yv e⟩;rw[h5]at hc;split at hc
 ·omega
 ·have:=f.lt k c hc;omega
theorem kF{k:Nat}{b:Option B}(f:Wf h)(hl:h.live k):Gd h (h.set k b):=by
 obtain⟨c,ec⟩:=cU.1 hl;have hk:=f.lt k c (kO ec);have hk':k<1000000:=aS hk f.bd;obtain⟨k1,k2,k3,k4⟩:=uf (h:=h) (b:=b) hk';refine⟨⟨by rw[k1];exact f.bd,fun j d hd=>?_⟩,yq hk' hl⟩;rw[k4]at hd;rw[k1];split at hd
 ·next e=>rw[e];exact hk
 ·exact f.lt j d hd
theorem tD{b:Option B}(f:Wf h)(e:h.nB b=some h'):Gd h h':=by
 cases b with
 |none=>simp only[H.nB,an]at e;subst e;exact Gd.refl f
 |some b=>exact ni f e
theorem Lz{s:Nat}{x y:C}(f:Wf h)(e:vC s x y h=some h'):Gd h h':=by
 unfold vC at e;split at e
 ·split at e
  ·next hb=>
   obtain⟨p,_,e⟩:=aJ e;split at e
   ·obtain⟨l',_,rfl⟩:=aF e;exact kF f (bH hb)
   ·cases e
  ·cases e
 ·cases e
theorem N6{T s m:Nat}{x:C}{new:List C}(f:Wf h)(e:De T s x new m h=some (c,h')):Gd h h':=by
 unfold De at e;split at e
 ·split at e
  ·simp only[an,aR]at e;obtain⟨_,rfl⟩:=e;exact Gd.refl f
  ·simp only[an,aR]at e;obtain⟨_,rfl⟩:=e;exact Gd.refl f
  ·cases e
 ·split at e
  ·split at e
   ·obtain⟨h1,e1,e2⟩:=aF e;simp only[aR]at e2;obtain⟨_,rfl⟩:=e2;exact ni f e1
   ·cases e
  ·split at e
   ·next hb=>
    split at e
    ·cases e
    ·split at e
     ·obtain⟨l',_,e2⟩:=aF e;simp only[aR]at e2;obtain⟨_,rfl⟩:=e2;exact kF f (bH hb)
     ·split at e
      ·obtain⟨old,_,e⟩:=aJ e;split at e
       ·obtain⟨h1,e1,e2⟩:=aF e;simp only[aR]at e2;obtain⟨_,rfl⟩:=e2;exact ni f e1
       ·split at e
        ·obtain⟨h1,e1,e2⟩:=aF e;simp only[aR]at e2;obtain⟨_,rfl⟩:=e2;have g:=kF (b:=none) f (bH hb);exact g.trans (ni g.wf e1)
        ·cases e
      ·cases e
   ·cases e
  ·cases e
def fj(rec:Rec):Prop:=∀f args h c h',rec (.call f args h)=some (.val c h')->Wf h->Gd h h'
theorem ri{rec:Rec}(hr:fj rec){x:X}(f:Wf h)(e:xR rec x tm h=some (c,h')):Gd h h':=by
 unfold xR at e;split at e
 ·obtain⟨d,_,e2⟩:=aF e;simp only[aR]at e2;obtain⟨_,rfl⟩:=e2;exact Gd.refl f
 ·obtain⟨d,e1,e2⟩:=aF e;simp only[aR]at e2;obtain⟨_,rfl⟩:=e2;exact Lz f e1
 ·unfold Kc at e;obtain⟨⟨new,m⟩,_,e⟩:=aJ e;exact N6 f e
 ·split at e
  ·split at e
   ·obtain⟨h1,e1,e2⟩:=aF e;simp only[aR]at e2;obtain⟨_,rfl⟩:=e2;exact ni f e1
   ·cases e
  ·cases e
 ·split at e
  ·next ec=>
   simp only[an,aR]at e;obtain⟨rfl,rfl⟩:=e;exact hr _ _ _ _ _ ec f
  ·cases e
 ·cases e
theorem Va(hv:HV P A ρ w tm a o)(t:Rel P A ρ w h)(hd:Dj A h h'){ty tn e:TypeId}{x y:Operand}{m:Nat}{i:TypeInfo}{z:List C}{kn:IntKind}(ho:o.op= .call {callee:=.builtin .append,args:=#[x,y],argTypes:=#[ty,tn]})(hu:P.underlying ty=some (.slice e))(hn:P.underlying tn=some (.int kn))(hi:P.info? e=some i)(hz:zOf P e=some z)(hby:i.bytes<=100000)(h0:0<i.size)
  (hx:(aU x).ev tm= .sc (.slice none 0 0)) (hy:je ((aU y).ev tm)=some (m+1)) (hm:m+1<=1000000) (hnew:h.new (.cells e (mX z (m+1)))=some h'):ME P A ρ w h ((execOp a.eval o).run P w) (.sl h.next 0 (m+1) (m+1) false) h':=by
 have hX:=hv x se;have hY:=hv y se;unfold OpV at hX hY;rw[hx]at hX;simp only[VR]at hX;obtain⟨kq,hyv⟩:=iP hy hY;obtain⟨i',zv,z1,z2,z3,z4⟩:=nI hz;rw[hi]at z1;simp only[an]at z1;subst z1;have hse:dh P e=some i.size:=by unfold dh;rw[hi,cw]
 have hb1:(m+1)*i.bytes<=1000000*100000:=cv hm hby
 have hr:=Lib.run_append_grow_zeros (P:=P) w ty tn o.type e i zv kq kn hu hn hi z2 none 0 0 [] (run_firstCells_none (P:=P) w.drew i.size 0 0 0) (m+1) aa h0 aa aa aa (growslice_fits aa (by rw[bn];omega));rw[bn]at hr;have hge:=grownCap_ge w (m+1) 0 e;have hzz:∀n,(Builtin.zeroCells zv.cells n)=madeCells zv.cells (n*zv.cells.size):=fun n=>rfl;have hzc:∀n,(Builtin.zeroCells zv.cells n).size=n*i.size:=fun n=>by rw[size_zeroCells,z3]
 have hl:VCs P A ρ w (mX z (m+1)) (Builtin.zeroCells zv.cells (m+1)).toList:=by rw[hzz];exact pK (z4 _ _ _) (m+1)
 have hne:(Builtin.zeroCells zv.cells (m+1)).toList≠[]:=fun e2=>by
  have:=ke List.length e2;rw[cf,hzc,iI]at this;have:=qk (show 0<m+1 by omega) h0;omega
 have hel:(([]:List Value).toArray++Builtin.zeroCells zv.cells (m+1)++Builtin.zeroCells zv.cells (grownCap w (m+1) 0 e-(m+1))).toList=(Builtin.zeroCells zv.cells (m+1)).toList++(Builtin.zeroCells zv.cells (grownCap w (m+1) 0 e-(m+1))).toList:=by simp
 have hp:=nS (r:=w.heap.size) t hnew hd (kP w _ e) (af _) aK (fun A' ρ' mo h1 h2=>xG w _ e mo (kP w _ e) hel hl hne);refine⟨_,_,_,.inl ?_,hp,qB (.inr ⟨af _,by have:=(dF hnew).1;omega⟩) (by unfold at';rw[ak rfl];rfl) (heap_alloc_new w.drew _) hse hge (grownCap_le_maxLen w (m+1) 0 e qW) ?_⟩
 ·rw[<-hX.1,<-hyv]at hr;unfold execOp;rw[ho];simp[resolve,invoke,builtin,hr]
 ·rw[tQ,tQ,hzc,hzc];simp only[mS,iI,bn];rw[<-cq];congr 1;omega
theorem Gv{op:Op}{x:X}(hc:aZ P op=some x)(hT:x.isT=false):(∃ty y,op= .load ty y)\/(∃ty y v,op= .store ty y v)\/∃cl,op= .call cl:=by
 cases hop:op with
 |load ty y=>exact .inl ⟨ty,y,rfl⟩
 |store ty y v=>exact .inr (.inl ⟨ty,y,v,rfl⟩)
 |call cl=>exact .inr (.inr ⟨cl,rfl⟩)
 |move y=>rw[hop]at hc;simp only[aZ,an]at hc;subst hc;simp[X.isT]at hT
 |assign y=>rw[hop]at hc;simp only[aZ,an]at hc;subst hc;simp[X.isT]at hT
 |pick y y1 y2=>rw[hop]at hc;simp only[aZ,an]at hc;subst hc;simp[X.isT]at hT
 |box t y=>rw[hop]at hc;simp only[aZ,an]at hc;subst hc;simp[X.isT]at hT
 |unOp op t y=>rw[hop]at hc;simp only[aZ,an]at hc;subst hc;simp[X.isT]at hT
 |extract y i=>rw[hop]at hc;simp only[aZ,an]at hc;subst hc;simp[X.isT]at hT
 |nilCheck y=>rw[hop]at hc;simp only[aZ,an]at hc;subst hc;simp[X.isT]at hT
 |alloc t=>rw[hop]at hc;simp only[aZ]at hc;obtain⟨_,_,rfl⟩:=aF hc;simp[X.isT]at hT
 |build t ps=>
  rw[hop]at hc;simp only[aZ]at hc;split at hc
  ·split at hc
   ·obtain⟨_,_,hc⟩:=aJ hc;obtain⟨_,_,rfl⟩:=aF hc;simp[X.isT]at hT
   ·cases hc
  ·obtain⟨_,_,hc⟩:=aJ hc;obtain⟨_,_,hc⟩:=aJ hc;obtain⟨_,_,rfl⟩:=aF hc;simp[X.isT]at hT
  ·cases hc
 |buildSlice t n ps=>
  rw[hop]at hc;simp only[aZ]at hc;split at hc
  ·obtain⟨_,_,hc⟩:=aJ hc;obtain⟨_,_,hc⟩:=aJ hc;split at hc
   ·obtain⟨_,_,rfl⟩:=aF hc;simp[X.isT]at hT
   ·cases hc
  ·cases hc
 |binOp op t y y2 t2=>
  rw[hop]at hc;simp only[aZ]at hc;split at hc
  ·simp only[an]at hc;subst hc;simp[X.isT]at hT
  ·split at hc
   ·simp only[an]at hc;subst hc;simp[X.isT]at hT
   ·simp only[an]at hc;subst hc;simp[X.isT]at hT
   ·cases hc
  ·split at hc
   ·simp only[an]at hc;subst hc;simp[X.isT]at hT
   ·simp only[an]at hc;subst hc;simp[X.isT]at hT
   ·cases hc
  ·cases hc
 |convert t1 t2 y=>
  rw[hop]at hc;simp only[aZ]at hc;split at hc
  ·simp only[an]at hc;subst hc;simp[X.isT]at hT
  ·cases hc
 |makeFunc f first cs=>
  rw[hop]at hc
  cases f with
  |func g=>
   simp only[aZ]at hc;split at hc
   ·simp only[an]at hc;subst hc;simp[X.isT]at hT
   ·cases hc
  |_=>simp[aZ]at hc
 |makeSlice t y y2=>
  rw[hop]at hc;simp only[aZ]at hc;split at hc
  ·obtain⟨_,_,hc⟩:=aJ hc;obtain⟨_,_,hc⟩:=aJ hc;split at hc
   ·simp only[an]at hc;subst hc;simp[X.isT]at hT
   ·cases hc
  ·cases hc
 |slice t y lo hi mx=>
  rw[hop]at hc;simp only[aZ]at hc;split at hc
  ·split at hc
   ·cases hc
   ·obtain⟨_,_,rfl⟩:=aF hc;simp[X.isT]at hT
  ·cases hc
 |fieldAddr t y i=>
  rw[hop]at hc;simp only[aZ]at hc;split at hc
  ·obtain⟨_,_,hc⟩:=aJ hc;obtain⟨_,_,hc⟩:=aJ hc;split at hc
   ·cases hc
   ·simp only[an]at hc;subst hc;simp[X.isT]at hT
  ·cases hc
 |field t y i=>
  rw[hop]at hc;simp only[aZ]at hc;split at hc
  ·obtain⟨_,_,hc⟩:=aJ hc;obtain⟨_,_,hc⟩:=aJ hc;obtain⟨_,_,rfl⟩:=aF hc;simp[X.isT]at hT
  ·cases hc
 |indexAddr t y i=>
  rw[hop]at hc;simp only[aZ]at hc;split at hc
  ·obtain⟨_,_,rfl⟩:=aF hc;simp[X.isT]at hT
  ·obtain⟨_,_,rfl⟩:=aF hc;simp[X.isT]at hT
  ·cases hc
 |index t y i=>
  rw[hop]at hc;simp only[aZ]at hc;split at hc
  ·obtain⟨_,_,hc⟩:=aJ hc;obtain⟨_,_,rfl⟩:=aF hc;simp[X.isT]at hT
  ·simp only[an]at hc;subst hc;simp[X.isT]at hT
  ·cases hc
 |_=>rw[hop]at hc;simp[aZ]at hc
theorem Kb{rec:Rec}{x:X}(hc:aZ P o.op=some x)(hT:x.isT=false)(hnc:∀f l,x≠ .cal f l)(hx:xR rec x tm h=some (c,h'))(hv:HV P A ρ w tm a o)(t:Rel P A ρ w h)(hd:Dj A h h'):ME P A ρ w h ((execOp a.eval o).run P w) c h':=by
 cases hop:o.op with
 |load ty y=>
  rw[hop]at hc;simp only[aZ]at hc;obtain⟨s,e1,hc⟩:=aJ hc;obtain⟨r,e2,rfl⟩:=aF hc;simp only[xR]at hx;obtain⟨d,e3,e4⟩:=aF hx;simp only[aR]at e4;obtain⟨rfl,rfl⟩:=e4;exact U9 hv t hop e2 e1 e3
 |store ty y v=>
  rw[hop]at hc;simp only[aZ]at hc;obtain⟨s,e1,rfl⟩:=aF hc;simp only[xR]at hx;obtain⟨d,e3,e4⟩:=aF hx;simp only[aR]at e4;obtain⟨rfl,rfl⟩:=e4;exact(Ts hv t hop e1 e3).1
 |call cl=>
  obtain⟨callee,args,argTypes⟩:=cl;rw[hop]at hc
  cases callee with
  |value f=>
   simp only[aZ,an]at hc;subst hc;exact absurd rfl (hnc _ _)
  |invoke r m=>simp[aZ]at hc
  |builtin b=>
   simp only[aZ]at hc;split at hc
   ·split at hc
    ·simp only[an]at hc;subst hc;simp[X.isT]at hT
    ·simp only[an]at hc;subst hc;simp[X.isT]at hT
    ·cases hc
   ·simp only[an]at hc;subst hc;simp[X.isT]at hT
   ·simp only[an]at hc;subst hc;simp[X.isT]at hT
   ·next y y2 ty tn ha ht=>
    have ha':args= #[y,y2]:=cQ.1 ha;have ht':argTypes= #[ty,tn]:=cQ.1 ht;subst ha';subst ht';split at hc
    ·next e e' hu hu'=>
     split at hc
     ·cases hc
     ·next hb=>
      have hb':ty=tn:=by simpa using hb
      subst hb';obtain⟨i,e1,hc⟩:=aJ hc;obtain⟨z,e2,hc⟩:=aJ hc;split at hc
      ·next hcc=>
       simp only[dV]at hcc;simp only[an]at hc;subst hc;simp only[xR]at hx;exact(m_app hv t hd hop hu e1 rfl e2 (fD hcc.1) (by simpa[bs]using hcc.2) hx).1
      ·cases hc
    ·next e kn hu hu'=>
     obtain⟨i,e1,hc⟩:=aJ hc;obtain⟨z,e2,hc⟩:=aJ hc;split at hc
     ·next hcc=>
      simp only[dV]at hcc;simp only[an]at hc;subst hc;simp only[xR]at hx;split at hx
      ·next m hx1 hx2=>
       split at hx
       ·next hm=>
        obtain⟨h1,e3,e4⟩:=aF hx;simp only[aR]at e4;obtain⟨rfl,rfl⟩:=e4;exact Va hv t hd hop hu hu' e1 e2 (fD hcc.1) (by simpa[bs]using hcc.2) hx1 hx2 (fD hm) e3
       ·cases hx
      ·cases hx
     ·cases hc
    ·cases hc
   ·split at hc
    ·simp only[an]at hc;subst hc;simp[X.isT]at hT
    ·cases hc
   ·cases hc
 |_=>
  exfalso;rcases Gv hc hT with⟨_,_,e⟩|⟨_,_,_,e⟩|⟨_,e⟩<;>(rw[hop]at e;cases e)
end CI
end
section
open Go.RowKit
namespace CI
variable {P : Program} {A : Nat->Prop} {ρ : Nat->Nat} {w : World} {tm tm' : Tm} {a : Act} {o : Oper} {c : C} {h h' h'' : H} {rec : Rec}
def AS(P:Program)(fv:Value)(vs:Array Value)(w:World)(R:Ending->World->Prop):Prop:=
 ∃d,(Deferred.ofValue fv vs).run P w= .ok d w/\((∃f args,(invoke d.target d.args).run P w= .ok (.enter f args) w/\CallsIn Fence.wide 0 P f args w R)\/
  ∃l f tmps s b,fv= .func (.yield l) #[] #[]/\(invoke d.target d.args).run P w= .ok (.round l f tmps s b) w/\RoundIn Fence.wide 0 P l f tmps s b w R)
def jH(P:Program)(A:Nat->Prop)(ρ:Nat->Nat)(w:World)(h:H)(c:C)(h':H):Ending->World->Prop:=fun e w'=>∃u ρ',e= .returned u/\cP P A ρ w h ρ' w' h'/\VR P (Ext A h h') ρ' w' c u
def nD(P:Program)(rec:Rec):Prop:=∀f args h c h',rec (.call f args h)=some (.val c h')->Wf h->∀A ρ w fv vs,Rel P A ρ w h->Dj A h h'->VR P A ρ w f fv->VRl P A ρ w args vs.toList->
 AS P fv vs w (jH P A ρ w h c h')
def FC(F:Fence):Prop:=F=Fence.wide\/∃l,F=Fence.wide.inRound l
theorem FC.fn{F:Fence}(hF:FC F)(f:FuncId):F.fn f:=by rcases hF with rfl|⟨l,rfl⟩<;>trivial
theorem FC.depth{F:Fence}(hF:FC F):F.depth.isSome=true->1<=0:=by rcases hF with rfl|⟨l,rfl⟩<;>(intro e;cases e)
theorem FC.calls{F:Fence}(hF:FC F){f:FuncId}{args:Array Value}{w:World}{R:Ending->World->Prop}(h:CallsIn Fence.wide 0 P f args w R):CallsIn F 0 P f args w R:=by
 rcases hF with rfl|⟨l,rfl⟩
 ·exact h
 ·exact CallsIn.inRound l h
theorem FC.round{F:Fence}(hF:FC F){l:Nat}{f:FuncId}{tmps:Array Value}{s b:Code}{w:World}{R:Ending->World->Prop}(h:RoundIn Fence.wide 0 P l f tmps s b w R):RoundIn F 0 P l f tmps s b w R:=by
 rcases hF with rfl|⟨l,rfl⟩
 ·exact h
 ·exact h
theorem qJ(hc:∃x,aZ P o.op=some x)(cl:Call):o.op≠ .defer cl:=fun e=>by
 obtain⟨x,hc⟩:=hc;rw[e]at hc;simp[aZ]at hc
theorem t_me{x:X}{ob:Option B}(hc:aZ P o.op=some x)(hT:x.isT=true)(hx:xT x tm h.next=some (c,ob))(hb:h.nB ob=some h')(hv:HV P A ρ w tm a o)(t:Rel P A ρ w h)(hd:Dj A h h'):ME P A ρ w h ((execOp a.eval o).run P w) c h':=by
 obtain⟨u,w',hr,hk⟩:=N5 hc hT hx hv
 cases ob with
 |none=>
  simp only[H.nB,an]at hb;subst hb;obtain⟨rfl,hu⟩:=hk;exact⟨u,w',ρ,.inl hr,cP.refl t,VR.mo ⟨fun _ hk=>.inl hk,fun _ _=>rfl⟩ (Lt.refl _) _ _ hu⟩
 |some b=>
  obtain⟨hbl,hlt,hk⟩:=hk;have hp:=nS t hb hd hbl (af _) hlt (fun A' ρ' m e1 e2=>(hk A' ρ' m e1 e2).1);refine⟨u,w',_,.inl hr,hp,(hk _ _ (hp.mo hd) DP (.inr ⟨af _,?_⟩)).2⟩;have:=(dF hb).1;omega
theorem KC{F:Fence}(hF:FC F){next:Act->World->Prop}{Q:Exit->Act->World->Prop}(hnd:∀cl,o.op≠ .defer cl)(hm:ME P A ρ w h ((execOp a.eval o).run P w) c h')
  (hn:∀u w' ρ',cP P A ρ w h ρ' w' h'->VR P (Ext A h h') ρ' w' c u->next (a.put o.dst u) w'):o.wpIn F 0 P a w next Q:=by
 refine⟨fun f _=>hF.fn f,?_⟩;rw[Oper.semAt_eq F.round a.eval o hnd];obtain⟨u,w',ρ',hr|⟨hr,rfl⟩,hp,hu⟩:=hm
 ·rw[hr,Oper.uponIn_value];exact hn u w' ρ' hp hu
 ·rw[hr,Oper.uponIn_skip];exact hn undef w' ρ' hp hu
theorem T9{F:Fence}(hF:FC F){next:Act->World->Prop}{Q:Exit->Act->World->Prop}{f:Operand}{args:Array Operand}{ts:Array TypeId}(ho:o.op= .call {callee:= .value f,args:=args,argTypes:=ts})
  (hk:AS P (a.eval f) (args.map a.eval) w (jH P A ρ w h c h'))
  (hn:∀u w' ρ',cP P A ρ w h ρ' w' h'->VR P (Ext A h h') ρ' w' c u->next (a.put o.dst u) w'):o.wpIn F 0 P a w next Q:=by
 refine⟨fun f _=>hF.fn f,?_⟩;rw[Oper.semAt_eq F.round a.eval o (fun cl e=>by rw[ho]at e;cases e)];obtain⟨d,hd,hk⟩:=hk;have hE:(execOp a.eval o).run P w=(invoke d.target d.args).run P w:=by
  unfold execOp;rw[ho];simp only[resolve,Sem.run_bind,hd,Result.andThen_ok]
 rw[hE]
 have hpost : ∀ e w', jH P A ρ w h c h' e w' -> (match e, w' with
     | .returned v,w''=>next (a.put o.dst v) w''
     | .panicked chain,w''=>Q (.panic chain) a w''
     | .outgrown,_=>LetsOut Q):=fun e w' ⟨u,ρ',e1,hp,hu⟩=>by
  subst e1;exact hn u w' ρ' hp hu
 rcases hk with⟨g,as',hr,hk⟩|⟨l,g,tmps,s,b,_,hr,hk⟩
 ·rw[hr,Oper.uponIn_enter];exact⟨hF.depth,(hF.calls hk).mono hpost⟩
 ·rw[hr,Oper.uponIn_round];exact⟨hF.depth,(hF.round hk).mono hpost⟩
theorem r_wp(hrec:nD P rec){F:Fence}(hF:FC F){next:Act->World->Prop}{Q:Exit->Act->World->Prop}{x:X}(hc:aZ P o.op=some x)(hT:x.isT=false)(hx:xR rec x tm h=some (c,h'))(f:Wf h)(hv:HV P A ρ w tm a o)(t:Rel P A ρ w h)(hd:Dj A h h')
  (hn:∀u w' ρ',cP P A ρ w h ρ' w' h'->VR P (Ext A h h') ρ' w' c u->next (a.put o.dst u) w'):o.wpIn F 0 P a w next Q:=by
 by_cases hcal:∃g l,x= .cal g l
 ·obtain⟨g,l,rfl⟩:=hcal;have hop:∃f args ts,o.op= .call {callee:=.value f,args:=args,argTypes:=ts}/\g=aU f/\l=rT args.toList:=by
   cases hop:o.op with
   |call cl=>
    obtain⟨callee,args,argTypes⟩:=cl;rw[hop]at hc
    cases callee with
    |value f=>
     simp only[aZ,an,X.cal.injEq]at hc;exact⟨f,args,argTypes,rfl,hc.1.symm,hc.2.symm⟩
    |invoke r m=>simp[aZ]at hc
    |builtin b=>
     exfalso;simp only[aZ]at hc;split at hc
     ·split at hc<;>simp at hc
     ·simp at hc
     ·simp at hc
     ·split at hc
      ·split at hc
       ·cases hc
       ·obtain⟨_,_,hc⟩:=aJ hc;obtain⟨_,_,hc⟩:=aJ hc;split at hc<;>simp at hc
      ·obtain⟨_,_,hc⟩:=aJ hc;obtain⟨_,_,hc⟩:=aJ hc;split at hc<;>simp at hc
      ·cases hc
     ·split at hc<;>simp at hc
     ·cases hc
   |store ty y v=>
    exfalso;rw[hop]at hc;simp only[aZ]at hc;obtain⟨_,_,hc⟩:=aF hc;cases hc
   |load ty y=>
    exfalso;rw[hop]at hc;simp only[aZ]at hc;obtain⟨_,_,hc⟩:=aJ hc;obtain⟨_,_,hc⟩:=aF hc;cases hc
   |_=>
    exfalso;rcases Gv hc hT with⟨_,_,e⟩|⟨_,_,_,e⟩|⟨_,e⟩<;>(rw[hop]at e;cases e)
  obtain⟨f',args,ts,hop,rfl,rfl⟩:=hop;simp only[xR]at hx;split at hx
  ·next e=>
   simp only[an,aR]at hx;obtain⟨rfl,rfl⟩:=hx;refine T9 hF hop ?_ hn;refine hrec _ _ _ _ _ e f A ρ w _ _ t hd (hv f' (by rw[hop];simp[Op.operands,Call.operands])) ?_;rw[Array.toList_map];exact Bb tm a _ fun y hy=>hv y (by rw[hop];simp[Op.operands,Call.operands];exact .inr (by simpa using hy))
  ·cases hx
 ·exact KC hF (qJ ⟨x,hc⟩) (Kb hc hT (fun g l e=>hcal ⟨g,l,e⟩) hx hv t hd) hn
end CI
end
section
open Go.RowKit
namespace CI
variable {P : Program} {A A' : Nat->Prop} {ρ ρ' : Nat->Nat} {w w' : World} {tm tm' : Tm} {a : Act} {o : Oper} {c : C} {h h' h'' : H} {rec : Rec} {n : Nat} {ds : List Nat}
def wj(ρ:Nat->Nat)(k:Nat):Deferred:={target:=.collected (ρ k),args:=#[]}
structure Fr(P:Program)(A:Nat->Prop)(ρ:Nat->Nat)(w:World)(n:Nat)(ds:List Nat)(tm:Tm)(a:Act):Prop where
 tr:TR P A ρ w tm a.tmps
 sz:a.tmps.size=n
 nm:∀k∈ds,A k
 df:a.defers=ds.map (wj ρ)
theorem Fr.mo(m:Mo A A' ρ ρ')(k:Lt w w')(f:Fr P A ρ w n ds tm a):Fr P A' ρ' w' n ds tm a:=
 ⟨f.tr.mo m k,f.sz,fun j hj=>m.sub j (f.nm j hj),f.df.trans (jh fun j hj=>by unfold wj;rw[m.eq j (f.nm j hj)])⟩
theorem An{t u:Nat}(ht:t<1000000)(tm:Tm)(c:C):CO.ev (T.put 24 tm t (some c)) (CO.t u)=if u=t then c else CO.ev tm (CO.t u):=by
 simp only[CO.ev,T.yE ht];split
 ·next e=>split at e<;>simp_all
 ·next e=>split at e<;>simp_all
theorem TR.put{tmps:Array Value}{t:Nat}{v:Value}(h:TR P A ρ w tm tmps)(ht:t<tmps.size)(hb:t<1000000)(hv:VR P A ρ w c v):TR P A ρ w (T.put 24 tm t (some c)) (tmps.setIfInBounds t v):=fun u=>by
 rw[An hb];by_cases e:u=t
 ·rw[ak e];subst e;rw[cV,sQ];simp[ht];exact hv
 ·rw[ah e,cV,sQ,ah (fun e2=>e e2.symm),<-cV];exact h u
theorem Fr.put{dst:Option Nat}{v:Value}(f:Fr P A ρ w n ds tm a)(hn:n<1000000)(hd:dc n dst=true)(hv:VR P A ρ w c v):Fr P A ρ w n ds (kG tm dst c) (a.put dst v):=by
 cases dst with
 |none=>exact f
 |some t=>
  have ht:t<n:=by simpa[dc,bs]using hd
  exact⟨f.tr.put (by rw[f.sz];exact ht) aa hv,by simp[Act.put,f.sz],f.nm,f.df⟩
theorem Fr.hv(f:Fr P A ρ w n ds tm a)(o:Oper):HV P A ρ w tm a o:=fun y _=>f.tr.op y
theorem wh{draw:Bool}{ops:Array Oper}{acc l:List Oper}{ps:List Nat}{r:List RO}(e:iD P n draw ops acc (o::l) ps=some r):
  ∃ p ps' g r', ps = p :: ps' /\ dc n o.dst = true /\ (draw = true -> ua ops o p acc 0 = true /\ lp acc.length o.after.toList = true) /\ (match o.guard with
      |none=>some none
      |some (j,b)=>((ops[j]?).bind (·.dst)).map fun t=>some (t,b))=some g/\iD P n draw ops (acc++[o]) l ps'=some r'/\r=⟨o.dst,g,(match aZ P o.op with|some x=>x|none=> .bad),p⟩::r':=by
 cases ps with
 |nil=>simp[iD]at e
 |cons p ps'=>
  simp only[iD]at e;split at e
  ·cases e
  ·next hb=>
   obtain⟨g,e1,e⟩:=aJ e;obtain⟨r',e2,e3⟩:=aF e;simp only[zh,vq,Bool.not_eq_false',dV]at hb;exact⟨p,ps',g,r',rfl,hb.2,fun hd=>hb.1.resolve_left (by simp[hd]),e1,e2,e3.symm⟩
theorem Dd{x:X}(e:x=(match aZ P o.op with|some x=>x|none=>.bad))(hT:x.isT=false\/x≠ .bad):aZ P o.op=some x:=by
 cases hc:aZ P o.op with
 |some y=>rw[hc]at e;rw[e]
 |none=>
  rw[hc]at e;subst e;rcases hT with hT|hT
  ·simp[X.isT]at hT
  ·exact absurd rfl hT
theorem Ly{tm:Tm}{next:Nat}:xT .bad tm next=none:=rfl
theorem tY{ops:Array Oper}{g:Option (Nat×Bool)}{x:X}{p:Nat}{b:Bool}(hg:(match o.guard with
   |none=>some none
   |some (j,b)=>((ops[j]?).bind (·.dst)).map fun t=>some (t,b))=some g) (hw:lg ⟨o.dst,g,x,p⟩ tm=some b)
  (hv:∀t c,g=some (t,c)->VR P A ρ w (CO.ev tm (CO.t t)) (a.tmps.getD t undef)):Region.wanted o (yielded ops a.tmps)=b:=by
 unfold Region.wanted
 cases ho:o.guard with
 |none=>
  rw[ho]at hg;simp only[an]at hg;subst hg;simp only[lg,an]at hw;exact hw
 |some q=>
  obtain⟨j,bb⟩:=q;rw[ho]at hg;simp only at hg;obtain⟨t,e1,e2⟩:=aF hg;subst e2;simp only[lg]at hw;split at hw
  ·next cc e=>
   simp only[an]at hw;subst hw;have h1:=hv t bb rfl;simp only[CO.ev,e]at h1;have h2:=h1.bool;have h3:a.tmps[t]?=some (.bool cc):=by
    rw[cV]at h2
    cases e3:a.tmps[t]? with
    |none=>rw[e3]at h2;simp[undef]at h2
    |some v=>rw[e3]at h2;simp at h2;rw[h2]
   simp only[yielded,e1];simp[h3];cases bb<;>cases cc<;>rfl
  ·cases hw
theorem xt(hg:fj rec):∀(r:List RO) (tm:Tm) (h:H) (tm':Tm) (h':H),uj rec r tm h=some (tm',h')->Wf h->Gd h h'
 |[],tm,h,tm',h',e,f=>by
  simp only[uj,an,aR]at e;obtain⟨_,rfl⟩:=e;exact Gd.refl f
 |o::l,tm,h,tm',h',e,f=>by
  simp only[uj]at e;split at e
  ·split at e
   ·next c h1 e1=>
    have g1:Gd h h1:=by
     unfold Kd at e1;split at e1
     ·obtain⟨⟨c',b⟩,_,e1⟩:=aJ e1;obtain⟨h2,e2,e3⟩:=aF e1;simp only[aR]at e3;obtain⟨_,rfl⟩:=e3;exact tD f e2
     ·exact ri hg f e1
    exact g1.trans (xt hg l _ _ _ _ e g1.wf)
   ·cases e
  ·exact xt hg l _ _ _ _ e f
  ·cases e
theorem ui(hrec:nD P rec)(hg:fj rec){F:Fence}(hF:FC F){Q:Exit->Act->World->Prop}{ops:Array Oper}{draw:Bool}(hn:n<1000000):∀(l:List Oper) (k:Nat) (acc:List Oper) (ps:List Nat) (r:List RO),(∀(i:Nat) (o:Oper),l[i]?=some o->ops[k+i]?=some o)->iD P n draw ops acc l ps=some r->
  ∀(tm:Tm) (h:H) (tm':Tm) (h':H) (A:Nat->Prop) (ρ:Nat->Nat) (w:World) (a:Act),uj rec r tm h=some (tm',h')->Wf h->Rel P A ρ w h->Dj A h h'->Fr P A ρ w n ds tm a->
  (∀ρ' w' a',cP P A ρ w h ρ' w' h'->Fr P (Ext A h h') ρ' w' n ds tm' a'->Q .normal a' w')->wpOpsIn F 0 P ops Q (List.range' k l.length) a w
 |[],k,acc,ps,r,_,hc,tm,h,tm',h',A,ρ,w,a,e,f,t,hd,hf,hq=>by
  simp only[iD,an]at hc;subst hc;simp only[uj,an,aR]at e;obtain⟨rfl,rfl⟩:=e;exact hq ρ w a (cP.refl t) (hf.mo ⟨fun _ hk=>.inl hk,fun _ _=>rfl⟩ (Lt.refl w))
 |o::l,k,acc,ps,r,hl,hc,tm,h,tm',h',A,ρ,w,a,e,f,t,hd,hf,hq=>by
  obtain⟨p,ps',g,r',rfl,h1,_,h2,h3,rfl⟩:=wh hc;have hk:ops[k]?=some o:=by simpa using hl 0 o rfl
  have hl':∀(i:Nat) (o':Oper),l[i]?=some o'->ops[k+1+i]?=some o':=fun i o' hi=>by
   have:=hl (i+1) o' (by simpa using hi);rwa[show k+(i+1)=k+1+i by omega]at this
  simp only[im,List.range'_succ,wpOpsIn,hk];simp only[uj]at e;split at e
  ·next hw=>
   have hw':=tY h2 hw (fun u b _=>hf.tr u);rw[hw',ak rfl];split at e
   ·next c h1' e1=>
    have g1:Gd h h1':=by
     unfold Kd at e1;split at e1
     ·obtain⟨⟨c',b⟩,_,e1⟩:=aJ e1;obtain⟨h2,e2,e3⟩:=aF e1;simp only[aR]at e3;obtain⟨_,rfl⟩:=e3;exact tD f e2
     ·exact ri hg f e1
    have g2:=xt hg r' _ _ _ _ e g1.wf;have hd1:=hd.left g2.good.next
    have cont:∀u w' ρ',cP P A ρ w h ρ' w' h1'->VR P (Ext A h h1') ρ' w' c u->wpOpsIn F 0 P ops Q (List.range' (k+1) l.length) (a.put o.dst u) w':=fun u w' ρ' hp hu=>
     ui hrec hg hF hn l (k+1) _ ps' r' hl' h3 _ h1' tm' h' (Ext A h h1') ρ' w' _ e g1.wf hp.rel (hd.right g1.good.next) ((hf.mo (hp.mo hd1) hp.lt).put hn h1 hu) (fun ρ2 w2 a2 hp2 hf2=>
      hq ρ2 w2 a2 (hp.trans g1.good hp2 g2.good) (hf2.mo (Mo.ext g1.good.next g2.good.next _) (Lt.refl _)))
    unfold Kd at e1;split at e1
    ·next hT=>
     obtain⟨⟨c',b⟩,e2,e1⟩:=aJ e1;obtain⟨h2',e3,e4⟩:=aF e1;simp only[aR]at e4;obtain⟨rfl,rfl⟩:=e4;have hcc:=Dd rfl (.inr fun e5=>by rw[e5,Ly]at e2;cases e2);exact KC hF (qJ ⟨_,hcc⟩) (t_me hcc hT e2 e3 (hf.hv o) t hd1) cont
    ·next hT=>
     have hcc:=Dd rfl (.inl hT);exact r_wp hrec hF hcc hT e1 f (hf.hv o) t hd1 cont
   ·cases e
  ·next hw=>
   have hw':=tY h2 hw (fun u b _=>hf.tr u);rw[hw',ah aK];refine⟨fun g _=>hF.fn g,?_⟩;exact ui hrec hg hF hn l (k+1) _ ps' r' hl' h3 _ h tm' h' A ρ w _ e f t hd (hf.put hn h1 (by simp only[VR])) hq
  ·cases e
end CI
end
section
open Go.RowKit
namespace CI
variable {P : Program} {A A' : Nat->Prop} {ρ ρ' : Nat->Nat} {w w' : World} {tm tm' : Tm} {a : Act} {o : Oper} {c : C} {h h' h'' : H} {rec : Rec} {n : Nat} {ds : List Nat}
theorem kL(pre k:Nat):∀(iv:List (Nat×Nat×Nat)) (f:List (Nat×Nat)),ep k (ku pre iv f)=false->ep k f=false
 |[],f,h=>h
 |(i,x,y)::l,f,h=>by
  simp only[ku]at h;split at h
  ·exact kL pre k l f h
  ·simp only[ep]at h;split at h
   ·split at h
    ·cases h
    ·exact kL pre k l f h
   ·exact kL pre k l f h
def H.part(h:H)(pre:Nat)(iv:List (Nat×Nat×Nat)):H:=⟨h.next,h.next,ku pre iv h.forb,h.t⟩
theorem um{pre:Nat}{iv:List (Nat×Nat×Nat)}{k:Nat}{b:B}(e:(h.part pre iv).get k=some b):h.get k=some b:=by
 unfold H.get at e⊢;split at e
 ·cases e
 ·next hf=>rw[kL pre k iv h.forb hf];exact e
theorem nN{pre:Nat}{iv:List (Nat×Nat×Nat)}(f:Wf h):Wf (h.part pre iv):=⟨f.bd,f.lt⟩
def H.whole(h h':H):H:=⟨h'.next,(match Nat.blt h'.low h.low with|true=>h'.low|false=>h.low),h.forb,h'.t⟩
theorem B9(h h':H):(h.whole h').low<=h.low/\(h.whole h').low<=h'.low:=by
 show(match Nat.blt h'.low h.low with|true=>h'.low|false=>h.low)<=h.low/\(match Nat.blt h'.low h.low with|true=>h'.low|false=>h.low)<=h'.low;split
 ·next e=>
  have:h'.low<h.low:=by simpa[bs]using e
  exact⟨bO this,af _⟩
 ·next e=>
  have:¬h'.low<h.low:=by intro e2;rw[<-bs]at e2;rw[e2]at e;cases e
  exact⟨af _,by omega⟩
theorem BA{pre:Nat}{iv:List (Nat×Nat×Nat)}(g:Gd (h.part pre iv) h'):Gd h (h.whole h'):=by
 obtain⟨l1,l2⟩:=B9 h h';refine⟨⟨g.wf.bd,g.wf.lt⟩,⟨g.good.next,l1,rfl,fun k hk hl=>g.good.keep k hk (aS hl l2),fun k hk hd=>g.good.dead k hk fun hl=>hd ?_⟩⟩;obtain⟨b,e⟩:=cU.1 hl;exact bH (um e)
theorem Cg{o:RO}{l:List RO}{j:Nat}{iv:List (Nat×Nat×Nat)}{rw:List (Nat×Bool)}(e:jY rec (o::l) j iv rw tm h=some (tm',h')):
  (lg o tm=some false/\jY rec l (j+1) iv rw (kG tm o.dst .any) h=some (tm',h'))\/
  (lg o tm=some true/\o.x.isT=true/\∃c ob h1,xT o.x tm h.next=some (c,ob)/\h.nB ob=some h1/\jY rec l (j+1) (match ob with|none=>iv|some _=>(j,h.next,h1.next)::iv) rw (kG tm o.dst c) h1=some (tm',h'))\/
  (lg o tm=some true/\o.x.isT=false/\∃c h1,xR rec o.x tm (h.part o.pre iv)=some (c,h1)/\uP o.pre (Nat.blt h1.low h.next) rw=false/\
   jY rec l (j+1) (match Nat.blt h.next h1.next with|true=>(j,h.next,h1.next)::iv|false=>iv) ((j,Nat.blt h1.low h.next)::rw) (kG tm o.dst c) (h.whole h1)=some (tm',h')):=by
 simp only[jY]at e;split at e
 ·next hw=>
  split at e
  ·next hT=>
   split at e
   ·next c e1=>exact .inr (.inl ⟨hw,hT,c,none,h,e1,rfl,e⟩)
   ·next c b e1=>
    split at e
    ·next h1 e2=>exact .inr (.inl ⟨hw,hT,c,some b,h1,e1,e2,e⟩)
    ·cases e
   ·cases e
  ·next hT=>
   split at e
   ·next c h1 e1=>
    split at e
    ·cases e
    ·next hcl=>exact .inr (.inr ⟨hw,hT,c,h1,e1,hcl,e⟩)
   ·cases e
 ·next hw=>exact .inl ⟨hw,e⟩
 ·cases e
theorem xu(hg:fj rec):∀(r:List RO) (j:Nat) (iv:List (Nat×Nat×Nat)) (rw:List (Nat×Bool)) (tm:Tm) (h:H) (tm':Tm) (h':H),jY rec r j iv rw tm h=some (tm',h')->Wf h->Gd h h'
 |[],j,iv,rw,tm,h,tm',h',e,f=>by
  simp only[jY,an,aR]at e;obtain⟨_,rfl⟩:=e;exact Gd.refl f
 |o::l,j,iv,rw,tm,h,tm',h',e,f=>by
  rcases Cg e with⟨_,e⟩|⟨_,_,c,ob,h1,_,e2,e⟩|⟨_,_,c,h1,e1,_,e⟩
  ·exact xu hg l _ _ _ _ _ _ _ e f
  ·have g1:=tD f e2;exact g1.trans (xu hg l _ _ _ _ _ _ _ e g1.wf)
  ·have g1:=BA (ri hg (nN f) e1);exact g1.trans (xu hg l _ _ _ _ _ _ _ e g1.wf)
def GI(P:Program)(rec:Rec):Prop:=∀(F:Fence) (_:FC F) (Q:Exit->Act->World->Prop) (ops:Array Oper) (id n:Nat) (_:n<1000000) (r:List RO) (_:iD P n true ops [] ops.toList (lY ops.toList [])=some r)
 (tm:Tm) (h:H) (tm':Tm) (h':H) (_:jY rec r 0 [] [] tm h=some (tm',h')) (_:Wf h) (A:Nat->Prop) (ρ:Nat->Nat) (w:World) (a:Act) (ds:List Nat) (_:Rel P A ρ w h) (_:Dj A h h') (_:Fr P A ρ w n ds tm a)
 (_:∀ρ' w' a',cP P A ρ w h ρ' w' h'->Fr P (Ext A h h') ρ' w' n ds tm' a'->Q .normal a' w'),(Code.region id ops true).wpIn F 0 P Q a w
end CI
end
section
open Go.RowKit
namespace CI
variable {P : Program} {h h' h'' : H} {rec : Rec} {E : Env}
def wA(rec:Rec):Prop:=∀cc tm ds rd h e tm' ds' h',rec (.code cc tm ds rd h)=some (.code e tm' ds' h')->Wf h->Gd h h'
theorem rV:∀(ds:List Nat) (h h':H),lH ds h=some h'->Wf h->Gd h h'
 |[],h,h',e,f=>by simp only[lH,an]at e;subst e;exact Gd.refl f
 |k::l,h,h',e,f=>by
  simp only[lH]at e;split at e
  ·next hb=>
   have g:=kF (b:=some (.defd false)) f (bH hb);exact g.trans (rV l _ _ e g.wf)
  ·cases e
theorem It{l:Nat}{e:Ex}{c:C}(hh:F8 l e h=some (c,h'))(f:Wf h):Gd h h':=by
 unfold F8 at hh;split at hh
 ·next hb=>
  split at hh<;>(simp only[an,aR]at hh;obtain⟨_,rfl⟩:=hh;exact kF f (bH hb))
 ·cases hh
theorem Ua(hr:fj rec)(hc:wA rec):fj (body E rec)/\wA (body E rec):=by
 constructor
 ·intro f args h c h' e fh;simp only[body]at e;split at e
  ·split at e
   ·obtain⟨_,_,e2⟩:=aF e;simp only[Out.val.injEq]at e2;obtain⟨_,rfl⟩:=e2;exact Gd.refl fh
   ·split at e
    ·split at e
     ·cases e
     ·split at e
      ·next e1=>
       have g1:=hc _ _ _ _ _ _ _ _ _ e1 fh;split at e
       ·cases e
       ·obtain⟨h2,e2,e⟩:=aJ e;obtain⟨rs,e3,e4⟩:=aF e;simp only[Out.val.injEq]at e4;obtain⟨_,rfl⟩:=e4;exact g1.trans (rV _ _ _ e2 g1.wf)
      ·cases e
    ·cases e
  ·split at e
   ·split at e
    ·split at e
     ·next e1=>
      have g1:=hc _ _ _ _ _ _ _ _ _ e1 fh;split at e
      ·next hb=>
       split at e
       ·next e2=>
        have g0:=hc _ _ _ _ _ _ _ _ _ e2 (kF g1.wf (bH hb)).wf;have g3:=g1.trans ((kF g1.wf (bH hb)).trans g0);obtain⟨⟨c',h3⟩,e3,e4⟩:=aF e;simp only[Out.val.injEq]at e4;obtain⟨_,rfl⟩:=e4;exact g3.trans (It e3 g3.wf)
       ·cases e
      ·cases e
     ·cases e
    ·cases e
   ·cases e
  ·cases e
 ·intro cc tm ds rd h e tm' ds' h' ee fh
  cases cc with
  |skip=>simp only[body,an,Out.code.injEq]at ee;obtain⟨_,_,_,rfl⟩:=ee;exact Gd.refl fh
  |ret=>simp only[body,an,Out.code.injEq]at ee;obtain⟨_,_,_,rfl⟩:=ee;exact Gd.refl fh
  |exit id=>simp only[body,an,Out.code.injEq]at ee;obtain⟨_,_,_,rfl⟩:=ee;exact Gd.refl fh
  |seq a b=>
   simp only[body]at ee;split at ee
   ·next e1=>
    have g1:=hc _ _ _ _ _ _ _ _ _ e1 fh;exact g1.trans (hc _ _ _ _ _ _ _ _ _ ee g1.wf)
   ·exact hc _ _ _ _ _ _ _ _ _ ee fh
  |cond c a b=>
   simp only[body]at ee;split at ee
   ·exact hc _ _ _ _ _ _ _ _ _ ee fh
   ·exact hc _ _ _ _ _ _ _ _ _ ee fh
   ·cases ee
  |block id c=>
   simp only[body]at ee;split at ee
   ·next e1=>
    have g1:=hc _ _ _ _ _ _ _ _ _ e1 fh;split at ee<;>(simp only[an,Out.code.injEq]at ee;obtain⟨_,_,_,rfl⟩:=ee;exact g1)
   ·exact hc _ _ _ _ _ _ _ _ _ ee fh
  |loop c=>
   simp only[body]at ee;split at ee
   ·next e1=>
    have g1:=hc _ _ _ _ _ _ _ _ _ e1 fh;exact g1.trans (hc _ _ _ _ _ _ _ _ _ ee g1.wf)
   ·exact hc _ _ _ _ _ _ _ _ _ ee fh
  |reg draw ops=>
   simp only[body]at ee;split at ee
   ·next e1=>
    simp only[an,Out.code.injEq]at ee;obtain⟨_,rfl,_,rfl⟩:=ee;split at e1
    ·exact xu hr _ _ _ _ _ _ _ _ e1 fh
    ·exact xt hr _ _ _ _ _ e1 fh
   ·cases ee
  |rng f ps a b=>
   simp only[body]at ee;split at ee
   ·next d ds1 h1 e1=>
    have g1:Gd h h1:=by
     split at e1
     ·split at e1
      ·simp only[an,aR]at e1;obtain⟨_,_,rfl⟩:=e1;exact Gd.refl fh
      ·cases e1
     ·obtain⟨h2,e2,e3⟩:=aF e1;simp only[aR]at e3;obtain⟨_,_,rfl⟩:=e3;exact ni fh e2
    split at ee
    ·next h2 e2=>
     have g2:=g1.trans (ni g1.wf e2);split at ee
     ·next e3=>
      split at e3
      ·next g caps _=>
       have g3:=g2.trans (hr _ _ _ _ _ e3 g2.wf);split at ee
       ·cases ee
       ·next hb=>
        simp only[an,Out.code.injEq]at ee;obtain⟨_,_,_,rfl⟩:=ee;exact g3.trans (kF g3.wf (bH hb))
       ·cases ee
      ·cases e3
     ·cases ee
    ·cases ee
   ·cases ee
theorem td(E:Env):∀n,fj (run E n)/\wA (run E n)
 |0=>⟨fun _ _ _ _ _ e=>by simp[run]at e,fun _ _ _ _ _ _ _ _ _ e=>by simp[run]at e⟩
 |n+1=>Ua (td E n).1 (td E n).2
end CI
end
section
open Go.RowKit
namespace CI
variable {P : Program} {A A' : Nat->Prop} {ρ ρ' : Nat->Nat} {w w' : World} {tm tm' : Tm} {a : Act} {c : C} {h h' h'' : H} {rec : Rec} {E : Env} {n : Nat} {ds ds' : List Nat}
def exM:Ex->Exit->Prop
 | .norm,.normal=>True
 | .ret,.ret=>True
 | .exit i,.exit j=>i=j
 |_,_=>False
def kS(P:Program)(A:Nat->Prop)(ρ:Nat->Nat)(w:World)(h:H)(n:Nat)(e:Ex)(tm':Tm)(ds':List Nat)(h':H):Exit->Act->World->Prop:=fun e' a' w'=>
 exM e e'/\∃ρ',cP P A ρ w h ρ' w' h'/\Fr P (Ext A h h') ρ' w' n ds' tm' a'
def fc(rd:Option Nat)(ρ:Nat->Nat):Fence:=match rd with|none=>Fence.wide|some l=>Fence.wide.inRound (ρ l)
theorem RR(rd:Option Nat)(ρ:Nat->Nat):FC (fc rd ρ):=by
 cases rd with
 |none=>exact .inl rfl
 |some l=>exact .inr ⟨_,rfl⟩
theorem RQ{rd:Option Nat}(h:∀l,rd=some l->ρ' l=ρ l):fc rd ρ'=fc rd ρ:=by
 cases rd with
 |none=>rfl
 |some l=>simp only[fc,h l rfl]
def qQ(P:Program)(rec:Rec):Prop:=∀cc tm ds rd h e tm' ds' h',rec (.code cc tm ds rd h)=some (.code e tm' ds' h')->Wf h->∀n c A ρ w a,comp P n c=some cc->n<1000000->Rel P A ρ w h->Dj A h h'->Fr P A ρ w n ds tm a->(∀l,rd=some l->A l)->
 c.wpIn (fc rd ρ) 0 P (kS P A ρ w h n e tm' ds' h') a w
theorem Av{h1:H}{ρ1:Nat->Nat}{w1:World}{e:Ex}{e':Exit}{a':Act}(p:cP P A ρ w h ρ1 w1 h1)(g:Gd h h1)(g':Gd h1 h')(q:kS P (Ext A h h1) ρ1 w1 h1 n e tm' ds' h' e' a' w'):kS P A ρ w h n e tm' ds' h' e' a' w':=by
 obtain⟨h1,ρ2,hp,hf⟩:=q;exact⟨h1,ρ2,p.trans g.good hp g'.good,hf.mo (Mo.ext g.good.next g'.good.next _) (Lt.refl _)⟩
theorem Fr.ext(f:Fr P A ρ w n ds tm a):Fr P (Ext A h h') ρ w n ds tm a:=f.mo ⟨fun _ hk=>.inl hk,fun _ _=>rfl⟩ (Lt.refl w)
theorem GQ{F:Fence}{m:Nat}{c:Code}{Q:Exit->Act->World->Prop}(I:Nat->Act->World->Prop){k:Nat}(h₀:I k a w)
  (round:∀k a w,I k a w->c.wpIn F m P (Exit.then (fun a' w'=>∃k',k'<k/\I k' a' w') Q) a w):(Code.loop c).wpIn F m P Q a w:=by
 intro b kk cs hro hb hr
 have key : ∀ j a w, I j a w ->
     ∃e a' w',Q e a' w'/\ArrivesIn (Machine.fenced P F) P (lone (b.atR a (.code c:: .inLoop c::kk)) cs w) b kk cs e a' w':=by
  intro j
  induction j using Nat.strongRecOn with
  |_ j ih=>
   intro a w hI;obtain⟨e,a₁,w₁,hq,harr⟩:=round j a w hI b (.inLoop c::kk) cs hro hb hr
   cases e with
   |normal=>
    obtain⟨k',hlt,hI₁⟩:=hq;obtain⟨e₂,a₂,w₂,hq₂,harr₂⟩:=ih k' hlt a₁ w₁ hI₁;exact⟨e₂,a₂,w₂,hq₂, .of_steps (StepsIn.trans harr (.one (fenced_calm hb hr rfl) stepR_inLoop)) harr₂⟩
   |exit id=>exact⟨_,a₁,w₁,hq, .pass (x:= .inLoop c) rfl (fun _ _=> .inl aK) harr⟩
   |goto l=>exact⟨_,a₁,w₁,hq, .pass (x:= .inLoop c) rfl (fun _ _=> .inl aK) harr⟩
   |ret=>exact⟨_,a₁,w₁,hq, .pass (x:= .inLoop c) rfl (fun _ _=> .inl aK) harr⟩
   |panic ch=>exact⟨_,a₁,w₁,hq, .pass (x:= .inLoop c) rfl (fun _ _=> .inl aK) harr⟩
   |outgrown=>exact⟨_,a₁,w₁,hq, .pass (x:= .inLoop c) rfl (fun _ _=> .inl aK) harr⟩
 obtain⟨e,a',w',hq,harr⟩:=key k a w h₀;exact⟨e,a',w',hq, .of_steps (.one (fenced_calm hb hr rfl) stepR_loop) harr⟩
theorem uH{e':Exit}(h:exM .norm e'):e'= .normal:=by cases e'<;>simp[exM]at h⊢
theorem sY{h1:H}{e:Ex}{F:Fence}{c:Code}{tm1:Tm}{ds1:List Nat}{K:Act->World->Prop}{Q:Exit->Act->World->Prop}(hw:c.wpIn F 0 P (kS P A ρ w h n e tm1 ds1 h1) a w)
  (hk:e= .norm->∀ρ1 w1 a1,cP P A ρ w h ρ1 w1 h1->Fr P (Ext A h h1) ρ1 w1 n ds1 tm1 a1->K a1 w1) (hq:e≠ .norm->∀e' a1 w1,kS P A ρ w h n e tm1 ds1 h1 e' a1 w1->Q e' a1 w1):c.wpIn F 0 P (Exit.then K Q) a w:=by
 refine wpIn_mono hw fun e' a1 w1 hp=>?_
 cases e with
 |norm=>
  obtain⟨h1,ρ1,hp,hf⟩:=hp;rw[uH h1];exact hk rfl ρ1 w1 a1 hp hf
 |ret=>
  have hp':=hp;obtain⟨h1,_⟩:=hp;cases e'<;>simp[exM]at h1;exact hq aK _ _ _ hp'
 |exit i=>
  have hp':=hp;obtain⟨h1,_⟩:=hp;cases e'<;>simp[exM]at h1;exact hq aK _ _ _ hp'
theorem T5{N:Nat}(hR:∀m,m<=N->nD P (run E m))(hC:∀m,m<=N->qQ P (run E m))(hD:∀m,m<=N->GI P (run E m))(hrng:∀f ps x y cc tm ds rd h e tm' ds' h',run E (N+1) (.code cc tm ds rd h)=some (.code e tm' ds' h')->Wf h->∀n A ρ w a,comp P n (.rangeFunc f ps x y)=some cc->n<1000000->Rel P A ρ w h->Dj A h h'->Fr P A ρ w n ds tm a->(∀l,rd=some l->A l)->(Code.rangeFunc f ps x y).wpIn (fc rd ρ) 0 P (kS P A ρ w h n e tm' ds' h') a w):qQ P (run E (N+1)):=by
 intro cc tm ds rd h e tm' ds' h' ee fh n c A ρ w a hcc hn t hd hf hrd;have hFC:=RR rd ρ;have gd:=fun m=>td E m
 cases c with
 |skip=>
  simp only[comp,an]at hcc;subst hcc;simp only[run,body,an,Out.code.injEq]at ee;obtain⟨rfl,rfl,rfl,rfl⟩:=ee;exact wpIn_skip ⟨trivial,ρ,cP.refl t,hf.ext⟩
 |label l=>
  simp only[comp,an]at hcc;subst hcc;simp only[run,body,an,Out.code.injEq]at ee;obtain⟨rfl,rfl,rfl,rfl⟩:=ee;exact wpIn_label ⟨trivial,ρ,cP.refl t,hf.ext⟩
 |ret=>
  simp only[comp,an]at hcc;subst hcc;simp only[run,body,an,Out.code.injEq]at ee;obtain⟨rfl,rfl,rfl,rfl⟩:=ee;exact wpIn_ret ⟨trivial,ρ,cP.refl t,hf.ext⟩
 |exit id=>
  simp only[comp,an]at hcc;subst hcc;simp only[run,body,an,Out.code.injEq]at ee;obtain⟨rfl,rfl,rfl,rfl⟩:=ee;exact wpIn_exit ⟨rfl,ρ,cP.refl t,hf.ext⟩
 |goto l=>simp[comp]at hcc
 |scope x=>simp[comp]at hcc
 |refuse s=>simp[comp]at hcc
 |seq x y=>
  simp only[comp]at hcc;obtain⟨cx,e1,hcc⟩:=aJ hcc;obtain⟨cy,e2,rfl⟩:=aF hcc;simp only[run,body]at ee;split at ee
  ·next tm1 ds1 h1 e3=>
   have g1:=(gd N).2 _ _ _ _ _ _ _ _ _ e3 fh;have g2:=(gd N).2 _ _ _ _ _ _ _ _ _ ee g1.wf;refine wpIn_seq (sY (hC N (af _) _ _ _ _ _ _ _ _ _ e3 fh n x A ρ w a e1 hn t (hd.left g2.good.next) hf hrd) (fun _ ρ1 w1 a1 hp hf1=>?_) (fun he=>absurd rfl he));have hfc:fc rd ρ1=fc rd ρ:=RQ fun l hl=>(hp.mo (hd.left g2.good.next)).eq l (hrd l hl);rw[<-hfc];exact wpIn_mono (hC N (af _) _ _ _ _ _ _ _ _ _ ee g1.wf n y _ ρ1 w1 a1 e2 hn hp.rel (hd.right g1.good.next) hf1 (fun l hl=>.inl (hrd l hl))) fun e' a' w' q=>Av hp g1 g2 q
  ·next hne=>
   refine wpIn_seq (sY (hC N (af _) _ _ _ _ _ _ _ _ _ ee fh n x A ρ w a e1 hn t hd hf hrd) (fun he=>?_) (fun _ e' a1 w1 q=>q));subst he;exact absurd ee (hne _ _ _)
 |cond x y z=>
  simp only[comp]at hcc;obtain⟨cx,e1,hcc⟩:=aJ hcc;obtain⟨cy,e2,rfl⟩:=aF hcc;have hx:=hf.tr.op x;unfold OpV at hx;simp only[run,body]at ee;split at ee
  ·next e3=>
   rw[e3]at hx;exact wpIn_cond_true hx.bool (hC N (af _) _ _ _ _ _ _ _ _ _ ee fh n y A ρ w a e1 hn t hd hf hrd)
  ·next e3=>
   rw[e3]at hx;exact wpIn_cond_false hx.bool (hC N (af _) _ _ _ _ _ _ _ _ _ ee fh n z A ρ w a e2 hn t hd hf hrd)
  ·cases ee
 |block id x=>
  simp only[comp]at hcc;obtain⟨cx,e1,rfl⟩:=aF hcc;simp only[run,body]at ee;refine wpIn_block ?_;split at ee
  ·next i tm1 ds1 h1 e3=>
   split at ee
   ·next hi=>
    have hi':=eZ hi;simp only[an,Out.code.injEq]at ee;obtain⟨rfl,rfl,rfl,rfl⟩:=ee;refine wpIn_mono (hC N (af _) _ _ _ _ _ _ _ _ _ e3 fh n x A ρ w a e1 hn t hd hf hrd) fun e' a' w' q=>?_;obtain⟨q1,q2⟩:=q;cases e'<;>simp[exM]at q1;subst q1;simp only[Exit.inBlock,hi',if_true];exact⟨trivial,q2⟩
   ·next hi=>
    have hi':=zo hi;simp only[an,Out.code.injEq]at ee;obtain⟨rfl,rfl,rfl,rfl⟩:=ee;refine wpIn_mono (hC N (af _) _ _ _ _ _ _ _ _ _ e3 fh n x A ρ w a e1 hn t hd hf hrd) fun e' a' w' q=>?_;obtain⟨q1,q2⟩:=q;cases e'<;>simp[exM]at q1;subst q1;simp only[Exit.inBlock,hi',if_false];exact⟨rfl,q2⟩
  ·next hne=>
   refine wpIn_mono (hC N (af _) _ _ _ _ _ _ _ _ _ ee fh n x A ρ w a e1 hn t hd hf hrd) fun e' a' w' q=>?_
   cases e with
   |norm=>have:=uH q.1;subst this;exact q
   |ret=>
    have q1:=q.1;cases e'<;>simp[exM]at q1;exact q
   |exit i=>exact absurd ee (hne _ _ _ _)
 |loop x=>
  simp only[comp]at hcc;obtain⟨cx,e1,rfl⟩:=aF hcc;refine GQ (fun k a1 w1=>k<=N+1/\∃tm1 ds1 h1 ρ1,run E k (.code (.loop cx) tm1 ds1 rd h1)=some (.code e tm' ds' h')/\Gd h h1/\cP P A ρ w h ρ1 w1 h1/\Fr P (Ext A h h1) ρ1 w1 n ds1 tm1 a1) (k:=N+1) ⟨af _,tm,ds,h,ρ,ee,Gd.refl fh,cP.refl t,hf.ext⟩ ?_;rintro k a1 w1 ⟨hk,tm1,ds1,h1,ρ1,er,g1,p1,f1⟩
  cases k with
  |zero=>simp[run]at er
  |succ k=>
   have hkN:k<=N:=by omega
   have gEnd:=(gd (k+1)).2 _ _ _ _ _ _ _ _ _ er g1.wf;have hd1:=hd.right g1.good.next
   have hfc:fc rd ρ1=fc rd ρ:=RQ fun l hl=>(p1.mo (hd.left gEnd.good.next)).eq l (hrd l hl);simp only[run,body]at er;rw[<-hfc];split at er
   ·next tm2 ds2 h2 e3=>
    have g2:=(gd k).2 _ _ _ _ _ _ _ _ _ e3 g1.wf;have g3:=(gd k).2 _ _ _ _ _ _ _ _ _ er g2.wf;refine sY (hC k hkN _ _ _ _ _ _ _ _ _ e3 g1.wf n x _ ρ1 w1 a1 e1 hn p1.rel (hd1.left g3.good.next) f1 (fun l hl=>.inl (hrd l hl))) (fun _ ρ2 w2 a2 hp hf2=>⟨k,by omega,by omega,tm2,ds2,h2,ρ2,er,g1.trans g2,p1.trans g1.good hp g2.good,hf2.mo (Mo.ext g1.good.next g2.good.next _) (Lt.refl _)⟩) (fun he=>absurd rfl he)
   ·next hne=>
    have g2:=(gd k).2 _ _ _ _ _ _ _ _ _ er g1.wf;refine sY (hC k hkN _ _ _ _ _ _ _ _ _ er g1.wf n x _ ρ1 w1 a1 e1 hn p1.rel hd1 f1 (fun l hl=>.inl (hrd l hl))) (fun he=>?_) (fun _ e' a2 w2 q=>Av p1 g1 g2 q);subst he;exact absurd er (hne _ _ _)
 |region id ops draw=>
  simp only[comp]at hcc;obtain⟨r,e1,rfl⟩:=aF hcc;simp only[run,body]at ee;split at ee
  ·next tm1 h1 e2=>
   simp only[an,Out.code.injEq]at ee;obtain⟨rfl,rfl,rfl,rfl⟩:=ee
   cases draw with
   |true=>exact hD N (af _) (fc rd ρ) hFC _ ops id n hn r e1 tm h tm1 h1 e2 fh A ρ w a ds t hd hf (fun ρ' w' a' hp hf'=>⟨trivial,ρ',hp,hf'⟩)
   |false=>
    refine wpIn_region ?_;rw[List.range_eq_range'];have:=ui (hR N (af _)) (gd N).1 hFC (Q:=kS P A ρ w h n .norm tm1 ds h1) (ops:=ops) hn ops.toList 0 [] _ r (fun i o hi=>by rw[bn];simpa using hi) e1 tm h tm1 h1 A ρ w a e2 fh t hd hf (fun ρ' w' a' hp hf'=>⟨trivial,ρ',hp,hf'⟩);simpa using this
  ·cases ee
 |rangeFunc f ps x y=>exact hrng f ps x y cc tm ds rd h e tm' ds' h' ee fh n A ρ w a hcc hn t hd hf hrd
end CI
end
section
open Go.RowKit
namespace CI
variable {P : Program} {A A' : Nat->Prop} {ρ ρ' : Nat->Nat} {w w' : World} {tm tm' : Tm} {a : Act} {c : C} {h h' h'' : H} {rec : Rec} {E : Env} {n : Nat} {ds ds' : List Nat}
theorem sC(w:World)(o:Obj):Below w.heap.size w (w.alloc o):=(Below.refl _ _).alloc (af _) _
theorem zR{r:Nat}{o:Obj}(h:w.heap[r]?=some o)(ho:∀c e f,o≠ .cells c e f):NW w r:=fun m e=>by
 unfold World.cell? at e;rw[h]at e;cases o<;>simp at e;exact absurd rfl (ho _ _ _)
theorem ru{r:Nat}{o:Obj}(h:w.heap[r]?=some o)(ho:∀c e f,o≠ .cells c e f):w.shape? r=none:=by
 unfold World.shape?;rw[h];cases o<;>first|rfl|exact absurd rfl (ho _ _ _)
theorem uq{k:Nat}{b b0:B}{o o':Obj}(t:Rel P A ρ w h)(hb:h.get k=some b0)(ho:w.heap[ρ k]?=some o)(hoc:∀c e f,o≠ .cells c e f)(hB:BR P A ρ (w.putObj (ρ k) o') (ρ k) b):cP P A ρ w h ρ (w.putObj (ρ k) o') (h.set k (some b)):=by
 refine EL t (bH hb) ⟨rfl,rfl,rfl,by simp,fun j _ hj=>World.putObj_heap_other hj⟩ (zR ho hoc) (fun s hs=>?_) hB;rw[ru ho hoc]at hs;cases hs
theorem OY{N:Nat}(hR:nD P (run E N)):∀f ps x y cc tm ds rd h e tm' ds' h',run E (N+1) (.code cc tm ds rd h)=some (.code e tm' ds' h')->Wf h->∀n A ρ w a,comp P n (.rangeFunc f ps x y)=some cc->n<1000000->Rel P A ρ w h->Dj A h h'->Fr P A ρ w n ds tm a->(∀l,rd=some l->A l)->(Code.rangeFunc f ps x y).wpIn (fc rd ρ) 0 P (kS P A ρ w h n e tm' ds' h') a w:=by
 intro f ps x y cc tm ds rd h e tm' ds' h' ee fh n A ρ w a hcc hn t hd hf hrd;have hFC:=RR rd ρ;simp only[comp]at hcc;split at hcc
 ·cases hcc
 next hall=>
 obtain⟨ca,c1,hcc⟩:=aJ hcc;obtain⟨cb,c2,rfl⟩:=aF hcc;have hps:∀u∈ps.toList,u<n:=fun u hu=>by
  have:=du.1 hall u hu;simpa[bs]using this
 simp only[run,body]at ee;split at ee
 case h_2=>cases ee
 next d ds1 h1 e1=>
 split at ee
 case h_2=>cases ee
 next h2 e2=>
 split at ee
 case h_2=>cases ee
 next c3 h3 e3=>
 split at e3
 case h_2=>cases e3
 next g caps ef=>
 split at ee
 ·cases ee
 case h_3=>cases ee
 next st p tm2 ps2 a2 b2 d2 hst hb3=>
 simp only[an,Out.code.injEq]at ee;obtain⟨rfl,rfl,rfl,rfl⟩:=ee;have g1:Gd h h1:=by
  split at e1
  ·split at e1
   ·simp only[an,aR]at e1;obtain⟨_,_,rfl⟩:=e1;exact Gd.refl fh
   ·cases e1
  ·obtain⟨hx,ex,e3x⟩:=aF e1;simp only[aR]at e3x;obtain⟨_,_,rfl⟩:=e3x;exact ni fh ex
 have g2:=ni g1.wf e2;have g3:=(td E N).1 _ _ _ _ _ e3 g2.wf;have g4:=kF (b:=some (B.loop .vP p tm2 ps2 a2 b2 d2)) g3.wf (bH hb3);have hd1:Dj A h h1:=hd.left (aH g2.good.next (aH g3.good.next g4.good.next));have hd2:Dj (Ext A h h1) h1 h2:=(hd.right g1.good.next).left (aH g3.good.next g4.good.next);have hd3:Dj (Ext (Ext A h h1) h1 h2) h2 h3:=((hd.right g1.good.next).right g2.good.next).left g4.good.next
 have key:∃ρ1 w1 mark,cP P A ρ w h ρ1 w1 h1/\Ext A h h1 d/\(∀fn,(Instr.enterLoop fn a.tmps ps x y (fc rd ρ).round).run P w= .ok (w1.heap.size,mark) (w1.alloc (.loop ⟨.ready,none,fn,a.tmps,ps,x,y,ρ1 d⟩)))/\mark++a.defers=ds1.map (wj ρ1)/\∀k∈ds1,Ext A h h1 k:=by
  cases rd with
  |none=>
   obtain⟨h1',k1,k2⟩:=aF e1;simp only[aR]at k2;obtain⟨rfl,rfl,rfl⟩:=k2;have hB:∀A' ρ',Mo A A' ρ ρ'->ρ' h.next=w.heap.size->A' h.next->BR P A' ρ' (w.alloc (.deferred (some []))) w.heap.size (.defd true):=fun A' ρ' _ _ _=>heap_alloc_new w _
   have hp:=nS t k1 hd1 (sC w (.deferred (some []))) (af _) aK hB;have hnx:Ext A h h1' h.next:=.inr ⟨af _,by have:=(dF k1).1;omega⟩
   have hat:at' ρ h.next w.heap.size h.next=w.heap.size:=by unfold at';rw[ak rfl]
   refine⟨_,w.alloc (.deferred (some [])),[{target:=.collected w.heap.size,args:=#[]}],hp,hnx,fun fn=>?_,?_,fun k hk=>?_⟩
   ·have:=run_enterLoop_outer (P:=P) (w:=w) fn a.tmps ps x y;rw[hat];show(Instr.enterLoop fn a.tmps ps x y none).run P w=_;rw[this];simp
   ·rw[eL,hf.df];simp only[List.singleton_append,wj,hat,List.cons.injEq,true_and];exact jh fun k hk=>by unfold wj;rw[(hp.mo hd1).eq k (hf.nm k hk)]
   ·rcases bP.1 hk with rfl|hk
    ·exact hnx
    ·exact .inl (hf.nm k hk)
  |some l=>
   simp only at e1;split at e1
   ·next st' p' tmx psx ax bx dx hbl=>
    simp only[an,aR]at e1;obtain⟨rfl,rfl,rfl⟩:=e1;obtain⟨_,_,_,hA,fn',tmps',a',b',hh,_⟩:=t.blk l _ hbl;refine⟨ρ,w,[],cP.refl t,.inl hA,fun fn=>?_,by rw[gj,hf.df],fun k hk=>.inl (hf.nm k hk)⟩;show(Instr.enterLoop fn a.tmps ps x y (some (ρ l))).run P w=_;unfold Instr.enterLoop;simp only[Sem.run_bind,run_getLoop hh,Result.andThen_ok,run_newObj_alloc,Sem.run_pure]
   ·cases e1
 obtain⟨ρ1,w1,mark,p1,hAd,henter,hmark,hds1⟩:=key;have hf1:=hf.mo (p1.mo hd1) p1.lt;refine wpIn_rangeFunc fun fn _=>?_;have hB:∀A' ρ',Mo (Ext A h h1) A' ρ1 ρ'->ρ' h1.next=w1.heap.size->A' h1.next->BR P A' ρ' (w1.alloc (.loop ⟨.ready,none,fn,a.tmps,ps,x,y,ρ1 d⟩)) w1.heap.size (.loop .ready .norm tm ps.toList ca cb d):=fun A' ρ' m _ _=>
  ⟨m.sub d hAd,fn,a.tmps,x,y,by rw[m.eq d hAd];exact heap_alloc_new w1 _,hf1.tr.mo m (Lt.below (sC w1 _)),by rw[hf.sz];exact c1,by rw[hf.sz];exact c2,by rw[hf.sz];exact hn,fun u hu=>by rw[hf.sz];exact hps u hu⟩
 have p2:=nS p1.rel e2 hd2 (sC w1 (.loop ⟨.ready,none,fn,a.tmps,ps,x,y,ρ1 d⟩)) (af _) aK hB;have hL:at' ρ1 h1.next w1.heap.size h1.next=w1.heap.size:=by unfold at';rw[ak rfl]
 have hAL:Ext (Ext A h h1) h1 h2 h1.next:=.inr ⟨af _,by have:=(dF e2).1;omega⟩
 have hfv:=hf.tr.op f;unfold OpV at hfv;rw[ef]at hfv;have hfv2:=VR.mo (p2.mo hd2) p2.lt _ _ (VR.mo (p1.mo hd1) p1.lt _ _ hfv);have hcall:=hR _ _ _ _ _ e3 g2.wf _ _ _ _ #[.func (.yield w1.heap.size) #[] #[]] p2.rel hd3 hfv2 (by
  simp only[VRl,VR];exact⟨_,[],rfl,⟨hAL,by rw[hL]⟩,rfl⟩)
 obtain⟨dd,hdd,hk⟩:=hcall;have hk':∃f' args',(invoke dd.target dd.args).run P (w1.alloc (.loop ⟨.ready,none,fn,a.tmps,ps,x,y,ρ1 d⟩))= .ok (.enter f' args') (w1.alloc (.loop ⟨.ready,none,fn,a.tmps,ps,x,y,ρ1 d⟩))/\CallsIn Fence.wide 0 P f' args' (w1.alloc (.loop ⟨.ready,none,fn,a.tmps,ps,x,y,ρ1 d⟩)) (jH P (Ext (Ext A h h1) h1 h2) (at' ρ1 h1.next w1.heap.size) (w1.alloc (.loop ⟨.ready,none,fn,a.tmps,ps,x,y,ρ1 d⟩)) h2 c3 h3):=by
  rcases hk with⟨f',args',q1,q2⟩|⟨l,g',tmps,s,b,q0,_⟩
  ·exact⟨f',args',q1,q2⟩
  ·simp only[VR]at hfv;obtain⟨us,e5,_⟩:=hfv;rw[e5]at q0;cases q0
 obtain⟨f',args',q1,q2⟩:=hk';refine⟨w1.heap.size,mark,_,dd,_,f',args',_,henter fn,?_,fun _ _=>hFC.fn _,q1,hFC.depth,(hFC.calls q2).mono fun e5 w3 hpost=>?_⟩
 ·simp only[resolve,pC,eL,jb];exact hdd
 obtain⟨u,ρ3,rfl,p3,_⟩:=hpost;have hr3:ρ3 h1.next=w1.heap.size:=by rw[p3.rho h1.next (.inl (by have:=(dF e2).1;omega)),hL]
 obtain⟨_,_,_,hAd2,fn',tmps',x',y',hh,hTR,hrest⟩:=p3.rel.blk h1.next _ hb3
 have hnb:Bf st≠ .busy:=fun e=>by
  cases st<;>simp[Bf]at e;exact hst rfl
 have hend:=run_endLoop (P:=P) hh hnb;refine⟨su p,_,by rw[<-hr3];exact hend,?_⟩;have hlt4:Lt w3 (w3.putObj (ρ3 h1.next) (.loop ⟨.exhausted,su p,fn',tmps',ps2.toArray,x',y',ρ3 d2⟩)):=Lt.chg (g:=ρ3 h1.next) ⟨rfl,rfl,rfl,by simp,fun j _ hj=>World.putObj_heap_other hj⟩ (zR hh aK) (fun s hs=>by rw[ru hh aK]at hs;cases hs);have hpo:=uq (o':=.loop ⟨.exhausted,su p,fn',tmps',ps2.toArray,x',y',ρ3 d2⟩) (b:=.loop .vP p tm2 ps2 a2 b2 d2) p3.rel hb3 hh aK ⟨hAd2,fn',tmps',x',y',World.putObj_heap_same (gS.1 hh).1,hTR.mo (Mo.refl _ _) hlt4,hrest⟩;have pAll:=p1.trans g1.good (p2.trans g2.good (p3.trans g3.good hpo g4.good) (g3.good.trans g4.good)) (g2.good.trans (g3.good.trans g4.good));have pT:=p2.trans g2.good (p3.trans g3.good hpo g4.good) (g3.good.trans g4.good);have hdT:Dj (Ext A h h1) h1 (h3.set h1.next (some (.loop .vP p tm2 ps2 a2 b2 d2))):=hd.right g1.good.next
 have hfE:Fr P (Ext A h (h3.set h1.next (some (.loop .vP p tm2 ps2 a2 b2 d2)))) ρ3 (w3.putObj (ρ3 h1.next) (.loop ⟨.exhausted,su p,fn',tmps',ps2.toArray,x',y',ρ3 d2⟩)) n ds1 tm {a with defers:=mark++a.defers}:=by
  have hmo:Mo (Ext A h h1) (Ext A h (h3.set h1.next (some (.loop .vP p tm2 ps2 a2 b2 d2)))) ρ1 ρ3:=⟨fun k hk=>(Ext.trans g1.good.next (aH g2.good.next (aH g3.good.next g4.good.next)) k).1 ((pT.mo hdT).sub k hk),(pT.mo hdT).eq⟩;refine Fr.mo hmo pT.lt ⟨hf1.tr,hf.sz,hds1,hmark⟩
 cases p with
 |norm=>exact⟨trivial,ρ3,pAll,hfE⟩
 |ret=>exact wpIn_ret ⟨trivial,ρ3,pAll,hfE⟩
 |exit id=>exact wpIn_exit ⟨rfl,ρ3,pAll,hfE⟩
end CI
end
section
open Go.RowKit
namespace CI
variable {P : Program} {A A' : Nat->Prop} {ρ ρ' : Nat->Nat} {w w' : World} {tm tm' : Tm} {a : Act} {c : C} {h h' h'' : H} {rec : Rec} {E : Env} {n : Nat} {ds ds' : List Nat}
theorem ev_e(u:Nat):CO.ev (T.e:Tm) (CO.t u)= .any:=by simp[CO.ev,T.Ak]
theorem Am:∀(l:List C) (k:Nat) (tm:Tm) (u:Nat),k+l.length<=1000000->CO.ev (setArgs 24 k l tm) (CO.t u)=if k<=u/\u<k+l.length then(l[u-k]?).getD .any else CO.ev tm (CO.t u)
 |[],k,tm,u,_=>by
  simp only[setArgs,iI,cg];rw[ah aa]
 |c::l,k,tm,u,hk=>by
  simp only[setArgs,im]at hk⊢;rw[Am l (k+1) _ u aa,An aa];by_cases h1:k+1<=u/\u<k+1+l.length
  ·rw[ak h1,ak aa,show u-k=(u-(k+1))+1 by omega,List.getElem?_cons_succ]
  ·rw[ah h1];by_cases h2:u=k
   ·subst h2;rw[ak rfl,ak aa,dH];rfl
   ·rw[ah h2,ah aa]
theorem VRl.len:∀{l:List C} {vs:List Value},VRl P A ρ w l vs->vs.length=l.length
 |[],_,h=>by simp only[VRl]at h;subst h;rfl
 |d::l,vs,h=>by
  simp only[VRl]at h;obtain⟨u,rest,rfl,_,h3⟩:=h;simp[VRl.len h3]
theorem VRl.app{l2:List C}{ys:List Value}(k:VRl P A ρ w l2 ys):∀{l:List C} {xs:List Value},VRl P A ρ w l xs->VRl P A ρ w (l++l2) (xs++ys)
 |[],_,h=>by simp only[VRl]at h;subst h;exact k
 |d::l,xs,h=>by
  simp only[VRl]at h;obtain⟨u,rest,rfl,h2,h3⟩:=h;simp only[wY,VRl];exact⟨u,rest++ys,rfl,h2,VRl.app k h3⟩
theorem Ui{l:List C}{vs:Array Value}(hv:VRl P A ρ w l vs.toList)(hl:l.length<=n)(hn:n<1000000):Fr P A ρ w n [] (setArgs 24 0 l .e) {tmps:=vs++Array.replicate (n-vs.size) undef,defers:=[]}:=by
 have hlen:vs.size=l.length:=by rw[<-hv.len,cf]
 refine⟨fun u=>?_,cX,(fun k hk=>by cases hk),rfl⟩;rw[Am l 0 .e u aa];split
 ·next hu=>
  simp only[bn]at hu;obtain⟨u',k1,k2⟩:=VRl.at hv (aV (show u-0<l.length by omega));rw[kC]at k1⊢;have e:(vs++Array.replicate (n-vs.size) undef).getD u undef=u':=by
   rw[cV,qg aa,<-dG,k1];rfl
  rw[e,aV aa];simpa using k2
 ·rw[ev_e];simp only[VR]
def Dh(tmps:Array Value)(r:ResultVar):Sem Value:=
 match r with
 | .tmp t=>pure (tmps.getD t undef)
 | .cell a t=>do loadVar t (<-asAddr (tmps.getD a undef))
theorem Kp(fn:Func)(tmps:Array Value):Go.results fn tmps=(do
 let vs<-fn.results.mapM (Dh tmps)
 pure (if h:vs.size=1 then vs[0]else .tuple vs)):=rfl
theorem GU{fn:Func}{rvs:List RV}{rs:List C}(hr:ug P fn.results.toList=some rvs)(he:results tm h rvs=some rs)(t:Rel P A ρ w h){tmps:Array Value}(hf:TR P A ρ w tm tmps):∃v,(Go.results fn tmps).run P w= .ok v w/\VR P A ρ w (vL rs) v:=by
 have key:∀(l:List ResultVar) (rvs:List RV) (rs:List C),ug P l=some rvs->results tm h rvs=some rs->∃vs,(l.mapM (m:=Sem) (Dh tmps)).run P w= .ok vs w/\VRl P A ρ w rs vs:=by
  intro l
  induction l with
  |nil=>
   intro rvs rs h1 h2;simp only[ug,an]at h1;subst h1;simp only[results,an]at h2;subst h2;exact⟨[],by simp,by simp only[VRl]⟩
  |cons r l ih=>
   intro rvs rs h1 h2;simp only[ug]at h1;obtain⟨rv,e1,h1⟩:=aJ h1;obtain⟨rvs',e2,rfl⟩:=aF h1
   cases r with
   |tmp u=>
    simp only[rvOf,an]at e1;subst e1;simp only[results]at h2;obtain⟨rs',e3,rfl⟩:=aF h2;obtain⟨vs,k1,k2⟩:=ih _ _ e2 e3;refine⟨tmps.getD u undef::vs,by rw[List.mapM_cons];simp only[Dh,Sem.run_bind,Sem.run_pure,Result.andThen_ok,k1],?_⟩;simp only[VRl];exact⟨_,vs,rfl,hf u,k2⟩
   |cell u ty=>
    simp only[rvOf]at e1;obtain⟨s,e4,e1⟩:=aJ e1;obtain⟨r',e5,rfl⟩:=aF e1;simp only[results]at h2;obtain⟨c,e6,h2⟩:=aJ h2;obtain⟨rs',e3,rfl⟩:=aF h2;obtain⟨vs,k1,k2⟩:=ih _ _ e2 e3;have hu:=hf u;unfold zt at e6;split at e6
    ·next k off e7=>
     rw[e7]at hu;simp only[VR]at hu;split at e6
     ·next T l hb=>
      obtain⟨p,e8,e9⟩:=aJ e6;obtain⟨v,k3,k4⟩:=Ab t hb e8 e9 e5 e4;refine⟨v::vs,?_,?_⟩
      ·have ha:(asAddr (tmps.getD u undef)).run P w= .ok ⟨ρ k,off,none⟩ w:=by rw[hu.2];rfl
       have hrv:(Dh tmps (.cell u ty)).run P w= .ok v w:=by
        show(asAddr (tmps.getD u undef)>>=loadVar ty).run P w=_;rw[Sem.run_bind,ha,Result.andThen_ok,k3]
       rw[List.mapM_cons];simp only[Sem.run_bind,Sem.run_pure,Result.andThen_ok,hrv,k1]
      ·simp only[VRl];exact⟨v,vs,rfl,k4,k2⟩
     ·cases e6
    ·cases e6
 obtain⟨vs,k1,k2⟩:=key _ _ _ hr he;have hrun:(Go.results fn tmps).run P w= .ok (if h:vs.toArray.size=1 then vs.toArray[0]else .tuple vs.toArray) w:=by
  rw[Kp,Array.mapM_eq_mapM_toList];simp only[Sem.run_bind,map_eq_pure_bind,k1,Result.andThen_ok,Sem.run_pure]
 refine⟨_,hrun,?_⟩
 match rs,vs,k2 with
 |[],vs,k2=>
  simp only[VRl]at k2;subst k2;simp only[vL,VR];exact⟨#[],by simp,by simp only[VRl]⟩
 |[c],vs,k2=>
  simp only[VRl]at k2;obtain⟨u,_,rfl,k3,rfl⟩:=k2;simpa[vL]using k3
 |c1::c2::rs,vs,k2=>
  have hl:=k2.len;simp only[vL,VR];refine⟨vs.toArray,?_,by simpa using k2⟩;rw[dif_neg (by simp at hl⊢;omega)]
theorem Gw{F:Fence}{fn:Func}{tmps:Array Value}{R:Ending->World->Prop}:∀(ds:List Nat) (w:World) (h h':H),lH ds h=some h'->Wf h->Rel P A ρ w h->(∀w',cP P A ρ w h ρ w' h'->∃v,(Go.results fn tmps).run P w'= .ok v w'/\R (.returned v) w')->LeavesInM F 0 P fn tmps R (ds.map (wj ρ)) .returning w
 |[],w,h,h',e,_,t,hk=>by
  simp only[lH,an]at e;subst e;exact hk w (cP.refl t)
 |k::l,w,h,h',e,fh,t,hk=>by
  simp only[lH]at e;split at e
  ·next hb=>
   obtain⟨_,_,hlt,hB⟩:=t.blk k _ hb;simp only[BR,if_true]at hB;have hpo:=uq (o':=.deferred none) (b:=.defd false) t hb hB aK (by
    show(w.putObj (ρ k) (.deferred none)).heap[ρ k]?=_;rw[World.putObj_heap_same hlt];rfl)
   have g1:=kF (b:=some (.defd false)) fh (bH hb);have g2:=rV _ _ _ e g1.wf;have hrel:Rel P A ρ (w.putObj (ρ k) (.deferred none)) (h.set k (some (.defd false))):=hpo.rel.mo ⟨fun j hj=>hj.resolve_right (fun q=>by
    have:(h.set k (some (B.defd false))).next=h.next:=rfl
    omega),fun _ _=>rfl⟩ (Lt.refl _) (fun _ _=>rfl)
   simp only[eL];unfold LeavesInM;refine⟨by simp,.inl ⟨ρ k,_,rfl,run_takeDeferred hB,Gw l _ _ h' e g1.wf hrel fun w2 hp=>hk w2 (hpo.trans g1.good ⟨hp.rho,hp.rel.mo ⟨fun j hj=>hj.imp (fun q=>.inl q) id,fun _ _=>rfl⟩ (Lt.refl _) (fun _ _=>rfl),hp.lt,hp.fr,hp.new⟩ g2.good)⟩⟩
  ·cases e
def AH(P:Program)(E:Env):Prop:=∀g f,E.orc g=some f->∀args r,f args=some r->∀A ρ w vs,VRl P A ρ w args vs.toList->
 Enters P g/\Calls P g vs w (fun e w'=>∃u,e= .returned u/\VR P A ρ w' r u/\Below w.heap.size w w')
theorem EM:∀(ps:List Nat) (args:List C) (tm tm2:Tm) (vs:List Value) (tmps:Array Value),ry ps args tm=some tm2->TR P A ρ w tm tmps->VRl P A ρ w args vs->(∀t∈ps,t<tmps.size)->tmps.size<1000000->
  TR P A ρ w tm2 ((ps.zip vs).foldl (fun (tmps:Array Value) (p:Nat×Value)=>tmps.setIfInBounds p.1 p.2) tmps)/\((ps.zip vs).foldl (fun (tmps:Array Value) (p:Nat×Value)=>tmps.setIfInBounds p.1 p.2) tmps).size=tmps.size/\vs.length=ps.length
 |[],[],tm,tm2,vs,tmps,e,hT,hv,_,_=>by
  simp only[ry,an]at e;subst e;simp only[VRl]at hv;subst hv;exact⟨hT,rfl,rfl⟩
 |t::ps,c::args,tm,tm2,vs,tmps,e,hT,hv,hp,hs=>by
  simp only[ry]at e;simp only[VRl]at hv;obtain⟨u,rest,rfl,h2,h3⟩:=hv;have ht:=hp t bF;obtain⟨k1,k2,k3⟩:=EM ps args _ tm2 rest (tmps.setIfInBounds t u) e (hT.put ht aa h2) h3 (fun t' ht'=>by simpa using hp t' (bJ _ ht')) (by simpa using hs);exact⟨k1,by rw[List.zip_cons_cons,List.foldl_cons,k2];simp,by simp[k3]⟩
 |[],_::_,_,_,_,_,e,_,_,_,_=>by simp[ry]at e
 |_::_,[],_,_,_,_,e,_,_,_,_=>by simp[ry]at e
end CI
end
section
open Go.RowKit
namespace CI
variable {P : Program} {A A' : Nat->Prop} {ρ ρ' : Nat->Nat} {w w' : World} {tm tm' : Tm} {a : Act} {c : C} {h h' h'' : H} {rec : Rec} {E : Env} {n : Nat} {ds ds' : List Nat}
theorem KW {g : FuncId} {fn : F} (h : rU P g = some fn) : ∃ f c, P.funcs[g]? = some f ∧ f.body = some c ∧ f.ntmps < 1000000 ∧ (f.name == "runtime.NumGoroutine") = false ∧ comp P f.ntmps c = some fn.body ∧ ug P f.results.toList = some fn.res ∧ fn.ntmps = f.ntmps := by
 unfold rU at h;obtain⟨f,e1,h⟩:=aJ h;obtain⟨c,e2,h⟩:=aJ h;split at h
 ·next hb=>
  simp only[dV,vp]at hb;obtain⟨cc,e3,h⟩:=aJ h;obtain⟨r,e4,rfl⟩:=aF h;exact⟨f,c,e1,e2,by simpa[bs]using hb.1,hb.2,e3,e4,rfl⟩
 ·cases h
theorem vZ{g:FuncId}(hE:Enters P g)(vs us:Array Value)(w:World):∃d,(Deferred.ofValue (.func (.func g) #[] us) vs).run P w= .ok d w/\(invoke d.target d.args).run P w= .ok (.enter g (vs++us)) w:=by
 refine⟨{target:=.fn (.func g) us,args:=#[]++vs},by simp[Deferred.ofValue],?_⟩;have:=hE (vs++us) w;simp[invoke,this]
theorem VR.ext{v:Value}(h:VR P A ρ w c v){h1 h2:H}:VR P (Ext A h1 h2) ρ w c v:=VR.mo ⟨fun _ hk=>.inl hk,fun _ _=>rfl⟩ (Lt.refl _) _ _ h
theorem U1(hO:AH P E){g:FuncId}{o:Orc}{args caps:List C}{r:C}{fv:Value}{vs:Array Value}(he:E.orc g=some o)(hr:o (args++caps)=some r)(t:Rel P A ρ w h)(hv:VR P A ρ w (.fn g caps) fv)(hvs:VRl P A ρ w args vs.toList):AS P fv vs w (jH P A ρ w h r h):=by
 simp only[VR]at hv;obtain⟨us,rfl,hus⟩:=hv;obtain⟨hE,hC⟩:=hO g o he _ r hr A ρ w (vs++us) (by rw[vo];exact VRl.app hus hvs);obtain⟨d,e1,e2⟩:=vZ hE vs us w;refine⟨d,e1,.inl ⟨g,vs++us,e2,callsIn_wide.2 (hC.mono fun e w' ⟨u,h1,h2,h3⟩=>?_)⟩⟩;have hp:=cP.below t h3;exact⟨u,ρ,h1,hp,h2.ext⟩
theorem fn_ok(hC:qQ P rec)(hG:wA rec){g:FuncId}{fn:F}{args caps:List C}{tm1:Tm}{ds1:List Nat}{h1 h2:H}{e:Ex}{rs:List C}{fv:Value}{vs:Array Value}(hf:rU P g=some fn)(hl:(args++caps).length<=fn.ntmps)
  (hr:rec (.code fn.body (setArgs 24 0 (args++caps) .e) [] none h)=some (.code e tm1 ds1 h1)) (hne:∀i,e≠ .exit i) (hcl:lH ds1 h1=some h2) (hrs:results tm1 h2 fn.res=some rs) (fh:Wf h) (t:Rel P A ρ w h) (hd:Dj A h h2) (hv:VR P A ρ w (.fn g caps) fv) (hvs:VRl P A ρ w args vs.toList):AS P fv vs w (jH P A ρ w h (vL rs) h2):=by
 simp only[VR]at hv;obtain⟨us,rfl,hus⟩:=hv;obtain⟨f,c,e1,e2,e3,e4,e5,e6,e7⟩:=KW hf;obtain⟨d,k1,k2⟩:=vZ (enters_of e1 e4 e2) vs us w;have hall:VRl P A ρ w (args++caps) (vs++us).toList:=by rw[vo];exact VRl.app hus hvs
 rw[e7]at hl;have hfr:=Ui hall hl e3;have g1:=hG _ _ _ _ _ _ _ _ _ hr fh;have g2:=rV _ _ _ hcl g1.wf;have hw:=hC _ _ _ _ _ _ _ _ _ hr fh f.ntmps c A ρ w _ e5 e3 t (hd.left g2.good.next) hfr (fun l hl=>by cases hl);refine⟨d,k1,.inl ⟨g,vs++us,k2,callsIn_of_wp_marks e1 e2 trivial (wpIn_mono hw fun e' a' w' q=>?_)⟩⟩;obtain⟨q1,ρ1,p1,f1⟩:=q;have hfin:LeavesInM Fence.wide 0 P f a'.tmps (jH P A ρ w h (vL rs) h2) a'.defers .returning w':=by
  rw[f1.df];refine Gw ds1 w' h1 h2 hcl g1.wf p1.rel fun w2 p2=>?_;have hd2:Dj (Ext A h h1) h1 h2:=hd.right g1.good.next
  have pAll:=p1.trans g1.good p2 g2.good;obtain⟨v,r1,r2⟩:=GU e6 hrs pAll.rel (fun u=>VR.mo (Mo.ext g1.good.next g2.good.next _) (Lt.refl _) _ _ (VR.mo (p2.mo hd2) p2.lt _ _ (f1.tr u)));exact⟨v,r1,v,ρ1,rfl,pAll,r2⟩
 cases e with
 |norm=>rw[uH q1];exact hfin
 |ret=>
  cases e'<;>simp[exM]at q1;exact hfin
 |exit i=>exact absurd rfl (hne i)
theorem yl_ok(hC:qQ P rec)(hG:wA rec){l:Nat}{p0 p1:Ex}{tm0 tm1 tm2 tm3 tm4:Tm}{ps ps1:List Nat}{ca cb a1 b1:CC}{d0 d1:Nat}{args:List C}{h1 h2 h3:H}{e:Ex}{fv:Value}{vs:Array Value}
  (hb0:h.get l=some (.loop .ready p0 tm0 ps ca cb d0)) (hps:ry ps args tm0=some tm1) (hr1:rec (.code ca tm1 [] (some l) h)=some (.code .norm tm2 [] h1)) (hb1:h1.get l=some (.loop .ready p1 tm3 ps1 a1 b1 d1))
  (hr2:rec (.code cb tm2 [] (some l) (h1.set l (some (.loop .busy p1 tm3 ps1 a1 b1 d1))))=some (.code e tm4 [] h2)) (hend:F8 l e h2=some (c,h3)) (fh:Wf h) (t:Rel P A ρ w h) (hd:Dj A h h3) (hv:VR P A ρ w (.yl l) fv) (hvs:VRl P A ρ w args vs.toList):AS P fv vs w (jH P A ρ w h c h3):=by
 simp only[VR]at hv;obtain⟨hA,rfl⟩:=hv;obtain⟨_,_,_,hAd,fn,tmps,x,y,hh,hTR,c1,c2,hsz,hpl⟩:=t.blk l _ hb0;obtain⟨k1,k2,k3⟩:=EM ps args tm0 tm1 vs.toList tmps hps hTR hvs hpl hsz;have g1:=hG _ _ _ _ _ _ _ _ _ hr1 fh;have g2:=kF (b:=some (B.loop .busy p1 tm3 ps1 a1 b1 d1)) g1.wf (bH hb1);have g3:=hG _ _ _ _ _ _ _ _ _ hr2 g2.wf;have g4:=It hend g3.wf;have hds:Dj (Ext A h h1) h1 h3:=hd.right g1.good.next
 refine⟨{target:=.fn (.yield (ρ l)) #[],args:=#[]++vs},by simp[Deferred.ofValue],.inr ⟨ρ l,fn,(ps.toArray.zip vs).foldl (fun (tmps:Array Value) (x:Tmp×Value)=>tmps.setIfInBounds x.1 x.2) tmps,x,y,rfl,?_,?_⟩⟩
 ·have hy:=run_yield (P:=P) (args:=vs) hh (by simp[<-k3]);simp only[Array.empty_append,invoke];exact hy
 refine roundIn_of_wpIn (F:=Fence.wide) trivial ?_;have hfold:((ps.toArray.zip vs).foldl (fun (tmps:Array Value) (x:Tmp×Value)=>tmps.setIfInBounds x.1 x.2) tmps)=((ps.zip vs.toList).foldl (fun (tmps:Array Value) (p:Nat×Value)=>tmps.setIfInBounds p.1 p.2) tmps):=by
  rw[<-El,Array.toList_zip]
 have hfr:Fr P A ρ w tmps.size [] tm1 {tmps:=(ps.toArray.zip vs).foldl (fun (tmps:Array Value) (x:Tmp×Value)=>tmps.setIfInBounds x.1 x.2) tmps,defers:=[]}:=
  ⟨by rw[hfold];exact k1,by rw[hfold];exact k2,(fun k hk=>by cases hk),rfl⟩
 have hw1:=hC _ _ _ _ _ _ _ _ _ hr1 fh tmps.size x A ρ w _ c1 hsz t (hd.left (aH g2.good.next (aH g3.good.next g4.good.next))) hfr (fun l' hl=>by cases hl;exact hA);refine sY hw1 (fun _ ρ1 w1 aa1 q1 f1=>?_) (fun he=>absurd rfl he);have hρ1:ρ1 l=ρ l:=q1.rho l (.inl (t.live (bH hb0)).1);obtain⟨_,_,_,hAd1,fn1,tmps1,x1,y1,hh1,hTR1,hrest1⟩:=q1.rel.blk l _ hb1;have hbeg:=run_beginRound (P:=P) hh1 rfl;refine⟨_,by rw[<-hρ1];exact hbeg,?_⟩;have hlt1:Lt w1 (w1.putObj (ρ1 l) (.loop ⟨.busy,su p1,fn1,tmps1,ps1.toArray,x1,y1,ρ1 d1⟩)):=Lt.chg (g:=ρ1 l) ⟨rfl,rfl,rfl,by simp,fun j _ hj=>World.putObj_heap_other hj⟩ (zR hh1 aK) (fun s hs=>by rw[ru hh1 aK]at hs;cases hs);have q2:=uq (o':=.loop ⟨.busy,su p1,fn1,tmps1,ps1.toArray,x1,y1,ρ1 d1⟩) (b:=.loop .busy p1 tm3 ps1 a1 b1 d1) q1.rel hb1 hh1 aK ⟨hAd1,fn1,tmps1,x1,y1,World.putObj_heap_same (gS.1 hh1).1,hTR1.mo (Mo.refl _ _) hlt1,hrest1⟩;have hd2:Dj (Ext (Ext A h h1) h1 (h1.set l (some (B.loop .busy p1 tm3 ps1 a1 b1 d1)))) (h1.set l (some (B.loop .busy p1 tm3 ps1 a1 b1 d1))) h3:=hds.right g2.good.next
 have f2:=f1.mo (q2.mo (hds.left (aH g3.good.next g4.good.next))) q2.lt;have hw2:=hC _ _ _ _ _ _ _ _ _ hr2 g2.wf tmps.size y _ ρ1 _ _ c2 hsz q2.rel (hd2.left g4.good.next) f2 (fun l' hl=>by cases hl;exact .inl (.inl hA));have hfc:fc (some l) ρ1=Fence.wide.inRound (ρ l):=by simp only[fc,hρ1]
 rw[hfc]at hw2;refine wpIn_mono hw2 fun e' a' w2 q=>?_;obtain⟨q3,ρ3,p3,f3⟩:=q;have hl1:l<h1.next:=(q1.rel.live (bH hb1)).1
 have hρ3:ρ3 l=ρ l:=by rw[p3.rho l (.inl hl1),hρ1]
 have q12:=q1.trans g1.good (q2.trans g2.good p3 g3.good) (g2.good.trans g3.good);have g123:=g1.trans (g2.trans g3);have hd3:Dj (Ext A h h2) h2 h3:=hd.right g123.good.next
 unfold F8 at hend;split at hend
 ·next p5 tm5 ps5 a5 b5 d5 hb5=>
  obtain⟨_,_,_,hAd5,fn5,tmps5,x5,y5,hh5,hTR5,hrest5⟩:=q12.rel.blk l _ hb5;have fin:∀(jump:Option Code) (st:LS) (ex:Ex),su ex=jump->Bf st=(if jump.isNone then .ready else .done)->h3=h2.set l (some (.loop st ex tm5 ps5 a5 b5 d5))->c= .sc (.bool jump.isNone)->∃v w',(Instr.endRound (ρ l) jump).run P w2= .ok v w'/\jH P A ρ w h c h3 (.returned v) w':=by
   rintro jump st ex hj hs rfl rfl;have hrun:=run_endRound (P:=P) jump hh5;rw[hρ3]at hrun;refine⟨_,_,hrun,.bool jump.isNone,ρ3,rfl,?_,jC rfl⟩;have hlt5:Lt w2 (w2.putObj (ρ3 l) (.loop ⟨Bf st,su ex,fn5,tmps5,ps5.toArray,x5,y5,ρ3 d5⟩)):=Lt.chg (g:=ρ3 l) ⟨rfl,rfl,rfl,by simp,fun j _ hj=>World.putObj_heap_other hj⟩ (zR hh5 aK) (fun s hs=>by rw[ru hh5 aK]at hs;cases hs);have q5:=uq (o':=.loop ⟨Bf st,su ex,fn5,tmps5,ps5.toArray,x5,y5,ρ3 d5⟩) (b:=.loop st ex tm5 ps5 a5 b5 d5) q12.rel hb5 hh5 aK ⟨hAd5,fn5,tmps5,x5,y5,World.putObj_heap_same (gS.1 hh5).1,hTR5.mo (Mo.refl _ _) hlt5,hrest5⟩;have:=q12.trans g123.good q5 g4.good;rw[hρ3,hj,hs]at this;exact this
  cases e with
  |norm=>
   simp only[an,aR]at hend;rw[uH q3];exact fin none .ready .norm rfl rfl hend.2.symm hend.1.symm
  |ret=>
   simp only[an,aR]at hend;cases e'<;>simp[exM]at q3;exact fin (some .ret) .done .ret rfl rfl hend.2.symm hend.1.symm
  |exit i=>
   simp only[an,aR]at hend;cases e'<;>simp[exM]at q3;subst q3;exact fin (some (.exit i)) .done (.exit i) rfl rfl hend.2.symm hend.1.symm
 ·cases hend
theorem UU{N:Nat}(hO:AH P E)(hfn:E.fns=rU P)(hC:qQ P (run E N)):nD P (run E (N+1)):=by
 intro f args h c h' ee fh A ρ w fv vs t hd hv hvs;have hG:=(td E N).2;simp only[run,body]at ee;split at ee
 ·next g caps=>
  split at ee
  ·next o ho=>
   obtain⟨r,e1,e2⟩:=aF ee;simp only[Out.val.injEq]at e2;obtain⟨rfl,rfl⟩:=e2;exact U1 hO ho e1 t hv hvs
  ·split at ee
   ·next fn hfn'=>
    split at ee
    ·cases ee
    ·next hl=>
     split at ee
     ·next e tm1 ds1 h1 hr=>
      have key:(∀i,e≠ .exit i)/\∃h2 rs,lH ds1 h1=some h2/\results tm1 h2 fn.res=some rs/\c=vL rs/\h'=h2:=by
       split at ee
       ·cases ee
       ·next hne=>
        obtain⟨h2,e1,ee⟩:=aJ ee;obtain⟨rs,e2,e3⟩:=aF ee;simp only[Out.val.injEq]at e3;exact⟨fun i hi=>hne i hi,h2,rs,e1,e2,e3.1.symm,e3.2.symm⟩
      obtain⟨hne,h2,rs,e1,e2,rfl,rfl⟩:=key;rw[hfn]at hfn';exact fn_ok hC hG hfn' (fD hl) hr hne e1 e2 fh t hd hv hvs
     ·cases ee
   ·cases ee
 ·next l=>
  split at ee
  ·next p0 tm0 ps ca cb d0 hb0=>
   split at ee
   ·next tm1 hps=>
    split at ee
    ·next tm2 h1 hr1=>
     split at ee
     ·next p1 tm3 ps1 a1 b1 d1 hb1=>
      split at ee
      ·next e tm4 h2 hr2=>
       obtain⟨⟨c',h3⟩,e1,e2⟩:=aF ee;simp only[Out.val.injEq]at e2;obtain⟨rfl,rfl⟩:=e2;exact yl_ok hC hG hb0 hps hr1 hb1 hr2 e1 fh t hd hv hvs
      ·cases ee
     ·cases ee
    ·cases ee
   ·cases ee
  ·cases ee
 ·cases ee
theorem UR(hO:AH P E)(hfn:E.fns=rU P)(hD:∀rec,nD P rec->fj rec->GI P rec):∀N,nD P (run E N)/\qQ P (run E N):=fun N=>by
 induction N using Nat.strongRecOn with
 |_ N ih=>
  cases N with
  |zero=>exact⟨fun _ _ _ _ _ e=>by simp[run]at e,fun _ _ _ _ _ _ _ _ _ e=>by simp[run]at e⟩
  |succ N=>
   have hR:∀m,m<=N->nD P (run E m):=fun m hm=>(ih m (Nat.lt_succ_of_le hm)).1;have hC:∀m,m<=N->qQ P (run E m):=fun m hm=>(ih m (Nat.lt_succ_of_le hm)).2;exact⟨UU hO hfn (hC N (af _)),T5 hR hC (fun m hm=>hD _ (hR m hm) (td E m).1) (OY (hR N (af _)))⟩
end CI
end
section
open Go.RowKit
namespace CI
variable {P : Program} {h h' : H} {tm tm' : Tm} {rec : Rec} {n : Nat}
structure SD where
 tm:Tm
 h:H
 iv:List (Nat×Nat×Nat)
 rw:List (Nat×Bool)
 v:C
 wr:Bool
 rd:Bool
def pH(rec:Rec)(j:Nat)(o:RO)(s:SD):Option SD:=
 match lg o s.tm with
 |some false=>some ⟨kG s.tm o.dst .any,s.h,s.iv,s.rw,.any,false,false⟩
 |some true=>match o.x.isT with
  |true=>(xT o.x s.tm s.h.next).bind fun p=>(s.h.nB p.2).map fun h1=>⟨kG s.tm o.dst p.1,h1,(match p.2 with|none=>s.iv|some _=>(j,s.h.next,h1.next)::s.iv),s.rw,p.1,false,false⟩
  |false=>(xR rec o.x s.tm (s.h.part o.pre s.iv)).bind fun p=>match uP o.pre (Nat.blt p.2.low s.h.next) s.rw with
   |true=>none
   |false=>some ⟨kG s.tm o.dst p.1,s.h.whole p.2,(match Nat.blt s.h.next p.2.next with|true=>(j,s.h.next,p.2.next)::s.iv|false=>s.iv),(j,Nat.blt p.2.low s.h.next)::s.rw,p.1,Nat.blt p.2.low s.h.next,true⟩
 |none=>none
theorem Mj{o:RO}{l:List RO}{j:Nat}{s:SD}(e:jY rec (o::l) j s.iv s.rw s.tm s.h=some (tm',h')):∃s1,pH rec j o s=some s1/\jY rec l (j+1) s1.iv s1.rw s1.tm s1.h=some (tm',h'):=by
 rcases Cg e with⟨h1,e⟩|⟨h1,h2,c,ob,h3,e1,e2,e⟩|⟨h1,h2,c,h3,e1,e2,e⟩
 ·exact⟨⟨_,_,_,_,.any,false,false⟩,by simp only[pH,h1];rfl,e⟩
 ·exact⟨⟨_,_,_,_,c,false,false⟩,by simp only[pH,h1,h2,e1,sO,e2,cw];rfl,e⟩
 ·exact⟨⟨_,_,_,_,c,_,true⟩,by simp only[pH,h1,h2,e1,sO,e2];rfl,e⟩
def iQ(rec:Rec):List RO->Nat->SD->Option SD
 |[],_,s=>some s
 |o::l,j,s=>(pH rec j o s).bind (iQ rec l (j+1))
theorem Cf:∀(l:List RO) (j:Nat) (s:SD),jY rec l j s.iv s.rw s.tm s.h=some (tm',h')->∃s1,iQ rec l j s=some s1/\s1.tm=tm'/\s1.h=h'
 |[],j,s,e=>by
  simp only[jY,an,aR]at e;exact⟨s,rfl,e.1,e.2⟩
 |o::l,j,s,e=>by
  obtain⟨s1,e1,e2⟩:=Mj e;obtain⟨s2,e3,e4⟩:=Cf l (j+1) s1 e2;exact⟨s2,by simp only[iQ,e1,sO,e3],e4⟩
theorem yG:∀(l1 l2:List RO) (j:Nat) (s s2:SD),iQ rec (l1++l2) j s=some s2->∃s1,iQ rec l1 j s=some s1/\iQ rec l2 (j+l1.length) s1=some s2
 |[],l2,j,s,s2,e=>⟨s,rfl,by simpa using e⟩
 |o::l1,l2,j,s,s2,e=>by
  simp only[wY,iQ]at e;obtain⟨s1,e1,e2⟩:=aJ e;obtain⟨s3,e3,e4⟩:=yG l1 l2 (j+1) s1 s2 e2;exact⟨s3,by simp only[iQ,e1,sO,e3],by rw[im,show j+(l1.length+1)=j+1+l1.length by omega];exact e4⟩
structure Trace(rec:Rec)(r:List RO)(tm:Tm)(h:H)(tm':Tm)(h':H)(S:Nat->SD):Prop where
 tm0:(S 0).tm=tm
 h0:(S 0).h=h
 tmN:(S r.length).tm=tm'
 hN:(S r.length).h=h'
 iv0:(S 0).iv=[]
 step:∀i o,r[i]?=some o->pH rec i o (S i)=some (S (i+1))
theorem Oe{r:List RO}(e:jY rec r 0 [] [] tm h=some (tm',h')):∃S,Trace rec r tm h tm' h' S:=by
 obtain⟨sN,e1,e2,e3⟩:=Cf r 0 ⟨tm,h,[],[],.any,false,false⟩ e;have pre:∀i,∃s,iQ rec (r.take i) 0 ⟨tm,h,[],[],.any,false,false⟩=some s:=fun i=>by
  have e1':=e1;rw[<-pF i r]at e1';obtain⟨s,e4,_⟩:=yG _ _ _ _ _ e1';exact⟨s,e4⟩
 have hS:∀i,iQ rec (r.take i) 0 ⟨tm,h,[],[],.any,false,false⟩=some ((iQ rec (r.take i) 0 ⟨tm,h,[],[],.any,false,false⟩).getD ⟨tm,h,[],[],.any,false,false⟩):=fun i=>by
  obtain⟨s,e4⟩:=pre i;rw[e4];rfl
 refine⟨fun i=>(iQ rec (r.take i) 0 ⟨tm,h,[],[],.any,false,false⟩).getD ⟨tm,h,[],[],.any,false,false⟩,by simp[iQ],by simp[iQ],?_,?_,by simp[iQ],fun i o ho=>?_⟩
 ·simp only[et,e1,ly];exact e2
 ·simp only[et,e1,ly];exact e3
 ·have hlt:=(cB.1 ho).1;have h1:=hS (i+1);have hti:r.take (i+1)=r.take i++[o]:=by
   rw[mQ,ho];rfl
  have h2:=h1;rw[hti]at h2;obtain⟨s1,e4,e5⟩:=yG _ _ _ _ _ h2;simp only[iQ,aP,bn]at e5;obtain⟨s2,e6,e7⟩:=aJ e5;simp only[an]at e7;rw[dp aa]at e6;show pH rec i o ((iQ rec (r.take i) 0 ⟨tm,h,[],[],.any,false,false⟩).getD ⟨tm,h,[],[],.any,false,false⟩)=_;rw[e4,hti];show pH rec i o s1=_;rw[e6,e7]
section
variable {r : List RO} {S : Nat->SD}
theorem Trace.cases(t:Trace rec r tm h tm' h' S){i:Nat}{o:RO}(ho:r[i]?=some o):
  (S (i+1)).tm=kG (S i).tm o.dst (S (i+1)).v/\
  ((lg o (S i).tm=some false/\(S (i+1)).v= .any/\(S (i+1)).h=(S i).h/\(S (i+1)).wr=false/\(S (i+1)).rd=false/\(S (i+1)).iv=(S i).iv/\(S (i+1)).rw=(S i).rw)\/
   (lg o (S i).tm=some true/\o.x.isT=true/\(S (i+1)).wr=false/\(S (i+1)).rd=false/\(S (i+1)).rw=(S i).rw/\∃ob,xT o.x (S i).tm (S i).h.next=some ((S (i+1)).v,ob)/\(S i).h.nB ob=some (S (i+1)).h/\(S (i+1)).iv=(match ob with|none=>(S i).iv|some _=>(i,(S i).h.next,(S (i+1)).h.next)::(S i).iv))\/
   (lg o (S i).tm = some true /\ o.x.isT = false /\ (S (i + 1)).rd = true /\ ∃ h1, xR rec o.x (S i).tm ((S i).h.part o.pre (S i).iv) = some ((S (i + 1)).v, h1) /\ (S (i + 1)).h = (S i).h.whole h1 /\ (S (i + 1)).wr = Nat.blt h1.low (S i).h.next /\ uP o.pre (S (i + 1)).wr (S i).rw = false /\
      (S (i+1)).iv=(match Nat.blt (S i).h.next h1.next with|true=>(i,(S i).h.next,h1.next)::(S i).iv|false=>(S i).iv)/\(S (i+1)).rw=(i,(S (i+1)).wr)::(S i).rw)):=by
 have hs:=t.step i o ho;unfold pH at hs;split at hs
 ·next hw=>
  simp only[an]at hs;rw[<-hs];exact⟨rfl, .inl ⟨hw,rfl,rfl,rfl,rfl,rfl,rfl⟩⟩
 ·next hw=>
  split at hs
  ·next hT=>
   obtain⟨⟨c,ob⟩,e1,hs⟩:=aJ hs;obtain⟨h1,e2,hs⟩:=aF hs;rw[<-hs];exact⟨rfl, .inr (.inl ⟨hw,hT,rfl,rfl,rfl,ob,e1,e2,rfl⟩)⟩
  ·next hT=>
   obtain⟨⟨c,h1⟩,e1,hs⟩:=aJ hs;split at hs
   ·cases hs
   ·next hcl=>
    simp only[an]at hs;rw[<-hs];exact⟨rfl, .inr (.inr ⟨hw,hT,rfl,h1,e1,rfl,rfl,hcl,rfl,rfl⟩)⟩
 ·cases hs
theorem Trace.gd(t:Trace rec r tm h tm' h' S)(hg:fj rec)(f:Wf h):∀i,i<=r.length->Wf (S i).h/\Gd h (S i).h
 |0,_=>by rw[t.h0];exact⟨f,Gd.refl f⟩
 |i+1,hi=>by
  obtain⟨o,ho⟩:∃o,r[i]?=some o:=⟨_,aV aa⟩;obtain⟨f1,g1⟩:=t.gd hg f i aa;have g2:Gd (S i).h (S (i+1)).h:=by
   rcases(t.cases ho).2 with⟨_,_,e,_⟩|⟨_,_,_,_,_,ob,_,e,_⟩|⟨_,_,_,h1,e1,e2,_⟩
   ·rw[e];exact Gd.refl f1
   ·exact tD f1 e
   ·rw[e2];exact BA (ri hg (nN f1) e1)
  exact⟨g2.wf,g1.trans g2⟩
theorem Trace.gd1(t:Trace rec r tm h tm' h' S)(hg:fj rec)(f:Wf h){i:Nat}(hi:i<r.length):Gd (S i).h (S (i+1)).h:=by
 obtain⟨o,ho⟩:∃o,r[i]?=some o:=⟨_,aV hi⟩;have f1:=(t.gd hg f i aa).1;rcases(t.cases ho).2 with⟨_,_,e,_⟩|⟨_,_,_,_,_,ob,_,e,_⟩|⟨_,_,_,h1,e1,e2,_⟩
 ·rw[e];exact Gd.refl f1
 ·exact tD f1 e
 ·rw[e2];exact BA (ri hg (nN f1) e1)
theorem Trace.gdm(t:Trace rec r tm h tm' h' S)(hg:fj rec)(f:Wf h):∀(k i:Nat),i+k<=r.length->Gd (S i).h (S (i+k)).h
 |0,i,hi=>Gd.refl (t.gd hg f i aa).1
 |k+1,i,hi=>(t.gdm hg f k i aa).trans (t.gd1 hg f aa)
theorem Trace.iv(t:Trace rec r tm h tm' h' S):∀i,i<=r.length->(∀x∈(S i).iv,∃q,q<i/\x=(q,(S q).h.next,(S (q+1)).h.next))/\(∀q,q<i->(S q).h.next<(S (q+1)).h.next->(q,(S q).h.next,(S (q+1)).h.next)∈(S i).iv)
 |0,_=>by
  rw[t.iv0];exact⟨fun x hx=>by simp at hx,fun q hq=>by omega⟩
 |i+1,hi=>by
  obtain⟨o,ho⟩:∃o,r[i]?=some o:=⟨_,aV aa⟩;obtain⟨k1,k2⟩:=t.iv i aa;have key:((S (i+1)).iv=(S i).iv/\¬(S i).h.next<(S (i+1)).h.next)\/(S (i+1)).iv=(i,(S i).h.next,(S (i+1)).h.next)::(S i).iv:=by
   rcases(t.cases ho).2 with⟨_,_,e,_,_,e2,_⟩|⟨_,_,_,_,_,ob,_,e,e2⟩|⟨_,_,_,h1,e1,e2,_,_,e3,_⟩
   ·exact .inl ⟨e2,by rw[e];omega⟩
   ·cases ob with
    |none=>
     simp only[H.nB,an]at e;exact .inl ⟨e2,by rw[<-e];omega⟩
    |some b=>exact .inr e2
   ·have hn:(S (i+1)).h.next=h1.next:=by rw[e2];rfl
    rw[hn];split at e3
    ·exact .inr e3
    ·next hb=>
     refine .inl ⟨e3,fun hlt=>?_⟩;rw[<-bs]at hlt;rw[hlt]at hb;cases hb
  rcases key with⟨e,hlt⟩|e
  ·rw[e];exact⟨fun x hx=>by obtain⟨q,h1,h2⟩:=k1 x hx;exact⟨q,by omega,h2⟩,fun q hq hl=>k2 q (by
    rcases sG.1 hq with h|h
    ·exact h
    ·subst h;exact absurd hl hlt) hl⟩
  ·rw[e];refine⟨fun x hx=>?_,fun q hq hl=>?_⟩
   ·rcases bP.1 hx with h|h
    ·exact⟨i,by omega,h⟩
    ·obtain⟨q,h1,h2⟩:=k1 x h;exact⟨q,by omega,h2⟩
   ·rcases sG.1 hq with h|h
    ·exact bJ _ (k2 q h hl)
    ·subst h;exact bF
theorem Trace.rw'(t:Trace rec r tm h tm' h' S):∀i,i<=r.length->∀q,q<i->(S (q+1)).rd=true->(q,(S (q+1)).wr)∈(S i).rw
 |0,_,q,hq,_=>by omega
 |i+1,hi,q,hq,hr=>by
  obtain⟨o,ho⟩:∃o,r[i]?=some o:=⟨_,aV aa⟩;have ih:=t.rw' i aa;rcases sG.1 hq with h|h
  ·have h1:=ih q h hr;rcases(t.cases ho).2 with⟨_,_,_,_,_,_,e⟩|⟨_,_,_,_,e,_⟩|⟨_,_,_,h1',_,_,_,_,_,e⟩
   ·rw[e];exact h1
   ·rw[e];exact h1
   ·rw[e];exact bJ _ h1
  ·subst h;rcases(t.cases ho).2 with⟨_,_,_,_,e,_⟩|⟨_,_,_,e,_⟩|⟨_,_,_,h1',_,_,_,_,_,e⟩
   ·rw[e]at hr;cases hr
   ·rw[e]at hr;cases hr
   ·rw[e];exact bF
theorem wb{pre k:Nat}:∀{iv:List (Nat×Nat×Nat)} {f:List (Nat×Nat)} {q x y:Nat},(q,x,y)∈iv->pre.testBit q=false->x<=k->k<y->ep k (ku pre iv f)=true
 |(i,a,b)::l,f,q,x,y,hm,hp,h1,h2=>by
  simp only[ku];have hb1:Nat.ble x k=true:=Nat.ble_eq_true_of_le h1;have hb2:Nat.blt k y=true:=by simpa[bs]using h2
  rcases bP.1 hm with e|e
  ·simp only[aR]at e;rw[<-e.1,<-e.2.1,<-e.2.2,hp];simp only[ep];rw[hb1,hb2]
  ·have:=wb (f:=f) e hp h1 h2;split
   ·exact this
   ·simp only[ep];split
    ·split
     ·rfl
     ·exact this
    ·exact this
theorem Cv{pre k:Nat}:∀{iv:List (Nat×Nat×Nat)} {f:List (Nat×Nat)},(∀x∈iv,¬(x.2.1<=k/\k<x.2.2))->ep k (ku pre iv f)=ep k f
 |[],f,_=>rfl
 |(i,a,b)::l,f,h=>by
  have ih:=Cv (pre:=pre) (f:=f) fun x hx=>h x (bJ _ hx);have h0:=h _ bF;simp only[ku];split
  ·exact ih
  ·simp only[ep];split
   ·next h1=>
    split
    ·next h2=>exact absurd ⟨fD h1,by simpa[bs]using h2⟩ h0
    ·exact ih
   ·exact ih
theorem xZ{pre:Nat}{wr:Bool}:∀{rw:List (Nat×Bool)} {q:Nat} {x:Bool},uP pre wr rw=false->(q,x)∈rw->(x||wr)=true->pre.testBit q=true
 |(i,y)::l,q,x,h,hm,hx=>by
  simp only[uP]at h;split at h
  ·cases h
  ·next hb=>
   rcases bP.1 hm with e|e
   ·cases e;rw[hx]at hb;simpa using hb
   ·exact xZ h e hx
end
end CI
end
section
open Go.RowKit
namespace CI
variable {P : Program} {n : Nat}
theorem yF:∀(l:List Nat) (k:Nat),uF l k=(l[k]?).getD 0
 |[],k=>by simp[uF]
 |x::l,0=>by simp[uF]
 |x::l,k+1=>by simp[uF,yF l k]
theorem pI{acc:List Nat}{q:Nat}:∀{es:List Edge},(mZ acc es).testBit q=true->∃e∈es,Region.binds .any e=true/\(e.on=q\/(uF acc e.on).testBit q=true)
 |[],h=>by simp[mZ]at h
 |e::es,h=>by
  simp only[mZ]at h;split at h
  ·next hb=>
   simp only[Nat.testBit_or,zp,Nat.testBit_two_pow,decide_eq_true_eq]at h;rcases h with(h|h)|h
   ·exact⟨e,bF,hb,.inl h⟩
   ·exact⟨e,bF,hb,.inr h⟩
   ·obtain⟨e',h1,h2⟩:=pI h;exact⟨e',bJ _ h1,h2⟩
  ·obtain⟨e',h1,h2⟩:=pI h;exact⟨e',bJ _ h1,h2⟩
theorem EX:∀(l:List Oper) (acc:List Nat),∃t,lY l acc=acc++t/\t.length=l.length
 |[],acc=>⟨[],by simp[lY],rfl⟩
 |o::l,acc=>by
  obtain⟨t,e,h⟩:=EX l (acc++[mZ acc o.after.toList]);exact⟨mZ acc o.after.toList::t,by simp only[lY];rw[e];simp,by simp[h]⟩
theorem Bx:∀(l:List Oper) (acc:List Nat) (i:Nat) (o:Oper),l[i]?=some o->(lY l acc)[acc.length+i]?=some (mZ ((lY l acc).take (acc.length+i)) o.after.toList)
 |[],acc,i,o,h=>by simp at h
 |o'::l,acc,0,o,h=>by
  simp at h;subst h;simp only[lY];obtain⟨t,e,_⟩:=EX l (acc++[mZ acc o'.after.toList]);rw[e];simp
 |o'::l,acc,i+1,o,h=>by
  simp only[lY];have:=Bx l (acc++[mZ acc o'.after.toList]) i o qV;rw[cI,ff,show acc.length+1+i=acc.length+(i+1) by omega]at this;exact this
theorem pZ{t:Nat}:∀{l:List Nat},t∈l->so t l=true
 |x::l,h=>by
  simp only[so];split
  ·rfl
  ·next hb=>
   rcases bP.1 h with e|e
   ·subst e;rw[fe]at hb;cases hb
   ·exact pZ e
theorem zB{ops:Array Oper}{o:Oper}{p:Nat}:∀{l:List Oper} {k:Nat},ua ops o p l k=true->∀i o',l[i]?=some o'->(sk o'.dst (looks ops o)=true\/sk o.dst (looks ops o')=true\/sk o.dst o'.dst.toList=true)->p.testBit (k+i)=true
 |[],k,_,i,o',h,_=>by simp at h
 |x::l,k,h,0,o',ho,hh=>by
  simp at ho;subst ho;simp only[ua]at h;split at h
  ·cases h
  ·next hb=>
   rw[cg]
   cases hp:p.testBit k with
   |true=>rfl
   |false=>
    exfalso;rw[hp]at hb;rcases hh with hh|hh|hh<;>simp[hh]at hb
 |x::l,k,h,i+1,o',ho,hh=>by
  simp only[ua]at h;split at h
  ·cases h
  ·have:=zB h i o' (by simpa using ho) hh;rwa[show k+1+i=k+(i+1) by omega]at this
theorem qG{k:Nat}:∀{l:List Edge},lp k l=true->∀e∈l,Region.binds .any e=true->e.on<k
 |x::l,h,e,he,hb=>by
  simp only[lp]at h;split at h
  ·cases h
  ·next hx=>
   rcases bP.1 he with e1|e1
   ·subst e1;rw[hb]at hx;simp only[sI,Bool.not_eq_false']at hx;simpa[bs]using hx
   ·exact qG h e e1 hb
theorem Iy{ops:Array Oper}:∀(l acc:List Oper) (ps:List Nat) (r:List RO),iD P n true ops acc l ps=some r->r.length=l.length/\∀i o,l[i]?=some o->∃p g,ps[i]?=some p/\dc n o.dst=true/\ua ops o p (acc++l.take i) 0=true/\lp (acc.length+i) o.after.toList=true/\(match o.guard with
  |none=>some none
  |some (j,b)=>((ops[j]?).bind (·.dst)).map fun t=>some (t,b))=some g/\r[i]?=some ⟨o.dst,g,(match aZ P o.op with|some x=>x|none=>.bad),p⟩
 |[],acc,ps,r,h=>by
  simp only[iD,an]at h;subst h;exact⟨rfl,fun i o ho=>by simp at ho⟩
 |o::l,acc,ps,r,h=>by
  obtain⟨p,ps',g,r',rfl,h1,h2,h3,h4,rfl⟩:=wh h;obtain⟨k1,k2⟩:=Iy l (acc++[o]) ps' r' h4;refine⟨by simp[k1],fun i o' ho=>?_⟩
  cases i with
  |zero=>
   simp at ho;subst ho;exact⟨p,g,rfl,h1,by simpa using(h2 rfl).1,by simpa using(h2 rfl).2,h3,rfl⟩
  |succ i=>
   obtain⟨p',g',q1,q2,q3,q4,q5,q6⟩:=k2 i o' (by simpa using ho);refine⟨p',g',by simpa using q1,q2,by simpa using q3,?_,q5,by simpa using q6⟩;rw[cI,ff]at q4;rwa[show acc.length+1+i=acc.length+(i+1) by omega]at q4
structure Stat(P:Program)(n:Nat)(ops:Array Oper)(r:List RO):Prop where
 len:r.length=ops.size
 row : ∀ (i : Nat) (o : Oper), ops[i]? = some o -> ∃ g p, r[i]? = some ⟨o.dst, g, (match aZ P o.op with | some x => x | none => .bad), p⟩ /\ dc n o.dst = true /\ (match o.guard with
       |none=>some none
       |some (j,b)=>((ops[j]?).bind (·.dst)).map fun t=>some (t,b))=some g
 pre:∀(i:Nat) (o:Oper) (ro:RO) (q:Nat),ops[i]?=some o->r[i]?=some ro->ro.pre.testBit q=true->∃e∈o.after.toList,Region.binds .any e=true/\(e.on=q\/∃ro',r[e.on]?=some ro'/\ro'.pre.testBit q=true)
 edge:∀(i:Nat) (o:Oper) (e:Edge),ops[i]?=some o->e∈o.after.toList->Region.binds .any e=true->e.on<i
 tmp:∀(i j:Nat) (o' o:Oper) (ro:RO) (t:Nat),i<j->ops[i]?=some o'->ops[j]?=some o->r[j]?=some ro->((o'.dst=some t/\t∈looks ops o)\/(o.dst=some t/\t∈looks ops o')\/(o.dst=some t/\o'.dst=some t))->ro.pre.testBit i=true
theorem SO{ops:Array Oper}{r:List RO}(h:iD P n true ops [] ops.toList (lY ops.toList [])=some r):Stat P n ops r:=by
 obtain⟨k1,k2⟩:=Iy _ _ _ _ h;have hl:∀{i:Nat} {o:Oper},ops[i]?=some o->ops.toList[i]?=some o:=fun ho=>by simpa using ho
 have hpre:∀(i:Nat) (o:Oper) (ro:RO),ops[i]?=some o->r[i]?=some ro->(lY ops.toList [])[i]?=some ro.pre:=fun i o ro ho hr=>by
  obtain⟨p,g,q1,_,_,_,_,q6⟩:=k2 i o (hl ho);rw[hr]at q6;simp only[an]at q6;subst q6;exact q1
 refine⟨by rw[k1];simp,fun i o ho=>?_,fun i o ro q ho hr hq=>?_,fun i o e ho he hb=>?_,fun i j o' o ro t hij ho' ho hr ht=>?_⟩
 ·obtain⟨p,g,q1,q2,q3,q4,q5,q6⟩:=k2 i o (hl ho);exact⟨g,p,q6,q2,q5⟩
 ·have h1:=hpre i o ro ho hr;have h2:=Bx ops.toList [] i o (hl ho);simp only[iI,bn]at h2;rw[h1]at h2;simp only[an]at h2;rw[h2]at hq;obtain⟨e,he,hb,hh⟩:=pI hq;refine⟨e,he,hb,hh.imp id fun hx=>?_⟩;rw[yF,gB]at hx;split at hx
  ·next hlt=>
   have hsz:i<ops.size:=(gS.1 ho).1;obtain⟨o2,ho2⟩:∃o2,ops[e.on]?=some o2:=⟨_,mR aa⟩;obtain⟨p,g,q1,q2,q3,q4,q5,q6⟩:=k2 e.on o2 (hl ho2);rw[q1]at hx;exact⟨_,q6,by simpa using hx⟩
  ·simp at hx
 ·obtain⟨p,g,q1,q2,q3,q4,q5,q6⟩:=k2 i o (hl ho);have:=qG q4 e he hb;simpa using this
 ·obtain⟨p,g,q1,q2,q3,q4,q5,q6⟩:=k2 j o (hl ho);rw[hr]at q6;simp only[an]at q6;subst q6;have:=zB q3 i o' (by rw[gj,ik hij];exact hl ho') (by
   rcases ht with⟨h1,h2⟩|⟨h1,h2⟩|⟨h1,h2⟩
   ·exact .inl (by rw[h1];exact pZ h2)
   ·exact .inr (.inl (by rw[h1];exact pZ h2))
   ·exact .inr (.inr (by rw[h1,h2];exact pZ aK)))
  simpa using this
end CI
end
section
open Go.RowKit
namespace DW
inductive Mn where
 |val (d:D)
 |alloc (k:Nat) (q:Ow) (d:D)
 |store (k i:Nat) (d:D)
structure FP where
 rc:List Nat
 rs:List Nat
 wc:List Nat
 al:List Nat
 me:List Nat
def mAp(t:Option Tmp)(m:Mn)(s:S):S:=
 match m with
 | .val d=>s.put t d
 | .alloc k q d=>⟨(s.put t d).sl,(k,q)::s.ow⟩
 | .store k i d=>⟨s.sl,cJ k i d s.ow⟩
def Mn.dt:Mn->Option D
 | .val d=>some d
 | .alloc _ _ d=>some d
 | .store ..=>none
def stL(L:Nat->Bool):List (Option Tmp×Mn)->Nat->S->S
 |[],_,s=>s
 |(t,m)::l,i,s=>stL L l (i+1) (match L i with|true=>mAp t m s|false=>s)
structure Eqv(s s':S):Prop where
 gt:∀t,s.gt t=s'.gt t
 ow:s.ow.Perm s'.ow
theorem Eqv.refl(s:S):Eqv s s:=⟨fun _=>rfl,.refl _⟩
theorem Eqv.of{s s':S}(h:s=s'):Eqv s s':=h▸Eqv.refl s
theorem Eqv.trans{a b c:S}(h:Eqv a b)(k:Eqv b c):Eqv a c:=⟨fun t=>(h.gt t).trans (k.gt t),h.ow.trans k.ow⟩
theorem Ms(s:S)(t:Option Tmp)(d:D)(u:Nat):(s.put t d).gt u=if t=some u then d else s.gt u:=by
 cases t with
 |none=>rfl
 |some t=>
  show look ((t,d)::s.sl) u=_;simp only[look,an];rfl
theorem mY(s:S)(t:Option Tmp)(d:D):(s.put t d).ow=s.ow:=by cases t<;>rfl
theorem nj(t:Option Tmp)(m:Mn)(s:S)(u:Nat):(mAp t m s).gt u=match m.dt with|some d=>if t=some u then d else s.gt u|none=>s.gt u:=by
 cases m with
 |val d=>exact Ms s t d u
 |alloc k q d=>exact Ms s t d u
 |store k i d=>rfl
theorem L9(k i:Nat)(d:D){l l':List (Nat×Ow)}(h:l.Perm l'):(cJ k i d l).Perm (cJ k i d l'):=by
 have e:∀l:List (Nat×Ow),cJ k i d l=l.map fun p=>match Nat.beq p.1 k with|true=>(p.1,⟨p.2.T,p.2.wd,p.2.l.set i d⟩)|false=>p:=fun l=>by
  induction l with
  |nil=>rfl
  |cons p l ih=>
   obtain⟨j,q⟩:=p;simp only[cJ,eL,ih];cases Nat.beq j k<;>rfl
 rw[e,e];exact h.map _
theorem Cd{k k' i i':Nat}{d d':D}(h:k≠k'):∀l:List (Nat×Ow),cJ k i d (cJ k' i' d' l)=cJ k' i' d' (cJ k i d l)
 |[]=>rfl
 |(j,q)::l=>by
  have ih:=Cd (i:=i) (i':=i') (d:=d) (d':=d') h l
  cases h1:Nat.beq j k with
  |true=>
   have h2:Nat.beq j k'=false:=by
    cases h2:Nat.beq j k' with
    |false=>rfl
    |true=>exact absurd ((eZ h1).symm.trans (eZ h2)) h
   simp only[cJ,h1,h2,ih]
  |false=>
   cases h2:Nat.beq j k' with
   |true=>simp only[cJ,h1,h2,ih]
   |false=>simp only[cJ,h1,h2,ih]
theorem Tt(t:Option Tmp)(m:Mn){s s':S}(h:Eqv s s'):Eqv (mAp t m s) (mAp t m s'):=by
 refine⟨fun u=>by rw[nj,nj,h.gt],?_⟩
 cases m with
 |val d=>simp only[mAp,mY];exact h.ow
 |alloc k q d=>exact h.ow.cons _
 |store k i d=>exact L9 k i d h.ow
theorem Bh(L:Nat->Bool):∀(l:List (Option Tmp×Mn)) (i:Nat) {s s':S},Eqv s s'->Eqv (stL L l i s) (stL L l i s')
 |[],_,_,_,h=>h
 |(t,m)::l,i,s,s',h=>by
  simp only[stL]
  cases L i with
  |true=>exact Bh L l (i+1) (Tt t m h)
  |false=>exact Bh L l (i+1) h
def comm(t t':Option Tmp)(m m':Mn):Prop:=
 (∀u,t=some u->t'=some u->False)/\
 (∀k q d k' i' d',m= .alloc k q d->m'= .store k' i' d'->k≠k')/\
 (∀k q d k' i' d',m'= .alloc k q d->m= .store k' i' d'->k≠k')/\
 (∀k i d k' i' d',m= .store k i d->m'= .store k' i' d'->k≠k')
theorem vK{k k' i:Nat}{q:Ow}{d:D}(h:k≠k')(l:List (Nat×Ow)):cJ k' i d ((k,q)::l)=(k,q)::cJ k' i d l:=by
 simp only[cJ]
 cases hb:Nat.beq k k' with
 |true=>exact absurd (eZ hb) h
 |false=>rfl
theorem Pm{t t':Option Tmp}{m m':Mn}(h:comm t t' m m')(s:S):Eqv (mAp t m (mAp t' m' s)) (mAp t' m' (mAp t m s)):=by
 obtain⟨h1,h2,h3,h4⟩:=h;refine⟨fun u=>?_,?_⟩
 ·rw[nj,nj,nj,nj]
  cases m.dt with
  |none=>rfl
  |some d=>
   cases m'.dt with
   |none=>rfl
   |some d'=>
    simp only;by_cases e:t=some u
    ·rw[ak e,ah (fun e'=>h1 u e e'),ak e]
    ·rw[ah e,ah e]
 ·cases m with
  |val d=>
   cases m' with
   |val d'=>simp only[mAp,mY];exact .refl _
   |alloc k q d'=>simp only[mAp,mY];exact .refl _
   |store k i d'=>simp only[mAp,mY];exact .refl _
  |alloc k q d=>
   cases m' with
   |val d'=>simp only[mAp,mY];exact .refl _
   |alloc k' q' d'=>simp only[mAp];exact List.Perm.swap _ _ _
   |store k' i d'=>
    simp only[mAp];rw[vK (h2 _ _ _ _ _ _ rfl rfl)]
  |store k i d=>
   cases m' with
   |val d'=>simp only[mAp,mY];exact .refl _
   |alloc k' q' d'=>
    simp only[mAp];rw[vK (h3 _ _ _ _ _ _ rfl rfl)]
   |store k' i' d'=>
    simp only[mAp];rw[Cd (h4 _ _ _ _ _ _ rfl rfl)]
theorem yp{L:Nat->Bool}:∀(l:List (Option Tmp×Mn)) (i:Nat) (s:S),(∀j,i<=j->L j=false)->stL L l i s=s
 |[],_,_,_=>rfl
 |(t,m)::l,i,s,h=>by
  simp only[stL,h i (af _)];exact yp l (i+1) s fun j hj=>h j aa
theorem Cb{L L':Nat->Bool}:∀(l:List (Option Tmp×Mn)) (i:Nat) (s:S),(∀j,i<=j->L j=L' j)->stL L l i s=stL L' l i s
 |[],_,_,_=>rfl
 |(t,m)::l,i,s,h=>by
  simp only[stL,h i (af _)];exact Cb l (i+1) _ fun j hj=>h j aa
theorem zG{L:Nat->Bool}{t:Option Tmp}{m:Mn}:∀(l:List (Option Tmp×Mn)) (i:Nat) (s:S),(∀j t' m',l[j]?=some (t',m')->L (i+j)=true->comm t t' m m')->Eqv (mAp t m (stL L l i s)) (stL L l i (mAp t m s))
 |[],_,s,_=>Eqv.refl _
 |(t',m')::l,i,s,h=>by
  simp only[stL];have ih:=fun s=>zG (L:=L) (t:=t) (m:=m) l (i+1) s fun j t'' m'' hj hL=>h (j+1) t'' m'' (by simpa using hj) (by rw[show i+(j+1)=i+1+j by omega];exact hL)
  cases hL:L i with
  |false=>exact ih s
  |true=>exact(ih _).trans (Bh L l (i+1) (Pm (h 0 t' m' rfl hL) s))
theorem EF{L L':Nat->Bool}{t:Option Tmp}{m:Mn}:∀(l:List (Option Tmp×Mn)) (i j:Nat) (s:S),i<=j->l[j-i]?=some (t,m)->L j=false->L' j=true->(∀x,x≠j->L' x=L x)->
  (∀x t' m',j<i+x->l[x]?=some (t',m')->L (i+x)=true->comm t t' m m')->Eqv (mAp t m (stL L l i s)) (stL L' l i s)
 |[],i,j,s,_,e,_,_,_,_=>by simp at e
 |(t',m')::l,i,j,s,hij,e,h1,h2,h3,h4=>by
  simp only[stL];by_cases hx:i=j
  ·subst hx;rw[dH]at e;simp at e;obtain⟨rfl,rfl⟩:=e;rw[h1,h2];simp only;refine(zG l (i+1) s fun x t'' m'' hl hL=>h4 (x+1) t'' m'' aa mM (by rw[show i+(x+1)=i+1+x by omega];exact hL)).trans ?_;rw[Cb (L:=L) (L':=L') l (i+1) _ fun x hx=>(h3 x aa).symm];exact Eqv.refl _
  ·rw[h3 i hx];refine EF l (i+1) j _ aa ?_ h1 h2 h3 fun x t'' m'' hlt hl hL=>h4 (x+1) t'' m'' aa mM (by rw[show i+(x+1)=i+1+x by omega];exact hL);rw[show j-i=j-(i+1)+1 by omega]at e;simpa using e
theorem LR{L L':Nat->Bool}{u:Nat}:∀(l:List (Option Tmp×Mn)) (i:Nat) (s s':S),s.gt u=s'.gt u->(∀x m,l[x]?=some (some u,m)->L (i+x)=L' (i+x))->(stL L l i s).gt u=(stL L' l i s').gt u
 |[],_,s,s',h,_=>h
 |(t,m)::l,i,s,s',h,hh=>by
  simp only[stL];refine LR l (i+1) _ _ ?_ fun x m' hl=>?_
  ·by_cases ht:t=some u
   ·have:=hh 0 m (by simp[ht]);simp only[cg]at this;rw[this]
    cases L' i with
    |false=>exact h
    |true=>simp only[nj];rw[h]
   ·have key : ∀ (b : Bool) (σ : S), (match b with | true => mAp t m σ | false => σ).gt u = σ.gt u := fun b σ => by
     cases b with
     |false=>rfl
     |true=>
      simp only[nj]
      cases m.dt with
      |none=>rfl
      |some d=>simp only[ah ht]
    rw[key,key];exact h
  ·have:=hh (x+1) m' mM;rwa[show i+(x+1)=i+1+x by omega]at this
def ent(k:Nat)(l:List (Nat×Ow)):List (Nat×Ow):=l.filter fun p=>Nat.beq p.1 k
theorem pY{k:Nat}{l:List (Nat×Ow)}{q:Ow}:(k,q)∈ent k l↔(k,q)∈l:=by
 unfold ent;rw[List.mem_filter];simp
def Mn.tc(k:Nat):Mn->Bool
 | .val _=>false
 | .alloc j _ _=>Nat.beq j k
 | .store j _ _=>Nat.beq j k
def Mn.mk'(k:Nat):Mn->Bool
 | .alloc j _ _=>Nat.beq j k
 |_=>false
theorem uI(k j i:Nat)(d:D):∀l:List (Nat×Ow),ent k (cJ j i d l)=cJ j i d (ent k l)
 |[]=>rfl
 |(x,q)::l=>by
  have ih:=uI k j i d l;unfold ent at ih⊢
  cases h1:Nat.beq x j with
  |true=>
   simp only[cJ,h1]
   cases h2:Nat.beq x k with
   |true=>rw[zg (by exact h2),zg (by exact h2),ih];simp only[cJ,h1]
   |false=>rw[vn (by simp[h2]),vn (by simp[h2]),ih]
  |false=>
   simp only[cJ,h1]
   cases h2:Nat.beq x k with
   |true=>rw[zg (by exact h2),zg (by exact h2),ih];simp only[cJ,h1]
   |false=>rw[vn (by simp[h2]),vn (by simp[h2]),ih]
theorem Cc{k i:Nat}{d:D}:∀{l:List (Nat×Ow)},(∀p∈l,p.1≠k)->cJ k i d l=l
 |[],_=>rfl
 |(x,q)::l,h=>by
  simp only[cJ]
  cases h1:Nat.beq x k with
  |true=>exact absurd (eZ h1) (h _ bF)
  |false=>rw[Cc fun p hp=>h p (bJ _ hp)]
theorem Is{k:Nat}{l:List (Nat×Ow)}{p:Nat×Ow}(h:p∈ent k l):p.1=k:=by
 unfold ent at h;rw[List.mem_filter]at h;exact eZ h.2
theorem Tu{k:Nat}{t:Option Tmp}{m:Mn}{s s':S}(h:ent k s.ow=ent k s'.ow):ent k (mAp t m s).ow=ent k (mAp t m s').ow:=by
 cases m with
 |val d=>simp only[mAp,mY];exact h
 |alloc j q d=>
  simp only[mAp];unfold ent at h⊢;simp only[List.filter_cons,h]
 |store j i d=>
  simp only[mAp,uI,h]
theorem xX{k:Nat}{t:Option Tmp}{m:Mn}(hm:m.tc k=false)(s:S):ent k (mAp t m s).ow=ent k s.ow:=by
 cases m with
 |val d=>simp only[mAp,mY]
 |alloc j q d=>
  simp only[mAp];unfold ent;rw[vn (by show¬Nat.beq j k=true;rw[show Nat.beq j k=false from hm];decide)]
 |store j i d=>
  simp only[mAp,uI];refine Cc fun p hp e=>?_;rw[Is hp]at e;simp[Mn.tc,e]at hm
theorem Bi{L L':Nat->Bool}{k:Nat}:∀(l:List (Option Tmp×Mn)) (i:Nat) (s s':S),ent k s.ow=ent k s'.ow->(∀x t m,l[x]?=some (t,m)->m.tc k=true->L (i+x)=L' (i+x))->ent k (stL L l i s).ow=ent k (stL L' l i s').ow
 |[],_,s,s',h,_=>h
 |(t,m)::l,i,s,s',h,hh=>by
  simp only[stL];refine Bi l (i+1) _ _ ?_ fun x t' m' hl hm=>?_
  ·cases hm:m.tc k with
   |true=>
    have:=hh 0 t m aK hm;simp only[cg]at this;rw[this]
    cases L' i with
    |false=>exact h
    |true=>exact Tu h
   |false=>
    have key:∀(b:Bool) (σ:S),ent k (match b with|true=>mAp t m σ|false=>σ).ow=ent k σ.ow:=fun b σ=>by
     cases b with
     |false=>rfl
     |true=>exact xX hm σ
    rw[key,key];exact h
  ·have:=hh (x+1) t' m' mM hm;rwa[show i+(x+1)=i+1+x by omega]at this
def shp(k:Nat)(l:List (Nat×Ow)):List (TypeId×Nat×Nat):=(ent k l).map fun p=>(p.2.T,p.2.wd,p.2.l.length)
theorem EI(k j i:Nat)(d:D):∀l:List (Nat×Ow),(cJ j i d l).map (fun p=>(p.2.T,p.2.wd,p.2.l.length))=l.map fun p=>(p.2.T,p.2.wd,p.2.l.length)
 |[]=>rfl
 |(x,q)::l=>by
  have ih:=EI k j i d l;simp only[cJ]
  cases Nat.beq x j with
  |true=>simp only[eL,ih,ed]
  |false=>simp only[eL,ih]
theorem Hg{L L':Nat->Bool}{k:Nat}:∀(l:List (Option Tmp×Mn)) (i:Nat) (s s':S),shp k s.ow=shp k s'.ow->(∀x t m,l[x]?=some (t,m)->m.mk' k=true->L (i+x)=L' (i+x))->shp k (stL L l i s).ow=shp k (stL L' l i s').ow
 |[],_,s,s',h,_=>h
 |(t,m)::l,i,s,s',h,hh=>by
  simp only[stL];refine Hg l (i+1) _ _ ?_ fun x t' m' hl hm=>?_
  ·have off : m.mk' k = false -> ∀ (b : Bool) (σ : S), shp k (match b with | true => mAp t m σ | false => σ).ow = shp k σ.ow := fun hm b σ => by
    cases b with
    |false=>rfl
    |true=>
     cases m with
     |val d=>simp only[mAp,mY]
     |alloc j q d=>
      unfold shp;rw[xX (by simpa[Mn.tc,Mn.mk']using hm)]
     |store j i d=>
      unfold shp;simp only[mAp,uI];exact EI k j i d _
   cases hm:m.mk' k with
   |true=>
    have:=hh 0 t m aK hm;simp only[cg]at this;rw[this]
    cases L' i with
    |false=>exact h
    |true=>
     cases m with
     |val d=>simp[Mn.mk']at hm
     |store j i d=>simp[Mn.mk']at hm
     |alloc j q d=>
      simp only[mAp];unfold shp ent at h⊢;simp only[List.filter_cons];split
      ·simp only[eL,h]
      ·exact h
   |false=>rw[off hm,off hm];exact h
  ·have:=hh (x+1) t' m' mM hm;rwa[show i+(x+1)=i+1+x by omega]at this
end DW
end
section
open Go.RowKit
namespace DW
def FM(a b:List Nat):Bool:=a.any fun x=>CI.so x b
theorem xC{a b:List Nat}{k:Nat}(h1:k∈a)(h2:k∈b):FM a b=true:=gT.2 ⟨k,h1,CI.pZ h2⟩
def kE(ops:Array Oper)(o' o:Oper):Bool:=CI.sk o'.dst (CI.looks ops o)||CI.sk o.dst (CI.looks ops o')||CI.sk o.dst o'.dst.toList
def iX(f' f:FP):Bool:=FM f'.wc (f.rc++f.wc)||FM f'.rc f.wc||FM f'.al (f.rc++f.rs++f.wc++f.me)
def never(f' f:FP):Bool:=FM f.al (f'.rc++f'.rs++f'.wc++f'.me++f'.al)
def lE(ops:Array Oper)(o' o:Oper)(f' f:FP)(p i:Nat):Bool:=(!(kE ops o' o||iX f' f)||p.testBit i)&& !never f' f
def zO(ops:Array Oper)(o:Oper)(f:FP)(p:Nat):List (Oper×FP)->Nat->Bool
 |[],_=>true
 |(o',f')::l,i=>lE ops o' o f' f p i&&zO ops o f p l (i+1)
def uw(ops:Array Oper)(n:Nat)(ks:List Nat):List Oper->List FP->List Nat->List (Oper×FP)->Bool
 |[],[],_,_=>true
 |o::l,f::fs,p::ps,acc=>CI.lp acc.length o.after.toList&&f.al.all (fun k=>CI.so k ks)&&zO ops o f p acc 0&&uw ops n ks l fs ps (acc++[(o,f)])
 |_,_,_,_=>false
def vR(ops:Array Oper)(n:Nat)(ks:List Nat)(fps:List FP):Bool:=uw ops n ks ops.toList fps (CI.lY ops.toList []) []
theorem oX{i k:Nat}(h:k<=i):Nat.blt i k=false:=by
 cases hb:Nat.blt i k with
 |false=>rfl
 |true=>rw[bs]at hb;omega
theorem zN{ops:Array Oper}{o:Oper}{f:FP}{p:Nat}:∀{l:List (Oper×FP)} {k:Nat},zO ops o f p l k=true->∀i o' f',l[i]?=some (o',f')->lE ops o' o f' f p (k+i)=true
 |[],_,_,i,o',f',e=>by simp at e
 |(x,y)::l,k,h,0,o',f',e=>by
  simp only[zO,dV]at h;rw[List.getElem?_cons_zero]at e;cases e;rw[cg];exact h.1
 |(x,y)::l,k,h,i+1,o',f',e=>by
  simp only[zO,dV]at h;have:=zN h.2 i o' f' oB;rwa[show k+1+i=k+(i+1) by omega]at this
theorem zW{ops:Array Oper}{n:Nat}{ks:List Nat}:∀{l:List Oper} {fs:List FP} {ps:List Nat} {acc:List (Oper×FP)},uw ops n ks l fs ps acc=true->fs.length=l.length/\∀(j:Nat) (o:Oper),l[j]?=some o->∃f p,fs[j]?=some f/\ps[j]?=some p/\CI.lp (acc.length+j) o.after.toList=true/\(∀k∈f.al,CI.so k ks=true)/\
  (∀i o' f',acc[i]?=some (o',f')->lE ops o' o f' f p i=true)/\∀i o' f',i<j->l[i]?=some o'->fs[i]?=some f'->lE ops o' o f' f p (acc.length+i)=true
 |[],[],_,_,_=>⟨rfl,fun j o h=>by simp at h⟩
 |o::l,f::fs,p::ps,acc,h=>by
  simp only[uw,dV]at h;obtain⟨⟨⟨h1,h2⟩,h3⟩,h4⟩:=h;obtain⟨k1,k2⟩:=zW h4;refine⟨by simp[k1],fun j o' ho=>?_⟩
  cases j with
  |zero=>
   simp at ho;subst ho;exact⟨f,p,rfl,rfl,h1,by simpa using h2,fun i o' f' e=>by have:=zN h3 i o' f' e;rwa[bn]at this,fun i _ _ hi=>by omega⟩
  |succ j=>
   obtain⟨f1,p1,q1,q2,q3,q4,q5,q6⟩:=k2 j o' (by simpa using ho);simp only[cI,ff]at q3 q6;refine⟨f1,p1,by simpa using q1,by simpa using q2,by rwa[show acc.length+1+j=acc.length+(j+1) by omega]at q3,q4,fun i o2 f2 e=>q5 i o2 f2 ?_,fun i o2 f2 hi e1 e2=>?_⟩
   ·rw[eD (cB.1 e).1];exact e
   ·cases i with
    |zero=>
     simp at e1 e2;subst e1;subst e2;have:=q5 acc.length o f (by rw[fF (af _)];simp);exact this
    |succ i=>
     have:=q6 i o2 f2 aa (by simpa using e1) (by simpa using e2);rwa[show acc.length+1+i=acc.length+(i+1) by omega]at this
 |[],_::_,_,_,h=>by simp[uw]at h
 |_::_,[],_,_,h=>by simp[uw]at h
 |_::_,_::_,[],_,h=>by simp[uw]at h
structure uW(ops:Array Oper)(o:Oper)(f:FP)(sj σ:S):Prop where
 sl:∀t,t∈CI.looks ops o->σ.gt t=sj.gt t
 rc:∀k,k∈f.rc->ent k σ.ow=ent k sj.ow
 rs:∀k,k∈f.rs\/k∈f.wc->shp k σ.ow=shp k sj.ow
 al:∀k,k∈f.al->ent k σ.ow=ent k sj.ow/\∀t,(σ.gt t).is k=false
def MS(P:Program)(X0:Nat->Prop)(n:Nat)(ops:Array Oper)(o:Oper)(sj:S)(m:Mn)(f:FP):Prop:=
 ∀σ,uW ops o f sj σ->∀w0 g a w,Hd X0 n w0 σ g a w->∀Qx:Exit->Act->World->Prop,
  if Region.wanted o (yielded ops a.tmps)=true then o.wp P a w (fun a' w'=>∃g',Hd X0 n w0 (mAp o.dst m σ) g' a' w') Qx else∃g',Hd X0 n w0 (mAp o.dst m σ) g' (a.put o.dst undef) w
def qO:Mn->FP->Prop
 | .val d,f=>∀k,d.is k=true->k∈f.me
 | .alloc k _ d,f=>k∈f.al/\∀k',d.is k'=true->k'=k
 | .store k _ _,f=>k∈f.wc
def aM(P:Program)(X0:Nat->Prop)(n:Nat)(ops:Array Oper):List Oper->S->List FP->(S->Prop)->Prop
 |[],s,fps,K=>fps=[]/\K s
 |o::l,s,fps,K=>∃f fs m,fps=f::fs/\qO m f/\MS P X0 n ops o s m f/\aM P X0 n ops l (mAp o.dst m s) fs K
def aML(P:Program)(X0:Nat->Prop)(n:Nat)(ops:Array Oper):List Oper->S->List FP->List (Option Tmp×Mn)->S->Prop
 |[],s,fps,st,s'=>fps=[]/\st=[]/\s=s'
 |o::l,s,fps,st,s'=>∃f fs m st',fps=f::fs/\st=(o.dst,m)::st'/\qO m f/\MS P X0 n ops o s m f/\aML P X0 n ops l (mAp o.dst m s) fs st' s'
section
variable {P : Program} {X0 : Nat->Prop} {n : Nat} {ops : Array Oper} {Q : Exit->S->Prop} {s : S}
theorem NV{K:S->Prop}:∀{l:List Oper} {s:S} {fps:List FP},aM P X0 n ops l s fps K->∃st s',aML P X0 n ops l s fps st s'/\K s'
 |[],s,fps,h=>⟨[],s,⟨h.1,rfl,rfl⟩,h.2⟩
 |o::l,s,fps,⟨f,fs,m,h1,h2,h3,h4⟩=>by
  obtain⟨st,s',k1,k2⟩:=NV h4;exact⟨(o.dst,m)::st,s',⟨f,fs,m,st,h1,rfl,h2,h3,k1⟩,k2⟩
theorem BZ:∀{l:List Oper} {s:S} {fps:List FP} {st:List (Option Tmp×Mn)} {s':S} (k:Nat),aML P X0 n ops l s fps st s'->st.length=l.length/\s'=stL (fun _=>true) st k s
 |[],s,fps,st,s',k,⟨_,h2,h3⟩=>by subst h2;subst h3;exact⟨rfl,rfl⟩
 |o::l,s,fps,st,s',k,⟨f,fs,m,st',h1,h2,h3,h4,h5⟩=>by
  obtain⟨k1,k2⟩:=BZ (k+1) h5;subst h2;exact⟨by simp[k1],by simp only[stL];exact k2⟩
theorem NY:∀{l:List Oper} {s:S} {fps:List FP} {st:List (Option Tmp×Mn)} {s':S} (k:Nat),aML P X0 n ops l s fps st s'->∀j o,k<=j->l[j-k]?=some o->∃f m,fps[j-k]?=some f/\st[j-k]?=some (o.dst,m)/\qO m f/\MS P X0 n ops o (stL (fun i=>Nat.blt i j) st k s) m f
 |[],s,fps,st,s',k,_,j,o,_,h=>by simp at h
 |o::l,s,fps,st,s',k,⟨f,fs,m,st',h1,h2,h3,h4,h5⟩,j,o',hkj,hl=>by
  subst h1;subst h2;by_cases hj:k=j
  ·subst hj;rw[dH]at hl⊢;simp at hl;subst hl;refine⟨f,m,rfl,rfl,h3,?_⟩;rw[yp _ _ _ fun i hi=>oX hi];exact h4
  ·have hlt:k<j:=by omega
   obtain⟨f',m',q1,q2,q3,q4⟩:=NY (k+1) h5 j o' aa (by rw[show j-k=j-(k+1)+1 by omega]at hl;simpa using hl);refine⟨f',m',by rw[show j-k=j-(k+1)+1 by omega];simpa using q1,by rw[show j-k=j-(k+1)+1 by omega];simpa using q2,q3,?_⟩;simp only[stL,(by simpa[bs]using hlt:Nat.blt k j=true)];exact q4
theorem Bg{L:Nat->Bool}{u:Nat}:∀(l:List (Option Tmp×Mn)) (i:Nat) (s:S),(stL L l i s).gt u=s.gt u\/∃x t m d,l[x]?=some (t,m)/\L (i+x)=true/\m.dt=some d/\(stL L l i s).gt u=d
 |[],_,s=>.inl rfl
 |(t,m)::l,i,s=>by
  simp only[stL]
  cases hL:L i with
  |false=>
   rcases Bg (L:=L) (u:=u) l (i+1) s with h|⟨x,t',m',d,h1,h2,h3,h4⟩
   ·exact .inl h
   ·exact .inr ⟨x+1,t',m',d,by simpa using h1,by rw[show i+(x+1)=i+1+x by omega];exact h2,h3,h4⟩
  |true=>
   rcases Bg (L:=L) (u:=u) l (i+1) (mAp t m s)with h|⟨x,t',m',d,h1,h2,h3,h4⟩
   ·have h':(stL L l (i+1) (mAp t m s)).gt u=match m.dt with|some d=>if t=some u then d else s.gt u|none=>s.gt u:=h.trans (nj t m s u)
    cases hd:m.dt with
    |none=>
     rw[hd]at h';exact .inl h'
    |some d=>
     rw[hd]at h';simp only at h';by_cases e:t=some u
     ·rw[ak e]at h';exact .inr ⟨0,t,m,d,rfl,hL,hd,h'⟩
     ·rw[ah e]at h';exact .inl h'
   ·exact .inr ⟨x+1,t',m',d,by simpa using h1,by rw[show i+(x+1)=i+1+x by omega];exact h2,h3,h4⟩
theorem Hd.eqv{w0:Bs}{s s':S}{f:Nat->Value}{a:Act}{w:World}(h:Hd X0 n w0 s f a w)(e:Eqv s s'):Hd X0 n w0 s' f a w:=by
 have hm:∀p,p∈s'.ow↔p∈s.ow:=fun p=>e.ow.mem_iff.symm;have hX:XO X0 s' f=XO X0 s f:=funext fun b=>propext (by
  unfold XO;constructor
  ·rintro(h|⟨p,hp,q⟩)
   ·exact .inl h
   ·exact .inr ⟨p,(hm p).1 hp,q⟩
  ·rintro(h|⟨p,hp,q⟩)
   ·exact .inl h
   ·exact .inr ⟨p,(hm p).2 hp,q⟩)
 refine⟨h.sz,h.df,h.bl,h.x0,h.xy,h.fx,fun p hp=>h.lo p ((hm p).1 hp),fun t=>by rw[hX,<-e.gt];exact h.sl t,fun p hp=>by rw[hX];exact h.ow p ((hm p).1 hp),fun b hb=>?_,fun p hp q hq=>h.dj p ((hm p).1 hp) q ((hm q).1 hq),fun p hp q hq=>h.un p ((hm p).1 hp) q ((hm q).1 hq)⟩;obtain⟨p,hp,q⟩:=hb;exact h.nw b ⟨p,(hm p).1 hp,q⟩
structure Mix(P:Program)(X0:Nat->Prop)(n:Nat)(ops:Array Oper)(s:S)(st:List (Option Tmp×Mn))(ps:List Nat):Prop where
 len:st.length=ops.size
 row:∀j o,ops[j]?=some o->∃f p m,ps[j]?=some p/\st[j]?=some (o.dst,m)/\qO m f/\MS P X0 n ops o (stL (fun i=>Nat.blt i j) st 0 s) m f/\CI.lp j o.after.toList=true/\(∀k∈f.al,∀t,(s.gt t).is k=false)/\
  (∀i o',i<j->ops[i]?=some o'->∃f' m',st[i]?=some (o'.dst,m')/\qO m' f'/\lE ops o' o f' f p i=true)/\
  (∀i o',j<i->ops[i]?=some o'->∃f' m' p',st[i]?=some (o'.dst,m')/\qO m' f'/\ps[i]?=some p'/\lE ops o o' f f' p' j=true)
 pre:∀(i:Nat) (o:Oper) (p q:Nat),ops[i]?=some o->ps[i]?=some p->p.testBit q=true->∃e∈o.after.toList,Region.binds .any e=true/\(e.on=q\/∃p',ps[e.on]?=some p'/\p'.testBit q=true)
theorem U8{ks:List Nat}{fps:List FP}{st:List (Option Tmp×Mn)}{s':S}(hc:vR ops n ks fps=true)(hb:∀k,k∈ks->∀t,(s.gt t).is k=false)(h:aML P X0 n ops ops.toList s fps st s'):Mix P X0 n ops s st (CI.lY ops.toList []):=by
 obtain⟨k1,k2⟩:=zW hc;obtain⟨e1,_⟩:=BZ 0 h;have at':=fun j o (ho:ops[j]?=some o)=>NY 0 h j o (aQ _) (by rw[kC];simpa using ho);refine⟨by simpa using e1,fun j o ho=>?_,fun i o p q ho hp hq=>?_⟩
 ·obtain⟨f,m,q1,q2,q3,q4⟩:=at' j o ho;rw[kC]at q1 q2;obtain⟨f1,p,r1,r2,r3,r4,_,r6⟩:=k2 j o (by simpa using ho);rw[q1]at r1;simp only[an]at r1;subst r1;simp only[iI,bn]at r3 r6;refine⟨f,p,m,r2,q2,q3,q4,r3,fun k hk t=>hb k ?_ t,fun i o' hi ho'=>?_,fun i o' hi ho'=>?_⟩
  ·have:=r4 k hk;have hh:∀{l:List Nat},CI.so k l=true->k∈l:=fun {l}=>by
    induction l with
    |nil=>intro h;simp[CI.so]at h
    |cons x l ih=>
     intro h;simp only[CI.so]at h;split at h
     ·next hb=>rw[eZ hb];exact bF
     ·exact bJ _ (ih h)
   exact hh this
  ·obtain⟨f',m',q1',q2',q3',_⟩:=at' i o' ho';rw[kC]at q1' q2';exact⟨f',m',q2',q3',r6 i o' f' hi (by simpa using ho') q1'⟩
  ·obtain⟨f',m',q1',q2',q3',_⟩:=at' i o' ho';rw[kC]at q1' q2';obtain⟨f1,p',t1,t2,_,_,_,t6⟩:=k2 i o' (by simpa using ho');rw[q1']at t1;simp only[an]at t1;subst t1;simp only[iI,bn]at t6;exact⟨f',m',p',q2',q3',t2,t6 j o f hi (by simpa using ho) q1⟩
 ·have h2:=CI.Bx ops.toList [] i o (by simpa using ho);simp only[iI,bn]at h2;rw[hp]at h2;simp only[an]at h2;rw[h2]at hq;obtain⟨e,he,hb',hh⟩:=CI.pI hq;refine⟨e,he,hb',hh.imp id fun hx=>?_⟩;rw[CI.yF,gB]at hx;split at hx
  ·cases hz:(CI.lY ops.toList [])[e.on]? with
   |none=>rw[hz]at hx;simp at hx
   |some p'=>rw[hz]at hx;exact⟨p',rfl,by simpa using hx⟩
  ·simp at hx
end
end DW
end
section
open Go.RowKit
namespace DW
section
variable {P : Program} {X0 : Nat->Prop} {n : Nat} {ops : Array Oper} {Q : Exit->S->Prop} {s : S} {st : List (Option Tmp × Mn)} {ps : List Nat} {L : Nat->Bool} {j : Nat} {o : Oper}
def AQ(ps:List Nat)(L:Nat->Bool):Prop:=∀i p q,L i=true->ps[i]?=some p->p.testBit q=true->L q=true
theorem BI{t:Nat}{x:Option Tmp}{l:List Nat}(h:x=some t)(hl:t∈l):CI.sk x l=true:=by
 rw[h];exact CI.pZ hl
theorem zP{o' o:Oper}{f' f:FP}{p i:Nat}(h:lE ops o' o f' f p i=true):never f' f=false:=by
 unfold lE at h;simp only[dV,vp]at h;exact h.2
theorem zQ{o' o:Oper}{f' f:FP}{p i:Nat}(h:lE ops o' o f' f p i=true)(hc:kE ops o' o=true\/iX f' f=true):p.testBit i=true:=by
 unfold lE at h;simp only[dV,zp,vp,zh]at h;rcases h.1 with⟨h1,h2⟩|h1
 ·rcases hc with hc|hc
  ·rw[h1]at hc;cases hc
  ·rw[h2]at hc;cases hc
 ·exact h1
theorem lZ{f' f:FP}{k:Nat}(h1:k∈f.al)(h2:k∈f'.rc\/k∈f'.rs\/k∈f'.wc\/k∈f'.me\/k∈f'.al):never f' f=true:=by
 refine xC h1 ?_;simp only[eY];rcases h2 with h|h|h|h|h<;>simp[h]
theorem Sb{f' f:FP}{k:Nat}(h1:k∈f'.wc)(h2:k∈f.rc\/k∈f.wc):iX f' f=true:=by
 unfold iX;rw[xC h1 (eY.2 h2)];rfl
theorem blk_r{f' f:FP}{k:Nat}(h1:k∈f'.rc)(h2:k∈f.wc):iX f' f=true:=by
 unfold iX;rw[xC h1 h2,Bool.or_true];rfl
theorem Ay{f' f:FP}{k:Nat}(h1:k∈f'.al)(h2:k∈f.rc\/k∈f.rs\/k∈f.wc\/k∈f.me):iX f' f=true:=by
 unfold iX;rw[xC h1 (by simp only[eY];rcases h2 with h|h|h|h<;>simp[h]),Bool.or_true]
theorem Rt{m:Mn}{f:FP}{k:Nat}(h:qO m f)(ht:m.tc k=true):k∈f.wc\/k∈f.al:=by
 cases m with
 |val d=>simp[Mn.tc]at ht
 |alloc j q d=>rw[<-eZ ht];exact .inr h.1
 |store j i d=>rw[<-eZ ht];exact .inl h
theorem mk_of{m:Mn}{f:FP}{k:Nat}(h:qO m f)(ht:m.mk' k=true):k∈f.al:=by
 cases m with
 |val d=>simp[Mn.mk']at ht
 |alloc j q d=>rw[<-eZ ht];exact h.1
 |store j i d=>simp[Mn.mk']at ht
theorem dt_of{m:Mn}{f:FP}{k:Nat}{d:D}(h:qO m f)(hd:m.dt=some d)(hk:d.is k=true):k∈f.me\/k∈f.al:=by
 cases m with
 |val d'=>simp[Mn.dt]at hd;subst hd;exact .inl (h k hk)
 |alloc j q d'=>simp[Mn.dt]at hd;subst hd;rw[h.2 k hk];exact .inr h.1
 |store j i d'=>simp[Mn.dt]at hd
theorem Mix.oper(M:Mix P X0 n ops s st ps){x:Nat}{t:Option Tmp}{m:Mn}(h:st[x]?=some (t,m)):∃o,ops[x]?=some o:=by
 have:=(cB.1 h).1;rw[M.len]at this;exact⟨ops[x],mR this⟩
theorem Mix.other(M:Mix P X0 n ops s st ps)(hL:AQ ps L)(ho:ops[j]?=some o):∃f m p,st[j]?=some (o.dst,m)/\ps[j]?=some p/\qO m f/\MS P X0 n ops o (stL (fun i=>Nat.blt i j) st 0 s) m f/\(∀k∈f.al,∀t,(s.gt t).is k=false)/\
  (L j=false->(∀q,p.testBit q=true->L q=true)->∀x t' m',st[x]?=some (t',m')->∃o' f',ops[x]?=some o'/\t'=o'.dst/\qO m' f'/\
   ((x<j/\never f' f=false/\(kE ops o' o=true\/iX f' f=true->L x=true))\/(x=j)\/(j<x/\never f f'=false/\(kE ops o o'=true\/iX f f'=true->L x=false)))):=by
 obtain⟨f,p,m,h1,h2,h3,h4,h5,h6,h7,h8⟩:=M.row j o ho;refine⟨f,m,p,h2,h1,h3,h4,h6,fun hj hp x t' m' hx=>?_⟩;obtain⟨o',ho'⟩:=M.oper hx;rcases mN x j with e|e|e
 ·obtain⟨f',m'',q1,q2,q3⟩:=h7 x o' e ho';rw[hx]at q1;simp only[an,aR]at q1;obtain⟨rfl,rfl⟩:=q1;exact⟨o',f',ho',rfl,q2,.inl ⟨e,zP q3,fun hc=>hp x (zQ q3 hc)⟩⟩
 ·subst e;rw[ho]at ho';simp only[an]at ho';subst ho';rw[h2]at hx;simp only[an,aR]at hx;obtain⟨rfl,rfl⟩:=hx;exact⟨o,f,ho,rfl,h3,.inr (.inl rfl)⟩
 ·obtain⟨f',m'',p',q1,q2,q3,q4⟩:=h8 x o' e ho';rw[hx]at q1;simp only[an,aR]at q1;obtain⟨rfl,rfl⟩:=q1;refine⟨o',f',ho',rfl,q2,.inr (.inr ⟨e,zP q4,fun hc=>?_⟩)⟩;have hb:=zQ q4 hc
  cases hLx:L x with
  |false=>rfl
  |true=>
   have:=hL x p' j hLx q3 hb;rw[hj]at this;cases this
theorem iE{b:Bool}(h:b=false)(h':b=true):False:=by rw[h]at h';cases h'
theorem BQ{i k:Nat}(h:i<k):Nat.blt i k=true:=by rw[bs];exact h
theorem Mix.step(M:Mix P X0 n ops s st ps)(hL:AQ ps L)(ho:ops[j]?=some o)(hj:L j=false)(hp:∀p q,ps[j]?=some p->p.testBit q=true->L q=true){L':Nat->Bool}(h2:L' j=true)(h3:∀x,x≠j->L' x=L x):
  ∃m,(∀w0 g a w,Hd X0 n w0 (stL L st 0 s) g a w->∀Qx:Exit->Act->World->Prop,
   if Region.wanted o (yielded ops a.tmps)=true then o.wp P a w (fun a' w'=>∃g',Hd X0 n w0 (mAp o.dst m (stL L st 0 s)) g' a' w') Qx else∃g',Hd X0 n w0 (mAp o.dst m (stL L st 0 s)) g' (a.put o.dst undef) w)/\Eqv (mAp o.dst m (stL L st 0 s)) (stL L' st 0 s):=by
 obtain⟨f,m,p,e1,e2,e3,e4,e5,e6⟩:=M.other (L:=L) hL ho;have oth:=e6 hj (fun q hq=>hp p q e2 hq);refine⟨m,e4 _ ⟨fun t ht=>?_,fun k hk=>?_,fun k hk=>?_,fun k hk=>⟨?_,fun t=>?_⟩⟩,?_⟩
 ·refine LR st 0 s s rfl fun x m' hx=>?_;rw[bn];obtain⟨o',f',q1,q2,q3,q4⟩:=oth x _ m' hx;rcases q4 with⟨e,_,hc⟩|e|⟨e,_,hc⟩
  ·rw[BQ e];refine hc (.inl ?_);unfold kE;rw[BI q2.symm ht];rfl
  ·subst e;rw[hj,oX (af _)]
  ·rw[oX (bO e)];refine hc (.inl ?_);unfold kE;rw[BI q2.symm ht,Bool.or_true];rfl
 ·refine Bi st 0 s s rfl fun x t' m' hx hm=>?_;rw[bn];obtain⟨o',f',q1,q2,q3,q4⟩:=oth x _ m' hx;have ht:=Rt q3 hm;rcases q4 with⟨e,hn,hc⟩|e|⟨e,hn,hc⟩
  ·rw[BQ e];exact hc (.inr (ht.elim (fun h=>Sb h (.inl hk)) (fun h=>Ay h (.inl hk))))
  ·subst e;rw[hj,oX (af _)]
  ·rw[oX (bO e)];rcases ht with ht|ht
   ·exact hc (.inr (blk_r hk ht))
   ·exact(iE hn (lZ ht (.inl hk))).elim
 ·refine Hg st 0 s s rfl fun x t' m' hx hm=>?_;rw[bn];obtain⟨o',f',q1,q2,q3,q4⟩:=oth x _ m' hx;have ht:=mk_of q3 hm;rcases q4 with⟨e,hn,hc⟩|e|⟨e,hn,hc⟩
  ·rw[BQ e];exact hc (.inr (Ay ht (.inr (hk.elim .inl (fun h=>.inr (.inl h))))))
  ·subst e;rw[hj,oX (af _)]
  ·exact(iE hn (lZ ht (.inr (hk.elim .inl (fun h=>.inr (.inl h)))))).elim
 ·refine Bi st 0 s s rfl fun x t' m' hx hm=>?_;rw[bn];obtain⟨o',f',q1,q2,q3,q4⟩:=oth x _ m' hx;have ht:=Rt q3 hm;rcases q4 with⟨e,hn,hc⟩|e|⟨e,hn,hc⟩
  ·exact(iE hn (lZ hk (by rcases ht with h|h<;>simp[h]))).elim
  ·subst e;rw[hj,oX (af _)]
  ·rw[oX (bO e)];rcases ht with ht|ht
   ·exact hc (.inr (Ay hk (by simp[ht])))
   ·exact(iE hn (lZ ht (by simp[hk]))).elim
 ·rcases Bg (L:=L) (u:=t) st 0 s with h|⟨x,t',m',d,q1,q2,q3,q4⟩
  ·rw[h];exact e5 k hk t
  ·rw[q4]
   cases hd:d.is k with
   |false=>rfl
   |true=>
    exfalso;rw[bn]at q2;obtain⟨o',f',_,_,r3,r4⟩:=oth x _ m' q1;have ht:=dt_of r3 q3 hd;rcases r4 with⟨e,hn,_⟩|e|⟨e,hn,hc⟩
    ·exact iE hn (lZ hk (by rcases ht with h|h<;>simp[h]))
    ·subst e;exact iE hj q2
    ·rcases ht with ht|ht
     ·exact iE (hc (.inr (Ay hk (by simp[ht])))) q2
     ·exact iE hn (lZ ht (by simp[hk]))
 ·refine EF st 0 j s (aQ _) (by rw[kC];exact e1) hj h2 h3 fun x t' m' hx hs hLx=>?_;rw[bn]at hx hLx;obtain⟨o',f',q1,q2,q3,q4⟩:=oth x _ m' hs;rcases q4 with⟨e,_⟩|e|⟨e,hn,hc⟩
  ·omega
  ·omega
  ·refine⟨fun u h1 h2=>?_,fun k q d k' i' d' h1 h2 hk=>?_,fun k q d k' i' d' h1 h2 hk=>?_,fun k i d k' i' d' h1 h2 hk=>?_⟩
   ·refine iE (hc (.inl ?_)) hLx;unfold kE;rw[BI (x:=o'.dst) (l:=o.dst.toList) (q2.symm.trans h2) (by rw[h1];simp),Bool.or_true]
   ·subst h1;subst h2;subst hk;exact iE (hc (.inr (Ay e3.1 (.inr (.inr (.inl q3)))))) hLx
   ·subst h1;subst h2;subst hk;exact iE hn (lZ q3.1 (.inr (.inr (.inl e3))))
   ·subst h1;subst h2;subst hk;exact iE (hc (.inr (Sb e3 (.inr q3)))) hLx
theorem Tp(M:Mix P X0 n ops s st ps){Qx:Exit->Act->World->Prop}{w0:Bs}(hq:∀g a w,Hd X0 n w0 (stL (fun _=>true) st 0 s) g a w->Qx .normal a w):∀(fuel:Nat) (listed:Array Bool) (a:Act) (w:World) (g:Nat->Value) (U:List Nat),listed.size=ops.size->U.length<=fuel->(∀i,i<ops.size->listed.getD i false=false->i∈U)->
  AQ ps (fun i=>listed.getD i false)->Hd X0 n w0 (stL (fun i=>listed.getD i false) st 0 s) g a w->wpAny P .any ops Qx fuel listed a w:=by
 have done:∀(listed:Array Bool) (a:Act) (w:World) (g:Nat->Value),(∀i,i<ops.size->listed.getD i false=true)->Hd X0 n w0 (stL (fun i=>listed.getD i false) st 0 s) g a w->Qx .normal a w:=fun listed a w g hall hh=>by
  refine hq g a w (hh.eqv (Eqv.of ?_));have key:∀(l:List (Option Tmp×Mn)) (i:Nat) (σ:S),(∀x,x<l.length->listed.getD (i+x) false=true)->stL (fun i=>listed.getD i false) l i σ=stL (fun _=>true) l i σ:=fun l=>by
   induction l with
   |nil=>intro i σ _;rfl
   |cons x l ih=>
    intro i σ hx;obtain⟨t,m⟩:=x;have h0:=hx 0 aK;rw[cg]at h0;simp only[stL,h0];exact ih (i+1) _ fun y hy=>by
     have:=hx (y+1) cX;rwa[show i+(y+1)=i+1+y by omega]at this
  exact key st 0 s fun x hx=>by rw[bn];exact hall x (by rw[<-M.len];exact hx)
 have unl:∀(listed:Array Bool) (j:Nat),listed.size=ops.size->listed.getD j true=false->j<ops.size/\listed.getD j false=false:=fun listed j hs hl=>by
  rw[cV]at hl
  cases e:listed[j]? with
  |none=>rw[e]at hl;simp at hl
  |some b=>
   rw[e]at hl;have hlt:=(gS.1 e).1;refine⟨by omega,?_⟩;rw[cV,e];simpa using hl
 intro fuel
 induction fuel with
 |zero=>
  intro listed a w g U hs hU hin hcl hh;have hUn:U=[]:=fN aa;subst hUn;have hall:∀i,i<ops.size->listed.getD i false=true:=fun i hi=>by
   cases hb:listed.getD i false with
   |true=>rfl
   |false=>exact absurd (hin i hi hb) aK
  refine⟨?_,done listed a w g hall hh⟩
  cases hr:Region.ready .any ops listed with
  |nil=>rfl
  |cons x xs=>
   exfalso;have hx:x∈Region.ready .any ops listed:=by rw[hr];exact bF
   obtain⟨h1,h2⟩:=unl listed x hs (mem_ready.1 hx).1;rw[hall x h1]at h2;cases h2
 |succ fuel ih=>
  intro listed a w g U hs hU hin hcl hh;refine⟨fun hr=>?_,fun j hj=>?_⟩
  ·refine done listed a w g (fun i=>?_) hh
   induction i using Nat.strongRecOn with
   |_ i ihi=>
    intro hi
    cases hb:listed.getD i false with
    |true=>rfl
    |false=>
     exfalso;have hmem:i∈Region.ready .any ops listed:=by
      refine mem_ready.2 ⟨?_,ops[i],mR hi,fun e he hbd=>?_⟩
      ·have e:=mR (xs:=listed) (i:=i) aa;rw[cV,e]at hb⊢;simpa using hb
      ·obtain⟨_,_,_,_,_,_,_,h5,_⟩:=M.row i ops[i] (mR hi);have hlt:=CI.qG h5 e tN hbd;exact ihi e.on hlt aa
     rw[hr]at hmem;cases hmem
  ·obtain⟨h1,o,ho,h3⟩:=mem_ready.1 hj;obtain⟨hjs,hjl⟩:=unl listed j hs h1;have hpre:∀p q,ps[j]?=some p->p.testBit q=true->listed.getD q false=true:=fun p q hp hq=>by
    obtain⟨e,he,hbd,hx⟩:=M.pre j o p q ho hp hq;have hl:=h3 e tN hbd;rcases hx with hx|⟨p',hp',hq'⟩
    ·rw[<-hx];exact hl
    ·exact hcl e.on p' q hl hp' hq'
   have hset1:(listed.setIfInBounds j true).getD j false=true:=by
    simp[cV,sQ,show j<listed.size by omega]
   have hset2:∀i,i≠j->(listed.setIfInBounds j true).getD i false=listed.getD i false:=fun i e=>by
    simp[cV,Ek (Ne.symm e)]
   obtain⟨m,hstep,heq⟩:=M.step (L:=fun i=>listed.getD i false) hcl ho hjl hpre (L':=fun i=>(listed.setIfInBounds j true).getD i false) hset1 hset2;have hjU:j∈U:=hin j hjs hjl;have hcl':AQ ps (fun i=>(listed.setIfInBounds j true).getD i false):=fun i p q hi hp hq=>by
    have key:listed.getD q false=true:=by
     by_cases e:i=j
     ·subst e;exact hpre p q hp hq
     ·exact hcl i p q (by show listed.getD i false=true;rw[<-hset2 i e];exact hi) hp hq
    by_cases e:q=j
    ·subst e;exact hset1
    ·simp only[hset2 q e];exact key
   have go:∀g' a' w',Hd X0 n w0 (mAp o.dst m (stL (fun i=>listed.getD i false) st 0 s)) g' a' w'->wpAny P .any ops Qx fuel (listed.setIfInBounds j true) a' w':=fun g' a' w' h=>by
    refine ih _ _ _ g' (U.erase j) (by simp[hs]) (by rw[List.length_erase_of_mem hjU];omega) (fun i hi hb=>?_) hcl' (h.eqv heq);have hne:i≠j:=fun e=>by subst e;rw[hset1]at hb;cases hb
    exact(List.mem_erase_of_ne hne).2 (hin i hi (by rw[<-hset2 i hne];exact hb))
   refine wpOp_step ho fun K' hK=>?_;have:=hstep w0 g a w hh Qx;split
   ·next hw=>
    rw[ak hw]at this;exact Oper.wp_mono (fun a' w' ⟨g',h⟩=>hK _ _ (go g' a' w' h)) this
   ·next hw=>
    rw[ah hw]at this;obtain⟨g',h⟩:=this;exact hK _ _ (go g' _ _ h)
def ko:List Nat->List (Nat×D)->List (Nat×D)
 |[],sl=>sl
 |k::ks,sl=>kill k (ko ks sl)
theorem FB:∀{ks:List Nat} {sl:List (Nat×D)} {k:Nat},k∈ks->∀t,(look (ko ks sl) t).is k=false
 |j::ks,sl,k,h,t=>by
  simp only[ko];rcases kJ j (ko ks sl) t with⟨h1,h2⟩|h1
  ·rcases bP.1 h with e|e
   ·subst e;rw[h1];exact h2
   ·rw[h1];exact FB e t
  ·rw[h1];rfl
theorem FN:∀(ks:List Nat) {w0:Bs} {w:World} {f:Nat->Value} {a:Act} {sl:List (Nat×D)} {ow:List (Nat×Ow)},Hd X0 n w0 ⟨sl,ow⟩ f a w->Hd X0 n w0 ⟨ko ks sl,ow⟩ f a w
 |[],_,_,_,_,_,_,h=>h
 |_::ks,_,_,_,_,_,_,h=>(FN ks h).kill
theorem Vy{id:Nat}{l:List Oper}(ks:List Nat){fps:List FP}(hm:P.follows .mixedOrders=true)(h:aM P X0 n l.toArray l ⟨ko ks s.sl,s.ow⟩ fps (Q .normal))(hc:vR l.toArray n ks fps=true):aW P X0 n (.region id l.toArray true) Q s:=fun w0 f a w hd=>by
 obtain⟨st,s',h1,h2⟩:=NV h;have M:=U8 (P:=P) (X0:=X0) (s:=⟨ko ks s.sl,s.ow⟩) (st:=st) (s':=s') hc (fun k hk t=>FB hk t) (by simpa using h1);obtain⟨_,e2⟩:=BZ 0 h1;refine wp_region_any hm (Tp M (w0:=w0) (fun g a' w' hh=>?_) _ _ a _ f (List.range l.toArray.size) aK aK (fun i hi _=>List.mem_range.2 hi) ?_ ?_)
 ·rw[<-e2]at hh;exact⟨s',g,hh,h2⟩
 ·intro i p q hi;simp only[cV,Ej]at hi;split at hi<;>simp at hi
 ·have hz : stL (fun i => (Array.replicate l.toArray.size false).getD i false) st 0 ⟨ko ks s.sl, s.ow⟩ = ⟨ko ks s.sl, s.ow⟩ := yp _ _ _ fun i _ => by
   simp only[cV,Ej];split<;>rfl
  rw[hz];exact(FN ks hd).grow ((Below.refl _ w).drew)
end
end DW
end
end Go.Proofs.YtcgjmdpcplhanaaGreat
