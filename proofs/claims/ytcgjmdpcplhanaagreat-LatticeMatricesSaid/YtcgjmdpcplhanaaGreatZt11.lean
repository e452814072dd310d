/- Lemmas for the law: Q21 Q22 Q23 Q24 Q25 W20 Q26 Q27 E28 E30 M5 V28 V29 M12 M14 -/
import Derived.BigQuiet
import Derived.Deep.CutRange
import Derived.Deep.LoopGhost
import Derived.Test.YtcgjmdpcplhanaaGreatZt10
namespace Go.Proofs.YtcgjmdpcplhanaaGreat
section
theorem zb70{p:Prop}(h:p:=by rw[D.out.2.2.2];exact Nat.div_le_self _ _):p:=h
theorem zb48{p:Prop}(h:p:=by rw[<-HQ.out];exact dm D.out.2.2.1 H1.out.nf.dg zb70):p:=h
theorem zb68{p:Prop}(h:p:=by simp[results,Tryz.results96,go_sem,t0,t1]):p:=h
end
section
open Go.RowKit
namespace CI
variable {P : Program} {h h' : H} {tm tm' : Tm} {rec : Rec} {n : Nat} {r : List RO} {S : Nat->SD} {ops : Array Oper}
theorem Trace.mono(t:Trace rec r tm h tm' h' S)(hg:ct rec)(f:Wf h){i j:Nat}(hij:i<=j)(hj:j<=r.length):(S i).h.next<=(S j).h.next:=by
 have:=(t.gdm hg f (j-i) i (by omega)).good.next
 rwa[show i+(j-i)=j by omega]at this
theorem Trace.low(t:Trace rec r tm h tm' h' S)(hg:ct rec)(f:Wf h){i j:Nat}(hij:i<=j)(hj:j<=r.length):(S j).h.low<=(S i).h.low:=by
 have:=(t.gdm hg f (j-i) i (by omega)).good.low;rwa[show i+(j-i)=j by omega]at this
theorem mG{g h1:H}{k:Nat}(e:T.get h1.t k=T.get g.t k):(g.whole h1).get k=g.get k:=by
 unfold H.get;show(match bL k g.forb with|true=>none|false=>T.get h1.t k)=_;rw[e];rfl
theorem oX{g g':H}{ob:Option B}(e:g.gL ob=some g'){k:Nat}(hk:k<g.next):g'.get k=g.get k:=by
 cases ob with
 |none=>simp only[H.gL,Option.some.injEq]at e;rw[e]
 |some b=>
  obtain⟨_,_,h3,_,h5⟩:=bF e;exact qd h3 (by rw[h5,if_neg (by omega)])
theorem Trace.Dr(t:Trace rec r tm h tm' h' S)(hg:ct rec)(f:Wf h){i k:Nat}(hi:i<r.length)(hw:(S (i+1)).wr=false)(hk:k<(S i).h.next):(S (i+1)).h.get k=(S i).h.get k:=by
 obtain⟨o,ho⟩:∃o,r[i]?=some o:=⟨_,List.getElem?_eq_getElem hi⟩;have f1:=(t.gd hg f i (by omega)).1;rcases(t.cases ho).2 with⟨_,_,e,_⟩|⟨_,_,_,_,_,ob,_,e,_⟩|⟨_,_,_,h1,e1,e2,e3,_⟩
 ·rw[e]
 ·exact oX e hk
 ·rw[e2];refine mG ((jJ hg (gX f1) e1).good.keep k hk ?_);rw[e3]at hw;refine Nat.lt_of_lt_of_le hk (Nat.le_of_not_lt fun hlt=>?_);rw[<-Nat.blt_eq]at hlt;rw[hlt]at hw;cases hw
theorem Trace.keepO(t:Trace rec r tm h tm' h' S)(hg:ct rec)(f:Wf h){i k q:Nat}{ro:RO}(hi:r[i]?=some ro)(hq:q<i)(hp:ro.pre.testBit q=false)(h1:(S q).h.next<=k)(h2:k<(S (q+1)).h.next):(S (i+1)).h.get k=(S i).h.get k:=by
 have hlt:=(List.getElem?_eq_some_iff.1 hi).1;have hk:k<(S i).h.next:=Nat.lt_of_lt_of_le h2 (t.mono hg f hq (by omega))
 have f1:=(t.gd hg f i (by omega)).1;rcases(t.cases hi).2 with⟨_,_,e,_⟩|⟨_,_,_,_,_,ob,_,e,_⟩|⟨_,_,_,g1,e1,e2,e3,_⟩
 ·rw[e]
 ·exact oX e hk
 ·rw[e2];refine mG ((jJ hg (gX f1) e1).good.dead k hk fun hl=>?_);have:=fG hl;rw[show((S i).h.part ro.pre (S i).iv).forb=eH ro.pre (S i).iv (S i).h.forb from rfl,mY ((t.iv i (by omega)).2 q hq (by omega)) hp h1 h2]at this;cases this
theorem Trace.ph(t:Trace rec r tm h tm' h' S){i:Nat}(hi:i<r.length)(hw:(S (i+1)).wr=true):(S (i+1)).rd=true:=by
 obtain⟨o,ho⟩:∃o,r[i]?=some o:=⟨_,List.getElem?_eq_getElem hi⟩;rcases(t.cases ho).2 with⟨_,_,_,e,_⟩|⟨_,_,e,_⟩|⟨_,_,e,_⟩
 ·rw[e]at hw;cases hw
 ·rw[e]at hw;cases hw
 ·exact e
theorem Trace.bound(t:Trace rec r tm h tm' h' S){i j:Nat}{ro:RO}(hij:i<j)(hj:r[j]?=some ro)(hh:((S (i+1)).wr=true/\(S (j+1)).rd=true)\/((S (i+1)).rd=true/\(S (j+1)).wr=true)):ro.pre.testBit i=true:=by
 have hlt:=(List.getElem?_eq_some_iff.1 hj).1;have hri:(S (i+1)).rd=true:=by
  rcases hh with⟨h1,_⟩|⟨h1,_⟩
  ·exact t.ph (by omega) h1
  ·exact h1
 have hrj:(S (j+1)).rd=true:=by
  rcases hh with⟨_,h1⟩|⟨_,h1⟩
  ·exact h1
  ·exact t.ph hlt h1
 rcases(t.cases hj).2 with⟨_,_,_,_,e,_⟩|⟨_,_,_,e,_⟩|⟨_,_,_,g1,_,_,_,e4,_⟩
 ·rw[e]at hrj;cases hrj
 ·rw[e]at hrj;cases hrj
 ·refine od e4 (t.rw' j (by omega) i hij hri) ?_;rcases hh with⟨h1,_⟩|⟨_,h1⟩<;>simp[h1]
theorem stay{k x:Nat}:∀{y:Nat},x<=y->(∀i,x<=i->i<y->(S (i+1)).h.get k=(S i).h.get k)->(S y).h.get k=(S x).h.get k:=fun {y} hxy=>by
 induction y with
 |zero=>intro _;rw[show x=0 by omega]
 |succ y ih=>
  intro hh;by_cases hx:x=y+1
  ·rw[hx]
  ·rw[hh y (by omega) (by omega),ih (by omega) fun i h1 h2=>hh i h1 (by omega)]
theorem Trace.owner(t:Trace rec r tm h tm' h' S){k:Nat}:∀{j:Nat},(S 0).h.next<=k->k<(S j).h.next->∃q,q<j/\(S q).h.next<=k/\k<(S (q+1)).h.next
 |0,h1,h2=>by omega
 |j+1,h1,h2=>by
  by_cases hk:k<(S j).h.next
  ·obtain⟨q,q1,q2⟩:=t.owner h1 hk;exact⟨q,by omega,q2⟩
  ·exact⟨j,by omega,by omega,h2⟩
structure DL(P:Program)(S:Nat->SD)(ops:Array Oper)(j:Nat)(o:Oper)(pre:Nat)(G h1:H):Prop where
 nx:G.next=(S j).h.next
 nx1:h1.next=(S (j+1)).h.next
 g1:∀k b,G.get k=some b->k<(S j).h.next/\(S j).h.get k=some b/\(S (j+1)).rd=true/\∀q,q<j->(S q).h.next<=k->k<(S (q+1)).h.next->pre.testBit q=true
 g2:∀k b,(S j).h.next<=k->(S (j+1)).h.get k=some b->h1.get k=some b
 g3:∀k,G.live k->(S (j+1)).h.get k=h1.get k
 g4:∀k,k<(S j).h.next->¬G.live k->(S (j+1)).h.get k=(S j).h.get k
 g5:(S (j+1)).wr=false->∀k,G.live k->h1.get k=G.get k
 low:∀k,G.live k->h1.low<=k->(S (j+1)).h.low<=k
 bd:(S j).h.next<=1000000
 wp:∀(F:Fence) (_:FC F) (Q:Exit->Act->World->Prop) (K:Act->World->Prop) (A:Nat->Prop) (ρ:Nat->Nat) (w:World) (a:Act),Rel P A ρ w G->Dj A G h1->(∀u,u∈looks ops o->VR P A ρ w (CO.ev (S j).tm (CO.t u)) (a.tmps.getD u undef))->
  (∀u w' ρ',bg P A ρ w G ρ' w' h1->VR P (Ext A G h1) ρ' w' (S (j+1)).v u->K (a.put o.dst u) w')->wpOpIn F 0 P ops Q j K a w
def bare(k:Nat):H:=⟨k,k,[],.e⟩
theorem mf(k j:Nat):(bare k).get j=none:=by
 unfold H.get bare;simp only[bL,T.qe]
theorem fW(k j:Nat):¬(bare k).live j:=by unfold H.live;rw[mf];simp
theorem uH{A:Nat->Prop}{ρ:Nat->Nat}{w:World}{a:Act}{o:Oper}{tm:Tm}(hl:∀u,u∈looks ops o->VR P A ρ w (CO.ev tm (CO.t u)) (a.tmps.getD u undef)):HV P A ρ w tm a o:=fun y hy=>by
 cases y with
 |tmp u=>
  have:=hl u (by
   unfold looks;exact List.mem_append_right _ (List.mem_filterMap.2 ⟨.tmp u,by simpa using hy,rfl⟩))
  unfold OpV;simpa[ao,Act.eval]using this
 |const v=>exact sC v
 |global g=>simp only[OpV,ao,CO.ev,VR]
 |func g=>
  show VR P A ρ w (.fn g []) (.func (.func g) #[] #[]);simp only[VR,VRl];exact⟨_,rfl,rfl⟩
theorem Eh(hrec:gM P rec)(hg:ct rec)(t:Trace rec r tm h tm' h' S)(st:Stat P n ops r)(f:Wf h){j:Nat}{o:Oper}(ho:ops[j]?=some o):∃ro G h1,r[j]?=some ro/\bG n o.dst=true/\(S (j+1)).tm=eM (S j).tm o.dst (S (j+1)).v/\DL P S ops j o ro.pre G h1:=by
 obtain⟨g,p,hr,hdst,hgd⟩:=st.row j o ho;have hjl:j<r.length:=(List.getElem?_eq_some_iff.1 hr).1;obtain⟨f1,_⟩:=t.gd hg f j (by omega);obtain⟨ht,hcs⟩:=t.cases hr;have hwant:∀(A:Nat->Prop) (ρ:Nat->Nat) (w:World) (a:Act) (b:Bool),eZ ⟨o.dst,g,(match aq P o.op with|some x=>x|none=> .bad),p⟩ (S j).tm=some b->(∀u,u∈looks ops o->VR P A ρ w (CO.ev (S j).tm (CO.t u)) (a.tmps.getD u undef))->Region.wanted o (yielded ops a.tmps)=b:=fun A ρ w a b hw hl=>by
  refine ln (P:=P) (A:=A) (ρ:=ρ) (w:=w) hgd hw fun u c hc=>hl u ?_;unfold looks;refine List.mem_append_left _ ?_
  cases hog:o.guard with
  |none=>rw[hog]at hgd;simp only[Option.some.injEq]at hgd;rw[<-hgd]at hc;cases hc
  |some q=>
   obtain⟨q1,q2⟩:=q;rw[hog]at hgd;simp only at hgd⊢;obtain⟨u',e1,e2⟩:=ai hgd;rw[hc]at e2;simp only[Option.some.injEq,Prod.mk.injEq]at e2;rw[e1,e2.1];simp
 rcases hcs with⟨hw,hv,hh,hwr,hrd,_⟩|⟨hw,hT,hwr,hrd,_,ob,e1,e2,_⟩|⟨hw,hT,hrd,h1,e1,e2,e3,e4,_⟩
 ·refine⟨_,bare (S j).h.next,bare (S j).h.next,hr,hdst,ht,rfl,(by rw[hh];rfl),(fun k b e=>by rw[mf]at e;cases e),fun k b hk e=>?_,fun k hl=>absurd hl (fW _ _),(fun k _ _=>by rw[hh]),fun _ k hl=>absurd hl (fW _ _),fun k hl=>absurd hl (fW _ _),f1.bd,fun F hF Q K A ρ w a tR hd hl hK=>?_⟩
  ·rw[hh]at e;have:=f1.lt k b (eV e);omega
  ·unfold wpOpIn;simp only[ho];rw[hwant A ρ w a false hw hl,if_neg (by simp)];exact⟨fun g _=>hF.fn g,hK undef w ρ (bg.refl tR) (by rw[hv];simp only[VR])⟩
 ·obtain ⟨h1, e3⟩ : ∃ h1, (bare (S j).h.next).gL ob = some h1 := by
   cases ob with
   |none=>exact⟨_,rfl⟩
   |some b=>
    have:=(bF e2).2.2.2.1;exact⟨_,by
     show(bare (S j).h.next).new b=_;unfold H.new bare;rw[(by simpa[Nat.blt_eq]using this:Nat.blt (S j).h.next 1000000=true)]⟩
  have hcc:=th (P:=P) (o:=o) rfl (.inr fun e5=>by
   have e6:=(congrArg (fun x=>xT x (S j).tm (S j).h.next) e5).symm.trans e1;rw[yV]at e6;cases e6)
  have hn1:h1.next=(S (j+1)).h.next:=by
   cases ob with
   |none=>
    simp only[H.gL,Option.some.injEq]at e2 e3;rw[<-e2,<-e3];rfl
   |some b=>rw[(bF e3).1,(bF e2).1];rfl
  refine⟨_,bare (S j).h.next,h1,hr,hdst,ht,rfl,hn1,(fun k b e=>by rw[mf]at e;cases e),fun k b hk e=>?_,fun k hl=>absurd hl (fW _ _),fun k hk _=>oX e2 hk,fun _ k hl=>absurd hl (fW _ _),fun k hl=>absurd hl (fW _ _),f1.bd,fun F hF Q K A ρ w a tR hd hl hK=>?_⟩
  ·cases ob with
   |none=>
    simp only[H.gL,Option.some.injEq]at e2;rw[<-e2]at e;have:=f1.lt k b (eV e);omega
   |some b'=>
    obtain⟨q1,q2,q3,q4,q5⟩:=bF e2;obtain⟨s1,s2,s3,s4,s5⟩:=bF e3;have e':=eV e;rw[q5]at e';split at e'
    ·next hk'=>
     simp only[Option.some.injEq]at e';subst e';unfold H.get;rw[s3];simp only[bare,bL];rw[s5];exact if_pos hk'
    ·have:=f1.lt k b e';omega
  ·unfold wpOpIn;simp only[ho];rw[hwant A ρ w a true hw hl,if_pos rfl];exact yi hF (jB ⟨_,hcc⟩) (t_me (h:=bare (S j).h.next) hcc hT e1 e3 (uH hl) tR hd) hK
 ·have hcc:=th (P:=P) (o:=o) rfl (.inl hT);have gp:=jJ hg (gX f1) e1;have hout:∀k,(S j).h.next<=k->bL k (eH p (S j).iv (S j).h.forb)=bL k (S j).h.forb:=fun k hk=>sM fun x hx=>by
   obtain⟨q,hq,rfl⟩:=(t.iv j (by omega)).1 x hx;have:=t.mono hg f (show q+1<=j by omega) (by omega);simp only;omega
  refine⟨_,(S j).h.part p (S j).iv,h1,hr,hdst,ht,rfl,(by rw[e2];rfl),fun k b e=>⟨f1.lt k b (eV (lE e)),lE e,hrd,fun q hq q1 q2=>?_⟩,fun k b hk e=>?_,fun k hl=>?_,fun k hk hl=>?_,fun hw0 k hl=>?_,fun k _ hlo=>?_,f1.bd,fun F hF Q K A ρ w a tR hd hl hK=>?_⟩
  ·cases hp:p.testBit q with
   |true=>rfl
   |false=>
    have:=fG (aG e);rw[show((S j).h.part p (S j).iv).forb=eH p (S j).iv (S j).h.forb from rfl,mY ((t.iv j (by omega)).2 q hq (by omega)) hp q1 q2]at this;cases this
  ·rw[e2]at e;have hf:=gp.good.forb;unfold H.get at e⊢;rw[hf,show((S j).h.part p (S j).iv).forb=eH p (S j).iv (S j).h.forb from rfl,hout k hk];exact e
  ·rw[e2];have hb:=fG hl;have hb2:bL k (S j).h.forb=false:=eQ p k _ _ hb;unfold H.get;rw[gp.good.forb,hb];show(match bL k (S j).h.forb with|true=>none|false=>T.get h1.t k)=_;rw[hb2]
  ·rw[e2];exact mG (gp.good.dead k hk hl)
  ·have hk : k < (S j).h.next := by
    obtain⟨b,eb⟩:=Option.isSome_iff_exists.1 hl;exact f1.lt k b (eV (lE eb))
   rw[e3]at hw0;refine qd gp.good.forb (gp.good.keep k hk (Nat.lt_of_lt_of_le hk (Nat.le_of_not_lt fun hlt=>?_)));rw[<-Nat.blt_eq]at hlt;rw[hlt]at hw0;cases hw0
  ·rw[e2];exact Nat.le_trans (sd _ _).2 hlo
  ·unfold wpOpIn;simp only[ho];rw[hwant A ρ w a true hw hl,if_pos rfl];exact r_wp hrec hF hcc hT e1 (gX f1) (uH hl) tR hd hK
end CI
end
section
open Go.RowKit
namespace CI
variable {P : Program} {h h' : H} {tm tm' : Tm} {rec : Rec} {n : Nat} {r : List RO} {S : Nat->SD} {ops : Array Oper} {A : Nat->Prop} {ρ ρ1 ρ2 : Nat->Nat} {w w1 w2 : World} {a : Act} {ds : List Nat} {L : Nat->Prop} {s j : Nat}
def AL(A:Nat->Prop)(S:Nat->SD)(L:Nat->Prop)(k:Nat):Prop:=A k\/∃i,L i/\(S i).h.next<=k/\k<(S (i+1)).h.next
def Lv(S:Nat->SD)(L:Nat->Prop)(s k:Nat)(b:B):Prop:=(k<(S 0).h.next/\(S s).h.get k=some b)\/∃i,L i/\(S i).h.next<=k/\k<(S (i+1)).h.next/\(S (max s (i+1))).h.get k=some b
structure Inv(P:Program)(S:Nat->SD)(ops:Array Oper)(r:List RO)(h':H)(n:Nat)(ds:List Nat)(A:Nat->Prop)(ρ:Nat->Nat)(w:World)(L:Nat->Prop)(s:Nat)(ρ1:Nat->Nat)(a:Act)(w1:World):Prop where
 cl:∀i ro q,L i->r[i]?=some ro->ro.pre.testBit q=true->L q
 lN:∀i,L i->i<r.length
 s0:s<=r.length
 sl:∀i,i<s->(S (i+1)).wr=true->L i
 sr:∀i,s<=i->i<r.length->(S (i+1)).wr=true->¬L i
 tmv:∀t,(∃i o,L i/\ops[i]?=some o/\o.dst=some t/\(∀i' o',L i'->i<i'->ops[i']?=some o'->o'.dst≠some t)/\VR P (AL A S L) ρ1 w1 (S (i+1)).v (a.tmps.getD t undef))\/
  ((∀i o,L i->ops[i]?=some o->o.dst≠some t)/\VR P (AL A S L) ρ1 w1 (CO.ev (S 0).tm (CO.t t)) (a.tmps.getD t undef))
 sz:a.tmps.size=n
 df:a.defers=ds.map (nd ρ)
 blk:∀k b,Lv S L s k b->ρ1 k<w1.heap.size/\BR P (AL A S L) ρ1 w1 (ρ1 k) b
 inj:∀k b k' b',Lv S L s k b->Lv S L s k' b'->ρ1 k=ρ1 k'->k=k'
 lt:Lt w w1
 fr:∀b,b<w.heap.size->(∀k,(S 0).h.live k->h'.low<=k->ρ k≠b)->w1.heap[b]?=w.heap[b]?
 rho:∀k,(k<(S 0).h.next\/h'.next<=k)->ρ1 k=ρ k
 new:∀k b,Lv S L s k b->(S 0).h.next<=k->w.heap.size<=ρ1 k\/∃i,(S 0).h.live i/\h'.low<=i/\ρ1 k=ρ i
theorem xM(t:Trace rec r tm h tm' h' S)(st:Stat P n ops r)(hn:n<1000000)(u:Nat):∀j,j<=r.length->(∃i o,i<j/\ops[i]?=some o/\o.dst=some u/\(∀i' o',i'<j->i<i'->ops[i']?=some o'->o'.dst≠some u)/\CO.ev (S j).tm (CO.t u)=(S (i+1)).v)\/
  ((∀i o,i<j->ops[i]?=some o->o.dst≠some u)/\CO.ev (S j).tm (CO.t u)=CO.ev (S 0).tm (CO.t u))
 |0,_=> .inr ⟨fun i o hi=>by omega,rfl⟩
 |j+1,hj=>by
  have hjo:j<ops.size:=by rw[<-st.len];omega
  obtain⟨o,ho⟩:∃o,ops[j]?=some o:=⟨_,Array.getElem?_eq_getElem hjo⟩;obtain⟨g,p,hr,hdst,_⟩:=st.row j o ho;have ht:=(t.cases hr).1;have ih:=xM t st hn u j (by omega);by_cases hd:o.dst=some u
  ·refine .inl ⟨j,o,by omega,ho,hd,fun i' o' h1 h2=>by omega,?_⟩;have hu:u<n:=by rw[hd]at hdst;simpa[bG,Nat.blt_eq]using hdst
   rw[ht];simp only[eM,hd];rw[qg (t:=u) (by omega),if_pos rfl]
  ·have hsame : CO.ev (S (j + 1)).tm (CO.t u) = CO.ev (S j).tm (CO.t u) := by
    rw[ht]
    cases hdd:o.dst with
    |none=>rfl
    |some v=>
     have hv:v<n:=by rw[hdd]at hdst;simpa[bG,Nat.blt_eq]using hdst
     simp only[eM];rw[qg (t:=v) (Nat.lt_trans hv hn),if_neg (fun e=>hd (by rw[hdd,e]))]
   rcases ih with⟨i,o',h1,h2,h3,h4,h5⟩|⟨h1,h2⟩
   ·refine .inl ⟨i,o',by omega,h2,h3,fun i' o'' k1 k2 k3=>?_,by rw[hsame,h5]⟩;rcases Nat.lt_succ_iff_lt_or_eq.1 k1 with k|k
    ·exact h4 i' o'' k k2 k3
    ·subst k;rw[ho]at k3;simp only[Option.some.injEq]at k3;rw[<-k3];exact hd
   ·refine .inr ⟨fun i o' k1 k2=>?_,by rw[hsame,h2]⟩;rcases Nat.lt_succ_iff_lt_or_eq.1 k1 with k|k
    ·exact h1 i o' k k2
    ·subst k;rw[ho]at k2;simp only[Option.some.injEq]at k2;rw[<-k2];exact hd
section
variable (t : Trace rec r tm h tm' h' S) (st : Stat P n ops r) (hg : ct rec) (f : Wf h)
theorem Inv.slots(I:Inv P S ops r h' n ds A ρ w L s ρ1 a w1)(t:Trace rec r tm h tm' h' S)(st:Stat P n ops r)(hn:n<1000000){o:Oper}{ro:RO}(ho:ops[j]?=some o)(hr:r[j]?=some ro)(hj:¬L j)(hpre:∀q,ro.pre.testBit q=true->L q):∀u,u∈looks ops o->VR P (AL A S L) ρ1 w1 (CO.ev (S j).tm (CO.t u)) (a.tmps.getD u undef):=fun u hu=>by
 have hjl:j<r.length:=(List.getElem?_eq_some_iff.1 hr).1;have later:∀i o',L i->j<i->ops[i]?=some o'->o'.dst≠some u:=fun i o' hL hji hi hd=>by
  obtain⟨ro',hro'⟩:∃ro',r[i]?=some ro':=⟨_,List.getElem?_eq_getElem (I.lN i hL)⟩;exact hj (I.cl i ro' j hL hro' (st.tmp j i o o' ro' u hji ho hi hro' (.inr (.inl ⟨hd,hu⟩))))
 rcases xM t st hn u j (by omega)with⟨i,o',h1,h2,h3,h4,h5⟩|⟨h1,h2⟩
 ·have hLi:L i:=hpre i (st.tmp i j o' o ro u h1 h2 ho hr (.inl ⟨h3,hu⟩));rw[h5];rcases I.tmv u with⟨i',o'',k1,k2,k3,k4,k5⟩|⟨k1,k2⟩
  ·have : i' = i := by
    rcases Nat.lt_trichotomy i i' with e|e|e
    ·exfalso;rcases Nat.lt_trichotomy i' j with e2|e2|e2
     ·exact h4 i' o'' e2 e k2 k3
     ·exact hj (e2▸k1)
     ·exact later i' o'' k1 e2 k2 k3
    ·exact e.symm
    ·exact absurd h3 (k4 i o' hLi e h2)
   subst this;exact k5
  ·exact absurd h3 (k1 i o' hLi h2)
 ·rw[h2];rcases I.tmv u with⟨i',o'',k1,k2,k3,k4,k5⟩|⟨k1,k2⟩
  ·exfalso;rcases Nat.lt_trichotomy i' j with e2|e2|e2
   ·exact h1 i' o'' e2 k2 k3
   ·exact hj (e2▸k1)
   ·exact later i' o'' k1 e2 k2 k3
  ·exact k2
theorem Inv.quiet(I:Inv P S ops r h' n ds A ρ w L s ρ1 a w1)(t:Trace rec r tm h tm' h' S){ro:RO}(hr:r[j]?=some ro)(hj:¬L j)(hpre:∀q,ro.pre.testBit q=true->L q)(hrd:(S (j+1)).rd=true):
  (∀i,s<=i->i<j->(S (i+1)).wr=false)/\(∀i,j<=i->i<s->(S (i+1)).wr=false):=by
 have hjl:j<r.length:=(List.getElem?_eq_some_iff.1 hr).1;refine⟨fun i h1 h2=>?_,fun i h1 h2=>?_⟩
 ·cases hw:(S (i+1)).wr with
  |false=>rfl
  |true=>exact absurd (hpre i (t.bound h2 hr (.inl ⟨hw,hrd⟩))) (I.sr i h1 (by omega) hw)
 ·cases hw:(S (i+1)).wr with
  |false=>rfl
  |true=>
   exfalso;have hLi:=I.sl i h2 hw;have hne:i≠j:=fun e=>hj (e▸hLi);obtain⟨ro',hro'⟩:∃ro',r[i]?=some ro':=⟨_,List.getElem?_eq_getElem (I.lN i hLi)⟩;exact hj (I.cl i ro' j hLi hro' (t.bound (by omega) hro' (.inr ⟨hrd,hw⟩)))
theorem dG(t:Trace rec r tm h tm' h' S)(hg:ct rec)(f:Wf h){x y k:Nat}(hxy:x<=y)(hy:y<=r.length)(hk:k<(S x).h.next)(hw:∀i,x<=i->i<y->(S (i+1)).wr=false):(S y).h.get k=(S x).h.get k:=
 stay hxy fun i h1 h2=>t.Dr hg f (by omega) (hw i h1 h2) (Nat.lt_of_lt_of_le hk (t.mono hg f h1 (by omega)))
end
end CI
end
section
open Go.RowKit
namespace CI
variable {P : Program} {h h' : H} {tm tm' : Tm} {rec : Rec} {n : Nat} {r : List RO} {S : Nat->SD} {ops : Array Oper} {A : Nat->Prop} {ρ ρ1 ρ2 : Nat->Nat} {w w1 w2 : World} {a : Act} {ds : List Nat} {L : Nat->Prop} {s j : Nat} {o : Oper} {ro : RO} {G h1 : H}
structure iP(rec:Rec)(P:Program)(S:Nat->SD)(ops:Array Oper)(r:List RO)(tm:Tm)(h:H)(tm':Tm)(h':H)(n:Nat)(A:Nat->Prop)(L:Nat->Prop)(j:Nat)(o:Oper)(ro:RO)(G h1:H):Prop where
 t:Trace rec r tm h tm' h' S
 st:Stat P n ops r
 hg:ct rec
 f:Wf h
 hn:n<1000000
 ho:ops[j]?=some o
 hr:r[j]?=some ro
 hj:¬L j
 pre:∀q,ro.pre.testBit q=true->L q
 dst:bG n o.dst=true
 sg:DL P S ops j o ro.pre G h1
 dj:Dj A h h'
 nm:∀k,h.live k->A k
theorem Lv.uniq(t:Trace rec r tm h tm' h' S)(hg:ct rec)(f:Wf h)(hL:∀i,L i->i<r.length){k:Nat}{b b':B}(e:Lv S L s k b)(e':Lv S L s k b'):b=b':=by
 have m0:∀i,L i->(S 0).h.next<=(S i).h.next:=fun i hi=>t.mono hg f (Nat.zero_le _) (Nat.le_of_lt (hL i hi))
 rcases e with⟨h1,e⟩|⟨i,hi,a1,a2,e⟩<;>rcases e' with⟨h1',e'⟩|⟨i',hi',a1',a2',e'⟩
 ·rw[e]at e';simpa using e'
 ·have:=m0 i' hi';omega
 ·have:=m0 i hi;omega
 ·have : i = i' := by
   rcases Nat.lt_trichotomy i i' with x|x|x
   ·have:=t.mono hg f (show i+1<=i' from x) (Nat.le_of_lt (hL i' hi'));omega
   ·exact x
   ·have:=t.mono hg f (show i'+1<=i from x) (Nat.le_of_lt (hL i hi));omega
  subst this;rw[e]at e';simpa using e'
section
variable (M : iP rec P S ops r tm h tm' h' n A L j o ro G h1)
theorem iP.jl(M:iP rec P S ops r tm h tm' h' n A L j o ro G h1):j<r.length:=(List.getElem?_eq_some_iff.1 M.hr).1
theorem iP.mono(M:iP rec P S ops r tm h tm' h' n A L j o ro G h1){x y:Nat}(h1:x<=y)(h2:y<=r.length):(S x).h.next<=(S y).h.next:=M.t.mono M.hg M.f h1 h2
theorem Inv.ku(I:Inv P S ops r h' n ds A ρ w L s ρ1 a w1)(M:iP rec P S ops r tm h tm' h' n A L j o ro G h1){k:Nat}{b:B}(e:G.get k=some b):Lv S L s k b:=by
 obtain⟨k1,k2,k3,k4⟩:=M.sg.g1 k b e;obtain⟨q1,q2⟩:=I.quiet M.t M.hr M.hj M.pre k3;have jl:=M.jl;by_cases hk:k<(S 0).h.next
 ·refine .inl ⟨hk,?_⟩;rcases Nat.le_total s j with hs|hs
  ·rw[<-dG M.t M.hg M.f hs (by omega) (Nat.lt_of_lt_of_le hk (M.mono (Nat.zero_le _) I.s0)) q1];exact k2
  ·rw[dG M.t M.hg M.f hs I.s0 k1 q2];exact k2
 ·obtain⟨q,hq,a1,a2⟩:=M.t.owner (Nat.le_of_not_lt hk) k1;refine .inr ⟨q,M.pre q (k4 q hq a1 a2),a1,a2,?_⟩;rcases Nat.le_total s j with hs|hs
  ·rw[<-dG M.t M.hg M.f (x:=max s (q+1)) (y:=j) (by omega) (by omega) (Nat.lt_of_lt_of_le a2 (M.mono (by omega) (by omega))) (fun i i1 i2=>q1 i (by omega) i2)];exact k2
  ·rw[show max s (q+1)=s by omega,dG M.t M.hg M.f hs I.s0 k1 q2];exact k2
theorem Inv.nmA(I:Inv P S ops r h' n ds A ρ w L s ρ1 a w1)(M:iP rec P S ops r tm h tm' h' n A L j o ro G h1){k:Nat}{b:B}(e:Lv S L s k b):AL A S L k:=by
 rcases e with⟨hk,e⟩|⟨i,hi,a1,a2,_⟩
 ·refine .inl (M.nm k ?_);have g:=(M.t.gd M.hg M.f s I.s0).2;rw[M.t.h0]at hk;exact g.good.back hk (aG e)
 ·exact .inr ⟨i,hi,a1,a2⟩
theorem Inv.rel(I:Inv P S ops r h' n ds A ρ w L s ρ1 a w1)(M:iP rec P S ops r tm h tm' h' n A L j o ro G h1):Rel P (AL A S L) ρ1 w1 G:=by
 refine⟨fun k b e=>?_,fun k k' hl hl' e=>?_,by rw[M.sg.nx];exact M.sg.bd⟩
 ·have hlv:=I.ku M e;obtain⟨b1,b2⟩:=I.blk k b hlv;exact⟨by rw[M.sg.nx];exact(M.sg.g1 k b e).1,I.nmA M hlv,b1,b2⟩
 ·obtain⟨b,eb⟩:=Option.isSome_iff_exists.1 hl;obtain⟨b',eb'⟩:=Option.isSome_iff_exists.1 hl';exact I.inj k b k' b' (I.ku M eb) (I.ku M eb') e
theorem Inv.dj(I:Inv P S ops r h' n ds A ρ w L s ρ1 a w1)(M:iP rec P S ops r tm h tm' h' n A L j o ro G h1):Dj (AL A S L) G h1:=fun k hk=>by
 have jl:=M.jl;rw[M.sg.nx,M.sg.nx1];rcases hk with hk|⟨i,hi,a1,a2⟩
 ·have e1:(S 0).h.next=h.next:=by rw[M.t.h0]
  have e2:(S r.length).h.next=h'.next:=by rw[M.t.hN]
  have m1:=M.mono (Nat.zero_le j) (by omega);have m2:=M.mono (show j+1<=r.length by omega) (Nat.le_refl _);have:=M.dj k hk;omega
 ·rcases Nat.lt_trichotomy i j with x|x|x
  ·have:=M.mono (show i+1<=j from x) (by omega);omega
  ·exact absurd (x▸hi) M.hj
  ·have:=M.mono (show j+1<=i from x) (Nat.le_of_lt (I.lN i hi));omega
def jO(S:Nat->SD)(s j:Nat):Nat:=if(S (j+1)).wr=true then j+1 else s
theorem Inv.nI(I:Inv P S ops r h' n ds A ρ w L s ρ1 a w1)(M:iP rec P S ops r tm h tm' h' n A L j o ro G h1){k:Nat}{b:B}(e:Lv S (fun i=>L i\/i=j) (jO S s j) k b):
  (h1.get k=some b/\(G.live k\/((S j).h.next<=k/\k<(S (j+1)).h.next)))\/(¬G.live k/\¬((S j).h.next<=k/\k<(S (j+1)).h.next)/\Lv S L s k b):=by
 have jl:=M.jl;have hwr:(S (j+1)).wr=true->s<=j/\∀i,s<=i->i<j->(S (i+1)).wr=false:=fun hw=>
  ⟨Nat.le_of_not_lt fun hlt=>M.hj (I.sl j hlt hw),(I.quiet M.t M.hr M.hj M.pre (M.t.ph jl hw)).1⟩
 have hs':((S (j+1)).wr=true/\jO S s j=j+1)\/((S (j+1)).wr=false/\jO S s j=s):=by
  unfold jO
  cases hw:(S (j+1)).wr with
  |true=>exact .inl ⟨rfl,by simp⟩
  |false=>exact .inr ⟨rfl,by simp⟩
 have hlive:G.live k->(S (j+1)).wr=false->Lv S L s k b->h1.get k=some b:=fun hG hw hl=>by
  obtain⟨b0,eb⟩:=Option.isSome_iff_exists.1 hG;have:=Lv.uniq M.t M.hg M.f I.lN hl (I.ku M eb);rw[M.sg.g5 hw k hG,eb,this]
 rcases e with⟨hk,e⟩|⟨i,hi,a1,a2,e⟩
 ·have hkj:k<(S j).h.next:=Nat.lt_of_lt_of_le hk (M.mono (Nat.zero_le _) (by omega))
  by_cases hG:G.live k
  ·refine .inl ⟨?_, .inl hG⟩;rcases hs' with⟨hw,hs⟩|⟨hw,hs⟩
   ·rw[hs,M.sg.g3 k hG]at e;exact e
   ·rw[hs]at e;exact hlive hG hw (.inl ⟨hk,e⟩)
  ·refine .inr ⟨hG,by omega, .inl ⟨hk,?_⟩⟩;rcases hs' with⟨hw,hs⟩|⟨hw,hs⟩
   ·obtain⟨q1,q2⟩:=hwr hw;rw[hs,M.sg.g4 k hkj hG,dG M.t M.hg M.f q1 (by omega) (Nat.lt_of_lt_of_le hk (M.mono (Nat.zero_le _) I.s0)) q2]at e;exact e
   ·rw[hs]at e;exact e
 ·rcases hi with hi|hi
  ·have hij:i≠j:=fun x=>M.hj (x▸hi);have hni:¬((S j).h.next<=k/\k<(S (j+1)).h.next):=fun hx=>by
    rcases Nat.lt_or_gt_of_ne hij with x|x
    ·have:=M.mono (show i+1<=j from x) (by omega);omega
    ·have:=M.mono (show j+1<=i from x) (Nat.le_of_lt (I.lN i hi));omega
   by_cases hG:G.live k
   ·obtain⟨b0,eb⟩:=Option.isSome_iff_exists.1 hG;have hkj:=(M.sg.g1 k b0 eb).1;have hlt:i<j:=by
     rcases Nat.lt_or_gt_of_ne hij with x|x
     ·exact x
     ·have h1:=M.mono (show j+1<=i from x) (Nat.le_of_lt (I.lN i hi));have h2:=M.mono (show j<=j+1 by omega) (by omega);omega
    refine .inl ⟨?_, .inl hG⟩;rcases hs' with⟨hw,hs⟩|⟨hw,hs⟩
    ·rw[hs,show max (j+1) (i+1)=j+1 by omega,M.sg.g3 k hG]at e;exact e
    ·rw[hs]at e;exact hlive hG hw (.inr ⟨i,hi,a1,a2,e⟩)
   ·refine .inr ⟨hG,hni, .inr ⟨i,hi,a1,a2,?_⟩⟩;rcases hs' with⟨hw,hs⟩|⟨hw,hs⟩
    ·obtain⟨q1,q2⟩:=hwr hw;rcases Nat.lt_or_gt_of_ne hij with x|x
     ·rw [hs, show max (j + 1) (i + 1) = j + 1 by omega, M.sg.g4 k (Nat.lt_of_lt_of_le a2 (M.mono (show i + 1 <= j from x) (by omega))) hG,
       dG M.t M.hg M.f (x:=max s (i+1)) (y:=j) (by omega) (by omega) (Nat.lt_of_lt_of_le a2 (M.mono (by omega) (by omega))) (fun i' i1 i2=>q2 i' (by omega) i2)]at e
      exact e
     ·rw[hs,show max (j+1) (i+1)=max s (i+1) by omega]at e;exact e
    ·rw[hs]at e;exact e
  ·subst hi;refine .inl ⟨?_, .inr ⟨a1,a2⟩⟩;rcases hs' with⟨hw,hs⟩|⟨hw,hs⟩
   ·rw[hs,show max (i+1) (i+1)=i+1 by omega]at e;exact M.sg.g2 k b a1 e
   ·rw[hs,stay (x:=i+1) (y:=max s (i+1)) (by omega) (fun x x1 x2=>?_)]at e
    ·exact M.sg.g2 k b a1 e
    ·have hxs:x<s:=by omega
     have hxr:x<r.length:=Nat.lt_of_lt_of_le hxs I.s0
     cases hwx:(S (x+1)).wr with
     |false=>exact M.t.Dr M.hg M.f hxr hwx (Nat.lt_of_lt_of_le a2 (M.mono x1 (by omega)))
     |true=>
      obtain⟨rx,hrx⟩:∃rx,r[x]?=some rx:=⟨_,List.getElem?_eq_getElem hxr⟩;refine M.t.keepO M.hg M.f hrx (show i<x by omega) ?_ a1 a2
      cases hp:rx.pre.testBit i with
      |false=>rfl
      |true=>exact absurd (I.cl x rx i (I.sl x hxs hwx) hrx hp) M.hj
end
end CI
end
section
open Go.RowKit
namespace CI
variable {P : Program} {h h' : H} {tm tm' : Tm} {rec : Rec} {n : Nat} {r : List RO} {S : Nat->SD} {ops : Array Oper} {A : Nat->Prop} {ρ ρ1 ρ2 : Nat->Nat} {w w1 w2 : World} {a : Act} {ds : List Nat} {L : Nat->Prop} {s j : Nat} {o : Oper} {ro : RO} {G h1 : H}
theorem zQ{dst:Option Tmp}{t:Nat}{u:Value}(h:dst≠some t):(a.put dst u).tmps.getD t undef=a.tmps.getD t undef:=by
 cases dst with
 |none=>rfl
 |some d=>
  have hne:d≠t:=fun e=>h (by rw[e]);simp only[Act.put,Array.getD_eq_getD_getElem?,Array.getElem?_setIfInBounds_ne hne]
theorem Bx{t:Nat}{u:Value}(ht:t<a.tmps.size):(a.put (some t) u).tmps.getD t undef=u:=by
 simp only[Act.put,Array.getD_eq_getD_getElem?,Array.getElem?_setIfInBounds];simp[ht]
theorem Inv.step(I:Inv P S ops r h' n ds A ρ w L s ρ1 a w1)(M:iP rec P S ops r tm h tm' h' n A L j o ro G h1){u:Value}(p:bg P (AL A S L) ρ1 w1 G ρ2 w2 h1)(hu:VR P (Ext (AL A S L) G h1) ρ2 w2 (S (j+1)).v u):
  Inv P S ops r h' n ds A ρ w (fun i=>L i\/i=j) (jO S s j) ρ2 (a.put o.dst u) w2:=by
 have jl:=M.jl;have hdj:=I.dj M;have hmo:Mo (AL A S L) (AL A S fun i=>L i\/i=j) ρ1 ρ2:=⟨fun k hk=>hk.imp id fun ⟨i,hi,hx⟩=>⟨i, .inl hi,hx⟩,(p.mo hdj).eq⟩;have hmo2:Mo (Ext (AL A S L) G h1) (AL A S fun i=>L i\/i=j) ρ2 ρ2:=⟨fun k hk=>by
  rcases hk with hk|hk
  ·exact hmo.sub k hk
  ·rw[M.sg.nx,M.sg.nx1]at hk;exact .inr ⟨j, .inr rfl,hk⟩,fun _ _=>rfl⟩
 have hs':((S (j+1)).wr=true/\jO S s j=j+1)\/((S (j+1)).wr=false/\jO S s j=s):=by
  unfold jO
  cases hw:(S (j+1)).wr with
  |true=>exact .inl ⟨rfl,by simp⟩
  |false=>exact .inr ⟨rfl,by simp⟩
 have after:∀i,L i->∀rx,r[i]?=some rx->rx.pre.testBit j=true->False:=fun i hi rx hrx hp=>M.hj (I.cl i rx j hi hrx hp);have hframe:∀k b,Lv S L s k b->¬G.live k->w2.heap[ρ1 k]?=w1.heap[ρ1 k]?:=fun k b hl hG=>p.fr _ (I.blk k b hl).1 fun k' hl' _ e=>by
  obtain⟨b',eb'⟩:=Option.isSome_iff_exists.1 hl';have:=I.inj k' b' k b (I.ku M eb') hl e;subst this;exact hG hl'
 have hrho:∀k b,Lv S L s k b->ρ2 k=ρ1 k:=fun k b hl=>hmo.eq k (I.nmA M hl);have hbN:h'.next=(S r.length).h.next:=by rw[M.t.hN]
 refine⟨fun i rx q hi hrx hp=>?_,fun i hi=>?_,?_,fun i hi hw=>?_,fun i hi hir hw hL=>?_,fun t=>?_,?_,?_,fun k b e=>?_,fun k b k' b' e e' hk=>?_,I.lt.trans p.lt,fun b hb hn=>?_,fun k hk=>?_,fun k b e hk=>?_⟩
 ·rcases hi with hi|hi
  ·exact .inl (I.cl i rx q hi hrx hp)
  ·subst hi;rw[M.hr]at hrx;simp only[Option.some.injEq]at hrx;subst hrx;exact .inl (M.pre q hp)
 ·rcases hi with hi|hi
  ·exact I.lN i hi
  ·rw[hi];exact jl
 ·rcases hs' with⟨_,e⟩|⟨_,e⟩<;>rw[e]
  ·exact jl
  ·exact I.s0
 ·rcases hs' with⟨hwj,e⟩|⟨_,e⟩<;>rw[e]at hi
  ·rcases Nat.lt_succ_iff_lt_or_eq.1 hi with x|x
   ·exact .inl (M.pre i (M.t.bound x M.hr (.inl ⟨hw,M.t.ph jl hwj⟩)))
   ·exact .inr x
  ·exact .inl (I.sl i hi hw)
 ·rcases hs' with⟨hwj,e⟩|⟨hwj,e⟩<;>rw[e]at hi
  ·rcases hL with hL|hL
   ·obtain⟨rx,hrx⟩:∃rx,r[i]?=some rx:=⟨_,List.getElem?_eq_getElem hir⟩;exact after i hL rx hrx (M.t.bound (show j<i by omega) hrx (.inl ⟨hwj,M.t.ph hir hw⟩))
   ·omega
  ·rcases hL with hL|hL
   ·exact I.sr i hi hir hw hL
   ·subst hL;rw[hw]at hwj;cases hwj
 ·by_cases hd:o.dst=some t
  ·have ht:t<n:=by have:=M.dst;rw[hd]at this;simpa[bG,Nat.blt_eq]using this
   refine .inl ⟨j,o, .inr rfl,M.ho,hd,fun i' o' hi' hlt ho' hd'=>?_,?_⟩
   ·rcases hi' with hi'|hi'
    ·obtain⟨rx,hrx⟩:∃rx,r[i']?=some rx:=⟨_,List.getElem?_eq_getElem (I.lN i' hi')⟩;exact after i' hi' rx hrx (M.st.tmp j i' o o' rx t hlt M.ho ho' hrx (.inr (.inr ⟨hd',hd⟩)))
    ·omega
   ·rw[hd,Bx (by rw[I.sz];exact ht)];exact VR.mo hmo2 (Lt.refl _) _ _ hu
  ·rw[zQ hd];rcases I.tmv t with⟨i,o',q1,q2,q3,q4,q5⟩|⟨q1,q2⟩
   ·refine .inl ⟨i,o', .inl q1,q2,q3,fun i' o'' hi' hlt ho'=>?_,VR.mo hmo p.lt _ _ q5⟩;rcases hi' with hi'|hi'
    ·exact q4 i' o'' hi' hlt ho'
    ·subst hi';rw[M.ho]at ho';simp only[Option.some.injEq]at ho';rw[<-ho'];exact hd
   ·refine .inr ⟨fun i' o'' hi' ho'=>?_,VR.mo hmo p.lt _ _ q2⟩;rcases hi' with hi'|hi'
    ·exact q1 i' o'' hi' ho'
    ·subst hi';rw[M.ho]at ho';simp only[Option.some.injEq]at ho';rw[<-ho'];exact hd
 ·have:=I.sz;cases o.dst<;>simp[Act.put,this]
 ·have:=I.df;cases o.dst<;>simp[Act.put,this]
 ·rcases I.nI M e with⟨e1,_⟩|⟨hG,_,hl⟩
  ·obtain⟨_,_,b1,b2⟩:=p.rel.blk k b e1;exact⟨b1,b2.mo hmo2 (Lt.refl _) rfl⟩
  ·obtain⟨b1,b2⟩:=I.blk k b hl;rw[hrho k b hl];exact⟨Nat.lt_of_lt_of_le b1 p.lt.size,b2.mo hmo p.lt (hframe k b hl hG)⟩
 ·have key : ∀ x y bx, h1.get x = some bx -> (G.live x \/ ((S j).h.next <= x /\ x < (S (j + 1)).h.next)) -> ∀ by', ¬ G.live y -> Lv S L s y by' -> ρ2 x = ρ2 y -> x = y := fun x y bx ex hx by' hy hly hxy => by
   rw[hrho y by' hly]at hxy;rcases hx with hx|hx
   ·obtain⟨b0,eb⟩:=Option.isSome_iff_exists.1 hx;have hlx:=I.ku M eb;rw[hrho x b0 hlx]at hxy;exact I.inj x b0 y by' hlx hly hxy
   ·rcases p.new x (by rw[M.sg.nx];exact hx.1) (aG ex)with q|⟨i,q1,q2,q3⟩
    ·have:=(I.blk y by' hly).1;omega
    ·exfalso;obtain⟨b0,eb⟩:=Option.isSome_iff_exists.1 q1;have:=I.inj i b0 y by' (I.ku M eb) hly (q3.symm.trans hxy)
     subst this;exact hy q1
  rcases I.nI M e with⟨e1,x1⟩|⟨hG,_,hl⟩<;>rcases I.nI M e' with⟨e1',x1'⟩|⟨hG',_,hl'⟩
  ·exact p.rel.inj k k' (aG e1) (aG e1') hk
  ·exact key k k' b e1 x1 b' hG' hl' hk
  ·exact(key k' k b' e1' x1' b hG hl hk.symm).symm
  ·rw[hrho k b hl,hrho k' b' hl']at hk;exact I.inj k b k' b' hl hl' hk
 ·rw[p.fr b (Nat.lt_of_lt_of_le hb I.lt.size) fun k hl hlo hk=>?_,I.fr b hb hn];obtain⟨b0,eb⟩:=Option.isSome_iff_exists.1 hl;have hlv:=I.ku M eb;have hlow:h'.low<=k:=by
   have h2:=M.t.low M.hg M.f (show j+1<=r.length by omega) (Nat.le_refl _);rw[M.t.hN]at h2;exact Nat.le_trans h2 (M.sg.low k hl hlo)
  by_cases hk0:k<(S 0).h.next
  ·rw[I.rho k (.inl hk0)]at hk;refine hn k ?_ hlow hk;rcases hlv with⟨_,e⟩|⟨i,hi,a1,_⟩
   ·have g:=(M.t.gd M.hg M.f s I.s0).2;rw[M.t.h0]at hk0⊢;exact g.good.back hk0 (aG e)
   ·have:=M.mono (Nat.zero_le i) (Nat.le_of_lt (I.lN i hi));omega
  ·rcases I.new k b0 hlv (Nat.le_of_not_lt hk0)with q|⟨i,q1,q2,q3⟩
   ·omega
   ·exact hn i q1 q2 (q3.symm.trans hk)
 ·have m1:=M.mono (Nat.zero_le j) (by omega);have m2:=M.mono (show j+1<=r.length by omega) (Nat.le_refl _);rw[p.rho k (by rw[M.sg.nx,M.sg.nx1];omega),I.rho k hk]
 ·rcases I.nI M e with⟨e1,x1⟩|⟨hG,_,hl⟩
  ·rcases x1 with x1|x1
   ·obtain⟨b0,eb⟩:=Option.isSome_iff_exists.1 x1;have hlv:=I.ku M eb;rw[hrho k b0 hlv];exact I.new k b0 hlv hk
   ·rcases p.new k (by rw[M.sg.nx];exact x1.1) (aG e1)with q|⟨i,q1,q2,q3⟩
    ·exact .inl (Nat.le_trans I.lt.size q)
    ·obtain⟨b0,eb⟩:=Option.isSome_iff_exists.1 q1;have hlv:=I.ku M eb;have hlow:h'.low<=i:=by
      have h2:=M.t.low M.hg M.f (show j+1<=r.length by omega) (Nat.le_refl _);rw[M.t.hN]at h2;exact Nat.le_trans h2 (M.sg.low i q1 q2)
     rw[q3];by_cases hi0:i<(S 0).h.next
     ·refine .inr ⟨i,?_,hlow,I.rho i (.inl hi0)⟩;rcases hlv with⟨_,e⟩|⟨i',hi',a1,_⟩
      ·have g:=(M.t.gd M.hg M.f s I.s0).2;rw[M.t.h0]at hi0⊢;exact g.good.back hi0 (aG e)
      ·have:=M.mono (Nat.zero_le i') (Nat.le_of_lt (I.lN i' hi'));omega
     ·exact I.new i b0 hlv (Nat.le_of_not_lt hi0)
  ·rw[hrho k b hl];exact I.new k b hl hk
end CI
end
section
open Go.RowKit
namespace CI
variable {P : Program} {h h' : H} {tm tm' : Tm} {rec : Rec} {n : Nat} {r : List RO} {S : Nat->SD} {ops : Array Oper} {A : Nat->Prop} {ρ ρ1 ρ2 : Nat->Nat} {w w1 w2 : World} {a : Act} {ds : List Nat} {L : Nat->Prop} {s j : Nat} {o : Oper} {ro : RO} {G h1 : H} {E : Env}
theorem yt(w:World):Below w.heap.size w {w with drawn:=w.drawn+1}:=(Below.refl _ w).drew
theorem Ak(t:Trace rec r tm h tm' h' S)(tR:Rel P A ρ w h)(hf:Fr P A ρ w n ds tm a):Inv P S ops r h' n ds A ρ w (fun _=>False) 0 ρ a {w with drawn:=w.drawn+1}:=by
 have hlt:=Lt.below (yt w);have hA:∀k,A k->AL A S (fun _=>False) k:=fun k hk=>.inl hk;have hmo:Mo A (AL A S fun _=>False) ρ ρ:=⟨hA,fun _ _=>rfl⟩;have hlv:∀k b,Lv S (fun _=>False) 0 k b->h.get k=some b:=fun k b e=>by
  rcases e with⟨_,e⟩|⟨_,e,_⟩
  ·rw[t.h0]at e;exact e
  ·exact e.elim
 refine⟨fun _ _ _ e=>e.elim,fun _ e=>e.elim,Nat.zero_le _,fun i hi=>by omega,fun _ _ _ _ e=>e,fun u=>.inr ⟨fun _ _ e=>e.elim,?_⟩,hf.sz,hf.df,fun k b e=>?_,fun k b k' b' e e' hk=>?_,hlt,fun b _ _=>rfl,fun _ _=>rfl,fun k b e hk=>?_⟩
 ·rw[t.tm0];exact VR.mo hmo hlt _ _ (hf.tr u)
 ·obtain⟨_,_,b1,b2⟩:=tR.blk k b (hlv k b e);exact⟨b1,b2.mo hmo hlt rfl⟩
 ·exact tR.inj k k' (aG (hlv k b e)) (aG (hlv k' b' e')) hk
 ·have:=(tR.blk k b (hlv k b e)).1;rw[t.h0]at hk;omega
theorem EU{a0:Act}(I:Inv P S ops r h' n ds A ρ w L s ρ1 a w1)(t:Trace rec r tm h tm' h' S)(st:Stat P n ops r)(hg:ct rec)(f:Wf h)(hn:n<1000000)(hall:∀i,i<r.length->L i)(tR:Rel P A ρ w h)(hd:Dj A h h')(hf:Fr P A ρ w n ds tm a0):bg P A ρ w h ρ1 w1 h'/\Fr P (Ext A h h') ρ1 w1 n ds tm' a:=by
 have hAL:∀k,AL A S L k->Ext A h h' k:=fun k hk=>by
  rcases hk with hk|⟨i,hi,a1,a2⟩
  ·exact .inl hk
  ·have m1:=t.mono hg f (Nat.zero_le i) (Nat.le_of_lt (I.lN i hi));have m2:=t.mono hg f (show i+1<=r.length from I.lN i hi) (Nat.le_refl _);rw[t.h0]at m1;rw[t.hN]at m2;exact .inr (by omega)
 have hmo:Mo (AL A S L) (Ext A h h') ρ1 ρ1:=⟨hAL,fun _ _=>rfl⟩;obtain⟨wfN,gN⟩:=t.gd hg f r.length (Nat.le_refl _);rw[t.hN]at wfN gN;have hq:∀i,s<=i->i<r.length->(S (i+1)).wr=false:=fun i h1 h2=>by
  cases hw:(S (i+1)).wr with
  |false=>rfl
  |true=>exact absurd (hall i h2) (I.sr i h1 h2 hw)
 have hlv:∀k b,h'.get k=some b->Lv S L s k b:=fun k b e=>by
  by_cases hk:k<(S 0).h.next
  ·refine .inl ⟨hk,?_⟩;rw[<-dG t hg f I.s0 (Nat.le_refl _) (Nat.lt_of_lt_of_le hk (t.mono hg f (Nat.zero_le _) I.s0)) hq,t.hN];exact e
  ·have hkN:k<(S r.length).h.next:=by rw[t.hN];exact wfN.lt k b (eV e)
   obtain⟨q,hq1,a1,a2⟩:=t.owner (Nat.le_of_not_lt hk) hkN;refine .inr ⟨q,hall q hq1,a1,a2,?_⟩;have hs0:=I.s0;rw[<-dG t hg f (x:=max s (q+1)) (y:=r.length) (by omega) (Nat.le_refl _) (Nat.lt_of_lt_of_le a2 (t.mono hg f (by omega) (by omega))) (fun i i1 i2=>hq i (by omega) i2),t.hN];exact e
 refine⟨⟨fun k hk=>I.rho k (by rw[t.h0];exact hk),⟨fun k b e=>?_,fun k k' hl hl' hk=>?_,wfN.bd⟩,I.lt,fun b hb hx=>I.fr b hb (by rw[t.h0];exact hx),fun k hk hl=>?_⟩,⟨fun u=>?_,I.sz,fun k hk=> .inl (hf.nm k hk),?_⟩⟩
 ·obtain⟨b1,b2⟩:=I.blk k b (hlv k b e);have hAk:AL A S L k:=by
   rcases hlv k b e with⟨hk,e2⟩|⟨i,hi,a1,a2,_⟩
   ·rw[t.h0]at hk;exact .inl (tR.live (gN.good.back hk (aG e))).2.1
   ·exact .inr ⟨i,hi,a1,a2⟩
  exact⟨wfN.lt k b (eV e),hAL k hAk,b1,b2.mo hmo (Lt.refl _) rfl⟩
 ·obtain⟨b,eb⟩:=Option.isSome_iff_exists.1 hl;obtain⟨b',eb'⟩:=Option.isSome_iff_exists.1 hl';exact I.inj k b k' b' (hlv k b eb) (hlv k' b' eb') hk
 ·obtain⟨b,eb⟩:=Option.isSome_iff_exists.1 hl;have:=I.new k b (hlv k b eb) (by rw[t.h0];exact hk);rwa[t.h0]at this
 ·refine VR.mo hmo (Lt.refl _) _ _ ?_;rw[<-t.tmN];have hlo:∀{i:Nat} {o:Oper},ops[i]?=some o->i<r.length:=fun ho=>by rw[st.len];exact(Array.getElem?_eq_some_iff.1 ho).1
  rcases xM t st hn u r.length (Nat.le_refl _)with⟨i,o',h1,h2,h3,h4,h5⟩|⟨h1,h2⟩
  ·rw[h5];rcases I.tmv u with⟨i',o'',k1,k2,k3,k4,k5⟩|⟨k1,k2⟩
   ·have : i' = i := by
     rcases Nat.lt_trichotomy i i' with e|e|e
     ·exact absurd k3 (h4 i' o'' (hlo k2) e k2)
     ·exact e.symm
     ·exact absurd h3 (k4 i o' (hall i h1) e h2)
    subst this;exact k5
   ·exact absurd h3 (k1 i o' (hall i h1) h2)
  ·rw[h2];rcases I.tmv u with⟨i',o'',k1,k2,k3,k4,k5⟩|⟨k1,k2⟩
   ·exact absurd k3 (h1 i' o'' (hlo k2) k2)
   ·exact k2
 ·rw[I.df];exact List.map_congr_left fun k hk=>by
   unfold nd;rw[I.rho k (by rw[t.h0];exact hd k (hf.nm k hk))]
theorem G7(hrec:gM P rec)(hg:ct rec)(t:Trace rec r tm h tm' h' S)(st:Stat P n ops r)(f:Wf h)(hn:n<1000000){F:Fence}(hF:FC F){Q:Exit->Act->World->Prop}{a0:Act}(tR:Rel P A ρ w h)(hd:Dj A h h')(hf:Fr P A ρ w n ds tm a0)
  (hq:∀ρ' w' a',bg P A ρ w h ρ' w' h'->Fr P (Ext A h h') ρ' w' n ds tm' a'->Q .normal a' w'):∀(fuel:Nat) (listed:Array Bool) (a:Act) (w1:World) (s:Nat) (ρ1:Nat->Nat) (U:List Nat),listed.size=ops.size->U.length<=fuel->(∀i,i<ops.size->listed.getD i false=false->i∈U)->
   Inv P S ops r h' n ds A ρ w (fun i=>listed.getD i false=true) s ρ1 a w1->wpAnyIn F 0 P .any ops Q fuel listed a w1:=by
 have hsz:=st.len;have done:∀(listed:Array Bool) (a:Act) (w1:World) (s:Nat) (ρ1:Nat->Nat),(∀i,i<ops.size->listed.getD i false=true)->Inv P S ops r h' n ds A ρ w (fun i=>listed.getD i false=true) s ρ1 a w1->Q .normal a w1:=fun listed a w1 s ρ1 hall I=>by
  obtain⟨p,fr⟩:=EU I t st hg f hn (fun i hi=>hall i (by omega)) tR hd hf;exact hq ρ1 w1 a p fr
 have unl:∀(listed:Array Bool) (j:Nat),listed.size=ops.size->listed.getD j true=false->j<ops.size/\listed.getD j false=false:=fun listed j hs hl=>by
  rw[Array.getD_eq_getD_getElem?]at hl
  cases e:listed[j]? with
  |none=>rw[e]at hl;simp at hl
  |some b=>
   rw[e]at hl;have hlt:=(Array.getElem?_eq_some_iff.1 e).1;refine⟨by omega,?_⟩;rw[Array.getD_eq_getD_getElem?,e];simpa using hl
 intro fuel
 induction fuel with
 |zero=>
  intro listed a w1 s ρ1 U hs hU hin I;have hUn:U=[]:=List.eq_nil_of_length_eq_zero (by omega);subst hUn;have hall:∀i,i<ops.size->listed.getD i false=true:=fun i hi=>by
   cases hb:listed.getD i false with
   |true=>rfl
   |false=>exact absurd (hin i hi hb) (by simp)
  refine⟨?_,done listed a w1 s ρ1 hall I⟩
  cases hr:Region.ready .any ops listed with
  |nil=>rfl
  |cons x xs=>
   exfalso;have hx:x∈Region.ready .any ops listed:=by rw[hr];exact List.mem_cons_self
   obtain⟨h1,h2⟩:=unl listed x hs (mem_ready.1 hx).1;rw[hall x h1]at h2;cases h2
 |succ fuel ih=>
  intro listed a w1 s ρ1 U hs hU hin I;refine⟨fun hr=>?_,fun j hj=>?_⟩
  ·refine done listed a w1 s ρ1 (fun i=>?_) I
   induction i using Nat.strongRecOn with
   |_ i ihi=>
    intro hi
    cases hb:listed.getD i false with
    |true=>rfl
    |false=>
     exfalso;have hmem:i∈Region.ready .any ops listed:=by
      refine mem_ready.2 ⟨?_,ops[i],Array.getElem?_eq_getElem hi,fun e he hbd=>?_⟩
      ·have e:=Array.getElem?_eq_getElem (xs:=listed) (i:=i) (by omega);rw[Array.getD_eq_getD_getElem?,e]at hb⊢;simpa using hb
      ·have hlt:=st.edge i ops[i] e (Array.getElem?_eq_getElem hi) (by simpa using he) hbd;exact ihi e.on hlt (by omega)
     rw[hr]at hmem;cases hmem
  ·obtain⟨h1,o,ho,h3⟩:=mem_ready.1 hj;obtain⟨hjs,hjl⟩:=unl listed j hs h1;obtain⟨ro,G,h1',hr,hdst,_,sg⟩:=Eh hrec hg t st f ho;have hpre:∀q,ro.pre.testBit q=true->listed.getD q false=true:=fun q hq=>by
    obtain⟨e,he,hbd,hx⟩:=st.pre j o ro q ho hr hq;have hl:=h3 e (by simpa using he) hbd;rcases hx with hx|⟨ro',hr',hq'⟩
    ·rw[<-hx];exact hl
    ·exact I.cl e.on ro' q hl hr' hq'
   have M:iP rec P S ops r tm h tm' h' n A (fun i=>listed.getD i false=true) j o ro G h1':=⟨t,st,hg,f,hn,ho,hr,by simp only[hjl];simp,hpre,hdst,sg,hd,fun k hk=>(tR.live hk).2.1⟩;refine sg.wp F hF Q _ _ ρ1 w1 a (I.rel M) (I.dj M) (I.slots t st hn ho hr M.hj hpre) fun u w2 ρ2 p hu=>?_;have I2:=I.step M p hu;have hset:∀i,(listed.setIfInBounds j true).getD i false=true↔(listed.getD i false=true\/i=j):=fun i=>by
    by_cases e:i=j
    ·subst e;simp[Array.getD_eq_getD_getElem?,Array.getElem?_setIfInBounds,show i<listed.size by omega]
    ·simp[Array.getD_eq_getD_getElem?,Array.getElem?_setIfInBounds_ne (Ne.symm e),e]
   have hfun:(fun i=>listed.getD i false=true\/i=j)=(fun i=>(listed.setIfInBounds j true).getD i false=true):=funext fun i=>propext (hset i).symm;rw[hfun]at I2;have hjU:j∈U:=hin j hjs hjl;refine ih _ _ _ _ _ (U.erase j) (by simp[hs]) (by rw[List.length_erase_of_mem hjU];omega) (fun i hi hb=>?_) I2;have hne:i≠j:=fun e=>by
    have:=(hset i).2 (.inr e);rw[this]at hb;cases hb
   have hb':listed.getD i false=false:=by
    cases hx:listed.getD i false with
    |false=>rfl
    |true=>rw[(hset i).2 (.inl hx)]at hb;cases hb
   exact(List.mem_erase_of_ne hne).2 (hin i hi hb')
theorem Ey(hmix:P.follows .mixedOrders=true)(rec:Rec)(hrec:gM P rec)(hg:ct rec):vp P rec:=by
 intro F hF Q ops id n hn r hc tm h tm' h' e f A ρ w a ds tR hd hf hq;obtain⟨S,t⟩:=A9 e;have st:=Ej hc;refine wpIn_region_any hmix (G7 hrec hg t st f hn hF tR hd hf hq ops.size _ a _ 0 ρ (List.range ops.size) (by simp) (by simp) (fun i hi _=>List.mem_range.2 hi) ?_);have I:=Ak (ops:=ops) t tR hf;have hfun:(fun _:Nat=>False)=(fun i=>(Array.replicate ops.size false).getD i false=true):=funext fun i=>propext (by
  simp only[false_iff,Array.getD_eq_getD_getElem?,Array.getElem?_replicate];split<;>simp)
 rw[hfun]at I;exact I
theorem zE(hmix:P.follows .mixedOrders=true)(hO:qC P E)(hfn:E.fns=jY P){N g:Nat}(hE:Enters P g){c:C}{h':H}(e:run E N (.call (.fn g []) [] ⟨0,0,[], .e⟩)=some (.val c h'))(w:World):
  Calls P g #[] w (fun e w'=>∃u A ρ,e= .returned u/\VR P A ρ w' c u/\Rel P A ρ w' h'/\Below w.heap.size w w'):=by
 have hok:=(Gh hO hfn (fun rec h1 h2=>Ey hmix rec h1 h2) N).1;have hbare:∀k,(⟨0,0,[], .e⟩:H).get k=none:=mf 0;have tR:Rel P (fun _=>False) (fun _=>0) w ⟨0,0,[], .e⟩:=⟨(fun k b e=>by rw[hbare]at e;cases e),(fun k _ hl=>by unfold H.live at hl;rw[hbare]at hl;cases hl),by simp⟩;obtain⟨d,hd,hk⟩:=hok _ _ _ _ _ e ⟨by simp,(fun k b e=>by rw[T.qe]at e;cases e)⟩ (fun _=>False) (fun _=>0) w (.func (.func g) #[] #[]) #[] tR (fun k hk=>hk.elim) (by simp only[VR,VRl];exact⟨_,rfl,rfl⟩) (by simp only[VRl]);rcases hk with⟨g',args',q1,q2⟩|⟨l,g',tmps,s,b,q0,_⟩
 ·have hkey : g' = g /\ args' = #[] := by
   obtain⟨d',r1,r2⟩:=mV hE #[] #[] w;rw[r1]at hd;simp only[Result.ok.injEq,and_true]at hd;rw[<-hd,r2]at q1;simp only[Result.ok.injEq,Next.enter.injEq,and_true]at q1;exact⟨q1.1.symm,by rw[<-q1.2];rfl⟩
  obtain⟨rfl,rfl⟩:=hkey;refine(callsIn_wide.1 q2).mono fun e' w' ⟨u,ρ',h1,p,hu⟩=>⟨u,_,ρ',h1,hu,p.rel,p.lt.os,p.lt.tape,p.lt.output,p.lt.size,fun k hk=>p.fr k hk fun j hl=>?_⟩;unfold H.live at hl;rw[hbare]at hl;cases hl
 ·cases q0
end CI
end
section
open Go.RowKit Go.BigFrame
attribute [local go_sem ↓] Go.wp_at_zero Go.wp_at_succ
theorem vD(r y:Nat):4*(r*y)<=(r+y)*(r+y):=by
 rcases Nat.le_total r y with h|h<;>obtain⟨d,rfl⟩:=Nat.le.dest h
 ·have:(r+(r+d))*(r+(r+d))=4*(r*(r+d))+d*d:=by grind
  omega
 ·have:(y+d+y)*(y+d+y)=4*((y+d)*y)+d*d:=by grind
  omega
theorem Aa{a r:Nat}(hr:0<r):a<((r+a/r)/2+1)*((r+a/r)/2+1):=by
 have h1:a<r*(a/r+1):=by
  have:=Nat.div_add_mod a r;have:=Nat.mod_lt a hr;rw[Nat.mul_add,Nat.mul_one];omega
 generalize a/r=q at*;have h2:=vD r (q+1);have h3:r+(q+1)<=2*((r+q)/2+1):=by omega
 generalize(r+q)/2+1=m at*;have h4:=Nat.mul_le_mul h3 h3;have h5:2*m*(2*m)=4*(m*m):=by grind
 omega
theorem yf{a r:Nat}(h:r<=(r+a/r)/2):r*r<=a:=by
 have h1:r<=a/r:=by omega
 exact Nat.le_trans (Nat.mul_le_mul_left r h1) (Nat.mul_div_le a r)
theorem vA(n:Nat):Dg.NF B32 ((List.replicate (n+1) 0).set n 1)/\Dg.vl B32 ((List.replicate (n+1) 0).set n 1)=B32^n:=by
 have e:(List.replicate (n+1) 0).set n 1=List.replicate n 0++[1]:=by
  rw[List.replicate_succ',List.set_append_right _ _ (by simp)];simp
 rw[e];refine⟨⟨Dg.gH (Dg.di (by decide) _) (fun x hx=>by rw[List.mem_singleton.1 hx];decide),by simp⟩,?_⟩;rw[Dg.cu,Dg.lp];simp[Dg.vl]
theorem aS.BL(W:World)(N k d:Nat)(hk:k<N):aS (W.alloc (.cells ((madeCells #[.int .u32 0] N).setIfInBounds k (.int .u32 (d:Int))) 138)) W.heap.size ((List.replicate N 0).set k d):=by
 have h:=(aS.made W N).set (k:=k) (by simpa using hk) d;simpa only[go_sem]using h
structure RC(wr:World)(a:Option Addr)(l:List Nat)(L k:Nat)(a1:Option Addr)(l1:List Nat)(c1:Nat):Prop where
 w0:WS wr a l
 w1:WS wr a1 l1
 n1:Dg.NF B32 l1
 h1:l1.length<=c1
 b1:l1.length<=L
 p:0<Dg.vl B32 l1
 u:Dg.vl B32 l<(Dg.vl B32 l1+1)*(Dg.vl B32 l1+1)
 k:k=Dg.vl B32 l1
def RtRes(u:Nat)(e:Ending)(w':World):Prop:=∃z r,e= .returned (.tuple #[.agg #[.bool z.s,.slice z.a z.n z.cap],.int .i64 0])/\IZ w' z ((r:Nat):Int)/\r*r<=u/\u<(r+1)*(r+1)
set_option maxRecDepth 10000 in
set_option maxHeartbeats 8000000 in
theorem Bv(x:IV)(u:Int)(fu:Fit u)(hu:0<=u)(w:World)(hx:IP w x u):
  Calls Tryz.prog 203 #[.agg #[.bool x.s,.slice x.a x.n x.cap]] w fun e w'=>RtRes u.toNat e w'/\Below w.heap.size w w':=by
 obtain⟨l,h1,rfl⟩:=hx;have bl:=cU h1.nf fu;have S1:=Lib.hid (fun w (h:IW w x l)=>cW x l (by omega) w h);have H1:=Lib.hid h1;by_cases hl0:l=[]
 ·have hv0:Dg.iv x.s (Dg.vl B32 l)=0:=by rw[hl0];exact Dg.kQ _
  rw[hv0];have hml:l.length=0:=by rw[hl0];rfl
  rw[hml]at S1;obtain⟨s,a,n,cap⟩:=x;simp only[]at S1;clear h1 fu hv0 hml hl0 hu
  go_enter Tryz.func203,Tryz.ntmps203
  go_wp2_with (first|(go_at_call 163;(with_reducible refine(S1.out _ ?_).mono ?_);(exact H1.out.below (B:=w.heap.size) an (Nat.le_refl _));rintro e w1 ⟨rfl,hb1⟩;obtain⟨g1,rfl⟩:=mob hb1;clear hb1))
  refine bodyPost_ret (v:=.tuple #[.agg #[.bool ((⟨false,none,0,0⟩:IV)).s,.slice ((⟨false,none,0,0⟩:IV)).a ((⟨false,none,0,0⟩:IV)).n ((⟨false,none,0,0⟩:IV)).cap],.int .i64 0]) (by simp[results,Tryz.results203,go_sem]) rfl ?_;exact⟨⟨⟨false,none,0,0⟩,0,rfl,IZ.zero _,by simp,by simp⟩,by exact bel⟩
 have hvp:=Dg.fB h1.nf hl0 (by decide);have hs:x.s=false:=by
  cases hxs:x.s with
  |false=>rfl
  |true=>rw[hxs]at hu;simp[Dg.iv]at hu;omega
 have hut:(Dg.iv x.s (Dg.vl B32 l)).toNat=Dg.vl B32 l:=by rw[hs];simp[Dg.iv]
 rw[hut];have hlp:0<l.length:=List.length_pos_iff.2 hl0;obtain⟨n,hn⟩:∃n,n=l.length/2+1:=⟨_,rfl⟩;have m1:¬l.length=0:=by omega
 have m2:¬(l.length:Int)=0:=by omega
 have m3:((l.length:Int)==0)=false:=by simpa using hl0
 have hmk:∀w:World,(Instr.makeSlice 176 (.int .i64 ((l.length:Int)/2+2)) (.int .i64 ((l.length:Int)/2+2))).run Tryz.prog w= .ok (.slice (some ⟨w.heap.size,0,none⟩) (n+1) (n+1)) (w.alloc (.cells (madeCells #[.int .u32 0] (n+1)) 138)):=fun w=>by
  have:=run_make_row' (P:=Tryz.prog) 176 138 (.int .u32 0) 4 Tryz.underlying176 gU rfl .i64 .i64 (n+1) (by omega) (by omega) w;rw[show((n+1:Nat):Int)=(l.length:Int)/2+2 by omega]at this;exact this
 have start:Hid (Dg.vl B32 l<(B32^n+1)*(B32^n+1)):=by
  refine Nat.lt_of_lt_of_le (Dg.aP h1.nf.dg) (Nat.le_trans (Nat.pow_le_pow_right (n:=B32) (by decide) (show l.length<=n+n by omega)) ?_);rw[Nat.pow_add];exact Nat.mul_le_mul (Nat.le_succ _) (Nat.le_succ _)
 have DV:=Lib.hid (fun lb a b ca cb hb hb0 hca w h1' h2=>lX l lb a b ca cb h1.nf hb hb0 (by omega) hca w h1' h2);have MA:=Lib.hid (fun (k:List Nat) a c (hc:k.length<=c) (hk:Dg.NF B32 k) (hb:k.length<=3000000000000) w h=>fK false k a c hb hc hk.dg w h);obtain⟨s,a,p0,cap⟩:=x;simp only[]at S1 DV hs;subst hs;clear h1 fu hu hut hl0 hvp;generalize hq:l.length=q at*;have HQ:=Lib.hid hq;have HN:=0;clear hq HN;subst hn
 go_enter Tryz.func203,Tryz.ntmps203
 go_upto_region 7 with(first|(go_at_call 163;(with_reducible refine(S1.out _ ?_).mono ?_);(exact H1.out.below (B:=w.heap.size) an (Nat.le_refl _));rintro e w1 ⟨rfl,hb1⟩;obtain⟨g1,rfl⟩:=mob hb1;clear hb1))
 have RU:=aS.made (more ((w.alloc (.cells #[.bool false,.slice a p0 cap] 62)).alloc (.cells #[.bool false,.slice none 0 0] 62)) g1) (q/2+1+1);have HB:=Lib.hid RU;have c0:=RU.cell (k:=q/2+1) (by simp);have f0:=RU.frozen (q/2+1);simp only[dD,World.size_alloc]at c0 f0;clear RU hmk;have hB0:Below w.heap.size w (more ((w.alloc (.cells #[.bool false,.slice a p0 cap] 62)).alloc (.cells #[.bool false,.slice none 0 0] 62)) g1):=by exact bel
 have G0:Hid (RC ((more ((w.alloc (.cells #[.bool false,.slice a p0 cap] 62)).alloc (.cells #[.bool false,.slice none 0 0] 62)) g1).alloc (.cells ((madeCells #[.int .u32 0] (q/2+1+1)).setIfInBounds (q/2+1) (.int .u32 1)) 138)) a l 300000000000 (B32^(q/2+1)) (some ⟨w.heap.size+1+1+g1.2.size,0,none⟩) ((List.replicate (q/2+1+1) 0).set (q/2+1) 1) (q/2+1+1)):=by
  obtain⟨n1,n2⟩:=vA (q/2+1);refine⟨H1.out.ws.below (hB0.trans (Below.alloc (Below.refl _ _) hB0.size _)) (Nat.le_refl _),?_,n1,by simp,by simp;omega,by rw[n2];exact Nat.pow_pos (by decide),by rw[n2];exact start.out,n2.symm⟩;have:=(aS.BL (more ((w.alloc (.cells #[.bool false,.slice a p0 cap] 62)).alloc (.cells #[.bool false,.slice none 0 0] 62)) g1) (q/2+1+1) (q/2+1) 1 (by omega)).ws;simp only[dD,World.size_alloc]at this;exact this
 go_wp2_with fail
 clear hB0 start c0 f0 HB
 go_loopg [5] (B32^(q/2+1)) (fun k A wr=>∃(a1:Option Addr) (l1:List Nat) (c1:Nat),A= .slice a1 l1.length c1/\Ext ((more ((w.alloc (.cells #[.bool false,.slice a p0 cap] 62)).alloc (.cells #[.bool false,.slice none 0 0] 62)) g1).alloc (.cells ((madeCells #[.int .u32 0] (q/2+1+1)).setIfInBounds (q/2+1) (.int .u32 1)) 138)) wr/\Hid (RC wr a l 300000000000 k a1 l1 c1))
 case atStart=>exact⟨_,_,q/2+1+1,by simp,Ext.refl _,G0.out⟩
 case round=>
  obtain⟨a1,l1,c1,rfl,hext,HG⟩:=hrel;obtain⟨gx,rfl⟩:=mob (Ext.below hext);clear hext G0;have PL:Hid (∀(k m:List Nat) (a b:Option Addr) (c cb:Nat),Dg.NF B32 k->Dg.NF B32 m->k.length<=300000000000->m.length<=300000000000->∀w,WS w a k->WS w b m->Calls Tryz.prog 194 #[.slice a k.length c,.slice b m.length cb] w fun e w'=>kD w' e (Dg.vl B32 k+Dg.vl B32 m)/\Below w.heap.size w w'):=
   fun k m a b c cb hk hm bk bm w ha hb=>oD k m a b c cb hk.dg hm.dg (by omega) (by omega) w ha hb
  have SH:Hid (∀(k:List Nat) (a:Option Addr) (c:Nat),Dg.NF B32 k->k.length<=1000000000000->∀w,WS w a k->Calls Tryz.prog 209 #[.slice a k.length c,.int .u32 2] w fun e w'=>(∃a' l',e= .returned (.tuple #[.slice a' l'.length l'.length,.int .u32 ((Dg.vl B32 k%2:Nat):Int)])/\WS w' a' l'/\Dg.NF B32 l'/\Dg.vl B32 l'=Dg.vl B32 k/2)/\Below w.heap.size w w'):=
   fun k a c hk bk w ha=>mJ k a c 2 (by omega) hk.dg bk w ha
  have CM:=Lib.hid (fun (k m:List Nat) (a b:Option Addr) (c cb:Nat) (hk:Dg.NF B32 k) (hm:Dg.NF B32 m) (bk:k.length<=3000000000000) w ha hb=>fC k m a b c cb hk hm bk w ha hb);have hne:l1≠[]:=fun e=>by have:=HG.out.p;rw[e]at this;simp[Dg.vl]at this
  have DV1:=Lib.hid (DV.out l1 a a1 q c1 HG.out.n1 hne (Nat.le_refl _) _ HG.out.w0 HG.out.w1);clear DV hne;obtain⟨U,hU⟩:∃U,U=(Dg.vl B32 l1+Dg.vl B32 l/Dg.vl B32 l1)/2:=⟨_,rfl⟩;have UP:Hid (Dg.vl B32 l<(U+1)*(U+1)):=by rw[hU];exact Aa HG.out.p
  have UE:Hid (Dg.vl B32 l1<=U->Dg.vl B32 l1*Dg.vl B32 l1<=Dg.vl B32 l):=by rw[hU];exact yf
  have U0:Hid (0<U):=by
   have h1:=HG.out.p;have h2:=UP.out;rcases Nat.eq_zero_or_pos U with h3|h3
   ·rw[h3]at h2;have h4:Dg.vl B32 l=0:=by omega
    exact absurd (Dg.fB H1.out.nf (fun e=>by have:=HQ.out;rw[e]at this;simp at this;omega) (by decide)) (by omega)
   ·exact h3
  have HU:=Lib.hid hU;clear hU;by_cases hlt:U<Dg.vl B32 l1
  ·have cz:da U (Dg.vl B32 l1)= -1:=by unfold da;rw[if_pos hlt]
   have CZ:=Lib.hid cz;have HLT:=Lib.hid hlt;clear cz hlt
   go_wp2_with (first|(go_at_call 193;(with_reducible refine(DV1.out).mono ?_);rintro e w3 ⟨a3,l3,c3,a4,l4,c4,rfl,d1,d2,d3,d4,d5,d6,d7,d8,hb3⟩;have D:=Lib.hid (And.intro d1 (And.intro d3 (And.intro d5 d7)));clear d1 d2 d3 d4 d5 d6 d7 d8;have HB3:=Lib.hid hb3;obtain⟨g3,rfl⟩:=mob hb3;clear hb3)|(go_at_call 194;(with_reducible refine(PL.out l1 l3 a1 a3 c1 c3 HG.out.n1 D.out.2.2.1 HG.out.b1 ?_ _ ?_ ?_).mono ?_);(focus(refine Nat.le_trans (dm D.out.2.2.1 H1.out.nf.dg ?_) ?_;(focus(rw[D.out.2.2.2];exact Nat.div_le_self _ _));(focus(rw[HQ.out];omega))));(exact HG.out.w1.below HB3.out (Nat.le_refl _));(exact D.out.2.1);rintro e w5 ⟨⟨a5,l5,rfl,r1,r2,r3⟩,hb5⟩;have R5:=Lib.hid (And.intro r1 (And.intro r2 r3));clear r1 r2 r3;have HB5:=Lib.hid (HB3.out.trans (hb5.mono HB3.out.size));obtain⟨g5,rfl⟩:=mob hb5;clear hb5)|(go_at_call 209;(with_reducible refine(SH.out l5 a5 l5.length R5.out.2.1 ?_ _ R5.out.1).mono ?_);(focus(have h5:=mH (Dg.aP HG.out.n1.dg) (Dg.aP D.out.2.2.1.dg);rw[<-R5.out.2.2]at h5;have h6:=iG R5.out.2.1 h5;have h7:=HG.out.b1;have h8:l3.length<=q:=zb48;omega));rintro e w6 ⟨⟨a6,l6,rfl,r1,r2,r3⟩,hb6⟩;rw[R5.out.2.2,D.out.2.2.2,<-HU.out]at r3;have R6:=Lib.hid (And.intro r1 (And.intro r2 r3));clear r1 r2 r3;have HB6:=Lib.hid (HB5.out.trans (hb6.mono HB5.out.size));obtain⟨g6,rfl⟩:=mob hb6;clear hb6)|(go_at_call 208;(with_reducible refine(CM.out l6 l1 a6 a1 l6.length c1 R6.out.2.1 HG.out.n1 ?_ _ R6.out.1 (HG.out.w1.below HB6.out (Nat.le_refl _))).mono ?_);(focus(have h9:=dm R6.out.2.1 HG.out.n1.dg (by rw[R6.out.2.2];exact Nat.le_of_lt HLT.out);have:=HG.out.b1;omega));rintro e w7 ⟨rfl,hb7⟩;rw[R6.out.2.2,CZ.out];have R7:=Lib.hid (R6.out.1.below hb7 (Nat.le_refl _));have HB7:=Lib.hid (HB6.out.trans (hb7.mono HB6.out.size));obtain⟨g7,rfl⟩:=mob hb7;clear hb7))
   go_roundg U
   case measure=>rw[HG.out.k];exact HLT.out
   case rel=>exact⟨a6,l6,l6.length,rfl,gE an,HG.out.w0.below HB7.out (Nat.le_refl _),R7.out,R6.out.2.1,Nat.le_refl _,Nat.le_trans (dm R6.out.2.1 HG.out.n1.dg (by rw[R6.out.2.2];exact Nat.le_of_lt HLT.out)) HG.out.b1,by rw[R6.out.2.2];exact U0.out,by rw[R6.out.2.2];exact UP.out,R6.out.2.2.symm⟩
  ·obtain⟨C,hC0,hC⟩:∃C:Int,0<=C/\da U (Dg.vl B32 l1)=C:=⟨_,by unfold da;rw[if_neg hlt];split<;>decide,rfl⟩;have CZ:=Lib.hid hC;have HE:=Lib.hid (UE.out (Nat.le_of_not_lt hlt));have hC1:decide ((0:Int)<=C)=true:=by rw[decide_eq_true_iff];exact hC0
   clear hC hlt
   go_wp2_with (first|(go_at_call 193;(with_reducible refine(DV1.out).mono ?_);rintro e w3 ⟨a3,l3,c3,a4,l4,c4,rfl,d1,d2,d3,d4,d5,d6,d7,d8,hb3⟩;have D:=Lib.hid (And.intro d1 (And.intro d3 (And.intro d5 d7)));clear d1 d2 d3 d4 d5 d6 d7 d8;have HB3:=Lib.hid hb3;obtain⟨g3,rfl⟩:=mob hb3;clear hb3)|(go_at_call 194;(with_reducible refine(PL.out l1 l3 a1 a3 c1 c3 HG.out.n1 D.out.2.2.1 HG.out.b1 ?_ _ ?_ ?_).mono ?_);(focus(refine Nat.le_trans (dm D.out.2.2.1 H1.out.nf.dg ?_) ?_;(focus(rw[D.out.2.2.2];exact Nat.div_le_self _ _));(focus(rw[HQ.out];omega))));(exact HG.out.w1.below HB3.out (Nat.le_refl _));(exact D.out.2.1);rintro e w5 ⟨⟨a5,l5,rfl,r1,r2,r3⟩,hb5⟩;have R5:=Lib.hid (And.intro r1 (And.intro r2 r3));clear r1 r2 r3;have HB5:=Lib.hid (HB3.out.trans (hb5.mono HB3.out.size));obtain⟨g5,rfl⟩:=mob hb5;clear hb5)|(go_at_call 209;(with_reducible refine(SH.out l5 a5 l5.length R5.out.2.1 ?_ _ R5.out.1).mono ?_);(focus(have h5:=mH (Dg.aP HG.out.n1.dg) (Dg.aP D.out.2.2.1.dg);rw[<-R5.out.2.2]at h5;have h6:=iG R5.out.2.1 h5;have h7:=HG.out.b1;have h8:l3.length<=q:=zb48;omega));rintro e w6 ⟨⟨a6,l6,rfl,r1,r2,r3⟩,hb6⟩;rw[R5.out.2.2,D.out.2.2.2,<-HU.out]at r3;have R6:=Lib.hid (And.intro r1 (And.intro r2 r3));clear r1 r2 r3;have HB6:=Lib.hid (HB5.out.trans (hb6.mono HB5.out.size));obtain⟨g6,rfl⟩:=mob hb6;clear hb6)|(go_at_call 208;(with_reducible refine(CM.out l6 l1 a6 a1 l6.length c1 R6.out.2.1 HG.out.n1 ?_ _ R6.out.1 (HG.out.w1.below HB6.out (Nat.le_refl _))).mono ?_);(focus(have h9:=dm R6.out.2.1 R5.out.2.1.dg (by rw[R6.out.2.2,R5.out.2.2,D.out.2.2.2,HU.out];exact Nat.div_le_self _ _);have h5:=mH (Dg.aP HG.out.n1.dg) (Dg.aP D.out.2.2.1.dg);rw[<-R5.out.2.2]at h5;have h6:=iG R5.out.2.1 h5;have h7:=HG.out.b1;have h8:l3.length<=q:=zb48;omega));rintro e w7 ⟨rfl,hb7⟩;rw[R6.out.2.2,CZ.out];have R7:=Lib.hid (R6.out.1.below hb7 (Nat.le_refl _));have HB7:=Lib.hid (HB6.out.trans (hb7.mono HB6.out.size));obtain⟨g7,rfl⟩:=mob hb7;clear hb7)|(go_at_call 162;(with_reducible refine(MA.out l1 a1 c1 HG.out.h1 HG.out.n1 (by have:=HG.out.b1;omega) _ (HG.out.w1.below HB7.out (Nat.le_refl _))).mono ?_);rintro e w8 ⟨⟨y,rfl,hy⟩,hb8⟩;have HY:=Lib.hid (show IZ w8 y ((Dg.vl B32 l1:Nat):Int)from hy);clear hy;obtain⟨g8,rfl⟩:=mob hb8;clear hb8))
   refine bodyPost_ret (v:=.tuple #[.agg #[.bool y.s,.slice y.a y.n y.cap],.int .i64 0]) (by simp[results,Tryz.results203,go_sem]) rfl ?_;exact⟨⟨y,_,rfl,IZ.cZ HY.out (by exact gy),HE.out,HG.out.u⟩,by exact bel⟩
end
section
open Go.RowKit
namespace CI
def bnd(z:Int):Bool:=Nat.blt z.natAbs 1208925819614629174706176
def i64(n:Int):C:=.sc (.int .i64 n)
def o1(f:Int->Option C):Orc:=fun l=>match l with
 |[a]=>match vm a with
  |some z=>match bnd z with
   |true=>f z
   |false=>none
  |none=>none
 |_=>none
def o2(f:Int->Int->Option C):Orc:=fun l=>match l with
 |[a,b]=>match vm a with
  |some y=>match vm b with
   |some z=>match bnd y with
    |true=>match bnd z with
     |true=>f y z
     |false=>none
    |false=>none
   |none=>none
  |none=>none
 |_=>none
def sg(z:Int):Int:=match z with| .negSucc _=>-1| .ofNat 0=>0| .ofNat (_+1)=>1
def sqf:Nat->Nat->Nat->Nat
 |0,_,r=>r
 |f+1,n,r=>match Nat.ble ((r+1)*(r+1)) n with
  |true=>sqf f n (r+1)
  |false=>r
def isz(z:Int):Bool:=match z with| .ofNat 0=>true|_=>false
def oAdd:Orc:=o2 fun a b=>some (.nm (a+b))
def oSub:Orc:=o2 fun a b=>some (.nm (a-b))
def oMul:Orc:=o2 fun a b=>some (.nm (a*b))
def EH:Orc:=o2 fun a b=>match isz b with|true=>none|false=>some (.tp [.nm (a/b),.nm (a%b),i64 0])
def oCmp:Orc:=o2 fun a b=>some (i64 (sg (a-b)))
def oGcd:Orc:=o2 fun a b=>some (.nm (Int.gcd a b))
def oOf:Orc:=fun l=>match l with
 |[.sc (.int .i64 n)]=>match Nat.blt n.natAbs 4611686018427387904 with
  |true=>some (.nm n)
  |false=>none
 |_=>none
def Gy:Orc:=o1 fun a=>match Nat.blt a.natAbs 4611686018427387904 with
 |true=>some (.tp [i64 a,.sc (.bool true)])
 |false=>none
def EG:Orc:=o1 fun a=>some (.nm a)
def rt(n r:Nat):Option C:=match Nat.ble (r*r) n with
 |true=>match Nat.blt n ((r+1)*(r+1))with
  |true=>some (.tp [.nm r,i64 0])
  |false=>none
 |false=>none
def oRoot:Orc:=o1 fun a=>match a with
 | .ofNat n=>rt n (sqf 10000 n 0)
 |_=>none
def oZero:Orc:=o1 fun a=>some (.sc (.bool (isz a)))
def oSign:Orc:=o1 fun a=>some (i64 (sg a))
def oNeg:Orc:=o1 fun a=>some (.nm (-a))
def oSize:Orc:=o1 fun a=>some (.nm a.natAbs)
def oQuo:Orc:=o2 fun a b=>match isz b with|true=>none|false=>some (.nm (a/b))
def pR:List (Nat×Orc)->Nat->Option Orc
 |[],_=>none
 |(k,o)::l,n=>match Nat.beq k n with|true=>some o|false=>pR l n
def orcT:List (Nat×Orc):=[(190,oAdd),(159,oSub),(117,oMul),(167,EH),(161,oCmp),(165,oGcd),(124,oOf),(120,Gy),(112,EG),(203,oRoot),(95,oZero),(101,oSign),(102,oNeg),(185,oSize),(121,oQuo)]
def theE(P:Program):Env:=⟨jY P,pR orcT⟩
theorem Be(P:Program):(theE P).fns=jY P:=rfl
theorem lS{z:Int}(h:bnd z=true):Fit z:=by
 unfold bnd at h;rw[Nat.blt_eq]at h;exact⟨3,by omega,Nat.lt_trans h (by decide)⟩
section
variable {P : Program} {A : Nat->Prop} {ρ : Nat->Nat} {w : World}
theorem rU{c:C}{z:Int}{v:Value}(h:vm c=some z)(hv:VR P A ρ w c v):∃x:IV,v= .agg #[.bool x.s,.slice x.a x.n x.cap]/\IZ w x z:=by
 unfold vm at h;split at h
 ·cases h;simp only[VR]at hv;exact hv
 ·cases h;simp only[VR,VCs]at hv;obtain⟨cs,rfl,h1,u,r,h2,⟨h3,_⟩,h4,u2,r2,h5,⟨h6,_⟩,h7⟩:=hv;subst h3;subst h6;subst h7;subst h5;refine⟨⟨false,none,0,0⟩,?_,IZ.zero w⟩;have:cs= #[.bool false,.slice none 0 0]:=by apply Array.ext';rw[h2];rfl
  rw[this]
 ·cases h
def Ans(P:Program)(g:Nat)(vs:Array Value)(w:World)(c:C):Prop:=Calls P g vs w (fun e w'=>∃u,e= .returned u/\(∀A ρ,VR P A ρ w' c u)/\Below w.heap.size w w')
theorem Ans.calls{g:Nat}{vs:Array Value}{c:C}(h:Ans P g vs w c)(A:Nat->Prop)(ρ:Nat->Nat):Calls P g vs w (fun e w'=>∃u,e= .returned u/\VR P A ρ w' c u/\Below w.heap.size w w'):=by
 unfold Ans at h;refine h.mono ?_;rintro e w' ⟨u,h1,h2,h3⟩;exact⟨u,h1,h2 A ρ,h3⟩
theorem lH{g:Nat}{f:Int->Option C}(hE:Enters P g)(H:∀(x:IV) (z:Int) (w:World) (c:C),Fit z->IZ w x z->f z=some c->Ans P g #[.agg #[.bool x.s,.slice x.a x.n x.cap]] w c):
  ∀args r,o1 f args=some r->∀A ρ w vs,VRl P A ρ w args vs.toList->Enters P g/\Calls P g vs w (fun e w'=>∃u,e= .returned u/\VR P A ρ w' r u/\Below w.heap.size w w'):=by
 intro args r e A ρ w vs hv;refine⟨hE,?_⟩;unfold o1 at e;split at e
 ·next a=>
  split at e
  ·next z hz=>
   split at e
   ·next hb=>
    simp only[VRl]at hv;obtain⟨u,r',h1,h2,h3⟩:=hv;subst h3;obtain⟨x,rfl,hx⟩:=rU hz h2;have:vs= #[.agg #[.bool x.s,.slice x.a x.n x.cap]]:=by apply Array.ext';rw[h1]
    rw[this];exact(H x z w r (lS hb) hx e).calls A ρ
   ·cases e
  ·cases e
 ·cases e
theorem lG{g:Nat}{f:Int->Int->Option C}(hE:Enters P g)(H:∀(x y:IV) (u v:Int) (w:World) (c:C),Fit u->Fit v->IZ w x u->IZ w y v->f u v=some c->Ans P g #[.agg #[.bool x.s,.slice x.a x.n x.cap],.agg #[.bool y.s,.slice y.a y.n y.cap]] w c):
  ∀args r,o2 f args=some r->∀A ρ w vs,VRl P A ρ w args vs.toList->Enters P g/\Calls P g vs w (fun e w'=>∃u,e= .returned u/\VR P A ρ w' r u/\Below w.heap.size w w'):=by
 intro args r e A ρ w vs hv;refine⟨hE,?_⟩;unfold o2 at e;split at e
 ·next a b=>
  split at e
  ·next y hy=>
   split at e
   ·next z hz=>
    split at e
    ·next hb=>
     split at e
     ·next hb2=>
      simp only[VRl]at hv;obtain⟨u,r',h1,h2,u2,r2,h4,h5,h3⟩:=hv;subst h3;subst h4;obtain⟨x,rfl,hx⟩:=rU hy h2;obtain⟨x2,rfl,hx2⟩:=rU hz h5;have:vs= #[.agg #[.bool x.s,.slice x.a x.n x.cap],.agg #[.bool x2.s,.slice x2.a x2.n x2.cap]]:=by apply Array.ext';rw[h1]
      rw[this];exact(H x x2 y z w r (lS hb) (lS hb2) hx hx2 e).calls A ρ
     ·cases e
    ·cases e
   ·cases e
  ·cases e
 ·cases e
theorem vr_nm{z:Int}{x:IV}(h:IZ w x z)(A:Nat->Prop)(ρ:Nat->Nat):VR P A ρ w (.nm z) (.agg #[.bool x.s,.slice x.a x.n x.cap]):=by
 simp only[VR];exact⟨x,rfl,h⟩
theorem po(n:Int)(A:Nat->Prop)(ρ:Nat->Nat):VR P A ρ w (i64 n) (.int .i64 n):=by
 simp only[i64,VR];exact⟨trivial,rfl⟩
theorem D0(b:Bool)(A:Nat->Prop)(ρ:Nat->Nat):VR P A ρ w (.sc (.bool b)) (.bool b):=by
 simp only[VR];exact⟨trivial,rfl⟩
theorem gK{g:Nat}{vs:Array Value}{z:Int}(h:Calls P g vs w fun e w'=>(∃x:IV,e= .returned (.agg #[.bool x.s,.slice x.a x.n x.cap])/\IZ w' x z)/\Below w.heap.size w w'):Ans P g vs w (.nm z):=by
 unfold Ans;refine h.mono ?_;rintro e w' ⟨⟨x,rfl,hx⟩,hb⟩;exact⟨_,rfl,vr_nm hx,hb⟩
theorem wK{g:Nat}{vs:Array Value}{z:Int}(h:Calls P g vs w fun e w'=>e= .returned (.int .i64 z)/\Below w.heap.size w w'):Ans P g vs w (i64 z):=by
 unfold Ans;refine h.mono ?_;rintro e w' ⟨rfl,hb⟩;exact⟨_,rfl,po z,hb⟩
end
theorem Dl(z:Int):sg z=sgn z:=by
 unfold sg sgn;split
 ·next n=>
  have h:Int.negSucc n<0:=Int.negSucc_lt_zero n;generalize Int.negSucc n=z at*;rw[if_neg (by omega),if_pos (by omega)]
 ·rfl
 ·next n=>
  have h:(0:Int)<Int.ofNat (n+1):=Int.natCast_pos.2 (Nat.succ_pos n);generalize Int.ofNat (n+1)=z at*;rw[if_neg (by omega),if_neg (by omega)]
theorem Aj(z:Int):isz z=decide (z=0):=by
 unfold isz;split
 ·rfl
 ·next h=>
  symm;rw[decide_eq_false_iff_not];intro e;exact h e
theorem GL{z:Int}(h:isz z=false):z≠0:=by
 rw[Aj]at h;simpa using h
theorem zJ{n r s:Nat}(h1:r*r<=n)(h2:n<(r+1)*(r+1))(h3:s*s<=n)(h4:n<(s+1)*(s+1)):r=s:=by
 have k1:r<s+1:=Nat.lt_of_not_le fun h=>by have:=Nat.mul_le_mul h h;omega
 have k2:s<r+1:=Nat.lt_of_not_le fun h=>by have:=Nat.mul_le_mul h h;omega
 omega
theorem sH:∀{l:List (Nat×Orc)} {n:Nat} {o:Orc},pR l n=some o->(n,o)∈l
 |[],_,_,h=>by cases h
 |(k,o')::l,n,o,h=>by
  unfold pR at h;split at h
  ·next hb=>
   cases h;rw[Nat.eq_of_beq_eq_true hb];exact List.mem_cons_self
  ·exact List.mem_cons_of_mem _ (sH h)
theorem EF:qC Tryz.prog (theE Tryz.prog):=by
 intro g f hg;have hm:=sH (show pR orcT g=some f from hg);simp only[orcT,List.mem_cons,Prod.mk.injEq,List.not_mem_nil,or_false]at hm;rcases hm with⟨rfl,rfl⟩|⟨rfl,rfl⟩|⟨rfl,rfl⟩|⟨rfl,rfl⟩|⟨rfl,rfl⟩|⟨rfl,rfl⟩|⟨rfl,rfl⟩|⟨rfl,rfl⟩|⟨rfl,rfl⟩|⟨rfl,rfl⟩|⟨rfl,rfl⟩|⟨rfl,rfl⟩|⟨rfl,rfl⟩|⟨rfl,rfl⟩|⟨rfl,rfl⟩
 ·exact lG (enters_of Tryz.func190 (by kernel_rfl) rfl) fun x y u v w c fu fv hx hy e => by
   cases e;exact gK (nR x y u v fu fv w hx.ip hy.ip)
 ·exact lG (enters_of Tryz.func159 (by kernel_rfl) rfl) fun x y u v w c fu fv hx hy e => by
   cases e;exact gK (gV x y u v fu fv w hx.ip hy.ip)
 ·exact lG (enters_of Tryz.func117 (by kernel_rfl) rfl) fun x y u v w c fu fv hx hy e => by
   cases e;exact gK (dF x y u v fu fv w hx.ip hy.ip)
 ·exact lG (enters_of Tryz.func167 (by kernel_rfl) rfl) fun x y u v w c fu fv hx hy e => by
   split at e
   ·cases e
   ·next hz=>
    cases e;have hv:=GL hz;unfold Ans;refine(qj x y u v fu fv w hx.ip hy.ip).mono ?_;rintro e w' ⟨q,r,rfl,h1,h2,hb⟩;rw[if_neg hv]at h2;refine⟨_,rfl,fun A ρ=>?_,hb⟩;rw[if_neg hv];simp only[VR,VRl];exact⟨_,rfl,_,_,rfl,⟨q,rfl,h1⟩,_,_,rfl,⟨r,rfl,h2⟩,_,_,rfl,po 0 A ρ,rfl⟩
 ·exact lG (enters_of Tryz.func161 (by kernel_rfl) rfl) fun x y u v w c fu fv hx hy e => by
   cases e;rw[Dl];exact wK (rR x y u v fu fv w hx.ip hy.ip)
 ·exact lG (enters_of Tryz.func165 (by kernel_rfl) rfl) fun x y u v w c fu fv hx hy e => by
   cases e;exact gK (EW x y u v fu fv w hx.ip hy.ip)
 ·intro args r e A ρ w vs hv;refine⟨enters_of Tryz.func124 ae rfl,?_⟩;unfold oOf at e;split at e
  ·next n=>
   split at e
   ·next hb=>
    cases e;rw[Nat.blt_eq]at hb;simp only[VRl,VR]at hv;obtain⟨u,r',h1,⟨rfl,_⟩,h3⟩:=hv;subst h3;have:vs= #[.int .i64 n]:=by apply Array.ext';rw[h1]
    rw[this];exact(gK (mW n (by omega) w)).calls A ρ
   ·cases e
  ·cases e
 ·exact lH (enters_of Tryz.func120 (by kernel_rfl) rfl) fun x z w c fz hx e => by
   split at e
   ·next hb=>
    cases e;rw[Nat.blt_eq]at hb;have hI:I64 z:=by unfold I64;omega
    unfold Ans;refine(zm x z fz w hx.ip).mono ?_;rintro e w' ⟨rfl,hb⟩;refine⟨_,rfl,fun A ρ=>?_,hb⟩;rw[show smv z=z from if_pos hI,show decide (I64 z)=true from decide_eq_true hI];simp only[VR,VRl];exact⟨_,rfl,_,_,rfl,po z A ρ,_,_,rfl,⟨rfl,rfl⟩,rfl⟩
   ·cases e
 ·exact lH (enters_of Tryz.func112 (by kernel_rfl) rfl) fun x z w c fz hx e => by
   cases e;obtain⟨l,h1,rfl⟩:=hx.ip;have bl:=cU h1.nf fz;exact gK (lI x l (by omega) w h1)
 ·exact lH (enters_of Tryz.func203 (by kernel_rfl) rfl) fun x z w c fz hx e => by
   split at e
   ·next n=>
    generalize sqf 10000 n 0=r at e;unfold rt at e;split at e
    ·next h1=>
     split at e
     ·next h2=>
      cases e;have k1:=Nat.le_of_ble_eq_true h1;rw[Nat.blt_eq]at h2;unfold Ans;refine(Bv x _ fz (Int.natCast_nonneg n) w hx.ip).mono ?_;rintro e w' ⟨⟨y,s,rfl,hy,h3,h4⟩,hb⟩;have:s=r:=zJ h3 h4 k1 h2;subst this;refine⟨_,rfl,fun A ρ=>?_,hb⟩;simp only[VR,VRl];exact⟨_,rfl,_,_,rfl,⟨y,rfl,hy⟩,_,_,rfl,po 0 A ρ,rfl⟩
     ·cases e
    ·cases e
   ·cases e
 ·exact lH (enters_of Tryz.func95 (by kernel_rfl) rfl) fun x z w c fz hx e => by
   cases e;rw[Aj];unfold Ans;refine(cQ x z w hx).mono ?_;rintro e w' ⟨rfl,hb⟩;exact⟨_,rfl,fun A ρ=>D0 _ A ρ,hb⟩
 ·exact lH (enters_of Tryz.func101 (by kernel_rfl) rfl) fun x z w c fz hx e => by
   cases e;rw[Dl];exact wK (mF x z fz w hx.ip)
 ·exact lH (enters_of Tryz.func102 (by kernel_rfl) rfl) fun x z w c fz hx e => by
   cases e;exact gK (eJ x z fz w hx.ip)
 ·exact lH (enters_of Tryz.func185 (by kernel_rfl) rfl) fun x z w c fz hx e => by
   cases e;exact gK (iC x z fz w hx.ip)
 ·exact lG (enters_of Tryz.func121 (by kernel_rfl) rfl) fun x y u v w c fu fv hx hy e => by
   split at e
   ·cases e
   ·cases e;exact gK (dL x y u v fu fv w hx.ip hy.ip)
end CI
end
section
open Go.RowKit
namespace CI
def isTrue:Option Out->Bool
 |some (.val (.sc (.bool true)) _)=>true
 |_=>false
theorem zX{o:Option Out}(h:isTrue o=true):∃h',o=some (.val (.sc (.bool true)) h'):=by
 unfold isTrue at h;split at h
 ·exact⟨_,rfl⟩
 ·cases h
set_option maxRecDepth 100000 in
theorem AI:isTrue (run (theE Tryz.prog) 3000 (.call (.fn 15 []) [] ⟨0,0,[],.e⟩))=true:=by kernel_rfl
theorem AJ(w:World):Calls Tryz.prog 15 #[] w (fun e w'=>e= .returned (.bool true)/\Below w.heap.size w w'):=by
 obtain⟨h',e⟩:=zX AI;refine(zE ae EF (Be _) (enters_of Tryz.func15 ae rfl) e w).mono ?_;rintro e w' ⟨u,A,ρ,rfl,h1,_,h2⟩;simp only[VR]at h1;exact⟨by rw[h1.1],h2⟩
end CI
end
section
open Go.RowKit
namespace DW
theorem Fz:Fn Tryz.prog 15 [] (.sc (.bool true)):=by
 refine⟨enters_of Tryz.func15 ae rfl,fun X w vs _ hv=>?_⟩;simp only[ATp]at hv;have:vs= #[]:=Array.toList_inj.1 hv;subst this;refine(CI.AJ w).mono fun e w' ⟨h,hb⟩=>⟨_,h,?_,hb⟩;simp only[AR];exact⟨trivial,rfl⟩
theorem pB{n:Nat}(h:(!(smq n))=true):n<=70/\(n<=64->n<=5):=by
 unfold smq at h;simp at h;omega
theorem El{m:List (List Int)}(h:smL m=true):m.length<=70/\∀l∈m,l.length<=70:=by
 unfold smL at h;rw[Bool.and_eq_true]at h;exact⟨(pB h.1).1,fun l hl=>(pB (List.all_eq_true.1 h.2 l hl)).1⟩
theorem uf{m:List (List Int)}(h:smL m=true)(hc:chk m=0):m.length<=5/\wid m<=5:=by
 obtain⟨k1,k2,k3,_⟩:=gJ hc;unfold smL at h;rw[Bool.and_eq_true]at h;refine⟨(pB h.1).2 k1,?_⟩
 cases m with
 |nil=>exact Nat.zero_le _
 |cons l m=>
  have h1:=k3 l List.mem_cons_self;have h2:=(pB (List.all_eq_true.1 h.2 l List.mem_cons_self)).2 (by omega);omega
set_option maxRecDepth 20000
set_option maxHeartbeats 2000000
end DW
end
section
open Go.RowKit
namespace Mx
theorem Fa(A B:Mat):DW.fil (A++B)=DW.fil A++DW.fil B:=List.filter_append ..
theorem Fb{A:Mat}(h:∀l∈A,l.all (fun z=>decide (z=0))=false):DW.fil A=A:=by
 unfold DW.fil;rw[List.filter_eq_self];intro l hl;rw[h l hl];rfl
theorem B5{A:Mat}(h:∀l∈A,l.all (fun z=>decide (z=0))=true):DW.fil A=[]:=by
 unfold DW.fil;rw[List.filter_eq_nil_iff];intro l hl;rw[h l hl];simp
theorem EZ{n:Nat}{M:Mat}(h:Rc n M):DW.fil (red n 0 (0,M)).2=nH n M:=by
 obtain⟨pv,he⟩:=wb n 0 (0,M) id h (Aw M);have hR:Rc n (red n 0 (0,M)).2:=(jo n 0 (0,M) h).rc h;unfold nH;generalize red n 0 (0,M)=T at*;obtain⟨r,N⟩:=T;simp only at he hR⊢;rw[Nat.zero_add]at he;have hz:∀{i:Nat} {l:List Int},N[i]?=some l->(l.all (fun z=>decide (z=0))=true↔∀j,j<n->at' N i j=0):=fun {i l} hl=>by
  have hi:=(List.getElem?_eq_some_iff.1 hl).1;have hrw:rw N i=l:=qv hl;have hlen:l.length=n:=hR l (List.mem_of_getElem? hl);rw[List.all_eq_true];constructor
  ·intro h j hj;unfold at';rw[hrw,List.getD_eq_getElem?_getD,List.getElem?_eq_getElem (by omega)];simpa using h _ (List.getElem_mem (by omega))
  ·intro h z hz;obtain⟨j,hj,rfl⟩:=List.getElem_of_mem hz;have:=h j (by omega);unfold at' at this;rw[hrw,List.getD_eq_getElem?_getD,List.getElem?_eq_getElem hj]at this;simpa using this
 have e:=List.take_append_drop r N
 conv=>lhs;rw[<-e]
 rw[Fa,Fb,B5,List.append_nil]
 ·intro l hl;obtain⟨i,hi⟩:=List.getElem?_of_mem hl;rw[List.getElem?_drop]at hi;exact(hz hi).2 fun j hj=>he.zb _ (by omega) j hj
 ·intro l hl;obtain⟨i,hi⟩:=List.getElem?_of_mem hl;rw[List.getElem?_take]at hi;split at hi
  ·next hir=>
   cases hb:l.all (fun z=>decide (z=0))with
   |false=>rfl
   |true=>
    have h1:=(hz hi).1 hb (pv i) (he.lt i hir);have h2:=he.pos i hir;omega
  ·cases hi
end Mx
namespace DW
set_option maxRecDepth 20000
set_option maxHeartbeats 2000000
end DW
end
section
namespace Mx
def gW(k:Nat)(M:Mat):Nat->Nat->Nat
 |0,p=>p
 |f+1,p=>if at' M p k=0 then gW k M f (p+1)else p
def piv(k:Nat)(M:Mat)(p:Nat):Nat:=gW k M (M.length-p) p
theorem EB{k p:Nat}{M:Mat}(h:M.length<=p):piv k M p=p:=by
 unfold piv;rw[show M.length-p=0 by omega];rfl
theorem BA{k p:Nat}{M:Mat}(h:p<M.length)(h0:at' M p k=0):piv k M p=piv k M (p+1):=by
 unfold piv;rw[show M.length-p=(M.length-(p+1))+1 by omega];show(if at' M p k=0 then gW k M (M.length-(p+1)) (p+1)else p)=_;rw[if_pos h0]
theorem BC{k p:Nat}{M:Mat}(h:p<M.length)(h0:at' M p k≠0):piv k M p=p:=by
 unfold piv;rw[show M.length-p=(M.length-(p+1))+1 by omega];show(if at' M p k=0 then gW k M (M.length-(p+1)) (p+1)else p)=_;rw[if_neg h0]
theorem wi(k:Nat)(M:Mat):∀f p,p<=gW k M f p
 |0,p=>Nat.le_refl _
 |f+1,p=>by
  show p<=if at' M p k=0 then gW k M f (p+1)else p
  have:=wi k M f (p+1);split<;>omega
theorem Gq(k:Nat)(M:Mat)(p:Nat):p<=piv k M p:=wi k M _ p
def mi(k:Nat)(last:Int)(p r:List Int):List Int:=(List.range r.length).map fun j=>if k<j then(p.getD k 0*r.getD j 0-r.getD k 0*p.getD j 0)/last else r.getD j 0
theorem fO(k:Nat)(last:Int)(p r:List Int):(mi k last p r).length=r.length:=by simp[mi]
theorem mg{k j:Nat}{last:Int}{p r:List Int}(h:j<r.length):(mi k last p r)[j]?=some (if k<j then(p.getD k 0*r.getD j 0-r.getD k 0*p.getD j 0)/last else r.getD j 0):=by
 unfold mi;rw[List.getElem?_map,List.getElem?_range h];rfl
theorem wI{k j:Nat}{last:Int}{p r:List Int}(h:j<r.length):(mi k last p r).getD j 0=if k<j then(p.getD k 0*r.getD j 0-r.getD k 0*p.getD j 0)/last else r.getD j 0:=by
 rw[List.getD_eq_getElem?_getD,mg h];rfl
def bK(k:Nat)(last:Int)(M:Mat):Nat->Mat
 |0=>M
 |t+1=>(bK k last M t).set (k+1+t) (mi k last (rw M k) (rw M (k+1+t)))
theorem qt(k:Nat)(last:Int)(M:Mat):∀t,(bK k last M t).length=M.length
 |0=>rfl
 |t+1=>by rw[bK,List.length_set,qt k last M t]
theorem nP(k:Nat)(last:Int)(M:Mat):∀t,k+1+t<=M.length->∀i,rw (bK k last M t) i=if k+1<=i/\i<k+1+t then mi k last (rw M k) (rw M i)else rw M i
 |0,_,i=>by rw[if_neg (by omega)];rfl
 |t+1,h,i=>by
  rw[bK,jk _ _ _ _ (by rw[qt];omega),nP k last M t (by omega)];by_cases e:i=k+1+t
  ·rw[if_pos e,if_pos (by omega),e]
  ·rw[if_neg e];by_cases e2:k+1<=i/\i<k+1+t
   ·rw[if_pos e2,if_pos (by omega)]
   ·rw[if_neg e2,if_neg (by omega)]
theorem yF{n k:Nat}{last:Int}{M:Mat}(h:Rc n M):∀t,k+1+t<=M.length->Rc n (bK k last M t)
 |0,_=>h
 |t+1,ht=>by
  rw[bK];exact(yF h t (by omega)).set (by rw[fO];exact h.rw (by omega))
def kB(k:Nat)(last:Int)(M:Mat):Mat:=bK k last M (M.length-(k+1))
theorem bK_bd{n X k t:Nat}{last:Int}{M:Mat}(h:Rc n M)(hb:Bd X M)(h1:1<=X)(ht:k+1+t<=M.length):Bd (2*X*X) (bK k last M t):=fun i j=>by
 have hX:X<=2*X*X:=by
  have:X*1<=2*X*X:=Nat.mul_le_mul (by omega) h1;omega
 unfold at';rw[nP k last M t ht];split
 ·next e=>
  by_cases hj:j<n
  ·have hl:(rw M i).length=n:=h.rw (by omega);rw[wI (by rw[hl];exact hj)];split
   ·refine Nat.le_trans (fV _ _) ?_;have e1:((rw M k).getD k 0*(rw M i).getD j 0).natAbs<=X*X:=by
     rw[Int.natAbs_mul];exact Nat.mul_le_mul (hb k k) (hb i j)
    have e2:((rw M i).getD k 0*(rw M k).getD j 0).natAbs<=X*X:=by
     rw[Int.natAbs_mul];exact Nat.mul_le_mul (hb i k) (hb k j)
    have e3:2*X*X=X*X+X*X:=by rw[Nat.mul_assoc,Nat.two_mul]
    omega
   ·exact Nat.le_trans (hb i j) hX
  ·rw[List.getD_eq_getElem?_getD,List.getElem?_eq_none (by rw[fO,h.rw (by omega)];omega)];simp
 ·exact Nat.le_trans (hb i j) hX
def bGo:Nat->Nat->Mat->Int->Int->Int
 |0,_,_,last,s=>s*last
 |r+1,k,M,last,s=>
  if piv k M k=M.length then 0
  else bGo r (k+1) (kB k last (if piv k M k=k then M else swp M k (piv k M k))) (at' M (piv k M k) k) (if piv k M k=k then s else-s)
def rT(M:Mat):Int:=bGo M.length 0 M 1 1
def bE(e k:Nat):Nat:=2^k*(e+1)-1
theorem Fy(e:Nat):bE e 0=e:=by simp[bE]
theorem wJ(e k:Nat):2*2^(bE e k)*2^(bE e k)=2^(bE e (k+1)):=by
 have h:bE e (k+1)=bE e k+bE e k+1:=by
  have h1:1<=2^k*(e+1):=Nat.mul_pos (Nat.pow_pos (by omega)) (by omega);have h2:2^(k+1)*(e+1)=2*(2^k*(e+1)):=by rw[Nat.pow_succ,Nat.mul_comm (2^k) 2,Nat.mul_assoc]
  unfold bE;rw[h2];omega
 rw[h,Nat.pow_succ,Nat.pow_add,Nat.mul_comm _ 2,Nat.mul_assoc]
theorem bE_le{e k n:Nat}(h:k<=n):bE e k<=2^n*(e+1):=by
 have:=Nat.mul_le_mul_right (e+1) (Nat.pow_le_pow_right (n:=2) (by omega) h);unfold bE;omega
end Mx
end
section
open Go.RowKit Go.BigFrame
attribute [local go_sem ↓] Go.wp_at_zero Go.wp_at_succ
theorem xX{a b:List Int}{k:Nat}(hk:∀j,j<k->a[j]?=b[j]?):part k a b=b:=by
 have e:a.take k=b.take k:=by
  apply List.ext_getElem?;intro j;rw[List.getElem?_take,List.getElem?_take];split
  ·exact hk j (by assumption)
  ·rfl
 unfold part;rw[e,List.take_append_drop]
def bY(k:Nat)(last:Int)(N:Mx.Mat)(t j:Nat):Mx.Mat:=(Mx.bK k last N t).set (k+1+t) (part j (Mx.mi k last (Mx.rw N k) (Mx.rw N (k+1+t))) (Mx.rw N (k+1+t)))
theorem yE{k t:Nat}{last:Int}{N:Mx.Mat}(ht:k+1+t<N.length)(j i:Nat):Mx.rw (bY k last N t j) i=if i=k+1+t then part j (Mx.mi k last (Mx.rw N k) (Mx.rw N (k+1+t))) (Mx.rw N (k+1+t))else Mx.rw (Mx.bK k last N t) i:=by
 unfold bY;rw[Mx.jk _ _ _ _ (by rw[Mx.qt];exact ht)]
theorem Ci{n k t:Nat}{last:Int}{N:Mx.Mat}(h:Mx.Rc n N)(ht:k+1+t<N.length):bY k last N t (k+1)=Mx.bK k last N t:=by
 have hl:(Mx.rw N (k+1+t)).length=n:=h.rw ht;unfold bY;rw[xX (fun j hj=>by
  by_cases hjn:j<n
  ·rw[Mx.mg (by rw[hl];exact hjn),if_neg (by omega),getD_some (by rw[hl];exact hjn)]
  ·rw[List.getElem?_eq_none (by rw[Mx.fO,hl];omega),List.getElem?_eq_none (by rw[hl];omega)])]
 have e:Mx.rw N (k+1+t)=Mx.rw (Mx.bK k last N t) (k+1+t):=by rw[Mx.nP k last N t (by omega),if_neg (by omega)]
 rw[e,Mx.zy]
theorem G3{n k t:Nat}{last:Int}{N:Mx.Mat}(h:Mx.Rc n N)(ht:k+1+t<N.length):bY k last N t n=Mx.bK k last N (t+1):=by
 have hl:(Mx.rw N (k+1+t)).length=n:=h.rw ht;unfold bY;rw[oF (by rw[Mx.fO,hl];exact Nat.le_refl _) (by rw[hl];exact Nat.le_refl _)];rfl
theorem bY_k{k t:Nat}{last:Int}{N:Mx.Mat}(ht:k+1+t<N.length)(j l:Nat):Mx.at' (bY k last N t j) k l=Mx.at' N k l:=by
 unfold Mx.at';rw[yE ht,if_neg (by omega),Mx.nP k last N t (by omega),if_neg (by omega)]
theorem bY_i{n k t j l:Nat}{last:Int}{N:Mx.Mat}(h:Mx.Rc n N)(ht:k+1+t<N.length)(hln:l<n)(hl:j<=l\/l<=k):Mx.at' (bY k last N t j) (k+1+t) l=Mx.at' N (k+1+t) l:=by
 have hrl:(Mx.rw N (k+1+t)).length=n:=h.rw ht;unfold Mx.at';rw[yE ht,if_pos rfl,List.getD_eq_getElem?_getD,List.getD_eq_getElem?_getD];congr 1;unfold part;by_cases hj:j<=l
 ·by_cases hjn:j<=n
  ·rw[List.getElem?_append_right tO,List.length_take,Mx.fO,hrl,Nat.min_eq_left hjn,List.getElem?_drop];congr 1;omega
  ·omega
 ·rw[List.getElem?_append_left (by rw[List.length_take,Mx.fO,hrl];omega),List.getElem?_take_of_lt (by omega),Mx.mg (by rw[hrl];exact hln),if_neg (by omega),getD_some (by rw[hrl];exact hln)]
theorem Fv{n k t j:Nat}{last:Int}{N:Mx.Mat}(h:Mx.Rc n N)(ht:k+1+t<N.length)(hj:k<j)(hjn:j<n):
  (bY k last N t j).set (k+1+t) ((Mx.rw (bY k last N t j) (k+1+t)).set j ((Mx.at' N k k*Mx.at' N (k+1+t) j-Mx.at' N (k+1+t) k*Mx.at' N k j)/last))=bY k last N t (j+1):=by
 have hrl:(Mx.rw N (k+1+t)).length=n:=h.rw ht;rw[yE ht,if_pos rfl,lD (Mx.fO _ _ _ _) (by rw[Mx.mg (by rw[hrl];exact hjn),if_pos hj];rfl)];unfold bY;rw[List.set_set]
structure DI(w wr:World)(gm L n:Nat)(gs cs:Nat->Nat)(X:Mx.Mat)(y:IV)(last:Int):Prop where
 bl:Below w.heap.size w wr
 mb:MB wr (w.heap.size+1) gm n gs cs n X
 len:X.length=n
 gl:gm<L
 gsl:∀i,i<n->gs i<L
 lt:L<wr.heap.size
 l0:wr.cell? ⟨L,0,none⟩=some (.bool y.s)
 l1:wr.cell? ⟨L,1,none⟩=some (.slice y.a y.n y.cap)
 lf:∀i,wr.frozen? ⟨L,i,none⟩=false
 iz:IZ wr y last
 r0:wr.cell? ⟨w.heap.size,0,none⟩=some (.bool false)
 r1:wr.cell? ⟨w.heap.size,1,none⟩=some (.slice none 0 0)
 rf:∀i,wr.frozen? ⟨w.heap.size,i,none⟩=false
theorem DI.rlt{w wr:World}{gm L n:Nat}{gs cs:Nat->Nat}{X:Mx.Mat}{y:IV}{last:Int}(h:DI w wr gm L n gs cs X y last):w.heap.size<gm/\w.heap.size<wr.heap.size:=by
 have:=h.mb.b;have:=h.mb.lt;omega
theorem NW.bool{w:World}{g:Nat}{b:Bool}(h:w.cell? ⟨g,0,none⟩=some (.bool b)):NW w g:=fun n e=>by rw[h]at e;cases e
theorem DI.below{w wr wx:World}{gm L n:Nat}{gs cs:Nat->Nat}{X:Mx.Mat}{y:IV}{last:Int}(h:DI w wr gm L n gs cs X y last)(k:Below wr.heap.size wr wx):DI w wx gm L n gs cs X y last:=
 have hr:=h.rlt.2
 ⟨h.bl.trans (k.mono (Nat.le_of_lt hr)),h.mb.below k (Nat.le_refl _),h.len,h.gl,h.gsl,Nat.lt_of_lt_of_le h.lt k.size,(k.cell (p:=⟨L,0,none⟩) h.lt).trans h.l0,(k.cell (p:=⟨L,1,none⟩) h.lt).trans h.l1,fun i=>(k.frozen (p:=⟨L,i,none⟩) h.lt).trans (h.lf i),h.iz.below k (Nat.le_refl _),
  (k.cell (p:=⟨w.heap.size,0,none⟩) hr).trans h.r0,(k.cell (p:=⟨w.heap.size,1,none⟩) hr).trans h.r1,fun i=>(k.frozen (p:=⟨w.heap.size,i,none⟩) hr).trans (h.rf i)⟩
theorem DI.chg{w wr wx:World}{gm L n:Nat}{gs cs gs2 cs2:Nat->Nat}{X X2:Mx.Mat}{y:IV}{last:Int}{b:Nat}(h:DI w wr gm L n gs cs X y last)(k:Chg b wr wx)(hb:w.heap.size<b)(hbL:b<L)(hnw:NW wr b)(hm:MB wx (w.heap.size+1) gm n gs2 cs2 n X2)(hl:X2.length=n)(hg:∀i,i<n->gs2 i<L):DI w wx gm L n gs2 cs2 X2 y last:=
 have hr:=h.rlt.2
 ⟨k.below h.bl (Nat.le_of_lt hb) (Nat.le_of_lt hr),hm,hl,h.gl,hg,Nat.lt_of_lt_of_le h.lt k.size,(k.cell h.lt (by omega)).trans h.l0,(k.cell h.lt (by omega)).trans h.l1,fun i=>(k.frozen h.lt (by omega)).trans (h.lf i),h.iz.chg k hnw,
  (k.cell hr (by omega)).trans h.r0,(k.cell hr (by omega)).trans h.r1,fun i=>(k.frozen hr (by omega)).trans (h.rf i)⟩
theorem MB.oth{b:Nat}{w w':World}{B gm L:Nat}{gs cs:Nat->Nat}{n:Nat}{M:Mx.Mat}(h:MB w B gm L gs cs n M)(k:Chg b w w')(hb:NW w b)(hg:gm≠b)(hgs:∀i,i<M.length->gs i≠b):MB w' B gm L gs cs n M:=by
 refine⟨h.b,Nat.lt_of_lt_of_le h.lt k.size,fun j=>(k.frozen h.lt hg).trans (h.fr j),fun i hi=>?_,h.nw.kP (k.cell h.lt hg),h.ml,h.rc,fun i hi=>?_,h.dj⟩
 ·obtain⟨u,hu⟩:=h.hl i hi;exact⟨u,(k.cell h.lt hg).trans hu⟩
 ·obtain⟨a,h1,h2,hA,h3⟩:=h.hc i hi;exact⟨a,(k.cell h.lt hg).trans h1,h2,hA,fun h0=>⟨(h3 h0).1,(h3 h0).2.1,(h3 h0).2.2.1,(h3 h0).2.2.2.chg k hb (hgs i hi)⟩⟩
theorem DI.row{w wr:World}{gm L n:Nat}{gs cs:Nat->Nat}{X:Mx.Mat}{y:IV}{last:Int}(h:DI w wr gm L n gs cs X y last){i j:Nat}(hi:i<n)(hj:j<n){x:IV}{z:Int}(hx:IZ wr x z):DI w (cj wr (gs i) j x) gm L n gs cs (X.set i ((Mx.rw X i).set j z)) y last:=by
 have hi2:i<X.length:=by rw[h.len];exact hi
 have hm:=h.mb.mo (by omega);obtain⟨h1,h2,h3,h4,h5⟩:=hm.hc i hi2;have hnw:=hm.zH hi2;have k:Chg (gs i) wr (cj wr (gs i) j x):=jj (Chg.refl _ _) j x;have hrl:(Mx.rw X i).length=n:=hm.rc.rw hi2;have ho:RO (cj wr (gs i) j x) (gs i) ((Mx.rw X i).set j z):=h5.set (by rw[hrl];exact hj) hx;exact h.chg k (by omega) (h.gsl i hi) hnw (hm.setRow hi2 (by rw[List.length_set];exact hrl) k ho).mb (by rw[List.length_set];exact h.len) h.gsl
theorem DI.swp{w wr:World}{gm L n:Nat}{gs cs:Nat->Nat}{X:Mx.Mat}{y:IV}{last:Int}(h:DI w wr gm L n gs cs X y last){i j:Nat}(hi:i<n)(hj:j<n):
  DI w ((wr.setCell ⟨gm,i,none⟩ (.slice (some ⟨gs j,0,none⟩) n (cs j))).setCell ⟨gm,j,none⟩ (.slice (some ⟨gs i,0,none⟩) n (cs i))).drew gm L n (ix gs i j) (ix cs i j) (Mx.swp X i j) y last:=by
 have k:Chg gm wr ((wr.setCell ⟨gm,i,none⟩ (.slice (some ⟨gs j,0,none⟩) n (cs j))).setCell ⟨gm,j,none⟩ (.slice (some ⟨gs i,0,none⟩) n (cs i))):=((Chg.refl gm wr).set gm _ _ (.inl rfl)).set gm _ _ (.inl rfl);refine(h.chg k h.rlt.1 h.gl h.mb.nw ((h.mb.mo (by omega)).swp (by rw[h.len];exact hi) (by rw[h.len];exact hj)).mb (by rw[Mx.bH];exact h.len) (fun l hl=>?_)).below (Below.refl _ _).drew;unfold ix;split
 ·exact h.gsl i hi
 ·split
  ·exact h.gsl j hj
  ·exact h.gsl l hl
theorem DI.last{w wr:World}{gm L n:Nat}{gs cs:Nat->Nat}{X:Mx.Mat}{y:IV}{last:Int}(h:DI w wr gm L n gs cs X y last){x:IV}{z:Int}(hx:IZ wr x z):DI w ((wr.setCell ⟨L,0,none⟩ (.bool x.s)).setCell ⟨L,1,none⟩ (.slice x.a x.n x.cap)) gm L n gs cs X x z:=by
 have k:Chg L wr ((wr.setCell ⟨L,0,none⟩ (.bool x.s)).setCell ⟨L,1,none⟩ (.slice x.a x.n x.cap)):=((Chg.refl L wr).set L _ _ (.inl rfl)).set L _ _ (.inl rfl);have hnw:=NW.bool h.l0;have hr:=h.rlt;have hL:w.heap.size≠L:=by have:=h.gl;omega
 refine⟨k.below h.bl (by have:=h.gl;omega) (Nat.le_of_lt hr.2),h.mb.oth k hnw (by have:=h.gl;omega) (fun i hi=>by have:=h.gsl i (by rw[<-h.len];exact hi);omega),h.len,h.gl,h.gsl,by simpa using h.lt,?_,?_,fun i=>by rw[World.frozen?_setCell,World.frozen?_setCell];exact h.lf i,hx.chg k hnw,(k.cell hr.2 hL).trans h.r0,(k.cell hr.2 hL).trans h.r1,fun i=>(k.frozen hr.2 hL).trans (h.rf i)⟩
 ·rw[cn _ _ _ _ _ (by omega)];exact cT _ _ _ _ _ h.l0
 ·exact cT _ _ _ _ _ ((cn _ _ _ _ _ (by omega)).trans h.l1)
end
section
open Go.RowKit Go.BigFrame
attribute [local go_sem ↓] Go.wp_at_zero Go.wp_at_succ
set_option maxRecDepth 20000 in
set_option maxHeartbeats 0 in
theorem Fk(M:Mx.Mat)(n e:Nat)(v:Value)(hlen:M.length=n)(hn:n<=1000)(he:2^n*(e+1)<=6000000000000)(hb:Mx.Bd (2^e) M)(w:World)(h:MR w v n M):
  Calls Tryz.prog 96 #[v] w fun e w'=>(∃z,e= .returned (.agg #[.bool z.s,.slice z.a z.n z.cap])/\IZ w' z (Mx.rT M))/\Below w.heap.size w w':=by
 have HRC:Hid (Mx.Rc n M):=by obtain⟨_,_,_,_,h3,_⟩:=h;exact h3
 have CL:Hid (∀w,MR w v n M->Calls Tryz.prog 156 #[v] w fun e w'=>(∃gm gs cs cap,e= .returned (.slice (some ⟨gm,0,none⟩) n cap)/\n<=cap/\MB w' w.heap.size gm n gs cs n M)/\Below w.heap.size w w'):=fun w h=>by
  have h1:=pQ M n v (by omega) (by omega) w h;unfold yL at h1;rw[hlen]at h1;exact h1
 have OF:=Lib.hid (fun w=>mW 1 (by omega) w);have H:=Lib.hid h;have HB0:Hid (Mx.Bd (2^(Mx.bE e 0)) M):=by show Mx.Bd _ _;rw[Mx.Fy];exact hb
 have HE:Hid (∀k,k<=n->Mx.bE e k<=6000000000000):=fun k hk=>Nat.le_trans (Mx.bE_le hk) he;have HG0:Hid (Mx.bGo (n-0) 0 M 1 1=Mx.rT M):=by show _=_;unfold Mx.rT;rw[hlen];rfl
 have HLN:=Lib.hid hlen;obtain⟨a,cap,rfl,_⟩:=h;rw[hlen]at H CL⊢;generalize Mx.rT M=Z at*;clear he hb hlen
 go_enter Tryz.func96,Tryz.ntmps96
 go_wp2_with (first
  |(go_at_call 156;((with_reducible refine(CL.out _ (H.out.below (B:=w.heap.size) an (Nat.le_refl _))).mono ?_);rintro e w4 ⟨⟨gm,gs,cs,c4,rfl,hc4,hm⟩,hb4⟩;have HM:=Lib.hid hm;clear hm;have HB4:=Lib.hid hb4;clear hb4))
  |(go_at_call 124;((with_reducible refine(OF.out _).mono ?_);rintro e w5 ⟨⟨y,rfl,hy⟩,hb5⟩;have HY:=Lib.hid hy;have HB5:=Lib.hid hb5;clear hb5 hy)))
 have hsz0:(w.alloc (.cells #[.bool false,.slice none 0 0] 62)).heap.size=w.heap.size+1:=by simp
 have hD:DI w (w5.alloc (.cells #[.bool y.s,.slice y.a y.n y.cap] 62)) gm w5.heap.size n gs cs M y 1:=by
  have hm5:MB w5 (w.heap.size+1) gm n gs cs n M:=by
   have:=HM.out.below HB5.out (Nat.le_refl _);rw[hsz0]at this;exact this
  have hgs:∀i,i<n->gs i<w5.heap.size:=fun i hi=>by
   obtain⟨_,_,_,_,h6⟩:=hm5.hc i (by rw[HLN.out];exact hi);exact(h6 (by omega)).2.2.2.lt
  have hb1:Below w.heap.size w (w.alloc (.cells #[.bool false,.slice none 0 0] 62)):=by exact bel
  have hb4:Below w.heap.size w w4:=hb1.trans (HB4.out.mono (by omega));have hb5:Below w.heap.size w w5:=hb4.trans (HB5.out.mono hb4.size);have hlt4:w.heap.size<w4.heap.size:=by have:=HB4.out.size;omega
  have hlt5:w.heap.size<w5.heap.size:=by have:=HB5.out.size;omega
  have hh:=heap_alloc_new w (.cells #[.bool false,.slice none 0 0] 62);have hh5:=heap_alloc_new w5 (.cells #[.bool y.s,.slice y.a y.n y.cap] 62);have hbl:(w5.alloc (.cells #[.bool y.s,.slice y.a y.n y.cap] 62)).heap[w.heap.size]?=some (.cells #[.bool false,.slice none 0 0] 62):=(((Below.refl w5.heap.size w5).alloc (Nat.le_refl _) _).block _ hlt5).trans ((HB5.out.block _ hlt4).trans ((HB4.out.block _ (by omega)).trans hh));refine⟨hb5.alloc (by omega) _,hm5.below ((Below.refl w5.heap.size w5).alloc (Nat.le_refl _) _) (Nat.le_refl _),HLN.out,hm5.lt,hgs,by simp,?_,?_,fun i=>?_,HY.out.below ((Below.refl w5.heap.size w5).alloc (Nat.le_refl _) _) (Nat.le_refl _),?_,?_,fun i=>?_⟩
  ·rw[cell_of_row _ w5.heap.size _ _ _ (0,0) hh5];rfl
  ·rw[cell_of_row _ w5.heap.size _ _ _ (0,0) hh5];rfl
  ·simp only[World.frozen?];rw[hh5];simp
  ·rw[cell_of_row _ w.heap.size _ _ _ (0,0) hbl];rfl
  ·rw[cell_of_row _ w.heap.size _ _ _ (0,0) hbl];rfl
  ·simp only[World.frozen?];rw[hbl];simp
 have HD:=Lib.hid hD;have f2:Hid (Fit 1):=bc (e:=1) (by simp) (by omega);clear hD HM HB4 HY HB5 CL OF H hsz0;generalize w5.heap.size=L at*
 go_loopw [6,17] (fun s i wr=>∃(k:Nat) (sg:Int) (gs cs:Nat->Nat) (X:Mx.Mat) (y:IV) (last:Int),k<=n/\i= .int .i64 ((k:Int))/\s= .int .i64 sg/\(sg=1\/sg= -1)/\Hid (DI w wr gm L n gs cs X y last)/\Hid (Mx.bGo (n-k) k X last sg=Z)/\Hid (Mx.Bd (2^(Mx.bE e k)) X/\Mx.Rc n X/\Fit last)) (fun _ i _=>n-(intOf i).toNat)
 case atStart=>exact⟨0,1,gs,cs,M,y,1,by omega,rfl,rfl,.inl rfl,HD.out,HG0.out,HB0.out,HRC.out,f2.out⟩
 case round=>
  clear HD HG0 HB0 HRC f2 HLN;obtain⟨k,sg,gs,cs,X,y,last,hk,rfl,rfl,hsg,HD,HG,HX⟩:=hrel;by_cases hkn:k<n
  ·have hkn2:(k:Int)<(n:Int):=by omega
   go_wp2_with fail
   obtain⟨P,hP⟩:∃P,Mx.piv k X k=P:=⟨_,rfl⟩;have HP:=Lib.hid hP;have hPE:=Lib.hid hP
   go_loopw [8] (fun s wx=>∃p:Nat,k<=p/\p<=n/\s= .int .i64 ((p:Int))/\Hid (DI w wx gm L n gs cs X y last)/\Hid (Mx.piv k X p=P)/\Hid (∀q,k<=q->q<p->Mx.at' X q k=0)) (fun s _=>n-(intOf s).toNat)
   case atStart=>exact⟨k,Nat.le_refl _,hk,rfl,HD.out,HP.out,fun q h1 h2=>by omega⟩
   case round=>
    clear HD hP HP;obtain⟨p,hkp,hpn,rfl,HD,HP,HQ⟩:=hrel;have hdl:=HD.out.lt;by_cases hp:p<n
    ·have hp2:(p:Int)<(n:Int):=by omega
     have hp3:decide ((p:Int)<(n:Int))=true:=by rw[decide_eq_true_iff];exact hp2
     have hmo:=HD.out.mb.mo (by omega);obtain⟨x,kx,x0,x1,xz,xl⟩:=hmo.elem (i:=p) (j:=k) (by rw[HD.out.len];exact hp) hkn;have hgl:=hmo.lt;have HXZ:=Lib.hid xz;obtain⟨xs,xa,xn,xc⟩:=x;simp only[]at x0 x1;clear xz hmo;by_cases hz:Mx.at' X p k=0
     ·have hd:decide (Mx.at' X p k=0)=true:=by rw[decide_eq_true_iff];exact hz
      have ZE:=Lib.hid (fun w hx=>hd▸cQ ⟨xs,xa,xn,xc⟩ (Mx.at' X p k) w hx);have HZ:=Lib.hid hz;clear hz hd
      go_wp2_with ((go_at_call 95;(with_reducible refine(ZE.out _ ?_).mono ?_);(exact HXZ.out.below (B:=wr.heap.size) an (Nat.le_refl _));rintro e w1 ⟨rfl,hb1⟩;obtain⟨g1,rfl⟩:=mob hb1;clear hb1))
      go_roundw
      case rel=>exact⟨p+1,by omega,by omega,by go_num,HD.out.below an,(Mx.BA (by rw[HD.out.len];exact hp) HZ.out).symm.trans HP.out,fun q h1 h2=>if e:q=p then(by rw[e];exact HZ.out)else HQ.out q h1 (by omega)⟩
      case measure=>simp[intOf];omega
     ·have hd:decide (Mx.at' X p k=0)=false:=by rw[decide_eq_false_iff_not];exact hz
      have ZE:=Lib.hid (fun w hx=>hd▸cQ ⟨xs,xa,xn,xc⟩ (Mx.at' X p k) w hx);have HZ:=Lib.hid hz;have hpp:Mx.piv k X p=p:=Mx.BC (by rw[HD.out.len];exact hp) hz;have hPp:P=p:=HP.out.symm.trans hpp;subst hPp;have h10:((P:Int)==(n:Int))=false:=by rw[beq_eq_false_iff_ne];omega
      clear hz hd hpp HP
      go_upto_region 10 with((go_at_call 95;(with_reducible refine(ZE.out _ ?_).mono ?_);(exact HXZ.out.below (B:=wr.heap.size) an (Nat.le_refl _));rintro e w1 ⟨rfl,hb1⟩;obtain⟨g1,rfl⟩:=mob hb1;clear hb1))
      have hkk:=(HD.out.mb.mo (by omega)).hc k (by rw[HD.out.len];exact hkn);have kk:=hkk.1;have fk:=HD.out.mb.fr k;have fp:=HD.out.mb.fr P;have hrl:=HD.out.rlt.1;have HDx:Hid (DI w (more wr g1) gm L n gs cs X y last):=HD.out.below an;clear hkk
      go_upto_if 42 with fail
      go_cut [6]from 18 to 119 (fun s wy=>s= .int .i64 (if P=k then sg else-sg)/\Hid (∃gs2 cs2,DI w wy gm L n gs2 cs2 (if P=k then X else Mx.swp X k P) y last))
      case first=>
       as_aux_lemma=>
        by_cases hpk:P=k
        ·subst hpk
         go_wp2_with fail
         go_meet
         case rel=>exact⟨by rw[if_pos trivial],gs,cs,by rw[if_pos trivial];exact HDx.out⟩
        ·have hpk2:((P:Int) !=(k:Int))=true:=by rw[bne_iff_ne];omega
         have hpk3:((P:Int)==(k:Int))=false:=by rw[beq_eq_false_iff_ne];omega
         have hpk4:¬P=k:=hpk;have hpk5:¬k=P:=fun e=>hpk e.symm;have HSW:=Lib.hid (HDx.out.swp hkn hp)
         go_upto_region 13 with fail
         go_region
         all_goals(go_wp2_with fail;go_meet)
         case rel=>
          have h9:=HSW.out;have e9:(((more wr g1).setCell ⟨gm,k,none⟩ (.slice (some ⟨gs P,0,none⟩) n (cs P))).setCell ⟨gm,P,none⟩ (.slice (some ⟨gs k,0,none⟩) n (cs k))).drew=more ((wr.setCell ⟨gm,k,none⟩ (.slice (some ⟨gs P,0,none⟩) n (cs P))).setCell ⟨gm,P,none⟩ (.slice (some ⟨gs k,0,none⟩) n (cs k))) (g1.1+1,g1.2):=by go_simp
          rw[e9]at h9;exact⟨by rw[if_neg hpk],_,_,by rw[if_neg hpk];exact h9⟩
      case rest=>
       obtain⟨rfl,HD2⟩:=hcut;have hswp:Mx.Bd (2^(Mx.bE e k)) (if P=k then X else Mx.swp X k P)/\Mx.Rc n (if P=k then X else Mx.swp X k P)/\Mx.at' (if P=k then X else Mx.swp X k P) k k=Mx.at' X P k:=by
        have hl:=HD.out.len;by_cases hpk:P=k
        ·rw[if_pos hpk,hpk];exact⟨HX.out.1,HX.out.2.1,rfl⟩
        ·rw[if_neg hpk];refine⟨Mx.ud HX.out.1 (by omega) (by omega),Mx.fw HX.out.2.1 (by omega) (by omega),?_⟩;rw[Mx.cg (by omega) (by omega),if_neg (by omega),if_pos rfl]
       have HGN:Hid (Mx.bGo (n-(k+1)) (k+1) (Mx.kB k last (if P=k then X else Mx.swp X k P)) (Mx.at' (if P=k then X else Mx.swp X k P) k k) (if P=k then sg else-sg)=Z):=by
        have h1:=HG.out;rw[show n-k=(n-(k+1))+1 by omega]at h1;unfold Mx.bGo at h1;rw[hPE.out,HD.out.len,if_neg (by omega)]at h1;rw[hswp.2.2];exact h1
       have hsg2:(if P=k then sg else-sg)=1\/(if P=k then sg else-sg)= -1:=by split<;>omega
       have HX2:Hid (Mx.Bd (2^(Mx.bE e k)) (if P=k then X else Mx.swp X k P)/\Mx.Rc n (if P=k then X else Mx.swp X k P)):=⟨hswp.1,hswp.2.1⟩;have FL:Hid (Fit last):=HX.out.2.2;have HL2:Hid ((if P=k then X else Mx.swp X k P).length=n):=by
        have hl:=HD.out.len;show _=_;split
        ·exact hl
        ·rw[Mx.bH];exact hl
       clear HD HDx hPE HG HX HQ HZ hswp hp3 kx x0 x1 xl hgl HXZ kk fk fp hdl;generalize(if P=k then X else Mx.swp X k P)=X2 at*;generalize(if P=k then sg else-sg)=sg2 at*;obtain⟨gs2,cs2,hd2⟩:=HD2.out;have HD2:=Lib.hid hd2;clear hd2;have HB2:Hid (∀t,k+1+t<=n->Mx.Bd (2^(Mx.bE e (k+1))) (Mx.bK k last X2 t)):=fun t ht=>by
        have:=Mx.bK_bd (last:=last) (k:=k) (t:=t) HX2.out.2 HX2.out.1 (Nat.pow_pos (by omega)) (by rw[HL2.out];exact ht);rw[Mx.wJ]at this;exact this
       have hE1:=HE.out (k+1) (by omega);have hdl:=HD2.out.lt
       go_wp2_with fail
       go_loopw [9] (fun s wx=>∃i:Nat,k+1<=i/\i<=n/\s= .int .i64 ((i:Int))/\Hid (DI w wx gm L n gs2 cs2 (Mx.bK k last X2 (i-(k+1))) y last)) (fun s _=>n-(intOf s).toNat)
       case atStart=>exact⟨k+1,Nat.le_refl _,by omega,by go_num,by rw[Nat.sub_self];exact HD2.out⟩
       case round=>
        clear HD2 hdl;obtain⟨i,hki,hin,rfl,HD⟩:=hrel;by_cases hi:i<n
        ·have hi2:(i:Int)<(n:Int):=by omega
         have hit:k+1+(i-(k+1))=i:=by omega
         have hlt:k+1+(i-(k+1))<X2.length:=by rw[HL2.out];omega
         have HS0:Hid (bY k last X2 (i-(k+1)) (k+1)=Mx.bK k last X2 (i-(k+1))):=Ci HX2.out.2 hlt;have HSN:Hid (bY k last X2 (i-(k+1)) n=Mx.bK k last X2 (i+1-(k+1))):=by
          show _=_;rw[G3 HX2.out.2 hlt,show i+1-(k+1)=i-(k+1)+1 by omega]
         have HYK:=Lib.hid (fun j l=>bY_k (last:=last) hlt j l);have HYI:=Lib.hid (fun j l (hl:l<n) (h:j<=l\/l<=k)=>bY_i (last:=last) (j:=j) HX2.out.2 hlt hl h);have HYS:=Lib.hid (fun j (hj:k<j) (hjn:j<n)=>Fv (last:=last) HX2.out.2 hlt hj hjn);rw[hit]at HYI HYS;clear hlt hit
         go_wp2_with fail
         go_loopw [10] (fun s wx=>∃j:Nat,k+1<=j/\j<=n/\s= .int .i64 ((j:Int))/\Hid (DI w wx gm L n gs2 cs2 (bY k last X2 (i-(k+1)) j) y last)) (fun s _=>n-(intOf s).toNat)
         case atStart=>exact⟨k+1,Nat.le_refl _,by omega,by go_num,by show DI _ _ _ _ _ _ _ _ _ _;rw[HS0.out];exact HD.out⟩
         case round=>
          clear HD HS0;obtain⟨j,hkj,hjn,rfl,HD⟩:=hrel;have hdl:=HD.out.lt;by_cases hj:j<n
          ·have hj2:(j:Int)<(n:Int):=by omega
           have hmo:=HD.out.mb.mo (by omega);have hln:=HD.out.len;have hrc:=hmo.rc;have e1:=HYK.out j k;have e2:=HYK.out j j;have e3:=HYI.out j j hj (.inl (Nat.le_refl _));have e4:=HYI.out j k hkn (.inr (Nat.le_refl _));have e5:=HYS.out j (by omega) hj;generalize hYE:bY k last X2 (i-(k+1)) j=Y at*;obtain⟨p,kp,p0,p1,pz,pl⟩:=hmo.elem (i:=k) (j:=k) (by omega) hkn;obtain⟨q,kq,q0,q1,qz,ql⟩:=hmo.elem (i:=i) (j:=j) (by omega) hj;obtain⟨r,_,r0,r1,rz,rl⟩:=hmo.elem (i:=i) (j:=k) (by omega) hkn;obtain⟨t,_,t0,t1,tz,tl⟩:=hmo.elem (i:=k) (j:=j) (by omega) hj;rw[e1]at pz;rw[e3]at qz;rw[e4]at rz;rw[e2]at tz;have f0:=(hmo.hc i (by omega)).2.2.2.2.at (k:=j) (getD_some (by rw[hrc.rw (by omega)];exact hj));obtain⟨_,c9,d9,i9,f0,f1⟩:=f0;clear c9 d9 i9;have HP:=Lib.hid pz;have HQ:=Lib.hid qz;have HR:=Lib.hid rz;have HT:=Lib.hid tz;have hgl:=hmo.lt;have B1:=HX2.out.1 k k;have B2:=HX2.out.1 i j;have B3:=HX2.out.1 i k;have B4:=HX2.out.1 k j;have HE5:=Lib.hid e5;have l0:=HD.out.l0;have l1:=HD.out.l1;generalize Mx.at' X2 k k=Pz at*;generalize Mx.at' X2 i j=Qz at*;generalize Mx.at' X2 i k=Rz at*;generalize Mx.at' X2 k j=Tz at*;have m1:(Pz*Qz).natAbs<=2^(Mx.bE e k)*2^(Mx.bE e k):=by rw[Int.natAbs_mul];exact Nat.mul_le_mul B1 B2
           have m2:(Rz*Tz).natAbs<=2^(Mx.bE e k)*2^(Mx.bE e k):=by rw[Int.natAbs_mul];exact Nat.mul_le_mul B3 B4
           have hS:=Mx.wJ e k;rw[Nat.mul_assoc]at hS;have hE0:=HE.out k hk;have FP:Hid (Fit Pz):=bc B1 hE0;have FQ:Hid (Fit Qz):=bc B2 hE0;have FR:Hid (Fit Rz):=bc B3 hE0;have FT:Hid (Fit Tz):=bc B4 hE0;have F1:Hid (Fit (Pz*Qz)):=bc (e:=Mx.bE e (k+1)) (by omega) hE1;have F2:Hid (Fit (Rz*Tz)):=bc (e:=Mx.bE e (k+1)) (by omega) hE1;have F3:Hid (Fit (Pz*Qz-Rz*Tz)):=bc (e:=Mx.bE e (k+1)) (by omega) hE1;have hx1:gs2 i<wr.heap.size:=ql;clear e1 e2 e3 e4 e5 pz qz rz tz hrc hmo hln B1 B2 B3 B4 m1 m2 hS hE0 hYE;obtain⟨ps,pa,pn,pc⟩:=p;obtain⟨qs,qa,qn,qc⟩:=q;obtain⟨rs,ra,rn,rc⟩:=r;obtain⟨ts,ta,tn,tc⟩:=t;obtain⟨ys,ya,yn,yc⟩:=y;simp only[]at p0 p1 q0 q1 r0 r1 t0 t1 l0 l1
           go_wp2_with fail
           (apply Own3.bV 39 [Sum.inl _,Sum.inl _,Sum.inl _,Sum.inl _,Sum.inl _,Sum.inl _,Sum.inl _,Sum.inl _,Sum.inl _,Sum.inl _,Sum.inl _,Sum.inl _,Sum.inl _,Sum.inl _,Sum.inl _,Sum.inl _,Sum.inl _,Sum.inl _,Sum.inl _,Sum.inr (rIZ (Pz*Qz)),Sum.inl _,Sum.inl _,Sum.inl _,Sum.inl _,Sum.inl _,Sum.inl _,Sum.inl _,Sum.inl _,Sum.inl _,Sum.inl _,Sum.inl _,Sum.inl _,Sum.inl _,Sum.inl _,Sum.inr (rIZ (Rz*Tz)),Sum.inr (rIZ (Pz*Qz-Rz*Tz)),Sum.inl _,Sum.inr (rIZ ((Pz*Qz-Rz*Tz)/last)),Sum.inl _] ae ae;simp only[List.take_succ_cons,List.take_zero,List.drop_succ_cons,List.drop_zero];refine zs1 ?_;refine zs1 ?_;refine zs1 ?_;refine zs1 ?_;refine zs1 ?_;refine zs1 ?_;refine zs1 ?_;refine zs1 ?_;refine zs1 ?_;refine zs1 ?_;refine zs1 ?_;refine zs1 ?_;refine zs1 ?_;refine zs1 ?_;refine zs1 ?_;refine zs1 ?_;refine zs1 ?_;refine zs1 ?_;refine zs1 ?_;(refine Own3.bU rfl (fun K hK=>?_) (fun x211=>?_);(focus(go_simp;clear hK K;intro w' hw' hcb';first|(go_at_call 117;(first|with_reducible exact bj (dF ⟨ps,pa,pn,pc⟩ ⟨qs,qa,qn,qc⟩ Pz Qz FP.out FQ.out _ ((HP.out.below (Ext.below hw') (Nat.le_refl _)).ip) ((HQ.out.below (Ext.below hw') (Nat.le_refl _)).ip))|exact bj (dF ⟨rs,ra,rn,rc⟩ ⟨ts,ta,tn,tc⟩ Rz Tz FR.out FT.out _ ((HR.out.below (Ext.below hw') (Nat.le_refl _)).ip) ((HT.out.below (Ext.below hw') (Nat.le_refl _)).ip))))|(go_at_call 159;(have h1:=hcb'.get (u:=19) cY;have h2:=hcb'.get (u:=34) cY;exact bj (gV x211 x212 (Pz*Qz) (Rz*Tz) F1.out F2.out _ (IZ.ip (show IZ w' x211 (Pz*Qz)from h1)) (IZ.ip (show IZ w' x212 (Rz*Tz)from h2)))))|(go_at_call 121;(have h1:=hcb'.get (u:=35) cY;exact bj (dL x213 ⟨ys,ya,yn,yc⟩ (Pz*Qz-Rz*Tz) last F3.out FL.out _ (IZ.ip (show IZ w' x213 (Pz*Qz-Rz*Tz)from h1)) ((HD.out.iz.below (Ext.below hw') (Nat.le_refl _)).ip))))));simp only[rIZ,Act.put,List.setIfInBounds_toArray,List.set_cons_succ,List.set_cons_zero]);refine zs1 ?_;refine zs1 ?_;refine zs1 ?_;refine zs1 ?_;refine zs1 ?_;refine zs1 ?_;refine zs1 ?_;refine zs1 ?_;refine zs1 ?_;refine zs1 ?_;refine zs1 ?_;refine zs1 ?_;refine zs1 ?_;refine zs1 ?_;(refine Own3.bU rfl (fun K hK=>?_) (fun x212=>?_);(focus(go_simp;clear hK K;intro w' hw' hcb';first|(go_at_call 117;(first|with_reducible exact bj (dF ⟨ps,pa,pn,pc⟩ ⟨qs,qa,qn,qc⟩ Pz Qz FP.out FQ.out _ ((HP.out.below (Ext.below hw') (Nat.le_refl _)).ip) ((HQ.out.below (Ext.below hw') (Nat.le_refl _)).ip))|exact bj (dF ⟨rs,ra,rn,rc⟩ ⟨ts,ta,tn,tc⟩ Rz Tz FR.out FT.out _ ((HR.out.below (Ext.below hw') (Nat.le_refl _)).ip) ((HT.out.below (Ext.below hw') (Nat.le_refl _)).ip))))|(go_at_call 159;(have h1:=hcb'.get (u:=19) cY;have h2:=hcb'.get (u:=34) cY;exact bj (gV x211 x212 (Pz*Qz) (Rz*Tz) F1.out F2.out _ (IZ.ip (show IZ w' x211 (Pz*Qz)from h1)) (IZ.ip (show IZ w' x212 (Rz*Tz)from h2)))))|(go_at_call 121;(have h1:=hcb'.get (u:=35) cY;exact bj (dL x213 ⟨ys,ya,yn,yc⟩ (Pz*Qz-Rz*Tz) last F3.out FL.out _ (IZ.ip (show IZ w' x213 (Pz*Qz-Rz*Tz)from h1)) ((HD.out.iz.below (Ext.below hw') (Nat.le_refl _)).ip))))));simp only[Act.put,List.setIfInBounds_toArray,List.set_cons_succ,List.set_cons_zero]);(refine Own3.bU rfl (fun K hK=>?_) (fun x213=>?_);(focus(go_simp;clear hK K;intro w' hw' hcb';first|(go_at_call 117;(first|with_reducible exact bj (dF ⟨ps,pa,pn,pc⟩ ⟨qs,qa,qn,qc⟩ Pz Qz FP.out FQ.out _ ((HP.out.below (Ext.below hw') (Nat.le_refl _)).ip) ((HQ.out.below (Ext.below hw') (Nat.le_refl _)).ip))|exact bj (dF ⟨rs,ra,rn,rc⟩ ⟨ts,ta,tn,tc⟩ Rz Tz FR.out FT.out _ ((HR.out.below (Ext.below hw') (Nat.le_refl _)).ip) ((HT.out.below (Ext.below hw') (Nat.le_refl _)).ip))))|(go_at_call 159;(have h1:=hcb'.get (u:=19) cY;have h2:=hcb'.get (u:=34) cY;exact bj (gV x211 x212 (Pz*Qz) (Rz*Tz) F1.out F2.out _ (IZ.ip (show IZ w' x211 (Pz*Qz)from h1)) (IZ.ip (show IZ w' x212 (Rz*Tz)from h2)))))|(go_at_call 121;(have h1:=hcb'.get (u:=35) cY;exact bj (dL x213 ⟨ys,ya,yn,yc⟩ (Pz*Qz-Rz*Tz) last F3.out FL.out _ (IZ.ip (show IZ w' x213 (Pz*Qz-Rz*Tz)from h1)) ((HD.out.iz.below (Ext.below hw') (Nat.le_refl _)).ip))))));simp only[Act.put,List.setIfInBounds_toArray,List.set_cons_succ,List.set_cons_zero]);refine zs1 ?_;(refine Own3.bU rfl (fun K hK=>?_) (fun x214=>?_);(focus(go_simp;clear hK K;intro w' hw' hcb';first|(go_at_call 117;(first|with_reducible exact bj (dF ⟨ps,pa,pn,pc⟩ ⟨qs,qa,qn,qc⟩ Pz Qz FP.out FQ.out _ ((HP.out.below (Ext.below hw') (Nat.le_refl _)).ip) ((HQ.out.below (Ext.below hw') (Nat.le_refl _)).ip))|exact bj (dF ⟨rs,ra,rn,rc⟩ ⟨ts,ta,tn,tc⟩ Rz Tz FR.out FT.out _ ((HR.out.below (Ext.below hw') (Nat.le_refl _)).ip) ((HT.out.below (Ext.below hw') (Nat.le_refl _)).ip))))|(go_at_call 159;(have h1:=hcb'.get (u:=19) cY;have h2:=hcb'.get (u:=34) cY;exact bj (gV x211 x212 (Pz*Qz) (Rz*Tz) F1.out F2.out _ (IZ.ip (show IZ w' x211 (Pz*Qz)from h1)) (IZ.ip (show IZ w' x212 (Rz*Tz)from h2)))))|(go_at_call 121;(have h1:=hcb'.get (u:=35) cY;exact bj (dL x213 ⟨ys,ya,yn,yc⟩ (Pz*Qz-Rz*Tz) last F3.out FL.out _ (IZ.ip (show IZ w' x213 (Pz*Qz-Rz*Tz)from h1)) ((HD.out.iz.below (Ext.below hw') (Nat.le_refl _)).ip))))));simp only[Act.put,List.setIfInBounds_toArray,List.set_cons_succ,List.set_cons_zero]);refine zs1 ?_;refine Own3.fL ?_;intro w21 hw21;have hB21:=hw21.1;have HY211:Hid (IZ w21 x211 (Pz*Qz)):=Lib.hid (hw21.get (u:=19) (Or.inr (Or.inr (Or.inr (Or.inl ⟨rfl,rfl⟩)))));have HY212:Hid (IZ w21 x212 (Rz*Tz)):=Lib.hid (hw21.get (u:=34) (Or.inr (Or.inr (Or.inl ⟨rfl,rfl⟩))));have HY213:Hid (IZ w21 x213 (Pz*Qz-Rz*Tz)):=Lib.hid (hw21.get (u:=35) (Or.inr (Or.inl ⟨rfl,rfl⟩)));have HY214:Hid (IZ w21 x214 ((Pz*Qz-Rz*Tz)/last)):=Lib.hid (hw21.get (u:=37) (Or.inl ⟨rfl,rfl⟩));clear hw21;obtain⟨g21,rfl⟩:=mob hB21;clear hB21)
           clear HY211 HY212 HY213
           go_wp2_with fail
           go_roundw
           case rel=>
            have h1:=(HD.out.below (wx:=more wr g21) an).row hi hj HY214.out;have e5:cj (more wr g21) (gs2 i) j x214=more (cj wr (gs2 i) j x214) g21:=by unfold cj;go_simp
            rw[e5,HE5.out]at h1;exact⟨j+1,by omega,by omega,by go_num,h1⟩
           case measure=>simp[intOf];omega
          ·obtain rfl:j=n:=by omega
           have hj2:¬(j:Int)<(j:Int):=by omega
           go_wp2_with fail
           go_roundw
           case rel=>exact⟨i+1,by omega,by omega,by go_num,by show DI _ _ _ _ _ _ _ _ _ _;rw[<-HSN.out];exact HD.out⟩
           case measure=>simp[intOf];omega
        ·obtain rfl:i=n:=by omega
         have hi2:¬(i:Int)<(i:Int):=by omega
         have hdl:=HD.out.lt;have hmo:=HD.out.mb.mo (by omega);obtain⟨x,kx,x0,x1,xz,xl⟩:=hmo.elem (i:=k) (j:=k) (by rw[HD.out.len];exact hkn) hkn;have hgl:=hmo.lt;have ekk:Mx.at' (Mx.bK k last X2 (i-(k+1))) k k=Mx.at' X2 k k:=by
          unfold Mx.at';rw[Mx.nP k last X2 _ (by rw[HL2.out];omega),if_neg (by omega)]
         rw[ekk]at xz;have l0:=HD.out.l0;have l1:=HD.out.l1;have lf0:=HD.out.lf 0;have lf1:=HD.out.lf 1;have HN:=Lib.hid (HD.out.last xz);clear hmo xz ekk
         go_wp2_with fail
         go_roundw
         case rel=>
          refine⟨k+1,sg2,gs2,cs2,_,x,_,by omega,by go_num,rfl,hsg2,HN.out,?_,?_⟩
          ·have h1:=HGN.out;unfold Mx.kB at h1;rw[HL2.out]at h1;exact h1
          ·exact⟨HB2.out _ (by omega),Mx.yF HX2.out.2 _ (by rw[HL2.out];omega),bc (HX2.out.1 k k) (HE.out k hk)⟩
         case measure=>simp[intOf];omega
    ·obtain rfl:p=n:=by omega
     have hp2:¬(p:Int)<(p:Int):=by omega
     have hp3:decide ((p:Int)<(p:Int))=false:=by rw[decide_eq_false_iff_not];exact hp2
     have hP2:P=p:=HP.out.symm.trans (Mx.EB (by rw[HD.out.len];exact Nat.le_refl _));have r0:=HD.out.r0;have r1:=HD.out.r1;have rf0:=HD.out.rf 0;have rf1:=HD.out.rf 1;have hr:=HD.out.rlt.2;have HZ0:Hid (Z=0):=by
      have h1:=HG.out;rw[show p-k=(p-(k+1))+1 by omega]at h1;unfold Mx.bGo at h1;rw[hPE.out,hP2,HD.out.len,if_pos rfl]at h1;exact h1.symm
     have hbl:=HD.out.bl
     go_wp2_with fail
     have t0:((wr.setCell ⟨w.heap.size,0,none⟩ (.bool false)).setCell ⟨w.heap.size,1,none⟩ (.slice none 0 0)).cell? ⟨w.heap.size,0,none⟩=some (.bool false):=by go_simp
     have t1:((wr.setCell ⟨w.heap.size,0,none⟩ (.bool false)).setCell ⟨w.heap.size,1,none⟩ (.slice none 0 0)).cell? ⟨w.heap.size,1,none⟩=some (.slice none 0 0):=by go_simp
     refine bodyPost_ret (v:=.agg #[.bool false,.slice none 0 0]) zb68 rfl ⟨⟨⟨false,none,0,0⟩,rfl,?_⟩,?_⟩
     ·rw[HZ0.out];exact IZ.zero _
     ·exact bel
  ·obtain rfl:k=n:=by omega
   have hkn2:¬(k:Int)<(k:Int):=by omega
   have r0:=HD.out.r0;have r1:=HD.out.r1;have rf0:=HD.out.rf 0;have rf1:=HD.out.rf 1;have l0:=HD.out.l0;have l1:=HD.out.l1;have hr:=HD.out.rlt.2;have hdl:=HD.out.lt;have hbl:=HD.out.bl;have hne:w.heap.size<L:=by have:=HD.out.rlt.1;have:=HD.out.gl;omega
   have hnw:=NW.bool HD.out.r0;have hzz:sg*last=Z:=by
    have h1:=HG.out;rw[Nat.sub_self]at h1;exact h1
   have HZZ:=Lib.hid hzz;have HIZ:=Lib.hid HD.out.iz;have HFL:=Lib.hid HX.out.2.2;obtain⟨ys,ya,yn,yc⟩:=y;simp only[]at l0 l1;clear hzz HD HG HX;rcases hsg with rfl|rfl
   ·have k2:Chg w.heap.size wr (cj wr w.heap.size 0 ⟨ys,ya,yn,yc⟩):=jj (Chg.refl _ _) 0 _;have hz2:=HIZ.out.chg k2 hnw;unfold cj at hz2
    go_wp2_with fail
    have t0:((wr.setCell ⟨w.heap.size,0,none⟩ (.bool ys)).setCell ⟨w.heap.size,1,none⟩ (.slice ya yn yc)).cell? ⟨w.heap.size,0,none⟩=some (.bool ys):=by go_simp
    have t1:((wr.setCell ⟨w.heap.size,0,none⟩ (.bool ys)).setCell ⟨w.heap.size,1,none⟩ (.slice ya yn yc)).cell? ⟨w.heap.size,1,none⟩=some (.slice ya yn yc):=by go_simp
    refine bodyPost_ret (v:=.agg #[.bool ((⟨ys,ya,yn,yc⟩:IV)).s,.slice ((⟨ys,ya,yn,yc⟩:IV)).a ((⟨ys,ya,yn,yc⟩:IV)).n ((⟨ys,ya,yn,yc⟩:IV)).cap]) zb68 rfl ⟨⟨⟨ys,ya,yn,yc⟩,rfl,?_⟩,?_⟩
    ·rw[<-HZZ.out,Int.one_mul];exact hz2
    ·exact bel
   ·have NG:=Lib.hid (fun w hx=>eJ ⟨ys,ya,yn,yc⟩ last HFL.out w hx)
    go_wp2_with (go_at_call 102;((with_reducible refine(NG.out _ (HIZ.out.below (B:=wr.heap.size) an (Nat.le_refl _)).ip).mono ?_);rintro e w6 ⟨⟨x,rfl,hx⟩,hb6⟩;have HX6:=Lib.hid hx;obtain⟨g6,rfl⟩:=mob hb6;clear hb6 hx))
    have k2:Chg w.heap.size (more wr g6) (cj (more wr g6) w.heap.size 0 x):=jj (Chg.refl _ _) 0 _;have hz2:=HX6.out.chg k2 (hnw.below (B:=wr.heap.size) (w':=more wr g6) an (Nat.le_refl _) hr);have e5:cj (more wr g6) w.heap.size 0 x=more (cj wr w.heap.size 0 x) g6:=by unfold cj;go_simp
    rw[e5]at hz2;unfold cj at hz2;have t0:(more ((wr.setCell ⟨w.heap.size,0,none⟩ (.bool x.s)).setCell ⟨w.heap.size,1,none⟩ (.slice x.a x.n x.cap)) g6).cell? ⟨w.heap.size,0,none⟩=some (.bool x.s):=by go_simp
    have t1:(more ((wr.setCell ⟨w.heap.size,0,none⟩ (.bool x.s)).setCell ⟨w.heap.size,1,none⟩ (.slice x.a x.n x.cap)) g6).cell? ⟨w.heap.size,1,none⟩=some (.slice x.a x.n x.cap):=by go_simp
    refine bodyPost_ret (v:=.agg #[.bool x.s,.slice x.a x.n x.cap]) zb68 rfl ⟨⟨x,rfl,?_⟩,?_⟩
    ·rw[<-HZZ.out,show(-1:Int)*last= -last by omega];exact hz2
    ·exact bel
end
section
namespace Mx
theorem iE(j:Nat):skip 0 j=j+1:=by unfold skip;rw[if_neg (by omega)]
theorem ri(l:Nat):skip (l+1) 0=0:=by unfold skip;rw[if_pos (by omega)]
theorem zp(l i:Nat):skip (l+1) (i+1)=skip l i+1:=by
 unfold skip;by_cases h:i<l
 ·rw[if_pos h,if_pos (by omega)]
 ·rw[if_neg h,if_neg (by omega)]
theorem ji(n:Nat)(g:Nat->Int):sm (n+1) g=g 0+sm n (fun l=>g (l+1)):=by
 rw[vV g n 0 (Nat.zero_le _),br n (fun l=>g (skip 0 l)) (fun l=>g (l+1)) fun l _=>by rw[iE]];omega
theorem DP(n:Nat)(h:∀f,D (n+1) f=D (n+1) fun i j=>f j i)(f:Nat->Nat->Int):
  D (n+2) f=f 0 0*D (n+1) (fun i j=>f (i+1) (j+1))+sm (n+1) fun l=>sm (n+1) fun m=>-(sg l*sg m)*(f 0 (l+1)*f (m+1) 0)*D n (fun i j=>f (skip m j+1) (skip l i+1)):=by
 show sm (n+2) (fun k=>sg k*f 0 k*D (n+1) (fun i j=>f (i+1) (skip k j)))=_;rw[ji];congr 1
 ·rw[show sg 0=1 from rfl,Int.one_mul,bO (n+1) (fun i j=>f (i+1) (skip 0 j)) (fun i j=>f (i+1) (j+1)) fun i j _ _=>by rw[iE]]
 ·refine br _ _ _ fun l _=>?_;rw[h];show sg (l+1)*f 0 (l+1)*sm (n+1) (fun m=>sg m*f (m+1) (skip (l+1) 0)*D n (fun i j=>f (skip m j+1) (skip (l+1) (i+1))))=_;rw[<-pC];refine br _ _ _ fun m _=>?_;rw[ri,rq,bO n (fun i j=>f (skip m j+1) (skip (l+1) (i+1))) (fun i j=>f (skip m j+1) (skip l i+1)) fun i j _ _=>by rw[zp]];generalize D n _=d;simp only[Int.neg_mul,Int.mul_assoc];congr 1;rw[Int.mul_left_comm (f 0 (l+1)) (sg m)]
theorem DQ:∀n,(∀f,D n f=D n fun i j=>f j i)/\∀f,D (n+1) f=D (n+1) fun i j=>f j i
 |0=>⟨fun _=>rfl,fun f=>by
  show sm 1 (fun k=>sg k*f 0 k*1)=sm 1 (fun k=>sg k*f k 0*1);rfl⟩
 |n+1=>by
  obtain⟨h1,h2⟩:=DQ n;refine⟨h2,fun f=>?_⟩;rw[DP n h2 f,DP n h2 (fun i j=>f j i)];congr 1
  ·rw[h2]
  ·rw[rh];refine br _ _ _ fun l _=>br _ _ _ fun m _=>?_;rw[h1,Int.mul_comm (sg m) (sg l),Int.mul_comm (f 0 (m+1))]
theorem sa(n:Nat)(f:Nat->Nat->Int):D n f=D n fun i j=>f j i:=(DQ n).1 f
theorem F6{n i:Nat}(hi:i<n)(f:Nat->Nat->Int):D n (upd f i fun _=>0)=0:=by
 have h:=nV 0 0 n f i (fun _=>0) (fun _=>0) hi;simpa using h
theorem D_sm{n i:Nat}(hi:i<n)(f:Nat->Nat->Int)(v:Nat->Int)(A:Nat->Nat->Int):∀m,D n (upd f i fun j=>sm m fun k=>v k*A k j)=sm m fun k=>v k*D n (upd f i (A k))
 |0=>F6 hi f
 |m+1=>by
  have h:=nV 1 (v m) n f i (fun j=>sm m fun k=>v k*A k j) (A m) hi;rw[D_sm hi f v A m]at h;show D n (upd f i fun j=>sm m (fun k=>v k*A k j)+v m*A m j)=sm m (fun k=>v k*D n (upd f i (A k)))+v m*D n (upd f i (A m));rw[Int.one_mul]at h;rw[<-h];congr 2;funext j;rw[Int.one_mul]
end Mx
end
section
namespace Mx
theorem yO{n i:Nat}(hi:i<n)(F:Nat->Nat->Int)(x:Int)(a y:Nat->Int)(B:Nat->Nat->Int)(m:Nat):D n (upd F i fun j=>x*a j+sm m fun k=>y k*B k j)=x*D n (upd F i a)+sm m fun k=>y k*D n (upd F i (B k)):=by
 have h:=nV x 1 n F i a (fun j=>sm m fun k=>y k*B k j) hi;rw[D_sm hi F y B m,Int.one_mul]at h;rw[<-h];congr 2;funext j;rw[Int.one_mul]
def cyc(m a:Nat):Nat:=if a=0 then m else if a<=m then a-1 else a
theorem DS{n:Nat}(g:Nat->Nat->Int):∀m,m<n->D n (fun a b=>g (cyc m a) b)=sg m*D n g
 |0,_=>by
  rw[show sg 0=1 from rfl,Int.one_mul];exact bO n _ _ fun a b _ _=>by
   unfold cyc;by_cases h:a=0
   ·rw[if_pos h,h]
   ·rw[if_neg h,if_neg (by omega)]
 |m+1,hm=>by
  have h:=AX (n:=n) (i:=0) (j:=m+1) (by omega) hm (by omega) (fun a b=>g (cyc m a) b);rw[DS g m (by omega)]at h;rw[rq,Int.neg_mul,<-h];exact bO n _ _ fun a b _ _=>by
   unfold upd cyc;by_cases h1:a=m+1
   ·rw[if_pos h1,if_neg (by omega),if_pos (by omega),if_pos rfl];congr 1;omega
   ·rw[if_neg h1];by_cases h2:a=0
    ·rw[if_pos h2,if_pos h2,if_neg (by omega),if_neg (by omega)]
    ·rw[if_neg h2,if_neg h2];show _=g (if a=0 then m else if a<=m then a-1 else a) b;by_cases h3:a<=m
     ·rw[if_pos (by omega),if_neg h2,if_pos h3]
     ·rw[if_neg (by omega),if_neg h2,if_neg h3]
theorem sg_sq(k:Nat):sg k*sg k=1:=by unfold sg;split<;>rfl
def rsg:Nat->Int
 |0=>1
 |n+1=>sg n*rsg n
theorem zF:∀n,rsg n*rsg n=1
 |0=>rfl
 |n+1=>by
  have h1:=sg_sq n;have h2:=zF n;show sg n*rsg n*(sg n*rsg n)=1;rw[Int.mul_assoc,Int.mul_left_comm (rsg n),h2,Int.mul_one,h1]
theorem yM:∀(n:Nat) (g:Nat->Nat->Int),D n (fun a b=>g (n-(a+1)) b)=rsg n*D n g
 |0,_=>by simp[D,rsg]
 |n+1,g=>by
  have h:=DS g n (Nat.lt_succ_self n);show D (n+1) _=sg n*rsg n*D (n+1) g;rw[Int.mul_right_comm,<-h];show sm (n+1) (fun k=>sg k*g (n+1-(0+1)) k*D n (fun a b=>g (n+1-(a+1+1)) (skip k b)))=sm (n+1) (fun k=>sg k*g (cyc n 0) k*D n (fun a b=>g (cyc n (a+1)) (skip k b)))*rsg n;rw[Int.mul_comm,<-pC];refine br _ _ _ fun k _=>?_;have e1:cyc n 0=n+1-(0+1):=by unfold cyc;rw[if_pos rfl];omega
  have e2:=yM n (fun a b=>g (cyc n (a+1)) (skip k b));rw[bO n (fun a b=>g (n+1-(a+1+1)) (skip k b)) (fun a b=>g (cyc n (n-(a+1)+1)) (skip k b)) fun a b ha _=>by
   unfold cyc;rw[if_neg (by omega),if_pos (by omega)];congr 1;omega,e2,e1]
  rw[Int.mul_left_comm (rsg n)]
theorem Hr(n:Nat)(g:Nat->Nat->Int):D n (fun a b=>g (n-(a+1)) (n-(b+1)))=D n g:=by
 rw[yM n (fun a b=>g a (n-(b+1))),sa,yM n (fun b a=>g a b),<-Int.mul_assoc,zF,Int.one_mul,<-sa n g]
namespace Ba
variable (f : Nat->Nat->Int)
def xr(k:Nat)(v:Nat->Int)(a:Nat):Nat->Int:=if a=0 then v else f (k-a)
def xc(k j b:Nat):Nat:=if b=0 then j else k-b
def X(k:Nat)(v:Nat->Int)(j:Nat):Int:=D (k+1) fun a b=>xr f k v a (xc k j b)
def P(k:Nat):Int:=D k fun a b=>f (k-(a+1)) (k-(b+1))
theorem iY(k:Nat)(v:Nat->Int):xr f k v 0=v:=if_pos rfl
theorem nr(k:Nat)(v:Nat->Int)(a:Nat):xr f k v (a+1)=f (k-(a+1)):=if_neg (by omega)
theorem iZ(k j:Nat):xc k j 0=j:=if_pos rfl
theorem ns(k j b:Nat):xc k j (b+1)=k-(b+1):=if_neg (by omega)
theorem P_all(n:Nat):P f n=D n f:=Hr n f
theorem Hg(k:Nat):X f k (f k) k=P f (k+1):=bO _ _ _ fun a b _ _=>by
 have ha:xr f k (f k) a=f (k+1-(a+1)):=by
  cases a with
  |zero=>rw[iY];rfl
  |succ a=>rw[nr];congr 1;omega
 have hb:xc k k b=k+1-(b+1):=by
  cases b with
  |zero=>rw[iZ];rfl
  |succ b=>rw[ns];omega
 rw[ha,hb]
def L(k:Nat)(v:Nat->Int)(t:Nat):Int:=sg (t+1)*D k fun a b=>xr f k v (skip (t+1) b) (k-(a+1))
theorem DK(k:Nat)(v:Nat->Int)(j:Nat):X f k v j=P f k*v j+sm k fun t=>L f k v t*f (k-(t+1)) j:=by
 unfold X;rw[sa];show sm (k+1) (fun t=>sg t*xr f k v t (xc k j 0)*D k (fun a b=>xr f k v (skip t b) (xc k j (a+1))))=_;rw[ji];congr 1
 ·rw[iY,iZ,show sg 0=1 from rfl,Int.one_mul,Int.mul_comm];congr 1;unfold P;rw[sa];exact bO k _ _ fun a b _ _=>by rw[iE,nr,ns]
 ·refine br _ _ _ fun t _=>?_;rw[nr,iZ];unfold L;rw[Int.mul_right_comm];congr 2
def N(k j t:Nat):Int:=sg (t+1)*D k fun a b=>f (k-(a+1)) (xc k j (skip (t+1) b))
theorem X_row(k:Nat)(v:Nat->Int)(j:Nat):X f k v j=P f k*v j+sm k fun t=>N f k j t*v (k-(t+1)):=by
 unfold X;show sm (k+1) (fun t=>sg t*xr f k v 0 (xc k j t)*D k (fun a b=>xr f k v (a+1) (xc k j (skip t b))))=_;rw[ji];congr 1
 ·rw[iY,iZ,show sg 0=1 from rfl,Int.one_mul,Int.mul_comm];congr 1
 ·refine br _ _ _ fun t _=>?_;rw[iY,ns];unfold N;rw[Int.mul_right_comm];congr 2
theorem He{k t:Nat}(h:t<k)(j:Nat):X f k (f t) j=0:=kV (i:=0) (j:=k-t) (by omega) (by omega) (by omega) _ fun l=>by
 obtain⟨s,hs⟩:∃s,k-t=s+1:=⟨k-t-1,by omega⟩;rw[hs,iY,nr,show k-(s+1)=t by omega]
theorem AV{k t:Nat}(h:t<k)(v:Nat->Int):X f k v t=0:=by
 unfold X;rw[sa];refine kV (i:=0) (j:=k-t) (by omega) (by omega) (by omega) _ fun l=>?_;obtain⟨s,hs⟩:∃s,k-t=s+1:=⟨k-t-1,by omega⟩;rw[hs,iZ,ns,show k-(s+1)=t by omega]
def zc(k c j b:Nat):Nat:=if b=0 then c else if b=1 then j else k+1-b
def zr(k:Nat)(u w:Nat->Int)(a:Nat):Nat->Int:=if a=0 then u else if a=1 then w else f (k+1-a)
def Z(k:Nat)(u w:Nat->Int)(c j:Nat):Int:=D (k+2) fun a b=>zr f k u w a (zc k c j b)
theorem tK(k:Nat)(u w:Nat->Int)(a:Nat):zr f k u w (a+2)=f (k-(a+1)):=by
 unfold zr;rw[if_neg (by omega),if_neg (by omega)];congr 1;omega
theorem tL(k c j b:Nat):zc k c j (b+2)=k-(b+1):=by
 unfold zc;rw[if_neg (by omega),if_neg (by omega)];omega
theorem Hi(k:Nat)(v:Nat->Int)(j:Nat):X f (k+1) v j=Z f k v (f k) j k:=bO _ _ _ fun a b _ _=>by
 have ha:xr f (k+1) v a=zr f k v (f k) a:=by
  unfold xr zr;by_cases h:a=0
  ·rw[if_pos h,if_pos h]
  ·rw[if_neg h,if_neg h];by_cases h1:a=1
   ·rw[if_pos h1,h1];rfl
   ·rw[if_neg h1]
 have hb:xc (k+1) j b=zc k j k b:=by
  unfold xc zc;by_cases h:b=0
  ·rw[if_pos h,if_pos h]
  ·rw[if_neg h,if_neg h];by_cases h1:b=1
   ·rw[if_pos h1,h1];rfl
   ·rw[if_neg h1]
 rw[ha,hb]
theorem Z_u(k:Nat)(u w:Nat->Int)(c j:Nat):Z f k (X f k u) w c j=P f k*Z f k u w c j:=by
 have e:∀u,Z f k u w c j=D (k+2) (upd (fun a b=>zr f k u w a (zc k c j b)) 0 fun b=>u (zc k c j b)):=fun u=>bO _ _ _ fun a b _ _=>by
  unfold upd;by_cases h:a=0
  ·rw[if_pos h,h];rfl
  ·rw[if_neg h]
 have e2:∀u v:Nat->Int,D (k+2) (upd (fun a b=>zr f k u w a (zc k c j b)) 0 fun b=>v (zc k c j b))=D (k+2) (upd (fun a b=>zr f k w w a (zc k c j b)) 0 fun b=>v (zc k c j b)):=fun u v=>bO _ _ _ fun a b _ _=>by
  unfold upd zr;by_cases h:a=0
  ·rw[if_pos h,if_pos h]
  ·rw[if_neg h,if_neg h];show(if a=0 then u else if a=1 then w else f (k+1-a)) _=(if a=0 then w else if a=1 then w else f (k+1-a)) _;rw[if_neg h,if_neg h]
 rw[e,e u,e2,e2 u u,show(fun b=>X f k u (zc k c j b))=fun b=>P f k*u (zc k c j b)+sm k fun t=>L f k u t*f (k-(t+1)) (zc k c j b)from funext fun b=>DK f k u _,yO (by omega) _ _ (fun b=>u (zc k c j b)) (L f k u) (fun t b=>f (k-(t+1)) (zc k c j b)) k,fP k _ fun t ht=>?_,Int.add_zero];rw[kV (i:=0) (j:=t+2) (by omega) (by omega) (by omega) _ fun l=>?_,Int.mul_zero];show upd _ 0 _ 0 l=upd _ 0 _ (t+2) l;unfold upd;rw[if_pos rfl,if_neg (by omega)];show _=zr f k w w (t+2) (zc k c j l);rw[tK]
theorem Z_w(k:Nat)(u w:Nat->Int)(c j:Nat):Z f k u (X f k w) c j=P f k*Z f k u w c j:=by
 have e:∀w,Z f k u w c j=D (k+2) (upd (fun a b=>zr f k u w a (zc k c j b)) 1 fun b=>w (zc k c j b)):=fun w=>bO _ _ _ fun a b _ _=>by
  unfold upd;by_cases h:a=1
  ·rw[if_pos h,h];rfl
  ·rw[if_neg h]
 have e2:∀w v:Nat->Int,D (k+2) (upd (fun a b=>zr f k u w a (zc k c j b)) 1 fun b=>v (zc k c j b))=D (k+2) (upd (fun a b=>zr f k u u a (zc k c j b)) 1 fun b=>v (zc k c j b)):=fun w v=>bO _ _ _ fun a b _ _=>by
  unfold upd zr;by_cases h:a=1
  ·rw[if_pos h,if_pos h]
  ·rw[if_neg h,if_neg h];show(if a=0 then u else if a=1 then w else f (k+1-a)) _=(if a=0 then u else if a=1 then u else f (k+1-a)) _;rw[if_neg h,if_neg h]
 rw[e,e w,e2,e2 w w,show(fun b=>X f k w (zc k c j b))=fun b=>P f k*w (zc k c j b)+sm k fun t=>L f k w t*f (k-(t+1)) (zc k c j b)from funext fun b=>DK f k w _,yO (by omega) _ _ (fun b=>w (zc k c j b)) (L f k w) (fun t b=>f (k-(t+1)) (zc k c j b)) k,fP k _ fun t ht=>?_,Int.add_zero];rw[kV (i:=1) (j:=t+2) (by omega) (by omega) (by omega) _ fun l=>?_,Int.mul_zero];show upd _ 1 _ 1 l=upd _ 1 _ (t+2) l;unfold upd;rw[if_pos rfl,if_neg (by omega)];show _=zr f k u u (t+2) (zc k c j l);rw[tK]
theorem Bo(b:Nat):skip 1 (b+1)=b+2:=by unfold skip;rw[if_neg (by omega)]
theorem Ge(n:Nat)(g:Nat->Int)(h:∀b,2<=b->b<n+2->g b=0):sm (n+2) g=g 0+g 1:=by
 rw[ji,ji,fP n _ fun k hk=>h (k+2) (by omega) (by omega),Int.add_zero]
theorem F4(k:Nat)(u w:Nat->Int)(c j:Nat)(hu:∀t,t<k->u t=0)(hw:∀t,t<k->w t=0):Z f k u w c j=(u c*w j-u j*w c)*P f k:=by
 unfold Z;show sm (k+2) (fun b=>sg b*zr f k u w 0 (zc k c j b)*D (k+1) (fun a b'=>zr f k u w (a+1) (zc k c j (skip b b'))))=_;have h0:zr f k u w 0=u:=if_pos rfl;have h1:zr f k u w 1=w:=rfl;have c0:zc k c j 0=c:=if_pos rfl;have c1:zc k c j 1=j:=rfl;rw[Ge k _ fun b hb hb2=>by
  obtain⟨b,rfl⟩:∃b',b=b'+2:=⟨b-2,by omega⟩;rw[h0,tL,hu _ (by omega),Int.mul_zero,Int.zero_mul]]
 have hD:∀s:Nat->Nat,(∀b,s (b+1)=b+2)->D (k+1) (fun a b'=>zr f k u w (a+1) (zc k c j (s b')))=w (zc k c j (s 0))*P f k:=fun s hs=>by
  show sm (k+1) (fun b=>sg b*zr f k u w (0+1) (zc k c j (s b))*D k (fun a b'=>zr f k u w (a+1+1) (zc k c j (s (skip b b')))))=_;rw[zn (j:=0) (by omega) fun b hb hne=>by
   obtain⟨b,rfl⟩:∃b',b=b'+1:=⟨b-1,by omega⟩;rw[hs,tL,Nat.zero_add,h1,hw _ (by omega),Int.mul_zero,Int.zero_mul],show sg 0=1 from rfl,Int.one_mul,Nat.zero_add,h1]
  congr 1;exact bO k _ _ fun a b _ _=>by rw[tK,iE,hs,tL]
 rw[hD (skip 0) (fun b=>iE _),hD (skip 1) Bo,h0,c0,c1,show skip 0 0=1 from rfl,show skip 1 0=0 from rfl,c0,c1,show sg 0=1 from rfl,show sg 1= -1 from rfl,Int.sub_mul,Int.one_mul,Int.neg_mul,Int.neg_mul,Int.one_mul,Int.mul_assoc,Int.mul_assoc];rfl
theorem step(k:Nat)(hP:P f k≠0)(v:Nat->Int)(j:Nat):X f k (f k) k*X f k v j-X f k v k*X f k (f k) j=P f k*X f (k+1) v j:=by
 have h1:=F4 f k (X f k v) (X f k (f k)) j k (fun t ht=>AV f ht v) (fun t ht=>AV f ht (f k));rw[Z_u,Z_w,<-Hi,Int.mul_comm]at h1;have h2:=Int.eq_of_mul_eq_mul_right hP h1;rw[h2,Int.mul_comm (X f k (f k) k)]
theorem Hs{n k:Nat}(hk:k<n)(hP:P f k≠0)(h:∀i,k<=i->i<n->X f k (f i) k=0):D n f=0:=by
 have h0:∀i,i<n->P f k*f i k+sm k (fun t=>N f k k t*f i (k-(t+1)))=0:=fun i hi=>by
  rw[<-X_row];by_cases hik:i<k
  ·exact He f hik k
  ·exact h i (by omega) hi
 have h1:=yO (n:=n) (i:=k) hk (fun i j=>f j i) (P f k) (fun i=>f i k) (N f k k) (fun t i=>f i (k-(t+1))) k;rw[fP k _ fun t ht=>by
  rw[kV (i:=k) (j:=k-(t+1)) hk (by omega) (by omega) _ fun l=>by unfold upd;rw[if_pos rfl,if_neg (by omega)],Int.mul_zero],Int.add_zero]at h1
 rw[Hq (i:=k) hk _ fun l hl=>by unfold upd;rw[if_pos rfl];exact h0 l hl,jh (fun i j=>f j i) k,<-sa n f]at h1;rcases Int.mul_eq_zero.1 h1.symm with h2|h2
 ·exact absurd h2 hP
 ·exact h2
theorem Hh{f g:Nat->Nat->Int}{k:Nat}(h:∀i,i<k->f i=g i)(v:Nat->Int)(j:Nat):X f k v j=X g k v j:=bO _ _ _ fun a b ha _=>by
 unfold xr;by_cases h0:a=0
 ·rw[if_pos h0,if_pos h0]
 ·rw[if_neg h0,if_neg h0,h _ (by omega)]
theorem Hn{f g:Nat->Nat->Int}{k:Nat}(h:∀i,i<k->f i=g i):P f k=P g k:=bO _ _ _ fun a b ha _=>by rw[h _ (by omega)]
def sw(f:Nat->Nat->Int)(k p:Nat):Nat->Nat->Int:=upd (upd f k (f p)) p (f k)
theorem sw_lt{k p i:Nat}(hi:i<k)(hp:k<=p):sw f k p i=f i:=by
 unfold sw upd;funext j;rw[if_neg (by omega),if_neg (by omega)]
end Ba
theorem sA(k:Nat)(M:Mat):∀f p,(gW k M f p=p+f/\∀i,p<=i->i<p+f->at' M i k=0)\/(gW k M f p<p+f/\at' M (gW k M f p) k≠0)
 |0,p=>.inl ⟨rfl,fun i h1 h2=>by omega⟩
 |f+1,p=>by
  by_cases h:at' M p k=0
  ·have e:gW k M (f+1) p=gW k M f (p+1):=if_pos h;rw[e];rcases sA k M f (p+1)with⟨h1,h2⟩|⟨h1,h2⟩
   ·refine .inl ⟨by omega,fun i h3 h4=>?_⟩;by_cases e:i=p
    ·rw[e];exact h
    ·exact h2 i (by omega) (by omega)
   ·exact .inr ⟨by omega,h2⟩
  ·have e:gW k M (f+1) p=p:=if_neg h;rw[e];exact .inr ⟨by omega,h⟩
theorem Fx{n k i j:Nat}{last:Int}{M:Mat}(hl:M.length=n)(h:Rc n M)(hk:k<n)(hi:k<i)(hin:i<n)(hj:k<j)(hjn:j<n):at' (kB k last M) i j=(at' M k k*at' M i j-at' M i k*at' M k j)/last:=by
 unfold at' kB;rw[nP k last M _ (by omega),if_pos (by omega),wI (by rw[h.rw (by omega)];exact hjn),if_pos hj]
theorem Fw{n k:Nat}{last:Int}{M:Mat}(hl:M.length=n)(h:Rc n M)(hk:k<n):Rc n (kB k last M):=yF h _ (by omega)
theorem Cj(k:Nat)(last:Int)(M:Mat):(kB k last M).length=M.length:=qt _ _ _ _
theorem DH{n:Nat}:∀(r k:Nat) (M:Mat) (s:Int) (f:Nat->Nat->Int),k+r=n->M.length=n->Rc n M->Ba.P f k≠0->(∀i j,k<=i->i<n->k<=j->j<n->at' M i j=Ba.X f k (f i) j)->bGo r k M (Ba.P f k) s=s*D n f
 |0,k,M,s,f,hk,_,_,_,_=>by
  obtain rfl:k=n:=by omega
  show s*Ba.P f k=s*D k f;rw[Ba.P_all]
 |r+1,k,M,s,f,hk,hl,hR,hP,hX=>by
  have hkn:k<n:=by omega
  have hs:=sA k M (M.length-k) k;have hpe:gW k M (M.length-k) k=piv k M k:=rfl;rw[hpe,show k+(M.length-k)=M.length by omega]at hs;show(if piv k M k=M.length then 0 else bGo r (k+1) (kB k (Ba.P f k) (if piv k M k=k then M else swp M k (piv k M k))) (at' M (piv k M k) k) (if piv k M k=k then s else-s))=_;rcases hs with⟨h1,h2⟩|⟨h1,h2⟩
  ·rw[if_pos h1,Ba.Hs f hkn hP fun i h3 h4=>by rw[<-hX i k h3 h4 (Nat.le_refl k) hkn];exact h2 i h3 (by omega),Int.mul_zero]
  ·rw[if_neg (by omega)];have hge:=Gq k M k;generalize piv k M k=p at*;have key:∀(M2:Mat) (g:Nat->Nat->Int) (s2:Int),M2.length=n->Rc n M2->Ba.P g k=Ba.P f k->(∀i j,k<=i->i<n->k<=j->j<n->at' M2 i j=Ba.X g k (g i) j)->at' M2 k k=at' M p k->bGo r (k+1) (kB k (Ba.P f k) M2) (at' M p k) s2=s2*D n g:=fun M2 g s2 hl2 hR2 hP2 hX2 hpv=>by
    have hpp:at' M p k=Ba.P g (k+1):=by rw[<-hpv,hX2 k k (Nat.le_refl _) hkn (Nat.le_refl _) hkn,Ba.Hg]
    rw[hpp];refine DH r (k+1) (kB k (Ba.P f k) M2) s2 g (by omega) (by rw[Cj];exact hl2) (Fw hl2 hR2 hkn) (by rw[<-hpp];exact h2) fun i j h3 h4 h5 h6=>?_;rw[Fx hl2 hR2 hkn h3 h4 h5 h6,hX2 k k (Nat.le_refl _) hkn (Nat.le_refl _) hkn,hX2 i j (by omega) h4 (by omega) h6,hX2 i k (by omega) h4 (Nat.le_refl _) hkn,hX2 k j (Nat.le_refl _) hkn (by omega) h6,Ba.step g k (by rw[hP2];exact hP),<-hP2];exact Int.mul_ediv_cancel_left _ (by rw[hP2];exact hP)
   by_cases hpk:p=k
   ·subst hpk;rw[if_pos rfl,if_pos rfl];exact key M f s hl hR rfl hX rfl
   ·rw[if_neg hpk,if_neg hpk];have hsw:=fun i (hi:i<k)=>Ba.sw_lt f (p:=p) hi hge;have hD:=AX (n:=n) (i:=k) (j:=p) hkn (by omega) (fun h=>hpk h.symm) f;have hDs:D n (Ba.sw f k p)= -(D n f):=hD;rw[key (swp M k p) (Ba.sw f k p) (-s) (by rw[bH];exact hl) (fw hR (by omega) (by omega)) (Ba.Hn hsw) (fun i j h3 h4 h5 h6=>by
     rw[cg (by omega) (by omega),Ba.Hh hsw];unfold Ba.sw upd;by_cases e1:i=p
     ·rw[if_pos e1];simp only[if_pos e1];exact hX k j (Nat.le_refl _) hkn h5 h6
     ·rw[if_neg e1];simp only[if_neg e1];by_cases e2:i=k
      ·rw[if_pos e2];simp only[if_pos e2];exact hX p j hge (by omega) h5 h6
      ·rw[if_neg e2];simp only[if_neg e2];exact hX i j h3 h4 h5 h6) (by rw[cg (by omega) (by omega),if_neg (by omega),if_pos rfl]),hDs,Int.neg_mul_neg]
theorem G4{n:Nat}{M:Mat}(hl:M.length=n)(hR:Rc n M):rT M=D n (at' M):=by
 unfold rT;rw[hl];have h:=DH (n:=n) n 0 M 1 (at' M) (by omega) hl hR (by show(1:Int)≠0;decide) fun i j _ _ _ _=>by
  show _=sm 1 (fun k=>sg k*Ba.xr (at' M) 0 (at' M i) 0 (Ba.xc 0 j k)*1);show _=0+sg 0*Ba.xr (at' M) 0 (at' M i) 0 (Ba.xc 0 j 0)*1;rw[Ba.iY,Ba.iZ,show sg 0=1 from rfl,Int.one_mul,Int.mul_one,Int.zero_add]
 rw[Int.one_mul]at h;exact h
end Mx
end
end Go.Proofs.YtcgjmdpcplhanaaGreat
