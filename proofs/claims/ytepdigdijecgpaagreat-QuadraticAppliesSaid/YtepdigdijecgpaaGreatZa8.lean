/- Lemmas for the law: Q25 W20 Q26 QF Q28 F6 DY0 -/
import Derived.Test.YtepdigdijecgpaaGreatZa7
namespace Go.Proofs.YtepdigdijecgpaaGreat
section
abbrev fP:=@Int.ofNat_eq_natCast
abbrev fF:=@Int.negSucc_eq
abbrev pC:=@Array.ext'
theorem Bl{p:Prop}(h:p:=by simp only[fP,fF];omega):p:=h
theorem zb27{p:Prop}(h:p:=by(apply Gy;(exact rfl);(focus((apply aB;(conv=>lhs;whnf);(first|done|exact rfl))));(focus((apply aB;(conv=>lhs;whnf);(first|done|exact rfl))));(exact rfl);(exact rfl);(kernel_rfl))):p:=h
theorem zb47{p:Prop}(h:p:=by(repeat(first|exact set_nil|apply I0|apply set_hit|(apply Fp;(exact rfl))))):p:=h
theorem zs86{p q:Prop}(h:q)(f:Wq q->p:=by(intro hW;((first|(refine aLs rfl rfl rfl rfl ?_ ?_;(focus(apply bF;(conv=>lhs;whnf);(first|done|exact rfl|(apply bA;(first|(apply aq;omega)|(apply ao;omega)|assumption|(simp;done)))))))|refine aLw rfl rfl rfl rfl cZ zb2 ?_));exact hW.out)):p:=f ⟨h⟩
theorem wB{p q:Prop}(h:q)(f:Wq q->p:=by(intro hW;(refine bI ?_;refine zs71 ?_;refine ff ?_;refine gh ?_;refine zs4 ?_;refine zs3 ?_;refine AH ?_;refine nT ?_;refine zs86 ?_;refine AF ?_;refine zs7 ?_;refine aK ?_);exact hW.out)):p:=f ⟨h⟩
theorem zb63{p:Prop}(h:p:=by rw[D.out.2.2.2];exact rV _ _):p:=h
theorem zb46{p:Prop}(h:p:=by rw[<-HQ.out];exact fg D.out.2.2.1 H1.out.nf.dg zb63):p:=h
theorem Hb{p q:Prop}(h:q)(f:Wq q->p:=by(intro hW;(refine jX ?_;refine kF ?_;refine gh ?_;refine mQ ?_;refine aK ?_);exact hW.out)):p:=f ⟨h⟩
theorem pB{p:Prop}(h:p:=by(first|exact mA|exact my|exact mz|exact wd_pt|exact rfl)):p:=h
theorem Ha{p q:Prop}(h:q)(f:Wq q->p:=by(intro hW;(refine jX ?_;refine gh ?_;refine mQ ?_;refine cw ?_);exact hW.out)):p:=f ⟨h⟩
end
section
open Go.RowKit
namespace CI
variable {P : Program} {h h' : H} {tm tm' : Tm} {rec : Rec} {n : Nat} {r : List RO} {S : Nat->SD} {ops : Array Oper} {A : Nat->Prop} {ρ ρ1 ρ2 : Nat->Nat} {w w1 w2 : World} {a : Act} {ds : List Nat} {L : Nat->Prop} {s : Nat->Nat} {j : Nat} {o : Oper} {ro : RO} {G h1 : H} {E : Env}
theorem Cm(w:World):Below w.heap.size w {w with drawn:=w.drawn+1}:=(Below.refl _ w).drew
theorem Eu(t:Trace rec r tm h tm' h' S)(tR:Rel P A ρ w h)(hf:Fr P A ρ w n ds tm a):Inv P S ops r h' n ds A ρ w (fun _=>False) (fun _=>0) ρ a {w with drawn:=w.drawn+1}:=by
 have hlt:=Lt.below (Cm w);have hA:∀k,A k->AL A S (fun _=>False) k:=fun k hk=>.inl hk;have hmo:Mo A (AL A S fun _=>False) ρ ρ:=⟨hA,fun _ _=>rfl⟩;have hlv:∀k b,Lv S (fun _=>False) (fun _=>0) k b->h.get k=some b:=fun k b e=>by
  rcases e with⟨_,e⟩|⟨_,e,_⟩
  ·rw[t.h0]at e;exact e
  ·exact e.elim
 refine⟨fun _ _ _ e=>e.elim,fun _ e=>e.elim,fun _=>aP _,fun k i hi=>by omega,fun _ _ _ _ _ e=>e,fun u=>.inr ⟨fun _ _ e=>e.elim,?_⟩,hf.sz,hf.df,fun k b e=>?_,fun k b k' b' e e' hk=>?_,hlt,fun b _ _=>rfl,fun _ _=>rfl,fun k b e hk=>?_⟩
 ·rw[t.tm0];exact VR.mo hmo hlt _ _ (hf.tr u)
 ·obtain⟨_,_,b1,b2⟩:=tR.blk k b (hlv k b e);exact⟨b1,b2.mo hmo hlt rfl⟩
 ·exact tR.inj k k' (aR (hlv k b e)) (aR (hlv k' b' e')) hk
 ·have:=(tR.blk k b (hlv k b e)).1;rw[t.h0]at hk;omega
theorem JS{a0:Act}(I:Inv P S ops r h' n ds A ρ w L s ρ1 a w1)(t:Trace rec r tm h tm' h' S)(st:Stat P n ops r)(hg:dn rec)(f:Wf h)(hn:n<1000000)(hall:∀i,i<r.length->L i)(tR:Rel P A ρ w h)(hd:Dj A h h')(hf:Fr P A ρ w n ds tm a0):bR P A ρ w h ρ1 w1 h'/\Fr P (Ext A h h') ρ1 w1 n ds tm' a:=by
 have hAL:∀k,AL A S L k->Ext A h h' k:=fun k hk=>by
  rcases hk with hk|⟨i,hi,a1,a2⟩
  ·exact .inl hk
  ·have m1:=t.mono hg f (aP i) (cD (I.lN i hi));have m2:=t.mono hg f (show i+1<=r.length from I.lN i hi) (af _);rw[t.h0]at m1;rw[t.hN]at m2;exact .inr aa
 have hmo:Mo (AL A S L) (Ext A h h') ρ1 ρ1:=⟨hAL,fun _ _=>rfl⟩;obtain⟨wfN,gN⟩:=t.gd hg f r.length (af _);rw[t.hN]at wfN gN;have hq:∀k i,s k<=i->i<r.length->(S (i+1)).wk k=false:=fun k i h1 h2=>by
  cases hw:(S (i+1)).wk k with
  |false=>rfl
  |true=>exact absurd (hall i h2) (I.sr k i h1 h2 hw)
 have hlv:∀k b,h'.get k=some b->Lv S L s k b:=fun k b e=>by
  by_cases hk:k<(S 0).h.next
  ·refine .inl ⟨hk,?_⟩;rw[<-fH t hg f (I.s0 k) (af _) (aJ hk (t.mono hg f (aP _) (I.s0 k))) (hq k),t.hN];exact e
  ·have hkN:k<(S r.length).h.next:=by rw[t.hN];exact wfN.lt k b (fK e)
   obtain⟨q,hq1,a1,a2⟩:=t.owner (cY hk) hkN;refine .inr ⟨q,hall q hq1,a1,a2,?_⟩;have hs0:=I.s0 k;rw[<-fH t hg f (x:=max (s k) (q+1)) (y:=r.length) aa (af _) (aJ a2 (t.mono hg f aa aa)) (fun i i1 i2=>hq k i aa i2),t.hN];exact e
 refine⟨⟨fun k hk=>I.rho k (by rw[t.h0];exact hk),⟨fun k b e=>?_,fun k k' hl hl' hk=>?_,wfN.bd⟩,I.lt,fun b hb hx=>I.fr b hb (by rw[t.h0];exact hx),fun k hk hl=>?_⟩,⟨fun u=>?_,I.sz,fun k hk=> .inl (hf.nm k hk),?_⟩⟩
 ·obtain⟨b1,b2⟩:=I.blk k b (hlv k b e);have hAk:AL A S L k:=by
   rcases hlv k b e with⟨hk,e2⟩|⟨i,hi,a1,a2,_⟩
   ·rw[t.h0]at hk;exact .inl (tR.live (gN.good.back hk (aR e))).2.1
   ·exact .inr ⟨i,hi,a1,a2⟩
  exact⟨wfN.lt k b (fK e),hAL k hAk,b1,b2.mo hmo (Lt.refl _) rfl⟩
 ·obtain⟨b,eb⟩:=cA.1 hl;obtain⟨b',eb'⟩:=cA.1 hl';exact I.inj k b k' b' (hlv k b eb) (hlv k' b' eb') hk
 ·obtain⟨b,eb⟩:=cA.1 hl;have:=I.new k b (hlv k b eb) (by rw[t.h0];exact hk);rwa[t.h0]at this
 ·refine VR.mo hmo (Lt.refl _) _ _ ?_;rw[<-t.tmN];have hlo:∀{i:Nat} {o:Oper},ops[i]?=some o->i<r.length:=fun ho=>by rw[st.len];exact(gi.1 ho).1
  rcases BM t st hn u r.length (af _)with⟨i,o',h1,h2,h3,h4,h5⟩|⟨h1,h2⟩
  ·rw[h5];rcases I.tmv u with⟨i',o'',k1,k2,k3,k4,k5⟩|⟨k1,k2⟩
   ·have : i' = i := by
     rcases kJ i i' with e|e|e
     ·exact absurd k3 (h4 i' o'' (hlo k2) e k2)
     ·exact e.symm
     ·exact absurd h3 (k4 i o' (hall i h1) e h2)
    subst this;exact k5
   ·exact absurd h3 (k1 i o' (hall i h1) h2)
  ·rw[h2];rcases I.tmv u with⟨i',o'',k1,k2,k3,k4,k5⟩|⟨k1,k2⟩
   ·exact absurd k3 (h1 i' o'' (hlo k2) k2)
   ·exact k2
 ·rw[I.df];exact xF fun k hk=>by
   unfold qw;rw[I.rho k (by rw[t.h0];exact hd k (hf.nm k hk))]
theorem L4(hrec:jB P rec)(hg:dn rec)(t:Trace rec r tm h tm' h' S)(st:Stat P n ops r)(f:Wf h)(hn:n<1000000){F:Fence}(hF:FC F){Q:Exit->Act->World->Prop}{a0:Act}(tR:Rel P A ρ w h)(hd:Dj A h h')(hf:Fr P A ρ w n ds tm a0)
  (hq:∀ρ' w' a',bR P A ρ w h ρ' w' h'->Fr P (Ext A h h') ρ' w' n ds tm' a'->Q .normal a' w'):∀(fuel:Nat) (listed:Array Bool) (a:Act) (w1:World) (s:Nat->Nat) (ρ1:Nat->Nat) (U:List Nat),listed.size=ops.size->U.length<=fuel->(∀i,i<ops.size->listed.getD i false=false->i∈U)->
   Inv P S ops r h' n ds A ρ w (fun i=>listed.getD i false=true) s ρ1 a w1->wpAnyIn F 0 P .any ops Q fuel listed a w1:=by
 have hsz:=st.len;have done:∀(listed:Array Bool) (a:Act) (w1:World) (s:Nat->Nat) (ρ1:Nat->Nat),(∀i,i<ops.size->listed.getD i false=true)->Inv P S ops r h' n ds A ρ w (fun i=>listed.getD i false=true) s ρ1 a w1->Q .normal a w1:=fun listed a w1 s ρ1 hall I=>by
  obtain⟨p,fr⟩:=JS I t st hg f hn (fun i hi=>hall i aa) tR hd hf;exact hq ρ1 w1 a p fr
 have unl:∀(listed:Array Bool) (j:Nat),listed.size=ops.size->listed.getD j true=false->j<ops.size/\listed.getD j false=false:=fun listed j hs hl=>by
  rw[cg]at hl
  cases e:listed[j]? with
  |none=>rw[e]at hl;simp at hl
  |some b=>
   rw[e]at hl;have hlt:=(gi.1 e).1;refine⟨by omega,?_⟩;rw[cg,e];simpa using hl
 intro fuel
 induction fuel with
 |zero=>
  intro listed a w1 s ρ1 U hs hU hin I;have hUn:U=[]:=gw aa;subst hUn;have hall:∀i,i<ops.size->listed.getD i false=true:=fun i hi=>by
   cases hb:listed.getD i false with
   |true=>rfl
   |false=>exact absurd (hin i hi hb) aY
  refine⟨?_,done listed a w1 s ρ1 hall I⟩
  cases hr:Region.ready .any ops listed with
  |nil=>rfl
  |cons x xs=>
   exfalso;have hx:x∈Region.ready .any ops listed:=by rw[hr];exact bn
   obtain⟨h1,h2⟩:=unl listed x hs (mem_ready.1 hx).1;rw[hall x h1]at h2;cases h2
 |succ fuel ih=>
  intro listed a w1 s ρ1 U hs hU hin I;refine⟨fun hr=>?_,fun j hj=>?_⟩
  ·refine done listed a w1 s ρ1 (fun i=>?_) I
   induction i using Nat.strongRecOn with
   |_ i ihi=>
    intro hi
    cases hb:listed.getD i false with
    |true=>rfl
    |false=>
     exfalso;have hmem:i∈Region.ready .any ops listed:=by
      refine mem_ready.2 ⟨?_,ops[i],iu hi,fun e he hbd=>?_⟩
      ·have e:=iu (xs:=listed) (i:=i) aa;rw[cg,e]at hb⊢;simpa using hb
      ·have hlt:=st.edge i ops[i] e (iu hi) rS hbd;exact ihi e.on hlt aa
     rw[hr]at hmem;cases hmem
  ·obtain⟨h1,o,ho,h3⟩:=mem_ready.1 hj;obtain⟨hjs,hjl⟩:=unl listed j hs h1;obtain⟨ro,G,h1',hr,hdst,_,sg⟩:=IJ hrec hg t st f ho;have hpre:∀q,ro.pre.testBit q=true->listed.getD q false=true:=fun q hq=>by
    obtain⟨e,he,hbd,hx⟩:=st.pre j o ro q ho hr hq;have hl:=h3 e rS hbd;rcases hx with hx|⟨ro',hr',hq'⟩
    ·rw[<-hx];exact hl
    ·exact I.cl e.on ro' q hl hr' hq'
   have M:kE rec P S ops r tm h tm' h' n A (fun i=>listed.getD i false=true) j o ro G h1':=⟨t,st,hg,f,hn,ho,hr,by simp only[hjl];simp,hpre,hdst,sg,hd,fun k hk=>(tR.live hk).2.1⟩;refine sg.wp F hF Q _ _ ρ1 w1 a (I.rel M) (I.dj M) (I.slots t st hn ho hr M.hj hpre) fun u w2 ρ2 p hu=>?_;have I2:=I.step M p hu;have hset:∀i,(listed.setIfInBounds j true).getD i false=true↔(listed.getD i false=true\/i=j):=fun i=>by
    by_cases e:i=j
    ·subst e;simp[cg,nu,show i<listed.size by omega]
    ·simp[cg,th (Ne.symm e),e]
   have hfun:(fun i=>listed.getD i false=true\/i=j)=(fun i=>(listed.setIfInBounds j true).getD i false=true):=funext fun i=>propext (hset i).symm;rw[hfun]at I2;have hjU:j∈U:=hin j hjs hjl;refine ih _ _ _ _ _ (U.erase j) (by simp[hs]) (by rw[List.length_erase_of_mem hjU];omega) (fun i hi hb=>?_) I2;have hne:i≠j:=fun e=>by
    have:=(hset i).2 (.inr e);rw[this]at hb;cases hb
   have hb':listed.getD i false=false:=by
    cases hx:listed.getD i false with
    |false=>rfl
    |true=>rw[(hset i).2 (.inl hx)]at hb;cases hb
   exact(List.mem_erase_of_ne hne).2 (hin i hi hb')
theorem Jb(hmix:P.follows .mixedOrders=true)(rec:Rec)(hrec:jB P rec)(hg:dn rec):zo P rec:=by
 intro F hF Q ops id n hn r hc tm h tm' h' e f A ρ w a ds tR hd hf hq;obtain⟨S,t⟩:=Fb e;have st:=IL hc;refine wpIn_region_any hmix (L4 hrec hg t st f hn hF tR hd hf hq ops.size _ a _ (fun _=>0) ρ (List.range ops.size) aY aY (fun i hi _=>tg.2 hi) ?_);have I:=Eu (ops:=ops) t tR hf;have hfun:(fun _:Nat=>False)=(fun i=>(Array.replicate ops.size false).getD i false=true):=funext fun i=>propext (by
  simp only[false_iff,cg,xD];split<;>simp)
 rw[hfun]at I;exact I
theorem DR(hmix:P.follows .mixedOrders=true)(hO:uA P E)(hfn:E.fns=mM P){N g:Nat}(hE:Enters P g){c:C}{h':H}(e:run E N (.call (.fn g []) [] ⟨0,0,[], .e⟩)=some (.val c h'))(w:World):
  Calls P g #[] w (fun e w'=>∃u A ρ,e= .returned u/\VR P A ρ w' c u/\Rel P A ρ w' h'/\Below w.heap.size w w'):=by
 have hok:=(KM hO hfn (fun rec h1 h2=>Jb hmix rec h1 h2) N).1;have hbare:∀k,(⟨0,0,[], .e⟩:H).get k=none:=pj 0;have tR:Rel P (fun _=>False) (fun _=>0) w ⟨0,0,[], .e⟩:=⟨(fun k b e=>by rw[hbare]at e;cases e),(fun k _ hl=>by unfold H.live at hl;rw[hbare]at hl;cases hl),by simp⟩;obtain⟨d,hd,hk⟩:=hok _ _ _ _ _ e ⟨by simp,(fun k b e=>by rw[T.uh]at e;cases e)⟩ (fun _=>False) (fun _=>0) w (.func (.func g) #[] #[]) #[] tR (fun k hk=>hk.elim) (by simp only[VR,VRl];exact⟨_,rfl,rfl⟩) (by simp only[VRl]);rcases hk with⟨g',args',q1,q2⟩|⟨l,g',tmps,s,b,q0,_⟩
 ·have hkey : g' = g /\ args' = #[] := by
   obtain⟨d',r1,r2⟩:=qk hE #[] #[] w;rw[r1]at hd;simp only[Result.ok.injEq,and_true]at hd;rw[<-hd,r2]at q1;simp only[Result.ok.injEq,Next.enter.injEq,and_true]at q1;exact⟨q1.1.symm,by rw[<-q1.2];rfl⟩
  obtain⟨rfl,rfl⟩:=hkey;refine(callsIn_wide.1 q2).mono fun e' w' ⟨u,ρ',h1,p,hu⟩=>⟨u,_,ρ',h1,hu,p.rel,p.lt.os,p.lt.tape,p.lt.output,p.lt.size,fun k hk=>p.fr k hk fun j hl=>?_⟩;unfold H.live at hl;rw[hbare]at hl;cases hl
 ·cases q0
end CI
end
section
open Go.RowKit Go.BigFrame
attribute [local go_sem ↓] Go.wp_at_zero Go.wp_at_succ
theorem zC(r y:Nat):4*(r*y)<=(r+y)*(r+y):=by
 rcases Nat.le_total r y with h|h<;>obtain⟨d,rfl⟩:=Nat.le.dest h
 ·have:(r+(r+d))*(r+(r+d))=4*(r*(r+d))+d*d:=by grind
  omega
 ·have:(y+d+y)*(y+d+y)=4*((y+d)*y)+d*d:=by grind
  omega
theorem Em{a r:Nat}(hr:0<r):a<((r+a/r)/2+1)*((r+a/r)/2+1):=by
 have h1:a<r*(a/r+1):=by
  have:=mg a r;have:=fy a hr;rw[gB,kK];omega
 generalize a/r=q at*;have h2:=zC r (q+1);have h3:r+(q+1)<=2*((r+q)/2+1):=by omega
 generalize(r+q)/2+1=m at*;have h4:=eQ h3 h3;have h5:2*m*(2*m)=4*(m*m):=by grind
 omega
theorem B9{a r:Nat}(h:r<=(r+a/r)/2):r*r<=a:=by
 have h1:r<=a/r:=by omega
 exact aX (kb r h1) (Nat.mul_div_le a r)
theorem zz(n:Nat):Dg.NF B32 ((List.replicate (n+1) 0).set n 1)/\Dg.vl B32 ((List.replicate (n+1) 0).set n 1)=B32^n:=by
 have e:(List.replicate (n+1) 0).set n 1=List.replicate n 0++[1]:=by
  rw[List.replicate_succ',List.set_append_right _ _ aY];simp
 rw[e];refine⟨⟨Dg.kQ (Dg.gR ay _) (fun x hx=>by rw[bu.1 hx];decide),by simp⟩,?_⟩;rw[Dg.dL,Dg.rZ];simp[Dg.vl]
theorem bD.F9(W:World)(N k d:Nat)(hk:k<N):bD (W.alloc (.cells ((madeCells #[.int .u32 0] N).setIfInBounds k (.int .u32 (d:Int))) 280)) W.heap.size ((List.replicate N 0).set k d):=by
 have h:=(bD.made W N).set (k:=k) (by simpa using hk) d;simpa only[go_sem]using h
structure RC(wr:World)(a:Option Addr)(l:List Nat)(L k:Nat)(a1:Option Addr)(l1:List Nat)(c1:Nat):Prop where
 w0:WS wr a l
 w1:WS wr a1 l1
 n1:Dg.NF B32 l1
 h1:l1.length<=c1
 b1:l1.length<=L
 p:0<Dg.vl B32 l1
 u:Dg.vl B32 l<(Dg.vl B32 l1+1)*(Dg.vl B32 l1+1)
 k:k=Dg.vl B32 l1
def RtRes(u:Nat)(e:Ending)(w':World):Prop:=∃z r,e= .returned (.tuple #[.agg #[.bool z.s,.slice z.a z.n z.cap],.int .i64 0])/\IZ w' z ((r:Nat):Int)/\r*r<=u/\u<(r+1)*(r+1)
set_option maxRecDepth 10000 in
set_option maxHeartbeats 8000000 in
theorem Fw(x:IV)(u:Int)(fu:Fit u)(hu:0<=u)(w:World)(hx:IP w x u):
  Calls Tryz.prog 338 #[.agg #[.bool x.s,.slice x.a x.n x.cap]] w fun e w'=>RtRes u.toNat e w'/\Below w.heap.size w w':=by
 obtain⟨l,h1,rfl⟩:=hx;have bl:=eE h1.nf fu;have S1:=ae (fun w (h:IW w x l)=>eG x l aa w h);have H1:=ae h1;by_cases hl0:l=[]
 ·have hv0:Dg.iv x.s (Dg.vl B32 l)=0:=by rw[hl0];exact Dg.vq _
  rw[hv0];have hml:l.length=0:=by rw[hl0];rfl
  rw[hml]at S1;obtain⟨s,a,n,cap⟩:=x;simp only[]at S1;clear h1 fu hv0 hml hl0 hu
  go_enter Tryz.func338,Tryz.ntmps338
  go_wp2_with (first|(go_at_call 246;(with_reducible refine(S1.out _ ?_).mono ?_);(exact H1.out.below (B:=w.heap.size) aG (af _));rintro e w1 ⟨rfl,hb1⟩;obtain⟨g1,rfl⟩:=mob hb1;clear hb1))
  refine bodyPost_ret (v:=.tuple #[.agg #[.bool ((⟨false,none,0,0⟩:IV)).s,.slice ((⟨false,none,0,0⟩:IV)).a ((⟨false,none,0,0⟩:IV)).n ((⟨false,none,0,0⟩:IV)).cap],.int .i64 0]) (by simp[results,Tryz.results338,go_sem]) rfl ?_;exact⟨⟨⟨false,none,0,0⟩,0,rfl,IZ.zero _,by simp,by simp⟩,by exact bel⟩
 have hvp:=Dg.js h1.nf hl0 ay;have hs:x.s=false:=by
  cases hxs:x.s with
  |false=>rfl
  |true=>rw[hxs]at hu;simp[Dg.iv]at hu;omega
 have hut:(Dg.iv x.s (Dg.vl B32 l)).toNat=Dg.vl B32 l:=by rw[hs];simp[Dg.iv]
 rw[hut];have hlp:0<l.length:=gA.2 hl0;obtain⟨n,hn⟩:∃n,n=l.length/2+1:=⟨_,rfl⟩;have m1:¬l.length=0:=by omega
 have m2:¬(l.length:Int)=0:=by omega
 have m3:((l.length:Int)==0)=false:=by simpa using hl0
 have hmk:∀w:World,(Instr.makeSlice 260 (.int .i64 ((l.length:Int)/2+2)) (.int .i64 ((l.length:Int)/2+2))).run Tryz.prog w= .ok (.slice (some ⟨w.heap.size,0,none⟩) (n+1) (n+1)) (w.alloc (.cells (madeCells #[.int .u32 0] (n+1)) 280)):=fun w=>by
  have:=run_make_row' (P:=Tryz.prog) 260 280 (.int .u32 0) 4 Tryz.underlying260 jE rfl .i64 .i64 (n+1) aa aa w;rw[show((n+1:Nat):Int)=(l.length:Int)/2+2 by omega]at this;exact this
 have start:Hid (Dg.vl B32 l<(B32^n+1)*(B32^n+1)):=by
  refine aJ (Dg.bO h1.nf.dg) (aX (eu (n:=B32) ay (show l.length<=n+n by omega)) ?_);rw[qL];exact eQ (Nat.le_succ _) (Nat.le_succ _)
 have DV:=ae (fun lb a b ca cb hb hb0 hca w h1' h2=>pd l lb a b ca cb h1.nf hb hb0 aa hca w h1' h2);have MA:=ae (fun (k:List Nat) a c (hc:k.length<=c) (hk:Dg.NF B32 k) (hb:k.length<=3000000000000) w h=>iP false k a c hb hc hk.dg w h);obtain⟨s,a,p0,cap⟩:=x;simp only[]at S1 DV hs;subst hs;clear h1 fu hu hut hl0 hvp;generalize hq:l.length=q at*;have HQ:=ae hq;have HN:=0;clear hq HN;subst hn
 go_enter Tryz.func338,Tryz.ntmps338
 go_upto_region 7 with(first|(go_at_call 246;(with_reducible refine(S1.out _ ?_).mono ?_);(exact H1.out.below (B:=w.heap.size) aG (af _));rintro e w1 ⟨rfl,hb1⟩;obtain⟨g1,rfl⟩:=mob hb1;clear hb1))
 have RU:=bD.made (more ((w.alloc (.cells #[.bool false,.slice a p0 cap] 69)).alloc (.cells #[.bool false,.slice none 0 0] 69)) g1) (q/2+1+1);have HB:=ae RU;have c0:=RU.cell (k:=q/2+1) aY;have f0:=RU.frozen (q/2+1);simp only[fG,World.size_alloc]at c0 f0;clear RU hmk;have hB0:Below w.heap.size w (more ((w.alloc (.cells #[.bool false,.slice a p0 cap] 69)).alloc (.cells #[.bool false,.slice none 0 0] 69)) g1):=by exact bel
 have G0:Hid (RC ((more ((w.alloc (.cells #[.bool false,.slice a p0 cap] 69)).alloc (.cells #[.bool false,.slice none 0 0] 69)) g1).alloc (.cells ((madeCells #[.int .u32 0] (q/2+1+1)).setIfInBounds (q/2+1) (.int .u32 1)) 280)) a l 300000000000 (B32^(q/2+1)) (some ⟨w.heap.size+1+1+g1.2.size,0,none⟩) ((List.replicate (q/2+1+1) 0).set (q/2+1) 1) (q/2+1+1)):=by
  obtain⟨n1,n2⟩:=zz (q/2+1);refine⟨H1.out.ws.below (hB0.trans (Below.alloc (Below.refl _ _) hB0.size _)) (af _),?_,n1,by simp,by simp;omega,by rw[n2];exact gW ay,by rw[n2];exact start.out,n2.symm⟩;have:=(bD.F9 (more ((w.alloc (.cells #[.bool false,.slice a p0 cap] 69)).alloc (.cells #[.bool false,.slice none 0 0] 69)) g1) (q/2+1+1) (q/2+1) 1 aa).ws;simp only[fG,World.size_alloc]at this;exact this
 go_wp2_with fail
 clear hB0 start c0 f0 HB
 go_loopg [5] (B32^(q/2+1)) (fun k A wr=>∃(a1:Option Addr) (l1:List Nat) (c1:Nat),A= .slice a1 l1.length c1/\Ext ((more ((w.alloc (.cells #[.bool false,.slice a p0 cap] 69)).alloc (.cells #[.bool false,.slice none 0 0] 69)) g1).alloc (.cells ((madeCells #[.int .u32 0] (q/2+1+1)).setIfInBounds (q/2+1) (.int .u32 1)) 280)) wr/\Hid (RC wr a l 300000000000 k a1 l1 c1))
 case atStart=>exact⟨_,_,q/2+1+1,by simp,Ext.refl _,G0.out⟩
 case round=>
  obtain⟨a1,l1,c1,rfl,hext,HG⟩:=hrel;obtain⟨gx,rfl⟩:=mob (Ext.below hext);clear hext G0;have PL:Hid (∀(k m:List Nat) (a b:Option Addr) (c cb:Nat),Dg.NF B32 k->Dg.NF B32 m->k.length<=300000000000->m.length<=300000000000->∀w,WS w a k->WS w b m->Calls Tryz.prog 318 #[.slice a k.length c,.slice b m.length cb] w fun e w'=>nh w' e (Dg.vl B32 k+Dg.vl B32 m)/\Below w.heap.size w w'):=
   fun k m a b c cb hk hm bk bm w ha hb=>sq k m a b c cb hk.dg hm.dg aa aa w ha hb
  have SH:Hid (∀(k:List Nat) (a:Option Addr) (c:Nat),Dg.NF B32 k->k.length<=1000000000000->∀w,WS w a k->Calls Tryz.prog 356 #[.slice a k.length c,.int .u32 2] w fun e w'=>(∃a' l',e= .returned (.tuple #[.slice a' l'.length l'.length,.int .u32 ((Dg.vl B32 k%2:Nat):Int)])/\WS w' a' l'/\Dg.NF B32 l'/\Dg.vl B32 l'=Dg.vl B32 k/2)/\Below w.heap.size w w'):=
   fun k a c hk bk w ha=>pU k a c 2 aa hk.dg bk w ha
  have CM:=ae (fun (k m:List Nat) (a b:Option Addr) (c cb:Nat) (hk:Dg.NF B32 k) (hm:Dg.NF B32 m) (bk:k.length<=3000000000000) w ha hb=>iC k m a b c cb hk hm bk w ha hb);have hne:l1≠[]:=fun e=>by have:=HG.out.p;rw[e]at this;simp[Dg.vl]at this
  have DV1:=ae (DV.out l1 a a1 q c1 HG.out.n1 hne (af _) _ HG.out.w0 HG.out.w1);clear DV hne;obtain⟨U,hU⟩:∃U,U=(Dg.vl B32 l1+Dg.vl B32 l/Dg.vl B32 l1)/2:=⟨_,rfl⟩;have UP:Hid (Dg.vl B32 l<(U+1)*(U+1)):=by rw[hU];exact Em HG.out.p
  have UE:Hid (Dg.vl B32 l1<=U->Dg.vl B32 l1*Dg.vl B32 l1<=Dg.vl B32 l):=by rw[hU];exact B9
  have U0:Hid (0<U):=by
   have h1:=HG.out.p;have h2:=UP.out;rcases Nat.eq_zero_or_pos U with h3|h3
   ·rw[h3]at h2;have h4:Dg.vl B32 l=0:=by omega
    exact absurd (Dg.js H1.out.nf (fun e=>by have:=HQ.out;rw[e]at this;simp at this;omega) ay) aa
   ·exact h3
  have HU:=ae hU;clear hU;by_cases hlt:U<Dg.vl B32 l1
  ·have cz:eN U (Dg.vl B32 l1)= -1:=by unfold eN;rw[aj hlt]
   have CZ:=ae cz;have HLT:=ae hlt;clear cz hlt
   go_wp2_with (first|(go_at_call 332;(with_reducible refine(DV1.out).mono ?_);rintro e w3 ⟨a3,l3,c3,a4,l4,c4,rfl,d1,d2,d3,d4,d5,d6,d7,d8,hb3⟩;have D:=ae (And.intro d1 (And.intro d3 (And.intro d5 d7)));clear d1 d2 d3 d4 d5 d6 d7 d8;have HB3:=ae hb3;obtain⟨g3,rfl⟩:=mob hb3;clear hb3)|(go_at_call 318;(with_reducible refine(PL.out l1 l3 a1 a3 c1 c3 HG.out.n1 D.out.2.2.1 HG.out.b1 ?_ _ ?_ ?_).mono ?_);(focus(refine aX (fg D.out.2.2.1 H1.out.nf.dg ?_) ?_;(focus(rw[D.out.2.2.2];exact rV _ _));(focus(rw[HQ.out];omega))));(exact HG.out.w1.below HB3.out (af _));(exact D.out.2.1);rintro e w5 ⟨⟨a5,l5,rfl,r1,r2,r3⟩,hb5⟩;have R5:=ae (And.intro r1 (And.intro r2 r3));clear r1 r2 r3;have HB5:=ae (HB3.out.trans (hb5.mono HB3.out.size));obtain⟨g5,rfl⟩:=mob hb5;clear hb5)|(go_at_call 356;(with_reducible refine(SH.out l5 a5 l5.length R5.out.2.1 ?_ _ R5.out.1).mono ?_);(focus(have h5:=pR (Dg.bO HG.out.n1.dg) (Dg.bO D.out.2.2.1.dg);rw[<-R5.out.2.2]at h5;have h6:=kt R5.out.2.1 h5;have h7:=HG.out.b1;have h8:l3.length<=q:=zb46;omega));rintro e w6 ⟨⟨a6,l6,rfl,r1,r2,r3⟩,hb6⟩;rw[R5.out.2.2,D.out.2.2.2,<-HU.out]at r3;have R6:=ae (And.intro r1 (And.intro r2 r3));clear r1 r2 r3;have HB6:=ae (HB5.out.trans (hb6.mono HB5.out.size));obtain⟨g6,rfl⟩:=mob hb6;clear hb6)|(go_at_call 319;(with_reducible refine(CM.out l6 l1 a6 a1 l6.length c1 R6.out.2.1 HG.out.n1 ?_ _ R6.out.1 (HG.out.w1.below HB6.out (af _))).mono ?_);(focus(have h9:=fg R6.out.2.1 HG.out.n1.dg (by rw[R6.out.2.2];exact cD HLT.out);have:=HG.out.b1;omega));rintro e w7 ⟨rfl,hb7⟩;rw[R6.out.2.2,CZ.out];have R7:=ae (R6.out.1.below hb7 (af _));have HB7:=ae (HB6.out.trans (hb7.mono HB6.out.size));obtain⟨g7,rfl⟩:=mob hb7;clear hb7))
   go_roundg U
   case measure=>rw[HG.out.k];exact HLT.out
   case rel=>exact⟨a6,l6,l6.length,rfl,jy aG,HG.out.w0.below HB7.out (af _),R7.out,R6.out.2.1,af _,aX (fg R6.out.2.1 HG.out.n1.dg (by rw[R6.out.2.2];exact cD HLT.out)) HG.out.b1,by rw[R6.out.2.2];exact U0.out,by rw[R6.out.2.2];exact UP.out,R6.out.2.2.symm⟩
  ·obtain⟨C,hC0,hC⟩:∃C:Int,0<=C/\eN U (Dg.vl B32 l1)=C:=⟨_,by unfold eN;rw[ai hlt];split<;>decide,rfl⟩;have CZ:=ae hC;have HE:=ae (UE.out (cY hlt));have hC1:decide ((0:Int)<=C)=true:=by rw[da];exact hC0
   clear hC hlt
   go_wp2_with (first|(go_at_call 332;(with_reducible refine(DV1.out).mono ?_);rintro e w3 ⟨a3,l3,c3,a4,l4,c4,rfl,d1,d2,d3,d4,d5,d6,d7,d8,hb3⟩;have D:=ae (And.intro d1 (And.intro d3 (And.intro d5 d7)));clear d1 d2 d3 d4 d5 d6 d7 d8;have HB3:=ae hb3;obtain⟨g3,rfl⟩:=mob hb3;clear hb3)|(go_at_call 318;(with_reducible refine(PL.out l1 l3 a1 a3 c1 c3 HG.out.n1 D.out.2.2.1 HG.out.b1 ?_ _ ?_ ?_).mono ?_);(focus(refine aX (fg D.out.2.2.1 H1.out.nf.dg ?_) ?_;(focus(rw[D.out.2.2.2];exact rV _ _));(focus(rw[HQ.out];omega))));(exact HG.out.w1.below HB3.out (af _));(exact D.out.2.1);rintro e w5 ⟨⟨a5,l5,rfl,r1,r2,r3⟩,hb5⟩;have R5:=ae (And.intro r1 (And.intro r2 r3));clear r1 r2 r3;have HB5:=ae (HB3.out.trans (hb5.mono HB3.out.size));obtain⟨g5,rfl⟩:=mob hb5;clear hb5)|(go_at_call 356;(with_reducible refine(SH.out l5 a5 l5.length R5.out.2.1 ?_ _ R5.out.1).mono ?_);(focus(have h5:=pR (Dg.bO HG.out.n1.dg) (Dg.bO D.out.2.2.1.dg);rw[<-R5.out.2.2]at h5;have h6:=kt R5.out.2.1 h5;have h7:=HG.out.b1;have h8:l3.length<=q:=zb46;omega));rintro e w6 ⟨⟨a6,l6,rfl,r1,r2,r3⟩,hb6⟩;rw[R5.out.2.2,D.out.2.2.2,<-HU.out]at r3;have R6:=ae (And.intro r1 (And.intro r2 r3));clear r1 r2 r3;have HB6:=ae (HB5.out.trans (hb6.mono HB5.out.size));obtain⟨g6,rfl⟩:=mob hb6;clear hb6)|(go_at_call 319;(with_reducible refine(CM.out l6 l1 a6 a1 l6.length c1 R6.out.2.1 HG.out.n1 ?_ _ R6.out.1 (HG.out.w1.below HB6.out (af _))).mono ?_);(focus(have h9:=fg R6.out.2.1 R5.out.2.1.dg (by rw[R6.out.2.2,R5.out.2.2,D.out.2.2.2,HU.out];exact rV _ _);have h5:=pR (Dg.bO HG.out.n1.dg) (Dg.bO D.out.2.2.1.dg);rw[<-R5.out.2.2]at h5;have h6:=kt R5.out.2.1 h5;have h7:=HG.out.b1;have h8:l3.length<=q:=zb46;omega));rintro e w7 ⟨rfl,hb7⟩;rw[R6.out.2.2,CZ.out];have R7:=ae (R6.out.1.below hb7 (af _));have HB7:=ae (HB6.out.trans (hb7.mono HB6.out.size));obtain⟨g7,rfl⟩:=mob hb7;clear hb7)|(go_at_call 244;(with_reducible refine(MA.out l1 a1 c1 HG.out.h1 HG.out.n1 (by have:=HG.out.b1;omega) _ (HG.out.w1.below HB7.out (af _))).mono ?_);rintro e w8 ⟨⟨y,rfl,hy⟩,hb8⟩;have HY:=ae (show IZ w8 y ((Dg.vl B32 l1:Nat):Int)from hy);clear hy;obtain⟨g8,rfl⟩:=mob hb8;clear hb8))
   refine bodyPost_ret (v:=.tuple #[.agg #[.bool y.s,.slice y.a y.n y.cap],.int .i64 0]) (by simp[results,Tryz.results338,go_sem]) rfl ?_;exact⟨⟨y,_,rfl,IZ.eM HY.out (by exact jr),HE.out,HG.out.u⟩,by exact bel⟩
end
section
open Go.RowKit
namespace CI
def bnd(z:Int):Bool:=Nat.blt z.natAbs 1208925819614629174706176
def i64(n:Int):C:=.sc (.int .i64 n)
def o1(f:Int->Option C):Orc:=fun l=>match l with
 |[a]=>match zj a with
  |some z=>match bnd z with
   |true=>f z
   |false=>none
  |none=>none
 |_=>none
def o2(f:Int->Int->Option C):Orc:=fun l=>match l with
 |[a,b]=>match zj a with
  |some y=>match zj b with
   |some z=>match bnd y with
    |true=>match bnd z with
     |true=>f y z
     |false=>none
    |false=>none
   |none=>none
  |none=>none
 |_=>none
def sg(z:Int):Int:=match z with| .negSucc _=>-1| .ofNat 0=>0| .ofNat (_+1)=>1
def sqf:Nat->Nat->Nat->Nat
 |0,_,r=>r
 |f+1,n,r=>match Nat.ble ((r+1)*(r+1)) n with
  |true=>sqf f n (r+1)
  |false=>r
def isz(z:Int):Bool:=match z with| .ofNat 0=>true|_=>false
def oAdd:Orc:=o2 fun a b=>some (.nm (a+b))
def oSub:Orc:=o2 fun a b=>some (.nm (a-b))
def oMul:Orc:=o2 fun a b=>some (.nm (a*b))
def Ji:Orc:=o2 fun a b=>match isz b with|true=>none|false=>some (.tp [.nm (a/b),.nm (a%b),i64 0])
def oCmp:Orc:=o2 fun a b=>some (i64 (sg (a-b)))
def oGcd:Orc:=o2 fun a b=>some (.nm (Int.gcd a b))
def oOf:Orc:=fun l=>match l with
 |[.sc (.int .i64 n)]=>match Nat.blt n.natAbs 4611686018427387904 with
  |true=>some (.nm n)
  |false=>none
 |_=>none
def KY:Orc:=o1 fun a=>match Nat.blt a.natAbs 4611686018427387904 with
 |true=>some (.tp [i64 a,.sc (.bool true)])
 |false=>none
def Jh:Orc:=o1 fun a=>some (.nm a)
def rt(n r:Nat):Option C:=match Nat.ble (r*r) n with
 |true=>match Nat.blt n ((r+1)*(r+1))with
  |true=>some (.tp [.nm r,i64 0])
  |false=>none
 |false=>none
def oRoot:Orc:=o1 fun a=>match a with
 | .ofNat n=>rt n (sqf 10000 n 0)
 |_=>none
def oZero:Orc:=o1 fun a=>some (.sc (.bool (isz a)))
def oSign:Orc:=o1 fun a=>some (i64 (sg a))
def oNeg:Orc:=o1 fun a=>some (.nm (-a))
def oSize:Orc:=o1 fun a=>some (.nm a.natAbs)
def oQuo:Orc:=o2 fun a b=>match isz b with|true=>none|false=>some (.nm (a/b))
def uc:List (Nat×Orc)->Nat->Option Orc
 |[],_=>none
 |(k,o)::l,n=>match Nat.beq k n with|true=>some o|false=>uc l n
def orcT:List (Nat×Orc):=[(242,oAdd),(113,oSub),(114,oMul),(322,Ji),(159,oCmp),(256,oGcd),(115,oOf),(251,KY),(151,Jh),(338,oRoot),(231,oZero),(233,oSign),(234,oNeg),(160,oSize),(250,oQuo)]
def theE(P:Program):Env:=⟨mM P,uc orcT⟩
theorem Fe(P:Program):(theE P).fns=mM P:=rfl
theorem oW{z:Int}(h:bnd z=true):Fit z:=by
 unfold bnd at h;rw[aV]at h;exact⟨3,by omega,Nat.lt_trans h ay⟩
section
variable {P : Program} {A : Nat->Prop} {ρ : Nat->Nat} {w : World}
theorem vG{c:C}{z:Int}{v:Value}(h:zj c=some z)(hv:VR P A ρ w c v):∃x:IV,v= .agg #[.bool x.s,.slice x.a x.n x.cap]/\IZ w x z:=by
 unfold zj at h;split at h
 ·cases h;simp only[VR]at hv;exact hv
 ·cases h;simp only[VR,VCs]at hv;obtain⟨cs,rfl,h1,u,r,h2,⟨h3,_⟩,h4,u2,r2,h5,⟨h6,_⟩,h7⟩:=hv;subst h3;subst h6;subst h7;subst h5;refine⟨⟨false,none,0,0⟩,?_,IZ.zero w⟩;have:cs= #[.bool false,.slice none 0 0]:=by apply pC;rw[h2];rfl
  rw[this]
 ·cases h
def Ans(P:Program)(g:Nat)(vs:Array Value)(w:World)(c:C):Prop:=Calls P g vs w (fun e w'=>∃u,e= .returned u/\(∀A ρ,VR P A ρ w' c u)/\Below w.heap.size w w')
theorem Ans.calls{g:Nat}{vs:Array Value}{c:C}(h:Ans P g vs w c)(A:Nat->Prop)(ρ:Nat->Nat):Calls P g vs w (fun e w'=>∃u,e= .returned u/\VR P A ρ w' c u/\Below w.heap.size w w'):=by
 unfold Ans at h;refine h.mono ?_;rintro e w' ⟨u,h1,h2,h3⟩;exact⟨u,h1,h2 A ρ,h3⟩
theorem oJ{g:Nat}{f:Int->Option C}(hE:Enters P g)(H:∀(x:IV) (z:Int) (w:World) (c:C),Fit z->IZ w x z->f z=some c->Ans P g #[.agg #[.bool x.s,.slice x.a x.n x.cap]] w c):
  ∀args r,o1 f args=some r->∀A ρ w vs,VRl P A ρ w args vs.toList->Enters P g/\Calls P g vs w (fun e w'=>∃u,e= .returned u/\VR P A ρ w' r u/\Below w.heap.size w w'):=by
 intro args r e A ρ w vs hv;refine⟨hE,?_⟩;unfold o1 at e;split at e
 ·next a=>
  split at e
  ·next z hz=>
   split at e
   ·next hb=>
    simp only[VRl]at hv;obtain⟨u,r',h1,h2,h3⟩:=hv;subst h3;obtain⟨x,rfl,hx⟩:=vG hz h2;have:vs= #[.agg #[.bool x.s,.slice x.a x.n x.cap]]:=by apply pC;rw[h1]
    rw[this];exact(H x z w r (oW hb) hx e).calls A ρ
   ·cases e
  ·cases e
 ·cases e
theorem oI{g:Nat}{f:Int->Int->Option C}(hE:Enters P g)(H:∀(x y:IV) (u v:Int) (w:World) (c:C),Fit u->Fit v->IZ w x u->IZ w y v->f u v=some c->Ans P g #[.agg #[.bool x.s,.slice x.a x.n x.cap],.agg #[.bool y.s,.slice y.a y.n y.cap]] w c):
  ∀args r,o2 f args=some r->∀A ρ w vs,VRl P A ρ w args vs.toList->Enters P g/\Calls P g vs w (fun e w'=>∃u,e= .returned u/\VR P A ρ w' r u/\Below w.heap.size w w'):=by
 intro args r e A ρ w vs hv;refine⟨hE,?_⟩;unfold o2 at e;split at e
 ·next a b=>
  split at e
  ·next y hy=>
   split at e
   ·next z hz=>
    split at e
    ·next hb=>
     split at e
     ·next hb2=>
      simp only[VRl]at hv;obtain⟨u,r',h1,h2,u2,r2,h4,h5,h3⟩:=hv;subst h3;subst h4;obtain⟨x,rfl,hx⟩:=vG hy h2;obtain⟨x2,rfl,hx2⟩:=vG hz h5;have:vs= #[.agg #[.bool x.s,.slice x.a x.n x.cap],.agg #[.bool x2.s,.slice x2.a x2.n x2.cap]]:=by apply pC;rw[h1]
      rw[this];exact(H x x2 y z w r (oW hb) (oW hb2) hx hx2 e).calls A ρ
     ·cases e
    ·cases e
   ·cases e
  ·cases e
 ·cases e
theorem vr_nm{z:Int}{x:IV}(h:IZ w x z)(A:Nat->Prop)(ρ:Nat->Nat):VR P A ρ w (.nm z) (.agg #[.bool x.s,.slice x.a x.n x.cap]):=by
 simp only[VR];exact⟨x,rfl,h⟩
theorem tD(n:Int)(A:Nat->Prop)(ρ:Nat->Nat):VR P A ρ w (i64 n) (.int .i64 n):=by
 simp only[i64,VR];exact⟨trivial,rfl⟩
theorem IB(b:Bool)(A:Nat->Prop)(ρ:Nat->Nat):VR P A ρ w (.sc (.bool b)) (.bool b):=by
 simp only[VR];exact⟨trivial,rfl⟩
theorem jA{g:Nat}{vs:Array Value}{z:Int}(h:Calls P g vs w fun e w'=>(∃x:IV,e= .returned (.agg #[.bool x.s,.slice x.a x.n x.cap])/\IZ w' x z)/\Below w.heap.size w w'):Ans P g vs w (.nm z):=by
 unfold Ans;refine h.mono ?_;rintro e w' ⟨⟨x,rfl,hx⟩,hb⟩;exact⟨_,rfl,vr_nm hx,hb⟩
theorem As{g:Nat}{vs:Array Value}{z:Int}(h:Calls P g vs w fun e w'=>e= .returned (.int .i64 z)/\Below w.heap.size w w'):Ans P g vs w (i64 z):=by
 unfold Ans;refine h.mono ?_;rintro e w' ⟨rfl,hb⟩;exact⟨_,rfl,tD z,hb⟩
end
theorem Hy(z:Int):sg z=sgn z:=by
 unfold sg sgn;split
 ·next n=>
  have h:Int.negSucc n<0:=Int.negSucc_lt_zero n;generalize Int.negSucc n=z at*;rw[ai aa,aj aa]
 ·rfl
 ·next n=>
  have h:(0:Int)<Int.ofNat (n+1):=Int.natCast_pos.2 (Nat.succ_pos n);generalize Int.ofNat (n+1)=z at*;rw[ai aa,ai aa]
theorem Et(z:Int):isz z=decide (z=0):=by
 unfold isz;split
 ·rfl
 ·next h=>
  symm;rw[dh];intro e;exact h e
theorem Lr{z:Int}(h:isz z=false):z≠0:=by
 rw[Et]at h;simpa using h
theorem Eb{n r s:Nat}(h1:r*r<=n)(h2:n<(r+1)*(r+1))(h3:s*s<=n)(h4:n<(s+1)*(s+1)):r=s:=by
 have k1:r<s+1:=oh fun h=>by have:=eQ h h;omega
 have k2:s<r+1:=oh fun h=>by have:=eQ h h;omega
 omega
theorem wa:∀{l:List (Nat×Orc)} {n:Nat} {o:Orc},uc l n=some o->(n,o)∈l
 |[],_,_,h=>by cases h
 |(k,o')::l,n,o,h=>by
  unfold uc at h;split at h
  ·next hb=>
   cases h;rw[cn hb];exact bn
  ·exact bq _ (wa h)
theorem Jf:uA Tryz.prog (theE Tryz.prog):=by
 intro g f hg;have hm:=wa (show uc orcT g=some f from hg);simp only[orcT,bs,aD,List.not_mem_nil,or_false]at hm;rcases hm with⟨rfl,rfl⟩|⟨rfl,rfl⟩|⟨rfl,rfl⟩|⟨rfl,rfl⟩|⟨rfl,rfl⟩|⟨rfl,rfl⟩|⟨rfl,rfl⟩|⟨rfl,rfl⟩|⟨rfl,rfl⟩|⟨rfl,rfl⟩|⟨rfl,rfl⟩|⟨rfl,rfl⟩|⟨rfl,rfl⟩|⟨rfl,rfl⟩|⟨rfl,rfl⟩
 ·exact oI (enters_of Tryz.func242 (by kernel_rfl) rfl) fun x y u v w c fu fv hx hy e => by
   cases e;exact jA (Au x y u v fu fv w hx.ip hy.ip)
 ·exact oI (enters_of Tryz.func113 (by kernel_rfl) rfl) fun x y u v w c fu fv hx hy e => by
   cases e;exact jA (jF x y u v fu fv w hx.ip hy.ip)
 ·exact oI (enters_of Tryz.func114 (by kernel_rfl) rfl) fun x y u v w c fu fv hx hy e => by
   cases e;exact jA (hJ x y u v fu fv w hx.ip hy.ip)
 ·exact oI (enters_of Tryz.func322 (by kernel_rfl) rfl) fun x y u v w c fu fv hx hy e => by
   split at e
   ·cases e
   ·next hz=>
    cases e;have hv:=Lr hz;unfold Ans;refine(uo x y u v fu fv w hx.ip hy.ip).mono ?_;rintro e w' ⟨q,r,rfl,h1,h2,hb⟩;rw[ai hv]at h2;refine⟨_,rfl,fun A ρ=>?_,hb⟩;rw[ai hv];simp only[VR,VRl];exact⟨_,rfl,_,_,rfl,⟨q,rfl,h1⟩,_,_,rfl,⟨r,rfl,h2⟩,_,_,rfl,tD 0 A ρ,rfl⟩
 ·exact oI (enters_of Tryz.func159 (by kernel_rfl) rfl) fun x y u v w c fu fv hx hy e => by
   cases e;rw[Hy];exact As (Ak x y u v fu fv w hx.ip hy.ip)
 ·exact oI (enters_of Tryz.func256 (by kernel_rfl) rfl) fun x y u v w c fu fv hx hy e => by
   cases e;exact jA (JT x y u v fu fv w hx.ip hy.ip)
 ·intro args r e A ρ w vs hv;refine⟨enters_of Tryz.func115 ak rfl,?_⟩;unfold oOf at e;split at e
  ·next n=>
   split at e
   ·next hb=>
    cases e;rw[aV]at hb;simp only[VRl,VR]at hv;obtain⟨u,r',h1,⟨rfl,_⟩,h3⟩:=hv;subst h3;have:vs= #[.int .i64 n]:=by apply pC;rw[h1]
    rw[this];exact(jA (qm n aa w)).calls A ρ
   ·cases e
  ·cases e
 ·exact oJ (enters_of Tryz.func251 (by kernel_rfl) rfl) fun x z w c fz hx e => by
   split at e
   ·next hb=>
    cases e;rw[aV]at hb;have hI:I64 z:=by unfold I64;omega
    unfold Ans;refine(vQ x z fz w hx.ip).mono ?_;rintro e w' ⟨rfl,hb⟩;refine⟨_,rfl,fun A ρ=>?_,hb⟩;rw[show smv z=z from aj hI,show decide (I64 z)=true from aq hI];simp only[VR,VRl];exact⟨_,rfl,_,_,rfl,tD z A ρ,_,_,rfl,⟨rfl,rfl⟩,rfl⟩
   ·cases e
 ·exact oJ (enters_of Tryz.func151 (by kernel_rfl) rfl) fun x z w c fz hx e => by
   cases e;obtain⟨l,h1,rfl⟩:=hx.ip;have bl:=eE h1.nf fz;exact jA (oK x l aa w h1)
 ·exact oJ (enters_of Tryz.func338 (by kernel_rfl) rfl) fun x z w c fz hx e => by
   split at e
   ·next n=>
    generalize sqf 10000 n 0=r at e;unfold rt at e;split at e
    ·next h1=>
     split at e
     ·next h2=>
      cases e;have k1:=ct h1;rw[aV]at h2;unfold Ans;refine(Fw x _ fz (Int.natCast_nonneg n) w hx.ip).mono ?_;rintro e w' ⟨⟨y,s,rfl,hy,h3,h4⟩,hb⟩;have:s=r:=Eb h3 h4 k1 h2;subst this;refine⟨_,rfl,fun A ρ=>?_,hb⟩;simp only[VR,VRl];exact⟨_,rfl,_,_,rfl,⟨y,rfl,hy⟩,_,_,rfl,tD 0 A ρ,rfl⟩
     ·cases e
    ·cases e
   ·cases e
 ·exact oJ (enters_of Tryz.func231 (by kernel_rfl) rfl) fun x z w c fz hx e => by
   cases e;rw[Et];unfold Ans;refine(pM x z w hx).mono ?_;rintro e w' ⟨rfl,hb⟩;exact⟨_,rfl,fun A ρ=>IB _ A ρ,hb⟩
 ·exact oJ (enters_of Tryz.func233 (by kernel_rfl) rfl) fun x z w c fz hx e => by
   cases e;rw[Hy];exact As (vJ x z fz w hx.ip)
 ·exact oJ (enters_of Tryz.func234 (by kernel_rfl) rfl) fun x z w c fz hx e => by
   cases e;exact jA (rY x z fz w hx.ip)
 ·exact oJ (enters_of Tryz.func160 (by kernel_rfl) rfl) fun x z w c fz hx e => by
   cases e;exact jA (De x z fz w hx.ip)
 ·exact oI (enters_of Tryz.func250 (by kernel_rfl) rfl) fun x y u v w c fu fv hx hy e => by
   split at e
   ·cases e
   ·cases e;exact jA (lA x y u v fu fv w hx.ip hy.ip)
end CI
end
section
open Go.RowKit
namespace CI
section
variable {α : Type}
noncomputable def T.fL (t:T α):Nat->Option α:=
 T.rec (motive:=fun _=>Nat->Option α) (fun _=>none)
  (fun v _ _ gl gr k=>Nat.rec (motive:=fun _=>Option α) v
   (fun k _=>Nat.rec (motive:=fun _=>Option α) (gl (Nat.div k 2)) (fun _ _=>gr (Nat.div k 2)) (Nat.mod k 2)) k) t
theorem vw(t:T α)(k:Nat):t.fL k=t.get k:=by
 induction t generalizing k with
 |e=>rfl
 |n v l r ihl ihr=>
  cases k with
  |zero=>rfl
  |succ k=>
   show Nat.rec (motive:=fun _=>Option α) (l.fL (k/2)) (fun _ _=>r.fL (k/2)) (k%2)=_;rw[ihl,ihr]
   conv=>rhs;unfold T.get
   dsimp only;generalize k%2=m;cases m<;>rfl
noncomputable def T.mU (f:Nat):T α->Nat->Option α->T α:=
 Nat.rec (motive:=fun _=>T α->Nat->Option α->T α) (fun t _ _=>t)
  (fun _ ih t=>T.rec (motive:=fun _=>Nat->Option α->T α)
   (fun k x=>Nat.rec (motive:=fun _=>T α) (.n x .e .e)
    (fun k _=>Nat.rec (motive:=fun _=>T α) (.n none (ih .e (Nat.div k 2) x) .e) (fun _ _=>.n none .e (ih .e (Nat.div k 2) x)) (Nat.mod k 2)) k)
   (fun v l r _ _ k x=>Nat.rec (motive:=fun _=>T α) (.n x l r)
    (fun k _=>Nat.rec (motive:=fun _=>T α) (.n v (ih l (Nat.div k 2) x) r) (fun _ _=>.n v l (ih r (Nat.div k 2) x)) (Nat.mod k 2)) k) t) f
theorem lL(t:T α)(v:Option α)(r:T α):t.mkL v r= .n v t r:=by cases t<;>rfl
theorem lK(t:T α)(v:Option α)(l:T α):t.mkR v l= .n v l t:=by cases t<;>rfl
theorem qX(f:Nat)(t:T α)(k:Nat)(x:Option α):T.mU f t k x=T.put f t k x:=by
 induction f generalizing t k x with
 |zero=>rfl
 |succ f ih=>
  cases t with
  |e=>
   cases k with
   |zero=>rfl
   |succ k=>
    show Nat.rec (motive:=fun _=>T α) (.n none (T.mU f .e (k/2) x) .e) (fun _ _=>.n none .e (T.mU f .e (k/2) x)) (k%2)=_;rw[ih]
    conv=>rhs;unfold T.put
    simp only[lL,lK];generalize k%2=m;cases m<;>rfl
  |n v l r=>
   cases k with
   |zero=>rfl
   |succ k=>
    show Nat.rec (motive:=fun _=>T α) (.n v (T.mU f l (k/2) x) r) (fun _ _=>.n v l (T.mU f r (k/2) x)) (k%2)=_;rw[ih,ih]
    conv=>rhs;unfold T.put
    simp only[lL,lK];generalize k%2=m;cases m<;>rfl
noncomputable def evF (x:CO):Tm->C:=
 CO.rec (motive:=fun _=>Tm->C) (fun n tm=>Option.rec (motive:=fun _=>C) .any (fun y=>y) (T.fL tm n)) (fun x _=>x) x
theorem cB(x:CO)(tm:Tm):evF x tm=x.ev tm:=by
 cases x with
 |t n=>
  show Option.rec (motive:=fun _=>C) .any (fun y=>y) (T.fL tm n)=_;rw[vw];unfold CO.ev;dsimp only;cases tm.get n<;>rfl
 |c x=>rfl
noncomputable def H.fL (h:H) (k:Nat):Option B:=Bool.rec (motive:=fun _=>Option B) (h.t.fL k) none (bH k h.forb)
theorem oT(h:H)(k:Nat):h.fL k=h.get k:=by
 unfold H.fL H.get;rw[vw];cases bH k h.forb<;>rfl
noncomputable def H.pW (h:H) (k:Nat) (b:Option B):H:=⟨h.next,Bool.rec (motive:=fun _=>Nat) h.low k (Nat.blt k h.low),h.forb,T.mU 24 h.t k b⟩
theorem yH(h:H)(k:Nat)(b:Option B):h.pW k b=h.set k b:=by
 unfold H.pW H.set;rw[qX];cases Nat.blt k h.low<;>rfl
noncomputable def H.oM (h:H) (b:B):Option H:=Bool.rec (motive:=fun _=>Option H) none (some ⟨Nat.succ h.next,h.low,h.forb,T.mU 24 h.t h.next (some b)⟩) (Nat.blt h.next 1000000)
theorem sG(h:H)(b:B):h.oM b=h.new b:=by
 unfold H.oM H.new;rw[qX];cases Nat.blt h.next 1000000<;>rfl
noncomputable def wU (l:List C):Nat->Option (List C):=
 List.rec (motive:=fun _=>Nat->Option (List C)) (fun n=>Nat.rec (motive:=fun _=>Option (List C)) (some []) (fun _ _=>none) n)
  (fun c l ih n=>Nat.rec (motive:=fun _=>Option (List C)) (some (c::l))
   (fun o _=>Bool.rec (motive:=fun _=>Option (List C)) none (ih (Nat.sub (Nat.succ o) c.wid)) (Nat.ble c.wid (Nat.succ o))) n) l
theorem yS(l:List C)(n:Nat):wU l n=iJ l n:=by
 induction l generalizing n with
 |nil=>cases n<;>rfl
 |cons c l ih=>
  cases n with
  |zero=>rfl
  |succ o=>
   show Bool.rec (motive:=fun _=>Option (List C)) none (wU l (o+1-c.wid)) (Nat.ble c.wid (o+1))=_;rw[ih]
   conv=>rhs;unfold iJ
   cases Nat.ble c.wid (o+1)<;>rfl
noncomputable def wP (l:List C):Nat->Option (List C):=
 List.rec (motive:=fun _=>Nat->Option (List C)) (fun n=>Nat.rec (motive:=fun _=>Option (List C)) (some []) (fun _ _=>none) n)
  (fun c _ ih n=>Nat.rec (motive:=fun _=>Option (List C)) (some [])
   (fun o _=>Bool.rec (motive:=fun _=>Option (List C)) none
    (Option.rec (motive:=fun _=>Option (List C)) none (fun m=>some (c::m)) (ih (Nat.sub (Nat.succ o) c.wid))) (Nat.ble c.wid (Nat.succ o))) n) l
theorem xQ(l:List C)(n:Nat):wP l n=jn l n:=by
 induction l generalizing n with
 |nil=>cases n<;>rfl
 |cons c l ih=>
  cases n with
  |zero=>rfl
  |succ o=>
   show Bool.rec (motive:=fun _=>Option (List C)) none (Option.rec (motive:=fun _=>Option (List C)) none (fun m=>some (c::m)) (wP l (o+1-c.wid))) (Nat.ble c.wid (o+1))=_;rw[ih]
   conv=>rhs;unfold jn
   cases Nat.ble c.wid (o+1)
   ·rfl
   ·cases jn l (o+1-c.wid)<;>rfl
noncomputable def oU (l:List C) (off w:Nat):Option (List C):=Option.rec (motive:=fun _=>Option (List C)) none (fun l=>wP l w) (wU l off)
theorem sK(l:List C)(off w:Nat):oU l off w=gk l off w:=by
 unfold oU gk;rw[yS]
 cases iJ l off with
 |none=>rfl
 |some m=>exact xQ m w
noncomputable def iW (a b:List C):List C:=List.rec (motive:=fun _=>List C) b (fun c _ ih=>c::ih) a
theorem rG(a b:List C):iW a b=a++b:=by
 induction a with
 |nil=>rfl
 |cons c a ih=>
  show c::iW a b=_;rw[ih];rfl
noncomputable def qU (l:List C) (off w:Nat) (new:List C):Option (List C):=
 Option.rec (motive:=fun _=>Option (List C)) none
  (fun a=>Option.rec (motive:=fun _=>Option (List C)) none (fun b=>some (iW a (iW new b))) (wU l (Nat.add off w))) (wP l off)
theorem ye(l:List C)(off w:Nat)(new:List C):qU l off w new=lE l off w new:=by
 unfold qU lE;rw[xQ,yS]
 cases jn l off with
 |none=>rfl
 |some a=>
  show Option.rec (motive:=fun _=>Option (List C)) none (fun b=>some (iW a (iW new b))) (iJ l (off+w))=_;simp only[eS]
  cases iJ l (off+w)with
  |none=>rfl
  |some b=>
   show some (iW a (iW new b))=_;rw[rG,rG,bQ,fS]
noncomputable def zl (p q:Int):Int:=Int.rec (motive:=fun _=>Int->Int)
 (fun a q=>Int.rec (motive:=fun _=>Int) (fun b=>.ofNat (Nat.add a b)) (fun b=>Bool.rec (motive:=fun _=>Int) (.negSucc (Nat.sub b a)) (.ofNat (Nat.sub a (Nat.succ b))) (Nat.ble (Nat.succ b) a)) q)
 (fun a q=>Int.rec (motive:=fun _=>Int) (fun b=>Bool.rec (motive:=fun _=>Int) (.negSucc (Nat.sub a b)) (.ofNat (Nat.sub b (Nat.succ a))) (Nat.ble (Nat.succ a) b)) (fun b=>.negSucc (Nat.succ (Nat.add a b))) q) p q
theorem Av(p q:Int):zl p q=p+q:=by
 rcases p with a|a<;>rcases q with b|b
 ·rfl
 ·show Bool.rec (motive:=fun _=>Int) (.negSucc (b-a)) (.ofNat (a-(b+1))) (Nat.ble (b+1) a)=_;cases h:Nat.ble (b+1) a
  ·have h':¬b+1<=a:=fun e=>by rw[lu e]at h;cases h
   show Int.negSucc (b-a)=_;simp only[fF,fP];omega
  ·have h':=ct h;show Int.ofNat (a-(b+1))=_;simp only[fF,fP];omega
 ·show Bool.rec (motive:=fun _=>Int) (.negSucc (a-b)) (.ofNat (b-(a+1))) (Nat.ble (a+1) b)=_;cases h:Nat.ble (a+1) b
  ·have h':¬a+1<=b:=fun e=>by rw[lu e]at h;cases h
   show Int.negSucc (a-b)=_;simp only[fF,fP];omega
  ·have h':=ct h;show Int.ofNat (b-(a+1))=_;simp only[fF,fP];omega
 ·show Int.negSucc (a+b+1)=_;simp only[fF];omega
noncomputable def sy (p:Int):Int:=Int.rec (motive:=fun _=>Int) (fun a=>Nat.rec (motive:=fun _=>Int) (.ofNat 0) (fun n _=>.negSucc n) a) (fun a=>.ofNat (Nat.succ a)) p
theorem vj(p:Int):sy p= -p:=by rcases p with(_|a)|a<;>rfl
noncomputable def mulI (p q:Int):Int:=Int.rec (motive:=fun _=>Int->Int)
 (fun a q=>Int.rec (motive:=fun _=>Int) (fun b=>.ofNat (Nat.mul a b)) (fun b=>sy (.ofNat (Nat.mul a (Nat.succ b)))) q)
 (fun a q=>Int.rec (motive:=fun _=>Int) (fun b=>sy (.ofNat (Nat.mul (Nat.succ a) b))) (fun b=>.ofNat (Nat.mul (Nat.succ a) (Nat.succ b))) q) p q
theorem Js(p q:Int):mulI p q=p*q:=by
 rcases p with a|a<;>rcases q with b|b
 ·rfl
 ·show sy (.ofNat (a*(b+1)))=_;rw[vj];simp only[fF,fP,wI,Int.mul_neg];rfl
 ·show sy (.ofNat ((a+1)*b))=_;rw[vj];simp only[fF,fP,wI,kg];rfl
 ·show Int.ofNat ((a+1)*(b+1))=_;simp only[fF,fP,wI,Int.neg_mul_neg];rfl
noncomputable def ltI (p q:Int):Bool:=Int.rec (motive:=fun _=>Int->Bool)
 (fun a q=>Int.rec (motive:=fun _=>Bool) (fun b=>Nat.ble (Nat.succ a) b) (fun _=>false) q)
 (fun a q=>Int.rec (motive:=fun _=>Bool) (fun _=>true) (fun b=>Nat.ble (Nat.succ b) a) q) p q
theorem Am(a b:Nat):Nat.ble a b=decide (a<=b):=by
 cases h:Nat.ble a b
 ·exact(ao fun e=>by rw[lu e]at h;cases h).symm
 ·exact(aq (ct h)).symm
theorem ua(p q:Int):ltI p q=decide (p<q):=by
 rcases p with a|a<;>rcases q with b|b
 ·show Nat.ble (a+1) b=_;rw[Am,decide_eq_decide];simp only[fP];omega
 ·exact(ao Bl).symm
 ·exact(aq Bl).symm
 ·show Nat.ble (b+1) a=_;rw[Am,decide_eq_decide];simp only[fF];omega
noncomputable def eqI (p q:Int):Bool:=Int.rec (motive:=fun _=>Int->Bool)
 (fun a q=>Int.rec (motive:=fun _=>Bool) (fun b=>Nat.beq a b) (fun _=>false) q)
 (fun a q=>Int.rec (motive:=fun _=>Bool) (fun _=>false) (fun b=>Nat.beq a b) q) p q
theorem An(a b:Nat):Nat.beq a b=decide (a=b):=by
 cases h:Nat.beq a b
 ·exact(ao (pH h)).symm
 ·exact(aq (cn h)).symm
theorem um(p q:Int):eqI p q=decide (p=q):=by
 rcases p with a|a<;>rcases q with b|b
 ·show Nat.beq a b=_;rw[An,decide_eq_decide];simp only[fP];omega
 ·exact(ao Bl).symm
 ·exact(ao Bl).symm
 ·show Nat.beq a b=_;rw[An,decide_eq_decide];simp only[fF];omega
noncomputable def mV (b:Bool):Bool:=Bool.rec (motive:=fun _=>Bool) true false b
theorem vi(b:Bool):mV b= !b:=by cases b<;>rfl
noncomputable def wrF (k:IntKind) (z:Int):Int:=IntKind.rec (motive:=fun _=>Int->Int)
 (fun z=>IntKind.i8.wrap z) (fun z=>IntKind.i16.wrap z) (fun z=>IntKind.i32.wrap z)
 (fun z=>Int.rec (motive:=fun _=>Int) (fun n=>Bool.rec (motive:=fun _=>Int) (IntKind.i64.wrap (.ofNat n)) (.ofNat n) (Nat.ble n 9223372036854775807))
  (fun n=>Bool.rec (motive:=fun _=>Int) (IntKind.i64.wrap (.negSucc n)) (.negSucc n) (Nat.ble n 9223372036854775807)) z)
 (fun z=>IntKind.u8.wrap z) (fun z=>IntKind.u16.wrap z) (fun z=>IntKind.u32.wrap z) (fun z=>IntKind.u64.wrap z) k z
theorem wrap_small{z:Int}(h: -9223372036854775808<=z)(h':z<=9223372036854775807):IntKind.i64.wrap z=z:=by
 have e:IntKind.i64.wrap z=if(true&&decide (z%18446744073709551616>=(9223372036854775808:Int)))=true then z%18446744073709551616-18446744073709551616 else z%18446744073709551616:=rfl
 rw[e];simp only[fR,decide_eq_true_eq];split<;>omega
theorem pN(k:IntKind)(z:Int):wrF k z=k.wrap z:=by
 cases k
 case i64=>
  rcases z with n|n
  ·show Bool.rec (motive:=fun _=>Int) (IntKind.i64.wrap (.ofNat n)) (.ofNat n) (Nat.ble n 9223372036854775807)=_;cases h:Nat.ble n 9223372036854775807
   ·rfl
   ·have h':=ct h;exact(wrap_small (by simp only[fP];omega) (by simp only[fP];omega)).symm
  ·show Bool.rec (motive:=fun _=>Int) (IntKind.i64.wrap (.negSucc n)) (.negSucc n) (Nat.ble n 9223372036854775807)=_;cases h:Nat.ble n 9223372036854775807
   ·rfl
   ·have h':=ct h;exact(wrap_small (by simp only[fF];omega) (by simp only[fF];omega)).symm
 all_goals rfl
noncomputable def scOf {R:Type} (c:C) (d:R) (f:Value->R):R:=
 C.rec (motive_1:=fun _=>R) (motive_2:=fun _=>PUnit) d f (fun _=>d) (fun _ _ _ _ _=>d) (fun _ _=>d) (fun _ _ _=>d) (fun _ _=>d) (fun _ _=>d) (fun _=>d) d ⟨⟩ (fun _ _ _ _=>⟨⟩) c
noncomputable def qo {R:Type} (c:C) (d:R) (f:IntKind->Int->R):R:=
 scOf c d fun v=>match v with| .int k n=>f k n|_=>d
noncomputable def mO {R:Type} (c:C) (d:R) (f:Bool->R):R:=
 scOf c d fun v=>match v with| .bool b=>f b|_=>d
noncomputable def ikF (k k':IntKind):Bool:=Nat.beq k.ctorIdx k'.ctorIdx
theorem Lw(k k':IntKind):ikF k k'=ikB k k':=by cases k<;>cases k'<;>rfl
noncomputable def bz (op:BinOp):IntKind->Int->Int->Option C:=
 BinOp.rec (motive:=fun _=>IntKind->Int->Int->Option C)
  (fun k p q=>some (.sc (.int k (wrF k (zl p q)))))
  (fun k p q=>some (.sc (.int k (wrF k (zl p (sy q))))))
  (fun k p q=>some (.sc (.int k (wrF k (mulI p q)))))
  (fun k p q=>Bool.rec (motive:=fun _=>Option C) (some (.sc (.int k (wrF k (Int.tdiv p q))))) none (eqI q 0))
  (fun k p q=>Bool.rec (motive:=fun _=>Option C) (some (.sc (.int k (Int.tmod p q)))) none (eqI q 0))
  (fun _ _ _=>none) (fun _ _ _=>none) (fun _ _ _=>none)
  (fun _ _ _=>none) (fun _ _ _=>none) (fun _ _ _=>none)
  (fun _ p q=>some (.sc (.bool (eqI p q))))
  (fun _ p q=>some (.sc (.bool (mV (eqI p q)))))
  (fun _ p q=>some (.sc (.bool (ltI p q))))
  (fun _ p q=>some (.sc (.bool (mV (ltI q p)))))
  (fun _ p q=>some (.sc (.bool (ltI q p))))
  (fun _ p q=>some (.sc (.bool (mV (ltI p q))))) op
theorem bz_eq(op:BinOp)(k:IntKind)(p q:Int)(h:op≠ .shl/\op≠ .shr):bz op k p q=(binZ op k p q).map .sc:=by
 cases op
 case add=>show some (C.sc (.int k (wrF k (zl p q))))=_;rw[pN,Av];rfl
 case sub=>show some (C.sc (.int k (wrF k (zl p (sy q)))))=_;rw[pN,Av,vj];rfl
 case mul=>show some (C.sc (.int k (wrF k (mulI p q))))=_;rw[pN,Js];rfl
 case quo=>
  show Bool.rec (motive:=fun _=>Option C) (some (.sc (.int k (wrF k (Int.tdiv p q))))) none (eqI q 0)=_;rw[um,pN];rcases q with(_|q)|q<;>rfl
 case rem=>
  show Bool.rec (motive:=fun _=>Option C) (some (.sc (.int k (Int.tmod p q)))) none (eqI q 0)=_;rw[um];rcases q with(_|q)|q<;>rfl
 case eql=>show some (C.sc (.bool (eqI p q)))=_;rw[um];rfl
 case neq=>show some (C.sc (.bool (mV (eqI p q))))=_;rw[um,vi];rfl
 case lss=>show some (C.sc (.bool (ltI p q)))=_;rw[ua];rfl
 case leq=>
  show some (C.sc (.bool (mV (ltI q p))))=some (C.sc (.bool (decide (p<=q))));rw[ua,vi,<-decide_not,decide_eq_decide.mpr Int.not_lt]
 case gtr=>
  show some (C.sc (.bool (ltI q p)))=some (C.sc (.bool (decide (p>q))));rw[ua]
 case geq=>
  show some (C.sc (.bool (mV (ltI p q))))=some (C.sc (.bool (decide (p>=q))));rw[ua,vi,<-decide_not,decide_eq_decide.mpr Int.not_lt]
 case shl=>exact absurd rfl h.1
 case shr=>exact absurd rfl h.2
 all_goals rfl
noncomputable def isSh (op:BinOp):Bool:=BinOp.rec (motive:=fun _=>Bool) false false false false false false false false true true false false false false false false false op
noncomputable def Cv (op:BinOp) (a b:C):Option C:=
 Bool.rec (motive:=fun _=>Option C)
  (qo a none fun k p=>qo b none fun k' q=>Bool.rec (motive:=fun _=>Option C) none (bz op k p q) (ikF k k'))
  (bin op a b) (isSh op)
theorem rj{R:Type}(c:C)(d:R)(f:IntKind->Int->R):qo c d f=match c with| .sc (.int k n)=>f k n|_=>d:=by
 cases c with
 |sc v=>cases v<;>rfl
 |_=>rfl
theorem sR{R:Type}(c:C)(d:R)(f:Bool->R):mO c d f=match c with| .sc (.bool b)=>f b|_=>d:=by
 cases c with
 |sc v=>cases v<;>rfl
 |_=>rfl
theorem JR(op:BinOp):isSh op=false->op≠ .shl/\op≠ .shr:=by
 cases op<;>intro h<;>first|(exact⟨fun e=>BinOp.noConfusion e,fun e=>BinOp.noConfusion e⟩)|cases h
theorem J9(op:BinOp)(a b:C):Cv op a b=bin op a b:=by
 unfold Cv
 cases h:isSh op with
 |true=>rfl
 |false=>
  have h':=JR op h;show(qo a none fun k p=>qo b none fun k' q=>Bool.rec (motive:=fun _=>Option C) none (bz op k p q) (ikF k k'))=_;rw[rj]
  conv=>rhs;unfold bin
  cases a with
  |sc v=>
   cases v with
   |int k p=>
    dsimp only;rw[rj]
    cases b with
    |sc u=>
     cases u with
     |int k' q=>
      dsimp only;rw[bz_eq op k p q h',Lw];split
      ·exact absurd rfl h'.1
      ·exact absurd rfl h'.2
      ·cases ikB k k'<;>rfl
     |_=>rfl
    |_=>rfl
   |_=>rfl
  |_=>rfl
noncomputable def oN (c:C):Option Nat:=qo c none fun _ n=>Int.rec (motive:=fun _=>Option Nat) (fun n=>some n) (fun _=>none) n
theorem qY(c:C):oN c=eB c:=by
 unfold oN;rw[rj]
 cases c with
 |sc v=>cases v with
  |int k n=>cases n<;>rfl
  |_=>rfl
 |_=>rfl
noncomputable def ptF (c:C):Option (Nat×Nat):=
 C.rec (motive_1:=fun _=>Option (Nat×Nat)) (motive_2:=fun _=>PUnit) none (fun _=>none) (fun _=>none) (fun _ _ _ _ _=>none) (fun k o=>some (k,o)) (fun _ _ _=>none) (fun _ _=>none) (fun _ _=>none) (fun _=>none) none ⟨⟩ (fun _ _ _ _=>⟨⟩) c
noncomputable def agF (c:C):Option (List C):=
 C.rec (motive_1:=fun _=>Option (List C)) (motive_2:=fun _=>PUnit) none (fun _=>none) (fun _=>none) (fun _ _ _ _ _=>none) (fun _ _=>none) (fun _ _ _=>none) (fun l _=>some l) (fun _ _=>none) (fun _=>none) none ⟨⟩ (fun _ _ _ _=>⟨⟩) c
noncomputable def ui (c:C):Option (List C):=
 C.rec (motive_1:=fun _=>Option (List C)) (motive_2:=fun _=>PUnit) none (fun v=>C.flat (.sc v)) (fun z=>some [.nm z]) (fun k o n c x=>some [.sl k o n c x]) (fun k o=>some [.pt k o]) (fun f l _=>some [.fn f l]) (fun l _=>some l) (fun _ _=>none) (fun k=>some [.yl k]) none ⟨⟩ (fun _ _ _ _=>⟨⟩) c
theorem yM(c:C):ui c=c.flat:=by cases c<;>rfl
noncomputable def vo (l:List CO) (tm:Tm):List C:=List.rec (motive:=fun _=>List C) [] (fun x _ ih=>evF x tm::ih) l
theorem zY(l:List CO)(tm:Tm):vo l tm=l.map (·.ev tm):=by
 induction l with
 |nil=>rfl
 |cons x l ih=>
  show evF x tm::vo l tm=_;rw[ih,cB];rfl
noncomputable def nL (tm:Tm) (l:List (Nat×Nat×CO)):List (Nat×Nat×C):=
 List.rec (motive:=fun _=>List (Nat×Nat×C)) [] (fun x _ ih=>(x.1,x.2.1,evF x.2.2 tm)::ih) l
theorem vV(tm:Tm)(l:List (Nat×Nat×CO)):nL tm l=parts tm l:=by
 induction l with
 |nil=>rfl
 |cons x l ih=>
  show(x.1,x.2.1,evF x.2.2 tm)::nL tm l=_;rw[ih,cB];rfl
noncomputable def mp (o:Option C):Option (C×Option B):=Option.rec (motive:=fun _=>Option (C×Option B)) none (fun c=>some (c,none)) o
theorem Ca(o:Option C):mp o=o.map (·,none):=by cases o<;>rfl
noncomputable def zJ (row:Bool) (l:List C):Option C:=Bool.rec (motive:=fun _=>Option C) (dN false l) (dN true l) row
theorem BL(row:Bool)(l:List C):zJ row l=dN row l:=by cases row<;>rfl
noncomputable def qq (row:Bool) (l:List C) (off w:Nat):Option C:=Option.rec (motive:=fun _=>Option C) none (fun m=>zJ row m) (oU l off w)
theorem vv(row:Bool)(l:List C)(off w:Nat):qq row l off w=(gk l off w).bind (dN row):=by
 unfold qq;rw[sK]
 cases gk l off w with
 |none=>rfl
 |some m=>exact BL row m
noncomputable def slF (w:Nat) (a:C) (i:Nat):Option (C×Option B):=
 C.rec (motive_1:=fun _=>Nat->Nat->Option (C×Option B)) (motive_2:=fun _=>PUnit) (fun _ _=>none) (fun _ _ _=>none) (fun _ _ _=>none)
  (fun k off n _ _ w i=>Bool.rec (motive:=fun _=>Option (C×Option B)) none (some (.pt k (Nat.add off (Nat.mul i w)),none)) (Nat.ble (Nat.succ i) n))
  (fun _ _ _ _=>none) (fun _ _ _ _ _=>none) (fun _ _ _ _=>none) (fun _ _ _ _=>none) (fun _ _ _=>none) (fun _ _=>none) ⟨⟩ (fun _ _ _ _=>⟨⟩) a w i
theorem KI(w:Nat)(a:C)(i:Nat):slF w a i=match a with| .sl k off n _ _=>(match Nat.blt i n with|true=>some (.pt k (off+i*w),none)|false=>none)|_=>none:=by
 cases a with
 |sl k off n c x=>
  show Bool.rec (motive:=fun _=>Option (C×Option B)) none (some (.pt k (off+i*w),none)) (Nat.blt i n)=_;dsimp only;cases Nat.blt i n<;>rfl
 |_=>rfl
noncomputable def lenF (c:C):Option (C×Option B):=
 C.rec (motive_1:=fun _=>Option (C×Option B)) (motive_2:=fun _=>PUnit) none (fun v=>match v with| .slice none n _=>some (ofN n,none)|_=>none) (fun _=>none) (fun _ _ n _ _=>some (.sc (.int .i64 (.ofNat n)),none)) (fun _ _=>none) (fun _ _ _=>none) (fun _ _=>none) (fun _ _=>none) (fun _=>none) (some (ofN 0,none)) ⟨⟩ (fun _ _ _ _=>⟨⟩) c
theorem JE(c:C):lenF c=match c with
  | .sl _ _ n _ _=>some (ofN n,none)
  | .em=>some (ofN 0,none)
  | .sc (.slice none n _)=>some (ofN n,none)
  |_=>none:=by
 cases c with
 |sc v=>cases v with
  |slice a n k=>cases a<;>rfl
  |_=>rfl
 |_=>rfl
noncomputable def ncF (c:C):Option (C×Option B):=
 C.rec (motive_1:=fun _=>Option (C×Option B)) (motive_2:=fun _=>PUnit) none (fun _=>none) (fun _=>none) (fun _ _ _ _ _=>none) (fun k o=>some (.pt k o,none)) (fun f l _=>some (.fn f l,none)) (fun _ _=>none) (fun _ _=>none) (fun k=>some (.yl k,none)) none ⟨⟩ (fun _ _ _ _=>⟨⟩) c
noncomputable def nthF (l:List C):Nat->Option (C×Option B):=
 List.rec (motive:=fun _=>Nat->Option (C×Option B)) (fun _=>none) (fun c _ ih n=>Nat.rec (motive:=fun _=>Option (C×Option B)) (some (c,none)) (fun n _=>ih n) n) l
theorem Jk(l:List C)(n:Nat):nthF l n=l[n]?.map (·,none):=by
 induction l generalizing n with
 |nil=>rfl
 |cons c l ih=>
  cases n with
  |zero=>rfl
  |succ n=>
   show nthF l n=_;rw[ih];rfl
noncomputable def tpF (c:C):Nat->Option (C×Option B):=
 C.rec (motive_1:=fun _=>Nat->Option (C×Option B)) (motive_2:=fun _=>PUnit) (fun _=>none) (fun _ _=>none) (fun _ _=>none) (fun _ _ _ _ _ _=>none) (fun _ _ _=>none) (fun _ _ _ _=>none) (fun _ _ _=>none) (fun l _ n=>nthF l n) (fun _ _=>none) (fun _=>none) ⟨⟩ (fun _ _ _ _=>⟨⟩) c
noncomputable def xTF (x:X):Tm->Nat->Option (C×Option B):=
 X.rec (motive:=fun _=>Tm->Nat->Option (C×Option B))
  (fun x tm _=>some (evF x tm,none))
  (fun c a b tm _=>mO (evF c tm) none fun t=>Bool.rec (motive:=fun _=>Option (C×Option B)) (some (evF b tm,none)) (some (evF a tm,none)) t)
  (fun T z _ next=>some (.pt next 0,some (.cells T z)))
  (fun T x tm next=>Option.rec (motive:=fun _=>Option (C×Option B)) none (fun p=>some (.pt next 0,some (.cells T p))) (ui (evF x tm)))
  (fun z ps tm _=>Option.rec (motive:=fun _=>Option (C×Option B)) none (fun l=>some (.ag l,none)) (gD z (nL tm ps)))
  (fun T _ len z ps tm next=>Option.rec (motive:=fun _=>Option (C×Option B)) none (fun l=>some (.sl next 0 len len true,some (.cells T l))) (gD (eK z len) (nL tm ps)))
  (fun _ _ _ _ _=>none)
  (fun _ _ _ _ _=>none)
  (fun op x y tm _=>mp (Cv op (evF x tm) (evF y tm)))
  (fun ng x y tm _=>(Cx ng (evF x tm) (evF y tm)).map (·,none))
  (fun ng x y tm _=>(wQ ng (evF x tm) (evF y tm)).map (·,none))
  (fun op x tm _=>(un op (evF x tm)).map (·,none))
  (fun k x tm _=>qo (evF x tm) none fun _ n=>some (.sc (.int k (wrF k n)),none))
  (fun f cs tm _=>some (.fn f (vo cs tm),none))
  (fun T _ _ z l c tm next=>match oN (evF l tm),oN (evF c tm)with
   |some l,some c=>match Nat.ble l c,Nat.ble c 1000000 with
    |true,true=>some (.sl next 0 l c true,some (.cells T (eK z c)))
    |_,_=>none
   |_,_=>none)
  (fun w x lo hi mx tm _=>match evF x tm with
   | .sl k off n c e=>
    match dY tm 0 lo,dY tm n hi,dY tm c mx with
    |some l,some h,some m=>match Nat.ble m c,Nat.ble h m,Nat.ble l h with
     |true,true,true=>match wR w off l m (uf mx e)with
      |some o=>some (.sl k o (h-l) (m-l) (uf mx e),none)
      |none=>match Nat.beq l h with
       |true=>some (.em,none)
       |false=>none
     |_,_,_=>none
    |_,_,_=>none
   | .sc (.slice none 0 0)=>match dY tm 0 hi,dY tm 0 lo,dY tm 0 mx with
    |some 0,some 0,some 0=>some (.sc (.slice none 0 0),none)
    |_,_,_=>none
   |_=>none)
  (fun off x tm _=>Option.rec (motive:=fun _=>Option (C×Option B)) none (fun p=>some (.pt p.1 (Nat.add p.2 off),none)) (ptF (evF x tm)))
  (fun row off w x tm _=>Option.rec (motive:=fun _=>Option (C×Option B)) none (fun l=>mp (qq row l off w)) (agF (evF x tm)))
  (fun w len x i tm _=>Option.rec (motive:=fun _=>Option (C×Option B)) none (fun i=>Option.rec (motive:=fun _=>Option (C×Option B)) (slF w (evF x tm) i) (fun n=>Option.rec (motive:=fun _=>Option (C×Option B)) none (fun p=>Bool.rec (motive:=fun _=>Option (C×Option B)) none (some (.pt p.1 (Nat.add p.2 (Nat.mul i w)),none)) (Nat.ble (Nat.succ i) n)) (ptF (evF x tm))) len) (oN (evF i tm)))
  (fun row w len x i tm _=>Option.rec (motive:=fun _=>Option (C×Option B)) none (fun i=>Option.rec (motive:=fun _=>Option (C×Option B)) none (fun l=>Bool.rec (motive:=fun _=>Option (C×Option B)) none (mp (qq row l (Nat.mul i w) w)) (Nat.ble (Nat.succ i) len)) (agF (evF x tm))) (oN (evF i tm)))
  (fun x i tm _=>match oN (evF i tm),evF x tm with
   |some i, .sc (.string s)=>s[i]?.map fun b=>(.sc (.int .u8 b.toNat),none)
   |_,_=>none)
  (fun x i tm _=>tpF (evF x tm) i)
  (fun x tm _=>ncF (evF x tm))
  (fun str x tm _ => Bool.rec (motive := fun _ => Option (C × Option B)) (lenF (evF x tm)) (match evF x tm with
        | .sc (.string s)=>some (ofN s.size,none)
        |_=>none) str)
  (fun gt x y tm _=>match evF x tm,evF y tm with
   | .sc (.int k p), .sc (.int _ q)=>match gt with
    |true=>some (.sc (.int k (if q>p then q else p)),none)
    |false=>some (.sc (.int k (if q<p then q else p)),none)
   |_,_=>none)
  (fun _ _ _ _ _ _=>none)
  (fun _ _ _ _ _ _=>none)
  (fun x tm _=>match evF x tm with
   | .sl _ _ _ c true=>some (ofN c,none)
   | .sc (.slice none _ c)=>some (ofN c,none)
   |_=>none)
  (fun _ _ _ _ _=>none)
  (fun _ _=>none)
  (fun _ _ _ _=>none)
  x
theorem tQ(c:C):ptF c=match c with| .pt k o=>some (k,o)|_=>none:=by cases c<;>rfl
theorem EO(c:C):agF c=match c with| .ag l=>some l|_=>none:=by cases c<;>rfl
theorem K0(c:C):ncF c=match c with
 | .pt k o=>some (.pt k o,none)
 | .fn f c=>some (.fn f c,none)
 | .yl k=>some (.yl k,none)
 |_=>none:=by cases c<;>rfl
theorem Db(x:X)(tm:Tm)(next:Nat):xTF x tm next=xT x tm next:=by
 cases x
 case pick c a b=>
  show(mO (evF c tm) none fun t=>Bool.rec (motive:=fun _=>Option (C×Option B)) (some (evF b tm,none)) (some (evF a tm,none)) t)=_;simp only[cB,sR,xT]
  cases c.ev tm with
  |sc v=>cases v with
   |bool b=>cases b<;>rfl
   |_=>rfl
  |_=>rfl
 case box T x=>
  show Option.rec (motive:=fun _=>Option (C×Option B)) none (fun p=>some (.pt next 0,some (.cells T p))) (ui (evF x tm))=_;simp only[cB,yM,xT];cases(x.ev tm).flat<;>rfl
 case build z ps=>
  show Option.rec (motive:=fun _=>Option (C×Option B)) none (fun l=>some (.ag l,none)) (gD z (nL tm ps))=_;simp only[vV,xT];cases gD z (parts tm ps)<;>rfl
 case bsl T w len z ps=>
  show Option.rec (motive:=fun _=>Option (C×Option B)) none (fun l=>some (.sl next 0 len len true,some (.cells T l))) (gD (eK z len) (nL tm ps))=_;simp only[vV,xT];cases gD (eK z len) (parts tm ps)<;>rfl
 case bin op x y=>
  show mp (Cv op (evF x tm) (evF y tm))=_;simp only[cB,J9,Ca,xT]
 case mkf f cs=>
  show some (C.fn f (vo cs tm),none)=_;simp only[zY,xT]
 case conv k x=>
  show(qo (evF x tm) none fun _ n=>some (C.sc (.int k (wrF k n)),none))=(_:Option (C×Option B));simp only[cB,rj,pN,xT];rfl
 case fa off x=>
  show Option.rec (motive:=fun _=>Option (C×Option B)) none (fun p=>some (.pt p.1 (Nat.add p.2 off),none)) (ptF (evF x tm))=_;simp only[cB,tQ,xT];cases x.ev tm<;>rfl
 case fd row off w x=>
  show Option.rec (motive:=fun _=>Option (C×Option B)) none (fun l=>mp (qq row l off w)) (agF (evF x tm))=_;simp only[cB,EO,vv,Ca,xT];cases x.ev tm<;>rfl
 case ia w len x i=>
  show Option.rec (motive:=fun _=>Option (C×Option B)) none (fun i=>Option.rec (motive:=fun _=>Option (C×Option B)) (slF w (evF x tm) i) (fun n=>Option.rec (motive:=fun _=>Option (C×Option B)) none (fun p=>Bool.rec (motive:=fun _=>Option (C×Option B)) none (some (.pt p.1 (p.2+i*w),none)) (Nat.blt i n)) (ptF (evF x tm))) len) (oN (evF i tm))=_;simp only[cB,qY,KI,tQ,xT]
  cases eB (i.ev tm)with
  |none=>rfl
  |some i=>
   cases len with
   |none=>cases x.ev tm<;>rfl
   |some n=>
    cases x.ev tm with
    |pt k o=>
     show Bool.rec (motive:=fun _=>Option (C×Option B)) none (some (.pt k (o+i*w),none)) (Nat.blt i n)=_;dsimp only;cases Nat.blt i n<;>rfl
    |_=>rfl
 case ix row w len x i=>
  show Option.rec (motive:=fun _=>Option (C×Option B)) none (fun i=>Option.rec (motive:=fun _=>Option (C×Option B)) none (fun l=>Bool.rec (motive:=fun _=>Option (C×Option B)) none (mp (qq row l (i*w) w)) (Nat.blt i len)) (agF (evF x tm))) (oN (evF i tm))=_;simp only[cB,qY,EO,vv,Ca,xT]
  cases eB (i.ev tm)with
  |none=>rfl
  |some i=>
   cases x.ev tm with
   |ag l=>
    show Bool.rec (motive:=fun _=>Option (C×Option B)) none (((gk l (i*w) w).bind (dN row)).map (·,none)) (Nat.blt i len)=_;dsimp only;cases Nat.blt i len<;>rfl
   |_=>rfl
 case nc x=>
  show ncF (evF x tm)=_;simp only[cB,K0,xT];try rfl
 case ext x i=>
  show tpF (evF x tm) i=_;simp only[cB,xT]
  cases x.ev tm with
  |tp l=>exact Jk l i
  |_=>rfl
 case len str x=>
  show Bool.rec (motive := fun _ => Option (C × Option B)) (lenF (evF x tm)) (match evF x tm with
      | .sc (.string s)=>some (ofN s.size,none)
      |_=>none) str=_
  simp only[cB,JE,xT];cases str<;>rfl
 case mv x=>
  show some (evF x tm,none)=_;rw[cB];rfl
 all_goals first
  |rfl
  |(unfold xTF;dsimp only;simp only[cB,qY,xT];done)
  |(unfold xTF;dsimp only;simp only[cB,qY,xT];rfl)
noncomputable def pg {R:Type} (b:Option B) (d:R) (f:Nat->List C->R):R:=
 Option.rec (motive:=fun _=>R) d (fun b=>B.rec (motive:=fun _=>R) f (fun _ _ _ _ _ _ _=>d) (fun _=>d) b) b
theorem rB{R:Type}(b:Option B)(d:R)(f:Nat->List C->R):pg b d f=match b with|some (.cells T l)=>f T l|_=>d:=by
 cases b with
 |none=>rfl
 |some b=>cases b<;>rfl
noncomputable def rh (row:Bool) (w:Nat) (a:C) (h:H):Option C:=
 Option.rec (motive:=fun _=>Option C) none (fun p=>pg (h.fL p.1) none fun _ l=>qq row l p.2 w) (ptF a)
theorem yB(row:Bool)(w:Nat)(a:C)(h:H):rh row w a h=kM row w a h:=by
 unfold rh kM;rw[tQ]
 cases a with
 |pt k off=>
  show pg (h.fL k) none (fun _ l=>qq row l off w)=_;rw[rB,oT];simp only[vv];rfl
 |_=>rfl
noncomputable def tH (w:Nat) (a v:C) (h:H):Option H:=
 Option.rec (motive:=fun _=>Option H) none (fun p=>pg (h.fL p.1) none fun T l=>
  Option.rec (motive:=fun _=>Option H) none (fun q=>Bool.rec (motive:=fun _=>Option H) none
   (Option.rec (motive:=fun _=>Option H) none (fun l'=>some (h.pW p.1 (some (.cells T l')))) (qU l p.2 w q)) (Nat.beq (pO q) w)) (ui v)) (ptF a)
theorem Dn(w:Nat)(a v:C)(h:H):tH w a v h=kj w a v h:=by
 unfold tH kj;rw[tQ]
 cases a with
 |pt k off=>
  show(pg (h.fL k) none fun T l=>
   Option.rec (motive:=fun _=>Option H) none (fun q=>Bool.rec (motive:=fun _=>Option H) none
    (Option.rec (motive:=fun _=>Option H) none (fun l'=>some (h.pW k (some (.cells T l')))) (qU l off w q)) (Nat.beq (pO q) w)) (ui v))=_
  rw[rB,oT,yM];simp only[ye,yH]
  cases h.get k with
  |none=>rfl
  |some b=>
   cases b with
   |cells T l=>
    dsimp only
    cases v.flat with
    |none=>rfl
    |some q=>
     simp only[eS]
     cases Nat.beq (pO q) w with
     |false=>rfl
     |true=>cases lE l off w q<;>rfl
   |_=>rfl
 |_=>rfl
noncomputable def slWF (w:Nat) (a:C) (h:H):Option (List C×Nat):=
 C.rec (motive_1:=fun _=>Nat->H->Option (List C×Nat)) (motive_2:=fun _=>PUnit) (fun _ _=>none) (fun v w h=>slW w (.sc v) h) (fun _ _ _=>none)
  (fun k off n _ _ w h=>pg (h.fL k) none fun _ l=>Option.rec (motive:=fun _=>Option (List C×Nat)) none (fun m=>some (m,n)) (oU l off (Nat.mul n w)))
  (fun _ _ _ _=>none) (fun _ _ _ _ _=>none) (fun _ _ _ _=>none) (fun _ _ _ _=>none) (fun _ _ _=>none) (fun _ _=>some ([],0)) ⟨⟩ (fun _ _ _ _=>⟨⟩) a w h
theorem IT(w:Nat)(a:C)(h:H):slWF w a h=slW w a h:=by
 cases a with
 |sl k off n c x=>
  show(pg (h.fL k) none fun _ l=>Option.rec (motive:=fun _=>Option (List C×Nat)) none (fun m=>some (m,n)) (oU l off (n*w)))=_;unfold slW;rw[rB,oT];simp only[sK]
  cases h.get k with
  |none=>rfl
  |some b=>
   cases b with
   |cells T l=>
    dsimp only;cases gk l off (n*w)<;>rfl
   |_=>rfl
 |_=>rfl
noncomputable def CH (T w:Nat) (a:C) (new:List C) (m:Nat) (h:H):Option (C×H):=
 Nat.rec (motive:=fun _=>Option (C×H)) (mr T w a new 0 h) (fun _ _=>
  C.rec (motive_1:=fun _=>Option (C×H)) (motive_2:=fun _=>PUnit) none
   (fun v=>mr T w (.sc v) new m h) (fun _=>none)
   (fun k off n c e=>pg (h.fL k) none fun T' l=>Bool.rec (motive:=fun _=>Option (C×H)) none
    (Bool.rec (motive:=fun _=>Option (C×H))
     (Bool.rec (motive:=fun _=>Option (C×H)) none
      (Option.rec (motive:=fun _=>Option (C×H)) none (fun old=>Bool.rec (motive:=fun _=>Option (C×H))
       (Nat.rec (motive:=fun _=>Option (C×H)) (Option.rec (motive:=fun _=>Option (C×H)) none (fun h'=>some (.sl h.next 0 (Nat.add n m) (Nat.add n m) false,h')) ((h.pW k none).oM (.cells T' (iW old new)))) (fun _ _=>none) off)
       (Option.rec (motive:=fun _=>Option (C×H)) none (fun h'=>some (.sl h.next 0 (Nat.add n m) (Nat.add n m) false,h')) (h.oM (.cells T' (iW old new)))) e) (oU l off (Nat.mul n w)))
      (Nat.ble (Nat.add n m) 1000000))
     (Option.rec (motive:=fun _=>Option (C×H)) none (fun l'=>some (.sl k off (Nat.add n m) c e,h.pW k (some (.cells T' l')))) (qU l (Nat.add off (Nat.mul n w)) (Nat.mul m w) new))
     (Nat.ble (Nat.add n m) c)) (Nat.beq T' T))
   (fun _ _=>none) (fun _ _ _=>none) (fun _ _=>none) (fun _ _=>none) (fun _=>none) none ⟨⟩ (fun _ _ _ _=>⟨⟩) a) m
theorem GO(T w:Nat)(a:C)(new:List C)(m:Nat)(h:H):CH T w a new m h=mr T w a new m h:=by
 cases m with
 |zero=>rfl
 |succ m=>
  cases a with
  |sl k off n c e=>
   show(pg (h.fL k) none fun T' l=>Bool.rec (motive:=fun _=>Option (C×H)) none
    (Bool.rec (motive:=fun _=>Option (C×H))
     (Bool.rec (motive:=fun _=>Option (C×H)) none
      (Option.rec (motive:=fun _=>Option (C×H)) none (fun old=>Bool.rec (motive:=fun _=>Option (C×H))
       (Nat.rec (motive:=fun _=>Option (C×H)) (Option.rec (motive:=fun _=>Option (C×H)) none (fun h'=>some (.sl h.next 0 (n+(m+1)) (n+(m+1)) false,h')) ((h.pW k none).oM (.cells T' (iW old new)))) (fun _ _=>none) off)
       (Option.rec (motive:=fun _=>Option (C×H)) none (fun h'=>some (.sl h.next 0 (n+(m+1)) (n+(m+1)) false,h')) (h.oM (.cells T' (iW old new)))) e) (oU l off (n*w)))
      (Nat.ble (n+(m+1)) 1000000))
     (Option.rec (motive:=fun _=>Option (C×H)) none (fun l'=>some (.sl k off (n+(m+1)) c e,h.pW k (some (.cells T' l')))) (qU l (off+n*w) ((m+1)*w) new))
     (Nat.ble (n+(m+1)) c)) (Nat.beq T' T))=_
   rw[rB,oT];simp only[ye,yH,sG,sK,rG];unfold mr;dsimp only
   cases h.get k with
   |none=>rfl
   |some b=>
    cases b with
    |cells T' l=>
     dsimp only
     cases Nat.beq T' T with
     |false=>rfl
     |true=>
      dsimp only
      cases Nat.ble (n+(m+1)) c with
      |true=>cases lE l (off+n*w) ((m+1)*w) new<;>rfl
      |false=>
       dsimp only
       cases Nat.ble (n+(m+1)) 1000000 with
       |false=>rfl
       |true=>
        dsimp only
        cases gk l off (n*w)with
        |none=>rfl
        |some old=>
         cases e with
         |true=>
          simp only[eS];cases h.new (.cells T' (old++new))<;>rfl
         |false=>
          simp only[eS]
          cases off with
          |zero=>
           cases(h.set k none).new (.cells T' (old++new))<;>rfl
          |succ off=>rfl
    |_=>rfl
  |_=>rfl
noncomputable def xRF (x:X):Rec->Tm->H->Option (C×H):=
 X.rec (motive:=fun _=>Rec->Tm->H->Option (C×H))
  (fun _ _ _ _=>none) (fun _ _ _ _ _ _=>none) (fun _ _ _ _ _=>none) (fun _ _ _ _ _=>none) (fun _ _ _ _ _=>none) (fun _ _ _ _ _ _ _ _=>none)
  (fun row w a _ tm h=>Option.rec (motive:=fun _=>Option (C×H)) none (fun c=>some (c,h)) (rh row w (evF a tm) h))
  (fun w a v _ tm h=>Option.rec (motive:=fun _=>Option (C×H)) none (fun h'=>some (.any,h')) (tH w (evF a tm) (evF v tm) h))
  (fun _ _ _ _ _ _=>none) (fun _ _ _ _ _ _=>none) (fun _ _ _ _ _ _=>none) (fun _ _ _ _ _=>none) (fun _ _ _ _ _=>none) (fun _ _ _ _ _=>none)
  (fun _ _ _ _ _ _ _ _ _=>none) (fun _ _ _ _ _ _ _ _=>none) (fun _ _ _ _ _=>none) (fun _ _ _ _ _ _ _=>none) (fun _ _ _ _ _ _ _=>none) (fun _ _ _ _ _ _ _ _=>none)
  (fun _ _ _ _ _=>none) (fun _ _ _ _ _=>none) (fun _ _ _ _=>none) (fun _ _ _ _ _=>none) (fun _ _ _ _ _ _=>none)
  (fun T w a b _ tm h=>Option.rec (motive:=fun _=>Option (C×H)) none (fun p=>CH T w (evF a tm) p.1 p.2 h) (slWF w (evF b tm) h))
  (fun T z a n rec tm h=>xR rec (.appz T z a n) tm h)
  (fun _ _ _ _=>none)
  (fun w z a rec tm h=>xR rec (.clr w z a) tm h)
  (fun _ _ _=>none)
  (fun f args rec tm h=>Option.rec (motive:=fun _=>Option (C×H)) none (fun o=>Out.rec (motive:=fun _=>Option (C×H)) (fun _ _ _ _=>none) (fun c h=>some (c,h)) o) (rec (.call (evF f tm) (vo args tm) h)))
  x
theorem Dd(x:X)(rec:Rec)(tm:Tm)(h:H):xRF x rec tm h=xR rec x tm h:=by
 cases x
 case load row w a=>
  show Option.rec (motive:=fun _=>Option (C×H)) none (fun c=>some (c,h)) (rh row w (evF a tm) h)=_;rw[cB,yB];unfold xR;dsimp only;cases kM row w (a.ev tm) h<;>rfl
 case store w a v=>
  show Option.rec (motive:=fun _=>Option (C×H)) none (fun h'=>some (.any,h')) (tH w (evF a tm) (evF v tm) h)=_;rw[cB,cB,Dn];unfold xR;dsimp only;cases kj w (a.ev tm) (v.ev tm) h<;>rfl
 case app T w a b=>
  show Option.rec (motive:=fun _=>Option (C×H)) none (fun p=>CH T w (evF a tm) p.1 p.2 h) (slWF w (evF b tm) h)=_;rw[cB,cB,IT];unfold xR xL;dsimp only
  cases slW w (b.ev tm) h with
  |none=>rfl
  |some p=>exact GO ..
 case cal f args=>
  show Option.rec (motive:=fun _=>Option (C×H)) none (fun o=>Out.rec (motive:=fun _=>Option (C×H)) (fun _ _ _ _=>none) (fun c h=>some (c,h)) o) (rec (.call (evF f tm) (vo args tm) h))=_;rw[cB,zY];unfold xR;dsimp only
  cases rec (.call (f.ev tm) (args.map (·.ev tm)) h)with
  |none=>rfl
  |some o=>cases o<;>rfl
 all_goals rfl
noncomputable def gZ (tm:Tm) (dst:Option Nat) (c:C):Tm:=Option.rec (motive:=fun _=>Tm) tm (fun t=>T.mU 24 tm t (some c)) dst
theorem ym(tm:Tm)(dst:Option Nat)(c:C):gZ tm dst c=gj tm dst c:=by
 cases dst with
 |none=>rfl
 |some t=>exact qX 24 tm t (some c)
noncomputable def qP (o:RO) (tm:Tm):Option Bool:=
 Option.rec (motive:=fun _=>Option Bool) (some true)
  (fun p=>Option.rec (motive:=fun _=>Option Bool) none (fun c=>mO c none fun b=>some (Bool.rec (motive:=fun _=>Bool) (mV b) b p.2)) (tm.fL p.1)) o.g
theorem xO(o:RO)(tm:Tm):qP o tm=eW o tm:=by
 unfold qP eW
 cases o.g with
 |none=>rfl
 |some p=>
  obtain⟨t,b⟩:=p;show Option.rec (motive:=fun _=>Option Bool) none (fun c=>mO c none fun b'=>some (Bool.rec (motive:=fun _=>Bool) (mV b') b' b)) (tm.fL t)=_;rw[vw];dsimp only
  cases tm.get t with
  |none=>rfl
  |some c=>
   show(mO c none fun b'=>some (Bool.rec (motive:=fun _=>Bool) (mV b') b' b))=_;rw[sR]
   cases c with
   |sc v=>
    cases v with
    |bool b'=>cases b<;>cases b'<;>rfl
    |_=>rfl
   |_=>rfl
noncomputable def CJ (h:H) (b:Option B):Option H:=Option.rec (motive:=fun _=>Option H) (some h) (fun b=>h.oM b) b
theorem GQ(h:H)(b:Option B):CJ h b=h.iq b:=by
 cases b with
 |none=>rfl
 |some b=>exact sG h b
noncomputable def xAF (x:X) (rec:Rec) (tm:Tm) (h:H):Option (C×H):=
 Bool.rec (motive:=fun _=>Option (C×H)) (xRF x rec tm h)
  (Option.rec (motive:=fun _=>Option (C×H)) none (fun p=>Option.rec (motive:=fun _=>Option (C×H)) none (fun h'=>some (p.1,h')) (CJ h p.2)) (xTF x tm h.next)) x.isT
theorem Kw(x:X)(rec:Rec)(tm:Tm)(h:H):xAF x rec tm h=rX rec x tm h:=by
 unfold xAF rX;rw[Dd,Db]
 cases x.isT with
 |false=>rfl
 |true=>
  dsimp only
  cases xT x tm h.next with
  |none=>rfl
  |some p=>
   obtain⟨c,b⟩:=p;show Option.rec (motive:=fun _=>Option (C×H)) none (fun h'=>some (c,h')) (CJ h b)=_;rw[GQ];simp only[eS];cases h.iq b<;>rfl
noncomputable def tP (l:List RO):Rec->Tm->H->Option (Tm×H):=
 List.rec (motive:=fun _=>Rec->Tm->H->Option (Tm×H)) (fun _ tm h=>some (tm,h))
  (fun o _ ih rec tm h=>Option.rec (motive:=fun _=>Option (Tm×H)) none (fun b=>Bool.rec (motive:=fun _=>Option (Tm×H))
   (ih rec (gZ tm o.dst .any) h)
   (Option.rec (motive:=fun _=>Option (Tm×H)) none (fun p=>ih rec (gZ tm o.dst p.1) p.2) (xAF o.x rec tm h)) b) (qP o tm)) l
theorem Fy(l:List RO)(rec:Rec)(tm:Tm)(h:H):tP l rec tm h=kB rec l tm h:=by
 induction l generalizing tm h with
 |nil=>rfl
 |cons o l ih=>
  show Option.rec (motive:=fun _=>Option (Tm×H)) none (fun b=>Bool.rec (motive:=fun _=>Option (Tm×H))
   (tP l rec (gZ tm o.dst .any) h)
   (Option.rec (motive:=fun _=>Option (Tm×H)) none (fun p=>tP l rec (gZ tm o.dst p.1) p.2) (xAF o.x rec tm h)) b) (qP o tm)=_
  simp only[ih,xO,Kw,ym]
  conv=>rhs;unfold kB
  cases eW o tm with
  |none=>rfl
  |some b=>
   cases b with
   |false=>rfl
   |true=>
    dsimp only;cases rX rec o.x tm h<;>rfl
noncomputable def vE (c:C):List Nat:=
 C.rec (motive_1:=fun _=>List Nat) (motive_2:=fun _=>PUnit) [] (fun _=>[]) (fun _=>[]) (fun k _ _ _ _=>[k]) (fun k _=>[k]) (fun _ _ _=>[]) (fun _ _=>[]) (fun _ _=>[]) (fun _=>[]) [] ⟨⟩ (fun _ _ _ _=>⟨⟩) c
theorem J8(c:C):vE c=rE c:=by cases c<;>rfl
noncomputable def pL (x:X) (tm:Tm):Ft:=
 match x with
 | .load _ _ a=>some (vE (evF a tm))
 | .store _ a _=>some (vE (evF a tm))
 | .app _ _ a b=>some (vE (evF a tm)++vE (evF b tm))
 | .clr _ _ a=>some (vE (evF a tm))
 |_=>none
theorem Iv(x:X)(tm:Tm):pL x tm=xFt x tm:=by
 cases x;all_goals first
  |rfl
  |(unfold pL xFt;simp only[J8,cB])
noncomputable def oG (l:List RO):Rec->Nat->List (Nat×Nat×Nat)->List (Nat×Bool×Ft)->Tm->H->Option (Tm×H):=
 List.rec (motive:=fun _=>Rec->Nat->List (Nat×Nat×Nat)->List (Nat×Bool×Ft)->Tm->H->Option (Tm×H)) (fun _ _ _ _ tm h=>some (tm,h))
  (fun o _ ih rec j iv rw tm h=>Option.rec (motive:=fun _=>Option (Tm×H)) none (fun b=>Bool.rec (motive:=fun _=>Option (Tm×H))
   (ih rec (Nat.succ j) iv rw (gZ tm o.dst .any) h)
   (Bool.rec (motive:=fun _=>Option (Tm×H))
    (Option.rec (motive := fun _ => Option (Tm × H)) none (fun p => Bool.rec (motive := fun _ => Option (Tm × H))
        (ih rec (Nat.succ j) (match Nat.blt h.next p.2.next with|true=>(j,h.next,p.2.next)::iv|false=>iv) ((j,Nat.blt p.2.low h.next,pL o.x tm)::rw) (gZ tm o.dst p.1)
         ⟨p.2.next,(match Nat.blt p.2.low h.low with|true=>p.2.low|false=>h.low),h.forb,p.2.t⟩) none (kf o.pre (Nat.blt p.2.low h.next) (pL o.x tm) rw))
     (xRF o.x rec tm ⟨h.next,h.next,lI h.next (pL o.x tm) (fM o.pre iv h.forb),h.t⟩))
    (Option.rec (motive := fun _ => Option (Tm × H)) none (fun p => Option.rec (motive := fun _ => Option (Tm × H)) (ih rec (Nat.succ j) iv rw (gZ tm o.dst p.1) h)
        (fun b=>Option.rec (motive:=fun _=>Option (Tm×H)) none (fun h'=>ih rec (Nat.succ j) ((j,h.next,h'.next)::iv) rw (gZ tm o.dst p.1) h') (h.oM b)) p.2)
     (xTF o.x tm h.next)) o.x.isT) b) (qP o tm)) l
theorem Fz(l:List RO)(rec:Rec)(j:Nat)(iv:List (Nat×Nat×Nat))(rw:List (Nat×Bool×Ft))(tm:Tm)(h:H):oG l rec j iv rw tm h=fi rec l j iv rw tm h:=by
 induction l generalizing j iv rw tm h with
 |nil=>rfl
 |cons o l ih=>
  show Option.rec (motive:=fun _=>Option (Tm×H)) none (fun b=>Bool.rec (motive:=fun _=>Option (Tm×H))
   (oG l rec (j+1) iv rw (gZ tm o.dst .any) h)
   (Bool.rec (motive:=fun _=>Option (Tm×H))
    (Option.rec (motive := fun _ => Option (Tm × H)) none (fun p => Bool.rec (motive := fun _ => Option (Tm × H))
        (oG l rec (j+1) (match Nat.blt h.next p.2.next with|true=>(j,h.next,p.2.next)::iv|false=>iv) ((j,Nat.blt p.2.low h.next,pL o.x tm)::rw) (gZ tm o.dst p.1)
         ⟨p.2.next,(match Nat.blt p.2.low h.low with|true=>p.2.low|false=>h.low),h.forb,p.2.t⟩) none (kf o.pre (Nat.blt p.2.low h.next) (pL o.x tm) rw))
     (xRF o.x rec tm ⟨h.next,h.next,lI h.next (pL o.x tm) (fM o.pre iv h.forb),h.t⟩))
    (Option.rec (motive := fun _ => Option (Tm × H)) none (fun p => Option.rec (motive := fun _ => Option (Tm × H)) (oG l rec (j + 1) iv rw (gZ tm o.dst p.1) h)
        (fun b=>Option.rec (motive:=fun _=>Option (Tm×H)) none (fun h'=>oG l rec (j+1) ((j,h.next,h'.next)::iv) rw (gZ tm o.dst p.1) h') (h.oM b)) p.2)
     (xTF o.x tm h.next)) o.x.isT) b) (qP o tm)=_
  simp only[ih,xO,Dd,Db,Iv,ym,sG]
  conv=>rhs;unfold fi
  cases eW o tm with
  |none=>rfl
  |some b=>
   cases b with
   |false=>rfl
   |true=>
    dsimp only
    cases o.x.isT with
    |true=>
     dsimp only
     cases xT o.x tm h.next with
     |none=>rfl
     |some p=>
      obtain⟨c,b⟩:=p
      cases b with
      |none=>rfl
      |some b=>
       dsimp only;cases h.new b<;>rfl
    |false=>
     dsimp only
     cases xR rec o.x tm ⟨h.next,h.next,lI h.next (xFt o.x tm) (fM o.pre iv h.forb),h.t⟩with
     |none=>rfl
     |some p=>
      obtain⟨c,h'⟩:=p;dsimp only;cases kf o.pre (Nat.blt h'.low h.next) (xFt o.x tm) rw<;>rfl
noncomputable def yj (l:List RV):Tm->H->Option (List C):=
 List.rec (motive:=fun _=>Tm->H->Option (List C)) (fun _ _=>some [])
  (fun r _ ih tm h=>RV.rec (motive:=fun _=>Option (List C))
   (fun t=>Option.rec (motive:=fun _=>Option (List C)) none (fun m=>some (evF (.t t) tm::m)) (ih tm h))
   (fun t row w=>Option.rec (motive:=fun _=>Option (List C)) none (fun c=>Option.rec (motive:=fun _=>Option (List C)) none (fun m=>some (c::m)) (ih tm h)) (rh row w (evF (.t t) tm) h)) r) l
theorem zR(l:List RV)(tm:Tm)(h:H):yj l tm h=results tm h l:=by
 induction l with
 |nil=>rfl
 |cons r l ih=>
  cases r with
  |tmp t=>
   show Option.rec (motive:=fun _=>Option (List C)) none (fun m=>some (evF (.t t) tm::m)) (yj l tm h)=_;rw[ih,cB]
   conv=>rhs;unfold results
   cases results tm h l<;>rfl
  |cell t row w=>
   show Option.rec (motive:=fun _=>Option (List C)) none (fun c=>Option.rec (motive:=fun _=>Option (List C)) none (fun m=>some (c::m)) (yj l tm h)) (rh row w (evF (.t t) tm) h)=_;rw[ih,cB,yB]
   conv=>rhs;unfold results
   cases kM row w (CO.ev tm (CO.t t)) h with
   |none=>rfl
   |some c=>
    simp only[eS];cases results tm h l<;>rfl
noncomputable def lenL (l:List C):Nat:=List.rec (motive:=fun _=>Nat) 0 (fun _ _ n=>Nat.succ n) l
theorem JD(l:List C):lenL l=l.length:=by
 induction l with
 |nil=>rfl
 |cons c l ih=>
  show Nat.succ (lenL l)=_;rw[ih];rfl
noncomputable def BQ (f:Nat) (l:List C):Nat->Tm->Tm:=
 List.rec (motive:=fun _=>Nat->Tm->Tm) (fun _ tm=>tm) (fun c _ ih k tm=>ih (Nat.succ k) (T.mU f tm k (some c))) l
theorem Fu(f:Nat)(l:List C)(k:Nat)(tm:Tm):BQ f l k tm=setArgs f k l tm:=by
 induction l generalizing k tm with
 |nil=>rfl
 |cons c l ih=>
  show BQ f l (k+1) (T.mU f tm k (some c))=_;rw[ih,qX];rfl
noncomputable def codeF (c:CC):Env->Rec->Tm->List Nat->Option Nat->H->Option Out:=
 CC.rec (motive:=fun _=>Env->Rec->Tm->List Nat->Option Nat->H->Option Out)
  (fun _ _ tm ds _ h=>some (.code .norm tm ds h))
  (fun _ _ tm ds _ h=>some (.code .ret tm ds h))
  (fun id _ _ tm ds _ h=>some (.code (.exit id) tm ds h))
  (fun a b _ _ _ rec tm ds rd h=>Option.rec (motive:=fun _=>Option Out) none
   (fun o=>Out.rec (motive:=fun _=>Option Out)
    (fun e tm ds h=>Ex.rec (motive:=fun _=>Option Out) (rec (.code b tm ds rd h)) (some (.code .ret tm ds h)) (fun i=>some (.code (.exit i) tm ds h)) e)
    (fun c h=>some (.val c h)) o) (rec (.code a tm ds rd h)))
  (fun c a b _ _ _ rec tm ds rd h=>mO (evF c tm) none fun t=>Bool.rec (motive:=fun _=>Option Out) (rec (.code b tm ds rd h)) (rec (.code a tm ds rd h)) t)
  (fun id c _ _ rec tm ds rd h=>Option.rec (motive:=fun _=>Option Out) none
   (fun o=>Out.rec (motive:=fun _=>Option Out)
    (fun e tm ds h=>Ex.rec (motive:=fun _=>Option Out) (some (.code .norm tm ds h)) (some (.code .ret tm ds h))
     (fun i=>Bool.rec (motive:=fun _=>Option Out) (some (.code (.exit i) tm ds h)) (some (.code .norm tm ds h)) (Nat.beq i id)) e)
    (fun c h=>some (.val c h)) o) (rec (.code c tm ds rd h)))
  (fun c _ _ rec tm ds rd h=>Option.rec (motive:=fun _=>Option Out) none
   (fun o=>Out.rec (motive:=fun _=>Option Out)
    (fun e tm ds h=>Ex.rec (motive:=fun _=>Option Out) (rec (.code (.loop c) tm ds rd h)) (some (.code .ret tm ds h)) (fun i=>some (.code (.exit i) tm ds h)) e)
    (fun c h=>some (.val c h)) o) (rec (.code c tm ds rd h)))
  (fun f ps a b _ _ E rec tm ds rd h=>body E rec (.code (.rng f ps a b) tm ds rd h))
  (fun draw ops _ rec tm ds _ h=>Option.rec (motive:=fun _=>Option Out) none (fun p=>some (.code .norm p.1 ds p.2))
   (Bool.rec (motive:=fun _=>Option (Tm×H)) (tP ops rec tm h) (oG ops rec 0 [] [] tm h) draw)) c
noncomputable def fnF (f:FuncId) (caps:List C) (E:Env) (rec:Rec) (args:List C) (h:H):Option Out:=
 Option.rec (motive:=fun _=>Option Out)
  (Option.rec (motive:=fun _=>Option Out) none
   (fun fn=>Bool.rec (motive:=fun _=>Option Out) none
    (Option.rec (motive:=fun _=>Option Out) none (fun o=>Out.rec (motive:=fun _=>Option Out)
     (fun e tm ds h=>Ex.rec (motive:=fun _=>Option Out)
      (Option.rec (motive:=fun _=>Option Out) none (fun h=>Option.rec (motive:=fun _=>Option Out) none (fun rs=>some (.val (mT rs) h)) (yj fn.res tm h)) (fe ds h))
      (Option.rec (motive:=fun _=>Option Out) none (fun h=>Option.rec (motive:=fun _=>Option Out) none (fun rs=>some (.val (mT rs) h)) (yj fn.res tm h)) (fe ds h))
      (fun _=>none) e)
     (fun _ _=>none) o) (rec (.code fn.body (BQ 24 (iW args caps) 0 .e) [] none h)))
    (Nat.ble (lenL (iW args caps)) fn.ntmps)) (E.fns f))
  (fun o=>Option.rec (motive:=fun _=>Option Out) none (fun c=>some (.val c h)) (o (iW args caps))) (E.orc f)
noncomputable def Ct (E:Env) (rec:Rec) (t:Task):Option Out:=
 Task.rec (motive:=fun _=>Option Out) (fun c tm ds rd h=>codeF c E rec tm ds rd h)
  (fun f args h=>C.rec (motive_1:=fun _=>Option Out) (motive_2:=fun _=>PUnit) none (fun _=>none) (fun _=>none) (fun _ _ _ _ _=>none) (fun _ _=>none)
   (fun f caps _=>fnF f caps E rec args h) (fun _ _=>none) (fun _ _=>none) (fun k=>body E rec (.call (.yl k) args h)) none ⟨⟩ (fun _ _ _ _=>⟨⟩) f) t
theorem LC(f:FuncId)(caps:List C)(E:Env)(rec:Rec)(args:List C)(h:H):fnF f caps E rec args h=body E rec (.call (.fn f caps) args h):=by
 unfold fnF;rw[rG]
 conv=>rhs;unfold body
 dsimp only
 cases E.orc f with
 |some o=>
  dsimp only;cases o (args++caps)<;>rfl
 |none=>
  dsimp only
  cases E.fns f with
  |none=>rfl
  |some fn=>
   dsimp only;rw[JD,Fu]
   cases Nat.ble (args++caps).length fn.ntmps with
   |false=>rfl
   |true=>
    dsimp only
    cases rec (.code fn.body (setArgs 24 0 (args++caps) .e) [] none h)with
    |none=>rfl
    |some o=>
     cases o with
     |val c h=>rfl
     |code e tm ds h=>
      cases e with
      |exit i=>rfl
      |norm=>
       dsimp only
       cases fe ds h with
       |none=>rfl
       |some h=>
        simp only[eS];rw[zR];cases results tm h fn.res<;>rfl
      |ret=>
       dsimp only
       cases fe ds h with
       |none=>rfl
       |some h=>
        simp only[eS];rw[zR];cases results tm h fn.res<;>rfl
theorem codeF_eq(c:CC)(E:Env)(rec:Rec)(tm:Tm)(ds:List Nat)(rd:Option Nat)(h:H):codeF c E rec tm ds rd h=body E rec (.code c tm ds rd h):=by
 cases c with
 |skip=>rfl
 |ret=>rfl
 |exit id=>rfl
 |seq a b=>
  show Option.rec (motive:=fun _=>Option Out) none
   (fun o=>Out.rec (motive:=fun _=>Option Out)
    (fun e tm ds h=>Ex.rec (motive:=fun _=>Option Out) (rec (.code b tm ds rd h)) (some (.code .ret tm ds h)) (fun i=>some (.code (.exit i) tm ds h)) e)
    (fun c h=>some (.val c h)) o) (rec (.code a tm ds rd h))=_
  conv=>rhs;unfold body
  dsimp only
  cases rec (.code a tm ds rd h)with
  |none=>rfl
  |some o=>
   cases o with
   |val c h=>rfl
   |code e tm ds h=>cases e<;>rfl
 |cond c a b=>
  show(mO (evF c tm) none fun t=>Bool.rec (motive:=fun _=>Option Out) (rec (.code b tm ds rd h)) (rec (.code a tm ds rd h)) t)=_;rw[sR,cB]
  conv=>rhs;unfold body
  dsimp only
  cases c.ev tm with
  |sc v=>cases v with
   |bool b=>cases b<;>rfl
   |_=>rfl
  |_=>rfl
 |block id c=>
  show Option.rec (motive:=fun _=>Option Out) none
   (fun o=>Out.rec (motive:=fun _=>Option Out)
    (fun e tm ds h=>Ex.rec (motive:=fun _=>Option Out) (some (.code .norm tm ds h)) (some (.code .ret tm ds h))
     (fun i=>Bool.rec (motive:=fun _=>Option Out) (some (.code (.exit i) tm ds h)) (some (.code .norm tm ds h)) (Nat.beq i id)) e)
    (fun c h=>some (.val c h)) o) (rec (.code c tm ds rd h))=_
  conv=>rhs;unfold body
  dsimp only
  cases rec (.code c tm ds rd h)with
  |none=>rfl
  |some o=>
   cases o with
   |val c h=>rfl
   |code e tm ds h=>
    cases e with
    |exit i=>
     dsimp only;cases Nat.beq i id<;>rfl
    |_=>rfl
 |loop c=>
  show Option.rec (motive:=fun _=>Option Out) none
   (fun o=>Out.rec (motive:=fun _=>Option Out)
    (fun e tm ds h=>Ex.rec (motive:=fun _=>Option Out) (rec (.code (.loop c) tm ds rd h)) (some (.code .ret tm ds h)) (fun i=>some (.code (.exit i) tm ds h)) e)
    (fun c h=>some (.val c h)) o) (rec (.code c tm ds rd h))=_
  conv=>rhs;unfold body
  dsimp only
  cases rec (.code c tm ds rd h)with
  |none=>rfl
  |some o=>
   cases o with
   |val c h=>rfl
   |code e tm ds h=>cases e<;>rfl
 |rng f ps a b=>rfl
 |reg draw ops=>
  show Option.rec (motive:=fun _=>Option Out) none (fun p=>some (.code .norm p.1 ds p.2))
   (Bool.rec (motive:=fun _=>Option (Tm×H)) (tP ops rec tm h) (oG ops rec 0 [] [] tm h) draw)=_
  rw[Fy,Fz]
  conv=>rhs;unfold body
  dsimp only
  cases draw with
  |true=>
   dsimp only;cases fi rec ops 0 [] [] tm h<;>rfl
  |false=>
   dsimp only;cases kB rec ops tm h<;>rfl
theorem GJ(E:Env)(rec:Rec)(t:Task):Ct E rec t=body E rec t:=by
 cases t with
 |code c tm ds rd h=>exact codeF_eq c E rec tm ds rd h
 |call f args h=>
  cases f with
  |fn f caps=>exact LC f caps E rec args h
  |_=>rfl
noncomputable def runF (E:Env) (n:Nat):Rec:=Nat.rec (motive:=fun _=>Rec) (fun _=>none) (fun _ ih t=>Ct E ih t) n
theorem I4(E:Env)(n:Nat)(t:Task):runF E n t=run E n t:=by
 induction n generalizing t with
 |zero=>rfl
 |succ n ih=>
  show Ct E (runF E n) t=_;rw[GJ,funext ih];rfl
end
def isTrue:Option Out->Bool
 |some (.val (.sc (.bool true)) _)=>true
 |_=>false
theorem Ej{o:Option Out}(h:isTrue o=true):∃h',o=some (.val (.sc (.bool true)) h'):=by
 unfold isTrue at h;split at h
 ·exact⟨_,rfl⟩
 ·cases h
end CI
end
section
open Go.RowKit
namespace CI
set_option maxRecDepth 100000 in
theorem CD:isTrue (runF (theE Tryz.prog) 3000 (.call (.fn 45 []) [] ⟨0,0,[],.e⟩))=true:=by kernel_rfl
theorem CE(w:World):Calls Tryz.prog 45 #[] w (fun e w'=>e= .returned (.bool true)/\Below w.heap.size w w'):=by
 obtain⟨h',e⟩:=Ej CD;rw[I4]at e;refine(DR ak Jf (Fe _) (enters_of Tryz.func45 ak rfl) e w).mono ?_;rintro e w' ⟨u,A,ρ,rfl,h1,_,h2⟩;simp only[VR]at h1;exact⟨by rw[h1.1],h2⟩
end CI
end
section
open Go.RowKit
namespace DW
set_option maxRecDepth 20000
set_option maxHeartbeats 2000000
theorem pr:Fn Tryz.prog 45 [] (.sc (.bool true)):=by
 refine⟨enters_of Tryz.func45 ak rfl,fun X w vs _ hv=>?_⟩;simp only[ATp]at hv;obtain rfl:vs= #[]:=by apply pC;rw[hv]
 refine(CI.CE w).mono fun e w' ⟨h,hb⟩=>⟨_,h,?_,hb⟩;simp only[AR];exact⟨trivial,rfl⟩
theorem Jc(g:Mx.Mat)(hg:g.length<=1000000)(hrr:∀r∈g,r.length<=1000000)(N:Int):∃C:Int,-1000<=C/\C<=1000/\Fn Tryz.prog 47 [qF N g] (zI C)/\Fn Tryz.prog 49 [qF N g] (zI C)/\(C=0->∃n:Nat,N=n/\g.length=n/\2<=n/\n<=4/\Mx.Rc n g/\eJ 1000 g=true/\QP g n):=by
 by_cases h:2<=N/\N<=4/\sqB g N=true
 ·obtain⟨h2,h4,hs⟩:=h;obtain⟨hl,hr⟩:=zL hs
  cases hb:eJ 1000 g with
  |false=>exact⟨8,by omega,by omega,qpc_l g hg hrr N h2 h4 hs hb,rqc_l g hg hrr N h2 h4 hs hb,fun h=>by omega⟩
  |true=>
   obtain⟨n,rfl⟩:∃n:Nat,N=n:=⟨N.toNat,by omega⟩;have hR:Mx.Rc n g:=fun r h=>by have:=hr r h;omega
   have hl':g.length=n:=by omega
   have hn2:2<=n:=by omega
   have hn4:n<=4:=by omega
   by_cases hq:QP g n
   ·exact⟨0,by omega,by omega,HC g n 0 (.inl ⟨rfl,hq⟩) hl' hn2 hn4 hR hb,Hz g n 0 (.inl ⟨rfl,hq⟩) hl' hn2 hn4 hR hb,fun _=>⟨n,rfl,hl',hn2,hn4,hR,rfl,hq⟩⟩
   ·exact⟨3,by omega,by omega,HC g n 3 (.inr ⟨rfl,hq⟩) hl' hn2 hn4 hR hb,Hz g n 3 (.inr ⟨rfl,hq⟩) hl' hn2 hn4 hR hb,fun h=>by omega⟩
 ·exact⟨9,by omega,by omega,qpc_s g hg N h,rqc_s g hg N h,fun h=>by omega⟩
def sm6(g:Mx.Mat):Bool:=decide (g.length<=6)&&g.all (fun l=>decide (l.length<=6))
theorem Dv{g:Mx.Mat}(h:sm6 g=true):g.length<=6/\∀l∈g,l.length<=6:=by
 unfold sm6 at h;rw[bV,da,eT]at h;exact⟨h.1,fun l hl=>of_decide_eq_true (h.2 l hl)⟩
theorem se(N:Int)(g:Mx.Mat):Fn Tryz.prog 46 [qF N g] (.sc (.bool (sm6 g))):=by
 by_cases h6:g.length<=6
 ·have h6d:decide ((g.length:Int)<=6)=true:=aq aa;refine aF Tryz.func46 ak rfl rfl rfl fun X0=>?_;simp only[aA];refine zs1 ?_;refine Bf ?_;refine cH ?_
  (refine bh (aO (sl':=[(1, .pt (qF N g)),(3,zI 0)]) (ow':=[]) ba aZ) ?_)
  refine bw (fun r s=>∃k,k<=g.length/\r=g.length-k/\(∀r∈g.take k,r.length<=6)/\s=⟨[(1, .pt (qF N g)),(3,zI (k:Nat))],[]⟩) (m:=g.length) ⟨0,aP _,rfl,fun z h=>absurd h aY,rfl⟩ fun r s hs=>?_;obtain⟨k,hk,rfl,hin,rfl⟩:=hs;by_cases hkl:k<g.length
  ·have hkd:decide ((k:Int)<(g.length:Int))=true:=aq aa;obtain⟨l,hl⟩:=get_some (m:=g) (k:=k) hkl;by_cases hb:l.length<=6
   ·have hin2 : ∀ x ∈ g.take (k + 1), x.length <= 6 := fun x hx => by
     rw[cF hl,dR]at hx;rcases hx with hx|hx
     ·exact hin x hx
     ·rw[bu.1 hx];exact hb
    clear hin;refine zs1 ?_;refine wB ?_;refine cq ?_;refine Hb ?_;refine jR ?_;simp only[nx];exact⟨g.length-(k+1),_,by omega,(aO (sl':=[(1, .pt (qF N g)),(3,zI ((k+1:Nat):Int))]) (ow':=[]) ba aZ),k+1,by omega,rfl,hin2,rfl⟩
   ·have EC : sm6 g = false := by
     unfold sm6;rw[show g.all (fun l=>decide (l.length<=6))=false from by
      rw[List.all_eq_false];exact⟨l,bf hl,by simpa using hb⟩,Bool.and_false]
    clear hin;refine zs1 ?_;refine wB ?_;refine cq ?_;refine Hb ?_;refine jf ?_;rw[EC];exact⟨_,Sh.refl, .one (.tmp 2) _ rfl (.tmp 2 rfl)⟩
  ·obtain rfl:k=g.length:=by omega
   have hkd:decide ((g.length:Int)<(g.length:Int))=false:=ao aa;rw[eA aa]at hin;have EC:sm6 g=true:=by
    unfold sm6;rw[aq h6,fR,eT];exact fun l hl=>aq (hin l hl)
   clear hin;refine zs1 ?_;refine wB ?_;refine bc ?_;refine Ha ?_;refine zs1 ?_;rw[EC,<-h6d];exact⟨_,Sh.refl, .one (.tmp 2) _ rfl (.tmp 2 rfl)⟩
 ·have h6d:decide ((g.length:Int)<=6)=false:=ao aa;have h0d:decide ((0:Int)<(g.length:Int))=true:=aq aa;have EC:sm6 g=false:=by unfold sm6;rw[ao h6];rfl
  refine aF Tryz.func46 ak rfl rfl rfl fun X0=>?_;simp only[aA];refine zs1 ?_;refine Bf ?_;refine cH ?_
  (refine bh (aO (sl':=[(1, .pt (qF N g)),(3,zI 0)]) (ow':=[]) ba aZ) ?_)
  refine bw (fun r s=>r=0/\s=⟨[(1, .pt (qF N g)),(3,zI 0)],[]⟩) (m:=0) ⟨rfl,rfl⟩ fun r s hs=>?_;obtain⟨rfl,rfl⟩:=hs;refine zs1 ?_;refine wB ?_;refine bc ?_;refine Ha ?_;refine zs1 ?_;rw[EC,<-h6d];exact⟨_,Sh.refl, .one (.tmp 2) _ rfl (.tmp 2 rfl)⟩
theorem Cp(l:List Int)(hl:l.length<=1000000):Fn Tryz.prog 79 [dI l] (dI l):=by
 refine aF Tryz.func79 ak rfl rfl rfl fun X0=>?_;simp only[aA];refine jW ?_;refine gar ?_;refine zs29 ?_;refine zs3 ?_;refine zs11 ?_;refine dC ?_;exact⟨_,bN (k:=3) cK dX dV,.one (.tmp 2) _ rfl (.tmp 2 rfl)⟩
theorem rQ(m:Mx.Mat)(hm:m.length<=1000000)(hr:∀l∈m,l.length<=1000000):Fn Tryz.prog 76 [dM m] (dM m):=by
 refine aF Tryz.func76 ak rfl rfl rfl fun X0=>?_;simp only[aA];refine jW ?_;refine lY ?_;refine cH ?_;refine bh (ik (t:=3) (k:=3) (T:=45) (wd:=1) mR rfl rfl fE) ?_
 (refine bh (aO (sl':=[(0,dM m),(3,.own 3),(4,zI 0)]) (ow':=[(3,⟨45,1,[]⟩)]) ba aZ) ?_)
 refine bw (fun q s=>∃k,k<=m.length/\q=m.length-k/\s=⟨[(0,dM m),(3,.own 3),(4,zI (k:Nat))],[(3,⟨45,1,(m.take k).map dI⟩)]⟩) (m:=m.length) ⟨0,aP _,rfl,rfl⟩ fun q s hs=>?_;obtain⟨k,hk,rfl,rfl⟩:=hs;by_cases hkl:k<m.length
 ·obtain⟨x,hx⟩:=get_some hkl;have CI:=Cp x (hr x (bf hx));have hsn:(m.take (k+1)).map dI=(m.take k).map dI++[dI x]:=by rw[cF hx,cN];rfl
  have hfl:(m.take k).length<=1000000:=by rw[aQ];omega
  obtain⟨F,hF⟩:∃F,F=m.take k:=⟨_,rfl⟩;rw[<-hF]at hsn hfl;rw[<-hF];clear hF;refine jS ?_;refine cJ ?_;refine kF ?_;refine gg ?_;refine xg ?_;refine xf ?_;refine dC ?_;refine jT ?_;simp only[nx];exact⟨m.length-(k+1),_,by omega,(aO (sl':=[(0,dM m),(3,.own 3),(4,zI ((k+1:Nat):Int))]) (ow':=[(3,⟨45,1,F.map dI++[dI x]⟩)]) ba aZ),k+1,by omega,rfl,by rw[hsn]⟩
 ·obtain rfl:k=m.length:=by omega
  rw[kI];refine jP ?_;refine bh (bN (k:=3) cK dX dV) ?_;refine zs1 ?_;refine dD ?_;exact⟨_,Sh.refl,.one (.tmp 2) _ rfl (.tmp 2 rfl)⟩
theorem GG(N:Int)(g:Mx.Mat)(hg:g.length<=1000000)(hr:∀l∈g,l.length<=1000000):Fn Tryz.prog 48 [qF N g] (qF N g):=by
 have CL:=rQ g hg hr;refine aF Tryz.func48 ak rfl rfl rfl fun X0=>?_;simp only[aA];refine zs1 ?_;refine gar ?_;refine nU ?_;(refine lg (k:=2) (z:=(.agg #[.int .i64 0,.slice none 0 0])) (d:=(.st [.sc (.int .i64 0),.sc (.slice none 0 0)])) rfl rfl rfl rfl rfl ak av av pB av av fE ?_);refine je ?_;((first|(apply az 6;(focus kernel_rfl);(decide+kernel))|(apply az 5;(focus kernel_rfl);(decide+kernel))|(apply az 4;(focus kernel_rfl);(decide+kernel))|(apply az 3;(focus kernel_rfl);(decide+kernel))|(apply az 2;(focus kernel_rfl);(decide+kernel))|(apply az 1;(focus kernel_rfl);(decide+kernel)));simp only[fT,eU,gK,ft]);(first|refine fo rfl rfl rfl av Bq av av ?_|((try refine bp ?_);refine aL1 rfl rfl rfl Bq ?_));refine py ?_;refine AG ?_;refine py ?_;refine zs49 ?_;(first|refine fo rfl rfl rfl av zb27 av av ?_|((try refine bp ?_);refine aL1 rfl rfl rfl zb27 ?_));((try refine bp ?_);(refine Ay (i:=0) rfl rfl rfl ei ei cK av (by first|exact Nat.zero_lt_one|omega|(simp;omega)) av pB av ak zb47 ?_));refine nV ?_;refine zs1 ?_;exact⟨_,bN (k:=2) cK dX dV,.one (.cell 2 79) _ rfl (.cell 2 _ _ rfl rfl ak ak)⟩
end DW
end
section
open Go.RowKit
namespace DW
section
variable {P : Program} {s : S} {o : Oper}
theorem Gt{g:FuncId}{x y:Operand}{ts:Array TypeId}{d1 r:D}(ho:o.op= .call {callee:=.value y,args:=#[x],argTypes:=ts})(hy:s.op y= .sc (.func (.func g) #[] #[]))(hx:s.op x=d1)(hs:d1.seen=true)(hf:Go.Proofs.Enters P g/\Fun P g [d1] r)(hr:r.seen=true):bj P o s r:=fun X f a w base hX _ hh=>by
 have h1:ATp X w [d1] ([x].map a.eval):=by
  rw[<-hx];refine zg s a [x] (fun z hz=>hh z ?_) (fun z hz=>?_)
  ·rw[ho];simp[Op.operands,Call.operands]at hz⊢;exact .inr hz
  ·rw[bu.1 hz,hx];exact hs
 have h3:=hh y fJ;rw[hy]at h3;simp only[SR,AR]at h3;have h2:(execOp a.eval o).run P w= .ok (.enter g ([x].map a.eval).toArray) w:=by
  unfold execOp;rw[ho];have:=hf.1 ([x].map a.eval).toArray w;have e:=h3.1;cases y<;>simp_all [resolve,invoke,Deferred.ofValue,Act.eval]
 rw[h2];refine⟨rfl,(hf.2 X w _ hX (by simpa using h1)).mono fun e w' ⟨u,k1,k2,k3⟩=>⟨u,k1,?_,k3⟩⟩;cases r<;>first|exact k2|simp[D.seen]at hr
end
end DW
end
end Go.Proofs.YtepdigdijecgpaaGreat
