/- Lemmas for the law: Q11 Q12 Q13 Q14 Q15 Q16 Q17 Q18 Q19 Q20 DB DC DE DF V20 M8 -/
import Derived.RangeFuncIn
import Derived.RangeFuncCalls
import Derived.OrdersIn
import Derived.DefersIn
import Derived.RangeFuncLeaves
import Derived.RangeFuncRecord
import Derived.Shelf.Abstract
import Derived.Test.YtcgjmdpcplhanaaGreatZi8
namespace Go.Proofs.YtcgjmdpcplhanaaGreat
section
abbrev yL:=@Bool.or_eq_false_iff
abbrev yK:=@Bool.and_eq_false_iff
abbrev uR:=@Bool.not_eq_true'
abbrev uQ:=@Array.toList_append
abbrev rL:=@Nat.lt_succ_iff_lt_or_eq
abbrev lC:=@Array.getElem?_eq_getElem
abbrev yJ:=@List.filter_cons_of_pos
abbrev uP:=@List.filter_cons_of_neg
abbrev Dh:=@Array.getElem?_setIfInBounds_ne
abbrev Df:=@Array.getElem?_replicate
theorem tC{p:Prop}(h:p:=by simpa using he):p:=h
end
section
open Go.RowKit
namespace CI
variable {P : Program} {A : Nat->Prop} {ρ : Nat->Nat} {w : World} {tm tm' : Tm} {a : Act} {o : Oper} {c : C} {h h' h'' : H} {rec : Rec}
def Ar(P:Program)(fv:Value)(vs:Array Value)(w:World)(R:Ending->World->Prop):Prop:=
 ∃d,(Deferred.ofValue fv vs).run P w= .ok d w/\((∃f args,(invoke d.target d.args).run P w= .ok (.enter f args) w/\CallsIn Fence.wide 0 P f args w R)\/
  ∃l f tmps s b,fv= .func (.yield l) #[] #[]/\(invoke d.target d.args).run P w= .ok (.round l f tmps s b) w/\RoundIn Fence.wide 0 P l f tmps s b w R)
def jQ(P:Program)(A:Nat->Prop)(ρ:Nat->Nat)(w:World)(h:H)(c:C)(h':H):Ending->World->Prop:=fun e w'=>∃u ρ',e= .returned u/\cQ P A ρ w h ρ' w' h'/\VR P (Ext A h h') ρ' w' c u
def nv(P:Program)(rec:Rec):Prop:=∀f args h c h',rec (.call f args h)=some (.val c h')->Wf h->∀A ρ w fv vs,Rel P A ρ w h->Dj A h h'->VR P A ρ w f fv->VRl P A ρ w args vs.toList->
 Ar P fv vs w (jQ P A ρ w h c h')
def FC(F:Fence):Prop:=F=Fence.wide\/∃l,F=Fence.wide.inRound l
theorem FC.fn{F:Fence}(hF:FC F)(f:FuncId):F.fn f:=by rcases hF with rfl|⟨l,rfl⟩<;>trivial
theorem FC.depth{F:Fence}(hF:FC F):F.depth.isSome=true->1<=0:=by rcases hF with rfl|⟨l,rfl⟩<;>(intro e;cases e)
theorem FC.calls{F:Fence}(hF:FC F){f:FuncId}{args:Array Value}{w:World}{R:Ending->World->Prop}(h:CallsIn Fence.wide 0 P f args w R):CallsIn F 0 P f args w R:=by
 rcases hF with rfl|⟨l,rfl⟩
 ·exact h
 ·exact CallsIn.inRound l h
theorem FC.round{F:Fence}(hF:FC F){l:Nat}{f:FuncId}{tmps:Array Value}{s b:Code}{w:World}{R:Ending->World->Prop}(h:RoundIn Fence.wide 0 P l f tmps s b w R):RoundIn F 0 P l f tmps s b w R:=by
 rcases hF with rfl|⟨l,rfl⟩
 ·exact h
 ·exact h
theorem qs(hc:∃x,ba P o.op=some x)(cl:Call):o.op≠ .defer cl:=fun e=>by
 obtain⟨x,hc⟩:=hc;rw[e]at hc;simp[ba]at hc
theorem t_me{x:X}{ob:Option B}(hc:ba P o.op=some x)(hT:x.isT=true)(hx:xT x tm h.next=some (c,ob))(hb:h.nu ob=some h')(hv:HV P A ρ w tm a o)(t:Rel P A ρ w h)(hd:Dj A h h'):ME P A ρ w h ((execOp a.eval o).run P w) c h':=by
 obtain⟨u,w',hr,hk⟩:=Ng hc hT hx hv
 cases ob with
 |none=>
  simp only[H.nu,ak]at hb;subst hb;obtain⟨rfl,hu⟩:=hk;exact⟨u,w',ρ,.inl hr,cQ.refl t,VR.mo ⟨fun _ hk=>.inl hk,fun _ _=>rfl⟩ (Lt.refl _) _ _ hu⟩
 |some b=>
  obtain⟨hbl,hlt,hk⟩:=hk;have hp:=nM t hb hd hbl (af _) hlt (fun A' ρ' m e1 e2=>(hk A' ρ' m e1 e2).1);refine⟨u,w',_,.inl hr,hp,(hk _ _ (hp.mo hd) CY (.inr ⟨af _,?_⟩)).2⟩;have:=(dD hb).1;omega
theorem JX{F:Fence}(hF:FC F){next:Act->World->Prop}{Q:Exit->Act->World->Prop}(hnd:∀cl,o.op≠ .defer cl)(hm:ME P A ρ w h ((execOp a.eval o).run P w) c h')
  (hn:∀u w' ρ',cQ P A ρ w h ρ' w' h'->VR P (Ext A h h') ρ' w' c u->next (a.put o.dst u) w'):o.wpIn F 0 P a w next Q:=by
 refine⟨fun f _=>hF.fn f,?_⟩;rw[Oper.semAt_eq F.round a.eval o hnd];obtain⟨u,w',ρ',hr|⟨hr,rfl⟩,hp,hu⟩:=hm
 ·rw[hr,Oper.uponIn_value];exact hn u w' ρ' hp hu
 ·rw[hr,Oper.uponIn_skip];exact hn undef w' ρ' hp hu
theorem SV{F:Fence}(hF:FC F){next:Act->World->Prop}{Q:Exit->Act->World->Prop}{f:Operand}{args:Array Operand}{ts:Array TypeId}(ho:o.op= .call {callee:= .value f,args:=args,argTypes:=ts})
  (hk:Ar P (a.eval f) (args.map a.eval) w (jQ P A ρ w h c h'))
  (hn:∀u w' ρ',cQ P A ρ w h ρ' w' h'->VR P (Ext A h h') ρ' w' c u->next (a.put o.dst u) w'):o.wpIn F 0 P a w next Q:=by
 refine⟨fun f _=>hF.fn f,?_⟩;rw[Oper.semAt_eq F.round a.eval o (fun cl e=>by rw[ho]at e;cases e)];obtain⟨d,hd,hk⟩:=hk;have hE:(execOp a.eval o).run P w=(invoke d.target d.args).run P w:=by
  unfold execOp;rw[ho];simp only[resolve,Sem.run_bind,hd,Result.andThen_ok]
 rw[hE]
 have hpost : ∀ e w', jQ P A ρ w h c h' e w' -> (match e, w' with
     | .returned v,w''=>next (a.put o.dst v) w''
     | .panicked chain,w''=>Q (.panic chain) a w''
     | .outgrown,_=>LetsOut Q):=fun e w' ⟨u,ρ',e1,hp,hu⟩=>by
  subst e1;exact hn u w' ρ' hp hu
 rcases hk with⟨g,as',hr,hk⟩|⟨l,g,tmps,s,b,_,hr,hk⟩
 ·rw[hr,Oper.uponIn_enter];exact⟨hF.depth,(hF.calls hk).mono hpost⟩
 ·rw[hr,Oper.uponIn_round];exact⟨hF.depth,(hF.round hk).mono hpost⟩
theorem r_wp(hrec:nv P rec){F:Fence}(hF:FC F){next:Act->World->Prop}{Q:Exit->Act->World->Prop}{x:X}(hc:ba P o.op=some x)(hT:x.isT=false)(hx:xR rec x tm h=some (c,h'))(f:Wf h)(hv:HV P A ρ w tm a o)(t:Rel P A ρ w h)(hd:Dj A h h')
  (hn:∀u w' ρ',cQ P A ρ w h ρ' w' h'->VR P (Ext A h h') ρ' w' c u->next (a.put o.dst u) w'):o.wpIn F 0 P a w next Q:=by
 by_cases hcal:∃g l,x= .cal g l
 ·obtain⟨g,l,rfl⟩:=hcal;have hop:∃f args ts,o.op= .call {callee:=.value f,args:=args,argTypes:=ts}/\g=aP f/\l=rj args.toList:=by
   cases hop:o.op with
   |call cl=>
    obtain⟨callee,args,argTypes⟩:=cl;rw[hop]at hc
    cases callee with
    |value f=>
     simp only[ba,ak,X.cal.injEq]at hc;exact⟨f,args,argTypes,rfl,hc.1.symm,hc.2.symm⟩
    |invoke r m=>simp[ba]at hc
    |builtin b=>
     exfalso;simp only[ba]at hc;split at hc
     ·split at hc<;>simp at hc
     ·simp at hc
     ·simp at hc
     ·split at hc
      ·split at hc
       ·cases hc
       ·obtain⟨_,_,hc⟩:=aG hc;obtain⟨_,_,hc⟩:=aG hc;split at hc<;>simp at hc
      ·obtain⟨_,_,hc⟩:=aG hc;obtain⟨_,_,hc⟩:=aG hc;split at hc<;>simp at hc
      ·cases hc
     ·split at hc<;>simp at hc
     ·cases hc
   |store ty y v=>
    exfalso;rw[hop]at hc;simp only[ba]at hc;obtain⟨_,_,hc⟩:=aD hc;cases hc
   |load ty y=>
    exfalso;rw[hop]at hc;simp only[ba]at hc;obtain⟨_,_,hc⟩:=aG hc;obtain⟨_,_,hc⟩:=aD hc;cases hc
   |_=>
    exfalso;rcases FL hc hT with⟨_,_,e⟩|⟨_,_,_,e⟩|⟨_,e⟩<;>(rw[hop]at e;cases e)
  obtain⟨f',args,ts,hop,rfl,rfl⟩:=hop;simp only[xR]at hx;split at hx
  ·next e=>
   simp only[ak,aJ]at hx;obtain⟨rfl,rfl⟩:=hx;refine SV hF hop ?_ hn;refine hrec _ _ _ _ _ e f A ρ w _ _ t hd (hv f' (by rw[hop];simp[Op.operands,Call.operands])) ?_;rw[Array.toList_map];exact AJ tm a _ fun y hy=>hv y (by rw[hop];simp[Op.operands,Call.operands];exact .inr (by simpa using hy))
  ·cases hx
 ·exact JX hF (qs ⟨x,hc⟩) (Jt hc hT (fun g l e=>hcal ⟨g,l,e⟩) hx hv t hd) hn
end CI
end
section
open Go.RowKit
namespace CI
variable {P : Program} {A A' : Nat->Prop} {ρ ρ' : Nat->Nat} {w w' : World} {tm tm' : Tm} {a : Act} {o : Oper} {c : C} {h h' h'' : H} {rec : Rec} {n : Nat} {ds : List Nat}
def vH(ρ:Nat->Nat)(k:Nat):Deferred:={target:=.collected (ρ k),args:=#[]}
structure Fr(P:Program)(A:Nat->Prop)(ρ:Nat->Nat)(w:World)(n:Nat)(ds:List Nat)(tm:Tm)(a:Act):Prop where
 tr:TR P A ρ w tm a.tmps
 sz:a.tmps.size=n
 nm:∀k∈ds,A k
 df:a.defers=ds.map (vH ρ)
theorem Fr.mo(m:Mo A A' ρ ρ')(k:Lt w w')(f:Fr P A ρ w n ds tm a):Fr P A' ρ' w' n ds tm a:=
 ⟨f.tr.mo m k,f.sz,fun j hj=>m.sub j (f.nm j hj),f.df.trans (lD fun j hj=>by unfold vH;rw[m.eq j (f.nm j hj)])⟩
theorem Ab{t u:Nat}(ht:t<1000000)(tm:Tm)(c:C):CO.ev (T.put 24 tm t (some c)) (CO.t u)=if u=t then c else CO.ev tm (CO.t u):=by
 simp only[CO.ev,T.xU ht];split
 ·next e=>split at e<;>simp_all
 ·next e=>split at e<;>simp_all
theorem TR.put{tmps:Array Value}{t:Nat}{v:Value}(h:TR P A ρ w tm tmps)(ht:t<tmps.size)(hb:t<1000000)(hv:VR P A ρ w c v):TR P A ρ w (T.put 24 tm t (some c)) (tmps.setIfInBounds t v):=fun u=>by
 rw[Ab hb];by_cases e:u=t
 ·rw[an e];subst e;rw[cV,rR];simp[ht];exact hv
 ·rw[ai e,cV,rR,ai (fun e2=>e e2.symm),<-cV];exact h u
theorem Fr.put{dst:Option Nat}{v:Value}(f:Fr P A ρ w n ds tm a)(hn:n<1000000)(hd:cZ n dst=true)(hv:VR P A ρ w c v):Fr P A ρ w n ds (kR tm dst c) (a.put dst v):=by
 cases dst with
 |none=>exact f
 |some t=>
  have ht:t<n:=by simpa[cZ,bA]using hd
  exact⟨f.tr.put (by rw[f.sz];exact ht) aa hv,by simp[Act.put,f.sz],f.nm,f.df⟩
theorem Fr.hv(f:Fr P A ρ w n ds tm a)(o:Oper):HV P A ρ w tm a o:=fun y _=>f.tr.op y
theorem vG{draw:Bool}{ops:Array Oper}{acc l:List Oper}{ps:List Nat}{r:List RO}(e:iE P n draw ops acc (o::l) ps=some r):
  ∃ p ps' g r', ps = p :: ps' /\ cZ n o.dst = true /\ (draw = true -> tK ops o p acc 0 = true /\ ly acc.length o.after.toList = true) /\ (match o.guard with
      |none=>some none
      |some (j,b)=>((ops[j]?).bind (·.dst)).map fun t=>some (t,b))=some g/\iE P n draw ops (acc++[o]) l ps'=some r'/\r=⟨o.dst,g,(match ba P o.op with|some x=>x|none=> .bad),p⟩::r':=by
 cases ps with
 |nil=>simp[iE]at e
 |cons p ps'=>
  simp only[iE]at e;split at e
  ·cases e
  ·next hb=>
   obtain⟨g,e1,e⟩:=aG e;obtain⟨r',e2,e3⟩:=aD e;simp only[yL,yK,Bool.not_eq_false',ei]at hb;exact⟨p,ps',g,r',rfl,hb.2,fun hd=>hb.1.resolve_left (by simp[hd]),e1,e2,e3.symm⟩
theorem Cw{x:X}(e:x=(match ba P o.op with|some x=>x|none=>.bad))(hT:x.isT=false\/x≠ .bad):ba P o.op=some x:=by
 cases hc:ba P o.op with
 |some y=>rw[hc]at e;rw[e]
 |none=>
  rw[hc]at e;subst e;rcases hT with hT|hT
  ·simp[X.isT]at hT
  ·exact absurd rfl hT
theorem KC{tm:Tm}{next:Nat}:xT .bad tm next=none:=rfl
theorem tI{ops:Array Oper}{g:Option (Nat×Bool)}{x:X}{p:Nat}{b:Bool}(hg:(match o.guard with
   |none=>some none
   |some (j,b)=>((ops[j]?).bind (·.dst)).map fun t=>some (t,b))=some g) (hw:ll ⟨o.dst,g,x,p⟩ tm=some b)
  (hv:∀t c,g=some (t,c)->VR P A ρ w (CO.ev tm (CO.t t)) (a.tmps.getD t undef)):Region.wanted o (yielded ops a.tmps)=b:=by
 unfold Region.wanted
 cases ho:o.guard with
 |none=>
  rw[ho]at hg;simp only[ak]at hg;subst hg;simp only[ll,ak]at hw;exact hw
 |some q=>
  obtain⟨j,bb⟩:=q;rw[ho]at hg;simp only at hg;obtain⟨t,e1,e2⟩:=aD hg;subst e2;simp only[ll]at hw;split at hw
  ·next cc e=>
   simp only[ak]at hw;subst hw;have h1:=hv t bb rfl;simp only[CO.ev,e]at h1;have h2:=h1.bool;have h3:a.tmps[t]?=some (.bool cc):=by
    rw[cV]at h2
    cases e3:a.tmps[t]? with
    |none=>rw[e3]at h2;simp[undef]at h2
    |some v=>rw[e3]at h2;simp at h2;rw[h2]
   simp only[yielded,e1];simp[h3];cases bb<;>cases cc<;>rfl
  ·cases hw
theorem wB(hg:fF rec):∀(r:List RO) (tm:Tm) (h:H) (tm':Tm) (h':H),tU rec r tm h=some (tm',h')->Wf h->Gd h h'
 |[],tm,h,tm',h',e,f=>by
  simp only[tU,ak,aJ]at e;obtain⟨_,rfl⟩:=e;exact Gd.refl f
 |o::l,tm,h,tm',h',e,f=>by
  simp only[tU]at e;split at e
  ·split at e
   ·next c h1 e1=>
    have g1:Gd h h1:=by
     unfold Jv at e1;split at e1
     ·obtain⟨⟨c',b⟩,_,e1⟩:=aG e1;obtain⟨h2,e2,e3⟩:=aD e1;simp only[aJ]at e3;obtain⟨_,rfl⟩:=e3;exact sV f e2
     ·exact qM hg f e1
    exact g1.trans (wB hg l _ _ _ _ e g1.wf)
   ·cases e
  ·exact wB hg l _ _ _ _ e f
  ·cases e
theorem tT(hrec:nv P rec)(hg:fF rec){F:Fence}(hF:FC F){Q:Exit->Act->World->Prop}{ops:Array Oper}{draw:Bool}(hn:n<1000000):∀(l:List Oper) (k:Nat) (acc:List Oper) (ps:List Nat) (r:List RO),(∀(i:Nat) (o:Oper),l[i]?=some o->ops[k+i]?=some o)->iE P n draw ops acc l ps=some r->
  ∀(tm:Tm) (h:H) (tm':Tm) (h':H) (A:Nat->Prop) (ρ:Nat->Nat) (w:World) (a:Act),tU rec r tm h=some (tm',h')->Wf h->Rel P A ρ w h->Dj A h h'->Fr P A ρ w n ds tm a->
  (∀ρ' w' a',cQ P A ρ w h ρ' w' h'->Fr P (Ext A h h') ρ' w' n ds tm' a'->Q .normal a' w')->wpOpsIn F 0 P ops Q (List.range' k l.length) a w
 |[],k,acc,ps,r,_,hc,tm,h,tm',h',A,ρ,w,a,e,f,t,hd,hf,hq=>by
  simp only[iE,ak]at hc;subst hc;simp only[tU,ak,aJ]at e;obtain⟨rfl,rfl⟩:=e;exact hq ρ w a (cQ.refl t) (hf.mo ⟨fun _ hk=>.inl hk,fun _ _=>rfl⟩ (Lt.refl w))
 |o::l,k,acc,ps,r,hl,hc,tm,h,tm',h',A,ρ,w,a,e,f,t,hd,hf,hq=>by
  obtain⟨p,ps',g,r',rfl,h1,_,h2,h3,rfl⟩:=vG hc;have hk:ops[k]?=some o:=by simpa using hl 0 o rfl
  have hl':∀(i:Nat) (o':Oper),l[i]?=some o'->ops[k+1+i]?=some o':=fun i o' hi=>by
   have:=hl (i+1) o' (by simpa using hi);rwa[show k+(i+1)=k+1+i by omega]at this
  simp only[ir,List.range'_succ,wpOpsIn,hk];simp only[tU]at e;split at e
  ·next hw=>
   have hw':=tI h2 hw (fun u b _=>hf.tr u);rw[hw',an rfl];split at e
   ·next c h1' e1=>
    have g1:Gd h h1':=by
     unfold Jv at e1;split at e1
     ·obtain⟨⟨c',b⟩,_,e1⟩:=aG e1;obtain⟨h2,e2,e3⟩:=aD e1;simp only[aJ]at e3;obtain⟨_,rfl⟩:=e3;exact sV f e2
     ·exact qM hg f e1
    have g2:=wB hg r' _ _ _ _ e g1.wf;have hd1:=hd.left g2.good.next
    have cont:∀u w' ρ',cQ P A ρ w h ρ' w' h1'->VR P (Ext A h h1') ρ' w' c u->wpOpsIn F 0 P ops Q (List.range' (k+1) l.length) (a.put o.dst u) w':=fun u w' ρ' hp hu=>
     tT hrec hg hF hn l (k+1) _ ps' r' hl' h3 _ h1' tm' h' (Ext A h h1') ρ' w' _ e g1.wf hp.rel (hd.right g1.good.next) ((hf.mo (hp.mo hd1) hp.lt).put hn h1 hu) (fun ρ2 w2 a2 hp2 hf2=>
      hq ρ2 w2 a2 (hp.trans g1.good hp2 g2.good) (hf2.mo (Mo.ext g1.good.next g2.good.next _) (Lt.refl _)))
    unfold Jv at e1;split at e1
    ·next hT=>
     obtain⟨⟨c',b⟩,e2,e1⟩:=aG e1;obtain⟨h2',e3,e4⟩:=aD e1;simp only[aJ]at e4;obtain⟨rfl,rfl⟩:=e4;have hcc:=Cw rfl (.inr fun e5=>by rw[e5,KC]at e2;cases e2);exact JX hF (qs ⟨_,hcc⟩) (t_me hcc hT e2 e3 (hf.hv o) t hd1) cont
    ·next hT=>
     have hcc:=Cw rfl (.inl hT);exact r_wp hrec hF hcc hT e1 f (hf.hv o) t hd1 cont
   ·cases e
  ·next hw=>
   have hw':=tI h2 hw (fun u b _=>hf.tr u);rw[hw',ai aV];refine⟨fun g _=>hF.fn g,?_⟩;exact tT hrec hg hF hn l (k+1) _ ps' r' hl' h3 _ h tm' h' A ρ w _ e f t hd (hf.put hn h1 (by simp only[VR])) hq
  ·cases e
end CI
end
section
open Go.RowKit
namespace CI
variable {P : Program} {A A' : Nat->Prop} {ρ ρ' : Nat->Nat} {w w' : World} {tm tm' : Tm} {a : Act} {o : Oper} {c : C} {h h' h'' : H} {rec : Rec} {n : Nat} {ds : List Nat}
theorem kU(pre k:Nat):∀(iv:List (Nat×Nat×Nat)) (f:List (Nat×Nat)),ew k (kF pre iv f)=false->ew k f=false
 |[],f,h=>h
 |(i,x,y)::l,f,h=>by
  simp only[kF]at h;split at h
  ·exact kU pre k l f h
  ·simp only[ew]at h;split at h
   ·split at h
    ·cases h
    ·exact kU pre k l f h
   ·exact kU pre k l f h
def H.part(h:H)(pre:Nat)(iv:List (Nat×Nat×Nat)):H:=⟨h.next,h.next,kF pre iv h.forb,h.t⟩
theorem tW{pre:Nat}{iv:List (Nat×Nat×Nat)}{k:Nat}{b:B}(e:(h.part pre iv).get k=some b):h.get k=some b:=by
 unfold H.get at e⊢;split at e
 ·cases e
 ·next hf=>rw[kU pre k iv h.forb hf];exact e
theorem nK{pre:Nat}{iv:List (Nat×Nat×Nat)}(f:Wf h):Wf (h.part pre iv):=⟨f.bd,f.lt⟩
def H.whole(h h':H):H:=⟨h'.next,(match Nat.blt h'.low h.low with|true=>h'.low|false=>h.low),h.forb,h'.t⟩
theorem BC(h h':H):(h.whole h').low<=h.low/\(h.whole h').low<=h'.low:=by
 show(match Nat.blt h'.low h.low with|true=>h'.low|false=>h.low)<=h.low/\(match Nat.blt h'.low h.low with|true=>h'.low|false=>h.low)<=h'.low;split
 ·next e=>
  have:h'.low<h.low:=by simpa[bA]using e
  exact⟨bN this,af _⟩
 ·next e=>
  have:¬h'.low<h.low:=by intro e2;rw[<-bA]at e2;rw[e2]at e;cases e
  exact⟨af _,by omega⟩
theorem A9{pre:Nat}{iv:List (Nat×Nat×Nat)}(g:Gd (h.part pre iv) h'):Gd h (h.whole h'):=by
 obtain⟨l1,l2⟩:=BC h h';refine⟨⟨g.wf.bd,g.wf.lt⟩,⟨g.good.next,l1,rfl,fun k hk hl=>g.good.keep k hk (aX hl l2),fun k hk hd=>g.good.dead k hk fun hl=>hd ?_⟩⟩;obtain⟨b,e⟩:=cT.1 hl;exact bH (tW e)
theorem BM{o:RO}{l:List RO}{j:Nat}{iv:List (Nat×Nat×Nat)}{rw:List (Nat×Bool)}(e:ku rec (o::l) j iv rw tm h=some (tm',h')):
  (ll o tm=some false/\ku rec l (j+1) iv rw (kR tm o.dst .any) h=some (tm',h'))\/
  (ll o tm=some true/\o.x.isT=true/\∃c ob h1,xT o.x tm h.next=some (c,ob)/\h.nu ob=some h1/\ku rec l (j+1) (match ob with|none=>iv|some _=>(j,h.next,h1.next)::iv) rw (kR tm o.dst c) h1=some (tm',h'))\/
  (ll o tm=some true/\o.x.isT=false/\∃c h1,xR rec o.x tm (h.part o.pre iv)=some (c,h1)/\uz o.pre (Nat.blt h1.low h.next) rw=false/\
   ku rec l (j+1) (match Nat.blt h.next h1.next with|true=>(j,h.next,h1.next)::iv|false=>iv) ((j,Nat.blt h1.low h.next)::rw) (kR tm o.dst c) (h.whole h1)=some (tm',h')):=by
 simp only[ku]at e;split at e
 ·next hw=>
  split at e
  ·next hT=>
   split at e
   ·next c e1=>exact .inr (.inl ⟨hw,hT,c,none,h,e1,rfl,e⟩)
   ·next c b e1=>
    split at e
    ·next h1 e2=>exact .inr (.inl ⟨hw,hT,c,some b,h1,e1,e2,e⟩)
    ·cases e
   ·cases e
  ·next hT=>
   split at e
   ·next c h1 e1=>
    split at e
    ·cases e
    ·next hcl=>exact .inr (.inr ⟨hw,hT,c,h1,e1,hcl,e⟩)
   ·cases e
 ·next hw=>exact .inl ⟨hw,e⟩
 ·cases e
theorem wC(hg:fF rec):∀(r:List RO) (j:Nat) (iv:List (Nat×Nat×Nat)) (rw:List (Nat×Bool)) (tm:Tm) (h:H) (tm':Tm) (h':H),ku rec r j iv rw tm h=some (tm',h')->Wf h->Gd h h'
 |[],j,iv,rw,tm,h,tm',h',e,f=>by
  simp only[ku,ak,aJ]at e;obtain⟨_,rfl⟩:=e;exact Gd.refl f
 |o::l,j,iv,rw,tm,h,tm',h',e,f=>by
  rcases BM e with⟨_,e⟩|⟨_,_,c,ob,h1,_,e2,e⟩|⟨_,_,c,h1,e1,_,e⟩
  ·exact wC hg l _ _ _ _ _ _ _ e f
  ·have g1:=sV f e2;exact g1.trans (wC hg l _ _ _ _ _ _ _ e g1.wf)
  ·have g1:=A9 (qM hg (nK f) e1);exact g1.trans (wC hg l _ _ _ _ _ _ _ e g1.wf)
def F3(P:Program)(rec:Rec):Prop:=∀(F:Fence) (_:FC F) (Q:Exit->Act->World->Prop) (ops:Array Oper) (id n:Nat) (_:n<1000000) (r:List RO) (_:iE P n true ops [] ops.toList (mc ops.toList [])=some r)
 (tm:Tm) (h:H) (tm':Tm) (h':H) (_:ku rec r 0 [] [] tm h=some (tm',h')) (_:Wf h) (A:Nat->Prop) (ρ:Nat->Nat) (w:World) (a:Act) (ds:List Nat) (_:Rel P A ρ w h) (_:Dj A h h') (_:Fr P A ρ w n ds tm a)
 (_:∀ρ' w' a',cQ P A ρ w h ρ' w' h'->Fr P (Ext A h h') ρ' w' n ds tm' a'->Q .normal a' w'),(Code.region id ops true).wpIn F 0 P Q a w
end CI
end
section
open Go.RowKit
namespace CI
variable {P : Program} {h h' h'' : H} {rec : Rec} {E : Env}
def vN(rec:Rec):Prop:=∀cc tm ds rd h e tm' ds' h',rec (.code cc tm ds rd h)=some (.code e tm' ds' h')->Wf h->Gd h h'
theorem rn:∀(ds:List Nat) (h h':H),lL ds h=some h'->Wf h->Gd h h'
 |[],h,h',e,f=>by simp only[lL,ak]at e;subst e;exact Gd.refl f
 |k::l,h,h',e,f=>by
  simp only[lL]at e;split at e
  ·next hb=>
   have g:=kQ (b:=some (.defd false)) f (bH hb);exact g.trans (rn l _ _ e g.wf)
  ·cases e
theorem Hn{l:Nat}{e:Ex}{c:C}(hh:Fb l e h=some (c,h'))(f:Wf h):Gd h h':=by
 unfold Fb at hh;split at hh
 ·next hb=>
  split at hh<;>(simp only[ak,aJ]at hh;obtain⟨_,rfl⟩:=hh;exact kQ f (bH hb))
 ·cases hh
theorem SW(hr:fF rec)(hc:vN rec):fF (body E rec)/\vN (body E rec):=by
 constructor
 ·intro f args h c h' e fh;simp only[body]at e;split at e
  ·split at e
   ·obtain⟨_,_,e2⟩:=aD e;simp only[Out.val.injEq]at e2;obtain⟨_,rfl⟩:=e2;exact Gd.refl fh
   ·split at e
    ·split at e
     ·cases e
     ·split at e
      ·next e1=>
       have g1:=hc _ _ _ _ _ _ _ _ _ e1 fh;split at e
       ·cases e
       ·obtain⟨h2,e2,e⟩:=aG e;obtain⟨rs,e3,e4⟩:=aD e;simp only[Out.val.injEq]at e4;obtain⟨_,rfl⟩:=e4;exact g1.trans (rn _ _ _ e2 g1.wf)
      ·cases e
    ·cases e
  ·split at e
   ·split at e
    ·split at e
     ·next e1=>
      have g1:=hc _ _ _ _ _ _ _ _ _ e1 fh;split at e
      ·next hb=>
       split at e
       ·next e2=>
        have g0:=hc _ _ _ _ _ _ _ _ _ e2 (kQ g1.wf (bH hb)).wf;have g3:=g1.trans ((kQ g1.wf (bH hb)).trans g0);obtain⟨⟨c',h3⟩,e3,e4⟩:=aD e;simp only[Out.val.injEq]at e4;obtain⟨_,rfl⟩:=e4;exact g3.trans (Hn e3 g3.wf)
       ·cases e
      ·cases e
     ·cases e
    ·cases e
   ·cases e
  ·cases e
 ·intro cc tm ds rd h e tm' ds' h' ee fh
  cases cc with
  |skip=>simp only[body,ak,Out.code.injEq]at ee;obtain⟨_,_,_,rfl⟩:=ee;exact Gd.refl fh
  |ret=>simp only[body,ak,Out.code.injEq]at ee;obtain⟨_,_,_,rfl⟩:=ee;exact Gd.refl fh
  |exit id=>simp only[body,ak,Out.code.injEq]at ee;obtain⟨_,_,_,rfl⟩:=ee;exact Gd.refl fh
  |seq a b=>
   simp only[body]at ee;split at ee
   ·next e1=>
    have g1:=hc _ _ _ _ _ _ _ _ _ e1 fh;exact g1.trans (hc _ _ _ _ _ _ _ _ _ ee g1.wf)
   ·exact hc _ _ _ _ _ _ _ _ _ ee fh
  |cond c a b=>
   simp only[body]at ee;split at ee
   ·exact hc _ _ _ _ _ _ _ _ _ ee fh
   ·exact hc _ _ _ _ _ _ _ _ _ ee fh
   ·cases ee
  |block id c=>
   simp only[body]at ee;split at ee
   ·next e1=>
    have g1:=hc _ _ _ _ _ _ _ _ _ e1 fh;split at ee<;>(simp only[ak,Out.code.injEq]at ee;obtain⟨_,_,_,rfl⟩:=ee;exact g1)
   ·exact hc _ _ _ _ _ _ _ _ _ ee fh
  |loop c=>
   simp only[body]at ee;split at ee
   ·next e1=>
    have g1:=hc _ _ _ _ _ _ _ _ _ e1 fh;exact g1.trans (hc _ _ _ _ _ _ _ _ _ ee g1.wf)
   ·exact hc _ _ _ _ _ _ _ _ _ ee fh
  |reg draw ops=>
   simp only[body]at ee;split at ee
   ·next e1=>
    simp only[ak,Out.code.injEq]at ee;obtain⟨_,rfl,_,rfl⟩:=ee;split at e1
    ·exact wC hr _ _ _ _ _ _ _ _ e1 fh
    ·exact wB hr _ _ _ _ _ e1 fh
   ·cases ee
  |rng f ps a b=>
   simp only[body]at ee;split at ee
   ·next d ds1 h1 e1=>
    have g1:Gd h h1:=by
     split at e1
     ·split at e1
      ·simp only[ak,aJ]at e1;obtain⟨_,_,rfl⟩:=e1;exact Gd.refl fh
      ·cases e1
     ·obtain⟨h2,e2,e3⟩:=aD e1;simp only[aJ]at e3;obtain⟨_,_,rfl⟩:=e3;exact nd fh e2
    split at ee
    ·next h2 e2=>
     have g2:=g1.trans (nd g1.wf e2);split at ee
     ·next e3=>
      split at e3
      ·next g caps _=>
       have g3:=g2.trans (hr _ _ _ _ _ e3 g2.wf);split at ee
       ·cases ee
       ·next hb=>
        simp only[ak,Out.code.injEq]at ee;obtain⟨_,_,_,rfl⟩:=ee;exact g3.trans (kQ g3.wf (bH hb))
       ·cases ee
      ·cases e3
     ·cases ee
    ·cases ee
   ·cases ee
theorem sy(E:Env):∀n,fF (run E n)/\vN (run E n)
 |0=>⟨fun _ _ _ _ _ e=>by simp[run]at e,fun _ _ _ _ _ _ _ _ _ e=>by simp[run]at e⟩
 |n+1=>SW (sy E n).1 (sy E n).2
end CI
end
section
open Go.RowKit
namespace CI
variable {P : Program} {A A' : Nat->Prop} {ρ ρ' : Nat->Nat} {w w' : World} {tm tm' : Tm} {a : Act} {c : C} {h h' h'' : H} {rec : Rec} {E : Env} {n : Nat} {ds ds' : List Nat}
def exM:Ex->Exit->Prop
 | .norm,.normal=>True
 | .ret,.ret=>True
 | .exit i,.exit j=>i=j
 |_,_=>False
def lf(P:Program)(A:Nat->Prop)(ρ:Nat->Nat)(w:World)(h:H)(n:Nat)(e:Ex)(tm':Tm)(ds':List Nat)(h':H):Exit->Act->World->Prop:=fun e' a' w'=>
 exM e e'/\∃ρ',cQ P A ρ w h ρ' w' h'/\Fr P (Ext A h h') ρ' w' n ds' tm' a'
def fc(rd:Option Nat)(ρ:Nat->Nat):Fence:=match rd with|none=>Fence.wide|some l=>Fence.wide.inRound (ρ l)
theorem QA(rd:Option Nat)(ρ:Nat->Nat):FC (fc rd ρ):=by
 cases rd with
 |none=>exact .inl rfl
 |some l=>exact .inr ⟨_,rfl⟩
theorem Qz{rd:Option Nat}(h:∀l,rd=some l->ρ' l=ρ l):fc rd ρ'=fc rd ρ:=by
 cases rd with
 |none=>rfl
 |some l=>simp only[fc,h l rfl]
def qz(P:Program)(rec:Rec):Prop:=∀cc tm ds rd h e tm' ds' h',rec (.code cc tm ds rd h)=some (.code e tm' ds' h')->Wf h->∀n c A ρ w a,comp P n c=some cc->n<1000000->Rel P A ρ w h->Dj A h h'->Fr P A ρ w n ds tm a->(∀l,rd=some l->A l)->
 c.wpIn (fc rd ρ) 0 P (lf P A ρ w h n e tm' ds' h') a w
theorem Ag{h1:H}{ρ1:Nat->Nat}{w1:World}{e:Ex}{e':Exit}{a':Act}(p:cQ P A ρ w h ρ1 w1 h1)(g:Gd h h1)(g':Gd h1 h')(q:lf P (Ext A h h1) ρ1 w1 h1 n e tm' ds' h' e' a' w'):lf P A ρ w h n e tm' ds' h' e' a' w':=by
 obtain⟨h1,ρ2,hp,hf⟩:=q;exact⟨h1,ρ2,p.trans g.good hp g'.good,hf.mo (Mo.ext g.good.next g'.good.next _) (Lt.refl _)⟩
theorem Fr.ext(f:Fr P A ρ w n ds tm a):Fr P (Ext A h h') ρ w n ds tm a:=f.mo ⟨fun _ hk=>.inl hk,fun _ _=>rfl⟩ (Lt.refl w)
theorem Gb{F:Fence}{m:Nat}{c:Code}{Q:Exit->Act->World->Prop}(I:Nat->Act->World->Prop){k:Nat}(h₀:I k a w)
  (round:∀k a w,I k a w->c.wpIn F m P (Exit.then (fun a' w'=>∃k',k'<k/\I k' a' w') Q) a w):(Code.loop c).wpIn F m P Q a w:=by
 intro b kk cs hro hb hr
 have key : ∀ j a w, I j a w ->
     ∃e a' w',Q e a' w'/\ArrivesIn (Machine.fenced P F) P (lone (b.atR a (.code c:: .inLoop c::kk)) cs w) b kk cs e a' w':=by
  intro j
  induction j using Nat.strongRecOn with
  |_ j ih=>
   intro a w hI;obtain⟨e,a₁,w₁,hq,harr⟩:=round j a w hI b (.inLoop c::kk) cs hro hb hr
   cases e with
   |normal=>
    obtain⟨k',hlt,hI₁⟩:=hq;obtain⟨e₂,a₂,w₂,hq₂,harr₂⟩:=ih k' hlt a₁ w₁ hI₁;exact⟨e₂,a₂,w₂,hq₂, .of_steps (StepsIn.trans harr (.one (fenced_calm hb hr rfl) stepR_inLoop)) harr₂⟩
   |exit id=>exact⟨_,a₁,w₁,hq, .pass (x:= .inLoop c) rfl (fun _ _=> .inl aV) harr⟩
   |goto l=>exact⟨_,a₁,w₁,hq, .pass (x:= .inLoop c) rfl (fun _ _=> .inl aV) harr⟩
   |ret=>exact⟨_,a₁,w₁,hq, .pass (x:= .inLoop c) rfl (fun _ _=> .inl aV) harr⟩
   |panic ch=>exact⟨_,a₁,w₁,hq, .pass (x:= .inLoop c) rfl (fun _ _=> .inl aV) harr⟩
   |outgrown=>exact⟨_,a₁,w₁,hq, .pass (x:= .inLoop c) rfl (fun _ _=> .inl aV) harr⟩
 obtain⟨e,a',w',hq,harr⟩:=key k a w h₀;exact⟨e,a',w',hq, .of_steps (.one (fenced_calm hb hr rfl) stepR_loop) harr⟩
theorem uq{e':Exit}(h:exM .norm e'):e'= .normal:=by cases e'<;>simp[exM]at h⊢
theorem si{h1:H}{e:Ex}{F:Fence}{c:Code}{tm1:Tm}{ds1:List Nat}{K:Act->World->Prop}{Q:Exit->Act->World->Prop}(hw:c.wpIn F 0 P (lf P A ρ w h n e tm1 ds1 h1) a w)
  (hk:e= .norm->∀ρ1 w1 a1,cQ P A ρ w h ρ1 w1 h1->Fr P (Ext A h h1) ρ1 w1 n ds1 tm1 a1->K a1 w1) (hq:e≠ .norm->∀e' a1 w1,lf P A ρ w h n e tm1 ds1 h1 e' a1 w1->Q e' a1 w1):c.wpIn F 0 P (Exit.then K Q) a w:=by
 refine wpIn_mono hw fun e' a1 w1 hp=>?_
 cases e with
 |norm=>
  obtain⟨h1,ρ1,hp,hf⟩:=hp;rw[uq h1];exact hk rfl ρ1 w1 a1 hp hf
 |ret=>
  have hp':=hp;obtain⟨h1,_⟩:=hp;cases e'<;>simp[exM]at h1;exact hq aV _ _ _ hp'
 |exit i=>
  have hp':=hp;obtain⟨h1,_⟩:=hp;cases e'<;>simp[exM]at h1;exact hq aV _ _ _ hp'
theorem SO{N:Nat}(hR:∀m,m<=N->nv P (run E m))(hC:∀m,m<=N->qz P (run E m))(hD:∀m,m<=N->F3 P (run E m))(hrng:∀f ps x y cc tm ds rd h e tm' ds' h',run E (N+1) (.code cc tm ds rd h)=some (.code e tm' ds' h')->Wf h->∀n A ρ w a,comp P n (.rangeFunc f ps x y)=some cc->n<1000000->Rel P A ρ w h->Dj A h h'->Fr P A ρ w n ds tm a->(∀l,rd=some l->A l)->(Code.rangeFunc f ps x y).wpIn (fc rd ρ) 0 P (lf P A ρ w h n e tm' ds' h') a w):qz P (run E (N+1)):=by
 intro cc tm ds rd h e tm' ds' h' ee fh n c A ρ w a hcc hn t hd hf hrd;have hFC:=QA rd ρ;have gd:=fun m=>sy E m
 cases c with
 |skip=>
  simp only[comp,ak]at hcc;subst hcc;simp only[run,body,ak,Out.code.injEq]at ee;obtain⟨rfl,rfl,rfl,rfl⟩:=ee;exact wpIn_skip ⟨trivial,ρ,cQ.refl t,hf.ext⟩
 |label l=>
  simp only[comp,ak]at hcc;subst hcc;simp only[run,body,ak,Out.code.injEq]at ee;obtain⟨rfl,rfl,rfl,rfl⟩:=ee;exact wpIn_label ⟨trivial,ρ,cQ.refl t,hf.ext⟩
 |ret=>
  simp only[comp,ak]at hcc;subst hcc;simp only[run,body,ak,Out.code.injEq]at ee;obtain⟨rfl,rfl,rfl,rfl⟩:=ee;exact wpIn_ret ⟨trivial,ρ,cQ.refl t,hf.ext⟩
 |exit id=>
  simp only[comp,ak]at hcc;subst hcc;simp only[run,body,ak,Out.code.injEq]at ee;obtain⟨rfl,rfl,rfl,rfl⟩:=ee;exact wpIn_exit ⟨rfl,ρ,cQ.refl t,hf.ext⟩
 |goto l=>simp[comp]at hcc
 |scope x=>simp[comp]at hcc
 |refuse s=>simp[comp]at hcc
 |seq x y=>
  simp only[comp]at hcc;obtain⟨cx,e1,hcc⟩:=aG hcc;obtain⟨cy,e2,rfl⟩:=aD hcc;simp only[run,body]at ee;split at ee
  ·next tm1 ds1 h1 e3=>
   have g1:=(gd N).2 _ _ _ _ _ _ _ _ _ e3 fh;have g2:=(gd N).2 _ _ _ _ _ _ _ _ _ ee g1.wf;refine wpIn_seq (si (hC N (af _) _ _ _ _ _ _ _ _ _ e3 fh n x A ρ w a e1 hn t (hd.left g2.good.next) hf hrd) (fun _ ρ1 w1 a1 hp hf1=>?_) (fun he=>absurd rfl he));have hfc:fc rd ρ1=fc rd ρ:=Qz fun l hl=>(hp.mo (hd.left g2.good.next)).eq l (hrd l hl);rw[<-hfc];exact wpIn_mono (hC N (af _) _ _ _ _ _ _ _ _ _ ee g1.wf n y _ ρ1 w1 a1 e2 hn hp.rel (hd.right g1.good.next) hf1 (fun l hl=>.inl (hrd l hl))) fun e' a' w' q=>Ag hp g1 g2 q
  ·next hne=>
   refine wpIn_seq (si (hC N (af _) _ _ _ _ _ _ _ _ _ ee fh n x A ρ w a e1 hn t hd hf hrd) (fun he=>?_) (fun _ e' a1 w1 q=>q));subst he;exact absurd ee (hne _ _ _)
 |cond x y z=>
  simp only[comp]at hcc;obtain⟨cx,e1,hcc⟩:=aG hcc;obtain⟨cy,e2,rfl⟩:=aD hcc;have hx:=hf.tr.op x;unfold OpV at hx;simp only[run,body]at ee;split at ee
  ·next e3=>
   rw[e3]at hx;exact wpIn_cond_true hx.bool (hC N (af _) _ _ _ _ _ _ _ _ _ ee fh n y A ρ w a e1 hn t hd hf hrd)
  ·next e3=>
   rw[e3]at hx;exact wpIn_cond_false hx.bool (hC N (af _) _ _ _ _ _ _ _ _ _ ee fh n z A ρ w a e2 hn t hd hf hrd)
  ·cases ee
 |block id x=>
  simp only[comp]at hcc;obtain⟨cx,e1,rfl⟩:=aD hcc;simp only[run,body]at ee;refine wpIn_block ?_;split at ee
  ·next i tm1 ds1 h1 e3=>
   split at ee
   ·next hi=>
    have hi':=gJ hi;simp only[ak,Out.code.injEq]at ee;obtain⟨rfl,rfl,rfl,rfl⟩:=ee;refine wpIn_mono (hC N (af _) _ _ _ _ _ _ _ _ _ e3 fh n x A ρ w a e1 hn t hd hf hrd) fun e' a' w' q=>?_;obtain⟨q1,q2⟩:=q;cases e'<;>simp[exM]at q1;subst q1;simp only[Exit.inBlock,hi',if_true];exact⟨trivial,q2⟩
   ·next hi=>
    have hi':=yT hi;simp only[ak,Out.code.injEq]at ee;obtain⟨rfl,rfl,rfl,rfl⟩:=ee;refine wpIn_mono (hC N (af _) _ _ _ _ _ _ _ _ _ e3 fh n x A ρ w a e1 hn t hd hf hrd) fun e' a' w' q=>?_;obtain⟨q1,q2⟩:=q;cases e'<;>simp[exM]at q1;subst q1;simp only[Exit.inBlock,hi',if_false];exact⟨rfl,q2⟩
  ·next hne=>
   refine wpIn_mono (hC N (af _) _ _ _ _ _ _ _ _ _ ee fh n x A ρ w a e1 hn t hd hf hrd) fun e' a' w' q=>?_
   cases e with
   |norm=>have:=uq q.1;subst this;exact q
   |ret=>
    have q1:=q.1;cases e'<;>simp[exM]at q1;exact q
   |exit i=>exact absurd ee (hne _ _ _ _)
 |loop x=>
  simp only[comp]at hcc;obtain⟨cx,e1,rfl⟩:=aD hcc;refine Gb (fun k a1 w1=>k<=N+1/\∃tm1 ds1 h1 ρ1,run E k (.code (.loop cx) tm1 ds1 rd h1)=some (.code e tm' ds' h')/\Gd h h1/\cQ P A ρ w h ρ1 w1 h1/\Fr P (Ext A h h1) ρ1 w1 n ds1 tm1 a1) (k:=N+1) ⟨af _,tm,ds,h,ρ,ee,Gd.refl fh,cQ.refl t,hf.ext⟩ ?_;rintro k a1 w1 ⟨hk,tm1,ds1,h1,ρ1,er,g1,p1,f1⟩
  cases k with
  |zero=>simp[run]at er
  |succ k=>
   have hkN:k<=N:=by omega
   have gEnd:=(gd (k+1)).2 _ _ _ _ _ _ _ _ _ er g1.wf;have hd1:=hd.right g1.good.next
   have hfc:fc rd ρ1=fc rd ρ:=Qz fun l hl=>(p1.mo (hd.left gEnd.good.next)).eq l (hrd l hl);simp only[run,body]at er;rw[<-hfc];split at er
   ·next tm2 ds2 h2 e3=>
    have g2:=(gd k).2 _ _ _ _ _ _ _ _ _ e3 g1.wf;have g3:=(gd k).2 _ _ _ _ _ _ _ _ _ er g2.wf;refine si (hC k hkN _ _ _ _ _ _ _ _ _ e3 g1.wf n x _ ρ1 w1 a1 e1 hn p1.rel (hd1.left g3.good.next) f1 (fun l hl=>.inl (hrd l hl))) (fun _ ρ2 w2 a2 hp hf2=>⟨k,by omega,by omega,tm2,ds2,h2,ρ2,er,g1.trans g2,p1.trans g1.good hp g2.good,hf2.mo (Mo.ext g1.good.next g2.good.next _) (Lt.refl _)⟩) (fun he=>absurd rfl he)
   ·next hne=>
    have g2:=(gd k).2 _ _ _ _ _ _ _ _ _ er g1.wf;refine si (hC k hkN _ _ _ _ _ _ _ _ _ er g1.wf n x _ ρ1 w1 a1 e1 hn p1.rel hd1 f1 (fun l hl=>.inl (hrd l hl))) (fun he=>?_) (fun _ e' a2 w2 q=>Ag p1 g1 g2 q);subst he;exact absurd er (hne _ _ _)
 |region id ops draw=>
  simp only[comp]at hcc;obtain⟨r,e1,rfl⟩:=aD hcc;simp only[run,body]at ee;split at ee
  ·next tm1 h1 e2=>
   simp only[ak,Out.code.injEq]at ee;obtain⟨rfl,rfl,rfl,rfl⟩:=ee
   cases draw with
   |true=>exact hD N (af _) (fc rd ρ) hFC _ ops id n hn r e1 tm h tm1 h1 e2 fh A ρ w a ds t hd hf (fun ρ' w' a' hp hf'=>⟨trivial,ρ',hp,hf'⟩)
   |false=>
    refine wpIn_region ?_;rw[List.range_eq_range'];have:=tT (hR N (af _)) (gd N).1 hFC (Q:=lf P A ρ w h n .norm tm1 ds h1) (ops:=ops) hn ops.toList 0 [] _ r (fun i o hi=>by rw[bu];simpa using hi) e1 tm h tm1 h1 A ρ w a e2 fh t hd hf (fun ρ' w' a' hp hf'=>⟨trivial,ρ',hp,hf'⟩);simpa using this
  ·cases ee
 |rangeFunc f ps x y=>exact hrng f ps x y cc tm ds rd h e tm' ds' h' ee fh n A ρ w a hcc hn t hd hf hrd
end CI
end
section
open Go.RowKit
namespace CI
variable {P : Program} {A A' : Nat->Prop} {ρ ρ' : Nat->Nat} {w w' : World} {tm tm' : Tm} {a : Act} {c : C} {h h' h'' : H} {rec : Rec} {E : Env} {n : Nat} {ds ds' : List Nat}
theorem rG(w:World)(o:Obj):Below w.heap.size w (w.alloc o):=(Below.refl _ _).alloc (af _) _
theorem zC{r:Nat}{o:Obj}(h:w.heap[r]?=some o)(ho:∀c e f,o≠ .cells c e f):NW w r:=fun m e=>by
 unfold World.cell? at e;rw[h]at e;cases o<;>simp at e;exact absurd rfl (ho _ _ _)
theorem qN{r:Nat}{o:Obj}(h:w.heap[r]?=some o)(ho:∀c e f,o≠ .cells c e f):w.shape? r=none:=by
 unfold World.shape?;rw[h];cases o<;>first|rfl|exact absurd rfl (ho _ _ _)
theorem tZ{k:Nat}{b b0:B}{o o':Obj}(t:Rel P A ρ w h)(hb:h.get k=some b0)(ho:w.heap[ρ k]?=some o)(hoc:∀c e f,o≠ .cells c e f)(hB:BR P A ρ (w.putObj (ρ k) o') (ρ k) b):cQ P A ρ w h ρ (w.putObj (ρ k) o') (h.set k (some b)):=by
 refine DZ t (bH hb) ⟨rfl,rfl,rfl,by simp,fun j _ hj=>World.putObj_heap_other hj⟩ (zC ho hoc) (fun s hs=>?_) hB;rw[qN ho hoc]at hs;cases hs
theorem N3{N:Nat}(hR:nv P (run E N)):∀f ps x y cc tm ds rd h e tm' ds' h',run E (N+1) (.code cc tm ds rd h)=some (.code e tm' ds' h')->Wf h->∀n A ρ w a,comp P n (.rangeFunc f ps x y)=some cc->n<1000000->Rel P A ρ w h->Dj A h h'->Fr P A ρ w n ds tm a->(∀l,rd=some l->A l)->(Code.rangeFunc f ps x y).wpIn (fc rd ρ) 0 P (lf P A ρ w h n e tm' ds' h') a w:=by
 intro f ps x y cc tm ds rd h e tm' ds' h' ee fh n A ρ w a hcc hn t hd hf hrd;have hFC:=QA rd ρ;simp only[comp]at hcc;split at hcc
 ·cases hcc
 next hall=>
 obtain⟨ca,c1,hcc⟩:=aG hcc;obtain⟨cb,c2,rfl⟩:=aD hcc;have hps:∀u∈ps.toList,u<n:=fun u hu=>by
  have:=eh.1 hall u hu;simpa[bA]using this
 simp only[run,body]at ee;split at ee
 case h_2=>cases ee
 next d ds1 h1 e1=>
 split at ee
 case h_2=>cases ee
 next h2 e2=>
 split at ee
 case h_2=>cases ee
 next c3 h3 e3=>
 split at e3
 case h_2=>cases e3
 next g caps ef=>
 split at ee
 ·cases ee
 case h_3=>cases ee
 next st p tm2 ps2 a2 b2 d2 hst hb3=>
 simp only[ak,Out.code.injEq]at ee;obtain⟨rfl,rfl,rfl,rfl⟩:=ee;have g1:Gd h h1:=by
  split at e1
  ·split at e1
   ·simp only[ak,aJ]at e1;obtain⟨_,_,rfl⟩:=e1;exact Gd.refl fh
   ·cases e1
  ·obtain⟨hx,ex,e3x⟩:=aD e1;simp only[aJ]at e3x;obtain⟨_,_,rfl⟩:=e3x;exact nd fh ex
 have g2:=nd g1.wf e2;have g3:=(sy E N).1 _ _ _ _ _ e3 g2.wf;have g4:=kQ (b:=some (B.loop .vp p tm2 ps2 a2 b2 d2)) g3.wf (bH hb3);have hd1:Dj A h h1:=hd.left (aA g2.good.next (aA g3.good.next g4.good.next));have hd2:Dj (Ext A h h1) h1 h2:=(hd.right g1.good.next).left (aA g3.good.next g4.good.next);have hd3:Dj (Ext (Ext A h h1) h1 h2) h2 h3:=((hd.right g1.good.next).right g2.good.next).left g4.good.next
 have key:∃ρ1 w1 mark,cQ P A ρ w h ρ1 w1 h1/\Ext A h h1 d/\(∀fn,(Instr.enterLoop fn a.tmps ps x y (fc rd ρ).round).run P w= .ok (w1.heap.size,mark) (w1.alloc (.loop ⟨.ready,none,fn,a.tmps,ps,x,y,ρ1 d⟩)))/\mark++a.defers=ds1.map (vH ρ1)/\∀k∈ds1,Ext A h h1 k:=by
  cases rd with
  |none=>
   obtain⟨h1',k1,k2⟩:=aD e1;simp only[aJ]at k2;obtain⟨rfl,rfl,rfl⟩:=k2;have hB:∀A' ρ',Mo A A' ρ ρ'->ρ' h.next=w.heap.size->A' h.next->BR P A' ρ' (w.alloc (.deferred (some []))) w.heap.size (.defd true):=fun A' ρ' _ _ _=>heap_alloc_new w _
   have hp:=nM t k1 hd1 (rG w (.deferred (some []))) (af _) aV hB;have hnx:Ext A h h1' h.next:=.inr ⟨af _,by have:=(dD k1).1;omega⟩
   have hat:at' ρ h.next w.heap.size h.next=w.heap.size:=by unfold at';rw[an rfl]
   refine⟨_,w.alloc (.deferred (some [])),[{target:=.collected w.heap.size,args:=#[]}],hp,hnx,fun fn=>?_,?_,fun k hk=>?_⟩
   ·have:=run_enterLoop_outer (P:=P) (w:=w) fn a.tmps ps x y;rw[hat];show(Instr.enterLoop fn a.tmps ps x y none).run P w=_;rw[this];simp
   ·rw[eM,hf.df];simp only[List.singleton_append,vH,hat,List.cons.injEq,true_and];exact lD fun k hk=>by unfold vH;rw[(hp.mo hd1).eq k (hf.nm k hk)]
   ·rcases bP.1 hk with rfl|hk
    ·exact hnx
    ·exact .inl (hf.nm k hk)
  |some l=>
   simp only at e1;split at e1
   ·next st' p' tmx psx ax bx dx hbl=>
    simp only[ak,aJ]at e1;obtain⟨rfl,rfl,rfl⟩:=e1;obtain⟨_,_,_,hA,fn',tmps',a',b',hh,_⟩:=t.blk l _ hbl;refine⟨ρ,w,[],cQ.refl t,.inl hA,fun fn=>?_,by rw[fM,hf.df],fun k hk=>.inl (hf.nm k hk)⟩;show(Instr.enterLoop fn a.tmps ps x y (some (ρ l))).run P w=_;unfold Instr.enterLoop;simp only[Sem.run_bind,run_getLoop hh,Result.andThen_ok,run_newObj_alloc,Sem.run_pure]
   ·cases e1
 obtain⟨ρ1,w1,mark,p1,hAd,henter,hmark,hds1⟩:=key;have hf1:=hf.mo (p1.mo hd1) p1.lt;refine wpIn_rangeFunc fun fn _=>?_;have hB:∀A' ρ',Mo (Ext A h h1) A' ρ1 ρ'->ρ' h1.next=w1.heap.size->A' h1.next->BR P A' ρ' (w1.alloc (.loop ⟨.ready,none,fn,a.tmps,ps,x,y,ρ1 d⟩)) w1.heap.size (.loop .ready .norm tm ps.toList ca cb d):=fun A' ρ' m _ _=>
  ⟨m.sub d hAd,fn,a.tmps,x,y,by rw[m.eq d hAd];exact heap_alloc_new w1 _,hf1.tr.mo m (Lt.below (rG w1 _)),by rw[hf.sz];exact c1,by rw[hf.sz];exact c2,by rw[hf.sz];exact hn,fun u hu=>by rw[hf.sz];exact hps u hu⟩
 have p2:=nM p1.rel e2 hd2 (rG w1 (.loop ⟨.ready,none,fn,a.tmps,ps,x,y,ρ1 d⟩)) (af _) aV hB;have hL:at' ρ1 h1.next w1.heap.size h1.next=w1.heap.size:=by unfold at';rw[an rfl]
 have hAL:Ext (Ext A h h1) h1 h2 h1.next:=.inr ⟨af _,by have:=(dD e2).1;omega⟩
 have hfv:=hf.tr.op f;unfold OpV at hfv;rw[ef]at hfv;have hfv2:=VR.mo (p2.mo hd2) p2.lt _ _ (VR.mo (p1.mo hd1) p1.lt _ _ hfv);have hcall:=hR _ _ _ _ _ e3 g2.wf _ _ _ _ #[.func (.yield w1.heap.size) #[] #[]] p2.rel hd3 hfv2 (by
  simp only[VRl,VR];exact⟨_,[],rfl,⟨hAL,by rw[hL]⟩,rfl⟩)
 obtain⟨dd,hdd,hk⟩:=hcall;have hk':∃f' args',(invoke dd.target dd.args).run P (w1.alloc (.loop ⟨.ready,none,fn,a.tmps,ps,x,y,ρ1 d⟩))= .ok (.enter f' args') (w1.alloc (.loop ⟨.ready,none,fn,a.tmps,ps,x,y,ρ1 d⟩))/\CallsIn Fence.wide 0 P f' args' (w1.alloc (.loop ⟨.ready,none,fn,a.tmps,ps,x,y,ρ1 d⟩)) (jQ P (Ext (Ext A h h1) h1 h2) (at' ρ1 h1.next w1.heap.size) (w1.alloc (.loop ⟨.ready,none,fn,a.tmps,ps,x,y,ρ1 d⟩)) h2 c3 h3):=by
  rcases hk with⟨f',args',q1,q2⟩|⟨l,g',tmps,s,b,q0,_⟩
  ·exact⟨f',args',q1,q2⟩
  ·simp only[VR]at hfv;obtain⟨us,e5,_⟩:=hfv;rw[e5]at q0;cases q0
 obtain⟨f',args',q1,q2⟩:=hk';refine⟨w1.heap.size,mark,_,dd,_,f',args',_,henter fn,?_,fun _ _=>hFC.fn _,q1,hFC.depth,(hFC.calls q2).mono fun e5 w3 hpost=>?_⟩
 ·simp only[resolve,pc,eM,iH];exact hdd
 obtain⟨u,ρ3,rfl,p3,_⟩:=hpost;have hr3:ρ3 h1.next=w1.heap.size:=by rw[p3.rho h1.next (.inl (by have:=(dD e2).1;omega)),hL]
 obtain⟨_,_,_,hAd2,fn',tmps',x',y',hh,hTR,hrest⟩:=p3.rel.blk h1.next _ hb3
 have hnb:AO st≠ .busy:=fun e=>by
  cases st<;>simp[AO]at e;exact hst rfl
 have hend:=run_endLoop (P:=P) hh hnb;refine⟨rE p,_,by rw[<-hr3];exact hend,?_⟩;have hlt4:Lt w3 (w3.putObj (ρ3 h1.next) (.loop ⟨.exhausted,rE p,fn',tmps',ps2.toArray,x',y',ρ3 d2⟩)):=Lt.chg (g:=ρ3 h1.next) ⟨rfl,rfl,rfl,by simp,fun j _ hj=>World.putObj_heap_other hj⟩ (zC hh aV) (fun s hs=>by rw[qN hh aV]at hs;cases hs);have hpo:=tZ (o':=.loop ⟨.exhausted,rE p,fn',tmps',ps2.toArray,x',y',ρ3 d2⟩) (b:=.loop .vp p tm2 ps2 a2 b2 d2) p3.rel hb3 hh aV ⟨hAd2,fn',tmps',x',y',World.putObj_heap_same (iu.1 hh).1,hTR.mo (Mo.refl _ _) hlt4,hrest⟩;have pAll:=p1.trans g1.good (p2.trans g2.good (p3.trans g3.good hpo g4.good) (g3.good.trans g4.good)) (g2.good.trans (g3.good.trans g4.good));have pT:=p2.trans g2.good (p3.trans g3.good hpo g4.good) (g3.good.trans g4.good);have hdT:Dj (Ext A h h1) h1 (h3.set h1.next (some (.loop .vp p tm2 ps2 a2 b2 d2))):=hd.right g1.good.next
 have hfE:Fr P (Ext A h (h3.set h1.next (some (.loop .vp p tm2 ps2 a2 b2 d2)))) ρ3 (w3.putObj (ρ3 h1.next) (.loop ⟨.exhausted,rE p,fn',tmps',ps2.toArray,x',y',ρ3 d2⟩)) n ds1 tm {a with defers:=mark++a.defers}:=by
  have hmo:Mo (Ext A h h1) (Ext A h (h3.set h1.next (some (.loop .vp p tm2 ps2 a2 b2 d2)))) ρ1 ρ3:=⟨fun k hk=>(Ext.trans g1.good.next (aA g2.good.next (aA g3.good.next g4.good.next)) k).1 ((pT.mo hdT).sub k hk),(pT.mo hdT).eq⟩;refine Fr.mo hmo pT.lt ⟨hf1.tr,hf.sz,hds1,hmark⟩
 cases p with
 |norm=>exact⟨trivial,ρ3,pAll,hfE⟩
 |ret=>exact wpIn_ret ⟨trivial,ρ3,pAll,hfE⟩
 |exit id=>exact wpIn_exit ⟨rfl,ρ3,pAll,hfE⟩
end CI
end
section
open Go.RowKit
namespace CI
variable {P : Program} {A A' : Nat->Prop} {ρ ρ' : Nat->Nat} {w w' : World} {tm tm' : Tm} {a : Act} {c : C} {h h' h'' : H} {rec : Rec} {E : Env} {n : Nat} {ds ds' : List Nat}
theorem ev_e(u:Nat):CO.ev (T.e:Tm) (CO.t u)= .any:=by simp[CO.ev,T.zY]
theorem Aa:∀(l:List C) (k:Nat) (tm:Tm) (u:Nat),k+l.length<=1000000->CO.ev (setArgs 24 k l tm) (CO.t u)=if k<=u/\u<k+l.length then(l[u-k]?).getD .any else CO.ev tm (CO.t u)
 |[],k,tm,u,_=>by
  simp only[setArgs,ic,bZ];rw[ai aa]
 |c::l,k,tm,u,hk=>by
  simp only[setArgs,ir]at hk⊢;rw[Aa l (k+1) _ u aa,Ab aa];by_cases h1:k+1<=u/\u<k+1+l.length
  ·rw[an h1,an aa,show u-k=(u-(k+1))+1 by omega,List.getElem?_cons_succ]
  ·rw[ai h1];by_cases h2:u=k
   ·subst h2;rw[an rfl,an aa,gh];rfl
   ·rw[ai h2,ai aa]
theorem VRl.len:∀{l:List C} {vs:List Value},VRl P A ρ w l vs->vs.length=l.length
 |[],_,h=>by simp only[VRl]at h;subst h;rfl
 |d::l,vs,h=>by
  simp only[VRl]at h;obtain⟨u,rest,rfl,_,h3⟩:=h;simp[VRl.len h3]
theorem VRl.app{l2:List C}{ys:List Value}(k:VRl P A ρ w l2 ys):∀{l:List C} {xs:List Value},VRl P A ρ w l xs->VRl P A ρ w (l++l2) (xs++ys)
 |[],_,h=>by simp only[VRl]at h;subst h;exact k
 |d::l,xs,h=>by
  simp only[VRl]at h;obtain⟨u,rest,rfl,h2,h3⟩:=h;simp only[yX,VRl];exact⟨u,rest++ys,rfl,h2,VRl.app k h3⟩
theorem S6{l:List C}{vs:Array Value}(hv:VRl P A ρ w l vs.toList)(hl:l.length<=n)(hn:n<1000000):Fr P A ρ w n [] (setArgs 24 0 l .e) {tmps:=vs++Array.replicate (n-vs.size) undef,defers:=[]}:=by
 have hlen:vs.size=l.length:=by rw[<-hv.len,bW]
 refine⟨fun u=>?_,cX,(fun k hk=>by cases hk),rfl⟩;rw[Aa l 0 .e u aa];split
 ·next hu=>
  simp only[bu]at hu;obtain⟨u',k1,k2⟩:=VRl.at hv (aZ (show u-0<l.length by omega));rw[kK]at k1⊢;have e:(vs++Array.replicate (n-vs.size) undef).getD u undef=u':=by
   rw[cV,pM aa,<-eA,k1];rfl
  rw[e,aZ aa];simpa using k2
 ·rw[ev_e];simp only[VR]
def Cz(tmps:Array Value)(r:ResultVar):Sem Value:=
 match r with
 | .tmp t=>pure (tmps.getD t undef)
 | .cell a t=>do loadVar t (<-asAddr (tmps.getD a undef))
theorem JH(fn:Func)(tmps:Array Value):Go.results fn tmps=(do
 let vs<-fn.results.mapM (Cz tmps)
 pure (if h:vs.size=1 then vs[0]else .tuple vs)):=rfl
theorem Gf{fn:Func}{rvs:List RV}{rs:List C}(hr:tQ P fn.results.toList=some rvs)(he:results tm h rvs=some rs)(t:Rel P A ρ w h){tmps:Array Value}(hf:TR P A ρ w tm tmps):∃v,(Go.results fn tmps).run P w= .ok v w/\VR P A ρ w (vk rs) v:=by
 have key:∀(l:List ResultVar) (rvs:List RV) (rs:List C),tQ P l=some rvs->results tm h rvs=some rs->∃vs,(l.mapM (m:=Sem) (Cz tmps)).run P w= .ok vs w/\VRl P A ρ w rs vs:=by
  intro l
  induction l with
  |nil=>
   intro rvs rs h1 h2;simp only[tQ,ak]at h1;subst h1;simp only[results,ak]at h2;subst h2;exact⟨[],by simp,by simp only[VRl]⟩
  |cons r l ih=>
   intro rvs rs h1 h2;simp only[tQ]at h1;obtain⟨rv,e1,h1⟩:=aG h1;obtain⟨rvs',e2,rfl⟩:=aD h1
   cases r with
   |tmp u=>
    simp only[rvOf,ak]at e1;subst e1;simp only[results]at h2;obtain⟨rs',e3,rfl⟩:=aD h2;obtain⟨vs,k1,k2⟩:=ih _ _ e2 e3;refine⟨tmps.getD u undef::vs,by rw[List.mapM_cons];simp only[Cz,Sem.run_bind,Sem.run_pure,Result.andThen_ok,k1],?_⟩;simp only[VRl];exact⟨_,vs,rfl,hf u,k2⟩
   |cell u ty=>
    simp only[rvOf]at e1;obtain⟨s,e4,e1⟩:=aG e1;obtain⟨r',e5,rfl⟩:=aD e1;simp only[results]at h2;obtain⟨c,e6,h2⟩:=aG h2;obtain⟨rs',e3,rfl⟩:=aD h2;obtain⟨vs,k1,k2⟩:=ih _ _ e2 e3;have hu:=hf u;unfold yY at e6;split at e6
    ·next k off e7=>
     rw[e7]at hu;simp only[VR]at hu;split at e6
     ·next T l hb=>
      obtain⟨p,e8,e9⟩:=aG e6;obtain⟨v,k3,k4⟩:=zN t hb e8 e9 e5 e4;refine⟨v::vs,?_,?_⟩
      ·have ha:(asAddr (tmps.getD u undef)).run P w= .ok ⟨ρ k,off,none⟩ w:=by rw[hu.2];rfl
       have hrv:(Cz tmps (.cell u ty)).run P w= .ok v w:=by
        show(asAddr (tmps.getD u undef)>>=loadVar ty).run P w=_;rw[Sem.run_bind,ha,Result.andThen_ok,k3]
       rw[List.mapM_cons];simp only[Sem.run_bind,Sem.run_pure,Result.andThen_ok,hrv,k1]
      ·simp only[VRl];exact⟨v,vs,rfl,k4,k2⟩
     ·cases e6
    ·cases e6
 obtain⟨vs,k1,k2⟩:=key _ _ _ hr he;have hrun:(Go.results fn tmps).run P w= .ok (if h:vs.toArray.size=1 then vs.toArray[0]else .tuple vs.toArray) w:=by
  rw[JH,Array.mapM_eq_mapM_toList];simp only[Sem.run_bind,map_eq_pure_bind,k1,Result.andThen_ok,Sem.run_pure]
 refine⟨_,hrun,?_⟩
 match rs,vs,k2 with
 |[],vs,k2=>
  simp only[VRl]at k2;subst k2;simp only[vk,VR];exact⟨#[],by simp,by simp only[VRl]⟩
 |[c],vs,k2=>
  simp only[VRl]at k2;obtain⟨u,_,rfl,k3,rfl⟩:=k2;simpa[vk]using k3
 |c1::c2::rs,vs,k2=>
  have hl:=k2.len;simp only[vk,VR];refine⟨vs.toArray,?_,by simpa using k2⟩;rw[dif_neg (by simp at hl⊢;omega)]
theorem FM{F:Fence}{fn:Func}{tmps:Array Value}{R:Ending->World->Prop}:∀(ds:List Nat) (w:World) (h h':H),lL ds h=some h'->Wf h->Rel P A ρ w h->(∀w',cQ P A ρ w h ρ w' h'->∃v,(Go.results fn tmps).run P w'= .ok v w'/\R (.returned v) w')->LeavesInM F 0 P fn tmps R (ds.map (vH ρ)) .returning w
 |[],w,h,h',e,_,t,hk=>by
  simp only[lL,ak]at e;subst e;exact hk w (cQ.refl t)
 |k::l,w,h,h',e,fh,t,hk=>by
  simp only[lL]at e;split at e
  ·next hb=>
   obtain⟨_,_,hlt,hB⟩:=t.blk k _ hb;simp only[BR,if_true]at hB;have hpo:=tZ (o':=.deferred none) (b:=.defd false) t hb hB aV (by
    show(w.putObj (ρ k) (.deferred none)).heap[ρ k]?=_;rw[World.putObj_heap_same hlt];rfl)
   have g1:=kQ (b:=some (.defd false)) fh (bH hb);have g2:=rn _ _ _ e g1.wf;have hrel:Rel P A ρ (w.putObj (ρ k) (.deferred none)) (h.set k (some (.defd false))):=hpo.rel.mo ⟨fun j hj=>hj.resolve_right (fun q=>by
    have:(h.set k (some (B.defd false))).next=h.next:=rfl
    omega),fun _ _=>rfl⟩ (Lt.refl _) (fun _ _=>rfl)
   simp only[eM];unfold LeavesInM;refine⟨by simp,.inl ⟨ρ k,_,rfl,run_takeDeferred hB,FM l _ _ h' e g1.wf hrel fun w2 hp=>hk w2 (hpo.trans g1.good ⟨hp.rho,hp.rel.mo ⟨fun j hj=>hj.imp (fun q=>.inl q) id,fun _ _=>rfl⟩ (Lt.refl _) (fun _ _=>rfl),hp.lt,hp.fr,hp.new⟩ g2.good)⟩⟩
  ·cases e
def An(P:Program)(E:Env):Prop:=∀g f,E.orc g=some f->∀args r,f args=some r->∀A ρ w vs,VRl P A ρ w args vs.toList->
 Enters P g/\Calls P g vs w (fun e w'=>∃u,e= .returned u/\VR P A ρ w' r u/\Below w.heap.size w w')
theorem Ea:∀(ps:List Nat) (args:List C) (tm tm2:Tm) (vs:List Value) (tmps:Array Value),qO ps args tm=some tm2->TR P A ρ w tm tmps->VRl P A ρ w args vs->(∀t∈ps,t<tmps.size)->tmps.size<1000000->
  TR P A ρ w tm2 ((ps.zip vs).foldl (fun (tmps:Array Value) (p:Nat×Value)=>tmps.setIfInBounds p.1 p.2) tmps)/\((ps.zip vs).foldl (fun (tmps:Array Value) (p:Nat×Value)=>tmps.setIfInBounds p.1 p.2) tmps).size=tmps.size/\vs.length=ps.length
 |[],[],tm,tm2,vs,tmps,e,hT,hv,_,_=>by
  simp only[qO,ak]at e;subst e;simp only[VRl]at hv;subst hv;exact⟨hT,rfl,rfl⟩
 |t::ps,c::args,tm,tm2,vs,tmps,e,hT,hv,hp,hs=>by
  simp only[qO]at e;simp only[VRl]at hv;obtain⟨u,rest,rfl,h2,h3⟩:=hv;have ht:=hp t bw;obtain⟨k1,k2,k3⟩:=Ea ps args _ tm2 rest (tmps.setIfInBounds t u) e (hT.put ht aa h2) h3 (fun t' ht'=>by simpa using hp t' (bC _ ht')) (by simpa using hs);exact⟨k1,by rw[List.zip_cons_cons,List.foldl_cons,k2];simp,by simp[k3]⟩
 |[],_::_,_,_,_,_,e,_,_,_,_=>by simp[qO]at e
 |_::_,[],_,_,_,_,e,_,_,_,_=>by simp[qO]at e
end CI
end
section
open Go.RowKit
namespace CI
variable {P : Program} {A A' : Nat->Prop} {ρ ρ' : Nat->Nat} {w w' : World} {tm tm' : Tm} {a : Act} {c : C} {h h' h'' : H} {rec : Rec} {E : Env} {n : Nat} {ds ds' : List Nat}
theorem Kl {g : FuncId} {fn : F} (h : rl P g = some fn) : ∃ f c, P.funcs[g]? = some f ∧ f.body = some c ∧ f.ntmps < 1000000 ∧ (f.name == "runtime.NumGoroutine") = false ∧ comp P f.ntmps c = some fn.body ∧ tQ P f.results.toList = some fn.res ∧ fn.ntmps = f.ntmps := by
 unfold rl at h;obtain⟨f,e1,h⟩:=aG h;obtain⟨c,e2,h⟩:=aG h;split at h
 ·next hb=>
  simp only[ei,uR]at hb;obtain⟨cc,e3,h⟩:=aG h;obtain⟨r,e4,rfl⟩:=aD h;exact⟨f,c,e1,e2,by simpa[bA]using hb.1,hb.2,e3,e4,rfl⟩
 ·cases h
theorem vB{g:FuncId}(hE:Enters P g)(vs us:Array Value)(w:World):∃d,(Deferred.ofValue (.func (.func g) #[] us) vs).run P w= .ok d w/\(invoke d.target d.args).run P w= .ok (.enter g (vs++us)) w:=by
 refine⟨{target:=.fn (.func g) us,args:=#[]++vs},by simp[Deferred.ofValue],?_⟩;have:=hE (vs++us) w;simp[invoke,this]
theorem VR.ext{v:Value}(h:VR P A ρ w c v){h1 h2:H}:VR P (Ext A h1 h2) ρ w c v:=VR.mo ⟨fun _ hk=>.inl hk,fun _ _=>rfl⟩ (Lt.refl _) _ _ h
theorem TF(hO:An P E){g:FuncId}{o:Orc}{args caps:List C}{r:C}{fv:Value}{vs:Array Value}(he:E.orc g=some o)(hr:o (args++caps)=some r)(t:Rel P A ρ w h)(hv:VR P A ρ w (.fn g caps) fv)(hvs:VRl P A ρ w args vs.toList):Ar P fv vs w (jQ P A ρ w h r h):=by
 simp only[VR]at hv;obtain⟨us,rfl,hus⟩:=hv;obtain⟨hE,hC⟩:=hO g o he _ r hr A ρ w (vs++us) (by rw[uQ];exact VRl.app hus hvs);obtain⟨d,e1,e2⟩:=vB hE vs us w;refine⟨d,e1,.inl ⟨g,vs++us,e2,callsIn_wide.2 (hC.mono fun e w' ⟨u,h1,h2,h3⟩=>?_)⟩⟩;have hp:=cQ.below t h3;exact⟨u,ρ,h1,hp,h2.ext⟩
theorem fn_ok(hC:qz P rec)(hG:vN rec){g:FuncId}{fn:F}{args caps:List C}{tm1:Tm}{ds1:List Nat}{h1 h2:H}{e:Ex}{rs:List C}{fv:Value}{vs:Array Value}(hf:rl P g=some fn)(hl:(args++caps).length<=fn.ntmps)
  (hr:rec (.code fn.body (setArgs 24 0 (args++caps) .e) [] none h)=some (.code e tm1 ds1 h1)) (hne:∀i,e≠ .exit i) (hcl:lL ds1 h1=some h2) (hrs:results tm1 h2 fn.res=some rs) (fh:Wf h) (t:Rel P A ρ w h) (hd:Dj A h h2) (hv:VR P A ρ w (.fn g caps) fv) (hvs:VRl P A ρ w args vs.toList):Ar P fv vs w (jQ P A ρ w h (vk rs) h2):=by
 simp only[VR]at hv;obtain⟨us,rfl,hus⟩:=hv;obtain⟨f,c,e1,e2,e3,e4,e5,e6,e7⟩:=Kl hf;obtain⟨d,k1,k2⟩:=vB (enters_of e1 e4 e2) vs us w;have hall:VRl P A ρ w (args++caps) (vs++us).toList:=by rw[uQ];exact VRl.app hus hvs
 rw[e7]at hl;have hfr:=S6 hall hl e3;have g1:=hG _ _ _ _ _ _ _ _ _ hr fh;have g2:=rn _ _ _ hcl g1.wf;have hw:=hC _ _ _ _ _ _ _ _ _ hr fh f.ntmps c A ρ w _ e5 e3 t (hd.left g2.good.next) hfr (fun l hl=>by cases hl);refine⟨d,k1,.inl ⟨g,vs++us,k2,callsIn_of_wp_marks e1 e2 trivial (wpIn_mono hw fun e' a' w' q=>?_)⟩⟩;obtain⟨q1,ρ1,p1,f1⟩:=q;have hfin:LeavesInM Fence.wide 0 P f a'.tmps (jQ P A ρ w h (vk rs) h2) a'.defers .returning w':=by
  rw[f1.df];refine FM ds1 w' h1 h2 hcl g1.wf p1.rel fun w2 p2=>?_;have hd2:Dj (Ext A h h1) h1 h2:=hd.right g1.good.next
  have pAll:=p1.trans g1.good p2 g2.good;obtain⟨v,r1,r2⟩:=Gf e6 hrs pAll.rel (fun u=>VR.mo (Mo.ext g1.good.next g2.good.next _) (Lt.refl _) _ _ (VR.mo (p2.mo hd2) p2.lt _ _ (f1.tr u)));exact⟨v,r1,v,ρ1,rfl,pAll,r2⟩
 cases e with
 |norm=>rw[uq q1];exact hfin
 |ret=>
  cases e'<;>simp[exM]at q1;exact hfin
 |exit i=>exact absurd rfl (hne i)
theorem yl_ok(hC:qz P rec)(hG:vN rec){l:Nat}{p0 p1:Ex}{tm0 tm1 tm2 tm3 tm4:Tm}{ps ps1:List Nat}{ca cb a1 b1:CC}{d0 d1:Nat}{args:List C}{h1 h2 h3:H}{e:Ex}{fv:Value}{vs:Array Value}
  (hb0:h.get l=some (.loop .ready p0 tm0 ps ca cb d0)) (hps:qO ps args tm0=some tm1) (hr1:rec (.code ca tm1 [] (some l) h)=some (.code .norm tm2 [] h1)) (hb1:h1.get l=some (.loop .ready p1 tm3 ps1 a1 b1 d1))
  (hr2:rec (.code cb tm2 [] (some l) (h1.set l (some (.loop .busy p1 tm3 ps1 a1 b1 d1))))=some (.code e tm4 [] h2)) (hend:Fb l e h2=some (c,h3)) (fh:Wf h) (t:Rel P A ρ w h) (hd:Dj A h h3) (hv:VR P A ρ w (.yl l) fv) (hvs:VRl P A ρ w args vs.toList):Ar P fv vs w (jQ P A ρ w h c h3):=by
 simp only[VR]at hv;obtain⟨hA,rfl⟩:=hv;obtain⟨_,_,_,hAd,fn,tmps,x,y,hh,hTR,c1,c2,hsz,hpl⟩:=t.blk l _ hb0;obtain⟨k1,k2,k3⟩:=Ea ps args tm0 tm1 vs.toList tmps hps hTR hvs hpl hsz;have g1:=hG _ _ _ _ _ _ _ _ _ hr1 fh;have g2:=kQ (b:=some (B.loop .busy p1 tm3 ps1 a1 b1 d1)) g1.wf (bH hb1);have g3:=hG _ _ _ _ _ _ _ _ _ hr2 g2.wf;have g4:=Hn hend g3.wf;have hds:Dj (Ext A h h1) h1 h3:=hd.right g1.good.next
 refine⟨{target:=.fn (.yield (ρ l)) #[],args:=#[]++vs},by simp[Deferred.ofValue],.inr ⟨ρ l,fn,(ps.toArray.zip vs).foldl (fun (tmps:Array Value) (x:Tmp×Value)=>tmps.setIfInBounds x.1 x.2) tmps,x,y,rfl,?_,?_⟩⟩
 ·have hy:=run_yield (P:=P) (args:=vs) hh (by simp[<-k3]);simp only[Array.empty_append,invoke];exact hy
 refine roundIn_of_wpIn (F:=Fence.wide) trivial ?_;have hfold:((ps.toArray.zip vs).foldl (fun (tmps:Array Value) (x:Tmp×Value)=>tmps.setIfInBounds x.1 x.2) tmps)=((ps.zip vs.toList).foldl (fun (tmps:Array Value) (p:Nat×Value)=>tmps.setIfInBounds p.1 p.2) tmps):=by
  rw[<-Di,Array.toList_zip]
 have hfr:Fr P A ρ w tmps.size [] tm1 {tmps:=(ps.toArray.zip vs).foldl (fun (tmps:Array Value) (x:Tmp×Value)=>tmps.setIfInBounds x.1 x.2) tmps,defers:=[]}:=
  ⟨by rw[hfold];exact k1,by rw[hfold];exact k2,(fun k hk=>by cases hk),rfl⟩
 have hw1:=hC _ _ _ _ _ _ _ _ _ hr1 fh tmps.size x A ρ w _ c1 hsz t (hd.left (aA g2.good.next (aA g3.good.next g4.good.next))) hfr (fun l' hl=>by cases hl;exact hA);refine si hw1 (fun _ ρ1 w1 aa1 q1 f1=>?_) (fun he=>absurd rfl he);have hρ1:ρ1 l=ρ l:=q1.rho l (.inl (t.live (bH hb0)).1);obtain⟨_,_,_,hAd1,fn1,tmps1,x1,y1,hh1,hTR1,hrest1⟩:=q1.rel.blk l _ hb1;have hbeg:=run_beginRound (P:=P) hh1 rfl;refine⟨_,by rw[<-hρ1];exact hbeg,?_⟩;have hlt1:Lt w1 (w1.putObj (ρ1 l) (.loop ⟨.busy,rE p1,fn1,tmps1,ps1.toArray,x1,y1,ρ1 d1⟩)):=Lt.chg (g:=ρ1 l) ⟨rfl,rfl,rfl,by simp,fun j _ hj=>World.putObj_heap_other hj⟩ (zC hh1 aV) (fun s hs=>by rw[qN hh1 aV]at hs;cases hs);have q2:=tZ (o':=.loop ⟨.busy,rE p1,fn1,tmps1,ps1.toArray,x1,y1,ρ1 d1⟩) (b:=.loop .busy p1 tm3 ps1 a1 b1 d1) q1.rel hb1 hh1 aV ⟨hAd1,fn1,tmps1,x1,y1,World.putObj_heap_same (iu.1 hh1).1,hTR1.mo (Mo.refl _ _) hlt1,hrest1⟩;have hd2:Dj (Ext (Ext A h h1) h1 (h1.set l (some (B.loop .busy p1 tm3 ps1 a1 b1 d1)))) (h1.set l (some (B.loop .busy p1 tm3 ps1 a1 b1 d1))) h3:=hds.right g2.good.next
 have f2:=f1.mo (q2.mo (hds.left (aA g3.good.next g4.good.next))) q2.lt;have hw2:=hC _ _ _ _ _ _ _ _ _ hr2 g2.wf tmps.size y _ ρ1 _ _ c2 hsz q2.rel (hd2.left g4.good.next) f2 (fun l' hl=>by cases hl;exact .inl (.inl hA));have hfc:fc (some l) ρ1=Fence.wide.inRound (ρ l):=by simp only[fc,hρ1]
 rw[hfc]at hw2;refine wpIn_mono hw2 fun e' a' w2 q=>?_;obtain⟨q3,ρ3,p3,f3⟩:=q;have hl1:l<h1.next:=(q1.rel.live (bH hb1)).1
 have hρ3:ρ3 l=ρ l:=by rw[p3.rho l (.inl hl1),hρ1]
 have q12:=q1.trans g1.good (q2.trans g2.good p3 g3.good) (g2.good.trans g3.good);have g123:=g1.trans (g2.trans g3);have hd3:Dj (Ext A h h2) h2 h3:=hd.right g123.good.next
 unfold Fb at hend;split at hend
 ·next p5 tm5 ps5 a5 b5 d5 hb5=>
  obtain⟨_,_,_,hAd5,fn5,tmps5,x5,y5,hh5,hTR5,hrest5⟩:=q12.rel.blk l _ hb5;have fin:∀(jump:Option Code) (st:LS) (ex:Ex),rE ex=jump->AO st=(if jump.isNone then .ready else .done)->h3=h2.set l (some (.loop st ex tm5 ps5 a5 b5 d5))->c= .sc (.bool jump.isNone)->∃v w',(Instr.endRound (ρ l) jump).run P w2= .ok v w'/\jQ P A ρ w h c h3 (.returned v) w':=by
   rintro jump st ex hj hs rfl rfl;have hrun:=run_endRound (P:=P) jump hh5;rw[hρ3]at hrun;refine⟨_,_,hrun,.bool jump.isNone,ρ3,rfl,?_,jF rfl⟩;have hlt5:Lt w2 (w2.putObj (ρ3 l) (.loop ⟨AO st,rE ex,fn5,tmps5,ps5.toArray,x5,y5,ρ3 d5⟩)):=Lt.chg (g:=ρ3 l) ⟨rfl,rfl,rfl,by simp,fun j _ hj=>World.putObj_heap_other hj⟩ (zC hh5 aV) (fun s hs=>by rw[qN hh5 aV]at hs;cases hs);have q5:=tZ (o':=.loop ⟨AO st,rE ex,fn5,tmps5,ps5.toArray,x5,y5,ρ3 d5⟩) (b:=.loop st ex tm5 ps5 a5 b5 d5) q12.rel hb5 hh5 aV ⟨hAd5,fn5,tmps5,x5,y5,World.putObj_heap_same (iu.1 hh5).1,hTR5.mo (Mo.refl _ _) hlt5,hrest5⟩;have:=q12.trans g123.good q5 g4.good;rw[hρ3,hj,hs]at this;exact this
  cases e with
  |norm=>
   simp only[ak,aJ]at hend;rw[uq q3];exact fin none .ready .norm rfl rfl hend.2.symm hend.1.symm
  |ret=>
   simp only[ak,aJ]at hend;cases e'<;>simp[exM]at q3;exact fin (some .ret) .done .ret rfl rfl hend.2.symm hend.1.symm
  |exit i=>
   simp only[ak,aJ]at hend;cases e'<;>simp[exM]at q3;subst q3;exact fin (some (.exit i)) .done (.exit i) rfl rfl hend.2.symm hend.1.symm
 ·cases hend
theorem TB{N:Nat}(hO:An P E)(hfn:E.fns=rl P)(hC:qz P (run E N)):nv P (run E (N+1)):=by
 intro f args h c h' ee fh A ρ w fv vs t hd hv hvs;have hG:=(sy E N).2;simp only[run,body]at ee;split at ee
 ·next g caps=>
  split at ee
  ·next o ho=>
   obtain⟨r,e1,e2⟩:=aD ee;simp only[Out.val.injEq]at e2;obtain⟨rfl,rfl⟩:=e2;exact TF hO ho e1 t hv hvs
  ·split at ee
   ·next fn hfn'=>
    split at ee
    ·cases ee
    ·next hl=>
     split at ee
     ·next e tm1 ds1 h1 hr=>
      have key:(∀i,e≠ .exit i)/\∃h2 rs,lL ds1 h1=some h2/\results tm1 h2 fn.res=some rs/\c=vk rs/\h'=h2:=by
       split at ee
       ·cases ee
       ·next hne=>
        obtain⟨h2,e1,ee⟩:=aG ee;obtain⟨rs,e2,e3⟩:=aD ee;simp only[Out.val.injEq]at e3;exact⟨fun i hi=>hne i hi,h2,rs,e1,e2,e3.1.symm,e3.2.symm⟩
      obtain⟨hne,h2,rs,e1,e2,rfl,rfl⟩:=key;rw[hfn]at hfn';exact fn_ok hC hG hfn' (fL hl) hr hne e1 e2 fh t hd hv hvs
     ·cases ee
   ·cases ee
 ·next l=>
  split at ee
  ·next p0 tm0 ps ca cb d0 hb0=>
   split at ee
   ·next tm1 hps=>
    split at ee
    ·next tm2 h1 hr1=>
     split at ee
     ·next p1 tm3 ps1 a1 b1 d1 hb1=>
      split at ee
      ·next e tm4 h2 hr2=>
       obtain⟨⟨c',h3⟩,e1,e2⟩:=aD ee;simp only[Out.val.injEq]at e2;obtain⟨rfl,rfl⟩:=e2;exact yl_ok hC hG hb0 hps hr1 hb1 hr2 e1 fh t hd hv hvs
      ·cases ee
     ·cases ee
    ·cases ee
   ·cases ee
  ·cases ee
 ·cases ee
theorem Tv(hO:An P E)(hfn:E.fns=rl P)(hD:∀rec,nv P rec->fF rec->F3 P rec):∀N,nv P (run E N)/\qz P (run E N):=fun N=>by
 induction N using Nat.strongRecOn with
 |_ N ih=>
  cases N with
  |zero=>exact⟨fun _ _ _ _ _ e=>by simp[run]at e,fun _ _ _ _ _ _ _ _ _ e=>by simp[run]at e⟩
  |succ N=>
   have hR:∀m,m<=N->nv P (run E m):=fun m hm=>(ih m (Nat.lt_succ_of_le hm)).1;have hC:∀m,m<=N->qz P (run E m):=fun m hm=>(ih m (Nat.lt_succ_of_le hm)).2;exact⟨TB hO hfn (hC N (af _)),SO hR hC (fun m hm=>hD _ (hR m hm) (sy E m).1) (N3 (hR N (af _)))⟩
end CI
end
section
open Go.RowKit
namespace CI
variable {P : Program} {h h' : H} {tm tm' : Tm} {rec : Rec} {n : Nat}
structure SD where
 tm:Tm
 h:H
 iv:List (Nat×Nat×Nat)
 rw:List (Nat×Bool)
 v:C
 wr:Bool
 rd:Bool
def pn(rec:Rec)(j:Nat)(o:RO)(s:SD):Option SD:=
 match ll o s.tm with
 |some false=>some ⟨kR s.tm o.dst .any,s.h,s.iv,s.rw,.any,false,false⟩
 |some true=>match o.x.isT with
  |true=>(xT o.x s.tm s.h.next).bind fun p=>(s.h.nu p.2).map fun h1=>⟨kR s.tm o.dst p.1,h1,(match p.2 with|none=>s.iv|some _=>(j,s.h.next,h1.next)::s.iv),s.rw,p.1,false,false⟩
  |false=>(xR rec o.x s.tm (s.h.part o.pre s.iv)).bind fun p=>match uz o.pre (Nat.blt p.2.low s.h.next) s.rw with
   |true=>none
   |false=>some ⟨kR s.tm o.dst p.1,s.h.whole p.2,(match Nat.blt s.h.next p.2.next with|true=>(j,s.h.next,p.2.next)::s.iv|false=>s.iv),(j,Nat.blt p.2.low s.h.next)::s.rw,p.1,Nat.blt p.2.low s.h.next,true⟩
 |none=>none
theorem Lc{o:RO}{l:List RO}{j:Nat}{s:SD}(e:ku rec (o::l) j s.iv s.rw s.tm s.h=some (tm',h')):∃s1,pn rec j o s=some s1/\ku rec l (j+1) s1.iv s1.rw s1.tm s1.h=some (tm',h'):=by
 rcases BM e with⟨h1,e⟩|⟨h1,h2,c,ob,h3,e1,e2,e⟩|⟨h1,h2,c,h3,e1,e2,e⟩
 ·exact⟨⟨_,_,_,_,.any,false,false⟩,by simp only[pn,h1];rfl,e⟩
 ·exact⟨⟨_,_,_,_,c,false,false⟩,by simp only[pn,h1,h2,e1,rQ,e2,ct];rfl,e⟩
 ·exact⟨⟨_,_,_,_,c,_,true⟩,by simp only[pn,h1,h2,e1,rQ,e2];rfl,e⟩
def iR(rec:Rec):List RO->Nat->SD->Option SD
 |[],_,s=>some s
 |o::l,j,s=>(pn rec j o s).bind (iR rec l (j+1))
theorem BL:∀(l:List RO) (j:Nat) (s:SD),ku rec l j s.iv s.rw s.tm s.h=some (tm',h')->∃s1,iR rec l j s=some s1/\s1.tm=tm'/\s1.h=h'
 |[],j,s,e=>by
  simp only[ku,ak,aJ]at e;exact⟨s,rfl,e.1,e.2⟩
 |o::l,j,s,e=>by
  obtain⟨s1,e1,e2⟩:=Lc e;obtain⟨s2,e3,e4⟩:=BL l (j+1) s1 e2;exact⟨s2,by simp only[iR,e1,rQ,e3],e4⟩
theorem xW:∀(l1 l2:List RO) (j:Nat) (s s2:SD),iR rec (l1++l2) j s=some s2->∃s1,iR rec l1 j s=some s1/\iR rec l2 (j+l1.length) s1=some s2
 |[],l2,j,s,s2,e=>⟨s,rfl,by simpa using e⟩
 |o::l1,l2,j,s,s2,e=>by
  simp only[yX,iR]at e;obtain⟨s1,e1,e2⟩:=aG e;obtain⟨s3,e3,e4⟩:=xW l1 l2 (j+1) s1 s2 e2;exact⟨s3,by simp only[iR,e1,rQ,e3],by rw[ir,show j+(l1.length+1)=j+1+l1.length by omega];exact e4⟩
structure Trace(rec:Rec)(r:List RO)(tm:Tm)(h:H)(tm':Tm)(h':H)(S:Nat->SD):Prop where
 tm0:(S 0).tm=tm
 h0:(S 0).h=h
 tmN:(S r.length).tm=tm'
 hN:(S r.length).h=h'
 iv0:(S 0).iv=[]
 step:∀i o,r[i]?=some o->pn rec i o (S i)=some (S (i+1))
theorem Nr{r:List RO}(e:ku rec r 0 [] [] tm h=some (tm',h')):∃S,Trace rec r tm h tm' h' S:=by
 obtain⟨sN,e1,e2,e3⟩:=BL r 0 ⟨tm,h,[],[],.any,false,false⟩ e;have pre:∀i,∃s,iR rec (r.take i) 0 ⟨tm,h,[],[],.any,false,false⟩=some s:=fun i=>by
  have e1':=e1;rw[<-qK i r]at e1';obtain⟨s,e4,_⟩:=xW _ _ _ _ _ e1';exact⟨s,e4⟩
 have hS:∀i,iR rec (r.take i) 0 ⟨tm,h,[],[],.any,false,false⟩=some ((iR rec (r.take i) 0 ⟨tm,h,[],[],.any,false,false⟩).getD ⟨tm,h,[],[],.any,false,false⟩):=fun i=>by
  obtain⟨s,e4⟩:=pre i;rw[e4];rfl
 refine⟨fun i=>(iR rec (r.take i) 0 ⟨tm,h,[],[],.any,false,false⟩).getD ⟨tm,h,[],[],.any,false,false⟩,by simp[iR],by simp[iR],?_,?_,by simp[iR],fun i o ho=>?_⟩
 ·simp only[gO,e1,oz];exact e2
 ·simp only[gO,e1,oz];exact e3
 ·have hlt:=(cD.1 ho).1;have h1:=hS (i+1);have hti:r.take (i+1)=r.take i++[o]:=by
   rw[mN,ho];rfl
  have h2:=h1;rw[hti]at h2;obtain⟨s1,e4,e5⟩:=xW _ _ _ _ _ h2;simp only[iR,bf,bu]at e5;obtain⟨s2,e6,e7⟩:=aG e5;simp only[ak]at e7;rw[dH aa]at e6;show pn rec i o ((iR rec (r.take i) 0 ⟨tm,h,[],[],.any,false,false⟩).getD ⟨tm,h,[],[],.any,false,false⟩)=_;rw[e4,hti];show pn rec i o s1=_;rw[e6,e7]
section
variable {r : List RO} {S : Nat->SD}
theorem Trace.cases(t:Trace rec r tm h tm' h' S){i:Nat}{o:RO}(ho:r[i]?=some o):
  (S (i+1)).tm=kR (S i).tm o.dst (S (i+1)).v/\
  ((ll o (S i).tm=some false/\(S (i+1)).v= .any/\(S (i+1)).h=(S i).h/\(S (i+1)).wr=false/\(S (i+1)).rd=false/\(S (i+1)).iv=(S i).iv/\(S (i+1)).rw=(S i).rw)\/
   (ll o (S i).tm=some true/\o.x.isT=true/\(S (i+1)).wr=false/\(S (i+1)).rd=false/\(S (i+1)).rw=(S i).rw/\∃ob,xT o.x (S i).tm (S i).h.next=some ((S (i+1)).v,ob)/\(S i).h.nu ob=some (S (i+1)).h/\(S (i+1)).iv=(match ob with|none=>(S i).iv|some _=>(i,(S i).h.next,(S (i+1)).h.next)::(S i).iv))\/
   (ll o (S i).tm = some true /\ o.x.isT = false /\ (S (i + 1)).rd = true /\ ∃ h1, xR rec o.x (S i).tm ((S i).h.part o.pre (S i).iv) = some ((S (i + 1)).v, h1) /\ (S (i + 1)).h = (S i).h.whole h1 /\ (S (i + 1)).wr = Nat.blt h1.low (S i).h.next /\ uz o.pre (S (i + 1)).wr (S i).rw = false /\
      (S (i+1)).iv=(match Nat.blt (S i).h.next h1.next with|true=>(i,(S i).h.next,h1.next)::(S i).iv|false=>(S i).iv)/\(S (i+1)).rw=(i,(S (i+1)).wr)::(S i).rw)):=by
 have hs:=t.step i o ho;unfold pn at hs;split at hs
 ·next hw=>
  simp only[ak]at hs;rw[<-hs];exact⟨rfl, .inl ⟨hw,rfl,rfl,rfl,rfl,rfl,rfl⟩⟩
 ·next hw=>
  split at hs
  ·next hT=>
   obtain⟨⟨c,ob⟩,e1,hs⟩:=aG hs;obtain⟨h1,e2,hs⟩:=aD hs;rw[<-hs];exact⟨rfl, .inr (.inl ⟨hw,hT,rfl,rfl,rfl,ob,e1,e2,rfl⟩)⟩
  ·next hT=>
   obtain⟨⟨c,h1⟩,e1,hs⟩:=aG hs;split at hs
   ·cases hs
   ·next hcl=>
    simp only[ak]at hs;rw[<-hs];exact⟨rfl, .inr (.inr ⟨hw,hT,rfl,h1,e1,rfl,rfl,hcl,rfl,rfl⟩)⟩
 ·cases hs
theorem Trace.gd(t:Trace rec r tm h tm' h' S)(hg:fF rec)(f:Wf h):∀i,i<=r.length->Wf (S i).h/\Gd h (S i).h
 |0,_=>by rw[t.h0];exact⟨f,Gd.refl f⟩
 |i+1,hi=>by
  obtain⟨o,ho⟩:∃o,r[i]?=some o:=⟨_,aZ aa⟩;obtain⟨f1,g1⟩:=t.gd hg f i aa;have g2:Gd (S i).h (S (i+1)).h:=by
   rcases(t.cases ho).2 with⟨_,_,e,_⟩|⟨_,_,_,_,_,ob,_,e,_⟩|⟨_,_,_,h1,e1,e2,_⟩
   ·rw[e];exact Gd.refl f1
   ·exact sV f1 e
   ·rw[e2];exact A9 (qM hg (nK f1) e1)
  exact⟨g2.wf,g1.trans g2⟩
theorem Trace.gd1(t:Trace rec r tm h tm' h' S)(hg:fF rec)(f:Wf h){i:Nat}(hi:i<r.length):Gd (S i).h (S (i+1)).h:=by
 obtain⟨o,ho⟩:∃o,r[i]?=some o:=⟨_,aZ hi⟩;have f1:=(t.gd hg f i aa).1;rcases(t.cases ho).2 with⟨_,_,e,_⟩|⟨_,_,_,_,_,ob,_,e,_⟩|⟨_,_,_,h1,e1,e2,_⟩
 ·rw[e];exact Gd.refl f1
 ·exact sV f1 e
 ·rw[e2];exact A9 (qM hg (nK f1) e1)
theorem Trace.gdm(t:Trace rec r tm h tm' h' S)(hg:fF rec)(f:Wf h):∀(k i:Nat),i+k<=r.length->Gd (S i).h (S (i+k)).h
 |0,i,hi=>Gd.refl (t.gd hg f i aa).1
 |k+1,i,hi=>(t.gdm hg f k i aa).trans (t.gd1 hg f aa)
theorem Trace.iv(t:Trace rec r tm h tm' h' S):∀i,i<=r.length->(∀x∈(S i).iv,∃q,q<i/\x=(q,(S q).h.next,(S (q+1)).h.next))/\(∀q,q<i->(S q).h.next<(S (q+1)).h.next->(q,(S q).h.next,(S (q+1)).h.next)∈(S i).iv)
 |0,_=>by
  rw[t.iv0];exact⟨fun x hx=>by simp at hx,fun q hq=>by omega⟩
 |i+1,hi=>by
  obtain⟨o,ho⟩:∃o,r[i]?=some o:=⟨_,aZ aa⟩;obtain⟨k1,k2⟩:=t.iv i aa;have key:((S (i+1)).iv=(S i).iv/\¬(S i).h.next<(S (i+1)).h.next)\/(S (i+1)).iv=(i,(S i).h.next,(S (i+1)).h.next)::(S i).iv:=by
   rcases(t.cases ho).2 with⟨_,_,e,_,_,e2,_⟩|⟨_,_,_,_,_,ob,_,e,e2⟩|⟨_,_,_,h1,e1,e2,_,_,e3,_⟩
   ·exact .inl ⟨e2,by rw[e];omega⟩
   ·cases ob with
    |none=>
     simp only[H.nu,ak]at e;exact .inl ⟨e2,by rw[<-e];omega⟩
    |some b=>exact .inr e2
   ·have hn:(S (i+1)).h.next=h1.next:=by rw[e2];rfl
    rw[hn];split at e3
    ·exact .inr e3
    ·next hb=>
     refine .inl ⟨e3,fun hlt=>?_⟩;rw[<-bA]at hlt;rw[hlt]at hb;cases hb
  rcases key with⟨e,hlt⟩|e
  ·rw[e];exact⟨fun x hx=>by obtain⟨q,h1,h2⟩:=k1 x hx;exact⟨q,by omega,h2⟩,fun q hq hl=>k2 q (by
    rcases rL.1 hq with h|h
    ·exact h
    ·subst h;exact absurd hl hlt) hl⟩
  ·rw[e];refine⟨fun x hx=>?_,fun q hq hl=>?_⟩
   ·rcases bP.1 hx with h|h
    ·exact⟨i,by omega,h⟩
    ·obtain⟨q,h1,h2⟩:=k1 x h;exact⟨q,by omega,h2⟩
   ·rcases rL.1 hq with h|h
    ·exact bC _ (k2 q h hl)
    ·subst h;exact bw
theorem Trace.rw'(t:Trace rec r tm h tm' h' S):∀i,i<=r.length->∀q,q<i->(S (q+1)).rd=true->(q,(S (q+1)).wr)∈(S i).rw
 |0,_,q,hq,_=>by omega
 |i+1,hi,q,hq,hr=>by
  obtain⟨o,ho⟩:∃o,r[i]?=some o:=⟨_,aZ aa⟩;have ih:=t.rw' i aa;rcases rL.1 hq with h|h
  ·have h1:=ih q h hr;rcases(t.cases ho).2 with⟨_,_,_,_,_,_,e⟩|⟨_,_,_,_,e,_⟩|⟨_,_,_,h1',_,_,_,_,_,e⟩
   ·rw[e];exact h1
   ·rw[e];exact h1
   ·rw[e];exact bC _ h1
  ·subst h;rcases(t.cases ho).2 with⟨_,_,_,_,e,_⟩|⟨_,_,_,e,_⟩|⟨_,_,_,h1',_,_,_,_,_,e⟩
   ·rw[e]at hr;cases hr
   ·rw[e]at hr;cases hr
   ·rw[e];exact bw
theorem vE{pre k:Nat}:∀{iv:List (Nat×Nat×Nat)} {f:List (Nat×Nat)} {q x y:Nat},(q,x,y)∈iv->pre.testBit q=false->x<=k->k<y->ew k (kF pre iv f)=true
 |(i,a,b)::l,f,q,x,y,hm,hp,h1,h2=>by
  simp only[kF];have hb1:Nat.ble x k=true:=Nat.ble_eq_true_of_le h1;have hb2:Nat.blt k y=true:=by simpa[bA]using h2
  rcases bP.1 hm with e|e
  ·simp only[aJ]at e;rw[<-e.1,<-e.2.1,<-e.2.2,hp];simp only[ew];rw[hb1,hb2]
  ·have:=vE (f:=f) e hp h1 h2;split
   ·exact this
   ·simp only[ew];split
    ·split
     ·rfl
     ·exact this
    ·exact this
theorem B4{pre k:Nat}:∀{iv:List (Nat×Nat×Nat)} {f:List (Nat×Nat)},(∀x∈iv,¬(x.2.1<=k/\k<x.2.2))->ew k (kF pre iv f)=ew k f
 |[],f,_=>rfl
 |(i,a,b)::l,f,h=>by
  have ih:=B4 (pre:=pre) (f:=f) fun x hx=>h x (bC _ hx);have h0:=h _ bw;simp only[kF];split
  ·exact ih
  ·simp only[ew];split
   ·next h1=>
    split
    ·next h2=>exact absurd ⟨fL h1,by simpa[bA]using h2⟩ h0
    ·exact ih
   ·exact ih
theorem xf{pre:Nat}{wr:Bool}:∀{rw:List (Nat×Bool)} {q:Nat} {x:Bool},uz pre wr rw=false->(q,x)∈rw->(x||wr)=true->pre.testBit q=true
 |(i,y)::l,q,x,h,hm,hx=>by
  simp only[uz]at h;split at h
  ·cases h
  ·next hb=>
   rcases bP.1 hm with e|e
   ·cases e;rw[hx]at hb;simpa using hb
   ·exact xf h e hx
end
end CI
end
section
open Go.RowKit
namespace CI
variable {P : Program} {n : Nat}
theorem xV:∀(l:List Nat) (k:Nat),uk l k=(l[k]?).getD 0
 |[],k=>by simp[uk]
 |x::l,0=>by simp[uk]
 |x::l,k+1=>by simp[uk,xV l k]
theorem po{acc:List Nat}{q:Nat}:∀{es:List Edge},(mX acc es).testBit q=true->∃e∈es,Region.binds .any e=true/\(e.on=q\/(uk acc e.on).testBit q=true)
 |[],h=>by simp[mX]at h
 |e::es,h=>by
  simp only[mX]at h;split at h
  ·next hb=>
   simp only[Nat.testBit_or,yU,Nat.testBit_two_pow,decide_eq_true_eq]at h;rcases h with(h|h)|h
   ·exact⟨e,bw,hb,.inl h⟩
   ·exact⟨e,bw,hb,.inr h⟩
   ·obtain⟨e',h1,h2⟩:=po h;exact⟨e',bC _ h1,h2⟩
  ·obtain⟨e',h1,h2⟩:=po h;exact⟨e',bC _ h1,h2⟩
theorem Eh:∀(l:List Oper) (acc:List Nat),∃t,mc l acc=acc++t/\t.length=l.length
 |[],acc=>⟨[],by simp[mc],rfl⟩
 |o::l,acc=>by
  obtain⟨t,e,h⟩:=Eh l (acc++[mX acc o.after.toList]);exact⟨mX acc o.after.toList::t,by simp only[mc];rw[e];simp,by simp[h]⟩
theorem A8:∀(l:List Oper) (acc:List Nat) (i:Nat) (o:Oper),l[i]?=some o->(mc l acc)[acc.length+i]?=some (mX ((mc l acc).take (acc.length+i)) o.after.toList)
 |[],acc,i,o,h=>by simp at h
 |o'::l,acc,0,o,h=>by
  simp at h;subst h;simp only[mc];obtain⟨t,e,_⟩:=Eh l (acc++[mX acc o'.after.toList]);rw[e];simp
 |o'::l,acc,i+1,o,h=>by
  simp only[mc];have:=A8 l (acc++[mX acc o'.after.toList]) i o tB;rw[cI,jR,show acc.length+1+i=acc.length+(i+1) by omega]at this;exact this
theorem pG{t:Nat}:∀{l:List Nat},t∈l->rC t l=true
 |x::l,h=>by
  simp only[rC];split
  ·rfl
  ·next hb=>
   rcases bP.1 h with e|e
   ·subst e;rw[gg]at hb;cases hb
   ·exact pG e
theorem zg{ops:Array Oper}{o:Oper}{p:Nat}:∀{l:List Oper} {k:Nat},tK ops o p l k=true->∀i o',l[i]?=some o'->(rB o'.dst (looks ops o)=true\/rB o.dst (looks ops o')=true\/rB o.dst o'.dst.toList=true)->p.testBit (k+i)=true
 |[],k,_,i,o',h,_=>by simp at h
 |x::l,k,h,0,o',ho,hh=>by
  simp at ho;subst ho;simp only[tK]at h;split at h
  ·cases h
  ·next hb=>
   rw[bZ]
   cases hp:p.testBit k with
   |true=>rfl
   |false=>
    exfalso;rw[hp]at hb;rcases hh with hh|hh|hh<;>simp[hh]at hb
 |x::l,k,h,i+1,o',ho,hh=>by
  simp only[tK]at h;split at h
  ·cases h
  ·have:=zg h i o' (by simpa using ho) hh;rwa[show k+1+i=k+(i+1) by omega]at this
theorem qo{k:Nat}:∀{l:List Edge},ly k l=true->∀e∈l,Region.binds .any e=true->e.on<k
 |x::l,h,e,he,hb=>by
  simp only[ly]at h;split at h
  ·cases h
  ·next hx=>
   rcases bP.1 he with e1|e1
   ·subst e1;rw[hb]at hx;simp only[uS,Bool.not_eq_false']at hx;simpa[bA]using hx
   ·exact qo h e e1 hb
theorem Ht{ops:Array Oper}:∀(l acc:List Oper) (ps:List Nat) (r:List RO),iE P n true ops acc l ps=some r->r.length=l.length/\∀i o,l[i]?=some o->∃p g,ps[i]?=some p/\cZ n o.dst=true/\tK ops o p (acc++l.take i) 0=true/\ly (acc.length+i) o.after.toList=true/\(match o.guard with
  |none=>some none
  |some (j,b)=>((ops[j]?).bind (·.dst)).map fun t=>some (t,b))=some g/\r[i]?=some ⟨o.dst,g,(match ba P o.op with|some x=>x|none=>.bad),p⟩
 |[],acc,ps,r,h=>by
  simp only[iE,ak]at h;subst h;exact⟨rfl,fun i o ho=>by simp at ho⟩
 |o::l,acc,ps,r,h=>by
  obtain⟨p,ps',g,r',rfl,h1,h2,h3,h4,rfl⟩:=vG h;obtain⟨k1,k2⟩:=Ht l (acc++[o]) ps' r' h4;refine⟨by simp[k1],fun i o' ho=>?_⟩
  cases i with
  |zero=>
   simp at ho;subst ho;exact⟨p,g,rfl,h1,by simpa using(h2 rfl).1,by simpa using(h2 rfl).2,h3,rfl⟩
  |succ i=>
   obtain⟨p',g',q1,q2,q3,q4,q5,q6⟩:=k2 i o' (by simpa using ho);refine⟨p',g',by simpa using q1,q2,by simpa using q3,?_,q5,by simpa using q6⟩;rw[cI,jR]at q4;rwa[show acc.length+1+i=acc.length+(i+1) by omega]at q4
structure Stat(P:Program)(n:Nat)(ops:Array Oper)(r:List RO):Prop where
 len:r.length=ops.size
 row : ∀ (i : Nat) (o : Oper), ops[i]? = some o -> ∃ g p, r[i]? = some ⟨o.dst, g, (match ba P o.op with | some x => x | none => .bad), p⟩ /\ cZ n o.dst = true /\ (match o.guard with
       |none=>some none
       |some (j,b)=>((ops[j]?).bind (·.dst)).map fun t=>some (t,b))=some g
 pre:∀(i:Nat) (o:Oper) (ro:RO) (q:Nat),ops[i]?=some o->r[i]?=some ro->ro.pre.testBit q=true->∃e∈o.after.toList,Region.binds .any e=true/\(e.on=q\/∃ro',r[e.on]?=some ro'/\ro'.pre.testBit q=true)
 edge:∀(i:Nat) (o:Oper) (e:Edge),ops[i]?=some o->e∈o.after.toList->Region.binds .any e=true->e.on<i
 tmp:∀(i j:Nat) (o' o:Oper) (ro:RO) (t:Nat),i<j->ops[i]?=some o'->ops[j]?=some o->r[j]?=some ro->((o'.dst=some t/\t∈looks ops o)\/(o.dst=some t/\t∈looks ops o')\/(o.dst=some t/\o'.dst=some t))->ro.pre.testBit i=true
theorem Rx{ops:Array Oper}{r:List RO}(h:iE P n true ops [] ops.toList (mc ops.toList [])=some r):Stat P n ops r:=by
 obtain⟨k1,k2⟩:=Ht _ _ _ _ h;have hl:∀{i:Nat} {o:Oper},ops[i]?=some o->ops.toList[i]?=some o:=fun ho=>by simpa using ho
 have hpre:∀(i:Nat) (o:Oper) (ro:RO),ops[i]?=some o->r[i]?=some ro->(mc ops.toList [])[i]?=some ro.pre:=fun i o ro ho hr=>by
  obtain⟨p,g,q1,_,_,_,_,q6⟩:=k2 i o (hl ho);rw[hr]at q6;simp only[ak]at q6;subst q6;exact q1
 refine⟨by rw[k1];simp,fun i o ho=>?_,fun i o ro q ho hr hq=>?_,fun i o e ho he hb=>?_,fun i j o' o ro t hij ho' ho hr ht=>?_⟩
 ·obtain⟨p,g,q1,q2,q3,q4,q5,q6⟩:=k2 i o (hl ho);exact⟨g,p,q6,q2,q5⟩
 ·have h1:=hpre i o ro ho hr;have h2:=A8 ops.toList [] i o (hl ho);simp only[ic,bu]at h2;rw[h1]at h2;simp only[ak]at h2;rw[h2]at hq;obtain⟨e,he,hb,hh⟩:=po hq;refine⟨e,he,hb,hh.imp id fun hx=>?_⟩;rw[xV,im]at hx;split at hx
  ·next hlt=>
   have hsz:i<ops.size:=(iu.1 ho).1;obtain⟨o2,ho2⟩:∃o2,ops[e.on]?=some o2:=⟨_,lC aa⟩;obtain⟨p,g,q1,q2,q3,q4,q5,q6⟩:=k2 e.on o2 (hl ho2);rw[q1]at hx;exact⟨_,q6,by simpa using hx⟩
  ·simp at hx
 ·obtain⟨p,g,q1,q2,q3,q4,q5,q6⟩:=k2 i o (hl ho);have:=qo q4 e he hb;simpa using this
 ·obtain⟨p,g,q1,q2,q3,q4,q5,q6⟩:=k2 j o (hl ho);rw[hr]at q6;simp only[ak]at q6;subst q6;have:=zg q3 i o' (by rw[fM,ja hij];exact hl ho') (by
   rcases ht with⟨h1,h2⟩|⟨h1,h2⟩|⟨h1,h2⟩
   ·exact .inl (by rw[h1];exact pG h2)
   ·exact .inr (.inl (by rw[h1];exact pG h2))
   ·exact .inr (.inr (by rw[h1,h2];exact pG aV)))
  simpa using this
end CI
end
section
open Go.RowKit
namespace DW
inductive Mn where
 |val (d:D)
 |alloc (k:Nat) (q:Ow) (d:D)
 |store (k i:Nat) (d:D)
structure FP where
 rc:List Nat
 rs:List Nat
 wc:List Nat
 al:List Nat
 me:List Nat
def mAp(t:Option Tmp)(m:Mn)(s:S):S:=
 match m with
 | .val d=>s.put t d
 | .alloc k q d=>⟨(s.put t d).sl,(k,q)::s.ow⟩
 | .store k i d=>⟨s.sl,cP k i d s.ow⟩
def Mn.dt:Mn->Option D
 | .val d=>some d
 | .alloc _ _ d=>some d
 | .store ..=>none
def stL(L:Nat->Bool):List (Option Tmp×Mn)->Nat->S->S
 |[],_,s=>s
 |(t,m)::l,i,s=>stL L l (i+1) (match L i with|true=>mAp t m s|false=>s)
structure Eqv(s s':S):Prop where
 gt:∀t,s.gt t=s'.gt t
 ow:s.ow.Perm s'.ow
theorem Eqv.refl(s:S):Eqv s s:=⟨fun _=>rfl,.refl _⟩
theorem Eqv.of{s s':S}(h:s=s'):Eqv s s':=h▸Eqv.refl s
theorem Eqv.trans{a b c:S}(h:Eqv a b)(k:Eqv b c):Eqv a c:=⟨fun t=>(h.gt t).trans (k.gt t),h.ow.trans k.ow⟩
theorem Lk(s:S)(t:Option Tmp)(d:D)(u:Nat):(s.put t d).gt u=if t=some u then d else s.gt u:=by
 cases t with
 |none=>rfl
 |some t=>
  show look ((t,d)::s.sl) u=_;simp only[look,ak];rfl
theorem mW(s:S)(t:Option Tmp)(d:D):(s.put t d).ow=s.ow:=by cases t<;>rfl
theorem ni(t:Option Tmp)(m:Mn)(s:S)(u:Nat):(mAp t m s).gt u=match m.dt with|some d=>if t=some u then d else s.gt u|none=>s.gt u:=by
 cases m with
 |val d=>exact Lk s t d u
 |alloc k q d=>exact Lk s t d u
 |store k i d=>rfl
theorem K6(k i:Nat)(d:D){l l':List (Nat×Ow)}(h:l.Perm l'):(cP k i d l).Perm (cP k i d l'):=by
 have e:∀l:List (Nat×Ow),cP k i d l=l.map fun p=>match Nat.beq p.1 k with|true=>(p.1,⟨p.2.T,p.2.wd,p.2.l.set i d⟩)|false=>p:=fun l=>by
  induction l with
  |nil=>rfl
  |cons p l ih=>
   obtain⟨j,q⟩:=p;simp only[cP,eM,ih];cases Nat.beq j k<;>rfl
 rw[e,e];exact h.map _
theorem BI{k k' i i':Nat}{d d':D}(h:k≠k'):∀l:List (Nat×Ow),cP k i d (cP k' i' d' l)=cP k' i' d' (cP k i d l)
 |[]=>rfl
 |(j,q)::l=>by
  have ih:=BI (i:=i) (i':=i') (d:=d) (d':=d') h l
  cases h1:Nat.beq j k with
  |true=>
   have h2:Nat.beq j k'=false:=by
    cases h2:Nat.beq j k' with
    |false=>rfl
    |true=>exact absurd ((gJ h1).symm.trans (gJ h2)) h
   simp only[cP,h1,h2,ih]
  |false=>
   cases h2:Nat.beq j k' with
   |true=>simp only[cP,h1,h2,ih]
   |false=>simp only[cP,h1,h2,ih]
theorem Sk(t:Option Tmp)(m:Mn){s s':S}(h:Eqv s s'):Eqv (mAp t m s) (mAp t m s'):=by
 refine⟨fun u=>by rw[ni,ni,h.gt],?_⟩
 cases m with
 |val d=>simp only[mAp,mW];exact h.ow
 |alloc k q d=>exact h.ow.cons _
 |store k i d=>exact K6 k i d h.ow
theorem AQ(L:Nat->Bool):∀(l:List (Option Tmp×Mn)) (i:Nat) {s s':S},Eqv s s'->Eqv (stL L l i s) (stL L l i s')
 |[],_,_,_,h=>h
 |(t,m)::l,i,s,s',h=>by
  simp only[stL]
  cases L i with
  |true=>exact AQ L l (i+1) (Sk t m h)
  |false=>exact AQ L l (i+1) h
def comm(t t':Option Tmp)(m m':Mn):Prop:=
 (∀u,t=some u->t'=some u->False)/\
 (∀k q d k' i' d',m= .alloc k q d->m'= .store k' i' d'->k≠k')/\
 (∀k q d k' i' d',m'= .alloc k q d->m= .store k' i' d'->k≠k')/\
 (∀k i d k' i' d',m= .store k i d->m'= .store k' i' d'->k≠k')
theorem vj{k k' i:Nat}{q:Ow}{d:D}(h:k≠k')(l:List (Nat×Ow)):cP k' i d ((k,q)::l)=(k,q)::cP k' i d l:=by
 simp only[cP]
 cases hb:Nat.beq k k' with
 |true=>exact absurd (gJ hb) h
 |false=>rfl
theorem On{t t':Option Tmp}{m m':Mn}(h:comm t t' m m')(s:S):Eqv (mAp t m (mAp t' m' s)) (mAp t' m' (mAp t m s)):=by
 obtain⟨h1,h2,h3,h4⟩:=h;refine⟨fun u=>?_,?_⟩
 ·rw[ni,ni,ni,ni]
  cases m.dt with
  |none=>rfl
  |some d=>
   cases m'.dt with
   |none=>rfl
   |some d'=>
    simp only;by_cases e:t=some u
    ·rw[an e,ai (fun e'=>h1 u e e'),an e]
    ·rw[ai e,ai e]
 ·cases m with
  |val d=>
   cases m' with
   |val d'=>simp only[mAp,mW];exact .refl _
   |alloc k q d'=>simp only[mAp,mW];exact .refl _
   |store k i d'=>simp only[mAp,mW];exact .refl _
  |alloc k q d=>
   cases m' with
   |val d'=>simp only[mAp,mW];exact .refl _
   |alloc k' q' d'=>simp only[mAp];exact List.Perm.swap _ _ _
   |store k' i d'=>
    simp only[mAp];rw[vj (h2 _ _ _ _ _ _ rfl rfl)]
  |store k i d=>
   cases m' with
   |val d'=>simp only[mAp,mW];exact .refl _
   |alloc k' q' d'=>
    simp only[mAp];rw[vj (h3 _ _ _ _ _ _ rfl rfl)]
   |store k' i' d'=>
    simp only[mAp];rw[BI (h4 _ _ _ _ _ _ rfl rfl)]
theorem xw{L:Nat->Bool}:∀(l:List (Option Tmp×Mn)) (i:Nat) (s:S),(∀j,i<=j->L j=false)->stL L l i s=s
 |[],_,_,_=>rfl
 |(t,m)::l,i,s,h=>by
  simp only[stL,h i (af _)];exact xw l (i+1) s fun j hj=>h j aa
theorem BF{L L':Nat->Bool}:∀(l:List (Option Tmp×Mn)) (i:Nat) (s:S),(∀j,i<=j->L j=L' j)->stL L l i s=stL L' l i s
 |[],_,_,_=>rfl
 |(t,m)::l,i,s,h=>by
  simp only[stL,h i (af _)];exact BF l (i+1) _ fun j hj=>h j aa
theorem zn{L:Nat->Bool}{t:Option Tmp}{m:Mn}:∀(l:List (Option Tmp×Mn)) (i:Nat) (s:S),(∀j t' m',l[j]?=some (t',m')->L (i+j)=true->comm t t' m m')->Eqv (mAp t m (stL L l i s)) (stL L l i (mAp t m s))
 |[],_,s,_=>Eqv.refl _
 |(t',m')::l,i,s,h=>by
  simp only[stL];have ih:=fun s=>zn (L:=L) (t:=t) (m:=m) l (i+1) s fun j t'' m'' hj hL=>h (j+1) t'' m'' (by simpa using hj) (by rw[show i+(j+1)=i+1+j by omega];exact hL)
  cases hL:L i with
  |false=>exact ih s
  |true=>exact(ih _).trans (AQ L l (i+1) (On (h 0 t' m' rfl hL) s))
theorem Dz{L L':Nat->Bool}{t:Option Tmp}{m:Mn}:∀(l:List (Option Tmp×Mn)) (i j:Nat) (s:S),i<=j->l[j-i]?=some (t,m)->L j=false->L' j=true->(∀x,x≠j->L' x=L x)->
  (∀x t' m',j<i+x->l[x]?=some (t',m')->L (i+x)=true->comm t t' m m')->Eqv (mAp t m (stL L l i s)) (stL L' l i s)
 |[],i,j,s,_,e,_,_,_,_=>by simp at e
 |(t',m')::l,i,j,s,hij,e,h1,h2,h3,h4=>by
  simp only[stL];by_cases hx:i=j
  ·subst hx;rw[gh]at e;simp at e;obtain⟨rfl,rfl⟩:=e;rw[h1,h2];simp only;refine(zn l (i+1) s fun x t'' m'' hl hL=>h4 (x+1) t'' m'' aa mI (by rw[show i+(x+1)=i+1+x by omega];exact hL)).trans ?_;rw[BF (L:=L) (L':=L') l (i+1) _ fun x hx=>(h3 x aa).symm];exact Eqv.refl _
  ·rw[h3 i hx];refine Dz l (i+1) j _ aa ?_ h1 h2 h3 fun x t'' m'' hlt hl hL=>h4 (x+1) t'' m'' aa mI (by rw[show i+(x+1)=i+1+x by omega];exact hL);rw[show j-i=j-(i+1)+1 by omega]at e;simpa using e
theorem KQ{L L':Nat->Bool}{u:Nat}:∀(l:List (Option Tmp×Mn)) (i:Nat) (s s':S),s.gt u=s'.gt u->(∀x m,l[x]?=some (some u,m)->L (i+x)=L' (i+x))->(stL L l i s).gt u=(stL L' l i s').gt u
 |[],_,s,s',h,_=>h
 |(t,m)::l,i,s,s',h,hh=>by
  simp only[stL];refine KQ l (i+1) _ _ ?_ fun x m' hl=>?_
  ·by_cases ht:t=some u
   ·have:=hh 0 m (by simp[ht]);simp only[bZ]at this;rw[this]
    cases L' i with
    |false=>exact h
    |true=>simp only[ni];rw[h]
   ·have key : ∀ (b : Bool) (σ : S), (match b with | true => mAp t m σ | false => σ).gt u = σ.gt u := fun b σ => by
     cases b with
     |false=>rfl
     |true=>
      simp only[ni]
      cases m.dt with
      |none=>rfl
      |some d=>simp only[ai ht]
    rw[key,key];exact h
  ·have:=hh (x+1) m' mI;rwa[show i+(x+1)=i+1+x by omega]at this
def ent(k:Nat)(l:List (Nat×Ow)):List (Nat×Ow):=l.filter fun p=>Nat.beq p.1 k
theorem pF{k:Nat}{l:List (Nat×Ow)}{q:Ow}:(k,q)∈ent k l↔(k,q)∈l:=by
 unfold ent;rw[List.mem_filter];simp
def Mn.tc(k:Nat):Mn->Bool
 | .val _=>false
 | .alloc j _ _=>Nat.beq j k
 | .store j _ _=>Nat.beq j k
def Mn.mk'(k:Nat):Mn->Bool
 | .alloc j _ _=>Nat.beq j k
 |_=>false
theorem ur(k j i:Nat)(d:D):∀l:List (Nat×Ow),ent k (cP j i d l)=cP j i d (ent k l)
 |[]=>rfl
 |(x,q)::l=>by
  have ih:=ur k j i d l;unfold ent at ih⊢
  cases h1:Nat.beq x j with
  |true=>
   simp only[cP,h1]
   cases h2:Nat.beq x k with
   |true=>rw[yJ (by exact h2),yJ (by exact h2),ih];simp only[cP,h1]
   |false=>rw[uP (by simp[h2]),uP (by simp[h2]),ih]
  |false=>
   simp only[cP,h1]
   cases h2:Nat.beq x k with
   |true=>rw[yJ (by exact h2),yJ (by exact h2),ih];simp only[cP,h1]
   |false=>rw[uP (by simp[h2]),uP (by simp[h2]),ih]
theorem BH{k i:Nat}{d:D}:∀{l:List (Nat×Ow)},(∀p∈l,p.1≠k)->cP k i d l=l
 |[],_=>rfl
 |(x,q)::l,h=>by
  simp only[cP]
  cases h1:Nat.beq x k with
  |true=>exact absurd (gJ h1) (h _ bw)
  |false=>rw[BH fun p hp=>h p (bC _ hp)]
theorem Hl{k:Nat}{l:List (Nat×Ow)}{p:Nat×Ow}(h:p∈ent k l):p.1=k:=by
 unfold ent at h;rw[List.mem_filter]at h;exact gJ h.2
theorem Sl{k:Nat}{t:Option Tmp}{m:Mn}{s s':S}(h:ent k s.ow=ent k s'.ow):ent k (mAp t m s).ow=ent k (mAp t m s').ow:=by
 cases m with
 |val d=>simp only[mAp,mW];exact h
 |alloc j q d=>
  simp only[mAp];unfold ent at h⊢;simp only[List.filter_cons,h]
 |store j i d=>
  simp only[mAp,ur,h]
theorem xe{k:Nat}{t:Option Tmp}{m:Mn}(hm:m.tc k=false)(s:S):ent k (mAp t m s).ow=ent k s.ow:=by
 cases m with
 |val d=>simp only[mAp,mW]
 |alloc j q d=>
  simp only[mAp];unfold ent;rw[uP (by show¬Nat.beq j k=true;rw[show Nat.beq j k=false from hm];decide)]
 |store j i d=>
  simp only[mAp,ur];refine BH fun p hp e=>?_;rw[Hl hp]at e;simp[Mn.tc,e]at hm
theorem AS{L L':Nat->Bool}{k:Nat}:∀(l:List (Option Tmp×Mn)) (i:Nat) (s s':S),ent k s.ow=ent k s'.ow->(∀x t m,l[x]?=some (t,m)->m.tc k=true->L (i+x)=L' (i+x))->ent k (stL L l i s).ow=ent k (stL L' l i s').ow
 |[],_,s,s',h,_=>h
 |(t,m)::l,i,s,s',h,hh=>by
  simp only[stL];refine AS l (i+1) _ _ ?_ fun x t' m' hl hm=>?_
  ·cases hm:m.tc k with
   |true=>
    have:=hh 0 t m aV hm;simp only[bZ]at this;rw[this]
    cases L' i with
    |false=>exact h
    |true=>exact Sl h
   |false=>
    have key:∀(b:Bool) (σ:S),ent k (match b with|true=>mAp t m σ|false=>σ).ow=ent k σ.ow:=fun b σ=>by
     cases b with
     |false=>rfl
     |true=>exact xe hm σ
    rw[key,key];exact h
  ·have:=hh (x+1) t' m' mI hm;rwa[show i+(x+1)=i+1+x by omega]at this
def shp(k:Nat)(l:List (Nat×Ow)):List (TypeId×Nat×Nat):=(ent k l).map fun p=>(p.2.T,p.2.wd,p.2.l.length)
theorem DK(k j i:Nat)(d:D):∀l:List (Nat×Ow),(cP j i d l).map (fun p=>(p.2.T,p.2.wd,p.2.l.length))=l.map fun p=>(p.2.T,p.2.wd,p.2.l.length)
 |[]=>rfl
 |(x,q)::l=>by
  have ih:=DK k j i d l;simp only[cP]
  cases Nat.beq x j with
  |true=>simp only[eM,ih,fe]
  |false=>simp only[eM,ih]
theorem GH{L L':Nat->Bool}{k:Nat}:∀(l:List (Option Tmp×Mn)) (i:Nat) (s s':S),shp k s.ow=shp k s'.ow->(∀x t m,l[x]?=some (t,m)->m.mk' k=true->L (i+x)=L' (i+x))->shp k (stL L l i s).ow=shp k (stL L' l i s').ow
 |[],_,s,s',h,_=>h
 |(t,m)::l,i,s,s',h,hh=>by
  simp only[stL];refine GH l (i+1) _ _ ?_ fun x t' m' hl hm=>?_
  ·have off : m.mk' k = false -> ∀ (b : Bool) (σ : S), shp k (match b with | true => mAp t m σ | false => σ).ow = shp k σ.ow := fun hm b σ => by
    cases b with
    |false=>rfl
    |true=>
     cases m with
     |val d=>simp only[mAp,mW]
     |alloc j q d=>
      unfold shp;rw[xe (by simpa[Mn.tc,Mn.mk']using hm)]
     |store j i d=>
      unfold shp;simp only[mAp,ur];exact DK k j i d _
   cases hm:m.mk' k with
   |true=>
    have:=hh 0 t m aV hm;simp only[bZ]at this;rw[this]
    cases L' i with
    |false=>exact h
    |true=>
     cases m with
     |val d=>simp[Mn.mk']at hm
     |store j i d=>simp[Mn.mk']at hm
     |alloc j q d=>
      simp only[mAp];unfold shp ent at h⊢;simp only[List.filter_cons];split
      ·simp only[eM,h]
      ·exact h
   |false=>rw[off hm,off hm];exact h
  ·have:=hh (x+1) t' m' mI hm;rwa[show i+(x+1)=i+1+x by omega]at this
end DW
end
section
open Go.RowKit
namespace DW
def EP(a b:List Nat):Bool:=a.any fun x=>CI.rC x b
theorem wK{a b:List Nat}{k:Nat}(h1:k∈a)(h2:k∈b):EP a b=true:=mO.2 ⟨k,h1,CI.pG h2⟩
def kP(ops:Array Oper)(o' o:Oper):Bool:=CI.rB o'.dst (CI.looks ops o)||CI.rB o.dst (CI.looks ops o')||CI.rB o.dst o'.dst.toList
def iX(f' f:FP):Bool:=EP f'.wc (f.rc++f.wc)||EP f'.rc f.wc||EP f'.al (f.rc++f.rs++f.wc++f.me)
def never(f' f:FP):Bool:=EP f.al (f'.rc++f'.rs++f'.wc++f'.me++f'.al)
def lI(ops:Array Oper)(o' o:Oper)(f' f:FP)(p i:Nat):Bool:=(!(kP ops o' o||iX f' f)||p.testBit i)&& !never f' f
def zy(ops:Array Oper)(o:Oper)(f:FP)(p:Nat):List (Oper×FP)->Nat->Bool
 |[],_=>true
 |(o',f')::l,i=>lI ops o' o f' f p i&&zy ops o f p l (i+1)
def ud(ops:Array Oper)(n:Nat)(ks:List Nat):List Oper->List FP->List Nat->List (Oper×FP)->Bool
 |[],[],_,_=>true
 |o::l,f::fs,p::ps,acc=>CI.ly acc.length o.after.toList&&f.al.all (fun k=>CI.rC k ks)&&zy ops o f p acc 0&&ud ops n ks l fs ps (acc++[(o,f)])
 |_,_,_,_=>false
def vq(ops:Array Oper)(n:Nat)(ks:List Nat)(fps:List FP):Bool:=ud ops n ks ops.toList fps (CI.mc ops.toList []) []
theorem oO{i k:Nat}(h:k<=i):Nat.blt i k=false:=by
 cases hb:Nat.blt i k with
 |false=>rfl
 |true=>rw[bA]at hb;omega
theorem zx{ops:Array Oper}{o:Oper}{f:FP}{p:Nat}:∀{l:List (Oper×FP)} {k:Nat},zy ops o f p l k=true->∀i o' f',l[i]?=some (o',f')->lI ops o' o f' f p (k+i)=true
 |[],_,_,i,o',f',e=>by simp at e
 |(x,y)::l,k,h,0,o',f',e=>by
  simp only[zy,ei]at h;rw[List.getElem?_cons_zero]at e;cases e;rw[bZ];exact h.1
 |(x,y)::l,k,h,i+1,o',f',e=>by
  simp only[zy,ei]at h;have:=zx h.2 i o' f' pa;rwa[show k+1+i=k+(i+1) by omega]at this
theorem zJ{ops:Array Oper}{n:Nat}{ks:List Nat}:∀{l:List Oper} {fs:List FP} {ps:List Nat} {acc:List (Oper×FP)},ud ops n ks l fs ps acc=true->fs.length=l.length/\∀(j:Nat) (o:Oper),l[j]?=some o->∃f p,fs[j]?=some f/\ps[j]?=some p/\CI.ly (acc.length+j) o.after.toList=true/\(∀k∈f.al,CI.rC k ks=true)/\
  (∀i o' f',acc[i]?=some (o',f')->lI ops o' o f' f p i=true)/\∀i o' f',i<j->l[i]?=some o'->fs[i]?=some f'->lI ops o' o f' f p (acc.length+i)=true
 |[],[],_,_,_=>⟨rfl,fun j o h=>by simp at h⟩
 |o::l,f::fs,p::ps,acc,h=>by
  simp only[ud,ei]at h;obtain⟨⟨⟨h1,h2⟩,h3⟩,h4⟩:=h;obtain⟨k1,k2⟩:=zJ h4;refine⟨by simp[k1],fun j o' ho=>?_⟩
  cases j with
  |zero=>
   simp at ho;subst ho;exact⟨f,p,rfl,rfl,h1,by simpa using h2,fun i o' f' e=>by have:=zx h3 i o' f' e;rwa[bu]at this,fun i _ _ hi=>by omega⟩
  |succ j=>
   obtain⟨f1,p1,q1,q2,q3,q4,q5,q6⟩:=k2 j o' (by simpa using ho);simp only[cI,jR]at q3 q6;refine⟨f1,p1,by simpa using q1,by simpa using q2,by rwa[show acc.length+1+j=acc.length+(j+1) by omega]at q3,q4,fun i o2 f2 e=>q5 i o2 f2 ?_,fun i o2 f2 hi e1 e2=>?_⟩
   ·rw[dQ (cD.1 e).1];exact e
   ·cases i with
    |zero=>
     simp at e1 e2;subst e1;subst e2;have:=q5 acc.length o f (by rw[fU (af _)];simp);exact this
    |succ i=>
     have:=q6 i o2 f2 aa (by simpa using e1) (by simpa using e2);rwa[show acc.length+1+i=acc.length+(i+1) by omega]at this
 |[],_::_,_,_,h=>by simp[ud]at h
 |_::_,[],_,_,h=>by simp[ud]at h
 |_::_,_::_,[],_,h=>by simp[ud]at h
structure uG(ops:Array Oper)(o:Oper)(f:FP)(sj σ:S):Prop where
 sl:∀t,t∈CI.looks ops o->σ.gt t=sj.gt t
 rc:∀k,k∈f.rc->ent k σ.ow=ent k sj.ow
 rs:∀k,k∈f.rs\/k∈f.wc->shp k σ.ow=shp k sj.ow
 al:∀k,k∈f.al->ent k σ.ow=ent k sj.ow/\∀t,(σ.gt t).is k=false
def MS(P:Program)(X0:Nat->Prop)(n:Nat)(ops:Array Oper)(o:Oper)(sj:S)(m:Mn)(f:FP):Prop:=
 ∀σ,uG ops o f sj σ->∀w0 g a w,Hd X0 n w0 σ g a w->∀Qx:Exit->Act->World->Prop,
  if Region.wanted o (yielded ops a.tmps)=true then o.wp P a w (fun a' w'=>∃g',Hd X0 n w0 (mAp o.dst m σ) g' a' w') Qx else∃g',Hd X0 n w0 (mAp o.dst m σ) g' (a.put o.dst undef) w
def qx:Mn->FP->Prop
 | .val d,f=>∀k,d.is k=true->k∈f.me
 | .alloc k _ d,f=>k∈f.al/\∀k',d.is k'=true->k'=k
 | .store k _ _,f=>k∈f.wc
def aM(P:Program)(X0:Nat->Prop)(n:Nat)(ops:Array Oper):List Oper->S->List FP->(S->Prop)->Prop
 |[],s,fps,K=>fps=[]/\K s
 |o::l,s,fps,K=>∃f fs m,fps=f::fs/\qx m f/\MS P X0 n ops o s m f/\aM P X0 n ops l (mAp o.dst m s) fs K
def aML(P:Program)(X0:Nat->Prop)(n:Nat)(ops:Array Oper):List Oper->S->List FP->List (Option Tmp×Mn)->S->Prop
 |[],s,fps,st,s'=>fps=[]/\st=[]/\s=s'
 |o::l,s,fps,st,s'=>∃f fs m st',fps=f::fs/\st=(o.dst,m)::st'/\qx m f/\MS P X0 n ops o s m f/\aML P X0 n ops l (mAp o.dst m s) fs st' s'
section
variable {P : Program} {X0 : Nat->Prop} {n : Nat} {ops : Array Oper} {Q : Exit->S->Prop} {s : S}
theorem MZ{K:S->Prop}:∀{l:List Oper} {s:S} {fps:List FP},aM P X0 n ops l s fps K->∃st s',aML P X0 n ops l s fps st s'/\K s'
 |[],s,fps,h=>⟨[],s,⟨h.1,rfl,rfl⟩,h.2⟩
 |o::l,s,fps,⟨f,fs,m,h1,h2,h3,h4⟩=>by
  obtain⟨st,s',k1,k2⟩:=MZ h4;exact⟨(o.dst,m)::st,s',⟨f,fs,m,st,h1,rfl,h2,h3,k1⟩,k2⟩
theorem Bw:∀{l:List Oper} {s:S} {fps:List FP} {st:List (Option Tmp×Mn)} {s':S} (k:Nat),aML P X0 n ops l s fps st s'->st.length=l.length/\s'=stL (fun _=>true) st k s
 |[],s,fps,st,s',k,⟨_,h2,h3⟩=>by subst h2;subst h3;exact⟨rfl,rfl⟩
 |o::l,s,fps,st,s',k,⟨f,fs,m,st',h1,h2,h3,h4,h5⟩=>by
  obtain⟨k1,k2⟩:=Bw (k+1) h5;subst h2;exact⟨by simp[k1],by simp only[stL];exact k2⟩
theorem M0:∀{l:List Oper} {s:S} {fps:List FP} {st:List (Option Tmp×Mn)} {s':S} (k:Nat),aML P X0 n ops l s fps st s'->∀j o,k<=j->l[j-k]?=some o->∃f m,fps[j-k]?=some f/\st[j-k]?=some (o.dst,m)/\qx m f/\MS P X0 n ops o (stL (fun i=>Nat.blt i j) st k s) m f
 |[],s,fps,st,s',k,_,j,o,_,h=>by simp at h
 |o::l,s,fps,st,s',k,⟨f,fs,m,st',h1,h2,h3,h4,h5⟩,j,o',hkj,hl=>by
  subst h1;subst h2;by_cases hj:k=j
  ·subst hj;rw[gh]at hl⊢;simp at hl;subst hl;refine⟨f,m,rfl,rfl,h3,?_⟩;rw[xw _ _ _ fun i hi=>oO hi];exact h4
  ·have hlt:k<j:=by omega
   obtain⟨f',m',q1,q2,q3,q4⟩:=M0 (k+1) h5 j o' aa (by rw[show j-k=j-(k+1)+1 by omega]at hl;simpa using hl);refine⟨f',m',by rw[show j-k=j-(k+1)+1 by omega];simpa using q1,by rw[show j-k=j-(k+1)+1 by omega];simpa using q2,q3,?_⟩;simp only[stL,(by simpa[bA]using hlt:Nat.blt k j=true)];exact q4
theorem AP{L:Nat->Bool}{u:Nat}:∀(l:List (Option Tmp×Mn)) (i:Nat) (s:S),(stL L l i s).gt u=s.gt u\/∃x t m d,l[x]?=some (t,m)/\L (i+x)=true/\m.dt=some d/\(stL L l i s).gt u=d
 |[],_,s=>.inl rfl
 |(t,m)::l,i,s=>by
  simp only[stL]
  cases hL:L i with
  |false=>
   rcases AP (L:=L) (u:=u) l (i+1) s with h|⟨x,t',m',d,h1,h2,h3,h4⟩
   ·exact .inl h
   ·exact .inr ⟨x+1,t',m',d,by simpa using h1,by rw[show i+(x+1)=i+1+x by omega];exact h2,h3,h4⟩
  |true=>
   rcases AP (L:=L) (u:=u) l (i+1) (mAp t m s)with h|⟨x,t',m',d,h1,h2,h3,h4⟩
   ·have h':(stL L l (i+1) (mAp t m s)).gt u=match m.dt with|some d=>if t=some u then d else s.gt u|none=>s.gt u:=h.trans (ni t m s u)
    cases hd:m.dt with
    |none=>
     rw[hd]at h';exact .inl h'
    |some d=>
     rw[hd]at h';simp only at h';by_cases e:t=some u
     ·rw[an e]at h';exact .inr ⟨0,t,m,d,rfl,hL,hd,h'⟩
     ·rw[ai e]at h';exact .inl h'
   ·exact .inr ⟨x+1,t',m',d,by simpa using h1,by rw[show i+(x+1)=i+1+x by omega];exact h2,h3,h4⟩
theorem Hd.eqv{w0:Bs}{s s':S}{f:Nat->Value}{a:Act}{w:World}(h:Hd X0 n w0 s f a w)(e:Eqv s s'):Hd X0 n w0 s' f a w:=by
 have hm:∀p,p∈s'.ow↔p∈s.ow:=fun p=>e.ow.mem_iff.symm;have hX:XO X0 s' f=XO X0 s f:=funext fun b=>propext (by
  unfold XO;constructor
  ·rintro(h|⟨p,hp,q⟩)
   ·exact .inl h
   ·exact .inr ⟨p,(hm p).1 hp,q⟩
  ·rintro(h|⟨p,hp,q⟩)
   ·exact .inl h
   ·exact .inr ⟨p,(hm p).2 hp,q⟩)
 refine⟨h.sz,h.df,h.bl,h.x0,h.xy,h.fx,fun p hp=>h.lo p ((hm p).1 hp),fun t=>by rw[hX,<-e.gt];exact h.sl t,fun p hp=>by rw[hX];exact h.ow p ((hm p).1 hp),fun b hb=>?_,fun p hp q hq=>h.dj p ((hm p).1 hp) q ((hm q).1 hq),fun p hp q hq=>h.un p ((hm p).1 hp) q ((hm q).1 hq)⟩;obtain⟨p,hp,q⟩:=hb;exact h.nw b ⟨p,(hm p).1 hp,q⟩
structure Mix(P:Program)(X0:Nat->Prop)(n:Nat)(ops:Array Oper)(s:S)(st:List (Option Tmp×Mn))(ps:List Nat):Prop where
 len:st.length=ops.size
 row:∀j o,ops[j]?=some o->∃f p m,ps[j]?=some p/\st[j]?=some (o.dst,m)/\qx m f/\MS P X0 n ops o (stL (fun i=>Nat.blt i j) st 0 s) m f/\CI.ly j o.after.toList=true/\(∀k∈f.al,∀t,(s.gt t).is k=false)/\
  (∀i o',i<j->ops[i]?=some o'->∃f' m',st[i]?=some (o'.dst,m')/\qx m' f'/\lI ops o' o f' f p i=true)/\
  (∀i o',j<i->ops[i]?=some o'->∃f' m' p',st[i]?=some (o'.dst,m')/\qx m' f'/\ps[i]?=some p'/\lI ops o o' f f' p' j=true)
 pre:∀(i:Nat) (o:Oper) (p q:Nat),ops[i]?=some o->ps[i]?=some p->p.testBit q=true->∃e∈o.after.toList,Region.binds .any e=true/\(e.on=q\/∃p',ps[e.on]?=some p'/\p'.testBit q=true)
theorem TN{ks:List Nat}{fps:List FP}{st:List (Option Tmp×Mn)}{s':S}(hc:vq ops n ks fps=true)(hb:∀k,k∈ks->∀t,(s.gt t).is k=false)(h:aML P X0 n ops ops.toList s fps st s'):Mix P X0 n ops s st (CI.mc ops.toList []):=by
 obtain⟨k1,k2⟩:=zJ hc;obtain⟨e1,_⟩:=Bw 0 h;have at':=fun j o (ho:ops[j]?=some o)=>M0 0 h j o (bg _) (by rw[kK];simpa using ho);refine⟨by simpa using e1,fun j o ho=>?_,fun i o p q ho hp hq=>?_⟩
 ·obtain⟨f,m,q1,q2,q3,q4⟩:=at' j o ho;rw[kK]at q1 q2;obtain⟨f1,p,r1,r2,r3,r4,_,r6⟩:=k2 j o (by simpa using ho);rw[q1]at r1;simp only[ak]at r1;subst r1;simp only[ic,bu]at r3 r6;refine⟨f,p,m,r2,q2,q3,q4,r3,fun k hk t=>hb k ?_ t,fun i o' hi ho'=>?_,fun i o' hi ho'=>?_⟩
  ·have:=r4 k hk;have hh:∀{l:List Nat},CI.rC k l=true->k∈l:=fun {l}=>by
    induction l with
    |nil=>intro h;simp[CI.rC]at h
    |cons x l ih=>
     intro h;simp only[CI.rC]at h;split at h
     ·next hb=>rw[gJ hb];exact bw
     ·exact bC _ (ih h)
   exact hh this
  ·obtain⟨f',m',q1',q2',q3',_⟩:=at' i o' ho';rw[kK]at q1' q2';exact⟨f',m',q2',q3',r6 i o' f' hi (by simpa using ho') q1'⟩
  ·obtain⟨f',m',q1',q2',q3',_⟩:=at' i o' ho';rw[kK]at q1' q2';obtain⟨f1,p',t1,t2,_,_,_,t6⟩:=k2 i o' (by simpa using ho');rw[q1']at t1;simp only[ak]at t1;subst t1;simp only[ic,bu]at t6;exact⟨f',m',p',q2',q3',t2,t6 j o f hi (by simpa using ho) q1⟩
 ·have h2:=CI.A8 ops.toList [] i o (by simpa using ho);simp only[ic,bu]at h2;rw[hp]at h2;simp only[ak]at h2;rw[h2]at hq;obtain⟨e,he,hb',hh⟩:=CI.po hq;refine⟨e,he,hb',hh.imp id fun hx=>?_⟩;rw[CI.xV,im]at hx;split at hx
  ·cases hz:(CI.mc ops.toList [])[e.on]? with
   |none=>rw[hz]at hx;simp at hx
   |some p'=>rw[hz]at hx;exact⟨p',rfl,by simpa using hx⟩
  ·simp at hx
end
end DW
end
section
open Go.RowKit
namespace DW
section
variable {P : Program} {X0 : Nat->Prop} {n : Nat} {ops : Array Oper} {Q : Exit->S->Prop} {s : S} {st : List (Option Tmp × Mn)} {ps : List Nat} {L : Nat->Bool} {j : Nat} {o : Oper}
def Aq(ps:List Nat)(L:Nat->Bool):Prop:=∀i p q,L i=true->ps[i]?=some p->p.testBit q=true->L q=true
theorem Bh{t:Nat}{x:Option Tmp}{l:List Nat}(h:x=some t)(hl:t∈l):CI.rB x l=true:=by
 rw[h];exact CI.pG hl
theorem zA{o' o:Oper}{f' f:FP}{p i:Nat}(h:lI ops o' o f' f p i=true):never f' f=false:=by
 unfold lI at h;simp only[ei,uR]at h;exact h.2
theorem zB{o' o:Oper}{f' f:FP}{p i:Nat}(h:lI ops o' o f' f p i=true)(hc:kP ops o' o=true\/iX f' f=true):p.testBit i=true:=by
 unfold lI at h;simp only[ei,yU,uR,yL]at h;rcases h.1 with⟨h1,h2⟩|h1
 ·rcases hc with hc|hc
  ·rw[h1]at hc;cases hc
  ·rw[h2]at hc;cases hc
 ·exact h1
theorem mf{f' f:FP}{k:Nat}(h1:k∈f.al)(h2:k∈f'.rc\/k∈f'.rs\/k∈f'.wc\/k∈f'.me\/k∈f'.al):never f' f=true:=by
 refine wK h1 ?_;simp only[gA];rcases h2 with h|h|h|h|h<;>simp[h]
theorem QK{f' f:FP}{k:Nat}(h1:k∈f'.wc)(h2:k∈f.rc\/k∈f.wc):iX f' f=true:=by
 unfold iX;rw[wK h1 (gA.2 h2)];rfl
theorem blk_r{f' f:FP}{k:Nat}(h1:k∈f'.rc)(h2:k∈f.wc):iX f' f=true:=by
 unfold iX;rw[wK h1 h2,Bool.or_true];rfl
theorem Ak{f' f:FP}{k:Nat}(h1:k∈f'.al)(h2:k∈f.rc\/k∈f.rs\/k∈f.wc\/k∈f.me):iX f' f=true:=by
 unfold iX;rw[wK h1 (by simp only[gA];rcases h2 with h|h|h|h<;>simp[h]),Bool.or_true]
theorem Ql{m:Mn}{f:FP}{k:Nat}(h:qx m f)(ht:m.tc k=true):k∈f.wc\/k∈f.al:=by
 cases m with
 |val d=>simp[Mn.tc]at ht
 |alloc j q d=>rw[<-gJ ht];exact .inr h.1
 |store j i d=>rw[<-gJ ht];exact .inl h
theorem mk_of{m:Mn}{f:FP}{k:Nat}(h:qx m f)(ht:m.mk' k=true):k∈f.al:=by
 cases m with
 |val d=>simp[Mn.mk']at ht
 |alloc j q d=>rw[<-gJ ht];exact h.1
 |store j i d=>simp[Mn.mk']at ht
theorem dt_of{m:Mn}{f:FP}{k:Nat}{d:D}(h:qx m f)(hd:m.dt=some d)(hk:d.is k=true):k∈f.me\/k∈f.al:=by
 cases m with
 |val d'=>simp[Mn.dt]at hd;subst hd;exact .inl (h k hk)
 |alloc j q d'=>simp[Mn.dt]at hd;subst hd;rw[h.2 k hk];exact .inr h.1
 |store j i d'=>simp[Mn.dt]at hd
theorem Mix.oper(M:Mix P X0 n ops s st ps){x:Nat}{t:Option Tmp}{m:Mn}(h:st[x]?=some (t,m)):∃o,ops[x]?=some o:=by
 have:=(cD.1 h).1;rw[M.len]at this;exact⟨ops[x],lC this⟩
theorem Mix.other(M:Mix P X0 n ops s st ps)(hL:Aq ps L)(ho:ops[j]?=some o):∃f m p,st[j]?=some (o.dst,m)/\ps[j]?=some p/\qx m f/\MS P X0 n ops o (stL (fun i=>Nat.blt i j) st 0 s) m f/\(∀k∈f.al,∀t,(s.gt t).is k=false)/\
  (L j=false->(∀q,p.testBit q=true->L q=true)->∀x t' m',st[x]?=some (t',m')->∃o' f',ops[x]?=some o'/\t'=o'.dst/\qx m' f'/\
   ((x<j/\never f' f=false/\(kP ops o' o=true\/iX f' f=true->L x=true))\/(x=j)\/(j<x/\never f f'=false/\(kP ops o o'=true\/iX f f'=true->L x=false)))):=by
 obtain⟨f,p,m,h1,h2,h3,h4,h5,h6,h7,h8⟩:=M.row j o ho;refine⟨f,m,p,h2,h1,h3,h4,h6,fun hj hp x t' m' hx=>?_⟩;obtain⟨o',ho'⟩:=M.oper hx;rcases mJ x j with e|e|e
 ·obtain⟨f',m'',q1,q2,q3⟩:=h7 x o' e ho';rw[hx]at q1;simp only[ak,aJ]at q1;obtain⟨rfl,rfl⟩:=q1;exact⟨o',f',ho',rfl,q2,.inl ⟨e,zA q3,fun hc=>hp x (zB q3 hc)⟩⟩
 ·subst e;rw[ho]at ho';simp only[ak]at ho';subst ho';rw[h2]at hx;simp only[ak,aJ]at hx;obtain⟨rfl,rfl⟩:=hx;exact⟨o,f,ho,rfl,h3,.inr (.inl rfl)⟩
 ·obtain⟨f',m'',p',q1,q2,q3,q4⟩:=h8 x o' e ho';rw[hx]at q1;simp only[ak,aJ]at q1;obtain⟨rfl,rfl⟩:=q1;refine⟨o',f',ho',rfl,q2,.inr (.inr ⟨e,zA q4,fun hc=>?_⟩)⟩;have hb:=zB q4 hc
  cases hLx:L x with
  |false=>rfl
  |true=>
   have:=hL x p' j hLx q3 hb;rw[hj]at this;cases this
theorem iG{b:Bool}(h:b=false)(h':b=true):False:=by rw[h]at h';cases h'
theorem Br{i k:Nat}(h:i<k):Nat.blt i k=true:=by rw[bA];exact h
theorem Mix.step(M:Mix P X0 n ops s st ps)(hL:Aq ps L)(ho:ops[j]?=some o)(hj:L j=false)(hp:∀p q,ps[j]?=some p->p.testBit q=true->L q=true){L':Nat->Bool}(h2:L' j=true)(h3:∀x,x≠j->L' x=L x):
  ∃m,(∀w0 g a w,Hd X0 n w0 (stL L st 0 s) g a w->∀Qx:Exit->Act->World->Prop,
   if Region.wanted o (yielded ops a.tmps)=true then o.wp P a w (fun a' w'=>∃g',Hd X0 n w0 (mAp o.dst m (stL L st 0 s)) g' a' w') Qx else∃g',Hd X0 n w0 (mAp o.dst m (stL L st 0 s)) g' (a.put o.dst undef) w)/\Eqv (mAp o.dst m (stL L st 0 s)) (stL L' st 0 s):=by
 obtain⟨f,m,p,e1,e2,e3,e4,e5,e6⟩:=M.other (L:=L) hL ho;have oth:=e6 hj (fun q hq=>hp p q e2 hq);refine⟨m,e4 _ ⟨fun t ht=>?_,fun k hk=>?_,fun k hk=>?_,fun k hk=>⟨?_,fun t=>?_⟩⟩,?_⟩
 ·refine KQ st 0 s s rfl fun x m' hx=>?_;rw[bu];obtain⟨o',f',q1,q2,q3,q4⟩:=oth x _ m' hx;rcases q4 with⟨e,_,hc⟩|e|⟨e,_,hc⟩
  ·rw[Br e];refine hc (.inl ?_);unfold kP;rw[Bh q2.symm ht];rfl
  ·subst e;rw[hj,oO (af _)]
  ·rw[oO (bN e)];refine hc (.inl ?_);unfold kP;rw[Bh q2.symm ht,Bool.or_true];rfl
 ·refine AS st 0 s s rfl fun x t' m' hx hm=>?_;rw[bu];obtain⟨o',f',q1,q2,q3,q4⟩:=oth x _ m' hx;have ht:=Ql q3 hm;rcases q4 with⟨e,hn,hc⟩|e|⟨e,hn,hc⟩
  ·rw[Br e];exact hc (.inr (ht.elim (fun h=>QK h (.inl hk)) (fun h=>Ak h (.inl hk))))
  ·subst e;rw[hj,oO (af _)]
  ·rw[oO (bN e)];rcases ht with ht|ht
   ·exact hc (.inr (blk_r hk ht))
   ·exact(iG hn (mf ht (.inl hk))).elim
 ·refine GH st 0 s s rfl fun x t' m' hx hm=>?_;rw[bu];obtain⟨o',f',q1,q2,q3,q4⟩:=oth x _ m' hx;have ht:=mk_of q3 hm;rcases q4 with⟨e,hn,hc⟩|e|⟨e,hn,hc⟩
  ·rw[Br e];exact hc (.inr (Ak ht (.inr (hk.elim .inl (fun h=>.inr (.inl h))))))
  ·subst e;rw[hj,oO (af _)]
  ·exact(iG hn (mf ht (.inr (hk.elim .inl (fun h=>.inr (.inl h)))))).elim
 ·refine AS st 0 s s rfl fun x t' m' hx hm=>?_;rw[bu];obtain⟨o',f',q1,q2,q3,q4⟩:=oth x _ m' hx;have ht:=Ql q3 hm;rcases q4 with⟨e,hn,hc⟩|e|⟨e,hn,hc⟩
  ·exact(iG hn (mf hk (by rcases ht with h|h<;>simp[h]))).elim
  ·subst e;rw[hj,oO (af _)]
  ·rw[oO (bN e)];rcases ht with ht|ht
   ·exact hc (.inr (Ak hk (by simp[ht])))
   ·exact(iG hn (mf ht (by simp[hk]))).elim
 ·rcases AP (L:=L) (u:=t) st 0 s with h|⟨x,t',m',d,q1,q2,q3,q4⟩
  ·rw[h];exact e5 k hk t
  ·rw[q4]
   cases hd:d.is k with
   |false=>rfl
   |true=>
    exfalso;rw[bu]at q2;obtain⟨o',f',_,_,r3,r4⟩:=oth x _ m' q1;have ht:=dt_of r3 q3 hd;rcases r4 with⟨e,hn,_⟩|e|⟨e,hn,hc⟩
    ·exact iG hn (mf hk (by rcases ht with h|h<;>simp[h]))
    ·subst e;exact iG hj q2
    ·rcases ht with ht|ht
     ·exact iG (hc (.inr (Ak hk (by simp[ht])))) q2
     ·exact iG hn (mf ht (by simp[hk]))
 ·refine Dz st 0 j s (bg _) (by rw[kK];exact e1) hj h2 h3 fun x t' m' hx hs hLx=>?_;rw[bu]at hx hLx;obtain⟨o',f',q1,q2,q3,q4⟩:=oth x _ m' hs;rcases q4 with⟨e,_⟩|e|⟨e,hn,hc⟩
  ·omega
  ·omega
  ·refine⟨fun u h1 h2=>?_,fun k q d k' i' d' h1 h2 hk=>?_,fun k q d k' i' d' h1 h2 hk=>?_,fun k i d k' i' d' h1 h2 hk=>?_⟩
   ·refine iG (hc (.inl ?_)) hLx;unfold kP;rw[Bh (x:=o'.dst) (l:=o.dst.toList) (q2.symm.trans h2) (by rw[h1];simp),Bool.or_true]
   ·subst h1;subst h2;subst hk;exact iG (hc (.inr (Ak e3.1 (.inr (.inr (.inl q3)))))) hLx
   ·subst h1;subst h2;subst hk;exact iG hn (mf q3.1 (.inr (.inr (.inl e3))))
   ·subst h1;subst h2;subst hk;exact iG (hc (.inr (QK e3 (.inr q3)))) hLx
theorem Se(M:Mix P X0 n ops s st ps){Qx:Exit->Act->World->Prop}{w0:Bs}(hq:∀g a w,Hd X0 n w0 (stL (fun _=>true) st 0 s) g a w->Qx .normal a w):∀(fuel:Nat) (listed:Array Bool) (a:Act) (w:World) (g:Nat->Value) (U:List Nat),listed.size=ops.size->U.length<=fuel->(∀i,i<ops.size->listed.getD i false=false->i∈U)->
  Aq ps (fun i=>listed.getD i false)->Hd X0 n w0 (stL (fun i=>listed.getD i false) st 0 s) g a w->wpAny P .any ops Qx fuel listed a w:=by
 have done:∀(listed:Array Bool) (a:Act) (w:World) (g:Nat->Value),(∀i,i<ops.size->listed.getD i false=true)->Hd X0 n w0 (stL (fun i=>listed.getD i false) st 0 s) g a w->Qx .normal a w:=fun listed a w g hall hh=>by
  refine hq g a w (hh.eqv (Eqv.of ?_));have key:∀(l:List (Option Tmp×Mn)) (i:Nat) (σ:S),(∀x,x<l.length->listed.getD (i+x) false=true)->stL (fun i=>listed.getD i false) l i σ=stL (fun _=>true) l i σ:=fun l=>by
   induction l with
   |nil=>intro i σ _;rfl
   |cons x l ih=>
    intro i σ hx;obtain⟨t,m⟩:=x;have h0:=hx 0 aV;rw[bZ]at h0;simp only[stL,h0];exact ih (i+1) _ fun y hy=>by
     have:=hx (y+1) cX;rwa[show i+(y+1)=i+1+y by omega]at this
  exact key st 0 s fun x hx=>by rw[bu];exact hall x (by rw[<-M.len];exact hx)
 have unl:∀(listed:Array Bool) (j:Nat),listed.size=ops.size->listed.getD j true=false->j<ops.size/\listed.getD j false=false:=fun listed j hs hl=>by
  rw[cV]at hl
  cases e:listed[j]? with
  |none=>rw[e]at hl;simp at hl
  |some b=>
   rw[e]at hl;have hlt:=(iu.1 e).1;refine⟨by omega,?_⟩;rw[cV,e];simpa using hl
 intro fuel
 induction fuel with
 |zero=>
  intro listed a w g U hs hU hin hcl hh;have hUn:U=[]:=gP aa;subst hUn;have hall:∀i,i<ops.size->listed.getD i false=true:=fun i hi=>by
   cases hb:listed.getD i false with
   |true=>rfl
   |false=>exact absurd (hin i hi hb) aV
  refine⟨?_,done listed a w g hall hh⟩
  cases hr:Region.ready .any ops listed with
  |nil=>rfl
  |cons x xs=>
   exfalso;have hx:x∈Region.ready .any ops listed:=by rw[hr];exact bw
   obtain⟨h1,h2⟩:=unl listed x hs (mem_ready.1 hx).1;rw[hall x h1]at h2;cases h2
 |succ fuel ih=>
  intro listed a w g U hs hU hin hcl hh;refine⟨fun hr=>?_,fun j hj=>?_⟩
  ·refine done listed a w g (fun i=>?_) hh
   induction i using Nat.strongRecOn with
   |_ i ihi=>
    intro hi
    cases hb:listed.getD i false with
    |true=>rfl
    |false=>
     exfalso;have hmem:i∈Region.ready .any ops listed:=by
      refine mem_ready.2 ⟨?_,ops[i],lC hi,fun e he hbd=>?_⟩
      ·have e:=lC (xs:=listed) (i:=i) aa;rw[cV,e]at hb⊢;simpa using hb
      ·obtain⟨_,_,_,_,_,_,_,h5,_⟩:=M.row i ops[i] (lC hi);have hlt:=CI.qo h5 e tC hbd;exact ihi e.on hlt aa
     rw[hr]at hmem;cases hmem
  ·obtain⟨h1,o,ho,h3⟩:=mem_ready.1 hj;obtain⟨hjs,hjl⟩:=unl listed j hs h1;have hpre:∀p q,ps[j]?=some p->p.testBit q=true->listed.getD q false=true:=fun p q hp hq=>by
    obtain⟨e,he,hbd,hx⟩:=M.pre j o p q ho hp hq;have hl:=h3 e tC hbd;rcases hx with hx|⟨p',hp',hq'⟩
    ·rw[<-hx];exact hl
    ·exact hcl e.on p' q hl hp' hq'
   have hset1:(listed.setIfInBounds j true).getD j false=true:=by
    simp[cV,rR,show j<listed.size by omega]
   have hset2:∀i,i≠j->(listed.setIfInBounds j true).getD i false=listed.getD i false:=fun i e=>by
    simp[cV,Dh (Ne.symm e)]
   obtain⟨m,hstep,heq⟩:=M.step (L:=fun i=>listed.getD i false) hcl ho hjl hpre (L':=fun i=>(listed.setIfInBounds j true).getD i false) hset1 hset2;have hjU:j∈U:=hin j hjs hjl;have hcl':Aq ps (fun i=>(listed.setIfInBounds j true).getD i false):=fun i p q hi hp hq=>by
    have key:listed.getD q false=true:=by
     by_cases e:i=j
     ·subst e;exact hpre p q hp hq
     ·exact hcl i p q (by show listed.getD i false=true;rw[<-hset2 i e];exact hi) hp hq
    by_cases e:q=j
    ·subst e;exact hset1
    ·simp only[hset2 q e];exact key
   have go:∀g' a' w',Hd X0 n w0 (mAp o.dst m (stL (fun i=>listed.getD i false) st 0 s)) g' a' w'->wpAny P .any ops Qx fuel (listed.setIfInBounds j true) a' w':=fun g' a' w' h=>by
    refine ih _ _ _ g' (U.erase j) (by simp[hs]) (by rw[List.length_erase_of_mem hjU];omega) (fun i hi hb=>?_) hcl' (h.eqv heq);have hne:i≠j:=fun e=>by subst e;rw[hset1]at hb;cases hb
    exact(List.mem_erase_of_ne hne).2 (hin i hi (by rw[<-hset2 i hne];exact hb))
   refine wpOp_step ho fun K' hK=>?_;have:=hstep w0 g a w hh Qx;split
   ·next hw=>
    rw[an hw]at this;exact Oper.wp_mono (fun a' w' ⟨g',h⟩=>hK _ _ (go g' a' w' h)) this
   ·next hw=>
    rw[ai hw]at this;obtain⟨g',h⟩:=this;exact hK _ _ (go g' _ _ h)
def kE:List Nat->List (Nat×D)->List (Nat×D)
 |[],sl=>sl
 |k::ks,sl=>kill k (kE ks sl)
theorem EJ:∀{ks:List Nat} {sl:List (Nat×D)} {k:Nat},k∈ks->∀t,(look (kE ks sl) t).is k=false
 |j::ks,sl,k,h,t=>by
  simp only[kE];rcases kT j (kE ks sl) t with⟨h1,h2⟩|h1
  ·rcases bP.1 h with e|e
   ·subst e;rw[h1];exact h2
   ·rw[h1];exact EJ e t
  ·rw[h1];rfl
theorem ES:∀(ks:List Nat) {w0:Bs} {w:World} {f:Nat->Value} {a:Act} {sl:List (Nat×D)} {ow:List (Nat×Ow)},Hd X0 n w0 ⟨sl,ow⟩ f a w->Hd X0 n w0 ⟨kE ks sl,ow⟩ f a w
 |[],_,_,_,_,_,_,h=>h
 |_::ks,_,_,_,_,_,_,h=>(ES ks h).kill
theorem Um{id:Nat}{l:List Oper}(ks:List Nat){fps:List FP}(hm:P.follows .mixedOrders=true)(h:aM P X0 n l.toArray l ⟨kE ks s.sl,s.ow⟩ fps (Q .normal))(hc:vq l.toArray n ks fps=true):aW P X0 n (.region id l.toArray true) Q s:=fun w0 f a w hd=>by
 obtain⟨st,s',h1,h2⟩:=MZ h;have M:=TN (P:=P) (X0:=X0) (s:=⟨kE ks s.sl,s.ow⟩) (st:=st) (s':=s') hc (fun k hk t=>EJ hk t) (by simpa using h1);obtain⟨_,e2⟩:=Bw 0 h1;refine wp_region_any hm (Se M (w0:=w0) (fun g a' w' hh=>?_) _ _ a _ f (List.range l.toArray.size) aV aV (fun i hi _=>yP.2 hi) ?_ ?_)
 ·rw[<-e2]at hh;exact⟨s',g,hh,h2⟩
 ·intro i p q hi;simp only[cV,Df]at hi;split at hi<;>simp at hi
 ·have hz : stL (fun i => (Array.replicate l.toArray.size false).getD i false) st 0 ⟨kE ks s.sl, s.ow⟩ = ⟨kE ks s.sl, s.ow⟩ := xw _ _ _ fun i _ => by
   simp only[cV,Df];split<;>rfl
  rw[hz];exact(ES ks hd).grow ((Below.refl _ w).drew)
end
end DW
end
section
open Go.RowKit
namespace DW
section
variable {P : Program} {X0 : Nat->Prop} {n : Nat} {sl : List (Nat × D)} {ow : List (Nat × Ow)} {o : Oper} {ops : Array Oper} {l : List Oper} {K : S->Prop} {t : Nat} {d : D} {fs : List FP}
theorem Nl{T:TypeId}{k wd:Nat}{z:Value}(hdst:o.dst=some t)(ht:Nat.blt t n=true)(ho:o.op= .alloc T)(hk:∀p∈ow,p.1≠k)
  (hz:(P.info? T).map (fun i=>i.zero)=some (some z)) (hd:cst z=d) (hf:d.fits=true) (hw:d.wd=wd) (h0:Nat.blt 0 wd=true) (hn:d.nw=true) (hk0:Nat.blt k 1000000=true) {w0:Bs} {w:World} {f:Nat->Value} {a:Act} (hh:Hd X0 n w0 ⟨sl,ow⟩ f a w) (Qx:Exit->Act->World->Prop):
  o.wp P a w (fun a' w'=>∃f',Hd X0 n w0 ⟨(t,.opt k 0)::kill k sl,(k,⟨T,wd,[d]⟩)::ow⟩ f' a' w') Qx:=by
 subst hw;subst hd
 cases hq:P.info? T with
 |none=>rw[hq]at hz;cases hz
 |some inf=>
  rw[hq]at hz;simp only[ct,ak]at hz;have hsz:z.cells.size=(cst z).wd:=AR.size (X:=XO X0 ⟨sl,ow⟩ f) (w:=w) _ _ hf (by
   have:=jH (X:=XO X0 ⟨sl,ow⟩ f) (f:=f) (w:=w) z;cases hc:cst z<;>rw[hc]at this hf<;>first|exact this|simp[D.fits]at hf)
  have h0':0<(cst z).wd:=by simpa[bA]using h0
  have hAR:AR (XO X0 ⟨sl,ow⟩ f) w (cst z) z:=by
   have:=jH (X:=XO X0 ⟨sl,ow⟩ f) (f:=f) (w:=w) z;cases hc:cst z<;>rw[hc]at this hf<;>first|exact this|simp[D.fits]at hf
  have hrun:(execOp a.eval o).run P w= .ok (.value (.pointer (some ⟨w.heap.size,0,none⟩))) (w.alloc (.cells z.cells T)):=by
   unfold execOp;simp only[ho];simp[Instr.alloc,zeroValue,typeInfo,hq,hz,newVar,newRow]
  unfold Oper.wp;rw[hrun];simp only[Oper.upon,hdst];refine⟨_,hh.new (k:=k) (cap:=1) (q:=⟨T,(cst z).wd,[cst z]⟩) hk hk0 h0' (af _) (by simp[maxLen]) (by simpa using hsz) ⟨z,[],?_,hAR,hf,rfl,hn,rfl⟩ (.inl aV) xo (fun X=>?_)⟩
  ·simp only[jR,cR,oD];rw[cw (by simp[hsz])]
  ·simp only[SR,if_true];exact⟨w.heap.size,1,1,rfl,rfl⟩
theorem Nj{x y:Operand}{T tt:TypeId}{k off wd i:Nat}{lo:List D}(hdst:o.dst=none)(ho:o.op= .store tt x y)(hx:S.op ⟨sl,ow⟩ x= .opt k off)(hy:S.op ⟨sl,ow⟩ y=d)(hk:(k,(⟨T,wd,lo⟩:Ow))∈ow)
  (hoff:off=i*wd) (hi:i<lo.length) (hf:d.fits=true) (hw:d.wd=wd) (hn:d.nw=true) (hz:(P.info? tt).map (·.size)=some wd) (hkh:hdr k=false) {w0:Bs} {w:World} {f:Nat->Value} {a:Act} (hh:Hd X0 n w0 ⟨sl,ow⟩ f a w) (Qx:Exit->Act->World->Prop):
  o.wp P a w (fun a' w'=>∃f',Hd X0 n w0 ⟨sl,cP k i d ow⟩ f' a' w') Qx:=by
 subst hoff;subst hw;have h1:=hh.op x;have h2:=hh.op y;rw[hx]at h1;rw[hy]at h2;simp only[SR]at h1;obtain⟨g,n',c',e1,e2⟩:=h1;have hAR:AR (XO X0 ⟨sl,ow⟩ f) w d (a.eval y):=by cases d<;>first|exact h2|simp[D.fits]at hf
 have hsz:=AR.size _ _ hf hAR;obtain⟨hw0,xs,⟨hxl,h10⟩,h11'⟩:=hh.ow _ hk;have h11:=h11'.pl hkh;simp only at h10 h11 hw0 hxl;rcases h10 with⟨h12,_⟩|⟨g',cap,cur,h12,hb,hgg,hle,hm,hcs,htk⟩
 ·rw[e1]at h12;cases h12
 rw[e1]at h12;cases h12;have hlt:i*d.wd+d.wd<=lo.length*d.wd:=by
  have:=dh d.wd (show i+1<=lo.length by omega);rw[bV,cR]at this;exact this
 have hle2:lo.length*d.wd<=c'*d.wd:=dh _ hle
 cases hq:P.info? tt with
 |none=>rw[hq]at hz;cases hz
 |some inf=>
  rw[hq]at hz;simp only[ct,ak]at hz;have hst:=run_storeCells_at (P:=P) g (i*d.wd) T (a.eval y).cells.toList 0 cur w hgg (by simp only[bW,bZ];omega) (AR.one _ _ hf hAR);have hrun:(execOp a.eval o).run P w= .ok .skip (w.setRow g (cur.toList.take (i*d.wd)++(a.eval y).cells.toList++cur.toList.drop (i*d.wd+d.wd)).toArray):=by
   unfold execOp;simp only[ho,Instr.storeAt,Instr.sureAddr,e2,storeVar,sizeOf,typeInfo];simp only[bZ,bW,hsz]at hst;simp[hq,hz,hsz,hst]
  unfold Oper.wp;rw[hrun];simp only[Oper.upon,hdst,Act.put];have hgrow:w.grownBy (w.setRow g (cur.toList.take (i*d.wd)++(a.eval y).cells.toList++cur.toList.drop (i*d.wd+d.wd)).toArray) (f k).ownBlock:=⟨rfl,rfl,rfl,by simp,fun b _ hb=>setRow_other w g b _ (fun e=>hb (by simp[e1,Value.ownBlock,e]))⟩;have hclen:cur.toList.length=c'*d.wd:=by simp[hcs]
  refine⟨f,hh.set (k:=k) (i:=i) (q:=⟨T,d.wd,lo⟩) (d:=d) (xs:=(cur.toList.take (i*d.wd)++(a.eval y).cells.toList++cur.toList.drop (i*d.wd+d.wd)).take (lo.length*d.wd)) hk hi hgrow ⟨?_,.inr ⟨g,c',_,e1,hb,setRow_heap w g cur _ T _ hgg,hle,hm,?_,?_⟩⟩ ?_⟩
  ·simp only[bf,cI,dY,bW,hsz,hcs];omega
  ·simp only[oB,cI,bf,dY,bW,hsz,hcs];omega
  ·simp only[rP]
  ·
   have key:∀(lo:List D) (i:Nat) (ys:List Value),Els (XO X0 ⟨sl,ow⟩ f) w d.wd lo ys->i<lo.length->Els (XO X0 ⟨sl,ow⟩ f) w d.wd (lo.set i d) (ys.take (i*d.wd)++(a.eval y).cells.toList++ys.drop (i*d.wd+d.wd)):=fun lo=>by
    induction lo with
    |nil=>intro i ys _ hi;simp at hi
    |cons d0 lo ih=>
     intro i ys ⟨u,rest,k1,k2,k3,k4,k5,k6⟩ hi;have hu:=AR.size d0 u k3 k2;have hul:u.cells.toList.length=d.wd:=by rw[bW,hu,k4]
     match i with
     |0=>
      simp only[eU,lk,dK,fM,bu];refine⟨a.eval y,rest,?_,hAR,hf,rfl,hn,k6⟩;rw[k1,rZ aa,lF aa,fM]
     |i+1=>
      simp only[jb];refine⟨u,_,?_,k2,k3,k4,k5,ih i rest k6 (by simpa using hi)⟩;rw[k1,show(i+1)*d.wd=d.wd+i*d.wd by rw[bV,cR,mL],List.take_append,cw aa,hul,oe,jh,jh,jh,
       List.drop_append,lF aa,fM,hul,show d.wd+i*d.wd+d.wd-d.wd=i*d.wd+d.wd by omega]
   have h13:=key lo i xs h11 hi;have e0:cur.toList=xs++cur.toList.drop (lo.length*d.wd):=by rw[<-htk];exact(qK _ _).symm
   have e5:(cur.toList.take (i*d.wd)++(a.eval y).cells.toList++cur.toList.drop (i*d.wd+d.wd)).take (lo.length*d.wd)=List.take (i*d.wd) xs++(a.eval y).cells.toList++List.drop (i*d.wd+d.wd) xs:=by
    have a1:cur.toList.take (i*d.wd)=xs.take (i*d.wd):=by rw[<-htk,List.take_take,dH aa]
    have a2:cur.toList.drop (i*d.wd+d.wd)=xs.drop (i*d.wd+d.wd)++cur.toList.drop (lo.length*d.wd):=by
     have:=iq (List.drop (i*d.wd+d.wd)) e0;rw[rZ aa]at this;exact this
    rw[a1,a2,<-jh,yS zb54]
   rw[e5];exact EE.of h13 hkh
theorem Ot{x:Operand}(hx:x∈o.op.operands){u:Nat}(e:x= .tmp u):u∈CI.looks ops o:=by
 subst e;unfold CI.looks;exact List.mem_append_right _ (List.mem_filterMap.2 ⟨.tmp u,by simpa using hx,rfl⟩)
theorem Ou{j u:Nat}{c:Bool}(hg:o.guard=some (j,c))(hj:(ops[j]?).bind (·.dst)=some u):u∈CI.looks ops o:=by
 unfold CI.looks;rw[hg];simp only[hj];exact List.mem_append_left _ aV
section
variable {f : FP} {sj σ : S}
theorem uG.op(ag:uG ops o f sj σ){x:Operand}(hx:x∈o.op.operands):σ.op x=sj.op x:=by
 cases x with
 |tmp u=>exact ag.sl u (Ot hx rfl)
 |const v=>rfl
 |global g=>rfl
 |func g=>rfl
theorem uG.eX(ag:uG ops o f sj σ){b:Bool}(h:eX ops [] sj o b):eX ops [] σ o b:=by
 unfold DW.eX at h⊢
 cases hg:o.guard with
 |none=>rw[hg]at h;exact h
 |some p=>
  obtain⟨j,c⟩:=p;rw[hg]at h;simp only at h⊢;obtain⟨t,e,h1,h2,h3,h4⟩:=h;exact⟨t,e,h1,h2,by rw[ag.sl t (Ou hg h1)];exact h3,h4⟩
theorem uG.Sv(ag:uG ops o f sj σ){k:Nat}{q:Ow}(hk:k∈f.rc)(h:(k,q)∈sj.ow):(k,q)∈σ.ow:=by
 have:=pF.2 h;rw[<-ag.rc k hk]at this;exact pF.1 this
theorem uG.GJ(ag:uG ops o f sj σ){k:Nat}{q:Ow}(hk:k∈f.rs\/k∈f.wc)(h:(k,q)∈sj.ow):∃l',l'.length=q.l.length/\(k,(⟨q.T,q.wd,l'⟩:Ow))∈σ.ow:=by
 have h1:(q.T,q.wd,q.l.length)∈shp k sj.ow:=dE.2 ⟨(k,q),pF.2 h,rfl⟩;rw[<-ag.rs k hk]at h1;obtain⟨⟨k',q'⟩,h2,h3⟩:=dE.1 h1;have:=Hl h2;simp only at this;subst this;simp only[aJ]at h3;refine⟨q'.l,h3.2.2,?_⟩;rw[<-h3.1,<-h3.2.1];exact pF.1 h2
theorem wo{w0:Bs}{w:World}{g:Nat->Value}{a:Act}(hh:Hd X0 n w0 σ g a w){b:Bool}(h:eX ops [] σ o b):Region.wanted o (yielded ops a.tmps)=b:=by
 have hi:HI (XO X0 σ g) n w g Own3.Fs.none [] σ a:=⟨hh.sz,hh.df,fun t _=>hh.sl t,fun t u e=>by simp[gQ]at e⟩;exact hi.want h
end
theorem LD{f:FP}{own:List (Nat×Ow)}(hw:eX ops [] ⟨sl,ow⟩ o true)(ht:cZ n o=true)(hd:bF P o ⟨sl,own⟩ d)(ho:∀p∈own,p∈ow/\p.1∈f.rc):MS P X0 n ops o ⟨sl,ow⟩ (.val d) f:=fun σ ag w0 g a w hh Qx=>by
 rw[an (wo hh (ag.eX hw))];have hD:bF P o σ d:=fun X f' a w base hX how hs=>hd X f' a w base hX (fun p hp=>by
  obtain⟨k,q⟩:=p;obtain⟨h1,h2⟩:=ho _ hp;exact how _ (ag.Sv h2 h1)) (fun x hx=>by
  have h1:=hs x hx;rw[ag.op hx]at h1;cases x<;>exact h1)
 exact Oper.wp_mono (fun a' w' h=>⟨g,h⟩) (pj hD hh ht)
def D.vv:D->List Nat
 | .own k=>[k]
 | .opt k _=>[k]
 |_=>[]
theorem wF{d:D}{k:Nat}(h:d.is k=true):k∈d.vv:=by
 cases d<;>simp[D.is]at h<;>simp[D.vv,h]
def CH:List (Nat×Ow)->List Nat
 |[]=>[]
 |(k,_)::l=>k::CH l
theorem BU{p:Nat×Ow}:∀{l:List (Nat×Ow)},p∈l->p.1∈CH l
 |(k,q)::l,h=>by
  rcases bP.1 h with e|e
  ·subst e;exact bw
  ·exact bC _ (BU e)
theorem Fj(hdst:o.dst=some t)(ht:Nat.blt t n=true):cZ n o=true:=by
 unfold cZ;rw[hdst];simpa[bA]using ht
theorem oG{b:Bool}{s:S}(hg:o.guard=none)(hb:b=true):eX ops [] s o b:=by
 unfold eX;rw[hg];exact hb
theorem Uo(h:K ⟨sl,ow⟩):aM P X0 n ops [] ⟨sl,ow⟩ [] K:=⟨rfl,h⟩
theorem vA:kE [] sl=sl:=rfl
theorem ui{k:Nat}{ks:List Nat}{sl1 sl2:List (Nat×D)}(h1:kE ks sl=sl1)(h2:kill k sl1=sl2):kE (k::ks) sl=sl2:=by
 subst h1;exact h2
theorem aWmix{id:Nat}{Q:Exit->S->Prop}{sl':List (Nat×D)}(ks:List Nat){fps:List FP}(hm:P.follows .mixedOrders=true)(hs:kE ks sl=sl')(h:aM P X0 n l.toArray l ⟨sl',ow⟩ fps (Q .normal))(hc:vq l.toArray n ks fps=true):aW P X0 n (.region id l.toArray true) Q ⟨sl,ow⟩:=by
 subst hs;exact Um ks hm h hc
theorem aM1(hg:o.guard=none)(hdst:o.dst=some t)(ht:Nat.blt t n=true)(hd:bF P o ⟨sl,[]⟩ d)(h:aM P X0 n ops l ⟨(t,d)::sl,ow⟩ fs K):aM P X0 n ops (o::l) ⟨sl,ow⟩ (⟨[],[],[],[],d.vv⟩::fs) K:=
 ⟨_,fs,.val d,rfl,fun _ hk=>wF hk,LD (oG hg rfl) (Fj hdst ht) hd (fun p hp=>by cases hp),by rw[hdst];exact h⟩
theorem aM1o(hg:o.guard=none)(hdst:o.dst=some t)(ht:Nat.blt t n=true)(hd:bF P o ⟨sl,ow⟩ d)(h:aM P X0 n ops l ⟨(t,d)::sl,ow⟩ fs K):aM P X0 n ops (o::l) ⟨sl,ow⟩ (⟨CH ow,[],[],[],d.vv⟩::fs) K:=
 ⟨_,fs,.val d,rfl,fun _ hk=>wF hk,LD (oG hg rfl) (Fj hdst ht) hd (fun p hp=>⟨hp,BU hp⟩),by rw[hdst];exact h⟩
theorem Tb{x i:Operand}{tt T:TypeId}{k wd:Nat}{lo:List D}{q:IntKind}{z:Int}{off:Nat}(hg:o.guard=none)(hdst:o.dst=some t)(ht:Nat.blt t n=true)(ho:o.op= .indexAddr tt x i)(hx:S.op ⟨sl,ow⟩ x= .own k)(hi:S.op ⟨sl,ow⟩ i= .sc (.int q z))(hk:(k,(⟨T,wd,lo⟩:Ow))∈ow)
  (htt:P.underlying tt=some (.slice (P.elem tt))) (hz:(P.info? (P.elem tt)).map (·.size)=some wd) (hn:0<=z/\z<lo.length) (hoff:z.toNat*wd=off) (h:aM P X0 n ops l ⟨(t,.opt k off)::sl,ow⟩ fs K):aM P X0 n ops (o::l) ⟨sl,ow⟩ (⟨[],[k],[],[],[k]⟩::fs) K:=
 ⟨_,fs,.val (.opt k off),rfl,fun k' hk=>by have:=wF hk;simpa[D.vv]using this,fun σ ag w0 g a w hh Qx=>by
  rw[an (wo hh (ag.eX (oG hg rfl)))];obtain⟨l',e1,e2⟩:=ag.GJ (k:=k) (.inl (cr.2 rfl)) hk;have h1:σ.op x= .own k:=by rw[ag.op bL];exact hx
  have h2:σ.op i= .sc (.int q z):=by rw[ag.op bL];exact hi
  exact Oper.wp_mono (fun a' w' h=>⟨g,h⟩) (pj (gX ho h1 h2 e2 htt hz (by rw[e1];exact hn) hoff) hh (Fj hdst ht)),by rw[hdst];exact h⟩
theorem Tc{T:TypeId}{k wd:Nat}{z:Value}(hg:o.guard=none)(hdst:o.dst=some t)(ht:Nat.blt t n=true)(ho:o.op= .alloc T)(hk:ow.all (fun p=> !Nat.beq p.1 k)=true)
  (hz:(P.info? T).map (fun i=>i.zero)=some (some z)) (hd:cst z=d) (hf:d.fits=true) (hw:d.wd=wd) (h0:Nat.blt 0 wd=true) (hn:d.nw=true)
  (h:aM P X0 n ops l ⟨(t, .opt k 0)::sl,(k,⟨T,wd,[d]⟩)::ow⟩ fs K) (hk0:Nat.blt k 1000000=true:=by exact rfl):aM P X0 n ops (o::l) ⟨sl,ow⟩ (⟨[],[],[],[k],[]⟩::fs) K:=
 ⟨_,fs, .alloc k ⟨T,wd,[d]⟩ (.opt k 0),rfl,⟨cr.2 rfl,fun k' hk=>by have:=wF hk;simpa[D.vv]using this⟩,fun σ ag w0 g a w hh Qx=>by
  rw[an (wo hh (ag.eX (oG hg rfl)))];obtain⟨e1,e2⟩:=ag.al k (cr.2 rfl);have hfr:∀p∈σ.ow,p.1≠k:=fun p hp e=>by
   obtain⟨k',q⟩:=p;simp only at e;subst e;have h1:=pF.2 hp;rw[e1]at h1;exact nU hk _ (pF.1 h1) rfl
  have hl:∀u,look (kill k σ.sl) u=look σ.sl u:=fun u=>by
   rcases kT k σ.sl u with⟨h1,_⟩|h1
   ·exact h1
   ·have key : ∀ (r : List (Nat × D)), (look r u).is k = false -> look (kill k r) u = look r u := fun r => by
     induction r with
     |nil=>intro _;rfl
     |cons p r ih=>
      obtain⟨v,d'⟩:=p;intro hh;simp only[kill,look]at hh⊢;split
      ·next e=>rw[an e]at hh;rw[hh]
      ·next e=>rw[ai e]at hh;exact ih hh
    exact key σ.sl (e2 u)
  refine Oper.wp_mono (fun a' w' ⟨f',h⟩=>⟨f',h.eqv ⟨fun u=>?_, .refl _⟩⟩) (Nl (k:=k) hdst ht ho hfr hz hd hf hw h0 hn hk0 hh Qx);rw[hdst];show look ((t, .opt k 0)::kill k σ.sl) u=look ((t, .opt k 0)::σ.sl) u;simp only[look];split
  ·rfl
  ·exact hl u,by rw[hdst];exact h⟩
theorem Ta{x y:Operand}{T tt:TypeId}{k off wd i:Nat}{lo:List D}{ow':List (Nat×Ow)}(hg:o.guard=none)(hdst:o.dst=none)(ho:o.op= .store tt x y)(hx:S.op ⟨sl,ow⟩ x= .opt k off)(hy:S.op ⟨sl,ow⟩ y=d)(hk:(k,(⟨T,wd,lo⟩:Ow))∈ow)
  (hoff:off=i*wd) (hi:i<lo.length) (hf:d.fits=true) (hw:d.wd=wd) (hn:d.nw=true) (hz:(P.info? tt).map (·.size)=some wd) (hs:cP k i d ow=ow')
  (h:aM P X0 n ops l ⟨sl,ow'⟩ fs K) (hkh:hdr k=false:=by exact rfl):aM P X0 n ops (o::l) ⟨sl,ow⟩ (⟨[],[],[k],[],[]⟩::fs) K:=
 ⟨_,fs,.store k i d,rfl,cr.2 rfl,fun σ ag w0 g a w hh Qx=>by
  rw[an (wo hh (ag.eX (oG hg rfl)))];obtain⟨l',e1,e2⟩:=ag.GJ (k:=k) (.inr (cr.2 rfl)) hk;have h1:σ.op x= .opt k off:=by rw[ag.op bL];exact hx
  have h2:σ.op y=d:=by rw[ag.op bL];exact hy
  exact Nj hdst ho h1 h2 e2 hoff (by rw[e1];exact hi) hf hw hn hz hkh hh Qx,by subst hs;exact h⟩
def aN(P:Program)(X0:Nat->Prop)(n:Nat)(ops:Array Oper)(ks:List Nat)(l:List Oper)(s:S)(acc:List FP)(K:S->Prop):Prop:=∃fps,aM P X0 n ops l s fps K/\vq ops n ks (acc.reverse++fps)=true
section
variable {ks : List Nat} {acc : List FP}
theorem Al{s s':S}{f:FP}(hs:∀fs,aM P X0 n ops l s' fs K->aM P X0 n ops (o::l) s (f::fs) K)(h:aN P X0 n ops ks l s' (f::acc) K):aN P X0 n ops ks (o::l) s acc K:=by
 obtain⟨fps,h1,h2⟩:=h;exact⟨f::fps,hs fps h1,by simpa using h2⟩
theorem Un(hc:vq ops n ks acc.reverse=true)(h:K ⟨sl,ow⟩):aN P X0 n ops ks [] ⟨sl,ow⟩ acc K:=⟨[],Uo h,by simpa using hc⟩
theorem vM{id:Nat}{Q:Exit->S->Prop}{sl':List (Nat×D)}(ks:List Nat)(hm:P.follows .mixedOrders=true)(hs:kE ks sl=sl')(h:aN P X0 n l.toArray ks l ⟨sl',ow⟩ [] (Q .normal)):aW P X0 n (.region id l.toArray true) Q ⟨sl,ow⟩:=by
 obtain⟨fps,h1,h2⟩:=h;exact aWmix ks hm hs h1 h2
theorem aN1(hg:o.guard=none)(hdst:o.dst=some t)(ht:Nat.blt t n=true)(hd:bF P o ⟨sl,[]⟩ d)(h:aN P X0 n ops ks l ⟨(t,d)::sl,ow⟩ (⟨[],[],[],[],d.vv⟩::acc) K):aN P X0 n ops ks (o::l) ⟨sl,ow⟩ acc K:=Al (fun _ h=>aM1 hg hdst ht hd h) h
theorem jP(hg:o.guard=none)(hdst:o.dst=some t)(ht:Nat.blt t n=true)(hd:bF P o ⟨sl,ow⟩ d)(h:aN P X0 n ops ks l ⟨(t,d)::sl,ow⟩ (⟨CH ow,[],[],[],d.vv⟩::acc) K):aN P X0 n ops ks (o::l) ⟨sl,ow⟩ acc K:=Al (fun _ h=>aM1o hg hdst ht hd h) h
theorem Bv{x i:Operand}{tt T:TypeId}{k wd:Nat}{lo:List D}{q:IntKind}{z:Int}{off:Nat}(hg:o.guard=none)(hdst:o.dst=some t)(ht:Nat.blt t n=true)(ho:o.op= .indexAddr tt x i)(hx:S.op ⟨sl,ow⟩ x= .own k)(hi:S.op ⟨sl,ow⟩ i= .sc (.int q z))(hk:(k,(⟨T,wd,lo⟩:Ow))∈ow)
 (htt:P.underlying tt=some (.slice (P.elem tt))) (hz:(P.info? (P.elem tt)).map (·.size)=some wd) (hn:0<=z/\z<lo.length) (hoff:z.toNat*wd=off) (h:aN P X0 n ops ks l ⟨(t,.opt k off)::sl,ow⟩ (⟨[],[k],[],[],[k]⟩::acc) K):aN P X0 n ops ks (o::l) ⟨sl,ow⟩ acc K:=Al (fun _ h=>Tb hg hdst ht ho hx hi hk htt hz hn hoff h) h
theorem nY{T:TypeId}{k wd:Nat}{z:Value}(hg:o.guard=none)(hdst:o.dst=some t)(ht:Nat.blt t n=true)(ho:o.op= .alloc T)(hk:ow.all (fun p=>!Nat.beq p.1 k)=true)
 (hz:(P.info? T).map (fun i=>i.zero)=some (some z)) (hd:cst z=d) (hf:d.fits=true) (hw:d.wd=wd) (h0:Nat.blt 0 wd=true) (hn:d.nw=true)
 (h:aN P X0 n ops ks l ⟨(t,.opt k 0)::sl,(k,⟨T,wd,[d]⟩)::ow⟩ (⟨[],[],[],[k],[]⟩::acc) K) (hk0:Nat.blt k 1000000=true:=by exact rfl):aN P X0 n ops ks (o::l) ⟨sl,ow⟩ acc K:=Al (fun _ h=>Tc hg hdst ht ho hk hz hd hf hw h0 hn h hk0) h
theorem Bu{x y:Operand}{T tt:TypeId}{k off wd i:Nat}{lo:List D}{ow':List (Nat×Ow)}(hg:o.guard=none)(hdst:o.dst=none)(ho:o.op= .store tt x y)(hx:S.op ⟨sl,ow⟩ x= .opt k off)(hy:S.op ⟨sl,ow⟩ y=d)(hk:(k,(⟨T,wd,lo⟩:Ow))∈ow)
 (hoff:off=i*wd) (hi:i<lo.length) (hf:d.fits=true) (hw:d.wd=wd) (hn:d.nw=true) (hz:(P.info? tt).map (·.size)=some wd) (hs:cP k i d ow=ow')
 (h:aN P X0 n ops ks l ⟨sl,ow'⟩ (⟨[],[],[k],[],[]⟩::acc) K) (hkh:hdr k=false:=by exact rfl):aN P X0 n ops ks (o::l) ⟨sl,ow⟩ acc K:=Al (fun _ h=>Ta hg hdst ho hx hy hk hoff hi hf hw hn hz hs h hkh) h
end
end
end DW
end
section
open Go.RowKit Go.BigFrame
attribute [local go_sem ↓] Go.wp_at_zero Go.wp_at_succ
namespace Mx
theorem sC{n e:Nat}(he:6<=e):∀(k c r:Nat) (M:Mx.Mat),Mx.Rc n M->Mx.Bd (2^(e*11^c)) M->Mx.Bd (2^(e*11^(c+k))) (Mx.red k c (r,M)).2
 |0,_,_,_,_,hb=>hb
 |k+1,c,r,M,hr,hb=>by
  by_cases h:r<M.length
  ·rw[Mx.Ef h];have h1:=Mx.GG (c:=c) hr h (eC aa) hb;have h2:=((Mx.sk (c:=c) hr h).1).rc hr;have h3:=sC he k (c+1) (Mx.step r c M).1 (Mx.step r c M).2 h2 (h1.mono (aA (Mx.zF (aA he (gf e (eC aa)))) (Nat.le_of_eq (by rw[Mx.e11]))));rw[show c+(k+1)=c+1+k by omega];exact h3
  ·rw[Mx.tV h];exact hb.mono (cv aa (cL e (cv aa aa)))
end Mx
theorem S0(n:Nat)(M:Mx.Mat)(i j:Nat):Mx.at' (tk n M) i j=if j<n then Mx.at' M i j else 0:=by
 unfold Mx.at';rw[tL,ay,ay,im];split<;>simp
theorem S4(n:Nat)(M:Mx.Mat)(i j:Nat):Mx.at' (dp n M) i j=Mx.at' M i (n+j):=by
 unfold Mx.at';rw[QB,ay,ay,eV]
theorem at_mem(M:Mx.Mat)(i j:Nat):Mx.at' M i j=0\/∃r∈M,Mx.at' M i j∈r:=by
 unfold Mx.at' Mx.rw;rw[ay,ay]
 cases h:M[i]? with
 |none=>left;simp
 |some r=>
  simp only[oz]
  cases h2:r[j]? with
  |none=>left;simp
  |some z=>right;exact⟨r,bG h,by simpa using bG h2⟩
theorem MH{m:List (List Int)}(h:chk m=0):m.length<=64/\wid m<=64/\Mx.Rc (wid m) m/\∀r∈m,∀z∈r,z.natAbs<=1000000000000000:=by
 unfold chk at h;split at h
 ·rename_i h1;split at h
  ·cases h
  ·rename_i h2;split at h
   ·cases h
   ·rename_i h3;refine⟨by omega,by omega,fun r hr=>by simpa using eh.1 h1 r hr,fun r hr z hz=>?_⟩;have h4:¬big z=true:=fun e=>h3 (mO.2 ⟨r,hr,mO.2 ⟨z,hz,e⟩⟩);unfold big inb at h4;simp at h4;omega
 ·cases h
def HT(m:Mx.Mat):Nat×Mx.Mat:=Mx.red (wid m) 0 (0,cH m)
def CQ(m:Mx.Mat):Mx.Mat:=tk (wid m) (HT m).2
def fK(m:Mx.Mat):Mx.Mat:=dp (wid m) (HT m).2
theorem F4{m:Mx.Mat}(h:Mx.Rc (wid m) m):(HT m).2.length=m.length:=(Mx.dz _ 0 (0,cH m) (gD h)).len.trans (jK m)
theorem HT_rc{m:Mx.Mat}(h:Mx.Rc (wid m) m):Mx.Rc (wid m+m.length) (HT m).2:=(Mx.dz _ 0 (0,cH m) (gD h)).rc (gD h)
theorem e50{n:Nat}(h:n<=10):2*(50*11^n)<=6000000000000:=by
 have:11^n<=11^10:=cv aa h;have e:11^10=25937424601:=by decide
 omega
end
section
namespace Mx
theorem MG{n r c:Nat}{M:Mat}(h:Rc n M):dT r c M=M\/at' (dT r c M) r c≠0:=by
 have piv:∀{N:Mat} {t:Nat},(pick r c N).1=some t->r<N.length/\t<N.length/\at' (swp N r t) r c≠0:=fun {N t} ht=>by
  obtain⟨k1,k2,k3,_⟩:=(gC c r N (N.length-r)).yes t ht;refine⟨by omega,by omega,?_⟩;rw[dn aa aa];split
  ·next e=>rw[e];exact k3
  ·rw[an rfl];exact k3
 refine uy (n:=n) (r:=r) (c:=c) (fun N=>N=M\/at' N r c≠0) (fun N hN _ t ht h2=>.inr ?_) (fun N=>N=M\/at' N r c≠0) (fun N _ hq _=>hq) (fun N hN _ t ht _=>.inr (piv ht).2.2) _ M rfl h (.inl rfl);obtain⟨hr,htl,hp⟩:=piv ht;unfold elim at';rw[fQ _ _ _ _ _ (by rw[eu];omega),ai aa];exact hp
end Mx
end
end Go.Proofs.YtcgjmdpcplhanaaGreat
