/- Lemmas for the law: Q11 Q12 Q13 Q14 Q15 Q16 Q17 Q18 Q19 Q20 DB DC DE DF M21 V20 M8 M22 -/
import Derived.RangeFuncIn
import Derived.RangeFuncCalls
import Derived.OrdersIn
import Derived.DefersIn
import Derived.RangeFuncLeaves
import Derived.RangeFuncRecord
import Derived.Shelf.Abstract
import Derived.Test.YtcgjmdpcplhanaaGreatZs8
namespace Go.Proofs.YtcgjmdpcplhanaaGreat
section
abbrev vT:=@Bool.or_eq_false_iff
abbrev zS:=@Bool.and_eq_false_iff
abbrev vS:=@Bool.not_eq_true'
abbrev vR:=@Array.toList_append
abbrev te:=@Nat.lt_succ_iff_lt_or_eq
abbrev mD:=@Array.getElem?_eq_getElem
abbrev mC:=@List.filter_cons_of_neg
abbrev ln:=@List.filter_cons_of_pos
abbrev zR:=@List.filter_append
abbrev zQ:=@List.filter_filter
abbrev zP:=@List.mem_filter
abbrev EF:=@List.filter_eq_nil_iff
abbrev td:=@Bool.or_true
abbrev zO:=@Array.getElem?_setIfInBounds_ne
abbrev ED:=@Array.getElem?_replicate
abbrev EB:=@List.mem_append_right
abbrev ta:=@Nat.le_add_right
theorem mV{p:Prop}(h:p:=by simp[h2]):p:=h
theorem uE{p:Prop}(h:p:=by simpa using he):p:=h
end
section
open Go.RowKit
namespace CI
variable {P : Program} {A : Nat->Prop} {ρ : Nat->Nat} {w : World} {tm tm' : Tm} {a : Act} {o : Oper} {c : C} {h h' h'' : H} {rec : Rec}
def Bp(P:Program)(fv:Value)(vs:Array Value)(w:World)(R:Ending->World->Prop):Prop:=
 ∃d,(Deferred.ofValue fv vs).run P w= .ok d w/\((∃f args,(invoke d.target d.args).run P w= .ok (.enter f args) w/\CallsIn Fence.wide 0 P f args w R)\/
  ∃l f tmps s b,fv= .func (.yield l) #[] #[]/\(invoke d.target d.args).run P w= .ok (.round l f tmps s b) w/\RoundIn Fence.wide 0 P l f tmps s b w R)
def kp(P:Program)(A:Nat->Prop)(ρ:Nat->Nat)(w:World)(h:H)(c:C)(h':H):Ending->World->Prop:=fun e w'=>∃u ρ',e= .returned u/\cR P A ρ w h ρ' w' h'/\VR P (Ext A h h') ρ' w' c u
def oI(P:Program)(rec:Rec):Prop:=∀f args h c h',rec (.call f args h)=some (.val c h')->Wf h->∀A ρ w fv vs,Rel P A ρ w h->Dj A h h'->VR P A ρ w f fv->VRl P A ρ w args vs.toList->
 Bp P fv vs w (kp P A ρ w h c h')
def FC(F:Fence):Prop:=F=Fence.wide\/∃l,F=Fence.wide.inRound l
theorem FC.fn{F:Fence}(hF:FC F)(f:FuncId):F.fn f:=by rcases hF with rfl|⟨l,rfl⟩<;>trivial
theorem FC.depth{F:Fence}(hF:FC F):F.depth.isSome=true->1<=0:=by rcases hF with rfl|⟨l,rfl⟩<;>(intro e;cases e)
theorem FC.calls{F:Fence}(hF:FC F){f:FuncId}{args:Array Value}{w:World}{R:Ending->World->Prop}(h:CallsIn Fence.wide 0 P f args w R):CallsIn F 0 P f args w R:=by
 rcases hF with rfl|⟨l,rfl⟩
 ·exact h
 ·exact CallsIn.inRound l h
theorem FC.round{F:Fence}(hF:FC F){l:Nat}{f:FuncId}{tmps:Array Value}{s b:Code}{w:World}{R:Ending->World->Prop}(h:RoundIn Fence.wide 0 P l f tmps s b w R):RoundIn F 0 P l f tmps s b w R:=by
 rcases hF with rfl|⟨l,rfl⟩
 ·exact h
 ·exact h
theorem rp(hc:∃x,bc P o.op=some x)(cl:Call):o.op≠ .defer cl:=fun e=>by
 obtain⟨x,hc⟩:=hc;rw[e]at hc;simp[bc]at hc
theorem t_me{x:X}{ob:Option B}(hc:bc P o.op=some x)(hT:x.isT=true)(hx:xT x tm h.next=some (c,ob))(hb:h.oH ob=some h')(hv:HV P A ρ w tm a o)(t:Rel P A ρ w h)(hd:Dj A h h'):ME P A ρ w h ((execOp a.eval o).run P w) c h':=by
 obtain⟨u,w',hr,hk⟩:=Oz hc hT hx hv
 cases ob with
 |none=>
  simp only[H.oH,ak]at hb;subst hb;obtain⟨rfl,hu⟩:=hk;exact⟨u,w',ρ,.inl hr,cR.refl t,VR.mo ⟨fun _ hk=>.inl hk,fun _ _=>rfl⟩ (Lt.refl _) _ _ hu⟩
 |some b=>
  obtain⟨hbl,hlt,hk⟩:=hk;have hp:=oU t hb hd hbl (af _) hlt (fun A' ρ' m e1 e2=>(hk A' ρ' m e1 e2).1);refine⟨u,w',_,.inl hr,hp,(hk _ _ (hp.mo hd) Em (.inr ⟨af _,?_⟩)).2⟩;have:=(dX hb).1;omega
theorem KN{F:Fence}(hF:FC F){next:Act->World->Prop}{Q:Exit->Act->World->Prop}(hnd:∀cl,o.op≠ .defer cl)(hm:ME P A ρ w h ((execOp a.eval o).run P w) c h')
  (hn:∀u w' ρ',cR P A ρ w h ρ' w' h'->VR P (Ext A h h') ρ' w' c u->next (a.put o.dst u) w'):o.wpIn F 0 P a w next Q:=by
 refine⟨fun f _=>hF.fn f,?_⟩;rw[Oper.semAt_eq F.round a.eval o hnd];obtain⟨u,w',ρ',hr|⟨hr,rfl⟩,hp,hu⟩:=hm
 ·rw[hr,Oper.uponIn_value];exact hn u w' ρ' hp hu
 ·rw[hr,Oper.uponIn_skip];exact hn undef w' ρ' hp hu
theorem UQ{F:Fence}(hF:FC F){next:Act->World->Prop}{Q:Exit->Act->World->Prop}{f:Operand}{args:Array Operand}{ts:Array TypeId}(ho:o.op= .call {callee:= .value f,args:=args,argTypes:=ts})
  (hk:Bp P (a.eval f) (args.map a.eval) w (kp P A ρ w h c h'))
  (hn:∀u w' ρ',cR P A ρ w h ρ' w' h'->VR P (Ext A h h') ρ' w' c u->next (a.put o.dst u) w'):o.wpIn F 0 P a w next Q:=by
 refine⟨fun f _=>hF.fn f,?_⟩;rw[Oper.semAt_eq F.round a.eval o (fun cl e=>by rw[ho]at e;cases e)];obtain⟨d,hd,hk⟩:=hk;have hE:(execOp a.eval o).run P w=(invoke d.target d.args).run P w:=by
  unfold execOp;rw[ho];simp only[resolve,Sem.run_bind,hd,Result.andThen_ok]
 rw[hE]
 have hpost : ∀ e w', kp P A ρ w h c h' e w' -> (match e, w' with
     | .returned v,w''=>next (a.put o.dst v) w''
     | .panicked chain,w''=>Q (.panic chain) a w''
     | .outgrown,_=>LetsOut Q):=fun e w' ⟨u,ρ',e1,hp,hu⟩=>by
  subst e1;exact hn u w' ρ' hp hu
 rcases hk with⟨g,as',hr,hk⟩|⟨l,g,tmps,s,b,_,hr,hk⟩
 ·rw[hr,Oper.uponIn_enter];exact⟨hF.depth,(hF.calls hk).mono hpost⟩
 ·rw[hr,Oper.uponIn_round];exact⟨hF.depth,(hF.round hk).mono hpost⟩
theorem r_wp(hrec:oI P rec){F:Fence}(hF:FC F){next:Act->World->Prop}{Q:Exit->Act->World->Prop}{x:X}(hc:bc P o.op=some x)(hT:x.isT=false)(hx:xR rec x tm h=some (c,h'))(f:Wf h)(hv:HV P A ρ w tm a o)(t:Rel P A ρ w h)(hd:Dj A h h')
  (hn:∀u w' ρ',cR P A ρ w h ρ' w' h'->VR P (Ext A h h') ρ' w' c u->next (a.put o.dst u) w'):o.wpIn F 0 P a w next Q:=by
 by_cases hcal:∃g l,x= .cal g l
 ·obtain⟨g,l,rfl⟩:=hcal;have hop:∃f args ts,o.op= .call {callee:=.value f,args:=args,argTypes:=ts}/\g=aS f/\l=sC args.toList:=by
   cases hop:o.op with
   |call cl=>
    obtain⟨callee,args,argTypes⟩:=cl;rw[hop]at hc
    cases callee with
    |value f=>
     simp only[bc,ak,X.cal.injEq]at hc;exact⟨f,args,argTypes,rfl,hc.1.symm,hc.2.symm⟩
    |invoke r m=>simp[bc]at hc
    |builtin b=>
     exfalso;simp only[bc]at hc;split at hc
     ·split at hc<;>simp at hc
     ·simp at hc
     ·simp at hc
     ·split at hc
      ·split at hc
       ·cases hc
       ·obtain⟨_,_,hc⟩:=aK hc;obtain⟨_,_,hc⟩:=aK hc;split at hc<;>simp at hc
      ·obtain⟨_,_,hc⟩:=aK hc;obtain⟨_,_,hc⟩:=aK hc;split at hc<;>simp at hc
      ·cases hc
     ·split at hc<;>simp at hc
     ·cases hc
   |store ty y v=>
    exfalso;rw[hop]at hc;simp only[bc]at hc;obtain⟨_,_,hc⟩:=aJ hc;cases hc
   |load ty y=>
    exfalso;rw[hop]at hc;simp only[bc]at hc;obtain⟨_,_,hc⟩:=aK hc;obtain⟨_,_,hc⟩:=aJ hc;cases hc
   |_=>
    exfalso;rcases GP hc hT with⟨_,_,e⟩|⟨_,_,_,e⟩|⟨_,e⟩<;>(rw[hop]at e;cases e)
  obtain⟨f',args,ts,hop,rfl,rfl⟩:=hop;simp only[xR]at hx;split at hx
  ·next e=>
   simp only[ak,aR]at hx;obtain⟨rfl,rfl⟩:=hx;refine UQ hF hop ?_ hn;refine hrec _ _ _ _ _ e f A ρ w _ _ t hd (hv f' (by rw[hop];simp[Op.operands,Call.operands])) ?_;rw[Array.toList_map];exact BF tm a _ fun y hy=>hv y (by rw[hop];simp[Op.operands,Call.operands];exact .inr (by simpa using hy))
  ·cases hx
 ·exact KN hF (rp ⟨x,hc⟩) (Kp hc hT (fun g l e=>hcal ⟨g,l,e⟩) hx hv t hd) hn
end CI
end
section
open Go.RowKit
namespace CI
variable {P : Program} {A A' : Nat->Prop} {ρ ρ' : Nat->Nat} {w w' : World} {tm tm' : Tm} {a : Act} {o : Oper} {c : C} {h h' h'' : H} {rec : Rec} {n : Nat} {ds : List Nat}
def wS(ρ:Nat->Nat)(k:Nat):Deferred:={target:=.collected (ρ k),args:=#[]}
structure Fr(P:Program)(A:Nat->Prop)(ρ:Nat->Nat)(w:World)(n:Nat)(ds:List Nat)(tm:Tm)(a:Act):Prop where
 tr:TR P A ρ w tm a.tmps
 sz:a.tmps.size=n
 nm:∀k∈ds,A k
 df:a.defers=ds.map (wS ρ)
theorem Fr.mo(m:Mo A A' ρ ρ')(k:Lt w w')(f:Fr P A ρ w n ds tm a):Fr P A' ρ' w' n ds tm a:=
 ⟨f.tr.mo m k,f.sz,fun j hj=>m.sub j (f.nm j hj),f.df.trans (mF fun j hj=>by unfold wS;rw[m.eq j (f.nm j hj)])⟩
theorem Be{t u:Nat}(ht:t<1000000)(tm:Tm)(c:C):CO.ev (T.put 24 tm t (some c)) (CO.t u)=if u=t then c else CO.ev tm (CO.t u):=by
 simp only[CO.ev,T.yY ht];split
 ·next e=>split at e<;>simp_all
 ·next e=>split at e<;>simp_all
theorem TR.put{tmps:Array Value}{t:Nat}{v:Value}(h:TR P A ρ w tm tmps)(ht:t<tmps.size)(hb:t<1000000)(hv:VR P A ρ w c v):TR P A ρ w (T.put 24 tm t (some c)) (tmps.setIfInBounds t v):=fun u=>by
 rw[Be hb];by_cases e:u=t
 ·rw[an e];subst e;rw[cS,tw];simp[ht];exact hv
 ·rw[aj e,cS,tw,aj (fun e2=>e e2.symm),<-cS];exact h u
theorem Fr.put{dst:Option Nat}{v:Value}(f:Fr P A ρ w n ds tm a)(hn:n<1000000)(hd:dh n dst=true)(hv:VR P A ρ w c v):Fr P A ρ w n ds (lD tm dst c) (a.put dst v):=by
 cases dst with
 |none=>exact f
 |some t=>
  have ht:t<n:=by simpa[dh,bB]using hd
  exact⟨f.tr.put (by rw[f.sz];exact ht) aa hv,by simp[Act.put,f.sz],f.nm,f.df⟩
theorem Fr.hv(f:Fr P A ρ w n ds tm a)(o:Oper):HV P A ρ w tm a o:=fun y _=>f.tr.op y
theorem wR{draw:Bool}{ops:Array Oper}{acc l:List Oper}{ps:List Nat}{r:List RO}(e:iP P n draw ops acc (o::l) ps=some r):
  ∃ p ps' g r', ps = p :: ps' /\ dh n o.dst = true /\ (draw = true -> uP ops o p acc 0 = true /\ mi acc.length o.after.toList = true) /\ (match o.guard with
      |none=>some none
      |some (j,b)=>((ops[j]?).bind (·.dst)).map fun t=>some (t,b))=some g/\iP P n draw ops (acc++[o]) l ps'=some r'/\r=⟨o.dst,g,(match bc P o.op with|some x=>x|none=> .bad),p⟩::r':=by
 cases ps with
 |nil=>simp[iP]at e
 |cons p ps'=>
  simp only[iP]at e;split at e
  ·cases e
  ·next hb=>
   obtain⟨g,e1,e⟩:=aK e;obtain⟨r',e2,e3⟩:=aJ e;simp only[vT,zS,Bool.not_eq_false',eH]at hb;exact⟨p,ps',g,r',rfl,hb.2,fun hd=>hb.1.resolve_left (by simp[hd]),e1,e2,e3.symm⟩
theorem DD{x:X}(e:x=(match bc P o.op with|some x=>x|none=>.bad))(hT:x.isT=false\/x≠ .bad):bc P o.op=some x:=by
 cases hc:bc P o.op with
 |some y=>rw[hc]at e;rw[e]
 |none=>
  rw[hc]at e;subst e;rcases hT with hT|hT
  ·simp[X.isT]at hT
  ·exact absurd rfl hT
theorem LG{tm:Tm}{next:Nat}:xT .bad tm next=none:=rfl
theorem uL{ops:Array Oper}{g:Option (Nat×Bool)}{x:X}{p:Nat}{b:Bool}(hg:(match o.guard with
   |none=>some none
   |some (j,b)=>((ops[j]?).bind (·.dst)).map fun t=>some (t,b))=some g) (hw:lY ⟨o.dst,g,x,p⟩ tm=some b)
  (hv:∀t c,g=some (t,c)->VR P A ρ w (CO.ev tm (CO.t t)) (a.tmps.getD t undef)):Region.wanted o (yielded ops a.tmps)=b:=by
 unfold Region.wanted
 cases ho:o.guard with
 |none=>
  rw[ho]at hg;simp only[ak]at hg;subst hg;simp only[lY,ak]at hw;exact hw
 |some q=>
  obtain⟨j,bb⟩:=q;rw[ho]at hg;simp only at hg;obtain⟨t,e1,e2⟩:=aJ hg;subst e2;simp only[lY]at hw;split at hw
  ·next cc e=>
   simp only[ak]at hw;subst hw;have h1:=hv t bb rfl;simp only[CO.ev,e]at h1;have h2:=h1.bool;have h3:a.tmps[t]?=some (.bool cc):=by
    rw[cS]at h2
    cases e3:a.tmps[t]? with
    |none=>rw[e3]at h2;simp[undef]at h2
    |some v=>rw[e3]at h2;simp at h2;rw[h2]
   simp only[yielded,e1];simp[h3];cases bb<;>cases cc<;>rfl
  ·cases hw
theorem xJ(hg:fS rec):∀(r:List RO) (tm:Tm) (h:H) (tm':Tm) (h':H),uZ rec r tm h=some (tm',h')->Wf h->Gd h h'
 |[],tm,h,tm',h',e,f=>by
  simp only[uZ,ak,aR]at e;obtain⟨_,rfl⟩:=e;exact Gd.refl f
 |o::l,tm,h,tm',h',e,f=>by
  simp only[uZ]at e;split at e
  ·split at e
   ·next c h1 e1=>
    have g1:Gd h h1:=by
     unfold Kr at e1;split at e1
     ·obtain⟨⟨c',b⟩,_,e1⟩:=aK e1;obtain⟨h2,e2,e3⟩:=aJ e1;simp only[aR]at e3;obtain⟨_,rfl⟩:=e3;exact uo f e2
     ·exact rR hg f e1
    exact g1.trans (xJ hg l _ _ _ _ e g1.wf)
   ·cases e
  ·exact xJ hg l _ _ _ _ e f
  ·cases e
theorem uY(hrec:oI P rec)(hg:fS rec){F:Fence}(hF:FC F){Q:Exit->Act->World->Prop}{ops:Array Oper}{draw:Bool}(hn:n<1000000):∀(l:List Oper) (k:Nat) (acc:List Oper) (ps:List Nat) (r:List RO),(∀(i:Nat) (o:Oper),l[i]?=some o->ops[k+i]?=some o)->iP P n draw ops acc l ps=some r->
  ∀(tm:Tm) (h:H) (tm':Tm) (h':H) (A:Nat->Prop) (ρ:Nat->Nat) (w:World) (a:Act),uZ rec r tm h=some (tm',h')->Wf h->Rel P A ρ w h->Dj A h h'->Fr P A ρ w n ds tm a->
  (∀ρ' w' a',cR P A ρ w h ρ' w' h'->Fr P (Ext A h h') ρ' w' n ds tm' a'->Q .normal a' w')->wpOpsIn F 0 P ops Q (List.range' k l.length) a w
 |[],k,acc,ps,r,_,hc,tm,h,tm',h',A,ρ,w,a,e,f,t,hd,hf,hq=>by
  simp only[iP,ak]at hc;subst hc;simp only[uZ,ak,aR]at e;obtain⟨rfl,rfl⟩:=e;exact hq ρ w a (cR.refl t) (hf.mo ⟨fun _ hk=>.inl hk,fun _ _=>rfl⟩ (Lt.refl w))
 |o::l,k,acc,ps,r,hl,hc,tm,h,tm',h',A,ρ,w,a,e,f,t,hd,hf,hq=>by
  obtain⟨p,ps',g,r',rfl,h1,_,h2,h3,rfl⟩:=wR hc;have hk:ops[k]?=some o:=by simpa using hl 0 o rfl
  have hl':∀(i:Nat) (o':Oper),l[i]?=some o'->ops[k+1+i]?=some o':=fun i o' hi=>by
   have:=hl (i+1) o' (by simpa using hi);rwa[show k+(i+1)=k+1+i by omega]at this
  simp only[iD,List.range'_succ,wpOpsIn,hk];simp only[uZ]at e;split at e
  ·next hw=>
   have hw':=uL h2 hw (fun u b _=>hf.tr u);rw[hw',an rfl];split at e
   ·next c h1' e1=>
    have g1:Gd h h1':=by
     unfold Kr at e1;split at e1
     ·obtain⟨⟨c',b⟩,_,e1⟩:=aK e1;obtain⟨h2,e2,e3⟩:=aJ e1;simp only[aR]at e3;obtain⟨_,rfl⟩:=e3;exact uo f e2
     ·exact rR hg f e1
    have g2:=xJ hg r' _ _ _ _ e g1.wf;have hd1:=hd.left g2.good.next
    have cont:∀u w' ρ',cR P A ρ w h ρ' w' h1'->VR P (Ext A h h1') ρ' w' c u->wpOpsIn F 0 P ops Q (List.range' (k+1) l.length) (a.put o.dst u) w':=fun u w' ρ' hp hu=>
     uY hrec hg hF hn l (k+1) _ ps' r' hl' h3 _ h1' tm' h' (Ext A h h1') ρ' w' _ e g1.wf hp.rel (hd.right g1.good.next) ((hf.mo (hp.mo hd1) hp.lt).put hn h1 hu) (fun ρ2 w2 a2 hp2 hf2=>
      hq ρ2 w2 a2 (hp.trans g1.good hp2 g2.good) (hf2.mo (Mo.ext g1.good.next g2.good.next _) (Lt.refl _)))
    unfold Kr at e1;split at e1
    ·next hT=>
     obtain⟨⟨c',b⟩,e2,e1⟩:=aK e1;obtain⟨h2',e3,e4⟩:=aJ e1;simp only[aR]at e4;obtain⟨rfl,rfl⟩:=e4;have hcc:=DD rfl (.inr fun e5=>by rw[e5,LG]at e2;cases e2);exact KN hF (rp ⟨_,hcc⟩) (t_me hcc hT e2 e3 (hf.hv o) t hd1) cont
    ·next hT=>
     have hcc:=DD rfl (.inl hT);exact r_wp hrec hF hcc hT e1 f (hf.hv o) t hd1 cont
   ·cases e
  ·next hw=>
   have hw':=uL h2 hw (fun u b _=>hf.tr u);rw[hw',aj aU];refine⟨fun g _=>hF.fn g,?_⟩;exact uY hrec hg hF hn l (k+1) _ ps' r' hl' h3 _ h tm' h' A ρ w _ e f t hd (hf.put hn h1 (by simp only[VR])) hq
  ·cases e
end CI
end
section
open Go.RowKit
namespace CI
variable {P : Program} {A A' : Nat->Prop} {ρ ρ' : Nat->Nat} {w w' : World} {tm tm' : Tm} {a : Act} {o : Oper} {c : C} {h h' h'' : H} {rec : Rec} {n : Nat} {ds : List Nat}
theorem lH(pre k:Nat):∀(iv:List (Nat×Nat×Nat)) (f:List (Nat×Nat)),eI k (lk pre iv f)=false->eI k f=false
 |[],f,h=>h
 |(i,x,y)::l,f,h=>by
  simp only[lk]at h;split at h
  ·exact lH pre k l f h
  ·simp only[eI]at h;split at h
   ·split at h
    ·cases h
    ·exact lH pre k l f h
   ·exact lH pre k l f h
def H.part(h:H)(pre:Nat)(iv:List (Nat×Nat×Nat)):H:=⟨h.next,h.next,lk pre iv h.forb,h.t⟩
theorem va{pre:Nat}{iv:List (Nat×Nat×Nat)}{k:Nat}{b:B}(e:(h.part pre iv).get k=some b):h.get k=some b:=by
 unfold H.get at e⊢;split at e
 ·cases e
 ·next hf=>rw[lH pre k iv h.forb hf];exact e
theorem oS{pre:Nat}{iv:List (Nat×Nat×Nat)}(f:Wf h):Wf (h.part pre iv):=⟨f.bd,f.lt⟩
def H.whole(h h':H):H:=⟨h'.next,(match Nat.blt h'.low h.low with|true=>h'.low|false=>h.low),h.forb,h'.t⟩
theorem Cu(h h':H):(h.whole h').low<=h.low/\(h.whole h').low<=h'.low:=by
 show(match Nat.blt h'.low h.low with|true=>h'.low|false=>h.low)<=h.low/\(match Nat.blt h'.low h.low with|true=>h'.low|false=>h.low)<=h'.low;split
 ·next e=>
  have:h'.low<h.low:=by simpa[bB]using e
  exact⟨bQ this,af _⟩
 ·next e=>
  have:¬h'.low<h.low:=by intro e2;rw[<-bB]at e2;rw[e2]at e;cases e
  exact⟨af _,by omega⟩
theorem B5{pre:Nat}{iv:List (Nat×Nat×Nat)}(g:Gd (h.part pre iv) h'):Gd h (h.whole h'):=by
 obtain⟨l1,l2⟩:=Cu h h';refine⟨⟨g.wf.bd,g.wf.lt⟩,⟨g.good.next,l1,rfl,fun k hk hl=>g.good.keep k hk (aZ hl l2),fun k hk hd=>g.good.dead k hk fun hl=>hd ?_⟩⟩;obtain⟨b,e⟩:=cV.1 hl;exact bJ (va e)
theorem CG{o:RO}{l:List RO}{j:Nat}{iv:List (Nat×Nat×Nat)}{rw:List (Nat×Bool)}(e:kV rec (o::l) j iv rw tm h=some (tm',h')):
  (lY o tm=some false/\kV rec l (j+1) iv rw (lD tm o.dst .any) h=some (tm',h'))\/
  (lY o tm=some true/\o.x.isT=true/\∃c ob h1,xT o.x tm h.next=some (c,ob)/\h.oH ob=some h1/\kV rec l (j+1) (match ob with|none=>iv|some _=>(j,h.next,h1.next)::iv) rw (lD tm o.dst c) h1=some (tm',h'))\/
  (lY o tm=some true/\o.x.isT=false/\∃c h1,xR rec o.x tm (h.part o.pre iv)=some (c,h1)/\vC o.pre (Nat.blt h1.low h.next) rw=false/\
   kV rec l (j+1) (match Nat.blt h.next h1.next with|true=>(j,h.next,h1.next)::iv|false=>iv) ((j,Nat.blt h1.low h.next)::rw) (lD tm o.dst c) (h.whole h1)=some (tm',h')):=by
 simp only[kV]at e;split at e
 ·next hw=>
  split at e
  ·next hT=>
   split at e
   ·next c e1=>exact .inr (.inl ⟨hw,hT,c,none,h,e1,rfl,e⟩)
   ·next c b e1=>
    split at e
    ·next h1 e2=>exact .inr (.inl ⟨hw,hT,c,some b,h1,e1,e2,e⟩)
    ·cases e
   ·cases e
  ·next hT=>
   split at e
   ·next c h1 e1=>
    split at e
    ·cases e
    ·next hcl=>exact .inr (.inr ⟨hw,hT,c,h1,e1,hcl,e⟩)
   ·cases e
 ·next hw=>exact .inl ⟨hw,e⟩
 ·cases e
theorem xK(hg:fS rec):∀(r:List RO) (j:Nat) (iv:List (Nat×Nat×Nat)) (rw:List (Nat×Bool)) (tm:Tm) (h:H) (tm':Tm) (h':H),kV rec r j iv rw tm h=some (tm',h')->Wf h->Gd h h'
 |[],j,iv,rw,tm,h,tm',h',e,f=>by
  simp only[kV,ak,aR]at e;obtain⟨_,rfl⟩:=e;exact Gd.refl f
 |o::l,j,iv,rw,tm,h,tm',h',e,f=>by
  rcases CG e with⟨_,e⟩|⟨_,_,c,ob,h1,_,e2,e⟩|⟨_,_,c,h1,e1,_,e⟩
  ·exact xK hg l _ _ _ _ _ _ _ e f
  ·have g1:=uo f e2;exact g1.trans (xK hg l _ _ _ _ _ _ _ e g1.wf)
  ·have g1:=B5 (rR hg (oS f) e1);exact g1.trans (xK hg l _ _ _ _ _ _ _ e g1.wf)
def G7(P:Program)(rec:Rec):Prop:=∀(F:Fence) (_:FC F) (Q:Exit->Act->World->Prop) (ops:Array Oper) (id n:Nat) (_:n<1000000) (r:List RO) (_:iP P n true ops [] ops.toList (nk ops.toList [])=some r)
 (tm:Tm) (h:H) (tm':Tm) (h':H) (_:kV rec r 0 [] [] tm h=some (tm',h')) (_:Wf h) (A:Nat->Prop) (ρ:Nat->Nat) (w:World) (a:Act) (ds:List Nat) (_:Rel P A ρ w h) (_:Dj A h h') (_:Fr P A ρ w n ds tm a)
 (_:∀ρ' w' a',cR P A ρ w h ρ' w' h'->Fr P (Ext A h h') ρ' w' n ds tm' a'->Q .normal a' w'),(Code.region id ops true).wpIn F 0 P Q a w
end CI
end
section
open Go.RowKit
namespace CI
variable {P : Program} {h h' h'' : H} {rec : Rec} {E : Env}
def wY(rec:Rec):Prop:=∀cc tm ds rd h e tm' ds' h',rec (.code cc tm ds rd h)=some (.code e tm' ds' h')->Wf h->Gd h h'
theorem sE:∀(ds:List Nat) (h h':H),mM ds h=some h'->Wf h->Gd h h'
 |[],h,h',e,f=>by simp only[mM,ak]at e;subst e;exact Gd.refl f
 |k::l,h,h',e,f=>by
  simp only[mM]at e;split at e
  ·next hb=>
   have g:=lB (b:=some (.defd false)) f (bJ hb);exact g.trans (sE l _ _ e g.wf)
  ·cases e
theorem I8{l:Nat}{e:Ex}{c:C}(hh:Gn l e h=some (c,h'))(f:Wf h):Gd h h':=by
 unfold Gn at hh;split at hh
 ·next hb=>
  split at hh<;>(simp only[ak,aR]at hh;obtain⟨_,rfl⟩:=hh;exact lB f (bJ hb))
 ·cases hh
theorem UR(hr:fS rec)(hc:wY rec):fS (body E rec)/\wY (body E rec):=by
 constructor
 ·intro f args h c h' e fh;simp only[body]at e;split at e
  ·split at e
   ·obtain⟨_,_,e2⟩:=aJ e;simp only[Out.val.injEq]at e2;obtain⟨_,rfl⟩:=e2;exact Gd.refl fh
   ·split at e
    ·split at e
     ·cases e
     ·split at e
      ·next e1=>
       have g1:=hc _ _ _ _ _ _ _ _ _ e1 fh;split at e
       ·cases e
       ·obtain⟨h2,e2,e⟩:=aK e;obtain⟨rs,e3,e4⟩:=aJ e;simp only[Out.val.injEq]at e4;obtain⟨_,rfl⟩:=e4;exact g1.trans (sE _ _ _ e2 g1.wf)
      ·cases e
    ·cases e
  ·split at e
   ·split at e
    ·split at e
     ·next e1=>
      have g1:=hc _ _ _ _ _ _ _ _ _ e1 fh;split at e
      ·next hb=>
       split at e
       ·next e2=>
        have g0:=hc _ _ _ _ _ _ _ _ _ e2 (lB g1.wf (bJ hb)).wf;have g3:=g1.trans ((lB g1.wf (bJ hb)).trans g0);obtain⟨⟨c',h3⟩,e3,e4⟩:=aJ e;simp only[Out.val.injEq]at e4;obtain⟨_,rfl⟩:=e4;exact g3.trans (I8 e3 g3.wf)
       ·cases e
      ·cases e
     ·cases e
    ·cases e
   ·cases e
  ·cases e
 ·intro cc tm ds rd h e tm' ds' h' ee fh
  cases cc with
  |skip=>simp only[body,ak,Out.code.injEq]at ee;obtain⟨_,_,_,rfl⟩:=ee;exact Gd.refl fh
  |ret=>simp only[body,ak,Out.code.injEq]at ee;obtain⟨_,_,_,rfl⟩:=ee;exact Gd.refl fh
  |exit id=>simp only[body,ak,Out.code.injEq]at ee;obtain⟨_,_,_,rfl⟩:=ee;exact Gd.refl fh
  |seq a b=>
   simp only[body]at ee;split at ee
   ·next e1=>
    have g1:=hc _ _ _ _ _ _ _ _ _ e1 fh;exact g1.trans (hc _ _ _ _ _ _ _ _ _ ee g1.wf)
   ·exact hc _ _ _ _ _ _ _ _ _ ee fh
  |cond c a b=>
   simp only[body]at ee;split at ee
   ·exact hc _ _ _ _ _ _ _ _ _ ee fh
   ·exact hc _ _ _ _ _ _ _ _ _ ee fh
   ·cases ee
  |block id c=>
   simp only[body]at ee;split at ee
   ·next e1=>
    have g1:=hc _ _ _ _ _ _ _ _ _ e1 fh;split at ee<;>(simp only[ak,Out.code.injEq]at ee;obtain⟨_,_,_,rfl⟩:=ee;exact g1)
   ·exact hc _ _ _ _ _ _ _ _ _ ee fh
  |loop c=>
   simp only[body]at ee;split at ee
   ·next e1=>
    have g1:=hc _ _ _ _ _ _ _ _ _ e1 fh;exact g1.trans (hc _ _ _ _ _ _ _ _ _ ee g1.wf)
   ·exact hc _ _ _ _ _ _ _ _ _ ee fh
  |reg draw ops=>
   simp only[body]at ee;split at ee
   ·next e1=>
    simp only[ak,Out.code.injEq]at ee;obtain⟨_,rfl,_,rfl⟩:=ee;split at e1
    ·exact xK hr _ _ _ _ _ _ _ _ e1 fh
    ·exact xJ hr _ _ _ _ _ e1 fh
   ·cases ee
  |rng f ps a b=>
   simp only[body]at ee;split at ee
   ·next d ds1 h1 e1=>
    have g1:Gd h h1:=by
     split at e1
     ·split at e1
      ·simp only[ak,aR]at e1;obtain⟨_,_,rfl⟩:=e1;exact Gd.refl fh
      ·cases e1
     ·obtain⟨h2,e2,e3⟩:=aJ e1;simp only[aR]at e3;obtain⟨_,_,rfl⟩:=e3;exact ox fh e2
    split at ee
    ·next h2 e2=>
     have g2:=g1.trans (ox g1.wf e2);split at ee
     ·next e3=>
      split at e3
      ·next g caps _=>
       have g3:=g2.trans (hr _ _ _ _ _ e3 g2.wf);split at ee
       ·cases ee
       ·next hb=>
        simp only[ak,Out.code.injEq]at ee;obtain⟨_,_,_,rfl⟩:=ee;exact g3.trans (lB g3.wf (bJ hb))
       ·cases ee
      ·cases e3
     ·cases ee
    ·cases ee
   ·cases ee
theorem tO(E:Env):∀n,fS (run E n)/\wY (run E n)
 |0=>⟨fun _ _ _ _ _ e=>by simp[run]at e,fun _ _ _ _ _ _ _ _ _ e=>by simp[run]at e⟩
 |n+1=>UR (tO E n).1 (tO E n).2
end CI
end
section
open Go.RowKit
namespace CI
variable {P : Program} {A A' : Nat->Prop} {ρ ρ' : Nat->Nat} {w w' : World} {tm tm' : Tm} {a : Act} {c : C} {h h' h'' : H} {rec : Rec} {E : Env} {n : Nat} {ds ds' : List Nat}
def exM:Ex->Exit->Prop
 | .norm,.normal=>True
 | .ret,.ret=>True
 | .exit i,.exit j=>i=j
 |_,_=>False
def lR(P:Program)(A:Nat->Prop)(ρ:Nat->Nat)(w:World)(h:H)(n:Nat)(e:Ex)(tm':Tm)(ds':List Nat)(h':H):Exit->Act->World->Prop:=fun e' a' w'=>
 exM e e'/\∃ρ',cR P A ρ w h ρ' w' h'/\Fr P (Ext A h h') ρ' w' n ds' tm' a'
def fc(rd:Option Nat)(ρ:Nat->Nat):Fence:=match rd with|none=>Fence.wide|some l=>Fence.wide.inRound (ρ l)
theorem Sz(rd:Option Nat)(ρ:Nat->Nat):FC (fc rd ρ):=by
 cases rd with
 |none=>exact .inl rfl
 |some l=>exact .inr ⟨_,rfl⟩
theorem Sy{rd:Option Nat}(h:∀l,rd=some l->ρ' l=ρ l):fc rd ρ'=fc rd ρ:=by
 cases rd with
 |none=>rfl
 |some l=>simp only[fc,h l rfl]
def rE(P:Program)(rec:Rec):Prop:=∀cc tm ds rd h e tm' ds' h',rec (.code cc tm ds rd h)=some (.code e tm' ds' h')->Wf h->∀n c A ρ w a,comp P n c=some cc->n<1000000->Rel P A ρ w h->Dj A h h'->Fr P A ρ w n ds tm a->(∀l,rd=some l->A l)->
 c.wpIn (fc rd ρ) 0 P (lR P A ρ w h n e tm' ds' h') a w
theorem Bg{h1:H}{ρ1:Nat->Nat}{w1:World}{e:Ex}{e':Exit}{a':Act}(p:cR P A ρ w h ρ1 w1 h1)(g:Gd h h1)(g':Gd h1 h')(q:lR P (Ext A h h1) ρ1 w1 h1 n e tm' ds' h' e' a' w'):lR P A ρ w h n e tm' ds' h' e' a' w':=by
 obtain⟨h1,ρ2,hp,hf⟩:=q;exact⟨h1,ρ2,p.trans g.good hp g'.good,hf.mo (Mo.ext g.good.next g'.good.next _) (Lt.refl _)⟩
theorem Fr.ext(f:Fr P A ρ w n ds tm a):Fr P (Ext A h h') ρ w n ds tm a:=f.mo ⟨fun _ hk=>.inl hk,fun _ _=>rfl⟩ (Lt.refl w)
theorem He{F:Fence}{m:Nat}{c:Code}{Q:Exit->Act->World->Prop}(I:Nat->Act->World->Prop){k:Nat}(h₀:I k a w)
  (round:∀k a w,I k a w->c.wpIn F m P (Exit.then (fun a' w'=>∃k',k'<k/\I k' a' w') Q) a w):(Code.loop c).wpIn F m P Q a w:=by
 intro b kk cs hro hb hr
 have key : ∀ j a w, I j a w ->
     ∃e a' w',Q e a' w'/\ArrivesIn (Machine.fenced P F) P (lone (b.atR a (.code c:: .inLoop c::kk)) cs w) b kk cs e a' w':=by
  intro j
  induction j using Nat.strongRecOn with
  |_ j ih=>
   intro a w hI;obtain⟨e,a₁,w₁,hq,harr⟩:=round j a w hI b (.inLoop c::kk) cs hro hb hr
   cases e with
   |normal=>
    obtain⟨k',hlt,hI₁⟩:=hq;obtain⟨e₂,a₂,w₂,hq₂,harr₂⟩:=ih k' hlt a₁ w₁ hI₁;exact⟨e₂,a₂,w₂,hq₂, .of_steps (StepsIn.trans harr (.one (fenced_calm hb hr rfl) stepR_inLoop)) harr₂⟩
   |exit id=>exact⟨_,a₁,w₁,hq, .pass (x:= .inLoop c) rfl (fun _ _=> .inl aU) harr⟩
   |goto l=>exact⟨_,a₁,w₁,hq, .pass (x:= .inLoop c) rfl (fun _ _=> .inl aU) harr⟩
   |ret=>exact⟨_,a₁,w₁,hq, .pass (x:= .inLoop c) rfl (fun _ _=> .inl aU) harr⟩
   |panic ch=>exact⟨_,a₁,w₁,hq, .pass (x:= .inLoop c) rfl (fun _ _=> .inl aU) harr⟩
   |outgrown=>exact⟨_,a₁,w₁,hq, .pass (x:= .inLoop c) rfl (fun _ _=> .inl aU) harr⟩
 obtain⟨e,a',w',hq,harr⟩:=key k a w h₀;exact⟨e,a',w',hq, .of_steps (.one (fenced_calm hb hr rfl) stepR_loop) harr⟩
theorem vt{e':Exit}(h:exM .norm e'):e'= .normal:=by cases e'<;>simp[exM]at h⊢
theorem tJ{h1:H}{e:Ex}{F:Fence}{c:Code}{tm1:Tm}{ds1:List Nat}{K:Act->World->Prop}{Q:Exit->Act->World->Prop}(hw:c.wpIn F 0 P (lR P A ρ w h n e tm1 ds1 h1) a w)
  (hk:e= .norm->∀ρ1 w1 a1,cR P A ρ w h ρ1 w1 h1->Fr P (Ext A h h1) ρ1 w1 n ds1 tm1 a1->K a1 w1) (hq:e≠ .norm->∀e' a1 w1,lR P A ρ w h n e tm1 ds1 h1 e' a1 w1->Q e' a1 w1):c.wpIn F 0 P (Exit.then K Q) a w:=by
 refine wpIn_mono hw fun e' a1 w1 hp=>?_
 cases e with
 |norm=>
  obtain⟨h1,ρ1,hp,hf⟩:=hp;rw[vt h1];exact hk rfl ρ1 w1 a1 hp hf
 |ret=>
  have hp':=hp;obtain⟨h1,_⟩:=hp;cases e'<;>simp[exM]at h1;exact hq aU _ _ _ hp'
 |exit i=>
  have hp':=hp;obtain⟨h1,_⟩:=hp;cases e'<;>simp[exM]at h1;exact hq aU _ _ _ hp'
theorem UM{N:Nat}(hR:∀m,m<=N->oI P (run E m))(hC:∀m,m<=N->rE P (run E m))(hD:∀m,m<=N->G7 P (run E m))(hrng:∀f ps x y cc tm ds rd h e tm' ds' h',run E (N+1) (.code cc tm ds rd h)=some (.code e tm' ds' h')->Wf h->∀n A ρ w a,comp P n (.rangeFunc f ps x y)=some cc->n<1000000->Rel P A ρ w h->Dj A h h'->Fr P A ρ w n ds tm a->(∀l,rd=some l->A l)->(Code.rangeFunc f ps x y).wpIn (fc rd ρ) 0 P (lR P A ρ w h n e tm' ds' h') a w):rE P (run E (N+1)):=by
 intro cc tm ds rd h e tm' ds' h' ee fh n c A ρ w a hcc hn t hd hf hrd;have hFC:=Sz rd ρ;have gd:=fun m=>tO E m
 cases c with
 |skip=>
  simp only[comp,ak]at hcc;subst hcc;simp only[run,body,ak,Out.code.injEq]at ee;obtain⟨rfl,rfl,rfl,rfl⟩:=ee;exact wpIn_skip ⟨trivial,ρ,cR.refl t,hf.ext⟩
 |label l=>
  simp only[comp,ak]at hcc;subst hcc;simp only[run,body,ak,Out.code.injEq]at ee;obtain⟨rfl,rfl,rfl,rfl⟩:=ee;exact wpIn_label ⟨trivial,ρ,cR.refl t,hf.ext⟩
 |ret=>
  simp only[comp,ak]at hcc;subst hcc;simp only[run,body,ak,Out.code.injEq]at ee;obtain⟨rfl,rfl,rfl,rfl⟩:=ee;exact wpIn_ret ⟨trivial,ρ,cR.refl t,hf.ext⟩
 |exit id=>
  simp only[comp,ak]at hcc;subst hcc;simp only[run,body,ak,Out.code.injEq]at ee;obtain⟨rfl,rfl,rfl,rfl⟩:=ee;exact wpIn_exit ⟨rfl,ρ,cR.refl t,hf.ext⟩
 |goto l=>simp[comp]at hcc
 |scope x=>simp[comp]at hcc
 |refuse s=>simp[comp]at hcc
 |seq x y=>
  simp only[comp]at hcc;obtain⟨cx,e1,hcc⟩:=aK hcc;obtain⟨cy,e2,rfl⟩:=aJ hcc;simp only[run,body]at ee;split at ee
  ·next tm1 ds1 h1 e3=>
   have g1:=(gd N).2 _ _ _ _ _ _ _ _ _ e3 fh;have g2:=(gd N).2 _ _ _ _ _ _ _ _ _ ee g1.wf;refine wpIn_seq (tJ (hC N (af _) _ _ _ _ _ _ _ _ _ e3 fh n x A ρ w a e1 hn t (hd.left g2.good.next) hf hrd) (fun _ ρ1 w1 a1 hp hf1=>?_) (fun he=>absurd rfl he));have hfc:fc rd ρ1=fc rd ρ:=Sy fun l hl=>(hp.mo (hd.left g2.good.next)).eq l (hrd l hl);rw[<-hfc];exact wpIn_mono (hC N (af _) _ _ _ _ _ _ _ _ _ ee g1.wf n y _ ρ1 w1 a1 e2 hn hp.rel (hd.right g1.good.next) hf1 (fun l hl=>.inl (hrd l hl))) fun e' a' w' q=>Bg hp g1 g2 q
  ·next hne=>
   refine wpIn_seq (tJ (hC N (af _) _ _ _ _ _ _ _ _ _ ee fh n x A ρ w a e1 hn t hd hf hrd) (fun he=>?_) (fun _ e' a1 w1 q=>q));subst he;exact absurd ee (hne _ _ _)
 |cond x y z=>
  simp only[comp]at hcc;obtain⟨cx,e1,hcc⟩:=aK hcc;obtain⟨cy,e2,rfl⟩:=aJ hcc;have hx:=hf.tr.op x;unfold OpV at hx;simp only[run,body]at ee;split at ee
  ·next e3=>
   rw[e3]at hx;exact wpIn_cond_true hx.bool (hC N (af _) _ _ _ _ _ _ _ _ _ ee fh n y A ρ w a e1 hn t hd hf hrd)
  ·next e3=>
   rw[e3]at hx;exact wpIn_cond_false hx.bool (hC N (af _) _ _ _ _ _ _ _ _ _ ee fh n z A ρ w a e2 hn t hd hf hrd)
  ·cases ee
 |block id x=>
  simp only[comp]at hcc;obtain⟨cx,e1,rfl⟩:=aJ hcc;simp only[run,body]at ee;refine wpIn_block ?_;split at ee
  ·next i tm1 ds1 h1 e3=>
   split at ee
   ·next hi=>
    have hi':=ed hi;simp only[ak,Out.code.injEq]at ee;obtain⟨rfl,rfl,rfl,rfl⟩:=ee;refine wpIn_mono (hC N (af _) _ _ _ _ _ _ _ _ _ e3 fh n x A ρ w a e1 hn t hd hf hrd) fun e' a' w' q=>?_;obtain⟨q1,q2⟩:=q;cases e'<;>simp[exM]at q1;subst q1;simp only[Exit.inBlock,hi',if_true];exact⟨trivial,q2⟩
   ·next hi=>
    have hi':=Aa hi;simp only[ak,Out.code.injEq]at ee;obtain⟨rfl,rfl,rfl,rfl⟩:=ee;refine wpIn_mono (hC N (af _) _ _ _ _ _ _ _ _ _ e3 fh n x A ρ w a e1 hn t hd hf hrd) fun e' a' w' q=>?_;obtain⟨q1,q2⟩:=q;cases e'<;>simp[exM]at q1;subst q1;simp only[Exit.inBlock,hi',if_false];exact⟨rfl,q2⟩
  ·next hne=>
   refine wpIn_mono (hC N (af _) _ _ _ _ _ _ _ _ _ ee fh n x A ρ w a e1 hn t hd hf hrd) fun e' a' w' q=>?_
   cases e with
   |norm=>have:=vt q.1;subst this;exact q
   |ret=>
    have q1:=q.1;cases e'<;>simp[exM]at q1;exact q
   |exit i=>exact absurd ee (hne _ _ _ _)
 |loop x=>
  simp only[comp]at hcc;obtain⟨cx,e1,rfl⟩:=aJ hcc;refine He (fun k a1 w1=>k<=N+1/\∃tm1 ds1 h1 ρ1,run E k (.code (.loop cx) tm1 ds1 rd h1)=some (.code e tm' ds' h')/\Gd h h1/\cR P A ρ w h ρ1 w1 h1/\Fr P (Ext A h h1) ρ1 w1 n ds1 tm1 a1) (k:=N+1) ⟨af _,tm,ds,h,ρ,ee,Gd.refl fh,cR.refl t,hf.ext⟩ ?_;rintro k a1 w1 ⟨hk,tm1,ds1,h1,ρ1,er,g1,p1,f1⟩
  cases k with
  |zero=>simp[run]at er
  |succ k=>
   have hkN:k<=N:=by omega
   have gEnd:=(gd (k+1)).2 _ _ _ _ _ _ _ _ _ er g1.wf;have hd1:=hd.right g1.good.next
   have hfc:fc rd ρ1=fc rd ρ:=Sy fun l hl=>(p1.mo (hd.left gEnd.good.next)).eq l (hrd l hl);simp only[run,body]at er;rw[<-hfc];split at er
   ·next tm2 ds2 h2 e3=>
    have g2:=(gd k).2 _ _ _ _ _ _ _ _ _ e3 g1.wf;have g3:=(gd k).2 _ _ _ _ _ _ _ _ _ er g2.wf;refine tJ (hC k hkN _ _ _ _ _ _ _ _ _ e3 g1.wf n x _ ρ1 w1 a1 e1 hn p1.rel (hd1.left g3.good.next) f1 (fun l hl=>.inl (hrd l hl))) (fun _ ρ2 w2 a2 hp hf2=>⟨k,by omega,by omega,tm2,ds2,h2,ρ2,er,g1.trans g2,p1.trans g1.good hp g2.good,hf2.mo (Mo.ext g1.good.next g2.good.next _) (Lt.refl _)⟩) (fun he=>absurd rfl he)
   ·next hne=>
    have g2:=(gd k).2 _ _ _ _ _ _ _ _ _ er g1.wf;refine tJ (hC k hkN _ _ _ _ _ _ _ _ _ er g1.wf n x _ ρ1 w1 a1 e1 hn p1.rel hd1 f1 (fun l hl=>.inl (hrd l hl))) (fun he=>?_) (fun _ e' a2 w2 q=>Bg p1 g1 g2 q);subst he;exact absurd er (hne _ _ _)
 |region id ops draw=>
  simp only[comp]at hcc;obtain⟨r,e1,rfl⟩:=aJ hcc;simp only[run,body]at ee;split at ee
  ·next tm1 h1 e2=>
   simp only[ak,Out.code.injEq]at ee;obtain⟨rfl,rfl,rfl,rfl⟩:=ee
   cases draw with
   |true=>exact hD N (af _) (fc rd ρ) hFC _ ops id n hn r e1 tm h tm1 h1 e2 fh A ρ w a ds t hd hf (fun ρ' w' a' hp hf'=>⟨trivial,ρ',hp,hf'⟩)
   |false=>
    refine wpIn_region ?_;rw[List.range_eq_range'];have:=uY (hR N (af _)) (gd N).1 hFC (Q:=lR P A ρ w h n .norm tm1 ds h1) (ops:=ops) hn ops.toList 0 [] _ r (fun i o hi=>by rw[bw];simpa using hi) e1 tm h tm1 h1 A ρ w a e2 fh t hd hf (fun ρ' w' a' hp hf'=>⟨trivial,ρ',hp,hf'⟩);simpa using this
  ·cases ee
 |rangeFunc f ps x y=>exact hrng f ps x y cc tm ds rd h e tm' ds' h' ee fh n A ρ w a hcc hn t hd hf hrd
end CI
end
section
open Go.RowKit
namespace CI
variable {P : Program} {A A' : Nat->Prop} {ρ ρ' : Nat->Nat} {w w' : World} {tm tm' : Tm} {a : Act} {c : C} {h h' h'' : H} {rec : Rec} {E : Env} {n : Nat} {ds ds' : List Nat}
theorem sW(w:World)(o:Obj):Below w.heap.size w (w.alloc o):=(Below.refl _ _).alloc (af _) _
theorem AJ{r:Nat}{o:Obj}(h:w.heap[r]?=some o)(ho:∀c e f,o≠ .cells c e f):NW w r:=fun m e=>by
 unfold World.cell? at e;rw[h]at e;cases o<;>simp at e;exact absurd rfl (ho _ _ _)
theorem rT{r:Nat}{o:Obj}(h:w.heap[r]?=some o)(ho:∀c e f,o≠ .cells c e f):w.shape? r=none:=by
 unfold World.shape?;rw[h];cases o<;>first|rfl|exact absurd rfl (ho _ _ _)
theorem vd{k:Nat}{b b0:B}{o o':Obj}(t:Rel P A ρ w h)(hb:h.get k=some b0)(ho:w.heap[ρ k]?=some o)(hoc:∀c e f,o≠ .cells c e f)(hB:BR P A ρ (w.putObj (ρ k) o') (ρ k) b):cR P A ρ w h ρ (w.putObj (ρ k) o') (h.set k (some b)):=by
 refine Fj t (bJ hb) ⟨rfl,rfl,rfl,by simp,fun j _ hj=>World.putObj_heap_other hj⟩ (AJ ho hoc) (fun s hs=>?_) hB;rw[rT ho hoc]at hs;cases hs
theorem Pn{N:Nat}(hR:oI P (run E N)):∀f ps x y cc tm ds rd h e tm' ds' h',run E (N+1) (.code cc tm ds rd h)=some (.code e tm' ds' h')->Wf h->∀n A ρ w a,comp P n (.rangeFunc f ps x y)=some cc->n<1000000->Rel P A ρ w h->Dj A h h'->Fr P A ρ w n ds tm a->(∀l,rd=some l->A l)->(Code.rangeFunc f ps x y).wpIn (fc rd ρ) 0 P (lR P A ρ w h n e tm' ds' h') a w:=by
 intro f ps x y cc tm ds rd h e tm' ds' h' ee fh n A ρ w a hcc hn t hd hf hrd;have hFC:=Sz rd ρ;simp only[comp]at hcc;split at hcc
 ·cases hcc
 next hall=>
 obtain⟨ca,c1,hcc⟩:=aK hcc;obtain⟨cb,c2,rfl⟩:=aJ hcc;have hps:∀u∈ps.toList,u<n:=fun u hu=>by
  have:=cW.1 hall u hu;simpa[bB]using this
 simp only[run,body]at ee;split at ee
 case h_2=>cases ee
 next d ds1 h1 e1=>
 split at ee
 case h_2=>cases ee
 next h2 e2=>
 split at ee
 case h_2=>cases ee
 next c3 h3 e3=>
 split at e3
 case h_2=>cases e3
 next g caps ef=>
 split at ee
 ·cases ee
 case h_3=>cases ee
 next st p tm2 ps2 a2 b2 d2 hst hb3=>
 simp only[ak,Out.code.injEq]at ee;obtain⟨rfl,rfl,rfl,rfl⟩:=ee;have g1:Gd h h1:=by
  split at e1
  ·split at e1
   ·simp only[ak,aR]at e1;obtain⟨_,_,rfl⟩:=e1;exact Gd.refl fh
   ·cases e1
  ·obtain⟨hx,ex,e3x⟩:=aJ e1;simp only[aR]at e3x;obtain⟨_,_,rfl⟩:=e3x;exact ox fh ex
 have g2:=ox g1.wf e2;have g3:=(tO E N).1 _ _ _ _ _ e3 g2.wf;have g4:=lB (b:=some (B.loop .wD p tm2 ps2 a2 b2 d2)) g3.wf (bJ hb3);have hd1:Dj A h h1:=hd.left (aB g2.good.next (aB g3.good.next g4.good.next));have hd2:Dj (Ext A h h1) h1 h2:=(hd.right g1.good.next).left (aB g3.good.next g4.good.next);have hd3:Dj (Ext (Ext A h h1) h1 h2) h2 h3:=((hd.right g1.good.next).right g2.good.next).left g4.good.next
 have key:∃ρ1 w1 mark,cR P A ρ w h ρ1 w1 h1/\Ext A h h1 d/\(∀fn,(Instr.enterLoop fn a.tmps ps x y (fc rd ρ).round).run P w= .ok (w1.heap.size,mark) (w1.alloc (.loop ⟨.ready,none,fn,a.tmps,ps,x,y,ρ1 d⟩)))/\mark++a.defers=ds1.map (wS ρ1)/\∀k∈ds1,Ext A h h1 k:=by
  cases rd with
  |none=>
   obtain⟨h1',k1,k2⟩:=aJ e1;simp only[aR]at k2;obtain⟨rfl,rfl,rfl⟩:=k2;have hB:∀A' ρ',Mo A A' ρ ρ'->ρ' h.next=w.heap.size->A' h.next->BR P A' ρ' (w.alloc (.deferred (some []))) w.heap.size (.defd true):=fun A' ρ' _ _ _=>heap_alloc_new w _
   have hp:=oU t k1 hd1 (sW w (.deferred (some []))) (af _) aU hB;have hnx:Ext A h h1' h.next:=.inr ⟨af _,by have:=(dX k1).1;omega⟩
   have hat:at' ρ h.next w.heap.size h.next=w.heap.size:=by unfold at';rw[an rfl]
   refine⟨_,w.alloc (.deferred (some [])),[{target:=.collected w.heap.size,args:=#[]}],hp,hnx,fun fn=>?_,?_,fun k hk=>?_⟩
   ·have:=run_enterLoop_outer (P:=P) (w:=w) fn a.tmps ps x y;rw[hat];show(Instr.enterLoop fn a.tmps ps x y none).run P w=_;rw[this];simp
   ·rw[fA,hf.df];simp only[List.singleton_append,wS,hat,List.cons.injEq,true_and];exact mF fun k hk=>by unfold wS;rw[(hp.mo hd1).eq k (hf.nm k hk)]
   ·rcases bC.1 hk with rfl|hk
    ·exact hnx
    ·exact .inl (hf.nm k hk)
  |some l=>
   simp only at e1;split at e1
   ·next st' p' tmx psx ax bx dx hbl=>
    simp only[ak,aR]at e1;obtain⟨rfl,rfl,rfl⟩:=e1;obtain⟨_,_,_,hA,fn',tmps',a',b',hh,_⟩:=t.blk l _ hbl;refine⟨ρ,w,[],cR.refl t,.inl hA,fun fn=>?_,by rw[ew,hf.df],fun k hk=>.inl (hf.nm k hk)⟩;show(Instr.enterLoop fn a.tmps ps x y (some (ρ l))).run P w=_;unfold Instr.enterLoop;simp only[Sem.run_bind,run_getLoop hh,Result.andThen_ok,run_newObj_alloc,Sem.run_pure]
   ·cases e1
 obtain⟨ρ1,w1,mark,p1,hAd,henter,hmark,hds1⟩:=key;have hf1:=hf.mo (p1.mo hd1) p1.lt;refine wpIn_rangeFunc fun fn _=>?_;have hB:∀A' ρ',Mo (Ext A h h1) A' ρ1 ρ'->ρ' h1.next=w1.heap.size->A' h1.next->BR P A' ρ' (w1.alloc (.loop ⟨.ready,none,fn,a.tmps,ps,x,y,ρ1 d⟩)) w1.heap.size (.loop .ready .norm tm ps.toList ca cb d):=fun A' ρ' m _ _=>
  ⟨m.sub d hAd,fn,a.tmps,x,y,by rw[m.eq d hAd];exact heap_alloc_new w1 _,hf1.tr.mo m (Lt.below (sW w1 _)),by rw[hf.sz];exact c1,by rw[hf.sz];exact c2,by rw[hf.sz];exact hn,fun u hu=>by rw[hf.sz];exact hps u hu⟩
 have p2:=oU p1.rel e2 hd2 (sW w1 (.loop ⟨.ready,none,fn,a.tmps,ps,x,y,ρ1 d⟩)) (af _) aU hB;have hL:at' ρ1 h1.next w1.heap.size h1.next=w1.heap.size:=by unfold at';rw[an rfl]
 have hAL:Ext (Ext A h h1) h1 h2 h1.next:=.inr ⟨af _,by have:=(dX e2).1;omega⟩
 have hfv:=hf.tr.op f;unfold OpV at hfv;rw[ef]at hfv;have hfv2:=VR.mo (p2.mo hd2) p2.lt _ _ (VR.mo (p1.mo hd1) p1.lt _ _ hfv);have hcall:=hR _ _ _ _ _ e3 g2.wf _ _ _ _ #[.func (.yield w1.heap.size) #[] #[]] p2.rel hd3 hfv2 (by
  simp only[VRl,VR];exact⟨_,[],rfl,⟨hAL,by rw[hL]⟩,rfl⟩)
 obtain⟨dd,hdd,hk⟩:=hcall;have hk':∃f' args',(invoke dd.target dd.args).run P (w1.alloc (.loop ⟨.ready,none,fn,a.tmps,ps,x,y,ρ1 d⟩))= .ok (.enter f' args') (w1.alloc (.loop ⟨.ready,none,fn,a.tmps,ps,x,y,ρ1 d⟩))/\CallsIn Fence.wide 0 P f' args' (w1.alloc (.loop ⟨.ready,none,fn,a.tmps,ps,x,y,ρ1 d⟩)) (kp P (Ext (Ext A h h1) h1 h2) (at' ρ1 h1.next w1.heap.size) (w1.alloc (.loop ⟨.ready,none,fn,a.tmps,ps,x,y,ρ1 d⟩)) h2 c3 h3):=by
  rcases hk with⟨f',args',q1,q2⟩|⟨l,g',tmps,s,b,q0,_⟩
  ·exact⟨f',args',q1,q2⟩
  ·simp only[VR]at hfv;obtain⟨us,e5,_⟩:=hfv;rw[e5]at q0;cases q0
 obtain⟨f',args',q1,q2⟩:=hk';refine⟨w1.heap.size,mark,_,dd,_,f',args',_,henter fn,?_,fun _ _=>hFC.fn _,q1,hFC.depth,(hFC.calls q2).mono fun e5 w3 hpost=>?_⟩
 ·simp only[resolve,qa,fA,jq];exact hdd
 obtain⟨u,ρ3,rfl,p3,_⟩:=hpost;have hr3:ρ3 h1.next=w1.heap.size:=by rw[p3.rho h1.next (.inl (by have:=(dX e2).1;omega)),hL]
 obtain⟨_,_,_,hAd2,fn',tmps',x',y',hh,hTR,hrest⟩:=p3.rel.blk h1.next _ hb3
 have hnb:BJ st≠ .busy:=fun e=>by
  cases st<;>simp[BJ]at e;exact hst rfl
 have hend:=run_endLoop (P:=P) hh hnb;refine⟨sU p,_,by rw[<-hr3];exact hend,?_⟩;have hlt4:Lt w3 (w3.putObj (ρ3 h1.next) (.loop ⟨.exhausted,sU p,fn',tmps',ps2.toArray,x',y',ρ3 d2⟩)):=Lt.chg (g:=ρ3 h1.next) ⟨rfl,rfl,rfl,by simp,fun j _ hj=>World.putObj_heap_other hj⟩ (AJ hh aU) (fun s hs=>by rw[rT hh aU]at hs;cases hs);have hpo:=vd (o':=.loop ⟨.exhausted,sU p,fn',tmps',ps2.toArray,x',y',ρ3 d2⟩) (b:=.loop .wD p tm2 ps2 a2 b2 d2) p3.rel hb3 hh aU ⟨hAd2,fn',tmps',x',y',World.putObj_heap_same (iG.1 hh).1,hTR.mo (Mo.refl _ _) hlt4,hrest⟩;have pAll:=p1.trans g1.good (p2.trans g2.good (p3.trans g3.good hpo g4.good) (g3.good.trans g4.good)) (g2.good.trans (g3.good.trans g4.good));have pT:=p2.trans g2.good (p3.trans g3.good hpo g4.good) (g3.good.trans g4.good);have hdT:Dj (Ext A h h1) h1 (h3.set h1.next (some (.loop .wD p tm2 ps2 a2 b2 d2))):=hd.right g1.good.next
 have hfE:Fr P (Ext A h (h3.set h1.next (some (.loop .wD p tm2 ps2 a2 b2 d2)))) ρ3 (w3.putObj (ρ3 h1.next) (.loop ⟨.exhausted,sU p,fn',tmps',ps2.toArray,x',y',ρ3 d2⟩)) n ds1 tm {a with defers:=mark++a.defers}:=by
  have hmo:Mo (Ext A h h1) (Ext A h (h3.set h1.next (some (.loop .wD p tm2 ps2 a2 b2 d2)))) ρ1 ρ3:=⟨fun k hk=>(Ext.trans g1.good.next (aB g2.good.next (aB g3.good.next g4.good.next)) k).1 ((pT.mo hdT).sub k hk),(pT.mo hdT).eq⟩;refine Fr.mo hmo pT.lt ⟨hf1.tr,hf.sz,hds1,hmark⟩
 cases p with
 |norm=>exact⟨trivial,ρ3,pAll,hfE⟩
 |ret=>exact wpIn_ret ⟨trivial,ρ3,pAll,hfE⟩
 |exit id=>exact wpIn_exit ⟨rfl,ρ3,pAll,hfE⟩
end CI
end
section
open Go.RowKit
namespace CI
variable {P : Program} {A A' : Nat->Prop} {ρ ρ' : Nat->Nat} {w w' : World} {tm tm' : Tm} {a : Act} {c : C} {h h' h'' : H} {rec : Rec} {E : Env} {n : Nat} {ds ds' : List Nat}
theorem ev_e(u:Nat):CO.ev (T.e:Tm) (CO.t u)= .any:=by simp[CO.ev,T.Bb]
theorem Bc:∀(l:List C) (k:Nat) (tm:Tm) (u:Nat),k+l.length<=1000000->CO.ev (setArgs 24 k l tm) (CO.t u)=if k<=u/\u<k+l.length then(l[u-k]?).getD .any else CO.ev tm (CO.t u)
 |[],k,tm,u,_=>by
  simp only[setArgs,gW,bZ];rw[aj aa]
 |c::l,k,tm,u,hk=>by
  simp only[setArgs,iD]at hk⊢;rw[Bc l (k+1) _ u aa,Be aa];by_cases h1:k+1<=u/\u<k+1+l.length
  ·rw[an h1,an aa,show u-k=(u-(k+1))+1 by omega,List.getElem?_cons_succ]
  ·rw[aj h1];by_cases h2:u=k
   ·subst h2;rw[an rfl,an aa,eR];rfl
   ·rw[aj h2,aj aa]
theorem VRl.len:∀{l:List C} {vs:List Value},VRl P A ρ w l vs->vs.length=l.length
 |[],_,h=>by simp only[VRl]at h;subst h;rfl
 |d::l,vs,h=>by
  simp only[VRl]at h;obtain⟨u,rest,rfl,_,h3⟩:=h;simp[VRl.len h3]
theorem VRl.app{l2:List C}{ys:List Value}(k:VRl P A ρ w l2 ys):∀{l:List C} {xs:List Value},VRl P A ρ w l xs->VRl P A ρ w (l++l2) (xs++ys)
 |[],_,h=>by simp only[VRl]at h;subst h;exact k
 |d::l,xs,h=>by
  simp only[VRl]at h;obtain⟨u,rest,rfl,h2,h3⟩:=h;simp only[uJ,VRl];exact⟨u,rest++ys,rfl,h2,VRl.app k h3⟩
theorem UW{l:List C}{vs:Array Value}(hv:VRl P A ρ w l vs.toList)(hl:l.length<=n)(hn:n<1000000):Fr P A ρ w n [] (setArgs 24 0 l .e) {tmps:=vs++Array.replicate (n-vs.size) undef,defers:=[]}:=by
 have hlen:vs.size=l.length:=by rw[<-hv.len,bX]
 refine⟨fun u=>?_,cU,(fun k hk=>by cases hk),rfl⟩;rw[Bc l 0 .e u aa];split
 ·next hu=>
  simp only[bw]at hu;obtain⟨u',k1,k2⟩:=VRl.at hv (aV (show u-0<l.length by omega));rw[lv]at k1⊢;have e:(vs++Array.replicate (n-vs.size) undef).getD u undef=u':=by
   rw[cS,qB aa,<-eL,k1];rfl
  rw[e,aV aa];simpa using k2
 ·rw[ev_e];simp only[VR]
def DQ(tmps:Array Value)(r:ResultVar):Sem Value:=
 match r with
 | .tmp t=>pure (tmps.getD t undef)
 | .cell a t=>do loadVar t (<-asAddr (tmps.getD a undef))
theorem KB(fn:Func)(tmps:Array Value):Go.results fn tmps=(do
 let vs<-fn.results.mapM (DQ tmps)
 pure (if h:vs.size=1 then vs[0]else .tuple vs)):=rfl
theorem Hh{fn:Func}{rvs:List RV}{rs:List C}(hr:uW P fn.results.toList=some rvs)(he:results tm h rvs=some rs)(t:Rel P A ρ w h){tmps:Array Value}(hf:TR P A ρ w tm tmps):∃v,(Go.results fn tmps).run P w= .ok v w/\VR P A ρ w (wz rs) v:=by
 have key:∀(l:List ResultVar) (rvs:List RV) (rs:List C),uW P l=some rvs->results tm h rvs=some rs->∃vs,(l.mapM (m:=Sem) (DQ tmps)).run P w= .ok vs w/\VRl P A ρ w rs vs:=by
  intro l
  induction l with
  |nil=>
   intro rvs rs h1 h2;simp only[uW,ak]at h1;subst h1;simp only[results,ak]at h2;subst h2;exact⟨[],by simp,by simp only[VRl]⟩
  |cons r l ih=>
   intro rvs rs h1 h2;simp only[uW]at h1;obtain⟨rv,e1,h1⟩:=aK h1;obtain⟨rvs',e2,rfl⟩:=aJ h1
   cases r with
   |tmp u=>
    simp only[rvOf,ak]at e1;subst e1;simp only[results]at h2;obtain⟨rs',e3,rfl⟩:=aJ h2;obtain⟨vs,k1,k2⟩:=ih _ _ e2 e3;refine⟨tmps.getD u undef::vs,by rw[List.mapM_cons];simp only[DQ,Sem.run_bind,Sem.run_pure,Result.andThen_ok,k1],?_⟩;simp only[VRl];exact⟨_,vs,rfl,hf u,k2⟩
   |cell u ty=>
    simp only[rvOf]at e1;obtain⟨s,e4,e1⟩:=aK e1;obtain⟨r',e5,rfl⟩:=aJ e1;simp only[results]at h2;obtain⟨c,e6,h2⟩:=aK h2;obtain⟨rs',e3,rfl⟩:=aJ h2;obtain⟨vs,k1,k2⟩:=ih _ _ e2 e3;have hu:=hf u;unfold Ae at e6;split at e6
    ·next k off e7=>
     rw[e7]at hu;simp only[VR]at hu;split at e6
     ·next T l hb=>
      obtain⟨p,e8,e9⟩:=aK e6;obtain⟨v,k3,k4⟩:=A3 t hb e8 e9 e5 e4;refine⟨v::vs,?_,?_⟩
      ·have ha:(asAddr (tmps.getD u undef)).run P w= .ok ⟨ρ k,off,none⟩ w:=by rw[hu.2];rfl
       have hrv:(DQ tmps (.cell u ty)).run P w= .ok v w:=by
        show(asAddr (tmps.getD u undef)>>=loadVar ty).run P w=_;rw[Sem.run_bind,ha,Result.andThen_ok,k3]
       rw[List.mapM_cons];simp only[Sem.run_bind,Sem.run_pure,Result.andThen_ok,hrv,k1]
      ·simp only[VRl];exact⟨v,vs,rfl,k4,k2⟩
     ·cases e6
    ·cases e6
 obtain⟨vs,k1,k2⟩:=key _ _ _ hr he;have hrun:(Go.results fn tmps).run P w= .ok (if h:vs.toArray.size=1 then vs.toArray[0]else .tuple vs.toArray) w:=by
  rw[KB,Array.mapM_eq_mapM_toList];simp only[Sem.run_bind,map_eq_pure_bind,k1,Result.andThen_ok,Sem.run_pure]
 refine⟨_,hrun,?_⟩
 match rs,vs,k2 with
 |[],vs,k2=>
  simp only[VRl]at k2;subst k2;simp only[wz,VR];exact⟨#[],by simp,by simp only[VRl]⟩
 |[c],vs,k2=>
  simp only[VRl]at k2;obtain⟨u,_,rfl,k3,rfl⟩:=k2;simpa[wz]using k3
 |c1::c2::rs,vs,k2=>
  have hl:=k2.len;simp only[wz,VR];refine⟨vs.toArray,?_,by simpa using k2⟩;rw[dif_neg (by simp at hl⊢;omega)]
theorem GS{F:Fence}{fn:Func}{tmps:Array Value}{R:Ending->World->Prop}:∀(ds:List Nat) (w:World) (h h':H),mM ds h=some h'->Wf h->Rel P A ρ w h->(∀w',cR P A ρ w h ρ w' h'->∃v,(Go.results fn tmps).run P w'= .ok v w'/\R (.returned v) w')->LeavesInM F 0 P fn tmps R (ds.map (wS ρ)) .returning w
 |[],w,h,h',e,_,t,hk=>by
  simp only[mM,ak]at e;subst e;exact hk w (cR.refl t)
 |k::l,w,h,h',e,fh,t,hk=>by
  simp only[mM]at e;split at e
  ·next hb=>
   obtain⟨_,_,hlt,hB⟩:=t.blk k _ hb;simp only[BR,if_true]at hB;have hpo:=vd (o':=.deferred none) (b:=.defd false) t hb hB aU (by
    show(w.putObj (ρ k) (.deferred none)).heap[ρ k]?=_;rw[World.putObj_heap_same hlt];rfl)
   have g1:=lB (b:=some (.defd false)) fh (bJ hb);have g2:=sE _ _ _ e g1.wf;have hrel:Rel P A ρ (w.putObj (ρ k) (.deferred none)) (h.set k (some (.defd false))):=hpo.rel.mo ⟨fun j hj=>hj.resolve_right (fun q=>by
    have:(h.set k (some (B.defd false))).next=h.next:=rfl
    omega),fun _ _=>rfl⟩ (Lt.refl _) (fun _ _=>rfl)
   simp only[fA];unfold LeavesInM;refine⟨by simp,.inl ⟨ρ k,_,rfl,run_takeDeferred hB,GS l _ _ h' e g1.wf hrel fun w2 hp=>hk w2 (hpo.trans g1.good ⟨hp.rho,hp.rel.mo ⟨fun j hj=>hj.imp (fun q=>.inl q) id,fun _ _=>rfl⟩ (Lt.refl _) (fun _ _=>rfl),hp.lt,hp.fr,hp.new⟩ g2.good)⟩⟩
  ·cases e
def Bm(P:Program)(E:Env):Prop:=∀g f,E.orc g=some f->∀args r,f args=some r->∀A ρ w vs,VRl P A ρ w args vs.toList->
 Enters P g/\Calls P g vs w (fun e w'=>∃u,e= .returned u/\VR P A ρ w' r u/\Below w.heap.size w w')
theorem Fl:∀(ps:List Nat) (args:List C) (tm tm2:Tm) (vs:List Value) (tmps:Array Value),rU ps args tm=some tm2->TR P A ρ w tm tmps->VRl P A ρ w args vs->(∀t∈ps,t<tmps.size)->tmps.size<1000000->
  TR P A ρ w tm2 ((ps.zip vs).foldl (fun (tmps:Array Value) (p:Nat×Value)=>tmps.setIfInBounds p.1 p.2) tmps)/\((ps.zip vs).foldl (fun (tmps:Array Value) (p:Nat×Value)=>tmps.setIfInBounds p.1 p.2) tmps).size=tmps.size/\vs.length=ps.length
 |[],[],tm,tm2,vs,tmps,e,hT,hv,_,_=>by
  simp only[rU,ak]at e;subst e;simp only[VRl]at hv;subst hv;exact⟨hT,rfl,rfl⟩
 |t::ps,c::args,tm,tm2,vs,tmps,e,hT,hv,hp,hs=>by
  simp only[rU]at e;simp only[VRl]at hv;obtain⟨u,rest,rfl,h2,h3⟩:=hv;have ht:=hp t bn;obtain⟨k1,k2,k3⟩:=Fl ps args _ tm2 rest (tmps.setIfInBounds t u) e (hT.put ht aa h2) h3 (fun t' ht'=>by simpa using hp t' (bu _ ht')) (by simpa using hs);exact⟨k1,by rw[List.zip_cons_cons,List.foldl_cons,k2];simp,by simp[k3]⟩
 |[],_::_,_,_,_,_,e,_,_,_,_=>by simp[rU]at e
 |_::_,[],_,_,_,_,e,_,_,_,_=>by simp[rU]at e
end CI
end
section
open Go.RowKit
namespace CI
variable {P : Program} {A A' : Nat->Prop} {ρ ρ' : Nat->Nat} {w w' : World} {tm tm' : Tm} {a : Act} {c : C} {h h' h'' : H} {rec : Rec} {E : Env} {n : Nat} {ds ds' : List Nat}
theorem Lh {g : FuncId} {fn : F} (h : sD P g = some fn) : ∃ f c, P.funcs[g]? = some f ∧ f.body = some c ∧ f.ntmps < 1000000 ∧ (f.name == "runtime.NumGoroutine") = false ∧ comp P f.ntmps c = some fn.body ∧ uW P f.results.toList = some fn.res ∧ fn.ntmps = f.ntmps := by
 unfold sD at h;obtain⟨f,e1,h⟩:=aK h;obtain⟨c,e2,h⟩:=aK h;split at h
 ·next hb=>
  simp only[eH,vS]at hb;obtain⟨cc,e3,h⟩:=aK h;obtain⟨r,e4,rfl⟩:=aJ h;exact⟨f,c,e1,e2,by simpa[bB]using hb.1,hb.2,e3,e4,rfl⟩
 ·cases h
theorem wJ{g:FuncId}(hE:Enters P g)(vs us:Array Value)(w:World):∃d,(Deferred.ofValue (.func (.func g) #[] us) vs).run P w= .ok d w/\(invoke d.target d.args).run P w= .ok (.enter g (vs++us)) w:=by
 refine⟨{target:=.fn (.func g) us,args:=#[]++vs},by simp[Deferred.ofValue],?_⟩;have:=hE (vs++us) w;simp[invoke,this]
theorem VR.ext{v:Value}(h:VR P A ρ w c v){h1 h2:H}:VR P (Ext A h1 h2) ρ w c v:=VR.mo ⟨fun _ hk=>.inl hk,fun _ _=>rfl⟩ (Lt.refl _) _ _ h
theorem VE(hO:Bm P E){g:FuncId}{o:Orc}{args caps:List C}{r:C}{fv:Value}{vs:Array Value}(he:E.orc g=some o)(hr:o (args++caps)=some r)(t:Rel P A ρ w h)(hv:VR P A ρ w (.fn g caps) fv)(hvs:VRl P A ρ w args vs.toList):Bp P fv vs w (kp P A ρ w h r h):=by
 simp only[VR]at hv;obtain⟨us,rfl,hus⟩:=hv;obtain⟨hE,hC⟩:=hO g o he _ r hr A ρ w (vs++us) (by rw[vR];exact VRl.app hus hvs);obtain⟨d,e1,e2⟩:=wJ hE vs us w;refine⟨d,e1,.inl ⟨g,vs++us,e2,callsIn_wide.2 (hC.mono fun e w' ⟨u,h1,h2,h3⟩=>?_)⟩⟩;have hp:=cR.below t h3;exact⟨u,ρ,h1,hp,h2.ext⟩
theorem fn_ok(hC:rE P rec)(hG:wY rec){g:FuncId}{fn:F}{args caps:List C}{tm1:Tm}{ds1:List Nat}{h1 h2:H}{e:Ex}{rs:List C}{fv:Value}{vs:Array Value}(hf:sD P g=some fn)(hl:(args++caps).length<=fn.ntmps)
  (hr:rec (.code fn.body (setArgs 24 0 (args++caps) .e) [] none h)=some (.code e tm1 ds1 h1)) (hne:∀i,e≠ .exit i) (hcl:mM ds1 h1=some h2) (hrs:results tm1 h2 fn.res=some rs) (fh:Wf h) (t:Rel P A ρ w h) (hd:Dj A h h2) (hv:VR P A ρ w (.fn g caps) fv) (hvs:VRl P A ρ w args vs.toList):Bp P fv vs w (kp P A ρ w h (wz rs) h2):=by
 simp only[VR]at hv;obtain⟨us,rfl,hus⟩:=hv;obtain⟨f,c,e1,e2,e3,e4,e5,e6,e7⟩:=Lh hf;obtain⟨d,k1,k2⟩:=wJ (enters_of e1 e4 e2) vs us w;have hall:VRl P A ρ w (args++caps) (vs++us).toList:=by rw[vR];exact VRl.app hus hvs
 rw[e7]at hl;have hfr:=UW hall hl e3;have g1:=hG _ _ _ _ _ _ _ _ _ hr fh;have g2:=sE _ _ _ hcl g1.wf;have hw:=hC _ _ _ _ _ _ _ _ _ hr fh f.ntmps c A ρ w _ e5 e3 t (hd.left g2.good.next) hfr (fun l hl=>by cases hl);refine⟨d,k1,.inl ⟨g,vs++us,k2,callsIn_of_wp_marks e1 e2 trivial (wpIn_mono hw fun e' a' w' q=>?_)⟩⟩;obtain⟨q1,ρ1,p1,f1⟩:=q;have hfin:LeavesInM Fence.wide 0 P f a'.tmps (kp P A ρ w h (wz rs) h2) a'.defers .returning w':=by
  rw[f1.df];refine GS ds1 w' h1 h2 hcl g1.wf p1.rel fun w2 p2=>?_;have hd2:Dj (Ext A h h1) h1 h2:=hd.right g1.good.next
  have pAll:=p1.trans g1.good p2 g2.good;obtain⟨v,r1,r2⟩:=Hh e6 hrs pAll.rel (fun u=>VR.mo (Mo.ext g1.good.next g2.good.next _) (Lt.refl _) _ _ (VR.mo (p2.mo hd2) p2.lt _ _ (f1.tr u)));exact⟨v,r1,v,ρ1,rfl,pAll,r2⟩
 cases e with
 |norm=>rw[vt q1];exact hfin
 |ret=>
  cases e'<;>simp[exM]at q1;exact hfin
 |exit i=>exact absurd rfl (hne i)
theorem yl_ok(hC:rE P rec)(hG:wY rec){l:Nat}{p0 p1:Ex}{tm0 tm1 tm2 tm3 tm4:Tm}{ps ps1:List Nat}{ca cb a1 b1:CC}{d0 d1:Nat}{args:List C}{h1 h2 h3:H}{e:Ex}{fv:Value}{vs:Array Value}
  (hb0:h.get l=some (.loop .ready p0 tm0 ps ca cb d0)) (hps:rU ps args tm0=some tm1) (hr1:rec (.code ca tm1 [] (some l) h)=some (.code .norm tm2 [] h1)) (hb1:h1.get l=some (.loop .ready p1 tm3 ps1 a1 b1 d1))
  (hr2:rec (.code cb tm2 [] (some l) (h1.set l (some (.loop .busy p1 tm3 ps1 a1 b1 d1))))=some (.code e tm4 [] h2)) (hend:Gn l e h2=some (c,h3)) (fh:Wf h) (t:Rel P A ρ w h) (hd:Dj A h h3) (hv:VR P A ρ w (.yl l) fv) (hvs:VRl P A ρ w args vs.toList):Bp P fv vs w (kp P A ρ w h c h3):=by
 simp only[VR]at hv;obtain⟨hA,rfl⟩:=hv;obtain⟨_,_,_,hAd,fn,tmps,x,y,hh,hTR,c1,c2,hsz,hpl⟩:=t.blk l _ hb0;obtain⟨k1,k2,k3⟩:=Fl ps args tm0 tm1 vs.toList tmps hps hTR hvs hpl hsz;have g1:=hG _ _ _ _ _ _ _ _ _ hr1 fh;have g2:=lB (b:=some (B.loop .busy p1 tm3 ps1 a1 b1 d1)) g1.wf (bJ hb1);have g3:=hG _ _ _ _ _ _ _ _ _ hr2 g2.wf;have g4:=I8 hend g3.wf;have hds:Dj (Ext A h h1) h1 h3:=hd.right g1.good.next
 refine⟨{target:=.fn (.yield (ρ l)) #[],args:=#[]++vs},by simp[Deferred.ofValue],.inr ⟨ρ l,fn,(ps.toArray.zip vs).foldl (fun (tmps:Array Value) (x:Tmp×Value)=>tmps.setIfInBounds x.1 x.2) tmps,x,y,rfl,?_,?_⟩⟩
 ·have hy:=run_yield (P:=P) (args:=vs) hh (by simp[<-k3]);simp only[Array.empty_append,invoke];exact hy
 refine roundIn_of_wpIn (F:=Fence.wide) trivial ?_;have hfold:((ps.toArray.zip vs).foldl (fun (tmps:Array Value) (x:Tmp×Value)=>tmps.setIfInBounds x.1 x.2) tmps)=((ps.zip vs.toList).foldl (fun (tmps:Array Value) (p:Nat×Value)=>tmps.setIfInBounds p.1 p.2) tmps):=by
  rw[<-EH,Array.toList_zip]
 have hfr:Fr P A ρ w tmps.size [] tm1 {tmps:=(ps.toArray.zip vs).foldl (fun (tmps:Array Value) (x:Tmp×Value)=>tmps.setIfInBounds x.1 x.2) tmps,defers:=[]}:=
  ⟨by rw[hfold];exact k1,by rw[hfold];exact k2,(fun k hk=>by cases hk),rfl⟩
 have hw1:=hC _ _ _ _ _ _ _ _ _ hr1 fh tmps.size x A ρ w _ c1 hsz t (hd.left (aB g2.good.next (aB g3.good.next g4.good.next))) hfr (fun l' hl=>by cases hl;exact hA);refine tJ hw1 (fun _ ρ1 w1 aa1 q1 f1=>?_) (fun he=>absurd rfl he);have hρ1:ρ1 l=ρ l:=q1.rho l (.inl (t.live (bJ hb0)).1);obtain⟨_,_,_,hAd1,fn1,tmps1,x1,y1,hh1,hTR1,hrest1⟩:=q1.rel.blk l _ hb1;have hbeg:=run_beginRound (P:=P) hh1 rfl;refine⟨_,by rw[<-hρ1];exact hbeg,?_⟩;have hlt1:Lt w1 (w1.putObj (ρ1 l) (.loop ⟨.busy,sU p1,fn1,tmps1,ps1.toArray,x1,y1,ρ1 d1⟩)):=Lt.chg (g:=ρ1 l) ⟨rfl,rfl,rfl,by simp,fun j _ hj=>World.putObj_heap_other hj⟩ (AJ hh1 aU) (fun s hs=>by rw[rT hh1 aU]at hs;cases hs);have q2:=vd (o':=.loop ⟨.busy,sU p1,fn1,tmps1,ps1.toArray,x1,y1,ρ1 d1⟩) (b:=.loop .busy p1 tm3 ps1 a1 b1 d1) q1.rel hb1 hh1 aU ⟨hAd1,fn1,tmps1,x1,y1,World.putObj_heap_same (iG.1 hh1).1,hTR1.mo (Mo.refl _ _) hlt1,hrest1⟩;have hd2:Dj (Ext (Ext A h h1) h1 (h1.set l (some (B.loop .busy p1 tm3 ps1 a1 b1 d1)))) (h1.set l (some (B.loop .busy p1 tm3 ps1 a1 b1 d1))) h3:=hds.right g2.good.next
 have f2:=f1.mo (q2.mo (hds.left (aB g3.good.next g4.good.next))) q2.lt;have hw2:=hC _ _ _ _ _ _ _ _ _ hr2 g2.wf tmps.size y _ ρ1 _ _ c2 hsz q2.rel (hd2.left g4.good.next) f2 (fun l' hl=>by cases hl;exact .inl (.inl hA));have hfc:fc (some l) ρ1=Fence.wide.inRound (ρ l):=by simp only[fc,hρ1]
 rw[hfc]at hw2;refine wpIn_mono hw2 fun e' a' w2 q=>?_;obtain⟨q3,ρ3,p3,f3⟩:=q;have hl1:l<h1.next:=(q1.rel.live (bJ hb1)).1
 have hρ3:ρ3 l=ρ l:=by rw[p3.rho l (.inl hl1),hρ1]
 have q12:=q1.trans g1.good (q2.trans g2.good p3 g3.good) (g2.good.trans g3.good);have g123:=g1.trans (g2.trans g3);have hd3:Dj (Ext A h h2) h2 h3:=hd.right g123.good.next
 unfold Gn at hend;split at hend
 ·next p5 tm5 ps5 a5 b5 d5 hb5=>
  obtain⟨_,_,_,hAd5,fn5,tmps5,x5,y5,hh5,hTR5,hrest5⟩:=q12.rel.blk l _ hb5;have fin:∀(jump:Option Code) (st:LS) (ex:Ex),sU ex=jump->BJ st=(if jump.isNone then .ready else .done)->h3=h2.set l (some (.loop st ex tm5 ps5 a5 b5 d5))->c= .sc (.bool jump.isNone)->∃v w',(Instr.endRound (ρ l) jump).run P w2= .ok v w'/\kp P A ρ w h c h3 (.returned v) w':=by
   rintro jump st ex hj hs rfl rfl;have hrun:=run_endRound (P:=P) jump hh5;rw[hρ3]at hrun;refine⟨_,_,hrun,.bool jump.isNone,ρ3,rfl,?_,jT rfl⟩;have hlt5:Lt w2 (w2.putObj (ρ3 l) (.loop ⟨BJ st,sU ex,fn5,tmps5,ps5.toArray,x5,y5,ρ3 d5⟩)):=Lt.chg (g:=ρ3 l) ⟨rfl,rfl,rfl,by simp,fun j _ hj=>World.putObj_heap_other hj⟩ (AJ hh5 aU) (fun s hs=>by rw[rT hh5 aU]at hs;cases hs);have q5:=vd (o':=.loop ⟨BJ st,sU ex,fn5,tmps5,ps5.toArray,x5,y5,ρ3 d5⟩) (b:=.loop st ex tm5 ps5 a5 b5 d5) q12.rel hb5 hh5 aU ⟨hAd5,fn5,tmps5,x5,y5,World.putObj_heap_same (iG.1 hh5).1,hTR5.mo (Mo.refl _ _) hlt5,hrest5⟩;have:=q12.trans g123.good q5 g4.good;rw[hρ3,hj,hs]at this;exact this
  cases e with
  |norm=>
   simp only[ak,aR]at hend;rw[vt q3];exact fin none .ready .norm rfl rfl hend.2.symm hend.1.symm
  |ret=>
   simp only[ak,aR]at hend;cases e'<;>simp[exM]at q3;exact fin (some .ret) .done .ret rfl rfl hend.2.symm hend.1.symm
  |exit i=>
   simp only[ak,aR]at hend;cases e'<;>simp[exM]at q3;subst q3;exact fin (some (.exit i)) .done (.exit i) rfl rfl hend.2.symm hend.1.symm
 ·cases hend
theorem Vw{N:Nat}(hO:Bm P E)(hfn:E.fns=sD P)(hC:rE P (run E N)):oI P (run E (N+1)):=by
 intro f args h c h' ee fh A ρ w fv vs t hd hv hvs;have hG:=(tO E N).2;simp only[run,body]at ee;split at ee
 ·next g caps=>
  split at ee
  ·next o ho=>
   obtain⟨r,e1,e2⟩:=aJ ee;simp only[Out.val.injEq]at e2;obtain⟨rfl,rfl⟩:=e2;exact VE hO ho e1 t hv hvs
  ·split at ee
   ·next fn hfn'=>
    split at ee
    ·cases ee
    ·next hl=>
     split at ee
     ·next e tm1 ds1 h1 hr=>
      have key:(∀i,e≠ .exit i)/\∃h2 rs,mM ds1 h1=some h2/\results tm1 h2 fn.res=some rs/\c=wz rs/\h'=h2:=by
       split at ee
       ·cases ee
       ·next hne=>
        obtain⟨h2,e1,ee⟩:=aK ee;obtain⟨rs,e2,e3⟩:=aJ ee;simp only[Out.val.injEq]at e3;exact⟨fun i hi=>hne i hi,h2,rs,e1,e2,e3.1.symm,e3.2.symm⟩
      obtain⟨hne,h2,rs,e1,e2,rfl,rfl⟩:=key;rw[hfn]at hfn';exact fn_ok hC hG hfn' (gg hl) hr hne e1 e2 fh t hd hv hvs
     ·cases ee
   ·cases ee
 ·next l=>
  split at ee
  ·next p0 tm0 ps ca cb d0 hb0=>
   split at ee
   ·next tm1 hps=>
    split at ee
    ·next tm2 h1 hr1=>
     split at ee
     ·next p1 tm3 ps1 a1 b1 d1 hb1=>
      split at ee
      ·next e tm4 h2 hr2=>
       obtain⟨⟨c',h3⟩,e1,e2⟩:=aJ ee;simp only[Out.val.injEq]at e2;obtain⟨rfl,rfl⟩:=e2;exact yl_ok hC hG hb0 hps hr1 hb1 hr2 e1 fh t hd hv hvs
      ·cases ee
     ·cases ee
    ·cases ee
   ·cases ee
  ·cases ee
 ·cases ee
theorem Vq(hO:Bm P E)(hfn:E.fns=sD P)(hD:∀rec,oI P rec->fS rec->G7 P rec):∀N,oI P (run E N)/\rE P (run E N):=fun N=>by
 induction N using Nat.strongRecOn with
 |_ N ih=>
  cases N with
  |zero=>exact⟨fun _ _ _ _ _ e=>by simp[run]at e,fun _ _ _ _ _ _ _ _ _ e=>by simp[run]at e⟩
  |succ N=>
   have hR:∀m,m<=N->oI P (run E m):=fun m hm=>(ih m (Nat.lt_succ_of_le hm)).1;have hC:∀m,m<=N->rE P (run E m):=fun m hm=>(ih m (Nat.lt_succ_of_le hm)).2;exact⟨Vw hO hfn (hC N (af _)),UM hR hC (fun m hm=>hD _ (hR m hm) (tO E m).1) (Pn (hR N (af _)))⟩
end CI
end
section
open Go.RowKit
namespace CI
variable {P : Program} {h h' : H} {tm tm' : Tm} {rec : Rec} {n : Nat}
structure SD where
 tm:Tm
 h:H
 iv:List (Nat×Nat×Nat)
 rw:List (Nat×Bool)
 v:C
 wr:Bool
 rd:Bool
def qf(rec:Rec)(j:Nat)(o:RO)(s:SD):Option SD:=
 match lY o s.tm with
 |some false=>some ⟨lD s.tm o.dst .any,s.h,s.iv,s.rw,.any,false,false⟩
 |some true=>match o.x.isT with
  |true=>(xT o.x s.tm s.h.next).bind fun p=>(s.h.oH p.2).map fun h1=>⟨lD s.tm o.dst p.1,h1,(match p.2 with|none=>s.iv|some _=>(j,s.h.next,h1.next)::s.iv),s.rw,p.1,false,false⟩
  |false=>(xR rec o.x s.tm (s.h.part o.pre s.iv)).bind fun p=>match vC o.pre (Nat.blt p.2.low s.h.next) s.rw with
   |true=>none
   |false=>some ⟨lD s.tm o.dst p.1,s.h.whole p.2,(match Nat.blt s.h.next p.2.next with|true=>(j,s.h.next,p.2.next)::s.iv|false=>s.iv),(j,Nat.blt p.2.low s.h.next)::s.rw,p.1,Nat.blt p.2.low s.h.next,true⟩
 |none=>none
theorem Mu{o:RO}{l:List RO}{j:Nat}{s:SD}(e:kV rec (o::l) j s.iv s.rw s.tm s.h=some (tm',h')):∃s1,qf rec j o s=some s1/\kV rec l (j+1) s1.iv s1.rw s1.tm s1.h=some (tm',h'):=by
 rcases CG e with⟨h1,e⟩|⟨h1,h2,c,ob,h3,e1,e2,e⟩|⟨h1,h2,c,h3,e1,e2,e⟩
 ·exact⟨⟨_,_,_,_,.any,false,false⟩,by simp only[qf,h1];rfl,e⟩
 ·exact⟨⟨_,_,_,_,c,false,false⟩,by simp only[qf,h1,h2,e1,tv,e2,cG];rfl,e⟩
 ·exact⟨⟨_,_,_,_,c,_,true⟩,by simp only[qf,h1,h2,e1,tv,e2];rfl,e⟩
def iZ(rec:Rec):List RO->Nat->SD->Option SD
 |[],_,s=>some s
 |o::l,j,s=>(qf rec j o s).bind (iZ rec l (j+1))
theorem CE:∀(l:List RO) (j:Nat) (s:SD),kV rec l j s.iv s.rw s.tm s.h=some (tm',h')->∃s1,iZ rec l j s=some s1/\s1.tm=tm'/\s1.h=h'
 |[],j,s,e=>by
  simp only[kV,ak,aR]at e;exact⟨s,rfl,e.1,e.2⟩
 |o::l,j,s,e=>by
  obtain⟨s1,e1,e2⟩:=Mu e;obtain⟨s2,e3,e4⟩:=CE l (j+1) s1 e2;exact⟨s2,by simp only[iZ,e1,tv,e3],e4⟩
theorem zd:∀(l1 l2:List RO) (j:Nat) (s s2:SD),iZ rec (l1++l2) j s=some s2->∃s1,iZ rec l1 j s=some s1/\iZ rec l2 (j+l1.length) s1=some s2
 |[],l2,j,s,s2,e=>⟨s,rfl,by simpa using e⟩
 |o::l1,l2,j,s,s2,e=>by
  simp only[uJ,iZ]at e;obtain⟨s1,e1,e2⟩:=aK e;obtain⟨s3,e3,e4⟩:=zd l1 l2 (j+1) s1 s2 e2;exact⟨s3,by simp only[iZ,e1,tv,e3],by rw[iD,show j+(l1.length+1)=j+1+l1.length by omega];exact e4⟩
structure Trace(rec:Rec)(r:List RO)(tm:Tm)(h:H)(tm':Tm)(h':H)(S:Nat->SD):Prop where
 tm0:(S 0).tm=tm
 h0:(S 0).h=h
 tmN:(S r.length).tm=tm'
 hN:(S r.length).h=h'
 iv0:(S 0).iv=[]
 step:∀i o,r[i]?=some o->qf rec i o (S i)=some (S (i+1))
theorem OM{r:List RO}(e:kV rec r 0 [] [] tm h=some (tm',h')):∃S,Trace rec r tm h tm' h' S:=by
 obtain⟨sN,e1,e2,e3⟩:=CE r 0 ⟨tm,h,[],[],.any,false,false⟩ e;have pre:∀i,∃s,iZ rec (r.take i) 0 ⟨tm,h,[],[],.any,false,false⟩=some s:=fun i=>by
  have e1':=e1;rw[<-rQ i r]at e1';obtain⟨s,e4,_⟩:=zd _ _ _ _ _ e1';exact⟨s,e4⟩
 have hS:∀i,iZ rec (r.take i) 0 ⟨tm,h,[],[],.any,false,false⟩=some ((iZ rec (r.take i) 0 ⟨tm,h,[],[],.any,false,false⟩).getD ⟨tm,h,[],[],.any,false,false⟩):=fun i=>by
  obtain⟨s,e4⟩:=pre i;rw[e4];rfl
 refine⟨fun i=>(iZ rec (r.take i) 0 ⟨tm,h,[],[],.any,false,false⟩).getD ⟨tm,h,[],[],.any,false,false⟩,by simp[iZ],by simp[iZ],?_,?_,by simp[iZ],fun i o ho=>?_⟩
 ·simp only[gf,e1,mE];exact e2
 ·simp only[gf,e1,mE];exact e3
 ·have hlt:=(ct.1 ho).1;have h1:=hS (i+1);have hti:r.take (i+1)=r.take i++[o]:=by
   rw[nX,ho];rfl
  have h2:=h1;rw[hti]at h2;obtain⟨s1,e4,e5⟩:=zd _ _ _ _ _ h2;simp only[iZ,aY,bw]at e5;obtain⟨s2,e6,e7⟩:=aK e5;simp only[ak]at e7;rw[dK aa]at e6;show qf rec i o ((iZ rec (r.take i) 0 ⟨tm,h,[],[],.any,false,false⟩).getD ⟨tm,h,[],[],.any,false,false⟩)=_;rw[e4,hti];show qf rec i o s1=_;rw[e6,e7]
section
variable {r : List RO} {S : Nat->SD}
theorem Trace.cases(t:Trace rec r tm h tm' h' S){i:Nat}{o:RO}(ho:r[i]?=some o):
  (S (i+1)).tm=lD (S i).tm o.dst (S (i+1)).v/\
  ((lY o (S i).tm=some false/\(S (i+1)).v= .any/\(S (i+1)).h=(S i).h/\(S (i+1)).wr=false/\(S (i+1)).rd=false/\(S (i+1)).iv=(S i).iv/\(S (i+1)).rw=(S i).rw)\/
   (lY o (S i).tm=some true/\o.x.isT=true/\(S (i+1)).wr=false/\(S (i+1)).rd=false/\(S (i+1)).rw=(S i).rw/\∃ob,xT o.x (S i).tm (S i).h.next=some ((S (i+1)).v,ob)/\(S i).h.oH ob=some (S (i+1)).h/\(S (i+1)).iv=(match ob with|none=>(S i).iv|some _=>(i,(S i).h.next,(S (i+1)).h.next)::(S i).iv))\/
   (lY o (S i).tm = some true /\ o.x.isT = false /\ (S (i + 1)).rd = true /\ ∃ h1, xR rec o.x (S i).tm ((S i).h.part o.pre (S i).iv) = some ((S (i + 1)).v, h1) /\ (S (i + 1)).h = (S i).h.whole h1 /\ (S (i + 1)).wr = Nat.blt h1.low (S i).h.next /\ vC o.pre (S (i + 1)).wr (S i).rw = false /\
      (S (i+1)).iv=(match Nat.blt (S i).h.next h1.next with|true=>(i,(S i).h.next,h1.next)::(S i).iv|false=>(S i).iv)/\(S (i+1)).rw=(i,(S (i+1)).wr)::(S i).rw)):=by
 have hs:=t.step i o ho;unfold qf at hs;split at hs
 ·next hw=>
  simp only[ak]at hs;rw[<-hs];exact⟨rfl, .inl ⟨hw,rfl,rfl,rfl,rfl,rfl,rfl⟩⟩
 ·next hw=>
  split at hs
  ·next hT=>
   obtain⟨⟨c,ob⟩,e1,hs⟩:=aK hs;obtain⟨h1,e2,hs⟩:=aJ hs;rw[<-hs];exact⟨rfl, .inr (.inl ⟨hw,hT,rfl,rfl,rfl,ob,e1,e2,rfl⟩)⟩
  ·next hT=>
   obtain⟨⟨c,h1⟩,e1,hs⟩:=aK hs;split at hs
   ·cases hs
   ·next hcl=>
    simp only[ak]at hs;rw[<-hs];exact⟨rfl, .inr (.inr ⟨hw,hT,rfl,h1,e1,rfl,rfl,hcl,rfl,rfl⟩)⟩
 ·cases hs
theorem Trace.gd(t:Trace rec r tm h tm' h' S)(hg:fS rec)(f:Wf h):∀i,i<=r.length->Wf (S i).h/\Gd h (S i).h
 |0,_=>by rw[t.h0];exact⟨f,Gd.refl f⟩
 |i+1,hi=>by
  obtain⟨o,ho⟩:∃o,r[i]?=some o:=⟨_,aV aa⟩;obtain⟨f1,g1⟩:=t.gd hg f i aa;have g2:Gd (S i).h (S (i+1)).h:=by
   rcases(t.cases ho).2 with⟨_,_,e,_⟩|⟨_,_,_,_,_,ob,_,e,_⟩|⟨_,_,_,h1,e1,e2,_⟩
   ·rw[e];exact Gd.refl f1
   ·exact uo f1 e
   ·rw[e2];exact B5 (rR hg (oS f1) e1)
  exact⟨g2.wf,g1.trans g2⟩
theorem Trace.gd1(t:Trace rec r tm h tm' h' S)(hg:fS rec)(f:Wf h){i:Nat}(hi:i<r.length):Gd (S i).h (S (i+1)).h:=by
 obtain⟨o,ho⟩:∃o,r[i]?=some o:=⟨_,aV hi⟩;have f1:=(t.gd hg f i aa).1;rcases(t.cases ho).2 with⟨_,_,e,_⟩|⟨_,_,_,_,_,ob,_,e,_⟩|⟨_,_,_,h1,e1,e2,_⟩
 ·rw[e];exact Gd.refl f1
 ·exact uo f1 e
 ·rw[e2];exact B5 (rR hg (oS f1) e1)
theorem Trace.gdm(t:Trace rec r tm h tm' h' S)(hg:fS rec)(f:Wf h):∀(k i:Nat),i+k<=r.length->Gd (S i).h (S (i+k)).h
 |0,i,hi=>Gd.refl (t.gd hg f i aa).1
 |k+1,i,hi=>(t.gdm hg f k i aa).trans (t.gd1 hg f aa)
theorem Trace.iv(t:Trace rec r tm h tm' h' S):∀i,i<=r.length->(∀x∈(S i).iv,∃q,q<i/\x=(q,(S q).h.next,(S (q+1)).h.next))/\(∀q,q<i->(S q).h.next<(S (q+1)).h.next->(q,(S q).h.next,(S (q+1)).h.next)∈(S i).iv)
 |0,_=>by
  rw[t.iv0];exact⟨fun x hx=>by simp at hx,fun q hq=>by omega⟩
 |i+1,hi=>by
  obtain⟨o,ho⟩:∃o,r[i]?=some o:=⟨_,aV aa⟩;obtain⟨k1,k2⟩:=t.iv i aa;have key:((S (i+1)).iv=(S i).iv/\¬(S i).h.next<(S (i+1)).h.next)\/(S (i+1)).iv=(i,(S i).h.next,(S (i+1)).h.next)::(S i).iv:=by
   rcases(t.cases ho).2 with⟨_,_,e,_,_,e2,_⟩|⟨_,_,_,_,_,ob,_,e,e2⟩|⟨_,_,_,h1,e1,e2,_,_,e3,_⟩
   ·exact .inl ⟨e2,by rw[e];omega⟩
   ·cases ob with
    |none=>
     simp only[H.oH,ak]at e;exact .inl ⟨e2,by rw[<-e];omega⟩
    |some b=>exact .inr e2
   ·have hn:(S (i+1)).h.next=h1.next:=by rw[e2];rfl
    rw[hn];split at e3
    ·exact .inr e3
    ·next hb=>
     refine .inl ⟨e3,fun hlt=>?_⟩;rw[<-bB]at hlt;rw[hlt]at hb;cases hb
  rcases key with⟨e,hlt⟩|e
  ·rw[e];exact⟨fun x hx=>by obtain⟨q,h1,h2⟩:=k1 x hx;exact⟨q,by omega,h2⟩,fun q hq hl=>k2 q (by
    rcases te.1 hq with h|h
    ·exact h
    ·subst h;exact absurd hl hlt) hl⟩
  ·rw[e];refine⟨fun x hx=>?_,fun q hq hl=>?_⟩
   ·rcases bC.1 hx with h|h
    ·exact⟨i,by omega,h⟩
    ·obtain⟨q,h1,h2⟩:=k1 x h;exact⟨q,by omega,h2⟩
   ·rcases te.1 hq with h|h
    ·exact bu _ (k2 q h hl)
    ·subst h;exact bn
theorem Trace.rw'(t:Trace rec r tm h tm' h' S):∀i,i<=r.length->∀q,q<i->(S (q+1)).rd=true->(q,(S (q+1)).wr)∈(S i).rw
 |0,_,q,hq,_=>by omega
 |i+1,hi,q,hq,hr=>by
  obtain⟨o,ho⟩:∃o,r[i]?=some o:=⟨_,aV aa⟩;have ih:=t.rw' i aa;rcases te.1 hq with h|h
  ·have h1:=ih q h hr;rcases(t.cases ho).2 with⟨_,_,_,_,_,_,e⟩|⟨_,_,_,_,e,_⟩|⟨_,_,_,h1',_,_,_,_,_,e⟩
   ·rw[e];exact h1
   ·rw[e];exact h1
   ·rw[e];exact bu _ h1
  ·subst h;rcases(t.cases ho).2 with⟨_,_,_,_,e,_⟩|⟨_,_,_,e,_⟩|⟨_,_,_,h1',_,_,_,_,_,e⟩
   ·rw[e]at hr;cases hr
   ·rw[e]at hr;cases hr
   ·rw[e];exact bn
theorem wN{pre k:Nat}:∀{iv:List (Nat×Nat×Nat)} {f:List (Nat×Nat)} {q x y:Nat},(q,x,y)∈iv->pre.testBit q=false->x<=k->k<y->eI k (lk pre iv f)=true
 |(i,a,b)::l,f,q,x,y,hm,hp,h1,h2=>by
  simp only[lk];have hb1:Nat.ble x k=true:=Nat.ble_eq_true_of_le h1;have hb2:Nat.blt k y=true:=by simpa[bB]using h2
  rcases bC.1 hm with e|e
  ·simp only[aR]at e;rw[<-e.1,<-e.2.1,<-e.2.2,hp];simp only[eI];rw[hb1,hb2]
  ·have:=wN (f:=f) e hp h1 h2;split
   ·exact this
   ·simp only[eI];split
    ·split
     ·rfl
     ·exact this
    ·exact this
theorem C4{pre k:Nat}:∀{iv:List (Nat×Nat×Nat)} {f:List (Nat×Nat)},(∀x∈iv,¬(x.2.1<=k/\k<x.2.2))->eI k (lk pre iv f)=eI k f
 |[],f,_=>rfl
 |(i,a,b)::l,f,h=>by
  have ih:=C4 (pre:=pre) (f:=f) fun x hx=>h x (bu _ hx);have h0:=h _ bn;simp only[lk];split
  ·exact ih
  ·simp only[eI];split
   ·next h1=>
    split
    ·next h2=>exact absurd ⟨gg h1,by simpa[bB]using h2⟩ h0
    ·exact ih
   ·exact ih
theorem yo{pre:Nat}{wr:Bool}:∀{rw:List (Nat×Bool)} {q:Nat} {x:Bool},vC pre wr rw=false->(q,x)∈rw->(x||wr)=true->pre.testBit q=true
 |(i,y)::l,q,x,h,hm,hx=>by
  simp only[vC]at h;split at h
  ·cases h
  ·next hb=>
   rcases bC.1 hm with e|e
   ·cases e;rw[hx]at hb;simpa using hb
   ·exact yo h e hx
end
end CI
end
section
open Go.RowKit
namespace CI
variable {P : Program} {n : Nat}
theorem za:∀(l:List Nat) (k:Nat),vp l k=(l[k]?).getD 0
 |[],k=>by simp[vp]
 |x::l,0=>by simp[vp]
 |x::l,k+1=>by simp[vp,za l k]
theorem qg{acc:List Nat}{q:Nat}:∀{es:List Edge},(oh acc es).testBit q=true->∃e∈es,Region.binds .any e=true/\(e.on=q\/(vp acc e.on).testBit q=true)
 |[],h=>by simp[oh]at h
 |e::es,h=>by
  simp only[oh]at h;split at h
  ·next hb=>
   simp only[Nat.testBit_or,tz,Nat.testBit_two_pow,decide_eq_true_eq]at h;rcases h with(h|h)|h
   ·exact⟨e,bn,hb,.inl h⟩
   ·exact⟨e,bn,hb,.inr h⟩
   ·obtain⟨e',h1,h2⟩:=qg h;exact⟨e',bu _ h1,h2⟩
  ·obtain⟨e',h1,h2⟩:=qg h;exact⟨e',bu _ h1,h2⟩
theorem Fv:∀(l:List Oper) (acc:List Nat),∃t,nk l acc=acc++t/\t.length=l.length
 |[],acc=>⟨[],by simp[nk],rfl⟩
 |o::l,acc=>by
  obtain⟨t,e,h⟩:=Fv l (acc++[oh acc o.after.toList]);exact⟨oh acc o.after.toList::t,by simp only[nk];rw[e];simp,by simp[h]⟩
theorem B4:∀(l:List Oper) (acc:List Nat) (i:Nat) (o:Oper),l[i]?=some o->(nk l acc)[acc.length+i]?=some (oh ((nk l acc).take (acc.length+i)) o.after.toList)
 |[],acc,i,o,h=>by simp at h
 |o'::l,acc,0,o,h=>by
  simp at h;subst h;simp only[nk];obtain⟨t,e,_⟩:=Fv l (acc++[oh acc o'.after.toList]);rw[e];simp
 |o'::l,acc,i+1,o,h=>by
  simp only[nk];have:=B4 l (acc++[oh acc o'.after.toList]) i o uD;rw[cv,kv,show acc.length+1+i=acc.length+(i+1) by omega]at this;exact this
theorem qx{t:Nat}:∀{l:List Nat},t∈l->sR t l=true
 |x::l,h=>by
  simp only[sR];split
  ·rfl
  ·next hb=>
   rcases bC.1 h with e|e
   ·subst e;rw[fJ]at hb;cases hb
   ·exact qx e
theorem Al{ops:Array Oper}{o:Oper}{p:Nat}:∀{l:List Oper} {k:Nat},uP ops o p l k=true->∀i o',l[i]?=some o'->(sQ o'.dst (looks ops o)=true\/sQ o.dst (looks ops o')=true\/sQ o.dst o'.dst.toList=true)->p.testBit (k+i)=true
 |[],k,_,i,o',h,_=>by simp at h
 |x::l,k,h,0,o',ho,hh=>by
  simp at ho;subst ho;simp only[uP]at h;split at h
  ·cases h
  ·next hb=>
   rw[bZ]
   cases hp:p.testBit k with
   |true=>rfl
   |false=>
    exfalso;rw[hp]at hb;rcases hh with hh|hh|hh<;>simp[hh]at hb
 |x::l,k,h,i+1,o',ho,hh=>by
  simp only[uP]at h;split at h
  ·cases h
  ·have:=Al h i o' (by simpa using ho) hh;rwa[show k+1+i=k+(i+1) by omega]at this
theorem rl{k:Nat}:∀{l:List Edge},mi k l=true->∀e∈l,Region.binds .any e=true->e.on<k
 |x::l,h,e,he,hb=>by
  simp only[mi]at h;split at h
  ·cases h
  ·next hx=>
   rcases bC.1 he with e1|e1
   ·subst e1;rw[hb]at hx;simp only[qF,Bool.not_eq_false']at hx;simpa[bB]using hx
   ·exact rl h e e1 hb
theorem Je{ops:Array Oper}:∀(l acc:List Oper) (ps:List Nat) (r:List RO),iP P n true ops acc l ps=some r->r.length=l.length/\∀i o,l[i]?=some o->∃p g,ps[i]?=some p/\dh n o.dst=true/\uP ops o p (acc++l.take i) 0=true/\mi (acc.length+i) o.after.toList=true/\(match o.guard with
  |none=>some none
  |some (j,b)=>((ops[j]?).bind (·.dst)).map fun t=>some (t,b))=some g/\r[i]?=some ⟨o.dst,g,(match bc P o.op with|some x=>x|none=>.bad),p⟩
 |[],acc,ps,r,h=>by
  simp only[iP,ak]at h;subst h;exact⟨rfl,fun i o ho=>by simp at ho⟩
 |o::l,acc,ps,r,h=>by
  obtain⟨p,ps',g,r',rfl,h1,h2,h3,h4,rfl⟩:=wR h;obtain⟨k1,k2⟩:=Je l (acc++[o]) ps' r' h4;refine⟨by simp[k1],fun i o' ho=>?_⟩
  cases i with
  |zero=>
   simp at ho;subst ho;exact⟨p,g,rfl,h1,by simpa using(h2 rfl).1,by simpa using(h2 rfl).2,h3,rfl⟩
  |succ i=>
   obtain⟨p',g',q1,q2,q3,q4,q5,q6⟩:=k2 i o' (by simpa using ho);refine⟨p',g',by simpa using q1,q2,by simpa using q3,?_,q5,by simpa using q6⟩;rw[cv,kv]at q4;rwa[show acc.length+1+i=acc.length+(i+1) by omega]at q4
structure Stat(P:Program)(n:Nat)(ops:Array Oper)(r:List RO):Prop where
 len:r.length=ops.size
 row : ∀ (i : Nat) (o : Oper), ops[i]? = some o -> ∃ g p, r[i]? = some ⟨o.dst, g, (match bc P o.op with | some x => x | none => .bad), p⟩ /\ dh n o.dst = true /\ (match o.guard with
       |none=>some none
       |some (j,b)=>((ops[j]?).bind (·.dst)).map fun t=>some (t,b))=some g
 pre:∀(i:Nat) (o:Oper) (ro:RO) (q:Nat),ops[i]?=some o->r[i]?=some ro->ro.pre.testBit q=true->∃e∈o.after.toList,Region.binds .any e=true/\(e.on=q\/∃ro',r[e.on]?=some ro'/\ro'.pre.testBit q=true)
 edge:∀(i:Nat) (o:Oper) (e:Edge),ops[i]?=some o->e∈o.after.toList->Region.binds .any e=true->e.on<i
 tmp:∀(i j:Nat) (o' o:Oper) (ro:RO) (t:Nat),i<j->ops[i]?=some o'->ops[j]?=some o->r[j]?=some ro->((o'.dst=some t/\t∈looks ops o)\/(o.dst=some t/\t∈looks ops o')\/(o.dst=some t/\o'.dst=some t))->ro.pre.testBit i=true
theorem TC{ops:Array Oper}{r:List RO}(h:iP P n true ops [] ops.toList (nk ops.toList [])=some r):Stat P n ops r:=by
 obtain⟨k1,k2⟩:=Je _ _ _ _ h;have hl:∀{i:Nat} {o:Oper},ops[i]?=some o->ops.toList[i]?=some o:=fun ho=>by simpa using ho
 have hpre:∀(i:Nat) (o:Oper) (ro:RO),ops[i]?=some o->r[i]?=some ro->(nk ops.toList [])[i]?=some ro.pre:=fun i o ro ho hr=>by
  obtain⟨p,g,q1,_,_,_,_,q6⟩:=k2 i o (hl ho);rw[hr]at q6;simp only[ak]at q6;subst q6;exact q1
 refine⟨by rw[k1];simp,fun i o ho=>?_,fun i o ro q ho hr hq=>?_,fun i o e ho he hb=>?_,fun i j o' o ro t hij ho' ho hr ht=>?_⟩
 ·obtain⟨p,g,q1,q2,q3,q4,q5,q6⟩:=k2 i o (hl ho);exact⟨g,p,q6,q2,q5⟩
 ·have h1:=hpre i o ro ho hr;have h2:=B4 ops.toList [] i o (hl ho);simp only[gW,bw]at h2;rw[h1]at h2;simp only[ak]at h2;rw[h2]at hq;obtain⟨e,he,hb,hh⟩:=qg hq;refine⟨e,he,hb,hh.imp id fun hx=>?_⟩;rw[za,iB]at hx;split at hx
  ·next hlt=>
   have hsz:i<ops.size:=(iG.1 ho).1;obtain⟨o2,ho2⟩:∃o2,ops[e.on]?=some o2:=⟨_,mD aa⟩;obtain⟨p,g,q1,q2,q3,q4,q5,q6⟩:=k2 e.on o2 (hl ho2);rw[q1]at hx;exact⟨_,q6,by simpa using hx⟩
  ·simp at hx
 ·obtain⟨p,g,q1,q2,q3,q4,q5,q6⟩:=k2 i o (hl ho);have:=rl q4 e he hb;simpa using this
 ·obtain⟨p,g,q1,q2,q3,q4,q5,q6⟩:=k2 j o (hl ho);rw[hr]at q6;simp only[ak]at q6;subst q6;have:=Al q3 i o' (by rw[ew,jo hij];exact hl ho') (by
   rcases ht with⟨h1,h2⟩|⟨h1,h2⟩|⟨h1,h2⟩
   ·exact .inl (by rw[h1];exact qx h2)
   ·exact .inr (.inl (by rw[h1];exact qx h2))
   ·exact .inr (.inr (by rw[h1,h2];exact qx aU)))
  simpa using this
end CI
end
section
open Go.RowKit
namespace DW
inductive Mn where
 |val (d:D)
 |alloc (k:Nat) (q:Ow) (d:D)
 |store (k i:Nat) (d:D)
 |app (k:Nat) (nw:List (Nat×Ow)) (d:D)
structure FP where
 rc:List Nat
 rs:List Nat
 wc:List Nat
 al:List Nat
 me:List Nat
def cut(k:Nat)(l:List (Nat×Ow)):List (Nat×Ow):=l.filter fun p=>!Nat.beq p.1 k
def mAp(t:Option Tmp)(m:Mn)(s:S):S:=
 match m with
 | .val d=>s.put t d
 | .alloc k q d=>⟨(s.put t d).sl,(k,q)::s.ow⟩
 | .store k i d=>⟨s.sl,cw k i d s.ow⟩
 | .app k nw d=>⟨(s.put t d).sl,nw++cut k s.ow⟩
def Mn.dt:Mn->Option D
 | .val d=>some d
 | .alloc _ _ d=>some d
 | .store ..=>none
 | .app _ _ d=>some d
def stL(L:Nat->Bool):List (Option Tmp×Mn)->Nat->S->S
 |[],_,s=>s
 |(t,m)::l,i,s=>stL L l (i+1) (match L i with|true=>mAp t m s|false=>s)
structure Eqv(s s':S):Prop where
 gt:∀t,s.gt t=s'.gt t
 ow:s.ow.Perm s'.ow
theorem Eqv.refl(s:S):Eqv s s:=⟨fun _=>rfl,.refl _⟩
theorem Eqv.of{s s':S}(h:s=s'):Eqv s s':=h▸Eqv.refl s
theorem Eqv.trans{a b c:S}(h:Eqv a b)(k:Eqv b c):Eqv a c:=⟨fun t=>(h.gt t).trans (k.gt t),h.ow.trans k.ow⟩
theorem Fu(s:S)(t:Option Tmp)(d:D)(u:Nat):(s.put t d).gt u=if t=some u then d else s.gt u:=by
 cases t with
 |none=>rfl
 |some t=>
  show look ((t,d)::s.sl) u=_;simp only[look,ak];rfl
theorem lC(s:S)(t:Option Tmp)(d:D):(s.put t d).ow=s.ow:=by cases t<;>rfl
theorem oy(t:Option Tmp)(m:Mn)(s:S)(u:Nat):(mAp t m s).gt u=match m.dt with|some d=>if t=some u then d else s.gt u|none=>s.gt u:=by
 cases m with
 |val d=>exact Fu s t d u
 |alloc k q d=>exact Fu s t d u
 |store k i d=>rfl
 |app k nw d=>exact Fu s t d u
theorem Mi(k i:Nat)(d:D){l l':List (Nat×Ow)}(h:l.Perm l'):(cw k i d l).Perm (cw k i d l'):=by
 have e:∀l:List (Nat×Ow),cw k i d l=l.map fun p=>match Nat.beq p.1 k with|true=>(p.1,⟨p.2.T,p.2.wd,p.2.l.set i d⟩)|false=>p:=fun l=>by
  induction l with
  |nil=>rfl
  |cons p l ih=>
   obtain⟨j,q⟩:=p;simp only[cw,fA,ih];cases Nat.beq j k<;>rfl
 rw[e,e];exact h.map _
theorem Cz{k k' i i':Nat}{d d':D}(h:k≠k'):∀l:List (Nat×Ow),cw k i d (cw k' i' d' l)=cw k' i' d' (cw k i d l)
 |[]=>rfl
 |(j,q)::l=>by
  have ih:=Cz (i:=i) (i':=i') (d:=d) (d':=d') h l
  cases h1:Nat.beq j k with
  |true=>
   have h2:Nat.beq j k'=false:=by
    cases h2:Nat.beq j k' with
    |false=>rfl
    |true=>exact absurd ((ed h1).symm.trans (ed h2)) h
   simp only[cw,h1,h2,ih]
  |false=>
   cases h2:Nat.beq j k' with
   |true=>simp only[cw,h1,h2,ih]
   |false=>simp only[cw,h1,h2,ih]
theorem Un(t:Option Tmp)(m:Mn){s s':S}(h:Eqv s s'):Eqv (mAp t m s) (mAp t m s'):=by
 refine⟨fun u=>by rw[oy,oy,h.gt],?_⟩
 cases m with
 |val d=>simp only[mAp,lC];exact h.ow
 |alloc k q d=>exact h.ow.cons _
 |store k i d=>exact Mi k i d h.ow
 |app k nw d=>exact(h.ow.filter _).append_left nw
theorem BM(L:Nat->Bool):∀(l:List (Option Tmp×Mn)) (i:Nat) {s s':S},Eqv s s'->Eqv (stL L l i s) (stL L l i s')
 |[],_,_,_,h=>h
 |(t,m)::l,i,s,s',h=>by
  simp only[stL]
  cases L i with
  |true=>exact BM L l (i+1) (Un t m h)
  |false=>exact BM L l (i+1) h
def comm(t t':Option Tmp)(m m':Mn):Prop:=
 (∀u,t=some u->t'=some u->False)/\
 (∀k q d k' i' d',m= .alloc k q d->m'= .store k' i' d'->k≠k')/\
 (∀k q d k' i' d',m'= .alloc k q d->m= .store k' i' d'->k≠k')/\
 (∀k i d k' i' d',m= .store k i d->m'= .store k' i' d'->k≠k')/\
 (∀k nw d k' q' d',m= .app k nw d->m'= .alloc k' q' d'->k≠k')/\
 (∀k nw d k' q' d',m'= .app k nw d->m= .alloc k' q' d'->k≠k')/\
 (∀k nw d k' i d',m= .app k nw d->m'= .store k' i d'->∀p∈nw,p.1≠k')/\
 (∀k nw d k' i d',m'= .app k nw d->m= .store k' i d'->∀p∈nw,p.1≠k')/\
 (∀k nw d k' nw' d',m= .app k nw d->m'= .app k' nw' d'->(∀p∈nw,p.1≠k')/\∀p∈nw',p.1≠k)
theorem wu{k k' i:Nat}{q:Ow}{d:D}(h:k≠k')(l:List (Nat×Ow)):cw k' i d ((k,q)::l)=(k,q)::cw k' i d l:=by
 simp only[cw]
 cases hb:Nat.beq k k' with
 |true=>exact absurd (ed hb) h
 |false=>rfl
theorem yF(k i:Nat)(d:D):∀l l':List (Nat×Ow),cw k i d (l++l')=cw k i d l++cw k i d l'
 |[],_=>rfl
 |(x,q)::l,l'=>by
  have ih:=yF k i d l l';simp only[uJ,cw,ih];cases Nat.beq x k<;>rfl
theorem rV{k i:Nat}{d:D}:∀{l:List (Nat×Ow)},(∀p∈l,p.1≠k)->cw k i d l=l
 |[],_=>rfl
 |(x,q)::l,h=>by
  simp only[cw]
  cases h1:Nat.beq x k with
  |true=>exact absurd (ed h1) (h _ bn)
  |false=>rw[rV fun p hp=>h p (bu _ hp)]
theorem zj(k j i:Nat)(d:D):∀l:List (Nat×Ow),cut k (cw j i d l)=cw j i d (cut k l)
 |[]=>rfl
 |(x,q)::l=>by
  have ih:=zj k j i d l;unfold cut at ih⊢
  cases h1:Nat.beq x j with
  |true=>
   simp only[cw,h1]
   cases h2:Nat.beq x k with
   |true=>rw[mC mV,mC mV,ih]
   |false=>rw[ln mV,ln mV,ih];simp only[cw,h1]
  |false=>
   simp only[cw,h1]
   cases h2:Nat.beq x k with
   |true=>rw[mC mV,mC mV,ih]
   |false=>rw[ln mV,ln mV,ih];simp only[cw,h1]
theorem uk{x k:Nat}(h:x≠k):Nat.beq x k=false:=by
 cases hb:Nat.beq x k with
 |true=>exact absurd (ed hb) h
 |false=>rfl
theorem vB{k:Nat}{l:List (Nat×Ow)}(h:∀p∈l,p.1≠k):cut k l=l:=by
 unfold cut;rw[List.filter_eq_self];exact fun p hp=>by rw[uk (h p hp)];rfl
theorem Jd(k:Nat)(l l':List (Nat×Ow)):cut k (l++l')=cut k l++cut k l':=zR ..
theorem Qi(k k':Nat)(l:List (Nat×Ow)):cut k (cut k' l)=cut k' (cut k l):=by
 unfold cut;rw[zQ,zQ];exact List.filter_congr fun p _=>Bool.and_comm ..
theorem PB{t t':Option Tmp}{m m':Mn}(h:comm t t' m m')(s:S):Eqv (mAp t m (mAp t' m' s)) (mAp t' m' (mAp t m s)):=by
 obtain⟨h1,h2,h3,h4,h5,h6,h7,h8,h9⟩:=h;refine⟨fun u=>?_,?_⟩
 ·rw[oy,oy,oy,oy]
  cases m.dt with
  |none=>rfl
  |some d=>
   cases m'.dt with
   |none=>rfl
   |some d'=>
    simp only;by_cases e:t=some u
    ·rw[an e,aj (fun e'=>h1 u e e'),an e]
    ·rw[aj e,aj e]
 ·cases m with
  |val d=>
   cases m' with
   |val d'=>simp only[mAp,lC];exact .refl _
   |alloc k q d'=>simp only[mAp,lC];exact .refl _
   |store k i d'=>simp only[mAp,lC];exact .refl _
   |app k nw d'=>simp only[mAp,lC];exact .refl _
  |alloc k q d=>
   cases m' with
   |val d'=>simp only[mAp,lC];exact .refl _
   |alloc k' q' d'=>simp only[mAp];exact List.Perm.swap _ _ _
   |store k' i d'=>
    simp only[mAp];rw[wu (h2 _ _ _ _ _ _ rfl rfl)]
   |app k' nw d'=>
    simp only[mAp];have e:cut k' ((k,q)::s.ow)=(k,q)::cut k' s.ow:=by
     unfold cut;rw[ln (by rw[uk (Ne.symm (h6 _ _ _ _ _ _ rfl rfl))];rfl)]
    rw[e];exact List.perm_middle.symm
  |store k i d=>
   cases m' with
   |val d'=>simp only[mAp,lC];exact .refl _
   |alloc k' q' d'=>
    simp only[mAp];rw[wu (h3 _ _ _ _ _ _ rfl rfl)]
   |store k' i' d'=>
    simp only[mAp];rw[Cz (h4 _ _ _ _ _ _ rfl rfl)]
   |app k' nw d'=>
    simp only[mAp];rw[yF,rV (h8 _ _ _ _ _ _ rfl rfl),zj]
  |app k nw d=>
   cases m' with
   |val d'=>simp only[mAp,lC];exact .refl _
   |alloc k' q' d'=>
    simp only[mAp];have e:cut k ((k',q')::s.ow)=(k',q')::cut k s.ow:=by
     unfold cut;rw[ln (by rw[uk (Ne.symm (h5 _ _ _ _ _ _ rfl rfl))];rfl)]
    rw[e];exact List.perm_middle
   |store k' i d'=>
    simp only[mAp];rw[yF,rV (h7 _ _ _ _ _ _ rfl rfl),zj]
   |app k' nw' d'=>
    simp only[mAp];obtain⟨a1,a2⟩:=h9 _ _ _ _ _ _ rfl rfl;rw[Jd,Jd,vB a1,vB a2,Qi,<-fK,<-fK];exact List.perm_append_comm.append_right _
theorem yB{L:Nat->Bool}:∀(l:List (Option Tmp×Mn)) (i:Nat) (s:S),(∀j,i<=j->L j=false)->stL L l i s=s
 |[],_,_,_=>rfl
 |(t,m)::l,i,s,h=>by
  simp only[stL,h i (af _)];exact yB l (i+1) s fun j hj=>h j aa
theorem Cx{L L':Nat->Bool}:∀(l:List (Option Tmp×Mn)) (i:Nat) (s:S),(∀j,i<=j->L j=L' j)->stL L l i s=stL L' l i s
 |[],_,_,_=>rfl
 |(t,m)::l,i,s,h=>by
  simp only[stL,h i (af _)];exact Cx l (i+1) _ fun j hj=>h j aa
theorem As{L:Nat->Bool}{t:Option Tmp}{m:Mn}:∀(l:List (Option Tmp×Mn)) (i:Nat) (s:S),(∀j t' m',l[j]?=some (t',m')->L (i+j)=true->comm t t' m m')->Eqv (mAp t m (stL L l i s)) (stL L l i (mAp t m s))
 |[],_,s,_=>Eqv.refl _
 |(t',m')::l,i,s,h=>by
  simp only[stL];have ih:=fun s=>As (L:=L) (t:=t) (m:=m) l (i+1) s fun j t'' m'' hj hL=>h (j+1) t'' m'' (by simpa using hj) (by rw[show i+(j+1)=i+1+j by omega];exact hL)
  cases hL:L i with
  |false=>exact ih s
  |true=>exact(ih _).trans (BM L l (i+1) (PB (h 0 t' m' rfl hL) s))
theorem EY{L L':Nat->Bool}{t:Option Tmp}{m:Mn}:∀(l:List (Option Tmp×Mn)) (i j:Nat) (s:S),i<=j->l[j-i]?=some (t,m)->L j=false->L' j=true->(∀x,x≠j->L' x=L x)->
  (∀x t' m',j<i+x->l[x]?=some (t',m')->L (i+x)=true->comm t t' m m')->Eqv (mAp t m (stL L l i s)) (stL L' l i s)
 |[],i,j,s,_,e,_,_,_,_=>by simp at e
 |(t',m')::l,i,j,s,hij,e,h1,h2,h3,h4=>by
  simp only[stL];by_cases hx:i=j
  ·subst hx;rw[eR]at e;simp at e;obtain⟨rfl,rfl⟩:=e;rw[h1,h2];simp only;refine(As l (i+1) s fun x t'' m'' hl hL=>h4 (x+1) t'' m'' aa nS (by rw[show i+(x+1)=i+1+x by omega];exact hL)).trans ?_;rw[Cx (L:=L) (L':=L') l (i+1) _ fun x hx=>(h3 x aa).symm];exact Eqv.refl _
  ·rw[h3 i hx];refine EY l (i+1) j _ aa ?_ h1 h2 h3 fun x t'' m'' hlt hl hL=>h4 (x+1) t'' m'' aa nS (by rw[show i+(x+1)=i+1+x by omega];exact hL);rw[show j-i=j-(i+1)+1 by omega]at e;simpa using e
theorem LY{L L':Nat->Bool}{u:Nat}:∀(l:List (Option Tmp×Mn)) (i:Nat) (s s':S),s.gt u=s'.gt u->(∀x m,l[x]?=some (some u,m)->L (i+x)=L' (i+x))->(stL L l i s).gt u=(stL L' l i s').gt u
 |[],_,s,s',h,_=>h
 |(t,m)::l,i,s,s',h,hh=>by
  simp only[stL];refine LY l (i+1) _ _ ?_ fun x m' hl=>?_
  ·by_cases ht:t=some u
   ·have:=hh 0 m (by simp[ht]);simp only[bZ]at this;rw[this]
    cases L' i with
    |false=>exact h
    |true=>simp only[oy];rw[h]
   ·have key : ∀ (b : Bool) (σ : S), (match b with | true => mAp t m σ | false => σ).gt u = σ.gt u := fun b σ => by
     cases b with
     |false=>rfl
     |true=>
      simp only[oy]
      cases m.dt with
      |none=>rfl
      |some d=>simp only[aj ht]
    rw[key,key];exact h
  ·have:=hh (x+1) m' nS;rwa[show i+(x+1)=i+1+x by omega]at this
def ent(k:Nat)(l:List (Nat×Ow)):List (Nat×Ow):=l.filter fun p=>Nat.beq p.1 k
theorem kK{k:Nat}{l:List (Nat×Ow)}{q:Ow}:(k,q)∈ent k l↔(k,q)∈l:=by
 unfold ent;rw[zP];simp
def Mn.tc(k:Nat):Mn->Bool
 | .val _=>false
 | .alloc j _ _=>Nat.beq j k
 | .store j _ _=>Nat.beq j k
 | .app j nw _=>Nat.beq j k||nw.any fun p=>Nat.beq p.1 k
def Mn.mk'(k:Nat):Mn->Bool
 | .alloc j _ _=>Nat.beq j k
 | .app j nw _=>Nat.beq j k||nw.any fun p=>Nat.beq p.1 k
 |_=>false
theorem xQ(k j:Nat)(l:List (Nat×Ow)):ent k (cut j l)=cut j (ent k l):=by
 unfold ent cut;rw[zQ,zQ];exact List.filter_congr fun p _=>Bool.and_comm ..
theorem xS(k:Nat)(l l':List (Nat×Ow)):ent k (l++l')=ent k l++ent k l':=zR ..
theorem vv(k j i:Nat)(d:D):∀l:List (Nat×Ow),ent k (cw j i d l)=cw j i d (ent k l)
 |[]=>rfl
 |(x,q)::l=>by
  have ih:=vv k j i d l;unfold ent at ih⊢
  cases h1:Nat.beq x j with
  |true=>
   simp only[cw,h1]
   cases h2:Nat.beq x k with
   |true=>rw[ln (by exact h2),ln (by exact h2),ih];simp only[cw,h1]
   |false=>rw[mC mV,mC mV,ih]
  |false=>
   simp only[cw,h1]
   cases h2:Nat.beq x k with
   |true=>rw[ln (by exact h2),ln (by exact h2),ih];simp only[cw,h1]
   |false=>rw[mC mV,mC mV,ih]
theorem ue{k:Nat}{l:List (Nat×Ow)}{p:Nat×Ow}(h:p∈ent k l):p.1=k:=by
 unfold ent at h;rw[zP]at h;exact ed h.2
theorem Uo{k:Nat}{t:Option Tmp}{m:Mn}{s s':S}(h:ent k s.ow=ent k s'.ow):ent k (mAp t m s).ow=ent k (mAp t m s').ow:=by
 cases m with
 |val d=>simp only[mAp,lC];exact h
 |alloc j q d=>
  simp only[mAp];unfold ent at h⊢;simp only[List.filter_cons,h]
 |store j i d=>
  simp only[mAp,vv,h]
 |app j nw d=>
  simp only[mAp,xS,xQ,h]
theorem sP{k:Nat}{t:Option Tmp}{m:Mn}(hm:m.tc k=false)(s:S):ent k (mAp t m s).ow=ent k s.ow:=by
 cases m with
 |val d=>simp only[mAp,lC]
 |alloc j q d=>
  simp only[mAp];unfold ent;rw[mC (by show¬Nat.beq j k=true;rw[show Nat.beq j k=false from hm];decide)]
 |store j i d=>
  simp only[mAp,vv];refine rV fun p hp e=>?_;rw[ue hp]at e;simp[Mn.tc,e]at hm
 |app j nw d=>
  simp only[Mn.tc,vT]at hm;simp only[mAp,xS,xQ];have e1:ent k nw=[]:=by
   unfold ent;rw[EF];exact fun p hp h=>by
    have:=List.any_eq_false.1 hm.2 p hp;exact this h
  rw[e1,ew];exact vB fun p hp e=>by
   rw[ue hp]at e;rw[e]at hm;simp at hm
theorem BN{L L':Nat->Bool}{k:Nat}:∀(l:List (Option Tmp×Mn)) (i:Nat) (s s':S),ent k s.ow=ent k s'.ow->(∀x t m,l[x]?=some (t,m)->m.tc k=true->L (i+x)=L' (i+x))->ent k (stL L l i s).ow=ent k (stL L' l i s').ow
 |[],_,s,s',h,_=>h
 |(t,m)::l,i,s,s',h,hh=>by
  simp only[stL];refine BN l (i+1) _ _ ?_ fun x t' m' hl hm=>?_
  ·cases hm:m.tc k with
   |true=>
    have:=hh 0 t m aU hm;simp only[bZ]at this;rw[this]
    cases L' i with
    |false=>exact h
    |true=>exact Uo h
   |false=>
    have key:∀(b:Bool) (σ:S),ent k (match b with|true=>mAp t m σ|false=>σ).ow=ent k σ.ow:=fun b σ=>by
     cases b with
     |false=>rfl
     |true=>exact sP hm σ
    rw[key,key];exact h
  ·have:=hh (x+1) t' m' nS hm;rwa[show i+(x+1)=i+1+x by omega]at this
def shp(k:Nat)(l:List (Nat×Ow)):List (TypeId×Nat×Nat):=(ent k l).map fun p=>(p.2.T,p.2.wd,p.2.l.length)
theorem Fe(k j i:Nat)(d:D):∀l:List (Nat×Ow),(cw j i d l).map (fun p=>(p.2.T,p.2.wd,p.2.l.length))=l.map fun p=>(p.2.T,p.2.wd,p.2.l.length)
 |[]=>rfl
 |(x,q)::l=>by
  have ih:=Fe k j i d l;simp only[cw]
  cases Nat.beq x j with
  |true=>simp only[fA,ih,fG]
  |false=>simp only[fA,ih]
theorem H7{L L':Nat->Bool}{k:Nat}:∀(l:List (Option Tmp×Mn)) (i:Nat) (s s':S),shp k s.ow=shp k s'.ow->(∀x t m,l[x]?=some (t,m)->m.mk' k=true->L (i+x)=L' (i+x))->shp k (stL L l i s).ow=shp k (stL L' l i s').ow
 |[],_,s,s',h,_=>h
 |(t,m)::l,i,s,s',h,hh=>by
  simp only[stL];refine H7 l (i+1) _ _ ?_ fun x t' m' hl hm=>?_
  ·have off : m.mk' k = false -> ∀ (b : Bool) (σ : S), shp k (match b with | true => mAp t m σ | false => σ).ow = shp k σ.ow := fun hm b σ => by
    cases b with
    |false=>rfl
    |true=>
     cases m with
     |val d=>simp only[mAp,lC]
     |alloc j q d=>
      unfold shp;rw[sP (by simpa[Mn.tc,Mn.mk']using hm)]
     |store j i d=>
      unfold shp;simp only[mAp,vv];exact Fe k j i d _
     |app j nw d=>
      unfold shp;rw[sP (by exact hm)]
   cases hm:m.mk' k with
   |true=>
    have:=hh 0 t m aU hm;simp only[bZ]at this;rw[this]
    cases L' i with
    |false=>exact h
    |true=>
     cases m with
     |val d=>simp[Mn.mk']at hm
     |store j i d=>simp[Mn.mk']at hm
     |alloc j q d=>
      simp only[mAp];unfold shp ent at h⊢;simp only[List.filter_cons];split
      ·simp only[fA,h]
      ·exact h
     |app j nw d=>
      simp only[mAp];unfold shp at h⊢;rw[xS,xS,xQ,xQ,cL,cL];congr 1;by_cases e:k=j
      ·have z : ∀ l : List (Nat × Ow), cut j (ent k l) = [] := fun l => by
        unfold cut;rw[EF];exact fun p hp hh=>by rw[ue hp,e]at hh;simp at hh
       rw[z,z]
      ·have z:∀l:List (Nat×Ow),cut j (ent k l)=ent k l:=fun l=>vB fun p hp hh=>e ((ue hp).symm.trans hh);rw[z,z];exact h
   |false=>rw[off hm,off hm];exact h
  ·have:=hh (x+1) t' m' nS hm;rwa[show i+(x+1)=i+1+x by omega]at this
end DW
end
section
open Go.RowKit
namespace DW
def yW(a b:List Nat):Bool:=a.any fun x=>CI.sR x b
theorem qw{a b:List Nat}{k:Nat}(h1:k∈a)(h2:k∈b):yW a b=true:=ku.2 ⟨k,h1,CI.qx h2⟩
def lA(ops:Array Oper)(o' o:Oper):Bool:=CI.sQ o'.dst (CI.looks ops o)||CI.sQ o.dst (CI.looks ops o')||CI.sQ o.dst o'.dst.toList
def dlN:List Nat->List Nat
 |[]=>[]
 |x::l=>match Nat.ble 1000000000 x with|true=>Nat.sub x 1000000000::dlN l|false=>dlN l
def fR(f' f:FP):Bool:=yW f'.wc (f.rc++f.wc)||yW f'.rc f.wc||yW f'.al (f.rc++f.rs++f.wc++f.me)||yW (dlN f'.al) f.rs||yW (dlN f.al) f'.rs
def never(f' f:FP):Bool:=yW f.al (f'.rc++f'.rs++f'.wc++f'.me++f'.al)
def mJ(ops:Array Oper)(o' o:Oper)(f' f:FP)(p i:Nat):Bool:=(!(lA ops o' o||fR f' f)||p.testBit i)&& !never f' f
def AA(ops:Array Oper)(o:Oper)(f:FP)(p:Nat):List (Oper×FP)->Nat->Bool
 |[],_=>true
 |(o',f')::l,i=>mJ ops o' o f' f p i&&AA ops o f p l (i+1)
def vi(ops:Array Oper)(n:Nat)(ks:List Nat):List Oper->List FP->List Nat->List (Oper×FP)->Bool
 |[],[],_,_=>true
 |o::l,f::fs,p::ps,acc=>CI.mi acc.length o.after.toList&&f.al.all (fun k=>CI.sR k ks)&&AA ops o f p acc 0&&vi ops n ks l fs ps (acc++[(o,f)])
 |_,_,_,_=>false
def wF(ops:Array Oper)(n:Nat)(ks:List Nat)(fps:List FP):Bool:=vi ops n ks ops.toList fps (CI.nk ops.toList []) []
theorem oE{i k:Nat}(h:k<=i):Nat.blt i k=false:=by
 cases hb:Nat.blt i k with
 |false=>rfl
 |true=>rw[bB]at hb;omega
theorem Az{ops:Array Oper}{o:Oper}{f:FP}{p:Nat}:∀{l:List (Oper×FP)} {k:Nat},AA ops o f p l k=true->∀i o' f',l[i]?=some (o',f')->mJ ops o' o f' f p (k+i)=true
 |[],_,_,i,o',f',e=>by simp at e
 |(x,y)::l,k,h,0,o',f',e=>by
  simp only[AA,eH]at h;rw[List.getElem?_cons_zero]at e;cases e;rw[bZ];exact h.1
 |(x,y)::l,k,h,i+1,o',f',e=>by
  simp only[AA,eH]at h;have:=Az h.2 i o' f' pZ;rwa[show k+1+i=k+(i+1) by omega]at this
theorem AV{ops:Array Oper}{n:Nat}{ks:List Nat}:∀{l:List Oper} {fs:List FP} {ps:List Nat} {acc:List (Oper×FP)},vi ops n ks l fs ps acc=true->fs.length=l.length/\∀(j:Nat) (o:Oper),l[j]?=some o->∃f p,fs[j]?=some f/\ps[j]?=some p/\CI.mi (acc.length+j) o.after.toList=true/\(∀k∈f.al,CI.sR k ks=true)/\
  (∀i o' f',acc[i]?=some (o',f')->mJ ops o' o f' f p i=true)/\∀i o' f',i<j->l[i]?=some o'->fs[i]?=some f'->mJ ops o' o f' f p (acc.length+i)=true
 |[],[],_,_,_=>⟨rfl,fun j o h=>by simp at h⟩
 |o::l,f::fs,p::ps,acc,h=>by
  simp only[vi,eH]at h;obtain⟨⟨⟨h1,h2⟩,h3⟩,h4⟩:=h;obtain⟨k1,k2⟩:=AV h4;refine⟨by simp[k1],fun j o' ho=>?_⟩
  cases j with
  |zero=>
   simp at ho;subst ho;exact⟨f,p,rfl,rfl,h1,by simpa using h2,fun i o' f' e=>by have:=Az h3 i o' f' e;rwa[bw]at this,fun i _ _ hi=>by omega⟩
  |succ j=>
   obtain⟨f1,p1,q1,q2,q3,q4,q5,q6⟩:=k2 j o' (by simpa using ho);simp only[cv,kv]at q3 q6;refine⟨f1,p1,by simpa using q1,by simpa using q2,by rwa[show acc.length+1+j=acc.length+(j+1) by omega]at q3,q4,fun i o2 f2 e=>q5 i o2 f2 ?_,fun i o2 f2 hi e1 e2=>?_⟩
   ·rw[dC (ct.1 e).1];exact e
   ·cases i with
    |zero=>
     simp at e1 e2;subst e1;subst e2;have:=q5 acc.length o f (by rw[ez (af _)];simp);exact this
    |succ i=>
     have:=q6 i o2 f2 aa (by simpa using e1) (by simpa using e2);rwa[show acc.length+1+i=acc.length+(i+1) by omega]at this
 |[],_::_,_,_,h=>by simp[vi]at h
 |_::_,[],_,_,h=>by simp[vi]at h
 |_::_,_::_,[],_,h=>by simp[vi]at h
structure vI(ops:Array Oper)(o:Oper)(f:FP)(sj σ:S):Prop where
 sl:∀t,t∈CI.looks ops o->σ.gt t=sj.gt t
 rc:∀k,k∈f.rc->ent k σ.ow=ent k sj.ow
 rs:∀k,k∈f.rs\/k∈f.wc->shp k σ.ow=shp k sj.ow
 al:∀k,k∈f.al->ent k σ.ow=ent k sj.ow/\∀t,(σ.gt t).is k=false
def MS(P:Program)(X0:Nat->Prop)(n:Nat)(ops:Array Oper)(o:Oper)(sj:S)(m:Mn)(f:FP):Prop:=
 ∀σ,vI ops o f sj σ->∀w0 g a w,Hd X0 n w0 σ g a w->∀Qx:Exit->Act->World->Prop,
  if Region.wanted o (yielded ops a.tmps)=true then o.wp P a w (fun a' w'=>∃g',Hd X0 n w0 (mAp o.dst m σ) g' a' w') Qx else∃g',Hd X0 n w0 (mAp o.dst m σ) g' (a.put o.dst undef) w
def rC:Mn->FP->Prop
 | .val d,f=>∀k,d.is k=true->k∈f.me
 | .alloc k _ d,f=>k∈f.al/\∀k',d.is k'=true->k'=k
 | .store k _ _,f=>k∈f.wc
 | .app k nw d,f=>k∈f.wc/\k∈dlN f.al/\(∀p∈nw,p.1∈f.al)/\∀k',d.is k'=true->k'∈f.al
def aM(P:Program)(X0:Nat->Prop)(n:Nat)(ops:Array Oper):List Oper->S->List FP->(S->Prop)->Prop
 |[],s,fps,K=>fps=[]/\K s
 |o::l,s,fps,K=>∃f fs m,fps=f::fs/\rC m f/\MS P X0 n ops o s m f/\aM P X0 n ops l (mAp o.dst m s) fs K
def aML(P:Program)(X0:Nat->Prop)(n:Nat)(ops:Array Oper):List Oper->S->List FP->List (Option Tmp×Mn)->S->Prop
 |[],s,fps,st,s'=>fps=[]/\st=[]/\s=s'
 |o::l,s,fps,st,s'=>∃f fs m st',fps=f::fs/\st=(o.dst,m)::st'/\rC m f/\MS P X0 n ops o s m f/\aML P X0 n ops l (mAp o.dst m s) fs st' s'
section
variable {P : Program} {X0 : Nat->Prop} {n : Nat} {ops : Array Oper} {Q : Exit->S->Prop} {s : S}
theorem On{K:S->Prop}:∀{l:List Oper} {s:S} {fps:List FP},aM P X0 n ops l s fps K->∃st s',aML P X0 n ops l s fps st s'/\K s'
 |[],s,fps,h=>⟨[],s,⟨h.1,rfl,rfl⟩,h.2⟩
 |o::l,s,fps,⟨f,fs,m,h1,h2,h3,h4⟩=>by
  obtain⟨st,s',k1,k2⟩:=On h4;exact⟨(o.dst,m)::st,s',⟨f,fs,m,st,h1,rfl,h2,h3,k1⟩,k2⟩
theorem Cr:∀{l:List Oper} {s:S} {fps:List FP} {st:List (Option Tmp×Mn)} {s':S} (k:Nat),aML P X0 n ops l s fps st s'->st.length=l.length/\s'=stL (fun _=>true) st k s
 |[],s,fps,st,s',k,⟨_,h2,h3⟩=>by subst h2;subst h3;exact⟨rfl,rfl⟩
 |o::l,s,fps,st,s',k,⟨f,fs,m,st',h1,h2,h3,h4,h5⟩=>by
  obtain⟨k1,k2⟩:=Cr (k+1) h5;subst h2;exact⟨by simp[k1],by simp only[stL];exact k2⟩
theorem Oo:∀{l:List Oper} {s:S} {fps:List FP} {st:List (Option Tmp×Mn)} {s':S} (k:Nat),aML P X0 n ops l s fps st s'->∀j o,k<=j->l[j-k]?=some o->∃f m,fps[j-k]?=some f/\st[j-k]?=some (o.dst,m)/\rC m f/\MS P X0 n ops o (stL (fun i=>Nat.blt i j) st k s) m f
 |[],s,fps,st,s',k,_,j,o,_,h=>by simp at h
 |o::l,s,fps,st,s',k,⟨f,fs,m,st',h1,h2,h3,h4,h5⟩,j,o',hkj,hl=>by
  subst h1;subst h2;by_cases hj:k=j
  ·subst hj;rw[eR]at hl⊢;simp at hl;subst hl;refine⟨f,m,rfl,rfl,h3,?_⟩;rw[yB _ _ _ fun i hi=>oE hi];exact h4
  ·have hlt:k<j:=by omega
   obtain⟨f',m',q1,q2,q3,q4⟩:=Oo (k+1) h5 j o' aa (by rw[show j-k=j-(k+1)+1 by omega]at hl;simpa using hl);refine⟨f',m',by rw[show j-k=j-(k+1)+1 by omega];simpa using q1,by rw[show j-k=j-(k+1)+1 by omega];simpa using q2,q3,?_⟩;simp only[stL,(by simpa[bB]using hlt:Nat.blt k j=true)];exact q4
theorem BL{L:Nat->Bool}{u:Nat}:∀(l:List (Option Tmp×Mn)) (i:Nat) (s:S),(stL L l i s).gt u=s.gt u\/∃x t m d,l[x]?=some (t,m)/\L (i+x)=true/\m.dt=some d/\(stL L l i s).gt u=d
 |[],_,s=>.inl rfl
 |(t,m)::l,i,s=>by
  simp only[stL]
  cases hL:L i with
  |false=>
   rcases BL (L:=L) (u:=u) l (i+1) s with h|⟨x,t',m',d,h1,h2,h3,h4⟩
   ·exact .inl h
   ·exact .inr ⟨x+1,t',m',d,by simpa using h1,by rw[show i+(x+1)=i+1+x by omega];exact h2,h3,h4⟩
  |true=>
   rcases BL (L:=L) (u:=u) l (i+1) (mAp t m s)with h|⟨x,t',m',d,h1,h2,h3,h4⟩
   ·have h':(stL L l (i+1) (mAp t m s)).gt u=match m.dt with|some d=>if t=some u then d else s.gt u|none=>s.gt u:=h.trans (oy t m s u)
    cases hd:m.dt with
    |none=>
     rw[hd]at h';exact .inl h'
    |some d=>
     rw[hd]at h';simp only at h';by_cases e:t=some u
     ·rw[an e]at h';exact .inr ⟨0,t,m,d,rfl,hL,hd,h'⟩
     ·rw[aj e]at h';exact .inl h'
   ·exact .inr ⟨x+1,t',m',d,by simpa using h1,by rw[show i+(x+1)=i+1+x by omega];exact h2,h3,h4⟩
theorem Hd.eqv{w0:Bs}{s s':S}{f:Nat->Value}{a:Act}{w:World}(h:Hd X0 n w0 s f a w)(e:Eqv s s'):Hd X0 n w0 s' f a w:=by
 have hm:∀p,p∈s'.ow↔p∈s.ow:=fun p=>e.ow.mem_iff.symm;have hX:XO X0 s' f=XO X0 s f:=funext fun b=>propext (by
  unfold XO;constructor
  ·rintro(h|⟨p,hp,q⟩)
   ·exact .inl h
   ·exact .inr ⟨p,(hm p).1 hp,q⟩
  ·rintro(h|⟨p,hp,q⟩)
   ·exact .inl h
   ·exact .inr ⟨p,(hm p).2 hp,q⟩)
 refine⟨h.sz,h.df,h.bl,h.x0,h.xy,h.fx,fun p hp=>h.lo p ((hm p).1 hp),fun t=>by rw[hX,<-e.gt];exact h.sl t,fun p hp=>by rw[hX];exact h.ow p ((hm p).1 hp),fun b hb=>?_,fun p hp q hq=>h.dj p ((hm p).1 hp) q ((hm q).1 hq),fun p hp q hq=>h.un p ((hm p).1 hp) q ((hm q).1 hq)⟩;obtain⟨p,hp,q⟩:=hb;exact h.nw b ⟨p,(hm p).1 hp,q⟩
structure Mix(P:Program)(X0:Nat->Prop)(n:Nat)(ops:Array Oper)(s:S)(st:List (Option Tmp×Mn))(ps:List Nat):Prop where
 len:st.length=ops.size
 row:∀j o,ops[j]?=some o->∃f p m,ps[j]?=some p/\st[j]?=some (o.dst,m)/\rC m f/\MS P X0 n ops o (stL (fun i=>Nat.blt i j) st 0 s) m f/\CI.mi j o.after.toList=true/\(∀k∈f.al,∀t,(s.gt t).is k=false)/\
  (∀i o',i<j->ops[i]?=some o'->∃f' m',st[i]?=some (o'.dst,m')/\rC m' f'/\mJ ops o' o f' f p i=true)/\
  (∀i o',j<i->ops[i]?=some o'->∃f' m' p',st[i]?=some (o'.dst,m')/\rC m' f'/\ps[i]?=some p'/\mJ ops o o' f f' p' j=true)
 pre:∀(i:Nat) (o:Oper) (p q:Nat),ops[i]?=some o->ps[i]?=some p->p.testBit q=true->∃e∈o.after.toList,Region.binds .any e=true/\(e.on=q\/∃p',ps[e.on]?=some p'/\p'.testBit q=true)
theorem VJ{ks:List Nat}{fps:List FP}{st:List (Option Tmp×Mn)}{s':S}(hc:wF ops n ks fps=true)(hb:∀k,k∈ks->∀t,(s.gt t).is k=false)(h:aML P X0 n ops ops.toList s fps st s'):Mix P X0 n ops s st (CI.nk ops.toList []):=by
 obtain⟨k1,k2⟩:=AV hc;obtain⟨e1,_⟩:=Cr 0 h;have at':=fun j o (ho:ops[j]?=some o)=>Oo 0 h j o (aO _) (by rw[lv];simpa using ho);refine⟨by simpa using e1,fun j o ho=>?_,fun i o p q ho hp hq=>?_⟩
 ·obtain⟨f,m,q1,q2,q3,q4⟩:=at' j o ho;rw[lv]at q1 q2;obtain⟨f1,p,r1,r2,r3,r4,_,r6⟩:=k2 j o (by simpa using ho);rw[q1]at r1;simp only[ak]at r1;subst r1;simp only[gW,bw]at r3 r6;refine⟨f,p,m,r2,q2,q3,q4,r3,fun k hk t=>hb k ?_ t,fun i o' hi ho'=>?_,fun i o' hi ho'=>?_⟩
  ·have:=r4 k hk;have hh:∀{l:List Nat},CI.sR k l=true->k∈l:=fun {l}=>by
    induction l with
    |nil=>intro h;simp[CI.sR]at h
    |cons x l ih=>
     intro h;simp only[CI.sR]at h;split at h
     ·next hb=>rw[ed hb];exact bn
     ·exact bu _ (ih h)
   exact hh this
  ·obtain⟨f',m',q1',q2',q3',_⟩:=at' i o' ho';rw[lv]at q1' q2';exact⟨f',m',q2',q3',r6 i o' f' hi (by simpa using ho') q1'⟩
  ·obtain⟨f',m',q1',q2',q3',_⟩:=at' i o' ho';rw[lv]at q1' q2';obtain⟨f1,p',t1,t2,_,_,_,t6⟩:=k2 i o' (by simpa using ho');rw[q1']at t1;simp only[ak]at t1;subst t1;simp only[gW,bw]at t6;exact⟨f',m',p',q2',q3',t2,t6 j o f hi (by simpa using ho) q1⟩
 ·have h2:=CI.B4 ops.toList [] i o (by simpa using ho);simp only[gW,bw]at h2;rw[hp]at h2;simp only[ak]at h2;rw[h2]at hq;obtain⟨e,he,hb',hh⟩:=CI.qg hq;refine⟨e,he,hb',hh.imp id fun hx=>?_⟩;rw[CI.za,iB]at hx;split at hx
  ·cases hz:(CI.nk ops.toList [])[e.on]? with
   |none=>rw[hz]at hx;simp at hx
   |some p'=>rw[hz]at hx;exact⟨p',rfl,by simpa using hx⟩
  ·simp at hx
end
end DW
end
section
open Go.RowKit
namespace DW
section
variable {P : Program} {X0 : Nat->Prop} {n : Nat} {ops : Array Oper} {Q : Exit->S->Prop} {s : S} {st : List (Option Tmp × Mn)} {ps : List Nat} {L : Nat->Bool} {j : Nat} {o : Oper}
def Bo(ps:List Nat)(L:Nat->Bool):Prop:=∀i p q,L i=true->ps[i]?=some p->p.testBit q=true->L q=true
theorem Cg{t:Nat}{x:Option Tmp}{l:List Nat}(h:x=some t)(hl:t∈l):CI.sQ x l=true:=by
 rw[h];exact CI.qx hl
theorem AH{o' o:Oper}{f' f:FP}{p i:Nat}(h:mJ ops o' o f' f p i=true):never f' f=false:=by
 unfold mJ at h;simp only[eH,vS]at h;exact h.2
theorem AI{o' o:Oper}{f' f:FP}{p i:Nat}(h:mJ ops o' o f' f p i=true)(hc:lA ops o' o=true\/fR f' f=true):p.testBit i=true:=by
 unfold mJ at h;simp only[eH,tz,vS,vT]at h;rcases h.1 with⟨h1,h2⟩|h1
 ·rcases hc with hc|hc
  ·rw[h1]at hc;cases hc
  ·rw[h2]at hc;cases hc
 ·exact h1
theorem je{f' f:FP}{k:Nat}(h1:k∈f.al)(h2:k∈f'.rc\/k∈f'.rs\/k∈f'.wc\/k∈f'.me\/k∈f'.al):never f' f=true:=by
 refine qw h1 ?_;simp only[gy];rcases h2 with h|h|h|h|h<;>simp[h]
theorem Eb{f' f:FP}{k:Nat}(h1:k∈f'.wc)(h2:k∈f.rc\/k∈f.wc):fR f' f=true:=by
 unfold fR;rw[qw h1 (gy.2 h2)];simp only[Bool.true_or]
theorem blk_r{f' f:FP}{k:Nat}(h1:k∈f'.rc)(h2:k∈f.wc):fR f' f=true:=by
 unfold fR;rw[qw h1 h2];simp only[Bool.true_or,td]
theorem sF{f' f:FP}{k:Nat}(h1:k∈f'.al)(h2:k∈f.rc\/k∈f.rs\/k∈f.wc\/k∈f.me):fR f' f=true:=by
 unfold fR;rw[qw h1 (by simp only[gy];rcases h2 with h|h|h|h<;>simp[h])];simp only[Bool.true_or,td]
theorem blk_d{f' f:FP}{k:Nat}(h1:k∈dlN f'.al)(h2:k∈f.rs):fR f' f=true:=by
 unfold fR;rw[qw h1 h2];simp only[Bool.true_or,td]
theorem Wj{f' f:FP}{k:Nat}(h1:k∈dlN f.al)(h2:k∈f'.rs):fR f' f=true:=by
 unfold fR;rw[qw h1 h2];simp only[td]
theorem Se{m:Mn}{f:FP}{k:Nat}(h:rC m f)(ht:m.tc k=true):k∈f.wc\/k∈f.al:=by
 cases m with
 |val d=>simp[Mn.tc]at ht
 |alloc j q d=>rw[<-ed ht];exact .inr h.1
 |store j i d=>rw[<-ed ht];exact .inl h
 |app j nw d=>
  simp only[Mn.tc,tz,ku]at ht;rcases ht with ht|⟨p,hp,ht⟩
  ·rw[<-ed ht];exact .inl h.1
  ·rw[<-ed ht];exact .inr (h.2.2.1 p hp)
theorem mk_of{m:Mn}{f:FP}{k:Nat}(h:rC m f)(ht:m.mk' k=true):k∈f.al\/k∈dlN f.al/\k∈f.wc:=by
 cases m with
 |val d=>simp[Mn.mk']at ht
 |alloc j q d=>rw[<-ed ht];exact .inl h.1
 |store j i d=>simp[Mn.mk']at ht
 |app j nw d=>
  simp only[Mn.mk',tz,ku]at ht;rcases ht with ht|⟨p,hp,ht⟩
  ·rw[<-ed ht];exact .inr ⟨h.2.1,h.1⟩
  ·rw[<-ed ht];exact .inl (h.2.2.1 p hp)
theorem dt_of{m:Mn}{f:FP}{k:Nat}{d:D}(h:rC m f)(hd:m.dt=some d)(hk:d.is k=true):k∈f.me\/k∈f.al:=by
 cases m with
 |val d'=>simp[Mn.dt]at hd;subst hd;exact .inl (h k hk)
 |alloc j q d'=>simp[Mn.dt]at hd;subst hd;rw[h.2 k hk];exact .inr h.1
 |store j i d'=>simp[Mn.dt]at hd
 |app j nw d'=>simp[Mn.dt]at hd;subst hd;exact .inr (h.2.2.2 k hk)
theorem Mix.oper(M:Mix P X0 n ops s st ps){x:Nat}{t:Option Tmp}{m:Mn}(h:st[x]?=some (t,m)):∃o,ops[x]?=some o:=by
 have:=(ct.1 h).1;rw[M.len]at this;exact⟨ops[x],mD this⟩
theorem Mix.other(M:Mix P X0 n ops s st ps)(hL:Bo ps L)(ho:ops[j]?=some o):∃f m p,st[j]?=some (o.dst,m)/\ps[j]?=some p/\rC m f/\MS P X0 n ops o (stL (fun i=>Nat.blt i j) st 0 s) m f/\(∀k∈f.al,∀t,(s.gt t).is k=false)/\
  (L j=false->(∀q,p.testBit q=true->L q=true)->∀x t' m',st[x]?=some (t',m')->∃o' f',ops[x]?=some o'/\t'=o'.dst/\rC m' f'/\
   ((x<j/\never f' f=false/\(lA ops o' o=true\/fR f' f=true->L x=true))\/(x=j)\/(j<x/\never f f'=false/\(lA ops o o'=true\/fR f f'=true->L x=false)))):=by
 obtain⟨f,p,m,h1,h2,h3,h4,h5,h6,h7,h8⟩:=M.row j o ho;refine⟨f,m,p,h2,h1,h3,h4,h6,fun hj hp x t' m' hx=>?_⟩;obtain⟨o',ho'⟩:=M.oper hx;rcases mW x j with e|e|e
 ·obtain⟨f',m'',q1,q2,q3⟩:=h7 x o' e ho';rw[hx]at q1;simp only[ak,aR]at q1;obtain⟨rfl,rfl⟩:=q1;exact⟨o',f',ho',rfl,q2,.inl ⟨e,AH q3,fun hc=>hp x (AI q3 hc)⟩⟩
 ·subst e;rw[ho]at ho';simp only[ak]at ho';subst ho';rw[h2]at hx;simp only[ak,aR]at hx;obtain⟨rfl,rfl⟩:=hx;exact⟨o,f,ho,rfl,h3,.inr (.inl rfl)⟩
 ·obtain⟨f',m'',p',q1,q2,q3,q4⟩:=h8 x o' e ho';rw[hx]at q1;simp only[ak,aR]at q1;obtain⟨rfl,rfl⟩:=q1;refine⟨o',f',ho',rfl,q2,.inr (.inr ⟨e,AH q4,fun hc=>?_⟩)⟩;have hb:=AI q4 hc
  cases hLx:L x with
  |false=>rfl
  |true=>
   have:=hL x p' j hLx q3 hb;rw[hj]at this;cases this
theorem eP{b:Bool}(h:b=false)(h':b=true):False:=by rw[h]at h';cases h'
theorem Co{i k:Nat}(h:i<k):Nat.blt i k=true:=by rw[bB];exact h
theorem Mix.step(M:Mix P X0 n ops s st ps)(hL:Bo ps L)(ho:ops[j]?=some o)(hj:L j=false)(hp:∀p q,ps[j]?=some p->p.testBit q=true->L q=true){L':Nat->Bool}(h2:L' j=true)(h3:∀x,x≠j->L' x=L x):
  ∃m,(∀w0 g a w,Hd X0 n w0 (stL L st 0 s) g a w->∀Qx:Exit->Act->World->Prop,
   if Region.wanted o (yielded ops a.tmps)=true then o.wp P a w (fun a' w'=>∃g',Hd X0 n w0 (mAp o.dst m (stL L st 0 s)) g' a' w') Qx else∃g',Hd X0 n w0 (mAp o.dst m (stL L st 0 s)) g' (a.put o.dst undef) w)/\Eqv (mAp o.dst m (stL L st 0 s)) (stL L' st 0 s):=by
 obtain⟨f,m,p,e1,e2,e3,e4,e5,e6⟩:=M.other (L:=L) hL ho;have oth:=e6 hj (fun q hq=>hp p q e2 hq);refine⟨m,e4 _ ⟨fun t ht=>?_,fun k hk=>?_,fun k hk=>?_,fun k hk=>⟨?_,fun t=>?_⟩⟩,?_⟩
 ·refine LY st 0 s s rfl fun x m' hx=>?_;rw[bw];obtain⟨o',f',q1,q2,q3,q4⟩:=oth x _ m' hx;rcases q4 with⟨e,_,hc⟩|e|⟨e,_,hc⟩
  ·rw[Co e];refine hc (.inl ?_);unfold lA;rw[Cg q2.symm ht];rfl
  ·subst e;rw[hj,oE (af _)]
  ·rw[oE (bQ e)];refine hc (.inl ?_);unfold lA;rw[Cg q2.symm ht,td];rfl
 ·refine BN st 0 s s rfl fun x t' m' hx hm=>?_;rw[bw];obtain⟨o',f',q1,q2,q3,q4⟩:=oth x _ m' hx;have ht:=Se q3 hm;rcases q4 with⟨e,hn,hc⟩|e|⟨e,hn,hc⟩
  ·rw[Co e];exact hc (.inr (ht.elim (fun h=>Eb h (.inl hk)) (fun h=>sF h (.inl hk))))
  ·subst e;rw[hj,oE (af _)]
  ·rw[oE (bQ e)];rcases ht with ht|ht
   ·exact hc (.inr (blk_r hk ht))
   ·exact(eP hn (je ht (.inl hk))).elim
 ·refine H7 st 0 s s rfl fun x t' m' hx hm=>?_;rw[bw];obtain⟨o',f',q1,q2,q3,q4⟩:=oth x _ m' hx;have ht:=mk_of q3 hm;rcases q4 with⟨e,hn,hc⟩|e|⟨e,hn,hc⟩
  ·rw[Co e];rcases ht with ht|⟨ht,hw⟩
   ·exact hc (.inr (sF ht (.inr (hk.elim .inl (fun h=>.inr (.inl h))))))
   ·exact hc (.inr (hk.elim (fun h=>blk_d ht h) (fun h=>Eb hw (.inr h))))
  ·subst e;rw[hj,oE (af _)]
  ·rcases ht with ht|⟨ht,hw⟩
   ·exact(eP hn (je ht (.inr (hk.elim .inl (fun h=>.inr (.inl h)))))).elim
   ·rw[oE (bQ e)];exact hc (.inr (hk.elim (fun h=>Wj ht h) (fun h=>Eb h (.inr hw))))
 ·refine BN st 0 s s rfl fun x t' m' hx hm=>?_;rw[bw];obtain⟨o',f',q1,q2,q3,q4⟩:=oth x _ m' hx;have ht:=Se q3 hm;rcases q4 with⟨e,hn,hc⟩|e|⟨e,hn,hc⟩
  ·exact(eP hn (je hk (by rcases ht with h|h<;>simp[h]))).elim
  ·subst e;rw[hj,oE (af _)]
  ·rw[oE (bQ e)];rcases ht with ht|ht
   ·exact hc (.inr (sF hk (by simp[ht])))
   ·exact(eP hn (je ht (by simp[hk]))).elim
 ·rcases BL (L:=L) (u:=t) st 0 s with h|⟨x,t',m',d,q1,q2,q3,q4⟩
  ·rw[h];exact e5 k hk t
  ·rw[q4]
   cases hd:d.is k with
   |false=>rfl
   |true=>
    exfalso;rw[bw]at q2;obtain⟨o',f',_,_,r3,r4⟩:=oth x _ m' q1;have ht:=dt_of r3 q3 hd;rcases r4 with⟨e,hn,_⟩|e|⟨e,hn,hc⟩
    ·exact eP hn (je hk (by rcases ht with h|h<;>simp[h]))
    ·subst e;exact eP hj q2
    ·rcases ht with ht|ht
     ·exact eP (hc (.inr (sF hk (by simp[ht])))) q2
     ·exact eP hn (je ht (by simp[hk]))
 ·refine EY st 0 j s (aO _) (by rw[lv];exact e1) hj h2 h3 fun x t' m' hx hs hLx=>?_;rw[bw]at hx hLx;obtain⟨o',f',q1,q2,q3,q4⟩:=oth x _ m' hs;rcases q4 with⟨e,_⟩|e|⟨e,hn,hc⟩
  ·omega
  ·omega
  ·refine⟨fun u h1 h2=>?_,fun k q d k' i' d' h1 h2 hk=>?_,fun k q d k' i' d' h1 h2 hk=>?_,fun k i d k' i' d' h1 h2 hk=>?_,fun k nw d k' q' d' h1 h2 hk=>?_,fun k nw d k' q' d' h1 h2 hk=>?_,fun k nw d k' i d' h1 h2 p hp hk=>?_,fun k nw d k' i d' h1 h2 p hp hk=>?_,fun k nw d k' nw' d' h1 h2=>⟨fun p hp hk=>?_,fun p hp hk=>?_⟩⟩
   ·refine eP (hc (.inl ?_)) hLx;unfold lA;rw[Cg (x:=o'.dst) (l:=o.dst.toList) (q2.symm.trans h2) (by rw[h1];simp),td]
   ·subst h1;subst h2;subst hk;exact eP (hc (.inr (sF e3.1 (.inr (.inr (.inl q3)))))) hLx
   ·subst h1;subst h2;subst hk;exact eP hn (je q3.1 (.inr (.inr (.inl e3))))
   ·subst h1;subst h2;subst hk;exact eP (hc (.inr (Eb e3 (.inr q3)))) hLx
   ·subst h1;subst h2;subst hk;exact eP hn (je q3.1 (.inr (.inr (.inl e3.1))))
   ·subst h1;subst h2;subst hk;exact eP (hc (.inr (sF e3.1 (.inr (.inr (.inl q3.1)))))) hLx
   ·subst h1;subst h2;subst hk;exact eP (hc (.inr (sF (e3.2.2.1 p hp) (.inr (.inr (.inl q3)))))) hLx
   ·subst h1;subst h2;subst hk;exact eP hn (je (q3.2.2.1 p hp) (.inr (.inr (.inl e3))))
   ·subst h1;subst h2;subst hk;exact eP (hc (.inr (sF (e3.2.2.1 p hp) (.inr (.inr (.inl q3.1)))))) hLx
   ·subst h1;subst h2;subst hk;exact eP hn (je (q3.2.2.1 p hp) (.inr (.inr (.inl e3.1))))
theorem Ui(M:Mix P X0 n ops s st ps){Qx:Exit->Act->World->Prop}{w0:Bs}(hq:∀g a w,Hd X0 n w0 (stL (fun _=>true) st 0 s) g a w->Qx .normal a w):∀(fuel:Nat) (listed:Array Bool) (a:Act) (w:World) (g:Nat->Value) (U:List Nat),listed.size=ops.size->U.length<=fuel->(∀i,i<ops.size->listed.getD i false=false->i∈U)->
  Bo ps (fun i=>listed.getD i false)->Hd X0 n w0 (stL (fun i=>listed.getD i false) st 0 s) g a w->wpAny P .any ops Qx fuel listed a w:=by
 have done:∀(listed:Array Bool) (a:Act) (w:World) (g:Nat->Value),(∀i,i<ops.size->listed.getD i false=true)->Hd X0 n w0 (stL (fun i=>listed.getD i false) st 0 s) g a w->Qx .normal a w:=fun listed a w g hall hh=>by
  refine hq g a w (hh.eqv (Eqv.of ?_));have key:∀(l:List (Option Tmp×Mn)) (i:Nat) (σ:S),(∀x,x<l.length->listed.getD (i+x) false=true)->stL (fun i=>listed.getD i false) l i σ=stL (fun _=>true) l i σ:=fun l=>by
   induction l with
   |nil=>intro i σ _;rfl
   |cons x l ih=>
    intro i σ hx;obtain⟨t,m⟩:=x;have h0:=hx 0 aU;rw[bZ]at h0;simp only[stL,h0];exact ih (i+1) _ fun y hy=>by
     have:=hx (y+1) cU;rwa[show i+(y+1)=i+1+y by omega]at this
  exact key st 0 s fun x hx=>by rw[bw];exact hall x (by rw[<-M.len];exact hx)
 have unl:∀(listed:Array Bool) (j:Nat),listed.size=ops.size->listed.getD j true=false->j<ops.size/\listed.getD j false=false:=fun listed j hs hl=>by
  rw[cS]at hl
  cases e:listed[j]? with
  |none=>rw[e]at hl;simp at hl
  |some b=>
   rw[e]at hl;have hlt:=(iG.1 e).1;refine⟨by omega,?_⟩;rw[cS,e];simpa using hl
 intro fuel
 induction fuel with
 |zero=>
  intro listed a w g U hs hU hin hcl hh;have hUn:U=[]:=gP aa;subst hUn;have hall:∀i,i<ops.size->listed.getD i false=true:=fun i hi=>by
   cases hb:listed.getD i false with
   |true=>rfl
   |false=>exact absurd (hin i hi hb) aU
  refine⟨?_,done listed a w g hall hh⟩
  cases hr:Region.ready .any ops listed with
  |nil=>rfl
  |cons x xs=>
   exfalso;have hx:x∈Region.ready .any ops listed:=by rw[hr];exact bn
   obtain⟨h1,h2⟩:=unl listed x hs (mem_ready.1 hx).1;rw[hall x h1]at h2;cases h2
 |succ fuel ih=>
  intro listed a w g U hs hU hin hcl hh;refine⟨fun hr=>?_,fun j hj=>?_⟩
  ·refine done listed a w g (fun i=>?_) hh
   induction i using Nat.strongRecOn with
   |_ i ihi=>
    intro hi
    cases hb:listed.getD i false with
    |true=>rfl
    |false=>
     exfalso;have hmem:i∈Region.ready .any ops listed:=by
      refine mem_ready.2 ⟨?_,ops[i],mD hi,fun e he hbd=>?_⟩
      ·have e:=mD (xs:=listed) (i:=i) aa;rw[cS,e]at hb⊢;simpa using hb
      ·obtain⟨_,_,_,_,_,_,_,h5,_⟩:=M.row i ops[i] (mD hi);have hlt:=CI.rl h5 e uE hbd;exact ihi e.on hlt aa
     rw[hr]at hmem;cases hmem
  ·obtain⟨h1,o,ho,h3⟩:=mem_ready.1 hj;obtain⟨hjs,hjl⟩:=unl listed j hs h1;have hpre:∀p q,ps[j]?=some p->p.testBit q=true->listed.getD q false=true:=fun p q hp hq=>by
    obtain⟨e,he,hbd,hx⟩:=M.pre j o p q ho hp hq;have hl:=h3 e uE hbd;rcases hx with hx|⟨p',hp',hq'⟩
    ·rw[<-hx];exact hl
    ·exact hcl e.on p' q hl hp' hq'
   have hset1:(listed.setIfInBounds j true).getD j false=true:=by
    simp[cS,tw,show j<listed.size by omega]
   have hset2:∀i,i≠j->(listed.setIfInBounds j true).getD i false=listed.getD i false:=fun i e=>by
    simp[cS,zO (Ne.symm e)]
   obtain⟨m,hstep,heq⟩:=M.step (L:=fun i=>listed.getD i false) hcl ho hjl hpre (L':=fun i=>(listed.setIfInBounds j true).getD i false) hset1 hset2;have hjU:j∈U:=hin j hjs hjl;have hcl':Bo ps (fun i=>(listed.setIfInBounds j true).getD i false):=fun i p q hi hp hq=>by
    have key:listed.getD q false=true:=by
     by_cases e:i=j
     ·subst e;exact hpre p q hp hq
     ·exact hcl i p q (by show listed.getD i false=true;rw[<-hset2 i e];exact hi) hp hq
    by_cases e:q=j
    ·subst e;exact hset1
    ·simp only[hset2 q e];exact key
   have go:∀g' a' w',Hd X0 n w0 (mAp o.dst m (stL (fun i=>listed.getD i false) st 0 s)) g' a' w'->wpAny P .any ops Qx fuel (listed.setIfInBounds j true) a' w':=fun g' a' w' h=>by
    refine ih _ _ _ g' (U.erase j) (by simp[hs]) (by rw[List.length_erase_of_mem hjU];omega) (fun i hi hb=>?_) hcl' (h.eqv heq);have hne:i≠j:=fun e=>by subst e;rw[hset1]at hb;cases hb
    exact(List.mem_erase_of_ne hne).2 (hin i hi (by rw[<-hset2 i hne];exact hb))
   refine wpOp_step ho fun K' hK=>?_;have:=hstep w0 g a w hh Qx;split
   ·next hw=>
    rw[an hw]at this;exact Oper.wp_mono (fun a' w' ⟨g',h⟩=>hK _ _ (go g' a' w' h)) this
   ·next hw=>
    rw[aj hw]at this;obtain⟨g',h⟩:=this;exact hK _ _ (go g' _ _ h)
def lj:List Nat->List (Nat×D)->List (Nat×D)
 |[],sl=>sl
 |k::ks,sl=>kill k (lj ks sl)
theorem F9:∀{ks:List Nat} {sl:List (Nat×D)} {k:Nat},k∈ks->∀t,(look (lj ks sl) t).is k=false
 |j::ks,sl,k,h,t=>by
  simp only[lj];rcases iY j (lj ks sl) t with⟨h1,h2⟩|h1
  ·rcases bC.1 h with e|e
   ·subst e;rw[h1];exact h2
   ·rw[h1];exact F9 e t
  ·rw[h1];rfl
theorem Ge:∀(ks:List Nat) {w0:Bs} {w:World} {f:Nat->Value} {a:Act} {sl:List (Nat×D)} {ow:List (Nat×Ow)},Hd X0 n w0 ⟨sl,ow⟩ f a w->Hd X0 n w0 ⟨lj ks sl,ow⟩ f a w
 |[],_,_,_,_,_,_,h=>h
 |_::ks,_,_,_,_,_,_,h=>(Ge ks h).kill
theorem Wo{id:Nat}{l:List Oper}(ks:List Nat){fps:List FP}(hm:P.follows .mixedOrders=true)(h:aM P X0 n l.toArray l ⟨lj ks s.sl,s.ow⟩ fps (Q .normal))(hc:wF l.toArray n ks fps=true):aW P X0 n (.region id l.toArray true) Q s:=fun w0 f a w hd=>by
 obtain⟨st,s',h1,h2⟩:=On h;have M:=VJ (P:=P) (X0:=X0) (s:=⟨lj ks s.sl,s.ow⟩) (st:=st) (s':=s') hc (fun k hk t=>F9 hk t) (by simpa using h1);obtain⟨_,e2⟩:=Cr 0 h1;refine wp_region_any hm (Ui M (w0:=w0) (fun g a' w' hh=>?_) _ _ a _ f (List.range l.toArray.size) aU aU (fun i hi _=>zW.2 hi) ?_ ?_)
 ·rw[<-e2]at hh;exact⟨s',g,hh,h2⟩
 ·intro i p q hi;simp only[cS,ED]at hi;split at hi<;>simp at hi
 ·have hz : stL (fun i => (Array.replicate l.toArray.size false).getD i false) st 0 ⟨lj ks s.sl, s.ow⟩ = ⟨lj ks s.sl, s.ow⟩ := yB _ _ _ fun i _ => by
   simp only[cS,ED];split<;>rfl
  rw[hz];exact(Ge ks hd).grow ((Below.refl _ w).drew)
end
end DW
end
section
open Go.RowKit
namespace DW
section
variable {P : Program} {X0 : Nat->Prop} {n : Nat} {sl : List (Nat × D)} {ow : List (Nat × Ow)} {o : Oper} {ops : Array Oper} {l : List Oper} {K : S->Prop} {t : Nat} {d : D} {fs : List FP}
theorem OG{T:TypeId}{k wd:Nat}{z:Value}(hdst:o.dst=some t)(ht:Nat.blt t n=true)(ho:o.op= .alloc T)(hk:∀p∈ow,p.1≠k)
  (hz:(P.info? T).map (fun i=>i.zero)=some (some z)) (hd:cst z=d) (hf:d.fits=true) (hw:d.wd=wd) (h0:Nat.blt 0 wd=true) (hn:d.nw=true) (hk0:Nat.blt k 1000000=true) {w0:Bs} {w:World} {f:Nat->Value} {a:Act} (hh:Hd X0 n w0 ⟨sl,ow⟩ f a w) (Qx:Exit->Act->World->Prop):
  o.wp P a w (fun a' w'=>∃f',Hd X0 n w0 ⟨(t,.opt k 0)::kill k sl,(k,⟨T,wd,[d]⟩)::ow⟩ f' a' w') Qx:=by
 subst hw;subst hd
 cases hq:P.info? T with
 |none=>rw[hq]at hz;cases hz
 |some inf=>
  rw[hq]at hz;simp only[cG,ak]at hz;have hsz:z.cells.size=(cst z).wd:=AR.size (X:=XO X0 ⟨sl,ow⟩ f) (w:=w) _ _ hf (by
   have:=jV (X:=XO X0 ⟨sl,ow⟩ f) (f:=f) (w:=w) z;cases hc:cst z<;>rw[hc]at this hf<;>first|exact this|simp[D.fits]at hf)
  have h0':0<(cst z).wd:=by simpa[bB]using h0
  have hAR:AR (XO X0 ⟨sl,ow⟩ f) w (cst z) z:=by
   have:=jV (X:=XO X0 ⟨sl,ow⟩ f) (f:=f) (w:=w) z;cases hc:cst z<;>rw[hc]at this hf<;>first|exact this|simp[D.fits]at hf
  have hrun:(execOp a.eval o).run P w= .ok (.value (.pointer (some ⟨w.heap.size,0,none⟩))) (w.alloc (.cells z.cells T)):=by
   unfold execOp;simp only[ho];simp[Instr.alloc,zeroValue,typeInfo,hq,hz,newVar,newRow]
  unfold Oper.wp;rw[hrun];simp only[Oper.upon,hdst];refine⟨_,hh.new (k:=k) (cap:=1) (q:=⟨T,(cst z).wd,[cst z]⟩) hk hk0 h0' (af _) (by simp[maxLen]) (by simpa using hsz) ⟨z,[],?_,hAR,hf,rfl,hn,rfl⟩ (.inl aU) yu (fun X=>?_)⟩
  ·simp only[kv,dc,kB];rw[cf (by simp[hsz])]
  ·simp only[SR,if_true];exact⟨w.heap.size,1,1,rfl,rfl⟩
theorem OC{x y:Operand}{T tt:TypeId}{k off wd i:Nat}{lo:List D}(hdst:o.dst=none)(ho:o.op= .store tt x y)(hx:S.op ⟨sl,ow⟩ x= .opt k off)(hy:S.op ⟨sl,ow⟩ y=d)(hk:(k,(⟨T,wd,lo⟩:Ow))∈ow)
  (hoff:off=i*wd) (hi:i<lo.length) (hf:d.fits=true) (hw:d.wd=wd) (hn:d.nw=true) (hz:(P.info? tt).map (·.size)=some wd) (hkh:hdr k=false) {w0:Bs} {w:World} {f:Nat->Value} {a:Act} (hh:Hd X0 n w0 ⟨sl,ow⟩ f a w) (Qx:Exit->Act->World->Prop):
  o.wp P a w (fun a' w'=>∃f',Hd X0 n w0 ⟨sl,cw k i d ow⟩ f' a' w') Qx:=by
 subst hoff;subst hw;have h1:=hh.op x;have h2:=hh.op y;rw[hx]at h1;rw[hy]at h2;simp only[SR]at h1;obtain⟨g,n',c',e1,e2⟩:=h1;have hAR:AR (XO X0 ⟨sl,ow⟩ f) w d (a.eval y):=by cases d<;>first|exact h2|simp[D.fits]at hf
 have hsz:=AR.size _ _ hf hAR;obtain⟨hw0,xs,⟨hxl,h10⟩,h11'⟩:=hh.ow _ hk;have h11:=h11'.pl hkh;simp only at h10 h11 hw0 hxl;rcases h10 with⟨h12,_⟩|⟨g',cap,cur,h12,hb,hgg,hle,hm,hcs,htk⟩
 ·rw[e1]at h12;cases h12
 rw[e1]at h12;cases h12;have hlt:i*d.wd+d.wd<=lo.length*d.wd:=by
  have:=cF d.wd (show i+1<=lo.length by omega);rw[bO,dc]at this;exact this
 have hle2:lo.length*d.wd<=c'*d.wd:=cF _ hle
 cases hq:P.info? tt with
 |none=>rw[hq]at hz;cases hz
 |some inf=>
  rw[hq]at hz;simp only[cG,ak]at hz;have hst:=run_storeCells_at (P:=P) g (i*d.wd) T (a.eval y).cells.toList 0 cur w hgg (by simp only[bX,bZ];omega) (AR.one _ _ hf hAR);have hrun:(execOp a.eval o).run P w= .ok .skip (w.setRow g (cur.toList.take (i*d.wd)++(a.eval y).cells.toList++cur.toList.drop (i*d.wd+d.wd)).toArray):=by
   unfold execOp;simp only[ho,Instr.storeAt,Instr.sureAddr,e2,storeVar,sizeOf,typeInfo];simp only[bZ,bX,hsz]at hst;simp[hq,hz,hsz,hst]
  unfold Oper.wp;rw[hrun];simp only[Oper.upon,hdst,Act.put];have hgrow:w.grownBy (w.setRow g (cur.toList.take (i*d.wd)++(a.eval y).cells.toList++cur.toList.drop (i*d.wd+d.wd)).toArray) (f k).ownBlock:=⟨rfl,rfl,rfl,by simp,fun b _ hb=>setRow_other w g b _ (fun e=>hb (by simp[e1,Value.ownBlock,e]))⟩;have hclen:cur.toList.length=c'*d.wd:=by simp[hcs]
  refine⟨f,hh.set (k:=k) (i:=i) (q:=⟨T,d.wd,lo⟩) (d:=d) (xs:=(cur.toList.take (i*d.wd)++(a.eval y).cells.toList++cur.toList.drop (i*d.wd+d.wd)).take (lo.length*d.wd)) hk hi hgrow ⟨?_,.inr ⟨g,c',_,e1,hb,setRow_heap w g cur _ T _ hgg,hle,hm,?_,?_⟩⟩ ?_⟩
  ·simp only[aY,cv,de,bX,hsz,hcs];omega
  ·simp only[pE,cv,aY,de,bX,hsz,hcs];omega
  ·simp only[tu]
  ·
   have key:∀(lo:List D) (i:Nat) (ys:List Value),Els (XO X0 ⟨sl,ow⟩ f) w d.wd lo ys->i<lo.length->Els (XO X0 ⟨sl,ow⟩ f) w d.wd (lo.set i d) (ys.take (i*d.wd)++(a.eval y).cells.toList++ys.drop (i*d.wd+d.wd)):=fun lo=>by
    induction lo with
    |nil=>intro i ys _ hi;simp at hi
    |cons d0 lo ih=>
     intro i ys ⟨u,rest,k1,k2,k3,k4,k5,k6⟩ hi;have hu:=AR.size d0 u k3 k2;have hul:u.cells.toList.length=d.wd:=by rw[bX,hu,k4]
     match i with
     |0=>
      simp only[et,lW,dw,ew,bw];refine⟨a.eval y,rest,?_,hAR,hf,rfl,hn,k6⟩;rw[k1,qJ aa,jx aa,ew]
     |i+1=>
      simp only[jr];refine⟨u,_,?_,k2,k3,k4,k5,ih i rest k6 (by simpa using hi)⟩;rw[k1,show(i+1)*d.wd=d.wd+i*d.wd by rw[bO,dc,mX],List.take_append,cf aa,hul,oc,fK,fK,fK,
       zZ,jx aa,ew,hul,show d.wd+i*d.wd+d.wd-d.wd=i*d.wd+d.wd by omega]
   have h13:=key lo i xs h11 hi;have e0:cur.toList=xs++cur.toList.drop (lo.length*d.wd):=by rw[<-htk];exact(rQ _ _).symm
   have e5:(cur.toList.take (i*d.wd)++(a.eval y).cells.toList++cur.toList.drop (i*d.wd+d.wd)).take (lo.length*d.wd)=List.take (i*d.wd) xs++(a.eval y).cells.toList++List.drop (i*d.wd+d.wd) xs:=by
    have a1:cur.toList.take (i*d.wd)=xs.take (i*d.wd):=by rw[<-htk,List.take_take,dK aa]
    have a2:cur.toList.drop (i*d.wd+d.wd)=xs.drop (i*d.wd+d.wd)++cur.toList.drop (lo.length*d.wd):=by
     have:=jS (List.drop (i*d.wd+d.wd)) e0;rw[qJ aa]at this;exact this
    rw[a1,a2,<-fK,zY zb57]
   rw[e5];exact EE.of h13 hkh
theorem PE{x:Operand}(hx:x∈o.op.operands){u:Nat}(e:x= .tmp u):u∈CI.looks ops o:=by
 subst e;unfold CI.looks;exact EB _ (List.mem_filterMap.2 ⟨.tmp u,by simpa using hx,rfl⟩)
theorem PF{j u:Nat}{c:Bool}(hg:o.guard=some (j,c))(hj:(ops[j]?).bind (·.dst)=some u):u∈CI.looks ops o:=by
 unfold CI.looks;rw[hg];simp only[hj];exact List.mem_append_left _ aU
section
variable {f : FP} {sj σ : S}
theorem vI.op(ag:vI ops o f sj σ){x:Operand}(hx:x∈o.op.operands):σ.op x=sj.op x:=by
 cases x with
 |tmp u=>exact ag.sl u (PE hx rfl)
 |const v=>rfl
 |global g=>rfl
 |func g=>rfl
theorem vI.eM(ag:vI ops o f sj σ){b:Bool}(h:eM ops [] sj o b):eM ops [] σ o b:=by
 unfold DW.eM at h⊢
 cases hg:o.guard with
 |none=>rw[hg]at h;exact h
 |some p=>
  obtain⟨j,c⟩:=p;rw[hg]at h;simp only at h⊢;obtain⟨t,e,h1,h2,h3,h4⟩:=h;exact⟨t,e,h1,h2,by rw[ag.sl t (PF hg h1)];exact h3,h4⟩
theorem vI.I7(ag:vI ops o f sj σ){k:Nat}{q:Ow}(hk:k∈f.rc)(h:(k,q)∈sj.ow):(k,q)∈σ.ow:=by
 have:=kK.2 h;rw[<-ag.rc k hk]at this;exact kK.1 this
theorem vI.Ic(ag:vI ops o f sj σ){k:Nat}{q:Ow}(hk:k∈f.rs\/k∈f.wc)(h:(k,q)∈sj.ow):∃l',l'.length=q.l.length/\(k,(⟨q.T,q.wd,l'⟩:Ow))∈σ.ow:=by
 have h1:(q.T,q.wd,q.l.length)∈shp k sj.ow:=dY.2 ⟨(k,q),kK.2 h,rfl⟩;rw[<-ag.rs k hk]at h1;obtain⟨⟨k',q'⟩,h2,h3⟩:=dY.1 h1;have:=ue h2;simp only at this;subst this;simp only[aR]at h3;refine⟨q'.l,h3.2.2,?_⟩;rw[<-h3.1,<-h3.2.1];exact kK.1 h2
theorem qp{w0:Bs}{w:World}{g:Nat->Value}{a:Act}(hh:Hd X0 n w0 σ g a w){b:Bool}(h:eM ops [] σ o b):Region.wanted o (yielded ops a.tmps)=b:=by
 have hi:HI (XO X0 σ g) n w g Own3.Fs.none [] σ a:=⟨hh.sz,hh.df,fun t _=>hh.sl t,fun t u e=>by simp[ic]at e⟩;exact hi.want h
end
theorem M7{f:FP}{own:List (Nat×Ow)}(hw:eM ops [] ⟨sl,ow⟩ o true)(ht:dh n o=true)(hd:bH P o ⟨sl,own⟩ d)(ho:∀p∈own,p∈ow/\p.1∈f.rc):MS P X0 n ops o ⟨sl,ow⟩ (.val d) f:=fun σ ag w0 g a w hh Qx=>by
 rw[an (qp hh (ag.eM hw))];have hD:bH P o σ d:=fun X f' a w base hX how hs=>hd X f' a w base hX (fun p hp=>by
  obtain⟨k,q⟩:=p;obtain⟨h1,h2⟩:=ho _ hp;exact how _ (ag.I7 h2 h1)) (fun x hx=>by
  have h1:=hs x hx;rw[ag.op hx]at h1;cases x<;>exact h1)
 exact Oper.wp_mono (fun a' w' h=>⟨g,h⟩) (qe hD hh ht)
def D.sO:D->List Nat
 | .own k=>[k]
 | .opt k _=>[k]
 |_=>[]
theorem qt{d:D}{k:Nat}(h:d.is k=true):k∈d.sO:=by
 cases d<;>simp[D.is]at h<;>simp[D.sO,h]
def D0:List (Nat×Ow)->List Nat
 |[]=>[]
 |(k,_)::l=>k::D0 l
theorem CQ{p:Nat×Ow}:∀{l:List (Nat×Ow)},p∈l->p.1∈D0 l
 |(k,q)::l,h=>by
  rcases bC.1 h with e|e
  ·subst e;exact bn
  ·exact bu _ (CQ e)
theorem Gv(hdst:o.dst=some t)(ht:Nat.blt t n=true):dh n o=true:=by
 unfold dh;rw[hdst];simpa[bB]using ht
theorem ly{b:Bool}{s:S}(hg:o.guard=none)(hb:b=true):eM ops [] s o b:=by
 unfold eM;rw[hg];exact hb
theorem Wt(h:K ⟨sl,ow⟩):aM P X0 n ops [] ⟨sl,ow⟩ [] K:=⟨rfl,h⟩
theorem se:lj [] sl=sl:=rfl
theorem jX{k:Nat}{ks:List Nat}{sl1 sl2:List (Nat×D)}(h1:lj ks sl=sl1)(h2:kill k sl1=sl2):lj (k::ks) sl=sl2:=by
 subst h1;exact h2
theorem aWmix{id:Nat}{Q:Exit->S->Prop}{sl':List (Nat×D)}(ks:List Nat){fps:List FP}(hm:P.follows .mixedOrders=true)(hs:lj ks sl=sl')(h:aM P X0 n l.toArray l ⟨sl',ow⟩ fps (Q .normal))(hc:wF l.toArray n ks fps=true):aW P X0 n (.region id l.toArray true) Q ⟨sl,ow⟩:=by
 subst hs;exact Wo ks hm h hc
theorem aM1(hg:o.guard=none)(hdst:o.dst=some t)(ht:Nat.blt t n=true)(hd:bH P o ⟨sl,[]⟩ d)(h:aM P X0 n ops l ⟨(t,d)::sl,ow⟩ fs K):aM P X0 n ops (o::l) ⟨sl,ow⟩ (⟨[],[],[],[],d.sO⟩::fs) K:=
 ⟨_,fs,.val d,rfl,fun _ hk=>qt hk,M7 (ly hg rfl) (Gv hdst ht) hd (fun p hp=>by cases hp),by rw[hdst];exact h⟩
theorem aM1o(hg:o.guard=none)(hdst:o.dst=some t)(ht:Nat.blt t n=true)(hd:bH P o ⟨sl,ow⟩ d)(h:aM P X0 n ops l ⟨(t,d)::sl,ow⟩ fs K):aM P X0 n ops (o::l) ⟨sl,ow⟩ (⟨D0 ow,[],[],[],d.sO⟩::fs) K:=
 ⟨_,fs,.val d,rfl,fun _ hk=>qt hk,M7 (ly hg rfl) (Gv hdst ht) hd (fun p hp=>⟨hp,CQ hp⟩),by rw[hdst];exact h⟩
theorem U4{x i:Operand}{tt T:TypeId}{k wd:Nat}{lo:List D}{q:IntKind}{z:Int}{off:Nat}(hg:o.guard=none)(hdst:o.dst=some t)(ht:Nat.blt t n=true)(ho:o.op= .indexAddr tt x i)(hx:S.op ⟨sl,ow⟩ x= .own k)(hi:S.op ⟨sl,ow⟩ i= .sc (.int q z))(hk:(k,(⟨T,wd,lo⟩:Ow))∈ow)
  (htt:P.underlying tt=some (.slice (P.elem tt))) (hz:(P.info? (P.elem tt)).map (·.size)=some wd) (hn:0<=z/\z<lo.length) (hoff:z.toNat*wd=off) (h:aM P X0 n ops l ⟨(t,.opt k off)::sl,ow⟩ fs K):aM P X0 n ops (o::l) ⟨sl,ow⟩ (⟨[],[k],[],[],[k]⟩::fs) K:=
 ⟨_,fs,.val (.opt k off),rfl,fun k' hk=>by have:=qt hk;simpa[D.sO]using this,fun σ ag w0 g a w hh Qx=>by
  rw[an (qp hh (ag.eM (ly hg rfl)))];obtain⟨l',e1,e2⟩:=ag.Ic (k:=k) (.inl (bL.2 rfl)) hk;have h1:σ.op x= .own k:=by rw[ag.op bU];exact hx
  have h2:σ.op i= .sc (.int q z):=by rw[ag.op bU];exact hi
  exact Oper.wp_mono (fun a' w' h=>⟨g,h⟩) (qe (iq ho h1 h2 e2 htt hz (by rw[e1];exact hn) hoff) hh (Gv hdst ht)),by rw[hdst];exact h⟩
theorem U6{T:TypeId}{k wd:Nat}{z:Value}(hg:o.guard=none)(hdst:o.dst=some t)(ht:Nat.blt t n=true)(ho:o.op= .alloc T)(hk:ow.all (fun p=> !Nat.beq p.1 k)=true)
  (hz:(P.info? T).map (fun i=>i.zero)=some (some z)) (hd:cst z=d) (hf:d.fits=true) (hw:d.wd=wd) (h0:Nat.blt 0 wd=true) (hn:d.nw=true)
  (h:aM P X0 n ops l ⟨(t, .opt k 0)::sl,(k,⟨T,wd,[d]⟩)::ow⟩ fs K) (hk0:Nat.blt k 1000000=true:=by exact rfl):aM P X0 n ops (o::l) ⟨sl,ow⟩ (⟨[],[],[],[k],[]⟩::fs) K:=
 ⟨_,fs, .alloc k ⟨T,wd,[d]⟩ (.opt k 0),rfl,⟨bL.2 rfl,fun k' hk=>by have:=qt hk;simpa[D.sO]using this⟩,fun σ ag w0 g a w hh Qx=>by
  rw[an (qp hh (ag.eM (ly hg rfl)))];obtain⟨e1,e2⟩:=ag.al k (bL.2 rfl);have hfr:∀p∈σ.ow,p.1≠k:=fun p hp e=>by
   obtain⟨k',q⟩:=p;simp only at e;subst e;have h1:=kK.2 hp;rw[e1]at h1;exact lK hk _ (kK.1 h1) rfl
  have hl:∀u,look (kill k σ.sl) u=look σ.sl u:=fun u=>by
   rcases iY k σ.sl u with⟨h1,_⟩|h1
   ·exact h1
   ·have key : ∀ (r : List (Nat × D)), (look r u).is k = false -> look (kill k r) u = look r u := fun r => by
     induction r with
     |nil=>intro _;rfl
     |cons p r ih=>
      obtain⟨v,d'⟩:=p;intro hh;simp only[kill,look]at hh⊢;split
      ·next e=>rw[an e]at hh;rw[hh]
      ·next e=>rw[aj e]at hh;exact ih hh
    exact key σ.sl (e2 u)
  refine Oper.wp_mono (fun a' w' ⟨f',h⟩=>⟨f',h.eqv ⟨fun u=>?_, .refl _⟩⟩) (OG (k:=k) hdst ht ho hfr hz hd hf hw h0 hn hk0 hh Qx);rw[hdst];show look ((t, .opt k 0)::kill k σ.sl) u=look ((t, .opt k 0)::σ.sl) u;simp only[look];split
  ·rfl
  ·exact hl u,by rw[hdst];exact h⟩
theorem U3{x y:Operand}{T tt:TypeId}{k off wd i:Nat}{lo:List D}{ow':List (Nat×Ow)}(hg:o.guard=none)(hdst:o.dst=none)(ho:o.op= .store tt x y)(hx:S.op ⟨sl,ow⟩ x= .opt k off)(hy:S.op ⟨sl,ow⟩ y=d)(hk:(k,(⟨T,wd,lo⟩:Ow))∈ow)
  (hoff:off=i*wd) (hi:i<lo.length) (hf:d.fits=true) (hw:d.wd=wd) (hn:d.nw=true) (hz:(P.info? tt).map (·.size)=some wd) (hs:cw k i d ow=ow')
  (h:aM P X0 n ops l ⟨sl,ow'⟩ fs K) (hkh:hdr k=false:=by exact rfl):aM P X0 n ops (o::l) ⟨sl,ow⟩ (⟨[],[],[k],[],[]⟩::fs) K:=
 ⟨_,fs,.store k i d,rfl,bL.2 rfl,fun σ ag w0 g a w hh Qx=>by
  rw[an (qp hh (ag.eM (ly hg rfl)))];obtain⟨l',e1,e2⟩:=ag.Ic (k:=k) (.inr (bL.2 rfl)) hk;have h1:σ.op x= .opt k off:=by rw[ag.op bU];exact hx
  have h2:σ.op y=d:=by rw[ag.op bU];exact hy
  exact OC hdst ho h1 h2 e2 hoff (by rw[e1];exact hi) hf hw hn hz hkh hh Qx,by subst hs;exact h⟩
def aN(P:Program)(X0:Nat->Prop)(n:Nat)(ops:Array Oper)(ks:List Nat)(l:List Oper)(s:S)(acc:List FP)(K:S->Prop):Prop:=∃fps,aM P X0 n ops l s fps K/\wF ops n ks (acc.reverse++fps)=true
section
variable {ks : List Nat} {acc : List FP}
theorem sI{s s':S}{f:FP}(hs:∀fs,aM P X0 n ops l s' fs K->aM P X0 n ops (o::l) s (f::fs) K)(h:aN P X0 n ops ks l s' (f::acc) K):aN P X0 n ops ks (o::l) s acc K:=by
 obtain⟨fps,h1,h2⟩:=h;exact⟨f::fps,hs fps h1,by simpa using h2⟩
theorem Wr(hc:wF ops n ks acc.reverse=true)(h:K ⟨sl,ow⟩):aN P X0 n ops ks [] ⟨sl,ow⟩ acc K:=⟨[],Wt h,by simpa using hc⟩
theorem rz{id:Nat}{Q:Exit->S->Prop}{sl':List (Nat×D)}(ks:List Nat)(hm:P.follows .mixedOrders=true)(hs:lj ks sl=sl')(h:aN P X0 n l.toArray ks l ⟨sl',ow⟩ [] (Q .normal)):aW P X0 n (.region id l.toArray true) Q ⟨sl,ow⟩:=by
 obtain⟨fps,h1,h2⟩:=h;exact aWmix ks hm hs h1 h2
theorem aN1(hg:o.guard=none)(hdst:o.dst=some t)(ht:Nat.blt t n=true)(hd:bH P o ⟨sl,[]⟩ d)(h:aN P X0 n ops ks l ⟨(t,d)::sl,ow⟩ (⟨[],[],[],[],d.sO⟩::acc) K):aN P X0 n ops ks (o::l) ⟨sl,ow⟩ acc K:=sI (fun _ h=>aM1 hg hdst ht hd h) h
theorem ph(hg:o.guard=none)(hdst:o.dst=some t)(ht:Nat.blt t n=true)(hd:bH P o ⟨sl,ow⟩ d)(h:aN P X0 n ops ks l ⟨(t,d)::sl,ow⟩ (⟨D0 ow,[],[],[],d.sO⟩::acc) K):aN P X0 n ops ks (o::l) ⟨sl,ow⟩ acc K:=sI (fun _ h=>aM1o hg hdst ht hd h) h
theorem U1{x i:Operand}{tt T:TypeId}{k wd:Nat}{lo:List D}{q:IntKind}{z:Int}{off:Nat}(hg:o.guard=none)(hdst:o.dst=some t)(ht:Nat.blt t n=true)(ho:o.op= .indexAddr tt x i)(hx:S.op ⟨sl,ow⟩ x= .own k)(hi:S.op ⟨sl,ow⟩ i= .sc (.int q z))(hk:(k,(⟨T,wd,lo⟩:Ow))∈ow)
 (htt:P.underlying tt=some (.slice (P.elem tt))) (hz:(P.info? (P.elem tt)).map (·.size)=some wd) (hn:0<=z/\z<lo.length) (hoff:z.toNat*wd=off) (h:aN P X0 n ops ks l ⟨(t,.opt k off)::sl,ow⟩ (⟨[],[k],[],[],[k]⟩::acc) K):aN P X0 n ops ks (o::l) ⟨sl,ow⟩ acc K:=sI (fun _ h=>U4 hg hdst ht ho hx hi hk htt hz hn hoff h) h
theorem mr{T:TypeId}{k wd:Nat}{z:Value}(hg:o.guard=none)(hdst:o.dst=some t)(ht:Nat.blt t n=true)(ho:o.op= .alloc T)(hk:ow.all (fun p=>!Nat.beq p.1 k)=true)
 (hz:(P.info? T).map (fun i=>i.zero)=some (some z)) (hd:cst z=d) (hf:d.fits=true) (hw:d.wd=wd) (h0:Nat.blt 0 wd=true) (hn:d.nw=true)
 (h:aN P X0 n ops ks l ⟨(t,.opt k 0)::sl,(k,⟨T,wd,[d]⟩)::ow⟩ (⟨[],[],[],[k],[]⟩::acc) K) (hk0:Nat.blt k 1000000=true:=by exact rfl):aN P X0 n ops ks (o::l) ⟨sl,ow⟩ acc K:=sI (fun _ h=>U6 hg hdst ht ho hk hz hd hf hw h0 hn h hk0) h
theorem xZ{x y:Operand}{T tt:TypeId}{k off wd i:Nat}{lo:List D}{ow':List (Nat×Ow)}(hg:o.guard=none)(hdst:o.dst=none)(ho:o.op= .store tt x y)(hx:S.op ⟨sl,ow⟩ x= .opt k off)(hy:S.op ⟨sl,ow⟩ y=d)(hk:(k,(⟨T,wd,lo⟩:Ow))∈ow)
 (hoff:off=i*wd) (hi:i<lo.length) (hf:d.fits=true) (hw:d.wd=wd) (hn:d.nw=true) (hz:(P.info? tt).map (·.size)=some wd) (hs:cw k i d ow=ow')
 (h:aN P X0 n ops ks l ⟨sl,ow'⟩ (⟨[],[],[k],[],[]⟩::acc) K) (hkh:hdr k=false:=by exact rfl):aN P X0 n ops ks (o::l) ⟨sl,ow⟩ acc K:=sI (fun _ h=>U3 hg hdst ho hx hy hk hoff hi hf hw hn hz hs h hkh) h
end
end
end DW
end
section
namespace Mx
def BdL(r X:Nat)(M:Mat):Prop:=∀i j,r<=i->(at' M i j).natAbs<=X
theorem BdL.mono{r X Y:Nat}{M:Mat}(h:BdL r X M)(hxy:X<=Y):BdL r Y M:=fun i j hi=>aB (h i j hi) hxy
theorem BI{r X:Nat}{M:Mat}(h:BdL r X M){j:Nat}(hi:r<M.length)(hj:j<M.length)(hr:r<=j):BdL r X (swp M r j):=fun k l hk=>by
 rw[dE hi hj];split
 ·exact h _ _ (af _)
 ·split
  ·exact h _ _ hr
  ·exact h _ _ hk
def sw(r t i:Nat):Nat:=if i=t then r else if i=r then t else i
theorem wi{M:Mat}{r t:Nat}(hr:r<M.length)(ht:t<M.length)(i j:Nat):at' (swp M r t) i j=at' M (sw r t i) j:=by
 rw[dE hr ht];unfold sw;split
 ·rfl
 ·split<;>rfl
theorem Aq{r t i:Nat}(h:r<=t)(hi:r<=i):r<=sw r t i:=by unfold sw;split<;>(try split)<;>omega
theorem Ap{r t i L:Nat}(hr:r<L)(ht:t<L)(hi:i<L):sw r t i<L:=by unfold sw;split<;>(try split)<;>omega
theorem Ky{r t i:Nat}(hi:i≠r):sw r t i≠t:=by unfold sw;split<;>(try split)<;>omega
theorem yJ{n r c t:Nat}{M:Mat}(h:Rc n M)(R:Round r c t M){k:Nat}(hk:r+1+k<=M.length)(i j:Nat):at' (ba r c (r+1) (swp M r t) k) i j=if r+1<=i/\i<r+1+k then at' M (sw r t i) j-at' M (sw r t i) c/at' M t c*at' M t j else at' M (sw r t i) j:=by
 have hSl:(swp M r t).length=M.length:=dn _ _ _;have hr:=R.hr;have hs:sw r t r=t:=by unfold sw;split<;>simp_all
 rw[iu (mH h R.hr R.ht) aa aa,wi R.hr R.ht,wi R.hr R.ht,wi R.hr R.ht,wi R.hr R.ht,hs]
def Jc(W r c:Nat)(M:Mat):Prop:=∃(N:Nat->Nat) (O V i0 f:Nat),(∀i j,r<=i->i<M.length->(at' M i j).natAbs<=N i)/\(∀i,r<=i->i<M.length->N i<=W)/\r<=i0/\i0<M.length/\(at' M i0 c).natAbs=O/\(∀i,r<=i->i<M.length->i≠i0->0<=at' M i c/\at' M i c<(O:Int))/\O<=V/\
 (∀i,r<=i->i<M.length->i≠i0->(N i*O+N i0*(at' M i c).natAbs)*V*f<=W)/\(0<=at' M i0 c/\f=1\/f=6)/\∀t,(pick r c M).1=some t->(pick r c M).2≠1->O+(at' M t c).natAbs<=V
def Jcn(W r c:Nat)(M:Mat):Prop:=(∃X,1<=X/\BdL r X M/\48*X^3<=W)\/Jc W r c M
theorem pow3(X:Nat):X^3=X*X*X:=by simp[dQ]
theorem IG{X:Nat}(h:1<=X):X<=X^3:=by
 have:=bI h (show 1<=3 by omega);simpa using this
theorem Ce{W r c:Nat}{M:Mat}(h:Jcn W r c M):BdL r W M:=by
 rcases h with⟨X,h1,h2,h3⟩|⟨N,O,V,i0,f,h1,h2,_⟩
 ·exact h2.mono (by have:=IG h1;omega)
 ·intro i j hi;by_cases hl:i<M.length
  ·exact aB (h1 i j hi hl) (h2 i hi hl)
  ·rw[jC aa];simp
theorem yI{n W r c t V' f':Nat}{N:Nat->Nat}{M:Mat}(h:Rc n M)(R:Round r c t M)(hN:∀i j,r<=i->i<M.length->(at' M i j).natAbs<=N i)(hNt:N t<=W)(hV:(at' M t c).natAbs<=V')(hf:0<=at' M t c/\f'=1\/f'=6)
  (hS:∀j,r<=j->j<M.length->j≠t->((N j+(at' M j c/at' M t c).natAbs*N t)*(at' M t c).natAbs+N t*(at' M j c%at' M t c).natAbs)*V'*f'<=W)
  (hc:∀t',(pick r c (elim r c (swp M r t))).1=some t'->(pick r c (elim r c (swp M r t))).2≠1->(at' M t c).natAbs+(at' (elim r c (swp M r t)) t' c).natAbs<=V'):
  (∀k,r+1+k<=M.length->BdL r W (ba r c (r+1) (swp M r t) k))/\Jc W r c (elim r c (swp M r t)):=by
 have hSl:(swp M r t).length=M.length:=dn _ _ _;have hr:=R.hr;have hl:(elim r c (swp M r t)).length=M.length:=by unfold elim;rw[cY,hSl]
 have hP:1<=(at' M t c).natAbs:=by have:=R.ne;omega
 have hf1:1<=f':=by rcases hf with⟨_,h⟩|h<;>omega
 have hsr:sw r t r=t:=by unfold sw;split<;>simp_all
 have big:∀j,r<=j->j<M.length->j≠t->N j+(at' M j c/at' M t c).natAbs*N t<=W:=fun j j1 j2 j3=>by
  refine aB ?_ (hS j j1 j2 j3);refine aB (aB (aB (eQ _ hP) (ta _ _)) (eQ _ (show 0<V' by omega))) (eQ _ hf1)
 have row:∀i j,r<i->i<M.length->(at' M (sw r t i) j-at' M (sw r t i) c/at' M t c*at' M t j).natAbs<=N (sw r t i)+(at' M (sw r t i) c/at' M t c).natAbs*N t:=fun i j i1 i2=>by
  have h1:=hN (sw r t i) j (Aq R.rt aa) (Ap R.hr R.ht i2);have h2:=hN t j R.rt R.ht;have h3:(at' M (sw r t i) c/at' M t c*at' M t j).natAbs<=(at' M (sw r t i) c/at' M t c).natAbs*N t:=by rw[gG];exact bV _ h2
  omega
 have hat:∀i j,at' (elim r c (swp M r t)) i j=if r+1<=i/\i<M.length then at' M (sw r t i) j-at' M (sw r t i) c/at' M t c*at' M t j else at' M (sw r t i) j:=fun i j=>by
  unfold elim;rw[hSl,yJ h R aa,show r+1+(M.length-(r+1))=M.length by omega]
 have hmod:∀i,r<i->i<M.length->at' (elim r c (swp M r t)) i c=at' M (sw r t i) c%at' M t c:=fun i i1 i2=>by
  rw[hat,an ⟨by omega,i2⟩,(oB R.ne).2.2]
 refine⟨fun k hk i j hi=>?_,fun i=>if r<i then N (sw r t i)+(at' M (sw r t i) c/at' M t c).natAbs*N t else N t,(at' M t c).natAbs,V',r,f',fun i j i1 i2=>?_,fun i i1 i2=>?_,af _,by omega,by rw[R.pr],fun i i1 i2 i3=>?_,hV,fun i i1 i2 i3=>?_,by rw[R.pr];exact hf,fun t' k1 k2=>hc t' k1 k2⟩
 ·by_cases hil:i<M.length
  ·rw[yJ h R hk];by_cases hir:i=r
   ·rw[aj aa,hir,hsr];exact aB (hN t j R.rt R.ht) hNt
   ·have hb:=big (sw r t i) (Aq R.rt hi) (Ap R.hr R.ht hil) (Ky hir);split
    ·exact aB (row i j aa hil) hb
    ·exact aB (hN (sw r t i) j (Aq R.rt hi) (Ap R.hr R.ht hil)) aa
  ·rw[jC (by rw[cY,hSl];omega)];simp
 ·rw[hat];simp only[];by_cases hir:r<i
  ·rw[an ⟨by omega,by omega⟩,an hir];exact row i j hir aa
  ·obtain rfl:i=r:=by omega
   rw[aj aa,aj hir,hsr];exact hN t j R.rt R.ht
 ·simp only[];by_cases hir:r<i
  ·rw[an hir];exact big _ (Aq R.rt i1) (Ap R.hr R.ht aa) (Ky aa)
  ·rw[aj hir];exact hNt
 ·rw[hmod i aa aa];exact⟨oa _ R.ne,pG _ R.ne⟩
 ·simp only[];rw[an (by omega:r<i),aj (by omega:¬r<r),hmod i aa aa];exact hS _ (Aq R.rt i1) (Ap R.hr R.ht aa) (Ky i3)
theorem UD{x p:Int}(hp:p≠0):(x/p).natAbs*p.natAbs<=x.natAbs+p.natAbs:=by
 rcases Int.lt_or_lt_of_ne hp with h|h
 ·have h1:=ug (x:=x) (p:=-p) aa;rw[Int.ediv_neg,pH,pH]at h1;exact h1
 ·exact ug h
theorem IJ{n W r c t:Nat}{M:Mat}(h:Rc n M)(hj:Jcn W r c M)(h1:(pick r c M).1=some t)(h2:(pick r c M).2≠1):
  (∀k,r+1+k<=M.length->BdL r W (ba r c (r+1) (swp M r t) k))/\Jcn W r c (elim r c (swp M r t)):=by
 have R:=oR h h1 h2;have go:∀{A:Prop},A/\Jc W r c (elim r c (swp M r t))->A/\Jcn W r c (elim r c (swp M r t)):=fun x=>⟨x.1, .inr x.2⟩;rcases hj with⟨X,x1,x2,x3⟩|⟨N,O,V,i0,f,x1,x2,x3,x4,x5,x6,x7,x8,x9,x10⟩
 ·have hpX:(at' M t c).natAbs<=X:=x2 t c R.rt;refine go (yI (V':=2*X) (f':=6) (N:=fun _=>X) h R (fun i j i1 _=>x2 i j i1) (by have:=IG x1;omega) aa (.inr rfl) (fun j j1 j2 j3=>?_) fun t' k1 k2=>?_)
  ·have h3:=UD (x:=at' M j c) R.ne;have h4:=x2 j c j1;have h5:(at' M j c%at' M t c).natAbs<=X:=by
    have:=oa (at' M j c) R.ne;have:=pG (at' M j c) R.ne;omega
   generalize(at' M j c/at' M t c).natAbs=q at*;generalize(at' M t c).natAbs=P at*;generalize(at' M j c%at' M t c).natAbs=e at*;have h6:(X+q*X)*P+X*e<=4*(X*X):=by
    have e1:(X+q*X)*P=X*P+X*(q*P):=by rw[bO,th,bs (q*P) X]
    have e2:X*P<=X*X:=bV X hpX;have e3:X*(q*P)<=X*(2*X):=bV X aa;have e4:X*e<=X*X:=bV X h5;have e5:X*(2*X)=2*(X*X):=fI _ _ _;omega
   have h7:((X+q*X)*P+X*e)*(2*X)*6<=4*(X*X)*(2*X)*6:=cF 6 (cF _ h6);have h8:4*(X*X)*(2*X)*6=48*X^3:=by
    rw[pow3];have:4*(X*X)*(2*X)=8*(X*X*X):=by simp only[bP,bs,fI]
    omega
   omega
  ·have:=(mf h R k1 k2).1;omega
 ·have ht0 : t ≠ i0 := fun e => by
   obtain⟨i,i1,i2,i3,i4⟩:=R.other;have h3:=R.least i i1 i2 i4;have h4:=x6 i i1 i2 aa;rw[e]at h3;omega
  have h3:=x6 t R.rt R.ht ht0;have hk:=x10 t h1 h2;have hSt:=x8 t R.rt R.ht ht0;have hNt:=x2 t R.rt R.ht;generalize hpe:at' M t c=p at*;have hp0:0<p:=by have:=R.ne;rw[hpe]at this;omega
  obtain⟨P,rfl⟩:∃P:Nat,p=P:=⟨p.natAbs,by omega⟩;rw[cD]at*;have hPO:P<O:=by omega
  have hP1:1<=P:=by omega
  have hf1:1<=f:=by rcases x9 with⟨_,h⟩|h<;>omega
  have other:∀j,r<=j->j<M.length->j≠t->j≠i0->((N j+(at' M j c/(P:Int)).natAbs*N t)*P+N t*(at' M j c%(P:Int)).natAbs)*O*f<=W:=fun j j1 j2 j3 j4=>by
   have h4:=x6 j j1 j2 j4;have h5:=x8 j j1 j2 j4;obtain⟨a,ha⟩:∃a:Nat,at' M j c=a:=⟨(at' M j c).natAbs,by omega⟩;rw[ha]at h4 h5⊢;have e1:((a:Int)/(P:Int)).natAbs=a/P:=by rw[<-xB,cD]
   have e2:((a:Int)%(P:Int)).natAbs=a%P:=by rw[<-Int.natCast_emod,cD]
   rw[cD]at h5;rw[e1,e2];have e3:=jQ a P;have e4:(N j+a/P*N t)*P+N t*(a%P)=N j*P+N t*a:=by
    have:N t*a=N t*(P*(a/P))+N t*(a%P):=by rw[<-gA,e3]
    rw[this,bO];have:a/P*N t*P=N t*(P*(a/P)):=by simp only[bP,bs,fI]
    omega
   rw[e4];have b1:N j*O*V*f<=W:=aB (cF f (cF V (ta _ _))) h5;have b2:N t*O*V*f<=W:=aB (cF f (cF V (ta _ _))) hSt;refine Nat.le_of_mul_le_mul_right (c:=V) ?_ aa;have c1:(N j*P+N t*a)*O*f*V=N j*O*V*f*P+N t*O*V*f*a:=by
    rw[bO,bO,bO];congr 1<;>simp only[bP,bs,fI]
   rw[c1];refine aB (Nat.add_le_add (cF P b1) (cF a b2)) ?_;rw[<-gA];exact bV W aa
  rcases x9 with⟨hpos,rfl⟩|rfl
  ·have haO:at' M i0 c=(O:Int):=by omega
   refine go (yI (V':=O) (f':=1) (N:=N) h R x1 hNt (by rw[hpe,cD];omega) (by rw[hpe];exact .inl ⟨by omega,rfl⟩) (fun j j1 j2 j3=>?_) fun t' k1 k2=>?_)
   ·rw[hpe,cD];by_cases hji:j=i0
    ·rw[hji,haO];have e1:((O:Int)/(P:Int)).natAbs=O/P:=by rw[<-xB,cD]
     have e2:((O:Int)%(P:Int)).natAbs=O%P:=by rw[<-Int.natCast_emod,cD]
     rw[e1,e2];have e3:=jQ O P;have e4:(N i0+O/P*N t)*P+N t*(O%P)=N t*O+N i0*P:=by
      have:N t*O=N t*(P*(O/P))+N t*(O%P):=by rw[<-gA,e3]
      rw[this,bO];have:O/P*N t*P=N t*(P*(O/P)):=by simp only[bP,bs,fI]
      omega
     rw[e4];exact aB (cF 1 (bV _ x7)) hSt
    ·exact other j j1 j2 j3 hji
   ·obtain⟨h4,h5⟩:=mf h R k1 k2;obtain⟨m0,m1,m2,m3⟩:=R.fro i0 x3 x4 (Ne.symm ht0);have h6:=h5 m0 aa m2;rw[m3,haO]at h6;rw[hpe]at h4 h6⊢;rw[cD]at h4⊢;generalize(at' (elim r c (swp M r t)) t' c).natAbs=P' at h4 h6⊢;have e1:((O:Int)%(P:Int))=((O%P:Nat):Int):=by simp
    rw[e1,cD]at h6;have e2:=jQ O P;have e3:1<=O/P:=(nU aa).2 aa;by_cases h0:O%P=0
    ·have e5 : 2 <= O / P := by
      apply dJ;intro hlt;have:O/P=1:=by omega
      rw[this,h0]at e2;omega
     have e6:=bV P e5;omega
    ·have e5:=h6 aa;have e6:=bV P e3;omega
  ·refine go (yI (V':=2*O) (f':=1) (N:=N) h R x1 hNt (by rw[hpe,cD];omega) (by rw[hpe];exact .inl ⟨by omega,rfl⟩) (fun j j1 j2 j3=>?_) fun t' k1 k2=>?_)
   ·rw[hpe,cD];by_cases hji:j=i0
    ·rw[hji];have h4:=ug (x:=at' M i0 c) (p:=(P:Int)) hp0;rw[cD,x5]at h4;have h5:(at' M i0 c%(P:Int)).natAbs<=P:=by
      have:=oa (at' M i0 c) (show(P:Int)≠0 by omega);have:=Int.emod_lt_of_pos (at' M i0 c) hp0;omega
     generalize(at' M i0 c/(P:Int)).natAbs=q at*;generalize(at' M i0 c%(P:Int)).natAbs=e at*;have h6:(N i0+q*N t)*P+N t*e<=3*(N t*O+N i0*P):=by
      have e1:(N i0+q*N t)*P=N i0*P+N t*(q*P):=by rw[bO,th,bs (q*P)]
      have e2:N t*(q*P)<=N t*(O+O):=bV _ aa;have e3:N t*e<=N t*O:=bV _ aa;have e4:N t*(O+O)=N t*O+N t*O:=gA _ _ _;omega
     refine aB ?_ hSt;have h7:=cr h6 (bV 2 x7);have h8:3*(N t*O+N i0*P)*(2*V)=(N t*O+N i0*P)*V*6:=by
      generalize N t*O+N i0*P=s;have:3*s*(2*V)=6*(s*V):=by simp only[bP,bs,fI]
      omega
     omega
    ·have h4:=other j j1 j2 j3 hji;generalize(N j+(at' M j c/(P:Int)).natAbs*N t)*P+N t*(at' M j c%(P:Int)).natAbs=s at*;have:s*(2*O)=2*(s*O):=fI _ _ _;omega
   ·have:=(mf h R k1 k2).1;rw[hpe,cD]at this⊢;omega
theorem Jh{n W r c:Nat}{M:Mat}(h:Rc n M)(hj:Jcn W r c M):BdL r W (cH r c M):=by
 refine pc (n:=n) (r:=r) (c:=c) (fun N=>Jcn W r c N) (fun N hN hq t ht h2=>(IJ hN hq ht h2).2) (fun N=>BdL r W N) (fun N _ hq _=>Ce hq) (fun N hN hq t ht h2=>?_) _ M rfl h hj;obtain⟨k1,k2,_⟩:=(fT c r N (N.length-r)).yes t ht;exact BI (Ce hq) aa aa k1
def BdU(r X:Nat)(M:Mat):Prop:=∀i j,i<r->(at' M i j).natAbs<=X
theorem BdU.mono{r X Y:Nat}{M:Mat}(h:BdU r X M)(hxy:X<=Y):BdU r Y M:=fun i j hi=>aB (h i j hi) hxy
theorem Ll{r X Y Z:Nat}{M:Mat}(h1:BdU r X M)(h2:BdL r Y M)(hx:X<=Z)(hy:Y<=Z):Bd Z M:=fun i j=>by
 by_cases h:i<r
 ·exact aB (h1 i j h) hx
 ·exact aB (h2 i j aa) hy
theorem wv{n r c t X:Nat}{M:Mat}(h:Rc n M)(R:Round r c t M)(hb:BdU r X M){k:Nat}(hk:r+1+k<=M.length):BdU r X (ba r c (r+1) (swp M r t) k):=fun i j hi=>by
 have hrt:=R.rt;rw[yJ h R hk,aj aa];have:sw r t i=i:=by unfold sw;rw[aj aa,aj aa]
 rw[this];exact hb i j hi
theorem GQ{n r c X:Nat}{M:Mat}(h:Rc n M)(hb:BdU r X M):BdU r X (cH r c M):=by
 refine pc (n:=n) (r:=r) (c:=c) (fun N=>BdU r X N) (fun N hN hq t ht h2=>?_) (fun N=>BdU r X N) (fun N _ hq _=>hq) (fun N hN hq t ht h2=>?_) _ M rfl h hb
 ·have R:=oR hN ht h2;have:=R.hr;unfold elim;exact wv hN R hq (by rw[dn];omega)
 ·obtain⟨k1,k2,_⟩:=(fT c r N (N.length-r)).yes t ht;intro i j hi;rw[wi aa aa];have:sw r t i=i:=by unfold sw;rw[aj aa,aj aa]
  rw[this];exact hq i j hi
theorem Qo{n r c a b d:Nat}{M:Mat}(h:Rc n M)(hr:r<M.length)(hu:BdU r (2^a) M)(hl:BdL r (2^b) M)(hd:a+b+1<=d){k:Nat}(hk:k<=r):BdU r (2^d) (ba r c 0 M k)/\BdL r (2^b) (ba r c 0 M k):=by
 refine⟨fun i j hi=>?_,fun i j hi=>?_⟩
 ·rw[iu h hr aa];have h1:=hu i j hi;have ha:2^a<=2^(a+b):=bI aa aa;have hd':2^(a+b)*2<=2^d:=by rw[<-dQ];exact bI aa hd
  split
  ·have h2 : (at' M i c / at' M r c * at' M r j).natAbs <= 2 ^ (a + b) := by
    rw[gG,eZ];exact cr (aB (jI _ _) (hu i c hi)) (hl r j (af _))
   omega
  ·omega
 ·rw[iu h hr aa,aj aa];exact hl i j hi
theorem TG{r c a b:Nat}{M:Mat}(hr:r<M.length)(hu:BdU r a M)(hl:BdL r b M):BdU r a (cJ r c M)/\BdL r b (cJ r c M):=by
 unfold cJ;split
 ·refine⟨fun i j hi=>?_,fun i j hi=>?_⟩
  ·rw[oF _ _ _ _ _ hr,aj aa];exact hu i j hi
  ·rw[oF _ _ _ _ _ hr];split
   ·rw[kF,pH];exact hl r j (af _)
   ·exact hl i j hi
 ·exact⟨hu,hl⟩
end Mx
end
section
open Go.RowKit Go.BigFrame
attribute [local go_sem ↓] Go.wp_at_zero Go.wp_at_succ
namespace Mx
theorem tT{n e:Nat}(he:6<=e):∀(k c r:Nat) (M:Mx.Mat),Mx.Rc n M->Mx.Bd (2^(e*11^c)) M->Mx.Bd (2^(e*11^(c+k))) (Mx.red k c (r,M)).2
 |0,_,_,_,_,hb=>hb
 |k+1,c,r,M,hr,hb=>by
  by_cases h:r<M.length
  ·rw[Mx.AG h];have h1:=Mx.H5 (c:=c) hr h (ep aa) hb;have h2:=((Mx.tK (c:=c) hr h).1).rc hr;have h3:=tT he k (c+1) (Mx.step r c M).1 (Mx.step r c M).2 h2 (h1.mono (aB (Mx.AP (aB he (eQ e (ep aa)))) (vU (by rw[Mx.e11]))));rw[show c+(k+1)=c+1+k by omega];exact h3
  ·rw[Mx.qQ h];exact hb.mono (bI aa (bV e (bI aa aa)))
end Mx
theorem UT(n:Nat)(M:Mx.Mat)(i j:Nat):Mx.at' (tk n M) i j=if j<n then Mx.at' M i j else 0:=by
 unfold Mx.at';rw[uQ,aq,aq,iB];split<;>simp
theorem UU(n:Nat)(M:Mx.Mat)(i j:Nat):Mx.at' (dp n M) i j=Mx.at' M i (n+j):=by
 unfold Mx.at';rw[SE,aq,aq,eF]
theorem at_mem(M:Mx.Mat)(i j:Nat):Mx.at' M i j=0\/∃r∈M,Mx.at' M i j∈r:=by
 unfold Mx.at' Mx.rw;rw[aq,aq]
 cases h:M[i]? with
 |none=>left;simp
 |some r=>
  simp only[mE]
  cases h2:r[j]? with
  |none=>left;simp
  |some z=>right;exact⟨r,bj h,by simpa using bj h2⟩
theorem Oc{m:List (List Int)}(h:chk m=0):m.length<=64/\wid m<=64/\Mx.Rc (wid m) m/\∀r∈m,∀z∈r,z.natAbs<=1000000000000000:=by
 unfold chk at h;split at h
 ·rename_i h1;split at h
  ·cases h
  ·rename_i h2;split at h
   ·cases h
   ·rename_i h3;refine⟨by omega,by omega,fun r hr=>by simpa using cW.1 h1 r hr,fun r hr z hz=>?_⟩;have h4:¬big z=true:=fun e=>h3 (ku.2 ⟨r,hr,ku.2 ⟨z,hz,e⟩⟩);unfold big inb at h4;simp at h4;omega
 ·cases h
def HT(m:Mx.Mat):Nat×Mx.Mat:=Mx.red (wid m) 0 (0,cA m)
def Ed(m:Mx.Mat):Mx.Mat:=tk (wid m) (HT m).2
def cg(m:Mx.Mat):Mx.Mat:=dp (wid m) (HT m).2
theorem wX{m:Mx.Mat}(h:Mx.Rc (wid m) m):(HT m).2.length=m.length:=(Mx.eh _ 0 (0,cA m) (fU h)).len.trans (gV m)
theorem Ee{m:Mx.Mat}(h:Mx.Rc (wid m) m):Mx.Rc (wid m+m.length) (HT m).2:=(Mx.eh _ 0 (0,cA m) (fU h)).rc (fU h)
theorem e50{n:Nat}(h:n<=10):2*(50*11^n)<=6000000000000:=by
 have:11^n<=11^10:=bI aa h;have e:11^10=25937424601:=by decide
 omega
end
section
namespace Mx
theorem Da{n r c:Nat}{M:Mat}(h:Rc n M):cH r c M=M\/at' (cH r c M) r c≠0:=by
 have piv:∀{N:Mat} {t:Nat},(pick r c N).1=some t->r<N.length/\t<N.length/\at' (swp N r t) r c≠0:=fun {N t} ht=>by
  obtain⟨k1,k2,k3,_⟩:=(fT c r N (N.length-r)).yes t ht;refine⟨by omega,by omega,?_⟩;rw[dE aa aa];split
  ·next e=>rw[e];exact k3
  ·rw[an rfl];exact k3
 refine pc (n:=n) (r:=r) (c:=c) (fun N=>N=M\/at' N r c≠0) (fun N hN _ t ht h2=>.inr ?_) (fun N=>N=M\/at' N r c≠0) (fun N _ hq _=>hq) (fun N hN _ t ht _=>.inr (piv ht).2.2) _ M rfl h (.inl rfl);obtain⟨hr,htl,hp⟩:=piv ht;unfold elim at';rw[gw _ _ _ _ _ (by rw[dn];omega),aj aa];exact hp
end Mx
end
section
namespace Mx
structure Disc(n E L cN:Nat)(I:Nat->Mat->Prop)(J:Nat->Nat->Mat->Prop):Prop where
 ij:∀{r c M},Rc n M->M.length=L->r<L->r<=c->c<cN->I r M->J r c M
 jb:∀{r c N},r<L->r<=c->c<cN->J r c N->Bd (2^E) N
 js:∀{r c t N},r<L->r<=c->c<cN->Rc n N->J r c N->(pick r c N).1=some t->(pick r c N).2≠1->(∀k,r+1+k<=N.length->Bd (2^E) (ba r c (r+1) (swp N r t) k))/\J r c (elim r c (swp N r t))
 cb:∀{r c M},Rc n M->M.length=L->r<L->r<=c->c<cN->I r M->Bd (2^E) (cH r c M)
 ab:∀{r c M},Rc n M->M.length=L->r<L->r<=c->c<cN->I r M->(∀k,k<=r->Bd (2^E) (ba r c 0 (cJ r c (cH r c M)) k))/\I (r+1) (ba r c 0 (cJ r c (cH r c M)) r)
theorem Wd{n e p L cN:Nat}(he:6<=e)(hp:L<=p\/cN<=p):Disc n (e*11^p) L cN (fun r M=>Bd (2^(e*11^r)) M) (fun r c M=>Jn (6*(2^(e*11^r))^5) r c M):=by
 have hX:∀r,1<=2^(e*11^r):=fun r=>ep aa;have h6:∀r,6<=e*11^r:=fun r=>aB he (eQ _ (ep aa));have hnb:∀r,6*(2^(e*11^r))^5*(6*(2^(e*11^r))^5+1)<=2^(e*11^(r+1)):=fun r=>by
  have h2:=AP (h6 r);rw[e11]at h2;exact h2
 have hK:∀{r c},r<L->r<=c->c<cN->2^(e*11^(r+1))<=2^(e*11^p):=fun {r c} h1 h2 h3=>bI aa (bV e (bI aa aa));have hKE:∀{r c},r<L->r<=c->c<cN->6*(2^(e*11^r))^5<=2^(e*11^p):=fun {r c} h1 h2 h3=>aB (eQ _ aa) (aB (hnb r) (hK h1 h2 h3));have hj:∀{r c} {M:Mat},Bd (2^(e*11^r)) M->Jn (6*(2^(e*11^r))^5) r c M:=fun {r c M} hb=>.inl ⟨_,hX r,hb,af _⟩;refine⟨fun _ _ _ _ _ hb=>hj hb,fun h1 h2 h3 h=>(vn h).mono (hKE h1 h2 h3),fun h1 h2 h3 hN h p1 p2=>?_,fun hM hl h1 h2 h3 hb=>(xU hM (hj hb)).mono (hKE h1 h2 h3),fun {r c M} hM hl h1 h2 h3 hb=>?_⟩
 ·obtain⟨a,b⟩:=Cd hN h p1 p2;exact⟨fun k hk=>(a k hk).mono (hKE h1 h2 h3),b⟩
 ·have hcl:=(lM (r:=r) (c:=c) hM).1.re;have hcB:=xU hM (hj (c:=c) hb);have hrM:r<(cH r c M).length:=by rw[hcl.len];omega
  have hSre:=nu (c:=c) hrM;have key:∀k,k<=r->Bd (2^(e*11^(r+1))) (ba r c 0 (cJ r c (cH r c M)) k):=fun k hk=>(G3 (hSre.rc (hcl.rc hM)) (by rw[hSre.len];omega) (BU hcB hrM) (by rw[hSre.len];omega)).mono (hnb r);exact⟨fun k hk=>(key k hk).mono (hK h1 h2 h3),key r (af _)⟩
theorem exp3{e:Nat}(he:3<=e):48*(2^(e-3))^3<=2^(3*e-3):=by
 rw[<-qG];refine aB (cF _ (show 48<=2^6 by decide)) ?_;rw[<-eZ];exact bI aa aa
theorem e33(e r:Nat):e*3^(r+1)=3*(e*3^r):=by rw[dQ,bs (3^r) 3,fI]
theorem e36{e:Nat}(he:6<=e)(r:Nat):6<=e*3^r:=aB he (eQ _ (ep aa))
def I3(e r:Nat)(M:Mat):Prop:=BdU r (2^(2*(e*3^r))) M/\BdL r (2^(e*3^r-3)) M
def J3(e r c:Nat)(M:Mat):Prop:=BdU r (2^(2*(e*3^r))) M/\Jcn (2^(e*3^(r+1)-3)) r c M
theorem i3_j{e r c:Nat}{M:Mat}(he:6<=e)(h:I3 e r M):J3 e r c M:=by
 refine⟨h.1,.inl ⟨2^(e*3^r-3),ep aa,h.2,?_⟩⟩;have h6:=e36 he r;rw[e33];exact exp3 aa
theorem IM{n e r c:Nat}{M:Mat}(he:6<=e)(hM:Rc n M)(hr:r<M.length)(h:I3 e r M):(∀k,k<=r->BdU r (2^(2*(e*3^(r+1)))) (ba r c 0 (cJ r c (cH r c M)) k)/\BdL r (2^(e*3^(r+1)-3)) (ba r c 0 (cJ r c (cH r c M)) k))/\I3 e (r+1) (ba r c 0 (cJ r c (cH r c M)) r):=by
 have hcl:=(lM (r:=r) (c:=c) hM).1.re;have hl:=Jh hM (i3_j (c:=c) he h).2;have hu:=GQ (c:=c) hM h.1;have hrM:r<(cH r c M).length:=by rw[hcl.len];omega
 have hSre:=nu (c:=c) hrM;obtain⟨su,sl⟩:=TG (c:=c) hrM hu hl;have h4:=e33 e r;have h1:=e36 he r;have key:∀k,k<=r->BdU r (2^(2*(e*3^(r+1)))) (ba r c 0 (cJ r c (cH r c M)) k)/\BdL r (2^(e*3^(r+1)-3)) (ba r c 0 (cJ r c (cH r c M)) k):=fun k hk=>Qo (d:=2*(e*3^(r+1))) (hSre.rc (hcl.rc hM)) (by rw[hSre.len];omega) su sl aa hk;refine⟨key,fun i j hi=>?_,fun i j hi=>(key r (af _)).2 i j aa⟩;by_cases e0:i=r
 ·exact aB ((key r (af _)).2 i j aa) (bI aa aa)
 ·exact(key r (af _)).1 i j aa
theorem disc3{n e p L cN:Nat}(he:6<=e)(hp:L<=p\/cN<=p):Disc n (2*(e*3^p)) L cN (I3 e) (J3 e):=by
 have hm:∀{r c},r<L->r<=c->c<cN->e*3^(r+1)<=e*3^p:=fun {r c} h1 h2 h3=>bV e (bI aa aa);have hm0:∀r,e*3^r<=e*3^(r+1):=fun r=>bV e (bI aa aa);have hb:∀{r c} {M:Mat},r<L->r<=c->c<cN->BdU r (2^(2*(e*3^(r+1)))) M->BdL r (2^(e*3^(r+1)-3)) M->Bd (2^(2*(e*3^p))) M:=fun {r c M} h1 h2 h3 hu hl=>Ll hu hl (bI aa (by have:=hm h1 h2 h3;omega)) (bI aa (by have:=hm h1 h2 h3;omega));have up:∀{r} {M:Mat},BdU r (2^(2*(e*3^r))) M->BdU r (2^(2*(e*3^(r+1)))) M:=fun {r M} h=>h.mono (bI aa (by have:=hm0 r;omega));refine⟨fun _ _ _ _ _ h=>i3_j he h,fun h1 h2 h3 h=>hb h1 h2 h3 (up h.1) (Ce h.2),fun {r c t N} h1 h2 h3 hN h p1 p2=>?_,fun hM hl h1 h2 h3 h=>hb h1 h2 h3 (up (GQ hM h.1)) (Jh hM (i3_j he h).2),fun {r c M} hM hl h1 h2 h3 h=>?_⟩
 ·have R:=oR hN p1 p2;obtain⟨a,b⟩:=IJ hN h.2 p1 p2;refine⟨fun k hk=>hb h1 h2 h3 (up (wv hN R h.1 hk)) (a k hk),?_,b⟩;have:=R.hr;unfold elim;exact wv hN R h.1 (by rw[dn];omega)
 ·obtain⟨a,b⟩:=IM (c:=c) he hM aa h;exact⟨fun k hk=>hb h1 h2 h3 (a k hk).1 (a k hk).2,b⟩
theorem AF{n e:Nat}(he:6<=e):∀(k c r:Nat) (M:Mat),Rc n M->r<=M.length->I3 e r M->I3 e (red k c (r,M)).1 (red k c (r,M)).2
 |0,_,_,_,_,_,h=>h
 |k+1,c,r,M,hM,hr,h=>by
  by_cases hl:r<M.length
  ·rw[AG hl];have hre:=(lM (r:=r) (c:=c) hM).1.re;unfold step;simp only[];split
   ·next h0=>
    refine AF he k (c+1) r _ (hre.rc hM) (by rw[hre.len];exact hr) ?_;rw[(Da (r:=r) (c:=c) hM).resolve_right (fun hh=>hh h0)];exact h
   ·have hrM:r<(cH r c M).length:=by rw[hre.len];omega
    have hSre:=nu (c:=c) hrM;have hS:=hSre.rc (hre.rc hM);have hsl:r<(cJ r c (cH r c M)).length:=by rw[hSre.len];omega
    have h1:=(IM (c:=c) he hM hl h).2;unfold kj;exact AF he k (c+1) (r+1) _ (nr hS hsl r aa) (by rw[cY];omega) h1
  ·rw[qQ hl];exact h
theorem Lm{e:Nat}{M:Mat}(h:Bd (2^(e-3)) M):I3 e 0 M:=⟨fun i j hi=>by omega,fun i j _=>by rw[qI,fH];exact h i j⟩
end Mx
end
end Go.Proofs.YtcgjmdpcplhanaaGreat
