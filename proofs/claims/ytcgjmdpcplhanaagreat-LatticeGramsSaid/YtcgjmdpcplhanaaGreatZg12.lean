/- Lemmas for the law: DH DI DJ DK DL E31 E32 L1 DN E33 -/
import Derived.Test.YtcgjmdpcplhanaaGreatZg11
namespace Go.Proofs.YtcgjmdpcplhanaaGreat
section
theorem Ad{p q:Prop}(h:q)(f:Wq q->p:=by(intro hW;((refine gar ?_;refine zs4 ?_;refine mO ?_;refine aS ?_;refine lO ?_;refine af ?_));exact hW.out)):p:=f ⟨h⟩
theorem Hh{p q:Prop}(h:q)(f:Wq q->p:=by(intro hW;((first|refine aN1 rfl rfl rfl qz ?_|refine kT rfl rfl rfl qz ?_));exact hW.out)):p:=f ⟨h⟩
theorem GH{p q:Prop}(h:q)(f:Wq q->p:=by(intro hW;((refine gar ?_;refine qs ?_;refine aS ?_;refine zs4 ?_;refine dB ?_;refine aS ?_;refine zs4 ?_;refine dB ?_;refine aS ?_;refine cO ?_;refine mN ?_;refine af ?_));exact hW.out)):p:=f ⟨h⟩
theorem vt{p q:Prop}(h:q)(f:Wq q->p:=by(intro hW;((first|refine aN1 rfl rfl rfl ot ?_|refine kT rfl rfl rfl ot ?_));exact hW.out)):p:=f ⟨h⟩
theorem Hi{p q:Prop}(h:q)(f:Wq q->p:=by(intro hW;((first|refine aN1 rfl rfl rfl qy ?_|refine kT rfl rfl rfl qy ?_));exact hW.out)):p:=f ⟨h⟩
theorem GI{p q:Prop}(h:q)(f:Wq q->p:=by(intro hW;((refine zW ?_;refine vJ ?_;refine bq ?_;refine aR ?_;refine dn ?_;refine bq ?_;refine sX ?_;refine og ?_;refine bq ?_;refine sY ?_;refine cP ?_));exact hW.out)):p:=f ⟨h⟩
theorem He{p q:Prop}(h:q)(f:Wq q->p:=by(intro hW;((first|refine aN1 rfl rfl rfl AO ?_|refine kT rfl rfl rfl AO ?_));exact hW.out)):p:=f ⟨h⟩
theorem tu{p:Prop}(h:p:=by simp[D.is,Nat.beq_refl]):p:=h
theorem zb79{p:Prop}(h:p:=by simp only[AR];exact⟨trivial,rfl⟩):p:=h
theorem AK{p:Prop}(h:p:=by(first|(apply d_field_none;(exact rfl);(focus((apply au;(conv=>lhs;whnf);(first|done|exact rfl))));(kernel_rfl);(kernel_rfl))|(apply nS;(exact rfl);(focus((apply au;(conv=>lhs;whnf);(first|done|exact rfl))));(kernel_rfl);(exact rfl);(kernel_rfl)))):p:=h
theorem Hg{p q:Prop}(h:q)(f:Wq q->p:=by(intro hW;((first|refine aN1 rfl rfl rfl AK ?_|refine kT rfl rfl rfl AK ?_));exact hW.out)):p:=f ⟨h⟩
theorem zs122{p q:Prop}(h:q)(f:Wq q->p:=by(intro hW;((first|(refine aLs rfl rfl rfl rfl ?_ ?_;(focus(apply aJ;(conv=>lhs;whnf);(first|done|exact rfl|(apply aG;(first|(apply decide_eq_true;omega)|(apply decide_eq_false;omega)|assumption|(simp;done)))))))|refine aLw rfl rfl rfl rfl bp zb28 ?_));exact hW.out)):p:=f ⟨h⟩
theorem zs121{p q:Prop}(h:q)(f:Wq q->p:=by(intro hW;((first|(refine aLs rfl rfl rfl rfl ?_ ?_;(focus(apply aJ;(conv=>lhs;whnf);(first|done|exact rfl|(apply aG;(first|(apply decide_eq_true;omega)|(apply decide_eq_false;omega)|assumption|(simp;done)))))))|refine aLw rfl rfl rfl rfl bp AK ?_));exact hW.out)):p:=f ⟨h⟩
theorem vk{p q:Prop}(h:q)(f:Wq q->p:=by(intro hW;((refine gar ?_;refine mO ?_;refine aS ?_;refine zs91 ?_;refine mN ?_;refine zs4 ?_;refine zs121 ?_;refine mQ ?_;refine zs122 ?_;refine sW ?_;refine gw ?_;refine af ?_));exact hW.out)):p:=f ⟨h⟩
end
section
open Go.RowKit
namespace DW
theorem IZ.gr{Y:Nat->Prop}{w w':World}{x:IV}{z:Int}(h:IZ w x z)(k:Gr Y w w')(hb:∀b,Y b->NW w b):IZ w' x z:=by
 obtain⟨l,h1,h2,h3⟩:=h;refine⟨l,⟨h1.n,h1.cap,?_,h1.nf⟩,h2,h3⟩;rcases h1.ws with h|⟨b,e,hg,hc⟩
 ·exact .inl h
 ·by_cases hl:l=[]
  ·exact .inl hl
  have hne:¬Y b:=fun e2=>hb b e2 _ (hc 0 _ (List.getElem?_eq_getElem (List.length_pos_iff.2 hl)));exact .inr ⟨b,e,Nat.lt_of_lt_of_le hg k.size,fun i x hk=>(World.cell?_of_block (a:=⟨b,i,none⟩) (k.block b hg hne)).trans (hc i x hk)⟩
theorem Gr.agr{X Y:Nat->Prop}{w w':World}(k:Gr Y w w')(hb:∀b,Y b->NW w b)(hX:∀b,Y b->X b):Agr X w w':=
 ⟨k.size,fun b h1 h2=>k.block b h1 fun h=>h2 (hX b h),fun _ _ h=>IZ.gr h k hb⟩
theorem Gr.trans{Y Z:Nat->Prop}{w w' w2:World}(h:Gr Y w w')(k:Gr Z w' w2)(hz:∀b,Z b->w.heap.size<=b\/Y b):Gr Y w w2:=
 ⟨k.os.trans h.os,k.tape.trans h.tape,k.output.trans h.output,Nat.le_trans h.size k.size,fun b hb hy=>(k.block b (Nat.lt_of_lt_of_le hb h.size) fun e=>by
  rcases hz b e with h1|h1
  ·omega
  ·exact hy h1).trans (h.block b hb hy)⟩
def blk(f:Nat->Value)(os:List (Nat×Ow))(b:Nat):Prop:=∃p∈os,(f p.1).ownBlock=some b
def XB(X:Nat->Prop)(f:Nat->Value)(os:List (Nat×Ow))(b:Nat):Prop:=X b\/blk f os b
structure OS(X:Nat->Prop)(f:Nat->Value)(w:World)(os:List (Nat×Ow)):Prop where
 ow:∀p∈os,OW (XB X f os) f w 0 p
 nw:∀b,blk f os b->NW w b
 dj:∀p∈os,∀q∈os,p.1≠q.1->∀b,(f p.1).ownBlock=some b->(f q.1).ownBlock≠some b
 un:∀p∈os,∀q∈os,p.1=q.1->p=q
 xd:∀b,X b->¬blk f os b
def SRs(X:Nat->Prop)(f:Nat->Value)(w:World):List D->List Value->Prop
 |[],vs=>vs=[]
 |d::l,vs=>∃u rest,vs=u::rest/\SR X f w d u/\SRs X f w l rest
theorem SRs.at{X:Nat->Prop}{f:Nat->Value}{w:World}:∀{l:List D} {i:Nat} {d:D} {vs:List Value},SRs X f w l vs->l[i]?=some d->∃u,vs[i]?=some u/\SR X f w d u
 |[],_,_,_,_,h=>by simp at h
 |_::_,0,_,_,⟨u,rest,h1,h2,_⟩,e=>by simp at e;subst e;exact⟨u,by rw[h1];rfl,h2⟩
 |_::_,i+1,_,_,⟨u,rest,h1,_,h3⟩,e=>by
  obtain⟨u',k1,k2⟩:=SRs.at h3 jr;exact⟨u',by rw[h1];simpa using k1,k2⟩
theorem SRs.len{X:Nat->Prop}{f:Nat->Value}{w:World}:∀{l:List D} {vs:List Value},SRs X f w l vs->vs.length=l.length
 |[],_,h=>by rw[show _=[]from h];rfl
 |_::_,_,⟨_,_,h1,_,h3⟩=>by rw[h1];simp[SRs.len h3]
def uy(P:Program)(g:FuncId)(ds:List D)(os:List (Nat×Ow))(r:D)(os':List (Nat×Ow)):Prop:=
 ∀(X:Nat->Prop) (f:Nat->Value) (w:World) (vs:Array Value),XW X w->OS X f w os->SRs (XB X f os) f w ds vs.toList->
  Calls P g vs w (fun e w'=>∃u f',e= .returned u/\Gr (blk f os) w w'/\OS X f' w' os'/\(∀b,blk f' os' b->blk f os b\/w.heap.size<=b)/\(∀p∈os,f' p.1=f p.1)/\SR (XB X f' os') f' w' r u)
abbrev FnG(P:Program)(g:FuncId)(ds:List D)(os:List (Nat×Ow))(r:D)(os':List (Nat×Ow)):Prop:=Go.Proofs.Enters P g/\uy P g ds os r os'
section
variable {P : Program} {X0 : Nat->Prop} {n : Nat} {Q : Exit->S->Prop} {s : S} {sl : List (Nat × D)} {ow : List (Nat × Ow)} {o : Oper} {ops : Array Oper} {l : List Oper} {K : S->Prop} {t : Nat} {d : D}
theorem kv{w w':World}{base:Nat}{e:TypeId}{size:Nat}{v:Value}{m:Nat}{xs:List Value}(h:w.ownsRow base e size v m xs){g:Nat}(hv:v.ownBlock=some g)(hb:w'.heap[g]?=w.heap[g]?):w'.ownsRow base e size v m xs:=by
 refine⟨h.1,?_⟩;rcases h.2 with hn|⟨g',cap,cur,rfl,hb',hgg,rest⟩
 ·exact .inl hn
 ·simp only[Value.ownBlock,Option.some.injEq]at hv;subst hv;exact .inr ⟨g',cap,cur,rfl,hb',hb.trans hgg,rest⟩
theorem kB{w w':World}{base:Nat}{e:TypeId}{size:Nat}{v:Value}{m:Nat}{xs:List Value}(h:w.ownsRow base e size v m xs)(hv:v.ownBlock=none):w'.ownsRow base e size v m xs:=by
 refine⟨h.1,?_⟩;rcases h.2 with hn|⟨g',cap,cur,rfl,_⟩
 ·exact .inl hn
 ·cases hv
inductive xZ(P:Program)(fn:Func)(s:S):D->Prop
 |res (d:D) (h:Res P fn s d) (hd:d.seen=true):xZ P fn s d
 |own (t k:Nat) (h:fn.results= #[.tmp t]) (h1:s.gt t= .own k):xZ P fn s (.own k)
def fing(P:Program)(X0:Nat->Prop)(n:Nat)(fn:Func)(r:D)(os':List (Nat×Ow)):Exit->S->Prop
 | .normal,s=>∃s',Sh X0 n s s'/\xZ P fn s' r/\s'.ow=os'
 | .ret,s=>∃s',Sh X0 n s s'/\xZ P fn s' r/\s'.ow=os'
 |_,_=>False
theorem zy{g:FuncId}{fn:Func}{c:Code}{ds:List D}{os os':List (Nat×Ow)}{r:D}(hf:P.funcs[g]?=some fn)(hb:fn.body=some c)(hn:Nat.ble ds.length fn.ntmps=true)(hpin:∀p∈os,pin p.1=true)
  (h:∀X0,aW P X0 fn.ntmps c (fing P X0 fn.ntmps fn r os') ⟨aD 0 ds,os⟩):uy P g ds os r os':=fun X f w vs hX hO hv=>by
 have hl:=hv.len;simp only[Array.length_toList]at hl;have hn':ds.length<=fn.ntmps:=by simpa using hn
 have hd:Hd X fn.ntmps ⟨w,blk f os,f⟩ ⟨aD 0 ds,os⟩ f {tmps:=vs++Array.replicate (fn.ntmps-vs.size) undef,defers:=[]} w:=by
  refine⟨by simp;omega,rfl,Gr.refl _ _,hX,hO.xd,fun _ _=>rfl,fun p hp b hb=>.inr ⟨p,hp,hb⟩,fun t=>?_,hO.ow,hO.nw,hO.dj,hO.un⟩;show SR _ _ _ (look (aD 0 ds) t) _;rw[ly,if_pos (Nat.zero_le _),Nat.sub_zero]
  cases hd:ds[t]? with
  |none=>exact SR.any
  |some d=>
   obtain⟨u,k1,k2⟩:=SRs.at hv hd;have k1':vs[t]?=some u:=by simpa using k1
   have hlt:=(Array.getElem?_eq_some_iff.1 k1').1;have e:(vs++Array.replicate (fn.ntmps-vs.size) undef).getD t undef=u:=by
    rw[Array.getD_eq_getD_getElem?,Array.getElem?_append_left hlt,k1'];rfl
   show SR _ _ _ d (Array.getD _ t undef);rw[e];exact k2
 have key:∀s' f' a w',Hd X fn.ntmps ⟨w,blk f os,f⟩ s' f' a w'->(∃s'',Sh X fn.ntmps s' s''/\xZ P fn s'' r/\s''.ow=os')->a.defers=[]/\∃v,(results fn a.tmps).run P w'= .ok v w'/\(∃u f',Ending.returned v= .returned u/\Gr (blk f os) w w'/\OS X f' w' os'/\(∀b,blk f' os' b->blk f os b\/w.heap.size<=b)/\(∀p∈os,f' p.1=f p.1)/\SR (XB X f' os') f' w' r u):=fun s' f' a w' h1 ⟨s'',h2,h3,h4⟩=>by
  obtain⟨f'',h5⟩:=h2 _ f' a w' h1;subst h4;refine⟨h5.df,?_⟩;have hos:OS X f'' w' s''.ow:=⟨h5.ow,fun b hb=>h5.nw b hb,h5.dj,h5.un,fun b hb ⟨p,hp,e⟩=>by
   rcases h5.lo p hp b e with h6|h6
   ·exact absurd (hX b hb).1 (by simp only at h6;omega)
   ·exact hO.xd b hb h6⟩
  have hbk:∀b,blk f'' s''.ow b->blk f os b\/w.heap.size<=b:=fun b ⟨p,hp,e⟩=>(h5.lo p hp b e).symm;have hkp:∀p∈os,f'' p.1=f p.1:=fun p hp=>h5.fx p.1 (hpin p hp)
  cases h3 with
  |res d h6 h7=>
   obtain⟨v,k1,k2⟩:=yQ h5 h6;refine⟨v,k1,v,f'',rfl,h5.bl,hos,hbk,hkp,?_⟩;have k3:AR (XB X f'' s''.ow) w' r v:=k2;cases r<;>first|exact k3|simp[D.seen]at h7
  |own t k h6 h7=>
   have h8:=h5.sl t;rw[h7]at h8;refine⟨f'' k,?_,f'' k,f'',rfl,h5.bl,hos,hbk,hkp,rfl⟩;unfold results;rw[h6];simp only[SR]at h8;rw[Array.getD_eq_getD_getElem?]at h8;simp[h8]
 refine calls_of_wp hf hb (Code.wp_mono (fun e a w' ⟨s',f',h1,h2⟩=>?_) (h X _ f _ w hd));cases e<;>simp only[fing]at h2<;>simp only[bodyPost]
 ·exact key s' f' a w' h1 h2
 ·exact key s' f' a w' h1 h2
theorem ER.re{X:Nat->Prop}{f f':Nat->Value}{w:World}{d:D}{u:Value}(h:ER X f w d u)(hf:∀j,da j=true->d= .own j->f' j=f j):ER X f' w d u:=by
 cases d<;>first|exact h|exact⟨h.1,by rw[hf _ h.1 rfl];exact h.2.1,h.2.2⟩
theorem ElH.re{X:Nat->Prop}{f f':Nat->Value}{w:World}:∀{l:List D} {xs:List Value},ElH X f w l xs->(∀j,da j=true->.own j∈l->f' j=f j)->ElH X f' w l xs
 |[],_,h,_=>h
 |d::_,_,⟨u,rest,h1,h2,h3,h4,h5,h6,h7⟩,hf=>⟨u,rest,h1,h2,h3,h4.re fun j hr e=>hf j hr (by rw[<-e];exact List.mem_cons_self),h5,h6,h7.re fun j hr hj=>hf j hr (List.mem_cons_of_mem _ hj)⟩
theorem EE.re{X:Nat->Prop}{f f':Nat->Value}{w:World}{k wd:Nat}{l:List D}{xs:List Value}(h:EE X f w k wd l xs)(hf:hdr k=true->∀j,da j=true->.own j∈l->f' j=f j):EE X f' w k wd l xs:=by
 unfold EE at h⊢
 cases hh:hdr k with
 |false=>rw[hh]at h;exact h
 |true=>rw[hh]at h;exact⟨h.1,h.2.re (hf hh)⟩
def inK(os:List (Nat×Ow))(k:Nat):Bool:=os.any fun p=>Nat.beq p.1 k
theorem bT{os:List (Nat×Ow)}{k:Nat}:inK os k=true↔∃p∈os,p.1=k:=by
 unfold inK;rw[List.any_eq_true];constructor
 ·rintro⟨p,hp,h⟩;exact⟨p,hp,Nat.eq_of_beq_eq_true h⟩
 ·rintro⟨p,hp,h⟩;exact⟨p,hp,by rw[h,Nat.beq_refl]⟩
theorem Hd.call{w0:Bs}{f f':Nat->Value}{a:Act}{w w':World}{os os' ow1:List (Nat×Ow)}{r:D}{u:Value}(h:Hd X0 n w0 ⟨sl,ow⟩ f a w)
  (hos:∀p∈os,p∈ow) (h1:∀p∈ow1,p∈ow/\∀q∈os,q.1≠p.1)
  (hnew:∀p∈os',(∃q∈os,q.1=p.1)\/(pin p.1=false/\(∀t,(look sl t).is p.1=false)/\∀q∈ow1,q.1≠p.1/\(hdr q.1=true->da p.1=true-> .own p.1∉q.2.l)))
  (hm':∀p∈os',hdr p.1=true->∀j, .own j∈p.2.l->∃q∈os',q.1=j) (hr:∀k,r.is k=true->∃q∈os',q.1=k) (ht:t<n)
  (hg:Gr (blk f os) w w') (hO:OS (fun b=>XO X0 ⟨sl,ow⟩ f b/\¬blk f os b) f' w' os') (hb:∀b,blk f' os' b->blk f os b\/w.heap.size<=b) (hk:∀p∈os,f' p.1=f p.1) (hu:SR (XB (fun b=>XO X0 ⟨sl,ow⟩ f b/\¬blk f os b) f' os') f' w' r u):
  Hd X0 n w0 ⟨(t,r)::sl,os'++ow1⟩ (fun k=>if inK os' k then f' k else f k) (a.put (some t) u) w':=by
 have e1:∀p∈os',(if inK os' p.1 then f' p.1 else f p.1)=f' p.1:=fun p hp=>if_pos (bT.2 ⟨p,hp,rfl⟩);have e2:∀p∈ow1,(if inK os' p.1 then f' p.1 else f p.1)=f p.1:=fun p hp=>if_neg fun hh=>by
  obtain⟨q,hq,e⟩:=bT.1 hh;rcases hnew q hq with⟨q2,h2,e'⟩|h2
  ·exact(h1 p hp).2 q2 h2 (e'.trans e)
  ·exact(h2.2.2 p hp).1 e.symm
 have e3:∀k,(∃q∈os,q.1=k)\/inK os' k=false->(if inK os' k then f' k else f k)=f k:=fun k hh=>by
  rcases hh with⟨q,hq,rfl⟩|hh
  ·split
   ·exact hk q hq
   ·rfl
  ·rw[if_neg (by rw[hh];simp)]
 have hlt:∀p∈ow,∀b,(f p.1).ownBlock=some b->b<w.heap.size:=fun p hp b e=>((h.ow p hp).lt e).2;have hbo:∀b,blk f os b->blk f ow b:=fun b ⟨p,hp,e⟩=>⟨p,hos p hp,e⟩;have hX0:∀b,X0 b->¬blk f ow b:=fun b hb0 ⟨p,hp,e⟩=>by
  rcases h.lo p hp b e with h2|h2
  ·exact absurd (h.x0 b hb0).1 (by omega)
  ·exact h.xy b hb0 h2
 have hd1:∀b,blk f ow1 b->¬blk f os b:=fun b ⟨p,hp,e⟩ ⟨q,hq,e'⟩=>h.dj p (h1 p hp).1 q (hos q hq) (fun e2=>(h1 p hp).2 q hq e2.symm) b e e';have hag:Agr (XO X0 ⟨sl,ow⟩ f) w w':=hg.agr (fun b hb=>h.nw b (hbo b hb)) (fun b hb=> .inr (hbo b hb));have hX1:∀b,XO X0 ⟨(t,r)::sl,os'++ow1⟩ (fun k=>if inK os' k then f' k else f k) b->X0 b\/blk f' os' b\/blk f ow1 b:=fun b hb=>by
  rcases hb with hb|⟨p,hp,e⟩
  ·exact .inl hb
  ·rcases List.mem_append.1 hp with hp|hp
   ·simp only[e1 p hp]at e;exact .inr (.inl ⟨p,hp,e⟩)
   ·simp only[e2 p hp]at e;exact .inr (.inr ⟨p,hp,e⟩)
 have hXw:∀b,b<w.heap.size->XO X0 ⟨(t,r)::sl,os'++ow1⟩ (fun k=>if inK os' k then f' k else f k) b->XO X0 ⟨sl,ow⟩ f b:=fun b hbs hx=>by
  rcases hX1 b hx with h2|h2|⟨p,hp,e⟩
  ·exact .inl h2
  ·rcases hb b h2 with h3|h3
   ·exact .inr (hbo b h3)
   ·omega
  ·exact .inr ⟨p,(h1 p hp).1,e⟩
 have hXO:∀b,XO X0 ⟨(t,r)::sl,os'++ow1⟩ (fun k=>if inK os' k then f' k else f k) b->XB (fun b=>XO X0 ⟨sl,ow⟩ f b/\¬blk f os b) f' os' b:=fun b hx=>by
  rcases hX1 b hx with h2|h2|h2
  ·exact .inl ⟨.inl h2,fun hh=>hX0 b h2 (hbo b hh)⟩
  ·exact .inr h2
  ·obtain⟨p,hp,e⟩:=h2;exact .inl ⟨.inr ⟨p,(h1 p hp).1,e⟩,hd1 b ⟨p,hp,e⟩⟩
 refine⟨by simp[Act.put,h.sz],h.df,h.bl.trans hg fun b ⟨p,hp,e⟩=>h.lo p (hos p hp) b e,h.x0,h.xy,fun j hj=>?_,fun p hp b e=>?_,fun v=>?_,fun p hp=>?_,fun b ⟨p,hp,e⟩=>?_,fun p hp q hq hne b e e'=>?_,fun p hp q hq e=>?_⟩
 ·rw[e3 j ?_]
  ·exact h.fx j hj
  ·cases hi:inK os' j with
   |false=>exact .inr rfl
   |true=>
    obtain⟨q,hq,rfl⟩:=bT.1 hi;rcases hnew q hq with h2|h2
    ·exact .inl h2
    ·rw[h2.1]at hj;cases hj
 ·rcases List.mem_append.1 hp with hp|hp
  ·simp only[e1 p hp]at e;rcases hb b ⟨p,hp,e⟩with⟨q,hq,e'⟩|h3
   ·exact h.lo q (hos q hq) b e'
   ·exact .inl (by have:=h.bl.size;omega)
  ·simp only[e2 p hp]at e;exact h.lo p (h1 p hp).1 b e
 ·rw[jh (by rw[h.sz];exact ht)];show SR _ _ _ (look ((t,r)::sl) v) _;simp only[look];split
  ·cases hrd:r with
   |own k=>
    rw[hrd]at hu;obtain⟨q,hq,rfl⟩:=hr k (by rw[hrd];simp[D.is,Nat.beq_refl]);simp only[SR,e1 q hq];exact hu
   |opt k off=>
    rw[hrd]at hu;obtain⟨q,hq,rfl⟩:=hr k (by rw[hrd];simp[D.is,Nat.beq_refl]);simp only[SR,e1 q hq];exact hu
   |_=>rw[hrd]at hu;exact AR.free hu (fun b _ hb=>hXO b hb)
  ·have h2:SR (XO X0 ⟨sl,ow⟩ f) f w (look sl v) (a.tmps.getD v undef):=h.sl v;have h3:∀k,(look sl v).is k=true->(if inK os' k then f' k else f k)=f k:=fun k hk2=>e3 k (by
    cases hi:inK os' k with
    |false=>exact .inr rfl
    |true=>
     obtain⟨q,hq,rfl⟩:=bT.1 hi;rcases hnew q hq with h4|h4
     ·exact .inl h4
     ·rw[h4.2.1 v]at hk2;cases hk2)
   cases hd:look sl v with
   |own k=>
    rw[hd]at h2 h3;simp only[SR]at h2⊢;rw[h3 k tu];exact h2
   |opt k off=>
    rw[hd]at h2 h3;simp only[SR]at h2⊢;rw[h3 k tu];exact h2
   |_=>rw[hd]at h2;exact AR.agr hag hXw _ _ h2
 ·rcases List.mem_append.1 hp with hp|hp
  ·obtain⟨k0,zs,k1,k2⟩:=hO.ow p hp;refine⟨k0,zs,by simp only[e1 p hp];exact k1,?_⟩;exact(EE.agr (Agr.refl _ w') (fun b _ hb=>hXO b hb) (fun _ _=>rfl) k2).re fun hh j _ hj=>by
    obtain⟨q,hq,rfl⟩:=hm' p hp hh j hj;exact e1 q hq
  ·obtain⟨k0,zs,k1,k2⟩:=h.ow p (h1 p hp).1;refine⟨k0,zs,?_,?_⟩
   ·simp only[e2 p hp]
    cases hv:(f p.1).ownBlock with
    |none=>exact kB k1 hv
    |some g=>exact kv k1 hv (hg.block g (hlt p (h1 p hp).1 g hv) (hd1 g ⟨p,hp,hv⟩))
   ·refine(EE.agr hag hXw (fun _ _=>rfl) k2).re fun hh j hrw hj=>e3 j ?_
    cases hi:inK os' j with
    |false=>exact .inr rfl
    |true=>
     obtain⟨q,hq,rfl⟩:=bT.1 hi;rcases hnew q hq with h4|h4
     ·exact .inl h4
     ·exact absurd hj ((h4.2.2 p hp).2 hh hrw)
 ·rcases List.mem_append.1 hp with hp|hp
  ·simp only[e1 p hp]at e;exact hO.nw b ⟨p,hp,e⟩
  ·simp only[e2 p hp]at e;have hpo:=(h1 p hp).1;intro m hm;have:w'.cell? ⟨b,0,none⟩=w.cell? ⟨b,0,none⟩:=World.cell?_of_block (hg.block b (hlt p hpo b e) (hd1 b ⟨p,hp,e⟩));rw[this]at hm;exact h.nw b ⟨p,hpo,e⟩ m hm
 ·have cross : ∀ p ∈ os', ∀ q ∈ ow1, ∀ b, (f' p.1).ownBlock = some b -> (f q.1).ownBlock = some b -> False := fun p hp q hq b e e' => by
   rcases hb b ⟨p,hp,e⟩with h3|h3
   ·exact hd1 b ⟨q,hq,e'⟩ h3
   ·have:=hlt q (h1 q hq).1 b e';omega
  rcases List.mem_append.1 hp with hp|hp<;>rcases List.mem_append.1 hq with hq|hq
  ·simp only[e1 p hp,e1 q hq]at e e';exact hO.dj p hp q hq hne b e e'
  ·simp only[e1 p hp,e2 q hq]at e e';exact cross p hp q hq b e e'
  ·simp only[e2 p hp,e1 q hq]at e e';exact cross q hq p hp b e' e
  ·simp only[e2 p hp,e2 q hq]at e e';exact h.dj p (h1 p hp).1 q (h1 q hq).1 hne b e e'
 ·have cross : ∀ p ∈ os', ∀ q ∈ ow1, p.1 = q.1 -> False := fun p hp q hq e => by
   rcases hnew p hp with⟨q2,h4,e4⟩|h4
   ·exact(h1 q hq).2 q2 h4 (e4.trans e)
   ·exact(h4.2.2 q hq).1 e.symm
  rcases List.mem_append.1 hp with hp|hp<;>rcases List.mem_append.1 hq with hq|hq
  ·exact hO.un p hp q hq e
  ·exact(cross p hp q hq e).elim
  ·exact(cross q hq p hp e.symm).elim
  ·exact h.un p (h1 p hp).1 q (h1 q hq).1 e
end
end DW
end
section
open Go.RowKit
namespace DW
section
variable {P : Program} {X0 : Nat->Prop} {n : Nat} {Q : Exit->S->Prop} {s : S} {sl : List (Nat × D)} {ow : List (Nat × Ow)} {o : Oper} {ops : Array Oper} {l : List Oper} {K : S->Prop} {t : Nat} {d : D}
theorem Cn{X:Nat->Prop}{f:Nat->Value}{w:World}(s:S)(a:Act):∀l:List Operand,(∀x∈l,SR X f w (s.op x) (a.eval x))->SRs X f w (l.map s.op) (l.map a.eval)
 |[],_=>rfl
 |x::l,h=>⟨_,_,rfl,h x List.mem_cons_self,Cn s a l fun y hy=>h y (List.mem_cons_of_mem _ hy)⟩
structure sV(sl:List (Nat×D))(ow os os' ow1:List (Nat×Ow))(r:D):Prop where
 sub:∀p∈os,p∈ow
 rest:∀p∈ow1,p∈ow/\∀q∈os,q.1≠p.1
 new:∀p∈os',(∃q∈os,q.1=p.1)\/(pin p.1=false/\(∀t,(look sl t).is p.1=false)/\∀q∈ow1,q.1≠p.1/\(hdr q.1=true->da p.1=true->.own p.1∉q.2.l))
 men:∀p∈os',hdr p.1=true->∀j,.own j∈p.2.l->∃q∈os',q.1=j
 res:∀k,r.is k=true->∃q∈os',q.1=k
theorem EK{g:FuncId}{xs:List Operand}{ts:Array TypeId}{ds:List D}{os os' ow1:List (Nat×Ow)}{r:D}(hdst:o.dst=some t)(ht:Nat.blt t n=true)(ho:o.op= .call {callee:=.value (.func g),args:=xs.toArray,argTypes:=ts})(hd:xs.map (S.op ⟨sl,ow⟩)=ds)(hf:FnG P g ds os r os')(hc:sV sl ow os os' ow1 r)
  {w0:Bs} {f:Nat->Value} {a:Act} {w:World} (hh:Hd X0 n w0 ⟨sl,ow⟩ f a w) (Qx:Exit->Act->World->Prop):o.wp P a w (fun a' w'=>∃f',Hd X0 n w0 ⟨(t,r)::sl,os'++ow1⟩ f' a' w') Qx:=by
 have hr:(execOp a.eval o).run P w= .ok (.enter g (xs.map a.eval).toArray) w:=by
  unfold execOp;rw[ho];have:=hf.1 (xs.map a.eval).toArray w;simp[resolve,invoke,Deferred.ofValue,Act.eval,this]
 have hXB:XB (fun b=>XO X0 ⟨sl,ow⟩ f b/\¬blk f os b) f os=XO X0 ⟨sl,ow⟩ f:=funext fun b=>propext (by
  constructor
  ·rintro(h|⟨p,hp,e⟩)
   ·exact h.1
   ·exact .inr ⟨p,hc.sub p hp,e⟩
  ·intro h;by_cases hb:blk f os b
   ·exact .inr hb
   ·exact .inl ⟨h,hb⟩)
 have hO:OS (fun b=>XO X0 ⟨sl,ow⟩ f b/\¬blk f os b) f w os:=⟨fun p hp=>by rw[hXB];exact hh.ow p (hc.sub p hp),fun b ⟨p,hp,e⟩=>hh.nw b ⟨p,hc.sub p hp,e⟩,fun p hp q hq=>hh.dj p (hc.sub p hp) q (hc.sub q hq),fun p hp q hq=>hh.un p (hc.sub p hp) q (hc.sub q hq),fun b hb=>hb.2⟩;have hS:SRs (XB (fun b=>XO X0 ⟨sl,ow⟩ f b/\¬blk f os b) f os) f w ds (xs.map a.eval).toArray.toList:=by
  rw[hXB,<-hd];exact Cn ⟨sl,ow⟩ a xs fun x _=>hh.op x
 unfold Oper.wp;rw[hr,Oper.upon_enter];refine(hf.2 _ f w _ (fun b hb=>hh.xlt b hb.1) hO hS).mono fun e w' ⟨u,f',he,h1,h2,h3,h4,h5⟩=>?_;subst he;rw[hdst];exact⟨_,hh.call hc.sub hc.rest hc.new hc.men hc.res qu h1 h2 h3 h4 h5⟩
theorem zP{g:FuncId}{xs:List Operand}{ts:Array TypeId}{ds:List D}{os os':List (Nat×Ow)}{r:D}(ow1:List (Nat×Ow))(hg:o.guard=none)(hdst:o.dst=some t)(ht:Nat.blt t n=true)(ho:o.op= .call {callee:=.value (.func g),args:=xs.toArray,argTypes:=ts})(hd:xs.map (S.op ⟨sl,ow⟩)=ds)(hf:FnG P g ds os r os')(hc:sV sl ow os os' ow1 r)
  (h:aL P X0 n ops l K ⟨(t,r)::sl,os'++ow1⟩):aL P X0 n ops (o::l) K ⟨sl,ow⟩:=
 fw fun w0 f a w Qx hh=>⟨by simp[Region.wanted,hg],Oper.wp_mono (fun _ _ ⟨f',h1⟩=>⟨_,f',h1,h⟩) (EK hdst ht ho hd hf hc hh Qx)⟩
theorem Hd.re{w0:Bs}{f f':Nat->Value}{a:Act}{w:World}{s':S}(h:Hd X0 n w0 s f a w)(τ:Nat->Nat)
  (h1:∀p∈s'.ow,∃q:Ow,(τ p.1,q)∈s.ow/\f' p.1=f (τ p.1)/\p.2.T=q.T/\p.2.wd=q.wd/\p.2.l.length=q.l.length/\∀X xs,EE X f w (τ p.1) q.wd q.l xs->EE X f' w p.1 q.wd p.2.l xs)
  (h2:∀p∈s'.ow,∀p2∈s'.ow,τ p.1=τ p2.1->p=p2) (h3:∀t X v,SR X f w (s.gt t) v->SR X f' w (s'.gt t) v) (h4:∀j,pin j=true->f' j=f j):Hd X0 n w0 s' f' a w:=by
 have hX:∀b,XO X0 s' f' b->XO X0 s f b:=fun b hb=>by
  rcases hb with hb|⟨p,hp,e⟩
  ·exact .inl hb
  ·obtain⟨q,q1,q2,_⟩:=h1 p hp;exact .inr ⟨_,q1,by rw[<-q2];exact e⟩
 refine⟨h.sz,h.df,h.bl,h.x0,h.xy,fun j hj=>(h4 j hj).trans (h.fx j hj),fun p hp b e=>?_,fun t=>?_,fun p hp=>?_,fun b ⟨p,hp,e⟩=>?_,fun p hp q hq hne b e e'=>?_,fun p hp q hq e=>h2 p hp q hq (by rw[e])⟩
 ·obtain⟨q,q1,q2,_⟩:=h1 p hp;exact h.lo _ q1 b (by rw[<-q2];exact e)
 ·have h5:=h3 t _ _ (h.sl t);cases hd:s'.gt t<;>rw[hd]at h5<;>first|exact AR.free h5 (fun b _ hb=>hX b hb)|exact h5
 ·obtain⟨q,q1,q2,q3,q4,q5,q6⟩:=h1 p hp;obtain⟨k0,zs,k1,k2⟩:=h.ow _ q1;refine⟨by rw[q4];exact k0,zs,by rw[q2,q3,q4,q5];exact k1,?_⟩;rw[q4];exact EE.agr (Agr.refl _ w) (fun b _ hb=>hX b hb) (fun _ _=>rfl) (q6 _ _ k2)
 ·obtain⟨q,q1,q2,_⟩:=h1 p hp;exact h.nw b ⟨_,q1,by rw[<-q2];exact e⟩
 ·obtain⟨q1,r1,r2,_⟩:=h1 p hp;obtain⟨q2,r3,r4,_⟩:=h1 q hq;exact h.dj _ r1 _ r3 (fun hh=>hne (by rw[h2 p hp q hq hh])) b (by rw[<-r2];exact e) (by rw[<-r4];exact e')
theorem ElH.map{X:Nat->Prop}{f f':Nat->Value}{w:World}:∀{l l':List D} {xs:List Value},ElH X f w l xs->l'.length=l.length->(∀(i:Nat) (d d':D),l[i]?=some d->l'[i]?=some d'->d'.wd=1/\∀u,ER X f w d u->ER X f' w d' u)->ElH X f' w l' xs
 |[],[],_,h,_,_=>h
 |[],_::_,_,_,h,_=>by simp at h
 |_::_,[],_,_,h,_=>by simp at h
 |d::_,d'::_,_,⟨u,rest,h1,h2,h3,h4,_,h6,h7⟩,hl,hh=>by
  obtain⟨k1,k2⟩:=hh 0 d d' rfl rfl;exact⟨u,rest,h1,h2,h3,k2 u h4,k1,h6,ElH.map h7 js fun i e e' he he'=>hh (i+1) e e' (by simpa using he) (by simpa using he')⟩
theorem ER.other{X:Nat->Prop}{f f':Nat->Value}{w:World}{d:D}{u:Value}{b:Nat}{v:Value}(h:ER X f w d u)(hf:f'=fun j=>if j=b then v else f j)(hb:d≠ .own b):ER X f' w d u:=h.re fun j _ e=>by
 rw[hf];exact if_neg fun e2=>hb (by rw[e,e2])
theorem Ip{H J a i:Nat}{Tm:TypeId}{L:List D}{q:Ow}{ow ow':List (Nat×Ow)}(hH:(H,(⟨Tm,1,L⟩:Ow))∈ow)(hq:(a,q)∈ow)(hi:L[i]?=some (.own a))(hHh:hdr H=true)(hJ:da J=true)(hJp:pin J=false)(hah:hdr a=false)(hJh:hdr J=false)
  (hJf:∀p∈ow,p.1≠J/\(hdr p.1=true-> .own J∉p.2.l)) (hsl:∀t,(look sl t).is a=false/\(look sl t).is J=false)
  (ho:∀p∈ow',p=(J,q)\/p=(H,⟨Tm,1,L.set i (.own J)⟩)\/(p∈ow/\p.1≠a/\p.1≠H)):Sh X0 n ⟨sl,ow⟩ ⟨sl,ow'⟩:=fun w0 f ac w h=>by
 have hal:∃A m c,f a= .slice A m c:=by
  obtain⟨_,_,⟨_,k1⟩,_⟩:=h.ow _ hq;rcases k1 with⟨k1,_⟩|⟨g,cap,cur,k1,_⟩
  ·exact⟨_,_,_,k1⟩
  ·exact⟨_,_,_,k1⟩
 have hHa:H≠a:=fun e=>by rw[e,hah]at hHh;cases hHh
 have hHJ:H≠J:=fun e=>by rw[e,hJh]at hHh;cases hHh
 have hJa:J≠a:=fun e=>(hJf _ hq).1 e.symm;refine⟨fun j=>if j=J then f a else f j,h.re (fun k=>if k=J then a else k) (fun p hp=>?_) (fun p hp p2 hp2 e=>?_) (fun t X v hv=>?_) fun j hj=>if_neg fun e=>by rw[e,hJp]at hj;cases hj⟩
 ·rcases ho p hp with rfl|rfl|⟨h1,h2,h3⟩
  ·refine⟨q,by simp only[if_true];exact hq,by simp,rfl,rfl,rfl,fun X xs hx=>?_⟩;simp only[if_true]at hx;exact EE.of (hx.pl hah) hJh
  ·refine⟨⟨Tm,1,L⟩,by simp only[if_neg hHJ];exact hH,by simp only[if_neg hHJ],rfl,rfl,by simp,fun X xs hx=>?_⟩;simp only[if_neg hHJ]at hx;unfold EE at hx⊢;rw[hHh]at hx⊢;refine⟨rfl,hx.2.map (by simp) fun k d d' e e'=>?_⟩;rw[List.getElem?_set]at e';split at e'
   ·next hik=>
    subst hik;rw[hi]at e;cases e;split at e'
    ·cases e';refine⟨rfl,fun u hu=>⟨hJ,by simp only[if_true];exact hu.2.1,hu.2.2⟩⟩
    ·cases e'
   ·rw[e]at e';cases e';obtain⟨u,_,_,_,k4,k5⟩:=ElH.at hx.2 e;exact⟨k5,fun u hu=>hu.other rfl fun e2=>(hJf _ hH).2 hHh (by rw[<-e2];exact List.mem_of_getElem? e)⟩
  ·obtain⟨k,q'⟩:=p;have hkJ:=(hJf _ h1).1;simp only at hkJ h2 h3;refine⟨q',by simp only[if_neg hkJ];exact h1,by simp only[if_neg hkJ],rfl,rfl,rfl,fun X xs hx=>?_⟩;simp only[if_neg hkJ]at hx;exact hx.re fun hh j _ hj=>if_neg fun e=>(hJf _ h1).2 hh (by rw[<-e];exact hj)
 ·have hk : ∀ p ∈ ow', (p = (J, q) /\ (if p.1 = J then a else p.1) = a) \/ (p.1 ≠ J /\ p.1 ≠ a /\ (if p.1 = J then a else p.1) = p.1) := fun p hp => by
   rcases ho p hp with rfl|rfl|⟨h1,h2,h3⟩
   ·exact .inl ⟨rfl,by simp⟩
   ·exact .inr ⟨hHJ,hHa,if_neg hHJ⟩
   ·have:=(hJf _ h1).1;exact .inr ⟨this,h2,if_neg this⟩
  rcases hk p hp with⟨r1,r2⟩|⟨r1,r2,r3⟩<;>rcases hk p2 hp2 with⟨s1,s2⟩|⟨s1,s2,s3⟩
  ·rw[r1,s1]
  ·rw[r2,s3]at e;exact absurd e.symm s2
  ·rw[r3,s2]at e;exact absurd e r2
  ·rw[r3,s3]at e;rcases ho p hp with rfl|h1|⟨h1,_,_⟩
   ·exact absurd rfl r1
   ·rcases ho p2 hp2 with rfl|h2|⟨h2,_,h3⟩
    ·exact absurd rfl s1
    ·rw[h1,h2]
    ·rw[h1]at e;exact absurd e.symm h3
   ·rcases ho p2 hp2 with rfl|h2|⟨h2,_,h3⟩
    ·exact absurd rfl s1
    ·rw[h2]at e;rcases ho p hp with rfl|h4|⟨_,_,h4⟩
     ·exact absurd rfl r1
     ·rw[h4,h2]
     ·exact absurd e h4
    ·exact h.un p h1 p2 h2 e
 ·show SR X _ w (look sl t) v;have hv':SR X f w (look sl t) v:=hv;have h2:=(hsl t).2
  cases hd:look sl t with
  |own j=>rw[hd]at hv' h2;simp only[SR]at hv'⊢;rw[if_neg fun e=>by rw[e]at h2;simp[D.is,Nat.beq_refl]at h2];exact hv'
  |opt j off=>rw[hd]at hv' h2;simp only[SR]at hv'⊢;rw[if_neg fun e=>by rw[e]at h2;simp[D.is,Nat.beq_refl]at h2];exact hv'
  |_=>rw[hd]at hv';exact hv'
theorem jV{x:Operand}{tt T:TypeId}{k off i j:Nat}{lo:List D}(ho:o.op= .load tt x)(hx:s.op x= .opt k off)(hk:(k,(⟨T,1,lo⟩:Ow))∈s.ow)(hkh:hdr k=true)(hoff:i*1=off)(hd:lo[i]?=some (.own j))(hz:(P.info? tt).map (·.size)=some 1)(hg:(P.underlying tt).map TypeDesc.isRow=some false):aU P o s (.own j):=fun X f a w base _ how hs=>by
 subst hoff;have h1:=hs x bc;rw[hx]at h1;simp only[SR]at h1;obtain⟨g,n',c',e1,e2⟩:=h1;obtain⟨hw0,xs,⟨hxl,h10⟩,h11⟩:=how _ hk;simp only at h10 h11 hxl;rcases h10 with⟨h12,h13⟩|⟨g',cap,cur,h12,hb,hgg,hle,hm,hcs,htk⟩
 ·rw[e1]at h12;cases h12
 rw[e1]at h12;cases h12;unfold EE at h11;rw[hkh]at h11;obtain⟨u,k1,k2,k3,k4,_⟩:=ElH.at h11.2 hd;obtain⟨_,rfl,A,m,c,hA⟩:=k4;have hc:w.cell? ⟨g,i*1,none⟩=some (f j):=by
  rw[cell_of_row w g _ cur _ (0,0) hgg];have hlt:=(List.getElem?_eq_some_iff.1 k1).1;rw[<-htk,List.length_take]at hlt;rw[<-htk,List.getElem?_take_of_lt (by omega),Array.getElem?_toList]at k1;rw[Nat.mul_one];exact k1
 rw[Nat.mul_one]at hc e2;refine bV (u:=f j) ?_ rfl;unfold execOp;rw[ho]
 cases hu:P.underlying tt with
 |none=>rw[hu]at hg;cases hg
 |some dd=>
  rw[hu]at hg;simp only[Option.map_some,Option.some.injEq]at hg;have hagg:(isAgg tt).run P w= .ok false w:=by
   unfold isAgg;rw[Sem.run_bind,run_underlying hu w];cases dd<;>simp_all
  simp[Instr.loadAt,Instr.sureAddr,loadVar,Sem.run_bind,hagg,hc,e2]
end
end DW
end
section
open Go.RowKit
namespace DW
section
variable {P : Program} {X0 : Nat->Prop} {n : Nat} {Q : Exit->S->Prop} {s : S} {sl : List (Nat × D)} {ow : List (Nat × Ow)} {o : Oper} {ops : Array Oper} {l : List Oper} {K : S->Prop} {t : Nat} {d : D}
theorem wi{w0:Bs}{f:Nat->Value}{a:Act}{w:World}(h:Hd X0 n w0 s f a w){j:Nat}{q:Ow}(hj:(j,q)∈s.ow):∃A m c,f j= .slice A m c:=by
 obtain⟨_,_,⟨_,k1⟩,_⟩:=h.ow _ hj;rcases k1 with⟨k1,_⟩|⟨g,cap,cur,k1,_⟩
 ·exact⟨_,_,_,k1⟩
 ·exact⟨_,_,_,k1⟩
def mvD(a b:Nat):D->D
 | .own j=>match Nat.beq j a with|true=>.own b|false=>.own j
 | .opt j off=>match Nat.beq j a with|true=>.opt b off|false=>.opt j off
 |d=>d
def mvS(a b:Nat):List (Nat×D)->List (Nat×D)
 |[]=>[]
 |(t,d)::l=>(t,mvD a b d)::mvS a b l
theorem nF(a b:Nat):∀(l:List (Nat×D)) (t:Nat),look (mvS a b l) t=mvD a b (look l t)
 |[],_=>rfl
 |(u,d)::l,t=>by
  simp only[mvS,look];split
  ·rfl
  ·exact nF a b l t
def noS(b:Nat)(l:List (Nat×D)):Bool:=l.all fun p=>!p.2.is b
theorem nC{b:Nat}:∀{l:List (Nat×D)},noS b l=true->∀t,(look l t).is b=false
 |[],_,_=>rfl
 |(u,d)::l,h,t=>by
  simp only[noS,List.all_cons,Bool.and_eq_true,Bool.not_eq_true']at h;simp only[look];split
  ·exact h.1
  ·exact nC (l:=l) h.2 t
theorem Els.elh{X:Nat->Prop}{f:Nat->Value}{w:World}:∀{l:List D} {xs:List Value},Els X w 1 l xs->(∀d∈l,d.agg=false)->ElH X f w l xs
 |[],_,h,_=>h
 |d::l,_,⟨u,rest,h1,h2,h3,h4,h5,h6⟩,ha=>by
  have hs:=AR.shape h3 h2;rw[ha d List.mem_cons_self]at hs;obtain⟨k1,k2⟩:=hs;refine⟨u,rest,by rw[h1,k2];rfl,k1,k2,?_,h4,fun m e=>AR.nwd d u h2 h5 m (by rw[k2,e];rfl),Els.elh h6 fun d hd=>ha d (List.mem_cons_of_mem _ hd)⟩;cases d<;>first|exact⟨h2,h3⟩|simp[D.fits]at h3
theorem B1{a b:Nat}{q:Ow}{ow':List (Nat×Ow)}(hq:(a,q)∈ow)(hb:pin b=false)(hh:hdr b=hdr a\/(hdr a=false/\q.wd=1/\∀d∈q.l,d.agg=false))(hf:∀p∈ow,p.1≠b/\(hdr p.1=true->.own b∉p.2.l))(hs:noS b sl=true)
  (ho:∀p∈ow',p=(b,q)\/(p∈ow/\p.1≠a)):Sh X0 n ⟨sl,ow⟩ ⟨mvS a b sl,ow'⟩:=fun w0 f ac w h=>by
 refine⟨fun j=>if j=b then f a else f j,h.re (fun k=>if k=b then a else k) (fun p hp=>?_) (fun p hp p2 hp2 e=>?_) (fun t X v hv=>?_) fun j hj=>if_neg fun e=>by rw[e,hb]at hj;cases hj⟩
 ·rcases ho p hp with rfl|⟨h1,h2⟩
  ·refine⟨q,by simp only[if_true];exact hq,by simp,rfl,rfl,rfl,fun X xs hx=>?_⟩;simp only[if_true]at hx;have hx2:EE X (fun j=>if j=b then f a else f j) w a q.wd q.l xs:=hx.re fun hh j _ hj=>if_neg fun e=>(hf _ hq).2 hh (by rw[<-e];exact hj);rcases hh with hh|⟨hh,h3,h4⟩
   ·unfold EE at hx2⊢;rw[hh];exact hx2
   ·have h5:=hx2.pl hh;unfold EE
    cases hdr b with
    |false=>exact h5
    |true=>rw[h3]at h5;exact⟨h3,h5.elh h4⟩
  ·have hkb:=(hf _ h1).1;refine⟨p.2,by simp only[if_neg hkb];exact h1,by simp only[if_neg hkb],rfl,rfl,rfl,fun X xs hx=>?_⟩;simp only[if_neg hkb]at hx;exact hx.re fun hh j _ hj=>if_neg fun e=>(hf _ h1).2 hh (by rw[<-e];exact hj)
 ·rcases ho p hp with rfl|⟨h1,h2⟩<;>rcases ho p2 hp2 with rfl|⟨h3,h4⟩
  ·rfl
  ·rw[if_pos rfl,if_neg (hf _ h3).1]at e;exact absurd e.symm h4
  ·rw[if_pos rfl,if_neg (hf _ h1).1]at e;exact absurd e h2
  ·rw[if_neg (hf _ h1).1,if_neg (hf _ h3).1]at e;exact h.un p h1 p2 h3 e
 ·show SR X _ w (look (mvS a b sl) t) v;rw[nF];have hv':SR X f w (look sl t) v:=hv;have h2:=nC hs t
  cases hd:look sl t with
  |own j=>
   rw[hd]at hv' h2;simp only[SR]at hv';simp only[mvD]
   cases hja:Nat.beq j a with
   |true=>simp only[SR,if_true];rw[<-Nat.eq_of_beq_eq_true hja];exact hv'
   |false=>simp only[SR];rw[if_neg fun e=>by rw[e]at h2;simp[D.is,Nat.beq_refl]at h2];exact hv'
  |opt j off=>
   rw[hd]at hv' h2;simp only[SR]at hv';simp only[mvD]
   cases hja:Nat.beq j a with
   |true=>simp only[SR,if_true];rw[<-Nat.eq_of_beq_eq_true hja];exact hv'
   |false=>simp only[SR];rw[if_neg fun e=>by rw[e]at h2;simp[D.is,Nat.beq_refl]at h2];exact hv'
  |_=>rw[hd]at hv';exact hv'
theorem ls_of{w0:Bs}{f:Nat->Value}{a:Act}{w:World}(h:Hd X0 n w0 s f a w){j:Nat}{q:Ow}(hj:(j,q)∈s.ow)(hh:hdr j=false){X':Nat->Prop}(hX:∀b,X' b->XO X0 s f b)(hb:∀b,(f j).ownBlock=some b->¬X' b):AR X' w (.ls q.wd q.l) (f j):=by
 obtain⟨hw0,xs,⟨_,h10⟩,h11'⟩:=h.ow _ hj;have hE:=Els.agr (X':=X') (Agr.refl _ w) (fun b _ hb=>hX b hb) (h11'.pl hh);simp only[AR];rcases h10 with⟨h12,h13⟩|⟨g,cap,cur,h12,hb',hgg,hle,hm,hsz,htk⟩
 ·simp only at h13 h12;exact⟨none,0,by rw[h12,h13],by omega,.inl (List.eq_nil_of_length_eq_zero h13)⟩
 ·simp only at h12 htk hle;refine⟨_,cap,by rw[h12],hle,.inr ⟨g,0,rfl,hb g (by rw[h12];rfl),(Array.getElem?_eq_some_iff.1 hgg).1,Els.ars hE fun j v hj=>?_⟩⟩;rw[cell_of_row w g _ cur _ (0,0) hgg,Nat.zero_add];have hj2:=(List.getElem?_eq_some_iff.1 hj).1;rw[<-htk,List.length_take]at hj2;rw[<-htk,List.getElem?_take_of_lt (by omega),Array.getElem?_toList]at hj;exact hj
theorem Gy{H:Nat}{Tm:TypeId}{L L':List D}{sl':List (Nat×D)}{ow':List (Nat×Ow)}(hH:(H,(⟨Tm,1,L⟩:Ow))∈ow)(hHh:hdr H=true)(hl:L'.length=L.length)
  (hL:∀(i:Nat) (d d':D),L[i]?=some d->L'[i]?=some d'->(d.fits=true/\d'=d)\/∃j q,d= .own j/\(j,q)∈ow/\hdr j=false/\d'= .ls q.wd q.l)
  (hs:∀t,look sl' t= .any\/(look sl' t= .ls 1 L'/\look sl t= .own H)\/look sl' t=look sl t) (ho:∀p∈ow',p∈ow/\p.1≠H/\.own p.1∉L):Sh X0 n ⟨sl,ow⟩ ⟨sl',ow'⟩:=fun w0 f ac w h=>by
 have hX:∀b,XO X0 ⟨sl',ow'⟩ f b->XO X0 ⟨sl,ow⟩ f b:=fun b hb=>by
  rcases hb with hb|⟨p,hp,e⟩
  ·exact .inl hb
  ·exact .inr ⟨p,(ho p hp).1,e⟩
 have hfree:∀j q,(j,q)∈ow->(∀p∈ow',p.1≠j)->∀b,(f j).ownBlock=some b->¬XO X0 ⟨sl',ow'⟩ f b:=fun j q hj hp b e hx=>by
  rcases hx with hx|⟨p,hp',e'⟩
  ·rcases h.lo _ hj b e with h1|h1
   ·exact absurd (h.x0 b hx).1 (by omega)
   ·exact h.xy b hx h1
  ·exact h.dj p (ho p hp').1 _ hj (hp p hp') b e' e
 have hHl:AR (XO X0 ⟨sl',ow'⟩ f) w (.ls 1 L') (f H):=by
  obtain⟨_,xs,⟨hxl,h10⟩,h11⟩:=h.ow _ hH;unfold EE at h11;rw[hHh]at h11;simp only at h10 hxl;simp only[AR];rcases h10 with⟨h12,h13⟩|⟨g,cap,cur,h12,hb',hgg,hle,hm,hsz,htk⟩
  ·exact⟨none,0,by rw[h12,hl,h13],by omega,.inl (List.eq_nil_of_length_eq_zero (by omega))⟩
  ·refine⟨_,cap,by rw[h12,hl],by omega,.inr ⟨g,0,rfl,hfree H _ hH (fun p hp=>(ho p hp).2.1) g (by rw[h12];rfl),(Array.getElem?_eq_some_iff.1 hgg).1,ARs.mk fun i d' hd'=>?_⟩⟩;have hi:=(List.getElem?_eq_some_iff.1 hd').1;obtain⟨d,hd⟩:∃d,L[i]?=some d:=⟨_,List.getElem?_eq_getElem (by omega)⟩;obtain⟨u,k1,k2,k3,k4,k5⟩:=ElH.at h11.2 hd;have hr:w.rangeAt g (0+i*1) u.cells.toList:=fun z v hz=>by
    rw[k3]at hz
    match z with
    |0=>
     rw[cell_of_row w g _ cur _ (0,0) hgg];simp at hz;have hlt:=(List.getElem?_eq_some_iff.1 k1).1;rw[<-htk,List.length_take]at hlt;rw[<-htk,List.getElem?_take_of_lt (by omega),Array.getElem?_toList]at k1;rw[Nat.zero_add,Nat.mul_one,Nat.add_zero,k1,hz]
    |z+1=>simp at hz
   rcases hL i d d' hd hd' with⟨r1,r2⟩|⟨j,q,r1,r2,r3,r4⟩
   ·subst r2;refine⟨u,?_,r1,k5,hr⟩;cases d'<;>first|exact AR.free k4.1 (fun b _ hb=>hX b hb)|simp[D.fits]at r1
   ·subst r1;rw[r4];refine⟨u,?_,rfl,rfl,hr⟩;rw[k4.2.1];exact ls_of h r2 r3 hX (hfree j q r2 fun p hp e=>(ho p hp).2.2 (by rw[e];exact List.mem_of_getElem? hd))
 refine⟨f,h.sz,h.df,h.bl,h.x0,h.xy,h.fx,fun p hp=>h.lo p (ho p hp).1,fun t=>?_,fun p hp=>?_,fun b ⟨p,hp,e⟩=>h.nw b ⟨p,(ho p hp).1,e⟩,fun p hp q hq=>h.dj p (ho p hp).1 q (ho q hq).1,fun p hp q hq=>h.un p (ho p hp).1 q (ho q hq).1⟩
 ·show SR _ _ _ (look sl' t) _;have h1:SR (XO X0 ⟨sl,ow⟩ f) f w (look sl t) (ac.tmps.getD t undef):=h.sl t;rcases hs t with e|⟨e,e'⟩|e
  ·rw[e];exact SR.any
  ·rw[e']at h1;simp only[SR]at h1;rw[e,h1];exact hHl
  ·rw[e];cases hd:look sl t<;>rw[hd]at h1<;>first|exact AR.free h1 (fun b _ hb=>hX b hb)|exact h1
 ·obtain⟨k0,zs,k1,k2⟩:=h.ow p (ho p hp).1;exact⟨k0,zs,k1,EE.agr (Agr.refl _ w) (fun b _ hb=>hX b hb) (fun _ _=>rfl) k2⟩
end
end DW
end
section
open Go.RowKit
namespace DW
def cS(F:List (Nat×Ow))(vs:Nat->Value):D->D
 | .own j=>match inK F j with|true=>.sc (vs j)|false=>.own j
 |d=>d
def bn(F:List (Nat×Ow))(vs:Nat->Value)(p:Nat×Ow):Nat×Ow:=
 match hdr p.1 with
 |true=>(p.1,⟨p.2.T,p.2.wd,p.2.l.map (cS F vs)⟩)
 |false=>p
theorem aV(F:List (Nat×Ow))(vs:Nat->Value)(p:Nat×Ow):(bn F vs p).1=p.1:=by unfold bn;split<;>rfl
theorem oa(F:List (Nat×Ow))(vs:Nat->Value)(p:Nat×Ow):(bn F vs p).2.T=p.2.T/\(bn F vs p).2.wd=p.2.wd/\(bn F vs p).2.l.length=p.2.l.length:=by
 unfold bn;split<;>simp
theorem zL(F:List (Nat×Ow))(vs:Nat->Value)(d:D):(cS F vs d).wd=d.wd:=by
 cases d<;>try rfl
 simp only[cS];split<;>rfl
theorem EE.abs{X:Nat->Prop}{f:Nat->Value}{w:World}{F:List (Nat×Ow)}{vs:Nat->Value}(hv:∀j,inK F j=true->vs j=f j){p:Nat×Ow}{xs:List Value}(h:EE X f w p.1 p.2.wd p.2.l xs):EE X f w (bn F vs p).1 (bn F vs p).2.wd (bn F vs p).2.l xs:=by
 unfold bn
 cases hh:hdr p.1 with
 |false=>simp only;exact h
 |true=>
  simp only;unfold EE at h⊢;rw[hh]at h⊢;refine⟨h.1,h.2.map (by simp) fun i d d' e e'=>?_⟩;rw[List.getElem?_map,e]at e';simp only[Option.map_some,Option.some.injEq]at e';subst e';obtain⟨_,_,_,_,_,k5⟩:=ElH.at h.2 e;refine⟨by rw[zL];exact k5,fun u hu=>?_⟩
  cases d with
  |own j=>
   simp only[cS]
   cases hi:inK F j with
   |false=>exact hu
   |true=>
    obtain⟨_,h2,A,m,c,e2⟩:=hu;exact⟨by simp only[AR];exact⟨by rw[h2,hv j hi],by rw[hv j hi,<-h2,e2];rfl⟩,rfl⟩
  |_=>exact hu
theorem EE.Hp{X:Nat->Prop}{f f2:Nat->Value}{w:World}{F:List (Nat×Ow)}{vs:Nat->Value}(hF:∀j,inK F j=true->vs j=f2 j/\da j=true/\∃A m c,vs j= .slice A m c)(hf:∀j,inK F j=false->f2 j=f j){p:Nat×Ow}{xs:List Value}(h:EE X f w (bn F vs p).1 (bn F vs p).2.wd (bn F vs p).2.l xs):EE X f2 w p.1 p.2.wd p.2.l xs:=by
 unfold bn at h
 cases hh:hdr p.1 with
 |false=>
  rw[hh]at h;unfold EE at h⊢;rw[hh]at h⊢;exact h
 |true=>
  rw[hh]at h;simp only at h;unfold EE at h⊢;rw[hh]at h⊢;refine⟨h.1,h.2.map (by simp) fun i d d' e e'=>?_⟩;rw[List.getElem?_map,e']at e;simp only[Option.map_some,Option.some.injEq]at e;subst e;obtain⟨_,_,_,_,_,k5⟩:=ElH.at h.2 (i:=i) (by rw[List.getElem?_map,e'];rfl);refine⟨by rw[zL]at k5;exact k5,fun u hu=>?_⟩
  cases d' with
  |own j=>
   simp only[cS]at hu
   cases hi:inK F j with
   |false=>
    rw[hi]at hu;exact⟨hu.1,by rw[hf j hi];exact hu.2.1,hu.2.2⟩
   |true=>
    rw[hi]at hu;obtain⟨h1,h2,h3⟩:=hF j hi;have h4:=hu.1;simp only[AR]at h4;exact⟨h2,by rw[h4.1,h1],by rw[h4.1];exact h3⟩
  |_=>exact hu
def ndK:List (Nat×Ow)->Bool
 |[]=>true
 |p::l=>!inK l p.1&&ndK l
theorem wO:∀{l:List (Nat×Ow)},ndK l=true->∀p∈l,∀q∈l,p.1=q.1->p=q
 |[],_,p,hp,_,_,_=>by cases hp
 |a::l,h,p,hp,q,hq,e=>by
  simp only[ndK,Bool.and_eq_true,Bool.not_eq_true']at h;rcases List.mem_cons.1 hp with h1|h1<;>rcases List.mem_cons.1 hq with h2|h2
  ·rw[h1,h2]
  ·rw[h1]at e;have:=bT.2 ⟨q,h2,e.symm⟩;rw[h.1]at this;cases this
  ·rw[h2]at e;have:=bT.2 ⟨p,h1,e⟩;rw[h.1]at this;cases this
  ·exact wO h.2 p h1 q h2 e
section
variable {P : Program} {X0 : Nat->Prop} {n : Nat} {Q : Exit->S->Prop} {s : S} {sl : List (Nat × D)}
theorem xY{c:Code}{e F:List (Nat×Ow)}(hF:∀p∈F,da p.1=true)(hd:∀p∈e,inK F p.1=false)(hs:∀p∈F,∀t,(look sl t).is p.1=false)
  (h:∀(X1:Nat->Prop) (vs:Nat->Value),(∀j,inK F j=true->∃A m c,vs j= .slice A m c)->
   aW P X1 n c (fun ex s'=>∃e',s'.ow=e'.map (bn F vs)/\ndK e'=true/\(∀p∈e',inK F p.1=false)/\(∀p∈F,∀t,(look s'.sl t).is p.1=false)/\Q ex ⟨s'.sl,e'++F⟩) ⟨sl,e.map (bn F vs)⟩):aW P X0 n c Q ⟨sl,e++F⟩:=fun w0 f a w hh=>by
 have hin:∀p∈F,inK F p.1=true:=fun p hp=>bT.2 ⟨p,hp,rfl⟩;have hme:∀p∈e,p∈e++F:=fun p hp=>List.mem_append_left _ hp;have hmF:∀p∈F,p∈e++F:=fun p hp=>List.mem_append_right _ hp;have hne:∀p∈e,∀q∈F,p.1≠q.1:=fun p hp q hq e'=>by
  have:=hd p hp;rw[e',hin q hq]at this;cases this
 have hdF:∀b,blk f e b->¬blk f F b:=fun b ⟨p,hp,e1⟩ ⟨q,hq,e2⟩=>hh.dj p (hme p hp) q (hmF q hq) (hne p hp q hq) b e1 e2;have hX0:∀b,X0 b->¬blk f (e++F) b:=fun b hb ⟨p,hp,e1⟩=>by
  rcases hh.lo p hp b e1 with h2|h2
  ·exact absurd (hh.x0 b hb).1 (by omega)
  ·exact hh.xy b hb h2
 have hap:∀{p:Nat×Ow} {l:List (Nat×Ow)},p∈l.map (bn F f)↔∃q∈l,bn F f q=p:=fun {p l}=>List.mem_map;have hXe:∀b,XO (fun b=>X0 b\/blk f F b) ⟨sl,e.map (bn F f)⟩ f b->XO X0 ⟨sl,e++F⟩ f b:=fun b hb=>by
  rcases hb with(hb|⟨p,hp,e1⟩)|⟨p,hp,e1⟩
  ·exact .inl hb
  ·exact .inr ⟨p,hmF p hp,e1⟩
  ·obtain⟨q,hq,rfl⟩:=List.mem_map.1 hp;rw[aV]at e1;exact .inr ⟨q,hme q hq,e1⟩
 have hslF:∀j,inK F j=true->∃A m c,f j= .slice A m c:=fun j hj=>by
  obtain⟨p,hp,rfl⟩:=bT.1 hj;exact wi (s:=⟨sl,e++F⟩) hh (hmF p hp)
 have h1:Hd (fun b=>X0 b\/blk f F b) n ⟨w,blk f e,f⟩ ⟨sl,e.map (bn F f)⟩ f a w:=by
  refine⟨hh.sz,hh.df,Gr.refl _ _,fun b hb=>hh.xlt b ?_,fun b hb he=>?_,fun _ _=>rfl,fun p hp b e1=>?_,fun t=>?_,fun p hp=>?_,fun b ⟨p,hp,e1⟩=>?_,fun p hp q hq hpq b e1 e2=>?_,fun p hp q hq e1=>?_⟩
  ·rcases hb with hb|⟨p,hp,e1⟩
   ·exact .inl hb
   ·exact .inr ⟨p,hmF p hp,e1⟩
  ·rcases hb with hb|hb
   ·exact hX0 b hb (he.elim fun p hp=>⟨p,hme p hp.1,hp.2⟩)
   ·exact hdF b he hb
  ·obtain⟨q,hq,rfl⟩:=List.mem_map.1 hp;rw[aV]at e1;exact .inr ⟨q,hq,e1⟩
  ·have h2:SR (XO X0 ⟨sl,e++F⟩ f) f w (look sl t) (a.tmps.getD t undef):=hh.sl t;show SR _ _ _ (look sl t) _;cases hd:look sl t<;>rw[hd]at h2<;>first|exact AR.free h2 (fun b _ hb=>hXe b hb)|exact h2
  ·obtain⟨q,hq,rfl⟩:=List.mem_map.1 hp;obtain⟨k0,zs,k1,k2⟩:=hh.ow q (hme q hq);obtain⟨a1,a2,a3⟩:=oa F f q;refine⟨by rw[a2];exact k0,zs,by rw[a1,a2,a3,aV];exact k1,?_⟩;exact EE.agr (Agr.refl _ w) (fun b _ hb=>hXe b hb) (fun _ _=>rfl) (k2.abs fun _ _=>rfl)
  ·obtain⟨q,hq,rfl⟩:=List.mem_map.1 hp;rw[aV]at e1;exact hh.nw b ⟨q,hme q hq,e1⟩
  ·obtain⟨q1,hq1,rfl⟩:=List.mem_map.1 hp;obtain⟨q2,hq2,rfl⟩:=List.mem_map.1 hq;rw[aV,aV]at hpq;rw[aV]at e1 e2;exact hh.dj q1 (hme q1 hq1) q2 (hme q2 hq2) hpq b e1 e2
  ·obtain⟨q1,hq1,rfl⟩:=List.mem_map.1 hp;obtain⟨q2,hq2,rfl⟩:=List.mem_map.1 hq;rw[aV,aV]at e1;rw[hh.un q1 (hme q1 hq1) q2 (hme q2 hq2) e1]
 refine Code.wp_mono (fun ex a' w' ⟨s',f',h2,e',h3,h9,h4,h5,h6⟩=>?_) (h _ f hslF ⟨w,blk f e,f⟩ f a w h1);obtain⟨sl',ow'⟩:=s';simp only at h3 h5 h6;subst h3;have hg:Gr (blk f e) w w':=h2.bl;have hbk:∀p∈e',∀b,(f' p.1).ownBlock=some b->w.heap.size<=b\/blk f e b:=fun p hp b e1=>h2.lo (bn F f p) (List.mem_map.2 ⟨p,hp,rfl⟩) b (by rw[aV];exact e1);have hlF:∀p∈F,∀b,(f p.1).ownBlock=some b->b<w.heap.size:=fun p hp b e1=>((hh.ow p (hmF p hp)).lt e1).2;have f2e:∀p∈e',(if inK F p.1 then f p.1 else f' p.1)=f' p.1:=fun p hp=>if_neg (by rw[h4 p hp];simp);have f2F:∀p∈F,(if inK F p.1 then f p.1 else f' p.1)=f p.1:=fun p hp=>if_pos (hin p hp);have hagF:Agr (XO X0 ⟨sl,e++F⟩ f) w w':=hg.agr (fun b ⟨p,hp,e1⟩=>hh.nw b ⟨p,hme p hp,e1⟩) (fun b ⟨p,hp,e1⟩=> .inr ⟨p,hme p hp,e1⟩);have hX2:∀b,XO X0 ⟨sl',e'++F⟩ (fun j=>if inK F j then f j else f' j) b->X0 b\/blk f' e' b\/blk f F b:=fun b hb=>by
  rcases hb with hb|⟨p,hp,e1⟩
  ·exact .inl hb
  ·rcases List.mem_append.1 hp with hp|hp
   ·simp only[f2e p hp]at e1;exact .inr (.inl ⟨p,hp,e1⟩)
   ·simp only[f2F p hp]at e1;exact .inr (.inr ⟨p,hp,e1⟩)
 have hXs:∀b,XO X0 ⟨sl',e'++F⟩ (fun j=>if inK F j then f j else f' j) b->XO (fun b=>X0 b\/blk f F b) ⟨sl',e'.map (bn F f)⟩ f' b:=fun b hb=>by
  rcases hX2 b hb with h7|⟨p,hp,e1⟩|h7
  ·exact .inl (.inl h7)
  ·exact .inr ⟨bn F f p,List.mem_map.2 ⟨p,hp,rfl⟩,by rw[aV];exact e1⟩
  ·exact .inl (.inr h7)
 have hXw:∀b,b<w.heap.size->XO X0 ⟨sl',e'++F⟩ (fun j=>if inK F j then f j else f' j) b->XO X0 ⟨sl,e++F⟩ f b:=fun b hb hx=>by
  rcases hX2 b hx with h7|⟨p,hp,e1⟩|⟨p,hp,e1⟩
  ·exact .inl h7
  ·rcases hbk p hp b e1 with h8|⟨q,hq,e2⟩
   ·omega
   ·exact .inr ⟨q,hme q hq,e2⟩
  ·exact .inr ⟨p,hmF p hp,e1⟩
 have hFno:∀p∈F,∀b,(f p.1).ownBlock=some b->¬blk f e b:=fun p hp b e1 he=>hdF b he ⟨p,hp,e1⟩;have hcr:∀p∈e',∀q∈F,∀b,(f' p.1).ownBlock=some b->(f q.1).ownBlock=some b->False:=fun p hp q hq b e1 e2=>by
  rcases hbk p hp b e1 with h8|h8
  ·have:=hlF q hq b e2;omega
  ·exact hFno q hq b e2 h8
 refine⟨⟨sl',e'++F⟩,fun j=>if inK F j then f j else f' j,?_,h6⟩;refine⟨h2.sz,h2.df,hh.bl.trans hg fun b ⟨p,hp,e1⟩=>hh.lo p (hme p hp) b e1,hh.x0,hh.xy,fun j hj=>?_,fun p hp b e1=>?_,fun t=>?_,fun p hp=>?_,fun b ⟨p,hp,e1⟩=>?_,fun p hp q hq hpq b e1 e2=>?_,fun p hp q hq e1=>?_⟩
 ·show(if inK F j then f j else f' j)=_;split
  ·exact hh.fx j hj
  ·exact(h2.fx j hj).trans (hh.fx j hj)
 ·rcases List.mem_append.1 hp with hp|hp
  ·simp only[f2e p hp]at e1;rcases hbk p hp b e1 with h8|⟨q,hq,e2⟩
   ·exact .inl (by have:=hh.bl.size;omega)
   ·exact hh.lo q (hme q hq) b e2
  ·simp only[f2F p hp]at e1;exact hh.lo p (hmF p hp) b e1
 ·have h7:SR (XO (fun b=>X0 b\/blk f F b) ⟨sl',e'.map (bn F f)⟩ f') f' w' (look sl' t) (a'.tmps.getD t undef):=h2.sl t;show SR _ _ _ (look sl' t) _;have h8:∀k,(look sl' t).is k=true->(if inK F k then f k else f' k)=f' k:=fun k hk=>by
   cases hi:inK F k with
   |false=>simp
   |true=>
    obtain⟨p,hp,rfl⟩:=bT.1 hi;rw[h5 p hp t]at hk;cases hk
  cases hd:look sl' t with
  |own k=>rw[hd]at h7 h8;simp only[SR]at h7⊢;rw[h8 k tu];exact h7
  |opt k off=>rw[hd]at h7 h8;simp only[SR]at h7⊢;rw[h8 k tu];exact h7
  |_=>rw[hd]at h7;exact AR.free h7 (fun b _ hb=>hXs b hb)
 ·rcases List.mem_append.1 hp with hp|hp
  ·obtain⟨k0,zs,k1,k2⟩:=h2.ow (bn F f p) (List.mem_map.2 ⟨p,hp,rfl⟩);obtain⟨a1,a2,a3⟩:=oa F f p;rw[a2]at k0;rw[a1,a2,a3,aV]at k1;refine⟨k0,zs,by simp only[f2e p hp];exact k1,?_⟩;refine EE.agr (Agr.refl _ w') (fun b _ hb=>hXs b hb) (fun _ _=>rfl) (EE.Hp (f:=f') (F:=F) (vs:=f) (fun j hj=>⟨by simp only[hj,if_true],?_,hslF j hj⟩) (fun j hj=>by simp[hj]) k2);obtain⟨q,hq,rfl⟩:=bT.1 hj;exact hF q hq
  ·obtain⟨k0,zs,k1,k2⟩:=hh.ow p (hmF p hp);refine⟨k0,zs,?_,?_⟩
   ·simp only[f2F p hp]
    cases hv:(f p.1).ownBlock with
    |none=>exact kB k1 hv
    |some g=>exact kv k1 hv (hg.block g (hlF p hp g hv) (hFno p hp g hv))
   ·have hr:=hF p hp;have hh0:hdr p.1=false:=by
     simp only[da,Bool.or_eq_true,Bool.and_eq_true,Nat.ble_eq,Nat.blt_eq]at hr;unfold hdr
     cases h10:Nat.ble 2000000 p.1 with
     |false=>rfl
     |true=>
      rw[Nat.ble_eq]at h10;have ha:Nat.blt p.1 3000000=false:=by
       cases hb:Nat.blt p.1 3000000 with
       |false=>rfl
       |true=>rw[Nat.blt_eq]at hb;omega
      have hb:Nat.ble 4000000 p.1=false:=by
       cases hb:Nat.ble 4000000 p.1 with
       |false=>rfl
       |true=>rw[Nat.ble_eq]at hb;omega
      rw[ha,hb];rfl
    exact EE.of (Els.agr hagF hXw (k2.pl hh0)) hh0
 ·rcases List.mem_append.1 hp with hp|hp
  ·simp only[f2e p hp]at e1;exact h2.nw b ⟨bn F f p,List.mem_map.2 ⟨p,hp,rfl⟩,by rw[aV];exact e1⟩
  ·simp only[f2F p hp]at e1;intro m hm;have:w'.cell? ⟨b,0,none⟩=w.cell? ⟨b,0,none⟩:=World.cell?_of_block (hg.block b (hlF p hp b e1) (hFno p hp b e1));rw[this]at hm;exact hh.nw b ⟨p,hmF p hp,e1⟩ m hm
 ·rcases List.mem_append.1 hp with hp|hp<;>rcases List.mem_append.1 hq with hq|hq
  ·simp only[f2e p hp,f2e q hq]at e1 e2;exact h2.dj (bn F f p) (List.mem_map.2 ⟨p,hp,rfl⟩) (bn F f q) (List.mem_map.2 ⟨q,hq,rfl⟩) (by rw[aV,aV];exact hpq) b (by rw[aV];exact e1) (by rw[aV];exact e2)
  ·simp only[f2e p hp,f2F q hq]at e1 e2;exact hcr p hp q hq b e1 e2
  ·simp only[f2F p hp,f2e q hq]at e1 e2;exact hcr q hq p hp b e2 e1
  ·simp only[f2F p hp,f2F q hq]at e1 e2;exact hh.dj p (hmF p hp) q (hmF q hq) hpq b e1 e2
 ·have hk : ∀ p ∈ e', ∀ q ∈ F, p.1 = q.1 -> False := fun p hp q hq e2 => by
   have:=h4 p hp;rw[e2,hin q hq]at this;cases this
  rcases List.mem_append.1 hp with hp|hp<;>rcases List.mem_append.1 hq with hq|hq
  ·exact wO h9 p hp q hq e1
  ·exact(hk p hp q hq e1).elim
  ·exact(hk q hq p hp e1.symm).elim
  ·exact hh.un p (hmF p hp) q (hmF q hq) e1
end
end DW
end
section
open Go.RowKit
namespace DW
theorem uy.mv{P:Program}{g:FuncId}{ds:List D}{a:Nat}{q:Ow}(h:uy P g ds [] (.own a) [(a,q)])(ha:hdr a=false){b:Nat}(hb:hdr b=false):uy P g ds [] (.own b) [(b,q)]:=fun X f w vs hX hO hv=>by
 refine(h X f w vs hX hO hv).mono fun e w' ⟨u,f',he,h1,h2,h3,h4,h5⟩=>?_;have hx:XB X (fun _=>f' a) [(b,q)]=XB X f' [(a,q)]:=funext fun x=>propext (by
  unfold XB blk;constructor
  ·rintro(h|⟨p,hp,e⟩)
   ·exact .inl h
   ·exact .inr ⟨_,List.mem_singleton.2 rfl,e⟩
  ·rintro(h|⟨p,hp,e⟩)
   ·exact .inl h
   ·rw[List.mem_singleton.1 hp]at e;exact .inr ⟨_,List.mem_singleton.2 rfl,e⟩)
 have hk:∀x,blk (fun _=>f' a) [(b,q)] x->blk f' [(a,q)] x:=fun x ⟨p,hp,e⟩=>⟨_,List.mem_singleton.2 rfl,e⟩;refine⟨u,fun _=>f' a,he,h1,⟨fun p hp=>?_,fun x hx=>h2.nw x (hk x hx),fun p hp q' hq hne=>?_,fun p hp q' hq _=>?_,fun x hx hb'=>h2.xd x hx (hk x hb')⟩,fun x hx=>h3 x (hk x hx),fun p hp=>(by cases hp),?_⟩
 ·rw[List.mem_singleton.1 hp,hx];obtain⟨k0,xs,k1,k2⟩:=h2.ow _ (List.mem_singleton.2 rfl);exact⟨k0,xs,k1,EE.of (k2.pl ha) hb⟩
 ·rw[List.mem_singleton.1 hp,List.mem_singleton.1 hq]at hne;exact absurd rfl hne
 ·rw[List.mem_singleton.1 hp,List.mem_singleton.1 hq]
 ·simp only[SR]at h5⊢;exact h5
section
variable {P : Program} {X0 : Nat->Prop} {n : Nat} {Q : Exit->S->Prop} {s : S} {sl : List (Nat × D)} {ow : List (Nat × Ow)} {o : Oper} {ops : Array Oper} {l : List Oper} {K : S->Prop} {t : Nat} {d : D}
theorem FZ{k:Nat}(h:Nat.blt k 1000000=true):da k=false:=by
 cases hb:da k with
 |false=>rfl
 |true=>exact absurd rfl (pR h hb)
theorem F0{k:Nat}(h:Nat.blt k 1000000=true):pin k=false:=by
 cases hb:pin k with
 |false=>rfl
 |true=>exact absurd rfl (pS h hb)
theorem BL{k:Nat}{q:Ow}(hk:Nat.blt k 1000000=true)(hs:noS k sl=true)(hf:ow.all (fun p=>!Nat.beq p.1 k)=true):sV sl ow [] [(k,q)] ow (.own k):=
 ⟨fun _ hp=>(by cases hp),fun p hp=>⟨hp,fun _ hq=>(by cases hq)⟩,fun p hp=>(by
  rw[List.mem_singleton.1 hp];exact .inr ⟨F0 hk,nC hs,fun q hq=>⟨ji hf q hq,fun _ h=>(by rw[FZ hk]at h;cases h)⟩⟩),fun p hp hh=>(by
  rw[List.mem_singleton.1 hp,il hk]at hh;cases hh),fun j hj=>⟨_,List.mem_singleton.2 rfl,by simpa[D.is]using hj⟩⟩
theorem Lg{g:FuncId}{x:Operand}{ts:Array TypeId}{d1:D}{k:Nat}{q:Ow}(hg:o.guard=none)(hdst:o.dst=some t)(ht:Nat.blt t n=true)(ho:o.op= .call {callee:=.value (.func g),args:=#[x],argTypes:=ts})(hx:S.op ⟨sl,ow⟩ x=d1)(hf:FnG P g [d1] [] (.own k) [(k,q)])(hk:Nat.blt k 1000000=true)(hs:noS k sl=true)(hfr:ow.all (fun p=>!Nat.beq p.1 k)=true)
  (h:aL P X0 n ops l K ⟨(t,.own k)::sl,(k,q)::ow⟩):aL P X0 n ops (o::l) K ⟨sl,ow⟩:=
 zP (xs:=[x]) (os:=[]) (os':=[(k,q)]) ow hg hdst ht ho (by rw[<-hx];rfl) hf (BL hk hs hfr) h
end
end DW
end
section
open Go.RowKit
namespace DW
theorem ar_ra{X:Nat->Prop}{w:World}{row:List Int}{v:Value}(h:AR X w (dZ row) v)(h0:row≠[]):∃b o c,v= .slice (some ⟨b,o,none⟩) row.length c/\row.length<=c/\RA w b o row:=by
 simp only[dZ,AR]at h;obtain⟨a,c,rfl,h2,h3⟩:=h;rw[List.length_map]at h2;obtain⟨b,o,rfl,_,h4,h5⟩:=h3.resolve_left (by simpa using h0);refine⟨b,o,c,by rw[List.length_map],h2,h4,fun k z hz=>?_⟩;obtain⟨u,k1,_,_,k4⟩:=ARs.at h5 (i:=k) (d:=.nm z) (by rw[List.getElem?_map,hz];rfl);simp only[AR]at k1;obtain⟨x,rfl,hx⟩:=k1;refine⟨x,?_,?_,hx⟩
 ·have:=k4 0 (.bool x.s) rfl;simpa using this
 ·exact k4 1 (.slice x.a x.n x.cap) rfl
theorem kQ{X:Nat->Prop}{w:World}{M:Mx.Mat}{v:Value}{n:Nat}(h:AR X w (dW M) v)(hr:Mx.Rc n M)(hn:0<n):MR w v n M:=by
 simp only[dW,AR]at h;obtain⟨a,c,rfl,h2,h3⟩:=h;rw[List.length_map]at h2;refine⟨a,c,by rw[List.length_map],h2,hr,?_⟩;rcases h3 with h3|⟨b,o,rfl,_,h4,h5⟩
 ·exact .inl (by simpa using h3)
 ·refine .inr ⟨b,o,rfl,h4,fun i hi=>?_⟩;have hg:M[i]?=some (Mx.rw M i):=by unfold Mx.rw;rw[List.getD_eq_getElem?_getD,List.getElem?_eq_getElem hi];rfl
  obtain⟨u,k1,_,_,k4⟩:=ARs.at h5 (i:=i) (d:=dZ (Mx.rw M i)) (by rw[List.getElem?_map,hg];rfl);have hl:=hr.rw hi;obtain⟨b',o',c',rfl,k5,k6⟩:=ar_ra k1 (fun e=>by rw[e]at hl;simp at hl;omega);have:=k4 0 _ rfl;rw[hl]at this k5;exact⟨some ⟨b',o',none⟩,c',by simpa using this,k5,AD.some _ _,.inr ⟨b',o',rfl,k6⟩⟩
theorem ro_ar{X:Nat->Prop}{w:World}{row:List Int}{g c B:Nat}(h:RO w g row)(hc:row.length<=c)(hg:B<=g)(hX:∀b,X b->b<B):AR X w (dZ row) (.slice (some ⟨g,0,none⟩) row.length c):=by
 have hra:=h.ra;simp only[dZ,AR];refine⟨_,c,by rw[List.length_map],by rw[List.length_map];exact hc,.inr ⟨g,0,rfl,fun hx=>by have:=hX g hx;omega,hra.lt,ARs.mk fun k d hd=>?_⟩⟩;rw[List.getElem?_map]at hd;obtain⟨z,hz,rfl⟩:=Option.map_eq_some_iff.1 hd;obtain⟨x,h1,h2,h3⟩:=hra.c k z hz;refine⟨.agg #[.bool x.s,.slice x.a x.n x.cap],by simp only[AR];exact⟨x,rfl,h3⟩,rfl,rfl,fun j u hj=>?_⟩
 match j,hj with
 |0,hj=>
  have:u= .bool x.s:=by simpa[Value.cells]using hj.symm
  rw[this];exact h1
 |1,hj=>
  have:u= .slice x.a x.n x.cap:=by simpa[Value.cells]using hj.symm
  rw[this];exact h2
 |j+2,hj=>simp[Value.cells]at hj
theorem wU{X:Nat->Prop}{w:World}{B gm n cap:Nat}{gs cs:Nat->Nat}{M:Mx.Mat}(h:MB w B gm M.length gs cs n M)(hc:M.length<=cap)(hX:∀b,X b->b<B):AR X w (dW M) (.slice (some ⟨gm,0,none⟩) M.length cap):=by
 simp only[dW,AR];refine⟨_,cap,by rw[List.length_map],by rw[List.length_map];exact hc,.inr ⟨gm,0,rfl,fun hx=>by have:=hX gm hx;have:=h.b;omega,h.lt,ARs.mk fun i d hd=>?_⟩⟩;rw[List.getElem?_map]at hd;obtain⟨row,hrow,rfl⟩:=Option.map_eq_some_iff.1 hd;have hi:=(List.getElem?_eq_some_iff.1 hrow).1;have hl:row.length=n:=h.rc row (List.mem_of_getElem? hrow);obtain⟨b,h1,h2,⟨g0,o0,h3⟩,h4⟩:=h.hc i hi;refine⟨.slice b n (cs i),?_,rfl,rfl,fun j u hj=>?_⟩
 ·by_cases hn:0<n
  ·obtain⟨rfl,h5,_,h7⟩:=h4 hn;rw[Mx.dX hrow]at h7;have:=ro_ar (X:=X) h7 (by rw[hl];exact h2) h5 hX;rwa[hl]at this
  ·have h0:row=[]:=List.eq_nil_of_length_eq_zero (by omega);subst h0;simp only[dZ,List.map_nil,AR];exact⟨b,cs i,by simp at hl;rw[<-hl];rfl,Nat.zero_le _,.inl trivial⟩
 ·match j,hj with
  |0,hj=>
   have:u= .slice b n (cs i):=by simpa[Value.cells]using hj.symm
   rw[this];simpa using h1
  |j+1,hj=>simp[Value.cells]at hj
abbrev xK(dim:Int)(M:Mx.Mat)(d:Int):D:=.st [zI dim,dW M,.nm d]
theorem ast1{X:Nat->Prop}{w:World}{d:D}{u:Value}{l:List D}{cs:List Value}(h:AR X w d u)(hf:d.fits=true)(k:ASt X w l cs):ASt X w (d::l) (u.cells.toList++cs):=by
 simp only[ASt];exact⟨u,cs,rfl,h,hf,k⟩
theorem Jp(dim:Int)(M:Mx.Mat)(n e:Nat)(d:Int)(hm:M.length<=1000)(hn0:0<n)(hn:n<=1000)(he:6<=e)(hf:2*(e*11^n)<=6000000000000)(hR:Mx.Rc n M)(hb:Mx.Bd (2^e) M)(fd:Fit d):Fn Tryz.prog 103 [zI dim,dW M,.nm d] (xK dim (nR n M d) (d/nG n M d)):=by
 refine⟨enters_of Tryz.func103 aa rfl,fun X w vs hX hv=>?_⟩;simp only[ATp]at hv;obtain⟨v1,r1,e1,h1,v2,r2,e2,h2,v3,r3,e3,h3,rfl⟩:=hv;simp only[zI,AR]at h1;obtain⟨rfl,_⟩:=h1;have hm2:=kQ h2 hR hn0;simp only[AR]at h3;obtain⟨K,rfl,hK⟩:=h3;subst e3;subst e2;have:vs= #[.int .i64 dim,v2,.agg #[.bool K.s,.slice K.a K.n K.cap]]:=Array.toList_inj.1 e1;subst this;refine(Di dim M n e v2 K d hm hn he hf hb fd w hm2 hK).mono fun e w' ⟨⟨gm,gs,cs,cap,y,h5,h6,h7,h8⟩,h9⟩=>⟨_,h5,?_,h9⟩;simp only[xK,AR];refine⟨_,rfl,?_⟩;exact ast1 (u:=.int .i64 dim) (BQ dim) rfl (ast1 (u:=.slice (some ⟨gm,0,none⟩) (nR n M d).length cap) (wU h7 h6 (fun b hb=>(hX b hb).1)) rfl (ast1 (u:=.agg #[.bool y.s,.slice y.a y.n y.cap]) (by simp only[AR];exact⟨y,rfl,h8⟩) rfl (by simp only[ASt])))
def smM(L:Nat)(M:Mx.Mat):D:=if M.all (fun l=>l.all (inb (L:Int)))=true then .tp [dM M,.sc (.bool true)]else .tp [dM [],.sc (.bool false)]
theorem zp{L:Nat}{M:Mx.Mat}:InL L M↔M.all (fun l=>l.all (inb (L:Int)))=true:=by
 constructor
 ·intro h;refine List.all_eq_true.2 fun l hl=>List.all_eq_true.2 fun z hz=>jg.2 ?_;have:=sO (B:=L) h hl hz;omega
 ·intro h i j;rcases at_mem M i j with h1|⟨r,hr,hz⟩
  ·rw[h1];exact Nat.zero_le _
  ·have:=jg.1 (List.all_eq_true.1 (List.all_eq_true.1 h r hr) _ hz);omega
theorem FM(M:Mx.Mat)(n L:Nat)(hm:M.length<=1000000)(hn0:0<n)(hn:n<=1000000)(hL:L<=1000000000000000000)(hR:Mx.Rc n M)(hf:∀i j,Fit (Mx.at' M i j)):Fn Tryz.prog 74 [dW M,zI L] (smM L M):=by
 refine⟨enters_of Tryz.func74 aa rfl,fun X w vs hX hv=>?_⟩;simp only[ATp]at hv;obtain⟨v1,r1,e1,h1,v2,r2,e2,h2,rfl⟩:=hv;simp only[zI,AR]at h2;obtain⟨rfl,_⟩:=h2;subst e2;have:vs= #[v1,.int .i64 ((L:Int))]:=Array.toList_inj.1 e1;subst this;refine(Bi M n L v1 hm hn hL hf w (kQ h1 hR hn0)).mono fun e w' h=>?_;obtain⟨h3,h4⟩:=h;unfold smM;by_cases hi:InL L M
 ·rw[if_pos hi]at h3;rw[if_pos (zp.1 hi)];obtain⟨v,rfl,hz⟩:=h3;exact⟨_,rfl,xS (Iu hz (fun b hb=>(hX b hb).1)) zb79,h4⟩
 ·rw[if_neg hi]at h3;rw[if_neg (fun h=>hi (zp.2 h))];exact⟨_,h3,xS zH zb79,h4⟩
theorem F5(z:Int)(fz:Fit z):Fn Tryz.prog 120 [.nm z] (.tp [zI (smv z),.sc (.bool (decide (I64 z)))]):=by
 refine⟨enters_of Tryz.func120 aa rfl,fun X w vs hX hv=>?_⟩;simp only[ATp,AR]at hv;obtain⟨v,r,e,⟨x,rfl,hx⟩,rfl⟩:=hv;have:vs= #[.agg #[.bool x.s,.slice x.a x.n x.cap]]:=Array.toList_inj.1 e;subst this;exact(oC x z fz w hx.ip).mono fun e w' ⟨h1,h2⟩=>⟨_,h1,xS (BQ _) zb79,h2⟩
end DW
end
section
open Go.RowKit
namespace DW
abbrev dL(dim:Int)(m:Mx.Mat)(den:Int):D:=.st [zI dim,dM m,zI den]
set_option maxRecDepth 20000
set_option maxHeartbeats 2000000
theorem Ho(m:List (List Int))(n:Nat)(hm:m.length<=1000000)(hn:n<=1000000)(hr:Mx.Rc n m)(hb:∀l∈m,∀z∈l,I64 z):Fn Tryz.prog 72 [dM m] (dW m):=by
 refine⟨enters_of Tryz.func72 aa rfl,fun X w vs hX hv=>?_⟩;simp only[ATp]at hv;obtain⟨v,rest,e,h1,rfl⟩:=hv;have:vs= #[v]:=Array.toList_inj.1 e;subst this;exact(Iy m n v hm hn hr hb w (xQ h1)).mono fun e w' ⟨⟨gm,gs,cs,cap,h5,h6,h7⟩,h9⟩=>⟨_,h5,wU h7 h6 (fun b hb=>(hX b hb).1),h9⟩
theorem iof_d(z:Int)(hz:I64 z):Fn Tryz.prog 124 [zI z] (.nm z):=by
 refine⟨enters_of Tryz.func124 aa rfl,fun X w vs hX hv=>?_⟩;simp only[ATp,zI,AR]at hv;obtain⟨v,rest,e,⟨rfl,_⟩,rfl⟩:=hv;have:vs= #[.int .i64 z]:=Array.toList_inj.1 e;subst this;exact(oV z hz w).mono fun e w' ⟨⟨y,h1,h2⟩,h3⟩=>⟨_,h1,by simp only[AR];exact⟨y,rfl,h2⟩,h3⟩
theorem Kx(dim den:Int)(m:Mx.Mat)(n:Nat)(hd:I64 den)(hm:m.length<=1000)(hn0:0<n)(hn:n<=10)(hr:Mx.Rc n m)(hb:Mx.Bd (2^50) m)(hi:∀l∈m,∀z∈l,I64 z):Fn Tryz.prog 87 [dL dim m den] (xK dim (nR n m den) (den/nG n m den)):=by
 have OF:=Ho m n (by omega) (by omega) hr hi;have OD:=iof_d den hd;have NT:=Jp dim m n 50 den hm hn0 (by omega) (by omega) (e50 hn) hr hb (bh (e:=64) (by unfold I64 at hd;omega) (by omega));refine aP Tryz.func87 aa rfl rfl rfl fun X0=>?_;simp only[aD]
 (repeat(first|refine gk fun K hK=>?_|refine zs2 ?_));(refine gar ?_;refine gA ?_;(refine dK (k:=2) (z:=(.agg #[.int .i64 0,.slice none 0 0,.bool false,.slice none 0 0])) (d:=(.st [.sc (.int .i64 0),.sc (.slice none 0 0),.sc (.bool false),.sc (.slice none 0 0)])) rfl rfl rfl rfl rfl aa ae ae cE ae ae bD ?_);refine af ?_);(repeat(first|refine gk fun K hK=>?_|refine zs2 ?_));(refine rz ?_;refine Hi ?_;refine ct ?_;refine Hh ?_;refine ct ?_;refine vt ?_;refine Hg ?_;refine ct ?_;refine vt ?_;refine He ?_;refine mS ?_;refine mR ?_);(repeat(first|refine gk fun K hK=>?_|refine zs2 ?_))
 exact⟨_,aF (k:=2) aZ bB bA,.one (.cell 2 121) _ rfl (.cell 2 _ _ rfl rfl aa aa)⟩
end DW
end
section
open Go.ChangeShapes Go.WideShapes Go.ChangeAt Go.RowKit Go.Joins Go.Deep
theorem DW.ar_dL{X:Nat->Prop}{w:World}{dim den:Int}{m:Mx.Mat}{u:Value}(h:DW.AR X w (DW.dM m) u):DW.AR X w (DW.dL dim m den) (.agg #[.int .i64 dim,u,.int .i64 den]):=by
 simp only[DW.dM,DW.AR]at h;simp only[DW.dL,DW.AR,DW.ASt];have h2:=h;obtain⟨a,c,rfl,_⟩:=h2;exact⟨_,rfl,.int .i64 dim,_,rfl,⟨rfl,rfl⟩,rfl,_,_,rfl,h,rfl,.int .i64 den,[],rfl,⟨rfl,rfl⟩,rfl,rfl⟩
set_option maxRecDepth 100000 in
theorem FB{H:Type}{enc:TypeId×Value->H}{w:World}{base b0:Nat}{spare:Nat->Bool}{held:Bool}{r:Reach}{v:Value}{d:DataW H}{p:List MemPlace}
  (hv:Value.okWide Tryz.prog w r b0 48 v) (h:DataW.Trod enc Tryz.prog w base spare held 48 v d p):∃(dim den:Int) (m:List (List Int)),I64 dim/\I64 den/\DW.AR (fun _=>False) w (DW.dL dim m den) v:=by
 obtain⟨v0,v1,v2,y0,y1,y2,n,rfl,_,_,g0,g1,g2⟩:=open_agg3 Tryz.underlying48 aa aa hv h;obtain⟨a0,e0,_,w0⟩:=DataW.trod_int Tryz.underlying3 g0;obtain⟨a2,e2,_,w2⟩:=DataW.trod_int Tryz.underlying3 g2;simp at e0 e2;subst e0 e2;obtain⟨m,hm⟩:=Dm g1;exact⟨a0,a2,m,bounds_i64 w0,bounds_i64 w2,DW.ar_dL hm⟩
end
section
open Go.RowKit
namespace DW
section
variable {P : Program} {X0 : Nat->Prop} {n : Nat} {Q : Exit->S->Prop} {s : S} {sl : List (Nat × D)} {ow : List (Nat × Ow)} {o : Oper} {ops : Array Oper} {l : List Oper} {K : S->Prop} {t : Nat} {d : D}
theorem wh{X:Nat->Prop}{f:Nat->Value}{w:World}:SR X f w (.tp []) undef:=by
 simp only[SR,AR,ATp];exact⟨#[],rfl,rfl⟩
theorem EO{X:Nat->Prop}{f:Nat->Value}{w:World}{v:Value}(h:SR X f w (.tp []) v):v=undef:=by
 simp only[SR,AR,ATp]at h;obtain⟨vs,rfl,h⟩:=h;have:vs= #[]:=Array.toList_inj.1 h;rw[this];rfl
theorem AY{a:Act}{j u:Nat}{c:Bool}(hg:o.guard=some (j,c))(hj:(ops[j]?).bind (·.dst)=some u)(h:a.tmps.getD u undef=undef):Region.wanted o (yielded ops a.tmps)=false:=by
 unfold Region.wanted;rw[hg];simp only;unfold yielded;rw[hj];simp only[Option.bind_some];rw[Array.getD_eq_getD_getElem?]at h
 cases h6:a.tmps[u]? with
 |none=>rfl
 |some v=>
  rw[h6]at h;simp only[Option.getD_some]at h;subst h;rfl
theorem aLs0{j u:Nat}{c:Bool}(hg:o.guard=some (j,c))(hdst:o.dst=some t)(ht:Nat.blt t n=true)(hj:(ops[j]?).bind (·.dst)=some u)(hc:look sl u= .sc (.bool (!c)))(h:aL P X0 n ops l K ⟨(t,.tp [])::sl,ow⟩):aL P X0 n ops (o::l) K ⟨sl,ow⟩:=fun w0 f a w Q hd hq=>by
 have ht':bC n o=true:=by unfold bC;rw[hdst];simpa[Nat.blt_eq]using ht
 have h':aL P X0 n ops l K ((⟨sl,ow⟩:S).put o.dst (.tp [])):=by rw[hdst];exact h
 have hi:HI (XO X0 ⟨sl,ow⟩ f) n w f Own3.Fs.none [] ⟨sl,ow⟩ a:=⟨hd.sz,hd.df,fun t _=>hd.sl t,fun t u e=>by simp[db]at e⟩;have hw:=hi.want (ops:=ops) (o:=o) (b:=false) (by simp only[cq,hg];exact⟨u,!c,hj,rfl,hc,by cases c<;>rfl⟩);refine wpList_step fun K' hK=>?_;rw[if_neg (by rw[hw];simp)];exact hK _ _ (h' w0 f _ w Q (hd.put wh (dT ht')) hq)
theorem BV{j u:Nat}{c:Bool}(hg:o.guard=some (j,c))(hdst:o.dst=some t)(ht:Nat.blt t n=true)(hj:(ops[j]?).bind (·.dst)=some u)(hc:look sl u= .tp [])(h:aL P X0 n ops l K ⟨(t,.tp [])::sl,ow⟩):aL P X0 n ops (o::l) K ⟨sl,ow⟩:=fun w0 f a w Q hd hq=>by
 have ht':bC n o=true:=by unfold bC;rw[hdst];simpa[Nat.blt_eq]using ht
 have h':aL P X0 n ops l K ((⟨sl,ow⟩:S).put o.dst (.tp [])):=by rw[hdst];exact h
 have h1:=hd.sl u;rw[show(⟨sl,ow⟩:S).gt u= .tp []from hc]at h1;have hw:=AY (ops:=ops) hg hj (EO h1);refine wpList_step fun K' hK=>?_;rw[if_neg (by rw[hw];simp)];exact hK _ _ (h' w0 f _ w Q (hd.put wh (dT ht')) hq)
end
end DW
end
section
open Go.RowKit
namespace DW
theorem Bk{dim:Int}{m:List (List Int)}:cD dim (m.drop m.length)=0:=by rw[List.drop_length];rfl
theorem yq{dim:Int}{m:List (List Int)}{k:Nat}{l:List Int}(hl:m[k]?=some l)(h:(l.length:Int)≠dim):cD dim (m.drop k)=9:=by rw[jR hl,if_neg h]
theorem Dr{dim:Int}{m:List (List Int)}{k:Nat}{l:List Int}{z:Int}(hl:m[k]?=some l)(h:(l.length:Int)=dim)(hz:z∈l)(hb:inb 1000000000000000 z=false):cD dim (m.drop k)=2:=by
 rw[jR hl,if_pos h,if_pos];rw[List.any_eq_true];exact⟨z,hz,by unfold big;rw[hb];rfl⟩
theorem Bl{dim:Int}{m:List (List Int)}{k:Nat}{l:List Int}(hl:m[k]?=some l)(h:(l.length:Int)=dim)(hb:∀z∈l,inb 1000000000000000 z=true):cD dim (m.drop k)=cD dim (m.drop (k+1)):=by
 rw[jR hl,if_pos h,if_neg];intro h4;rw[List.any_eq_true]at h4;obtain⟨z,hz,h6⟩:=h4;unfold big at h6;rw[hb z hz]at h6;cases h6
set_option maxRecDepth 20000
set_option maxHeartbeats 2000000
theorem Fv(dim den:Int)(m:List (List Int))(hm:m.length<=1000000000):Fn Tryz.prog 32 [dL dim m den] (zI (lck dim m den)):=by
 have W1:=mV dim 1 6;have W2:=mV den 1 1000000000000000;by_cases c1:1<=dim/\dim<=6
 ·rw[show(decide (1<=dim)&&decide (dim<=6))=true by rw[decide_eq_true c1.1,decide_eq_true c1.2];rfl]at W1;by_cases c2:1<=den/\den<=1000000000000000
  ·rw[show(decide (1<=den)&&decide (den<=1000000000000000))=true by rw[decide_eq_true c2.1,decide_eq_true c2.2];rfl]at W2;have E:lck dim m den=if 64<m.length then 8 else cD dim m:=if_neg (by omega)
   by_cases c3:64<m.length
   ·have EC:lck dim m den=8:=by rw[E,if_pos c3]
    have hd:decide ((m.length:Int)>64)=true:=decide_eq_true (by omega);refine aP Tryz.func32 aa rfl rfl rfl fun X0=>?_;simp only[aD]
    (repeat(first|refine gk fun K hK=>?_|refine zs2 ?_));refine jq ?_;(repeat(first|refine gk fun K hK=>?_|refine zs2 ?_));refine vk ?_;(repeat(first|refine gk fun K hK=>?_|refine zs2 ?_))
    refine az ?_
    (repeat(first|refine gk fun K hK=>?_|refine zs2 ?_));(refine gar ?_;refine qs ?_;refine aS ?_;refine zs5 ?_;refine zs7 ?_;refine af ?_);(repeat(first|refine gk fun K hK=>?_|refine zs2 ?_))
    refine av ?_
    (repeat(first|refine gk fun K hK=>?_|refine zs2 ?_));refine aH ?_;(repeat(first|refine gk fun K hK=>?_|refine zs2 ?_))
    rw[EC];exact⟨_,Sh.refl,.one (.tmp 2) _ rfl (.tmp 2 rfl)⟩
   ·have EC:lck dim m den=cD dim m:=by rw[E,if_neg c3]
    have hd:decide ((m.length:Int)>64)=false:=decide_eq_false (by omega);obtain⟨n,rfl⟩:∃n:Nat,dim=n:=⟨dim.toNat,by omega⟩;clear E;rw[EC];refine aP Tryz.func32 aa rfl rfl rfl fun X0=>?_;simp only[aD]
    (repeat(first|refine gk fun K hK=>?_|refine zs2 ?_));refine jq ?_;(repeat(first|refine gk fun K hK=>?_|refine zs2 ?_));refine vk ?_;(repeat(first|refine gk fun K hK=>?_|refine zs2 ?_))
    refine az ?_
    (repeat(first|refine gk fun K hK=>?_|refine zs2 ?_));(refine gar ?_;refine qs ?_;refine aS ?_;refine zs5 ?_;refine zs7 ?_;refine af ?_);(repeat(first|refine gk fun K hK=>?_|refine zs2 ?_))
    refine az ?_
    (repeat(first|refine gk fun K hK=>?_|refine zs2 ?_));refine aH ?_;(repeat(first|refine gk fun K hK=>?_|refine zs2 ?_))
    (refine ak (ai (sl':=[(1,.pt (dL n m den)),(3,zI 0)]) (ow':=[]) an aw) ?_)
    refine aE (fun r s=>∃k,k<=m.length/\r=m.length-k/\cD n m=cD n (m.drop k)/\s=⟨[(1,.pt (dL n m den)),(3,zI (k:Nat))],[]⟩) (m:=m.length) ⟨0,Nat.zero_le _,rfl,rfl,rfl⟩ fun r s hs=>?_;obtain⟨k,hk,rfl,hsc,rfl⟩:=hs;by_cases hkl:k<m.length
    ·obtain⟨l,hl⟩:=get_some hkl;by_cases hln:l.length=n
     ·(repeat(first|refine gk fun K hK=>?_|refine zs2 ?_));refine iu ?_;(repeat(first|refine gk fun K hK=>?_|refine zs2 ?_))
      refine av ?_
      (repeat(first|refine gk fun K hK=>?_|refine zs2 ?_));refine GI ?_;(repeat(first|refine gk fun K hK=>?_|refine zs2 ?_))
      refine az ?_
      (repeat(first|refine gk fun K hK=>?_|refine zs2 ?_));refine aH ?_;(repeat(first|refine gk fun K hK=>?_|refine zs2 ?_))
      (refine ak (ai (sl':=[(1,.pt (dL n m den)),(3,zI (k:Nat)),(4,zI 0)]) (ow':=[]) an aw) ?_)
      refine aE (fun r s=>∃j,j<=n/\r=n-j/\(∀z∈l.take j,inb 1000000000000000 z=true)/\s=⟨[(1,.pt (dL n m den)),(3,zI (k:Nat)),(4,zI (j:Nat))],[]⟩) (m:=n) ⟨0,Nat.zero_le _,rfl,fun z h=>absurd h (by simp),rfl⟩ fun r s hs=>?_;obtain⟨j,hj,rfl,hin,rfl⟩:=hs;by_cases hjl:j<n
      ·obtain⟨z,hz⟩:=get_some (m:=l) (k:=j) (by omega);have FT:=xp z;by_cases hb:inb 1000000000000000 z=true
       ·rw[hb]at FT
        (repeat(first|refine gk fun K hK=>?_|refine zs2 ?_));refine Ad ?_;(repeat(first|refine gk fun K hK=>?_|refine zs2 ?_))
        refine av ?_
        (repeat(first|refine gk fun K hK=>?_|refine zs2 ?_));refine GH ?_;(repeat(first|refine gk fun K hK=>?_|refine zs2 ?_))
        refine az ?_
        (repeat(first|refine gk fun K hK=>?_|refine zs2 ?_));refine aX ?_;(repeat(first|refine gk fun K hK=>?_|refine zs2 ?_))
        simp only[nx,inB];exact⟨n-(j+1),_,by omega,(ai (sl':=[(1,.pt (dL n m den)),(3,zI (k:Nat)),(4,zI ((j+1:Nat):Int))]) (ow':=[]) an aw),j+1,by omega,rfl,fun x hx=>by
         rw[ba hz,List.mem_append]at hx;rcases hx with hx|hx
         ·exact hin x hx
         ·rw[List.mem_singleton.1 hx];exact hb,rfl⟩
       ·have hb':inb 1000000000000000 z=false:=by simpa using hb
        have EZ:=Dr (dim:=n) hl (by omega) (List.mem_of_getElem? hz) hb';rw[hb']at FT
        (repeat(first|refine gk fun K hK=>?_|refine zs2 ?_));refine Ad ?_;(repeat(first|refine gk fun K hK=>?_|refine zs2 ?_))
        refine av ?_
        (repeat(first|refine gk fun K hK=>?_|refine zs2 ?_));refine GH ?_;(repeat(first|refine gk fun K hK=>?_|refine zs2 ?_))
        refine av ?_
        (repeat(first|refine gk fun K hK=>?_|refine zs2 ?_));refine aH ?_;(repeat(first|refine gk fun K hK=>?_|refine zs2 ?_))
        rw[hsc,EZ];exact⟨_,Sh.refl,.one (.tmp 2) _ rfl (.tmp 2 rfl)⟩
      ·obtain rfl:j=n:=by omega
       have hnx:=Bl (dim:=j) hl (by omega) (fun z hz=>hin z (by rw[List.take_of_length_le (by omega)];exact hz))
       (repeat(first|refine gk fun K hK=>?_|refine zs2 ?_));refine Ad ?_;(repeat(first|refine gk fun K hK=>?_|refine zs2 ?_))
       refine az ?_
       (repeat(first|refine gk fun K hK=>?_|refine zs2 ?_));refine aX ?_;(repeat(first|refine gk fun K hK=>?_|refine zs2 ?_))
       simp only[nx,inB];exact⟨m.length-(k+1),_,by omega,(ai (sl':=[(1,.pt (dL j m den)),(3,zI ((k+1:Nat):Int))]) (ow':=[]) an aw),k+1,by omega,rfl,hsc.trans hnx,rfl⟩
     ·have EZ:=yq (dim:=n) hl (by omega)
      (repeat(first|refine gk fun K hK=>?_|refine zs2 ?_));refine iu ?_;(repeat(first|refine gk fun K hK=>?_|refine zs2 ?_))
      refine av ?_
      (repeat(first|refine gk fun K hK=>?_|refine zs2 ?_));refine GI ?_;(repeat(first|refine gk fun K hK=>?_|refine zs2 ?_))
      refine av ?_
      (repeat(first|refine gk fun K hK=>?_|refine zs2 ?_));refine aH ?_;(repeat(first|refine gk fun K hK=>?_|refine zs2 ?_))
      rw[hsc,EZ];exact⟨_,Sh.refl,.one (.tmp 2) _ rfl (.tmp 2 rfl)⟩
    ·obtain rfl:k=m.length:=by omega
     rw[Bk]at hsc
     (repeat(first|refine gk fun K hK=>?_|refine zs2 ?_));refine iu ?_;(repeat(first|refine gk fun K hK=>?_|refine zs2 ?_))
     refine az ?_
     (repeat(first|refine gk fun K hK=>?_|refine zs2 ?_));refine aH ?_;(repeat(first|refine gk fun K hK=>?_|refine zs2 ?_))
     rw[hsc];exact⟨_,Sh.refl,.one (.tmp 2) _ rfl (.tmp 2 rfl)⟩
  ·rw[show(decide (1<=den)&&decide (den<=1000000000000000))=false by rw[Bool.and_eq_false_iff,decide_eq_false_iff_not,decide_eq_false_iff_not];omega]at W2;have EC:lck dim m den=2:=if_pos (by omega);refine aP Tryz.func32 aa rfl rfl rfl fun X0=>?_;simp only[aD]
   (repeat(first|refine gk fun K hK=>?_|refine zs2 ?_));refine jq ?_;(repeat(first|refine gk fun K hK=>?_|refine zs2 ?_));refine vk ?_;(repeat(first|refine gk fun K hK=>?_|refine zs2 ?_))
   refine av ?_
   (repeat(first|refine gk fun K hK=>?_|refine zs2 ?_));refine aH ?_;(repeat(first|refine gk fun K hK=>?_|refine zs2 ?_))
   rw[EC];exact⟨_,Sh.refl,.one (.tmp 2) _ rfl (.tmp 2 rfl)⟩
 ·rw[show(decide (1<=dim)&&decide (dim<=6))=false by rw[Bool.and_eq_false_iff,decide_eq_false_iff_not,decide_eq_false_iff_not];omega]at W1;have EC:lck dim m den=2:=if_pos (by omega);refine aP Tryz.func32 aa rfl rfl rfl fun X0=>?_;simp only[aD]
  (repeat(first|refine gk fun K hK=>?_|refine zs2 ?_));refine jq ?_;(repeat(first|refine gk fun K hK=>?_|refine zs2 ?_));refine vk ?_;(repeat(first|refine gk fun K hK=>?_|refine zs2 ?_))
  refine av ?_
  (repeat(first|refine gk fun K hK=>?_|refine zs2 ?_));refine aH ?_;(repeat(first|refine gk fun K hK=>?_|refine zs2 ?_))
  rw[EC];exact⟨_,Sh.refl,.one (.tmp 2) _ rfl (.tmp 2 rfl)⟩
end DW
end
end Go.Proofs.YtcgjmdpcplhanaaGreat
