/- Lemmas for the law: E90 -/
import Derived.Laws.Cover3
import Derived.Test.YtcgjmdpcplhanaaGreatZv12
namespace Go.Proofs.YtcgjmdpcplhanaaGreat
section
theorem ID{p q:Prop}(h:q)(f:Wq q->p:=by(intro hW;((first|refine aN1 rfl rfl rfl zb4 ?_|refine aNindex rfl rfl rfl rfl dm dm cr ak ak (by first|omega|(simp;omega)) zb61 ?_|refine aN1o rfl rfl rfl zb4 ?_));exact hW.out)):p:=f ⟨h⟩
theorem rL{p q:Prop}(h:q)(f:Wq q->p:=by(intro hW;((first|refine aN1 rfl rfl rfl zb1 ?_|refine aN1o rfl rfl rfl zb1 ?_));exact hW.out)):p:=f ⟨h⟩
end
section
open Go.RowKit
namespace DW
attribute [local go_sem] Oper.semAt_some
section
variable {P : Program} {s : S} {o : Oper}
theorem wk{X:Nat->Prop}{w:World}{wd:Nat}{lo:List D}{v:Value}(h:AR X w (.ls wd lo) v)(hne:lo≠[]):∃a n c,v= .slice a n c/\a.isNone=false:=by
 simp only[AR]at h;obtain⟨a,c,e,_,h3⟩:=h;rcases h3 with h|⟨b,o,rfl,_⟩
 ·exact absurd h hne
 ·exact⟨_,_,_,e,rfl⟩
theorem run_eql_slice_nil(w:World)(t e:TypeId)(a:Option Addr)(l c:Nat)(h:P.underlying t=some (.slice e)):(binOp .eql t (.slice a l c) (.slice none 0 0)).run P w= .ok (.bool a.isNone) w:=by
 simp only[binOp];simp[run_equal_slice_nil w t e a l c h]
theorem Ms{x y:Operand}{tt tt':TypeId}{wd:Nat}{lo:List D}(ho:o.op= .binOp .eql tt x y tt')(hx:s.op x= .ls wd lo)(hy:s.op y= .sc (.slice none 0 0))(hne:lo≠[])(hu:P.underlying tt=some (.slice (P.elem tt))):bp P o s (.sc (.bool false)):=gP rfl fun X f w a hs=>by
 have h1:=hs x bA;have h2:=hs y bA;rw[hx]at h1;rw[hy]at h2;obtain⟨q,n,c,e1,hn⟩:=wk h1 hne;have e2:a.eval y= .slice none 0 0:=h2.1;unfold execOp;rw[ho];have:=run_eql_slice_nil (P:=P) w tt _ q n c hu;simp only[eqGuard];simp[e1,e2,this,hn]
theorem Mr{x y:Operand}{tt tt':TypeId}{wd:Nat}{lo:List D}(ho:o.op= .binOp .neq tt x y tt')(hx:s.op x= .ls wd lo)(hy:s.op y= .sc (.slice none 0 0))(hne:lo≠[])(hu:P.underlying tt=some (.slice (P.elem tt))):bp P o s (.sc (.bool true)):=gP rfl fun X f w a hs=>by
 have h1:=hs x bA;have h2:=hs y bA;rw[hx]at h1;rw[hy]at h2;obtain⟨q,n,c,e1,hn⟩:=wk h1 hne;have e2:a.eval y= .slice none 0 0:=h2.1;unfold execOp;rw[ho];have:=run_neq_slice_nil (P:=P) w tt _ q n c hu;simp only[eqGuard];simp[e1,e2,this,hn]
theorem Mq{x y:Operand}{tt tt':TypeId}(ho:o.op= .binOp .neq tt x y tt')(hx:s.op x= .sc (.slice none 0 0))(hy:s.op y= .sc (.slice none 0 0))(hu:P.underlying tt=some (.slice (P.elem tt))):bp P o s (.sc (.bool false)):=
 jx ho hx hy rfl fun w=>by
  have:=run_neq_slice_nil (P:=P) w tt _ none 0 0 hu;simp only[eqGuard];simp[this]
end
set_option maxRecDepth 20000
set_option maxHeartbeats 1000000
theorem Hn(l:List Int)(h0:l≠[])(hl:l.length<=1000000):Fn Tryz.prog 197 [dI l] (dI l):=by
 have hne:l.map zI≠[]:=by simpa using h0
 refine bq Tryz.func197 ak rfl rfl rfl fun X0=>?_;simp only[aQ];refine jL ?_;refine ct ?_;(refine aL1 rfl rfl rfl (by(first|(apply Ms;(exact rfl);(focus((apply aw;(conv=>lhs;whnf);(first|done|exact rfl))));(exact jC);(focus(first|assumption|(intro h;simp at h;done)|(simp;done)));(kernel_rfl))|(apply d_slqn;(exact rfl);(focus((apply aw;(conv=>lhs;whnf);(first|done|exact rfl))));(exact jC);(kernel_rfl)))) ?_);refine ba ?_;refine bG ?_;refine gar ?_;(refine oL (k:=5) (wd:=1) (T:=Tryz.prog.elem 40) rfl rfl rfl rfl ak ak an an dL ?_);refine zs3 ?_;refine vh ?_;refine cJ ?_;exact⟨_,bB (k:=5) cr dG dF,.one (.tmp 2) _ rfl (.tmp 2 rfl)⟩
structure IRd(X:Nat->Prop)(w:World)(l:List Int)(u:Value)(b o c:Nat):Prop where
 e:u= .slice (some ⟨b,o,none⟩) l.length c
 le:l.length<=c
 x:¬X b
 c:∀i z,l[i]?=some z->w.cell? ⟨b,o+i,none⟩=some (.int .i64 z)
theorem IRd.of{X:Nat->Prop}{w:World}{l:List Int}{u:Value}(h:AR X w (dI l) u)(h0:l≠[]):∃b o c,IRd X w l u b o c:=by
 obtain⟨a,c,e,hle,hz⟩:=vY h;simp only[AR]at h;obtain⟨a',c',e',_,h3⟩:=h;rcases h3 with h3|⟨b,o,rfl,hx,_,_⟩
 ·exact absurd h3 (by simpa using h0)
 ·have e3:=e.symm.trans e';simp only[Value.slice.injEq,aY]at e3;obtain⟨rfl,_,rfl⟩:=e3;refine⟨b,o,c,e,hle,hx,fun i z hi=>?_⟩;rcases hz with hz|⟨a0,e2,_,hc⟩
  ·exact absurd hz h0
  ·cases e2;have:=hc i z hi;have ea:(⟨b,o,none⟩:Addr).add i=⟨b,o+i,none⟩:=by unfold Addr.add;split<;>simp_all
   rwa[ea]at this
theorem IRd.ar{X:Nat->Prop}{w:World}{l:List Int}{u:Value}{b o c:Nat}(h:IRd X w l u b o c)(h0:l≠[]):AR X w (dI l) u:=by
 rw[h.e];simp only[AR];obtain⟨z0,hz0⟩:=get_some (m:=l) (k:=0) (fT.2 h0);refine⟨_,_,by rw[aY],by rw[aY];exact h.le,.inr ⟨b,o,rfl,h.x,World.block_lt_of_cell? w _ (h.c 0 z0 hz0),ARs.mk fun i d hd=>?_⟩⟩;rw[db]at hd;obtain⟨z,hz,rfl⟩:=eP.1 hd;refine⟨.int .i64 z,vZ z,rfl,rfl,fun j u hj=>?_⟩
 match j,hj with
 |0,hj=>
  have:u= .int .i64 z:=by simpa[Value.cells]using hj.symm
  rw[this,gV,bP];exact h.c i z hz
 |j+1,hj=>simp[Value.cells]at hj
def shF(g:Mx.Mat)(n i:Nat)(l:List Int):Bool:=decide (qv g (sv n i l)<Mx.at' g i i)
def shD(g:Mx.Mat)(n i:Nat):D:=match(bx i).find? (shF g n i)with
 |none=>.sc (.slice none 0 0)
 |some l=>dI (sv n i l)
theorem Gs(n i:Int)(m:Nat)(w:World):CallsIn Fence.wide m Tryz.prog 196 #[.int .i64 n,.int .i64 i] w fun e w'=>e= .returned (.func (.func 212) #[] #[.pointer (some ⟨w.heap.size,0,none⟩),.pointer (some ⟨w.heap.size+1,0,none⟩)])/\w'=(w.alloc (.cells #[.int .i64 n] 3)).alloc (.cells #[.int .i64 i] 3):=by
 refine callsIn_of_wp Tryz.func196 rfl trivial ?_ rfl;simp only[Tryz.ntmps196,fY,dh,en,Nat.reduceAdd,Nat.reduceSub,qx,qw,qu,qt,cT,jk]
 gi_wp2
 refine bodyPost_ret (results_tmp rfl _ _ _) rfl ?_;exact⟨rfl,rfl⟩
theorem Ml(n i:Nat):exs n i i []=(bx i).map (sv n i):=nY fun q _=>by rw[cT]
theorem Co(n i bn bi:Nat)(hin:i<n)(hn:n<=4):Bi Tryz.prog 212 #[.pointer (some ⟨bn,0,none⟩),.pointer (some ⟨bi,0,none⟩)] (fun A=>A.cell? ⟨bn,0,none⟩=some (.int .i64 n)/\A.cell? ⟨bi,0,none⟩=some (.int .i64 i))
  (fun N x args W=>∃bv p,N<=bv/\args= #[.slice (some ⟨bv,0,none⟩) n n]/\VC n bv x W/\x=sv n i p/\p.length=i/\∀z∈p,z.natAbs<=1) ((bx i).map (sv n i)):=fun m l J Jx W hJb hcap hY h0=>by
 have hlt:∀{a:Nat} {v:Value},W.cell? ⟨a,0,none⟩=some v->a<W.heap.size:=fun h=>World.block_lt_of_cell? W _ h;have hc:=hcap _ _ h0;have:=JX l n i bn bi hin hn m J Jx W (hlt hc.2) (hlt hc.1) hJb hcap (fun m pre p bv W1 h1 h2 h3 h4 h5=>hY m pre (sv n i p) _ W1 ⟨bv,p,h1,rfl,h2,rfl,h4,h5⟩ h3) h0;rw[Ml]at this;exact this
theorem DZ{g:Mx.Mat}{n i:Nat}{l:List Int}(h4:n<=4)(hl:g.length=n)(hR:Mx.Rc n g)(hb:∀i j,(Mx.at' g i j).natAbs<=1000000)(hi:i<n)(h1:l.length=i)(h2:∀z∈l,z.natAbs<=1):VOk g (sv n i l) n:=by
 refine⟨h4,hl,hR,?_,hb,fun x hx=>?_⟩
 ·unfold sv;rw[cq,dh,ji];omega
 ·unfold sv at hx;rcases de.1 hx with hx|hx
  ·have:=h2 x hx;omega
  ·rcases bI.1 hx with rfl|hx
   ·decide
   ·rw[List.eq_of_mem_replicate hx];decide
theorem rng1{w:World}{b:Nat}{v:Value}(hv:v.cells= #[v])(h:w.cell? ⟨b,0,none⟩=some v):w.rangeAt b 0 v.cells.toList:=fun j u hj=>by
 rw[hv]at hj
 match j,hj with
 |0,hj=>
  have:u=v:=by simpa using hj.symm
  rw[this];exact h
 |j+1,hj=>simp at hj
theorem Jp{P:Program}{r:Nat}{X0:Nat->Prop}{n m:Nat}{c:Code}{Q1:Exit->Act->World->Prop}{Q:Exit->S->Prop}{s:S}{f:Nat->Value}{a:Act}{w:World}{w0:Bs}(hd:Hd X0 n w0 s f a w)(h:aR P r X0 n c Q s)(k:∀e s' f' a' w',Hd X0 n w0 s' f' a' w'->Q e s'->Q1 e a' w'):c.wpIn (Fence.wide.inRound r) m P Q1 a w:=wpIn_mono (h m w0 f a w hd) fun e a w ⟨s',f',h1,h2⟩=>k e s' f' a w h1 h2
theorem zG{A:World}{l:Nat}{r o:Loop}(h:A.heap[l]?=some (.loop r))(p:Addr):(A.putObj l (.loop o)).cell? p=A.cell? p:=by
 by_cases e:p.block=l
 ·have h2:=World.putObj_heap_same (w:=A) (o:=.loop o) (dz.1 h).1;unfold World.cell?;rw[e,h,h2]
 ·exact World.cell?_of_block (World.putObj_heap_other e)
theorem rC{A:World}{l:Nat}{o o':Obj}(h:A.heap[l]?=some o)(ho:o.isCells=false)(ho':o'.isCells=false)(p:Addr):(A.putObj l o').cell? p=A.cell? p:=by
 by_cases e:p.block=l
 ·have h2:=World.putObj_heap_same (w:=A) (o:=o') (dz.1 h).1;unfold World.cell?;rw[e,h,h2];cases o<;>simp[Obj.isCells]at ho<;>cases o'<;>simp[Obj.isCells]at ho'<;>rfl
 ·exact World.cell?_of_block (World.putObj_heap_other e)
theorem yS{W:World}{b:Nat}{u:Value}(h:W.cell? ⟨b,0,none⟩=some u):(loadVar 40 ⟨b,0,none⟩).run Tryz.prog W= .ok u W:=by
 have hu:=Tryz.underlying40;have hagg:(isAgg 40).run Tryz.prog W= .ok false W:=by
  unfold isAgg;rw[Sem.run_bind,run_underlying hu W];simp
 simp[loadVar,Sem.run_bind,hagg,h]
theorem Kq{X:Nat->Prop}{n:Nat}{W:World}{sl:List (Nat×D)}{a:Act}(hsz:a.tmps.size=n)(hdf:a.defers=[])(hX:XW X W)(hs:∀t,SR X (fun _=>undef) W (look sl t) (a.tmps.getD t undef)):Hd X n ⟨W,fun _=>False,fun _=>undef⟩ ⟨sl,[]⟩ (fun _=>undef) a W:=by
 have e:XO X ⟨sl,[]⟩ (fun _=>undef)=X:=funext fun b=>propext ⟨fun h=>h.elim id fun ⟨p,hp,_⟩=>(by cases hp),.inl⟩;exact⟨hsz,hdf,Gr.refl _ _,hX,fun _ _ h=>h,fun _ _=>rfl,fun p hp=>(by cases hp),fun t=>by rw[e];exact hs t,fun p hp=>(by cases hp),fun b ⟨p,hp,_⟩=>(by cases hp),fun p hp=>(by cases hp),fun p hp=>(by cases hp)⟩
theorem Kr{X:Nat->Prop}{n b2:Nat}{W:World}{sl:List (Nat×D)}{a:Act}{T:TypeId}{d0:D}{v0:Value}(hsz:a.tmps.size=n)(hdf:a.defers=[])(hX:XW X W)(hXb:¬X b2)(hb:W.heap[b2]?=some (.cells #[v0] T (0,0)))(hd0:AR (fun b=>X b\/b=b2) W d0 v0)(hf:d0.fits=true)(hw:d0.wd=1)(hn:d0.nw=true)(hc:v0.cells= #[v0])(hnw:∀m,v0≠ .int .u32 m)
  (hs:∀t,SR (fun b=>X b\/b=b2) (fun _=>.slice (some ⟨b2,0,none⟩) 1 1) W (look sl t) (a.tmps.getD t undef)):Hd X n ⟨W,fun b=>b=b2,fun _=>.slice (some ⟨b2,0,none⟩) 1 1⟩ ⟨sl,[(3000000,⟨T,1,[d0]⟩)]⟩ (fun _=>.slice (some ⟨b2,0,none⟩) 1 1) a W:=by
 have e:XO X ⟨sl,[(3000000,⟨T,1,[d0]⟩)]⟩ (fun _=>.slice (some ⟨b2,0,none⟩) 1 1)=fun b=>X b\/b=b2:=funext fun b=>propext ⟨fun h=>h.elim .inl fun ⟨p,hp,h⟩=>.inr (by cases h;rfl),fun h=>h.elim .inl fun h=>.inr ⟨_,br,by rw[h];rfl⟩⟩;refine⟨hsz,hdf,Gr.refl _ _,hX,fun b h h2=>hXb (h2▸h),fun _ _=>rfl,fun p hp b hb=>.inr (by cases hb;rfl),fun t=>by rw[e];exact hs t,fun p hp=>?_,fun b ⟨p,hp,h⟩=>?_,fun p hp q hq h=>?_,fun p hp q hq _=>by rw[bV.1 hp,bV.1 hq]⟩
 ·rw[bV.1 hp,e];exact⟨Nat.one_pos,[v0],⟨rfl,.inr ⟨b2,1,#[v0],rfl,aO _,hb,af _,by decide,rfl,rfl⟩⟩,EE.of ⟨v0,[],by rw[hc];rfl,hd0,hf,hw,hn,rfl⟩ rfl⟩
 ·cases h;intro m hm;have h3:W.cell? ⟨b2,0,none⟩=some v0:=by
   unfold World.cell?;simp[hb]
  rw[h3]at hm;cases hm;exact hnw m rfl
 ·rw[bV.1 hp,bV.1 hq]at h;exact absurd rfl h
theorem Eo(g:Mx.Mat)(n i:Nat)(hin:i<n)(hn:n<=4)(hl:g.length=n)(hR:Mx.Rc n g)(hb:∀i j,(Mx.at' g i j).natAbs<=1000000):Fn Tryz.prog 175 [dM g,zI i] (shD g n i):=by
 refine⟨enters_of Tryz.func175 ak rfl,fun X w vs hX hv=>?_⟩;simp only[ATp]at hv;obtain⟨v0,r0,e0,h0,v1,r1,e1,h1,rfl⟩:=hv;simp only[AR]at h1;obtain⟨rfl,_⟩:=h1;subst e1;have:vs= #[v0,.int .i64 ((i:Int))]:=dp.1 e0;subst this;clear e0;have h0':=h0;simp only[AR]at h0';obtain⟨a0,c0,ev0,_,_⟩:=h0';rw[aY,hl]at ev0;refine(callsIn_wide (n:=3)).1 ?_;refine callsIn_of_wp_marks Tryz.func175 rfl trivial ?_ rfl;simp only[Tryz.ntmps175,fY,dh,en,Nat.reduceAdd,Nat.reduceSub,qx,qw,qu,qt,cT,jk]
 gi_wp2
 refine⟨trivial,?_⟩;refine(Gs _ _ _ _).mono ?_;rintro e w5 ⟨rfl,rfl⟩
 gi_wp2
 have VA:=fun (p:List Int) (hp:p.length=i) (hx:∀z∈p,z.natAbs<=1)=>tf g (sv n i p) n (DZ hn hl hR hb hin hp hx);have QB:=fun (p:List Int) (hp:p.length=i) (hx:∀z∈p,z.natAbs<=1)=>I1 (DZ hn hl hR hb hin hp hx);obtain⟨q,hq⟩:=get_some (m:=g) (k:=i) aa;have hql:=hR q (bh hq);obtain⟨y,hy⟩:=get_some (m:=q) (k:=i) aa;have ey:Mx.at' g i i=y:=by unfold Mx.at';rw[Mx.cX hq,aF,hy];rfl
 have hyb:=hb i i;rw[ey]at hyb;obtain⟨W5,hW5⟩:∃W5,(((((w.alloc (.cells #[.slice a0 n c0] 22)).alloc (.cells #[.int .i64 (i:Int)] 3)).alloc (.cells #[.slice none 0 0] 40)).alloc (.cells #[.int .i64 (n:Int)] 3)).alloc (.cells #[.int .i64 (i:Int)] 3))=W5:=⟨_,rfl⟩;rw[hW5];have hS5:W5.heap.size=w.heap.size+5:=by rw[<-hW5];simp only[World.size_alloc]
 have hB5:Below w.heap.size w W5:=by rw[<-hW5];exact bel
 have f0:W5.cell? ⟨w.heap.size,0,none⟩=some (.slice a0 n c0):=by rw[<-hW5];exact eW _ (eW _ (eW _ (eW _ (iu w _ _))))
 have f1:W5.cell? ⟨w.heap.size+1,0,none⟩=some (.int .i64 (i:Int)):=by
  rw[<-hW5];refine eW _ (eW _ (eW _ ?_));have:=iu (w.alloc (.cells #[.slice a0 n c0] 22)) (.int .i64 (i:Int)) 3;rwa[World.size_alloc]at this
 have f2:W5.heap[w.heap.size+1+1]?=some (.cells #[.slice none 0 0] 40 (0,0)):=by
  have h1:=World.alloc_heap_new ((w.alloc (.cells #[.slice a0 n c0] 22)).alloc (.cells #[.int .i64 (i:Int)] 3)) (.cells #[.slice none 0 0] 40);rw[World.size_alloc,World.size_alloc]at h1;rw[<-hW5];exact((Below.heap_alloc _ _ _ (by simp only[World.size_alloc];omega)).trans (Below.heap_alloc _ _ _ (by simp only[World.size_alloc];omega))).trans h1
 have f3:W5.cell? ⟨w.heap.size+1+1+1,0,none⟩=some (.int .i64 (n:Int)):=by
  rw[<-hW5];refine eW _ ?_;have:=iu (((w.alloc (.cells #[.slice a0 n c0] 22)).alloc (.cells #[.int .i64 (i:Int)] 3)).alloc (.cells #[.slice none 0 0] 40)) (.int .i64 (n:Int)) 3;rwa[World.size_alloc,World.size_alloc,World.size_alloc]at this
 have f4:W5.cell? ⟨w.heap.size+1+1+1+1,0,none⟩=some (.int .i64 (i:Int)):=by
  rw[<-hW5];have:=iu ((((w.alloc (.cells #[.slice a0 n c0] 22)).alloc (.cells #[.int .i64 (i:Int)] 3)).alloc (.cells #[.slice none 0 0] 40)).alloc (.cells #[.int .i64 (n:Int)] 3)) (.int .i64 (i:Int)) 3;rwa[World.size_alloc,World.size_alloc,World.size_alloc,World.size_alloc]at this
 clear hW5;have hXw:∀{A:World},Below w.heap.size w A->XW X A:=fun h=>hX.grow h;refine Lu (gf:=212) (lb:=#[.pointer (some ⟨w.heap.size+1+1+1,0,none⟩),.pointer (some ⟨w.heap.size+1+1+1+1,0,none⟩)]) rfl (enters_of Tryz.func212 ak rfl) (Co n i _ _ hin hn) (fun N x args A ⟨bv,p,_,h,_⟩=>by rw[h];rfl) (fun N x args A B ⟨bv,p,h1,h2,h3,h4⟩ hk=>⟨bv,p,h1,h2,⟨h3.len,fun j z hj=>(World.cell?_of_block (a:=⟨bv,j,none⟩) (hk bv h1)).trans (h3.cell j z hj),fun j hj=>(World.frozen?_of_block (a:=⟨bv,j,none⟩) (hk bv h1)).trans (h3.fz j hj)⟩,h4⟩)
  (fun pre A=>Below W5.heap.size W5 A/\∀x∈pre,¬qv g x<y)
  (fun c q A=>c= .ret/\(∃q' x p,q=q'++[x]/\x=sv n i p/\(∀z∈q',¬qv g z<y)/\qv g x<y)/\Below w.heap.size w A/\∃x u b o c',x=q.getLastD []/\A.cell? ⟨w.heap.size+1+1,0,none⟩=some u/\IRd X A x u b o c')
  (fun pre A B ⟨j1,j2⟩ hb=>⟨j1.trans hb,j2⟩)
  (fun c q A r o ⟨j1,j2,j3,x,u,b,o',c',j4,j5,j6⟩ h=>⟨j1,j2,j3.trans ⟨rfl,rfl,rfl,by simp,fun k hk=>World.putObj_heap_other aa⟩,x,u,b,o',c',j4,(zG h _).trans j5,⟨j6.e,j6.le,j6.x,fun k z hk=>(zG h _).trans (j6.c k z hk)⟩⟩)
  (fun pre A ⟨j1,_⟩=>⟨(j1.cell (p:=⟨_,0,none⟩) vk).trans f3,(j1.cell (p:=⟨_,0,none⟩) vk).trans f4⟩)
  ⟨Below.refl _ _,fun x hx=>by cases hx⟩
  (fun args=>{tmps:=#[.slice a0 n c0,.int .i64 (i:Int),.pointer (some ⟨w.heap.size,0,none⟩),.pointer (some ⟨w.heap.size+1,0,none⟩),.pointer (some ⟨w.heap.size+1+1,0,none⟩),args.getD 0 undef,.slice a0 n c0,.int .i64 (n:Int),.int .i64 (i:Int),.func (.func 212) #[] #[.pointer (some ⟨w.heap.size+1+1+1,0,none⟩),.pointer (some ⟨w.heap.size+1+1+1+1,0,none⟩)],args.getD 0 undef,undef,undef,undef,undef,undef,undef,undef,undef,undef,undef,undef,undef,undef],defers:=[]}) ?assign ?body ?done ?stop
 case assign=>
  intro m args A K hsz hK;obtain⟨v,rfl⟩:∃v,args= #[v]:=by
   obtain⟨l⟩:=args
   match l,hsz with
   |[v],_=>exact⟨v,rfl⟩
  gi_wp2
  exact hK
 case body=>
  rintro m pre x args A ⟨hbel,hno⟩ ⟨bv,p,hbv,rfl,hVC,rfl,hp1,hp2⟩ hsz;have VA':=VA p hp1 hp2;have QB':=QB p hp1 hp2;have hxl:=hVC.len;have hx0:sv n i p≠[]:=fun e=>by rw[e]at hxl;simp at hxl;omega
  have CL:=Hn (sv n i p) hx0 aa;have hBA:=hB5.trans (hbel.mono hB5.size);obtain⟨b2,hb2⟩:∃b2,b2=w.heap.size+1+1:=⟨_,rfl⟩;have hf2:A.heap[b2]?=some (.cells #[.slice none 0 0] 40 (0,0)):=by rw[hb2];exact(hbel.block _ aa).trans f2
  have hX2:XW (fun b=>X b\/b=b2) A:=fun b hb=>by
   rcases hb with hb|rfl
   ·exact hXw hBA b hb
   ·refine⟨(dz.1 hf2).1,fun k hk=>?_⟩;have h3:A.cell? ⟨b,0,none⟩=some (.slice none 0 0):=by
     unfold World.cell?;simp[hf2]
    rw[h3]at hk;cases hk
  have hA0:AR (fun b=>X b\/b=b2) A (dM g) (.slice a0 n c0):=by
   rw[<-ev0];exact AR.agr (Agr.of X hBA) (fun b h1 h2=>h2.resolve_right aa) _ _ h0
  have hAx:AR (fun b=>X b\/b=b2) A (dI (sv n i p)) (.slice (some ⟨bv,0,none⟩) n n):=IRd.ar (b:=bv) (o:=0) (c:=n) ⟨by rw[hxl],by omega,fun h=>h.elim (fun h=>by have:=(hX bv h).1;omega) (fun h=>by omega),fun k z hk=>by rw[bQ];exact hVC.cell k z hk⟩ hx0;have hc0:A.cell? ⟨w.heap.size,0,none⟩=some (.slice a0 n c0):=(hbel.cell (p:=⟨_,0,none⟩) vk).trans f0;have hc1:A.cell? ⟨w.heap.size+1,0,none⟩=some (.int .i64 (i:Int)):=(hbel.cell (p:=⟨_,0,none⟩) vk).trans f1;have hnX:∀b,w.heap.size<=b->b<w.heap.size+2->¬(X b\/b=b2):=fun b h1 h2 h=>h.elim (fun h=>by have:=(hX b h).1;omega) (fun h=>by omega);rw[<-hb2];refine wpIn_block ?_;refine wpIn_seq ?_;refine Jp (X0:=fun b=>X b\/b=b2) (n:=24) (Q:=fun e s=>e= .normal/\s.gt 4= .sc (.pointer (some ⟨b2,0,none⟩))/\s.gt 5=dI (sv n i p)/\s.gt 21= .sc (.bool (decide (qv g (sv n i p)<y)))/\s.ow=[]) (s:=⟨[(2,.pt (dM g)),(3,.pt (zI (i:Nat))),(4,.sc (.pointer (some ⟨b2,0,none⟩))),(5,dI (sv n i p))],[]⟩) (Kq rfl rfl hX2 fun t=>?_) ?_ fun e s' f' a' A' hd' hQ=>?_
  ·simp only[look];split
   ·next e=>
    subst e;simp only[SR,AR];exact⟨w.heap.size,0,_,rfl,hnX _ aa aa,World.block_lt_of_cell? A _ hc0,hA0,rng1 rfl hc0⟩
   ·split
    ·next e=>
     subst e;simp only[SR,AR];exact⟨w.heap.size+1,0,_,rfl,hnX _ aa aa,World.block_lt_of_cell? A _ hc1,⟨rfl,rfl⟩,rng1 rfl hc1⟩
    ·split
     ·next e=>
      subst e;simp only[SR,AR];exact⟨rfl,rfl⟩
     ·split
      ·next e=>
       subst e;exact hAx
      ·exact SR.any
  ·clear hA0 hAx hc0 hc1 hnX hX2 hf2 hBA hno hbel hVC CL VA QB h0 hX hB5 f0 f1 f2 f3 f4 hXw
   (refine aRmix [] ak ak (by exact wF) ?_);refine rL ?_;refine xA ?_;refine zs95 ?_;refine rL ?_;refine rL ?_;refine ID ?_;refine rL ?_;refine rL ?_;refine ID ?_;refine rL ?_;(first|refine aN1 rfl rfl rfl qp ?_|refine aN1o rfl rfl rfl qp ?_);(refine FU ak ?_)
   exact⟨rfl,rfl,rfl,rfl,rfl⟩
  ·obtain⟨rfl,g4,g5,g21,gow⟩:=hQ;have h21:=hd'.op (.tmp 21);rw[show s'.op (.tmp 21)=s'.gt 21 from rfl,g21]at h21;have h4:=hd'.op (.tmp 4);rw[show s'.op (.tmp 4)=s'.gt 4 from rfl,g4]at h4;have h5:=hd'.op (.tmp 5);rw[show s'.op (.tmp 5)=s'.gt 5 from rfl,g5]at h5;have hlow:Below A.heap.size A A':=hd'.bl.low;refine wpIn_cond h21.1 ?_;by_cases hlt:qv g (sv n i p)<y
   ·rw[ay hlt,aj rfl];have hbA:=hBA.trans (hlow.mono hBA.size);have hf2':A'.heap[b2]?=some (.cells #[.slice none 0 0] 40 (0,0)):=(hlow.block _ (dz.1 hf2).1).trans hf2;have h5':AR (fun b=>X b\/b=b2) A' (dI (sv n i p)) (a'.tmps.getD 5 undef):=AR.agr (Agr.refl _ _) (fun _ _ h=>.inl h) _ _ h5;refine wpIn_seq ?_;refine Jp (X0:=X) (n:=24) (Q:=fun e s=>e= .normal/\s.ow=[(3000000,⟨40,1,[dI (sv n i p)]⟩)]) (s:=⟨[(4,.opt 3000000 0),(5,dI (sv n i p))],[(3000000,⟨40,1,[.sc (.slice none 0 0)]⟩)]⟩) (Kr (v0:=.slice none 0 0) hd'.sz hd'.df (hXw hbA) (fun h=>by have:=(hX b2 h).1;omega) hf2' (by simp only[AR];exact⟨trivial,rfl⟩) rfl rfl rfl rfl (fun m h=>by cases h) fun t=>?_) ?_ fun e s4 f4 a4 A4 hd4 hQ4=>?_
    ·simp only[look];split
     ·next e=>
      subst e;simp only[SR];exact⟨b2,1,1,rfl,h4.1⟩
     ·split
      ·next e=>
       subst e;exact h5'
      ·exact SR.any
    ·clear hA0 hAx hc0 hc1 hnX hX2 hf2 hBA hno hbel hVC VA QB h0 hX hB5 f0 f1 f2 f3 f4 hXw hd' h5' h4 h5 h21 hlow hbA hf2' VA'
     (refine FO ak ?_;refine zs3 ?_;refine gR ?_;refine oO ?_;refine ba ?_)
     exact⟨rfl,rfl⟩
    ·obtain⟨rfl,gow4⟩:=hQ4;have hf4:=hd4.fx 3000000 rfl;obtain⟨_,zs,hown,hEE⟩:=hd4.ow (3000000,⟨40,1,[dI (sv n i p)]⟩) (by rw[gow4];exact br);obtain⟨u,rest,hz,hu,_,_,_,_⟩:=hEE.pl rfl;obtain⟨bu,ou,cu,hIR⟩:=IRd.of hu hx0;have hgr:Gr (fun b=>b=b2) A' A4:=hd4.bl;have hcell:A4.cell? ⟨b2,0,none⟩=some u:=by
      have h7:=World.ownsRow.cells hown (g:=b2) (by rw[hf4];rfl) 0 u (by rw[hz,hIR.e];rfl);exact h7
     refine wpIn_ret ⟨fun k h1 h2=>(hgr.block k (by have:=hlow.size;omega) aa).trans (hlow.block k aa),rfl,⟨pre,sv n i p,p,rfl,rfl,hno,hlt⟩,?_,sv n i p,u,bu,ou,cu,by simp,hcell,⟨hIR.e,hIR.le,fun h=>hIR.x (.inl h),hIR.c⟩⟩;exact⟨hgr.os.trans hbA.os,hgr.tape.trans hbA.tape,hgr.output.trans hbA.output,bc hbA.size hgr.size,fun k hk=>(hgr.block k (by have:=hbA.size;omega) aa).trans (hbA.block k hk)⟩
   ·rw[aA hlt,ah az];refine wpIn_skip ⟨fun k _ h2=>hlow.block k h2,hbel.trans (hlow.mono aa),fun z hz=>?_⟩;rcases de.1 hz with hz|hz
    ·exact hno z hz
    ·rw[bV.1 hz];exact hlt
 case done=>
  rintro A ⟨hbel,hno⟩ hk;rw[hS5]at hk;have hf2:A.heap[w.heap.size+1+1]?=some (.cells #[.slice none 0 0] 40 (0,0)):=(hbel.block _ aa).trans f2;have hc2:A.cell? ⟨w.heap.size+1+1,0,none⟩=some (.slice none 0 0):=by
   unfold World.cell?;simp[hf2]
  have hz2:A.frozen? ⟨w.heap.size+1+1,0,none⟩=false:=by
   simp only[World.frozen?];rw[hf2];simp
  have hfn:(bx i).find? (shF g n i)=none:=List.find?_eq_none.2 fun l hlm h=>hno (sv n i l) (iD.2 ⟨l,hlm,rfl⟩) (by
   unfold shF at h;rw[ey]at h;exact of_decide_eq_true h)
  have hsD:shD g n i= .sc (.slice none 0 0):=by unfold shD;rw[hfn]
  have hBA:=hB5.trans (hbel.mono hB5.size);clear VA QB;dsimp only
  gi_wp2
  have hk2:=(KeepsOthers.setCell A ⟨w.heap.size+1+1,0,none⟩ (.slice none 0 0)).same _ _ hk rfl;refine⟨by simp,.inl ⟨_,_,rfl,run_takeDeferred hk2,?_⟩⟩;have hc3:((A.setCell ⟨w.heap.size+1+1,0,none⟩ (.slice none 0 0)).putObj (w.heap.size+5) (.deferred none)).cell? ⟨w.heap.size+1+1,0,none⟩=some (.slice none 0 0):=(rC hk2 rfl rfl _).trans (World.cell?_setCell_same' _ _ _ (by rw[hc2];rfl));refine⟨.slice none 0 0,by simp[results,Tryz.f175,asAddr,yS hc3],_,rfl,by simp only[AR];exact⟨trivial,rfl⟩,?_⟩;refine(hBA.setCell (p:=⟨w.heap.size+1+1,0,none⟩) vk _).trans ⟨rfl,rfl,rfl,by simp,fun k hk=>World.putObj_heap_other aa⟩
 case stop=>
  rintro c q A hq ⟨rfl,⟨q',x,p,rfl,rfl,hno,hlt⟩,hBA,x',u,bu,ou,cu,hx',hcell,hIR⟩ hk;rw[hS5]at hk;obtain⟨t,ht⟩:=hq;rw[cY]at ht;obtain⟨l1,l2,e1,e2,e3⟩:=List.map_eq_append_iff.1 ht.symm;obtain⟨l,ls,rfl,e4,_⟩:=List.map_eq_cons_iff.1 e3;have hfs:(bx i).find? (shF g n i)=some l:=List.find?_eq_some_iff_append.2 ⟨by
   unfold shF;rw[ey,e4];exact ay hlt,l1,ls,e1,fun a ha=>by
   unfold shF;rw[ey,aA (hno (sv n i a) (by rw[<-e2];exact iD.2 ⟨a,ha,rfl⟩))];rfl⟩
  have hsD:shD g n i=dI (sv n i l):=by unfold shD;rw[hfs]
  clear VA QB;dsimp only
  gi_wp2
  refine⟨by simp,.inl ⟨_,_,rfl,run_takeDeferred hk,?_⟩⟩;have hc3:=(rC (o':=.deferred none) hk rfl rfl ⟨w.heap.size+1+1,0,none⟩).trans hcell;obtain rfl:x'=sv n i p:=by rw[hx'];simp
  have hx0:sv n i p≠[]:=fun e=>by
   have:=jj List.length e;unfold sv at this;rw[cq,dh]at this;simp at this
  have hIR2:IRd X (A.putObj (w.heap.size+5) (.deferred none)) (sv n i p) u bu ou cu:=⟨hIR.e,hIR.le,hIR.x,fun k z hz=>(rC (o':=.deferred none) hk rfl rfl _).trans (hIR.c k z hz)⟩;refine⟨u,by simp[results,Tryz.f175,asAddr,yS hc3],_,rfl,hIR2.ar hx0,hBA.trans ⟨rfl,rfl,rfl,by simp,fun k hk=>World.putObj_heap_other aa⟩⟩
end DW
end
end Go.Proofs.YtcgjmdpcplhanaaGreat
