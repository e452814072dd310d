/- Lemmas for the law: V12 V13 V14 V15 V16 V17 V18 V19 E11 -/
import Derived.Shelf.Abstract
import Derived.Test.YtcgjmdpcplhanaaGreatZd6
namespace Go.Proofs.YtcgjmdpcplhanaaGreat
section
theorem JW{p:Prop}(h:p:=by rw[hs0];exact gV _):p:=h
theorem lK{p q:Prop}(h:q)(f:Wq q->p:=by(intro hW;(refine bw ?_;refine ov ?_);exact hW.out)):p:=f ⟨h⟩
theorem wJ{p q:Prop}(h:q)(f:Wq q->p:=by(intro hW;(refine kW ?_;refine gw ?_);exact hW.out)):p:=f ⟨h⟩
theorem zs93{p q:Prop}(h:q)(f:Wq q->p:=by(intro hW;((first|(apply aB 13;(focus kernel_rfl);(decide+kernel))|(apply aB 12;(focus kernel_rfl);(decide+kernel))|(apply aB 11;(focus kernel_rfl);(decide+kernel))|(apply aB 10;(focus kernel_rfl);(decide+kernel))|(apply aB 9;(focus kernel_rfl);(decide+kernel))|(apply aB 8;(focus kernel_rfl);(decide+kernel))|(apply aB 7;(focus kernel_rfl);(decide+kernel))|(apply aB 6;(focus kernel_rfl);(decide+kernel)));simp only[dJ,dv,eC,cY]);exact hW.out)):p:=f ⟨h⟩
theorem A7{p:Prop}(h:p:=by(first|(apply nr;(exact rfl);(focus((apply aE;(conv=>lhs;whnf);(first|done|exact rfl))));(exact ct);(kernel_rfl);(kernel_rfl);(omega);(focus((first|(apply vU;(focus assumption);(focus assumption))|(apply get_map;assumption)|(apply get_own;assumption)))))|(apply jT;(exact rfl);(focus((apply aE;(conv=>lhs;whnf);(first|done|exact rfl))));(exact ct);(focus((repeat(first|exact bF|refine bJ _ ?_))));(kernel_rfl);(kernel_rfl);(focus(first|omega|(simp;omega)));(focus(first|(apply iU;assumption)|exact rfl))))):p:=h
theorem I3{p q:Prop}(h:q)(f:Wq q->p:=by(intro hW;(refine aL1 rfl rfl rfl A7 ?_);exact hW.out)):p:=f ⟨h⟩
theorem JY{p:Prop}(h:p:=by simp[results,Tryz.results74,go_sem]):p:=h
theorem zb60{p:Prop}(h:p:=by(simp only[bC,aP,im,iI];omega)):p:=h
theorem DS{p:Prop}(h:p:=by simp[results,Tryz.results120,go_sem]):p:=h
theorem QM{p q:Prop}(h:q)(f:Wq q->p:=by(intro hW;(refine cO ?_;refine mJ ?_;refine fM ?_;refine zs8 ?_;refine I8 ?_;refine kv ?_;refine cK ?_);exact hW.out)):p:=f ⟨h⟩
theorem zs94{p q:Prop}(h:q)(f:Wq q->p:=by(intro hW;((first|refine eJ rfl rfl rfl aj zb29 aj aj ?_|((try refine aY ?_);refine aL1 rfl rfl rfl zb29 ?_)));exact hW.out)):p:=f ⟨h⟩
theorem zb33{p:Prop}(h:p:=by(apply BM;(exact rfl);(focus((apply aE;(conv=>lhs;whnf);(first|done|exact rfl))));(exact ct);(exact ct);(exact rfl);(exact rfl);(exact rfl);(assumption);(exact rfl))):p:=h
theorem zs91{p q:Prop}(h:q)(f:Wq q->p:=by(intro hW;(refine aL1 rfl rfl rfl zb33 ?_);exact hW.out)):p:=f ⟨h⟩
theorem Jy{p q:Prop}(h:q)(f:Wq q->p:=by(intro hW;(refine kW ?_;refine zs7 ?_;refine aX ?_);exact hW.out)):p:=f ⟨h⟩
end
section
open Go.RowKit Go.BigFrame
attribute [local go_sem ↓] Go.wp_at_zero Go.wp_at_succ
instance decI64 (z:Int):Decidable (I64 z):=by unfold I64;exact inferInstance
def smv(z:Int):Int:=if I64 z then z else 0
theorem U2(a b:Nat)(h:b<4294967296):(a*4294967296)|||b=a*4294967296+b:=by
 have:=J5 (i:=32) (b:=b) h a;rw[show(2:Nat)^32=4294967296 from rfl,bG]at this;exact this.symm
theorem UJ{l:List Nat}(h:l.length<=2):Dg.vl B32 l=l.getD 1 0*4294967296+l.getD 0 0:=by
 match l with
 |[]=>rfl
 |[x]=>simp[Dg.vl]
 |[x,y]=>simp[Dg.vl,B32,mO,bG]
 |x::y::z::l=>simp at h
theorem vF{z:Int}(h:I64 z):smv z=z:=ak h
theorem xm{z:Int}(h:¬I64 z):smv z=0:=ah h
theorem wg{z:Int}(h:I64 z):decide (I64 z)=true:=by rw[cL];exact h
theorem tB{z:Int}(h:¬I64 z):decide (I64 z)=false:=by rw[bN];exact h
def VJ(w:World)(z:Int)(e:Ending)(w':World):Prop:=e= .returned (.tuple #[.int .i64 (smv z),.bool (decide (I64 z))])/\Below w.heap.size w w'
set_option maxRecDepth 10000 in
set_option maxHeartbeats 8000000 in
theorem vG(x:IV)(z:Int)(fz:Fit z)(w:World)(hx:IP w x z):
  Calls Tryz.prog 120 #[.agg #[.bool x.s,.slice x.a x.n x.cap]] w (VJ w z):=by
 obtain⟨l,h1,rfl⟩:=hx;have bl:=iB h1.nf fz;have S1:=ae (fun w (h:IW w x l)=>gY x l aa w h);have AT:=ae (fun i (hi:i<=10) w h=>wv l x.a l.length i aa aa h1.nf.dg w h);have H1:=ae h1;by_cases hl:l.length<=2
 ·have hv:=UJ hl;have d0:l.getD 0 0<4294967296:=Dg.bR h1.nf.dg av 0;have d1:l.getD 1 0<4294967296:=Dg.bR h1.nf.dg av 1;have A0:Hid (∀w,WS w x.a l->Calls Tryz.prog 166 #[.slice x.a l.length l.length,.int .i64 0] w fun e w'=>e= .returned (.int .u64 ((l.getD 0 0:Nat):Int))/\w'=w):=AT.out 0 aa;have A1:Hid (∀w,WS w x.a l->Calls Tryz.prog 166 #[.slice x.a l.length l.length,.int .i64 1] w fun e w'=>e= .returned (.int .u64 ((l.getD 1 0:Nat):Int))/\w'=w):=AT.out 1 aa;have HLL:=ae hl;obtain⟨s,a,n,cap⟩:=x;simp only[]at S1 A0 A1⊢;generalize l.getD 0 0=x0 at*;generalize l.getD 1 0=x1 at*;rw[hv];generalize hN:x1*4294967296+x0=N;obtain⟨sh,hsh⟩:∃sh,sh=x1*4294967296:=⟨_,rfl⟩;have e1:IntKind.u64.wrap ((x1:Int)*4294967296)=(sh:Int):=by rw[fI,hsh];omega
  have e2:bits .or .u64 (sh:Int) (x0:Int)=(N:Int):=by rw[u64_or_nat sh x0 aa aa,hsh,U2 x1 x0 d0,hN]
  have hl3:¬(2:Int)<(l.length:Int):=by omega
  have hl4:decide ((2:Int)<(l.length:Int))=false:=by rw[bN];exact hl3
  have hN2:(N:Int)<18446744073709551616:=by omega
  have hlI:(l.length:Int)<=2:=by omega
  generalize hL:l.length=q at*;clear h1 hv bl d0 d1 AT hsh hN;cases s
  ·have hz:Dg.iv false N=(N:Int):=by simp[Dg.iv]
   by_cases hs:N<9223372036854775808
   ·have t1:(N:Int)<9223372036854775808:=by omega
    have t2:decide ((N:Int)<9223372036854775808)=true:=by rw[cL];exact t1
    have HI:Hid (I64 (Dg.iv false N)):=by show I64 _;rw[hz];unfold I64;omega
    have HZ:=ae hz;clear hs hz
    go_enter Tryz.func120,Tryz.ntmps120
    go_wp2_with (first|(go_at_call 163;(with_reducible refine(S1.out _ ?_).mono ?_);(exact H1.out.below (B:=w.heap.size) ao (af _));rintro e w1 ⟨rfl,hb1⟩;obtain⟨g1,rfl⟩:=mob hb1;clear hb1)|(go_at_call 166;(first|(with_reducible refine(A0.out _ ?_).mono ?_)|(with_reducible refine(A1.out _ ?_).mono ?_));(exact H1.out.ws.below (B:=w.heap.size) ao (af _));rintro e w2 ⟨rfl,rfl⟩))
    refine bodyPost_ret (v:=.tuple #[.int .i64 ((N:Int)),.bool true]) DS rfl ⟨?_,by exact bel⟩;rw[vF HI.out,wg HI.out,HZ.out]
   ·have t1:¬(N:Int)<9223372036854775808:=by omega
    have t2:decide ((N:Int)<9223372036854775808)=false:=by rw[bN];exact t1
    have HI:Hid (¬I64 (Dg.iv false N)):=by show¬I64 _;rw[hz];unfold I64;omega
    clear hs hz
    go_enter Tryz.func120,Tryz.ntmps120
    go_wp2_with (first|(go_at_call 163;(with_reducible refine(S1.out _ ?_).mono ?_);(exact H1.out.below (B:=w.heap.size) ao (af _));rintro e w1 ⟨rfl,hb1⟩;obtain⟨g1,rfl⟩:=mob hb1;clear hb1)|(go_at_call 166;(first|(with_reducible refine(A0.out _ ?_).mono ?_)|(with_reducible refine(A1.out _ ?_).mono ?_));(exact H1.out.ws.below (B:=w.heap.size) ao (af _));rintro e w2 ⟨rfl,rfl⟩))
    refine bodyPost_ret (v:=.tuple #[.int .i64 (0),.bool false]) DS rfl ⟨?_,by exact bel⟩;rw[xm HI.out,tB HI.out]
  ·have hz:Dg.iv true N= -(N:Int):=by simp[Dg.iv]
   by_cases hs:N<=9223372036854775808
   ·have t1:(N:Int)<=9223372036854775808:=by omega
    have t2:decide ((N:Int)<=9223372036854775808)=true:=by rw[cL];exact t1
    have HI:Hid (I64 (Dg.iv true N)):=by show I64 _;rw[hz];unfold I64;omega
    have HZ:=ae hz;obtain⟨u,hu⟩:∃u:Int,u=(-(N:Int))%18446744073709551616:=⟨_,rfl⟩;have e3:IntKind.u64.wrap (-(N:Int))=u:=by rw[fI,hu]
    have e4:IntKind.i64.wrap u= -(N:Int):=by rw[hu,IntKind.wrap_i64];omega
    clear hs hz hu
    go_enter Tryz.func120,Tryz.ntmps120
    go_wp2_with (first|(go_at_call 163;(with_reducible refine(S1.out _ ?_).mono ?_);(exact H1.out.below (B:=w.heap.size) ao (af _));rintro e w1 ⟨rfl,hb1⟩;obtain⟨g1,rfl⟩:=mob hb1;clear hb1)|(go_at_call 166;(first|(with_reducible refine(A0.out _ ?_).mono ?_)|(with_reducible refine(A1.out _ ?_).mono ?_));(exact H1.out.ws.below (B:=w.heap.size) ao (af _));rintro e w2 ⟨rfl,rfl⟩))
    refine bodyPost_ret (v:=.tuple #[.int .i64 ((-(N:Int))),.bool true]) DS rfl ⟨?_,by exact bel⟩;rw[vF HI.out,wg HI.out,HZ.out]
   ·have t1:¬(N:Int)<=9223372036854775808:=by omega
    have t2:decide ((N:Int)<=9223372036854775808)=false:=by rw[bN];exact t1
    have HI:Hid (¬I64 (Dg.iv true N)):=by show¬I64 _;rw[hz];unfold I64;omega
    clear hs hz
    go_enter Tryz.func120,Tryz.ntmps120
    go_wp2_with (first|(go_at_call 163;(with_reducible refine(S1.out _ ?_).mono ?_);(exact H1.out.below (B:=w.heap.size) ao (af _));rintro e w1 ⟨rfl,hb1⟩;obtain⟨g1,rfl⟩:=mob hb1;clear hb1)|(go_at_call 166;(first|(with_reducible refine(A0.out _ ?_).mono ?_)|(with_reducible refine(A1.out _ ?_).mono ?_));(exact H1.out.ws.below (B:=w.heap.size) ao (af _));rintro e w2 ⟨rfl,rfl⟩))
    refine bodyPost_ret (v:=.tuple #[.int .i64 (0),.bool false]) DS rfl ⟨?_,by exact bel⟩;rw[xm HI.out,tB HI.out]
 ·have hlen:2<l.length:=by omega
  have hbig:18446744073709551616<=Dg.vl B32 l:=by
   obtain⟨m,hm⟩:∃m,l.length=m+1:=⟨l.length-1,by omega⟩;have k1:=Dg.nd hm h1.nf;have k2:B32^2<=B32^m:=cH av aa;have k3:B32^2=18446744073709551616:=by decide
   omega
  have HI:Hid (¬I64 (Dg.iv x.s (Dg.vl B32 l))):=by
   intro h;have h2:=Dg.my x.s (Dg.vl B32 l);unfold I64 at h;omega
  have hl3:(2:Int)<(l.length:Int):=by omega
  have hl4:decide ((2:Int)<(l.length:Int))=true:=by rw[cL];exact hl3
  obtain⟨s,a,n,cap⟩:=x;simp only[]at S1 HI⊢;generalize Dg.iv s (Dg.vl B32 l)=z at*;generalize hL:l.length=q at*;clear h1 bl AT hL hbig hl hlen
  go_enter Tryz.func120,Tryz.ntmps120
  go_wp2_with (go_at_call 163;(with_reducible refine(S1.out _ ?_).mono ?_);(exact H1.out.below (B:=w.heap.size) ao (af _));rintro e w1 ⟨rfl,hb1⟩;obtain⟨g1,rfl⟩:=mob hb1;clear hb1)
  refine bodyPost_ret (v:=.tuple #[.int .i64 (0),.bool false]) DS rfl ⟨?_,by exact bel⟩;rw[xm HI.out,tB HI.out]
end
section
open Go.RowKit Go.BigFrame
attribute [local go_sem ↓] Go.wp_at_zero Go.wp_at_succ
structure IO'(w:World)(g:Nat)(zs:List Int):Prop where
 lt:g<w.heap.size
 c:∀(k:Nat) (z:Int),zs[k]?=some z->w.cell? ⟨g,k,none⟩=some (.int .i64 z)
 fr:∀k,w.frozen? ⟨g,k,none⟩=false
theorem IO'.below{B:Nat}{w w':World}{g:Nat}{zs:List Int}(h:IO' w g zs)(hb:Below B w w')(hB:w.heap.size<=B):IO' w' g zs:=by
 have hg:g<B:=aS h.lt hB;exact⟨aS h.lt hb.size,fun k z hz=>(hb.cell (p:=⟨g,k,none⟩) hg).trans (h.c k z hz),fun k=>(hb.frozen (p:=⟨g,k,none⟩) hg).trans (h.fr k)⟩
theorem IO'.set{w:World}{g:Nat}{zs:List Int}(h:IO' w g zs){k:Nat}(hk:k<zs.length)(z:Int):IO' (w.setCell ⟨g,k,none⟩ (.int .i64 z)) g (zs.set k z):=by
 have hc:=h.c k _ (getD_some hk);refine⟨by simpa using h.lt,fun i y hy=>?_,fun i=>by rw[World.frozen?_setCell];exact h.fr i⟩;by_cases e:i=k
 ·subst e;rw[lO hk]at hy;cases hy;exact ew _ _ _ _ _ hc
 ·rw[oC (Ne.symm e)]at hy;rw[dm _ _ _ _ _ e];exact h.c i y hy
theorem IO'.z{w:World}{g:Nat}{zs:List Int}(h:IO' w g zs):ZAt w (some ⟨g,0,none⟩) zs:=
 .inr ⟨⟨g,0,none⟩,rfl,h.lt,fun k x hx=>by
  have e:(⟨g,0,none⟩:Addr).add k=⟨g,k,none⟩:=by unfold Addr.add;split<;>simp_all
  rw[e];exact h.c k x hx⟩
theorem Pu:(Tryz.prog.info? 3).map (fun i=>(i.zero,i.size,i.bytes))=some (some (.int .i64 0),1,8):=by kernel_rfl
theorem MX(n:Nat)(hn:n<=1000000000)(w:World):
  (Instr.makeSlice 40 (.int .i64 (n:Int)) (.int .i64 (n:Int))).run Tryz.prog w= .ok (.slice (some ⟨w.heap.size,0,none⟩) n n) (w.alloc (.cells (madeCells #[.int .i64 0] n) 3)):=by
 obtain⟨i,hi,hz,hs,hb⟩:=gJ Pu;have hr:=run_make (P:=Tryz.prog) w 40 3 i _ Tryz.underlying40 hi hz .i64 .i64 n n aa (vz _) (by rw[hb];omega) aa;rw[hs]at hr;simpa[Value.cells]using hr
theorem IO'.made(w:World)(n:Nat):IO' (w.alloc (.cells (madeCells #[.int .i64 0] n) 3)) w.heap.size (List.replicate n 0):=by
 have hh:=heap_alloc_new w (.cells (madeCells #[.int .i64 0] n) 3);refine⟨by simp,fun k z hz=>?_,fun k=>?_⟩
 ·rw[qX]at hz;split at hz
  ·cases hz;rw[cell_of_row _ w.heap.size _ _ _ (0,0) hh];unfold madeCells;rw[vy,vx,ak aa];simp[Nat.mod_one]
  ·cases hz
 ·simp only[World.frozen?];rw[hh];simp
theorem IO'.grew{w w':World}{base:Nat}{T:TypeId}{v v' u:Value}{l:List Value}{g:Nat}{zs:List Int}(h:IO' w g zs)(hg:B5 w w' base T v v' l u)(hne:v.ownBlock≠some g):IO' w' g zs:=by
 have hb:w'.heap[g]?=w.heap[g]?:=hg.by'.block g h.lt (fun e=>hne e.symm)
 exact⟨aS h.lt hg.by'.size,fun k z hz=>(World.cell?_of_block hb).trans (h.c k z hz),fun k=>(frozen?_of_block hb).trans (h.fr k)⟩
def rws(gs:Nat->Nat)(n k:Nat):List Value:=(List.range k).map fun i=>.slice (some ⟨gs i,0,none⟩) n n
theorem OI(gs:Nat->Nat)(n k g:Nat):rws (fun i=>if i=k then g else gs i) n (k+1)=rws gs n k++[.slice (some ⟨g,0,none⟩) n n]:=by
 unfold rws;rw[List.range_succ,db,jh (g:=fun i=>.slice (some ⟨gs i,0,none⟩) n n) fun i hi=>by
  show Value.slice (some ⟨if i=k then g else gs i,0,none⟩) n n=_;rw[ah (by have:=List.mem_range.1 hi;omega)]]
 simp
def Rows(w:World)(v:Value)(gs:Nat->Nat)(M:Mx.Mat)(k:Nat):Prop:=∀i,i<k->IO' w (gs i) (Mx.rw M i)/\v.ownBlock≠some (gs i)
theorem Rows.step{w W w':World}{base:Nat}{T:TypeId}{v v' u:Value}{l:List Value}{gs:Nat->Nat}{M:Mx.Mat}{k g:Nat}(h:Rows w v gs M k)(hb:Below w.heap.size w W)(hi:IO' W g (Mx.rw M k))(hg:w.heap.size<=g)(ho:kR w base T v l)(hgr:B5 W w' base T v v' l u):
  Rows w' v' (fun i=>if i=k then g else gs i) M (k+1):=fun i hik=>by
 have hne:∀i,i<k+1->IO' W (if i=k then g else gs i) (Mx.rw M i)/\v.ownBlock≠some (if i=k then g else gs i):=fun i hik=>by
  by_cases e:i=k
  ·subst e;rw[ak rfl];exact⟨hi,fun e2=>by have:=UZ ho e2;omega⟩
  ·rw[ah e];have:=h i aa;exact⟨this.1.below hb (af _),this.2⟩
 obtain⟨h1,h2⟩:=hne i hik;refine⟨h1.grew hgr h2,fun e=>?_⟩;rcases hgr.at' with h3|h3
 ·exact h2 (h3.symm.trans e)
 ·rw[h3]at e;simp only[an]at e;have:=h1.lt;omega
def ZMB(B:Nat)(w:World)(v:Value)(m:List (List Int)):Prop:=∃a cap,v= .slice a m.length cap/\m.length<=cap/\(m=[]\/∃g,a=some ⟨g,0,none⟩/\B<=g/\g<w.heap.size/\
 ∀(i:Nat) (l:List Int),m[i]?=some l->∃g',w.cell? ⟨g,i,none⟩=some (.slice (some ⟨g',0,none⟩) l.length l.length)/\B<=g'/\IO' w g' l)
theorem ad0(g i:Nat):(⟨g,0,none⟩:Addr).add i=⟨g,i,none⟩:=by unfold Addr.add;split<;>simp_all
theorem kR.zmb{w:World}{base:Nat}{T:TypeId}{v:Value}{gs:Nat->Nat}{n:Nat}{M:Mx.Mat}(h:kR w base T v (rws gs n M.length))(hr:Mx.Rc n M)(hrow:Rows w v gs M M.length)(hbs:∀i,i<M.length->base<=gs i):ZMB base w v M:=by
 obtain⟨h0,h⟩:=h;have hl:(rws gs n M.length).length=M.length:=by simp[rws]
 rcases h with⟨hv',hn⟩|⟨g,cap,cur,rfl,hb,hg,hle,hm,hsz,htk⟩
 ·exact⟨none,0,by rw[hv',show M.length=0 by omega],by omega,.inl (fN aa)⟩
 ·refine⟨_,cap,by rw[hl],by omega,.inr ⟨g,rfl,hb,(gS.1 hg).1,fun i l hi=>?_⟩⟩;have hi2:=(cB.1 hi).1;have hln:l.length=n:=hr l (bj hi);have hrw:Mx.rw M i=l:=Mx.gF hi;refine⟨gs i,?_,hbs i hi2,?_⟩
  ·rw[cell_of_row w g _ cur _ (0,0) hg];have h1:(rws gs n M.length)[i]?=some (.slice (some ⟨gs i,0,none⟩) n n):=by unfold rws;rw[bW,ji hi2];rfl
   rw[<-htk,ik aa,dG]at h1;rw[hln];exact h1
  ·have:=(hrow i hi2).1;rwa[hrw]at this
theorem OK:(Tryz.prog.info? 40).map (fun i=>(i.zero,i.size,i.bytes))=some (some (.slice none 0 0),1,24):=by kernel_rfl
def InL(L:Nat)(M:Mx.Mat):Prop:=∀i j,(Mx.at' M i j).natAbs<=L
open Classical in
def SMQ(w:World)(L:Nat)(M:Mx.Mat)(e:Ending)(w':World):Prop:=(if InL L M then∃v,e= .returned (.tuple #[v,.bool true])/\ZMB w.heap.size w' v M else e= .returned (.tuple #[.slice none 0 0,.bool false]))/\Below w.heap.size w w'
theorem LY{w w':World}{L:Nat}{M:Mx.Mat}{v:Value}(h:InL L M)(hz:ZMB w.heap.size w' v M)(hb:Below w.heap.size w w'):SMQ w L M (.returned (.tuple #[v,.bool true])) w':=
 ⟨by rw[ak h];exact⟨v,rfl,hz⟩,hb⟩
theorem ud{w w':World}{L:Nat}{M:Mx.Mat}(h:¬InL L M)(hb:Below w.heap.size w w'):SMQ w L M (.returned (.tuple #[.slice none 0 0,.bool false])) w':=
 ⟨by rw[ah h],hb⟩
set_option maxRecDepth 10000 in
set_option maxHeartbeats 8000000 in
theorem KB(M:Mx.Mat)(n L:Nat)(v:Value)(hm:M.length<=1000000)(hn:n<=1000000)(hL:L<=1000000000000000000)(hf:∀i j,Fit (Mx.at' M i j))(w:World)(h:MR w v n M):
  Calls Tryz.prog 74 #[v,.int .i64 ((L:Int))] w (SMQ w L M):=by
 obtain⟨a,cap,rfl,_,hr,h4⟩:=h.row;have HRC:Hid (Mx.Rc n M):=hr;have hmk:=MX n aa;have H4:=ae h4;have HF:Hid _:=hf;clear hr h4 h hf;generalize hml:M.length=q at*;have HQ:=ae hml;clear hml
 go_enter Tryz.func74,Tryz.ntmps74
 go_wp2_with fail
 go_loopw [6,16] (fun v6 i wr=>∃(k:Nat) (gs:Nat->Nat),k<=q/\i= .int .i64 ((k:Int))/\Below w.heap.size w wr/\Hid (kR wr w.heap.size 40 v6 (rws gs n k)/\Rows wr v6 gs M k/\(∀i j,i<k->(Mx.at' M i j).natAbs<=L)/\∀i,i<k->w.heap.size<=gs i)) (fun _ i _=>q-(intOf i).toNat)
 case atStart=>
  exact⟨0,id,by omega,rfl,by exact bel,kR.nil _ _ _,fun i hi=>by omega,fun i j hi=>by omega,fun i hi=>by omega⟩
 case round=>
  obtain⟨k,gs,hk,rfl,hB,HR⟩:=hrel;by_cases hkn:k<q
  ·have hkn2:(k:Int)<(q:Int):=by omega
   rcases H4.out with h0|⟨gm,om,ha,hal,hcc⟩
   ·have:=HQ.out;rw[h0]at this;simp at this;omega
   obtain⟨b,c,cz,hza⟩:=hcc k hkn;have cz2:=(hB.cell (p:=⟨gm,om+k,none⟩) hal).trans cz;subst ha;obtain⟨b',c',e',hc',hlen',⟨g,o,rfl⟩,hra⟩:=hza;cases e';have HRA:=ae hra;have hsw:w.heap.size<=wr.heap.size:=hB.size;have HBW:=ae hB;clear hcc hra cz
   go_wp2_with fail
   obtain⟨W1,hW1⟩:∃W,W=wr:=⟨wr,rfl⟩;subst hW1;clear hB
   go_loopw [25] (fun i2 wx=>∃j:Nat,j<=n/\i2= .int .i64 ((j:Int))/\Below W1.heap.size W1 wx/\W1.heap.size<wx.heap.size/\Hid (IO' wx W1.heap.size ((Mx.rw M k).take j++List.replicate ((Mx.rw M k).length-j) 0)/\∀j',j'<j->(Mx.at' M k j').natAbs<=L)) (fun i2 _=>n-(intOf i2).toNat)
   case atStart=>
    refine⟨0,by omega,rfl,by exact bel,by simp,?_,fun j' hj=>by omega⟩;rw[hlen',kC,dv,gj];exact IO'.made _ n
   case round=>
    obtain⟨j,hjn,rfl,hBX,hW1x,HIO⟩:=hrel;have HBX:=ae hBX;have hBWX:=HBW.out.trans (hBX.mono hsw);have HBWX:=ae hBWX;have hsx:w.heap.size<=wr.heap.size:=hBWX.size;by_cases hjk:j<n
    ·have hjk2:(j:Int)<(n:Int):=by omega
     have hz:=getD_some (l:=Mx.rw M k) (k:=j) (by rw[hlen'];exact hjk);have HZ:Hid ((Mx.rw M k)[j]?=some (Mx.at' M k j)):=hz;have hra2:RA wr g o (Mx.rw M k):=by
      rcases HRA.out with h0|⟨g',o',e',h5⟩
      ·omega
      ·cases e';exact h5.below hBWX (af _)
     obtain⟨x,x0,x1,xz⟩:=hra2.c j _ hz;have hgl:g<wr.heap.size:=hra2.lt;have HX:Hid (IZ wr x (Mx.at' M k j)):=xz;have c0:=HIO.out.1.c j 0 (by
      rw[fF (by rw[aP,hlen'];omega),aP,hlen',dp aa,dH,qX,ak aa])
     have f0:=HIO.out.1.fr j;have SM:=ae (fun w hx=>vG x (Mx.at' M k j) (HF.out k j) w hx);obtain⟨xs,xa,xn,xc⟩:=x;simp only[]at x0 x1 SM;clear hz hra2 xz hBX hBWX;by_cases hg:(Mx.at' M k j).natAbs<=L
     ·have hI:I64 (Mx.at' M k j):=by unfold I64;omega
      have SM2:Hid (∀w,IP w ⟨xs,xa,xn,xc⟩ (Mx.at' M k j)->Calls Tryz.prog 120 #[.agg #[.bool ((⟨xs,xa,xn,xc⟩:IV)).s,.slice ((⟨xs,xa,xn,xc⟩:IV)).a ((⟨xs,xa,xn,xc⟩:IV)).n ((⟨xs,xa,xn,xc⟩:IV)).cap]] w fun e w'=>e= .returned (.tuple #[.int .i64 (Mx.at' M k j),.bool true])/\Below w.heap.size w w'):=fun w hx=>(SM.out w hx).mono fun e w' h=>⟨by rw[h.1,vF hI,wg hI],h.2⟩;have t1:¬(L:Int)<Mx.at' M k j:=by omega
      have t2:¬Mx.at' M k j< -(L:Int):=by omega
      have t3:decide ((L:Int)<Mx.at' M k j)=false:=by rw[bN];exact t1
      have t4:decide (Mx.at' M k j< -(L:Int))=false:=by rw[bN];exact t2
      have HG:=ae hg;clear SM hI hg
      go_wp2_with (go_at_call 120;(with_reducible refine(SM2.out _ ?_).mono ?_);(exact(HX.out.below (B:=wr.heap.size) ao (af _)).ip);rintro e w4 ⟨rfl,hb4⟩;have HB4:=ae hb4;obtain⟨g4,rfl⟩:=mob hb4;clear hb4)
      go_roundw
      case rel=>
       have hb4:Below wr.heap.size wr (more (wr.alloc (.cells #[.bool xs,.slice xa xn xc] 62)) g4):=by exact bel
       have h1:=(HIO.out.1.below hb4 (af _)).set (k:=j) (by rw[cI,aP,qY,hlen'];omega) (Mx.at' M k j);have e5:(more (wr.alloc (.cells #[.bool xs,.slice xa xn xc] 62)) g4).setCell ⟨W1.heap.size,j,none⟩ (.int .i64 (Mx.at' M k j))=more ((wr.setCell ⟨W1.heap.size,j,none⟩ (.int .i64 (Mx.at' M k j))).alloc (.cells #[.bool xs,.slice xa xn xc] 62)) g4:=by go_simp
       rw[F6 rfl HZ.out,e5]at h1;have hBX:=HBX.out;refine⟨j+1,by omega,by go_num,by exact bel,?_,h1,fun j' hj=>?_⟩
       ·first|omega|(simp;omega)
       ·by_cases e:j'=j
        ·rw[e];exact HG.out
        ·exact HIO.out.2 j' aa
      case measure=>simp[intOf];omega
     ·have NB:Hid (¬InL L M):=fun h=>hg (h k j);by_cases hI:I64 (Mx.at' M k j)
      ·have SM2:Hid (∀w,IP w ⟨xs,xa,xn,xc⟩ (Mx.at' M k j)->Calls Tryz.prog 120 #[.agg #[.bool ((⟨xs,xa,xn,xc⟩:IV)).s,.slice ((⟨xs,xa,xn,xc⟩:IV)).a ((⟨xs,xa,xn,xc⟩:IV)).n ((⟨xs,xa,xn,xc⟩:IV)).cap]] w fun e w'=>e= .returned (.tuple #[.int .i64 (Mx.at' M k j),.bool true])/\Below w.heap.size w w'):=fun w hx=>(SM.out w hx).mono fun e w' h=>⟨by rw[h.1,vF hI,wg hI],h.2⟩;clear SM hI;by_cases hgt:(L:Int)<Mx.at' M k j
       ·have t3:decide ((L:Int)<Mx.at' M k j)=true:=by rw[cL];exact hgt
        clear hg
        go_wp2_with (go_at_call 120;(with_reducible refine(SM2.out _ ?_).mono ?_);(exact(HX.out.below (B:=wr.heap.size) ao (af _)).ip);rintro e w4 ⟨rfl,hb4⟩;obtain⟨g4,rfl⟩:=mob hb4;clear hb4)
        refine bodyPost_ret (v:=.tuple #[.slice none 0 0,.bool false]) JY rfl (ud NB.out ?_);have hb:=HBWX.out;exact bel
       ·have t3:decide ((L:Int)<Mx.at' M k j)=false:=by rw[bN];exact hgt
        have t2:Mx.at' M k j< -(L:Int):=by omega
        have t4:decide (Mx.at' M k j< -(L:Int))=true:=by rw[cL];exact t2
        clear hg
        go_wp2_with (go_at_call 120;(with_reducible refine(SM2.out _ ?_).mono ?_);(exact(HX.out.below (B:=wr.heap.size) ao (af _)).ip);rintro e w4 ⟨rfl,hb4⟩;obtain⟨g4,rfl⟩:=mob hb4;clear hb4)
        refine bodyPost_ret (v:=.tuple #[.slice none 0 0,.bool false]) JY rfl (ud NB.out ?_);have hb:=HBWX.out;exact bel
      ·have SM2:Hid (∀w,IP w ⟨xs,xa,xn,xc⟩ (Mx.at' M k j)->Calls Tryz.prog 120 #[.agg #[.bool ((⟨xs,xa,xn,xc⟩:IV)).s,.slice ((⟨xs,xa,xn,xc⟩:IV)).a ((⟨xs,xa,xn,xc⟩:IV)).n ((⟨xs,xa,xn,xc⟩:IV)).cap]] w fun e w'=>e= .returned (.tuple #[.int .i64 (0),.bool false])/\Below w.heap.size w w'):=fun w hx=>(SM.out w hx).mono fun e w' h=>⟨by rw[h.1,xm hI,tB hI],h.2⟩;clear SM hI hg
       go_wp2_with (go_at_call 120;(with_reducible refine(SM2.out _ ?_).mono ?_);(exact(HX.out.below (B:=wr.heap.size) ao (af _)).ip);rintro e w4 ⟨rfl,hb4⟩;obtain⟨g4,rfl⟩:=mob hb4;clear hb4)
       refine bodyPost_ret (v:=.tuple #[.slice none 0 0,.bool false]) JY rfl (ud NB.out ?_);have hb:=HBWX.out;exact bel
    ·obtain rfl:j=n:=by omega
     have hjk2:¬(j:Int)<(j:Int):=by omega
     have HL:Hid ((rws gs j k).length<=1000000000):=by show _<=_;simp[rws];omega
     go_wp2_with (at_builtin;go_must (refine xO OK rfl av Tryz.underlying22 rfl (.tmp 53) (.tmp 55) rfl (u:=.slice (some ⟨W1.heap.size,0,none⟩) j j) (ad:=⟨wr.heap.size,0,none⟩) (c:=1) (l:=rws gs j k) (base:=w.heap.size) rfl rfl ?_ HL.out ?_ ?_ rfl ?_);(exact(HR.out.1.low HBX.out).low ao);(focus(first|omega|(simp;omega)));(focus(go_simp));intro v7 w7 hg7;have HG7:=ae hg7;clear hg7)
     go_roundw
     case rel=>
      have hbx:Below W1.heap.size W1 (wr.alloc (.cells #[.slice (some ⟨W1.heap.size,0,none⟩) j j] 40)):=HBX.out.trans ((Below.refl _ _).alloc aa _);have hfull:(Mx.rw M k).take j++List.replicate ((Mx.rw M k).length-j) 0=Mx.rw M k:=by rw[hlen',dH,cj aa];simp
      have h1:=HIO.out.1;rw[hfull]at h1;have h2:=Rows.step HR.out.2.1 hbx (h1.below ((Below.refl wr.heap.size wr).alloc (af _) _) (af _)) (af _) HR.out.1 HG7.out;have hb7:Below w.heap.size w w7:=HG7.out.below ((HR.out.1.low HBX.out).low ((Below.refl wr.heap.size wr).alloc (af _) _)) (HBWX.out.alloc aa _) cX;have h3:=HG7.out.own;rw[<-OI]at h3;refine⟨k+1,_,by omega,by go_num,hb7,h3,h2,fun i j' hi=>?_,fun i hi=>?_⟩
      ·by_cases e:i=k
       ·by_cases e2:j'<j
        ·rw[e];exact HIO.out.2 j' e2
        ·rw[Mx.uU HRC.out aa];simp
       ·exact HR.out.2.2.1 i j' aa
      ·by_cases e:i=k
       ·rw[ak e];exact HBW.out.size
       ·rw[ah e];exact HR.out.2.2.2 i aa
     case measure=>simp[intOf];omega
  ·obtain rfl:k=q:=by omega
   have hkn2:¬(k:Int)<(k:Int):=by omega
   have HI:Hid (InL L M):=fun i j=>by
    by_cases e:i<k
    ·exact HR.out.2.2.1 i j e
    ·rw[Mx.tC wR];simp
   have HZM:Hid (ZMB w.heap.size wr u6 M):=kR.zmb (by rw[HQ.out];exact HR.out.1) HRC.out (by rw[HQ.out];exact HR.out.2.1) (by rw[HQ.out];exact HR.out.2.2.2)
   go_wp2_with fail
   refine bodyPost_ret (v:=.tuple #[u6,.bool true]) JY rfl (LY HI.out HZM.out hB)
end
section
open Go.RowKit Go.BigFrame
attribute [local go_sem ↓] Go.wp_at_zero Go.wp_at_succ
def mapM(f:Int->Int)(M:Mx.Mat):Mx.Mat:=M.map (List.map f)
theorem mu(f:Int->Int)(M:Mx.Mat)(i:Nat):Mx.rw (mapM f M) i=(Mx.rw M i).map f:=by
 unfold Mx.rw mapM;rw[aG,aG,bW];cases M[i]?<;>simp
theorem cG(f:Int->Int)(M:Mx.Mat):(mapM f M).length=M.length:=by simp[mapM]
theorem nU{n:Nat}{f:Int->Int}{M:Mx.Mat}(h:Mx.Rc n M):Mx.Rc n (mapM f M):=fun r hr=>by
 obtain⟨x,hx,rfl⟩:=dw.1 hr;rw[bC];exact h x hx
def fP(k:Nat)(A B:Mx.Mat):Mx.Mat:=A.take k++B.drop k
theorem uo(A B:Mx.Mat):fP 0 A B=B:=by simp[fP]
theorem vO{A B:Mx.Mat}{k:Nat}(h:A.length<=k)(h2:B.length<=k):fP k A B=A:=by
 unfold fP;rw[cj h,lA h2,lz]
theorem vN{A B:Mx.Mat}(h:A.length=B.length)(k:Nat):(fP k A B).length=B.length:=by
 unfold fP;rw[cI,aP,eM];omega
theorem Fb{A B:Mx.Mat}(h:A.length=B.length){k:Nat}(hk:k<B.length):Mx.rw (fP k A B) k=Mx.rw B k:=by
 unfold Mx.rw fP;rw[aG,aG,fF uZ,aP,dp aa,dH,fE,cg]
theorem oT{A B:Mx.Mat}(h:A.length=B.length){k:Nat}(hk:k<B.length):(fP k A B).set k (Mx.rw A k)=fP (k+1) A B:=by
 unfold fP;rw[wV,ah uZ,aP,dp aa,dH,rh hk,dB,mQ,gu (M:=A) aa];simp
theorem MB.A9{w:World}{B B' gm L:Nat}{gs cs:Nat->Nat}{n:Nat}{M:Mx.Mat}(h:MB w B gm L gs cs n M)(hB:B'<=B):MB w B' gm L gs cs n M:=
 ⟨aH hB h.b,h.lt,h.fr,h.hl,h.nw,h.ml,h.rc,fun i hi=>by
  obtain⟨b,h1,h2,hA,h3⟩:=h.hc i hi;exact⟨b,h1,h2,hA,fun h0=>⟨(h3 h0).1,aH hB (h3 h0).2.1,(h3 h0).2.2⟩⟩,h.dj⟩
theorem Ic{f:Int->Int}{zs:List Int}{k:Nat}{z:Int}(h:zs[k]?=some z):(zs.map f)[k]?=some (f z):=by rw[bW,h];rfl
set_option maxRecDepth 10000 in
set_option maxHeartbeats 8000000 in
theorem Tr(M:Mx.Mat)(n:Nat)(v:Value)(K:IV)(kz:Int)(hm:M.length<=1000000)(hn:n<=1000000)(fk:Fit kz)(hf:∀i j,Fit (Mx.at' M i j))(w:World)(h:MR w v n M)(hk:IZ w K kz):
  Calls Tryz.prog 100 #[v,.agg #[.bool K.s,.slice K.a K.n K.cap]] w (oL w n (mapM (fun z=>kz*z) M)):=by
 have CL:=ae (fun w h=>pJ M n v hm hn w h);have H:=ae h;have HK:=ae hk;have HF:Hid _:=hf;have FK:=ae fk;obtain⟨hRC,a,cap,rfl⟩:Mx.Rc n M/\∃a cap,v= .slice a M.length cap:=by obtain⟨a,cap,h1,_,h3,_⟩:=h;exact⟨h3,a,cap,h1⟩
 have RC:=ae hRC;obtain⟨ks,ka,kn,kc⟩:=K;clear h hk hf fk hRC;generalize hml:M.length=q at*;have HQ:=ae hml;clear hml
 go_enter Tryz.func100,Tryz.ntmps100
 go_wp2_with (go_at_call 156;(with_reducible refine(CL.out _ ?_).mono ?_);(exact H.out.below (B:=w.heap.size) ao (af _));rintro e w4 ⟨⟨gm,gs,cs,cp,rfl,hcp,hmb⟩,hb4⟩;rw[HQ.out]at hcp hmb⊢;have HM4:=ae hmb;have HB4:=ae hb4;clear hb4 hmb)
 have hs0:(w.alloc (.cells #[.bool ks,.slice ka kn kc] 62)).heap.size=w.heap.size+1:=by simp
 have HB0:Hid (Below w.heap.size w w4):=Below.trans (b:=w.alloc (.cells #[.bool ks,.slice ka kn kc] 62)) ao (HB4.out.mono aa);have b0:w4.cell? ⟨w.heap.size,0,none⟩=some (.bool ks):=(HB4.out.cell (p:=⟨w.heap.size,0,none⟩) JW).trans (by go_simp);have b1:w4.cell? ⟨w.heap.size,1,none⟩=some (.slice ka kn kc):=(HB4.out.cell (p:=⟨w.heap.size,1,none⟩) JW).trans (by go_simp);have HM5:Hid (MB w4 (w.heap.size+1) gm q gs cs n M):=by have:=HM4.out;rw[hs0]at this;exact this
 have hw4:w.heap.size<w4.heap.size:=by have:=HM5.out.b;have:=HM5.out.lt;omega
 have HK4:=ae (HK.out.below HB0.out (af _));have ML:=ae (cG (fun z=>kz*z) M);clear HM4 HB4 hs0
 go_loopw [14] (fun i wr=>∃k:Nat,k<=q/\i= .int .i64 ((k:Int))/\Hid (Below (w.heap.size+1) w4 wr)/\Hid (MB wr (w.heap.size+1) gm q gs cs n (fP k (mapM (fun z=>kz*z) M) M))) (fun i _=>q-(intOf i).toNat)
 case atStart=>exact⟨0,by omega,rfl,Below.refl _ _,by show MB _ _ _ _ _ _ _ _;rw[uo];exact HM5.out⟩
 case round=>
  obtain⟨k,hk,rfl,HB,HR⟩:=hrel;by_cases hkn:k<q
  ·have hkn2:(k:Int)<(q:Int):=by omega
   have hpl:(fP k (mapM (fun z=>kz*z) M) M).length=q:=by rw[vN ML.out,HQ.out]
   obtain⟨b,cz,hc,_,hrow⟩:=HR.out.hc k (by rw[hpl];exact hkn);have hgl:gm<wr.heap.size:=HR.out.lt;have HRW:=ae (Fb (A:=mapM (fun z=>kz*z) M) (B:=M) ML.out (k:=k) jz);by_cases hn0:n=0
   ·subst hn0;clear hrow
    go_wp2_with fail
    refine wp_loop_rounds 1 ?_;rw[rounds_succ]
    go_wp2_with fail
    go_roundw
    case rel=>
     refine⟨k+1,by omega,by go_num,HB.out,?_⟩;have h1:=HR.out;have hset:=oT (A:=mapM (fun z=>kz*z) M) (B:=M) ML.out (k:=k) jz;have hz:Mx.rw (mapM (fun z=>kz*z) M) k=Mx.rw (fP k (mapM (fun z=>kz*z) M) M) k:=by
      rw[HRW.out,mu];have:=RC.out.rw (i:=k) jz;rw[fN this];rfl
     rw[hz,Mx.zK]at hset;show MB _ _ _ _ _ _ _ _;rw[<-hset];exact h1
    case measure=>simp[intOf];omega
   ·obtain⟨rfl,hBg,hgne,hro⟩:=hrow aa;rw[HRW.out]at hro;have HRO:=ae hro;have hlen:(Mx.rw M k).length=n:=RC.out.rw jz;have hnw:Hid (NW wr (gs k)):=hro.nw (fun e=>by rw[e]at hlen;simp at hlen;omega);have hgk:gs k<wr.heap.size:=hro.lt;have hwr:w.heap.size<wr.heap.size:=aS hw4 HB.out.size;have d0:=(HB.out.cell (p:=⟨w.heap.size,0,none⟩) (gV _)).trans b0;have d1:=(HB.out.cell (p:=⟨w.heap.size,1,none⟩) (gV _)).trans b1;have HK5:=ae (HK.out.below (HB0.out.trans (HB.out.mono (jJ _))) (af _));obtain⟨W1,hW1⟩:∃W,W=wr:=⟨wr,rfl⟩;subst hW1;clear hrow hro
    go_wp2_with fail
    go_loopw [20] (fun i2 wx=>∃j:Nat,j<=n/\i2= .int .i64 ((j:Int))/\Hid (Chg (gs k) W1 wx)/\Hid (RO wx (gs k) (part j ((Mx.rw M k).map (fun z=>kz*z)) (Mx.rw M k)))) (fun i2 _=>n-(intOf i2).toNat)
    case atStart=>exact⟨0,by omega,rfl,Chg.refl _ _,by show RO _ _ _;rw[rD];exact HRO.out⟩
    case round=>
     obtain⟨j,hjn,rfl,HC,HX⟩:=hrel;have hlm:((Mx.rw M k).map (fun z=>kz*z)).length=(Mx.rw M k).length:=bC _;by_cases hjk:j<n
     ·have hjk2:(j:Int)<(n:Int):=by omega
      have hz:=getD_some (l:=Mx.rw M k) (k:=j) (by rw[hlen];exact hjk);have HZ:Hid ((Mx.rw M k)[j]?=some (Mx.at' M k j)):=hz;obtain⟨x,cx0,cx1,hxz,f0,f1⟩:=HX.out.at (k:=j) (z:=Mx.at' M k j) (by rw[tg hlm (by rw[hlen];exact hjk)];exact hz);have HXZ:=ae hxz;have HKX:=ae (HK5.out.chg HC.out hnw.out);have FX:=ae (HF.out k j);have hgx:gs k<wr.heap.size:=HX.out.lt;have hwx:w.heap.size<wr.heap.size:=aS hwr HC.out.size;have e0:=(HC.out.cell (o:=0) hwr aa).trans d0;have e1:=(HC.out.cell (o:=1) hwr aa).trans d1;obtain⟨xs,xa,xn,xc⟩:=x;simp only[]at cx0 cx1;clear hz hxz d0 d1
      go_wp2_with (go_at_call 117;(with_reducible refine(iA ⟨ks,ka,kn,kc⟩ ⟨xs,xa,xn,xc⟩ kz (Mx.at' M k j) FK.out FX.out _ ((HKX.out.below (B:=wr.heap.size) ao (af _)).ip) ((HXZ.out.below (B:=wr.heap.size) ao (af _)).ip)).mono ?_);rintro e w5 ⟨⟨y,rfl,hy⟩,hb5⟩;have HY:=ae hy;clear hy;obtain⟨g5,rfl⟩:=mob hb5;clear hb5)
      go_roundw
      case rel=>
       have hb5:Below wr.heap.size wr (more (wr.alloc (.cells #[.bool xs,.slice xa xn xc] 62)) g5):=by exact bel
       have h1:=(HX.out.below hb5 (af _)).set (k:=j) (by rw[qt hlm,hlen];exact hjk) HY.out;rw[nO hlm (Ic HZ.out)]at h1;have h2:=lX ((HC.out.alloc (.cells #[.bool xs,.slice xa xn xc] 62)).mor g5) j y;have e5:dY (more (wr.alloc (.cells #[.bool xs,.slice xa xn xc] 62)) g5) (gs k) j y=more ((dY wr (gs k) j y).alloc (.cells #[.bool xs,.slice xa xn xc] 62)) g5:=by unfold dY;go_simp
       rw[e5]at h1 h2;exact⟨j+1,by omega,by go_num,h2,h1⟩
      case measure=>simp[intOf];omega
     ·obtain rfl:j=n:=by omega
      have hjk2:¬(j:Int)<(j:Int):=by omega
      go_wp2_with fail
      go_roundw
      case rel=>
       have h1:=HX.out;rw[qu (by rw[hlm,hlen];exact af _) (by rw[hlen];exact af _),<-mu]at h1;have hmo:=(HR.out.mo aa).setRow (i:=k) (by rw[hpl];exact hkn) (zs:=Mx.rw (mapM (fun z=>kz*z) M) k) (by rw[mu,hlm,hlen]) HC.out h1;rw[oT ML.out jz]at hmo;exact⟨k+1,by omega,by go_num,HC.out.below HB.out aa aa,hmo.mb⟩
      case measure=>simp[intOf];omega
  ·obtain rfl:k=q:=by omega
   have hkn2:¬(k:Int)<(k:Int):=by omega
   go_wp2_with fail
   go_ret
   have h1:=HR.out;rw[vO (by rw[ML.out,HQ.out];exact af _) AZ]at h1;exact⟨⟨gm,gs,cs,cp,by rw[cG,HQ.out];rfl,by rw[cG,HQ.out];exact hcp,by rw[cG,HQ.out];exact h1.A9 (jJ _)⟩,HB0.out.trans (HB.out.mono (jJ _))⟩
set_option maxRecDepth 10000 in
set_option maxHeartbeats 8000000 in
theorem MP(M:Mx.Mat)(n:Nat)(v:Value)(K:IV)(kz:Int)(hm:M.length<=1000000)(hn:n<=1000000)(fk:Fit kz)(hf:∀i j,Fit (Mx.at' M i j))(w:World)(h:MR w v n M)(hk:IZ w K kz):
  Calls Tryz.prog 119 #[v,.agg #[.bool K.s,.slice K.a K.n K.cap]] w (oL w n (mapM (fun z=>z/kz) M)):=by
 have CL:=ae (fun w h=>pJ M n v hm hn w h);have H:=ae h;have HK:=ae hk;have HF:Hid _:=hf;have FK:=ae fk;obtain⟨hRC,a,cap,rfl⟩:Mx.Rc n M/\∃a cap,v= .slice a M.length cap:=by obtain⟨a,cap,h1,_,h3,_⟩:=h;exact⟨h3,a,cap,h1⟩
 have RC:=ae hRC;obtain⟨ks,ka,kn,kc⟩:=K;clear h hk hf fk hRC;generalize hml:M.length=q at*;have HQ:=ae hml;clear hml
 go_enter Tryz.func119,Tryz.ntmps119
 go_wp2_with (go_at_call 156;(with_reducible refine(CL.out _ ?_).mono ?_);(exact H.out.below (B:=w.heap.size) ao (af _));rintro e w4 ⟨⟨gm,gs,cs,cp,rfl,hcp,hmb⟩,hb4⟩;rw[HQ.out]at hcp hmb⊢;have HM4:=ae hmb;have HB4:=ae hb4;clear hb4 hmb)
 have hs0:(w.alloc (.cells #[.bool ks,.slice ka kn kc] 62)).heap.size=w.heap.size+1:=by simp
 have HB0:Hid (Below w.heap.size w w4):=Below.trans (b:=w.alloc (.cells #[.bool ks,.slice ka kn kc] 62)) ao (HB4.out.mono aa);have b0:w4.cell? ⟨w.heap.size,0,none⟩=some (.bool ks):=(HB4.out.cell (p:=⟨w.heap.size,0,none⟩) JW).trans (by go_simp);have b1:w4.cell? ⟨w.heap.size,1,none⟩=some (.slice ka kn kc):=(HB4.out.cell (p:=⟨w.heap.size,1,none⟩) JW).trans (by go_simp);have HM5:Hid (MB w4 (w.heap.size+1) gm q gs cs n M):=by have:=HM4.out;rw[hs0]at this;exact this
 have hw4:w.heap.size<w4.heap.size:=by have:=HM5.out.b;have:=HM5.out.lt;omega
 have HK4:=ae (HK.out.below HB0.out (af _));have ML:=ae (cG (fun z=>z/kz) M);clear HM4 HB4 hs0
 go_loopw [14] (fun i wr=>∃k:Nat,k<=q/\i= .int .i64 ((k:Int))/\Hid (Below (w.heap.size+1) w4 wr)/\Hid (MB wr (w.heap.size+1) gm q gs cs n (fP k (mapM (fun z=>z/kz) M) M))) (fun i _=>q-(intOf i).toNat)
 case atStart=>exact⟨0,by omega,rfl,Below.refl _ _,by show MB _ _ _ _ _ _ _ _;rw[uo];exact HM5.out⟩
 case round=>
  obtain⟨k,hk,rfl,HB,HR⟩:=hrel;by_cases hkn:k<q
  ·have hkn2:(k:Int)<(q:Int):=by omega
   have hpl:(fP k (mapM (fun z=>z/kz) M) M).length=q:=by rw[vN ML.out,HQ.out]
   obtain⟨b,cz,hc,_,hrow⟩:=HR.out.hc k (by rw[hpl];exact hkn);have hgl:gm<wr.heap.size:=HR.out.lt;have HRW:=ae (Fb (A:=mapM (fun z=>z/kz) M) (B:=M) ML.out (k:=k) jz);by_cases hn0:n=0
   ·subst hn0;clear hrow
    go_wp2_with fail
    refine wp_loop_rounds 1 ?_;rw[rounds_succ]
    go_wp2_with fail
    go_roundw
    case rel=>
     refine⟨k+1,by omega,by go_num,HB.out,?_⟩;have h1:=HR.out;have hset:=oT (A:=mapM (fun z=>z/kz) M) (B:=M) ML.out (k:=k) jz;have hz:Mx.rw (mapM (fun z=>z/kz) M) k=Mx.rw (fP k (mapM (fun z=>z/kz) M) M) k:=by
      rw[HRW.out,mu];have:=RC.out.rw (i:=k) jz;rw[fN this];rfl
     rw[hz,Mx.zK]at hset;show MB _ _ _ _ _ _ _ _;rw[<-hset];exact h1
    case measure=>simp[intOf];omega
   ·obtain⟨rfl,hBg,hgne,hro⟩:=hrow aa;rw[HRW.out]at hro;have HRO:=ae hro;have hlen:(Mx.rw M k).length=n:=RC.out.rw jz;have hnw:Hid (NW wr (gs k)):=hro.nw (fun e=>by rw[e]at hlen;simp at hlen;omega);have hgk:gs k<wr.heap.size:=hro.lt;have hwr:w.heap.size<wr.heap.size:=aS hw4 HB.out.size;have d0:=(HB.out.cell (p:=⟨w.heap.size,0,none⟩) (gV _)).trans b0;have d1:=(HB.out.cell (p:=⟨w.heap.size,1,none⟩) (gV _)).trans b1;have HK5:=ae (HK.out.below (HB0.out.trans (HB.out.mono (jJ _))) (af _));obtain⟨W1,hW1⟩:∃W,W=wr:=⟨wr,rfl⟩;subst hW1;clear hrow hro
    go_wp2_with fail
    go_loopw [20] (fun i2 wx=>∃j:Nat,j<=n/\i2= .int .i64 ((j:Int))/\Hid (Chg (gs k) W1 wx)/\Hid (RO wx (gs k) (part j ((Mx.rw M k).map (fun z=>z/kz)) (Mx.rw M k)))) (fun i2 _=>n-(intOf i2).toNat)
    case atStart=>exact⟨0,by omega,rfl,Chg.refl _ _,by show RO _ _ _;rw[rD];exact HRO.out⟩
    case round=>
     obtain⟨j,hjn,rfl,HC,HX⟩:=hrel;have hlm:((Mx.rw M k).map (fun z=>z/kz)).length=(Mx.rw M k).length:=bC _;by_cases hjk:j<n
     ·have hjk2:(j:Int)<(n:Int):=by omega
      have hz:=getD_some (l:=Mx.rw M k) (k:=j) (by rw[hlen];exact hjk);have HZ:Hid ((Mx.rw M k)[j]?=some (Mx.at' M k j)):=hz;obtain⟨x,cx0,cx1,hxz,f0,f1⟩:=HX.out.at (k:=j) (z:=Mx.at' M k j) (by rw[tg hlm (by rw[hlen];exact hjk)];exact hz);have HXZ:=ae hxz;have HKX:=ae (HK5.out.chg HC.out hnw.out);have FX:=ae (HF.out k j);have hgx:gs k<wr.heap.size:=HX.out.lt;have hwx:w.heap.size<wr.heap.size:=aS hwr HC.out.size;have e0:=(HC.out.cell (o:=0) hwr aa).trans d0;have e1:=(HC.out.cell (o:=1) hwr aa).trans d1;obtain⟨xs,xa,xn,xc⟩:=x;simp only[]at cx0 cx1;clear hz hxz d0 d1
      go_wp2_with (go_at_call 121;(with_reducible refine(gX ⟨xs,xa,xn,xc⟩ ⟨ks,ka,kn,kc⟩ (Mx.at' M k j) kz FX.out FK.out _ ((HXZ.out.below (B:=wr.heap.size) ao (af _)).ip) ((HKX.out.below (B:=wr.heap.size) ao (af _)).ip)).mono ?_);rintro e w5 ⟨⟨y,rfl,hy⟩,hb5⟩;have HY:=ae hy;clear hy;obtain⟨g5,rfl⟩:=mob hb5;clear hb5)
      go_roundw
      case rel=>
       have hb5:Below wr.heap.size wr (more (wr.alloc (.cells #[.bool xs,.slice xa xn xc] 62)) g5):=by exact bel
       have h1:=(HX.out.below hb5 (af _)).set (k:=j) (by rw[qt hlm,hlen];exact hjk) HY.out;rw[nO hlm (Ic HZ.out)]at h1;have h2:=lX ((HC.out.alloc (.cells #[.bool xs,.slice xa xn xc] 62)).mor g5) j y;have e5:dY (more (wr.alloc (.cells #[.bool xs,.slice xa xn xc] 62)) g5) (gs k) j y=more ((dY wr (gs k) j y).alloc (.cells #[.bool xs,.slice xa xn xc] 62)) g5:=by unfold dY;go_simp
       rw[e5]at h1 h2;exact⟨j+1,by omega,by go_num,h2,h1⟩
      case measure=>simp[intOf];omega
     ·obtain rfl:j=n:=by omega
      have hjk2:¬(j:Int)<(j:Int):=by omega
      go_wp2_with fail
      go_roundw
      case rel=>
       have h1:=HX.out;rw[qu (by rw[hlm,hlen];exact af _) (by rw[hlen];exact af _),<-mu]at h1;have hmo:=(HR.out.mo aa).setRow (i:=k) (by rw[hpl];exact hkn) (zs:=Mx.rw (mapM (fun z=>z/kz) M) k) (by rw[mu,hlm,hlen]) HC.out h1;rw[oT ML.out jz]at hmo;exact⟨k+1,by omega,by go_num,HC.out.below HB.out aa aa,hmo.mb⟩
      case measure=>simp[intOf];omega
  ·obtain rfl:k=q:=by omega
   have hkn2:¬(k:Int)<(k:Int):=by omega
   go_wp2_with fail
   go_ret
   have h1:=HR.out;rw[vO (by rw[ML.out,HQ.out];exact af _) AZ]at h1;exact⟨⟨gm,gs,cs,cp,by rw[cG,HQ.out];rfl,by rw[cG,HQ.out];exact hcp,by rw[cG,HQ.out];exact h1.A9 (jJ _)⟩,HB0.out.trans (HB.out.mono (jJ _))⟩
end
section
open Go.RowKit Go.BigFrame
attribute [local go_sem ↓] Go.wp_at_zero Go.wp_at_succ
def gR(row:List Int)(z:Int):Int:=row.foldl (fun a x=>((Int.gcd a x:Nat):Int)) z
def gM(M:Mx.Mat)(z:Int):Int:=M.foldl (fun a r=>gR r a) z
theorem Iq{row:List Int}{j:Nat}{x:Int}(h:row[j]?=some x)(z:Int):gR (row.take (j+1)) z=((Int.gcd (gR (row.take j) z) x:Nat):Int):=by
 unfold gR;rw[mQ,h,List.foldl_append];rfl
theorem Ir{M:Mx.Mat}{k:Nat}{r:List Int}(h:M[k]?=some r)(z:Int):gM (M.take (k+1)) z=gR r (gM (M.take k) z):=by
 unfold gM;rw[mQ,h,List.foldl_append];rfl
theorem TF{a b:Int}(fa:Fit a)(fb:Fit b):Fit ((Int.gcd a b:Nat):Int):=by
 by_cases h:a=0
 ·subst h;rw[Int.gcd_zero_left];obtain⟨n,hn,hv⟩:=fb;exact⟨n,hn,by rw[gU];exact hv⟩
 ·obtain⟨n,hn,hv⟩:=fa;refine⟨n,hn,gi ?_ hv⟩;rw[gU];have:Int.gcd a b∣a.natAbs:=Int.gcd_dvd_natAbs_left a b;exact Nat.le_of_dvd aa this
theorem Nq{row:List Int}(hr:∀x∈row,Fit x){z:Int}(hz:Fit z):Fit (gR row z):=by
 induction row generalizing z with
 |nil=>exact hz
 |cons x l ih=>
  exact ih (fun y hy=>hr y (bJ _ hy)) (TF hz (hr x bF))
theorem Nr{M:Mx.Mat}(hM:∀r∈M,∀x∈r,Fit x){z:Int}(hz:Fit z):Fit (gM M z):=by
 induction M generalizing z with
 |nil=>exact hz
 |cons r M ih=>exact ih (fun y hy=>hM y (bJ _ hy)) (Nq (hM r bF) hz)
theorem Tq{M:Mx.Mat}(h:∀i j,Fit (Mx.at' M i j)):∀r∈M,∀x∈r,Fit x:=fun r hr x hx=>by
 obtain⟨i,hi⟩:=sK hr;obtain⟨j,hj⟩:=sK hx;have:=h i j;unfold Mx.at' at this;rw[Mx.gF hi,qE hj]at this;exact this
def nE(W0 wr:World)(b:Nat)(z:Int):Prop:=Chg b W0 wr/\(∀k,wr.frozen? ⟨b,k,none⟩=false)/\b<wr.heap.size/\∃y:IV,wr.cell? ⟨b,0,none⟩=some (.bool y.s)/\wr.cell? ⟨b,1,none⟩=some (.slice y.a y.n y.cap)/\IZ wr y z
theorem nE.below{W0 w w':World}{b:Nat}{z:Int}(h:nE W0 w b z)(hb:Below w.heap.size w w'):nE W0 w' b z:=by
 obtain⟨h1,h2,h3,y,h4,h5,h6⟩:=h;exact⟨h1.trans (Chg.of hb),fun k=>(hb.frozen (p:=⟨b,k,none⟩) h3).trans (h2 k),aS h3 hb.size,y,(hb.cell (p:=⟨b,0,none⟩) h3).trans h4,(hb.cell (p:=⟨b,1,none⟩) h3).trans h5,h6.below hb (af _)⟩
theorem nE.set{W0 w:World}{b:Nat}{z z':Int}(h:nE W0 w b z){y:IV}(hz:IZ w y z'):nE W0 ((w.setCell ⟨b,0,none⟩ (.bool y.s)).setCell ⟨b,1,none⟩ (.slice y.a y.n y.cap)) b z':=by
 obtain⟨h1,h2,h3,x,h4,h5,_⟩:=h;have s0:=ew w b 0 (.bool y.s) _ h4;refine⟨(h1.set b 0 _ (.inl rfl)).set b 1 _ (.inl rfl),fun k=>by rw[World.frozen?_setCell,World.frozen?_setCell];exact h2 k,by simpa using h3,y,?_,?_,?_⟩
 ·rw[dm _ _ _ _ _ aa];exact s0
 ·exact ew _ _ _ _ _ ((dm _ _ _ _ _ aa).trans h5)
 ·exact(hz.off (Off.set w b 0 _) h4).off (Off.set _ b 1 _) s0
theorem nE.nw{W0 w:World}{b:Nat}{z:Int}(h:nE W0 w b z):NW w b:=fun n e=>by
 obtain⟨_,_,_,y,h4,_⟩:=h;rw[h4]at e;cases e
def rInt(w:World)(z:Int)(e:Ending)(w':World):Prop:=(∃y,e= .returned (.agg #[.bool y.s,.slice y.a y.n y.cap])/\IZ w' y z)/\Below w.heap.size w w'
set_option maxRecDepth 10000 in
set_option maxHeartbeats 8000000 in
theorem Fq(M:Mx.Mat)(n:Nat)(v:Value)(K:IV)(kz:Int)(hm:M.length<=1000000)(hn:n<=1000000)(fk:Fit kz)(hf:∀i j,Fit (Mx.at' M i j))(w:World)(h:MR w v n M)(hk:IZ w K kz):
  Calls Tryz.prog 118 #[v,.agg #[.bool K.s,.slice K.a K.n K.cap]] w (rInt w (gM M kz)):=by
 obtain⟨a,cap,rfl,_,hr,h4⟩:=h.row;have HRC:Hid (Mx.Rc n M):=hr;have H4:=ae h4;have HF:Hid _:=hf;have HMF:=ae (Tq hf);have FK:=ae fk;have HK:=ae hk;obtain⟨ks,ka,kn,kc⟩:=K;clear hr h4 h hf fk hk;generalize hml:M.length=q at*;have HQ:=ae hml;clear hml
 go_enter Tryz.func118,Tryz.ntmps118
 go_wp2_with fail
 have hB0:Below w.heap.size w ((w.alloc (.cells #[.bool ks,.slice ka kn kc] 62)).alloc (.cells #[.bool false,.slice none 0 0] 62)):=by exact bel
 have hs0:((w.alloc (.cells #[.bool ks,.slice ka kn kc] 62)).alloc (.cells #[.bool false,.slice none 0 0] 62)).heap.size=w.heap.size+2:=by simp
 have b0:((w.alloc (.cells #[.bool ks,.slice ka kn kc] 62)).alloc (.cells #[.bool false,.slice none 0 0] 62)).cell? ⟨w.heap.size,0,none⟩=some (.bool ks):=by go_simp
 have b1:((w.alloc (.cells #[.bool ks,.slice ka kn kc] 62)).alloc (.cells #[.bool false,.slice none 0 0] 62)).cell? ⟨w.heap.size,1,none⟩=some (.slice ka kn kc):=by go_simp
 have r0:((w.alloc (.cells #[.bool ks,.slice ka kn kc] 62)).alloc (.cells #[.bool false,.slice none 0 0] 62)).cell? ⟨w.heap.size+1,0,none⟩=some (.bool false):=by go_simp
 have r1:((w.alloc (.cells #[.bool ks,.slice ka kn kc] 62)).alloc (.cells #[.bool false,.slice none 0 0] 62)).cell? ⟨w.heap.size+1,1,none⟩=some (.slice none 0 0):=by go_simp
 have z0:∀k,((w.alloc (.cells #[.bool ks,.slice ka kn kc] 62)).alloc (.cells #[.bool false,.slice none 0 0] 62)).frozen? ⟨w.heap.size,k,none⟩=false:=fun k=>by go_simp
 have z1:∀k,((w.alloc (.cells #[.bool ks,.slice ka kn kc] 62)).alloc (.cells #[.bool false,.slice none 0 0] 62)).frozen? ⟨w.heap.size+1,k,none⟩=false:=fun k=>by go_simp
 have hBX:nE ((w.alloc (.cells #[.bool ks,.slice ka kn kc] 62)).alloc (.cells #[.bool false,.slice none 0 0] 62)) ((w.alloc (.cells #[.bool ks,.slice ka kn kc] 62)).alloc (.cells #[.bool false,.slice none 0 0] 62)) w.heap.size kz:=
  ⟨Chg.refl _ _,z0,by omega,⟨ks,ka,kn,kc⟩,b0,b1,HK.out.below hB0 (af _)⟩
 generalize(w.alloc (.cells #[.bool ks,.slice ka kn kc] 62)).alloc (.cells #[.bool false,.slice none 0 0] 62)=W0 at*;have HBX:=ae hBX;have HB0:=ae hB0;have HNW:Hid (NW W0 w.heap.size):=hBX.nw;clear hBX b0 b1 z0 hB0
 go_loopw [11] (fun i wr=>∃k:Nat,k<=q/\i= .int .i64 ((k:Int))/\Hid (nE W0 wr w.heap.size (gM (M.take k) kz))) (fun i _=>q-(intOf i).toNat)
 case atStart=>exact⟨0,by omega,rfl,HBX.out⟩
 case round=>
  obtain⟨k,hk,rfl,HR⟩:=hrel;have hsw:W0.heap.size<=wr.heap.size:=HR.out.1.size;by_cases hkn:k<q
  ·have hkn2:(k:Int)<(q:Int):=by omega
   rcases H4.out with h0|⟨gm,om,ha,hal,hcc⟩
   ·have:=HQ.out;rw[h0]at this;simp at this;omega
   obtain⟨b,c,cz,hza⟩:=hcc k hkn;have cz2:=(HR.out.1.cell (b:=gm) (o:=om+k) aa aa).trans ((HB0.out.cell (p:=⟨gm,om+k,none⟩) hal).trans cz);subst ha;obtain⟨b',c',e',hc',hlen',⟨g,o,rfl⟩,hra⟩:=hza;cases e';have HRA:=ae hra;have HP:=ae (Ir (M:=M) (k:=k) (gu jz) kz);have HRF:Hid (∀x∈Mx.rw M k,Fit x):=HMF.out _ (bj (gu jz));have FG:Hid (Fit (gM (M.take k) kz)):=Nr (fun r hr=>HMF.out r (tU hr)) FK.out;have HR0:=ae HR.out;have hgmr:gm<wr.heap.size:=by omega
   generalize gM (M.take k) kz=zk at*;clear hcc hra cz HR
   go_wp2_with fail
   go_loopw [17] (fun i2 wx=>∃j:Nat,j<=n/\i2= .int .i64 ((j:Int))/\Hid (nE W0 wx w.heap.size (gR ((Mx.rw M k).take j) zk))) (fun i2 _=>n-(intOf i2).toNat)
   case atStart=>exact⟨0,by omega,rfl,HR0.out⟩
   case round=>
    obtain⟨j,hjn,rfl,HX⟩:=hrel;have hsx:W0.heap.size<=wr.heap.size:=HX.out.1.size;by_cases hjk:j<n
    ·have hjk2:(j:Int)<(n:Int):=by omega
     have hz:=getD_some (l:=Mx.rw M k) (k:=j) (by rw[hlen'];exact hjk);have HPX:=ae (Iq hz zk);have FX:Hid (Fit (Mx.at' M k j)):=HF.out k j;have FG2:Hid (Fit (gR ((Mx.rw M k).take j) zk)):=Nq (fun x hx=>HRF.out x (tU hx)) FG.out;have hra2:RA wr g o (Mx.rw M k)/\g<w.heap.size:=by
      rcases HRA.out with h0|⟨g',o',e',h5⟩
      ·omega
      ·cases e';have:=h5.lt;exact⟨(h5.below HB0.out (af _)).chg HX.out.1 HNW.out aa,this⟩
     obtain⟨x,x0,x1,xz⟩:=hra2.1.c j _ hz;have hgl:g<wr.heap.size:=hra2.1.lt;have HXZ:Hid (IZ wr x (Mx.at' M k j)):=xz;obtain⟨_,fz,hbl,y,y0,y1,yz⟩:=HX.out;have HYZ:=ae yz;have f0:=fz 0;have f1:=fz 1;obtain⟨xs,xa,xn,xc⟩:=x;obtain⟨ys,ya,yn,yc⟩:=y;simp only[]at x0 x1 y0 y1;clear hz hra2 xz yz fz
     go_wp2_with (go_at_call 165;(with_reducible refine(Ip ⟨ys,ya,yn,yc⟩ ⟨xs,xa,xn,xc⟩ _ (Mx.at' M k j) FG2.out FX.out _ ((HYZ.out.below (B:=wr.heap.size) ao (af _)).ip) ((HXZ.out.below (B:=wr.heap.size) ao (af _)).ip)).mono ?_);rintro e w5 ⟨⟨u,rfl,hu⟩,hb5⟩;have HU:=ae hu;clear hu;obtain⟨g5,rfl⟩:=mob hb5;clear hb5)
     go_roundw
     case rel=>
      have h1:=(HX.out.below (w':=more (wr.alloc (.cells #[.bool xs,.slice xa xn xc] 62)) g5) ao).set HU.out;have e5:((more (wr.alloc (.cells #[.bool xs,.slice xa xn xc] 62)) g5).setCell ⟨w.heap.size,0,none⟩ (.bool u.s)).setCell ⟨w.heap.size,1,none⟩ (.slice u.a u.n u.cap)=more (((wr.setCell ⟨w.heap.size,0,none⟩ (.bool u.s)).setCell ⟨w.heap.size,1,none⟩ (.slice u.a u.n u.cap)).alloc (.cells #[.bool xs,.slice xa xn xc] 62)) g5:=by go_simp
      have h2:((Int.gcd (gR ((Mx.rw M k).take j) zk) (Mx.at' M k j):Nat):Int)=gR ((Mx.rw M k).take (j+1)) zk:=HPX.out.symm;rw[e5,h2]at h1;exact⟨j+1,by omega,by go_num,h1⟩
     case measure=>simp[intOf];omega
    ·obtain rfl:j=n:=by omega
     have hjk2:¬(j:Int)<(j:Int):=by omega
     go_wp2_with fail
     go_roundw
     case rel=>
      have h1:=HX.out;rw[cj aa,<-HP.out]at h1;exact⟨k+1,by omega,by go_num,h1⟩
     case measure=>simp[intOf];omega
  ·obtain rfl:k=q:=by omega
   have hkn2:¬(k:Int)<(k:Int):=by omega
   have h1:=HR.out;rw[cj AZ]at h1;obtain⟨hch,_,hbl,y,y0,y1,yz⟩:=h1;have HYZ:=ae yz;have HCH:=ae hch;have q0:=(hch.cell (b:=w.heap.size+1) (o:=0) aa aa).trans r0;have q1:=(hch.cell (b:=w.heap.size+1) (o:=1) aa aa).trans r1;have q2:=(hch.frozen (b:=w.heap.size+1) (o:=0) aa aa).trans (z1 0);have q3:=(hch.frozen (b:=w.heap.size+1) (o:=1) aa aa).trans (z1 1);have q4:w.heap.size+1<wr.heap.size:=by omega
   obtain⟨ys,ya,yn,yc⟩:=y;simp only[]at y0 y1;clear yz hch HR r0 r1 z1
   go_wp2_with fail
   refine bodyPost_ret (v:=.agg #[.bool ((⟨ys,ya,yn,yc⟩:IV)).s,.slice ((⟨ys,ya,yn,yc⟩:IV)).a ((⟨ys,ya,yn,yc⟩:IV)).n ((⟨ys,ya,yn,yc⟩:IV)).cap]) (by simp[results,Tryz.results118,go_sem,q0,q1]) rfl ⟨⟨⟨ys,ya,yn,yc⟩,rfl,?_⟩,?_⟩
   ·refine(HYZ.out.off (Off.set wr (w.heap.size+1) 0 _) q0).off (Off.set _ (w.heap.size+1) 1 _) (c:=ys) ?_;exact ew _ _ _ _ _ q0
   ·have hb:=HCH.out.below HB0.out (af _) aa;exact bel
end
section
open Go.RowKit Go.BigFrame
attribute [local go_sem ↓] Go.wp_at_zero Go.wp_at_succ
def mulR(n:Nat)(r:List Int)(N:Mx.Mat):Nat->List Int
 |0=>List.replicate n 0
 |k+1=>Mx.ib (r.getD k 0) (mulR n r N k) (Mx.rw N k)
def mulM(n:Nat)(M N:Mx.Mat):Mx.Mat:=M.map fun r=>mulR n r N N.length
theorem Pd(n:Nat)(M N:Mx.Mat):(mulM n M N).length=M.length:=by simp[mulM]
theorem yw{n:Nat}{r:List Int}{N:Mx.Mat}(h:Mx.Rc n N):∀k,k<=N.length->(mulR n r N k).length=n
 |0,_=>by simp[mulR]
 |k+1,hk=>by
  have h1:=yw (r:=r) h k aa;unfold mulR;rw[Mx.mj _ _ _ (by rw[h1,h.rw aa]),h1]
theorem Pe{n:Nat}{M N:Mx.Mat}{k:Nat}(hk:k<M.length):(mulM n M N)[k]?=some (mulR n (Mx.rw M k) N N.length):=by
 unfold mulM;rw[bW,gu hk];rfl
theorem Hz{n e f:Nat}{r:List Int}{N:Mx.Mat}(h:Mx.Rc n N)(hr:∀j,(r.getD j 0).natAbs<=2^e)(hb:Mx.Bd (2^f) N):∀k,k<=N.length->∀j,((mulR n r N k).getD j 0).natAbs<=k*2^(e+f)
 |0,_,j=>by
  unfold mulR;rw[aG,qX];split<;>simp
 |k+1,hk,j=>by
  have h1:=Hz h hr hb k aa j;unfold mulR;rw[Mx.og _ _ _ _ (by rw[yw h k aa,h.rw aa])];refine aH (Int.natAbs_add_le _ _) ?_;rw[Nat.succ_mul,en,fC];rw[fC]at h1;exact Nat.add_le_add h1 (cv (hr k) (hb k j))
theorem Pc{n e f:Nat}{r:List Int}{N:Mx.Mat}(h:Mx.Rc n N)(hr:∀j,(r.getD j 0).natAbs<=2^e)(hb:Mx.Bd (2^f) N)(hl:N.length<=1000000)(he:e+f+20<=6000000000000)(k:Nat)(hk:k<N.length)(j:Nat)(x y:Int)(hx:(mulR n r N k)[j]?=some x)(hy:(Mx.rw N k)[j]?=some y):Fit x/\Fit y/\Fit (r.getD k 0*y):=by
 have h1:=Hz h hr hb k aa j;have h2:=hb k j;have h3:=hr k;rw[aG,hx]at h1;unfold Mx.at' at h2;rw[aG,hy]at h2;simp only[ly]at h1 h2;refine⟨bL (e:=e+f+20) (aH h1 ?_) he,bL h2 aa,bL (e:=e+f) ?_ aa⟩
 ·rw[fC 2 (e+f) 20,bG];exact dR _ aa
 ·rw[en,fC];exact cv h3 h2
theorem RO.zero(w:World)(n:Nat):RO (w.alloc (.cells (madeCells #[.bool false,.slice none 0 0] (n*2)) 62)) w.heap.size (List.replicate n 0):=⟨_,RI.made w n⟩
set_option maxRecDepth 10000 in
set_option maxHeartbeats 8000000 in
theorem Ke(M N:Mx.Mat)(p n e f:Nat)(v v':Value)(hm:M.length<=1000000)(hp:p<=1000000)(hn:n<=1000000)(hn0:0<n)(hp0:0<p)(hl:N.length=p)(he:e+f+20<=6000000000000)(hM:Mx.Bd (2^e) M)(hN:Mx.Bd (2^f) N)(w:World)(h:MR w v p M)(h':MR w v' n N):
  Calls Tryz.prog 97 #[v,v'] w (oL w n (mulM n M N)):=by
 obtain⟨a,cap,rfl,_,hr,h4⟩:=h.row;obtain⟨a',cap',rfl,_,hr',h4'⟩:=h'.row;have hmk:=rI M.length aa;have hmr:=Co 147 Tryz.underlying147 n aa;have RC:Hid (Mx.Rc p M):=hr;have RC':Hid (Mx.Rc n N):=hr';have ML:=ae (Pd n M N);have GET:=ae (fun k hk=>Pe (n:=n) (M:=M) (N:=N) (k:=k) hk);have LEN:=ae (fun (r:List Int) k hk=>yw (r:=r) hr' k hk);have FIT:=ae (fun i=>Pc (r:=Mx.rw M i) hr' (hM i) hN aa he);have FX:=ae (fun i j=>bL (hM i j) aa);rcases h4' with h4'|⟨gn,on,rfl,hgn,hcn⟩
 ·rw[h4']at hl;simp at hl;omega
 have HCN:Hid _:=hcn;obtain⟨b0,c0,k0,_⟩:=hcn 0 aa;rw[cg]at k0;have H4:Hid _:=h4;rw[hl]at GET HCN;generalize hml:M.length=q at*;have HQ:=ae hml;have HL:=ae hl;clear hml hcn h4 h h' hr hr' hM hN he;rw[hl];clear hl;have hp0':¬(p:Int)=0:=by omega
 have hp1':(0:Int)<(p:Int):=by omega
 go_enter Tryz.func97,Tryz.ntmps97
 go_wp2_with fail
 go_loopw [15] (fun i wr=>∃(k:Nat) (gs cs:Nat->Nat),k<=q/\i= .int .i64 ((k:Int))/\Below w.heap.size w wr/\Hid (MB wr w.heap.size w.heap.size q gs cs n ((mulM n M N).take k)/\∀i,i<k->w.heap.size<gs i/\gs i<wr.heap.size)) (fun i _=>q-(intOf i).toNat)
 case atStart=>
  exact⟨0,id,id,by omega,rfl,by exact bel,MB.made w w.heap.size q n id id (af _),fun i hi=>by omega⟩
 case round=>
  obtain⟨k,gs,cs,hk,rfl,hB,HR⟩:=hrel;have hlt:w.heap.size<wr.heap.size:=HR.out.1.lt;by_cases hkn:k<q
  ·have hkn2:(k:Int)<(q:Int):=by omega
   rcases H4.out with h0|⟨gm,om,rfl,hgm,hcm⟩
   ·have:=HQ.out;rw[h0]at this;simp at this;omega
   obtain⟨b,c,cz,hza⟩:=hcm k hkn;have cz2:=(hB.cell (p:=⟨gm,om+k,none⟩) hgm).trans cz;have k1:=(hB.cell (p:=⟨gn,on,none⟩) hgn).trans k0;have HZA:=ae (hza.below hB (af _));have hgm2:gm<wr.heap.size:=by omega
   have hgn2:gn<wr.heap.size:=by omega
   obtain⟨u,hu⟩:=HR.out.1.hl k hkn;have hfr:=HR.out.1.fr k;have hkl:((mulM n M N).take k).length=k:=by rw[aP,ML.out];omega
   have hb1:Below wr.heap.size wr (wr.alloc (.cells (madeCells #[.bool false, .slice none 0 0] (n*2)) 62)):=by exact bel
   have hp := (HR.out.1.below hb1 (af _)).push (g := wr.heap.size) (c := n) (b := some ⟨wr.heap.size, 0, none⟩) (zs := List.replicate n 0) (by rw [hkl]; exact hkn) (by simp) (af _) (AD.some _ _) (fun _ => ⟨rfl, RO.zero wr n, by omega, by omega, fun i hi => by
       have h1:=(HR.out.2 i (by rw[hkl]at hi;exact hi)).2;omega⟩)
   rw[hkl]at hp;have hz1:((mulM n M N).take k++[List.replicate n 0]).length=k+1:=by rw[cI,hkl];rfl
   have e1:(wr.alloc (.cells (madeCells #[.bool false, .slice none 0 0] (n*2)) 62)).setCell ⟨w.heap.size,k,none⟩ (.slice (some ⟨wr.heap.size,0,none⟩) n n)=(wr.setCell ⟨w.heap.size,k,none⟩ (.slice (some ⟨wr.heap.size,0,none⟩) n n)).alloc (.cells (madeCells #[.bool false, .slice none 0 0] (n*2)) 62):=by go_simp
   rw[e1]at hp;have hBW:Below w.heap.size w ((wr.setCell ⟨w.heap.size,k,none⟩ (.slice (some ⟨wr.heap.size,0,none⟩) n n)).alloc (.cells (madeCells #[.bool false, .slice none 0 0] (n*2)) 62)):=by exact bel
   have hsz:((wr.setCell ⟨w.heap.size,k,none⟩ (.slice (some ⟨wr.heap.size,0,none⟩) n n)).alloc (.cells (madeCells #[.bool false, .slice none 0 0] (n*2)) 62)).heap.size=wr.heap.size+1:=by simp
   have HP:=ae hp;clear hp hb1 e1
   go_upto_region 6 with fail
   generalize(wr.setCell ⟨w.heap.size,k,none⟩ (.slice (some ⟨wr.heap.size,0,none⟩) n n)).alloc (.cells (madeCells #[.bool false, .slice none 0 0] (n*2)) 62)=W1 at*;obtain⟨gr,hgr⟩:∃g,g=wr.heap.size:=⟨_,rfl⟩;rw[<-hgr]at hlt hgm2 hgn2 hsz HP⊢;have HGR:=ae hgr;clear hu hfr cz2 k1 hgr;have hmo:=HP.out.mo hn0;have f0:=hmo.hc k (by rw[hz1];omega);rw[ak rfl,ak rfl]at f0;obtain⟨f1,_,_,hgne,hro⟩:=f0;rw[Bq,ak hkl.symm]at hro;have HRO:=ae hro;have hnw:Hid (NW W1 gr):=hro.nw (fun e=>by have:=ke List.length e;simp at this;omega);have k1:=(hBW.cell (p:=⟨gm,om+k,none⟩) hgm).trans cz;have HZ1:=ae hza;have HBW:=ae hBW;have hWw:w.heap.size<=W1.heap.size:=by omega
   have hkl2:(Mx.rw M k).length=p:=RC.out.rw jz;have HK2:=ae hkl2;clear hro cz hza HZA hmo
   go_wp2_with fail
   go_loopw [30] (fun i2 wx=>∃j:Nat,j<=p/\i2= .int .i64 ((j:Int))/\Hid (Chg gr W1 wx)/\Hid (RO wx gr (mulR n (Mx.rw M k) N j))) (fun i2 _=>p-(intOf i2).toNat)
   case atStart=>exact⟨0,by omega,rfl,Chg.refl _ _,HRO.out⟩
   case round=>
    obtain⟨j,hjp,rfl,HC,HX⟩:=hrel;by_cases hj:j<p
    ·have hj2:(j:Int)<(p:Int):=by omega
     have hz:=getD_some (l:=Mx.rw M k) (k:=j) (by rw[hkl2];exact hj);have HZ:Hid ((Mx.rw M k)[j]?=some (Mx.at' M k j)):=hz;obtain⟨a5,c5,e5,_,_,_,h5⟩:=HZ1.out;cases e5;rcases h5 with h5|⟨g5,o5,rfl,ra5⟩
     ·omega
     have hg5:g5≠gr:=by have:=ra5.lt;omega
     have hg6:g5<wr.heap.size:=by have:=ra5.lt;have:=HC.out.size;omega
     obtain⟨x,cx0,cx1,hxz⟩:=((ra5.below HBW.out (af _)).chg HC.out hnw.out hg5).c j _ hz;have HXZ:=ae hxz;obtain⟨b6,c6,k6,h6⟩:=HCN.out j hj;have k7:=(HC.out.cell (o:=on+j) (by omega:gn<W1.heap.size) aa).trans ((hBW.cell (p:=⟨gn,on+j,none⟩) hgn).trans k6);have f2:=(HC.out.cell (o:=k) (by omega:w.heap.size<W1.heap.size) aa).trans f1;obtain⟨xs,xa,xn,xc⟩:=x;simp only[]at cx0 cx1;have hgr3:gr<wr.heap.size:=HX.out.lt;have hwr3:w.heap.size<wr.heap.size:=by have:=HC.out.size;omega
     have hgn3:gn<wr.heap.size:=by have:=HC.out.size;omega
     obtain⟨b8,c8,e8,_,hl8,_,h6⟩:=h6;cases e8;rcases h6 with h7|⟨g7,o7,rfl,ra7⟩
     ·omega
     have hg7:g7≠gr:=by have:=ra7.lt;omega
     have HRN:=ae ((ra7.below HBW.out (af _)).chg HC.out hnw.out hg7);have HLN:Hid ((Mx.rw N j).length=n):=hl8;clear hz ra5 hxz k6 ra7;have hB5:Below wr.heap.size wr (wr.alloc (.cells #[.bool xs, .slice xa xn xc] 62)):=by exact bel
     have HB5:=ae hB5;clear hB5
     go_upto_region 9 with fail
     (apply Own3.dD 9 [.inl _, .inl _, .inl _, .inl _, .inl _, .inl _, .inl _, .inl _, .inl _] ai ai;simp only[dJ,dv,eC,cY];refine zs1 ?_;refine zs1 ?_;refine zs1 ?_;refine zs1 ?_;refine zs1 ?_;refine zs1 ?_;refine zs1 ?_;refine zs1 ?_;refine zs1 ?_;refine Own3.jE ?_;intro w3 hw3;have hB3:=hw3.1;clear hw3;obtain⟨g3,rfl⟩:=mob hB3;clear hB3)
     have hbx:Below wr.heap.size wr (more (wr.alloc (.cells #[.bool xs, .slice xa xn xc] 62)) g3):=by exact bel
     have AD:=ae (yt ⟨xs,xa,xn,xc⟩ (Mx.at' M k j) gr g7 o7 n n c6 (mulR n (Mx.rw M k) N j) (Mx.rw N j) (LEN.out _ j (by rw[HL.out];omega)) HLN.out hn0 hn (FX.out k j) (FIT.out k j (by rw[HL.out];exact hj)) hg7 _ (HXZ.out.below hbx (af _)) (HX.out.below hbx (af _)) (HRN.out.below hbx (af _)));have HBX:=ae hbx;clear hbx
     go_wp2_with (go_at_call 160;(with_reducible refine AD.out.mono ?_);rintro e w22 ⟨rfl,hC22,hR22⟩;have HC22:=ae (And.intro hC22 hR22);clear hC22 hR22)
     go_roundw
     case rel=>exact⟨j+1,by omega,by go_num,((HC.out.alloc _).mor _).trans HC22.out.1,HC22.out.2⟩
     case measure=>simp[intOf];omega
    ·obtain rfl:j=p:=by omega
     have hj2:¬(j:Int)<(j:Int):=by omega
     go_wp2_with fail
     go_roundw
     case rel=>
      have hset:((mulM n M N).take k++[List.replicate n 0]).set k (mulR n (Mx.rw M k) N j)=(mulM n M N).take (k+1):=by
       rw[rp (GET.out k hkn)];have:=OE (M:=(mulM n M N).take k) (z:=List.replicate n 0) (z':=mulR n (Mx.rw M k) N j);rw[hkl]at this;exact this
      have h2:=((HP.out.mo hn0).setRow (i:=k) (zs:=mulR n (Mx.rw M k) N j) (by rw[hz1];omega) (LEN.out _ j (by rw[HL.out];omega)) (by rw[ak rfl];exact HC.out) (by rw[ak rfl];exact HX.out)).mb;rw[hset]at h2;have hs9:=HC.out.size;refine⟨k+1,_,_,by omega,by go_num,HC.out.below HBW.out aa aa,h2,fun i hi=>?_⟩;by_cases e:i=k
      ·rw[ak e];omega
      ·rw[ah e];have h1:=HR.out.2 i aa;have:=HGR.out;omega
     case measure=>simp[intOf];omega
  ·obtain rfl:k=q:=by omega
   have hkn2:¬(k:Int)<(k:Int):=by omega
   go_wp2_with fail
   go_ret
   refine⟨⟨w.heap.size,gs,cs,k,by rw[ML.out];rfl,by rw[ML.out];exact af _,?_⟩,hB⟩;have h1:=HR.out.1;rw[cj (by rw[ML.out];exact af _)]at h1;rw[ML.out];exact h1
end
section
open Go.RowKit Go.BigFrame
attribute [local go_sem ↓] Go.wp_at_zero Go.wp_at_succ
theorem NW.below{B:Nat}{w w':World}{g:Nat}(h:NW w g)(hb:Below B w w')(hB:w.heap.size<=B)(hg:g<w.heap.size):NW w' g:=
 h.nQ (hb.cell (p:=⟨g,0,none⟩) (aS hg hB))
end
section
open Go.RowKit Go.BigFrame
attribute [local go_sem ↓] Go.wp_at_zero Go.wp_at_succ
def inb(L:Int)(z:Int):Bool:=decide (-L<=z)&&decide (z<=L)
set_option maxRecDepth 10000 in
theorem zw(z L:Int)(hL:0<=L)(hL2:L<=1000000000000000000)(w:World):
  Calls Tryz.prog 91 #[.int .i64 z,.int .i64 L] w fun e w'=>e= .returned (.bool (inb L z))/\Below w.heap.size w w':=by
 by_cases h1: -L<=z
 ·have d1:decide (-L<=z)=true:=by rw[cL];exact h1
  have E:Hid (inb L z=decide (z<=L)):=by show inb L z=_;unfold inb;rw[d1];rfl
  go_enter Tryz.func91,Tryz.ntmps91
  go_wp2_with fail
  go_ret
  exact⟨by rw[E.out];rfl,by exact bel⟩
 ·have d1:decide (-L<=z)=false:=by rw[bN];exact h1
  have E:Hid (inb L z=false):=by show inb L z=_;unfold inb;rw[d1];rfl
  go_enter Tryz.func91,Tryz.ntmps91
  go_wp2_with fail
  go_ret
  exact⟨by rw[E.out];rfl,by exact bel⟩
def wid(m:List (List Int)):Nat:=(m.headD []).length
set_option maxRecDepth 10000 in
theorem B8(m:List (List Int))(v:Value)(hm:m.length<=1000000000)(w:World)(h:ZM w v m):
  Calls Tryz.prog 111 #[v] w fun e w'=>e= .returned (.int .i64 ((wid m:Int)))/\Below w.heap.size w w':=by
 obtain⟨a,cap,rfl,_,h4⟩:=h;rcases m with _|⟨l,m⟩
 ·go_enter Tryz.func111,Tryz.ntmps111
  go_wp2_with fail
  go_ret
  exact⟨rfl,by exact bel⟩
 ·rcases h4 with h4|⟨a0,rfl,_,h5⟩
  ·cases h4
  obtain⟨b,c,cz,_⟩:=h5 0 l rfl;have e0:a0.add 0=a0:=by cases a0;unfold Addr.add;split<;>simp_all
  have cz2:=cz;rw[e0]at cz2;have E:Hid (wid (l::m)=l.length):=rfl;rw[im]at hm⊢;generalize m.length=q at*;have hq:¬(q:Int)+1=0:=by omega
  have hq1:(0:Int)<(q:Int)+1:=by omega
  have hq2:¬q+1=0:=by omega
  clear h5
  go_enter Tryz.func111,Tryz.ntmps111
  go_wp2_with fail
  go_ret
  exact⟨by rw[E.out];rfl,by exact bel⟩
def Dr{α:Type}(p:α->Bool)(l:List α)(r:Int):Prop:=(r= -1/\∀x∈l,p x=false)\/∃(k:Nat) (x:α),r=k/\l[k]?=some x/\p x=true/\∀j y,j<k->l[j]?=some y->p y=false
theorem Dr.any{α:Type}{p:α->Bool}{l:List α}{r:Int}(h:Dr p l r):decide (0<=r)=l.any p:=by
 rcases h with⟨rfl,h⟩|⟨k,x,rfl,h1,h2,_⟩
 ·symm;rw[show decide ((0:Int)<=-1)=false from rfl,List.any_eq_false];exact fun x hx=>by rw[h x hx];simp
 ·rw[show l.any p=true from gT.2 ⟨x,bj h1,h2⟩];simp
def VO(w:World){α:Type}(p:α->Bool)(l:List α)(e:Ending)(w':World):Prop:=(∃r:Int,e= .returned (.int .i64 r)/\I64 r/\Dr p l r)/\Below w.heap.size w w'
set_option maxRecDepth 10000 in
set_option maxHeartbeats 2000000 in
theorem Pw(l:List Int)(b:Option Addr)(c:Nat)(hl:l.length<=1000000000)(g:Nat)(p:Int->Bool)(eg:∀args w,(callFunc g args).run Tryz.prog w= .ok (.enter g args) w)(hp:∀x w,Calls Tryz.prog g #[.int .i64 x] w fun e w'=>e= .returned (.bool (p x))/\Below w.heap.size w w')(w:World)(h:ZAt w b l):
  Calls Tryz.prog 157 #[.slice b l.length c,.func (.func g) #[] #[]] w (VO w p l):=by
 have H:=ae h;have HP:Hid _:=hp;clear h hp;generalize hn:l.length=n at*;have HN:=ae hn;clear hn
 go_enter Tryz.func157,Tryz.ntmps157
 go_wp2_with fail
 go_loopw [8] (fun i wr=>∃k:Nat,k<=n/\i= .int .i64 ((k:Int))/\Below w.heap.size w wr/\Hid (∀j y,j<k->l[j]?=some y->p y=false)) (fun i _=>n-(intOf i).toNat)
 case atStart=>exact⟨0,by omega,rfl,by exact bel,fun j y hj=>by omega⟩
 case round=>
  obtain⟨k,hk,rfl,hB,HJ⟩:=hrel;by_cases hkn:k<n
  ·have hkn2:(k:Int)<(n:Int):=by omega
   obtain⟨z,hz⟩:∃z,l[k]?=some z:=⟨l[k]'(by rw[HN.out];omega),aV _⟩;rcases H.out.below hB (af _)with h0|⟨a0,ha,hal,hcc⟩
   ·rw[h0]at hz;simp at hz
   have cz:=hcc k z hz;subst ha;have HPz:=ae (HP.out z);have hsw:w.heap.size<=wr.heap.size:=hB.size;have HZ:=ae hz;clear hcc hz;generalize hpz:p z=pz at HPz;have HQ:=ae hpz;clear hpz;cases pz
   ·go_wp2_with (go_at_fn g;(with_reducible refine(HPz.out _).mono ?_);rintro e w4 ⟨rfl,hb4⟩;have HB4:=ae hb4;obtain⟨g4,rfl⟩:=mob hb4;clear hb4)
    go_roundw
    case rel=>
     refine⟨k+1,by omega,by go_num,by exact bel,fun j y hj hy=>?_⟩;by_cases e:j=k
     ·subst e;rw[HZ.out]at hy;cases hy;exact HQ.out
     ·exact HJ.out j y aa hy
    case measure=>simp[intOf];omega
   ·go_wp2_with (go_at_fn g;(with_reducible refine(HPz.out _).mono ?_);rintro e w4 ⟨rfl,hb4⟩;have HB4:=ae hb4;obtain⟨g4,rfl⟩:=mob hb4;clear hb4)
    go_ret
    exact⟨⟨(k:Int),rfl,⟨by omega,by omega⟩,.inr ⟨k,z,rfl,HZ.out,HQ.out,HJ.out⟩⟩,by exact bel⟩
  ·obtain rfl:k=n:=by omega
   have hkn2:¬(k:Int)<(k:Int):=by omega
   go_wp2_with fail
   go_ret
   refine⟨⟨-1,rfl,⟨by omega,by omega⟩,.inl ⟨rfl,fun x hx=>?_⟩⟩,hB⟩;obtain⟨j,hj,e⟩:=kZ hx;exact HJ.out j x (by rw[<-HN.out];exact hj) (by rw[aV hj,e])
set_option maxRecDepth 10000 in
theorem GA(l:List Int)(b:Option Addr)(c:Nat)(hl:l.length<=1000000000)(g:Nat)(p:Int->Bool)(eg:∀args w,(callFunc g args).run Tryz.prog w= .ok (.enter g args) w)(hp:∀x w,Calls Tryz.prog g #[.int .i64 x] w fun e w'=>e= .returned (.bool (p x))/\Below w.heap.size w w')(w:World)(h:ZAt w b l):
  Calls Tryz.prog 89 #[.slice b l.length c,.func (.func g) #[] #[]] w fun e w'=>e= .returned (.bool (l.any p))/\Below w.heap.size w w':=by
 have IX:=ae (fun w h=>Pw l b c hl g p eg hp w h);have H:=ae h;have HA:=ae (fun r (h:Dr p l r)=>h.any);clear h hp eg;generalize l.length=n at*
 go_enter Tryz.func89,Tryz.ntmps89
 go_wp2_with (go_at_call 157;(with_reducible refine(IX.out _ ?_).mono ?_);(exact H.out.below (B:=w.heap.size) ao (af _));rintro e w4 ⟨⟨r,rfl,hi,hr⟩,hb4⟩;have HR:=ae hr;clear hr;obtain⟨g4,rfl⟩:=mob hb4;clear hb4)
 all_goals go_ret
 all_goals exact⟨by rw[<-HA.out r HR.out];first|rfl|(congr 2;simp;omega)|simp,by exact bel⟩
end
section
open Go.RowKit Go.BigFrame
attribute [local go_sem ↓] Go.wp_at_zero Go.wp_at_succ
def big(z:Int):Bool:=!(inb 1000000000000000 z)
def chk(m:List (List Int)):Int:=if m.all (fun r=>r.length==wid m)=true then(if 64<m.length\/64<wid m then 8 else if m.any (fun r=>r.any big)=true then 2 else 0)else 9
theorem chk9{m:List (List Int)}{r:List Int}(h:r∈m)(h2:r.length≠wid m):chk m=9:=by
 unfold chk;rw[ah];intro h3;have:=du.1 h3 r h;simp at this;exact h2 this
theorem xF{m:List (List Int)}(h:∀(j:Nat) (r:List Int),j<m.length->m[j]?=some r->r.length=wid m):m.all (fun r=>r.length==wid m)=true:=by
 rw[du];intro r hr;obtain⟨j,hj,e⟩:=kZ hr;simpa using h j r hj (by rw[aV hj,e])
theorem KY{m:List (List Int)}(h:m.all (fun r=>r.length==wid m)=true)(h2:64<m.length\/64<wid m):chk m=8:=by
 unfold chk;rw[ak h,ak h2]
theorem chk2{m:List (List Int)}(h:m.all (fun r=>r.length==wid m)=true)(h2:¬(64<m.length\/64<wid m)){r:List Int}(h3:r∈m)(h4:r.any big=true):chk m=2:=by
 unfold chk;rw[ak h,ah h2,ak (gT.2 ⟨r,h3,h4⟩)]
theorem KZ{m:List (List Int)}(h:m.all (fun r=>r.length==wid m)=true)(h2:¬(64<m.length\/64<wid m))(h3:∀(j:Nat) (r:List Int),j<m.length->m[j]?=some r->r.any big=false):chk m=0:=by
 unfold chk;rw[ak h,ah h2,ah];intro h4;obtain⟨r,hr,h5⟩:=gT.1 h4;obtain⟨j,hj,e⟩:=kZ hr;rw[h3 j r hj (by rw[aV hj,e])]at h5;cases h5
set_option maxRecDepth 10000 in
theorem Ub(z:Int)(w:World):
  Calls Tryz.prog 113 #[.int .i64 z] w fun e w'=>e= .returned (.bool (big z))/\Below w.heap.size w w':=by
 have WI:=ae (fun w=>zw z 1000000000000000 aa aa w);have E:Hid (big z= !(inb 1000000000000000 z)):=rfl;generalize inb 1000000000000000 z=c at*
 go_enter Tryz.func113,Tryz.ntmps113
 go_wp2_with (go_at_call 91;(with_reducible refine(WI.out _).mono ?_);rintro e w4 ⟨rfl,hb4⟩;obtain⟨g4,rfl⟩:=mob hb4;clear hb4)
 go_ret
 exact⟨by rw[E.out];rfl,by exact bel⟩
theorem K8:∀args w,(callFunc 113 args).run Tryz.prog w= .ok (.enter 113 args) w:=enters_of Tryz.func113 ai rfl
set_option maxRecDepth 10000 in
set_option maxHeartbeats 4000000 in
theorem NH(m:List (List Int))(v:Value)(hm:m.length<=1000000000)(hr:∀r∈m,r.length<=1000000000)(w:World)(h:ZM w v m):
  Calls Tryz.prog 40 #[v] w fun e w'=>e= .returned (.int .i64 (chk m))/\Below w.heap.size w w':=by
 have WI:=ae (fun w h=>B8 m v hm w h);have AN:=ae (fun (r:List Int) (hr':r∈m) b c w h=>GA r b c (hr r hr') _ big K8 (fun x w=>Ub x w) w h);have H:=ae h;have C9:=ae (fun (r:List Int) (h:r∈m) h2=>chk9 h h2);have CA:=ae (xF (m:=m));have C8:=ae (KY (m:=m));have C2:=ae (fun h h2 (r:List Int) h3 h4=>chk2 (m:=m) h h2 (r:=r) h3 h4);have C0:=ae (KZ (m:=m));have HW1:Hid (wid m<=1000000000):=by
  show wid m<=1000000000;unfold wid
  cases m with
  |nil=>simp
  |cons a l=>exact hr a aK
 have hW:=HW1.out;have HLR:Hid _:=hr;obtain⟨a,cap,rfl,_,h4⟩:=h;have H4:=ae h4;clear h4 hr;generalize hml:m.length=q at*;generalize wid m=W at*;have HQ:=ae hml;clear hml;generalize chk m=R at*
 go_enter Tryz.func40,Tryz.ntmps40
 go_wp2_with fail
 go_loopw [9] (fun i wr=>∃k:Nat,k<=q/\i= .int .i64 ((k:Int))/\Below w.heap.size w wr/\Hid (∀(j:Nat) (r:List Int),j<k->m[j]?=some r->r.length=W)) (fun i _=>q-(intOf i).toNat)
 case atStart=>exact⟨0,by omega,rfl,by exact bel,fun j r hj=>by omega⟩
 case round=>
  obtain⟨k,hk,rfl,hB,HJ⟩:=hrel;have hsw:w.heap.size<=wr.heap.size:=hB.size;by_cases hkn:k<q
  ·have hkn2:(k:Int)<(q:Int):=by omega
   obtain⟨l,hl⟩:∃l,m[k]?=some l:=⟨m[k]'wR,aV _⟩;rcases H4.out with h0|⟨a0,ha,hal,hcc⟩
   ·rw[h0]at hl;simp at hl
   obtain⟨b,c,cz,_⟩:=hcc k l hl;have cz2:=nv hB (af _) cz;subst ha;have HL:=ae hl;have hll:l.length<=1000000000:=HLR.out l (bj hl);clear hcc cz hl;generalize hgl:l.length=p at*;have HP:=ae hgl;clear hgl;by_cases he:p=W
   ·subst he
    go_wp2_with (go_at_call 111;(with_reducible refine(WI.out _ ?_).mono ?_);(exact H.out.below (B:=w.heap.size) ao (af _));rintro e w4 ⟨rfl,hb4⟩;obtain⟨g4,rfl⟩:=mob hb4;clear hb4)
    go_roundw
    case rel=>
     refine⟨k+1,by omega,by go_num,by exact bel,fun j y hj hy=>?_⟩;by_cases e:j=k
     ·subst e;rw[HL.out]at hy;cases hy;exact HP.out
     ·exact HJ.out j y aa hy
    case measure=>simp[intOf];omega
   ·have he2:¬(p:Int)=(W:Int):=by omega
    have E:Hid (R=9):=C9.out l (bj HL.out) (by rw[HP.out];exact he)
    go_wp2_with (go_at_call 111;(with_reducible refine(WI.out _ ?_).mono ?_);(exact H.out.below (B:=w.heap.size) ao (af _));rintro e w4 ⟨rfl,hb4⟩;obtain⟨g4,rfl⟩:=mob hb4;clear hb4)
    go_ret
    exact⟨by rw[E.out];rfl,by exact bel⟩
  ·obtain rfl:k=q:=by omega
   have hkn2:¬(k:Int)<(k:Int):=by omega
   have HA:=ae (CA.out (fun j r hj hjr=>HJ.out j r hj hjr));by_cases h1:64<k
   ·have h2:(64:Int)<(k:Int):=by omega
    have E:Hid (R=8):=C8.out HA.out (.inl h1)
    go_wp2_with fail
    go_ret
    exact⟨by rw[E.out];rfl,by exact bel⟩
   ·have h2:¬(64:Int)<(k:Int):=by omega
    have h3:decide ((64:Int)<(k:Int))=false:=by rw[bN];exact h2
    by_cases h5:64<W
    ·have h6:(64:Int)<(W:Int):=by omega
     have E:Hid (R=8):=C8.out HA.out (.inr h5)
     go_wp2_with (go_at_call 111;(with_reducible refine(WI.out _ ?_).mono ?_);(exact H.out.below (B:=w.heap.size) ao (af _));rintro e w4 ⟨rfl,hb4⟩;obtain⟨g4,rfl⟩:=mob hb4;clear hb4)
     go_ret
     exact⟨by rw[E.out];rfl,by exact bel⟩
    ·have h6:¬(64:Int)<(W:Int):=by omega
     have HN:Hid (¬(64<k\/64<W)):=fun h=>h.elim h1 h5
     go_wp2_with (go_at_call 111;(with_reducible refine(WI.out _ ?_).mono ?_);(exact H.out.below (B:=w.heap.size) ao (af _));rintro e w4 ⟨rfl,hb4⟩;obtain⟨g4,rfl⟩:=mob hb4;clear hb4)
     go_loopw [29] (fun i wx=>∃j:Nat,j<=k/\i= .int .i64 ((j:Int))/\Below w.heap.size w wx/\Hid (∀(j':Nat) (r:List Int),j'<j->m[j']?=some r->r.any big=false)) (fun i _=>k-(intOf i).toNat)
     case atStart=>exact⟨0,by omega,rfl,by exact bel,fun j r hj=>by omega⟩
     case round=>
      obtain⟨j,hj,rfl,hBx,HX⟩:=hrel;have hsx:w.heap.size<=wr.heap.size:=hBx.size;by_cases hjk:j<k
      ·have hjk2:(j:Int)<(k:Int):=by omega
       obtain⟨l,hl⟩:∃l,m[j]?=some l:=⟨m[j]'wR,aV _⟩;rcases H4.out with h0|⟨a0,ha,hal,hcc⟩
       ·rw[h0]at hl;simp at hl
       obtain⟨b,c,cz,_,hz⟩:=hcc j l hl;have cz2:=nv hBx (af _) cz;subst ha;have HL:=ae hl;have ANl:=ae (AN.out l (bj hl) b c);have HZ:=ae hz;clear hcc cz hl hz;generalize hgl:l.length=p at*;clear hgl;generalize hab:l.any big=t at*;have HT:=ae hab;clear hab;cases t
       ·go_wp2_with (go_at_call 89;(with_reducible refine(ANl.out _ ?_).mono ?_);(exact HZ.out.below (B:=w.heap.size) ao (af _));rintro e w4 ⟨rfl,hb4⟩;obtain⟨g4,rfl⟩:=mob hb4;clear hb4)
        go_roundw
        case rel=>
         refine⟨j+1,by omega,by go_num,by exact bel,fun j' y hj' hy=>?_⟩;by_cases e:j'=j
         ·subst e;rw[HL.out]at hy;cases hy;exact HT.out
         ·exact HX.out j' y aa hy
        case measure=>simp[intOf];omega
       ·have E:Hid (R=2):=C2.out HA.out HN.out l (bj HL.out) HT.out
        go_wp2_with (go_at_call 89;(with_reducible refine(ANl.out _ ?_).mono ?_);(exact HZ.out.below (B:=w.heap.size) ao (af _));rintro e w4 ⟨rfl,hb4⟩;obtain⟨g4,rfl⟩:=mob hb4;clear hb4)
        go_ret
        exact⟨by rw[E.out];rfl,by exact bel⟩
      ·obtain rfl:j=k:=by omega
       have hjk2:¬(j:Int)<(j:Int):=by omega
       have E:Hid (R=0):=C0.out HA.out HN.out (fun j' r h1 h2=>HX.out j' r h1 h2)
       go_wp2_with fail
       go_ret
       exact⟨by rw[E.out];rfl,hBx⟩
end
section
open Go.RowKit
namespace DW
theorem bq{α:Type}{m:List α}{k:Nat}{x:α}(h:m[k]?=some x):m.take (k+1)=m.take k++[x]:=by rw[mQ,h];rfl
theorem get_some{α:Type}{m:List α}{k:Nat}(h:k<m.length):∃x,m[k]?=some x:=⟨_,aV h⟩
theorem A8{m:List (List Int)}(h:0<m.length):∃l,m[0]?=some l/\l.length=wid m:=by
 cases m with
 |nil=>simp at h
 |cons l m=>exact⟨l,rfl,rfl⟩
set_option maxRecDepth 20000
set_option maxHeartbeats 1000000
theorem tX(z a b:Int):Fn Tryz.prog 26 [zI z,zI a,zI b] (.sc (.bool (decide (a<=z)&&decide (z<=b)))):=by
 refine ba Tryz.func26 ai rfl rfl rfl fun X0=>?_;simp only[aO];by_cases h:z>=a
 ·rw[show(decide (a<=z)&&decide (z<=b))=decide (z<=b) by rw[au h,sI]];have hd:decide (z>=a)=true:=au h;refine lJ ?_;refine QM ?_;refine zs2 ?_;exact⟨_,Sh.refl,.one (.tmp 6) _ rfl (.tmp 6 rfl)⟩
 ·rw[show(decide (a<=z)&&decide (z<=b))=false by rw[aw h,sH]];have hd:decide (z>=a)=false:=aw h;refine lJ ?_;refine QM ?_;refine zs2 ?_;exact⟨_,Sh.refl,.one (.tmp 6) _ rfl (.tmp 6 rfl)⟩
theorem F4(z:Int):Fn Tryz.prog 76 [zI z] (.sc (.bool (inb 1000000000000000 z))):=by
 have W:=tX z (-1000000000000000) 1000000000000000;refine ba Tryz.func76 ai rfl rfl rfl fun X0=>?_;simp only[aO];refine lJ ?_;refine cn ?_;refine zs91 ?_;refine cT ?_;exact⟨_,Sh.refl,.one (.tmp 2) _ rfl (.tmp 2 rfl)⟩
theorem wi(m:List (List Int)):Fn Tryz.prog 24 [dM m] (zI (wid m)):=by
 refine ba Tryz.func24 ai rfl rfl rfl fun X0=>?_;simp only[aO];by_cases h:m.length=0
 ·obtain rfl:=fN h;refine iZ ?_;refine yU ?_;refine lK ?_;exact⟨_,Sh.refl,.one (.tmp 2) _ rfl (.tmp 2 rfl)⟩
 ·obtain⟨l,hl,hw⟩:=A8 (m:=m) aa;have hc:(0:Int)=((0:Nat):Int):=rfl;refine iZ ?_;refine yU ?_;refine bp ?_;refine cn ?_;refine I3 ?_;refine uX ?_;refine zs5 ?_;refine cT ?_;rw[<-hw];exact⟨_,Sh.refl,.one (.tmp 2) _ rfl (.tmp 2 rfl)⟩
theorem EH(z:Int)(hz:Hf z):Fn Tryz.prog 110 [.nm z] (.nm (z.natAbs:Int)):=by
 have S:=oS z hz;have N:=Fh z hz;have G:=Di z hz;have s1:=xq z;obtain⟨g,hg⟩:∃g,g=sgn z:=⟨_,rfl⟩;rw[<-hg]at s1 S;refine ba Tryz.func110 ai rfl rfl rfl fun X0=>?_;simp only[aO];by_cases h:z<0
 ·have h1:=s1.2 h;rw[show(z.natAbs:Int)= -z by omega];refine zs2 ?_;refine CY ?_;refine zs2 ?_;refine Jy ?_;refine bw ?_;refine wJ ?_;refine zs2 ?_;exact⟨_,aA (k:=2) bf bA bz,.one (.cell 2 62) _ rfl (.cell 2 _ _ rfl rfl ai ai)⟩
 ·have h1:¬g<0:=fun e=>h (s1.1 e);rw[show(z.natAbs:Int)=z by omega];refine zs2 ?_;refine CY ?_;refine zs2 ?_;refine Jy ?_;refine bp ?_;refine wJ ?_;refine zs2 ?_;exact⟨_,aA (k:=2) bf bA bz,.one (.cell 2 62) _ rfl (.cell 2 _ _ rfl rfl ai ai)⟩
theorem Gx{q:Int}{a b:List Int}{k:Nat}{x y:Int}(ha:a[k]?=some x)(hb:b[k]?=some y):(Mx.ib q a b)[k]?=some (x+q*y):=by
 unfold Mx.ib;rw[List.getElem?_zipWith,ha,hb]
theorem LM(row frm:List Int)(q:Int)(hl:row.length=frm.length)(hr:row.length<=1000000)(h1:∀x∈row,Hf x)(h2:∀y∈frm,Hf y/\Hf (q*y))(hq:Hf q):Fn Tryz.prog 149 [dZ row,dZ frm,.nm q] (dZ (Mx.ib (-q) row frm)):=by
 refine ba Tryz.func149 ai rfl rfl rfl fun X0=>?_;simp only[aO];refine zs2 ?_;refine JI ?_;refine zs2 ?_;refine eQ ?_;refine ay (da (t:=7) (k:=7) (T:=62) (wd:=2) fq rfl rfl cu) ?_
 (refine ay (aq (sl':=[(0,dZ row),(1,dZ frm),(5,.pt (.nm q)),(7,.own 7),(8,zI 0)]) (ow':=[(7,⟨62,2,[]⟩)]) az aD) ?_)
 refine bc (fun r s=>∃k,k<=row.length/\r=row.length-k/\s=⟨[(0,dZ row),(1,dZ frm),(5,.pt (.nm q)),(7,.own 7),(8,zI (k:Nat))],[(7,⟨62,2,((Mx.ib (-q) row frm).take k).map .nm⟩)]⟩) (m:=row.length) ⟨0,aQ _,rfl,rfl⟩ fun r s hs=>?_;obtain⟨k,hk,rfl,rfl⟩:=hs;by_cases hkl:k<row.length
 ·obtain⟨x,hx⟩:=get_some hkl;obtain⟨y,hy⟩:=get_some (m:=frm) (k:=k) aa;have hxy:=Gx (q:=-q) hx hy;rw[jK,<-Ep]at hxy;have hfx:=h1 x (bj hx);have hfy:=h2 y (bj hy);have M:=Dk q y hq hfy.1;have S:=Ru x (q*y) hfx hfy.2;refine dn ?_;refine zs93 ?_;refine eV ?_;refine jy ?_;refine fR ?_;refine jy ?_;refine tG ?_;refine tG ?_;refine zs94 ?_;((try refine aY ?_);(refine pe rfl rfl rfl rfl cD cD bf aj vc ai ai zb60 cu va ?_));refine tI ?_;refine jg ?_;refine eU ?_;simp only[nx,inB];exact⟨row.length-(k+1),_,by omega,(aq (sl':=[(0,dZ row),(1,dZ frm),(5,.pt (.nm q)),(7,.own 7),(8,zI ((k+1:Nat):Int))]) (ow':=[(7,⟨62,2,((Mx.ib (-q) row frm).take k).map .nm++[.nm (x-q*y)]⟩)]) az aD),k+1,by omega,rfl,by rw[bq hxy,db];rfl⟩
 ·obtain rfl:k=row.length:=by omega
  have hal:=Mx.mj (-q) row frm hl;rw[cj aa];refine eR ?_;refine ay (aA (k:=7) bf bA bz) ?_;refine kb ?_;exact⟨_,Sh.refl,.one (.tmp 6) _ rfl (.tmp 6 rfl)⟩
end DW
end
end Go.Proofs.YtcgjmdpcplhanaaGreat
