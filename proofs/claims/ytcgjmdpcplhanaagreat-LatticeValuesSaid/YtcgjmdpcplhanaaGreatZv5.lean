/- Lemmas for the law: V8 V9 V10 V12 V13 V15 V16 V17 V18 V19 E11 E12 E13 Q1 Q2 Q3 -/
import Derived.Maps.AppendAt
import Derived.Deep.RegionLaw
import Derived.Shelf.Abstract
import Derived.Test.YtcgjmdpcplhanaaGreatZv4
namespace Go.Proofs.YtcgjmdpcplhanaaGreat
section
abbrev dQ:=@List.any_eq_true
abbrev tW:=@Bool.true_and
abbrev ei:=@Nat.le_of_ble_eq_true
abbrev jT:=@Option.bind_eq_some_iff
abbrev tV:=@Bool.false_eq_true
theorem xB{p q:Prop}(h:q)(f:Wq q->p:=by(intro hW;(refine aL1 rfl rfl rfl zb0 ?_);exact hW.out)):p:=f ⟨h⟩
theorem eN{p q:Prop}(h:q)(f:Wq q->p:=by(intro hW;(refine bU ?_;refine ew ?_);exact hW.out)):p:=f ⟨h⟩
theorem Im{p q:Prop}(h:q)(f:Wq q->p:=by(intro hW;(refine cf ?_;refine mq ?_;refine kY ?_;refine zs60 ?_;refine iP ?_;refine dJ ?_);exact hW.out)):p:=f ⟨h⟩
theorem Bj{p q:Prop}(h:q)(f:Wq q->p:=by(intro hW;((first|(refine aLs rfl rfl rfl rfl ?_ ?_;(focus(apply bF;(conv=>lhs;whnf);(first|done|exact rfl|(apply bj;(first|(apply ay;omega)|(apply aA;omega)|assumption|(simp;done)))))))|refine aLw rfl rfl rfl rfl cL vv ?_));exact hW.out)):p:=f ⟨h⟩
theorem BD{p q:Prop}(h:q)(f:Wq q->p:=by(intro hW;(refine gn ?_;refine zs6 ?_;refine fg ?_;refine Bj ?_;refine rI ?_);exact hW.out)):p:=f ⟨h⟩
theorem jM{p q:Prop}(h:q)(f:Wq q->p:=by(intro hW;(refine zs3 ?_;refine kE ?_;refine fK ?_);exact hW.out)):p:=f ⟨h⟩
theorem qj{p q:Prop}(h:q)(f:Wq q->p:=by(intro hW;(refine aL1 rfl rfl rfl BW ?_);exact hW.out)):p:=f ⟨h⟩
theorem Ik{p q:Prop}(h:q)(f:Wq q->p:=by(intro hW;(refine cf ?_;refine kE ?_;refine fK ?_;refine jM ?_;refine gR ?_;refine qj ?_;refine ba ?_);exact hW.out)):p:=f ⟨h⟩
theorem rK{p q:Prop}(h:q)(f:Wq q->p:=by(intro hW;(refine gn ?_;refine ve ?_;refine ba ?_);exact hW.out)):p:=f ⟨h⟩
theorem zb9{p:Prop}(h:p:=by(first|(apply kr;(exact rfl);(focus((apply aw;(conv=>lhs;whnf);(first|done|exact rfl))));(exact bW);(kernel_rfl);(kernel_rfl);(omega);(focus((first|(apply yQ;(focus assumption);(focus assumption))|(apply get_map;assumption)|(apply get_own;assumption)))))|(apply ja;(exact rfl);(focus((apply aw;(conv=>lhs;whnf);(first|done|exact rfl))));(exact bW);(focus((repeat(first|exact br|refine bz _ ?_))));(kernel_rfl);(kernel_rfl);(focus(first|omega|(simp;omega)));(focus(first|(apply fM;assumption)|exact rfl))))):p:=h
theorem Bk{p q:Prop}(h:q)(f:Wq q->p:=by(intro hW;(refine aL1 rfl rfl rfl zb9 ?_);exact hW.out)):p:=f ⟨h⟩
theorem xM{p:Prop}(h:p:=by simp[results,Tryz.results120,go_sem]):p:=h
theorem oT{p q:Prop}(h:q)(f:Wq q->p:=by(intro hW;(refine cf ?_;refine jM ?_;refine zs4 ?_;refine mq ?_;refine ba ?_);exact hW.out)):p:=f ⟨h⟩
theorem xC{p q:Prop}(h:q)(f:Wq q->p:=by(intro hW;(refine aL1 rfl rfl rfl (by(apply vT;(exact rfl);(focus((apply aw;(conv=>lhs;whnf);(first|done|exact rfl))));(exact bW);(exact bW);(exact rfl);(exact rfl);(exact rfl);(assumption);(exact rfl))) ?_);exact hW.out)):p:=f ⟨h⟩
theorem zs156{p q:Prop}(h:q)(f:Wq q->p:=by(intro hW;(refine ct ?_;refine dJ ?_);exact hW.out)):p:=f ⟨h⟩
theorem jd{p q:Prop}(h:q)(f:Wq q->p:=by(intro hW;(refine zs156 ?_;refine zs1 ?_);exact hW.out)):p:=f ⟨h⟩
theorem zs80{p q:Prop}(h:q)(f:Wq q->p:=by(intro hW;((first|refine eK rfl rfl rfl an zb9 an an ?_|((try refine aS ?_);refine aL1 rfl rfl rfl zb9 ?_)));exact hW.out)):p:=f ⟨h⟩
theorem zs79{p q:Prop}(h:q)(f:Wq q->p:=by(intro hW;((first|refine eK rfl rfl rfl an zb2 an an ?_|((try refine aS ?_);refine aL1 rfl rfl rfl zb2 ?_)));exact hW.out)):p:=f ⟨h⟩
theorem Il{p q:Prop}(h:q)(f:Wq q->p:=by(intro hW;(refine zs57 ?_;refine tI ?_;refine zs79 ?_;refine fJ ?_;refine zs80 ?_;refine zs55 ?_;refine zs79 ?_;refine Bl ?_;refine gS ?_);exact hW.out)):p:=f ⟨h⟩
end
section
open Go.RowKit Go.BigFrame
attribute [local go_sem ↓] Go.wp_at_zero Go.wp_at_succ
theorem MR.row{w:World}{v:Value}{n:Nat}{M:Mx.Mat}(h:MR w v n M):∃a cap,v= .slice a M.length cap/\M.length<=cap/\Mx.Rc n M/\(M=[]\/∃gm om,a=some ⟨gm,om,none⟩/\gm<w.heap.size/\
  ∀i,i<M.length->∃b c,w.cell? ⟨gm,om+i,none⟩=some (.slice b n c)/\RV w (.slice b n c) n (Mx.rw M i)):=by
 obtain⟨a,cap,h1,h2,h3,h4⟩:=h;refine⟨a,cap,h1,h2,h3,?_⟩;rcases h4 with h4|⟨gm,om,e,hg,h5⟩
 ·exact .inl h4
 ·refine .inr ⟨gm,om,e,hg,fun i hi=>?_⟩;obtain⟨b,c,k1,k2,kA,k3⟩:=h5 i hi;exact⟨b,c,k1,b,c,rfl,k2,h3.rw hi,kA,k3⟩
theorem yx{M:Mx.Mat}{i:Nat}(h:i<M.length):M[i]?=some (Mx.rw M i):=by
 unfold Mx.rw;rw[aF,aV h];rfl
set_option maxRecDepth 10000 in
set_option maxHeartbeats 4000000 in
theorem CD(m:List (List Int))(n:Nat)(v:Value)(hm:m.length<=1000000)(hn:n<=1000000)(w:World)(h:MR w v n m):
  Calls Tryz.prog 156 #[v] w (Dn w n m):=by
 obtain⟨a,cap,rfl,_,hr,h4⟩:=h.row;have HRC:Hid (Mx.Rc n m):=hr;have hmk:=wC m.length aa;have H4:=ae h4;clear hr h4 h;generalize hml:m.length=q at*;have HQ:=ae hml;clear hml
 go_enter Tryz.func156,Tryz.ntmps156
 go_wp2_with fail
 go_loopw [11] (fun i wr=>∃(k:Nat) (gs cs:Nat->Nat),k<=q/\i= .int .i64 ((k:Int))/\Below w.heap.size w wr/\Hid (MB wr w.heap.size w.heap.size q gs cs n (m.take k)/\∀i,i<k->0<n->w.heap.size<gs i/\gs i<wr.heap.size)) (fun i _=>q-(intOf i).toNat)
 case atStart=>
  exact⟨0,id,id,by omega,rfl,by exact bel,MB.made w w.heap.size q n id id (af _),fun i hi=>by omega⟩
 case round=>
  obtain⟨k,gs,cs,hk,rfl,hB,HR⟩:=hrel;have hlt:w.heap.size<wr.heap.size:=HR.out.1.lt;by_cases hkn:k<q
  ·have hkn2:(k:Int)<(q:Int):=by omega
   rcases H4.out with h0|⟨gm,om,ha,hal,hcc⟩
   ·have:=HQ.out;rw[h0]at this;simp at this;omega
   obtain⟨b,c,cz,hza⟩:=hcc k hkn;have cz2:=(hB.cell (p:=⟨gm,om+k,none⟩) hal).trans cz;subst ha;have HZA:=ae (hza.below hB (af _));obtain⟨u,hu⟩:=HR.out.1.hl k hkn;have hfr:=HR.out.1.fr k;have HL:=ae (yx (M:=m) (i:=k) (by rw[HQ.out];exact hkn));clear hcc hza cz
   go_wp2_with (first|(go_at_call 189;(with_reducible refine(Cs _ n (Mx.rw m k) hn _ ?_).mono ?_);(exact HZA.out.below (B:=wr.heap.size) aJ (af _));rintro e w4 ⟨⟨b4,g4',c4,rfl,hc4,hA4,hy⟩,hb4⟩;have HY:=ae (And.intro hc4 (And.intro hA4 hy));clear hc4 hA4 hy;have HB4:=ae hb4;obtain⟨g4,rfl⟩:=mob hb4;clear hb4))
   go_roundw
   case rel=>
    have hkl:(m.take k).length=k:=by rw[aP,HQ.out];omega
    have hp:=(HR.out.1.below HB4.out (af _)).push (g:=g4') (c:=c4) (b:=b4) (zs:=Mx.rw m k) (by rw[hkl];exact hkn) (HRC.out.rw (by rw[HQ.out];exact hkn)) HY.out.1 HY.out.2.1 (fun h0=>⟨(HY.out.2.2 h0).1,(HY.out.2.2 h0).2.2,by have:=(HY.out.2.2 h0).2.1;omega,by have:=(HY.out.2.2 h0).2.1;omega,fun i hi=>by
     have h1:=(HR.out.2 i (by rw[hkl]at hi;exact hi) h0).2;have:=(HY.out.2.2 h0).2.1;omega⟩)
    rw[<-wi HL.out,hkl]at hp;have e5:(more wr g4).setCell ⟨w.heap.size,k,none⟩ (.slice b4 n c4)=more (wr.setCell ⟨w.heap.size,k,none⟩ (.slice b4 n c4)) g4:=jW _ _ _ _ hlt;rw[e5]at hp;refine⟨k+1,_,_,by omega,by go_num,by exact bel,hp,fun i hi h0=>?_⟩;have hsz:(more (wr.setCell ⟨w.heap.size,k,none⟩ (.slice b4 n c4)) g4).heap.size=(more wr g4).heap.size:=by simp
    rw[hsz];by_cases e:i=k
    ·rw[aj e];have h1:=(HY.out.2.2 h0).2.1;have h2:=(HY.out.2.2 h0).2.2.lt;omega
    ·rw[ah e];have h1:=HR.out.2 i aa h0;have:wr.heap.size<=(more wr g4).heap.size:=HB4.out.size;omega
   case measure=>simp[intOf];omega
  ·obtain rfl:k=q:=by omega
   have hkn2:¬(k:Int)<(k:Int):=by omega
   go_wp2_with fail
   go_ret
   refine⟨⟨w.heap.size,gs,cs,k,by rw[HQ.out];rfl,by rw[HQ.out];exact af _,?_⟩,hB⟩;have h1:=HR.out.1;rw[cR (by rw[HQ.out];exact af _)]at h1;rw[HQ.out];exact h1
end
section
open Go.RowKit Go.BigFrame
attribute [local go_sem ↓] Go.wp_at_zero Go.wp_at_succ
def unitR(n k:Nat):List Int:=(List.replicate n 0).set k 1
end
section
open Go.RowKit Go.BigFrame
attribute [local go_sem ↓] Go.wp_at_zero Go.wp_at_succ
def zS(w:World)(base:Nat)(T:TypeId)(v:Value)(l:List Value):Prop:=w.ownsRow base T 1 v l.length l
structure Grew(w w':World)(base:Nat)(T:TypeId)(v v':Value)(l:List Value)(u:Value):Prop where
 own:zS w' base T v' (l++[u])
 by':w.grownBy w' v.ownBlock
 at':v'.ownBlock=v.ownBlock\/v'.ownBlock=some w.heap.size
theorem Grew.other{w w':World}{base:Nat}{T T2:TypeId}{v v' v2:Value}{l l2:List Value}{u:Value}(h:Grew w w' base T v v' l u)(h2:zS w base T2 v2 l2)(ha:v2.ownBlock=none\/v2.ownBlock≠v.ownBlock):zS w' base T2 v2 l2:=
 World.ownsRow.kept h2 h.by' ha
structure Two(w0 wr w6:World)(base:Nat)(T:TypeId)(v:Value)(l:List Value)(v2:Value)(l2:List Value):Prop where
 bl:Below base w0 w6
 a:zS w6 base T v l
 b:zS w6 base T v2 l2
 ap:v2.ownBlock=none\/v2.ownBlock≠v.ownBlock
 sz:wr.heap.size<=w6.heap.size
theorem Two.symm{w0 wr w6:World}{base:Nat}{T:TypeId}{v v2:Value}{l l2:List Value}(h:Two w0 wr w6 base T v l v2 l2):Two w0 wr w6 base T v2 l2 v l:=
 ⟨h.bl,h.b,h.a,by
  rcases h.ap with e|e
  ·cases e2:v.ownBlock with
   |none=>exact .inl rfl
   |some b=>right;rw[e];intro e3;cases e3
  ·exact .inr (Ne.symm e),h.sz⟩
def extM(M:Mx.Mat):Mx.Mat:=(List.range M.length).map fun i=>Mx.rw M i++unitR M.length i
def tk(n:Nat)(M:Mx.Mat):Mx.Mat:=M.map (List.take n)
theorem RA.take{w:World}{g o:Nat}{zs:List Int}(h:RA w g o zs)(n:Nat):RA w g o (zs.take n):=⟨h.lt,fun k z hz=>h.c k z (by
 rw[fC]at hz;split at hz
 ·exact hz
 ·cases hz)⟩
theorem RA.drop{w:World}{g o:Nat}{zs:List Int}(h:RA w g o zs)(n:Nat):RA w g (o+n*2) (zs.drop n):=⟨h.lt,fun k z hz=>by
 rw[gJ]at hz;have:=h.c (n+k) z hz;rwa[show o+(n+k)*2=o+n*2+k*2 by omega]at this⟩
end
section
open Go.RowKit Go.BigFrame
attribute [local go_sem ↓] Go.wp_at_zero Go.wp_at_succ
instance decI64 (z:Int):Decidable (I64 z):=by unfold I64;exact inferInstance
def smv(z:Int):Int:=if I64 z then z else 0
theorem LJ(a b:Nat)(h:b<4294967296):(a*4294967296)|||b=a*4294967296+b:=by
 have:=B7 (i:=32) (b:=b) h a;rw[show(2:Nat)^32=4294967296 from rfl,bs]at this;exact this.symm
theorem Lk{l:List Nat}(h:l.length<=2):Dg.vl B32 l=l.getD 1 0*4294967296+l.getD 0 0:=by
 match l with
 |[]=>rfl
 |[x]=>simp[Dg.vl]
 |[x,y]=>simp[Dg.vl,B32,lg,bs]
 |x::y::z::l=>simp at h
theorem Ed{z:Int}(h:I64 z):smv z=z:=aj h
theorem vD{z:Int}(h:¬I64 z):smv z=0:=ah h
theorem Fw{z:Int}(h:I64 z):decide (I64 z)=true:=by rw[eA];exact h
theorem vS{z:Int}(h:¬I64 z):decide (I64 z)=false:=by rw[dD];exact h
def MX(w:World)(z:Int)(e:Ending)(w':World):Prop:=e= .returned (.tuple #[.int .i64 (smv z),.bool (decide (I64 z))])/\Below w.heap.size w w'
set_option maxRecDepth 10000 in
set_option maxHeartbeats 8000000 in
theorem Ef(x:IV)(z:Int)(fz:Fit z)(w:World)(hx:IP w x z):
  Calls Tryz.prog 120 #[.agg #[.bool x.s,.slice x.a x.n x.cap]] w (MX w z):=by
 obtain⟨l,h1,rfl⟩:=hx;have bl:=fy h1.nf fz;have S1:=ae (fun w (h:IW w x l)=>fe x l aa w h);have AT:=ae (fun i (hi:i<=10) w h=>rD l x.a l.length i aa aa h1.nf.dg w h);have H1:=ae h1;by_cases hl:l.length<=2
 ·have hv:=Lk hl;have d0:l.getD 0 0<4294967296:=Dg.bw h1.nf.dg az 0;have d1:l.getD 1 0<4294967296:=Dg.bw h1.nf.dg az 1;have A0:Hid (∀w,WS w x.a l->Calls Tryz.prog 166 #[.slice x.a l.length l.length,.int .i64 0] w fun e w'=>e= .returned (.int .u64 ((l.getD 0 0:Nat):Int))/\w'=w):=AT.out 0 aa;have A1:Hid (∀w,WS w x.a l->Calls Tryz.prog 166 #[.slice x.a l.length l.length,.int .i64 1] w fun e w'=>e= .returned (.int .u64 ((l.getD 1 0:Nat):Int))/\w'=w):=AT.out 1 aa;have HLL:=ae hl;obtain⟨s,a,n,cap⟩:=x;simp only[]at S1 A0 A1⊢;generalize l.getD 0 0=x0 at*;generalize l.getD 1 0=x1 at*;rw[hv];generalize hN:x1*4294967296+x0=N;obtain⟨sh,hsh⟩:∃sh,sh=x1*4294967296:=⟨_,rfl⟩;have e1:IntKind.u64.wrap ((x1:Int)*4294967296)=(sh:Int):=by rw[eu,hsh];omega
  have e2:bits .or .u64 (sh:Int) (x0:Int)=(N:Int):=by rw[u64_or_nat sh x0 aa aa,hsh,LJ x1 x0 d0,hN]
  have hl3:¬(2:Int)<(l.length:Int):=by omega
  have hl4:decide ((2:Int)<(l.length:Int))=false:=by rw[dD];exact hl3
  have hN2:(N:Int)<18446744073709551616:=by omega
  have hlI:(l.length:Int)<=2:=by omega
  generalize hL:l.length=q at*;clear h1 hv bl d0 d1 AT hsh hN;cases s
  ·have hz:Dg.iv false N=(N:Int):=by simp[Dg.iv]
   by_cases hs:N<9223372036854775808
   ·have t1:(N:Int)<9223372036854775808:=by omega
    have t2:decide ((N:Int)<9223372036854775808)=true:=by rw[eA];exact t1
    have HI:Hid (I64 (Dg.iv false N)):=by show I64 _;rw[hz];unfold I64;omega
    have HZ:=ae hz;clear hs hz
    go_enter Tryz.func120,Tryz.ntmps120
    go_wp2_with (first|(go_at_call 163;(with_reducible refine(S1.out _ ?_).mono ?_);(exact H1.out.below (B:=w.heap.size) aJ (af _));rintro e w1 ⟨rfl,hb1⟩;obtain⟨g1,rfl⟩:=mob hb1;clear hb1)|(go_at_call 166;(first|(with_reducible refine(A0.out _ ?_).mono ?_)|(with_reducible refine(A1.out _ ?_).mono ?_));(exact H1.out.ws.below (B:=w.heap.size) aJ (af _));rintro e w2 ⟨rfl,rfl⟩))
    refine bodyPost_ret (v:=.tuple #[.int .i64 ((N:Int)),.bool true]) xM rfl ⟨?_,by exact bel⟩;rw[Ed HI.out,Fw HI.out,HZ.out]
   ·have t1:¬(N:Int)<9223372036854775808:=by omega
    have t2:decide ((N:Int)<9223372036854775808)=false:=by rw[dD];exact t1
    have HI:Hid (¬I64 (Dg.iv false N)):=by show¬I64 _;rw[hz];unfold I64;omega
    clear hs hz
    go_enter Tryz.func120,Tryz.ntmps120
    go_wp2_with (first|(go_at_call 163;(with_reducible refine(S1.out _ ?_).mono ?_);(exact H1.out.below (B:=w.heap.size) aJ (af _));rintro e w1 ⟨rfl,hb1⟩;obtain⟨g1,rfl⟩:=mob hb1;clear hb1)|(go_at_call 166;(first|(with_reducible refine(A0.out _ ?_).mono ?_)|(with_reducible refine(A1.out _ ?_).mono ?_));(exact H1.out.ws.below (B:=w.heap.size) aJ (af _));rintro e w2 ⟨rfl,rfl⟩))
    refine bodyPost_ret (v:=.tuple #[.int .i64 (0),.bool false]) xM rfl ⟨?_,by exact bel⟩;rw[vD HI.out,vS HI.out]
  ·have hz:Dg.iv true N= -(N:Int):=by simp[Dg.iv]
   by_cases hs:N<=9223372036854775808
   ·have t1:(N:Int)<=9223372036854775808:=by omega
    have t2:decide ((N:Int)<=9223372036854775808)=true:=by rw[eA];exact t1
    have HI:Hid (I64 (Dg.iv true N)):=by show I64 _;rw[hz];unfold I64;omega
    have HZ:=ae hz;obtain⟨u,hu⟩:∃u:Int,u=(-(N:Int))%18446744073709551616:=⟨_,rfl⟩;have e3:IntKind.u64.wrap (-(N:Int))=u:=by rw[eu,hu]
    have e4:IntKind.i64.wrap u= -(N:Int):=by rw[hu,IntKind.wrap_i64];omega
    clear hs hz hu
    go_enter Tryz.func120,Tryz.ntmps120
    go_wp2_with (first|(go_at_call 163;(with_reducible refine(S1.out _ ?_).mono ?_);(exact H1.out.below (B:=w.heap.size) aJ (af _));rintro e w1 ⟨rfl,hb1⟩;obtain⟨g1,rfl⟩:=mob hb1;clear hb1)|(go_at_call 166;(first|(with_reducible refine(A0.out _ ?_).mono ?_)|(with_reducible refine(A1.out _ ?_).mono ?_));(exact H1.out.ws.below (B:=w.heap.size) aJ (af _));rintro e w2 ⟨rfl,rfl⟩))
    refine bodyPost_ret (v:=.tuple #[.int .i64 ((-(N:Int))),.bool true]) xM rfl ⟨?_,by exact bel⟩;rw[Ed HI.out,Fw HI.out,HZ.out]
   ·have t1:¬(N:Int)<=9223372036854775808:=by omega
    have t2:decide ((N:Int)<=9223372036854775808)=false:=by rw[dD];exact t1
    have HI:Hid (¬I64 (Dg.iv true N)):=by show¬I64 _;rw[hz];unfold I64;omega
    clear hs hz
    go_enter Tryz.func120,Tryz.ntmps120
    go_wp2_with (first|(go_at_call 163;(with_reducible refine(S1.out _ ?_).mono ?_);(exact H1.out.below (B:=w.heap.size) aJ (af _));rintro e w1 ⟨rfl,hb1⟩;obtain⟨g1,rfl⟩:=mob hb1;clear hb1)|(go_at_call 166;(first|(with_reducible refine(A0.out _ ?_).mono ?_)|(with_reducible refine(A1.out _ ?_).mono ?_));(exact H1.out.ws.below (B:=w.heap.size) aJ (af _));rintro e w2 ⟨rfl,rfl⟩))
    refine bodyPost_ret (v:=.tuple #[.int .i64 (0),.bool false]) xM rfl ⟨?_,by exact bel⟩;rw[vD HI.out,vS HI.out]
 ·have hlen:2<l.length:=by omega
  have hbig:18446744073709551616<=Dg.vl B32 l:=by
   obtain⟨m,hm⟩:∃m,l.length=m+1:=⟨l.length-1,by omega⟩;have k1:=Dg.kb hm h1.nf;have k2:B32^2<=B32^m:=cE az aa;have k3:B32^2=18446744073709551616:=by decide
   omega
  have HI:Hid (¬I64 (Dg.iv x.s (Dg.vl B32 l))):=by
   intro h;have h2:=Dg.jF x.s (Dg.vl B32 l);unfold I64 at h;omega
  have hl3:(2:Int)<(l.length:Int):=by omega
  have hl4:decide ((2:Int)<(l.length:Int))=true:=by rw[eA];exact hl3
  obtain⟨s,a,n,cap⟩:=x;simp only[]at S1 HI⊢;generalize Dg.iv s (Dg.vl B32 l)=z at*;generalize hL:l.length=q at*;clear h1 bl AT hL hbig hl hlen
  go_enter Tryz.func120,Tryz.ntmps120
  go_wp2_with (go_at_call 163;(with_reducible refine(S1.out _ ?_).mono ?_);(exact H1.out.below (B:=w.heap.size) aJ (af _));rintro e w1 ⟨rfl,hb1⟩;obtain⟨g1,rfl⟩:=mob hb1;clear hb1)
  refine bodyPost_ret (v:=.tuple #[.int .i64 (0),.bool false]) xM rfl ⟨?_,by exact bel⟩;rw[vD HI.out,vS HI.out]
end
section
open Go.RowKit Go.BigFrame
attribute [local go_sem ↓] Go.wp_at_zero Go.wp_at_succ
structure IO'(w:World)(g:Nat)(zs:List Int):Prop where
 lt:g<w.heap.size
 c:∀(k:Nat) (z:Int),zs[k]?=some z->w.cell? ⟨g,k,none⟩=some (.int .i64 z)
 fr:∀k,w.frozen? ⟨g,k,none⟩=false
theorem IO'.z{w:World}{g:Nat}{zs:List Int}(h:IO' w g zs):ZAt w (some ⟨g,0,none⟩) zs:=
 .inr ⟨⟨g,0,none⟩,rfl,h.lt,fun k x hx=>by
  have e:(⟨g,0,none⟩:Addr).add k=⟨g,k,none⟩:=by unfold Addr.add;split<;>simp_all
  rw[e];exact h.c k x hx⟩
theorem G2:(Tryz.prog.info? 3).map (fun i=>(i.zero,i.size,i.bytes))=some (some (.int .i64 0),1,8):=by kernel_rfl
theorem E0(n:Nat)(hn:n<=1000000000)(w:World):
  (Instr.makeSlice 40 (.int .i64 (n:Int)) (.int .i64 (n:Int))).run Tryz.prog w= .ok (.slice (some ⟨w.heap.size,0,none⟩) n n) (w.alloc (.cells (madeCells #[.int .i64 0] n) 3)):=by
 obtain⟨i,hi,hz,hs,hb⟩:=iZ G2;have hr:=run_make (P:=Tryz.prog) w 40 3 i _ Tryz.underlying40 hi hz .i64 .i64 n n aa (qI _) (by rw[hb];omega) aa;rw[hs]at hr;simpa[Value.cells]using hr
theorem IO'.made(w:World)(n:Nat):IO' (w.alloc (.cells (madeCells #[.int .i64 0] n) 3)) w.heap.size (List.replicate n 0):=by
 have hh:=heap_alloc_new w (.cells (madeCells #[.int .i64 0] n) 3);refine⟨by simp,fun k z hz=>?_,fun k=>?_⟩
 ·rw[oY]at hz;split at hz
  ·cases hz;rw[cell_of_row _ w.heap.size _ _ _ (0,0) hh];unfold madeCells;rw[oe,od,aj aa];simp[Nat.mod_one]
  ·cases hz
 ·simp only[World.frozen?];rw[hh];simp
end
section
open Go.RowKit Go.BigFrame
attribute [local go_sem ↓] Go.wp_at_zero Go.wp_at_succ
def Jy(W0 wr:World)(b:Nat)(z:Int):Prop:=Chg b W0 wr/\(∀k,wr.frozen? ⟨b,k,none⟩=false)/\b<wr.heap.size/\∃y:IV,wr.cell? ⟨b,0,none⟩=some (.bool y.s)/\wr.cell? ⟨b,1,none⟩=some (.slice y.a y.n y.cap)/\IZ wr y z
theorem Jy.nw{W0 w:World}{b:Nat}{z:Int}(h:Jy W0 w b z):NW w b:=fun n e=>by
 obtain⟨_,_,_,y,h4,_⟩:=h;rw[h4]at e;cases e
end
section
open Go.RowKit Go.BigFrame
attribute [local go_sem ↓] Go.wp_at_zero Go.wp_at_succ
theorem RO.zero(w:World)(n:Nat):RO (w.alloc (.cells (madeCells #[.bool false,.slice none 0 0] (n*2)) 62)) w.heap.size (List.replicate n 0):=⟨_,RI.made w n⟩
end
section
open Go.RowKit Go.BigFrame
attribute [local go_sem ↓] Go.wp_at_zero Go.wp_at_succ
theorem NW.below{B:Nat}{w w':World}{g:Nat}(h:NW w g)(hb:Below B w w')(hB:w.heap.size<=B)(hg:g<w.heap.size):NW w' g:=
 h.lY (hb.cell (p:=⟨g,0,none⟩) (aK hg hB))
end
section
open Go.RowKit Go.BigFrame
attribute [local go_sem ↓] Go.wp_at_zero Go.wp_at_succ
def inb(L:Int)(z:Int):Bool:=decide (-L<=z)&&decide (z<=L)
set_option maxRecDepth 10000 in
theorem ud(z L:Int)(hL:0<=L)(hL2:L<=1000000000000000000)(w:World):
  Calls Tryz.prog 91 #[.int .i64 z,.int .i64 L] w fun e w'=>e= .returned (.bool (inb L z))/\Below w.heap.size w w':=by
 by_cases h1: -L<=z
 ·have d1:decide (-L<=z)=true:=by rw[eA];exact h1
  have E:Hid (inb L z=decide (z<=L)):=by show inb L z=_;unfold inb;rw[d1];rfl
  go_enter Tryz.func91,Tryz.ntmps91
  go_wp2_with fail
  go_ret
  exact⟨by rw[E.out];rfl,by exact bel⟩
 ·have d1:decide (-L<=z)=false:=by rw[dD];exact h1
  have E:Hid (inb L z=false):=by show inb L z=_;unfold inb;rw[d1];rfl
  go_enter Tryz.func91,Tryz.ntmps91
  go_wp2_with fail
  go_ret
  exact⟨by rw[E.out];rfl,by exact bel⟩
def wid(m:List (List Int)):Nat:=(m.headD []).length
set_option maxRecDepth 10000 in
theorem we(m:List (List Int))(v:Value)(hm:m.length<=1000000000)(w:World)(h:ZM w v m):
  Calls Tryz.prog 111 #[v] w fun e w'=>e= .returned (.int .i64 ((wid m:Int)))/\Below w.heap.size w w':=by
 obtain⟨a,cap,rfl,_,h4⟩:=h;rcases m with _|⟨l,m⟩
 ·go_enter Tryz.func111,Tryz.ntmps111
  go_wp2_with fail
  go_ret
  exact⟨rfl,by exact bel⟩
 ·rcases h4 with h4|⟨a0,rfl,_,h5⟩
  ·cases h4
  obtain⟨b,c,cz,_⟩:=h5 0 l rfl;have e0:a0.add 0=a0:=by cases a0;unfold Addr.add;split<;>simp_all
  have cz2:=cz;rw[e0]at cz2;have E:Hid (wid (l::m)=l.length):=rfl;rw[dh]at hm⊢;generalize m.length=q at*;have hq:¬(q:Int)+1=0:=by omega
  have hq1:(0:Int)<(q:Int)+1:=by omega
  have hq2:¬q+1=0:=by omega
  clear h5
  go_enter Tryz.func111,Tryz.ntmps111
  go_wp2_with fail
  go_ret
  exact⟨by rw[E.out];rfl,by exact bel⟩
def xx{α:Type}(p:α->Bool)(l:List α)(r:Int):Prop:=(r= -1/\∀x∈l,p x=false)\/∃(k:Nat) (x:α),r=k/\l[k]?=some x/\p x=true/\∀j y,j<k->l[j]?=some y->p y=false
theorem xx.any{α:Type}{p:α->Bool}{l:List α}{r:Int}(h:xx p l r):decide (0<=r)=l.any p:=by
 rcases h with⟨rfl,h⟩|⟨k,x,rfl,h1,h2,_⟩
 ·symm;rw[show decide ((0:Int)<=-1)=false from rfl,oh];exact fun x hx=>by rw[h x hx];simp
 ·rw[show l.any p=true from dQ.2 ⟨x,bh h1,h2⟩];simp
def M7(w:World){α:Type}(p:α->Bool)(l:List α)(e:Ending)(w':World):Prop:=(∃r:Int,e= .returned (.int .i64 r)/\I64 r/\xx p l r)/\Below w.heap.size w w'
set_option maxRecDepth 10000 in
set_option maxHeartbeats 2000000 in
theorem G4(l:List Int)(b:Option Addr)(c:Nat)(hl:l.length<=1000000000)(g:Nat)(p:Int->Bool)(eg:∀args w,(callFunc g args).run Tryz.prog w= .ok (.enter g args) w)(hp:∀x w,Calls Tryz.prog g #[.int .i64 x] w fun e w'=>e= .returned (.bool (p x))/\Below w.heap.size w w')(w:World)(h:ZAt w b l):
  Calls Tryz.prog 157 #[.slice b l.length c,.func (.func g) #[] #[]] w (M7 w p l):=by
 have H:=ae h;have HP:Hid _:=hp;clear h hp;generalize hn:l.length=n at*;have HN:=ae hn;clear hn
 go_enter Tryz.func157,Tryz.ntmps157
 go_wp2_with fail
 go_loopw [8] (fun i wr=>∃k:Nat,k<=n/\i= .int .i64 ((k:Int))/\Below w.heap.size w wr/\Hid (∀j y,j<k->l[j]?=some y->p y=false)) (fun i _=>n-(intOf i).toNat)
 case atStart=>exact⟨0,by omega,rfl,by exact bel,fun j y hj=>by omega⟩
 case round=>
  obtain⟨k,hk,rfl,hB,HJ⟩:=hrel;by_cases hkn:k<n
  ·have hkn2:(k:Int)<(n:Int):=by omega
   obtain⟨z,hz⟩:∃z,l[k]?=some z:=⟨l[k]'(by rw[HN.out];omega),aV _⟩;rcases H.out.below hB (af _)with h0|⟨a0,ha,hal,hcc⟩
   ·rw[h0]at hz;simp at hz
   have cz:=hcc k z hz;subst ha;have HPz:=ae (HP.out z);have hsw:w.heap.size<=wr.heap.size:=hB.size;have HZ:=ae hz;clear hcc hz;generalize hpz:p z=pz at HPz;have HQ:=ae hpz;clear hpz;cases pz
   ·go_wp2_with (go_at_fn g;(with_reducible refine(HPz.out _).mono ?_);rintro e w4 ⟨rfl,hb4⟩;have HB4:=ae hb4;obtain⟨g4,rfl⟩:=mob hb4;clear hb4)
    go_roundw
    case rel=>
     refine⟨k+1,by omega,by go_num,by exact bel,fun j y hj hy=>?_⟩;by_cases e:j=k
     ·subst e;rw[HZ.out]at hy;cases hy;exact HQ.out
     ·exact HJ.out j y aa hy
    case measure=>simp[intOf];omega
   ·go_wp2_with (go_at_fn g;(with_reducible refine(HPz.out _).mono ?_);rintro e w4 ⟨rfl,hb4⟩;have HB4:=ae hb4;obtain⟨g4,rfl⟩:=mob hb4;clear hb4)
    go_ret
    exact⟨⟨(k:Int),rfl,⟨by omega,by omega⟩,.inr ⟨k,z,rfl,HZ.out,HQ.out,HJ.out⟩⟩,by exact bel⟩
  ·obtain rfl:k=n:=by omega
   have hkn2:¬(k:Int)<(k:Int):=by omega
   go_wp2_with fail
   go_ret
   refine⟨⟨-1,rfl,⟨by omega,by omega⟩,.inl ⟨rfl,fun x hx=>?_⟩⟩,hB⟩;obtain⟨j,hj,e⟩:=xo hx;exact HJ.out j x (by rw[<-HN.out];exact hj) (by rw[aV hj,e])
set_option maxRecDepth 10000 in
theorem zO(l:List Int)(b:Option Addr)(c:Nat)(hl:l.length<=1000000000)(g:Nat)(p:Int->Bool)(eg:∀args w,(callFunc g args).run Tryz.prog w= .ok (.enter g args) w)(hp:∀x w,Calls Tryz.prog g #[.int .i64 x] w fun e w'=>e= .returned (.bool (p x))/\Below w.heap.size w w')(w:World)(h:ZAt w b l):
  Calls Tryz.prog 89 #[.slice b l.length c,.func (.func g) #[] #[]] w fun e w'=>e= .returned (.bool (l.any p))/\Below w.heap.size w w':=by
 have IX:=ae (fun w h=>G4 l b c hl g p eg hp w h);have H:=ae h;have HA:=ae (fun r (h:xx p l r)=>h.any);clear h hp eg;generalize l.length=n at*
 go_enter Tryz.func89,Tryz.ntmps89
 go_wp2_with (go_at_call 157;(with_reducible refine(IX.out _ ?_).mono ?_);(exact H.out.below (B:=w.heap.size) aJ (af _));rintro e w4 ⟨⟨r,rfl,hi,hr⟩,hb4⟩;have HR:=ae hr;clear hr;obtain⟨g4,rfl⟩:=mob hb4;clear hb4)
 all_goals go_ret
 all_goals exact⟨by rw[<-HA.out r HR.out];first|rfl|(congr 2;simp;omega)|simp,by exact bel⟩
end
section
open Go.RowKit Go.BigFrame
attribute [local go_sem ↓] Go.wp_at_zero Go.wp_at_succ
def big(z:Int):Bool:=!(inb 1000000000000000 z)
def chk(m:List (List Int)):Int:=if m.all (fun r=>r.length==wid m)=true then(if 64<m.length\/64<wid m then 8 else if m.any (fun r=>r.any big)=true then 2 else 0)else 9
theorem chk9{m:List (List Int)}{r:List Int}(h:r∈m)(h2:r.length≠wid m):chk m=9:=by
 unfold chk;rw[ah];intro h3;have:=fD.1 h3 r h;simp at this;exact h2 this
theorem su{m:List (List Int)}(h:∀(j:Nat) (r:List Int),j<m.length->m[j]?=some r->r.length=wid m):m.all (fun r=>r.length==wid m)=true:=by
 rw[fD];intro r hr;obtain⟨j,hj,e⟩:=xo hr;simpa using h j r hj (by rw[aV hj,e])
theorem C5{m:List (List Int)}(h:m.all (fun r=>r.length==wid m)=true)(h2:64<m.length\/64<wid m):chk m=8:=by
 unfold chk;rw[aj h,aj h2]
theorem chk2{m:List (List Int)}(h:m.all (fun r=>r.length==wid m)=true)(h2:¬(64<m.length\/64<wid m)){r:List Int}(h3:r∈m)(h4:r.any big=true):chk m=2:=by
 unfold chk;rw[aj h,ah h2,aj (dQ.2 ⟨r,h3,h4⟩)]
theorem chk0{m:List (List Int)}(h:m.all (fun r=>r.length==wid m)=true)(h2:¬(64<m.length\/64<wid m))(h3:∀(j:Nat) (r:List Int),j<m.length->m[j]?=some r->r.any big=false):chk m=0:=by
 unfold chk;rw[aj h,ah h2,ah];intro h4;obtain⟨r,hr,h5⟩:=dQ.1 h4;obtain⟨j,hj,e⟩:=xo hr;rw[h3 j r hj (by rw[aV hj,e])]at h5;cases h5
set_option maxRecDepth 10000 in
theorem KO(z:Int)(w:World):
  Calls Tryz.prog 113 #[.int .i64 z] w fun e w'=>e= .returned (.bool (big z))/\Below w.heap.size w w':=by
 have WI:=ae (fun w=>ud z 1000000000000000 aa aa w);have E:Hid (big z= !(inb 1000000000000000 z)):=rfl;generalize inb 1000000000000000 z=c at*
 go_enter Tryz.func113,Tryz.ntmps113
 go_wp2_with (go_at_call 91;(with_reducible refine(WI.out _).mono ?_);rintro e w4 ⟨rfl,hb4⟩;obtain⟨g4,rfl⟩:=mob hb4;clear hb4)
 go_ret
 exact⟨by rw[E.out];rfl,by exact bel⟩
theorem Db:∀args w,(callFunc 113 args).run Tryz.prog w= .ok (.enter 113 args) w:=enters_of Tryz.func113 ak rfl
set_option maxRecDepth 10000 in
set_option maxHeartbeats 4000000 in
theorem FF(m:List (List Int))(v:Value)(hm:m.length<=1000000000)(hr:∀r∈m,r.length<=1000000000)(w:World)(h:ZM w v m):
  Calls Tryz.prog 40 #[v] w fun e w'=>e= .returned (.int .i64 (chk m))/\Below w.heap.size w w':=by
 have WI:=ae (fun w h=>we m v hm w h);have AN:=ae (fun (r:List Int) (hr':r∈m) b c w h=>zO r b c (hr r hr') _ big Db (fun x w=>KO x w) w h);have H:=ae h;have C9:=ae (fun (r:List Int) (h:r∈m) h2=>chk9 h h2);have CA:=ae (su (m:=m));have C8:=ae (C5 (m:=m));have C2:=ae (fun h h2 (r:List Int) h3 h4=>chk2 (m:=m) h h2 (r:=r) h3 h4);have C0:=ae (chk0 (m:=m));have HW1:Hid (wid m<=1000000000):=by
  show wid m<=1000000000;unfold wid
  cases m with
  |nil=>simp
  |cons a l=>exact hr a aU
 have hW:=HW1.out;have HLR:Hid _:=hr;obtain⟨a,cap,rfl,_,h4⟩:=h;have H4:=ae h4;clear h4 hr;generalize hml:m.length=q at*;generalize wid m=W at*;have HQ:=ae hml;clear hml;generalize chk m=R at*
 go_enter Tryz.func40,Tryz.ntmps40
 go_wp2_with fail
 go_loopw [9] (fun i wr=>∃k:Nat,k<=q/\i= .int .i64 ((k:Int))/\Below w.heap.size w wr/\Hid (∀(j:Nat) (r:List Int),j<k->m[j]?=some r->r.length=W)) (fun i _=>q-(intOf i).toNat)
 case atStart=>exact⟨0,by omega,rfl,by exact bel,fun j r hj=>by omega⟩
 case round=>
  obtain⟨k,hk,rfl,hB,HJ⟩:=hrel;have hsw:w.heap.size<=wr.heap.size:=hB.size;by_cases hkn:k<q
  ·have hkn2:(k:Int)<(q:Int):=by omega
   obtain⟨l,hl⟩:∃l,m[k]?=some l:=⟨m[k]'(by rw[HQ.out];omega),aV _⟩;rcases H4.out with h0|⟨a0,ha,hal,hcc⟩
   ·rw[h0]at hl;simp at hl
   obtain⟨b,c,cz,_⟩:=hcc k l hl;have cz2:=lR hB (af _) cz;subst ha;have HL:=ae hl;have hll:l.length<=1000000000:=HLR.out l (bh hl);clear hcc cz hl;generalize hgl:l.length=p at*;have HP:=ae hgl;clear hgl;by_cases he:p=W
   ·subst he
    go_wp2_with (go_at_call 111;(with_reducible refine(WI.out _ ?_).mono ?_);(exact H.out.below (B:=w.heap.size) aJ (af _));rintro e w4 ⟨rfl,hb4⟩;obtain⟨g4,rfl⟩:=mob hb4;clear hb4)
    go_roundw
    case rel=>
     refine⟨k+1,by omega,by go_num,by exact bel,fun j y hj hy=>?_⟩;by_cases e:j=k
     ·subst e;rw[HL.out]at hy;cases hy;exact HP.out
     ·exact HJ.out j y aa hy
    case measure=>simp[intOf];omega
   ·have he2:¬(p:Int)=(W:Int):=by omega
    have E:Hid (R=9):=C9.out l (bh HL.out) (by rw[HP.out];exact he)
    go_wp2_with (go_at_call 111;(with_reducible refine(WI.out _ ?_).mono ?_);(exact H.out.below (B:=w.heap.size) aJ (af _));rintro e w4 ⟨rfl,hb4⟩;obtain⟨g4,rfl⟩:=mob hb4;clear hb4)
    go_ret
    exact⟨by rw[E.out];rfl,by exact bel⟩
  ·obtain rfl:k=q:=by omega
   have hkn2:¬(k:Int)<(k:Int):=by omega
   have HA:=ae (CA.out (fun j r hj hjr=>HJ.out j r hj hjr));by_cases h1:64<k
   ·have h2:(64:Int)<(k:Int):=by omega
    have E:Hid (R=8):=C8.out HA.out (.inl h1)
    go_wp2_with fail
    go_ret
    exact⟨by rw[E.out];rfl,by exact bel⟩
   ·have h2:¬(64:Int)<(k:Int):=by omega
    have h3:decide ((64:Int)<(k:Int))=false:=by rw[dD];exact h2
    by_cases h5:64<W
    ·have h6:(64:Int)<(W:Int):=by omega
     have E:Hid (R=8):=C8.out HA.out (.inr h5)
     go_wp2_with (go_at_call 111;(with_reducible refine(WI.out _ ?_).mono ?_);(exact H.out.below (B:=w.heap.size) aJ (af _));rintro e w4 ⟨rfl,hb4⟩;obtain⟨g4,rfl⟩:=mob hb4;clear hb4)
     go_ret
     exact⟨by rw[E.out];rfl,by exact bel⟩
    ·have h6:¬(64:Int)<(W:Int):=by omega
     have HN:Hid (¬(64<k\/64<W)):=fun h=>h.elim h1 h5
     go_wp2_with (go_at_call 111;(with_reducible refine(WI.out _ ?_).mono ?_);(exact H.out.below (B:=w.heap.size) aJ (af _));rintro e w4 ⟨rfl,hb4⟩;obtain⟨g4,rfl⟩:=mob hb4;clear hb4)
     go_loopw [29] (fun i wx=>∃j:Nat,j<=k/\i= .int .i64 ((j:Int))/\Below w.heap.size w wx/\Hid (∀(j':Nat) (r:List Int),j'<j->m[j']?=some r->r.any big=false)) (fun i _=>k-(intOf i).toNat)
     case atStart=>exact⟨0,by omega,rfl,by exact bel,fun j r hj=>by omega⟩
     case round=>
      obtain⟨j,hj,rfl,hBx,HX⟩:=hrel;have hsx:w.heap.size<=wr.heap.size:=hBx.size;by_cases hjk:j<k
      ·have hjk2:(j:Int)<(k:Int):=by omega
       obtain⟨l,hl⟩:∃l,m[j]?=some l:=⟨m[j]'(by rw[HQ.out];omega),aV _⟩;rcases H4.out with h0|⟨a0,ha,hal,hcc⟩
       ·rw[h0]at hl;simp at hl
       obtain⟨b,c,cz,_,hz⟩:=hcc j l hl;have cz2:=lR hBx (af _) cz;subst ha;have HL:=ae hl;have ANl:=ae (AN.out l (bh hl) b c);have HZ:=ae hz;clear hcc cz hl hz;generalize hgl:l.length=p at*;clear hgl;generalize hab:l.any big=t at*;have HT:=ae hab;clear hab;cases t
       ·go_wp2_with (go_at_call 89;(with_reducible refine(ANl.out _ ?_).mono ?_);(exact HZ.out.below (B:=w.heap.size) aJ (af _));rintro e w4 ⟨rfl,hb4⟩;obtain⟨g4,rfl⟩:=mob hb4;clear hb4)
        go_roundw
        case rel=>
         refine⟨j+1,by omega,by go_num,by exact bel,fun j' y hj' hy=>?_⟩;by_cases e:j'=j
         ·subst e;rw[HL.out]at hy;cases hy;exact HT.out
         ·exact HX.out j' y aa hy
        case measure=>simp[intOf];omega
       ·have E:Hid (R=2):=C2.out HA.out HN.out l (bh HL.out) HT.out
        go_wp2_with (go_at_call 89;(with_reducible refine(ANl.out _ ?_).mono ?_);(exact HZ.out.below (B:=w.heap.size) aJ (af _));rintro e w4 ⟨rfl,hb4⟩;obtain⟨g4,rfl⟩:=mob hb4;clear hb4)
        go_ret
        exact⟨by rw[E.out];rfl,by exact bel⟩
      ·obtain rfl:j=k:=by omega
       have hjk2:¬(j:Int)<(j:Int):=by omega
       have E:Hid (R=0):=C0.out HA.out HN.out (fun j' r h1 h2=>HX.out j' r h1 h2)
       go_wp2_with fail
       go_ret
       exact⟨by rw[E.out];rfl,hBx⟩
end
section
open Go.RowKit
namespace DW
theorem cB{α:Type}{m:List α}{k:Nat}{x:α}(h:m[k]?=some x):m.take (k+1)=m.take k++[x]:=by rw[nd,h];rfl
theorem get_some{α:Type}{m:List α}{k:Nat}(h:k<m.length):∃x,m[k]?=some x:=⟨_,aV h⟩
theorem Ao{m:List (List Int)}(h:0<m.length):∃l,m[0]?=some l/\l.length=wid m:=by
 cases m with
 |nil=>simp at h
 |cons l m=>exact⟨l,rfl,rfl⟩
set_option maxRecDepth 20000
set_option maxHeartbeats 1000000
theorem jr(z a b:Int):Fn Tryz.prog 26 [zI z,zI a,zI b] (.sc (.bool (decide (a<=z)&&decide (z<=b)))):=by
 refine bq Tryz.func26 ak rfl rfl rfl fun X0=>?_;simp only[aQ];by_cases h:z>=a
 ·rw[show(decide (a<=z)&&decide (z<=b))=decide (z<=b) by rw[ay h,tW]];have hd:decide (z>=a)=true:=ay h;refine fR ?_;refine Im ?_;refine zs1 ?_;exact⟨_,Sh.refl,.one (.tmp 6) _ rfl (.tmp 6 rfl)⟩
 ·rw[show(decide (a<=z)&&decide (z<=b))=false by rw[aA h,Bool.false_and]];have hd:decide (z>=a)=false:=aA h;refine fR ?_;refine Im ?_;refine zs1 ?_;exact⟨_,Sh.refl,.one (.tmp 6) _ rfl (.tmp 6 rfl)⟩
theorem Mj(z:Int):Fn Tryz.prog 76 [zI z] (.sc (.bool (inb 1000000000000000 z))):=by
 have W:=jr z (-1000000000000000) 1000000000000000;refine bq Tryz.func76 ak rfl rfl rfl fun X0=>?_;simp only[aQ];refine fR ?_;refine ct ?_;refine xC ?_;refine cJ ?_;exact⟨_,Sh.refl,.one (.tmp 2) _ rfl (.tmp 2 rfl)⟩
theorem wO(m:List (List Int)):Fn Tryz.prog 24 [dM m] (zI (wid m)):=by
 refine bq Tryz.func24 ak rfl rfl rfl fun X0=>?_;simp only[aQ];by_cases h:m.length=0
 ·obtain rfl:=gu h;refine cD ?_;refine rK ?_;refine eN ?_;exact⟨_,Sh.refl,.one (.tmp 2) _ rfl (.tmp 2 rfl)⟩
 ·obtain⟨l,hl,hw⟩:=Ao (m:=m) aa;have hc:(0:Int)=((0:Nat):Int):=rfl;refine cD ?_;refine rK ?_;refine bG ?_;refine ct ?_;refine Bk ?_;refine xB ?_;refine zs4 ?_;refine cJ ?_;rw[<-hw];exact⟨_,Sh.refl,.one (.tmp 2) _ rfl (.tmp 2 rfl)⟩
end DW
end
section
open Go.RowKit
namespace DW
theorem C5{m:List (List Int)}(h:∀(j:Nat) (r:List Int),j<m.length->m[j]?=some r->r.length=wid m)(h2:64<m.length\/64<wid m):chk m=8:=by
 unfold chk;rw[aj (su h),aj h2]
theorem chk2{m:List (List Int)}(h:∀(j:Nat) (r:List Int),j<m.length->m[j]?=some r->r.length=wid m)(h2:¬(64<m.length\/64<wid m)){r:List Int}{z:Int}(hr:r∈m)(hz:z∈r)(hb:inb 1000000000000000 z=false):chk m=2:=by
 unfold chk;rw[aj (su h),ah h2,aj];rw[dQ];refine⟨r,hr,?_⟩;rw[dQ];exact⟨z,hz,by unfold big;rw[hb];rfl⟩
theorem chk0{m:List (List Int)}(h:∀(j:Nat) (r:List Int),j<m.length->m[j]?=some r->r.length=wid m)(h2:¬(64<m.length\/64<wid m))(h3:∀r∈m,∀z∈r,inb 1000000000000000 z=true):chk m=0:=by
 unfold chk;rw[aj (su h),ah h2,ah];intro h4;rw[dQ]at h4;obtain⟨r,hr,h5⟩:=h4;rw[dQ]at h5;obtain⟨z,hz,h6⟩:=h5;unfold big at h6;rw[h3 r hr z hz]at h6;cases h6
set_option maxRecDepth 20000
set_option maxHeartbeats 1000000
theorem KK(m:List (List Int))(hm:m.length<=1000000000):Fn Tryz.prog 17 [dM m] (zI (chk m)):=by
 refine bq Tryz.func17 ak rfl rfl rfl fun X0=>?_;simp only[aQ];have hc0:(0:Int)=((0:Nat):Int):=rfl;have COLS:=wO m;refine cD ?_;refine ew ?_
 (refine aI (av (sl':=[(0,dM m),(3,zI 0)]) (ow':=[]) aE aH) ?_)
 refine aX (fun r s=>∃k,k<=m.length/\r=m.length-k/\(∀(j:Nat) (r:List Int),j<k->m[j]?=some r->r.length=wid m)/\s=⟨[(0,dM m),(3,zI (k:Nat))],[]⟩) (m:=m.length) ⟨0,aO _,rfl,fun j r h=>absurd h (Nat.not_lt_zero j),rfl⟩ fun r s hs=>?_;obtain⟨k,hk,rfl,hall,rfl⟩:=hs;by_cases hkl:k<m.length
 ·obtain⟨l0,hl0,hw⟩:=Ao (m:=m) aa;obtain⟨l,hl⟩:=get_some hkl;by_cases hlw:l.length=wid m
  ·have hn:l.length=l0.length:=by omega
   refine cC ?_;refine Il ?_;refine gU ?_;simp only[nx,inB];exact⟨m.length-(k+1),_,by omega,(av (sl':=[(0,dM m),(3,zI ((k+1:Nat):Int))]) (ow':=[]) aE aH),k+1,by omega,rfl,fun j r hj hr=>by
    by_cases h:j=k
    ·subst h;rw[hl]at hr;cases hr;exact hlw
    ·exact hall j r aa hr,rfl⟩
  ·have hn:l.length≠l0.length:=by omega
   have EC:=chk9 (bh hl) hlw;refine cC ?_;refine Il ?_;refine eN ?_;rw[EC];exact⟨_,Sh.refl,.one (.tmp 2) _ rfl (.tmp 2 rfl)⟩
 ·obtain rfl:k=m.length:=by omega
  obtain⟨W,hW⟩:∃W,W=wid m:=⟨_,rfl⟩;rw[<-hW]at COLS;by_cases h64:64<m.length
  ·have EC:=C5 hall (.inl h64);have hd:decide ((m.length:Int)>64)=true:=ay aa;refine dH ?_;refine BD ?_;refine eN ?_;rw[EC];exact⟨_,Sh.refl,.one (.tmp 2) _ rfl (.tmp 2 rfl)⟩
  ·have hd:decide ((m.length:Int)>64)=false:=aA aa;by_cases hw64:64<W
   ·have EC:=C5 hall (.inr aa);refine dH ?_;refine BD ?_;refine eN ?_;rw[EC];exact⟨_,Sh.refl,.one (.tmp 2) _ rfl (.tmp 2 rfl)⟩
   ·have hno:¬(64<m.length\/64<wid m):=by omega
    refine dH ?_;refine BD ?_;refine bG ?_;refine ew ?_
    (refine aI (av (sl':=[(0,dM m),(4,zI 0)]) (ow':=[]) aE aH) ?_)
    refine aX (fun r s=>∃k,k<=m.length/\r=m.length-k/\(∀l∈m.take k,∀z∈l,inb 1000000000000000 z=true)/\s=⟨[(0,dM m),(4,zI (k:Nat))],[]⟩) (m:=m.length) ⟨0,aO _,rfl,fun l h=>absurd h aU,rfl⟩ fun r s hs=>?_;obtain⟨k,hk,rfl,hin,rfl⟩:=hs;by_cases hkl:k<m.length
    ·obtain⟨l,hl⟩:=get_some hkl;have hlw:l.length=wid m:=hall k l hkl hl;refine cC ?_;refine ew ?_
     (refine aI (av (sl':=[(0,dM m),(4,zI (k:Nat)),(5,zI 0)]) (ow':=[]) aE aH) ?_)
     refine aX (fun r s=>∃j,j<=l.length/\r=l.length-j/\(∀z∈l.take j,inb 1000000000000000 z=true)/\s=⟨[(0,dM m),(4,zI (k:Nat)),(5,zI (j:Nat))],[]⟩) (m:=l.length) ⟨0,aO _,rfl,fun z h=>absurd h aU,rfl⟩ fun r s hs=>?_;obtain⟨j,hj,rfl,hin2,rfl⟩:=hs;by_cases hjl:j<l.length
     ·obtain⟨z,hz⟩:=get_some hjl;have FITS:=Mj z;by_cases hf:inb 1000000000000000 z=true
      ·rw[hf]at FITS;refine zs1 ?_;refine oT ?_;refine bU ?_;refine Ik ?_;refine gU ?_;simp only[nx,inB];exact⟨l.length-(j+1),_,by omega,(av (sl':=[(0,dM m),(4,zI (k:Nat)),(5,zI ((j+1:Nat):Int))]) (ow':=[]) aE aH),j+1,by omega,rfl,fun y hy=>by
        rw[cB hz]at hy;rcases de.1 hy with h|h
        ·exact hin2 y h
        ·rw[bV.1 h];exact hf,rfl⟩
      ·have hf':inb 1000000000000000 z=false:=by simpa using hf
       rw[hf']at FITS;have EC:=chk2 hall hno (bh hl) (bh hz) hf';refine zs1 ?_;refine oT ?_;refine bU ?_;refine Ik ?_;refine eN ?_;rw[EC];exact⟨_,Sh.refl,.one (.tmp 2) _ rfl (.tmp 2 rfl)⟩
     ·obtain rfl:j=l.length:=by omega
      rw[fj]at hin2;refine zs1 ?_;refine oT ?_;refine gU ?_;simp only[nx,inB];exact⟨m.length-(k+1),_,by omega,(av (sl':=[(0,dM m),(4,zI ((k+1:Nat):Int))]) (ow':=[]) aE aH),k+1,by omega,rfl,fun y hy=>by
       rw[cB hl]at hy;rcases de.1 hy with h|h
       ·exact hin y h
       ·rw[bV.1 h];exact hin2,rfl⟩
    ·obtain rfl:k=m.length:=by omega
     rw[fj]at hin;have EC:=chk0 hall hno hin;refine dH ?_;refine ew ?_;rw[EC];exact⟨_,Sh.refl,.one (.tmp 2) _ rfl (.tmp 2 rfl)⟩
end DW
end
section
open Go.RowKit
namespace DW
theorem sf{L z:Int}:inb L z=true↔-L<=z/\z<=L:=by unfold inb;simp
set_option maxRecDepth 20000
set_option maxHeartbeats 1000000
theorem Li(m:List (List Int))(hm:m.length<=1000000)(hm2:∀l∈m,l.length<=1000000)(hm3:∀l∈m,∀z∈l,-9223372036854775808<=z/\z<=9223372036854775807):Fn Tryz.prog 23 [dM m] (dW m):=by
 refine bq Tryz.func23 ak rfl rfl rfl fun X0=>?_;simp only[aQ];refine jL ?_;refine kX ?_;refine aI (eX (t:=3) (k:=1) (T:=113) (wd:=1) jN rfl rfl dL) ?_;refine aI (oM (sl':=[(0,.ls 1 (m.map dI)),(3,.own 1),(4,zI 0)]) aE rfl) ?_;refine aX (fun r s=>∃k:Nat,k<=m.length/\r=m.length-k/\s=⟨[(0,.ls 1 (m.map dI)),(3,.own 1),(4,zI k)],[(1,⟨113,1,(m.take k).map dZ⟩)]⟩) (m:=m.length) ⟨0,aO _,rfl,rfl⟩ fun r s hs=>?_;obtain⟨k,hk,rfl,rfl⟩:=hs;refine rH ?_;by_cases hkm:k<m.length
 ·obtain⟨l,hl⟩:∃l,m[k]?=some l:=⟨_,aV hkm⟩;have hl2:=hm2 l (bh hl);refine mU kF (ay dK) ?_;refine zs1 ?_;refine kX ?_;refine aI (eX (t:=5) (k:=2) (T:=62) (wd:=2) jN rfl rfl dL) ?_;refine aI (oM (sl':=[(0,.ls 1 (m.map dI)),(3,.own 1),(4,zI k),(5,.own 2),(6,zI 0)]) aE rfl) ?_;refine aX (fun r s=>∃j:Nat,j<=l.length/\r=l.length-j/\s=⟨[(0,.ls 1 (m.map dI)),(3,.own 1),(4,zI k),(5,.own 2),(6,zI j)],[(2,⟨62,2,(l.take j).map .nm⟩),(1,⟨113,1,(m.take k).map dZ⟩)]⟩) (m:=l.length) ⟨0,aO _,rfl,rfl⟩ fun r s hs=>?_;obtain⟨j,hj,rfl,rfl⟩:=hs;refine zs1 ?_;refine oT ?_;refine zs1 ?_;by_cases hjl:j<l.length
  ·obtain⟨x,hx⟩:∃x,l[j]?=some x:=⟨_,aV hjl⟩;have HO:=of_d x (hm3 l (bh hl) x (bh hx));refine mU kF (ay dK) ?_;refine zs1 ?_;refine cf ?_;refine jM ?_;refine jM ?_;refine gR ?_;refine qk ?_;refine vh ?_;refine cJ ?_;refine tK ?_;simp only[nx];refine⟨l.length-(j+1),_,by omega,oM (sl':=[(0,.ls 1 (m.map dI)),(3,.own 1),(4,zI k),(5,.own 2),(6,zI (j+1:Nat))]) aE rfl,j+1,by omega,rfl,?_⟩;rw[cB hx,dC];rfl
  ·refine nH kF (aA dK) ?_;obtain rfl:j=l.length:=by omega
   refine zs1 ?_;refine aI (bB (k:=2) cr dG dF) ?_;refine cf ?_;refine qk ?_;refine vh ?_;refine cJ ?_;refine tK ?_;simp only[nx];refine⟨m.length-(k+1),_,by omega,oM (sl':=[(0,.ls 1 (m.map dI)),(3,.own 1),(4,zI (k+1:Nat))]) aE rfl,k+1,by omega,rfl,?_⟩;rw[cB hl,dC,fj];rfl
 ·refine nH kF (aA dK) ?_;obtain rfl:k=m.length:=by omega
  refine zs1 ?_;refine aI (bB (k:=1) cr dG dF) ?_;refine jd ?_;rw[fj];exact⟨_,Sh.refl,.one (.tmp 2) _ rfl (.tmp 2 rfl)⟩
end DW
end
section
open Go.RowKit
namespace CI
inductive C where
 |any
 |sc (v:Value)
 |nm (z:Int)
 |sl (k off n c:Nat) (x:Bool)
 |pt (k off:Nat)
 |fn (f:FuncId) (caps:List C)
 |ag (l:List C)
 |tp (l:List C)
 |yl (k:Nat)
 deriving Inhabited
inductive T(α:Type) where
 |e
 |n (v:Option α) (l r:T α)
def T.get{α:Type}:T α->Nat->Option α
 | .e,_=>none
 | .n v l r,k=>match k with
  |0=>v
  |k+1=>match k%2 with
   |0=>l.get (k/2)
   |_+1=>r.get (k/2)
def T.put{α:Type}:Nat->T α->Nat->Option α->T α
 |0,t,_,_=>t
 |f+1,t,k,x=>
  match t with
  | .e=>match k with
   |0=>.n x .e .e
   |k+1=>match k%2 with
    |0=>.n none (put f .e (k/2) x) .e
    |_+1=>.n none .e (put f .e (k/2) x)
  | .n v l r=>match k with
   |0=>.n x l r
   |k+1=>match k%2 with
    |0=>.n v (put f l (k/2) x) r
    |_+1=>.n v l (put f r (k/2) x)
inductive CO where
 |t (n:Nat)
 |c (x:C)
 deriving Inhabited
inductive X where
 |mv (x:CO)
 |pick (c a b:CO)
 |alloc (T:Nat) (z:List C)
 |box (T:Nat) (x:CO)
 |build (z:List C) (ps:List (Nat×Nat×CO))
 |bsl (T w len:Nat) (z:List C) (ps:List (Nat×Nat×CO))
 |load (row:Bool) (w:Nat) (x:CO)
 |store (w:Nat) (a x:CO)
 |bin (op:BinOp) (x y:CO)
 |beq (ng:Bool) (x y:CO)
 |snil (ng:Bool) (x y:CO)
 |un (op:UnOp) (x:CO)
 |conv (k:IntKind) (x:CO)
 |mkf (f:FuncId) (cs:List CO)
 |mks (T w bytes:Nat) (z:List C) (l c:CO)
 |slc (w:Nat) (x:CO) (lo hi mx:Option CO)
 |fa (off:Nat) (x:CO)
 |fd (row:Bool) (off w:Nat) (x:CO)
 |ia (w:Nat) (len:Option Nat) (x i:CO)
 |ix (row:Bool) (w len:Nat) (x i:CO)
 |sx (x i:CO)
 |ext (x:CO) (i:Nat)
 |nc (x:CO)
 |len (str:Bool) (x:CO)
 |mnx (gt:Bool) (x y:CO)
 |app (T w:Nat) (x y:CO)
 |appz (T:Nat) (z:List C) (x n:CO)
 |cap (x:CO)
 |bad
 |cal (f:CO) (args:List CO)
 deriving Inhabited
structure RO where
 dst:Option Nat
 g:Option (Nat×Bool)
 x:X
 pre:Nat
 deriving Inhabited
inductive CC where
 |skip
 |ret
 |exit (id:Nat)
 |seq (a b:CC)
 |cond (c:CO) (a b:CC)
 |block (id:Nat) (c:CC)
 |loop (c:CC)
 |rng (f:CO) (ps:List Nat) (assign body:CC)
 |reg (draw:Bool) (ops:List RO)
 deriving Inhabited
inductive Ex where
 |norm
 |ret
 |exit (id:Nat)
 deriving Inhabited
inductive LS where|ready|busy|done|qU
inductive B where
 |cells (T:Nat) (l:List C)
 |loop (st:LS) (pend:Ex) (tm:T C) (ps:List Nat) (assign body:CC) (defers:Nat)
 |defd (isOpen:Bool)
structure H where
 next:Nat
 low:Nat
 forb:List (Nat×Nat)
 t:T B
def da(k:Nat):List (Nat×Nat)->Bool
 |[]=>false
 |(a,b)::l=>match Nat.ble a k with
  |true=>match Nat.blt k b with
   |true=>true
   |false=>da k l
  |false=>da k l
def H.get(h:H)(k:Nat):Option B:=
 match da k h.forb with
 |true=>none
 |false=>h.t.get k
def H.set(h:H)(k:Nat)(b:Option B):H:=⟨h.next,(match Nat.blt k h.low with|true=>k|false=>h.low),h.forb,T.put 24 h.t k b⟩
def H.new(h:H)(b:B):Option H:=match Nat.blt h.next 1000000 with
 |true=>some ⟨h.next+1,h.low,h.forb,T.put 24 h.t h.next (some b)⟩
 |false=>none
def C.wid:C->Nat
 | .nm _=>2
 | .sc _=>1
 | .sl ..=>1
 | .pt ..=>1
 | .fn ..=>1
 | .yl _=>1
 |_=>0
def yj:List C->Nat
 |[]=>0
 |c::l=>c.wid+yj l
def C.okP:C->Bool
 | .nm _=>true
 | .sc (.int .u32 _)=>false
 | .sc _=>true
 | .sl ..=>true
 | .pt ..=>true
 | .fn ..=>true
 | .yl _=>true
 |_=>false
def C.flat:C->Option (List C)
 | .ag l=>some l
 |c=>match c.okP with|true=>some [c]|false=>none
def gK(row:Bool)(l:List C):Option C:=
 match row with
 |true=>match l with
  |[.nm z]=>some (.nm z)
  |l=>some (.ag l)
 |false=>match l with
  |[.nm _]=>none
  |[c]=>some c
  |_=>none
def pR:List C->Nat->Option (List C)
 |l,0=>some l
 |[],_+1=>none
 |c::l,off+1=>match Nat.ble c.wid (off+1)with
  |true=>pR l (off+1-c.wid)
  |false=>none
def pq:List C->Nat->Option (List C)
 |_,0=>some []
 |[],_+1=>none
 |c::l,n+1=>match Nat.ble c.wid (n+1)with
  |true=>(pq l (n+1-c.wid)).map (c::·)
  |false=>none
def mL(l:List C)(off w:Nat):Option (List C):=(pR l off).bind (pq · w)
def vH(l:List C)(off w:Nat)(new:List C):Option (List C):=
 (pq l off).bind fun a=>(pR l (off+w)).map fun b=>a++new++b
def zM:C->Option Int
 | .nm z=>some z
 | .ag [.sc (.bool false),.sc (.slice none 0 0)]=>some 0
 |_=>none
def nB(l:List C):List (Nat×Nat×C)->Option (List C)
 |[]=>some l
 |(off,w,c)::ps=>c.flat.bind fun p=>match Nat.beq (yj p) w with
  |true=>(vH l off w p).bind (nB · ps)
  |false=>none
def jY(z:List C):Nat->List C
 |0=>[]
 |n+1=>z++jY z n
def ikB:IntKind->IntKind->Bool
 | .i8,.i8| .i16,.i16| .i32,.i32| .i64,.i64| .u8,.u8| .u16,.u16| .u32,.u32| .u64,.u64=>true
 |_,_=>false
def Cw:C->Option Bool
 | .sc (.slice none _ _)=>some true
 | .sl ..=>some false
 |_=>none
def binZ(op:BinOp)(k:IntKind)(p q:Int):Option Value:=
 match op with
 | .add=>some (.int k (k.wrap (p+q)))
 | .sub=>some (.int k (k.wrap (p-q)))
 | .mul=>some (.int k (k.wrap (p*q)))
 | .quo=>match q with|0=>none|_=>some (.int k (k.wrap (p.tdiv q)))
 | .rem=>match q with|0=>none|_=>some (.int k (p.tmod q))
 | .eql=>some (.bool (p==q))
 | .neq=>some (.bool (p !=q))
 | .lss=>some (.bool (p<q))
 | .leq=>some (.bool (p<=q))
 | .gtr=>some (.bool (p>q))
 | .geq=>some (.bool (p>=q))
 |_=>none
def isNeg(q:Int):Bool:=match q with| .negSucc _=>true|_=>false
def bin(op:BinOp)(a b:C):Option C:=
 match a,b with
 | .sc (.int k p),.sc (.int k' q)=>
  match op with
  | .shl=>match isNeg q with|true=>none|false=>some (.sc (.int k (k.wrap (p*2^(min q.toNat k.bits)))))
  | .shr=>match isNeg q with|true=>none|false=>some (.sc (.int k (p.fdiv (2^(min q.toNat k.bits)))))
  |op=>match ikB k k' with
   |true=>(binZ op k p q).map .sc
   |false=>none
 |_,_=>none
def beqC(ng:Bool)(a b:C):Option C:=
 match a,b with
 | .sc (.bool p),.sc (.bool q)=>some (.sc (.bool (match ng with|true=>!(p==q)|false=>p==q)))
 |_,_=>none
def Cl(ng:Bool)(a b:C):Option C:=
 match Cw a,Cw b with
 |some true,some y=>some (.sc (.bool (match ng with|true=>!y|false=>y)))
 |some false,some true=>some (.sc (.bool ng))
 |_,_=>none
def un(op:UnOp)(a:C):Option C:=
 match op,a with
 | .not,.sc (.bool b)=>some (.sc (.bool !b))
 | .neg,.sc (.int k p)=>some (.sc (.int k (k.wrap (0-p))))
 |_,_=>none
def ofN(n:Nat):C:=.sc (.int .i64 n)
def fW:C->Option Nat
 | .sc (.int _ (.ofNat n))=>some n
 |_=>none
abbrev Tm:=T C
def CO.ev(tm:Tm):CO->C
 |CO.t n=>match T.get tm n with|some y=>y|none=>C.any
 |CO.c x=>x
def iR(tm:Tm)(d:Nat):Option CO->Option Nat
 |none=>some d
 |some x=>fW (x.ev tm)
def parts(tm:Tm):List (Nat×Nat×CO)->List (Nat×Nat×C)
 |[]=>[]
 |(o,w,x)::l=>(o,w,x.ev tm)::parts tm l
def Cn(w off l m:Nat)(exact:Bool):Option Nat:=
 match l with
 |0=>some off
 |_=>match Nat.beq m l with
  |true=>match exact with
   |true=>some off
   |false=>none
  |false=>match w with
   |0=>none
   |_=>some (off+l*w)
def CP(mx:Option CO)(e:Bool):Bool:=match mx with|none=>e|some _=>true
def xT(x:X)(tm:Tm)(next:Nat):Option (C×Option B):=
 match x with
 | .mv x=>some (x.ev tm,none)
 | .pick c a b=>match c.ev tm with
  | .sc (.bool true)=>some (a.ev tm,none)
  | .sc (.bool false)=>some (b.ev tm,none)
  |_=>none
 | .alloc T z=>some (.pt next 0,some (.cells T z))
 | .box T x=>(x.ev tm).flat.map fun p=>(.pt next 0,some (.cells T p))
 | .build z ps=>(nB z (parts tm ps)).map fun l=>(.ag l,none)
 | .bsl T w len z ps=>(nB (jY z len) (parts tm ps)).map fun l=>(.sl next 0 len len true,some (.cells T l))
 | .bin op x y=>(bin op (x.ev tm) (y.ev tm)).map (·,none)
 | .beq ng x y=>(beqC ng (x.ev tm) (y.ev tm)).map (·,none)
 | .snil ng x y=>(Cl ng (x.ev tm) (y.ev tm)).map (·,none)
 | .un op x=>(un op (x.ev tm)).map (·,none)
 | .conv k x=>match x.ev tm with
  | .sc (.int _ n)=>some (.sc (.int k (k.wrap n)),none)
  |_=>none
 | .mkf f cs=>some (.fn f (cs.map (·.ev tm)),none)
 | .mks T w bytes z l c=>match fW (l.ev tm),fW (c.ev tm)with
  |some l,some c=>match Nat.ble l c,Nat.ble c 1000000 with
   |true,true=>some (.sl next 0 l c true,some (.cells T (jY z c)))
   |_,_=>none
  |_,_=>none
 | .slc w x lo hi mx=>match x.ev tm with
  | .sl k off n c e=>
   match iR tm 0 lo,iR tm n hi,iR tm c mx with
   |some l,some h,some m=>match Nat.ble m c,Nat.ble h m,Nat.ble l h with
    |true,true,true=>(Cn w off l m (CP mx e)).map fun o=>(.sl k o (h-l) (m-l) (CP mx e),none)
    |_,_,_=>none
   |_,_,_=>none
  | .sc (.slice none 0 0)=>match iR tm 0 hi,iR tm 0 lo,iR tm 0 mx with
   |some 0,some 0,some 0=>some (.sc (.slice none 0 0),none)
   |_,_,_=>none
  |_=>none
 | .fa off x=>match x.ev tm with
  | .pt k o=>some (.pt k (o+off),none)
  |_=>none
 | .fd row off w x=>match x.ev tm with
  | .ag l=>((mL l off w).bind (gK row)).map (·,none)
  |_=>none
 | .ia w len x i=>match fW (i.ev tm)with
  |some i=>match x.ev tm,len with
   | .sl k off n _ _,none=>match Nat.blt i n with
    |true=>some (.pt k (off+i*w),none)
    |false=>none
   | .pt k off,some n=>match Nat.blt i n with
    |true=>some (.pt k (off+i*w),none)
    |false=>none
   |_,_=>none
  |none=>none
 | .ix row w len x i=>match fW (i.ev tm),x.ev tm with
  |some i,.ag l=>match Nat.blt i len with
   |true=>((mL l (i*w) w).bind (gK row)).map (·,none)
   |false=>none
  |_,_=>none
 | .sx x i=>match fW (i.ev tm),x.ev tm with
  |some i,.sc (.string s)=>s[i]?.map fun b=>(.sc (.int .u8 b.toNat),none)
  |_,_=>none
 | .ext x i=>match x.ev tm with
  | .tp l=>l[i]?.map (·,none)
  |_=>none
 | .nc x=>match x.ev tm with
  | .pt k o=>some (.pt k o,none)
  | .fn f c=>some (.fn f c,none)
  | .yl k=>some (.yl k,none)
  |_=>none
 | .len str x=>match str with
  |false=>match x.ev tm with
   | .sl _ _ n _ _=>some (ofN n,none)
   | .sc (.slice none n _)=>some (ofN n,none)
   |_=>none
  |true=>match x.ev tm with
   | .sc (.string s)=>some (ofN s.size,none)
   |_=>none
 | .cap x=>match x.ev tm with
  | .sl _ _ _ c true=>some (ofN c,none)
  | .sc (.slice none _ c)=>some (ofN c,none)
  |_=>none
 | .mnx gt x y=>match x.ev tm,y.ev tm with
  | .sc (.int k p),.sc (.int _ q)=>match gt with
   |true=>some (.sc (.int k (if q>p then q else p)),none)
   |false=>some (.sc (.int k (if q<p then q else p)),none)
  |_,_=>none
 |_=>none
def X.isT:X->Bool
 | .load ..=>false
 | .store ..=>false
 | .app ..=>false
 | .appz ..=>false
 | .cal ..=>false
 |_=>true
def H.kC(h:H):Option B->Option H
 |none=>some h
 |some b=>h.new b
def ua(row:Bool)(w:Nat)(a:C)(h:H):Option C:=
 match a with
 | .pt k off=>match h.get k with
  |some (.cells _ l)=>(mL l off w).bind (gK row)
  |_=>none
 |_=>none
def qL(w:Nat)(a v:C)(h:H):Option H:=
 match a with
 | .pt k off=>match h.get k with
  |some (.cells T l)=>v.flat.bind fun p=>match Nat.beq (yj p) w with
   |true=>(vH l off w p).map fun l'=>h.set k (some (.cells T l'))
   |false=>none
  |_=>none
 |_=>none
def slW(w:Nat)(a:C)(h:H):Option (List C×Nat):=
 match a with
 | .sc (.slice none 0 0)=>some ([],0)
 | .sl k off n _ _=>match h.get k with
  |some (.cells _ l)=>(mL l off (n*w)).map (·,n)
  |_=>none
 |_=>none
def xt(T w:Nat)(a:C)(new:List C)(m:Nat)(h:H):Option (C×H):=
 match m with
 |0=>match a with
  | .sc (.slice none 0 0)=>some (a,h)
  | .sl .. =>some (a,h)
  |_=>none
 |_=>match a with
  | .sc (.slice none 0 0)=>match Nat.ble m 1000000 with
   |true=>(h.new (.cells T new)).map fun h'=>(.sl h.next 0 m m false,h')
   |false=>none
  | .sl k off n c e=>match h.get k with
   |some (.cells T' l)=>match Nat.beq T' T with
    |false=>none
    |true=>match Nat.ble (n+m) c with
     |true=>(vH l (off+n*w) (m*w) new).map fun l'=>(.sl k off (n+m) c e,h.set k (some (.cells T' l')))
     |false=>match Nat.ble (n+m) 1000000 with
      |true=>(mL l off (n*w)).bind fun old=>match e with
       |true=>(h.new (.cells T' (old++new))).map fun h'=>(.sl h.next 0 (n+m) (n+m) false,h')
       |false=>match off with
        |0=>((h.set k none).new (.cells T' (old++new))).map fun h'=>(.sl h.next 0 (n+m) (n+m) false,h')
        |_=>none
      |false=>none
   |_=>none
  |_=>none
def Cf(T w:Nat)(a b:C)(h:H):Option (C×H):=(slW w b h).bind fun (new,m)=>xt T w a new m h
abbrev Orc:=List C->Option C
inductive RV where
 |tmp (t:Nat)
 |cell (t:Nat) (row:Bool) (w:Nat)
 deriving Inhabited
structure F where
 ntmps:Nat
 body:CC
 res:List RV
structure Env where
 fns:FuncId->Option F
 orc:FuncId->Option Orc
def setArgs:Nat->Nat->List C->Tm->Tm
 |_,_,[],tm=>tm
 |f,k,c::l,tm=>setArgs f (k+1) l (T.put f tm k (some c))
def nk:List Nat->List C->Tm->Option Tm
 |[],[],tm=>some tm
 |t::ts,c::cs,tm=>nk ts cs (T.put 24 tm t (some c))
 |_,_,_=>none
inductive Task where
 |code (c:CC) (tm:Tm) (ds:List Nat) (rd:Option Nat) (h:H)
 |call (f:C) (args:List C) (h:H)
inductive Out where
 |code (e:Ex) (tm:Tm) (ds:List Nat) (h:H)
 |val (c:C) (h:H)
abbrev Rec:=Task->Option Out
def ig(tm:Tm)(dst:Option Nat)(c:C):Tm:=
 match dst with
 |some t=>T.put 24 tm t (some c)
 |none=>tm
def iH(o:RO)(tm:Tm):Option Bool:=
 match o.g with
 |none=>some true
 |some (t,b)=>match tm.get t with
  |some (.sc (.bool c))=>some (match b with|true=>c|false=>!c)
  |_=>none
def xR(rec:Rec)(x:X)(tm:Tm)(h:H):Option (C×H):=
 match x with
 | .load row w a=>(ua row w (a.ev tm) h).map (·,h)
 | .store w a v=>(qL w (a.ev tm) (v.ev tm) h).map (.any,·)
 | .app T w a b=>Cf T w (a.ev tm) (b.ev tm) h
 | .appz T z a n=>match a.ev tm,fW (n.ev tm)with
  | .sc (.slice none 0 0),some (m+1)=>match Nat.ble (m+1) 1000000 with
   |true=>(h.new (.cells T (jY z (m+1)))).map fun h'=>(.sl h.next 0 (m+1) (m+1) false,h')
   |false=>none
  |_,_=>none
 | .cal f args=>match rec (.call (f.ev tm) (args.map (·.ev tm)) h)with
  |some (.val c h)=>some (c,h)
  |_=>none
 |_=>none
def Cg(rec:Rec)(x:X)(tm:Tm)(h:H):Option (C×H):=
 match x.isT with
 |true=>(xT x tm h.next).bind fun (c,b)=>(h.kC b).map fun h=>(c,h)
 |false=>xR rec x tm h
def pC(rec:Rec):List RO->Tm->H->Option (Tm×H)
 |[],tm,h=>some (tm,h)
 |o::l,tm,h=>match iH o tm with
  |some true=>match Cg rec o.x tm h with
   |some (c,h)=>pC rec l (ig tm o.dst c) h
   |none=>none
  |some false=>pC rec l (ig tm o.dst .any) h
  |none=>none
def gX(pre:Nat):List (Nat×Nat×Nat)->List (Nat×Nat)->List (Nat×Nat)
 |[],f=>f
 |(i,a,b)::l,f=>match pre.testBit i with
  |true=>gX pre l f
  |false=>(a,b)::gX pre l f
def pW(pre:Nat)(wr:Bool):List (Nat×Bool)->Bool
 |[]=>false
 |(i,w)::l=>match(w||wr)&& !pre.testBit i with
  |true=>true
  |false=>pW pre wr l
def gT(rec:Rec):List RO->Nat->List (Nat×Nat×Nat)->List (Nat×Bool)->Tm->H->Option (Tm×H)
 |[],_,_,_,tm,h=>some (tm,h)
 |o::l,j,iv,rw,tm,h=>match iH o tm with
  |some true=>match o.x.isT with
   |true=>match xT o.x tm h.next with
    |some (c,none)=>gT rec l (j+1) iv rw (ig tm o.dst c) h
    |some (c,some b)=>match h.new b with
     |some h'=>gT rec l (j+1) ((j,h.next,h'.next)::iv) rw (ig tm o.dst c) h'
     |none=>none
    |none=>none
   |false=>match xR rec o.x tm ⟨h.next,h.next,gX o.pre iv h.forb,h.t⟩with
    |some (c,h')=>
     let wr:=Nat.blt h'.low h.next
     match pW o.pre wr rw with
     |true=>none
     | false => gT rec l (j + 1) (match Nat.blt h.next h'.next with | true => (j, h.next, h'.next) :: iv | false => iv) ((j, wr) :: rw) (ig tm o.dst c)
         ⟨h'.next,(match Nat.blt h'.low h.low with|true=>h'.low|false=>h.low),h.forb,h'.t⟩
    |none=>none
  |some false=>gT rec l (j+1) iv rw (ig tm o.dst .any) h
  |none=>none
def results(tm:Tm)(h:H):List RV->Option (List C)
 |[]=>some []
 | .tmp t::l=>(results tm h l).map (CO.ev tm (CO.t t)::·)
 | .cell t row w::l=>(ua row w (CO.ev tm (CO.t t)) h).bind fun c=>(results tm h l).map (c::·)
def qT:List C->C
 |[c]=>c
 |l=>.tp l
def jc:List Nat->H->Option H
 |[],h=>some h
 |k::l,h=>match h.get k with
  |some (.defd true)=>jc l (h.set k (some (.defd false)))
  |_=>none
def zk(l:Nat)(e:Ex)(h:H):Option (C×H):=
 match h.get l with
 |some (.loop .busy _ tm ps a b d)=>match e with
  | .norm=>some (.sc (.bool true),h.set l (some (.loop .ready .norm tm ps a b d)))
  |e=>some (.sc (.bool false),h.set l (some (.loop .done e tm ps a b d)))
 |_=>none
def body(E:Env)(rec:Rec):Task->Option Out
 | .code c tm ds rd h=>match c with
  | .skip=>some (.code .norm tm ds h)
  | .ret=>some (.code .ret tm ds h)
  | .exit id=>some (.code (.exit id) tm ds h)
  | .seq a b=>match rec (.code a tm ds rd h)with
   |some (.code .norm tm ds h)=>rec (.code b tm ds rd h)
   |o=>o
  | .cond c a b=>match c.ev tm with
   | .sc (.bool true)=>rec (.code a tm ds rd h)
   | .sc (.bool false)=>rec (.code b tm ds rd h)
   |_=>none
  | .block id c=>match rec (.code c tm ds rd h)with
   |some (.code (.exit i) tm ds h)=>match Nat.beq i id with
    |true=>some (.code .norm tm ds h)
    |false=>some (.code (.exit i) tm ds h)
   |o=>o
  | .loop c=>match rec (.code c tm ds rd h)with
   |some (.code .norm tm ds h)=>rec (.code (.loop c) tm ds rd h)
   |o=>o
  | .reg draw ops=>match(match draw with|true=>gT rec ops 0 [] [] tm h|false=>pC rec ops tm h)with
   |some (tm,h)=>some (.code .norm tm ds h)
   |none=>none
  | .rng f ps a b=>
   match(match rd with
    |some l=>match h.get l with
     |some (.loop _ _ _ _ _ _ d)=>some (d,ds,h)
     |_=>none
    |none=>(h.new (.defd true)).map fun h'=>(h.next,h.next::ds,h'))with
   |some (d,ds,h)=>match h.new (.loop .ready .norm tm ps a b d)with
    |some h'=>match(match f.ev tm with| .fn g caps=>rec (.call (.fn g caps) [.yl h.next] h')|_=>none)with
     |some (.val _ h2)=>match h2.get h.next with
      |some (.loop .busy ..)=>none
      |some (.loop _ p tm' ps' a' b' d')=>some (.code p tm ds (h2.set h.next (some (.loop .qU p tm' ps' a' b' d'))))
      |_=>none
     |_=>none
    |none=>none
   |none=>none
 | .call f args h=>match f with
  | .fn g caps=>match E.orc g with
   |some o=>(o (args++caps)).map (.val · h)
   |none=>match E.fns g with
    |some fn=>match Nat.ble (args++caps).length fn.ntmps with
     |false=>none
     |true=>match rec (.code fn.body (setArgs 24 0 (args++caps) .e) [] none h)with
      |some (.code e tm ds h)=>match e with
       | .exit _=>none
       |_=>(jc ds h).bind fun h=>(results tm h fn.res).map fun rs=> .val (qT rs) h
      |_=>none
    |none=>none
  | .yl l=>match h.get l with
   |some (.loop .ready _ tm ps a b _)=>match nk ps args tm with
    |some tm=>match rec (.code a tm [] (some l) h)with
     |some (.code .norm tm [] h)=>match h.get l with
      |some (.loop .ready p tm' ps' a' b' d')=>match rec (.code b tm [] (some l) (h.set l (some (.loop .busy p tm' ps' a' b' d'))))with
       |some (.code e _ [] h)=>(zk l e h).map fun (c,h)=> .val c h
       |_=>none
      |_=>none
     |_=>none
    |none=>none
   |_=>none
  |_=>none
def run(E:Env):Nat->Rec
 |0=>fun _=>none
 |n+1=>body E (run E n)
section comp
variable (P : Program)
def ofV:Value->C
 | .agg cs=>match cs.toList.all (fun v=>v.oneCell'&&(C.sc v).okP)with
  |true=>.ag (cs.toList.map .sc)
  |false=>.any
 | .tuple _=>.any
 | .func (.func f) first cs=>match first.size,cs.size with
  |0,0=>.fn f []
  |_,_=>.any
 | .func ..=>.any
 |v=>.sc v
def aB:Operand->CO
 | .tmp t=>CO.t t
 | .const v=>CO.c (ofV v)
 | .global _=>CO.c .any
 | .func f=>CO.c (.fn f [])
def zOf(t:TypeId):Option (List C):=(P.info? t).bind fun i=>i.zero.bind fun z=>match z.cells.toList.all (fun v=>v.oneCell'&&(C.sc v).okP)&&Nat.beq z.cells.size i.size with
 |true=>some (z.cells.toList.map .sc)
 |false=>none
def cG(t:TypeId):Option Nat:=(P.info? t).map (·.size)
def rowOf(t:TypeId):Option Bool:=match P.underlying t with|some (.struct _)=>some true|some (.array ..)=>some true|some _=>some false|none=>none
def place(t:TypeId)(i:Nat):Option (Nat×Nat):=
 match P.underlying t with
 |some (.struct fs)=>fs[i]?.bind fun f=>(cG P f.type).map (f.offset,·)
 |some (.array _ e)=>(cG P e).map fun s=>(i*s,s)
 |some (.slice e)=>(cG P e).map fun s=>(i*s,s)
 |_=>none
def placesOf(t:TypeId):List (Nat×Operand)->Option (List (Nat×Nat×CO))
 |[]=>some []
 |(i,x)::l=>(place P t i).bind fun (o,w)=>(placesOf t l).map ((o,w,aB x)::·)
def nD(l:List Operand):List CO:=l.map aB
def aG(o:Op):Option X:=
 match o with
 | .move x=>some (.mv (aB x))
 | .assign x=>some (.mv (aB x))
 | .pick c a b=>some (.pick (aB c) (aB a) (aB b))
 | .alloc t=>(zOf P t).map (.alloc t)
 | .box t x=>some (.box t (aB x))
 | .build t ps=>match P.underlying t with
  |some (.struct fs)=>match fs.toList.all (fun f=>(P.info? f.type).isSome)with
   |true=>(zOf P t).bind fun z=>(placesOf P t ps.toList).map fun ps=> .build z ps
   |false=>none
  |some (.array _ e)=>(cG P e).bind fun _=>(zOf P t).bind fun z=>(placesOf P t ps.toList).map fun ps=> .build z ps
  |_=>none
 | .buildSlice t n ps=>match P.underlying t with
  |some (.slice e)=>(cG P e).bind fun w=>(zOf P e).bind fun z=>match Nat.ble (n*w) 16777216&&Nat.blt 0 w&&(Nat.blt 0 n||ps.toList.isEmpty)with
   |true=>(placesOf P t ps.toList).map fun ps=> .bsl e w n z ps
   |false=>none
  |_=>none
 | .load t a=>(cG P t).bind fun w=>(rowOf P t).map fun r=> .load r w (aB a)
 | .store t a x=>(cG P t).map fun w=> .store w (aB a) (aB x)
 | .binOp op t x y _=>match P.underlying t with
  |some (.int _)=>some (.bin op (aB x) (aB y))
  |some .bool=>match op with
   | .eql=>some (.beq false (aB x) (aB y))
   | .neq=>some (.beq true (aB x) (aB y))
   |_=>none
  |some (.slice _)=>match op with
   | .eql=>some (.snil false (aB x) (aB y))
   | .neq=>some (.snil true (aB x) (aB y))
   |_=>none
  |_=>none
 | .unOp op _ x=>some (.un op (aB x))
 | .convert s t x=>match P.underlying s,P.underlying t with
  |some (.int _),some (.int k)=>some (.conv k (aB x))
  |_,_=>none
 | .makeFunc (.func f) first cs=>match first.size with
  |0=>some (.mkf f (nD cs.toList))
  |_=>none
 | .makeSlice t l c=>match P.underlying t with
  |some (.slice e)=>(P.info? e).bind fun i=>(zOf P e).bind fun z=>match Nat.ble i.bytes 100000 with
   |true=>some (.mks e i.size i.bytes z (aB l) (aB c))
   |false=>none
  |_=>none
 | .slice t x lo hi mx=>match P.underlying t with
  |some (.slice e)=>match hi,mx with
   |none,some _=>none
   |_,_=>(cG P e).map fun w=> .slc w (aB x) (lo.map aB) (hi.map aB) (mx.map aB)
  |_=>none
 | .fieldAddr t x i=>match P.underlying t with
  |some (.struct fs)=>fs[i]?.bind fun f=>(cG P f.type).bind fun w=>match w with
   |0=>none
   |_=>some (.fa f.offset (aB x))
  |_=>none
 | .field t x i=>match P.underlying t with
  |some (.struct fs)=>fs[i]?.bind fun f=>(cG P f.type).bind fun w=>(rowOf P f.type).map fun r=> .fd r f.offset w (aB x)
  |_=>none
 | .indexAddr t x i=>match P.underlying t with
  |some (.slice e)=>(cG P e).map fun w=> .ia w none (aB x) (aB i)
  |some (.array n e)=>(cG P e).map fun w=> .ia w (some n) (aB x) (aB i)
  |_=>none
 | .index t x i=>match P.underlying t with
  |some (.array n e)=>(cG P e).bind fun w=>(rowOf P e).map fun r=> .ix r w n (aB x) (aB i)
  |some .string=>some (.sx (aB x) (aB i))
  |_=>none
 | .extract x i=>some (.ext (aB x) i)
 | .nilCheck x=>some (.nc (aB x))
 | .call {callee:= .builtin b,args,argTypes}=>match b,args.toList,argTypes.toList with
  | .len,[x],[t]=>match P.underlying t with
   |some (.slice _)=>some (.len false (aB x))
   |some .string=>some (.len true (aB x))
   |_=>none
  | .min,[x,y],_=>some (.mnx false (aB x) (aB y))
  | .max,[x,y],_=>some (.mnx true (aB x) (aB y))
  | .append,[x,y],[t,t']=>match P.underlying t,P.underlying t' with
   |some (.slice e),some (.slice _)=>match Nat.beq t t' with
    |false=>none
    |true=>(P.info? e).bind fun i=>(zOf P e).bind fun z=>match Nat.ble i.bytes 100000&&Nat.blt 0 i.size with
     |true=>some (.app e i.size (aB x) (aB y))
     |false=>none
   |some (.slice e),some (.int _)=>(P.info? e).bind fun i=>(zOf P e).bind fun z=>match Nat.ble i.bytes 100000&&Nat.blt 0 i.size with
    |true=>some (.appz e z (aB x) (aB y))
    |false=>none
   |_,_=>none
  | .cap,[x],[t]=>match P.underlying t with
   |some (.slice _)=>some (.cap (aB x))
   |_=>none
  |_,_,_=>none
 | .call {callee:= .value f,args, .. }=>some (.cal (aB f) (nD args.toList))
 |_=>none
def pM:List Nat->Nat->Nat
 |[],_=>0
 |x::_,0=>x
 |_::l,n+1=>pM l n
def jZ(acc:List Nat):List Edge->Nat
 |[]=>0
 |e::l=>match Region.binds .any e with
  |true=>2^e.on|||pM acc e.on|||jZ acc l
  |false=>jZ acc l
def jt:List Oper->List Nat->List Nat
 |[],acc=>acc
 |o::l,acc=>jt l (acc++[jZ acc o.after.toList])
def nO(t:Nat):List Nat->Bool
 |[]=>false
 |x::l=>match Nat.beq x t with|true=>true|false=>nO t l
def looks(ops:Array Oper)(o:Oper):List Nat:=
 (match o.guard with
  |some (g,_)=>((ops[g]?).bind (·.dst)).toList
  |none=>[])++(o.op.operands.toList.filterMap fun| .tmp t=>some t|_=>none)
def nN(t:Option Nat)(l:List Nat):Bool:=match t with|some t=>nO t l|none=>false
def po(ops:Array Oper)(o:Oper)(pre:Nat):List Oper->Nat->Bool
 |[],_=>true
 |o'::l,i=>match(nN o'.dst (looks ops o)||nN o.dst (looks ops o')||nN o.dst o'.dst.toList)&& !pre.testBit i with
  |true=>false
  |false=>po ops o pre l (i+1)
def iK(k:Nat):List Edge->Bool
 |[]=>true
 |e::l=>match Region.binds .any e&& !Nat.blt e.on k with
  |true=>false
  |false=>iK k l
def cP(n:Nat)(dst:Option Tmp):Bool:=match dst with|some t=>Nat.blt t n|none=>true
def fA(n:Nat)(draw:Bool)(ops:Array Oper)(acc:List Oper):List Oper->List Nat->Option (List RO)
 |[],_=>some []
 |o::l,ps=>match ps with
  |p::ps=>match draw&& !(po ops o p acc 0&&iK acc.length o.after.toList)|| !cP n o.dst with
   |true=>none
   |false=>(match o.guard with
    |none=>some none
    |some (j,b)=>((ops[j]?).bind (·.dst)).map fun t=>some (t,b)).bind fun g=>
     (fA n draw ops (acc++[o]) l ps).map fun r=>⟨o.dst,g,(match aG P o.op with|some x=>x|none=>.bad),p⟩::r
  |[]=>none
def comp(n:Nat):Code->Option CC
 | .skip=>some .skip
 | .ret=>some .ret
 | .exit id=>some (.exit id)
 | .label _=>some .skip
 | .seq a b=>(comp n a).bind fun a=>(comp n b).map (.seq a)
 | .cond c a b=>(comp n a).bind fun a=>(comp n b).map (.cond (aB c) a)
 | .block id c=>(comp n c).map (.block id)
 | .loop c=>(comp n c).map .loop
 | .rangeFunc f ps a b=>match ps.toList.all (fun t=>Nat.blt t n)with
  |false=>none
  |true=>(comp n a).bind fun a=>(comp n b).map (.rng (aB f) ps.toList a)
 | .region _ ops draw=>(fA P n draw ops [] ops.toList (jt ops.toList [])).map (.reg draw)
 |_=>none
def rvOf:ResultVar->Option RV
 | .tmp t=>some (.tmp t)
 | .cell t ty=>(cG P ty).bind fun w=>(rowOf P ty).map fun r=>.cell t r w
def py:List ResultVar->Option (List RV)
 |[]=>some []
 |r::l=>(rvOf P r).bind fun r=>(py l).map (r::·)
def nE (g : FuncId) : Option F := (P.funcs[g]?).bind fun fn => fn.body.bind fun c => match Nat.blt fn.ntmps 1000000 && !(fn.name == "runtime.NumGoroutine") with
 |true=>(comp P fn.ntmps c).bind fun c=>(py P fn.results.toList).map fun r=>⟨fn.ntmps,c,r⟩
 |false=>none
end comp
end CI
end
section
open Go.RowKit
namespace CI
section
variable (P : Program)
mutual
def VR(A:Nat->Prop)(ρ:Nat->Nat)(w:World):C->Value->Prop
 | .any,_=>True
 | .sc u,v=>v=u/\u.oneCell'=true
 | .nm z,v=>∃x:IV,v= .agg #[.bool x.s, .slice x.a x.n x.cap]/\IZ w x z
 | .sl k off n c x, v => A k /\ ∃ cap, v = .slice (some ⟨ρ k, off, none⟩) n cap /\ n <= c /\ c <= cap /\ (x = true -> cap = c) /\
     (x=false->off=0->cap<=maxLen/\∃T s,w.shape? (ρ k)=some (T,cap*s)/\cG P T=some s)
 | .pt k off,v=>A k/\v= .pointer (some ⟨ρ k,off,none⟩)
 | .fn f cs,v=>∃us,v= .func (.func f) #[] us/\VRl A ρ w cs us.toList
 | .ag l,v=>∃cs,v= .agg cs/\VCs A ρ w l cs.toList
 | .tp l,v=>∃vs,v= .tuple vs/\VRl A ρ w l vs.toList
 | .yl k,v=>A k/\v= .func (.yield (ρ k)) #[] #[]
def VRl(A:Nat->Prop)(ρ:Nat->Nat)(w:World):List C->List Value->Prop
 |[],vs=>vs=[]
 |d::l,vs=>∃u rest,vs=u::rest/\VR A ρ w d u/\VRl A ρ w l rest
def VCs(A:Nat->Prop)(ρ:Nat->Nat)(w:World):List C->List Value->Prop
 |[],cs=>cs=[]
 |d::l,cs=>d.okP=true/\∃u rest,cs=u.cells.toList++rest/\VR A ρ w d u/\VCs A ρ w l rest
end
structure Lt(w w':World):Prop where
 os:w'.os=w.os
 tape:w'.tape=w.tape
 output:w'.output=w.output
 size:w.heap.size<=w'.heap.size
 iz:∀x z,IZ w x z->IZ w' x z
 shape:∀b s,w.shape? b=some s->w'.shape? b=some s
theorem Lt.refl(w:World):Lt w w:=⟨rfl,rfl,rfl,af _,fun _ _ h=>h,fun _ _ h=>h⟩
theorem Lt.trans{a b c:World}(h:Lt a b)(k:Lt b c):Lt a c:=
 ⟨k.os.trans h.os,k.tape.trans h.tape,k.output.trans h.output,bc h.size k.size,fun x z e=>k.iz x z (h.iz x z e),fun x z e=>k.shape x z (h.shape x z e)⟩
theorem yt{w:World}{b:Nat}{s:TypeId×Nat}(h:w.shape? b=some s):b<w.heap.size:=by
 unfold World.shape? at h
 cases e:w.heap[b]? with
 |none=>rw[e]at h;cases h
 |some o=>exact(dz.1 e).1
theorem yr{w w':World}{b:Nat}(h:w'.heap[b]?=w.heap[b]?):w'.shape? b=w.shape? b:=by
 unfold World.shape?;rw[h]
theorem Lt.below{w w':World}(h:Below w.heap.size w w'):Lt w w':=
 ⟨h.os,h.tape,h.output,h.size,fun _ _ hz=>hz.below h (af _),fun b s e=>by rw[yr (h.block b (yt e))];exact e⟩
theorem Lt.chg{g:Nat}{w w':World}(h:Chg g w w')(hb:NW w g)(hs:∀s,w.shape? g=some s->w'.shape? g=some s):Lt w w':=
 ⟨h.os,h.tape,h.output,h.size,fun _ _ hz=>hz.chg h hb,fun b s e=>by
  by_cases hbg:b=g
  ·subst hbg;exact hs s e
  ·rw[yr (h.block b (yt e) hbg)];exact e⟩
variable {P}
structure Mo(A A':Nat->Prop)(ρ ρ':Nat->Nat):Prop where
 sub:∀k,A k->A' k
 eq:∀k,A k->ρ' k=ρ k
theorem Mo.refl(A:Nat->Prop)(ρ:Nat->Nat):Mo A A ρ ρ:=⟨fun _ h=>h,fun _ _=>rfl⟩
mutual
theorem VR.mo{A A':Nat->Prop}{ρ ρ':Nat->Nat}{w w':World}(m:Mo A A' ρ ρ')(k:Lt w w'):∀(c:C) (v:Value),VR P A ρ w c v->VR P A' ρ' w' c v
 | .any,_,_=>by simp only[VR]
 | .sc u,v,h=>by simp only[VR]at h⊢;exact h
 | .nm z,v,h=>by
  simp only[VR]at h⊢;obtain⟨x,h1,h2⟩:=h;exact⟨x,h1,k.iz _ _ h2⟩
 | .sl b off n c x,v,h=>by
  simp only[VR]at h⊢;obtain⟨h0,cap,h1,h2,h3,h4,h5⟩:=h;refine⟨m.sub _ h0,cap,by rw[m.eq _ h0];exact h1,h2,h3,h4,fun hx ho=>?_⟩;obtain⟨h6,T,s,h7,h8⟩:=h5 hx ho;exact⟨h6,T,s,by rw[m.eq _ h0];exact k.shape _ _ h7,h8⟩
 | .pt b off,v,h=>by
  simp only[VR]at h⊢;exact⟨m.sub _ h.1,by rw[m.eq _ h.1];exact h.2⟩
 | .fn f cs,v,h=>by
  simp only[VR]at h⊢;obtain⟨us,h1,h2⟩:=h;exact⟨us,h1,VRl.mo m k cs _ h2⟩
 | .ag l,v,h=>by
  simp only[VR]at h⊢;obtain⟨cs,h1,h2⟩:=h;exact⟨cs,h1,VCs.mo m k l _ h2⟩
 | .tp l,v,h=>by
  simp only[VR]at h⊢;obtain⟨vs,h1,h2⟩:=h;exact⟨vs,h1,VRl.mo m k l _ h2⟩
 | .yl b,v,h=>by
  simp only[VR]at h⊢;exact⟨m.sub _ h.1,by rw[m.eq _ h.1];exact h.2⟩
theorem VRl.mo{A A':Nat->Prop}{ρ ρ':Nat->Nat}{w w':World}(m:Mo A A' ρ ρ')(k:Lt w w'):∀(l:List C) (vs:List Value),VRl P A ρ w l vs->VRl P A' ρ' w' l vs
 |[],_,h=>by simp only[VRl]at h⊢;exact h
 |d::l,vs,h=>by
  simp only[VRl]at h⊢;obtain⟨u,rest,h1,h2,h3⟩:=h;exact⟨u,rest,h1,VR.mo m k d u h2,VRl.mo m k l rest h3⟩
theorem VCs.mo{A A':Nat->Prop}{ρ ρ':Nat->Nat}{w w':World}(m:Mo A A' ρ ρ')(k:Lt w w'):∀(l:List C) (cs:List Value),VCs P A ρ w l cs->VCs P A' ρ' w' l cs
 |[],_,h=>by simp only[VCs]at h⊢;exact h
 |d::l,cs,h=>by
  simp only[VCs]at h⊢;obtain⟨h0,u,rest,h1,h2,h3⟩:=h;exact⟨h0,u,rest,h1,VR.mo m k d u h2,VCs.mo m k l rest h3⟩
end
variable {A : Nat->Prop} {ρ : Nat->Nat} {w : World}
theorem rB{u:Value}(h:u.oneCell'=true):u.cells= #[u]:=by
 cases u<;>first|rfl|simp[Value.oneCell']at h
theorem VR.cells{c:C}{u:Value}(ho:c.okP=true)(h:VR P A ρ w c u):u.cells.toList.length=c.wid/\(∀x∈u.cells.toList,x.oneCell'=true)/\(∀n,u.cells.toList[0]?≠some (.int .u32 n)):=by
 cases c with
 |any=>simp[C.okP]at ho
 |ag l=>simp[C.okP]at ho
 |tp l=>simp[C.okP]at ho
 |sc v=>
  simp only[VR]at h;obtain⟨rfl,h⟩:=h;rw[rB h];refine⟨rfl,by simpa using h,fun n e=>?_⟩;simp at e;subst e;simp[C.okP]at ho
 |nm z=>
  simp only[VR]at h;obtain⟨x,rfl,_⟩:=h;refine⟨rfl,fun u hu=>?_,fun n e=>by simp[Value.cells]at e⟩;simp[Value.cells]at hu;rcases hu with rfl|rfl<;>rfl
 |sl k off n c x=>
  simp only[VR]at h;obtain⟨_,cap,rfl,_⟩:=h;exact⟨rfl,by simp[Value.cells,Value.oneCell'],fun n e=>by simp[Value.cells]at e⟩
 |pt k off=>
  simp only[VR]at h;obtain⟨_,rfl⟩:=h;exact⟨rfl,by simp[Value.cells,Value.oneCell'],fun n e=>by simp[Value.cells]at e⟩
 |fn f cs=>
  simp only[VR]at h;obtain⟨us,rfl,_⟩:=h;exact⟨rfl,by simp[Value.cells,Value.oneCell'],fun n e=>by simp[Value.cells]at e⟩
 |yl k=>
  simp only[VR]at h;obtain⟨_,rfl⟩:=h;exact⟨rfl,by simp[Value.cells,Value.oneCell'],fun n e=>by simp[Value.cells]at e⟩
theorem VCs.len:∀{l:List C} {xs:List Value},VCs P A ρ w l xs->xs.length=yj l
 |[],_,h=>by simp only[VCs]at h;subst h;rfl
 |d::l,xs,h=>by
  simp only[VCs]at h;obtain⟨h0,u,rest,rfl,h2,h3⟩:=h;rw[cq,(VR.cells h0 h2).1,VCs.len h3];rfl
theorem VCs.one:∀{l:List C} {xs:List Value},VCs P A ρ w l xs->∀x∈xs,x.oneCell'=true
 |[],_,h=>by simp only[VCs]at h;subst h;intro x hx;cases hx
 |d::l,xs,h=>by
  simp only[VCs]at h;obtain⟨h0,u,rest,rfl,h2,h3⟩:=h;intro x hx;rcases de.1 hx with hx|hx
  ·exact(VR.cells h0 h2).2.1 x hx
  ·exact VCs.one h3 x hx
theorem vM{c:C}(h:c.okP=true):0<c.wid:=by cases c<;>simp_all [C.okP,C.wid]
theorem VCs.nw{l:List C}{xs:List Value}(h:VCs P A ρ w l xs):∀n,xs[0]?≠some (.int .u32 n):=by
 cases l with
 |nil=>simp only[VCs]at h;subst h;intro n e;simp at e
 |cons d l=>
  simp only[VCs]at h;obtain⟨h0,u,rest,rfl,h2,h3⟩:=h;obtain⟨k1,_,k3⟩:=VR.cells h0 h2;have:=vM h0;intro n e;rw[et aa]at e;exact k3 n e
theorem VCs.app{l2:List C}{ys:List Value}(k:VCs P A ρ w l2 ys):∀{l:List C} {xs:List Value},VCs P A ρ w l xs->VCs P A ρ w (l++l2) (xs++ys)
 |[],_,h=>by simp only[VCs]at h;subst h;exact k
 |d::l,xs,h=>by
  simp only[VCs]at h;obtain⟨h0,u,rest,rfl,h2,h3⟩:=h;simp only[jk,VCs];exact⟨h0,u,rest++ys,by rw[cY],h2,VCs.app k h3⟩
theorem VCs.drop:∀{l:List C} {xs:List Value} {off:Nat} {l':List C},VCs P A ρ w l xs->pR l off=some l'->VCs P A ρ w l' (xs.drop off)/\off<=xs.length
 |l,xs,0,l',h,e=>by
  have e':l'=l:=by cases l<;>simpa[pR]using e.symm
  subst e';exact⟨h,aO _⟩
 |[],_,off+1,l',_,e=>by simp[pR]at e
 |c::l,xs,off+1,l',h,e=>by
  simp only[pR]at e;split at e
  ·next hb=>
   have hb':=ei hb;simp only[VCs]at h;obtain⟨h0,u,rest,rfl,h2,h3⟩:=h;have hl:=(VR.cells h0 h2).1;have:=vM h0;obtain⟨k1,k2⟩:=VCs.drop h3 e;refine⟨?_,by rw[cq];omega⟩;rw[List.drop_append,mA aa,cT,hl];exact k1
  ·cases e
theorem VCs.take:∀{l:List C} {xs:List Value} {n:Nat} {l':List C},VCs P A ρ w l xs->pq l n=some l'->VCs P A ρ w l' (xs.take n)/\n<=xs.length
 |l,xs,0,l',h,e=>by
  have e':l'=[]:=by cases l<;>simpa[pq]using e.symm
  subst e';exact⟨by simp only[VCs,eE],aO _⟩
 |[],_,n+1,l',_,e=>by simp[pq]at e
 |c::l,xs,n+1,l',h,e=>by
  simp only[pq]at e;split at e
  ·next hb=>
   have hb':=ei hb;obtain⟨l2,e2,rfl⟩:=eP.1 e;simp only[VCs]at h;obtain⟨h0,u,rest,rfl,h2,h3⟩:=h;have hl:=(VR.cells h0 h2).1;have:=vM h0;obtain⟨k1,k2⟩:=VCs.take h3 e2;refine⟨?_,by rw[cq];omega⟩;rw[List.take_append,cR aa,hl];simp only[VCs];exact⟨h0,u,_,rfl,h2,k1⟩
  ·cases e
theorem VCs.get{l:List C}{xs:List Value}{off n:Nat}{p:List C}(h:VCs P A ρ w l xs)(e:mL l off n=some p):VCs P A ρ w p ((xs.drop off).take n)/\off+n<=xs.length:=by
 unfold mL at e;obtain⟨l1,e1,e2⟩:=jT.1 e;obtain⟨k1,k2⟩:=h.drop e1;obtain⟨k3,k4⟩:=k1.take e2;exact⟨k3,by rw[eQ]at k4;omega⟩
theorem VCs.set{l:List C}{xs ys:List Value}{off n:Nat}{new l':List C}(h:VCs P A ρ w l xs)(hy:VCs P A ρ w new ys)(e:vH l off n new=some l'):VCs P A ρ w l' (xs.take off++ys++xs.drop (off+n))/\off+n<=xs.length:=by
 unfold vH at e;obtain⟨l1,e1,e2⟩:=jT.1 e;obtain⟨l2,e3,rfl⟩:=eP.1 e2;obtain⟨k1,k2⟩:=h.take e1;obtain⟨k3,k4⟩:=h.drop e3;exact⟨VCs.app k3 (VCs.app hy k1),k4⟩
theorem VR.flat{c:C}{u:Value}{p:List C}(h:VR P A ρ w c u)(e:c.flat=some p):VCs P A ρ w p u.cells.toList:=by
 unfold C.flat at e;split at e
 ·simp only[ai]at e;subst e;simp only[VR]at h;obtain⟨cs,rfl,h2⟩:=h;exact h2
 ·split at e
  ·next ho=>
   simp only[ai]at e;subst e;simp only[VCs];exact⟨ho,u,[],by simp,h,rfl⟩
  ·cases e
theorem VCs.gK{row:Bool}{p:List C}{c:C}{xs:List Value}(h:VCs P A ρ w p xs)(e:gK row p=some c):if row then VR P A ρ w c (.agg xs.toArray)else∃u,xs=[u]/\VR P A ρ w c u:=by
 unfold CI.gK at e
 cases row with
 |true=>
  simp only[if_true];simp only at e;split at e
  ·simp only[ai]at e;subst e;simp only[VCs]at h;obtain⟨_,u,rest,rfl,h2,rfl⟩:=h;simp only[VR]at h2⊢;obtain⟨x,rfl,h3⟩:=h2;exact⟨x,by simp[Value.cells],h3⟩
  ·simp only[ai]at e;subst e;simp only[VR];exact⟨_,rfl,by simpa using h⟩
 |false=>
  simp only[tV,if_false];simp only at e;split at e
  ·cases e
  ·next c' hne=>
   simp only[ai]at e;subst e;simp only[VCs]at h;obtain⟨h0,u,rest,rfl,h2,rfl⟩:=h;refine⟨u,?_,h2⟩;obtain⟨k1,k2,_⟩:=VR.cells h0 h2;have hw:c'.wid=1:=by cases c'<;>simp_all [C.okP,C.wid]
   rw[hw]at k1;have hu:u.oneCell'=true:=by
    cases hc:c'<;>rw[hc]at h2 h0<;>simp only[VR]at h2<;>first|(simp[C.okP]at h0;done)|(obtain⟨rfl,h⟩:=h2;exact h)|(obtain⟨_,_,rfl,_⟩:=h2;rfl)|(obtain⟨_,rfl⟩:=h2;rfl)|(obtain⟨_,rfl,_⟩:=h2;rfl)|(exact absurd hc (hne _))
   rw[rB hu];rfl
  ·cases e
end
end CI
end
section
open Go.RowKit
namespace CI
theorem T.uK{α:Type}(k:Nat):T.get (T.e:T α) k=none:=by cases k<;>rfl
theorem AU{j k:Nat}(h:j≠k)(e:j%2=k%2):j/2≠k/2:=by omega
theorem T.AX{α:Type}:∀(f:Nat) (t:T α) (k j:Nat) (x:Option α),k+1<2^f->T.get (T.put f t k x) j=if j=k then x else T.get t j
 |0,t,k,j,x,h=>by simp at h
 |f+1,t,0,j,x,h=>by
  cases t<;>cases j<;>simp[T.put,T.get,T.uK];split<;>rfl
 |f+1,t,k+1,j,x,h=>by
  have hk:k/2+1<2^f:=by rw[dw]at h;omega
  have IH:=fun t j=>T.AX f t (k/2) j x hk
  cases j with
  |zero=>cases t<;>simp only[T.put]<;>split<;>simp[T.get]
  |succ j=>
   have key:∀l r:T α,∀v,T.get (match k%2 with|0=>T.n v (T.put f l (k/2) x) r|_+1=>T.n v l (T.put f r (k/2) x)) (j+1)=if j+1=k+1 then x else T.get (T.n v l r) (j+1):=fun l r v=>by
    have hj:=Nat.mod_two_eq_zero_or_one j;have hk2:=Nat.mod_two_eq_zero_or_one k;rcases hk2 with e|e<;>rcases hj with e'|e'<;>simp only[e,e',T.get,IH]
    ·by_cases hjk:j=k
     ·subst hjk;simp
     ·rw[ah (AU hjk aa),ah aa]
    ·rw[ah aa]
    ·rw[ah aa]
    ·by_cases hjk:j=k
     ·subst hjk;simp
     ·rw[ah (AU hjk aa),ah aa]
   cases t with
   |e=>
    refine(key .e .e none).trans ?_;split
    ·rfl
    ·simp only[T.get];split<;>simp[T.uK]
   |n v l r=>exact key l r v
theorem T.tA{α:Type}{t:T α}{k j:Nat}{x:Option α}(h:k<1000000):T.get (T.put 24 t k x) j=if j=k then x else T.get t j:=
 T.AX 24 t k j x (ly (Nat.succ_le_succ (bR h)) az)
def vy:LS->LoopState
 | .ready=>.ready
 | .busy=>.busy
 | .done=>.done
 | .qU=>.exhausted
def nQ:Ex->Option Code
 | .norm=>none
 | .ret=>some .ret
 | .exit id=>some (.exit id)
def H.live(h:H)(k:Nat):Prop:=(h.get k).isSome=true
section
variable (P : Program)
def TR(A:Nat->Prop)(ρ:Nat->Nat)(w:World)(tm:Tm)(tmps:Array Value):Prop:=∀t,VR P A ρ w (CO.ev tm (CO.t t)) (tmps.getD t undef)
def BR(A:Nat->Prop)(ρ:Nat->Nat)(w:World)(r:Nat):B->Prop
 | .cells T l=>∃arr xs rest,w.heap[r]?=some (.cells arr T (0,0))/\arr.toList=xs++rest/\VCs P A ρ w l xs/\NW w r
 | .loop st p tm ps a b d=>A d/\∃fn tmps a' b',w.heap[r]?=some (.loop ⟨vy st,nQ p,fn,tmps,ps.toArray,a',b',ρ d⟩)/\TR P A ρ w tm tmps/\comp P tmps.size a'=some a/\comp P tmps.size b'=some b/\tmps.size<1000000/\∀t∈ps,t<tmps.size
 | .defd o=>w.heap[r]?=some (.deferred (if o then some []else none))
structure Rel(A:Nat->Prop)(ρ:Nat->Nat)(w:World)(h:H):Prop where
 blk:∀k b,h.get k=some b->k<h.next/\A k/\ρ k<w.heap.size/\BR P A ρ w (ρ k) b
 inj:∀j k,h.live j->h.live k->ρ j=ρ k->j=k
 bd:h.next<=1000000
def Ext(A:Nat->Prop)(h h':H):Nat->Prop:=fun k=>A k\/(h.next<=k/\k<h'.next)
structure cj(A:Nat->Prop)(ρ:Nat->Nat)(w:World)(h:H)(ρ':Nat->Nat)(w':World)(h':H):Prop where
 rho:∀k,(k<h.next\/h'.next<=k)->ρ' k=ρ k
 rel:Rel P (Ext A h h') ρ' w' h'
 lt:Lt w w'
 fr:∀b,b<w.heap.size->(∀k,h.live k->h'.low<=k->ρ k≠b)->w'.heap[b]?=w.heap[b]?
 new:∀k,h.next<=k->h'.live k->w.heap.size<=ρ' k\/∃j,h.live j/\h'.low<=j/\ρ' k=ρ j
def Dj(A:Nat->Prop)(h h':H):Prop:=∀k,A k->k<h.next\/h'.next<=k
structure Good(h h':H):Prop where
 next:h.next<=h'.next
 low:h'.low<=h.low
 forb:h'.forb=h.forb
 keep:∀k,k<h.next->k<h'.low->T.get h'.t k=T.get h.t k
 dead:∀k,k<h.next->¬h.live k->T.get h'.t k=T.get h.t k
end
variable {P : Program} {A A' : Nat->Prop} {ρ ρ' : Nat->Nat} {w w' w'' : World} {h h' h'' : H}
theorem uJ{h h':H}{k:Nat}(hf:h'.forb=h.forb)(ht:T.get h'.t k=T.get h.t k):h'.get k=h.get k:=by
 unfold H.get;rw[hf,ht]
theorem Good.refl(h:H):Good h h:=⟨af _,af _,rfl,fun _ _ _=>rfl,fun _ _ _=>rfl⟩
theorem Good.back(g:Good h h'){k:Nat}(hk:k<h.next)(hl:h'.live k):h.live k:=by
 by_cases hh:h.live k
 ·exact hh
 ·unfold H.live at hl hh⊢;rw[uJ g.forb (g.dead k hk hh)]at hl;exact hl
theorem Good.trans(g:Good h h')(g':Good h' h''):Good h h'':=by
 refine⟨bc g.next g'.next,bc g'.low g.low,g'.forb.trans g.forb,fun k hk hl=>?_,fun k hk hl=>?_⟩
 ·rw[g'.keep k (aK hk g.next) hl,g.keep k hk (aK hl g'.low)]
 ·rw[g'.dead k (aK hk g.next) (fun e=>hl (g.back hk e)),g.dead k hk hl]
theorem TR.mo{tm:Tm}{a:Array Value}(m:Mo A A' ρ ρ')(k:Lt w w')(t:TR P A ρ w tm a):TR P A' ρ' w' tm a:=fun i=>VR.mo m k _ _ (t i)
theorem NW.of{r:Nat}(hh:w'.heap[r]?=w.heap[r]?)(n:NW w r):NW w' r:=fun m e=>n m (by rw[<-e];exact(World.cell?_of_block (a:=⟨r,0,none⟩) hh).symm)
theorem BR.mo{r:Nat}{b:B}(m:Mo A A' ρ ρ')(k:Lt w w')(hh:w'.heap[r]?=w.heap[r]?)(t:BR P A ρ w r b):BR P A' ρ' w' r b:=by
 cases b with
 |cells T l=>
  obtain⟨arr,xs,rest,h1,h2,h3,h4⟩:=t;exact⟨arr,xs,rest,hh.trans h1,h2,VCs.mo m k _ _ h3,NW.of hh h4⟩
 |loop st p tm ps a b d=>
  obtain⟨h0,fn,tmps,a',b',h1,h2,h3⟩:=t;exact⟨m.sub _ h0,fn,tmps,a',b',by rw[hh,h1,m.eq _ h0],h2.mo m k,h3⟩
 |defd o=>exact hh.trans t
theorem Rel.mo(m:Mo A A' ρ ρ')(k:Lt w w')(hb:∀j,h.live j->w'.heap[ρ j]?=w.heap[ρ j]?)(t:Rel P A ρ w h):Rel P A' ρ' w' h:=by
 have hlv:∀j,h.live j->A j:=fun j hj=>by
  obtain⟨b,e⟩:=cA.1 hj;exact(t.blk j b e).2.1
 refine⟨fun j b e=>?_,fun i j hi hj e=>?_,t.bd⟩
 ·obtain⟨h1,h2,h3,h4⟩:=t.blk j b e;have hl:h.live j:=by unfold H.live;rw[e];rfl
  rw[m.eq _ h2];exact⟨h1,m.sub _ h2,aK h3 k.size,h4.mo m k (hb j hl)⟩
 ·rw[m.eq _ (hlv i hi),m.eq _ (hlv j hj)]at e;exact t.inj i j hi hj e
theorem cj.mo(p:cj P A ρ w h ρ' w' h')(d:Dj A h h'):Mo A (Ext A h h') ρ ρ':=⟨fun _ hk=>.inl hk,fun k hk=>p.rho k (d k hk)⟩
theorem cj.refl(t:Rel P A ρ w h):cj P A ρ w h ρ w h:=
 ⟨fun _ _=>rfl,t.mo ⟨fun _ hk=>.inl hk,fun _ _=>rfl⟩ (Lt.refl w) (fun _ _=>rfl),Lt.refl w,fun _ _ _=>rfl,fun k hk hl=>by
  obtain⟨b,e⟩:=cA.1 hl;have:=(t.blk k b e).1;omega⟩
theorem cj.below(t:Rel P A ρ w h)(hb:Below w.heap.size w w'):cj P A ρ w h ρ w' h:=by
 have hlt:∀j,h.live j->ρ j<w.heap.size:=fun j hj=>by
  obtain⟨b,e⟩:=cA.1 hj;exact(t.blk j b e).2.2.1
 refine⟨fun _ _=>rfl,t.mo ⟨fun _ hk=>.inl hk,fun _ _=>rfl⟩ (Lt.below hb) (fun j hj=>hb.block _ (hlt j hj)),Lt.below hb,fun b hbl _=>hb.block b hbl,fun k hk hl=>?_⟩;obtain⟨b,e⟩:=cA.1 hl;have:=(t.blk k b e).1;omega
theorem Dj.left(d:Dj A h h'')(g:h'.next<=h''.next):Dj A h h':=fun k hk=>(d k hk).imp id (fun e=>bc g e)
theorem Dj.right(d:Dj A h h'')(g:h.next<=h'.next):Dj (Ext A h h') h' h'':=fun k hk=>by
 rcases hk with hk|hk
 ·exact(d k hk).imp (fun e=>aK e g) id
 ·exact .inl hk.2
theorem Ext.trans(g:h.next<=h'.next)(g':h'.next<=h''.next)(k:Nat):Ext (Ext A h h') h' h'' k↔Ext A h h'' k:=by
 unfold Ext;constructor
 ·rintro((e|e)|e)
  ·exact .inl e
  ·exact .inr aa
  ·exact .inr aa
 ·rintro(e|e)
  ·exact .inl (.inl e)
  ·by_cases hk:k<h'.next
   ·exact .inl (.inr aa)
   ·exact .inr aa
theorem Mo.ext(g:h.next<=h'.next)(g':h'.next<=h''.next)(ρ:Nat->Nat):Mo (Ext (Ext A h h') h' h'') (Ext A h h'') ρ ρ:=⟨fun k hk=>(Ext.trans g g' k).1 hk,fun _ _=>rfl⟩
theorem cj.trans{ρ'':Nat->Nat}(p:cj P A ρ w h ρ' w' h')(g:Good h h')(q:cj P (Ext A h h') ρ' w' h' ρ'' w'' h'')(g':Good h' h''):cj P A ρ w h ρ'' w'' h'':=by
 refine⟨fun k hk=>?_,q.rel.mo (Mo.ext g.next g'.next _) (Lt.refl _) (fun _ _=>rfl),p.lt.trans q.lt,fun b hb hn=>?_,fun k hk hl=>?_⟩
 ·rw[q.rho k (hk.imp (fun e=>aK e g.next) id),p.rho k (hk.imp id (fun e=>bc g'.next e))]
 ·rw[q.fr b (aK hb p.lt.size) fun k hl hk e=>?_,p.fr b hb fun k hl hk=>hn k hl (bc g'.low hk)];by_cases hkn:k<h.next
  ·rw[p.rho k (.inl hkn)]at e;exact hn k (g.back hkn hl) hk e
  ·rcases p.new k aa hl with e2|⟨j,h1,h2,h3⟩
   ·omega
   ·exact hn j h1 (bc g'.low h2) (h3.symm.trans e)
 ·by_cases hkn:k<h'.next
  ·have hl':=g'.back hkn hl;rw[q.rho k (.inl hkn)];rcases p.new k hk hl' with e|⟨j,h1,h2,h3⟩
   ·exact .inl e
   ·exact .inr ⟨j,h1,bc g'.low h2,h3⟩
  ·rcases q.new k aa hl with e|⟨j,h1,h2,h3⟩
   ·exact .inl (bc p.lt.size e)
   ·by_cases hj:j<h.next
    ·rw[p.rho j (.inl hj)]at h3;exact .inr ⟨j,g.back hj h1,h2,h3⟩
    ·rcases p.new j aa h1 with e|⟨i,k1,k2,k3⟩
     ·exact .inl (by rw[h3];exact e)
     ·exact .inr ⟨i,k1,bc g'.low k2,h3.trans k3⟩
theorem cM{b:B}(e:h.new b=some h'):h'.next=h.next+1/\h'.low=h.low/\h'.forb=h.forb/\h.next<1000000/\∀j,T.get h'.t j=if j=h.next then some b else T.get h.t j:=by
 unfold H.new at e;split at e
 ·next hb=>
  simp only[ai]at e;subst e;have hb':h.next<1000000:=by simpa[bf]using hb
  exact⟨rfl,rfl,rfl,hb',fun j=>T.tA hb'⟩
 ·cases e
theorem td{b:B}(e:h.new b=some h'):Good h h':=by
 obtain⟨h1,h2,h3,h4,h5⟩:=cM e;exact⟨by omega,by omega,h3,fun k hk _=>by rw[h5,ah aa],fun k hk _=>by rw[h5,ah aa]⟩
def at'(ρ:Nat->Nat)(n r:Nat):Nat->Nat:=fun k=>if k=n then r else ρ k
theorem kQ{b:B}{r:Nat}(t:Rel P A ρ w h)(e:h.new b=some h')(hd:Dj A h h')(hbl:Below w.heap.size w w')(h1:w.heap.size<=r)(h2:r<w'.heap.size)
  (hB:∀A' ρ',Mo A A' ρ ρ'->ρ' h.next=r->A' h.next->BR P A' ρ' w' r b):cj P A ρ w h (at' ρ h.next r) w' h':=by
 obtain⟨k1,k2,k3,k4,k5⟩:=cM e;have hmo:Mo A (Ext A h h') ρ (at' ρ h.next r):=⟨fun _ hk=> .inl hk,fun k hk=>by
  have:=hd k hk;unfold at';rw[ah aa]⟩
 have hg:∀k,h'.get k=some b/\k=h.next\/h'.get k=h.get k/\k≠h.next\/h'.get k=none:=fun k=>by
  unfold H.get;rw[k3,k5];by_cases hk:k=h.next
  ·rw[aj hk];cases da k h.forb<;>simp[hk]
  ·rw[ah hk];exact .inr (.inl ⟨rfl,hk⟩)
 have hlt:∀j c,h.get j=some c->j<h.next/\ρ j<w.heap.size:=fun j c ej=>⟨(t.blk j c ej).1,(t.blk j c ej).2.2.1⟩
 have hat:∀j,j≠h.next->at' ρ h.next r j=ρ j:=fun j hj=>by unfold at';rw[ah hj]
 have hatn:at' ρ h.next r h.next=r:=by unfold at';rw[aj rfl]
 refine⟨fun k hk=>hat k aa,⟨fun k c ek=>?_,fun i j hi hj ee=>?_,by omega⟩,Lt.below hbl,fun b hb _=>hbl.block b hb,fun k hk hl=>?_⟩
 ·rcases hg k with⟨e1,e2⟩|⟨e1,e2⟩|e1
  ·rw[e1]at ek;simp only[ai]at ek;subst ek;subst e2;rw[hatn];have hA:Ext A h h' h.next:= .inr ⟨af _,by omega⟩
   exact⟨by omega,hA,h2,hB _ _ hmo hatn hA⟩
  ·rw[e1]at ek;obtain⟨m1,m2,m3,m4⟩:=t.blk k c ek;rw[hat k e2];exact⟨by omega, .inl m2,aK m3 hbl.size,m4.mo hmo (Lt.below hbl) (hbl.block _ m3)⟩
  ·rw[e1]at ek;cases ek
 ·have key : ∀ i, h'.live i -> (i = h.next \/ (i ≠ h.next /\ h.live i /\ ρ i < w.heap.size)) := fun i hi => by
   unfold H.live at hi;rcases hg i with⟨e1,e2⟩|⟨e1,e2⟩|e1
   ·exact .inl e2
   ·rw[e1]at hi;obtain⟨c,ec⟩:=cA.1 hi;exact .inr ⟨e2,hi,(hlt i c ec).2⟩
   ·rw[e1]at hi;cases hi
  rcases key i hi with hi'|⟨hi1,hi2,hi3⟩<;>rcases key j hj with hj'|⟨hj1,hj2,hj3⟩
  ·rw[hi',hj']
  ·rw[hi',hatn,hat j hj1]at ee;omega
  ·rw[hj',hatn,hat i hi1]at ee;omega
  ·rw[hat i hi1,hat j hj1]at ee;exact t.inj i j hi2 hj2 ee
 ·unfold H.live at hl;rcases hg k with⟨e1,e2⟩|⟨e1,e2⟩|e1
  ·subst e2;exact .inl (by rw[hatn];exact h1)
  ·rw[e1]at hl;obtain⟨c,ec⟩:=cA.1 hl;have:=(hlt k c ec).1;omega
  ·rw[e1]at hl;cases hl
theorem px{k:Nat}{b:Option B}(hk:k<1000000):(h.set k b).next=h.next/\(h.set k b).forb=h.forb/\((h.set k b).low<=h.low/\(h.set k b).low<=k)/\∀j,T.get (h.set k b).t j=if j=k then b else T.get h.t j:=by
 refine⟨rfl,rfl,?_,fun j=>T.tA hk⟩;show(match Nat.blt k h.low with|true=>k|false=>h.low)<=h.low/\(match Nat.blt k h.low with|true=>k|false=>h.low)<=k;split
 ·next e=>
  have:k<h.low:=by simpa[bf]using e
  exact⟨bR this,af _⟩
 ·next e=>
  have:¬k<h.low:=by intro e2;rw[<-bf]at e2;rw[e2]at e;cases e
  exact⟨af _,by omega⟩
theorem jo{k:Nat}(hl:h.live k):da k h.forb=false:=by
 unfold H.live H.get at hl
 cases e:da k h.forb with
 |false=>rfl
 |true=>rw[e]at hl;cases hl
theorem Rel.live(t:Rel P A ρ w h){k:Nat}(hl:h.live k):k<h.next/\A k/\ρ k<w.heap.size:=by
 obtain⟨b,e⟩:=cA.1 hl;exact⟨(t.blk k b e).1,(t.blk k b e).2.1,(t.blk k b e).2.2.1⟩
theorem sU{k:Nat}{b:Option B}(hk:k<1000000)(hl:h.live k):Good h (h.set k b):=by
 obtain⟨k1,k2,k3,k4⟩:=px (h:=h) (b:=b) hk;refine⟨Nat.le_of_eq k1.symm,k3.1,k2,fun j hj hlo=>?_,fun j hj hd=>?_⟩
 ·rw[k4,ah (by have:=k3.2;omega)]
 ·rw[k4,ah (fun e=>hd (by rw[e];exact hl))]
theorem yv{k:Nat}{b:B}(t:Rel P A ρ w h)(hl:h.live k)(hc:Chg (ρ k) w w')(hnw:NW w (ρ k))(hs:∀s,w.shape? (ρ k)=some s->w'.shape? (ρ k)=some s)
  (hB:BR P A ρ w' (ρ k) b):cj P A ρ w h ρ w' (h.set k (some b)):=by
 obtain⟨m1,m2,m3⟩:=t.live hl;have hk:k<1000000:=aK m1 t.bd;obtain⟨k1,k2,k3,k4⟩:=px (h:=h) (b:=some b) hk;have hlt:=Lt.chg hc hnw hs;have hmo:Mo A (Ext A h (h.set k (some b))) ρ ρ:=⟨fun _ hk=>.inl hk,fun _ _=>rfl⟩;have hg:∀j,j≠k->(h.set k (some b)).get j=h.get j:=fun j hj=>uJ k2 (by rw[k4,ah hj]);have hgk:(h.set k (some b)).get k=some b:=by
  unfold H.get;rw[k2,jo hl,k4,aj rfl]
 have hlv:∀j,(h.set k (some b)).live j->h.live j:=fun j hj=>by
  by_cases e:j=k
  ·rw[e];exact hl
  ·unfold H.live at hj⊢;rw[hg j e]at hj;exact hj
 refine⟨fun _ _=>rfl,⟨fun j c ej=>?_,fun i j hi hj=>t.inj i j (hlv i hi) (hlv j hj),t.bd⟩,hlt,fun r hr hn=>hc.block r hr fun e=>hn k hl k3.2 e.symm,fun j hj hlj=>?_⟩
 ·by_cases e:j=k
  ·subst e;rw[hgk]at ej;simp only[ai]at ej;subst ej;exact⟨m1,.inl m2,aK m3 hlt.size,hB.mo hmo (Lt.refl _) rfl⟩
  ·rw[hg j e]at ej;obtain⟨n1,n2,n3,n4⟩:=t.blk j c ej;have hne:ρ j≠ρ k:=fun e2=>e (t.inj j k (by unfold H.live;rw[ej];rfl) hl e2);exact⟨n1,.inl n2,aK n3 hlt.size,n4.mo hmo hlt (hc.block _ n3 hne)⟩
 ·have:=(t.live (hlv j hlj)).1;omega
end CI
end
end Go.Proofs.YtcgjmdpcplhanaaGreat
