/- Lemmas for the law: W20 Q26 Q27 E28 E18 E19 -/
import Derived.Test.YtcgjmdpcplhanaaGreatZh12
namespace Go.Proofs.YtcgjmdpcplhanaaGreat
section
theorem zs118{p q:Prop}(h:q)(f:Wq q->p:=by(intro hW;((first|(apply ai 10;(focus kernel_rfl);(decide+kernel))|(apply ai 9;(focus kernel_rfl);(decide+kernel))|(apply ai 8;(focus kernel_rfl);(decide+kernel))|(apply ai 7;(focus kernel_rfl);(decide+kernel))|(apply ai 6;(focus kernel_rfl);(decide+kernel))|(apply ai 5;(focus kernel_rfl);(decide+kernel))|(apply ai 4;(focus kernel_rfl);(decide+kernel))|(apply ai 3;(focus kernel_rfl);(decide+kernel)));simp only[List.take_succ_cons,List.take_zero,List.drop_succ_cons,List.drop_zero]);exact hW.out)):p:=f ⟨h⟩
theorem Ga{p q:Prop}(h:q)(f:Wq q->p:=by(intro hW;((refine zs118 ?_;refine zC ?_;refine bp ?_;refine aQ ?_;refine cR ?_;refine bp ?_;refine zC ?_;refine bp ?_;refine aQ ?_;refine cR ?_;refine bp ?_;refine vB ?_;refine di ?_));exact hW.out)):p:=f ⟨h⟩
theorem zb72{p:Prop}(h:p:=by rw[D.out.2.2.2];exact Nat.div_le_self _ _):p:=h
theorem zb49{p:Prop}(h:p:=by rw[<-HQ.out];exact en D.out.2.2.1 H1.out.nf.dg zb72):p:=h
theorem zJ{p q:Prop}(h:q)(f:Wq q->p:=by(intro hW;((refine gar ?_;refine gU ?_;refine gU ?_;refine qn ?_;refine af ?_));exact hW.out)):p:=f ⟨h⟩
theorem GF{p q:Prop}(h:q)(f:Wq q->p:=by(intro hW;((first|(refine aLs rfl rfl rfl rfl ?_ ?_;(focus(apply aY;(conv=>lhs;whnf);(first|done|exact rfl|(apply aK;(first|(apply decide_eq_true;omega)|(apply decide_eq_false;omega)|assumption|(simp;done)))))))|refine aLw rfl rfl rfl rfl bK Ap ?_));exact hW.out)):p:=f ⟨h⟩
theorem GG{p q:Prop}(h:q)(f:Wq q->p:=by(intro hW;((first|(refine aLs rfl rfl rfl rfl ?_ ?_;(focus(apply aY;(conv=>lhs;whnf);(first|done|exact rfl|(apply aK;(first|(apply decide_eq_true;omega)|(apply decide_eq_false;omega)|assumption|(simp;done)))))))|refine aLw rfl rfl rfl rfl bK An ?_));exact hW.out)):p:=f ⟨h⟩
theorem zH{p q:Prop}(h:q)(f:Wq q->p:=by(intro hW;((refine gar ?_;refine oc ?_;refine br ?_;refine oc ?_;refine br ?_;refine oa ?_;refine zs4 ?_;refine GG ?_;refine qo ?_;refine iw ?_;refine GG ?_;refine qo ?_;refine iw ?_;refine GF ?_;refine iu ?_;refine af ?_));exact hW.out)):p:=f ⟨h⟩
end
section
open Go.RowKit Go.BigFrame
attribute [local go_sem ↓] Go.wp_at_zero Go.wp_at_succ
theorem xZ(r y:Nat):4*(r*y)<=(r+y)*(r+y):=by
 rcases Nat.le_total r y with h|h<;>obtain⟨d,rfl⟩:=Nat.le.dest h
 ·have:(r+(r+d))*(r+(r+d))=4*(r*(r+d))+d*d:=by grind
  omega
 ·have:(y+d+y)*(y+d+y)=4*((y+d)*y)+d*d:=by grind
  omega
theorem CT{a r:Nat}(hr:0<r):a<((r+a/r)/2+1)*((r+a/r)/2+1):=by
 have h1:a<r*(a/r+1):=by
  have:=Nat.div_add_mod a r;have:=Nat.mod_lt a hr;rw[Nat.mul_add,Nat.mul_one];omega
 generalize a/r=q at*;have h2:=xZ r (q+1);have h3:r+(q+1)<=2*((r+q)/2+1):=by omega
 generalize(r+q)/2+1=m at*;have h4:=Nat.mul_le_mul h3 h3;have h5:2*m*(2*m)=4*(m*m):=by grind
 omega
theorem AS{a r:Nat}(h:r<=(r+a/r)/2):r*r<=a:=by
 have h1:r<=a/r:=by omega
 exact Nat.le_trans (Nat.mul_le_mul_left r h1) (Nat.mul_div_le a r)
theorem xV(n:Nat):Dg.NF B32 ((List.replicate (n+1) 0).set n 1)/\Dg.vl B32 ((List.replicate (n+1) 0).set n 1)=B32^n:=by
 have e:(List.replicate (n+1) 0).set n 1=List.replicate n 0++[1]:=by
  rw[List.replicate_succ',List.set_append_right _ _ (by simp)];simp
 rw[e];refine⟨⟨Dg.iT (Dg.eh (by decide) _) (fun x hx=>by rw[List.mem_singleton.1 hx];decide),by simp⟩,?_⟩;rw[Dg.cI,Dg.na];simp[Dg.vl]
theorem bh.Fk(W:World)(N k d:Nat)(hk:k<N):bh (W.alloc (.cells ((madeCells #[.int .u32 0] N).setIfInBounds k (.int .u32 (d:Int))) 138)) W.heap.size ((List.replicate N 0).set k d):=by
 have h:=(bh.made W N).set (k:=k) (by simpa using hk) d;simpa only[go_sem]using h
structure RC(wr:World)(a:Option Addr)(l:List Nat)(L k:Nat)(a1:Option Addr)(l1:List Nat)(c1:Nat):Prop where
 w0:WS wr a l
 w1:WS wr a1 l1
 n1:Dg.NF B32 l1
 h1:l1.length<=c1
 b1:l1.length<=L
 p:0<Dg.vl B32 l1
 u:Dg.vl B32 l<(Dg.vl B32 l1+1)*(Dg.vl B32 l1+1)
 k:k=Dg.vl B32 l1
def RtRes(u:Nat)(e:Ending)(w':World):Prop:=∃z r,e= .returned (.tuple #[.agg #[.bool z.s,.slice z.a z.n z.cap],.int .i64 0])/\IZ w' z ((r:Nat):Int)/\r*r<=u/\u<(r+1)*(r+1)
set_option maxRecDepth 10000 in
set_option maxHeartbeats 8000000 in
theorem EX(x:IV)(u:Int)(fu:Fit u)(hu:0<=u)(w:World)(hx:IP w x u):
  Calls Tryz.prog 203 #[.agg #[.bool x.s,.slice x.a x.n x.cap]] w fun e w'=>RtRes u.toNat e w'/\Below w.heap.size w w':=by
 obtain⟨l,h1,rfl⟩:=hx;have bl:=dC h1.nf fu;have S1:=Lib.hid (fun w (h:IW w x l)=>dE x l (by omega) w h);have H1:=Lib.hid h1;by_cases hl0:l=[]
 ·have hv0:Dg.iv x.s (Dg.vl B32 l)=0:=by rw[hl0];exact Dg.mI _
  rw[hv0];have hml:l.length=0:=by rw[hl0];rfl
  rw[hml]at S1;obtain⟨s,a,n,cap⟩:=x;simp only[]at S1;clear h1 fu hv0 hml hl0 hu
  go_enter Tryz.func203,Tryz.ntmps203
  go_wp2_with (first|(go_at_call 163;(with_reducible refine(S1.out _ ?_).mono ?_);(exact H1.out.below (B:=w.heap.size) ah (Nat.le_refl _));rintro e w1 ⟨rfl,hb1⟩;obtain⟨g1,rfl⟩:=mob hb1;clear hb1))
  refine bodyPost_ret (v:=.tuple #[.agg #[.bool ((⟨false,none,0,0⟩:IV)).s,.slice ((⟨false,none,0,0⟩:IV)).a ((⟨false,none,0,0⟩:IV)).n ((⟨false,none,0,0⟩:IV)).cap],.int .i64 0]) (by simp[results,Tryz.results203,go_sem]) rfl ?_;exact⟨⟨⟨false,none,0,0⟩,0,rfl,IZ.zero _,by simp,by simp⟩,by exact bel⟩
 have hvp:=Dg.gJ h1.nf hl0 (by decide);have hs:x.s=false:=by
  cases hxs:x.s with
  |false=>rfl
  |true=>rw[hxs]at hu;simp[Dg.iv]at hu;omega
 have hut:(Dg.iv x.s (Dg.vl B32 l)).toNat=Dg.vl B32 l:=by rw[hs];simp[Dg.iv]
 rw[hut];have hlp:0<l.length:=List.length_pos_iff.2 hl0;obtain⟨n,hn⟩:∃n,n=l.length/2+1:=⟨_,rfl⟩;have m1:¬l.length=0:=by omega
 have m2:¬(l.length:Int)=0:=by omega
 have m3:((l.length:Int)==0)=false:=by simpa using hl0
 have hmk:∀w:World,(Instr.makeSlice 176 (.int .i64 ((l.length:Int)/2+2)) (.int .i64 ((l.length:Int)/2+2))).run Tryz.prog w= .ok (.slice (some ⟨w.heap.size,0,none⟩) (n+1) (n+1)) (w.alloc (.cells (madeCells #[.int .u32 0] (n+1)) 138)):=fun w=>by
  have:=run_make_row' (P:=Tryz.prog) 176 138 (.int .u32 0) 4 Tryz.underlying176 jf rfl .i64 .i64 (n+1) (by omega) (by omega) w;rw[show((n+1:Nat):Int)=(l.length:Int)/2+2 by omega]at this;exact this
 have start:Hid (Dg.vl B32 l<(B32^n+1)*(B32^n+1)):=by
  refine Nat.lt_of_lt_of_le (Dg.bf h1.nf.dg) (Nat.le_trans (Nat.pow_le_pow_right (n:=B32) (by decide) (show l.length<=n+n by omega)) ?_);rw[Nat.pow_add];exact Nat.mul_le_mul (Nat.le_succ _) (Nat.le_succ _)
 have DV:=Lib.hid (fun lb a b ca cb hb hb0 hca w h1' h2=>nP l lb a b ca cb h1.nf hb hb0 (by omega) hca w h1' h2);have MA:=Lib.hid (fun (k:List Nat) a c (hc:k.length<=c) (hk:Dg.NF B32 k) (hb:k.length<=3000000000000) w h=>gZ false k a c hb hc hk.dg w h);obtain⟨s,a,p0,cap⟩:=x;simp only[]at S1 DV hs;subst hs;clear h1 fu hu hut hl0 hvp;generalize hq:l.length=q at*;have HQ:=Lib.hid hq;have HN:=0;clear hq HN;subst hn
 go_enter Tryz.func203,Tryz.ntmps203
 go_upto_region 7 with(first|(go_at_call 163;(with_reducible refine(S1.out _ ?_).mono ?_);(exact H1.out.below (B:=w.heap.size) ah (Nat.le_refl _));rintro e w1 ⟨rfl,hb1⟩;obtain⟨g1,rfl⟩:=mob hb1;clear hb1))
 have RU:=bh.made (more ((w.alloc (.cells #[.bool false,.slice a p0 cap] 62)).alloc (.cells #[.bool false,.slice none 0 0] 62)) g1) (q/2+1+1);have HB:=Lib.hid RU;have c0:=RU.cell (k:=q/2+1) (by simp);have f0:=RU.frozen (q/2+1);simp only[eH,World.size_alloc]at c0 f0;clear RU hmk;have hB0:Below w.heap.size w (more ((w.alloc (.cells #[.bool false,.slice a p0 cap] 62)).alloc (.cells #[.bool false,.slice none 0 0] 62)) g1):=by exact bel
 have G0:Hid (RC ((more ((w.alloc (.cells #[.bool false,.slice a p0 cap] 62)).alloc (.cells #[.bool false,.slice none 0 0] 62)) g1).alloc (.cells ((madeCells #[.int .u32 0] (q/2+1+1)).setIfInBounds (q/2+1) (.int .u32 1)) 138)) a l 300000000000 (B32^(q/2+1)) (some ⟨w.heap.size+1+1+g1.2.size,0,none⟩) ((List.replicate (q/2+1+1) 0).set (q/2+1) 1) (q/2+1+1)):=by
  obtain⟨n1,n2⟩:=xV (q/2+1);refine⟨H1.out.ws.below (hB0.trans (Below.alloc (Below.refl _ _) hB0.size _)) (Nat.le_refl _),?_,n1,by simp,by simp;omega,by rw[n2];exact Nat.pow_pos (by decide),by rw[n2];exact start.out,n2.symm⟩;have:=(bh.Fk (more ((w.alloc (.cells #[.bool false,.slice a p0 cap] 62)).alloc (.cells #[.bool false,.slice none 0 0] 62)) g1) (q/2+1+1) (q/2+1) 1 (by omega)).ws;simp only[eH,World.size_alloc]at this;exact this
 go_wp2_with fail
 clear hB0 start c0 f0 HB
 go_loopg [5] (B32^(q/2+1)) (fun k A wr=>∃(a1:Option Addr) (l1:List Nat) (c1:Nat),A= .slice a1 l1.length c1/\Ext ((more ((w.alloc (.cells #[.bool false,.slice a p0 cap] 62)).alloc (.cells #[.bool false,.slice none 0 0] 62)) g1).alloc (.cells ((madeCells #[.int .u32 0] (q/2+1+1)).setIfInBounds (q/2+1) (.int .u32 1)) 138)) wr/\Hid (RC wr a l 300000000000 k a1 l1 c1))
 case atStart=>exact⟨_,_,q/2+1+1,by simp,Ext.refl _,G0.out⟩
 case round=>
  obtain⟨a1,l1,c1,rfl,hext,HG⟩:=hrel;obtain⟨gx,rfl⟩:=mob (Ext.below hext);clear hext G0;have PL:Hid (∀(k m:List Nat) (a b:Option Addr) (c cb:Nat),Dg.NF B32 k->Dg.NF B32 m->k.length<=300000000000->m.length<=300000000000->∀w,WS w a k->WS w b m->Calls Tryz.prog 194 #[.slice a k.length c,.slice b m.length cb] w fun e w'=>mq w' e (Dg.vl B32 k+Dg.vl B32 m)/\Below w.heap.size w w'):=
   fun k m a b c cb hk hm bk bm w ha hb=>qE k m a b c cb hk.dg hm.dg (by omega) (by omega) w ha hb
  have SH:Hid (∀(k:List Nat) (a:Option Addr) (c:Nat),Dg.NF B32 k->k.length<=1000000000000->∀w,WS w a k->Calls Tryz.prog 209 #[.slice a k.length c,.int .u32 2] w fun e w'=>(∃a' l',e= .returned (.tuple #[.slice a' l'.length l'.length,.int .u32 ((Dg.vl B32 k%2:Nat):Int)])/\WS w' a' l'/\Dg.NF B32 l'/\Dg.vl B32 l'=Dg.vl B32 k/2)/\Below w.heap.size w w'):=
   fun k a c hk bk w ha=>oC k a c 2 (by omega) hk.dg bk w ha
  have CM:=Lib.hid (fun (k m:List Nat) (a b:Option Addr) (c cb:Nat) (hk:Dg.NF B32 k) (hm:Dg.NF B32 m) (bk:k.length<=3000000000000) w ha hb=>gK k m a b c cb hk hm bk w ha hb);have hne:l1≠[]:=fun e=>by have:=HG.out.p;rw[e]at this;simp[Dg.vl]at this
  have DV1:=Lib.hid (DV.out l1 a a1 q c1 HG.out.n1 hne (Nat.le_refl _) _ HG.out.w0 HG.out.w1);clear DV hne;obtain⟨U,hU⟩:∃U,U=(Dg.vl B32 l1+Dg.vl B32 l/Dg.vl B32 l1)/2:=⟨_,rfl⟩;have UP:Hid (Dg.vl B32 l<(U+1)*(U+1)):=by rw[hU];exact CT HG.out.p
  have UE:Hid (Dg.vl B32 l1<=U->Dg.vl B32 l1*Dg.vl B32 l1<=Dg.vl B32 l):=by rw[hU];exact AS
  have U0:Hid (0<U):=by
   have h1:=HG.out.p;have h2:=UP.out;rcases Nat.eq_zero_or_pos U with h3|h3
   ·rw[h3]at h2;have h4:Dg.vl B32 l=0:=by omega
    exact absurd (Dg.gJ H1.out.nf (fun e=>by have:=HQ.out;rw[e]at this;simp at this;omega) (by decide)) (by omega)
   ·exact h3
  have HU:=Lib.hid hU;clear hU;by_cases hlt:U<Dg.vl B32 l1
  ·have cz:dR U (Dg.vl B32 l1)= -1:=by unfold dR;rw[if_pos hlt]
   have CZ:=Lib.hid cz;have HLT:=Lib.hid hlt;clear cz hlt
   go_wp2_with (first|(go_at_call 193;(with_reducible refine(DV1.out).mono ?_);rintro e w3 ⟨a3,l3,c3,a4,l4,c4,rfl,d1,d2,d3,d4,d5,d6,d7,d8,hb3⟩;have D:=Lib.hid (And.intro d1 (And.intro d3 (And.intro d5 d7)));clear d1 d2 d3 d4 d5 d6 d7 d8;have HB3:=Lib.hid hb3;obtain⟨g3,rfl⟩:=mob hb3;clear hb3)|(go_at_call 194;(with_reducible refine(PL.out l1 l3 a1 a3 c1 c3 HG.out.n1 D.out.2.2.1 HG.out.b1 ?_ _ ?_ ?_).mono ?_);(focus(refine Nat.le_trans (en D.out.2.2.1 H1.out.nf.dg ?_) ?_;(focus(rw[D.out.2.2.2];exact Nat.div_le_self _ _));(focus(rw[HQ.out];omega))));(exact HG.out.w1.below HB3.out (Nat.le_refl _));(exact D.out.2.1);rintro e w5 ⟨⟨a5,l5,rfl,r1,r2,r3⟩,hb5⟩;have R5:=Lib.hid (And.intro r1 (And.intro r2 r3));clear r1 r2 r3;have HB5:=Lib.hid (HB3.out.trans (hb5.mono HB3.out.size));obtain⟨g5,rfl⟩:=mob hb5;clear hb5)|(go_at_call 209;(with_reducible refine(SH.out l5 a5 l5.length R5.out.2.1 ?_ _ R5.out.1).mono ?_);(focus(have h5:=oz (Dg.bf HG.out.n1.dg) (Dg.bf D.out.2.2.1.dg);rw[<-R5.out.2.2]at h5;have h6:=jJ R5.out.2.1 h5;have h7:=HG.out.b1;have h8:l3.length<=q:=zb49;omega));rintro e w6 ⟨⟨a6,l6,rfl,r1,r2,r3⟩,hb6⟩;rw[R5.out.2.2,D.out.2.2.2,<-HU.out]at r3;have R6:=Lib.hid (And.intro r1 (And.intro r2 r3));clear r1 r2 r3;have HB6:=Lib.hid (HB5.out.trans (hb6.mono HB5.out.size));obtain⟨g6,rfl⟩:=mob hb6;clear hb6)|(go_at_call 208;(with_reducible refine(CM.out l6 l1 a6 a1 l6.length c1 R6.out.2.1 HG.out.n1 ?_ _ R6.out.1 (HG.out.w1.below HB6.out (Nat.le_refl _))).mono ?_);(focus(have h9:=en R6.out.2.1 HG.out.n1.dg (by rw[R6.out.2.2];exact Nat.le_of_lt HLT.out);have:=HG.out.b1;omega));rintro e w7 ⟨rfl,hb7⟩;rw[R6.out.2.2,CZ.out];have R7:=Lib.hid (R6.out.1.below hb7 (Nat.le_refl _));have HB7:=Lib.hid (HB6.out.trans (hb7.mono HB6.out.size));obtain⟨g7,rfl⟩:=mob hb7;clear hb7))
   go_roundg U
   case measure=>rw[HG.out.k];exact HLT.out
   case rel=>exact⟨a6,l6,l6.length,rfl,iQ ah,HG.out.w0.below HB7.out (Nat.le_refl _),R7.out,R6.out.2.1,Nat.le_refl _,Nat.le_trans (en R6.out.2.1 HG.out.n1.dg (by rw[R6.out.2.2];exact Nat.le_of_lt HLT.out)) HG.out.b1,by rw[R6.out.2.2];exact U0.out,by rw[R6.out.2.2];exact UP.out,R6.out.2.2.symm⟩
  ·obtain⟨C,hC0,hC⟩:∃C:Int,0<=C/\dR U (Dg.vl B32 l1)=C:=⟨_,by unfold dR;rw[if_neg hlt];split<;>decide,rfl⟩;have CZ:=Lib.hid hC;have HE:=Lib.hid (UE.out (Nat.le_of_not_lt hlt));have hC1:decide ((0:Int)<=C)=true:=by rw[decide_eq_true_iff];exact hC0
   clear hC hlt
   go_wp2_with (first|(go_at_call 193;(with_reducible refine(DV1.out).mono ?_);rintro e w3 ⟨a3,l3,c3,a4,l4,c4,rfl,d1,d2,d3,d4,d5,d6,d7,d8,hb3⟩;have D:=Lib.hid (And.intro d1 (And.intro d3 (And.intro d5 d7)));clear d1 d2 d3 d4 d5 d6 d7 d8;have HB3:=Lib.hid hb3;obtain⟨g3,rfl⟩:=mob hb3;clear hb3)|(go_at_call 194;(with_reducible refine(PL.out l1 l3 a1 a3 c1 c3 HG.out.n1 D.out.2.2.1 HG.out.b1 ?_ _ ?_ ?_).mono ?_);(focus(refine Nat.le_trans (en D.out.2.2.1 H1.out.nf.dg ?_) ?_;(focus(rw[D.out.2.2.2];exact Nat.div_le_self _ _));(focus(rw[HQ.out];omega))));(exact HG.out.w1.below HB3.out (Nat.le_refl _));(exact D.out.2.1);rintro e w5 ⟨⟨a5,l5,rfl,r1,r2,r3⟩,hb5⟩;have R5:=Lib.hid (And.intro r1 (And.intro r2 r3));clear r1 r2 r3;have HB5:=Lib.hid (HB3.out.trans (hb5.mono HB3.out.size));obtain⟨g5,rfl⟩:=mob hb5;clear hb5)|(go_at_call 209;(with_reducible refine(SH.out l5 a5 l5.length R5.out.2.1 ?_ _ R5.out.1).mono ?_);(focus(have h5:=oz (Dg.bf HG.out.n1.dg) (Dg.bf D.out.2.2.1.dg);rw[<-R5.out.2.2]at h5;have h6:=jJ R5.out.2.1 h5;have h7:=HG.out.b1;have h8:l3.length<=q:=zb49;omega));rintro e w6 ⟨⟨a6,l6,rfl,r1,r2,r3⟩,hb6⟩;rw[R5.out.2.2,D.out.2.2.2,<-HU.out]at r3;have R6:=Lib.hid (And.intro r1 (And.intro r2 r3));clear r1 r2 r3;have HB6:=Lib.hid (HB5.out.trans (hb6.mono HB5.out.size));obtain⟨g6,rfl⟩:=mob hb6;clear hb6)|(go_at_call 208;(with_reducible refine(CM.out l6 l1 a6 a1 l6.length c1 R6.out.2.1 HG.out.n1 ?_ _ R6.out.1 (HG.out.w1.below HB6.out (Nat.le_refl _))).mono ?_);(focus(have h9:=en R6.out.2.1 R5.out.2.1.dg (by rw[R6.out.2.2,R5.out.2.2,D.out.2.2.2,HU.out];exact Nat.div_le_self _ _);have h5:=oz (Dg.bf HG.out.n1.dg) (Dg.bf D.out.2.2.1.dg);rw[<-R5.out.2.2]at h5;have h6:=jJ R5.out.2.1 h5;have h7:=HG.out.b1;have h8:l3.length<=q:=zb49;omega));rintro e w7 ⟨rfl,hb7⟩;rw[R6.out.2.2,CZ.out];have R7:=Lib.hid (R6.out.1.below hb7 (Nat.le_refl _));have HB7:=Lib.hid (HB6.out.trans (hb7.mono HB6.out.size));obtain⟨g7,rfl⟩:=mob hb7;clear hb7)|(go_at_call 162;(with_reducible refine(MA.out l1 a1 c1 HG.out.h1 HG.out.n1 (by have:=HG.out.b1;omega) _ (HG.out.w1.below HB7.out (Nat.le_refl _))).mono ?_);rintro e w8 ⟨⟨y,rfl,hy⟩,hb8⟩;have HY:=Lib.hid (show IZ w8 y ((Dg.vl B32 l1:Nat):Int)from hy);clear hy;obtain⟨g8,rfl⟩:=mob hb8;clear hb8))
   refine bodyPost_ret (v:=.tuple #[.agg #[.bool y.s,.slice y.a y.n y.cap],.int .i64 0]) (by simp[results,Tryz.results203,go_sem]) rfl ?_;exact⟨⟨y,_,rfl,IZ.dQ HY.out (by exact iJ),HE.out,HG.out.u⟩,by exact bel⟩
end
section
open Go.RowKit
namespace CI
def bnd(z:Int):Bool:=Nat.blt z.natAbs 1208925819614629174706176
def i64(n:Int):C:=.sc (.int .i64 n)
def o1(f:Int->Option C):Orc:=fun l=>match l with
 |[a]=>match xG a with
  |some z=>match bnd z with
   |true=>f z
   |false=>none
  |none=>none
 |_=>none
def o2(f:Int->Int->Option C):Orc:=fun l=>match l with
 |[a,b]=>match xG a with
  |some y=>match xG b with
   |some z=>match bnd y with
    |true=>match bnd z with
     |true=>f y z
     |false=>none
    |false=>none
   |none=>none
  |none=>none
 |_=>none
def sg(z:Int):Int:=match z with| .negSucc _=>-1| .ofNat 0=>0| .ofNat (_+1)=>1
def sqf:Nat->Nat->Nat->Nat
 |0,_,r=>r
 |f+1,n,r=>match Nat.ble ((r+1)*(r+1)) n with
  |true=>sqf f n (r+1)
  |false=>r
def isz(z:Int):Bool:=match z with| .ofNat 0=>true|_=>false
def oAdd:Orc:=o2 fun a b=>some (.nm (a+b))
def oSub:Orc:=o2 fun a b=>some (.nm (a-b))
def oMul:Orc:=o2 fun a b=>some (.nm (a*b))
def IB:Orc:=o2 fun a b=>match isz b with|true=>none|false=>some (.tp [.nm (a/b),.nm (a%b),i64 0])
def oCmp:Orc:=o2 fun a b=>some (i64 (sg (a-b)))
def oGcd:Orc:=o2 fun a b=>some (.nm (Int.gcd a b))
def oOf:Orc:=fun l=>match l with
 |[.sc (.int .i64 n)]=>match Nat.blt n.natAbs 4611686018427387904 with
  |true=>some (.nm n)
  |false=>none
 |_=>none
def JZ:Orc:=o1 fun a=>match Nat.blt a.natAbs 4611686018427387904 with
 |true=>some (.tp [i64 a,.sc (.bool true)])
 |false=>none
def IA:Orc:=o1 fun a=>some (.nm a)
def rt(n r:Nat):Option C:=match Nat.ble (r*r) n with
 |true=>match Nat.blt n ((r+1)*(r+1))with
  |true=>some (.tp [.nm r,i64 0])
  |false=>none
 |false=>none
def oRoot:Orc:=o1 fun a=>match a with
 | .ofNat n=>rt n (sqf 10000 n 0)
 |_=>none
def oZero:Orc:=o1 fun a=>some (.sc (.bool (isz a)))
def oSign:Orc:=o1 fun a=>some (i64 (sg a))
def oNeg:Orc:=o1 fun a=>some (.nm (-a))
def oSize:Orc:=o1 fun a=>some (.nm a.natAbs)
def oQuo:Orc:=o2 fun a b=>match isz b with|true=>none|false=>some (.nm (a/b))
def se:List (Nat×Orc)->Nat->Option Orc
 |[],_=>none
 |(k,o)::l,n=>match Nat.beq k n with|true=>some o|false=>se l n
def orcT:List (Nat×Orc):=[(190,oAdd),(159,oSub),(117,oMul),(167,IB),(161,oCmp),(165,oGcd),(124,oOf),(120,JZ),(112,IA),(203,oRoot),(95,oZero),(101,oSign),(102,oNeg),(185,oSize),(121,oQuo)]
def theE(P:Program):Env:=⟨lO P,se orcT⟩
theorem EA(P:Program):(theE P).fns=lO P:=rfl
theorem nL{z:Int}(h:bnd z=true):Fit z:=by
 unfold bnd at h;rw[Nat.blt_eq]at h;exact⟨3,by omega,Nat.lt_trans h (by decide)⟩
section
variable {P : Program} {A : Nat->Prop} {ρ : Nat->Nat} {w : World}
theorem uk{c:C}{z:Int}{v:Value}(h:xG c=some z)(hv:VR P A ρ w c v):∃x:IV,v= .agg #[.bool x.s,.slice x.a x.n x.cap]/\IZ w x z:=by
 unfold xG at h;split at h
 ·cases h;simp only[VR]at hv;exact hv
 ·cases h;simp only[VR,VCs]at hv;obtain⟨cs,rfl,h1,u,r,h2,⟨h3,_⟩,h4,u2,r2,h5,⟨h6,_⟩,h7⟩:=hv;subst h3;subst h6;subst h7;subst h5;refine⟨⟨false,none,0,0⟩,?_,IZ.zero w⟩;have:cs= #[.bool false,.slice none 0 0]:=by apply Array.ext';rw[h2];rfl
  rw[this]
 ·cases h
def Ans(P:Program)(g:Nat)(vs:Array Value)(w:World)(c:C):Prop:=Calls P g vs w (fun e w'=>∃u,e= .returned u/\(∀A ρ,VR P A ρ w' c u)/\Below w.heap.size w w')
theorem Ans.calls{g:Nat}{vs:Array Value}{c:C}(h:Ans P g vs w c)(A:Nat->Prop)(ρ:Nat->Nat):Calls P g vs w (fun e w'=>∃u,e= .returned u/\VR P A ρ w' c u/\Below w.heap.size w w'):=by
 unfold Ans at h;refine h.mono ?_;rintro e w' ⟨u,h1,h2,h3⟩;exact⟨u,h1,h2 A ρ,h3⟩
theorem ny{g:Nat}{f:Int->Option C}(hE:Enters P g)(H:∀(x:IV) (z:Int) (w:World) (c:C),Fit z->IZ w x z->f z=some c->Ans P g #[.agg #[.bool x.s,.slice x.a x.n x.cap]] w c):
  ∀args r,o1 f args=some r->∀A ρ w vs,VRl P A ρ w args vs.toList->Enters P g/\Calls P g vs w (fun e w'=>∃u,e= .returned u/\VR P A ρ w' r u/\Below w.heap.size w w'):=by
 intro args r e A ρ w vs hv;refine⟨hE,?_⟩;unfold o1 at e;split at e
 ·next a=>
  split at e
  ·next z hz=>
   split at e
   ·next hb=>
    simp only[VRl]at hv;obtain⟨u,r',h1,h2,h3⟩:=hv;subst h3;obtain⟨x,rfl,hx⟩:=uk hz h2;have:vs= #[.agg #[.bool x.s,.slice x.a x.n x.cap]]:=by apply Array.ext';rw[h1]
    rw[this];exact(H x z w r (nL hb) hx e).calls A ρ
   ·cases e
  ·cases e
 ·cases e
theorem nv{g:Nat}{f:Int->Int->Option C}(hE:Enters P g)(H:∀(x y:IV) (u v:Int) (w:World) (c:C),Fit u->Fit v->IZ w x u->IZ w y v->f u v=some c->Ans P g #[.agg #[.bool x.s,.slice x.a x.n x.cap],.agg #[.bool y.s,.slice y.a y.n y.cap]] w c):
  ∀args r,o2 f args=some r->∀A ρ w vs,VRl P A ρ w args vs.toList->Enters P g/\Calls P g vs w (fun e w'=>∃u,e= .returned u/\VR P A ρ w' r u/\Below w.heap.size w w'):=by
 intro args r e A ρ w vs hv;refine⟨hE,?_⟩;unfold o2 at e;split at e
 ·next a b=>
  split at e
  ·next y hy=>
   split at e
   ·next z hz=>
    split at e
    ·next hb=>
     split at e
     ·next hb2=>
      simp only[VRl]at hv;obtain⟨u,r',h1,h2,u2,r2,h4,h5,h3⟩:=hv;subst h3;subst h4;obtain⟨x,rfl,hx⟩:=uk hy h2;obtain⟨x2,rfl,hx2⟩:=uk hz h5;have:vs= #[.agg #[.bool x.s,.slice x.a x.n x.cap],.agg #[.bool x2.s,.slice x2.a x2.n x2.cap]]:=by apply Array.ext';rw[h1]
      rw[this];exact(H x x2 y z w r (nL hb) (nL hb2) hx hx2 e).calls A ρ
     ·cases e
    ·cases e
   ·cases e
  ·cases e
 ·cases e
theorem vr_nm{z:Int}{x:IV}(h:IZ w x z)(A:Nat->Prop)(ρ:Nat->Nat):VR P A ρ w (.nm z) (.agg #[.bool x.s,.slice x.a x.n x.cap]):=by
 simp only[VR];exact⟨x,rfl,h⟩
theorem rC(n:Int)(A:Nat->Prop)(ρ:Nat->Nat):VR P A ρ w (i64 n) (.int .i64 n):=by
 simp only[i64,VR];exact⟨trivial,rfl⟩
theorem Hx(b:Bool)(A:Nat->Prop)(ρ:Nat->Nat):VR P A ρ w (.sc (.bool b)) (.bool b):=by
 simp only[VR];exact⟨trivial,rfl⟩
theorem iX{g:Nat}{vs:Array Value}{z:Int}(h:Calls P g vs w fun e w'=>(∃x:IV,e= .returned (.agg #[.bool x.s,.slice x.a x.n x.cap])/\IZ w' x z)/\Below w.heap.size w w'):Ans P g vs w (.nm z):=by
 unfold Ans;refine h.mono ?_;rintro e w' ⟨⟨x,rfl,hx⟩,hb⟩;exact⟨_,rfl,vr_nm hx,hb⟩
theorem zm{g:Nat}{vs:Array Value}{z:Int}(h:Calls P g vs w fun e w'=>e= .returned (.int .i64 z)/\Below w.heap.size w w'):Ans P g vs w (i64 z):=by
 unfold Ans;refine h.mono ?_;rintro e w' ⟨rfl,hb⟩;exact⟨_,rfl,rC z,hb⟩
end
theorem GY(z:Int):sg z=sgn z:=by
 unfold sg sgn;split
 ·next n=>
  have h:Int.negSucc n<0:=Int.negSucc_lt_zero n;generalize Int.negSucc n=z at*;rw[if_neg (by omega),if_pos (by omega)]
 ·rfl
 ·next n=>
  have h:(0:Int)<Int.ofNat (n+1):=Int.natCast_pos.2 (Nat.succ_pos n);generalize Int.ofNat (n+1)=z at*;rw[if_neg (by omega),if_neg (by omega)]
theorem C7(z:Int):isz z=decide (z=0):=by
 unfold isz;split
 ·rfl
 ·next h=>
  symm;rw[decide_eq_false_iff_not];intro e;exact h e
theorem Ka{z:Int}(h:isz z=false):z≠0:=by
 rw[C7]at h;simpa using h
theorem Ct{n r s:Nat}(h1:r*r<=n)(h2:n<(r+1)*(r+1))(h3:s*s<=n)(h4:n<(s+1)*(s+1)):r=s:=by
 have k1:r<s+1:=Nat.lt_of_not_le fun h=>by have:=Nat.mul_le_mul h h;omega
 have k2:s<r+1:=Nat.lt_of_not_le fun h=>by have:=Nat.mul_le_mul h h;omega
 omega
theorem uM:∀{l:List (Nat×Orc)} {n:Nat} {o:Orc},se l n=some o->(n,o)∈l
 |[],_,_,h=>by cases h
 |(k,o')::l,n,o,h=>by
  unfold se at h;split at h
  ·next hb=>
   cases h;rw[Nat.eq_of_beq_eq_true hb];exact List.mem_cons_self
  ·exact List.mem_cons_of_mem _ (uM h)
theorem Iy:sR Tryz.prog (theE Tryz.prog):=by
 intro g f hg;have hm:=uM (show se orcT g=some f from hg);simp only[orcT,List.mem_cons,Prod.mk.injEq,List.not_mem_nil,or_false]at hm;rcases hm with⟨rfl,rfl⟩|⟨rfl,rfl⟩|⟨rfl,rfl⟩|⟨rfl,rfl⟩|⟨rfl,rfl⟩|⟨rfl,rfl⟩|⟨rfl,rfl⟩|⟨rfl,rfl⟩|⟨rfl,rfl⟩|⟨rfl,rfl⟩|⟨rfl,rfl⟩|⟨rfl,rfl⟩|⟨rfl,rfl⟩|⟨rfl,rfl⟩|⟨rfl,rfl⟩
 ·exact nv (enters_of Tryz.func190 (by kernel_rfl) rfl) fun x y u v w c fu fv hx hy e => by
   cases e;exact iX (pY x y u v fu fv w hx.ip hy.ip)
 ·exact nv (enters_of Tryz.func159 (by kernel_rfl) rfl) fun x y u v w c fu fv hx hy e => by
   cases e;exact iX (tB x y u v fu fv w hx.ip hy.ip)
 ·exact nv (enters_of Tryz.func117 (by kernel_rfl) rfl) fun x y u v w c fu fv hx hy e => by
   cases e;exact iX (tW x y u v fu fv w hx.ip hy.ip)
 ·exact nv (enters_of Tryz.func167 (by kernel_rfl) rfl) fun x y u v w c fu fv hx hy e => by
   split at e
   ·cases e
   ·next hz=>
    cases e;have hv:=Ka hz;unfold Ans;refine(sF x y u v fu fv w hx.ip hy.ip).mono ?_;rintro e w' ⟨q,r,rfl,h1,h2,hb⟩;rw[if_neg hv]at h2;refine⟨_,rfl,fun A ρ=>?_,hb⟩;rw[if_neg hv];simp only[VR,VRl];exact⟨_,rfl,_,_,rfl,⟨q,rfl,h1⟩,_,_,rfl,⟨r,rfl,h2⟩,_,_,rfl,rC 0 A ρ,rfl⟩
 ·exact nv (enters_of Tryz.func161 (by kernel_rfl) rfl) fun x y u v w c fu fv hx hy e => by
   cases e;rw[GY];exact zm (uf x y u v fu fv w hx.ip hy.ip)
 ·exact nv (enters_of Tryz.func165 (by kernel_rfl) rfl) fun x y u v w c fu fv hx hy e => by
   cases e;exact iX (IU x y u v fu fv w hx.ip hy.ip)
 ·intro args r e A ρ w vs hv;refine⟨enters_of Tryz.func124 ae rfl,?_⟩;unfold oOf at e;split at e
  ·next n=>
   split at e
   ·next hb=>
    cases e;rw[Nat.blt_eq]at hb;simp only[VRl,VR]at hv;obtain⟨u,r',h1,⟨rfl,_⟩,h3⟩:=hv;subst h3;have:vs= #[.int .i64 n]:=by apply Array.ext';rw[h1]
    rw[this];exact(iX (oO n (by omega) w)).calls A ρ
   ·cases e
  ·cases e
 ·exact ny (enters_of Tryz.func120 (by kernel_rfl) rfl) fun x z w c fz hx e => by
   split at e
   ·next hb=>
    cases e;rw[Nat.blt_eq]at hb;have hI:I64 z:=by unfold I64;omega
    unfold Ans;refine(uA x z fz w hx.ip).mono ?_;rintro e w' ⟨rfl,hb⟩;refine⟨_,rfl,fun A ρ=>?_,hb⟩;rw[show smv z=z from if_pos hI,show decide (I64 z)=true from decide_eq_true hI];simp only[VR,VRl];exact⟨_,rfl,_,_,rfl,rC z A ρ,_,_,rfl,⟨rfl,rfl⟩,rfl⟩
   ·cases e
 ·exact ny (enters_of Tryz.func112 (by kernel_rfl) rfl) fun x z w c fz hx e => by
   cases e;obtain⟨l,h1,rfl⟩:=hx.ip;have bl:=dC h1.nf fz;exact iX (nA x l (by omega) w h1)
 ·exact ny (enters_of Tryz.func203 (by kernel_rfl) rfl) fun x z w c fz hx e => by
   split at e
   ·next n=>
    generalize sqf 10000 n 0=r at e;unfold rt at e;split at e
    ·next h1=>
     split at e
     ·next h2=>
      cases e;have k1:=Nat.le_of_ble_eq_true h1;rw[Nat.blt_eq]at h2;unfold Ans;refine(EX x _ fz (Int.natCast_nonneg n) w hx.ip).mono ?_;rintro e w' ⟨⟨y,s,rfl,hy,h3,h4⟩,hb⟩;have:s=r:=Ct h3 h4 k1 h2;subst this;refine⟨_,rfl,fun A ρ=>?_,hb⟩;simp only[VR,VRl];exact⟨_,rfl,_,_,rfl,⟨y,rfl,hy⟩,_,_,rfl,rC 0 A ρ,rfl⟩
     ·cases e
    ·cases e
   ·cases e
 ·exact ny (enters_of Tryz.func95 (by kernel_rfl) rfl) fun x z w c fz hx e => by
   cases e;rw[C7];unfold Ans;refine(eO x z w hx).mono ?_;rintro e w' ⟨rfl,hb⟩;exact⟨_,rfl,fun A ρ=>Hx _ A ρ,hb⟩
 ·exact ny (enters_of Tryz.func101 (by kernel_rfl) rfl) fun x z w c fz hx e => by
   cases e;rw[GY];exact zm (ou x z fz w hx.ip)
 ·exact ny (enters_of Tryz.func102 (by kernel_rfl) rfl) fun x z w c fz hx e => by
   cases e;exact iX (gV x z fz w hx.ip)
 ·exact ny (enters_of Tryz.func185 (by kernel_rfl) rfl) fun x z w c fz hx e => by
   cases e;exact iX (jD x z fz w hx.ip)
 ·exact nv (enters_of Tryz.func121 (by kernel_rfl) rfl) fun x y u v w c fu fv hx hy e => by
   split at e
   ·cases e
   ·cases e;exact iX (kH x y u v fu fv w hx.ip hy.ip)
end CI
end
section
open Go.RowKit
namespace CI
def isTrue:Option Out->Bool
 |some (.val (.sc (.bool true)) _)=>true
 |_=>false
theorem CP{o:Option Out}(h:isTrue o=true):∃h',o=some (.val (.sc (.bool true)) h'):=by
 unfold isTrue at h;split at h
 ·exact⟨_,rfl⟩
 ·cases h
set_option maxRecDepth 100000 in
theorem DG:isTrue (run (theE Tryz.prog) 3000 (.call (.fn 15 []) [] ⟨0,0,[],.e⟩))=true:=by kernel_rfl
theorem DU(w:World):Calls Tryz.prog 15 #[] w (fun e w'=>e= .returned (.bool true)/\Below w.heap.size w w'):=by
 obtain⟨h',e⟩:=CP DG;refine(Cq ae Iy (EA _) (enters_of Tryz.func15 ae rfl) e w).mono ?_;rintro e w' ⟨u,A,ρ,rfl,h1,_,h2⟩;simp only[VR]at h1;exact⟨by rw[h1.1],h2⟩
end CI
end
section
open Go.RowKit
namespace DW
theorem uj:Fn Tryz.prog 15 [] (.sc (.bool true)):=by
 refine⟨enters_of Tryz.func15 ae rfl,fun X w vs _ hv=>?_⟩;simp only[ATp]at hv;have:vs= #[]:=Array.toList_inj.1 hv;subst this;refine(CI.DU w).mono fun e w' ⟨h,hb⟩=>⟨_,h,?_,hb⟩;simp only[AR];exact⟨trivial,rfl⟩
theorem rM{n:Nat}(h:(!(smq n))=true):n<=70/\(n<=64->n<=5):=by
 unfold smq at h;simp at h;omega
theorem tI{m:List (List Int)}(h:smL m=true):m.length<=70/\∀l∈m,l.length<=70:=by
 unfold smL at h;rw[Bool.and_eq_true]at h;exact⟨(rM h.1).1,fun l hl=>(rM (List.all_eq_true.1 h.2 l hl)).1⟩
theorem jg{m:List (List Int)}(h:smL m=true)(hc:chk m=0):m.length<=5/\wid m<=5:=by
 obtain⟨k1,k2,k3,_⟩:=eK hc;unfold smL at h;rw[Bool.and_eq_true]at h;refine⟨(rM h.1).2 k1,?_⟩
 cases m with
 |nil=>exact Nat.zero_le _
 |cons l m=>
  have h1:=k3 l List.mem_cons_self;have h2:=(rM (List.all_eq_true.1 h.2 l List.mem_cons_self)).2 (by omega);omega
set_option maxRecDepth 20000
set_option maxHeartbeats 2000000
end DW
end
section
open Go.RowKit
namespace DW
theorem sD{α:Type}(l:List α)(x:α)(c:Nat):(l++[x]).eraseIdx c=if l.length=c then l.eraseIdx c else l.eraseIdx c++[x]:=by
 split
 ·rename_i h;rw[List.eraseIdx_append_of_length_le (by omega),List.eraseIdx_of_length_le (by omega:l.length<=c),h,Nat.sub_self];simp
 ·by_cases h2:c<l.length
  ·rw[List.eraseIdx_append_of_lt_length h2]
  ·rw[List.eraseIdx_of_length_le bG,List.eraseIdx_of_length_le (by omega)]
theorem uV{α:Type}(l:List α)(c:Nat):(l.eraseIdx c).length<=l.length:=(List.eraseIdx_sublist l c).length_le
def mnr(m:Mx.Mat)(r c:Nat):Mx.Mat:=(m.eraseIdx r).map fun l=>l.eraseIdx c
theorem Fi(m:Mx.Mat)(l:List Int)(r c:Nat):mnr (m++[l]) r c=if m.length=r then mnr m r c else mnr m r c++[l.eraseIdx c]:=by
 unfold mnr;rw[sD];split
 ·rfl
 ·rw[List.map_append];rfl
theorem ID(m:Mx.Mat)(r c:Nat):(mnr m r c).length<=m.length:=by unfold mnr;rw[List.length_map];exact uV m r
set_option maxRecDepth 20000
set_option maxHeartbeats 1000000
theorem IG(m:Mx.Mat)(r c:Nat)(hm:m.length<=1000000)(hm2:∀l∈m,l.length<=1000000):Fn Tryz.prog 115 [dW m,zI r,zI c] (dW (mnr m r c)):=by
 refine bn Tryz.func115 ae rfl rfl rfl fun X0=>?_;simp only[aE]
 (repeat(first|refine gk fun K hK=>?_|refine zs2 ?_));refine cw ?_;(repeat(first|refine gk fun K hK=>?_|refine zs2 ?_));refine cw ?_;(repeat(first|refine gk fun K hK=>?_|refine zs2 ?_));refine aS ?_;(repeat(first|refine gk fun K hK=>?_|refine zs2 ?_))
 refine aq (cY (t:=7) (k:=7) (T:=113) (wd:=1) fI rfl rfl bZ) ?_
 (refine aq (aj (sl':=[(0,dW m),(1,zI r),(2,zI c),(7,.own 7),(8,zI 0)]) (ow':=[(7,⟨113,1,[]⟩)]) au ay) ?_)
 refine aF (fun q s=>∃i,i<=m.length/\q=m.length-i/\s=⟨[(0,dW m),(1,zI r),(2,zI c),(7,.own 7),(8,zI (i:Nat))],[(7,⟨113,1,(mnr (m.take i) r c).map dZ⟩)]⟩) (m:=m.length) ⟨0,Nat.zero_le _,rfl,by unfold mnr;simp⟩ fun q s hs=>?_;obtain⟨i,hi,rfl,rfl⟩:=hs;by_cases him:i<m.length
 ·obtain⟨l,hl⟩:=get_some him;have hll:=hm2 l (List.mem_of_getElem? hl);have hsn:=Fi (m.take i) l r c;rw[<-aX hl,List.length_take,Nat.min_eq_left (by omega)]at hsn;have hfl:=ID (m.take i) r c;rw[List.length_take,Nat.min_eq_left (by omega)]at hfl;obtain⟨F,hF⟩:∃F,F=mnr (m.take i) r c:=⟨_,rfl⟩;rw[<-hF]at hsn hfl;rw[<-hF];clear hF;by_cases hir:i=r
  ·rw[if_pos hir]at hsn
   (repeat(first|refine gk fun K hK=>?_|refine zs2 ?_));refine aH ?_;(repeat(first|refine gk fun K hK=>?_|refine zs2 ?_))
   refine av ?_
   (repeat(first|refine gk fun K hK=>?_|refine zs2 ?_));(refine gar ?_;refine zs4 ?_;refine zs4 ?_;refine zw ?_;refine af ?_);(repeat(first|refine gk fun K hK=>?_|refine zs2 ?_))
   refine av ?_
   (repeat(first|refine gk fun K hK=>?_|refine zs2 ?_));refine aZ ?_;(repeat(first|refine gk fun K hK=>?_|refine zs2 ?_))
   simp only[nx,inB];exact⟨m.length-(i+1),_,by omega,(aj (sl':=[(0,dW m),(1,zI r),(2,zI c),(7,.own 7),(8,zI ((i+1:Nat):Int))]) (ow':=[(7,⟨113,1,F.map dZ⟩)]) au ay),i+1,by omega,rfl,by rw[hsn]⟩
  ·rw[if_neg hir]at hsn
   (repeat(first|refine gk fun K hK=>?_|refine zs2 ?_));refine aH ?_;(repeat(first|refine gk fun K hK=>?_|refine zs2 ?_))
   refine av ?_
   (repeat(first|refine gk fun K hK=>?_|refine zs2 ?_));(refine gar ?_;refine zs4 ?_;refine zs4 ?_;refine zw ?_;refine af ?_);(repeat(first|refine gk fun K hK=>?_|refine zs2 ?_))
   refine az ?_
   (repeat(first|refine gk fun K hK=>?_|refine zs2 ?_));refine cw ?_;(repeat(first|refine gk fun K hK=>?_|refine zs2 ?_));refine aS ?_;(repeat(first|refine gk fun K hK=>?_|refine zs2 ?_))
   refine aq (cY (t:=9) (k:=9) (T:=62) (wd:=2) fI rfl rfl bZ) ?_
   (refine aq (aj (sl':=[(0,dW m),(1,zI r),(2,zI c),(7,.own 7),(8,zI (i:Nat)),(9,.own 9),(10,zI 0)]) (ow':=[(9,⟨62,2,[]⟩),(7,⟨113,1,F.map dZ⟩)]) au ay) ?_)
   refine aF (fun q s=>∃k,k<=l.length/\q=l.length-k/\s=⟨[(0,dW m),(1,zI r),(2,zI c),(7,.own 7),(8,zI (i:Nat)),(9,.own 9),(10,zI (k:Nat))],[(9,⟨62,2,((l.take k).eraseIdx c).map .nm⟩),(7,⟨113,1,F.map dZ⟩)]⟩) (m:=l.length) ⟨0,Nat.zero_le _,rfl,by simp⟩ fun q s hs=>?_;obtain⟨k,hk,rfl,rfl⟩:=hs;by_cases hkl:k<l.length
   ·obtain⟨x,hx⟩:=get_some hkl;have hes:=sD (l.take k) x c;rw[<-aX hx,List.length_take,Nat.min_eq_left (by omega)]at hes;have hel:=uV (l.take k) c;rw[List.length_take,Nat.min_eq_left (by omega)]at hel;obtain⟨G,hG⟩:∃G,G=(l.take k).eraseIdx c:=⟨_,rfl⟩;rw[<-hG]at hes hel;rw[<-hG];clear hG;by_cases hkc:k=c
    ·rw[if_pos hkc]at hes
     (repeat(first|refine gk fun K hK=>?_|refine zs2 ?_));refine iA ?_;(repeat(first|refine gk fun K hK=>?_|refine zs2 ?_))
     refine av ?_
     (repeat(first|refine gk fun K hK=>?_|refine zs2 ?_));(refine gar ?_;refine zs4 ?_;refine zs4 ?_;refine oa ?_;refine af ?_);(repeat(first|refine gk fun K hK=>?_|refine zs2 ?_))
     refine az ?_
     (repeat(first|refine gk fun K hK=>?_|refine zs2 ?_));refine aZ ?_;(repeat(first|refine gk fun K hK=>?_|refine zs2 ?_))
     simp only[nx,inB];exact⟨l.length-(k+1),_,by omega,(aj (sl':=[(0,dW m),(1,zI r),(2,zI c),(7,.own 7),(8,zI (i:Nat)),(9,.own 9),(10,zI ((k+1:Nat):Int))]) (ow':=[(9,⟨62,2,G.map .nm⟩),(7,⟨113,1,F.map dZ⟩)]) au ay),k+1,by omega,rfl,by rw[hes]⟩
    ·rw[if_neg hkc]at hes
     (repeat(first|refine gk fun K hK=>?_|refine zs2 ?_));refine iA ?_;(repeat(first|refine gk fun K hK=>?_|refine zs2 ?_))
     refine av ?_
     (repeat(first|refine gk fun K hK=>?_|refine zs2 ?_));(refine gar ?_;refine zs4 ?_;refine zs4 ?_;refine oa ?_;refine af ?_);(repeat(first|refine gk fun K hK=>?_|refine zs2 ?_))
     refine av ?_
     (repeat(first|refine gk fun K hK=>?_|refine zs2 ?_));(refine gar ?_;refine zs4 ?_;refine zs4 ?_;refine zs4 ?_;refine dh ?_;refine br ?_;refine zs4 ?_;refine dh ?_;refine br ?_;refine mV ?_;refine vD ?_;refine zs6 ?_;refine af ?_);(repeat(first|refine gk fun K hK=>?_|refine zs2 ?_));refine aZ ?_;(repeat(first|refine gk fun K hK=>?_|refine zs2 ?_))
     simp only[nx,inB];exact⟨l.length-(k+1),_,by omega,(aj (sl':=[(0,dW m),(1,zI r),(2,zI c),(7,.own 7),(8,zI (i:Nat)),(9,.own 9),(10,zI ((k+1:Nat):Int))]) (ow':=[(9,⟨62,2,G.map .nm++[.nm x]⟩),(7,⟨113,1,F.map dZ⟩)]) au ay),k+1,by omega,rfl,by rw[hes,List.map_append];rfl⟩
   ·obtain rfl:k=l.length:=by omega
    rw[List.take_length]
    (repeat(first|refine gk fun K hK=>?_|refine zs2 ?_));refine iA ?_;(repeat(first|refine gk fun K hK=>?_|refine zs2 ?_))
    refine az ?_
    (repeat(first|refine gk fun K hK=>?_|refine zs2 ?_))
    refine aq (aG (k:=9) bc bJ bI) ?_;refine po ?_
    (repeat(first|refine gk fun K hK=>?_|refine zs2 ?_))
    refine aZ ?_;simp only[nx,inB];exact⟨m.length-(i+1),_,by omega,(aj (sl':=[(0,dW m),(1,zI r),(2,zI c),(7,.own 7),(8,zI ((i+1:Nat):Int))]) (ow':=[(7,⟨113,1,F.map dZ++[dZ (l.eraseIdx c)]⟩)]) au ay),i+1,by omega,rfl,by rw[hsn,List.map_append];rfl⟩
 ·obtain rfl:i=m.length:=by omega
  rw[List.take_length]
  (repeat(first|refine gk fun K hK=>?_|refine zs2 ?_));refine aH ?_;(repeat(first|refine gk fun K hK=>?_|refine zs2 ?_))
  refine az ?_
  (repeat(first|refine gk fun K hK=>?_|refine zs2 ?_))
  refine aq (aG (k:=7) bc bJ bI) ?_;refine iB ?_
  (repeat(first|refine gk fun K hK=>?_|refine zs2 ?_))
  exact⟨_,Sh.refl,.one (.tmp 6) _ rfl (.tmp 6 rfl)⟩
end DW
end
section
open Go.RowKit
namespace DW
theorem Hw{a b:Nat}(h:wds a=wds b):a=b:=by
 have h1:=(Dg.bB (b:=4294967296) (by decide) a).2;have h2:=(Dg.bB (b:=4294967296) (by decide) b).2;rw[<-h1,<-h2];exact congrArg _ h
set_option maxRecDepth 20000
set_option maxHeartbeats 1000000
theorem rQ(u v:Int)(hu:(wds u.natAbs).length<=1000000000):Fn Tryz.prog 41 [.nm u,.nm v] (.sc (.bool (decide (u=v)))):=by
 refine bn Tryz.func41 ae rfl rfl rfl fun X0=>?_;simp only[aE];by_cases hs:decide (u<0)=decide (v<0)
 ·have hd:(!(decide (u<0)==decide (v<0)))=false:=by rw[hs,beq_self_eq_true];rfl
  by_cases hl:(wds u.natAbs).length=(wds v.natAbs).length
  ·(repeat(first|refine gk fun K hK=>?_|refine zs2 ?_));refine zJ ?_;(repeat(first|refine gk fun K hK=>?_|refine zs2 ?_));refine zH ?_;(repeat(first|refine gk fun K hK=>?_|refine zs2 ?_))
   refine az ?_
   (repeat(first|refine gk fun K hK=>?_|refine zs2 ?_));refine aS ?_;(repeat(first|refine gk fun K hK=>?_|refine zs2 ?_))
   (refine aq (aj (sl':=[(2,.pt (.nm u)),(3,.pt (.nm v)),(5,zI 0)]) (ow':=[]) au ay) ?_)
   refine aF (fun r s=>∃k,k<=(wds u.natAbs).length/\r=(wds u.natAbs).length-k/\(wds u.natAbs).take k=(wds v.natAbs).take k/\s=⟨[(2,.pt (.nm u)),(3,.pt (.nm v)),(5,zI (k:Nat))],[]⟩) (m:=(wds u.natAbs).length) ⟨0,Nat.zero_le _,rfl,rfl,rfl⟩ fun r s hs=>?_;obtain⟨k,hk,rfl,he,rfl⟩:=hs;by_cases hkl:k<(wds u.natAbs).length
   ·obtain⟨x,hx⟩:=get_some hkl;obtain⟨y,hy⟩:=get_some (m:=wds v.natAbs) (k:=k) (by omega);by_cases hxy:x=y
    ·(repeat(first|refine gk fun K hK=>?_|refine zs2 ?_));refine rp ?_;(repeat(first|refine gk fun K hK=>?_|refine zs2 ?_))
     refine av ?_
     (repeat(first|refine gk fun K hK=>?_|refine zs2 ?_));refine Ga ?_;(repeat(first|refine gk fun K hK=>?_|refine zs2 ?_))
     refine az ?_
     (repeat(first|refine gk fun K hK=>?_|refine zs2 ?_));refine aZ ?_;(repeat(first|refine gk fun K hK=>?_|refine zs2 ?_))
     simp only[nx,inB];exact⟨(wds u.natAbs).length-(k+1),_,by omega,(aj (sl':=[(2,.pt (.nm u)),(3,.pt (.nm v)),(5,zI ((k+1:Nat):Int))]) (ow':=[]) au ay),k+1,by omega,rfl,by rw[aX hx,aX hy,he,hxy],rfl⟩
    ·have EC:decide (u=v)=false:=decide_eq_false fun e=>hxy vJ
     (repeat(first|refine gk fun K hK=>?_|refine zs2 ?_));refine rp ?_;(repeat(first|refine gk fun K hK=>?_|refine zs2 ?_))
     refine av ?_
     (repeat(first|refine gk fun K hK=>?_|refine zs2 ?_));refine Ga ?_;(repeat(first|refine gk fun K hK=>?_|refine zs2 ?_))
     refine av ?_
     (repeat(first|refine gk fun K hK=>?_|refine zs2 ?_));refine bg ?_;(repeat(first|refine gk fun K hK=>?_|refine zs2 ?_))
     rw[EC];exact⟨_,Sh.refl,.one (.tmp 4) _ rfl (.tmp 4 rfl)⟩
   ·obtain rfl:k=(wds u.natAbs).length:=by omega
    have ew:=Hw (gF hl he);have EC:decide (u=v)=true:=decide_eq_true (by
     by_cases h1:u<0
     ·have h2:v<0:=by rw[decide_eq_true h1]at hs;exact of_decide_eq_true hs.symm
      omega
     ·have h2:¬v<0:=by rw[decide_eq_false h1]at hs;exact of_decide_eq_false hs.symm
      omega)
    (repeat(first|refine gk fun K hK=>?_|refine zs2 ?_));refine rp ?_;(repeat(first|refine gk fun K hK=>?_|refine zs2 ?_))
    refine az ?_
    (repeat(first|refine gk fun K hK=>?_|refine zs2 ?_));refine bg ?_;(repeat(first|refine gk fun K hK=>?_|refine zs2 ?_))
    rw[EC];exact⟨_,Sh.refl,.one (.tmp 4) _ rfl (.tmp 4 rfl)⟩
  ·have EC:decide (u=v)=false:=decide_eq_false fun e=>hl (by rw[e])
   (repeat(first|refine gk fun K hK=>?_|refine zs2 ?_));refine zJ ?_;(repeat(first|refine gk fun K hK=>?_|refine zs2 ?_));refine zH ?_;(repeat(first|refine gk fun K hK=>?_|refine zs2 ?_))
   refine av ?_
   (repeat(first|refine gk fun K hK=>?_|refine zs2 ?_));refine bg ?_;(repeat(first|refine gk fun K hK=>?_|refine zs2 ?_))
   rw[EC];exact⟨_,Sh.refl,.one (.tmp 4) _ rfl (.tmp 4 rfl)⟩
 ·have hd:(!(decide (u<0)==decide (v<0)))=true:=by rw[show(decide (u<0)==decide (v<0))=false from beq_eq_false_iff_ne.2 hs];rfl
  have EC:decide (u=v)=false:=decide_eq_false fun e=>hs (by rw[e])
  (repeat(first|refine gk fun K hK=>?_|refine zs2 ?_));refine zJ ?_;(repeat(first|refine gk fun K hK=>?_|refine zs2 ?_));refine zH ?_;(repeat(first|refine gk fun K hK=>?_|refine zs2 ?_))
  refine av ?_
  (repeat(first|refine gk fun K hK=>?_|refine zs2 ?_));refine bg ?_;(repeat(first|refine gk fun K hK=>?_|refine zs2 ?_))
  rw[EC];exact⟨_,Sh.refl,.one (.tmp 4) _ rfl (.tmp 4 rfl)⟩
end DW
end
end Go.Proofs.YtcgjmdpcplhanaaGreat
