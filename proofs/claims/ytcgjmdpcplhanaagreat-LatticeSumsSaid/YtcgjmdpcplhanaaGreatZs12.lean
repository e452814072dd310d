/- Lemmas for the law: E27 L0 V22 V23 DH DI DJ DL E31 DM E32 L1 DN -/
import Derived.Test.YtcgjmdpcplhanaaGreatRows
import Derived.WalkKit
import Derived.ProofKit
import Derived.OpenShut
import Derived.ChangeOld
import Derived.ChangeSlices
import Derived.Below
import Derived.Lib.SmallJoins
import Derived.Deep.Slices
import Derived.Test.YtcgjmdpcplhanaaGreatZs11
namespace Go.Proofs.YtcgjmdpcplhanaaGreat
section
abbrev vP:=@of_decide_eq_true
theorem zb87{p:Prop}(h:p:=by simp only[AR];exact⟨trivial,rfl⟩):p:=h
theorem zD{p q:Prop}(h:q)(f:Wq q->p:=by(intro hW;((first|refine aN1 rfl rfl rfl yw ?_|refine ph rfl rfl rfl yw ?_));exact hW.out)):p:=f ⟨h⟩
theorem zs243{p q:Prop}(h:q)(f:Wq q->p:=by(intro hW;(refine cE ?_;refine nD ?_;refine gO ?_;refine Jw ?_;refine mu ?_;refine gO ?_;refine vJ ?_;refine mu ?_;refine aQ ?_);exact hW.out)):p:=f ⟨h⟩
theorem BD{p:Prop}(h:p:=by(first|(apply d_field_none;(exact rfl);(focus((apply aE;(conv=>lhs;whnf);(first|done|exact rfl))));(kernel_rfl);(kernel_rfl))|(apply vz;(exact rfl);(focus((apply aE;(conv=>lhs;whnf);(first|done|exact rfl))));(kernel_rfl);(exact rfl);(kernel_rfl)))):p:=h
theorem RP{p q:Prop}(h:q)(f:Wq q->p:=by(intro hW;(refine aL1 rfl rfl rfl BD ?_);exact hW.out)):p:=f ⟨h⟩
theorem zs242{p q:Prop}(h:q)(f:Wq q->p:=by(intro hW;(refine gar ?_;refine RP ?_;refine ff ?_;refine De ?_);exact hW.out)):p:=f ⟨h⟩
theorem zs127{p q:Prop}(h:q)(f:Wq q->p:=by(intro hW;((refine dT (k:=2) (z:=(.agg #[.int .i64 0,.slice none 0 0,.int .i64 0])) (d:=(.st [.sc (.int .i64 0),.sc (.slice none 0 0),.sc (.int .i64 0)])) rfl rfl rfl rfl rfl ah ai ai cX ai ai cj ?_));exact hW.out)):p:=f ⟨h⟩
theorem zs240{p q:Prop}(h:q)(f:Wq q->p:=by(intro hW;(refine iy ?_;refine zs127 ?_;refine jw ?_;refine aQ ?_);exact hW.out)):p:=f ⟨h⟩
theorem RQ{p q:Prop}(h:q)(f:Wq q->p:=by(intro hW;(refine aL1 rfl rfl rfl (by(apply mj;(exact rfl);(focus((apply aE;(conv=>lhs;whnf);(first|done|exact rfl))));(exact cK);(exact rfl);(exact rfl);(assumption);(exact rfl))) ?_);exact hW.out)):p:=f ⟨h⟩
theorem rH{p q:Prop}(h:q)(f:Wq q->p:=by(intro hW;(refine gar ?_;refine zs22 ?_;refine ff ?_);exact hW.out)):p:=f ⟨h⟩
theorem zs241{p q:Prop}(h:q)(f:Wq q->p:=by(intro hW;(refine rH ?_;refine RQ ?_;refine pX ?_;refine zs6 ?_;refine cT ?_);exact hW.out)):p:=f ⟨h⟩
theorem Dh{p q:Prop}(h:q)(f:Wq q->p:=by(intro hW;(refine zs2 ?_;refine zs240 ?_;refine zs2 ?_;refine zs241 ?_;refine zs2 ?_;refine zs242 ?_;refine zs2 ?_;refine zs243 ?_);exact hW.out)):p:=f ⟨h⟩
theorem zE{p q:Prop}(h:q)(f:Wq q->p:=by(intro hW;((first|refine aN1 rfl rfl rfl BC ?_|refine ph rfl rfl rfl BC ?_));exact hW.out)):p:=f ⟨h⟩
theorem RN{p q:Prop}(h:q)(f:Wq q->p:=by(intro hW;(refine aL1 rfl rfl rfl (by(apply Qe;(exact rfl);(focus((apply aE;(conv=>lhs;whnf);(first|done|exact rfl))));(focus((apply aE;(conv=>lhs;whnf);(first|done|exact rfl))));(focus((apply aE;(conv=>lhs;whnf);(first|done|exact rfl))));(exact rfl);(exact rfl);(exact rfl);(kernel_rfl))) ?_);exact hW.out)):p:=f ⟨h⟩
theorem zb32{p:Prop}(h:p:=by(apply(GN (z:=(.agg #[.int .i64 0,.slice none 0 0,.int .i64 0])) (d:=(.st [.sc (.int .i64 0),.sc (.slice none 0 0),.sc (.int .i64 0)])));(exact rfl);(kernel_rfl);(exact rfl);(exact rfl);(exact rfl))):p:=h
theorem J4{p q:Prop}(h:q)(f:Wq q->p:=by(intro hW;(refine aL1 rfl rfl rfl zb32 ?_);exact hW.out)):p:=f ⟨h⟩
theorem zy{p q:Prop}(h:q)(f:Wq q->p:=by(intro hW;(refine gar ?_;refine J4 ?_;refine iE ?_;refine jw ?_;refine aQ ?_);exact hW.out)):p:=f ⟨h⟩
theorem rL{p q:Prop}(h:q)(f:Wq q->p:=by(intro hW;((first|refine aN1 rfl rfl rfl vM ?_|refine ph rfl rfl rfl vM ?_));exact hW.out)):p:=f ⟨h⟩
theorem uA{p q:Prop}(h:q)(f:Wq q->p:=by(intro hW;((first|refine aN1 rfl rfl rfl BD ?_|refine ph rfl rfl rfl BD ?_));exact hW.out)):p:=f ⟨h⟩
theorem Du{p q:Prop}(h:q)(f:Wq q->p:=by(intro hW;((first|refine aN1 rfl rfl rfl Et ?_|refine ph rfl rfl rfl Et ?_));exact hW.out)):p:=f ⟨h⟩
end
section
open Go.RowKit
namespace DW
theorem xY(b o j:Nat):(⟨b,o,none⟩:Addr).add j=⟨b,o+j,none⟩:=Addr.add_mid b o j
theorem Jk{X:Nat->Prop}{w:World}{l:List Int}{v:Value}(h:AR X w (dI l) v):∃a c,v= .slice a l.length c/\l.length<=c/\ZAt w a l:=by
 simp only[dI,AR]at h;obtain⟨a,c,rfl,h2,h3⟩:=h;rw[bD]at h2;refine⟨a,c,by rw[bD],h2,?_⟩;rcases h3 with h3|⟨b,o,rfl,_,hb,hs⟩
 ·exact .inl (by simpa using h3)
 ·refine .inr ⟨⟨b,o,none⟩,rfl,hb,fun k x hk=>?_⟩;obtain⟨u,h4,_,_,h7⟩:=ARs.at hs (i:=k) (d:=zI x) (by rw[bN,hk];rfl);simp only[AR]at h4;obtain⟨rfl,_⟩:=h4;have:=h7 0 (.int .i64 x) rfl;rw[xY];simpa using this
theorem Oi{X:Nat->Prop}{w:World}{m:List (List Int)}{v:Value}(h:AR X w (dM m) v):ZM w v m:=by
 simp only[dM,AR]at h;obtain⟨a,c,rfl,h2,h3⟩:=h;rw[bD]at h2;refine⟨a,c,by rw[bD],h2,?_⟩;rcases h3 with h3|⟨b,o,rfl,_,hb,hs⟩
 ·exact .inl (by simpa using h3)
 ·refine .inr ⟨⟨b,o,none⟩,rfl,hb,fun k l hk=>?_⟩;obtain⟨u,h4,_,_,h7⟩:=ARs.at hs (i:=k) (d:=dI l) (by rw[bN,hk];rfl);obtain⟨a',c',rfl,h8,h9⟩:=Jk h4;have:=h7 0 _ rfl;rw[xY];exact⟨a',c',by simpa using this,h8,h9⟩
theorem Td{X:Nat->Prop}{B:Nat}{w:World}{m:List (List Int)}{v:Value}(h:ZMB B w v m)(hX:∀b,X b->b<B):AR X w (dM m) v:=by
 obtain⟨a,cap,rfl,hc,h⟩:=h;simp only[dM,AR];refine⟨a,cap,by rw[bD],by rw[bD];exact hc,?_⟩;rcases h with h|⟨g,rfl,h1,hg,h2⟩
 ·exact .inl (by rw[h];rfl)
 ·refine .inr ⟨g,0,rfl,fun hx=>by have:=hX g hx;omega,hg,ARs.mk fun i d hd=>?_⟩;rw[bN]at hd;obtain⟨l,hl,rfl⟩:=eY.1 hd;obtain⟨g',h3,h4,h5⟩:=h2 i l hl;refine⟨.slice (some ⟨g',0,none⟩) l.length l.length,?_,rfl,rfl,fun j u hj=>?_⟩
  ·simp only[dI,AR];refine⟨_,_,by rw[bD],by rw[bD];exact af _,.inr ⟨g',0,rfl,fun hx=>by have:=hX g' hx;omega,h5.lt,ARs.mk fun k d hd=>?_⟩⟩;rw[bN]at hd;obtain⟨z,hz,rfl⟩:=eY.1 hd;refine⟨.int .i64 z,by simp only[zI,AR];exact⟨trivial,rfl⟩,rfl,rfl,fun j u hj=>?_⟩
   match j,hj with
   |0,hj=>
    have:u= .int .i64 z:=by simpa[Value.cells]using hj.symm
    rw[this];simpa using h5.c k z hz
   |j+1,hj=>simp[Value.cells]at hj
  ·match j,hj with
   |0,hj=>
    have:u= .slice (some ⟨g',0,none⟩) l.length l.length:=by simpa[Value.cells]using hj.symm
    rw[this];simpa using h3
   |j+1,hj=>simp[Value.cells]at hj
theorem Jm{X:Nat->Prop}{w:World}:AR X w (dM []) (.slice none 0 0):=by
 simp only[dM,jq,AR];exact⟨none,0,rfl,af _,.inl aU⟩
theorem G1{X:Nat->Prop}{w:World}(z:Int):AR X w (zI z) (.int .i64 z):=by simp only[zI,AR];exact⟨trivial,rfl⟩
theorem GZ{X:Nat->Prop}{w:World}{d1 d2:D}{u1 u2:Value}(h1:AR X w d1 u1)(h2:AR X w d2 u2):AR X w (.tp [d1,d2]) (.tuple #[u1,u2]):=by
 simp only[AR,ATp];exact⟨_,rfl,_,_,rfl,h1,_,_,rfl,h2,rfl⟩
end DW
end
section
open Go.ChangeShapes Go.WideShapes Go.ChangeAt Go.RowKit Go.Joins Go.Deep
theorem own:ownKnob Tryz.prog.godebug=none:=by kernel_rfl
theorem laidOut:laidOutB Tryz.prog=true:=by kernel_rfl
theorem Od:Tryz.prog.cellsOf 3=1:=by kernel_rfl
theorem Lj:Tryz.prog.cellsOf 40=1:=by kernel_rfl
namespace DW
theorem Db{w:World}{a:Addr}{v:Value}(h:w.cell? a=some v):a=⟨a.block,a.off,none⟩:=by
 obtain⟨b,o,s⟩:=a
 cases s with
 |none=>rfl
 |some k=>
  unfold World.cell? at h;simp only at h;split at h
  ·simp at h
  ·cases h
theorem UY{w:World}{a:Addr}{l:List Int}{cap:Nat}(hc:l.length<=cap)(h:∀i,i<l.length->w.cell? (a.add i)=some (.int .i64 (l.getD i 0))):AR (fun _=>False) w (dI l) (.slice (some a) l.length cap):=by
 simp only[dI,AR];refine⟨some a,cap,by rw[bD],by rw[bD];exact hc,?_⟩;by_cases hl:l=[]
 ·exact .inl (by rw[hl];rfl)
 ·have hp:0<l.length:=iC.2 hl;have h0:w.cell? a=some (.int .i64 (l.getD 0 0)):=h 0 hp;have ha:=Db h0;refine .inr ⟨a.block,a.off,jS some ha,fun h=>h,World.block_lt_of_cell? w _ h0,ARs.mk fun i d hd=>?_⟩;rw[bN]at hd;obtain⟨z,hz,rfl⟩:=eY.1 hd;have hi:=(ct.1 hz).1;refine⟨.int .i64 z,G1 z,rfl,rfl,fun j u hj=>?_⟩
  match j,hj with
  |0,hj=>
   have:u= .int .i64 z:=by simpa[Value.cells]using hj.symm
   have h1:=h i hi;rw[aq,hz]at h1;rw[this,fH,bZ];rw[ha,xY]at h1;exact h1
  |j+1,hj=>simp[Value.cells]at hj
theorem UX{w:World}{a:Addr}{m:List (List Int)}{cap:Nat}(hc:m.length<=cap)(h:∀i l,m[i]?=some l->∃u,w.cell? (a.add i)=some u/\AR (fun _=>False) w (dI l) u):AR (fun _=>False) w (dM m) (.slice (some a) m.length cap):=by
 simp only[dM,AR];refine⟨some a,cap,by rw[bD],by rw[bD];exact hc,?_⟩
 cases m with
 |nil=>exact .inl rfl
 |cons l0 m0=>
  obtain⟨u0,h0,_⟩:=h 0 l0 rfl;have ha:=Db (show w.cell? a=some u0 from h0);refine .inr ⟨a.block,a.off,jS some ha,fun h=>h,World.block_lt_of_cell? w _ (show w.cell? a=some u0 from h0),ARs.mk fun i d hd=>?_⟩;rw[bN]at hd;obtain⟨l,hl,rfl⟩:=eY.1 hd;obtain⟨u,h1,h2⟩:=h i l hl;have h3:=h2;simp only[dI,AR]at h3;obtain⟨a',c',rfl,_⟩:=h3;refine⟨_,h2,rfl,rfl,fun j u hj=>?_⟩
  match j,hj with
  |0,hj=>
   have:u= .slice a' (l.map zI).length c':=by simpa[Value.cells]using hj.symm
   rw[this,fH,bZ];rw[ha,xY]at h1;exact h1
  |j+1,hj=>simp[Value.cells]at hj
end DW
set_option maxRecDepth 100000 in
theorem VK{H:Type}{enc:TypeId×Value->H}{w:World}{base:Nat}{spare:Nat->Bool}{held:Bool}{v:Value}{fuel:Nat}{x:DataW H×List MemPlace}
  (hf:DataW.trod enc Tryz.prog w base spare held fuel 22 [v]=some x):∃m:List (List Int),DW.AR (fun _=>False) w (DW.dM m) v:=by
 rcases open_slice Tryz.underlying22 hf with⟨hcs,hx⟩|⟨a,len0,cap0,m,n,D,Pl,hcs,_,hl,hm,hmm,_,hel⟩
 ·simp at hcs;subst hcs;exact⟨[],DW.Jm⟩
 ·simp at hcs;subst hcs;rw[Lj]at hel;have hlm:len0<=m:=by rw[hmm];split<;>omega
  obtain⟨F,hF⟩:=choose_lt (α:=List Int) (n:=len0) (p:=fun i (l:List Int)=>∃u,w.cell? (a.add i)=some u/\DW.AR (fun _=>False) w (DW.dI l) u) (fun i hi=>by
   obtain⟨cs',h1,h2⟩:=hel i aa;obtain⟨_,hlen,hc⟩:=World.cells?_some h1;have hc0:=hc 0 aa;rw[fH]at hc0;rcases open_ints Tryz.underlying40 Tryz.underlying3 Od h2 with⟨rfl,_⟩|⟨a',len',cap',zs,rfl,_,hl',_,hz,_,hcell,_⟩
   ·refine⟨[],.slice none 0 0,hc0,?_⟩;simp only[DW.dI,DW.AR];exact⟨none,0,rfl,af _,.inl rfl⟩
   ·have hzl:len'<=zs.length:=by rw[hz];split<;>omega
    have hlen:(zs.take len').length=len':=by rw[aY];omega
    have hA:=DW.UY (w:=w) (a:=a') (l:=zs.take len') (cap:=cap') aa (fun k hk=>by
     rw[hlen]at hk;rw[hcell k aa,aq,aq,iB,an hk])
    rw[hlen]at hA;exact⟨zs.take len',_,hc0,hA⟩)
  have hlen:((List.range len0).map F).length=len0:=by simp
  have hA:=DW.UX (w:=w) (a:=a) (m:=(List.range len0).map F) (cap:=cap0) aa (fun i l hi=>by
   have hk:i<len0:=by simpa using(ct.1 hi).1
   rw[bN,iT hk]at hi;cases hi;exact hF i hk)
  rw[hlen]at hA;exact⟨_,hA⟩
end
section
open Go.RowKit Go.BigFrame
attribute [local go_sem ↓] Go.wp_at_zero Go.wp_at_succ
def fB(dim:Int):List (List Int)->Int
 |[]=>0
 |r::t=>if(r.length:Int)=dim then(if r.any big=true then 2 else fB dim t)else 9
def lck(dim:Int)(m:List (List Int))(den:Int):Int:=if dim<1\/6<dim\/den<1\/1000000000000000<den then 2 else if 64<m.length then 8 else fB dim m
theorem qi{dim:Int}{m:List (List Int)}{k:Nat}{l:List Int}(hl:m[k]?=some l):fB dim (m.drop k)=if(l.length:Int)=dim then(if l.any big=true then 2 else fB dim (m.drop (k+1)))else 9:=by
 obtain⟨hk,rfl⟩:=ct.1 hl;rw[nW hk];rfl
set_option maxRecDepth 10000 in
theorem Qm(z:Int)(w:World):
  Calls Tryz.prog 90 #[.int .i64 z] w fun e w'=>e= .returned (.bool (big z))/\Below w.heap.size w w':=by
 have WI:=ae (fun w=>Ag z 1000000000000000 aa aa w);have E:Hid (big z= !(inb 1000000000000000 z)):=rfl;generalize inb 1000000000000000 z=c at*
 go_enter Tryz.func90,Tryz.ntmps90
 go_wp2_with (go_at_call 91;(with_reducible refine(WI.out _).mono ?_);rintro e w4 ⟨rfl,hb4⟩;obtain⟨g4,rfl⟩:=mob hb4;clear hb4)
 go_ret
 exact⟨by rw[E.out];rfl,by exact bel⟩
theorem Hs:∀args w,(callFunc 90 args).run Tryz.prog w= .ok (.enter 90 args) w:=enters_of Tryz.func90 ah rfl
set_option maxRecDepth 10000 in
set_option maxHeartbeats 4000000 in
theorem KU(dim den:Int)(m:List (List Int))(v:Value)(hd:I64 dim)(hd2:I64 den)(hm:m.length<=1000000000)(hr:∀r∈m,r.length<=1000000000)(w:World)(h:ZM w v m):
  Calls Tryz.prog 33 #[.agg #[.int .i64 dim,v, .int .i64 den]] w fun e w'=>e= .returned (.int .i64 (lck dim m den))/\Below w.heap.size w w':=by
 have AN:=ae (fun (r:List Int) (hr':r∈m) b c w h=>G2 r b c (hr r hr') _ big Hs (fun x w=>Qm x w) w h);have H:=ae h;have E2:=ae (fun h:dim<1\/6<dim\/den<1\/1000000000000000<den=>(show lck dim m den=2 by unfold lck;rw[an h]));have E8:=ae (fun (h:¬(dim<1\/6<dim\/den<1\/1000000000000000<den)) (h2:64<m.length)=>(show lck dim m den=8 by unfold lck;rw[aj h,an h2]));have E0:=ae (fun (h:¬(dim<1\/6<dim\/den<1\/1000000000000000<den)) (h2:¬64<m.length)=>(show lck dim m den=fB dim m by unfold lck;rw[aj h,aj h2]));have ST:=ae (fun k l hl=>qi (dim:=dim) (m:=m) (k:=k) (l:=l) hl);have EN:Hid (∀k,m.length<=k->fB dim (m.drop k)=0):=fun k hk=>by rw[jx hk];rfl
 have HLR:Hid _:=hr;obtain⟨a,cap,rfl,_,h4⟩:=h;have H4:=ae h4;clear h4 hr;generalize hml:m.length=q at*;have HQ:=ae hml;clear hml;generalize hR:lck dim m den=R at*;clear hR;unfold I64 at hd hd2;by_cases c1:dim<1
 ·have d1:decide (dim<1)=true:=by rw[cZ];exact c1
  have E:=ae (E2.out (.inl c1))
  go_enter Tryz.func33,Tryz.ntmps33
  go_wp2_with fail
  go_ret
  exact⟨by rw[E.out];rfl,by exact bel⟩
 have d1:decide (dim<1)=false:=by rw[bW];exact c1
 by_cases c2:6<dim
 ·have d2:decide (6<dim)=true:=by rw[cZ];exact c2
  have E:=ae (E2.out (.inr (.inl c2)))
  go_enter Tryz.func33,Tryz.ntmps33
  go_wp2_with fail
  go_ret
  exact⟨by rw[E.out];rfl,by exact bel⟩
 have d2:decide (6<dim)=false:=by rw[bW];exact c2
 by_cases c3:den<1
 ·have d3:decide (den<1)=true:=by rw[cZ];exact c3
  have E:=ae (E2.out (.inr (.inr (.inl c3))))
  go_enter Tryz.func33,Tryz.ntmps33
  go_wp2_with fail
  go_ret
  exact⟨by rw[E.out];rfl,by exact bel⟩
 have d3:decide (den<1)=false:=by rw[bW];exact c3
 by_cases c4:1000000000000000<den
 ·have d4:decide (1000000000000000<den)=true:=by rw[cZ];exact c4
  have E:=ae (E2.out (.inr (.inr (.inr c4))))
  go_enter Tryz.func33,Tryz.ntmps33
  go_wp2_with fail
  go_ret
  exact⟨by rw[E.out];rfl,by exact bel⟩
 have d4:decide (1000000000000000<den)=false:=by rw[bW];exact c4
 have HN:Hid (¬(dim<1\/6<dim\/den<1\/1000000000000000<den)):=by
  show¬_;omega
 by_cases h1:64<q
 ·have h2:(64:Int)<(q:Int):=by omega
  have E:Hid (R=8):=E8.out HN.out h1
  go_enter Tryz.func33,Tryz.ntmps33
  go_wp2_with fail
  go_ret
  exact⟨by rw[E.out];rfl,by exact bel⟩
 have h2:¬(64:Int)<(q:Int):=by omega
 have E0':Hid (R=fB dim m):=E0.out HN.out h1;clear E2 E8 E0
 go_enter Tryz.func33,Tryz.ntmps33
 go_wp2_with fail
 go_loopw [32] (fun i wr=>∃k:Nat,k<=q/\i= .int .i64 ((k:Int))/\Hid (Below (w.heap.size+1) (w.alloc (.cells #[.int .i64 dim, .slice a q cap, .int .i64 den] 48)) wr)/\Hid (fB dim m=fB dim (m.drop k))) (fun i _=>q-(intOf i).toNat)
 case atStart=>exact⟨0,by omega,rfl,Below.refl _ _,rfl⟩
 case round=>
  obtain⟨k,hk,rfl,HB,HJ⟩:=hrel;have hsz:(w.alloc (.cells #[.int .i64 dim, .slice a q cap, .int .i64 den] 48)).heap.size=w.heap.size+1:=by simp
  have hsw:w.heap.size<wr.heap.size:=by have:=HB.out.size;omega
  have hB:Below w.heap.size w wr:=Below.trans (b:=w.alloc (.cells #[.int .i64 dim, .slice a q cap, .int .i64 den] 48)) aA (HB.out.mono aa);have q0:wr.cell? ⟨w.heap.size,0,none⟩=some (.int .i64 dim):=(HB.out.cell (p:=⟨w.heap.size,0,none⟩) (iU _)).trans (by go_simp);clear hsz;by_cases hkn:k<q
  ·have hkn2:(k:Int)<(q:Int):=by omega
   obtain⟨l,hl⟩:∃l,m[k]?=some l:=⟨m[k]'(by rw[HQ.out];omega),aV _⟩;rcases H4.out with h0|⟨a0,ha,hal,hcc⟩
   ·rw[h0]at hl;simp at hl
   obtain⟨b,c,cz,_,hz⟩:=hcc k l hl;have cz2:=Bh hB (af _) cz;subst ha;have HL:=ae hl;have hll:l.length<=1000000000:=HLR.out l (bj hl);have ANl:=ae (AN.out l (bj hl) b c);have HZ:=ae (hz.below hB (af _));have STl:=ae (ST.out k l hl);have HBW:=ae hB;clear hcc cz hl hz hB;generalize l.length=p at*;by_cases he:(p:Int)=dim
   ·have he2:decide ((p:Int)=dim)=true:=by rw[cZ];exact he
    generalize hab:l.any big=t at*;have HT:=ae hab;clear hab;cases t
    ·have E : Hid (fB dim (m.drop k) = fB dim (m.drop (k + 1))) := by
      show _=_;rw[STl.out,an he,aj aU]
     have HE:=ae he;subst he;clear he2
     go_wp2_with (go_at_call 89;(with_reducible refine(ANl.out _ ?_).mono ?_);(exact HZ.out.below (B:=wr.heap.size) aA (af _));rintro e w4 ⟨rfl,hb4⟩;have HB4:=ae hb4;obtain⟨g4,rfl⟩:=mob hb4;clear hb4)
     go_roundw
     case rel=>exact⟨k+1,by omega,by go_num,HB.out.trans (HB4.out.mono aa),HJ.out.trans E.out⟩
     case measure=>simp[intOf];omega
    ·have E : Hid (R = 2) := by
      show _=_;rw[E0'.out,HJ.out,STl.out,an he,an rfl]
     subst he;clear he2
     go_wp2_with (go_at_call 89;(with_reducible refine(ANl.out _ ?_).mono ?_);(exact HZ.out.below (B:=wr.heap.size) aA (af _));rintro e w4 ⟨rfl,hb4⟩;have HB4:=ae hb4;obtain⟨g4,rfl⟩:=mob hb4;clear hb4)
     go_ret
     exact⟨by rw[E.out];rfl,HBW.out.trans (HB4.out.mono aa)⟩
   ·have E : Hid (R = 9) := by
     show _=_;rw[E0'.out,HJ.out,STl.out,aj he]
    go_wp2_with fail
    go_ret
    exact⟨by rw[E.out];rfl,HBW.out⟩
  ·obtain rfl:k=q:=by omega
   have hkn2:¬(k:Int)<(k:Int):=by omega
   have E:Hid (R=0):=by
    show _=_;rw[E0'.out,HJ.out,EN.out k (af _)]
   go_wp2_with fail
   go_ret
   exact⟨by rw[E.out];rfl,hB⟩
end
section
open Go.RowKit Go.BigFrame
attribute [local go_sem ↓] Go.wp_at_zero Go.wp_at_succ
theorem MB.other{b:Nat}{w w':World}{B gm L:Nat}{gs cs:Nat->Nat}{n:Nat}{M:Mx.Mat}(h:MB w B gm L gs cs n M)(k:Chg b w w')(hb:NW w b)(hbB:b<B):MB w' B gm L gs cs n M:=by
 have hg:gm≠b:=by have:=h.b;omega
 refine⟨h.b,aZ h.lt k.size,fun j=>(k.frozen h.lt hg).trans (h.fr j),fun i hi=>?_,h.nw.tX (k.cell h.lt hg),h.ml,h.rc,fun i hi=>?_,h.dj⟩
 ·obtain⟨u,hu⟩:=h.hl i hi;exact⟨u,(k.cell h.lt hg).trans hu⟩
 ·obtain⟨a,h1,h2,hA,h3⟩:=h.hc i hi;exact⟨a,(k.cell h.lt hg).trans h1,h2,hA,fun h0=>⟨(h3 h0).1,(h3 h0).2.1,(h3 h0).2.2.1,(h3 h0).2.2.2.chg k hb (by have:=(h3 h0).2.1;omega)⟩⟩
def rMB(B n:Nat)(M:Mx.Mat):Own3.Rel:=⟨Nat×Nat,(0,0),fun p=>.slice (some ⟨p.1,0,none⟩) M.length p.2,fun p w=>M.length<=p.2/\∃gs cs,MB w B p.1 M.length gs cs n M,fun _ _ _ h hb=>⟨h.1,h.2.elim fun gs h=>h.elim fun cs h=>⟨gs,cs,h.below hb (af _)⟩⟩⟩
theorem Sk{P:Program}{f:FuncId}{args:Array Value}{w:World}{B n:Nat}{M:Mx.Mat}(hB:B<=w.heap.size)(h:Calls P f args w (qo w n M)):
 Calls P f args w fun e w'=>∃x,e= .returned ((rMB B n M).val x)/\(rMB B n M).R x w'/\Below w.heap.size w w':=h.mono fun _ _ ⟨⟨gm,gs,cs,cap,h1,h2,h3⟩,h4⟩=>⟨(gm,cap),h1,⟨h2,gs,cs,h3.BE hB⟩,h4⟩
def nH(n:Nat)(M:Mx.Mat):Mx.Mat:=(Mx.red n 0 (0,M)).2.take (Mx.red n 0 (0,M)).1
def nG(n:Nat)(M:Mx.Mat)(d:Int):Int:=gM (nH n M) d
def nR(n:Nat)(M:Mx.Mat)(d:Int):Mx.Mat:=mapM (fun z=>z/nG n M d) (nH n M)
def NPost(w:World)(dim:Int)(n:Nat)(M:Mx.Mat)(d:Int)(e:Ending)(w':World):Prop:=(∃gm gs cs cap y,e= .returned (.agg #[.int .i64 dim,.slice (some ⟨gm,0,none⟩) (nR n M d).length cap,.bool (IV.s y),.slice (IV.a y) (IV.n y) (IV.cap y)])/\(nR n M d).length<=cap/\MB w' w.heap.size gm (nR n M d).length gs cs n (nR n M d)/\IZ w' y (d/nG n M d))/\Below w.heap.size w w'
theorem nH_bd{n e:Nat}{M:Mx.Mat}(he:6<=e)(hr:Mx.Rc n M)(hb:Mx.Bd (2^e) M):Mx.Bd (2^(e*11^n)) (nH n M):=by
 have:=Mx.tT he n 0 0 M hr zb79;rw[bw]at this;exact Tv this _
theorem FO{n:Nat}{M:Mx.Mat}(hr:Mx.Rc n M):(nH n M).length<=M.length:=by
 unfold nH;have:(Mx.red n 0 (0,M)).2.length=M.length:=(Mx.eh n 0 (0,M) hr).len;rw[aY];omega
set_option maxRecDepth 10000 in
set_option maxHeartbeats 4000000 in
theorem M6(dim:Int)(M:Mx.Mat)(n e:Nat)(v:Value)(K:IV)(d:Int)(hm:M.length<=1000)(hn:n<=1000)(he:6<=e)(hf:2*(e*11^n)<=6000000000000)(hb:Mx.Bd (2^e) M)(fd:Fit d)(w:World)(h:MR w v n M)(hk:IZ w K d):
  Calls Tryz.prog 103 #[.int .i64 dim,v,.agg #[.bool K.s,.slice K.a K.n K.cap]] w (NPost w dim n M d):=by
 have hr:Mx.Rc n M:=by obtain⟨_,_,_,_,h3,_⟩:=h;exact h3
 have hfit:∀i j,Fit (Mx.at' (nH n M) i j):=fun i j=>bK (nH_bd he hr hb i j) aa;have hlen:=FO hr;have HE:Hid (∀w,MR w v n M->Calls Tryz.prog 85 #[v] w (S8 w n (nH n M))):=fun w h=>Hl M n e v hm hn he hf hb w h;have CT:=ae (fun v w h hk=>F0 (nH n M) n v K d aa aa fd hfit w h hk);have fg:Fit (nG n M d):=NU (fun r hr x hx=>by
  obtain⟨i,hi,rfl⟩:=lX hr;obtain⟨j,hj,rfl⟩:=lX hx;have:=hfit i j;unfold Mx.at' Mx.rw at this;rw[aq,aq,aV hi]at this;simp only[mE]at this;rw[aV hj]at this;exact this) fd
 have OV:Hid (∀y v w,MR w v n (nH n M)->IZ w y (nG n M d)->Calls Tryz.prog 119 #[v,.agg #[.bool y.s,.slice y.a y.n y.cap]] w (qo w n (nR n M d))):=fun y v w h hk=>Nc (nH n M) n v y (nG n M d) aa aa fg hfit w h hk;have QU:=ae (fun y w hx hy=>ni K y d (nG n M d) fd fg w hx hy);have RL:=ae (fi (fun z=>z/nG n M d) (nH n M));have H:=ae h;have HK:=ae hk;obtain⟨ks,ka,kn,kc⟩:=K;clear h hk hm hn hb he hf fd fg hfit hlen hr
 go_enter Tryz.func103,Tryz.ntmps103
 go_wp2_with (first
  |(go_at_call 85;((with_reducible refine(HE.out _ ?_).mono ?_);(exact H.out.below (B:=w.heap.size) aA (af _));rintro e w4 ⟨⟨vh,rfl,hh⟩,hb4⟩;obtain⟨a4,c4,rfl,hc4,hh⟩:=hh.split;have HH:=ae hh;obtain⟨g4,rfl⟩:=mob hb4;clear hb4 hh))
  |(go_at_call 118;((with_reducible refine(CT.out _ _ HH.out ?_).mono ?_);(exact HK.out.below (B:=w.heap.size) aA (af _));rintro e w5 ⟨⟨y5,rfl,hy5⟩,hb5⟩;have HG:=ae hy5;have HB5:=ae hb5;obtain⟨g5,rfl⟩:=mob hb5;clear hb5 hy5)))
 have hB0:Below w.heap.size w ((more (more ((w.alloc (.cells #[.bool ks,.slice ka kn kc] 62)).alloc (.cells #[.int .i64 (0),.slice none 0 0,.bool false,.slice none 0 0] 121)) g4) g5).alloc (.cells #[.bool y5.s,.slice y5.a y5.n y5.cap] 62)):=by exact bel
 have hBa:Below (more (more ((w.alloc (.cells #[.bool ks,.slice ka kn kc] 62)).alloc (.cells #[.int .i64 (0),.slice none 0 0,.bool false,.slice none 0 0] 121)) g4) g5).heap.size (more (more ((w.alloc (.cells #[.bool ks,.slice ka kn kc] 62)).alloc (.cells #[.int .i64 (0),.slice none 0 0,.bool false,.slice none 0 0] 121)) g4) g5) ((more (more ((w.alloc (.cells #[.bool ks,.slice ka kn kc] 62)).alloc (.cells #[.int .i64 (0),.slice none 0 0,.bool false,.slice none 0 0] 121)) g4) g5).alloc (.cells #[.bool y5.s,.slice y5.a y5.n y5.cap] 62)):=by exact bel
 have HH0:=ae ((HH.out.below HB5.out (af _)).below hBa (af _));have HG0:Hid (IZ ((more (more ((w.alloc (.cells #[.bool ks,.slice ka kn kc] 62)).alloc (.cells #[.int .i64 (0),.slice none 0 0,.bool false,.slice none 0 0] 121)) g4) g5).alloc (.cells #[.bool y5.s,.slice y5.a y5.n y5.cap] 62)) y5 (nG n M d)):=HG.out.below hBa (af _);have HK0:=ae (HK.out.below hB0 (af _));have b0:((more (more ((w.alloc (.cells #[.bool ks,.slice ka kn kc] 62)).alloc (.cells #[.int .i64 (0),.slice none 0 0,.bool false,.slice none 0 0] 121)) g4) g5).alloc (.cells #[.bool y5.s,.slice y5.a y5.n y5.cap] 62)).cell? ⟨w.heap.size,0,none⟩=some (.bool ks):=by go_simp
 have b1:((more (more ((w.alloc (.cells #[.bool ks,.slice ka kn kc] 62)).alloc (.cells #[.int .i64 (0),.slice none 0 0,.bool false,.slice none 0 0] 121)) g4) g5).alloc (.cells #[.bool y5.s,.slice y5.a y5.n y5.cap] 62)).cell? ⟨w.heap.size,1,none⟩=some (.slice ka kn kc):=by go_simp
 have y0:((more (more ((w.alloc (.cells #[.bool ks,.slice ka kn kc] 62)).alloc (.cells #[.int .i64 (0),.slice none 0 0,.bool false,.slice none 0 0] 121)) g4) g5).alloc (.cells #[.bool y5.s,.slice y5.a y5.n y5.cap] 62)).cell? ⟨(w.heap.size+1+1+g4.snd.size+g5.snd.size),0,none⟩=some (.bool y5.s):=by go_simp
 have y1:((more (more ((w.alloc (.cells #[.bool ks,.slice ka kn kc] 62)).alloc (.cells #[.int .i64 (0),.slice none 0 0,.bool false,.slice none 0 0] 121)) g4) g5).alloc (.cells #[.bool y5.s,.slice y5.a y5.n y5.cap] 62)).cell? ⟨(w.heap.size+1+1+g4.snd.size+g5.snd.size),1,none⟩=some (.slice y5.a y5.n y5.cap):=by go_simp
 have q0:((more (more ((w.alloc (.cells #[.bool ks,.slice ka kn kc] 62)).alloc (.cells #[.int .i64 (0),.slice none 0 0,.bool false,.slice none 0 0] 121)) g4) g5).alloc (.cells #[.bool y5.s,.slice y5.a y5.n y5.cap] 62)).cell? ⟨w.heap.size+1,0,none⟩=some (.int .i64 (0)):=by go_simp
 have q1:((more (more ((w.alloc (.cells #[.bool ks,.slice ka kn kc] 62)).alloc (.cells #[.int .i64 (0),.slice none 0 0,.bool false,.slice none 0 0] 121)) g4) g5).alloc (.cells #[.bool y5.s,.slice y5.a y5.n y5.cap] 62)).cell? ⟨w.heap.size+1,1,none⟩=some (.slice none 0 0):=by go_simp
 have q2:((more (more ((w.alloc (.cells #[.bool ks,.slice ka kn kc] 62)).alloc (.cells #[.int .i64 (0),.slice none 0 0,.bool false,.slice none 0 0] 121)) g4) g5).alloc (.cells #[.bool y5.s,.slice y5.a y5.n y5.cap] 62)).cell? ⟨w.heap.size+1,2,none⟩=some (.bool false):=by go_simp
 have q3:((more (more ((w.alloc (.cells #[.bool ks,.slice ka kn kc] 62)).alloc (.cells #[.int .i64 (0),.slice none 0 0,.bool false,.slice none 0 0] 121)) g4) g5).alloc (.cells #[.bool y5.s,.slice y5.a y5.n y5.cap] 62)).cell? ⟨w.heap.size+1,3,none⟩=some (.slice none 0 0):=by go_simp
 have f0:((more (more ((w.alloc (.cells #[.bool ks,.slice ka kn kc] 62)).alloc (.cells #[.int .i64 (0),.slice none 0 0,.bool false,.slice none 0 0] 121)) g4) g5).alloc (.cells #[.bool y5.s,.slice y5.a y5.n y5.cap] 62)).frozen? ⟨w.heap.size+1,0,none⟩=false:=by go_simp
 have f1:((more (more ((w.alloc (.cells #[.bool ks,.slice ka kn kc] 62)).alloc (.cells #[.int .i64 (0),.slice none 0 0,.bool false,.slice none 0 0] 121)) g4) g5).alloc (.cells #[.bool y5.s,.slice y5.a y5.n y5.cap] 62)).frozen? ⟨w.heap.size+1,1,none⟩=false:=by go_simp
 have f2:((more (more ((w.alloc (.cells #[.bool ks,.slice ka kn kc] 62)).alloc (.cells #[.int .i64 (0),.slice none 0 0,.bool false,.slice none 0 0] 121)) g4) g5).alloc (.cells #[.bool y5.s,.slice y5.a y5.n y5.cap] 62)).frozen? ⟨w.heap.size+1,2,none⟩=false:=by go_simp
 have f3:((more (more ((w.alloc (.cells #[.bool ks,.slice ka kn kc] 62)).alloc (.cells #[.int .i64 (0),.slice none 0 0,.bool false,.slice none 0 0] 121)) g4) g5).alloc (.cells #[.bool y5.s,.slice y5.a y5.n y5.cap] 62)).frozen? ⟨w.heap.size+1,3,none⟩=false:=by go_simp
 have hs0:w.heap.size+1<((more (more ((w.alloc (.cells #[.bool ks,.slice ka kn kc] 62)).alloc (.cells #[.int .i64 (0),.slice none 0 0,.bool false,.slice none 0 0] 121)) g4) g5).alloc (.cells #[.bool y5.s,.slice y5.a y5.n y5.cap] 62)).heap.size:=by simp;omega
 have hs1:(w.heap.size+1+1+g4.snd.size+g5.snd.size)<((more (more ((w.alloc (.cells #[.bool ks,.slice ka kn kc] 62)).alloc (.cells #[.int .i64 (0),.slice none 0 0,.bool false,.slice none 0 0] 121)) g4) g5).alloc (.cells #[.bool y5.s,.slice y5.a y5.n y5.cap] 62)).heap.size:=by simp
 have HB0:=ae hB0;clear HH HG HB5 hB0 hBa
 (try clear hh)
 generalize((more (more ((w.alloc (.cells #[.bool ks,.slice ka kn kc] 62)).alloc (.cells #[.int .i64 (0),.slice none 0 0,.bool false,.slice none 0 0] 121)) g4) g5).alloc (.cells #[.bool y5.s,.slice y5.a y5.n y5.cap] 62))=W0 at*;generalize(w.heap.size+1+1+g4.snd.size+g5.snd.size)=bx at*;have hs2:w.heap.size<W0.heap.size:=by omega
 have HNW:Hid (NW W0 (w.heap.size+1)):=fun m e=>by rw[q0]at e;cases e
 generalize hRL:(nR n M d)=R at*;generalize hGL:(nG n M d)=G at*;generalize(nH n M)=NHM at*
 (apply Own3.dR 7 [.inl _,.inl _,.inl _,.inr (rMB W0.heap.size n R),.inl _,.inl _,.inr (rIZ (d/G))] ah ah;simp only[eu,dw,eU,du];refine zs1 ?_;refine zs1 ?_;refine zs1 ?_;(refine Own3.fQ rfl (fun K hK=>?_) (fun x61=>?_);(focus(go_simp;clear hK K;intro w' hw' hcb';first|(go_at_call 119;exact(Sk (Ext.below hw').size (OV.out y5 _ w' (HH0.out.below (Ext.below hw') (af _)) (HG0.out.below (Ext.below hw') (af _)))))|(go_at_call 121;exact(gC (QU.out y5 w' ((HK0.out.below (Ext.below hw') (af _)).ip) ((HG0.out.below (Ext.below hw') (af _)).ip))))));simp only[rMB,Act.put,jz,jr,et]);refine zs1 ?_;refine zs1 ?_;(refine Own3.fQ rfl (fun K hK=>?_) (fun x62=>?_);(focus(go_simp;clear hK K;intro w' hw' hcb';first|(go_at_call 119;exact(Sk (Ext.below hw').size (OV.out y5 _ w' (HH0.out.below (Ext.below hw') (af _)) (HG0.out.below (Ext.below hw') (af _)))))|(go_at_call 121;exact(gC (QU.out y5 w' ((HK0.out.below (Ext.below hw') (af _)).ip) ((HG0.out.below (Ext.below hw') (af _)).ip))))));simp only[rIZ,Act.put,jz,jr,et]);refine Own3.jW ?_;intro w6 hw6;have hB6:=hw6.1;have HR61:Hid ((rMB W0.heap.size n R).R x61 w6):=ae (hw6.get (u:=3) (Or.inr (Or.inl ⟨rfl,rfl⟩)));have HY62:Hid (IZ w6 x62 (d/G)):=ae (hw6.get (u:=6) (Or.inl ⟨rfl,rfl⟩));clear hw6;obtain⟨g6,rfl⟩:=mob hB6;clear hB6)
 go_wp2_with fail
 have hgW:W0.heap.size<=(more W0 g6).heap.size:=by simp
 have hb6:Below W0.heap.size W0 (more W0 g6):=by exact bel
 have HB6:=ae hb6;have hnw6:=HNW.out.below hb6 (af _) aa;obtain⟨gm,cp⟩:=x61;simp only[]at HR61⊢;have e5:(((((more W0 g6).setCell ⟨w.heap.size+1,0,none⟩ (.int .i64 dim)).setCell ⟨w.heap.size+1,1,none⟩ (.slice (some ⟨gm,0,none⟩) R.length cp)).setCell ⟨w.heap.size+1,2,none⟩ (.bool x62.s)).setCell ⟨w.heap.size+1,3,none⟩ (.slice x62.a x62.n x62.cap))=more ((((W0.setCell ⟨w.heap.size+1,0,none⟩ (.int .i64 dim)).setCell ⟨w.heap.size+1,1,none⟩ (.slice (some ⟨gm,0,none⟩) R.length cp)).setCell ⟨w.heap.size+1,2,none⟩ (.bool x62.s)).setCell ⟨w.heap.size+1,3,none⟩ (.slice x62.a x62.n x62.cap)) g6:=by go_simp
 have hC:Chg (w.heap.size+1) (more W0 g6) (((((more W0 g6).setCell ⟨w.heap.size+1,0,none⟩ (.int .i64 dim)).setCell ⟨w.heap.size+1,1,none⟩ (.slice (some ⟨gm,0,none⟩) R.length cp)).setCell ⟨w.heap.size+1,2,none⟩ (.bool x62.s)).setCell ⟨w.heap.size+1,3,none⟩ (.slice x62.a x62.n x62.cap)):=((((Chg.refl _ _).set _ _ _ (.inl rfl)).set _ _ _ (.inl rfl)).set _ _ _ (.inl rfl)).set _ _ _ (.inl rfl);have hb7:Below w.heap.size w (more W0 g6):=HB0.out.trans (HB6.out.mono aa);have hD:Below w.heap.size w (((((more W0 g6).setCell ⟨w.heap.size+1,0,none⟩ (.int .i64 dim)).setCell ⟨w.heap.size+1,1,none⟩ (.slice (some ⟨gm,0,none⟩) R.length cp)).setCell ⟨w.heap.size+1,2,none⟩ (.bool x62.s)).setCell ⟨w.heap.size+1,3,none⟩ (.slice x62.a x62.n x62.cap)):=by exact bel
 clear hb7;rw[e5]at hC hD;have r0:(more ((((W0.setCell ⟨w.heap.size+1,0,none⟩ (.int .i64 dim)).setCell ⟨w.heap.size+1,1,none⟩ (.slice (some ⟨gm,0,none⟩) R.length cp)).setCell ⟨w.heap.size+1,2,none⟩ (.bool x62.s)).setCell ⟨w.heap.size+1,3,none⟩ (.slice x62.a x62.n x62.cap)) g6).cell? ⟨w.heap.size+1,0,none⟩=some (.int .i64 dim):=by go_simp
 have r1:(more ((((W0.setCell ⟨w.heap.size+1,0,none⟩ (.int .i64 dim)).setCell ⟨w.heap.size+1,1,none⟩ (.slice (some ⟨gm,0,none⟩) R.length cp)).setCell ⟨w.heap.size+1,2,none⟩ (.bool x62.s)).setCell ⟨w.heap.size+1,3,none⟩ (.slice x62.a x62.n x62.cap)) g6).cell? ⟨w.heap.size+1,1,none⟩=some (.slice (some ⟨gm,0,none⟩) R.length cp):=by go_simp
 have r2:(more ((((W0.setCell ⟨w.heap.size+1,0,none⟩ (.int .i64 dim)).setCell ⟨w.heap.size+1,1,none⟩ (.slice (some ⟨gm,0,none⟩) R.length cp)).setCell ⟨w.heap.size+1,2,none⟩ (.bool x62.s)).setCell ⟨w.heap.size+1,3,none⟩ (.slice x62.a x62.n x62.cap)) g6).cell? ⟨w.heap.size+1,2,none⟩=some (.bool x62.s):=by go_simp
 have r3:(more ((((W0.setCell ⟨w.heap.size+1,0,none⟩ (.int .i64 dim)).setCell ⟨w.heap.size+1,1,none⟩ (.slice (some ⟨gm,0,none⟩) R.length cp)).setCell ⟨w.heap.size+1,2,none⟩ (.bool x62.s)).setCell ⟨w.heap.size+1,3,none⟩ (.slice x62.a x62.n x62.cap)) g6).cell? ⟨w.heap.size+1,3,none⟩=some (.slice x62.a x62.n x62.cap):=by go_simp
 refine bodyPost_ret (v:=.agg #[.int .i64 dim,.slice (some ⟨gm,0,none⟩) R.length cp,.bool x62.s,.slice x62.a x62.n x62.cap]) (by simp[results,Tryz.results103,go_sem,r0,r1,r2,r3]) rfl ?_;obtain⟨h1,gs,cs,h2⟩:=HR61.out;refine⟨⟨gm,gs,cs,cp,x62,by rw[hRL],by rw[hRL];exact h1,?_,?_⟩,hD⟩
 ·rw[hRL];exact(h2.other hC hnw6 aa).BE aa
 ·rw[hGL];exact HY62.out.chg hC hnw6
end
section
open Go.RowKit
namespace DW
theorem IZ.gr{Y:Nat->Prop}{w w':World}{x:IV}{z:Int}(h:IZ w x z)(k:Gr Y w w')(hb:∀b,Y b->NW w b):IZ w' x z:=by
 obtain⟨l,h1,h2,h3⟩:=h;refine⟨l,⟨h1.n,h1.cap,?_,h1.nf⟩,h2,h3⟩;rcases h1.ws with h|⟨b,e,hg,hc⟩
 ·exact .inl h
 ·by_cases hl:l=[]
  ·exact .inl hl
  have hne:¬Y b:=fun e2=>hb b e2 _ (hc 0 _ (aV (iC.2 hl)));exact .inr ⟨b,e,aZ hg k.size,fun i x hk=>(World.cell?_of_block (a:=⟨b,i,none⟩) (k.block b hg hne)).trans (hc i x hk)⟩
theorem Gr.agr{X Y:Nat->Prop}{w w':World}(k:Gr Y w w')(hb:∀b,Y b->NW w b)(hX:∀b,Y b->X b):Agr X w w':=
 ⟨k.size,fun b h1 h2=>k.block b h1 fun h=>h2 (hX b h),fun _ _ h=>IZ.gr h k hb⟩
theorem Gr.trans{Y Z:Nat->Prop}{w w' w2:World}(h:Gr Y w w')(k:Gr Z w' w2)(hz:∀b,Z b->w.heap.size<=b\/Y b):Gr Y w w2:=
 ⟨k.os.trans h.os,k.tape.trans h.tape,k.output.trans h.output,aB h.size k.size,fun b hb hy=>(k.block b (aZ hb h.size) fun e=>by
  rcases hz b e with h1|h1
  ·omega
  ·exact hy h1).trans (h.block b hb hy)⟩
def blk(f:Nat->Value)(os:List (Nat×Ow))(b:Nat):Prop:=∃p∈os,(f p.1).ownBlock=some b
def XB(X:Nat->Prop)(f:Nat->Value)(os:List (Nat×Ow))(b:Nat):Prop:=X b\/blk f os b
structure OS(X:Nat->Prop)(f:Nat->Value)(w:World)(os:List (Nat×Ow)):Prop where
 ow:∀p∈os,OW (XB X f os) f w 0 p
 nw:∀b,blk f os b->NW w b
 dj:∀p∈os,∀q∈os,p.1≠q.1->∀b,(f p.1).ownBlock=some b->(f q.1).ownBlock≠some b
 un:∀p∈os,∀q∈os,p.1=q.1->p=q
 xd:∀b,X b->¬blk f os b
def SRs(X:Nat->Prop)(f:Nat->Value)(w:World):List D->List Value->Prop
 |[],vs=>vs=[]
 |d::l,vs=>∃u rest,vs=u::rest/\SR X f w d u/\SRs X f w l rest
theorem SRs.at{X:Nat->Prop}{f:Nat->Value}{w:World}:∀{l:List D} {i:Nat} {d:D} {vs:List Value},SRs X f w l vs->l[i]?=some d->∃u,vs[i]?=some u/\SR X f w d u
 |[],_,_,_,_,h=>by simp at h
 |_::_,0,_,_,⟨u,rest,h1,h2,_⟩,e=>by simp at e;subst e;exact⟨u,by rw[h1];rfl,h2⟩
 |_::_,i+1,_,_,⟨u,rest,h1,_,h3⟩,e=>by
  obtain⟨u',k1,k2⟩:=SRs.at h3 pZ;exact⟨u',by rw[h1];simpa using k1,k2⟩
theorem SRs.len{X:Nat->Prop}{f:Nat->Value}{w:World}:∀{l:List D} {vs:List Value},SRs X f w l vs->vs.length=l.length
 |[],_,h=>by rw[show _=[]from h];rfl
 |_::_,_,⟨_,_,h1,_,h3⟩=>by rw[h1];simp[SRs.len h3]
def zr(P:Program)(g:FuncId)(ds:List D)(os:List (Nat×Ow))(r:D)(os':List (Nat×Ow)):Prop:=
 ∀(X:Nat->Prop) (f:Nat->Value) (w:World) (vs:Array Value),XW X w->OS X f w os->SRs (XB X f os) f w ds vs.toList->
  Calls P g vs w (fun e w'=>∃u f',e= .returned u/\Gr (blk f os) w w'/\OS X f' w' os'/\(∀b,blk f' os' b->blk f os b\/w.heap.size<=b)/\(∀p∈os,f' p.1=f p.1)/\SR (XB X f' os') f' w' r u)
abbrev FnG(P:Program)(g:FuncId)(ds:List D)(os:List (Nat×Ow))(r:D)(os':List (Nat×Ow)):Prop:=Go.Proofs.Enters P g/\zr P g ds os r os'
section
variable {P : Program} {X0 : Nat->Prop} {n : Nat} {Q : Exit->S->Prop} {s : S} {sl : List (Nat × D)} {ow : List (Nat × Ow)} {o : Oper} {ops : Array Oper} {l : List Oper} {K : S->Prop} {t : Nat} {d : D}
theorem Fz{w w':World}{base:Nat}{e:TypeId}{size:Nat}{v:Value}{m:Nat}{xs:List Value}(h:w.ownsRow base e size v m xs){g:Nat}(hv:v.ownBlock=some g)(hb:w'.heap[g]?=w.heap[g]?):w'.ownsRow base e size v m xs:=by
 refine⟨h.1,?_⟩;rcases h.2 with hn|⟨g',cap,cur,rfl,hb',hgg,rest⟩
 ·exact .inl hn
 ·simp only[Value.ownBlock,ak]at hv;subst hv;exact .inr ⟨g',cap,cur,rfl,hb',hb.trans hgg,rest⟩
theorem FA{w w':World}{base:Nat}{e:TypeId}{size:Nat}{v:Value}{m:Nat}{xs:List Value}(h:w.ownsRow base e size v m xs)(hv:v.ownBlock=none):w'.ownsRow base e size v m xs:=by
 refine⟨h.1,?_⟩;rcases h.2 with hn|⟨g',cap,cur,rfl,_⟩
 ·exact .inl hn
 ·cases hv
inductive G6(P:Program)(fn:Func)(s:S):D->Prop
 |res (d:D) (h:Res P fn s d) (hd:d.seen=true):G6 P fn s d
 |own (t k:Nat) (h:fn.results= #[.tmp t]) (h1:s.gt t= .own k):G6 P fn s (.own k)
def fing(P:Program)(X0:Nat->Prop)(n:Nat)(fn:Func)(r:D)(os':List (Nat×Ow)):Exit->S->Prop
 | .normal,s=>∃s',Sh X0 n s s'/\G6 P fn s' r/\s'.ow=os'
 | .ret,s=>∃s',Sh X0 n s s'/\G6 P fn s' r/\s'.ow=os'
 |_,_=>False
theorem I4{g:FuncId}{fn:Func}{c:Code}{ds:List D}{os os':List (Nat×Ow)}{r:D}(hf:P.funcs[g]?=some fn)(hb:fn.body=some c)(hn:Nat.ble ds.length fn.ntmps=true)(hpin:∀p∈os,pin p.1=true)
  (h:∀X0,aW P X0 fn.ntmps c (fing P X0 fn.ntmps fn r os') ⟨aP 0 ds,os⟩):zr P g ds os r os':=fun X f w vs hX hO hv=>by
 have hl:=hv.len;simp only[bX]at hl;have hn':ds.length<=fn.ntmps:=by simpa using hn
 have hd:Hd X fn.ntmps ⟨w,blk f os,f⟩ ⟨aP 0 ds,os⟩ f {tmps:=vs++Array.replicate (fn.ntmps-vs.size) undef,defers:=[]} w:=by
  refine⟨by simp;omega,rfl,Gr.refl _ _,hX,hO.xd,fun _ _=>rfl,fun p hp b hb=>.inr ⟨p,hp,hb⟩,fun t=>?_,hO.ow,hO.nw,hO.dj,hO.un⟩;show SR _ _ _ (look (aP 0 ds) t) _;rw[sd,an (aO _),lv]
  cases hd:ds[t]? with
  |none=>exact SR.any
  |some d=>
   obtain⟨u,k1,k2⟩:=SRs.at hv hd;have k1':vs[t]?=some u:=by simpa using k1
   have hlt:=(iG.1 k1').1;have e:(vs++Array.replicate (fn.ntmps-vs.size) undef).getD t undef=u:=by
    rw[cS,qB hlt,k1'];rfl
   show SR _ _ _ d (Array.getD _ t undef);rw[e];exact k2
 have key:∀s' f' a w',Hd X fn.ntmps ⟨w,blk f os,f⟩ s' f' a w'->(∃s'',Sh X fn.ntmps s' s''/\G6 P fn s'' r/\s''.ow=os')->a.defers=[]/\∃v,(results fn a.tmps).run P w'= .ok v w'/\(∃u f',Ending.returned v= .returned u/\Gr (blk f os) w w'/\OS X f' w' os'/\(∀b,blk f' os' b->blk f os b\/w.heap.size<=b)/\(∀p∈os,f' p.1=f p.1)/\SR (XB X f' os') f' w' r u):=fun s' f' a w' h1 ⟨s'',h2,h3,h4⟩=>by
  obtain⟨f'',h5⟩:=h2 _ f' a w' h1;subst h4;refine⟨h5.df,?_⟩;have hos:OS X f'' w' s''.ow:=⟨h5.ow,fun b hb=>h5.nw b hb,h5.dj,h5.un,fun b hb ⟨p,hp,e⟩=>by
   rcases h5.lo p hp b e with h6|h6
   ·exact absurd (hX b hb).1 (by simp only at h6;omega)
   ·exact hO.xd b hb h6⟩
  have hbk:∀b,blk f'' s''.ow b->blk f os b\/w.heap.size<=b:=fun b ⟨p,hp,e⟩=>(h5.lo p hp b e).symm;have hkp:∀p∈os,f'' p.1=f p.1:=fun p hp=>h5.fx p.1 (hpin p hp)
  cases h3 with
  |res d h6 h7=>
   obtain⟨v,k1,k2⟩:=Il h5 h6;refine⟨v,k1,v,f'',rfl,h5.bl,hos,hbk,hkp,?_⟩;have k3:AR (XB X f'' s''.ow) w' r v:=k2;cases r<;>first|exact k3|simp[D.seen]at h7
  |own t k h6 h7=>
   have h8:=h5.sl t;rw[h7]at h8;refine⟨f'' k,?_,f'' k,f'',rfl,h5.bl,hos,hbk,hkp,rfl⟩;unfold results;rw[h6];simp only[SR]at h8;rw[cS]at h8;simp[h8]
 refine calls_of_wp hf hb (Code.wp_mono (fun e a w' ⟨s',f',h1,h2⟩=>?_) (h X _ f _ w hd));cases e<;>simp only[fing]at h2<;>simp only[bodyPost]
 ·exact key s' f' a w' h1 h2
 ·exact key s' f' a w' h1 h2
theorem ER.re{X:Nat->Prop}{f f':Nat->Value}{w:World}{d:D}{u:Value}(h:ER X f w d u)(hf:∀j,mz j=true->d= .own j->f' j=f j):ER X f' w d u:=by
 cases d<;>first|exact h|exact⟨h.1,by rw[hf _ h.1 rfl];exact h.2.1,h.2.2⟩
theorem ElH.re{X:Nat->Prop}{f f':Nat->Value}{w:World}:∀{l:List D} {xs:List Value},ElH X f w l xs->(∀j,mz j=true->.own j∈l->f' j=f j)->ElH X f' w l xs
 |[],_,h,_=>h
 |d::_,_,⟨u,rest,h1,h2,h3,h4,h5,h6,h7⟩,hf=>⟨u,rest,h1,h2,h3,h4.re fun j hr e=>hf j hr (by rw[<-e];exact bn),h5,h6,h7.re fun j hr hj=>hf j hr (bu _ hj)⟩
theorem EE.re{X:Nat->Prop}{f f':Nat->Value}{w:World}{k wd:Nat}{l:List D}{xs:List Value}(h:EE X f w k wd l xs)(hf:hdr k=true->∀j,mz j=true->.own j∈l->f' j=f j):EE X f' w k wd l xs:=by
 unfold EE at h⊢
 cases hh:hdr k with
 |false=>rw[hh]at h;exact h
 |true=>rw[hh]at h;exact⟨h.1,h.2.re (hf hh)⟩
def inK(os:List (Nat×Ow))(k:Nat):Bool:=os.any fun p=>Nat.beq p.1 k
theorem wK{os:List (Nat×Ow)}{k:Nat}:inK os k=true↔∃p∈os,p.1=k:=by
 unfold inK;rw[ku];constructor
 ·rintro⟨p,hp,h⟩;exact⟨p,hp,ed h⟩
 ·rintro⟨p,hp,h⟩;exact⟨p,hp,by rw[h,fJ]⟩
theorem Hd.call{w0:Bs}{f f':Nat->Value}{a:Act}{w w':World}{os os' ow1:List (Nat×Ow)}{r:D}{u:Value}(h:Hd X0 n w0 ⟨sl,ow⟩ f a w)
  (hos:∀p∈os,p∈ow) (h1:∀p∈ow1,p∈ow/\∀q∈os,q.1≠p.1)
  (hnew:∀p∈os',(∃q∈os,q.1=p.1)\/(pin p.1=false/\(∀t,(look sl t).is p.1=false)/\∀q∈ow1,q.1≠p.1/\(hdr q.1=true->mz p.1=true-> .own p.1∉q.2.l)))
  (hm':∀p∈os',hdr p.1=true->∀j, .own j∈p.2.l->∃q∈os',q.1=j) (hr:∀k,r.is k=true->∃q∈os',q.1=k) (ht:t<n)
  (hg:Gr (blk f os) w w') (hO:OS (fun b=>XO X0 ⟨sl,ow⟩ f b/\¬blk f os b) f' w' os') (hb:∀b,blk f' os' b->blk f os b\/w.heap.size<=b) (hk:∀p∈os,f' p.1=f p.1) (hu:SR (XB (fun b=>XO X0 ⟨sl,ow⟩ f b/\¬blk f os b) f' os') f' w' r u):
  Hd X0 n w0 ⟨(t,r)::sl,os'++ow1⟩ (fun k=>if inK os' k then f' k else f k) (a.put (some t) u) w':=by
 have e1:∀p∈os',(if inK os' p.1 then f' p.1 else f p.1)=f' p.1:=fun p hp=>an (wK.2 ⟨p,hp,rfl⟩);have e2:∀p∈ow1,(if inK os' p.1 then f' p.1 else f p.1)=f p.1:=fun p hp=>aj fun hh=>by
  obtain⟨q,hq,e⟩:=wK.1 hh;rcases hnew q hq with⟨q2,h2,e'⟩|h2
  ·exact(h1 p hp).2 q2 h2 (e'.trans e)
  ·exact(h2.2.2 p hp).1 e.symm
 have e3:∀k,(∃q∈os,q.1=k)\/inK os' k=false->(if inK os' k then f' k else f k)=f k:=fun k hh=>by
  rcases hh with⟨q,hq,rfl⟩|hh
  ·split
   ·exact hk q hq
   ·rfl
  ·rw[aj (by rw[hh];simp)]
 have hlt:∀p∈ow,∀b,(f p.1).ownBlock=some b->b<w.heap.size:=fun p hp b e=>((h.ow p hp).lt e).2;have hbo:∀b,blk f os b->blk f ow b:=fun b ⟨p,hp,e⟩=>⟨p,hos p hp,e⟩;have hX0:∀b,X0 b->¬blk f ow b:=fun b hb0 ⟨p,hp,e⟩=>by
  rcases h.lo p hp b e with h2|h2
  ·exact absurd (h.x0 b hb0).1 aa
  ·exact h.xy b hb0 h2
 have hd1:∀b,blk f ow1 b->¬blk f os b:=fun b ⟨p,hp,e⟩ ⟨q,hq,e'⟩=>h.dj p (h1 p hp).1 q (hos q hq) (fun e2=>(h1 p hp).2 q hq e2.symm) b e e';have hag:Agr (XO X0 ⟨sl,ow⟩ f) w w':=hg.agr (fun b hb=>h.nw b (hbo b hb)) (fun b hb=> .inr (hbo b hb));have hX1:∀b,XO X0 ⟨(t,r)::sl,os'++ow1⟩ (fun k=>if inK os' k then f' k else f k) b->X0 b\/blk f' os' b\/blk f ow1 b:=fun b hb=>by
  rcases hb with hb|⟨p,hp,e⟩
  ·exact .inl hb
  ·rcases gy.1 hp with hp|hp
   ·simp only[e1 p hp]at e;exact .inr (.inl ⟨p,hp,e⟩)
   ·simp only[e2 p hp]at e;exact .inr (.inr ⟨p,hp,e⟩)
 have hXw:∀b,b<w.heap.size->XO X0 ⟨(t,r)::sl,os'++ow1⟩ (fun k=>if inK os' k then f' k else f k) b->XO X0 ⟨sl,ow⟩ f b:=fun b hbs hx=>by
  rcases hX1 b hx with h2|h2|⟨p,hp,e⟩
  ·exact .inl h2
  ·rcases hb b h2 with h3|h3
   ·exact .inr (hbo b h3)
   ·omega
  ·exact .inr ⟨p,(h1 p hp).1,e⟩
 have hXO:∀b,XO X0 ⟨(t,r)::sl,os'++ow1⟩ (fun k=>if inK os' k then f' k else f k) b->XB (fun b=>XO X0 ⟨sl,ow⟩ f b/\¬blk f os b) f' os' b:=fun b hx=>by
  rcases hX1 b hx with h2|h2|h2
  ·exact .inl ⟨.inl h2,fun hh=>hX0 b h2 (hbo b hh)⟩
  ·exact .inr h2
  ·obtain⟨p,hp,e⟩:=h2;exact .inl ⟨.inr ⟨p,(h1 p hp).1,e⟩,hd1 b ⟨p,hp,e⟩⟩
 refine⟨by simp[Act.put,h.sz],h.df,h.bl.trans hg fun b ⟨p,hp,e⟩=>h.lo p (hos p hp) b e,h.x0,h.xy,fun j hj=>?_,fun p hp b e=>?_,fun v=>?_,fun p hp=>?_,fun b ⟨p,hp,e⟩=>?_,fun p hp q hq hne b e e'=>?_,fun p hp q hq e=>?_⟩
 ·rw[e3 j ?_]
  ·exact h.fx j hj
  ·cases hi:inK os' j with
   |false=>exact .inr rfl
   |true=>
    obtain⟨q,hq,rfl⟩:=wK.1 hi;rcases hnew q hq with h2|h2
    ·exact .inl h2
    ·rw[h2.1]at hj;cases hj
 ·rcases gy.1 hp with hp|hp
  ·simp only[e1 p hp]at e;rcases hb b ⟨p,hp,e⟩with⟨q,hq,e'⟩|h3
   ·exact h.lo q (hos q hq) b e'
   ·exact .inl (by have:=h.bl.size;omega)
  ·simp only[e2 p hp]at e;exact h.lo p (h1 p hp).1 b e
 ·rw[oZ (by rw[h.sz];exact ht)];show SR _ _ _ (look ((t,r)::sl) v) _;simp only[look];split
  ·cases hrd:r with
   |own k=>
    rw[hrd]at hu;obtain⟨q,hq,rfl⟩:=hr k (by rw[hrd];simp[D.is,fJ]);simp only[SR,e1 q hq];exact hu
   |opt k off=>
    rw[hrd]at hu;obtain⟨q,hq,rfl⟩:=hr k (by rw[hrd];simp[D.is,fJ]);simp only[SR,e1 q hq];exact hu
   |_=>rw[hrd]at hu;exact AR.free hu (fun b _ hb=>hXO b hb)
  ·have h2:SR (XO X0 ⟨sl,ow⟩ f) f w (look sl v) (a.tmps.getD v undef):=h.sl v;have h3:∀k,(look sl v).is k=true->(if inK os' k then f' k else f k)=f k:=fun k hk2=>e3 k (by
    cases hi:inK os' k with
    |false=>exact .inr rfl
    |true=>
     obtain⟨q,hq,rfl⟩:=wK.1 hi;rcases hnew q hq with h4|h4
     ·exact .inl h4
     ·rw[h4.2.1 v]at hk2;cases hk2)
   cases hd:look sl v with
   |own k=>
    rw[hd]at h2 h3;simp only[SR]at h2⊢;rw[h3 k (by simp[D.is,fJ])];exact h2
   |opt k off=>
    rw[hd]at h2 h3;simp only[SR]at h2⊢;rw[h3 k (by simp[D.is,fJ])];exact h2
   |_=>rw[hd]at h2;exact AR.agr hag hXw _ _ h2
 ·rcases gy.1 hp with hp|hp
  ·obtain⟨k0,zs,k1,k2⟩:=hO.ow p hp;refine⟨k0,zs,by simp only[e1 p hp];exact k1,?_⟩;exact(EE.agr (Agr.refl _ w') (fun b _ hb=>hXO b hb) (fun _ _=>rfl) k2).re fun hh j _ hj=>by
    obtain⟨q,hq,rfl⟩:=hm' p hp hh j hj;exact e1 q hq
  ·obtain⟨k0,zs,k1,k2⟩:=h.ow p (h1 p hp).1;refine⟨k0,zs,?_,?_⟩
   ·simp only[e2 p hp]
    cases hv:(f p.1).ownBlock with
    |none=>exact FA k1 hv
    |some g=>exact Fz k1 hv (hg.block g (hlt p (h1 p hp).1 g hv) (hd1 g ⟨p,hp,hv⟩))
   ·refine(EE.agr hag hXw (fun _ _=>rfl) k2).re fun hh j hrw hj=>e3 j ?_
    cases hi:inK os' j with
    |false=>exact .inr rfl
    |true=>
     obtain⟨q,hq,rfl⟩:=wK.1 hi;rcases hnew q hq with h4|h4
     ·exact .inl h4
     ·exact absurd hj ((h4.2.2 p hp).2 hh hrw)
 ·rcases gy.1 hp with hp|hp
  ·simp only[e1 p hp]at e;exact hO.nw b ⟨p,hp,e⟩
  ·simp only[e2 p hp]at e;have hpo:=(h1 p hp).1;intro m hm;have:w'.cell? ⟨b,0,none⟩=w.cell? ⟨b,0,none⟩:=World.cell?_of_block (hg.block b (hlt p hpo b e) (hd1 b ⟨p,hp,e⟩));rw[this]at hm;exact h.nw b ⟨p,hpo,e⟩ m hm
 ·have cross : ∀ p ∈ os', ∀ q ∈ ow1, ∀ b, (f' p.1).ownBlock = some b -> (f q.1).ownBlock = some b -> False := fun p hp q hq b e e' => by
   rcases hb b ⟨p,hp,e⟩with h3|h3
   ·exact hd1 b ⟨q,hq,e'⟩ h3
   ·have:=hlt q (h1 q hq).1 b e';omega
  rcases gy.1 hp with hp|hp<;>rcases gy.1 hq with hq|hq
  ·simp only[e1 p hp,e1 q hq]at e e';exact hO.dj p hp q hq hne b e e'
  ·simp only[e1 p hp,e2 q hq]at e e';exact cross p hp q hq b e e'
  ·simp only[e2 p hp,e1 q hq]at e e';exact cross q hq p hp b e' e
  ·simp only[e2 p hp,e2 q hq]at e e';exact h.dj p (h1 p hp).1 q (h1 q hq).1 hne b e e'
 ·have cross : ∀ p ∈ os', ∀ q ∈ ow1, p.1 = q.1 -> False := fun p hp q hq e => by
   rcases hnew p hp with⟨q2,h4,e4⟩|h4
   ·exact(h1 q hq).2 q2 h4 (e4.trans e)
   ·exact(h4.2.2 q hq).1 e.symm
  rcases gy.1 hp with hp|hp<;>rcases gy.1 hq with hq|hq
  ·exact hO.un p hp q hq e
  ·exact(cross p hp q hq e).elim
  ·exact(cross q hq p hp e.symm).elim
  ·exact h.un p (h1 p hp).1 q (h1 q hq).1 e
end
end DW
end
section
open Go.RowKit
namespace DW
section
variable {P : Program} {X0 : Nat->Prop} {n : Nat} {Q : Exit->S->Prop} {s : S} {sl : List (Nat × D)} {ow : List (Nat × Ow)} {o : Oper} {ops : Array Oper} {l : List Oper} {K : S->Prop} {t : Nat} {d : D}
theorem LZ{X:Nat->Prop}{f:Nat->Value}{w:World}(s:S)(a:Act):∀l:List Operand,(∀x∈l,SR X f w (s.op x) (a.eval x))->SRs X f w (l.map s.op) (l.map a.eval)
 |[],_=>rfl
 |x::l,h=>⟨_,_,rfl,h x bn,LZ s a l fun y hy=>h y (bu _ hy)⟩
structure Ha(sl:List (Nat×D))(ow os os' ow1:List (Nat×Ow))(r:D):Prop where
 sub:∀p∈os,p∈ow
 rest:∀p∈ow1,p∈ow/\∀q∈os,q.1≠p.1
 new:∀p∈os',(∃q∈os,q.1=p.1)\/(pin p.1=false/\(∀t,(look sl t).is p.1=false)/\∀q∈ow1,q.1≠p.1/\(hdr q.1=true->mz p.1=true->.own p.1∉q.2.l))
 men:∀p∈os',hdr p.1=true->∀j,.own j∈p.2.l->∃q∈os',q.1=j
 res:∀k,r.is k=true->∃q∈os',q.1=k
theorem OE{g:FuncId}{xs:List Operand}{ts:Array TypeId}{ds:List D}{os os' ow1:List (Nat×Ow)}{r:D}(hdst:o.dst=some t)(ht:Nat.blt t n=true)(ho:o.op= .call {callee:=.value (.func g),args:=xs.toArray,argTypes:=ts})(hd:xs.map (S.op ⟨sl,ow⟩)=ds)(hf:FnG P g ds os r os')(hc:Ha sl ow os os' ow1 r)
  {w0:Bs} {f:Nat->Value} {a:Act} {w:World} (hh:Hd X0 n w0 ⟨sl,ow⟩ f a w) (Qx:Exit->Act->World->Prop):o.wp P a w (fun a' w'=>∃f',Hd X0 n w0 ⟨(t,r)::sl,os'++ow1⟩ f' a' w') Qx:=by
 have hr:(execOp a.eval o).run P w= .ok (.enter g (xs.map a.eval).toArray) w:=by
  unfold execOp;rw[ho];have:=hf.1 (xs.map a.eval).toArray w;simp[resolve,invoke,Deferred.ofValue,Act.eval,this]
 have hXB:XB (fun b=>XO X0 ⟨sl,ow⟩ f b/\¬blk f os b) f os=XO X0 ⟨sl,ow⟩ f:=funext fun b=>propext (by
  constructor
  ·rintro(h|⟨p,hp,e⟩)
   ·exact h.1
   ·exact .inr ⟨p,hc.sub p hp,e⟩
  ·intro h;by_cases hb:blk f os b
   ·exact .inr hb
   ·exact .inl ⟨h,hb⟩)
 have hO:OS (fun b=>XO X0 ⟨sl,ow⟩ f b/\¬blk f os b) f w os:=⟨fun p hp=>by rw[hXB];exact hh.ow p (hc.sub p hp),fun b ⟨p,hp,e⟩=>hh.nw b ⟨p,hc.sub p hp,e⟩,fun p hp q hq=>hh.dj p (hc.sub p hp) q (hc.sub q hq),fun p hp q hq=>hh.un p (hc.sub p hp) q (hc.sub q hq),fun b hb=>hb.2⟩;have hS:SRs (XB (fun b=>XO X0 ⟨sl,ow⟩ f b/\¬blk f os b) f os) f w ds (xs.map a.eval).toArray.toList:=by
  rw[hXB,<-hd];exact LZ ⟨sl,ow⟩ a xs fun x _=>hh.op x
 unfold Oper.wp;rw[hr,Oper.upon_enter];refine(hf.2 _ f w _ (fun b hb=>hh.xlt b hb.1) hO hS).mono fun e w' ⟨u,f',he,h1,h2,h3,h4,h5⟩=>?_;subst he;rw[hdst];exact⟨_,hh.call hc.sub hc.rest hc.new hc.men hc.res yu h1 h2 h3 h4 h5⟩
theorem Js{g:FuncId}{xs:List Operand}{ts:Array TypeId}{ds:List D}{os os':List (Nat×Ow)}{r:D}(ow1:List (Nat×Ow))(hg:o.guard=none)(hdst:o.dst=some t)(ht:Nat.blt t n=true)(ho:o.op= .call {callee:=.value (.func g),args:=xs.toArray,argTypes:=ts})(hd:xs.map (S.op ⟨sl,ow⟩)=ds)(hf:FnG P g ds os r os')(hc:Ha sl ow os os' ow1 r)
  (h:aL P X0 n ops l K ⟨(t,r)::sl,os'++ow1⟩):aL P X0 n ops (o::l) K ⟨sl,ow⟩:=
 kS fun w0 f a w Qx hh=>⟨by simp[Region.wanted,hg],Oper.wp_mono (fun _ _ ⟨f',h1⟩=>⟨_,f',h1,h⟩) (OE hdst ht ho hd hf hc hh Qx)⟩
theorem Hd.re{w0:Bs}{f f':Nat->Value}{a:Act}{w:World}{s':S}(h:Hd X0 n w0 s f a w)(τ:Nat->Nat)
  (h1:∀p∈s'.ow,∃q:Ow,(τ p.1,q)∈s.ow/\f' p.1=f (τ p.1)/\p.2.T=q.T/\p.2.wd=q.wd/\p.2.l.length=q.l.length/\∀X xs,EE X f w (τ p.1) q.wd q.l xs->EE X f' w p.1 q.wd p.2.l xs)
  (h2:∀p∈s'.ow,∀p2∈s'.ow,τ p.1=τ p2.1->p=p2) (h3:∀t X v,SR X f w (s.gt t) v->SR X f' w (s'.gt t) v) (h4:∀j,pin j=true->f' j=f j):Hd X0 n w0 s' f' a w:=by
 have hX:∀b,XO X0 s' f' b->XO X0 s f b:=fun b hb=>by
  rcases hb with hb|⟨p,hp,e⟩
  ·exact .inl hb
  ·obtain⟨q,q1,q2,_⟩:=h1 p hp;exact .inr ⟨_,q1,by rw[<-q2];exact e⟩
 refine⟨h.sz,h.df,h.bl,h.x0,h.xy,fun j hj=>(h4 j hj).trans (h.fx j hj),fun p hp b e=>?_,fun t=>?_,fun p hp=>?_,fun b ⟨p,hp,e⟩=>?_,fun p hp q hq hne b e e'=>?_,fun p hp q hq e=>h2 p hp q hq (by rw[e])⟩
 ·obtain⟨q,q1,q2,_⟩:=h1 p hp;exact h.lo _ q1 b (by rw[<-q2];exact e)
 ·have h5:=h3 t _ _ (h.sl t);cases hd:s'.gt t<;>rw[hd]at h5<;>first|exact AR.free h5 (fun b _ hb=>hX b hb)|exact h5
 ·obtain⟨q,q1,q2,q3,q4,q5,q6⟩:=h1 p hp;obtain⟨k0,zs,k1,k2⟩:=h.ow _ q1;refine⟨by rw[q4];exact k0,zs,by rw[q2,q3,q4,q5];exact k1,?_⟩;rw[q4];exact EE.agr (Agr.refl _ w) (fun b _ hb=>hX b hb) (fun _ _=>rfl) (q6 _ _ k2)
 ·obtain⟨q,q1,q2,_⟩:=h1 p hp;exact h.nw b ⟨_,q1,by rw[<-q2];exact e⟩
 ·obtain⟨q1,r1,r2,_⟩:=h1 p hp;obtain⟨q2,r3,r4,_⟩:=h1 q hq;exact h.dj _ r1 _ r3 (fun hh=>hne (by rw[h2 p hp q hq hh])) b (by rw[<-r2];exact e) (by rw[<-r4];exact e')
theorem ElH.map{X:Nat->Prop}{f f':Nat->Value}{w:World}:∀{l l':List D} {xs:List Value},ElH X f w l xs->l'.length=l.length->(∀(i:Nat) (d d':D),l[i]?=some d->l'[i]?=some d'->d'.wd=1/\∀u,ER X f w d u->ER X f' w d' u)->ElH X f' w l' xs
 |[],[],_,h,_,_=>h
 |[],_::_,_,_,h,_=>by simp at h
 |_::_,[],_,_,h,_=>by simp at h
 |d::_,d'::_,_,⟨u,rest,h1,h2,h3,h4,_,h6,h7⟩,hl,hh=>by
  obtain⟨k1,k2⟩:=hh 0 d d' rfl rfl;exact⟨u,rest,h1,h2,h3,k2 u h4,k1,h6,ElH.map h7 nS fun i e e' he he'=>hh (i+1) e e' uE (by simpa using he')⟩
end
end DW
end
section
open Go.RowKit
namespace DW
section
variable {P : Program} {X0 : Nat->Prop} {n : Nat} {Q : Exit->S->Prop} {s : S} {sl : List (Nat × D)} {ow : List (Nat × Ow)} {o : Oper} {ops : Array Oper} {l : List Oper} {K : S->Prop} {t : Nat} {d : D}
def mvD(a b:Nat):D->D
 | .own j=>match Nat.beq j a with|true=>.own b|false=>.own j
 | .opt j off=>match Nat.beq j a with|true=>.opt b off|false=>.opt j off
 |d=>d
def mvS(a b:Nat):List (Nat×D)->List (Nat×D)
 |[]=>[]
 |(t,d)::l=>(t,mvD a b d)::mvS a b l
theorem yR(a b:Nat):∀(l:List (Nat×D)) (t:Nat),look (mvS a b l) t=mvD a b (look l t)
 |[],_=>rfl
 |(u,d)::l,t=>by
  simp only[mvS,look];split
  ·rfl
  ·exact yR a b l t
def noS(b:Nat)(l:List (Nat×D)):Bool:=l.all fun p=>!p.2.is b
theorem yN{b:Nat}:∀{l:List (Nat×D)},noS b l=true->∀t,(look l t).is b=false
 |[],_,_=>rfl
 |(u,d)::l,h,t=>by
  simp only[noS,qH,eH,vS]at h;simp only[look];split
  ·exact h.1
  ·exact yN (l:=l) h.2 t
theorem Els.elh{X:Nat->Prop}{f:Nat->Value}{w:World}:∀{l:List D} {xs:List Value},Els X w 1 l xs->(∀d∈l,d.agg=false)->ElH X f w l xs
 |[],_,h,_=>h
 |d::l,_,⟨u,rest,h1,h2,h3,h4,h5,h6⟩,ha=>by
  have hs:=AR.shape h3 h2;rw[ha d bn]at hs;obtain⟨k1,k2⟩:=hs;refine⟨u,rest,by rw[h1,k2];rfl,k1,k2,?_,h4,fun m e=>AR.nwd d u h2 h5 m (by rw[k2,e];rfl),Els.elh h6 fun d hd=>ha d (bu _ hd)⟩;cases d<;>first|exact⟨h2,h3⟩|simp[D.fits]at h3
theorem Sh_mv{a b:Nat}{q:Ow}{ow':List (Nat×Ow)}(hq:(a,q)∈ow)(hb:pin b=false)(hh:hdr b=hdr a\/(hdr a=false/\q.wd=1/\∀d∈q.l,d.agg=false))(hf:∀p∈ow,p.1≠b/\(hdr p.1=true->.own b∉p.2.l))(hs:noS b sl=true)
  (ho:∀p∈ow',p=(b,q)\/(p∈ow/\p.1≠a)):Sh X0 n ⟨sl,ow⟩ ⟨mvS a b sl,ow'⟩:=fun w0 f ac w h=>by
 refine⟨fun j=>if j=b then f a else f j,h.re (fun k=>if k=b then a else k) (fun p hp=>?_) (fun p hp p2 hp2 e=>?_) (fun t X v hv=>?_) fun j hj=>aj fun e=>by rw[e,hb]at hj;cases hj⟩
 ·rcases ho p hp with rfl|⟨h1,h2⟩
  ·refine⟨q,by simp only[if_true];exact hq,by simp,rfl,rfl,rfl,fun X xs hx=>?_⟩;simp only[if_true]at hx;have hx2:EE X (fun j=>if j=b then f a else f j) w a q.wd q.l xs:=hx.re fun hh j _ hj=>aj fun e=>(hf _ hq).2 hh (by rw[<-e];exact hj);rcases hh with hh|⟨hh,h3,h4⟩
   ·unfold EE at hx2⊢;rw[hh];exact hx2
   ·have h5:=hx2.pl hh;unfold EE
    cases hdr b with
    |false=>exact h5
    |true=>rw[h3]at h5;exact⟨h3,h5.elh h4⟩
  ·have hkb:=(hf _ h1).1;refine⟨p.2,by simp only[aj hkb];exact h1,by simp only[aj hkb],rfl,rfl,rfl,fun X xs hx=>?_⟩;simp only[aj hkb]at hx;exact hx.re fun hh j _ hj=>aj fun e=>(hf _ h1).2 hh (by rw[<-e];exact hj)
 ·rcases ho p hp with rfl|⟨h1,h2⟩<;>rcases ho p2 hp2 with rfl|⟨h3,h4⟩
  ·rfl
  ·rw[an rfl,aj (hf _ h3).1]at e;exact absurd e.symm h4
  ·rw[an rfl,aj (hf _ h1).1]at e;exact absurd e h2
  ·rw[aj (hf _ h1).1,aj (hf _ h3).1]at e;exact h.un p h1 p2 h3 e
 ·show SR X _ w (look (mvS a b sl) t) v;rw[yR];have hv':SR X f w (look sl t) v:=hv;have h2:=yN hs t
  cases hd:look sl t with
  |own j=>
   rw[hd]at hv' h2;simp only[SR]at hv';simp only[mvD]
   cases hja:Nat.beq j a with
   |true=>simp only[SR,if_true];rw[<-ed hja];exact hv'
   |false=>simp only[SR];rw[aj fun e=>by rw[e]at h2;simp[D.is,fJ]at h2];exact hv'
  |opt j off=>
   rw[hd]at hv' h2;simp only[SR]at hv';simp only[mvD]
   cases hja:Nat.beq j a with
   |true=>simp only[SR,if_true];rw[<-ed hja];exact hv'
   |false=>simp only[SR];rw[aj fun e=>by rw[e]at h2;simp[D.is,fJ]at h2];exact hv'
  |_=>rw[hd]at hv';exact hv'
end
end DW
end
section
open Go.RowKit
namespace DW
theorem Ww(X:Nat->Prop)(f:Nat->Value):XB X f []=X:=funext fun b=>propext ⟨fun h=>h.elim id fun ⟨_,hp,_⟩=>(by cases hp),.inl⟩
theorem zr.mv{P:Program}{g:FuncId}{ds:List D}{a:Nat}{q:Ow}(h:zr P g ds [] (.own a) [(a,q)])(ha:hdr a=false){b:Nat}(hb:hdr b=false):zr P g ds [] (.own b) [(b,q)]:=fun X f w vs hX hO hv=>by
 refine(h X f w vs hX hO hv).mono fun e w' ⟨u,f',he,h1,h2,h3,h4,h5⟩=>?_;have hx:XB X (fun _=>f' a) [(b,q)]=XB X f' [(a,q)]:=funext fun x=>propext (by
  unfold XB blk;constructor
  ·rintro(h|⟨p,hp,e⟩)
   ·exact .inl h
   ·exact .inr ⟨_,bL.2 rfl,e⟩
  ·rintro(h|⟨p,hp,e⟩)
   ·exact .inl h
   ·rw[bL.1 hp]at e;exact .inr ⟨_,bL.2 rfl,e⟩)
 have hk:∀x,blk (fun _=>f' a) [(b,q)] x->blk f' [(a,q)] x:=fun x ⟨p,hp,e⟩=>⟨_,bL.2 rfl,e⟩;refine⟨u,fun _=>f' a,he,h1,⟨fun p hp=>?_,fun x hx=>h2.nw x (hk x hx),fun p hp q' hq hne=>?_,fun p hp q' hq _=>?_,fun x hx hb'=>h2.xd x hx (hk x hb')⟩,fun x hx=>h3 x (hk x hx),fun p hp=>(by cases hp),?_⟩
 ·rw[bL.1 hp,hx];obtain⟨k0,xs,k1,k2⟩:=h2.ow _ (bL.2 rfl);exact⟨k0,xs,k1,EE.of (k2.pl ha) hb⟩
 ·rw[bL.1 hp,bL.1 hq]at hne;exact absurd rfl hne
 ·rw[bL.1 hp,bL.1 hq]
 ·simp only[SR]at h5⊢;exact h5
section
variable {P : Program} {X0 : Nat->Prop} {n : Nat} {Q : Exit->S->Prop} {s : S} {sl : List (Nat × D)} {ow : List (Nat × Ow)} {o : Oper} {ops : Array Oper} {l : List Oper} {K : S->Prop} {t : Nat} {d : D}
theorem PC{k:Nat}(h:Nat.blt k 1000000=true):mz k=false:=by
 cases hb:mz k with
 |false=>rfl
 |true=>exact absurd rfl (qu h hb)
theorem PD{k:Nat}(h:Nat.blt k 1000000=true):pin k=false:=by
 cases hb:pin k with
 |false=>rfl
 |true=>exact absurd rfl (qv h hb)
theorem Bi{k:Nat}{q:Ow}(hk:Nat.blt k 1000000=true)(hs:noS k sl=true)(hf:ow.all (fun p=>!Nat.beq p.1 k)=true):Ha sl ow [] [(k,q)] ow (.own k):=
 ⟨fun _ hp=>(by cases hp),fun p hp=>⟨hp,fun _ hq=>(by cases hq)⟩,fun p hp=>(by
  rw[bL.1 hp];exact .inr ⟨PD hk,yN hs,fun q hq=>⟨lK hf q hq,fun _ h=>(by rw[PC hk]at h;cases h)⟩⟩),fun p hp hh=>(by
  rw[bL.1 hp,nA hk]at hh;cases hh),fun j hj=>⟨_,bL.2 rfl,by simpa[D.is]using hj⟩⟩
theorem Oq{g:FuncId}{x:Operand}{ts:Array TypeId}{d1:D}{k:Nat}{q:Ow}(hg:o.guard=none)(hdst:o.dst=some t)(ht:Nat.blt t n=true)(ho:o.op= .call {callee:=.value (.func g),args:=#[x],argTypes:=ts})(hx:S.op ⟨sl,ow⟩ x=d1)(hf:FnG P g [d1] [] (.own k) [(k,q)])(hk:Nat.blt k 1000000=true)(hs:noS k sl=true)(hfr:ow.all (fun p=>!Nat.beq p.1 k)=true)
  (h:aL P X0 n ops l K ⟨(t,.own k)::sl,(k,q)::ow⟩):aL P X0 n ops (o::l) K ⟨sl,ow⟩:=
 Js (xs:=[x]) (os:=[]) (os':=[(k,q)]) ow hg hdst ht ho (by rw[<-hx];rfl) hf (Bi hk hs hfr) h
theorem Wu{g:FuncId}{x y:Operand}{ts:Array TypeId}{d1 d2:D}{k:Nat}{q:Ow}(hg:o.guard=none)(hdst:o.dst=some t)(ht:Nat.blt t n=true)(ho:o.op= .call {callee:=.value (.func g),args:=#[x,y],argTypes:=ts})(hx:S.op ⟨sl,ow⟩ x=d1)(hy:S.op ⟨sl,ow⟩ y=d2)(hf:FnG P g [d1,d2] [] (.own k) [(k,q)])(hk:Nat.blt k 1000000=true)(hs:noS k sl=true)(hfr:ow.all (fun p=>!Nat.beq p.1 k)=true)
  (h:aL P X0 n ops l K ⟨(t,.own k)::sl,(k,q)::ow⟩):aL P X0 n ops (o::l) K ⟨sl,ow⟩:=
 Js (xs:=[x,y]) (os:=[]) (os':=[(k,q)]) ow hg hdst ht ho (by rw[<-hx,<-hy];rfl) hf (Bi hk hs hfr) h
end
end DW
end
section
open Go.RowKit
namespace DW
theorem ar_ra{X:Nat->Prop}{w:World}{row:List Int}{v:Value}(h:AR X w (dZ row) v)(h0:row≠[]):∃b o c,v= .slice (some ⟨b,o,none⟩) row.length c/\row.length<=c/\RA w b o row:=by
 simp only[dZ,AR]at h;obtain⟨a,c,rfl,h2,h3⟩:=h;rw[bD]at h2;obtain⟨b,o,rfl,_,h4,h5⟩:=h3.resolve_left (by simpa using h0);refine⟨b,o,c,by rw[bD],h2,h4,fun k z hz=>?_⟩;obtain⟨u,k1,_,_,k4⟩:=ARs.at h5 (i:=k) (d:=.nm z) (by rw[bN,hz];rfl);simp only[AR]at k1;obtain⟨x,rfl,hx⟩:=k1;refine⟨x,?_,?_,hx⟩
 ·have:=k4 0 (.bool x.s) rfl;simpa using this
 ·exact k4 1 (.slice x.a x.n x.cap) rfl
theorem um{X:Nat->Prop}{w:World}{M:Mx.Mat}{v:Value}{n:Nat}(h:AR X w (dW M) v)(hr:Mx.Rc n M)(hn:0<n):MR w v n M:=by
 simp only[dW,AR]at h;obtain⟨a,c,rfl,h2,h3⟩:=h;rw[bD]at h2;refine⟨a,c,by rw[bD],h2,hr,?_⟩;rcases h3 with h3|⟨b,o,rfl,_,h4,h5⟩
 ·exact .inl (by simpa using h3)
 ·refine .inr ⟨b,o,rfl,h4,fun i hi=>?_⟩;have hg:M[i]?=some (Mx.rw M i):=by unfold Mx.rw;rw[aq,aV hi];rfl
  obtain⟨u,k1,_,_,k4⟩:=ARs.at h5 (i:=i) (d:=dZ (Mx.rw M i)) (by rw[bN,hg];rfl);have hl:=hr.rw hi;obtain⟨b',o',c',rfl,k5,k6⟩:=ar_ra k1 (fun e=>by rw[e]at hl;simp at hl;omega);have:=k4 0 _ rfl;rw[hl]at this k5;exact⟨some ⟨b',o',none⟩,c',by simpa using this,k5,AD.some _ _,.inr ⟨b',o',rfl,k6⟩⟩
theorem ro_ar{X:Nat->Prop}{w:World}{row:List Int}{g c B:Nat}(h:RO w g row)(hc:row.length<=c)(hg:B<=g)(hX:∀b,X b->b<B):AR X w (dZ row) (.slice (some ⟨g,0,none⟩) row.length c):=by
 have hra:=h.ra;simp only[dZ,AR];refine⟨_,c,by rw[bD],by rw[bD];exact hc,.inr ⟨g,0,rfl,fun hx=>by have:=hX g hx;omega,hra.lt,ARs.mk fun k d hd=>?_⟩⟩;rw[bN]at hd;obtain⟨z,hz,rfl⟩:=eY.1 hd;obtain⟨x,h1,h2,h3⟩:=hra.c k z hz;refine⟨.agg #[.bool x.s,.slice x.a x.n x.cap],by simp only[AR];exact⟨x,rfl,h3⟩,rfl,rfl,fun j u hj=>?_⟩
 match j,hj with
 |0,hj=>
  have:u= .bool x.s:=by simpa[Value.cells]using hj.symm
  rw[this];exact h1
 |1,hj=>
  have:u= .slice x.a x.n x.cap:=by simpa[Value.cells]using hj.symm
  rw[this];exact h2
 |j+2,hj=>simp[Value.cells]at hj
theorem F3{X:Nat->Prop}{w:World}{B gm n cap:Nat}{gs cs:Nat->Nat}{M:Mx.Mat}(h:MB w B gm M.length gs cs n M)(hc:M.length<=cap)(hX:∀b,X b->b<B):AR X w (dW M) (.slice (some ⟨gm,0,none⟩) M.length cap):=by
 simp only[dW,AR];refine⟨_,cap,by rw[bD],by rw[bD];exact hc,.inr ⟨gm,0,rfl,fun hx=>by have:=hX gm hx;have:=h.b;omega,h.lt,ARs.mk fun i d hd=>?_⟩⟩;rw[bN]at hd;obtain⟨row,hrow,rfl⟩:=eY.1 hd;have hi:=(ct.1 hrow).1;have hl:row.length=n:=h.rc row (bj hrow);obtain⟨b,h1,h2,⟨g0,o0,h3⟩,h4⟩:=h.hc i hi;refine⟨.slice b n (cs i),?_,rfl,rfl,fun j u hj=>?_⟩
 ·by_cases hn:0<n
  ·obtain⟨rfl,h5,_,h7⟩:=h4 hn;rw[Mx.di hrow]at h7;have:=ro_ar (X:=X) h7 (by rw[hl];exact h2) h5 hX;rwa[hl]at this
  ·have h0:row=[]:=gP aa;subst h0;simp only[dZ,jq,AR];exact⟨b,cs i,by simp at hl;rw[<-hl];rfl,aO _,.inl trivial⟩
 ·match j,hj with
  |0,hj=>
   have:u= .slice b n (cs i):=by simpa[Value.cells]using hj.symm
   rw[this];simpa using h1
  |j+1,hj=>simp[Value.cells]at hj
abbrev dF(dim:Int)(M:Mx.Mat)(d:Int):D:=.st [zI dim,dW M,.nm d]
theorem ast1{X:Nat->Prop}{w:World}{d:D}{u:Value}{l:List D}{cs:List Value}(h:AR X w d u)(hf:d.fits=true)(k:ASt X w l cs):ASt X w (d::l) (u.cells.toList++cs):=by
 simp only[ASt];exact⟨u,cs,rfl,h,hf,k⟩
theorem Ix(dim:Int)(M:Mx.Mat)(n e:Nat)(d:Int)(hm:M.length<=1000)(hn0:0<n)(hn:n<=1000)(he:6<=e)(hf:2*(e*11^n)<=6000000000000)(hR:Mx.Rc n M)(hb:Mx.Bd (2^e) M)(fd:Fit d):Fn Tryz.prog 103 [zI dim,dW M,.nm d] (dF dim (nR n M d) (d/nG n M d)):=by
 refine⟨enters_of Tryz.func103 ah rfl,fun X w vs hX hv=>?_⟩;simp only[ATp]at hv;obtain⟨v1,r1,e1,h1,v2,r2,e2,h2,v3,r3,e3,h3,rfl⟩:=hv;simp only[zI,AR]at h1;obtain⟨rfl,_⟩:=h1;have hm2:=um h2 hR hn0;simp only[AR]at h3;obtain⟨K,rfl,hK⟩:=h3;subst e3;subst e2;have:vs= #[.int .i64 dim,v2,.agg #[.bool K.s,.slice K.a K.n K.cap]]:=cM.1 e1;subst this;refine(M6 dim M n e v2 K d hm hn he hf hb fd w hm2 hK).mono fun e w' ⟨⟨gm,gs,cs,cap,y,h5,h6,h7,h8⟩,h9⟩=>⟨_,h5,?_,h9⟩;simp only[dF,AR];refine⟨_,rfl,?_⟩;exact ast1 (u:=.int .i64 dim) (G1 dim) rfl (ast1 (u:=.slice (some ⟨gm,0,none⟩) (nR n M d).length cap) (F3 h7 h6 (fun b hb=>(hX b hb).1)) rfl (ast1 (u:=.agg #[.bool y.s,.slice y.a y.n y.cap]) (by simp only[AR];exact⟨y,rfl,h8⟩) rfl (by simp only[ASt])))
def smM(L:Nat)(M:Mx.Mat):D:=if M.all (fun l=>l.all (inb (L:Int)))=true then .tp [dM M,.sc (.bool true)]else .tp [dM [],.sc (.bool false)]
theorem IL{L:Nat}{M:Mx.Mat}:InL L M↔M.all (fun l=>l.all (inb (L:Int)))=true:=by
 constructor
 ·intro h;refine cW.2 fun l hl=>cW.2 fun z hz=>kP.2 ?_;have:=mN (B:=L) h hl hz;omega
 ·intro h i j;rcases at_mem M i j with h1|⟨r,hr,hz⟩
  ·rw[h1];exact aO _
  ·have:=kP.1 (cW.1 (cW.1 h r hr) _ hz);omega
theorem Pw(M:Mx.Mat)(n L:Nat)(hm:M.length<=1000000)(hn0:0<n)(hn:n<=1000000)(hL:L<=1000000000000000000)(hR:Mx.Rc n M)(hf:∀i j,Fit (Mx.at' M i j)):Fn Tryz.prog 74 [dW M,zI L] (smM L M):=by
 refine⟨enters_of Tryz.func74 ah rfl,fun X w vs hX hv=>?_⟩;simp only[ATp]at hv;obtain⟨v1,r1,e1,h1,v2,r2,e2,h2,rfl⟩:=hv;simp only[zI,AR]at h2;obtain⟨rfl,_⟩:=h2;subst e2;have:vs= #[v1,.int .i64 ((L:Int))]:=cM.1 e1;subst this;refine(KM M n L v1 hm hn hL hf w (um h1 hR hn0)).mono fun e w' h=>?_;obtain⟨h3,h4⟩:=h;unfold smM;by_cases hi:InL L M
 ·rw[an hi]at h3;rw[an (IL.1 hi)];obtain⟨v,rfl,hz⟩:=h3;exact⟨_,rfl,GZ (Td hz (fun b hb=>(hX b hb).1)) zb87,h4⟩
 ·rw[aj hi]at h3;rw[aj (fun h=>hi (IL.2 h))];exact⟨_,h3,GZ Jm zb87,h4⟩
theorem PI(z:Int)(fz:Fit z):Fn Tryz.prog 120 [.nm z] (.tp [zI (smv z),.sc (.bool (decide (I64 z)))]):=by
 refine⟨enters_of Tryz.func120 ah rfl,fun X w vs hX hv=>?_⟩;simp only[ATp,AR]at hv;obtain⟨v,r,e,⟨x,rfl,hx⟩,rfl⟩:=hv;have:vs= #[.agg #[.bool x.s,.slice x.a x.n x.cap]]:=cM.1 e;subst this;exact(wm x z fz w hx.ip).mono fun e w' ⟨h1,h2⟩=>⟨_,h1,GZ (G1 _) zb87,h2⟩
end DW
end
section
open Go.RowKit
namespace DW
def szs:List Value->Nat
 |[]=>0
 |u::l=>u.cells.size+szs l
def fls:List Value->List Value
 |[]=>[]
 |u::l=>u.cells.toList++fls l
def B8(k:Nat):List Value->List (Nat×Value)
 |[]=>[]
 |u::l=>(k,u)::B8 (k+1) l
def uS(off:Nat):List Nat->List (Nat×Nat)
 |[]=>[]
 |s::l=>(off,s)::uS (off+s) l
theorem Gl(place:Nat->Option (Nat×Nat)):∀(us:List Value) (k:Nat) (done:List Value) (cells:Array Value),cells.toList.take done.length=done->cells.size=done.length+szs us->
  (∀i x,(uS done.length (us.map (·.cells.size)))[i]?=some x->place (k+i)=some x)->Instr.fill place cells (B8 k us)=some (done++fls us).toArray
 |[],k,done,cells,h1,h2,_=>by
  simp only[B8,Instr.fill,fls,kB];have:cells.toList.length=done.length:=by simpa[szs]using h2
  rw[cf aa]at h1;rw[<-h1]
 |u::us,k,done,cells,h1,h2,h3=>by
  have h4:place k=some (done.length,u.cells.size):=h3 0 _ rfl;simp only[szs]at h2;simp only[B8,Instr.fill,h4];rw[aj cU];have hf:=CI.Gi u.cells.toList done.length cells cU;rw[h1]at hf;have hd:(done++u.cells.toList).length=done.length+u.cells.size:=by simp
  have ih:=Gl place us (k+1) (done++u.cells.toList) (u.cells.toList.zipIdx.foldl (fun cs (x:Value×Nat)=>cs.setIfInBounds (done.length+x.2) x.1) cells) (by
   rw[hf,zY rfl]) (by
   have hl:=jS List.length hf;simp only[bX,cv,de]at hl;rw[hd];omega) (fun i x hx=>by
   rw[hd]at hx;have:=h3 (i+1) x (by simpa[uS]using hx);rwa[show k+(i+1)=k+1+i by omega]at this)
  rw[<-EH,Array.toList_zipIdx,ih];simp only[fls,fK]
section
variable {P : Program} {s : S} {o : Oper} {d : D}
def EX(P:Program)(T:TypeId):Option (Nat×List (Nat×Nat)):=
 (P.info? T).bind fun it=>it.zero.bind fun z=>match P.underlying T with
  |some (.struct fs)=>(fs.toList.mapM (fun f=>(P.info? f.type).map fun i=>(f.offset,i.size))).map fun pl=>(z.cells.size,pl)
  |_=>none
theorem Of{T:TypeId}{us:List Value}(h:EX P T=some (szs us,uS 0 (us.map (·.cells.size)))):P.built T (B8 0 us)=some (fls us).toArray:=by
 unfold EX at h;obtain⟨it,h1,h⟩:=lp.1 h;obtain⟨z,h2,h⟩:=lp.1 h;unfold Program.built;rw[h1]
 cases hu:P.underlying T with
 |none=>rw[hu]at h;cases h
 |some dd=>
  rw[hu]at h;cases dd<;>simp only[reduceCtorEq]at h
  next fs=>
  obtain⟨pl,h3,h4⟩:=eY.1 h;simp only[aR]at h4;simp only[h2,h3];have:=Gl (pl.toArray[·]?) us 0 [] z.cells aU (by simp[h4.1]) (fun i x hx=>by
   rw[bw];simpa[h4.2]using hx)
  simpa using this
theorem Jj{X:Nat->Prop}{f:Nat->Value}{w:World}:∀{ds:List D} {us:List Value},us.length=ds.length->(∀(i:Nat) (d:D) (u:Value),ds[i]?=some d->us[i]?=some u->SR X f w d u/\d.fits=true)->ASt X w ds (fls us)
 |[],[],_,_=>by simp only[ASt,fls]
 |[],_::_,h,_=>by simp at h
 |_::_,[],h,_=>by simp at h
 |d::ds,u::us,h,hh=>by
  obtain⟨h1,h2⟩:=hh 0 d u rfl rfl;simp only[ASt,fls];refine⟨u,fls us,rfl,?_,h2,Jj uD fun i e v he hv=>hh (i+1) e v uE (by simpa using hv)⟩;cases d<;>first|exact h1|simp[D.fits]at h2
theorem GM{T:TypeId}{xs:List Operand}{ds:List D}{ps:Array (Nat×Operand)}(ho:o.op= .build T ps)(hp:ps.toList.map (·.2)=xs)(hn:∀e:Operand->Value,ps.toList.map (fun p=>(p.1,e p.2))=B8 0 (xs.map e))(hx:xs.map s.op=ds)(hf:∀d∈ds,d.fits=true)
  (hs:EX P T=some (D.wds ds,uS 0 (ds.map D.wd))):bH P o s (.st ds):=fun X f a w base _ _ hh=>by
 have hop:∀x∈xs,x∈o.op.operands:=fun x hx'=>by
  rw[ho];rw[<-hp]at hx';simpa[Op.operands]using hx'
 have hl:(xs.map a.eval).length=ds.length:=by rw[<-hx];simp
 have hi:∀(i:Nat) (d:D) (u:Value),ds[i]?=some d->(xs.map a.eval)[i]?=some u->SR X f w d u/\d.fits=true:=fun i d u hd hu=>by
  rw[bN]at hu;obtain⟨x,h1,rfl⟩:=eY.1 hu;rw[<-hx,bN,h1]at hd;cases hd;exact⟨hh x (hop x (bj h1)),hf _ (by rw[<-hx];exact dY.2 ⟨x,bj h1,rfl⟩)⟩
 have hw':∀(ds:List D) (us:List Value),us.length=ds.length->(∀(i:Nat) (d:D) (u:Value),ds[i]?=some d->us[i]?=some u->SR X f w d u/\d.fits=true)->us.map (·.cells.size)=ds.map D.wd:=fun ds=>by
  induction ds with
  |nil=>intro us h _;rw[gP h];rfl
  |cons d ds ih=>
   intro us h hh
   cases us with
   |nil=>simp at h
   |cons u us=>
    obtain⟨k1,k2⟩:=hh 0 d u rfl rfl;simp only[fA];rw[ih us uD fun i e v he hv=>hh (i+1) e v uE (by simpa using hv),AR.size (X:=X) (w:=w) d u k2 (by cases d<;>first|exact k1|simp[D.fits]at k2)]
 have hw:=hw' ds (xs.map a.eval) hl hi;have hz:∀us:List Value,szs us=(us.map (·.cells.size)).sum:=fun us=>by
  induction us with
  |nil=>rfl
  |cons u us ih=>simp only[szs,fA,List.sum_cons,ih]
 have hz2:∀ds:List D,D.wds ds=(ds.map D.wd).sum:=fun ds=>by
  induction ds with
  |nil=>rfl
  |cons u us ih=>simp only[D.wds,fA,List.sum_cons,ih]
 have hb:=Of (P:=P) (T:=T) (us:=xs.map a.eval) (by rw[hz,hw,<-hz2];exact hs);refine eA (u:=.agg (fls (xs.map a.eval)).toArray) ?_ (by
  simp only[SR,AR];exact⟨_,rfl,by simpa using Jj hl hi⟩)
 unfold execOp;rw[ho];have:=run_build (P:=P) w T (ps.map fun p=>(p.1,a.eval p.2)) _ (by
  have:=hn a.eval;simp only[Array.toList_map];rw[this];exact hb)
 simp only[Sem.run_bind,this];rfl
theorem Qf{T:TypeId}{x y:Operand}{d1 d2:D}{w1 w2:Nat}(ho:o.op= .build T #[(0,x),(1,y)])(hx:s.op x=d1)(hy:s.op y=d2)(h1:(d1.fits,d1.wd)=(true,w1))(h2:(d2.fits,d2.wd)=(true,w2))(hs:EX P T=some (w1+(w2+0),[(0,w1),(0+w1,w2)])):bH P o s (.st [d1,d2]):=by
 simp only[aR]at h1 h2;refine GM (xs:=[x,y]) ho rfl (fun _=>rfl) (by rw[<-hx,<-hy];rfl) (fun d hd=>?_) ?_
 ·rcases bC.1 hd with e|hd
  ·rw[e];exact h1.1
  ·rw[bL.1 hd];exact h2.1
 ·simp only[D.wds,fA,jq,uS,h1.2,h2.2];exact hs
theorem Qe{T:TypeId}{x y z:Operand}{d1 d2 d3:D}{w1 w2 w3:Nat}(ho:o.op= .build T #[(0,x),(1,y),(2,z)])(hx:s.op x=d1)(hy:s.op y=d2)(hz:s.op z=d3)(h1:(d1.fits,d1.wd)=(true,w1))(h2:(d2.fits,d2.wd)=(true,w2))(h3:(d3.fits,d3.wd)=(true,w3))(hs:EX P T=some (w1+(w2+(w3+0)),[(0,w1),(0+w1,w2),(0+w1+w2,w3)])):bH P o s (.st [d1,d2,d3]):=by
 simp only[aR]at h1 h2 h3;refine GM (xs:=[x,y,z]) ho rfl (fun _=>rfl) (by rw[<-hx,<-hy,<-hz];rfl) (fun d hd=>?_) ?_
 ·rcases bC.1 hd with e|hd
  ·rw[e];exact h1.1
  ·rcases bC.1 hd with e|hd
   ·rw[e];exact h2.1
   ·rw[bL.1 hd];exact h3.1
 ·simp only[D.wds,fA,jq,uS,h1.2,h2.2,h3.2];exact hs
end
end DW
end
section
open Go.RowKit
namespace DW
abbrev dL(dim:Int)(m:Mx.Mat)(den:Int):D:=.st [zI dim,dM m,zI den]
theorem Ok{X:Nat->Prop}{w:World}{a b:D}{v:Value}(h:AR X w (.st [a,.sc (.slice none 0 0),b]) v):AR X w (.st [a,dM [],b]) v:=by
 simp only[AR,ASt]at h⊢;obtain⟨cs,e,u,r,h1,h2,h3,u2,r2,h4,h5,h6,h7⟩:=h;refine⟨cs,e,u,r,h1,h2,h3,u2,r2,h4,?_,rfl,h7⟩;rw[h5.1];exact⟨none,0,rfl,af _,.inl rfl⟩
theorem nt{X:Nat->Prop}{w:World}{a b:D}{v:Value}(h:AR X w (.pt (.st [a,.sc (.slice none 0 0),b])) v):AR X w (.pt (.st [a,dM [],b])) v:=by
 simp only[AR]at h⊢;obtain⟨bl,o,u,h1,h2,h3,h4,h5⟩:=h;refine⟨bl,o,u,h1,h2,h3,?_,h5⟩;have:=Ok (X:=X) (w:=w) (a:=a) (b:=b) (v:=u) (by simp only[AR];exact h4);simpa only[AR]using this
set_option maxRecDepth 20000
set_option maxHeartbeats 2000000
theorem wof_d(m:List (List Int))(n:Nat)(hm:m.length<=1000000)(hn:n<=1000000)(hr:Mx.Rc n m)(hb:∀l∈m,∀z∈l,I64 z):Fn Tryz.prog 72 [dM m] (dW m):=by
 refine⟨enters_of Tryz.func72 ah rfl,fun X w vs hX hv=>?_⟩;simp only[ATp]at hv;obtain⟨v,rest,e,h1,rfl⟩:=hv;have:vs= #[v]:=cM.1 e;subst this;exact(Th m n v hm hn hr hb w (Oi h1)).mono fun e w' ⟨⟨gm,gs,cs,cap,h5,h6,h7⟩,h9⟩=>⟨_,h5,F3 h7 h6 (fun b hb=>(hX b hb).1),h9⟩
theorem KZ(z:Int)(hz:I64 z):Fn Tryz.prog 124 [zI z] (.nm z):=by
 refine⟨enters_of Tryz.func124 ah rfl,fun X w vs hX hv=>?_⟩;simp only[ATp,zI,AR]at hv;obtain⟨v,rest,e,⟨rfl,_⟩,rfl⟩:=hv;have:vs= #[.int .i64 z]:=cM.1 e;subst this;exact(si z hz w).mono fun e w' ⟨⟨y,h1,h2⟩,h3⟩=>⟨_,h1,by simp only[AR];exact⟨y,rfl,h2⟩,h3⟩
theorem Vx(dim den:Int)(m:Mx.Mat)(n:Nat)(hd:I64 den)(hm:m.length<=1000)(hn0:0<n)(hn:n<=10)(hr:Mx.Rc n m)(hb:Mx.Bd (2^50) m)(hi:∀l∈m,∀z∈l,I64 z):Fn Tryz.prog 87 [dL dim m den] (dF dim (nR n m den) (den/nG n m den)):=by
 have OF:=wof_d m n aa aa hr hi;have OD:=KZ den hd;have NT:=Ix dim m n 50 den hm hn0 aa aa (e50 hn) hr hb (bK (e:=64) (by unfold I64 at hd;omega) aa);refine bg Tryz.func87 ah rfl rfl rfl fun X0=>?_;simp only[aP];refine zs2 ?_;refine iy ?_;(refine dT (k:=2) (z:=(.agg #[.int .i64 0,.slice none 0 0,.bool false,.slice none 0 0])) (d:=(.st [.sc (.int .i64 0),.sc (.slice none 0 0),.sc (.bool false),.sc (.slice none 0 0)])) rfl rfl rfl rfl rfl ah ai ai cX ai ai cj ?_);refine eX ?_;refine rM ?_;refine zE ?_;refine dH ?_;refine zD ?_;refine dH ?_;refine rL ?_;refine uA ?_;refine dH ?_;refine rL ?_;refine Du ?_;refine jP ?_;refine lU ?_;refine zs2 ?_;exact⟨_,az (k:=2) aX bq bp,.one (.cell 2 121) _ rfl (.cell 2 _ _ rfl rfl ah ah)⟩
def hnd(dim:Int)(M:Mx.Mat)(d:Int):D:=if M.all (fun l=>l.all (inb 1000000000000000))=true/\inb 1000000000000000 d=true then .tp [dL dim M d,zI 0]else .tp [dL 0 [] 0,zI 8]
theorem PT(dim:Int)(M:Mx.Mat)(n:Nat)(d:Int)(hm:M.length<=1000000)(hn0:0<n)(hn:n<=1000000)(hR:Mx.Rc n M)(hf:∀i j,Fit (Mx.at' M i j))(fd:Fit d)(hd0:0<=d):Fn Tryz.prog 88 [dF dim M d] (hnd dim M d):=by
 have SM:=Pw M n 1000000000000000 hm hn0 hn aa hR hf;have SD:=PI d fd;have hib:inb 1000000000000000 d=decide (d<=1000000000000000):=by
  by_cases h:d<=1000000000000000
  ·rw[aD h];exact kP.2 ⟨by omega,h⟩
  ·rw[aG h]
   cases hb:inb 1000000000000000 d with
   |false=>rfl
   |true=>exact absurd (kP.1 hb).2 h
 unfold smM at SM;by_cases h1:M.all (fun l=>l.all (inb ((1000000000000000:Nat):Int)))=true
 ·rw[an h1]at SM;by_cases h2:I64 d
  ·rw[wQ h2,wk h2]at SD;by_cases h3:d<=1000000000000000
   ·have EC:hnd dim M d= .tp [dL dim M d,zI 0]:=an ⟨h1,by rw[hib];exact aD h3⟩;have hd3:decide (d>1000000000000000)=false:=aG aa;refine bg Tryz.func88 ah rfl rfl rfl fun X0=>?_;simp only[aP];refine Dh ?_;refine bR ?_;refine nO ?_;refine zs4 ?_;refine zs4 ?_;refine RN ?_;refine iE ?_;refine jw ?_;refine eX ?_;rw[EC];exact⟨_,az (k:=2) aX bq bp,.two (.cell 2 48) (.tmp 3) _ _ rfl (.cell 2 _ _ rfl rfl ah ah) (.tmp 3 rfl)⟩
   ·have EC:hnd dim M d= .tp [dL 0 [] 0,zI 8]:=aj (fun h=>by rw[hib]at h;exact h3 (vP h.2));have hd3:decide (d>1000000000000000)=true:=aD aa;refine bg Tryz.func88 ah rfl rfl rfl fun X0=>?_;simp only[aP];refine Dh ?_;refine bA ?_;refine zy ?_;refine zs2 ?_;rw[EC];exact⟨_,Sh.trans (az (k:=2) aX bq bp) (sJ (t:=2) (d:=.pt (.st [_,.sc (.slice none 0 0),_])) (d':=.pt (.st [_,dM [],_])) ai rfl rfl fun X w v h=>nt h),.two (.cell 2 48) (.tmp 3) _ _ rfl (.cell 2 _ _ rfl rfl ah ah) (.tmp 3 rfl)⟩
  ·rw[ui h2]at SD;have EC:hnd dim M d= .tp [dL 0 [] 0,zI 8]:=aj (fun h=>by rw[hib]at h;have:=vP h.2;unfold I64 at h2;omega);refine bg Tryz.func88 ah rfl rfl rfl fun X0=>?_;simp only[aP];refine Dh ?_;refine bA ?_;refine zy ?_;refine zs2 ?_;rw[EC];exact⟨_,Sh.trans (az (k:=2) aX bq bp) (sJ (t:=2) (d:=.pt (.st [_,.sc (.slice none 0 0),_])) (d':=.pt (.st [_,dM [],_])) ai rfl rfl fun X w v h=>nt h),.two (.cell 2 48) (.tmp 3) _ _ rfl (.cell 2 _ _ rfl rfl ah ah) (.tmp 3 rfl)⟩
 ·rw[aj h1]at SM;have EC:hnd dim M d= .tp [dL 0 [] 0,zI 8]:=aj (fun h=>h1 h.1);refine bg Tryz.func88 ah rfl rfl rfl fun X0=>?_;simp only[aP];refine Dh ?_;refine bA ?_;refine zy ?_;refine zs2 ?_;rw[EC];exact⟨_,Sh.trans (az (k:=2) aX bq bp) (sJ (t:=2) (d:=.pt (.st [_,.sc (.slice none 0 0),_])) (d':=.pt (.st [_,dM [],_])) ai rfl rfl fun X w v h=>nt h),.two (.cell 2 48) (.tmp 3) _ _ rfl (.cell 2 _ _ rfl rfl ah ah) (.tmp 3 rfl)⟩
end DW
end
section
open Go.ChangeShapes Go.WideShapes Go.ChangeAt Go.RowKit Go.Joins Go.Deep
theorem DW.ar_dL{X:Nat->Prop}{w:World}{dim den:Int}{m:Mx.Mat}{u:Value}(h:DW.AR X w (DW.dM m) u):DW.AR X w (DW.dL dim m den) (.agg #[.int .i64 dim,u,.int .i64 den]):=by
 simp only[DW.dM,DW.AR]at h;simp only[DW.dL,DW.AR,DW.ASt];have h2:=h;obtain⟨a,c,rfl,_⟩:=h2;exact⟨_,rfl,.int .i64 dim,_,rfl,⟨rfl,rfl⟩,rfl,_,_,rfl,h,rfl,.int .i64 den,[],rfl,⟨rfl,rfl⟩,rfl,rfl⟩
set_option maxRecDepth 100000 in
theorem FE{H:Type}{enc:TypeId×Value->H}{w:World}{base b0:Nat}{spare:Nat->Bool}{held:Bool}{r:Reach}{v:Value}{d:DataW H}{p:List MemPlace}
  (hv:Value.okWide Tryz.prog w r b0 48 v) (h:DataW.Trod enc Tryz.prog w base spare held 48 v d p):∃(dim den:Int) (m:List (List Int)),I64 dim/\I64 den/\DW.AR (fun _=>False) w (DW.dL dim m den) v:=by
 obtain⟨v0,v1,v2,y0,y1,y2,n,rfl,_,_,g0,g1,g2⟩:=open_agg3 Tryz.underlying48 ah ah hv h;obtain⟨a0,e0,_,w0⟩:=DataW.trod_int Tryz.underlying3 g0;obtain⟨a2,e2,_,w2⟩:=DataW.trod_int Tryz.underlying3 g2;simp at e0 e2;subst e0 e2;obtain⟨m,hm⟩:=VK g1;exact⟨a0,a2,m,bounds_i64 w0,bounds_i64 w2,DW.ar_dL hm⟩
end
section
open Go.RowKit
namespace DW
section
variable {P : Program} {X0 : Nat->Prop} {n : Nat} {Q : Exit->S->Prop} {s : S} {sl : List (Nat × D)} {ow : List (Nat × Ow)} {o : Oper} {ops : Array Oper} {l : List Oper} {K : S->Prop} {t : Nat} {d : D}
theorem Fa{X:Nat->Prop}{f:Nat->Value}{w:World}:SR X f w (.tp []) undef:=by
 simp only[SR,AR,ATp];exact⟨#[],rfl,rfl⟩
theorem OL{X:Nat->Prop}{f:Nat->Value}{w:World}{v:Value}(h:SR X f w (.tp []) v):v=undef:=by
 simp only[SR,AR,ATp]at h;obtain⟨vs,rfl,h⟩:=h;have:vs= #[]:=cM.1 h;rw[this];rfl
theorem Kt{a:Act}{j u:Nat}{c:Bool}(hg:o.guard=some (j,c))(hj:(ops[j]?).bind (·.dst)=some u)(h:a.tmps.getD u undef=undef):Region.wanted o (yielded ops a.tmps)=false:=by
 unfold Region.wanted;rw[hg];simp only;unfold yielded;rw[hj];simp only[tv];rw[cS]at h
 cases h6:a.tmps[u]? with
 |none=>rfl
 |some v=>
  rw[h6]at h;simp only[mE]at h;subst h;rfl
theorem aLs0{j u:Nat}{c:Bool}(hg:o.guard=some (j,c))(hdst:o.dst=some t)(ht:Nat.blt t n=true)(hj:(ops[j]?).bind (·.dst)=some u)(hc:look sl u= .sc (.bool (!c)))(h:aL P X0 n ops l K ⟨(t,.tp [])::sl,ow⟩):aL P X0 n ops (o::l) K ⟨sl,ow⟩:=fun w0 f a w Q hd hq=>by
 have ht':dh n o=true:=by unfold dh;rw[hdst];simpa[bB]using ht
 have h':aL P X0 n ops l K ((⟨sl,ow⟩:S).put o.dst (.tp [])):=by rw[hdst];exact h
 have hi:HI (XO X0 ⟨sl,ow⟩ f) n w f Own3.Fs.none [] ⟨sl,ow⟩ a:=⟨hd.sz,hd.df,fun t _=>hd.sl t,fun t u e=>by simp[ic]at e⟩;have hw:=hi.want (ops:=ops) (o:=o) (b:=false) (by simp only[eM,hg];exact⟨u,!c,hj,rfl,hc,by cases c<;>rfl⟩);refine wpList_step fun K' hK=>?_;rw[aj (by rw[hw];simp)];exact hK _ _ (h' w0 f _ w Q (hd.put Fa (ja ht')) hq)
theorem Lo{j u:Nat}{c:Bool}(hg:o.guard=some (j,c))(hdst:o.dst=some t)(ht:Nat.blt t n=true)(hj:(ops[j]?).bind (·.dst)=some u)(hc:look sl u= .tp [])(h:aL P X0 n ops l K ⟨(t,.tp [])::sl,ow⟩):aL P X0 n ops (o::l) K ⟨sl,ow⟩:=fun w0 f a w Q hd hq=>by
 have ht':dh n o=true:=by unfold dh;rw[hdst];simpa[bB]using ht
 have h':aL P X0 n ops l K ((⟨sl,ow⟩:S).put o.dst (.tp [])):=by rw[hdst];exact h
 have h1:=hd.sl u;rw[show(⟨sl,ow⟩:S).gt u= .tp []from hc]at h1;have hw:=Kt (ops:=ops) hg hj (OL h1);refine wpList_step fun K' hK=>?_;rw[aj (by rw[hw];simp)];exact hK _ _ (h' w0 f _ w Q (hd.put Fa (ja ht')) hq)
end
end DW
end
end Go.Proofs.YtcgjmdpcplhanaaGreat
