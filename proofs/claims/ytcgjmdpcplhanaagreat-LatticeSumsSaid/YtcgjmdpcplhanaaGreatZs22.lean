/- Lemmas for the law: E82 E83 -/
import Derived.Test.YtcgjmdpcplhanaaGreatZs21
namespace Go.Proofs.YtcgjmdpcplhanaaGreat
section
theorem xg{p q:Prop}(h:q)(f:Wq q->p:=by(intro hW;(refine cE ?_;refine zs22 ?_;refine ff ?_;refine zs5 ?_;refine pQ ?_;refine gO ?_;refine J5 ?_;refine nP ?_;refine aQ ?_);exact hW.out)):p:=f ⟨h⟩
theorem Kh{p:Prop}(h:p:=by(apply Qf;(exact rfl);(focus((apply aE;(conv=>lhs;whnf);(first|done|exact rfl))));(focus((apply aE;(conv=>lhs;whnf);(first|done|exact rfl))));(exact rfl);(exact rfl);(kernel_rfl))):p:=h
theorem zb64{p:Prop}(h:p:=by(apply UI;(exact rfl);(assumption);(exact rfl))):p:=h
theorem zs171{p q:Prop}(h:q)(f:Wq q->p:=by(intro hW;(refine aL1 rfl rfl rfl zb64 ?_);exact hW.out)):p:=f ⟨h⟩
theorem JE{p q:Prop}(h:q)(f:Wq q->p:=by(intro hW;(refine gar ?_;refine zs171 ?_;refine cT ?_);exact hW.out)):p:=f ⟨h⟩
theorem zs172{p q:Prop}(h:q)(f:Wq q->p:=by(intro hW;((refine dT (k:=5) (z:=(.agg #[.int .i64 0,.slice none 0 0,.int .i64 0])) (d:=(.st [.sc (.int .i64 0),.sc (.slice none 0 0),.sc (.int .i64 0)])) rfl rfl rfl rfl rfl ah ai ai cX ai ai cj ?_));exact hW.out)):p:=f ⟨h⟩
theorem QD{p q:Prop}(h:q)(f:Wq q->p:=by(intro hW;(refine pY ?_;refine zs172 ?_;refine iE ?_;refine cT ?_);exact hW.out)):p:=f ⟨h⟩
theorem Rt{p q:Prop}(h:q)(f:Wq q->p:=by(intro hW;((first|(refine aLs rfl rfl rfl rfl ?_ ?_;(focus(apply bz;(conv=>lhs;whnf);(first|done|exact rfl|(apply br;(first|(apply aD;omega)|(apply aG;omega)|assumption|(simp;done)))))))|refine aLw rfl rfl rfl rfl cI zb32 ?_));exact hW.out)):p:=f ⟨h⟩
theorem QA{p q:Prop}(h:q)(f:Wq q->p:=by(intro hW;(refine pY ?_;refine zs6 ?_;refine cT ?_);exact hW.out)):p:=f ⟨h⟩
theorem zs175{p q:Prop}(h:q)(f:Wq q->p:=by(intro hW;((first|(refine aLs rfl rfl rfl rfl ?_ ?_;(focus(apply bz;(conv=>lhs;whnf);(first|done|exact rfl|(apply br;(first|(apply aD;omega)|(apply aG;omega)|assumption|(simp;done)))))))|refine aLw rfl rfl rfl rfl cI Kj ?_));exact hW.out)):p:=f ⟨h⟩
theorem QB{p q:Prop}(h:q)(f:Wq q->p:=by(intro hW;(refine bT ?_;refine Ej ?_;refine gO ?_;refine zs8 ?_;refine zs175 ?_;refine mu ?_;refine zs4 ?_;refine jO ?_;refine jO ?_;refine zB ?_;refine Jw ?_;refine mu ?_;refine zs4 ?_;refine jO ?_;refine jO ?_;refine zB ?_;refine rG ?_);exact hW.out)):p:=f ⟨h⟩
theorem Dk{p q:Prop}(h:q)(f:Wq q->p:=by(intro hW;(refine jk ?_;refine nD ?_;refine zs4 ?_;refine jO ?_;refine zs97 ?_;refine rG ?_);exact hW.out)):p:=f ⟨h⟩
theorem zs173{p q:Prop}(h:q)(f:Wq q->p:=by(intro hW;((refine dT (k:=7) (z:=(.agg #[.int .i64 0,.slice none 0 0,.int .i64 0])) (d:=(.st [.sc (.int .i64 0),.sc (.slice none 0 0),.sc (.int .i64 0)])) rfl rfl rfl rfl rfl ah ai ai cX ai ai cj ?_));exact hW.out)):p:=f ⟨h⟩
theorem QC{p q:Prop}(h:q)(f:Wq q->p:=by(intro hW;(refine pY ?_;refine zs173 ?_;refine iE ?_;refine cT ?_);exact hW.out)):p:=f ⟨h⟩
end
section
open Go.RowKit
namespace DW
set_option maxRecDepth 20000
set_option maxHeartbeats 4000000
theorem SY{P:Program}{X0:Nat->Prop}{n id:Nat}{x y:Code}{Q Q':Exit->S->Prop}{s:S}(c:S)(T:∀s,Sh X0 n s c->aW P X0 n y Q s)(h:∀K:S->Prop,(∀s,Sh X0 n s c->K s)->aW P X0 n x (inB id (nx K Q')) s):aW P X0 n x (inB id (nx (aC P X0 n y Q) Q')) s:=h _ fun s hs=>⟨T s hs⟩
theorem KV(n1 e1 n2 e2:Int)(m1 m2:Mx.Mat)(a b:Bool)(h:(a&&b)=false)(L1:Fn Tryz.prog 30 [dL n1 m1 e1] (.sc (.bool a)))(L2:Fn Tryz.prog 30 [dL n2 m2 e2] (.sc (.bool b))):Fn Tryz.prog 13 [dL n1 m1 e1,dL n2 m2 e2] (.sc (.bool true)):=by
 have AW:=Cp;cases a
 ·refine bg Tryz.func13 ah rfl rfl rfl fun X0=>?_;simp only[aP];refine ux ?_;refine Dk ?_;refine bA ?_;refine JE ?_;refine zs2 ?_;exact⟨_,Sh.refl,.one (.tmp 4) _ rfl (.tmp 4 rfl)⟩
 ·obtain rfl:b=false:=by simpa using h
  refine bg Tryz.func13 ah rfl rfl rfl fun X0=>?_;simp only[aP];refine ux ?_;refine Dk ?_;refine bA ?_;refine JE ?_;refine zs2 ?_;exact⟨_,Sh.refl,.one (.tmp 4) _ rfl (.tmp 4 rfl)⟩
theorem Np(n1 e1 n2 e2:Int)(m1 m2:Mx.Mat)(C:Int)(hC:C≠0)(L1:Fn Tryz.prog 30 [dL n1 m1 e1] (.sc (.bool true)))(L2:Fn Tryz.prog 30 [dL n2 m2 e2] (.sc (.bool true)))(SM:Fn Tryz.prog 67 [dL n1 m1 e1,dL n2 m2 e2] (.tp [dL 0 [] 0,zI C]))(MT:Fn Tryz.prog 68 [dL n1 m1 e1,dL n2 m2 e2] (.tp [dL 0 [] 0,zI C]))(TW:Fn Tryz.prog 65 [dL n1 m1 e1,dL n2 m2 e2] (zI C)):Fn Tryz.prog 13 [dL n1 m1 e1,dL n2 m2 e2] (.sc (.bool true)):=by
 have AW:=Cp;have S0:=Mm;refine bg Tryz.func13 ah rfl rfl rfl fun X0=>?_;simp only[aP];refine ux ?_;refine Dk ?_;refine bR ?_;refine QD ?_;refine zs2 ?_;refine av (az (k:=5) aX bq bp) ?_;refine zs2 ?_;refine QC ?_;refine zs2 ?_;refine av (az (k:=7) aX bq bp) ?_;refine zs2 ?_;refine rK ?_;refine rF ?_;refine bT ?_;refine Eg ?_;refine gO ?_;refine zs8 ?_;refine RK ?_;refine nP ?_;refine zs4 ?_;refine jO ?_;refine Rt ?_;refine zB ?_;refine nP ?_;refine zs4 ?_;refine jO ?_;refine Rt ?_;refine zB ?_;refine nP ?_;refine zs4 ?_;(first|(refine aLs rfl rfl rfl rfl ?_ ?_;(focus(apply bz;(conv=>lhs;whnf);(first|done|exact rfl|(apply br;(first|(apply aD;omega)|(apply aG;omega)|assumption|(simp;done)))))))|refine aLw rfl rfl rfl rfl cI zb64 ?_);refine nP ?_;refine cn ?_;exact⟨_,Sh.refl,.one (.tmp 4) _ rfl (.tmp 4 rfl)⟩
theorem Nm(n1 e1 n2 e2:Int)(m1 m2:Mx.Mat)(n3 d3 n4 d4 C D:Int)(R3 R4:Mx.Mat)(hC:C=0\/C=8)(hD:D=0\/D=8)(L1:Fn Tryz.prog 30 [dL n1 m1 e1] (.sc (.bool true)))(L2:Fn Tryz.prog 30 [dL n2 m2 e2] (.sc (.bool true)))(TW:Fn Tryz.prog 65 [dL n1 m1 e1,dL n2 m2 e2] (zI 0))
  (SM:Fn Tryz.prog 67 [dL n1 m1 e1,dL n2 m2 e2] (.tp [dL n3 R3 d3,zI C])) (MT:Fn Tryz.prog 68 [dL n1 m1 e1,dL n2 m2 e2] (.tp [dL n4 R4 d4,zI D])) (RS:Fn Tryz.prog 69 [dL n1 m1 e1,dL n2 m2 e2] (.tp [dL n3 R3 d3,zI C])) (RM:Fn Tryz.prog 70 [dL n1 m1 e1,dL n2 m2 e2] (.tp [dL n4 R4 d4,zI D]))
  (ST:Fn Tryz.prog 67 [dL n2 m2 e2,dL n1 m1 e1] (.tp [dL n3 R3 d3,zI C])) (MS:Fn Tryz.prog 68 [dL n2 m2 e2,dL n1 m1 e1] (.tp [dL n4 R4 d4,zI D])) (S1:Fn Tryz.prog 35 [dL n3 R3 d3,dL n3 R3 d3] (.sc (.bool true))) (S2:Fn Tryz.prog 35 [dL n4 R4 d4,dL n4 R4 d4] (.sc (.bool true)))
  (CI:C=0->∀l∈m1,Fn Tryz.prog 50 [dL n3 R3 d3,dV l e1] (.tp [.sc (.bool true),zI 0])) (CA:D=0->∀l∈R4,Fn Tryz.prog 50 [dL n1 m1 e1,dV l d4] (.tp [.sc (.bool true),zI 0])) (CB:D=0->∀l∈R4,Fn Tryz.prog 50 [dL n2 m2 e2,dV l d4] (.tp [.sc (.bool true),zI 0])) (hl1:m1.length<=1000000) (hl4:R4.length<=1000000):
  Fn Tryz.prog 13 [dL n1 m1 e1,dL n2 m2 e2] (.sc (.bool true)):=by
 have AW:=Cp;refine bg Tryz.func13 ah rfl rfl rfl fun X0=>?_;simp only[aP];refine ux ?_;refine Dk ?_;refine bR ?_;refine QD ?_;refine zs2 ?_;refine av (az (k:=5) aX bq bp) ?_;refine zs2 ?_;refine QC ?_;refine zs2 ?_;refine av (az (k:=7) aX bq bp) ?_;refine zs2 ?_;refine rK ?_;refine jN ?_;refine pY ?_;(refine dT (k:=10) (z:=(.agg #[.int .i64 0,.slice none 0 0,.int .i64 0])) (d:=(.st [.sc (.int .i64 0),.sc (.slice none 0 0),.sc (.int .i64 0)])) rfl rfl rfl rfl rfl ah ai ai cX ai ai cj ?_);refine iE ?_;refine cn ?_;refine av (az (k:=10) aX bq bp) ?_;refine zs2 ?_;refine pY ?_;(refine dT (k:=12) (z:=(.agg #[.int .i64 0,.slice none 0 0,.int .i64 0])) (d:=(.st [.sc (.int .i64 0),.sc (.slice none 0 0),.sc (.int .i64 0)])) rfl rfl rfl rfl rfl ah ai ai cX ai ai cj ?_);refine iE ?_;refine cn ?_;refine av (az (k:=12) aX bq bp) ?_;refine zs2 ?_;refine QB ?_;refine bR ?_;refine pY ?_;(refine dT (k:=14) (z:=(.agg #[.int .i64 0,.slice none 0 0,.int .i64 0])) (d:=(.st [.sc (.int .i64 0),.sc (.slice none 0 0),.sc (.int .i64 0)])) rfl rfl rfl rfl rfl ah ai ai cX ai ai cj ?_);refine iE ?_;refine cn ?_;refine av (az (k:=14) aX bq bp) ?_;refine zs2 ?_;refine pY ?_;(refine dT (k:=16) (z:=(.agg #[.int .i64 0,.slice none 0 0,.int .i64 0])) (d:=(.st [.sc (.int .i64 0),.sc (.slice none 0 0),.sc (.int .i64 0)])) rfl rfl rfl rfl rfl ah ai ai cX ai ai cj ?_);refine iE ?_;refine cn ?_;refine av (az (k:=16) aX bq bp) ?_;refine zs2 ?_;refine QB ?_;refine nL ?_;refine SY ⟨[(2,.pt (dL n1 m1 e1)),(3,.pt (dL n2 m2 e2)),(7,.pt (dL n4 R4 d4)),(13,zI D)],[]⟩ (fun s hs=>?_) fun K hK=>?_
 ·clear L1 L2 TW SM MT RS RM ST MS S1 S2 CI;refine av hs ?_;refine iA ?_;refine SY ⟨[],[]⟩ (fun s hs=>?_) fun K hK=>?_
  ·clear CA CB;refine av hs ?_;refine zs2 ?_;refine JE ?_;refine zs2 ?_;exact⟨_,Sh.refl,.one (.tmp 4) _ rfl (.tmp 4 rfl)⟩
  ·clear AW
   (refine av (ay (sl':=[(2,.pt (dL n1 m1 e1)),(3,.pt (dL n2 m2 e2)),(7,.pt (dL n4 R4 d4)),(13,zI D),(21,zI 0)]) (ow':=[]) aF aH) ?_)
   refine bh (fun r s=>∃i,i<=R4.length/\r=R4.length-i/\s=⟨[(2,.pt (dL n1 m1 e1)),(3,.pt (dL n2 m2 e2)),(7,.pt (dL n4 R4 d4)),(13,zI D),(21,zI (i:Nat))],[]⟩) (m:=R4.length) ⟨0,aO _,rfl,rfl⟩ fun r s hs=>?_;obtain⟨i,hi,rfl,rfl⟩:=hs;by_cases hil:i<R4.length
   ·rcases hD with rfl|rfl
    ·obtain⟨l,hl⟩:=get_some hil;have C1:=CA rfl l (bj hl);have C2:=CB rfl l (bj hl);clear CA CB;refine zs2 ?_;refine xg ?_;refine bA ?_;(refine rz [22] ah (by(apply jX;(exact se);(focus((repeat(first|exact lF|(apply jG;(exact rfl))|(apply lG;(exact rfl)))))))) ?_);refine zD ?_;refine dH ?_;refine mR ?_;refine uA ?_;refine dH ?_;(first|refine aN1 rfl rfl rfl Kh ?_|refine ph rfl rfl rfl Kh ?_);(refine mr (k:=22) (z:=(.agg #[.slice none 0 0,.int .i64 0])) (d:=(.st [.sc (.slice none 0 0),.sc (.int .i64 0)])) rfl rfl rfl rfl rfl ah ai ai cX ai ai ?_);refine jP ?_;refine lU ?_;refine zs2 ?_;refine av (az (k:=22) aX bq bp) ?_;refine zs2 ?_;refine QA ?_;refine zs2 ?_;refine QA ?_;refine kX ?_;refine zs45 ?_;refine gO ?_;(first|(refine aLs rfl rfl rfl rfl ?_ ?_;(focus(apply bz;(conv=>lhs;whnf);(first|done|exact rfl|(apply br;(first|(apply aD;omega)|(apply aG;omega)|assumption|(simp;done)))))))|refine aLw rfl rfl rfl rfl cI zb24 ?_);refine mu ?_;refine gO ?_;refine Jw ?_;refine mu ?_;refine gO ?_;refine rG ?_;refine mQ ?_;simp only[nx];exact⟨R4.length-(i+1),_,by omega,(ay (sl':=[(2,.pt (dL n1 m1 e1)),(3,.pt (dL n2 m2 e2)),(7,.pt (dL n4 R4 d4)),(13,zI 0),(21,zI ((i+1:Nat):Int))]) (ow':=[]) aF aH),i+1,by omega,rfl,rfl⟩
    ·clear CA CB;refine zs2 ?_;refine xg ?_;refine bR ?_;exact hK _ (ay (sl':=[]) (ow':=[]) aF aH)
   ·clear CA CB;refine zs2 ?_;refine xg ?_;refine bR ?_;exact hK _ (ay (sl':=[]) (ow':=[]) aF aH)
 ·clear AW L1 L2 TW SM MT RS RM ST MS S1 S2 CA CB
  (refine av (ay (sl':=[(2,.pt (dL n1 m1 e1)),(3,.pt (dL n2 m2 e2)),(5,.pt (dL n3 R3 d3)),(7,.pt (dL n4 R4 d4)),(11,zI C),(13,zI D),(18,zI 0)]) (ow':=[]) aF aH) ?_)
  refine bh (fun r s=>∃i,i<=m1.length/\r=m1.length-i/\s=⟨[(2,.pt (dL n1 m1 e1)),(3,.pt (dL n2 m2 e2)),(5,.pt (dL n3 R3 d3)),(7,.pt (dL n4 R4 d4)),(11,zI C),(13,zI D),(18,zI (i:Nat))],[]⟩) (m:=m1.length) ⟨0,aO _,rfl,rfl⟩ fun r s hs=>?_;obtain⟨i,hi,rfl,rfl⟩:=hs;by_cases hil:i<m1.length
  ·rcases hC with rfl|rfl
   ·obtain⟨l,hl⟩:=get_some hil;have C1:=CI rfl l (bj hl);clear CI;refine zs2 ?_;refine xg ?_;refine bA ?_;((first|(apply aI 14;(focus kernel_rfl);(decide+kernel))|(apply aI 13;(focus kernel_rfl);(decide+kernel))|(apply aI 12;(focus kernel_rfl);(decide+kernel))|(apply aI 11;(focus kernel_rfl);(decide+kernel))|(apply aI 10;(focus kernel_rfl);(decide+kernel))|(apply aI 9;(focus kernel_rfl);(decide+kernel))|(apply aI 8;(focus kernel_rfl);(decide+kernel))|(apply aI 7;(focus kernel_rfl);(decide+kernel)));simp only[eu,dw,eU,du]);refine eJ ?_;refine Bt ?_;refine eJ ?_;refine rJ ?_;refine JY ?_;refine eJ ?_;(first|refine fo rfl rfl rfl ai Kh ai ai ?_|((try refine bf ?_);refine aL1 rfl rfl rfl Kh ?_));refine oK ?_;refine ib ?_;refine Ds ?_;refine Ds ?_;refine El ?_;refine pn ?_;refine kX ?_;refine zs45 ?_;refine gO ?_;refine rG ?_;refine mQ ?_;simp only[nx];exact⟨m1.length-(i+1),_,by omega,(ay (sl':=[(2,.pt (dL n1 m1 e1)),(3,.pt (dL n2 m2 e2)),(5,.pt (dL n3 R3 d3)),(7,.pt (dL n4 R4 d4)),(11,zI 0),(13,zI D),(18,zI ((i+1:Nat):Int))]) (ow':=[]) aF aH),i+1,by omega,rfl,rfl⟩
   ·clear CI;refine zs2 ?_;refine xg ?_;refine bR ?_;exact hK _ (ay (sl':=[(2,.pt (dL n1 m1 e1)),(3,.pt (dL n2 m2 e2)),(7,.pt (dL n4 R4 d4)),(13,zI D)]) (ow':=[]) aF aH)
  ·clear CI;refine zs2 ?_;refine xg ?_;refine bR ?_;exact hK _ (ay (sl':=[(2,.pt (dL n1 m1 e1)),(3,.pt (dL n2 m2 e2)),(7,.pt (dL n4 R4 d4)),(13,zI D)]) (ow':=[]) aF aH)
end DW
end
section
open Go.RowKit
namespace DW
section
variable {n : Nat} {ma mb : Mx.Mat} {ea eb : Int} (h : cQ n ma ea mb eb)
include h
theorem cQ.sumd:∃n3 R3 d3 C,hnR n (smA n ma ea mb eb) (smZ n ma ea mb eb)= .tp [dL n3 R3 d3,zI C]/\(C=0\/C=8)/\(C=0->∀l∈ma,Fn Tryz.prog 50 [dL n3 R3 d3,dV l ea] (.tp [.sc (.bool true),zI 0]))/\R3.length<=64/\∀l∈R3,l.length<=64:=by
 obtain⟨a1,a2,a3,a4,a5,a6⟩:=Mx.fX h.arc h.zp;have hrl:=Mx.AS h.arc (smZ n ma ea mb eb);have h5:=h.n5;have hn:=(gj h.ca).2.2.2.1;unfold hnR hnd;split
 ·next hh=>exact⟨_,_,_,_,rfl,.inl rfl,fun _ l hl=>h.ins rfl rfl (Nk hn h5 aa a4 hh.1 a6 hh.2) hl,by omega,fun l hl=>by rw[a4 l hl];omega⟩
 ·exact⟨_,_,_,_,rfl,.inr rfl,fun h=>by omega,by simp,fun l hl=>by cases hl⟩
theorem cQ.meetd:∃n3 R3 d3 C,hnR n (smT n ma ea mb eb) (smZ n ma ea mb eb)= .tp [dL n3 R3 d3,zI C]/\(C=0\/C=8)/\(C=0->∀l∈R3,Fn Tryz.prog 50 [dL n ma ea,dV l d3] (.tp [.sc (.bool true),zI 0]))/\(C=0->∀l∈R3,Fn Tryz.prog 50 [dL n mb eb,dV l d3] (.tp [.sc (.bool true),zI 0]))/\R3.length<=64/\∀l∈R3,l.length<=64:=by
 obtain⟨a1,a2,a3,a4,a5,a6⟩:=Mx.fX h.trc h.zp;have hrl:=Mx.AS h.trc (smZ n ma ea mb eb);have h5:=h.n5;have hn:=(gj h.ca).2.2.2.1;obtain⟨t1,t2⟩:=h.tnr;unfold hnR hnd;split
 ·next hh=>
  have hl:=Nk hn h5 aa a4 hh.1 a6 hh.2;exact⟨_,_,_,_,rfl,.inl rfl,fun _ l hx=>h.inm rfl rfl hl hx,fun _ l hx=>h.swap.inm t1.symm (by rw[t2,h.zs]) hl hx,by omega,fun l hl=>by rw[a4 l hl];omega⟩
 ·exact⟨_,_,_,_,rfl,.inr rfl,fun h=>by omega,fun h=>by omega,by simp,fun l hl=>by cases hl⟩
end
theorem Nn(n1 e1 n2 e2:Int)(m1 m2:List (List Int))(hd1:I64 n1)(he1:I64 e1)(hd2:I64 n2)(he2:I64 e2):Fn Tryz.prog 13 [dL n1 m1 e1,dL n2 m2 e2] (.sc (.bool true)):=by
 have L1:=ID n1 e1 m1;have L2:=ID n2 e2 m2;by_cases hs:lgt n1 m1=true/\lgt n2 m2=true
 ·obtain⟨hs1,hs2⟩:=hs;rw[hs1]at L1;rw[hs2]at L2;obtain⟨a1,a2,a3⟩:=Ni hs1;obtain⟨b1,b2,b3⟩:=Ni hs2;have CA:=vm n1 e1 m1 hd1 he1 aa (fun r hr=>by have:=a3 r hr;omega);have CB:=vm n2 e2 m2 hd2 he2 aa (fun r hr=>by have:=b3 r hr;omega);have TP:=MH n1 e1 n2 e2 m1 m2 CA CB;have TR:=Vr n1 e1 n2 e2 m1 m2 (Ft n1 e1 m1 aa) (Ft n2 e2 m2 aa);by_cases hc:tck n1 m1 e1 n2 m2 e2=0
  ·have hq : lck n1 m1 e1 = 0 /\ lck n2 m2 e2 = 0 /\ n1 = n2 := by
    unfold tck at hc;split at hc
    ·next h=>exact absurd hc h
    ·next h=>
     split at hc
     ·next h2=>exact absurd hc h2
     ·next h2=>
      split at hc
      ·next h3=>exact⟨Classical.not_not.1 h,Classical.not_not.1 h2,h3⟩
      ·cases hc
   obtain⟨ca,cb,rfl⟩:=hq;rw[hc]at TR;obtain⟨k1,k2,k3⟩:=gK ca;obtain⟨n,rfl⟩:∃n:Nat,n1=n:=⟨n1.toNat,by omega⟩;have h5:n<=5:=by omega
   have h:cQ n m1 e1 m2 e2:=⟨ca,cb,h5⟩;have SM:=h.sum;have RS:=h.rsum;have MT:=h.meet;have RM:=h.rmeet;have ST:=h.swap.sum;have MS:=h.swap.meet;rw[h.sumc]at ST;rw[h.meetc]at MS;obtain⟨n3,R3,d3,C,es,hC,CI,u1,u2⟩:=h.sumd;obtain⟨n4,R4,d4,D,em,hD,CX,CY,v1,v2⟩:=h.meetd;rw[es]at SM RS ST;rw[em]at MT RM MS;exact Nm n e1 n e2 m1 m2 n3 d3 n4 d4 C D R3 R4 hC hD L1 L2 TR SM MT RS RM ST MS (Ij n3 d3 R3 aa fun l hl=>by have:=u2 l hl;omega) (Ij n4 d4 R4 aa fun l hl=>by have:=v2 l hl;omega) CI CX CY aa aa
  ·exact Np n1 e1 n2 e2 m1 m2 _ hc L1 L2 (VB n1 e1 n2 e2 _ m1 m2 hc TP) (T5 n1 e1 n2 e2 _ m1 m2 hc TP) TR
 ·refine KV n1 e1 n2 e2 m1 m2 _ _ ?_ L1 L2
  cases h1:lgt n1 m1 with
  |false=>rfl
  |true=>
   cases h2:lgt n2 m2 with
   |false=>rfl
   |true=>exact absurd ⟨h1,h2⟩ hs
end DW
theorem PG(v0 v1:Value)(n0 e0:Int)(l0:List (List Int))(n1 e1:Int)(l1:List (List Int))(b0:I64 n0)(c0:I64 e0)(b1:I64 n1)(c1:I64 e1)(w:World)(h0:DW.AR (fun _=>False) w (DW.dL n0 l0 e0) v0)(h1:DW.AR (fun _=>False) w (DW.dL n1 l1 e1) v1):Calls Tryz.prog 13 #[v0,v1] w fun e w'=>e= .returned (.bool true)/\Below w.heap.size w w':=by
 refine((DW.Nn n0 e0 n1 e1 l0 l1 b0 c0 b1 c1).2 (fun _=>False) w #[v0,v1] (fun _ h=>h.elim) (by simp only[DW.ATp];exact⟨v0,_,rfl,h0,v1,_,rfl,h1,rfl⟩)).mono fun e w' ⟨u,h1,h2,h3⟩=>⟨?_,h3⟩;simp only[DW.AR]at h2;rw[h1,h2.1]
end
end Go.Proofs.YtcgjmdpcplhanaaGreat
