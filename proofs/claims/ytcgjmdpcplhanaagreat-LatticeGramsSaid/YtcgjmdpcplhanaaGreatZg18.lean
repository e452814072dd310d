/- Lemmas for the law: E50 -/
import Derived.Test.YtcgjmdpcplhanaaGreatZg17
namespace Go.Proofs.YtcgjmdpcplhanaaGreat
section
theorem zb57{p:Prop}(h:p:=by(apply JP;(exact rfl);(assumption);(exact rfl))):p:=h
theorem G7{p q:Prop}(h:q)(f:Wq q->p:=by(intro hW;((first|(refine aLs rfl rfl rfl rfl ?_ ?_;(focus(apply aJ;(conv=>lhs;whnf);(first|done|exact rfl|(apply aG;(first|(apply decide_eq_true;omega)|(apply decide_eq_false;omega)|assumption|(simp;done)))))))|refine aLw rfl rfl rfl rfl bp zb57 ?_));exact hW.out)):p:=f ⟨h⟩
theorem G9{p q:Prop}(h:q)(f:Wq q->p:=by(intro hW;((refine dK (k:=8) (z:=(.agg #[.int .i64 0,.slice none 0 0,.bool false,.slice none 0 0])) (d:=(.st [.sc (.int .i64 0),.sc (.slice none 0 0),.sc (.bool false),.sc (.slice none 0 0)])) rfl rfl rfl rfl rfl aa ae ae cE ae ae bD ?_));exact hW.out)):p:=f ⟨h⟩
theorem G8{p q:Prop}(h:q)(f:Wq q->p:=by(intro hW;(refine aL1 rfl rfl rfl AK ?_);exact hW.out)):p:=f ⟨h⟩
theorem vg{p q:Prop}(h:q)(f:Wq q->p:=by(intro hW;((refine gar ?_;refine zs4 ?_;refine mN ?_;refine zs4 ?_;refine zs8 ?_;refine sW ?_;refine gw ?_;refine zs4 ?_;refine zs8 ?_;refine jG ?_;refine gw ?_;refine af ?_));exact hW.out)):p:=f ⟨h⟩
theorem zZ{p q:Prop}(h:q)(f:Wq q->p:=by(intro hW;((refine gar ?_;refine aS ?_;refine zs4 ?_;refine eA ?_;refine zs4 ?_;refine dA ?_;refine dA ?_;refine dA ?_;refine zs6 ?_;refine zs6 ?_;refine zs6 ?_;refine af ?_));exact hW.out)):p:=f ⟨h⟩
theorem ve{p q:Prop}(h:q)(f:Wq q->p:=by(intro hW;((refine gar ?_;refine aS ?_;refine cO ?_;refine mN ?_;refine zs4 ?_;refine zs8 ?_;refine zS ?_;refine sW ?_;refine gw ?_;refine af ?_));exact hW.out)):p:=f ⟨h⟩
theorem Gz{p q:Prop}(h:q)(f:Wq q->p:=by(intro hW;((refine gar ?_;(refine aL1 rfl rfl rfl zb57 ?_);refine zs6 ?_;refine af ?_));exact hW.out)):p:=f ⟨h⟩
end
section
open Go.RowKit
namespace DW
set_option maxRecDepth 20000
set_option maxHeartbeats 4000000
theorem Fo:Fn Tryz.prog 107 [dW []] (dW []):=by
 obtain⟨M,hM⟩:∃M:Mx.Mat,M=[]:=⟨_,rfl⟩;rw[<-hM];have hl:M.length=0:=by rw[hM];rfl
 have hg1:decide ((0:Int)<(M.length:Int))=false:=decide_eq_false (by omega);refine aP Tryz.func107 aa rfl rfl rfl fun X0=>?_;simp only[aD]
 (repeat(first|refine gk fun K hK=>?_|refine zs2 ?_));refine bK ?_;(repeat(first|refine gk fun K hK=>?_|refine zs2 ?_));refine bK ?_;(repeat(first|refine gk fun K hK=>?_|refine zs2 ?_));refine aH ?_;(repeat(first|refine gk fun K hK=>?_|refine zs2 ?_))
 (refine ak (ai (sl':=[(0,dW M),(3,.sc (.slice none 0 0)),(4,zI 0)]) (ow':=[]) an aw) ?_)
 refine aE (fun r s=>r=0/\s=⟨[(0,dW M),(3,.sc (.slice none 0 0)),(4,zI 0)],[]⟩) (m:=0) ⟨rfl,rfl⟩ fun r s hs=>?_;obtain⟨rfl,rfl⟩:=hs
 (repeat(first|refine gk fun K hK=>?_|refine zs2 ?_));(refine gar ?_;refine zs4 ?_;refine zs5 ?_;refine zs7 ?_;refine zs4 ?_;refine zs8 ?_;refine zs8 ?_;(first|(refine aLs rfl rfl rfl rfl ?_ ?_;(focus(apply aJ;(conv=>lhs;whnf);(first|done|exact rfl|(apply aG;(first|(apply decide_eq_true;omega)|(apply decide_eq_false;omega)|assumption|(simp;done)))))))|refine aLw rfl rfl rfl rfl bp (by(first|(apply gu;(exact rfl);(focus((apply au;(conv=>lhs;whnf);(first|done|exact rfl))));(exact bw);(kernel_rfl);(kernel_rfl);(omega);(focus((first|(apply get_map;assumption)|(apply get_own;assumption)))))|(apply en;(exact rfl);(focus((apply au;(conv=>lhs;whnf);(first|done|exact rfl))));(exact bw);(focus((repeat(first|exact List.mem_cons_self|refine List.mem_cons_of_mem _ ?_))));(kernel_rfl);(kernel_rfl);(focus(first|omega|(simp;omega)));(focus(first|(apply dv;assumption)|exact rfl))))) ?_);refine mQ ?_;refine jH ?_;refine vG ?_;refine gB ?_;refine af ?_);(repeat(first|refine gk fun K hK=>?_|refine zs2 ?_))
 refine az ?_
 (repeat(first|refine gk fun K hK=>?_|refine zs2 ?_));refine fC ?_;(repeat(first|refine gk fun K hK=>?_|refine zs2 ?_))
 subst hM;exact⟨_,gT (t:=2) (wd:=1) cr,.one (.tmp 2) _ rfl (.tmp 2 rfl)⟩
theorem yV(dim den C:Int)(m f:Mx.Mat)(hC:C≠0)(FO:Fn Tryz.prog 93 [dL dim m den,dM f] (zI C)):Fn Tryz.prog 44 [dL dim m den,dM f] (.tp [dM [],zI 0,zI C]):=by
 refine aP Tryz.func44 aa rfl rfl rfl fun X0=>?_;simp only[aD]
 (repeat(first|refine gk fun K hK=>?_|refine zs2 ?_));refine rq ?_;(repeat(first|refine gk fun K hK=>?_|refine zs2 ?_));refine rp ?_;(repeat(first|refine gk fun K hK=>?_|refine zs2 ?_));refine eO ?_;(repeat(first|refine gk fun K hK=>?_|refine zs2 ?_))
 refine av ?_
 (repeat(first|refine gk fun K hK=>?_|refine zs2 ?_));(refine gar ?_;refine zs4 ?_;refine zs3 ?_;refine fG ?_;refine zs6 ?_;refine af ?_);(repeat(first|refine gk fun K hK=>?_|refine zs2 ?_))
 exact⟨_,gT (t:=4) (wd:=1) cr,.three (.tmp 4) (.tmp 5) (.tmp 6) _ _ _ rfl (.tmp 4 rfl) (.tmp 5 rfl) (.tmp 6 rfl)⟩
theorem Jh(dim den d0:Int)(m f R:Mx.Mat)(hR:R.length=0)(FO:Fn Tryz.prog 93 [dL dim m den,dM f] (zI 0))(RD:Fn Tryz.prog 87 [dL dim m den] (xK dim R d0)):Fn Tryz.prog 44 [dL dim m den,dM f] (.tp [dM [],zI 1,zI 0]):=by
 refine aP Tryz.func44 aa rfl rfl rfl fun X0=>?_;simp only[aD]
 (repeat(first|refine gk fun K hK=>?_|refine zs2 ?_));refine rq ?_;(repeat(first|refine gk fun K hK=>?_|refine zs2 ?_));refine rp ?_;(repeat(first|refine gk fun K hK=>?_|refine zs2 ?_));refine eO ?_;(repeat(first|refine gk fun K hK=>?_|refine zs2 ?_))
 refine az ?_
 (repeat(first|refine gk fun K hK=>?_|refine zs2 ?_));(refine gar ?_;refine aS ?_;refine cO ?_;refine G9 ?_;refine dC ?_;refine af ?_);(repeat(first|refine gk fun K hK=>?_|refine zs2 ?_))
 refine ak (aF (k:=8) aZ bB bA) ?_
 (repeat(first|refine gk fun K hK=>?_|refine zs2 ?_));(refine gar ?_;refine qs ?_;refine aS ?_;refine zs5 ?_;refine td ?_;refine af ?_);(repeat(first|refine gk fun K hK=>?_|refine zs2 ?_))
 refine av ?_
 (repeat(first|refine gk fun K hK=>?_|refine zs2 ?_));refine po ?_;(repeat(first|refine gk fun K hK=>?_|refine zs2 ?_))
 exact⟨_,gT (t:=4) (wd:=1) cr,.three (.tmp 4) (.tmp 5) (.tmp 6) _ _ _ rfl (.tmp 4 rfl) (.tmp 5 rfl) (.tmp 6 rfl)⟩
theorem Ji(dim den d0 d1 g d2:Int)(m f R A B N M2:Mx.Mat)(hR:R.length≠0)(FO:Fn Tryz.prog 93 [dL dim m den,dM f] (zI 0))(RD:Fn Tryz.prog 87 [dL dim m den] (xK dim R d0))(WO:Fn Tryz.prog 72 [dM f] (dW f))(T1:Fn Tryz.prog 97 [dW R,dW f] (dW A))(TR:Fn Tryz.prog 98 [dW R] (dW B))(T2:Fn Tryz.prog 97 [dW A,dW B] (dW N))(MU:Fn Tryz.prog 117 [.nm d0, .nm d0] (.nm d1))(CT:Fn Tryz.prog 118 [dW N, .nm d1] (.nm g))(OV:Fn Tryz.prog 119 [dW N, .nm g] (dW M2))(SM:Fn Tryz.prog 74 [dW M2,zI 1000000000000000] (smM 1000000000000000 M2))(QD:Fn Tryz.prog 121 [.nm d1, .nm g] (.nm d2))(SD:Fn Tryz.prog 120 [.nm d2] (.tp [zI (smv d2), .sc (.bool (decide (I64 d2)))]))(hd0:0<=d2):Fn Tryz.prog 44 [dL dim m den,dM f] (grD M2 d2):=by
 have hib:inb 1000000000000000 d2=decide (d2<=1000000000000000):=by
  by_cases h:d2<=1000000000000000
  ·rw[decide_eq_true h];exact jg.2 ⟨by omega,h⟩
  ·rw[decide_eq_false h]
   cases hb:inb 1000000000000000 d2 with
   |false=>rfl
   |true=>exact absurd (jg.1 hb).2 h
 obtain⟨N1,b1,SM,hb1⟩:∃N1 b1,Fn Tryz.prog 74 [dW M2,zI 1000000000000000] (.tp [dM N1, .sc (.bool b1)])/\((b1=true/\N1=M2/\M2.all (fun l=>l.all (inb 1000000000000000))=true)\/(b1=false/\¬M2.all (fun l=>l.all (inb 1000000000000000))=true)):=by
  unfold smM at SM;split at SM
  ·next h=>exact⟨_,_,SM, .inl ⟨rfl,rfl,h⟩⟩
  ·next h=>exact⟨_,_,SM, .inr ⟨rfl,h⟩⟩
 obtain⟨s2,b2,SD,hb2⟩:∃s2 b2,Fn Tryz.prog 120 [.nm d2] (.tp [zI s2, .sc (.bool b2)])/\((b2=true/\s2=d2)\/(b2=false/\1000000000000000<d2)):=by
  by_cases h2:I64 d2
  ·rw[oZ h2,oB h2]at SD;exact⟨_,_,SD, .inl ⟨rfl,rfl⟩⟩
  ·rw[mH h2]at SD;refine⟨_,_,SD, .inr ⟨rfl,?_⟩⟩;unfold I64 at h2;omega
 refine aP Tryz.func44 aa rfl rfl rfl fun X0=>?_;simp only[aD]
 (repeat(first|refine gk fun K hK=>?_|refine zs2 ?_));refine rq ?_;(repeat(first|refine gk fun K hK=>?_|refine zs2 ?_));refine rp ?_;(repeat(first|refine gk fun K hK=>?_|refine zs2 ?_));refine eO ?_;(repeat(first|refine gk fun K hK=>?_|refine zs2 ?_))
 refine az ?_
 (repeat(first|refine gk fun K hK=>?_|refine zs2 ?_));(refine gar ?_;refine aS ?_;refine cO ?_;refine G9 ?_;refine dC ?_;refine af ?_);(repeat(first|refine gk fun K hK=>?_|refine zs2 ?_))
 refine ak (aF (k:=8) aZ bB bA) ?_
 (repeat(first|refine gk fun K hK=>?_|refine zs2 ?_));(refine gar ?_;refine qs ?_;refine aS ?_;refine zs5 ?_;refine td ?_;refine af ?_);(repeat(first|refine gk fun K hK=>?_|refine zs2 ?_))
 refine az ?_
 (repeat(first|refine gk fun K hK=>?_|refine zs2 ?_));(refine vH ?_;refine vJ ?_;refine bq ?_;refine aR ?_;refine kj ?_;refine gy ?_;refine vJ ?_;refine bq ?_;refine kj ?_;refine gy ?_;refine ko ?_;refine cP ?_);(repeat(first|refine gk fun K hK=>?_|refine zs2 ?_));(refine gar ?_;refine G8 ?_;refine aS ?_;refine G8 ?_;refine aS ?_;refine eA ?_;(refine dK (k:=10) (z:=(.agg #[.bool false, .slice none 0 0])) (d:=(.nm 0)) rfl rfl rfl rfl rfl aa ae ae cE ae ae bD ?_);refine dC ?_;refine af ?_);(repeat(first|refine gk fun K hK=>?_|refine zs2 ?_));(refine gar ?_;refine zs4 ?_;refine aS ?_;refine eA ?_;refine vq ?_;refine dC ?_;refine af ?_);(repeat(first|refine gk fun K hK=>?_|refine zs2 ?_));(refine gar ?_;refine zs4 ?_;refine aS ?_;refine eA ?_;(refine aL1 rfl rfl rfl (by(apply jo;(exact rfl);(focus((apply au;(conv=>lhs;whnf);(first|done|exact rfl))));(exact bw);(exact rfl);(exact rfl);(assumption);(exact rfl))) ?_);refine zs4 ?_;refine dA ?_;refine dA ?_;refine zs6 ?_;refine zs6 ?_;refine af ?_);(repeat(first|refine gk fun K hK=>?_|refine zs2 ?_));(refine gar ?_;refine aS ?_;refine aS ?_;refine eA ?_;refine cO ?_;refine zs4 ?_;refine dA ?_;refine dA ?_;refine zs6 ?_;refine zs6 ?_;refine af ?_);(repeat(first|refine gk fun K hK=>?_|refine zs2 ?_))
 rcases hb1 with⟨rfl,rfl,ha1⟩|⟨rfl,ha1⟩
 ·rcases hb2 with⟨rfl,rfl⟩|⟨rfl,ha2⟩
  ·by_cases h3:s2<=1000000000000000
   ·have hd3:decide (s2>1000000000000000)=false:=decide_eq_false (by omega);have EC:grD N1 s2= .tp [dM N1,zI s2,zI 0]:=if_pos ⟨ha1,by rw[hib];exact decide_eq_true h3⟩
    (repeat(first|refine gk fun K hK=>?_|refine zs2 ?_));refine vg ?_;(repeat(first|refine gk fun K hK=>?_|refine zs2 ?_))
    refine az ?_
    (repeat(first|refine gk fun K hK=>?_|refine zs2 ?_));(refine gar ?_;refine zs4 ?_;refine zs4 ?_;refine zs6 ?_;refine zs6 ?_;refine fG ?_;refine af ?_);(repeat(first|refine gk fun K hK=>?_|refine zs2 ?_))
    rw[EC];exact⟨_,Sh.refl, .three (.tmp 4) (.tmp 5) (.tmp 6) _ _ _ rfl (.tmp 4 rfl) (.tmp 5 rfl) (.tmp 6 rfl)⟩
   ·have hd3:decide (s2>1000000000000000)=true:=decide_eq_true (by omega);have EC:grD N1 s2= .tp [dM [],zI 0,zI 8]:=if_neg fun h=>h3 (by rw[hib]at h;exact of_decide_eq_true h.2)
    (repeat(first|refine gk fun K hK=>?_|refine zs2 ?_));refine vg ?_;(repeat(first|refine gk fun K hK=>?_|refine zs2 ?_))
    refine av ?_
    (repeat(first|refine gk fun K hK=>?_|refine zs2 ?_));refine po ?_;(repeat(first|refine gk fun K hK=>?_|refine zs2 ?_))
    rw[EC];exact⟨_,gT (t:=4) (wd:=1) cr, .three (.tmp 4) (.tmp 5) (.tmp 6) _ _ _ rfl (.tmp 4 rfl) (.tmp 5 rfl) (.tmp 6 rfl)⟩
  ·have EC : grD N1 d2 = .tp [dM [], zI 0, zI 8] := if_neg fun h => by
    rw[hib]at h;have:=of_decide_eq_true h.2;omega
   (repeat(first|refine gk fun K hK=>?_|refine zs2 ?_));refine vg ?_;(repeat(first|refine gk fun K hK=>?_|refine zs2 ?_))
   refine av ?_
   (repeat(first|refine gk fun K hK=>?_|refine zs2 ?_));refine po ?_;(repeat(first|refine gk fun K hK=>?_|refine zs2 ?_))
   rw[EC];exact⟨_,gT (t:=4) (wd:=1) cr, .three (.tmp 4) (.tmp 5) (.tmp 6) _ _ _ rfl (.tmp 4 rfl) (.tmp 5 rfl) (.tmp 6 rfl)⟩
 ·have EC:grD M2 d2= .tp [dM [],zI 0,zI 8]:=if_neg fun h=>ha1 h.1
  (repeat(first|refine gk fun K hK=>?_|refine zs2 ?_));refine vg ?_;(repeat(first|refine gk fun K hK=>?_|refine zs2 ?_))
  refine av ?_
  (repeat(first|refine gk fun K hK=>?_|refine zs2 ?_));refine po ?_;(repeat(first|refine gk fun K hK=>?_|refine zs2 ?_))
  rw[EC];exact⟨_,gT (t:=4) (wd:=1) cr, .three (.tmp 4) (.tmp 5) (.tmp 6) _ _ _ rfl (.tmp 4 rfl) (.tmp 5 rfl) (.tmp 6 rfl)⟩
theorem yr(dim den:Int)(m f:Mx.Mat)(a b:Bool)(h:(a&&b)=false)(LT:Fn Tryz.prog 30 [dL dim m den] (.sc (.bool a)))(SM:Fn Tryz.prog 14 [dM f] (.sc (.bool b))):Fn Tryz.prog 8 [dL dim m den,dM f] (.sc (.bool true)):=by
 have AW:=ur;cases a
 ·refine aP Tryz.func8 aa rfl rfl rfl fun X0=>?_;simp only[aD]
  (repeat(first|refine gk fun K hK=>?_|refine zs2 ?_));refine jM ?_;(repeat(first|refine gk fun K hK=>?_|refine zs2 ?_));refine ve ?_;(repeat(first|refine gk fun K hK=>?_|refine zs2 ?_))
  refine av ?_
  (repeat(first|refine gk fun K hK=>?_|refine zs2 ?_));refine Gz ?_;(repeat(first|refine gk fun K hK=>?_|refine zs2 ?_))
  exact⟨_,Sh.refl,.one (.tmp 4) _ rfl (.tmp 4 rfl)⟩
 ·obtain rfl:b=false:=by simpa using h
  refine aP Tryz.func8 aa rfl rfl rfl fun X0=>?_;simp only[aD]
  (repeat(first|refine gk fun K hK=>?_|refine zs2 ?_));refine jM ?_;(repeat(first|refine gk fun K hK=>?_|refine zs2 ?_));refine ve ?_;(repeat(first|refine gk fun K hK=>?_|refine zs2 ?_))
  refine av ?_
  (repeat(first|refine gk fun K hK=>?_|refine zs2 ?_));refine Gz ?_;(repeat(first|refine gk fun K hK=>?_|refine zs2 ?_))
  exact⟨_,Sh.refl,.one (.tmp 4) _ rfl (.tmp 4 rfl)⟩
theorem Bp(dim den C:Int)(m f:Mx.Mat)(hC:C≠0)(LT:Fn Tryz.prog 30 [dL dim m den] (.sc (.bool true)))(SM:Fn Tryz.prog 14 [dM f] (.sc (.bool true)))(PG:Fn Tryz.prog 44 [dL dim m den,dM f] (.tp [dM [],zI 0,zI C]))(RC:Fn Tryz.prog 32 [dL dim m den] (zI C)):Fn Tryz.prog 8 [dL dim m den,dM f] (.sc (.bool true)):=by
 have AW:=ur;have h0:(([]:Mx.Mat).length:Int)=0:=rfl;generalize([]:Mx.Mat)=E at*;refine aP Tryz.func8 aa rfl rfl rfl fun X0=>?_;simp only[aD]
 (repeat(first|refine gk fun K hK=>?_|refine zs2 ?_));refine jM ?_;(repeat(first|refine gk fun K hK=>?_|refine zs2 ?_));refine ve ?_;(repeat(first|refine gk fun K hK=>?_|refine zs2 ?_))
 refine az ?_
 (repeat(first|refine gk fun K hK=>?_|refine zs2 ?_));refine zZ ?_;(repeat(first|refine gk fun K hK=>?_|refine zs2 ?_));refine vo ?_;(repeat(first|refine gk fun K hK=>?_|refine zs2 ?_));refine eO ?_;(repeat(first|refine gk fun K hK=>?_|refine zs2 ?_))
 refine av ?_
 (repeat(first|refine gk fun K hK=>?_|refine zs2 ?_));(refine gar ?_;refine zs4 ?_;refine zs4 ?_;refine zs77 ?_;refine zs4 ?_;refine zs8 ?_;refine jH ?_;refine vK ?_;refine gB ?_;refine zs4 ?_;refine zs8 ?_;refine vK ?_;refine gB ?_;refine zs4 ?_;refine G7 ?_;refine gB ?_;refine zs6 ?_;refine af ?_);(repeat(first|refine gk fun K hK=>?_|refine zs2 ?_))
 exact⟨_,Sh.refl,.one (.tmp 4) _ rfl (.tmp 4 rfl)⟩
theorem nI(dim den d C:Int)(m f G:Mx.Mat)(LT:Fn Tryz.prog 30 [dL dim m den] (.sc (.bool true)))(SM:Fn Tryz.prog 14 [dM f] (.sc (.bool true)))(PG:Fn Tryz.prog 44 [dL dim m den,dM f] (.tp [dM G,zI d,zI C]))(RC:Fn Tryz.prog 32 [dL dim m den] (zI 0))(RG:Fn Tryz.prog 45 [dL dim m den,dM f] (.tp [dM G,zI d,zI C]))(LS:Fn Tryz.prog 19 [dM G,dM G] (.sc (.bool true))):Fn Tryz.prog 8 [dL dim m den,dM f] (.sc (.bool true)):=by
 have AW:=ur;refine aP Tryz.func8 aa rfl rfl rfl fun X0=>?_;simp only[aD]
 (repeat(first|refine gk fun K hK=>?_|refine zs2 ?_));refine jM ?_;(repeat(first|refine gk fun K hK=>?_|refine zs2 ?_));refine ve ?_;(repeat(first|refine gk fun K hK=>?_|refine zs2 ?_))
 refine az ?_
 (repeat(first|refine gk fun K hK=>?_|refine zs2 ?_));refine zZ ?_;(repeat(first|refine gk fun K hK=>?_|refine zs2 ?_));refine vo ?_;(repeat(first|refine gk fun K hK=>?_|refine zs2 ?_));refine eO ?_;(repeat(first|refine gk fun K hK=>?_|refine zs2 ?_))
 refine az ?_
 (repeat(first|refine gk fun K hK=>?_|refine zs2 ?_));refine zZ ?_;(repeat(first|refine gk fun K hK=>?_|refine zs2 ?_));(refine gar ?_;refine zs4 ?_;refine zs4 ?_;refine zs77 ?_;refine zs4 ?_;refine zs8 ?_;refine zs8 ?_;(first|(refine aLs rfl rfl rfl rfl ?_ ?_;(focus(apply aJ;(conv=>lhs;whnf);(first|done|exact rfl|(apply aG;(first|(apply decide_eq_true;omega)|(apply decide_eq_false;omega)|assumption|(simp;done)))))))|refine aLw rfl rfl rfl rfl bp ou ?_);refine gB ?_;refine zs4 ?_;refine zs8 ?_;refine zs8 ?_;(first|(refine aLs rfl rfl rfl rfl ?_ ?_;(focus(apply aJ;(conv=>lhs;whnf);(first|done|exact rfl|(apply aG;(first|(apply decide_eq_true;omega)|(apply decide_eq_false;omega)|assumption|(simp;done)))))))|refine aLw rfl rfl rfl rfl bp zb13 ?_);refine gB ?_;refine zs4 ?_;refine G7 ?_;refine gB ?_;refine zs6 ?_;refine af ?_);(repeat(first|refine gk fun K hK=>?_|refine zs2 ?_))
 exact⟨_,Sh.refl,.one (.tmp 4) _ rfl (.tmp 4 rfl)⟩
theorem Ds(dim:Int)(m:Mx.Mat)(den:Int)(f:Mx.Mat)(h:lck dim m den=0):eY dim m den f=fmc dim f:=by
 unfold eY fmc;rw[if_neg (fun h2=>h2 h)]
theorem Gb{n:Nat}{R A:Mx.Mat}(hAl:∀row∈A,row.length<=5)(hA:∀row∈A,∀j,(row.getD j 0).natAbs<=2^573)(hB:Mx.Bd (2^520) (Mx.trM n R)){row:List Int}(hr:row∈A)(k j:Nat):(eE row (Mx.trM n R) k j).natAbs<=2^1096:=by
 have h1:=uj (row:=row) (B:=Mx.trM n R) (k:=k) (X:=2^1093) (L:=5) (hAl row hr) (fun j=>oz (a:=573) (b:=520) (c:=1093) (hA row hr j) (hB j k) (by decide)) j;refine Nat.le_trans h1 ?_;exact pmul (a:=3) (b:=1093) (c:=1096) (Nat.le_trans (Nat.min_le_right j 5) (show 5<=2^3 by decide)) (Nat.le_refl _) (by decide)
theorem kL{X:Nat}{row:List Int}(h:∀x∈row,x.natAbs<=X)(j:Nat):(row.getD j 0).natAbs<=X:=by
 rw[List.getD_eq_getElem?_getD]
 cases hg:row[j]? with
 |none=>exact Nat.zero_le _
 |some x=>exact h x (List.mem_of_getElem? hg)
theorem Bo(dim den:Int)(m f:List (List Int))(hd:I64 dim)(hd2:I64 den):Fn Tryz.prog 8 [dL dim m den,dM f] (.sc (.bool true)):=by
 have LT:=Jy dim den m;have SM:=Fe f;by_cases hs:lgt dim m=true/\smL f=true
 ·obtain⟨hs,hs2⟩:=hs;rw[hs]at LT;rw[hs2]at SM;obtain⟨b1,b2,b3⟩:=KI hs;obtain⟨c1,c2⟩:=I3 hs2;have RC:=Fv dim den m (by omega);have FO:=Jj dim den m f hd hd2 (by omega) (fun r hr=>by have:=b3 r hr;omega) (by omega) (fun r hr=>by have:=c2 r hr;omega);by_cases hc:lck dim m den=0
  ·rw[hc]at RC;rw[Ds dim m den f hc]at FO;have CF:=Jc dim den m f (by omega);by_cases hf:fmc dim f=0
   ·rw[hf]at FO CF;obtain⟨k1,k2,k3⟩:=gI hc;obtain⟨n,rfl⟩:∃n:Nat,dim=n:=⟨dim.toNat,by omega⟩;have hn:n<=5:=by omega
    have hR:=iJ hc;have hnn:=Mx.lp hR (show 0<den by omega);have hff:chk f=0/\f.length=n/\wid f=n:=by
     unfold fmc at hf;split at hf
     ·next h=>exact absurd hf h
     ·next h=>
      split at hf
      ·next h2=>exact⟨Classical.not_not.1 h,by omega,by omega⟩
      ·cases hf
    obtain⟨hf0,hfl,hfw⟩:=hff;have hRf:=(xN hf0).2.2.1;rw[hfw]at hRf;have hin:=(xN hf0).2.2.2;have RD:=Kx n den m n (by unfold I64;omega) (by omega) (by omega) (by omega) hR (su hc) (Du hc);have BS:=CU hc hn;have hRl:=KD hc;have hRb:=zd hc hn;have hdb:=KW hc;have hRr:=hnn.2.2.2.1;have hd0:=hnn.2.2.2.2.2;have hdot:=fun (row:List Int) (hr:row∈nR n m den)=>JB hc hn hf0 hr;obtain⟨R,hRe⟩:∃R,R=nR n m den:=⟨_,rfl⟩;obtain⟨d0,hde⟩:∃d0,d0=den/nG n m den:=⟨_,rfl⟩;rw[<-hRe]at RD BS hRl hRb hRr hdot;rw[<-hde]at RD BS hdb hd0;clear hRe hde hnn;have hd1:0<d0*d0:=Int.mul_pos hd0 hd0;have hd1b:(d0*d0).natAbs<=2^100:=oz (a:=50) (b:=50) (c:=100) hdb hdb (by decide);have WD:=Cd f (by omega) (fun l hl=>by have:=hRf l hl;omega) (fun l hl z hz=>by have:=hin l hl z hz;omega);have hfb:=zG hf0;have TO1:vE R f n:=⟨fun row hr=>by have:=hRr row hr;omega,fun j hj=>by rw[hRf.rw hj];exact Nat.le_refl _,fun row hr j=>bf (kL (hRb row hr) j) (by omega),fun j k=>bf (hfb j k) (by omega),fun row hr j k=>bf (e:=570) (oz (a:=520) (b:=50) (c:=570) (kL (hRb row hr) j) (hfb j k) (by decide)) (by omega),fun row hr k j=>bf (hdot row hr k j) (by omega)⟩;have T1:=IJ R f n (by omega) (by omega) (by omega) TO1;obtain⟨A,hA⟩:∃A,A=tim R f n:=⟨_,rfl⟩;have hAl:A.length=R.length:=by rw[hA];unfold tim;simp
    have hAr:Mx.Rc n A:=fun row hr=>by
     rw[hA]at hr;obtain⟨r,_,rfl⟩:=List.mem_map.1 hr;exact nd _ _ _
    have hAb:∀row∈A,∀x∈row,x.natAbs<=2^573:=fun row hr x hx=>by
     rw[hA]at hr;obtain⟨r,hr2,rfl⟩:=List.mem_map.1 hr;obtain⟨k,_,rfl⟩:=List.mem_map.1 hx;exact hdot r hr2 k _
    rw[<-hA]at T1;have MU:=vA d0 d0 (bf hdb (by omega)) (bf hdb (by omega));have hBb:Mx.Bd (2^520) (Mx.trM n R):=Mx.Km (nW hRb);have hBl:=Mx.pD n R;have hBr:=Mx.Kl n R;have hdot2:=fun (row:List Int) (hr:row∈A)=>Gb (R:=R) (A:=A) (n:=n) (fun row hr=>by have:=hAr row hr;omega) (fun row hr j=>kL (hAb row hr) j) hBb hr;have TO2:vE A (Mx.trM n R) R.length:=⟨fun row hr=>by have:=hAr row hr;omega,fun j hj=>by rw[hBr.rw hj];exact Nat.le_refl _,fun row hr j=>bf (kL (hAb row hr) j) (by omega),fun j k=>bf (hBb j k) (by omega),fun row hr j k=>bf (e:=1093) (oz (a:=573) (b:=520) (c:=1093) (kL (hAb row hr) j) (hBb j k) (by decide)) (by omega),fun row hr k j=>bf (hdot2 row hr k j) (by omega)⟩;obtain⟨N,hN⟩:∃N,N=tim A (Mx.trM n R) R.length:=⟨_,rfl⟩;have hNl:N.length=R.length:=by rw[hN];unfold tim;simp[hAl]
    have hNr:Mx.Rc R.length N:=fun row hr=>by
     rw[hN]at hr;obtain⟨r,_,rfl⟩:=List.mem_map.1 hr;exact nd _ _ _
    have hNb:∀row∈N,∀x∈row,x.natAbs<=2^1096:=fun row hr x hx=>by
     rw[hN]at hr;obtain⟨r,hr2,rfl⟩:=List.mem_map.1 hr;obtain⟨k,_,rfl⟩:=List.mem_map.1 hx;exact hdot2 r hr2 k _
    have T2:=yE A (Mx.trM n R) R.length (by omega) (by omega) (by omega) TO2;rw[<-hN]at T2;have hg:=pY N (d0*d0) (by omega);have hgd:=Mx.oW N (d0*d0);have hgn:=Mx.Bv N (d0*d0) (by omega);obtain⟨g,hge⟩:∃g,g=gM N (d0*d0):=⟨_,rfl⟩;rw[<-hge]at hg hgd hgn;obtain⟨M2,hM2⟩:∃M2,M2=mapM (fun x=>x/g) N:=⟨_,rfl⟩;have hM2l:M2.length=R.length:=by rw[hM2,ed,hNl]
    have hM2r:Mx.Rc R.length M2:=by rw[hM2];exact zh hNr
    have hM2b:∀row∈M2,∀x∈row,x.natAbs<=2^1096:=fun row hr x hx=>by
     rw[hM2]at hr;obtain⟨r,hr2,rfl⟩:=List.mem_map.1 hr;obtain⟨y,hy,rfl⟩:=List.mem_map.1 hx;exact Nat.le_trans (Mx.fT _ _) (hNb r hr2 y hy)
    have NR:=wP M2 (by omega) (fun l hl=>by have:=hM2r l hl;omega) (fun l hl z hz=>mF (hM2b l hl z hz) (by omega));have hd2b:(d0*d0/g).natAbs<=2^100:=Nat.le_trans (Mx.fT _ _) hd1b;have hd2n:0<=d0*d0/g:=Int.ediv_nonneg (by omega) hgn;have QD:=vz (d0*d0) g (bf hd1b (by omega)) (bf (Nat.le_trans hg.2 hd1b) (by omega)) hg.1;have ND:=Da [d0*d0/g] (by simp) (fun z hz=>by rw[List.mem_singleton.1 hz];exact mF hd2b (by omega));have hT2:N.length<=900000/\FnG Tryz.prog 22 [dW A,dW (Mx.trM n R),zI R.length] [] (.own 2000000) ((2000000,⟨113,1,hds N.length⟩)::rws 62 2 gZ 0 N):=⟨by omega,T2⟩;have RG:∀B,Fn Tryz.prog 107 [dW R] (dW B)->(N.length<=900000/\FnG Tryz.prog 22 [dW A,dW B,zI R.length] [] (.own 2000000) ((2000000,⟨113,1,hds N.length⟩)::rws 62 2 gZ 0 N))->Fn Tryz.prog 45 [dL n m den,dM f] (grD M2 (d0*d0/g)):=fun B TR T2=>
     Ja n den d0 (d0*d0) m f R A B N M2 (d0*d0/g) CF BS WD T1 TR T2 MU (by rw[hNl];exact hNr) (by omega) (fun g2 x _ hg2 ⟨r,hr,hx⟩=>H5 g2 x (bf (Nat.le_trans hg2 hd1b) (by omega)) (bf (hNb r hr x hx) (by omega))) (fun x ⟨r,hr,hx⟩=>by rw[<-hge];exact vz x g (bf (hNb r hr x hx) (by omega)) (bf (Nat.le_trans hg.2 hd1b) (by omega)) hg.1) (by rw[<-hge];exact hM2) NR (by rw[<-hge];exact QD) ND
    obtain⟨G,dd,C,e,l1,l2⟩:∃G dd C,grD M2 (d0*d0/g)= .tp [dM G,zI dd,zI C]/\G.length<=64/\∀l∈G,l.length<=64:=by
     unfold grD;split
     ·exact⟨_,_,_,rfl,by omega,fun l hl=>by have:=hM2r l hl;omega⟩
     ·exact⟨_,_,_,rfl,by simp,fun l hl=>by cases hl⟩
    have LS:=zj G G (by omega) (fun l hl=>by have:=l2 l hl;omega);rw[decide_eq_true rfl]at LS;by_cases hR0:R=[]
    ·subst hR0;have hA0:A=[]:=List.eq_nil_of_length_eq_zero (by rw[hAl];rfl);have hN0:N=[]:=List.eq_nil_of_length_eq_zero (by rw[hNl];rfl);subst hA0;subst hN0;have hM20:M2=[]:=List.eq_nil_of_length_eq_zero (by rw[hM2l];rfl);have hg0:g=d0*d0:=hge;have e1:d0*d0/g=1:=by rw[hg0];exact Int.ediv_self (by omega)
     have e2:grD M2 (d0*d0/g)= .tp [dM [],zI 1,zI 0]:=by
      rw[e1,hM20];exact if_pos ⟨rfl,rfl⟩
     have RG1:=RG [] Fo ⟨by omega,by
      have:=yE [] [] 0 (by simp) (by simp) (by simp) ⟨fun row hr=>(by cases hr),fun j hj=>(by simp at hj),fun row hr=>(by cases hr),fun j k=>bf (e:=0) (by simp[Mx.at',Mx.rw]) (by omega),fun row hr=>(by cases hr),fun row hr=>(by cases hr)⟩;exact this⟩
     have PG:=Jh n den d0 m f [] rfl FO RD;rw[<-e2,e]at PG;rw[e]at RG1;exact nI n den dd C m f G LT SM PG RC RG1 LS
    ·have hR0l:0<R.length:=List.length_pos_iff.2 hR0;have RG1:=RG _ (Fp R n hR0 (by omega) (by omega) hRr) hT2;have WO:=Ho f n (by omega) (by omega) hRf (fun l hl z hz=>by
      have:=hin l hl z hz;unfold I64;omega)
     have W1:=vV R f n n 520 50 (by omega) (by omega) (by omega) (by omega) (by omega) hfl (by omega) hRr hRf (nW hRb) hfb;rw[ze hRf,<-hA]at W1;have WT:=EI R n hR0 (by omega) (by omega) (by omega) hRr;have W2:=vV A (Mx.trM n R) n R.length 573 520 (by omega) (by omega) (by omega) (by omega) (by omega) hBl (by omega) hAr hBr (nW hAb) hBb;rw[ze hBr,<-hN]at W2;have IM:=KN d0 d0 (bh hdb (by omega)) (bh hdb (by omega));have CT:=IB N R.length (d0*d0) (by omega) hR0l (by omega) hNr (bh hd1b (by omega)) (fun i j=>bh (nW hNb i j) (by omega));rw[<-hge]at CT;have fg:Fit g:=bh (Nat.le_trans hg.2 hd1b) (by omega);have OV:=Ix N R.length g (by omega) hR0l (by omega) hNr fg (fun i j=>bh (nW hNb i j) (by omega));rw[<-hM2]at OV;have SMM:=FM M2 R.length 1000000000000000 (by omega) hR0l (by omega) (by omega) hM2r (fun i j=>bh (nW hM2b i j) (by omega));have QQ:=Ki (d0*d0) g (bh hd1b (by omega)) fg;have SD:=F5 (d0*d0/g) (bh hd2b (by omega));have PG:=Ji n den d0 (d0*d0) g (d0*d0/g) m f R A _ N M2 (by omega) FO RD WO W1 WT W2 IM CT OV SMM QQ SD hd2n;rw[e]at PG RG1;exact nI n den dd C m f G LT SM PG RC RG1 LS
   ·have PG:=yV dim den _ m f hf FO;have RG:=Jb dim den _ m f hf CF;have LS:=zj [] [] (by simp) (fun l hl=>by cases hl);rw[decide_eq_true rfl]at LS;exact nI dim den 0 _ m f [] LT SM PG RC RG LS
  ·have e:eY dim m den f=lck dim m den:=by unfold eY;rw[if_pos hc]
   rw[e]at FO;exact Bp dim den _ m f hc LT SM (yV dim den _ m f hc FO) RC
 ·refine yr dim den m f _ _ ?_ LT SM;rw[Bool.and_eq_false_iff];by_cases h:lgt dim m=true
  ·exact .inr (by simpa using fun h2=>hs ⟨h,h2⟩)
  ·exact .inl (by simpa using h)
end DW
theorem Dv(v vf:Value)(dim den:Int)(m f:List (List Int))(hd:I64 dim)(hd2:I64 den)(w:World)(h:DW.AR (fun _=>False) w (DW.dL dim m den) v)(hf:DW.AR (fun _=>False) w (DW.dM f) vf):Calls Tryz.prog 8 #[v,vf] w fun e w'=>e= .returned (.bool true)/\Below w.heap.size w w':=by
 refine((DW.Bo dim den m f hd hd2).2 (fun _=>False) w #[v,vf] (fun _ h=>h.elim) (by simp only[DW.ATp];exact⟨v,_,rfl,h,vf,_,rfl,hf,rfl⟩)).mono fun e w' ⟨u,h1,h2,h3⟩=>⟨?_,h3⟩;simp only[DW.AR]at h2;rw[h1,h2.1]
end
end Go.Proofs.YtcgjmdpcplhanaaGreat
