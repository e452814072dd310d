/- Lemmas for the law: E34 -/
import Derived.Test.YtcgjmdpcplhanaaGreatZi11
namespace Go.Proofs.YtcgjmdpcplhanaaGreat
section
theorem zs132{p q:Prop}(h:q)(f:Wq q→p:=by(intro hW;((first|(refine aLs rfl rfl rfl rfl ?_ ?_;(focus(apply aO;(conv=>lhs;whnf);(first|done|exact rfl|(apply aH;(first|(apply decide_eq_true;omega)|(apply decide_eq_false;omega)|assumption|(simp;done)))))))|refine aLw rfl rfl rfl rfl bp zb25 ?_));exact hW.out)):p:=f ⟨h⟩
theorem zG{p q:Prop}(h:q)(f:Wq q→p:=by(intro hW;((first|(refine aLs rfl rfl rfl rfl ?_ ?_;(focus(apply aO;(conv=>lhs;whnf);(first|done|exact rfl|(apply aH;(first|(apply decide_eq_true;omega)|(apply decide_eq_false;omega)|assumption|(simp;done)))))))|refine aLw rfl rfl rfl rfl bp zb13 ?_));exact hW.out)):p:=f ⟨h⟩
theorem jK{p q:Prop}(h:q)(f:Wq q→p:=by(intro hW;((first|(refine aLs rfl rfl rfl rfl ?_ ?_;(focus(apply aO;(conv=>lhs;whnf);(first|done|exact rfl|(apply aH;(first|(apply decide_eq_true;omega)|(apply decide_eq_false;omega)|assumption|(simp;done)))))))|refine aLw rfl rfl rfl rfl bp qc ?_));exact hW.out)):p:=f ⟨h⟩
theorem F5{p q:Prop}(h:q)(f:Wq q→p:=by(intro hW;((refine gar ?_;refine ew ?_;refine aK ?_;refine ew ?_;refine aK ?_;refine yZ ?_;refine zs4 ?_;refine qL ?_;refine cC ?_;refine qL ?_;refine cC ?_;refine zG ?_;refine fq ?_;refine zs4 ?_;refine jK ?_;refine cC ?_;refine jK ?_;refine cC ?_;refine zs132 ?_;refine fq ?_;refine zs6 ?_;refine af ?_));exact hW.out)):p:=f ⟨h⟩
theorem zs134{p q:Prop}(h:q)(f:Wq q→p:=by(intro hW;((first|(refine A3 rfl rfl rfl rfl ?_ ?_;(focus(apply aO;exact rfl)))|(refine aLs rfl rfl rfl rfl ?_ ?_;(focus(apply aO;(conv=>lhs;whnf);(first|done|exact rfl|(apply aH;(first|(apply decide_eq_true;omega)|(apply decide_eq_false;omega)|assumption|(simp;done)))))))|refine aLw rfl rfl rfl rfl bp qc ?_));exact hW.out)):p:=f ⟨h⟩
theorem zs136{p q:Prop}(h:q)(f:Wq q→p:=by(intro hW;((first|(refine A3 rfl rfl rfl rfl ?_ ?_;(focus(apply aO;exact rfl)))|(refine aLs rfl rfl rfl rfl ?_ ?_;(focus(apply aO;(conv=>lhs;whnf);(first|done|exact rfl|(apply aH;(first|(apply decide_eq_true;omega)|(apply decide_eq_false;omega)|assumption|(simp;done)))))))|refine aLw rfl rfl rfl rfl bp zb2 ?_));exact hW.out)):p:=f ⟨h⟩
theorem zs137{p q:Prop}(h:q)(f:Wq q→p:=by(intro hW;((first|(refine A3 rfl rfl rfl rfl ?_ ?_;(focus(apply aO;exact rfl)))|(refine aLs rfl rfl rfl rfl ?_ ?_;(focus(apply aO;(conv=>lhs;whnf);(first|done|exact rfl|(apply aH;(first|(apply decide_eq_true;omega)|(apply decide_eq_false;omega)|assumption|(simp;done)))))))|refine aLw rfl rfl rfl rfl bp p9 ?_));exact hW.out)):p:=f ⟨h⟩
theorem zs135{p q:Prop}(h:q)(f:Wq q→p:=by(intro hW;((first|(refine A3 rfl rfl rfl rfl ?_ ?_;(focus(apply aO;exact rfl)))|(refine aLs rfl rfl rfl rfl ?_ ?_;(focus(apply aO;(conv=>lhs;whnf);(first|done|exact rfl|(apply aH;(first|(apply decide_eq_true;omega)|(apply decide_eq_false;omega)|assumption|(simp;done)))))))|refine aLw rfl rfl rfl rfl bp zb1 ?_));exact hW.out)):p:=f ⟨h⟩
theorem zs138{p q:Prop}(h:q)(f:Wq q→p:=by(intro hW;((first|(refine aLs rfl rfl rfl rfl ?_ ?_;(focus(apply aO;(conv=>lhs;whnf);(first|done|exact rfl|(apply aH;(first|(apply decide_eq_true;omega)|(apply decide_eq_false;omega)|assumption|(simp;done)))))))|refine aLw rfl rfl rfl rfl bp zb6 ?_));exact hW.out)):p:=f ⟨h⟩
theorem zs133{p q:Prop}(h:q)(f:Wq q→p:=by(intro hW;((first|(refine aLs0 rfl rfl rfl rfl ?_ ?_;(focus(apply aO;(conv=>lhs;whnf);(first|done|exact rfl|(apply aH;(first|(apply decide_eq_true;omega)|(apply decide_eq_false;omega)|assumption|(simp;done)))))))|refine aLw rfl rfl rfl rfl bp mN ?_));exact hW.out)):p:=f ⟨h⟩
theorem qH{p q:Prop}(h:q)(f:Wq q→p:=by(intro hW;((refine gar ?_;refine ew ?_;refine aK ?_;refine uM ?_;refine zs4 ?_;refine jK ?_;refine cC ?_;refine mI ?_;refine fG ?_;refine zs133 ?_;refine zs134 ?_;refine zs135 ?_;refine zs136 ?_;refine zs137 ?_;refine zs138 ?_;refine cP ?_;refine zs4 ?_;refine jK ?_;refine cC ?_;refine mI ?_;refine fG ?_;refine cP ?_;refine af ?_));exact hW.out)):p:=f ⟨h⟩
theorem kQ{p q:Prop}(h:q)(f:Wq q→p:=by(intro hW;((refine gar ?_;refine ez ?_;refine ez ?_;refine pW ?_;refine af ?_));exact hW.out)):p:=f ⟨h⟩
theorem qI{p q:Prop}(h:q)(f:Wq q→p:=by(intro hW;((refine gar ?_;refine ez ?_;refine pW ?_;refine af ?_));exact hW.out)):p:=f ⟨h⟩
theorem oW{p q:Prop}(h:q)(f:Wq q→p:=by(intro hW;((first|(refine aLs rfl rfl rfl rfl ?_ ?_;(focus(apply aO;(conv=>lhs;whnf);(first|done|exact rfl|(apply aH;(first|(apply decide_eq_true;omega)|(apply decide_eq_false;omega)|assumption|(simp;done)))))))|refine aLw rfl rfl rfl rfl bp nO ?_));exact hW.out)):p:=f ⟨h⟩
theorem uq{p q:Prop}(h:q)(f:Wq q→p:=by(intro hW;((refine gar ?_;refine mJ ?_;refine aK ?_;refine zs4 ?_;refine dT ?_;refine aK ?_;refine zs5 ?_;refine zs7 ?_;refine af ?_));exact hW.out)):p:=f ⟨h⟩
end
section
open Go.RowKit
namespace DW
set_option maxRecDepth 20000
set_option maxHeartbeats 2000000
theorem Dn{X:Nat→Prop}{w:World}{dim den:Int}{m:Mx.Mat}{v:Value}(h:AR X w (dL dim m den) v):∃u,v= .agg #[.int .i64 dim,u,.int .i64 den]∧AR X w (dM m) u:=by
 simp only[dL,AR,ASt,zI]at h
 obtain⟨cs,rfl,u1,r1,e1,⟨rfl,_⟩,_,u2,r2,e2,h2,_,u3,r3,e3,⟨rfl,_⟩,_,rfl⟩:=h
 have h3:=h2
 obtain⟨a,c,rfl,_⟩:=h3
 refine⟨_,?_,by simp only[dM,AR];exact h2⟩
 have:cs.toList=[.int .i64 dim,.slice a (m.map dI).length c,.int .i64 den]:=by rw[e1,e2,e3];simp[Value.cells]
 exact congrArg _ (Array.toList_inj.1 this)
theorem nq(dim den:Int)(m:List (List Int))(hd:I64 dim)(hd2:I64 den)(hm:m.length≤1000000000)(hr:∀r∈m,r.length≤1000000000):Fn Tryz.prog 33 [dL dim m den] (zI (lck dim m den)):=by
 refine⟨enters_of Tryz.func33 aa rfl,fun X w vs hX hv=>?_⟩
 simp only[ATp]at hv
 obtain⟨v,rest,e,h1,rfl⟩:=hv
 have:vs= #[v]:=Array.toList_inj.1 e
 subst this
 obtain⟨u,rfl,h2⟩:=Dn h1
 exact(Av dim den m u hd hd2 hm hr w (rT h2)).mono fun e w' ⟨h,hb⟩=>⟨_,h,tu _,hb⟩
theorem xZ(d1 d2 e1 e2:Int)(a b:List (List Int))(ha:a.length≤1000000000)(ha2:∀l∈a,l.length≤1000000000):Fn Tryz.prog 35 [dL d1 a e1,dL d2 b e2] (.sc (.bool (decide (d1=d2)&&decide (e1=e2)&&decide (a=b)))):=by
 have LS:=IE a b ha ha2
 generalize decide (a=b)=q at*
 by_cases h1:d1=d2
 ·by_cases h2:e1=e2
  ·subst h1;subst h2
   rw[decide_eq_true (rfl:d1=d1),decide_eq_true (rfl:e1=e1),Bool.and_self,Bool.true_and]
   refine aE Tryz.func35 aa rfl rfl rfl fun X0=>?_
   simp only[ay]
   (repeat(first|refine gk fun K hK=>?_|refine zs2 ?_));refine kQ ?_;(repeat(first|refine gk fun K hK=>?_|refine zs2 ?_));(refine gar ?_;refine ew ?_;refine aK ?_;refine ew ?_;refine aK ?_;refine yZ ?_;refine zs4 ?_;refine qL ?_;refine cC ?_;refine qL ?_;refine cC ?_;refine zG ?_;refine fq ?_;refine zs4 ?_;refine jK ?_;refine cC ?_;refine jK ?_;refine cC ?_;refine oW ?_;refine fq ?_;refine zs6 ?_;refine af ?_);(repeat(first|refine gk fun K hK=>?_|refine zs2 ?_))
   exact⟨_,Sh.refl,.one (.tmp 4) _ rfl (.tmp 4 rfl)⟩
  ·subst h1
   have hd:decide (e1=e2)=false:=decide_eq_false h2
   rw[hd,Bool.and_false,Bool.false_and]
   refine aE Tryz.func35 aa rfl rfl rfl fun X0=>?_
   simp only[ay]
   (repeat(first|refine gk fun K hK=>?_|refine zs2 ?_));refine kQ ?_;(repeat(first|refine gk fun K hK=>?_|refine zs2 ?_));refine F5 ?_;(repeat(first|refine gk fun K hK=>?_|refine zs2 ?_))
   exact⟨_,Sh.refl,.one (.tmp 4) _ rfl (.tmp 4 rfl)⟩
 ·have hd:decide (d1=d2)=false:=decide_eq_false h1
  rw[hd,Bool.false_and,Bool.false_and]
  refine aE Tryz.func35 aa rfl rfl rfl fun X0=>?_
  simp only[ay]
  (repeat(first|refine gk fun K hK=>?_|refine zs2 ?_));refine kQ ?_;(repeat(first|refine gk fun K hK=>?_|refine zs2 ?_));refine F5 ?_;(repeat(first|refine gk fun K hK=>?_|refine zs2 ?_))
  exact⟨_,Sh.refl,.one (.tmp 4) _ rfl (.tmp 4 rfl)⟩
def lgt(dim:Int)(m:List (List Int)):Bool:=!(decide (dim=6)||(decide (8<m.length)&&decide (m.length≤64))||decide (70<m.length))&&m.all (fun l=>decide (l.length≤10))
theorem IG(dim den:Int)(m:List (List Int)):Fn Tryz.prog 30 [dL dim m den] (.sc (.bool (lgt dim m))):=by
  have W1:=dh dim 6 6
  by_cases c1:dim=6
  · subst c1
    rw[show(decide ((6:Int)≤6)&&decide ((6:Int)≤6))=true from rfl]at W1
    have EC:lgt 6 m=false:=rfl
    refine aE Tryz.func30 aa rfl rfl rfl fun X0=> ?_
    simp only[ay]
    (repeat(first|refine gk fun K hK=> ?_|refine zs2 ?_));refine qI ?_;(repeat(first|refine gk fun K hK=> ?_|refine zs2 ?_));refine qH ?_;(repeat(first|refine gk fun K hK=> ?_|refine zs2 ?_))
    refine ao ?_
    (repeat(first|refine gk fun K hK=> ?_|refine zs2 ?_));refine bE ?_;(repeat(first|refine gk fun K hK=> ?_|refine zs2 ?_))
    rw[EC]
    exact⟨_,Sh.refl, .one (.tmp 2) _ rfl (.tmp 2 rfl)⟩
  · rw[show(decide (6≤dim)&&decide (dim≤6))=false by rw[Bool.and_eq_false_iff,decide_eq_false_iff_not,decide_eq_false_iff_not];omega]at W1
    by_cases c2:8<m.length
    · have h8:decide ((m.length:Int)>8)=true:=decide_eq_true (by omega)
      by_cases c3:m.length≤64
      · have h64:decide ((m.length:Int)≤64)=true:=decide_eq_true (by omega)
        have EC:lgt dim m=false:=by unfold lgt;rw[decide_eq_true c2,decide_eq_true c3];simp
        refine aE Tryz.func30 aa rfl rfl rfl fun X0=> ?_
        simp only[ay]
        (repeat(first|refine gk fun K hK=> ?_|refine zs2 ?_));refine qI ?_;(repeat(first|refine gk fun K hK=> ?_|refine zs2 ?_));refine qH ?_;(repeat(first|refine gk fun K hK=> ?_|refine zs2 ?_))
        refine ao ?_
        (repeat(first|refine gk fun K hK=> ?_|refine zs2 ?_));refine bE ?_;(repeat(first|refine gk fun K hK=> ?_|refine zs2 ?_))
        rw[EC]
        exact⟨_,Sh.refl, .one (.tmp 2) _ rfl (.tmp 2 rfl)⟩
      · have h64:decide ((m.length:Int)≤64)=false:=decide_eq_false (by omega)
        by_cases c4:70<m.length
        · have h70:decide ((m.length:Int)>70)=true:=decide_eq_true (by omega)
          have EC:lgt dim m=false:=by unfold lgt;rw[decide_eq_true c4];simp
          refine aE Tryz.func30 aa rfl rfl rfl fun X0=> ?_
          simp only[ay]
          (repeat(first|refine gk fun K hK=> ?_|refine zs2 ?_));refine qI ?_;(repeat(first|refine gk fun K hK=> ?_|refine zs2 ?_));refine qH ?_;(repeat(first|refine gk fun K hK=> ?_|refine zs2 ?_))
          refine ao ?_
          (repeat(first|refine gk fun K hK=> ?_|refine zs2 ?_));refine bE ?_;(repeat(first|refine gk fun K hK=> ?_|refine zs2 ?_))
          rw[EC]
          exact⟨_,Sh.refl, .one (.tmp 2) _ rfl (.tmp 2 rfl)⟩
        · have h70:decide ((m.length:Int)>70)=false:=decide_eq_false (by omega)
          have EC:lgt dim m=m.all (fun l=>decide (l.length≤10)):=by unfold lgt;rw[decide_eq_false c1,decide_eq_false c3,decide_eq_false c4,Bool.and_false,Bool.or_self,Bool.or_self,Bool.not_false,Bool.true_and]
          rw[EC]
          refine aE Tryz.func30 aa rfl rfl rfl fun X0=> ?_
          simp only[ay]
          (repeat(first|refine gk fun K hK=> ?_|refine zs2 ?_));refine qI ?_;(repeat(first|refine gk fun K hK=> ?_|refine zs2 ?_));refine qH ?_;(repeat(first|refine gk fun K hK=> ?_|refine zs2 ?_))
          refine au ?_
          (repeat(first|refine gk fun K hK=> ?_|refine zs2 ?_));refine aS ?_;(repeat(first|refine gk fun K hK=> ?_|refine zs2 ?_))
          (refine aw (ak (sl':=[(1, .pt (dL dim m den)),(3,zI 0)]) (ow':=[]) az aB) ?_)
          refine aJ (fun r s=>∃k,k≤m.length∧r=m.length-k∧(∀l∈m.take k,l.length≤10)∧s=⟨[(1, .pt (dL dim m den)),(3,zI (k:Nat))],[]⟩) (m:=m.length) ⟨0,Nat.zero_le _,rfl,fun z h=>absurd h (by simp),rfl⟩ fun r s hs=> ?_
          obtain⟨k,hk,rfl,hin,rfl⟩:=hs
          by_cases hkl:k<m.length
          · obtain⟨l,hl⟩:=get_some hkl
            by_cases hb:l.length≤10
            · (repeat(first|refine gk fun K hK=> ?_|refine zs2 ?_));refine ib ?_;(repeat(first|refine gk fun K hK=> ?_|refine zs2 ?_))
              refine ao ?_
              (repeat(first|refine gk fun K hK=> ?_|refine zs2 ?_));refine uq ?_;(repeat(first|refine gk fun K hK=> ?_|refine zs2 ?_))
              refine au ?_
              (repeat(first|refine gk fun K hK=> ?_|refine zs2 ?_));refine a9 ?_;(repeat(first|refine gk fun K hK=> ?_|refine zs2 ?_))
              simp only[nx,inB]
              exact⟨m.length-(k+1),_,by omega,(ak (sl':=[(1, .pt (dL dim m den)),(3,zI ((k+1:Nat):Int))]) (ow':=[]) az aB),k+1,by omega,rfl,fun x hx=>by
                rw[bc hl,List.mem_append]at hx
                rcases hx with hx|hx
                · exact hin x hx
                · rw[List.mem_singleton.1 hx];exact hb,rfl⟩
            · have EZ : m.all (fun l => decide (l.length ≤ 10)) = false := by
                rw[List.all_eq_false]
                exact⟨l,List.mem_of_getElem? hl,by simpa using hb⟩
              (repeat(first|refine gk fun K hK=> ?_|refine zs2 ?_));refine ib ?_;(repeat(first|refine gk fun K hK=> ?_|refine zs2 ?_))
              refine ao ?_
              (repeat(first|refine gk fun K hK=> ?_|refine zs2 ?_));refine uq ?_;(repeat(first|refine gk fun K hK=> ?_|refine zs2 ?_))
              refine ao ?_
              (repeat(first|refine gk fun K hK=> ?_|refine zs2 ?_));refine bE ?_;(repeat(first|refine gk fun K hK=> ?_|refine zs2 ?_))
              rw[EZ]
              exact⟨_,Sh.refl, .one (.tmp 2) _ rfl (.tmp 2 rfl)⟩
          · obtain rfl:k=m.length:=by omega
            have EZ:m.all (fun l=>decide (l.length≤10))=true:=by
              rw[List.all_eq_true]
              intro l hl
              exact decide_eq_true (hin l (by rw[List.take_length];exact hl))
            (repeat(first|refine gk fun K hK=> ?_|refine zs2 ?_));refine ib ?_;(repeat(first|refine gk fun K hK=> ?_|refine zs2 ?_))
            refine au ?_
            (repeat(first|refine gk fun K hK=> ?_|refine zs2 ?_));refine bE ?_;(repeat(first|refine gk fun K hK=> ?_|refine zs2 ?_))
            rw[EZ]
            exact⟨_,Sh.refl, .one (.tmp 2) _ rfl (.tmp 2 rfl)⟩
    · have h8:decide ((m.length:Int)>8)=false:=decide_eq_false (by omega)
      have h70:decide ((m.length:Int)>70)=false:=decide_eq_false (by omega)
      have EC:lgt dim m=m.all (fun l=>decide (l.length≤10)):=by unfold lgt;rw[decide_eq_false c1,decide_eq_false c2,decide_eq_false (show¬70<m.length by omega),Bool.false_and,Bool.or_self,Bool.or_self,Bool.not_false,Bool.true_and]
      rw[EC]
      refine aE Tryz.func30 aa rfl rfl rfl fun X0=> ?_
      simp only[ay]
      (repeat(first|refine gk fun K hK=> ?_|refine zs2 ?_));refine qI ?_;(repeat(first|refine gk fun K hK=> ?_|refine zs2 ?_));refine qH ?_;(repeat(first|refine gk fun K hK=> ?_|refine zs2 ?_))
      refine au ?_
      (repeat(first|refine gk fun K hK=> ?_|refine zs2 ?_));refine aS ?_;(repeat(first|refine gk fun K hK=> ?_|refine zs2 ?_))
      (refine aw (ak (sl':=[(1, .pt (dL dim m den)),(3,zI 0)]) (ow':=[]) az aB) ?_)
      refine aJ (fun r s=>∃k,k≤m.length∧r=m.length-k∧(∀l∈m.take k,l.length≤10)∧s=⟨[(1, .pt (dL dim m den)),(3,zI (k:Nat))],[]⟩) (m:=m.length) ⟨0,Nat.zero_le _,rfl,fun z h=>absurd h (by simp),rfl⟩ fun r s hs=> ?_
      obtain⟨k,hk,rfl,hin,rfl⟩:=hs
      by_cases hkl:k<m.length
      · obtain⟨l,hl⟩:=get_some hkl
        by_cases hb:l.length≤10
        · (repeat(first|refine gk fun K hK=> ?_|refine zs2 ?_));refine ib ?_;(repeat(first|refine gk fun K hK=> ?_|refine zs2 ?_))
          refine ao ?_
          (repeat(first|refine gk fun K hK=> ?_|refine zs2 ?_));refine uq ?_;(repeat(first|refine gk fun K hK=> ?_|refine zs2 ?_))
          refine au ?_
          (repeat(first|refine gk fun K hK=> ?_|refine zs2 ?_));refine a9 ?_;(repeat(first|refine gk fun K hK=> ?_|refine zs2 ?_))
          simp only[nx,inB]
          exact⟨m.length-(k+1),_,by omega,(ak (sl':=[(1, .pt (dL dim m den)),(3,zI ((k+1:Nat):Int))]) (ow':=[]) az aB),k+1,by omega,rfl,fun x hx=>by
            rw[bc hl,List.mem_append]at hx
            rcases hx with hx|hx
            · exact hin x hx
            · rw[List.mem_singleton.1 hx];exact hb,rfl⟩
        · have EZ : m.all (fun l => decide (l.length ≤ 10)) = false := by
            rw[List.all_eq_false]
            exact⟨l,List.mem_of_getElem? hl,by simpa using hb⟩
          (repeat(first|refine gk fun K hK=> ?_|refine zs2 ?_));refine ib ?_;(repeat(first|refine gk fun K hK=> ?_|refine zs2 ?_))
          refine ao ?_
          (repeat(first|refine gk fun K hK=> ?_|refine zs2 ?_));refine uq ?_;(repeat(first|refine gk fun K hK=> ?_|refine zs2 ?_))
          refine ao ?_
          (repeat(first|refine gk fun K hK=> ?_|refine zs2 ?_));refine bE ?_;(repeat(first|refine gk fun K hK=> ?_|refine zs2 ?_))
          rw[EZ]
          exact⟨_,Sh.refl, .one (.tmp 2) _ rfl (.tmp 2 rfl)⟩
      · obtain rfl:k=m.length:=by omega
        have EZ:m.all (fun l=>decide (l.length≤10))=true:=by
          rw[List.all_eq_true]
          intro l hl
          exact decide_eq_true (hin l (by rw[List.take_length];exact hl))
        (repeat(first|refine gk fun K hK=> ?_|refine zs2 ?_));refine ib ?_;(repeat(first|refine gk fun K hK=> ?_|refine zs2 ?_))
        refine au ?_
        (repeat(first|refine gk fun K hK=> ?_|refine zs2 ?_));refine bE ?_;(repeat(first|refine gk fun K hK=> ?_|refine zs2 ?_))
        rw[EZ]
        exact⟨_,Sh.refl, .one (.tmp 2) _ rfl (.tmp 2 rfl)⟩
end DW
end
end Go.Proofs.YtcgjmdpcplhanaaGreat
