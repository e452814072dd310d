/- Lemmas for the law: E34 -/
import Derived.Test.YtcgjmdpcplhanaaGreatZs13
namespace Go.Proofs.YtcgjmdpcplhanaaGreat
section
abbrev vO:=@List.all_eq_false
theorem RK{p q:Prop}(h:q)(f:Wq q->p:=by(intro hW;((first|(refine aLs rfl rfl rfl rfl ?_ ?_;(focus(apply bz;(conv=>lhs;whnf);(first|done|exact rfl|(apply br;(first|(apply aD;omega)|(apply aG;omega)|assumption|(simp;done)))))))|refine aLw rfl rfl rfl rfl cI zb14 ?_));exact hW.out)):p:=f ⟨h⟩
theorem zC{p q:Prop}(h:q)(f:Wq q->p:=by(intro hW;((first|(refine aLs rfl rfl rfl rfl ?_ ?_;(focus(apply bz;(conv=>lhs;whnf);(first|done|exact rfl|(apply br;(first|(apply aD;omega)|(apply aG;omega)|assumption|(simp;done)))))))|refine aLw rfl rfl rfl rfl cI yw ?_));exact hW.out)):p:=f ⟨h⟩
theorem Qz{p q:Prop}(h:q)(f:Wq q->p:=by(intro hW;(refine nO ?_;refine vK ?_;refine ff ?_;refine Eg ?_;refine zs4 ?_;refine J2 ?_;refine jO ?_;refine J2 ?_;refine jO ?_;refine RK ?_;refine nP ?_;refine zs4 ?_;refine zC ?_;refine jO ?_;refine zC ?_;refine jO ?_);exact hW.out)):p:=f ⟨h⟩
theorem zB{p q:Prop}(h:q)(f:Wq q->p:=by(intro hW;((first|(refine aLs rfl rfl rfl rfl ?_ ?_;(focus(apply bz;(conv=>lhs;whnf);(first|done|exact rfl|(apply br;(first|(apply aD;omega)|(apply aG;omega)|assumption|(simp;done)))))))|refine aLw rfl rfl rfl rfl cI vN ?_));exact hW.out)):p:=f ⟨h⟩
theorem Dm{p q:Prop}(h:q)(f:Wq q->p:=by(intro hW;(refine rH ?_;refine lT ?_;refine zs5 ?_;refine zs7 ?_;refine aQ ?_);exact hW.out)):p:=f ⟨h⟩
theorem zs141{p q:Prop}(h:q)(f:Wq q->p:=by(intro hW;((first|(refine Lo rfl rfl rfl rfl ?_ ?_;(focus(apply bz;exact rfl)))|(refine aLs rfl rfl rfl rfl ?_ ?_;(focus(apply bz;(conv=>lhs;whnf);(first|done|exact rfl|(apply br;(first|(apply aD;omega)|(apply aG;omega)|assumption|(simp;done)))))))|refine aLw rfl rfl rfl rfl cI zb2 ?_));exact hW.out)):p:=f ⟨h⟩
theorem zs143{p q:Prop}(h:q)(f:Wq q->p:=by(intro hW;((first|(refine aLs rfl rfl rfl rfl ?_ ?_;(focus(apply bz;(conv=>lhs;whnf);(first|done|exact rfl|(apply br;(first|(apply aD;omega)|(apply aG;omega)|assumption|(simp;done)))))))|refine aLw rfl rfl rfl rfl cI zb6 ?_));exact hW.out)):p:=f ⟨h⟩
theorem zs138{p q:Prop}(h:q)(f:Wq q->p:=by(intro hW;((first|(refine aLs0 rfl rfl rfl rfl ?_ ?_;(focus(apply bz;(conv=>lhs;whnf);(first|done|exact rfl|(apply br;(first|(apply aD;omega)|(apply aG;omega)|assumption|(simp;done)))))))|refine aLw rfl rfl rfl rfl cI uC ?_));exact hW.out)):p:=f ⟨h⟩
theorem zs142{p q:Prop}(h:q)(f:Wq q->p:=by(intro hW;((first|(refine Lo rfl rfl rfl rfl ?_ ?_;(focus(apply bz;exact rfl)))|(refine aLs rfl rfl rfl rfl ?_ ?_;(focus(apply bz;(conv=>lhs;whnf);(first|done|exact rfl|(apply br;(first|(apply aD;omega)|(apply aG;omega)|assumption|(simp;done)))))))|refine aLw rfl rfl rfl rfl cI yv ?_));exact hW.out)):p:=f ⟨h⟩
theorem zs139{p q:Prop}(h:q)(f:Wq q->p:=by(intro hW;((first|(refine Lo rfl rfl rfl rfl ?_ ?_;(focus(apply bz;exact rfl)))|(refine aLs rfl rfl rfl rfl ?_ ?_;(focus(apply bz;(conv=>lhs;whnf);(first|done|exact rfl|(apply br;(first|(apply aD;omega)|(apply aG;omega)|assumption|(simp;done)))))))|refine aLw rfl rfl rfl rfl cI yw ?_));exact hW.out)):p:=f ⟨h⟩
theorem zs140{p q:Prop}(h:q)(f:Wq q->p:=by(intro hW;((first|(refine Lo rfl rfl rfl rfl ?_ ?_;(focus(apply bz;exact rfl)))|(refine aLs rfl rfl rfl rfl ?_ ?_;(focus(apply bz;(conv=>lhs;whnf);(first|done|exact rfl|(apply br;(first|(apply aD;omega)|(apply aG;omega)|assumption|(simp;done)))))))|refine aLw rfl rfl rfl rfl cI zb1 ?_));exact hW.out)):p:=f ⟨h⟩
theorem zx{p q:Prop}(h:q)(f:Wq q->p:=by(intro hW;(refine nO ?_;refine zs93 ?_;refine zs4 ?_;refine zC ?_;refine jO ?_;refine Ei ?_;refine vJ ?_;refine zs138 ?_;refine zs139 ?_;refine zs140 ?_;refine zs141 ?_;refine zs142 ?_;refine zs143 ?_;refine mu ?_;refine zs4 ?_;refine zC ?_;refine jO ?_;refine Ei ?_;refine vJ ?_;refine mu ?_;refine aQ ?_);exact hW.out)):p:=f ⟨h⟩
theorem zs251{p q:Prop}(h:q)(f:Wq q->p:=by(intro hW;(refine iy ?_;refine uu ?_;refine aQ ?_);exact hW.out)):p:=f ⟨h⟩
theorem uw{p q:Prop}(h:q)(f:Wq q->p:=by(intro hW;(refine zs2 ?_;refine zs251 ?_;refine zs2 ?_);exact hW.out)):p:=f ⟨h⟩
theorem zs249{p q:Prop}(h:q)(f:Wq q->p:=by(intro hW;(refine iy ?_;refine uy ?_;refine uu ?_;refine aQ ?_);exact hW.out)):p:=f ⟨h⟩
theorem ux{p q:Prop}(h:q)(f:Wq q->p:=by(intro hW;(refine zs2 ?_;refine zs249 ?_;refine zs2 ?_);exact hW.out)):p:=f ⟨h⟩
theorem zs137{p q:Prop}(h:q)(f:Wq q->p:=by(intro hW;((first|(refine aLs rfl rfl rfl rfl ?_ ?_;(focus(apply bz;(conv=>lhs;whnf);(first|done|exact rfl|(apply br;(first|(apply aD;omega)|(apply aG;omega)|assumption|(simp;done)))))))|refine aLw rfl rfl rfl rfl cI zb28 ?_));exact hW.out)):p:=f ⟨h⟩
theorem QQ{p q:Prop}(h:q)(f:Wq q->p:=by(intro hW;(refine Qz ?_;refine zs137 ?_;refine nP ?_;refine cT ?_);exact hW.out)):p:=f ⟨h⟩
end
section
open Go.RowKit
namespace DW
set_option maxRecDepth 20000
set_option maxHeartbeats 2000000
theorem Oj{X:Nat->Prop}{w:World}{dim den:Int}{m:Mx.Mat}{v:Value}(h:AR X w (dL dim m den) v):∃u,v= .agg #[.int .i64 dim,u,.int .i64 den]/\AR X w (dM m) u:=by
 simp only[dL,AR,ASt,zI]at h;obtain⟨cs,rfl,u1,r1,e1,⟨rfl,_⟩,_,u2,r2,e2,h2,_,u3,r3,e3,⟨rfl,_⟩,_,rfl⟩:=h;have h3:=h2;obtain⟨a,c,rfl,_⟩:=h3;refine⟨_,?_,by simp only[dM,AR];exact h2⟩;have:cs.toList=[.int .i64 dim,.slice a (m.map dI).length c,.int .i64 den]:=by rw[e1,e2,e3];simp[Value.cells]
 exact jS _ (cM.1 this)
theorem vm(dim den:Int)(m:List (List Int))(hd:I64 dim)(hd2:I64 den)(hm:m.length<=1000000000)(hr:∀r∈m,r.length<=1000000000):Fn Tryz.prog 33 [dL dim m den] (zI (lck dim m den)):=by
 refine⟨enters_of Tryz.func33 ah rfl,fun X w vs hX hv=>?_⟩;simp only[ATp]at hv;obtain⟨v,rest,e,h1,rfl⟩:=hv;have:vs= #[v]:=cM.1 e;subst this;obtain⟨u,rfl,h2⟩:=Oj h1;exact(KU dim den m u hd hd2 hm hr w (Oi h2)).mono fun e w' ⟨h,hb⟩=>⟨_,h,G1 _,hb⟩
theorem Ik(d1 d2 e1 e2:Int)(a b:List (List Int))(ha:a.length<=1000000000)(ha2:∀l∈a,l.length<=1000000000):Fn Tryz.prog 35 [dL d1 a e1,dL d2 b e2] (.sc (.bool (decide (d1=d2)&&decide (e1=e2)&&decide (a=b)))):=by
 have LS:=Up a b ha ha2;generalize decide (a=b)=q at*;by_cases h1:d1=d2
 ·by_cases h2:e1=e2
  ·subst h1;subst h2;rw[aD (rfl:d1=d1),aD (rfl:e1=e1),Bool.and_self,qF];refine bg Tryz.func35 ah rfl rfl rfl fun X0=>?_;simp only[aP];refine ux ?_;refine Qz ?_;refine zB ?_;refine nP ?_;refine cn ?_;exact⟨_,Sh.refl,.one (.tmp 4) _ rfl (.tmp 4 rfl)⟩
  ·subst h1;have hd:decide (e1=e2)=false:=aG h2;rw[hd,Bool.and_false,qE];refine bg Tryz.func35 ah rfl rfl rfl fun X0=>?_;simp only[aP];refine ux ?_;refine QQ ?_;refine zs2 ?_;exact⟨_,Sh.refl,.one (.tmp 4) _ rfl (.tmp 4 rfl)⟩
 ·have hd:decide (d1=d2)=false:=aG h1;rw[hd,qE,qE];refine bg Tryz.func35 ah rfl rfl rfl fun X0=>?_;simp only[aP];refine ux ?_;refine QQ ?_;refine zs2 ?_;exact⟨_,Sh.refl,.one (.tmp 4) _ rfl (.tmp 4 rfl)⟩
def lgt(dim:Int)(m:List (List Int)):Bool:=!(decide (dim=6)||(decide (8<m.length)&&decide (m.length<=64))||decide (70<m.length))&&m.all (fun l=>decide (l.length<=10))
theorem ID(dim den:Int)(m:List (List Int)):Fn Tryz.prog 30 [dL dim m den] (.sc (.bool (lgt dim m))):=by
 have W1:=uK dim 6 6;by_cases c1:dim=6
 ·subst c1;rw[show(decide ((6:Int)<=6)&&decide ((6:Int)<=6))=true from rfl]at W1;have EC:lgt 6 m=false:=rfl;refine bg Tryz.func30 ah rfl rfl rfl fun X0=>?_;simp only[aP];refine uw ?_;refine zx ?_;refine bA ?_;refine jL ?_;rw[EC];exact⟨_,Sh.refl, .one (.tmp 2) _ rfl (.tmp 2 rfl)⟩
 ·rw[show(decide (6<=dim)&&decide (dim<=6))=false by rw[zS,bW,bW];omega]at W1;by_cases c2:8<m.length
  ·have h8:decide ((m.length:Int)>8)=true:=aD aa;by_cases c3:m.length<=64
   ·have h64:decide ((m.length:Int)<=64)=true:=aD aa;have EC:lgt dim m=false:=by unfold lgt;rw[aD c2,aD c3];simp
    refine bg Tryz.func30 ah rfl rfl rfl fun X0=>?_;simp only[aP];refine uw ?_;refine zx ?_;refine bA ?_;refine jL ?_;rw[EC];exact⟨_,Sh.refl, .one (.tmp 2) _ rfl (.tmp 2 rfl)⟩
   ·have h64:decide ((m.length:Int)<=64)=false:=aG aa;by_cases c4:70<m.length
    ·have h70:decide ((m.length:Int)>70)=true:=aD aa;have EC:lgt dim m=false:=by unfold lgt;rw[aD c4];simp
     refine bg Tryz.func30 ah rfl rfl rfl fun X0=>?_;simp only[aP];refine uw ?_;refine zx ?_;refine bA ?_;refine jL ?_;rw[EC];exact⟨_,Sh.refl, .one (.tmp 2) _ rfl (.tmp 2 rfl)⟩
    ·have h70:decide ((m.length:Int)>70)=false:=aG aa;have EC:lgt dim m=m.all (fun l=>decide (l.length<=10)):=by unfold lgt;rw[aG c1,aG c3,aG c4,Bool.and_false,Bool.or_self,Bool.or_self,Bool.not_false,qF]
     rw[EC];refine bg Tryz.func30 ah rfl rfl rfl fun X0=>?_;simp only[aP];refine uw ?_;refine zx ?_;refine nL ?_
     (refine av (ay (sl':=[(1, .pt (dL dim m den)),(3,zI 0)]) (ow':=[]) aF aH) ?_)
     refine bh (fun r s=>∃k,k<=m.length/\r=m.length-k/\(∀l∈m.take k,l.length<=10)/\s=⟨[(1, .pt (dL dim m den)),(3,zI (k:Nat))],[]⟩) (m:=m.length) ⟨0,aO _,rfl,fun z h=>absurd h aU,rfl⟩ fun r s hs=>?_;obtain⟨k,hk,rfl,hin,rfl⟩:=hs;by_cases hkl:k<m.length
     ·obtain⟨l,hl⟩:=get_some hkl;by_cases hb:l.length<=10
      ·refine nI ?_;refine bA ?_;refine Dm ?_;refine mQ ?_;simp only[nx,inB];exact⟨m.length-(k+1),_,by omega,(ay (sl':=[(1, .pt (dL dim m den)),(3,zI ((k+1:Nat):Int))]) (ow':=[]) aF aH),k+1,by omega,rfl,fun x hx=>by
        rw[bF hl,gy]at hx;rcases hx with hx|hx
        ·exact hin x hx
        ·rw[bL.1 hx];exact hb,rfl⟩
      ·have EZ : m.all (fun l => decide (l.length <= 10)) = false := by
        rw[vO];exact⟨l,bj hl,by simpa using hb⟩
       refine nI ?_;refine bA ?_;refine Dm ?_;refine bA ?_;refine jL ?_;rw[EZ];exact⟨_,Sh.refl, .one (.tmp 2) _ rfl (.tmp 2 rfl)⟩
     ·obtain rfl:k=m.length:=by omega
      have EZ:m.all (fun l=>decide (l.length<=10))=true:=by
       rw[cW];intro l hl;exact aD (hin l (by rw[gf];exact hl))
      refine nI ?_;refine bR ?_;refine jL ?_;rw[EZ];exact⟨_,Sh.refl, .one (.tmp 2) _ rfl (.tmp 2 rfl)⟩
  ·have h8:decide ((m.length:Int)>8)=false:=aG aa;have h70:decide ((m.length:Int)>70)=false:=aG aa;have EC:lgt dim m=m.all (fun l=>decide (l.length<=10)):=by unfold lgt;rw[aG c1,aG c2,aG (show¬70<m.length by omega),qE,Bool.or_self,Bool.or_self,Bool.not_false,qF]
   rw[EC];refine bg Tryz.func30 ah rfl rfl rfl fun X0=>?_;simp only[aP];refine uw ?_;refine zx ?_;refine nL ?_
   (refine av (ay (sl':=[(1, .pt (dL dim m den)),(3,zI 0)]) (ow':=[]) aF aH) ?_)
   refine bh (fun r s=>∃k,k<=m.length/\r=m.length-k/\(∀l∈m.take k,l.length<=10)/\s=⟨[(1, .pt (dL dim m den)),(3,zI (k:Nat))],[]⟩) (m:=m.length) ⟨0,aO _,rfl,fun z h=>absurd h aU,rfl⟩ fun r s hs=>?_;obtain⟨k,hk,rfl,hin,rfl⟩:=hs;by_cases hkl:k<m.length
   ·obtain⟨l,hl⟩:=get_some hkl;by_cases hb:l.length<=10
    ·refine nI ?_;refine bA ?_;refine Dm ?_;refine mQ ?_;simp only[nx,inB];exact⟨m.length-(k+1),_,by omega,(ay (sl':=[(1, .pt (dL dim m den)),(3,zI ((k+1:Nat):Int))]) (ow':=[]) aF aH),k+1,by omega,rfl,fun x hx=>by
      rw[bF hl,gy]at hx;rcases hx with hx|hx
      ·exact hin x hx
      ·rw[bL.1 hx];exact hb,rfl⟩
    ·have EZ : m.all (fun l => decide (l.length <= 10)) = false := by
      rw[vO];exact⟨l,bj hl,by simpa using hb⟩
     refine nI ?_;refine bA ?_;refine Dm ?_;refine bA ?_;refine jL ?_;rw[EZ];exact⟨_,Sh.refl, .one (.tmp 2) _ rfl (.tmp 2 rfl)⟩
   ·obtain rfl:k=m.length:=by omega
    have EZ:m.all (fun l=>decide (l.length<=10))=true:=by
     rw[cW];intro l hl;exact aD (hin l (by rw[gf];exact hl))
    refine nI ?_;refine bR ?_;refine jL ?_;rw[EZ];exact⟨_,Sh.refl, .one (.tmp 2) _ rfl (.tmp 2 rfl)⟩
end DW
end
end Go.Proofs.YtcgjmdpcplhanaaGreat
