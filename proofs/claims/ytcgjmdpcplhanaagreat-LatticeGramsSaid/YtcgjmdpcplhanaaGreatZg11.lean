/- Lemmas for the law: E15 E23 V21 M10 E17 E21 E27 L0 V22 V23 -/
import Derived.Test.YtcgjmdpcplhanaaGreatRows
import Derived.WalkKit
import Derived.ProofKit
import Derived.OpenShut
import Derived.ChangeOld
import Derived.ChangeSlices
import Derived.Below
import Derived.Lib.SmallJoins
import Derived.Deep.Slices
import Derived.Test.YtcgjmdpcplhanaaGreatZg10
namespace Go.Proofs.YtcgjmdpcplhanaaGreat
section
theorem Ae{p q:Prop}(h:q)(f:Wq q->p:=by(intro hW;((refine gar ?_;refine zs4 ?_;refine zs5 ?_;refine zs7 ?_;refine zs4 ?_;refine zs8 ?_;refine jH ?_;refine jG ?_;refine gB ?_;refine zs4 ?_;refine zs8 ?_;refine jH ?_;refine jG ?_;refine gw ?_;refine af ?_));exact hW.out)):p:=f ⟨h⟩
theorem GK{p q:Prop}(h:q)(f:Wq q->p:=by(intro hW;((refine zW ?_;refine aR ?_;refine aR ?_;refine dn ?_;refine bq ?_;refine aR ?_;refine aR ?_;refine dn ?_;refine bq ?_;refine sY ?_;refine cP ?_));exact hW.out)):p:=f ⟨h⟩
theorem vm{p q:Prop}(h:q)(f:Wq q->p:=by(intro hW;((refine gar ?_;refine zs4 ?_;refine zs4 ?_;refine dB ?_;refine aS ?_;refine zs5 ?_;refine zs7 ?_;refine zs4 ?_;refine zs8 ?_;refine zs8 ?_;refine vL ?_;refine mQ ?_;refine jH ?_;refine jG ?_;refine gB ?_;refine zs4 ?_;refine zs8 ?_;refine zs8 ?_;refine vL ?_;refine mQ ?_;refine jH ?_;refine jG ?_;refine gw ?_;refine af ?_));exact hW.out)):p:=f ⟨h⟩
theorem GJ{p q:Prop}(h:q)(f:Wq q->p:=by(intro hW;((refine vH ?_;refine aR ?_;refine aR ?_;refine dn ?_;refine bq ?_;refine aR ?_;refine aR ?_;refine dn ?_;refine bq ?_;refine gy ?_;refine zs41 ?_;refine cP ?_));exact hW.out)):p:=f ⟨h⟩
end
section
open Go.RowKit
namespace DW
theorem sgn_z(z:Int):sgn z=0↔z=0:=by unfold sgn;split<;>(try split)<;>omega
def fil(m:List (List Int)):List (List Int):=m.filter fun l=>!(l.all fun z=>decide (z=0))
theorem Gf(m:List (List Int))(l:List Int):fil (m++[l])=if l.all (fun z=>decide (z=0))=true then fil m else fil m++[l]:=by
 unfold fil;rw[List.filter_append];split<;>rename_i h<;>simp[h]
theorem JG(m:List (List Int)):(fil m).length<=m.length:=List.length_filter_le _ _
set_option maxRecDepth 20000
set_option maxHeartbeats 1000000
end DW
end
section
open Go.RowKit
namespace DW
theorem sO{M:Mx.Mat}{B:Nat}(h:Mx.Bd B M){r:List Int}(hr:r∈M){z:Int}(hz:z∈r):z.natAbs<=B:=by
 obtain⟨i,hi,e⟩:=List.getElem_of_mem hr;obtain⟨j,hj,e2⟩:=List.getElem_of_mem hz;have:=h i j;unfold Mx.at' Mx.rw at this;rw[List.getD_eq_getElem?_getD,List.getD_eq_getElem?_getD,List.getElem?_eq_getElem hi,e,Option.getD_some,List.getElem?_eq_getElem hj,e2]at this;exact this
theorem Iz{w:Nat}(h:w<=5):2*(50*11^w)<=3000000000:=by
 have:(11:Nat)^w<=11^5:=Nat.pow_le_pow_right (by omega) h;omega
set_option maxRecDepth 20000
set_option maxHeartbeats 2000000
end DW
end
section
open Go.RowKit Go.BigFrame
attribute [local go_sem ↓] Go.wp_at_zero Go.wp_at_succ
theorem IK{X:Nat}{M:Mx.Mat}(h:Mx.Bd X M)(k:Nat):Mx.Bd X (M.take k):=fun i j=>by
 have e:Mx.rw (M.take k) i=if i<k then Mx.rw M i else []:=by
  unfold Mx.rw;rw[List.getD_eq_getElem?_getD,List.getD_eq_getElem?_getD,List.getElem?_take];split<;>rfl
 unfold Mx.at';rw[e];split
 ·exact h i j
 ·simp
theorem MR.split{w:World}{v:Value}{n:Nat}{M:Mx.Mat}(h:MR w v n M):∃a cap,v= .slice a M.length cap/\M.length<=cap/\MR w (.slice a M.length cap) n M:=by
 obtain⟨a,cap,rfl,h2⟩:=h;exact⟨a,cap,rfl,h2.1,a,cap,rfl,h2⟩
end
section
namespace Mx
theorem Ln{n i:Nat}(hi:i<n)(f:Nat->Nat->Int)(h:∀l,l<n->f i l=0):D n f=0:=by
 have h1:=sS 0 0 n f i (f i) (f i) hi;rw[cK n _ f fun k j hk hj=>by
  unfold upd;split
  ·next e=>rw[e,h j hj];show 0*f i j+0*f i j=0;omega
  ·rfl]at h1
 rw[h1];omega
end Mx
end
section
open Go.RowKit
namespace DW
theorem ql{α:Type}{a b:List α}(hl:a.length=b.length)(h:a.take a.length=b.take a.length):a=b:=by
 rw[List.take_length]at h;rw[h,hl,List.take_length]
set_option maxRecDepth 20000
set_option maxHeartbeats 1000000
theorem KM(a b:List Int)(ha:a.length<=1000000000):Fn Tryz.prog 55 [dI a,dI b] (.sc (.bool (decide (a=b)))):=by
 refine aP Tryz.func55 aa rfl rfl rfl fun X0=>?_;simp only[aD];by_cases hl:a.length=b.length
 ·(repeat(first|refine gk fun K hK=>?_|refine zs2 ?_));refine bF ?_;(repeat(first|refine gk fun K hK=>?_|refine zs2 ?_));refine py ?_;(repeat(first|refine gk fun K hK=>?_|refine zs2 ?_))
  refine az ?_
  (repeat(first|refine gk fun K hK=>?_|refine zs2 ?_));refine aH ?_;(repeat(first|refine gk fun K hK=>?_|refine zs2 ?_))
  (refine ak (ai (sl':=[(0,dI a),(1,dI b),(5,zI 0)]) (ow':=[]) an aw) ?_)
  refine aE (fun r s=>∃k,k<=a.length/\r=a.length-k/\a.take k=b.take k/\s=⟨[(0,dI a),(1,dI b),(5,zI (k:Nat))],[]⟩) (m:=a.length) ⟨0,Nat.zero_le _,rfl,rfl,rfl⟩ fun r s hs=>?_;obtain⟨k,hk,rfl,he,rfl⟩:=hs;by_cases hkl:k<a.length
  ·obtain⟨x,hx⟩:=get_some hkl;obtain⟨y,hy⟩:=get_some (m:=b) (k:=k) (by omega);by_cases hxy:x=y
   ·(repeat(first|refine gk fun K hK=>?_|refine zs2 ?_));refine aK ?_;(repeat(first|refine gk fun K hK=>?_|refine zs2 ?_))
    refine av ?_
    (repeat(first|refine gk fun K hK=>?_|refine zs2 ?_));refine GK ?_;(repeat(first|refine gk fun K hK=>?_|refine zs2 ?_))
    refine az ?_
    (repeat(first|refine gk fun K hK=>?_|refine zs2 ?_));refine aX ?_;(repeat(first|refine gk fun K hK=>?_|refine zs2 ?_))
    simp only[nx,inB];exact⟨a.length-(k+1),_,by omega,(ai (sl':=[(0,dI a),(1,dI b),(5,zI ((k+1:Nat):Int))]) (ow':=[]) an aw),k+1,by omega,rfl,by rw[ba hx,ba hy,he,hxy],rfl⟩
   ·have EC:decide (a=b)=false:=decide_eq_false fun e=>hxy (by rw[e,hy]at hx;cases hx;rfl)
    (repeat(first|refine gk fun K hK=>?_|refine zs2 ?_));refine aK ?_;(repeat(first|refine gk fun K hK=>?_|refine zs2 ?_))
    refine av ?_
    (repeat(first|refine gk fun K hK=>?_|refine zs2 ?_));refine GK ?_;(repeat(first|refine gk fun K hK=>?_|refine zs2 ?_))
    refine av ?_
    (repeat(first|refine gk fun K hK=>?_|refine zs2 ?_));refine bF ?_;(repeat(first|refine gk fun K hK=>?_|refine zs2 ?_))
    rw[EC];exact⟨_,Sh.refl,.one (.tmp 4) _ rfl (.tmp 4 rfl)⟩
  ·obtain rfl:k=a.length:=by omega
   have EC:decide (a=b)=true:=decide_eq_true (ql hl he)
   (repeat(first|refine gk fun K hK=>?_|refine zs2 ?_));refine aK ?_;(repeat(first|refine gk fun K hK=>?_|refine zs2 ?_))
   refine az ?_
   (repeat(first|refine gk fun K hK=>?_|refine zs2 ?_));refine bF ?_;(repeat(first|refine gk fun K hK=>?_|refine zs2 ?_))
   rw[EC];exact⟨_,Sh.refl,.one (.tmp 4) _ rfl (.tmp 4 rfl)⟩
 ·have EC:decide (a=b)=false:=decide_eq_false fun e=>hl (by rw[e])
  (repeat(first|refine gk fun K hK=>?_|refine zs2 ?_));refine bF ?_;(repeat(first|refine gk fun K hK=>?_|refine zs2 ?_));refine py ?_;(repeat(first|refine gk fun K hK=>?_|refine zs2 ?_))
  refine av ?_
  (repeat(first|refine gk fun K hK=>?_|refine zs2 ?_));refine bF ?_;(repeat(first|refine gk fun K hK=>?_|refine zs2 ?_))
  rw[EC];exact⟨_,Sh.refl,.one (.tmp 4) _ rfl (.tmp 4 rfl)⟩
theorem zj(a b:List (List Int))(ha:a.length<=1000000000)(ha2:∀l∈a,l.length<=1000000000):Fn Tryz.prog 19 [dM a,dM b] (.sc (.bool (decide (a=b)))):=by
 refine aP Tryz.func19 aa rfl rfl rfl fun X0=>?_;simp only[aD];by_cases hl:a.length=b.length
 ·(repeat(first|refine gk fun K hK=>?_|refine zs2 ?_));refine bF ?_;(repeat(first|refine gk fun K hK=>?_|refine zs2 ?_));refine py ?_;(repeat(first|refine gk fun K hK=>?_|refine zs2 ?_))
  refine az ?_
  (repeat(first|refine gk fun K hK=>?_|refine zs2 ?_));refine aH ?_;(repeat(first|refine gk fun K hK=>?_|refine zs2 ?_))
  (refine ak (ai (sl':=[(0,dM a),(1,dM b),(5,zI 0)]) (ow':=[]) an aw) ?_)
  refine aE (fun r s=>∃k,k<=a.length/\r=a.length-k/\a.take k=b.take k/\s=⟨[(0,dM a),(1,dM b),(5,zI (k:Nat))],[]⟩) (m:=a.length) ⟨0,Nat.zero_le _,rfl,rfl,rfl⟩ fun r s hs=>?_;obtain⟨k,hk,rfl,he,rfl⟩:=hs;by_cases hkl:k<a.length
  ·obtain⟨x,hx⟩:=get_some hkl;obtain⟨y,hy⟩:=get_some (m:=b) (k:=k) (by omega);have IN:=KM x y (ha2 x (List.mem_of_getElem? hx));by_cases hxy:x=y
   ·rw[decide_eq_true hxy]at IN
    (repeat(first|refine gk fun K hK=>?_|refine zs2 ?_));refine aK ?_;(repeat(first|refine gk fun K hK=>?_|refine zs2 ?_))
    refine av ?_
    (repeat(first|refine gk fun K hK=>?_|refine zs2 ?_));refine GJ ?_;(repeat(first|refine gk fun K hK=>?_|refine zs2 ?_))
    refine az ?_
    (repeat(first|refine gk fun K hK=>?_|refine zs2 ?_));refine aX ?_;(repeat(first|refine gk fun K hK=>?_|refine zs2 ?_))
    simp only[nx,inB];exact⟨a.length-(k+1),_,by omega,(ai (sl':=[(0,dM a),(1,dM b),(5,zI ((k+1:Nat):Int))]) (ow':=[]) an aw),k+1,by omega,rfl,by rw[ba hx,ba hy,he,hxy],rfl⟩
   ·rw[decide_eq_false hxy]at IN;have EC:decide (a=b)=false:=decide_eq_false fun e=>hxy (by rw[e,hy]at hx;cases hx;rfl)
    (repeat(first|refine gk fun K hK=>?_|refine zs2 ?_));refine aK ?_;(repeat(first|refine gk fun K hK=>?_|refine zs2 ?_))
    refine av ?_
    (repeat(first|refine gk fun K hK=>?_|refine zs2 ?_));refine GJ ?_;(repeat(first|refine gk fun K hK=>?_|refine zs2 ?_))
    refine av ?_
    (repeat(first|refine gk fun K hK=>?_|refine zs2 ?_));refine bF ?_;(repeat(first|refine gk fun K hK=>?_|refine zs2 ?_))
    rw[EC];exact⟨_,Sh.refl,.one (.tmp 4) _ rfl (.tmp 4 rfl)⟩
  ·obtain rfl:k=a.length:=by omega
   have EC:decide (a=b)=true:=decide_eq_true (ql hl he)
   (repeat(first|refine gk fun K hK=>?_|refine zs2 ?_));refine aK ?_;(repeat(first|refine gk fun K hK=>?_|refine zs2 ?_))
   refine az ?_
   (repeat(first|refine gk fun K hK=>?_|refine zs2 ?_));refine bF ?_;(repeat(first|refine gk fun K hK=>?_|refine zs2 ?_))
   rw[EC];exact⟨_,Sh.refl,.one (.tmp 4) _ rfl (.tmp 4 rfl)⟩
 ·have EC:decide (a=b)=false:=decide_eq_false fun e=>hl (by rw[e])
  (repeat(first|refine gk fun K hK=>?_|refine zs2 ?_));refine bF ?_;(repeat(first|refine gk fun K hK=>?_|refine zs2 ?_));refine py ?_;(repeat(first|refine gk fun K hK=>?_|refine zs2 ?_))
  refine av ?_
  (repeat(first|refine gk fun K hK=>?_|refine zs2 ?_));refine bF ?_;(repeat(first|refine gk fun K hK=>?_|refine zs2 ?_))
  rw[EC];exact⟨_,Sh.refl,.one (.tmp 4) _ rfl (.tmp 4 rfl)⟩
end DW
end
section
open Go.RowKit
namespace DW
def smq(n:Nat):Bool:=decide ((5<n/\n<=64)\/70<n)
def smL(m:List (List Int)):Bool:=!(smq m.length)&&m.all fun l=>!(smq l.length)
theorem Kp{m:List (List Int)}{l:List Int}(h:l∈m)(h2:smq l.length=true):smL m=false:=by
 unfold smL;rw[Bool.and_eq_false_iff];right;rw[List.all_eq_false];exact⟨l,h,by rw[h2];decide⟩
set_option maxRecDepth 20000
set_option maxHeartbeats 1000000
theorem Fe(m:List (List Int)):Fn Tryz.prog 14 [dM m] (.sc (.bool (smL m))):=by
 refine aP Tryz.func14 aa rfl rfl rfl fun X0=>?_;simp only[aD];by_cases hq:smq m.length=true
 ·have EC:smL m=false:=by unfold smL;rw[hq];rfl
  have hq':=of_decide_eq_true hq;rcases hq' with⟨h1,h2⟩|h1
  ·have d1:decide ((m.length:Int)>5)=true:=decide_eq_true (by omega);have d2:decide ((m.length:Int)<=64)=true:=decide_eq_true (by omega)
   (repeat(first|refine gk fun K hK=>?_|refine zs2 ?_));refine bF ?_;(repeat(first|refine gk fun K hK=>?_|refine zs2 ?_));refine Ae ?_;(repeat(first|refine gk fun K hK=>?_|refine zs2 ?_))
   refine av ?_
   (repeat(first|refine gk fun K hK=>?_|refine zs2 ?_));refine bF ?_;(repeat(first|refine gk fun K hK=>?_|refine zs2 ?_))
   rw[EC];exact⟨_,Sh.refl, .one (.tmp 2) _ rfl (.tmp 2 rfl)⟩
  ·have d1:decide ((m.length:Int)>5)=true:=decide_eq_true (by omega);have d2:decide ((m.length:Int)<=64)=false:=decide_eq_false (by omega)
   (repeat(first|refine gk fun K hK=>?_|refine zs2 ?_));refine bF ?_;(repeat(first|refine gk fun K hK=>?_|refine zs2 ?_));refine Ae ?_;(repeat(first|refine gk fun K hK=>?_|refine zs2 ?_))
   refine av ?_
   (repeat(first|refine gk fun K hK=>?_|refine zs2 ?_));refine bF ?_;(repeat(first|refine gk fun K hK=>?_|refine zs2 ?_))
   rw[EC];exact⟨_,Sh.refl, .one (.tmp 2) _ rfl (.tmp 2 rfl)⟩
 ·have hq0:smq m.length=false:=by simpa using hq
  have hq':=of_decide_eq_false hq0;have hml:m.length<=70:=by omega
  have hc:m.length<=5\/(64<m.length/\m.length<=70):=by omega
  rcases hc with h1|⟨h1,h2⟩;all_goals
   first
   |have d1:decide ((m.length:Int)>5)=false:=decide_eq_false (by omega)
   | (have d1 : decide ((m.length : Int) > 5) = true := decide_eq_true (by omega)
      have d2:decide ((m.length:Int)<=64)=false:=decide_eq_false (by omega))
   (repeat(first|refine gk fun K hK=>?_|refine zs2 ?_));refine bF ?_;(repeat(first|refine gk fun K hK=>?_|refine zs2 ?_));refine Ae ?_;(repeat(first|refine gk fun K hK=>?_|refine zs2 ?_))
   refine az ?_
   (repeat(first|refine gk fun K hK=>?_|refine zs2 ?_));refine aH ?_;(repeat(first|refine gk fun K hK=>?_|refine zs2 ?_))
   (refine ak (ai (sl':=[(0,dM m),(3,zI 0)]) (ow':=[]) an aw) ?_)
   refine aE (fun r s=>∃k,k<=m.length/\r=m.length-k/\(m.take k).all (fun l=> !(smq l.length))=true/\s=⟨[(0,dM m),(3,zI (k:Nat))],[]⟩) (m:=m.length) ⟨0,Nat.zero_le _,rfl,rfl,rfl⟩ fun r s hs=>?_;obtain⟨k,hk,rfl,he,rfl⟩:=hs;by_cases hkl:k<m.length
   ·obtain⟨l,hl⟩:=get_some hkl;by_cases hql:smq l.length=true
    ·have EC:=Kp (List.mem_of_getElem? hl) hql;have hql':=of_decide_eq_true hql;have d3:decide ((l.length:Int)>5)=true:=decide_eq_true (by omega);rcases hql' with⟨h3,h4⟩|h3
     ·have d4:decide ((l.length:Int)<=64)=true:=decide_eq_true (by omega)
      (repeat(first|refine gk fun K hK=>?_|refine zs2 ?_));refine aK ?_;(repeat(first|refine gk fun K hK=>?_|refine zs2 ?_))
      refine av ?_
      (repeat(first|refine gk fun K hK=>?_|refine zs2 ?_));refine vm ?_;(repeat(first|refine gk fun K hK=>?_|refine zs2 ?_))
      refine av ?_
      (repeat(first|refine gk fun K hK=>?_|refine zs2 ?_));refine bF ?_;(repeat(first|refine gk fun K hK=>?_|refine zs2 ?_))
      rw[EC];exact⟨_,Sh.refl, .one (.tmp 2) _ rfl (.tmp 2 rfl)⟩
     ·have d4:decide ((l.length:Int)<=64)=false:=decide_eq_false (by omega)
      (repeat(first|refine gk fun K hK=>?_|refine zs2 ?_));refine aK ?_;(repeat(first|refine gk fun K hK=>?_|refine zs2 ?_))
      refine av ?_
      (repeat(first|refine gk fun K hK=>?_|refine zs2 ?_));refine vm ?_;(repeat(first|refine gk fun K hK=>?_|refine zs2 ?_))
      refine av ?_
      (repeat(first|refine gk fun K hK=>?_|refine zs2 ?_));refine bF ?_;(repeat(first|refine gk fun K hK=>?_|refine zs2 ?_))
      rw[EC];exact⟨_,Sh.refl, .one (.tmp 2) _ rfl (.tmp 2 rfl)⟩
    ·have hql0:smq l.length=false:=by simpa using hql
     have hql':=of_decide_eq_false hql0;have he':(m.take (k+1)).all (fun l=> !(smq l.length))=true:=by rw[ba hl,List.all_append,he];simp[hql0]
     have hc2:l.length<=5\/(64<l.length/\l.length<=70):=by omega
     rcases hc2 with h3|⟨h3,h4⟩
     ·have d3:decide ((l.length:Int)>5)=false:=decide_eq_false (by omega)
      (repeat(first|refine gk fun K hK=>?_|refine zs2 ?_));refine aK ?_;(repeat(first|refine gk fun K hK=>?_|refine zs2 ?_))
      refine av ?_
      (repeat(first|refine gk fun K hK=>?_|refine zs2 ?_));refine vm ?_;(repeat(first|refine gk fun K hK=>?_|refine zs2 ?_))
      refine az ?_
      (repeat(first|refine gk fun K hK=>?_|refine zs2 ?_));refine aX ?_;(repeat(first|refine gk fun K hK=>?_|refine zs2 ?_))
      simp only[nx,inB];exact⟨m.length-(k+1),_,by omega,(ai (sl':=[(0,dM m),(3,zI ((k+1:Nat):Int))]) (ow':=[]) an aw),k+1,by omega,rfl,he',rfl⟩
     ·have d3:decide ((l.length:Int)>5)=true:=decide_eq_true (by omega);have d4:decide ((l.length:Int)<=64)=false:=decide_eq_false (by omega)
      (repeat(first|refine gk fun K hK=>?_|refine zs2 ?_));refine aK ?_;(repeat(first|refine gk fun K hK=>?_|refine zs2 ?_))
      refine av ?_
      (repeat(first|refine gk fun K hK=>?_|refine zs2 ?_));refine vm ?_;(repeat(first|refine gk fun K hK=>?_|refine zs2 ?_))
      refine az ?_
      (repeat(first|refine gk fun K hK=>?_|refine zs2 ?_));refine aX ?_;(repeat(first|refine gk fun K hK=>?_|refine zs2 ?_))
      simp only[nx,inB];exact⟨m.length-(k+1),_,by omega,(ai (sl':=[(0,dM m),(3,zI ((k+1:Nat):Int))]) (ow':=[]) an aw),k+1,by omega,rfl,he',rfl⟩
   ·obtain rfl:k=m.length:=by omega
    rw[List.take_length]at he;have EC:smL m=true:=by unfold smL;rw[hq0,he];rfl
    (repeat(first|refine gk fun K hK=>?_|refine zs2 ?_));refine aK ?_;(repeat(first|refine gk fun K hK=>?_|refine zs2 ?_))
    refine az ?_
    (repeat(first|refine gk fun K hK=>?_|refine zs2 ?_));refine bF ?_;(repeat(first|refine gk fun K hK=>?_|refine zs2 ?_))
    rw[EC];exact⟨_,Sh.refl, .one (.tmp 2) _ rfl (.tmp 2 rfl)⟩
end DW
end
section
open Go.RowKit
namespace DW
theorem qd(b o j:Nat):(⟨b,o,none⟩:Addr).add j=⟨b,o+j,none⟩:=Addr.add_mid b o j
theorem JX{X:Nat->Prop}{w:World}{l:List Int}{v:Value}(h:AR X w (dI l) v):∃a c,v= .slice a l.length c/\l.length<=c/\ZAt w a l:=by
 simp only[dI,AR]at h;obtain⟨a,c,rfl,h2,h3⟩:=h;rw[List.length_map]at h2;refine⟨a,c,by rw[List.length_map],h2,?_⟩;rcases h3 with h3|⟨b,o,rfl,_,hb,hs⟩
 ·exact .inl (by simpa using h3)
 ·refine .inr ⟨⟨b,o,none⟩,rfl,hb,fun k x hk=>?_⟩;obtain⟨u,h4,_,_,h7⟩:=ARs.at hs (i:=k) (d:=zI x) (by rw[List.getElem?_map,hk];rfl);simp only[AR]at h4;obtain⟨rfl,_⟩:=h4;have:=h7 0 (.int .i64 x) rfl;rw[qd];simpa using this
theorem xQ{X:Nat->Prop}{w:World}{m:List (List Int)}{v:Value}(h:AR X w (dM m) v):ZM w v m:=by
 simp only[dM,AR]at h;obtain⟨a,c,rfl,h2,h3⟩:=h;rw[List.length_map]at h2;refine⟨a,c,by rw[List.length_map],h2,?_⟩;rcases h3 with h3|⟨b,o,rfl,_,hb,hs⟩
 ·exact .inl (by simpa using h3)
 ·refine .inr ⟨⟨b,o,none⟩,rfl,hb,fun k l hk=>?_⟩;obtain⟨u,h4,_,_,h7⟩:=ARs.at hs (i:=k) (d:=dI l) (by rw[List.getElem?_map,hk];rfl);obtain⟨a',c',rfl,h8,h9⟩:=JX h4;have:=h7 0 _ rfl;rw[qd];exact⟨a',c',by simpa using this,h8,h9⟩
theorem Iu{X:Nat->Prop}{B:Nat}{w:World}{m:List (List Int)}{v:Value}(h:ZMB B w v m)(hX:∀b,X b->b<B):AR X w (dM m) v:=by
 obtain⟨a,cap,rfl,hc,h⟩:=h;simp only[dM,AR];refine⟨a,cap,by rw[List.length_map],by rw[List.length_map];exact hc,?_⟩;rcases h with h|⟨g,rfl,h1,hg,h2⟩
 ·exact .inl (by rw[h];rfl)
 ·refine .inr ⟨g,0,rfl,fun hx=>by have:=hX g hx;omega,hg,ARs.mk fun i d hd=>?_⟩;rw[List.getElem?_map]at hd;obtain⟨l,hl,rfl⟩:=Option.map_eq_some_iff.1 hd;obtain⟨g',h3,h4,h5⟩:=h2 i l hl;refine⟨.slice (some ⟨g',0,none⟩) l.length l.length,?_,rfl,rfl,fun j u hj=>?_⟩
  ·simp only[dI,AR];refine⟨_,_,by rw[List.length_map],by rw[List.length_map];exact Nat.le_refl _,.inr ⟨g',0,rfl,fun hx=>by have:=hX g' hx;omega,h5.lt,ARs.mk fun k d hd=>?_⟩⟩;rw[List.getElem?_map]at hd;obtain⟨z,hz,rfl⟩:=Option.map_eq_some_iff.1 hd;refine⟨.int .i64 z,by simp only[zI,AR];exact⟨trivial,rfl⟩,rfl,rfl,fun j u hj=>?_⟩
   match j,hj with
   |0,hj=>
    have:u= .int .i64 z:=by simpa[Value.cells]using hj.symm
    rw[this];simpa using h5.c k z hz
   |j+1,hj=>simp[Value.cells]at hj
  ·match j,hj with
   |0,hj=>
    have:u= .slice (some ⟨g',0,none⟩) l.length l.length:=by simpa[Value.cells]using hj.symm
    rw[this];simpa using h3
   |j+1,hj=>simp[Value.cells]at hj
theorem zH{X:Nat->Prop}{w:World}:AR X w (dM []) (.slice none 0 0):=by
 simp only[dM,List.map_nil,AR];exact⟨none,0,rfl,Nat.le_refl _,.inl (by simp)⟩
theorem BQ{X:Nat->Prop}{w:World}(z:Int):AR X w (zI z) (.int .i64 z):=by simp only[zI,AR];exact⟨trivial,rfl⟩
theorem xS{X:Nat->Prop}{w:World}{d1 d2:D}{u1 u2:Value}(h1:AR X w d1 u1)(h2:AR X w d2 u2):AR X w (.tp [d1,d2]) (.tuple #[u1,u2]):=by
 simp only[AR,ATp];exact⟨_,rfl,_,_,rfl,h1,_,_,rfl,h2,rfl⟩
end DW
end
section
open Go.ChangeShapes Go.WideShapes Go.ChangeAt Go.RowKit Go.Joins Go.Deep
theorem own:ownKnob Tryz.prog.godebug=none:=by kernel_rfl
theorem laidOut:laidOutB Tryz.prog=true:=by kernel_rfl
theorem El:Tryz.prog.cellsOf 3=1:=by kernel_rfl
theorem BJ:Tryz.prog.cellsOf 40=1:=by kernel_rfl
namespace DW
theorem vb{w:World}{a:Addr}{v:Value}(h:w.cell? a=some v):a=⟨a.block,a.off,none⟩:=by
 obtain⟨b,o,s⟩:=a
 cases s with
 |none=>rfl
 |some k=>
  unfold World.cell? at h;simp only at h;split at h
  ·simp at h
  ·cases h
theorem J0{w:World}{a:Addr}{l:List Int}{cap:Nat}(hc:l.length<=cap)(h:∀i,i<l.length->w.cell? (a.add i)=some (.int .i64 (l.getD i 0))):AR (fun _=>False) w (dI l) (.slice (some a) l.length cap):=by
 simp only[dI,AR];refine⟨some a,cap,by rw[List.length_map],by rw[List.length_map];exact hc,?_⟩;by_cases hl:l=[]
 ·exact .inl (by rw[hl];rfl)
 ·have hp:0<l.length:=List.length_pos_iff.2 hl;have h0:w.cell? a=some (.int .i64 (l.getD 0 0)):=h 0 hp;have ha:=vb h0;refine .inr ⟨a.block,a.off,congrArg some ha,fun h=>h,World.block_lt_of_cell? w _ h0,ARs.mk fun i d hd=>?_⟩;rw[List.getElem?_map]at hd;obtain⟨z,hz,rfl⟩:=Option.map_eq_some_iff.1 hd;have hi:=(List.getElem?_eq_some_iff.1 hz).1;refine⟨.int .i64 z,BQ z,rfl,rfl,fun j u hj=>?_⟩
  match j,hj with
  |0,hj=>
   have:u= .int .i64 z:=by simpa[Value.cells]using hj.symm
   have h1:=h i hi;rw[List.getD_eq_getElem?_getD,hz]at h1;rw[this,Nat.mul_one,Nat.add_zero];rw[ha,qd]at h1;exact h1
  |j+1,hj=>simp[Value.cells]at hj
theorem JZ{w:World}{a:Addr}{m:List (List Int)}{cap:Nat}(hc:m.length<=cap)(h:∀i l,m[i]?=some l->∃u,w.cell? (a.add i)=some u/\AR (fun _=>False) w (dI l) u):AR (fun _=>False) w (dM m) (.slice (some a) m.length cap):=by
 simp only[dM,AR];refine⟨some a,cap,by rw[List.length_map],by rw[List.length_map];exact hc,?_⟩
 cases m with
 |nil=>exact .inl rfl
 |cons l0 m0=>
  obtain⟨u0,h0,_⟩:=h 0 l0 rfl;have ha:=vb (show w.cell? a=some u0 from h0);refine .inr ⟨a.block,a.off,congrArg some ha,fun h=>h,World.block_lt_of_cell? w _ (show w.cell? a=some u0 from h0),ARs.mk fun i d hd=>?_⟩;rw[List.getElem?_map]at hd;obtain⟨l,hl,rfl⟩:=Option.map_eq_some_iff.1 hd;obtain⟨u,h1,h2⟩:=h i l hl;have h3:=h2;simp only[dI,AR]at h3;obtain⟨a',c',rfl,_⟩:=h3;refine⟨_,h2,rfl,rfl,fun j u hj=>?_⟩
  match j,hj with
  |0,hj=>
   have:u= .slice a' (l.map zI).length c':=by simpa[Value.cells]using hj.symm
   rw[this,Nat.mul_one,Nat.add_zero];rw[ha,qd]at h1;exact h1
  |j+1,hj=>simp[Value.cells]at hj
end DW
set_option maxRecDepth 100000 in
theorem Dm{H:Type}{enc:TypeId×Value->H}{w:World}{base:Nat}{spare:Nat->Bool}{held:Bool}{v:Value}{fuel:Nat}{x:DataW H×List MemPlace}
  (hf:DataW.trod enc Tryz.prog w base spare held fuel 22 [v]=some x):∃m:List (List Int),DW.AR (fun _=>False) w (DW.dM m) v:=by
 rcases open_slice Tryz.underlying22 hf with⟨hcs,hx⟩|⟨a,len0,cap0,m,n,D,Pl,hcs,_,hl,hm,hmm,_,hel⟩
 ·simp at hcs;subst hcs;exact⟨[],DW.zH⟩
 ·simp at hcs;subst hcs;rw[BJ]at hel;have hlm:len0<=m:=by rw[hmm];split<;>omega
  obtain⟨F,hF⟩:=choose_lt (α:=List Int) (n:=len0) (p:=fun i (l:List Int)=>∃u,w.cell? (a.add i)=some u/\DW.AR (fun _=>False) w (DW.dI l) u) (fun i hi=>by
   obtain⟨cs',h1,h2⟩:=hel i (by omega);obtain⟨_,hlen,hc⟩:=World.cells?_some h1;have hc0:=hc 0 (by omega);rw[Nat.mul_one]at hc0;rcases open_ints Tryz.underlying40 Tryz.underlying3 El h2 with⟨rfl,_⟩|⟨a',len',cap',zs,rfl,_,hl',_,hz,_,hcell,_⟩
   ·refine⟨[],.slice none 0 0,hc0,?_⟩;simp only[DW.dI,DW.AR];exact⟨none,0,rfl,Nat.le_refl _,.inl rfl⟩
   ·have hzl:len'<=zs.length:=by rw[hz];split<;>omega
    have hlen:(zs.take len').length=len':=by rw[List.length_take];omega
    have hA:=DW.J0 (w:=w) (a:=a') (l:=zs.take len') (cap:=cap') (by omega) (fun k hk=>by
     rw[hlen]at hk;rw[hcell k (by omega),List.getD_eq_getElem?_getD,List.getD_eq_getElem?_getD,List.getElem?_take,if_pos hk])
    rw[hlen]at hA;exact⟨zs.take len',_,hc0,hA⟩)
  have hlen:((List.range len0).map F).length=len0:=by simp
  have hA:=DW.JZ (w:=w) (a:=a) (m:=(List.range len0).map F) (cap:=cap0) (by omega) (fun i l hi=>by
   have hk:i<len0:=by simpa using(List.getElem?_eq_some_iff.1 hi).1
   rw[List.getElem?_map,List.getElem?_range hk]at hi;cases hi;exact hF i hk)
  rw[hlen]at hA;exact⟨_,hA⟩
set_option maxRecDepth 100000 in
theorem FA{H:Type}{enc:TypeId×Value->H}{w:World}{base b0:Nat}{spare:Nat->Bool}{held:Bool}{r:Reach}{v:Value}{d:DataW H}{p:List MemPlace}
  (hv:Value.okWide Tryz.prog w r b0 22 v) (h:DataW.Trod enc Tryz.prog w base spare held 22 v d p):∃m:List (List Int),DW.AR (fun _=>False) w (DW.dM m) v:=by
 obtain⟨a0,len0,cap0,rfl⟩:=okWide_slice Tryz.underlying22 hv;obtain⟨fuel,hf⟩:=h;exact Dm hf
end
section
open Go.RowKit Go.BigFrame
attribute [local go_sem ↓] Go.wp_at_zero Go.wp_at_succ
def cD(dim:Int):List (List Int)->Int
 |[]=>0
 |r::t=>if(r.length:Int)=dim then(if r.any big=true then 2 else cD dim t)else 9
def lck(dim:Int)(m:List (List Int))(den:Int):Int:=if dim<1\/6<dim\/den<1\/1000000000000000<den then 2 else if 64<m.length then 8 else cD dim m
theorem jR{dim:Int}{m:List (List Int)}{k:Nat}{l:List Int}(hl:m[k]?=some l):cD dim (m.drop k)=if(l.length:Int)=dim then(if l.any big=true then 2 else cD dim (m.drop (k+1)))else 9:=by
 obtain⟨hk,rfl⟩:=List.getElem?_eq_some_iff.1 hl;rw[List.drop_eq_getElem_cons hk];rfl
set_option maxRecDepth 10000 in
theorem Gt(z:Int)(w:World):
  Calls Tryz.prog 90 #[.int .i64 z] w fun e w'=>e= .returned (.bool (big z))/\Below w.heap.size w w':=by
 have WI:=Lib.hid (fun w=>rC z 1000000000000000 (by omega) (by omega) w);have E:Hid (big z= !(inb 1000000000000000 z)):=rfl;generalize inb 1000000000000000 z=c at*
 go_enter Tryz.func90,Tryz.ntmps90
 go_wp2_with (go_at_call 91;(with_reducible refine(WI.out _).mono ?_);rintro e w4 ⟨rfl,hb4⟩;obtain⟨g4,rfl⟩:=mob hb4;clear hb4)
 go_ret
 exact⟨by rw[E.out];rfl,by exact bel⟩
theorem yy:∀args w,(callFunc 90 args).run Tryz.prog w= .ok (.enter 90 args) w:=enters_of Tryz.func90 aa rfl
set_option maxRecDepth 10000 in
set_option maxHeartbeats 4000000 in
theorem Bn(dim den:Int)(m:List (List Int))(v:Value)(hd:I64 dim)(hd2:I64 den)(hm:m.length<=1000000000)(hr:∀r∈m,r.length<=1000000000)(w:World)(h:ZM w v m):
  Calls Tryz.prog 33 #[.agg #[.int .i64 dim,v, .int .i64 den]] w fun e w'=>e= .returned (.int .i64 (lck dim m den))/\Below w.heap.size w w':=by
 have AN:=Lib.hid (fun (r:List Int) (hr':r∈m) b c w h=>xU r b c (hr r hr') _ big yy (fun x w=>Gt x w) w h);have H:=Lib.hid h;have E2:=Lib.hid (fun h:dim<1\/6<dim\/den<1\/1000000000000000<den=>(show lck dim m den=2 by unfold lck;rw[if_pos h]));have E8:=Lib.hid (fun (h:¬(dim<1\/6<dim\/den<1\/1000000000000000<den)) (h2:64<m.length)=>(show lck dim m den=8 by unfold lck;rw[if_neg h,if_pos h2]));have E0:=Lib.hid (fun (h:¬(dim<1\/6<dim\/den<1\/1000000000000000<den)) (h2:¬64<m.length)=>(show lck dim m den=cD dim m by unfold lck;rw[if_neg h,if_neg h2]));have ST:=Lib.hid (fun k l hl=>jR (dim:=dim) (m:=m) (k:=k) (l:=l) hl);have EN:Hid (∀k,m.length<=k->cD dim (m.drop k)=0):=fun k hk=>by rw[List.drop_eq_nil_of_le hk];rfl
 have HLR:Hid _:=hr;obtain⟨a,cap,rfl,_,h4⟩:=h;have H4:=Lib.hid h4;clear h4 hr;generalize hml:m.length=q at*;have HQ:=Lib.hid hml;clear hml;generalize hR:lck dim m den=R at*;clear hR;unfold I64 at hd hd2;by_cases c1:dim<1
 ·have d1:decide (dim<1)=true:=by rw[decide_eq_true_iff];exact c1
  have E:=Lib.hid (E2.out (.inl c1))
  go_enter Tryz.func33,Tryz.ntmps33
  go_wp2_with fail
  go_ret
  exact⟨by rw[E.out];rfl,by exact bel⟩
 have d1:decide (dim<1)=false:=by rw[decide_eq_false_iff_not];exact c1
 by_cases c2:6<dim
 ·have d2:decide (6<dim)=true:=by rw[decide_eq_true_iff];exact c2
  have E:=Lib.hid (E2.out (.inr (.inl c2)))
  go_enter Tryz.func33,Tryz.ntmps33
  go_wp2_with fail
  go_ret
  exact⟨by rw[E.out];rfl,by exact bel⟩
 have d2:decide (6<dim)=false:=by rw[decide_eq_false_iff_not];exact c2
 by_cases c3:den<1
 ·have d3:decide (den<1)=true:=by rw[decide_eq_true_iff];exact c3
  have E:=Lib.hid (E2.out (.inr (.inr (.inl c3))))
  go_enter Tryz.func33,Tryz.ntmps33
  go_wp2_with fail
  go_ret
  exact⟨by rw[E.out];rfl,by exact bel⟩
 have d3:decide (den<1)=false:=by rw[decide_eq_false_iff_not];exact c3
 by_cases c4:1000000000000000<den
 ·have d4:decide (1000000000000000<den)=true:=by rw[decide_eq_true_iff];exact c4
  have E:=Lib.hid (E2.out (.inr (.inr (.inr c4))))
  go_enter Tryz.func33,Tryz.ntmps33
  go_wp2_with fail
  go_ret
  exact⟨by rw[E.out];rfl,by exact bel⟩
 have d4:decide (1000000000000000<den)=false:=by rw[decide_eq_false_iff_not];exact c4
 have HN:Hid (¬(dim<1\/6<dim\/den<1\/1000000000000000<den)):=by
  show¬_;omega
 by_cases h1:64<q
 ·have h2:(64:Int)<(q:Int):=by omega
  have E:Hid (R=8):=E8.out HN.out h1
  go_enter Tryz.func33,Tryz.ntmps33
  go_wp2_with fail
  go_ret
  exact⟨by rw[E.out];rfl,by exact bel⟩
 have h2:¬(64:Int)<(q:Int):=by omega
 have E0':Hid (R=cD dim m):=E0.out HN.out h1;clear E2 E8 E0
 go_enter Tryz.func33,Tryz.ntmps33
 go_wp2_with fail
 go_loopw [32] (fun i wr=>∃k:Nat,k<=q/\i= .int .i64 ((k:Int))/\Hid (Below (w.heap.size+1) (w.alloc (.cells #[.int .i64 dim, .slice a q cap, .int .i64 den] 48)) wr)/\Hid (cD dim m=cD dim (m.drop k))) (fun i _=>q-(intOf i).toNat)
 case atStart=>exact⟨0,by omega,rfl,Below.refl _ _,rfl⟩
 case round=>
  obtain⟨k,hk,rfl,HB,HJ⟩:=hrel;have hsz:(w.alloc (.cells #[.int .i64 dim, .slice a q cap, .int .i64 den] 48)).heap.size=w.heap.size+1:=by simp
  have hsw:w.heap.size<wr.heap.size:=by have:=HB.out.size;omega
  have hB:Below w.heap.size w wr:=Below.trans (b:=w.alloc (.cells #[.int .i64 dim, .slice a q cap, .int .i64 den] 48)) ah (HB.out.mono (by omega));have q0:wr.cell? ⟨w.heap.size,0,none⟩=some (.int .i64 dim):=(HB.out.cell (p:=⟨w.heap.size,0,none⟩) (Nat.lt_succ_self _)).trans (by go_simp);clear hsz;by_cases hkn:k<q
  ·have hkn2:(k:Int)<(q:Int):=by omega
   obtain⟨l,hl⟩:∃l,m[k]?=some l:=⟨m[k]'tg,List.getElem?_eq_getElem _⟩;rcases H4.out with h0|⟨a0,ha,hal,hcc⟩
   ·rw[h0]at hl;simp at hl
   obtain⟨b,c,cz,_,hz⟩:=hcc k l hl;have cz2:=iR hB (Nat.le_refl _) cz;subst ha;have HL:=Lib.hid hl;have hll:l.length<=1000000000:=HLR.out l (List.mem_of_getElem? hl);have ANl:=Lib.hid (AN.out l (List.mem_of_getElem? hl) b c);have HZ:=Lib.hid (hz.below hB (Nat.le_refl _));have STl:=Lib.hid (ST.out k l hl);have HBW:=Lib.hid hB;clear hcc cz hl hz hB;generalize l.length=p at*;by_cases he:(p:Int)=dim
   ·have he2:decide ((p:Int)=dim)=true:=by rw[decide_eq_true_iff];exact he
    generalize hab:l.any big=t at*;have HT:=Lib.hid hab;clear hab;cases t
    ·have E : Hid (cD dim (m.drop k) = cD dim (m.drop (k + 1))) := by
      show _=_;rw[STl.out,if_pos he,if_neg (by simp)]
     have HE:=Lib.hid he;subst he;clear he2
     go_wp2_with (go_at_call 89;(with_reducible refine(ANl.out _ ?_).mono ?_);(exact HZ.out.below (B:=wr.heap.size) ah (Nat.le_refl _));rintro e w4 ⟨rfl,hb4⟩;have HB4:=Lib.hid hb4;obtain⟨g4,rfl⟩:=mob hb4;clear hb4)
     go_roundw
     case rel=>exact⟨k+1,by omega,by go_num,HB.out.trans (HB4.out.mono (by omega)),HJ.out.trans E.out⟩
     case measure=>simp[intOf];omega
    ·have E : Hid (R = 2) := by
      show _=_;rw[E0'.out,HJ.out,STl.out,if_pos he,if_pos rfl]
     subst he;clear he2
     go_wp2_with (go_at_call 89;(with_reducible refine(ANl.out _ ?_).mono ?_);(exact HZ.out.below (B:=wr.heap.size) ah (Nat.le_refl _));rintro e w4 ⟨rfl,hb4⟩;have HB4:=Lib.hid hb4;obtain⟨g4,rfl⟩:=mob hb4;clear hb4)
     go_ret
     exact⟨by rw[E.out];rfl,HBW.out.trans (HB4.out.mono (by omega))⟩
   ·have E : Hid (R = 9) := by
     show _=_;rw[E0'.out,HJ.out,STl.out,if_neg he]
    go_wp2_with fail
    go_ret
    exact⟨by rw[E.out];rfl,HBW.out⟩
  ·obtain rfl:k=q:=by omega
   have hkn2:¬(k:Int)<(k:Int):=by omega
   have E:Hid (R=0):=by
    show _=_;rw[E0'.out,HJ.out,EN.out k (Nat.le_refl _)]
   go_wp2_with fail
   go_ret
   exact⟨by rw[E.out];rfl,hB⟩
end
section
open Go.RowKit Go.BigFrame
attribute [local go_sem ↓] Go.wp_at_zero Go.wp_at_succ
theorem MB.other{b:Nat}{w w':World}{B gm L:Nat}{gs cs:Nat->Nat}{n:Nat}{M:Mx.Mat}(h:MB w B gm L gs cs n M)(k:Chg b w w')(hb:NW w b)(hbB:b<B):MB w' B gm L gs cs n M:=by
 have hg:gm≠b:=by have:=h.b;omega
 refine⟨h.b,Nat.lt_of_lt_of_le h.lt k.size,fun j=>(k.frozen h.lt hg).trans (h.fr j),fun i hi=>?_,h.nw.jZ (k.cell h.lt hg),h.ml,h.rc,fun i hi=>?_,h.dj⟩
 ·obtain⟨u,hu⟩:=h.hl i hi;exact⟨u,(k.cell h.lt hg).trans hu⟩
 ·obtain⟨a,h1,h2,hA,h3⟩:=h.hc i hi;exact⟨a,(k.cell h.lt hg).trans h1,h2,hA,fun h0=>⟨(h3 h0).1,(h3 h0).2.1,(h3 h0).2.2.1,(h3 h0).2.2.2.chg k hb (by have:=(h3 h0).2.1;omega)⟩⟩
def rMB(B n:Nat)(M:Mx.Mat):Own3.Rel:=⟨Nat×Nat,(0,0),fun p=>.slice (some ⟨p.1,0,none⟩) M.length p.2,fun p w=>M.length<=p.2/\∃gs cs,MB w B p.1 M.length gs cs n M,fun _ _ _ h hb=>⟨h.1,h.2.elim fun gs h=>h.elim fun cs h=>⟨gs,cs,h.below hb (Nat.le_refl _)⟩⟩⟩
theorem Ht{P:Program}{f:FuncId}{args:Array Value}{w:World}{B n:Nat}{M:Mx.Mat}(hB:B<=w.heap.size)(h:Calls P f args w (lL w n M)):
 Calls P f args w fun e w'=>∃x,e= .returned ((rMB B n M).val x)/\(rMB B n M).R x w'/\Below w.heap.size w w':=h.mono fun _ _ ⟨⟨gm,gs,cs,cap,h1,h2,h3⟩,h4⟩=>⟨(gm,cap),h1,⟨h2,gs,cs,h3.weak hB⟩,h4⟩
def nH(n:Nat)(M:Mx.Mat):Mx.Mat:=(Mx.red n 0 (0,M)).2.take (Mx.red n 0 (0,M)).1
def nG(n:Nat)(M:Mx.Mat)(d:Int):Int:=gM (nH n M) d
def nR(n:Nat)(M:Mx.Mat)(d:Int):Mx.Mat:=mapM (fun z=>z/nG n M d) (nH n M)
def NPost(w:World)(dim:Int)(n:Nat)(M:Mx.Mat)(d:Int)(e:Ending)(w':World):Prop:=(∃gm gs cs cap y,e= .returned (.agg #[.int .i64 dim,.slice (some ⟨gm,0,none⟩) (nR n M d).length cap,.bool (IV.s y),.slice (IV.a y) (IV.n y) (IV.cap y)])/\(nR n M d).length<=cap/\MB w' w.heap.size gm (nR n M d).length gs cs n (nR n M d)/\IZ w' y (d/nG n M d))/\Below w.heap.size w w'
theorem nH_bd{n e:Nat}{M:Mx.Mat}(he:6<=e)(hr:Mx.Rc n M)(hb:Mx.Bd (2^e) M):Mx.Bd (2^(e*11^n)) (nH n M):=by
 have:=Mx.rT he n 0 0 M hr (by rw[Nat.pow_zero,Nat.mul_one];exact hb);rw[Nat.zero_add]at this;exact IK this _
theorem wQ{n:Nat}{M:Mx.Mat}(hr:Mx.Rc n M):(nH n M).length<=M.length:=by
 unfold nH;have:(Mx.red n 0 (0,M)).2.length=M.length:=(Mx.gF n 0 (0,M) hr).len;rw[List.length_take];omega
set_option maxRecDepth 10000 in
set_option maxHeartbeats 4000000 in
theorem Di(dim:Int)(M:Mx.Mat)(n e:Nat)(v:Value)(K:IV)(d:Int)(hm:M.length<=1000)(hn:n<=1000)(he:6<=e)(hf:2*(e*11^n)<=6000000000000)(hb:Mx.Bd (2^e) M)(fd:Fit d)(w:World)(h:MR w v n M)(hk:IZ w K d):
  Calls Tryz.prog 103 #[.int .i64 dim,v,.agg #[.bool K.s,.slice K.a K.n K.cap]] w (NPost w dim n M d):=by
 have hr:Mx.Rc n M:=by obtain⟨_,_,_,_,h3,_⟩:=h;exact h3
 have hfit:∀i j,Fit (Mx.at' (nH n M) i j):=fun i j=>bh (nH_bd he hr hb i j) (by omega);have hlen:=wQ hr;have HE:Hid (∀w,MR w v n M->Calls Tryz.prog 85 #[v] w (Iq w n (nH n M))):=fun w h=>yt M n e v hm hn he hf hb w h;have CT:=Lib.hid (fun v w h hk=>oQ (nH n M) n v K d (by omega) (by omega) fd hfit w h hk);have fg:Fit (nG n M d):=Ea (fun r hr x hx=>by
  obtain⟨i,hi,rfl⟩:=List.getElem_of_mem hr;obtain⟨j,hj,rfl⟩:=List.getElem_of_mem hx;have:=hfit i j;unfold Mx.at' Mx.rw at this;rw[List.getD_eq_getElem?_getD,List.getD_eq_getElem?_getD,List.getElem?_eq_getElem hi]at this;simp only[Option.getD_some]at this;rw[List.getElem?_eq_getElem hj]at this;exact this) fd
 have OV:Hid (∀y v w,MR w v n (nH n M)->IZ w y (nG n M d)->Calls Tryz.prog 119 #[v,.agg #[.bool y.s,.slice y.a y.n y.cap]] w (lL w n (nR n M d))):=fun y v w h hk=>uK (nH n M) n v y (nG n M d) (by omega) (by omega) fg hfit w h hk;have QU:=Lib.hid (fun y w hx hy=>fH K y d (nG n M d) fd fg w hx hy);have RL:=Lib.hid (ed (fun z=>z/nG n M d) (nH n M));have H:=Lib.hid h;have HK:=Lib.hid hk;obtain⟨ks,ka,kn,kc⟩:=K;clear h hk hm hn hb he hf fd fg hfit hlen hr
 go_enter Tryz.func103,Tryz.ntmps103
 go_wp2_with (first
  |(go_at_call 85;((with_reducible refine(HE.out _ ?_).mono ?_);(exact H.out.below (B:=w.heap.size) ah (Nat.le_refl _));rintro e w4 ⟨⟨vh,rfl,hh⟩,hb4⟩;obtain⟨a4,c4,rfl,hc4,hh⟩:=hh.split;have HH:=Lib.hid hh;obtain⟨g4,rfl⟩:=mob hb4;clear hb4 hh))
  |(go_at_call 118;((with_reducible refine(CT.out _ _ HH.out ?_).mono ?_);(exact HK.out.below (B:=w.heap.size) ah (Nat.le_refl _));rintro e w5 ⟨⟨y5,rfl,hy5⟩,hb5⟩;have HG:=Lib.hid hy5;have HB5:=Lib.hid hb5;obtain⟨g5,rfl⟩:=mob hb5;clear hb5 hy5)))
 have hB0:Below w.heap.size w ((more (more ((w.alloc (.cells #[.bool ks,.slice ka kn kc] 62)).alloc (.cells #[.int .i64 (0),.slice none 0 0,.bool false,.slice none 0 0] 121)) g4) g5).alloc (.cells #[.bool y5.s,.slice y5.a y5.n y5.cap] 62)):=by exact bel
 have hBa:Below (more (more ((w.alloc (.cells #[.bool ks,.slice ka kn kc] 62)).alloc (.cells #[.int .i64 (0),.slice none 0 0,.bool false,.slice none 0 0] 121)) g4) g5).heap.size (more (more ((w.alloc (.cells #[.bool ks,.slice ka kn kc] 62)).alloc (.cells #[.int .i64 (0),.slice none 0 0,.bool false,.slice none 0 0] 121)) g4) g5) ((more (more ((w.alloc (.cells #[.bool ks,.slice ka kn kc] 62)).alloc (.cells #[.int .i64 (0),.slice none 0 0,.bool false,.slice none 0 0] 121)) g4) g5).alloc (.cells #[.bool y5.s,.slice y5.a y5.n y5.cap] 62)):=by exact bel
 have HH0:=Lib.hid ((HH.out.below HB5.out (Nat.le_refl _)).below hBa (Nat.le_refl _));have HG0:Hid (IZ ((more (more ((w.alloc (.cells #[.bool ks,.slice ka kn kc] 62)).alloc (.cells #[.int .i64 (0),.slice none 0 0,.bool false,.slice none 0 0] 121)) g4) g5).alloc (.cells #[.bool y5.s,.slice y5.a y5.n y5.cap] 62)) y5 (nG n M d)):=HG.out.below hBa (Nat.le_refl _);have HK0:=Lib.hid (HK.out.below hB0 (Nat.le_refl _));have b0:((more (more ((w.alloc (.cells #[.bool ks,.slice ka kn kc] 62)).alloc (.cells #[.int .i64 (0),.slice none 0 0,.bool false,.slice none 0 0] 121)) g4) g5).alloc (.cells #[.bool y5.s,.slice y5.a y5.n y5.cap] 62)).cell? ⟨w.heap.size,0,none⟩=some (.bool ks):=by go_simp
 have b1:((more (more ((w.alloc (.cells #[.bool ks,.slice ka kn kc] 62)).alloc (.cells #[.int .i64 (0),.slice none 0 0,.bool false,.slice none 0 0] 121)) g4) g5).alloc (.cells #[.bool y5.s,.slice y5.a y5.n y5.cap] 62)).cell? ⟨w.heap.size,1,none⟩=some (.slice ka kn kc):=by go_simp
 have y0:((more (more ((w.alloc (.cells #[.bool ks,.slice ka kn kc] 62)).alloc (.cells #[.int .i64 (0),.slice none 0 0,.bool false,.slice none 0 0] 121)) g4) g5).alloc (.cells #[.bool y5.s,.slice y5.a y5.n y5.cap] 62)).cell? ⟨(w.heap.size+1+1+g4.snd.size+g5.snd.size),0,none⟩=some (.bool y5.s):=by go_simp
 have y1:((more (more ((w.alloc (.cells #[.bool ks,.slice ka kn kc] 62)).alloc (.cells #[.int .i64 (0),.slice none 0 0,.bool false,.slice none 0 0] 121)) g4) g5).alloc (.cells #[.bool y5.s,.slice y5.a y5.n y5.cap] 62)).cell? ⟨(w.heap.size+1+1+g4.snd.size+g5.snd.size),1,none⟩=some (.slice y5.a y5.n y5.cap):=by go_simp
 have q0:((more (more ((w.alloc (.cells #[.bool ks,.slice ka kn kc] 62)).alloc (.cells #[.int .i64 (0),.slice none 0 0,.bool false,.slice none 0 0] 121)) g4) g5).alloc (.cells #[.bool y5.s,.slice y5.a y5.n y5.cap] 62)).cell? ⟨w.heap.size+1,0,none⟩=some (.int .i64 (0)):=by go_simp
 have q1:((more (more ((w.alloc (.cells #[.bool ks,.slice ka kn kc] 62)).alloc (.cells #[.int .i64 (0),.slice none 0 0,.bool false,.slice none 0 0] 121)) g4) g5).alloc (.cells #[.bool y5.s,.slice y5.a y5.n y5.cap] 62)).cell? ⟨w.heap.size+1,1,none⟩=some (.slice none 0 0):=by go_simp
 have q2:((more (more ((w.alloc (.cells #[.bool ks,.slice ka kn kc] 62)).alloc (.cells #[.int .i64 (0),.slice none 0 0,.bool false,.slice none 0 0] 121)) g4) g5).alloc (.cells #[.bool y5.s,.slice y5.a y5.n y5.cap] 62)).cell? ⟨w.heap.size+1,2,none⟩=some (.bool false):=by go_simp
 have q3:((more (more ((w.alloc (.cells #[.bool ks,.slice ka kn kc] 62)).alloc (.cells #[.int .i64 (0),.slice none 0 0,.bool false,.slice none 0 0] 121)) g4) g5).alloc (.cells #[.bool y5.s,.slice y5.a y5.n y5.cap] 62)).cell? ⟨w.heap.size+1,3,none⟩=some (.slice none 0 0):=by go_simp
 have f0:((more (more ((w.alloc (.cells #[.bool ks,.slice ka kn kc] 62)).alloc (.cells #[.int .i64 (0),.slice none 0 0,.bool false,.slice none 0 0] 121)) g4) g5).alloc (.cells #[.bool y5.s,.slice y5.a y5.n y5.cap] 62)).frozen? ⟨w.heap.size+1,0,none⟩=false:=by go_simp
 have f1:((more (more ((w.alloc (.cells #[.bool ks,.slice ka kn kc] 62)).alloc (.cells #[.int .i64 (0),.slice none 0 0,.bool false,.slice none 0 0] 121)) g4) g5).alloc (.cells #[.bool y5.s,.slice y5.a y5.n y5.cap] 62)).frozen? ⟨w.heap.size+1,1,none⟩=false:=by go_simp
 have f2:((more (more ((w.alloc (.cells #[.bool ks,.slice ka kn kc] 62)).alloc (.cells #[.int .i64 (0),.slice none 0 0,.bool false,.slice none 0 0] 121)) g4) g5).alloc (.cells #[.bool y5.s,.slice y5.a y5.n y5.cap] 62)).frozen? ⟨w.heap.size+1,2,none⟩=false:=by go_simp
 have f3:((more (more ((w.alloc (.cells #[.bool ks,.slice ka kn kc] 62)).alloc (.cells #[.int .i64 (0),.slice none 0 0,.bool false,.slice none 0 0] 121)) g4) g5).alloc (.cells #[.bool y5.s,.slice y5.a y5.n y5.cap] 62)).frozen? ⟨w.heap.size+1,3,none⟩=false:=by go_simp
 have hs0:w.heap.size+1<((more (more ((w.alloc (.cells #[.bool ks,.slice ka kn kc] 62)).alloc (.cells #[.int .i64 (0),.slice none 0 0,.bool false,.slice none 0 0] 121)) g4) g5).alloc (.cells #[.bool y5.s,.slice y5.a y5.n y5.cap] 62)).heap.size:=by simp;omega
 have hs1:(w.heap.size+1+1+g4.snd.size+g5.snd.size)<((more (more ((w.alloc (.cells #[.bool ks,.slice ka kn kc] 62)).alloc (.cells #[.int .i64 (0),.slice none 0 0,.bool false,.slice none 0 0] 121)) g4) g5).alloc (.cells #[.bool y5.s,.slice y5.a y5.n y5.cap] 62)).heap.size:=by simp
 have HB0:=Lib.hid hB0;clear HH HG HB5 hB0 hBa
 (try clear hh)
 generalize((more (more ((w.alloc (.cells #[.bool ks,.slice ka kn kc] 62)).alloc (.cells #[.int .i64 (0),.slice none 0 0,.bool false,.slice none 0 0] 121)) g4) g5).alloc (.cells #[.bool y5.s,.slice y5.a y5.n y5.cap] 62))=W0 at*;generalize(w.heap.size+1+1+g4.snd.size+g5.snd.size)=bx at*;have hs2:w.heap.size<W0.heap.size:=by omega
 have HNW:Hid (NW W0 (w.heap.size+1)):=fun m e=>by rw[q0]at e;cases e
 generalize hRL:(nR n M d)=R at*;generalize hGL:(nG n M d)=G at*;generalize(nH n M)=NHM at*
 (apply Own3.bR 7 [.inl _,.inl _,.inl _,.inr (rMB W0.heap.size n R),.inl _,.inl _,.inr (rIZ (d/G))] aa aa;simp only[List.take_succ_cons,List.take_zero,List.drop_succ_cons,List.drop_zero];refine zs1 ?_;refine zs1 ?_;refine zs1 ?_;(refine Own3.cH rfl (fun K hK=>?_) (fun x61=>?_);(focus(go_simp;clear hK K;intro w' hw' hcb';first|(go_at_call 119;exact(Ht (Ext.below hw').size (OV.out y5 _ w' (HH0.out.below (Ext.below hw') (Nat.le_refl _)) (HG0.out.below (Ext.below hw') (Nat.le_refl _)))))|(go_at_call 121;exact(cU (QU.out y5 w' ((HK0.out.below (Ext.below hw') (Nat.le_refl _)).ip) ((HG0.out.below (Ext.below hw') (Nat.le_refl _)).ip))))));simp only[rMB,Act.put,List.setIfInBounds_toArray,List.set_cons_succ,List.set_cons_zero]);refine zs1 ?_;refine zs1 ?_;(refine Own3.cH rfl (fun K hK=>?_) (fun x62=>?_);(focus(go_simp;clear hK K;intro w' hw' hcb';first|(go_at_call 119;exact(Ht (Ext.below hw').size (OV.out y5 _ w' (HH0.out.below (Ext.below hw') (Nat.le_refl _)) (HG0.out.below (Ext.below hw') (Nat.le_refl _)))))|(go_at_call 121;exact(cU (QU.out y5 w' ((HK0.out.below (Ext.below hw') (Nat.le_refl _)).ip) ((HG0.out.below (Ext.below hw') (Nat.le_refl _)).ip))))));simp only[rIZ,Act.put,List.setIfInBounds_toArray,List.set_cons_succ,List.set_cons_zero]);refine Own3.fP ?_;intro w6 hw6;have hB6:=hw6.1;have HR61:Hid ((rMB W0.heap.size n R).R x61 w6):=Lib.hid (hw6.get (u:=3) (Or.inr (Or.inl ⟨rfl,rfl⟩)));have HY62:Hid (IZ w6 x62 (d/G)):=Lib.hid (hw6.get (u:=6) (Or.inl ⟨rfl,rfl⟩));clear hw6;obtain⟨g6,rfl⟩:=mob hB6;clear hB6)
 go_wp2_with fail
 have hgW:W0.heap.size<=(more W0 g6).heap.size:=by simp
 have hb6:Below W0.heap.size W0 (more W0 g6):=by exact bel
 have HB6:=Lib.hid hb6;have hnw6:=HNW.out.below hb6 (Nat.le_refl _) (by omega);obtain⟨gm,cp⟩:=x61;simp only[]at HR61⊢;have e5:(((((more W0 g6).setCell ⟨w.heap.size+1,0,none⟩ (.int .i64 dim)).setCell ⟨w.heap.size+1,1,none⟩ (.slice (some ⟨gm,0,none⟩) R.length cp)).setCell ⟨w.heap.size+1,2,none⟩ (.bool x62.s)).setCell ⟨w.heap.size+1,3,none⟩ (.slice x62.a x62.n x62.cap))=more ((((W0.setCell ⟨w.heap.size+1,0,none⟩ (.int .i64 dim)).setCell ⟨w.heap.size+1,1,none⟩ (.slice (some ⟨gm,0,none⟩) R.length cp)).setCell ⟨w.heap.size+1,2,none⟩ (.bool x62.s)).setCell ⟨w.heap.size+1,3,none⟩ (.slice x62.a x62.n x62.cap)) g6:=by go_simp
 have hC:Chg (w.heap.size+1) (more W0 g6) (((((more W0 g6).setCell ⟨w.heap.size+1,0,none⟩ (.int .i64 dim)).setCell ⟨w.heap.size+1,1,none⟩ (.slice (some ⟨gm,0,none⟩) R.length cp)).setCell ⟨w.heap.size+1,2,none⟩ (.bool x62.s)).setCell ⟨w.heap.size+1,3,none⟩ (.slice x62.a x62.n x62.cap)):=((((Chg.refl _ _).set _ _ _ (.inl rfl)).set _ _ _ (.inl rfl)).set _ _ _ (.inl rfl)).set _ _ _ (.inl rfl);have hb7:Below w.heap.size w (more W0 g6):=HB0.out.trans (HB6.out.mono (by omega));have hD:Below w.heap.size w (((((more W0 g6).setCell ⟨w.heap.size+1,0,none⟩ (.int .i64 dim)).setCell ⟨w.heap.size+1,1,none⟩ (.slice (some ⟨gm,0,none⟩) R.length cp)).setCell ⟨w.heap.size+1,2,none⟩ (.bool x62.s)).setCell ⟨w.heap.size+1,3,none⟩ (.slice x62.a x62.n x62.cap)):=by exact bel
 clear hb7;rw[e5]at hC hD;have r0:(more ((((W0.setCell ⟨w.heap.size+1,0,none⟩ (.int .i64 dim)).setCell ⟨w.heap.size+1,1,none⟩ (.slice (some ⟨gm,0,none⟩) R.length cp)).setCell ⟨w.heap.size+1,2,none⟩ (.bool x62.s)).setCell ⟨w.heap.size+1,3,none⟩ (.slice x62.a x62.n x62.cap)) g6).cell? ⟨w.heap.size+1,0,none⟩=some (.int .i64 dim):=by go_simp
 have r1:(more ((((W0.setCell ⟨w.heap.size+1,0,none⟩ (.int .i64 dim)).setCell ⟨w.heap.size+1,1,none⟩ (.slice (some ⟨gm,0,none⟩) R.length cp)).setCell ⟨w.heap.size+1,2,none⟩ (.bool x62.s)).setCell ⟨w.heap.size+1,3,none⟩ (.slice x62.a x62.n x62.cap)) g6).cell? ⟨w.heap.size+1,1,none⟩=some (.slice (some ⟨gm,0,none⟩) R.length cp):=by go_simp
 have r2:(more ((((W0.setCell ⟨w.heap.size+1,0,none⟩ (.int .i64 dim)).setCell ⟨w.heap.size+1,1,none⟩ (.slice (some ⟨gm,0,none⟩) R.length cp)).setCell ⟨w.heap.size+1,2,none⟩ (.bool x62.s)).setCell ⟨w.heap.size+1,3,none⟩ (.slice x62.a x62.n x62.cap)) g6).cell? ⟨w.heap.size+1,2,none⟩=some (.bool x62.s):=by go_simp
 have r3:(more ((((W0.setCell ⟨w.heap.size+1,0,none⟩ (.int .i64 dim)).setCell ⟨w.heap.size+1,1,none⟩ (.slice (some ⟨gm,0,none⟩) R.length cp)).setCell ⟨w.heap.size+1,2,none⟩ (.bool x62.s)).setCell ⟨w.heap.size+1,3,none⟩ (.slice x62.a x62.n x62.cap)) g6).cell? ⟨w.heap.size+1,3,none⟩=some (.slice x62.a x62.n x62.cap):=by go_simp
 refine bodyPost_ret (v:=.agg #[.int .i64 dim,.slice (some ⟨gm,0,none⟩) R.length cp,.bool x62.s,.slice x62.a x62.n x62.cap]) (by simp[results,Tryz.results103,go_sem,r0,r1,r2,r3]) rfl ?_;obtain⟨h1,gs,cs,h2⟩:=HR61.out;refine⟨⟨gm,gs,cs,cp,x62,by rw[hRL],by rw[hRL];exact h1,?_,?_⟩,hD⟩
 ·rw[hRL];exact(h2.other hC hnw6 (by omega)).weak (by omega)
 ·rw[hGL];exact HY62.out.chg hC hnw6
end
end Go.Proofs.YtcgjmdpcplhanaaGreat
