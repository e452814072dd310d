/- Lemmas for the law: E9 E10 V3 V5 V6 V7 M4 -/
import Derived.Laws.AppendOwnNone
import Derived.Laws.Cover3
import Derived.Lib.AppendZerosOnto
import Derived.Test.YtcgjmdpcplhanaaGreatZm4
namespace Go.Proofs.YtcgjmdpcplhanaaGreat
section
theorem fA{p q:Prop}(h:q)(f:Wq q→p:=by(intro hW;((refine gar ?_;refine aJ ?_;refine bL ?_;refine zs6 ?_;refine ae ?_));exact hW.out)):p:=f ⟨h⟩
theorem tP{p:Prop}(h:p:=by(apply vj;(focus(exact rfl));(focus((apply ao;(conv=>lhs;whnf);(first|done|exact rfl))));(focus(exact rfl)))):p:=h
theorem eQ{p q:Prop}(h:q)(f:Wq q→p:=by(intro hW;(refine aL1 rfl rfl rfl tP ?_);exact hW.out)):p:=f ⟨h⟩
theorem zs79{p q:Prop}(h:q)(f:Wq q→p:=by(intro hW;(refine aL1 rfl rfl rfl (by(apply fH;(focus(exact rfl));(focus(exact fD));(focus((apply ao;(conv=>lhs;whnf);(first|done|exact rfl))));(focus(exact rfl));(focus(exact rfl));(focus(assumption));(focus(exact rfl)))) ?_);exact hW.out)):p:=f ⟨h⟩
theorem xN{p q:Prop}(h:q)(f:Wq q→p:=by(intro hW;((refine gar ?_;refine gF ?_;refine aJ ?_;refine gF ?_;refine aJ ?_;refine zs53 ?_;refine zs4 ?_;refine fJ ?_;refine zs4 ?_;refine zs79 ?_;refine eJ ?_;refine eJ ?_;refine fX ?_;refine ae ?_));exact hW.out)):p:=f ⟨h⟩
theorem xM{p q:Prop}(h:q)(f:Wq q→p:=by(intro hW;((refine gar ?_;refine cK ?_;refine fX ?_;refine jj ?_;refine ae ?_));exact hW.out)):p:=f ⟨h⟩
theorem zs87{p q:Prop}(h:q)(f:Wq q→p:=by(intro hW;(refine aL1 rfl rfl rfl (by(first|(apply Ff;(focus(exact rfl));(focus((apply ao;(conv=>lhs;whnf);(first|done|exact rfl))));(focus(exact bu));(focus(omega)))|(apply bQ;(focus(exact rfl));(focus((apply ao;(conv=>lhs;whnf);(first|done|exact rfl))));(focus(exact bu));(focus(exact rfl))))) ?_);exact hW.out)):p:=f ⟨h⟩
theorem xJ{p q:Prop}(h:q)(f:Wq q→p:=by(intro hW;((refine gar ?_;refine fX ?_;refine jj ?_;refine ae ?_));exact hW.out)):p:=f ⟨h⟩
theorem zs77{p q:Prop}(h:q)(f:Wq q→p:=by(intro hW;((refine eF (k:=5) (z:=(.agg #[.bool false,.slice none 0 0])) (d:=(.nm 0)) rfl rfl rfl rfl rfl af aa aa cf aa aa bB ?_));exact hW.out)):p:=f ⟨h⟩
theorem xO{p q:Prop}(h:q)(f:Wq q→p:=by(intro hW;((refine gar ?_;refine gF ?_;refine aJ ?_;refine zs4 ?_;refine zs8 ?_;refine oS ?_;refine lU ?_;refine gJ ?_;refine ae ?_));exact hW.out)):p:=f ⟨h⟩
theorem sZ{p q:Prop}(h:q)(f:Wq q→p:=by(intro hW;((refine gar ?_;refine zs4 ?_;refine zs6 ?_;refine jj ?_;refine ae ?_));exact hW.out)):p:=f ⟨h⟩
theorem tO{p:Prop}(h:p:=by(apply rR;(focus(exact rfl));(focus(exact bu));(focus(exact rfl));(focus(assumption));(focus(exact rfl)))):p:=h
theorem zs83{p q:Prop}(h:q)(f:Wq q→p:=by(intro hW;((first|(first|(refine aHs rfl rfl rfl rfl rfl ?_ ?_;(focus(apply aK;(conv=>lhs;whnf);(first|done|exact rfl|(apply aG;(first|(apply decide_eq_true;omega)|(apply decide_eq_false;omega)|assumption|(simp;done)))))))|refine m5 rfl rfl rfl rfl rfl bj aa tO aa aa ?_)|((try refine aD ?_);(first|(refine aLs rfl rfl rfl rfl ?_ ?_;(focus(apply aK;(conv=>lhs;whnf);(first|done|exact rfl|(apply aG;(first|(apply decide_eq_true;omega)|(apply decide_eq_false;omega)|assumption|(simp;done)))))))|refine aLw rfl rfl rfl rfl bj tO ?_))));exact hW.out)):p:=f ⟨h⟩
theorem zs84{p q:Prop}(h:q)(f:Wq q→p:=by(intro hW;((first|(first|(refine aHs rfl rfl rfl rfl rfl ?_ ?_;(focus(apply aK;(conv=>lhs;whnf);(first|done|exact rfl|(apply aG;(first|(apply decide_eq_true;omega)|(apply decide_eq_false;omega)|assumption|(simp;done)))))))|refine m5 rfl rfl rfl rfl rfl bj aa m9 aa aa ?_)|((try refine aD ?_);(first|(refine aLs rfl rfl rfl rfl ?_ ?_;(focus(apply aK;(conv=>lhs;whnf);(first|done|exact rfl|(apply aG;(first|(apply decide_eq_true;omega)|(apply decide_eq_false;omega)|assumption|(simp;done)))))))|refine aLw rfl rfl rfl rfl bj m9 ?_))));exact hW.out)):p:=f ⟨h⟩
theorem zs85{p q:Prop}(h:q)(f:Wq q→p:=by(intro hW;((first|(first|(refine aHs rfl rfl rfl rfl rfl ?_ ?_;(focus(apply aK;(conv=>lhs;whnf);(first|done|exact rfl|(apply aG;(first|(apply decide_eq_true;omega)|(apply decide_eq_false;omega)|assumption|(simp;done)))))))|refine m5 rfl rfl rfl rfl rfl bj aa oZ aa aa ?_)|((try refine aD ?_);(first|(refine aLs rfl rfl rfl rfl ?_ ?_;(focus(apply aK;(conv=>lhs;whnf);(first|done|exact rfl|(apply aG;(first|(apply decide_eq_true;omega)|(apply decide_eq_false;omega)|assumption|(simp;done)))))))|refine aLw rfl rfl rfl rfl bj oZ ?_))));exact hW.out)):p:=f ⟨h⟩
theorem zs86{p q:Prop}(h:q)(f:Wq q→p:=by(intro hW;((first|refine cw rfl rfl rfl aa zb5 aa aa ?_|((try refine aD ?_);refine aL1 rfl rfl rfl zb5 ?_)));exact hW.out)):p:=f ⟨h⟩
theorem zs81{p q:Prop}(h:q)(f:Wq q→p:=by(intro hW;((first|refine cw rfl rfl rfl aa oZ aa aa ?_|((try refine aD ?_);refine aL1 rfl rfl rfl oZ ?_)));exact hW.out)):p:=f ⟨h⟩
theorem lT{p q:Prop}(h:q)(f:Wq q→p:=by(intro hW;((first|(first|(refine aHs rfl rfl rfl rfl rfl ?_ ?_;(focus(apply aK;(conv=>lhs;whnf);(first|done|exact rfl|(apply aG;(first|(apply decide_eq_true;omega)|(apply decide_eq_false;omega)|assumption|(simp;done)))))))|refine m5 rfl rfl rfl rfl rfl bj aa zb1 aa aa ?_)|((try refine aD ?_);(first|(refine aLs rfl rfl rfl rfl ?_ ?_;(focus(apply aK;(conv=>lhs;whnf);(first|done|exact rfl|(apply aG;(first|(apply decide_eq_true;omega)|(apply decide_eq_false;omega)|assumption|(simp;done)))))))|refine aLw rfl rfl rfl rfl bj zb1 ?_))));exact hW.out)):p:=f ⟨h⟩
theorem xK{p q:Prop}(h:q)(f:Wq q→p:=by(intro hW;((refine zs58 ?_;refine bq ?_;refine bq ?_;refine gG ?_;refine zs81 ?_;refine a8 ?_;refine lT ?_;refine zs83 ?_;refine zs84 ?_;refine zs85 ?_;refine zs86 ?_;refine cV ?_));exact hW.out)):p:=f ⟨h⟩
theorem zs80{p q:Prop}(h:q)(f:Wq q→p:=by(intro hW;(refine aL1 rfl rfl rfl tO ?_);exact hW.out)):p:=f ⟨h⟩
theorem xL{p q:Prop}(h:q)(f:Wq q→p:=by(intro hW;((refine gar ?_;refine zs80 ?_;refine zs75 ?_;refine eJ ?_;refine ae ?_));exact hW.out)):p:=f ⟨h⟩
end
section
open Go.RowKit
namespace DW
theorem qB:hd 1=[1]:=by
 have:=Dg.vo (b:=65536) (l:=[1]) (by decide) ⟨fun x hx=>by rw[List.mem_singleton.1 hx];decide,by decide⟩
 rw[zC]at this;exact this
set_option maxRecDepth 20000
set_option maxHeartbeats 1000000
theorem mR(u v:Int)(hu:Hf u)(hv:Hf v)(hv0:v≠0):Fn Tryz.prog 148 [.nm u,.nm v] (.tp [.nm (u/v),.nm (u%v),zI 0]):=by
 have D1:=cZ hu
 have D2:=cZ hv
 unfold Hf at hu hv
 have hn0:0<v.natAbs:=by omega
 have hl0:(hd v.natAbs).length≠0:=fun e=>by have:=(gZ _).1 e;omega
 have DV:=sM u.natAbs v.natAbs (by omega) (by omega) hn0
 have I:=Dg.AK (s:=decide (u<0)) (t:=decide (v<0)) (m:=u.natAbs) (n:=v.natAbs) hn0
 rw[eA,eA]at I
 have hm:=eC (Nat.le_of_lt (Nat.mod_lt u.natAbs hn0))
 have hq:=eC (Nat.div_le_self u.natAbs v.natAbs)
 have hr0:(hd (u.natAbs%v.natAbs)).length=0↔u.natAbs%v.natAbs=0:=gZ _
 refine aF Tryz.func148 af rfl rfl rfl fun X0=>?_
 simp only[aA]
 (repeat(first|refine gk fun K hK=>?_|refine zs2 ?_));(refine gar ?_;refine cK ?_;refine cK ?_;refine zs75 ?_;refine zs77 ?_;refine fX ?_;refine ae ?_);(repeat(first|refine gk fun K hK=>?_|refine zs2 ?_));refine fA ?_;(repeat(first|refine gk fun K hK=>?_|refine zs2 ?_));(refine gar ?_;refine zs4 ?_;refine zs5 ?_;refine oT ?_;refine ae ?_);(repeat(first|refine gk fun K hK=>?_|refine zs2 ?_))
 refine ay ?_
 (repeat(first|refine gk fun K hK=>?_|refine zs2 ?_));(refine gar ?_;refine aJ ?_;refine bL ?_;refine zs4 ?_;refine fJ ?_;refine zs4 ?_;refine eQ ?_;refine eQ ?_;refine zs6 ?_;refine zs6 ?_;refine ae ?_);(repeat(first|refine gk fun K hK=>?_|refine zs2 ?_))
 by_cases hneg:u<0
 ·by_cases hr:u.natAbs%v.natAbs=0
  ·obtain⟨e1,e2⟩:=I.1 (.inr hr)
   have hr':=hr0.2 hr
   have M1:=fE (s:=!(decide (u<0)==decide (v<0))) (n:=u.natAbs/v.natAbs) (z:=u/v) (by omega) e1.symm
   have M2:=fE (s:=false) (n:=u.natAbs%v.natAbs) (z:=u%v) (by omega) (by rw[e2,yT])
   have hd1:decide (u<0)=true:=decide_eq_true hneg
   (repeat(first|refine gk fun K hK=>?_|refine zs2 ?_));refine xO ?_;(repeat(first|refine gk fun K hK=>?_|refine zs2 ?_))
   refine ay ?_
   (repeat(first|refine gk fun K hK=>?_|refine zs2 ?_));refine xN ?_;(repeat(first|refine gk fun K hK=>?_|refine zs2 ?_))
   exact⟨_,(aE (k:=4) aU bs br).trans (aE (k:=5) aU bs br),.three (.cell 4 62) (.cell 5 62) (.tmp 6) _ _ _ rfl (.cell 4 _ _ rfl rfl af af) (.cell 5 _ _ rfl rfl af af) (.tmp 6 rfl)⟩
  ·obtain⟨e1,e2⟩:=I.2 (decide_eq_true hneg) (by omega)
   have hr':(hd (u.natAbs%v.natAbs)).length≠0:=fun e=>hr (hr0.1 e)
   have hq2:=uX (u.natAbs/v.natAbs) 1
   rw[qB,List.length_singleton]at hq2
   have PL:=wC (u.natAbs/v.natAbs) 1 (by omega) (by rw[qB];simp)
   rw[qB]at PL
   have MI:=mJ v.natAbs (u.natAbs%v.natAbs) (by omega) (Nat.le_of_lt (Nat.mod_lt _ hn0))
   have hm2:=eC (show v.natAbs-u.natAbs%v.natAbs≤v.natAbs by omega)
   have M1:=fE (s:=!(decide (u<0)==decide (v<0))) (n:=u.natAbs/v.natAbs+1) (z:=u/v) (by omega) e1.symm
   have M2:=fE (s:=false) (n:=v.natAbs-u.natAbs%v.natAbs) (z:=u%v) (by omega) (by rw[e2,yT])
   have hd1:decide (u<0)=true:=decide_eq_true hneg
   (repeat(first|refine gk fun K hK=>?_|refine zs2 ?_));refine xO ?_;(repeat(first|refine gk fun K hK=>?_|refine zs2 ?_))
   refine av ?_
   (repeat(first|refine gk fun K hK=>?_|refine zs2 ?_));(refine gar ?_;refine zs4 ?_;(refine aL1 rfl rfl rfl (by(apply Fg;(focus(exact rfl));(focus((first|exact op_zero|exact rfl)));(focus(exact rfl));(focus((first|exact ed|exact dY|exact ea|exact wd_pt|exact rfl)));(focus(kernel_rfl));(focus(kernel_rfl));(focus(exact rfl));(focus(exact rfl)))) ?_);refine fJ ?_;refine zs4 ?_;refine zs4 ?_;refine fJ ?_;refine zs6 ?_;refine zs6 ?_;refine ae ?_);(repeat(first|refine gk fun K hK=>?_|refine zs2 ?_));refine xN ?_;(repeat(first|refine gk fun K hK=>?_|refine zs2 ?_))
   exact⟨_,(aE (k:=4) aU bs br).trans (aE (k:=5) aU bs br),.three (.cell 4 62) (.cell 5 62) (.tmp 6) _ _ _ rfl (.cell 4 _ _ rfl rfl af af) (.cell 5 _ _ rfl rfl af af) (.tmp 6 rfl)⟩
 ·have hd1:decide (u<0)=false:=decide_eq_false hneg
  obtain⟨e1,e2⟩:=I.1 (.inl hd1)
  have M1:=fE (s:=!(decide (u<0)==decide (v<0))) (n:=u.natAbs/v.natAbs) (z:=u/v) (by omega) e1.symm
  have M2:=fE (s:=false) (n:=u.natAbs%v.natAbs) (z:=u%v) (by omega) (by rw[e2,yT])
  (repeat(first|refine gk fun K hK=>?_|refine zs2 ?_));refine xO ?_;(repeat(first|refine gk fun K hK=>?_|refine zs2 ?_))
  refine ay ?_
  (repeat(first|refine gk fun K hK=>?_|refine zs2 ?_));refine xN ?_;(repeat(first|refine gk fun K hK=>?_|refine zs2 ?_))
  exact⟨_,(aE (k:=4) aU bs br).trans (aE (k:=5) aU bs br),.three (.cell 4 62) (.cell 5 62) (.tmp 6) _ _ _ rfl (.cell 4 _ _ rfl rfl af af) (.cell 5 _ _ rfl rfl af af) (.tmp 6 rfl)⟩
theorem EK(u v:Int)(hu:Hf u)(hv:Hf v)(hv0:v≠0):Fn Tryz.prog 123 [.nm u,.nm v] (.nm (u/v)):=by
 have D:=mR u v hu hv hv0
 refine aF Tryz.func123 af rfl rfl rfl fun X0=>?_
 simp only[aA]
 (repeat(first|refine gk fun K hK=>?_|refine zs2 ?_));refine nX ?_;(repeat(first|refine gk fun K hK=>?_|refine zs2 ?_));(refine gar ?_;refine aJ ?_;refine aJ ?_;refine fJ ?_;refine zs4 ?_;refine eQ ?_;refine eQ ?_;refine eQ ?_;refine zs77 ?_;(refine eF (k:=6) (z:=(.agg #[.bool false,.slice none 0 0])) (d:=(.nm 0)) rfl rfl rfl rfl rfl af aa aa cf aa aa bB ?_);refine eJ ?_;refine eJ ?_;refine zs6 ?_;refine ae ?_);(repeat(first|refine gk fun K hK=>?_|refine zs2 ?_));(refine gar ?_;refine aJ ?_;refine eJ ?_;refine ae ?_);(repeat(first|refine gk fun K hK=>?_|refine zs2 ?_))
 exact⟨_,aE (k:=4) aU bs br,.one (.cell 4 62) _ rfl (.cell 4 _ _ rfl rfl af af)⟩
theorem gcd_d(u v:Int)(hu:Hf u)(hv:Hf v):Fn Tryz.prog 122 [.nm u,.nm v] (.nm (Int.gcd u v:Int)):=by
 have D1:=cZ hu
 have D2:=cZ hv
 unfold Hf at hu hv
 refine aF Tryz.func122 af rfl rfl rfl fun X0=>?_
 simp only[aA]
 (repeat(first|refine gk fun K hK=>?_|refine zs2 ?_));refine nX ?_;(repeat(first|refine gk fun K hK=>?_|refine zs2 ?_));refine xQ ?_;(repeat(first|refine gk fun K hK=>?_|refine zs2 ?_))
 (refine aq (ai (sl':=[(4,.opt 4 0),(5,dN (hd u.natAbs)),(6,dN (hd v.natAbs))]) (ow':=[(4,⟨62,2,[.nm 0]⟩)]) au aw) ?_)
 refine aH (fun r s=>∃a,Nat.gcd a r=Int.gcd u v∧(hd a).length≤200000000∧(hd r).length≤200000000∧s=⟨[(4,.opt 4 0),(5,dN (hd a)),(6,dN (hd r))],[(4,⟨62,2,[.nm 0]⟩)]⟩) (m:=v.natAbs) ⟨u.natAbs,rfl,hu,hv,rfl⟩ fun r s hs=>?_
 obtain⟨a,h1,h2,h3,rfl⟩:=hs
 by_cases hr:r=0
 ·have hl:(hd r).length=0:=(gZ _).2 hr
  subst hr
  rw[Nat.gcd_zero_right]at h1
  have M:=fE (s:=false) (n:=a) (z:=(Int.gcd u v:Int)) (by omega) (by rw[yT,h1])
  (repeat(first|refine gk fun K hK=>?_|refine zs2 ?_));(refine gar ?_;refine zs4 ?_;refine zs5 ?_;refine zs7 ?_;refine ae ?_);(repeat(first|refine gk fun K hK=>?_|refine zs2 ?_))
  refine ay ?_
  (repeat(first|refine gk fun K hK=>?_|refine zs2 ?_));(refine gar ?_;refine zs4 ?_;refine zs79 ?_;refine eJ ?_;refine ae ?_);(repeat(first|refine gk fun K hK=>?_|refine zs2 ?_))
  exact⟨_,aE (k:=4) aU bs br,.one (.cell 4 62) _ rfl (.cell 4 _ _ rfl rfl af af)⟩
 ·have hl:(hd r).length≠0:=fun e=>hr ((gZ _).1 e)
  have DV:=sM a r (by omega) (by omega) (by omega)
  have hlt:=Nat.mod_lt a (show 0<r by omega)
  have hm:=eC (Nat.le_of_lt hlt)
  have hg:Nat.gcd r (a%r)=Int.gcd u v:=by rw[←h1,Nat.gcd_comm a r,Nat.gcd_rec r a,Nat.gcd_comm]
  (repeat(first|refine gk fun K hK=>?_|refine zs2 ?_));(refine gar ?_;refine zs4 ?_;refine zs5 ?_;refine zs7 ?_;refine ae ?_);(repeat(first|refine gk fun K hK=>?_|refine zs2 ?_))
  refine av ?_
  (repeat(first|refine gk fun K hK=>?_|refine zs2 ?_));(refine gar ?_;refine zs4 ?_;refine zs4 ?_;refine fJ ?_;refine zs4 ?_;refine eQ ?_;refine eQ ?_;refine zs6 ?_;refine zs6 ?_;refine ae ?_);(repeat(first|refine gk fun K hK=>?_|refine zs2 ?_));(refine gar ?_;refine zs4 ?_;refine zs4 ?_;refine zs6 ?_;refine zs6 ?_;refine ae ?_);(repeat(first|refine gk fun K hK=>?_|refine zs2 ?_))
  simp only[nx,inB]
  exact⟨a%r,_,hlt,(ai (sl':=[(4,.opt 4 0),(5,dN (hd r)),(6,dN (hd (a%r)))]) (ow':=[(4,⟨62,2,[.nm 0]⟩)]) au aw),r,hg,h3,by omega,rfl⟩
end DW
end
section
open Go.RowKit
namespace DW
theorem oe(z:Int):sgn z<0↔z<0:=by unfold sgn;split<;>(try split)<;>omega
theorem FW(z:Int):sgn z>0↔z>0:=by unfold sgn;split<;>(try split)<;>omega
theorem xf(l:List Nat){i:Nat}(h:i≤l.length):Dg.vl 65536 (l.drop i)≤Dg.vl 65536 l:=by
 rw[Dg.cL (b:=65536) l h]
 have:=Nat.le_mul_of_pos_left (Dg.vl 65536 (l.drop i)) (Nat.pow_pos (n:=i) (show 0<65536 by decide))
 omega
def smD(z:Int):D:=if-9223372036854775808≤z∧z≤9223372036854775807 then .tp [zI z,.sc (.bool true)]else .tp [zI 0,.sc (.bool false)]
set_option maxRecDepth 20000
set_option maxHeartbeats 1000000
theorem FR(z:Int)(hz:(hd z.natAbs).length≤199999999):Fn Tryz.prog 146 [.nm z] (smD z):=by
 have D1:=cZ (z:=z) (by unfold Hf;omega)
 have O1:=pe (-9223372036854775808) (by omega)
 have O2:=pe 9223372036854775807 (by omega)
 have C1:=za z (-9223372036854775808) hz (Nat.le_trans (dJ (k:=4) (by decide)) (by decide))
 have C2:=za z 9223372036854775807 hz (Nat.le_trans (dJ (k:=4) (by decide)) (by decide))
 have s1:=oe (z- -9223372036854775808)
 have s2:=FW (z-9223372036854775807)
 obtain⟨g1,hg1⟩:∃g,g=sgn (z- -9223372036854775808):=⟨_,rfl⟩
 obtain⟨g2,hg2⟩:∃g,g=sgn (z-9223372036854775807):=⟨_,rfl⟩
 rw[←hg1]at C1 s1
 rw[←hg2]at C2 s2
 clear hg1 hg2
 refine aF Tryz.func146 af rfl rfl rfl fun X0=>?_
 simp only[aA]
 by_cases h1:z< -9223372036854775808
 ·have hg:g1<0:=s1.2 (by omega)
  rw[show smD z= .tp [zI 0,.sc (.bool false)]from if_neg (by omega)]
  (repeat(first|refine gk fun K hK=>?_|refine zs2 ?_));refine xM ?_;(repeat(first|refine gk fun K hK=>?_|refine zs2 ?_));refine xL ?_;(repeat(first|refine gk fun K hK=>?_|refine zs2 ?_));refine xK ?_;(repeat(first|refine gk fun K hK=>?_|refine zs2 ?_))
  refine av ?_
  (repeat(first|refine gk fun K hK=>?_|refine zs2 ?_));refine xJ ?_;(repeat(first|refine gk fun K hK=>?_|refine zs2 ?_))
  exact⟨_,Sh.refl,.two (.tmp 2) (.tmp 3) _ _ rfl (.tmp 2 rfl) (.tmp 3 rfl)⟩
 ·have hg:¬g1<0:=fun h=>h1 (by have:=s1.1 h;omega)
  by_cases h2:z>9223372036854775807
  ·have hg2:g2>0:=s2.2 (by omega)
   rw[show smD z= .tp [zI 0,.sc (.bool false)]from if_neg (by omega)]
   (repeat(first|refine gk fun K hK=>?_|refine zs2 ?_));refine xM ?_;(repeat(first|refine gk fun K hK=>?_|refine zs2 ?_));refine xL ?_;(repeat(first|refine gk fun K hK=>?_|refine zs2 ?_));refine xK ?_;(repeat(first|refine gk fun K hK=>?_|refine zs2 ?_))
   refine av ?_
   (repeat(first|refine gk fun K hK=>?_|refine zs2 ?_));refine xJ ?_;(repeat(first|refine gk fun K hK=>?_|refine zs2 ?_))
   exact⟨_,Sh.refl,.two (.tmp 2) (.tmp 3) _ _ rfl (.tmp 2 rfl) (.tmp 3 rfl)⟩
  ·have hg2:¬g2>0:=fun h=>h2 (by have:=s2.1 h;omega)
   rw[show smD z= .tp [zI z,.sc (.bool true)]from if_pos (by omega)]
   (repeat(first|refine gk fun K hK=>?_|refine zs2 ?_));refine xM ?_;(repeat(first|refine gk fun K hK=>?_|refine zs2 ?_));refine xL ?_;(repeat(first|refine gk fun K hK=>?_|refine zs2 ?_));refine xK ?_;(repeat(first|refine gk fun K hK=>?_|refine zs2 ?_))
   refine ay ?_
   (repeat(first|refine gk fun K hK=>?_|refine zs2 ?_));refine fA ?_;(repeat(first|refine gk fun K hK=>?_|refine zs2 ?_));refine aQ ?_;(repeat(first|refine gk fun K hK=>?_|refine zs2 ?_));refine xU ?_;(repeat(first|refine gk fun K hK=>?_|refine zs2 ?_))
   obtain⟨l,hl⟩:∃l,l=hd z.natAbs:=⟨_,rfl⟩
   rw[←hl]at hz
   have hvl:Dg.vl 65536 l=z.natAbs:=by rw[hl,en]
   have hdl:Dg.dig 65536 l:=by rw[hl];exact ew _
   rw[←hl]
   clear hl D1 O1 O2 C1 C2 s1 s2 hg hg2
   by_cases hn:z<0
   ·have hd1:decide (z<0)=true:=decide_eq_true hn
    (refine aq (ai (sl':=[(1,.pt (.nm z)),(5,dN l),(6,zI 0),(7,zI (l.length-1))]) (ow':=[]) au aw) ?_)
    refine aH (fun r s=>r≤l.length∧s=⟨[(1,.pt (.nm z)),(5,dN l),(6,zI (-(Dg.vl 65536 (l.drop r):Int))),(7,zI (r-1))],[]⟩) (m:=l.length) ⟨Nat.le_refl _,by rw[List.drop_length];rfl⟩ fun r s hs=>?_
    obtain⟨hr,rfl⟩:=hs
    by_cases hr0:r=0
    ·subst hr0
     rw[List.drop_zero,hvl]
     (repeat(first|refine gk fun K hK=>?_|refine zs2 ?_));refine dX ?_;(repeat(first|refine gk fun K hK=>?_|refine zs2 ?_))
     refine ay ?_
     (repeat(first|refine gk fun K hK=>?_|refine zs2 ?_));refine sZ ?_;(repeat(first|refine gk fun K hK=>?_|refine zs2 ?_))
     rw[show zI z=zI (-(z.natAbs:Int)) by rw[show-(z.natAbs:Int)=z by omega]]
     exact⟨_,Sh.refl,.two (.tmp 2) (.tmp 3) _ _ rfl (.tmp 2 rfl) (.tmp 3 rfl)⟩
    ·obtain⟨i,rfl⟩:∃i,r=i+1:=⟨r-1,by omega⟩
     have hi:i<l.length:=by omega
     have hx:=j6 hi
     have hdr:=Dg.bg (b:=65536) hi
     have hle:=xf l (i:=i) (by omega)
     have hc:((i+1:Nat):Int)-1=(i:Int):=by omega
     obtain⟨x,hxd⟩:∃x,x=l.getD i 0:=⟨_,rfl⟩
     obtain⟨v,hvd⟩:∃v,v=Dg.vl 65536 (l.drop (i+1)):=⟨_,rfl⟩
     rw[←hxd,←hvd]at hdr
     rw[←hxd]at hx
     rw[←hvd]
     clear hxd hvd
     (repeat(first|refine gk fun K hK=>?_|refine zs2 ?_));refine dX ?_;(repeat(first|refine gk fun K hK=>?_|refine zs2 ?_))
     refine av ?_
     (repeat(first|refine gk fun K hK=>?_|refine zs2 ?_));refine xV ?_;(repeat(first|refine gk fun K hK=>?_|refine zs2 ?_))
     refine av ?_
     (repeat(first|refine gk fun K hK=>?_|refine zs2 ?_));(refine gar ?_;refine zs4 ?_;refine zs87 ?_;refine zs4 ?_;refine zs4 ?_;refine xw ?_;refine tE ?_;refine zs67 ?_;refine zs6 ?_;refine ae ?_);(repeat(first|refine gk fun K hK=>?_|refine zs2 ?_));refine nZ ?_;(repeat(first|refine gk fun K hK=>?_|refine zs2 ?_))
     simp only[nx,inB]
     exact⟨i,_,by omega,(ai (sl':=[(1,.pt (.nm z)),(5,dN l),(6,zI (-(Dg.vl 65536 (l.drop i):Int))),(7,zI ((i:Int)-1))]) (ow':=[]) au aw),by omega,rfl⟩
   ·have hd1:decide (z<0)=false:=decide_eq_false hn
    (refine aq (ai (sl':=[(1,.pt (.nm z)),(5,dN l),(6,zI 0),(7,zI (l.length-1))]) (ow':=[]) au aw) ?_)
    refine aH (fun r s=>r≤l.length∧s=⟨[(1,.pt (.nm z)),(5,dN l),(6,zI (Dg.vl 65536 (l.drop r):Int)),(7,zI (r-1))],[]⟩) (m:=l.length) ⟨Nat.le_refl _,by rw[List.drop_length];rfl⟩ fun r s hs=>?_
    obtain⟨hr,rfl⟩:=hs
    by_cases hr0:r=0
    ·subst hr0
     rw[List.drop_zero,hvl]
     (repeat(first|refine gk fun K hK=>?_|refine zs2 ?_));refine dX ?_;(repeat(first|refine gk fun K hK=>?_|refine zs2 ?_))
     refine ay ?_
     (repeat(first|refine gk fun K hK=>?_|refine zs2 ?_));refine sZ ?_;(repeat(first|refine gk fun K hK=>?_|refine zs2 ?_))
     rw[show zI z=zI (z.natAbs:Int) by rw[show(z.natAbs:Int)=z by omega]]
     exact⟨_,Sh.refl,.two (.tmp 2) (.tmp 3) _ _ rfl (.tmp 2 rfl) (.tmp 3 rfl)⟩
    ·obtain⟨i,rfl⟩:∃i,r=i+1:=⟨r-1,by omega⟩
     have hi:i<l.length:=by omega
     have hx:=j6 hi
     have hdr:=Dg.bg (b:=65536) hi
     have hle:=xf l (i:=i) (by omega)
     have hc:((i+1:Nat):Int)-1=(i:Int):=by omega
     obtain⟨x,hxd⟩:∃x,x=l.getD i 0:=⟨_,rfl⟩
     obtain⟨v,hvd⟩:∃v,v=Dg.vl 65536 (l.drop (i+1)):=⟨_,rfl⟩
     rw[←hxd,←hvd]at hdr
     rw[←hxd]at hx
     rw[←hvd]
     clear hxd hvd
     (repeat(first|refine gk fun K hK=>?_|refine zs2 ?_));refine dX ?_;(repeat(first|refine gk fun K hK=>?_|refine zs2 ?_))
     refine av ?_
     (repeat(first|refine gk fun K hK=>?_|refine zs2 ?_));refine xV ?_;(repeat(first|refine gk fun K hK=>?_|refine zs2 ?_))
     refine ay ?_
     (repeat(first|refine gk fun K hK=>?_|refine zs2 ?_));(refine gar ?_;refine zs4 ?_;refine zs87 ?_;refine zs4 ?_;refine zs4 ?_;refine xw ?_;refine tE ?_;refine m7 ?_;refine zs6 ?_;refine ae ?_);(repeat(first|refine gk fun K hK=>?_|refine zs2 ?_));refine nZ ?_;(repeat(first|refine gk fun K hK=>?_|refine zs2 ?_))
     simp only[nx,inB]
     exact⟨i,_,by omega,(ai (sl':=[(1,.pt (.nm z)),(5,dN l),(6,zI (Dg.vl 65536 (l.drop i):Int)),(7,zI ((i:Int)-1))]) (ow':=[]) au aw),by omega,rfl⟩
end DW
end
section
open Go.RowKit Go.BigFrame
attribute [local go_sem ↓] Go.wp_at_zero Go.wp_at_succ
theorem neg_get{zs:List Int}{k:Nat}{z:Int}(h:zs[k]?=some z):(Mx.neg zs)[k]?=some (-z):=by
 unfold Mx.neg;rw[List.getElem?_map,h];rfl
set_option maxRecDepth 10000 in
set_option maxHeartbeats 4000000 in
theorem vP(g n cap:Nat)(zs:List Int)(hn:zs.length=n)(hn1:n≤1000000)(hf:∀z∈zs,Fit z)(hn0:0<n)
  (w:World) (hz:RO w g zs):
  Calls Tryz.prog 186 #[.slice (some ⟨g,0,none⟩) n cap] w (xu w g (Mx.neg zs)):=by
 have HZ:=Lib.hid hz
 have HF:Hid _:=hf
 have HN:=Lib.hid hn
 have hnw:Hid (NW w g):=hz.nw (fun e=>by rw[e]at hn;simp at hn;omega)
 have hg:g<w.heap.size:=hz.lt
 clear hz hf hn
 go_enter Tryz.func186,Tryz.ntmps186
 go_wp2_with fail
 go_loopw [6] (fun i wr=>∃k:Nat,k≤n∧i= .int .i64 ((k:Int))∧Hid (Chg g w wr)∧Hid (RO wr g (part k (Mx.neg zs) zs))) (fun i _=>n-(intOf i).toNat)
 case atStart=>exact⟨0,by omega,rfl,Chg.refl _ _,by show RO _ _ _;rw[nr];exact HZ.out⟩
 case round=>
  obtain⟨k,hk,rfl,HC,HR⟩:=hrel
  by_cases hkn:k<n
  ·have hkn2:(k:Int)<(n:Int):=by omega
   have hx:=getD_some (l:=zs) (k:=k) tI
   generalize zs.getD k 0=xz at hx
   have HX:=Lib.hid hx
   have FX:=Lib.hid (HF.out xz (List.mem_of_getElem? hx))
   obtain⟨x,cx0,cx1,hxz,f0,f1⟩:=HR.out.at (k:=k) (z:=xz) (by rw[ot (Mx.iJ zs) tI];exact hx)
   have HXZ:=Lib.hid hxz
   have hg2:g<wr.heap.size:=Nat.lt_of_lt_of_le hg HC.out.size
   obtain⟨xs,xa,xn,xc⟩:=x
   simp only[]at cx0 cx1
   clear hx hxz
   go_wp2_with (first|(go_at_call 102;(with_reducible refine(fZ ⟨xs,xa,xn,xc⟩ xz FX.out _ ?_).mono ?_);(focus(exact(HXZ.out.below (B:=wr.heap.size) ah (Nat.le_refl _)).ip));rintro e w1 ⟨⟨y,rfl,hy⟩,hb1⟩;have HY:=Lib.hid hy;clear hy;have HB1:=Lib.hid hb1;obtain⟨g1,rfl⟩:=mob hb1;clear hb1))
   go_roundw
   case rel=>
    have h1:=(HR.out.below (B:=wr.heap.size) (w':=more (wr.alloc (.cells #[.bool xs,.slice xa xn xc] 62)) g1) ah (Nat.le_refl _)).set (k:=k) (by rw[mD (Mx.iJ zs),HN.out];exact hkn) HY.out
    rw[mC (Mx.iJ zs) (neg_get HX.out)]at h1
    have h2:=o9 ((HC.out.alloc (.cells #[.bool xs,.slice xa xn xc] 62)).mor g1) k y
    have e5:ei (more (wr.alloc (.cells #[.bool xs,.slice xa xn xc] 62)) g1) g k y=more ((ei wr g k y).alloc (.cells #[.bool xs,.slice xa xn xc] 62)) g1:=by unfold ei;go_simp
    rw[e5]at h1 h2
    exact⟨k+1,by omega,by go_num,h2,h1⟩
   case measure=>simp[intOf];omega
  ·obtain rfl:k=n:=by omega
   have hkn2:¬(k:Int)<(k:Int):=by omega
   go_wp2_with fail
   (first|refine bodyPost_ret (results_none rfl _ _ _) rfl ?_|refine bodyPost_end (results_none rfl _ _ _) rfl ?_)
   refine⟨rfl,HC.out,?_⟩
   have h1:=HR.out
   rw[pd (by rw[Mx.iJ,HN.out];exact Nat.le_refl _) (by rw[HN.out];exact Nat.le_refl _)]at h1
   exact h1
structure MO(w:World)(B gm L:Nat)(gs cs:Nat→Nat)(n:Nat)(M:Mx.Mat):Prop where
 b:B≤gm
 lt:gm<w.heap.size
 fr:∀k,w.frozen? ⟨gm,k,none⟩=false
 hl:∀i,i<L→∃u,w.cell? ⟨gm,i,none⟩=some u
 nw:NW w gm
 ml:M.length≤L
 rc:Mx.Rc n M
 n0:0<n
 hc:∀i,i<M.length→w.cell? ⟨gm,i,none⟩=some (.slice (some ⟨gs i,0,none⟩) n (cs i))∧n≤cs i∧B≤gs i∧gs i≠gm∧RO w (gs i) (Mx.rw M i)
 dj:∀i j,i<M.length→j<M.length→i≠j→gs i≠gs j
theorem NW.lI{w w':World}{g:Nat}(h:NW w g)(e:w'.cell? ⟨g,0,none⟩=w.cell? ⟨g,0,none⟩):NW w' g:=fun n h2=>h n (e.symm.trans h2)
theorem MO.below{B':Nat}{w w':World}{B gm L:Nat}{gs cs:Nat→Nat}{n:Nat}{M:Mx.Mat}(h:MO w B gm L gs cs n M)(hb:Below B' w w')(hB:w.heap.size≤B'):MO w' B gm L gs cs n M:=by
 have hg:gm<B':=Nat.lt_of_lt_of_le h.lt hB
 refine⟨h.b,Nat.lt_of_lt_of_le h.lt hb.size,fun k=>(hb.frozen (p:=⟨gm,k,none⟩) hg).trans (h.fr k),fun i hi=>?_,h.nw.lI (hb.cell (p:=⟨gm,0,none⟩) hg),h.ml,h.rc,h.n0,fun i hi=>?_,h.dj⟩
 ·obtain⟨u,hu⟩:=h.hl i hi
  exact⟨u,(hb.cell (p:=⟨gm,i,none⟩) hg).trans hu⟩
 ·obtain⟨h1,h2,h3,h4,h5⟩:=h.hc i hi
  exact⟨(hb.cell (p:=⟨gm,i,none⟩) hg).trans h1,h2,h3,h4,h5.below hb hB⟩
theorem MO.Hi{w:World}{B gm L:Nat}{gs cs:Nat→Nat}{n:Nat}{M:Mx.Mat}(h:MO w B gm L gs cs n M){i:Nat}(hi:i<M.length):Mx.rw M i≠[]:=fun e=>by
 have:=h.rc.rw hi
 have:=h.n0
 rw[e]at*
 simp at*
 omega
theorem MO.Hh{w:World}{B gm L:Nat}{gs cs:Nat→Nat}{n:Nat}{M:Mx.Mat}(h:MO w B gm L gs cs n M){i:Nat}(hi:i<M.length):NW w (gs i):=(h.hc i hi).2.2.2.2.nw (h.Hi hi)
theorem MO.setRow{w w':World}{B gm L:Nat}{gs cs:Nat→Nat}{n:Nat}{M:Mx.Mat}(h:MO w B gm L gs cs n M){i:Nat}(hi:i<M.length){zs:List Int}(hz:zs.length=n)(k:Chg (gs i) w w')(hr:RO w' (gs i) zs):MO w' B gm L gs cs n (M.set i zs):=by
 have hne:=(h.hc i hi).2.2.2.1
 have hnw:=h.Hh hi
 refine⟨h.b,Nat.lt_of_lt_of_le h.lt k.size,fun j=>(k.frozen h.lt (Ne.symm hne)).trans (h.fr j),fun j hj=>?_,h.nw.lI (k.cell h.lt (Ne.symm hne)),by rw[List.length_set];exact h.ml,h.rc.set hz,h.n0,fun j hj=>?_,fun a b ha hb=>?_⟩
 ·obtain⟨u,hu⟩:=h.hl j hj
  exact⟨u,(k.cell h.lt (Ne.symm hne)).trans hu⟩
 ·rw[List.length_set]at hj
  obtain⟨h1,h2,h3,h4,h5⟩:=h.hc j hj
  refine⟨(k.cell h.lt (Ne.symm hne)).trans h1,h2,h3,h4,?_⟩
  rw[Mx.np _ _ _ _ hi]
  by_cases e:j=i
  ·rw[if_pos e,e];exact hr
  ·rw[if_neg e]
   exact h5.chg k hnw (h.dj j i hj hi e)
 ·rw[List.length_set]at ha hb
  exact h.dj a b ha hb
def ix(f:Nat→Nat)(i j:Nat):Nat→Nat:=fun k=>if k=j then f i else if k=i then f j else f k
theorem MO.swp{w:World}{B gm L:Nat}{gs cs:Nat→Nat}{n:Nat}{M:Mx.Mat}(h:MO w B gm L gs cs n M){i j:Nat}(hi:i<M.length)(hj:j<M.length):
  MO ((w.setCell ⟨gm,i,none⟩ (.slice (some ⟨gs j,0,none⟩) n (cs j))).setCell ⟨gm,j,none⟩ (.slice (some ⟨gs i,0,none⟩) n (cs i))) B gm L (ix gs i j) (ix cs i j) n (Mx.swp M i j):=by
 have k:Chg gm w ((w.setCell ⟨gm,i,none⟩ (.slice (some ⟨gs j,0,none⟩) n (cs j))).setCell ⟨gm,j,none⟩ (.slice (some ⟨gs i,0,none⟩) n (cs i))):=((Chg.refl gm w).set gm _ _ (.inl rfl)).set gm _ _ (.inl rfl)
 obtain⟨i1,i2,i3,i4,i5⟩:=h.hc i hi
 obtain⟨j1,j2,j3,j4,j5⟩:=h.hc j hj
 have cell:∀(l:Nat) (u:Value),w.cell? ⟨gm,l,none⟩=some u→((w.setCell ⟨gm,i,none⟩ (.slice (some ⟨gs j,0,none⟩) n (cs j))).setCell ⟨gm,j,none⟩ (.slice (some ⟨gs i,0,none⟩) n (cs i))).cell? ⟨gm,l,none⟩=some (if l=j then .slice (some ⟨gs i,0,none⟩) n (cs i)else if l=i then .slice (some ⟨gs j,0,none⟩) n (cs j)else u):=fun l u hu=>by
  by_cases e:l=j
  ·subst e
   rw[if_pos rfl]
   by_cases e2:l=i
   ·subst e2
    exact ct _ _ _ _ _ (ct _ _ _ _ _ hu)
   ·exact ct _ _ _ _ _ ((bP _ _ _ _ _ e2).trans hu)
  ·rw[if_neg e,bP _ _ _ _ _ e]
   by_cases e2:l=i
   ·subst e2
    rw[if_pos rfl]
    exact ct _ _ _ _ _ hu
   ·rw[if_neg e2,bP _ _ _ _ _ e2];exact hu
 refine⟨h.b,by simpa using h.lt,fun l=>by rw[World.frozen?_setCell,World.frozen?_setCell];exact h.fr l,fun l hl=>?_,fun m e=>?_,by rw[Mx.bS];exact h.ml,Mx.je h.rc hi hj,h.n0,fun l hl=>?_,fun a b ha hb hab=>?_⟩
 ·obtain⟨u,hu⟩:=h.hl l hl
  exact⟨_,cell l u hu⟩
 ·obtain⟨u,hu⟩:=h.hl 0 (by have:=h.ml;omega)
  rw[cell 0 u hu]at e
  simp only[Option.some.injEq]at e
  split at e
  ·cases e
  ·split at e
   ·cases e
   ·rw[e]at hu;exact h.nw m hu
 ·rw[Mx.bS]at hl
  obtain⟨h1,h2,h3,h4,h5⟩:=h.hc l hl
  rw[cell l _ h1,Mx.tY hi hj]
  unfold ix
  by_cases e:l=j
  ·rw[if_pos e,if_pos e,if_pos e,if_pos e]
   exact⟨rfl,i2,i3,i4,i5.chg k h.nw i4⟩
  ·rw[if_neg e,if_neg e,if_neg e,if_neg e]
   by_cases e2:l=i
   ·rw[if_pos e2,if_pos e2,if_pos e2,if_pos e2]
    exact⟨rfl,j2,j3,j4,j5.chg k h.nw j4⟩
   ·rw[if_neg e2,if_neg e2,if_neg e2,if_neg e2]
    exact⟨rfl,h2,h3,h4,h5.chg k h.nw h4⟩
 ·rw[Mx.bS]at ha hb
  unfold ix
  by_cases a1:a=j
  ·rw[if_pos a1]
   by_cases b1:b=j
   ·omega
   ·rw[if_neg b1]
    by_cases b2:b=i
    ·rw[if_pos b2]
     by_cases e:i=j
     ·omega
     ·exact h.dj i j hi hj e
    ·rw[if_neg b2];exact h.dj i b hi hb (Ne.symm b2)
  ·rw[if_neg a1]
   by_cases a2:a=i
   ·rw[if_pos a2]
    by_cases b1:b=j
    ·rw[if_pos b1]
     by_cases e:i=j
     ·omega
     ·exact h.dj j i hj hi (Ne.symm e)
    ·rw[if_neg b1,if_neg (by omega)];exact h.dj j b hj hb (Ne.symm b1)
   ·rw[if_neg a2]
    by_cases b1:b=j
    ·rw[if_pos b1];exact h.dj a i ha hi a2
    ·rw[if_neg b1]
     by_cases b2:b=i
     ·rw[if_pos b2];exact h.dj a j ha hj a1
     ·rw[if_neg b2];exact h.dj a b ha hb hab
end
section
open Go.RowKit Go.BigFrame
attribute [local go_sem ↓] Go.wp_at_zero Go.wp_at_succ
def AD(b:Option Addr):Prop:=∃g o,b=some ⟨g,o,none⟩
theorem AD.some(g o:Nat):AD (some ⟨g,o,none⟩):=⟨g,o,rfl⟩
structure MB(w:World)(B gm L:Nat)(gs cs:Nat→Nat)(n:Nat)(M:Mx.Mat):Prop where
 b:B≤gm
 lt:gm<w.heap.size
 fr:∀k,w.frozen? ⟨gm,k,none⟩=false
 hl:∀i,i<L→∃u,w.cell? ⟨gm,i,none⟩=some u
 nw:NW w gm
 ml:M.length≤L
 rc:Mx.Rc n M
 hc:∀i,i<M.length→∃b,w.cell? ⟨gm,i,none⟩=some (.slice b n (cs i))∧n≤cs i∧AD b∧(0<n→b=some ⟨gs i,0,none⟩∧B≤gs i∧gs i≠gm∧RO w (gs i) (Mx.rw M i))
 dj:0<n→∀i j,i<M.length→j<M.length→i≠j→gs i≠gs j
theorem MB.mo{w:World}{B gm L:Nat}{gs cs:Nat→Nat}{n:Nat}{M:Mx.Mat}(h:MB w B gm L gs cs n M)(h0:0<n):MO w B gm L gs cs n M:=
 ⟨h.b,h.lt,h.fr,h.hl,h.nw,h.ml,h.rc,h0,fun i hi=>by
  obtain⟨b,h1,h2,_,h3⟩:=h.hc i hi
  obtain⟨rfl,h4,h5,h6⟩:=h3 h0
  exact⟨h1,h2,h4,h5,h6⟩,h.dj h0⟩
theorem MO.mb{w:World}{B gm L:Nat}{gs cs:Nat→Nat}{n:Nat}{M:Mx.Mat}(h:MO w B gm L gs cs n M):MB w B gm L gs cs n M:=
 ⟨h.b,h.lt,h.fr,h.hl,h.nw,h.ml,h.rc,fun i hi=>by
  obtain⟨h1,h2,h3,h4,h5⟩:=h.hc i hi
  exact⟨_,h1,h2,AD.some _ _,fun _=>⟨rfl,h3,h4,h5⟩⟩,fun _=>h.dj⟩
theorem MB.below{B':Nat}{w w':World}{B gm L:Nat}{gs cs:Nat→Nat}{n:Nat}{M:Mx.Mat}(h:MB w B gm L gs cs n M)(hb:Below B' w w')(hB:w.heap.size≤B'):MB w' B gm L gs cs n M:=by
 have hg:gm<B':=Nat.lt_of_lt_of_le h.lt hB
 refine⟨h.b,Nat.lt_of_lt_of_le h.lt hb.size,fun k=>(hb.frozen (p:=⟨gm,k,none⟩) hg).trans (h.fr k),fun i hi=>?_,h.nw.lI (hb.cell (p:=⟨gm,0,none⟩) hg),h.ml,h.rc,fun i hi=>?_,h.dj⟩
 ·obtain⟨u,hu⟩:=h.hl i hi
  exact⟨u,(hb.cell (p:=⟨gm,i,none⟩) hg).trans hu⟩
 ·obtain⟨b,h1,h2,hA,h3⟩:=h.hc i hi
  exact⟨b,(hb.cell (p:=⟨gm,i,none⟩) hg).trans h1,h2,hA,fun h0=>⟨(h3 h0).1,(h3 h0).2.1,(h3 h0).2.2.1,(h3 h0).2.2.2.below hb hB⟩⟩
theorem F4(M:Mx.Mat)(zs:List Int)(i:Nat):Mx.rw (M++[zs]) i=if i=M.length then zs else Mx.rw M i:=by
 unfold Mx.rw
 rw[List.getD_eq_getElem?_getD,List.getD_eq_getElem?_getD]
 by_cases e:i=M.length
 ·subst e;rw[if_pos rfl,List.getElem?_append_right (Nat.le_refl _)];simp
 ·rw[if_neg e]
  by_cases e2:i<M.length
  ·rw[List.getElem?_append_left e2]
  ·rw[List.getElem?_append_right (by omega),List.getElem?_eq_none bW,List.getElem?_eq_none (by omega)]
theorem MB.push{w:World}{B gm L:Nat}{gs cs:Nat→Nat}{n:Nat}{M:Mx.Mat}(h:MB w B gm L gs cs n M){g c:Nat}{b:Option Addr}{zs:List Int}(hL:M.length<L)(hz:zs.length=n)(hc:n≤c)(hA:AD b)(hr:0<n→b=some ⟨g,0,none⟩∧RO w g zs∧B≤g∧g≠gm∧∀i,i<M.length→gs i≠g):
  MB (w.setCell ⟨gm,M.length,none⟩ (.slice b n c)) B gm L (fun i=>if i=M.length then g else gs i) (fun i=>if i=M.length then c else cs i) n (M++[zs]):=by
 have k:Chg gm w (w.setCell ⟨gm,M.length,none⟩ (.slice b n c)):=(Chg.refl gm w).set gm _ _ (.inl rfl)
 have cell:∀(l:Nat) (u:Value),w.cell? ⟨gm,l,none⟩=some u→(w.setCell ⟨gm,M.length,none⟩ (.slice b n c)).cell? ⟨gm,l,none⟩=some (if l=M.length then .slice b n c else u):=fun l u hu=>by
  by_cases e:l=M.length
  ·rw[if_pos e,←e];exact ct _ _ _ _ _ hu
  ·rw[if_neg e,bP _ _ _ _ _ e];exact hu
 refine⟨h.b,by simpa using h.lt,fun l=>by rw[World.frozen?_setCell];exact h.fr l,fun l hl=>?_,fun m e=>?_,by simp;omega,fun r hr=>?_,fun l hl=>?_,fun h0 a b ha hb hab=>?_⟩
 ·obtain⟨u,hu⟩:=h.hl l hl
  exact⟨_,cell l u hu⟩
 ·obtain⟨u,hu⟩:=h.hl 0 (by omega)
  rw[cell 0 u hu]at e
  simp only[Option.some.injEq]at e
  split at e
  ·cases e
  ·rw[e]at hu;exact h.nw m hu
 ·rcases List.mem_append.1 hr with h1|h1
  ·exact h.rc r h1
  ·rw[List.mem_singleton.1 h1];exact hz
 ·simp only[List.length_append,List.length_singleton]at hl
  rw[F4]
  by_cases e:l=M.length
  ·subst e
   obtain⟨u,hu⟩:=h.hl M.length hL
   rw[cell _ u hu,if_pos rfl,if_pos rfl,if_pos rfl,if_pos rfl]
   exact⟨b,rfl,hc,hA,fun h0=>⟨(hr h0).1,(hr h0).2.2.1,(hr h0).2.2.2.1,(hr h0).2.1.chg k h.nw (hr h0).2.2.2.1⟩⟩
  ·obtain⟨b',h1,h2,hA',h3⟩:=h.hc l (by omega)
   rw[cell l _ h1,if_neg e,if_neg e,if_neg e,if_neg e]
   exact⟨b',rfl,h2,hA',fun h0=>⟨(h3 h0).1,(h3 h0).2.1,(h3 h0).2.2.1,(h3 h0).2.2.2.chg k h.nw (h3 h0).2.2.1⟩⟩
 ·simp only[List.length_append,List.length_singleton]at ha hb
  by_cases a1:a=M.length
  ·rw[if_pos a1,if_neg (by omega)];exact fun e=>(hr h0).2.2.2.2 b (by omega) e.symm
  ·rw[if_neg a1]
   by_cases b1:b=M.length
   ·rw[if_pos b1];exact(hr h0).2.2.2.2 a (by omega)
   ·rw[if_neg b1];exact h.dj h0 a b (by omega) (by omega) hab
theorem F5:(Tryz.prog.info? 147).map (fun i=>(i.zero,i.size,i.bytes))=some (some (.slice none 0 0),1,24):=by kernel_rfl
theorem sD(n:Nat)(hn:n≤1000000000)(w:World):
  (Instr.makeSlice 104 (.int .i64 (n:Int)) (.int .i64 (n:Int))).run Tryz.prog w= .ok (.slice (some ⟨w.heap.size,0,none⟩) n n) (w.alloc (.cells (madeCells #[.slice none 0 0] n) 147)):=by
 obtain⟨i,hi,hz,hs,hb⟩:=eB F5
 have hr:=run_make (P:=Tryz.prog) w 104 147 i _ Tryz.underlying104 hi hz .i64 .i64 n n (by omega) (Int.le_refl _) (by rw[hb];omega) (by omega)
 rw[hs]at hr
 simpa[Value.cells]using hr
theorem yN(n k:Nat)(hk:k<n):(madeCells #[.slice none 0 0] n)[k]?=some (.slice none 0 0):=by
 unfold madeCells
 rw[Array.getElem?_map,Array.getElem?_range,if_pos (by omega)]
 simp[Nat.mod_one]
theorem MB.made(w:World)(B L n:Nat)(gs cs:Nat→Nat)(hB:B≤w.heap.size):MB (w.alloc (.cells (madeCells #[.slice none 0 0] L) 147)) B w.heap.size L gs cs n []:=by
 have hh:=heap_alloc_new w (.cells (madeCells #[.slice none 0 0] L) 147)
 have hc:∀i,i<L→(w.alloc (.cells (madeCells #[.slice none 0 0] L) 147)).cell? ⟨w.heap.size,i,none⟩=some (.slice none 0 0):=fun i hi=>by
  rw[cell_of_row _ w.heap.size _ _ _ (0,0) hh]
  exact yN L i hi
 refine⟨hB,by simp,fun k=>?_,fun i hi=>⟨_,hc i hi⟩,fun n e=>?_,Nat.zero_le _,fun r hr=>by(cases hr),fun i hi=>by(simp at hi),fun _ i j hi=>by(simp at hi)⟩
 ·simp only[World.frozen?]
  rw[hh]
  simp
 ·by_cases hL:0<L
  ·rw[hc 0 hL]at e;cases e
  ·rw[cell_of_row _ w.heap.size _ _ _ (0,0) hh]at e
   have:L=0:=by omega
   subst this
   simp[madeCells]at e
def MR(w:World)(v:Value)(n:Nat)(M:Mx.Mat):Prop:=∃a cap,v= .slice a M.length cap∧M.length≤cap∧Mx.Rc n M∧(M=[]∨∃gm om,a=some ⟨gm,om,none⟩∧gm<w.heap.size∧
 ∀i,i<M.length→∃b c,w.cell? ⟨gm,om+i,none⟩=some (.slice b n c)∧n≤c∧AD b∧(n=0∨∃g o,b=some ⟨g,o,none⟩∧RA w g o (Mx.rw M i)))
theorem MR.below{B:Nat}{w w':World}{v:Value}{n:Nat}{M:Mx.Mat}(h:MR w v n M)(hb:Below B w w')(hB:w.heap.size≤B):MR w' v n M:=by
 obtain⟨a,cap,h1,h2,h3,h4⟩:=h
 refine⟨a,cap,h1,h2,h3,?_⟩
 rcases h4 with h4|⟨gm,om,e,hg,h5⟩
 ·exact .inl h4
 ·refine .inr ⟨gm,om,e,Nat.lt_of_lt_of_le hg hb.size,fun i hi=>?_⟩
  obtain⟨b,c,k1,k2,kA,k3⟩:=h5 i hi
  refine⟨b,c,(hb.cell (p:=⟨gm,_,none⟩) (Nat.lt_of_lt_of_le hg hB)).trans k1,k2,kA,?_⟩
  rcases k3 with k3|⟨g,o,e,k4⟩
  ·exact .inl k3
  ·exact .inr ⟨g,o,e,k4.below hb hB⟩
def ZM(w:World)(v:Value)(m:List (List Int)):Prop:=∃a cap,v= .slice a m.length cap∧m.length≤cap∧(m=[]∨∃a0,a=some a0∧a0.block<w.heap.size∧
 ∀(i:Nat) (l:List Int),m[i]?=some l→∃b c,w.cell? (a0.add i)=some (.slice b l.length c)∧l.length≤c∧ZAt w b l)
theorem qL{B:Nat}{w w':World}(hb:Below B w w')(hB:w.heap.size≤B){a:Addr}{v:Value}(h:w.cell? a=some v):w'.cell? a=some v:=by
 have h2:=World.block_lt_of_cell? w _ h
 rw[hb.cell (Nat.lt_of_lt_of_le h2 hB)];exact h
def qT(w:World)(n:Nat)(M:Mx.Mat)(e:Ending)(w':World):Prop:=(∃gm gs cs cap,e= .returned (.slice (some ⟨gm,0,none⟩) M.length cap)∧M.length≤cap∧MB w' w.heap.size gm M.length gs cs n M)∧Below w.heap.size w w'
theorem sa{m:List (List Int)}{k:Nat}{l:List Int}(h:m[k]?=some l):m.take (k+1)=m.take k++[l]:=by
 rw[List.take_add_one,h];rfl
set_option maxRecDepth 10000 in
set_option maxHeartbeats 4000000 in
theorem Fv(m:List (List Int))(n:Nat)(v:Value)(hm:m.length≤1000000)(hn:n≤1000000)(hr:Mx.Rc n m)(hb:∀l∈m,∀z∈l,I64 z)(w:World)(h:ZM w v m):
  Calls Tryz.prog 72 #[v] w (qT w n m):=by
 obtain⟨a,cap,rfl,_,h4⟩:=h
 have RO':=Lib.hid (fun (l:List Int) (hl:l∈m) a cap w hz=>z7 l a cap (by rw[hr l hl];exact hn) (hb l hl) w hz)
 have HRC:Hid (Mx.Rc n m):=hr
 have hmk:=sD m.length (by omega)
 have H4:=Lib.hid h4
 clear hb hr h4
 generalize hml:m.length=q at*
 have HQ:=Lib.hid hml
 clear hml
 go_enter Tryz.func72,Tryz.ntmps72
 go_wp2_with fail
 go_loopw [11] (fun i wr=>∃(k:Nat) (gs cs:Nat→Nat),k≤q∧i= .int .i64 ((k:Int))∧Below w.heap.size w wr∧Hid (MB wr w.heap.size w.heap.size q gs cs n (m.take k)∧∀i,i<k→0<n→w.heap.size<gs i∧gs i<wr.heap.size)) (fun i _=>q-(intOf i).toNat)
 case atStart=>
  exact⟨0,id,id,by omega,rfl,by exact bel,MB.made w w.heap.size q n id id (Nat.le_refl _),fun i hi=>by omega⟩
 case round=>
  obtain⟨k,gs,cs,hk,rfl,hB,HR⟩:=hrel
  have hlt:w.heap.size<wr.heap.size:=HR.out.1.lt
  by_cases hkn:k<q
  ·have hkn2:(k:Int)<(q:Int):=by omega
   obtain⟨l,hl⟩:∃l,m[k]?=some l:=⟨m[k]'(by rw[HQ.out];omega),List.getElem?_eq_getElem _⟩
   have hll:l.length=n:=HRC.out l (List.mem_of_getElem? hl)
   rcases H4.out with h0|⟨a0,ha,hal,hcc⟩
   ·rw[h0]at hl;simp at hl
   obtain⟨b,c,cz,hlc,hza⟩:=hcc k l hl
   have cz2:=qL hB (Nat.le_refl _) cz
   subst ha
   have HZA:=Lib.hid (hza.below hB (Nat.le_refl _))
   have ROl:=Lib.hid (RO'.out l (List.mem_of_getElem? hl) b c)
   rw[hll]at ROl
   obtain⟨u,hu⟩:=HR.out.1.hl k hkn
   have hfr:=HR.out.1.fr k
   have HL:=Lib.hid (And.intro hl hll)
   clear hcc hl hza cz
   go_wp2_with (first|(go_at_call 142;(with_reducible refine(ROl.out _ ?_).mono ?_);(focus(exact HZA.out.below (B:=wr.heap.size) ah (Nat.le_refl _)));rintro e w4 ⟨⟨g4',xs,rfl,hge,hy⟩,hb4⟩;have HY:=Lib.hid (And.intro hge hy);clear hge hy;have HB4:=Lib.hid hb4;obtain⟨g4,rfl⟩:=mob hb4;clear hb4))
   go_roundw
   case rel=>
    have hp:=(HR.out.1.below HB4.out (Nat.le_refl _)).push (g:=g4') (c:=l.length) (b:=some ⟨g4',0,none⟩) (zs:=l) (by rw[List.length_take,HQ.out];omega) HL.out.2 (by omega) (AD.some _ _) (fun h0=>⟨rfl,⟨xs,HY.out.2⟩,by have:=HY.out.1;omega,by have:=HY.out.1;omega,fun i hi=>by
     have h1:=(HR.out.2 i (by rw[List.length_take,HQ.out]at hi;omega) h0).2
     have:=HY.out.1;omega⟩)
    have hkl:(m.take k).length=k:=by rw[List.length_take,HQ.out];omega
    rw[←sa HL.out.1,hkl]at hp
    have hg4:g4'<(more wr g4).heap.size:=HY.out.2.lt
    have e5:(more wr g4).setCell ⟨w.heap.size,k,none⟩ (.slice (some ⟨g4',0,none⟩) n l.length)=more (wr.setCell ⟨w.heap.size,k,none⟩ (.slice (some ⟨g4',0,none⟩) n l.length)) g4:=gO _ _ _ _ hlt
    rw[e5]at hp
    rw[HL.out.2]at hp
    refine⟨k+1,_,_,by omega,by go_num,by exact bel,hp,fun i hi h0=>?_⟩
    have hsz:(more (wr.setCell ⟨w.heap.size,k,none⟩ (.slice (some ⟨g4',0,none⟩) n n)) g4).heap.size=(more wr g4).heap.size:=by simp
    rw[hsz]
    by_cases e:i=k
    ·rw[if_pos e];have:=HY.out.1;omega
    ·rw[if_neg e]
     have h1:=HR.out.2 i (by omega) h0
     have:wr.heap.size≤(more wr g4).heap.size:=HB4.out.size
     omega
   case measure=>simp[intOf];omega
  ·obtain rfl:k=q:=by omega
   have hkn2:¬(k:Int)<(k:Int):=by omega
   go_wp2_with fail
   go_ret
   refine⟨⟨w.heap.size,gs,cs,k,by rw[HQ.out];rfl,by rw[HQ.out];exact Nat.le_refl _,?_⟩,hB⟩
   have h1:=HR.out.1
   rw[List.take_of_length_le tL]at h1
   rw[HQ.out];exact h1
end
section
open Go.RowKit Go.BigFrame
attribute [local go_sem ↓] Go.wp_at_zero Go.wp_at_succ
def fM(l:List IV):List Value:=l.flatMap fun x=>[.bool x.s,.slice x.a x.n x.cap]
theorem vZ(l m:List IV):fM (l++m)=fM l++fM m:=by simp[fM]
theorem vb:∀l:List IV,(fM l).length=l.length*2
 |[]=>rfl
 |x::l=>by
  show(([.bool x.s,.slice x.a x.n x.cap]:List Value)++fM l).length=_
  rw[List.length_append,vb l,List.length_cons]
  simp;omega
theorem rQ:∀(l:List IV) (k:Nat) (x:IV),l[k]?=some x→(fM l)[k*2]?=some (.bool x.s)∧(fM l)[k*2+1]?=some (.slice x.a x.n x.cap)
 |y::l,0,x,h=>by
  simp at h;subst h
  exact⟨rfl,rfl⟩
 |y::l,k+1,x,h=>by
  have ih:=rQ l k x (by simpa using h)
  rw[show(k+1)*2=k*2+2 by omega]
  exact ih
def lx(w:World)(base:Nat)(v:Value)(l:List IV):Prop:=w.ownsRow base 62 2 v l.length (fM l)
theorem lx.yG(W:World)(base b:Nat)(hb:b=W.heap.size)(h:base≤b):lx (W.alloc (.cells #[] 62)) base (.slice (some ⟨b,0,none⟩) 0 0) []:=by
 subst hb
 exact⟨by simp[fM],.inr ⟨W.heap.size,0,#[],rfl,h,heap_alloc_new W (.cells #[] 62),Nat.le_refl _,by simp[maxLen],by simp,by simp[fM]⟩⟩
theorem ph:∀(l:List IV) (j:Nat) (u:Value),(fM l)[j]?=some u→∃k x,l[k]?=some x∧((j=k*2∧u= .bool x.s)∨(j=k*2+1∧u= .slice x.a x.n x.cap))
 |y::l,0,u,h=>⟨0,y,rfl,.inl ⟨rfl,by simp[fM]at h;exact h.symm⟩⟩
 |y::l,1,u,h=>⟨0,y,rfl,.inr ⟨rfl,by simp[fM]at h;exact h.symm⟩⟩
 |y::l,j+2,u,h=>by
  obtain⟨k,x,h1,h2⟩:=ph l j u h
  rcases h2 with⟨h2,h3⟩|⟨h2,h3⟩
  ·exact⟨k+1,x,h1,.inl ⟨by omega,h3⟩⟩
  ·exact⟨k+1,x,h1,.inr ⟨by omega,h3⟩⟩
theorem lx.ro{w:World}{base:Nat}{v:Value}{l:List IV}(h:lx w base v l){zs:List Int}(hl:l.length=zs.length)(hz:∀(k:Nat) (x:IV) (z:Int),l[k]?=some x→zs[k]?=some z→IZ w x z):
  ∃b g c,v= .slice b zs.length c∧zs.length≤c∧(0<zs.length→b=some ⟨g,0,none⟩∧base≤g∧RO w g zs):=by
 obtain⟨h0,h⟩:=h
 rcases h with⟨hv,hn⟩|⟨g,cap,cur,rfl,hb,hg,hle,hm,hsz,htk⟩
 ·exact⟨none,0,0,by rw[hv,show zs.length=0 by omega],by omega,fun h1=>by omega⟩
 ·refine⟨_,g,cap,by rw[hl],by omega,fun _=>⟨rfl,hb,l,(Array.getElem?_eq_some_iff.1 hg).1,hl,fun k x hk=>?_,fun k x hk=>?_,fun k=>?_,hz⟩⟩
  ·have h1:=(rQ l k x hk).1
   have hk2:=(List.getElem?_eq_some_iff.1 hk).1
   rw[cell_of_row w g _ cur _ (0,0) hg]
   rw[←htk,List.getElem?_take_of_lt (by omega),Array.getElem?_toList]at h1
   exact h1
  ·have h1:=(rQ l k x hk).2
   have hk2:=(List.getElem?_eq_some_iff.1 hk).1
   rw[cell_of_row w g _ cur _ (0,0) hg]
   rw[←htk,List.getElem?_take_of_lt (by omega),Array.getElem?_toList]at h1
   exact h1
  ·simp only[World.frozen?]
   rw[hg]
   simp
def CI(w:World)(g o:Nat)(l:List IV):Prop:=∀(k:Nat) (x:IV),l[k]?=some x→w.cell? ⟨g,o+k*2,none⟩=some (.bool x.s)∧w.cell? ⟨g,o+k*2+1,none⟩=some (.slice x.a x.n x.cap)
theorem RA.ci{w:World}{g o:Nat}{zs:List Int}(h:RA w g o zs):∃l:List IV,l.length=zs.length∧CI w g o l∧∀(k:Nat) (x:IV) (z:Int),l[k]?=some x→zs[k]?=some z→IZ w x z:=by
 have key:∀k:Nat,∃x:IV,∀z,zs[k]?=some z→w.cell? ⟨g,o+k*2,none⟩=some (.bool x.s)∧w.cell? ⟨g,o+k*2+1,none⟩=some (.slice x.a x.n x.cap)∧IZ w x z:=fun k=>by
  cases e:zs[k]? with
  |none=>exact⟨⟨false,none,0,0⟩,fun z h=>by cases h⟩
  |some z=>
   obtain⟨x,hx⟩:=h.c k z e
   exact⟨x,fun z' hz'=>by cases hz';exact hx⟩
 obtain⟨f,hf⟩:=Classical.axiomOfChoice key
 have hget:∀(k:Nat) (x:IV),((List.range zs.length).map f)[k]?=some x→k<zs.length∧x=f k:=fun k x hx=>by
  rw[List.getElem?_map]at hx
  by_cases hk:k<zs.length
  ·rw[List.getElem?_range hk]at hx
   simp at hx
   exact⟨hk,hx.symm⟩
  ·rw[List.getElem?_eq_none bW]at hx
   cases hx
 refine⟨(List.range zs.length).map f,by simp,fun k x hx=>?_,fun k x z hx hz=>?_⟩
 ·obtain⟨hk,rfl⟩:=hget k x hx
  have:=hf k _ (getD_some hk)
  exact⟨this.1,this.2.1⟩
 ·obtain⟨hk,rfl⟩:=hget k x hx
  exact(hf k z hz).2.2
theorem wb{w0 w:World}{base:Nat}{v:Value}{l:List IV}(hown:lx w base v l)(hB:Below base w0 w)(hbase:base≤w.heap.size)(t tx:TypeId)(ht:Tryz.prog.underlying t=some (.slice 62))(hk:Tryz.prog.underlying tx=some (.slice 62))
  (l2:List IV) (g o c n:Nat) (hn:n=l2.length) (h2:CI w g o l2) (hlen:l.length+l2.length≤4000000000)
  {ops:Array Oper} {rest:List Oper} {oo:Oper} {a:Act} {Q:Exit→Act→World→Prop} (hgd:oo.guard=none) (s y:Operand)
  (ho:oo.op= .call {callee:=.builtin .append,args:=#[s,y],argTypes:=#[t,tx]})
  (hs:a.eval s=v) (hx:a.eval y= .slice (some ⟨g,o,none⟩) n c)
  (h:∀v' w',lx w' base v' (l++l2)→Below base w0 w'→base≤w'.heap.size→w.heap.size≤w'.heap.size→(∀b,b<w.heap.size→some b≠v.ownBlock→w'.heap[b]?=w.heap[b]?)→(v'= .slice none 0 0↔v= .slice none 0 0∧l2.length=0)→wpList Tryz.prog ops Q rest (a.put oo.dst v') w'):wpList Tryz.prog ops Q (oo::rest) a w:=by
 obtain⟨i0,hi0,hz0,hz1,hz2⟩:=eB uT
 subst hn
 refine jP hgd s y t tx ho base 62 62 i0 _ 2 32 ht hk hi0 hz0 hz1 hz2 rfl (by omega) v l.length (fM l) hs hown
  ⟨g,o,none⟩ l2.length c (fM l2) hx (by rw[vb]) ?_ ?_ oV (by omega) hbase ?_
 ·intro j u hu
  have hj:(⟨g,o,none⟩:Addr).add j=⟨g,o+j,none⟩:=by unfold Addr.add;split<;>simp_all
  rw[hj]
  obtain⟨k,x,h3,⟨rfl,rfl⟩|⟨rfl,rfl⟩⟩:=ph l2 j u hu
  ·exact(h2 k x h3).1
  ·exact(h2 k x h3).2
 ·intro u hu
  obtain⟨j,hj⟩:=List.getElem?_of_mem hu
  obtain⟨k,x,h3,⟨rfl,rfl⟩|⟨rfl,rfl⟩⟩:=ph l2 j u hj<;>rfl
 ·intro v' w' h1 h3 hnn
  have hsz:=h3.size
  refine h v' w' (by unfold lx;rw[vZ,List.length_append];exact h1) (hB.grown h3 hbase ?_) (by omega) hsz (fun b hb hne=>h3.block b hb hne) hnn
  intro k hk
  exact(hown.lt k hk).1
def RV(w:World)(v:Value)(n:Nat)(zs:List Int):Prop:=∃b c,v= .slice b n c∧n≤c∧zs.length=n∧AD b∧(n=0∨∃g o,b=some ⟨g,o,none⟩∧RA w g o zs)
theorem RV.below{B:Nat}{w w':World}{v:Value}{n:Nat}{zs:List Int}(h:RV w v n zs)(hb:Below B w w')(hB:w.heap.size≤B):RV w' v n zs:=by
 obtain⟨b,c,h1,h2,h3,hA,h4⟩:=h
 refine⟨b,c,h1,h2,h3,hA,?_⟩
 rcases h4 with h4|⟨g,o,e,h5⟩
 ·exact .inl h4
 ·exact .inr ⟨g,o,e,h5.below hb hB⟩
def RPost(w:World)(n:Nat)(zs:List Int)(e:Ending)(w':World):Prop:=(∃b g c,e= .returned (.slice b n c)∧n≤c∧AD b∧(0<n→b=some ⟨g,0,none⟩∧w.heap.size≤g∧RO w' g zs))∧Below w.heap.size w w'
theorem run_eql_slice_nil{P:Program}(w:World)(t e:TypeId)(a:Option Addr)(l c:Nat)(h:P.underlying t=some (.slice e)):(binOp .eql t (.slice a l c) (.slice none 0 0)).run P w= .ok (.bool a.isNone) w:=by
 simp only[binOp]
 simp[run_equal_slice_nil w t e a l c h]
@[go_sem] theorem eql_row (a : Option Addr) (l c : Nat) (w : World) : (binOp .eql 147 (.slice a l c) (.slice none 0 0)).run Tryz.prog w = .ok (.bool a.isNone) w:=run_eql_slice_nil w _ _ a l c Tryz.underlying147
theorem lx.ad{w:World}{base:Nat}{v:Value}{l:List IV}(h:lx w base v l)(h0:v≠ .slice none 0 0):∃b c,v= .slice b l.length c∧AD b:=by
 rcases h.2 with⟨hv,hn⟩|⟨g,cap,cur,hv,_⟩
 ·exact absurd hv h0
 ·exact⟨_,cap,hv,AD.some _ _⟩
set_option maxRecDepth 10000 in
set_option maxHeartbeats 4000000 in
theorem yE(v:Value)(n:Nat)(zs:List Int)(hn:n≤1000000)(w:World)(h:RV w v n zs):
    Calls Tryz.prog 189 #[v] w (RPost w n zs):=by
  obtain⟨b,c,rfl,hc,hz,hA,h4⟩:=h
  obtain⟨g,o,rfl⟩:=hA
  · obtain ⟨l, hl, hci, hiz⟩ : ∃ l : List IV, l.length = zs.length ∧ CI w g o l ∧ (∀ (k : Nat) (x : IV) (z : Int), l[k]? = some x → zs[k]? = some z → IZ w x z) ∧ (n = 0 ∨ g < w.heap.size) := by
      rcases h4 with h4|⟨g',o',e,h5⟩
      · subst h4
        have hz0:zs=[]:=List.eq_nil_of_length_eq_zero hz
        subst hz0
        exact⟨[],rfl,fun k x hx=>by(simp at hx),fun k x z hx=>by(simp at hx), .inl rfl⟩
      · cases e
        obtain⟨l,h6,h7,h8⟩:=h5.ci
        exact⟨l,h6,h7,h8, .inr h5.lt⟩
    have HCI:=Lib.hid hci
    have HIZ:Hid _:=hiz
    have HLN:=Lib.hid (hl.trans hz)
    have HZN:=Lib.hid hz
    have CIb:Hid (∀W,Below w.heap.size w W→CI W g o l):=fun W hW k x hx=>by
      rcases HIZ.out.2 with h|h
      · rw[List.getElem?_eq_none (by rw[HLN.out,h];omega)]at hx;cases hx
      · exact⟨(hW.cell (p:=⟨g,_,none⟩) h).trans (HCI.out k x hx).1,(hW.cell (p:=⟨g,_,none⟩) h).trans (HCI.out k x hx).2⟩
    clear h4 hci hiz hl hz
    go_enter Tryz.func189,Tryz.ntmps189
    go_wp2_with (at_builtin;go_must (refine wb (w0:=w) (base:=w.heap.size) (l:=[]) ?_ ?_ ?_ 147 147 Tryz.underlying147 Tryz.underlying147 l g o c n HLN.out.symm ?_ ?_ rfl (.tmp 5) (.tmp 6) rfl (by rfl) (by rfl) ?_);(focus(exact lx.yG _ _ _ (by first|rfl|(simp;done)) (by first|omega|(simp;done))));(focus(exact bel));(focus(simp));(focus(exact CIb.out _ ah));(focus(rw[HLN.out];simp;omega));intro v5 w5 hown5 hB5 hz5 hs5 hk5 hn5;have HO5:=Lib.hid hown5;have HN5:Hid (v5≠Value.slice none 0 0):=(fun e=>by have h9:=(hn5.1 e).1;cases h9);clear hown5 hk5 hn5)
    go_ret
    rw[List.nil_append]at HO5
    obtain⟨b',c',hv,hA⟩:=HO5.out.ad HN5.out
    obtain⟨b,g',c2,h1,h2,h3⟩:=HO5.out.ro (zs:=zs) (HLN.out.trans HZN.out.symm) (fun k x z hx hz=>(HIZ.out.1 k x z hx hz).below hB5 (Nat.le_refl _))
    rw[HZN.out]at h1 h2 h3
    have hA2:AD b:=by rw[h1]at hv;cases hv;exact hA
    exact⟨⟨b,g',c2,by rw[←h1];rfl,h2,hA2,h3⟩,hB5⟩
end
section
open Go.RowKit Go.BigFrame
attribute [local go_sem ↓] Go.wp_at_zero Go.wp_at_succ
theorem wpList_append_run{P:Program}{w w':World}{ops:Array Oper}{rest:List Oper}{o:Oper}{a:Act}{Q:Exit→Act→World→Prop}(hgd:o.guard=none)(s x:Operand)(t tx:TypeId)
  (ho:o.op= .call {callee:=.builtin .append,args:=#[s,x],argTypes:=#[t,tx]}) (v':Value) (hr:(Builtin.append_ #[t,tx] o.type #[a.eval s,a.eval x]).run P w= .ok v' w')
  (h:wpList P ops Q rest (a.put o.dst v') w'):wpList P ops Q (o::rest) a w:=by
 refine wpList_plain hgd fun K hK=>?_
 unfold Oper.wp execOp
 simp only[ho,resolve,invoke,builtin,Sem.run_bind,Sem.run_pure,Result.andThen_ok,List.map_toArray,List.map_cons,List.map_nil,hr]
 exact hK _ _ h
end
section
namespace Mx
def Bd(X:Nat)(M:Mat):Prop:=∀i j,(at' M i j).natAbs≤X
theorem Bd.mono{X Y:Nat}{M:Mat}(h:Bd X M)(hxy:X≤Y):Bd Y M:=fun i j=>Nat.le_trans (h i j) hxy
theorem zH{X:Nat}{M:Mat}(h:Bd X M){i j:Nat}(hi:i<M.length)(hj:j<M.length):Bd X (swp M i j):=fun k l=>by
 rw[bI hi hj]
 split
 ·exact h _ _
 ·split<;>exact h _ _
theorem ve{n X Q:Nat}{r c s:Nat}{M:Mat}(h:Rc n M)(hr:r<M.length)(hb:Bd X M)(hq:∀i,s≤i→i<M.length→(at' M i c/at' M r c).natAbs≤Q){k:Nat}(hk:s+k≤M.length):Bd (X*(Q+1)) (aI r c s M k):=fun i j=>by
 rw[iS h hr hk]
 have h1:=hb i j
 have h2:X≤X*(Q+1):=Nat.le_mul_of_pos_right X (Nat.succ_pos Q)
 split
 ·rename_i h3
  have h4:=hq i h3.1 (by omega)
  have h5:=hb r j
  have h6:(at' M i c/at' M r c*at' M r j).natAbs≤Q*X:=by
   rw[Int.natAbs_mul];exact Nat.mul_le_mul h4 h5
  rw[Nat.mul_comm]at h6
  rw[Nat.mul_add,Nat.mul_one]
  omega
 ·omega
theorem rB{X r c:Nat}{M:Mat}(h:Bd X M)(hr:r<M.length):Bd X (bH r c M):=fun i j=>by
 unfold bH
 split
 ·rw[lQ _ _ _ _ _ hr]
  split
  ·rw[lJ,Int.natAbs_neg];exact h r j
  ·exact h i j
 ·exact h i j
theorem gC(x p:Int):(x/p).natAbs≤x.natAbs:=Int.natAbs_ediv_le_natAbs x p
theorem div_pos{x p:Int}(hx:0≤x)(hp:0<p):(x/p).natAbs*p.natAbs≤x.natAbs:=by
 have h1:=Int.ediv_nonneg hx (Int.le_of_lt hp)
 have h2:=Int.ediv_mul_le x (show p≠0 by omega)
 have h3:((x/p).natAbs:Int)*(p.natAbs:Int)=x/p*p:=by
  rw[Int.natAbs_of_nonneg h1,Int.natAbs_of_nonneg (Int.le_of_lt hp)]
 omega
theorem GB{x p:Int}(hp:0<p):(x/p).natAbs*p.natAbs≤x.natAbs+p.natAbs:=by
 by_cases hx:0≤x
 ·have:=div_pos hx hp;omega
 ·have h1:=jE (x:=x) (p:=p) (by omega)
  have h2:x/p≤0:=by
   apply Int.le_of_not_gt;intro h
   have:=Int.mul_le_mul_of_nonneg_right (show 1≤x/p by omega) (Int.le_of_lt hp)
   omega
  have h3:((x/p).natAbs:Int)*(p.natAbs:Int)= -(x/p*p):=by
   rw[show((x/p).natAbs:Int)= -(x/p) by omega,Int.natAbs_of_nonneg (Int.le_of_lt hp),Int.neg_mul]
  omega
theorem ic{r c s k:Nat}{M:Mat}(hr:¬(s≤r∧r<s+k))(hk:s+k≤M.length):aI r c s M (k+1)=(aI r c s M k).set (s+k) (cu (rw (aI r c s M k) r) c (rw (aI r c s M k) (s+k))):=by
 rw[cv _ _ _ _ _ hk,cv _ _ _ _ _ hk,if_neg hr,if_neg (by omega)];rfl
theorem zW(M:Mat)(i:Nat):M.set i (rw M i)=M:=by
 apply List.ext_getElem?
 intro k
 by_cases e:i=k
 ·subst e
  by_cases h:i<M.length
  ·rw[List.getElem?_set_self h];unfold rw;rw[List.getD_eq_getElem?_getD,List.getElem?_eq_getElem h];rfl
  ·rw[List.getElem?_eq_none bW,List.getElem?_eq_none (by omega)]
 ·rw[List.getElem?_set_ne e]
theorem vd{p a:List Int}{c:Nat}(h:a.getD c 0=0)(hl:a.length=p.length):cu p c a=a:=
 lF (iZ _ _ _ hl) fun j=>by rw[qH _ _ _ _ hl,h,Int.zero_ediv,Int.zero_mul,Int.sub_zero]
theorem yY{n r c s k:Nat}{M:Mat}(h:Rc n M)(hrl:r<M.length)(hr:¬(s≤r∧r<s+k))(hk:s+k<M.length)(h0:at' (aI r c s M k) (s+k) c=0):aI r c s M (k+1)=aI r c s M k:=by
 have hl:=bT r c s M k
 have hrc:=iR (s:=s) (c:=c) h hrl k (by omega)
 rw[ic hr (by omega),vd h0 (by rw[hrc.rw (by omega),hrc.rw (by omega)]),zW]
theorem uh(c r:Nat)(M:Mat):∀k,(scan c r M k).2≤k
 |0=>Nat.le_refl _
 |k+1=>by
  have:=uh c r M k
  unfold scan
  simp only[]
  split
  ·omega
  ·exact Nat.succ_le_succ this
theorem e11(e c:Nat):11*(e*11^c)=e*11^(c+1):=by rw[Nat.pow_succ,Nat.mul_comm (11^c) 11,Nat.mul_left_comm]
theorem zZ{c r i:Nat}{M:Mat}(h:r≤i)(h0:at' M i c=0):scan c r M (i+1-r)=scan c r M (i-r):=by
 rw[show i+1-r=(i-r)+1 by omega]
 conv=>lhs;unfold scan
 simp only[]
 rw[show r+(i-r)=i by omega,if_pos h0]
theorem z5{c r i:Nat}{M:Mat}(h:r≤i)(h0:at' M i c≠0)(hp:(scan c r M (i-r)).1=none):scan c r M (i+1-r)=(some i,(scan c r M (i-r)).2+1):=by
 rw[show i+1-r=(i-r)+1 by omega]
 conv=>lhs;unfold scan
 simp only[]
 rw[show r+(i-r)=i by omega,if_neg h0,hp]
theorem wv{c r i t:Nat}{M:Mat}(h:r≤i)(h0:at' M i c≠0)(hp:(scan c r M (i-r)).1=some t)(hl:(at' M i c).natAbs<(at' M t c).natAbs):scan c r M (i+1-r)=(some i,(scan c r M (i-r)).2+1):=by
 rw[show i+1-r=(i-r)+1 by omega]
 conv=>lhs;unfold scan
 simp only[]
 rw[show r+(i-r)=i by omega,if_neg h0,hp]
 simp only[]
 rw[if_pos hl]
theorem wz{c r i t:Nat}{M:Mat}(h:r≤i)(h0:at' M i c≠0)(hp:(scan c r M (i-r)).1=some t)(hl:¬(at' M i c).natAbs<(at' M t c).natAbs):scan c r M (i+1-r)=(some t,(scan c r M (i-r)).2+1):=by
 rw[show i+1-r=(i-r)+1 by omega]
 conv=>lhs;unfold scan
 simp only[]
 rw[show r+(i-r)=i by omega,if_neg h0,hp]
 simp only[]
 rw[if_neg hl]
structure Round(r c t:Nat)(M:Mat):Prop where
 hr:r<M.length
 ht:t<M.length
 rt:r≤t
 ne:at' M t c≠0
 least:∀i,r≤i→i<M.length→at' M i c≠0→(at' M t c).natAbs≤(at' M i c).natAbs
 other:∃i,r≤i∧i<M.length∧i≠t∧at' M i c≠0
 pr:at' (elim r c (swp M r t)) r c=at' M t c
 tto:∀i,r<i→i<M.length→∃j,r≤j∧j<M.length∧j≠t∧at' (swp M r t) i c=at' M j c∧at' (elim r c (swp M r t)) i c=at' M j c%at' M t c
 fro:∀j,r≤j→j<M.length→j≠t→∃i,r<i∧i<M.length∧at' (elim r c (swp M r t)) i c=at' M j c%at' M t c
theorem um{n r c t:Nat}{M:Mat}(h:Rc n M)(h1:(pick r c M).1=some t)(h2:(pick r c M).2≠1):Round r c t M:=by
 obtain⟨k1,k2,k3,k4,k5,_,k7⟩:=(cS c r M (M.length-r)).yes t h1
 have h2':2≤(scan c r M (M.length-r)).2:=by unfold pick at h2;omega
 obtain⟨i,i1,i2,i3,i4⟩:=k7 h2'
 clear k7
 have hr:r<M.length:=by omega
 have ht:t<M.length:=by omega
 have hS:=je h hr ht
 have hSl:(swp M r t).length=M.length:=bS _ _ _
 have hSr:at' (swp M r t) r c=at' M t c:=by
  rw[bI hr ht]
  split
  ·rename_i e;rw[e]
  ·rw[if_pos rfl]
 have hat:∀i,r<i→i<M.length→at' (elim r c (swp M r t)) i c=at' (swp M r t) i c%at' M t c:=fun i h3 h4=>by
  unfold elim
  rw[iS hS (by omega) (by omega),if_pos (by omega),hSr,(jE k3).2.2]
 refine⟨hr,ht,k1,k3,fun i h3 h4 h5=>k4 i h3 (by omega) h5,⟨i,i1,by omega,i3,i4⟩,?_,fun i h3 h4=>?_,fun j h3 h4 h5=>?_⟩
 ·unfold elim
  rw[iS hS (by omega) (by omega),if_neg (by omega),hSr]
 ·rw[hat i h3 h4,bI hr ht]
  by_cases e:i=t
  ·rw[if_pos e];exact⟨r,Nat.le_refl _,hr,by omega,rfl,rfl⟩
  ·rw[if_neg e,if_neg (by omega)];exact⟨i,by omega,h4,e,rfl,rfl⟩
 ·by_cases e:j=r
  ·refine⟨t,by omega,ht,?_⟩
   rw[hat t (by omega) ht,bI hr ht,if_pos rfl,e]
  ·refine⟨j,by omega,h4,?_⟩
   rw[hat j (by omega) h4,bI hr ht,if_neg h5,if_neg e]
def J(K r c:Nat)(M:Mat):Prop:=∃X O i0,Bd X M∧X≤K∧r≤i0∧i0<M.length∧(at' M i0 c).natAbs=O∧(∀i,r≤i→i<M.length→i≠i0→0≤at' M i c∧at' M i c<(O:Int))∧
 ∀t,(pick r c M).1=some t→(pick r c M).2≠1→X*O*O*(at' M t c).natAbs*(if at' M i0 c<0 then 3 else 1)≤K
def Jn(K r c:Nat)(M:Mat):Prop:=(∃X,1≤X∧Bd X M∧6*X^5≤K)∨J K r c M
theorem pow5(X:Nat):X^5=X*X*X*X*X:=by
 simp[Nat.pow_succ]
theorem Gs{X:Nat}(h:1≤X):X≤X^5:=by
 have:=Nat.pow_le_pow_right h (show 1≤5 by omega)
 simpa using this
theorem mK{K r c:Nat}{M:Mat}(h:Jn K r c M):Bd K M:=by
 rcases h with⟨X,h1,h2,h3⟩|⟨X,O,i0,h1,h2,_⟩
 ·exact h2.mono (by have:=Gs h1;omega)
 ·exact h1.mono h2
theorem rE{n K r c t X Q:Nat}{M:Mat}(h:Rc n M)(R:Round r c t M)(hb:Bd X M)(hq:∀j,r≤j→j<M.length→j≠t→(at' M j c/at' M t c).natAbs≤Q)(hK:X*(Q+1)≤K)
  (hc:∀t',(pick r c (elim r c (swp M r t))).1=some t'→(pick r c (elim r c (swp M r t))).2≠1→X*(Q+1)*(at' M t c).natAbs*(at' M t c).natAbs*(at' (elim r c (swp M r t)) t' c).natAbs*(if at' M t c<0 then 3 else 1)≤K):
  (∀k,r+1+k≤M.length→Bd K (aI r c (r+1) (swp M r t) k))∧J K r c (elim r c (swp M r t)):=by
 have hSl:(swp M r t).length=M.length:=bS _ _ _
 have hr:=R.hr
 have hSr:at' (swp M r t) r c=at' M t c:=by
  rw[bI R.hr R.ht]
  split
  ·rename_i e;rw[e]
  ·rw[if_pos rfl]
 have key:∀k,r+1+k≤M.length→Bd (X*(Q+1)) (aI r c (r+1) (swp M r t) k):=fun k hk=>
  ve (je h R.hr R.ht) (by omega) (zH hb R.hr R.ht) (fun i h1 h2=>by
   obtain⟨j,j1,j2,j3,j4,_⟩:=R.tto i (by omega) (by omega)
   rw[hSr,j4];exact hq j j1 j2 j3) (by omega)
 refine⟨fun k hk=>(key k hk).mono hK,X*(Q+1),(at' M t c).natAbs,r,?_,hK,Nat.le_refl _,?_,by rw[R.pr],fun i h1 h2 h3=>?_,fun t' h1 h2=>?_⟩
 ·unfold elim;exact key _ (by omega)
 ·unfold elim;rw[bT,hSl];exact R.hr
 ·have hl:(elim r c (swp M r t)).length=M.length:=by unfold elim;rw[bT,hSl]
  obtain⟨j,_,_,_,_,j5⟩:=R.tto i (by omega) (by omega)
  rw[j5]
  exact⟨Int.emod_nonneg _ R.ne,Int.emod_lt _ R.ne⟩
 ·rw[R.pr];exact hc t' h1 h2
theorem rL{n r c t t':Nat}{M:Mat}(h:Rc n M)(R:Round r c t M)(h1:(pick r c (elim r c (swp M r t))).1=some t')(h2:(pick r c (elim r c (swp M r t))).2≠1):
  (at' (elim r c (swp M r t)) t' c).natAbs<(at' M t c).natAbs∧∀i,r≤i→i<M.length→at' (elim r c (swp M r t)) i c≠0→(at' (elim r c (swp M r t)) t' c).natAbs≤(at' (elim r c (swp M r t)) i c).natAbs:=by
 have hE:=mu h (c:=c) R.hr R.ht
 have R':=um hE.1 h1 h2
 have hl:=hE.2
 have small:∀i,r<i→i<M.length→(at' (elim r c (swp M r t)) i c).natAbs<(at' M t c).natAbs:=fun i h3 h4=>by
  obtain⟨j,_,_,_,_,j5⟩:=R.tto i h3 h4
  rw[j5]
  have:=Int.emod_nonneg (at' M j c) R.ne
  have:=Int.emod_lt (at' M j c) R.ne
  omega
 refine⟨?_,fun i h3 h4 h5=>R'.least i h3 (by omega) h5⟩
 by_cases e:t'=r
 ·obtain⟨i,i1,i2,i3,i4⟩:=R'.other
  have h5:=R'.least i i1 i2 i4
  have h6:=small i (by omega) (by omega)
  rw[e,R.pr]at h5⊢
  omega
 ·exact small t' (by have:=R'.rt;omega) (by have:=R'.ht;omega)
theorem rN{n K r c t:Nat}{M:Mat}(h:Rc n M)(hj:Jn K r c M)(h1:(pick r c M).1=some t)(h2:(pick r c M).2≠1):
    (∀k,r+1+k≤M.length→Bd K (aI r c (r+1) (swp M r t) k))∧Jn K r c (elim r c (swp M r t)):=by
  have R:=um h h1 h2
  have hP:1≤(at' M t c).natAbs:=by have:=R.ne;omega
  have go:∀{A B:Prop},A∧J K r c (elim r c (swp M r t))→(A→B)→B∧Jn K r c (elim r c (swp M r t)):=fun x f=>⟨f x.1, .inr x.2⟩
  rcases hj with⟨X,x1,x2,x3⟩|⟨X,O,i0,x1,x2,x3,x4,x5,x6,x7⟩
  · refine go (rE (X:=X) (Q:=X) h R x2 (fun j j1 j2 j3=>Nat.le_trans (gC _ _) (x2 j c)) ?_ fun t' k1 k2=> ?_) id
    · have h3:X*(X+1)≤X*(2*X):=Nat.mul_le_mul_left X (by omega)
      have h4:X*X≤X^5:=by
        have:=Nat.pow_le_pow_right x1 (show 2≤5 by omega)
        rw[Nat.pow_two]at this;exact this
      have h5:X*(2*X)=2*(X*X):=by rw[Nat.mul_left_comm]
      omega
    · have h3:=(rL h R k1 k2).1
      have h4:=x2 t c
      have h5:X*(X+1)≤2*(X*X):=by
        have:X*(X+1)≤X*(2*X):=Nat.mul_le_mul_left X (by omega)
        rwa[Nat.mul_left_comm]at this
      have h6:X*(X+1)*(at' M t c).natAbs*(at' M t c).natAbs*(at' (elim r c (swp M r t)) t' c).natAbs*(if at' M t c<0 then 3 else 1)≤2*(X*X)*X*X*X*3:=
        Nat.mul_le_mul (Nat.mul_le_mul (Nat.mul_le_mul (Nat.mul_le_mul h5 h4) h4) (by omega)) (by split<;>omega)
      have h7:2*(X*X)*X*X*X*3=6*X^5:=by
        rw[pow5]
        simp only[Nat.mul_assoc,Nat.mul_comm]
      omega
  · have ht0 : t ≠ i0 := fun e => by
      obtain⟨i,i1,i2,i3,i4⟩:=R.other
      have h3:=R.least i i1 i2 i4
      have h4:=x6 i i1 i2 (by omega)
      rw[e]at h3
      omega
    have h3:=x6 t R.rt R.ht ht0
    have hk:=x7 t h1 h2
    generalize hpe:at' M t c=p at*
    generalize hae:at' M i0 c=a at*
    have hp0:0<p:=by have:=R.ne;rw[hpe]at this;omega
    obtain⟨P,rfl⟩:∃P:Nat,p=P:=⟨p.natAbs,by omega⟩
    rw[Int.natAbs_natCast]at*
    have hPO:P<O:=by omega
    have hO2:O≤O*O:=Nat.le_mul_of_pos_right O (by omega)
    have hdiv:O/P*P≤O:=Nat.div_mul_le_self O P
    have hdv:O/P≤O:=Nat.div_le_self O P
    have hneg:¬(P:Int)<0:=by omega
    by_cases hs:a<0
    · rw[if_pos hs]at hk
      have e3:X*O*O*P*3=3*(X*O*O*P):=Nat.mul_comm _ _
      refine go (rE (X:=X) (Q:=O/P+1) h R x1 (fun j j1 j2 j3=> ?_) ?_ fun t' k1 k2=> ?_) id
      · rw[hpe]
        have h4:(at' M j c/(P:Int)).natAbs*P≤O+P:=by
          have h5:=GB (x:=at' M j c) (p:=(P:Int)) hp0
          rw[Int.natAbs_natCast]at h5
          by_cases e:j=i0
          · rw[e,hae]at h5⊢;omega
          · have:=x6 j j1 j2 e;omega
        have h5:(at' M j c/(P:Int)).natAbs≤(O+P)/P:=(Nat.le_div_iff_mul_le (by omega)).2 h4
        rwa[Nat.add_div_right _ (by omega)]at h5
      · have h4 : X * (O / P + 1 + 1) ≤ X * (3 * (O * O * P)) := Nat.mul_le_mul_left X (by
          have:O*O≤O*O*P:=Nat.le_mul_of_pos_right _ (by omega)
          omega)
        have h5:X*(3*(O*O*P))=3*(X*O*O*P):=by
          simp only[Nat.mul_assoc,Nat.mul_comm,Nat.mul_left_comm]
        omega
      · have h4:=(rL h R k1 k2).1
        rw[hpe]at h4⊢
        rw[Int.natAbs_natCast]at h4⊢
        rw[if_neg hneg,Nat.mul_one]
        generalize(at' (elim r c (swp M r t)) t' c).natAbs=P' at h4⊢
        have h5:(O/P+1+1)*P≤3*O:=by rw[Nat.add_mul,Nat.add_mul];omega
        have h6:X*((O/P+1+1)*P)*P*P'≤X*(3*O)*P*O:=Nat.mul_le_mul (Nat.mul_le_mul (Nat.mul_le_mul_left X h5) (Nat.le_refl _)) (by omega)
        have h7:X*(3*O)*P*O=3*(X*O*O*P):=by
          simp only[Nat.mul_assoc,Nat.mul_comm,Nat.mul_left_comm]
        have h8:X*(O/P+1+1)*P*P*P'=X*((O/P+1+1)*P)*P*P':=by rw[Nat.mul_assoc X]
        omega
    · rw[if_neg hs,Nat.mul_one]at hk
      have haO:a=(O:Int):=by omega
      refine go (rE (X:=X) (Q:=O/P) h R x1 (fun j j1 j2 j3=> ?_) ?_ fun t' k1 k2=> ?_) id
      · rw[hpe]
        have h4:(at' M j c/(P:Int)).natAbs*P≤O:=by
          by_cases e:j=i0
          · rw[e,hae,haO]
            have h5:=div_pos (x:=(O:Int)) (p:=(P:Int)) (by omega) hp0
            rw[Int.natAbs_natCast,Int.natAbs_natCast]at h5
            exact h5
          · have h6:=x6 j j1 j2 e
            have h5:=div_pos (x:=at' M j c) (p:=(P:Int)) h6.1 hp0
            rw[Int.natAbs_natCast]at h5
            omega
        exact(Nat.le_div_iff_mul_le (by omega)).2 h4
      · have h4 : X * (O / P + 1) ≤ X * (O * O * P) := Nat.mul_le_mul_left X (by
          have h6:O*O≤O*O*P:=Nat.le_mul_of_pos_right _ (by omega)
          have h7:2*O≤O*O:=Nat.mul_le_mul_right O (by omega)
          omega)
        have h5:X*(O*O*P)=X*O*O*P:=by simp only[Nat.mul_assoc]
        omega
      · obtain⟨h4,h5⟩:=rL h R k1 k2
        obtain⟨m0,m1,m2,m3⟩:=R.fro i0 x3 x4 (Ne.symm ht0)
        have h6:=h5 m0 (by omega) m2
        rw[m3,hae,haO]at h6
        rw[hpe]at h4 h6⊢
        rw[Int.natAbs_natCast]at h4⊢
        rw[if_neg hneg,Nat.mul_one]
        generalize(at' (elim r c (swp M r t)) t' c).natAbs=P' at h4 h6⊢
        have h7:2*P'≤O:=by
          have e1:((O:Int)%(P:Int))=((O%P:Nat):Int):=by simp
          rw[e1,Int.natAbs_natCast]at h6
          have e2:=Nat.div_add_mod O P
          have e3:1≤O/P:=(Nat.le_div_iff_mul_le (by omega)).2 (by omega)
          have e4:=Nat.mod_lt O (show 0<P by omega)
          by_cases h0:O%P=0
          · have e5 : 2 ≤ O / P := by
              apply Nat.le_of_not_lt;intro hlt
              have:O/P=1:=by omega
              rw[this,h0]at e2;omega
            have e6:=Nat.mul_le_mul_left P e5
            omega
          · have e5:=h6 (by omega)
            have e6:=Nat.mul_le_mul_left P e3
            omega
        have h8:(O/P+1)*P≤2*O:=by rw[Nat.add_mul];omega
        have h9:X*((O/P+1)*P)*P*P'≤X*(2*O)*P*P':=Nat.mul_le_mul (Nat.mul_le_mul (Nat.mul_le_mul_left X h8) (Nat.le_refl _)) (Nat.le_refl _)
        have h10:X*(2*O)*P*P'=X*O*P*(2*P'):=by simp only[Nat.mul_assoc,Nat.mul_comm,Nat.mul_left_comm]
        have h11:X*O*P*(2*P')≤X*O*P*O:=Nat.mul_le_mul_left _ h7
        have h12:X*O*P*O=X*O*O*P:=Nat.mul_right_comm _ _ _
        have h13:X*(O/P+1)*P*P*P'=X*((O/P+1)*P)*P*P':=by rw[Nat.mul_assoc X]
        omega
theorem rS{n K r c:Nat}{M:Mat}(h:Rc n M)(hj:Jn K r c M):Bd K (bZ r c M):=by
 refine pH (n:=n) (r:=r) (c:=c) (fun N=>Jn K r c N) (fun N hN hq t ht h2=>(rN hN hq ht h2).2) (fun N=>Bd K N) (fun N _ hq _=>mK hq) (fun N hN hq t ht h2=>?_) _ M rfl h hj
 obtain⟨k1,k2,_⟩:=(cS c r N (N.length-r)).yes t ht
 exact zH (mK hq) (by omega) (by omega)
theorem vE{n K r c:Nat}{M:Mat}(h:Rc n M)(hr:r<M.length)(hb:Bd K M){k:Nat}(hk:k≤M.length):Bd (K*(K+1)) (aI r c 0 M k):=
 ve h hr hb (fun i _ _=>Nat.le_trans (gC _ _) (hb i c)) (by omega)
def nb(X:Nat):Nat:=6*X^5*(6*X^5+1)
theorem yK(X:Nat):6*X^5≤nb X:=Nat.le_mul_of_pos_right _ (by omega)
theorem qo{e:Nat}(h:6≤e):nb (2^e)≤2^(11*e):=by
 have h1:6*(2^e)^5+1≤2^(5*e+3):=by
  rw[←Nat.pow_mul,Nat.pow_add,Nat.mul_comm e 5]
  have:=Nat.pow_pos (a:=2) (n:=5*e) (by omega)
  omega
 have h2:nb (2^e)≤2^(5*e+3)*2^(5*e+3):=Nat.mul_le_mul (by omega) h1
 rw[←Nat.pow_add]at h2
 exact Nat.le_trans h2 (Nat.pow_le_pow_right (by omega) (by omega))
theorem wk{n X r c:Nat}{M:Mat}(h:Rc n M)(hr:r<M.length)(h1:1≤X)(hb:Bd X M):Bd (nb X) (step r c M).2:=by
 have hc:=rS h (K:=6*X^5) (r:=r) (c:=c) (.inl ⟨X,h1,hb,Nat.le_refl _⟩)
 have hre:=(mW (r:=r) (c:=c) h).1.re
 unfold step
 simp only[]
 split
 ·exact hc.mono (yK X)
 ·have hl:r<(bZ r c M).length:=by rw[hre.len];exact hr
  have h2:=od (c:=c) hl
  exact vE (h2.rc (hre.rc h)) (by rw[h2.len];exact hl) (rB hc hl) (by rw[h2.len];omega)
theorem uo{k c r:Nat}{M:Mat}(h:r<M.length):red (k+1) c (r,M)=red k (c+1) (step r c M):=by
 conv=>lhs;unfold red
 rw[if_pos h]
theorem mA{k c r:Nat}{M:Mat}(h:¬r<M.length):red k c (r,M)=(r,M):=by
 cases k with
 |zero=>rfl
 |succ k=>unfold red;rw[if_neg h]
end Mx
end
end Go.Proofs.YtcgjmdpcplhanaaGreat
