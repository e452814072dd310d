/- Lemmas for the law: E39 Q21 -/
import Derived.Test.YtcgjmdpcplhanaaGreatZi14
namespace Go.Proofs.YtcgjmdpcplhanaaGreat
section
theorem oQ{p q:Prop}(h:q)(f:Wq q→p:=by(intro hW;((refine gar ?_;refine zs4 ?_;refine zs5 ?_;refine ew ?_;refine aK ?_;refine uQ ?_;refine zs4 ?_;refine zs8 ?_;refine pV ?_;refine fG ?_;refine cP ?_;refine zs4 ?_;refine zs8 ?_;refine pV ?_;refine fG ?_;refine cP ?_;refine zs6 ?_;refine af ?_));exact hW.out)):p:=f ⟨h⟩
theorem j6{p:Prop}(h:p:=by unfold I64;omega):p:=h
theorem uk{p q:Prop}(h:q)(f:Wq q→p:=by(intro hW;((refine gar ?_;refine ew ?_;refine aK ?_;refine GD ?_;refine iP ?_;refine zs4 ?_;refine jK ?_;refine cC ?_;refine fG ?_;refine cP ?_;refine zs4 ?_;refine jK ?_;refine cC ?_;refine fG ?_;refine cP ?_;refine af ?_));exact hW.out)):p:=f ⟨h⟩
theorem za{p q:Prop}(h:q)(f:Wq q→p:=by(intro hW;((refine gar ?_;refine zs4 ?_;refine zs7 ?_;refine zs4 ?_;refine zs8 ?_;refine fG ?_;refine cP ?_;refine zs6 ?_;refine af ?_));exact hW.out)):p:=f ⟨h⟩
end
section
open Go.RowKit
namespace DW
set_option maxRecDepth 20000
set_option maxHeartbeats 2000000
theorem B9(dim den:Int)(m:Mx.Mat)(p q C:Int)(hC:C≠0)(CK:Fn Tryz.prog 33 [dL dim m den] (zI C)):Fn Tryz.prog 46 [dL dim m den,dF p q] (.tp [dL 0 [] 0,zI C]):=by
 refine aE Tryz.func46 aa rfl rfl rfl fun X0=>?_
 simp only[ay]
 (repeat(first|refine gk fun K hK=>?_|refine zs2 ?_));refine kP ?_;(repeat(first|refine gk fun K hK=>?_|refine zs2 ?_));refine du ?_;(repeat(first|refine gk fun K hK=>?_|refine zs2 ?_));refine bz ?_;(repeat(first|refine gk fun K hK=>?_|refine zs2 ?_))
 refine ao ?_
 (repeat(first|refine gk fun K hK=>?_|refine zs2 ?_));refine uo ?_;(repeat(first|refine gk fun K hK=>?_|refine zs2 ?_))
 exact⟨_,Sh.trans (ai (k:=4) aG aQ aP) (cq (t:=4) (d:=.pt (.st [_,.sc (.slice none 0 0),_])) (d':=.pt (.st [_,dM [],_])) ae rfl rfl fun X w v h=>bs h),.two (.cell 4 48) (.tmp 5) _ _ rfl (.cell 4 _ _ rfl rfl aa aa) (.tmp 5 rfl)⟩
theorem B8(dim den:Int)(m:Mx.Mat)(p q:Int)(CK:Fn Tryz.prog 33 [dL dim m den] (zI 0))(h:¬(inb 1000000000000000 p=true∧1≤q∧q≤1000000000000000)):Fn Tryz.prog 46 [dL dim m den,dF p q] (.tp [dL 0 [] 0,zI 2]):=by
 have FI:=wk p 1000000000000000 (by omega) (by omega)
 by_cases h1:inb 1000000000000000 p=true
 ·rw[h1]at FI
  by_cases h2:q<1
  ·have hd2:decide (q<1)=true:=decide_eq_true h2
   clear h h1
   refine aE Tryz.func46 aa rfl rfl rfl fun X0=>?_
   simp only[ay]
   (repeat(first|refine gk fun K hK=>?_|refine zs2 ?_));refine kP ?_;(repeat(first|refine gk fun K hK=>?_|refine zs2 ?_));refine du ?_;(repeat(first|refine gk fun K hK=>?_|refine zs2 ?_));refine bz ?_;(repeat(first|refine gk fun K hK=>?_|refine zs2 ?_))
   refine au ?_
   (repeat(first|refine gk fun K hK=>?_|refine zs2 ?_));refine uk ?_;(repeat(first|refine gk fun K hK=>?_|refine zs2 ?_))
   refine ao ?_
   (repeat(first|refine gk fun K hK=>?_|refine zs2 ?_));refine dp ?_;(repeat(first|refine gk fun K hK=>?_|refine zs2 ?_))
   exact⟨_,Sh.trans (ai (k:=4) aG aQ aP) (cq (t:=4) (d:=.pt (.st [_,.sc (.slice none 0 0),_])) (d':=.pt (.st [_,dM [],_])) ae rfl rfl fun X w v h=>bs h),.two (.cell 4 48) (.tmp 5) _ _ rfl (.cell 4 _ _ rfl rfl aa aa) (.tmp 5 rfl)⟩
  ·have hd2:decide (q<1)=false:=decide_eq_false h2
   have hd3:decide (q>1000000000000000)=true:=decide_eq_true (by
    have:¬q≤1000000000000000:=fun h3=>h ⟨h1,by omega,h3⟩
    omega)
   clear h h1
   refine aE Tryz.func46 aa rfl rfl rfl fun X0=>?_
   simp only[ay]
   (repeat(first|refine gk fun K hK=>?_|refine zs2 ?_));refine kP ?_;(repeat(first|refine gk fun K hK=>?_|refine zs2 ?_));refine du ?_;(repeat(first|refine gk fun K hK=>?_|refine zs2 ?_));refine bz ?_;(repeat(first|refine gk fun K hK=>?_|refine zs2 ?_))
   refine au ?_
   (repeat(first|refine gk fun K hK=>?_|refine zs2 ?_));refine uk ?_;(repeat(first|refine gk fun K hK=>?_|refine zs2 ?_))
   refine ao ?_
   (repeat(first|refine gk fun K hK=>?_|refine zs2 ?_));refine dp ?_;(repeat(first|refine gk fun K hK=>?_|refine zs2 ?_))
   exact⟨_,Sh.trans (ai (k:=4) aG aQ aP) (cq (t:=4) (d:=.pt (.st [_,.sc (.slice none 0 0),_])) (d':=.pt (.st [_,dM [],_])) ae rfl rfl fun X w v h=>bs h),.two (.cell 4 48) (.tmp 5) _ _ rfl (.cell 4 _ _ rfl rfl aa aa) (.tmp 5 rfl)⟩
 ·have h1':inb 1000000000000000 p=false:=by simpa using h1
  rw[h1']at FI
  clear h h1 h1'
  refine aE Tryz.func46 aa rfl rfl rfl fun X0=>?_
  simp only[ay]
  (repeat(first|refine gk fun K hK=>?_|refine zs2 ?_));refine kP ?_;(repeat(first|refine gk fun K hK=>?_|refine zs2 ?_));refine du ?_;(repeat(first|refine gk fun K hK=>?_|refine zs2 ?_));refine bz ?_;(repeat(first|refine gk fun K hK=>?_|refine zs2 ?_))
  refine au ?_
  (repeat(first|refine gk fun K hK=>?_|refine zs2 ?_));refine uk ?_;(repeat(first|refine gk fun K hK=>?_|refine zs2 ?_))
  refine ao ?_
  (repeat(first|refine gk fun K hK=>?_|refine zs2 ?_));refine dp ?_;(repeat(first|refine gk fun K hK=>?_|refine zs2 ?_))
  exact⟨_,Sh.trans (ai (k:=4) aG aQ aP) (cq (t:=4) (d:=.pt (.st [_,.sc (.slice none 0 0),_])) (d':=.pt (.st [_,dM [],_])) ae rfl rfl fun X w v h=>bs h),.two (.cell 4 48) (.tmp 5) _ _ rfl (.cell 4 _ _ rfl rfl aa aa) (.tmp 5 rfl)⟩
theorem EK(dim den:Int)(m:Mx.Mat)(p q:Int)(CK:Fn Tryz.prog 33 [dL dim m den] (zI 0))(h1:inb 1000000000000000 p=true)(h2:1≤q∧q≤1000000000000000)(R S R2 R3:Mx.Mat)(d z d2 d3 C n2:Int)(RD:Fn Tryz.prog 87 [dL dim m den] (jH dim R d))(BY:Fn Tryz.prog 100 [dW R,.nm p] (dW S))(ML:Fn Tryz.prog 117 [.nm d,.nm q] (.nm z))(NT:Fn Tryz.prog 103 [zI dim,dW S,.nm z] (jH dim R3 d3))(HN:Fn Tryz.prog 88 [jH dim R3 d3] (.tp [dL n2 R2 d2,zI C])):Fn Tryz.prog 46 [dL dim m den,dF p q] (.tp [dL n2 R2 d2,zI C]):=by
 have FI:=wk p 1000000000000000 (by omega) (by omega)
 have h3:=dB.1 h1
 have OP:=uI p j6
 have OQ:=uI q j6
 rw[h1]at FI
 have hd2:decide (q<1)=false:=decide_eq_false (by omega)
 have hd3:decide (q>1000000000000000)=false:=decide_eq_false (by omega)
 clear h1 h2 h3
 refine aE Tryz.func46 aa rfl rfl rfl fun X0=>?_
 simp only[ay]
 (repeat(first|refine gk fun K hK=>?_|refine zs2 ?_));refine kP ?_;(repeat(first|refine gk fun K hK=>?_|refine zs2 ?_));refine du ?_;(repeat(first|refine gk fun K hK=>?_|refine zs2 ?_));refine bz ?_;(repeat(first|refine gk fun K hK=>?_|refine zs2 ?_))
 refine au ?_
 (repeat(first|refine gk fun K hK=>?_|refine zs2 ?_));refine uk ?_;(repeat(first|refine gk fun K hK=>?_|refine zs2 ?_))
 refine au ?_
 (repeat(first|refine gk fun K hK=>?_|refine zs2 ?_));(refine gar ?_;refine aK ?_;refine cw ?_;(refine bL (k:=7) (z:=(.agg #[.int .i64 0,.slice none 0 0,.bool false,.slice none 0 0])) (d:=(.st [.sc (.int .i64 0),.sc (.slice none 0 0),.sc (.bool false),.sc (.slice none 0 0)])) rfl rfl rfl rfl rfl aa ae ae bN ae ae bj ?_);refine cv ?_;refine af ?_);(repeat(first|refine gk fun K hK=>?_|refine zs2 ?_))
 refine aw (ai (k:=7) aG aQ aP) ?_
 (repeat(first|refine gk fun K hK=>?_|refine zs2 ?_));(refine kR ?_;refine oY ?_;refine bG ?_;refine oX ?_;refine bG ?_;refine oY ?_;refine bG ?_;refine dH ?_;refine jk ?_;refine uC ?_;refine bG ?_;refine oX ?_;refine bG ?_;refine dH ?_;refine jk ?_;refine mL ?_;refine dH ?_;refine en ?_;refine en ?_;refine ic ?_;refine mM ?_;refine jj ?_);(repeat(first|refine gk fun K hK=>?_|refine zs2 ?_))
 exact⟨_,ai (k:=4) aG aQ aP,.two (.cell 4 48) (.tmp 5) _ _ rfl (.cell 4 _ _ rfl rfl aa aa) (.tmp 5 rfl)⟩
theorem Cg(dim den:Int)(m f:Mx.Mat)(q C:Int)(hC:C≠0)(CK:Fn Tryz.prog 33 [dL dim m den] (zI C)):Fn Tryz.prog 47 [dL dim m den,dM f,zI q] (.tp [dL 0 [] 0,zI C]):=by
 refine aE Tryz.func47 aa rfl rfl rfl fun X0=>?_
 simp only[ay]
 (repeat(first|refine gk fun K hK=>?_|refine zs2 ?_));refine eh ?_;(repeat(first|refine gk fun K hK=>?_|refine zs2 ?_));refine du ?_;(repeat(first|refine gk fun K hK=>?_|refine zs2 ?_));refine bz ?_;(repeat(first|refine gk fun K hK=>?_|refine zs2 ?_))
 refine ao ?_
 (repeat(first|refine gk fun K hK=>?_|refine zs2 ?_));refine uo ?_;(repeat(first|refine gk fun K hK=>?_|refine zs2 ?_))
 exact⟨_,Sh.trans (ai (k:=6) aG aQ aP) (cq (t:=6) (d:=.pt (.st [_,.sc (.slice none 0 0),_])) (d':=.pt (.st [_,dM [],_])) ae rfl rfl fun X w v h=>bs h),.two (.cell 6 48) (.tmp 7) _ _ rfl (.cell 6 _ _ rfl rfl aa aa) (.tmp 7 rfl)⟩
theorem Cf(dim den:Int)(m f:Mx.Mat)(q C:Int)(hC:C≠0)(CK:Fn Tryz.prog 33 [dL dim m den] (zI 0))(CM:Fn Tryz.prog 40 [dM f] (zI C)):Fn Tryz.prog 47 [dL dim m den,dM f,zI q] (.tp [dL 0 [] 0,zI C]):=by
 refine aE Tryz.func47 aa rfl rfl rfl fun X0=>?_
 simp only[ay]
 (repeat(first|refine gk fun K hK=>?_|refine zs2 ?_));refine eh ?_;(repeat(first|refine gk fun K hK=>?_|refine zs2 ?_));refine du ?_;(repeat(first|refine gk fun K hK=>?_|refine zs2 ?_));refine bz ?_;(repeat(first|refine gk fun K hK=>?_|refine zs2 ?_))
 refine au ?_
 (repeat(first|refine gk fun K hK=>?_|refine zs2 ?_));refine ei ?_;(repeat(first|refine gk fun K hK=>?_|refine zs2 ?_));refine bz ?_;(repeat(first|refine gk fun K hK=>?_|refine zs2 ?_))
 refine ao ?_
 (repeat(first|refine gk fun K hK=>?_|refine zs2 ?_));refine uo ?_;(repeat(first|refine gk fun K hK=>?_|refine zs2 ?_))
 exact⟨_,Sh.trans (ai (k:=6) aG aQ aP) (cq (t:=6) (d:=.pt (.st [_,.sc (.slice none 0 0),_])) (d':=.pt (.st [_,dM [],_])) ae rfl rfl fun X w v h=>bs h),.two (.cell 6 48) (.tmp 7) _ _ rfl (.cell 6 _ _ rfl rfl aa aa) (.tmp 7 rfl)⟩
theorem Ce(dim den:Int)(m f:Mx.Mat)(q:Int)(hm:f.length≤1000000000)(CK:Fn Tryz.prog 33 [dL dim m den] (zI 0))(CM:Fn Tryz.prog 40 [dM f] (zI 0))(h:¬((f.length:Int)=dim∧1≤wid f∧wid f≤6)):Fn Tryz.prog 47 [dL dim m den,dM f,zI q] (.tp [dL 0 [] 0,zI 9]):=by
 have WI:=sy f hm
 by_cases h1:(f.length:Int)=dim
 ·have hd1:(!decide ((f.length:Int)=dim))=false:=by rw[decide_eq_true h1];rfl
  by_cases h2:wid f<1
  ·have hd2:decide ((wid f:Int)<1)=true:=decide_eq_true (by omega)
   refine aE Tryz.func47 aa rfl rfl rfl fun X0=>?_
   simp only[ay]
   (repeat(first|refine gk fun K hK=>?_|refine zs2 ?_));refine eh ?_;(repeat(first|refine gk fun K hK=>?_|refine zs2 ?_));refine du ?_;(repeat(first|refine gk fun K hK=>?_|refine zs2 ?_));refine bz ?_;(repeat(first|refine gk fun K hK=>?_|refine zs2 ?_))
   refine au ?_
   (repeat(first|refine gk fun K hK=>?_|refine zs2 ?_));refine ei ?_;(repeat(first|refine gk fun K hK=>?_|refine zs2 ?_));refine bz ?_;(repeat(first|refine gk fun K hK=>?_|refine zs2 ?_))
   refine au ?_
   (repeat(first|refine gk fun K hK=>?_|refine zs2 ?_));refine oQ ?_;(repeat(first|refine gk fun K hK=>?_|refine zs2 ?_))
   refine ao ?_
   (repeat(first|refine gk fun K hK=>?_|refine zs2 ?_));refine dp ?_;(repeat(first|refine gk fun K hK=>?_|refine zs2 ?_))
   exact⟨_,Sh.trans (ai (k:=6) aG aQ aP) (cq (t:=6) (d:=.pt (.st [_,.sc (.slice none 0 0),_])) (d':=.pt (.st [_,dM [],_])) ae rfl rfl fun X w v h=>bs h),.two (.cell 6 48) (.tmp 7) _ _ rfl (.cell 6 _ _ rfl rfl aa aa) (.tmp 7 rfl)⟩
  ·have hd2:decide ((wid f:Int)<1)=false:=decide_eq_false (by omega)
   have hd3:decide ((wid f:Int)>6)=true:=decide_eq_true (by omega)
   refine aE Tryz.func47 aa rfl rfl rfl fun X0=>?_
   simp only[ay]
   (repeat(first|refine gk fun K hK=>?_|refine zs2 ?_));refine eh ?_;(repeat(first|refine gk fun K hK=>?_|refine zs2 ?_));refine du ?_;(repeat(first|refine gk fun K hK=>?_|refine zs2 ?_));refine bz ?_;(repeat(first|refine gk fun K hK=>?_|refine zs2 ?_))
   refine au ?_
   (repeat(first|refine gk fun K hK=>?_|refine zs2 ?_));refine ei ?_;(repeat(first|refine gk fun K hK=>?_|refine zs2 ?_));refine bz ?_;(repeat(first|refine gk fun K hK=>?_|refine zs2 ?_))
   refine au ?_
   (repeat(first|refine gk fun K hK=>?_|refine zs2 ?_));refine oQ ?_;(repeat(first|refine gk fun K hK=>?_|refine zs2 ?_))
   refine ao ?_
   (repeat(first|refine gk fun K hK=>?_|refine zs2 ?_));refine dp ?_;(repeat(first|refine gk fun K hK=>?_|refine zs2 ?_))
   exact⟨_,Sh.trans (ai (k:=6) aG aQ aP) (cq (t:=6) (d:=.pt (.st [_,.sc (.slice none 0 0),_])) (d':=.pt (.st [_,dM [],_])) ae rfl rfl fun X w v h=>bs h),.two (.cell 6 48) (.tmp 7) _ _ rfl (.cell 6 _ _ rfl rfl aa aa) (.tmp 7 rfl)⟩
 ·have hd1:(!decide ((f.length:Int)=dim))=true:=by rw[decide_eq_false h1];rfl
  refine aE Tryz.func47 aa rfl rfl rfl fun X0=>?_
  simp only[ay]
  (repeat(first|refine gk fun K hK=>?_|refine zs2 ?_));refine eh ?_;(repeat(first|refine gk fun K hK=>?_|refine zs2 ?_));refine du ?_;(repeat(first|refine gk fun K hK=>?_|refine zs2 ?_));refine bz ?_;(repeat(first|refine gk fun K hK=>?_|refine zs2 ?_))
  refine au ?_
  (repeat(first|refine gk fun K hK=>?_|refine zs2 ?_));refine ei ?_;(repeat(first|refine gk fun K hK=>?_|refine zs2 ?_));refine bz ?_;(repeat(first|refine gk fun K hK=>?_|refine zs2 ?_))
  refine au ?_
  (repeat(first|refine gk fun K hK=>?_|refine zs2 ?_));refine oQ ?_;(repeat(first|refine gk fun K hK=>?_|refine zs2 ?_))
  refine ao ?_
  (repeat(first|refine gk fun K hK=>?_|refine zs2 ?_));refine dp ?_;(repeat(first|refine gk fun K hK=>?_|refine zs2 ?_))
  exact⟨_,Sh.trans (ai (k:=6) aG aQ aP) (cq (t:=6) (d:=.pt (.st [_,.sc (.slice none 0 0),_])) (d':=.pt (.st [_,dM [],_])) ae rfl rfl fun X w v h=>bs h),.two (.cell 6 48) (.tmp 7) _ _ rfl (.cell 6 _ _ rfl rfl aa aa) (.tmp 7 rfl)⟩
theorem Cd(dim den:Int)(m f:Mx.Mat)(q:Int)(hm:f.length≤1000000000)(CK:Fn Tryz.prog 33 [dL dim m den] (zI 0))(CM:Fn Tryz.prog 40 [dM f] (zI 0))(h1:(f.length:Int)=dim)(h2:1≤wid f∧wid f≤6)(h3:¬(1≤q∧q≤1000000000000000)):Fn Tryz.prog 47 [dL dim m den,dM f,zI q] (.tp [dL 0 [] 0,zI 2]):=by
 have WI:=sy f hm
 have hd1:(!decide ((f.length:Int)=dim))=false:=by rw[decide_eq_true h1];rfl
 have hd2:decide ((wid f:Int)<1)=false:=decide_eq_false (by omega)
 have hd3:decide ((wid f:Int)>6)=false:=decide_eq_false (by omega)
 by_cases h4:q<1
 ·have hd4:decide (q<1)=true:=decide_eq_true h4
  refine aE Tryz.func47 aa rfl rfl rfl fun X0=>?_
  simp only[ay]
  (repeat(first|refine gk fun K hK=>?_|refine zs2 ?_));refine eh ?_;(repeat(first|refine gk fun K hK=>?_|refine zs2 ?_));refine du ?_;(repeat(first|refine gk fun K hK=>?_|refine zs2 ?_));refine bz ?_;(repeat(first|refine gk fun K hK=>?_|refine zs2 ?_))
  refine au ?_
  (repeat(first|refine gk fun K hK=>?_|refine zs2 ?_));refine ei ?_;(repeat(first|refine gk fun K hK=>?_|refine zs2 ?_));refine bz ?_;(repeat(first|refine gk fun K hK=>?_|refine zs2 ?_))
  refine au ?_
  (repeat(first|refine gk fun K hK=>?_|refine zs2 ?_));refine oQ ?_;(repeat(first|refine gk fun K hK=>?_|refine zs2 ?_))
  refine au ?_
  (repeat(first|refine gk fun K hK=>?_|refine zs2 ?_));refine za ?_;(repeat(first|refine gk fun K hK=>?_|refine zs2 ?_))
  refine ao ?_
  (repeat(first|refine gk fun K hK=>?_|refine zs2 ?_));refine dp ?_;(repeat(first|refine gk fun K hK=>?_|refine zs2 ?_))
  exact⟨_,Sh.trans (ai (k:=6) aG aQ aP) (cq (t:=6) (d:=.pt (.st [_,.sc (.slice none 0 0),_])) (d':=.pt (.st [_,dM [],_])) ae rfl rfl fun X w v h=>bs h),.two (.cell 6 48) (.tmp 7) _ _ rfl (.cell 6 _ _ rfl rfl aa aa) (.tmp 7 rfl)⟩
 ·have hd4:decide (q<1)=false:=decide_eq_false h4
  have hd5:decide (q>1000000000000000)=true:=decide_eq_true (by omega)
  refine aE Tryz.func47 aa rfl rfl rfl fun X0=>?_
  simp only[ay]
  (repeat(first|refine gk fun K hK=>?_|refine zs2 ?_));refine eh ?_;(repeat(first|refine gk fun K hK=>?_|refine zs2 ?_));refine du ?_;(repeat(first|refine gk fun K hK=>?_|refine zs2 ?_));refine bz ?_;(repeat(first|refine gk fun K hK=>?_|refine zs2 ?_))
  refine au ?_
  (repeat(first|refine gk fun K hK=>?_|refine zs2 ?_));refine ei ?_;(repeat(first|refine gk fun K hK=>?_|refine zs2 ?_));refine bz ?_;(repeat(first|refine gk fun K hK=>?_|refine zs2 ?_))
  refine au ?_
  (repeat(first|refine gk fun K hK=>?_|refine zs2 ?_));refine oQ ?_;(repeat(first|refine gk fun K hK=>?_|refine zs2 ?_))
  refine au ?_
  (repeat(first|refine gk fun K hK=>?_|refine zs2 ?_));refine za ?_;(repeat(first|refine gk fun K hK=>?_|refine zs2 ?_))
  refine ao ?_
  (repeat(first|refine gk fun K hK=>?_|refine zs2 ?_));refine dp ?_;(repeat(first|refine gk fun K hK=>?_|refine zs2 ?_))
  exact⟨_,Sh.trans (ai (k:=6) aG aQ aP) (cq (t:=6) (d:=.pt (.st [_,.sc (.slice none 0 0),_])) (d':=.pt (.st [_,dM [],_])) ae rfl rfl fun X w v h=>bs h),.two (.cell 6 48) (.tmp 7) _ _ rfl (.cell 6 _ _ rfl rfl aa aa) (.tmp 7 rfl)⟩
theorem EO(dim den:Int)(m f:Mx.Mat)(q:Int)(hm:f.length≤1000000000)(CK:Fn Tryz.prog 33 [dL dim m den] (zI 0))(CM:Fn Tryz.prog 40 [dM f] (zI 0))(h1:(f.length:Int)=dim)(h2:1≤wid f∧wid f≤6)(h3:1≤q∧q≤1000000000000000)(R S R2 R3:Mx.Mat)(d z d2 d3 C n2:Int)(RD:Fn Tryz.prog 87 [dL dim m den] (jH dim R d))(WO:Fn Tryz.prog 72 [dM f] (dW f))(TI:Fn Tryz.prog 97 [dW R,dW f] (dW S))(ML:Fn Tryz.prog 117 [.nm d,.nm q] (.nm z))(NT:Fn Tryz.prog 103 [zI (wid f),dW S,.nm z] (jH (wid f) R3 d3))(HN:Fn Tryz.prog 88 [jH (wid f) R3 d3] (.tp [dL n2 R2 d2,zI C])):Fn Tryz.prog 47 [dL dim m den,dM f,zI q] (.tp [dL n2 R2 d2,zI C]):=by
 have WI:=sy f hm
 have OQ:=uI q j6
 have hd1:(!decide ((f.length:Int)=dim))=false:=by rw[decide_eq_true h1];rfl
 have hd2:decide ((wid f:Int)<1)=false:=decide_eq_false (by omega)
 have hd3:decide ((wid f:Int)>6)=false:=decide_eq_false (by omega)
 have hd4:decide (q<1)=false:=decide_eq_false (by omega)
 have hd5:decide (q>1000000000000000)=false:=decide_eq_false (by omega)
 clear h2 h3
 refine aE Tryz.func47 aa rfl rfl rfl fun X0=>?_
 simp only[ay]
 (repeat(first|refine gk fun K hK=>?_|refine zs2 ?_));refine eh ?_;(repeat(first|refine gk fun K hK=>?_|refine zs2 ?_));refine du ?_;(repeat(first|refine gk fun K hK=>?_|refine zs2 ?_));refine bz ?_;(repeat(first|refine gk fun K hK=>?_|refine zs2 ?_))
 refine au ?_
 (repeat(first|refine gk fun K hK=>?_|refine zs2 ?_));refine ei ?_;(repeat(first|refine gk fun K hK=>?_|refine zs2 ?_));refine bz ?_;(repeat(first|refine gk fun K hK=>?_|refine zs2 ?_))
 refine au ?_
 (repeat(first|refine gk fun K hK=>?_|refine zs2 ?_));refine oQ ?_;(repeat(first|refine gk fun K hK=>?_|refine zs2 ?_))
 refine au ?_
 (repeat(first|refine gk fun K hK=>?_|refine zs2 ?_));refine za ?_;(repeat(first|refine gk fun K hK=>?_|refine zs2 ?_))
 refine au ?_
 (repeat(first|refine gk fun K hK=>?_|refine zs2 ?_));(refine gar ?_;refine aK ?_;refine cw ?_;(refine bL (k:=10) (z:=(.agg #[.int .i64 0,.slice none 0 0,.bool false,.slice none 0 0])) (d:=(.st [.sc (.int .i64 0),.sc (.slice none 0 0),.sc (.bool false),.sc (.slice none 0 0)])) rfl rfl rfl rfl rfl aa ae ae bN ae ae bj ?_);refine cv ?_;refine af ?_);(repeat(first|refine gk fun K hK=>?_|refine zs2 ?_))
 refine aw (ai (k:=10) aG aQ aP) ?_
 (repeat(first|refine gk fun K hK=>?_|refine zs2 ?_));(refine kR ?_;refine bA ?_;refine dH ?_;refine oX ?_;refine bG ?_;refine bA ?_;refine dH ?_;refine jk ?_;refine uC ?_;refine bG ?_;refine bA ?_;refine dH ?_;refine jk ?_;refine mL ?_;refine dH ?_;refine en ?_;refine en ?_;refine ic ?_;refine mM ?_;refine jj ?_);(repeat(first|refine gk fun K hK=>?_|refine zs2 ?_))
 exact⟨_,ai (k:=6) aG aQ aP,.two (.cell 6 48) (.tmp 7) _ _ rfl (.cell 6 _ _ rfl rfl aa aa) (.tmp 7 rfl)⟩
end DW
end
section
open Go.RowKit
namespace CI
variable {P : Program} {h h' : H} {tm tm' : Tm} {rec : Rec} {n : Nat} {r : List RO} {S : Nat→SD} {ops : Array Oper}
theorem Trace.mono(t:Trace rec r tm h tm' h' S)(hg:cr rec)(f:Wf h){i j:Nat}(hij:i≤j)(hj:j≤r.length):(S i).h.next≤(S j).h.next:=by
 have:=(t.gdm hg f (j-i) i (by omega)).good.next
 rwa[show i+(j-i)=j by omega]at this
theorem Trace.low(t:Trace rec r tm h tm' h' S)(hg:cr rec)(f:Wf h){i j:Nat}(hij:i≤j)(hj:j≤r.length):(S j).h.low≤(S i).h.low:=by
 have:=(t.gdm hg f (j-i) i (by omega)).good.low
 rwa[show i+(j-i)=j by omega]at this
theorem nS{g h1:H}{k:Nat}(e:T.get h1.t k=T.get g.t k):(g.whole h1).get k=g.get k:=by
 unfold H.get
 show(match bS k g.forb with|true=>none|false=>T.get h1.t k)=_
 rw[e];rfl
theorem qE{g g':H}{ob:Option B}(e:g.iJ ob=some g'){k:Nat}(hk:k<g.next):g'.get k=g.get k:=by
 cases ob with
 |none=>simp only[H.iJ,Option.some.injEq]at e;rw[e]
 |some b=>
  obtain⟨_,_,h3,_,h5⟩:=bJ e
  exact rI h3 (by rw[h5,if_neg (by omega)])
theorem Trace.GX(t:Trace rec r tm h tm' h' S)(hg:cr rec)(f:Wf h){i k:Nat}(hi:i<r.length)(hw:(S (i+1)).wr=false)(hk:k<(S i).h.next):(S (i+1)).h.get k=(S i).h.get k:=by
 obtain⟨o,ho⟩:∃o,r[i]?=some o:=⟨_,List.getElem?_eq_getElem hi⟩
 have f1:=(t.gd hg f i (by omega)).1
 rcases(t.cases ho).2 with⟨_,_,e,_⟩|⟨_,_,_,_,_,ob,_,e,_⟩|⟨_,_,_,h1,e1,e2,e3,_⟩
 ·rw[e]
 ·exact qE e hk
 ·rw[e2]
  refine nS ((kU hg (iU f1) e1).good.keep k hk ?_)
  rw[e3]at hw
  refine Nat.lt_of_lt_of_le hk (Nat.le_of_not_lt fun hlt=>?_)
  rw[←Nat.blt_eq]at hlt
  rw[hlt]at hw;cases hw
theorem Trace.keepO(t:Trace rec r tm h tm' h' S)(hg:cr rec)(f:Wf h){i k q:Nat}{ro:RO}(hi:r[i]?=some ro)(hq:q<i)(hp:ro.pre.testBit q=false)(h1:(S q).h.next≤k)(h2:k<(S (q+1)).h.next):(S (i+1)).h.get k=(S i).h.get k:=by
 have hlt:=(List.getElem?_eq_some_iff.1 hi).1
 have hk:k<(S i).h.next:=Nat.lt_of_lt_of_le h2 (t.mono hg f hq (by omega))
 have f1:=(t.gd hg f i (by omega)).1
 rcases(t.cases hi).2 with⟨_,_,e,_⟩|⟨_,_,_,_,_,ob,_,e,_⟩|⟨_,_,_,g1,e1,e2,e3,_⟩
 ·rw[e]
 ·exact qE e hk
 ·rw[e2]
  refine nS ((kU hg (iU f1) e1).good.dead k hk fun hl=>?_)
  have:=gE hl
  rw[show((S i).h.part ro.pre (S i).iv).forb=fF ro.pre (S i).iv (S i).h.forb from rfl,oD ((t.iv i (by omega)).2 q hq (by omega)) hp h1 h2]at this
  cases this
theorem Trace.qN(t:Trace rec r tm h tm' h' S){i:Nat}(hi:i<r.length)(hw:(S (i+1)).wr=true):(S (i+1)).rd=true:=by
 obtain⟨o,ho⟩:∃o,r[i]?=some o:=⟨_,List.getElem?_eq_getElem hi⟩
 rcases(t.cases ho).2 with⟨_,_,_,e,_⟩|⟨_,_,e,_⟩|⟨_,_,e,_⟩
 ·rw[e]at hw;cases hw
 ·rw[e]at hw;cases hw
 ·exact e
theorem Trace.bound(t:Trace rec r tm h tm' h' S){i j:Nat}{ro:RO}(hij:i<j)(hj:r[j]?=some ro)(hh:((S (i+1)).wr=true∧(S (j+1)).rd=true)∨((S (i+1)).rd=true∧(S (j+1)).wr=true)):ro.pre.testBit i=true:=by
 have hlt:=(List.getElem?_eq_some_iff.1 hj).1
 have hri:(S (i+1)).rd=true:=by
  rcases hh with⟨h1,_⟩|⟨h1,_⟩
  ·exact t.qN (by omega) h1
  ·exact h1
 have hrj:(S (j+1)).rd=true:=by
  rcases hh with⟨_,h1⟩|⟨_,h1⟩
  ·exact h1
  ·exact t.qN hlt h1
 rcases(t.cases hj).2 with⟨_,_,_,_,e,_⟩|⟨_,_,_,e,_⟩|⟨_,_,_,g1,_,_,_,e4,_⟩
 ·rw[e]at hrj;cases hrj
 ·rw[e]at hrj;cases hrj
 ·refine pU e4 (t.rw' j (by omega) i hij hri) ?_
  rcases hh with⟨h1,_⟩|⟨_,h1⟩<;>simp[h1]
theorem stay{k x:Nat}:∀{y:Nat},x≤y→(∀i,x≤i→i<y→(S (i+1)).h.get k=(S i).h.get k)→(S y).h.get k=(S x).h.get k:=fun {y} hxy=>by
 induction y with
 |zero=>intro _;rw[show x=0 by omega]
 |succ y ih=>
  intro hh
  by_cases hx:x=y+1
  ·rw[hx]
  ·rw[hh y (by omega) (by omega),ih (by omega) fun i h1 h2=>hh i h1 (by omega)]
theorem Trace.owner(t:Trace rec r tm h tm' h' S){k:Nat}:∀{j:Nat},(S 0).h.next≤k→k<(S j).h.next→∃q,q<j∧(S q).h.next≤k∧k<(S (q+1)).h.next
 |0,h1,h2=>by omega
 |j+1,h1,h2=>by
  by_cases hk:k<(S j).h.next
  ·obtain⟨q,q1,q2⟩:=t.owner h1 hk
   exact⟨q,by omega,q2⟩
  ·exact⟨j,by omega,by omega,h2⟩
structure Hc(P:Program)(S:Nat→SD)(ops:Array Oper)(j:Nat)(o:Oper)(pre:Nat)(G h1:H):Prop where
 nx:G.next=(S j).h.next
 nx1:h1.next=(S (j+1)).h.next
 g1:∀k b,G.get k=some b→k<(S j).h.next∧(S j).h.get k=some b∧(S (j+1)).rd=true∧∀q,q<j→(S q).h.next≤k→k<(S (q+1)).h.next→pre.testBit q=true
 g2:∀k b,(S j).h.next≤k→(S (j+1)).h.get k=some b→h1.get k=some b
 g3:∀k,G.live k→(S (j+1)).h.get k=h1.get k
 g4:∀k,k<(S j).h.next→¬G.live k→(S (j+1)).h.get k=(S j).h.get k
 g5:(S (j+1)).wr=false→∀k,G.live k→h1.get k=G.get k
 low:∀k,G.live k→h1.low≤k→(S (j+1)).h.low≤k
 bd:(S j).h.next≤1000000
 wp:∀(F:Fence) (_:FC F) (Q:Exit→Act→World→Prop) (K:Act→World→Prop) (A:Nat→Prop) (ρ:Nat→Nat) (w:World) (a:Act),Rel P A ρ w G→Dj A G h1→(∀u,u∈looks ops o→VR P A ρ w (CO.ev (S j).tm (CO.t u)) (a.tmps.getD u undef))→
  (∀u w' ρ',br P A ρ w G ρ' w' h1→VR P (Ext A G h1) ρ' w' (S (j+1)).v u→K (a.put o.dst u) w')→wpOpIn F 0 P ops Q j K a w
def bare(k:Nat):H:=⟨k,k,[],.e⟩
theorem nI(k j:Nat):(bare k).get j=none:=by
 unfold H.get bare
 simp only[bS,T.rJ]
theorem gW(k j:Nat):¬(bare k).live j:=by unfold H.live;rw[nI];simp
theorem v9{A:Nat→Prop}{ρ:Nat→Nat}{w:World}{a:Act}{o:Oper}{tm:Tm}(hl:∀u,u∈looks ops o→VR P A ρ w (CO.ev tm (CO.t u)) (a.tmps.getD u undef)):HV P A ρ w tm a o:=fun y hy=>by
 cases y with
 |tmp u=>
  have:=hl u (by
   unfold looks
   exact List.mem_append_right _ (List.mem_filterMap.2 ⟨.tmp u,by simpa using hy,rfl⟩))
  unfold OpV
  simpa[aA,Act.eval]using this
 |const v=>exact tP v
 |global g=>simp only[OpV,aA,CO.ev,VR]
 |func g=>
  show VR P A ρ w (.fn g []) (.func (.func g) #[] #[])
  simp only[VR,VRl]
  exact⟨_,rfl,rfl⟩
theorem Hz(hrec:iL P rec)(hg:cr rec)(t:Trace rec r tm h tm' h' S)(st:Stat P n ops r)(f:Wf h){j:Nat}{o:Oper}(ho:ops[j]?=some o):∃ro G h1,r[j]?=some ro∧bC n o.dst=true∧(S (j+1)).tm=fJ (S j).tm o.dst (S (j+1)).v∧Hc P S ops j o ro.pre G h1:=by
  obtain⟨g,p,hr,hdst,hgd⟩:=st.row j o ho
  have hjl:j<r.length:=(List.getElem?_eq_some_iff.1 hr).1
  obtain⟨f1,_⟩:=t.gd hg f j (by omega)
  obtain⟨ht,hcs⟩:=t.cases hr
  have hwant:∀(A:Nat→Prop) (ρ:Nat→Nat) (w:World) (a:Act) (b:Bool),fV ⟨o.dst,g,(match aD P o.op with|some x=>x|none=> .bad),p⟩ (S j).tm=some b→(∀u,u∈looks ops o→VR P A ρ w (CO.ev (S j).tm (CO.t u)) (a.tmps.getD u undef))→Region.wanted o (yielded ops a.tmps)=b:=fun A ρ w a b hw hl=>by
    refine mQ (P:=P) (A:=A) (ρ:=ρ) (w:=w) hgd hw fun u c hc=>hl u ?_
    unfold looks
    refine List.mem_append_left _ ?_
    cases hog:o.guard with
    |none=>rw[hog]at hgd;simp only[Option.some.injEq]at hgd;rw[←hgd]at hc;cases hc
    |some q=>
      obtain⟨q1,q2⟩:=q
      rw[hog]at hgd
      simp only at hgd⊢
      obtain⟨u',e1,e2⟩:=aj hgd
      rw[hc]at e2
      simp only[Option.some.injEq,Prod.mk.injEq]at e2
      rw[e1,e2.1];simp
  rcases hcs with⟨hw,hv,hh,hwr,hrd,_⟩|⟨hw,hT,hwr,hrd,_,ob,e1,e2,_⟩|⟨hw,hT,hrd,h1,e1,e2,e3,e4,_⟩
  · refine⟨_,bare (S j).h.next,bare (S j).h.next,hr,hdst,ht,rfl,(by rw[hh];rfl),(fun k b e=>by rw[nI]at e;cases e),fun k b hk e=> ?_,fun k hl=>absurd hl (gW _ _),(fun k _ _=>by rw[hh]),fun _ k hl=>absurd hl (gW _ _),fun k hl=>absurd hl (gW _ _),f1.bd,fun F hF Q K A ρ w a tR hd hl hK=> ?_⟩
    · rw[hh]at e
      have:=f1.lt k b (fQ e);omega
    · unfold wpOpIn
      simp only[ho]
      rw[hwant A ρ w a false hw hl,if_neg (by simp)]
      exact⟨fun g _=>hF.fn g,hK undef w ρ (br.refl tR) (by rw[hv];simp only[VR])⟩
  · obtain ⟨h1, e3⟩ : ∃ h1, (bare (S j).h.next).iJ ob = some h1 := by
      cases ob with
      |none=>exact⟨_,rfl⟩
      |some b=>
        have:=(bJ e2).2.2.2.1
        exact⟨_,by
          show(bare (S j).h.next).new b=_
          unfold H.new bare
          rw[(by simpa[Nat.blt_eq]using this:Nat.blt (S j).h.next 1000000=true)]⟩
    have hcc:=uD (P:=P) (o:=o) rfl (.inr fun e5=>by
      have e6:=(congrArg (fun x=>xT x (S j).tm (S j).h.next) e5).symm.trans e1
      rw[Bg]at e6;cases e6)
    have hn1:h1.next=(S (j+1)).h.next:=by
      cases ob with
      |none=>
        simp only[H.iJ,Option.some.injEq]at e2 e3
        rw[←e2,←e3];rfl
      |some b=>rw[(bJ e3).1,(bJ e2).1];rfl
    refine⟨_,bare (S j).h.next,h1,hr,hdst,ht,rfl,hn1,(fun k b e=>by rw[nI]at e;cases e),fun k b hk e=> ?_,fun k hl=>absurd hl (gW _ _),fun k hk _=>qE e2 hk,fun _ k hl=>absurd hl (gW _ _),fun k hl=>absurd hl (gW _ _),f1.bd,fun F hF Q K A ρ w a tR hd hl hK=> ?_⟩
    · cases ob with
      |none=>
        simp only[H.iJ,Option.some.injEq]at e2
        rw[←e2]at e
        have:=f1.lt k b (fQ e);omega
      |some b'=>
        obtain⟨q1,q2,q3,q4,q5⟩:=bJ e2
        obtain⟨s1,s2,s3,s4,s5⟩:=bJ e3
        have e':=fQ e
        rw[q5]at e'
        split at e'
        · next hk'=>
          simp only[Option.some.injEq]at e';subst e'
          unfold H.get
          rw[s3]
          simp only[bare,bS]
          rw[s5];exact if_pos hk'
        · have:=f1.lt k b e';omega
    · unfold wpOpIn
      simp only[ho]
      rw[hwant A ρ w a true hw hl,if_pos rfl]
      exact Ap hF (kF ⟨_,hcc⟩) (t_me (h:=bare (S j).h.next) hcc hT e1 e3 (v9 hl) tR hd) hK
  · have hcc:=uD (P:=P) (o:=o) rfl (.inl hT)
    have gp:=kU hg (iU f1) e1
    have hout:∀k,(S j).h.next≤k→bS k (fF p (S j).iv (S j).h.forb)=bS k (S j).h.forb:=fun k hk=>uc fun x hx=>by
      obtain⟨q,hq,rfl⟩:=(t.iv j (by omega)).1 x hx
      have:=t.mono hg f (show q+1≤j by omega) (by omega)
      simp only;omega
    refine⟨_,(S j).h.part p (S j).iv,h1,hr,hdst,ht,rfl,(by rw[e2];rfl),fun k b e=>⟨f1.lt k b (fQ (m8 e)),m8 e,hrd,fun q hq q1 q2=> ?_⟩,fun k b hk e=> ?_,fun k hl=> ?_,fun k hk hl=> ?_,fun hw0 k hl=> ?_,fun k _ hlo=> ?_,f1.bd,fun F hF Q K A ρ w a tR hd hl hK=> ?_⟩
    · cases hp:p.testBit q with
      |true=>rfl
      |false=>
        have:=gE (aU e)
        rw[show((S j).h.part p (S j).iv).forb=fF p (S j).iv (S j).h.forb from rfl,oD ((t.iv j (by omega)).2 q hq (by omega)) hp q1 q2]at this
        cases this
    · rw[e2]at e
      have hf:=gp.good.forb
      unfold H.get at e⊢
      rw[hf,show((S j).h.part p (S j).iv).forb=fF p (S j).iv (S j).h.forb from rfl,hout k hk]
      exact e
    · rw[e2]
      have hb:=gE hl
      have hb2:bS k (S j).h.forb=false:=fO p k _ _ hb
      unfold H.get
      rw[gp.good.forb,hb]
      show(match bS k (S j).h.forb with|true=>none|false=>T.get h1.t k)=_
      rw[hb2]
    · rw[e2];exact nS (gp.good.dead k hk hl)
    · have hk : k < (S j).h.next := by
        obtain⟨b,eb⟩:=Option.isSome_iff_exists.1 hl
        exact f1.lt k b (fQ (m8 eb))
      rw[e3]at hw0
      refine rI gp.good.forb (gp.good.keep k hk (Nat.lt_of_lt_of_le hk (Nat.le_of_not_lt fun hlt=> ?_)))
      rw[←Nat.blt_eq]at hlt
      rw[hlt]at hw0;cases hw0
    · rw[e2];exact Nat.le_trans (tD _ _).2 hlo
    · unfold wpOpIn
      simp only[ho]
      rw[hwant A ρ w a true hw hl,if_pos rfl]
      exact r_wp hrec hF hcc hT e1 (iU f1) (v9 hl) tR hd hK
end CI
end
end Go.Proofs.YtcgjmdpcplhanaaGreat
