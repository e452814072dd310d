/- Lemmas for the law: E10 V3 V5 V6 V7 M4 V4 V8 V9 V10 -/
import Derived.Laws.AppendOwnNone
import Derived.Laws.Cover3
import Derived.Lib.AppendZerosOnto
import Derived.Deep.CutBlock
import Derived.Maps.AppendAt
import Derived.Deep.RegionLaw
import Derived.Test.YtcgjmdpcplhanaaGreatZh5
namespace Go.Proofs.YtcgjmdpcplhanaaGreat
section
theorem td{p:Prop}(h:p:=by rw[HSL.out];omega):p:=h
theorem zs87{p q:Prop}(h:q)(f:Wq q->p:=by(intro hW;(refine aL1 rfl rfl rfl (by(first|(apply Hb;(exact rfl);(focus((apply an;(conv=>lhs;whnf);(first|done|exact rfl))));(exact bu);(omega))|(apply cA;(exact rfl);(focus((apply an;(conv=>lhs;whnf);(first|done|exact rfl))));(exact bu);(exact rfl)))) ?_);exact hW.out)):p:=f ⟨h⟩
theorem eU{p q:Prop}(h:q)(f:Wq q->p:=by(intro hW;((refine Own3.jk rfl (fun K hK=>?_);go_simp;(try go_bits);refine⟨fun w' hw' hcb'=>?_,hK _ ?_⟩;(focus(first|with_reducible exact rfl|with_reducible exact⟨rfl,rfl⟩|(obtain⟨gx,rfl⟩:=mob (Ext.below hw');go_simp;first|exact rfl|exact⟨rfl,rfl⟩)|(go_at_call 161;(have hf1:=hcb'.get (u:=10) lY;have hf2:=hcb'.get (u:=18) lY;exact(uf x111 x112 _ _ F1.out F2.out _ (IZ.ip (show IZ w' x111 ((Mx.at' M i c).natAbs:Int)from hf1)) (IZ.ip (show IZ w' x112 ((Mx.at' M t c).natAbs:Int)from hf2)))))));clear hK K));exact hW.out)):p:=f ⟨h⟩
theorem qq{p:Prop}(h:p:=by rw[HW.out.len];exact hrr):p:=h
theorem zQ{p q:Prop}(h:q)(f:Wq q->p:=by(intro hW;((refine gar ?_;refine zs4 ?_;refine zs6 ?_;refine qn ?_;refine af ?_));exact hW.out)):p:=f ⟨h⟩
theorem Ag{p:Prop}(h:p:=by rw[Int.natAbs_neg];exact HQB.out):p:=h
theorem zU{p q:Prop}(h:q)(f:Wq q->p:=by(intro hW;((refine gar ?_;refine gU ?_;refine kF ?_;refine qn ?_;refine af ?_));exact hW.out)):p:=f ⟨h⟩
theorem vM{p:Prop}(h:p:=by(apply ud;(exact rfl);(exact bu);(exact rfl);(assumption);(exact rfl))):p:=h
theorem zs83{p q:Prop}(h:q)(f:Wq q->p:=by(intro hW;((first|(first|(refine aHs rfl rfl rfl rfl rfl ?_ ?_;(focus(apply aY;(conv=>lhs;whnf);(first|done|exact rfl|(apply aK;(first|(apply decide_eq_true;omega)|(apply decide_eq_false;omega)|assumption|(simp;done)))))))|refine nX rfl rfl rfl rfl rfl bK aa vM aa aa ?_)|((try refine aB ?_);(first|(refine aLs rfl rfl rfl rfl ?_ ?_;(focus(apply aY;(conv=>lhs;whnf);(first|done|exact rfl|(apply aK;(first|(apply decide_eq_true;omega)|(apply decide_eq_false;omega)|assumption|(simp;done)))))))|refine aLw rfl rfl rfl rfl bK vM ?_))));exact hW.out)):p:=f ⟨h⟩
theorem zs84{p q:Prop}(h:q)(f:Wq q->p:=by(intro hW;((first|(first|(refine aHs rfl rfl rfl rfl rfl ?_ ?_;(focus(apply aY;(conv=>lhs;whnf);(first|done|exact rfl|(apply aK;(first|(apply decide_eq_true;omega)|(apply decide_eq_false;omega)|assumption|(simp;done)))))))|refine nX rfl rfl rfl rfl rfl bK aa oh aa aa ?_)|((try refine aB ?_);(first|(refine aLs rfl rfl rfl rfl ?_ ?_;(focus(apply aY;(conv=>lhs;whnf);(first|done|exact rfl|(apply aK;(first|(apply decide_eq_true;omega)|(apply decide_eq_false;omega)|assumption|(simp;done)))))))|refine aLw rfl rfl rfl rfl bK oh ?_))));exact hW.out)):p:=f ⟨h⟩
theorem zs85{p q:Prop}(h:q)(f:Wq q->p:=by(intro hW;((first|(first|(refine aHs rfl rfl rfl rfl rfl ?_ ?_;(focus(apply aY;(conv=>lhs;whnf);(first|done|exact rfl|(apply aK;(first|(apply decide_eq_true;omega)|(apply decide_eq_false;omega)|assumption|(simp;done)))))))|refine nX rfl rfl rfl rfl rfl bK aa tw aa aa ?_)|((try refine aB ?_);(first|(refine aLs rfl rfl rfl rfl ?_ ?_;(focus(apply aY;(conv=>lhs;whnf);(first|done|exact rfl|(apply aK;(first|(apply decide_eq_true;omega)|(apply decide_eq_false;omega)|assumption|(simp;done)))))))|refine aLw rfl rfl rfl rfl bK tw ?_))));exact hW.out)):p:=f ⟨h⟩
theorem zu{p q:Prop}(h:q)(f:Wq q->p:=by(intro hW;((first|refine cE rfl rfl rfl aa zb5 aa aa ?_|((try refine aB ?_);refine aL1 rfl rfl rfl zb5 ?_)));exact hW.out)):p:=f ⟨h⟩
theorem zs81{p q:Prop}(h:q)(f:Wq q->p:=by(intro hW;((first|refine cE rfl rfl rfl aa tw aa aa ?_|((try refine aB ?_);refine aL1 rfl rfl rfl tw ?_)));exact hW.out)):p:=f ⟨h⟩
theorem lT{p q:Prop}(h:q)(f:Wq q->p:=by(intro hW;((first|(first|(refine aHs rfl rfl rfl rfl rfl ?_ ?_;(focus(apply aY;(conv=>lhs;whnf);(first|done|exact rfl|(apply aK;(first|(apply decide_eq_true;omega)|(apply decide_eq_false;omega)|assumption|(simp;done)))))))|refine nX rfl rfl rfl rfl rfl bK aa zb1 aa aa ?_)|((try refine aB ?_);(first|(refine aLs rfl rfl rfl rfl ?_ ?_;(focus(apply aY;(conv=>lhs;whnf);(first|done|exact rfl|(apply aK;(first|(apply decide_eq_true;omega)|(apply decide_eq_false;omega)|assumption|(simp;done)))))))|refine aLw rfl rfl rfl rfl bK zb1 ?_))));exact hW.out)):p:=f ⟨h⟩
theorem zS{p q:Prop}(h:q)(f:Wq q->p:=by(intro hW;((refine zy ?_;refine bp ?_;refine bp ?_;refine gT ?_;refine zs81 ?_;refine aQ ?_;refine lT ?_;refine zs83 ?_;refine zs84 ?_;refine zs85 ?_;refine zu ?_;refine di ?_));exact hW.out)):p:=f ⟨h⟩
theorem zs80{p q:Prop}(h:q)(f:Wq q->p:=by(intro hW;(refine aL1 rfl rfl rfl vM ?_);exact hW.out)):p:=f ⟨h⟩
theorem zT{p q:Prop}(h:q)(f:Wq q->p:=by(intro hW;((refine gar ?_;refine zs80 ?_;refine zs76 ?_;refine iy ?_;refine af ?_));exact hW.out)):p:=f ⟨h⟩
theorem fH{p q:Prop}(h:q)(f:Wq q->p:=by(intro hW;((refine Own3.jk rfl (fun K hK=>?_);go_simp;first|refine⟨rfl,hK _ ?_⟩|refine hK _ ?_;clear hK K));exact hW.out)):p:=f ⟨h⟩
theorem zR{p q:Prop}(h:q)(f:Wq q->p:=by(intro hW;((refine gar ?_;refine kF ?_;refine qn ?_;refine af ?_));exact hW.out)):p:=f ⟨h⟩
end
section
open Go.RowKit
namespace DW
theorem pG(z:Int):sgn z<0↔z<0:=by unfold sgn;split<;>(try split)<;>omega
theorem Ip(z:Int):sgn z>0↔z>0:=by unfold sgn;split<;>(try split)<;>omega
theorem za(l:List Nat){i:Nat}(h:i<=l.length):Dg.vl 65536 (l.drop i)<=Dg.vl 65536 l:=by
 rw[Dg.da (b:=65536) l h];have:=Nat.le_mul_of_pos_left (Dg.vl 65536 (l.drop i)) (Nat.pow_pos (n:=i) (show 0<65536 by decide));omega
def smD(z:Int):D:=if-9223372036854775808<=z/\z<=9223372036854775807 then .tp [zI z,.sc (.bool true)]else .tp [zI 0,.sc (.bool false)]
set_option maxRecDepth 20000
set_option maxHeartbeats 1000000
theorem Ii(z:Int)(hz:(hd z.natAbs).length<=199999999):Fn Tryz.prog 146 [.nm z] (smD z):=by
 have D1:=fE (z:=z) (by unfold Hf;omega);have O1:=qH (-9223372036854775808) (by omega);have O2:=qH 9223372036854775807 (by omega);have C1:=Bk z (-9223372036854775808) hz (Nat.le_trans (eR (k:=4) (by decide)) (by decide));have C2:=Bk z 9223372036854775807 hz (Nat.le_trans (eR (k:=4) (by decide)) (by decide));have s1:=pG (z- -9223372036854775808);have s2:=Ip (z-9223372036854775807);obtain⟨g1,hg1⟩:∃g,g=sgn (z- -9223372036854775808):=⟨_,rfl⟩;obtain⟨g2,hg2⟩:∃g,g=sgn (z-9223372036854775807):=⟨_,rfl⟩;rw[<-hg1]at C1 s1;rw[<-hg2]at C2 s2;clear hg1 hg2;refine bn Tryz.func146 ae rfl rfl rfl fun X0=>?_;simp only[aE];by_cases h1:z< -9223372036854775808
 ·have hg:g1<0:=s1.2 (by omega);rw[show smD z= .tp [zI 0,.sc (.bool false)]from if_neg (by omega)]
  (repeat(first|refine gk fun K hK=>?_|refine zs2 ?_));refine zU ?_;(repeat(first|refine gk fun K hK=>?_|refine zs2 ?_));refine zT ?_;(repeat(first|refine gk fun K hK=>?_|refine zs2 ?_));refine zS ?_;(repeat(first|refine gk fun K hK=>?_|refine zs2 ?_))
  refine av ?_
  (repeat(first|refine gk fun K hK=>?_|refine zs2 ?_));refine zR ?_;(repeat(first|refine gk fun K hK=>?_|refine zs2 ?_))
  exact⟨_,Sh.refl,.two (.tmp 2) (.tmp 3) _ _ rfl (.tmp 2 rfl) (.tmp 3 rfl)⟩
 ·have hg:¬g1<0:=fun h=>h1 (by have:=s1.1 h;omega);by_cases h2:z>9223372036854775807
  ·have hg2:g2>0:=s2.2 (by omega);rw[show smD z= .tp [zI 0,.sc (.bool false)]from if_neg (by omega)]
   (repeat(first|refine gk fun K hK=>?_|refine zs2 ?_));refine zU ?_;(repeat(first|refine gk fun K hK=>?_|refine zs2 ?_));refine zT ?_;(repeat(first|refine gk fun K hK=>?_|refine zs2 ?_));refine zS ?_;(repeat(first|refine gk fun K hK=>?_|refine zs2 ?_))
   refine av ?_
   (repeat(first|refine gk fun K hK=>?_|refine zs2 ?_));refine zR ?_;(repeat(first|refine gk fun K hK=>?_|refine zs2 ?_))
   exact⟨_,Sh.refl,.two (.tmp 2) (.tmp 3) _ _ rfl (.tmp 2 rfl) (.tmp 3 rfl)⟩
  ·have hg2:¬g2>0:=fun h=>h2 (by have:=s2.1 h;omega);rw[show smD z= .tp [zI z,.sc (.bool true)]from if_pos (by omega)]
   (repeat(first|refine gk fun K hK=>?_|refine zs2 ?_));refine zU ?_;(repeat(first|refine gk fun K hK=>?_|refine zs2 ?_));refine zT ?_;(repeat(first|refine gk fun K hK=>?_|refine zs2 ?_));refine zS ?_;(repeat(first|refine gk fun K hK=>?_|refine zs2 ?_))
   refine az ?_
   (repeat(first|refine gk fun K hK=>?_|refine zs2 ?_));(refine gar ?_;refine br ?_;refine cZ ?_;refine zs6 ?_;refine af ?_);(repeat(first|refine gk fun K hK=>?_|refine zs2 ?_));refine aS ?_;(repeat(first|refine gk fun K hK=>?_|refine zs2 ?_));refine zZ ?_;(repeat(first|refine gk fun K hK=>?_|refine zs2 ?_))
   obtain⟨l,hl⟩:∃l,l=hd z.natAbs:=⟨_,rfl⟩;rw[<-hl]at hz;have hvl:Dg.vl 65536 l=z.natAbs:=by rw[hl,fi]
   have hdl:Dg.dig 65536 l:=by rw[hl];exact fw _
   rw[<-hl];clear hl D1 O1 O2 C1 C2 s1 s2 hg hg2;by_cases hn:z<0
   ·have hd1:decide (z<0)=true:=decide_eq_true hn
    (refine aq (aj (sl':=[(1,.pt (.nm z)),(5,dN l),(6,zI 0),(7,zI (l.length-1))]) (ow':=[]) au ay) ?_)
    refine aF (fun r s=>r<=l.length/\s=⟨[(1,.pt (.nm z)),(5,dN l),(6,zI (-(Dg.vl 65536 (l.drop r):Int))),(7,zI (r-1))],[]⟩) (m:=l.length) ⟨Nat.le_refl _,by rw[List.drop_length];rfl⟩ fun r s hs=>?_;obtain⟨hr,rfl⟩:=hs;by_cases hr0:r=0
    ·subst hr0;rw[List.drop_zero,hvl]
     (repeat(first|refine gk fun K hK=>?_|refine zs2 ?_));refine eW ?_;(repeat(first|refine gk fun K hK=>?_|refine zs2 ?_))
     refine az ?_
     (repeat(first|refine gk fun K hK=>?_|refine zs2 ?_));refine zQ ?_;(repeat(first|refine gk fun K hK=>?_|refine zs2 ?_))
     rw[show zI z=zI (-(z.natAbs:Int)) by rw[show-(z.natAbs:Int)=z by omega]];exact⟨_,Sh.refl,.two (.tmp 2) (.tmp 3) _ _ rfl (.tmp 2 rfl) (.tmp 3 rfl)⟩
    ·obtain⟨i,rfl⟩:∃i,r=i+1:=⟨r-1,by omega⟩;have hi:i<l.length:=by omega
     have hx:=kW hi;have hdr:=Dg.bs (b:=65536) hi;have hle:=za l (i:=i) (by omega);have hc:((i+1:Nat):Int)-1=(i:Int):=by omega
     obtain⟨x,hxd⟩:∃x,x=l.getD i 0:=⟨_,rfl⟩;obtain⟨v,hvd⟩:∃v,v=Dg.vl 65536 (l.drop (i+1)):=⟨_,rfl⟩;rw[<-hxd,<-hvd]at hdr;rw[<-hxd]at hx;rw[<-hvd];clear hxd hvd
     (repeat(first|refine gk fun K hK=>?_|refine zs2 ?_));refine eW ?_;(repeat(first|refine gk fun K hK=>?_|refine zs2 ?_))
     refine av ?_
     (repeat(first|refine gk fun K hK=>?_|refine zs2 ?_));refine Aa ?_;(repeat(first|refine gk fun K hK=>?_|refine zs2 ?_))
     refine av ?_
     (repeat(first|refine gk fun K hK=>?_|refine zs2 ?_));(refine gar ?_;refine zs4 ?_;refine zs87 ?_;refine zs4 ?_;refine zs4 ?_;refine zx ?_;refine sW ?_;refine zs69 ?_;refine zs6 ?_;refine af ?_);(repeat(first|refine gk fun K hK=>?_|refine zs2 ?_));refine pq ?_;(repeat(first|refine gk fun K hK=>?_|refine zs2 ?_))
     simp only[nx,inB];exact⟨i,_,by omega,(aj (sl':=[(1,.pt (.nm z)),(5,dN l),(6,zI (-(Dg.vl 65536 (l.drop i):Int))),(7,zI ((i:Int)-1))]) (ow':=[]) au ay),by omega,rfl⟩
   ·have hd1:decide (z<0)=false:=decide_eq_false hn
    (refine aq (aj (sl':=[(1,.pt (.nm z)),(5,dN l),(6,zI 0),(7,zI (l.length-1))]) (ow':=[]) au ay) ?_)
    refine aF (fun r s=>r<=l.length/\s=⟨[(1,.pt (.nm z)),(5,dN l),(6,zI (Dg.vl 65536 (l.drop r):Int)),(7,zI (r-1))],[]⟩) (m:=l.length) ⟨Nat.le_refl _,by rw[List.drop_length];rfl⟩ fun r s hs=>?_;obtain⟨hr,rfl⟩:=hs;by_cases hr0:r=0
    ·subst hr0;rw[List.drop_zero,hvl]
     (repeat(first|refine gk fun K hK=>?_|refine zs2 ?_));refine eW ?_;(repeat(first|refine gk fun K hK=>?_|refine zs2 ?_))
     refine az ?_
     (repeat(first|refine gk fun K hK=>?_|refine zs2 ?_));refine zQ ?_;(repeat(first|refine gk fun K hK=>?_|refine zs2 ?_))
     rw[show zI z=zI (z.natAbs:Int) by rw[show(z.natAbs:Int)=z by omega]];exact⟨_,Sh.refl,.two (.tmp 2) (.tmp 3) _ _ rfl (.tmp 2 rfl) (.tmp 3 rfl)⟩
    ·obtain⟨i,rfl⟩:∃i,r=i+1:=⟨r-1,by omega⟩;have hi:i<l.length:=by omega
     have hx:=kW hi;have hdr:=Dg.bs (b:=65536) hi;have hle:=za l (i:=i) (by omega);have hc:((i+1:Nat):Int)-1=(i:Int):=by omega
     obtain⟨x,hxd⟩:∃x,x=l.getD i 0:=⟨_,rfl⟩;obtain⟨v,hvd⟩:∃v,v=Dg.vl 65536 (l.drop (i+1)):=⟨_,rfl⟩;rw[<-hxd,<-hvd]at hdr;rw[<-hxd]at hx;rw[<-hvd];clear hxd hvd
     (repeat(first|refine gk fun K hK=>?_|refine zs2 ?_));refine eW ?_;(repeat(first|refine gk fun K hK=>?_|refine zs2 ?_))
     refine av ?_
     (repeat(first|refine gk fun K hK=>?_|refine zs2 ?_));refine Aa ?_;(repeat(first|refine gk fun K hK=>?_|refine zs2 ?_))
     refine az ?_
     (repeat(first|refine gk fun K hK=>?_|refine zs2 ?_));(refine gar ?_;refine zs4 ?_;refine zs87 ?_;refine zs4 ?_;refine zs4 ?_;refine zx ?_;refine sW ?_;refine nZ ?_;refine zs6 ?_;refine af ?_);(repeat(first|refine gk fun K hK=>?_|refine zs2 ?_));refine pq ?_;(repeat(first|refine gk fun K hK=>?_|refine zs2 ?_))
     simp only[nx,inB];exact⟨i,_,by omega,(aj (sl':=[(1,.pt (.nm z)),(5,dN l),(6,zI (Dg.vl 65536 (l.drop i):Int)),(7,zI ((i:Int)-1))]) (ow':=[]) au ay),by omega,rfl⟩
end DW
end
section
open Go.RowKit Go.BigFrame
attribute [local go_sem ↓] Go.wp_at_zero Go.wp_at_succ
theorem neg_get{zs:List Int}{k:Nat}{z:Int}(h:zs[k]?=some z):(Mx.neg zs)[k]?=some (-z):=by
 unfold Mx.neg;rw[List.getElem?_map,h];rfl
set_option maxRecDepth 10000 in
set_option maxHeartbeats 4000000 in
theorem xS(g n cap:Nat)(zs:List Int)(hn:zs.length=n)(hn1:n<=1000000)(hf:∀z∈zs,Fit z)(hn0:0<n)
  (w:World) (hz:RO w g zs):
  Calls Tryz.prog 186 #[.slice (some ⟨g,0,none⟩) n cap] w (zt w g (Mx.neg zs)):=by
 have HZ:=Lib.hid hz;have HF:Hid _:=hf;have HN:=Lib.hid hn;have hnw:Hid (NW w g):=hz.nw (fun e=>by rw[e]at hn;simp at hn;omega);have hg:g<w.heap.size:=hz.lt;clear hz hf hn
 go_enter Tryz.func186,Tryz.ntmps186
 go_wp2_with fail
 go_loopw [6] (fun i wr=>∃k:Nat,k<=n/\i= .int .i64 ((k:Int))/\Hid (Chg g w wr)/\Hid (RO wr g (part k (Mx.neg zs) zs))) (fun i _=>n-(intOf i).toNat)
 case atStart=>exact⟨0,by omega,rfl,Chg.refl _ _,by show RO _ _ _;rw[uG];exact HZ.out⟩
 case round=>
  obtain⟨k,hk,rfl,HC,HR⟩:=hrel;by_cases hkn:k<n
  ·have hkn2:(k:Int)<(n:Int):=by omega
   have hx:=getD_some (l:=zs) (k:=k) vG;generalize zs.getD k 0=xz at hx;have HX:=Lib.hid hx;have FX:=Lib.hid (HF.out xz (List.mem_of_getElem? hx));obtain⟨x,cx0,cx1,hxz,f0,f1⟩:=HR.out.at (k:=k) (z:=xz) (by rw[tS (Mx.jj zs) vG];exact hx);have HXZ:=Lib.hid hxz;have hg2:g<wr.heap.size:=Nat.lt_of_lt_of_le hg HC.out.size;obtain⟨xs,xa,xn,xc⟩:=x;simp only[]at cx0 cx1;clear hx hxz
   go_wp2_with (first|(go_at_call 102;(with_reducible refine(gV ⟨xs,xa,xn,xc⟩ xz FX.out _ ?_).mono ?_);(exact(HXZ.out.below (B:=wr.heap.size) ah (Nat.le_refl _)).ip);rintro e w1 ⟨⟨y,rfl,hy⟩,hb1⟩;have HY:=Lib.hid hy;clear hy;have HB1:=Lib.hid hb1;obtain⟨g1,rfl⟩:=mob hb1;clear hb1))
   go_roundw
   case rel=>
    have h1:=(HR.out.below (B:=wr.heap.size) (w':=more (wr.alloc (.cells #[.bool xs,.slice xa xn xc] 62)) g1) ah (Nat.le_refl _)).set (k:=k) (by rw[qG (Mx.jj zs),HN.out];exact hkn) HY.out;rw[qF (Mx.jj zs) (neg_get HX.out)]at h1;have h2:=qB ((HC.out.alloc (.cells #[.bool xs,.slice xa xn xc] 62)).mor g1) k y;have e5:dF (more (wr.alloc (.cells #[.bool xs,.slice xa xn xc] 62)) g1) g k y=more ((dF wr g k y).alloc (.cells #[.bool xs,.slice xa xn xc] 62)) g1:=by unfold dF;go_simp
    rw[e5]at h1 h2;exact⟨k+1,by omega,by go_num,h2,h1⟩
   case measure=>simp[intOf];omega
  ·obtain rfl:k=n:=by omega
   have hkn2:¬(k:Int)<(k:Int):=by omega
   go_wp2_with fail
   (first|refine bodyPost_ret (results_none rfl _ _ _) rfl ?_|refine bodyPost_end (results_none rfl _ _ _) rfl ?_)
   refine⟨rfl,HC.out,?_⟩;have h1:=HR.out;rw[wz (by rw[Mx.jj,HN.out];exact Nat.le_refl _) (by rw[HN.out];exact Nat.le_refl _)]at h1;exact h1
structure MO(w:World)(B gm L:Nat)(gs cs:Nat->Nat)(n:Nat)(M:Mx.Mat):Prop where
 b:B<=gm
 lt:gm<w.heap.size
 fr:∀k,w.frozen? ⟨gm,k,none⟩=false
 hl:∀i,i<L->∃u,w.cell? ⟨gm,i,none⟩=some u
 nw:NW w gm
 ml:M.length<=L
 rc:Mx.Rc n M
 n0:0<n
 hc:∀i,i<M.length->w.cell? ⟨gm,i,none⟩=some (.slice (some ⟨gs i,0,none⟩) n (cs i))/\n<=cs i/\B<=gs i/\gs i≠gm/\RO w (gs i) (Mx.rw M i)
 dj:∀i j,i<M.length->j<M.length->i≠j->gs i≠gs j
theorem NW.pL{w w':World}{g:Nat}(h:NW w g)(e:w'.cell? ⟨g,0,none⟩=w.cell? ⟨g,0,none⟩):NW w' g:=fun n h2=>h n (e.symm.trans h2)
theorem MO.below{B':Nat}{w w':World}{B gm L:Nat}{gs cs:Nat->Nat}{n:Nat}{M:Mx.Mat}(h:MO w B gm L gs cs n M)(hb:Below B' w w')(hB:w.heap.size<=B'):MO w' B gm L gs cs n M:=by
 have hg:gm<B':=Nat.lt_of_lt_of_le h.lt hB;refine⟨h.b,Nat.lt_of_lt_of_le h.lt hb.size,fun k=>(hb.frozen (p:=⟨gm,k,none⟩) hg).trans (h.fr k),fun i hi=>?_,h.nw.pL (hb.cell (p:=⟨gm,0,none⟩) hg),h.ml,h.rc,h.n0,fun i hi=>?_,h.dj⟩
 ·obtain⟨u,hu⟩:=h.hl i hi;exact⟨u,(hb.cell (p:=⟨gm,i,none⟩) hg).trans hu⟩
 ·obtain⟨h1,h2,h3,h4,h5⟩:=h.hc i hi;exact⟨(hb.cell (p:=⟨gm,i,none⟩) hg).trans h1,h2,h3,h4,h5.below hb hB⟩
theorem MO.JR{w:World}{B gm L:Nat}{gs cs:Nat->Nat}{n:Nat}{M:Mx.Mat}(h:MO w B gm L gs cs n M){i:Nat}(hi:i<M.length):Mx.rw M i≠[]:=fun e=>by
 have:=h.rc.rw hi;have:=h.n0;rw[e]at*;simp at*;omega
theorem MO.JQ{w:World}{B gm L:Nat}{gs cs:Nat->Nat}{n:Nat}{M:Mx.Mat}(h:MO w B gm L gs cs n M){i:Nat}(hi:i<M.length):NW w (gs i):=(h.hc i hi).2.2.2.2.nw (h.JR hi)
theorem MO.setRow{w w':World}{B gm L:Nat}{gs cs:Nat->Nat}{n:Nat}{M:Mx.Mat}(h:MO w B gm L gs cs n M){i:Nat}(hi:i<M.length){zs:List Int}(hz:zs.length=n)(k:Chg (gs i) w w')(hr:RO w' (gs i) zs):MO w' B gm L gs cs n (M.set i zs):=by
 have hne:=(h.hc i hi).2.2.2.1;have hnw:=h.JQ hi;refine⟨h.b,Nat.lt_of_lt_of_le h.lt k.size,fun j=>(k.frozen h.lt (Ne.symm hne)).trans (h.fr j),fun j hj=>?_,h.nw.pL (k.cell h.lt (Ne.symm hne)),by rw[List.length_set];exact h.ml,h.rc.set hz,h.n0,fun j hj=>?_,fun a b ha hb=>?_⟩
 ·obtain⟨u,hu⟩:=h.hl j hj;exact⟨u,(k.cell h.lt (Ne.symm hne)).trans hu⟩
 ·rw[List.length_set]at hj;obtain⟨h1,h2,h3,h4,h5⟩:=h.hc j hj;refine⟨(k.cell h.lt (Ne.symm hne)).trans h1,h2,h3,h4,?_⟩;rw[Mx.kK _ _ _ _ hi];by_cases e:j=i
  ·rw[if_pos e,e];exact hr
  ·rw[if_neg e];exact h5.chg k hnw (h.dj j i hj hi e)
 ·rw[List.length_set]at ha hb;exact h.dj a b ha hb
def ix(f:Nat->Nat)(i j:Nat):Nat->Nat:=fun k=>if k=j then f i else if k=i then f j else f k
theorem MO.swp{w:World}{B gm L:Nat}{gs cs:Nat->Nat}{n:Nat}{M:Mx.Mat}(h:MO w B gm L gs cs n M){i j:Nat}(hi:i<M.length)(hj:j<M.length):
  MO ((w.setCell ⟨gm,i,none⟩ (.slice (some ⟨gs j,0,none⟩) n (cs j))).setCell ⟨gm,j,none⟩ (.slice (some ⟨gs i,0,none⟩) n (cs i))) B gm L (ix gs i j) (ix cs i j) n (Mx.swp M i j):=by
 have k:Chg gm w ((w.setCell ⟨gm,i,none⟩ (.slice (some ⟨gs j,0,none⟩) n (cs j))).setCell ⟨gm,j,none⟩ (.slice (some ⟨gs i,0,none⟩) n (cs i))):=((Chg.refl gm w).set gm _ _ (.inl rfl)).set gm _ _ (.inl rfl);obtain⟨i1,i2,i3,i4,i5⟩:=h.hc i hi;obtain⟨j1,j2,j3,j4,j5⟩:=h.hc j hj;have cell:∀(l:Nat) (u:Value),w.cell? ⟨gm,l,none⟩=some u->((w.setCell ⟨gm,i,none⟩ (.slice (some ⟨gs j,0,none⟩) n (cs j))).setCell ⟨gm,j,none⟩ (.slice (some ⟨gs i,0,none⟩) n (cs i))).cell? ⟨gm,l,none⟩=some (if l=j then .slice (some ⟨gs i,0,none⟩) n (cs i)else if l=i then .slice (some ⟨gs j,0,none⟩) n (cs j)else u):=fun l u hu=>by
  by_cases e:l=j
  ·subst e;rw[if_pos rfl];by_cases e2:l=i
   ·subst e2;exact dT _ _ _ _ _ (dT _ _ _ _ _ hu)
   ·exact dT _ _ _ _ _ ((cL _ _ _ _ _ e2).trans hu)
  ·rw[if_neg e,cL _ _ _ _ _ e];by_cases e2:l=i
   ·subst e2;rw[if_pos rfl];exact dT _ _ _ _ _ hu
   ·rw[if_neg e2,cL _ _ _ _ _ e2];exact hu
 refine⟨h.b,by simpa using h.lt,fun l=>by rw[World.frozen?_setCell,World.frozen?_setCell];exact h.fr l,fun l hl=>?_,fun m e=>?_,by rw[Mx.ck];exact h.ml,Mx.jG h.rc hi hj,h.n0,fun l hl=>?_,fun a b ha hb hab=>?_⟩
 ·obtain⟨u,hu⟩:=h.hl l hl;exact⟨_,cell l u hu⟩
 ·obtain⟨u,hu⟩:=h.hl 0 (by have:=h.ml;omega);rw[cell 0 u hu]at e;simp only[Option.some.injEq]at e;split at e
  ·cases e
  ·split at e
   ·cases e
   ·rw[e]at hu;exact h.nw m hu
 ·rw[Mx.ck]at hl;obtain⟨h1,h2,h3,h4,h5⟩:=h.hc l hl;rw[cell l _ h1,Mx.rI hi hj];unfold ix;by_cases e:l=j
  ·rw[if_pos e,if_pos e,if_pos e,if_pos e];exact⟨rfl,i2,i3,i4,i5.chg k h.nw i4⟩
  ·rw[if_neg e,if_neg e,if_neg e,if_neg e];by_cases e2:l=i
   ·rw[if_pos e2,if_pos e2,if_pos e2,if_pos e2];exact⟨rfl,j2,j3,j4,j5.chg k h.nw j4⟩
   ·rw[if_neg e2,if_neg e2,if_neg e2,if_neg e2];exact⟨rfl,h2,h3,h4,h5.chg k h.nw h4⟩
 ·rw[Mx.ck]at ha hb;unfold ix;by_cases a1:a=j
  ·rw[if_pos a1];by_cases b1:b=j
   ·omega
   ·rw[if_neg b1];by_cases b2:b=i
    ·rw[if_pos b2];by_cases e:i=j
     ·omega
     ·exact h.dj i j hi hj e
    ·rw[if_neg b2];exact h.dj i b hi hb (Ne.symm b2)
  ·rw[if_neg a1];by_cases a2:a=i
   ·rw[if_pos a2];by_cases b1:b=j
    ·rw[if_pos b1];by_cases e:i=j
     ·omega
     ·exact h.dj j i hj hi (Ne.symm e)
    ·rw[if_neg b1,if_neg (by omega)];exact h.dj j b hj hb (Ne.symm b1)
   ·rw[if_neg a2];by_cases b1:b=j
    ·rw[if_pos b1];exact h.dj a i ha hi a2
    ·rw[if_neg b1];by_cases b2:b=i
     ·rw[if_pos b2];exact h.dj a j ha hj a1
     ·rw[if_neg b2];exact h.dj a b ha hb hab
end
section
open Go.RowKit Go.BigFrame
attribute [local go_sem ↓] Go.wp_at_zero Go.wp_at_succ
def AD(b:Option Addr):Prop:=∃g o,b=some ⟨g,o,none⟩
theorem AD.some(g o:Nat):AD (some ⟨g,o,none⟩):=⟨g,o,rfl⟩
structure MB(w:World)(B gm L:Nat)(gs cs:Nat->Nat)(n:Nat)(M:Mx.Mat):Prop where
 b:B<=gm
 lt:gm<w.heap.size
 fr:∀k,w.frozen? ⟨gm,k,none⟩=false
 hl:∀i,i<L->∃u,w.cell? ⟨gm,i,none⟩=some u
 nw:NW w gm
 ml:M.length<=L
 rc:Mx.Rc n M
 hc:∀i,i<M.length->∃b,w.cell? ⟨gm,i,none⟩=some (.slice b n (cs i))/\n<=cs i/\AD b/\(0<n->b=some ⟨gs i,0,none⟩/\B<=gs i/\gs i≠gm/\RO w (gs i) (Mx.rw M i))
 dj:0<n->∀i j,i<M.length->j<M.length->i≠j->gs i≠gs j
theorem MB.mo{w:World}{B gm L:Nat}{gs cs:Nat->Nat}{n:Nat}{M:Mx.Mat}(h:MB w B gm L gs cs n M)(h0:0<n):MO w B gm L gs cs n M:=
 ⟨h.b,h.lt,h.fr,h.hl,h.nw,h.ml,h.rc,h0,fun i hi=>by
  obtain⟨b,h1,h2,_,h3⟩:=h.hc i hi;obtain⟨rfl,h4,h5,h6⟩:=h3 h0;exact⟨h1,h2,h4,h5,h6⟩,h.dj h0⟩
theorem MO.mb{w:World}{B gm L:Nat}{gs cs:Nat->Nat}{n:Nat}{M:Mx.Mat}(h:MO w B gm L gs cs n M):MB w B gm L gs cs n M:=
 ⟨h.b,h.lt,h.fr,h.hl,h.nw,h.ml,h.rc,fun i hi=>by
  obtain⟨h1,h2,h3,h4,h5⟩:=h.hc i hi;exact⟨_,h1,h2,AD.some _ _,fun _=>⟨rfl,h3,h4,h5⟩⟩,fun _=>h.dj⟩
theorem MB.below{B':Nat}{w w':World}{B gm L:Nat}{gs cs:Nat->Nat}{n:Nat}{M:Mx.Mat}(h:MB w B gm L gs cs n M)(hb:Below B' w w')(hB:w.heap.size<=B'):MB w' B gm L gs cs n M:=by
 have hg:gm<B':=Nat.lt_of_lt_of_le h.lt hB;refine⟨h.b,Nat.lt_of_lt_of_le h.lt hb.size,fun k=>(hb.frozen (p:=⟨gm,k,none⟩) hg).trans (h.fr k),fun i hi=>?_,h.nw.pL (hb.cell (p:=⟨gm,0,none⟩) hg),h.ml,h.rc,fun i hi=>?_,h.dj⟩
 ·obtain⟨u,hu⟩:=h.hl i hi;exact⟨u,(hb.cell (p:=⟨gm,i,none⟩) hg).trans hu⟩
 ·obtain⟨b,h1,h2,hA,h3⟩:=h.hc i hi;exact⟨b,(hb.cell (p:=⟨gm,i,none⟩) hg).trans h1,h2,hA,fun h0=>⟨(h3 h0).1,(h3 h0).2.1,(h3 h0).2.2.1,(h3 h0).2.2.2.below hb hB⟩⟩
theorem yB(M:Mx.Mat)(zs:List Int)(i:Nat):Mx.rw (M++[zs]) i=if i=M.length then zs else Mx.rw M i:=by
 unfold Mx.rw;rw[List.getD_eq_getElem?_getD,List.getD_eq_getElem?_getD];by_cases e:i=M.length
 ·subst e;rw[if_pos rfl,List.getElem?_append_right (Nat.le_refl _)];simp
 ·rw[if_neg e];by_cases e2:i<M.length
  ·rw[List.getElem?_append_left e2]
  ·rw[List.getElem?_append_right (by omega),List.getElem?_eq_none bG,List.getElem?_eq_none (by omega)]
theorem MB.push{w:World}{B gm L:Nat}{gs cs:Nat->Nat}{n:Nat}{M:Mx.Mat}(h:MB w B gm L gs cs n M){g c:Nat}{b:Option Addr}{zs:List Int}(hL:M.length<L)(hz:zs.length=n)(hc:n<=c)(hA:AD b)(hr:0<n->b=some ⟨g,0,none⟩/\RO w g zs/\B<=g/\g≠gm/\∀i,i<M.length->gs i≠g):
  MB (w.setCell ⟨gm,M.length,none⟩ (.slice b n c)) B gm L (fun i=>if i=M.length then g else gs i) (fun i=>if i=M.length then c else cs i) n (M++[zs]):=by
 have k:Chg gm w (w.setCell ⟨gm,M.length,none⟩ (.slice b n c)):=(Chg.refl gm w).set gm _ _ (.inl rfl);have cell:∀(l:Nat) (u:Value),w.cell? ⟨gm,l,none⟩=some u->(w.setCell ⟨gm,M.length,none⟩ (.slice b n c)).cell? ⟨gm,l,none⟩=some (if l=M.length then .slice b n c else u):=fun l u hu=>by
  by_cases e:l=M.length
  ·rw[if_pos e,<-e];exact dT _ _ _ _ _ hu
  ·rw[if_neg e,cL _ _ _ _ _ e];exact hu
 refine⟨h.b,by simpa using h.lt,fun l=>by rw[World.frozen?_setCell];exact h.fr l,fun l hl=>?_,fun m e=>?_,by simp;omega,fun r hr=>?_,fun l hl=>?_,fun h0 a b ha hb hab=>?_⟩
 ·obtain⟨u,hu⟩:=h.hl l hl;exact⟨_,cell l u hu⟩
 ·obtain⟨u,hu⟩:=h.hl 0 (by omega);rw[cell 0 u hu]at e;simp only[Option.some.injEq]at e;split at e
  ·cases e
  ·rw[e]at hu;exact h.nw m hu
 ·rcases List.mem_append.1 hr with h1|h1
  ·exact h.rc r h1
  ·rw[List.mem_singleton.1 h1];exact hz
 ·simp only[List.length_append,List.length_singleton]at hl;rw[yB];by_cases e:l=M.length
  ·subst e;obtain⟨u,hu⟩:=h.hl M.length hL;rw[cell _ u hu,if_pos rfl,if_pos rfl,if_pos rfl,if_pos rfl];exact⟨b,rfl,hc,hA,fun h0=>⟨(hr h0).1,(hr h0).2.2.1,(hr h0).2.2.2.1,(hr h0).2.1.chg k h.nw (hr h0).2.2.2.1⟩⟩
  ·obtain⟨b',h1,h2,hA',h3⟩:=h.hc l (by omega);rw[cell l _ h1,if_neg e,if_neg e,if_neg e,if_neg e];exact⟨b',rfl,h2,hA',fun h0=>⟨(h3 h0).1,(h3 h0).2.1,(h3 h0).2.2.1,(h3 h0).2.2.2.chg k h.nw (h3 h0).2.2.1⟩⟩
 ·simp only[List.length_append,List.length_singleton]at ha hb;by_cases a1:a=M.length
  ·rw[if_pos a1,if_neg (by omega)];exact fun e=>(hr h0).2.2.2.2 b (by omega) e.symm
  ·rw[if_neg a1];by_cases b1:b=M.length
   ·rw[if_pos b1];exact(hr h0).2.2.2.2 a (by omega)
   ·rw[if_neg b1];exact h.dj h0 a b (by omega) (by omega) hab
theorem kp:(Tryz.prog.info? 147).map (fun i=>(i.zero,i.size,i.bytes))=some (some (.slice none 0 0),1,24):=by kernel_rfl
theorem oJ(n:Nat)(hn:n<=1000000000)(w:World):
  (Instr.makeSlice 104 (.int .i64 (n:Int)) (.int .i64 (n:Int))).run Tryz.prog w= .ok (.slice (some ⟨w.heap.size,0,none⟩) n n) (w.alloc (.cells (madeCells #[.slice none 0 0] n) 147)):=by
 obtain⟨i,hi,hz,hs,hb⟩:=eu kp;have hr:=run_make (P:=Tryz.prog) w 104 147 i _ Tryz.underlying104 hi hz .i64 .i64 n n (by omega) (Int.le_refl _) (by rw[hb];omega) (by omega);rw[hs]at hr;simpa[Value.cells]using hr
theorem A4(n k:Nat)(hk:k<n):(madeCells #[.slice none 0 0] n)[k]?=some (.slice none 0 0):=by
 unfold madeCells;rw[Array.getElem?_map,Array.getElem?_range,if_pos (by omega)];simp[Nat.mod_one]
theorem MB.made(w:World)(B L n:Nat)(gs cs:Nat->Nat)(hB:B<=w.heap.size):MB (w.alloc (.cells (madeCells #[.slice none 0 0] L) 147)) B w.heap.size L gs cs n []:=by
 have hh:=heap_alloc_new w (.cells (madeCells #[.slice none 0 0] L) 147);have hc:∀i,i<L->(w.alloc (.cells (madeCells #[.slice none 0 0] L) 147)).cell? ⟨w.heap.size,i,none⟩=some (.slice none 0 0):=fun i hi=>by
  rw[cell_of_row _ w.heap.size _ _ _ (0,0) hh];exact A4 L i hi
 refine⟨hB,by simp,fun k=>?_,fun i hi=>⟨_,hc i hi⟩,fun n e=>?_,Nat.zero_le _,fun r hr=>by(cases hr),fun i hi=>by(simp at hi),fun _ i j hi=>by(simp at hi)⟩
 ·simp only[World.frozen?];rw[hh];simp
 ·by_cases hL:0<L
  ·rw[hc 0 hL]at e;cases e
  ·rw[cell_of_row _ w.heap.size _ _ _ (0,0) hh]at e;have:L=0:=by omega
   subst this;simp[madeCells]at e
def MR(w:World)(v:Value)(n:Nat)(M:Mx.Mat):Prop:=∃a cap,v= .slice a M.length cap/\M.length<=cap/\Mx.Rc n M/\(M=[]\/∃gm om,a=some ⟨gm,om,none⟩/\gm<w.heap.size/\
 ∀i,i<M.length->∃b c,w.cell? ⟨gm,om+i,none⟩=some (.slice b n c)/\n<=c/\AD b/\(n=0\/∃g o,b=some ⟨g,o,none⟩/\RA w g o (Mx.rw M i)))
theorem MR.below{B:Nat}{w w':World}{v:Value}{n:Nat}{M:Mx.Mat}(h:MR w v n M)(hb:Below B w w')(hB:w.heap.size<=B):MR w' v n M:=by
 obtain⟨a,cap,h1,h2,h3,h4⟩:=h;refine⟨a,cap,h1,h2,h3,?_⟩;rcases h4 with h4|⟨gm,om,e,hg,h5⟩
 ·exact .inl h4
 ·refine .inr ⟨gm,om,e,Nat.lt_of_lt_of_le hg hb.size,fun i hi=>?_⟩;obtain⟨b,c,k1,k2,kA,k3⟩:=h5 i hi;refine⟨b,c,(hb.cell (p:=⟨gm,_,none⟩) (Nat.lt_of_lt_of_le hg hB)).trans k1,k2,kA,?_⟩;rcases k3 with k3|⟨g,o,e,k4⟩
  ·exact .inl k3
  ·exact .inr ⟨g,o,e,k4.below hb hB⟩
theorem MB.mr{w:World}{B gm L:Nat}{gs cs:Nat->Nat}{n:Nat}{M:Mx.Mat}(h:MB w B gm L gs cs n M){cap:Nat}(hc:M.length<=cap):MR w (.slice (some ⟨gm,0,none⟩) M.length cap) n M:=by
 refine⟨_,cap,rfl,hc,h.rc,.inr ⟨gm,0,rfl,h.lt,fun i hi=>?_⟩⟩;obtain⟨b,h1,h2,hA,h3⟩:=h.hc i hi;rw[Nat.zero_add];refine⟨b,cs i,h1,h2,hA,?_⟩;by_cases h0:n=0
 ·exact .inl h0
 ·obtain⟨rfl,_,_,h4⟩:=h3 (by omega);exact .inr ⟨gs i,0,rfl,h4.ra⟩
def ZM(w:World)(v:Value)(m:List (List Int)):Prop:=∃a cap,v= .slice a m.length cap/\m.length<=cap/\(m=[]\/∃a0,a=some a0/\a0.block<w.heap.size/\
 ∀(i:Nat) (l:List Int),m[i]?=some l->∃b c,w.cell? (a0.add i)=some (.slice b l.length c)/\l.length<=c/\ZAt w b l)
theorem iV{B:Nat}{w w':World}(hb:Below B w w')(hB:w.heap.size<=B){a:Addr}{v:Value}(h:w.cell? a=some v):w'.cell? a=some v:=by
 have h2:=World.block_lt_of_cell? w _ h;rw[hb.cell (Nat.lt_of_lt_of_le h2 hB)];exact h
theorem ZM.below{B:Nat}{w w':World}{v:Value}{m:List (List Int)}(h:ZM w v m)(hb:Below B w w')(hB:w.heap.size<=B):ZM w' v m:=by
 obtain⟨a,cap,h1,h2,h4⟩:=h;refine⟨a,cap,h1,h2,?_⟩;rcases h4 with h4|⟨a0,e,hg,h5⟩
 ·exact .inl h4
 ·refine .inr ⟨a0,e,Nat.lt_of_lt_of_le hg hb.size,fun i l hl=>?_⟩;obtain⟨b,c,k1,k2,k3⟩:=h5 i l hl;exact⟨b,c,iV hb hB k1,k2,k3.below hb hB⟩
def Ho(w:World)(n:Nat)(M:Mx.Mat)(e:Ending)(w':World):Prop:=(∃gm gs cs cap,e= .returned (.slice (some ⟨gm,0,none⟩) M.length cap)/\M.length<=cap/\MB w' w.heap.size gm M.length gs cs n M)/\Below w.heap.size w w'
theorem oy{m:List (List Int)}{k:Nat}{l:List Int}(h:m[k]?=some l):m.take (k+1)=m.take k++[l]:=by
 rw[List.take_add_one,h];rfl
set_option maxRecDepth 10000 in
set_option maxHeartbeats 4000000 in
theorem Hv(m:List (List Int))(n:Nat)(v:Value)(hm:m.length<=1000000)(hn:n<=1000000)(hr:Mx.Rc n m)(hb:∀l∈m,∀z∈l,I64 z)(w:World)(h:ZM w v m):
  Calls Tryz.prog 72 #[v] w (Ho w n m):=by
 obtain⟨a,cap,rfl,_,h4⟩:=h;have RO':=Lib.hid (fun (l:List Int) (hl:l∈m) a cap w hz=>Cr l a cap (by rw[hr l hl];exact hn) (hb l hl) w hz);have HRC:Hid (Mx.Rc n m):=hr;have hmk:=oJ m.length (by omega);have H4:=Lib.hid h4;clear hb hr h4;generalize hml:m.length=q at*;have HQ:=Lib.hid hml;clear hml
 go_enter Tryz.func72,Tryz.ntmps72
 go_wp2_with fail
 go_loopw [11] (fun i wr=>∃(k:Nat) (gs cs:Nat->Nat),k<=q/\i= .int .i64 ((k:Int))/\Below w.heap.size w wr/\Hid (MB wr w.heap.size w.heap.size q gs cs n (m.take k)/\∀i,i<k->0<n->w.heap.size<gs i/\gs i<wr.heap.size)) (fun i _=>q-(intOf i).toNat)
 case atStart=>
  exact⟨0,id,id,by omega,rfl,by exact bel,MB.made w w.heap.size q n id id (Nat.le_refl _),fun i hi=>by omega⟩
 case round=>
  obtain⟨k,gs,cs,hk,rfl,hB,HR⟩:=hrel;have hlt:w.heap.size<wr.heap.size:=HR.out.1.lt;by_cases hkn:k<q
  ·have hkn2:(k:Int)<(q:Int):=by omega
   obtain⟨l,hl⟩:∃l,m[k]?=some l:=⟨m[k]'(by rw[HQ.out];omega),List.getElem?_eq_getElem _⟩;have hll:l.length=n:=HRC.out l (List.mem_of_getElem? hl);rcases H4.out with h0|⟨a0,ha,hal,hcc⟩
   ·rw[h0]at hl;simp at hl
   obtain⟨b,c,cz,hlc,hza⟩:=hcc k l hl;have cz2:=iV hB (Nat.le_refl _) cz;subst ha;have HZA:=Lib.hid (hza.below hB (Nat.le_refl _));have ROl:=Lib.hid (RO'.out l (List.mem_of_getElem? hl) b c);rw[hll]at ROl;obtain⟨u,hu⟩:=HR.out.1.hl k hkn;have hfr:=HR.out.1.fr k;have HL:=Lib.hid (And.intro hl hll);clear hcc hl hza cz
   go_wp2_with (first|(go_at_call 142;(with_reducible refine(ROl.out _ ?_).mono ?_);(exact HZA.out.below (B:=wr.heap.size) ah (Nat.le_refl _));rintro e w4 ⟨⟨g4',xs,rfl,hge,hy⟩,hb4⟩;have HY:=Lib.hid (And.intro hge hy);clear hge hy;have HB4:=Lib.hid hb4;obtain⟨g4,rfl⟩:=mob hb4;clear hb4))
   go_roundw
   case rel=>
    have hp:=(HR.out.1.below HB4.out (Nat.le_refl _)).push (g:=g4') (c:=l.length) (b:=some ⟨g4',0,none⟩) (zs:=l) (by rw[List.length_take,HQ.out];omega) HL.out.2 (by omega) (AD.some _ _) (fun h0=>⟨rfl,⟨xs,HY.out.2⟩,by have:=HY.out.1;omega,by have:=HY.out.1;omega,fun i hi=>by
     have h1:=(HR.out.2 i (by rw[List.length_take,HQ.out]at hi;omega) h0).2;have:=HY.out.1;omega⟩)
    have hkl:(m.take k).length=k:=by rw[List.length_take,HQ.out];omega
    rw[<-oy HL.out.1,hkl]at hp;have hg4:g4'<(more wr g4).heap.size:=HY.out.2.lt;have e5:(more wr g4).setCell ⟨w.heap.size,k,none⟩ (.slice (some ⟨g4',0,none⟩) n l.length)=more (wr.setCell ⟨w.heap.size,k,none⟩ (.slice (some ⟨g4',0,none⟩) n l.length)) g4:=kJ _ _ _ _ hlt;rw[e5]at hp;rw[HL.out.2]at hp;refine⟨k+1,_,_,by omega,by go_num,by exact bel,hp,fun i hi h0=>?_⟩;have hsz:(more (wr.setCell ⟨w.heap.size,k,none⟩ (.slice (some ⟨g4',0,none⟩) n n)) g4).heap.size=(more wr g4).heap.size:=by simp
    rw[hsz];by_cases e:i=k
    ·rw[if_pos e];have:=HY.out.1;omega
    ·rw[if_neg e];have h1:=HR.out.2 i (by omega) h0;have:wr.heap.size<=(more wr g4).heap.size:=HB4.out.size;omega
   case measure=>simp[intOf];omega
  ·obtain rfl:k=q:=by omega
   have hkn2:¬(k:Int)<(k:Int):=by omega
   go_wp2_with fail
   go_ret
   refine⟨⟨w.heap.size,gs,cs,k,by rw[HQ.out];rfl,by rw[HQ.out];exact Nat.le_refl _,?_⟩,hB⟩;have h1:=HR.out.1;rw[List.take_of_length_le (by rw[HQ.out];exact Nat.le_refl _)]at h1;rw[HQ.out];exact h1
end
section
open Go.RowKit Go.BigFrame
attribute [local go_sem ↓] Go.wp_at_zero Go.wp_at_succ
def fZ(l:List IV):List Value:=l.flatMap fun x=>[.bool x.s,.slice x.a x.n x.cap]
theorem ye(l m:List IV):fZ (l++m)=fZ l++fZ m:=by simp[fZ]
theorem xf:∀l:List IV,(fZ l).length=l.length*2
 |[]=>rfl
 |x::l=>by
  show(([.bool x.s,.slice x.a x.n x.cap]:List Value)++fZ l).length=_;rw[List.length_append,xf l,List.length_cons];simp;omega
theorem ua:∀(l:List IV) (k:Nat) (x:IV),l[k]?=some x->(fZ l)[k*2]?=some (.bool x.s)/\(fZ l)[k*2+1]?=some (.slice x.a x.n x.cap)
 |y::l,0,x,h=>by
  simp at h;subst h;exact⟨rfl,rfl⟩
 |y::l,k+1,x,h=>by
  have ih:=ua l k x (by simpa using h);rw[show(k+1)*2=k*2+2 by omega];exact ih
def my(w:World)(base:Nat)(v:Value)(l:List IV):Prop:=w.ownsRow base 62 2 v l.length (fZ l)
theorem my.nil(w:World)(base:Nat):my w base (.slice none 0 0) []:=⟨by simp[fZ],.inl ⟨rfl,rfl⟩⟩
theorem qJ:∀(l:List IV) (j:Nat) (u:Value),(fZ l)[j]?=some u->∃k x,l[k]?=some x/\((j=k*2/\u= .bool x.s)\/(j=k*2+1/\u= .slice x.a x.n x.cap))
 |y::l,0,u,h=>⟨0,y,rfl,.inl ⟨rfl,by simp[fZ]at h;exact h.symm⟩⟩
 |y::l,1,u,h=>⟨0,y,rfl,.inr ⟨rfl,by simp[fZ]at h;exact h.symm⟩⟩
 |y::l,j+2,u,h=>by
  obtain⟨k,x,h1,h2⟩:=qJ l j u h;rcases h2 with⟨h2,h3⟩|⟨h2,h3⟩
  ·exact⟨k+1,x,h1,.inl ⟨by omega,h3⟩⟩
  ·exact⟨k+1,x,h1,.inr ⟨by omega,h3⟩⟩
theorem my.ro{w:World}{base:Nat}{v:Value}{l:List IV}(h:my w base v l){zs:List Int}(hl:l.length=zs.length)(hz:∀(k:Nat) (x:IV) (z:Int),l[k]?=some x->zs[k]?=some z->IZ w x z):
  ∃b g c,v= .slice b zs.length c/\zs.length<=c/\(0<zs.length->b=some ⟨g,0,none⟩/\base<=g/\RO w g zs):=by
 obtain⟨h0,h⟩:=h;rcases h with⟨hv,hn⟩|⟨g,cap,cur,rfl,hb,hg,hle,hm,hsz,htk⟩
 ·exact⟨none,0,0,by rw[hv,show zs.length=0 by omega],by omega,fun h1=>by omega⟩
 ·refine⟨_,g,cap,by rw[hl],by omega,fun _=>⟨rfl,hb,l,(Array.getElem?_eq_some_iff.1 hg).1,hl,fun k x hk=>?_,fun k x hk=>?_,fun k=>?_,hz⟩⟩
  ·have h1:=(ua l k x hk).1;have hk2:=(List.getElem?_eq_some_iff.1 hk).1;rw[cell_of_row w g _ cur _ (0,0) hg];rw[<-htk,List.getElem?_take_of_lt (by omega),Array.getElem?_toList]at h1;exact h1
  ·have h1:=(ua l k x hk).2;have hk2:=(List.getElem?_eq_some_iff.1 hk).1;rw[cell_of_row w g _ cur _ (0,0) hg];rw[<-htk,List.getElem?_take_of_lt (by omega),Array.getElem?_toList]at h1;exact h1
  ·simp only[World.frozen?];rw[hg];simp
def CI(w:World)(g o:Nat)(l:List IV):Prop:=∀(k:Nat) (x:IV),l[k]?=some x->w.cell? ⟨g,o+k*2,none⟩=some (.bool x.s)/\w.cell? ⟨g,o+k*2+1,none⟩=some (.slice x.a x.n x.cap)
theorem RA.ci{w:World}{g o:Nat}{zs:List Int}(h:RA w g o zs):∃l:List IV,l.length=zs.length/\CI w g o l/\∀(k:Nat) (x:IV) (z:Int),l[k]?=some x->zs[k]?=some z->IZ w x z:=by
 have key:∀k:Nat,∃x:IV,∀z,zs[k]?=some z->w.cell? ⟨g,o+k*2,none⟩=some (.bool x.s)/\w.cell? ⟨g,o+k*2+1,none⟩=some (.slice x.a x.n x.cap)/\IZ w x z:=fun k=>by
  cases e:zs[k]? with
  |none=>exact⟨⟨false,none,0,0⟩,fun z h=>by cases h⟩
  |some z=>
   obtain⟨x,hx⟩:=h.c k z e;exact⟨x,fun z' hz'=>by cases hz';exact hx⟩
 obtain⟨f,hf⟩:=Classical.axiomOfChoice key;have hget:∀(k:Nat) (x:IV),((List.range zs.length).map f)[k]?=some x->k<zs.length/\x=f k:=fun k x hx=>by
  rw[List.getElem?_map]at hx;by_cases hk:k<zs.length
  ·rw[List.getElem?_range hk]at hx;simp at hx;exact⟨hk,hx.symm⟩
  ·rw[List.getElem?_eq_none bG]at hx;cases hx
 refine⟨(List.range zs.length).map f,by simp,fun k x hx=>?_,fun k x z hx hz=>?_⟩
 ·obtain⟨hk,rfl⟩:=hget k x hx;have:=hf k _ (getD_some hk);exact⟨this.1,this.2.1⟩
 ·obtain⟨hk,rfl⟩:=hget k x hx;exact(hf k z hz).2.2
theorem CI.below{B:Nat}{w w':World}{g o:Nat}{l:List IV}(h:CI w g o l)(hb:Below B w w')(hg:g<B):CI w' g o l:=fun k x hx=>
 ⟨(hb.cell (p:=⟨g,_,none⟩) hg).trans (h k x hx).1,(hb.cell (p:=⟨g,_,none⟩) hg).trans (h k x hx).2⟩
theorem ql{w0 w:World}{base:Nat}{v:Value}{l:List IV}(hown:my w base v l)(hB:Below base w0 w)(hbase:base<=w.heap.size)(t tx:TypeId)(ht:Tryz.prog.underlying t=some (.slice 62))(hk:Tryz.prog.underlying tx=some (.slice 62))
  (l2:List IV) (g o c n:Nat) (hn:n=l2.length) (h2:CI w g o l2) (hlen:l.length+l2.length<=4000000000)
  {ops:Array Oper} {rest:List Oper} {oo:Oper} {a:Act} {Q:Exit->Act->World->Prop} (hgd:oo.guard=none) (s y:Operand)
  (ho:oo.op= .call {callee:=.builtin .append,args:=#[s,y],argTypes:=#[t,tx]})
  (hs:a.eval s=v) (hx:a.eval y= .slice (some ⟨g,o,none⟩) n c)
  (h:∀v' w',my w' base v' (l++l2)->Below base w0 w'->base<=w'.heap.size->w.heap.size<=w'.heap.size->(∀b,b<w.heap.size->some b≠v.ownBlock->w'.heap[b]?=w.heap[b]?)->(v'= .slice none 0 0↔v= .slice none 0 0/\l2.length=0)->wpList Tryz.prog ops Q rest (a.put oo.dst v') w'):wpList Tryz.prog ops Q (oo::rest) a w:=by
 obtain⟨i0,hi0,hz0,hz1,hz2⟩:=eu qN;subst hn;refine kI hgd s y t tx ho base 62 62 i0 _ 2 32 ht hk hi0 hz0 hz1 hz2 rfl (by omega) v l.length (fZ l) hs hown
  ⟨g,o,none⟩ l2.length c (fZ l2) hx (by rw[xf]) ?_ ?_ qp (by omega) hbase ?_
 ·intro j u hu;have hj:(⟨g,o,none⟩:Addr).add j=⟨g,o+j,none⟩:=by unfold Addr.add;split<;>simp_all
  rw[hj];obtain⟨k,x,h3,⟨rfl,rfl⟩|⟨rfl,rfl⟩⟩:=qJ l2 j u hu
  ·exact(h2 k x h3).1
  ·exact(h2 k x h3).2
 ·intro u hu;obtain⟨j,hj⟩:=List.getElem?_of_mem hu;obtain⟨k,x,h3,⟨rfl,rfl⟩|⟨rfl,rfl⟩⟩:=qJ l2 j u hj<;>rfl
 ·intro v' w' h1 h3 hnn;have hsz:=h3.size;refine h v' w' (by unfold my;rw[ye,List.length_append];exact h1) (hB.grown h3 hbase ?_) (by omega) hsz (fun b hb hne=>h3.block b hb hne) hnn;intro k hk;exact(hown.lt k hk).1
def RV(w:World)(v:Value)(n:Nat)(zs:List Int):Prop:=∃b c,v= .slice b n c/\n<=c/\zs.length=n/\AD b/\(n=0\/∃g o,b=some ⟨g,o,none⟩/\RA w g o zs)
theorem RV.below{B:Nat}{w w':World}{v:Value}{n:Nat}{zs:List Int}(h:RV w v n zs)(hb:Below B w w')(hB:w.heap.size<=B):RV w' v n zs:=by
 obtain⟨b,c,h1,h2,h3,hA,h4⟩:=h;refine⟨b,c,h1,h2,h3,hA,?_⟩;rcases h4 with h4|⟨g,o,e,h5⟩
 ·exact .inl h4
 ·exact .inr ⟨g,o,e,h5.below hb hB⟩
def RPost(w:World)(n:Nat)(zs:List Int)(e:Ending)(w':World):Prop:=(∃b g c,e= .returned (.slice b n c)/\n<=c/\AD b/\(0<n->b=some ⟨g,0,none⟩/\w.heap.size<=g/\RO w' g zs))/\Below w.heap.size w w'
theorem run_eql_slice_nil{P:Program}(w:World)(t e:TypeId)(a:Option Addr)(l c:Nat)(h:P.underlying t=some (.slice e)):(binOp .eql t (.slice a l c) (.slice none 0 0)).run P w= .ok (.bool a.isNone) w:=by
 simp only[binOp];simp[run_equal_slice_nil w t e a l c h]
@[go_sem] theorem eql_row (a : Option Addr) (l c : Nat) (w : World) : (binOp .eql 147 (.slice a l c) (.slice none 0 0)).run Tryz.prog w = .ok (.bool a.isNone) w:=run_eql_slice_nil w _ _ a l c Tryz.underlying147
end
section
open Go.RowKit Go.BigFrame
attribute [local go_sem ↓] Go.wp_at_zero Go.wp_at_succ
theorem wpList_append_run{P:Program}{w w':World}{ops:Array Oper}{rest:List Oper}{o:Oper}{a:Act}{Q:Exit->Act->World->Prop}(hgd:o.guard=none)(s x:Operand)(t tx:TypeId)
  (ho:o.op= .call {callee:=.builtin .append,args:=#[s,x],argTypes:=#[t,tx]}) (v':Value) (hr:(Builtin.append_ #[t,tx] o.type #[a.eval s,a.eval x]).run P w= .ok v' w')
  (h:wpList P ops Q rest (a.put o.dst v') w'):wpList P ops Q (o::rest) a w:=by
 refine wpList_plain hgd fun K hK=>?_;unfold Oper.wp execOp;simp only[ho,resolve,invoke,builtin,Sem.run_bind,Sem.run_pure,Result.andThen_ok,List.map_toArray,List.map_cons,List.map_nil,hr];exact hK _ _ h
set_option maxRecDepth 10000 in
set_option maxHeartbeats 4000000 in
theorem Dk(n:Nat)(hn:n<=1000000)(w:World):
  Calls Tryz.prog 184 #[.slice none 0 0, .int .i64 ((n:Int))] w fun e w'=>(∃v,e= .returned v/\my w' w.heap.size v [])/\Below w.heap.size w w':=by
 by_cases h0:n=0
 ·subst h0
  go_enter Tryz.func184,Tryz.ntmps184
  go_wp2_with fail
  go_ret
  exact⟨⟨_,rfl,my.nil _ _⟩,by exact bel⟩
 ·have hp:(0:Int)<(n:Int):=by omega
  have hneg:¬(n:Int)<0:=by omega
  obtain⟨i0,hi0,hz0,hz1,hz2⟩:=eu qN
  have hrz : ∀ (ty : TypeId) (W : World), (Builtin.append_ #[147, 3] ty #[.slice none 0 0, .int .i64 (n : Int)]).run Tryz.prog W =
      .ok (.slice (some ⟨W.heap.size,0,none⟩) n (grownCap W n 0 62)) (W.drew.alloc (.cells (Builtin.zeroCells (Value.agg #[.bool false, .slice none 0 0]).cells n++Builtin.zeroCells (Value.agg #[.bool false, .slice none 0 0]).cells (grownCap W n 0 62-n)) 62)):=fun ty W=>by
   have h:=Lib.run_append_grow_zeros W 147 3 ty 62 i0 _ .i64 .i64 Tryz.underlying147 Tryz.underlying3 hi0 hz0 none 0 0 [] (run_firstCells_none W.drew i0.size 0 0 0) n (by omega) (by omega) (by omega) (by omega) (by rw[hz2];omega) (by rw[hz2];exact growslice_fits (by omega) (by omega));simpa using h
  have hG:∀W,n<=grownCap W n 0 62/\grownCap W n 0 62<=9223372036854775807:=fun W=>by
   refine⟨grownCap_ge W _ _ _,?_⟩;have:=grownCap_le_maxLen W n 0 62 (by unfold maxLen;omega);unfold maxLen at this;omega
  go_enter Tryz.func184,Tryz.ntmps184
  have HRZ:Hid _:=hrz;clear hrz;obtain⟨g1,g2⟩:=hG w
  go_wp2_with (at_builtin;go_must (refine wpList_append_run rfl (.tmp 20) (.tmp 21) 147 3 rfl _ (HRZ.out _ _) ?_))
  go_ret
  refine⟨⟨_,rfl,by simp[fZ], .inr ⟨w.heap.size,grownCap w n 0 62,_,rfl,Nat.le_refl _,heap_alloc_new w _,Nat.zero_le _,by unfold maxLen;exact g2,?_,by simp[fZ]⟩⟩,by exact bel⟩;rw[Array.size_append,size_zeroCells,size_zeroCells];show n*2+(grownCap w n 0 62-n)*2=_;omega
theorem RV.get{w:World}{v:Value}{n:Nat}{zs:List Int}(h:RV w v n zs):∃g o c l,v= .slice (some ⟨g,o,none⟩) n c/\n<=c/\zs.length=n/\l.length=n/\(∀W,Below w.heap.size w W->CI W g o l)/\∀W,Below w.heap.size w W->∀(k:Nat) (x:IV) (z:Int),l[k]?=some x->zs[k]?=some z->IZ W x z:=by
 obtain⟨b,c,h1,h2,h3,⟨g,o,rfl⟩,h4⟩:=h;rcases h4 with h4|⟨g',o',e,h5⟩
 ·exact⟨g,o,c,[],h1,h2,h3,by rw[h4];rfl,fun W _ k x hx=>by(simp at hx),fun W _ k x z hx=>by(simp at hx)⟩
 ·cases e;obtain⟨l,h6,h7,h8⟩:=h5.ci;exact⟨g,o,c,l,h1,h2,h3,h6.trans h3,fun W hW=>h7.below hW h5.lt,fun W hW k x z hx hz=>(h8 k x z hx hz).below hW (Nat.le_refl _)⟩
theorem C5{W:World}{l1 l2:List IV}{z1 z2:List Int}(hl:l1.length=z1.length)(h1:∀(k:Nat) (x:IV) (z:Int),l1[k]?=some x->z1[k]?=some z->IZ W x z)(h2:∀(k:Nat) (x:IV) (z:Int),l2[k]?=some x->z2[k]?=some z->IZ W x z):
  ∀(k:Nat) (x:IV) (z:Int),(l1++l2)[k]?=some x->(z1++z2)[k]?=some z->IZ W x z:=fun k x z hx hz=>by
 by_cases hk:k<l1.length
 ·rw[List.getElem?_append_left hk]at hx;rw[List.getElem?_append_left (by omega)]at hz;exact h1 k x z hx hz
 ·rw[List.getElem?_append_right (by omega)]at hx;rw[List.getElem?_append_right (by omega)]at hz;rw[hl]at hx;exact h2 _ x z hx hz
set_option maxRecDepth 10000 in
set_option maxHeartbeats 8000000 in
theorem yh(gb n1 n2:Nat)(v1 v2:Value)(z1 z2:List Int)(h1:n1<=100000)(h2:n2<=100000)(hpos:0<n1+n2)(w:World)(c0:w.cell? ⟨gb,0,none⟩=some v1)(c1:w.cell? ⟨gb,1,none⟩=some v2)(r1:RV w v1 n1 z1)(r2:RV w v2 n2 z2):
  Calls Tryz.prog 144 #[.slice (some ⟨gb,0,none⟩) 2 2] w (RPost w (n1+n2) (z1++z2)):=by
 obtain⟨g1,o1,k1,l1,rfl,hk1,hz1,hl1,h3,h5⟩:=r1.get;obtain⟨g2,o2,k2,l2,rfl,hk2,hz2,hl2,h4,h6⟩:=r2.get;have hgb:gb<w.heap.size:=World.block_lt_of_cell? w _ c0;have GR:Hid (∀W,Calls Tryz.prog 184 #[.slice none 0 0,.int .i64 ((n1:Int)+(n2:Int))] W fun e w'=>(∃v,e= .returned v/\my w' W.heap.size v [])/\Below W.heap.size W w'):=fun W=>by
  have:=Dk (n1+n2) (by omega) W;rwa[Int.natCast_add]at this
 have HZ:=Lib.hid (And.intro hz1 hz2);have HL:=Lib.hid (And.intro hl1 hl2);have H3:=Lib.hid (And.intro h3 h4);have H4:=Lib.hid (And.intro h5 h6);clear r1 r2 hz1 hz2 hl1 hl2 h3 h4 h5 h6
 go_enter Tryz.func144,Tryz.ntmps144
 go_wp2_with fail
 refine wp_loop_rounds 3 ?_;repeat any_goals(rw[rounds_succ];go_wp2_with (first|(go_at_call 184;(with_reducible refine(GR.out _).mono ?_);rintro e w4 ⟨⟨v4,rfl,ho4⟩,hb4⟩;have HO4:=Lib.hid ho4;clear ho4;have d0:=(hb4.cell (p:=⟨gb,0,none⟩) hgb).trans c0;have d1:=(hb4.cell (p:=⟨gb,1,none⟩) hgb).trans c1;have HB4:=Lib.hid hb4;clear hb4)))
 refine wp_loop_rounds 3 ?_;repeat any_goals(rw[rounds_succ];go_wp2_with (first|(at_builtin;(refine ql (w0:=w) (base:=w.heap.size) (l:=[]) HO4.out HB4.out HB4.out.size 147 147 Tryz.underlying147 Tryz.underlying147 l1 g1 o1 k1 n1 HL.out.1.symm (H3.out.1 _ HB4.out) (by rw[HL.out.1];simp;omega) rfl (.tmp 31) (.tmp 32) rfl (by rfl) rfl ?_);intro v5 w5 hown5 hB5 hz5 hs5 hk5 hn5;have e0:=(hB5.cell (p:=⟨gb,0,none⟩) hgb).trans c0;have e1:=(hB5.cell (p:=⟨gb,1,none⟩) hgb).trans c1;have HO5:=Lib.hid hown5;have HN5:=Lib.hid (And.intro hB5 hz5);clear hown5 hB5 hz5 hs5 hk5 hn5)|(at_builtin;go_must (refine ql (w0:=w) (base:=w.heap.size) (l:=[]++l1) HO5.out HN5.out.1 HN5.out.2 147 147 Tryz.underlying147 Tryz.underlying147 l2 g2 o2 k2 n2 HL.out.2.symm (H3.out.2 _ HN5.out.1) (by rw[List.nil_append,HL.out.1,HL.out.2];omega) rfl (.tmp 31) (.tmp 32) rfl (by rfl) (by rfl) ?_);intro v6 w6 hown6 hB6 hz6 hs6 hk6 hn6;have HO6:=Lib.hid hown6;have HB6:=Lib.hid hB6;have HN6:=Lib.hid hn6;clear hown6 hB6 hz6 hs6 hk6 hn6)))
 go_ret
 rw[List.nil_append]at HO6;have hl:(l1++l2).length=(z1++z2).length:=by rw[List.length_append,List.length_append,HL.out.1,HL.out.2,HZ.out.1,HZ.out.2]
 have hzl:(z1++z2).length=n1+n2:=by rw[List.length_append,HZ.out.1,HZ.out.2]
 obtain⟨b,g',cc,e1,e2,e3⟩:=HO6.out.ro (zs:=z1++z2) hl (C5 (HL.out.1.trans HZ.out.1.symm) (H4.out.1 _ HB6.out) (H4.out.2 _ HB6.out));rw[hzl]at e1 e2 e3;obtain⟨rfl,_⟩:=e3 hpos;exact⟨⟨_,g',cc,by rw[<-e1];rfl,e2,AD.some _ _,e3⟩,HB6.out⟩
end
section
namespace Mx
def Bd(X:Nat)(M:Mat):Prop:=∀i j,(at' M i j).natAbs<=X
theorem Bd.mono{X Y:Nat}{M:Mat}(h:Bd X M)(hxy:X<=Y):Bd Y M:=fun i j=>Nat.le_trans (h i j) hxy
theorem B7{X:Nat}{M:Mat}(h:Bd X M){i j:Nat}(hi:i<M.length)(hj:j<M.length):Bd X (swp M i j):=fun k l=>by
 rw[bR hi hj];split
 ·exact h _ _
 ·split<;>exact h _ _
theorem xi{n X Q:Nat}{r c s:Nat}{M:Mat}(h:Rc n M)(hr:r<M.length)(hb:Bd X M)(hq:∀i,s<=i->i<M.length->(at' M i c/at' M r c).natAbs<=Q){k:Nat}(hk:s+k<=M.length):Bd (X*(Q+1)) (aD r c s M k):=fun i j=>by
 rw[jt h hr hk];have h1:=hb i j;have h2:X<=X*(Q+1):=Nat.le_mul_of_pos_right X (Nat.succ_pos Q);split
 ·rename_i h3;have h4:=hq i h3.1 (by omega);have h5:=hb r j;have h6:(at' M i c/at' M r c*at' M r j).natAbs<=Q*X:=by
   rw[Int.natAbs_mul];exact Nat.mul_le_mul h4 h5
  rw[Nat.mul_comm]at h6;rw[Nat.mul_add,Nat.mul_one];omega
 ·omega
theorem tJ{X r c:Nat}{M:Mat}(h:Bd X M)(hr:r<M.length):Bd X (bN r c M):=fun i j=>by
 unfold bN;split
 ·rw[jM _ _ _ _ _ hr];split
  ·rw[fq,Int.natAbs_neg];exact h r j
  ·exact h i j
 ·exact h i j
theorem jK(x p:Int):(x/p).natAbs<=x.natAbs:=Int.natAbs_ediv_le_natAbs x p
theorem div_pos{x p:Int}(hx:0<=x)(hp:0<p):(x/p).natAbs*p.natAbs<=x.natAbs:=by
 have h1:=Int.ediv_nonneg hx (Int.le_of_lt hp);have h2:=Int.ediv_mul_le x (show p≠0 by omega);have h3:((x/p).natAbs:Int)*(p.natAbs:Int)=x/p*p:=by
  rw[Int.natAbs_of_nonneg h1,Int.natAbs_of_nonneg (Int.le_of_lt hp)]
 omega
theorem I7{x p:Int}(hp:0<p):(x/p).natAbs*p.natAbs<=x.natAbs+p.natAbs:=by
 by_cases hx:0<=x
 ·have:=div_pos hx hp;omega
 ·have h1:=ke (x:=x) (p:=p) (by omega);have h2:x/p<=0:=by
   apply Int.le_of_not_gt;intro h;have:=Int.mul_le_mul_of_nonneg_right (show 1<=x/p by omega) (Int.le_of_lt hp);omega
  have h3:((x/p).natAbs:Int)*(p.natAbs:Int)= -(x/p*p):=by
   rw[show((x/p).natAbs:Int)= -(x/p) by omega,Int.natAbs_of_nonneg (Int.le_of_lt hp),Int.neg_mul]
  omega
theorem iR{r c s k:Nat}{M:Mat}(hr:¬(s<=r/\r<s+k))(hk:s+k<=M.length):aD r c s M (k+1)=(aD r c s M k).set (s+k) (cq (rw (aD r c s M k) r) c (rw (aD r c s M k) (s+k))):=by
 rw[cM _ _ _ _ _ hk,cM _ _ _ _ _ hk,if_neg hr,if_neg (by omega)];rfl
theorem JN(M:Mat)(i:Nat):M.set i (rw M i)=M:=by
 apply List.ext_getElem?;intro k;by_cases e:i=k
 ·subst e;by_cases h:i<M.length
  ·rw[List.getElem?_set_self h];unfold rw;rw[List.getD_eq_getElem?_getD,List.getElem?_eq_getElem h];rfl
  ·rw[List.getElem?_eq_none bG,List.getElem?_eq_none (by omega)]
 ·rw[List.getElem?_set_ne e]
theorem xh{p a:List Int}{c:Nat}(h:a.getD c 0=0)(hl:a.length=p.length):cq p c a=a:=
 mG (jA _ _ _ hl) fun j=>by rw[sE _ _ _ _ hl,h,Int.zero_ediv,Int.zero_mul,Int.sub_zero]
theorem Ba{n r c s k:Nat}{M:Mat}(h:Rc n M)(hrl:r<M.length)(hr:¬(s<=r/\r<s+k))(hk:s+k<M.length)(h0:at' (aD r c s M k) (s+k) c=0):aD r c s M (k+1)=aD r c s M k:=by
 have hl:=cC r c s M k;have hrc:=js (s:=s) (c:=c) h hrl k (by omega);rw[iR hr (by omega),xh h0 (by rw[hrc.rw (by omega),hrc.rw (by omega)]),JN]
theorem wb(c r:Nat)(M:Mat):∀k,(scan c r M k).2<=k
 |0=>Nat.le_refl _
 |k+1=>by
  have:=wb c r M k;unfold scan;simp only[];split
  ·omega
  ·exact Nat.succ_le_succ this
theorem e11(e c:Nat):11*(e*11^c)=e*11^(c+1):=by rw[Nat.pow_succ,Nat.mul_comm (11^c) 11,Nat.mul_left_comm]
theorem Cn{c r i:Nat}{M:Mat}(h:r<=i)(h0:at' M i c=0):scan c r M (i+1-r)=scan c r M (i-r):=by
 rw[show i+1-r=(i-r)+1 by omega]
 conv=>lhs;unfold scan
 simp only[];rw[show r+(i-r)=i by omega,if_pos h0]
theorem Co{c r i:Nat}{M:Mat}(h:r<=i)(h0:at' M i c≠0)(hp:(scan c r M (i-r)).1=none):scan c r M (i+1-r)=(some i,(scan c r M (i-r)).2+1):=by
 rw[show i+1-r=(i-r)+1 by omega]
 conv=>lhs;unfold scan
 simp only[];rw[show r+(i-r)=i by omega,if_neg h0,hp]
theorem yy{c r i t:Nat}{M:Mat}(h:r<=i)(h0:at' M i c≠0)(hp:(scan c r M (i-r)).1=some t)(hl:(at' M i c).natAbs<(at' M t c).natAbs):scan c r M (i+1-r)=(some i,(scan c r M (i-r)).2+1):=by
 rw[show i+1-r=(i-r)+1 by omega]
 conv=>lhs;unfold scan
 simp only[];rw[show r+(i-r)=i by omega,if_neg h0,hp];simp only[];rw[if_pos hl]
theorem yA{c r i t:Nat}{M:Mat}(h:r<=i)(h0:at' M i c≠0)(hp:(scan c r M (i-r)).1=some t)(hl:¬(at' M i c).natAbs<(at' M t c).natAbs):scan c r M (i+1-r)=(some t,(scan c r M (i-r)).2+1):=by
 rw[show i+1-r=(i-r)+1 by omega]
 conv=>lhs;unfold scan
 simp only[];rw[show r+(i-r)=i by omega,if_neg h0,hp];simp only[];rw[if_neg hl]
structure Round(r c t:Nat)(M:Mat):Prop where
 hr:r<M.length
 ht:t<M.length
 rt:r<=t
 ne:at' M t c≠0
 least:∀i,r<=i->i<M.length->at' M i c≠0->(at' M t c).natAbs<=(at' M i c).natAbs
 other:∃i,r<=i/\i<M.length/\i≠t/\at' M i c≠0
 pr:at' (elim r c (swp M r t)) r c=at' M t c
 tto:∀i,r<i->i<M.length->∃j,r<=j/\j<M.length/\j≠t/\at' (swp M r t) i c=at' M j c/\at' (elim r c (swp M r t)) i c=at' M j c%at' M t c
 fro:∀j,r<=j->j<M.length->j≠t->∃i,r<i/\i<M.length/\at' (elim r c (swp M r t)) i c=at' M j c%at' M t c
theorem wj{n r c t:Nat}{M:Mat}(h:Rc n M)(h1:(pick r c M).1=some t)(h2:(pick r c M).2≠1):Round r c t M:=by
 obtain⟨k1,k2,k3,k4,k5,_,k7⟩:=(dz c r M (M.length-r)).yes t h1;have h2':2<=(scan c r M (M.length-r)).2:=by unfold pick at h2;omega
 obtain⟨i,i1,i2,i3,i4⟩:=k7 h2';clear k7;have hr:r<M.length:=by omega
 have ht:t<M.length:=by omega
 have hS:=jG h hr ht;have hSl:(swp M r t).length=M.length:=ck _ _ _;have hSr:at' (swp M r t) r c=at' M t c:=by
  rw[bR hr ht];split
  ·rename_i e;rw[e]
  ·rw[if_pos rfl]
 have hat:∀i,r<i->i<M.length->at' (elim r c (swp M r t)) i c=at' (swp M r t) i c%at' M t c:=fun i h3 h4=>by
  unfold elim;rw[jt hS (by omega) (by omega),if_pos (by omega),hSr,(ke k3).2.2]
 refine⟨hr,ht,k1,k3,fun i h3 h4 h5=>k4 i h3 (by omega) h5,⟨i,i1,by omega,i3,i4⟩,?_,fun i h3 h4=>?_,fun j h3 h4 h5=>?_⟩
 ·unfold elim;rw[jt hS (by omega) (by omega),if_neg (by omega),hSr]
 ·rw[hat i h3 h4,bR hr ht];by_cases e:i=t
  ·rw[if_pos e];exact⟨r,Nat.le_refl _,hr,by omega,rfl,rfl⟩
  ·rw[if_neg e,if_neg (by omega)];exact⟨i,by omega,h4,e,rfl,rfl⟩
 ·by_cases e:j=r
  ·refine⟨t,by omega,ht,?_⟩;rw[hat t (by omega) ht,bR hr ht,if_pos rfl,e]
  ·refine⟨j,by omega,h4,?_⟩;rw[hat j (by omega) h4,bR hr ht,if_neg h5,if_neg e]
def J(K r c:Nat)(M:Mat):Prop:=∃X O i0,Bd X M/\X<=K/\r<=i0/\i0<M.length/\(at' M i0 c).natAbs=O/\(∀i,r<=i->i<M.length->i≠i0->0<=at' M i c/\at' M i c<(O:Int))/\
 ∀t,(pick r c M).1=some t->(pick r c M).2≠1->X*O*O*(at' M t c).natAbs*(if at' M i0 c<0 then 3 else 1)<=K
def Jn(K r c:Nat)(M:Mat):Prop:=(∃X,1<=X/\Bd X M/\6*X^5<=K)\/J K r c M
theorem pow5(X:Nat):X^5=X*X*X*X*X:=by
 simp[Nat.pow_succ]
theorem IM{X:Nat}(h:1<=X):X<=X^5:=by
 have:=Nat.pow_le_pow_right h (show 1<=5 by omega);simpa using this
theorem nI{K r c:Nat}{M:Mat}(h:Jn K r c M):Bd K M:=by
 rcases h with⟨X,h1,h2,h3⟩|⟨X,O,i0,h1,h2,_⟩
 ·exact h2.mono (by have:=IM h1;omega)
 ·exact h1.mono h2
theorem tL{n K r c t X Q:Nat}{M:Mat}(h:Rc n M)(R:Round r c t M)(hb:Bd X M)(hq:∀j,r<=j->j<M.length->j≠t->(at' M j c/at' M t c).natAbs<=Q)(hK:X*(Q+1)<=K)
  (hc:∀t',(pick r c (elim r c (swp M r t))).1=some t'->(pick r c (elim r c (swp M r t))).2≠1->X*(Q+1)*(at' M t c).natAbs*(at' M t c).natAbs*(at' (elim r c (swp M r t)) t' c).natAbs*(if at' M t c<0 then 3 else 1)<=K):
  (∀k,r+1+k<=M.length->Bd K (aD r c (r+1) (swp M r t) k))/\J K r c (elim r c (swp M r t)):=by
 have hSl:(swp M r t).length=M.length:=ck _ _ _;have hr:=R.hr;have hSr:at' (swp M r t) r c=at' M t c:=by
  rw[bR R.hr R.ht];split
  ·rename_i e;rw[e]
  ·rw[if_pos rfl]
 have key:∀k,r+1+k<=M.length->Bd (X*(Q+1)) (aD r c (r+1) (swp M r t) k):=fun k hk=>
  xi (jG h R.hr R.ht) (by omega) (B7 hb R.hr R.ht) (fun i h1 h2=>by
   obtain⟨j,j1,j2,j3,j4,_⟩:=R.tto i (by omega) (by omega);rw[hSr,j4];exact hq j j1 j2 j3) (by omega)
 refine⟨fun k hk=>(key k hk).mono hK,X*(Q+1),(at' M t c).natAbs,r,?_,hK,Nat.le_refl _,?_,by rw[R.pr],fun i h1 h2 h3=>?_,fun t' h1 h2=>?_⟩
 ·unfold elim;exact key _ (by omega)
 ·unfold elim;rw[cC,hSl];exact R.hr
 ·have hl:(elim r c (swp M r t)).length=M.length:=by unfold elim;rw[cC,hSl]
  obtain⟨j,_,_,_,_,j5⟩:=R.tto i (by omega) (by omega);rw[j5];exact⟨Int.emod_nonneg _ R.ne,Int.emod_lt _ R.ne⟩
 ·rw[R.pr];exact hc t' h1 h2
theorem tV{n r c t t':Nat}{M:Mat}(h:Rc n M)(R:Round r c t M)(h1:(pick r c (elim r c (swp M r t))).1=some t')(h2:(pick r c (elim r c (swp M r t))).2≠1):
  (at' (elim r c (swp M r t)) t' c).natAbs<(at' M t c).natAbs/\∀i,r<=i->i<M.length->at' (elim r c (swp M r t)) i c≠0->(at' (elim r c (swp M r t)) t' c).natAbs<=(at' (elim r c (swp M r t)) i c).natAbs:=by
 have hE:=np h (c:=c) R.hr R.ht;have R':=wj hE.1 h1 h2;have hl:=hE.2;have small:∀i,r<i->i<M.length->(at' (elim r c (swp M r t)) i c).natAbs<(at' M t c).natAbs:=fun i h3 h4=>by
  obtain⟨j,_,_,_,_,j5⟩:=R.tto i h3 h4;rw[j5];have:=Int.emod_nonneg (at' M j c) R.ne;have:=Int.emod_lt (at' M j c) R.ne;omega
 refine⟨?_,fun i h3 h4 h5=>R'.least i h3 (by omega) h5⟩;by_cases e:t'=r
 ·obtain⟨i,i1,i2,i3,i4⟩:=R'.other;have h5:=R'.least i i1 i2 i4;have h6:=small i (by omega) (by omega);rw[e,R.pr]at h5⊢;omega
 ·exact small t' (by have:=R'.rt;omega) (by have:=R'.ht;omega)
theorem tX{n K r c t:Nat}{M:Mat}(h:Rc n M)(hj:Jn K r c M)(h1:(pick r c M).1=some t)(h2:(pick r c M).2≠1):
  (∀k,r+1+k<=M.length->Bd K (aD r c (r+1) (swp M r t) k))/\Jn K r c (elim r c (swp M r t)):=by
 have R:=wj h h1 h2;have hP:1<=(at' M t c).natAbs:=by have:=R.ne;omega
 have go:∀{A B:Prop},A/\J K r c (elim r c (swp M r t))->(A->B)->B/\Jn K r c (elim r c (swp M r t)):=fun x f=>⟨f x.1, .inr x.2⟩;rcases hj with⟨X,x1,x2,x3⟩|⟨X,O,i0,x1,x2,x3,x4,x5,x6,x7⟩
 ·refine go (tL (X:=X) (Q:=X) h R x2 (fun j j1 j2 j3=>Nat.le_trans (jK _ _) (x2 j c)) ?_ fun t' k1 k2=>?_) id
  ·have h3:X*(X+1)<=X*(2*X):=Nat.mul_le_mul_left X (by omega);have h4:X*X<=X^5:=by
    have:=Nat.pow_le_pow_right x1 (show 2<=5 by omega);rw[Nat.pow_two]at this;exact this
   have h5:X*(2*X)=2*(X*X):=by rw[Nat.mul_left_comm]
   omega
  ·have h3:=(tV h R k1 k2).1;have h4:=x2 t c;have h5:X*(X+1)<=2*(X*X):=by
    have:X*(X+1)<=X*(2*X):=Nat.mul_le_mul_left X (by omega);rwa[Nat.mul_left_comm]at this
   have h6:X*(X+1)*(at' M t c).natAbs*(at' M t c).natAbs*(at' (elim r c (swp M r t)) t' c).natAbs*(if at' M t c<0 then 3 else 1)<=2*(X*X)*X*X*X*3:=
    Nat.mul_le_mul (Nat.mul_le_mul (Nat.mul_le_mul (Nat.mul_le_mul h5 h4) h4) (by omega)) (by split<;>omega)
   have h7:2*(X*X)*X*X*X*3=6*X^5:=by
    rw[pow5];simp only[Nat.mul_assoc,Nat.mul_comm]
   omega
 ·have ht0 : t ≠ i0 := fun e => by
   obtain⟨i,i1,i2,i3,i4⟩:=R.other;have h3:=R.least i i1 i2 i4;have h4:=x6 i i1 i2 (by omega);rw[e]at h3;omega
  have h3:=x6 t R.rt R.ht ht0;have hk:=x7 t h1 h2;generalize hpe:at' M t c=p at*;generalize hae:at' M i0 c=a at*;have hp0:0<p:=by have:=R.ne;rw[hpe]at this;omega
  obtain⟨P,rfl⟩:∃P:Nat,p=P:=⟨p.natAbs,by omega⟩;rw[Int.natAbs_natCast]at*;have hPO:P<O:=by omega
  have hO2:O<=O*O:=Nat.le_mul_of_pos_right O (by omega);have hdiv:O/P*P<=O:=Nat.div_mul_le_self O P;have hdv:O/P<=O:=Nat.div_le_self O P;have hneg:¬(P:Int)<0:=by omega
  by_cases hs:a<0
  ·rw[if_pos hs]at hk;have e3:X*O*O*P*3=3*(X*O*O*P):=Nat.mul_comm _ _;refine go (tL (X:=X) (Q:=O/P+1) h R x1 (fun j j1 j2 j3=>?_) ?_ fun t' k1 k2=>?_) id
   ·rw[hpe];have h4:(at' M j c/(P:Int)).natAbs*P<=O+P:=by
     have h5:=I7 (x:=at' M j c) (p:=(P:Int)) hp0;rw[Int.natAbs_natCast]at h5;by_cases e:j=i0
     ·rw[e,hae]at h5⊢;omega
     ·have:=x6 j j1 j2 e;omega
    have h5:(at' M j c/(P:Int)).natAbs<=(O+P)/P:=(Nat.le_div_iff_mul_le (by omega)).2 h4;rwa[Nat.add_div_right _ (by omega)]at h5
   ·have h4 : X * (O / P + 1 + 1) <= X * (3 * (O * O * P)) := Nat.mul_le_mul_left X (by
     have:O*O<=O*O*P:=Nat.le_mul_of_pos_right _ (by omega);omega)
    have h5:X*(3*(O*O*P))=3*(X*O*O*P):=by
     simp only[Nat.mul_assoc,Nat.mul_comm,Nat.mul_left_comm]
    omega
   ·have h4:=(tV h R k1 k2).1;rw[hpe]at h4⊢;rw[Int.natAbs_natCast]at h4⊢;rw[if_neg hneg,Nat.mul_one];generalize(at' (elim r c (swp M r t)) t' c).natAbs=P' at h4⊢;have h5:(O/P+1+1)*P<=3*O:=by rw[Nat.add_mul,Nat.add_mul];omega
    have h6:X*((O/P+1+1)*P)*P*P'<=X*(3*O)*P*O:=Nat.mul_le_mul (Nat.mul_le_mul (Nat.mul_le_mul_left X h5) (Nat.le_refl _)) (by omega);have h7:X*(3*O)*P*O=3*(X*O*O*P):=by
     simp only[Nat.mul_assoc,Nat.mul_comm,Nat.mul_left_comm]
    have h8:X*(O/P+1+1)*P*P*P'=X*((O/P+1+1)*P)*P*P':=by rw[Nat.mul_assoc X]
    omega
  ·rw[if_neg hs,Nat.mul_one]at hk;have haO:a=(O:Int):=by omega
   refine go (tL (X:=X) (Q:=O/P) h R x1 (fun j j1 j2 j3=>?_) ?_ fun t' k1 k2=>?_) id
   ·rw[hpe];have h4:(at' M j c/(P:Int)).natAbs*P<=O:=by
     by_cases e:j=i0
     ·rw[e,hae,haO];have h5:=div_pos (x:=(O:Int)) (p:=(P:Int)) (by omega) hp0;rw[Int.natAbs_natCast,Int.natAbs_natCast]at h5;exact h5
     ·have h6:=x6 j j1 j2 e;have h5:=div_pos (x:=at' M j c) (p:=(P:Int)) h6.1 hp0;rw[Int.natAbs_natCast]at h5;omega
    exact(Nat.le_div_iff_mul_le (by omega)).2 h4
   ·have h4 : X * (O / P + 1) <= X * (O * O * P) := Nat.mul_le_mul_left X (by
     have h6:O*O<=O*O*P:=Nat.le_mul_of_pos_right _ (by omega);have h7:2*O<=O*O:=Nat.mul_le_mul_right O (by omega);omega)
    have h5:X*(O*O*P)=X*O*O*P:=by simp only[Nat.mul_assoc]
    omega
   ·obtain⟨h4,h5⟩:=tV h R k1 k2;obtain⟨m0,m1,m2,m3⟩:=R.fro i0 x3 x4 (Ne.symm ht0);have h6:=h5 m0 (by omega) m2;rw[m3,hae,haO]at h6;rw[hpe]at h4 h6⊢;rw[Int.natAbs_natCast]at h4⊢;rw[if_neg hneg,Nat.mul_one];generalize(at' (elim r c (swp M r t)) t' c).natAbs=P' at h4 h6⊢;have h7:2*P'<=O:=by
     have e1:((O:Int)%(P:Int))=((O%P:Nat):Int):=by simp
     rw[e1,Int.natAbs_natCast]at h6;have e2:=Nat.div_add_mod O P;have e3:1<=O/P:=(Nat.le_div_iff_mul_le (by omega)).2 (by omega);have e4:=Nat.mod_lt O (show 0<P by omega);by_cases h0:O%P=0
     ·have e5 : 2 <= O / P := by
       apply Nat.le_of_not_lt;intro hlt;have:O/P=1:=by omega
       rw[this,h0]at e2;omega
      have e6:=Nat.mul_le_mul_left P e5;omega
     ·have e5:=h6 (by omega);have e6:=Nat.mul_le_mul_left P e3;omega
    have h8:(O/P+1)*P<=2*O:=by rw[Nat.add_mul];omega
    have h9:X*((O/P+1)*P)*P*P'<=X*(2*O)*P*P':=Nat.mul_le_mul (Nat.mul_le_mul (Nat.mul_le_mul_left X h8) (Nat.le_refl _)) (Nat.le_refl _);have h10:X*(2*O)*P*P'=X*O*P*(2*P'):=by simp only[Nat.mul_assoc,Nat.mul_comm,Nat.mul_left_comm]
    have h11:X*O*P*(2*P')<=X*O*P*O:=Nat.mul_le_mul_left _ h7;have h12:X*O*P*O=X*O*O*P:=Nat.mul_right_comm _ _ _;have h13:X*(O/P+1)*P*P*P'=X*((O/P+1)*P)*P*P':=by rw[Nat.mul_assoc X]
    omega
theorem ue{n K r c:Nat}{M:Mat}(h:Rc n M)(hj:Jn K r c M):Bd K (cv r c M):=by
 refine qY (n:=n) (r:=r) (c:=c) (fun N=>Jn K r c N) (fun N hN hq t ht h2=>(tX hN hq ht h2).2) (fun N=>Bd K N) (fun N _ hq _=>nI hq) (fun N hN hq t ht h2=>?_) _ M rfl h hj;obtain⟨k1,k2,_⟩:=(dz c r N (N.length-r)).yes t ht;exact B7 (nI hq) (by omega) (by omega)
theorem xI{n K r c:Nat}{M:Mat}(h:Rc n M)(hr:r<M.length)(hb:Bd K M){k:Nat}(hk:k<=M.length):Bd (K*(K+1)) (aD r c 0 M k):=
 xi h hr hb (fun i _ _=>Nat.le_trans (jK _ _) (hb i c)) (by omega)
def nb(X:Nat):Nat:=6*X^5*(6*X^5+1)
theorem AV(X:Nat):6*X^5<=nb X:=Nat.le_mul_of_pos_right _ (by omega)
theorem sb{e:Nat}(h:6<=e):nb (2^e)<=2^(11*e):=by
 have h1:6*(2^e)^5+1<=2^(5*e+3):=by
  rw[<-Nat.pow_mul,Nat.pow_add,Nat.mul_comm e 5];have:=Nat.pow_pos (a:=2) (n:=5*e) (by omega);omega
 have h2:nb (2^e)<=2^(5*e+3)*2^(5*e+3):=Nat.mul_le_mul (by omega) h1;rw[<-Nat.pow_add]at h2;exact Nat.le_trans h2 (Nat.pow_le_pow_right (by omega) (by omega))
theorem yt{n X r c:Nat}{M:Mat}(h:Rc n M)(hr:r<M.length)(h1:1<=X)(hb:Bd X M):Bd (nb X) (step r c M).2:=by
 have hc:=ue h (K:=6*X^5) (r:=r) (c:=c) (.inl ⟨X,h1,hb,Nat.le_refl _⟩);have hre:=(nR (r:=r) (c:=c) h).1.re;unfold step;simp only[];split
 ·exact hc.mono (AV X)
 ·have hl:r<(cv r c M).length:=by rw[hre.len];exact hr
  have h2:=pF (c:=c) hl;exact xI (h2.rc (hre.rc h)) (by rw[h2.len];exact hl) (tJ hc hl) (by rw[h2.len];omega)
theorem wm{k c r:Nat}{M:Mat}(h:r<M.length):red (k+1) c (r,M)=red k (c+1) (step r c M):=by
 conv=>lhs;unfold red
 rw[if_pos h]
theorem qD{k c r:Nat}{M:Mat}(h:¬r<M.length):red k c (r,M)=(r,M):=by
 cases k with
 |zero=>rfl
 |succ k=>unfold red;rw[if_neg h]
end Mx
end
section
open Go.RowKit Go.BigFrame
attribute [local go_sem ↓] Go.wp_at_zero Go.wp_at_succ
theorem cn{z:Int}{e:Nat}(h:z.natAbs<=2^e)(he:e<=6000000000000):Fit z:=by
 refine⟨e/32+1,by omega,Nat.lt_of_le_of_lt h ?_⟩;rw[show B32=2^32 from rfl,<-Nat.pow_mul];exact Nat.pow_lt_pow_right (by omega) (by omega)
def xg:Option Nat->Int
 |none=>-1
 |some t=>t
structure R1(w wr:World)(B gm L n m:Nat)(gs cs:Nat->Nat)(M:Mx.Mat):Prop where
 mo:MO wr B gm L gs cs n M
 bl:Below B w wr
 len:M.length=m
theorem R1.ext{w wr wx:World}{B gm L n m:Nat}{gs cs:Nat->Nat}{M:Mx.Mat}(h:R1 w wr B gm L n m gs cs M)(hB:B<=wr.heap.size)(k:Below wr.heap.size wr wx):R1 w wx B gm L n m gs cs M:=
 ⟨h.mo.below k (Nat.le_refl _),h.bl.trans (k.mono hB),h.len⟩
theorem MO.elem{w:World}{B gm L:Nat}{gs cs:Nat->Nat}{n:Nat}{M:Mx.Mat}(h:MO w B gm L gs cs n M){i j:Nat}(hi:i<M.length)(hj:j<n):
  ∃x:IV,w.cell? ⟨gm,i,none⟩=some (.slice (some ⟨gs i,0,none⟩) n (cs i))/\w.cell? ⟨gs i,j*2,none⟩=some (.bool x.s)/\w.cell? ⟨gs i,j*2+1,none⟩=some (.slice x.a x.n x.cap)/\IZ w x (Mx.at' M i j)/\gs i<w.heap.size:=by
 obtain⟨h1,h2,h3,h4,h5⟩:=h.hc i hi;obtain⟨x,x1,x2,x3,_⟩:=h5.at (k:=j) (z:=Mx.at' M i j) (getD_some (by rw[h.rc.rw hi];exact hj));exact⟨x,h1,x1,x2,x3,h5.lt⟩
theorem R1.swp{w wr:World}{B gm L n m:Nat}{gs cs:Nat->Nat}{M:Mx.Mat}(h:R1 w wr B gm L n m gs cs M){i j:Nat}(hi:i<m)(hj:j<m):
  R1 w ((wr.setCell ⟨gm,i,none⟩ (.slice (some ⟨gs j,0,none⟩) n (cs j))).setCell ⟨gm,j,none⟩ (.slice (some ⟨gs i,0,none⟩) n (cs i))).drew B gm L n m (ix gs i j) (ix cs i j) (Mx.swp M i j):=
 ⟨(h.mo.swp (by rw[h.len];exact hi) (by rw[h.len];exact hj)).below (Below.refl _ _).drew (Nat.le_refl _),((h.bl.setCell h.mo.b _).setCell h.mo.b _).drew,by rw[Mx.ck];exact h.len⟩
theorem oP{l:List Int}{j:Nat}{x:Int}(h:l[j]?=some x):l.getD j 0=x:=by rw[List.getD_eq_getElem?_getD,h];rfl
theorem qS{E i r:Nat}{N:Mx.Mat}(hb:Mx.Bd (2^E) N)(hE:2*E<=6000000000000)(kz:Int)(hk:kz.natAbs<=2^E)(j:Nat)(x y:Int)(hx:(Mx.rw N i)[j]?=some x)(hy:(Mx.rw N r)[j]?=some y):Fit x/\Fit y/\Fit (kz*y):=by
 have h1:=hb i j;have h2:=hb r j;unfold Mx.at' at h1 h2;rw[oP hx]at h1;rw[oP hy]at h2;refine⟨cn h1 (by omega),cn h2 (by omega),cn (e:=2*E) ?_ hE⟩;rw[Int.natAbs_mul,Nat.two_mul,Nat.pow_add];exact Nat.mul_le_mul hk h2
theorem R1.set{w wr wx:World}{B gm L n m:Nat}{gs cs:Nat->Nat}{M:Mx.Mat}(h:R1 w wr B gm L n m gs cs M){i:Nat}(hi:i<m){zs:List Int}(hz:zs.length=n)(k:Chg (gs i) wr wx)(hr:RO wx (gs i) zs):R1 w wx B gm L n m gs cs (M.set i zs):=
 have hi2:i<M.length:=by rw[h.len];exact hi
 ⟨h.mo.setRow hi2 hz k hr,k.below h.bl (h.mo.hc i hi2).2.2.1 (Nat.le_of_lt (Nat.lt_of_le_of_lt h.mo.b h.mo.lt)),by rw[List.length_set];exact h.len⟩
structure R2(w wr:World)(B gm L n m e:Nat)(T:Nat×Mx.Mat)(cN c r:Nat)(gs cs:Nat->Nat)(M:Mx.Mat):Prop where
 r1:R1 w wr B gm L n m gs cs M
 rm:r<=m
 eq:Mx.red (cN-c) c (r,M)=T
 bd:Mx.Bd (2^(e*11^c)) M
set_option maxRecDepth 10000 in
set_option maxHeartbeats 8000000 in
theorem AK(B gm L cap n cN e:Nat)(gs cs:Nat->Nat)(M:Mx.Mat)(hc:cN<=n)(hn1:n<=1000)(hL:M.length<=1000)(he:6<=e)(hf:2*(e*11^cN)<=6000000000000)(hb:Mx.Bd (2^e) M)
  (w:World) (h:MO w B gm L gs cs n M):
  Calls Tryz.prog 145 #[.slice (some ⟨gm,0,none⟩) M.length cap, .int .i64 ((cN:Int))] w fun e w'=>e= .returned (.int .i64 (((Mx.red cN 0 (0,M)).1:Int)))/\Below B w w'/\∃gs' cs',MO w' B gm L gs' cs' n (Mx.red cN 0 (0,M)).2:=by
 obtain⟨T,hT⟩:∃T,T=Mx.red cN 0 (0,M):=⟨_,rfl⟩;rw[<-hT];generalize hl:M.length=m at*;have H0:Hid (R2 w w B gm L n m e T cN 0 0 gs cs M):=⟨⟨h,Below.refl _ _,hl⟩,Nat.zero_le _,hT.symm,by rw[Nat.pow_zero,Nat.mul_one];exact hb⟩;have HF:=Lib.hid hf;clear h hb hl hT hf
 go_enter Tryz.func145,Tryz.ntmps145
 go_wp2_with fail
 go_loopg [5,6] cN (fun kk s5 s6 wr=>∃(r c:Nat) (gs cs:Nat->Nat) (M:Mx.Mat),kk=cN-c/\c<=cN/\r<=m/\s5= .int .i64 ((r:Int))/\s6= .int .i64 ((c:Int))/\Hid (R2 w wr B gm L n m e T cN c r gs cs M))
 case atStart=>exact⟨0,0,gs,cs,M,by omega,by omega,by omega,rfl,rfl,H0⟩
 case round=>
  clear H0;obtain⟨r,c,gs,cs,M,rfl,hcN,hrm,rfl,rfl,HR⟩:=hrel;by_cases hcc:c<cN
  ·have hcc2:(c:Int)<(cN:Int):=by omega
   have hcc3:decide ((c:Int)<(cN:Int))=true:=by rw[decide_eq_true_iff];exact hcc2
   by_cases hrr:r<m
   ·have hrr2:(r:Int)<(m:Int):=by omega
    have hrr3:decide ((r:Int)<(m:Int))=true:=by rw[decide_eq_true_iff];exact hrr2
    go_upto_block 2 with fail
    go_cut [7]from 12 to 176 (fun _ wx=>∃(gs cs:Nat->Nat),Hid (R1 w wx B gm L n m gs cs (Mx.cv r c M)))
    case first=>
     as_aux_lemma=>
      have hK0:Mx.Jn (2^(e*11^(c+1))) r c M:=by
       refine .inl ⟨2^(e*11^c),Nat.pow_pos (by omega),HR.out.bd,Nat.le_trans (Mx.AV _) (Nat.le_trans (Mx.sb ?_) (Nat.le_of_eq ?_))⟩
       ·have:1<=11^c:=Nat.pow_pos (by omega);exact Nat.le_trans he (Nat.le_mul_of_pos_right e this)
       ·rw[Mx.e11]
      have hKf:2*(e*11^(c+1))<=6000000000000:=Nat.le_trans (Nat.mul_le_mul_left 2 (Nat.mul_le_mul_left e (Nat.pow_le_pow_right (by omega) (by omega)))) HF.out;generalize e*11^(c+1)=E at*;have HJ:Hid (R1 w wr B gm L n m gs cs M/\Mx.Jn (2^E) r c M):=⟨HR.out.r1,hK0⟩;generalize hMc:Mx.cv r c M=Mc;have HM0:Hid (Mx.cv r c M=Mc):=hMc;clear hMc hK0 HR
      go_wp2_with fail
      go_loopg [7] (Mx.fK r c M) (fun kk _ wx=>∃(gs cs:Nat->Nat) (M2:Mx.Mat),kk=Mx.fK r c M2/\Hid (R1 w wx B gm L n m gs cs M2/\Mx.Jn (2^E) r c M2)/\Hid (Mx.cv r c M2=Mc))
      case atStart=>exact⟨gs,cs,M,rfl,HJ,HM0⟩
      case round=>
       clear HJ;obtain⟨gs,cs,M,rfl,HJ,HMc⟩:=hrel;have hBw:B<=wr.heap.size:=Nat.le_of_lt (Nat.lt_of_le_of_lt HJ.out.1.mo.b HJ.out.1.mo.lt)
       go_upto_block 4 with fail
       go_cut [7,8]from 23 to 122 (fun s7 s8 wy=>s7= .int .i64 (xg (Mx.pick r c M).1)/\s8= .int .i64 (((Mx.pick r c M).2:Int))/\Hid (R1 w wy B gm L n m gs cs M))
       case first=>
        as_aux_lemma=>
         go_wp2_with fail
         go_loopg [7,8,9] (m-r) (fun kk s7 s8 s9 wy=>∃i:Nat,r<=i/\i<=m/\kk=m-i/\s7= .int .i64 (xg (Mx.scan c r M (i-r)).1)/\s8= .int .i64 (((Mx.scan c r M (i-r)).2:Int))/\s9= .int .i64 ((i:Int))/\Hid (R1 w wy B gm L n m gs cs M))
         case atStart=>exact⟨r,Nat.le_refl _,hrm,rfl,by rw[Nat.sub_self];rfl,by rw[Nat.sub_self];rfl,rfl,HJ.out.1⟩
         case round=>
          obtain⟨i,hri,him,rfl,rfl,rfl,rfl,HW⟩:=hrel;by_cases hi:i<m
          ·have hi2:(i:Int)<(m:Int):=by omega
           obtain⟨x,k0,x0,x1,xz,xl⟩:=HW.out.mo.elem (i:=i) (j:=c) (by rw[HW.out.len];exact hi) (by omega);have HX:=Lib.hid xz;have fx:Fit (Mx.at' M i c):=cn (Mx.nI HJ.out.2 i c) (by omega);have FX:=Lib.hid fx;have hcn:(c:Int)<(n:Int):=by omega
           obtain⟨xs,xa,xn,xc⟩:=x;simp only[]at x0 x1;clear xz fx;have hBy:B<=wr.heap.size:=Nat.le_of_lt (Nat.lt_of_le_of_lt HW.out.mo.b HW.out.mo.lt);have gml:gm<wr.heap.size:=HW.out.mo.lt;have hsc2:(Mx.scan c r M (i-r)).2<=i-r:=Mx.wb c r M (i-r);by_cases hz:Mx.at' M i c=0
           ·have hd:decide (Mx.at' M i c=0)=true:=by rw[decide_eq_true_iff];exact hz
            have HZ:=Lib.hid (Mx.Cn (c:=c) (M:=M) hri hz);have ZE:=Lib.hid (fun w hx=>hd▸eO ⟨xs,xa,xn,xc⟩ (Mx.at' M i c) w hx);clear hz hd
            go_wp2_with ((go_at_call 95;(with_reducible refine(ZE.out _ ?_).mono ?_);(exact HX.out.below (B:=wr.heap.size) ah (Nat.le_refl _));rintro e w1 ⟨rfl,hb1⟩;obtain⟨g1,rfl⟩:=mob hb1;clear hb1))
            go_roundg (m-(i+1))
            case measure=>omega
            case rel=>exact⟨i+1,by omega,by omega,rfl,by rw[HZ.out],by rw[HZ.out],by go_num,HW.out.ext hBy ah⟩
           ·have hd:decide (Mx.at' M i c=0)=false:=by rw[decide_eq_false_iff_not];exact hz
            have ZE:=Lib.hid (fun w hx=>hd▸eO ⟨xs,xa,xn,xc⟩ (Mx.at' M i c) w hx);have NZ:=Lib.hid hz;clear hz hd
            cases hp:(Mx.scan c r M (i-r)).1 with
            |none=>
             have HS:=Lib.hid (Mx.Co hri NZ.out hp);generalize(Mx.scan c r M (i-r)).2=q at*;clear hp;simp only[xg]
             go_upto_region 11 with((go_at_call 95;(with_reducible refine(ZE.out _ ?_).mono ?_);(exact HX.out.below (B:=wr.heap.size) ah (Nat.le_refl _));rintro e w1 ⟨rfl,hb1⟩;obtain⟨g1,rfl⟩:=mob hb1;clear hb1))
             (apply Own3.cB 21 [.inl _, .inl _, .inl _, .inl undef, .inl undef, .inl undef, .inl undef, .inl undef, .inl undef, .inl undef, .inl undef, .inl undef, .inl undef, .inl undef, .inl undef, .inl undef, .inl undef, .inl undef, .inl undef, .inl undef, .inl undef] ae ae;simp only[List.take_succ_cons,List.take_zero,List.drop_succ_cons,List.drop_zero];refine zs1 ?_;refine zs1 ?_;refine zs1 ?_;refine fH ?_;refine fH ?_;refine fH ?_;refine fH ?_;refine fH ?_;refine fH ?_;refine fH ?_;refine fH ?_;refine fH ?_;refine fH ?_;refine fH ?_;refine fH ?_;refine fH ?_;refine fH ?_;refine fH ?_;refine fH ?_;refine fH ?_;refine fH ?_;refine Own3.hZ ?_;intro w11 hw11;have hB11:=hw11.1;clear hw11;obtain⟨g11,rfl⟩:=mob hB11;clear hB11)
             go_wp2_with fail
             go_roundg (m-(i+1))
             case measure=>omega
             case rel=>exact⟨i+1,by omega,by omega,rfl,by rw[HS.out];rfl,by rw[HS.out];go_num,by go_num,HW.out.ext hBy ah⟩
            |some t=>
             have HT0:=Lib.hid ((Mx.dz c r M (i-r)).yes t hp);have htr:t<m:=by have:=HT0.out.2.1;omega
             have htr2:(t:Int)<(m:Int):=by omega
             have hd:decide ((t:Int)<0)=false:=by rw[decide_eq_false_iff_not];omega
             have hd2:¬(t:Int)<0:=by omega
             obtain⟨y,kt,y0,y1,yz,yl⟩:=HW.out.mo.elem (i:=t) (j:=c) (by rw[HW.out.len];exact htr) (by omega);have HY:=Lib.hid yz;have fy:Fit (Mx.at' M t c):=cn (Mx.nI HJ.out.2 t c) (by omega);have FY:=Lib.hid fy;have F1:Hid (Fit ((Mx.at' M i c).natAbs:Int)):=cn (by rw[Int.natAbs_natCast];exact Mx.nI HJ.out.2 i c) (by omega);have F2:Hid (Fit ((Mx.at' M t c).natAbs:Int)):=cn (by rw[Int.natAbs_natCast];exact Mx.nI HJ.out.2 t c) (by omega);obtain⟨ys,ya,yn,yc⟩:=y;simp only[]at y0 y1;have SG:Hid (((Mx.at' M i c).natAbs<(Mx.at' M t c).natAbs->sgn (((Mx.at' M i c).natAbs:Int)-((Mx.at' M t c).natAbs:Int))<0)/\(¬(Mx.at' M i c).natAbs<(Mx.at' M t c).natAbs->¬sgn (((Mx.at' M i c).natAbs:Int)-((Mx.at' M t c).natAbs:Int))<0)):=by
              refine⟨fun h=>?_,fun h=>?_⟩
              ·unfold sgn;rw[if_neg (by omega),if_pos (by omega)];omega
              ·unfold sgn;by_cases h0:((Mx.at' M i c).natAbs:Int)-((Mx.at' M t c).natAbs:Int)=0
               ·rw[if_pos h0];omega
               ·rw[if_neg h0,if_neg (by omega)];omega
             have HLT:=Lib.hid (Mx.yy hri NZ.out hp);have HGE:=Lib.hid (Mx.yA hri NZ.out hp);generalize(Mx.scan c r M (i-r)).2=q at*;clear hp fy yz;simp only[xg]
             go_upto_region 11 with((go_at_call 95;(with_reducible refine(ZE.out _ ?_).mono ?_);(exact HX.out.below (B:=wr.heap.size) ah (Nat.le_refl _));rintro e w1 ⟨rfl,hb1⟩;obtain⟨g1,rfl⟩:=mob hb1;clear hb1))
             have hBa:Below wr.heap.size wr (more wr g1):=by exact bel
             have HBA:=Lib.hid hBa;clear hBa
             (apply Own3.cB 21 [.inl _, .inl _, .inl _, .inl _, .inl _, .inl _, .inl _, .inl _, .inl _, .inl _, .inr (rIZ (((Mx.at' M i c).natAbs:Int))), .inl _, .inl _, .inl _, .inl _, .inl _, .inl _, .inl _, .inr (rIZ (((Mx.at' M t c).natAbs:Int))), .inl _, .inl _] ae ae;simp only[List.take_succ_cons,List.take_zero,List.drop_succ_cons,List.drop_zero];refine eU ?_;refine eU ?_;refine eU ?_;refine eU ?_;refine eU ?_;refine eU ?_;refine eU ?_;refine eU ?_;refine eU ?_;refine eU ?_;(refine Own3.db rfl (fun K hK=>?_) (fun x111=>?_);(focus(go_simp;clear hK K;intro w' hw' hcb';first|(go_at_call 185;(first|exact dm (jD ⟨xs,xa,xn,xc⟩ (Mx.at' M i c) FX.out _ ((HX.out.below (Below.trans HBA.out ((Ext.below hw').mono HBA.out.size)) (Nat.le_refl _)).ip))|exact dm (jD ⟨ys,ya,yn,yc⟩ (Mx.at' M t c) FY.out _ ((HY.out.below (Below.trans HBA.out ((Ext.below hw').mono HBA.out.size)) (Nat.le_refl _)).ip))))));simp only[rIZ,Act.put,List.setIfInBounds_toArray,List.set_cons_succ,List.set_cons_zero]);refine eU ?_;refine eU ?_;refine eU ?_;refine eU ?_;refine eU ?_;refine eU ?_;refine eU ?_;(refine Own3.db rfl (fun K hK=>?_) (fun x112=>?_);(focus(go_simp;clear hK K;intro w' hw' hcb';first|(go_at_call 185;(first|exact dm (jD ⟨xs,xa,xn,xc⟩ (Mx.at' M i c) FX.out _ ((HX.out.below (Below.trans HBA.out ((Ext.below hw').mono HBA.out.size)) (Nat.le_refl _)).ip))|exact dm (jD ⟨ys,ya,yn,yc⟩ (Mx.at' M t c) FY.out _ ((HY.out.below (Below.trans HBA.out ((Ext.below hw').mono HBA.out.size)) (Nat.le_refl _)).ip))))));simp only[Act.put,List.setIfInBounds_toArray,List.set_cons_succ,List.set_cons_zero]);refine eU ?_;refine eU ?_;refine Own3.hZ ?_;intro w11 hw11;have hB11:=hw11.1;have HY111:Hid (IZ w11 x111 (((Mx.at' M i c).natAbs:Int))):=Lib.hid (hw11.get (u:=10) (Or.inr (Or.inl ⟨rfl,rfl⟩)));have HY112:Hid (IZ w11 x112 (((Mx.at' M t c).natAbs:Int))):=Lib.hid (hw11.get (u:=18) (Or.inl ⟨rfl,rfl⟩));clear hw11;obtain⟨g11,rfl⟩:=mob hB11;clear hB11)
             clear HY111 HY112;by_cases hlt:(Mx.at' M i c).natAbs<(Mx.at' M t c).natAbs
             ·have hs1:=SG.out.1 hlt;have hs2:decide (sgn (((Mx.at' M i c).natAbs:Int)-((Mx.at' M t c).natAbs:Int))<0)=true:=by rw[decide_eq_true_iff];exact hs1
              have HS:=Lib.hid (HLT.out hlt);clear hlt
              go_wp2_with fail
              go_roundg (m-(i+1))
              case measure=>omega
              case rel=>exact⟨i+1,by omega,by omega,rfl,by rw[HS.out];rfl,by rw[HS.out];go_num,by go_num,HW.out.ext hBy ah⟩
             ·have hs1:=SG.out.2 hlt;have hs2:decide (sgn (((Mx.at' M i c).natAbs:Int)-((Mx.at' M t c).natAbs:Int))<0)=false:=by rw[decide_eq_false_iff_not];omega
              have HS:=Lib.hid (HGE.out hlt);clear hlt
              go_wp2_with fail
              go_roundg (m-(i+1))
              case measure=>omega
              case rel=>exact⟨i+1,by omega,by omega,rfl,by rw[HS.out];rfl,by rw[HS.out];go_num,by go_num,HW.out.ext hBy ah⟩
          ·have hi2:¬(i:Int)<(m:Int):=by omega
           obtain rfl:i=m:=by omega
           go_wp2_with fail
           go_meet
           case rel=>exact⟨by unfold Mx.pick;rw[HJ.out.1.len],by unfold Mx.pick;rw[HJ.out.1.len],HW⟩
       case rest=>
        obtain⟨rfl,rfl,HW⟩:=hcut;have hBc:B<=wc.heap.size:=Nat.le_of_lt (Nat.lt_of_le_of_lt HW.out.mo.b HW.out.mo.lt);have gml:gm<wc.heap.size:=HW.out.mo.lt
        cases hp:(Mx.pick r c M).1 with
        |none=>
         have hq:(Mx.pick r c M).2=0:=((Mx.dz c r M (M.length-r)).no hp).1;rw[hq];have HE:=Lib.hid ((Mx.oV hp).symm.trans HMc.out);clear hp hq
         go_wp2_with fail
         go_meet
         case rel=>exact⟨gs,cs,by rw[HM0.out,<-HE.out];exact HW⟩
        |some t=>
         have SC:=Lib.hid ((Mx.dz c r M (M.length-r)).yes t hp);have htm:t<m:=by have:=SC.out.2.1;have:=HW.out.len;omega
         have htm2:(t:Int)<(m:Int):=by omega
         have hrt:r<=t:=SC.out.1;obtain⟨q,hq⟩:∃q,(Mx.pick r c M).2=q:=⟨_,rfl⟩;have hq0:1<=q:=by have:=SC.out.2.2.2.2.1;unfold Mx.pick at hq;omega
         have HO:=Lib.hid (fun (h:q=1)=>Mx.qX hp (hq.trans h));have HS:=Lib.hid (fun (h:q≠1)=>Mx.oU HW.out.mo.rc hp (by rw[hq];exact h));have HN:=Lib.hid (fun (h:q≠1)=>Mx.gl HW.out.mo.rc hp (by rw[hq];exact h));have HJ2:=Lib.hid (fun (h:q≠1)=>Mx.tX HW.out.mo.rc HJ.out.2 hp (by rw[hq];exact h));rw[hq];have kr:=(HW.out.mo.hc r qq).1;have kt:=(HW.out.mo.hc t (by rw[HW.out.len];exact htm)).1;have fr:=HW.out.mo.fr r;have ft:=HW.out.mo.fr t;have hMS:=HW.out.mo.swp (i:=r) (j:=t) qq (by rw[HW.out.len];exact htm);have HMS:=Lib.hid hMS;clear hMS hp hq;simp only[xg];have q1:¬(q:Int)=0:=by omega
         have q2:¬q=0:=by omega
         have q3:((q:Int)==0)=false:=by rw[beq_eq_false_iff_ne];exact q1
         go_upto_region 14 with fail
         go_cut [10]from 23 to 122 (fun _ wy=>Hid (R1 w wy B gm L n m (ix gs r t) (ix cs r t) (Mx.swp M r t)))
         case first=>
          as_aux_lemma=>
           have HRS:=Lib.hid (HW.out.swp hrr htm);by_cases htr:t=r
           ·subst htr
            go_region
            all_goals(go_wp2_with fail;go_meet)
            case rel=>exact HRS.out
           ·have htr2:¬r=t:=by omega
            go_region
            all_goals(go_wp2_with fail;go_meet)
            case rel=>exact HRS.out
         case rest=>
          have HW2:=hcut;clear kr kt fr ft HW HMS gml hBc hcut;generalize ix gs r t=gs2 at HW2;generalize ix cs r t=cs2 at HW2;by_cases hq1:q=1
          ·have HE:=Lib.hid ((HO.out hq1).symm.trans HMc.out);subst hq1;clear HO HS HN HJ2
           go_wp2_with fail
           go_meet
           case rel=>exact⟨gs2,cs2,by rw[HM0.out,<-HE.out];exact HW2⟩
          ·have q4:¬(q:Int)=1:=by omega
           have q5:((q:Int)==1)=false:=by rw[beq_eq_false_iff_ne];exact q4
           have HE:=Lib.hid ((HS.out hq1).symm.trans HMc.out);have HN1:=Lib.hid (HN.out hq1).2.2.2;have HJ3:=Lib.hid (HJ2.out hq1);have hpiv:Mx.at' (Mx.swp M r t) r c≠0:=by
            have h1:=SC.out.2.2.1;have h2:=(HN.out hq1);rw[Mx.bR h2.1 h2.2.1];split
            ·rename_i e;rw[e];exact h1
            ·rw[if_pos rfl];exact h1
           have HPV:Hid (Mx.at' (Mx.swp M r t) r c≠0):=hpiv;have HLM:=Lib.hid HJ.out.1.len;unfold Mx.elim at HE HN1 HJ3;generalize hS:Mx.swp M r t=S at*;have HSL:Hid (S.length=m):=HW2.out.len;have HRC:Hid (Mx.Rc n S):=HW2.out.mo.rc;clear HO HS HN HJ2 hpiv SC hS
           go_wp2_with fail
           go_loopg [10] (m-(r+1)) (fun kk s10 wy=>∃i:Nat,r+1<=i/\i<=m/\kk=m-i/\s10= .int .i64 ((i:Int))/\Hid (R1 w wy B gm L n m gs2 cs2 (Mx.aD r c (r+1) S (i-(r+1)))))
           case atStart=>exact⟨r+1,Nat.le_refl _,hrr,by omega,by go_num,by rw[Nat.sub_self];exact HW2⟩
           case round=>
            clear HW2;obtain⟨i,hri,him,rfl,rfl,HW⟩:=hrel;have hBy:B<=wr.heap.size:=Nat.le_of_lt (Nat.lt_of_le_of_lt HW.out.mo.b HW.out.mo.lt);have gml:gm<wr.heap.size:=HW.out.mo.lt;have hcn:(c:Int)<(n:Int):=by omega
            by_cases hi:i<m
            ·have hi2:(i:Int)<(m:Int):=by omega
             have hrc:Mx.Rc n S:=HRC.out;have HZ:=Lib.hid (fun (h:Mx.at' (Mx.aD r c (r+1) S (i-(r+1))) i c=0)=>(show Mx.aD r c (r+1) S (i+1-(r+1))=Mx.aD r c (r+1) S (i-(r+1)) by
              rw[show i+1-(r+1)=(i-(r+1))+1 by omega];exact Mx.Ba hrc (by rw[HSL.out];exact hrr) (by omega) td (by rw[show r+1+(i-(r+1))=i by omega];exact h)))
             have HNX:Hid (Mx.aD r c (r+1) S (i+1-(r+1))=(Mx.aD r c (r+1) S (i-(r+1))).set i (Mx.cq (Mx.rw (Mx.aD r c (r+1) S (i-(r+1))) r) c (Mx.rw (Mx.aD r c (r+1) S (i-(r+1))) i))):=by
              show _=_;rw[show i+1-(r+1)=(i-(r+1))+1 by omega,Mx.iR (by omega) td,show r+1+(i-(r+1))=i by omega]
             have hpn:Mx.at' (Mx.aD r c (r+1) S (i-(r+1))) r c≠0:=by
              unfold Mx.at';rw[Mx.cM r c (r+1) S (i-(r+1)) td r,if_neg (by omega)];exact HPV.out
             have HBN:=Lib.hid (HJ3.out.1 (i-(r+1)) (by rw[HLM.out];omega));generalize Mx.aD r c (r+1) S (i-(r+1))=N at*;obtain⟨x,k0,x0,x1,xz,xl⟩:=HW.out.mo.elem (i:=i) (j:=c) (by rw[HW.out.len];exact hi) (by omega);obtain⟨y,kr,y0,y1,yz,yl⟩:=HW.out.mo.elem (i:=r) (j:=c) qq (by omega);have HX:=Lib.hid xz;have HY:=Lib.hid yz;have FX:Hid (Fit (Mx.at' N i c)):=cn (HBN.out i c) (by omega);have FY:Hid (Fit (Mx.at' N r c)):=cn (HBN.out r c) (by omega);obtain⟨xs,xa,xn,xc⟩:=x;obtain⟨ys,ya,yn,yc⟩:=y;simp only[]at x0 x1 y0 y1;clear xz yz hrc hpn;by_cases hz:Mx.at' N i c=0
             ·have hd:decide (Mx.at' N i c=0)=true:=by rw[decide_eq_true_iff];exact hz
              have ZE:=Lib.hid (fun w hx=>hd▸eO ⟨xs,xa,xn,xc⟩ (Mx.at' N i c) w hx);have HE2:=Lib.hid (HZ.out hz);clear hz hd HZ HNX
              go_wp2_with ((go_at_call 95;(with_reducible refine(ZE.out _ ?_).mono ?_);(exact HX.out.below (B:=wr.heap.size) ah (Nat.le_refl _));rintro e w1 ⟨rfl,hb1⟩;obtain⟨g1,rfl⟩:=mob hb1;clear hb1))
              go_roundg (m-(i+1))
              case measure=>omega
              case rel=>exact⟨i+1,by omega,by omega,rfl,by go_num,by first|(rw[HE2.out];exact HW.out.ext hBy ah)|(show R1 _ _ _ _ _ _ _ _ _ _;rw[HE2.out];exact HW.out.ext hBy ah)⟩
             ·have hd:decide (Mx.at' N i c=0)=false:=by rw[decide_eq_false_iff_not];exact hz
              have ZE:=Lib.hid (fun w hx=>hd▸eO ⟨xs,xa,xn,xc⟩ (Mx.at' N i c) w hx);clear hz hd HZ
              go_upto_region 20 with((go_at_call 95;(with_reducible refine(ZE.out _ ?_).mono ?_);(exact HX.out.below (B:=wr.heap.size) ah (Nat.le_refl _));rintro e w1 ⟨rfl,hb1⟩;obtain⟨g1,rfl⟩:=mob hb1;clear hb1))
              have hBa:Below wr.heap.size wr (more wr g1):=by exact bel
              have HBA:=Lib.hid hBa;clear hBa;have hqb:(Mx.at' N i c/Mx.at' N r c).natAbs<=2^E:=Nat.le_trans (Mx.jK _ _) (HBN.out i c);have FQ:Hid (Fit (Mx.at' N i c/Mx.at' N r c)):=cn hqb (by omega);have HQB:=Lib.hid hqb;clear hqb
              (apply Own3.cB 24 [.inl _, .inl _, .inl _, .inl _, .inl _, .inl _, .inl _, .inl _, .inl _, .inl _, .inl _, .inl _, .inl _, .inl _, .inl _, .inl _, .inl _, .inl _, .inr (rIZ (Mx.at' N i c/Mx.at' N r c)), .inr (rIZ (-(Mx.at' N i c/Mx.at' N r c))), .inl _, .inl _, .inl _, .inl _] ae ae;simp only[List.take_succ_cons,List.take_zero,List.drop_succ_cons,List.drop_zero];refine zs1 ?_;refine zs1 ?_;refine zs1 ?_;refine zs1 ?_;refine zs1 ?_;refine zs1 ?_;refine zs1 ?_;refine zs1 ?_;refine zs1 ?_;refine zs1 ?_;refine zs1 ?_;refine zs1 ?_;refine zs1 ?_;refine zs1 ?_;refine zs1 ?_;refine zs1 ?_;refine zs1 ?_;refine zs1 ?_;(refine Own3.db rfl (fun K hK=>?_) (fun x201=>?_);(focus(go_simp;clear hK K;intro w' hw' hcb';first|(go_at_call 121;exact(dm (kH ⟨xs,xa,xn,xc⟩ ⟨ys,ya,yn,yc⟩ (Mx.at' N i c) (Mx.at' N r c) FX.out FY.out _ ((HX.out.below (Below.trans HBA.out ((Ext.below hw').mono HBA.out.size)) (Nat.le_refl _)).ip) ((HY.out.below (Below.trans HBA.out ((Ext.below hw').mono HBA.out.size)) (Nat.le_refl _)).ip))))|(go_at_call 102;(have hf:=hcb'.get (u:=18) lY;exact dm (gV x201 _ FQ.out _ (IZ.ip (show IZ w' x201 (Mx.at' N i c/Mx.at' N r c)from hf)))))));simp only[rIZ,Act.put,List.setIfInBounds_toArray,List.set_cons_succ,List.set_cons_zero]);(refine Own3.db rfl (fun K hK=>?_) (fun x202=>?_);(focus(go_simp;clear hK K;intro w' hw' hcb';first|(go_at_call 121;exact(dm (kH ⟨xs,xa,xn,xc⟩ ⟨ys,ya,yn,yc⟩ (Mx.at' N i c) (Mx.at' N r c) FX.out FY.out _ ((HX.out.below (Below.trans HBA.out ((Ext.below hw').mono HBA.out.size)) (Nat.le_refl _)).ip) ((HY.out.below (Below.trans HBA.out ((Ext.below hw').mono HBA.out.size)) (Nat.le_refl _)).ip))))|(go_at_call 102;(have hf:=hcb'.get (u:=18) lY;exact dm (gV x201 _ FQ.out _ (IZ.ip (show IZ w' x201 (Mx.at' N i c/Mx.at' N r c)from hf)))))));simp only[Act.put,List.setIfInBounds_toArray,List.set_cons_succ,List.set_cons_zero]);refine zs1 ?_;refine zs1 ?_;refine zs1 ?_;refine zs1 ?_;refine Own3.hZ ?_;intro w20 hw20;have hB20:=hw20.1;have HY201:Hid (IZ w20 x201 (Mx.at' N i c/Mx.at' N r c)):=Lib.hid (hw20.get (u:=18) (Or.inr (Or.inl ⟨rfl,rfl⟩)));have HY202:Hid (IZ w20 x202 (-(Mx.at' N i c/Mx.at' N r c))):=Lib.hid (hw20.get (u:=19) (Or.inl ⟨rfl,rfl⟩));clear hw20;obtain⟨g20,rfl⟩:=mob hB20;clear hB20)
              clear HY201;have hBb:Below wr.heap.size wr (more (more wr g1) g20):=by exact bel
              have hW20:=HW.out.ext hBy hBb;have hs20:wr.heap.size<=(more (more wr g1) g20).heap.size:=hBb.size;have gml2:gm<(more (more wr g1) g20).heap.size:=Nat.lt_of_lt_of_le gml hs20;have hlen1:(Mx.rw N i).length=n:=HW.out.mo.rc.rw (by rw[HW.out.len];exact hi);have hlen2:(Mx.rw N r).length=n:=HW.out.mo.rc.rw qq;have hri3:r≠i:=by omega
              have AD:=Lib.hid (wq x202 (-(Mx.at' N i c/Mx.at' N r c)) (gs2 i) (gs2 r) 0 n (cs2 i) (cs2 r) (Mx.rw N i) (Mx.rw N r) hlen1 hlen2 HW.out.mo.n0 (by omega) (cn (e:=E) Ag (by omega)) (qS HBN.out hKf _ Ag) (hW20.mo.dj r i (by rw[hW20.len];exact hrr) (by rw[hW20.len];exact hi) hri3) _ HY202.out (hW20.mo.hc i (by rw[hW20.len];exact hi)).2.2.2.2 (hW20.mo.hc r (by rw[hW20.len];exact hrr)).2.2.2.2.ra);have HW20:=Lib.hid hW20;have HL12:=Lib.hid (Mx.jA (Mx.rw N r) (Mx.rw N i) c (by omega));clear hBb hW20 hlen2 HY202
              go_wp2_with (first|(go_at_call 160;(with_reducible refine AD.out.mono ?_);rintro e w22 ⟨rfl,hC22,hR22⟩;have HC22:=Lib.hid (And.intro hC22 hR22);clear hC22 hR22))
              go_roundg (m-(i+1))
              case measure=>omega
              case rel=>
               refine⟨i+1,by omega,by omega,rfl,by go_num,?_⟩;show R1 _ _ _ _ _ _ _ _ _ _;rw[HNX.out];exact HW20.out.set hi (HL12.out.trans hlen1) HC22.out.1 HC22.out.2
            ·have hi2:¬(i:Int)<(m:Int):=by omega
             obtain rfl:i=m:=by omega
             have HW3:Hid (R1 w wr B gm L n i gs2 cs2 (Mx.aD r c (r+1) S (M.length-(r+1)))):=by rw[HLM.out];exact HW
             go_wp2_with fail
             go_roundg (Mx.fK r c (Mx.aD r c (r+1) S (S.length-(r+1))))
             case measure=>exact HN1.out
             case rel=>
              refine⟨gs2,cs2,_,rfl,⟨?_,HJ3.out.2⟩,HE.out⟩;rw[show S.length=M.length from HSL.out.trans HLM.out.symm];exact HW3.out
    case rest=>
     obtain⟨gs2,cs2,HW⟩:=hcut;have hBc:B<=wc.heap.size:=Nat.le_of_lt (Nat.lt_of_le_of_lt HW.out.mo.b HW.out.mo.lt);have gml:gm<wc.heap.size:=HW.out.mo.lt;have hcn:(c:Int)<(n:Int):=by omega
     have hX1:1<=2^(e*11^c):=Nat.pow_pos (by omega);have he6:6<=e*11^c:=Nat.le_trans he (Nat.le_mul_of_pos_right e (Nat.pow_pos (by omega)));have hnb:Mx.nb (2^(e*11^c))<=2^(e*11^(c+1)):=Nat.le_trans (Mx.sb he6) (Nat.le_of_eq (by rw[Mx.e11]));have hKf:2*(e*11^(c+1))<=6000000000000:=Nat.le_trans (Nat.mul_le_mul_left 2 (Nat.mul_le_mul_left e (Nat.pow_le_pow_right (by omega) (by omega)))) HF.out;have hrM:r<M.length:=by rw[HR.out.r1.len];exact hrr
     have hrcM:Mx.Rc n M:=HR.out.r1.mo.rc;have HAB:Hid (Mx.Bd (2^(e*11^(c+1))) (Mx.cv r c M)):=Mx.ue hrcM (.inl ⟨_,hX1,HR.out.bd,Nat.le_trans (Mx.AV _) hnb⟩);have HSB:Hid (Mx.Bd (2^(e*11^(c+1))) (Mx.step r c M).2):=(Mx.yt hrcM hrM hX1 HR.out.bd).mono hnb;have HEQ:Hid (Mx.red (cN-(c+1)) (c+1) (Mx.step r c M)=T):=by
      have h1:=HR.out.eq;rw[show cN-c=(cN-(c+1))+1 by omega,Mx.wm hrM]at h1;exact h1
     have HSZ:=Lib.hid (fun (h:Mx.at' (Mx.cv r c M) r c=0)=>(show Mx.step r c M=(r,Mx.cv r c M) by unfold Mx.step;simp only[];rw[if_pos h]));have HSN:=Lib.hid (fun (h:¬Mx.at' (Mx.cv r c M) r c=0)=>(show Mx.step r c M=(r+1,Mx.gC r c (Mx.bN r c (Mx.cv r c M))) by unfold Mx.step;simp only[];rw[if_neg h]));generalize Mx.step r c M=ST at*;generalize Mx.cv r c M=A at*;generalize hE:e*11^(c+1)=E at*;have HE0:=Lib.hid hE;clear hX1 he6 hnb hrM hrcM HR hE;obtain⟨x,kr,x0,x1,xz,xl⟩:=HW.out.mo.elem (i:=r) (j:=c) qq (by omega);have HX:=Lib.hid xz;have FX:Hid (Fit (Mx.at' A r c)):=cn (HAB.out r c) (by omega);obtain⟨xs,xa,xn,xc⟩:=x;simp only[]at x0 x1;clear xz;by_cases hz:Mx.at' A r c=0
     ·have hd:decide (Mx.at' A r c=0)=true:=by rw[decide_eq_true_iff];exact hz
      have ZE:=Lib.hid (fun w hx=>hd▸eO ⟨xs,xa,xn,xc⟩ (Mx.at' A r c) w hx);have HS:=Lib.hid (HSZ.out hz);clear hz hd HSZ HSN
      go_wp2_with ((go_at_call 95;(with_reducible refine(ZE.out _ ?_).mono ?_);(exact HX.out.below (B:=wc.heap.size) ah (Nat.le_refl _));rintro e w1 ⟨rfl,hb1⟩;obtain⟨g1,rfl⟩:=mob hb1;clear hb1))
      go_roundg (cN-(c+1))
      case measure=>omega
      case rel=>
       refine⟨r,c+1,gs2,cs2,A,rfl,by omega,hrm,rfl,by go_num,HW.out.ext hBc ah,hrm,?_,?_⟩
       ·have:=HEQ.out;rw[HS.out]at this;exact this
       ·have:=HSB.out;rw[HS.out]at this;rw[HE0.out];exact this
     ·have hd:decide (Mx.at' A r c=0)=false:=by rw[decide_eq_false_iff_not];exact hz
      have ZE:=Lib.hid (fun w hx=>hd▸eO ⟨xs,xa,xn,xc⟩ (Mx.at' A r c) w hx);have HS:=Lib.hid (HSN.out hz);have SI:=Lib.hid (fun w hx=>ou ⟨xs,xa,xn,xc⟩ (Mx.at' A r c) FX.out w hx);clear hd HSZ HSN
      go_upto_if 139 with(first|(go_at_call 95;(with_reducible refine(ZE.out _ ?_).mono ?_);(exact HX.out.below (B:=wc.heap.size) ah (Nat.le_refl _));rintro e w1 ⟨rfl,hb1⟩;obtain⟨g1,rfl⟩:=mob hb1;clear hb1)|(go_at_call 101;(with_reducible refine(SI.out _ ?_).mono ?_);(exact(HX.out.below (B:=wc.heap.size) ah (Nat.le_refl _)).ip);rintro e w2 ⟨rfl,hb2⟩;obtain⟨g2,rfl⟩:=mob hb2;clear hb2))
      go_cut [7]from 12 to 176 (fun _ wx=>Hid (R1 w wx B gm L n m gs2 cs2 (Mx.bN r c A)))
      case first=>
       as_aux_lemma=>
        have hBb:Below wc.heap.size wc (more (more wc g1) g2):=by exact bel
        have HW20:=Lib.hid (HW.out.ext hBc hBb);clear hBb;by_cases hneg:Mx.at' A r c<0
        ·have hs1:sgn (Mx.at' A r c)<0:=by unfold sgn;rw[if_neg (by omega),if_pos hneg];omega
         have hs2:decide (sgn (Mx.at' A r c)<0)=true:=by rw[decide_eq_true_iff];exact hs1
         have hlen1:(Mx.rw A r).length=n:=HW.out.mo.rc.rw qq;have NG:=Lib.hid (xS (gs2 r) n (cs2 r) (Mx.rw A r) hlen1 (by omega) (fun z hz=>by
          obtain⟨j,hj⟩:=List.getElem?_of_mem hz;exact(qS (i:=r) (r:=r) HAB.out hKf 0 (by simp) j z z hj hj).1) HW.out.mo.n0 _ (HW20.out.mo.hc r (by rw[HW20.out.len];exact hrr)).2.2.2.2)
         have HSG:Hid (Mx.bN r c A=A.set r (Mx.neg (Mx.rw A r))):=by show _=_;unfold Mx.bN;rw[if_pos hneg]
         clear hneg
         go_wp2_with (first|(go_at_call 186;(with_reducible refine NG.out.mono ?_);rintro e w22 ⟨rfl,hC22,hR22⟩;have HC22:=Lib.hid (And.intro hC22 hR22);clear hC22 hR22))
         go_meet
         case rel=>
          show R1 _ _ _ _ _ _ _ _ _ _;rw[HSG.out];exact HW20.out.set hrr ((Mx.jj _).trans hlen1) HC22.out.1 HC22.out.2
        ·have hs1 : ¬ sgn (Mx.at' A r c) < 0 := by
          unfold sgn;by_cases h0:Mx.at' A r c=0
          ·rw[if_pos h0];omega
          ·rw[if_neg h0,if_neg hneg];omega
         have hs2:decide (sgn (Mx.at' A r c)<0)=false:=by rw[decide_eq_false_iff_not];exact hs1
         have HSG:Hid (Mx.bN r c A=A):=by show _=_;unfold Mx.bN;rw[if_neg hneg]
         clear hneg
         go_wp2_with fail
         go_meet
         case rel=>
          show R1 _ _ _ _ _ _ _ _ _ _;rw[HSG.out];exact HW20.out
      case rest=>
       have HW2:=hcut;have HSP:Hid (Mx.at' (Mx.bN r c A) r c≠0/\Mx.Bd (2^E) (Mx.bN r c A)):=by
        have hl:r<A.length:=by rw[HW.out.len];exact hrr
        refine⟨?_,Mx.tJ HAB.out hl⟩;unfold Mx.bN;split
        ·rw[Mx.jM _ _ _ _ _ hl,if_pos rfl,Mx.fq];have:(Mx.rw A r).getD c 0=Mx.at' A r c:=rfl;omega
        ·exact hz
       have HRC:Hid (Mx.Rc n (Mx.bN r c A)):=HW2.out.mo.rc;have HSL:Hid ((Mx.bN r c A).length=m):=HW2.out.len;clear HW kr x0 x1 xl ZE SI HX hcut gml hz FX;unfold Mx.gC at HS;generalize Mx.bN r c A=S at*
       go_wp2_with fail
       go_loopg [146] r (fun kk s146 wy=>∃i:Nat,i<=r/\kk=r-i/\s146= .int .i64 ((i:Int))/\Hid (R1 w wy B gm L n m gs2 cs2 (Mx.aD r c 0 S i)))
       case atStart=>exact⟨0,Nat.zero_le _,rfl,rfl,HW2⟩
       case round=>
        clear HW2;obtain⟨i,hir,rfl,rfl,HW⟩:=hrel;have hBy:B<=wr.heap.size:=Nat.le_of_lt (Nat.lt_of_le_of_lt HW.out.mo.b HW.out.mo.lt);have gml:gm<wr.heap.size:=HW.out.mo.lt;by_cases hi:i<r
        ·have hi2:(i:Int)<(r:Int):=by omega
         have him:i<m:=by omega
         have him2:(i:Int)<(m:Int):=by omega
         have HNX:Hid (Mx.aD r c 0 S (i+1)=(Mx.aD r c 0 S i).set i (Mx.cq (Mx.rw (Mx.aD r c 0 S i) r) c (Mx.rw (Mx.aD r c 0 S i) i))):=by
          show _=_;rw[Mx.iR (by omega) td,Nat.zero_add]
         have hrwi:Mx.rw (Mx.aD r c 0 S i) i=Mx.rw S i:=by rw[Mx.cM r c 0 S i td i,if_neg (by omega)]
         have hrwr:Mx.rw (Mx.aD r c 0 S i) r=Mx.rw S r:=by rw[Mx.cM r c 0 S i td r,if_neg (by omega)]
         rw[hrwi,hrwr]at HNX;have hai:Mx.at' (Mx.aD r c 0 S i) i c=Mx.at' S i c:=by unfold Mx.at';rw[hrwi]
         have har:Mx.at' (Mx.aD r c 0 S i) r c=Mx.at' S r c:=by unfold Mx.at';rw[hrwr]
         obtain⟨x,k0,x0,x1,xz,xl⟩:=HW.out.mo.elem (i:=i) (j:=c) (by rw[HW.out.len];exact him) (by omega);obtain⟨y,kr,y0,y1,yz,yl⟩:=HW.out.mo.elem (i:=r) (j:=c) qq (by omega);rw[hai]at xz;rw[har]at yz;have HX:=Lib.hid xz;have HY:=Lib.hid yz;have HRW:=Lib.hid (And.intro hrwi hrwr);have FX:Hid (Fit (Mx.at' S i c)):=cn (HSP.out.2 i c) (by omega);have FY:Hid (Fit (Mx.at' S r c)):=cn (HSP.out.2 r c) (by omega);have hqb:(Mx.at' S i c/Mx.at' S r c).natAbs<=2^E:=Nat.le_trans (Mx.jK _ _) (HSP.out.2 i c);have FQ:Hid (Fit (Mx.at' S i c/Mx.at' S r c)):=cn hqb (by omega);have HQB:=Lib.hid hqb;obtain⟨xs,xa,xn,xc⟩:=x;obtain⟨ys,ya,yn,yc⟩:=y;simp only[]at x0 x1 y0 y1;clear xz yz hai har hrwi hrwr hqb
         go_upto_region 27 with fail
         have HBA:Hid (Below wr.heap.size wr wr):=Below.refl _ _
         (apply Own3.cB 24 [.inl _, .inl _, .inl _, .inl _, .inl _, .inl _, .inl _, .inl _, .inl _, .inl _, .inl _, .inl _, .inl _, .inl _, .inl _, .inl _, .inl _, .inl _, .inr (rIZ (Mx.at' S i c/Mx.at' S r c)), .inr (rIZ (-(Mx.at' S i c/Mx.at' S r c))), .inl _, .inl _, .inl _, .inl _] ae ae;simp only[List.take_succ_cons,List.take_zero,List.drop_succ_cons,List.drop_zero];refine zs1 ?_;refine zs1 ?_;refine zs1 ?_;refine zs1 ?_;refine zs1 ?_;refine zs1 ?_;refine zs1 ?_;refine zs1 ?_;refine zs1 ?_;refine zs1 ?_;refine zs1 ?_;refine zs1 ?_;refine zs1 ?_;refine zs1 ?_;refine zs1 ?_;refine zs1 ?_;refine zs1 ?_;refine zs1 ?_;(refine Own3.db rfl (fun K hK=>?_) (fun x201=>?_);(focus(go_simp;clear hK K;intro w' hw' hcb';first|(go_at_call 121;exact(dm (kH ⟨xs,xa,xn,xc⟩ ⟨ys,ya,yn,yc⟩ (Mx.at' S i c) (Mx.at' S r c) FX.out FY.out _ ((HX.out.below (Below.trans HBA.out ((Ext.below hw').mono HBA.out.size)) (Nat.le_refl _)).ip) ((HY.out.below (Below.trans HBA.out ((Ext.below hw').mono HBA.out.size)) (Nat.le_refl _)).ip))))|(go_at_call 102;(have hf:=hcb'.get (u:=18) lY;exact dm (gV x201 _ FQ.out _ (IZ.ip (show IZ w' x201 (Mx.at' S i c/Mx.at' S r c)from hf)))))));simp only[rIZ,Act.put,List.setIfInBounds_toArray,List.set_cons_succ,List.set_cons_zero]);(refine Own3.db rfl (fun K hK=>?_) (fun x202=>?_);(focus(go_simp;clear hK K;intro w' hw' hcb';first|(go_at_call 121;exact(dm (kH ⟨xs,xa,xn,xc⟩ ⟨ys,ya,yn,yc⟩ (Mx.at' S i c) (Mx.at' S r c) FX.out FY.out _ ((HX.out.below (Below.trans HBA.out ((Ext.below hw').mono HBA.out.size)) (Nat.le_refl _)).ip) ((HY.out.below (Below.trans HBA.out ((Ext.below hw').mono HBA.out.size)) (Nat.le_refl _)).ip))))|(go_at_call 102;(have hf:=hcb'.get (u:=18) lY;exact dm (gV x201 _ FQ.out _ (IZ.ip (show IZ w' x201 (Mx.at' S i c/Mx.at' S r c)from hf)))))));simp only[Act.put,List.setIfInBounds_toArray,List.set_cons_succ,List.set_cons_zero]);refine zs1 ?_;refine zs1 ?_;refine zs1 ?_;refine zs1 ?_;refine Own3.hZ ?_;intro w20 hw20;have hB20:=hw20.1;have HY201:Hid (IZ w20 x201 (Mx.at' S i c/Mx.at' S r c)):=Lib.hid (hw20.get (u:=18) (Or.inr (Or.inl ⟨rfl,rfl⟩)));have HY202:Hid (IZ w20 x202 (-(Mx.at' S i c/Mx.at' S r c))):=Lib.hid (hw20.get (u:=19) (Or.inl ⟨rfl,rfl⟩));clear hw20;obtain⟨g20,rfl⟩:=mob hB20;clear hB20)
         clear HY201;have hBb:Below wr.heap.size wr (more wr g20):=by exact bel
         have hW20:=HW.out.ext hBy hBb;have hs20:wr.heap.size<=(more wr g20).heap.size:=hBb.size;have gml2:gm<(more wr g20).heap.size:=Nat.lt_of_lt_of_le gml hs20;have hlen1:(Mx.rw S i).length=n:=HRC.out.rw (by rw[HSL.out];exact him);have hlen2:(Mx.rw S r).length=n:=HRC.out.rw (by rw[HSL.out];exact hrr);have hri3:r≠i:=by omega
         have hci:=(hW20.mo.hc i (by rw[hW20.len];exact him)).2.2.2.2;have hcr:=(hW20.mo.hc r (by rw[hW20.len];exact hrr)).2.2.2.2;rw[HRW.out.1]at hci;rw[HRW.out.2]at hcr;have AD:=Lib.hid (wq x202 (-(Mx.at' S i c/Mx.at' S r c)) (gs2 i) (gs2 r) 0 n (cs2 i) (cs2 r) (Mx.rw S i) (Mx.rw S r) hlen1 hlen2 HW.out.mo.n0 (by omega) (cn (e:=E) Ag (by omega)) (qS HSP.out.2 hKf _ Ag) (hW20.mo.dj r i (by rw[hW20.len];exact hrr) (by rw[hW20.len];exact him) hri3) _ HY202.out hci hcr.ra);have HW20:=Lib.hid hW20;have HL12:=Lib.hid (Mx.jA (Mx.rw S r) (Mx.rw S i) c (by omega));clear hBb hW20 hlen2 HY202 hci hcr
         go_wp2_with (first|(go_at_call 160;(with_reducible refine AD.out.mono ?_);rintro e w22 ⟨rfl,hC22,hR22⟩;have HC22:=Lib.hid (And.intro hC22 hR22);clear hC22 hR22))
         go_roundg (r-(i+1))
         case measure=>omega
         case rel=>
          refine⟨i+1,by omega,rfl,by go_num,?_⟩;show R1 _ _ _ _ _ _ _ _ _ _;rw[HNX.out];exact HW20.out.set him (HL12.out.trans hlen1) HC22.out.1 HC22.out.2
        ·have hi2:¬(i:Int)<(r:Int):=by omega
         obtain rfl:i=r:=by omega
         go_wp2_with fail
         go_roundg (cN-(c+1))
         case measure=>omega
         case rel=>
          refine⟨i+1,c+1,gs2,cs2,_,rfl,by omega,by omega,by go_num,by go_num,HW.out,by omega,?_,?_⟩
          ·have:=HEQ.out;rw[HS.out]at this;exact this
          ·have:=HSB.out;rw[HS.out]at this;rw[HE0.out];exact this
   ·have hrr2:¬(r:Int)<(m:Int):=by omega
    have hrr3:decide ((r:Int)<(m:Int))=false:=by rw[decide_eq_false_iff_not];exact hrr2
    have HT:Hid (T=(r,M)):=by
     have h1:=HR.out.eq;rw[Mx.qD (by rw[HR.out.r1.len];exact hrr)]at h1;exact h1.symm
    go_wp2_with fail
    go_ret
    refine⟨by rw[HT.out];rfl,HR.out.r1.bl,gs,cs,?_⟩;rw[HT.out];exact HR.out.r1.mo
  ·have hcc2:¬(c:Int)<(cN:Int):=by omega
   have hcc3:decide ((c:Int)<(cN:Int))=false:=by rw[decide_eq_false_iff_not];exact hcc2
   have HT:Hid (T=(r,M)):=by
    have h1:=HR.out.eq;rw[show cN-c=0 by omega]at h1;exact h1.symm
   go_wp2_with fail
   go_ret
   refine⟨by rw[HT.out];rfl,HR.out.r1.bl,gs,cs,?_⟩;rw[HT.out];exact HR.out.r1.mo
end
section
open Go.RowKit Go.BigFrame
attribute [local go_sem ↓] Go.wp_at_zero Go.wp_at_succ
theorem MR.row{w:World}{v:Value}{n:Nat}{M:Mx.Mat}(h:MR w v n M):∃a cap,v= .slice a M.length cap/\M.length<=cap/\Mx.Rc n M/\(M=[]\/∃gm om,a=some ⟨gm,om,none⟩/\gm<w.heap.size/\
  ∀i,i<M.length->∃b c,w.cell? ⟨gm,om+i,none⟩=some (.slice b n c)/\RV w (.slice b n c) n (Mx.rw M i)):=by
 obtain⟨a,cap,h1,h2,h3,h4⟩:=h;refine⟨a,cap,h1,h2,h3,?_⟩;rcases h4 with h4|⟨gm,om,e,hg,h5⟩
 ·exact .inl h4
 ·refine .inr ⟨gm,om,e,hg,fun i hi=>?_⟩;obtain⟨b,c,k1,k2,kA,k3⟩:=h5 i hi;exact⟨b,c,k1,b,c,rfl,k2,h3.rw hi,kA,k3⟩
theorem eI{M:Mx.Mat}{i:Nat}(h:i<M.length):M[i]?=some (Mx.rw M i):=by
 unfold Mx.rw;rw[List.getD_eq_getElem?_getD,List.getElem?_eq_getElem h];rfl
end
section
open Go.RowKit Go.BigFrame
attribute [local go_sem ↓] Go.wp_at_zero Go.wp_at_succ
def cO(n k:Nat):List Int:=(List.replicate n 0).set k 1
def gO(n:Nat):Mx.Mat:=(List.range n).map (cO n)
theorem ox(n k:Nat):(cO n k).length=n:=by simp[cO]
theorem fO(n:Nat):(gO n).length=n:=by simp[gO]
theorem ux{n k:Nat}(h:k<n):(gO n)[k]?=some (cO n k):=by
 unfold gO;rw[List.getElem?_map,List.getElem?_range h];rfl
theorem EU{M:Mx.Mat}{z z':List Int}:(M++[z]).set M.length z'=M++[z']:=by
 rw[List.set_append,if_neg (Nat.lt_irrefl _),Nat.sub_self,List.set_cons_zero]
set_option maxRecDepth 10000 in
set_option maxHeartbeats 4000000 in
theorem BS(n:Nat)(hn:n<=1000000)(w:World):
  Calls Tryz.prog 143 #[.int .i64 ((n:Int))] w (Ho w n (gO n)):=by
 have hmk:=oJ n (by omega);have hmr:=oK 147 Tryz.underlying147 n (by omega);have OF:=Lib.hid (fun w=>oO 1 ⟨by omega,by omega⟩ w)
 go_enter Tryz.func143,Tryz.ntmps143
 go_wp2_with fail
 go_loopw [9] (fun i wr=>∃(k:Nat) (gs cs:Nat->Nat),k<=n/\i= .int .i64 ((k:Int))/\Below w.heap.size w wr/\Hid (MB wr w.heap.size w.heap.size n gs cs n ((gO n).take k)/\∀i,i<k->w.heap.size<gs i/\gs i<wr.heap.size)) (fun i _=>n-(intOf i).toNat)
 case atStart=>
  exact⟨0,id,id,by omega,rfl,by exact bel,MB.made w w.heap.size n n id id (Nat.le_refl _),fun i hi=>by omega⟩
 case round=>
  obtain⟨k,gs,cs,hk,rfl,hB,HR⟩:=hrel;have hlt:w.heap.size<wr.heap.size:=HR.out.1.lt;by_cases hkn:k<n
  ·have hkn2:(k:Int)<(n:Int):=by omega
   obtain⟨u,hu⟩:=HR.out.1.hl k hkn;have hfr:=HR.out.1.fr k;have hkl:((gO n).take k).length=k:=by rw[List.length_take,fO];omega
   have hRI:=RI.made wr n;have hb1:Below wr.heap.size wr (wr.alloc (.cells (madeCells #[.bool false, .slice none 0 0] (n*2)) 62)):=by exact bel
   have hp := (HR.out.1.below hb1 (Nat.le_refl _)).push (g := wr.heap.size) (c := n) (b := some ⟨wr.heap.size, 0, none⟩) (zs := List.replicate n 0) (by rw [hkl]; exact hkn) (by simp) (Nat.le_refl _) (AD.some _ _) (fun _ => ⟨rfl, ⟨_, hRI⟩, by omega, by omega, fun i hi => by
       have h1:=(HR.out.2 i (by rw[hkl]at hi;exact hi)).2;omega⟩)
   rw[hkl]at hp;have hz1:((gO n).take k++[List.replicate n 0]).length=k+1:=by rw[List.length_append,hkl];rfl
   have e1:(wr.alloc (.cells (madeCells #[.bool false, .slice none 0 0] (n*2)) 62)).setCell ⟨w.heap.size,k,none⟩ (.slice (some ⟨wr.heap.size,0,none⟩) n n)=(wr.setCell ⟨w.heap.size,k,none⟩ (.slice (some ⟨wr.heap.size,0,none⟩) n n)).alloc (.cells (madeCells #[.bool false, .slice none 0 0] (n*2)) 62):=by go_simp
   rw[e1]at hp;have hBW:Below w.heap.size w ((wr.setCell ⟨w.heap.size,k,none⟩ (.slice (some ⟨wr.heap.size,0,none⟩) n n)).alloc (.cells (madeCells #[.bool false, .slice none 0 0] (n*2)) 62)):=by exact bel
   have hsz:((wr.setCell ⟨w.heap.size,k,none⟩ (.slice (some ⟨wr.heap.size,0,none⟩) n n)).alloc (.cells (madeCells #[.bool false, .slice none 0 0] (n*2)) 62)).heap.size=wr.heap.size+1:=by simp
   have HP:=Lib.hid hp;clear hp hRI hb1 e1
   go_upto_region 6 with fail
   generalize(wr.setCell ⟨w.heap.size,k,none⟩ (.slice (some ⟨wr.heap.size,0,none⟩) n n)).alloc (.cells (madeCells #[.bool false, .slice none 0 0] (n*2)) 62)=W1 at*;clear hu hfr;obtain⟨x,c0,c1,c2,_,c3⟩:=(HP.out.mo (by omega)).elem (i:=k) (j:=k) (by rw[hz1];omega) hkn;rw[if_pos rfl]at c1 c2 c3;rw[if_pos rfl,if_pos rfl]at c0;have f0:=(HP.out.mo (by omega)).hc k (by rw[hz1];omega);rw[if_pos rfl]at f0;obtain⟨_,_,_,hgne,hro⟩:=f0;have f1:W1.frozen? ⟨wr.heap.size,k*2,none⟩=false:=hro.elim fun _ h=>h.fr _;have f2:W1.frozen? ⟨wr.heap.size,k*2+1,none⟩=false:=hro.elim fun _ h=>h.fr _;rw[yB,if_pos hkl.symm]at hro;have HRO:=Lib.hid hro;clear hro;have hW:w.heap.size<W1.heap.size:=by omega
   (apply Own3.cB 7 [.inl _, .inl _, .inl _, .inl _, .inl _, .inr (rIZ (1)), .inl _] ae ae;simp only[List.take_succ_cons,List.take_zero,List.drop_succ_cons,List.drop_zero];refine zs1 ?_;refine zs1 ?_;refine zs1 ?_;refine zs1 ?_;refine zs1 ?_;(refine Own3.db rfl (fun K hK=>?_) (fun x61=>?_);(focus(go_simp;clear hK K;intro w' hw' hcb';first|(go_at_call 124;exact(dm (OF.out _)))));simp only[rIZ,Act.put,List.setIfInBounds_toArray,List.set_cons_succ,List.set_cons_zero]);refine zs1 ?_;refine Own3.hZ ?_;intro w6 hw6;have hB6:=hw6.1;have HY61:Hid (IZ w6 x61 (1)):=Lib.hid (hw6.get (u:=5) (Or.inl ⟨rfl,rfl⟩));clear hw6;obtain⟨g6,rfl⟩:=mob hB6;clear hB6)
   go_wp2_with fail
   go_roundw
   case rel=>
    have hgW:wr.heap.size<W1.heap.size:=by omega
    have hm:=(HP.out.mo (by omega)).below (du W1 g6 (Below.refl _ _) (Nat.le_refl _)) (Nat.le_refl _);have hc:Chg wr.heap.size (more W1 g6) (dF (more W1 g6) wr.heap.size k x61):=qB (Chg.refl _ _) k x61;have hr:=(HRO.out.below (B:=W1.heap.size) (w':=more W1 g6) (du W1 g6 (Below.refl _ _) (Nat.le_refl _)) (Nat.le_refl _)).set (k:=k) (by simp;exact hkn) HY61.out;have h2:=(hm.setRow (i:=k) (zs:=cO n k) (by rw[hz1];omega) (ox n k) (by rw[if_pos rfl];exact hc) (by rw[if_pos rfl];exact hr)).mb;have hset:((gO n).take k++[List.replicate n 0]).set k (cO n k)=(gO n).take (k+1):=by
     rw[oy (ux hkn)];have:=EU (M:=(gO n).take k) (z:=List.replicate n 0) (z':=cO n k);rw[hkl]at this;exact this
    have e5:dF (more W1 g6) wr.heap.size k x61=more (dF W1 wr.heap.size k x61) g6:=by unfold dF;go_simp
    rw[hset,e5]at h2;refine⟨k+1,_,_,by omega,by go_num,by exact bel,h2,fun i hi=>?_⟩;have hsz2:W1.heap.size<=(more ((W1.setCell ⟨wr.heap.size,k*2,none⟩ (.bool x61.s)).setCell ⟨wr.heap.size,k*2+1,none⟩ (.slice x61.a x61.n x61.cap)) g6).heap.size:=by simp
    by_cases e:i=k
    ·rw[if_pos e];omega
    ·rw[if_neg e];have h1:=HR.out.2 i (by omega);omega
   case measure=>simp[intOf];omega
  ·obtain rfl:k=n:=by omega
   have hkn2:¬(k:Int)<(k:Int):=by omega
   go_wp2_with fail
   go_ret
   refine⟨⟨w.heap.size,gs,cs,k,by rw[fO];rfl,by rw[fO];exact Nat.le_refl _,?_⟩,hB⟩;have h1:=HR.out.1;rw[List.take_of_length_le (by rw[fO];exact Nat.le_refl _)]at h1;rw[fO];exact h1
end
section
open Go.RowKit Go.BigFrame
attribute [local go_sem ↓] Go.wp_at_zero Go.wp_at_succ
def bV(w:World)(base:Nat)(T:TypeId)(v:Value)(l:List Value):Prop:=w.ownsRow base T 1 v l.length l
theorem bV.nil(w:World)(base:Nat)(T:TypeId):bV w base T (.slice none 0 0) []:=⟨by simp,.inl ⟨rfl,rfl⟩⟩
theorem bV.low{W W':World}{base:Nat}{T:TypeId}{v:Value}{l:List Value}(h:bV W base T v l)(hb:Below W.heap.size W W'):bV W' base T v l:=
 World.ownsRow.kept (row:=none) h ⟨hb.os,hb.tape,hb.output,hb.size,fun k hk _=>hb.block k hk⟩ (by cases v.ownBlock<;>simp)
structure jS(w w':World)(base:Nat)(T:TypeId)(v v':Value)(l:List Value)(u:Value):Prop where
 own:bV w' base T v' (l++[u])
 by':w.grownBy w' v.ownBlock
 at':v'.ownBlock=v.ownBlock\/v'.ownBlock=some w.heap.size
theorem jS.below{w0 w w':World}{base:Nat}{T:TypeId}{v v':Value}{l:List Value}{u:Value}(h:jS w w' base T v v' l u)(hown:bV w base T v l)(hB:Below base w0 w)(hbase:base<=w.heap.size):Below base w0 w':=
 hB.grown h.by' hbase fun k hk=>(hown.lt k hk).1
theorem jS.other{w w':World}{base:Nat}{T T2:TypeId}{v v' v2:Value}{l l2:List Value}{u:Value}(h:jS w w' base T v v' l u)(h2:bV w base T2 v2 l2)(ha:v2.ownBlock=none\/v2.ownBlock≠v.ownBlock):bV w' base T2 v2 l2:=
 World.ownsRow.kept h2 h.by' ha
theorem mF{P:Program}{w:World}{base:Nat}{T t ty:TypeId}{z:Value}{bytes:Nat}(hI:(P.info? T).map (fun i=>(i.zero,i.size,i.bytes))=some (some z,1,bytes))(hz1:z.cells.size=1)(hby:bytes<=64)(ht:P.underlying t=some (.slice T))
  {v u:Value} {l:List Value} (hown:bV w base T v l) (hl:l.length<=1000000000) (hbase:base<=w.heap.size) (a:Addr) (c:Nat) (hc:w.cell? a=some u) (h1:u.oneCell'=true):
  ∃v' w',(Builtin.append_ #[t,t] ty #[v, .slice (some a) 1 c]).run P w= .ok v' w'/\jS w w' base T v v' l u:=by
 obtain⟨i0,hi0,hz0,hzs,hzb⟩:=eu hI;have hnews:∀j x,[u][j]?=some x->w.cell? (a.add j)=some x:=fun j x hx=>by
  match j with
  |0=>
   simp at hx;subst hx;have:a.add 0=a:=by
    obtain⟨b,o,p⟩:=a;cases p<;>simp[Addr.add]
   rw[this];exact hc
  |j+1=>simp at hx
 obtain⟨v',w',hr,h2,h3,_,h5⟩:=run_append_own_at (P:=P) w base t ty T i0 z 1 bytes ht hi0 hz0 hzs hzb hz1 (by omega) v l.length l hown a 1 c [u] (by simp) hnews (by intro x hx;rw[List.mem_singleton.1 hx];exact h1)
  (by simp only [maxLen]; omega) (by have : (l.length + 1) * bytes <= 1000000001 * 64 := Nat.mul_le_mul (by omega) hby
                                     omega) hbase
 exact⟨v',w',hr,by unfold bV;rw[List.length_append];exact h2,h3,h5⟩
theorem rJ{P:Program}{ops:Array Oper}{o:Oper}{a:Act}{w w':World}{K:Act->World->Prop}{Q:Exit->Act->World->Prop}{E:Prop}(hgd:o.guard=none)(s x:Operand)(t tx:TypeId)
  (ho:o.op= .call {callee:=.builtin .append,args:=#[s,x],argTypes:=#[t,tx]}) (v':Value) (hr:(Builtin.append_ #[t,tx] o.type #[a.eval s,a.eval x]).run P w= .ok v' w')
  (hK:K (a.put o.dst v') w'):if Region.wanted o (yielded ops a.tmps)=true then Oper.wp P o a w K Q else E:=by
 have hw:Region.wanted o (yielded ops a.tmps)=true:=by simp[Region.wanted,hgd]
 rw[if_pos hw];unfold Oper.wp execOp;simp only[ho,resolve,invoke,builtin,Sem.run_bind,Sem.run_pure,Result.andThen_ok,List.map_toArray,List.map_cons,List.map_nil,hr];exact hK
theorem dY{P:Program}{ops:Array Oper}{o:Oper}{a:Act}{w:World}{K:Act->World->Prop}{Q:Exit->Act->World->Prop}{E:Prop}{base:Nat}{T t:TypeId}{z:Value}{bytes:Nat}(hI:(P.info? T).map (fun i=>(i.zero,i.size,i.bytes))=some (some z,1,bytes))(hz1:z.cells.size=1)(hby:bytes<=64)(ht:P.underlying t=some (.slice T))
  (hgd:o.guard=none) (s x:Operand) (ho:o.op= .call {callee:=.builtin .append,args:=#[s,x],argTypes:=#[t,t]}) {v u:Value} {l:List Value} {ad:Addr} {c:Nat} (hs:a.eval s=v) (hx:a.eval x= .slice (some ad) 1 c)
  (hown:bV w base T v l) (hl:l.length<=1000000000) (hbase:base<=w.heap.size) (hc:w.cell? ad=some u) (h1:u.oneCell'=true)
  (hK:∀v' w',jS w w' base T v v' l u->K (a.put o.dst v') w'):if Region.wanted o (yielded ops a.tmps)=true then Oper.wp P o a w K Q else E:=by
 obtain⟨v',w',hr,hg⟩:=mF (ty:=o.type) hI hz1 hby ht hown hl hbase ad c hc h1;exact rJ hgd s x t t ho v' (by rw[hs,hx];exact hr) (hK v' w' hg)
theorem jT{P:Program}{ops:Array Oper}{rest:List Oper}{o:Oper}{a:Act}{w:World}{Q:Exit->Act->World->Prop}{base:Nat}{T t:TypeId}{z:Value}{bytes:Nat}(hI:(P.info? T).map (fun i=>(i.zero,i.size,i.bytes))=some (some z,1,bytes))(hz1:z.cells.size=1)(hby:bytes<=64)(ht:P.underlying t=some (.slice T))
  (hgd:o.guard=none) (s x:Operand) (ho:o.op= .call {callee:=.builtin .append,args:=#[s,x],argTypes:=#[t,t]}) {v u:Value} {l:List Value} {ad:Addr} {c:Nat} (hs:a.eval s=v) (hx:a.eval x= .slice (some ad) 1 c)
  (hown:bV w base T v l) (hl:l.length<=1000000000) (hbase:base<=w.heap.size) (hc:w.cell? ad=some u) (h1:u.oneCell'=true)
  (hK:∀v' w',jS w w' base T v v' l u->wpList P ops Q rest (a.put o.dst v') w'):wpList P ops Q (o::rest) a w:=by
 obtain⟨v',w',hr,hg⟩:=mF (ty:=o.type) hI hz1 hby ht hown hl hbase ad c hc h1;exact wpList_append_run hgd s x t t ho v' (by rw[hs,hx];exact hr) (hK v' w' hg)
structure Two(w0 wr w6:World)(base:Nat)(T:TypeId)(v:Value)(l:List Value)(v2:Value)(l2:List Value):Prop where
 bl:Below base w0 w6
 a:bV w6 base T v l
 b:bV w6 base T v2 l2
 ap:v2.ownBlock=none\/v2.ownBlock≠v.ownBlock
 sz:wr.heap.size<=w6.heap.size
theorem oF{w:World}{base:Nat}{T:TypeId}{v:Value}{l:List Value}(h:bV w base T v l){b:Nat}(hb:v.ownBlock=some b):b<w.heap.size:=(World.ownsRow.lt h b hb).2
theorem jF{w0 wr W w6:World}{base:Nat}{T:TypeId}{v v' u v2:Value}{l l2:List Value}(hB:Below wr.heap.size wr W)(hg:jS W w6 base T v v' l u)(hb0:Below base w0 wr)(hbase:base<=wr.heap.size)(h1:bV wr base T v l)(h2:bV wr base T v2 l2)(ha:v2.ownBlock=none\/v2.ownBlock≠v.ownBlock):
  Two w0 wr w6 base T v' (l++[u]) v2 l2/\∀b o,wr.heap.size<=b->b<W.heap.size->w6.cell? ⟨b,o,none⟩=W.cell? ⟨b,o,none⟩:=by
 have hW:Below base w0 W:=hb0.trans (hB.mono hbase);refine⟨⟨hg.below (h1.low hB) hW (Nat.le_trans hbase hB.size),hg.own,hg.other (h2.low hB) ha,?_,Nat.le_trans hB.size hg.by'.size⟩,fun b o h3 h4=>World.cell?_of_block (hg.by'.block b h4 fun e=>?_)⟩
 ·rcases ha with ha|ha
  ·exact .inl ha
  ·rcases hg.at' with h|h
   ·right;rw[h];exact ha
   ·cases e:v2.ownBlock with
    |none=>exact .inl rfl
    |some b=>
     right;rw[h];intro e2;have:=oF h2 e;have:=hB.size;cases e2;omega
 ·have:=oF h1 e.symm;omega
theorem Two.symm{w0 wr w6:World}{base:Nat}{T:TypeId}{v v2:Value}{l l2:List Value}(h:Two w0 wr w6 base T v l v2 l2):Two w0 wr w6 base T v2 l2 v l:=
 ⟨h.bl,h.b,h.a,by
  rcases h.ap with e|e
  ·cases e2:v.ownBlock with
   |none=>exact .inl rfl
   |some b=>right;rw[e];intro e3;cases e3
  ·exact .inr (Ne.symm e),h.sz⟩
def cD(M:Mx.Mat):Mx.Mat:=(List.range M.length).map fun i=>Mx.rw M i++cO M.length i
theorem fj(M:Mx.Mat):(cD M).length=M.length:=by simp[cD]
theorem kX{M:Mx.Mat}{k:Nat}(h:k<M.length):(cD M)[k]?=some (Mx.rw M k++cO M.length k):=by
 unfold cD;rw[List.getElem?_map,List.getElem?_range h];rfl
theorem Ay{n k:Nat}(h:k<n):Mx.rw (gO n) k=cO n k:=by
 unfold Mx.rw;rw[List.getD_eq_getElem?_getD,ux h];rfl
theorem fD{n:Nat}{M:Mx.Mat}(h:Mx.Rc n M):Mx.Rc (n+M.length) (cD M):=fun r hr=>by
 obtain⟨k,hk,rfl⟩:=List.mem_map.1 hr;rw[List.length_append,ox,h.rw (List.mem_range.1 hk)]
theorem Es(n k j:Nat):((cO n k).getD j 0).natAbs<=1:=by
 unfold cO;rw[List.getD_eq_getElem?_getD,List.getElem?_set];split
 ·split
  ·simp
  ·simp
 ·rw[List.getElem?_replicate];split<;>simp
theorem yX{e:Nat}{M:Mx.Mat}(h:Mx.Bd (2^e) M):Mx.Bd (2^e) (cD M):=fun i j=>by
 by_cases hi:i<M.length
 ·have e1 : Mx.rw (cD M) i = Mx.rw M i ++ cO M.length i := by
   unfold Mx.rw;rw[List.getD_eq_getElem?_getD,kX hi];rfl
  unfold Mx.at';rw[e1,List.getD_eq_getElem?_getD];by_cases hj:j<(Mx.rw M i).length
  ·rw[List.getElem?_append_left hj,<-List.getD_eq_getElem?_getD];exact h i j
  ·rw[List.getElem?_append_right (by omega),<-List.getD_eq_getElem?_getD];exact Nat.le_trans (Es _ _ _) (Nat.pow_pos (by omega))
 ·rw[Mx.mO (by rw[fj];omega)];simp
def tk(n:Nat)(M:Mx.Mat):Mx.Mat:=M.map (List.take n)
def dp(n:Nat)(M:Mx.Mat):Mx.Mat:=M.map (List.drop n)
theorem nh{n:Nat}{M:Mx.Mat}{i:Nat}:Mx.rw (tk n M) i=(Mx.rw M i).take n:=by
 unfold Mx.rw tk;rw[List.getD_eq_getElem?_getD,List.getD_eq_getElem?_getD,List.getElem?_map];cases M[i]?<;>simp
theorem G6{n:Nat}{M:Mx.Mat}{i:Nat}:Mx.rw (dp n M) i=(Mx.rw M i).drop n:=by
 unfold Mx.rw dp;rw[List.getD_eq_getElem?_getD,List.getD_eq_getElem?_getD,List.getElem?_map];cases M[i]?<;>simp
theorem RA.take{w:World}{g o:Nat}{zs:List Int}(h:RA w g o zs)(n:Nat):RA w g o (zs.take n):=⟨h.lt,fun k z hz=>h.c k z (by
 rw[List.getElem?_take]at hz;split at hz
 ·exact hz
 ·cases hz)⟩
theorem RA.drop{w:World}{g o:Nat}{zs:List Int}(h:RA w g o zs)(n:Nat):RA w g (o+n*2) (zs.drop n):=⟨h.lt,fun k z hz=>by
 rw[List.getElem?_drop]at hz;have:=h.c (n+k) z hz;rwa[show o+(n+k)*2=o+n*2+k*2 by omega]at this⟩
theorem bV.mr{w:World}{base:Nat}{T:TypeId}{v:Value}{l:List Value}{n:Nat}{M:Mx.Mat}(h:bV w base T v l)(hl:l.length=M.length)(hr:Mx.Rc n M)(hv:∀i,i<M.length->∃u,l[i]?=some u/\RV w u n (Mx.rw M i)):MR w v n M:=by
 obtain⟨h0,h⟩:=h;rcases h with⟨hv',hn⟩|⟨g,cap,cur,rfl,hb,hg,hle,hm,hsz,htk⟩
 ·exact⟨none,0,by rw[hv',show M.length=0 by omega],by omega,hr,.inl (List.eq_nil_of_length_eq_zero (by omega))⟩
 ·refine⟨_,cap,by rw[hl],by omega,hr,.inr ⟨g,0,rfl,(Array.getElem?_eq_some_iff.1 hg).1,fun i hi=>?_⟩⟩;obtain⟨u,hu,b,c,rfl,hc,_,hA,h4⟩:=hv i hi;refine⟨b,c,?_,hc,hA,?_⟩
  ·rw[Nat.zero_add,cell_of_row w g _ cur _ (0,0) hg];have h1:=hu;rw[<-htk,List.getElem?_take_of_lt (by omega),Array.getElem?_toList]at h1;exact h1
  ·rcases h4 with h4|h4
   ·exact .inl h4
   ·exact .inr h4
end
end Go.Proofs.YtcgjmdpcplhanaaGreat
