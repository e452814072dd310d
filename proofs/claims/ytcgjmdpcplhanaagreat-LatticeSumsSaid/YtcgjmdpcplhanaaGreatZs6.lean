/- Lemmas for the law: E10 V3 V5 V6 V7 M4 V4 V8 -/
import Derived.Laws.AppendOwnNone
import Derived.Laws.Cover3
import Derived.Lib.AppendZerosOnto
import Derived.Deep.CutBlock
import Derived.Test.YtcgjmdpcplhanaaGreatZs5
namespace Go.Proofs.YtcgjmdpcplhanaaGreat
section
abbrev EJ:=@Nat.le_mul_of_pos_left
abbrev iT:=@List.getElem?_range
abbrev tf:=@List.getElem?_of_mem
abbrev EI:=@Lib.run_append_grow_zeros
abbrev gG:=@Int.natAbs_mul
abbrev zX:=@Int.natAbs_of_nonneg
abbrev pD:=@Int.zero_mul
abbrev cD:=@Int.natAbs_natCast
abbrev vU:=@Nat.le_of_eq
theorem Er{p:Prop}(h:p:=by(apply Cm;(exact rfl);(exact cK);(exact rfl);(assumption);(exact rfl))):p:=h
theorem zs83{p q:Prop}(h:q)(f:Wq q->p:=by(intro hW;(refine aL1 rfl rfl rfl Er ?_);exact hW.out)):p:=f ⟨h⟩
theorem zs217{p q:Prop}(h:q)(f:Wq q->p:=by(intro hW;(refine gar ?_;refine zs83 ?_;refine zs77 ?_;refine iE ?_;refine aQ ?_);exact hW.out)):p:=f ⟨h⟩
theorem zs84{p q:Prop}(h:q)(f:Wq q->p:=by(intro hW;((first|refine fo rfl rfl rfl ai yv ai ai ?_|((try refine bf ?_);refine aL1 rfl rfl rfl yv ?_)));exact hW.out)):p:=f ⟨h⟩
theorem zs89{p q:Prop}(h:q)(f:Wq q->p:=by(intro hW;((first|refine fo rfl rfl rfl ai zb5 ai ai ?_|((try refine bf ?_);refine aL1 rfl rfl rfl zb5 ?_)));exact hW.out)):p:=f ⟨h⟩
theorem zs85{p q:Prop}(h:q)(f:Wq q->p:=by(intro hW;((first|(first|(refine aHs rfl rfl rfl rfl rfl ?_ ?_;(focus(apply bz;(conv=>lhs;whnf);(first|done|exact rfl|(apply br;(first|(apply aD;omega)|(apply aG;omega)|assumption|(simp;done)))))))|refine vF rfl rfl rfl rfl rfl cI ai zb1 ai ai ?_)|((try refine bf ?_);(first|(refine aLs rfl rfl rfl rfl ?_ ?_;(focus(apply bz;(conv=>lhs;whnf);(first|done|exact rfl|(apply br;(first|(apply aD;omega)|(apply aG;omega)|assumption|(simp;done)))))))|refine aLw rfl rfl rfl rfl cI zb1 ?_))));exact hW.out)):p:=f ⟨h⟩
theorem zs86{p q:Prop}(h:q)(f:Wq q->p:=by(intro hW;((first|(first|(refine aHs rfl rfl rfl rfl rfl ?_ ?_;(focus(apply bz;(conv=>lhs;whnf);(first|done|exact rfl|(apply br;(first|(apply aD;omega)|(apply aG;omega)|assumption|(simp;done)))))))|refine vF rfl rfl rfl rfl rfl cI ai Er ai ai ?_)|((try refine bf ?_);(first|(refine aLs rfl rfl rfl rfl ?_ ?_;(focus(apply bz;(conv=>lhs;whnf);(first|done|exact rfl|(apply br;(first|(apply aD;omega)|(apply aG;omega)|assumption|(simp;done)))))))|refine aLw rfl rfl rfl rfl cI Er ?_))));exact hW.out)):p:=f ⟨h⟩
theorem zs88{p q:Prop}(h:q)(f:Wq q->p:=by(intro hW;((first|(first|(refine aHs rfl rfl rfl rfl rfl ?_ ?_;(focus(apply bz;(conv=>lhs;whnf);(first|done|exact rfl|(apply br;(first|(apply aD;omega)|(apply aG;omega)|assumption|(simp;done)))))))|refine vF rfl rfl rfl rfl rfl cI ai yv ai ai ?_)|((try refine bf ?_);(first|(refine aLs rfl rfl rfl rfl ?_ ?_;(focus(apply bz;(conv=>lhs;whnf);(first|done|exact rfl|(apply br;(first|(apply aD;omega)|(apply aG;omega)|assumption|(simp;done)))))))|refine aLw rfl rfl rfl rfl cI yv ?_))));exact hW.out)):p:=f ⟨h⟩
theorem zs87{p q:Prop}(h:q)(f:Wq q->p:=by(intro hW;((first|(first|(refine aHs rfl rfl rfl rfl rfl ?_ ?_;(focus(apply bz;(conv=>lhs;whnf);(first|done|exact rfl|(apply br;(first|(apply aD;omega)|(apply aG;omega)|assumption|(simp;done)))))))|refine vF rfl rfl rfl rfl rfl cI ai vN ai ai ?_)|((try refine bf ?_);(first|(refine aLs rfl rfl rfl rfl ?_ ?_;(focus(apply bz;(conv=>lhs;whnf);(first|done|exact rfl|(apply br;(first|(apply aD;omega)|(apply aG;omega)|assumption|(simp;done)))))))|refine aLw rfl rfl rfl rfl cI vN ?_))));exact hW.out)):p:=f ⟨h⟩
theorem zs218{p q:Prop}(h:q)(f:Wq q->p:=by(intro hW;(refine zs60 ?_;refine eJ ?_;refine eJ ?_;refine oK ?_;refine zs84 ?_;refine ib ?_;refine zs85 ?_;refine zs86 ?_;refine zs87 ?_;refine zs88 ?_;refine zs89 ?_;refine qy ?_);exact hW.out)):p:=f ⟨h⟩
theorem zs216{p q:Prop}(h:q)(f:Wq q->p:=by(intro hW;(refine iy ?_;refine jw ?_;refine uu ?_;refine aQ ?_);exact hW.out)):p:=f ⟨h⟩
theorem JC{p q:Prop}(h:q)(f:Wq q->p:=by(intro hW;(refine zs2 ?_;refine zs216 ?_;refine zs2 ?_;refine zs217 ?_;refine zs2 ?_;refine zs218 ?_);exact hW.out)):p:=f ⟨h⟩
theorem iS{p:Prop}(h:p:=by rw[HQ.out];exact hkn):p:=h
theorem yt{p:Prop}(h:p:=by rw[HW.out.len];exact hrr):p:=h
theorem xx{p:Prop}(h:p:=by rw[HSL.out];omega):p:=h
theorem JK{p q:Prop}(h:q)(f:Wq q->p:=by(intro hW;(refine cE ?_;refine zs6 ?_;refine uu ?_;refine aQ ?_);exact hW.out)):p:=f ⟨h⟩
theorem jJ{p q:Prop}(h:q)(f:Wq q->p:=by(intro hW;((refine Own3.oW rfl (fun K hK=>?_);go_simp;(try go_bits);refine⟨fun w' hw' hcb'=>?_,hK _ ?_⟩;(focus(first|with_reducible exact rfl|with_reducible exact⟨rfl,rfl⟩|(obtain⟨gx,rfl⟩:=mob (Ext.below hw');go_simp;first|exact rfl|exact⟨rfl,rfl⟩)|(go_at_call 161;(have hf1:=hcb'.get (u:=10) sL;have hf2:=hcb'.get (u:=18) sL;exact(Cn x111 x112 _ _ F1.out F2.out _ (IZ.ip (show IZ w' x111 ((Mx.at' M i c).natAbs:Int)from hf1)) (IZ.ip (show IZ w' x112 ((Mx.at' M t c).natAbs:Int)from hf2)))))));clear hK K));exact hW.out)):p:=f ⟨h⟩
theorem Kb{p:Prop}(h:p:=by rw[pH];exact HQB.out):p:=h
theorem kT{p q:Prop}(h:q)(f:Wq q->p:=by(intro hW;((refine Own3.oW rfl (fun K hK=>?_);go_simp;first|refine⟨rfl,hK _ ?_⟩|refine hK _ ?_;clear hK K));exact hW.out)):p:=f ⟨h⟩
theorem zs90{p q:Prop}(h:q)(f:Wq q->p:=by(intro hW;(refine aL1 rfl rfl rfl (by(first|(apply SL;(exact rfl);(focus((apply aE;(conv=>lhs;whnf);(first|done|exact rfl))));(exact cK);(omega))|(apply fm;(exact rfl);(focus((apply aE;(conv=>lhs;whnf);(first|done|exact rfl))));(exact cK);(exact rfl)))) ?_);exact hW.out)):p:=f ⟨h⟩
theorem JN{p q:Prop}(h:q)(f:Wq q->p:=by(intro hW;(refine gar ?_;refine jw ?_;refine uu ?_;refine aQ ?_);exact hW.out)):p:=f ⟨h⟩
end
section
open Go.RowKit
namespace DW
theorem xI(z:Int):sgn z<0↔z<0:=by unfold sgn;split<;>(try split)<;>omega
theorem TJ(z:Int):sgn z>0↔z>0:=by unfold sgn;split<;>(try split)<;>omega
theorem Ja(l:List Nat){i:Nat}(h:i<=l.length):Dg.vl 65536 (l.drop i)<=Dg.vl 65536 l:=by
 rw[Dg.gU (b:=65536) l h];have:=EJ (Dg.vl 65536 (l.drop i)) (ep (n:=i) (show 0<65536 by decide));omega
def smD(z:Int):D:=if-9223372036854775808<=z/\z<=9223372036854775807 then .tp [zI z,.sc (.bool true)]else .tp [zI 0,.sc (.bool false)]
set_option maxRecDepth 20000
set_option maxHeartbeats 1000000
theorem TD(z:Int)(hz:(hd z.natAbs).length<=199999999):Fn Tryz.prog 146 [.nm z] (smD z):=by
 have D1:=iM (z:=z) (by unfold Hf;omega);have O1:=yM (-9223372036854775808) aa;have O2:=yM 9223372036854775807 aa;have C1:=Li z (-9223372036854775808) hz (aB (jH (k:=4) au) au);have C2:=Li z 9223372036854775807 hz (aB (jH (k:=4) au) au);have s1:=xI (z- -9223372036854775808);have s2:=TJ (z-9223372036854775807);obtain⟨g1,hg1⟩:∃g,g=sgn (z- -9223372036854775808):=⟨_,rfl⟩;obtain⟨g2,hg2⟩:∃g,g=sgn (z-9223372036854775807):=⟨_,rfl⟩;rw[<-hg1]at C1 s1;rw[<-hg2]at C2 s2;clear hg1 hg2;refine bg Tryz.func146 ah rfl rfl rfl fun X0=>?_;simp only[aP];by_cases h1:z< -9223372036854775808
 ·have hg:g1<0:=s1.2 aa;rw[show smD z= .tp [zI 0,.sc (.bool false)]from aj aa];refine JC ?_;refine bA ?_;refine JN ?_;refine zs2 ?_;exact⟨_,Sh.refl,.two (.tmp 2) (.tmp 3) _ _ rfl (.tmp 2 rfl) (.tmp 3 rfl)⟩
 ·have hg:¬g1<0:=fun h=>h1 (by have:=s1.1 h;omega);by_cases h2:z>9223372036854775807
  ·have hg2:g2>0:=s2.2 aa;rw[show smD z= .tp [zI 0,.sc (.bool false)]from aj aa];refine JC ?_;refine bA ?_;refine JN ?_;refine zs2 ?_;exact⟨_,Sh.refl,.two (.tmp 2) (.tmp 3) _ _ rfl (.tmp 2 rfl) (.tmp 3 rfl)⟩
  ·have hg2:¬g2>0:=fun h=>h2 (by have:=s2.1 h;omega);rw[show smD z= .tp [zI z,.sc (.bool true)]from an aa];refine JC ?_;refine bR ?_;refine kZ ?_;refine iA ?_;refine JT ?_;refine zs2 ?_;obtain⟨l,hl⟩:∃l,l=hd z.natAbs:=⟨_,rfl⟩;rw[<-hl]at hz;have hvl:Dg.vl 65536 l=z.natAbs:=by rw[hl,jY]
   have hdl:Dg.dig 65536 l:=by rw[hl];exact kG _
   rw[<-hl];clear hl D1 O1 O2 C1 C2 s1 s2 hg hg2;by_cases hn:z<0
   ·have hd1:decide (z<0)=true:=aD hn
    (refine av (ay (sl':=[(1,.pt (.nm z)),(5,dN l),(6,zI 0),(7,zI (l.length-1))]) (ow':=[]) aF aH) ?_)
    refine bh (fun r s=>r<=l.length/\s=⟨[(1,.pt (.nm z)),(5,dN l),(6,zI (-(Dg.vl 65536 (l.drop r):Int))),(7,zI (r-1))],[]⟩) (m:=l.length) ⟨af _,by rw[pI];rfl⟩ fun r s hs=>?_;obtain⟨hr,rfl⟩:=hs;by_cases hr0:r=0
    ·subst hr0;rw[du,hvl];refine zs2 ?_;refine jn ?_;refine bR ?_;refine JK ?_;refine zs2 ?_;rw[show zI z=zI (-(z.natAbs:Int)) by rw[show-(z.natAbs:Int)=z by omega]];exact⟨_,Sh.refl,.two (.tmp 2) (.tmp 3) _ _ rfl (.tmp 2 rfl) (.tmp 3 rfl)⟩
    ·obtain⟨i,rfl⟩:∃i,r=i+1:=⟨r-1,by omega⟩;have hi:i<l.length:=by omega
     have hx:=rj hi;have hdr:=Dg.cO (b:=65536) hi;have hle:=Ja l (i:=i) aa;have hc:((i+1:Nat):Int)-1=(i:Int):=by omega
     obtain⟨x,hxd⟩:∃x,x=l.getD i 0:=⟨_,rfl⟩;obtain⟨v,hvd⟩:∃v,v=Dg.vl 65536 (l.drop (i+1)):=⟨_,rfl⟩;rw[<-hxd,<-hvd]at hdr;rw[<-hxd]at hx;rw[<-hvd];clear hxd hvd;refine zs2 ?_;refine jn ?_;refine bA ?_;refine JW ?_;refine bA ?_;refine cE ?_;refine zs90 ?_;refine zs4 ?_;refine zs4 ?_;refine zs72 ?_;refine yq ?_;refine zs69 ?_;refine cn ?_;refine xr ?_;refine zs2 ?_;simp only[nx,inB];exact⟨i,_,by omega,(ay (sl':=[(1,.pt (.nm z)),(5,dN l),(6,zI (-(Dg.vl 65536 (l.drop i):Int))),(7,zI ((i:Int)-1))]) (ow':=[]) aF aH),by omega,rfl⟩
   ·have hd1:decide (z<0)=false:=aG hn
    (refine av (ay (sl':=[(1,.pt (.nm z)),(5,dN l),(6,zI 0),(7,zI (l.length-1))]) (ow':=[]) aF aH) ?_)
    refine bh (fun r s=>r<=l.length/\s=⟨[(1,.pt (.nm z)),(5,dN l),(6,zI (Dg.vl 65536 (l.drop r):Int)),(7,zI (r-1))],[]⟩) (m:=l.length) ⟨af _,by rw[pI];rfl⟩ fun r s hs=>?_;obtain⟨hr,rfl⟩:=hs;by_cases hr0:r=0
    ·subst hr0;rw[du,hvl];refine zs2 ?_;refine jn ?_;refine bR ?_;refine JK ?_;refine zs2 ?_;rw[show zI z=zI (z.natAbs:Int) by rw[show(z.natAbs:Int)=z by omega]];exact⟨_,Sh.refl,.two (.tmp 2) (.tmp 3) _ _ rfl (.tmp 2 rfl) (.tmp 3 rfl)⟩
    ·obtain⟨i,rfl⟩:∃i,r=i+1:=⟨r-1,by omega⟩;have hi:i<l.length:=by omega
     have hx:=rj hi;have hdr:=Dg.cO (b:=65536) hi;have hle:=Ja l (i:=i) aa;have hc:((i+1:Nat):Int)-1=(i:Int):=by omega
     obtain⟨x,hxd⟩:∃x,x=l.getD i 0:=⟨_,rfl⟩;obtain⟨v,hvd⟩:∃v,v=Dg.vl 65536 (l.drop (i+1)):=⟨_,rfl⟩;rw[<-hxd,<-hvd]at hdr;rw[<-hxd]at hx;rw[<-hvd];clear hxd hvd;refine zs2 ?_;refine jn ?_;refine bA ?_;refine JW ?_;refine bR ?_;refine cE ?_;refine zs90 ?_;refine zs4 ?_;refine zs4 ?_;refine zs72 ?_;refine yq ?_;refine ur ?_;refine cn ?_;refine xr ?_;refine zs2 ?_;simp only[nx,inB];exact⟨i,_,by omega,(ay (sl':=[(1,.pt (.nm z)),(5,dN l),(6,zI (Dg.vl 65536 (l.drop i):Int)),(7,zI ((i:Int)-1))]) (ow':=[]) aF aH),by omega,rfl⟩
end DW
end
section
open Go.RowKit Go.BigFrame
attribute [local go_sem ↓] Go.wp_at_zero Go.wp_at_succ
theorem neg_get{zs:List Int}{k:Nat}{z:Int}(h:zs[k]?=some z):(Mx.neg zs)[k]?=some (-z):=by
 unfold Mx.neg;rw[bN,h];rfl
set_option maxRecDepth 10000 in
set_option maxHeartbeats 4000000 in
theorem Hg(g n cap:Nat)(zs:List Int)(hn:zs.length=n)(hn1:n<=1000000)(hf:∀z∈zs,Fit z)(hn0:0<n)
  (w:World) (hz:RO w g zs):
  Calls Tryz.prog 186 #[.slice (some ⟨g,0,none⟩) n cap] w (Jv w g (Mx.neg zs)):=by
 have HZ:=ae hz;have HF:Hid _:=hf;have HN:=ae hn;have hnw:Hid (NW w g):=hz.nw (fun e=>by rw[e]at hn;simp at hn;omega);have hg:g<w.heap.size:=hz.lt;clear hz hf hn
 go_enter Tryz.func186,Tryz.ntmps186
 go_wp2_with fail
 go_loopw [6] (fun i wr=>∃k:Nat,k<=n/\i= .int .i64 ((k:Int))/\Hid (Chg g w wr)/\Hid (RO wr g (part k (Mx.neg zs) zs))) (fun i _=>n-(intOf i).toNat)
 case atStart=>exact⟨0,by omega,rfl,Chg.refl _ _,by show RO _ _ _;rw[rY];exact HZ.out⟩
 case round=>
  obtain⟨k,hk,rfl,HC,HR⟩:=hrel;by_cases hkn:k<n
  ·have hkn2:(k:Int)<(n:Int):=by omega
   have hx:=getD_some (l:=zs) (k:=k) zF;generalize zs.getD k 0=xz at hx;have HX:=ae hx;have FX:=ae (HF.out xz (bj hx));obtain⟨x,cx0,cx1,hxz,f0,f1⟩:=HR.out.at (k:=k) (z:=xz) (by rw[tV (Mx.oV zs) zF];exact hx);have HXZ:=ae hxz;have hg2:g<wr.heap.size:=aZ hg HC.out.size;obtain⟨xs,xa,xn,xc⟩:=x;simp only[]at cx0 cx1;clear hx hxz
   go_wp2_with (first|(go_at_call 102;(with_reducible refine(nj ⟨xs,xa,xn,xc⟩ xz FX.out _ ?_).mono ?_);(exact(HXZ.out.below (B:=wr.heap.size) aA (af _)).ip);rintro e w1 ⟨⟨y,rfl,hy⟩,hb1⟩;have HY:=ae hy;clear hy;have HB1:=ae hb1;obtain⟨g1,rfl⟩:=mob hb1;clear hb1))
   go_roundw
   case rel=>
    have h1:=(HR.out.below (B:=wr.heap.size) (w':=more (wr.alloc (.cells #[.bool xs,.slice xa xn xc] 62)) g1) aA (af _)).set (k:=k) (by rw[qS (Mx.oV zs),HN.out];exact hkn) HY.out;rw[qR (Mx.oV zs) (neg_get HX.out)]at h1;have h2:=qN ((HC.out.alloc (.cells #[.bool xs,.slice xa xn xc] 62)).mor g1) k y;have e5:gI (more (wr.alloc (.cells #[.bool xs,.slice xa xn xc] 62)) g1) g k y=more ((gI wr g k y).alloc (.cells #[.bool xs,.slice xa xn xc] 62)) g1:=by unfold gI;go_simp
    rw[e5]at h1 h2;exact⟨k+1,by omega,by go_num,h2,h1⟩
   case measure=>simp[intOf];omega
  ·obtain rfl:k=n:=by omega
   have hkn2:¬(k:Int)<(k:Int):=by omega
   go_wp2_with fail
   (first|refine bodyPost_ret (results_none rfl _ _ _) rfl ?_|refine bodyPost_end (results_none rfl _ _ _) rfl ?_)
   refine⟨rfl,HC.out,?_⟩;have h1:=HR.out;rw[vb (by rw[Mx.oV,HN.out];exact af _) (by rw[HN.out];exact af _)]at h1;exact h1
structure MO(w:World)(B gm L:Nat)(gs cs:Nat->Nat)(n:Nat)(M:Mx.Mat):Prop where
 b:B<=gm
 lt:gm<w.heap.size
 fr:∀k,w.frozen? ⟨gm,k,none⟩=false
 hl:∀i,i<L->∃u,w.cell? ⟨gm,i,none⟩=some u
 nw:NW w gm
 ml:M.length<=L
 rc:Mx.Rc n M
 n0:0<n
 hc:∀i,i<M.length->w.cell? ⟨gm,i,none⟩=some (.slice (some ⟨gs i,0,none⟩) n (cs i))/\n<=cs i/\B<=gs i/\gs i≠gm/\RO w (gs i) (Mx.rw M i)
 dj:∀i j,i<M.length->j<M.length->i≠j->gs i≠gs j
theorem NW.tX{w w':World}{g:Nat}(h:NW w g)(e:w'.cell? ⟨g,0,none⟩=w.cell? ⟨g,0,none⟩):NW w' g:=fun n h2=>h n (e.symm.trans h2)
theorem MO.below{B':Nat}{w w':World}{B gm L:Nat}{gs cs:Nat->Nat}{n:Nat}{M:Mx.Mat}(h:MO w B gm L gs cs n M)(hb:Below B' w w')(hB:w.heap.size<=B'):MO w' B gm L gs cs n M:=by
 have hg:gm<B':=aZ h.lt hB;refine⟨h.b,aZ h.lt hb.size,fun k=>(hb.frozen (p:=⟨gm,k,none⟩) hg).trans (h.fr k),fun i hi=>?_,h.nw.tX (hb.cell (p:=⟨gm,0,none⟩) hg),h.ml,h.rc,h.n0,fun i hi=>?_,h.dj⟩
 ·obtain⟨u,hu⟩:=h.hl i hi;exact⟨u,(hb.cell (p:=⟨gm,i,none⟩) hg).trans hu⟩
 ·obtain⟨h1,h2,h3,h4,h5⟩:=h.hc i hi;exact⟨(hb.cell (p:=⟨gm,i,none⟩) hg).trans h1,h2,h3,h4,h5.below hb hB⟩
theorem MO.Vu{w:World}{B gm L:Nat}{gs cs:Nat->Nat}{n:Nat}{M:Mx.Mat}(h:MO w B gm L gs cs n M){i:Nat}(hi:i<M.length):Mx.rw M i≠[]:=fun e=>by
 have:=h.rc.rw hi;have:=h.n0;rw[e]at*;simp at*;omega
theorem MO.Vt{w:World}{B gm L:Nat}{gs cs:Nat->Nat}{n:Nat}{M:Mx.Mat}(h:MO w B gm L gs cs n M){i:Nat}(hi:i<M.length):NW w (gs i):=(h.hc i hi).2.2.2.2.nw (h.Vu hi)
theorem MO.setRow{w w':World}{B gm L:Nat}{gs cs:Nat->Nat}{n:Nat}{M:Mx.Mat}(h:MO w B gm L gs cs n M){i:Nat}(hi:i<M.length){zs:List Int}(hz:zs.length=n)(k:Chg (gs i) w w')(hr:RO w' (gs i) zs):MO w' B gm L gs cs n (M.set i zs):=by
 have hne:=(h.hc i hi).2.2.2.1;have hnw:=h.Vt hi;refine⟨h.b,aZ h.lt k.size,fun j=>(k.frozen h.lt (Ne.symm hne)).trans (h.fr j),fun j hj=>?_,h.nw.tX (k.cell h.lt (Ne.symm hne)),by rw[fG];exact h.ml,h.rc.set hz,h.n0,fun j hj=>?_,fun a b ha hb=>?_⟩
 ·obtain⟨u,hu⟩:=h.hl j hj;exact⟨u,(k.cell h.lt (Ne.symm hne)).trans hu⟩
 ·rw[fG]at hj;obtain⟨h1,h2,h3,h4,h5⟩:=h.hc j hj;refine⟨(k.cell h.lt (Ne.symm hne)).trans h1,h2,h3,h4,?_⟩;rw[Mx.qO _ _ _ _ hi];by_cases e:j=i
  ·rw[an e,e];exact hr
  ·rw[aj e];exact h5.chg k hnw (h.dj j i hj hi e)
 ·rw[fG]at ha hb;exact h.dj a b ha hb
def ix(f:Nat->Nat)(i j:Nat):Nat->Nat:=fun k=>if k=j then f i else if k=i then f j else f k
theorem MO.swp{w:World}{B gm L:Nat}{gs cs:Nat->Nat}{n:Nat}{M:Mx.Mat}(h:MO w B gm L gs cs n M){i j:Nat}(hi:i<M.length)(hj:j<M.length):
  MO ((w.setCell ⟨gm,i,none⟩ (.slice (some ⟨gs j,0,none⟩) n (cs j))).setCell ⟨gm,j,none⟩ (.slice (some ⟨gs i,0,none⟩) n (cs i))) B gm L (ix gs i j) (ix cs i j) n (Mx.swp M i j):=by
 have k:Chg gm w ((w.setCell ⟨gm,i,none⟩ (.slice (some ⟨gs j,0,none⟩) n (cs j))).setCell ⟨gm,j,none⟩ (.slice (some ⟨gs i,0,none⟩) n (cs i))):=((Chg.refl gm w).set gm _ _ (.inl rfl)).set gm _ _ (.inl rfl);obtain⟨i1,i2,i3,i4,i5⟩:=h.hc i hi;obtain⟨j1,j2,j3,j4,j5⟩:=h.hc j hj;have cell:∀(l:Nat) (u:Value),w.cell? ⟨gm,l,none⟩=some u->((w.setCell ⟨gm,i,none⟩ (.slice (some ⟨gs j,0,none⟩) n (cs j))).setCell ⟨gm,j,none⟩ (.slice (some ⟨gs i,0,none⟩) n (cs i))).cell? ⟨gm,l,none⟩=some (if l=j then .slice (some ⟨gs i,0,none⟩) n (cs i)else if l=i then .slice (some ⟨gs j,0,none⟩) n (cs j)else u):=fun l u hu=>by
  by_cases e:l=j
  ·subst e;rw[an rfl];by_cases e2:l=i
   ·subst e2;exact gl _ _ _ _ _ (gl _ _ _ _ _ hu)
   ·exact gl _ _ _ _ _ ((fj _ _ _ _ _ e2).trans hu)
  ·rw[aj e,fj _ _ _ _ _ e];by_cases e2:l=i
   ·subst e2;rw[an rfl];exact gl _ _ _ _ _ hu
   ·rw[aj e2,fj _ _ _ _ _ e2];exact hu
 refine⟨h.b,by simpa using h.lt,fun l=>by rw[World.frozen?_setCell,World.frozen?_setCell];exact h.fr l,fun l hl=>?_,fun m e=>?_,by rw[Mx.dn];exact h.ml,Mx.mH h.rc hi hj,h.n0,fun l hl=>?_,fun a b ha hb hab=>?_⟩
 ·obtain⟨u,hu⟩:=h.hl l hl;exact⟨_,cell l u hu⟩
 ·obtain⟨u,hu⟩:=h.hl 0 (by have:=h.ml;omega);rw[cell 0 u hu]at e;simp only[ak]at e;split at e
  ·cases e
  ·split at e
   ·cases e
   ·rw[e]at hu;exact h.nw m hu
 ·rw[Mx.dn]at hl;obtain⟨h1,h2,h3,h4,h5⟩:=h.hc l hl;rw[cell l _ h1,Mx.Ao hi hj];unfold ix;by_cases e:l=j
  ·rw[an e,an e,an e,an e];exact⟨rfl,i2,i3,i4,i5.chg k h.nw i4⟩
  ·rw[aj e,aj e,aj e,aj e];by_cases e2:l=i
   ·rw[an e2,an e2,an e2,an e2];exact⟨rfl,j2,j3,j4,j5.chg k h.nw j4⟩
   ·rw[aj e2,aj e2,aj e2,aj e2];exact⟨rfl,h2,h3,h4,h5.chg k h.nw h4⟩
 ·rw[Mx.dn]at ha hb;unfold ix;by_cases a1:a=j
  ·rw[an a1];by_cases b1:b=j
   ·omega
   ·rw[aj b1];by_cases b2:b=i
    ·rw[an b2];by_cases e:i=j
     ·omega
     ·exact h.dj i j hi hj e
    ·rw[aj b2];exact h.dj i b hi hb (Ne.symm b2)
  ·rw[aj a1];by_cases a2:a=i
   ·rw[an a2];by_cases b1:b=j
    ·rw[an b1];by_cases e:i=j
     ·omega
     ·exact h.dj j i hj hi (Ne.symm e)
    ·rw[aj b1,aj aa];exact h.dj j b hj hb (Ne.symm b1)
   ·rw[aj a2];by_cases b1:b=j
    ·rw[an b1];exact h.dj a i ha hi a2
    ·rw[aj b1];by_cases b2:b=i
     ·rw[an b2];exact h.dj a j ha hj a1
     ·rw[aj b2];exact h.dj a b ha hb hab
end
section
open Go.RowKit Go.BigFrame
attribute [local go_sem ↓] Go.wp_at_zero Go.wp_at_succ
def AD(b:Option Addr):Prop:=∃g o,b=some ⟨g,o,none⟩
theorem AD.some(g o:Nat):AD (some ⟨g,o,none⟩):=⟨g,o,rfl⟩
structure MB(w:World)(B gm L:Nat)(gs cs:Nat->Nat)(n:Nat)(M:Mx.Mat):Prop where
 b:B<=gm
 lt:gm<w.heap.size
 fr:∀k,w.frozen? ⟨gm,k,none⟩=false
 hl:∀i,i<L->∃u,w.cell? ⟨gm,i,none⟩=some u
 nw:NW w gm
 ml:M.length<=L
 rc:Mx.Rc n M
 hc:∀i,i<M.length->∃b,w.cell? ⟨gm,i,none⟩=some (.slice b n (cs i))/\n<=cs i/\AD b/\(0<n->b=some ⟨gs i,0,none⟩/\B<=gs i/\gs i≠gm/\RO w (gs i) (Mx.rw M i))
 dj:0<n->∀i j,i<M.length->j<M.length->i≠j->gs i≠gs j
theorem MB.mo{w:World}{B gm L:Nat}{gs cs:Nat->Nat}{n:Nat}{M:Mx.Mat}(h:MB w B gm L gs cs n M)(h0:0<n):MO w B gm L gs cs n M:=
 ⟨h.b,h.lt,h.fr,h.hl,h.nw,h.ml,h.rc,h0,fun i hi=>by
  obtain⟨b,h1,h2,_,h3⟩:=h.hc i hi;obtain⟨rfl,h4,h5,h6⟩:=h3 h0;exact⟨h1,h2,h4,h5,h6⟩,h.dj h0⟩
theorem MO.mb{w:World}{B gm L:Nat}{gs cs:Nat->Nat}{n:Nat}{M:Mx.Mat}(h:MO w B gm L gs cs n M):MB w B gm L gs cs n M:=
 ⟨h.b,h.lt,h.fr,h.hl,h.nw,h.ml,h.rc,fun i hi=>by
  obtain⟨h1,h2,h3,h4,h5⟩:=h.hc i hi;exact⟨_,h1,h2,AD.some _ _,fun _=>⟨rfl,h3,h4,h5⟩⟩,fun _=>h.dj⟩
theorem MB.below{B':Nat}{w w':World}{B gm L:Nat}{gs cs:Nat->Nat}{n:Nat}{M:Mx.Mat}(h:MB w B gm L gs cs n M)(hb:Below B' w w')(hB:w.heap.size<=B'):MB w' B gm L gs cs n M:=by
 have hg:gm<B':=aZ h.lt hB;refine⟨h.b,aZ h.lt hb.size,fun k=>(hb.frozen (p:=⟨gm,k,none⟩) hg).trans (h.fr k),fun i hi=>?_,h.nw.tX (hb.cell (p:=⟨gm,0,none⟩) hg),h.ml,h.rc,fun i hi=>?_,h.dj⟩
 ·obtain⟨u,hu⟩:=h.hl i hi;exact⟨u,(hb.cell (p:=⟨gm,i,none⟩) hg).trans hu⟩
 ·obtain⟨b,h1,h2,hA,h3⟩:=h.hc i hi;exact⟨b,(hb.cell (p:=⟨gm,i,none⟩) hg).trans h1,h2,hA,fun h0=>⟨(h3 h0).1,(h3 h0).2.1,(h3 h0).2.2.1,(h3 h0).2.2.2.below hb hB⟩⟩
theorem BW(M:Mx.Mat)(zs:List Int)(i:Nat):Mx.rw (M++[zs]) i=if i=M.length then zs else Mx.rw M i:=by
 unfold Mx.rw;rw[aq,aq];by_cases e:i=M.length
 ·subst e;rw[an rfl,ez (af _)];simp
 ·rw[aj e];by_cases e2:i<M.length
  ·rw[dC e2]
  ·rw[ez aa,gQ cU,gQ aa]
theorem MB.push{w:World}{B gm L:Nat}{gs cs:Nat->Nat}{n:Nat}{M:Mx.Mat}(h:MB w B gm L gs cs n M){g c:Nat}{b:Option Addr}{zs:List Int}(hL:M.length<L)(hz:zs.length=n)(hc:n<=c)(hA:AD b)(hr:0<n->b=some ⟨g,0,none⟩/\RO w g zs/\B<=g/\g≠gm/\∀i,i<M.length->gs i≠g):
  MB (w.setCell ⟨gm,M.length,none⟩ (.slice b n c)) B gm L (fun i=>if i=M.length then g else gs i) (fun i=>if i=M.length then c else cs i) n (M++[zs]):=by
 have k:Chg gm w (w.setCell ⟨gm,M.length,none⟩ (.slice b n c)):=(Chg.refl gm w).set gm _ _ (.inl rfl);have cell:∀(l:Nat) (u:Value),w.cell? ⟨gm,l,none⟩=some u->(w.setCell ⟨gm,M.length,none⟩ (.slice b n c)).cell? ⟨gm,l,none⟩=some (if l=M.length then .slice b n c else u):=fun l u hu=>by
  by_cases e:l=M.length
  ·rw[an e,<-e];exact gl _ _ _ _ _ hu
  ·rw[aj e,fj _ _ _ _ _ e];exact hu
 refine⟨h.b,by simpa using h.lt,fun l=>by rw[World.frozen?_setCell];exact h.fr l,fun l hl=>?_,fun m e=>?_,by simp;omega,fun r hr=>?_,fun l hl=>?_,fun h0 a b ha hb hab=>?_⟩
 ·obtain⟨u,hu⟩:=h.hl l hl;exact⟨_,cell l u hu⟩
 ·obtain⟨u,hu⟩:=h.hl 0 aa;rw[cell 0 u hu]at e;simp only[ak]at e;split at e
  ·cases e
  ·rw[e]at hu;exact h.nw m hu
 ·rcases gy.1 hr with h1|h1
  ·exact h.rc r h1
  ·rw[bL.1 h1];exact hz
 ·simp only[cv,kv]at hl;rw[BW];by_cases e:l=M.length
  ·subst e;obtain⟨u,hu⟩:=h.hl M.length hL;rw[cell _ u hu,an rfl,an rfl,an rfl,an rfl];exact⟨b,rfl,hc,hA,fun h0=>⟨(hr h0).1,(hr h0).2.2.1,(hr h0).2.2.2.1,(hr h0).2.1.chg k h.nw (hr h0).2.2.2.1⟩⟩
  ·obtain⟨b',h1,h2,hA',h3⟩:=h.hc l aa;rw[cell l _ h1,aj e,aj e,aj e,aj e];exact⟨b',rfl,h2,hA',fun h0=>⟨(h3 h0).1,(h3 h0).2.1,(h3 h0).2.2.1,(h3 h0).2.2.2.chg k h.nw (h3 h0).2.2.1⟩⟩
 ·simp only[cv,kv]at ha hb;by_cases a1:a=M.length
  ·rw[an a1,aj aa];exact fun e=>(hr h0).2.2.2.2 b aa e.symm
  ·rw[aj a1];by_cases b1:b=M.length
   ·rw[an b1];exact(hr h0).2.2.2.2 a aa
   ·rw[aj b1];exact h.dj h0 a b aa aa hab
theorem oQ:(Tryz.prog.info? 147).map (fun i=>(i.zero,i.size,i.bytes))=some (some (.slice none 0 0),1,24):=by kernel_rfl
theorem pN(n:Nat)(hn:n<=1000000000)(w:World):
  (Instr.makeSlice 104 (.int .i64 (n:Int)) (.int .i64 (n:Int))).run Tryz.prog w= .ok (.slice (some ⟨w.heap.size,0,none⟩) n n) (w.alloc (.cells (madeCells #[.slice none 0 0] n) 147)):=by
 obtain⟨i,hi,hz,hs,hb⟩:=im oQ;have hr:=run_make (P:=Tryz.prog) w 104 147 i _ Tryz.underlying104 hi hz .i64 .i64 n n aa (tD _) (by rw[hb];omega) aa;rw[hs]at hr;simpa[Value.cells]using hr
theorem KP(n k:Nat)(hk:k<n):(madeCells #[.slice none 0 0] n)[k]?=some (.slice none 0 0):=by
 unfold madeCells;rw[tC,vZ,an aa];simp[Nat.mod_one]
theorem MB.made(w:World)(B L n:Nat)(gs cs:Nat->Nat)(hB:B<=w.heap.size):MB (w.alloc (.cells (madeCells #[.slice none 0 0] L) 147)) B w.heap.size L gs cs n []:=by
 have hh:=heap_alloc_new w (.cells (madeCells #[.slice none 0 0] L) 147);have hc:∀i,i<L->(w.alloc (.cells (madeCells #[.slice none 0 0] L) 147)).cell? ⟨w.heap.size,i,none⟩=some (.slice none 0 0):=fun i hi=>by
  rw[cell_of_row _ w.heap.size _ _ _ (0,0) hh];exact KP L i hi
 refine⟨hB,by simp,fun k=>?_,fun i hi=>⟨_,hc i hi⟩,fun n e=>?_,aO _,fun r hr=>by(cases hr),fun i hi=>by(simp at hi),fun _ i j hi=>by(simp at hi)⟩
 ·simp only[World.frozen?];rw[hh];simp
 ·by_cases hL:0<L
  ·rw[hc 0 hL]at e;cases e
  ·rw[cell_of_row _ w.heap.size _ _ _ (0,0) hh]at e;have:L=0:=by omega
   subst this;simp[madeCells]at e
def MR(w:World)(v:Value)(n:Nat)(M:Mx.Mat):Prop:=∃a cap,v= .slice a M.length cap/\M.length<=cap/\Mx.Rc n M/\(M=[]\/∃gm om,a=some ⟨gm,om,none⟩/\gm<w.heap.size/\
 ∀i,i<M.length->∃b c,w.cell? ⟨gm,om+i,none⟩=some (.slice b n c)/\n<=c/\AD b/\(n=0\/∃g o,b=some ⟨g,o,none⟩/\RA w g o (Mx.rw M i)))
theorem MR.below{B:Nat}{w w':World}{v:Value}{n:Nat}{M:Mx.Mat}(h:MR w v n M)(hb:Below B w w')(hB:w.heap.size<=B):MR w' v n M:=by
 obtain⟨a,cap,h1,h2,h3,h4⟩:=h;refine⟨a,cap,h1,h2,h3,?_⟩;rcases h4 with h4|⟨gm,om,e,hg,h5⟩
 ·exact .inl h4
 ·refine .inr ⟨gm,om,e,aZ hg hb.size,fun i hi=>?_⟩;obtain⟨b,c,k1,k2,kA,k3⟩:=h5 i hi;refine⟨b,c,(hb.cell (p:=⟨gm,_,none⟩) (aZ hg hB)).trans k1,k2,kA,?_⟩;rcases k3 with k3|⟨g,o,e,k4⟩
  ·exact .inl k3
  ·exact .inr ⟨g,o,e,k4.below hb hB⟩
def ZM(w:World)(v:Value)(m:List (List Int)):Prop:=∃a cap,v= .slice a m.length cap/\m.length<=cap/\(m=[]\/∃a0,a=some a0/\a0.block<w.heap.size/\
 ∀(i:Nat) (l:List Int),m[i]?=some l->∃b c,w.cell? (a0.add i)=some (.slice b l.length c)/\l.length<=c/\ZAt w b l)
theorem Bh{B:Nat}{w w':World}(hb:Below B w w')(hB:w.heap.size<=B){a:Addr}{v:Value}(h:w.cell? a=some v):w'.cell? a=some v:=by
 have h2:=World.block_lt_of_cell? w _ h;rw[hb.cell (aZ h2 hB)];exact h
def qo(w:World)(n:Nat)(M:Mx.Mat)(e:Ending)(w':World):Prop:=(∃gm gs cs cap,e= .returned (.slice (some ⟨gm,0,none⟩) M.length cap)/\M.length<=cap/\MB w' w.heap.size gm M.length gs cs n M)/\Below w.heap.size w w'
theorem pL{m:List (List Int)}{k:Nat}{l:List Int}(h:m[k]?=some l):m.take (k+1)=m.take k++[l]:=by
 rw[nX,h];rfl
set_option maxRecDepth 10000 in
set_option maxHeartbeats 4000000 in
theorem Th(m:List (List Int))(n:Nat)(v:Value)(hm:m.length<=1000000)(hn:n<=1000000)(hr:Mx.Rc n m)(hb:∀l∈m,∀z∈l,I64 z)(w:World)(h:ZM w v m):
  Calls Tryz.prog 72 #[v] w (qo w n m):=by
 obtain⟨a,cap,rfl,_,h4⟩:=h;have RO':=ae (fun (l:List Int) (hl:l∈m) a cap w hz=>Mq l a cap (by rw[hr l hl];exact hn) (hb l hl) w hz);have HRC:Hid (Mx.Rc n m):=hr;have hmk:=pN m.length aa;have H4:=ae h4;clear hb hr h4;generalize hml:m.length=q at*;have HQ:=ae hml;clear hml
 go_enter Tryz.func72,Tryz.ntmps72
 go_wp2_with fail
 go_loopw [11] (fun i wr=>∃(k:Nat) (gs cs:Nat->Nat),k<=q/\i= .int .i64 ((k:Int))/\Below w.heap.size w wr/\Hid (MB wr w.heap.size w.heap.size q gs cs n (m.take k)/\∀i,i<k->0<n->w.heap.size<gs i/\gs i<wr.heap.size)) (fun i _=>q-(intOf i).toNat)
 case atStart=>
  exact⟨0,id,id,by omega,rfl,by exact bel,MB.made w w.heap.size q n id id (af _),fun i hi=>by omega⟩
 case round=>
  obtain⟨k,gs,cs,hk,rfl,hB,HR⟩:=hrel;have hlt:w.heap.size<wr.heap.size:=HR.out.1.lt;by_cases hkn:k<q
  ·have hkn2:(k:Int)<(q:Int):=by omega
   obtain⟨l,hl⟩:∃l,m[k]?=some l:=⟨m[k]'(by rw[HQ.out];omega),aV _⟩;have hll:l.length=n:=HRC.out l (bj hl);rcases H4.out with h0|⟨a0,ha,hal,hcc⟩
   ·rw[h0]at hl;simp at hl
   obtain⟨b,c,cz,hlc,hza⟩:=hcc k l hl;have cz2:=Bh hB (af _) cz;subst ha;have HZA:=ae (hza.below hB (af _));have ROl:=ae (RO'.out l (bj hl) b c);rw[hll]at ROl;obtain⟨u,hu⟩:=HR.out.1.hl k hkn;have hfr:=HR.out.1.fr k;have HL:=ae (And.intro hl hll);clear hcc hl hza cz
   go_wp2_with (first|(go_at_call 142;(with_reducible refine(ROl.out _ ?_).mono ?_);(exact HZA.out.below (B:=wr.heap.size) aA (af _));rintro e w4 ⟨⟨g4',xs,rfl,hge,hy⟩,hb4⟩;have HY:=ae (And.intro hge hy);clear hge hy;have HB4:=ae hb4;obtain⟨g4,rfl⟩:=mob hb4;clear hb4))
   go_roundw
   case rel=>
    have hp:=(HR.out.1.below HB4.out (af _)).push (g:=g4') (c:=l.length) (b:=some ⟨g4',0,none⟩) (zs:=l) (by rw[aY,HQ.out];omega) HL.out.2 aa (AD.some _ _) (fun h0=>⟨rfl,⟨xs,HY.out.2⟩,by have:=HY.out.1;omega,by have:=HY.out.1;omega,fun i hi=>by
     have h1:=(HR.out.2 i (by rw[aY,HQ.out]at hi;omega) h0).2;have:=HY.out.1;omega⟩)
    have hkl:(m.take k).length=k:=by rw[aY,HQ.out];omega
    rw[<-pL HL.out.1,hkl]at hp;have hg4:g4'<(more wr g4).heap.size:=HY.out.2.lt;have e5:(more wr g4).setCell ⟨w.heap.size,k,none⟩ (.slice (some ⟨g4',0,none⟩) n l.length)=more (wr.setCell ⟨w.heap.size,k,none⟩ (.slice (some ⟨g4',0,none⟩) n l.length)) g4:=oe _ _ _ _ hlt;rw[e5]at hp;rw[HL.out.2]at hp;refine⟨k+1,_,_,by omega,by go_num,by exact bel,hp,fun i hi h0=>?_⟩;have hsz:(more (wr.setCell ⟨w.heap.size,k,none⟩ (.slice (some ⟨g4',0,none⟩) n n)) g4).heap.size=(more wr g4).heap.size:=by simp
    rw[hsz];by_cases e:i=k
    ·rw[an e];have:=HY.out.1;omega
    ·rw[aj e];have h1:=HR.out.2 i aa h0;have:wr.heap.size<=(more wr g4).heap.size:=HB4.out.size;omega
   case measure=>simp[intOf];omega
  ·obtain rfl:k=q:=by omega
   have hkn2:¬(k:Int)<(k:Int):=by omega
   go_wp2_with fail
   go_ret
   refine⟨⟨w.heap.size,gs,cs,k,by rw[HQ.out];rfl,by rw[HQ.out];exact af _,?_⟩,hB⟩;have h1:=HR.out.1;rw[cf Bv]at h1;rw[HQ.out];exact h1
end
section
open Go.RowKit Go.BigFrame
attribute [local go_sem ↓] Go.wp_at_zero Go.wp_at_succ
def jZ(l:List IV):List Value:=l.flatMap fun x=>[.bool x.s,.slice x.a x.n x.cap]
theorem Hp(l m:List IV):jZ (l++m)=jZ l++jZ m:=by simp[jZ]
theorem Gp:∀l:List IV,(jZ l).length=l.length*2
 |[]=>rfl
 |x::l=>by
  show(([.bool x.s,.slice x.a x.n x.cap]:List Value)++jZ l).length=_;rw[cv,Gp l,iD];simp;omega
theorem Ci:∀(l:List IV) (k:Nat) (x:IV),l[k]?=some x->(jZ l)[k*2]?=some (.bool x.s)/\(jZ l)[k*2+1]?=some (.slice x.a x.n x.cap)
 |y::l,0,x,h=>by
  simp at h;subst h;exact⟨rfl,rfl⟩
 |y::l,k+1,x,h=>by
  have ih:=Ci l k x uD;rw[show(k+1)*2=k*2+2 by omega];exact ih
def mB(w:World)(base:Nat)(v:Value)(l:List IV):Prop:=w.ownsRow base 62 2 v l.length (jZ l)
theorem mB.nil(w:World)(base:Nat):mB w base (.slice none 0 0) []:=⟨by simp[jZ],.inl ⟨rfl,rfl⟩⟩
theorem mB.KG(W:World)(base b:Nat)(hb:b=W.heap.size)(h:base<=b):mB (W.alloc (.cells #[] 62)) base (.slice (some ⟨b,0,none⟩) 0 0) []:=by
 subst hb;exact⟨by simp[jZ],.inr ⟨W.heap.size,0,#[],rfl,h,heap_alloc_new W (.cells #[] 62),af _,by simp[maxLen],by simp,by simp[jZ]⟩⟩
theorem yQ:∀(l:List IV) (j:Nat) (u:Value),(jZ l)[j]?=some u->∃k x,l[k]?=some x/\((j=k*2/\u= .bool x.s)\/(j=k*2+1/\u= .slice x.a x.n x.cap))
 |y::l,0,u,h=>⟨0,y,rfl,.inl ⟨rfl,by simp[jZ]at h;exact h.symm⟩⟩
 |y::l,1,u,h=>⟨0,y,rfl,.inr ⟨rfl,by simp[jZ]at h;exact h.symm⟩⟩
 |y::l,j+2,u,h=>by
  obtain⟨k,x,h1,h2⟩:=yQ l j u h;rcases h2 with⟨h2,h3⟩|⟨h2,h3⟩
  ·exact⟨k+1,x,h1,.inl ⟨by omega,h3⟩⟩
  ·exact⟨k+1,x,h1,.inr ⟨by omega,h3⟩⟩
theorem mB.ro{w:World}{base:Nat}{v:Value}{l:List IV}(h:mB w base v l){zs:List Int}(hl:l.length=zs.length)(hz:∀(k:Nat) (x:IV) (z:Int),l[k]?=some x->zs[k]?=some z->IZ w x z):
  ∃b g c,v= .slice b zs.length c/\zs.length<=c/\(0<zs.length->b=some ⟨g,0,none⟩/\base<=g/\RO w g zs):=by
 obtain⟨h0,h⟩:=h;rcases h with⟨hv,hn⟩|⟨g,cap,cur,rfl,hb,hg,hle,hm,hsz,htk⟩
 ·exact⟨none,0,0,by rw[hv,show zs.length=0 by omega],by omega,fun h1=>by omega⟩
 ·refine⟨_,g,cap,by rw[hl],by omega,fun _=>⟨rfl,hb,l,(iG.1 hg).1,hl,fun k x hk=>?_,fun k x hk=>?_,fun k=>?_,hz⟩⟩
  ·have h1:=(Ci l k x hk).1;have hk2:=(ct.1 hk).1;rw[cell_of_row w g _ cur _ (0,0) hg];rw[<-htk,jo aa,eL]at h1;exact h1
  ·have h1:=(Ci l k x hk).2;have hk2:=(ct.1 hk).1;rw[cell_of_row w g _ cur _ (0,0) hg];rw[<-htk,jo aa,eL]at h1;exact h1
  ·simp only[World.frozen?];rw[hg];simp
def CI(w:World)(g o:Nat)(l:List IV):Prop:=∀(k:Nat) (x:IV),l[k]?=some x->w.cell? ⟨g,o+k*2,none⟩=some (.bool x.s)/\w.cell? ⟨g,o+k*2+1,none⟩=some (.slice x.a x.n x.cap)
theorem RA.ci{w:World}{g o:Nat}{zs:List Int}(h:RA w g o zs):∃l:List IV,l.length=zs.length/\CI w g o l/\∀(k:Nat) (x:IV) (z:Int),l[k]?=some x->zs[k]?=some z->IZ w x z:=by
 have key:∀k:Nat,∃x:IV,∀z,zs[k]?=some z->w.cell? ⟨g,o+k*2,none⟩=some (.bool x.s)/\w.cell? ⟨g,o+k*2+1,none⟩=some (.slice x.a x.n x.cap)/\IZ w x z:=fun k=>by
  cases e:zs[k]? with
  |none=>exact⟨⟨false,none,0,0⟩,fun z h=>by cases h⟩
  |some z=>
   obtain⟨x,hx⟩:=h.c k z e;exact⟨x,fun z' hz'=>by cases hz';exact hx⟩
 obtain⟨f,hf⟩:=Classical.axiomOfChoice key;have hget:∀(k:Nat) (x:IV),((List.range zs.length).map f)[k]?=some x->k<zs.length/\x=f k:=fun k x hx=>by
  rw[bN]at hx;by_cases hk:k<zs.length
  ·rw[iT hk]at hx;simp at hx;exact⟨hk,hx.symm⟩
  ·rw[gQ cU]at hx;cases hx
 refine⟨(List.range zs.length).map f,by simp,fun k x hx=>?_,fun k x z hx hz=>?_⟩
 ·obtain⟨hk,rfl⟩:=hget k x hx;have:=hf k _ (getD_some hk);exact⟨this.1,this.2.1⟩
 ·obtain⟨hk,rfl⟩:=hget k x hx;exact(hf k z hz).2.2
theorem CI.below{B:Nat}{w w':World}{g o:Nat}{l:List IV}(h:CI w g o l)(hb:Below B w w')(hg:g<B):CI w' g o l:=fun k x hx=>
 ⟨(hb.cell (p:=⟨g,_,none⟩) hg).trans (h k x hx).1,(hb.cell (p:=⟨g,_,none⟩) hg).trans (h k x hx).2⟩
theorem sV{w0 w:World}{base:Nat}{v:Value}{l:List IV}(hown:mB w base v l)(hB:Below base w0 w)(hbase:base<=w.heap.size)(t tx:TypeId)(ht:Tryz.prog.underlying t=some (.slice 62))(hk:Tryz.prog.underlying tx=some (.slice 62))
  (l2:List IV) (g o c n:Nat) (hn:n=l2.length) (h2:CI w g o l2) (hlen:l.length+l2.length<=4000000000)
  {ops:Array Oper} {rest:List Oper} {oo:Oper} {a:Act} {Q:Exit->Act->World->Prop} (hgd:oo.guard=none) (s y:Operand)
  (ho:oo.op= .call {callee:=.builtin .append,args:=#[s,y],argTypes:=#[t,tx]})
  (hs:a.eval s=v) (hx:a.eval y= .slice (some ⟨g,o,none⟩) n c)
  (h:∀v' w',mB w' base v' (l++l2)->Below base w0 w'->base<=w'.heap.size->w.heap.size<=w'.heap.size->(∀b,b<w.heap.size->some b≠v.ownBlock->w'.heap[b]?=w.heap[b]?)->(v'= .slice none 0 0↔v= .slice none 0 0/\l2.length=0)->wpList Tryz.prog ops Q rest (a.put oo.dst v') w'):wpList Tryz.prog ops Q (oo::rest) a w:=by
 obtain⟨i0,hi0,hz0,hz1,hz2⟩:=im yV;subst hn;refine qL hgd s y t tx ho base 62 62 i0 _ 2 32 ht hk hi0 hz0 hz1 hz2 rfl aa v l.length (jZ l) hs hown
  ⟨g,o,none⟩ l2.length c (jZ l2) hx (by rw[Gp]) ?_ ?_ uF aa hbase ?_
 ·intro j u hu;have hj:(⟨g,o,none⟩:Addr).add j=⟨g,o+j,none⟩:=by unfold Addr.add;split<;>simp_all
  rw[hj];obtain⟨k,x,h3,⟨rfl,rfl⟩|⟨rfl,rfl⟩⟩:=yQ l2 j u hu
  ·exact(h2 k x h3).1
  ·exact(h2 k x h3).2
 ·intro u hu;obtain⟨j,hj⟩:=tf hu;obtain⟨k,x,h3,⟨rfl,rfl⟩|⟨rfl,rfl⟩⟩:=yQ l2 j u hj<;>rfl
 ·intro v' w' h1 h3 hnn;have hsz:=h3.size;refine h v' w' (by unfold mB;rw[Hp,cv];exact h1) (hB.grown h3 hbase ?_) aa hsz (fun b hb hne=>h3.block b hb hne) hnn;intro k hk;exact(hown.lt k hk).1
def RV(w:World)(v:Value)(n:Nat)(zs:List Int):Prop:=∃b c,v= .slice b n c/\n<=c/\zs.length=n/\AD b/\(n=0\/∃g o,b=some ⟨g,o,none⟩/\RA w g o zs)
theorem RV.below{B:Nat}{w w':World}{v:Value}{n:Nat}{zs:List Int}(h:RV w v n zs)(hb:Below B w w')(hB:w.heap.size<=B):RV w' v n zs:=by
 obtain⟨b,c,h1,h2,h3,hA,h4⟩:=h;refine⟨b,c,h1,h2,h3,hA,?_⟩;rcases h4 with h4|⟨g,o,e,h5⟩
 ·exact .inl h4
 ·exact .inr ⟨g,o,e,h5.below hb hB⟩
def S6(w:World)(n:Nat)(zs:List Int)(e:Ending)(w':World):Prop:=(∃b g c,e= .returned (.slice b n c)/\n<=c/\AD b/\(0<n->b=some ⟨g,0,none⟩/\w.heap.size<=g/\RO w' g zs))/\Below w.heap.size w w'
theorem run_eql_slice_nil{P:Program}(w:World)(t e:TypeId)(a:Option Addr)(l c:Nat)(h:P.underlying t=some (.slice e)):(binOp .eql t (.slice a l c) (.slice none 0 0)).run P w= .ok (.bool a.isNone) w:=by
 simp only[binOp];simp[run_equal_slice_nil w t e a l c h]
@[go_sem] theorem eql_row (a : Option Addr) (l c : Nat) (w : World) : (binOp .eql 147 (.slice a l c) (.slice none 0 0)).run Tryz.prog w = .ok (.bool a.isNone) w:=run_eql_slice_nil w _ _ a l c Tryz.underlying147
theorem mB.ad{w:World}{base:Nat}{v:Value}{l:List IV}(h:mB w base v l)(h0:v≠ .slice none 0 0):∃b c,v= .slice b l.length c/\AD b:=by
 rcases h.2 with⟨hv,hn⟩|⟨g,cap,cur,hv,_⟩
 ·exact absurd hv h0
 ·exact⟨_,cap,hv,AD.some _ _⟩
set_option maxRecDepth 10000 in
set_option maxHeartbeats 4000000 in
theorem KD(v:Value)(n:Nat)(zs:List Int)(hn:n<=1000000)(w:World)(h:RV w v n zs):
  Calls Tryz.prog 189 #[v] w (S6 w n zs):=by
 obtain⟨b,c,rfl,hc,hz,hA,h4⟩:=h;obtain⟨g,o,rfl⟩:=hA
 ·obtain ⟨l, hl, hci, hiz⟩ : ∃ l : List IV, l.length = zs.length /\ CI w g o l /\ (∀ (k : Nat) (x : IV) (z : Int), l[k]? = some x -> zs[k]? = some z -> IZ w x z) /\ (n = 0 \/ g < w.heap.size) := by
   rcases h4 with h4|⟨g',o',e,h5⟩
   ·subst h4;have hz0:zs=[]:=gP hz;subst hz0;exact⟨[],rfl,fun k x hx=>by(simp at hx),fun k x z hx=>by(simp at hx), .inl rfl⟩
   ·cases e;obtain⟨l,h6,h7,h8⟩:=h5.ci;exact⟨l,h6,h7,h8, .inr h5.lt⟩
  have HCI:=ae hci;have HIZ:Hid _:=hiz;have HLN:=ae (hl.trans hz);have HZN:=ae hz;have CIb:Hid (∀W,Below w.heap.size w W->CI W g o l):=fun W hW k x hx=>by
   rcases HIZ.out.2 with h|h
   ·rw[gQ (by rw[HLN.out,h];omega)]at hx;cases hx
   ·exact⟨(hW.cell (p:=⟨g,_,none⟩) h).trans (HCI.out k x hx).1,(hW.cell (p:=⟨g,_,none⟩) h).trans (HCI.out k x hx).2⟩
  clear h4 hci hiz hl hz
  go_enter Tryz.func189,Tryz.ntmps189
  go_wp2_with (at_builtin;go_must (refine sV (w0:=w) (base:=w.heap.size) (l:=[]) ?_ ?_ ?_ 147 147 Tryz.underlying147 Tryz.underlying147 l g o c n HLN.out.symm ?_ ?_ rfl (.tmp 5) (.tmp 6) rfl (by rfl) (by rfl) ?_);(exact mB.KG _ _ _ (by first|rfl|(simp;done)) (by first|omega|(simp;done)));(exact bel);(focus(simp));(exact CIb.out _ aA);(focus(rw[HLN.out];simp;omega));intro v5 w5 hown5 hB5 hz5 hs5 hk5 hn5;have HO5:=ae hown5;have HN5:Hid (v5≠Value.slice none 0 0):=(fun e=>by have h9:=(hn5.1 e).1;cases h9);clear hown5 hk5 hn5)
  go_ret
  rw[ew]at HO5;obtain⟨b',c',hv,hA⟩:=HO5.out.ad HN5.out;obtain⟨b,g',c2,h1,h2,h3⟩:=HO5.out.ro (zs:=zs) (HLN.out.trans HZN.out.symm) (fun k x z hx hz=>(HIZ.out.1 k x z hx hz).below hB5 (af _));rw[HZN.out]at h1 h2 h3;have hA2:AD b:=by rw[h1]at hv;cases hv;exact hA
  exact⟨⟨b,g',c2,by rw[<-h1];rfl,h2,hA2,h3⟩,hB5⟩
end
section
open Go.RowKit Go.BigFrame
attribute [local go_sem ↓] Go.wp_at_zero Go.wp_at_succ
theorem wpList_append_run{P:Program}{w w':World}{ops:Array Oper}{rest:List Oper}{o:Oper}{a:Act}{Q:Exit->Act->World->Prop}(hgd:o.guard=none)(s x:Operand)(t tx:TypeId)
  (ho:o.op= .call {callee:=.builtin .append,args:=#[s,x],argTypes:=#[t,tx]}) (v':Value) (hr:(Builtin.append_ #[t,tx] o.type #[a.eval s,a.eval x]).run P w= .ok v' w')
  (h:wpList P ops Q rest (a.put o.dst v') w'):wpList P ops Q (o::rest) a w:=by
 refine wpList_plain hgd fun K hK=>?_;unfold Oper.wp execOp;simp only[ho,resolve,invoke,builtin,Sem.run_bind,Sem.run_pure,Result.andThen_ok,qa,fA,jq,hr];exact hK _ _ h
set_option maxRecDepth 10000 in
set_option maxHeartbeats 4000000 in
theorem NJ(n:Nat)(hn:n<=1000000)(w:World):
  Calls Tryz.prog 184 #[.slice none 0 0, .int .i64 ((n:Int))] w fun e w'=>(∃v,e= .returned v/\mB w' w.heap.size v [])/\Below w.heap.size w w':=by
 by_cases h0:n=0
 ·subst h0
  go_enter Tryz.func184,Tryz.ntmps184
  go_wp2_with fail
  go_ret
  exact⟨⟨_,rfl,mB.nil _ _⟩,by exact bel⟩
 ·have hp:(0:Int)<(n:Int):=by omega
  have hneg:¬(n:Int)<0:=by omega
  obtain⟨i0,hi0,hz0,hz1,hz2⟩:=im yV
  have hrz : ∀ (ty : TypeId) (W : World), (Builtin.append_ #[147, 3] ty #[.slice none 0 0, .int .i64 (n : Int)]).run Tryz.prog W =
      .ok (.slice (some ⟨W.heap.size,0,none⟩) n (grownCap W n 0 62)) (W.drew.alloc (.cells (Builtin.zeroCells (Value.agg #[.bool false, .slice none 0 0]).cells n++Builtin.zeroCells (Value.agg #[.bool false, .slice none 0 0]).cells (grownCap W n 0 62-n)) 62)):=fun ty W=>by
   have h:=EI W 147 3 ty 62 i0 _ .i64 .i64 Tryz.underlying147 Tryz.underlying3 hi0 hz0 none 0 0 [] (run_firstCells_none W.drew i0.size 0 0 0) n aa aa aa aa (by rw[hz2];omega) (by rw[hz2];exact growslice_fits aa aa);simpa using h
  have hG:∀W,n<=grownCap W n 0 62/\grownCap W n 0 62<=9223372036854775807:=fun W=>by
   refine⟨grownCap_ge W _ _ _,?_⟩;have:=grownCap_le_maxLen W n 0 62 (by unfold maxLen;omega);unfold maxLen at this;omega
  go_enter Tryz.func184,Tryz.ntmps184
  have HRZ:Hid _:=hrz;clear hrz;obtain⟨g1,g2⟩:=hG w
  go_wp2_with (at_builtin;go_must (refine wpList_append_run rfl (.tmp 20) (.tmp 21) 147 3 rfl _ (HRZ.out _ _) ?_))
  go_ret
  refine⟨⟨_,rfl,by simp[jZ], .inr ⟨w.heap.size,grownCap w n 0 62,_,rfl,af _,heap_alloc_new w _,aO _,by unfold maxLen;exact g2,?_,by simp[jZ]⟩⟩,by exact bel⟩;rw[rO,size_zeroCells,size_zeroCells];show n*2+(grownCap w n 0 62-n)*2=_;omega
theorem RV.get{w:World}{v:Value}{n:Nat}{zs:List Int}(h:RV w v n zs):∃g o c l,v= .slice (some ⟨g,o,none⟩) n c/\n<=c/\zs.length=n/\l.length=n/\(∀W,Below w.heap.size w W->CI W g o l)/\∀W,Below w.heap.size w W->∀(k:Nat) (x:IV) (z:Int),l[k]?=some x->zs[k]?=some z->IZ W x z:=by
 obtain⟨b,c,h1,h2,h3,⟨g,o,rfl⟩,h4⟩:=h;rcases h4 with h4|⟨g',o',e,h5⟩
 ·exact⟨g,o,c,[],h1,h2,h3,by rw[h4];rfl,fun W _ k x hx=>by(simp at hx),fun W _ k x z hx=>by(simp at hx)⟩
 ·cases e;obtain⟨l,h6,h7,h8⟩:=h5.ci;exact⟨g,o,c,l,h1,h2,h3,h6.trans h3,fun W hW=>h7.below hW h5.lt,fun W hW k x z hx hz=>(h8 k x z hx hz).below hW (af _)⟩
theorem Nr{W:World}{l1 l2:List IV}{z1 z2:List Int}(hl:l1.length=z1.length)(h1:∀(k:Nat) (x:IV) (z:Int),l1[k]?=some x->z1[k]?=some z->IZ W x z)(h2:∀(k:Nat) (x:IV) (z:Int),l2[k]?=some x->z2[k]?=some z->IZ W x z):
  ∀(k:Nat) (x:IV) (z:Int),(l1++l2)[k]?=some x->(z1++z2)[k]?=some z->IZ W x z:=fun k x z hx hz=>by
 by_cases hk:k<l1.length
 ·rw[dC hk]at hx;rw[dC aa]at hz;exact h1 k x z hx hz
 ·rw[ez aa]at hx;rw[ez aa]at hz;rw[hl]at hx;exact h2 _ x z hx hz
set_option maxRecDepth 10000 in
set_option maxHeartbeats 8000000 in
theorem Hr(gb n1 n2:Nat)(v1 v2:Value)(z1 z2:List Int)(h1:n1<=100000)(h2:n2<=100000)(hpos:0<n1+n2)(w:World)(c0:w.cell? ⟨gb,0,none⟩=some v1)(c1:w.cell? ⟨gb,1,none⟩=some v2)(r1:RV w v1 n1 z1)(r2:RV w v2 n2 z2):
  Calls Tryz.prog 144 #[.slice (some ⟨gb,0,none⟩) 2 2] w (S6 w (n1+n2) (z1++z2)):=by
 obtain⟨g1,o1,k1,l1,rfl,hk1,hz1,hl1,h3,h5⟩:=r1.get;obtain⟨g2,o2,k2,l2,rfl,hk2,hz2,hl2,h4,h6⟩:=r2.get;have hgb:gb<w.heap.size:=World.block_lt_of_cell? w _ c0;have GR:Hid (∀W,Calls Tryz.prog 184 #[.slice none 0 0,.int .i64 ((n1:Int)+(n2:Int))] W fun e w'=>(∃v,e= .returned v/\mB w' W.heap.size v [])/\Below W.heap.size W w'):=fun W=>by
  have:=NJ (n1+n2) aa W;rwa[Int.natCast_add]at this
 have HZ:=ae (And.intro hz1 hz2);have HL:=ae (And.intro hl1 hl2);have H3:=ae (And.intro h3 h4);have H4:=ae (And.intro h5 h6);clear r1 r2 hz1 hz2 hl1 hl2 h3 h4 h5 h6
 go_enter Tryz.func144,Tryz.ntmps144
 go_wp2_with fail
 refine wp_loop_rounds 3 ?_;repeat any_goals(rw[rounds_succ];go_wp2_with (first|(go_at_call 184;(with_reducible refine(GR.out _).mono ?_);rintro e w4 ⟨⟨v4,rfl,ho4⟩,hb4⟩;have HO4:=ae ho4;clear ho4;have d0:=(hb4.cell (p:=⟨gb,0,none⟩) hgb).trans c0;have d1:=(hb4.cell (p:=⟨gb,1,none⟩) hgb).trans c1;have HB4:=ae hb4;clear hb4)))
 refine wp_loop_rounds 3 ?_;repeat any_goals(rw[rounds_succ];go_wp2_with (first|(at_builtin;(refine sV (w0:=w) (base:=w.heap.size) (l:=[]) HO4.out HB4.out HB4.out.size 147 147 Tryz.underlying147 Tryz.underlying147 l1 g1 o1 k1 n1 HL.out.1.symm (H3.out.1 _ HB4.out) (by rw[HL.out.1];simp;omega) rfl (.tmp 31) (.tmp 32) rfl (by rfl) rfl ?_);intro v5 w5 hown5 hB5 hz5 hs5 hk5 hn5;have e0:=(hB5.cell (p:=⟨gb,0,none⟩) hgb).trans c0;have e1:=(hB5.cell (p:=⟨gb,1,none⟩) hgb).trans c1;have HO5:=ae hown5;have HN5:=ae (And.intro hB5 hz5);clear hown5 hB5 hz5 hs5 hk5 hn5)|(at_builtin;go_must (refine sV (w0:=w) (base:=w.heap.size) (l:=[]++l1) HO5.out HN5.out.1 HN5.out.2 147 147 Tryz.underlying147 Tryz.underlying147 l2 g2 o2 k2 n2 HL.out.2.symm (H3.out.2 _ HN5.out.1) (by rw[ew,HL.out.1,HL.out.2];omega) rfl (.tmp 31) (.tmp 32) rfl (by rfl) (by rfl) ?_);intro v6 w6 hown6 hB6 hz6 hs6 hk6 hn6;have HO6:=ae hown6;have HB6:=ae hB6;have HN6:=ae hn6;clear hown6 hB6 hz6 hs6 hk6 hn6)))
 go_ret
 rw[ew]at HO6;have hl:(l1++l2).length=(z1++z2).length:=by rw[cv,cv,HL.out.1,HL.out.2,HZ.out.1,HZ.out.2]
 have hzl:(z1++z2).length=n1+n2:=by rw[cv,HZ.out.1,HZ.out.2]
 obtain⟨b,g',cc,e1,e2,e3⟩:=HO6.out.ro (zs:=z1++z2) hl (Nr (HL.out.1.trans HZ.out.1.symm) (H4.out.1 _ HB6.out) (H4.out.2 _ HB6.out));rw[hzl]at e1 e2 e3;obtain⟨rfl,_⟩:=e3 hpos;exact⟨⟨_,g',cc,by rw[<-e1];rfl,e2,AD.some _ _,e3⟩,HB6.out⟩
end
section
namespace Mx
def Bd(X:Nat)(M:Mat):Prop:=∀i j,(at' M i j).natAbs<=X
theorem Bd.mono{X Y:Nat}{M:Mat}(h:Bd X M)(hxy:X<=Y):Bd Y M:=fun i j=>aB (h i j) hxy
theorem LW{X:Nat}{M:Mat}(h:Bd X M){i j:Nat}(hi:i<M.length)(hj:j<M.length):Bd X (swp M i j):=fun k l=>by
 rw[dE hi hj];split
 ·exact h _ _
 ·split<;>exact h _ _
theorem Gt{n X Q:Nat}{r c s:Nat}{M:Mat}(h:Rc n M)(hr:r<M.length)(hb:Bd X M)(hq:∀i,s<=i->i<M.length->(at' M i c/at' M r c).natAbs<=Q){k:Nat}(hk:s+k<=M.length):Bd (X*(Q+1)) (ba r c s M k):=fun i j=>by
 rw[iu h hr hk];have h1:=hb i j;have h2:X<=X*(Q+1):=eQ X (Nat.succ_pos Q);split
 ·rename_i h3;have h4:=hq i h3.1 aa;have h5:=hb r j;have h6:(at' M i c/at' M r c*at' M r j).natAbs<=Q*X:=by
   rw[gG];exact cr h4 h5
  rw[bs]at h6;rw[gA,fH];omega
 ·omega
theorem BU{X r c:Nat}{M:Mat}(h:Bd X M)(hr:r<M.length):Bd X (cJ r c M):=fun i j=>by
 unfold cJ;split
 ·rw[oF _ _ _ _ _ hr];split
  ·rw[kF,pH];exact h r j
  ·exact h i j
 ·exact h i j
theorem jI(x p:Int):(x/p).natAbs<=x.natAbs:=Int.natAbs_ediv_le_natAbs x p
theorem div_pos{x p:Int}(hx:0<=x)(hp:0<p):(x/p).natAbs*p.natAbs<=x.natAbs:=by
 have h1:=Int.ediv_nonneg hx (lx hp);have h2:=Int.ediv_mul_le x (show p≠0 by omega);have h3:((x/p).natAbs:Int)*(p.natAbs:Int)=x/p*p:=by
  rw[zX h1,zX (lx hp)]
 omega
theorem ug{x p:Int}(hp:0<p):(x/p).natAbs*p.natAbs<=x.natAbs+p.natAbs:=by
 by_cases hx:0<=x
 ·have:=div_pos hx hp;omega
 ·have h1:=oB (x:=x) (p:=p) aa;have h2:x/p<=0:=by
   apply Int.le_of_not_gt;intro h;have:=nZ (show 1<=x/p by omega) (lx hp);omega
  have h3:((x/p).natAbs:Int)*(p.natAbs:Int)= -(x/p*p):=by
   rw[show((x/p).natAbs:Int)= -(x/p) by omega,zX (lx hp),gX]
  omega
theorem oC{r c s k:Nat}{M:Mat}(hr:¬(s<=r/\r<s+k))(hk:s+k<=M.length):ba r c s M (k+1)=(ba r c s M k).set (s+k) (eO (rw (ba r c s M k) r) c (rw (ba r c s M k) (s+k))):=by
 rw[gw _ _ _ _ _ hk,gw _ _ _ _ _ hk,aj hr,aj aa];rfl
theorem Fi(M:Mat)(i:Nat):M.set i (rw M i)=M:=by
 apply pF;intro k;by_cases e:i=k
 ·subst e;by_cases h:i<M.length
  ·rw[nV h];unfold rw;rw[aq,aV h];rfl
  ·rw[gQ cU,gQ aa]
 ·rw[qc e]
theorem Gs{p a:List Int}{c:Nat}(h:a.getD c 0=0)(hl:a.length=p.length):eO p c a=a:=
 tQ (pB _ _ _ hl) fun j=>by rw[Bf _ _ _ _ hl,h,Int.zero_ediv,pD,Int.sub_zero]
theorem K9{n r c s k:Nat}{M:Mat}(h:Rc n M)(hrl:r<M.length)(hr:¬(s<=r/\r<s+k))(hk:s+k<M.length)(h0:at' (ba r c s M k) (s+k) c=0):ba r c s M (k+1)=ba r c s M k:=by
 have hl:=cY r c s M k;have hrc:=nr (s:=s) (c:=c) h hrl k aa;rw[oC hr aa,Gs h0 (by rw[hrc.rw aa,hrc.rw aa]),Fi]
theorem Fm(c r:Nat)(M:Mat):∀k,(scan c r M k).2<=k
 |0=>af _
 |k+1=>by
  have:=Fm c r M k;unfold scan;simp only[];split
  ·omega
  ·exact Nat.succ_le_succ this
theorem e11(e c:Nat):11*(e*11^c)=e*11^(c+1):=by rw[dQ,bs (11^c) 11,fI]
theorem Mj{c r i:Nat}{M:Mat}(h:r<=i)(h0:at' M i c=0):scan c r M (i+1-r)=scan c r M (i-r):=by
 rw[show i+1-r=(i-r)+1 by omega]
 conv=>lhs;unfold scan
 simp only[];rw[show r+(i-r)=i by omega,an h0]
theorem Ml{c r i:Nat}{M:Mat}(h:r<=i)(h0:at' M i c≠0)(hp:(scan c r M (i-r)).1=none):scan c r M (i+1-r)=(some i,(scan c r M (i-r)).2+1):=by
 rw[show i+1-r=(i-r)+1 by omega]
 conv=>lhs;unfold scan
 simp only[];rw[show r+(i-r)=i by omega,aj h0,hp]
theorem Ih{c r i t:Nat}{M:Mat}(h:r<=i)(h0:at' M i c≠0)(hp:(scan c r M (i-r)).1=some t)(hl:(at' M i c).natAbs<(at' M t c).natAbs):scan c r M (i+1-r)=(some i,(scan c r M (i-r)).2+1):=by
 rw[show i+1-r=(i-r)+1 by omega]
 conv=>lhs;unfold scan
 simp only[];rw[show r+(i-r)=i by omega,aj h0,hp];simp only[];rw[an hl]
theorem Ii{c r i t:Nat}{M:Mat}(h:r<=i)(h0:at' M i c≠0)(hp:(scan c r M (i-r)).1=some t)(hl:¬(at' M i c).natAbs<(at' M t c).natAbs):scan c r M (i+1-r)=(some t,(scan c r M (i-r)).2+1):=by
 rw[show i+1-r=(i-r)+1 by omega]
 conv=>lhs;unfold scan
 simp only[];rw[show r+(i-r)=i by omega,aj h0,hp];simp only[];rw[aj hl]
structure Round(r c t:Nat)(M:Mat):Prop where
 hr:r<M.length
 ht:t<M.length
 rt:r<=t
 ne:at' M t c≠0
 least:∀i,r<=i->i<M.length->at' M i c≠0->(at' M t c).natAbs<=(at' M i c).natAbs
 other:∃i,r<=i/\i<M.length/\i≠t/\at' M i c≠0
 pr:at' (elim r c (swp M r t)) r c=at' M t c
 tto:∀i,r<i->i<M.length->∃j,r<=j/\j<M.length/\j≠t/\at' (swp M r t) i c=at' M j c/\at' (elim r c (swp M r t)) i c=at' M j c%at' M t c
 fro:∀j,r<=j->j<M.length->j≠t->∃i,r<i/\i<M.length/\at' (elim r c (swp M r t)) i c=at' M j c%at' M t c
theorem oR{n r c t:Nat}{M:Mat}(h:Rc n M)(h1:(pick r c M).1=some t)(h2:(pick r c M).2≠1):Round r c t M:=by
 obtain⟨k1,k2,k3,k4,k5,_,k7⟩:=(fT c r M (M.length-r)).yes t h1;have h2':2<=(scan c r M (M.length-r)).2:=by unfold pick at h2;omega
 obtain⟨i,i1,i2,i3,i4⟩:=k7 h2';clear k7;have hr:r<M.length:=by omega
 have ht:t<M.length:=by omega
 have hS:=mH h hr ht;have hSl:(swp M r t).length=M.length:=dn _ _ _;have hSr:at' (swp M r t) r c=at' M t c:=by
  rw[dE hr ht];split
  ·rename_i e;rw[e]
  ·rw[an rfl]
 have hat:∀i,r<i->i<M.length->at' (elim r c (swp M r t)) i c=at' (swp M r t) i c%at' M t c:=fun i h3 h4=>by
  unfold elim;rw[iu hS aa aa,an aa,hSr,(oB k3).2.2]
 refine⟨hr,ht,k1,k3,fun i h3 h4 h5=>k4 i h3 aa h5,⟨i,i1,by omega,i3,i4⟩,?_,fun i h3 h4=>?_,fun j h3 h4 h5=>?_⟩
 ·unfold elim;rw[iu hS aa aa,aj aa,hSr]
 ·rw[hat i h3 h4,dE hr ht];by_cases e:i=t
  ·rw[an e];exact⟨r,af _,hr,by omega,rfl,rfl⟩
  ·rw[aj e,aj aa];exact⟨i,by omega,h4,e,rfl,rfl⟩
 ·by_cases e:j=r
  ·refine⟨t,by omega,ht,?_⟩;rw[hat t aa ht,dE hr ht,an rfl,e]
  ·refine⟨j,by omega,h4,?_⟩;rw[hat j aa h4,dE hr ht,aj h5,aj e]
def J(K r c:Nat)(M:Mat):Prop:=∃X O i0,Bd X M/\X<=K/\r<=i0/\i0<M.length/\(at' M i0 c).natAbs=O/\(∀i,r<=i->i<M.length->i≠i0->0<=at' M i c/\at' M i c<(O:Int))/\
 ∀t,(pick r c M).1=some t->(pick r c M).2≠1->X*O*O*(at' M t c).natAbs*(if at' M i0 c<0 then 3 else 1)<=K
def Jn(K r c:Nat)(M:Mat):Prop:=(∃X,1<=X/\Bd X M/\6*X^5<=K)\/J K r c M
theorem pow5(X:Nat):X^5=X*X*X*X*X:=by
 simp[dQ]
theorem IE{X:Nat}(h:1<=X):X<=X^5:=by
 have:=bI h (show 1<=5 by omega);simpa using this
theorem vn{K r c:Nat}{M:Mat}(h:Jn K r c M):Bd K M:=by
 rcases h with⟨X,h1,h2,h3⟩|⟨X,O,i0,h1,h2,_⟩
 ·exact h2.mono (by have:=IE h1;omega)
 ·exact h1.mono h2
theorem BX{n K r c t X Q:Nat}{M:Mat}(h:Rc n M)(R:Round r c t M)(hb:Bd X M)(hq:∀j,r<=j->j<M.length->j≠t->(at' M j c/at' M t c).natAbs<=Q)(hK:X*(Q+1)<=K)
  (hc:∀t',(pick r c (elim r c (swp M r t))).1=some t'->(pick r c (elim r c (swp M r t))).2≠1->X*(Q+1)*(at' M t c).natAbs*(at' M t c).natAbs*(at' (elim r c (swp M r t)) t' c).natAbs*(if at' M t c<0 then 3 else 1)<=K):
  (∀k,r+1+k<=M.length->Bd K (ba r c (r+1) (swp M r t) k))/\J K r c (elim r c (swp M r t)):=by
 have hSl:(swp M r t).length=M.length:=dn _ _ _;have hr:=R.hr;have hSr:at' (swp M r t) r c=at' M t c:=by
  rw[dE R.hr R.ht];split
  ·rename_i e;rw[e]
  ·rw[an rfl]
 have key:∀k,r+1+k<=M.length->Bd (X*(Q+1)) (ba r c (r+1) (swp M r t) k):=fun k hk=>
  Gt (mH h R.hr R.ht) aa (LW hb R.hr R.ht) (fun i h1 h2=>by
   obtain⟨j,j1,j2,j3,j4,_⟩:=R.tto i aa aa;rw[hSr,j4];exact hq j j1 j2 j3) aa
 refine⟨fun k hk=>(key k hk).mono hK,X*(Q+1),(at' M t c).natAbs,r,?_,hK,af _,?_,by rw[R.pr],fun i h1 h2 h3=>?_,fun t' h1 h2=>?_⟩
 ·unfold elim;exact key _ aa
 ·unfold elim;rw[cY,hSl];exact R.hr
 ·have hl:(elim r c (swp M r t)).length=M.length:=by unfold elim;rw[cY,hSl]
  obtain⟨j,_,_,_,_,j5⟩:=R.tto i aa aa;rw[j5];exact⟨oa _ R.ne,pG _ R.ne⟩
 ·rw[R.pr];exact hc t' h1 h2
theorem mf{n r c t t':Nat}{M:Mat}(h:Rc n M)(R:Round r c t M)(h1:(pick r c (elim r c (swp M r t))).1=some t')(h2:(pick r c (elim r c (swp M r t))).2≠1):
  (at' (elim r c (swp M r t)) t' c).natAbs<(at' M t c).natAbs/\∀i,r<=i->i<M.length->at' (elim r c (swp M r t)) i c≠0->(at' (elim r c (swp M r t)) t' c).natAbs<=(at' (elim r c (swp M r t)) i c).natAbs:=by
 have hE:=uX h (c:=c) R.hr R.ht;have R':=oR hE.1 h1 h2;have hl:=hE.2;have small:∀i,r<i->i<M.length->(at' (elim r c (swp M r t)) i c).natAbs<(at' M t c).natAbs:=fun i h3 h4=>by
  obtain⟨j,_,_,_,_,j5⟩:=R.tto i h3 h4;rw[j5];have:=oa (at' M j c) R.ne;have:=pG (at' M j c) R.ne;omega
 refine⟨?_,fun i h3 h4 h5=>R'.least i h3 aa h5⟩;by_cases e:t'=r
 ·obtain⟨i,i1,i2,i3,i4⟩:=R'.other;have h5:=R'.least i i1 i2 i4;have h6:=small i aa aa;rw[e,R.pr]at h5⊢;omega
 ·exact small t' (by have:=R'.rt;omega) (by have:=R'.ht;omega)
theorem Cd{n K r c t:Nat}{M:Mat}(h:Rc n M)(hj:Jn K r c M)(h1:(pick r c M).1=some t)(h2:(pick r c M).2≠1):
  (∀k,r+1+k<=M.length->Bd K (ba r c (r+1) (swp M r t) k))/\Jn K r c (elim r c (swp M r t)):=by
 have R:=oR h h1 h2;have hP:1<=(at' M t c).natAbs:=by have:=R.ne;omega
 have go:∀{A B:Prop},A/\J K r c (elim r c (swp M r t))->(A->B)->B/\Jn K r c (elim r c (swp M r t)):=fun x f=>⟨f x.1, .inr x.2⟩;rcases hj with⟨X,x1,x2,x3⟩|⟨X,O,i0,x1,x2,x3,x4,x5,x6,x7⟩
 ·refine go (BX (X:=X) (Q:=X) h R x2 (fun j j1 j2 j3=>aB (jI _ _) (x2 j c)) ?_ fun t' k1 k2=>?_) id
  ·have h3:X*(X+1)<=X*(2*X):=bV X aa;have h4:X*X<=X^5:=by
    have:=bI x1 (show 2<=5 by omega);rw[Nat.pow_two]at this;exact this
   have h5:X*(2*X)=2*(X*X):=by rw[fI]
   omega
  ·have h3:=(mf h R k1 k2).1;have h4:=x2 t c;have h5:X*(X+1)<=2*(X*X):=by
    have:X*(X+1)<=X*(2*X):=bV X aa;rwa[fI]at this
   have h6:X*(X+1)*(at' M t c).natAbs*(at' M t c).natAbs*(at' (elim r c (swp M r t)) t' c).natAbs*(if at' M t c<0 then 3 else 1)<=2*(X*X)*X*X*X*3:=
    cr (cr (cr (cr h5 h4) h4) aa) (by split<;>omega)
   have h7:2*(X*X)*X*X*X*3=6*X^5:=by
    rw[pow5];simp only[bP,bs]
   omega
 ·have ht0 : t ≠ i0 := fun e => by
   obtain⟨i,i1,i2,i3,i4⟩:=R.other;have h3:=R.least i i1 i2 i4;have h4:=x6 i i1 i2 aa;rw[e]at h3;omega
  have h3:=x6 t R.rt R.ht ht0;have hk:=x7 t h1 h2;generalize hpe:at' M t c=p at*;generalize hae:at' M i0 c=a at*;have hp0:0<p:=by have:=R.ne;rw[hpe]at this;omega
  obtain⟨P,rfl⟩:∃P:Nat,p=P:=⟨p.natAbs,by omega⟩;rw[cD]at*;have hPO:P<O:=by omega
  have hO2:O<=O*O:=eQ O aa;have hdiv:O/P*P<=O:=Dz O P;have hdv:O/P<=O:=sM O P;have hneg:¬(P:Int)<0:=by omega
  by_cases hs:a<0
  ·rw[an hs]at hk;have e3:X*O*O*P*3=3*(X*O*O*P):=bs _ _;refine go (BX (X:=X) (Q:=O/P+1) h R x1 (fun j j1 j2 j3=>?_) ?_ fun t' k1 k2=>?_) id
   ·rw[hpe];have h4:(at' M j c/(P:Int)).natAbs*P<=O+P:=by
     have h5:=ug (x:=at' M j c) (p:=(P:Int)) hp0;rw[cD]at h5;by_cases e:j=i0
     ·rw[e,hae]at h5⊢;omega
     ·have:=x6 j j1 j2 e;omega
    have h5:(at' M j c/(P:Int)).natAbs<=(O+P)/P:=(nU aa).2 h4;rwa[Nat.add_div_right _ aa]at h5
   ·have h4 : X * (O / P + 1 + 1) <= X * (3 * (O * O * P)) := bV X (by
     have:O*O<=O*O*P:=eQ _ aa;omega)
    have h5:X*(3*(O*O*P))=3*(X*O*O*P):=by
     simp only[bP,bs,fI]
    omega
   ·have h4:=(mf h R k1 k2).1;rw[hpe]at h4⊢;rw[cD]at h4⊢;rw[aj hneg,fH];generalize(at' (elim r c (swp M r t)) t' c).natAbs=P' at h4⊢;have h5:(O/P+1+1)*P<=3*O:=by rw[bO,bO];omega
    have h6:X*((O/P+1+1)*P)*P*P'<=X*(3*O)*P*O:=cr (cr (bV X h5) (af _)) aa;have h7:X*(3*O)*P*O=3*(X*O*O*P):=by
     simp only[bP,bs,fI]
    have h8:X*(O/P+1+1)*P*P*P'=X*((O/P+1+1)*P)*P*P':=by rw[bP X]
    omega
  ·rw[aj hs,fH]at hk;have haO:a=(O:Int):=by omega
   refine go (BX (X:=X) (Q:=O/P) h R x1 (fun j j1 j2 j3=>?_) ?_ fun t' k1 k2=>?_) id
   ·rw[hpe];have h4:(at' M j c/(P:Int)).natAbs*P<=O:=by
     by_cases e:j=i0
     ·rw[e,hae,haO];have h5:=div_pos (x:=(O:Int)) (p:=(P:Int)) aa hp0;rw[cD,cD]at h5;exact h5
     ·have h6:=x6 j j1 j2 e;have h5:=div_pos (x:=at' M j c) (p:=(P:Int)) h6.1 hp0;rw[cD]at h5;omega
    exact(nU aa).2 h4
   ·have h4 : X * (O / P + 1) <= X * (O * O * P) := bV X (by
     have h6:O*O<=O*O*P:=eQ _ aa;have h7:2*O<=O*O:=cF O aa;omega)
    have h5:X*(O*O*P)=X*O*O*P:=by simp only[bP]
    omega
   ·obtain⟨h4,h5⟩:=mf h R k1 k2;obtain⟨m0,m1,m2,m3⟩:=R.fro i0 x3 x4 (Ne.symm ht0);have h6:=h5 m0 aa m2;rw[m3,hae,haO]at h6;rw[hpe]at h4 h6⊢;rw[cD]at h4⊢;rw[aj hneg,fH];generalize(at' (elim r c (swp M r t)) t' c).natAbs=P' at h4 h6⊢;have h7:2*P'<=O:=by
     have e1:((O:Int)%(P:Int))=((O%P:Nat):Int):=by simp
     rw[e1,cD]at h6;have e2:=jQ O P;have e3:1<=O/P:=(nU aa).2 aa;have e4:=eC O (show 0<P by omega);by_cases h0:O%P=0
     ·have e5 : 2 <= O / P := by
       apply dJ;intro hlt;have:O/P=1:=by omega
       rw[this,h0]at e2;omega
      have e6:=bV P e5;omega
     ·have e5:=h6 aa;have e6:=bV P e3;omega
    have h8:(O/P+1)*P<=2*O:=by rw[bO];omega
    have h9:X*((O/P+1)*P)*P*P'<=X*(2*O)*P*P':=cr (cr (bV X h8) (af _)) (af _);have h10:X*(2*O)*P*P'=X*O*P*(2*P'):=by simp only[bP,bs,fI]
    have h11:X*O*P*(2*P')<=X*O*P*O:=bV _ h7;have h12:X*O*P*O=X*O*O*P:=th _ _ _;have h13:X*(O/P+1)*P*P*P'=X*((O/P+1)*P)*P*P':=by rw[bP X]
    omega
theorem xU{n K r c:Nat}{M:Mat}(h:Rc n M)(hj:Jn K r c M):Bd K (cH r c M):=by
 refine pc (n:=n) (r:=r) (c:=c) (fun N=>Jn K r c N) (fun N hN hq t ht h2=>(Cd hN hq ht h2).2) (fun N=>Bd K N) (fun N _ hq _=>vn hq) (fun N hN hq t ht h2=>?_) _ M rfl h hj;obtain⟨k1,k2,_⟩:=(fT c r N (N.length-r)).yes t ht;exact LW (vn hq) aa aa
theorem G3{n K r c:Nat}{M:Mat}(h:Rc n M)(hr:r<M.length)(hb:Bd K M){k:Nat}(hk:k<=M.length):Bd (K*(K+1)) (ba r c 0 M k):=
 Gt h hr hb (fun i _ _=>aB (jI _ _) (hb i c)) aa
def nb(X:Nat):Nat:=6*X^5*(6*X^5+1)
theorem KK(X:Nat):6*X^5<=nb X:=eQ _ aa
theorem AP{e:Nat}(h:6<=e):nb (2^e)<=2^(11*e):=by
 have h1:6*(2^e)^5+1<=2^(5*e+3):=by
  rw[<-qG,eZ,bs e 5];have:=ep (a:=2) (n:=5*e) aa;omega
 have h2:nb (2^e)<=2^(5*e+3)*2^(5*e+3):=cr aa h1;rw[<-eZ]at h2;exact aB h2 (bI aa aa)
theorem H5{n X r c:Nat}{M:Mat}(h:Rc n M)(hr:r<M.length)(h1:1<=X)(hb:Bd X M):Bd (nb X) (step r c M).2:=by
 have hc:=xU h (K:=6*X^5) (r:=r) (c:=c) (.inl ⟨X,h1,hb,af _⟩);have hre:=(lM (r:=r) (c:=c) h).1.re;unfold step;simp only[];split
 ·exact hc.mono (KK X)
 ·have hl:r<(cH r c M).length:=by rw[hre.len];exact hr
  have h2:=nu (c:=c) hl;exact G3 (h2.rc (hre.rc h)) (by rw[h2.len];exact hl) (BU hc hl) (by rw[h2.len];omega)
theorem AG{k c r:Nat}{M:Mat}(h:r<M.length):red (k+1) c (r,M)=red k (c+1) (step r c M):=by
 conv=>lhs;unfold red
 rw[an h]
theorem qQ{k c r:Nat}{M:Mat}(h:¬r<M.length):red k c (r,M)=(r,M):=by
 cases k with
 |zero=>rfl
 |succ k=>unfold red;rw[aj h]
end Mx
end
section
open Go.RowKit Go.BigFrame
attribute [local go_sem ↓] Go.wp_at_zero Go.wp_at_succ
theorem bK{z:Int}{e:Nat}(h:z.natAbs<=2^e)(he:e<=6000000000000):Fit z:=by
 refine⟨e/32+1,by omega,gY h ?_⟩;rw[show B32=2^32 from rfl,<-qG];exact zG aa aa
def Gq:Option Nat->Int
 |none=>-1
 |some t=>t
structure R1(w wr:World)(B gm L n m:Nat)(gs cs:Nat->Nat)(M:Mx.Mat):Prop where
 mo:MO wr B gm L gs cs n M
 bl:Below B w wr
 len:M.length=m
theorem R1.ext{w wr wx:World}{B gm L n m:Nat}{gs cs:Nat->Nat}{M:Mx.Mat}(h:R1 w wr B gm L n m gs cs M)(hB:B<=wr.heap.size)(k:Below wr.heap.size wr wx):R1 w wx B gm L n m gs cs M:=
 ⟨h.mo.below k (af _),h.bl.trans (k.mono hB),h.len⟩
theorem MO.elem{w:World}{B gm L:Nat}{gs cs:Nat->Nat}{n:Nat}{M:Mx.Mat}(h:MO w B gm L gs cs n M){i j:Nat}(hi:i<M.length)(hj:j<n):
  ∃x:IV,w.cell? ⟨gm,i,none⟩=some (.slice (some ⟨gs i,0,none⟩) n (cs i))/\w.cell? ⟨gs i,j*2,none⟩=some (.bool x.s)/\w.cell? ⟨gs i,j*2+1,none⟩=some (.slice x.a x.n x.cap)/\IZ w x (Mx.at' M i j)/\gs i<w.heap.size:=by
 obtain⟨h1,h2,h3,h4,h5⟩:=h.hc i hi;obtain⟨x,x1,x2,x3,_⟩:=h5.at (k:=j) (z:=Mx.at' M i j) (getD_some (by rw[h.rc.rw hi];exact hj));exact⟨x,h1,x1,x2,x3,h5.lt⟩
theorem R1.swp{w wr:World}{B gm L n m:Nat}{gs cs:Nat->Nat}{M:Mx.Mat}(h:R1 w wr B gm L n m gs cs M){i j:Nat}(hi:i<m)(hj:j<m):
  R1 w ((wr.setCell ⟨gm,i,none⟩ (.slice (some ⟨gs j,0,none⟩) n (cs j))).setCell ⟨gm,j,none⟩ (.slice (some ⟨gs i,0,none⟩) n (cs i))).drew B gm L n m (ix gs i j) (ix cs i j) (Mx.swp M i j):=
 ⟨(h.mo.swp (by rw[h.len];exact hi) (by rw[h.len];exact hj)).below (Below.refl _ _).drew (af _),((h.bl.setCell h.mo.b _).setCell h.mo.b _).drew,by rw[Mx.dn];exact h.len⟩
theorem ri{l:List Int}{j:Nat}{x:Int}(h:l[j]?=some x):l.getD j 0=x:=by rw[aq,h];rfl
theorem ze{E i r:Nat}{N:Mx.Mat}(hb:Mx.Bd (2^E) N)(hE:2*E<=6000000000000)(kz:Int)(hk:kz.natAbs<=2^E)(j:Nat)(x y:Int)(hx:(Mx.rw N i)[j]?=some x)(hy:(Mx.rw N r)[j]?=some y):Fit x/\Fit y/\Fit (kz*y):=by
 have h1:=hb i j;have h2:=hb r j;unfold Mx.at' at h1 h2;rw[ri hx]at h1;rw[ri hy]at h2;refine⟨bK h1 aa,bK h2 aa,bK (e:=2*E) ?_ hE⟩;rw[gG,Nat.two_mul,eZ];exact cr hk h2
theorem R1.set{w wr wx:World}{B gm L n m:Nat}{gs cs:Nat->Nat}{M:Mx.Mat}(h:R1 w wr B gm L n m gs cs M){i:Nat}(hi:i<m){zs:List Int}(hz:zs.length=n)(k:Chg (gs i) wr wx)(hr:RO wx (gs i) zs):R1 w wx B gm L n m gs cs (M.set i zs):=
 have hi2:i<M.length:=by rw[h.len];exact hi
 ⟨h.mo.setRow hi2 hz k hr,k.below h.bl (h.mo.hc i hi2).2.2.1 (bQ (gY h.mo.b h.mo.lt)),by rw[fG];exact h.len⟩
structure R2(w wr:World)(B gm L n m e:Nat)(T:Nat×Mx.Mat)(cN c r:Nat)(gs cs:Nat->Nat)(M:Mx.Mat):Prop where
 r1:R1 w wr B gm L n m gs cs M
 rm:r<=m
 eq:Mx.red (cN-c) c (r,M)=T
 bd:Mx.Bd (2^(e*11^c)) M
set_option maxRecDepth 10000 in
set_option maxHeartbeats 8000000 in
theorem AB(B gm L cap n cN e:Nat)(gs cs:Nat->Nat)(M:Mx.Mat)(hc:cN<=n)(hn1:n<=1000)(hL:M.length<=1000)(he:6<=e)(hf:2*(e*11^cN)<=6000000000000)(hb:Mx.Bd (2^e) M)
  (w:World) (h:MO w B gm L gs cs n M):
  Calls Tryz.prog 145 #[.slice (some ⟨gm,0,none⟩) M.length cap, .int .i64 ((cN:Int))] w fun e w'=>e= .returned (.int .i64 (((Mx.red cN 0 (0,M)).1:Int)))/\Below B w w'/\∃gs' cs',MO w' B gm L gs' cs' n (Mx.red cN 0 (0,M)).2:=by
 obtain⟨T,hT⟩:∃T,T=Mx.red cN 0 (0,M):=⟨_,rfl⟩;rw[<-hT];generalize hl:M.length=m at*;have H0:Hid (R2 w w B gm L n m e T cN 0 0 gs cs M):=⟨⟨h,Below.refl _ _,hl⟩,aO _,hT.symm,by rw[qI,fH];exact hb⟩;have HF:=ae hf;clear h hb hl hT hf
 go_enter Tryz.func145,Tryz.ntmps145
 go_wp2_with fail
 go_loopg [5,6] cN (fun kk s5 s6 wr=>∃(r c:Nat) (gs cs:Nat->Nat) (M:Mx.Mat),kk=cN-c/\c<=cN/\r<=m/\s5= .int .i64 ((r:Int))/\s6= .int .i64 ((c:Int))/\Hid (R2 w wr B gm L n m e T cN c r gs cs M))
 case atStart=>exact⟨0,0,gs,cs,M,by omega,by omega,by omega,rfl,rfl,H0⟩
 case round=>
  clear H0;obtain⟨r,c,gs,cs,M,rfl,hcN,hrm,rfl,rfl,HR⟩:=hrel;by_cases hcc:c<cN
  ·have hcc2:(c:Int)<(cN:Int):=by omega
   have hcc3:decide ((c:Int)<(cN:Int))=true:=by rw[cZ];exact hcc2
   by_cases hrr:r<m
   ·have hrr2:(r:Int)<(m:Int):=by omega
    have hrr3:decide ((r:Int)<(m:Int))=true:=by rw[cZ];exact hrr2
    go_upto_block 2 with fail
    go_cut [7]from 12 to 176 (fun _ wx=>∃(gs cs:Nat->Nat),Hid (R1 w wx B gm L n m gs cs (Mx.cH r c M)))
    case first=>
     as_aux_lemma=>
      have hK0:Mx.Jn (2^(e*11^(c+1))) r c M:=by
       refine .inl ⟨2^(e*11^c),ep aa,HR.out.bd,aB (Mx.KK _) (aB (Mx.AP ?_) (vU ?_))⟩
       ·have:1<=11^c:=ep aa;exact aB he (eQ e this)
       ·rw[Mx.e11]
      have hKf:2*(e*11^(c+1))<=6000000000000:=aB (bV 2 (bV e (bI aa aa))) HF.out;generalize e*11^(c+1)=E at*;have HJ:Hid (R1 w wr B gm L n m gs cs M/\Mx.Jn (2^E) r c M):=⟨HR.out.r1,hK0⟩;generalize hMc:Mx.cH r c M=Mc;have HM0:Hid (Mx.cH r c M=Mc):=hMc;clear hMc hK0 HR
      go_wp2_with fail
      go_loopg [7] (Mx.kW r c M) (fun kk _ wx=>∃(gs cs:Nat->Nat) (M2:Mx.Mat),kk=Mx.kW r c M2/\Hid (R1 w wx B gm L n m gs cs M2/\Mx.Jn (2^E) r c M2)/\Hid (Mx.cH r c M2=Mc))
      case atStart=>exact⟨gs,cs,M,rfl,HJ,HM0⟩
      case round=>
       clear HJ;obtain⟨gs,cs,M,rfl,HJ,HMc⟩:=hrel;have hBw:B<=wr.heap.size:=bQ (gY HJ.out.1.mo.b HJ.out.1.mo.lt)
       go_upto_block 4 with fail
       go_cut [7,8]from 23 to 122 (fun s7 s8 wy=>s7= .int .i64 (Gq (Mx.pick r c M).1)/\s8= .int .i64 (((Mx.pick r c M).2:Int))/\Hid (R1 w wy B gm L n m gs cs M))
       case first=>
        as_aux_lemma=>
         go_wp2_with fail
         go_loopg [7,8,9] (m-r) (fun kk s7 s8 s9 wy=>∃i:Nat,r<=i/\i<=m/\kk=m-i/\s7= .int .i64 (Gq (Mx.scan c r M (i-r)).1)/\s8= .int .i64 (((Mx.scan c r M (i-r)).2:Int))/\s9= .int .i64 ((i:Int))/\Hid (R1 w wy B gm L n m gs cs M))
         case atStart=>exact⟨r,af _,hrm,rfl,by rw[eR];rfl,by rw[eR];rfl,rfl,HJ.out.1⟩
         case round=>
          obtain⟨i,hri,him,rfl,rfl,rfl,rfl,HW⟩:=hrel;by_cases hi:i<m
          ·have hi2:(i:Int)<(m:Int):=by omega
           obtain⟨x,k0,x0,x1,xz,xl⟩:=HW.out.mo.elem (i:=i) (j:=c) (by rw[HW.out.len];exact hi) aa;have HX:=ae xz;have fx:Fit (Mx.at' M i c):=bK (Mx.vn HJ.out.2 i c) aa;have FX:=ae fx;have hcn:(c:Int)<(n:Int):=by omega
           obtain⟨xs,xa,xn,xc⟩:=x;simp only[]at x0 x1;clear xz fx;have hBy:B<=wr.heap.size:=bQ (gY HW.out.mo.b HW.out.mo.lt);have gml:gm<wr.heap.size:=HW.out.mo.lt;have hsc2:(Mx.scan c r M (i-r)).2<=i-r:=Mx.Fm c r M (i-r);by_cases hz:Mx.at' M i c=0
           ·have hd:decide (Mx.at' M i c=0)=true:=by rw[cZ];exact hz
            have HZ:=ae (Mx.Mj (c:=c) (M:=M) hri hz);have ZE:=ae (fun w hx=>hd▸iV ⟨xs,xa,xn,xc⟩ (Mx.at' M i c) w hx);clear hz hd
            go_wp2_with ((go_at_call 95;(with_reducible refine(ZE.out _ ?_).mono ?_);(exact HX.out.below (B:=wr.heap.size) aA (af _));rintro e w1 ⟨rfl,hb1⟩;obtain⟨g1,rfl⟩:=mob hb1;clear hb1))
            go_roundg (m-(i+1))
            case measure=>omega
            case rel=>exact⟨i+1,by omega,by omega,rfl,by rw[HZ.out],by rw[HZ.out],by go_num,HW.out.ext hBy aA⟩
           ·have hd:decide (Mx.at' M i c=0)=false:=by rw[bW];exact hz
            have ZE:=ae (fun w hx=>hd▸iV ⟨xs,xa,xn,xc⟩ (Mx.at' M i c) w hx);have NZ:=ae hz;clear hz hd
            cases hp:(Mx.scan c r M (i-r)).1 with
            |none=>
             have HS:=ae (Mx.Ml hri NZ.out hp);generalize(Mx.scan c r M (i-r)).2=q at*;clear hp;simp only[Gq]
             go_upto_region 11 with((go_at_call 95;(with_reducible refine(ZE.out _ ?_).mono ?_);(exact HX.out.below (B:=wr.heap.size) aA (af _));rintro e w1 ⟨rfl,hb1⟩;obtain⟨g1,rfl⟩:=mob hb1;clear hb1))
             (apply Own3.dR 21 [.inl _, .inl _, .inl _, .inl undef, .inl undef, .inl undef, .inl undef, .inl undef, .inl undef, .inl undef, .inl undef, .inl undef, .inl undef, .inl undef, .inl undef, .inl undef, .inl undef, .inl undef, .inl undef, .inl undef, .inl undef] ah ah;simp only[eu,dw,eU,du];refine zs1 ?_;refine zs1 ?_;refine zs1 ?_;refine kT ?_;refine kT ?_;refine kT ?_;refine kT ?_;refine kT ?_;refine kT ?_;refine kT ?_;refine kT ?_;refine kT ?_;refine kT ?_;refine kT ?_;refine kT ?_;refine kT ?_;refine kT ?_;refine kT ?_;refine kT ?_;refine kT ?_;refine kT ?_;refine Own3.jW ?_;intro w11 hw11;have hB11:=hw11.1;clear hw11;obtain⟨g11,rfl⟩:=mob hB11;clear hB11)
             go_wp2_with fail
             go_roundg (m-(i+1))
             case measure=>omega
             case rel=>exact⟨i+1,by omega,by omega,rfl,by rw[HS.out];rfl,by rw[HS.out];go_num,by go_num,HW.out.ext hBy aA⟩
            |some t=>
             have HT0:=ae ((Mx.fT c r M (i-r)).yes t hp);have htr:t<m:=by have:=HT0.out.2.1;omega
             have htr2:(t:Int)<(m:Int):=by omega
             have hd:decide ((t:Int)<0)=false:=by rw[bW];omega
             have hd2:¬(t:Int)<0:=by omega
             obtain⟨y,kt,y0,y1,yz,yl⟩:=HW.out.mo.elem (i:=t) (j:=c) (by rw[HW.out.len];exact htr) aa;have HY:=ae yz;have fy:Fit (Mx.at' M t c):=bK (Mx.vn HJ.out.2 t c) aa;have FY:=ae fy;have F1:Hid (Fit ((Mx.at' M i c).natAbs:Int)):=bK (by rw[cD];exact Mx.vn HJ.out.2 i c) aa;have F2:Hid (Fit ((Mx.at' M t c).natAbs:Int)):=bK (by rw[cD];exact Mx.vn HJ.out.2 t c) aa;obtain⟨ys,ya,yn,yc⟩:=y;simp only[]at y0 y1;have SG:Hid (((Mx.at' M i c).natAbs<(Mx.at' M t c).natAbs->sgn (((Mx.at' M i c).natAbs:Int)-((Mx.at' M t c).natAbs:Int))<0)/\(¬(Mx.at' M i c).natAbs<(Mx.at' M t c).natAbs->¬sgn (((Mx.at' M i c).natAbs:Int)-((Mx.at' M t c).natAbs:Int))<0)):=by
              refine⟨fun h=>?_,fun h=>?_⟩
              ·unfold sgn;rw[aj aa,an aa];omega
              ·unfold sgn;by_cases h0:((Mx.at' M i c).natAbs:Int)-((Mx.at' M t c).natAbs:Int)=0
               ·rw[an h0];omega
               ·rw[aj h0,aj aa];omega
             have HLT:=ae (Mx.Ih hri NZ.out hp);have HGE:=ae (Mx.Ii hri NZ.out hp);generalize(Mx.scan c r M (i-r)).2=q at*;clear hp fy yz;simp only[Gq]
             go_upto_region 11 with((go_at_call 95;(with_reducible refine(ZE.out _ ?_).mono ?_);(exact HX.out.below (B:=wr.heap.size) aA (af _));rintro e w1 ⟨rfl,hb1⟩;obtain⟨g1,rfl⟩:=mob hb1;clear hb1))
             have hBa:Below wr.heap.size wr (more wr g1):=by exact bel
             have HBA:=ae hBa;clear hBa
             (apply Own3.dR 21 [.inl _, .inl _, .inl _, .inl _, .inl _, .inl _, .inl _, .inl _, .inl _, .inl _, .inr (rIZ (((Mx.at' M i c).natAbs:Int))), .inl _, .inl _, .inl _, .inl _, .inl _, .inl _, .inl _, .inr (rIZ (((Mx.at' M t c).natAbs:Int))), .inl _, .inl _] ah ah;simp only[eu,dw,eU,du];refine jJ ?_;refine jJ ?_;refine jJ ?_;refine jJ ?_;refine jJ ?_;refine jJ ?_;refine jJ ?_;refine jJ ?_;refine jJ ?_;refine jJ ?_;(refine Own3.fQ rfl (fun K hK=>?_) (fun x111=>?_);(focus(go_simp;clear hK K;intro w' hw' hcb';first|(go_at_call 185;(first|exact gC (pJ ⟨xs,xa,xn,xc⟩ (Mx.at' M i c) FX.out _ ((HX.out.below (Below.trans HBA.out ((Ext.below hw').mono HBA.out.size)) (af _)).ip))|exact gC (pJ ⟨ys,ya,yn,yc⟩ (Mx.at' M t c) FY.out _ ((HY.out.below (Below.trans HBA.out ((Ext.below hw').mono HBA.out.size)) (af _)).ip))))));simp only[rIZ,Act.put,jz,jr,et]);refine jJ ?_;refine jJ ?_;refine jJ ?_;refine jJ ?_;refine jJ ?_;refine jJ ?_;refine jJ ?_;(refine Own3.fQ rfl (fun K hK=>?_) (fun x112=>?_);(focus(go_simp;clear hK K;intro w' hw' hcb';first|(go_at_call 185;(first|exact gC (pJ ⟨xs,xa,xn,xc⟩ (Mx.at' M i c) FX.out _ ((HX.out.below (Below.trans HBA.out ((Ext.below hw').mono HBA.out.size)) (af _)).ip))|exact gC (pJ ⟨ys,ya,yn,yc⟩ (Mx.at' M t c) FY.out _ ((HY.out.below (Below.trans HBA.out ((Ext.below hw').mono HBA.out.size)) (af _)).ip))))));simp only[Act.put,jz,jr,et]);refine jJ ?_;refine jJ ?_;refine Own3.jW ?_;intro w11 hw11;have hB11:=hw11.1;have HY111:Hid (IZ w11 x111 (((Mx.at' M i c).natAbs:Int))):=ae (hw11.get (u:=10) (Or.inr (Or.inl ⟨rfl,rfl⟩)));have HY112:Hid (IZ w11 x112 (((Mx.at' M t c).natAbs:Int))):=ae (hw11.get (u:=18) (Or.inl ⟨rfl,rfl⟩));clear hw11;obtain⟨g11,rfl⟩:=mob hB11;clear hB11)
             clear HY111 HY112;by_cases hlt:(Mx.at' M i c).natAbs<(Mx.at' M t c).natAbs
             ·have hs1:=SG.out.1 hlt;have hs2:decide (sgn (((Mx.at' M i c).natAbs:Int)-((Mx.at' M t c).natAbs:Int))<0)=true:=by rw[cZ];exact hs1
              have HS:=ae (HLT.out hlt);clear hlt
              go_wp2_with fail
              go_roundg (m-(i+1))
              case measure=>omega
              case rel=>exact⟨i+1,by omega,by omega,rfl,by rw[HS.out];rfl,by rw[HS.out];go_num,by go_num,HW.out.ext hBy aA⟩
             ·have hs1:=SG.out.2 hlt;have hs2:decide (sgn (((Mx.at' M i c).natAbs:Int)-((Mx.at' M t c).natAbs:Int))<0)=false:=by rw[bW];omega
              have HS:=ae (HGE.out hlt);clear hlt
              go_wp2_with fail
              go_roundg (m-(i+1))
              case measure=>omega
              case rel=>exact⟨i+1,by omega,by omega,rfl,by rw[HS.out];rfl,by rw[HS.out];go_num,by go_num,HW.out.ext hBy aA⟩
          ·have hi2:¬(i:Int)<(m:Int):=by omega
           obtain rfl:i=m:=by omega
           go_wp2_with fail
           go_meet
           case rel=>exact⟨by unfold Mx.pick;rw[HJ.out.1.len],by unfold Mx.pick;rw[HJ.out.1.len],HW⟩
       case rest=>
        obtain⟨rfl,rfl,HW⟩:=hcut;have hBc:B<=wc.heap.size:=bQ (gY HW.out.mo.b HW.out.mo.lt);have gml:gm<wc.heap.size:=HW.out.mo.lt
        cases hp:(Mx.pick r c M).1 with
        |none=>
         have hq:(Mx.pick r c M).2=0:=((Mx.fT c r M (M.length-r)).no hp).1;rw[hq];have HE:=ae ((Mx.wU hp).symm.trans HMc.out);clear hp hq
         go_wp2_with fail
         go_meet
         case rel=>exact⟨gs,cs,by rw[HM0.out,<-HE.out];exact HW⟩
        |some t=>
         have SC:=ae ((Mx.fT c r M (M.length-r)).yes t hp);have htm:t<m:=by have:=SC.out.2.1;have:=HW.out.len;omega
         have htm2:(t:Int)<(m:Int):=by omega
         have hrt:r<=t:=SC.out.1;obtain⟨q,hq⟩:∃q,(Mx.pick r c M).2=q:=⟨_,rfl⟩;have hq0:1<=q:=by have:=SC.out.2.2.2.2.1;unfold Mx.pick at hq;omega
         have HO:=ae (fun (h:q=1)=>Mx.zm hp (hq.trans h));have HS:=ae (fun (h:q≠1)=>Mx.wT HW.out.mo.rc hp (by rw[hq];exact h));have HN:=ae (fun (h:q≠1)=>Mx.lZ HW.out.mo.rc hp (by rw[hq];exact h));have HJ2:=ae (fun (h:q≠1)=>Mx.Cd HW.out.mo.rc HJ.out.2 hp (by rw[hq];exact h));rw[hq];have kr:=(HW.out.mo.hc r yt).1;have kt:=(HW.out.mo.hc t (by rw[HW.out.len];exact htm)).1;have fr:=HW.out.mo.fr r;have ft:=HW.out.mo.fr t;have hMS:=HW.out.mo.swp (i:=r) (j:=t) yt (by rw[HW.out.len];exact htm);have HMS:=ae hMS;clear hMS hp hq;simp only[Gq];have q1:¬(q:Int)=0:=by omega
         have q2:¬q=0:=by omega
         have q3:((q:Int)==0)=false:=by rw[beq_eq_false_iff_ne];exact q1
         go_upto_region 14 with fail
         go_cut [10]from 23 to 122 (fun _ wy=>Hid (R1 w wy B gm L n m (ix gs r t) (ix cs r t) (Mx.swp M r t)))
         case first=>
          as_aux_lemma=>
           have HRS:=ae (HW.out.swp hrr htm);by_cases htr:t=r
           ·subst htr
            go_region
            all_goals(go_wp2_with fail;go_meet)
            case rel=>exact HRS.out
           ·have htr2:¬r=t:=by omega
            go_region
            all_goals(go_wp2_with fail;go_meet)
            case rel=>exact HRS.out
         case rest=>
          have HW2:=hcut;clear kr kt fr ft HW HMS gml hBc hcut;generalize ix gs r t=gs2 at HW2;generalize ix cs r t=cs2 at HW2;by_cases hq1:q=1
          ·have HE:=ae ((HO.out hq1).symm.trans HMc.out);subst hq1;clear HO HS HN HJ2
           go_wp2_with fail
           go_meet
           case rel=>exact⟨gs2,cs2,by rw[HM0.out,<-HE.out];exact HW2⟩
          ·have q4:¬(q:Int)=1:=by omega
           have q5:((q:Int)==1)=false:=by rw[beq_eq_false_iff_ne];exact q4
           have HE:=ae ((HS.out hq1).symm.trans HMc.out);have HN1:=ae (HN.out hq1).2.2.2;have HJ3:=ae (HJ2.out hq1);have hpiv:Mx.at' (Mx.swp M r t) r c≠0:=by
            have h1:=SC.out.2.2.1;have h2:=(HN.out hq1);rw[Mx.dE h2.1 h2.2.1];split
            ·rename_i e;rw[e];exact h1
            ·rw[an rfl];exact h1
           have HPV:Hid (Mx.at' (Mx.swp M r t) r c≠0):=hpiv;have HLM:=ae HJ.out.1.len;unfold Mx.elim at HE HN1 HJ3;generalize hS:Mx.swp M r t=S at*;have HSL:Hid (S.length=m):=HW2.out.len;have HRC:Hid (Mx.Rc n S):=HW2.out.mo.rc;clear HO HS HN HJ2 hpiv SC hS
           go_wp2_with fail
           go_loopg [10] (m-(r+1)) (fun kk s10 wy=>∃i:Nat,r+1<=i/\i<=m/\kk=m-i/\s10= .int .i64 ((i:Int))/\Hid (R1 w wy B gm L n m gs2 cs2 (Mx.ba r c (r+1) S (i-(r+1)))))
           case atStart=>exact⟨r+1,af _,hrr,by omega,by go_num,by rw[eR];exact HW2⟩
           case round=>
            clear HW2;obtain⟨i,hri,him,rfl,rfl,HW⟩:=hrel;have hBy:B<=wr.heap.size:=bQ (gY HW.out.mo.b HW.out.mo.lt);have gml:gm<wr.heap.size:=HW.out.mo.lt;have hcn:(c:Int)<(n:Int):=by omega
            by_cases hi:i<m
            ·have hi2:(i:Int)<(m:Int):=by omega
             have hrc:Mx.Rc n S:=HRC.out;have HZ:=ae (fun (h:Mx.at' (Mx.ba r c (r+1) S (i-(r+1))) i c=0)=>(show Mx.ba r c (r+1) S (i+1-(r+1))=Mx.ba r c (r+1) S (i-(r+1)) by
              rw[show i+1-(r+1)=(i-(r+1))+1 by omega];exact Mx.K9 hrc (by rw[HSL.out];exact hrr) aa xx (by rw[show r+1+(i-(r+1))=i by omega];exact h)))
             have HNX:Hid (Mx.ba r c (r+1) S (i+1-(r+1))=(Mx.ba r c (r+1) S (i-(r+1))).set i (Mx.eO (Mx.rw (Mx.ba r c (r+1) S (i-(r+1))) r) c (Mx.rw (Mx.ba r c (r+1) S (i-(r+1))) i))):=by
              show _=_;rw[show i+1-(r+1)=(i-(r+1))+1 by omega,Mx.oC aa xx,show r+1+(i-(r+1))=i by omega]
             have hpn:Mx.at' (Mx.ba r c (r+1) S (i-(r+1))) r c≠0:=by
              unfold Mx.at';rw[Mx.gw r c (r+1) S (i-(r+1)) xx r,aj aa];exact HPV.out
             have HBN:=ae (HJ3.out.1 (i-(r+1)) (by rw[HLM.out];omega));generalize Mx.ba r c (r+1) S (i-(r+1))=N at*;obtain⟨x,k0,x0,x1,xz,xl⟩:=HW.out.mo.elem (i:=i) (j:=c) (by rw[HW.out.len];exact hi) aa;obtain⟨y,kr,y0,y1,yz,yl⟩:=HW.out.mo.elem (i:=r) (j:=c) yt aa;have HX:=ae xz;have HY:=ae yz;have FX:Hid (Fit (Mx.at' N i c)):=bK (HBN.out i c) aa;have FY:Hid (Fit (Mx.at' N r c)):=bK (HBN.out r c) aa;obtain⟨xs,xa,xn,xc⟩:=x;obtain⟨ys,ya,yn,yc⟩:=y;simp only[]at x0 x1 y0 y1;clear xz yz hrc hpn;by_cases hz:Mx.at' N i c=0
             ·have hd:decide (Mx.at' N i c=0)=true:=by rw[cZ];exact hz
              have ZE:=ae (fun w hx=>hd▸iV ⟨xs,xa,xn,xc⟩ (Mx.at' N i c) w hx);have HE2:=ae (HZ.out hz);clear hz hd HZ HNX
              go_wp2_with ((go_at_call 95;(with_reducible refine(ZE.out _ ?_).mono ?_);(exact HX.out.below (B:=wr.heap.size) aA (af _));rintro e w1 ⟨rfl,hb1⟩;obtain⟨g1,rfl⟩:=mob hb1;clear hb1))
              go_roundg (m-(i+1))
              case measure=>omega
              case rel=>exact⟨i+1,by omega,by omega,rfl,by go_num,by first|(rw[HE2.out];exact HW.out.ext hBy aA)|(show R1 _ _ _ _ _ _ _ _ _ _;rw[HE2.out];exact HW.out.ext hBy aA)⟩
             ·have hd:decide (Mx.at' N i c=0)=false:=by rw[bW];exact hz
              have ZE:=ae (fun w hx=>hd▸iV ⟨xs,xa,xn,xc⟩ (Mx.at' N i c) w hx);clear hz hd HZ
              go_upto_region 20 with((go_at_call 95;(with_reducible refine(ZE.out _ ?_).mono ?_);(exact HX.out.below (B:=wr.heap.size) aA (af _));rintro e w1 ⟨rfl,hb1⟩;obtain⟨g1,rfl⟩:=mob hb1;clear hb1))
              have hBa:Below wr.heap.size wr (more wr g1):=by exact bel
              have HBA:=ae hBa;clear hBa;have hqb:(Mx.at' N i c/Mx.at' N r c).natAbs<=2^E:=aB (Mx.jI _ _) (HBN.out i c);have FQ:Hid (Fit (Mx.at' N i c/Mx.at' N r c)):=bK hqb aa;have HQB:=ae hqb;clear hqb
              (apply Own3.dR 24 [.inl _, .inl _, .inl _, .inl _, .inl _, .inl _, .inl _, .inl _, .inl _, .inl _, .inl _, .inl _, .inl _, .inl _, .inl _, .inl _, .inl _, .inl _, .inr (rIZ (Mx.at' N i c/Mx.at' N r c)), .inr (rIZ (-(Mx.at' N i c/Mx.at' N r c))), .inl _, .inl _, .inl _, .inl _] ah ah;simp only[eu,dw,eU,du];refine zs1 ?_;refine zs1 ?_;refine zs1 ?_;refine zs1 ?_;refine zs1 ?_;refine zs1 ?_;refine zs1 ?_;refine zs1 ?_;refine zs1 ?_;refine zs1 ?_;refine zs1 ?_;refine zs1 ?_;refine zs1 ?_;refine zs1 ?_;refine zs1 ?_;refine zs1 ?_;refine zs1 ?_;refine zs1 ?_;(refine Own3.fQ rfl (fun K hK=>?_) (fun x201=>?_);(focus(go_simp;clear hK K;intro w' hw' hcb';first|(go_at_call 121;exact(gC (ni ⟨xs,xa,xn,xc⟩ ⟨ys,ya,yn,yc⟩ (Mx.at' N i c) (Mx.at' N r c) FX.out FY.out _ ((HX.out.below (Below.trans HBA.out ((Ext.below hw').mono HBA.out.size)) (af _)).ip) ((HY.out.below (Below.trans HBA.out ((Ext.below hw').mono HBA.out.size)) (af _)).ip))))|(go_at_call 102;(have hf:=hcb'.get (u:=18) sL;exact gC (nj x201 _ FQ.out _ (IZ.ip (show IZ w' x201 (Mx.at' N i c/Mx.at' N r c)from hf)))))));simp only[rIZ,Act.put,jz,jr,et]);(refine Own3.fQ rfl (fun K hK=>?_) (fun x202=>?_);(focus(go_simp;clear hK K;intro w' hw' hcb';first|(go_at_call 121;exact(gC (ni ⟨xs,xa,xn,xc⟩ ⟨ys,ya,yn,yc⟩ (Mx.at' N i c) (Mx.at' N r c) FX.out FY.out _ ((HX.out.below (Below.trans HBA.out ((Ext.below hw').mono HBA.out.size)) (af _)).ip) ((HY.out.below (Below.trans HBA.out ((Ext.below hw').mono HBA.out.size)) (af _)).ip))))|(go_at_call 102;(have hf:=hcb'.get (u:=18) sL;exact gC (nj x201 _ FQ.out _ (IZ.ip (show IZ w' x201 (Mx.at' N i c/Mx.at' N r c)from hf)))))));simp only[Act.put,jz,jr,et]);refine zs1 ?_;refine zs1 ?_;refine zs1 ?_;refine zs1 ?_;refine Own3.jW ?_;intro w20 hw20;have hB20:=hw20.1;have HY201:Hid (IZ w20 x201 (Mx.at' N i c/Mx.at' N r c)):=ae (hw20.get (u:=18) (Or.inr (Or.inl ⟨rfl,rfl⟩)));have HY202:Hid (IZ w20 x202 (-(Mx.at' N i c/Mx.at' N r c))):=ae (hw20.get (u:=19) (Or.inl ⟨rfl,rfl⟩));clear hw20;obtain⟨g20,rfl⟩:=mob hB20;clear hB20)
              clear HY201;have hBb:Below wr.heap.size wr (more (more wr g1) g20):=by exact bel
              have hW20:=HW.out.ext hBy hBb;have hs20:wr.heap.size<=(more (more wr g1) g20).heap.size:=hBb.size;have gml2:gm<(more (more wr g1) g20).heap.size:=aZ gml hs20;have hlen1:(Mx.rw N i).length=n:=HW.out.mo.rc.rw (by rw[HW.out.len];exact hi);have hlen2:(Mx.rw N r).length=n:=HW.out.mo.rc.rw yt;have hri3:r≠i:=by omega
              have AD:=ae (yK x202 (-(Mx.at' N i c/Mx.at' N r c)) (gs2 i) (gs2 r) 0 n (cs2 i) (cs2 r) (Mx.rw N i) (Mx.rw N r) hlen1 hlen2 HW.out.mo.n0 aa (bK (e:=E) Kb aa) (ze HBN.out hKf _ Kb) (hW20.mo.dj r i (by rw[hW20.len];exact hrr) (by rw[hW20.len];exact hi) hri3) _ HY202.out (hW20.mo.hc i (by rw[hW20.len];exact hi)).2.2.2.2 (hW20.mo.hc r (by rw[hW20.len];exact hrr)).2.2.2.2.ra);have HW20:=ae hW20;have HL12:=ae (Mx.pB (Mx.rw N r) (Mx.rw N i) c aa);clear hBb hW20 hlen2 HY202
              go_wp2_with (first|(go_at_call 160;(with_reducible refine AD.out.mono ?_);rintro e w22 ⟨rfl,hC22,hR22⟩;have HC22:=ae (And.intro hC22 hR22);clear hC22 hR22))
              go_roundg (m-(i+1))
              case measure=>omega
              case rel=>
               refine⟨i+1,by omega,by omega,rfl,by go_num,?_⟩;show R1 _ _ _ _ _ _ _ _ _ _;rw[HNX.out];exact HW20.out.set hi (HL12.out.trans hlen1) HC22.out.1 HC22.out.2
            ·have hi2:¬(i:Int)<(m:Int):=by omega
             obtain rfl:i=m:=by omega
             have HW3:Hid (R1 w wr B gm L n i gs2 cs2 (Mx.ba r c (r+1) S (M.length-(r+1)))):=by rw[HLM.out];exact HW
             go_wp2_with fail
             go_roundg (Mx.kW r c (Mx.ba r c (r+1) S (S.length-(r+1))))
             case measure=>exact HN1.out
             case rel=>
              refine⟨gs2,cs2,_,rfl,⟨?_,HJ3.out.2⟩,HE.out⟩;rw[show S.length=M.length from HSL.out.trans HLM.out.symm];exact HW3.out
    case rest=>
     obtain⟨gs2,cs2,HW⟩:=hcut;have hBc:B<=wc.heap.size:=bQ (gY HW.out.mo.b HW.out.mo.lt);have gml:gm<wc.heap.size:=HW.out.mo.lt;have hcn:(c:Int)<(n:Int):=by omega
     have hX1:1<=2^(e*11^c):=ep aa;have he6:6<=e*11^c:=aB he (eQ e (ep aa));have hnb:Mx.nb (2^(e*11^c))<=2^(e*11^(c+1)):=aB (Mx.AP he6) (vU (by rw[Mx.e11]));have hKf:2*(e*11^(c+1))<=6000000000000:=aB (bV 2 (bV e (bI aa aa))) HF.out;have hrM:r<M.length:=by rw[HR.out.r1.len];exact hrr
     have hrcM:Mx.Rc n M:=HR.out.r1.mo.rc;have HAB:Hid (Mx.Bd (2^(e*11^(c+1))) (Mx.cH r c M)):=Mx.xU hrcM (.inl ⟨_,hX1,HR.out.bd,aB (Mx.KK _) hnb⟩);have HSB:Hid (Mx.Bd (2^(e*11^(c+1))) (Mx.step r c M).2):=(Mx.H5 hrcM hrM hX1 HR.out.bd).mono hnb;have HEQ:Hid (Mx.red (cN-(c+1)) (c+1) (Mx.step r c M)=T):=by
      have h1:=HR.out.eq;rw[show cN-c=(cN-(c+1))+1 by omega,Mx.AG hrM]at h1;exact h1
     have HSZ:=ae (fun (h:Mx.at' (Mx.cH r c M) r c=0)=>(show Mx.step r c M=(r,Mx.cH r c M) by unfold Mx.step;simp only[];rw[an h]));have HSN:=ae (fun (h:¬Mx.at' (Mx.cH r c M) r c=0)=>(show Mx.step r c M=(r+1,Mx.kj r c (Mx.cJ r c (Mx.cH r c M))) by unfold Mx.step;simp only[];rw[aj h]));generalize Mx.step r c M=ST at*;generalize Mx.cH r c M=A at*;generalize hE:e*11^(c+1)=E at*;have HE0:=ae hE;clear hX1 he6 hnb hrM hrcM HR hE;obtain⟨x,kr,x0,x1,xz,xl⟩:=HW.out.mo.elem (i:=r) (j:=c) yt aa;have HX:=ae xz;have FX:Hid (Fit (Mx.at' A r c)):=bK (HAB.out r c) aa;obtain⟨xs,xa,xn,xc⟩:=x;simp only[]at x0 x1;clear xz;by_cases hz:Mx.at' A r c=0
     ·have hd:decide (Mx.at' A r c=0)=true:=by rw[cZ];exact hz
      have ZE:=ae (fun w hx=>hd▸iV ⟨xs,xa,xn,xc⟩ (Mx.at' A r c) w hx);have HS:=ae (HSZ.out hz);clear hz hd HSZ HSN
      go_wp2_with ((go_at_call 95;(with_reducible refine(ZE.out _ ?_).mono ?_);(exact HX.out.below (B:=wc.heap.size) aA (af _));rintro e w1 ⟨rfl,hb1⟩;obtain⟨g1,rfl⟩:=mob hb1;clear hb1))
      go_roundg (cN-(c+1))
      case measure=>omega
      case rel=>
       refine⟨r,c+1,gs2,cs2,A,rfl,by omega,hrm,rfl,by go_num,HW.out.ext hBc aA,hrm,?_,?_⟩
       ·have:=HEQ.out;rw[HS.out]at this;exact this
       ·have:=HSB.out;rw[HS.out]at this;rw[HE0.out];exact this
     ·have hd:decide (Mx.at' A r c=0)=false:=by rw[bW];exact hz
      have ZE:=ae (fun w hx=>hd▸iV ⟨xs,xa,xn,xc⟩ (Mx.at' A r c) w hx);have HS:=ae (HSN.out hz);have SI:=ae (fun w hx=>we ⟨xs,xa,xn,xc⟩ (Mx.at' A r c) FX.out w hx);clear hd HSZ HSN
      go_upto_if 139 with(first|(go_at_call 95;(with_reducible refine(ZE.out _ ?_).mono ?_);(exact HX.out.below (B:=wc.heap.size) aA (af _));rintro e w1 ⟨rfl,hb1⟩;obtain⟨g1,rfl⟩:=mob hb1;clear hb1)|(go_at_call 101;(with_reducible refine(SI.out _ ?_).mono ?_);(exact(HX.out.below (B:=wc.heap.size) aA (af _)).ip);rintro e w2 ⟨rfl,hb2⟩;obtain⟨g2,rfl⟩:=mob hb2;clear hb2))
      go_cut [7]from 12 to 176 (fun _ wx=>Hid (R1 w wx B gm L n m gs2 cs2 (Mx.cJ r c A)))
      case first=>
       as_aux_lemma=>
        have hBb:Below wc.heap.size wc (more (more wc g1) g2):=by exact bel
        have HW20:=ae (HW.out.ext hBc hBb);clear hBb;by_cases hneg:Mx.at' A r c<0
        ·have hs1:sgn (Mx.at' A r c)<0:=by unfold sgn;rw[aj aa,an hneg];omega
         have hs2:decide (sgn (Mx.at' A r c)<0)=true:=by rw[cZ];exact hs1
         have hlen1:(Mx.rw A r).length=n:=HW.out.mo.rc.rw yt;have NG:=ae (Hg (gs2 r) n (cs2 r) (Mx.rw A r) hlen1 aa (fun z hz=>by
          obtain⟨j,hj⟩:=tf hz;exact(ze (i:=r) (r:=r) HAB.out hKf 0 aU j z z hj hj).1) HW.out.mo.n0 _ (HW20.out.mo.hc r (by rw[HW20.out.len];exact hrr)).2.2.2.2)
         have HSG:Hid (Mx.cJ r c A=A.set r (Mx.neg (Mx.rw A r))):=by show _=_;unfold Mx.cJ;rw[an hneg]
         clear hneg
         go_wp2_with (first|(go_at_call 186;(with_reducible refine NG.out.mono ?_);rintro e w22 ⟨rfl,hC22,hR22⟩;have HC22:=ae (And.intro hC22 hR22);clear hC22 hR22))
         go_meet
         case rel=>
          show R1 _ _ _ _ _ _ _ _ _ _;rw[HSG.out];exact HW20.out.set hrr ((Mx.oV _).trans hlen1) HC22.out.1 HC22.out.2
        ·have hs1 : ¬ sgn (Mx.at' A r c) < 0 := by
          unfold sgn;by_cases h0:Mx.at' A r c=0
          ·rw[an h0];omega
          ·rw[aj h0,aj hneg];omega
         have hs2:decide (sgn (Mx.at' A r c)<0)=false:=by rw[bW];exact hs1
         have HSG:Hid (Mx.cJ r c A=A):=by show _=_;unfold Mx.cJ;rw[aj hneg]
         clear hneg
         go_wp2_with fail
         go_meet
         case rel=>
          show R1 _ _ _ _ _ _ _ _ _ _;rw[HSG.out];exact HW20.out
      case rest=>
       have HW2:=hcut;have HSP:Hid (Mx.at' (Mx.cJ r c A) r c≠0/\Mx.Bd (2^E) (Mx.cJ r c A)):=by
        have hl:r<A.length:=by rw[HW.out.len];exact hrr
        refine⟨?_,Mx.BU HAB.out hl⟩;unfold Mx.cJ;split
        ·rw[Mx.oF _ _ _ _ _ hl,an rfl,Mx.kF];have:(Mx.rw A r).getD c 0=Mx.at' A r c:=rfl;omega
        ·exact hz
       have HRC:Hid (Mx.Rc n (Mx.cJ r c A)):=HW2.out.mo.rc;have HSL:Hid ((Mx.cJ r c A).length=m):=HW2.out.len;clear HW kr x0 x1 xl ZE SI HX hcut gml hz FX;unfold Mx.kj at HS;generalize Mx.cJ r c A=S at*
       go_wp2_with fail
       go_loopg [146] r (fun kk s146 wy=>∃i:Nat,i<=r/\kk=r-i/\s146= .int .i64 ((i:Int))/\Hid (R1 w wy B gm L n m gs2 cs2 (Mx.ba r c 0 S i)))
       case atStart=>exact⟨0,aO _,rfl,rfl,HW2⟩
       case round=>
        clear HW2;obtain⟨i,hir,rfl,rfl,HW⟩:=hrel;have hBy:B<=wr.heap.size:=bQ (gY HW.out.mo.b HW.out.mo.lt);have gml:gm<wr.heap.size:=HW.out.mo.lt;by_cases hi:i<r
        ·have hi2:(i:Int)<(r:Int):=by omega
         have him:i<m:=by omega
         have him2:(i:Int)<(m:Int):=by omega
         have HNX:Hid (Mx.ba r c 0 S (i+1)=(Mx.ba r c 0 S i).set i (Mx.eO (Mx.rw (Mx.ba r c 0 S i) r) c (Mx.rw (Mx.ba r c 0 S i) i))):=by
          show _=_;rw[Mx.oC aa xx,bw]
         have hrwi:Mx.rw (Mx.ba r c 0 S i) i=Mx.rw S i:=by rw[Mx.gw r c 0 S i xx i,aj aa]
         have hrwr:Mx.rw (Mx.ba r c 0 S i) r=Mx.rw S r:=by rw[Mx.gw r c 0 S i xx r,aj aa]
         rw[hrwi,hrwr]at HNX;have hai:Mx.at' (Mx.ba r c 0 S i) i c=Mx.at' S i c:=by unfold Mx.at';rw[hrwi]
         have har:Mx.at' (Mx.ba r c 0 S i) r c=Mx.at' S r c:=by unfold Mx.at';rw[hrwr]
         obtain⟨x,k0,x0,x1,xz,xl⟩:=HW.out.mo.elem (i:=i) (j:=c) (by rw[HW.out.len];exact him) aa;obtain⟨y,kr,y0,y1,yz,yl⟩:=HW.out.mo.elem (i:=r) (j:=c) yt aa;rw[hai]at xz;rw[har]at yz;have HX:=ae xz;have HY:=ae yz;have HRW:=ae (And.intro hrwi hrwr);have FX:Hid (Fit (Mx.at' S i c)):=bK (HSP.out.2 i c) aa;have FY:Hid (Fit (Mx.at' S r c)):=bK (HSP.out.2 r c) aa;have hqb:(Mx.at' S i c/Mx.at' S r c).natAbs<=2^E:=aB (Mx.jI _ _) (HSP.out.2 i c);have FQ:Hid (Fit (Mx.at' S i c/Mx.at' S r c)):=bK hqb aa;have HQB:=ae hqb;obtain⟨xs,xa,xn,xc⟩:=x;obtain⟨ys,ya,yn,yc⟩:=y;simp only[]at x0 x1 y0 y1;clear xz yz hai har hrwi hrwr hqb
         go_upto_region 27 with fail
         have HBA:Hid (Below wr.heap.size wr wr):=Below.refl _ _
         (apply Own3.dR 24 [.inl _, .inl _, .inl _, .inl _, .inl _, .inl _, .inl _, .inl _, .inl _, .inl _, .inl _, .inl _, .inl _, .inl _, .inl _, .inl _, .inl _, .inl _, .inr (rIZ (Mx.at' S i c/Mx.at' S r c)), .inr (rIZ (-(Mx.at' S i c/Mx.at' S r c))), .inl _, .inl _, .inl _, .inl _] ah ah;simp only[eu,dw,eU,du];refine zs1 ?_;refine zs1 ?_;refine zs1 ?_;refine zs1 ?_;refine zs1 ?_;refine zs1 ?_;refine zs1 ?_;refine zs1 ?_;refine zs1 ?_;refine zs1 ?_;refine zs1 ?_;refine zs1 ?_;refine zs1 ?_;refine zs1 ?_;refine zs1 ?_;refine zs1 ?_;refine zs1 ?_;refine zs1 ?_;(refine Own3.fQ rfl (fun K hK=>?_) (fun x201=>?_);(focus(go_simp;clear hK K;intro w' hw' hcb';first|(go_at_call 121;exact(gC (ni ⟨xs,xa,xn,xc⟩ ⟨ys,ya,yn,yc⟩ (Mx.at' S i c) (Mx.at' S r c) FX.out FY.out _ ((HX.out.below (Below.trans HBA.out ((Ext.below hw').mono HBA.out.size)) (af _)).ip) ((HY.out.below (Below.trans HBA.out ((Ext.below hw').mono HBA.out.size)) (af _)).ip))))|(go_at_call 102;(have hf:=hcb'.get (u:=18) sL;exact gC (nj x201 _ FQ.out _ (IZ.ip (show IZ w' x201 (Mx.at' S i c/Mx.at' S r c)from hf)))))));simp only[rIZ,Act.put,jz,jr,et]);(refine Own3.fQ rfl (fun K hK=>?_) (fun x202=>?_);(focus(go_simp;clear hK K;intro w' hw' hcb';first|(go_at_call 121;exact(gC (ni ⟨xs,xa,xn,xc⟩ ⟨ys,ya,yn,yc⟩ (Mx.at' S i c) (Mx.at' S r c) FX.out FY.out _ ((HX.out.below (Below.trans HBA.out ((Ext.below hw').mono HBA.out.size)) (af _)).ip) ((HY.out.below (Below.trans HBA.out ((Ext.below hw').mono HBA.out.size)) (af _)).ip))))|(go_at_call 102;(have hf:=hcb'.get (u:=18) sL;exact gC (nj x201 _ FQ.out _ (IZ.ip (show IZ w' x201 (Mx.at' S i c/Mx.at' S r c)from hf)))))));simp only[Act.put,jz,jr,et]);refine zs1 ?_;refine zs1 ?_;refine zs1 ?_;refine zs1 ?_;refine Own3.jW ?_;intro w20 hw20;have hB20:=hw20.1;have HY201:Hid (IZ w20 x201 (Mx.at' S i c/Mx.at' S r c)):=ae (hw20.get (u:=18) (Or.inr (Or.inl ⟨rfl,rfl⟩)));have HY202:Hid (IZ w20 x202 (-(Mx.at' S i c/Mx.at' S r c))):=ae (hw20.get (u:=19) (Or.inl ⟨rfl,rfl⟩));clear hw20;obtain⟨g20,rfl⟩:=mob hB20;clear hB20)
         clear HY201;have hBb:Below wr.heap.size wr (more wr g20):=by exact bel
         have hW20:=HW.out.ext hBy hBb;have hs20:wr.heap.size<=(more wr g20).heap.size:=hBb.size;have gml2:gm<(more wr g20).heap.size:=aZ gml hs20;have hlen1:(Mx.rw S i).length=n:=HRC.out.rw (by rw[HSL.out];exact him);have hlen2:(Mx.rw S r).length=n:=HRC.out.rw (by rw[HSL.out];exact hrr);have hri3:r≠i:=by omega
         have hci:=(hW20.mo.hc i (by rw[hW20.len];exact him)).2.2.2.2;have hcr:=(hW20.mo.hc r (by rw[hW20.len];exact hrr)).2.2.2.2;rw[HRW.out.1]at hci;rw[HRW.out.2]at hcr;have AD:=ae (yK x202 (-(Mx.at' S i c/Mx.at' S r c)) (gs2 i) (gs2 r) 0 n (cs2 i) (cs2 r) (Mx.rw S i) (Mx.rw S r) hlen1 hlen2 HW.out.mo.n0 aa (bK (e:=E) Kb aa) (ze HSP.out.2 hKf _ Kb) (hW20.mo.dj r i (by rw[hW20.len];exact hrr) (by rw[hW20.len];exact him) hri3) _ HY202.out hci hcr.ra);have HW20:=ae hW20;have HL12:=ae (Mx.pB (Mx.rw S r) (Mx.rw S i) c aa);clear hBb hW20 hlen2 HY202 hci hcr
         go_wp2_with (first|(go_at_call 160;(with_reducible refine AD.out.mono ?_);rintro e w22 ⟨rfl,hC22,hR22⟩;have HC22:=ae (And.intro hC22 hR22);clear hC22 hR22))
         go_roundg (r-(i+1))
         case measure=>omega
         case rel=>
          refine⟨i+1,by omega,rfl,by go_num,?_⟩;show R1 _ _ _ _ _ _ _ _ _ _;rw[HNX.out];exact HW20.out.set him (HL12.out.trans hlen1) HC22.out.1 HC22.out.2
        ·have hi2:¬(i:Int)<(r:Int):=by omega
         obtain rfl:i=r:=by omega
         go_wp2_with fail
         go_roundg (cN-(c+1))
         case measure=>omega
         case rel=>
          refine⟨i+1,c+1,gs2,cs2,_,rfl,by omega,by omega,by go_num,by go_num,HW.out,by omega,?_,?_⟩
          ·have:=HEQ.out;rw[HS.out]at this;exact this
          ·have:=HSB.out;rw[HS.out]at this;rw[HE0.out];exact this
   ·have hrr2:¬(r:Int)<(m:Int):=by omega
    have hrr3:decide ((r:Int)<(m:Int))=false:=by rw[bW];exact hrr2
    have HT:Hid (T=(r,M)):=by
     have h1:=HR.out.eq;rw[Mx.qQ (by rw[HR.out.r1.len];exact hrr)]at h1;exact h1.symm
    go_wp2_with fail
    go_ret
    refine⟨by rw[HT.out];rfl,HR.out.r1.bl,gs,cs,?_⟩;rw[HT.out];exact HR.out.r1.mo
  ·have hcc2:¬(c:Int)<(cN:Int):=by omega
   have hcc3:decide ((c:Int)<(cN:Int))=false:=by rw[bW];exact hcc2
   have HT:Hid (T=(r,M)):=by
    have h1:=HR.out.eq;rw[show cN-c=0 by omega]at h1;exact h1.symm
   go_wp2_with fail
   go_ret
   refine⟨by rw[HT.out];rfl,HR.out.r1.bl,gs,cs,?_⟩;rw[HT.out];exact HR.out.r1.mo
end
section
open Go.RowKit Go.BigFrame
attribute [local go_sem ↓] Go.wp_at_zero Go.wp_at_succ
theorem MR.row{w:World}{v:Value}{n:Nat}{M:Mx.Mat}(h:MR w v n M):∃a cap,v= .slice a M.length cap/\M.length<=cap/\Mx.Rc n M/\(M=[]\/∃gm om,a=some ⟨gm,om,none⟩/\gm<w.heap.size/\
  ∀i,i<M.length->∃b c,w.cell? ⟨gm,om+i,none⟩=some (.slice b n c)/\RV w (.slice b n c) n (Mx.rw M i)):=by
 obtain⟨a,cap,h1,h2,h3,h4⟩:=h;refine⟨a,cap,h1,h2,h3,?_⟩;rcases h4 with h4|⟨gm,om,e,hg,h5⟩
 ·exact .inl h4
 ·refine .inr ⟨gm,om,e,hg,fun i hi=>?_⟩;obtain⟨b,c,k1,k2,kA,k3⟩:=h5 i hi;exact⟨b,c,k1,b,c,rfl,k2,h3.rw hi,kA,k3⟩
theorem gJ{M:Mx.Mat}{i:Nat}(h:i<M.length):M[i]?=some (Mx.rw M i):=by
 unfold Mx.rw;rw[aq,aV h];rfl
set_option maxRecDepth 10000 in
set_option maxHeartbeats 4000000 in
theorem vk(m:List (List Int))(n:Nat)(v:Value)(hm:m.length<=1000000)(hn:n<=1000000)(w:World)(h:MR w v n m):
  Calls Tryz.prog 156 #[v] w (qo w n m):=by
 obtain⟨a,cap,rfl,_,hr,h4⟩:=h.row;have HRC:Hid (Mx.Rc n m):=hr;have hmk:=pN m.length aa;have H4:=ae h4;clear hr h4 h;generalize hml:m.length=q at*;have HQ:=ae hml;clear hml
 go_enter Tryz.func156,Tryz.ntmps156
 go_wp2_with fail
 go_loopw [11] (fun i wr=>∃(k:Nat) (gs cs:Nat->Nat),k<=q/\i= .int .i64 ((k:Int))/\Below w.heap.size w wr/\Hid (MB wr w.heap.size w.heap.size q gs cs n (m.take k)/\∀i,i<k->0<n->w.heap.size<gs i/\gs i<wr.heap.size)) (fun i _=>q-(intOf i).toNat)
 case atStart=>
  exact⟨0,id,id,by omega,rfl,by exact bel,MB.made w w.heap.size q n id id (af _),fun i hi=>by omega⟩
 case round=>
  obtain⟨k,gs,cs,hk,rfl,hB,HR⟩:=hrel;have hlt:w.heap.size<wr.heap.size:=HR.out.1.lt;by_cases hkn:k<q
  ·have hkn2:(k:Int)<(q:Int):=by omega
   rcases H4.out with h0|⟨gm,om,ha,hal,hcc⟩
   ·have:=HQ.out;rw[h0]at this;simp at this;omega
   obtain⟨b,c,cz,hza⟩:=hcc k hkn;have cz2:=(hB.cell (p:=⟨gm,om+k,none⟩) hal).trans cz;subst ha;have HZA:=ae (hza.below hB (af _));obtain⟨u,hu⟩:=HR.out.1.hl k hkn;have hfr:=HR.out.1.fr k;have HL:=ae (gJ (M:=m) (i:=k) iS);clear hcc hza cz
   go_wp2_with (first|(go_at_call 189;(with_reducible refine(KD _ n (Mx.rw m k) hn _ ?_).mono ?_);(exact HZA.out.below (B:=wr.heap.size) aA (af _));rintro e w4 ⟨⟨b4,g4',c4,rfl,hc4,hA4,hy⟩,hb4⟩;have HY:=ae (And.intro hc4 (And.intro hA4 hy));clear hc4 hA4 hy;have HB4:=ae hb4;obtain⟨g4,rfl⟩:=mob hb4;clear hb4))
   go_roundw
   case rel=>
    have hkl:(m.take k).length=k:=by rw[aY,HQ.out];omega
    have hp:=(HR.out.1.below HB4.out (af _)).push (g:=g4') (c:=c4) (b:=b4) (zs:=Mx.rw m k) (by rw[hkl];exact hkn) (HRC.out.rw iS) HY.out.1 HY.out.2.1 (fun h0=>⟨(HY.out.2.2 h0).1,(HY.out.2.2 h0).2.2,by have:=(HY.out.2.2 h0).2.1;omega,by have:=(HY.out.2.2 h0).2.1;omega,fun i hi=>by
     have h1:=(HR.out.2 i (by rw[hkl]at hi;exact hi) h0).2;have:=(HY.out.2.2 h0).2.1;omega⟩)
    rw[<-pL HL.out,hkl]at hp;have e5:(more wr g4).setCell ⟨w.heap.size,k,none⟩ (.slice b4 n c4)=more (wr.setCell ⟨w.heap.size,k,none⟩ (.slice b4 n c4)) g4:=oe _ _ _ _ hlt;rw[e5]at hp;refine⟨k+1,_,_,by omega,by go_num,by exact bel,hp,fun i hi h0=>?_⟩;have hsz:(more (wr.setCell ⟨w.heap.size,k,none⟩ (.slice b4 n c4)) g4).heap.size=(more wr g4).heap.size:=by simp
    rw[hsz];by_cases e:i=k
    ·rw[an e];have h1:=(HY.out.2.2 h0).2.1;have h2:=(HY.out.2.2 h0).2.2.lt;omega
    ·rw[aj e];have h1:=HR.out.2 i aa h0;have:wr.heap.size<=(more wr g4).heap.size:=HB4.out.size;omega
   case measure=>simp[intOf];omega
  ·obtain rfl:k=q:=by omega
   have hkn2:¬(k:Int)<(k:Int):=by omega
   go_wp2_with fail
   go_ret
   refine⟨⟨w.heap.size,gs,cs,k,by rw[HQ.out];rfl,by rw[HQ.out];exact af _,?_⟩,hB⟩;have h1:=HR.out.1;rw[cf Bv]at h1;rw[HQ.out];exact h1
set_option maxRecDepth 10000 in
theorem Hi(a:Option Addr)(l cap:Nat)(w:World):
  Calls Tryz.prog 145 #[.slice a l cap,.int .i64 (0)] w fun e w'=>e= .returned (.int .i64 (0))/\Below w.heap.size w w':=by
 have hgd:decide ((0:Int)<0)=false:=by decide
 go_enter Tryz.func145,Tryz.ntmps145
 go_wp2_with fail
 refine wp_loop_rounds 1 ?_;rw[rounds_succ]
 go_wp2_with fail
 go_ret
 exact⟨rfl,by exact bel⟩
theorem TN{M:Mx.Mat}{k i:Nat}(h:i<k):Mx.rw (M.take k) i=Mx.rw M i:=by
 unfold Mx.rw;rw[aq,aq,jo h]
theorem MB.Uh{w:World}{B gm L:Nat}{gs cs:Nat->Nat}{n:Nat}{M:Mx.Mat}(h:MB w B gm L gs cs n M){cap k:Nat}(hc:k<=cap)(hk:k<=M.length):MR w (.slice (some ⟨gm,0,none⟩) k cap) n (M.take k):=by
 have hl:(M.take k).length=k:=by rw[aY];omega
 refine⟨_,cap,by rw[hl],by rw[hl];exact hc,fun r hr=>h.rc r (mZ hr),.inr ⟨gm,0,rfl,h.lt,fun i hi=>?_⟩⟩;rw[hl]at hi;obtain⟨b,h1,h2,hA,h3⟩:=h.hc i aa;rw[bw];refine⟨b,cs i,h1,h2,hA,?_⟩;by_cases h0:n=0
 ·exact .inl h0
 ·obtain⟨rfl,_,_,h4⟩:=h3 aa;rw[TN hi];exact .inr ⟨gs i,0,rfl,h4.ra⟩
theorem tS{n:Nat}{M:Mx.Mat}(k c:Nat)(h:Mx.Rc n M):(Mx.red k c (0,M)).1<=M.length:=by
 have key:∀(k c:Nat) (s:Nat×Mx.Mat),Mx.Rc n s.2->s.1<=s.2.length->(Mx.red k c s).1<=(Mx.red k c s).2.length:=by
  intro k
  induction k with
  |zero=>exact fun c s _ h=>h
  |succ k ih=>
   intro c s hr h;unfold Mx.red;split
   ·rename_i hlt;have h1:=Mx.tK (c:=c) hr hlt;exact ih _ _ (h1.1.rc hr) (by rw[h1.1.len];have:=h1.2.2;omega)
   ·exact h
 have h1:=key k c (0,M) h (aO _);rw[(Mx.eh k c (0,M) h).len]at h1;exact h1
def S8(w:World)(n:Nat)(M:Mx.Mat)(e:Ending)(w':World):Prop:=(∃v,e= .returned v/\MR w' v n M)/\Below w.heap.size w w'
set_option maxRecDepth 10000 in
set_option maxHeartbeats 4000000 in
theorem Hl(M:Mx.Mat)(n e:Nat)(v:Value)(hm:M.length<=1000)(hn:n<=1000)(he:6<=e)(hf:2*(e*11^n)<=6000000000000)(hb:Mx.Bd (2^e) M)(w:World)(h:MR w v n M):
  Calls Tryz.prog 85 #[v] w (S8 w n ((Mx.red n 0 (0,M)).2.take (Mx.red n 0 (0,M)).1)):=by
 by_cases h0:M=[]
 ·subst h0;obtain⟨a,cap,rfl,_,_,_⟩:=h;rw[Mx.qQ aU];simp only[gW]
  go_enter Tryz.func85,Tryz.ntmps85
  go_wp2_with fail
  go_ret
  exact⟨⟨_,rfl,none,0,rfl,af _,fun r hr=>by(cases hr),.inl rfl⟩,by exact bel⟩
 ·have CL:=ae (vk M n v aa aa w h);have RC:Hid (Mx.Rc n M):=by obtain⟨_,_,_,_,h3,_⟩:=h;exact h3
  have HM0:0<M.length:=iC.2 h0;have RE0:=ae (fun (B gm L cap:Nat) (gs cs:Nat->Nat) w hmo=>AB B gm L cap n n e gs cs M (af _) hn hm he hf hb w hmo);have RL:=ae (tS n 0 RC.out);have RLN:Hid ((Mx.red n 0 (0,M)).2.length=M.length):=(Mx.eh n 0 (0,M) RC.out).len;generalize hT:Mx.red n 0 (0,M)=T at*;have HT:=ae hT;obtain⟨rk,N⟩:=T;simp only[]at RE0 RL RLN;obtain⟨a,cap,rfl,_⟩:=h;have hm1:¬(M.length:Int)=0:=by omega
  have hm2:¬M.length=0:=by omega
  generalize hml:M.length=q at*;have HQ:=ae hml;have H0M:Hid (0<M.length):=by
   show 0<M.length;rw[hml];exact HM0
  clear hml h0 hT hb;have hq0:(0:Int)<(q:Int):=by omega
  by_cases hn0:n=0
  ·subst hn0
   go_enter Tryz.func85,Tryz.ntmps85
   go_wp2_with (first|(go_at_call 156;(with_reducible refine CL.out.mono ?_);rintro e w4 ⟨⟨gm,gs,cs,cp,rfl,hcp,hmb⟩,hb4⟩;have HY:=ae hmb;have k0:=(hmb.hc 0 H0M.out);obtain⟨b0,k0,_,_,_⟩:=k0;rw[HQ.out]at hcp⊢;have HB4:=ae hb4;clear hb4 hmb)|(go_at_call 145;(with_reducible refine(Hi _ _ _ _).mono ?_);rintro e w5 ⟨rfl,hb5⟩;have HB5:=ae hb5;clear hb5))
   go_ret
   have e1:rk=0:=by have:=HT.out;unfold Mx.red at this;exact(Prod.mk.inj this).1.symm
   subst e1;exact⟨⟨_,rfl,_,cp,rfl,aO _,fun r hr=>by(simp at hr),.inl aU⟩,HB4.out.trans (HB5.out.mono HB4.out.size)⟩
  ·have hrk:rk<=q:=RL.out;have hn1:0<n:=by omega
   go_enter Tryz.func85,Tryz.ntmps85
   go_wp2_with (first|(go_at_call 156;(with_reducible refine CL.out.mono ?_);rintro e w4 ⟨⟨gm,gs,cs,cp,rfl,hcp,hmb⟩,hb4⟩;have HY:=ae hmb;have k0:=(hmb.hc 0 H0M.out);obtain⟨b0,k0,_,_,_⟩:=k0;rw[HQ.out]at hcp⊢;have hrc:rk<=cp:=aB hrk hcp;have hrc2:(rk:Int)<=(cp:Int):=Int.ofNat_le.2 hrc;have HB4:=ae hb4;clear hb4 hmb)|(go_at_call 145;(with_reducible refine(RE0.out w.heap.size gm M.length cp gs cs _ (HY.out.mo aa)).mono ?_);rintro e w5 ⟨rfl,hb5,gs5,cs5,hmo5⟩;have HB5:=ae (And.intro hb5 hmo5);clear hb5 hmo5))
   go_ret
   exact⟨⟨_,rfl,HB5.out.2.mb.Uh hrc (by rw[RLN.out];exact hrk)⟩,HB4.out.trans HB5.out.1⟩
end
end Go.Proofs.YtcgjmdpcplhanaaGreat
