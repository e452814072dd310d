/- Lemmas for the law: E9 E10 V3 V5 V6 M4 V4 V8 V9 V10 V12 V17 V18 V19 -/
import Derived.Laws.AppendOwnNone
import Derived.Laws.Cover3
import Derived.Deep.CutBlock
import Derived.Lib.AppendZerosOnto
import Derived.Maps.AppendAt
import Derived.Deep.RegionLaw
import Derived.Shelf.Abstract
import Derived.Test.YtcgjmdpcplhanaaGreatZt4
namespace Go.Proofs.YtcgjmdpcplhanaaGreat
section
theorem ez{p q:Prop}(h:q)(f:Wq q->p:=by(intro hW;((refine Own3.hZ rfl (fun K hK=>?_);go_simp;first|refine⟨rfl,hK _ ?_⟩|refine hK _ ?_;clear hK K));exact hW.out)):p:=f ⟨h⟩
theorem zs77{p q:Prop}(h:q)(f:Wq q->p:=by(intro hW;(refine aL1 rfl rfl rfl (by(apply jd;(exact rfl);(exact fe);(focus((apply ak;(conv=>lhs;whnf);(first|done|exact rfl))));(exact rfl);(exact rfl);(assumption);(exact rfl))) ?_);exact hW.out)):p:=f ⟨h⟩
theorem xj{p q:Prop}(h:q)(f:Wq q->p:=by(intro hW;((refine gar ?_;refine mz ?_;refine bs ?_;refine mz ?_;refine bs ?_;refine mu ?_;refine zs4 ?_;refine jf ?_;refine zs4 ?_;refine zs77 ?_;refine fX ?_;refine fX ?_;refine gP ?_;refine af ?_));exact hW.out)):p:=f ⟨h⟩
theorem dJ{p q:Prop}(h:q)(f:Wq q->p:=by(intro hW;((refine Own3.hZ rfl (fun K hK=>?_);go_simp;(try go_bits);refine⟨fun w' hw' hcb'=>?_,hK _ ?_⟩;(focus(first|with_reducible exact rfl|with_reducible exact⟨rfl,rfl⟩|(obtain⟨gx,rfl⟩:=mob (Ext.below hw');go_simp;first|exact rfl|exact⟨rfl,rfl⟩)|(go_at_call 161;(have hf1:=hcb'.get (u:=10) cY;have hf2:=hcb'.get (u:=18) cY;exact(rR x111 x112 _ _ F1.out F2.out _ (IZ.ip (show IZ w' x111 ((Mx.at' M i c).natAbs:Int)from hf1)) (IZ.ip (show IZ w' x112 ((Mx.at' M t c).natAbs:Int)from hf2)))))));clear hK K));exact hW.out)):p:=f ⟨h⟩
theorem oY{p q:Prop}(h:q)(f:Wq q->p:=by(intro hW;((refine gar ?_;refine zs4 ?_;refine zs5 ?_;refine mA ?_;refine af ?_));exact hW.out)):p:=f ⟨h⟩
theorem xv{p:Prop}(h:p:=by rw[Int.natAbs_neg];exact HQB.out):p:=h
theorem zb39{p:Prop}(h:p:=by(apply vb;(exact rfl);(focus((apply ak;(conv=>lhs;whnf);(first|done|exact rfl))));(exact rfl))):p:=h
theorem qG{p q:Prop}(h:q)(f:Wq q->p:=by(intro hW;(refine aL1 rfl rfl rfl zb39 ?_);exact hW.out)):p:=f ⟨h⟩
theorem ox{p:Prop}(h:p:=by rw[HW.out.len];exact hrr):p:=h
theorem qL{p:Prop}(h:p:=by rw[HSL.out];omega):p:=h
theorem xm{p q:Prop}(h:q)(f:Wq q->p:=by(intro hW;((refine gar ?_;refine mz ?_;refine bs ?_;refine zs4 ?_;refine zs8 ?_;refine kZ ?_;refine kX ?_;refine gg ?_;refine af ?_));exact hW.out)):p:=f ⟨h⟩
theorem tQ{p:Prop}(h:p:=by simp[results,Tryz.results120,go_sem]):p:=h
end
section
open Go.RowKit
namespace DW
theorem pZ:hd 1=[1]:=by
 have:=Dg.ve (b:=65536) (l:=[1]) (by decide) ⟨fun x hx=>by rw[List.mem_singleton.1 hx];decide,by decide⟩;rw[yZ]at this;exact this
set_option maxRecDepth 20000
set_option maxHeartbeats 1000000
theorem vc(u v:Int)(hu:Hf u)(hv:Hf v)(hv0:v≠0):Fn Tryz.prog 148 [.nm u,.nm v] (.tp [.nm (u/v),.nm (u%v),zI 0]):=by
 have D1:=fi hu;have D2:=fi hv;unfold Hf at hu hv;have hn0:0<v.natAbs:=by omega
 have hl0:(hd v.natAbs).length≠0:=fun e=>by have:=(js _).1 e;omega
 have DV:=Az u.natAbs v.natAbs (by omega) (by omega) hn0;have I:=Dg.Ai (s:=decide (u<0)) (t:=decide (v<0)) (m:=u.natAbs) (n:=v.natAbs) hn0;rw[en,en]at I;have hm:=fS (Nat.le_of_lt (Nat.mod_lt u.natAbs hn0));have hq:=fS (Nat.div_le_self u.natAbs v.natAbs);have hr0:(hd (u.natAbs%v.natAbs)).length=0↔u.natAbs%v.natAbs=0:=js _;refine aY Tryz.func148 ae rfl rfl rfl fun X0=>?_;simp only[aK]
 (repeat(first|refine gk fun K hK=>?_|refine zs2 ?_));(refine gar ?_;refine gQ ?_;refine gQ ?_;refine zs74 ?_;(refine nT (k:=5) (z:=(.agg #[.bool false,.slice none 0 0])) (d:=(.nm 0)) rfl rfl rfl rfl rfl ae aa aa dK aa aa cM ?_);refine gP ?_;refine af ?_);(repeat(first|refine gk fun K hK=>?_|refine zs2 ?_));(refine gar ?_;refine bs ?_;refine cw ?_;refine zs6 ?_;refine af ?_);(repeat(first|refine gk fun K hK=>?_|refine zs2 ?_));refine oY ?_;(repeat(first|refine gk fun K hK=>?_|refine zs2 ?_))
 refine aB ?_
 (repeat(first|refine gk fun K hK=>?_|refine zs2 ?_));(refine gar ?_;refine bs ?_;refine cw ?_;refine zs4 ?_;refine jf ?_;refine zs4 ?_;refine qG ?_;refine qG ?_;refine zs6 ?_;refine zs6 ?_;refine af ?_);(repeat(first|refine gk fun K hK=>?_|refine zs2 ?_))
 by_cases hneg:u<0
 ·by_cases hr:u.natAbs%v.natAbs=0
  ·obtain⟨e1,e2⟩:=I.1 (.inr hr);have hr':=hr0.2 hr;have M1:=fF (s:=!(decide (u<0)==decide (v<0))) (n:=u.natAbs/v.natAbs) (z:=u/v) (by omega) e1.symm;have M2:=fF (s:=false) (n:=u.natAbs%v.natAbs) (z:=u%v) (by omega) (by rw[e2,iv_f]);have hd1:decide (u<0)=true:=decide_eq_true hneg
   (repeat(first|refine gk fun K hK=>?_|refine zs2 ?_));refine xm ?_;(repeat(first|refine gk fun K hK=>?_|refine zs2 ?_))
   refine aB ?_
   (repeat(first|refine gk fun K hK=>?_|refine zs2 ?_));refine xj ?_;(repeat(first|refine gk fun K hK=>?_|refine zs2 ?_))
   exact⟨_,(aE (k:=4) aR bz bw).trans (aE (k:=5) aR bz bw),.three (.cell 4 62) (.cell 5 62) (.tmp 6) _ _ _ rfl (.cell 4 _ _ rfl rfl ae ae) (.cell 5 _ _ rfl rfl ae ae) (.tmp 6 rfl)⟩
  ·obtain⟨e1,e2⟩:=I.2 (decide_eq_true hneg) (by omega);have hr':(hd (u.natAbs%v.natAbs)).length≠0:=fun e=>hr (hr0.1 e);have hq2:=uR (u.natAbs/v.natAbs) 1;rw[pZ,List.length_singleton]at hq2;have PL:=we (u.natAbs/v.natAbs) 1 (by omega) (by rw[pZ];simp);rw[pZ]at PL;have MI:=lK v.natAbs (u.natAbs%v.natAbs) (by omega) (Nat.le_of_lt (Nat.mod_lt _ hn0));have hm2:=fS (show v.natAbs-u.natAbs%v.natAbs<=v.natAbs by omega);have M1:=fF (s:=!(decide (u<0)==decide (v<0))) (n:=u.natAbs/v.natAbs+1) (z:=u/v) (by omega) e1.symm;have M2:=fF (s:=false) (n:=v.natAbs-u.natAbs%v.natAbs) (z:=u%v) (by omega) (by rw[e2,iv_f]);have hd1:decide (u<0)=true:=decide_eq_true hneg
   (repeat(first|refine gk fun K hK=>?_|refine zs2 ?_));refine xm ?_;(repeat(first|refine gk fun K hK=>?_|refine zs2 ?_))
   refine aA ?_
   (repeat(first|refine gk fun K hK=>?_|refine zs2 ?_));(refine gar ?_;refine zs4 ?_;(refine aL1 rfl rfl rfl (by(apply Dy;(exact rfl);(focus((first|exact op_zero|exact rfl)));(exact rfl);(focus((first|exact dT|exact dQ|exact dR|exact wd_pt|exact rfl)));(kernel_rfl);(kernel_rfl);(exact rfl);(exact rfl))) ?_);refine jf ?_;refine zs4 ?_;refine zs4 ?_;refine jf ?_;refine zs6 ?_;refine zs6 ?_;refine af ?_);(repeat(first|refine gk fun K hK=>?_|refine zs2 ?_));refine xj ?_;(repeat(first|refine gk fun K hK=>?_|refine zs2 ?_))
   exact⟨_,(aE (k:=4) aR bz bw).trans (aE (k:=5) aR bz bw),.three (.cell 4 62) (.cell 5 62) (.tmp 6) _ _ _ rfl (.cell 4 _ _ rfl rfl ae ae) (.cell 5 _ _ rfl rfl ae ae) (.tmp 6 rfl)⟩
 ·have hd1:decide (u<0)=false:=decide_eq_false hneg;obtain⟨e1,e2⟩:=I.1 (.inl hd1);have M1:=fF (s:=!(decide (u<0)==decide (v<0))) (n:=u.natAbs/v.natAbs) (z:=u/v) (by omega) e1.symm;have M2:=fF (s:=false) (n:=u.natAbs%v.natAbs) (z:=u%v) (by omega) (by rw[e2,iv_f])
  (repeat(first|refine gk fun K hK=>?_|refine zs2 ?_));refine xm ?_;(repeat(first|refine gk fun K hK=>?_|refine zs2 ?_))
  refine aB ?_
  (repeat(first|refine gk fun K hK=>?_|refine zs2 ?_));refine xj ?_;(repeat(first|refine gk fun K hK=>?_|refine zs2 ?_))
  exact⟨_,(aE (k:=4) aR bz bw).trans (aE (k:=5) aR bz bw),.three (.cell 4 62) (.cell 5 62) (.tmp 6) _ _ _ rfl (.cell 4 _ _ rfl rfl ae ae) (.cell 5 _ _ rfl rfl ae ae) (.tmp 6 rfl)⟩
end DW
end
section
open Go.RowKit
namespace DW
theorem rp(z:Int):sgn z<0↔z<0:=by unfold sgn;split<;>(try split)<;>omega
set_option maxRecDepth 20000
set_option maxHeartbeats 1000000
end DW
end
section
open Go.RowKit Go.BigFrame
attribute [local go_sem ↓] Go.wp_at_zero Go.wp_at_succ
theorem neg_get{zs:List Int}{k:Nat}{z:Int}(h:zs[k]?=some z):(Mx.neg zs)[k]?=some (-z):=by
 unfold Mx.neg;rw[List.getElem?_map,h];rfl
set_option maxRecDepth 10000 in
set_option maxHeartbeats 4000000 in
theorem vx(g n cap:Nat)(zs:List Int)(hn:zs.length=n)(hn1:n<=1000000)(hf:∀z∈zs,Fit z)(hn0:0<n)
  (w:World) (hz:RO w g zs):
  Calls Tryz.prog 186 #[.slice (some ⟨g,0,none⟩) n cap] w (wO w g (Mx.neg zs)):=by
 have HZ:=Lib.hid hz;have HF:Hid _:=hf;have HN:=Lib.hid hn;have hnw:Hid (NW w g):=hz.nw (fun e=>by rw[e]at hn;simp at hn;omega);have hg:g<w.heap.size:=hz.lt;clear hz hf hn
 go_enter Tryz.func186,Tryz.ntmps186
 go_wp2_with fail
 go_loopw [6] (fun i wr=>∃k:Nat,k<=n/\i= .int .i64 ((k:Int))/\Hid (Chg g w wr)/\Hid (RO wr g (part k (Mx.neg zs) zs))) (fun i _=>n-(intOf i).toNat)
 case atStart=>exact⟨0,by omega,rfl,Chg.refl _ _,by show RO _ _ _;rw[sB];exact HZ.out⟩
 case round=>
  obtain⟨k,hk,rfl,HC,HR⟩:=hrel;by_cases hkn:k<n
  ·have hkn2:(k:Int)<(n:Int):=by omega
   have hx:=getD_some (l:=zs) (k:=k) tM;generalize zs.getD k 0=xz at hx;have HX:=Lib.hid hx;have FX:=Lib.hid (HF.out xz (List.mem_of_getElem? hx));obtain⟨x,cx0,cx1,hxz,f0,f1⟩:=HR.out.at (k:=k) (z:=xz) (by rw[rE (Mx.hH zs) tM];exact hx);have HXZ:=Lib.hid hxz;have hg2:g<wr.heap.size:=Nat.lt_of_lt_of_le hg HC.out.size;obtain⟨xs,xa,xn,xc⟩:=x;simp only[]at cx0 cx1;clear hx hxz
   go_wp2_with (first|(go_at_call 102;(with_reducible refine(eJ ⟨xs,xa,xn,xc⟩ xz FX.out _ ?_).mono ?_);(exact(HXZ.out.below (B:=wr.heap.size) an (Nat.le_refl _)).ip);rintro e w1 ⟨⟨y,rfl,hy⟩,hb1⟩;have HY:=Lib.hid hy;clear hy;have HB1:=Lib.hid hb1;obtain⟨g1,rfl⟩:=mob hb1;clear hb1))
   go_roundw
   case rel=>
    have h1:=(HR.out.below (B:=wr.heap.size) (w':=more (wr.alloc (.cells #[.bool xs,.slice xa xn xc] 62)) g1) an (Nat.le_refl _)).set (k:=k) (by rw[oE (Mx.hH zs),HN.out];exact hkn) HY.out;rw[lD (Mx.hH zs) (neg_get HX.out)]at h1;have h2:=jj ((HC.out.alloc (.cells #[.bool xs,.slice xa xn xc] 62)).mor g1) k y;have e5:cj (more (wr.alloc (.cells #[.bool xs,.slice xa xn xc] 62)) g1) g k y=more ((cj wr g k y).alloc (.cells #[.bool xs,.slice xa xn xc] 62)) g1:=by unfold cj;go_simp
    rw[e5]at h1 h2;exact⟨k+1,by omega,by go_num,h2,h1⟩
   case measure=>simp[intOf];omega
  ·obtain rfl:k=n:=by omega
   have hkn2:¬(k:Int)<(k:Int):=by omega
   go_wp2_with fail
   (first|refine bodyPost_ret (results_none rfl _ _ _) rfl ?_|refine bodyPost_end (results_none rfl _ _ _) rfl ?_)
   refine⟨rfl,HC.out,?_⟩;have h1:=HR.out;rw[oF (by rw[Mx.hH,HN.out];exact Nat.le_refl _) (by rw[HN.out];exact Nat.le_refl _)]at h1;exact h1
structure MO(w:World)(B gm L:Nat)(gs cs:Nat->Nat)(n:Nat)(M:Mx.Mat):Prop where
 b:B<=gm
 lt:gm<w.heap.size
 fr:∀k,w.frozen? ⟨gm,k,none⟩=false
 hl:∀i,i<L->∃u,w.cell? ⟨gm,i,none⟩=some u
 nw:NW w gm
 ml:M.length<=L
 rc:Mx.Rc n M
 n0:0<n
 hc:∀i,i<M.length->w.cell? ⟨gm,i,none⟩=some (.slice (some ⟨gs i,0,none⟩) n (cs i))/\n<=cs i/\B<=gs i/\gs i≠gm/\RO w (gs i) (Mx.rw M i)
 dj:∀i j,i<M.length->j<M.length->i≠j->gs i≠gs j
theorem NW.kP{w w':World}{g:Nat}(h:NW w g)(e:w'.cell? ⟨g,0,none⟩=w.cell? ⟨g,0,none⟩):NW w' g:=fun n h2=>h n (e.symm.trans h2)
theorem MO.below{B':Nat}{w w':World}{B gm L:Nat}{gs cs:Nat->Nat}{n:Nat}{M:Mx.Mat}(h:MO w B gm L gs cs n M)(hb:Below B' w w')(hB:w.heap.size<=B'):MO w' B gm L gs cs n M:=by
 have hg:gm<B':=Nat.lt_of_lt_of_le h.lt hB;refine⟨h.b,Nat.lt_of_lt_of_le h.lt hb.size,fun k=>(hb.frozen (p:=⟨gm,k,none⟩) hg).trans (h.fr k),fun i hi=>?_,h.nw.kP (hb.cell (p:=⟨gm,0,none⟩) hg),h.ml,h.rc,h.n0,fun i hi=>?_,h.dj⟩
 ·obtain⟨u,hu⟩:=h.hl i hi;exact⟨u,(hb.cell (p:=⟨gm,i,none⟩) hg).trans hu⟩
 ·obtain⟨h1,h2,h3,h4,h5⟩:=h.hc i hi;exact⟨(hb.cell (p:=⟨gm,i,none⟩) hg).trans h1,h2,h3,h4,h5.below hb hB⟩
theorem MO.Gi{w:World}{B gm L:Nat}{gs cs:Nat->Nat}{n:Nat}{M:Mx.Mat}(h:MO w B gm L gs cs n M){i:Nat}(hi:i<M.length):Mx.rw M i≠[]:=fun e=>by
 have:=h.rc.rw hi;have:=h.n0;rw[e]at*;simp at*;omega
theorem MO.zH{w:World}{B gm L:Nat}{gs cs:Nat->Nat}{n:Nat}{M:Mx.Mat}(h:MO w B gm L gs cs n M){i:Nat}(hi:i<M.length):NW w (gs i):=(h.hc i hi).2.2.2.2.nw (h.Gi hi)
theorem MO.setRow{w w':World}{B gm L:Nat}{gs cs:Nat->Nat}{n:Nat}{M:Mx.Mat}(h:MO w B gm L gs cs n M){i:Nat}(hi:i<M.length){zs:List Int}(hz:zs.length=n)(k:Chg (gs i) w w')(hr:RO w' (gs i) zs):MO w' B gm L gs cs n (M.set i zs):=by
 have hne:=(h.hc i hi).2.2.2.1;have hnw:=h.zH hi;refine⟨h.b,Nat.lt_of_lt_of_le h.lt k.size,fun j=>(k.frozen h.lt (Ne.symm hne)).trans (h.fr j),fun j hj=>?_,h.nw.kP (k.cell h.lt (Ne.symm hne)),by rw[List.length_set];exact h.ml,h.rc.set hz,h.n0,fun j hj=>?_,fun a b ha hb=>?_⟩
 ·obtain⟨u,hu⟩:=h.hl j hj;exact⟨u,(k.cell h.lt (Ne.symm hne)).trans hu⟩
 ·rw[List.length_set]at hj;obtain⟨h1,h2,h3,h4,h5⟩:=h.hc j hj;refine⟨(k.cell h.lt (Ne.symm hne)).trans h1,h2,h3,h4,?_⟩;rw[Mx.jk _ _ _ _ hi];by_cases e:j=i
  ·rw[if_pos e,e];exact hr
  ·rw[if_neg e];exact h5.chg k hnw (h.dj j i hj hi e)
 ·rw[List.length_set]at ha hb;exact h.dj a b ha hb
def ix(f:Nat->Nat)(i j:Nat):Nat->Nat:=fun k=>if k=j then f i else if k=i then f j else f k
theorem MO.swp{w:World}{B gm L:Nat}{gs cs:Nat->Nat}{n:Nat}{M:Mx.Mat}(h:MO w B gm L gs cs n M){i j:Nat}(hi:i<M.length)(hj:j<M.length):
  MO ((w.setCell ⟨gm,i,none⟩ (.slice (some ⟨gs j,0,none⟩) n (cs j))).setCell ⟨gm,j,none⟩ (.slice (some ⟨gs i,0,none⟩) n (cs i))) B gm L (ix gs i j) (ix cs i j) n (Mx.swp M i j):=by
 have k:Chg gm w ((w.setCell ⟨gm,i,none⟩ (.slice (some ⟨gs j,0,none⟩) n (cs j))).setCell ⟨gm,j,none⟩ (.slice (some ⟨gs i,0,none⟩) n (cs i))):=((Chg.refl gm w).set gm _ _ (.inl rfl)).set gm _ _ (.inl rfl);obtain⟨i1,i2,i3,i4,i5⟩:=h.hc i hi;obtain⟨j1,j2,j3,j4,j5⟩:=h.hc j hj;have cell:∀(l:Nat) (u:Value),w.cell? ⟨gm,l,none⟩=some u->((w.setCell ⟨gm,i,none⟩ (.slice (some ⟨gs j,0,none⟩) n (cs j))).setCell ⟨gm,j,none⟩ (.slice (some ⟨gs i,0,none⟩) n (cs i))).cell? ⟨gm,l,none⟩=some (if l=j then .slice (some ⟨gs i,0,none⟩) n (cs i)else if l=i then .slice (some ⟨gs j,0,none⟩) n (cs j)else u):=fun l u hu=>by
  by_cases e:l=j
  ·subst e;rw[if_pos rfl];by_cases e2:l=i
   ·subst e2;exact cT _ _ _ _ _ (cT _ _ _ _ _ hu)
   ·exact cT _ _ _ _ _ ((cn _ _ _ _ _ e2).trans hu)
  ·rw[if_neg e,cn _ _ _ _ _ e];by_cases e2:l=i
   ·subst e2;rw[if_pos rfl];exact cT _ _ _ _ _ hu
   ·rw[if_neg e2,cn _ _ _ _ _ e2];exact hu
 refine⟨h.b,by simpa using h.lt,fun l=>by rw[World.frozen?_setCell,World.frozen?_setCell];exact h.fr l,fun l hl=>?_,fun m e=>?_,by rw[Mx.bH];exact h.ml,Mx.fw h.rc hi hj,h.n0,fun l hl=>?_,fun a b ha hb hab=>?_⟩
 ·obtain⟨u,hu⟩:=h.hl l hl;exact⟨_,cell l u hu⟩
 ·obtain⟨u,hu⟩:=h.hl 0 (by have:=h.ml;omega);rw[cell 0 u hu]at e;simp only[Option.some.injEq]at e;split at e
  ·cases e
  ·split at e
   ·cases e
   ·rw[e]at hu;exact h.nw m hu
 ·rw[Mx.bH]at hl;obtain⟨h1,h2,h3,h4,h5⟩:=h.hc l hl;rw[cell l _ h1,Mx.uc hi hj];unfold ix;by_cases e:l=j
  ·rw[if_pos e,if_pos e,if_pos e,if_pos e];exact⟨rfl,i2,i3,i4,i5.chg k h.nw i4⟩
  ·rw[if_neg e,if_neg e,if_neg e,if_neg e];by_cases e2:l=i
   ·rw[if_pos e2,if_pos e2,if_pos e2,if_pos e2];exact⟨rfl,j2,j3,j4,j5.chg k h.nw j4⟩
   ·rw[if_neg e2,if_neg e2,if_neg e2,if_neg e2];exact⟨rfl,h2,h3,h4,h5.chg k h.nw h4⟩
 ·rw[Mx.bH]at ha hb;unfold ix;by_cases a1:a=j
  ·rw[if_pos a1];by_cases b1:b=j
   ·omega
   ·rw[if_neg b1];by_cases b2:b=i
    ·rw[if_pos b2];by_cases e:i=j
     ·omega
     ·exact h.dj i j hi hj e
    ·rw[if_neg b2];exact h.dj i b hi hb (Ne.symm b2)
  ·rw[if_neg a1];by_cases a2:a=i
   ·rw[if_pos a2];by_cases b1:b=j
    ·rw[if_pos b1];by_cases e:i=j
     ·omega
     ·exact h.dj j i hj hi (Ne.symm e)
    ·rw[if_neg b1,if_neg (by omega)];exact h.dj j b hj hb (Ne.symm b1)
   ·rw[if_neg a2];by_cases b1:b=j
    ·rw[if_pos b1];exact h.dj a i ha hi a2
    ·rw[if_neg b1];by_cases b2:b=i
     ·rw[if_pos b2];exact h.dj a j ha hj a1
     ·rw[if_neg b2];exact h.dj a b ha hb hab
end
section
open Go.RowKit Go.BigFrame
attribute [local go_sem ↓] Go.wp_at_zero Go.wp_at_succ
def AD(b:Option Addr):Prop:=∃g o,b=some ⟨g,o,none⟩
theorem AD.some(g o:Nat):AD (some ⟨g,o,none⟩):=⟨g,o,rfl⟩
structure MB(w:World)(B gm L:Nat)(gs cs:Nat->Nat)(n:Nat)(M:Mx.Mat):Prop where
 b:B<=gm
 lt:gm<w.heap.size
 fr:∀k,w.frozen? ⟨gm,k,none⟩=false
 hl:∀i,i<L->∃u,w.cell? ⟨gm,i,none⟩=some u
 nw:NW w gm
 ml:M.length<=L
 rc:Mx.Rc n M
 hc:∀i,i<M.length->∃b,w.cell? ⟨gm,i,none⟩=some (.slice b n (cs i))/\n<=cs i/\AD b/\(0<n->b=some ⟨gs i,0,none⟩/\B<=gs i/\gs i≠gm/\RO w (gs i) (Mx.rw M i))
 dj:0<n->∀i j,i<M.length->j<M.length->i≠j->gs i≠gs j
theorem MB.mo{w:World}{B gm L:Nat}{gs cs:Nat->Nat}{n:Nat}{M:Mx.Mat}(h:MB w B gm L gs cs n M)(h0:0<n):MO w B gm L gs cs n M:=
 ⟨h.b,h.lt,h.fr,h.hl,h.nw,h.ml,h.rc,h0,fun i hi=>by
  obtain⟨b,h1,h2,_,h3⟩:=h.hc i hi;obtain⟨rfl,h4,h5,h6⟩:=h3 h0;exact⟨h1,h2,h4,h5,h6⟩,h.dj h0⟩
theorem MO.mb{w:World}{B gm L:Nat}{gs cs:Nat->Nat}{n:Nat}{M:Mx.Mat}(h:MO w B gm L gs cs n M):MB w B gm L gs cs n M:=
 ⟨h.b,h.lt,h.fr,h.hl,h.nw,h.ml,h.rc,fun i hi=>by
  obtain⟨h1,h2,h3,h4,h5⟩:=h.hc i hi;exact⟨_,h1,h2,AD.some _ _,fun _=>⟨rfl,h3,h4,h5⟩⟩,fun _=>h.dj⟩
theorem MB.below{B':Nat}{w w':World}{B gm L:Nat}{gs cs:Nat->Nat}{n:Nat}{M:Mx.Mat}(h:MB w B gm L gs cs n M)(hb:Below B' w w')(hB:w.heap.size<=B'):MB w' B gm L gs cs n M:=by
 have hg:gm<B':=Nat.lt_of_lt_of_le h.lt hB;refine⟨h.b,Nat.lt_of_lt_of_le h.lt hb.size,fun k=>(hb.frozen (p:=⟨gm,k,none⟩) hg).trans (h.fr k),fun i hi=>?_,h.nw.kP (hb.cell (p:=⟨gm,0,none⟩) hg),h.ml,h.rc,fun i hi=>?_,h.dj⟩
 ·obtain⟨u,hu⟩:=h.hl i hi;exact⟨u,(hb.cell (p:=⟨gm,i,none⟩) hg).trans hu⟩
 ·obtain⟨b,h1,h2,hA,h3⟩:=h.hc i hi;exact⟨b,(hb.cell (p:=⟨gm,i,none⟩) hg).trans h1,h2,hA,fun h0=>⟨(h3 h0).1,(h3 h0).2.1,(h3 h0).2.2.1,(h3 h0).2.2.2.below hb hB⟩⟩
theorem Es(M:Mx.Mat)(zs:List Int)(i:Nat):Mx.rw (M++[zs]) i=if i=M.length then zs else Mx.rw M i:=by
 unfold Mx.rw;rw[List.getD_eq_getElem?_getD,List.getD_eq_getElem?_getD];by_cases e:i=M.length
 ·subst e;rw[if_pos rfl,List.getElem?_append_right (Nat.le_refl _)];simp
 ·rw[if_neg e];by_cases e2:i<M.length
  ·rw[List.getElem?_append_left e2]
  ·rw[List.getElem?_append_right (by omega),List.getElem?_eq_none cA,List.getElem?_eq_none (by omega)]
theorem MB.push{w:World}{B gm L:Nat}{gs cs:Nat->Nat}{n:Nat}{M:Mx.Mat}(h:MB w B gm L gs cs n M){g c:Nat}{b:Option Addr}{zs:List Int}(hL:M.length<L)(hz:zs.length=n)(hc:n<=c)(hA:AD b)(hr:0<n->b=some ⟨g,0,none⟩/\RO w g zs/\B<=g/\g≠gm/\∀i,i<M.length->gs i≠g):
  MB (w.setCell ⟨gm,M.length,none⟩ (.slice b n c)) B gm L (fun i=>if i=M.length then g else gs i) (fun i=>if i=M.length then c else cs i) n (M++[zs]):=by
 have k:Chg gm w (w.setCell ⟨gm,M.length,none⟩ (.slice b n c)):=(Chg.refl gm w).set gm _ _ (.inl rfl);have cell:∀(l:Nat) (u:Value),w.cell? ⟨gm,l,none⟩=some u->(w.setCell ⟨gm,M.length,none⟩ (.slice b n c)).cell? ⟨gm,l,none⟩=some (if l=M.length then .slice b n c else u):=fun l u hu=>by
  by_cases e:l=M.length
  ·rw[if_pos e,<-e];exact cT _ _ _ _ _ hu
  ·rw[if_neg e,cn _ _ _ _ _ e];exact hu
 refine⟨h.b,by simpa using h.lt,fun l=>by rw[World.frozen?_setCell];exact h.fr l,fun l hl=>?_,fun m e=>?_,by simp;omega,fun r hr=>?_,fun l hl=>?_,fun h0 a b ha hb hab=>?_⟩
 ·obtain⟨u,hu⟩:=h.hl l hl;exact⟨_,cell l u hu⟩
 ·obtain⟨u,hu⟩:=h.hl 0 (by omega);rw[cell 0 u hu]at e;simp only[Option.some.injEq]at e;split at e
  ·cases e
  ·rw[e]at hu;exact h.nw m hu
 ·rcases List.mem_append.1 hr with h1|h1
  ·exact h.rc r h1
  ·rw[List.mem_singleton.1 h1];exact hz
 ·simp only[List.length_append,List.length_singleton]at hl;rw[Es];by_cases e:l=M.length
  ·subst e;obtain⟨u,hu⟩:=h.hl M.length hL;rw[cell _ u hu,if_pos rfl,if_pos rfl,if_pos rfl,if_pos rfl];exact⟨b,rfl,hc,hA,fun h0=>⟨(hr h0).1,(hr h0).2.2.1,(hr h0).2.2.2.1,(hr h0).2.1.chg k h.nw (hr h0).2.2.2.1⟩⟩
  ·obtain⟨b',h1,h2,hA',h3⟩:=h.hc l (by omega);rw[cell l _ h1,if_neg e,if_neg e,if_neg e,if_neg e];exact⟨b',rfl,h2,hA',fun h0=>⟨(h3 h0).1,(h3 h0).2.1,(h3 h0).2.2.1,(h3 h0).2.2.2.chg k h.nw (h3 h0).2.2.1⟩⟩
 ·simp only[List.length_append,List.length_singleton]at ha hb;by_cases a1:a=M.length
  ·rw[if_pos a1,if_neg (by omega)];exact fun e=>(hr h0).2.2.2.2 b (by omega) e.symm
  ·rw[if_neg a1];by_cases b1:b=M.length
   ·rw[if_pos b1];exact(hr h0).2.2.2.2 a (by omega)
   ·rw[if_neg b1];exact h.dj h0 a b (by omega) (by omega) hab
theorem Et:(Tryz.prog.info? 147).map (fun i=>(i.zero,i.size,i.bytes))=some (some (.slice none 0 0),1,24):=by kernel_rfl
theorem sG(n:Nat)(hn:n<=1000000000)(w:World):
  (Instr.makeSlice 104 (.int .i64 (n:Int)) (.int .i64 (n:Int))).run Tryz.prog w= .ok (.slice (some ⟨w.heap.size,0,none⟩) n n) (w.alloc (.cells (madeCells #[.slice none 0 0] n) 147)):=by
 obtain⟨i,hi,hz,hs,hb⟩:=iw Et;have hr:=run_make (P:=Tryz.prog) w 104 147 i _ Tryz.underlying104 hi hz .i64 .i64 n n (by omega) (Int.le_refl _) (by rw[hb];omega) (by omega);rw[hs]at hr;simpa[Value.cells]using hr
theorem yj(n k:Nat)(hk:k<n):(madeCells #[.slice none 0 0] n)[k]?=some (.slice none 0 0):=by
 unfold madeCells;rw[Array.getElem?_map,Array.getElem?_range,if_pos (by omega)];simp[Nat.mod_one]
theorem MB.made(w:World)(B L n:Nat)(gs cs:Nat->Nat)(hB:B<=w.heap.size):MB (w.alloc (.cells (madeCells #[.slice none 0 0] L) 147)) B w.heap.size L gs cs n []:=by
 have hh:=heap_alloc_new w (.cells (madeCells #[.slice none 0 0] L) 147);have hc:∀i,i<L->(w.alloc (.cells (madeCells #[.slice none 0 0] L) 147)).cell? ⟨w.heap.size,i,none⟩=some (.slice none 0 0):=fun i hi=>by
  rw[cell_of_row _ w.heap.size _ _ _ (0,0) hh];exact yj L i hi
 refine⟨hB,by simp,fun k=>?_,fun i hi=>⟨_,hc i hi⟩,fun n e=>?_,Nat.zero_le _,fun r hr=>by(cases hr),fun i hi=>by(simp at hi),fun _ i j hi=>by(simp at hi)⟩
 ·simp only[World.frozen?];rw[hh];simp
 ·by_cases hL:0<L
  ·rw[hc 0 hL]at e;cases e
  ·rw[cell_of_row _ w.heap.size _ _ _ (0,0) hh]at e;have:L=0:=by omega
   subst this;simp[madeCells]at e
def MR(w:World)(v:Value)(n:Nat)(M:Mx.Mat):Prop:=∃a cap,v= .slice a M.length cap/\M.length<=cap/\Mx.Rc n M/\(M=[]\/∃gm om,a=some ⟨gm,om,none⟩/\gm<w.heap.size/\
 ∀i,i<M.length->∃b c,w.cell? ⟨gm,om+i,none⟩=some (.slice b n c)/\n<=c/\AD b/\(n=0\/∃g o,b=some ⟨g,o,none⟩/\RA w g o (Mx.rw M i)))
theorem MR.below{B:Nat}{w w':World}{v:Value}{n:Nat}{M:Mx.Mat}(h:MR w v n M)(hb:Below B w w')(hB:w.heap.size<=B):MR w' v n M:=by
 obtain⟨a,cap,h1,h2,h3,h4⟩:=h;refine⟨a,cap,h1,h2,h3,?_⟩;rcases h4 with h4|⟨gm,om,e,hg,h5⟩
 ·exact .inl h4
 ·refine .inr ⟨gm,om,e,Nat.lt_of_lt_of_le hg hb.size,fun i hi=>?_⟩;obtain⟨b,c,k1,k2,kA,k3⟩:=h5 i hi;refine⟨b,c,(hb.cell (p:=⟨gm,_,none⟩) (Nat.lt_of_lt_of_le hg hB)).trans k1,k2,kA,?_⟩;rcases k3 with k3|⟨g,o,e,k4⟩
  ·exact .inl k3
  ·exact .inr ⟨g,o,e,k4.below hb hB⟩
theorem MB.mr{w:World}{B gm L:Nat}{gs cs:Nat->Nat}{n:Nat}{M:Mx.Mat}(h:MB w B gm L gs cs n M){cap:Nat}(hc:M.length<=cap):MR w (.slice (some ⟨gm,0,none⟩) M.length cap) n M:=by
 refine⟨_,cap,rfl,hc,h.rc,.inr ⟨gm,0,rfl,h.lt,fun i hi=>?_⟩⟩;obtain⟨b,h1,h2,hA,h3⟩:=h.hc i hi;rw[Nat.zero_add];refine⟨b,cs i,h1,h2,hA,?_⟩;by_cases h0:n=0
 ·exact .inl h0
 ·obtain⟨rfl,_,_,h4⟩:=h3 (by omega);exact .inr ⟨gs i,0,rfl,h4.ra⟩
def ZM(w:World)(v:Value)(m:List (List Int)):Prop:=∃a cap,v= .slice a m.length cap/\m.length<=cap/\(m=[]\/∃a0,a=some a0/\a0.block<w.heap.size/\
 ∀(i:Nat) (l:List Int),m[i]?=some l->∃b c,w.cell? (a0.add i)=some (.slice b l.length c)/\l.length<=c/\ZAt w b l)
theorem iX{B:Nat}{w w':World}(hb:Below B w w')(hB:w.heap.size<=B){a:Addr}{v:Value}(h:w.cell? a=some v):w'.cell? a=some v:=by
 have h2:=World.block_lt_of_cell? w _ h;rw[hb.cell (Nat.lt_of_lt_of_le h2 hB)];exact h
theorem ZM.below{B:Nat}{w w':World}{v:Value}{m:List (List Int)}(h:ZM w v m)(hb:Below B w w')(hB:w.heap.size<=B):ZM w' v m:=by
 obtain⟨a,cap,h1,h2,h4⟩:=h;refine⟨a,cap,h1,h2,?_⟩;rcases h4 with h4|⟨a0,e,hg,h5⟩
 ·exact .inl h4
 ·refine .inr ⟨a0,e,Nat.lt_of_lt_of_le hg hb.size,fun i l hl=>?_⟩;obtain⟨b,c,k1,k2,k3⟩:=h5 i l hl;exact⟨b,c,iX hb hB k1,k2,k3.below hb hB⟩
def yL(w:World)(n:Nat)(M:Mx.Mat)(e:Ending)(w':World):Prop:=(∃gm gs cs cap,e= .returned (.slice (some ⟨gm,0,none⟩) M.length cap)/\M.length<=cap/\MB w' w.heap.size gm M.length gs cs n M)/\Below w.heap.size w w'
theorem sf{m:List (List Int)}{k:Nat}{l:List Int}(h:m[k]?=some l):m.take (k+1)=m.take k++[l]:=by
 rw[List.take_add_one,h];rfl
set_option maxRecDepth 10000 in
set_option maxHeartbeats 4000000 in
theorem vK(m:List (List Int))(n:Nat)(v:Value)(hm:m.length<=1000000)(hn:n<=1000000)(hr:Mx.Rc n m)(hb:∀l∈m,∀z∈l,I64 z)(w:World)(h:ZM w v m):
  Calls Tryz.prog 72 #[v] w (yL w n m):=by
 obtain⟨a,cap,rfl,_,h4⟩:=h;have RO':=Lib.hid (fun (l:List Int) (hl:l∈m) a cap w hz=>zG l a cap (by rw[hr l hl];exact hn) (hb l hl) w hz);have HRC:Hid (Mx.Rc n m):=hr;have hmk:=sG m.length (by omega);have H4:=Lib.hid h4;clear hb hr h4;generalize hml:m.length=q at*;have HQ:=Lib.hid hml;clear hml
 go_enter Tryz.func72,Tryz.ntmps72
 go_wp2_with fail
 go_loopw [11] (fun i wr=>∃(k:Nat) (gs cs:Nat->Nat),k<=q/\i= .int .i64 ((k:Int))/\Below w.heap.size w wr/\Hid (MB wr w.heap.size w.heap.size q gs cs n (m.take k)/\∀i,i<k->0<n->w.heap.size<gs i/\gs i<wr.heap.size)) (fun i _=>q-(intOf i).toNat)
 case atStart=>
  exact⟨0,id,id,by omega,rfl,by exact bel,MB.made w w.heap.size q n id id (Nat.le_refl _),fun i hi=>by omega⟩
 case round=>
  obtain⟨k,gs,cs,hk,rfl,hB,HR⟩:=hrel;have hlt:w.heap.size<wr.heap.size:=HR.out.1.lt;by_cases hkn:k<q
  ·have hkn2:(k:Int)<(q:Int):=by omega
   obtain⟨l,hl⟩:∃l,m[k]?=some l:=⟨m[k]'(by rw[HQ.out];omega),List.getElem?_eq_getElem _⟩;have hll:l.length=n:=HRC.out l (List.mem_of_getElem? hl);rcases H4.out with h0|⟨a0,ha,hal,hcc⟩
   ·rw[h0]at hl;simp at hl
   obtain⟨b,c,cz,hlc,hza⟩:=hcc k l hl;have cz2:=iX hB (Nat.le_refl _) cz;subst ha;have HZA:=Lib.hid (hza.below hB (Nat.le_refl _));have ROl:=Lib.hid (RO'.out l (List.mem_of_getElem? hl) b c);rw[hll]at ROl;obtain⟨u,hu⟩:=HR.out.1.hl k hkn;have hfr:=HR.out.1.fr k;have HL:=Lib.hid (And.intro hl hll);clear hcc hl hza cz
   go_wp2_with (first|(go_at_call 142;(with_reducible refine(ROl.out _ ?_).mono ?_);(exact HZA.out.below (B:=wr.heap.size) an (Nat.le_refl _));rintro e w4 ⟨⟨g4',xs,rfl,hge,hy⟩,hb4⟩;have HY:=Lib.hid (And.intro hge hy);clear hge hy;have HB4:=Lib.hid hb4;obtain⟨g4,rfl⟩:=mob hb4;clear hb4))
   go_roundw
   case rel=>
    have hp:=(HR.out.1.below HB4.out (Nat.le_refl _)).push (g:=g4') (c:=l.length) (b:=some ⟨g4',0,none⟩) (zs:=l) (by rw[List.length_take,HQ.out];omega) HL.out.2 (by omega) (AD.some _ _) (fun h0=>⟨rfl,⟨xs,HY.out.2⟩,by have:=HY.out.1;omega,by have:=HY.out.1;omega,fun i hi=>by
     have h1:=(HR.out.2 i (by rw[List.length_take,HQ.out]at hi;omega) h0).2;have:=HY.out.1;omega⟩)
    have hkl:(m.take k).length=k:=by rw[List.length_take,HQ.out];omega
    rw[<-sf HL.out.1,hkl]at hp;have hg4:g4'<(more wr g4).heap.size:=HY.out.2.lt;have e5:(more wr g4).setCell ⟨w.heap.size,k,none⟩ (.slice (some ⟨g4',0,none⟩) n l.length)=more (wr.setCell ⟨w.heap.size,k,none⟩ (.slice (some ⟨g4',0,none⟩) n l.length)) g4:=gi _ _ _ _ hlt;rw[e5]at hp;rw[HL.out.2]at hp;refine⟨k+1,_,_,by omega,by go_num,by exact bel,hp,fun i hi h0=>?_⟩;have hsz:(more (wr.setCell ⟨w.heap.size,k,none⟩ (.slice (some ⟨g4',0,none⟩) n n)) g4).heap.size=(more wr g4).heap.size:=by simp
    rw[hsz];by_cases e:i=k
    ·rw[if_pos e];have:=HY.out.1;omega
    ·rw[if_neg e];have h1:=HR.out.2 i (by omega) h0;have:wr.heap.size<=(more wr g4).heap.size:=HB4.out.size;omega
   case measure=>simp[intOf];omega
  ·obtain rfl:k=q:=by omega
   have hkn2:¬(k:Int)<(k:Int):=by omega
   go_wp2_with fail
   go_ret
   refine⟨⟨w.heap.size,gs,cs,k,by rw[HQ.out];rfl,by rw[HQ.out];exact Nat.le_refl _,?_⟩,hB⟩;have h1:=HR.out.1;rw[List.take_of_length_le (by rw[HQ.out];exact Nat.le_refl _)]at h1;rw[HQ.out];exact h1
end
section
open Go.RowKit Go.BigFrame
attribute [local go_sem ↓] Go.wp_at_zero Go.wp_at_succ
def fo(l:List IV):List Value:=l.flatMap fun x=>[.bool x.s,.slice x.a x.n x.cap]
theorem vF(l m:List IV):fo (l++m)=fo l++fo m:=by simp[fo]
theorem uU:∀l:List IV,(fo l).length=l.length*2
 |[]=>rfl
 |x::l=>by
  show(([.bool x.s,.slice x.a x.n x.cap]:List Value)++fo l).length=_;rw[List.length_append,uU l,List.length_cons];simp;omega
theorem rM:∀(l:List IV) (k:Nat) (x:IV),l[k]?=some x->(fo l)[k*2]?=some (.bool x.s)/\(fo l)[k*2+1]?=some (.slice x.a x.n x.cap)
 |y::l,0,x,h=>by
  simp at h;subst h;exact⟨rfl,rfl⟩
 |y::l,k+1,x,h=>by
  have ih:=rM l k x (by simpa using h);rw[show(k+1)*2=k*2+2 by omega];exact ih
def kF(w:World)(base:Nat)(v:Value)(l:List IV):Prop:=w.ownsRow base 62 2 v l.length (fo l)
theorem kF.xZ(W:World)(base b:Nat)(hb:b=W.heap.size)(h:base<=b):kF (W.alloc (.cells #[] 62)) base (.slice (some ⟨b,0,none⟩) 0 0) []:=by
 subst hb;exact⟨by simp[fo],.inr ⟨W.heap.size,0,#[],rfl,h,heap_alloc_new W (.cells #[] 62),Nat.le_refl _,by simp[maxLen],by simp,by simp[fo]⟩⟩
theorem oH:∀(l:List IV) (j:Nat) (u:Value),(fo l)[j]?=some u->∃k x,l[k]?=some x/\((j=k*2/\u= .bool x.s)\/(j=k*2+1/\u= .slice x.a x.n x.cap))
 |y::l,0,u,h=>⟨0,y,rfl,.inl ⟨rfl,by simp[fo]at h;exact h.symm⟩⟩
 |y::l,1,u,h=>⟨0,y,rfl,.inr ⟨rfl,by simp[fo]at h;exact h.symm⟩⟩
 |y::l,j+2,u,h=>by
  obtain⟨k,x,h1,h2⟩:=oH l j u h;rcases h2 with⟨h2,h3⟩|⟨h2,h3⟩
  ·exact⟨k+1,x,h1,.inl ⟨by omega,h3⟩⟩
  ·exact⟨k+1,x,h1,.inr ⟨by omega,h3⟩⟩
theorem kF.ro{w:World}{base:Nat}{v:Value}{l:List IV}(h:kF w base v l){zs:List Int}(hl:l.length=zs.length)(hz:∀(k:Nat) (x:IV) (z:Int),l[k]?=some x->zs[k]?=some z->IZ w x z):
  ∃b g c,v= .slice b zs.length c/\zs.length<=c/\(0<zs.length->b=some ⟨g,0,none⟩/\base<=g/\RO w g zs):=by
 obtain⟨h0,h⟩:=h;rcases h with⟨hv,hn⟩|⟨g,cap,cur,rfl,hb,hg,hle,hm,hsz,htk⟩
 ·exact⟨none,0,0,by rw[hv,show zs.length=0 by omega],by omega,fun h1=>by omega⟩
 ·refine⟨_,g,cap,by rw[hl],by omega,fun _=>⟨rfl,hb,l,(Array.getElem?_eq_some_iff.1 hg).1,hl,fun k x hk=>?_,fun k x hk=>?_,fun k=>?_,hz⟩⟩
  ·have h1:=(rM l k x hk).1;have hk2:=(List.getElem?_eq_some_iff.1 hk).1;rw[cell_of_row w g _ cur _ (0,0) hg];rw[<-htk,List.getElem?_take_of_lt (by omega),Array.getElem?_toList]at h1;exact h1
  ·have h1:=(rM l k x hk).2;have hk2:=(List.getElem?_eq_some_iff.1 hk).1;rw[cell_of_row w g _ cur _ (0,0) hg];rw[<-htk,List.getElem?_take_of_lt (by omega),Array.getElem?_toList]at h1;exact h1
  ·simp only[World.frozen?];rw[hg];simp
def CI(w:World)(g o:Nat)(l:List IV):Prop:=∀(k:Nat) (x:IV),l[k]?=some x->w.cell? ⟨g,o+k*2,none⟩=some (.bool x.s)/\w.cell? ⟨g,o+k*2+1,none⟩=some (.slice x.a x.n x.cap)
theorem RA.ci{w:World}{g o:Nat}{zs:List Int}(h:RA w g o zs):∃l:List IV,l.length=zs.length/\CI w g o l/\∀(k:Nat) (x:IV) (z:Int),l[k]?=some x->zs[k]?=some z->IZ w x z:=by
 have key:∀k:Nat,∃x:IV,∀z,zs[k]?=some z->w.cell? ⟨g,o+k*2,none⟩=some (.bool x.s)/\w.cell? ⟨g,o+k*2+1,none⟩=some (.slice x.a x.n x.cap)/\IZ w x z:=fun k=>by
  cases e:zs[k]? with
  |none=>exact⟨⟨false,none,0,0⟩,fun z h=>by cases h⟩
  |some z=>
   obtain⟨x,hx⟩:=h.c k z e;exact⟨x,fun z' hz'=>by cases hz';exact hx⟩
 obtain⟨f,hf⟩:=Classical.axiomOfChoice key;have hget:∀(k:Nat) (x:IV),((List.range zs.length).map f)[k]?=some x->k<zs.length/\x=f k:=fun k x hx=>by
  rw[List.getElem?_map]at hx;by_cases hk:k<zs.length
  ·rw[List.getElem?_range hk]at hx;simp at hx;exact⟨hk,hx.symm⟩
  ·rw[List.getElem?_eq_none cA]at hx;cases hx
 refine⟨(List.range zs.length).map f,by simp,fun k x hx=>?_,fun k x z hx hz=>?_⟩
 ·obtain⟨hk,rfl⟩:=hget k x hx;have:=hf k _ (getD_some hk);exact⟨this.1,this.2.1⟩
 ·obtain⟨hk,rfl⟩:=hget k x hx;exact(hf k z hz).2.2
theorem vH{w0 w:World}{base:Nat}{v:Value}{l:List IV}(hown:kF w base v l)(hB:Below base w0 w)(hbase:base<=w.heap.size)(t tx:TypeId)(ht:Tryz.prog.underlying t=some (.slice 62))(hk:Tryz.prog.underlying tx=some (.slice 62))
  (l2:List IV) (g o c n:Nat) (hn:n=l2.length) (h2:CI w g o l2) (hlen:l.length+l2.length<=4000000000)
  {ops:Array Oper} {rest:List Oper} {oo:Oper} {a:Act} {Q:Exit->Act->World->Prop} (hgd:oo.guard=none) (s y:Operand)
  (ho:oo.op= .call {callee:=.builtin .append,args:=#[s,y],argTypes:=#[t,tx]})
  (hs:a.eval s=v) (hx:a.eval y= .slice (some ⟨g,o,none⟩) n c)
  (h:∀v' w',kF w' base v' (l++l2)->Below base w0 w'->base<=w'.heap.size->w.heap.size<=w'.heap.size->(∀b,b<w.heap.size->some b≠v.ownBlock->w'.heap[b]?=w.heap[b]?)->(v'= .slice none 0 0↔v= .slice none 0 0/\l2.length=0)->wpList Tryz.prog ops Q rest (a.put oo.dst v') w'):wpList Tryz.prog ops Q (oo::rest) a w:=by
 obtain⟨i0,hi0,hz0,hz1,hz2⟩:=iw uM;subst hn;refine jg hgd s y t tx ho base 62 62 i0 _ 2 32 ht hk hi0 hz0 hz1 hz2 rfl (by omega) v l.length (fo l) hs hown
  ⟨g,o,none⟩ l2.length c (fo l2) hx (by rw[uU]) ?_ ?_ ov (by omega) hbase ?_
 ·intro j u hu;have hj:(⟨g,o,none⟩:Addr).add j=⟨g,o+j,none⟩:=by unfold Addr.add;split<;>simp_all
  rw[hj];obtain⟨k,x,h3,⟨rfl,rfl⟩|⟨rfl,rfl⟩⟩:=oH l2 j u hu
  ·exact(h2 k x h3).1
  ·exact(h2 k x h3).2
 ·intro u hu;obtain⟨j,hj⟩:=List.getElem?_of_mem hu;obtain⟨k,x,h3,⟨rfl,rfl⟩|⟨rfl,rfl⟩⟩:=oH l2 j u hj<;>rfl
 ·intro v' w' h1 h3 hnn;have hsz:=h3.size;refine h v' w' (by unfold kF;rw[vF,List.length_append];exact h1) (hB.grown h3 hbase ?_) (by omega) hsz (fun b hb hne=>h3.block b hb hne) hnn;intro k hk;exact(hown.lt k hk).1
def RV(w:World)(v:Value)(n:Nat)(zs:List Int):Prop:=∃b c,v= .slice b n c/\n<=c/\zs.length=n/\AD b/\(n=0\/∃g o,b=some ⟨g,o,none⟩/\RA w g o zs)
theorem RV.below{B:Nat}{w w':World}{v:Value}{n:Nat}{zs:List Int}(h:RV w v n zs)(hb:Below B w w')(hB:w.heap.size<=B):RV w' v n zs:=by
 obtain⟨b,c,h1,h2,h3,hA,h4⟩:=h;refine⟨b,c,h1,h2,h3,hA,?_⟩;rcases h4 with h4|⟨g,o,e,h5⟩
 ·exact .inl h4
 ·exact .inr ⟨g,o,e,h5.below hb hB⟩
def RPost(w:World)(n:Nat)(zs:List Int)(e:Ending)(w':World):Prop:=(∃b g c,e= .returned (.slice b n c)/\n<=c/\AD b/\(0<n->b=some ⟨g,0,none⟩/\w.heap.size<=g/\RO w' g zs))/\Below w.heap.size w w'
theorem run_eql_slice_nil{P:Program}(w:World)(t e:TypeId)(a:Option Addr)(l c:Nat)(h:P.underlying t=some (.slice e)):(binOp .eql t (.slice a l c) (.slice none 0 0)).run P w= .ok (.bool a.isNone) w:=by
 simp only[binOp];simp[run_equal_slice_nil w t e a l c h]
@[go_sem] theorem eql_row (a : Option Addr) (l c : Nat) (w : World) : (binOp .eql 147 (.slice a l c) (.slice none 0 0)).run Tryz.prog w = .ok (.bool a.isNone) w:=run_eql_slice_nil w _ _ a l c Tryz.underlying147
theorem kF.ad{w:World}{base:Nat}{v:Value}{l:List IV}(h:kF w base v l)(h0:v≠ .slice none 0 0):∃b c,v= .slice b l.length c/\AD b:=by
 rcases h.2 with⟨hv,hn⟩|⟨g,cap,cur,hv,_⟩
 ·exact absurd hv h0
 ·exact⟨_,cap,hv,AD.some _ _⟩
set_option maxRecDepth 10000 in
set_option maxHeartbeats 4000000 in
theorem xW(v:Value)(n:Nat)(zs:List Int)(hn:n<=1000000)(w:World)(h:RV w v n zs):
  Calls Tryz.prog 189 #[v] w (RPost w n zs):=by
 obtain⟨b,c,rfl,hc,hz,hA,h4⟩:=h;obtain⟨g,o,rfl⟩:=hA
 ·obtain ⟨l, hl, hci, hiz⟩ : ∃ l : List IV, l.length = zs.length /\ CI w g o l /\ (∀ (k : Nat) (x : IV) (z : Int), l[k]? = some x -> zs[k]? = some z -> IZ w x z) /\ (n = 0 \/ g < w.heap.size) := by
   rcases h4 with h4|⟨g',o',e,h5⟩
   ·subst h4;have hz0:zs=[]:=List.eq_nil_of_length_eq_zero hz;subst hz0;exact⟨[],rfl,fun k x hx=>by(simp at hx),fun k x z hx=>by(simp at hx), .inl rfl⟩
   ·cases e;obtain⟨l,h6,h7,h8⟩:=h5.ci;exact⟨l,h6,h7,h8, .inr h5.lt⟩
  have HCI:=Lib.hid hci;have HIZ:Hid _:=hiz;have HLN:=Lib.hid (hl.trans hz);have HZN:=Lib.hid hz;have CIb:Hid (∀W,Below w.heap.size w W->CI W g o l):=fun W hW k x hx=>by
   rcases HIZ.out.2 with h|h
   ·rw[List.getElem?_eq_none (by rw[HLN.out,h];omega)]at hx;cases hx
   ·exact⟨(hW.cell (p:=⟨g,_,none⟩) h).trans (HCI.out k x hx).1,(hW.cell (p:=⟨g,_,none⟩) h).trans (HCI.out k x hx).2⟩
  clear h4 hci hiz hl hz
  go_enter Tryz.func189,Tryz.ntmps189
  go_wp2_with (at_builtin;go_must (refine vH (w0:=w) (base:=w.heap.size) (l:=[]) ?_ ?_ ?_ 147 147 Tryz.underlying147 Tryz.underlying147 l g o c n HLN.out.symm ?_ ?_ rfl (.tmp 5) (.tmp 6) rfl (by rfl) (by rfl) ?_);(exact kF.xZ _ _ _ (by first|rfl|(simp;done)) (by first|omega|(simp;done)));(exact bel);(focus(simp));(exact CIb.out _ an);(focus(rw[HLN.out];simp;omega));intro v5 w5 hown5 hB5 hz5 hs5 hk5 hn5;have HO5:=Lib.hid hown5;have HN5:Hid (v5≠Value.slice none 0 0):=(fun e=>by have h9:=(hn5.1 e).1;cases h9);clear hown5 hk5 hn5)
  go_ret
  rw[List.nil_append]at HO5;obtain⟨b',c',hv,hA⟩:=HO5.out.ad HN5.out;obtain⟨b,g',c2,h1,h2,h3⟩:=HO5.out.ro (zs:=zs) (HLN.out.trans HZN.out.symm) (fun k x z hx hz=>(HIZ.out.1 k x z hx hz).below hB5 (Nat.le_refl _));rw[HZN.out]at h1 h2 h3;have hA2:AD b:=by rw[h1]at hv;cases hv;exact hA
  exact⟨⟨b,g',c2,by rw[<-h1];rfl,h2,hA2,h3⟩,hB5⟩
end
section
namespace Mx
def Bd(X:Nat)(M:Mat):Prop:=∀i j,(at' M i j).natAbs<=X
theorem Bd.mono{X Y:Nat}{M:Mat}(h:Bd X M)(hxy:X<=Y):Bd Y M:=fun i j=>Nat.le_trans (h i j) hxy
theorem ud{X:Nat}{M:Mat}(h:Bd X M){i j:Nat}(hi:i<M.length)(hj:j<M.length):Bd X (swp M i j):=fun k l=>by
 rw[cg hi hj];split
 ·exact h _ _
 ·split<;>exact h _ _
theorem uX{n X Q:Nat}{r c s:Nat}{M:Mat}(h:Rc n M)(hr:r<M.length)(hb:Bd X M)(hq:∀i,s<=i->i<M.length->(at' M i c/at' M r c).natAbs<=Q){k:Nat}(hk:s+k<=M.length):Bd (X*(Q+1)) (aw r c s M k):=fun i j=>by
 rw[ig h hr hk];have h1:=hb i j;have h2:X<=X*(Q+1):=Nat.le_mul_of_pos_right X (Nat.succ_pos Q);split
 ·rename_i h3;have h4:=hq i h3.1 (by omega);have h5:=hb r j;have h6:(at' M i c/at' M r c*at' M r j).natAbs<=Q*X:=by
   rw[Int.natAbs_mul];exact Nat.mul_le_mul h4 h5
  rw[Nat.mul_comm]at h6;rw[Nat.mul_add,Nat.mul_one];omega
 ·omega
theorem rj{X r c:Nat}{M:Mat}(h:Bd X M)(hr:r<M.length):Bd X (bB r c M):=fun i j=>by
 unfold bB;split
 ·rw[qu _ _ _ _ _ hr];split
  ·rw[mN,Int.natAbs_neg];exact h r j
  ·exact h i j
 ·exact h i j
theorem fV(x p:Int):(x/p).natAbs<=x.natAbs:=Int.natAbs_ediv_le_natAbs x p
theorem div_pos{x p:Int}(hx:0<=x)(hp:0<p):(x/p).natAbs*p.natAbs<=x.natAbs:=by
 have h1:=Int.ediv_nonneg hx (Int.le_of_lt hp);have h2:=Int.ediv_mul_le x (show p≠0 by omega);have h3:((x/p).natAbs:Int)*(p.natAbs:Int)=x/p*p:=by
  rw[Int.natAbs_of_nonneg h1,Int.natAbs_of_nonneg (Int.le_of_lt hp)]
 omega
theorem Fh{x p:Int}(hp:0<p):(x/p).natAbs*p.natAbs<=x.natAbs+p.natAbs:=by
 by_cases hx:0<=x
 ·have:=div_pos hx hp;omega
 ·have h1:=iV (x:=x) (p:=p) (by omega);have h2:x/p<=0:=by
   apply Int.le_of_not_gt;intro h;have:=Int.mul_le_mul_of_nonneg_right (show 1<=x/p by omega) (Int.le_of_lt hp);omega
  have h3:((x/p).natAbs:Int)*(p.natAbs:Int)= -(x/p*p):=by
   rw[show((x/p).natAbs:Int)= -(x/p) by omega,Int.natAbs_of_nonneg (Int.le_of_lt hp),Int.neg_mul]
  omega
theorem gF{r c s k:Nat}{M:Mat}(hr:¬(s<=r/\r<s+k))(hk:s+k<=M.length):aw r c s M (k+1)=(aw r c s M k).set (s+k) (bN (rw (aw r c s M k) r) c (rw (aw r c s M k) (s+k))):=by
 rw[cD _ _ _ _ _ hk,cD _ _ _ _ _ hk,if_neg hr,if_neg (by omega)];rfl
theorem zy(M:Mat)(i:Nat):M.set i (rw M i)=M:=by
 apply List.ext_getElem?;intro k;by_cases e:i=k
 ·subst e;by_cases h:i<M.length
  ·rw[List.getElem?_set_self h];unfold rw;rw[List.getD_eq_getElem?_getD,List.getElem?_eq_getElem h];rfl
  ·rw[List.getElem?_eq_none cA,List.getElem?_eq_none (by omega)]
 ·rw[List.getElem?_set_ne e]
theorem uW{p a:List Int}{c:Nat}(h:a.getD c 0=0)(hl:a.length=p.length):bN p c a=a:=
 ry (iy _ _ _ hl) fun j=>by rw[qi _ _ _ _ hl,h,Int.zero_ediv,Int.zero_mul,Int.sub_zero]
theorem yq{n r c s k:Nat}{M:Mat}(h:Rc n M)(hrl:r<M.length)(hr:¬(s<=r/\r<s+k))(hk:s+k<M.length)(h0:at' (aw r c s M k) (s+k) c=0):aw r c s M (k+1)=aw r c s M k:=by
 have hl:=bW r c s M k;have hrc:=ic (s:=s) (c:=c) h hrl k (by omega);rw[gF hr (by omega),uW h0 (by rw[hrc.rw (by omega),hrc.rw (by omega)]),zy]
theorem um(c r:Nat)(M:Mat):∀k,(scan c r M k).2<=k
 |0=>Nat.le_refl _
 |k+1=>by
  have:=um c r M k;unfold scan;simp only[];split
  ·omega
  ·exact Nat.succ_le_succ this
theorem e11(e c:Nat):11*(e*11^c)=e*11^(c+1):=by rw[Nat.pow_succ,Nat.mul_comm (11^c) 11,Nat.mul_left_comm]
theorem zB{c r i:Nat}{M:Mat}(h:r<=i)(h0:at' M i c=0):scan c r M (i+1-r)=scan c r M (i-r):=by
 rw[show i+1-r=(i-r)+1 by omega]
 conv=>lhs;unfold scan
 simp only[];rw[show r+(i-r)=i by omega,if_pos h0]
theorem zC{c r i:Nat}{M:Mat}(h:r<=i)(h0:at' M i c≠0)(hp:(scan c r M (i-r)).1=none):scan c r M (i+1-r)=(some i,(scan c r M (i-r)).2+1):=by
 rw[show i+1-r=(i-r)+1 by omega]
 conv=>lhs;unfold scan
 simp only[];rw[show r+(i-r)=i by omega,if_neg h0,hp]
theorem vY{c r i t:Nat}{M:Mat}(h:r<=i)(h0:at' M i c≠0)(hp:(scan c r M (i-r)).1=some t)(hl:(at' M i c).natAbs<(at' M t c).natAbs):scan c r M (i+1-r)=(some i,(scan c r M (i-r)).2+1):=by
 rw[show i+1-r=(i-r)+1 by omega]
 conv=>lhs;unfold scan
 simp only[];rw[show r+(i-r)=i by omega,if_neg h0,hp];simp only[];rw[if_pos hl]
theorem vZ{c r i t:Nat}{M:Mat}(h:r<=i)(h0:at' M i c≠0)(hp:(scan c r M (i-r)).1=some t)(hl:¬(at' M i c).natAbs<(at' M t c).natAbs):scan c r M (i+1-r)=(some t,(scan c r M (i-r)).2+1):=by
 rw[show i+1-r=(i-r)+1 by omega]
 conv=>lhs;unfold scan
 simp only[];rw[show r+(i-r)=i by omega,if_neg h0,hp];simp only[];rw[if_neg hl]
structure Round(r c t:Nat)(M:Mat):Prop where
 hr:r<M.length
 ht:t<M.length
 rt:r<=t
 ne:at' M t c≠0
 least:∀i,r<=i->i<M.length->at' M i c≠0->(at' M t c).natAbs<=(at' M i c).natAbs
 other:∃i,r<=i/\i<M.length/\i≠t/\at' M i c≠0
 pr:at' (elim r c (swp M r t)) r c=at' M t c
 tto:∀i,r<i->i<M.length->∃j,r<=j/\j<M.length/\j≠t/\at' (swp M r t) i c=at' M j c/\at' (elim r c (swp M r t)) i c=at' M j c%at' M t c
 fro:∀j,r<=j->j<M.length->j≠t->∃i,r<i/\i<M.length/\at' (elim r c (swp M r t)) i c=at' M j c%at' M t c
theorem uu{n r c t:Nat}{M:Mat}(h:Rc n M)(h1:(pick r c M).1=some t)(h2:(pick r c M).2≠1):Round r c t M:=by
 obtain⟨k1,k2,k3,k4,k5,_,k7⟩:=(cS c r M (M.length-r)).yes t h1;have h2':2<=(scan c r M (M.length-r)).2:=by unfold pick at h2;omega
 obtain⟨i,i1,i2,i3,i4⟩:=k7 h2';clear k7;have hr:r<M.length:=by omega
 have ht:t<M.length:=by omega
 have hS:=fw h hr ht;have hSl:(swp M r t).length=M.length:=bH _ _ _;have hSr:at' (swp M r t) r c=at' M t c:=by
  rw[cg hr ht];split
  ·rename_i e;rw[e]
  ·rw[if_pos rfl]
 have hat:∀i,r<i->i<M.length->at' (elim r c (swp M r t)) i c=at' (swp M r t) i c%at' M t c:=fun i h3 h4=>by
  unfold elim;rw[ig hS (by omega) (by omega),if_pos (by omega),hSr,(iV k3).2.2]
 refine⟨hr,ht,k1,k3,fun i h3 h4 h5=>k4 i h3 (by omega) h5,⟨i,i1,by omega,i3,i4⟩,?_,fun i h3 h4=>?_,fun j h3 h4 h5=>?_⟩
 ·unfold elim;rw[ig hS (by omega) (by omega),if_neg (by omega),hSr]
 ·rw[hat i h3 h4,cg hr ht];by_cases e:i=t
  ·rw[if_pos e];exact⟨r,Nat.le_refl _,hr,by omega,rfl,rfl⟩
  ·rw[if_neg e,if_neg (by omega)];exact⟨i,by omega,h4,e,rfl,rfl⟩
 ·by_cases e:j=r
  ·refine⟨t,by omega,ht,?_⟩;rw[hat t (by omega) ht,cg hr ht,if_pos rfl,e]
  ·refine⟨j,by omega,h4,?_⟩;rw[hat j (by omega) h4,cg hr ht,if_neg h5,if_neg e]
def J(K r c:Nat)(M:Mat):Prop:=∃X O i0,Bd X M/\X<=K/\r<=i0/\i0<M.length/\(at' M i0 c).natAbs=O/\(∀i,r<=i->i<M.length->i≠i0->0<=at' M i c/\at' M i c<(O:Int))/\
 ∀t,(pick r c M).1=some t->(pick r c M).2≠1->X*O*O*(at' M t c).natAbs*(if at' M i0 c<0 then 3 else 1)<=K
def Jn(K r c:Nat)(M:Mat):Prop:=(∃X,1<=X/\Bd X M/\6*X^5<=K)\/J K r c M
theorem pow5(X:Nat):X^5=X*X*X*X*X:=by
 simp[Nat.pow_succ]
theorem ET{X:Nat}(h:1<=X):X<=X^5:=by
 have:=Nat.pow_le_pow_right h (show 1<=5 by omega);simpa using this
theorem lP{K r c:Nat}{M:Mat}(h:Jn K r c M):Bd K M:=by
 rcases h with⟨X,h1,h2,h3⟩|⟨X,O,i0,h1,h2,_⟩
 ·exact h2.mono (by have:=ET h1;omega)
 ·exact h1.mono h2
theorem rA{n K r c t X Q:Nat}{M:Mat}(h:Rc n M)(R:Round r c t M)(hb:Bd X M)(hq:∀j,r<=j->j<M.length->j≠t->(at' M j c/at' M t c).natAbs<=Q)(hK:X*(Q+1)<=K)
  (hc:∀t',(pick r c (elim r c (swp M r t))).1=some t'->(pick r c (elim r c (swp M r t))).2≠1->X*(Q+1)*(at' M t c).natAbs*(at' M t c).natAbs*(at' (elim r c (swp M r t)) t' c).natAbs*(if at' M t c<0 then 3 else 1)<=K):
  (∀k,r+1+k<=M.length->Bd K (aw r c (r+1) (swp M r t) k))/\J K r c (elim r c (swp M r t)):=by
 have hSl:(swp M r t).length=M.length:=bH _ _ _;have hr:=R.hr;have hSr:at' (swp M r t) r c=at' M t c:=by
  rw[cg R.hr R.ht];split
  ·rename_i e;rw[e]
  ·rw[if_pos rfl]
 have key:∀k,r+1+k<=M.length->Bd (X*(Q+1)) (aw r c (r+1) (swp M r t) k):=fun k hk=>
  uX (fw h R.hr R.ht) (by omega) (ud hb R.hr R.ht) (fun i h1 h2=>by
   obtain⟨j,j1,j2,j3,j4,_⟩:=R.tto i (by omega) (by omega);rw[hSr,j4];exact hq j j1 j2 j3) (by omega)
 refine⟨fun k hk=>(key k hk).mono hK,X*(Q+1),(at' M t c).natAbs,r,?_,hK,Nat.le_refl _,?_,by rw[R.pr],fun i h1 h2 h3=>?_,fun t' h1 h2=>?_⟩
 ·unfold elim;exact key _ (by omega)
 ·unfold elim;rw[bW,hSl];exact R.hr
 ·have hl:(elim r c (swp M r t)).length=M.length:=by unfold elim;rw[bW,hSl]
  obtain⟨j,_,_,_,_,j5⟩:=R.tto i (by omega) (by omega);rw[j5];exact⟨Int.emod_nonneg _ R.ne,Int.emod_lt _ R.ne⟩
 ·rw[R.pr];exact hc t' h1 h2
theorem rH{n r c t t':Nat}{M:Mat}(h:Rc n M)(R:Round r c t M)(h1:(pick r c (elim r c (swp M r t))).1=some t')(h2:(pick r c (elim r c (swp M r t))).2≠1):
  (at' (elim r c (swp M r t)) t' c).natAbs<(at' M t c).natAbs/\∀i,r<=i->i<M.length->at' (elim r c (swp M r t)) i c≠0->(at' (elim r c (swp M r t)) t' c).natAbs<=(at' (elim r c (swp M r t)) i c).natAbs:=by
 have hE:=lz h (c:=c) R.hr R.ht;have R':=uu hE.1 h1 h2;have hl:=hE.2;have small:∀i,r<i->i<M.length->(at' (elim r c (swp M r t)) i c).natAbs<(at' M t c).natAbs:=fun i h3 h4=>by
  obtain⟨j,_,_,_,_,j5⟩:=R.tto i h3 h4;rw[j5];have:=Int.emod_nonneg (at' M j c) R.ne;have:=Int.emod_lt (at' M j c) R.ne;omega
 refine⟨?_,fun i h3 h4 h5=>R'.least i h3 (by omega) h5⟩;by_cases e:t'=r
 ·obtain⟨i,i1,i2,i3,i4⟩:=R'.other;have h5:=R'.least i i1 i2 i4;have h6:=small i (by omega) (by omega);rw[e,R.pr]at h5⊢;omega
 ·exact small t' (by have:=R'.rt;omega) (by have:=R'.ht;omega)
theorem rK{n K r c t:Nat}{M:Mat}(h:Rc n M)(hj:Jn K r c M)(h1:(pick r c M).1=some t)(h2:(pick r c M).2≠1):
  (∀k,r+1+k<=M.length->Bd K (aw r c (r+1) (swp M r t) k))/\Jn K r c (elim r c (swp M r t)):=by
 have R:=uu h h1 h2;have hP:1<=(at' M t c).natAbs:=by have:=R.ne;omega
 have go:∀{A B:Prop},A/\J K r c (elim r c (swp M r t))->(A->B)->B/\Jn K r c (elim r c (swp M r t)):=fun x f=>⟨f x.1, .inr x.2⟩;rcases hj with⟨X,x1,x2,x3⟩|⟨X,O,i0,x1,x2,x3,x4,x5,x6,x7⟩
 ·refine go (rA (X:=X) (Q:=X) h R x2 (fun j j1 j2 j3=>Nat.le_trans (fV _ _) (x2 j c)) ?_ fun t' k1 k2=>?_) id
  ·have h3:X*(X+1)<=X*(2*X):=Nat.mul_le_mul_left X (by omega);have h4:X*X<=X^5:=by
    have:=Nat.pow_le_pow_right x1 (show 2<=5 by omega);rw[Nat.pow_two]at this;exact this
   have h5:X*(2*X)=2*(X*X):=by rw[Nat.mul_left_comm]
   omega
  ·have h3:=(rH h R k1 k2).1;have h4:=x2 t c;have h5:X*(X+1)<=2*(X*X):=by
    have:X*(X+1)<=X*(2*X):=Nat.mul_le_mul_left X (by omega);rwa[Nat.mul_left_comm]at this
   have h6:X*(X+1)*(at' M t c).natAbs*(at' M t c).natAbs*(at' (elim r c (swp M r t)) t' c).natAbs*(if at' M t c<0 then 3 else 1)<=2*(X*X)*X*X*X*3:=
    Nat.mul_le_mul (Nat.mul_le_mul (Nat.mul_le_mul (Nat.mul_le_mul h5 h4) h4) (by omega)) (by split<;>omega)
   have h7:2*(X*X)*X*X*X*3=6*X^5:=by
    rw[pow5];simp only[Nat.mul_assoc,Nat.mul_comm]
   omega
 ·have ht0 : t ≠ i0 := fun e => by
   obtain⟨i,i1,i2,i3,i4⟩:=R.other;have h3:=R.least i i1 i2 i4;have h4:=x6 i i1 i2 (by omega);rw[e]at h3;omega
  have h3:=x6 t R.rt R.ht ht0;have hk:=x7 t h1 h2;generalize hpe:at' M t c=p at*;generalize hae:at' M i0 c=a at*;have hp0:0<p:=by have:=R.ne;rw[hpe]at this;omega
  obtain⟨P,rfl⟩:∃P:Nat,p=P:=⟨p.natAbs,by omega⟩;rw[Int.natAbs_natCast]at*;have hPO:P<O:=by omega
  have hO2:O<=O*O:=Nat.le_mul_of_pos_right O (by omega);have hdiv:O/P*P<=O:=Nat.div_mul_le_self O P;have hdv:O/P<=O:=Nat.div_le_self O P;have hneg:¬(P:Int)<0:=by omega
  by_cases hs:a<0
  ·rw[if_pos hs]at hk;have e3:X*O*O*P*3=3*(X*O*O*P):=Nat.mul_comm _ _;refine go (rA (X:=X) (Q:=O/P+1) h R x1 (fun j j1 j2 j3=>?_) ?_ fun t' k1 k2=>?_) id
   ·rw[hpe];have h4:(at' M j c/(P:Int)).natAbs*P<=O+P:=by
     have h5:=Fh (x:=at' M j c) (p:=(P:Int)) hp0;rw[Int.natAbs_natCast]at h5;by_cases e:j=i0
     ·rw[e,hae]at h5⊢;omega
     ·have:=x6 j j1 j2 e;omega
    have h5:(at' M j c/(P:Int)).natAbs<=(O+P)/P:=(Nat.le_div_iff_mul_le (by omega)).2 h4;rwa[Nat.add_div_right _ (by omega)]at h5
   ·have h4 : X * (O / P + 1 + 1) <= X * (3 * (O * O * P)) := Nat.mul_le_mul_left X (by
     have:O*O<=O*O*P:=Nat.le_mul_of_pos_right _ (by omega);omega)
    have h5:X*(3*(O*O*P))=3*(X*O*O*P):=by
     simp only[Nat.mul_assoc,Nat.mul_comm,Nat.mul_left_comm]
    omega
   ·have h4:=(rH h R k1 k2).1;rw[hpe]at h4⊢;rw[Int.natAbs_natCast]at h4⊢;rw[if_neg hneg,Nat.mul_one];generalize(at' (elim r c (swp M r t)) t' c).natAbs=P' at h4⊢;have h5:(O/P+1+1)*P<=3*O:=by rw[Nat.add_mul,Nat.add_mul];omega
    have h6:X*((O/P+1+1)*P)*P*P'<=X*(3*O)*P*O:=Nat.mul_le_mul (Nat.mul_le_mul (Nat.mul_le_mul_left X h5) (Nat.le_refl _)) (by omega);have h7:X*(3*O)*P*O=3*(X*O*O*P):=by
     simp only[Nat.mul_assoc,Nat.mul_comm,Nat.mul_left_comm]
    have h8:X*(O/P+1+1)*P*P*P'=X*((O/P+1+1)*P)*P*P':=by rw[Nat.mul_assoc X]
    omega
  ·rw[if_neg hs,Nat.mul_one]at hk;have haO:a=(O:Int):=by omega
   refine go (rA (X:=X) (Q:=O/P) h R x1 (fun j j1 j2 j3=>?_) ?_ fun t' k1 k2=>?_) id
   ·rw[hpe];have h4:(at' M j c/(P:Int)).natAbs*P<=O:=by
     by_cases e:j=i0
     ·rw[e,hae,haO];have h5:=div_pos (x:=(O:Int)) (p:=(P:Int)) (by omega) hp0;rw[Int.natAbs_natCast,Int.natAbs_natCast]at h5;exact h5
     ·have h6:=x6 j j1 j2 e;have h5:=div_pos (x:=at' M j c) (p:=(P:Int)) h6.1 hp0;rw[Int.natAbs_natCast]at h5;omega
    exact(Nat.le_div_iff_mul_le (by omega)).2 h4
   ·have h4 : X * (O / P + 1) <= X * (O * O * P) := Nat.mul_le_mul_left X (by
     have h6:O*O<=O*O*P:=Nat.le_mul_of_pos_right _ (by omega);have h7:2*O<=O*O:=Nat.mul_le_mul_right O (by omega);omega)
    have h5:X*(O*O*P)=X*O*O*P:=by simp only[Nat.mul_assoc]
    omega
   ·obtain⟨h4,h5⟩:=rH h R k1 k2;obtain⟨m0,m1,m2,m3⟩:=R.fro i0 x3 x4 (Ne.symm ht0);have h6:=h5 m0 (by omega) m2;rw[m3,hae,haO]at h6;rw[hpe]at h4 h6⊢;rw[Int.natAbs_natCast]at h4⊢;rw[if_neg hneg,Nat.mul_one];generalize(at' (elim r c (swp M r t)) t' c).natAbs=P' at h4 h6⊢;have h7:2*P'<=O:=by
     have e1:((O:Int)%(P:Int))=((O%P:Nat):Int):=by simp
     rw[e1,Int.natAbs_natCast]at h6;have e2:=Nat.div_add_mod O P;have e3:1<=O/P:=(Nat.le_div_iff_mul_le (by omega)).2 (by omega);have e4:=Nat.mod_lt O (show 0<P by omega);by_cases h0:O%P=0
     ·have e5 : 2 <= O / P := by
       apply Nat.le_of_not_lt;intro hlt;have:O/P=1:=by omega
       rw[this,h0]at e2;omega
      have e6:=Nat.mul_le_mul_left P e5;omega
     ·have e5:=h6 (by omega);have e6:=Nat.mul_le_mul_left P e3;omega
    have h8:(O/P+1)*P<=2*O:=by rw[Nat.add_mul];omega
    have h9:X*((O/P+1)*P)*P*P'<=X*(2*O)*P*P':=Nat.mul_le_mul (Nat.mul_le_mul (Nat.mul_le_mul_left X h8) (Nat.le_refl _)) (Nat.le_refl _);have h10:X*(2*O)*P*P'=X*O*P*(2*P'):=by simp only[Nat.mul_assoc,Nat.mul_comm,Nat.mul_left_comm]
    have h11:X*O*P*(2*P')<=X*O*P*O:=Nat.mul_le_mul_left _ h7;have h12:X*O*P*O=X*O*O*P:=Nat.mul_right_comm _ _ _;have h13:X*(O/P+1)*P*P*P'=X*((O/P+1)*P)*P*P':=by rw[Nat.mul_assoc X]
    omega
theorem rQ{n K r c:Nat}{M:Mat}(h:Rc n M)(hj:Jn K r c M):Bd K (bQ r c M):=by
 refine oW (n:=n) (r:=r) (c:=c) (fun N=>Jn K r c N) (fun N hN hq t ht h2=>(rK hN hq ht h2).2) (fun N=>Bd K N) (fun N _ hq _=>lP hq) (fun N hN hq t ht h2=>?_) _ M rfl h hj;obtain⟨k1,k2,_⟩:=(cS c r N (N.length-r)).yes t ht;exact ud (lP hq) (by omega) (by omega)
theorem vo{n K r c:Nat}{M:Mat}(h:Rc n M)(hr:r<M.length)(hb:Bd K M){k:Nat}(hk:k<=M.length):Bd (K*(K+1)) (aw r c 0 M k):=
 uX h hr hb (fun i _ _=>Nat.le_trans (fV _ _) (hb i c)) (by omega)
def nb(X:Nat):Nat:=6*X^5*(6*X^5+1)
theorem yh(X:Nat):6*X^5<=nb X:=Nat.le_mul_of_pos_right _ (by omega)
theorem pO{e:Nat}(h:6<=e):nb (2^e)<=2^(11*e):=by
 have h1:6*(2^e)^5+1<=2^(5*e+3):=by
  rw[<-Nat.pow_mul,Nat.pow_add,Nat.mul_comm e 5];have:=Nat.pow_pos (a:=2) (n:=5*e) (by omega);omega
 have h2:nb (2^e)<=2^(5*e+3)*2^(5*e+3):=Nat.mul_le_mul (by omega) h1;rw[<-Nat.pow_add]at h2;exact Nat.le_trans h2 (Nat.pow_le_pow_right (by omega) (by omega))
theorem vT{n X r c:Nat}{M:Mat}(h:Rc n M)(hr:r<M.length)(h1:1<=X)(hb:Bd X M):Bd (nb X) (step r c M).2:=by
 have hc:=rQ h (K:=6*X^5) (r:=r) (c:=c) (.inl ⟨X,h1,hb,Nat.le_refl _⟩);have hre:=(lZ (r:=r) (c:=c) h).1.re;unfold step;simp only[];split
 ·exact hc.mono (yh X)
 ·have hl:r<(bQ r c M).length:=by rw[hre.len];exact hr
  have h2:=nB (c:=c) hl;exact vo (h2.rc (hre.rc h)) (by rw[h2.len];exact hl) (rj hc hl) (by rw[h2.len];omega)
theorem uv{k c r:Nat}{M:Mat}(h:r<M.length):red (k+1) c (r,M)=red k (c+1) (step r c M):=by
 conv=>lhs;unfold red
 rw[if_pos h]
theorem lC{k c r:Nat}{M:Mat}(h:¬r<M.length):red k c (r,M)=(r,M):=by
 cases k with
 |zero=>rfl
 |succ k=>unfold red;rw[if_neg h]
end Mx
end
section
open Go.RowKit Go.BigFrame
attribute [local go_sem ↓] Go.wp_at_zero Go.wp_at_succ
theorem bc{z:Int}{e:Nat}(h:z.natAbs<=2^e)(he:e<=6000000000000):Fit z:=by
 refine⟨e/32+1,by omega,Nat.lt_of_le_of_lt h ?_⟩;rw[show B32=2^32 from rfl,<-Nat.pow_mul];exact Nat.pow_lt_pow_right (by omega) (by omega)
def uV:Option Nat->Int
 |none=>-1
 |some t=>t
structure R1(w wr:World)(B gm L n m:Nat)(gs cs:Nat->Nat)(M:Mx.Mat):Prop where
 mo:MO wr B gm L gs cs n M
 bl:Below B w wr
 len:M.length=m
theorem R1.ext{w wr wx:World}{B gm L n m:Nat}{gs cs:Nat->Nat}{M:Mx.Mat}(h:R1 w wr B gm L n m gs cs M)(hB:B<=wr.heap.size)(k:Below wr.heap.size wr wx):R1 w wx B gm L n m gs cs M:=
 ⟨h.mo.below k (Nat.le_refl _),h.bl.trans (k.mono hB),h.len⟩
theorem MO.elem{w:World}{B gm L:Nat}{gs cs:Nat->Nat}{n:Nat}{M:Mx.Mat}(h:MO w B gm L gs cs n M){i j:Nat}(hi:i<M.length)(hj:j<n):
  ∃x:IV,w.cell? ⟨gm,i,none⟩=some (.slice (some ⟨gs i,0,none⟩) n (cs i))/\w.cell? ⟨gs i,j*2,none⟩=some (.bool x.s)/\w.cell? ⟨gs i,j*2+1,none⟩=some (.slice x.a x.n x.cap)/\IZ w x (Mx.at' M i j)/\gs i<w.heap.size:=by
 obtain⟨h1,h2,h3,h4,h5⟩:=h.hc i hi;obtain⟨x,x1,x2,x3,_⟩:=h5.at (k:=j) (z:=Mx.at' M i j) (getD_some (by rw[h.rc.rw hi];exact hj));exact⟨x,h1,x1,x2,x3,h5.lt⟩
theorem R1.swp{w wr:World}{B gm L n m:Nat}{gs cs:Nat->Nat}{M:Mx.Mat}(h:R1 w wr B gm L n m gs cs M){i j:Nat}(hi:i<m)(hj:j<m):
  R1 w ((wr.setCell ⟨gm,i,none⟩ (.slice (some ⟨gs j,0,none⟩) n (cs j))).setCell ⟨gm,j,none⟩ (.slice (some ⟨gs i,0,none⟩) n (cs i))).drew B gm L n m (ix gs i j) (ix cs i j) (Mx.swp M i j):=
 ⟨(h.mo.swp (by rw[h.len];exact hi) (by rw[h.len];exact hj)).below (Below.refl _ _).drew (Nat.le_refl _),((h.bl.setCell h.mo.b _).setCell h.mo.b _).drew,by rw[Mx.bH];exact h.len⟩
theorem mX{l:List Int}{j:Nat}{x:Int}(h:l[j]?=some x):l.getD j 0=x:=by rw[List.getD_eq_getElem?_getD,h];rfl
theorem oP{E i r:Nat}{N:Mx.Mat}(hb:Mx.Bd (2^E) N)(hE:2*E<=6000000000000)(kz:Int)(hk:kz.natAbs<=2^E)(j:Nat)(x y:Int)(hx:(Mx.rw N i)[j]?=some x)(hy:(Mx.rw N r)[j]?=some y):Fit x/\Fit y/\Fit (kz*y):=by
 have h1:=hb i j;have h2:=hb r j;unfold Mx.at' at h1 h2;rw[mX hx]at h1;rw[mX hy]at h2;refine⟨bc h1 (by omega),bc h2 (by omega),bc (e:=2*E) ?_ hE⟩;rw[Int.natAbs_mul,Nat.two_mul,Nat.pow_add];exact Nat.mul_le_mul hk h2
theorem R1.set{w wr wx:World}{B gm L n m:Nat}{gs cs:Nat->Nat}{M:Mx.Mat}(h:R1 w wr B gm L n m gs cs M){i:Nat}(hi:i<m){zs:List Int}(hz:zs.length=n)(k:Chg (gs i) wr wx)(hr:RO wx (gs i) zs):R1 w wx B gm L n m gs cs (M.set i zs):=
 have hi2:i<M.length:=by rw[h.len];exact hi
 ⟨h.mo.setRow hi2 hz k hr,k.below h.bl (h.mo.hc i hi2).2.2.1 (Nat.le_of_lt (Nat.lt_of_le_of_lt h.mo.b h.mo.lt)),by rw[List.length_set];exact h.len⟩
structure R2(w wr:World)(B gm L n m e:Nat)(T:Nat×Mx.Mat)(cN c r:Nat)(gs cs:Nat->Nat)(M:Mx.Mat):Prop where
 r1:R1 w wr B gm L n m gs cs M
 rm:r<=m
 eq:Mx.red (cN-c) c (r,M)=T
 bd:Mx.Bd (2^(e*11^c)) M
set_option maxRecDepth 10000 in
set_option maxHeartbeats 8000000 in
theorem xV(B gm L cap n cN e:Nat)(gs cs:Nat->Nat)(M:Mx.Mat)(hc:cN<=n)(hn1:n<=1000)(hL:M.length<=1000)(he:6<=e)(hf:2*(e*11^cN)<=6000000000000)(hb:Mx.Bd (2^e) M)
  (w:World) (h:MO w B gm L gs cs n M):
  Calls Tryz.prog 145 #[.slice (some ⟨gm,0,none⟩) M.length cap, .int .i64 ((cN:Int))] w fun e w'=>e= .returned (.int .i64 (((Mx.red cN 0 (0,M)).1:Int)))/\Below B w w'/\∃gs' cs',MO w' B gm L gs' cs' n (Mx.red cN 0 (0,M)).2:=by
 obtain⟨T,hT⟩:∃T,T=Mx.red cN 0 (0,M):=⟨_,rfl⟩;rw[<-hT];generalize hl:M.length=m at*;have H0:Hid (R2 w w B gm L n m e T cN 0 0 gs cs M):=⟨⟨h,Below.refl _ _,hl⟩,Nat.zero_le _,hT.symm,by rw[Nat.pow_zero,Nat.mul_one];exact hb⟩;have HF:=Lib.hid hf;clear h hb hl hT hf
 go_enter Tryz.func145,Tryz.ntmps145
 go_wp2_with fail
 go_loopg [5,6] cN (fun kk s5 s6 wr=>∃(r c:Nat) (gs cs:Nat->Nat) (M:Mx.Mat),kk=cN-c/\c<=cN/\r<=m/\s5= .int .i64 ((r:Int))/\s6= .int .i64 ((c:Int))/\Hid (R2 w wr B gm L n m e T cN c r gs cs M))
 case atStart=>exact⟨0,0,gs,cs,M,by omega,by omega,by omega,rfl,rfl,H0⟩
 case round=>
  clear H0;obtain⟨r,c,gs,cs,M,rfl,hcN,hrm,rfl,rfl,HR⟩:=hrel;by_cases hcc:c<cN
  ·have hcc2:(c:Int)<(cN:Int):=by omega
   have hcc3:decide ((c:Int)<(cN:Int))=true:=by rw[decide_eq_true_iff];exact hcc2
   by_cases hrr:r<m
   ·have hrr2:(r:Int)<(m:Int):=by omega
    have hrr3:decide ((r:Int)<(m:Int))=true:=by rw[decide_eq_true_iff];exact hrr2
    go_upto_block 2 with fail
    go_cut [7]from 12 to 176 (fun _ wx=>∃(gs cs:Nat->Nat),Hid (R1 w wx B gm L n m gs cs (Mx.bQ r c M)))
    case first=>
     as_aux_lemma=>
      have hK0:Mx.Jn (2^(e*11^(c+1))) r c M:=by
       refine .inl ⟨2^(e*11^c),Nat.pow_pos (by omega),HR.out.bd,Nat.le_trans (Mx.yh _) (Nat.le_trans (Mx.pO ?_) (Nat.le_of_eq ?_))⟩
       ·have:1<=11^c:=Nat.pow_pos (by omega);exact Nat.le_trans he (Nat.le_mul_of_pos_right e this)
       ·rw[Mx.e11]
      have hKf:2*(e*11^(c+1))<=6000000000000:=Nat.le_trans (Nat.mul_le_mul_left 2 (Nat.mul_le_mul_left e (Nat.pow_le_pow_right (by omega) (by omega)))) HF.out;generalize e*11^(c+1)=E at*;have HJ:Hid (R1 w wr B gm L n m gs cs M/\Mx.Jn (2^E) r c M):=⟨HR.out.r1,hK0⟩;generalize hMc:Mx.bQ r c M=Mc;have HM0:Hid (Mx.bQ r c M=Mc):=hMc;clear hMc hK0 HR
      go_wp2_with fail
      go_loopg [7] (Mx.eC r c M) (fun kk _ wx=>∃(gs cs:Nat->Nat) (M2:Mx.Mat),kk=Mx.eC r c M2/\Hid (R1 w wx B gm L n m gs cs M2/\Mx.Jn (2^E) r c M2)/\Hid (Mx.bQ r c M2=Mc))
      case atStart=>exact⟨gs,cs,M,rfl,HJ,HM0⟩
      case round=>
       clear HJ;obtain⟨gs,cs,M,rfl,HJ,HMc⟩:=hrel;have hBw:B<=wr.heap.size:=Nat.le_of_lt (Nat.lt_of_le_of_lt HJ.out.1.mo.b HJ.out.1.mo.lt)
       go_upto_block 4 with fail
       go_cut [7,8]from 23 to 122 (fun s7 s8 wy=>s7= .int .i64 (uV (Mx.pick r c M).1)/\s8= .int .i64 (((Mx.pick r c M).2:Int))/\Hid (R1 w wy B gm L n m gs cs M))
       case first=>
        as_aux_lemma=>
         go_wp2_with fail
         go_loopg [7,8,9] (m-r) (fun kk s7 s8 s9 wy=>∃i:Nat,r<=i/\i<=m/\kk=m-i/\s7= .int .i64 (uV (Mx.scan c r M (i-r)).1)/\s8= .int .i64 (((Mx.scan c r M (i-r)).2:Int))/\s9= .int .i64 ((i:Int))/\Hid (R1 w wy B gm L n m gs cs M))
         case atStart=>exact⟨r,Nat.le_refl _,hrm,rfl,by rw[Nat.sub_self];rfl,by rw[Nat.sub_self];rfl,rfl,HJ.out.1⟩
         case round=>
          obtain⟨i,hri,him,rfl,rfl,rfl,rfl,HW⟩:=hrel;by_cases hi:i<m
          ·have hi2:(i:Int)<(m:Int):=by omega
           obtain⟨x,k0,x0,x1,xz,xl⟩:=HW.out.mo.elem (i:=i) (j:=c) (by rw[HW.out.len];exact hi) (by omega);have HX:=Lib.hid xz;have fx:Fit (Mx.at' M i c):=bc (Mx.lP HJ.out.2 i c) (by omega);have FX:=Lib.hid fx;have hcn:(c:Int)<(n:Int):=by omega
           obtain⟨xs,xa,xn,xc⟩:=x;simp only[]at x0 x1;clear xz fx;have hBy:B<=wr.heap.size:=Nat.le_of_lt (Nat.lt_of_le_of_lt HW.out.mo.b HW.out.mo.lt);have gml:gm<wr.heap.size:=HW.out.mo.lt;have hsc2:(Mx.scan c r M (i-r)).2<=i-r:=Mx.um c r M (i-r);by_cases hz:Mx.at' M i c=0
           ·have hd:decide (Mx.at' M i c=0)=true:=by rw[decide_eq_true_iff];exact hz
            have HZ:=Lib.hid (Mx.zB (c:=c) (M:=M) hri hz);have ZE:=Lib.hid (fun w hx=>hd▸cQ ⟨xs,xa,xn,xc⟩ (Mx.at' M i c) w hx);clear hz hd
            go_wp2_with ((go_at_call 95;(with_reducible refine(ZE.out _ ?_).mono ?_);(exact HX.out.below (B:=wr.heap.size) an (Nat.le_refl _));rintro e w1 ⟨rfl,hb1⟩;obtain⟨g1,rfl⟩:=mob hb1;clear hb1))
            go_roundg (m-(i+1))
            case measure=>omega
            case rel=>exact⟨i+1,by omega,by omega,rfl,by rw[HZ.out],by rw[HZ.out],by go_num,HW.out.ext hBy an⟩
           ·have hd:decide (Mx.at' M i c=0)=false:=by rw[decide_eq_false_iff_not];exact hz
            have ZE:=Lib.hid (fun w hx=>hd▸cQ ⟨xs,xa,xn,xc⟩ (Mx.at' M i c) w hx);have NZ:=Lib.hid hz;clear hz hd
            cases hp:(Mx.scan c r M (i-r)).1 with
            |none=>
             have HS:=Lib.hid (Mx.zC hri NZ.out hp);generalize(Mx.scan c r M (i-r)).2=q at*;clear hp;simp only[uV]
             go_upto_region 11 with((go_at_call 95;(with_reducible refine(ZE.out _ ?_).mono ?_);(exact HX.out.below (B:=wr.heap.size) an (Nat.le_refl _));rintro e w1 ⟨rfl,hb1⟩;obtain⟨g1,rfl⟩:=mob hb1;clear hb1))
             (apply Own3.bV 21 [.inl _, .inl _, .inl _, .inl undef, .inl undef, .inl undef, .inl undef, .inl undef, .inl undef, .inl undef, .inl undef, .inl undef, .inl undef, .inl undef, .inl undef, .inl undef, .inl undef, .inl undef, .inl undef, .inl undef, .inl undef] ae ae;simp only[List.take_succ_cons,List.take_zero,List.drop_succ_cons,List.drop_zero];refine zs1 ?_;refine zs1 ?_;refine zs1 ?_;refine ez ?_;refine ez ?_;refine ez ?_;refine ez ?_;refine ez ?_;refine ez ?_;refine ez ?_;refine ez ?_;refine ez ?_;refine ez ?_;refine ez ?_;refine ez ?_;refine ez ?_;refine ez ?_;refine ez ?_;refine ez ?_;refine ez ?_;refine ez ?_;refine Own3.fL ?_;intro w11 hw11;have hB11:=hw11.1;clear hw11;obtain⟨g11,rfl⟩:=mob hB11;clear hB11)
             go_wp2_with fail
             go_roundg (m-(i+1))
             case measure=>omega
             case rel=>exact⟨i+1,by omega,by omega,rfl,by rw[HS.out];rfl,by rw[HS.out];go_num,by go_num,HW.out.ext hBy an⟩
            |some t=>
             have HT0:=Lib.hid ((Mx.cS c r M (i-r)).yes t hp);have htr:t<m:=by have:=HT0.out.2.1;omega
             have htr2:(t:Int)<(m:Int):=by omega
             have hd:decide ((t:Int)<0)=false:=by rw[decide_eq_false_iff_not];omega
             have hd2:¬(t:Int)<0:=by omega
             obtain⟨y,kt,y0,y1,yz,yl⟩:=HW.out.mo.elem (i:=t) (j:=c) (by rw[HW.out.len];exact htr) (by omega);have HY:=Lib.hid yz;have fy:Fit (Mx.at' M t c):=bc (Mx.lP HJ.out.2 t c) (by omega);have FY:=Lib.hid fy;have F1:Hid (Fit ((Mx.at' M i c).natAbs:Int)):=bc (by rw[Int.natAbs_natCast];exact Mx.lP HJ.out.2 i c) (by omega);have F2:Hid (Fit ((Mx.at' M t c).natAbs:Int)):=bc (by rw[Int.natAbs_natCast];exact Mx.lP HJ.out.2 t c) (by omega);obtain⟨ys,ya,yn,yc⟩:=y;simp only[]at y0 y1;have SG:Hid (((Mx.at' M i c).natAbs<(Mx.at' M t c).natAbs->sgn (((Mx.at' M i c).natAbs:Int)-((Mx.at' M t c).natAbs:Int))<0)/\(¬(Mx.at' M i c).natAbs<(Mx.at' M t c).natAbs->¬sgn (((Mx.at' M i c).natAbs:Int)-((Mx.at' M t c).natAbs:Int))<0)):=by
              refine⟨fun h=>?_,fun h=>?_⟩
              ·unfold sgn;rw[if_neg (by omega),if_pos (by omega)];omega
              ·unfold sgn;by_cases h0:((Mx.at' M i c).natAbs:Int)-((Mx.at' M t c).natAbs:Int)=0
               ·rw[if_pos h0];omega
               ·rw[if_neg h0,if_neg (by omega)];omega
             have HLT:=Lib.hid (Mx.vY hri NZ.out hp);have HGE:=Lib.hid (Mx.vZ hri NZ.out hp);generalize(Mx.scan c r M (i-r)).2=q at*;clear hp fy yz;simp only[uV]
             go_upto_region 11 with((go_at_call 95;(with_reducible refine(ZE.out _ ?_).mono ?_);(exact HX.out.below (B:=wr.heap.size) an (Nat.le_refl _));rintro e w1 ⟨rfl,hb1⟩;obtain⟨g1,rfl⟩:=mob hb1;clear hb1))
             have hBa:Below wr.heap.size wr (more wr g1):=by exact bel
             have HBA:=Lib.hid hBa;clear hBa
             (apply Own3.bV 21 [.inl _, .inl _, .inl _, .inl _, .inl _, .inl _, .inl _, .inl _, .inl _, .inl _, .inr (rIZ (((Mx.at' M i c).natAbs:Int))), .inl _, .inl _, .inl _, .inl _, .inl _, .inl _, .inl _, .inr (rIZ (((Mx.at' M t c).natAbs:Int))), .inl _, .inl _] ae ae;simp only[List.take_succ_cons,List.take_zero,List.drop_succ_cons,List.drop_zero];refine dJ ?_;refine dJ ?_;refine dJ ?_;refine dJ ?_;refine dJ ?_;refine dJ ?_;refine dJ ?_;refine dJ ?_;refine dJ ?_;refine dJ ?_;(refine Own3.bU rfl (fun K hK=>?_) (fun x111=>?_);(focus(go_simp;clear hK K;intro w' hw' hcb';first|(go_at_call 185;(first|exact bj (iC ⟨xs,xa,xn,xc⟩ (Mx.at' M i c) FX.out _ ((HX.out.below (Below.trans HBA.out ((Ext.below hw').mono HBA.out.size)) (Nat.le_refl _)).ip))|exact bj (iC ⟨ys,ya,yn,yc⟩ (Mx.at' M t c) FY.out _ ((HY.out.below (Below.trans HBA.out ((Ext.below hw').mono HBA.out.size)) (Nat.le_refl _)).ip))))));simp only[rIZ,Act.put,List.setIfInBounds_toArray,List.set_cons_succ,List.set_cons_zero]);refine dJ ?_;refine dJ ?_;refine dJ ?_;refine dJ ?_;refine dJ ?_;refine dJ ?_;refine dJ ?_;(refine Own3.bU rfl (fun K hK=>?_) (fun x112=>?_);(focus(go_simp;clear hK K;intro w' hw' hcb';first|(go_at_call 185;(first|exact bj (iC ⟨xs,xa,xn,xc⟩ (Mx.at' M i c) FX.out _ ((HX.out.below (Below.trans HBA.out ((Ext.below hw').mono HBA.out.size)) (Nat.le_refl _)).ip))|exact bj (iC ⟨ys,ya,yn,yc⟩ (Mx.at' M t c) FY.out _ ((HY.out.below (Below.trans HBA.out ((Ext.below hw').mono HBA.out.size)) (Nat.le_refl _)).ip))))));simp only[Act.put,List.setIfInBounds_toArray,List.set_cons_succ,List.set_cons_zero]);refine dJ ?_;refine dJ ?_;refine Own3.fL ?_;intro w11 hw11;have hB11:=hw11.1;have HY111:Hid (IZ w11 x111 (((Mx.at' M i c).natAbs:Int))):=Lib.hid (hw11.get (u:=10) (Or.inr (Or.inl ⟨rfl,rfl⟩)));have HY112:Hid (IZ w11 x112 (((Mx.at' M t c).natAbs:Int))):=Lib.hid (hw11.get (u:=18) (Or.inl ⟨rfl,rfl⟩));clear hw11;obtain⟨g11,rfl⟩:=mob hB11;clear hB11)
             clear HY111 HY112;by_cases hlt:(Mx.at' M i c).natAbs<(Mx.at' M t c).natAbs
             ·have hs1:=SG.out.1 hlt;have hs2:decide (sgn (((Mx.at' M i c).natAbs:Int)-((Mx.at' M t c).natAbs:Int))<0)=true:=by rw[decide_eq_true_iff];exact hs1
              have HS:=Lib.hid (HLT.out hlt);clear hlt
              go_wp2_with fail
              go_roundg (m-(i+1))
              case measure=>omega
              case rel=>exact⟨i+1,by omega,by omega,rfl,by rw[HS.out];rfl,by rw[HS.out];go_num,by go_num,HW.out.ext hBy an⟩
             ·have hs1:=SG.out.2 hlt;have hs2:decide (sgn (((Mx.at' M i c).natAbs:Int)-((Mx.at' M t c).natAbs:Int))<0)=false:=by rw[decide_eq_false_iff_not];omega
              have HS:=Lib.hid (HGE.out hlt);clear hlt
              go_wp2_with fail
              go_roundg (m-(i+1))
              case measure=>omega
              case rel=>exact⟨i+1,by omega,by omega,rfl,by rw[HS.out];rfl,by rw[HS.out];go_num,by go_num,HW.out.ext hBy an⟩
          ·have hi2:¬(i:Int)<(m:Int):=by omega
           obtain rfl:i=m:=by omega
           go_wp2_with fail
           go_meet
           case rel=>exact⟨by unfold Mx.pick;rw[HJ.out.1.len],by unfold Mx.pick;rw[HJ.out.1.len],HW⟩
       case rest=>
        obtain⟨rfl,rfl,HW⟩:=hcut;have hBc:B<=wc.heap.size:=Nat.le_of_lt (Nat.lt_of_le_of_lt HW.out.mo.b HW.out.mo.lt);have gml:gm<wc.heap.size:=HW.out.mo.lt
        cases hp:(Mx.pick r c M).1 with
        |none=>
         have hq:(Mx.pick r c M).2=0:=((Mx.cS c r M (M.length-r)).no hp).1;rw[hq];have HE:=Lib.hid ((Mx.ni hp).symm.trans HMc.out);clear hp hq
         go_wp2_with fail
         go_meet
         case rel=>exact⟨gs,cs,by rw[HM0.out,<-HE.out];exact HW⟩
        |some t=>
         have SC:=Lib.hid ((Mx.cS c r M (M.length-r)).yes t hp);have htm:t<m:=by have:=SC.out.2.1;have:=HW.out.len;omega
         have htm2:(t:Int)<(m:Int):=by omega
         have hrt:r<=t:=SC.out.1;obtain⟨q,hq⟩:∃q,(Mx.pick r c M).2=q:=⟨_,rfl⟩;have hq0:1<=q:=by have:=SC.out.2.2.2.2.1;unfold Mx.pick at hq;omega
         have HO:=Lib.hid (fun (h:q=1)=>Mx.oV hp (hq.trans h));have HS:=Lib.hid (fun (h:q≠1)=>Mx.nh HW.out.mo.rc hp (by rw[hq];exact h));have HN:=Lib.hid (fun (h:q≠1)=>Mx.fb HW.out.mo.rc hp (by rw[hq];exact h));have HJ2:=Lib.hid (fun (h:q≠1)=>Mx.rK HW.out.mo.rc HJ.out.2 hp (by rw[hq];exact h));rw[hq];have kr:=(HW.out.mo.hc r ox).1;have kt:=(HW.out.mo.hc t (by rw[HW.out.len];exact htm)).1;have fr:=HW.out.mo.fr r;have ft:=HW.out.mo.fr t;have hMS:=HW.out.mo.swp (i:=r) (j:=t) ox (by rw[HW.out.len];exact htm);have HMS:=Lib.hid hMS;clear hMS hp hq;simp only[uV];have q1:¬(q:Int)=0:=by omega
         have q2:¬q=0:=by omega
         have q3:((q:Int)==0)=false:=by rw[beq_eq_false_iff_ne];exact q1
         go_upto_region 14 with fail
         go_cut [10]from 23 to 122 (fun _ wy=>Hid (R1 w wy B gm L n m (ix gs r t) (ix cs r t) (Mx.swp M r t)))
         case first=>
          as_aux_lemma=>
           have HRS:=Lib.hid (HW.out.swp hrr htm);by_cases htr:t=r
           ·subst htr
            go_region
            all_goals(go_wp2_with fail;go_meet)
            case rel=>exact HRS.out
           ·have htr2:¬r=t:=by omega
            go_region
            all_goals(go_wp2_with fail;go_meet)
            case rel=>exact HRS.out
         case rest=>
          have HW2:=hcut;clear kr kt fr ft HW HMS gml hBc hcut;generalize ix gs r t=gs2 at HW2;generalize ix cs r t=cs2 at HW2;by_cases hq1:q=1
          ·have HE:=Lib.hid ((HO.out hq1).symm.trans HMc.out);subst hq1;clear HO HS HN HJ2
           go_wp2_with fail
           go_meet
           case rel=>exact⟨gs2,cs2,by rw[HM0.out,<-HE.out];exact HW2⟩
          ·have q4:¬(q:Int)=1:=by omega
           have q5:((q:Int)==1)=false:=by rw[beq_eq_false_iff_ne];exact q4
           have HE:=Lib.hid ((HS.out hq1).symm.trans HMc.out);have HN1:=Lib.hid (HN.out hq1).2.2.2;have HJ3:=Lib.hid (HJ2.out hq1);have hpiv:Mx.at' (Mx.swp M r t) r c≠0:=by
            have h1:=SC.out.2.2.1;have h2:=(HN.out hq1);rw[Mx.cg h2.1 h2.2.1];split
            ·rename_i e;rw[e];exact h1
            ·rw[if_pos rfl];exact h1
           have HPV:Hid (Mx.at' (Mx.swp M r t) r c≠0):=hpiv;have HLM:=Lib.hid HJ.out.1.len;unfold Mx.elim at HE HN1 HJ3;generalize hS:Mx.swp M r t=S at*;have HSL:Hid (S.length=m):=HW2.out.len;have HRC:Hid (Mx.Rc n S):=HW2.out.mo.rc;clear HO HS HN HJ2 hpiv SC hS
           go_wp2_with fail
           go_loopg [10] (m-(r+1)) (fun kk s10 wy=>∃i:Nat,r+1<=i/\i<=m/\kk=m-i/\s10= .int .i64 ((i:Int))/\Hid (R1 w wy B gm L n m gs2 cs2 (Mx.aw r c (r+1) S (i-(r+1)))))
           case atStart=>exact⟨r+1,Nat.le_refl _,hrr,by omega,by go_num,by rw[Nat.sub_self];exact HW2⟩
           case round=>
            clear HW2;obtain⟨i,hri,him,rfl,rfl,HW⟩:=hrel;have hBy:B<=wr.heap.size:=Nat.le_of_lt (Nat.lt_of_le_of_lt HW.out.mo.b HW.out.mo.lt);have gml:gm<wr.heap.size:=HW.out.mo.lt;have hcn:(c:Int)<(n:Int):=by omega
            by_cases hi:i<m
            ·have hi2:(i:Int)<(m:Int):=by omega
             have hrc:Mx.Rc n S:=HRC.out;have HZ:=Lib.hid (fun (h:Mx.at' (Mx.aw r c (r+1) S (i-(r+1))) i c=0)=>(show Mx.aw r c (r+1) S (i+1-(r+1))=Mx.aw r c (r+1) S (i-(r+1)) by
              rw[show i+1-(r+1)=(i-(r+1))+1 by omega];exact Mx.yq hrc (by rw[HSL.out];exact hrr) (by omega) qL (by rw[show r+1+(i-(r+1))=i by omega];exact h)))
             have HNX:Hid (Mx.aw r c (r+1) S (i+1-(r+1))=(Mx.aw r c (r+1) S (i-(r+1))).set i (Mx.bN (Mx.rw (Mx.aw r c (r+1) S (i-(r+1))) r) c (Mx.rw (Mx.aw r c (r+1) S (i-(r+1))) i))):=by
              show _=_;rw[show i+1-(r+1)=(i-(r+1))+1 by omega,Mx.gF (by omega) qL,show r+1+(i-(r+1))=i by omega]
             have hpn:Mx.at' (Mx.aw r c (r+1) S (i-(r+1))) r c≠0:=by
              unfold Mx.at';rw[Mx.cD r c (r+1) S (i-(r+1)) qL r,if_neg (by omega)];exact HPV.out
             have HBN:=Lib.hid (HJ3.out.1 (i-(r+1)) (by rw[HLM.out];omega));generalize Mx.aw r c (r+1) S (i-(r+1))=N at*;obtain⟨x,k0,x0,x1,xz,xl⟩:=HW.out.mo.elem (i:=i) (j:=c) (by rw[HW.out.len];exact hi) (by omega);obtain⟨y,kr,y0,y1,yz,yl⟩:=HW.out.mo.elem (i:=r) (j:=c) ox (by omega);have HX:=Lib.hid xz;have HY:=Lib.hid yz;have FX:Hid (Fit (Mx.at' N i c)):=bc (HBN.out i c) (by omega);have FY:Hid (Fit (Mx.at' N r c)):=bc (HBN.out r c) (by omega);obtain⟨xs,xa,xn,xc⟩:=x;obtain⟨ys,ya,yn,yc⟩:=y;simp only[]at x0 x1 y0 y1;clear xz yz hrc hpn;by_cases hz:Mx.at' N i c=0
             ·have hd:decide (Mx.at' N i c=0)=true:=by rw[decide_eq_true_iff];exact hz
              have ZE:=Lib.hid (fun w hx=>hd▸cQ ⟨xs,xa,xn,xc⟩ (Mx.at' N i c) w hx);have HE2:=Lib.hid (HZ.out hz);clear hz hd HZ HNX
              go_wp2_with ((go_at_call 95;(with_reducible refine(ZE.out _ ?_).mono ?_);(exact HX.out.below (B:=wr.heap.size) an (Nat.le_refl _));rintro e w1 ⟨rfl,hb1⟩;obtain⟨g1,rfl⟩:=mob hb1;clear hb1))
              go_roundg (m-(i+1))
              case measure=>omega
              case rel=>exact⟨i+1,by omega,by omega,rfl,by go_num,by first|(rw[HE2.out];exact HW.out.ext hBy an)|(show R1 _ _ _ _ _ _ _ _ _ _;rw[HE2.out];exact HW.out.ext hBy an)⟩
             ·have hd:decide (Mx.at' N i c=0)=false:=by rw[decide_eq_false_iff_not];exact hz
              have ZE:=Lib.hid (fun w hx=>hd▸cQ ⟨xs,xa,xn,xc⟩ (Mx.at' N i c) w hx);clear hz hd HZ
              go_upto_region 20 with((go_at_call 95;(with_reducible refine(ZE.out _ ?_).mono ?_);(exact HX.out.below (B:=wr.heap.size) an (Nat.le_refl _));rintro e w1 ⟨rfl,hb1⟩;obtain⟨g1,rfl⟩:=mob hb1;clear hb1))
              have hBa:Below wr.heap.size wr (more wr g1):=by exact bel
              have HBA:=Lib.hid hBa;clear hBa;have hqb:(Mx.at' N i c/Mx.at' N r c).natAbs<=2^E:=Nat.le_trans (Mx.fV _ _) (HBN.out i c);have FQ:Hid (Fit (Mx.at' N i c/Mx.at' N r c)):=bc hqb (by omega);have HQB:=Lib.hid hqb;clear hqb
              (apply Own3.bV 24 [.inl _, .inl _, .inl _, .inl _, .inl _, .inl _, .inl _, .inl _, .inl _, .inl _, .inl _, .inl _, .inl _, .inl _, .inl _, .inl _, .inl _, .inl _, .inr (rIZ (Mx.at' N i c/Mx.at' N r c)), .inr (rIZ (-(Mx.at' N i c/Mx.at' N r c))), .inl _, .inl _, .inl _, .inl _] ae ae;simp only[List.take_succ_cons,List.take_zero,List.drop_succ_cons,List.drop_zero];refine zs1 ?_;refine zs1 ?_;refine zs1 ?_;refine zs1 ?_;refine zs1 ?_;refine zs1 ?_;refine zs1 ?_;refine zs1 ?_;refine zs1 ?_;refine zs1 ?_;refine zs1 ?_;refine zs1 ?_;refine zs1 ?_;refine zs1 ?_;refine zs1 ?_;refine zs1 ?_;refine zs1 ?_;refine zs1 ?_;(refine Own3.bU rfl (fun K hK=>?_) (fun x201=>?_);(focus(go_simp;clear hK K;intro w' hw' hcb';first|(go_at_call 121;exact(bj (dL ⟨xs,xa,xn,xc⟩ ⟨ys,ya,yn,yc⟩ (Mx.at' N i c) (Mx.at' N r c) FX.out FY.out _ ((HX.out.below (Below.trans HBA.out ((Ext.below hw').mono HBA.out.size)) (Nat.le_refl _)).ip) ((HY.out.below (Below.trans HBA.out ((Ext.below hw').mono HBA.out.size)) (Nat.le_refl _)).ip))))|(go_at_call 102;(have hf:=hcb'.get (u:=18) cY;exact bj (eJ x201 _ FQ.out _ (IZ.ip (show IZ w' x201 (Mx.at' N i c/Mx.at' N r c)from hf)))))));simp only[rIZ,Act.put,List.setIfInBounds_toArray,List.set_cons_succ,List.set_cons_zero]);(refine Own3.bU rfl (fun K hK=>?_) (fun x202=>?_);(focus(go_simp;clear hK K;intro w' hw' hcb';first|(go_at_call 121;exact(bj (dL ⟨xs,xa,xn,xc⟩ ⟨ys,ya,yn,yc⟩ (Mx.at' N i c) (Mx.at' N r c) FX.out FY.out _ ((HX.out.below (Below.trans HBA.out ((Ext.below hw').mono HBA.out.size)) (Nat.le_refl _)).ip) ((HY.out.below (Below.trans HBA.out ((Ext.below hw').mono HBA.out.size)) (Nat.le_refl _)).ip))))|(go_at_call 102;(have hf:=hcb'.get (u:=18) cY;exact bj (eJ x201 _ FQ.out _ (IZ.ip (show IZ w' x201 (Mx.at' N i c/Mx.at' N r c)from hf)))))));simp only[Act.put,List.setIfInBounds_toArray,List.set_cons_succ,List.set_cons_zero]);refine zs1 ?_;refine zs1 ?_;refine zs1 ?_;refine zs1 ?_;refine Own3.fL ?_;intro w20 hw20;have hB20:=hw20.1;have HY201:Hid (IZ w20 x201 (Mx.at' N i c/Mx.at' N r c)):=Lib.hid (hw20.get (u:=18) (Or.inr (Or.inl ⟨rfl,rfl⟩)));have HY202:Hid (IZ w20 x202 (-(Mx.at' N i c/Mx.at' N r c))):=Lib.hid (hw20.get (u:=19) (Or.inl ⟨rfl,rfl⟩));clear hw20;obtain⟨g20,rfl⟩:=mob hB20;clear hB20)
              clear HY201;have hBb:Below wr.heap.size wr (more (more wr g1) g20):=by exact bel
              have hW20:=HW.out.ext hBy hBb;have hs20:wr.heap.size<=(more (more wr g1) g20).heap.size:=hBb.size;have gml2:gm<(more (more wr g1) g20).heap.size:=Nat.lt_of_lt_of_le gml hs20;have hlen1:(Mx.rw N i).length=n:=HW.out.mo.rc.rw (by rw[HW.out.len];exact hi);have hlen2:(Mx.rw N r).length=n:=HW.out.mo.rc.rw ox;have hri3:r≠i:=by omega
              have AD:=Lib.hid (uw x202 (-(Mx.at' N i c/Mx.at' N r c)) (gs2 i) (gs2 r) 0 n (cs2 i) (cs2 r) (Mx.rw N i) (Mx.rw N r) hlen1 hlen2 HW.out.mo.n0 (by omega) (bc (e:=E) xv (by omega)) (oP HBN.out hKf _ xv) (hW20.mo.dj r i (by rw[hW20.len];exact hrr) (by rw[hW20.len];exact hi) hri3) _ HY202.out (hW20.mo.hc i (by rw[hW20.len];exact hi)).2.2.2.2 (hW20.mo.hc r (by rw[hW20.len];exact hrr)).2.2.2.2.ra);have HW20:=Lib.hid hW20;have HL12:=Lib.hid (Mx.iy (Mx.rw N r) (Mx.rw N i) c (by omega));clear hBb hW20 hlen2 HY202
              go_wp2_with (first|(go_at_call 160;(with_reducible refine AD.out.mono ?_);rintro e w22 ⟨rfl,hC22,hR22⟩;have HC22:=Lib.hid (And.intro hC22 hR22);clear hC22 hR22))
              go_roundg (m-(i+1))
              case measure=>omega
              case rel=>
               refine⟨i+1,by omega,by omega,rfl,by go_num,?_⟩;show R1 _ _ _ _ _ _ _ _ _ _;rw[HNX.out];exact HW20.out.set hi (HL12.out.trans hlen1) HC22.out.1 HC22.out.2
            ·have hi2:¬(i:Int)<(m:Int):=by omega
             obtain rfl:i=m:=by omega
             have HW3:Hid (R1 w wr B gm L n i gs2 cs2 (Mx.aw r c (r+1) S (M.length-(r+1)))):=by rw[HLM.out];exact HW
             go_wp2_with fail
             go_roundg (Mx.eC r c (Mx.aw r c (r+1) S (S.length-(r+1))))
             case measure=>exact HN1.out
             case rel=>
              refine⟨gs2,cs2,_,rfl,⟨?_,HJ3.out.2⟩,HE.out⟩;rw[show S.length=M.length from HSL.out.trans HLM.out.symm];exact HW3.out
    case rest=>
     obtain⟨gs2,cs2,HW⟩:=hcut;have hBc:B<=wc.heap.size:=Nat.le_of_lt (Nat.lt_of_le_of_lt HW.out.mo.b HW.out.mo.lt);have gml:gm<wc.heap.size:=HW.out.mo.lt;have hcn:(c:Int)<(n:Int):=by omega
     have hX1:1<=2^(e*11^c):=Nat.pow_pos (by omega);have he6:6<=e*11^c:=Nat.le_trans he (Nat.le_mul_of_pos_right e (Nat.pow_pos (by omega)));have hnb:Mx.nb (2^(e*11^c))<=2^(e*11^(c+1)):=Nat.le_trans (Mx.pO he6) (Nat.le_of_eq (by rw[Mx.e11]));have hKf:2*(e*11^(c+1))<=6000000000000:=Nat.le_trans (Nat.mul_le_mul_left 2 (Nat.mul_le_mul_left e (Nat.pow_le_pow_right (by omega) (by omega)))) HF.out;have hrM:r<M.length:=by rw[HR.out.r1.len];exact hrr
     have hrcM:Mx.Rc n M:=HR.out.r1.mo.rc;have HAB:Hid (Mx.Bd (2^(e*11^(c+1))) (Mx.bQ r c M)):=Mx.rQ hrcM (.inl ⟨_,hX1,HR.out.bd,Nat.le_trans (Mx.yh _) hnb⟩);have HSB:Hid (Mx.Bd (2^(e*11^(c+1))) (Mx.step r c M).2):=(Mx.vT hrcM hrM hX1 HR.out.bd).mono hnb;have HEQ:Hid (Mx.red (cN-(c+1)) (c+1) (Mx.step r c M)=T):=by
      have h1:=HR.out.eq;rw[show cN-c=(cN-(c+1))+1 by omega,Mx.uv hrM]at h1;exact h1
     have HSZ:=Lib.hid (fun (h:Mx.at' (Mx.bQ r c M) r c=0)=>(show Mx.step r c M=(r,Mx.bQ r c M) by unfold Mx.step;simp only[];rw[if_pos h]));have HSN:=Lib.hid (fun (h:¬Mx.at' (Mx.bQ r c M) r c=0)=>(show Mx.step r c M=(r+1,Mx.fj r c (Mx.bB r c (Mx.bQ r c M))) by unfold Mx.step;simp only[];rw[if_neg h]));generalize Mx.step r c M=ST at*;generalize Mx.bQ r c M=A at*;generalize hE:e*11^(c+1)=E at*;have HE0:=Lib.hid hE;clear hX1 he6 hnb hrM hrcM HR hE;obtain⟨x,kr,x0,x1,xz,xl⟩:=HW.out.mo.elem (i:=r) (j:=c) ox (by omega);have HX:=Lib.hid xz;have FX:Hid (Fit (Mx.at' A r c)):=bc (HAB.out r c) (by omega);obtain⟨xs,xa,xn,xc⟩:=x;simp only[]at x0 x1;clear xz;by_cases hz:Mx.at' A r c=0
     ·have hd:decide (Mx.at' A r c=0)=true:=by rw[decide_eq_true_iff];exact hz
      have ZE:=Lib.hid (fun w hx=>hd▸cQ ⟨xs,xa,xn,xc⟩ (Mx.at' A r c) w hx);have HS:=Lib.hid (HSZ.out hz);clear hz hd HSZ HSN
      go_wp2_with ((go_at_call 95;(with_reducible refine(ZE.out _ ?_).mono ?_);(exact HX.out.below (B:=wc.heap.size) an (Nat.le_refl _));rintro e w1 ⟨rfl,hb1⟩;obtain⟨g1,rfl⟩:=mob hb1;clear hb1))
      go_roundg (cN-(c+1))
      case measure=>omega
      case rel=>
       refine⟨r,c+1,gs2,cs2,A,rfl,by omega,hrm,rfl,by go_num,HW.out.ext hBc an,hrm,?_,?_⟩
       ·have:=HEQ.out;rw[HS.out]at this;exact this
       ·have:=HSB.out;rw[HS.out]at this;rw[HE0.out];exact this
     ·have hd:decide (Mx.at' A r c=0)=false:=by rw[decide_eq_false_iff_not];exact hz
      have ZE:=Lib.hid (fun w hx=>hd▸cQ ⟨xs,xa,xn,xc⟩ (Mx.at' A r c) w hx);have HS:=Lib.hid (HSN.out hz);have SI:=Lib.hid (fun w hx=>mF ⟨xs,xa,xn,xc⟩ (Mx.at' A r c) FX.out w hx);clear hd HSZ HSN
      go_upto_if 139 with(first|(go_at_call 95;(with_reducible refine(ZE.out _ ?_).mono ?_);(exact HX.out.below (B:=wc.heap.size) an (Nat.le_refl _));rintro e w1 ⟨rfl,hb1⟩;obtain⟨g1,rfl⟩:=mob hb1;clear hb1)|(go_at_call 101;(with_reducible refine(SI.out _ ?_).mono ?_);(exact(HX.out.below (B:=wc.heap.size) an (Nat.le_refl _)).ip);rintro e w2 ⟨rfl,hb2⟩;obtain⟨g2,rfl⟩:=mob hb2;clear hb2))
      go_cut [7]from 12 to 176 (fun _ wx=>Hid (R1 w wx B gm L n m gs2 cs2 (Mx.bB r c A)))
      case first=>
       as_aux_lemma=>
        have hBb:Below wc.heap.size wc (more (more wc g1) g2):=by exact bel
        have HW20:=Lib.hid (HW.out.ext hBc hBb);clear hBb;by_cases hneg:Mx.at' A r c<0
        ·have hs1:sgn (Mx.at' A r c)<0:=by unfold sgn;rw[if_neg (by omega),if_pos hneg];omega
         have hs2:decide (sgn (Mx.at' A r c)<0)=true:=by rw[decide_eq_true_iff];exact hs1
         have hlen1:(Mx.rw A r).length=n:=HW.out.mo.rc.rw ox;have NG:=Lib.hid (vx (gs2 r) n (cs2 r) (Mx.rw A r) hlen1 (by omega) (fun z hz=>by
          obtain⟨j,hj⟩:=List.getElem?_of_mem hz;exact(oP (i:=r) (r:=r) HAB.out hKf 0 (by simp) j z z hj hj).1) HW.out.mo.n0 _ (HW20.out.mo.hc r (by rw[HW20.out.len];exact hrr)).2.2.2.2)
         have HSG:Hid (Mx.bB r c A=A.set r (Mx.neg (Mx.rw A r))):=by show _=_;unfold Mx.bB;rw[if_pos hneg]
         clear hneg
         go_wp2_with (first|(go_at_call 186;(with_reducible refine NG.out.mono ?_);rintro e w22 ⟨rfl,hC22,hR22⟩;have HC22:=Lib.hid (And.intro hC22 hR22);clear hC22 hR22))
         go_meet
         case rel=>
          show R1 _ _ _ _ _ _ _ _ _ _;rw[HSG.out];exact HW20.out.set hrr ((Mx.hH _).trans hlen1) HC22.out.1 HC22.out.2
        ·have hs1 : ¬ sgn (Mx.at' A r c) < 0 := by
          unfold sgn;by_cases h0:Mx.at' A r c=0
          ·rw[if_pos h0];omega
          ·rw[if_neg h0,if_neg hneg];omega
         have hs2:decide (sgn (Mx.at' A r c)<0)=false:=by rw[decide_eq_false_iff_not];exact hs1
         have HSG:Hid (Mx.bB r c A=A):=by show _=_;unfold Mx.bB;rw[if_neg hneg]
         clear hneg
         go_wp2_with fail
         go_meet
         case rel=>
          show R1 _ _ _ _ _ _ _ _ _ _;rw[HSG.out];exact HW20.out
      case rest=>
       have HW2:=hcut;have HSP:Hid (Mx.at' (Mx.bB r c A) r c≠0/\Mx.Bd (2^E) (Mx.bB r c A)):=by
        have hl:r<A.length:=by rw[HW.out.len];exact hrr
        refine⟨?_,Mx.rj HAB.out hl⟩;unfold Mx.bB;split
        ·rw[Mx.qu _ _ _ _ _ hl,if_pos rfl,Mx.mN];have:(Mx.rw A r).getD c 0=Mx.at' A r c:=rfl;omega
        ·exact hz
       have HRC:Hid (Mx.Rc n (Mx.bB r c A)):=HW2.out.mo.rc;have HSL:Hid ((Mx.bB r c A).length=m):=HW2.out.len;clear HW kr x0 x1 xl ZE SI HX hcut gml hz FX;unfold Mx.fj at HS;generalize Mx.bB r c A=S at*
       go_wp2_with fail
       go_loopg [146] r (fun kk s146 wy=>∃i:Nat,i<=r/\kk=r-i/\s146= .int .i64 ((i:Int))/\Hid (R1 w wy B gm L n m gs2 cs2 (Mx.aw r c 0 S i)))
       case atStart=>exact⟨0,Nat.zero_le _,rfl,rfl,HW2⟩
       case round=>
        clear HW2;obtain⟨i,hir,rfl,rfl,HW⟩:=hrel;have hBy:B<=wr.heap.size:=Nat.le_of_lt (Nat.lt_of_le_of_lt HW.out.mo.b HW.out.mo.lt);have gml:gm<wr.heap.size:=HW.out.mo.lt;by_cases hi:i<r
        ·have hi2:(i:Int)<(r:Int):=by omega
         have him:i<m:=by omega
         have him2:(i:Int)<(m:Int):=by omega
         have HNX:Hid (Mx.aw r c 0 S (i+1)=(Mx.aw r c 0 S i).set i (Mx.bN (Mx.rw (Mx.aw r c 0 S i) r) c (Mx.rw (Mx.aw r c 0 S i) i))):=by
          show _=_;rw[Mx.gF (by omega) qL,Nat.zero_add]
         have hrwi:Mx.rw (Mx.aw r c 0 S i) i=Mx.rw S i:=by rw[Mx.cD r c 0 S i qL i,if_neg (by omega)]
         have hrwr:Mx.rw (Mx.aw r c 0 S i) r=Mx.rw S r:=by rw[Mx.cD r c 0 S i qL r,if_neg (by omega)]
         rw[hrwi,hrwr]at HNX;have hai:Mx.at' (Mx.aw r c 0 S i) i c=Mx.at' S i c:=by unfold Mx.at';rw[hrwi]
         have har:Mx.at' (Mx.aw r c 0 S i) r c=Mx.at' S r c:=by unfold Mx.at';rw[hrwr]
         obtain⟨x,k0,x0,x1,xz,xl⟩:=HW.out.mo.elem (i:=i) (j:=c) (by rw[HW.out.len];exact him) (by omega);obtain⟨y,kr,y0,y1,yz,yl⟩:=HW.out.mo.elem (i:=r) (j:=c) ox (by omega);rw[hai]at xz;rw[har]at yz;have HX:=Lib.hid xz;have HY:=Lib.hid yz;have HRW:=Lib.hid (And.intro hrwi hrwr);have FX:Hid (Fit (Mx.at' S i c)):=bc (HSP.out.2 i c) (by omega);have FY:Hid (Fit (Mx.at' S r c)):=bc (HSP.out.2 r c) (by omega);have hqb:(Mx.at' S i c/Mx.at' S r c).natAbs<=2^E:=Nat.le_trans (Mx.fV _ _) (HSP.out.2 i c);have FQ:Hid (Fit (Mx.at' S i c/Mx.at' S r c)):=bc hqb (by omega);have HQB:=Lib.hid hqb;obtain⟨xs,xa,xn,xc⟩:=x;obtain⟨ys,ya,yn,yc⟩:=y;simp only[]at x0 x1 y0 y1;clear xz yz hai har hrwi hrwr hqb
         go_upto_region 27 with fail
         have HBA:Hid (Below wr.heap.size wr wr):=Below.refl _ _
         (apply Own3.bV 24 [.inl _, .inl _, .inl _, .inl _, .inl _, .inl _, .inl _, .inl _, .inl _, .inl _, .inl _, .inl _, .inl _, .inl _, .inl _, .inl _, .inl _, .inl _, .inr (rIZ (Mx.at' S i c/Mx.at' S r c)), .inr (rIZ (-(Mx.at' S i c/Mx.at' S r c))), .inl _, .inl _, .inl _, .inl _] ae ae;simp only[List.take_succ_cons,List.take_zero,List.drop_succ_cons,List.drop_zero];refine zs1 ?_;refine zs1 ?_;refine zs1 ?_;refine zs1 ?_;refine zs1 ?_;refine zs1 ?_;refine zs1 ?_;refine zs1 ?_;refine zs1 ?_;refine zs1 ?_;refine zs1 ?_;refine zs1 ?_;refine zs1 ?_;refine zs1 ?_;refine zs1 ?_;refine zs1 ?_;refine zs1 ?_;refine zs1 ?_;(refine Own3.bU rfl (fun K hK=>?_) (fun x201=>?_);(focus(go_simp;clear hK K;intro w' hw' hcb';first|(go_at_call 121;exact(bj (dL ⟨xs,xa,xn,xc⟩ ⟨ys,ya,yn,yc⟩ (Mx.at' S i c) (Mx.at' S r c) FX.out FY.out _ ((HX.out.below (Below.trans HBA.out ((Ext.below hw').mono HBA.out.size)) (Nat.le_refl _)).ip) ((HY.out.below (Below.trans HBA.out ((Ext.below hw').mono HBA.out.size)) (Nat.le_refl _)).ip))))|(go_at_call 102;(have hf:=hcb'.get (u:=18) cY;exact bj (eJ x201 _ FQ.out _ (IZ.ip (show IZ w' x201 (Mx.at' S i c/Mx.at' S r c)from hf)))))));simp only[rIZ,Act.put,List.setIfInBounds_toArray,List.set_cons_succ,List.set_cons_zero]);(refine Own3.bU rfl (fun K hK=>?_) (fun x202=>?_);(focus(go_simp;clear hK K;intro w' hw' hcb';first|(go_at_call 121;exact(bj (dL ⟨xs,xa,xn,xc⟩ ⟨ys,ya,yn,yc⟩ (Mx.at' S i c) (Mx.at' S r c) FX.out FY.out _ ((HX.out.below (Below.trans HBA.out ((Ext.below hw').mono HBA.out.size)) (Nat.le_refl _)).ip) ((HY.out.below (Below.trans HBA.out ((Ext.below hw').mono HBA.out.size)) (Nat.le_refl _)).ip))))|(go_at_call 102;(have hf:=hcb'.get (u:=18) cY;exact bj (eJ x201 _ FQ.out _ (IZ.ip (show IZ w' x201 (Mx.at' S i c/Mx.at' S r c)from hf)))))));simp only[Act.put,List.setIfInBounds_toArray,List.set_cons_succ,List.set_cons_zero]);refine zs1 ?_;refine zs1 ?_;refine zs1 ?_;refine zs1 ?_;refine Own3.fL ?_;intro w20 hw20;have hB20:=hw20.1;have HY201:Hid (IZ w20 x201 (Mx.at' S i c/Mx.at' S r c)):=Lib.hid (hw20.get (u:=18) (Or.inr (Or.inl ⟨rfl,rfl⟩)));have HY202:Hid (IZ w20 x202 (-(Mx.at' S i c/Mx.at' S r c))):=Lib.hid (hw20.get (u:=19) (Or.inl ⟨rfl,rfl⟩));clear hw20;obtain⟨g20,rfl⟩:=mob hB20;clear hB20)
         clear HY201;have hBb:Below wr.heap.size wr (more wr g20):=by exact bel
         have hW20:=HW.out.ext hBy hBb;have hs20:wr.heap.size<=(more wr g20).heap.size:=hBb.size;have gml2:gm<(more wr g20).heap.size:=Nat.lt_of_lt_of_le gml hs20;have hlen1:(Mx.rw S i).length=n:=HRC.out.rw (by rw[HSL.out];exact him);have hlen2:(Mx.rw S r).length=n:=HRC.out.rw (by rw[HSL.out];exact hrr);have hri3:r≠i:=by omega
         have hci:=(hW20.mo.hc i (by rw[hW20.len];exact him)).2.2.2.2;have hcr:=(hW20.mo.hc r (by rw[hW20.len];exact hrr)).2.2.2.2;rw[HRW.out.1]at hci;rw[HRW.out.2]at hcr;have AD:=Lib.hid (uw x202 (-(Mx.at' S i c/Mx.at' S r c)) (gs2 i) (gs2 r) 0 n (cs2 i) (cs2 r) (Mx.rw S i) (Mx.rw S r) hlen1 hlen2 HW.out.mo.n0 (by omega) (bc (e:=E) xv (by omega)) (oP HSP.out.2 hKf _ xv) (hW20.mo.dj r i (by rw[hW20.len];exact hrr) (by rw[hW20.len];exact him) hri3) _ HY202.out hci hcr.ra);have HW20:=Lib.hid hW20;have HL12:=Lib.hid (Mx.iy (Mx.rw S r) (Mx.rw S i) c (by omega));clear hBb hW20 hlen2 HY202 hci hcr
         go_wp2_with (first|(go_at_call 160;(with_reducible refine AD.out.mono ?_);rintro e w22 ⟨rfl,hC22,hR22⟩;have HC22:=Lib.hid (And.intro hC22 hR22);clear hC22 hR22))
         go_roundg (r-(i+1))
         case measure=>omega
         case rel=>
          refine⟨i+1,by omega,rfl,by go_num,?_⟩;show R1 _ _ _ _ _ _ _ _ _ _;rw[HNX.out];exact HW20.out.set him (HL12.out.trans hlen1) HC22.out.1 HC22.out.2
        ·have hi2:¬(i:Int)<(r:Int):=by omega
         obtain rfl:i=r:=by omega
         go_wp2_with fail
         go_roundg (cN-(c+1))
         case measure=>omega
         case rel=>
          refine⟨i+1,c+1,gs2,cs2,_,rfl,by omega,by omega,by go_num,by go_num,HW.out,by omega,?_,?_⟩
          ·have:=HEQ.out;rw[HS.out]at this;exact this
          ·have:=HSB.out;rw[HS.out]at this;rw[HE0.out];exact this
   ·have hrr2:¬(r:Int)<(m:Int):=by omega
    have hrr3:decide ((r:Int)<(m:Int))=false:=by rw[decide_eq_false_iff_not];exact hrr2
    have HT:Hid (T=(r,M)):=by
     have h1:=HR.out.eq;rw[Mx.lC (by rw[HR.out.r1.len];exact hrr)]at h1;exact h1.symm
    go_wp2_with fail
    go_ret
    refine⟨by rw[HT.out];rfl,HR.out.r1.bl,gs,cs,?_⟩;rw[HT.out];exact HR.out.r1.mo
  ·have hcc2:¬(c:Int)<(cN:Int):=by omega
   have hcc3:decide ((c:Int)<(cN:Int))=false:=by rw[decide_eq_false_iff_not];exact hcc2
   have HT:Hid (T=(r,M)):=by
    have h1:=HR.out.eq;rw[show cN-c=0 by omega]at h1;exact h1.symm
   go_wp2_with fail
   go_ret
   refine⟨by rw[HT.out];rfl,HR.out.r1.bl,gs,cs,?_⟩;rw[HT.out];exact HR.out.r1.mo
end
section
open Go.RowKit Go.BigFrame
attribute [local go_sem ↓] Go.wp_at_zero Go.wp_at_succ
theorem MR.row{w:World}{v:Value}{n:Nat}{M:Mx.Mat}(h:MR w v n M):∃a cap,v= .slice a M.length cap/\M.length<=cap/\Mx.Rc n M/\(M=[]\/∃gm om,a=some ⟨gm,om,none⟩/\gm<w.heap.size/\
  ∀i,i<M.length->∃b c,w.cell? ⟨gm,om+i,none⟩=some (.slice b n c)/\RV w (.slice b n c) n (Mx.rw M i)):=by
 obtain⟨a,cap,h1,h2,h3,h4⟩:=h;refine⟨a,cap,h1,h2,h3,?_⟩;rcases h4 with h4|⟨gm,om,e,hg,h5⟩
 ·exact .inl h4
 ·refine .inr ⟨gm,om,e,hg,fun i hi=>?_⟩;obtain⟨b,c,k1,k2,kA,k3⟩:=h5 i hi;exact⟨b,c,k1,b,c,rfl,k2,h3.rw hi,kA,k3⟩
theorem dE{M:Mx.Mat}{i:Nat}(h:i<M.length):M[i]?=some (Mx.rw M i):=by
 unfold Mx.rw;rw[List.getD_eq_getElem?_getD,List.getElem?_eq_getElem h];rfl
set_option maxRecDepth 10000 in
set_option maxHeartbeats 4000000 in
theorem pQ(m:List (List Int))(n:Nat)(v:Value)(hm:m.length<=1000000)(hn:n<=1000000)(w:World)(h:MR w v n m):
  Calls Tryz.prog 156 #[v] w (yL w n m):=by
 obtain⟨a,cap,rfl,_,hr,h4⟩:=h.row;have HRC:Hid (Mx.Rc n m):=hr;have hmk:=sG m.length (by omega);have H4:=Lib.hid h4;clear hr h4 h;generalize hml:m.length=q at*;have HQ:=Lib.hid hml;clear hml
 go_enter Tryz.func156,Tryz.ntmps156
 go_wp2_with fail
 go_loopw [11] (fun i wr=>∃(k:Nat) (gs cs:Nat->Nat),k<=q/\i= .int .i64 ((k:Int))/\Below w.heap.size w wr/\Hid (MB wr w.heap.size w.heap.size q gs cs n (m.take k)/\∀i,i<k->0<n->w.heap.size<gs i/\gs i<wr.heap.size)) (fun i _=>q-(intOf i).toNat)
 case atStart=>
  exact⟨0,id,id,by omega,rfl,by exact bel,MB.made w w.heap.size q n id id (Nat.le_refl _),fun i hi=>by omega⟩
 case round=>
  obtain⟨k,gs,cs,hk,rfl,hB,HR⟩:=hrel;have hlt:w.heap.size<wr.heap.size:=HR.out.1.lt;by_cases hkn:k<q
  ·have hkn2:(k:Int)<(q:Int):=by omega
   rcases H4.out with h0|⟨gm,om,ha,hal,hcc⟩
   ·have:=HQ.out;rw[h0]at this;simp at this;omega
   obtain⟨b,c,cz,hza⟩:=hcc k hkn;have cz2:=(hB.cell (p:=⟨gm,om+k,none⟩) hal).trans cz;subst ha;have HZA:=Lib.hid (hza.below hB (Nat.le_refl _));obtain⟨u,hu⟩:=HR.out.1.hl k hkn;have hfr:=HR.out.1.fr k;have HL:=Lib.hid (dE (M:=m) (i:=k) (by rw[HQ.out];exact hkn));clear hcc hza cz
   go_wp2_with (first|(go_at_call 189;(with_reducible refine(xW _ n (Mx.rw m k) hn _ ?_).mono ?_);(exact HZA.out.below (B:=wr.heap.size) an (Nat.le_refl _));rintro e w4 ⟨⟨b4,g4',c4,rfl,hc4,hA4,hy⟩,hb4⟩;have HY:=Lib.hid (And.intro hc4 (And.intro hA4 hy));clear hc4 hA4 hy;have HB4:=Lib.hid hb4;obtain⟨g4,rfl⟩:=mob hb4;clear hb4))
   go_roundw
   case rel=>
    have hkl:(m.take k).length=k:=by rw[List.length_take,HQ.out];omega
    have hp:=(HR.out.1.below HB4.out (Nat.le_refl _)).push (g:=g4') (c:=c4) (b:=b4) (zs:=Mx.rw m k) (by rw[hkl];exact hkn) (HRC.out.rw (by rw[HQ.out];exact hkn)) HY.out.1 HY.out.2.1 (fun h0=>⟨(HY.out.2.2 h0).1,(HY.out.2.2 h0).2.2,by have:=(HY.out.2.2 h0).2.1;omega,by have:=(HY.out.2.2 h0).2.1;omega,fun i hi=>by
     have h1:=(HR.out.2 i (by rw[hkl]at hi;exact hi) h0).2;have:=(HY.out.2.2 h0).2.1;omega⟩)
    rw[<-sf HL.out,hkl]at hp;have e5:(more wr g4).setCell ⟨w.heap.size,k,none⟩ (.slice b4 n c4)=more (wr.setCell ⟨w.heap.size,k,none⟩ (.slice b4 n c4)) g4:=gi _ _ _ _ hlt;rw[e5]at hp;refine⟨k+1,_,_,by omega,by go_num,by exact bel,hp,fun i hi h0=>?_⟩;have hsz:(more (wr.setCell ⟨w.heap.size,k,none⟩ (.slice b4 n c4)) g4).heap.size=(more wr g4).heap.size:=by simp
    rw[hsz];by_cases e:i=k
    ·rw[if_pos e];have h1:=(HY.out.2.2 h0).2.1;have h2:=(HY.out.2.2 h0).2.2.lt;omega
    ·rw[if_neg e];have h1:=HR.out.2 i (by omega) h0;have:wr.heap.size<=(more wr g4).heap.size:=HB4.out.size;omega
   case measure=>simp[intOf];omega
  ·obtain rfl:k=q:=by omega
   have hkn2:¬(k:Int)<(k:Int):=by omega
   go_wp2_with fail
   go_ret
   refine⟨⟨w.heap.size,gs,cs,k,by rw[HQ.out];rfl,by rw[HQ.out];exact Nat.le_refl _,?_⟩,hB⟩;have h1:=HR.out.1;rw[List.take_of_length_le (by rw[HQ.out];exact Nat.le_refl _)]at h1;rw[HQ.out];exact h1
set_option maxRecDepth 10000 in
theorem vz(a:Option Addr)(l cap:Nat)(w:World):
  Calls Tryz.prog 145 #[.slice a l cap,.int .i64 (0)] w fun e w'=>e= .returned (.int .i64 (0))/\Below w.heap.size w w':=by
 have hgd:decide ((0:Int)<0)=false:=by decide
 go_enter Tryz.func145,Tryz.ntmps145
 go_wp2_with fail
 refine wp_loop_rounds 1 ?_;rw[rounds_succ]
 go_wp2_with fail
 go_ret
 exact⟨rfl,by exact bel⟩
theorem Er{M:Mx.Mat}{k i:Nat}(h:i<k):Mx.rw (M.take k) i=Mx.rw M i:=by
 unfold Mx.rw;rw[List.getD_eq_getElem?_getD,List.getD_eq_getElem?_getD,List.getElem?_take_of_lt h]
theorem MB.EJ{w:World}{B gm L:Nat}{gs cs:Nat->Nat}{n:Nat}{M:Mx.Mat}(h:MB w B gm L gs cs n M){cap k:Nat}(hc:k<=cap)(hk:k<=M.length):MR w (.slice (some ⟨gm,0,none⟩) k cap) n (M.take k):=by
 have hl:(M.take k).length=k:=by rw[List.length_take];omega
 refine⟨_,cap,by rw[hl],by rw[hl];exact hc,fun r hr=>h.rc r (List.mem_of_mem_take hr),.inr ⟨gm,0,rfl,h.lt,fun i hi=>?_⟩⟩;rw[hl]at hi;obtain⟨b,h1,h2,hA,h3⟩:=h.hc i (by omega);rw[Nat.zero_add];refine⟨b,cs i,h1,h2,hA,?_⟩;by_cases h0:n=0
 ·exact .inl h0
 ·obtain⟨rfl,_,_,h4⟩:=h3 (by omega);rw[Er hi];exact .inr ⟨gs i,0,rfl,h4.ra⟩
theorem pJ{n:Nat}{M:Mx.Mat}(k c:Nat)(h:Mx.Rc n M):(Mx.red k c (0,M)).1<=M.length:=by
 have key:∀(k c:Nat) (s:Nat×Mx.Mat),Mx.Rc n s.2->s.1<=s.2.length->(Mx.red k c s).1<=(Mx.red k c s).2.length:=by
  intro k
  induction k with
  |zero=>exact fun c s _ h=>h
  |succ k ih=>
   intro c s hr h;unfold Mx.red;split
   ·rename_i hlt;have h1:=Mx.nA (c:=c) hr hlt;exact ih _ _ (h1.1.rc hr) (by rw[h1.1.len];have:=h1.2.2;omega)
   ·exact h
 have h1:=key k c (0,M) h (Nat.zero_le _);rw[(Mx.jo k c (0,M) h).len]at h1;exact h1
def HPost(w:World)(n:Nat)(M:Mx.Mat)(e:Ending)(w':World):Prop:=(∃v,e= .returned v/\MR w' v n M)/\Below w.heap.size w w'
set_option maxRecDepth 10000 in
set_option maxHeartbeats 4000000 in
theorem vB(M:Mx.Mat)(n e:Nat)(v:Value)(hm:M.length<=1000)(hn:n<=1000)(he:6<=e)(hf:2*(e*11^n)<=6000000000000)(hb:Mx.Bd (2^e) M)(w:World)(h:MR w v n M):
  Calls Tryz.prog 85 #[v] w (HPost w n ((Mx.red n 0 (0,M)).2.take (Mx.red n 0 (0,M)).1)):=by
 by_cases h0:M=[]
 ·subst h0;obtain⟨a,cap,rfl,_,_,_⟩:=h;rw[Mx.lC (by simp)];simp only[List.length_nil]
  go_enter Tryz.func85,Tryz.ntmps85
  go_wp2_with fail
  go_ret
  exact⟨⟨_,rfl,none,0,rfl,Nat.le_refl _,fun r hr=>by(cases hr),.inl rfl⟩,by exact bel⟩
 ·have CL:=Lib.hid (pQ M n v (by omega) (by omega) w h);have RC:Hid (Mx.Rc n M):=by obtain⟨_,_,_,_,h3,_⟩:=h;exact h3
  have HM0:0<M.length:=List.length_pos_iff.2 h0;have RE0:=Lib.hid (fun (B gm L cap:Nat) (gs cs:Nat->Nat) w hmo=>xV B gm L cap n n e gs cs M (Nat.le_refl _) hn hm he hf hb w hmo);have RL:=Lib.hid (pJ n 0 RC.out);have RLN:Hid ((Mx.red n 0 (0,M)).2.length=M.length):=(Mx.jo n 0 (0,M) RC.out).len;generalize hT:Mx.red n 0 (0,M)=T at*;have HT:=Lib.hid hT;obtain⟨rk,N⟩:=T;simp only[]at RE0 RL RLN;obtain⟨a,cap,rfl,_⟩:=h;have hm1:¬(M.length:Int)=0:=by omega
  have hm2:¬M.length=0:=by omega
  generalize hml:M.length=q at*;have HQ:=Lib.hid hml;have H0M:Hid (0<M.length):=by
   show 0<M.length;rw[hml];exact HM0
  clear hml h0 hT hb;have hq0:(0:Int)<(q:Int):=by omega
  by_cases hn0:n=0
  ·subst hn0
   go_enter Tryz.func85,Tryz.ntmps85
   go_wp2_with (first|(go_at_call 156;(with_reducible refine CL.out.mono ?_);rintro e w4 ⟨⟨gm,gs,cs,cp,rfl,hcp,hmb⟩,hb4⟩;have HY:=Lib.hid hmb;have k0:=(hmb.hc 0 H0M.out);obtain⟨b0,k0,_,_,_⟩:=k0;rw[HQ.out]at hcp⊢;have HB4:=Lib.hid hb4;clear hb4 hmb)|(go_at_call 145;(with_reducible refine(vz _ _ _ _).mono ?_);rintro e w5 ⟨rfl,hb5⟩;have HB5:=Lib.hid hb5;clear hb5))
   go_ret
   have e1:rk=0:=by have:=HT.out;unfold Mx.red at this;exact(Prod.mk.inj this).1.symm
   subst e1;exact⟨⟨_,rfl,_,cp,rfl,Nat.zero_le _,fun r hr=>by(simp at hr),.inl (by simp)⟩,HB4.out.trans (HB5.out.mono HB4.out.size)⟩
  ·have hrk:rk<=q:=RL.out;have hn1:0<n:=by omega
   go_enter Tryz.func85,Tryz.ntmps85
   go_wp2_with (first|(go_at_call 156;(with_reducible refine CL.out.mono ?_);rintro e w4 ⟨⟨gm,gs,cs,cp,rfl,hcp,hmb⟩,hb4⟩;have HY:=Lib.hid hmb;have k0:=(hmb.hc 0 H0M.out);obtain⟨b0,k0,_,_,_⟩:=k0;rw[HQ.out]at hcp⊢;have hrc:rk<=cp:=Nat.le_trans hrk hcp;have hrc2:(rk:Int)<=(cp:Int):=Int.ofNat_le.2 hrc;have HB4:=Lib.hid hb4;clear hb4 hmb)|(go_at_call 145;(with_reducible refine(RE0.out w.heap.size gm M.length cp gs cs _ (HY.out.mo (by omega))).mono ?_);rintro e w5 ⟨rfl,hb5,gs5,cs5,hmo5⟩;have HB5:=Lib.hid (And.intro hb5 hmo5);clear hb5 hmo5))
   go_ret
   exact⟨⟨_,rfl,HB5.out.2.mb.EJ hrc (by rw[RLN.out];exact hrk)⟩,HB4.out.trans HB5.out.1⟩
end
section
open Go.RowKit Go.BigFrame
attribute [local go_sem ↓] Go.wp_at_zero Go.wp_at_succ
def tv(n k:Nat):List Int:=(List.replicate n 0).set k 1
theorem za(n k:Nat):(tv n k).length=n:=by simp[tv]
end
section
open Go.RowKit Go.BigFrame
attribute [local go_sem ↓] Go.wp_at_zero Go.wp_at_succ
def lT(M:Mx.Mat):Mx.Mat:=(List.range M.length).map fun i=>Mx.rw M i++tv M.length i
theorem oQ(M:Mx.Mat):(lT M).length=M.length:=by simp[lT]
theorem B7{M:Mx.Mat}{k:Nat}(h:k<M.length):(lT M)[k]?=some (Mx.rw M k++tv M.length k):=by
 unfold lT;rw[List.getElem?_map,List.getElem?_range h];rfl
theorem wA{n:Nat}{M:Mx.Mat}(h:Mx.Rc n M):Mx.Rc (n+M.length) (lT M):=fun r hr=>by
 obtain⟨k,hk,rfl⟩:=List.mem_map.1 hr;rw[List.length_append,za,h.rw (List.mem_range.1 hk)]
def tk(n:Nat)(M:Mx.Mat):Mx.Mat:=M.map (List.take n)
theorem ny{n:Nat}{M:Mx.Mat}{i:Nat}:Mx.rw (tk n M) i=(Mx.rw M i).take n:=by
 unfold Mx.rw tk;rw[List.getD_eq_getElem?_getD,List.getD_eq_getElem?_getD,List.getElem?_map];cases M[i]?<;>simp
end
section
open Go.RowKit Go.BigFrame
attribute [local go_sem ↓] Go.wp_at_zero Go.wp_at_succ
instance decI64 (z:Int):Decidable (I64 z):=by unfold I64;exact inferInstance
def smv(z:Int):Int:=if I64 z then z else 0
theorem Gx(a b:Nat)(h:b<4294967296):(a*4294967296)|||b=a*4294967296+b:=by
 have:=Nat.two_pow_add_eq_or_of_lt (i:=32) (b:=b) h a;rw[show(2:Nat)^32=4294967296 from rfl,Nat.mul_comm]at this;exact this.symm
theorem Ga{l:List Nat}(h:l.length<=2):Dg.vl B32 l=l.getD 1 0*4294967296+l.getD 0 0:=by
 match l with
 |[]=>rfl
 |[x]=>simp[Dg.vl]
 |[x,y]=>simp[Dg.vl,B32,Nat.add_comm,Nat.mul_comm]
 |x::y::z::l=>simp at h
theorem zk{z:Int}(h:I64 z):smv z=z:=if_pos h
theorem qZ{z:Int}(h:¬I64 z):smv z=0:=if_neg h
theorem AA{z:Int}(h:I64 z):decide (I64 z)=true:=by rw[decide_eq_true_iff];exact h
theorem rN{z:Int}(h:¬I64 z):decide (I64 z)=false:=by rw[decide_eq_false_iff_not];exact h
def Hj(w:World)(z:Int)(e:Ending)(w':World):Prop:=e= .returned (.tuple #[.int .i64 (smv z),.bool (decide (I64 z))])/\Below w.heap.size w w'
set_option maxRecDepth 10000 in
set_option maxHeartbeats 8000000 in
theorem zm(x:IV)(z:Int)(fz:Fit z)(w:World)(hx:IP w x z):
  Calls Tryz.prog 120 #[.agg #[.bool x.s,.slice x.a x.n x.cap]] w (Hj w z):=by
 obtain⟨l,h1,rfl⟩:=hx;have bl:=cU h1.nf fz;have S1:=Lib.hid (fun w (h:IW w x l)=>cW x l (by omega) w h);have AT:=Lib.hid (fun i (hi:i<=10) w h=>nk l x.a l.length i (by omega) (by omega) h1.nf.dg w h);have H1:=Lib.hid h1;by_cases hl:l.length<=2
 ·have hv:=Ga hl;have d0:l.getD 0 0<4294967296:=Dg.aJ h1.nf.dg (by decide) 0;have d1:l.getD 1 0<4294967296:=Dg.aJ h1.nf.dg (by decide) 1;have A0:Hid (∀w,WS w x.a l->Calls Tryz.prog 166 #[.slice x.a l.length l.length,.int .i64 0] w fun e w'=>e= .returned (.int .u64 ((l.getD 0 0:Nat):Int))/\w'=w):=AT.out 0 (by omega);have A1:Hid (∀w,WS w x.a l->Calls Tryz.prog 166 #[.slice x.a l.length l.length,.int .i64 1] w fun e w'=>e= .returned (.int .u64 ((l.getD 1 0:Nat):Int))/\w'=w):=AT.out 1 (by omega);have HLL:=Lib.hid hl;obtain⟨s,a,n,cap⟩:=x;simp only[]at S1 A0 A1⊢;generalize l.getD 0 0=x0 at*;generalize l.getD 1 0=x1 at*;rw[hv];generalize hN:x1*4294967296+x0=N;obtain⟨sh,hsh⟩:∃sh,sh=x1*4294967296:=⟨_,rfl⟩;have e1:IntKind.u64.wrap ((x1:Int)*4294967296)=(sh:Int):=by rw[cC,hsh];omega
  have e2:bits .or .u64 (sh:Int) (x0:Int)=(N:Int):=by rw[u64_or_nat sh x0 (by omega) (by omega),hsh,Gx x1 x0 d0,hN]
  have hl3:¬(2:Int)<(l.length:Int):=by omega
  have hl4:decide ((2:Int)<(l.length:Int))=false:=by rw[decide_eq_false_iff_not];exact hl3
  have hN2:(N:Int)<18446744073709551616:=by omega
  have hlI:(l.length:Int)<=2:=by omega
  generalize hL:l.length=q at*;clear h1 hv bl d0 d1 AT hsh hN;cases s
  ·have hz:Dg.iv false N=(N:Int):=by simp[Dg.iv]
   by_cases hs:N<9223372036854775808
   ·have t1:(N:Int)<9223372036854775808:=by omega
    have t2:decide ((N:Int)<9223372036854775808)=true:=by rw[decide_eq_true_iff];exact t1
    have HI:Hid (I64 (Dg.iv false N)):=by show I64 _;rw[hz];unfold I64;omega
    have HZ:=Lib.hid hz;clear hs hz
    go_enter Tryz.func120,Tryz.ntmps120
    go_wp2_with (first|(go_at_call 163;(with_reducible refine(S1.out _ ?_).mono ?_);(exact H1.out.below (B:=w.heap.size) an (Nat.le_refl _));rintro e w1 ⟨rfl,hb1⟩;obtain⟨g1,rfl⟩:=mob hb1;clear hb1)|(go_at_call 166;(first|(with_reducible refine(A0.out _ ?_).mono ?_)|(with_reducible refine(A1.out _ ?_).mono ?_));(exact H1.out.ws.below (B:=w.heap.size) an (Nat.le_refl _));rintro e w2 ⟨rfl,rfl⟩))
    refine bodyPost_ret (v:=.tuple #[.int .i64 ((N:Int)),.bool true]) tQ rfl ⟨?_,by exact bel⟩;rw[zk HI.out,AA HI.out,HZ.out]
   ·have t1:¬(N:Int)<9223372036854775808:=by omega
    have t2:decide ((N:Int)<9223372036854775808)=false:=by rw[decide_eq_false_iff_not];exact t1
    have HI:Hid (¬I64 (Dg.iv false N)):=by show¬I64 _;rw[hz];unfold I64;omega
    clear hs hz
    go_enter Tryz.func120,Tryz.ntmps120
    go_wp2_with (first|(go_at_call 163;(with_reducible refine(S1.out _ ?_).mono ?_);(exact H1.out.below (B:=w.heap.size) an (Nat.le_refl _));rintro e w1 ⟨rfl,hb1⟩;obtain⟨g1,rfl⟩:=mob hb1;clear hb1)|(go_at_call 166;(first|(with_reducible refine(A0.out _ ?_).mono ?_)|(with_reducible refine(A1.out _ ?_).mono ?_));(exact H1.out.ws.below (B:=w.heap.size) an (Nat.le_refl _));rintro e w2 ⟨rfl,rfl⟩))
    refine bodyPost_ret (v:=.tuple #[.int .i64 (0),.bool false]) tQ rfl ⟨?_,by exact bel⟩;rw[qZ HI.out,rN HI.out]
  ·have hz:Dg.iv true N= -(N:Int):=by simp[Dg.iv]
   by_cases hs:N<=9223372036854775808
   ·have t1:(N:Int)<=9223372036854775808:=by omega
    have t2:decide ((N:Int)<=9223372036854775808)=true:=by rw[decide_eq_true_iff];exact t1
    have HI:Hid (I64 (Dg.iv true N)):=by show I64 _;rw[hz];unfold I64;omega
    have HZ:=Lib.hid hz;obtain⟨u,hu⟩:∃u:Int,u=(-(N:Int))%18446744073709551616:=⟨_,rfl⟩;have e3:IntKind.u64.wrap (-(N:Int))=u:=by rw[cC,hu]
    have e4:IntKind.i64.wrap u= -(N:Int):=by rw[hu,IntKind.wrap_i64];omega
    clear hs hz hu
    go_enter Tryz.func120,Tryz.ntmps120
    go_wp2_with (first|(go_at_call 163;(with_reducible refine(S1.out _ ?_).mono ?_);(exact H1.out.below (B:=w.heap.size) an (Nat.le_refl _));rintro e w1 ⟨rfl,hb1⟩;obtain⟨g1,rfl⟩:=mob hb1;clear hb1)|(go_at_call 166;(first|(with_reducible refine(A0.out _ ?_).mono ?_)|(with_reducible refine(A1.out _ ?_).mono ?_));(exact H1.out.ws.below (B:=w.heap.size) an (Nat.le_refl _));rintro e w2 ⟨rfl,rfl⟩))
    refine bodyPost_ret (v:=.tuple #[.int .i64 ((-(N:Int))),.bool true]) tQ rfl ⟨?_,by exact bel⟩;rw[zk HI.out,AA HI.out,HZ.out]
   ·have t1:¬(N:Int)<=9223372036854775808:=by omega
    have t2:decide ((N:Int)<=9223372036854775808)=false:=by rw[decide_eq_false_iff_not];exact t1
    have HI:Hid (¬I64 (Dg.iv true N)):=by show¬I64 _;rw[hz];unfold I64;omega
    clear hs hz
    go_enter Tryz.func120,Tryz.ntmps120
    go_wp2_with (first|(go_at_call 163;(with_reducible refine(S1.out _ ?_).mono ?_);(exact H1.out.below (B:=w.heap.size) an (Nat.le_refl _));rintro e w1 ⟨rfl,hb1⟩;obtain⟨g1,rfl⟩:=mob hb1;clear hb1)|(go_at_call 166;(first|(with_reducible refine(A0.out _ ?_).mono ?_)|(with_reducible refine(A1.out _ ?_).mono ?_));(exact H1.out.ws.below (B:=w.heap.size) an (Nat.le_refl _));rintro e w2 ⟨rfl,rfl⟩))
    refine bodyPost_ret (v:=.tuple #[.int .i64 (0),.bool false]) tQ rfl ⟨?_,by exact bel⟩;rw[qZ HI.out,rN HI.out]
 ·have hlen:2<l.length:=by omega
  have hbig:18446744073709551616<=Dg.vl B32 l:=by
   obtain⟨m,hm⟩:∃m,l.length=m+1:=⟨l.length-1,by omega⟩;have k1:=Dg.gA hm h1.nf;have k2:B32^2<=B32^m:=Nat.pow_le_pow_right (by decide) (by omega);have k3:B32^2=18446744073709551616:=by decide
   omega
  have HI:Hid (¬I64 (Dg.iv x.s (Dg.vl B32 l))):=by
   intro h;have h2:=Dg.fR x.s (Dg.vl B32 l);unfold I64 at h;omega
  have hl3:(2:Int)<(l.length:Int):=by omega
  have hl4:decide ((2:Int)<(l.length:Int))=true:=by rw[decide_eq_true_iff];exact hl3
  obtain⟨s,a,n,cap⟩:=x;simp only[]at S1 HI⊢;generalize Dg.iv s (Dg.vl B32 l)=z at*;generalize hL:l.length=q at*;clear h1 bl AT hL hbig hl hlen
  go_enter Tryz.func120,Tryz.ntmps120
  go_wp2_with (go_at_call 163;(with_reducible refine(S1.out _ ?_).mono ?_);(exact H1.out.below (B:=w.heap.size) an (Nat.le_refl _));rintro e w1 ⟨rfl,hb1⟩;obtain⟨g1,rfl⟩:=mob hb1;clear hb1)
  refine bodyPost_ret (v:=.tuple #[.int .i64 (0),.bool false]) tQ rfl ⟨?_,by exact bel⟩;rw[qZ HI.out,rN HI.out]
end
section
open Go.RowKit Go.BigFrame
attribute [local go_sem ↓] Go.wp_at_zero Go.wp_at_succ
theorem NW.below{B:Nat}{w w':World}{g:Nat}(h:NW w g)(hb:Below B w w')(hB:w.heap.size<=B)(hg:g<w.heap.size):NW w' g:=
 h.kP (hb.cell (p:=⟨g,0,none⟩) (Nat.lt_of_lt_of_le hg hB))
end
section
open Go.RowKit Go.BigFrame
attribute [local go_sem ↓] Go.wp_at_zero Go.wp_at_succ
def inb(L:Int)(z:Int):Bool:=decide (-L<=z)&&decide (z<=L)
set_option maxRecDepth 10000 in
theorem xK(z L:Int)(hL:0<=L)(hL2:L<=1000000000000000000)(w:World):
  Calls Tryz.prog 91 #[.int .i64 z,.int .i64 L] w fun e w'=>e= .returned (.bool (inb L z))/\Below w.heap.size w w':=by
 by_cases h1: -L<=z
 ·have d1:decide (-L<=z)=true:=by rw[decide_eq_true_iff];exact h1
  have E:Hid (inb L z=decide (z<=L)):=by show inb L z=_;unfold inb;rw[d1];rfl
  go_enter Tryz.func91,Tryz.ntmps91
  go_wp2_with fail
  go_ret
  exact⟨by rw[E.out];rfl,by exact bel⟩
 ·have d1:decide (-L<=z)=false:=by rw[decide_eq_false_iff_not];exact h1
  have E:Hid (inb L z=false):=by show inb L z=_;unfold inb;rw[d1];rfl
  go_enter Tryz.func91,Tryz.ntmps91
  go_wp2_with fail
  go_ret
  exact⟨by rw[E.out];rfl,by exact bel⟩
def wid(m:List (List Int)):Nat:=(m.headD []).length
set_option maxRecDepth 10000 in
theorem sb(m:List (List Int))(v:Value)(hm:m.length<=1000000000)(w:World)(h:ZM w v m):
  Calls Tryz.prog 111 #[v] w fun e w'=>e= .returned (.int .i64 ((wid m:Int)))/\Below w.heap.size w w':=by
 obtain⟨a,cap,rfl,_,h4⟩:=h;rcases m with _|⟨l,m⟩
 ·go_enter Tryz.func111,Tryz.ntmps111
  go_wp2_with fail
  go_ret
  exact⟨rfl,by exact bel⟩
 ·rcases h4 with h4|⟨a0,rfl,_,h5⟩
  ·cases h4
  obtain⟨b,c,cz,_⟩:=h5 0 l rfl;have e0:a0.add 0=a0:=by cases a0;unfold Addr.add;split<;>simp_all
  have cz2:=cz;rw[e0]at cz2;have E:Hid (wid (l::m)=l.length):=rfl;rw[List.length_cons]at hm⊢;generalize m.length=q at*;have hq:¬(q:Int)+1=0:=by omega
  have hq1:(0:Int)<(q:Int)+1:=by omega
  have hq2:¬q+1=0:=by omega
  clear h5
  go_enter Tryz.func111,Tryz.ntmps111
  go_wp2_with fail
  go_ret
  exact⟨by rw[E.out];rfl,by exact bel⟩
def tC{α:Type}(p:α->Bool)(l:List α)(r:Int):Prop:=(r= -1/\∀x∈l,p x=false)\/∃(k:Nat) (x:α),r=k/\l[k]?=some x/\p x=true/\∀j y,j<k->l[j]?=some y->p y=false
theorem tC.any{α:Type}{p:α->Bool}{l:List α}{r:Int}(h:tC p l r):decide (0<=r)=l.any p:=by
 rcases h with⟨rfl,h⟩|⟨k,x,rfl,h1,h2,_⟩
 ·symm;rw[show decide ((0:Int)<=-1)=false from rfl,List.any_eq_false];exact fun x hx=>by rw[h x hx];simp
 ·rw[show l.any p=true from List.any_eq_true.2 ⟨x,List.mem_of_getElem? h1,h2⟩];simp
def Ho(w:World){α:Type}(p:α->Bool)(l:List α)(e:Ending)(w':World):Prop:=(∃r:Int,e= .returned (.int .i64 r)/\I64 r/\tC p l r)/\Below w.heap.size w w'
set_option maxRecDepth 10000 in
set_option maxHeartbeats 2000000 in
theorem BS(l:List Int)(b:Option Addr)(c:Nat)(hl:l.length<=1000000000)(g:Nat)(p:Int->Bool)(eg:∀args w,(callFunc g args).run Tryz.prog w= .ok (.enter g args) w)(hp:∀x w,Calls Tryz.prog g #[.int .i64 x] w fun e w'=>e= .returned (.bool (p x))/\Below w.heap.size w w')(w:World)(h:ZAt w b l):
  Calls Tryz.prog 157 #[.slice b l.length c,.func (.func g) #[] #[]] w (Ho w p l):=by
 have H:=Lib.hid h;have HP:Hid _:=hp;clear h hp;generalize hn:l.length=n at*;have HN:=Lib.hid hn;clear hn
 go_enter Tryz.func157,Tryz.ntmps157
 go_wp2_with fail
 go_loopw [8] (fun i wr=>∃k:Nat,k<=n/\i= .int .i64 ((k:Int))/\Below w.heap.size w wr/\Hid (∀j y,j<k->l[j]?=some y->p y=false)) (fun i _=>n-(intOf i).toNat)
 case atStart=>exact⟨0,by omega,rfl,by exact bel,fun j y hj=>by omega⟩
 case round=>
  obtain⟨k,hk,rfl,hB,HJ⟩:=hrel;by_cases hkn:k<n
  ·have hkn2:(k:Int)<(n:Int):=by omega
   obtain⟨z,hz⟩:∃z,l[k]?=some z:=⟨l[k]'(by rw[HN.out];omega),List.getElem?_eq_getElem _⟩;rcases H.out.below hB (Nat.le_refl _)with h0|⟨a0,ha,hal,hcc⟩
   ·rw[h0]at hz;simp at hz
   have cz:=hcc k z hz;subst ha;have HPz:=Lib.hid (HP.out z);have hsw:w.heap.size<=wr.heap.size:=hB.size;have HZ:=Lib.hid hz;clear hcc hz;generalize hpz:p z=pz at HPz;have HQ:=Lib.hid hpz;clear hpz;cases pz
   ·go_wp2_with (go_at_fn g;(with_reducible refine(HPz.out _).mono ?_);rintro e w4 ⟨rfl,hb4⟩;have HB4:=Lib.hid hb4;obtain⟨g4,rfl⟩:=mob hb4;clear hb4)
    go_roundw
    case rel=>
     refine⟨k+1,by omega,by go_num,by exact bel,fun j y hj hy=>?_⟩;by_cases e:j=k
     ·subst e;rw[HZ.out]at hy;cases hy;exact HQ.out
     ·exact HJ.out j y (by omega) hy
    case measure=>simp[intOf];omega
   ·go_wp2_with (go_at_fn g;(with_reducible refine(HPz.out _).mono ?_);rintro e w4 ⟨rfl,hb4⟩;have HB4:=Lib.hid hb4;obtain⟨g4,rfl⟩:=mob hb4;clear hb4)
    go_ret
    exact⟨⟨(k:Int),rfl,⟨by omega,by omega⟩,.inr ⟨k,z,rfl,HZ.out,HQ.out,HJ.out⟩⟩,by exact bel⟩
  ·obtain rfl:k=n:=by omega
   have hkn2:¬(k:Int)<(k:Int):=by omega
   go_wp2_with fail
   go_ret
   refine⟨⟨-1,rfl,⟨by omega,by omega⟩,.inl ⟨rfl,fun x hx=>?_⟩⟩,hB⟩;obtain⟨j,hj,e⟩:=List.getElem_of_mem hx;exact HJ.out j x (by rw[<-HN.out];exact hj) (by rw[List.getElem?_eq_getElem hj,e])
set_option maxRecDepth 10000 in
theorem Cl(l:List Int)(b:Option Addr)(c:Nat)(hl:l.length<=1000000000)(g:Nat)(p:Int->Bool)(eg:∀args w,(callFunc g args).run Tryz.prog w= .ok (.enter g args) w)(hp:∀x w,Calls Tryz.prog g #[.int .i64 x] w fun e w'=>e= .returned (.bool (p x))/\Below w.heap.size w w')(w:World)(h:ZAt w b l):
  Calls Tryz.prog 89 #[.slice b l.length c,.func (.func g) #[] #[]] w fun e w'=>e= .returned (.bool (l.any p))/\Below w.heap.size w w':=by
 have IX:=Lib.hid (fun w h=>BS l b c hl g p eg hp w h);have H:=Lib.hid h;have HA:=Lib.hid (fun r (h:tC p l r)=>h.any);clear h hp eg;generalize l.length=n at*
 go_enter Tryz.func89,Tryz.ntmps89
 go_wp2_with (go_at_call 157;(with_reducible refine(IX.out _ ?_).mono ?_);(exact H.out.below (B:=w.heap.size) an (Nat.le_refl _));rintro e w4 ⟨⟨r,rfl,hi,hr⟩,hb4⟩;have HR:=Lib.hid hr;clear hr;obtain⟨g4,rfl⟩:=mob hb4;clear hb4)
 all_goals go_ret
 all_goals exact⟨by rw[<-HA.out r HR.out];first|rfl|(congr 2;simp;omega)|simp,by exact bel⟩
end
section
open Go.RowKit Go.BigFrame
attribute [local go_sem ↓] Go.wp_at_zero Go.wp_at_succ
def big(z:Int):Bool:=!(inb 1000000000000000 z)
def chk(m:List (List Int)):Int:=if m.all (fun r=>r.length==wid m)=true then(if 64<m.length\/64<wid m then 8 else if m.any (fun r=>r.any big)=true then 2 else 0)else 9
theorem chk9{m:List (List Int)}{r:List Int}(h:r∈m)(h2:r.length≠wid m):chk m=9:=by
 unfold chk;rw[if_neg];intro h3;have:=List.all_eq_true.1 h3 r h;simp at this;exact h2 this
theorem nN{m:List (List Int)}(h:∀(j:Nat) (r:List Int),j<m.length->m[j]?=some r->r.length=wid m):m.all (fun r=>r.length==wid m)=true:=by
 rw[List.all_eq_true];intro r hr;obtain⟨j,hj,e⟩:=List.getElem_of_mem hr;simpa using h j r hj (by rw[List.getElem?_eq_getElem hj,e])
theorem yA{m:List (List Int)}(h:m.all (fun r=>r.length==wid m)=true)(h2:64<m.length\/64<wid m):chk m=8:=by
 unfold chk;rw[if_pos h,if_pos h2]
theorem chk2{m:List (List Int)}(h:m.all (fun r=>r.length==wid m)=true)(h2:¬(64<m.length\/64<wid m)){r:List Int}(h3:r∈m)(h4:r.any big=true):chk m=2:=by
 unfold chk;rw[if_pos h,if_neg h2,if_pos (List.any_eq_true.2 ⟨r,h3,h4⟩)]
theorem chk0{m:List (List Int)}(h:m.all (fun r=>r.length==wid m)=true)(h2:¬(64<m.length\/64<wid m))(h3:∀(j:Nat) (r:List Int),j<m.length->m[j]?=some r->r.any big=false):chk m=0:=by
 unfold chk;rw[if_pos h,if_neg h2,if_neg];intro h4;obtain⟨r,hr,h5⟩:=List.any_eq_true.1 h4;obtain⟨j,hj,e⟩:=List.getElem_of_mem hr;rw[h3 j r hj (by rw[List.getElem?_eq_getElem hj,e])]at h5;cases h5
set_option maxRecDepth 10000 in
theorem Fu(z:Int)(w:World):
  Calls Tryz.prog 113 #[.int .i64 z] w fun e w'=>e= .returned (.bool (big z))/\Below w.heap.size w w':=by
 have WI:=Lib.hid (fun w=>xK z 1000000000000000 (by omega) (by omega) w);have E:Hid (big z= !(inb 1000000000000000 z)):=rfl;generalize inb 1000000000000000 z=c at*
 go_enter Tryz.func113,Tryz.ntmps113
 go_wp2_with (go_at_call 91;(with_reducible refine(WI.out _).mono ?_);rintro e w4 ⟨rfl,hb4⟩;obtain⟨g4,rfl⟩:=mob hb4;clear hb4)
 go_ret
 exact⟨by rw[E.out];rfl,by exact bel⟩
theorem yD:∀args w,(callFunc 113 args).run Tryz.prog w= .ok (.enter 113 args) w:=enters_of Tryz.func113 ae rfl
set_option maxRecDepth 10000 in
set_option maxHeartbeats 4000000 in
theorem sR(m:List (List Int))(v:Value)(hm:m.length<=1000000000)(hr:∀r∈m,r.length<=1000000000)(w:World)(h:ZM w v m):
  Calls Tryz.prog 40 #[v] w fun e w'=>e= .returned (.int .i64 (chk m))/\Below w.heap.size w w':=by
 have WI:=Lib.hid (fun w h=>sb m v hm w h);have AN:=Lib.hid (fun (r:List Int) (hr':r∈m) b c w h=>Cl r b c (hr r hr') _ big yD (fun x w=>Fu x w) w h);have H:=Lib.hid h;have C9:=Lib.hid (fun (r:List Int) (h:r∈m) h2=>chk9 h h2);have CA:=Lib.hid (nN (m:=m));have C8:=Lib.hid (yA (m:=m));have C2:=Lib.hid (fun h h2 (r:List Int) h3 h4=>chk2 (m:=m) h h2 (r:=r) h3 h4);have C0:=Lib.hid (chk0 (m:=m));have HW1:Hid (wid m<=1000000000):=by
  show wid m<=1000000000;unfold wid
  cases m with
  |nil=>simp
  |cons a l=>exact hr a (by simp)
 have hW:=HW1.out;have HLR:Hid _:=hr;obtain⟨a,cap,rfl,_,h4⟩:=h;have H4:=Lib.hid h4;clear h4 hr;generalize hml:m.length=q at*;generalize wid m=W at*;have HQ:=Lib.hid hml;clear hml;generalize chk m=R at*
 go_enter Tryz.func40,Tryz.ntmps40
 go_wp2_with fail
 go_loopw [9] (fun i wr=>∃k:Nat,k<=q/\i= .int .i64 ((k:Int))/\Below w.heap.size w wr/\Hid (∀(j:Nat) (r:List Int),j<k->m[j]?=some r->r.length=W)) (fun i _=>q-(intOf i).toNat)
 case atStart=>exact⟨0,by omega,rfl,by exact bel,fun j r hj=>by omega⟩
 case round=>
  obtain⟨k,hk,rfl,hB,HJ⟩:=hrel;have hsw:w.heap.size<=wr.heap.size:=hB.size;by_cases hkn:k<q
  ·have hkn2:(k:Int)<(q:Int):=by omega
   obtain⟨l,hl⟩:∃l,m[k]?=some l:=⟨m[k]'(by rw[HQ.out];omega),List.getElem?_eq_getElem _⟩;rcases H4.out with h0|⟨a0,ha,hal,hcc⟩
   ·rw[h0]at hl;simp at hl
   obtain⟨b,c,cz,_⟩:=hcc k l hl;have cz2:=iX hB (Nat.le_refl _) cz;subst ha;have HL:=Lib.hid hl;have hll:l.length<=1000000000:=HLR.out l (List.mem_of_getElem? hl);clear hcc cz hl;generalize hgl:l.length=p at*;have HP:=Lib.hid hgl;clear hgl;by_cases he:p=W
   ·subst he
    go_wp2_with (go_at_call 111;(with_reducible refine(WI.out _ ?_).mono ?_);(exact H.out.below (B:=w.heap.size) an (Nat.le_refl _));rintro e w4 ⟨rfl,hb4⟩;obtain⟨g4,rfl⟩:=mob hb4;clear hb4)
    go_roundw
    case rel=>
     refine⟨k+1,by omega,by go_num,by exact bel,fun j y hj hy=>?_⟩;by_cases e:j=k
     ·subst e;rw[HL.out]at hy;cases hy;exact HP.out
     ·exact HJ.out j y (by omega) hy
    case measure=>simp[intOf];omega
   ·have he2:¬(p:Int)=(W:Int):=by omega
    have E:Hid (R=9):=C9.out l (List.mem_of_getElem? HL.out) (by rw[HP.out];exact he)
    go_wp2_with (go_at_call 111;(with_reducible refine(WI.out _ ?_).mono ?_);(exact H.out.below (B:=w.heap.size) an (Nat.le_refl _));rintro e w4 ⟨rfl,hb4⟩;obtain⟨g4,rfl⟩:=mob hb4;clear hb4)
    go_ret
    exact⟨by rw[E.out];rfl,by exact bel⟩
  ·obtain rfl:k=q:=by omega
   have hkn2:¬(k:Int)<(k:Int):=by omega
   have HA:=Lib.hid (CA.out (fun j r hj hjr=>HJ.out j r hj hjr));by_cases h1:64<k
   ·have h2:(64:Int)<(k:Int):=by omega
    have E:Hid (R=8):=C8.out HA.out (.inl h1)
    go_wp2_with fail
    go_ret
    exact⟨by rw[E.out];rfl,by exact bel⟩
   ·have h2:¬(64:Int)<(k:Int):=by omega
    have h3:decide ((64:Int)<(k:Int))=false:=by rw[decide_eq_false_iff_not];exact h2
    by_cases h5:64<W
    ·have h6:(64:Int)<(W:Int):=by omega
     have E:Hid (R=8):=C8.out HA.out (.inr h5)
     go_wp2_with (go_at_call 111;(with_reducible refine(WI.out _ ?_).mono ?_);(exact H.out.below (B:=w.heap.size) an (Nat.le_refl _));rintro e w4 ⟨rfl,hb4⟩;obtain⟨g4,rfl⟩:=mob hb4;clear hb4)
     go_ret
     exact⟨by rw[E.out];rfl,by exact bel⟩
    ·have h6:¬(64:Int)<(W:Int):=by omega
     have HN:Hid (¬(64<k\/64<W)):=fun h=>h.elim h1 h5
     go_wp2_with (go_at_call 111;(with_reducible refine(WI.out _ ?_).mono ?_);(exact H.out.below (B:=w.heap.size) an (Nat.le_refl _));rintro e w4 ⟨rfl,hb4⟩;obtain⟨g4,rfl⟩:=mob hb4;clear hb4)
     go_loopw [29] (fun i wx=>∃j:Nat,j<=k/\i= .int .i64 ((j:Int))/\Below w.heap.size w wx/\Hid (∀(j':Nat) (r:List Int),j'<j->m[j']?=some r->r.any big=false)) (fun i _=>k-(intOf i).toNat)
     case atStart=>exact⟨0,by omega,rfl,by exact bel,fun j r hj=>by omega⟩
     case round=>
      obtain⟨j,hj,rfl,hBx,HX⟩:=hrel;have hsx:w.heap.size<=wr.heap.size:=hBx.size;by_cases hjk:j<k
      ·have hjk2:(j:Int)<(k:Int):=by omega
       obtain⟨l,hl⟩:∃l,m[j]?=some l:=⟨m[j]'(by rw[HQ.out];omega),List.getElem?_eq_getElem _⟩;rcases H4.out with h0|⟨a0,ha,hal,hcc⟩
       ·rw[h0]at hl;simp at hl
       obtain⟨b,c,cz,_,hz⟩:=hcc j l hl;have cz2:=iX hBx (Nat.le_refl _) cz;subst ha;have HL:=Lib.hid hl;have ANl:=Lib.hid (AN.out l (List.mem_of_getElem? hl) b c);have HZ:=Lib.hid hz;clear hcc cz hl hz;generalize hgl:l.length=p at*;clear hgl;generalize hab:l.any big=t at*;have HT:=Lib.hid hab;clear hab;cases t
       ·go_wp2_with (go_at_call 89;(with_reducible refine(ANl.out _ ?_).mono ?_);(exact HZ.out.below (B:=w.heap.size) an (Nat.le_refl _));rintro e w4 ⟨rfl,hb4⟩;obtain⟨g4,rfl⟩:=mob hb4;clear hb4)
        go_roundw
        case rel=>
         refine⟨j+1,by omega,by go_num,by exact bel,fun j' y hj' hy=>?_⟩;by_cases e:j'=j
         ·subst e;rw[HL.out]at hy;cases hy;exact HT.out
         ·exact HX.out j' y (by omega) hy
        case measure=>simp[intOf];omega
       ·have E:Hid (R=2):=C2.out HA.out HN.out l (List.mem_of_getElem? HL.out) HT.out
        go_wp2_with (go_at_call 89;(with_reducible refine(ANl.out _ ?_).mono ?_);(exact HZ.out.below (B:=w.heap.size) an (Nat.le_refl _));rintro e w4 ⟨rfl,hb4⟩;obtain⟨g4,rfl⟩:=mob hb4;clear hb4)
        go_ret
        exact⟨by rw[E.out];rfl,by exact bel⟩
      ·obtain rfl:j=k:=by omega
       have hjk2:¬(j:Int)<(j:Int):=by omega
       have E:Hid (R=0):=C0.out HA.out HN.out (fun j' r h1 h2=>HX.out j' r h1 h2)
       go_wp2_with fail
       go_ret
       exact⟨by rw[E.out];rfl,hBx⟩
end
end Go.Proofs.YtcgjmdpcplhanaaGreat
