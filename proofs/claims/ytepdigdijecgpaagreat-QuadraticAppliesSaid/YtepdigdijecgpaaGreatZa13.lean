/- Lemmas for the law: E31 E32 E37 V27 V28 V29 M12 M14 E42 F17 LJ -/
import Derived.BigQuiet
import Derived.Deep.CutRange
import Derived.Deep.LoopGhost
import Derived.Test.YtepdigdijecgpaaGreatRows
import Derived.JoinedOf
import Derived.WalkKit
import Derived.Test.YtepdigdijecgpaaGreatZa12
namespace Go.Proofs.YtepdigdijecgpaaGreat
section
abbrev xx:=@Int.mul_right_comm
theorem bZ{p q:Prop}(h:q)(f:Wq q->p:=by(intro hW;((refine Own3.oP rfl (fun K hK=>?_);go_simp;(try go_bits);refine⟨fun w' hw' hcb'=>?_,hK _ ?_⟩;(focus(first|with_reducible exact rfl|with_reducible exact⟨rfl,rfl⟩|(obtain⟨gx,rfl⟩:=mob (Ext.below hw');go_simp;first|exact rfl|exact⟨rfl,rfl⟩)));clear hK K));exact hW.out)):p:=f ⟨h⟩
theorem zb61{p:Prop}(h:p:=by simp[results,Tryz.results153,go_sem,t0,t1]):p:=h
end
section
open Go.RowKit
namespace DW
theorem ar_ra{X:Nat->Prop}{w:World}{row:List Int}{v:Value}(h:AR X w (dZ row) v)(h0:row≠[]):∃b o c,v= .slice (some ⟨b,o,none⟩) row.length c/\row.length<=c/\RA w b o row:=by
 simp only[dZ,AR]at h;obtain⟨a,c,rfl,h2,h3⟩:=h;rw[br]at h2;obtain⟨b,o,rfl,_,h4,h5⟩:=h3.resolve_left (by simpa using h0);refine⟨b,o,c,by rw[br],h2,h4,fun k z hz=>?_⟩;obtain⟨u,k1,_,_,k4⟩:=ARs.at h5 (i:=k) (d:=.nm z) (by rw[cR,hz];rfl);simp only[AR]at k1;obtain⟨x,rfl,hx⟩:=k1;refine⟨x,?_,?_,hx⟩
 ·have:=k4 0 (.bool x.s) rfl;simpa using this
 ·exact k4 1 (.slice x.a x.n x.cap) rfl
theorem L1{X:Nat->Prop}{w:World}{M:Mx.Mat}{v:Value}{n:Nat}(h:AR X w (dW M) v)(hr:Mx.Rc n M)(hn:0<n):MR w v n M:=by
 simp only[dW,AR]at h;obtain⟨a,c,rfl,h2,h3⟩:=h;rw[br]at h2;refine⟨a,c,by rw[br],h2,hr,?_⟩;rcases h3 with h3|⟨b,o,rfl,_,h4,h5⟩
 ·exact .inl (by simpa using h3)
 ·refine .inr ⟨b,o,rfl,h4,fun i hi=>?_⟩;have hg:M[i]?=some (Mx.rw M i):=by unfold Mx.rw;rw[aH,aS hi];rfl
  obtain⟨u,k1,_,_,k4⟩:=ARs.at h5 (i:=i) (d:=dZ (Mx.rw M i)) (by rw[cR,hg];rfl);have hl:=hr.rw hi;obtain⟨b',o',c',rfl,k5,k6⟩:=ar_ra k1 (fun e=>by rw[e]at hl;simp at hl;omega);have:=k4 0 _ rfl;rw[hl]at this k5;exact⟨some ⟨b',o',none⟩,c',by simpa using this,k5,AD.some _ _,.inr ⟨b',o',rfl,k6⟩⟩
theorem ro_ar{X:Nat->Prop}{w:World}{row:List Int}{g c B:Nat}(h:RO w g row)(hc:row.length<=c)(hg:B<=g)(hX:∀b,X b->b<B):AR X w (dZ row) (.slice (some ⟨g,0,none⟩) row.length c):=by
 have hra:=h.ra;simp only[dZ,AR];refine⟨_,c,by rw[br],by rw[br];exact hc,.inr ⟨g,0,rfl,fun hx=>by have:=hX g hx;omega,hra.lt,ARs.mk fun k d hd=>?_⟩⟩;rw[cR]at hd;obtain⟨z,hz,rfl⟩:=fw.1 hd;obtain⟨x,h1,h2,h3⟩:=hra.c k z hz;refine⟨.agg #[.bool x.s,.slice x.a x.n x.cap],by simp only[AR];exact⟨x,rfl,h3⟩,rfl,rfl,fun j u hj=>?_⟩
 match j,hj with
 |0,hj=>
  have:u= .bool x.s:=by simpa[Value.cells]using hj.symm
  rw[this];exact h1
 |1,hj=>
  have:u= .slice x.a x.n x.cap:=by simpa[Value.cells]using hj.symm
  rw[this];exact h2
 |j+2,hj=>simp[Value.cells]at hj
theorem Lc{X:Nat->Prop}{w:World}{B gm n cap:Nat}{gs cs:Nat->Nat}{M:Mx.Mat}(h:MB w B gm M.length gs cs n M)(hc:M.length<=cap)(hX:∀b,X b->b<B):AR X w (dW M) (.slice (some ⟨gm,0,none⟩) M.length cap):=by
 simp only[dW,AR];refine⟨_,cap,by rw[br],by rw[br];exact hc,.inr ⟨gm,0,rfl,fun hx=>by have:=hX gm hx;have:=h.b;omega,h.lt,ARs.mk fun i d hd=>?_⟩⟩;rw[cR]at hd;obtain⟨row,hrow,rfl⟩:=fw.1 hd;have hi:=(bW.1 hrow).1;have hl:row.length=n:=h.rc row (bf hrow);obtain⟨b,h1,h2,⟨g0,o0,h3⟩,h4⟩:=h.hc i hi;refine⟨.slice b n (cs i),?_,rfl,rfl,fun j u hj=>?_⟩
 ·by_cases hn:0<n
  ·obtain⟨rfl,h5,_,h7⟩:=h4 hn;rw[Mx.cM hrow]at h7;have:=ro_ar (X:=X) h7 (by rw[hl];exact h2) h5 hX;rwa[hl]at this
  ·have h0:row=[]:=gw aa;subst h0;simp only[dZ,gy,AR];exact⟨b,cs i,by simp at hl;rw[<-hl];rfl,aP _,.inl trivial⟩
 ·match j,hj with
  |0,hj=>
   have:u= .slice b n (cs i):=by simpa[Value.cells]using hj.symm
   rw[this];simpa using h1
  |j+1,hj=>simp[Value.cells]at hj
theorem Gg(z:Int)(fz:Fit z):Fn Tryz.prog 251 [.nm z] (.tp [zI (smv z),.sc (.bool (decide (I64 z)))]):=by
 refine⟨enters_of Tryz.func251 ak rfl,fun X w vs hX hv=>?_⟩;simp only[ATp,AR]at hv;obtain⟨v,r,e,⟨x,rfl,hx⟩,rfl⟩:=hv;have:vs= #[.agg #[.bool x.s,.slice x.a x.n x.cap]]:=cU.1 e;subst this;exact(vQ x z fz w hx.ip).mono fun e w' ⟨h1,h2⟩=>⟨_,h1,L2 (ar_n _) (by simp only[AR];exact⟨trivial,rfl⟩),h2⟩
end DW
end
section
open Go.RowKit
namespace DW
set_option maxRecDepth 20000
set_option maxHeartbeats 2000000
theorem wof_d(m:List (List Int))(n:Nat)(hm:m.length<=1000000)(hn:n<=1000000)(hr:Mx.Rc n m)(hb:∀l∈m,∀z∈l,I64 z):Fn Tryz.prog 152 [dM m] (dW m):=by
 refine⟨enters_of Tryz.func152 ak rfl,fun X w vs hX hv=>?_⟩;simp only[ATp]at hv;obtain⟨v,rest,e,h1,rfl⟩:=hv;have:vs= #[v]:=cU.1 e;subst this;exact(Iz m n v hm hn hr hb w (zk h1)).mono fun e w' ⟨⟨gm,gs,cs,cap,h5,h6,h7⟩,h9⟩=>⟨_,h5,Lc h7 h6 (fun b hb=>(hX b hb).1),h9⟩
end DW
end
section
open Go.RowKit
namespace DW
theorem IA(m:List (List Int))(hm:m.length<=1000000000):Fn Tryz.prog 150 [dM m] (zI (wid m)):=by
 refine⟨enters_of Tryz.func150 ak rfl,fun X w vs hX hv=>?_⟩;simp only[ATp]at hv;obtain⟨v1,r1,e1,h1,rfl⟩:=hv;have:vs= #[v1]:=cU.1 e1;subst this;exact(vK m v1 hm w (zk h1)).mono fun e w' ⟨h1,h2⟩=>⟨_,h1,ar_n _,h2⟩
theorem KU(m:List (List Int))(hm:m.length<=1000000000)(hr:∀r∈m,r.length<=1000000000):Fn Tryz.prog 149 [dM m] (zI (chk m)):=by
 refine⟨enters_of Tryz.func149 ak rfl,fun X w vs hX hv=>?_⟩;simp only[ATp]at hv;obtain⟨v1,r1,e1,h1,rfl⟩:=hv;have:vs= #[v1]:=cU.1 e1;subst this;exact(EK m v1 hm hr w (zk h1)).mono fun e w' ⟨h1,h2⟩=>⟨_,h1,ar_n _,h2⟩
end DW
end
section
open Go.RowKit Go.BigFrame
attribute [local go_sem ↓] Go.wp_at_zero Go.wp_at_succ
structure Ik(w w':World)(base:Nat)(v v':Value)(l:List IV)(x:IV):Prop where
 own:lU w' base v' (l++[x])
 by':w.grownBy w' v.ownBlock
 at':v'.ownBlock=v.ownBlock\/v'.ownBlock=some w.heap.size
theorem Ik.shape{w w':World}{base:Nat}{v v':Value}{l:List IV}{x:IV}(h:Ik w w' base v v' l x):∃g c,v'= .slice (some ⟨g,0,none⟩) (l.length+1) c/\base<=g/\g<w'.heap.size:=by
 obtain⟨_,h⟩:=h.own;rw[cL,ji]at h;rcases h with⟨_,hn⟩|⟨g,cap,cur,rfl,hb,hg,_⟩
 ·omega
 ·exact⟨g,cap,rfl,hb,(gi.1 hg).1⟩
end
section
open Go.RowKit Go.BigFrame
attribute [local go_sem ↓] Go.wp_at_zero Go.wp_at_succ
theorem BZ{a b:List Int}{k:Nat}(hk:∀j,j<k->a[j]?=b[j]?):part k a b=b:=by
 have e:a.take k=b.take k:=by
  apply nr;intro j;rw[et,et];split
  ·exact hk j (by assumption)
  ·rfl
 unfold part;rw[e,ou]
def bY(k:Nat)(last:Int)(N:Mx.Mat)(t j:Nat):Mx.Mat:=(Mx.bK k last N t).set (k+1+t) (part j (Mx.pq k last (Mx.rw N k) (Mx.rw N (k+1+t))) (Mx.rw N (k+1+t)))
theorem Cy{k t:Nat}{last:Int}{N:Mx.Mat}(ht:k+1+t<N.length)(j i:Nat):Mx.rw (bY k last N t j) i=if i=k+1+t then part j (Mx.pq k last (Mx.rw N k) (Mx.rw N (k+1+t))) (Mx.rw N (k+1+t))else Mx.rw (Mx.bK k last N t) i:=by
 unfold bY;rw[Mx.lF _ _ _ _ (by rw[Mx.ux];exact ht)]
theorem GK{n k t:Nat}{last:Int}{N:Mx.Mat}(h:Mx.Rc n N)(ht:k+1+t<N.length):bY k last N t (k+1)=Mx.bK k last N t:=by
 have hl:(Mx.rw N (k+1+t)).length=n:=h.rw ht;unfold bY;rw[BZ (fun j hj=>by
  by_cases hjn:j<n
  ·rw[Mx.po (by rw[hl];exact hjn),ai aa,getD_some (by rw[hl];exact hjn)]
  ·rw[iG (by rw[Mx.iV,hl];omega),iG (by rw[hl];omega)])]
 have e:Mx.rw N (k+1+t)=Mx.rw (Mx.bK k last N t) (k+1+t):=by rw[Mx.rF k last N t aa,ai aa]
 rw[e,Mx.KK]
theorem LY{n k t:Nat}{last:Int}{N:Mx.Mat}(h:Mx.Rc n N)(ht:k+1+t<N.length):bY k last N t n=Mx.bK k last N (t+1):=by
 have hl:(Mx.rw N (k+1+t)).length=n:=h.rw ht;unfold bY;rw[FK (by rw[Mx.iV,hl];exact af _) (by rw[hl];exact af _)];rfl
theorem bY_k{k t:Nat}{last:Int}{N:Mx.Mat}(ht:k+1+t<N.length)(j l:Nat):Mx.at' (bY k last N t j) k l=Mx.at' N k l:=by
 unfold Mx.at';rw[Cy ht,ai aa,Mx.rF k last N t aa,ai aa]
theorem bY_i{n k t j l:Nat}{last:Int}{N:Mx.Mat}(h:Mx.Rc n N)(ht:k+1+t<N.length)(hln:l<n)(hl:j<=l\/l<=k):Mx.at' (bY k last N t j) (k+1+t) l=Mx.at' N (k+1+t) l:=by
 have hrl:(Mx.rw N (k+1+t)).length=n:=h.rw ht;unfold Mx.at';rw[Cy ht,aj rfl,aH,aH];congr 1;unfold part;by_cases hj:j<=l
 ·by_cases hjn:j<=n
  ·rw[iE xp,aQ,Mx.iV,hrl,dT hjn,fU];congr 1;omega
  ·omega
 ·rw[en (by rw[aQ,Mx.iV,hrl];omega),gV aa,Mx.po (by rw[hrl];exact hln),ai aa,getD_some (by rw[hrl];exact hln)]
theorem Kb{n k t j:Nat}{last:Int}{N:Mx.Mat}(h:Mx.Rc n N)(ht:k+1+t<N.length)(hj:k<j)(hjn:j<n):
  (bY k last N t j).set (k+1+t) ((Mx.rw (bY k last N t j) (k+1+t)).set j ((Mx.at' N k k*Mx.at' N (k+1+t) j-Mx.at' N (k+1+t) k*Mx.at' N k j)/last))=bY k last N t (j+1):=by
 have hrl:(Mx.rw N (k+1+t)).length=n:=h.rw ht;rw[Cy ht,aj rfl,FJ (Mx.iV _ _ _ _) (by rw[Mx.po (by rw[hrl];exact hjn),aj hj];rfl)];unfold bY;rw[List.set_set]
structure DI(w wr:World)(gm L n:Nat)(gs cs:Nat->Nat)(X:Mx.Mat)(y:IV)(last:Int):Prop where
 bl:Below w.heap.size w wr
 mb:MB wr (w.heap.size+1) gm n gs cs n X
 len:X.length=n
 gl:gm<L
 gsl:∀i,i<n->gs i<L
 lt:L<wr.heap.size
 l0:wr.cell? ⟨L,0,none⟩=some (.bool y.s)
 l1:wr.cell? ⟨L,1,none⟩=some (.slice y.a y.n y.cap)
 lf:∀i,wr.frozen? ⟨L,i,none⟩=false
 iz:IZ wr y last
 r0:wr.cell? ⟨w.heap.size,0,none⟩=some (.bool false)
 r1:wr.cell? ⟨w.heap.size,1,none⟩=some (.slice none 0 0)
 rf:∀i,wr.frozen? ⟨w.heap.size,i,none⟩=false
theorem DI.rlt{w wr:World}{gm L n:Nat}{gs cs:Nat->Nat}{X:Mx.Mat}{y:IV}{last:Int}(h:DI w wr gm L n gs cs X y last):w.heap.size<gm/\w.heap.size<wr.heap.size:=by
 have:=h.mb.b;have:=h.mb.lt;omega
theorem NW.bool{w:World}{g:Nat}{b:Bool}(h:w.cell? ⟨g,0,none⟩=some (.bool b)):NW w g:=fun n e=>by rw[h]at e;cases e
theorem DI.below{w wr wx:World}{gm L n:Nat}{gs cs:Nat->Nat}{X:Mx.Mat}{y:IV}{last:Int}(h:DI w wr gm L n gs cs X y last)(k:Below wr.heap.size wr wx):DI w wx gm L n gs cs X y last:=
 have hr:=h.rlt.2
 ⟨h.bl.trans (k.mono (cD hr)),h.mb.below k (af _),h.len,h.gl,h.gsl,aJ h.lt k.size,(k.cell (p:=⟨L,0,none⟩) h.lt).trans h.l0,(k.cell (p:=⟨L,1,none⟩) h.lt).trans h.l1,fun i=>(k.frozen (p:=⟨L,i,none⟩) h.lt).trans (h.lf i),h.iz.below k (af _),
  (k.cell (p:=⟨w.heap.size,0,none⟩) hr).trans h.r0,(k.cell (p:=⟨w.heap.size,1,none⟩) hr).trans h.r1,fun i=>(k.frozen (p:=⟨w.heap.size,i,none⟩) hr).trans (h.rf i)⟩
theorem DI.chg{w wr wx:World}{gm L n:Nat}{gs cs gs2 cs2:Nat->Nat}{X X2:Mx.Mat}{y:IV}{last:Int}{b:Nat}(h:DI w wr gm L n gs cs X y last)(k:Chg b wr wx)(hb:w.heap.size<b)(hbL:b<L)(hnw:NW wr b)(hm:MB wx (w.heap.size+1) gm n gs2 cs2 n X2)(hl:X2.length=n)(hg:∀i,i<n->gs2 i<L):DI w wx gm L n gs2 cs2 X2 y last:=
 have hr:=h.rlt.2
 ⟨k.below h.bl (cD hb) (cD hr),hm,hl,h.gl,hg,aJ h.lt k.size,(k.cell h.lt aa).trans h.l0,(k.cell h.lt aa).trans h.l1,fun i=>(k.frozen h.lt aa).trans (h.lf i),h.iz.chg k hnw,
  (k.cell hr aa).trans h.r0,(k.cell hr aa).trans h.r1,fun i=>(k.frozen hr aa).trans (h.rf i)⟩
theorem MB.oth{b:Nat}{w w':World}{B gm L:Nat}{gs cs:Nat->Nat}{n:Nat}{M:Mx.Mat}(h:MB w B gm L gs cs n M)(k:Chg b w w')(hb:NW w b)(hg:gm≠b)(hgs:∀i,i<M.length->gs i≠b):MB w' B gm L gs cs n M:=by
 refine⟨h.b,aJ h.lt k.size,fun j=>(k.frozen h.lt hg).trans (h.fr j),fun i hi=>?_,h.nw.nN (k.cell h.lt hg),h.ml,h.rc,fun i hi=>?_,h.dj⟩
 ·obtain⟨u,hu⟩:=h.hl i hi;exact⟨u,(k.cell h.lt hg).trans hu⟩
 ·obtain⟨a,h1,h2,hA,h3⟩:=h.hc i hi;exact⟨a,(k.cell h.lt hg).trans h1,h2,hA,fun h0=>⟨(h3 h0).1,(h3 h0).2.1,(h3 h0).2.2.1,(h3 h0).2.2.2.chg k hb (hgs i hi)⟩⟩
theorem DI.row{w wr:World}{gm L n:Nat}{gs cs:Nat->Nat}{X:Mx.Mat}{y:IV}{last:Int}(h:DI w wr gm L n gs cs X y last){i j:Nat}(hi:i<n)(hj:j<n){x:IV}{z:Int}(hx:IZ wr x z):DI w (eH wr (gs i) j x) gm L n gs cs (X.set i ((Mx.rw X i).set j z)) y last:=by
 have hi2:i<X.length:=by rw[h.len];exact hi
 have hm:=h.mb.mo aa;obtain⟨h1,h2,h3,h4,h5⟩:=hm.hc i hi2;have hnw:=hm.Ea hi2;have k:Chg (gs i) wr (eH wr (gs i) j x):=sk (Chg.refl _ _) j x;have hrl:(Mx.rw X i).length=n:=hm.rc.rw hi2;have ho:RO (eH wr (gs i) j x) (gs i) ((Mx.rw X i).set j z):=h5.set (by rw[hrl];exact hj) hx;exact h.chg k aa (h.gsl i hi) hnw (hm.setRow hi2 (by rw[dc];exact hrl) k ho).mb (by rw[dc];exact h.len) h.gsl
theorem DI.swp{w wr:World}{gm L n:Nat}{gs cs:Nat->Nat}{X:Mx.Mat}{y:IV}{last:Int}(h:DI w wr gm L n gs cs X y last){i j:Nat}(hi:i<n)(hj:j<n):
  DI w ((wr.setCell ⟨gm,i,none⟩ (.slice (some ⟨gs j,0,none⟩) n (cs j))).setCell ⟨gm,j,none⟩ (.slice (some ⟨gs i,0,none⟩) n (cs i))).drew gm L n (ix gs i j) (ix cs i j) (Mx.swp X i j) y last:=by
 have k:Chg gm wr ((wr.setCell ⟨gm,i,none⟩ (.slice (some ⟨gs j,0,none⟩) n (cs j))).setCell ⟨gm,j,none⟩ (.slice (some ⟨gs i,0,none⟩) n (cs i))):=((Chg.refl gm wr).set gm _ _ (.inl rfl)).set gm _ _ (.inl rfl);refine(h.chg k h.rlt.1 h.gl h.mb.nw ((h.mb.mo aa).swp (by rw[h.len];exact hi) (by rw[h.len];exact hj)).mb (by rw[Mx.iX];exact h.len) (fun l hl=>?_)).below (Below.refl _ _).drew;unfold ix;split
 ·exact h.gsl i hi
 ·split
  ·exact h.gsl j hj
  ·exact h.gsl l hl
theorem DI.last{w wr:World}{gm L n:Nat}{gs cs:Nat->Nat}{X:Mx.Mat}{y:IV}{last:Int}(h:DI w wr gm L n gs cs X y last){x:IV}{z:Int}(hx:IZ wr x z):DI w ((wr.setCell ⟨L,0,none⟩ (.bool x.s)).setCell ⟨L,1,none⟩ (.slice x.a x.n x.cap)) gm L n gs cs X x z:=by
 have k:Chg L wr ((wr.setCell ⟨L,0,none⟩ (.bool x.s)).setCell ⟨L,1,none⟩ (.slice x.a x.n x.cap)):=((Chg.refl L wr).set L _ _ (.inl rfl)).set L _ _ (.inl rfl);have hnw:=NW.bool h.l0;have hr:=h.rlt;have hL:w.heap.size≠L:=by have:=h.gl;omega
 refine⟨k.below h.bl (by have:=h.gl;omega) (cD hr.2),h.mb.oth k hnw (by have:=h.gl;omega) (fun i hi=>by have:=h.gsl i (by rw[<-h.len];exact hi);omega),h.len,h.gl,h.gsl,by simpa using h.lt,?_,?_,fun i=>by rw[World.frozen?_setCell,World.frozen?_setCell];exact h.lf i,hx.chg k hnw,(k.cell hr.2 hL).trans h.r0,(k.cell hr.2 hL).trans h.r1,fun i=>(k.frozen hr.2 hL).trans (h.rf i)⟩
 ·rw[eh _ _ _ _ _ aa];exact fZ _ _ _ _ _ h.l0
 ·exact fZ _ _ _ _ _ ((eh _ _ _ _ _ aa).trans h.l1)
end
section
open Go.RowKit Go.BigFrame
attribute [local go_sem ↓] Go.wp_at_zero Go.wp_at_succ
set_option maxRecDepth 20000 in
set_option maxHeartbeats 0 in
theorem JX(M:Mx.Mat)(n e:Nat)(v:Value)(hlen:M.length=n)(hn:n<=1000)(he:2^n*(e+1)<=6000000000000)(hb:Mx.Bd (2^e) M)(w:World)(h:MR w v n M):
  Calls Tryz.prog 153 #[v] w fun e w'=>(∃z,e= .returned (.agg #[.bool z.s,.slice z.a z.n z.cap])/\IZ w' z (Mx.vF M))/\Below w.heap.size w w':=by
 have HRC:Hid (Mx.Rc n M):=by obtain⟨_,_,_,_,h3,_⟩:=h;exact h3
 have CL:Hid (∀w,MR w v n M->Calls Tryz.prog 112 #[v] w fun e w'=>(∃gm gs cs cap,e= .returned (.slice (some ⟨gm,0,none⟩) n cap)/\n<=cap/\MB w' w.heap.size gm n gs cs n M)/\Below w.heap.size w w'):=fun w h=>by
  have h1:=Cc M n v aa aa w h;unfold CV at h1;rw[hlen]at h1;exact h1
 have OF:=ae (fun w=>qm 1 aa w);have H:=ae h;have HB0:Hid (Mx.Bd (2^(Mx.bE e 0)) M):=by show Mx.Bd _ _;rw[Mx.Ke];exact hb
 have HE:Hid (∀k,k<=n->Mx.bE e k<=6000000000000):=fun k hk=>aX (Mx.bE_le hk) he;have HG0:Hid (Mx.bGo (n-0) 0 M 1 1=Mx.vF M):=by show _=_;unfold Mx.vF;rw[hlen];rfl
 have HLN:=ae hlen;obtain⟨a,cap,rfl,_⟩:=h;rw[hlen]at H CL⊢;generalize Mx.vF M=Z at*;clear he hb hlen
 go_enter Tryz.func153,Tryz.ntmps153
 go_wp2_with (first
  |(go_at_call 112;((with_reducible refine(CL.out _ (H.out.below (B:=w.heap.size) aG (af _))).mono ?_);rintro e w4 ⟨⟨gm,gs,cs,c4,rfl,hc4,hm⟩,hb4⟩;have HM:=ae hm;clear hm;have HB4:=ae hb4;clear hb4))
  |(go_at_call 115;((with_reducible refine(OF.out _).mono ?_);rintro e w5 ⟨⟨y,rfl,hy⟩,hb5⟩;have HY:=ae hy;have HB5:=ae hb5;clear hb5 hy)))
 have hsz0:(w.alloc (.cells #[.bool false,.slice none 0 0] 69)).heap.size=w.heap.size+1:=by simp
 have hD:DI w (w5.alloc (.cells #[.bool y.s,.slice y.a y.n y.cap] 69)) gm w5.heap.size n gs cs M y 1:=by
  have hm5:MB w5 (w.heap.size+1) gm n gs cs n M:=by
   have:=HM.out.below HB5.out (af _);rw[hsz0]at this;exact this
  have hgs:∀i,i<n->gs i<w5.heap.size:=fun i hi=>by
   obtain⟨_,_,_,_,h6⟩:=hm5.hc i (by rw[HLN.out];exact hi);exact(h6 aa).2.2.2.lt
  have hb1:Below w.heap.size w (w.alloc (.cells #[.bool false,.slice none 0 0] 69)):=by exact bel
  have hb4:Below w.heap.size w w4:=hb1.trans (HB4.out.mono aa);have hb5:Below w.heap.size w w5:=hb4.trans (HB5.out.mono hb4.size);have hlt4:w.heap.size<w4.heap.size:=by have:=HB4.out.size;omega
  have hlt5:w.heap.size<w5.heap.size:=by have:=HB5.out.size;omega
  have hh:=heap_alloc_new w (.cells #[.bool false,.slice none 0 0] 69);have hh5:=heap_alloc_new w5 (.cells #[.bool y.s,.slice y.a y.n y.cap] 69);have hbl:(w5.alloc (.cells #[.bool y.s,.slice y.a y.n y.cap] 69)).heap[w.heap.size]?=some (.cells #[.bool false,.slice none 0 0] 69):=(((Below.refl w5.heap.size w5).alloc (af _) _).block _ hlt5).trans ((HB5.out.block _ hlt4).trans ((HB4.out.block _ aa).trans hh));refine⟨hb5.alloc aa _,hm5.below ((Below.refl w5.heap.size w5).alloc (af _) _) (af _),HLN.out,hm5.lt,hgs,by simp,?_,?_,fun i=>?_,HY.out.below ((Below.refl w5.heap.size w5).alloc (af _) _) (af _),?_,?_,fun i=>?_⟩
  ·rw[cell_of_row _ w5.heap.size _ _ _ (0,0) hh5];rfl
  ·rw[cell_of_row _ w5.heap.size _ _ _ (0,0) hh5];rfl
  ·simp only[World.frozen?];rw[hh5];simp
  ·rw[cell_of_row _ w.heap.size _ _ _ (0,0) hbl];rfl
  ·rw[cell_of_row _ w.heap.size _ _ _ (0,0) hbl];rfl
  ·simp only[World.frozen?];rw[hbl];simp
 have HD:=ae hD;have f2:Hid (Fit 1):=ic (e:=1) aY aa;clear hD HM HB4 HY HB5 CL OF H hsz0;generalize w5.heap.size=L at*
 go_loopw [6,17] (fun s i wr=>∃(k:Nat) (sg:Int) (gs cs:Nat->Nat) (X:Mx.Mat) (y:IV) (last:Int),k<=n/\i= .int .i64 ((k:Int))/\s= .int .i64 sg/\(sg=1\/sg= -1)/\Hid (DI w wr gm L n gs cs X y last)/\Hid (Mx.bGo (n-k) k X last sg=Z)/\Hid (Mx.Bd (2^(Mx.bE e k)) X/\Mx.Rc n X/\Fit last)) (fun _ i _=>n-(intOf i).toNat)
 case atStart=>exact⟨0,1,gs,cs,M,y,1,by omega,rfl,rfl,.inl rfl,HD.out,HG0.out,HB0.out,HRC.out,f2.out⟩
 case round=>
  clear HD HG0 HB0 HRC f2 HLN;obtain⟨k,sg,gs,cs,X,y,last,hk,rfl,rfl,hsg,HD,HG,HX⟩:=hrel;by_cases hkn:k<n
  ·have hkn2:(k:Int)<(n:Int):=by omega
   go_wp2_with fail
   obtain⟨P,hP⟩:∃P,Mx.piv k X k=P:=⟨_,rfl⟩;have HP:=ae hP;have hPE:=ae hP
   go_loopw [8] (fun s wx=>∃p:Nat,k<=p/\p<=n/\s= .int .i64 ((p:Int))/\Hid (DI w wx gm L n gs cs X y last)/\Hid (Mx.piv k X p=P)/\Hid (∀q,k<=q->q<p->Mx.at' X q k=0)) (fun s _=>n-(intOf s).toNat)
   case atStart=>exact⟨k,af _,hk,rfl,HD.out,HP.out,fun q h1 h2=>by omega⟩
   case round=>
    clear HD hP HP;obtain⟨p,hkp,hpn,rfl,HD,HP,HQ⟩:=hrel;have hdl:=HD.out.lt;by_cases hp:p<n
    ·have hp2:(p:Int)<(n:Int):=by omega
     have hp3:decide ((p:Int)<(n:Int))=true:=by rw[da];exact hp2
     have hmo:=HD.out.mb.mo aa;obtain⟨x,kx,x0,x1,xz,xl⟩:=hmo.elem (i:=p) (j:=k) (by rw[HD.out.len];exact hp) hkn;have hgl:=hmo.lt;have HXZ:=ae xz;obtain⟨xs,xa,xn,xc⟩:=x;simp only[]at x0 x1;clear xz hmo;by_cases hz:Mx.at' X p k=0
     ·have hd:decide (Mx.at' X p k=0)=true:=by rw[da];exact hz
      have ZE:=ae (fun w hx=>hd▸pM ⟨xs,xa,xn,xc⟩ (Mx.at' X p k) w hx);have HZ:=ae hz;clear hz hd
      go_wp2_with ((go_at_call 231;(with_reducible refine(ZE.out _ ?_).mono ?_);(exact HXZ.out.below (B:=wr.heap.size) aG (af _));rintro e w1 ⟨rfl,hb1⟩;obtain⟨g1,rfl⟩:=mob hb1;clear hb1))
      go_roundw
      case rel=>exact⟨p+1,by omega,by omega,by go_num,HD.out.below aG,(Mx.FG (by rw[HD.out.len];exact hp) HZ.out).symm.trans HP.out,fun q h1 h2=>if e:q=p then(by rw[e];exact HZ.out)else HQ.out q h1 aa⟩
      case measure=>simp[intOf];omega
     ·have hd:decide (Mx.at' X p k=0)=false:=by rw[dh];exact hz
      have ZE:=ae (fun w hx=>hd▸pM ⟨xs,xa,xn,xc⟩ (Mx.at' X p k) w hx);have HZ:=ae hz;have hpp:Mx.piv k X p=p:=Mx.FH (by rw[HD.out.len];exact hp) hz;have hPp:P=p:=HP.out.symm.trans hpp;subst hPp;have h10:((P:Int)==(n:Int))=false:=by rw[beq_eq_false_iff_ne];omega
      clear hz hd hpp HP
      go_upto_region 10 with((go_at_call 231;(with_reducible refine(ZE.out _ ?_).mono ?_);(exact HXZ.out.below (B:=wr.heap.size) aG (af _));rintro e w1 ⟨rfl,hb1⟩;obtain⟨g1,rfl⟩:=mob hb1;clear hb1))
      have hkk:=(HD.out.mb.mo aa).hc k (by rw[HD.out.len];exact hkn);have kk:=hkk.1;have fk:=HD.out.mb.fr k;have fp:=HD.out.mb.fr P;have hrl:=HD.out.rlt.1;have HDx:Hid (DI w (more wr g1) gm L n gs cs X y last):=HD.out.below aG;clear hkk
      go_upto_if 42 with fail
      go_cut [6]from 18 to 119 (fun s wy=>s= .int .i64 (if P=k then sg else-sg)/\Hid (∃gs2 cs2,DI w wy gm L n gs2 cs2 (if P=k then X else Mx.swp X k P) y last))
      case first=>
       as_aux_lemma=>
        by_cases hpk:P=k
        ·subst hpk
         go_wp2_with fail
         go_meet
         case rel=>exact⟨by rw[aj trivial],gs,cs,by rw[aj trivial];exact HDx.out⟩
        ·have hpk2:((P:Int) !=(k:Int))=true:=by rw[bne_iff_ne];omega
         have hpk3:((P:Int)==(k:Int))=false:=by rw[beq_eq_false_iff_ne];omega
         have hpk4:¬P=k:=hpk;have hpk5:¬k=P:=fun e=>hpk e.symm;have HSW:=ae (HDx.out.swp hkn hp)
         go_upto_region 13 with fail
         go_region
         all_goals(go_wp2_with fail;go_meet)
         case rel=>
          have h9:=HSW.out;have e9:(((more wr g1).setCell ⟨gm,k,none⟩ (.slice (some ⟨gs P,0,none⟩) n (cs P))).setCell ⟨gm,P,none⟩ (.slice (some ⟨gs k,0,none⟩) n (cs k))).drew=more ((wr.setCell ⟨gm,k,none⟩ (.slice (some ⟨gs P,0,none⟩) n (cs P))).setCell ⟨gm,P,none⟩ (.slice (some ⟨gs k,0,none⟩) n (cs k))) (g1.1+1,g1.2):=by go_simp
          rw[e9]at h9;exact⟨by rw[ai hpk],_,_,by rw[ai hpk];exact h9⟩
      case rest=>
       obtain⟨rfl,HD2⟩:=hcut;have hswp:Mx.Bd (2^(Mx.bE e k)) (if P=k then X else Mx.swp X k P)/\Mx.Rc n (if P=k then X else Mx.swp X k P)/\Mx.at' (if P=k then X else Mx.swp X k P) k k=Mx.at' X P k:=by
        have hl:=HD.out.len;by_cases hpk:P=k
        ·rw[aj hpk,hpk];exact⟨HX.out.1,HX.out.2.1,rfl⟩
        ·rw[ai hpk];refine⟨Mx.KF HX.out.1 aa aa,Mx.tF HX.out.2.1 aa aa,?_⟩;rw[Mx.tG aa aa,ai aa,aj rfl]
       have HGN:Hid (Mx.bGo (n-(k+1)) (k+1) (Mx.na k last (if P=k then X else Mx.swp X k P)) (Mx.at' (if P=k then X else Mx.swp X k P) k k) (if P=k then sg else-sg)=Z):=by
        have h1:=HG.out;rw[show n-k=(n-(k+1))+1 by omega]at h1;unfold Mx.bGo at h1;rw[hPE.out,HD.out.len,ai aa]at h1;rw[hswp.2.2];exact h1
       have hsg2:(if P=k then sg else-sg)=1\/(if P=k then sg else-sg)= -1:=by split<;>omega
       have HX2:Hid (Mx.Bd (2^(Mx.bE e k)) (if P=k then X else Mx.swp X k P)/\Mx.Rc n (if P=k then X else Mx.swp X k P)):=⟨hswp.1,hswp.2.1⟩;have FL:Hid (Fit last):=HX.out.2.2;have HL2:Hid ((if P=k then X else Mx.swp X k P).length=n):=by
        have hl:=HD.out.len;show _=_;split
        ·exact hl
        ·rw[Mx.iX];exact hl
       clear HD HDx hPE HG HX HQ HZ hswp hp3 kx x0 x1 xl hgl HXZ kk fk fp hdl;generalize(if P=k then X else Mx.swp X k P)=X2 at*;generalize(if P=k then sg else-sg)=sg2 at*;obtain⟨gs2,cs2,hd2⟩:=HD2.out;have HD2:=ae hd2;clear hd2;have HB2:Hid (∀t,k+1+t<=n->Mx.Bd (2^(Mx.bE e (k+1))) (Mx.bK k last X2 t)):=fun t ht=>by
        have:=Mx.bK_bd (last:=last) (k:=k) (t:=t) HX2.out.2 HX2.out.1 (gW aa) (by rw[HL2.out];exact ht);rw[Mx.Ap]at this;exact this
       have hE1:=HE.out (k+1) aa;have hdl:=HD2.out.lt
       go_wp2_with fail
       go_loopw [9] (fun s wx=>∃i:Nat,k+1<=i/\i<=n/\s= .int .i64 ((i:Int))/\Hid (DI w wx gm L n gs2 cs2 (Mx.bK k last X2 (i-(k+1))) y last)) (fun s _=>n-(intOf s).toNat)
       case atStart=>exact⟨k+1,af _,by omega,by go_num,by rw[ly];exact HD2.out⟩
       case round=>
        clear HD2 hdl;obtain⟨i,hki,hin,rfl,HD⟩:=hrel;by_cases hi:i<n
        ·have hi2:(i:Int)<(n:Int):=by omega
         have hit:k+1+(i-(k+1))=i:=by omega
         have hlt:k+1+(i-(k+1))<X2.length:=by rw[HL2.out];omega
         have HS0:Hid (bY k last X2 (i-(k+1)) (k+1)=Mx.bK k last X2 (i-(k+1))):=GK HX2.out.2 hlt;have HSN:Hid (bY k last X2 (i-(k+1)) n=Mx.bK k last X2 (i+1-(k+1))):=by
          show _=_;rw[LY HX2.out.2 hlt,show i+1-(k+1)=i-(k+1)+1 by omega]
         have HYK:=ae (fun j l=>bY_k (last:=last) hlt j l);have HYI:=ae (fun j l (hl:l<n) (h:j<=l\/l<=k)=>bY_i (last:=last) (j:=j) HX2.out.2 hlt hl h);have HYS:=ae (fun j (hj:k<j) (hjn:j<n)=>Kb (last:=last) HX2.out.2 hlt hj hjn);rw[hit]at HYI HYS;clear hlt hit
         go_wp2_with fail
         go_loopw [10] (fun s wx=>∃j:Nat,k+1<=j/\j<=n/\s= .int .i64 ((j:Int))/\Hid (DI w wx gm L n gs2 cs2 (bY k last X2 (i-(k+1)) j) y last)) (fun s _=>n-(intOf s).toNat)
         case atStart=>exact⟨k+1,af _,by omega,by go_num,by show DI _ _ _ _ _ _ _ _ _ _;rw[HS0.out];exact HD.out⟩
         case round=>
          clear HD HS0;obtain⟨j,hkj,hjn,rfl,HD⟩:=hrel;have hdl:=HD.out.lt;by_cases hj:j<n
          ·have hj2:(j:Int)<(n:Int):=by omega
           have hmo:=HD.out.mb.mo aa;have hln:=HD.out.len;have hrc:=hmo.rc;have e1:=HYK.out j k;have e2:=HYK.out j j;have e3:=HYI.out j j hj (.inl (af _));have e4:=HYI.out j k hkn (.inr (af _));have e5:=HYS.out j aa hj;generalize hYE:bY k last X2 (i-(k+1)) j=Y at*;obtain⟨p,kp,p0,p1,pz,pl⟩:=hmo.elem (i:=k) (j:=k) aa hkn;obtain⟨q,kq,q0,q1,qz,ql⟩:=hmo.elem (i:=i) (j:=j) aa hj;obtain⟨r,_,r0,r1,rz,rl⟩:=hmo.elem (i:=i) (j:=k) aa hkn;obtain⟨t,_,t0,t1,tz,tl⟩:=hmo.elem (i:=k) (j:=j) aa hj;rw[e1]at pz;rw[e3]at qz;rw[e4]at rz;rw[e2]at tz;have f0:=(hmo.hc i aa).2.2.2.2.at (k:=j) (getD_some (by rw[hrc.rw aa];exact hj));obtain⟨_,c9,d9,i9,f0,f1⟩:=f0;clear c9 d9 i9;have HP:=ae pz;have HQ:=ae qz;have HR:=ae rz;have HT:=ae tz;have hgl:=hmo.lt;have B1:=HX2.out.1 k k;have B2:=HX2.out.1 i j;have B3:=HX2.out.1 i k;have B4:=HX2.out.1 k j;have HE5:=ae e5;have l0:=HD.out.l0;have l1:=HD.out.l1;generalize Mx.at' X2 k k=Pz at*;generalize Mx.at' X2 i j=Qz at*;generalize Mx.at' X2 i k=Rz at*;generalize Mx.at' X2 k j=Tz at*;have m1:(Pz*Qz).natAbs<=2^(Mx.bE e k)*2^(Mx.bE e k):=by rw[gF];exact eQ B1 B2
           have m2:(Rz*Tz).natAbs<=2^(Mx.bE e k)*2^(Mx.bE e k):=by rw[gF];exact eQ B3 B4
           have hS:=Mx.Ap e k;rw[ck]at hS;have hE0:=HE.out k hk;have FP:Hid (Fit Pz):=ic B1 hE0;have FQ:Hid (Fit Qz):=ic B2 hE0;have FR:Hid (Fit Rz):=ic B3 hE0;have FT:Hid (Fit Tz):=ic B4 hE0;have F1:Hid (Fit (Pz*Qz)):=ic (e:=Mx.bE e (k+1)) aa hE1;have F2:Hid (Fit (Rz*Tz)):=ic (e:=Mx.bE e (k+1)) aa hE1;have F3:Hid (Fit (Pz*Qz-Rz*Tz)):=ic (e:=Mx.bE e (k+1)) aa hE1;have hx1:gs2 i<wr.heap.size:=ql;clear e1 e2 e3 e4 e5 pz qz rz tz hrc hmo hln B1 B2 B3 B4 m1 m2 hS hE0 hYE;obtain⟨ps,pa,pn,pc⟩:=p;obtain⟨qs,qa,qn,qc⟩:=q;obtain⟨rs,ra,rn,rc⟩:=r;obtain⟨ts,ta,tn,tc⟩:=t;obtain⟨ys,ya,yn,yc⟩:=y;simp only[]at p0 p1 q0 q1 r0 r1 t0 t1 l0 l1
           go_wp2_with fail
           (apply Own3.jC 39 [Sum.inl _,Sum.inl _,Sum.inl _,Sum.inl _,Sum.inl _,Sum.inl _,Sum.inl _,Sum.inl _,Sum.inl _,Sum.inl _,Sum.inl _,Sum.inl _,Sum.inl _,Sum.inl _,Sum.inl _,Sum.inl _,Sum.inl _,Sum.inl _,Sum.inl _,Sum.inr (rIZ (Pz*Qz)),Sum.inl _,Sum.inl _,Sum.inl _,Sum.inl _,Sum.inl _,Sum.inl _,Sum.inl _,Sum.inl _,Sum.inl _,Sum.inl _,Sum.inl _,Sum.inl _,Sum.inl _,Sum.inl _,Sum.inr (rIZ (Rz*Tz)),Sum.inr (rIZ (Pz*Qz-Rz*Tz)),Sum.inl _,Sum.inr (rIZ ((Pz*Qz-Rz*Tz)/last)),Sum.inl _] ak ak;simp only[fT,eU,gK,ft];refine bZ ?_;refine bZ ?_;refine bZ ?_;refine bZ ?_;refine bZ ?_;refine bZ ?_;refine bZ ?_;refine bZ ?_;refine bZ ?_;refine bZ ?_;refine bZ ?_;refine bZ ?_;refine bZ ?_;refine bZ ?_;refine bZ ?_;refine bZ ?_;refine bZ ?_;refine bZ ?_;refine bZ ?_;(refine Own3.iQ rfl (fun K hK=>?_) (fun x211=>?_);(focus(go_simp;clear hK K;intro w' hw' hcb';first|(go_at_call 114;(first|with_reducible exact eL (hJ ⟨ps,pa,pn,pc⟩ ⟨qs,qa,qn,qc⟩ Pz Qz FP.out FQ.out _ ((HP.out.below (Ext.below hw') (af _)).ip) ((HQ.out.below (Ext.below hw') (af _)).ip))|exact eL (hJ ⟨rs,ra,rn,rc⟩ ⟨ts,ta,tn,tc⟩ Rz Tz FR.out FT.out _ ((HR.out.below (Ext.below hw') (af _)).ip) ((HT.out.below (Ext.below hw') (af _)).ip))))|(go_at_call 113;(have h1:=hcb'.get (u:=19) jg;have h2:=hcb'.get (u:=34) jg;exact eL (jF x211 x212 (Pz*Qz) (Rz*Tz) F1.out F2.out _ (IZ.ip (show IZ w' x211 (Pz*Qz)from h1)) (IZ.ip (show IZ w' x212 (Rz*Tz)from h2)))))|(go_at_call 250;(have h1:=hcb'.get (u:=35) jg;exact eL (lA x213 ⟨ys,ya,yn,yc⟩ (Pz*Qz-Rz*Tz) last F3.out FL.out _ (IZ.ip (show IZ w' x213 (Pz*Qz-Rz*Tz)from h1)) ((HD.out.iz.below (Ext.below hw') (af _)).ip))))));simp only[rIZ,Act.put,nA,mj,iy]);refine bZ ?_;refine bZ ?_;refine bZ ?_;refine bZ ?_;refine bZ ?_;refine bZ ?_;refine bZ ?_;refine bZ ?_;refine bZ ?_;refine bZ ?_;refine bZ ?_;refine bZ ?_;refine bZ ?_;refine bZ ?_;(refine Own3.iQ rfl (fun K hK=>?_) (fun x212=>?_);(focus(go_simp;clear hK K;intro w' hw' hcb';first|(go_at_call 114;(first|with_reducible exact eL (hJ ⟨ps,pa,pn,pc⟩ ⟨qs,qa,qn,qc⟩ Pz Qz FP.out FQ.out _ ((HP.out.below (Ext.below hw') (af _)).ip) ((HQ.out.below (Ext.below hw') (af _)).ip))|exact eL (hJ ⟨rs,ra,rn,rc⟩ ⟨ts,ta,tn,tc⟩ Rz Tz FR.out FT.out _ ((HR.out.below (Ext.below hw') (af _)).ip) ((HT.out.below (Ext.below hw') (af _)).ip))))|(go_at_call 113;(have h1:=hcb'.get (u:=19) jg;have h2:=hcb'.get (u:=34) jg;exact eL (jF x211 x212 (Pz*Qz) (Rz*Tz) F1.out F2.out _ (IZ.ip (show IZ w' x211 (Pz*Qz)from h1)) (IZ.ip (show IZ w' x212 (Rz*Tz)from h2)))))|(go_at_call 250;(have h1:=hcb'.get (u:=35) jg;exact eL (lA x213 ⟨ys,ya,yn,yc⟩ (Pz*Qz-Rz*Tz) last F3.out FL.out _ (IZ.ip (show IZ w' x213 (Pz*Qz-Rz*Tz)from h1)) ((HD.out.iz.below (Ext.below hw') (af _)).ip))))));simp only[Act.put,nA,mj,iy]);(refine Own3.iQ rfl (fun K hK=>?_) (fun x213=>?_);(focus(go_simp;clear hK K;intro w' hw' hcb';first|(go_at_call 114;(first|with_reducible exact eL (hJ ⟨ps,pa,pn,pc⟩ ⟨qs,qa,qn,qc⟩ Pz Qz FP.out FQ.out _ ((HP.out.below (Ext.below hw') (af _)).ip) ((HQ.out.below (Ext.below hw') (af _)).ip))|exact eL (hJ ⟨rs,ra,rn,rc⟩ ⟨ts,ta,tn,tc⟩ Rz Tz FR.out FT.out _ ((HR.out.below (Ext.below hw') (af _)).ip) ((HT.out.below (Ext.below hw') (af _)).ip))))|(go_at_call 113;(have h1:=hcb'.get (u:=19) jg;have h2:=hcb'.get (u:=34) jg;exact eL (jF x211 x212 (Pz*Qz) (Rz*Tz) F1.out F2.out _ (IZ.ip (show IZ w' x211 (Pz*Qz)from h1)) (IZ.ip (show IZ w' x212 (Rz*Tz)from h2)))))|(go_at_call 250;(have h1:=hcb'.get (u:=35) jg;exact eL (lA x213 ⟨ys,ya,yn,yc⟩ (Pz*Qz-Rz*Tz) last F3.out FL.out _ (IZ.ip (show IZ w' x213 (Pz*Qz-Rz*Tz)from h1)) ((HD.out.iz.below (Ext.below hw') (af _)).ip))))));simp only[Act.put,nA,mj,iy]);refine bZ ?_;(refine Own3.iQ rfl (fun K hK=>?_) (fun x214=>?_);(focus(go_simp;clear hK K;intro w' hw' hcb';first|(go_at_call 114;(first|with_reducible exact eL (hJ ⟨ps,pa,pn,pc⟩ ⟨qs,qa,qn,qc⟩ Pz Qz FP.out FQ.out _ ((HP.out.below (Ext.below hw') (af _)).ip) ((HQ.out.below (Ext.below hw') (af _)).ip))|exact eL (hJ ⟨rs,ra,rn,rc⟩ ⟨ts,ta,tn,tc⟩ Rz Tz FR.out FT.out _ ((HR.out.below (Ext.below hw') (af _)).ip) ((HT.out.below (Ext.below hw') (af _)).ip))))|(go_at_call 113;(have h1:=hcb'.get (u:=19) jg;have h2:=hcb'.get (u:=34) jg;exact eL (jF x211 x212 (Pz*Qz) (Rz*Tz) F1.out F2.out _ (IZ.ip (show IZ w' x211 (Pz*Qz)from h1)) (IZ.ip (show IZ w' x212 (Rz*Tz)from h2)))))|(go_at_call 250;(have h1:=hcb'.get (u:=35) jg;exact eL (lA x213 ⟨ys,ya,yn,yc⟩ (Pz*Qz-Rz*Tz) last F3.out FL.out _ (IZ.ip (show IZ w' x213 (Pz*Qz-Rz*Tz)from h1)) ((HD.out.iz.below (Ext.below hw') (af _)).ip))))));simp only[Act.put,nA,mj,iy]);refine bZ ?_;refine Own3.yC ?_;intro w21 hw21;have hB21:=hw21.1;have HY211:Hid (IZ w21 x211 (Pz*Qz)):=ae (hw21.get (u:=19) (Or.inr (Or.inr (Or.inr (Or.inl ⟨rfl,rfl⟩)))));have HY212:Hid (IZ w21 x212 (Rz*Tz)):=ae (hw21.get (u:=34) (Or.inr (Or.inr (Or.inl ⟨rfl,rfl⟩))));have HY213:Hid (IZ w21 x213 (Pz*Qz-Rz*Tz)):=ae (hw21.get (u:=35) (Or.inr (Or.inl ⟨rfl,rfl⟩)));have HY214:Hid (IZ w21 x214 ((Pz*Qz-Rz*Tz)/last)):=ae (hw21.get (u:=37) (Or.inl ⟨rfl,rfl⟩));clear hw21;obtain⟨g21,rfl⟩:=mob hB21;clear hB21)
           clear HY211 HY212 HY213
           go_wp2_with fail
           go_roundw
           case rel=>
            have h1:=(HD.out.below (wx:=more wr g21) aG).row hi hj HY214.out;have e5:eH (more wr g21) (gs2 i) j x214=more (eH wr (gs2 i) j x214) g21:=by unfold eH;go_simp
            rw[e5,HE5.out]at h1;exact⟨j+1,by omega,by omega,by go_num,h1⟩
           case measure=>simp[intOf];omega
          ·obtain rfl:j=n:=by omega
           have hj2:¬(j:Int)<(j:Int):=by omega
           go_wp2_with fail
           go_roundw
           case rel=>exact⟨i+1,by omega,by omega,by go_num,by show DI _ _ _ _ _ _ _ _ _ _;rw[<-HSN.out];exact HD.out⟩
           case measure=>simp[intOf];omega
        ·obtain rfl:i=n:=by omega
         have hi2:¬(i:Int)<(i:Int):=by omega
         have hdl:=HD.out.lt;have hmo:=HD.out.mb.mo aa;obtain⟨x,kx,x0,x1,xz,xl⟩:=hmo.elem (i:=k) (j:=k) (by rw[HD.out.len];exact hkn) hkn;have hgl:=hmo.lt;have ekk:Mx.at' (Mx.bK k last X2 (i-(k+1))) k k=Mx.at' X2 k k:=by
          unfold Mx.at';rw[Mx.rF k last X2 _ (by rw[HL2.out];omega),ai aa]
         rw[ekk]at xz;have l0:=HD.out.l0;have l1:=HD.out.l1;have lf0:=HD.out.lf 0;have lf1:=HD.out.lf 1;have HN:=ae (HD.out.last xz);clear hmo xz ekk
         go_wp2_with fail
         go_roundw
         case rel=>
          refine⟨k+1,sg2,gs2,cs2,_,x,_,by omega,by go_num,rfl,hsg2,HN.out,?_,?_⟩
          ·have h1:=HGN.out;unfold Mx.na at h1;rw[HL2.out]at h1;exact h1
          ·exact⟨HB2.out _ aa,Mx.Cz HX2.out.2 _ (by rw[HL2.out];omega),ic (HX2.out.1 k k) (HE.out k hk)⟩
         case measure=>simp[intOf];omega
    ·obtain rfl:p=n:=by omega
     have hp2:¬(p:Int)<(p:Int):=by omega
     have hp3:decide ((p:Int)<(p:Int))=false:=by rw[dh];exact hp2
     have hP2:P=p:=HP.out.symm.trans (Mx.Je (by rw[HD.out.len];exact af _));have r0:=HD.out.r0;have r1:=HD.out.r1;have rf0:=HD.out.rf 0;have rf1:=HD.out.rf 1;have hr:=HD.out.rlt.2;have HZ0:Hid (Z=0):=by
      have h1:=HG.out;rw[show p-k=(p-(k+1))+1 by omega]at h1;unfold Mx.bGo at h1;rw[hPE.out,hP2,HD.out.len,aj rfl]at h1;exact h1.symm
     have hbl:=HD.out.bl
     go_wp2_with fail
     have t0:((wr.setCell ⟨w.heap.size,0,none⟩ (.bool false)).setCell ⟨w.heap.size,1,none⟩ (.slice none 0 0)).cell? ⟨w.heap.size,0,none⟩=some (.bool false):=by go_simp
     have t1:((wr.setCell ⟨w.heap.size,0,none⟩ (.bool false)).setCell ⟨w.heap.size,1,none⟩ (.slice none 0 0)).cell? ⟨w.heap.size,1,none⟩=some (.slice none 0 0):=by go_simp
     refine bodyPost_ret (v:=.agg #[.bool false,.slice none 0 0]) zb61 rfl ⟨⟨⟨false,none,0,0⟩,rfl,?_⟩,?_⟩
     ·rw[HZ0.out];exact IZ.zero _
     ·exact bel
  ·obtain rfl:k=n:=by omega
   have hkn2:¬(k:Int)<(k:Int):=by omega
   have r0:=HD.out.r0;have r1:=HD.out.r1;have rf0:=HD.out.rf 0;have rf1:=HD.out.rf 1;have l0:=HD.out.l0;have l1:=HD.out.l1;have hr:=HD.out.rlt.2;have hdl:=HD.out.lt;have hbl:=HD.out.bl;have hne:w.heap.size<L:=by have:=HD.out.rlt.1;have:=HD.out.gl;omega
   have hnw:=NW.bool HD.out.r0;have hzz:sg*last=Z:=by
    have h1:=HG.out;rw[ly]at h1;exact h1
   have HZZ:=ae hzz;have HIZ:=ae HD.out.iz;have HFL:=ae HX.out.2.2;obtain⟨ys,ya,yn,yc⟩:=y;simp only[]at l0 l1;clear hzz HD HG HX;rcases hsg with rfl|rfl
   ·have k2:Chg w.heap.size wr (eH wr w.heap.size 0 ⟨ys,ya,yn,yc⟩):=sk (Chg.refl _ _) 0 _;have hz2:=HIZ.out.chg k2 hnw;unfold eH at hz2
    go_wp2_with fail
    have t0:((wr.setCell ⟨w.heap.size,0,none⟩ (.bool ys)).setCell ⟨w.heap.size,1,none⟩ (.slice ya yn yc)).cell? ⟨w.heap.size,0,none⟩=some (.bool ys):=by go_simp
    have t1:((wr.setCell ⟨w.heap.size,0,none⟩ (.bool ys)).setCell ⟨w.heap.size,1,none⟩ (.slice ya yn yc)).cell? ⟨w.heap.size,1,none⟩=some (.slice ya yn yc):=by go_simp
    refine bodyPost_ret (v:=.agg #[.bool ((⟨ys,ya,yn,yc⟩:IV)).s,.slice ((⟨ys,ya,yn,yc⟩:IV)).a ((⟨ys,ya,yn,yc⟩:IV)).n ((⟨ys,ya,yn,yc⟩:IV)).cap]) zb61 rfl ⟨⟨⟨ys,ya,yn,yc⟩,rfl,?_⟩,?_⟩
    ·rw[<-HZZ.out,dK];exact hz2
    ·exact bel
   ·have NG:=ae (fun w hx=>rY ⟨ys,ya,yn,yc⟩ last HFL.out w hx)
    go_wp2_with (go_at_call 234;((with_reducible refine(NG.out _ (HIZ.out.below (B:=wr.heap.size) aG (af _)).ip).mono ?_);rintro e w6 ⟨⟨x,rfl,hx⟩,hb6⟩;have HX6:=ae hx;obtain⟨g6,rfl⟩:=mob hb6;clear hb6 hx))
    have k2:Chg w.heap.size (more wr g6) (eH (more wr g6) w.heap.size 0 x):=sk (Chg.refl _ _) 0 _;have hz2:=HX6.out.chg k2 (hnw.below (B:=wr.heap.size) (w':=more wr g6) aG (af _) hr);have e5:eH (more wr g6) w.heap.size 0 x=more (eH wr w.heap.size 0 x) g6:=by unfold eH;go_simp
    rw[e5]at hz2;unfold eH at hz2;have t0:(more ((wr.setCell ⟨w.heap.size,0,none⟩ (.bool x.s)).setCell ⟨w.heap.size,1,none⟩ (.slice x.a x.n x.cap)) g6).cell? ⟨w.heap.size,0,none⟩=some (.bool x.s):=by go_simp
    have t1:(more ((wr.setCell ⟨w.heap.size,0,none⟩ (.bool x.s)).setCell ⟨w.heap.size,1,none⟩ (.slice x.a x.n x.cap)) g6).cell? ⟨w.heap.size,1,none⟩=some (.slice x.a x.n x.cap):=by go_simp
    refine bodyPost_ret (v:=.agg #[.bool x.s,.slice x.a x.n x.cap]) zb61 rfl ⟨⟨x,rfl,?_⟩,?_⟩
    ·rw[<-HZZ.out,show(-1:Int)*last= -last by omega];exact hz2
    ·exact bel
end
section
namespace Mx
theorem ko(j:Nat):skip 0 j=j+1:=by unfold skip;rw[ai aa]
theorem vc(l:Nat):skip (l+1) 0=0:=by unfold skip;rw[aj aa]
theorem Dx(l i:Nat):skip (l+1) (i+1)=skip l i+1:=by
 unfold skip;by_cases h:i<l
 ·rw[aj h,aj aa]
 ·rw[ai h,ai aa]
theorem lD(n:Nat)(g:Nat->Int):sm (n+1) g=g 0+sm n (fun l=>g (l+1)):=by
 rw[zM g n 0 (aP _),cv n (fun l=>g (skip 0 l)) (fun l=>g (l+1)) fun l _=>by rw[ko]];omega
theorem Il(n:Nat)(h:∀f,D (n+1) f=D (n+1) fun i j=>f j i)(f:Nat->Nat->Int):
  D (n+2) f=f 0 0*D (n+1) (fun i j=>f (i+1) (j+1))+sm (n+1) fun l=>sm (n+1) fun m=>-(sg l*sg m)*(f 0 (l+1)*f (m+1) 0)*D n (fun i j=>f (skip m j+1) (skip l i+1)):=by
 show sm (n+2) (fun k=>sg k*f 0 k*D (n+1) (fun i j=>f (i+1) (skip k j)))=_;rw[lD];congr 1
 ·rw[show sg 0=1 from rfl,dK,cE (n+1) (fun i j=>f (i+1) (skip 0 j)) (fun i j=>f (i+1) (j+1)) fun i j _ _=>by rw[ko]]
 ·refine cv _ _ _ fun l _=>?_;rw[h];show sg (l+1)*f 0 (l+1)*sm (n+1) (fun m=>sg m*f (m+1) (skip (l+1) 0)*D n (fun i j=>f (skip m j+1) (skip (l+1) (i+1))))=_;rw[<-tJ];refine cv _ _ _ fun m _=>?_;rw[vc,nG,cE n (fun i j=>f (skip m j+1) (skip (l+1) (i+1))) (fun i j=>f (skip m j+1) (skip l i+1)) fun i j _ _=>by rw[Dx]];generalize D n _=d;simp only[kg,de];congr 1;rw[tA (f 0 (l+1)) (sg m)]
theorem Im:∀n,(∀f,D n f=D n fun i j=>f j i)/\∀f,D (n+1) f=D (n+1) fun i j=>f j i
 |0=>⟨fun _=>rfl,fun f=>by
  show sm 1 (fun k=>sg k*f 0 k*1)=sm 1 (fun k=>sg k*f k 0*1);rfl⟩
 |n+1=>by
  obtain⟨h1,h2⟩:=Im n;refine⟨h2,fun f=>?_⟩;rw[Il n h2 f,Il n h2 (fun i j=>f j i)];congr 1
  ·rw[h2]
  ·rw[vb];refine cv _ _ _ fun l _=>cv _ _ _ fun m _=>?_;rw[h1,gI (sg m) (sg l),gI (f 0 (m+1))]
theorem vI(n:Nat)(f:Nat->Nat->Int):D n f=D n fun i j=>f j i:=(Im n).1 f
theorem Ku{n i:Nat}(hi:i<n)(f:Nat->Nat->Int):D n (upd f i fun _=>0)=0:=by
 have h:=rH 0 0 n f i (fun _=>0) (fun _=>0) hi;simpa using h
theorem D_sm{n i:Nat}(hi:i<n)(f:Nat->Nat->Int)(v:Nat->Int)(A:Nat->Nat->Int):∀m,D n (upd f i fun j=>sm m fun k=>v k*A k j)=sm m fun k=>v k*D n (upd f i (A k))
 |0=>Ku hi f
 |m+1=>by
  have h:=rH 1 (v m) n f i (fun j=>sm m fun k=>v k*A k j) (A m) hi;rw[D_sm hi f v A m]at h;show D n (upd f i fun j=>sm m (fun k=>v k*A k j)+v m*A m j)=sm m (fun k=>v k*D n (upd f i (A k)))+v m*D n (upd f i (A m));rw[dK]at h;rw[<-h];congr 2;funext j;rw[dK]
end Mx
end
section
namespace Mx
theorem CY{n i:Nat}(hi:i<n)(F:Nat->Nat->Int)(x:Int)(a y:Nat->Int)(B:Nat->Nat->Int)(m:Nat):D n (upd F i fun j=>x*a j+sm m fun k=>y k*B k j)=x*D n (upd F i a)+sm m fun k=>y k*D n (upd F i (B k)):=by
 have h:=rH x 1 n F i a (fun j=>sm m fun k=>y k*B k j) hi;rw[D_sm hi F y B m,dK]at h;rw[<-h];congr 2;funext j;rw[dK]
def cyc(m a:Nat):Nat:=if a=0 then m else if a<=m then a-1 else a
theorem Ip{n:Nat}(g:Nat->Nat->Int):∀m,m<n->D n (fun a b=>g (cyc m a) b)=sg m*D n g
 |0,_=>by
  rw[show sg 0=1 from rfl,dK];exact cE n _ _ fun a b _ _=>by
   unfold cyc;by_cases h:a=0
   ·rw[aj h,h]
   ·rw[ai h,ai aa]
 |m+1,hm=>by
  have h:=E1 (n:=n) (i:=0) (j:=m+1) aa hm aa (fun a b=>g (cyc m a) b);rw[Ip g m aa]at h;rw[nG,kg,<-h];exact cE n _ _ fun a b _ _=>by
   unfold upd cyc;by_cases h1:a=m+1
   ·rw[aj h1,ai aa,aj aa,aj rfl];congr 1;omega
   ·rw[ai h1];by_cases h2:a=0
    ·rw[aj h2,aj h2,ai aa,ai aa]
    ·rw[ai h2,ai h2];show _=g (if a=0 then m else if a<=m then a-1 else a) b;by_cases h3:a<=m
     ·rw[aj aa,ai h2,aj h3]
     ·rw[ai aa,ai h2,ai h3]
theorem sg_sq(k:Nat):sg k*sg k=1:=by unfold sg;split<;>rfl
def rsg:Nat->Int
 |0=>1
 |n+1=>sg n*rsg n
theorem DS:∀n,rsg n*rsg n=1
 |0=>rfl
 |n+1=>by
  have h1:=sg_sq n;have h2:=DS n;show sg n*rsg n*(sg n*rsg n)=1;rw[de,tA (rsg n),h2,Int.mul_one,h1]
theorem CW:∀(n:Nat) (g:Nat->Nat->Int),D n (fun a b=>g (n-(a+1)) b)=rsg n*D n g
 |0,_=>by simp[D,rsg]
 |n+1,g=>by
  have h:=Ip g n (Nat.lt_succ_self n);show D (n+1) _=sg n*rsg n*D (n+1) g;rw[xx,<-h];show sm (n+1) (fun k=>sg k*g (n+1-(0+1)) k*D n (fun a b=>g (n+1-(a+1+1)) (skip k b)))=sm (n+1) (fun k=>sg k*g (cyc n 0) k*D n (fun a b=>g (cyc n (a+1)) (skip k b)))*rsg n;rw[gI,<-tJ];refine cv _ _ _ fun k _=>?_;have e1:cyc n 0=n+1-(0+1):=by unfold cyc;rw[aj rfl];omega
  have e2:=CW n (fun a b=>g (cyc n (a+1)) (skip k b));rw[cE n (fun a b=>g (n+1-(a+1+1)) (skip k b)) (fun a b=>g (cyc n (n-(a+1)+1)) (skip k b)) fun a b ha _=>by
   unfold cyc;rw[ai aa,aj aa];congr 1;omega,e2,e1]
  rw[tA (rsg n)]
theorem Mr(n:Nat)(g:Nat->Nat->Int):D n (fun a b=>g (n-(a+1)) (n-(b+1)))=D n g:=by
 rw[CW n (fun a b=>g a (n-(b+1))),vI,CW n (fun b a=>g a b),<-de,DS,dK,<-vI n g]
namespace Ba
variable (f : Nat->Nat->Int)
def xr(k:Nat)(v:Nat->Int)(a:Nat):Nat->Int:=if a=0 then v else f (k-a)
def xc(k j b:Nat):Nat:=if b=0 then j else k-b
def X(k:Nat)(v:Nat->Int)(j:Nat):Int:=D (k+1) fun a b=>xr f k v a (xc k j b)
def P(k:Nat):Int:=D k fun a b=>f (k-(a+1)) (k-(b+1))
theorem kT(k:Nat)(v:Nat->Int):xr f k v 0=v:=aj rfl
theorem qN(k:Nat)(v:Nat->Int)(a:Nat):xr f k v (a+1)=f (k-(a+1)):=ai aa
theorem kU(k j:Nat):xc k j 0=j:=aj rfl
theorem qO(k j b:Nat):xc k j (b+1)=k-(b+1):=ai aa
theorem P_all(n:Nat):P f n=D n f:=Mr n f
theorem Mg(k:Nat):X f k (f k) k=P f (k+1):=cE _ _ _ fun a b _ _=>by
 have ha:xr f k (f k) a=f (k+1-(a+1)):=by
  cases a with
  |zero=>rw[kT];rfl
  |succ a=>rw[qN];congr 1;omega
 have hb:xc k k b=k+1-(b+1):=by
  cases b with
  |zero=>rw[kU];rfl
  |succ b=>rw[qO];omega
 rw[ha,hb]
def L(k:Nat)(v:Nat->Int)(t:Nat):Int:=sg (t+1)*D k fun a b=>xr f k v (skip (t+1) b) (k-(a+1))
theorem Ih(k:Nat)(v:Nat->Int)(j:Nat):X f k v j=P f k*v j+sm k fun t=>L f k v t*f (k-(t+1)) j:=by
 unfold X;rw[vI];show sm (k+1) (fun t=>sg t*xr f k v t (xc k j 0)*D k (fun a b=>xr f k v (skip t b) (xc k j (a+1))))=_;rw[lD];congr 1
 ·rw[kT,kU,show sg 0=1 from rfl,dK,gI];congr 1;unfold P;rw[vI];exact cE k _ _ fun a b _ _=>by rw[ko,qN,qO]
 ·refine cv _ _ _ fun t _=>?_;rw[qN,kU];unfold L;rw[xx];congr 2
def N(k j t:Nat):Int:=sg (t+1)*D k fun a b=>f (k-(a+1)) (xc k j (skip (t+1) b))
theorem X_row(k:Nat)(v:Nat->Int)(j:Nat):X f k v j=P f k*v j+sm k fun t=>N f k j t*v (k-(t+1)):=by
 unfold X;show sm (k+1) (fun t=>sg t*xr f k v 0 (xc k j t)*D k (fun a b=>xr f k v (a+1) (xc k j (skip t b))))=_;rw[lD];congr 1
 ·rw[kT,kU,show sg 0=1 from rfl,dK,gI];congr 1
 ·refine cv _ _ _ fun t _=>?_;rw[kT,qO];unfold N;rw[xx];congr 2
theorem Mf{k t:Nat}(h:t<k)(j:Nat):X f k (f t) j=0:=nR (i:=0) (j:=k-t) aa aa aa _ fun l=>by
 obtain⟨s,hs⟩:∃s,k-t=s+1:=⟨k-t-1,by omega⟩;rw[hs,kT,qN,show k-(s+1)=t by omega]
theorem E0{k t:Nat}(h:t<k)(v:Nat->Int):X f k v t=0:=by
 unfold X;rw[vI];refine nR (i:=0) (j:=k-t) aa aa aa _ fun l=>?_;obtain⟨s,hs⟩:∃s,k-t=s+1:=⟨k-t-1,by omega⟩;rw[hs,kU,qO,show k-(s+1)=t by omega]
def zc(k c j b:Nat):Nat:=if b=0 then c else if b=1 then j else k+1-b
def zr(k:Nat)(u w:Nat->Int)(a:Nat):Nat->Int:=if a=0 then u else if a=1 then w else f (k+1-a)
def Z(k:Nat)(u w:Nat->Int)(c j:Nat):Int:=D (k+2) fun a b=>zr f k u w a (zc k c j b)
theorem xj(k:Nat)(u w:Nat->Int)(a:Nat):zr f k u w (a+2)=f (k-(a+1)):=by
 unfold zr;rw[ai aa,ai aa];congr 1;omega
theorem xm(k c j b:Nat):zc k c j (b+2)=k-(b+1):=by
 unfold zc;rw[ai aa,ai aa];omega
theorem Mi(k:Nat)(v:Nat->Int)(j:Nat):X f (k+1) v j=Z f k v (f k) j k:=cE _ _ _ fun a b _ _=>by
 have ha:xr f (k+1) v a=zr f k v (f k) a:=by
  unfold xr zr;by_cases h:a=0
  ·rw[aj h,aj h]
  ·rw[ai h,ai h];by_cases h1:a=1
   ·rw[aj h1,h1];rfl
   ·rw[ai h1]
 have hb:xc (k+1) j b=zc k j k b:=by
  unfold xc zc;by_cases h:b=0
  ·rw[aj h,aj h]
  ·rw[ai h,ai h];by_cases h1:b=1
   ·rw[aj h1,h1];rfl
   ·rw[ai h1]
 rw[ha,hb]
theorem Z_u(k:Nat)(u w:Nat->Int)(c j:Nat):Z f k (X f k u) w c j=P f k*Z f k u w c j:=by
 have e:∀u,Z f k u w c j=D (k+2) (upd (fun a b=>zr f k u w a (zc k c j b)) 0 fun b=>u (zc k c j b)):=fun u=>cE _ _ _ fun a b _ _=>by
  unfold upd;by_cases h:a=0
  ·rw[aj h,h];rfl
  ·rw[ai h]
 have e2:∀u v:Nat->Int,D (k+2) (upd (fun a b=>zr f k u w a (zc k c j b)) 0 fun b=>v (zc k c j b))=D (k+2) (upd (fun a b=>zr f k w w a (zc k c j b)) 0 fun b=>v (zc k c j b)):=fun u v=>cE _ _ _ fun a b _ _=>by
  unfold upd zr;by_cases h:a=0
  ·rw[aj h,aj h]
  ·rw[ai h,ai h];show(if a=0 then u else if a=1 then w else f (k+1-a)) _=(if a=0 then w else if a=1 then w else f (k+1-a)) _;rw[ai h,ai h]
 rw[e,e u,e2,e2 u u,show(fun b=>X f k u (zc k c j b))=fun b=>P f k*u (zc k c j b)+sm k fun t=>L f k u t*f (k-(t+1)) (zc k c j b)from funext fun b=>Ih f k u _,CY aa _ _ (fun b=>u (zc k c j b)) (L f k u) (fun t b=>f (k-(t+1)) (zc k c j b)) k,iY k _ fun t ht=>?_,lx];rw[nR (i:=0) (j:=t+2) aa aa aa _ fun l=>?_,lv];show upd _ 0 _ 0 l=upd _ 0 _ (t+2) l;unfold upd;rw[aj rfl,ai aa];show _=zr f k w w (t+2) (zc k c j l);rw[xj]
theorem Z_w(k:Nat)(u w:Nat->Int)(c j:Nat):Z f k u (X f k w) c j=P f k*Z f k u w c j:=by
 have e:∀w,Z f k u w c j=D (k+2) (upd (fun a b=>zr f k u w a (zc k c j b)) 1 fun b=>w (zc k c j b)):=fun w=>cE _ _ _ fun a b _ _=>by
  unfold upd;by_cases h:a=1
  ·rw[aj h,h];rfl
  ·rw[ai h]
 have e2:∀w v:Nat->Int,D (k+2) (upd (fun a b=>zr f k u w a (zc k c j b)) 1 fun b=>v (zc k c j b))=D (k+2) (upd (fun a b=>zr f k u u a (zc k c j b)) 1 fun b=>v (zc k c j b)):=fun w v=>cE _ _ _ fun a b _ _=>by
  unfold upd zr;by_cases h:a=1
  ·rw[aj h,aj h]
  ·rw[ai h,ai h];show(if a=0 then u else if a=1 then w else f (k+1-a)) _=(if a=0 then u else if a=1 then u else f (k+1-a)) _;rw[ai h,ai h]
 rw[e,e w,e2,e2 w w,show(fun b=>X f k w (zc k c j b))=fun b=>P f k*w (zc k c j b)+sm k fun t=>L f k w t*f (k-(t+1)) (zc k c j b)from funext fun b=>Ih f k w _,CY aa _ _ (fun b=>w (zc k c j b)) (L f k w) (fun t b=>f (k-(t+1)) (zc k c j b)) k,iY k _ fun t ht=>?_,lx];rw[nR (i:=1) (j:=t+2) aa aa aa _ fun l=>?_,lv];show upd _ 1 _ 1 l=upd _ 1 _ (t+2) l;unfold upd;rw[aj rfl,ai aa];show _=zr f k u u (t+2) (zc k c j l);rw[xj]
theorem Fl(b:Nat):skip 1 (b+1)=b+2:=by unfold skip;rw[ai aa]
theorem KG(n:Nat)(g:Nat->Int)(h:∀b,2<=b->b<n+2->g b=0):sm (n+2) g=g 0+g 1:=by
 rw[lD,lD,iY n _ fun k hk=>h (k+2) aa aa,lx]
theorem Kr(k:Nat)(u w:Nat->Int)(c j:Nat)(hu:∀t,t<k->u t=0)(hw:∀t,t<k->w t=0):Z f k u w c j=(u c*w j-u j*w c)*P f k:=by
 unfold Z;show sm (k+2) (fun b=>sg b*zr f k u w 0 (zc k c j b)*D (k+1) (fun a b'=>zr f k u w (a+1) (zc k c j (skip b b'))))=_;have h0:zr f k u w 0=u:=aj rfl;have h1:zr f k u w 1=w:=rfl;have c0:zc k c j 0=c:=aj rfl;have c1:zc k c j 1=j:=rfl;rw[KG k _ fun b hb hb2=>by
  obtain⟨b,rfl⟩:∃b',b=b'+2:=⟨b-2,by omega⟩;rw[h0,xm,hu _ aa,lv,Int.zero_mul]]
 have hD:∀s:Nat->Nat,(∀b,s (b+1)=b+2)->D (k+1) (fun a b'=>zr f k u w (a+1) (zc k c j (s b')))=w (zc k c j (s 0))*P f k:=fun s hs=>by
  show sm (k+1) (fun b=>sg b*zr f k u w (0+1) (zc k c j (s b))*D k (fun a b'=>zr f k u w (a+1+1) (zc k c j (s (skip b b')))))=_;rw[Dt (j:=0) aa fun b hb hne=>by
   obtain⟨b,rfl⟩:∃b',b=b'+1:=⟨b-1,by omega⟩;rw[hs,xm,bG,h1,hw _ aa,lv,Int.zero_mul],show sg 0=1 from rfl,dK,bG,h1]
  congr 1;exact cE k _ _ fun a b _ _=>by rw[xj,ko,hs,xm]
 rw[hD (skip 0) (fun b=>ko _),hD (skip 1) Fl,h0,c0,c1,show skip 0 0=1 from rfl,show skip 1 0=0 from rfl,c0,c1,show sg 0=1 from rfl,show sg 1= -1 from rfl,Int.sub_mul,dK,kg,kg,dK,de,de];rfl
theorem step(k:Nat)(hP:P f k≠0)(v:Nat->Int)(j:Nat):X f k (f k) k*X f k v j-X f k v k*X f k (f k) j=P f k*X f (k+1) v j:=by
 have h1:=Kr f k (X f k v) (X f k (f k)) j k (fun t ht=>E0 f ht v) (fun t ht=>E0 f ht (f k));rw[Z_u,Z_w,<-Mi,gI]at h1;have h2:=Int.eq_of_mul_eq_mul_right hP h1;rw[h2,gI (X f k (f k) k)]
theorem Ms{n k:Nat}(hk:k<n)(hP:P f k≠0)(h:∀i,k<=i->i<n->X f k (f i) k=0):D n f=0:=by
 have h0:∀i,i<n->P f k*f i k+sm k (fun t=>N f k k t*f i (k-(t+1)))=0:=fun i hi=>by
  rw[<-X_row];by_cases hik:i<k
  ·exact Mf f hik k
  ·exact h i aa hi
 have h1:=CY (n:=n) (i:=k) hk (fun i j=>f j i) (P f k) (fun i=>f i k) (N f k k) (fun t i=>f i (k-(t+1))) k;rw[iY k _ fun t ht=>by
  rw[nR (i:=k) (j:=k-(t+1)) hk aa aa _ fun l=>by unfold upd;rw[aj rfl,ai aa],lv],lx]at h1
 rw[Mq (i:=k) hk _ fun l hl=>by unfold upd;rw[aj rfl];exact h0 l hl,lC (fun i j=>f j i) k,<-vI n f]at h1;rcases Int.mul_eq_zero.1 h1.symm with h2|h2
 ·exact absurd h2 hP
 ·exact h2
theorem Mh{f g:Nat->Nat->Int}{k:Nat}(h:∀i,i<k->f i=g i)(v:Nat->Int)(j:Nat):X f k v j=X g k v j:=cE _ _ _ fun a b ha _=>by
 unfold xr;by_cases h0:a=0
 ·rw[aj h0,aj h0]
 ·rw[ai h0,ai h0,h _ aa]
theorem Mm{f g:Nat->Nat->Int}{k:Nat}(h:∀i,i<k->f i=g i):P f k=P g k:=cE _ _ _ fun a b ha _=>by rw[h _ aa]
def sw(f:Nat->Nat->Int)(k p:Nat):Nat->Nat->Int:=upd (upd f k (f p)) p (f k)
theorem sw_lt{k p i:Nat}(hi:i<k)(hp:k<=p):sw f k p i=f i:=by
 unfold sw upd;funext j;rw[ai aa,ai aa]
end Ba
theorem vU(k:Nat)(M:Mat):∀f p,(jH k M f p=p+f/\∀i,p<=i->i<p+f->at' M i k=0)\/(jH k M f p<p+f/\at' M (jH k M f p) k≠0)
 |0,p=>.inl ⟨rfl,fun i h1 h2=>by omega⟩
 |f+1,p=>by
  by_cases h:at' M p k=0
  ·have e:jH k M (f+1) p=jH k M f (p+1):=aj h;rw[e];rcases vU k M f (p+1)with⟨h1,h2⟩|⟨h1,h2⟩
   ·refine .inl ⟨by omega,fun i h3 h4=>?_⟩;by_cases e:i=p
    ·rw[e];exact h
    ·exact h2 i aa aa
   ·exact .inr ⟨by omega,h2⟩
  ·have e:jH k M (f+1) p=p:=ai h;rw[e];exact .inr ⟨by omega,h⟩
theorem Kd{n k i j:Nat}{last:Int}{M:Mat}(hl:M.length=n)(h:Rc n M)(hk:k<n)(hi:k<i)(hin:i<n)(hj:k<j)(hjn:j<n):at' (na k last M) i j=(at' M k k*at' M i j-at' M i k*at' M k j)/last:=by
 unfold at' na;rw[rF k last M _ aa,aj aa,Ao (by rw[h.rw aa];exact hjn),aj hj]
theorem Kc{n k:Nat}{last:Int}{M:Mat}(hl:M.length=n)(h:Rc n M)(hk:k<n):Rc n (na k last M):=Cz h _ aa
theorem GL(k:Nat)(last:Int)(M:Mat):(na k last M).length=M.length:=ux _ _ _ _
theorem Ic{n:Nat}:∀(r k:Nat) (M:Mat) (s:Int) (f:Nat->Nat->Int),k+r=n->M.length=n->Rc n M->Ba.P f k≠0->(∀i j,k<=i->i<n->k<=j->j<n->at' M i j=Ba.X f k (f i) j)->bGo r k M (Ba.P f k) s=s*D n f
 |0,k,M,s,f,hk,_,_,_,_=>by
  obtain rfl:k=n:=by omega
  show s*Ba.P f k=s*D k f;rw[Ba.P_all]
 |r+1,k,M,s,f,hk,hl,hR,hP,hX=>by
  have hkn:k<n:=by omega
  have hs:=vU k M (M.length-k) k;have hpe:jH k M (M.length-k) k=piv k M k:=rfl;rw[hpe,show k+(M.length-k)=M.length by omega]at hs;show(if piv k M k=M.length then 0 else bGo r (k+1) (na k (Ba.P f k) (if piv k M k=k then M else swp M k (piv k M k))) (at' M (piv k M k) k) (if piv k M k=k then s else-s))=_;rcases hs with⟨h1,h2⟩|⟨h1,h2⟩
  ·rw[aj h1,Ba.Ms f hkn hP fun i h3 h4=>by rw[<-hX i k h3 h4 (af k) hkn];exact h2 i h3 aa,lv]
  ·rw[ai aa];have hge:=KS k M k;generalize piv k M k=p at*;have key:∀(M2:Mat) (g:Nat->Nat->Int) (s2:Int),M2.length=n->Rc n M2->Ba.P g k=Ba.P f k->(∀i j,k<=i->i<n->k<=j->j<n->at' M2 i j=Ba.X g k (g i) j)->at' M2 k k=at' M p k->bGo r (k+1) (na k (Ba.P f k) M2) (at' M p k) s2=s2*D n g:=fun M2 g s2 hl2 hR2 hP2 hX2 hpv=>by
    have hpp:at' M p k=Ba.P g (k+1):=by rw[<-hpv,hX2 k k (af _) hkn (af _) hkn,Ba.Mg]
    rw[hpp];refine Ic r (k+1) (na k (Ba.P f k) M2) s2 g aa (by rw[GL];exact hl2) (Kc hl2 hR2 hkn) (by rw[<-hpp];exact h2) fun i j h3 h4 h5 h6=>?_;rw[Kd hl2 hR2 hkn h3 h4 h5 h6,hX2 k k (af _) hkn (af _) hkn,hX2 i j aa h4 aa h6,hX2 i k aa h4 (af _) hkn,hX2 k j (af _) hkn aa h6,Ba.step g k (by rw[hP2];exact hP),<-hP2];exact Int.mul_ediv_cancel_left _ (by rw[hP2];exact hP)
   by_cases hpk:p=k
   ·subst hpk;rw[aj rfl,aj rfl];exact key M f s hl hR rfl hX rfl
   ·rw[ai hpk,ai hpk];have hsw:=fun i (hi:i<k)=>Ba.sw_lt f (p:=p) hi hge;have hD:=E1 (n:=n) (i:=k) (j:=p) hkn aa (fun h=>hpk h.symm) f;have hDs:D n (Ba.sw f k p)= -(D n f):=hD;rw[key (swp M k p) (Ba.sw f k p) (-s) (by rw[iX];exact hl) (tF hR aa aa) (Ba.Mm hsw) (fun i j h3 h4 h5 h6=>by
     rw[tG aa aa,Ba.Mh hsw];unfold Ba.sw upd;by_cases e1:i=p
     ·rw[aj e1];simp only[aj e1];exact hX k j (af _) hkn h5 h6
     ·rw[ai e1];simp only[ai e1];by_cases e2:i=k
      ·rw[aj e2];simp only[aj e2];exact hX p j hge aa h5 h6
      ·rw[ai e2];simp only[ai e2];exact hX i j h3 h4 h5 h6) (by rw[tG aa aa,ai aa,aj rfl]),hDs,Int.neg_mul_neg]
theorem LZ{n:Nat}{M:Mat}(hl:M.length=n)(hR:Rc n M):vF M=D n (at' M):=by
 unfold vF;rw[hl];have h:=Ic (n:=n) n 0 M 1 (at' M) aa hl hR (by show(1:Int)≠0;decide) fun i j _ _ _ _=>by
  show _=sm 1 (fun k=>sg k*Ba.xr (at' M) 0 (at' M i) 0 (Ba.xc 0 j k)*1);show _=0+sg 0*Ba.xr (at' M) 0 (at' M i) 0 (Ba.xc 0 j 0)*1;rw[Ba.kT,Ba.kU,show sg 0=1 from rfl,dK,Int.mul_one,Int.zero_add]
 rw[dK]at h;exact h
end Mx
end
section
open Go.RowKit
namespace DW
theorem Kf{X:Nat->Prop}{w:World}{M:Mx.Mat}{v:Value}{n:Nat}(h:AR X w (dW M) v)(hr:Mx.Rc n M)(hn:0<n\/M=[]):MR w v n M:=by
 by_cases h0:0<n
 ·exact L1 h hr h0
 ·have hM:=hn.resolve_left h0;subst hM;simp only[dW,AR]at h;obtain⟨a,c,rfl,h2,_⟩:=h;exact⟨a,c,rfl,h2,hr,.inl rfl⟩
theorem Ky(M:Mx.Mat)(n e:Nat)(hl:M.length=n)(hR:Mx.Rc n M)(hn:n<=1000)(he:2^n*(e+1)<=6000000000000)(hb:Mx.Bd (2^e) M):Fn Tryz.prog 153 [dW M] (.nm (Mx.D n (Mx.at' M))):=by
 refine⟨enters_of Tryz.func153 ak rfl,fun X w vs hX hv=>?_⟩;simp only[ATp]at hv;obtain⟨v1,r1,e1,h1,rfl⟩:=hv;have:vs= #[v1]:=cU.1 e1;subst this;rw[<-Mx.LZ hl hR];refine(JX M n e v1 hl hn he hb w (Kf h1 hR ?_)).mono fun e w' ⟨⟨z,h3,h4⟩,h5⟩=>⟨_,h3,by simp only[AR];exact⟨z,rfl,h4⟩,h5⟩;by_cases h0:n=0
 ·exact .inr (gw aa)
 ·exact .inl aa
theorem Ew(z:Int)(fz:Fit z):Fn Tryz.prog 151 [.nm z] (.nm z):=by
 refine⟨enters_of Tryz.func151 ak rfl,fun X w vs hX hv=>?_⟩;simp only[ATp,AR]at hv;obtain⟨v1,r1,e1,⟨x,rfl,hx⟩,rfl⟩:=hv;have:vs= #[.agg #[.bool x.s,.slice x.a x.n x.cap]]:=cU.1 e1;subst this;obtain⟨l,h1,rfl⟩:=hx.ip;exact(oK x l (by have:=eE h1.nf fz;omega) w h1).mono fun e w' ⟨⟨y,h2,h3⟩,h4⟩=>⟨_,h2,by simp only[AR];exact⟨y,rfl,h3⟩,h4⟩
set_option maxRecDepth 20000
set_option maxHeartbeats 2000000
theorem KT(m:Mx.Mat)(d:Int)(hm:m.length<=1000000000)(CM:Fn Tryz.prog 149 [dM m] (zI 0))(h:wid m=m.length)(WO:Fn Tryz.prog 152 [dM m] (dW m))(DE:Fn Tryz.prog 153 [dW m] (.nm d))(NO:Fn Tryz.prog 151 [.nm d] (.nm d)):Fn Tryz.prog 41 [dM m] (.tp [.nm d,zI 0]):=by
 have WI:=IA m hm;refine aF Tryz.func41 ak rfl rfl rfl fun X0=>?_;simp only[aA];refine zs1 ?_;refine gar ?_;(refine lg (k:=2) (z:=(.agg #[.bool false,.slice none 0 0])) (d:=(.nm 0)) rfl rfl rfl rfl rfl ak av av pB av av fE ?_);refine lj ?_;refine je ?_;refine bI ?_;refine gg ?_;refine dC ?_;refine sV ?_;refine bc ?_;refine bI ?_;refine gg ?_;refine zs3 ?_;refine gh ?_;refine nZ ?_;refine aK ?_;refine bc ?_;refine bI ?_;refine gg ?_;refine gg ?_;refine gg ?_;refine oa ?_;refine lj ?_;refine je ?_;exact⟨_,bN (k:=2) cK dX dV,.two (.cell 2 69) (.tmp 3) _ _ rfl (.cell 2 _ _ rfl rfl ak ak) (.tmp 3 rfl)⟩
end DW
end
section
open Go.RowKit
namespace DW
theorem D_b6{f:Nat->Nat->Int}(h:∀i j,(f i j).natAbs<=1000000){n:Nat}(hn:n<=4):(Mx.D n f).natAbs<=24000000000000000000000000:=by
 refine aX (Mx.CX n f h) ?_;have:n=0\/n=1\/n=2\/n=3\/n=4:=by omega
 rcases this with rfl|rfl|rfl|rfl|rfl<;>decide
theorem Hw{t:Mx.Mat}{n:Nat}(hl:t.length=n)(hT:Mx.Rc n t)(hn:0<n):wid t=n:=by
 cases t with
 |nil=>simp at hl;omega
 |cons r t=>exact hT r bn
theorem chk_n{t:Mx.Mat}{n:Nat}(hl:t.length=n)(hT:Mx.Rc n t)(hn:0<n)(h4:n<=4)(hb:∀r∈t,∀z∈r,inb 1000000 z=true):chk t=0:=by
 have hw:=Hw hl hT hn;unfold chk;rw[aj,ai,ai]
 ·intro h;rw[eR]at h;obtain⟨r,hr,h⟩:=h;rw[eR]at h;obtain⟨z,hz,h⟩:=h;have:=hb r hr z hz;unfold big at h;unfold inb at this h;simp at this h;omega
 ·rw[hw];omega
 ·rw[eT];intro r hr;rw[hw,hT r hr];simp
theorem HH{d:Int}(h:d.natAbs<=24000000000000000000000000):Fit d:=⟨3,by omega,nB h ay⟩
theorem KE{t:Mx.Mat}{n:Nat}(hl:t.length=n)(hT:Mx.Rc n t)(hn:0<n)(h4:n<=4)(hb:∀r∈t,∀z∈r,inb 1000000 z=true)(hB:Mx.Bd 1000000 t):Fn Tryz.prog 204 [dM t] (.sc (.bool (unB (Mx.D n (Mx.at' t))))):=by
 have CM:=KU t aa (fun r hr=>by have:=hT r hr;omega);rw[chk_n hl hT hn h4 hb]at CM;have bd:=D_b6 (f:=Mx.at' t) hB h4;have WO:=wof_d t n aa aa hT (fun r hr z hz=>by
  have:=hb r hr z hz;unfold inb at this;simp at this;unfold I64;omega)
 have DE:=Ky t n 20 hl hT aa (by
  have:n=1\/n=2\/n=3\/n=4:=by omega
  rcases this with rfl|rfl|rfl|rfl<;>decide) (fun i j=>aX (hB i j) ay)
 exact E9 t _ (KT t _ aa CM (by rw[Hw hl hT hn,hl]) WO DE (Ew _ (HH bd))) (Gg _ (HH bd))
theorem KA{t:Mx.Mat}{n:Nat}(hl:t.length=n)(hT:Mx.Rc n t)(h4:n<=4)(hB:Mx.Bd 1000000 t):Fn Tryz.prog 194 [dM t] (.sc (.bool (unB (Mx.D n (Mx.at' t))))):=by
 have hps:∀p∈qps,2<=p/\p<=2147483647:=by decide
 exact I3 t _ (D_b6 (f:=Mx.at' t) hB h4) fun p hp=>Ec p (hps p hp).1 (hps p hp).2 n t h4 hl hT hB
theorem zA(N:Int)(g t:Mx.Mat):Fn Tryz.prog 13 [qF N g,dM t] (.sc (.bool true)):=by
 cases h0:(sm6 g&&sm6 t)with
 |false=>exact Gf N g t h0
 |true=>
  rw[bV]at h0;obtain⟨hs,hs2⟩:=h0;obtain⟨hg,hr⟩:=Dv hs;obtain⟨ht,hrt⟩:=Dv hs2;have hg':g.length<=1000000:=by omega
  have hr':∀l∈g,l.length<=1000000:=fun l hl=>by have:=hr l hl;omega
  have ht':t.length<=1000000:=by omega
  have hrt':∀l∈t,l.length<=1000000:=fun l hl=>by have:=hrt l hl;omega
  have SM:=se N g;rw[hs]at SM;have ST:=zN t;rw[hs2]at ST;have CP:=GG N g hg' hr';have CL:=rQ t ht' hrt';obtain⟨C,_,_,PC,RC,hC⟩:=Jc g hg' hr' N;by_cases hc:C=0
  ·subst hc;obtain⟨n,rfl,hl,h2,h4,hR,hb,hq⟩:=hC rfl;have hB:Mx.Bd 1000 g:=rC (m:=1000) hb (af _);have CM:=qcm_d t n ht' hrt';have RM:=I5 g t n ht' hrt';by_cases he:pQ n t=0
   ·rw[he]at CM RM;have hsq:sqB t n=true:=by
     cases h:sqB t n with
     |true=>rfl
     |false=>unfold pQ at he;rw[h]at he;simp at he
    have hbt:eJ 1000000 t=true:=by
     cases h:eJ 1000000 t with
     |true=>rfl
     |false=>unfold pQ at he;rw[hsq,h]at he;simp at he
    obtain⟨k1,k2⟩:=zL hsq;have hlt:t.length=n:=by omega
    have hT:Mx.Rc n t:=fun r h=>by have:=k2 r h;omega
    have hin:=ze hbt;have hBt:Mx.Bd 1000000 t:=rC (m:=1000000) hbt (af _);have UM:=KE hlt hT aa h4 hin hBt;have UR:=KA hlt hT h4 hBt;have hV:∀x∈t,Vb x:=fun x hx=>vb_of (jj.2 fun z hz=>by rw[hin x hx z hz];decide);have TK:=FB hl hR hB h4 hlt hT hV;have RT:=Fv hl hR hB h4 hlt hT hV;have hMl:(tkv n g t).length<=1000000:=by unfold tkv;rw[br];omega
    have hMr:∀r∈tkv n g t,r.length<=1000000:=fun r hr=>by
     unfold tkv at hr;obtain⟨x,_,rfl⟩:=mc.1 hr;rw[br];omega
    have BD:=qy (tkv n g t) hMl hMr 1000 aa aa;have RS:=oE (tkv n g t) hMl hMr 1000 aa aa;have SZ:=zO n n (tkv n g t) (tkv n g t) hMl hMr;rw[aq rfl,aq rfl,te]at SZ
    cases hu:unB (Mx.D n (Mx.at' t))with
    |false=>
     rw[hu]at UM UR;exact vp n 3 g t SM ST CP CL (qap_u n g t PC CM UM) RC (rap_u n g t RM UR)
    |true=>
     rw[hu]at UM UR
     cases hbb:eJ 1000 (tkv n g t)with
     |false=>
      rw[hbb]at BD RS;exact vp n 8 g t SM ST CP CL (qap_l n g t _ PC CM UM TK BD) RC (rap_l n g t _ RM UR RT RS)
     |true=>
      rw[hbb]at BD RS;exact JF n g t _ SZ SM ST CP CL (qap_o n g t _ PC CM UM TK BD) RC (rap_o n g t _ RM UR RT RS)
   ·exact vp n (pQ n t) g t SM ST CP CL (qap_t n _ g t he PC CM) RC (rap_t n _ g t he RM)
  ·exact JG N C g t hc SM ST CP CL (qap_e N C g t hc PC) RC
end DW
theorem yE(v0 v1:Value)(N:Int)(g t:List (List Int))(w:World)(h0:DW.AR (fun _=>False) w (DW.qF N g) v0)(h1:DW.AR (fun _=>False) w (DW.dM t) v1):Calls Tryz.prog 13 #[v0,v1] w fun e w'=>e= .returned (.bool true)/\Below w.heap.size w w':=by
 refine((DW.zA N g t).2 (fun _=>False) w #[v0,v1] (fun _ h=>h.elim) (by simp only[DW.ATp];exact⟨v0,_,rfl,h0,v1,_,rfl,h1,rfl⟩)).mono fun e w' ⟨u,h1,h2,h3⟩=>⟨?_,h3⟩;simp only[DW.AR]at h2;rw[h1,h2.1]
end
section
set_option maxRecDepth 100000
theorem Lj:laidOutB Tryz.prog=true:=by kernel_rfl
theorem Lh:mapsRowed Tryz.prog=true:=by kernel_rfl
theorem JI:Tryz.prog.plainKeys=true:=by kernel_rfl
theorem JN:Tryz.prog.stopsHeard=true:=by kernel_rfl
theorem JH:Tryz.prog.stops=[]/\Tryz.prog.stopKnobs=[]:=⟨by kernel_rfl,by kernel_rfl⟩
theorem JK:Tryz.prog.laysLater=false:=by kernel_rfl
theorem Lg:Tryz.prog.bearsReflect=false:=by kernel_rfl
theorem Ll:Tryz.prog.doorFits []=true:=by kernel_rfl
def vt(l:List (List Char)):Bool:=match l with
 | a :: b :: c :: _ => a == "harness".toList && isSumSigns b && c == "cut".toList
 |_=>false
theorem Lk:vt (wordsSigns Tryz.prog.initOrder.toList)=true:=by kernel_rfl
theorem LO {l : List (List Char)} (h : vt l = true) : ∃ r, behindMainWord l = "cut".toList :: r := by
 unfold vt at h;split at h
 ·next a b c r=>
  rw[bV,bV]at h;obtain⟨⟨h1,h2⟩,h3⟩:=h;refine⟨r,?_⟩
  show (if ((a == "harness".toList || a == "ownmain".toList) && isSumSigns b) = true then c :: r else a :: b :: c :: r) = _
  rw[h1,h2,eq_of_beq h3];rfl
 ·cases h
theorem wT : ∃ r, behindMainWord (wordsSigns Tryz.prog.initOrder.toList) = "cut".toList :: r := LO Lk
theorem vO (r : List (List Char)) : stripLifts liftWords ("cut".toList :: r) = ([], "cut".toList :: r) := by kernel_rfl
theorem JJ:Tryz.prog.headLifts=[]:=by
 obtain⟨r,h⟩:=wT;unfold Program.headLifts;rw[h,vO]
 kernel_rfl
theorem JO:Tryz.prog.liftsFinal=false:=by
 obtain⟨r,h⟩:=wT;unfold Program.liftsFinal;rw[h,JJ]
 kernel_rfl
theorem Li:Tryz.prog.make=some .cut:=by
 obtain⟨r,h⟩:=wT;unfold Program.make;rw[h]
 kernel_rfl
theorem JP:Tryz.prog.mayEnter=true:=by
 obtain⟨r,h⟩:=wT;unfold Program.mayEnter;rw[h];simp only[vO,JK,Lg,Ll]
 kernel_rfl
theorem and_t{a b:Bool}(h:a=true)(k:b=true):(a&&b)=true:=by rw[h,k];rfl
theorem Er{P:Program}{f:FuncId}{fn:Func}{s:ChangeSpec}{c:OpenClaim}(k2:laidOutB P=true)(k3:mapsRowed P=true)(k7:P.stops=[]/\P.stopKnobs=[])
  (k10:(c.inPlace==P.inPlace f)=true) (k11:(c.unfollowed==P.unfollowed f)=true) (k12:(c.recurses==P.recurses f)=true) (k13:(c.named==P.varsNamed f)=true)
  (k23:P.plainKeys=true) (k25:P.stopsHeard=true) (k26:P.mayEnter=true) (k27:P.liftsFinal=false) (k28:P.make=some .cut)
  (k:(c.wf (OpenSpec.ofChange s)&&fn.params.all (P.readableRec ·)&&namedTie P c.named s.vars&&(c.stops==[])&&(c.knobs==[])&&
   (c.maps==(fn.params.toList++s.plain.varTypes P).any (P.mapsRec ·))&&(c.ifaces==(fn.params.toList++s.plain.varTypes P).any (P.ifacesRec ·))&&(c.mapsOut==P.mapsAmong fn.resultTypes.toList)&&
   (c.loops==(fn.params.toList++s.plain.varTypes P).any (P.loopsFrom ·))&&(c.wideKeys==(fn.params.toList++s.plain.varTypes P++fn.resultTypes.toList).any (P.wideKeysFrom ·))&&
   s.vars.all (P.varReadable ·)&&fn.resultTypes.all (fun t=>P.readableRec t&&decide (t<P.types.size))&&(c.ifacesOut==fn.resultTypes.toList.any (P.ifacesRec ·))&&(c.loopsOut==fn.resultTypes.toList.any (P.loopsFrom ·))&&(c.plainKeys==true)&&c.shortTexts.isNone&&(c.lifted==false)&&(some Make.cut==some c.make)&&
   (c.kinds==(if c.domain.isEmpty then []else fn.params.toList.map fun t=>match P.underlying t with|some (.int k)=>some k|_=>none))&&(c.pinned==c.pinnedBy)&&
   (c.veiled==(fn.params.toList++s.plain.varTypes P++fn.resultTypes.toList).any (P.veiledRec ·))&&c.veiledFits P fn.params.toList (fn.params.toList++s.plain.varTypes P++fn.resultTypes.toList))=true):
  joinedFacts P f fn s c=true:=by
 simp only[bV]at k;obtain⟨⟨⟨⟨⟨⟨⟨⟨⟨⟨⟨⟨⟨⟨⟨⟨⟨⟨⟨⟨⟨a1,a2⟩,a3⟩,a4⟩,a5⟩,a6⟩,a7⟩,a8⟩,a9⟩,a10⟩,a11⟩,a12⟩,a13⟩,a14⟩,a15⟩,a16⟩,a17⟩,a18⟩,a19⟩,a20⟩,a21⟩,a22⟩:=k;have b7:(P.stops==[])=true:=by rw[k7.1];rfl
 have b9:(P.stopKnobs==[])=true:=by rw[k7.2];rfl
 have b23:(c.plainKeys==P.plainKeys)=true:=by rw[k23];exact a15
 have b27:(c.lifted==P.liftsFinal)=true:=by rw[k27];exact a17
 have b28:(P.make==some c.make)=true:=by rw[k28];exact a18
 unfold joinedFacts
 with_reducible repeat' refine and_t ?_ ?_
 all_goals first
  |with_reducible assumption
  |exact a19
end
end Go.Proofs.YtepdigdijecgpaaGreat
