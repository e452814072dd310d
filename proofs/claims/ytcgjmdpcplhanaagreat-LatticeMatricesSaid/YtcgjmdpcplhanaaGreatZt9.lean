/- Lemmas for the law: E15 E23 V21 M9 V31 M10 E17 E21 E27 L0 V23 E31 E32 E37 -/
import Derived.Test.YtcgjmdpcplhanaaGreatRows
import Derived.WalkKit
import Derived.ProofKit
import Derived.OpenShut
import Derived.ChangeOld
import Derived.ChangeSlices
import Derived.Below
import Derived.Lib.SmallJoins
import Derived.Deep.Slices
import Derived.Test.YtcgjmdpcplhanaaGreatZt8
namespace Go.Proofs.YtcgjmdpcplhanaaGreat
section
theorem xe{p q:Prop}(h:q)(f:Wq q->p:=by(intro hW;((refine gar ?_;refine zs4 ?_;refine zs5 ?_;refine zs7 ?_;refine zs4 ?_;refine zs8 ?_;refine kZ ?_;refine kX ?_;refine gg ?_;refine zs4 ?_;refine zs8 ?_;refine kZ ?_;refine kX ?_;refine kY ?_;refine af ?_));exact hW.out)):p:=f ⟨h⟩
theorem sX{p q:Prop}(h:q)(f:Wq q->p:=by(intro hW;((refine gar ?_;refine zs4 ?_;refine zs4 ?_;refine eI ?_;refine bs ?_;refine zs5 ?_;refine zs7 ?_;refine zs4 ?_;refine zs8 ?_;refine zs8 ?_;refine tJ ?_;refine lj ?_;refine kZ ?_;refine kX ?_;refine gg ?_;refine zs4 ?_;refine zs8 ?_;refine zs8 ?_;refine tJ ?_;refine lj ?_;refine kZ ?_;refine kX ?_;refine kY ?_;refine af ?_));exact hW.out)):p:=f ⟨h⟩
theorem Cw{p q:Prop}(h:q)(f:Wq q->p:=by(intro hW;((refine gar ?_;refine zs4 ?_;refine zs4 ?_;refine zs8 ?_;refine zs8 ?_;refine tJ ?_;refine lj ?_;refine zs8 ?_;refine tJ ?_;refine lj ?_;refine zs84 ?_;refine xq ?_;refine gg ?_;refine zs6 ?_;refine af ?_));exact hW.out)):p:=f ⟨h⟩
end
section
open Go.RowKit
namespace DW
theorem sgn_z(z:Int):sgn z=0↔z=0:=by unfold sgn;split<;>(try split)<;>omega
def fil(m:List (List Int)):List (List Int):=m.filter fun l=>!(l.all fun z=>decide (z=0))
theorem B0(m:List (List Int))(l:List Int):fil (m++[l])=if l.all (fun z=>decide (z=0))=true then fil m else fil m++[l]:=by
 unfold fil;rw[List.filter_append];split<;>rename_i h<;>simp[h]
theorem E0(m:List (List Int)):(fil m).length<=m.length:=List.length_filter_le _ _
set_option maxRecDepth 20000
set_option maxHeartbeats 1000000
theorem BX(m:List (List Int))(hm:m.length<=1000000)(hm2:∀l∈m,l.length<=1000000)(hm3:∀l∈m,∀z∈l,Hf z):Fn Tryz.prog 114 [dW m] (dW (fil m)):=by
 refine aY Tryz.func114 ae rfl rfl rfl fun X0=>?_;simp only[aK]
 (repeat(first|refine gk fun K hK=>?_|refine zs2 ?_));refine cL ?_;(repeat(first|refine gk fun K hK=>?_|refine zs2 ?_));refine cL ?_;(repeat(first|refine gk fun K hK=>?_|refine zs2 ?_));refine aX ?_;(repeat(first|refine gk fun K hK=>?_|refine zs2 ?_))
 refine az (eu (t:=3) (k:=3) (T:=113) (wd:=1) iK rfl rfl cM) ?_
 (refine az (au (sl':=[(0,dW m),(3,.own 3),(4,zI 0)]) (ow':=[(3,⟨113,1,[]⟩)]) ay aD) ?_)
 refine aV (fun r s=>∃k,k<=m.length/\r=m.length-k/\s=⟨[(0,dW m),(3,.own 3),(4,zI (k:Nat))],[(3,⟨113,1,(fil (m.take k)).map dZ⟩)]⟩) (m:=m.length) ⟨0,Nat.zero_le _,rfl,rfl⟩ fun r s hs=>?_;obtain⟨k,hk,rfl,rfl⟩:=hs;by_cases hkl:k<m.length
 ·obtain⟨l,hl⟩:=get_some hkl;have hll:=hm2 l (List.mem_of_getElem? hl);have hfl:=E0 (m.take k);rw[List.length_take]at hfl;have hfl2:(fil (m.take k)).length<=1000000:=Nat.le_trans hfl (by omega);clear hfl;have hsn:=B0 (m.take k) l;rw[<-cv hl]at hsn;obtain⟨F,hF⟩:∃F,F=fil (m.take k):=⟨_,rfl⟩;rw[<-hF]at hsn hfl2;rw[<-hF];clear hF
  (repeat(first|refine gk fun K hK=>?_|refine zs2 ?_));refine aU ?_;(repeat(first|refine gk fun K hK=>?_|refine zs2 ?_))
  refine aA ?_
  (repeat(first|refine gk fun K hK=>?_|refine zs2 ?_));refine bZ ?_;(repeat(first|refine gk fun K hK=>?_|refine zs2 ?_));refine aX ?_;(repeat(first|refine gk fun K hK=>?_|refine zs2 ?_))
  (refine az (au (sl':=[(0,dW m),(3,.own 3),(4,zI (k:Nat)),(5,.sc (.bool true)),(6,zI 0)]) (ow':=[(3,⟨113,1,F.map dZ⟩)]) ay aD) ?_)
  refine aV (fun r s=>∃j b,j<=l.length/\r=l.length-j/\b=(l.take j).all (fun z=>decide (z=0))/\s=⟨[(0,dW m),(3,.own 3),(4,zI (k:Nat)),(5,.sc (.bool b)),(6,zI (j:Nat))],[(3,⟨113,1,F.map dZ⟩)]⟩) (m:=l.length) ⟨0,true,Nat.zero_le _,rfl,rfl,rfl⟩ fun r s hs=>?_;obtain⟨j,b,hj,rfl,hb,rfl⟩:=hs;by_cases hjl:j<l.length
  ·obtain⟨z,hz⟩:=get_some hjl;have SX:=kK z (hm3 l (List.mem_of_getElem? hl) z (List.mem_of_getElem? hz));have gx:=sgn_z z;have hb':(l.take (j+1)).all (fun z=>decide (z=0))=(b&&decide (z=0)):=by rw[cv hz,List.all_append,<-hb];simp
   have hd:decide (sgn z=0)=decide (z=0):=by
    by_cases h:z=0
    ·rw[decide_eq_true h,decide_eq_true (gx.2 h)]
    ·rw[decide_eq_false h,decide_eq_false (fun e=>h (gx.1 e))]
   clear hb
   cases b with
   |true=>
    rw[Bool.true_and]at hb'
    (repeat(first|refine gk fun K hK=>?_|refine zs2 ?_));refine fZ ?_;(repeat(first|refine gk fun K hK=>?_|refine zs2 ?_))
    refine aA ?_
    (repeat(first|refine gk fun K hK=>?_|refine zs2 ?_));refine Cw ?_;(repeat(first|refine gk fun K hK=>?_|refine zs2 ?_));refine ba ?_;(repeat(first|refine gk fun K hK=>?_|refine zs2 ?_))
    simp only[nx,inB];exact⟨l.length-(j+1),_,by omega,(au (sl':=[(0,dW m),(3,.own 3),(4,zI (k:Nat)),(5,.sc (.bool (decide (sgn z=0)))),(6,zI ((j+1:Nat):Int))]) (ow':=[(3,⟨113,1,F.map dZ⟩)]) ay aD),j+1,decide (sgn z=0),by omega,rfl,by rw[hb',hd],rfl⟩
   |false=>
    rw[Bool.false_and]at hb'
    (repeat(first|refine gk fun K hK=>?_|refine zs2 ?_));refine fZ ?_;(repeat(first|refine gk fun K hK=>?_|refine zs2 ?_))
    refine aA ?_
    (repeat(first|refine gk fun K hK=>?_|refine zs2 ?_));refine Cw ?_;(repeat(first|refine gk fun K hK=>?_|refine zs2 ?_));refine ba ?_;(repeat(first|refine gk fun K hK=>?_|refine zs2 ?_))
    simp only[nx,inB];exact⟨l.length-(j+1),_,by omega,(au (sl':=[(0,dW m),(3,.own 3),(4,zI (k:Nat)),(5,.sc (.bool false)),(6,zI ((j+1:Nat):Int))]) (ow':=[(3,⟨113,1,F.map dZ⟩)]) ay aD),j+1,false,by omega,rfl,by rw[hb'],rfl⟩
  ·obtain rfl:j=l.length:=by omega
   rw[List.take_length]at hb;rw[<-hb]at hsn;clear hb
   cases b with
   |true=>
    rw[if_pos rfl]at hsn
    (repeat(first|refine gk fun K hK=>?_|refine zs2 ?_));refine fZ ?_;(repeat(first|refine gk fun K hK=>?_|refine zs2 ?_))
    refine aB ?_
    (repeat(first|refine gk fun K hK=>?_|refine zs2 ?_));refine sY ?_;(repeat(first|refine gk fun K hK=>?_|refine zs2 ?_))
    refine aB ?_
    (repeat(first|refine gk fun K hK=>?_|refine zs2 ?_));refine ba ?_;(repeat(first|refine gk fun K hK=>?_|refine zs2 ?_))
    simp only[nx,inB];exact⟨m.length-(k+1),_,by omega,(au (sl':=[(0,dW m),(3,.own 3),(4,zI ((k+1:Nat):Int))]) (ow':=[(3,⟨113,1,F.map dZ⟩)]) ay aD),k+1,by omega,rfl,by rw[hsn]⟩
   |false=>
    rw[if_neg (by decide)]at hsn
    (repeat(first|refine gk fun K hK=>?_|refine zs2 ?_));refine fZ ?_;(repeat(first|refine gk fun K hK=>?_|refine zs2 ?_))
    refine aB ?_
    (repeat(first|refine gk fun K hK=>?_|refine zs2 ?_));refine sY ?_;(repeat(first|refine gk fun K hK=>?_|refine zs2 ?_))
    refine aA ?_
    (repeat(first|refine gk fun K hK=>?_|refine zs2 ?_));(refine gar ?_;refine zs4 ?_;refine zs4 ?_;refine zs4 ?_;refine eI ?_;refine bs ?_;refine my ?_;refine tF ?_;refine zs6 ?_;refine af ?_);(repeat(first|refine gk fun K hK=>?_|refine zs2 ?_));refine ba ?_;(repeat(first|refine gk fun K hK=>?_|refine zs2 ?_))
    simp only[nx,inB];exact⟨m.length-(k+1),_,by omega,(au (sl':=[(0,dW m),(3,.own 3),(4,zI ((k+1:Nat):Int))]) (ow':=[(3,⟨113,1,F.map dZ++[dZ l]⟩)]) ay aD),k+1,by omega,rfl,by rw[hsn,List.map_append];rfl⟩
 ·obtain rfl:k=m.length:=by omega
  rw[List.take_length]
  (repeat(first|refine gk fun K hK=>?_|refine zs2 ?_));refine aU ?_;(repeat(first|refine gk fun K hK=>?_|refine zs2 ?_))
  refine aB ?_
  (repeat(first|refine gk fun K hK=>?_|refine zs2 ?_))
  refine az (aE (k:=3) aR bz bw) ?_;refine ik ?_
  (repeat(first|refine gk fun K hK=>?_|refine zs2 ?_))
  exact⟨_,Sh.refl,.one (.tmp 2) _ rfl (.tmp 2 rfl)⟩
end DW
end
section
open Go.RowKit
namespace DW
theorem G2{M:Mx.Mat}{B:Nat}(h:Mx.Bd B M){r:List Int}(hr:r∈M){z:Int}(hz:z∈r):z.natAbs<=B:=by
 obtain⟨i,hi,e⟩:=List.getElem_of_mem hr;obtain⟨j,hj,e2⟩:=List.getElem_of_mem hz;have:=h i j;unfold Mx.at' Mx.rw at this;rw[List.getD_eq_getElem?_getD,List.getD_eq_getElem?_getD,List.getElem?_eq_getElem hi,e,Option.getD_some,List.getElem?_eq_getElem hj,e2]at this;exact this
def rHM(m:Mx.Mat):Mx.Mat:=(Mx.red (wid m) 0 (0,m)).2
theorem vN{w:Nat}(h:w<=5):2*(50*11^w)<=3000000000:=by
 have:(11:Nat)^w<=11^5:=Nat.pow_le_pow_right (by omega) h;omega
theorem Gn{m:Mx.Mat}(hc:chk m=0):Mx.Bd (2^(50*11^wid m)) (rHM m):=by
 have:=Mx.zM (n:=wid m) (e:=50) (by omega) (wid m) 0 0 m (gJ hc).2.2.1 (by simpa using qo hc);rw[Nat.zero_add]at this;exact this
theorem zN{m:Mx.Mat}(hc:chk m=0):Mx.RE m (rHM m):=Mx.jo _ _ (0,m) (gJ hc).2.2.1
theorem Ez{m:Mx.Mat}(hc:chk m=0):(rHM m).length=m.length:=(zN hc).len
theorem Gm{m:Mx.Mat}(hc:chk m=0):Mx.Rc (wid m) (rHM m):=(zN hc).rc (gJ hc).2.2.1
set_option maxRecDepth 20000
set_option maxHeartbeats 2000000
theorem Gl(m:Mx.Mat)(hc:chk m=0)(hw:wid m<=5)(h5:m.length<=5):Fn Tryz.prog 42 [dM m] (zI (fil (rHM m)).length):=by
 obtain⟨k1,k2,k3,k4⟩:=gJ hc;have hR:=Gm hc;have hl:=Ez hc;have W:=yY m (by omega) (fun l hl=>by have:=k3 l hl;omega) (fun l hl z hz=>wH hc l hl z hz);have C:=na m;have E:=Av m (wid m) (wid m) 50 k3 (Nat.le_refl _) (by omega) (by omega) (by omega) (vN h5) (qo hc);have N:=BX (rHM m) (by omega) (fun l hl=>by have:=hR l hl;omega) (fun l hl z hz=>bC (G2 (Gn hc) hl hz) (by have:=vN hw;omega));rw[show(Mx.red (wid m) 0 (0,m)).2=rHM m from rfl]at E;clear hc hw k1 k2 k3 k4 hR hl;generalize rHM m=R at*;refine aY Tryz.func42 ae rfl rfl rfl fun X0=>?_;simp only[aK]
 (repeat(first|refine gk fun K hK=>?_|refine zs2 ?_));refine aX ?_;(repeat(first|refine gk fun K hK=>?_|refine zs2 ?_));(refine gar ?_;refine zs4 ?_;refine cw ?_;refine zs4 ?_;refine cw ?_;refine jf ?_;refine cw ?_;refine zs5 ?_;refine zs6 ?_;refine af ?_);(repeat(first|refine gk fun K hK=>?_|refine zs2 ?_))
 exact⟨_,Sh.refl,.one (.tmp 2) _ rfl (.tmp 2 rfl)⟩
end DW
end
section
open Go.RowKit Go.BigFrame
attribute [local go_sem ↓] Go.wp_at_zero Go.wp_at_succ
theorem HT_le{m:Mx.Mat}(h:Mx.Rc (wid m) m):(HT m).1<=m.length:=by
 have:=pJ (wid m) 0 (wA h);rw[oQ]at this;exact this
end
section
namespace Mx
theorem tB{n:Nat}{M:Mat}{i j:Nat}(h:j<n):at' (tk n M) i j=at' M i j:=by rw[FA,if_pos h]
theorem sL{n:Nat}(l:List Int){j:Nat}(h:j<n):(l.take n).getD j 0=l.getD j 0:=by
 rw[List.getD_eq_getElem?_getD,List.getD_eq_getElem?_getD,List.getElem?_take,if_pos h]
theorem pF(n:Nat)(M:Mat)(i:Nat)(r:List Int):(tk n M).set i (r.take n)=tk n (M.set i r):=by
 unfold tk;rw[List.map_set]
theorem pV(n:Nat)(M:Mat):(tk n M).length=M.length:=by simp[tk]
theorem Gc(n:Nat)(M:Mat)(i j:Nat):swp (tk n M) i j=tk n (swp M i j):=by
 unfold swp;rw[ny,ny,pF,pF]
theorem yp{n c:Nat}(h:c<n)(p a:List Int):bN (p.take n) c (a.take n)=(bN p c a).take n:=by
 unfold bN dw;rw[sL _ h,sL _ h,List.take_zipWith]
theorem Gz(n:Nat)(a:List Int):neg (a.take n)=(neg a).take n:=by unfold neg;rw[List.map_take]
theorem oR{n c:Nat}(h:c<n)(r s:Nat)(M:Mat):∀k,aw r c s (tk n M) k=tk n (aw r c s M k)
 |0=>rfl
 |k+1=>by
  unfold aw;rw[oR h r s M k,ny,ny,yp h,pF]
theorem vX{n c:Nat}(h:c<n)(r:Nat)(M:Mat):∀k,scan c r (tk n M) k=scan c r M k
 |0=>rfl
 |k+1=>by
  unfold scan;simp only[vX h r M k,tB h]
theorem ED{n c:Nat}(h:c<n)(r:Nat)(M:Mat):pick r c (tk n M)=pick r c M:=by
 unfold pick;rw[pV,vX h]
theorem vQ{n c:Nat}(h:c<n)(r:Nat)(M:Mat):∀k,dX r c (tk n M) k=dX r c M k
 |0=>rfl
 |k+1=>by
  unfold dX;rw[vQ h r M k,tB h]
theorem Fe{n c:Nat}(h:c<n)(r:Nat)(M:Mat):elim r c (tk n M)=tk n (elim r c M):=by
 unfold elim;rw[pV,oR h]
theorem wF{n c:Nat}(h:c<n)(r:Nat):∀(f:Nat) (M:Mat),jC r c f (tk n M)=tk n (jC r c f M)
 |0,_=>rfl
 |f+1,M=>by
  unfold jC;rw[ED h]
  cases(pick r c M).1 with
  |none=>rfl
  |some t=>
   simp only;rw[Gc,Fe h,wF h r f];split<;>rfl
theorem Fm{n c:Nat}(h:c<n)(r:Nat)(M:Mat):bQ r c (tk n M)=tk n (bQ r c M):=by
 unfold bQ eC;rw[pV,vQ h,wF h]
theorem En{n c:Nat}(h:c<n)(r:Nat)(M:Mat):bB r c (tk n M)=tk n (bB r c M):=by
 unfold bB;rw[tB h,ny,Gz,pF];split<;>rfl
theorem Cm{n c:Nat}(h:c<n)(r:Nat)(M:Mat):fj r c (tk n M)=tk n (fj r c M):=oR h r 0 M r
theorem Eg{n c:Nat}(h:c<n)(r:Nat)(M:Mat):step r c (tk n M)=((step r c M).1,tk n (step r c M).2):=by
 unfold step;simp only[];rw[Fm h,tB h,En h,Cm h];split<;>rfl
theorem zL{n:Nat}:∀(k c r:Nat) (M:Mat),c+k<=n->red k c (r,tk n M)=((red k c (r,M)).1,tk n (red k c (r,M)).2)
 |0,_,_,_,_=>rfl
 |k+1,c,r,M,h=>by
  unfold red;simp only[pV];split
  ·rw[Eg (by omega)];exact zL k (c+1) (step r c M).1 (step r c M).2 (by omega)
  ·rfl
theorem Gb{m:Mat}(h:Rc (wid m) m):tk (wid m) (lT m)=m:=by
 apply List.ext_getElem?;intro i;unfold tk;rw[List.getElem?_map];by_cases hi:i<m.length
 ·rw[B7 hi,dE hi];simp only[Option.map_some,Option.some.injEq];rw[List.take_left' (h.rw hi)]
 ·rw[List.getElem?_eq_none (by rw[oQ];omega),List.getElem?_eq_none (by omega)];rfl
theorem wa{m:Mat}(h:Rc (wid m) m):red (wid m) 0 (0,m)=((HT m).1,nU m):=by
 have:=zL (n:=wid m) (wid m) 0 0 (lT m) (by omega);rw[Gb h]at this;exact this
end Mx
end
section
open Go.RowKit Go.BigFrame
attribute [local go_sem ↓] Go.wp_at_zero Go.wp_at_succ
def lrk(m:Mx.Mat):Int:=if chk m=0 then((HT m).1:Nat)else 0
set_option maxRecDepth 10000 in
set_option maxHeartbeats 4000000 in
theorem Ag(m:Mx.Mat)(v:Value)(hm:m.length<=1000000)(hr:∀r∈m,r.length<=1000000)(hs:chk m=0->wid m<=10)(w:World)(h:ZM w v m):
  Calls Tryz.prog 29 #[v] w fun e w'=>e= .returned (.tuple #[.int .i64 (lrk m), .int .i64 (chk m)])/\Below w.heap.size w w':=by
 have CK:=Lib.hid (fun w h=>sR m v (by omega) (fun r h=>Nat.le_trans (hr r h) (by omega)) w h);have H:=Lib.hid h;by_cases hc:chk m=0
 ·have hn:=hs hc;have hk:=gJ hc;have OF:=Lib.hid (fun w h=>vK m (wid m) v (by omega) (by omega) hk.2.2.1 (wH hc) w h);have h11:(11:Nat)^wid m<=11^10:=Nat.pow_le_pow_right (by omega) hn;have HE:=Lib.hid (fun v w h=>vB m (wid m) 50 v (by omega) (by omega) (by omega) (by omega) (qo hc) w h);have hre:=Mx.wa hk.2.2.1;have hle:(HT m).1<=(nU m).length:=by
   have:=pJ (wid m) 0 hk.2.2.1;rw[hre]at this;unfold nU tk;rw[List.length_map,Hp hk.2.2.1];exact this
  have hln:((Mx.red (wid m) 0 (0,m)).2.take (Mx.red (wid m) 0 (0,m)).1).length=(HT m).1:=by
   rw[hre];show((nU m).take (HT m).1).length=(HT m).1;rw[List.length_take];omega
  have hE:lrk m=((HT m).1:Nat):=if_pos hc;rw[hc]at CK;rw[hE,hc];have HLN:=Lib.hid hln;have hrb:(HT m).1<=64:=by
   have h1:=pJ (wid m) 0 hk.2.2.1;rw[hre]at h1;have:=hk.1;exact Nat.le_trans h1 this
  clear h hs hr hm hk hn hc hre hle hln hE h11;generalize(Mx.red (wid m) 0 (0,m)).2.take (Mx.red (wid m) 0 (0,m)).1=Z at HE HLN;generalize(HT m).1=r at HLN hrb⊢
  go_enter Tryz.func29,Tryz.ntmps29
  go_wp2_with (first
      |(go_at_call 40;go_loud ((with_reducible refine(CK.out _ H.out).mono ?_);rintro e w1 ⟨rfl,hb1⟩;have HB1:=Lib.hid hb1;clear hb1))
      |(go_at_call 72;go_loud ((with_reducible refine(OF.out _ (H.out.below HB1.out (Nat.le_refl _))).mono ?_);rintro e w2 ⟨⟨gm,gs,cs,cp,rfl,hcp,hmb⟩,hb2⟩;have HM2:=Lib.hid (hmb.mr hcp);have HB2:=Lib.hid (HB1.out.trans (hb2.mono HB1.out.size));clear hb2 hmb))
      |(go_at_call 85;go_loud ((with_reducible refine(HE.out _ _ HM2.out).mono ?_);rintro e w3 ⟨⟨v3,rfl,a3,c3,rfl,_,_,_⟩,hb3⟩;rw[HLN.out];have HB3:=Lib.hid (HB2.out.trans (hb3.mono HB2.out.size));clear hb3)))
  refine bodyPost_ret (v:= .tuple #[.int .i64 ((r:Int)), .int .i64 (0)]) (by simp[results,Tryz.results29,go_sem]) rfl ⟨rfl,HB3.out⟩
 ·have hc1:¬chk m=0:=hc;have hE:lrk m=0:=if_neg hc;rw[hE];clear h hs hr hm hc hE;obtain⟨R,hR⟩:∃R,R=chk m:=⟨_,rfl⟩;rw[<-hR]at CK hc1⊢;clear hR
  go_enter Tryz.func29,Tryz.ntmps29
  go_wp2_with (go_at_call 40;(with_reducible refine(CK.out _ H.out).mono ?_);rintro e w1 ⟨rfl,hb1⟩;have HB1:=Lib.hid hb1;clear hb1)
  refine bodyPost_ret (v:= .tuple #[.int .i64 (0), .int .i64 R]) (by simp[results,Tryz.results29,go_sem]) rfl ⟨rfl,HB1.out⟩
end
section
namespace Mx
theorem Hq{n i:Nat}(hi:i<n)(f:Nat->Nat->Int)(h:∀l,l<n->f i l=0):D n f=0:=by
 have h1:=nV 0 0 n f i (f i) (f i) hi;rw[bO n _ f fun k j hk hj=>by
  unfold upd;split
  ·next e=>rw[e,h j hj];show 0*f i j+0*f i j=0;omega
  ·rfl]at h1
 rw[h1];omega
end Mx
end
section
open Go.RowKit
namespace DW
theorem vw{α:Type}{a b:List α}(hl:a.length=b.length)(h:a.take a.length=b.take a.length):a=b:=by
 rw[List.take_length]at h;rw[h,hl,List.take_length]
set_option maxRecDepth 20000
set_option maxHeartbeats 1000000
end DW
end
section
open Go.RowKit
namespace DW
def smq(n:Nat):Bool:=decide ((5<n/\n<=64)\/70<n)
def smL(m:List (List Int)):Bool:=!(smq m.length)&&m.all fun l=>!(smq l.length)
theorem Gg{m:List (List Int)}{l:List Int}(h:l∈m)(h2:smq l.length=true):smL m=false:=by
 unfold smL;rw[Bool.and_eq_false_iff];right;rw[List.all_eq_false];exact⟨l,h,by rw[h2];decide⟩
set_option maxRecDepth 20000
set_option maxHeartbeats 1000000
theorem Bm(m:List (List Int)):Fn Tryz.prog 14 [dM m] (.sc (.bool (smL m))):=by
 refine aY Tryz.func14 ae rfl rfl rfl fun X0=>?_;simp only[aK];by_cases hq:smq m.length=true
 ·have EC:smL m=false:=by unfold smL;rw[hq];rfl
  have hq':=of_decide_eq_true hq;rcases hq' with⟨h1,h2⟩|h1
  ·have d1:decide ((m.length:Int)>5)=true:=decide_eq_true (by omega);have d2:decide ((m.length:Int)<=64)=true:=decide_eq_true (by omega)
   (repeat(first|refine gk fun K hK=>?_|refine zs2 ?_));refine bZ ?_;(repeat(first|refine gk fun K hK=>?_|refine zs2 ?_));refine xe ?_;(repeat(first|refine gk fun K hK=>?_|refine zs2 ?_))
   refine aA ?_
   (repeat(first|refine gk fun K hK=>?_|refine zs2 ?_));refine bZ ?_;(repeat(first|refine gk fun K hK=>?_|refine zs2 ?_))
   rw[EC];exact⟨_,Sh.refl, .one (.tmp 2) _ rfl (.tmp 2 rfl)⟩
  ·have d1:decide ((m.length:Int)>5)=true:=decide_eq_true (by omega);have d2:decide ((m.length:Int)<=64)=false:=decide_eq_false (by omega)
   (repeat(first|refine gk fun K hK=>?_|refine zs2 ?_));refine bZ ?_;(repeat(first|refine gk fun K hK=>?_|refine zs2 ?_));refine xe ?_;(repeat(first|refine gk fun K hK=>?_|refine zs2 ?_))
   refine aA ?_
   (repeat(first|refine gk fun K hK=>?_|refine zs2 ?_));refine bZ ?_;(repeat(first|refine gk fun K hK=>?_|refine zs2 ?_))
   rw[EC];exact⟨_,Sh.refl, .one (.tmp 2) _ rfl (.tmp 2 rfl)⟩
 ·have hq0:smq m.length=false:=by simpa using hq
  have hq':=of_decide_eq_false hq0;have hml:m.length<=70:=by omega
  have hc:m.length<=5\/(64<m.length/\m.length<=70):=by omega
  rcases hc with h1|⟨h1,h2⟩;all_goals
   first
   |have d1:decide ((m.length:Int)>5)=false:=decide_eq_false (by omega)
   | (have d1 : decide ((m.length : Int) > 5) = true := decide_eq_true (by omega)
      have d2:decide ((m.length:Int)<=64)=false:=decide_eq_false (by omega))
   (repeat(first|refine gk fun K hK=>?_|refine zs2 ?_));refine bZ ?_;(repeat(first|refine gk fun K hK=>?_|refine zs2 ?_));refine xe ?_;(repeat(first|refine gk fun K hK=>?_|refine zs2 ?_))
   refine aB ?_
   (repeat(first|refine gk fun K hK=>?_|refine zs2 ?_));refine aX ?_;(repeat(first|refine gk fun K hK=>?_|refine zs2 ?_))
   (refine az (au (sl':=[(0,dM m),(3,zI 0)]) (ow':=[]) ay aD) ?_)
   refine aV (fun r s=>∃k,k<=m.length/\r=m.length-k/\(m.take k).all (fun l=> !(smq l.length))=true/\s=⟨[(0,dM m),(3,zI (k:Nat))],[]⟩) (m:=m.length) ⟨0,Nat.zero_le _,rfl,rfl,rfl⟩ fun r s hs=>?_;obtain⟨k,hk,rfl,he,rfl⟩:=hs;by_cases hkl:k<m.length
   ·obtain⟨l,hl⟩:=get_some hkl;by_cases hql:smq l.length=true
    ·have EC:=Gg (List.mem_of_getElem? hl) hql;have hql':=of_decide_eq_true hql;have d3:decide ((l.length:Int)>5)=true:=decide_eq_true (by omega);rcases hql' with⟨h3,h4⟩|h3
     ·have d4:decide ((l.length:Int)<=64)=true:=decide_eq_true (by omega)
      (repeat(first|refine gk fun K hK=>?_|refine zs2 ?_));refine aU ?_;(repeat(first|refine gk fun K hK=>?_|refine zs2 ?_))
      refine aA ?_
      (repeat(first|refine gk fun K hK=>?_|refine zs2 ?_));refine sX ?_;(repeat(first|refine gk fun K hK=>?_|refine zs2 ?_))
      refine aA ?_
      (repeat(first|refine gk fun K hK=>?_|refine zs2 ?_));refine bZ ?_;(repeat(first|refine gk fun K hK=>?_|refine zs2 ?_))
      rw[EC];exact⟨_,Sh.refl, .one (.tmp 2) _ rfl (.tmp 2 rfl)⟩
     ·have d4:decide ((l.length:Int)<=64)=false:=decide_eq_false (by omega)
      (repeat(first|refine gk fun K hK=>?_|refine zs2 ?_));refine aU ?_;(repeat(first|refine gk fun K hK=>?_|refine zs2 ?_))
      refine aA ?_
      (repeat(first|refine gk fun K hK=>?_|refine zs2 ?_));refine sX ?_;(repeat(first|refine gk fun K hK=>?_|refine zs2 ?_))
      refine aA ?_
      (repeat(first|refine gk fun K hK=>?_|refine zs2 ?_));refine bZ ?_;(repeat(first|refine gk fun K hK=>?_|refine zs2 ?_))
      rw[EC];exact⟨_,Sh.refl, .one (.tmp 2) _ rfl (.tmp 2 rfl)⟩
    ·have hql0:smq l.length=false:=by simpa using hql
     have hql':=of_decide_eq_false hql0;have he':(m.take (k+1)).all (fun l=> !(smq l.length))=true:=by rw[cv hl,List.all_append,he];simp[hql0]
     have hc2:l.length<=5\/(64<l.length/\l.length<=70):=by omega
     rcases hc2 with h3|⟨h3,h4⟩
     ·have d3:decide ((l.length:Int)>5)=false:=decide_eq_false (by omega)
      (repeat(first|refine gk fun K hK=>?_|refine zs2 ?_));refine aU ?_;(repeat(first|refine gk fun K hK=>?_|refine zs2 ?_))
      refine aA ?_
      (repeat(first|refine gk fun K hK=>?_|refine zs2 ?_));refine sX ?_;(repeat(first|refine gk fun K hK=>?_|refine zs2 ?_))
      refine aB ?_
      (repeat(first|refine gk fun K hK=>?_|refine zs2 ?_));refine ba ?_;(repeat(first|refine gk fun K hK=>?_|refine zs2 ?_))
      simp only[nx,inB];exact⟨m.length-(k+1),_,by omega,(au (sl':=[(0,dM m),(3,zI ((k+1:Nat):Int))]) (ow':=[]) ay aD),k+1,by omega,rfl,he',rfl⟩
     ·have d3:decide ((l.length:Int)>5)=true:=decide_eq_true (by omega);have d4:decide ((l.length:Int)<=64)=false:=decide_eq_false (by omega)
      (repeat(first|refine gk fun K hK=>?_|refine zs2 ?_));refine aU ?_;(repeat(first|refine gk fun K hK=>?_|refine zs2 ?_))
      refine aA ?_
      (repeat(first|refine gk fun K hK=>?_|refine zs2 ?_));refine sX ?_;(repeat(first|refine gk fun K hK=>?_|refine zs2 ?_))
      refine aB ?_
      (repeat(first|refine gk fun K hK=>?_|refine zs2 ?_));refine ba ?_;(repeat(first|refine gk fun K hK=>?_|refine zs2 ?_))
      simp only[nx,inB];exact⟨m.length-(k+1),_,by omega,(au (sl':=[(0,dM m),(3,zI ((k+1:Nat):Int))]) (ow':=[]) ay aD),k+1,by omega,rfl,he',rfl⟩
   ·obtain rfl:k=m.length:=by omega
    rw[List.take_length]at he;have EC:smL m=true:=by unfold smL;rw[hq0,he];rfl
    (repeat(first|refine gk fun K hK=>?_|refine zs2 ?_));refine aU ?_;(repeat(first|refine gk fun K hK=>?_|refine zs2 ?_))
    refine aB ?_
    (repeat(first|refine gk fun K hK=>?_|refine zs2 ?_));refine bZ ?_;(repeat(first|refine gk fun K hK=>?_|refine zs2 ?_))
    rw[EC];exact⟨_,Sh.refl, .one (.tmp 2) _ rfl (.tmp 2 rfl)⟩
end DW
end
section
open Go.RowKit
namespace DW
theorem nS(b o j:Nat):(⟨b,o,none⟩:Addr).add j=⟨b,o+j,none⟩:=Addr.add_mid b o j
theorem FD{X:Nat->Prop}{w:World}{l:List Int}{v:Value}(h:AR X w (dI l) v):∃a c,v= .slice a l.length c/\l.length<=c/\ZAt w a l:=by
 simp only[dI,AR]at h;obtain⟨a,c,rfl,h2,h3⟩:=h;rw[List.length_map]at h2;refine⟨a,c,by rw[List.length_map],h2,?_⟩;rcases h3 with h3|⟨b,o,rfl,_,hb,hs⟩
 ·exact .inl (by simpa using h3)
 ·refine .inr ⟨⟨b,o,none⟩,rfl,hb,fun k x hk=>?_⟩;obtain⟨u,h4,_,_,h7⟩:=ARs.at hs (i:=k) (d:=zI x) (by rw[List.getElem?_map,hk];rfl);simp only[AR]at h4;obtain⟨rfl,_⟩:=h4;have:=h7 0 (.int .i64 x) rfl;rw[nS];simpa using this
theorem qw{X:Nat->Prop}{w:World}{m:List (List Int)}{v:Value}(h:AR X w (dM m) v):ZM w v m:=by
 simp only[dM,AR]at h;obtain⟨a,c,rfl,h2,h3⟩:=h;rw[List.length_map]at h2;refine⟨a,c,by rw[List.length_map],h2,?_⟩;rcases h3 with h3|⟨b,o,rfl,_,hb,hs⟩
 ·exact .inl (by simpa using h3)
 ·refine .inr ⟨⟨b,o,none⟩,rfl,hb,fun k l hk=>?_⟩;obtain⟨u,h4,_,_,h7⟩:=ARs.at hs (i:=k) (d:=dI l) (by rw[List.getElem?_map,hk];rfl);obtain⟨a',c',rfl,h8,h9⟩:=FD h4;have:=h7 0 _ rfl;rw[nS];exact⟨a',c',by simpa using this,h8,h9⟩
theorem FH{X:Nat->Prop}{w:World}:AR X w (dM []) (.slice none 0 0):=by
 simp only[dM,List.map_nil,AR];exact⟨none,0,rfl,Nat.le_refl _,.inl (by simp)⟩
theorem vn{X:Nat->Prop}{w:World}(z:Int):AR X w (zI z) (.int .i64 z):=by simp only[zI,AR];exact⟨trivial,rfl⟩
theorem G6{X:Nat->Prop}{w:World}{d1 d2:D}{u1 u2:Value}(h1:AR X w d1 u1)(h2:AR X w d2 u2):AR X w (.tp [d1,d2]) (.tuple #[u1,u2]):=by
 simp only[AR,ATp];exact⟨_,rfl,_,_,rfl,h1,_,_,rfl,h2,rfl⟩
theorem ES(m:Mx.Mat)(hm:m.length<=1000000)(hr:∀r∈m,r.length<=1000000)(hs:chk m=0->wid m<=10):Fn Tryz.prog 29 [dM m] (.tp [zI (lrk m),zI (chk m)]):=by
 refine⟨enters_of Tryz.func29 ae rfl,fun X w vs hX hv=>?_⟩;simp only[ATp]at hv;obtain⟨v,rest,e,h1,rfl⟩:=hv;have:vs= #[v]:=Array.toList_inj.1 e;subst this;refine(Ag m v hm hr hs w (qw h1)).mono fun e w' ⟨h,hb⟩=>⟨_,h,G6 (vn _) (vn _),hb⟩
end DW
end
section
open Go.ChangeShapes Go.WideShapes Go.ChangeAt Go.RowKit Go.Joins Go.Deep
theorem own:ownKnob Tryz.prog.godebug=none:=by kernel_rfl
theorem laidOut:laidOutB Tryz.prog=true:=by kernel_rfl
theorem AG:Tryz.prog.cellsOf 3=1:=by kernel_rfl
theorem yB:Tryz.prog.cellsOf 40=1:=by kernel_rfl
namespace DW
theorem sS{w:World}{a:Addr}{v:Value}(h:w.cell? a=some v):a=⟨a.block,a.off,none⟩:=by
 obtain⟨b,o,s⟩:=a
 cases s with
 |none=>rfl
 |some k=>
  unfold World.cell? at h;simp only at h;split at h
  ·simp at h
  ·cases h
theorem FI{w:World}{a:Addr}{l:List Int}{cap:Nat}(hc:l.length<=cap)(h:∀i,i<l.length->w.cell? (a.add i)=some (.int .i64 (l.getD i 0))):AR (fun _=>False) w (dI l) (.slice (some a) l.length cap):=by
 simp only[dI,AR];refine⟨some a,cap,by rw[List.length_map],by rw[List.length_map];exact hc,?_⟩;by_cases hl:l=[]
 ·exact .inl (by rw[hl];rfl)
 ·have hp:0<l.length:=List.length_pos_iff.2 hl;have h0:w.cell? a=some (.int .i64 (l.getD 0 0)):=h 0 hp;have ha:=sS h0;refine .inr ⟨a.block,a.off,congrArg some ha,fun h=>h,World.block_lt_of_cell? w _ h0,ARs.mk fun i d hd=>?_⟩;rw[List.getElem?_map]at hd;obtain⟨z,hz,rfl⟩:=Option.map_eq_some_iff.1 hd;have hi:=(List.getElem?_eq_some_iff.1 hz).1;refine⟨.int .i64 z,vn z,rfl,rfl,fun j u hj=>?_⟩
  match j,hj with
  |0,hj=>
   have:u= .int .i64 z:=by simpa[Value.cells]using hj.symm
   have h1:=h i hi;rw[List.getD_eq_getElem?_getD,hz]at h1;rw[this,Nat.mul_one,Nat.add_zero];rw[ha,nS]at h1;exact h1
  |j+1,hj=>simp[Value.cells]at hj
theorem FG{w:World}{a:Addr}{m:List (List Int)}{cap:Nat}(hc:m.length<=cap)(h:∀i l,m[i]?=some l->∃u,w.cell? (a.add i)=some u/\AR (fun _=>False) w (dI l) u):AR (fun _=>False) w (dM m) (.slice (some a) m.length cap):=by
 simp only[dM,AR];refine⟨some a,cap,by rw[List.length_map],by rw[List.length_map];exact hc,?_⟩
 cases m with
 |nil=>exact .inl rfl
 |cons l0 m0=>
  obtain⟨u0,h0,_⟩:=h 0 l0 rfl;have ha:=sS (show w.cell? a=some u0 from h0);refine .inr ⟨a.block,a.off,congrArg some ha,fun h=>h,World.block_lt_of_cell? w _ (show w.cell? a=some u0 from h0),ARs.mk fun i d hd=>?_⟩;rw[List.getElem?_map]at hd;obtain⟨l,hl,rfl⟩:=Option.map_eq_some_iff.1 hd;obtain⟨u,h1,h2⟩:=h i l hl;have h3:=h2;simp only[dI,AR]at h3;obtain⟨a',c',rfl,_⟩:=h3;refine⟨_,h2,rfl,rfl,fun j u hj=>?_⟩
  match j,hj with
  |0,hj=>
   have:u= .slice a' (l.map zI).length c':=by simpa[Value.cells]using hj.symm
   rw[this,Nat.mul_one,Nat.add_zero];rw[ha,nS]at h1;exact h1
  |j+1,hj=>simp[Value.cells]at hj
end DW
set_option maxRecDepth 100000 in
theorem GG{H:Type}{enc:TypeId×Value->H}{w:World}{base:Nat}{spare:Nat->Bool}{held:Bool}{v:Value}{fuel:Nat}{x:DataW H×List MemPlace}
  (hf:DataW.trod enc Tryz.prog w base spare held fuel 22 [v]=some x):∃m:List (List Int),DW.AR (fun _=>False) w (DW.dM m) v:=by
 rcases open_slice Tryz.underlying22 hf with⟨hcs,hx⟩|⟨a,len0,cap0,m,n,D,Pl,hcs,_,hl,hm,hmm,_,hel⟩
 ·simp at hcs;subst hcs;exact⟨[],DW.FH⟩
 ·simp at hcs;subst hcs;rw[yB]at hel;have hlm:len0<=m:=by rw[hmm];split<;>omega
  obtain⟨F,hF⟩:=choose_lt (α:=List Int) (n:=len0) (p:=fun i (l:List Int)=>∃u,w.cell? (a.add i)=some u/\DW.AR (fun _=>False) w (DW.dI l) u) (fun i hi=>by
   obtain⟨cs',h1,h2⟩:=hel i (by omega);obtain⟨_,hlen,hc⟩:=World.cells?_some h1;have hc0:=hc 0 (by omega);rw[Nat.mul_one]at hc0;rcases open_ints Tryz.underlying40 Tryz.underlying3 AG h2 with⟨rfl,_⟩|⟨a',len',cap',zs,rfl,_,hl',_,hz,_,hcell,_⟩
   ·refine⟨[],.slice none 0 0,hc0,?_⟩;simp only[DW.dI,DW.AR];exact⟨none,0,rfl,Nat.le_refl _,.inl rfl⟩
   ·have hzl:len'<=zs.length:=by rw[hz];split<;>omega
    have hlen:(zs.take len').length=len':=by rw[List.length_take];omega
    have hA:=DW.FI (w:=w) (a:=a') (l:=zs.take len') (cap:=cap') (by omega) (fun k hk=>by
     rw[hlen]at hk;rw[hcell k (by omega),List.getD_eq_getElem?_getD,List.getD_eq_getElem?_getD,List.getElem?_take,if_pos hk])
    rw[hlen]at hA;exact⟨zs.take len',_,hc0,hA⟩)
  have hlen:((List.range len0).map F).length=len0:=by simp
  have hA:=DW.FG (w:=w) (a:=a) (m:=(List.range len0).map F) (cap:=cap0) (by omega) (fun i l hi=>by
   have hk:i<len0:=by simpa using(List.getElem?_eq_some_iff.1 hi).1
   rw[List.getElem?_map,List.getElem?_range hk]at hi;cases hi;exact hF i hk)
  rw[hlen]at hA;exact⟨_,hA⟩
set_option maxRecDepth 100000 in
theorem BD{H:Type}{enc:TypeId×Value->H}{w:World}{base b0:Nat}{spare:Nat->Bool}{held:Bool}{r:Reach}{v:Value}{d:DataW H}{p:List MemPlace}
  (hv:Value.okWide Tryz.prog w r b0 22 v) (h:DataW.Trod enc Tryz.prog w base spare held 22 v d p):∃m:List (List Int),DW.AR (fun _=>False) w (DW.dM m) v:=by
 obtain⟨a0,len0,cap0,rfl⟩:=okWide_slice Tryz.underlying22 hv;obtain⟨fuel,hf⟩:=h;exact GG hf
end
section
open Go.RowKit Go.BigFrame
attribute [local go_sem ↓] Go.wp_at_zero Go.wp_at_succ
def nH(n:Nat)(M:Mx.Mat):Mx.Mat:=(Mx.red n 0 (0,M)).2.take (Mx.red n 0 (0,M)).1
end
section
open Go.RowKit
namespace DW
theorem ar_ra{X:Nat->Prop}{w:World}{row:List Int}{v:Value}(h:AR X w (dZ row) v)(h0:row≠[]):∃b o c,v= .slice (some ⟨b,o,none⟩) row.length c/\row.length<=c/\RA w b o row:=by
 simp only[dZ,AR]at h;obtain⟨a,c,rfl,h2,h3⟩:=h;rw[List.length_map]at h2;obtain⟨b,o,rfl,_,h4,h5⟩:=h3.resolve_left (by simpa using h0);refine⟨b,o,c,by rw[List.length_map],h2,h4,fun k z hz=>?_⟩;obtain⟨u,k1,_,_,k4⟩:=ARs.at h5 (i:=k) (d:=.nm z) (by rw[List.getElem?_map,hz];rfl);simp only[AR]at k1;obtain⟨x,rfl,hx⟩:=k1;refine⟨x,?_,?_,hx⟩
 ·have:=k4 0 (.bool x.s) rfl;simpa using this
 ·exact k4 1 (.slice x.a x.n x.cap) rfl
theorem G5{X:Nat->Prop}{w:World}{M:Mx.Mat}{v:Value}{n:Nat}(h:AR X w (dW M) v)(hr:Mx.Rc n M)(hn:0<n):MR w v n M:=by
 simp only[dW,AR]at h;obtain⟨a,c,rfl,h2,h3⟩:=h;rw[List.length_map]at h2;refine⟨a,c,by rw[List.length_map],h2,hr,?_⟩;rcases h3 with h3|⟨b,o,rfl,_,h4,h5⟩
 ·exact .inl (by simpa using h3)
 ·refine .inr ⟨b,o,rfl,h4,fun i hi=>?_⟩;have hg:M[i]?=some (Mx.rw M i):=by unfold Mx.rw;rw[List.getD_eq_getElem?_getD,List.getElem?_eq_getElem hi];rfl
  obtain⟨u,k1,_,_,k4⟩:=ARs.at h5 (i:=i) (d:=dZ (Mx.rw M i)) (by rw[List.getElem?_map,hg];rfl);have hl:=hr.rw hi;obtain⟨b',o',c',rfl,k5,k6⟩:=ar_ra k1 (fun e=>by rw[e]at hl;simp at hl;omega);have:=k4 0 _ rfl;rw[hl]at this k5;exact⟨some ⟨b',o',none⟩,c',by simpa using this,k5,AD.some _ _,.inr ⟨b',o',rfl,k6⟩⟩
theorem ro_ar{X:Nat->Prop}{w:World}{row:List Int}{g c B:Nat}(h:RO w g row)(hc:row.length<=c)(hg:B<=g)(hX:∀b,X b->b<B):AR X w (dZ row) (.slice (some ⟨g,0,none⟩) row.length c):=by
 have hra:=h.ra;simp only[dZ,AR];refine⟨_,c,by rw[List.length_map],by rw[List.length_map];exact hc,.inr ⟨g,0,rfl,fun hx=>by have:=hX g hx;omega,hra.lt,ARs.mk fun k d hd=>?_⟩⟩;rw[List.getElem?_map]at hd;obtain⟨z,hz,rfl⟩:=Option.map_eq_some_iff.1 hd;obtain⟨x,h1,h2,h3⟩:=hra.c k z hz;refine⟨.agg #[.bool x.s,.slice x.a x.n x.cap],by simp only[AR];exact⟨x,rfl,h3⟩,rfl,rfl,fun j u hj=>?_⟩
 match j,hj with
 |0,hj=>
  have:u= .bool x.s:=by simpa[Value.cells]using hj.symm
  rw[this];exact h1
 |1,hj=>
  have:u= .slice x.a x.n x.cap:=by simpa[Value.cells]using hj.symm
  rw[this];exact h2
 |j+2,hj=>simp[Value.cells]at hj
theorem GF{X:Nat->Prop}{w:World}{B gm n cap:Nat}{gs cs:Nat->Nat}{M:Mx.Mat}(h:MB w B gm M.length gs cs n M)(hc:M.length<=cap)(hX:∀b,X b->b<B):AR X w (dW M) (.slice (some ⟨gm,0,none⟩) M.length cap):=by
 simp only[dW,AR];refine⟨_,cap,by rw[List.length_map],by rw[List.length_map];exact hc,.inr ⟨gm,0,rfl,fun hx=>by have:=hX gm hx;have:=h.b;omega,h.lt,ARs.mk fun i d hd=>?_⟩⟩;rw[List.getElem?_map]at hd;obtain⟨row,hrow,rfl⟩:=Option.map_eq_some_iff.1 hd;have hi:=(List.getElem?_eq_some_iff.1 hrow).1;have hl:row.length=n:=h.rc row (List.mem_of_getElem? hrow);obtain⟨b,h1,h2,⟨g0,o0,h3⟩,h4⟩:=h.hc i hi;refine⟨.slice b n (cs i),?_,rfl,rfl,fun j u hj=>?_⟩
 ·by_cases hn:0<n
  ·obtain⟨rfl,h5,_,h7⟩:=h4 hn;rw[Mx.qv hrow]at h7;have:=ro_ar (X:=X) h7 (by rw[hl];exact h2) h5 hX;rwa[hl]at this
  ·have h0:row=[]:=List.eq_nil_of_length_eq_zero (by omega);subst h0;simp only[dZ,List.map_nil,AR];exact⟨b,cs i,by simp at hl;rw[<-hl];rfl,Nat.zero_le _,.inl trivial⟩
 ·match j,hj with
  |0,hj=>
   have:u= .slice b n (cs i):=by simpa[Value.cells]using hj.symm
   rw[this];simpa using h1
  |j+1,hj=>simp[Value.cells]at hj
end DW
end
section
open Go.RowKit
namespace DW
set_option maxRecDepth 20000
set_option maxHeartbeats 2000000
theorem wof_d(m:List (List Int))(n:Nat)(hm:m.length<=1000000)(hn:n<=1000000)(hr:Mx.Rc n m)(hb:∀l∈m,∀z∈l,I64 z):Fn Tryz.prog 72 [dM m] (dW m):=by
 refine⟨enters_of Tryz.func72 ae rfl,fun X w vs hX hv=>?_⟩;simp only[ATp]at hv;obtain⟨v,rest,e,h1,rfl⟩:=hv;have:vs= #[v]:=Array.toList_inj.1 e;subst this;exact(vK m n v hm hn hr hb w (qw h1)).mono fun e w' ⟨⟨gm,gs,cs,cap,h5,h6,h7⟩,h9⟩=>⟨_,h5,GF h7 h6 (fun b hb=>(hX b hb).1),h9⟩
end DW
end
section
open Go.RowKit
namespace DW
theorem vL(m:List (List Int))(hm:m.length<=1000000000):Fn Tryz.prog 111 [dM m] (zI (wid m)):=by
 refine⟨enters_of Tryz.func111 ae rfl,fun X w vs hX hv=>?_⟩;simp only[ATp]at hv;obtain⟨v1,r1,e1,h1,rfl⟩:=hv;have:vs= #[v1]:=Array.toList_inj.1 e1;subst this;exact(sb m v1 hm w (qw h1)).mono fun e w' ⟨h1,h2⟩=>⟨_,h1,vn _,h2⟩
theorem Gv(m:List (List Int))(hm:m.length<=1000000000)(hr:∀r∈m,r.length<=1000000000):Fn Tryz.prog 40 [dM m] (zI (chk m)):=by
 refine⟨enters_of Tryz.func40 ae rfl,fun X w vs hX hv=>?_⟩;simp only[ATp]at hv;obtain⟨v1,r1,e1,h1,rfl⟩:=hv;have:vs= #[v1]:=Array.toList_inj.1 e1;subst this;exact(sR m v1 hm hr w (qw h1)).mono fun e w' ⟨h1,h2⟩=>⟨_,h1,vn _,h2⟩
end DW
end
end Go.Proofs.YtcgjmdpcplhanaaGreat
