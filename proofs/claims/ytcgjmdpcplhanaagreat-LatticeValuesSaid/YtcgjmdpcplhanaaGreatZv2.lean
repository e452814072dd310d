/- Lemmas for the law: W19 M1 M2 M3 V1 D1 D2 D3 D4 D5 D6 D7 D8 D9 DA H1 H2 H3 -/
import Derived.Laws.MakeOwn
import Derived.Deep.MidRow
import Derived.Maps.AppendAt
import Derived.Great.BuildSlice
import Derived.Shelf.Abstract
import Derived.Laws.CopyRow
import Derived.Laws.Small
import Derived.Laws.AppendOwnNone
import Derived.BigQuiet
import Derived.Test.YtcgjmdpcplhanaaGreatZv1
namespace Go.Proofs.YtcgjmdpcplhanaaGreat
section
abbrev bJ:=@Array.length_toList
abbrev bf:=@Nat.blt_eq
abbrev qI:=@Int.le_refl
abbrev oe:=@Array.getElem?_map
abbrev od:=@Array.getElem?_range
abbrev fE:=@Nat.sub_self
abbrev ai:=@Option.some.injEq
abbrev gH:=@Int.neg_mul
abbrev ep:=@Int.mul_comm
abbrev qH:=@Int.emod_nonneg
abbrev qG:=@Int.emod_lt
abbrev lx:=@Nat.le_succ
abbrev cZ:=@Int.mul_assoc
abbrev fZ:=@Int.add_zero
abbrev tZ:=@Int.mul_left_comm
abbrev eY:=@Int.mul_zero
abbrev mA:=@List.drop_eq_nil_of_le
abbrev gZ:=@List.append_nil
abbrev oc:=@Bool.or_eq_true
abbrev cn:=@Array.getD_eq_getD_getElem?
abbrev mz:=@Array.getElem?_setIfInBounds
abbrev oa:=@List.all_cons
abbrev dp:=@Array.toList_inj
abbrev ck:=@Option.map_some
abbrev fD:=@List.all_eq_true
abbrev cA:=@Option.isSome_iff_exists
abbrev gY:=@List.length_singleton
abbrev cY:=@List.append_assoc
abbrev eD:=@Nat.beq_refl
abbrev bI:=@List.mem_cons
abbrev aO:=@Nat.zero_le
abbrev dn:=@Nat.eq_of_beq_eq_true
abbrev iV:=@Nat.sub_zero
abbrev qF:=@Option.bind_some
abbrev tY:=@Nat.ne_of_beq_eq_false
abbrev aY:=@List.length_map
abbrev lv:=@Int.toNat_natCast
abbrev fY:=@List.size_toArray
abbrev nZ:=@List.toList_toArray
abbrev qE:=@List.ext_getElem?
abbrev iU:=@Nat.lt_succ_self
theorem zb44{p:Prop}(h:p:=by simp only[cq,aP,eQ,bJ,hsz];omega):p:=h
theorem nJ{p:Prop}(h:p:=by rw[ho];simp[Op.operands,Call.operands]):p:=h
theorem vq{p:Prop}(h:p:=by unfold cP;rw[hdst];simpa[bf]using ht):p:=h
theorem BS{p:Prop}(h:p:=by rw[aP];omega):p:=h
theorem qm{p:Prop}(h:p:=by simpa using e):p:=h
theorem zb59{p:Prop}(h:p:=by simp only[Da,IntWalk.i64_left];rw[xu _ hb]):p:=h
theorem BQ{p:Prop}(h:p:=by rw[HB5.out];simp;omega):p:=h
theorem bA{p:Prop}(h:p:=by rw[ho];simp[Op.operands]):p:=h
theorem sQ{p:Prop}(h:p:=by simpa[bf]using ht):p:=h
end
section
open Go.RowKit Go.BigFrame
attribute [local go_sem ↓] Go.wp_at_zero Go.wp_at_succ
theorem Off.set(w:World)(g o:Nat)(v:Value):Off g w (w.setCell ⟨g,o,none⟩ v):=
 ⟨by simp,fun k hk=>by
  simp only[World.setCell,xP];rw[ah (fun e=>hk e.symm)]⟩
theorem Off.trans{b:Nat}{U V W:World}(h:Off b U V)(k:Off b V W):Off b U W:=⟨k.1.trans h.1,fun i hi=>(k.2 i hi).trans (h.2 i hi)⟩
structure RI(w:World)(g:Nat)(xs:List IV)(zs:List Int):Prop where
 lt:g<w.heap.size
 len:xs.length=zs.length
 c0:∀(k:Nat) (x:IV),xs[k]?=some x->w.cell? ⟨g,k*2,none⟩=some (.bool x.s)
 c1:∀(k:Nat) (x:IV),xs[k]?=some x->w.cell? ⟨g,k*2+1,none⟩=some (.slice x.a x.n x.cap)
 fr:∀k,w.frozen? ⟨g,k,none⟩=false
 iz:∀(k:Nat) (x:IV) (z:Int),xs[k]?=some x->zs[k]?=some z->IZ w x z
theorem RI.below{B:Nat}{w w':World}{g:Nat}{xs:List IV}{zs:List Int}(h:RI w g xs zs)(hb:Below B w w')(hB:w.heap.size<=B):RI w' g xs zs:=by
 have hg:g<B:=aK h.lt hB;exact⟨aK h.lt hb.size,h.len,fun k x hx=>(hb.cell (p:=⟨g,k*2,none⟩) hg).trans (h.c0 k x hx),fun k x hx=>(hb.cell (p:=⟨g,k*2+1,none⟩) hg).trans (h.c1 k x hx),fun k=>(hb.frozen (p:=⟨g,k,none⟩) hg).trans (h.fr k),fun k x z hx hz=>(h.iz k x z hx hz).below hb hB⟩
def ff(w:World)(g k:Nat)(x:IV):World:=(w.setCell ⟨g,k*2,none⟩ (.bool x.s)).setCell ⟨g,k*2+1,none⟩ (.slice x.a x.n x.cap)
theorem Gy(w:World)(g k:Nat)(x:IV):Off g w (ff w g k x):=(Off.set _ _ _ _).trans (Off.set _ _ _ _)
theorem RI.set{w:World}{g k:Nat}{xs:List IV}{zs:List Int}(h:RI w g xs zs)(hk:k<xs.length){x:IV}{z:Int}(hz:IZ w x z):RI (ff w g k x) g (xs.set k x) (zs.set k z):=by
 obtain⟨x0,hx0⟩:∃x0,xs[0]?=some x0:=⟨_,aV aa⟩;obtain⟨xk,hxk⟩:∃xk,xs[k]?=some xk:=⟨_,aV hk⟩;have hb:=h.c0 0 x0 hx0;rw[iG]at hb;have k0:=h.c0 k xk hxk;have k1:=h.c1 k xk hxk;have ho:=Gy w g k x;refine⟨by rw[ho.1];exact h.lt,by rw[dc,dc];exact h.len,fun i y hy=>?_,fun i y hy=>?_,fun i=>?_,fun i y u hy hu=>?_⟩
 ·unfold ff;rw[dR _ _ _ _ _ aa];by_cases e:i=k
  ·subst e;rw[lj hk]at hy;cases hy;exact eU _ _ _ _ _ k0
  ·rw[rO (Ne.symm e)]at hy;rw[dR _ _ _ _ _ aa];exact h.c0 i y hy
 ·unfold ff;by_cases e:i=k
  ·subst e;rw[lj hk]at hy;cases hy;exact eU _ _ _ _ _ ((dR _ _ _ _ _ aa).trans k1)
  ·rw[rO (Ne.symm e)]at hy;rw[dR _ _ _ _ _ aa,dR _ _ _ _ _ aa];exact h.c1 i y hy
 ·unfold ff;rw[World.frozen?_setCell,World.frozen?_setCell];exact h.fr i
 ·by_cases e:i=k
  ·subst e;rw[lj hk]at hy;rw[lj (by rw[<-h.len];exact hk)]at hu;cases hy;cases hu;exact hz.off ho hb
  ·rw[rO (Ne.symm e)]at hy hu;exact(h.iz i y u hy hu).off ho hb
theorem ze:(Tryz.prog.info? 62).map (fun i=>(i.zero,i.size,i.bytes))=some (some (.agg #[.bool false,.slice none 0 0]),2,32):=by kernel_rfl
theorem E7(t:TypeId)(ht:Tryz.prog.underlying t=some (.slice 62))(n:Nat)(hn:n<=1000000000)(w:World):
  (Instr.makeSlice t (.int .i64 (n:Int)) (.int .i64 (n:Int))).run Tryz.prog w= .ok (.slice (some ⟨w.heap.size,0,none⟩) n n) (w.alloc (.cells (madeCells #[.bool false,.slice none 0 0] (n*2)) 62)):=by
 obtain⟨i,hi,hz,hs,hb⟩:=iZ ze;have hr:=run_make (P:=Tryz.prog) w t 62 i _ ht hi hz .i64 .i64 n n aa (qI _) (by rw[hb];omega) aa;rw[hs]at hr;simpa[Value.cells]using hr
theorem qX(n k:Nat)(hk:k<n):(madeCells #[.bool false,.slice none 0 0] (n*2))[k*2]?=some (.bool false)/\(madeCells #[.bool false,.slice none 0 0] (n*2))[k*2+1]?=some (.slice none 0 0):=by
 unfold madeCells;rw[oe,oe,od,od,aj aa,aj aa];simp
theorem RI.made(w:World)(n:Nat):RI (w.alloc (.cells (madeCells #[.bool false,.slice none 0 0] (n*2)) 62)) w.heap.size (List.replicate n ⟨false,none,0,0⟩) (List.replicate n 0):=by
 have hh:=heap_alloc_new w (.cells (madeCells #[.bool false,.slice none 0 0] (n*2)) 62);have hr:∀{α:Type} {v x:α} {k:Nat},(List.replicate n v)[k]?=some x->k<n/\x=v:=fun h=>by
  rw[oY]at h;split at h
  ·cases h;exact⟨by assumption,rfl⟩
  ·cases h
 refine⟨by simp,by simp,fun k x hx=>?_,fun k x hx=>?_,fun k=>?_,fun k x z hx hz=>?_⟩
 ·obtain⟨h1,rfl⟩:=hr hx;rw[cell_of_row _ w.heap.size _ _ _ (0,0) hh];exact(qX n k h1).1
 ·obtain⟨h1,rfl⟩:=hr hx;rw[cell_of_row _ w.heap.size _ _ _ (0,0) hh];exact(qX n k h1).2
 ·simp only[World.frozen?];rw[hh];simp
 ·obtain⟨_,rfl⟩:=hr hx;obtain⟨_,rfl⟩:=hr hz;exact IZ.zero _
def ZAt(w:World)(a:Option Addr)(l:List Int):Prop:=l=[]\/∃a0,a=some a0/\a0.block<w.heap.size/\∀(k:Nat) (x:Int),l[k]?=some x->w.cell? (a0.add k)=some (.int .i64 x)
theorem ZAt.below{B:Nat}{w w':World}{a:Option Addr}{l:List Int}(h:ZAt w a l)(hb:Below B w w')(hB:w.heap.size<=B):ZAt w' a l:=by
 rcases h with h|⟨a0,e,hl,hc⟩
 ·exact .inl h
 ·refine .inr ⟨a0,e,aK hl hb.size,fun k x hx=>?_⟩;have h1:=hc k x hx;have h2:=World.block_lt_of_cell? w _ h1;rw[hb.cell (aK h2 hB)];exact h1
def I64(z:Int):Prop:=-9223372036854775808<=z/\z<=9223372036854775807
theorem G8{l zs:List Int}{k:Nat}{z:Int}(h:zs=l.take k++List.replicate (l.length-k) 0)(hz:l[k]?=some z):zs.set k z=l.take (k+1)++List.replicate (l.length-(k+1)) 0:=by
 have hk:=(cw.1 hz).1;have e:=(cw.1 hz).2;subst h;rw[xi,ah BS,aP,cV aa,fE];obtain⟨m,hm⟩:∃m,l.length-k=m+1:=⟨l.length-k-1,by omega⟩;rw[hm,xp,gg,nd,hz,show l.length-(k+1)=m by omega];simp
def Le(w:World)(l:List Int)(e:Ending)(w':World):Prop:=(∃g xs,e= .returned (.slice (some ⟨g,0,none⟩) l.length l.length)/\w.heap.size<=g/\RI w' g xs l)/\Below w.heap.size w w'
set_option maxRecDepth 10000 in
set_option maxHeartbeats 4000000 in
theorem Ew(l:List Int)(a:Option Addr)(cap:Nat)(hl:l.length<=1000000)(hb:∀z∈l,I64 z)(w:World)(h:ZAt w a l):
  Calls Tryz.prog 142 #[.slice a l.length cap] w (Le w l):=by
 have H:=ae h;have HB:Hid _:=hb;have OF:=ae (fun z (hz:I64 z) w=>ri z hz w);have hmk:=E7 147 Tryz.underlying147 l.length aa;clear h hb;generalize hn:l.length=n at*;have HN:=ae hn;clear hn
 go_enter Tryz.func142,Tryz.ntmps142
 go_wp2_with fail
 go_loopw [11] (fun i wr=>∃(k:Nat) (xs:List IV) (zs:List Int),k<=n/\i= .int .i64 ((k:Int))/\Below w.heap.size w wr/\w.heap.size<wr.heap.size/\Hid (RI wr w.heap.size xs zs/\zs=l.take k++List.replicate (l.length-k) 0)) (fun i _=>n-(intOf i).toNat)
 case atStart=>
  exact⟨0,List.replicate n ⟨false,none,0,0⟩,List.replicate n 0,by omega,rfl,by exact bel,by simp,RI.made w n,by rw[HN.out];simp⟩
 case round=>
  obtain⟨k,xs,zs,hk,rfl,hB,hlt,HR⟩:=hrel;by_cases hkn:k<n
  ·have hkn2:(k:Int)<(n:Int):=by omega
   obtain⟨z,hz⟩:∃z,l[k]?=some z:=⟨l[k]'(by rw[HN.out];omega),aV _⟩;rcases H.out.below hB (af _)with h0|⟨a0,ha,hal,hcc⟩
   ·rw[h0]at hz;simp at hz
   have cz:=hcc k z hz;subst ha;have OFz:=ae (OF.out z (HB.out z (bh hz)));have hxl:k<xs.length:=by
    rw[HR.out.1.len,HR.out.2,cq,aP,ji,HN.out];omega
   obtain⟨x0,hx0⟩:∃x0,xs[k]?=some x0:=⟨_,aV hxl⟩;have c0:=HR.out.1.c0 k x0 hx0;have c1:=HR.out.1.c1 k x0 hx0;have f0:=HR.out.1.fr (k*2);have f1:=HR.out.1.fr (k*2+1);have HZ:=ae (And.intro hz hxl);clear hcc hz hx0 hxl
   go_wp2_with (first|(go_at_call 124;(with_reducible refine(OFz.out _).mono ?_);rintro e w4 ⟨⟨y,rfl,hy⟩,hb4⟩;have HY:=ae hy;clear hy;have HB4:=ae hb4;obtain⟨g4,rfl⟩:=mob hb4;clear hb4))
   go_roundw
   case rel=>
    have hg:w.heap.size<wr.heap.size:=hlt;have hR:=(HR.out.1.below HB4.out (af _)).set HZ.out.2 HY.out;have e5:ff (more wr g4) w.heap.size k y=more (ff wr w.heap.size k y) g4:=by
     unfold ff;rw[jW _ _ _ _ hg,jW _ _ _ _ (by simpa using hg)]
    rw[e5]at hR;refine⟨k+1,xs.set k y,zs.set k z,by omega,by go_num,by exact bel,?_,hR,G8 HR.out.2 HZ.out.1⟩;first|omega|(simp;omega)|(simp only[gh,World.size_setCell];omega)
   case measure=>simp[intOf];omega
  ·obtain rfl:k=n:=by omega
   have hkn2:¬(k:Int)<(k:Int):=by omega
   go_wp2_with fail
   go_ret
   refine⟨⟨w.heap.size,xs,by rw[HN.out];rfl,af _,?_⟩,hB⟩;have h1:=HR.out.1;rw[HR.out.2,cR (by rw[HN.out];exact af _),HN.out]at h1;simpa using h1
end
section
namespace Mx
abbrev Mat:=List (List Int)
def rw(M:Mat)(i:Nat):List Int:=M.getD i []
def at'(M:Mat)(i j:Nat):Int:=(rw M i).getD j 0
def qd(q:Int)(a b:List Int):List Int:=List.zipWith (fun x y=>x+q*y) a b
theorem zJ(q:Int)(a b:List Int)(h:a.length=b.length):(qd q a b).length=a.length:=by
 unfold qd;rw[List.length_zipWith,h,Nat.min_self]
theorem Bb(q:Int):∀(a b:List Int) (j:Nat),a.length=b.length->(qd q a b).getD j 0=a.getD j 0+q*b.getD j 0
 |[],[],j,_=>by simp[qd]
 |x::a,y::b,0,_=>by simp[qd]
 |x::a,y::b,j+1,h=>by
  have:=Bb q a b j (by simpa using h);unfold qd at this⊢;rw[List.zipWith_cons_cons,pd,pd,pd];exact this
 |[],y::b,_,h=>by simp at h
 |x::a,[],_,h=>by simp at h
def neg(a:List Int):List Int:=a.map fun x=>-x
theorem Kd(a:List Int):(neg a).length=a.length:=by simp[neg]
theorem LM(a:List Int)(j:Nat):(neg a).getD j 0= -(a.getD j 0):=by
 unfold neg;rw[aF,aF,db];cases a[j]?<;>simp
def Rc(n:Nat)(M:Mat):Prop:=∀r∈M,r.length=n
theorem Rc.rw{n:Nat}{M:Mat}(h:Rc n M){i:Nat}(hi:i<M.length):(rw M i).length=n:=by
 unfold Mx.rw;rw[aF,aV hi];exact h _ (List.getElem_mem hi)
theorem Rc.set{n:Nat}{M:Mat}(h:Rc n M){i:Nat}{r:List Int}(hr:r.length=n):Rc n (M.set i r):=fun x hx=>by
 rcases List.mem_or_eq_of_mem_set hx with h1|h1
 ·exact h x h1
 ·rw[h1];exact hr
theorem jX(M:Mat)(i k:Nat)(r:List Int)(hi:i<M.length):rw (M.set i r) k=if k=i then r else rw M k:=by
 unfold rw;rw[aF,List.getElem?_set];by_cases h:i=k
 ·subst h;simp[hi]
 ·rw[ah h,ah (fun e=>h e.symm),aF]
theorem MD(M:Mat)(i k j:Nat)(r:List Int)(hi:i<M.length):at' (M.set i r) k j=if k=i then r.getD j 0 else at' M k j:=by
 unfold at';rw[jX _ _ _ _ hi];split<;>rfl
def swp(M:Mat)(i j:Nat):Mat:=(M.set i (rw M j)).set j (rw M i)
theorem cW(M:Mat)(i j:Nat):(swp M i j).length=M.length:=by simp[swp]
theorem jV{n:Nat}{M:Mat}(h:Rc n M){i j:Nat}(hi:i<M.length)(hj:j<M.length):Rc n (swp M i j):=(h.set (h.rw hj)).set (h.rw hi)
theorem uj{M:Mat}{i j:Nat}(hi:i<M.length)(hj:j<M.length)(k:Nat):rw (swp M i j) k=if k=j then rw M i else if k=i then rw M j else rw M k:=by
 unfold swp;rw[jX _ _ _ _ (by simpa using hj),jX _ _ _ _ hi]
theorem eM{M:Mat}{i j:Nat}(hi:i<M.length)(hj:j<M.length)(k l:Nat):at' (swp M i j) k l=if k=j then at' M i l else if k=i then at' M j l else at' M k l:=by
 unfold at';rw[uj hi hj];split
 ·rfl
 ·split<;>rfl
def scan(c r:Nat)(M:Mat):Nat->Option Nat×Nat
 |0=>(none,0)
 |k+1=>
  let p:=scan c r M k
  if at' M (r+k) c=0 then p
  else(match p.1 with
   |none=>some (r+k)
   |some t=>if(at' M (r+k) c).natAbs<(at' M t c).natAbs then some (r+k)else some t,p.2+1)
structure M0(c r:Nat)(M:Mat)(k:Nat)(p:Option Nat×Nat):Prop where
 no:p.1=none->p.2=0/\∀i,r<=i->i<r+k->at' M i c=0
 yes:∀t,p.1=some t->r<=t/\t<r+k/\at' M t c≠0/\(∀i,r<=i->i<r+k->at' M i c≠0->(at' M t c).natAbs<=(at' M i c).natAbs)/\1<=p.2/\(p.2=1->∀i,r<=i->i<r+k->i≠t->at' M i c=0)/\(2<=p.2->∃i,r<=i/\i<r+k/\i≠t/\at' M i c≠0)
theorem lX(c r:Nat)(M:Mat):∀k,M0 c r M k (scan c r M k)
 |0=>⟨fun _=>⟨rfl,fun i h1 h2=>absurd h2 aa⟩,fun t h=>(by cases h)⟩
 |k+1=>by
  have ih:=lX c r M k;unfold scan;generalize scan c r M k=p at ih;obtain⟨o,n⟩:=p;simp only[];by_cases hz:at' M (r+k) c=0
  ·rw[aj hz];refine⟨fun h=>⟨(ih.no h).1,fun i h1 h2=>?_⟩,fun t h=>?_⟩
   ·by_cases e:i=r+k
    ·rw[e];exact hz
    ·exact(ih.no h).2 i h1 aa
   ·obtain⟨h1,h2,h3,h4,h5,h6,h7⟩:=ih.yes t h;refine⟨h1,by omega,h3,fun i g1 g2 g3=>h4 i g1 ?_ g3,h5,fun g i g1 g2 g3=>?_,fun g=>?_⟩
    ·by_cases e:i=r+k
     ·rw[e]at g3;exact absurd hz g3
     ·omega
    ·by_cases e:i=r+k
     ·rw[e];exact hz
     ·exact h6 g i g1 aa g3
    ·obtain⟨i,i1,i2,i3,i4⟩:=h7 g;exact⟨i,i1,by omega,i3,i4⟩
  ·rw[ah hz]
   cases o with
   |none=>
    obtain⟨hn,h0⟩:=ih.no rfl;simp only[]at hn;subst hn;refine⟨fun h=>(by cases h),fun t h=>?_⟩;simp only[ai]at h;subst h;refine⟨by omega,by omega,hz,fun i g1 g2 g3=>?_,by simp,fun _ i g1 g2 g3=>h0 i g1 aa,fun g=>by simp at g⟩;by_cases e:i=r+k
    ·rw[e];exact af _
    ·exact absurd (h0 i g1 aa) g3
   |some t0=>
    obtain⟨h1,h2,h3,h4,h5,h6,h7⟩:=ih.yes t0 rfl;refine⟨fun h=>(by simp only[]at h;split at h<;>cases h),fun t h=>?_⟩;simp only[]at h h5⊢;split at h
    ·rename_i hlt;simp only[ai]at h;subst h;refine⟨by omega,by omega,hz,fun i g1 g2 g3=>?_,by omega,fun g=>by omega,fun _=>⟨t0,h1,by omega,by omega,h3⟩⟩;by_cases e:i=r+k
     ·rw[e];exact af _
     ·have:=h4 i g1 aa g3;omega
    ·rename_i hlt;simp only[ai]at h;subst h;refine⟨h1,by omega,h3,fun i g1 g2 g3=>?_,by omega,fun g=>by omega,fun _=>⟨r+k,by omega,by omega,by omega,hz⟩⟩;by_cases e:i=r+k
     ·rw[e];omega
     ·exact h4 i g1 aa g3
def mg(p:List Int)(c:Nat)(a:List Int):List Int:=qd (-(a.getD c 0/p.getD c 0)) a p
theorem Aj(p a:List Int)(c:Nat)(h:a.length=p.length):(mg p c a).length=a.length:=zJ _ _ _ h
theorem CR(p a:List Int)(c j:Nat)(h:a.length=p.length):(mg p c a).getD j 0=a.getD j 0-(a.getD c 0/p.getD c 0)*p.getD j 0:=by
 unfold mg;rw[Bb _ _ _ _ h,gH];omega
def fI(r c s:Nat)(M:Mat):Nat->Mat
 |0=>M
 |k+1=>(fI r c s M k).set (s+k) (mg (rw M r) c (rw M (s+k)))
theorem ir(r c s:Nat)(M:Mat):∀k,(fI r c s M k).length=M.length
 |0=>rfl
 |k+1=>by simp[fI,ir r c s M k]
theorem mN(r c s:Nat)(M:Mat):∀k,s+k<=M.length->∀i,rw (fI r c s M k) i=if s<=i/\i<s+k then mg (rw M r) c (rw M i)else rw M i
 |0,_,i=>by rw[ah aa];rfl
 |k+1,h,i=>by
  unfold fI;rw[jX _ _ _ _ (by rw[ir];omega),mN r c s M k aa];by_cases e:i=s+k
  ·subst e;rw[aj rfl,aj aa]
  ·rw[ah e];by_cases h1:s<=i/\i<s+k
   ·rw[aj h1,aj aa]
   ·rw[ah h1,ah aa]
theorem zm{n:Nat}{r c s:Nat}{M:Mat}(h:Rc n M)(hr:r<M.length):∀k,s+k<=M.length->Rc n (fI r c s M k)
 |0,_=>h
 |k+1,hk=>(zm h hr k aa).set (by rw[Aj _ _ _ (by rw[h.rw aa,h.rw hr]),h.rw aa])
theorem mO{n:Nat}{r c s:Nat}{M:Mat}(h:Rc n M)(hr:r<M.length){k:Nat}(hk:s+k<=M.length)(i j:Nat):
  at' (fI r c s M k) i j=if s<=i/\i<s+k then at' M i j-(at' M i c/at' M r c)*at' M r j else at' M i j:=by
 unfold at';rw[mN r c s M k hk];split
 ·rename_i h1;exact CR _ _ _ _ (by rw[h.rw aa,h.rw hr])
 ·rfl
def elim(r c:Nat)(M:Mat):Mat:=fI r c (r+1) M (M.length-(r+1))
def iQ(r c:Nat)(M:Mat):Nat->Nat
 |0=>0
 |k+1=>iQ r c M k+(at' M (r+k) c).natAbs
def lD(r c:Nat)(M:Mat):Nat:=iQ r c M (M.length-r)
theorem Ar{r c:Nat}{A B:Mat}:∀k,(∀i,r<=i->i<r+k->(at' A i c).natAbs<=(at' B i c).natAbs)->iQ r c A k<=iQ r c B k
 |0,_=>af _
 |k+1,h=>by
  have h1:=Ar k fun i h1 h2=>h i h1 aa;have h2:=h (r+k) aa aa;unfold iQ;omega
theorem Aq{r c:Nat}{A B:Mat}:∀k,(∀i,r<=i->i<r+k->(at' A i c).natAbs<=(at' B i c).natAbs)->(∃i,r<=i/\i<r+k/\(at' A i c).natAbs<(at' B i c).natAbs)->iQ r c A k<iQ r c B k
 |0,_,h=>by obtain⟨i,h1,h2,_⟩:=h;omega
 |k+1,h,h3=>by
  have h1:=Ar k fun i h1 h2=>h i h1 aa;have h2:=h (r+k) aa aa;obtain⟨i,i1,i2,i3⟩:=h3;unfold iQ;by_cases e:i=r+k
  ·subst e;omega
  ·have:=Aq k (fun i h1 h2=>h i h1 aa) ⟨i,i1,by omega,i3⟩;omega
theorem Gi{r c:Nat}{M:Mat}{t:Nat}(hr:r<M.length)(ht:t<M.length)(hrt:r<=t):∀k,t<r+k->iQ r c (swp M r t) k=iQ r c M k:=by
 have key:∀k,iQ r c (swp M r t) k+(if t<r+k then(at' M t c).natAbs else 0)+(if 0<k then(at' M r c).natAbs else 0)=iQ r c M k+(if t<r+k then(at' M r c).natAbs else 0)+(if 0<k then(at' M t c).natAbs else 0):=by
  intro k
  induction k with
  |zero=>simp only[iQ];rw[ah aa,ah aa,ah aa,ah aa]
  |succ k ih=>
   unfold iQ;rw[eM hr ht];rcases jP (r+k) t with h1|h1|h1
   ·rw[ah (show¬r+k=t by omega)];rw[ah (show¬t<r+k by omega),ah (show¬t<r+k by omega)]at ih;rw[ah (show¬t<r+(k+1) by omega),ah (show¬t<r+(k+1) by omega)];by_cases hk:k=0
    ·subst hk;simp only[iQ,bP,if_true]at ih⊢;simp;omega
    ·rw[aj (show 0<k by omega),aj (show 0<k by omega)]at ih;rw[aj (show 0<k+1 by omega),aj (show 0<k+1 by omega),ah (show¬r+k=r by omega)];omega
   ·subst h1;rw[aj rfl];rw[ah (show¬r+k<r+k by omega),ah (show¬r+k<r+k by omega)]at ih;rw[aj (show r+k<r+(k+1) by omega),aj (show r+k<r+(k+1) by omega),aj (show 0<k+1 by omega),aj (show 0<k+1 by omega)];by_cases hk:k=0
    ·subst hk;simp only[iQ,bP]
    ·rw[aj (show 0<k by omega),aj (show 0<k by omega)]at ih;omega
   ·rw[ah (show¬r+k=t by omega)];rw[aj (show t<r+k by omega),aj (show t<r+k by omega)]at ih;rw[aj (show t<r+(k+1) by omega),aj (show t<r+(k+1) by omega),aj (show 0<k+1 by omega),aj (show 0<k+1 by omega)];rw[aj (show 0<k by omega),aj (show 0<k by omega)]at ih;rw[ah (show¬r+k=r by omega)];omega
 intro k hk;have:=key k;rw[aj hk,aj hk,aj aa,aj aa]at this;omega
theorem pQ{x p:Int}(hp:p≠0):0<=x-x/p*p/\x-x/p*p<(p.natAbs:Int)/\x-x/p*p=x%p:=by
 have h1:x-x/p*p=x%p:=by
  have:=Int.emod_add_mul_ediv x p;rw[ep p]at this;omega
 rw[h1];refine⟨qH x hp,?_,rfl⟩;have:=qG x hp;exact this
theorem Fq{n:Nat}{r c:Nat}{M:Mat}(h:Rc n M)(hr:r<M.length)(hp:at' M r c≠0)(hmin:∀i,r<=i->i<M.length->at' M i c≠0->(at' M r c).natAbs<=(at' M i c).natAbs)
  (h2:∃i,r<i/\i<M.length/\at' M i c≠0):lD r c (elim r c M)<lD r c M:=by
 unfold lD;have hl:(elim r c M).length=M.length:=ir _ _ _ _ _;rw[hl];have hat:∀i,r<=i->i<r+(M.length-r)->at' (elim r c M) i c=if i=r then at' M r c else at' M i c%at' M r c:=by
  intro i h3 h4;unfold elim;rw[mO h hr aa];by_cases e:i=r
  ·subst e;rw[ah aa,aj rfl]
  ·rw[aj aa,ah e,(pQ hp).2.2]
 refine Aq _ (fun i h3 h4=>?_) ?_
 ·rw[hat i h3 h4];by_cases e:i=r
  ·subst e;rw[aj rfl];exact af _
  ·rw[ah e];by_cases h0:at' M i c=0
   ·rw[h0,Int.zero_emod];exact af _
   ·have h5:=hmin i h3 aa h0;have h6:=qH (at' M i c) hp;have h7:=qG (at' M i c) hp;omega
 ·obtain⟨i,i1,i2,i3⟩:=h2;refine⟨i,by omega,by omega,?_⟩;rw[hat i aa aa,ah aa];have h5:=hmin i aa i2 i3;have h6:=qH (at' M i c) hp;have h7:=qG (at' M i c) hp;omega
def pick(r c:Nat)(M:Mat):Option Nat×Nat:=scan c r M (M.length-r)
def rA(r c:Nat):Nat->Mat->Mat
 |0,M=>M
 |f+1,M=>
  match(pick r c M).1 with
  |none=>M
  |some t=>if(pick r c M).2=1 then swp M r t else rA r c f (elim r c (swp M r t))
def kv(r c:Nat)(M:Mat):Mat:=rA r c (lD r c M+1) M
theorem lL{n:Nat}{r c:Nat}{M:Mat}(h:Rc n M){t:Nat}(ht:(pick r c M).1=some t)(h2:(pick r c M).2≠1):r<M.length/\t<M.length/\r<=t/\lD r c (elim r c (swp M r t))<lD r c M:=by
 have hs:=(lX c r M (M.length-r)).yes t ht;obtain⟨h1,h3,h4,h5,h6,_,h7⟩:=hs;have hr:r<M.length:=by omega
 have htl:t<M.length:=by omega
 refine⟨hr,htl,h1,?_⟩;have e1:lD r c (swp M r t)=lD r c M:=by
  unfold lD;rw[cW];exact Gi hr htl h1 _ aa
 rw[<-e1];have hrr:at' (swp M r t) r c=at' M t c:=by
  rw[eM hr htl];split
  ·rename_i e;rw[e]
  ·rw[aj rfl]
 refine Fq (jV h hr htl) (by rw[cW];exact hr) (by rw[hrr];exact h4) (fun i i1 i2 i3=>?_) ?_
 ·clear h7;rw[cW]at i2;rw[hrr];rw[eM hr htl]at i3⊢;split at i3
  ·rename_i e;rw[aj e];exact h5 r (af _) aa i3
  ·rename_i e;rw[ah e];split at i3
   ·rename_i e2;rw[aj e2];exact af _
   ·rename_i e2;rw[ah e2];exact h5 i i1 aa i3
 ·have h2':2<=(scan c r M (M.length-r)).2:=by unfold pick at h2;omega
  obtain⟨i,i1,i2,i3,i4⟩:=h7 h2';clear h7;rw[cW];by_cases e:i=r
  ·subst e;exact⟨t,by omega,htl,by rw[eM hr htl,aj rfl];exact i4⟩
  ·exact⟨i,by omega,by omega,by rw[eM hr htl,ah i3,ah e];exact i4⟩
theorem pA{n:Nat}{r c:Nat}{M:Mat}(h:Rc n M){t:Nat}(hr:r<M.length)(ht:t<M.length):Rc n (elim r c (swp M r t))/\(elim r c (swp M r t)).length=M.length:=
 ⟨zm (jV h hr ht) (by rw[cW];exact hr) _ (by rw[cW];omega),by unfold elim;rw[ir,cW]⟩
theorem A6{n:Nat}{r c:Nat}:∀(f g:Nat) (M:Mat),Rc n M->lD r c M<f->lD r c M<g->rA r c f M=rA r c g M
 |0,_,_,_,h,_=>by omega
 |_+1,0,_,_,_,h=>by omega
 |f+1,g+1,M,hM,h1,h2=>by
  unfold rA
  cases ht:(pick r c M).1 with
  |none=>rfl
  |some t=>
   simp only[];by_cases h3:(pick r c M).2=1
   ·rw[aj h3,aj h3]
   ·rw[ah h3,ah h3];obtain⟨hr,htl,_,hm⟩:=lL hM ht h3;exact A6 f g _ (pA hM hr htl).1 aa aa
theorem FD{r c:Nat}{M:Mat}(h:(pick r c M).1=none):kv r c M=M:=by
 unfold kv rA;rw[h]
theorem Hm{r c:Nat}{M:Mat}{t:Nat}(h:(pick r c M).1=some t)(h2:(pick r c M).2=1):kv r c M=swp M r t:=by
 unfold kv rA;rw[h];simp only[];rw[aj h2]
theorem FB{n:Nat}{r c:Nat}{M:Mat}(hM:Rc n M){t:Nat}(h:(pick r c M).1=some t)(h2:(pick r c M).2≠1):kv r c M=kv r c (elim r c (swp M r t)):=by
 obtain⟨hr,htl,_,hm⟩:=lL hM h h2
 conv=>lhs;unfold kv rA
 rw[h];simp only[];rw[ah h2];exact A6 _ _ _ (pA hM hr htl).1 aa aa
theorem zE{n:Nat}{r c:Nat}(Q:Mat->Prop)(hq:∀M,Rc n M->Q M->∀t,(pick r c M).1=some t->(pick r c M).2≠1->Q (elim r c (swp M r t)))(R:Mat->Prop)
  (h0:∀M,Rc n M->Q M->(pick r c M).1=none->R M) (h1:∀M,Rc n M->Q M->∀t,(pick r c M).1=some t->(pick r c M).2=1->R (swp M r t)):
  ∀(m:Nat) (M:Mat),lD r c M=m->Rc n M->Q M->R (kv r c M):=by
 intro m
 induction m using Nat.strongRecOn with
 |ind m ih=>
  intro M hm hM hQ
  cases ht:(pick r c M).1 with
  |none=>rw[FD ht];exact h0 M hM hQ ht
  |some t=>
   by_cases h3:(pick r c M).2=1
   ·rw[Hm ht h3];exact h1 M hM hQ t ht h3
   ·obtain⟨hr,htl,_,hlt⟩:=lL hM ht h3;rw[FB hM ht h3];exact ih _ aa _ rfl (pA hM hr htl).1 (hq M hM hQ t ht h3)
def Jo(r c:Nat)(M:Mat):Mat:=fI r c 0 M r
def yu(r c:Nat)(M:Mat):Mat:=if at' M r c<0 then M.set r (neg (rw M r))else M
def step(r c:Nat)(M:Mat):Nat×Mat:=
 let A:=kv r c M
 if at' A r c=0 then(r,A)else(r+1,Jo r c (yu r c A))
def red:Nat->Nat->Nat×Mat->Nat×Mat
 |0,_,s=>s
 |k+1,c,s=>if s.1<s.2.length then red k (c+1) (step s.1 c s.2)else s
end Mx
end
section
namespace Mx
theorem FK{M:Mat}{i j:Nat}(h:M.length<=i):at' M i j=0:=by
 have e:M.getD i []=[]:=by rw[aF,gw h];rfl
 unfold at' rw;rw[e];simp
inductive RE:Mat->Mat->Prop
 |refl (M:Mat):RE M M
 |add (M:Mat) (i j:Nat) (q:Int):i<M.length->j<M.length->i≠j->RE M (M.set i (qd q (rw M i) (rw M j)))
 |neg (M:Mat) (i:Nat):i<M.length->RE M (M.set i (neg (rw M i)))
 |swp (M:Mat) (i j:Nat):i<M.length->j<M.length->RE M (swp M i j)
 |trans {A B C:Mat}:RE A B->RE B C->RE A C
theorem RE.len{A B:Mat}(h:RE A B):B.length=A.length:=by
 induction h with
 |refl=>rfl
 |add=>simp
 |neg=>simp
 |swp=>exact cW _ _ _
 |trans _ _ h1 h2=>exact h2.trans h1
theorem RE.rc{n:Nat}{A B:Mat}(h:RE A B):Rc n A->Rc n B:=by
 induction h with
 |refl=>exact id
 |add M i j q hi hj _=>exact fun h=>h.set (by rw[zJ _ _ _ (by rw[h.rw hi,h.rw hj]),h.rw hi])
 |neg M i hi=>exact fun h=>h.set (by rw[Kd,h.rw hi])
 |swp M i j hi hj=>exact fun h=>jV h hi hj
 |trans _ _ h1 h2=>exact fun h=>h2 (h1 h)
theorem tE(r c s:Nat)(M:Mat)(hr:r<M.length):∀k,s+k<=M.length->¬(s<=r/\r<s+k)->RE M (fI r c s M k)
 |0,_,_=>.refl M
 |k+1,h,h2=>by
  have ih:=tE r c s M hr k aa aa;have e1:=mN r c s M k aa (s+k);rw[ah aa]at e1;have e2:=mN r c s M k aa r;rw[ah aa]at e2;have hl:=ir r c s M k;unfold fI mg;have:=RE.add (fI r c s M k) (s+k) r (-((rw M (s+k)).getD c 0/(rw M r).getD c 0)) aa aa aa;rw[e1,e2]at this;exact ih.trans this
theorem Kz(r c:Nat)(M:Mat)(hr:r<M.length):RE M (elim r c M):=tE r c (r+1) M hr _ aa aa
structure Low(r c:Nat)(M N:Mat):Prop where
 re:RE M N
 up:∀i,i<r->rw N i=rw M i
 zb:(∀i,r<=i->∀j,j<c->at' M i j=0)->∀i,r<=i->∀j,j<c->at' N i j=0
theorem Low.refl(r c:Nat)(M:Mat):Low r c M M:=⟨.refl M,fun _ _=>rfl,id⟩
theorem Low.trans{r c:Nat}{A B C:Mat}(h:Low r c A B)(k:Low r c B C):Low r c A C:=⟨h.re.trans k.re,fun i hi=>(k.up i hi).trans (h.up i hi),fun z=>k.zb (h.zb z)⟩
theorem Ap{r c t:Nat}{M:Mat}(hr:r<M.length)(ht:t<M.length)(h:r<=t):Low r c M (swp M r t):=
 ⟨.swp M r t hr ht,fun i hi=>by rw[uj hr ht,ah aa,ah aa],fun z i hi j hj=>by
  rw[eM hr ht];split
  ·exact z r (af _) j hj
  ·split
   ·exact z t h j hj
   ·exact z i hi j hj⟩
theorem Ha{n r c:Nat}{M:Mat}(h:Rc n M)(hr:r<M.length):Low r c M (elim r c M):=
 ⟨Kz r c M hr,fun i hi=>by unfold elim;rw[mN _ _ _ _ _ aa,ah aa],fun z i hi j hj=>by
  unfold elim;rw[mO h hr aa];split
  ·rw[z i hi j hj,z r (af _) j hj];simp
  ·exact z i hi j hj⟩
theorem zD{n r c:Nat}{M:Mat}(h:Rc n M):Low r c M (kv r c M)/\∀i,r<i->at' (kv r c M) i c=0:=by
 refine zE (n:=n) (r:=r) (c:=c) (fun N=>Low r c M N) (fun N hN hl t ht h2=>?_) (fun N=>Low r c M N/\∀i,r<i->at' N i c=0) (fun N hN hl ht=>⟨hl,fun i hi=>?_⟩) (fun N hN hl t ht h2=>?_) _ M rfl h (Low.refl r c M)
 ·obtain⟨hr,htl,hrt,_⟩:=lL hN ht h2;exact hl.trans ((Ap hr htl hrt).trans (Ha (jV hN hr htl) (by rw[cW];exact hr)))
 ·have:=((lX c r N (N.length-r)).no ht).2;by_cases hil:i<N.length
  ·exact this i aa aa
  ·exact FK aa
 ·obtain⟨h3,h4,h5,h6,h7,h8,_⟩:=(lX c r N (N.length-r)).yes t ht;have hr:r<N.length:=by omega
  have htl:t<N.length:=by omega
  refine⟨hl.trans (Ap hr htl h3),fun i hi=>?_⟩;rw[eM hr htl];split
  ·rename_i e;exact h8 h2 r (af _) aa aa
  ·rw[ah aa];by_cases hil:i<N.length
   ·exact h8 h2 i aa aa aa
   ·exact FK aa
theorem cX{M:Mat}{i:Nat}{a:List Int}(h:M[i]?=some a):rw M i=a:=by
 unfold rw;rw[aF,h];rfl
theorem Aw{r c:Nat}{M:Mat}(hr:r<M.length):RE M (yu r c M):=by
 unfold yu;split
 ·exact .neg M r hr
 ·exact .refl M
theorem Hr{r c:Nat}{M:Mat}(hr:r<M.length):RE M (Jo r c M):=tE r c 0 M hr r aa aa
theorem JN{n r c:Nat}{M:Mat}(h:Rc n M)(hr:r<M.length):RE M (step r c M).2/\r<=(step r c M).1/\(step r c M).1<=r+1:=by
 have h1:=(zD (r:=r) (c:=c) h).1.re;unfold step;simp only[];split
 ·exact⟨h1,af _,lx _⟩
 ·have h2:r<(kv r c M).length:=by rw[h1.len];exact hr
  have h3:=Aw (c:=c) h2;exact⟨h1.trans (h3.trans (Hr (by rw[h3.len];exact h2))),lx _,af _⟩
def lcf:(Nat->Int)->Mat->Nat->Int
 |_,[],_=>0
 |f,a::A,j=>f 0*a.getD j 0+lcf (fun i=>f (i+1)) A j
theorem pJ(f:Nat->Int)(a:List Int)(A:Mat)(j:Nat):lcf f (a::A) j=f 0*a.getD j 0+lcf (fun i=>f (i+1)) A j:=rfl
def SP(M:Mat)(v:Nat->Int):Prop:=∃f,∀j,v j=lcf f M j
theorem AP:∀(M:Mat) (f g:Nat->Int) (x y:Int) (j:Nat),lcf (fun i=>x*f i+y*g i) M j=x*lcf f M j+y*lcf g M j
 |[],f,g,x,y,j=>by simp[lcf]
 |a::M,f,g,x,y,j=>by
  rw[pJ,pJ,pJ];show(x*f 0+y*g 0)*_+lcf (fun i=>x*f (i+1)+y*g (i+1)) M j=_;rw[AP M (fun i=>f (i+1)) (fun i=>g (i+1)) x y j,Int.add_mul,iE,iE,cZ,cZ];omega
theorem yV:∀(M:Mat) (j:Nat),lcf (fun _=>0) M j=0
 |[],_=>rfl
 |a::M,j=>by rw[pJ,yV M j];simp
theorem SP.lin{M:Mat}{u v:Nat->Int}(h:SP M u)(k:SP M v)(x y:Int):SP M (fun j=>x*u j+y*v j):=by
 obtain⟨f,hf⟩:=h;obtain⟨g,hg⟩:=k;exact⟨fun i=>x*f i+y*g i,fun j=>by rw[AP,<-hf,<-hg]⟩
theorem SP.zero(M:Mat):SP M (fun _=>0):=⟨_,fun j=>(yV M j).symm⟩
theorem SP.congr{M:Mat}{u v:Nat->Int}(h:SP M u)(e:∀j,v j=u j):SP M v:=by
 obtain⟨f,hf⟩:=h;exact⟨f,fun j=>(e j).trans (hf j)⟩
theorem zL(a:List Int)(N:Mat)(i j:Nat):at' (a::N) (i+1) j=at' N i j:=by simp[at',rw]
theorem zK(a:List Int)(N:Mat)(j:Nat):at' (a::N) 0 j=a.getD j 0:=by simp[at',rw]
theorem Ec{M:Mat}:∀(N:Mat) (f:Nat->Int),(∀i,i<N.length->SP M (at' N i))->SP M (fun j=>lcf f N j)
 |[],_,_=>SP.zero M
 |a::N,f,h=>by
  have h1:=Ec N (fun i=>f (i+1)) fun i hi=>(h (i+1) dK).congr fun j=>(zL a N i j).symm;have h2:=h 0 aU;exact(h2.lin h1 (f 0) 1).congr fun j=>by
   show f 0*a.getD j 0+lcf (fun i=>f (i+1)) N j=_;rw[zK];omega
theorem SP.sub{M N:Mat}(h:∀i,i<N.length->SP M (at' N i)){v:Nat->Int}(hv:SP N v):SP M v:=by
 obtain⟨f,hf⟩:=hv;exact(Ec N f h).congr hf
def HF:Mat->Prop
 |[]=>True
 |a::A=>(∀i j,at' (a::A) i j=0)\/∃p,(∀i j,j<p->at' (a::A) i j=0)/\0<a.getD p 0/\(∀i,at' A i p=0)/\HF A/\∀i q,(∀j,j<q->at' A i j=0)->at' A i q≠0->0<=a.getD q 0/\a.getD q 0<at' A i q
end Mx
end
section
namespace Mx
def sm:Nat->(Nat->Int)->Int
 |0,_=>0
 |n+1,f=>sm n f+f n
theorem bN:∀(n:Nat) (f g:Nat->Int),(∀k,k<n->f k=g k)->sm n f=sm n g
 |0,_,_,_=>rfl
 |n+1,f,g,h=>by unfold sm;rw[bN n f g fun k hk=>h k aa,h n aa]
theorem mG(x y:Int):∀(n:Nat) (f g:Nat->Int),sm n (fun k=>x*f k+y*g k)=x*sm n f+y*sm n g
 |0,_,_=>by simp[sm]
 |n+1,f,g=>by
  show sm n (fun k=>x*f k+y*g k)+(x*f n+y*g n)=x*(sm n f+f n)+y*(sm n g+g n);rw[mG x y n f g,iE,iE];omega
theorem mF(x:Int):∀(n:Nat) (f:Nat->Int),sm n (fun k=>x*f k)=x*sm n f
 |0,_=>by simp[sm]
 |n+1,f=>by
  show sm n (fun k=>x*f k)+x*f n=x*(sm n f+f n);rw[mF x n f,iE]
theorem iI:∀(n:Nat) (f:Nat->Int),(∀k,k<n->f k=0)->sm n f=0
 |0,_,_=>rfl
 |n+1,f,h=>by unfold sm;rw[iI n f fun k hk=>h k aa,h n aa];rfl
theorem Eh(n:Nat)(f:Nat->Int):sm n (fun k=>-(f k))= -(sm n f):=by
 have:=mG (-1) 0 n f f;rw[bN n (fun k=>-(f k)) (fun k=>-1*f k+0*f k) fun k _=>by omega,this];omega
theorem Eg{n j:Nat}{f:Nat->Int}(hj:j<n)(h:∀k,k<n->k≠j->f k=0):sm n f=f j:=by
 induction n with
 |zero=>omega
 |succ n ih=>
  unfold sm;by_cases e:j=n
  ·subst e;rw[iI j f fun k hk=>h k aa aa];omega
  ·rw[ih aa fun k hk hk2=>h k aa hk2,h n aa (fun e2=>e e2.symm)];omega
theorem Ei(n:Nat)(f g:Nat->Int):sm n (fun k=>f k+g k)=sm n f+sm n g:=by
 have:=mG 1 1 n f g;rw[bN n (fun k=>f k+g k) (fun k=>1*f k+1*g k) fun k _=>by omega,this];omega
theorem vE(m:Nat)(U:Nat->Nat->Int):∀n,sm n (fun k=>sm m (U k))=sm m (fun l=>sm n (fun k=>U k l))
 |0=>by rw[iI m (fun l=>sm 0 fun k=>U k l) fun _ _=>rfl];rfl
 |n+1=>by
  show sm n (fun k=>sm m (U k))+sm m (U n)=sm m (fun l=>sm n (fun k=>U k l)+U n l);rw[Ei,vE m U n]
theorem JS(n:Nat)(U:Nat->Nat->Int)(h:∀k m,k<n->m<n->U k m= -(U m k)):sm n (fun k=>sm n (U k))=0:=by
 have h1:=vE n U n;have h2:sm n (fun l=>sm n (fun k=>U k l))= -(sm n (fun l=>sm n (U l))):=by
  rw[<-Eh];refine bN n _ _ fun l hl=>?_;rw[<-Eh];exact bN n _ _ fun k hk=>h k l hk hl
 omega
def skip(k j:Nat):Nat:=if j<k then j else j+1
theorem Au(g:Nat->Int):∀(n k:Nat),k<=n->sm (n+1) g=sm n (fun l=>g (skip k l))+g k
 |n,k,hk=>by
  induction n generalizing k with
  | zero => have : k = 0 := by omega
            subst this;rfl
  |succ n ih=>
   by_cases e:k=n+1
   ·subst e;show sm (n+1) g+g (n+1)=_;rw[bN (n+1) (fun l=>g (skip (n+1) l)) g fun l hl=>by unfold skip;rw[aj hl]]
   ·have h1:=ih k aa;show sm (n+1) g+g (n+1)=sm n (fun l=>g (skip k l))+g (skip k n)+g k;rw[h1,show skip k n=n+1 by unfold skip;rw[ah aa]];omega
def sg(k:Nat):Int:=if k%2=0 then 1 else-1
theorem vG(k:Nat):sg (k+1)= -(sg k):=by
 unfold sg;by_cases h:k%2=0
 ·rw[ah aa,aj h]
 ·rw[aj aa,ah h];rfl
def D:Nat->(Nat->Nat->Int)->Int
 |0,_=>1
 |n+1,f=>sm (n+1) fun k=>sg k*f 0 k*D n (fun i j=>f (i+1) (skip k j))
theorem cK:∀(n:Nat) (f g:Nat->Nat->Int),(∀i j,i<n->j<n->f i j=g i j)->D n f=D n g
 |0,_,_,_=>rfl
 |n+1,f,g,h=>by
  unfold D;refine bN _ _ _ fun k hk=>?_;rw[h 0 k aa hk,cK n _ _ fun i j hi hj=>h (i+1) (skip k j) aa (by unfold skip;split<;>omega)]
def upd(f:Nat->Nat->Int)(i:Nat)(a:Nat->Int):Nat->Nat->Int:=fun k j=>if k=i then a j else f k j
theorem qh(x y:Int):∀(n:Nat) (f:Nat->Nat->Int) (i:Nat) (a b:Nat->Int),i<n->D n (upd f i fun j=>x*a j+y*b j)=x*D n (upd f i a)+y*D n (upd f i b)
 |0,_,_,_,_,h=>by omega
 |n+1,f,0,a,b,_=>by
  unfold D;rw[<-mG];refine bN _ _ _ fun k _=>?_;have e:∀c:Nat->Int,(fun i j=>upd f 0 c (i+1) (skip k j))=fun i j=>f (i+1) (skip k j):=fun c=>by
   funext i j;unfold upd;rw[ah aa]
  rw[e,e,e];generalize D n (fun i j=>f (i+1) (skip k j))=d;unfold upd;rw[aj rfl,aj rfl,aj rfl];generalize sg k=s;rw[iE,Int.add_mul];congr 1
  ·rw[<-cZ,ep s x,cZ,cZ,cZ]
  ·rw[<-cZ,ep s y,cZ,cZ,cZ]
 |n+1,f,i+1,a,b,h=>by
  unfold D;rw[<-mG];refine bN _ _ _ fun k _=>?_;have e:∀c:Nat->Int,(fun i' j=>upd f (i+1) c (i'+1) (skip k j))=upd (fun i' j=>f (i'+1) (skip k j)) i (fun j=>c (skip k j)):=fun c=>by
   funext i' j;unfold upd;simp
  rw[e,e,e];have ih:=qh x y n (fun i' j=>f (i'+1) (skip k j)) i (fun j=>a (skip k j)) (fun j=>b (skip k j)) aa;rw[ih];generalize D n (upd _ i fun j=>a (skip k j))=d1;generalize D n (upd _ i fun j=>b (skip k j))=d2;have e0:∀c:Nat->Int,upd f (i+1) c 0 k=f 0 k:=fun c=>by unfold upd;rw[ah aa]
  rw[e0,e0,e0];generalize sg k*f 0 k=s;rw[iE,<-cZ,<-cZ,<-cZ,<-cZ,ep s x,ep s y]
theorem Ek{k m:Nat}(h:k<m)(j:Nat):skip k (skip (m-1) j)=skip m (skip k j):=by
 unfold skip;(repeat' split)<;>omega
theorem Ds:∀(n:Nat) (f:Nat->Nat->Int) (i:Nat),i+1<n->(∀j,f i j=f (i+1) j)->D n f=0
 |0,_,_,h,_=>by omega
 |1,_,_,h,_=>by omega
 |n+2,f,0,_,he=>by
  let U:Nat->Nat->Int:=fun k m=>if m=k then 0 else if m<k then sg k*f 0 k*(sg m*f 0 m*D n fun i j=>f (i+2) (skip k (skip m j)))else sg k*f 0 k*(sg (m-1)*f 0 m*D n fun i j=>f (i+2) (skip k (skip (m-1) j)))
  have h1:D (n+2) f=sm (n+2) (fun k=>sm (n+2) (U k)):=by
   unfold D;refine bN _ _ _ fun k hk=>?_;rw[Au (U k) (n+1) k aa,show U k k=0 from aj rfl,fZ];unfold D;have:=mF (sg k*f 0 k) (n+1) (fun l=>sg l*f (0+1) (skip k l)*D n fun i j=>f (i+1+1) (skip k (skip l j)));refine this.symm.trans ?_;refine bN _ _ _ fun l hl=>?_;show _=if skip k l=k then 0 else _
   rw[ah (by unfold skip;split<;>omega),<-he];by_cases hlk:l<k
   ·rw[show skip k l=l by unfold skip;rw[aj hlk],aj hlk]
   ·rw[show skip k l=l+1 by unfold skip;rw[ah hlk],ah aa,oZ]
  rw[h1];have flip:∀k m,k<m->U k m= -(U m k):=fun k m h=>by
   show(if m=k then 0 else if m<k then _ else _)= -(if k=m then 0 else if k<m then _ else _);rw[ah aa,ah aa,ah aa,aj h];have e1:(fun i j=>f (i+2) (skip k (skip (m-1) j)))=fun i j=>f (i+2) (skip m (skip k j)):=by
    funext i j;rw[Ek h]
   rw[e1];generalize D n (fun i j=>f (i+2) (skip m (skip k j)))=d;have e2:sg m= -(sg (m-1)):=by
    conv=>lhs;rw[show m=m-1+1 by omega]
    exact vG _
   rw[e2];generalize sg (m-1)=s;generalize sg k=t;generalize f 0 k=a;generalize f 0 m=b;rw[tZ (t*a) (s*b) d,gH,gH,Int.neg_neg]
  refine JS _ _ fun k m _ _=>?_;rcases jP k m with h|h|h
  ·exact flip k m h
  ·subst h;rw[show U k k=0 from aj rfl];rfl
  ·rw[flip m k h,Int.neg_neg]
 |n+2,f,i+1,h,he=>by
  unfold D;refine iI _ _ fun k _=>?_;rw[Ds (n+1) (fun i' j=>f (i'+1) (skip k j)) i aa fun j=>he (skip k j),eY]
theorem kJ{f:Nat->Nat->Int}{i j:Nat}(h:i≠j)(a b:Nat->Int):upd (upd f i a) j b=upd (upd f j b) i a:=by
 funext k l;unfold upd;by_cases e:k=j
 ·rw[aj e,ah aa,aj e]
 ·rw[ah e,ah e]
theorem kI(f:Nat->Nat->Int)(i:Nat):upd f i (f i)=f:=by
 funext k l;unfold upd;split
 ·rename_i e;rw[e]
 ·rfl
theorem zT{n:Nat}(f:Nat->Nat->Int){i:Nat}(a b:Nat->Int)(hi:i<n):D n (upd f i fun j=>a j+b j)=D n (upd f i a)+D n (upd f i b):=by
 have:=qh 1 1 n f i a b hi;rw[show(fun j=>a j+b j)=fun j=>1*a j+1*b j by funext j;omega,this];omega
theorem F0{n i j:Nat}(hi:i<n)(hj:j<n)(hij:i≠j)(h0:∀f:Nat->Nat->Int,(∀l,f i l=f j l)->D n f=0)(f:Nat->Nat->Int)(a b:Nat->Int):
  D n (upd (upd f i a) j b)= -(D n (upd (upd f i b) j a)):=by
 have z:∀c:Nat->Int,D n (upd (upd f i c) j c)=0:=fun c=>h0 _ fun l=>by
  unfold upd;rw[ah hij,aj rfl,aj rfl]
 have h1:=z fun l=>a l+b l;rw[zT _ _ _ hj,kJ hij,zT _ _ _ hi,kJ hij _ b,zT _ _ _ hi,<-kJ hij a a,<-kJ hij b a,<-kJ hij a b,<-kJ hij b b,z a,z b]at h1;omega
theorem D_eq(n:Nat):∀(d i:Nat),i+d+1<n->∀f:Nat->Nat->Int,(∀l,f i l=f (i+d+1) l)->D n f=0
 |0,i,h,f,he=>Ds n f i h he
 |d+1,i,h,f,he=>by
  have h1:=F0 (n:=n) (i:=i+d+1) (j:=i+d+2) aa aa aa (fun g hg=>Ds n g (i+d+1) aa hg) f (f (i+d+1)) (f (i+d+2));rw[kI,kI]at h1;rw[h1,D_eq n d i aa _ fun l=>by
   unfold upd;rw[ah aa,ah aa,ah aa,aj rfl];exact he l]
  rfl
theorem mX{n i j:Nat}(hi:i<n)(hj:j<n)(hij:i≠j)(f:Nat->Nat->Int)(h:∀l,f i l=f j l):D n f=0:=by
 by_cases h1:i<j
 ·obtain⟨d,rfl⟩:∃d,j=i+d+1:=⟨j-i-1,by omega⟩;exact D_eq n d i hj f h
 ·obtain⟨d,rfl⟩:∃d,i=j+d+1:=⟨i-j-1,by omega⟩;exact D_eq n d j hi f fun l=>(h l).symm
theorem FZ{n i j:Nat}(hi:i<n)(hj:j<n)(hij:i≠j)(f:Nat->Nat->Int):D n (upd (upd f i (f j)) j (f i))= -(D n f):=by
 have:=F0 hi hj hij (fun g hg=>mX hi hj hij g hg) f (f j) (f i);rw[this,kI,kI]
theorem RE.lin{n:Nat}{A B:Mat}(h:RE A B)(L:List Int->Prop)(h1:∀a b q,a.length=n->b.length=n->L a->L b->L (qd q a b))(h2:∀a,L a->L (Mx.neg a)):Rc n A->(∀i,i<A.length->L (rw A i))->∀i,i<B.length->L (rw B i):=by
 induction h with
 |refl=>exact fun _ h=>h
 |add M i j q hi hj hij=>
  intro hM h k hk;rw[jX _ _ _ _ hi];split
  ·exact h1 _ _ q (hM.rw hi) (hM.rw hj) (h i hi) (h j hj)
  ·exact h k (by simpa using hk)
 |neg M i hi=>
  intro hM h k hk;rw[jX _ _ _ _ hi];split
  ·exact h2 _ (h i hi)
  ·exact h k (by simpa using hk)
 |swp M i j hi hj=>
  intro hM h k hk;rw[cW]at hk;rw[uj hi hj];split
  ·exact h i hi
  ·split
   ·exact h j hj
   ·exact h k hk
 |trans g1 _ i1 i2=>exact fun hM h=>i2 (g1.rc hM) (i1 hM h)
end Mx
end
section
open Go.RowKit Go.BigFrame
attribute [local go_sem ↓] Go.wp_at_zero Go.wp_at_succ
structure Chg(g:Nat)(w w':World):Prop where
 os:w'.os=w.os
 tape:w'.tape=w.tape
 output:w'.output=w.output
 size:w.heap.size<=w'.heap.size
 block:∀k,k<w.heap.size->k≠g->w'.heap[k]?=w.heap[k]?
theorem Chg.refl(g:Nat)(w:World):Chg g w w:=⟨rfl,rfl,rfl,af _,fun _ _ _=>rfl⟩
theorem Chg.of{g:Nat}{w w':World}(h:Below w.heap.size w w'):Chg g w w':=⟨h.os,h.tape,h.output,h.size,fun k hk _=>h.block k hk⟩
theorem Chg.trans{g:Nat}{a b c:World}(h:Chg g a b)(k:Chg g b c):Chg g a c:=
 ⟨k.os.trans h.os,k.tape.trans h.tape,k.output.trans h.output,bc h.size k.size,fun i hi hg=>(k.block i (aK hi h.size) hg).trans (h.block i hi hg)⟩
theorem Chg.below{g B:Nat}{W w w':World}(h:Below B W w)(k:Chg g w w')(hg:B<=g)(hB:B<=w.heap.size):Below B W w':=
 ⟨k.os.trans h.os,k.tape.trans h.tape,k.output.trans h.output,bc h.size k.size,fun i hi=>(k.block i aa aa).trans (h.block i hi)⟩
theorem Chg.set{g:Nat}{w w':World}(h:Chg g w w')(b o:Nat)(v:Value)(hb:b=g\/w.heap.size<=b):Chg g w (w'.setCell ⟨b,o,none⟩ v):=
 ⟨h.os,h.tape,h.output,by simpa using h.size,fun k hk hg=>by
  simp only[World.setCell,xP];rw[ah aa];exact h.block k hk hg⟩
theorem Chg.drew{g:Nat}{w w':World}(h:Chg g w w'):Chg g w w'.drew:=h.trans (Chg.of (Below.refl _ _).drew)
theorem Chg.cell{g:Nat}{w w':World}(h:Chg g w w'){b o:Nat}(hb:b<w.heap.size)(hg:b≠g):w'.cell? ⟨b,o,none⟩=w.cell? ⟨b,o,none⟩:=World.cell?_of_block (h.block b hb hg)
theorem frozen?_of_block{w w':World}{b o:Nat}(h:w'.heap[b]?=w.heap[b]?):w'.frozen? ⟨b,o,none⟩=w.frozen? ⟨b,o,none⟩:=by
 simp only[World.frozen?,h]
theorem Chg.frozen{g:Nat}{w w':World}(h:Chg g w w'){b o:Nat}(hb:b<w.heap.size)(hg:b≠g):w'.frozen? ⟨b,o,none⟩=w.frozen? ⟨b,o,none⟩:=frozen?_of_block (h.block b hb hg)
def NW(w:World)(g:Nat):Prop:=∀n,w.cell? ⟨g,0,none⟩≠some (.int .u32 n)
theorem WS.chg{g:Nat}{w w':World}{a:Option Addr}{l:List Nat}(h:WS w a l)(k:Chg g w w')(hb:NW w g):WS w' a l:=by
 rcases h with h|⟨b,e,hg,hc⟩
 ·exact .inl h
 ·by_cases hl:l=[]
  ·exact .inl hl
  have hne:b≠g:=fun e2=>by
   have h0:=hc 0 _ (aV (fT.2 hl));rw[e2]at h0;exact hb _ h0
  exact .inr ⟨b,e,aK hg k.size,fun i x hk=>(k.cell hg hne).trans (hc i x hk)⟩
theorem IW.chg{g:Nat}{w w':World}{x:IV}{l:List Nat}(h:IW w x l)(k:Chg g w w')(hb:NW w g):IW w' x l:=⟨h.n,h.cap,h.ws.chg k hb,h.nf⟩
theorem IZ.chg{g:Nat}{w w':World}{x:IV}{z:Int}(h:IZ w x z)(k:Chg g w w')(hb:NW w g):IZ w' x z:=by
 obtain⟨l,h1,h2,h3⟩:=h;exact⟨l,h1.chg k hb,h2,h3⟩
structure RA(w:World)(g o:Nat)(zs:List Int):Prop where
 lt:g<w.heap.size
 c:∀(k:Nat) (z:Int),zs[k]?=some z->∃x:IV,w.cell? ⟨g,o+k*2,none⟩=some (.bool x.s)/\w.cell? ⟨g,o+k*2+1,none⟩=some (.slice x.a x.n x.cap)/\IZ w x z
theorem RA.below{B:Nat}{w w':World}{g o:Nat}{zs:List Int}(h:RA w g o zs)(hb:Below B w w')(hB:w.heap.size<=B):RA w' g o zs:=
 ⟨aK h.lt hb.size,fun k z hz=>by
  obtain⟨x,h1,h2,h3⟩:=h.c k z hz;have hg:g<B:=aK h.lt hB;exact⟨x,(hb.cell (p:=⟨g,_,none⟩) hg).trans h1,(hb.cell (p:=⟨g,_,none⟩) hg).trans h2,h3.below hb hB⟩⟩
def RO(w:World)(g:Nat)(zs:List Int):Prop:=∃xs,RI w g xs zs
theorem RI.ra{w:World}{g:Nat}{xs:List IV}{zs:List Int}(h:RI w g xs zs):RA w g 0 zs:=
 ⟨h.lt,fun k z hz=>by
  have hk:=(cw.1 hz).1;obtain⟨x,hx⟩:∃x,xs[k]?=some x:=⟨_,aV (by rw[h.len];exact hk)⟩;rw[bQ];exact⟨x,h.c0 k x hx,h.c1 k x hx,h.iz k x z hx hz⟩⟩
theorem RO.ra{w:World}{g:Nat}{zs:List Int}(h:RO w g zs):RA w g 0 zs:=h.elim fun _ h=>h.ra
theorem RI.nw{w:World}{g:Nat}{xs:List IV}{zs:List Int}(h:RI w g xs zs)(hz:zs≠[]):NW w g:=fun n e=>by
 obtain⟨x,hx⟩:∃x,xs[0]?=some x:=⟨_,aV (by rw[h.len];exact fT.2 hz)⟩;have:=h.c0 0 x hx;rw[iG,e]at this;cases this
theorem RO.nw{w:World}{g:Nat}{zs:List Int}(h:RO w g zs)(hz:zs≠[]):NW w g:=h.elim fun _ h=>h.nw hz
theorem RI.chg{b:Nat}{w w':World}{g:Nat}{xs:List IV}{zs:List Int}(h:RI w g xs zs)(k:Chg b w w')(hb:NW w b)(hne:g≠b):RI w' g xs zs:=
 ⟨aK h.lt k.size,h.len,fun i x hx=>(k.cell h.lt hne).trans (h.c0 i x hx),fun i x hx=>(k.cell h.lt hne).trans (h.c1 i x hx),fun i=>(k.frozen h.lt hne).trans (h.fr i),fun i x z hx hz=>(h.iz i x z hx hz).chg k hb⟩
theorem RO.chg{b:Nat}{w w':World}{g:Nat}{zs:List Int}(h:RO w g zs)(k:Chg b w w')(hb:NW w b)(hne:g≠b):RO w' g zs:=h.elim fun xs h=>⟨xs,h.chg k hb hne⟩
theorem RO.below{B:Nat}{w w':World}{g:Nat}{zs:List Int}(h:RO w g zs)(hb:Below B w w')(hB:w.heap.size<=B):RO w' g zs:=h.elim fun xs h=>⟨xs,h.below hb hB⟩
theorem RO.lt{w:World}{g:Nat}{zs:List Int}(h:RO w g zs):g<w.heap.size:=h.elim fun _ h=>h.lt
theorem RO.at{w:World}{g:Nat}{zs:List Int}(h:RO w g zs){k:Nat}{z:Int}(hz:zs[k]?=some z):
  ∃x:IV,w.cell? ⟨g,k*2,none⟩=some (.bool x.s)/\w.cell? ⟨g,k*2+1,none⟩=some (.slice x.a x.n x.cap)/\IZ w x z/\w.frozen? ⟨g,k*2,none⟩=false/\w.frozen? ⟨g,k*2+1,none⟩=false:=by
 obtain⟨xs,h⟩:=h;have hk:=(cw.1 hz).1;obtain⟨x,hx⟩:∃x,xs[k]?=some x:=⟨_,aV (by rw[h.len];exact hk)⟩;exact⟨x,h.c0 k x hx,h.c1 k x hx,h.iz k x z hx hz,h.fr _,h.fr _⟩
theorem RO.set{w:World}{g k:Nat}{zs:List Int}(h:RO w g zs)(hk:k<zs.length){x:IV}{z:Int}(hz:IZ w x z):RO (ff w g k x) g (zs.set k z):=by
 obtain⟨xs,h⟩:=h;exact⟨_,h.set (by rw[h.len];exact hk) hz⟩
theorem sW{w w':World}{g:Nat}(h:Chg g w w')(k:Nat)(x:IV):Chg g w (ff w' g k x):=(h.set g _ _ (.inl rfl)).set g _ _ (.inl rfl)
theorem getD_some{l:List Int}{k:Nat}(h:k<l.length):l[k]?=some (l.getD k 0):=by
 rw[aF,aV h];rfl
def part(k:Nat)(a b:List Int):List Int:=a.take k++b.drop k
theorem GJ{a b:List Int}{k:Nat}(h:a.length<=k)(h2:b.length<=k):part k a b=a:=by
 unfold part;rw[cR h,mA h2,gZ]
theorem GI{a b:List Int}(h:a.length=b.length){k:Nat}{z:Int}(hz:a[k]?=some z):(part k a b).set k z=part (k+1) a b:=by
 have hk:=(cw.1 hz).1;unfold part;rw[xi,ah BS,aP,cV aa,fE,rR (by omega:k<b.length),gg,nd,hz];simp
end
section
open Go.RowKit
namespace DW
inductive D where
 |any
 |sc (v:Value)
 |nm (z:Int)
 |ls (wd:Nat) (l:List D)
 |st (l:List D)
 |pt (d:D)
 |tp (l:List D)
 |own (k:Nat)
 |opt (k off:Nat)
 deriving Inhabited
mutual
def D.wd:D->Nat
 | .any=>0
 | .sc _=>1
 | .nm _=>2
 | .ls _ _=>1
 | .st l=>D.wds l
 | .pt _=>1
 | .tp _=>0
 | .own _=>1
 | .opt _ _=>1
def D.wds:List D->Nat
 |[]=>0
 |d::l=>D.wd d+D.wds l
end
def D.agg:D->Bool
 | .nm _=>true
 | .st _=>true
 |_=>false
def D.fits:D->Bool
 | .any=>false
 | .tp _=>false
 | .own _=>false
 | .opt _ _=>false
 |_=>true
mutual
def AR(X:Nat->Prop)(w:World):D->Value->Prop
 | .any,_=>True
 | .sc u,v=>v=u/\u.oneCell'=true
 | .nm z,v=>∃x:IV,v= .agg #[.bool x.s,.slice x.a x.n x.cap]/\IZ w x z
 | .ls wd l,v=>∃a c,v= .slice a l.length c/\l.length<=c/\(l=[]\/∃b o,a=some ⟨b,o,none⟩/\¬X b/\b<w.heap.size/\ARs X w b wd l o)
 | .st l,v=>∃cs,v= .agg cs/\ASt X w l cs.toList
 | .pt d,v=>∃b o u,v= .pointer (some ⟨b,o,none⟩)/\¬X b/\b<w.heap.size/\AR X w d u/\w.rangeAt b o u.cells.toList
 | .tp l,v=>∃vs,v= .tuple vs/\ATp X w l vs.toList
 | .own _,_=>False
 | .opt _ _,_=>False
def ARs(X:Nat->Prop)(w:World)(b wd:Nat):List D->Nat->Prop
 |[],_=>True
 |d::l,o=>(∃u,AR X w d u/\d.fits=true/\d.wd=wd/\w.rangeAt b o u.cells.toList)/\ARs X w b wd l (o+wd)
def ASt(X:Nat->Prop)(w:World):List D->List Value->Prop
 |[],cs=>cs=[]
 |d::l,cs=>∃u rest,cs=u.cells.toList++rest/\AR X w d u/\d.fits=true/\ASt X w l rest
def ATp(X:Nat->Prop)(w:World):List D->List Value->Prop
 |[],vs=>vs=[]
 |d::l,vs=>∃u rest,vs=u::rest/\AR X w d u/\ATp X w l rest
end
structure Agr(X:Nat->Prop)(w w':World):Prop where
 size:w.heap.size<=w'.heap.size
 block:∀b,b<w.heap.size->¬X b->w'.heap[b]?=w.heap[b]?
 iz:∀x z,IZ w x z->IZ w' x z
theorem Agr.of{w w':World}(X:Nat->Prop)(h:Below w.heap.size w w'):Agr X w w':=⟨h.size,fun b hb _=>h.block b hb,fun _ _ hz=>hz.below h (af _)⟩
theorem Agr.refl(X:Nat->Prop)(w:World):Agr X w w:=⟨af _,fun _ _ _=>rfl,fun _ _ h=>h⟩
theorem Agr.range{X:Nat->Prop}{w w':World}(k:Agr X w w'){b o:Nat}{cs:List Value}(hb:b<w.heap.size)(hX:¬X b)(h:w.rangeAt b o cs):w'.rangeAt b o cs:=fun j v hj=>
 (World.cell?_of_block (k.block b hb hX)).trans (h j v hj)
mutual
theorem AR.agr{X X':Nat->Prop}{w w':World}(k:Agr X w w')(hX:∀b,b<w.heap.size->X' b->X b):∀(d:D) (v:Value),AR X w d v->AR X' w' d v
 | .any,_,_=>by simp only[AR]
 | .sc u,v,h=>by simp only[AR]at h⊢;exact h
 | .nm z,v,h=>by
  simp only[AR]at h⊢;obtain⟨x,h1,h2⟩:=h;exact⟨x,h1,k.iz _ _ h2⟩
 | .ls wd l,v,h=>by
  simp only[AR]at h⊢;obtain⟨a,c,h1,h2,h3⟩:=h;refine⟨a,c,h1,h2,?_⟩;rcases h3 with h3|⟨b,o,h4,h5,h6,h7⟩
  ·exact .inl h3
  ·exact .inr ⟨b,o,h4,fun e=>h5 (hX b h6 e),aK h6 k.size,ARs.agr k hX b wd h6 h5 l o h7⟩
 | .st l,v,h=>by
  simp only[AR]at h⊢;obtain⟨cs,h1,h2⟩:=h;exact⟨cs,h1,ASt.agr k hX l _ h2⟩
 | .pt d,v,h=>by
  simp only[AR]at h⊢;obtain⟨b,o,u,h1,h2,h3,h4,h5⟩:=h;exact⟨b,o,u,h1,fun e=>h2 (hX b h3 e),aK h3 k.size,AR.agr k hX d u h4,k.range h3 h2 h5⟩
 | .tp l,v,h=>by
  simp only[AR]at h⊢;obtain⟨vs,h1,h2⟩:=h;exact⟨vs,h1,ATp.agr k hX l _ h2⟩
 | .own _,_,h=>by simp only[AR]at h
 | .opt _ _,_,h=>by simp only[AR]at h
theorem ARs.agr{X X':Nat->Prop}{w w':World}(k:Agr X w w')(hX:∀b,b<w.heap.size->X' b->X b)(b wd:Nat)(hb:b<w.heap.size)(hXb:¬X b):∀(l:List D) (o:Nat),ARs X w b wd l o->ARs X' w' b wd l o
 |[],_,_=>by simp only[ARs]
 |d::l,o,h=>by
  simp only[ARs]at h⊢;obtain⟨⟨u,h1,h2,h3,h4⟩,h5⟩:=h;exact⟨⟨u,AR.agr k hX d u h1,h2,h3,k.range hb hXb h4⟩,ARs.agr k hX b wd hb hXb l _ h5⟩
theorem ASt.agr{X X':Nat->Prop}{w w':World}(k:Agr X w w')(hX:∀b,b<w.heap.size->X' b->X b):∀(l:List D) (cs:List Value),ASt X w l cs->ASt X' w' l cs
 |[],_,h=>by simp only[ASt]at h⊢;exact h
 |d::l,cs,h=>by
  simp only[ASt]at h⊢;obtain⟨u,rest,h1,h2,h3,h4⟩:=h;exact⟨u,rest,h1,AR.agr k hX d u h2,h3,ASt.agr k hX l rest h4⟩
theorem ATp.agr{X X':Nat->Prop}{w w':World}(k:Agr X w w')(hX:∀b,b<w.heap.size->X' b->X b):∀(l:List D) (vs:List Value),ATp X w l vs->ATp X' w' l vs
 |[],_,h=>by simp only[ATp]at h⊢;exact h
 |d::l,vs,h=>by
  simp only[ATp]at h⊢;obtain⟨u,rest,h1,h2,h3⟩:=h;exact⟨u,rest,h1,AR.agr k hX d u h2,ATp.agr k hX l rest h3⟩
end
theorem AR.grow{X:Nat->Prop}{w w':World}{d:D}{v:Value}(h:AR X w d v)(k:Below w.heap.size w w'):AR X w' d v:=AR.agr (Agr.of X k) (fun _ _ h=>h) d v h
theorem AR.free{X X':Nat->Prop}{w:World}{d:D}{v:Value}(h:AR X w d v)(hX:∀b,b<w.heap.size->X' b->X b):AR X' w d v:=AR.agr (Agr.refl X w) hX d v h
theorem gj{u:Value}(h:u.oneCell'=true):u.cells= #[u]:=by
 cases u<;>first|rfl|simp[Value.oneCell']at h
mutual
theorem AR.size{X:Nat->Prop}{w:World}:∀(d:D) (v:Value),d.fits=true->AR X w d v->v.cells.size=d.wd
 | .any,_,h,_=>by simp[D.fits]at h
 | .sc u,v,_,h=>by
  simp only[AR]at h;obtain⟨rfl,h⟩:=h;rw[gj h];rfl
 | .nm z,v,_,h=>by
  simp only[AR]at h;obtain⟨x,rfl,_⟩:=h;rfl
 | .ls wd l,v,_,h=>by
  simp only[AR]at h;obtain⟨a,c,rfl,_⟩:=h;rfl
 | .st l,v,_,h=>by
  simp only[AR]at h;obtain⟨cs,rfl,h⟩:=h;have:=ASt.sz l _ h;simpa[Value.cells,D.wd]using this
 | .pt d,v,_,h=>by
  simp only[AR]at h;obtain⟨b,o,u,rfl,_⟩:=h;rfl
 | .tp l,v,h,_=>by simp[D.fits]at h
 | .own _,_,h,_=>by simp[D.fits]at h
 | .opt _ _,_,h,_=>by simp[D.fits]at h
theorem ASt.sz{X:Nat->Prop}{w:World}:∀(l:List D) (cs:List Value),ASt X w l cs->cs.length=D.wds l
 |[],cs,h=>by simp only[ASt]at h;subst h;rfl
 |d::l,cs,h=>by
  simp only[ASt]at h;obtain⟨u,rest,rfl,h2,h3,h4⟩:=h;have h5:=ASt.sz l rest h4;have h6:=AR.size d u h3 h2;simp only[cq,bJ,D.wds];omega
end
theorem AR.shape{X:Nat->Prop}{w:World}{d:D}{v:Value}(hf:d.fits=true)(h:AR X w d v):if d.agg then v= .agg v.cells else(v.oneCell'=true/\v.cells= #[v]):=by
 cases d with
 |any=>simp[D.fits]at hf
 |tp l=>simp[D.fits]at hf
 |own k=>simp[D.fits]at hf
 |opt k o=>simp[D.fits]at hf
 |sc u=>simp only[AR]at h;obtain⟨rfl,h⟩:=h;exact⟨h,gj h⟩
 |nm z=>simp only[AR]at h;obtain⟨x,rfl,_⟩:=h;rfl
 |ls wd l=>simp only[AR]at h;obtain⟨a,c,rfl,_⟩:=h;exact⟨rfl,rfl⟩
 |st l=>simp only[AR]at h;obtain⟨cs,rfl,_⟩:=h;rfl
 |pt d=>simp only[AR]at h;obtain⟨b,o,u,rfl,_⟩:=h;exact⟨rfl,rfl⟩
theorem ARs.at{X:Nat->Prop}{w:World}{b wd:Nat}:∀{l:List D} {o i:Nat} {d:D},ARs X w b wd l o->l[i]?=some d->∃u,AR X w d u/\d.fits=true/\d.wd=wd/\w.rangeAt b (o+i*wd) u.cells.toList
 |[],_,_,_,_,h=>by simp at h
 |d::l,o,0,d',h,e=>by
  simp only[ARs]at h;simp at e;subst e;obtain⟨h1,_⟩:=h;simpa using h1
 |d::l,o,i+1,d',h,e=>by
  simp only[ARs]at h;have:=ARs.at h.2 qm;rw[bC,cv,lg (i*wd) wd,<-nh];exact this
theorem ARs.mk{X:Nat->Prop}{w:World}{b wd:Nat}:∀{l:List D} {o:Nat},(∀i d,l[i]?=some d->∃u,AR X w d u/\d.fits=true/\d.wd=wd/\w.rangeAt b (o+i*wd) u.cells.toList)->ARs X w b wd l o
 |[],_,_=>by simp only[ARs]
 |d::l,o,h=>by
  simp only[ARs];refine⟨by simpa using h 0 d rfl,ARs.mk fun i d' hd=>?_⟩;have:=h (i+1) d' (by simpa using hd);rw[bC,cv,lg (i*wd) wd,<-nh]at this;exact this
theorem ATp.at{X:Nat->Prop}{w:World}:∀{l:List D} {i:Nat} {d:D} {vs:List Value},ATp X w l vs->l[i]?=some d->∃u,vs[i]?=some u/\AR X w d u
 |[],_,_,_,_,h=>by simp at h
 |d::l,0,d',vs,h,e=>by
  simp only[ATp]at h;simp at e;subst e;obtain⟨u,rest,rfl,h2,_⟩:=h;exact⟨u,rfl,h2⟩
 |d::l,i+1,d',vs,h,e=>by
  simp only[ATp]at h;obtain⟨u,rest,rfl,h2,h3⟩:=h;obtain⟨u',k1,k2⟩:=ATp.at h3 qm;exact⟨u',by simpa using k1,k2⟩
end DW
end
section
open Go.RowKit
namespace DW
structure Ow where
 T:TypeId
 wd:Nat
 l:List D
structure S where
 sl:List (Nat×D)
 ow:List (Nat×Ow)
def look:List (Nat×D)->Nat->D
 |[],_=>.any
 |(u,d)::l,t=>if u=t then d else look l t
def S.gt(s:S)(t:Nat):D:=look s.sl t
def S.put(s:S)(dst:Option Tmp)(d:D):S:=
 match dst with
 |some t=>⟨(t,d)::s.sl,s.ow⟩
 |none=>s
def cstL:List Value->D
 |[.bool false,.slice none 0 0]=>.nm 0
 |l=>if l.all (·.oneCell')then .st (l.map .sc)else .any
def cst:Value->D
 | .agg cs=>cstL cs.toList
 | .tuple _=>.any
 |v=>.sc v
def S.op(s:S):Operand->D
 | .tmp t=>s.gt t
 | .const v=>cst v
 | .global _=>.any
 | .func f=>.sc (.func (.func f) #[] #[])
def SR(X:Nat->Prop)(f:Nat->Value)(w:World)(d:D)(v:Value):Prop:=
 match d with
 | .own k=>v=f k
 | .opt k off=>∃g n c,f k= .slice (some ⟨g,0,none⟩) n c/\v= .pointer (some ⟨g,off,none⟩)
 |d=>AR X w d v
def XO(X0:Nat->Prop)(s:S)(f:Nat->Value)(b:Nat):Prop:=X0 b\/∃p∈s.ow,(f p.1).ownBlock=some b
def D.nw:D->Bool
 | .sc (.int .u32 _)=>false
 | .sc _=>true
 | .nm _=>true
 | .ls _ _=>true
 | .pt _=>true
 | .st (d::_)=>d.nw&&decide (0<d.wd)
 |_=>false
def Els(X:Nat->Prop)(w:World)(wd:Nat):List D->List Value->Prop
 |[],xs=>xs=[]
 |d::l,xs=>∃u rest,xs=u.cells.toList++rest/\AR X w d u/\d.fits=true/\d.wd=wd/\d.nw=true/\Els X w wd l rest
def hdr(k:Nat):Bool:=Nat.ble 2000000 k&&(Nat.blt k 3000000||Nat.ble 4000000 k)
def js(k:Nat):Bool:=Nat.ble 1000000 k&&Nat.blt k 2000000||Nat.ble 3000000 k&&Nat.blt k 4000000
def pin(k:Nat):Bool:=Nat.ble 3000000 k
theorem oD{k:Nat}(h:Nat.blt k 1000000=true):hdr k=false:=by
 rw[bf]at h;unfold hdr
 cases hb:Nat.ble 2000000 k with
 |false=>rfl
 |true=>rw[Nat.ble_eq]at hb;omega
theorem sb{j k:Nat}(h:Nat.blt k 1000000=true)(hj:js j=true):j≠k:=fun e=>by
 subst e;rw[bf]at h;simp only[js,oc,cO,Nat.ble_eq,bf]at hj;omega
theorem sd{j k:Nat}(h:Nat.blt k 1000000=true)(hj:pin j=true):j≠k:=fun e=>by
 subst e;rw[bf]at h;simp only[pin,Nat.ble_eq]at hj;omega
def D.row:D->Option Nat
 | .own j=>some j
 |_=>none
def ER(X:Nat->Prop)(f:Nat->Value)(w:World)(d:D)(u:Value):Prop:=
 match d with
 | .own j=>js j=true/\u=f j/\∃a n c,u= .slice a n c
 |d=>AR X w d u/\d.fits=true
def ElH(X:Nat->Prop)(f:Nat->Value)(w:World):List D->List Value->Prop
 |[],xs=>xs=[]
 |d::l,xs=>∃u rest,xs=u::rest/\u.oneCell'=true/\u.cells= #[u]/\ER X f w d u/\d.wd=1/\(∀n,u≠ .int .u32 n)/\ElH X f w l rest
def EE(X:Nat->Prop)(f:Nat->Value)(w:World)(k wd:Nat)(l:List D)(xs:List Value):Prop:=
 match hdr k with
 |false=>Els X w wd l xs
 |true=>wd=1/\ElH X f w l xs
theorem EE.pl{X:Nat->Prop}{f:Nat->Value}{w:World}{k wd:Nat}{l:List D}{xs:List Value}(h:EE X f w k wd l xs)(hk:hdr k=false):Els X w wd l xs:=by unfold EE at h;rw[hk]at h;exact h
theorem EE.of{X:Nat->Prop}{f:Nat->Value}{w:World}{k wd:Nat}{l:List D}{xs:List Value}(h:Els X w wd l xs)(hk:hdr k=false):EE X f w k wd l xs:=by unfold EE;rw[hk];exact h
def XW(X:Nat->Prop)(w:World):Prop:=∀b,X b->b<w.heap.size/\NW w b
theorem XW.grow{X:Nat->Prop}{w w':World}(h:XW X w)(k:Below w.heap.size w w'):XW X w':=fun b hb=>
 ⟨aK (h b hb).1 k.size,fun m hm=>(h b hb).2 m ((k.cell (p:=⟨b,0,none⟩) (h b hb).1).symm.trans hm)⟩
def OW(X:Nat->Prop)(f:Nat->Value)(w:World)(base:Nat)(p:Nat×Ow):Prop:=0<p.2.wd/\∃xs,w.ownsRow base p.2.T p.2.wd (f p.1) p.2.l.length xs/\EE X f w p.1 p.2.wd p.2.l xs
structure Gr(Y:Nat->Prop)(w w':World):Prop where
 os:w'.os=w.os
 tape:w'.tape=w.tape
 output:w'.output=w.output
 size:w.heap.size<=w'.heap.size
 block:∀b,b<w.heap.size->¬Y b->w'.heap[b]?=w.heap[b]?
theorem Gr.refl(Y:Nat->Prop)(w:World):Gr Y w w:=⟨rfl,rfl,rfl,af _,fun _ _ _=>rfl⟩
theorem Gr.below{Y:Nat->Prop}{w w' w2:World}(h:Gr Y w w')(k:Below w'.heap.size w' w2):Gr Y w w2:=
 ⟨k.os.trans h.os,k.tape.trans h.tape,k.output.trans h.output,bc h.size k.size,fun b hb hy=>(k.block b (aK hb h.size)).trans (h.block b hb hy)⟩
theorem Gr.grown{Y:Nat->Prop}{w w' w2:World}{r:Option Nat}(h:Gr Y w w')(k:w'.grownBy w2 r)(hr:∀b,r=some b->w.heap.size<=b\/Y b):Gr Y w w2:=
 ⟨k.os.trans h.os,k.tape.trans h.tape,k.output.trans h.output,bc h.size k.size,fun b hb hy=>(k.block b (aK hb h.size) fun e=>by
  rcases hr b e.symm with h1|h1
  ·omega
  ·exact hy h1).trans (h.block b hb hy)⟩
theorem Gr.low{w w':World}(h:Gr (fun _=>False) w w'):Below w.heap.size w w':=⟨h.os,h.tape,h.output,h.size,fun b hb=>h.block b hb id⟩
structure Bs where
 w:World
 Y:Nat->Prop
 f:Nat->Value
structure Hd(X0:Nat->Prop)(n:Nat)(w0:Bs)(s:S)(f:Nat->Value)(a:Act)(w:World):Prop where
 sz:a.tmps.size=n
 df:a.defers=[]
 bl:Gr w0.Y w0.w w
 x0:XW X0 w0.w
 xy:∀b,X0 b->¬w0.Y b
 fx:∀j,pin j=true->f j=w0.f j
 lo:∀p∈s.ow,∀b,(f p.1).ownBlock=some b->w0.w.heap.size<=b\/w0.Y b
 sl:∀t,SR (XO X0 s f) f w (s.gt t) (a.tmps.getD t undef)
 ow:∀p∈s.ow,OW (XO X0 s f) f w 0 p
 nw:∀b,(∃p∈s.ow,(f p.1).ownBlock=some b)->NW w b
 dj:∀p∈s.ow,∀q∈s.ow,p.1≠q.1->∀b,(f p.1).ownBlock=some b->(f q.1).ownBlock≠some b
 un:∀p∈s.ow,∀q∈s.ow,p.1=q.1->p=q
theorem SR.any{X:Nat->Prop}{f:Nat->Value}{w:World}{v:Value}:SR X f w .any v:=by simp only[SR,AR]
theorem SR.grow{X:Nat->Prop}{f:Nat->Value}{w w':World}{d:D}{v:Value}(h:SR X f w d v)(k:Below w.heap.size w w'):SR X f w' d v:=by
 cases d<;>first|exact h|exact AR.grow h k
theorem Els.agr{X X':Nat->Prop}{w w':World}(k:Agr X w w')(hX:∀b,b<w.heap.size->X' b->X b){wd:Nat}:∀{l:List D} {xs:List Value},Els X w wd l xs->Els X' w' wd l xs
 |[],_,h=>h
 |_::_,_,⟨u,rest,h1,h2,h3,h4,hn,h5⟩=>⟨u,rest,h1,AR.agr k hX _ _ h2,h3,h4,hn,Els.agr k hX h5⟩
theorem ER.agr{X X':Nat->Prop}{f f':Nat->Value}{w w':World}(k:Agr X w w')(hX:∀b,b<w.heap.size->X' b->X b)(hf:∀j,js j=true->f' j=f j){d:D}{u:Value}(h:ER X f w d u):ER X' f' w' d u:=by
 cases d<;>first|exact⟨AR.agr k hX _ _ h.1,h.2⟩|exact⟨h.1,by rw[hf _ h.1];exact h.2.1,h.2.2⟩
theorem ElH.agr{X X':Nat->Prop}{f f':Nat->Value}{w w':World}(k:Agr X w w')(hX:∀b,b<w.heap.size->X' b->X b)(hf:∀j,js j=true->f' j=f j):∀{l:List D} {xs:List Value},ElH X f w l xs->ElH X' f' w' l xs
 |[],_,h=>h
 |_::_,_,⟨u,rest,h1,h2,h3,h4,h5,h6,h7⟩=>⟨u,rest,h1,h2,h3,ER.agr k hX hf h4,h5,h6,ElH.agr k hX hf h7⟩
theorem EE.agr{X X':Nat->Prop}{f f':Nat->Value}{w w':World}(k:Agr X w w')(hX:∀b,b<w.heap.size->X' b->X b)(hf:∀j,js j=true->f' j=f j){i wd:Nat}{l:List D}{xs:List Value}(h:EE X f w i wd l xs):EE X' f' w' i wd l xs:=by
 unfold EE at h⊢
 cases hh:hdr i with
 |false=>rw[hh]at h;exact Els.agr k hX h
 |true=>rw[hh]at h;exact⟨h.1,ElH.agr k hX hf h.2⟩
theorem OW.grow{X:Nat->Prop}{f:Nat->Value}{w w':World}{base:Nat}{p:Nat×Ow}(h:OW X f w base p)(k:Below w.heap.size w w'):OW X f w' base p:=by
 obtain⟨h0,xs,h1,h2⟩:=h;refine⟨h0,xs,?_,EE.agr (Agr.of X k) (fun _ _ h=>h) (fun _ _=>rfl) h2⟩;exact World.ownsRow.kept (row:=none) h1 ⟨k.os,k.tape,k.output,k.size,fun b hb _=>k.block b hb⟩ (by cases(f p.1).ownBlock<;>simp)
theorem OW.lt{X:Nat->Prop}{f:Nat->Value}{w:World}{base:Nat}{p:Nat×Ow}(h:OW X f w base p){b:Nat}(hb:(f p.1).ownBlock=some b):base<=b/\b<w.heap.size:=by
 obtain⟨_,xs,h1,_⟩:=h;exact World.ownsRow.lt h1 b hb
theorem XW.gr{X Y:Nat->Prop}{w w':World}(h:XW X w)(k:Gr Y w w')(hy:∀b,X b->¬Y b):XW X w':=fun b hb=>
 ⟨aK (h b hb).1 k.size,fun m hm=>(h b hb).2 m ((World.cell?_of_block (a:=⟨b,0,none⟩) (k.block b (h b hb).1 (hy b hb))).symm.trans hm)⟩
theorem Hd.xlt{X0:Nat->Prop}{n:Nat}{w0:Bs}{s:S}{f:Nat->Value}{a:Act}{w:World}(h:Hd X0 n w0 s f a w):XW (XO X0 s f) w:=fun b hb=>by
 rcases hb with hb|⟨p,hp,hb⟩
 ·exact(h.x0.gr h.bl h.xy) b hb
 ·exact⟨((h.ow p hp).lt hb).2,h.nw b ⟨p,hp,hb⟩⟩
theorem Hd.grow{X0:Nat->Prop}{n:Nat}{w0:Bs}{s:S}{f:Nat->Value}{a:Act}{w w':World}(h:Hd X0 n w0 s f a w)(k:Below w.heap.size w w'):Hd X0 n w0 s f a w':=
 ⟨h.sz,h.df,h.bl.below k,h.x0,h.xy,h.fx,h.lo,fun t=>(h.sl t).grow k,fun p hp=>(h.ow p hp).grow k,fun b hb=>by
  have hb':=hb;obtain⟨p,hp,e⟩:=hb;exact fun m hm=>h.nw b hb' m ((k.cell (p:=⟨b,0,none⟩) ((h.ow p hp).lt e).2).symm.trans hm),h.dj,h.un⟩
theorem kT{a:Act}{t:Nat}{v:Value}(ht:t<a.tmps.size)(u:Nat):(a.put (some t) v).tmps.getD u undef=if t=u then v else a.tmps.getD u undef:=by
 simp only[Act.put,cn,mz];split
 ·simp
 ·rfl
theorem Hd.put{X0:Nat->Prop}{n:Nat}{w0:Bs}{s:S}{f:Nat->Value}{a:Act}{w:World}(h:Hd X0 n w0 s f a w){dst:Option Tmp}{d:D}{v:Value}(hd:SR (XO X0 s f) f w d v)(ht:∀t,dst=some t->t<n):Hd X0 n w0 (s.put dst d) f (a.put dst v) w:=by
 cases dst with
 |none=>exact h
 |some t=>
  have htn:=ht t rfl;refine⟨by simp[Act.put,h.sz],h.df,h.bl,h.x0,h.xy,h.fx,h.lo,fun u=>?_,h.ow,h.nw,h.dj,h.un⟩;rw[kT (by rw[h.sz];exact htn)];show SR (XO X0 s f) f w (look ((t,d)::s.sl) u) _;simp only[look];split
  ·exact hd
  ·exact h.sl u
theorem hH{X:Nat->Prop}{f:Nat->Value}{w:World}(v:Value):SR X f w (cst v) v:=by
 have key:∀l:List Value,l.all (·.oneCell')=true->ASt X w (l.map .sc) l:=by
  intro l
  induction l with
  |nil=>intro _;simp only[jh,ASt]
  |cons u l ih=>
   intro h;simp only[oa,cO]at h;simp only[fB,ASt];exact⟨u,l,by rw[gj h.1];rfl,by simp only[AR];exact⟨trivial,h.1⟩,rfl,ih h.2⟩
 cases v with
 |agg cs=>
  simp only[cst];have hc:∀l:List Value,cs.toList=l->SR X f w (cstL l) (.agg cs):=by
   intro l hl;unfold cstL;split
   ·have e : cs = #[.bool false, .slice none 0 0] := by
     apply dp.1;rw[hl]
    subst e;simp only[SR,AR];exact⟨⟨false,none,0,0⟩,rfl,IZ.zero w⟩
   ·split
    ·next h=>simp only[SR,AR];exact⟨cs,rfl,by rw[hl];exact key l h⟩
    ·exact SR.any
  exact hc _ rfl
 |tuple vs=>exact SR.any
 |_=>simp only[SR,cst,AR,Value.oneCell',and_self]
theorem Hd.op{X0:Nat->Prop}{n:Nat}{w0:Bs}{s:S}{f:Nat->Value}{a:Act}{w:World}(h:Hd X0 n w0 s f a w)(x:Operand):SR (XO X0 s f) f w (s.op x) (a.eval x):=by
 cases x with
 |tmp t=>exact h.sl t
 |const v=>exact hH v
 |global g=>exact SR.any
 |func g=>exact⟨rfl,rfl⟩
def aW(P:Program)(X0:Nat->Prop)(n:Nat)(c:Code)(Q:Exit->S->Prop)(s:S):Prop:=
 ∀w0 f a w,Hd X0 n w0 s f a w->c.wp P (fun e a w=>∃s' f',Hd X0 n w0 s' f' a w/\Q e s') a w
section rules
variable {P : Program} {X0 : Nat->Prop} {n : Nat} {Q : Exit->S->Prop} {s : S}
theorem aW.mono{c:Code}{Q':Exit->S->Prop}(h:aW P X0 n c Q s)(hq:∀e s,Q e s->Q' e s):aW P X0 n c Q' s:=fun w0 f a w hd=>
 Code.wp_mono (fun _ _ _ ⟨s',f',h1,h2⟩=>⟨s',f',h1,hq _ _ h2⟩) (h w0 f a w hd)
theorem KY(h:Q .normal s):aW P X0 n .skip Q s:=fun _ f _ _ hd=>wp_skip ⟨s,f,hd,h⟩
theorem KZ{id:Nat}(h:Q (.exit id) s):aW P X0 n (.exit id) Q s:=fun _ f _ _ hd=>wp_exit ⟨s,f,hd,h⟩
theorem MK(h:Q .ret s):aW P X0 n .ret Q s:=fun _ f _ _ hd=>wp_ret ⟨s,f,hd,h⟩
def nx(K:S->Prop)(Q:Exit->S->Prop):Exit->S->Prop
 | .normal,s=>K s
 |e,s=>Q e s
theorem Bg{c:Operand}{x y:Code}{b:Bool}(hc:s.op c= .sc (.bool b))(h:aW P X0 n (if b then x else y) Q s):aW P X0 n (.cond c x y) Q s:=fun w0 f a w hd=>
 wp_cond (by have:=hd.op c;rw[hc]at this;exact this.1) (h w0 f a w hd)
theorem KX{c:Operand}{x y:Code}(hc:s.op c= .sc (.bool true))(h:aW P X0 n x Q s):aW P X0 n (.cond c x y) Q s:=Bg hc h
theorem Hu{c:Operand}{x y:Code}(hc:s.op c= .sc (.bool false))(h:aW P X0 n y Q s):aW P X0 n (.cond c x y) Q s:=Bg hc h
def inB(id:Nat)(Q:Exit->S->Prop):Exit->S->Prop
 | .exit id',s=>if id'=id then Q .normal s else Q (.exit id') s
 |e,s=>Q e s
theorem Hv{id:Nat}{c:Code}(h:aW P X0 n c (inB id Q) s):aW P X0 n (.block id c) Q s:=fun w0 f a w hd=>
 wp_block (Code.wp_mono (fun e a w ⟨s',f',h1,h2⟩=>by
  cases e with
  |exit id'=>
   simp only[inB]at h2;simp only[Exit.inBlock];split
   ·next e=>rw[aj e]at h2;exact⟨s',f',h1,h2⟩
   ·next e=>rw[ah e]at h2;exact⟨s',f',h1,h2⟩
  |_=>exact⟨s',f',h1,h2⟩) (h w0 f a w hd))
def Sh(X0:Nat->Prop)(n:Nat)(s s':S):Prop:=∀w0 f a w,Hd X0 n w0 s f a w->∃f',Hd X0 n w0 s' f' a w
theorem Sh.refl:Sh X0 n s s:=fun _ f _ _ h=>⟨f,h⟩
theorem aI{c:Code}{s':S}(h:Sh X0 n s s')(k:aW P X0 n c Q s'):aW P X0 n c Q s:=fun w0 f a w hd=>by
 obtain⟨f',h1⟩:=h w0 f a w hd;exact k w0 f' a w h1
theorem DP{c:Code}{Q:Exit->Act->World->Prop}(I:Nat->Act->World->Prop){m:Nat}{a:Act}{w:World}(h0:I m a w)
  (round:∀m a w,I m a w->c.wp P (Exit.then (fun a' w'=>∃m',m'<m/\I m' a' w') Q) a w):(Code.loop c).wp P Q a w:=by
 intro b k cs;have key:∀m a w,I m a w->∃e a' w',Q e a' w'/\Arrives P (lone (b.at a (.code c:: .inLoop c::k)) cs w) b k cs e a' w':=by
  intro m
  induction m using Nat.strongRecOn with
  |_ m ih=>
   intro a w hI;obtain⟨e,a₁,w₁,hq,harr⟩:=round m a w hI b (.inLoop c::k) cs
   cases e with
   |normal=>
    obtain⟨m',hlt,hI₁⟩:=hq;obtain⟨e₂,a₂,w₂,hq₂,harr₂⟩:=ih m' hlt a₁ w₁ hI₁;exact⟨e₂,a₂,w₂,hq₂,.of_steps (Steps.trans harr (.one step_inLoop)) harr₂⟩
   |exit id=>exact⟨_,a₁,w₁,hq,.pass (x:=.inLoop c) rfl (fun _ _=>.inl aU) harr⟩
   |goto l=>exact⟨_,a₁,w₁,hq,.pass (x:=.inLoop c) rfl (fun _ _=>.inl aU) harr⟩
   |ret=>exact⟨_,a₁,w₁,hq,.pass (x:=.inLoop c) rfl (fun _ _=>.inl aU) harr⟩
   |panic ch=>exact⟨_,a₁,w₁,hq,.pass (x:=.inLoop c) rfl (fun _ _=>.inl aU) harr⟩
   |outgrown=>exact⟨_,a₁,w₁,hq,.pass (x:=.inLoop c) rfl (fun _ _=>.inl aU) harr⟩
 obtain⟨e,a',w',hq,harr⟩:=key m a w h0;exact⟨e,a',w',hq,.of_steps (.one step_loop) harr⟩
theorem aX{c:Code}(I:Nat->S->Prop){m:Nat}(h0:I m s)(round:∀m s,I m s->aW P X0 n c (nx (fun s'=>∃m' s'',m'<m/\Sh X0 n s' s''/\I m' s'') Q) s):aW P X0 n (.loop c) Q s:=fun w0 f a w hd=>
 DP (fun m a w=>∃s f,Hd X0 n w0 s f a w/\I m s) ⟨s,f,hd,h0⟩ fun m a w ⟨s,f,hd,hI⟩=>
  Code.wp_mono (fun e a w ⟨s',f',h1,h2⟩=>by
   cases e with
   |normal=>
    obtain⟨m',s'',hm,h3,h4⟩:=h2;obtain⟨f'',h5⟩:=h3 w0 f' a w h1;exact⟨m',hm,s'',f'',h5,h4⟩
   |_=>exact⟨s',f',h1,h2⟩) (round m s hI w0 f a w hd)
def aL(P:Program)(X0:Nat->Prop)(n:Nat)(ops:Array Oper)(l:List Oper)(K:S->Prop)(s:S):Prop:=
 ∀w0 f a w (Q:Exit->Act->World->Prop),Hd X0 n w0 s f a w->(∀s' f' a' w',Hd X0 n w0 s' f' a' w'->K s'->Q .normal a' w')->wpList P ops Q l a w
theorem ba{ops:Array Oper}{K:S->Prop}(h:K s):aL P X0 n ops [] K s:=fun _ f a w _ hd hq=>hq s f a w hd h
theorem gar{id:Nat}{l:List Oper}(h:aL P X0 n l.toArray l (Q .normal) s):aW P X0 n (.region id l.toArray false) Q s:=fun w0 f a w hd=>
 wp_region_lit (h w0 f a w _ hd fun s' f' _ _ h1 h2=>⟨s',f',h1,h2⟩)
theorem Jq{ops:Array Oper}{l:List Oper}{K:S->Prop}{s':S}(h:Sh X0 n s s')(k:aL P X0 n ops l K s'):aL P X0 n ops l K s:=fun w0 f a w Q hd hq=>by
 obtain⟨f',h1⟩:=h w0 f a w hd;exact k w0 f' a w Q h1 hq
theorem gQ{ops:Array Oper}{o:Oper}{l:List Oper}{K:S->Prop}
  (h:∀w0 f a w Qx,Hd X0 n w0 s f a w->Region.wanted o (yielded ops a.tmps)=true/\o.wp P a w (fun a' w'=>∃s' f',Hd X0 n w0 s' f' a' w'/\aL P X0 n ops l K s') Qx):aL P X0 n ops (o::l) K s:=fun w0 f a w Q hd hq=>by
 obtain⟨h1,h2⟩:=h w0 f a w Q hd;refine wpList_step fun K' hK=>?_;rw[aj h1];exact Oper.wp_mono (fun a' w' ⟨s',f',h3,h4⟩=>hK _ _ (h4 w0 f' a' w' Q h3 hq)) h2
def D.pK:D->Bool
 | .sc _=>true
 |_=>false
def mH(P:Program)(X:Nat->Prop)(f:Nat->Value)(w:World)(d:D):Result Next->Prop
 | .ok (.value u) w'=>SR X f w' d u/\Below w.heap.size w w'/\(d.pK=true->w'=w)
 | .ok (.enter g args) w'=>w'=w/\Calls P g args w (fun e w''=>∃u,e= .returned u/\SR X f w'' d u/\Below w.heap.size w w'')
 |_=>False
def bp(P:Program)(o:Oper)(s:S)(d:D):Prop:=
 ∀(X:Nat->Prop) (f:Nat->Value) (a:Act) (w:World) (base:Nat),XW X w->(∀p∈s.ow,OW X f w base p)->(∀x∈o.op.operands,SR X f w (s.op x) (a.eval x))->mH P X f w d ((execOp a.eval o).run P w)
def cP(n:Nat)(o:Oper):Bool:=match o.dst with|some t=>decide (t<n)|none=>true
theorem iL{o:Oper}(h:cP n o=true):∀t,o.dst=some t->t<n:=fun t e=>by
 unfold cP at h;rw[e]at h;simpa using h
theorem pg{o:Oper}{d:D}(hd:bp P o s d){w0:Bs}{f:Nat->Value}{a:Act}{w:World}(h:Hd X0 n w0 s f a w)(ht:cP n o=true){Q:Exit->Act->World->Prop}:
  o.wp P a w (fun a' w'=>Hd X0 n w0 (s.put o.dst d) f a' w') Q:=by
 have h1:=hd (XO X0 s f) f a w 0 h.xlt h.ow (fun x _=>h.op x);unfold Oper.wp;generalize(execOp a.eval o).run P w=r at h1
 cases r with
 |halt x w'=>simp only[mH]at h1
 |ok x w'=>
  cases x<;>simp only[mH]at h1<;>simp only[Oper.upon]
  case value u=>exact(h.grow h1.2.1).put h1.1 (iL ht)
  case enter g args=>
   obtain⟨rfl,h2⟩:=h1;exact h2.mono fun e w'' ⟨u,he,h3,h4⟩=>by subst he;exact(h.grow h4).put h3 (iL ht)
theorem Lc{ops:Array Oper}{o:Oper}{l:List Oper}{K:S->Prop}{d:D}(hg:o.guard=none)(ht:cP n o=true)(hd:bp P o s d)(h:aL P X0 n ops l K (s.put o.dst d)):aL P X0 n ops (o::l) K s:=
 gQ fun _ f _ _ _ hh=>⟨by simp[Region.wanted,hg],Oper.wp_mono (fun _ _ h1=>⟨_,f,h1,h⟩) (pg hd hh ht)⟩
end rules
end DW
end
section
open Go.RowKit
namespace DW
section ops
variable {P : Program} {s : S} {o : Oper}
theorem dA{X:Nat->Prop}{f:Nat->Value}{w:World}{d:D}{u:Value}{r:Result Next}(h:r= .ok (.value u) w)(hd:SR X f w d u):mH P X f w d r:=by
 rw[h];exact⟨hd,Below.refl _ _,fun _=>rfl⟩
theorem wN{x:Operand}(ho:o.op= .move x\/o.op= .assign x):bp P o s (s.op x):=fun X f a w base _ _ hs=>by
 rcases ho with ho|ho;all_goals
  refine dA (u:=a.eval x) ?_ (hs x bA);unfold execOp;rw[ho];rfl
theorem zq{x:Operand}{t e:TypeId}{wd:Nat}{l:List D}(ho:o.op= .call {callee:=.builtin .len,args:=#[x],argTypes:=#[t]})(hx:s.op x= .ls wd l)(ht:P.underlying t=some (.slice e)):
  bp P o s (.sc (.int .i64 (l.length:Int))):=fun X f a w base _ _ hs=>by
 have h1:=hs x nJ;rw[hx]at h1;simp only[SR,AR]at h1;obtain⟨ad,c,h2,_⟩:=h1;refine dA (u:=.int .i64 (l.length:Int)) ?_ (by simp only[SR,AR];exact⟨trivial,rfl⟩);unfold execOp;rw[ho];simp only[resolve,invoke,builtin,Sem.run_bind,Sem.run_pure,Result.andThen_ok,oX,fB,jh,h2,Builtin.len_,run_underlying ht];simp[run_underlying ht,goInt]
theorem zp{x:Operand}{t e:TypeId}{k:Nat}{q:Ow}(ho:o.op= .call {callee:=.builtin .len,args:=#[x],argTypes:=#[t]})(hx:s.op x= .own k)(hk:(k,q)∈s.ow)(ht:P.underlying t=some (.slice e)):
  bp P o s (.sc (.int .i64 (q.l.length:Int))):=fun X f a w base _ how hs=>by
 have h1:=hs x nJ;rw[hx]at h1;simp only[SR]at h1;obtain⟨_,xs,⟨_,h3⟩,_⟩:=how _ hk;have h2:∃ad c,a.eval x= .slice ad q.l.length c:=by
  rcases h3 with⟨h4,h5⟩|⟨g,cap,cur,h4,_⟩
  ·exact⟨none,0,by rw[h1,h4];simp only at h5⊢;rw[h5]⟩
  ·exact⟨_,_,by rw[h1,h4]⟩
 obtain⟨ad,c,h2⟩:=h2;refine dA (u:=.int .i64 (q.l.length:Int)) ?_ (by simp only[SR,AR];exact⟨trivial,rfl⟩);unfold execOp;rw[ho];simp only[resolve,invoke,builtin,Sem.run_bind,Sem.run_pure,Result.andThen_ok,oX,fB,jh,h2,Builtin.len_,run_underlying ht];simp[run_underlying ht,goInt]
theorem cN(b o j:Nat):(⟨b,o,none⟩:Addr).add j=⟨b,o+j,none⟩:=Addr.add_mid b o j
theorem kr{x i:Operand}{t:TypeId}{wd:Nat}{l:List D}{k:IntKind}{n:Int}{d:D}(ho:o.op= .indexAddr t x i)(hx:s.op x= .ls wd l)(hi:s.op i= .sc (.int k n))
  (ht:P.underlying t=some (.slice (P.elem t))) (hz:(P.info? (P.elem t)).map (·.size)=some wd) (hn:0<=n) (hd:l[n.toNat]?=some d):bp P o s (.pt d):=fun X f a w base _ _ hs=>by
 have h1:=hs x bA;have h2:=hs i bA;rw[hx]at h1;rw[hi]at h2;simp only[SR,AR]at h1 h2;obtain⟨ad,c,h3,h4,h5⟩:=h1;have hl:=(cw.1 hd).1;rcases h5 with h5|⟨b,off,rfl,h6,h7,h8⟩
 ·rw[h5]at hl;simp at hl
 obtain⟨u,k1,k2,k3,k4⟩:=ARs.at h8 hd;have hlt:n<(l.length:Int):=by omega
 refine dA (u:=.pointer (some ⟨b,off+n.toNat*wd,none⟩)) ?_ (by simp only[SR,AR];exact⟨b,_,u,rfl,h6,h7,k1,k4⟩);unfold execOp;rw[ho]
 cases hq:P.info? (P.elem t)with
 |none=>rw[hq]at hz;cases hz
 |some inf=>
  rw[hq]at hz;simp only[ck,ai]at hz;have hrun:=run_indexAt_slice (P:=P) (w:=w) t ⟨b,off,none⟩ l.length c k n ht;rw[aj (And.intro hn hlt)]at hrun;simp only[Sem.run_bind,h3,h2.1,hrun];simp[sizeOf,typeInfo,hq,hz,cN]
theorem CH{w:World}{t:TypeId}{a:Addr}:(Instr.loadAt t (.pointer (some a))).run P w=(loadVar t a).run P w:=by
 simp[Instr.loadAt,Instr.sureAddr]
theorem th{X:Nat->Prop}{w:World}{d:D}{u:Value}{b off:Nat}{t:TypeId}(h:AR X w d u)(hf:d.fits=true)(hr:w.rangeAt b off u.cells.toList)(hz:(P.info? t).map (·.size)=some d.wd)(hg:(P.underlying t).map TypeDesc.isRow=some d.agg):
  (Instr.loadAt t (.pointer (some ⟨b,off,none⟩))).run P w= .ok u w:=by
 have hsh:=AR.shape hf h;have hsz:=AR.size d u hf h
 cases hu:P.underlying t with
 |none=>rw[hu]at hg;cases hg
 |some dd=>
  rw[hu]at hg;simp only[ck,ai]at hg
  cases ha:d.agg with
  |true=>
   rw[ha]at hsh hg;simp only[if_true]at hsh;have:=run_loadAt_mid (P:=P) w b off t u.cells.toList dd hr hu hg (by rw[hz];simp[hsz]);rw[this];rw[hsh];simp[Value.cells]
  |false=>
   rw[ha]at hsh hg;obtain⟨h1,h2⟩:=hsh;have hc:w.cell? ⟨b,off,none⟩=some u:=by
    have:=hr 0 u (by rw[h2];rfl);simpa using this
   have hagg:(isAgg t).run P w= .ok false w:=by
    unfold isAgg;rw[Sem.run_bind,run_underlying hu w];cases dd<;>simp_all
   simp[Instr.loadAt,Instr.sureAddr,loadVar,Sem.run_bind,hagg,hc]
theorem Fu{x:Operand}{t:TypeId}{d:D}(ho:o.op= .load t x)(hx:s.op x= .pt d)(hf:d.fits=true)(hz:(P.info? t).map (·.size)=some d.wd)(hg:(P.underlying t).map TypeDesc.isRow=some d.agg):bp P o s d:=fun X f a w base _ _ hs=>by
 have h1:=hs x bA;rw[hx]at h1;simp only[SR,AR]at h1;obtain⟨b,off,u,h2,_,_,h3,h4⟩:=h1;refine dA (u:=u) ?_ (by cases d<;>first|exact h3|simp[D.fits]at hf);unfold execOp;rw[ho];simp only[Sem.run_bind,h2,th h3 hf h4 hz hg,Result.andThen_ok];rfl
theorem gP{u:Value}(hu:u.oneCell'=true)(hr:∀(X:Nat->Prop) (f:Nat->Value) (w:World) (a:Act),(∀x∈o.op.operands,SR X f w (s.op x) (a.eval x))->(execOp a.eval o).run P w= .ok (.value u) w):bp P o s (.sc u):=fun X f a w base _ _ hs=>
 dA (hr X f w a hs) (by simp only[SR,AR];exact⟨trivial,hu⟩)
theorem jx{op:BinOp}{t t':TypeId}{x y:Operand}{u1 u2 u:Value}(ho:o.op= .binOp op t x y t')(hx:s.op x= .sc u1)(hy:s.op y= .sc u2)(hu:u.oneCell'=true)
  (hr:∀w,((do eqGuard op t x y u1 u2;binOp op t u1 u2:Sem Value)).run P w= .ok u w):bp P o s (.sc u):=gP hu fun X f w a hs=>by
 have h1:=hs x bA;have h2:=hs y bA;rw[hx]at h1;rw[hy]at h2;simp only[SR,AR]at h1 h2;have h3:=hr w;unfold execOp;rw[ho];simp only[h1.1,h2.1];rw[Sem.run_bind,h3];rfl
def Da(op:BinOp)(p q:Int)(k:IntKind):Option Value:=
 match op with
 | .add=>some (.int k (k.wrap (p+q)))
 | .sub=>some (.int k (k.wrap (p-q)))
 | .mul=>some (.int k (k.wrap (p*q)))
 | .eql=>some (.bool (decide (p=q)))
 | .neq=>some (.bool (!decide (p=q)))
 | .lss=>some (.bool (decide (p<q)))
 | .leq=>some (.bool (decide (p<=q)))
 | .gtr=>some (.bool (decide (q<p)))
 | .geq=>some (.bool (decide (q<=p)))
 |_=>none
theorem dT{op:BinOp}{t t':TypeId}{x y:Operand}{k:IntKind}{p q:Int}{u:Value}(ho:o.op= .binOp op t x y t')(hx:s.op x= .sc (.int k p))(hy:s.op y= .sc (.int k q))(hu:Da op p q k=some u):bp P o s (.sc u):=by
 refine jx ho hx hy (by cases op<;>simp[Da]at hu<;>subst hu<;>rfl) fun w=>?_;cases op<;>simp only[Da,ai,reduceCtorEq]at hu<;>subst hu<;>simp[eqGuard,binOp,Op.intArith,Op.intCmp,BEq.beq,bne]
theorem Hc{t:TypeId}{x:Operand}{b:Bool}(ho:o.op= .unOp .not t x)(hx:s.op x= .sc (.bool b)):bp P o s (.sc (.bool !b)):=gP rfl fun X f w a hs=>by
 have h1:=hs x bA;rw[hx]at h1;simp only[SR,AR]at h1;unfold execOp;rw[ho];simp[h1.1,Op.unary]
theorem wM{c x y:Operand}{b:Bool}(ho:o.op= .pick c x y)(hc:s.op c= .sc (.bool b)):bp P o s (if b then s.op x else s.op y):=fun X f a w base _ _ hs=>by
 have h1:=hs c bA;have h2:=hs x bA;have h3:=hs y bA;rw[hc]at h1;simp only[SR,AR]at h1;refine dA (u:=if b then a.eval x else a.eval y) ?_ (by cases b;exact h3;exact h2);unfold execOp;rw[ho];simp[h1.1,asBool]
theorem zt{x:Operand}{i:Nat}{l:List D}{d:D}(ho:o.op= .extract x i)(hx:s.op x= .tp l)(hd:l[i]?=some d):bp P o s d:=fun X f a w base _ _ hs=>by
 have h1:=hs x bA;rw[hx]at h1;simp only[SR,AR]at h1;obtain⟨vs,h2,h3⟩:=h1;obtain⟨u,h4,h5⟩:=ATp.at h3 hd;refine dA (u:=u) ?_ (by cases d<;>first|exact h5|(simp only[AR]at h5));unfold execOp;rw[ho];have h4':vs[i]?=some u:=by simpa using h4
 simp[h2,Instr.extract,h4']
def Fun(P:Program)(g:FuncId)(ds:List D)(r:D):Prop:=
 ∀(X:Nat->Prop) (w:World) (vs:Array Value),XW X w->ATp X w ds vs.toList->
  Calls P g vs w (fun e w'=>∃u,e= .returned u/\AR X w' r u/\Below w.heap.size w w')
def D.seen:D->Bool
 | .own _=>false
 | .opt _ _=>false
 |_=>true
theorem FJ{X:Nat->Prop}{f:Nat->Value}{w:World}(s:S)(a:Act):∀l:List Operand,(∀x∈l,SR X f w (s.op x) (a.eval x))->(∀x∈l,(s.op x).seen=true)->ATp X w (l.map s.op) (l.map a.eval)
 |[],_,_=>by simp only[jh,ATp]
 |x::l,h,k=>by
  simp only[fB,ATp];refine⟨a.eval x,l.map a.eval,rfl,?_,FJ s a l (fun y hy=>h y (bz _ hy)) (fun y hy=>k y (bz _ hy))⟩;have h1:=h x br;have h2:=k x br;cases hd:s.op x<;>rw[hd]at h1 h2<;>first|exact h1|simp[D.seen]at h2
theorem nC{g:FuncId}{xs:List Operand}{ts:Array TypeId}{ds:List D}{r:D}(ho:o.op= .call {callee:=.value (.func g),args:=xs.toArray,argTypes:=ts})(he:Go.Proofs.Enters P g)(hd:xs.map s.op=ds)(hs:ds.all D.seen=true)(hf:Fun P g ds r)(hr:r.seen=true):bp P o s r:=fun X f a w base hX _ hh=>by
 have h1:ATp X w ds (xs.map a.eval):=by
  rw[<-hd];refine FJ s a xs (fun x hx=>hh x ?_) (fun x hx=>?_)
  ·rw[ho];simp[Op.operands,Call.operands];exact .inr hx
  ·rw[fD]at hs;exact hs _ (by rw[<-hd];exact iD.2 ⟨x,hx,rfl⟩)
 have h2:(execOp a.eval o).run P w= .ok (.enter g (xs.map a.eval).toArray) w:=by
  unfold execOp;rw[ho];have:=he (xs.map a.eval).toArray w;simp[resolve,invoke,Deferred.ofValue,Act.eval,this]
 rw[h2];refine⟨rfl,(hf X w _ hX (by simpa using h1)).mono fun e w' ⟨u,k1,k2,k3⟩=>⟨u,k1,?_,k3⟩⟩;cases r<;>first|exact k2|simp[D.seen]at hr
theorem nL(w:World)(cs:Array Value)(t:TypeId):(w.alloc (.cells cs t)).rangeAt w.heap.size 0 cs.toList:=fun j v hj=>by
 rw[cell_of_row _ w.heap.size _ _ _ (0,0) (heap_alloc_new w _),bQ];simpa using hj
theorem Hg{x:Operand}{t:TypeId}{d:D}(ho:o.op= .box t x)(hx:s.op x=d)(hf:d.fits=true):bp P o s (.pt d):=fun X f a w base hX _ hs=>by
 have h1:=hs x bA;rw[hx]at h1;have h1':AR X w d (a.eval x):=by cases d<;>first|exact h1|simp[D.fits]at hf
 have hr:(execOp a.eval o).run P w= .ok (.value (.pointer (some ⟨w.heap.size,0,none⟩))) (w.alloc (.cells (a.eval x).cells t)):=by
  unfold execOp;rw[ho];simp[Instr.box,newVar,newRow]
 have hb:Below w.heap.size w (w.alloc (.cells (a.eval x).cells t)):=(Below.refl _ _).alloc (af _) _;rw[hr];refine⟨?_,hb,fun h=>by simp[D.pK]at h⟩;simp only[SR,AR];exact⟨w.heap.size,0,a.eval x,rfl,fun e=>by have:=(hX _ e).1;omega,by simp,h1'.grow hb,nL _ _ _⟩
theorem He{x:Operand}{t e:TypeId}{d:D}(ho:o.op= .buildSlice t 1 #[(0,x)])(hx:s.op x=d)(hf:d.fits=true)(ht:P.underlying t=some (.slice e))(hz:(P.info? e).map (fun i=>(i.zero.isSome,i.size))=some (true,d.wd))(h0:0<d.wd)(h1:d.wd<=1000000):bp P o s (.ls d.wd [d]):=fun X f a w base hX _ hs=>by
 have h2:=hs x bA;rw[hx]at h2;have h2':AR X w d (a.eval x):=by cases d<;>first|exact h2|simp[D.fits]at hf
 have hsz:=AR.size d _ hf h2'
 cases hq:P.info? e with
 |none=>rw[hq]at hz;cases hz
 |some inf=>
  rw[hq]at hz;simp only[ck,ai,aD]at hz;obtain⟨z,hz1⟩:=cA.1 hz.1;have hfill:=Go.Great.fill_whole (s:=inf.size) aa [a.eval x] ((Array.range (1*inf.size)).map (z.cells[· %z.cells.size]!)) (by intro v hv;rw[bV.1 hv,hsz,hz.2]) aU;have hr:(execOp a.eval o).run P w= .ok (.value (.slice (some ⟨w.heap.size,0,none⟩) 1 1)) (w.alloc (.cells (a.eval x).cells e)):=by
   unfold execOp;rw[ho];have:=run_buildSlice (P:=P) w t e 1 #[(0,a.eval x)] (a.eval x).cells inf z ht hq hz1 (by rw[hz.2];omega) (by rw[hz.2];omega) (by
    simpa using hfill)
   simp[Sem.run_bind,this]
  have hb:Below w.heap.size w (w.alloc (.cells (a.eval x).cells e)):=(Below.refl _ _).alloc (af _) _;rw[hr];refine⟨?_,hb,fun h=>by simp[D.pK]at h⟩;simp only[SR,AR,ARs,gY,reduceCtorEq,false_or];exact⟨_,1,rfl,af _,w.heap.size,0,rfl,fun e=>by have:=(hX _ e).1;omega,by simp,⟨a.eval x,h2'.grow hb,hf,trivial,nL _ _ _⟩,trivial⟩
end ops
end DW
end
section
open Go.RowKit
namespace DW
mutual
theorem AR.one{X:Nat->Prop}{w:World}:∀(d:D) (v:Value),d.fits=true->AR X w d v->∀u∈v.cells.toList,u.oneCell'=true
 | .any,_,h,_=>by simp[D.fits]at h
 | .sc u,v,_,h=>by
  simp only[AR]at h;obtain⟨rfl,h⟩:=h;rw[gj h];simpa using h
 | .nm z,v,_,h=>by
  simp only[AR]at h;obtain⟨x,rfl,_⟩:=h;intro u hu;simp[Value.cells]at hu;rcases hu with rfl|rfl<;>rfl
 | .ls wd l,v,_,h=>by
  simp only[AR]at h;obtain⟨a,c,rfl,_⟩:=h;intro u hu;simp[Value.cells]at hu;subst hu;rfl
 | .st l,v,_,h=>by
  simp only[AR]at h;obtain⟨cs,rfl,h⟩:=h;exact ASt.one l _ h
 | .pt d,v,_,h=>by
  simp only[AR]at h;obtain⟨b,o,u,rfl,_⟩:=h;intro u hu;simp[Value.cells]at hu;subst hu;rfl
 | .tp l,v,h,_=>by simp[D.fits]at h
 | .own _,_,h,_=>by simp[D.fits]at h
 | .opt _ _,_,h,_=>by simp[D.fits]at h
theorem ASt.one{X:Nat->Prop}{w:World}:∀(l:List D) (cs:List Value),ASt X w l cs->∀u∈cs,u.oneCell'=true
 |[],cs,h=>by simp only[ASt]at h;subst h;intro u hu;cases hu
 |d::l,cs,h=>by
  simp only[ASt]at h;obtain⟨u,rest,rfl,h2,h3,h4⟩:=h;intro x hx;rcases de.1 hx with hx|hx
  ·exact AR.one d u h3 h2 x hx
  ·exact ASt.one l rest h4 x hx
end
theorem AR.nwd{X:Nat->Prop}{w:World}:∀(d:D) (v:Value),AR X w d v->d.nw=true->∀n,v.cells.toList[0]?≠some (.int .u32 n)
 | .any,_,_,h=>by simp[D.nw]at h
 | .sc u,v,h,hn=>by
  simp only[AR]at h;obtain⟨rfl,h⟩:=h;rw[gj h];intro n e;simp at e;subst e;simp[D.nw]at hn
 | .nm z,v,h,_=>by
  simp only[AR]at h;obtain⟨x,rfl,_⟩:=h;intro n e;simp[Value.cells]at e
 | .ls wd l,v,h,_=>by
  simp only[AR]at h;obtain⟨a,c,rfl,_⟩:=h;intro n e;simp[Value.cells]at e
 | .st [],v,_,h=>by simp[D.nw]at h
 | .st (d::l),v,h,hn=>by
  simp only[AR,ASt]at h;obtain⟨cs,rfl,u,rest,h1,h2,h3,h4⟩:=h;simp only[D.nw,cO,decide_eq_true_eq]at hn;have hsz:=AR.size d u h3 h2;intro n e;simp only[Value.cells]at e;rw[h1,et (by simp only[bJ];omega)]at e;exact AR.nwd d u h2 hn.1 n e
 | .pt d,v,h,_=>by
  simp only[AR]at h;obtain⟨b,o,u,rfl,_⟩:=h;intro n e;simp[Value.cells]at e
 | .tp l,v,_,h=>by simp[D.nw]at h
 | .own _,_,h,_=>by simp only[AR]at h
 | .opt _ _,_,h,_=>by simp only[AR]at h
theorem Els.len{X:Nat->Prop}{w:World}{wd:Nat}:∀{l:List D} {xs:List Value},Els X w wd l xs->xs.length=l.length*wd
 |[],_,h=>by rw[show _=[]from h];simp
 |d::l,_,⟨u,rest,h1,h2,h3,h4,_,h5⟩=>by
  have:=Els.len h5;have:=AR.size d u h3 h2;rw[h1];simp only[cq,bJ,dh,bC,cv];omega
theorem Els.one{X:Nat->Prop}{w:World}{wd:Nat}:∀{l:List D} {xs:List Value},Els X w wd l xs->∀u∈xs,u.oneCell'=true
 |[],_,h=>by rw[show _=[]from h];intro u hu;cases hu
 |d::l,_,⟨u,rest,h1,h2,h3,h4,_,h5⟩=>by
  rw[h1];intro x hx;rcases de.1 hx with hx|hx
  ·exact AR.one d u h3 h2 x hx
  ·exact Els.one h5 x hx
theorem Els.app{X:Nat->Prop}{w:World}{wd:Nat}{l2:List D}{ys:List Value}(k:Els X w wd l2 ys):∀{l:List D} {xs:List Value},Els X w wd l xs->Els X w wd (l++l2) (xs++ys)
 |[],_,h=>by rw[show _=[]from h];exact k
 |d::l,_,⟨u,rest,h1,h2,h3,h4,hn,h5⟩=>⟨u,rest++ys,by rw[h1,cY],h2,h3,h4,hn,Els.app k h5⟩
theorem Els.ars{X:Nat->Prop}{w:World}{b wd:Nat}:∀{l:List D} {xs:List Value} {o:Nat},Els X w wd l xs->w.rangeAt b o xs->ARs X w b wd l o
 |[],_,_,_,_=>by simp only[ARs]
 |d::l,_,o,⟨u,rest,h1,h2,h3,h4,_,h5⟩,hr=>by
  have hsz:=AR.size d u h3 h2;simp only[ARs];refine⟨⟨u,h2,h3,h4,fun j v hj=>hr j v ?_⟩,Els.ars h5 fun j v hj=>?_⟩
  ·rw[h1,et (cw.1 hj).1];exact hj
  ·have:=hr (wd+j) v (by rw[h1,iC (by simp only[bJ];omega),bJ,hsz,h4,tM];exact hj);rw[<-nh]at this;exact this
theorem ARs.els{X:Nat->Prop}{w:World}{b wd:Nat}:∀{l:List D} {o:Nat},ARs X w b wd l o->l.all D.nw=true->∃xs,Els X w wd l xs/\w.rangeAt b o xs
 |[],_,_,_=>⟨[],rfl,fun j v hj=>by simp at hj⟩
 |d::l,o,h,hn=>by
  simp only[ARs]at h;simp only[oa,cO]at hn;obtain⟨⟨u,h1,h2,h3,h4⟩,h5⟩:=h;obtain⟨xs,k1,k2⟩:=ARs.els h5 hn.2;have hsz:=AR.size d u h2 h1;refine⟨u.cells.toList++xs,⟨u,xs,rfl,h1,h2,h3,hn.1,k1⟩,fun j v hj=>?_⟩;by_cases hjl:j<u.cells.toList.length
  ·rw[et hjl]at hj;exact h4 j v hj
  ·rw[iC aa]at hj;simp only[bJ]at hjl hj;have:=k2 _ _ hj;rw[show o+wd+(j-u.cells.size)=o+j by omega]at this;exact this
theorem Els.nw0{X:Nat->Prop}{w:World}{wd:Nat}:∀{l:List D} {xs:List Value},Els X w wd l xs->l≠[]->0<wd->∃u,xs[0]?=some u/\∀n,u≠ .int .u32 n
 |[],_,_,h,_=>absurd rfl h
 |d::l,_,⟨u,rest,h1,h2,h3,h4,hn,h5⟩,_,hw=>by
  have hsz:=AR.size d u h3 h2;have hlt:0<u.cells.toList.length:=by simp only[bJ];omega
  refine⟨u.cells.toList[0],?_,fun m e=>AR.nwd d u h2 hn m ?_⟩
  ·rw[h1,et hlt,aV hlt]
  ·rw[aV hlt,e]
def D.is(k:Nat):D->Bool
 | .own j=>Nat.beq j k
 | .opt j _=>Nat.beq j k
 |_=>false
def kill(k:Nat):List (Nat×D)->List (Nat×D)
 |[]=>[]
 |(t,d)::l=>(t,match d.is k with|true=>.any|false=>d)::kill k l
theorem ik(k:Nat):∀(l:List (Nat×D)) (t:Nat),look (kill k l) t=look l t/\(look l t).is k=false\/look (kill k l) t= .any
 |[],t=>.inl ⟨rfl,rfl⟩
 |(u,d)::l,t=>by
  have ih:=ik k l t;simp only[kill,look];split
  ·cases h:d.is k
   ·exact .inl ⟨rfl,rfl⟩
   ·exact .inr rfl
  ·exact ih
theorem SR.other{X X':Nat->Prop}{f:Nat->Value}{w w':World}{d:D}{v v':Value}{k:Nat}(h:SR X f w d v)(hk:d.is k=false)(hag:Agr X w w')(hX:∀b,b<w.heap.size->X' b->X b):SR X' (fun j=>if j=k then v' else f j) w' d v:=by
 cases d with
 |own j=>
  have hj:j≠k:=fun e=>by simp[D.is,e,eD]at hk
  simp only[SR]at h⊢;rw[ah hj];exact h
 |opt j off=>
  have hj:j≠k:=fun e=>by simp[D.is,e,eD]at hk
  simp only[SR]at h⊢;rw[ah hj];exact h
 |_=>exact AR.agr hag hX _ _ h
def upd(k:Nat)(l2:List D):List (Nat×Ow)->List (Nat×Ow)
 |[]=>[]
 |(j,q)::l=>if j=k then(j,⟨q.T,q.wd,q.l++l2⟩)::upd k l2 l else(j,q)::upd k l2 l
theorem gL{k:Nat}{l2:List D}{q:Ow}:∀{l:List (Nat×Ow)},(∀p∈l,p.1=k->p=(k,q))->∀p,p∈upd k l2 l->(p.1≠k/\p∈l)\/p=(k,⟨q.T,q.wd,q.l++l2⟩)
 |[],_,p,hp=>by simp[upd]at hp
 |(j,r)::l,hu,p,hp=>by
  simp only[upd]at hp;by_cases hj:j=k
  ·rw[aj hj]at hp;have e:=hu _ br hj;cases e;rcases bI.1 hp with h|h
   ·exact .inr h
   ·rcases gL (fun a ha=>hu a (bz _ ha)) p h with h|h
    ·exact .inl ⟨h.1,bz _ h.2⟩
    ·exact .inr h
  ·rw[ah hj]at hp;rcases bI.1 hp with h|h
   ·exact .inl ⟨by rw[h];exact hj,by rw[h];exact br⟩
   ·rcases gL (fun a ha=>hu a (bz _ ha)) p h with h|h
    ·exact .inl ⟨h.1,bz _ h.2⟩
    ·exact .inr h
theorem AE{X0:Nat->Prop}{n:Nat}{w0:Bs}{s:S}{f:Nat->Value}{a:Act}{w w':World}(h:Hd X0 n w0 s f a w){p:Nat×Ow}(hp:p∈s.ow)(hg:w.grownBy w' (f p.1).ownBlock):Agr (XO X0 s f) w w':=by
 refine⟨hg.size,fun b hb hX=>hg.block b hb fun e=>hX (.inr ⟨p,hp,e.symm⟩),fun x z hz=>?_⟩
 cases hv:(f p.1).ownBlock with
 |none=>exact hz.below (B:=w.heap.size) ⟨hg.os,hg.tape,hg.output,hg.size,fun k hk=>hg.block k hk (by rw[hv];simp)⟩ (af _)
 |some b=>exact hz.chg (g:=b) ⟨hg.os,hg.tape,hg.output,hg.size,fun k hk hkb=>hg.block k hk (by rw[hv];simp only[ne_eq,ai];exact hkb)⟩ (h.nw b ⟨p,hp,hv⟩)
def S.app(s:S)(dst:Nat)(k:Nat)(l2:List D):S:=⟨(dst,.own k)::kill k s.sl,upd k l2 s.ow⟩
theorem Hd.app{X0:Nat->Prop}{n:Nat}{w0:Bs}{s:S}{f:Nat->Value}{a:Act}{w w':World}{k:Nat}{q:Ow}{l2:List D}{ys:List Value}{v':Value}{t:Nat}(h:Hd X0 n w0 s f a w)(hk:(k,q)∈s.ow)(hk0:Nat.blt k 1000000=true)(ht:t<n)
  (hg:w.grownBy w' (f k).ownBlock) (ho:∃xs,Els (XO X0 s f) w q.wd q.l xs/\w'.ownsRow 0 q.T q.wd v' (q.l.length+l2.length) (xs++ys)) (hy:Els (XO X0 s f) w q.wd l2 ys) (hb:v'.ownBlock=(f k).ownBlock\/v'.ownBlock=some w.heap.size) (hl:q.l++l2≠[]):
  Hd X0 n w0 (s.app t k l2) (fun j=>if j=k then v' else f j) (a.put (some t) v') w':=by
 obtain⟨xs,hx,ho⟩:=ho;obtain⟨hwd,_⟩:=h.ow _ hk;have hag:=AE h hk hg;have hX:∀b,b<w.heap.size->XO X0 (s.app t k l2) (fun j=>if j=k then v' else f j) b->XO X0 s f b:=fun b hbs hb'=>by
  rcases hb' with hb'|⟨p,hp,e⟩
  ·exact .inl hb'
  ·rcases gL (fun p hp e=>h.un p hp _ hk e) p hp with⟨h1,h2⟩|h1
   ·simp only[ah h1]at e;exact .inr ⟨p,h2,e⟩
   ·subst h1;simp only[if_true]at e;rcases hb with hb|hb
    ·exact .inr ⟨_,hk,by rw[<-hb];exact e⟩
    ·rw[hb]at e;simp only[ai]at e;omega
 have hsl:∀u,SR (XO X0 (s.app t k l2) (fun j=>if j=k then v' else f j)) (fun j=>if j=k then v' else f j) w' (look (kill k s.sl) u) (a.tmps.getD u undef):=fun u=>by
  rcases ik k s.sl u with⟨e,hne⟩|e
  ·rw[e];exact SR.other (h.sl u) hne hag hX
  ·rw[e];exact SR.any
 have hrow:∀j,js j=true->(if j=k then v' else f j)=f j:=fun j hj=>ah (sb hk0 hj);have hoth:∀p∈s.ow,p.1≠k->(f p.1).ownBlock=none\/(f p.1).ownBlock≠(f k).ownBlock:=fun p hp hpk=>by
  cases hv:(f p.1).ownBlock with
  |none=>exact .inl rfl
  |some b=>exact .inr fun e=>h.dj p hp _ hk hpk b hv e.symm
 refine⟨by simp[Act.put,h.sz],h.df,h.bl.grown hg (fun b hb=>h.lo _ hk b hb),h.x0,h.xy,fun j hj=>(ah (sd hk0 hj)).trans (h.fx j hj),fun p hp b e=>?_,fun u=>?_,fun p hp=>?_,fun b hb'=>?_,fun p hp p' hp' hne b e e'=>?_,fun p hp p' hp' e=>?_⟩
 ·rcases gL (fun p hp e=>h.un p hp _ hk e) p hp with⟨h1,h2⟩|h1
  ·simp only[ah h1]at e;exact h.lo p h2 b e
  ·subst h1;simp only[if_true]at e;rcases hb with hb|hb
   ·exact h.lo _ hk b (by rw[<-hb];exact e)
   ·rw[hb]at e;simp only[ai]at e;exact .inl (by have:=h.bl.size;omega)
 ·rw[kT (by rw[h.sz];exact ht)];show SR _ _ _ (look ((t,.own k)::kill k s.sl) u) _;simp only[look];split
  ·simp only[SR,if_true]
  ·exact hsl u
 ·rcases gL (fun p hp e=>h.un p hp _ hk e) p hp with⟨h1,h2⟩|h1
  ·obtain⟨k0,zs,k1,k2⟩:=h.ow p h2;refine⟨k0,zs,?_,EE.agr hag hX hrow k2⟩;simp only[ah h1];exact World.ownsRow.kept k1 hg (hoth p h2 h1)
  ·subst h1;refine⟨hwd,xs++ys,?_,EE.of (Els.agr hag hX (Els.app hy hx)) (oD hk0)⟩;simp only[if_true,cq];exact ho
 ·obtain⟨p,hp,e⟩:=hb';rcases gL (fun p hp e=>h.un p hp _ hk e) p hp with⟨h1,h2⟩|h1
  ·simp only[ah h1]at e;have h3:=h.nw b ⟨p,h2,e⟩;intro m hm;have hlt:=((h.ow p h2).lt e).2;have:w'.cell? ⟨b,0,none⟩=w.cell? ⟨b,0,none⟩:=World.cell?_of_block (hg.block b hlt fun e2=>h.dj p h2 _ hk h1 b e e2.symm);rw[this]at hm;exact h3 m hm
  ·subst h1;simp only[if_true]at e;intro m hm;obtain⟨u,hu,hn⟩:=Els.nw0 (Els.app hy hx) hl hwd;have hc:=World.ownsRow.cells ho e 0 u hu;rw[cN,bP]at hc;rw[hc]at hm;exact hn m (by simpa using hm)
 ·rcases gL (fun p hp e=>h.un p hp _ hk e) p hp with⟨h1,h2⟩|h1<;>rcases gL (fun p hp e=>h.un p hp _ hk e) p' hp' with⟨h1',h2'⟩|h1'
  ·simp only[ah h1,ah h1']at e e';exact h.dj p h2 p' h2' hne b e e'
  ·subst h1';simp only[ah h1,if_true]at e e';rcases hb with hb|hb
   ·exact h.dj p h2 _ hk h1 b e (by rw[<-hb];exact e')
   ·rw[hb]at e';simp only[ai]at e';have:=((h.ow p h2).lt e).2;omega
  ·subst h1;simp only[ah h1',if_true]at e e';rcases hb with hb|hb
   ·exact h.dj p' h2' _ hk h1' b e' (by rw[<-hb];exact e)
   ·rw[hb]at e;simp only[ai]at e;have:=((h.ow p' h2').lt e').2;omega
  ·subst h1;subst h1';exact hne rfl
 ·rcases gL (fun p hp e=>h.un p hp _ hk e) p hp with⟨h1,h2⟩|h1<;>rcases gL (fun p hp e=>h.un p hp _ hk e) p' hp' with⟨h1',h2'⟩|h1'
  ·exact h.un p h2 p' h2' e
  ·subst h1';exact absurd e h1
  ·subst h1;exact absurd e.symm h1'
  ·rw[h1,h1']
section
variable {P : Program} {X0 : Nat->Prop} {n : Nat} {s : S}
theorem FX{ops:Array Oper}{o:Oper}{l:List Oper}{K:S->Prop}{x y:Operand}{t dst:Nat}{k:Nat}{q:Ow}{wd:Nat}{l2:List D}(hg:o.guard=none)(hdst:o.dst=some dst)(ht:dst<n)
  (ho:o.op= .call {callee:= .builtin .append,args:= #[x,y],argTypes:= #[t,t]}) (hx:s.op x= .own k) (hy:s.op y= .ls wd l2) (hk:(k,q)∈s.ow) (hwd:wd=q.wd) (hl2:l2≠[]) (hn2:l2.all D.nw=true)
  (htt:P.underlying t=some (.slice q.T)) (hI:(P.info? q.T).map (fun i=>(i.zero.map (·.cells.size),i.size,decide (i.bytes<=100000)))=some (some q.wd,q.wd,true)) (hlen:q.l.length+l2.length<=1000000000)
  (h:aL P X0 n ops l K (s.app dst k l2)) (hk0:Nat.blt k 1000000=true):aL P X0 n ops (o::l) K s:=by
 subst hwd;refine gQ fun w0 f a w Qx hd=>⟨by simp[Region.wanted,hg],?_⟩;have h1:=hd.op x;have h2:=hd.op y;rw[hx]at h1;rw[hy]at h2;simp only[SR,AR]at h1 h2;obtain⟨ad,c,e1,h3,h4⟩:=h2;obtain⟨b,off,rfl,h5,h6,h7⟩:=h4.resolve_left hl2;obtain⟨ys,h8,h9⟩:=ARs.els h7 hn2;obtain⟨hw0,xs,h10,h11'⟩:=hd.ow _ hk;have h11:=h11'.pl (oD hk0)
 cases hq:P.info? q.T with
 |none=>rw[hq]at hI;cases hI
 |some inf=>
  rw[hq]at hI;simp only[ck,ai,aD,decide_eq_true_eq]at hI;obtain⟨hz,hsz,hby⟩:=hI;obtain⟨z,hz1,hz2⟩:=eP.1 hz;have hyl:=Els.len h8;obtain⟨v',w',hr,k1,k2,_,k4⟩:=run_append_own_at (P:=P) w 0 t o.type q.T inf z q.wd inf.bytes htt hq hz1 hsz rfl hz2 hw0 (f k) q.l.length xs h10
   ⟨b,off,none⟩ l2.length c ys hyl (fun j u hj=>by rw[cN];exact h9 j u hj) (Els.one h8) sP
   (by have : (q.l.length + l2.length) * inf.bytes <= 1000000000 * 100000 := bZ hlen hby
       omega) (aO _)
  unfold Oper.wp execOp;simp only[ho,resolve,invoke,builtin,Sem.run_bind,Sem.run_pure,Result.andThen_ok,oX,fB,jh,h1,e1,hr,Oper.upon,hdst];exact⟨_,_,hd.app hk hk0 ht k2 ⟨xs,h11,k1⟩ h8 k4 (by simp[hl2]),h⟩
theorem MZ{t k:Nat}{T:TypeId}{wd:Nat}(ht:s.gt t= .sc (.slice none 0 0))(hk:∀p∈s.ow,p.1≠k)(hw:0<wd)(hk0:Nat.blt k 1000000=true):Sh X0 n s ⟨(t,.own k)::kill k s.sl,(k,⟨T,wd,[]⟩)::s.ow⟩:=fun w0 f a w h=>by
 refine⟨fun j=>if j=k then .slice none 0 0 else f j,?_⟩;have hX:∀b,XO X0 ⟨(t,.own k)::kill k s.sl,(k,⟨T,wd,[]⟩)::s.ow⟩ (fun j=>if j=k then .slice none 0 0 else f j) b->XO X0 s f b:=fun b hb=>by
  rcases hb with hb|⟨p,hp,e⟩
  ·exact .inl hb
  ·rcases bI.1 hp with h1|h1
   ·subst h1;simp[Value.ownBlock]at e
   ·simp only[ah (hk p h1)]at e;exact .inr ⟨p,h1,e⟩
 refine⟨h.sz,h.df,h.bl,h.x0,h.xy,fun j hj=>(ah (sd hk0 hj)).trans (h.fx j hj),fun p hp b e=>?_,fun u=>?_,fun p hp=>?_,fun b hb=>?_,fun p hp p' hp' hne b e e'=>?_,fun p hp p' hp' e=>?_⟩
 ·rcases bI.1 hp with h1|h1
  ·subst h1;simp[Value.ownBlock]at e
  ·simp only[ah (hk p h1)]at e;exact h.lo p h1 b e
 ·show SR _ _ _ (look ((t,.own k)::kill k s.sl) u) _;simp only[look];split
  ·next e=>
   have h1:=h.sl t;rw[ht]at h1;simp only[SR,AR]at h1;simp only[SR,if_true];rw[<-e];exact h1.1
  ·rcases ik k s.sl u with⟨e,hne⟩|e
   ·rw[e];exact SR.other (h.sl u) hne (Agr.refl _ w) (fun b _ hb=>hX b hb)
   ·rw[e];exact SR.any
 ·rcases bI.1 hp with h1|h1
  ·subst h1;exact⟨hw,[],by simp only[if_true];exact World.ownsRow_nil _ _ _ _,EE.of (show Els _ _ _ [] []from rfl) (oD hk0)⟩
  ·obtain⟨k0,zs,k1,k2⟩:=h.ow p h1;exact⟨k0,zs,by simp only[ah (hk p h1)];exact k1,EE.agr (Agr.refl _ w) (fun b _ hb=>hX b hb) (fun j hj=>ah (sb hk0 hj)) k2⟩
 ·obtain⟨p,hp,e⟩:=hb;rcases bI.1 hp with h1|h1
  ·subst h1;simp[Value.ownBlock]at e
  ·simp only[ah (hk p h1)]at e;exact h.nw b ⟨p,h1,e⟩
 ·rcases bI.1 hp with h1|h1<;>rcases bI.1 hp' with h1'|h1'
  ·subst h1;subst h1';exact hne rfl
  ·subst h1;simp[Value.ownBlock]at e
  ·subst h1';simp[Value.ownBlock]at e'
  ·simp only[ah (hk p h1),ah (hk p' h1')]at e e';exact h.dj p h1 p' h1' hne b e e'
 ·rcases bI.1 hp with h1|h1<;>rcases bI.1 hp' with h1'|h1'
  ·rw[h1,h1']
  ·subst h1;exact absurd e.symm (hk p' h1')
  ·subst h1';exact absurd e (hk p h1)
  ·exact h.un p h1 p' h1' e
def yH:Nat->List D->D
 |0,[d]=>.pt d
 |_,_=>.any
theorem Cu(off:Nat)(l:List D):(∃d,off=0/\l=[d]/\yH off l= .pt d)\/yH off l= .any:=by
 match off,l with
 |0,[d]=>exact .inl ⟨d,rfl,rfl,rfl⟩
 |0,[]=>exact .inr rfl
 |0,_::_::_=>exact .inr rfl
 |_+1,_=>exact .inr rfl
def lk(k wd:Nat)(l:List D)(d:D):D:=
 match d with
 | .own j=>match Nat.beq j k with
  |true=>.ls wd l
  |false=>.own j
 | .opt j off=>match Nat.beq j k with
  |true=>yH off l
  |false=>.opt j off
 |d=>d
def shut(k wd:Nat)(l:List D):List (Nat×D)->List (Nat×D)
 |[]=>[]
 |(t,d)::r=>(t,lk k wd l d)::shut k wd l r
theorem qY(k wd:Nat)(l:List D):∀(r:List (Nat×D)) (t:Nat),look (shut k wd l r) t=lk k wd l (look r t)
 |[],t=>rfl
 |(u,d)::r,t=>by
  simp only[shut,look];split
  ·rfl
  ·exact qY k wd l r t
def eR(k:Nat):List (Nat×Ow)->List (Nat×Ow)
 |[]=>[]
 |p::l=>if p.1=k then eR k l else p::eR k l
theorem eG{k:Nat}:∀{l:List (Nat×Ow)} {p:Nat×Ow},p∈eR k l->p∈l/\p.1≠k
 |q::l,p,h=>by
  simp only[eR]at h;split at h
  ·have:=eG h;exact⟨bz _ this.1,this.2⟩
  ·next hk=>
   rcases bI.1 h with h|h
   ·subst h;exact⟨br,hk⟩
   ·have:=eG h;exact⟨bz _ this.1,this.2⟩
 |[],p,h=>by simp[eR]at h
theorem Bh{k:Nat}{q:Ow}(hk:(k,q)∈s.ow)(hkh:hdr k=false):Sh X0 n s ⟨shut k q.wd q.l s.sl,eR k s.ow⟩:=fun w0 f a w h=>by
 refine⟨f,?_⟩;have hX:∀b,XO X0 ⟨shut k q.wd q.l s.sl,eR k s.ow⟩ f b->XO X0 s f b:=fun b hb=>by
  rcases hb with hb|⟨p,hp,e⟩
  ·exact .inl hb
  ·exact .inr ⟨p,(eG hp).1,e⟩
 refine⟨h.sz,h.df,h.bl,h.x0,h.xy,h.fx,fun p hp b e=>h.lo p (eG hp).1 b e,fun u=>?_,fun p hp=>?_,fun b ⟨p,hp,e⟩=>h.nw b ⟨p,(eG hp).1,e⟩,fun p hp p' hp' hne b e e'=>h.dj p (eG hp).1 p' (eG hp').1 hne b e e',fun p hp p' hp' e=>h.un p (eG hp).1 p' (eG hp').1 e⟩
 ·show SR _ _ _ (look _ u) _;rw[qY];have h1:=h.sl u;show SR _ _ _ (lk k q.wd q.l (s.gt u)) _;obtain⟨hw0,xs,⟨_,h10⟩,h11'⟩:=h.ow _ hk;have h11:=h11'.pl hkh;have hg:∀g n c,f k= .slice (some ⟨g,0,none⟩) n c->¬XO X0 ⟨shut k q.wd q.l s.sl,eR k s.ow⟩ f g:=fun g n c e hx=>by
   rcases hx with hx|⟨p,hp,e3⟩
   ·have:=(h.x0 g hx).1;rcases h.lo _ hk g (by simp only[e];rfl)with h1|h1
    ·omega
    ·exact h.xy g hx h1
   ·have:=eG hp;exact h.dj p this.1 _ hk this.2 g e3 (by simp only[e];rfl)
  have hE:=Els.agr (X':=XO X0 ⟨shut k q.wd q.l s.sl,eR k s.ow⟩ f) (Agr.refl _ w) (fun b _ hb=>hX b hb) h11;have hr:∀g cap cur,w.heap[g]?=some (.cells cur q.T (0,0))->cur.toList.take (q.l.length*q.wd)=xs->cur.size=cap*q.wd->q.l.length<=cap->w.rangeAt g 0 xs:=fun g cap cur hgg htk hsz hle j v hj=>by
   rw[cell_of_row w g _ cur _ (0,0) hgg,bQ];have hj2:=(cw.1 hj).1;rw[<-htk,aP]at hj2;rw[<-htk,fS aa,dE]at hj;exact hj
  cases hd:s.gt u with
  |own j=>
   rw[hd]at h1;simp only[lk]
   cases hb:Nat.beq j k with
   |false=>exact h1
   |true=>
    have e2:=dn hb;subst e2;simp only[SR]at h1;simp only[SR,AR];rcases h10 with⟨h12,h13⟩|⟨g,cap,cur,h12,hb,hgg,hle,hm,hsz,htk⟩
    ·simp only at h13;exact⟨none,0,by rw[h1,h12,h13],by omega,.inl (gu h13)⟩
    ·exact⟨_,cap,by rw[h1,h12],hle,.inr ⟨g,0,rfl,hg g _ _ h12,(dz.1 hgg).1,Els.ars hE (hr g cap cur hgg htk hsz hle)⟩⟩
  |opt j off=>
   rw[hd]at h1;simp only[lk]
   cases hb:Nat.beq j k with
   |false=>exact h1
   |true=>
    have e2:=dn hb;subst e2;simp only[SR]at h1;obtain⟨g,n',c',e3,e4⟩:=h1;show SR _ _ _ (yH off q.l) _;rcases Cu off q.l with⟨d,ho,hl,hod⟩|hod
    ·subst ho;rw[hod];rcases h10 with⟨h12,h13⟩|⟨g',cap,cur,h12,hb,hgg,hle,hm,hsz,htk⟩
     ·simp only at h12;rw[e3]at h12;cases h12
     ·simp only at h12;rw[e3]at h12;cases h12;have hR:=hr g _ cur hgg htk hsz hle;simp only[hl]at hE;obtain⟨u',rest,k1,k2,k3,k4,k5,k6⟩:=hE;simp only[SR,AR];refine⟨g,0,u',e4,hg g _ _ e3,(dz.1 hgg).1,k2,fun i v hi=>hR i v ?_⟩;rw[k1,et (cw.1 hi).1];exact hi
    ·rw[hod];exact SR.any
  |_=>rw[hd]at h1;exact AR.free h1 (fun b _ hb=>hX b hb)
 ·obtain⟨k0,zs,k1,k2⟩:=h.ow p (eG hp).1;exact⟨k0,zs,k1,EE.agr (Agr.refl _ w) (fun b _ hb=>hX b hb) (fun _ _=>rfl) k2⟩
theorem MY{sl:List (Nat×D)}(h:∀p∈sl,s.gt p.1=p.2):Sh X0 n s ⟨sl,s.ow⟩:=fun w0 f a w hd=>
 ⟨f,hd.sz,hd.df,hd.bl,hd.x0,hd.xy,hd.fx,hd.lo,fun u=>by
  have key:∀l:List (Nat×D),(∀p∈l,s.gt p.1=p.2)->look l u= .any\/look l u=s.gt u:=fun l=>by
   induction l with
   |nil=>intro _;exact .inl rfl
   |cons p l ih=>
    intro hl;obtain⟨t,d⟩:=p;simp only[look];split
    ·next e=>exact .inr (by rw[<-e];exact(hl _ br).symm)
    ·exact ih fun p hp=>hl p (bz _ hp)
  show SR _ _ _ (look sl u) _;rcases key sl h with e|e
  ·rw[e];exact SR.any
  ·rw[e];exact hd.sl u,hd.ow,hd.nw,hd.dj,hd.un⟩
def aQ:Nat->List D->List (Nat×D)
 |_,[]=>[]
 |k,d::l=>(k,d)::aQ (k+1) l
inductive nV(P:Program)(s:S):ResultVar->D->Prop
 |tmp (t:Tmp) (h1:(s.gt t).seen=true):nV P s (.tmp t) (s.gt t)
 |cell (t:Tmp) (ty:TypeId) (d:D) (h1:s.gt t= .pt d) (h2:d.fits=true) (hz:(P.info? ty).map (·.size)=some d.wd) (hg:(P.underlying ty).map TypeDesc.isRow=some d.agg):nV P s (.cell t ty) d
inductive Res(P:Program)(fn:Func)(s:S):D->Prop
 |none (h:fn.results= #[]):Res P fn s (.tp [])
 |one (v:ResultVar) (d:D) (h:fn.results= #[v]) (h1:nV P s v d):Res P fn s d
 |two (v v2:ResultVar) (d d2:D) (h:fn.results= #[v,v2]) (h1:nV P s v d) (h2:nV P s v2 d2):Res P fn s (.tp [d,d2])
 |three (v v2 v3:ResultVar) (d d2 d3:D) (h:fn.results= #[v,v2,v3]) (h1:nV P s v d) (h2:nV P s v2 d2) (h3:nV P s v3 d3):Res P fn s (.tp [d,d2,d3])
def fin(P:Program)(X0:Nat->Prop)(n:Nat)(fn:Func)(r:D):Exit->S->Prop
 | .normal,s=>∃s',Sh X0 n s s'/\Res P fn s' r
 | .ret,s=>∃s',Sh X0 n s s'/\Res P fn s' r
 |_,_=>False
theorem ns:∀(l:List D) (k t:Nat),look (aQ k l) t=if k<=t then(l[t-k]?).getD .any else .any
 |[],k,t=>by simp[aQ,look]
 |d::l,k,t=>by
  simp only[aQ,look];by_cases h:k=t
  ·rw[aj h,aj aa,show t-k=0 by omega];rfl
  ·rw[ah h,ns l (k+1) t];by_cases h2:k+1<=t
   ·rw[aj h2,aj aa,show t-k=(t-(k+1))+1 by omega,List.getElem?_cons_succ]
   ·rw[ah h2,ah aa]
theorem Ax{w0:Bs}{f:Nat->Value}{a:Act}{w:World}{fn:Func}{r:D}(h:Hd X0 n w0 s f a w)(h3:Res P fn s r):∃v,(results fn a.tmps).run P w= .ok v w/\AR (XO X0 s f) w r v:=by
 have hsr:∀t,(s.gt t).seen=true->AR (XO X0 s f) w (s.gt t) (a.tmps.getD t undef):=fun t hs=>by
  have h5:=h.sl t;have h6:AR (XO X0 s f) w (s.gt t) (a.tmps.getD t undef):=by
   cases hg:s.gt t<;>rw[hg]at h5 hs<;>first|exact h5|simp[D.seen]at hs
  exact h6
 have hvar:∀v d,nV P s v d->∃u,(∃sm:Sem Value,sm.run P w= .ok u w/\((∃t,v= .tmp t/\a.tmps[t]?.getD undef=u)\/(∃t ty ad,v= .cell t ty/\a.tmps[t]?.getD undef= .pointer (some ad)/\(loadVar ty ad).run P w= .ok u w)))/\AR (XO X0 s f) w d u:=fun v d hv=>by
  cases hv with
  |tmp t h1=>exact⟨_,⟨pure _,rfl,.inl ⟨t,rfl,(cn ..).symm⟩⟩,hsr t h1⟩
  |cell t ty d h1 h2 hz hg=>
   have h6:=hsr t (by rw[h1];rfl);rw[h1]at h6;simp only[AR]at h6;obtain⟨b,o,u,e1,_,_,k1,k2⟩:=h6;have:=th (P:=P) k1 h2 k2 hz hg;rw[CH]at this;rw[cn]at e1;exact⟨u,⟨pure _,rfl,.inr ⟨t,ty,_,rfl,e1,this⟩⟩,k1⟩
 cases h3 with
 |none h5=>exact⟨.tuple #[],by simp[results,h5],by simp only[AR];exact⟨_,rfl,by simp only[ATp]⟩⟩
 |one v d h5 h6=>
  obtain⟨u,⟨_,_,k1⟩,k2⟩:=hvar v _ h6;refine⟨u,?_,k2⟩;unfold results;rw[h5];rcases k1 with⟨t,rfl,e1⟩|⟨t,ty,ad,rfl,e1,e2⟩<;>simp[*,asAddr]
 |two v v2 d d2 h5 h6 h7=>
  obtain⟨u,⟨_,_,k1⟩,k2⟩:=hvar v _ h6;obtain⟨u2,⟨_,_,k3⟩,k4⟩:=hvar v2 _ h7;refine⟨.tuple #[u,u2],?_,?_⟩
  ·unfold results;rw[h5];rcases k1 with⟨t,rfl,e1⟩|⟨t,ty,ad,rfl,e1,e2⟩<;>rcases k3 with⟨t',rfl,e3⟩|⟨t',ty',ad',rfl,e3,e4⟩<;>simp[*,asAddr]
  ·simp only[AR];refine⟨_,rfl,?_⟩;simp only[ATp];exact⟨_,_,rfl,k2,_,_,rfl,k4,rfl⟩
 |three v v2 v3 d d2 d3 h5 h6 h7 h8=>
  obtain⟨u,⟨_,_,k1⟩,k2⟩:=hvar v _ h6;obtain⟨u2,⟨_,_,k3⟩,k4⟩:=hvar v2 _ h7;obtain⟨u3,⟨_,_,k5⟩,k6⟩:=hvar v3 _ h8;refine⟨.tuple #[u,u2,u3],?_,?_⟩
  ·unfold results;rw[h5];rcases k1 with⟨t,rfl,e1⟩|⟨t,ty,ad,rfl,e1,e2⟩<;>rcases k3 with⟨t',rfl,e3⟩|⟨t',ty',ad',rfl,e3,e4⟩<;>rcases k5 with⟨t'',rfl,e5⟩|⟨t'',ty'',ad'',rfl,e5,e6⟩<;>simp[*,asAddr]
  ·simp only[AR];refine⟨_,rfl,?_⟩;simp only[ATp];exact⟨_,_,rfl,k2,_,_,rfl,k4,_,_,rfl,k6,rfl⟩
theorem Mh{g:FuncId}{fn:Func}{c:Code}{ds:List D}{r:D}(hf:P.funcs[g]?=some fn)(hb:fn.body=some c)(hn:ds.length<=fn.ntmps)(hds:ds.all D.seen=true)
  (h:∀X0,aW P X0 fn.ntmps c (fin P X0 fn.ntmps fn r) ⟨aQ 0 ds,[]⟩):Fun P g ds r:=fun X w vs hX hv=>by
 have hlen:∀(ds:List D) (vs:List Value),ATp X w ds vs->vs.length=ds.length:=fun ds=>by
  induction ds with
  |nil=>intro vs h;simp only[ATp]at h;rw[h];rfl
  |cons d ds ih=>intro vs h;simp only[ATp]at h;obtain⟨u,rest,rfl,_,h3⟩:=h;simp[ih rest h3]
 have hl:=hlen ds _ hv;simp only[bJ]at hl;have hd:Hd X fn.ntmps ⟨w,fun _=>False,fun _=>undef⟩ ⟨aQ 0 ds,[]⟩ (fun _=>undef) {tmps:=vs++Array.replicate (fn.ntmps-vs.size) undef,defers:=[]} w:=by
  have hXX:∀b,XO X ⟨aQ 0 ds,[]⟩ (fun _=>undef) b->X b:=fun b hb=>by
   rcases hb with hb|⟨p,hp,_⟩
   ·exact hb
   ·cases hp
  refine⟨by simp;omega,rfl,Gr.refl _ _,hX,fun _ _ h=>h,fun _ _=>rfl,fun p hp=>by(cases hp),fun t=>?_,fun p hp=>by(cases hp),fun b hb=>?_,fun p hp=>by(cases hp),fun p hp=>by(cases hp)⟩
  ·show SR _ _ _ (look (aQ 0 ds) t) _;rw[ns,aj (aO _),iV]
   cases hd:ds[t]? with
   |none=>exact SR.any
   |some d=>
    have hd1:d.seen=true:=by rw[fD]at hds;exact hds d (bh hd)
    obtain⟨u,k1,k2⟩:=ATp.at hv hd;have k1':vs[t]?=some u:=by simpa using k1
    have hlt:=(dz.1 k1').1;have e:(vs++Array.replicate (fn.ntmps-vs.size) undef).getD t undef=u:=by
     rw[cn,nK hlt,k1'];rfl
    show SR _ _ _ d (Array.getD _ t undef);rw[e];have k3:=AR.free k2 (fun b _ hb=>hXX b hb);cases d<;>first|exact k3|simp[D.seen]at hd1
  ·obtain⟨p,hp,_⟩:=hb;cases hp
 have key:∀s' f' a w',Hd X fn.ntmps ⟨w,fun _=>False,fun _=>undef⟩ s' f' a w'->(∃s'',Sh X fn.ntmps s' s''/\Res P fn s'' r)->a.defers=[]/\∃v,(results fn a.tmps).run P w'= .ok v w'/\(∃u,Ending.returned v= .returned u/\AR X w' r u/\Below w.heap.size w w'):=fun s' f' a w' h1 ⟨s'',h2,h3⟩=>by
  obtain⟨f'',h4⟩:=h2 _ f' a w' h1;have hbl:Below w.heap.size w w':=⟨h4.bl.os,h4.bl.tape,h4.bl.output,h4.bl.size,fun b hb=>h4.bl.block b hb id⟩;refine⟨h4.df,?_⟩;obtain⟨v,h5,h6⟩:=Ax h4 h3;exact⟨v,h5,v,rfl,AR.free h6 (fun b _ hb=>.inl hb),hbl⟩
 refine calls_of_wp hf hb (Code.wp_mono (fun e a w' ⟨s',f',h1,h2⟩=>?_) (h X _ (fun _=>undef) _ w hd));cases e<;>simp only[fin]at h2<;>simp only[bodyPost]
 ·exact key s' f' a w' h1 h2
 ·exact key s' f' a w' h1 h2
end
end DW
end
section
open Go.RowKit
namespace DW
def fo:List (Nat×Option Nat)->Nat->Option Nat
 |[],_=>none
 |(u,d)::l,t=>if u=t then d else fo l t
def lE(dst:Option Tmp)(v:Option Nat)(src:List (Nat×Option Nat)):List (Nat×Option Nat):=
 match dst with
 |some t=>(t,v)::src
 |none=>src
def lQ(o:Oper)(src:List (Nat×Option Nat)):Bool:=o.op.operands.toList.all fun x=>
 match x with
 | .tmp t=>match fo src t with
  |none=>true
  |some u=>Own3.ue .any o u
 |_=>true
def eh(ops:Array Oper)(src:List (Nat×Option Nat))(s:S)(o:Oper)(b:Bool):Prop:=
 match o.guard with
 |none=>b=true
 |some (j,c)=>∃t e,(ops[j]?).bind (·.dst)=some t/\fo src t=none/\s.gt t= .sc (.bool e)/\b=(e==c)
def okD:D->Bool
 | .sc v=>v.oneCell'
 |_=>true
def lC(d:D)(k:Nat):Option Nat:=if d.pK then none else some k
def eC(P:Program)(n:Nat)(ops:Array Oper):List Oper->Nat->List (Nat×Option Nat)->S->(S->Prop)->Prop
 |[],_,_,s,K=>K s
 |o::l,k,src,s,K=>
  (∃d,eh ops src s o true/\lQ o src=true/\cP n o=true/\okD d=true/\bp P o s d/\eC P n ops l (k+1) (lE o.dst (lC d k) src) (s.put o.dst d) K)\/
  (eh ops src s o false/\cP n o=true/\eC P n ops l (k+1) (lE o.dst none src) (s.put o.dst .any) K)
section
variable {P : Program} {X0 : Nat->Prop} {n : Nat} {Q : Exit->S->Prop} {s : S}
theorem aS{ops:Array Oper}{k:Nat}{src:List (Nat×Option Nat)}{K:S->Prop}(h:K s):eC P n ops [] k src s K:=h
theorem Dk{ops:Array Oper}{o:Oper}{l:List Oper}{k:Nat}{src:List (Nat×Option Nat)}{K:S->Prop}{d:D}(hg:o.guard=none)(hp:lQ o src=true)(ht:cP n o=true)(ho:okD d=true)(hd:bp P o s d)(h:eC P n ops l (k+1) (lE o.dst (lC d k) src) (s.put o.dst d) K):eC P n ops (o::l) k src s K:=
 .inl ⟨d,by simp[eh,hg],hp,ht,ho,hd,h⟩
theorem Dh{ops:Array Oper}{o:Oper}{l:List Oper}{k j:Nat}{c:Bool}{t:Nat}{src:List (Nat×Option Nat)}{K:S->Prop}{d:D}(hg:o.guard=some (j,c))(hj:(ops[j]?).bind (·.dst)=some t)(hs:fo src t=none)(hc:s.gt t= .sc (.bool c))(hp:lQ o src=true)(ht:cP n o=true)(ho:okD d=true)(hd:bp P o s d)(h:eC P n ops l (k+1) (lE o.dst (lC d k) src) (s.put o.dst d) K):eC P n ops (o::l) k src s K:=
 .inl ⟨d,by simp only[eh,hg];exact⟨t,c,hj,hs,hc,by simp⟩,hp,ht,ho,hd,h⟩
theorem Di{ops:Array Oper}{o:Oper}{l:List Oper}{k j:Nat}{c:Bool}{t:Nat}{src:List (Nat×Option Nat)}{K:S->Prop}(hg:o.guard=some (j,c))(hj:(ops[j]?).bind (·.dst)=some t)(hs:fo src t=none)(hc:s.gt t= .sc (.bool (!c)))(ht:cP n o=true)(h:eC P n ops l (k+1) (lE o.dst none src) (s.put o.dst .any) K):eC P n ops (o::l) k src s K:=
 .inr ⟨by simp only[eh,hg];exact⟨t,!c,hj,hs,hc,by cases c<;>rfl⟩,ht,h⟩
structure HI(X:Nat->Prop)(n:Nat)(W:World)(f:Nat->Value)(F:Own3.Fs)(src:List (Nat×Option Nat))(s:S)(a:Act):Prop where
 sz:a.tmps.size=n
 df:a.defers=[]
 none':∀t,fo src t=none->SR X f W (s.gt t) (a.tmps.getD t undef)
 some':∀t u,fo src t=some u->F u (fun w=>SR X f w (s.gt t) (a.tmps.getD t undef))
theorem HI.put{X:Nat->Prop}{W:World}{f:Nat->Value}{F:Own3.Fs}{src:List (Nat×Option Nat)}{a:Act}(h:HI X n W f F src s a){dst:Option Tmp}(ht:∀t,dst=some t->t<n){d:D}{v:Value}{k:Option Nat}{F':Own3.Fs}(hF:∀u p,F u p->F' u p)
  (h0:k=none->SR X f W d v) (h1:∀u,k=some u->F' u (fun w=>SR X f w d v)):HI X n W f F' (lE dst k src) (s.put dst d) (a.put dst v):=by
 cases dst with
 |none=>exact⟨h.sz,h.df,h.none',fun t u e=>hF _ _ (h.some' t u e)⟩
 |some t=>
  refine⟨by simp[Act.put,h.sz],h.df,fun u e=>?_,fun u j e=>?_⟩
  ·rw[kT (by rw[h.sz];exact ht t rfl)];show SR X f W (look ((t,d)::s.sl) u) _;simp only[lE,fo]at e;simp only[look];split
   ·next e2=>rw[aj e2]at e;exact h0 e
   ·next e2=>rw[ah e2]at e;exact h.none' u e
  ·rw[kT (by rw[h.sz];exact ht t rfl)];show F' j (fun w=>SR X f w (look ((t,d)::s.sl) u) _);simp only[lE,fo]at e;simp only[look];by_cases e2:t=u
   ·rw[aj e2]at e;simp only[aj e2];exact h1 j e
   ·rw[ah e2]at e;simp only[ah e2];exact hF _ _ (h.some' u j e)
theorem HI.op{X:Nat->Prop}{W w:World}{f:Nat->Value}{F:Own3.Fs}{src:List (Nat×Option Nat)}{a:Act}(h:HI X n W f F src s a){o:Oper}(hp:lQ o src=true)(hw:Own3.CF W (Own3.res .any o F) w)(x:Operand)(hx:x∈o.op.operands):SR X f w (s.op x) (a.eval x):=by
 have h1:_:=fD.1 hp x (by simpa using hx)
 cases x with
 |tmp t=>
  simp only at h1
  cases hs:fo src t with
  |none=>exact(h.none' t hs).grow hw.1
  |some u=>
   rw[hs]at h1;exact hw.get (u:=u) ⟨h.some' t u hs,h1⟩
 |const v=>exact hH v
 |global g=>exact SR.any
 |func g=>exact⟨rfl,rfl⟩
theorem HI.want{X:Nat->Prop}{W:World}{f:Nat->Value}{F:Own3.Fs}{src:List (Nat×Option Nat)}{a:Act}(h:HI X n W f F src s a){ops:Array Oper}{o:Oper}{b:Bool}(hw:eh ops src s o b):Region.wanted o (yielded ops a.tmps)=b:=by
 unfold eh at hw;unfold Region.wanted
 cases hg:o.guard with
 |none=>rw[hg]at hw;simp only at hw⊢;exact hw.symm
 |some p=>
  obtain⟨j,c⟩:=p;rw[hg]at hw;simp only at hw⊢;obtain⟨t,e,h1,h2,h3,rfl⟩:=hw;have h4:=h.none' t h2;rw[h3]at h4;simp only[SR,AR]at h4;have h5:a.tmps[t]?=some (.bool e):=by
   have:=h4.1;rw[cn]at this
   cases h6:a.tmps[t]? with
   |none=>rw[h6]at this;simp[undef]at this
   |some v=>rw[h6]at this;simp at this;rw[this]
  unfold yielded;rw[h1];simp only[qF,h5];cases e<;>cases c<;>rfl
def Cr(X:Nat->Prop)(f:Nat->Value)(d:D):Own3.Rel:=⟨Value,undef,id,fun u w=>SR X f w d u,fun _ _ _ h hb=>h.grow hb⟩
theorem J3{X:Nat->Prop}{f:Nat->Value}{w:World}{d:D}{r:Result Next}(h:mH P X f w d r):Own3.vJ P w (Cr X f d) r:=by
 cases r with
 |halt x w'=>simp only[mH]at h
 |ok x w'=>
  cases x<;>simp only[mH]at h
  case value u=>exact⟨u,rfl,h.1,h.2.1⟩
  case enter g args=>exact⟨h.1,h.2.mono fun e w'' ⟨u,k1,k2,k3⟩=>⟨u,k1,k2,k3⟩⟩
theorem EI{X:Nat->Prop}{f:Nat->Value}{w:World}{v:Value}{r:Result Next}(h:mH P X f w (.sc v) r):oC P w v r:=by
 cases r with
 |halt x w'=>simp only[mH]at h
 |ok x w'=>
  cases x<;>simp only[mH]at h
  case value u=>
   simp only[SR,AR]at h;exact⟨h.2.2 rfl,h.1.1⟩
  case enter g args=>
   refine⟨h.1,h.2.mono fun e w'' ⟨u,k1,k2,k3⟩=>?_⟩;simp only[SR,AR]at k2;exact⟨by rw[k1,k2.1],k3⟩
def uX(P:Program)(n:Nat)(ops:Array Oper):List Oper->Nat->List (Nat×Option Nat)->S->List (Option D)->S->Prop
 |[],_,_,s,ds,s'=>ds=[]/\s=s'
 |o::l,k,src,s,ds,s'=>
  match ds with
  |[]=>False
  |some d::ds=>eh ops src s o true/\lQ o src=true/\cP n o=true/\okD d=true/\bp P o s d/\uX P n ops l (k+1) (lE o.dst (lC d k) src) (s.put o.dst d) ds s'
  |none::ds=>eh ops src s o false/\cP n o=true/\uX P n ops l (k+1) (lE o.dst none src) (s.put o.dst .any) ds s'
theorem tv{ops:Array Oper}{K:S->Prop}:∀(l:List Oper) (k:Nat) (src:List (Nat×Option Nat)) (s:S),eC P n ops l k src s K->∃ds s',uX P n ops l k src s ds s'/\K s'
 |[],k,src,s,h=>⟨[],s,⟨rfl,rfl⟩,h⟩
 |o::l,k,src,s,h=>by
  rcases h with⟨d,h1,h2,h3,h4,h5,h6⟩|⟨h1,h3,h5⟩
  ·obtain⟨ds,s',k1,k2⟩:=tv l _ _ _ h6;exact⟨some d::ds,s',⟨h1,h2,h3,h4,h5,k1⟩,k2⟩
  ·obtain⟨ds,s',k1,k2⟩:=tv l _ _ _ h5;exact⟨none::ds,s',⟨h1,h3,k1⟩,k2⟩
def vC(X:Nat->Prop)(f:Nat->Value):Option D->Value⊕Own3.Rel
 |none=>.inl undef
 |some (.sc v)=>.inl v
 |some d=>.inr (Cr X f d)
theorem ll{X:Nat->Prop}{W:World}{f:Nat->Value}{base:Nat}(hX:XW X W){ops:Array Oper}{ow:List (Nat×Ow)}(how:∀p∈ow,OW X f W base p){s':S}{S':Nat->Value⊕Own3.Rel}:
  ∀(l:List Oper) (k:Nat) (src:List (Nat×Option Nat)) (s:S) (ds:List (Option D)) (F:Own3.Fs) (a:Act),s.ow=ow->uX P n ops l k src s ds s'->HI X n W f F src s a->
   (∀j,j<l.length->S' (k+j)=vC X f (ds.getD j none))->Own3.kR P .any ops W S' (fun F' a'=>∃src',s'.ow=ow/\HI X n W f F' src' s' a') l k F a
 |[],k,src,s,ds,F,a,ho,h,hi,_=>by
  obtain⟨_,rfl⟩:=h;exact⟨src,ho,hi⟩
 |o::l,k,src,s,[],F,a,ho,h,hi,hS=>h.elim
 |o::l,k,src,s,some d::ds,F,a,ho,h,hi,hS=>by
  have hpo:∀(dst:Option Tmp) (d:D),(s.put dst d).ow=ow:=fun dst d=>by cases dst<;>exact ho
  obtain⟨h1,h2,h3,hok,h4,h5⟩:=h;have hD:∀w,Own3.CF W (Own3.res .any o F) w->mH P X f w d ((execOp a.eval o).run P w):=fun w hw=>
   h4 X f a w base (hX.grow hw.1) (fun p hp=>(how p (by rw[<-ho];exact hp)).grow hw.1) (fun x hx=>hi.op h2 hw x hx)
  have e0:S' k=vC X f (some d):=by have:=hS 0 aU;simpa using this
  have hS':∀j,j<l.length->S' (k+1+j)=vC X f (ds.getD j none):=fun j hj=>by
   have:=hS (j+1) dK;rw[show k+1+j=k+(j+1) by omega,this];rfl
  by_cases hsc:d.pK=true
  ·obtain⟨v,rfl⟩:∃v,d= .sc v:=by cases d<;>simp[D.pK]at hsc;exact⟨_,rfl⟩
   have hi':HI X n W f F (lE o.dst (lC (.sc v) k) src) (s.put o.dst (.sc v)) (a.put o.dst v):=hi.put (iL h3) (fun _ _ h=>h) (fun _=>⟨rfl,hok⟩) (fun u e=>by simp[lC,D.pK]at e);refine Own3.pI e0 fun K' hK=>?_;rw[aj (hi.want h1)];exact⟨fun w _ hw=>EI (hD w hw),hK _ (ll hX how l (k+1) _ _ ds F _ (hpo _ _) h5 hi' hS')⟩
  ·have hns:lC d k=some k:=by simp[lC,hsc]
   have e1:S' k= .inr (Cr X f d):=by rw[e0];cases d<;>first|rfl|simp[D.pK]at hsc
   refine Own3.jv e1 (fun K' hK=>?_) (fun x=>?_)
   ·rw[aj (hi.want h1)];exact fun w _ hw=>J3 (hD w hw)
   ·exact ll hX how l (k+1) _ _ ds _ _ (hpo _ _) h5 (hi.put (iL h3) (fun _ _ h=>.inr h) (fun e=>by rw[hns]at e;cases e) (fun u e=>by rw[hns]at e;cases e;exact .inl ⟨rfl,rfl⟩)) hS'
 |o::l,k,src,s,none::ds,F,a,ho,h,hi,hS=>by
  have hpo:∀(dst:Option Tmp) (d:D),(s.put dst d).ow=ow:=fun dst d=>by cases dst<;>exact ho
  obtain⟨h1,h3,h5⟩:=h;have hi':HI X n W f F (lE o.dst none src) (s.put o.dst .any) (a.put o.dst undef):=hi.put (iL h3) (fun _ _ h=>h) (fun _=>SR.any) (fun u e=>by cases e);have e0:S' k= .inl undef:=by have:=hS 0 aU;simpa[vC]using this
  refine Own3.pI e0 fun K' hK=>?_;rw[ah (by rw[hi.want h1];simp)];refine⟨rfl,hK _ (ll hX how l (k+1) _ _ ds F _ (hpo _ _) h5 hi' fun j hj=>?_)⟩;have:=hS (j+1) dK;rw[show k+1+j=k+(j+1) by omega,this];rfl
theorem ao{id:Nat}{l:List Oper}(k:Nat)(hm:P.follows .mixedOrders=true)(hB:Region.lexTailB .any l.toArray k=true)(h:eC P n l.toArray (l.take k) 0 [] s (aL P X0 n l.toArray (l.drop k) (Q .normal))):aW P X0 n (.region id l.toArray true) Q s:=fun w0 f a w hd=>by
 obtain⟨ds,s',h1,h2⟩:=tv _ _ _ _ h;have hi:HI (XO X0 s f) n w f Own3.Fs.none [] s a:=⟨hd.sz,hd.df,fun t _=>hd.sl t,fun t u e=>by simp[fo]at e⟩;have hlen:(l.take k).length<=l.length:=by rw[aP];omega
 refine Own3.kH k (ds.map (vC (XO X0 s f) f)) hm hB ?_;have key:=ll hd.xlt hd.ow (l.take k) 0 [] s ds Own3.Fs.none a rfl h1 hi (S':=fun i=>(ds.map (vC (XO X0 s f) f)).getD i (.inl undef)) fun j _=>by
  simp only[bQ,aF,db];cases ds[j]?<;>rfl
 have mono:∀(l:List Oper) (k:Nat) (F:Own3.Fs) (a:Act) (S':Nat->Value⊕Own3.Rel) (ops:Array Oper) (Q1 Q2:Own3.Fs->Act->Prop),(∀F a,Q1 F a->Q2 F a)->Own3.kR P .any ops w S' Q1 l k F a->Own3.kR P .any ops w S' Q2 l k F a:=fun l=>by
  induction l with
  |nil=>intro k F a S' ops Q1 Q2 h hh;exact h _ _ hh
  |cons o l ih=>
   intro k F a S' ops Q1 Q2 h hh;exact⟨hh.1,Own3.kd (fun F' v _ hK=>ih _ _ _ _ _ _ _ h hK) hh.2⟩
 refine mono _ _ _ _ _ _ _ _ (fun F' a' ⟨src',ho,hi'⟩ w' hw'=>?_) key;have hd0:=hd.grow hw'.1;have hXO:XO X0 s' f=XO X0 s f:=by unfold XO;rw[ho]
 refine h2 w0 f a' w' _ ⟨hi'.sz,hi'.df,hd0.bl,hd0.x0,hd0.xy,hd0.fx,by rw[ho];exact hd0.lo,fun t=>?_,?_,?_,?_,?_⟩ fun s'' f'' _ _ h3 h4=>⟨s'',f'',h3,h4⟩
 ·rw[hXO]
  cases hs:fo src' t with
  |none=>exact(hi'.none' t hs).grow hw'.1
  |some u=>exact hw'.get (hi'.some' t u hs)
 ·rw[hXO,ho];exact hd0.ow
 ·rw[ho];exact hd0.nw
 ·rw[ho];exact hd0.dj
 ·rw[ho];exact hd0.un
theorem Lb{ops:Array Oper}{o:Oper}{l:List Oper}{K:S->Prop}{j t:Nat}{c:Bool}(hg:o.guard=some (j,c))(hj:(ops[j]?).bind (·.dst)=some t)(hc:s.gt t= .sc (.bool (!c)))(ht:cP n o=true)(h:aL P X0 n ops l K (s.put o.dst .any)):aL P X0 n ops (o::l) K s:=fun w0 f a w Q hd hq=>by
 have hi:HI (XO X0 s f) n w f Own3.Fs.none [] s a:=⟨hd.sz,hd.df,fun t _=>hd.sl t,fun t u e=>by simp[fo]at e⟩;have hw:=hi.want (ops:=ops) (o:=o) (b:=false) (by simp only[eh,hg];exact⟨t,!c,hj,rfl,hc,by cases c<;>rfl⟩);refine wpList_step fun K' hK=>?_;rw[ah (by rw[hw];simp)];exact hK _ _ (h w0 f _ w Q (hd.put SR.any (iL ht)) hq)
theorem La{ops:Array Oper}{o:Oper}{l:List Oper}{K:S->Prop}{d:D}{j t:Nat}{c:Bool}(hg:o.guard=some (j,c))(hj:(ops[j]?).bind (·.dst)=some t)(hc:s.gt t= .sc (.bool c))(ht:cP n o=true)(hd:bp P o s d)(h:aL P X0 n ops l K (s.put o.dst d)):aL P X0 n ops (o::l) K s:=
 gQ fun w0 f a w _ hh=>by
  have hi:HI (XO X0 s f) n w f Own3.Fs.none [] s a:=⟨hh.sz,hh.df,fun t _=>hh.sl t,fun t u e=>by simp[fo]at e⟩;exact⟨hi.want (ops:=ops) (o:=o) (b:=true) (by simp only[eh,hg];exact⟨t,c,hj,rfl,hc,by simp⟩),Oper.wp_mono (fun _ _ h1=>⟨_,f,h1,h⟩) (pg hd hh ht)⟩
end
end DW
end
section
open Go.RowKit
namespace DW
section
variable {P : Program} {X0 : Nat->Prop} {n : Nat} {Q : Exit->S->Prop} {s : S} {sl : List (Nat × D)} {ow : List (Nat × Ow)} {o : Oper} {ops : Array Oper} {l : List Oper} {K : S->Prop} {t : Nat} {d : D} {k : Nat} {src : List (Nat × Option Nat)}
structure aC(P:Program)(X0:Nat->Prop)(n:Nat)(y:Code)(Q:Exit->S->Prop)(s:S):Prop where
 h:aW P X0 n y Q s
theorem Ht{x y:Code}(h:aW P X0 n x (nx (aC P X0 n y Q) Q) s):aW P X0 n (.seq x y) Q s:=fun w0 f a w hd=>
 wp_seq (Code.wp_mono (fun e a w ⟨s',f',h1,h2⟩=>by
  cases e with
  |normal=>exact h2.h w0 f' a w h1
  |_=>exact⟨s',f',h1,h2⟩) (h w0 f a w hd))
theorem nx_c{y:Code}{Q':Exit->S->Prop}(h:aW P X0 n y Q s):nx (aC P X0 n y Q) Q' .normal s:=⟨h⟩
theorem nx_e{K:S->Prop}{i:Nat}(h:Q (.exit i) s):nx K Q (.exit i) s:=h
theorem nx_r{K:S->Prop}(h:Q .ret s):nx K Q .ret s:=h
theorem in_n{id:Nat}(h:Q .normal s):inB id Q .normal s:=h
theorem in_r{id:Nat}(h:Q .ret s):inB id Q .ret s:=h
theorem in_e{id:Nat}(h:Q .normal s):inB id Q (.exit id) s:=by unfold inB;simp only[if_true];exact h
def uE:List (Nat×D)->Nat->D
 |[],_=>.any
 |(u,d)::l,t=>match Nat.beq u t with
  |true=>d
  |false=>uE l t
theorem tg:∀(l:List (Nat×D)) (t:Nat),look l t=uE l t
 |[],_=>rfl
 |(u,d)::l,t=>by
  simp only[look,uE]
  cases h:Nat.beq u t with
  |true=>rw[aj (dn h)]
  |false=>rw[ah (tY h)];exact tg l t
theorem bF(h:uE sl t=d):look sl t=d:=(tg sl t).trans h
theorem aw(h:uE sl t=d):S.op ⟨sl,ow⟩ (.tmp t)=d:=(tg sl t).trans h
theorem bW{q:IntKind}{z:Int}:S.op s (.const (.int q z))= .sc (.int q z):=rfl
theorem jD{b:Bool}:S.op s (.const (.bool b))= .sc (.bool b):=rfl
theorem jC:S.op s (.const (.slice none 0 0))= .sc (.slice none 0 0):=rfl
theorem aL1(hg:o.guard=none)(hdst:o.dst=some t)(ht:Nat.blt t n=true)(hd:bp P o ⟨sl,ow⟩ d)(h:aL P X0 n ops l K ⟨(t,d)::sl,ow⟩):aL P X0 n ops (o::l) K ⟨sl,ow⟩:=
 Lc hg vq hd (by rw[hdst];exact h)
theorem aLw{j u:Nat}{c:Bool}(hg:o.guard=some (j,c))(hdst:o.dst=some t)(ht:Nat.blt t n=true)(hj:(ops[j]?).bind (·.dst)=some u)(hc:look sl u= .sc (.bool c))(hd:bp P o ⟨sl,ow⟩ d)(h:aL P X0 n ops l K ⟨(t,d)::sl,ow⟩):aL P X0 n ops (o::l) K ⟨sl,ow⟩:=
 La hg hj hc vq hd (by rw[hdst];exact h)
theorem aLs{j u:Nat}{c:Bool}(hg:o.guard=some (j,c))(hdst:o.dst=some t)(ht:Nat.blt t n=true)(hj:(ops[j]?).bind (·.dst)=some u)(hc:look sl u= .sc (.bool (!c)))(h:aL P X0 n ops l K ⟨(t,.any)::sl,ow⟩):aL P X0 n ops (o::l) K ⟨sl,ow⟩:=
 Lb hg hj hc vq (by rw[hdst];exact h)
theorem aH1{v:Option Nat}(hg:o.guard=none)(hdst:o.dst=some t)(ht:Nat.blt t n=true)(hp:lQ o src=true)(ho:okD d=true)(hv:lC d k=v)(hd:bp P o ⟨sl,ow⟩ d)(h:eC P n ops l (k+1) ((t,v)::src) ⟨(t,d)::sl,ow⟩ K):eC P n ops (o::l) k src ⟨sl,ow⟩ K:=
 Dk hg hp vq ho hd (by rw[hdst,hv];exact h)
theorem aHw{j u:Nat}{c:Bool}{v:Option Nat}(hg:o.guard=some (j,c))(hdst:o.dst=some t)(ht:Nat.blt t n=true)(hj:(ops[j]?).bind (·.dst)=some u)(hs:fo src u=none)(hc:look sl u= .sc (.bool c))(hp:lQ o src=true)(ho:okD d=true)(hv:lC d k=v)(hd:bp P o ⟨sl,ow⟩ d)(h:eC P n ops l (k+1) ((t,v)::src) ⟨(t,d)::sl,ow⟩ K):eC P n ops (o::l) k src ⟨sl,ow⟩ K:=
 Dh hg hj hs hc hp vq ho hd (by rw[hdst,hv];exact h)
theorem eK{v:Option Nat}(hg:o.guard=none)(hdst:o.dst=some t)(ht:Nat.blt t n=true)(hp:lQ o src=true)(hd:bp P o ⟨sl,ow⟩ d)(ho:okD d=true)(hv:lC d k=v)(h:eC P n ops l (k+1) ((t,v)::src) ⟨(t,d)::sl,ow⟩ K):eC P n ops (o::l) k src ⟨sl,ow⟩ K:=aH1 hg hdst ht hp ho hv hd h
theorem nT{j u:Nat}{c:Bool}{v:Option Nat}(hg:o.guard=some (j,c))(hdst:o.dst=some t)(ht:Nat.blt t n=true)(hj:(ops[j]?).bind (·.dst)=some u)(hs:fo src u=none)(hc:look sl u= .sc (.bool c))(hp:lQ o src=true)(hd:bp P o ⟨sl,ow⟩ d)(ho:okD d=true)(hv:lC d k=v)(h:eC P n ops l (k+1) ((t,v)::src) ⟨(t,d)::sl,ow⟩ K):eC P n ops (o::l) k src ⟨sl,ow⟩ K:=aHw hg hdst ht hj hs hc hp ho hv hd h
theorem aHs{j u:Nat}{c:Bool}(hg:o.guard=some (j,c))(hdst:o.dst=some t)(ht:Nat.blt t n=true)(hj:(ops[j]?).bind (·.dst)=some u)(hs:fo src u=none)(hc:look sl u= .sc (.bool (!c)))(h:eC P n ops l (k+1) ((t,none)::src) ⟨(t,.any)::sl,ow⟩ K):eC P n ops (o::l) k src ⟨sl,ow⟩ K:=
 Di hg hj hs hc vq (by rw[hdst];exact h)
theorem aLapp{x y:Operand}{tt:TypeId}{kk:Nat}{q:Ow}{wd:Nat}{l2:List D}{sl':List (Nat×D)}{ow':List (Nat×Ow)}(hg:o.guard=none)(hdst:o.dst=some t)(ht:Nat.blt t n=true)
  (ho:o.op= .call {callee:=.builtin .append,args:=#[x,y],argTypes:=#[tt,tt]}) (hx:S.op ⟨sl,ow⟩ x= .own kk) (hy:S.op ⟨sl,ow⟩ y= .ls wd l2) (hk:(kk,q)∈ow) (hwd:wd=q.wd) (hl2:l2≠[]) (hn2:l2.all D.nw=true)
  (htt:P.underlying tt=some (.slice q.T)) (hI:(P.info? q.T).map (fun i=>(i.zero.map (·.cells.size),i.size,decide (i.bytes<=100000)))=some (some q.wd,q.wd,true)) (hlen:q.l.length+l2.length<=1000000000)
  (hs:kill kk sl=sl') (how:upd kk l2 ow=ow') (h:aL P X0 n ops l K ⟨(t,.own kk)::sl',ow'⟩) (hk0:Nat.blt kk 1000000=true:=by exact rfl):aL P X0 n ops (o::l) K ⟨sl,ow⟩:=
 FX hg hdst sQ ho hx hy hk hwd hl2 hn2 htt hI hlen (by subst hs;subst how;exact h) hk0
theorem Fz{x:Operand}(ho:o.op= .move x)(hx:s.op x=d):bp P o s d:=hx▸wN (.inl ho)
theorem pU{x:Operand}(ho:o.op= .assign x)(hx:s.op x=d):bp P o s d:=hx▸wN (.inr ho)
theorem d_len{x:Operand}{t:TypeId}{wd:Nat}{l:List D}(ho:o.op= .call {callee:=.builtin .len,args:=#[x],argTypes:=#[t]})(hx:s.op x= .ls wd l)(ht:P.underlying t=some (.slice (P.elem t))):bp P o s (.sc (.int .i64 (l.length:Int))):=zq ho hx ht
theorem Mv{α:Type}{f:α->D}{m:List α}{x:Operand}{t:TypeId}{wd:Nat}(ho:o.op= .call {callee:=.builtin .len,args:=#[x],argTypes:=#[t]})(hx:s.op x= .ls wd (m.map f))(ht:P.underlying t=some (.slice (P.elem t))):bp P o s (.sc (.int .i64 (m.length:Int))):=by
 have:=zq ho hx ht;rwa[aY]at this
theorem CY{α:Type}{f:α->D}{m:List α}{x:Operand}{t:TypeId}{k wd:Nat}{T:TypeId}(ho:o.op= .call {callee:=.builtin .len,args:=#[x],argTypes:=#[t]})(hx:s.op x= .own k)(hk:(k,(⟨T,wd,m.map f⟩:Ow))∈s.ow)(ht:P.underlying t=some (.slice (P.elem t))):bp P o s (.sc (.int .i64 (m.length:Int))):=by
 have:=zp (q:=⟨T,wd,m.map f⟩) ho hx hk ht;rwa[aY]at this
theorem zz{c x y:Operand}{b:Bool}(ho:o.op= .pick c x y)(hc:s.op c= .sc (.bool b))(hb:b=true)(hx:s.op x=d):bp P o s d:=by
 subst hx;subst hb;exact wM ho hc
theorem zA{c x y:Operand}{b:Bool}(ho:o.op= .pick c x y)(hc:s.op c= .sc (.bool b))(hb:b=false)(hy:s.op y=d):bp P o s d:=by
 subst hy;subst hb;exact wM ho hc
theorem Jj{x y:Operand}{tt tt':TypeId}{p q:Int}(ho:o.op= .binOp .add tt x y tt')(hx:s.op x= .sc (.int .i64 p))(hy:s.op y= .sc (.int .i64 q))(hb: -9223372036854775808<=p+q/\p+q<=9223372036854775807):bp P o s (.sc (.int .i64 (p+q))):=
 dT ho hx hy zb59
theorem Jf{x y:Operand}{tt tt':TypeId}{p q:Int}(ho:o.op= .binOp .sub tt x y tt')(hx:s.op x= .sc (.int .i64 p))(hy:s.op y= .sc (.int .i64 q))(hb: -9223372036854775808<=p-q/\p-q<=9223372036854775807):bp P o s (.sc (.int .i64 (p-q))):=
 dT ho hx hy zb59
theorem vU{g:FuncId}{x:Operand}{ts:Array TypeId}{d1 r:D}(ho:o.op= .call {callee:=.value (.func g),args:=#[x],argTypes:=ts})(hx:s.op x=d1)(hs:d1.seen=true)(hf:Go.Proofs.Enters P g/\Fun P g [d1] r)(hr:r.seen=true):bp P o s r:=
 nC (xs:=[x]) ho hf.1 (by simp[hx]) (by simp[hs]) hf.2 hr
theorem oI{g:FuncId}{x y:Operand}{ts:Array TypeId}{d1 d2 r:D}(ho:o.op= .call {callee:=.value (.func g),args:=#[x,y],argTypes:=ts})(hx:s.op x=d1)(hy:s.op y=d2)(hs:d1.seen=true)(hs2:d2.seen=true)(hf:Go.Proofs.Enters P g/\Fun P g [d1,d2] r)(hr:r.seen=true):bp P o s r:=
 nC (xs:=[x,y]) ho hf.1 (by simp[hx,hy]) (by simp[hs,hs2]) hf.2 hr
theorem vT{g:FuncId}{x y z:Operand}{ts:Array TypeId}{d1 d2 d3 r:D}(ho:o.op= .call {callee:=.value (.func g),args:=#[x,y,z],argTypes:=ts})(hx:s.op x=d1)(hy:s.op y=d2)(hz:s.op z=d3)(hs:d1.seen=true)(hs2:d2.seen=true)(hs3:d3.seen=true)(hf:Go.Proofs.Enters P g/\Fun P g [d1,d2,d3] r)(hr:r.seen=true):bp P o s r:=
 nC (xs:=[x,y,z]) ho hf.1 (by simp[hx,hy,hz]) (by simp[hs,hs2,hs3]) hf.2 hr
theorem KG{g:FuncId}{ts:Array TypeId}{r:D}(ho:o.op= .call {callee:=.value (.func g),args:=#[],argTypes:=ts})(hf:Go.Proofs.Enters P g/\Fun P g [] r)(hr:r.seen=true):bp P o s r:=
 nC (xs:=[]) ho hf.1 rfl rfl hf.2 hr
theorem uQ{x:Operand}{tt:TypeId}{wd:Nat}{b:Bool}(ho:o.op= .load tt x)(hx:s.op x= .pt d)(hf:d.fits=true)(hw:d.wd=wd)(ha:d.agg=b)(hz:(P.info? tt).map (·.size)=some wd)(hg:(P.underlying tt).map TypeDesc.isRow=some b):bp P o s d:=Fu ho hx hf (hw▸hz) (ha▸hg)
theorem Jh{x:Operand}{tt:TypeId}{wd:Nat}(ho:o.op= .buildSlice tt 1 #[(0,x)])(hx:s.op x=d)(hf:d.fits=true)(hw:d.wd=wd)(ht:P.underlying tt=some (.slice (P.elem tt)))(hz:(P.info? (P.elem tt)).map (fun i=>(i.zero.isSome,i.size))=some (true,wd))(h0:Nat.blt 0 wd=true)(h1:Nat.ble wd 1000000=true):bp P o s (.ls wd [d]):=by
 subst hw;exact He ho hx hf ht hz (by simpa[bf]using h0) (by simpa using h1)
theorem yI{α:Type}{f:α->D}{m:List α}(h:∀x,(f x).nw=true):(m.map f).all D.nw=true:=by
 rw[fD];intro d hd;obtain⟨x,_,rfl⟩:=iD.1 hd;exact h x
theorem Kc{m:List D}{k:Nat}(h:m.all D.nw=true):(m.take k).all D.nw=true:=by
 rw[fD]at h⊢;intro d hd;exact h d (rQ hd)
theorem gD{w:Nat}{l:List D}:(D.ls w l).wd=1:=rfl
theorem gB{v:Value}:(D.sc v).wd=1:=rfl
theorem gC{z:Int}:(D.nm z).wd=2:=rfl
theorem get_map{α:Type}{f:α->D}{m:List α}{i:Nat}{x:α}(h:m[i]?=some x):(m.map f)[((i:Nat):Int).toNat]?=some (f x):=by rw[lv,db,h];rfl
theorem mU{c:Operand}{x y:Code}{b:Bool}(hc:s.op c= .sc (.bool b))(hb:b=true)(h:aW P X0 n x Q s):aW P X0 n (.cond c x y) Q s:=by subst hb;exact KX hc h
theorem nH{c:Operand}{x y:Code}{b:Bool}(hc:s.op c= .sc (.bool b))(hb:b=false)(h:aW P X0 n y Q s):aW P X0 n (.cond c x y) Q s:=by subst hb;exact Hu hc h
theorem yX{k:Nat}:kill k []=[]:=rfl
theorem yY{k t:Nat}{d:D}{r r':List (Nat×D)}(hd:d.is k=true)(h:kill k r=r'):kill k ((t,d)::r)=(t,.any)::r':=by simp only[kill,hd];rw[h]
theorem wE{k t:Nat}{d:D}{r r':List (Nat×D)}(hd:d.is k=false)(h:kill k r=r'):kill k ((t,d)::r)=(t,d)::r':=by simp only[kill,hd];rw[h]
theorem JH{k:Nat}{l2:List D}:upd k l2 []=[]:=rfl
theorem JI{k wd:Nat}{T:TypeId}{l l2:List D}{r r':List (Nat×Ow)}(h:upd k l2 r=r'):upd k l2 ((k,⟨T,wd,l⟩)::r)=(k,⟨T,wd,l++l2⟩)::r':=by simp only[upd,aj];rw[h]
theorem Ga{k j:Nat}{q:Ow}{l2:List D}{r r':List (Nat×Ow)}(hj:Nat.beq j k=false)(h:upd k l2 r=r'):upd k l2 ((j,q)::r)=(j,q)::r':=by
 simp only[upd];rw[ah (fun e=>by rw[e,eD]at hj;cases hj),h]
theorem Gt{k wd:Nat}{l:List D}:shut k wd l []=[]:=rfl
theorem Gu{k t wd:Nat}{l:List D}{r r':List (Nat×D)}(h:shut k wd l r=r'):shut k wd l ((t,.own k)::r)=(t,.ls wd l)::r':=by simp only[shut,lk,eD];rw[h]
theorem JU{k t wd:Nat}{d:D}{r r':List (Nat×D)}(h:shut k wd [d] r=r'):shut k wd [d] ((t,.opt k 0)::r)=(t,.pt d)::r':=by simp only[shut,lk,eD,yH];rw[h]
theorem En{k t wd:Nat}{l:List D}{d:D}{r r':List (Nat×D)}(hd:d.is k=false)(h:shut k wd l r=r'):shut k wd l ((t,d)::r)=(t,d)::r':=by
 have:lk k wd l d=d:=by
  cases d<;>first|rfl|(simp only[D.is]at hd;simp only[lk,hd])
 simp only[shut,this];rw[h]
theorem drop_nil{k:Nat}:eR k []=[]:=rfl
theorem Hb{k:Nat}{q:Ow}{r r':List (Nat×Ow)}(h:eR k r=r'):eR k ((k,q)::r)=r':=by simp only[eR,aj];rw[h]
theorem Ft{k j:Nat}{q:Ow}{r r':List (Nat×Ow)}(hj:Nat.beq j k=false)(h:eR k r=r'):eR k ((j,q)::r)=(j,q)::r':=by
 simp only[eR];rw[ah (fun e=>by rw[e,eD]at hj;cases hj),h]
theorem eX{t k:Nat}{T:TypeId}{wd:Nat}{sl':List (Nat×D)}(ht:look sl t= .sc (.slice none 0 0))(hk:ow.all (fun p=>!Nat.beq p.1 k)=true)(hw:Nat.blt 0 wd=true)(hs:kill k sl=sl')(hk0:Nat.blt k 1000000=true:=by exact rfl):Sh X0 n ⟨sl,ow⟩ ⟨(t,.own k)::sl',(k,⟨T,wd,[]⟩)::ow⟩:=by
 subst hs;exact MZ (s:=⟨sl,ow⟩) ht (fun p hp e=>by
  have:=fD.1 hk p hp;rw[e,eD]at this;cases this) (by simpa[bf]using hw) hk0
theorem bB{k wd:Nat}{T:TypeId}{l:List D}{sl':List (Nat×D)}{ow':List (Nat×Ow)}(hk:(k,(⟨T,wd,l⟩:Ow))∈ow)(hs:shut k wd l sl=sl')(ho:eR k ow=ow')(hkh:hdr k=false:=by exact rfl):Sh X0 n ⟨sl,ow⟩ ⟨sl',ow'⟩:=by
 subst hs;subst ho;exact Bh (s:=⟨sl,ow⟩) hk hkh
def Sub(sl:List (Nat×D)):List (Nat×D)->Prop
 |[]=>True
 |p::r=>look sl p.1=p.2/\Sub sl r
theorem bj{a b:Bool}(h:a=b):D.sc (.bool a)= .sc (.bool b):=by rw[h]
theorem uq{q:IntKind}{a b:Int}(h:a=b):D.sc (.int q a)= .sc (.int q b):=by rw[h]
theorem rU{q:IntKind}{z:Int}(h:match q with| .i64=>-9223372036854775808<=z/\z<=9223372036854775807| .u32=>0<=z/\z<4294967296| .u64=>0<=z/\z<18446744073709551616|_=>False):q.wrap z=z:=by
 cases q<;>first|exact h.elim|skip
 ·simp only[]at h;rw[IntWalk.i64_left];exact xu _ h
 ·simp only[]at h;simp[IntKind.wrap,IntKind.bits,IntKind.signed];omega
 ·simp only[]at h;simp[IntKind.wrap,IntKind.bits,IntKind.signed];omega
def Dl(ow:List (Nat×Ow))(ow':List (Nat×Ow)):Prop:=∀p∈ow',p∈ow
theorem Gj:Dl ow []:=fun p hp=>by cases hp
theorem D0{p:Nat×Ow}{r:List (Nat×Ow)}(h:p∈ow)(k:Dl ow r):Dl ow (p::r):=fun q hq=>by
 rcases bI.1 hq with e|e
 ·rw[e];exact h
 ·exact k q e
theorem JK:Sub sl []:=trivial
theorem Gk{t:Nat}{d d':D}{r:List (Nat×D)}(h:look sl t=d)(e:d=d')(k:Sub sl r):Sub sl ((t,d')::r):=⟨e▸h,k⟩
theorem oM{sl':List (Nat×D)}{ow':List (Nat×Ow)}(h:Sub sl sl')(ho:ow=ow'):Sh X0 n ⟨sl,ow⟩ ⟨sl',ow'⟩:=by
 subst ho;refine MY (s:=⟨sl,ow⟩) ?_;have key:∀r:List (Nat×D),Sub sl r->∀p∈r,look sl p.1=p.2:=fun r=>by
  induction r with
  |nil=>intro _ p hp;cases hp
  |cons q r ih=>
   intro h p hp;rcases bI.1 hp with e|e
   ·rw[e];exact h.1
   ·exact ih h.2 p e
 exact key _ h
theorem av{sl':List (Nat×D)}{ow':List (Nat×Ow)}(h:Sub sl sl')(ho:Dl ow ow'):Sh X0 n ⟨sl,ow⟩ ⟨sl',ow'⟩:=fun w0 f a w hd=>by
 obtain⟨f',h1⟩:=oM (X0:=X0) (n:=n) (ow:=ow) h rfl w0 f a w hd;refine⟨f',?_⟩;have hX:∀b,XO X0 ⟨sl',ow'⟩ f' b->XO X0 ⟨sl',ow⟩ f' b:=fun b hb=>by
  rcases hb with hb|⟨p,hp,e⟩
  ·exact .inl hb
  ·exact .inr ⟨p,ho p hp,e⟩
 refine⟨h1.sz,h1.df,h1.bl,h1.x0,h1.xy,h1.fx,fun p hp=>h1.lo p (ho p hp),fun u=>?_,fun p hp=>?_,fun b ⟨p,hp,e⟩=>h1.nw b ⟨p,ho p hp,e⟩,fun p hp q hq=>h1.dj p (ho p hp) q (ho q hq),fun p hp q hq=>h1.un p (ho p hp) q (ho q hq)⟩
 ·have h2:=h1.sl u;show SR _ _ _ (look sl' u) _;have h3:SR (XO X0 ⟨sl',ow⟩ f') f' w (look sl' u) (a.tmps.getD u undef):=h2;cases hd:look sl' u<;>rw[hd]at h3<;>first|exact AR.free h3 (fun b _ hb=>hX b hb)|exact h3
 ·obtain⟨k0,zs,k1,k2⟩:=h1.ow p (ho p hp);exact⟨k0,zs,k1,EE.agr (Agr.refl _ w) (fun b _ hb=>hX b hb) (fun _ _=>rfl) k2⟩
theorem bq {g : FuncId} {fn : Func} {c : Code} {ds : List D} {r : D} (hf : P.funcs[g]? = some fn) (hname : (fn.name == "runtime.NumGoroutine") = false) (hb : fn.body = some c) (hn : Nat.ble ds.length fn.ntmps = true) (hds : ds.all D.seen = true)
 (h:∀X0,aW P X0 fn.ntmps c (fin P X0 fn.ntmps fn r) ⟨aQ 0 ds,[]⟩):Go.Proofs.Enters P g/\Fun P g ds r:=⟨Go.Proofs.enters_of hf hname hb,Mh hf hb (by simpa using hn) hds h⟩
end
end DW
end
section
open Go.RowKit
namespace DW
def bL(k i:Nat)(d:D):List (Nat×Ow)->List (Nat×Ow)
 |[]=>[]
 |(j,q)::l=>match Nat.beq j k with
  |true=>(j,⟨q.T,q.wd,q.l.set i d⟩)::bL k i d l
  |false=>(j,q)::bL k i d l
theorem fO{k i:Nat}{d:D}{q:Ow}:∀{l:List (Nat×Ow)},(∀p∈l,p.1=k->p=(k,q))->∀p,p∈bL k i d l->(p.1≠k/\p∈l)\/p=(k,⟨q.T,q.wd,q.l.set i d⟩)
 |[],_,p,hp=>by simp[bL]at hp
 |(j,r)::l,hu,p,hp=>by
  simp only[bL]at hp
  cases hj:Nat.beq j k with
  |true=>
   have hj':=dn hj;rw[hj]at hp;have e:=hu _ br hj';cases e;rcases bI.1 hp with h|h
   ·exact .inr h
   ·rcases fO (fun a ha=>hu a (bz _ ha)) p h with h|h
    ·exact .inl ⟨h.1,bz _ h.2⟩
    ·exact .inr h
  |false=>
   rw[hj]at hp;rcases bI.1 hp with h|h
   ·exact .inl ⟨by rw[h];exact tY hj,by rw[h];exact br⟩
   ·rcases fO (fun a ha=>hu a (bz _ ha)) p h with h|h
    ·exact .inl ⟨h.1,bz _ h.2⟩
    ·exact .inr h
theorem ElH.nw0{X:Nat->Prop}{f:Nat->Value}{w:World}:∀{l:List D} {xs:List Value},ElH X f w l xs->l≠[]->∃u,xs[0]?=some u/\∀n,u≠ .int .u32 n
 |[],_,_,h=>absurd rfl h
 |_::_,_,⟨u,rest,h1,_,_,_,_,h6,_⟩,_=>⟨u,by rw[h1];rfl,h6⟩
theorem EE.nw0{X:Nat->Prop}{f:Nat->Value}{w:World}{k wd:Nat}{l:List D}{xs:List Value}(h:EE X f w k wd l xs)(hl:l≠[])(h0:0<wd):∃u,xs[0]?=some u/\∀n,u≠ .int .u32 n:=by
 unfold EE at h
 cases hh:hdr k with
 |false=>rw[hh]at h;exact Els.nw0 h hl h0
 |true=>rw[hh]at h;exact ElH.nw0 h.2 hl
theorem Hd.set{X0:Nat->Prop}{n:Nat}{w0:Bs}{s:S}{f:Nat->Value}{a:Act}{w w':World}{k i:Nat}{q:Ow}{d:D}{xs:List Value}(h:Hd X0 n w0 s f a w)(hk:(k,q)∈s.ow)(hi:i<q.l.length)
  (hg:w.grownBy w' (f k).ownBlock) (ho:w'.ownsRow 0 q.T q.wd (f k) q.l.length xs) (hy:EE (XO X0 s f) f w k q.wd (q.l.set i d) xs):
  Hd X0 n w0 ⟨s.sl,bL k i d s.ow⟩ f a w':=by
 obtain⟨hwd,_⟩:=h.ow _ hk;have hag:=AE h hk hg;have hl:q.l.set i d≠[]:=fun e=>by have:=jj List.length e;simp at this;rw[this]at hi;simp at hi
 have hX:∀b,b<w.heap.size->XO X0 ⟨s.sl,bL k i d s.ow⟩ f b->XO X0 s f b:=fun b hbs hb'=>by
  rcases hb' with hb'|⟨p,hp,e⟩
  ·exact .inl hb'
  ·rcases fO (fun p hp e=>h.un p hp _ hk e) p hp with⟨h1,h2⟩|h1
   ·exact .inr ⟨p,h2,e⟩
   ·subst h1;exact .inr ⟨_,hk,e⟩
 have hoth:∀p∈s.ow,p.1≠k->(f p.1).ownBlock=none\/(f p.1).ownBlock≠(f k).ownBlock:=fun p hp hpk=>by
  cases hv:(f p.1).ownBlock with
  |none=>exact .inl rfl
  |some b=>exact .inr fun e=>h.dj p hp _ hk hpk b hv e.symm
 refine⟨h.sz,h.df,h.bl.grown hg (fun b hb=>h.lo _ hk b hb),h.x0,h.xy,h.fx,fun p hp b e=>?_,fun u=>?_,fun p hp=>?_,fun b hb'=>?_,fun p hp p' hp' hne b e e'=>?_,fun p hp p' hp' e=>?_⟩
 ·rcases fO (fun p hp e=>h.un p hp _ hk e) p hp with⟨_,h2⟩|h1
  ·exact h.lo p h2 b e
  ·subst h1;exact h.lo _ hk b e
 ·have h1:=h.sl u;show SR _ _ _ (s.gt u) _;cases hd:s.gt u<;>rw[hd]at h1<;>first|exact AR.agr hag hX _ _ h1|exact h1
 ·rcases fO (fun p hp e=>h.un p hp _ hk e) p hp with⟨h1,h2⟩|h1
  ·obtain⟨k0,zs,k1,k2⟩:=h.ow p h2;exact⟨k0,zs,World.ownsRow.kept k1 hg (hoth p h2 h1),EE.agr hag hX (fun _ _=>rfl) k2⟩
  ·subst h1;exact⟨hwd,xs,by rw[dc];exact ho,EE.agr hag hX (fun _ _=>rfl) hy⟩
 ·obtain⟨p,hp,e⟩:=hb';rcases fO (fun p hp e=>h.un p hp _ hk e) p hp with⟨h1,h2⟩|h1
  ·have h3:=h.nw b ⟨p,h2,e⟩;intro m hm;have hlt:=((h.ow p h2).lt e).2;have:w'.cell? ⟨b,0,none⟩=w.cell? ⟨b,0,none⟩:=World.cell?_of_block (hg.block b hlt fun e2=>h.dj p h2 _ hk h1 b e e2.symm);rw[this]at hm;exact h3 m hm
  ·subst h1;intro m hm;obtain⟨u,hu,hn⟩:=EE.nw0 hy hl hwd;have hc:=World.ownsRow.cells ho e 0 u hu;rw[cN,bP]at hc;rw[hc]at hm;exact hn m (by simpa using hm)
 ·rcases fO (fun p hp e=>h.un p hp _ hk e) p hp with⟨h1,h2⟩|h1<;>rcases fO (fun p hp e=>h.un p hp _ hk e) p' hp' with⟨h1',h2'⟩|h1'
  ·exact h.dj p h2 p' h2' hne b e e'
  ·subst h1';exact h.dj p h2 _ hk h1 b e e'
  ·subst h1;exact h.dj p' h2' _ hk h1' b e' e
  ·subst h1;subst h1';exact hne rfl
 ·rcases fO (fun p hp e=>h.un p hp _ hk e) p hp with⟨h1,h2⟩|h1<;>rcases fO (fun p hp e=>h.un p hp _ hk e) p' hp' with⟨h1',h2'⟩|h1'
  ·exact h.un p h2 p' h2' e
  ·subst h1';exact absurd e h1
  ·subst h1;exact absurd e.symm h1'
  ·rw[h1,h1']
theorem Hd.new{X0:Nat->Prop}{n:Nat}{w0:Bs}{s:S}{f:Nat->Value}{a:Act}{w:World}{k cap:Nat}{q:Ow}{cs:Array Value}(h:Hd X0 n w0 s f a w)(hk:∀p∈s.ow,p.1≠k)(hk0:Nat.blt k 1000000=true)(hwd:0<q.wd)(hc:q.l.length<=cap)(hm:cap<=maxLen)(hs:cs.size=cap*q.wd)
  (hx:Els (XO X0 s f) w q.wd q.l (cs.toList.take (q.l.length*q.wd))) (hl:q.l≠[]\/cs= #[]) {t:Nat} (ht:t<n) {d:D} {v:Value} (hd:∀X,SR X (fun j=>if j=k then .slice (some ⟨w.heap.size,0,none⟩) q.l.length cap else f j) (w.alloc (.cells cs q.T)) d v):
  Hd X0 n w0 ⟨(t,d)::kill k s.sl,(k,q)::s.ow⟩ (fun j=>if j=k then .slice (some ⟨w.heap.size,0,none⟩) q.l.length cap else f j) (a.put (some t) v) (w.alloc (.cells cs q.T)):=by
 have hb:Below w.heap.size w (w.alloc (.cells cs q.T)):=(Below.refl _ _).alloc (af _) _;have hag:Agr (XO X0 s f) w (w.alloc (.cells cs q.T)):=Agr.of _ hb;have hX:∀b,b<w.heap.size->XO X0 ⟨(t,d)::kill k s.sl,(k,q)::s.ow⟩ (fun j=>if j=k then .slice (some ⟨w.heap.size,0,none⟩) q.l.length cap else f j) b->XO X0 s f b:=fun b hbs hb=>by
  rcases hb with hb|⟨p,hp,e⟩
  ·exact .inl hb
  ·rcases bI.1 hp with h1|h1
   ·subst h1;simp only[if_true,Value.ownBlock,ai]at e;omega
   ·simp only[ah (hk p h1)]at e;exact .inr ⟨p,h1,e⟩
 have hrow:∀j,js j=true->(if j=k then Value.slice (some ⟨w.heap.size,0,none⟩) q.l.length cap else f j)=f j:=fun j hj=>ah (sb hk0 hj);refine⟨by simp[Act.put,h.sz],h.df,h.bl.below hb,h.x0,h.xy,fun j hj=>(ah (sd hk0 hj)).trans (h.fx j hj),fun p hp b e=>?_,fun u=>?_,fun p hp=>?_,fun b hb'=>?_,fun p hp p' hp' hne b e e'=>?_,fun p hp p' hp' e=>?_⟩
 ·rcases bI.1 hp with h1|h1
  ·subst h1;simp only[if_true,Value.ownBlock,ai]at e;exact .inl (by have:=h.bl.size;omega)
  ·simp only[ah (hk p h1)]at e;exact h.lo p h1 b e
 ·rw[kT (by rw[h.sz];exact ht)];show SR _ _ _ (look ((t,d)::kill k s.sl) u) _;simp only[look];split
  ·exact hd _
  ·rcases ik k s.sl u with⟨e,hne⟩|e
   ·rw[e];exact SR.other (h.sl u) hne hag hX
   ·rw[e];exact SR.any
 ·rcases bI.1 hp with h1|h1
  ·subst h1;refine⟨hwd,_,?_,EE.of (Els.agr hag hX hx) (oD hk0)⟩;simp only[if_true];refine⟨by rw[aP,bJ,hs];exact cV (cU _ hc),.inr ⟨w.heap.size,cap,cs,rfl,aO _,heap_alloc_new w _,hc,hm,hs,rfl⟩⟩
  ·obtain⟨k0,zs,k1,k2⟩:=h.ow p h1;refine⟨k0,zs,?_,EE.agr hag hX hrow k2⟩;simp only[ah (hk p h1)];exact World.ownsRow.kept (row:=none) k1 ⟨hb.os,hb.tape,hb.output,hb.size,fun b hbs _=>hb.block b hbs⟩ (by cases(f p.1).ownBlock<;>simp)
 ·obtain⟨p,hp,e⟩:=hb';rcases bI.1 hp with h1|h1
  ·subst h1;simp only[if_true,Value.ownBlock,ai]at e;subst e;intro m hm';rw[cell_of_row _ w.heap.size _ _ _ (0,0) (heap_alloc_new w _)]at hm';rcases hl with hl|hl
   ·obtain⟨u,hu,hn⟩:=Els.nw0 hx hl hwd;rw[fC]at hu;split at hu
    ·rw[dE]at hu;rw[hu]at hm';exact hn m (by simpa using hm')
    ·cases hu
   ·rw[hl]at hm';simp at hm'
  ·simp only[ah (hk p h1)]at e;have hlt:=((h.ow p h1).lt e).2;intro m hm';exact h.nw b ⟨p,h1,e⟩ m ((hb.cell (p:=⟨b,0,none⟩) hlt).symm.trans hm')
 ·have hlt:∀p∈s.ow,∀b,(f p.1).ownBlock=some b->b<w.heap.size:=fun p hp b e=>((h.ow p hp).lt e).2;rcases bI.1 hp with h1|h1<;>rcases bI.1 hp' with h1'|h1'
  ·subst h1;subst h1';exact hne rfl
  ·subst h1;simp only[if_true,ah (hk p' h1'),Value.ownBlock,ai]at e e';have:=hlt p' h1' b e';omega
  ·subst h1';simp only[if_true,ah (hk p h1),Value.ownBlock,ai]at e e';have:=hlt p h1 b e;omega
  ·simp only[ah (hk p h1),ah (hk p' h1')]at e e';exact h.dj p h1 p' h1' hne b e e'
 ·rcases bI.1 hp with h1|h1<;>rcases bI.1 hp' with h1'|h1'
  ·rw[h1,h1']
  ·subst h1;exact absurd e.symm (hk p' h1')
  ·subst h1';exact absurd e (hk p h1)
  ·exact h.un p h1 p' h1' e
section
variable {P : Program} {X0 : Nat->Prop} {n : Nat} {sl : List (Nat × D)} {ow : List (Nat × Ow)} {o : Oper} {ops : Array Oper} {l : List Oper} {K : S->Prop} {t : Nat} {d : D}
theorem kU{k:Nat}(h:ow.all (fun p=>!Nat.beq p.1 k)=true):∀p∈ow,p.1≠k:=fun p hp e=>by
 have:=fD.1 h p hp;rw[e,eD]at this;cases this
theorem wa{T:TypeId}{k wd:Nat}{z:Value}{sl':List (Nat×D)}(hg:o.guard=none)(hdst:o.dst=some t)(ht:Nat.blt t n=true)(ho:o.op= .alloc T)(hk:ow.all (fun p=>!Nat.beq p.1 k)=true)
  (hz:(P.info? T).map (fun i=>i.zero)=some (some z)) (hd:cst z=d) (hf:d.fits=true) (hw:d.wd=wd) (h0:Nat.blt 0 wd=true) (hn:d.nw=true) (hs:kill k sl=sl')
  (h:aL P X0 n ops l K ⟨(t,.opt k 0)::sl',(k,⟨T,wd,[d]⟩)::ow⟩) (hk0:Nat.blt k 1000000=true:=by exact rfl):aL P X0 n ops (o::l) K ⟨sl,ow⟩:=by
 subst hs;subst hw;subst hd;refine gQ fun w0 f a w Qx hh=>⟨by simp[Region.wanted,hg],?_⟩
 cases hq:P.info? T with
 |none=>rw[hq]at hz;cases hz
 |some inf=>
  rw[hq]at hz;simp only[ck,ai]at hz;have hsz:z.cells.size=(cst z).wd:=AR.size (X:=XO X0 ⟨sl,ow⟩ f) (w:=w) _ _ hf (by
   have:=hH (X:=XO X0 ⟨sl,ow⟩ f) (f:=f) (w:=w) z;cases hc:cst z<;>rw[hc]at this hf<;>first|exact this|simp[D.fits]at hf)
  have h0':0<(cst z).wd:=by simpa[bf]using h0
  have hAR:AR (XO X0 ⟨sl,ow⟩ f) w (cst z) z:=by
   have:=hH (X:=XO X0 ⟨sl,ow⟩ f) (f:=f) (w:=w) z;cases hc:cst z<;>rw[hc]at this hf<;>first|exact this|simp[D.fits]at hf
  have hrun:(execOp a.eval o).run P w= .ok (.value (.pointer (some ⟨w.heap.size,0,none⟩))) (w.alloc (.cells z.cells T)):=by
   unfold execOp;simp only[ho];simp[Instr.alloc,zeroValue,typeInfo,hq,hz,newVar,newRow]
  unfold Oper.wp;rw[hrun];simp only[Oper.upon,hdst];refine⟨_,_,hh.new (k:=k) (cap:=1) (q:=⟨T,(cst z).wd,[cst z]⟩) (kU hk) hk0 h0' (af _) (by simp[maxLen]) (by simpa using hsz) ⟨z,[],?_,hAR,hf,rfl,hn,rfl⟩ (.inl aU) sQ (fun X=>?_),h⟩
  ·simp only[gY,cv,gZ];rw[cR (by simp[hsz])]
  ·simp only[SR,if_true];exact⟨w.heap.size,1,1,rfl,rfl⟩
theorem oK{x y:Operand}{T tt:TypeId}{k off wd i:Nat}{lo:List D}{ow':List (Nat×Ow)}(hg:o.guard=none)(hdst:o.dst=none)(ho:o.op= .store tt x y)(hx:S.op ⟨sl,ow⟩ x= .opt k off)(hy:S.op ⟨sl,ow⟩ y=d)(hk:(k,(⟨T,wd,lo⟩:Ow))∈ow)
  (hoff:off=i*wd) (hi:i<lo.length) (hf:d.fits=true) (hw:d.wd=wd) (hn:d.nw=true) (hz:(P.info? tt).map (·.size)=some wd) (hs:bL k i d ow=ow')
  (h:aL P X0 n ops l K ⟨sl,ow'⟩) (hkh:hdr k=false:=by exact rfl):aL P X0 n ops (o::l) K ⟨sl,ow⟩:=by
 subst hs;subst hoff;subst hw;refine gQ fun w0 f a w Qx hh=>⟨by simp[Region.wanted,hg],?_⟩;have h1:=hh.op x;have h2:=hh.op y;rw[hx]at h1;rw[hy]at h2;simp only[SR]at h1;obtain⟨g,n',c',e1,e2⟩:=h1;have hAR:AR (XO X0 ⟨sl,ow⟩ f) w d (a.eval y):=by cases d<;>first|exact h2|simp[D.fits]at hf
 have hsz:=AR.size _ _ hf hAR;obtain⟨hw0,xs,⟨hxl,h10⟩,h11'⟩:=hh.ow _ hk;have h11:=h11'.pl hkh;simp only at h10 h11 hw0 hxl;rcases h10 with⟨h12,_⟩|⟨g',cap,cur,h12,hb,hgg,hle,hm,hcs,htk⟩
 ·rw[e1]at h12;cases h12
 rw[e1]at h12;cases h12;have hlt:i*d.wd+d.wd<=lo.length*d.wd:=by
  have:=cU d.wd (show i+1<=lo.length by omega);rw[bC,cv]at this;exact this
 have hle2:lo.length*d.wd<=c'*d.wd:=cU _ hle
 cases hq:P.info? tt with
 |none=>rw[hq]at hz;cases hz
 |some inf=>
  rw[hq]at hz;simp only[ck,ai]at hz;have hst:=run_storeCells_at (P:=P) g (i*d.wd) T (a.eval y).cells.toList 0 cur w hgg (by simp only[bJ,bP];omega) (AR.one _ _ hf hAR);have hrun:(execOp a.eval o).run P w= .ok .skip (w.setRow g (cur.toList.take (i*d.wd)++(a.eval y).cells.toList++cur.toList.drop (i*d.wd+d.wd)).toArray):=by
   unfold execOp;simp only[ho,Instr.storeAt,Instr.sureAddr,e2,storeVar,sizeOf,typeInfo];simp only[bP,bJ,hsz]at hst;simp[hq,hz,hsz,hst]
  unfold Oper.wp;rw[hrun];simp only[Oper.upon,hdst,Act.put];have hgrow:w.grownBy (w.setRow g (cur.toList.take (i*d.wd)++(a.eval y).cells.toList++cur.toList.drop (i*d.wd+d.wd)).toArray) (f k).ownBlock:=⟨rfl,rfl,rfl,by simp,fun b _ hb=>setRow_other w g b _ (fun e=>hb (by simp[e1,Value.ownBlock,e]))⟩;have hclen:cur.toList.length=c'*d.wd:=by simp[hcs]
  refine⟨_,f,hh.set (k:=k) (i:=i) (q:=⟨T,d.wd,lo⟩) (d:=d) (xs:=(cur.toList.take (i*d.wd)++(a.eval y).cells.toList++cur.toList.drop (i*d.wd+d.wd)).take (lo.length*d.wd)) hk hi hgrow ⟨?_,.inr ⟨g,c',_,e1,hb,setRow_heap w g cur _ T _ hgg,hle,hm,?_,?_⟩⟩ ?_,h⟩
  ·simp only[aP,cq,eQ,bJ,hsz,hcs];omega
  ·simp only[fY,cq,aP,eQ,bJ,hsz,hcs];omega
  ·simp only[nZ]
  ·
   have key:∀(lo:List D) (i:Nat) (ys:List Value),Els (XO X0 ⟨sl,ow⟩ f) w d.wd lo ys->i<lo.length->Els (XO X0 ⟨sl,ow⟩ f) w d.wd (lo.set i d) (ys.take (i*d.wd)++(a.eval y).cells.toList++ys.drop (i*d.wd+d.wd)):=fun lo=>by
    induction lo with
    |nil=>intro i ys _ hi;simp at hi
    |cons d0 lo ih=>
     intro i ys ⟨u,rest,k1,k2,k3,k4,k5,k6⟩ hi;have hu:=AR.size d0 u k3 k2;have hul:u.cells.toList.length=d.wd:=by rw[bJ,hu,k4]
     match i with
     |0=>
      simp only[gg,iG,eE,cT,bQ];refine⟨a.eval y,rest,?_,hAR,hf,rfl,hn,k6⟩;rw[k1,ot aa,mA aa,cT]
     |i+1=>
      simp only[lI];refine⟨u,_,?_,k2,k3,k4,k5,ih i rest k6 (by simpa using hi)⟩;rw[k1,show(i+1)*d.wd=d.wd+i*d.wd by rw[bC,cv,lg],List.take_append,cR aa,hul,tM,cY,cY,cY,
       List.drop_append,mA aa,cT,hul,show d.wd+i*d.wd+d.wd-d.wd=i*d.wd+d.wd by omega]
   have h13:=key lo i xs h11 hi;have e0:cur.toList=xs++cur.toList.drop (lo.length*d.wd):=by rw[<-htk];exact(lJ _ _).symm
   have e5:(cur.toList.take (i*d.wd)++(a.eval y).cells.toList++cur.toList.drop (i*d.wd+d.wd)).take (lo.length*d.wd)=List.take (i*d.wd) xs++(a.eval y).cells.toList++List.drop (i*d.wd+d.wd) xs:=by
    have a1:cur.toList.take (i*d.wd)=xs.take (i*d.wd):=by rw[<-htk,List.take_take,cV aa]
    have a2:cur.toList.drop (i*d.wd+d.wd)=xs.drop (i*d.wd+d.wd)++cur.toList.drop (lo.length*d.wd):=by
     have:=jj (List.drop (i*d.wd+d.wd)) e0;rw[ot aa]at this;exact this
    rw[a1,a2,<-cY,List.take_left' zb44]
   rw[e5];exact EE.of h13 hkh
theorem set_nil{k i:Nat}{d:D}:bL k i d []=[]:=rfl
theorem JZ{k i wd:Nat}{T:TypeId}{l:List D}{d:D}{r r':List (Nat×Ow)}(h:bL k i d r=r'):bL k i d ((k,⟨T,wd,l⟩)::r)=(k,⟨T,wd,l.set i d⟩)::r':=by simp only[bL,eD];rw[h]
theorem JY{k wd:Nat}{T:TypeId}{d0 d:D}{r r':List (Nat×Ow)}(h:bL k 0 d r=r'):bL k 0 d ((k,⟨T,wd,[d0]⟩)::r)=(k,⟨T,wd,[d]⟩)::r':=by simp only[bL,eD,gg];rw[h]
theorem Gx{k j i:Nat}{q:Ow}{d:D}{r r':List (Nat×Ow)}(hj:Nat.beq j k=false)(h:bL k i d r=r'):bL k i d ((j,q)::r)=(j,q)::r':=by simp only[bL,hj];rw[h]
end
end DW
end
section
open Go.RowKit
namespace DW
theorem Els.at{X:Nat->Prop}{w:World}{wd:Nat}:∀{l:List D} {xs:List Value} {i:Nat} {d:D},Els X w wd l xs->l[i]?=some d->∃u,AR X w d u/\d.fits=true/\d.wd=wd/\∀j v,u.cells.toList[j]?=some v->xs[i*wd+j]?=some v
 |[],_,_,_,_,h=>by simp at h
 |d::l,_,0,d',⟨u,rest,h1,h2,h3,h4,_,h5⟩,e=>by
  simp at e;subst e;refine⟨u,h2,h3,h4,fun j v hj=>?_⟩;rw[h1,iG,bQ,et (cw.1 hj).1];exact hj
 |d::l,_,i+1,d',⟨u,rest,h1,h2,h3,h4,_,h5⟩,e=>by
  obtain⟨u',k1,k2,k3,k4⟩:=Els.at h5 qm;have hsz:=AR.size d u h3 h2;refine⟨u',k1,k2,k3,fun j v hj=>?_⟩;rw[h1,iC (by simp only[bJ,hsz,h4,bC,cv];omega),bJ,hsz,h4,bC,cv,show i*wd+wd+j-wd=i*wd+j by omega];exact k4 j v hj
theorem ElH.at{X:Nat->Prop}{f:Nat->Value}{w:World}:∀{l:List D} {xs:List Value} {i:Nat} {d:D},ElH X f w l xs->l[i]?=some d->∃u,xs[i]?=some u/\u.oneCell'=true/\u.cells= #[u]/\ER X f w d u/\d.wd=1
 |[],_,_,_,_,h=>by simp at h
 |_::_,_,0,_,⟨u,rest,h1,h2,h3,h4,h5,_⟩,e=>by simp at e;subst e;exact⟨u,by rw[h1];rfl,h2,h3,h4,h5⟩
 |_::_,_,i+1,_,⟨u,rest,h1,_,_,_,_,_,h7⟩,e=>by
  obtain⟨u',k1,k2⟩:=ElH.at h7 qm;exact⟨u',by rw[h1];simpa using k1,k2⟩
theorem EE.at{X:Nat->Prop}{f:Nat->Value}{w:World}{k wd:Nat}{l:List D}{xs:List Value}{i:Nat}{d:D}(h:EE X f w k wd l xs)(e:l[i]?=some d)(hf:d.fits=true):∃u,AR X w d u/\d.wd=wd/\∀j v,u.cells.toList[j]?=some v->xs[i*wd+j]?=some v:=by
 unfold EE at h
 cases hh:hdr k with
 |false=>
  rw[hh]at h;obtain⟨u,k1,_,k3,k4⟩:=Els.at h e;exact⟨u,k1,k3,k4⟩
 |true=>
  rw[hh]at h;obtain⟨rfl,h⟩:=h;obtain⟨u,k1,_,k3,k4,k5⟩:=ElH.at h e;refine⟨u,?_,k5,fun j v hj=>?_⟩
  ·cases d<;>first|exact k4.1|simp[D.fits]at hf
  ·rw[k3]at hj
   match j with
   |0=>rw[gV,bP,k1];simpa using hj
   |j+1=>simp at hj
theorem Els.mk{X:Nat->Prop}{w:World}{wd:Nat}:∀{l:List D} {xs:List Value},xs.length=l.length*wd->(∀i d,l[i]?=some d->∃u,AR X w d u/\d.fits=true/\d.wd=wd/\d.nw=true/\∀j v,u.cells.toList[j]?=some v->xs[i*wd+j]?=some v)->Els X w wd l xs
 |[],xs,hl,_=>gu oW
 |d::l,xs,hl,h=>by
  obtain⟨u,h1,h2,h3,h4,h5⟩:=h 0 d rfl;have hsz:=AR.size d u h2 h1;have hul:u.cells.toList.length=wd:=by rw[bJ,hsz,h3]
  simp only[dh,bC,cv]at hl;have e:xs.take wd=u.cells.toList:=by
   apply qE;intro j;by_cases hj:j<wd
   ·rw[fS hj];have:=h5 j _ (aV aa);rw[iG,bQ]at this;rw[this,aV aa]
   ·rw[gw BS,gw aa]
  refine⟨u,xs.drop wd,by rw[<-e,lJ],h1,h2,h3,h4,Els.mk (by rw[eQ];omega) fun i d' hd'=>?_⟩;obtain⟨u',k1,k2,k3,k4,k5⟩:=h (i+1) d' (by simpa using hd');refine⟨u',k1,k2,k3,k4,fun j v hj=>?_⟩;have:=k5 j v hj;rw[gJ];rw[bC,cv]at this;rw[show wd+(i*wd+j)=i*wd+wd+j by omega];exact this
theorem Els.made{X:Nat->Prop}{w:World}{z:Value}{d:D}(h:AR X w d z)(hf:d.fits=true)(hn:d.nw=true)(h0:0<d.wd)(n:Nat):Els X w d.wd (List.replicate n d) (madeCells z.cells (n*d.wd)).toList:=by
 have hsz:=AR.size d z hf h;refine Els.mk (by simp[size_madeCells]) fun i d' hd'=>?_;obtain⟨rfl,hi⟩:d'=d/\i<n:=by
  rw[oY]at hd';split at hd'
  ·next hi=>exact⟨by simpa using hd'.symm,hi⟩
  ·cases hd'
 refine⟨z,h,hf,rfl,hn,fun j v hj=>?_⟩;have hjl:j<d'.wd:=by have:=(cw.1 hj).1;rwa[bJ,hsz]at this
 have hlt:i*d'.wd+j<n*d'.wd:=by
  have:=cU d'.wd (show i+1<=n by omega);rw[bC,cv]at this;omega
 unfold madeCells;rw[dE,oe,od,aj hlt];simp only[ck,ai];rw[hsz,lg (i*d'.wd),Nat.add_mul_mod_self_right,lH hjl];rw[dE]at hj;simp[getElem!_def,hj]
section
variable {P : Program} {X0 : Nat->Prop} {n : Nat} {Q : Exit->S->Prop} {s : S} {sl : List (Nat × D)} {ow : List (Nat × Ow)} {o : Oper} {ops : Array Oper} {l : List Oper} {K : S->Prop} {t : Nat} {d : D}
theorem ja{x i:Operand}{tt T:TypeId}{k wd:Nat}{lo:List D}{q:IntKind}{z:Int}{off:Nat}(ho:o.op= .indexAddr tt x i)(hx:s.op x= .own k)(hi:s.op i= .sc (.int q z))(hk:(k,(⟨T,wd,lo⟩:Ow))∈s.ow)
  (ht:P.underlying tt=some (.slice (P.elem tt))) (hz:(P.info? (P.elem tt)).map (·.size)=some wd) (hn:0<=z/\z<lo.length) (hoff:z.toNat*wd=off):bp P o s (.opt k off):=fun X f a w base _ how hs=>by
 subst hoff;have h1:=hs x bA;have h2:=hs i bA;rw[hx]at h1;rw[hi]at h2;simp only[SR,AR]at h1 h2;obtain⟨hw0,xs,⟨hxl,h10⟩,h11⟩:=how _ hk;simp only at h10;rcases h10 with⟨h12,h13⟩|⟨g,cap,cur,h12,hb,hgg,hle,hm,hcs,htk⟩
 ·omega
 refine dA (u:=.pointer (some ⟨g,z.toNat*wd,none⟩)) ?_ (by simp only[SR];exact⟨g,_,_,h12,rfl⟩);unfold execOp;rw[ho]
 cases hq:P.info? (P.elem tt)with
 |none=>rw[hq]at hz;cases hz
 |some inf=>
  rw[hq]at hz;simp only[ck,ai]at hz;have hrun:=run_indexAt_slice (P:=P) (w:=w) tt ⟨g,0,none⟩ lo.length cap q z ht;rw[aj hn]at hrun;simp only[Sem.run_bind,h1,h12,h2.1,hrun];simp[sizeOf,typeInfo,hq,hz,cN]
theorem ku{x:Operand}{tt T:TypeId}{k off wd i:Nat}{lo:List D}{b:Bool}(ho:o.op= .load tt x)(hx:s.op x= .opt k off)(hk:(k,(⟨T,wd,lo⟩:Ow))∈s.ow)(hd:lo[i]?=some d)(hoff:i*wd=off)(hf:d.fits=true)(hw:d.wd=wd)(ha:d.agg=b)(hz:(P.info? tt).map (·.size)=some wd)(hg:(P.underlying tt).map TypeDesc.isRow=some b):bp P o s d:=fun X f a w base _ how hs=>by
 subst hoff;subst hw;subst ha;have h1:=hs x bA;rw[hx]at h1;simp only[SR]at h1;obtain⟨g,n',c',e1,e2⟩:=h1;obtain⟨hw0,xs,⟨hxl,h10⟩,h11⟩:=how _ hk;simp only at h10 h11 hxl;rcases h10 with⟨h12,h13⟩|⟨g',cap,cur,h12,hb,hgg,hle,hm,hcs,htk⟩
 ·rw[e1]at h12;cases h12
 rw[e1]at h12;cases h12;obtain⟨u,k1,_,k4⟩:=EE.at h11 hd hf;have hr:w.rangeAt g (i*d.wd) u.cells.toList:=fun j v hj=>by
  have h13:=k4 j v hj;rw[cell_of_row w g _ cur _ (0,0) hgg];have hlt:=(cw.1 h13).1;rw[<-htk,aP]at hlt;rw[<-htk,fS aa,dE]at h13;exact h13
 refine dA (u:=u) ?_ (by cases d<;>first|exact k1|simp[D.fits]at hf);unfold execOp;rw[ho];simp only[Sem.run_bind,e2,th k1 hf hr hz hg,Result.andThen_ok];rfl
theorem lp{x:Operand}{tt T:TypeId}{k off wd i:Nat}{lo:List D}{b:Bool}(ho:o.op= .load tt x)(hx:s.op x= .opt k off)(hk:(k,(⟨T,wd,lo⟩:Ow))∈s.ow)(hoff:i*wd=off)(hd:lo[i]?=some d)(hf:d.fits=true)(hw:d.wd=wd)(ha:d.agg=b)(hz:(P.info? tt).map (·.size)=some wd)(hg:(P.underlying tt).map TypeDesc.isRow=some b):bp P o s d:=ku ho hx hk hd hoff hf hw ha hz hg
theorem d_mul{x y:Operand}{tt tt':TypeId}{p q:Int}(ho:o.op= .binOp .mul tt x y tt')(hx:s.op x= .sc (.int .i64 p))(hy:s.op y= .sc (.int .i64 q))(hb: -9223372036854775808<=p*q/\p*q<=9223372036854775807):bp P o s (.sc (.int .i64 (p*q))):=
 dT ho hx hy zb59
theorem d_neg{x:Operand}{tt:TypeId}{p:Int}(ho:o.op= .unOp .neg tt x)(hx:s.op x= .sc (.int .i64 p))(hb: -9223372036854775807<=p/\p<=9223372036854775807):bp P o s (.sc (.int .i64 (-p))):=gP rfl fun X f w a hs=>by
 have h1:=hs x bA;rw[hx]at h1;simp only[SR,AR]at h1;unfold execOp;rw[ho];have:=xu (0-p) aa;simp[h1.1,Op.unary,Op.intArith,IntWalk.i64_left]at this⊢;rw[this]
theorem d_quo{x y:Operand}{tt tt':TypeId}{p q:Int}(ho:o.op= .binOp .quo tt x y tt')(hx:s.op x= .sc (.int .i64 p))(hy:s.op y= .sc (.int .i64 q))(hq:q≠0/\-9223372036854775808<=p.tdiv q/\p.tdiv q<=9223372036854775807):bp P o s (.sc (.int .i64 (p.tdiv q))):=
 jx ho hx hy rfl fun w=>by
  have:=xu _ hq.2;simp[eqGuard,binOp,Op.intDiv,hq.1,IntWalk.i64_left,this]
theorem Ji{x y:Operand}{tt tt':TypeId}{p q:Bool}(ho:o.op= .binOp .eql tt x y tt')(hx:s.op x= .sc (.bool p))(hy:s.op y= .sc (.bool q))(hu:P.underlying tt=some .bool):bp P o s (.sc (.bool (p==q))):=
 jx ho hx hy rfl fun w=>by
  have:=run_eql_bool (P:=P) w tt p q hu;simp only[eqGuard];simp[this]
theorem Jg{x y:Operand}{tt tt':TypeId}{p q:Bool}(ho:o.op= .binOp .neq tt x y tt')(hx:s.op x= .sc (.bool p))(hy:s.op y= .sc (.bool q))(hu:P.underlying tt=some .bool):bp P o s (.sc (.bool (!(p==q)))):=
 jx ho hx hy rfl fun w=>by
  have:=run_neq_bool (P:=P) w tt p q hu;simp only[eqGuard];simp[this]
theorem FW{x y:Operand}{tt T:TypeId}{q q':IntKind}{z:Int}{zv:Value}{d0:D}{wd m k:Nat}{sl':List (Nat×D)}(hg:o.guard=none)(hdst:o.dst=some t)(ht:Nat.blt t n=true)(ho:o.op= .makeSlice tt x y)(hx:S.op ⟨sl,ow⟩ x= .sc (.int q z))(hy:S.op ⟨sl,ow⟩ y= .sc (.int q' z))(htt:P.underlying tt=some (.slice T))(hi:(P.info? T).map (fun i=>(i.zero,i.size,decide (i.bytes<=100000)))=some (some zv,wd,true))
  (hd:cst zv=d0) (hf:d0.fits=true) (hw:d0.wd=wd) (h0:Nat.blt 0 wd=true) (hn:d0.nw=true) (hb:0<=z/\z<=1000000000) (hm:z.toNat=m) (hk:ow.all (fun p=>!Nat.beq p.1 k)=true) (hs:kill k sl=sl')
  (h:aL P X0 n ops l K ⟨(t,.own k)::sl',(k,⟨T,wd,List.replicate m d0⟩)::ow⟩) (hk0:Nat.blt k 1000000=true:=by exact rfl):aL P X0 n ops (o::l) K ⟨sl,ow⟩:=by
 subst hd;subst hw;subst hm;subst hs;refine gQ fun w0 f a w Qx hh=>⟨by simp[Region.wanted,hg],?_⟩;have h1:=hh.op x;have h2:=hh.op y;rw[hx]at h1;rw[hy]at h2;simp only[SR,AR]at h1 h2
 cases hq:P.info? T with
 |none=>rw[hq]at hi;cases hi
 |some inf=>
  rw[hq]at hi;simp only[ck,ai,aD,decide_eq_true_eq]at hi;obtain⟨hz,hsz,hby⟩:=hi;have h0':0<(cst zv).wd:=by simpa[bf]using h0
  have hbm:(inf.bytes:Int)*z<=100000*1000000000:=Int.mul_le_mul aa hb.2 aa aa;have hr:=run_make (P:=P) w tt T inf zv htt hq hz q q' z z aa (qI _) aa aa;have hrun:(execOp a.eval o).run P w= .ok (.value (.slice (some ⟨w.heap.size,0,none⟩) z.toNat z.toNat)) (w.alloc (.cells (madeCells zv.cells (z.toNat*(cst zv).wd)) T)):=by
   unfold execOp;rw[ho];rw[hsz]at hr;simp[h1.1,h2.1,hr]
  have hz2:AR (XO X0 ⟨sl,ow⟩ f) w (cst zv) zv:=by
   have:=hH (X:=XO X0 ⟨sl,ow⟩ f) (f:=f) (w:=w) zv;cases hc:cst zv<;>rw[hc]at this hf<;>first|exact this|simp[D.fits]at hf
  have hE:=Els.made hz2 hf hn h0' z.toNat;unfold Oper.wp;rw[hrun];simp only[Oper.upon,hdst];have hnew:=hh.new (k:=k) (cap:=z.toNat) (q:=⟨T,(cst zv).wd,List.replicate z.toNat (cst zv)⟩) (cs:=madeCells zv.cells (z.toNat*(cst zv).wd)) (kU hk) hk0 h0' aU sP (by simp[size_madeCells]) (by
   rw[cR (by simp[size_madeCells])];exact hE) (if h0:z.toNat=0 then .inr (by rw[h0];simp[madeCells])else .inl dK) (t:=t) sQ (d:=.own k) (v:=.slice (some ⟨w.heap.size,0,none⟩) z.toNat z.toNat) (fun X=>by simp[SR])
  exact⟨_,_,hnew,h⟩
theorem oL{tt T:TypeId}{wd k:Nat}{sl':List (Nat×D)}(hg:o.guard=none)(hdst:o.dst=some t)(ht:Nat.blt t n=true)(ho:o.op= .buildSlice tt 0 #[])(htt:P.underlying tt=some (.slice T))(hi:(P.info? T).map (fun i=>i.size)=some wd)(h0:Nat.blt 0 wd=true)(hk:ow.all (fun p=>!Nat.beq p.1 k)=true)(hs:kill k sl=sl')
  (h:aL P X0 n ops l K ⟨(t,.own k)::sl',(k,⟨T,wd,[]⟩)::ow⟩) (hk0:Nat.blt k 1000000=true:=by exact rfl):aL P X0 n ops (o::l) K ⟨sl,ow⟩:=by
 subst hs;refine gQ fun w0 f a w Qx hh=>⟨by simp[Region.wanted,hg],?_⟩
 cases hq:P.info? T with
 |none=>rw[hq]at hi;cases hi
 |some inf=>
  have hrun:(execOp a.eval o).run P w= .ok (.value (.slice (some ⟨w.heap.size,0,none⟩) 0 0)) (w.alloc (.cells #[] T)):=by
   unfold execOp;rw[ho];simp[Instr.buildSlice,run_underlying htt,sizeOf,typeInfo,hq,Instr.fill,newRow,Array.range_zero']
  unfold Oper.wp;rw[hrun];simp only[Oper.upon,hdst];have hnew:=hh.new (k:=k) (cap:=0) (q:=⟨T,wd,[]⟩) (cs:=#[]) (kU hk) hk0 (by simpa[bf]using h0) (af _) (by simp[maxLen]) aU (by simp[Els]) (.inr rfl) (t:=t) sQ (d:=.own k) (v:=.slice (some ⟨w.heap.size,0,none⟩) 0 0) (fun X=>by simp[SR]);exact⟨_,_,hnew,h⟩
theorem sT{k:Nat}:∀ow:List (Nat×Ow),upd k [] ow=ow
 |[]=>rfl
 |(j,q)::l=>by
  simp only[upd];split
  ·rw[sT l,gZ]
  ·rw[sT l]
theorem Hd.kill{w0:Bs}{w:World}{f:Nat->Value}{a:Act}{k:Nat}(h:Hd X0 n w0 ⟨sl,ow⟩ f a w):Hd X0 n w0 ⟨kill k sl,ow⟩ f a w:=
 ⟨h.sz,h.df,h.bl,h.x0,h.xy,h.fx,h.lo,fun u=>by
  show SR _ _ _ (look (DW.kill k sl) u) _;rcases ik k sl u with⟨e,_⟩|e
  ·rw[e];exact h.sl u
  ·rw[e];exact SR.any,h.ow,h.nw,h.dj,h.un⟩
theorem rE{x y:Operand}{tt:TypeId}{kk:Nat}{q:Ow}{wd:Nat}{l2:List D}{sl':List (Nat×D)}{ow':List (Nat×Ow)}(hg:o.guard=none)(hdst:o.dst=some t)(ht:Nat.blt t n=true)
  (ho:o.op= .call {callee:=.builtin .append,args:=#[x,y],argTypes:=#[tt,tt]}) (hx:S.op ⟨sl,ow⟩ x= .own kk) (hy:S.op ⟨sl,ow⟩ y= .ls wd l2) (hk:(kk,q)∈ow) (hwd:wd=q.wd) (hn2:l2.all D.nw=true)
  (htt:P.underlying tt=some (.slice q.T)) (hI:(P.info? q.T).map (fun i=>(i.zero.map (·.cells.size),i.size,decide (i.bytes<=100000)))=some (some q.wd,q.wd,true)) (hlen:q.l.length+l2.length<=1000000000)
  (hs:kill kk sl=sl') (how:upd kk l2 ow=ow') (h:aL P X0 n ops l K ⟨(t,.own kk)::sl',ow'⟩) (hk0:Nat.blt kk 1000000=true:=by exact rfl):aL P X0 n ops (o::l) K ⟨sl,ow⟩:=by
 by_cases hl2:l2=[]
 ·subst hl2;rw[sT]at how;subst how;subst hs;refine gQ fun w0 f a w Qx hh=>⟨by simp[Region.wanted,hg],?_⟩;have h1:=hh.op x;have h2:=hh.op y;rw[hx]at h1;rw[hy]at h2;simp only[SR,AR]at h1 h2;obtain⟨ad,c,e1,h3,_⟩:=h2;obtain⟨hw0,xs,⟨hxl,h10⟩,h11⟩:=hh.ow _ hk;simp only at h10;have hsh:∃b cap,f kk= .slice b q.l.length cap/\q.l.length<=cap:=by
   rcases h10 with⟨h12,h13⟩|⟨g,cap,cur,h12,_,_,hle,_⟩
   ·exact⟨none,0,by rw[h12,h13],by omega⟩
   ·exact⟨_,cap,h12,hle⟩
  obtain⟨b,cap,e2,hle⟩:=hsh
  cases hq:P.info? q.T with
  |none=>rw[hq]at hI;cases hI
  |some inf=>
   have hru:=run_underlying htt w;have hrun:(execOp a.eval o).run P w= .ok (.value (f kk)) w:=by
    unfold execOp;have hfc:(Builtin.firstCells inf.size 0 (.slice ad 0 c)).run P w= .ok #[] w:=by
     cases ad<;>simp[Builtin.firstCells,loadCells,loadCellsFrom]
    simp only[ho,resolve,invoke,builtin,Sem.run_bind,Sem.run_pure,Result.andThen_ok,oX,fB,jh,h1,e1,e2,Builtin.append_];simp[hru,sizeOf,typeInfo,hq,Builtin.lenOf,hle,hfc];cases b<;>simp[storeCells]
   unfold Oper.wp;rw[hrun];simp only[Oper.upon,hdst];exact⟨_,f,Hd.put (s:=⟨kill kk sl,ow⟩) (dst:=some t) (d:=.own kk) (hh.kill) (by simp only[SR]) (fun u e=>by cases e;simpa[bf]using ht),h⟩
 ·exact aLapp hg hdst ht ho hx hy hk hwd hl2 hn2 htt hI hlen hs how h hk0
theorem Hj{T:TypeId}{z:Value}(ho:o.op= .build T #[])(hb:P.built T []=some z.cells)(hz:z= .agg z.cells)(hd:cst z=d)(hs:d.seen=true):bp P o s d:=fun X f a w base _ _ _=>by
 subst hd;refine dA (u:=z) ?_ (by
  have:=hH (X:=X) (f:=f) (w:=w) z;exact this)
 unfold execOp;rw[ho];have:=run_build (P:=P) w T #[] z.cells (by simpa using hb);simp only[oX,jh];rw[Sem.run_bind,this,hz];rfl
end
end DW
end
section
open Go.RowKit
namespace Dg
def dgs(b n:Nat):List Nat:=if h:1<b/\0<n then n%b::dgs b (n/b)else []
termination_by n
decreasing_by exact Nat.div_lt_self h.2 h.1
theorem zw(b:Nat):dgs b 0=[]:=by rw[dgs];simp
theorem KD{b n:Nat}(hb:1<b)(hn:0<n):dgs b n=n%b::dgs b (n/b):=by rw[dgs,dif_pos ⟨hb,hn⟩]
theorem cH{b:Nat}(hb:1<b):∀n,NF b (dgs b n)/\vl b (dgs b n)=n:=fun n=>by
 induction n using Nat.strongRecOn with
 |_ n ih=>
  by_cases hn:n=0
  ·subst hn;rw[zw];exact⟨yK,rfl⟩
  ·have h0:0<n:=mC hn;rw[KD hb h0];have hlt:=Nat.div_lt_self h0 hb;obtain⟨h1,h2⟩:=ih _ hlt;refine⟨⟨fun x hx=>?_,?_⟩,?_⟩
   ·rcases bI.1 hx with rfl|hx
    ·exact ed _ aa
    ·exact h1.dg x hx
   ·by_cases h3:dgs b (n/b)=[]
    ·rw[h3];simp only[List.getLast?_singleton,ne_eq,ai];have h4:n/b=0:=by rw[<-h2,h3];rfl
     have h5:=jQ n b;rw[h4]at h5;omega
    ·obtain⟨y,m,h4⟩:=List.exists_cons_of_ne_nil h3;have:=h1.nz;rw[h4]at this⊢;rwa[List.getLast?_cons_cons]
   ·rw[eJ,h2];have:=jQ n b;omega
theorem Fv{b:Nat}(hb:1<b){l:List Nat}(h:NF b l):dgs b (vl b l)=l:=EU aa (cH hb _).1 h (cH hb _).2
theorem KE{b n:Nat}(hb:1<b):dgs b n=[]↔n=0:=by
 constructor
 ·intro h;have:=(cH hb n).2;rw[h]at this;exact this.symm
 ·rintro rfl;exact zw b
end Dg
namespace DW
abbrev zI(n:Int):D:=.sc (.int .i64 n)
abbrev dI(l:List Int):D:=.ls 1 (l.map zI)
abbrev dM(m:List (List Int)):D:=.ls 1 (m.map fun l=>dI l)
abbrev dZ(l:List Int):D:=.ls 2 (l.map .nm)
abbrev dW(m:List (List Int)):D:=.ls 1 (m.map fun l=>dZ l)
abbrev hN(x:Nat):D:=.sc (.int .i64 (x:Int))
abbrev dN(l:List Nat):D:=.ls 1 (l.map hN)
abbrev uN(x:Nat):D:=.sc (.int .u32 (x:Int))
abbrev dU(l:List Nat):D:=.ls 1 (l.map uN)
def hd(n:Nat):List Nat:=Dg.dgs 65536 n
def wds(n:Nat):List Nat:=Dg.dgs 4294967296 n
abbrev Fn(P:Program)(g:FuncId)(ds:List D)(r:D):Prop:=Go.Proofs.Enters P g/\Fun P g ds r
theorem yZ{w:World}{x:IV}{z:Int}(h:IZ w x z):x.s=decide (z<0)/\IW w x (wds z.natAbs):=by
 obtain⟨l,h1,h2,h3⟩:=h;have hn:Dg.vl B32 l=z.natAbs:=by rw[h3,Dg.jF]
 have hl:wds z.natAbs=l:=by rw[<-hn];exact Dg.Fv az h1.nf
 rw[hl];refine⟨?_,h1⟩;by_cases he:l=[]
 ·rw[h2 he,h3,h2 he,he];rfl
 ·have hp:0<Dg.vl B32 l:=Dg.iY h1.nf he az;rw[h3];unfold Dg.iv;cases x.s
  ·symm;rw[dD];simp
  ·symm;rw[eA];simp;omega
section
variable {P : Program} {X0 : Nat->Prop} {n : Nat} {Q : Exit->S->Prop} {s : S} {sl : List (Nat × D)} {ow : List (Nat × Ow)} {o : Oper} {ops : Array Oper} {l : List Oper} {K : S->Prop} {t : Nat} {d : D}
theorem Hi{x:Operand}{T:TypeId}{z:Int}(ho:o.op= .fieldAddr T x 0)(hx:s.op x= .pt (.nm z))(hu:P.underlying T=some (.struct (P.fieldsOf T)))(hfo:((P.fieldsOf T)[0]?).map (fun fd=>(fd.offset,(P.info? fd.type).map (fun i=>decide (i.size≠0))))=some (0,some true)):bp P o s (.pt (.sc (.bool (decide (z<0))))):=fun X f a w base hX _ hs=>by
 have h1:=hs x bA;rw[hx]at h1;simp only[SR,AR]at h1;obtain⟨b,off,u,h2,h3,h4,⟨y,rfl,hy⟩,h6⟩:=h1;obtain⟨k1,k2⟩:=yZ hy;obtain⟨fd,hfd,hfo⟩:=eP.1 hfo;simp only[aD]at hfo;obtain⟨inf,hq,hz⟩:=eP.1 hfo.2;rw[decide_eq_true_eq]at hz;refine dA (u:=.pointer (some ⟨b,off,none⟩)) ?_ (by
  simp only[SR,AR];refine⟨b,off,.bool y.s,rfl,h3,h4,⟨by rw[k1],rfl⟩,fun j v hj=>h6 j v ?_⟩
  match j with
  |0=>simpa[Value.cells]using hj
  |j+1=>simp[Value.cells]at hj)
 unfold execOp;rw[ho];simp[h2,Instr.fieldAt,run_underlying hu,hfd,Instr.sureAddr,fieldPlace,sizeOf,typeInfo,hq,hz,hfo.1,cN]
theorem CW{x:Operand}{T:TypeId}{z:Int}(ho:o.op= .fieldAddr T x 1)(hx:s.op x= .pt (.nm z))(hu:P.underlying T=some (.struct (P.fieldsOf T)))(hfo:((P.fieldsOf T)[1]?).map (fun fd=>(fd.offset,(P.info? fd.type).map (fun i=>decide (i.size≠0))))=some (1,some true)):bp P o s (.pt (dU (wds z.natAbs))):=fun X f a w base hX _ hs=>by
 have h1:=hs x bA;rw[hx]at h1;simp only[SR,AR]at h1;obtain⟨b,off,u,h2,h3,h4,⟨y,rfl,hy⟩,h6⟩:=h1;obtain⟨k1,k2⟩:=yZ hy;obtain⟨fd,hfd,hfo⟩:=eP.1 hfo;simp only[aD]at hfo;obtain⟨inf,hq,hz⟩:=eP.1 hfo.2;rw[decide_eq_true_eq]at hz;refine dA (u:=.pointer (some ⟨b,off+1,none⟩)) ?_ (by
  simp only[SR,AR];refine⟨b,off+1,.slice y.a y.n y.cap,rfl,h3,h4,⟨y.a,y.cap,?_,?_,?_⟩,fun j v hj=>?_⟩
  ·rw[aY,k2.n]
  ·rw[aY];exact k2.cap
  ·rcases k2.ws with h7|⟨g,e,hg,hc⟩
   ·exact .inl (by rw[h7];rfl)
   ·by_cases hw:wds z.natAbs=[]
    ·exact .inl (by rw[hw];rfl)
    refine .inr ⟨g,0,e,fun hXg=>?_,hg,ARs.mk fun i d hd=>?_⟩
    ·obtain⟨v,m,hvm⟩:=List.exists_cons_of_ne_nil hw;exact(hX g hXg).2 _ (hc 0 v (by rw[hvm];rfl))
    ·rw[db]at hd;obtain⟨v,hv,rfl⟩:=eP.1 hd;refine⟨_,by simp only[AR];exact⟨rfl,rfl⟩,rfl,rfl,fun j u hj=>?_⟩
     match j with
     |0=>
      simp[Value.cells]at hj;rw[bQ,gV,bP,hc i v hv,<-hj]
     |j+1=>simp[Value.cells]at hj
  ·match j with
   |0=>
    rw[bP];simp[Value.cells]at hj;exact h6 1 _ (by simp[Value.cells,hj])
   |j+1=>simp[Value.cells]at hj)
 unfold execOp;rw[ho];simp[h2,Instr.fieldAt,run_underlying hu,hfd,Instr.sureAddr,fieldPlace,sizeOf,typeInfo,hq,hz,hfo.1,cN]
theorem zB{x:Operand}{t1 t2:TypeId}{q q':IntKind}{z z':Int}(ho:o.op= .convert t1 t2 x)(hx:s.op x= .sc (.int q z))(h1:P.underlying t1=some (.int q))(h2:P.underlying t2=some (.int q'))(hz:q'.wrap z=z'):bp P o s (.sc (.int q' z')):=gP rfl fun X f w a hs=>by
 have h3:=hs x bA;rw[hx]at h3;simp only[SR,AR]at h3;unfold execOp;rw[ho];simp[convert,run_underlying h1,run_underlying h2,h3.1,Conv.intToInt,hz]
theorem zy{x y:Operand}{tt tt':TypeId}{k:IntKind}{p q:Int}(ho:o.op= .binOp .rem tt x y tt')(hx:s.op x= .sc (.int k p))(hy:s.op y= .sc (.int k q))(hq:q≠0):bp P o s (.sc (.int k (p.tmod q))):=
 jx ho hx hy rfl fun w=>by simp[eqGuard,binOp,Op.intDiv,hq]
theorem Fy{x y:Operand}{tt tt':TypeId}{k:IntKind}{p q:Int}(ho:o.op= .binOp .quo tt x y tt')(hx:s.op x= .sc (.int k p))(hy:s.op y= .sc (.int k q))(hq:q≠0):bp P o s (.sc (.int k (k.wrap (p.tdiv q)))):=
 jx ho hx hy rfl fun w=>by simp[eqGuard,binOp,Op.intDiv,hq]
theorem Mt{x y:Operand}{tt tt':TypeId}{k:IntKind}{m c:Nat}{q:Int}(ho:o.op= .binOp .quo tt x y tt')(hx:s.op x= .sc (.int k (m:Int)))(hy:s.op y= .sc (.int k q))(hq:q=(c:Int))(hc:Nat.blt 0 c=true)(hw:k.wrap ((m/c:Nat):Int)=((m/c:Nat):Int)):bp P o s (.sc (.int k ((m/c:Nat):Int))):=by
 subst hq;have hc':0<c:=by simpa[bf]using hc
 have:=Fy (P:=P) ho hx hy aa;rw[show((m:Int)).tdiv (c:Int)=((m/c:Nat):Int)from rfl,hw]at this;exact this
theorem Fx{x y:Operand}{tt tt':TypeId}{k:IntKind}{m c:Nat}{q:Int}(ho:o.op= .binOp .rem tt x y tt')(hx:s.op x= .sc (.int k (m:Int)))(hy:s.op y= .sc (.int k q))(hq:q=(c:Int))(hc:Nat.blt 0 c=true):bp P o s (.sc (.int k ((m%c:Nat):Int))):=by
 subst hq;have hc':0<c:=by simpa[bf]using hc
 have:=zy (P:=P) ho hx hy aa;rw[show((m:Int)).tmod (c:Int)=((m%c:Nat):Int)from rfl]at this;exact this
theorem Mu{x y:Operand}{tt:TypeId}{u v:Value}(ho:o.op= .buildSlice tt 2 #[(0,x),(1,y)])(hx:s.op x= .sc u)(hy:s.op y= .sc v)(ht:P.underlying tt=some (.slice (P.elem tt)))(hz:(P.info? (P.elem tt)).map (fun i=>(i.zero.isSome,i.size))=some (true,1)):bp P o s (.ls 1 [.sc u,.sc v]):=fun X f a w base hX _ hs=>by
 have h1:=hs x bA;have h2:=hs y bA;rw[hx]at h1;rw[hy]at h2;simp only[SR,AR]at h1 h2
 cases hq:P.info? (P.elem tt)with
 |none=>rw[hq]at hz;cases hz
 |some inf=>
  rw[hq]at hz;simp only[ck,ai,aD]at hz;obtain⟨z,hz1⟩:=cA.1 hz.1;have c1:=gj h1.2;have c2:=gj h2.2;have hfill:=Go.Great.fill_whole (s:=1) aa [u,v] ((Array.range (2*1)).map (z.cells[· %z.cells.size]!)) (by intro x hx;simp at hx;rcases hx with rfl|rfl<;>simp[c1,c2]) aU;have hr:(execOp a.eval o).run P w= .ok (.value (.slice (some ⟨w.heap.size,0,none⟩) 2 2)) (w.alloc (.cells #[u,v] (P.elem tt))):=by
   unfold execOp;rw[ho];have:=run_buildSlice (P:=P) w tt (P.elem tt) 2 #[(0,u),(1,v)] #[u,v] inf z ht hq hz1 (by rw[hz.2];omega) (by rw[hz.2];omega) (by
    rw[hz.2];simpa[c1,c2]using hfill)
   simp[Sem.run_bind,h1.1,h2.1,this]
  have hb:Below w.heap.size w (w.alloc (.cells #[u,v] (P.elem tt))):=(Below.refl _ _).alloc (af _) _;have hra:=nL w #[u,v] (P.elem tt);rw[hr];refine⟨?_,hb,fun h=>by simp[D.pK]at h⟩;simp only[SR,AR,ARs,reduceCtorEq,false_or];refine⟨_,2,rfl,af _,w.heap.size,0,rfl,fun e=>by have:=(hX _ e).1;omega,by simp,⟨u,⟨rfl,h1.2⟩,rfl,rfl,fun j x hj=>hra j x ?_⟩,⟨v,⟨rfl,h2.2⟩,rfl,rfl,fun j x hj=>?_⟩,trivial⟩
  ·rw[c1]at hj
   match j with
   |0=>simpa using hj
   |j+1=>simp at hj
  ·rw[c2]at hj
   match j with
   |0=>simpa using hra 1 x (by simpa using hj)
   |j+1=>simp at hj
theorem CX{x y:Operand}{tt:TypeId}{wd:Nat}{lo:List D}{q:IntKind}{z:Int}{m:Nat}(ho:o.op= .slice tt x none (some y) none)(hx:s.op x= .ls wd lo)(hy:s.op y= .sc (.int q z))(ht:P.underlying tt=some (.slice (P.elem tt)))(hz:(P.info? (P.elem tt)).map (·.size)=some wd)(hm:z.toNat=m)(hb:0<=z/\z<=lo.length):bp P o s (.ls wd (lo.take m)):=fun X f a w base _ _ hs=>by
 subst hm;have h1:=hs x bA;have h2:=hs y bA;rw[hx]at h1;rw[hy]at h2;simp only[SR,AR]at h1 h2;obtain⟨ad,c,h3,h4,h5⟩:=h1
 cases hq:P.info? (P.elem tt)with
 |none=>rw[hq]at hz;cases hz
 |some inf=>
  have hle:z<=(c:Int):=by omega
  have hlen:(lo.take z.toNat).length=z.toNat:=by rw[aP];omega
  have hr:(execOp a.eval o).run P w= .ok (.value (.slice ad z.toNat c)) w:=by
   unfold execOp;rw[ho];simp only[Option.map_none,ck,h3,h2.1];have hru:=run_underlying ht w;simp[Instr.sliceAt,Instr.slice,Instr.sliceBounds,Instr.sliceBound,asIntOf,hru,hb.1,hle,sizeOf,typeInfo,hq];intro _;cases ad<;>simp[Addr.add]
  refine dA hr ?_;simp only[SR,AR];refine⟨ad,c,by rw[hlen],by rw[hlen];omega,?_⟩;rcases h5 with h5|⟨b,off,e,k1,k2,k3⟩
  ·exact .inl (by rw[h5];simp)
  ·refine .inr ⟨b,off,e,k1,k2,ARs.mk fun i d hd=>?_⟩;rw[fC]at hd;split at hd
   ·exact ARs.at k3 hd
   ·cases hd
theorem Kw{fn:Func}{s:S}{k t:Nat}{q:Ow}(hr:fn.results= #[.tmp t])(ht:s.gt t= .own k)(hk:(k,q)∈s.ow)(hkh:hdr k=false:=by exact rfl):∃s',Sh X0 n s s'/\Res P fn s' (.ls q.wd q.l):=by
 refine⟨_,Bh hk hkh,?_⟩;have e:(⟨shut k q.wd q.l s.sl,eR k s.ow⟩:S).gt t= .ls q.wd q.l:=by
  show look (shut k q.wd q.l s.sl) t=_;rw[qY,show look s.sl t= .own k from ht];simp[lk,eD]
 have:=nV.tmp (P:=P) (s:=⟨shut k q.wd q.l s.sl,eR k s.ow⟩) t (by rw[e];rfl);rw[e]at this;exact .one _ _ hr this
theorem FG{g:FuncId}{fn:Func}{c:Code}{ds:List D}{X:Nat->Prop}{w:World}{vs:Array Value}{R:Ending->World->Prop}(hf:P.funcs[g]?=some fn)(hb:fn.body=some c)(hn:Nat.ble ds.length fn.ntmps=true)(hds:ds.all D.seen=true)(hX:XW X w)(hv:ATp X w ds vs.toList)(Q:Exit->S->Prop)
  (h:aW P X fn.ntmps c Q ⟨aQ 0 ds,[]⟩) (hQ:∀e s f a w',Q e s->Hd X fn.ntmps ⟨w,fun _=>False,fun _=>undef⟩ s f a w'->(e= .normal\/e= .ret)/\∃v,(results fn a.tmps).run P w'= .ok v w'/\R (.returned v) w'):Calls P g vs w R:=by
 have hlen:∀(ds:List D) (vs:List Value),ATp X w ds vs->vs.length=ds.length:=fun ds=>by
  induction ds with
  |nil=>intro vs h;simp only[ATp]at h;rw[h];rfl
  |cons d ds ih=>intro vs h;simp only[ATp]at h;obtain⟨u,rest,rfl,_,h3⟩:=h;simp[ih rest h3]
 have hl:=hlen ds _ hv;simp only[bJ]at hl;have hn':ds.length<=fn.ntmps:=by simpa using hn
 have hd:Hd X fn.ntmps ⟨w,fun _=>False,fun _=>undef⟩ ⟨aQ 0 ds,[]⟩ (fun _=>undef) {tmps:=vs++Array.replicate (fn.ntmps-vs.size) undef,defers:=[]} w:=by
  have hXX:∀b,XO X ⟨aQ 0 ds,[]⟩ (fun _=>undef) b->X b:=fun b hb=>by
   rcases hb with hb|⟨p,hp,_⟩
   ·exact hb
   ·cases hp
  refine⟨by simp;omega,rfl,Gr.refl _ _,hX,fun _ _ h=>h,fun _ _=>rfl,fun p hp=>by(cases hp),fun t=>?_,fun p hp=>by(cases hp),fun b hb=>?_,fun p hp=>by(cases hp),fun p hp=>by(cases hp)⟩
  ·show SR _ _ _ (look (aQ 0 ds) t) _;rw[ns,aj (aO _),iV]
   cases hd:ds[t]? with
   |none=>exact SR.any
   |some d=>
    have hd1:d.seen=true:=by rw[fD]at hds;exact hds d (bh hd)
    obtain⟨u,k1,k2⟩:=ATp.at hv hd;have k1':vs[t]?=some u:=by simpa using k1
    have hlt:=(dz.1 k1').1;have e:(vs++Array.replicate (fn.ntmps-vs.size) undef).getD t undef=u:=by
     rw[cn,nK hlt,k1'];rfl
    show SR _ _ _ d (Array.getD _ t undef);rw[e];have k3:=AR.free k2 (fun b _ hb=>hXX b hb);cases d<;>first|exact k3|simp[D.seen]at hd1
  ·obtain⟨p,hp,_⟩:=hb;cases hp
 refine calls_of_wp hf hb (Code.wp_mono (fun e a w' ⟨s',f',h1,h2⟩=>?_) (h ⟨w,fun _=>False,fun _=>undef⟩ (fun _=>undef) _ w hd));obtain⟨h3,v,h4,h5⟩:=hQ e s' f' a w' h2 h1;rcases h3 with rfl|rfl
 ·exact⟨h1.df,v,h4,h5⟩
 ·exact⟨h1.df,v,h4,h5⟩
end
end DW
end
section
open Go.RowKit
namespace DW
section
variable {P : Program} {X0 : Nat->Prop} {n : Nat} {Q : Exit->S->Prop} {s : S} {sl : List (Nat × D)} {ow : List (Nat × Ow)} {o : Oper} {ops : Array Oper} {l : List Oper} {K : S->Prop} {t : Nat} {d : D}
theorem fM(z:Int)(m wd:Nat)(h:z=(m:Int)):z.toNat*wd=m*wd:=by rw[h,lv]
theorem Gc{z:Int}{m:Nat}(h:z=(m:Int)):z.toNat=m:=by rw[h,lv]
theorem yQ{α:Type}{f:α->D}{m:List α}{z:Int}{j:Nat}{x:α}(hz:z=(j:Int))(h:m[j]?=some x):(m.map f)[z.toNat]?=some (f x):=by rw[hz,lv,db,h];rfl
theorem jG{x:D}:([x]:List D)[0]?=some x:=rfl
theorem pL{α:Type}{f:α->D}{m:List α}{i:Nat}{x:α}(h:m[i]?=some x):(m.map f)[i]?=some (f x):=by rw[db,h];rfl
theorem MQ{x:Operand}{tt T:TypeId}{wd k:Nat}{sl':List (Nat×D)}(hg:o.guard=none)(hdst:o.dst=some t)(ht:Nat.blt t n=true)(ho:o.op= .buildSlice tt 1 #[(0,x)])(hx:S.op ⟨sl,ow⟩ x=d)(hf:d.fits=true)(hw:d.wd=wd)(hn:d.nw=true)(htt:P.underlying tt=some (.slice T))(hi:(P.info? T).map (fun i=>(i.zero.isSome,i.size))=some (true,wd))(h0:Nat.blt 0 wd=true)(h1:Nat.ble wd 1000000=true)(hk:ow.all (fun p=>!Nat.beq p.1 k)=true)(hs:kill k sl=sl')
  (h:aL P X0 n ops l K ⟨(t,.own k)::sl',(k,⟨T,wd,[d]⟩)::ow⟩) (hk0:Nat.blt k 1000000=true:=by exact rfl):aL P X0 n ops (o::l) K ⟨sl,ow⟩:=by
 subst hs;subst hw;have h0':0<d.wd:=by simpa[bf]using h0
 have h1':d.wd<=1000000:=by simpa using h1
 refine gQ fun w0 f a w Qx hh=>⟨by simp[Region.wanted,hg],?_⟩;have h2:=hh.op x;rw[hx]at h2;have h2':AR (XO X0 ⟨sl,ow⟩ f) w d (a.eval x):=by cases d<;>first|exact h2|simp[D.fits]at hf
 have hsz:=AR.size d _ hf h2'
 cases hq:P.info? T with
 |none=>rw[hq]at hi;cases hi
 |some inf=>
  rw[hq]at hi;simp only[ck,ai,aD]at hi;obtain⟨z,hz1⟩:=cA.1 hi.1;have hfill:=Go.Great.fill_whole (s:=inf.size) aa [a.eval x] ((Array.range (1*inf.size)).map (z.cells[· %z.cells.size]!)) (by intro v hv;rw[bV.1 hv,hsz,hi.2]) aU;have hrun:(execOp a.eval o).run P w= .ok (.value (.slice (some ⟨w.heap.size,0,none⟩) 1 1)) (w.alloc (.cells (a.eval x).cells T)):=by
   unfold execOp;rw[ho];have:=run_buildSlice (P:=P) w tt T 1 #[(0,a.eval x)] (a.eval x).cells inf z htt hq hz1 (by rw[hi.2];omega) (by rw[hi.2];omega) (by
    simpa using hfill)
   simp[Sem.run_bind,this]
  unfold Oper.wp;rw[hrun];simp only[Oper.upon,hdst];refine⟨_,_,hh.new (k:=k) (cap:=1) (q:=⟨T,d.wd,[d]⟩) (kU hk) hk0 h0' (af _) (by simp[maxLen]) (by simpa using hsz) ⟨a.eval x,[],?_,h2',hf,rfl,hn,rfl⟩ (.inl aU) sQ (d:=.own k) (fun X=>?_),h⟩
  ·simp only[gY,cv,gZ];rw[cR (by simp[hsz])]
  ·simp[SR]
end
end DW
end
section
open Go.RowKit Go.BigFrame
attribute [local go_sem ↓] Go.wp_at_zero Go.wp_at_succ
abbrev B16:Nat:=65536
def HS(w:World)(a:Option Addr)(l:List Nat):Prop:=l=[]\/∃g,a=some ⟨g,0,none⟩/\g<w.heap.size/\∀(k:Nat) (x:Nat),l[k]?=some x->w.cell? ⟨g,k,none⟩=some (.int .i64 ((x:Int)))
theorem HS.below{B:Nat}{w w':World}{a:Option Addr}{l:List Nat}(h:HS w a l)(hb:Below B w w')(hB:w.heap.size<=B):HS w' a l:=by
 rcases h with h|⟨g,e,hg,hc⟩
 ·exact .inl h
 ·exact .inr ⟨g,e,aK hg hb.size,fun k x hx=>(hb.cell (p:=⟨g,k,none⟩) (aK hg hB)).trans (hc k x hx)⟩
def HV(w:World)(v:Value)(l:List Nat):Prop:=(v= .slice none 0 0/\l=[])\/∃g cap,v= .slice (some ⟨g,0,none⟩) l.length cap/\l.length<=cap/\cap<=9223372036854775807/\g<w.heap.size/\∀(k:Nat) (x:Nat),l[k]?=some x->w.cell? ⟨g,k,none⟩=some (.int .i64 ((x:Int)))
theorem HV.parts{w:World}{v:Value}{l:List Nat}(h:HV w v l):∃a cap,v= .slice a l.length cap/\l.length<=cap/\HS w a l:=by
 rcases h with⟨rfl,rfl⟩|⟨g,cap,e,h1,_,hg,hc⟩
 ·exact⟨none,0,rfl,af _,.inl rfl⟩
 ·exact⟨_,cap,e,h1,.inr ⟨g,rfl,hg,hc⟩⟩
theorem JJ{l:List Nat}(h:Dg.dig B16 l):Dg.NF B16 (l.take (tl l))/\Dg.vl B16 (l.take (tl l))=Dg.vl B16 l:=
 Dg.AJ h (gW l) (fun j h1 _=>lV l j h1) (oy l)
def HRes(w:World)(e:Ending)(N:Nat):Prop:=∃v l,e= .returned v/\HV w v l/\Dg.NF B16 l/\Dg.vl B16 l=N
theorem HV.take{w:World}{g cap n:Nat}{l:List Nat}(h:HV w (.slice (some ⟨g,0,none⟩) l.length cap) l)(hn:n<=l.length):HV w (.slice (some ⟨g,0,none⟩) n cap) (l.take n):=by
 rcases h with⟨e,_⟩|⟨g',cap',e,h1,h2,hg,hc⟩
 ·cases e
 ·cases e;refine .inr ⟨g,cap,by rw[aP,cV hn],by rw[aP];omega,h2,hg,fun k x hx=>?_⟩;have hk:k<n:=by have:=(cw.1 hx).1;rw[aP]at this;omega
  rw[fS hk]at hx;exact hc k x hx
end
section
open Go.RowKit Go.BigFrame
attribute [local go_sem ↓] Go.wp_at_zero Go.wp_at_succ
def hw:List Nat->List Nat
 |[]=>[]
 |x::l=>x%65536::x/65536::hw l
theorem wG:∀l m:List Nat,hw (l++m)=hw l++hw m
 |[],m=>rfl
 |x::l,m=>by simp[hw,wG l m]
theorem zg:∀l:List Nat,(hw l).length=2*l.length
 |[]=>rfl
 |x::l=>by simp[hw,zg l];omega
theorem Ff:∀{l:List Nat},Dg.dig B32 l->Dg.dig B16 (hw l)
 |[],_=>fun x h=>by cases h
 |x::l,h=>by
  have h1:=Dg.jy h;have h2:=Ff h1.2;have h3:x<4294967296:=h1.1;intro y hy;simp only[hw,bI]at hy;rcases hy with rfl|rfl|hy
  ·show x%65536<65536;omega
  ·show x/65536<65536;omega
  ·exact h2 y hy
theorem I9:∀l:List Nat,Dg.vl B16 (hw l)=Dg.vl B32 l
 |[]=>rfl
 |x::l=>by
  simp only[hw,Dg.eJ,I9 l,B16,B32];omega
theorem Kp{l:List Nat}{k x:Nat}(h:l[k]?=some x):hw (l.take (k+1))=hw (l.take k)++[x%65536,x/65536]:=by
 rw[nd,h,wG];rfl
end
section
open Go.RowKit Go.BigFrame
attribute [local go_sem ↓] Go.wp_at_zero Go.wp_at_succ
def pk:List Nat->List Nat
 |[]=>[]
 |[x]=>[x]
 |x::y::l=>(x+y*65536)::pk l
theorem I3:∀l:List Nat,Dg.vl B32 (pk l)=Dg.vl B16 l
 |[]=>rfl
 |[x]=>rfl
 |x::y::l=>by
  simp only[pk,Dg.eJ,I3 l,B16,B32];omega
theorem EN:∀{l:List Nat},Dg.dig B16 l->Dg.dig B32 (pk l)
 |[],_=>fun x h=>by cases h
 |[x],h=>fun y hy=>by
  simp only[pk,bV]at hy;have:=h x br;subst hy;show y<4294967296;have:y<65536:=this;omega
 |x::y::l,h=>by
  have h1:=Dg.jy h;have h2:=Dg.jy h1.2;have h3:=EN h2.2;have h4:x<65536:=h1.1;have h5:y<65536:=h2.1;intro z hz;simp only[pk,bI]at hz;rcases hz with rfl|hz
  ·show x+y*65536<4294967296;omega
  ·exact h3 z hz
theorem I4:∀{l:List Nat},l≠[]->pk l≠[]
 |[],h=>absurd rfl h
 |[x],_=>by simp[pk]
 |x::y::l,_=>by simp[pk]
theorem AA:∀{l:List Nat},l.getLast?≠some 0->(pk l).getLast?≠some 0
 |[],h=>h
 |[x],h=>h
 |x::y::[],h=>by
  simp[pk]at h⊢;omega
 |x::y::z::l,h=>by
  have h1:(z::l).getLast?≠some 0:=by simpa using h
  have h2:=AA h1;have h3:pk (z::l)≠[]:=I4 aU;simp only[pk];rw[List.getLast?_cons];obtain⟨u,hu⟩:∃u,(pk (z::l)).getLast?=some u:=by
   cases h4:(pk (z::l)).getLast? with
   |none=>rw[List.getLast?_eq_none_iff]at h4;exact absurd h4 h3
   |some u=>exact⟨u,rfl⟩
  rw[hu]at h2⊢;simpa using h2
theorem pk_nf{l:List Nat}(h:Dg.NF B16 l):Dg.NF B32 (pk l):=⟨EN h.dg,AA h.nz⟩
theorem Az:∀{l:List Nat} {k x:Nat},l[2*k]?=some x->pk (l.take (2*k+2))=pk (l.take (2*k))++[x+l.getD (2*k+1) 0*65536]
 |[],k,x,h=>by simp at h
 |[y],0,x,h=>by
  simp at h;subst h;simp[pk]
 |[y],k+1,x,h=>by simp at h
 |y::z::l,0,x,h=>by
  simp at h;subst h;simp[pk]
 |y::z::l,k+1,x,h=>by
  have e:2*(k+1)=2*k+1+1:=by omega
  rw[e]at h⊢;have h1:l[2*k]?=some x:=by simpa using h
  have h2:=Az h1;simp only[eZ,pk,jk,pd,h2]
theorem GF{l:List Nat}{k x:Nat}(hk:k%2=0)(h:l[k]?=some x):pk (l.take (k+2))=pk (l.take k)++[x+l.getD (k+1) 0*65536]:=by
 obtain⟨j,rfl⟩:∃j,k=2*j:=⟨k/2,by omega⟩;exact Az h
theorem LA{l:List Nat}{k:Nat}(h:l.length<=k):pk (l.take k)=pk l:=by rw[cR h]
theorem EM:∀l:List Nat,(pk l).length<=l.length
 |[]=>af _
 |[x]=>af _
 |x::y::l=>by have:=EM l;simp[pk];omega
theorem eS.Er{w:World}{base:Nat}{v:Value}{l:List Nat}(h:eS w base v l){g o:Nat}(u:Value)(hg:g<base):eS (w.setCell ⟨g,o,none⟩ u) base v l:=by
 refine World.ownsRow.kept h (im w g o u) ?_
 cases e:v.ownBlock with
 |none=>exact .inl rfl
 |some k=>
  right;intro e2;have:=(World.ownsRow.lt h k e).1;cases e2;omega
set_option maxRecDepth 10000 in
set_option maxHeartbeats 8000000 in
theorem Fh(s:Bool)(l:List Nat)(v:Value)(hl:l.length<=2000000000000)(hd:Dg.dig B16 l)(w:World)(TR0:∀W,Below w.heap.size w W->Calls Tryz.prog 188 #[v] W fun e w'=>HRes w' e (Dg.vl B16 l)/\Below W.heap.size W w'):
  Calls Tryz.prog 150 #[.bool s,v] w fun e w'=>(∃x,e= .returned (.agg #[.bool x.s,.slice x.a x.n x.cap])/\IZ w' x (Dg.iv s (Dg.vl B16 l)))/\Below w.heap.size w w':=by
 have TR:=ae TR0;clear TR0;have hN:=Dg.bH hd;have LB:Hid (∀m:List Nat,Dg.NF B16 m->Dg.vl B16 m=Dg.vl B16 l->m.length<=2000000000000):=fun m h1 h2=>by
  rcases Nat.lt_or_ge l.length m.length with h3|h3
  ·obtain⟨k,hk⟩:∃k,m.length=k+1:=⟨m.length-1,by omega⟩;have h4:=Dg.kb hk h1;have h5:=Dg.bH hd;have h6:B16^l.length<=B16^k:=cE az aa;omega
  ·omega
 generalize hNe:Dg.vl B16 l=N at*;clear hNe hN hd;obtain⟨d,hd⟩:∃d,d=decide (N≠0):=⟨_,rfl⟩;have fin:∀(c:Bool),(c=(s&&d))->∀(m:List Nat) (w':World) (v1:Value) (base:Nat),Dg.NF B16 m->Dg.vl B16 m=N->eS w' base v1 (pk m)->∃x:IV,v1= .slice x.a x.n x.cap/\x.s=c/\IZ w' x (Dg.iv s N):=fun c hc m w' v1 base h1 h2 h3=>by
  obtain⟨a,cap,e,h4,_,h5,_⟩:=h3.ws;refine⟨⟨c,a,(pk m).length,cap⟩,e,rfl,pk m,⟨rfl,h4,h5,pk_nf h1⟩,fun e=>?_,?_⟩
  ·have:m=[]:=Decidable.byContradiction fun hm=>I4 hm e;subst this;have:N=0:=h2.symm;subst this;simp[hc,hd]
  ·rw[I3,h2];by_cases h0:N=0
   ·subst h0;rw[Dg.oE,Dg.oE]
   ·simp[hc,hd,h0]
 have FIN:=ae fin;clear fin;have key:∀m,Dg.NF B16 m->Dg.vl B16 m=N->decide ((0:Int)<(m.length:Int))=d:=fun m h1 h2=>by
  have h3:=Dg.rZ h1 az;rw[hd,decide_eq_decide,<-h2];constructor
  ·intro h4 h5;rw[h3.1 h5]at h4;simp at h4
  ·intro h4;have:m≠[]:=fun e=>h4 (h3.2 e);have:=fT.2 this;omega
 have KEY:=ae key;clear key hd;obtain⟨c0,hc0⟩:∃c0,c0=(s&&d):=⟨_,rfl⟩;have W1b:∀(W:World) (b x:Nat),b=W.heap.size->WS (W.alloc (.cells #[.int .u32 (x:Int)] 138)) (some ⟨b,0,none⟩) [x]:=fun W b x hb=>Am W _ b x hb;have WB:=ae W1b;have FIN1:=ae (FIN.out c0 hc0);clear W1b FIN;cases s<;>cases d;all_goals
  simp only[Bool.and_false,Bool.and_true]at hc0;have HC0:=ae hc0;clear hc0
  go_enter Tryz.func150,Tryz.ntmps150
  go_wp2_with (first|(go_at_call 188;(with_reducible refine(TR.out _ ?_).mono ?_);(exact bel);rintro e w1 ⟨⟨v1,m,rfl,h1,h2,h3⟩,hb1⟩;obtain⟨a1,c1,rfl,hle1,hv1⟩:=h1.parts;have hdf:=KEY.out m h2 h3;have HM:=ae (And.intro h2 h3);have hml:=LB.out m h2 h3;clear h1 h2 h3;obtain⟨g1,rfl⟩:=mob hb1;clear hb1;have HS1:=ae hv1;clear hv1;(obtain⟨q,hq⟩:∃q,q=m.length:=(⟨_,rfl⟩));have HQ:=ae hq;rw[<-hq]at hdf hml⊢;clear hq hle1))
  have hb5:∃b5,b5=w.heap.size+1+g1.2.size:=⟨_,rfl⟩;obtain⟨b5,hb5⟩:=hb5;have HB5:=ae hb5;have hqb:(q:Int)<=2000000000000:=by omega
  rw[<-hb5];clear hb5
  go_loopw [6] (fun i wr=>∃(k:Nat) (v:Value),k<=q+1/\i= .int .i64 ((k:Int))/\Hid (k%2=0)/\wr.cell? ⟨b5,0,none⟩=some (.bool c0)/\wr.cell? ⟨b5,1,none⟩=some v/\wr.frozen? ⟨b5,1,none⟩=false/\b5<wr.heap.size/\Hid (eS wr (b5+1) v (pk (m.take k))/\Below b5 (more (w.alloc (.cells #[.bool false,.slice none 0 0] 62)) g1) wr)) (fun i _=>q+1-(intOf i).toNat)
  case atStart=>
   refine⟨0,.slice none 0 0,by omega,rfl,rfl,?_,?_,?_,?_,eS.nil _ _,?_⟩
   ·rw[HB5.out,HC0.out];go_simp<;>(simp at hdf;omega)
   ·rw[HB5.out];go_simp
   ·rw[HB5.out];go_simp
   ·rw[HB5.out];simp
   ·rw[HB5.out];refine Below.alloc (Below.refl _ _) ?_ _;simp
  case round=>
   obtain⟨k,v,hk,rfl,HK,k0,k1,kf,kl,HR⟩:=hrel;by_cases hkq:k<q
   ·have hkq2:(k:Int)<(q:Int):=by omega
    obtain⟨x,hx⟩:∃x,m[k]?=some x:=⟨_,aV (by rw[<-HQ.out];exact hkq)⟩;have hxb:x<65536:=HM.out.1.dg x (bh hx);rcases HS1.out.below (HR.out.2) (by rw[HB5.out];simp)with h0|⟨g,ha,hg,hcc⟩
    ·rw[h0]at hx;simp at hx
    have c2:=hcc k x hx;subst ha;have PK0:=GF HK.out hx;obtain⟨z,hz⟩:∃z,z=x+m.getD (k+1) 0*65536:=⟨_,rfl⟩;rw[<-hz]at PK0;have HZ:=ae hz;have PK:=ae PK0;clear hz PK0;have hlen:(pk (m.take k)).length+[z].length<=4000000000000:=by
     have:=EM (m.take k);rw[aP]at this;simp;omega
    by_cases hkq3:k+1<q
    ·have hkq4:(k:Int)+1<(q:Int):=by omega
     obtain⟨y,hy⟩:∃y,m[k+1]?=some y:=⟨_,aV (by rw[<-HQ.out];exact hkq3)⟩;have hyb:y<65536:=HM.out.1.dg y (bh hy);have c3:=hcc (k+1) y hy;have hyd:m.getD (k+1) 0=y:=by rw[aF,hy];rfl
     have HY:Hid (∀(W:World) (b:Nat),b=W.heap.size->WS (W.alloc (.cells #[.int .u32 ((x:Int)+(y:Int)*65536)] 138)) (some ⟨b,0,none⟩) [z]):=fun W b hb=>by
      rw[show(x:Int)+(y:Int)*65536=(z:Int) by have:=HZ.out;rw[hyd]at this;omega];exact WB.out W b _ hb
     have hx2:(x:Int)<65536:=by omega
     have hy2:(y:Int)<65536:=by omega
     clear hcc hx hy hyd hxb hyb
     go_wp2_with (first|(at_builtin;go_must (refine iy (w0:=wr) (base:=b5+1) (v:=v) (l:=pk (m.take k)) ?_ ?_ ?_ 60 60 Tryz.underlying60 Tryz.underlying60 [z] wr.heap.size 1 1 rfl ?_ hlen rfl (.tmp 43) (.tmp 45) rfl (by rfl) (by rfl) ?_);(exact World.ownsRow.alloc HR.out.1 _);(exact bel);(focus(simp;omega));(exact HY.out _ _ aU);intro v4 w4 hown4 hB4 hz4;obtain⟨a4,cap4,hv4,_⟩:=hown4.ws;subst hv4;have HO4:=ae (And.intro hown4 hB4);have k4:=(hB4.cell (p:=⟨b5,0,none⟩) (iU _)).trans k0;have k5:=(hB4.cell (p:=⟨b5,1,none⟩) (iU _)).trans k1;have k6:=(hB4.frozen (p:=⟨b5,1,none⟩) (iU _)).trans kf;clear hown4 hB4))
     go_roundw
     case rel=>
      refine⟨k+2,.slice a4 ((pk (m.take k)).length+1) cap4,by omega,by go_num,by have:=HK.out;show(k+2)%2=0;omega,?_,?_,?_,?_,?_,?_⟩
      ·rw[dR _ _ _ _ _ aa];exact k4
      ·exact eU _ _ _ _ _ k5
      ·rw[World.frozen?_setCell];exact k6
      ·simp;omega
      ·have h1:=HO4.out.1;rw[show(pk (m.take k)++[z]).length=(pk (m.take k)).length+1 by simp]at h1;rw[<-PK.out]at h1;exact h1.Er _ (iU _)
      ·exact Below.setCell (Below.trans HR.out.2 (HO4.out.2.mono (lx _))) (af _) _
     case measure=>simp[intOf];omega
    ·have hkq4:¬(k:Int)+1<(q:Int):=by omega
     have hyd:m.getD (k+1) 0=0:=by rw[aF,gw (by rw[<-HQ.out];omega)];rfl
     have HY:Hid (∀(W:World) (b:Nat),b=W.heap.size->WS (W.alloc (.cells #[.int .u32 (x:Int)] 138)) (some ⟨b,0,none⟩) [z]):=fun W b hb=>by
      rw[show(x:Int)=(z:Int) by have:=HZ.out;rw[hyd]at this;omega];exact WB.out W b z hb
     have hx2:(x:Int)<65536:=by omega
     clear hcc hx hyd hxb
     go_wp2_with (first|(at_builtin;go_must (refine iy (w0:=wr) (base:=b5+1) (v:=v) (l:=pk (m.take k)) ?_ ?_ ?_ 60 60 Tryz.underlying60 Tryz.underlying60 [z] wr.heap.size 1 1 rfl ?_ hlen rfl (.tmp 43) (.tmp 45) rfl (by rfl) (by rfl) ?_);(exact World.ownsRow.alloc HR.out.1 _);(exact bel);(focus(simp;omega));(exact HY.out _ _ aU);intro v4 w4 hown4 hB4 hz4;obtain⟨a4,cap4,hv4,_⟩:=hown4.ws;subst hv4;have HO4:=ae (And.intro hown4 hB4);have k4:=(hB4.cell (p:=⟨b5,0,none⟩) (iU _)).trans k0;have k5:=(hB4.cell (p:=⟨b5,1,none⟩) (iU _)).trans k1;have k6:=(hB4.frozen (p:=⟨b5,1,none⟩) (iU _)).trans kf;clear hown4 hB4))
     go_roundw
     case rel=>
      refine⟨k+2,.slice a4 ((pk (m.take k)).length+1) cap4,by omega,by go_num,by have:=HK.out;show(k+2)%2=0;omega,?_,?_,?_,?_,?_,?_⟩
      ·rw[dR _ _ _ _ _ aa];exact k4
      ·exact eU _ _ _ _ _ k5
      ·rw[World.frozen?_setCell];exact k6
      ·simp;omega
      ·have h1:=HO4.out.1;rw[show(pk (m.take k)++[z]).length=(pk (m.take k)).length+1 by simp]at h1;rw[<-PK.out]at h1;exact h1.Er _ (iU _)
      ·exact Below.setCell (Below.trans HR.out.2 (HO4.out.2.mono (lx _))) (af _) _
     case measure=>simp[intOf];omega
   ·have hkq2:¬(k:Int)<(q:Int):=by omega
    have hfin:=FIN1.out m wr v (b5+1) HM.out.1 HM.out.2 (by have h1:=HR.out.1;rw[LA (by rw[<-HQ.out];omega)]at h1;exact h1);obtain⟨y,rfl,rfl,hy⟩:=hfin;have HY:=ae hy;have r0:wr.cell? ⟨w.heap.size,0,none⟩=some (.bool false):=(HR.out.2.cell (p:=⟨w.heap.size,0,none⟩) BQ).trans (by go_simp);have r1:wr.cell? ⟨w.heap.size,1,none⟩=some (.slice none 0 0):=(HR.out.2.cell (p:=⟨w.heap.size,1,none⟩) BQ).trans (by go_simp);have r2:wr.frozen? ⟨w.heap.size,0,none⟩=false:=(HR.out.2.frozen (p:=⟨w.heap.size,0,none⟩) BQ).trans (by go_simp);have r3:wr.frozen? ⟨w.heap.size,1,none⟩=false:=(HR.out.2.frozen (p:=⟨w.heap.size,1,none⟩) BQ).trans (by go_simp);have r4:w.heap.size<wr.heap.size:=by have:=kl;have:=HB5.out;omega
    have hB6:Below w.heap.size w wr:=Below.trans (b:=more (w.alloc (.cells #[.bool false,.slice none 0 0] 62)) g1) aJ (HR.out.2.mono (by rw[HB5.out];omega));have HB6:=ae hB6;clear hy hB6
    go_wp2_with fail
    refine bodyPost_ret (v:=.agg #[.bool y.s,.slice y.a y.n y.cap]) (by simp[results,Tryz.results150,go_sem,r0,r1]) rfl ⟨⟨y,rfl,?_⟩,?_⟩
    ·refine(HY.out.off (Off.set wr w.heap.size 0 _) r0).off (Off.set _ w.heap.size 1 _) (c:=y.s) ?_;exact eU _ _ _ _ _ r0
    ·have hB:=HB6.out;exact bel
end
end Go.Proofs.YtcgjmdpcplhanaaGreat
