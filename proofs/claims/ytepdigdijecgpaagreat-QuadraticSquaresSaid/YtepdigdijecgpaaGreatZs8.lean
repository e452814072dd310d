/- Lemmas for the law: F23 F24 F25 F28 F29 F30 LJ -/
import Derived.Deep.RegionLaw
import Derived.Laws.EntriesVeiled
import Derived.Test.YtepdigdijecgpaaGreatRows
import Derived.JoinedOf
import Derived.WalkKit
import Derived.Test.YtepdigdijecgpaaGreatZs7
namespace Go.Proofs.YtepdigdijecgpaaGreat
section
open Go.RowKit
theorem bQ.sl{W:World}{B:Nat}{T:TypeId}{v:Value}{l:List Value}(h:bQ W B T v l):∃a c,v= .slice a l.length c/\l.length<=c:=by
 obtain⟨h0,h⟩:=h;rcases h with⟨hv,hn⟩|⟨g,cap,cur,rfl,hb,hg,hle,_⟩
 ·exact⟨none,0,by rw[hv,hn],by omega⟩
 ·exact⟨_,cap,rfl,hle⟩
theorem bQ.at'{W:World}{B:Nat}{T:TypeId}{v:Value}{l:List Value}(h:bQ W B T v l)(h0:l≠[]):∃g c,v= .slice (some ⟨g,0,none⟩) l.length c/\l.length<=c/\c<=maxLen/\B<=g/\g<W.heap.size/\∀i u,l[i]?=some u->W.cell? ⟨g,i,none⟩=some u:=by
 obtain⟨_,h⟩:=h;rcases h with⟨hv,hn⟩|⟨g,cap,cur,rfl,hb,hg,hle,hm,hsz,htk⟩
 ·exact absurd (fS hn) h0
 ·refine⟨g,cap,rfl,hle,hm,hb,(ft.1 hg).1,fun i u hi=>?_⟩;rw[cell_of_row W g _ cur _ (0,0) hg];rw[en]at htk;rw[<-htk]at hi;rw[gP]at hi;split at hi
  ·rwa[cM]at hi
  ·cases hi
theorem bQ.cut{W:World}{B:Nat}{T:TypeId}{a:Option Addr}{c n:Nat}{l:List Value}{u:Value}(h:bQ W B T (.slice a (n+1) c) (l++[u]))(hl:l.length=n):bQ W B T (.slice a n c) l:=by
 obtain⟨_,h⟩:=h;refine⟨by rw[en],?_⟩;rcases h with⟨hv,hn⟩|⟨g,cap,cur,he,hb,hg,hle,hm,hsz,htk⟩
 ·rw[bK,eQ]at hn;omega
 ·rw[bK,eQ]at hle htk he;simp only[Value.slice.injEq]at he;obtain⟨rfl,_,rfl⟩:=he;rw[en]at htk;refine .inr ⟨g,c,cur,by rw[hl],hb,hg,by omega,hm,hsz,?_⟩;rw[en];have e:(cur.toList.take (l.length+1)).take l.length=l:=by rw[htk,rA (ai _),qM (ai _)]
  rwa[List.take_take,dn aa]at e
theorem bQ.keep{W W':World}{B:Nat}{T:TypeId}{v:Value}{l:List Value}(h:bQ W B T v l)(hk:∀g,v.ownBlock=some g->W'.heap[g]?=W.heap[g]?):bQ W' B T v l:=by
 cases hv:v.ownBlock with
 |none=>exact DW.lI h hv
 |some g=>exact DW.lH h hv (hk g hv)
namespace DW
def XQ(B al ao:Nat)(v v2:Value):Nat->Prop:=fun b=>b<B\/b=al\/b=ao\/v.ownBlock=some b\/v2.ownBlock=some b
def te(X:Nat->Prop)(W:World)(r:List Int)(u:Value):Prop:=∃b c,u= .slice (some ⟨b,0,none⟩) r.length c/\r.length<=c/\¬X b/\b<W.heap.size/\∀i z,r[i]?=some z->W.cell? ⟨b,i,none⟩=some (.int .i64 z)
theorem te.mv{X X':Nat->Prop}{W W':World}{r:List Int}{u:Value}(h:te X W r u)(hs:W.heap.size<=W'.heap.size)(hk:∀b,b<W.heap.size->¬X b->W'.heap[b]?=W.heap[b]?)(hX:∀b,b<W.heap.size->¬X b->¬X' b):te X' W' r u:=by
 obtain⟨b,c,h1,h2,h3,h4,h5⟩:=h;exact⟨b,c,h1,h2,hX b h4 h3,aH h4 hs,fun i z hz=>(World.cell?_of_block (a:=⟨b,i,none⟩) (hk b h4 h3)).trans (h5 i z hz)⟩
structure SqI(W0:World)(B al ak ao ae k:Nat)(p:List Int)(rows:List (List Int))(v v2:Value)(vals:List Value)(W:World):Prop where
 cl:W.cell? ⟨al,0,none⟩=some v
 fl:W.frozen? ⟨al,0,none⟩=false
 ck:W.cell? ⟨ak,0,none⟩=some (.int .i64 k)
 co:W.cell? ⟨ao,0,none⟩=some v2
 fo:W.frozen? ⟨ao,0,none⟩=false
 ce:W.cell? ⟨ae,0,none⟩=some (.func (.func 188) #[] #[.pointer (some ⟨al,0,none⟩),.pointer (some ⟨ak,0,none⟩),.pointer (some ⟨ao,0,none⟩),.pointer (some ⟨ae,0,none⟩)])
 ol:bQ W B 3 v (p.map (Value.int .i64))
 oo:bQ W B 45 v2 vals
 ln:vals.length=rows.length
 ro:∀(i:Nat) (r:List Int) (u:Value),rows[i]?=some r->vals[i]?=some u->te (XQ B al ao v v2) W r u
 nl:∀g,v.ownBlock=some g->g≠al/\g≠ak/\g≠ao/\g≠ae/\v2.ownBlock≠some g
 no:∀g,v2.ownBlock=some g->g≠al/\g≠ak/\g≠ao/\g≠ae
 d1:ak≠al
 d2:ao≠al
 d3:ae≠al
 d4:ak≠ao
 d5:ae≠ao
 bw:Below B W0 W
 b1:B<=al
 b2:B<=ao
section
variable {B al ak ao ae k : Nat} {p p' : List Int} {rows rows' : List (List Int)} {v v' v2 v2' : Value} {vals vals' : List Value} {W0 W W' : World}
theorem SqI.ltl(h:SqI W0 B al ak ao ae k p rows v v2 vals W):al<W.heap.size:=World.block_lt_of_cell? W _ h.cl
theorem SqI.ltk(h:SqI W0 B al ak ao ae k p rows v v2 vals W):ak<W.heap.size:=World.block_lt_of_cell? W _ h.ck
theorem SqI.lto(h:SqI W0 B al ak ao ae k p rows v v2 vals W):ao<W.heap.size:=World.block_lt_of_cell? W _ h.co
theorem SqI.lte(h:SqI W0 B al ak ao ae k p rows v v2 vals W):ae<W.heap.size:=World.block_lt_of_cell? W _ h.ce
theorem SqI.ltB(h:SqI W0 B al ak ao ae k p rows v v2 vals W):B<=W.heap.size:=aE h.b1 (cC h.ltl)
theorem SqI.mv(h:SqI W0 B al ak ao ae k p rows v v2 vals W)(bw:Below B W0 W')(hs:W.heap.size<=W'.heap.size)(hk:∀b,b<W.heap.size->b≠al->b≠ao->v.ownBlock≠some b->v2.ownBlock≠some b->W'.heap[b]?=W.heap[b]?)
  (cl:W'.cell? ⟨al,0,none⟩=some v') (fl:W'.frozen? ⟨al,0,none⟩=false) (co:W'.cell? ⟨ao,0,none⟩=some v2') (fo:W'.frozen? ⟨ao,0,none⟩=false) (ol:bQ W' B 3 v' (p'.map (Value.int .i64))) (oo:bQ W' B 45 v2' vals')
  (hv:v'.ownBlock=v.ownBlock\/∀g,v'.ownBlock=some g->W.heap.size<=g) (hv2:v2'.ownBlock=v2.ownBlock\/∀g,v2'.ownBlock=some g->W.heap.size<=g) (hn:∀g,v'.ownBlock=some g->v2'.ownBlock≠some g)
  (ln:vals'.length=rows'.length) (ro:∀(i:Nat) (r:List Int) (u:Value),rows'[i]?=some r->vals'[i]?=some u->(rows[i]?=some r/\vals[i]?=some u)\/te (XQ B al ao v' v2') W' r u):SqI W0 B al ak ao ae k p' rows' v' v2' vals' W':=by
 have l1:=h.ltl;have l2:=h.ltk;have l3:=h.lto;have l4:=h.lte;refine⟨cl,fl,?_,co,fo,?_,ol,oo,ln,fun i r u h1 h2=>?_,fun g hg=>?_,fun g hg=>?_,h.d1,h.d2,h.d3,h.d4,h.d5,bw,h.b1,h.b2⟩
 ·refine(World.cell?_of_block (a:=⟨ak,0,none⟩) (hk ak l2 h.d1 h.d4 (fun e=>(h.nl ak e).2.1 rfl) (fun e=>(h.no ak e).2.1 rfl))).trans h.ck
 ·refine(World.cell?_of_block (a:=⟨ae,0,none⟩) (hk ae l4 h.d3 h.d5 (fun e=>(h.nl ae e).2.2.2.1 rfl) (fun e=>(h.no ae e).2.2.2 rfl))).trans h.ce
 ·rcases ro i r u h1 h2 with⟨k1,k2⟩|k1
  ·refine(h.ro i r u k1 k2).mv hs (fun b hb hX=>hk b hb (fun e=>hX (.inr (.inl e))) (fun e=>hX (.inr (.inr (.inl e)))) (fun e=>hX (.inr (.inr (.inr (.inl e))))) (fun e=>hX (.inr (.inr (.inr (.inr e)))))) (fun b hb hX hX'=>?_);rcases hX' with e|e|e|e|e
   ·exact hX (.inl e)
   ·exact hX (.inr (.inl e))
   ·exact hX (.inr (.inr (.inl e)))
   ·rcases hv with hv|hv
    ·exact hX (.inr (.inr (.inr (.inl (hv▸e)))))
    ·have:=hv b e;omega
   ·rcases hv2 with hv|hv
    ·exact hX (.inr (.inr (.inr (.inr (hv▸e)))))
    ·have:=hv b e;omega
  ·exact k1
 ·rcases hv with e|e
  ·rw[e]at hg;obtain⟨k1,k2,k3,k4,_⟩:=h.nl g hg;exact⟨k1,k2,k3,k4,hn g (e.trans hg)⟩
  ·have:=e g hg;exact⟨by omega,by omega,by omega,by omega,hn g hg⟩
 ·rcases hv2 with e|e
  ·rw[e]at hg;exact h.no g hg
  ·have:=e g hg;exact⟨by omega,by omega,by omega,by omega⟩
theorem SqI.low(h:SqI W0 B al ak ao ae k p rows v v2 vals W)(hb:Below W.heap.size W W'):SqI W0 B al ak ao ae k p rows v v2 vals W':=
 h.mv (h.bw.trans (hb.mono h.ltB)) hb.size (fun b hl _ _ _ _=>hb.block b hl) ((hb.cell (p:=⟨al,0,none⟩) h.ltl).trans h.cl) ((hb.frozen (p:=⟨al,0,none⟩) h.ltl).trans h.fl) ((hb.cell (p:=⟨ao,0,none⟩) h.lto).trans h.co) ((hb.frozen (p:=⟨ao,0,none⟩) h.lto).trans h.fo)
  (h.ol.low hb) (h.oo.low hb) (.inl rfl) (.inl rfl) (fun g hg=>(h.nl g hg).2.2.2.2) h.ln (fun _ _ _ h1 h2=>.inl ⟨h1,h2⟩)
theorem xf{w w':World}{base:Nat}{T:TypeId}{x x':Value}{l:List Value}{u:Value}(h:mg w w' base T x x' l u):x'.ownBlock=x.ownBlock\/∀g,x'.ownBlock=some g->w.heap.size<=g:=by
 rcases h.at' with e|e
 ·exact .inl e
 ·exact .inr fun g hg=>by rw[e]at hg;cases hg;exact ai _
theorem mc{A:World}{a:Nat}{v u:Value}(h:A.cell? ⟨a,0,none⟩=some u):(A.setCell ⟨a,0,none⟩ v).cell? ⟨a,0,none⟩=some v:=World.cell?_setCell_same' _ _ _ (by rw[h];rfl)
theorem SqI.more(h:SqI W0 B al ak ao ae k p rows v v2 vals W)(hb:Below W.heap.size W W'){W6:World}{x:Int}(hg:mg W' W6 B 3 v v' (p.map (Value.int .i64)) (.int .i64 x)):SqI W0 B al ak ao ae k (p++[x]) rows v' v2 vals (W6.setCell ⟨al,0,none⟩ v'):=by
 have h1:=h.low hb;have l1:=h1.ltl;have l3:=h1.lto;have k1:∀b,b<W'.heap.size->v.ownBlock≠some b->W6.heap[b]?=W'.heap[b]?:=fun b hb hn=>hg.by'.block b hb (fun e=>hn e.symm)
 have al1:v.ownBlock≠some al:=fun e=>(h.nl al e).1 rfl;have ao1:v.ownBlock≠some ao:=fun e=>(h.nl ao e).2.2.1 rfl;have c1:W6.cell? ⟨al,0,none⟩=some v:=(World.cell?_of_block (a:=⟨al,0,none⟩) (k1 al l1 al1)).trans h1.cl;have f1:W6.frozen? ⟨al,0,none⟩=false:=(World.frozen?_of_block (a:=⟨al,0,none⟩) (k1 al l1 al1)).trans h1.fl;have hv:=xf hg;have s6:=hg.by'.size
 have set1:∀b,b≠al->(W6.setCell ⟨al,0,none⟩ v').heap[b]?=W6.heap[b]?:=fun b hb=>Below.heap_setCell W6 ⟨al,0,none⟩ v' b hb;have nal:∀g,v'.ownBlock=some g->g≠al:=fun g hg=>by
  rcases hv with e|e
  ·exact(h.nl g (e▸hg)).1
  ·have:=e g hg;omega
 have n2:∀g,v2.ownBlock=some g->v.ownBlock≠some g:=fun g h2 h3=>(h.nl g h3).2.2.2.2 h2;refine h1.mv ((hg.below h1.ol h1.bw h1.ltB).setCell (p:=⟨al,0,none⟩) h.b1 _) (by simpa using s6) (fun b hb n1 _ n3 _=>(set1 b n1).trans (k1 b hb n3)) (mc c1) (by rw[World.frozen?_setCell];exact f1) ?_ ?_ ?_ ?_ hv (.inl rfl) (fun g hg=>?_) h.ln (fun _ _ _ h1 h2=>.inl ⟨h1,h2⟩)
 ·exact(World.cell?_of_block (a:=⟨ao,0,none⟩) ((set1 ao h.d2).trans (k1 ao l3 ao1))).trans h1.co
 ·rw[World.frozen?_setCell];exact(World.frozen?_of_block (a:=⟨ao,0,none⟩) (k1 ao l3 ao1)).trans h1.fo
 ·rw[gT];exact hg.own.keep fun g hg=>set1 g (nal g hg)
 ·exact h1.oo.keep fun g hg=>(set1 g (h.no g hg).1).trans (k1 g (jY h1.oo hg) (n2 g hg))
 ·rcases hv with e|e
  ·exact(h.nl g (e▸hg)).2.2.2.2
  ·intro e2;have:=e g hg;have:=jY h1.oo e2;omega
theorem SqI.less{a:Option Addr}{n c:Nat}{x:Int}(h:SqI W0 B al ak ao ae k (p++[x]) rows (.slice a (n+1) c) v2 vals W)(hn:p.length=n):SqI W0 B al ak ao ae k p rows (.slice a n c) v2 vals (W.setCell ⟨al,0,none⟩ (.slice a n c)):=by
 have e1:∀m m' c,(Value.slice a m c).ownBlock=(Value.slice a m' c).ownBlock:=fun m m' c=>by cases a<;>rfl
 have set1:∀b,b≠al->(W.setCell ⟨al,0,none⟩ (.slice a n c)).heap[b]?=W.heap[b]?:=fun b hb=>Below.heap_setCell W ⟨al,0,none⟩ _ b hb;refine h.mv (h.bw.setCell (p:=⟨al,0,none⟩) h.b1 _) aO (fun b _ n1 _ _ _=>set1 b n1) (mc h.cl) (by rw[World.frozen?_setCell];exact h.fl) ?_ (by rw[World.frozen?_setCell];exact h.fo) ?_ (h.oo.keep fun g hg=>set1 g (h.no g hg).1) (.inl (e1 _ _ _)) (.inl rfl) (fun g hg=>(h.nl g ((e1 _ _ _).trans hg)).2.2.2.2) h.ln (fun _ _ _ h1 h2=>.inl ⟨h1,h2⟩)
 ·exact(World.cell?_of_block (a:=⟨ao,0,none⟩) (set1 ao h.d2)).trans h.co
 ·have h1:=h.ol;rw[gT]at h1;exact(h1.cut (by rw[bu,hn])).keep fun g hg=>set1 g (h.nl g ((e1 _ _ _).trans hg)).1
theorem SqI.push(h:SqI W0 B al ak ao ae k p rows v v2 vals W){W5 W6:World}{r:List Int}{u:Value}{T:TypeId}(hb:Below W.heap.size W W')(hr:bQ W' W.heap.size T u (r.map (Value.int .i64)))(hr0:r≠[])(hb5:Below W'.heap.size W' W5)(hg:mg W5 W6 B 45 v2 v2' vals u):
  SqI W0 B al ak ao ae k p (rows++[r]) v v2' (vals++[u]) (W6.setCell ⟨ao,0,none⟩ v2'):=by
 have h1:=(h.low hb).low hb5;have hbB:Below W.heap.size W W5:=hb.trans (hb5.mono hb.size);have l1:=h1.ltl;have l3:=h1.lto;have k1:∀b,b<W5.heap.size->v2.ownBlock≠some b->W6.heap[b]?=W5.heap[b]?:=fun b hb hn=>hg.by'.block b hb (fun e=>hn e.symm)
 have al1:v2.ownBlock≠some al:=fun e=>(h.no al e).1 rfl;have ao1:v2.ownBlock≠some ao:=fun e=>(h.no ao e).2.2.1 rfl;have c1:W6.cell? ⟨ao,0,none⟩=some v2:=(World.cell?_of_block (a:=⟨ao,0,none⟩) (k1 ao l3 ao1)).trans h1.co;have f1:W6.frozen? ⟨ao,0,none⟩=false:=(World.frozen?_of_block (a:=⟨ao,0,none⟩) (k1 ao l3 ao1)).trans h1.fo;have hv:=xf hg;have s6:=hg.by'.size
 have set1:∀b,b≠ao->(W6.setCell ⟨ao,0,none⟩ v2').heap[b]?=W6.heap[b]?:=fun b hb=>Below.heap_setCell W6 ⟨ao,0,none⟩ v2' b hb;have nao:∀g,v2'.ownBlock=some g->g≠ao:=fun g hg=>by
  rcases hv with e|e
  ·exact(h.no g (e▸hg)).2.2.1
  ·have:=e g hg;omega
 have n2:∀g,v.ownBlock=some g->v2.ownBlock≠some g:=fun g h3=>(h.nl g h3).2.2.2.2;have hrl:(r.map (Value.int .i64)).length=r.length:=bu ..;obtain⟨g,c,rfl,r1,_,r2,r3,r4⟩:=hr.at' (by simpa using hr0);rw[hrl]at r1;have hgn:∀b,v.ownBlock=some b->b<W.heap.size:=fun b hb=>jY h.ol hb;have hgn2:∀b,v2.ownBlock=some b->b<W.heap.size:=fun b hb=>jY h.oo hb;have hgW5:g<W5.heap.size:=aH r3 hb5.size;have L1:=h.ltl;have L3:=h.lto;have hgk:W6.heap[g]?=W5.heap[g]?:=k1 g hgW5 fun e=>by have:=hgn2 g e;omega
 refine h1.mv ((hg.below h1.oo h1.bw h1.ltB).setCell (p:=⟨ao,0,none⟩) h.b2 _) (by simpa using s6) (fun b hb _ n2 _ n4=>(set1 b n2).trans (k1 b hb n4)) ?_ ?_ (mc c1) (by rw[World.frozen?_setCell];exact f1) ?_ ?_ (.inl rfl) hv (fun g hg e=>?_) ?_ (fun i r' u' h1 h2=>?_)
 ·exact(World.cell?_of_block (a:=⟨al,0,none⟩) ((set1 al (Ne.symm h.d2)).trans (k1 al l1 al1))).trans h1.cl
 ·rw[World.frozen?_setCell];exact(World.frozen?_of_block (a:=⟨al,0,none⟩) (k1 al l1 al1)).trans h1.fl
 ·exact h1.ol.keep fun g hg=>(set1 g (h.nl g hg).2.2.1).trans (k1 g (jY h1.ol hg) (n2 g hg))
 ·exact hg.own.keep fun g hg=>set1 g (nao g hg)
 ·rcases hv with e1|e1
  ·exact n2 g hg (e1▸e)
  ·have:=e1 g e;have:=jY h1.ol hg;omega
 ·rw[bK,bK,h.ln];rfl
 ·by_cases hi:i<rows.length
  ·rw[dN hi]at h1;rw[dN (by rw[h.ln];exact hi)]at h2;exact .inl ⟨h1,h2⟩
  ·rw[iW aa]at h1;rw[iW (by rw[h.ln];omega),h.ln]at h2;have hi2:i-rows.length=0:=by
    have:=(cN.1 h1).1;rw[eQ]at this;omega
   rw[hi2]at h1 h2;cases h1;cases h2;refine .inr ⟨g,c,by rw[hrl],r1,?_,by simp only[World.size_setCell];omega,fun i z hz=>?_⟩
   ·have LB:=h.ltB;rintro(e|e|e|e|e)
    ·omega
    ·omega
    ·omega
    ·have:=hgn g e;omega
    ·rcases hv with e1|e1
     ·have:=hgn2 g (e1▸e);omega
     ·have:=e1 g e;omega
   ·have e5:W5.heap[g]?=W'.heap[g]?:=hb5.block g r3;exact(World.cell?_of_block (a:=⟨g,i,none⟩) ((set1 g aa).trans (hgk.trans e5))).trans (r4 i _ (by rw[eg,hz];rfl))
end
end DW
end
section
open Go.RowKit
namespace DW
theorem wV(n:Nat)(hn:n<=1000000000)(w:World):Calls Tryz.prog 189 #[.int .i64 ((n:Int))] w fun e w'=>e= .returned (.int .i64 ((Mx.isq n:Int)))/\Below w.heap.size w w':=by
 refine((Aq n hn).2 (fun _=>False) w #[.int .i64 ((n:Int))] (fun b h=>h.elim) ?_).mono ?_
 ·simp only[ATp];exact⟨_,_,rfl,by simp only[AR];first|exact⟨rfl,rfl⟩|exact⟨trivial,rfl⟩,rfl⟩
 ·rintro e w' ⟨u,rfl,hu,hb⟩;simp only[AR]at hu;exact⟨by rw[hu.1],hb⟩
theorem xS{X:Nat->Prop}{w:World}{l:List Int}{g c:Nat}(h0:l≠[])(hle:l.length<=c)(hx:¬X g)(hc:∀i z,l[i]?=some z->w.cell? ⟨g,i,none⟩=some (.int .i64 z)):AR X w (dI l) (.slice (some ⟨g,0,none⟩) l.length c):=by
 simp only[AR];obtain⟨z0,hz0⟩:=get_some (m:=l) (k:=0) (eM.2 h0);refine⟨_,_,by rw[bu],by rw[bu];exact hle,.inr ⟨g,0,rfl,hx,World.block_lt_of_cell? w _ (hc 0 z0 hz0),ARs.mk fun i d hd=>?_⟩⟩;rw[eg]at hd;obtain⟨z,hz,rfl⟩:=fT.1 hd;refine⟨.int .i64 z,by simp only[AR];exact⟨trivial,rfl⟩,rfl,rfl,fun j u hj=>?_⟩
 match j,hj with
 |0,hj=>
  have:u= .int .i64 z:=by simpa[Value.cells]using hj.symm
  rw[this,en,bS,bU];exact hc i z hz
 |j+1,hj=>simp[Value.cells]at hj
theorem Bg(l:List Int)(h0:l≠[])(hl:l.length<=1000000)(w:World)(g c:Nat)(hle:l.length<=c)(hc:∀i z,l[i]?=some z->w.cell? ⟨g,i,none⟩=some (.int .i64 z)):
  Calls Tryz.prog 175 #[.slice (some ⟨g,0,none⟩) l.length c] w fun e w'=>∃u,e= .returned u/\bQ w' w.heap.size 3 u (l.map (Value.int .i64))/\Below w.heap.size w w':=by
 refine((sV l h0 hl 5 rfl).2 (fun _=>False) (fun _=>undef) w #[.slice (some ⟨g,0,none⟩) l.length c] (fun b h=>h.elim) ⟨fun p hp=>(by cases hp),fun b ⟨p,hp,_⟩=>(by cases hp),fun p hp=>(by cases hp),fun p hp=>(by cases hp),fun b h=>h.elim⟩ ⟨_,_,rfl,?_,rfl⟩).mono ?_
 ·exact xS h0 hle (fun h=>h.elim id fun ⟨p,hp,_⟩=>(by cases hp)) hc
 ·rintro e w' ⟨u,f',rfl,hgr,hO,hbl,_,hsr⟩;refine⟨u,rfl,?_,⟨hgr.os,hgr.tape,hgr.output,hgr.size,fun k hk=>hgr.block k hk fun ⟨p,hp,_⟩=>(by cases hp)⟩⟩;simp only[SR]at hsr;obtain⟨hwd,xs,⟨hxl,hsl⟩,hE⟩:=hO.ow _ (cD.2 rfl);have hxs:=uc l xs (hE.pl rfl);subst hxs;refine⟨by rw[en],?_⟩;rw[hsr];rcases hsl with⟨h1,h2⟩|⟨g,cap,cur,ef,_,k1,k2,k3,k4,k5⟩
  ·simp only[bu]at h2;exact absurd (fS h2) h0
  ·simp only[bu]at ef k2 k5⊢;have hg:w.heap.size<=g:=(hbl g ⟨_,cD.2 rfl,by show(f' 5).ownBlock=_;rw[ef];rfl⟩).elim (fun ⟨p,hp,_⟩=>(by cases hp)) id;exact .inr ⟨g,cap,cur,ef,hg,k1,k2,k3,k4,k5⟩
theorem vo{P:Program}{ops:Array Oper}{o:Oper}{a:Act}{w:World}{K:Act->World->Prop}{Q:Exit->Act->World->Prop}{E:Prop}{g:FuncId}{x:Operand}{ts:Array TypeId}{v:Value}{R:World->Value->World->Prop}(hgd:o.guard=none)
  (ho:o.op= .call {callee:=.value (.func g),args:=#[x],argTypes:=ts}) (he:Go.Proofs.Enters P g) (hx:a.eval x=v) (hc:Calls P g #[v] w fun e w'=>∃u,e= .returned u/\R w u w') (hK:∀u w',R w u w'->K (a.put o.dst u) w'):if Region.wanted o (yielded ops a.tmps)=true then Oper.wp P o a w K Q else E:=by
 rw[aB (by simp[Region.wanted,hgd])];have key:∀xs:List Operand,o.op= .call {callee:=.value (.func g),args:=xs.toArray,argTypes:=ts}->(execOp a.eval o).run P w= .ok (.enter g (xs.map a.eval).toArray) w:=fun xs ho=>by
  unfold execOp;rw[ho];have:=he (xs.map a.eval).toArray w;simp[resolve,invoke,Deferred.ofValue,Act.eval,this]
 have h2:=key [x] ho;rw[show([x].map a.eval).toArray= #[a.eval x]from rfl,hx]at h2;unfold Oper.wp;rw[h2,Oper.upon_enter];refine hc.mono ?_;rintro e w' ⟨u,rfl,hR⟩;exact hK u w' hR
end DW
end
section
open Go.RowKit Go.BigFrame
attribute [local go_sem ↓] Go.wp_at_zero Go.wp_at_succ
namespace DW
def ext(p:List Int)(L:List (List Nat)):List (List Int):=L.map fun q=>p++nn q
theorem Bb(p:List Int)(L M:List (List Nat)):ext p (L++M)=ext p L++ext p M:=by unfold ext;rw[gT]
theorem ext_cons(p:List Int)(x:Nat)(L:List (List Nat)):ext p (L.map (x::·))=ext (p++[(x:Int)]) L:=by
 unfold ext;rw[List.map_map];refine oe fun q _=>?_;show p++nn (x::q)=(p++[(x:Int)])++nn q;rw[fy];rfl
def SqP(W0:World)(B al ak ao ae k:Nat)(p:List Int)(rows:List (List Int))(e:Ending)(W':World):Prop:=(∃u,e= .returned u)/\∃v v2 vals,SqI W0 B al ak ao ae k p rows v v2 vals W'
theorem zG{n:Nat}(h:n<=1500):Mx.isq n<=38:=by
 have a:=Mx.dm n;by_cases e:39<=Mx.isq n
 ·have:=bF e e;omega
 ·omega
theorem yD{w:World}{b b':Nat}{T:TypeId}{v:Value}{l:List Value}(h:bQ w b T v l)(hb:b'<=b):bQ w b' T v l:=by
 obtain⟨h0,h⟩:=h;refine⟨h0,?_⟩;rcases h with h|⟨g,cap,cur,h1,h2,h3⟩
 ·exact .inl h
 ·exact .inr ⟨g,cap,cur,h1,aE hb h2,h3⟩
theorem BN{w:World}{b q:Nat}{T:TypeId}{v:Value}{p:List Int}{z:Int}(h:bQ w b T v (p.map (Value.int .i64)++[.int .i64 z]))(hp:p.length=q):∃g c,v= .slice (some ⟨g,0,none⟩) (q+1) c/\bQ w b T (.slice (some ⟨g,0,none⟩) (q+1) c) ((p++[z]).map (Value.int .i64)):=by
 obtain⟨g,c,e,_⟩:=h.at' aO;rw[bK,bu,eQ,hp]at e;refine⟨g,c,e,?_⟩;rw[<-e,gT];exact h
set_option maxRecDepth 20000
set_option maxHeartbeats 8000000
theorem yp(W0:World)(B al ak ao ae q:Nat)(hq1:1<=q)(hq:q<=3)(p:List Int)(hp:p.length=q)(rows:List (List Int))(v v2:Value)(vals:List Value)(left most:Nat)(hl:left<=1500)(hm:most<=1500)(hrl:rows.length<=100000000)(W:World)(hI:SqI W0 B al ak ao ae (q+1) p rows v v2 vals W):
  Calls Tryz.prog 188 #[.int .i64 ((left:Int)),.int .i64 ((most:Int)),.pointer (some ⟨al,0,none⟩),.pointer (some ⟨ak,0,none⟩),.pointer (some ⟨ao,0,none⟩),.pointer (some ⟨ae,0,none⟩)] W (SqP W0 B al ak ao ae (q+1) p (rows++ext p (Mx.sqs 1 left most))):=by
 have hp0:p≠[]:=fun e=>by rw[e]at hp;simp at hp;omega
 obtain⟨g,c,rfl,hc1,_,hg1,hg2,hg3⟩:=hI.ol.at' (by simpa using hp0);rw[bu,hp]at hI hc1;have c1:=hI.cl;have c2:W.cell? ⟨ak,0,none⟩=some (.int .i64 ((q:Int)+1)):=hI.ck;have c3:=hI.co;have f3:=hI.fo;have l1:=hI.ltl;have l2:=hI.ltk;have l3:=hI.lto;have lB:=hI.ltB;have HI:=af hI;have hvl:=hI.ln;have e0:((q:Int)==(q:Int)+1-1)=true:=by rw[beq_iff_eq];omega
 have RT:=fun w=>wV left aa w;have hr1:=Mx.dm left;have hr2:=zG hl;have CLW:∀cur,Below W.heap.size W cur->Calls Tryz.prog 175 #[.slice (some ⟨g,0,none⟩) q c] cur fun e w'=>∃u,e= .returned u/\(bQ w' W.heap.size 3 u (p.map (Value.int .i64))/\Below cur.heap.size cur w'):=fun cur hb=>by
  have h:=Bg p hp0 aa cur g c aa fun i z hz=>(Below.cell (p:=⟨g,i,none⟩) hb hg2).trans (hg3 i _ (by rw[eg,hz];rfl));rw[hp]at h;exact h.mono fun e w' ⟨u,h1,h2,h3⟩=>⟨u,h1,yD h2 hb.size,h3⟩
 have ENC:Go.Proofs.Enters Tryz.prog 175:=(sV p hp0 aa 5 rfl).1;have HPL:(p.map (Value.int .i64)).length<=1000000000:=by rw[bu];omega
 have HVL:vals.length<=1000000000:=by omega
 have HO:=af (And.intro hI.ol hI.oo);rw[Mx.Ai];obtain⟨r,hr⟩:∃r,r=Mx.isq left:=⟨_,rfl⟩;rw[<-hr]at RT hr1 hr2⊢;obtain⟨s,hs⟩:∃s,s=r*r:=⟨_,rfl⟩;have hsI:(r:Int)*(r:Int)=(s:Int):=by rw[hs];exact(fC r r).symm
 rw[<-hs]at hr1⊢;clear hs hr hg3 hI hvl;by_cases hT:s=left/\r<=most
 ·obtain⟨rfl,hT2⟩:=hT;rw[aB ⟨rfl,hT2⟩];have t2:(r:Int)<=(most:Int):=by omega
  go_enter Tryz.func188,Tryz.ntmps188
  go_upto_region 3 with(go_at_call 189;(with_reducible refine(RT _).mono ?_);rintro e w4 ⟨rfl,hb4⟩;have HB4:=af hb4;obtain⟨g4,rfl⟩:=mob hb4;clear hb4)
  go_cut []from 27 to 34 (fun wx=>∃(v2':Value) (vals':List Value),Hid (SqI W0 B al ak ao ae (q+1) p (rows++[p++[(r:Int)]]) (.slice (some ⟨g,0,none⟩) q c) v2' vals' wx))
  case first=>
   go_region_law (first|(refine vo (g:=175) (x:=.tmp 28) (ts:=#[45]) (v:=.slice (some ⟨g,0,none⟩) q c) (R:=fun cur u w'=>bQ w' W.heap.size 3 u (p.map (Value.int .i64))/\Below cur.heap.size cur w') rfl ?_ ENC ?_ ?_ ?_;(focus(rfl));(focus(rfl));(exact CLW _ az);intro u5 w5 h5;have HO5:=af h5.1;obtain⟨g5,rfl⟩:=mob h5.2;clear h5)|(refine jh nI rfl aA Tryz.underlying45 rfl (.tmp 29) (.tmp 31) rfl (v:=u5) (u:=.int .i64 (r:Int)) (l:=p.map (Value.int .i64)) (base:=W.heap.size) rfl rfl ?_ HPL ?_ ?_ rfl ?_;(exact HO5.out.low az);(exact(show Below W.heap.size W _ by exact bel).size);(focus(go_simp));intro v6 w6 hg6;have hb6:Below W.heap.size W w6:=hg6.below (HO5.out.low az) az (show Below W.heap.size W _ by exact bel).size;obtain⟨gr,cr,rfl,ho6⟩:=BN hg6.own hp;have HO6:=af ho6;clear hg6 ho6;obtain⟨g6,rfl⟩:=mob hb6;clear hb6)|(refine jh yv rfl aA Tryz.underlying22 rfl (.tmp 27) (.tmp 33) rfl (v:=v2) (u:=.slice (some ⟨gr,0,none⟩) (q+1) cr) (l:=vals) (base:=B) rfl rfl ?_ HVL ?_ ?_ rfl ?_;(exact(HI.out.low az).oo);(exact(HI.out.low az).ltB);(focus(go_simp));intro v8 w8 hg8;obtain⟨a8,k8,hv8,_⟩:=hg8.own.sl;rw[bK,eQ]at hv8;subst hv8;have c8:w8.cell? ⟨ao,0,none⟩=some v2:=(World.cell?_of_block (a:=⟨ao,0,none⟩) (hg8.by'.block ao (HI.out.low az).lto (fun e=>(HI.out.no ao e.symm).2.2.1 rfl))).trans (HI.out.low az).co;have f8:w8.frozen? ⟨ao,0,none⟩=false:=(World.frozen?_of_block (a:=⟨ao,0,none⟩) (hg8.by'.block ao (HI.out.low az).lto (fun e=>(HI.out.no ao e.symm).2.2.1 rfl))).trans (HI.out.low az).fo;have HS8:=af (HI.out.push (W':=more W g6) az HO6.out aO az hg8);clear hg8))
   all_goals(go_wp2_with fail)
   all_goals go_meet
   all_goals(exact⟨_,_,HS8⟩)
  case rest=>
   obtain⟨v2',vals',hS⟩:=hcut;clear HI HO RT CLW ENC
   go_wp2_with fail
   go_end0
   exact⟨⟨_,rfl⟩,_,_,_,hS.out⟩
 ·rw[an hT];have HSE:Hid (SqI W0 B al ak ao ae (q+1) p (rows++ext p []) (.slice (some ⟨g,0,none⟩) q c) v2 vals W):=by
   show SqI W0 B al ak ao ae (q+1) p (rows++[]) (.slice (some ⟨g,0,none⟩) q c) v2 vals W;rw[fX];exact HI.out
  clear CLW ENC HO;by_cases h1:s=left
  ·subst h1;have t2:¬(r:Int)<=(most:Int):=fun h=>hT ⟨rfl,by omega⟩;clear hT
   go_enter Tryz.func188,Tryz.ntmps188
   go_wp2_with (go_at_call 189;(with_reducible refine(RT _).mono ?_);rintro e w4 ⟨rfl,hb4⟩;have HB4:=af hb4;obtain⟨g4,rfl⟩:=mob hb4;clear hb4)
   go_end0
   exact⟨⟨_,rfl⟩,_,_,_,HSE.out.low HB4.out⟩
  ·have t1:((s:Int)==(left:Int))=false:=by rw[beq_eq_false_iff_ne];omega
   have t3:¬(s:Int)=(left:Int):=by omega
   clear hT
   go_enter Tryz.func188,Tryz.ntmps188
   go_wp2_with (go_at_call 189;(with_reducible refine(RT _).mono ?_);rintro e w4 ⟨rfl,hb4⟩;have HB4:=af hb4;obtain⟨g4,rfl⟩:=mob hb4;clear hb4)
   go_end0
   exact⟨⟨_,rfl⟩,_,_,_,HSE.out.low HB4.out⟩
end DW
end
section
open Go.RowKit Go.BigFrame
attribute [local go_sem ↓] Go.wp_at_zero Go.wp_at_succ
namespace DW
set_option maxRecDepth 20000
set_option maxHeartbeats 8000000
theorem yo(W0:World)(B al ak ao ae k d j:Nat)(hk:k<=4)(hj:j+(d+2)=k)
  (IH:∀(p:List Int) (rows:List (List Int)) (v v2:Value) (vals:List Value) (left most:Nat) (W:World),p.length=j+1->left<=1500->most<=1500->rows.length+(Mx.sqs (d+1) left most).length<=100000000->SqI W0 B al ak ao ae k p rows v v2 vals W->
   Calls Tryz.prog 188 #[.int .i64 ((left:Int)),.int .i64 ((most:Int)),.pointer (some ⟨al,0,none⟩),.pointer (some ⟨ak,0,none⟩),.pointer (some ⟨ao,0,none⟩),.pointer (some ⟨ae,0,none⟩)] W (SqP W0 B al ak ao ae k p (rows++ext p (Mx.sqs (d+1) left most))))
  (p:List Int) (hp:p.length=j) (rows:List (List Int)) (v v2:Value) (vals:List Value) (left most:Nat) (hl:left<=1500) (hm:most<=1500) (hrl:rows.length+(Mx.sqs (d+2) left most).length<=100000000) (W:World) (hI:SqI W0 B al ak ao ae k p rows v v2 vals W):
  Calls Tryz.prog 188 #[.int .i64 ((left:Int)),.int .i64 ((most:Int)),.pointer (some ⟨al,0,none⟩),.pointer (some ⟨ak,0,none⟩),.pointer (some ⟨ao,0,none⟩),.pointer (some ⟨ae,0,none⟩)] W (SqP W0 B al ak ao ae k p (rows++ext p (Mx.sqs (d+2) left most))):=by
 obtain⟨a,c,rfl,hc1⟩:=hI.ol.sl;rw[bu,hp]at hI hc1;have c1:=hI.cl;have c2:=hI.ck;have l1:=hI.ltl;have l2:=hI.ltk;have HI:=af hI;have e0:((j:Int)==(k:Int)-1)=false:=by rw[beq_eq_false_iff_ne];omega
 have RT:=fun w=>wV left aa w;have hr1:=Mx.dm left;have hr2:=zG hl;have HIH:=af IH;have HP:Hid (p.length=j):=hp;have HPL:(p.map (Value.int .i64)).length<=1000000000:=by rw[bu];omega
 obtain⟨f,hf⟩:∃f,f=fun x=>(Mx.sqs (d+1) (left-x*x) x).map (x::·):=⟨_,rfl⟩;have hE:Mx.sqs (d+2) left most=Mx.down f (min most (Mx.isq left)+1):=by rw[hf];rfl
 have HF:Hid (∀x,f x=(Mx.sqs (d+1) (left-x*x) x).map (x::·)):=fun x=>by rw[hf]
 have HST:Hid (∀x,(d+2)*(x*x)<left->Mx.down f (x+1)=[]):=fun x hx=>by rw[hf];exact Mx.yn hx
 rw[hE]at hrl⊢;have HRL:Hid (rows.length+(Mx.down f (min most (Mx.isq left)+1)).length<=100000000):=hrl;obtain⟨r,hr⟩:∃r,r=Mx.isq left:=⟨_,rfl⟩;rw[<-hr]at RT hr1 hr2 HRL⊢;have hD:(k:Int)-(j:Int)=((d+2:Nat):Int):=by omega
 obtain⟨D,hDD⟩:∃D,D=d+2:=⟨_,rfl⟩;rw[<-hDD]at hD HST;have hD4:D<=4:=by omega
 clear hr hf hE hrl hI IH hp hDD
 go_enter Tryz.func188,Tryz.ntmps188
 go_wp2_with (go_at_call 189;(with_reducible refine(RT _).mono ?_);rintro e w4 ⟨rfl,hb4⟩;have HB4:=af hb4;obtain⟨g4,rfl⟩:=mob hb4;clear hb4)
 have HI1:=af (HI.out.low HB4.out);obtain⟨W1,hW1⟩:∃W1,W1=more W g4:=⟨_,rfl⟩;rw[<-hW1]at HI1⊢;obtain⟨X,hX⟩:∃X,X=min most r:=⟨_,rfl⟩;have hXI:min (most:Int) (r:Int)=(X:Int):=by omega
 have hX38:X<=38:=by omega
 have hXr:X<=r:=by omega
 rw[<-hX]at HRL⊢;rw[hXI];clear hX hXI hW1 HB4 HI RT c1 c2 l1 l2 hc1 e0
 go_loopw [9] (fun x wr=>∃(t:Nat) (L:List (List Nat)) (v v2:Value) (vals:List Value),t<=X+1/\x= .int .i64 ((t:Int)-1)/\Hid (L++Mx.down f t=Mx.down f (X+1))/\Hid (SqI W0 B al ak ao ae k p (rows++ext p L) v v2 vals wr)) (fun x _=>(intOf x+1).toNat)
 case atStart=>
  refine⟨X+1,[],.slice a j c,v2,vals,ai _,by congr 1;omega,rfl,?_⟩;show SqI W0 B al ak ao ae k p (rows++[]) _ _ _ _;rw[fX];exact HI1.out
 case round=>
  obtain⟨t,L,v,v2,vals,ht,rfl,hL,hS⟩:=hrel;obtain⟨a,c,rfl,hc1⟩:=hS.out.ol.sl;rw[bu,HP.out]at hS hc1;have c1:=hS.out.cl;have c2:=hS.out.ck;have f1:=hS.out.fl;have l1:=hS.out.ltl;have l2:=hS.out.ltk
  cases t with
  |zero=>
   rw[show(((0:Nat):Int)-1)= -1 from rfl]
   go_wp2_with fail
   go_end0
   have hE:L=Mx.down f (X+1):=by rw[<-hL.out];exact(fX L).symm
   rw[<-hE];exact⟨⟨_,rfl⟩,_,_,_,hS.out⟩
  |succ x=>
   rw[show(((x+1:Nat):Int)-1)=(x:Int) by omega];have hx38:x<=38:=by omega
   obtain⟨y,hy⟩:∃y,y=x*x:=⟨_,rfl⟩;have hyl:y<=left:=by
    have:=bF (show x<=r by omega) (show x<=r by omega);omega
   have hyI:(x:Int)*(x:Int)=(y:Int):=by rw[hy];exact(fC x x).symm
   obtain⟨m1,hm1⟩:∃m1,m1=D*x:=⟨_,rfl⟩;have hm1b:m1<=4*38:=by rw[hm1];exact bF hD4 hx38
   have hm1I:(D:Int)*(x:Int)=(m1:Int):=by rw[hm1];exact(fC D x).symm
   obtain⟨m2,hm2⟩:∃m2,m2=D*y:=⟨_,rfl⟩;have hyb:y<=38*38:=by rw[hy];exact bF hx38 hx38
   have hm2b:m2<=4*(38*38):=by rw[hm2];exact bF hD4 hyb
   have hm2I:(D:Int)*(y:Int)=(m2:Int):=by rw[hm2];exact(fC D y).symm
   have hm2e:m2=D*(x*x):=by rw[hm2,hy]
   have h0x:(0:Int)<=(x:Int):=by omega
   have hm2K:(m1:Int)*(x:Int)=(m2:Int):=by rw[hm2e,hm1,<-br];exact(fC (D*x) x).symm
   have HM2:=af hm2e;have HY:=af hy;clear hm1 hm2 hm2e hy;by_cases hlt:m2<left
   ·have t1:¬(left:Int)<=(m2:Int):=by omega
    have hE:L=Mx.down f (X+1):=by
     have h2:=HST.out x (by rw[<-HM2.out];exact hlt);rw[<-hL.out,h2,fX]
    go_wp2_with fail
    go_end0
    rw[<-hE];exact⟨⟨_,rfl⟩,_,_,_,hS.out⟩
   ·have t1:(left:Int)<=(m2:Int):=by omega
    clear hlt
    go_upto_region 8 with(at_builtin;go_must (refine mV nI rfl aA Tryz.underlying45 rfl (.tmp 55) (.tmp 57) rfl (v:=.slice a j c) (u:=.int .i64 (x:Int)) (ad:=⟨wr.heap.size,0,none⟩) (c:=1) (l:=p.map (Value.int .i64)) (base:=B) rfl rfl ?_ HPL ?_ ?_ rfl ?_);(exact(hS.out.low az).ol);(exact(hS.out.low az).ltB);(focus(go_simp));intro v7 w7 hg7;obtain⟨a7,k7,hv7,_⟩:=hg7.own.sl;rw[bK,bu,eQ,HP.out]at hv7;subst hv7;have c7:w7.cell? ⟨al,0,none⟩=some (.slice a j c):=(World.cell?_of_block (a:=⟨al,0,none⟩) (hg7.by'.block al (hS.out.low az).ltl (fun e=>(hS.out.nl al e.symm).1 rfl))).trans (hS.out.low az).cl;have f7:w7.frozen? ⟨al,0,none⟩=false:=(World.frozen?_of_block (a:=⟨al,0,none⟩) (hg7.by'.block al (hS.out.low az).ltl (fun e=>(hS.out.nl al e.symm).1 rfl))).trans (hS.out.low az).fl;have HS7:=af (hS.out.more az hg7);clear hg7)
    obtain⟨w8,hw8⟩:∃w8,w8=w7.setCell ⟨al,0,none⟩ (.slice a7 (j+1) k7):=⟨_,rfl⟩;rw[<-hw8]at HS7⊢;have ce:=HS7.out.ce;have hfx:=HF.out x;rw[<-HY.out]at hfx;have hln:=congrArg List.length hL.out;rw[show Mx.down f (x+1)=f x++Mx.down f x from rfl,bK,bK,hfx,bu]at hln;have IX:=HIH.out (p++[(x:Int)]) (rows++ext p L) (.slice a7 (j+1) k7) v2 vals (left-y) x w8 (by rw[bK,HP.out];rfl) aa aa (by
     have h3:=HRL.out;have h4:(ext p L).length=L.length:=bu ..;rw[bK,h4];omega) HS7.out
    rw[show((left-y:Nat):Int)=(left:Int)-(y:Int) by omega,fy,<-ext_cons,<-hfx,<-Bb]at IX;have HL2:Hid ((L++f x)++Mx.down f x=Mx.down f (X+1)):=by
     show _=_;rw[fy];exact hL.out
    clear hw8 hfx hln HIH hS hL c1 c2 f1 c7 f7
    go_upto_region 9 with(go_at_call 188;(with_reducible refine IX.mono ?_);rintro e w9 ⟨⟨u,rfl⟩,v9,v29,vals9,hS9⟩;have HS9:=af hS9;clear hS9)
    obtain⟨g9,k9,hv9,hk9,_,_,_,_⟩:=HS9.out.ol.at' aO;rw[bu,bK,eQ,HP.out]at hv9 hk9;subst hv9;have c9:=HS9.out.cl;have f9:=HS9.out.fl;have s1:((j:Int))<=(k9:Int):=by omega
    have s2:(j:Int)+1<=(k9:Int):=by omega
    have s3:j<=k9:=by omega
    have HS10:=af (SqI.less HS9.out HP.out);clear ce HS7 IX HS9 hl hm hm2b hyb hm1b hm1I hm2I hm2K hyI t1 hyl
    go_wp2_with fail
    go_roundw
    case rel=>exact⟨x,L++f x,_,v29,vals9,by omega,by first|rfl|(congr 1;omega),HL2,HS10.out⟩
    case measure=>first|(simp[intOf];done)|(simp[intOf];omega)
end DW
end
section
open Go.RowKit Go.BigFrame
attribute [local go_sem ↓] Go.wp_at_zero Go.wp_at_succ
namespace DW
set_option maxRecDepth 20000
set_option maxHeartbeats 8000000
theorem tN(W0:World)(B al ak ao ae k:Nat)(hk:k<=4):∀(d:Nat) (p:List Int) (rows:List (List Int)) (v v2:Value) (vals:List Value) (left most:Nat) (W:World),p.length+(d+1)=k->1<=p.length+d->left<=1500->most<=1500->rows.length+(Mx.sqs (d+1) left most).length<=100000000->SqI W0 B al ak ao ae k p rows v v2 vals W->
  Calls Tryz.prog 188 #[.int .i64 ((left:Int)),.int .i64 ((most:Int)),.pointer (some ⟨al,0,none⟩),.pointer (some ⟨ak,0,none⟩),.pointer (some ⟨ao,0,none⟩),.pointer (some ⟨ae,0,none⟩)] W (SqP W0 B al ak ao ae k p (rows++ext p (Mx.sqs (d+1) left most)))
 |0,p,rows,v,v2,vals,left,most,W,h1,h2,h3,h4,h5,h6=>by
  subst h1;exact yp W0 B al ak ao ae p.length h2 aa p rfl rows v v2 vals left most h3 h4 aa W h6
 |d+1,p,rows,v,v2,vals,left,most,W,h1,h2,h3,h4,h5,h6=>
  yo W0 B al ak ao ae k d p.length hk aa (fun p' rows v v2 vals left most W k1 k2 k3 k4 k5=>tN W0 B al ak ao ae k hk d p' rows v v2 vals left most W aa aa k2 k3 k4 k5) p rfl rows v v2 vals left most h3 h4 h5 W h6
theorem SqI.ar{W0:World}{B al ak ao ae k:Nat}{p:List Int}{rows:List (List Int)}{v v2:Value}{vals:List Value}{W:World}(h:SqI W0 B al ak ao ae k p rows v v2 vals W){X:Nat->Prop}(hX:∀b,X b->b<B)(hr:∀r∈rows,r≠[]):AR X W (dM rows) v2:=by
 simp only[AR];obtain⟨a,c,e,hle⟩:=h.oo.sl;refine⟨a,c,by rw[e,bu,h.ln],by rw[bu,<-h.ln];exact hle,?_⟩;by_cases h0:rows=[]
 ·exact .inl (by rw[h0];rfl)
 ·obtain⟨g,c',e',_,_,g1,g2,g3⟩:=h.oo.at' (by intro e;exact h0 (fS (by rw[<-h.ln,e];rfl)));have ha:a=some ⟨g,0,none⟩:=by rw[e]at e';cases e';rfl
  refine .inr ⟨g,0,ha,fun hx=>by have:=hX g hx;omega,g2,ARs.mk fun i d hd=>?_⟩;rw[eg]at hd;obtain⟨r,hr',rfl⟩:=fT.1 hd;obtain⟨u,hu⟩:=get_some (m:=vals) (k:=i) (by rw[h.ln];exact(cN.1 hr').1);obtain⟨b,c2,rfl,k1,k2,k3,k4⟩:=h.ro i r u hr' hu;refine⟨_,xS (hr r (eN hr')) k1 (fun hx=>k2 (.inl (hX b hx))) k4,rfl,rfl,fun j u hj=>?_⟩
  match j,hj with
  |0,hj=>
   have:u= .slice (some ⟨b,0,none⟩) r.length c2:=by simpa[Value.cells]using hj.symm
   rw[this,en,bS,bU];exact g3 i _ hu
  |j+1,hj=>simp[Value.cells]at hj
theorem lA(A:World)(v:Value)(t:TypeId):(A.alloc (.cells #[v] t)).cell? ⟨A.heap.size,0,none⟩=some v:=by simp
theorem pN(A:World)(v:Value)(t:TypeId):(A.alloc (.cells #[v] t)).frozen? ⟨A.heap.size,0,none⟩=false:=by simp
theorem ji{A:World}(o:Obj){p:Addr}{v:Value}(h:A.cell? p=some v):(A.alloc o).cell? p=some v:=
 (World.cell?_of_block (Below.heap_alloc A o p.block (World.block_lt_of_cell? A _ h))).trans h
theorem oH{A:World}(o:Obj){p:Addr}(h:p.block<A.heap.size):(A.alloc o).frozen? p=A.frozen? p:=
 World.frozen?_of_block (Below.heap_alloc A o p.block h)
theorem wK(w:World)(k:Nat)(o:Value)(t1 t2 t4 t5:TypeId)(ho:o= .func (.func 188) #[] #[.pointer (some ⟨w.heap.size+1+1+1,0,none⟩),.pointer (some ⟨w.heap.size,0,none⟩),.pointer (some ⟨w.heap.size+1,0,none⟩),.pointer (some ⟨w.heap.size+1+1+1+1,0,none⟩)]):
  SqI w w.heap.size (w.heap.size+1+1+1) w.heap.size (w.heap.size+1) (w.heap.size+1+1+1+1) k [] [] (.slice (some ⟨w.heap.size+1+1,0,none⟩) 0 4) (.slice none 0 0) [] (((((w.alloc (.cells #[.int .i64 (k:Int)] t1)).alloc (.cells #[.slice none 0 0] t2)).alloc (.cells (madeCells #[.int .i64 0] 4) 3)).alloc (.cells #[.slice (some ⟨w.heap.size+1+1,0,none⟩) 0 4] t4)).alloc (.cells #[o] t5)):=by
 subst ho;obtain⟨A1,hA1⟩:∃A1,A1=w.alloc (.cells #[.int .i64 (k:Int)] t1):=⟨_,rfl⟩;have z1:A1.heap.size=w.heap.size+1:=by rw[hA1,World.size_alloc]
 have k1:A1.cell? ⟨w.heap.size,0,none⟩=some (.int .i64 (k:Int)):=by rw[hA1];exact lA _ _ _
 rw[<-hA1];obtain⟨A2,hA2⟩:∃A2,A2=A1.alloc (.cells #[.slice none 0 0] t2):=⟨_,rfl⟩;have z2:A2.heap.size=w.heap.size+1+1:=by rw[hA2,World.size_alloc,z1]
 have k2:A2.cell? ⟨w.heap.size+1,0,none⟩=some (.slice none 0 0):=by rw[hA2,<-z1];exact lA _ _ _
 have f2:A2.frozen? ⟨w.heap.size+1,0,none⟩=false:=by rw[hA2,<-z1];exact pN _ _ _
 have k1:A2.cell? ⟨w.heap.size,0,none⟩=some (.int .i64 (k:Int)):=by rw[hA2];exact ji _ k1
 have b2:Below w.heap.size w A2:=by rw[hA2,hA1];exact bel
 rw[<-hA2];clear hA2 hA1;obtain⟨A3,hA3⟩:∃A3,A3=A2.alloc (.cells (madeCells #[.int .i64 0] 4) 3):=⟨_,rfl⟩;have z3:A3.heap.size=w.heap.size+1+1+1:=by rw[hA3,World.size_alloc,z2]
 have k3:A3.heap[w.heap.size+1+1]?=some (.cells (madeCells #[.int .i64 0] 4) 3 (0,0)):=by rw[hA3,<-z2];exact heap_alloc_new A2 _
 have k1:A3.cell? ⟨w.heap.size,0,none⟩=some (.int .i64 (k:Int)):=by rw[hA3];exact ji _ k1
 have k2:A3.cell? ⟨w.heap.size+1,0,none⟩=some (.slice none 0 0):=by rw[hA3];exact ji _ k2
 have f2:A3.frozen? ⟨w.heap.size+1,0,none⟩=false:=by rw[hA3,oH _ rf];exact f2
 have b3:Below w.heap.size w A3:=by rw[hA3];exact b2.alloc b2.size _
 rw[<-hA3];clear hA3 b2;obtain⟨A4,hA4⟩:∃A4,A4=A3.alloc (.cells #[.slice (some ⟨w.heap.size+1+1,0,none⟩) 0 4] t4):=⟨_,rfl⟩;have z4:A4.heap.size=w.heap.size+1+1+1+1:=by rw[hA4,World.size_alloc,z3]
 have k4:A4.cell? ⟨w.heap.size+1+1+1,0,none⟩=some (.slice (some ⟨w.heap.size+1+1,0,none⟩) 0 4):=by rw[hA4,<-z3];exact lA _ _ _
 have f4:A4.frozen? ⟨w.heap.size+1+1+1,0,none⟩=false:=by rw[hA4,<-z3];exact pN _ _ _
 have k3:A4.heap[w.heap.size+1+1]?=some (.cells (madeCells #[.int .i64 0] 4) 3 (0,0)):=by rw[hA4,Below.heap_alloc A3 _ _ aa];exact k3
 have k1:A4.cell? ⟨w.heap.size,0,none⟩=some (.int .i64 (k:Int)):=by rw[hA4];exact ji _ k1
 have k2:A4.cell? ⟨w.heap.size+1,0,none⟩=some (.slice none 0 0):=by rw[hA4];exact ji _ k2
 have f2:A4.frozen? ⟨w.heap.size+1,0,none⟩=false:=by rw[hA4,oH _ rf];exact f2
 have b4:Below w.heap.size w A4:=by rw[hA4];exact b3.alloc b3.size _
 rw[<-hA4];clear hA4 b3;refine⟨ji _ k4,by rw[oH _ rf];exact f4,ji _ k1,ji _ k2,by rw[oH _ rf];exact f2,?_,?_,bQ.nil _ _ _,rfl,(fun i r u h=>by simp at h),fun g hg=>?_,(fun g hg=>by cases hg),by omega,by omega,by omega,by omega,by omega,b4.alloc b4.size _,by omega,by omega⟩
 ·have:=lA A4 (.func (.func 188) #[] #[.pointer (some ⟨w.heap.size+1+1+1,0,none⟩),.pointer (some ⟨w.heap.size,0,none⟩),.pointer (some ⟨w.heap.size+1,0,none⟩),.pointer (some ⟨w.heap.size+1+1+1+1,0,none⟩)]) t5;rwa[z4]at this
 ·refine⟨rfl,.inr ⟨w.heap.size+1+1,4,_,rfl,by omega,by rw[Below.heap_alloc A4 _ _ aa];exact k3,aZ _,by decide,by simp[madeCells],by simp⟩⟩
 ·simp only[Value.ownBlock,ah]at hg;subst hg;exact⟨by omega,by omega,by omega,by omega,fun e=>by cases e⟩
theorem xp(w:World):(Instr.makeSlice 45 (.int .i64 0) (.int .i64 4)).run Tryz.prog w= .ok (.slice (some ⟨w.heap.size,0,none⟩) 0 4) (w.alloc (.cells (madeCells #[.int .i64 0] 4) 3)):=by
 obtain⟨i,hi,hz,hs,hb⟩:=jG nI;have hr:=run_make (P:=Tryz.prog) w 45 3 i _ Tryz.underlying45 hi hz .i64 .i64 0 4 aa aa (by rw[hb];omega) aa;rw[hs]at hr;simpa[Value.cells]using hr
theorem qsq_d(k n:Nat)(hk2:2<=k)(hk4:k<=4)(hn:n<=1500):Fn Tryz.prog 55 [zI k,zI n] (.tp [dM ((Mx.sqs k n n).map nn),zI 0]):=by
 refine⟨enters_of Tryz.func55 aD rfl,fun X w vs hX hv=>?_⟩;simp only[ATp]at hv;obtain⟨v0,r0,e0,h0,v1,r1,e1,h1,rfl⟩:=hv;simp only[AR]at h0 h1;obtain⟨rfl,_⟩:=h0;obtain⟨rfl,_⟩:=h1;subst e1;have:vs= #[.int .i64 ((k:Int)),.int .i64 ((n:Int))]:=dB.1 e0;subst this;clear e0;have hkn:¬(k:Int)<2:=by omega
 have hkn4:¬(4:Int)<(k:Int):=by omega
 have hn0:¬(n:Int)<0:=by omega
 have hn1:¬(100000:Int)<(n:Int):=by omega
 have IX:=fun (al ak ao ae:Nat) (v v2:Value) (vals:List Value) (W:World) (h:SqI w w.heap.size al ak ao ae k [] [] v v2 vals W)=>tN w w.heap.size al ak ao ae k hk4 (k-1) [] [] v v2 vals n n W fq fq hn hn (by
  have:=Mx.jS (k-1+1) n n hn;have h4:39^(k-1+1)<=39^4:=cv aA aa;have:(39:Nat)^4=2313441:=by decide
  simp only[gU];omega) h
 rw[show k-1+1=k by omega]at IX;have hmk:=xp;have hs4:∀(a b c d:Obj) (v:Value) (t:TypeId),(((((w.alloc a).alloc b).alloc c).alloc d).alloc (.cells #[v] t)).cell? ⟨w.heap.size+1+1+1+1,0,none⟩=some v:=fun a b c d v t=>by
  have:=lA ((((w.alloc a).alloc b).alloc c).alloc d) v t;rwa[World.size_alloc,World.size_alloc,World.size_alloc,World.size_alloc]at this
 have hs5:∀(a b c d:Obj) (v:Value) (t:TypeId),(((((w.alloc a).alloc b).alloc c).alloc d).alloc (.cells #[v] t)).frozen? ⟨w.heap.size+1+1+1+1,0,none⟩=false:=fun a b c d v t=>by
  have:=pN ((((w.alloc a).alloc b).alloc c).alloc d) v t;rwa[World.size_alloc,World.size_alloc,World.size_alloc,World.size_alloc]at this
 go_enter Tryz.func55,Tryz.ntmps55
 go_upto_region 9 with fail
 go_wp2_with (go_at_call 188;refine Calls.mono (IX _ _ _ _ _ _ _ _ (wK w k _ _ _ _ _ rfl)) ?_;rintro e w9 ⟨⟨u,rfl⟩,v9,v29,vals9,hS9⟩;have HS9:=af hS9;have c9:=hS9.co;clear hS9)
 go_ret2
 have hrow:∀r∈(Mx.sqs k n n).map nn,r≠[]:=fun r hr e=>by
  obtain⟨q,hq,rfl⟩:=im.1 hr;have h1:=Mx.iB hq;have h2:=lK q;rw[e]at h2;simp at h2;omega
 have hA:=SqI.ar HS9.out (X:=X) (fun b hb=>(hX b hb).1) hrow;refine⟨_,rfl,?_,HS9.out.bw⟩;simp only[AR,ATp];exact⟨_,rfl,_,_,rfl,hA,_,_,rfl,⟨rfl,rfl⟩,rfl⟩
end DW
end
section
open Go.RowKit
namespace DW
theorem Ah(k n:Nat)(hk:0<k):Mx.sqs k n (Mx.isq n)=Mx.sqs k n n:=by
 obtain⟨j,rfl⟩:∃j,k=j+1:=⟨k-1,by omega⟩;show Mx.down _ (min (Mx.isq n) (Mx.isq n)+1)=Mx.down _ (min n (Mx.isq n)+1);rw[Nat.min_self,fV (Mx.gJ n)]
theorem tB(k n:Int):Fn Tryz.prog 9 [zI k,zI n] (.sc (.bool true)):=by
 by_cases hk:2<=k/\k<=4
 ·by_cases hn:0<=n/\n<=100000
  ·by_cases h1:n<=1500
   ·obtain⟨K,rfl⟩:∃K:Nat,k=K:=⟨k.toNat,by omega⟩;obtain⟨N,rfl⟩:∃N:Nat,n=N:=⟨n.toNat,by omega⟩;have k2:2<=K:=by omega
    have k4:K<=4:=by omega
    have n1:N<=1500:=by omega
    have hlen:(Mx.sqs K N N).length<=2313441:=by
     have h:=Mx.jS K N N n1;have h4:39^K<=39^4:=cv aA k4;have:(39:Nat)^4=2313441:=by decide
     omega
    have hrow:∀l∈Mx.sqs K N N,l.length=K:=fun l hl=>Mx.iB hl;have SQ:=qsq_d K N k2 k4 n1;have RC:=yz K N k4 n1;rw[Ah K N aa]at RC;refine yP K N (arS (Mx.sqs K N N):Nat) ((Mx.sqs K N N).map nn) hk.1 hk.2 hn.1 h1 (by rw[bu];omega) (fun l hl=>?_) SQ (yB K N (Mx.sqs K N N) hlen (fun l hl=>by rw[hrow l hl];exact k4) (fun l hl=>(Mx.pM hl).2.2) SQ) (rZ K N N k4 n1 aa) RC ?_
    ·obtain⟨q,hq,rfl⟩:=im.1 hl;rw[lK,hrow q hq];omega
    ·by_cases h3:K=3
     ·exact .inl aa
     ·by_cases h0:N=0
      ·exact .inr (.inl ⟨by omega,by omega⟩)
      ·refine .inr (.inr ⟨by omega,by omega,?_⟩);have JQ:=yS K N n1;have e:jac (K:Int) N=((arS (Mx.sqs K N N):Nat):Int):=by
        unfold jac;by_cases e2:K=2
        ·subst e2;rw[aB (show((2:Nat):Int)=2 from rfl)];exact(Mx.AO aa n1 N (Mx.gJ N)).symm
        ·have e4:K=4:=by omega
         subst e4;rw[an aA,<-Mx.yT aa n1 N (Mx.gJ N)]
       rwa[e]at JQ
   ·exact vE k n hk.1 hk.2 aa hn.2
  ·exact xr k n hk.1 hk.2 hn
 ·exact xq k n hk
end DW
theorem sA(k n:Int)(w:World):Calls Tryz.prog 9 #[.int .i64 k,.int .i64 n] w fun e w'=>e= .returned (.bool true)/\Below w.heap.size w w':=by
 refine((DW.tB k n).2 (fun _=>False) w #[.int .i64 k,.int .i64 n] (fun _ h=>h.elim) (by simp only[DW.ATp];exact⟨_,_,rfl,by simp only[DW.AR];exact⟨trivial,rfl⟩,_,_,rfl,by simp only[DW.AR];exact⟨trivial,rfl⟩,rfl⟩)).mono fun e w' ⟨u,h1,h2,h3⟩=>⟨?_,h3⟩;simp only[DW.AR]at h2;rw[h1,h2.1]
end
section
set_option maxRecDepth 100000
theorem B2:laidOutB Tryz.prog=true:=by kernel_rfl
theorem B0:mapsRowed Tryz.prog=true:=by kernel_rfl
theorem AQ:Tryz.prog.plainKeys=true:=by kernel_rfl
theorem AV:Tryz.prog.stopsHeard=true:=by kernel_rfl
theorem AP:Tryz.prog.stops=[]/\Tryz.prog.stopKnobs=[]:=⟨by kernel_rfl,by kernel_rfl⟩
theorem AU:Tryz.prog.laysLater=false:=by kernel_rfl
theorem BZ:Tryz.prog.bearsReflect=false:=by kernel_rfl
theorem B5:Tryz.prog.doorFits []=true:=by kernel_rfl
def qa(l:List (List Char)):Bool:=match l with
 | a :: b :: c :: _ => a == "harness".toList && isSumSigns b && c == "cut".toList
 |_=>false
theorem B4:qa (wordsSigns Tryz.prog.initOrder.toList)=true:=by kernel_rfl
theorem Cp {l : List (List Char)} (h : qa l = true) : ∃ r, behindMainWord l = "cut".toList :: r := by
 unfold qa at h;split at h
 ·next a b c r=>
  rw[cu,cu]at h;obtain⟨⟨h1,h2⟩,h3⟩:=h;refine⟨r,?_⟩
  show (if ((a == "harness".toList || a == "ownmain".toList) && isSumSigns b) = true then c :: r else a :: b :: c :: r) = _
  rw[h1,h2,eq_of_beq h3];rfl
 ·cases h
theorem qU : ∃ r, behindMainWord (wordsSigns Tryz.prog.initOrder.toList) = "cut".toList :: r := Cp B4
theorem qn (r : List (List Char)) : stripLifts liftWords ("cut".toList :: r) = ([], "cut".toList :: r) := by kernel_rfl
theorem AS:Tryz.prog.headLifts=[]:=by
 obtain⟨r,h⟩:=qU;unfold Program.headLifts;rw[h,qn]
 kernel_rfl
theorem AX:Tryz.prog.liftsFinal=false:=by
 obtain⟨r,h⟩:=qU;unfold Program.liftsFinal;rw[h,AS]
 kernel_rfl
theorem B1:Tryz.prog.make=some .cut:=by
 obtain⟨r,h⟩:=qU;unfold Program.make;rw[h]
 kernel_rfl
theorem AY:Tryz.prog.mayEnter=true:=by
 obtain⟨r,h⟩:=qU;unfold Program.mayEnter;rw[h];simp only[qn,AU,BZ,B5]
 kernel_rfl
theorem and_t{a b:Bool}(h:a=true)(k:b=true):(a&&b)=true:=by rw[h,k];rfl
theorem xw{P:Program}{f:FuncId}{fn:Func}{s:ChangeSpec}{c:OpenClaim}(k2:laidOutB P=true)(k3:mapsRowed P=true)(k7:P.stops=[]/\P.stopKnobs=[])
  (k10:(c.inPlace==P.inPlace f)=true) (k11:(c.unfollowed==P.unfollowed f)=true) (k12:(c.recurses==P.recurses f)=true) (k13:(c.named==P.varsNamed f)=true)
  (k23:P.plainKeys=true) (k25:P.stopsHeard=true) (k26:P.mayEnter=true) (k27:P.liftsFinal=false) (k28:P.make=some .cut)
  (k:(c.wf (OpenSpec.ofChange s)&&fn.params.all (P.readableRec ·)&&namedTie P c.named s.vars&&(c.stops==[])&&(c.knobs==[])&&
   (c.maps==(fn.params.toList++s.plain.varTypes P).any (P.mapsRec ·))&&(c.ifaces==(fn.params.toList++s.plain.varTypes P).any (P.ifacesRec ·))&&(c.mapsOut==P.mapsAmong fn.resultTypes.toList)&&
   (c.loops==(fn.params.toList++s.plain.varTypes P).any (P.loopsFrom ·))&&(c.wideKeys==(fn.params.toList++s.plain.varTypes P++fn.resultTypes.toList).any (P.wideKeysFrom ·))&&
   s.vars.all (P.varReadable ·)&&fn.resultTypes.all (fun t=>P.readableRec t&&decide (t<P.types.size))&&(c.ifacesOut==fn.resultTypes.toList.any (P.ifacesRec ·))&&(c.loopsOut==fn.resultTypes.toList.any (P.loopsFrom ·))&&(c.plainKeys==true)&&c.shortTexts.isNone&&(c.lifted==false)&&(some Make.cut==some c.make)&&
   (c.kinds==(if c.domain.isEmpty then []else fn.params.toList.map fun t=>match P.underlying t with|some (.int k)=>some k|_=>none))&&(c.pinned==c.pinnedBy)&&
   (c.veiled==(fn.params.toList++s.plain.varTypes P++fn.resultTypes.toList).any (P.veiledRec ·))&&c.veiledFits P fn.params.toList (fn.params.toList++s.plain.varTypes P++fn.resultTypes.toList))=true):
  joinedFacts P f fn s c=true:=by
 simp only[cu]at k;obtain⟨⟨⟨⟨⟨⟨⟨⟨⟨⟨⟨⟨⟨⟨⟨⟨⟨⟨⟨⟨⟨a1,a2⟩,a3⟩,a4⟩,a5⟩,a6⟩,a7⟩,a8⟩,a9⟩,a10⟩,a11⟩,a12⟩,a13⟩,a14⟩,a15⟩,a16⟩,a17⟩,a18⟩,a19⟩,a20⟩,a21⟩,a22⟩:=k;have b7:(P.stops==[])=true:=by rw[k7.1];rfl
 have b9:(P.stopKnobs==[])=true:=by rw[k7.2];rfl
 have b23:(c.plainKeys==P.plainKeys)=true:=by rw[k23];exact a15
 have b27:(c.lifted==P.liftsFinal)=true:=by rw[k27];exact a17
 have b28:(P.make==some c.make)=true:=by rw[k28];exact a18
 unfold joinedFacts
 with_reducible repeat' refine and_t ?_ ?_
 all_goals first
  |with_reducible assumption
  |exact a19
end
end Go.Proofs.YtepdigdijecgpaaGreat
