/- Lemmas for the law: V9 V10 V11 V12 V13 V14 V15 V16 V17 V18 V19 E11 -/
import Derived.Maps.AppendAt
import Derived.Deep.RegionLaw
import Derived.Shelf.Abstract
import Derived.Test.YtcgjmdpcplhanaaGreatZs6
namespace Go.Proofs.YtcgjmdpcplhanaaGreat
section
abbrev zW:=@List.mem_range
abbrev mF:=@List.map_congr_left
abbrev mE:=@Option.getD_some
abbrev ku:=@List.any_eq_true
abbrev qF:=@Bool.true_and
abbrev qE:=@Bool.false_and
theorem Ka{p:Prop}(h:p:=by rw[hs0];exact iU _):p:=h
theorem Rh{p q:Prop}(h:q)(f:Wq q->p:=by(intro hW;(refine bT ?_;refine pQ ?_;refine gO ?_;refine zs8 ?_;refine zs62 ?_;refine nP ?_;refine cT ?_);exact hW.out)):p:=f ⟨h⟩
theorem zb31{p:Prop}(h:p:=by(apply Jb;(exact rfl);(focus((apply aE;(conv=>lhs;whnf);(first|done|exact rfl))));(exact cK);(exact cK);(exact rfl);(exact rfl);(exact rfl);(assumption);(exact rfl))):p:=h
theorem zs93{p q:Prop}(h:q)(f:Wq q->p:=by(intro hW;(refine aL1 rfl rfl rfl zb31 ?_);exact hW.out)):p:=f ⟨h⟩
theorem Jx{p q:Prop}(h:q)(f:Wq q->p:=by(intro hW;((first|refine fo rfl rfl rfl ai zb27 ai ai ?_|((try refine bf ?_);refine aL1 rfl rfl rfl zb27 ?_)));exact hW.out)):p:=f ⟨h⟩
theorem Kc{p:Prop}(h:p:=by simp[results,Tryz.results74,go_sem]):p:=h
theorem zb60{p:Prop}(h:p:=by(simp only[bD,aY,iD,gW];omega)):p:=h
theorem Eo{p:Prop}(h:p:=by simp[results,Tryz.results120,go_sem]):p:=h
theorem zs94{p q:Prop}(h:q)(f:Wq q->p:=by(intro hW;((first|(apply aI 13;(focus kernel_rfl);(decide+kernel))|(apply aI 12;(focus kernel_rfl);(decide+kernel))|(apply aI 11;(focus kernel_rfl);(decide+kernel))|(apply aI 10;(focus kernel_rfl);(decide+kernel))|(apply aI 9;(focus kernel_rfl);(decide+kernel))|(apply aI 8;(focus kernel_rfl);(decide+kernel))|(apply aI 7;(focus kernel_rfl);(decide+kernel))|(apply aI 6;(focus kernel_rfl);(decide+kernel)));simp only[eu,dw,eU,du]);exact hW.out)):p:=f ⟨h⟩
end
section
open Go.RowKit Go.BigFrame
attribute [local go_sem ↓] Go.wp_at_zero Go.wp_at_succ
def fO(n k:Nat):List Int:=(List.replicate n 0).set k 1
def na(n:Nat):Mx.Mat:=(List.range n).map (fO n)
theorem rS(n k:Nat):(fO n k).length=n:=by simp[fO]
theorem lz(n:Nat):(na n).length=n:=by simp[na]
theorem Cv{n k:Nat}(h:k<n):(na n)[k]?=some (fO n k):=by
 unfold na;rw[bN,iT h];rfl
theorem Fk{M:Mx.Mat}{z z':List Int}:(M++[z]).set M.length z'=M++[z']:=by
 rw[xA,aj (Nat.lt_irrefl _),eR,et]
set_option maxRecDepth 10000 in
set_option maxHeartbeats 4000000 in
theorem LJ(n:Nat)(hn:n<=1000000)(w:World):
  Calls Tryz.prog 143 #[.int .i64 ((n:Int))] w (qo w n (na n)):=by
 have hmk:=pN n aa;have hmr:=wH 147 Tryz.underlying147 n aa;have OF:=ae (fun w=>si 1 ⟨by omega,by omega⟩ w)
 go_enter Tryz.func143,Tryz.ntmps143
 go_wp2_with fail
 go_loopw [9] (fun i wr=>∃(k:Nat) (gs cs:Nat->Nat),k<=n/\i= .int .i64 ((k:Int))/\Below w.heap.size w wr/\Hid (MB wr w.heap.size w.heap.size n gs cs n ((na n).take k)/\∀i,i<k->w.heap.size<gs i/\gs i<wr.heap.size)) (fun i _=>n-(intOf i).toNat)
 case atStart=>
  exact⟨0,id,id,by omega,rfl,by exact bel,MB.made w w.heap.size n n id id (af _),fun i hi=>by omega⟩
 case round=>
  obtain⟨k,gs,cs,hk,rfl,hB,HR⟩:=hrel;have hlt:w.heap.size<wr.heap.size:=HR.out.1.lt;by_cases hkn:k<n
  ·have hkn2:(k:Int)<(n:Int):=by omega
   obtain⟨u,hu⟩:=HR.out.1.hl k hkn;have hfr:=HR.out.1.fr k;have hkl:((na n).take k).length=k:=by rw[aY,lz];omega
   have hRI:=RI.made wr n;have hb1:Below wr.heap.size wr (wr.alloc (.cells (madeCells #[.bool false, .slice none 0 0] (n*2)) 62)):=by exact bel
   have hp := (HR.out.1.below hb1 (af _)).push (g := wr.heap.size) (c := n) (b := some ⟨wr.heap.size, 0, none⟩) (zs := List.replicate n 0) (by rw [hkl]; exact hkn) (by simp) (af _) (AD.some _ _) (fun _ => ⟨rfl, ⟨_, hRI⟩, by omega, by omega, fun i hi => by
       have h1:=(HR.out.2 i (by rw[hkl]at hi;exact hi)).2;omega⟩)
   rw[hkl]at hp;have hz1:((na n).take k++[List.replicate n 0]).length=k+1:=by rw[cv,hkl];rfl
   have e1:(wr.alloc (.cells (madeCells #[.bool false, .slice none 0 0] (n*2)) 62)).setCell ⟨w.heap.size,k,none⟩ (.slice (some ⟨wr.heap.size,0,none⟩) n n)=(wr.setCell ⟨w.heap.size,k,none⟩ (.slice (some ⟨wr.heap.size,0,none⟩) n n)).alloc (.cells (madeCells #[.bool false, .slice none 0 0] (n*2)) 62):=by go_simp
   rw[e1]at hp;have hBW:Below w.heap.size w ((wr.setCell ⟨w.heap.size,k,none⟩ (.slice (some ⟨wr.heap.size,0,none⟩) n n)).alloc (.cells (madeCells #[.bool false, .slice none 0 0] (n*2)) 62)):=by exact bel
   have hsz:((wr.setCell ⟨w.heap.size,k,none⟩ (.slice (some ⟨wr.heap.size,0,none⟩) n n)).alloc (.cells (madeCells #[.bool false, .slice none 0 0] (n*2)) 62)).heap.size=wr.heap.size+1:=by simp
   have HP:=ae hp;clear hp hRI hb1 e1
   go_upto_region 6 with fail
   generalize(wr.setCell ⟨w.heap.size,k,none⟩ (.slice (some ⟨wr.heap.size,0,none⟩) n n)).alloc (.cells (madeCells #[.bool false, .slice none 0 0] (n*2)) 62)=W1 at*;clear hu hfr;obtain⟨x,c0,c1,c2,_,c3⟩:=(HP.out.mo aa).elem (i:=k) (j:=k) (by rw[hz1];omega) hkn;rw[an rfl]at c1 c2 c3;rw[an rfl,an rfl]at c0;have f0:=(HP.out.mo aa).hc k (by rw[hz1];omega);rw[an rfl]at f0;obtain⟨_,_,_,hgne,hro⟩:=f0;have f1:W1.frozen? ⟨wr.heap.size,k*2,none⟩=false:=hro.elim fun _ h=>h.fr _;have f2:W1.frozen? ⟨wr.heap.size,k*2+1,none⟩=false:=hro.elim fun _ h=>h.fr _;rw[BW,an hkl.symm]at hro;have HRO:=ae hro;clear hro;have hW:w.heap.size<W1.heap.size:=by omega
   (apply Own3.dR 7 [.inl _, .inl _, .inl _, .inl _, .inl _, .inr (rIZ (1)), .inl _] ah ah;simp only[eu,dw,eU,du];refine zs1 ?_;refine zs1 ?_;refine zs1 ?_;refine zs1 ?_;refine zs1 ?_;(refine Own3.fQ rfl (fun K hK=>?_) (fun x61=>?_);(focus(go_simp;clear hK K;intro w' hw' hcb';first|(go_at_call 124;exact(gC (OF.out _)))));simp only[rIZ,Act.put,jz,jr,et]);refine zs1 ?_;refine Own3.jW ?_;intro w6 hw6;have hB6:=hw6.1;have HY61:Hid (IZ w6 x61 (1)):=ae (hw6.get (u:=5) (Or.inl ⟨rfl,rfl⟩));clear hw6;obtain⟨g6,rfl⟩:=mob hB6;clear hB6)
   go_wp2_with fail
   go_roundw
   case rel=>
    have hgW:wr.heap.size<W1.heap.size:=by omega
    have hm:=(HP.out.mo aa).below (ig W1 g6 (Below.refl _ _) (af _)) (af _);have hc:Chg wr.heap.size (more W1 g6) (gI (more W1 g6) wr.heap.size k x61):=qN (Chg.refl _ _) k x61;have hr:=(HRO.out.below (B:=W1.heap.size) (w':=more W1 g6) (ig W1 g6 (Below.refl _ _) (af _)) (af _)).set (k:=k) (by simp;exact hkn) HY61.out;have h2:=(hm.setRow (i:=k) (zs:=fO n k) (by rw[hz1];omega) (rS n k) (by rw[an rfl];exact hc) (by rw[an rfl];exact hr)).mb;have hset:((na n).take k++[List.replicate n 0]).set k (fO n k)=(na n).take (k+1):=by
     rw[pL (Cv hkn)];have:=Fk (M:=(na n).take k) (z:=List.replicate n 0) (z':=fO n k);rw[hkl]at this;exact this
    have e5:gI (more W1 g6) wr.heap.size k x61=more (gI W1 wr.heap.size k x61) g6:=by unfold gI;go_simp
    rw[hset,e5]at h2;refine⟨k+1,_,_,by omega,by go_num,by exact bel,h2,fun i hi=>?_⟩;have hsz2:W1.heap.size<=(more ((W1.setCell ⟨wr.heap.size,k*2,none⟩ (.bool x61.s)).setCell ⟨wr.heap.size,k*2+1,none⟩ (.slice x61.a x61.n x61.cap)) g6).heap.size:=by simp
    by_cases e:i=k
    ·rw[an e];omega
    ·rw[aj e];have h1:=HR.out.2 i aa;omega
   case measure=>simp[intOf];omega
  ·obtain rfl:k=n:=by omega
   have hkn2:¬(k:Int)<(k:Int):=by omega
   go_wp2_with fail
   go_ret
   refine⟨⟨w.heap.size,gs,cs,k,by rw[lz];rfl,by rw[lz];exact af _,?_⟩,hB⟩;have h1:=HR.out.1;rw[cf (by rw[lz];exact af _)]at h1;rw[lz];exact h1
end
section
open Go.RowKit Go.BigFrame
attribute [local go_sem ↓] Go.wp_at_zero Go.wp_at_succ
def eW(w:World)(base:Nat)(T:TypeId)(v:Value)(l:List Value):Prop:=w.ownsRow base T 1 v l.length l
theorem eW.nil(w:World)(base:Nat)(T:TypeId):eW w base T (.slice none 0 0) []:=⟨by simp,.inl ⟨rfl,rfl⟩⟩
theorem eW.low{W W':World}{base:Nat}{T:TypeId}{v:Value}{l:List Value}(h:eW W base T v l)(hb:Below W.heap.size W W'):eW W' base T v l:=
 World.ownsRow.kept (row:=none) h ⟨hb.os,hb.tape,hb.output,hb.size,fun k hk _=>hb.block k hk⟩ (by cases v.ownBlock<;>simp)
structure sZ(w w':World)(base:Nat)(T:TypeId)(v v':Value)(l:List Value)(u:Value):Prop where
 own:eW w' base T v' (l++[u])
 by':w.grownBy w' v.ownBlock
 at':v'.ownBlock=v.ownBlock\/v'.ownBlock=some w.heap.size
theorem sZ.below{w0 w w':World}{base:Nat}{T:TypeId}{v v':Value}{l:List Value}{u:Value}(h:sZ w w' base T v v' l u)(hown:eW w base T v l)(hB:Below base w0 w)(hbase:base<=w.heap.size):Below base w0 w':=
 hB.grown h.by' hbase fun k hk=>(hown.lt k hk).1
theorem sZ.other{w w':World}{base:Nat}{T T2:TypeId}{v v' v2:Value}{l l2:List Value}{u:Value}(h:sZ w w' base T v v' l u)(h2:eW w base T2 v2 l2)(ha:v2.ownBlock=none\/v2.ownBlock≠v.ownBlock):eW w' base T2 v2 l2:=
 World.ownsRow.kept h2 h.by' ha
theorem tP{P:Program}{w:World}{base:Nat}{T t ty:TypeId}{z:Value}{bytes:Nat}(hI:(P.info? T).map (fun i=>(i.zero,i.size,i.bytes))=some (some z,1,bytes))(hz1:z.cells.size=1)(hby:bytes<=64)(ht:P.underlying t=some (.slice T))
  {v u:Value} {l:List Value} (hown:eW w base T v l) (hl:l.length<=1000000000) (hbase:base<=w.heap.size) (a:Addr) (c:Nat) (hc:w.cell? a=some u) (h1:u.oneCell'=true):
  ∃v' w',(Builtin.append_ #[t,t] ty #[v, .slice (some a) 1 c]).run P w= .ok v' w'/\sZ w w' base T v v' l u:=by
 obtain⟨i0,hi0,hz0,hzs,hzb⟩:=im hI;have hnews:∀j x,[u][j]?=some x->w.cell? (a.add j)=some x:=fun j x hx=>by
  match j with
  |0=>
   simp at hx;subst hx;have:a.add 0=a:=by
    obtain⟨b,o,p⟩:=a;cases p<;>simp[Addr.add]
   rw[this];exact hc
  |j+1=>simp at hx
 obtain⟨v',w',hr,h2,h3,_,h5⟩:=run_append_own_at (P:=P) w base t ty T i0 z 1 bytes ht hi0 hz0 hzs hzb hz1 aa v l.length l hown a 1 c [u] aU hnews (by intro x hx;rw[bL.1 hx];exact h1)
  (by simp only [maxLen]; omega) (by have : (l.length + 1) * bytes <= 1000000001 * 64 := cr (by omega) hby
                                     omega) hbase
 exact⟨v',w',hr,by unfold eW;rw[cv];exact h2,h3,h5⟩
theorem Ar{P:Program}{ops:Array Oper}{o:Oper}{a:Act}{w w':World}{K:Act->World->Prop}{Q:Exit->Act->World->Prop}{E:Prop}(hgd:o.guard=none)(s x:Operand)(t tx:TypeId)
  (ho:o.op= .call {callee:=.builtin .append,args:=#[s,x],argTypes:=#[t,tx]}) (v':Value) (hr:(Builtin.append_ #[t,tx] o.type #[a.eval s,a.eval x]).run P w= .ok v' w')
  (hK:K (a.put o.dst v') w'):if Region.wanted o (yielded ops a.tmps)=true then Oper.wp P o a w K Q else E:=by
 have hw:Region.wanted o (yielded ops a.tmps)=true:=by simp[Region.wanted,hgd]
 rw[an hw];unfold Oper.wp execOp;simp only[ho,resolve,invoke,builtin,Sem.run_bind,Sem.run_pure,Result.andThen_ok,qa,fA,jq,hr];exact hK
theorem iW{P:Program}{ops:Array Oper}{o:Oper}{a:Act}{w:World}{K:Act->World->Prop}{Q:Exit->Act->World->Prop}{E:Prop}{base:Nat}{T t:TypeId}{z:Value}{bytes:Nat}(hI:(P.info? T).map (fun i=>(i.zero,i.size,i.bytes))=some (some z,1,bytes))(hz1:z.cells.size=1)(hby:bytes<=64)(ht:P.underlying t=some (.slice T))
  (hgd:o.guard=none) (s x:Operand) (ho:o.op= .call {callee:=.builtin .append,args:=#[s,x],argTypes:=#[t,t]}) {v u:Value} {l:List Value} {ad:Addr} {c:Nat} (hs:a.eval s=v) (hx:a.eval x= .slice (some ad) 1 c)
  (hown:eW w base T v l) (hl:l.length<=1000000000) (hbase:base<=w.heap.size) (hc:w.cell? ad=some u) (h1:u.oneCell'=true)
  (hK:∀v' w',sZ w w' base T v v' l u->K (a.put o.dst v') w'):if Region.wanted o (yielded ops a.tmps)=true then Oper.wp P o a w K Q else E:=by
 obtain⟨v',w',hr,hg⟩:=tP (ty:=o.type) hI hz1 hby ht hown hl hbase ad c hc h1;exact Ar hgd s x t t ho v' (by rw[hs,hx];exact hr) (hK v' w' hg)
theorem yf{P:Program}{ops:Array Oper}{rest:List Oper}{o:Oper}{a:Act}{w:World}{Q:Exit->Act->World->Prop}{base:Nat}{T t:TypeId}{z:Value}{bytes:Nat}(hI:(P.info? T).map (fun i=>(i.zero,i.size,i.bytes))=some (some z,1,bytes))(hz1:z.cells.size=1)(hby:bytes<=64)(ht:P.underlying t=some (.slice T))
  (hgd:o.guard=none) (s x:Operand) (ho:o.op= .call {callee:=.builtin .append,args:=#[s,x],argTypes:=#[t,t]}) {v u:Value} {l:List Value} {ad:Addr} {c:Nat} (hs:a.eval s=v) (hx:a.eval x= .slice (some ad) 1 c)
  (hown:eW w base T v l) (hl:l.length<=1000000000) (hbase:base<=w.heap.size) (hc:w.cell? ad=some u) (h1:u.oneCell'=true)
  (hK:∀v' w',sZ w w' base T v v' l u->wpList P ops Q rest (a.put o.dst v') w'):wpList P ops Q (o::rest) a w:=by
 obtain⟨v',w',hr,hg⟩:=tP (ty:=o.type) hI hz1 hby ht hown hl hbase ad c hc h1;exact wpList_append_run hgd s x t t ho v' (by rw[hs,hx];exact hr) (hK v' w' hg)
structure Two(w0 wr w6:World)(base:Nat)(T:TypeId)(v:Value)(l:List Value)(v2:Value)(l2:List Value):Prop where
 bl:Below base w0 w6
 a:eW w6 base T v l
 b:eW w6 base T v2 l2
 ap:v2.ownBlock=none\/v2.ownBlock≠v.ownBlock
 sz:wr.heap.size<=w6.heap.size
theorem FB{w:World}{base:Nat}{T:TypeId}{v:Value}{l:List Value}(h:eW w base T v l){b:Nat}(hb:v.ownBlock=some b):b<w.heap.size:=(World.ownsRow.lt h b hb).2
theorem pK{w0 wr W w6:World}{base:Nat}{T:TypeId}{v v' u v2:Value}{l l2:List Value}(hB:Below wr.heap.size wr W)(hg:sZ W w6 base T v v' l u)(hb0:Below base w0 wr)(hbase:base<=wr.heap.size)(h1:eW wr base T v l)(h2:eW wr base T v2 l2)(ha:v2.ownBlock=none\/v2.ownBlock≠v.ownBlock):
  Two w0 wr w6 base T v' (l++[u]) v2 l2/\∀b o,wr.heap.size<=b->b<W.heap.size->w6.cell? ⟨b,o,none⟩=W.cell? ⟨b,o,none⟩:=by
 have hW:Below base w0 W:=hb0.trans (hB.mono hbase);refine⟨⟨hg.below (h1.low hB) hW (aB hbase hB.size),hg.own,hg.other (h2.low hB) ha,?_,aB hB.size hg.by'.size⟩,fun b o h3 h4=>World.cell?_of_block (hg.by'.block b h4 fun e=>?_)⟩
 ·rcases ha with ha|ha
  ·exact .inl ha
  ·rcases hg.at' with h|h
   ·right;rw[h];exact ha
   ·cases e:v2.ownBlock with
    |none=>exact .inl rfl
    |some b=>
     right;rw[h];intro e2;have:=FB h2 e;have:=hB.size;cases e2;omega
 ·have:=FB h1 e.symm;omega
theorem Two.symm{w0 wr w6:World}{base:Nat}{T:TypeId}{v v2:Value}{l l2:List Value}(h:Two w0 wr w6 base T v l v2 l2):Two w0 wr w6 base T v2 l2 v l:=
 ⟨h.bl,h.b,h.a,by
  rcases h.ap with e|e
  ·cases e2:v.ownBlock with
   |none=>exact .inl rfl
   |some b=>right;rw[e];intro e3;cases e3
  ·exact .inr (Ne.symm e),h.sz⟩
def cA(M:Mx.Mat):Mx.Mat:=(List.range M.length).map fun i=>Mx.rw M i++fO M.length i
theorem gV(M:Mx.Mat):(cA M).length=M.length:=by simp[cA]
theorem np{M:Mx.Mat}{k:Nat}(h:k<M.length):(cA M)[k]?=some (Mx.rw M k++fO M.length k):=by
 unfold cA;rw[bN,iT h];rfl
theorem Kv{n k:Nat}(h:k<n):Mx.rw (na n) k=fO n k:=by
 unfold Mx.rw;rw[aq,Cv h];rfl
theorem fU{n:Nat}{M:Mx.Mat}(h:Mx.Rc n M):Mx.Rc (n+M.length) (cA M):=fun r hr=>by
 obtain⟨k,hk,rfl⟩:=dY.1 hr;rw[cv,rS,h.rw (zW.1 hk)]
theorem OK(n k j:Nat):((fO n k).getD j 0).natAbs<=1:=by
 unfold fO;rw[aq,Ad];split
 ·split
  ·simp
  ·simp
 ·rw[lf];split<;>simp
theorem xP{e:Nat}{M:Mx.Mat}(h:Mx.Bd (2^e) M):Mx.Bd (2^e) (cA M):=fun i j=>by
 by_cases hi:i<M.length
 ·have e1 : Mx.rw (cA M) i = Mx.rw M i ++ fO M.length i := by
   unfold Mx.rw;rw[aq,np hi];rfl
  unfold Mx.at';rw[e1,aq];by_cases hj:j<(Mx.rw M i).length
  ·rw[dC hj,<-aq];exact h i j
  ·rw[ez aa,<-aq];exact aB (OK _ _ _) (ep aa)
 ·rw[Mx.jC (by rw[gV];omega)];simp
def tk(n:Nat)(M:Mx.Mat):Mx.Mat:=M.map (List.take n)
def dp(n:Nat)(M:Mx.Mat):Mx.Mat:=M.map (List.drop n)
theorem uQ{n:Nat}{M:Mx.Mat}{i:Nat}:Mx.rw (tk n M) i=(Mx.rw M i).take n:=by
 unfold Mx.rw tk;rw[aq,aq,bN];cases M[i]?<;>simp
theorem SE{n:Nat}{M:Mx.Mat}{i:Nat}:Mx.rw (dp n M) i=(Mx.rw M i).drop n:=by
 unfold Mx.rw dp;rw[aq,aq,bN];cases M[i]?<;>simp
theorem RA.take{w:World}{g o:Nat}{zs:List Int}(h:RA w g o zs)(n:Nat):RA w g o (zs.take n):=⟨h.lt,fun k z hz=>h.c k z (by
 rw[iB]at hz;split at hz
 ·exact hz
 ·cases hz)⟩
theorem RA.drop{w:World}{g o:Nat}{zs:List Int}(h:RA w g o zs)(n:Nat):RA w g (o+n*2) (zs.drop n):=⟨h.lt,fun k z hz=>by
 rw[eF]at hz;have:=h.c (n+k) z hz;rwa[show o+(n+k)*2=o+n*2+k*2 by omega]at this⟩
end
section
open Go.RowKit Go.BigFrame
attribute [local go_sem ↓] Go.wp_at_zero Go.wp_at_succ
theorem RV.chg{b:Nat}{w w':World}{v:Value}{n:Nat}{zs:List Int}(h:RV w v n zs)(k:Chg b w w')(hb:NW w b)(hne:∀g o l c,v= .slice (some ⟨g,o,none⟩) l c->g≠b):RV w' v n zs:=by
 obtain⟨a,c,rfl,h2,h3,hA,h4⟩:=h;refine⟨a,c,rfl,h2,h3,hA,?_⟩;rcases h4 with h4|⟨g,o,rfl,h5⟩
 ·exact .inl h4
 ·exact .inr ⟨g,o,rfl,h5.chg k hb (hne g o _ _ rfl)⟩
theorem MB.rv{w:World}{B gm L:Nat}{gs cs:Nat->Nat}{n:Nat}{M:Mx.Mat}(h:MB w B gm L gs cs n M)(h0:0<n){i:Nat}(hi:i<M.length):w.cell? ⟨gm,i,none⟩=some (.slice (some ⟨gs i,0,none⟩) n (cs i))/\RV w (.slice (some ⟨gs i,0,none⟩) n (cs i)) n (Mx.rw M i)/\B<=gs i/\gs i≠gm:=by
 obtain⟨b,h1,h2,_,h3⟩:=h.hc i hi;obtain⟨rfl,h4,h5,h6⟩:=h3 h0;exact⟨h1,⟨_,_,rfl,h2,h.rc.rw hi,AD.some _ _,.inr ⟨gs i,0,rfl,h6.ra⟩⟩,h4,h5⟩
def MRB(w:World)(B:Nat)(v:Value)(n:Nat)(M:Mx.Mat):Prop:=∃a cap,v= .slice a M.length cap/\M.length<=cap/\Mx.Rc n M/\(M=[]\/∃gm om,a=some ⟨gm,om,none⟩/\B<=gm/\gm<w.heap.size/\
 ∀i,i<M.length->∃b c,w.cell? ⟨gm,om+i,none⟩=some (.slice b n c)/\n<=c/\AD b/\(n=0\/∃g o,b=some ⟨g,o,none⟩/\B<=g/\RA w g o (Mx.rw M i)))
theorem eW.mrb{w:World}{B base:Nat}{T:TypeId}{v:Value}{l:List Value}{n:Nat}{M:Mx.Mat}(hB:B<=base)(h:eW w base T v l)(hl:l.length=M.length)(hr:Mx.Rc n M)(hv:∀i,i<M.length->∃u,l[i]?=some u/\∃b c,u= .slice b n c/\n<=c/\AD b/\(n=0\/∃g o,b=some ⟨g,o,none⟩/\B<=g/\RA w g o (Mx.rw M i))):MRB w B v n M:=by
 obtain⟨h0,h⟩:=h;rcases h with⟨hv',hn⟩|⟨g,cap,cur,rfl,hb,hg,hle,hm,hsz,htk⟩
 ·exact⟨none,0,by rw[hv',show M.length=0 by omega],by omega,hr,.inl (gP aa)⟩
 ·refine⟨_,cap,by rw[hl],by omega,hr,.inr ⟨g,0,rfl,by omega,(iG.1 hg).1,fun i hi=>?_⟩⟩;obtain⟨u,hu,b,c,rfl,hc,hA,h4⟩:=hv i hi;refine⟨b,c,?_,hc,hA,h4⟩;rw[bw,cell_of_row w g _ cur _ (0,0) hg];have h1:=hu;rw[<-htk,jo aa,eL]at h1;exact h1
def TPost(w:World)(n m:Nat)(T:Nat×Mx.Mat)(e:Ending)(w':World):Prop:=(∃vh vu,e= .returned (.tuple #[vh,vu,.int .i64 ((T.1:Int))])/\MRB w' w.heap.size vh n (tk n T.2)/\MRB w' w.heap.size vu m (dp n T.2))/\Below w.heap.size w w'
def hvs(gs:Nat->Nat)(n k:Nat):List Value:=(List.range k).map fun i=>.slice (some ⟨gs i,0,none⟩) n n
def uvs(gs cs:Nat->Nat)(n q k:Nat):List Value:=(List.range k).map fun i=>.slice (some ⟨gs i,n*2,none⟩) q (cs i-n)
theorem PR(gs:Nat->Nat)(n k:Nat):hvs gs n (k+1)=hvs gs n k++[.slice (some ⟨gs k,0,none⟩) n n]:=by
 unfold hvs;rw[List.range_succ,cL];rfl
theorem OH(gs cs:Nat->Nat)(n q k:Nat):uvs gs cs n q (k+1)=uvs gs cs n q k++[.slice (some ⟨gs k,n*2,none⟩) q (cs k-n)]:=by
 unfold uvs;rw[List.range_succ,cL];rfl
set_option maxRecDepth 10000 in
set_option maxHeartbeats 8000000 in
theorem Ak(M:Mx.Mat)(n e:Nat)(v:Value)(h0:M≠[])(hm:n+M.length<=1000)(he:6<=e)(hf:2*(e*11^n)<=6000000000000)(hb:Mx.Bd (2^e) M)(w:World)(h:MR w v n M):
  Calls Tryz.prog 73 #[v] w (TPost w n M.length (Mx.red n 0 (0,cA M))):=by
 obtain⟨a,cap,rfl,_,hr,h4⟩:=h.row;have HM0:0<M.length:=iC.2 h0;have hRE:=Mx.eh n 0 (0,cA M) (fU hr);have RC:Hid (Mx.Rc n M):=hr;have RE0:=ae (fun (B gm L cap:Nat) (gs cs:Nat->Nat) w hmo=>AB B gm L cap (n+M.length) n e gs cs (cA M) aa aa (by rw[gV];omega) he hf (xP hb) w hmo);have RLN:Hid ((Mx.red n 0 (0,cA M)).2.length=M.length):=hRE.len.trans (gV M);have RRC:Hid (Mx.Rc (n+M.length) (Mx.red n 0 (0,cA M)).2):=hRE.rc (fU hr);have UN:=ae (fun w=>LJ M.length aa w);have EL:=ae (gV M);have hmk:=pN M.length aa;rw[gV]at RE0;generalize hT:Mx.red n 0 (0,cA M)=T at*;obtain⟨rk,N⟩:=T;simp only[]at RE0 RLN RRC;rcases h4 with h4|⟨gm,om,rfl,hgl,hcc⟩
 ·exact absurd h4 h0
 have HCC:Hid _:=hcc;obtain⟨b0,c0,k0,_⟩:=hcc 0 HM0;have hm1:¬(M.length:Int)=0:=by omega
 have hm2:¬M.length=0:=by omega
 generalize hml:M.length=q at*;have HQ:=ae hml;clear hml h0 hT hb hcc h hr hRE;have hq0:(0:Int)<(q:Int):=by omega
 rw[bZ]at k0
 go_enter Tryz.func73,Tryz.ntmps73
 go_wp2_with (first|(go_at_call 143;(with_reducible refine(UN.out _).mono ?_);rintro e w4 ⟨⟨gu,gsu,csu,cu,rfl,hcu,hmb⟩,hb4⟩;rw[lz]at hcu hmb⊢;have HU:=ae hmb;have HB4:=ae hb4;clear hb4 hmb))
 have hsz0:(w.alloc (.cells (madeCells #[.slice none 0 0] q) 147)).heap.size=w.heap.size+1:=by simp
 have hMB0:MB w4 w.heap.size w.heap.size q id id (n+q) ((cA M).take 0):=(MB.made w w.heap.size q (n+q) id id (af _)).below HB4.out (af _);have hBw4:Below w.heap.size w w4:=Below.trans (b:=w.alloc (.cells (madeCells #[.slice none 0 0] q) 147)) aA (HB4.out.mono aa);have HMB0:=ae hMB0;have HBw4:=ae hBw4;have NW4:=ae hMB0.nw;have hgu:w.heap.size<gu:=by have:=HU.out.b;omega
 have hgu4:gu<w4.heap.size:=HU.out.lt;have hw4:w.heap.size<w4.heap.size:=hMB0.lt;have HUB:=ae (fun i (hi:i<q)=>HU.out.rv HM0 (i:=i) (by rw[lz];exact hi));clear hMB0 hBw4 HU HB4
 go_loopw [25] (fun i wr=>∃(k:Nat) (gs cs:Nat->Nat),k<=q/\i= .int .i64 ((k:Int))/\Hid (Below w.heap.size w wr)/\Hid (Chg w.heap.size w4 wr)/\Hid (MB wr w.heap.size w.heap.size q gs cs (n+q) ((cA M).take k)/\∀i,i<k->w.heap.size<gs i/\gs i<wr.heap.size)) (fun i _=>q-(intOf i).toNat)
 case atStart=>exact⟨0,id,id,by omega,rfl,HBw4,Chg.refl _ _,HMB0.out,fun i hi=>by omega⟩
 case round=>
  obtain⟨k,gs,cs,hk,rfl,HB,HC,HR⟩:=hrel;have hlt:w.heap.size<wr.heap.size:=HR.out.1.lt;by_cases hkn:k<q
  ·have hkn2:(k:Int)<(q:Int):=by omega
   obtain⟨b,c,cz,hza⟩:=HCC.out k hkn;have cz2:=(HB.out.cell (p:=⟨gm,om+k,none⟩) hgl).trans cz;obtain⟨e0,er,eB,_⟩:=HUB.out k hkn;have e2:=(HC.out.cell (o:=k) hgu4 aa).trans e0;have hr2:=er.chg HC.out NW4.out (fun g o l c he=>by cases he;omega);obtain⟨u,hu⟩:=HR.out.1.hl k hkn;have hfr:=HR.out.1.fr k;have HZ1:=ae (hza.below HB.out (af _));have HZ2:=ae hr2;have hgm2:gm<wr.heap.size:=aZ hgl HB.out.size;have hgu2:gu<wr.heap.size:=aZ hgu4 HC.out.size;have EG:=ae (np (M:=M) (k:=k) iS);rw[HQ.out]at EG;rw[Kv hkn]at HZ2;clear hza cz e0 er hr2
   go_wp2_with (first|(go_at_call 144;(with_reducible refine(Hr wr.heap.size n q _ _ (Mx.rw M k) (fO q k) aa aa aa _ (by go_simp) (by go_simp) (HZ1.out.below (B:=wr.heap.size) aA (af _)) (HZ2.out.below (B:=wr.heap.size) aA (af _))).mono ?_);rintro e w5 ⟨⟨b5,g5',c5,rfl,hc5,hA5,hy⟩,hb5⟩;have HY:=ae (And.intro hc5 (And.intro hA5 hy));clear hc5 hA5 hy;have HB5:=ae hb5;obtain⟨g5,rfl⟩:=mob hb5;clear hb5))
   go_roundw
   case rel=>
    have hkl:((cA M).take k).length=k:=by rw[aY,EL.out];omega
    have hbx:Below wr.heap.size wr (more (wr.alloc (.cells #[.slice b n c,.slice (some ⟨gsu k,0,none⟩) q (csu k)] 147)) g5):=by exact bel
    obtain⟨y1,y2,y3⟩:=HY.out;obtain⟨rfl,y4,y5⟩:=y3 aa;have hsz5:(wr.alloc (.cells #[.slice b n c,.slice (some ⟨gsu k,0,none⟩) q (csu k)] 147)).heap.size=wr.heap.size+1:=by simp
    have hp:=(HR.out.1.below hbx (af _)).push (g:=g5') (c:=c5) (b:=some ⟨g5',0,none⟩) (zs:=Mx.rw M k++fO q k) (by rw[hkl];exact hkn) (by rw[cv,rS,RC.out.rw iS]) y1 y2 (fun _=>⟨rfl,y5,by omega,by omega,fun i hi=>by
     have h1:=(HR.out.2 i (by rw[hkl]at hi;exact hi)).2;omega⟩)
    rw[<-pL EG.out,hkl]at hp;have e5:(more (wr.alloc (.cells #[.slice b n c,.slice (some ⟨gsu k,0,none⟩) q (csu k)] 147)) g5).setCell ⟨w.heap.size,k,none⟩ (.slice (some ⟨g5',0,none⟩) (n+q) c5)=more ((wr.setCell ⟨w.heap.size,k,none⟩ (.slice (some ⟨g5',0,none⟩) (n+q) c5)).alloc (.cells #[.slice b n c,.slice (some ⟨gsu k,0,none⟩) q (csu k)] 147)) g5:=by go_simp
    have hc5:=((HC.out.alloc (.cells #[.slice b n c,.slice (some ⟨gsu k,0,none⟩) q (csu k)] 147)).mor g5).set w.heap.size k (.slice (some ⟨g5',0,none⟩) (n+q) c5) (.inl rfl);have hb5:Below w.heap.size w ((more (wr.alloc (.cells #[.slice b n c,.slice (some ⟨gsu k,0,none⟩) q (csu k)] 147)) g5).setCell ⟨w.heap.size,k,none⟩ (.slice (some ⟨g5',0,none⟩) (n+q) c5)):=(HB.out.trans (hbx.mono (bQ hlt))).setCell (af _) _;have hs5:g5'<(more (wr.alloc (.cells #[.slice b n c,.slice (some ⟨gsu k,0,none⟩) q (csu k)] 147)) g5).heap.size:=y5.lt;have hs6:=hbx.size;rw[e5]at hp hc5 hb5;refine⟨k+1,_,_,by omega,by go_num,hb5,hc5,hp,fun i hi=>?_⟩;have hsz:(more ((wr.setCell ⟨w.heap.size,k,none⟩ (.slice (some ⟨g5',0,none⟩) (n+q) c5)).alloc (.cells #[.slice b n c,.slice (some ⟨gsu k,0,none⟩) q (csu k)] 147)) g5).heap.size=(more (wr.alloc (.cells #[.slice b n c,.slice (some ⟨gsu k,0,none⟩) q (csu k)] 147)) g5).heap.size:=by simp
    rw[hsz];by_cases e:i=k
    ·rw[an e];omega
    ·rw[aj e];have h1:=HR.out.2 i aa;omega
   case measure=>simp[intOf];omega
  ·obtain rfl:k=q:=by omega
   have hkn2:¬(k:Int)<(k:Int):=by omega
   have HMX:Hid (MB wr w.heap.size w.heap.size k gs cs (n+k) (cA M)):=by
    have h1:=HR.out.1;rw[cf (by rw[EL.out];exact af _)]at h1;exact h1
   clear HR HUB HMB0 HBw4 hk
   go_wp2_with (first|(go_at_call 145;(with_reducible refine(RE0.out w.heap.size w.heap.size k k gs cs _ (HMX.out.mo aa)).mono ?_);rintro e w5 ⟨rfl,hb5,gs5,cs5,hmo5⟩;have HM5:=ae hmo5;have HB5:=ae (HB.out.trans hb5);clear hb5 hmo5))
   have hz5:w.heap.size<w5.heap.size:=HM5.out.lt
   go_loopw [2,3,46] (fun vh vu i wx=>∃j:Nat,j<=k/\i= .int .i64 ((j:Int))/\Hid (Below w5.heap.size w5 wx)/\Hid (eW wx w5.heap.size 147 vh (hvs gs5 n j)/\eW wx w5.heap.size 147 vu (uvs gs5 cs5 n k j)/\(vu.ownBlock=none\/vu.ownBlock≠vh.ownBlock))) (fun _ _ i _=>k-(intOf i).toNat)
   case atStart=>exact⟨0,by omega,rfl,Below.refl _ _,eW.nil _ _ _,eW.nil _ _ _,.inl rfl⟩
   case round=>
    obtain⟨j,hj,rfl,HBx,HO⟩:=hrel;by_cases hjk:j<k
    ·have hjk2:(j:Int)<(k:Int):=by omega
     obtain⟨m1,m2,m3,m4,m5⟩:=HM5.out.hc j (by rw[RLN.out];exact hjk);have cz:=(HBx.out.cell (p:=⟨w.heap.size,j,none⟩) hz5).trans m1;have hs1:(n:Int)<=(cs5 j:Int):=by omega
     have hs2:(n:Int)+(k:Int)<=(cs5 j:Int):=by omega
     have hs3:(n:Int)<=(n:Int)+(k:Int):=by omega
     have hs4:¬cs5 j=n:=by omega
     have hsx:w5.heap.size<=wr.heap.size:=HBx.out.size;have hwx:w.heap.size<wr.heap.size:=by omega
     clear m1 m3 m4 m5;have hap3:u3.ownBlock=none\/u3.ownBlock≠u2.ownBlock:=HO.out.2.2;have HAP:=ae hap3;have hlh:(hvs gs5 n j).length<=1000000000:=by simp[hvs];omega
     have hlu:(uvs gs5 cs5 n k j).length<=1000000000:=by simp[uvs];omega
     have HLH:=ae hlh;have HLU:=ae hlu;clear hap3 hlh hlu
     go_upto_region 14 with fail
     go_region_law (first|(refine iW oQ rfl au Tryz.underlying104 rfl (.tmp 50) (.tmp 55) rfl (v:=u2) (u:=.slice (some ⟨gs5 j,0,none⟩) n n) (ad:=⟨wr.heap.size,0,none⟩) (c:=1) (l:=hvs gs5 n j) (base:=w5.heap.size) rfl rfl ?_ HLH.out ?_ ?_ rfl ?_;(exact HO.out.1.low aA);(focus(first|omega|(simp;omega)));(focus(go_simp));intro v6 w6 hg6;have T6:=ae (pK aA hg6 HBx.out hsx HO.out.1 HO.out.2.1 HAP.out);clear hg6)|(refine iW oQ rfl au Tryz.underlying104 rfl (.tmp 50) (.tmp 55) rfl (v:=u2) (u:=.slice (some ⟨gs5 j,0,none⟩) n n) (ad:=⟨wr.heap.size+1,0,none⟩) (c:=1) (l:=hvs gs5 n j) (base:=w5.heap.size) rfl rfl ?_ HLH.out ?_ ?_ rfl ?_;(exact HO.out.1.low aA);(focus(first|omega|(simp;omega)));(focus(go_simp));intro v6 w6 hg6;have T6:=ae (pK aA hg6 HBx.out hsx HO.out.1 HO.out.2.1 HAP.out);clear hg6)|(refine iW oQ rfl au Tryz.underlying104 rfl (.tmp 57) (.tmp 61) rfl (v:=u3) (u:=.slice (some ⟨gs5 j,n*2,none⟩) k (cs5 j-n)) (ad:=⟨wr.heap.size,0,none⟩) (c:=1) (l:=uvs gs5 cs5 n k j) (base:=w5.heap.size) rfl rfl ?_ HLU.out ?_ ?_ rfl ?_;(exact T6.out.1.b.low aA);(focus(first|exact aB hsx T6.out.1.sz|(have h8:=aB hsx T6.out.1.sz;simp;omega)));(focus(first|(go_simp;done)|(rw[T6.out.2 _ _ uB uB];go_simp)));intro v7 w7 hg7;have T7:=ae (pK aA hg7 T6.out.1.bl (aB hsx T6.out.1.sz) T6.out.1.b T6.out.1.a T6.out.1.symm.ap);clear hg7)|(refine iW oQ rfl au Tryz.underlying104 rfl (.tmp 57) (.tmp 61) rfl (v:=u3) (u:=.slice (some ⟨gs5 j,n*2,none⟩) k (cs5 j-n)) (ad:=⟨wr.heap.size+1,0,none⟩) (c:=1) (l:=uvs gs5 cs5 n k j) (base:=w5.heap.size) rfl rfl ?_ HLU.out ?_ ?_ rfl ?_;(exact T6.out.1.b.low aA);(focus(first|exact aB hsx T6.out.1.sz|(have h8:=aB hsx T6.out.1.sz;simp;omega)));(focus(first|(go_simp;done)|(rw[T6.out.2 _ _ uB uB];go_simp)));intro v7 w7 hg7;have T7:=ae (pK aA hg7 T6.out.1.bl (aB hsx T6.out.1.sz) T6.out.1.b T6.out.1.a T6.out.1.symm.ap);clear hg7)|(refine iW oQ rfl au Tryz.underlying104 rfl (.tmp 57) (.tmp 61) rfl (v:=u3) (u:=.slice (some ⟨gs5 j,n*2,none⟩) k (cs5 j-n)) (ad:=⟨w6.heap.size,0,none⟩) (c:=1) (l:=uvs gs5 cs5 n k j) (base:=w5.heap.size) rfl rfl ?_ HLU.out ?_ ?_ rfl ?_;(exact T6.out.1.b.low aA);(focus(first|exact aB hsx T6.out.1.sz|(have h8:=aB hsx T6.out.1.sz;simp;omega)));(focus(first|(go_simp;done)|(rw[T6.out.2 _ _ uB uB];go_simp)));intro v7 w7 hg7;have T7:=ae (pK aA hg7 T6.out.1.bl (aB hsx T6.out.1.sz) T6.out.1.b T6.out.1.a T6.out.1.symm.ap);clear hg7))
     all_goals(go_wp2_with fail)
     all_goals go_roundw
     all_goals(first|(refine⟨j+1,by omega,by go_num,T7.out.1.bl,?_,?_,T7.out.1.symm.ap⟩;(focus(rw[PR];exact T7.out.1.b));(focus(rw[OH];exact T7.out.1.a)))|(simp[intOf];omega))
    ·obtain rfl:j=k:=by omega
     have hjk2:¬(j:Int)<(j:Int):=by omega
     have hsx:w5.heap.size<=wr.heap.size:=HBx.out.size;have hmo:=HM5.out.below HBx.out (af _);have hrt:Mx.Rc n (tk n N):=fun r hr=>by
      obtain⟨x,hx,rfl⟩:=dY.1 hr;rw[aY,RRC.out x hx];omega
     have hrd:Mx.Rc j (dp n N):=fun r hr=>by
      obtain⟨x,hx,rfl⟩:=dY.1 hr;rw[de,RRC.out x hx];omega
     have H1:Hid (MRB wr w.heap.size u2 n (tk n N)):=eW.mrb (bQ hz5) HO.out.1 (by simp[hvs,tk,RLN.out]) hrt (fun i hi=>by
      have hi2:i<j:=by simpa[tk,RLN.out]using hi
      obtain⟨m1,m2,m3,m4,m5⟩:=hmo.hc i (by rw[RLN.out];exact hi2);refine⟨_,by unfold hvs;rw[bN,iT hi2];rfl,_,_,rfl,af _,AD.some _ _,.inr ⟨gs5 i,0,rfl,m3,?_⟩⟩;rw[uQ];exact m5.ra.take n)
     have H2:Hid (MRB wr w.heap.size u3 j (dp n N)):=eW.mrb (bQ hz5) HO.out.2.1 (by simp[uvs,dp,RLN.out]) hrd (fun i hi=>by
      have hi2:i<j:=by simpa[dp,RLN.out]using hi
      obtain⟨m1,m2,m3,m4,m5⟩:=hmo.hc i (by rw[RLN.out];exact hi2);refine⟨_,by unfold uvs;rw[bN,iT hi2];rfl,_,_,rfl,by omega,AD.some _ _,.inr ⟨gs5 i,n*2,rfl,m3,?_⟩⟩;rw[SE];have:=m5.ra.drop n;rwa[bw]at this)
     clear hmo hrt hrd
     go_wp2_with fail
     refine bodyPost_ret (v:=.tuple #[u2,u3,.int .i64 ((rk:Int))]) (by simp[results,Tryz.results73,go_sem]) rfl ?_;exact⟨⟨u2,u3,rfl,H1.out,H2.out⟩,HB5.out.trans (HBx.out.mono (bQ hz5))⟩
end
section
open Go.RowKit Go.BigFrame
attribute [local go_sem ↓] Go.wp_at_zero Go.wp_at_succ
instance decI64 (z:Int):Decidable (I64 z):=by unfold I64;exact inferInstance
def smv(z:Int):Int:=if I64 z then z else 0
theorem VF(a b:Nat)(h:b<4294967296):(a*4294967296)|||b=a*4294967296+b:=by
 have:=Kk (i:=32) (b:=b) h a;rw[show(2:Nat)^32=4294967296 from rfl,bs]at this;exact this.symm
theorem Vi{l:List Nat}(h:l.length<=2):Dg.vl B32 l=l.getD 1 0*4294967296+l.getD 0 0:=by
 match l with
 |[]=>rfl
 |[x]=>simp[Dg.vl]
 |[x,y]=>simp[Dg.vl,B32,mX,bs]
 |x::y::z::l=>simp at h
theorem wk{z:Int}(h:I64 z):smv z=z:=an h
theorem xH{z:Int}(h:¬I64 z):smv z=0:=aj h
theorem wQ{z:Int}(h:I64 z):decide (I64 z)=true:=by rw[cZ];exact h
theorem ui{z:Int}(h:¬I64 z):decide (I64 z)=false:=by rw[bW];exact h
def Wx(w:World)(z:Int)(e:Ending)(w':World):Prop:=e= .returned (.tuple #[.int .i64 (smv z),.bool (decide (I64 z))])/\Below w.heap.size w w'
set_option maxRecDepth 10000 in
set_option maxHeartbeats 8000000 in
theorem wm(x:IV)(z:Int)(fz:Fit z)(w:World)(hx:IP w x z):
  Calls Tryz.prog 120 #[.agg #[.bool x.s,.slice x.a x.n x.cap]] w (Wx w z):=by
 obtain⟨l,h1,rfl⟩:=hx;have bl:=iL h1.nf fz;have S1:=ae (fun w (h:IW w x l)=>ir x l aa w h);have AT:=ae (fun i (hi:i<=10) w h=>wW l x.a l.length i aa aa h1.nf.dg w h);have H1:=ae h1;by_cases hl:l.length<=2
 ·have hv:=Vi hl;have d0:l.getD 0 0<4294967296:=Dg.bS h1.nf.dg au 0;have d1:l.getD 1 0<4294967296:=Dg.bS h1.nf.dg au 1;have A0:Hid (∀w,WS w x.a l->Calls Tryz.prog 166 #[.slice x.a l.length l.length,.int .i64 0] w fun e w'=>e= .returned (.int .u64 ((l.getD 0 0:Nat):Int))/\w'=w):=AT.out 0 aa;have A1:Hid (∀w,WS w x.a l->Calls Tryz.prog 166 #[.slice x.a l.length l.length,.int .i64 1] w fun e w'=>e= .returned (.int .u64 ((l.getD 1 0:Nat):Int))/\w'=w):=AT.out 1 aa;have HLL:=ae hl;obtain⟨s,a,n,cap⟩:=x;simp only[]at S1 A0 A1⊢;generalize l.getD 0 0=x0 at*;generalize l.getD 1 0=x1 at*;rw[hv];generalize hN:x1*4294967296+x0=N;obtain⟨sh,hsh⟩:∃sh,sh=x1*4294967296:=⟨_,rfl⟩;have e1:IntKind.u64.wrap ((x1:Int)*4294967296)=(sh:Int):=by rw[gi,hsh];omega
  have e2:bits .or .u64 (sh:Int) (x0:Int)=(N:Int):=by rw[u64_or_nat sh x0 aa aa,hsh,VF x1 x0 d0,hN]
  have hl3:¬(2:Int)<(l.length:Int):=by omega
  have hl4:decide ((2:Int)<(l.length:Int))=false:=by rw[bW];exact hl3
  have hN2:(N:Int)<18446744073709551616:=by omega
  have hlI:(l.length:Int)<=2:=by omega
  generalize hL:l.length=q at*;clear h1 hv bl d0 d1 AT hsh hN;cases s
  ·have hz:Dg.iv false N=(N:Int):=by simp[Dg.iv]
   by_cases hs:N<9223372036854775808
   ·have t1:(N:Int)<9223372036854775808:=by omega
    have t2:decide ((N:Int)<9223372036854775808)=true:=by rw[cZ];exact t1
    have HI:Hid (I64 (Dg.iv false N)):=by show I64 _;rw[hz];unfold I64;omega
    have HZ:=ae hz;clear hs hz
    go_enter Tryz.func120,Tryz.ntmps120
    go_wp2_with (first|(go_at_call 163;(with_reducible refine(S1.out _ ?_).mono ?_);(exact H1.out.below (B:=w.heap.size) aA (af _));rintro e w1 ⟨rfl,hb1⟩;obtain⟨g1,rfl⟩:=mob hb1;clear hb1)|(go_at_call 166;(first|(with_reducible refine(A0.out _ ?_).mono ?_)|(with_reducible refine(A1.out _ ?_).mono ?_));(exact H1.out.ws.below (B:=w.heap.size) aA (af _));rintro e w2 ⟨rfl,rfl⟩))
    refine bodyPost_ret (v:=.tuple #[.int .i64 ((N:Int)),.bool true]) Eo rfl ⟨?_,by exact bel⟩;rw[wk HI.out,wQ HI.out,HZ.out]
   ·have t1:¬(N:Int)<9223372036854775808:=by omega
    have t2:decide ((N:Int)<9223372036854775808)=false:=by rw[bW];exact t1
    have HI:Hid (¬I64 (Dg.iv false N)):=by show¬I64 _;rw[hz];unfold I64;omega
    clear hs hz
    go_enter Tryz.func120,Tryz.ntmps120
    go_wp2_with (first|(go_at_call 163;(with_reducible refine(S1.out _ ?_).mono ?_);(exact H1.out.below (B:=w.heap.size) aA (af _));rintro e w1 ⟨rfl,hb1⟩;obtain⟨g1,rfl⟩:=mob hb1;clear hb1)|(go_at_call 166;(first|(with_reducible refine(A0.out _ ?_).mono ?_)|(with_reducible refine(A1.out _ ?_).mono ?_));(exact H1.out.ws.below (B:=w.heap.size) aA (af _));rintro e w2 ⟨rfl,rfl⟩))
    refine bodyPost_ret (v:=.tuple #[.int .i64 (0),.bool false]) Eo rfl ⟨?_,by exact bel⟩;rw[xH HI.out,ui HI.out]
  ·have hz:Dg.iv true N= -(N:Int):=by simp[Dg.iv]
   by_cases hs:N<=9223372036854775808
   ·have t1:(N:Int)<=9223372036854775808:=by omega
    have t2:decide ((N:Int)<=9223372036854775808)=true:=by rw[cZ];exact t1
    have HI:Hid (I64 (Dg.iv true N)):=by show I64 _;rw[hz];unfold I64;omega
    have HZ:=ae hz;obtain⟨u,hu⟩:∃u:Int,u=(-(N:Int))%18446744073709551616:=⟨_,rfl⟩;have e3:IntKind.u64.wrap (-(N:Int))=u:=by rw[gi,hu]
    have e4:IntKind.i64.wrap u= -(N:Int):=by rw[hu,IntKind.wrap_i64];omega
    clear hs hz hu
    go_enter Tryz.func120,Tryz.ntmps120
    go_wp2_with (first|(go_at_call 163;(with_reducible refine(S1.out _ ?_).mono ?_);(exact H1.out.below (B:=w.heap.size) aA (af _));rintro e w1 ⟨rfl,hb1⟩;obtain⟨g1,rfl⟩:=mob hb1;clear hb1)|(go_at_call 166;(first|(with_reducible refine(A0.out _ ?_).mono ?_)|(with_reducible refine(A1.out _ ?_).mono ?_));(exact H1.out.ws.below (B:=w.heap.size) aA (af _));rintro e w2 ⟨rfl,rfl⟩))
    refine bodyPost_ret (v:=.tuple #[.int .i64 ((-(N:Int))),.bool true]) Eo rfl ⟨?_,by exact bel⟩;rw[wk HI.out,wQ HI.out,HZ.out]
   ·have t1:¬(N:Int)<=9223372036854775808:=by omega
    have t2:decide ((N:Int)<=9223372036854775808)=false:=by rw[bW];exact t1
    have HI:Hid (¬I64 (Dg.iv true N)):=by show¬I64 _;rw[hz];unfold I64;omega
    clear hs hz
    go_enter Tryz.func120,Tryz.ntmps120
    go_wp2_with (first|(go_at_call 163;(with_reducible refine(S1.out _ ?_).mono ?_);(exact H1.out.below (B:=w.heap.size) aA (af _));rintro e w1 ⟨rfl,hb1⟩;obtain⟨g1,rfl⟩:=mob hb1;clear hb1)|(go_at_call 166;(first|(with_reducible refine(A0.out _ ?_).mono ?_)|(with_reducible refine(A1.out _ ?_).mono ?_));(exact H1.out.ws.below (B:=w.heap.size) aA (af _));rintro e w2 ⟨rfl,rfl⟩))
    refine bodyPost_ret (v:=.tuple #[.int .i64 (0),.bool false]) Eo rfl ⟨?_,by exact bel⟩;rw[xH HI.out,ui HI.out]
 ·have hlen:2<l.length:=by omega
  have hbig:18446744073709551616<=Dg.vl B32 l:=by
   obtain⟨m,hm⟩:∃m,l.length=m+1:=⟨l.length-1,by omega⟩;have k1:=Dg.ou hm h1.nf;have k2:B32^2<=B32^m:=bI au aa;have k3:B32^2=18446744073709551616:=by decide
   omega
  have HI:Hid (¬I64 (Dg.iv x.s (Dg.vl B32 l))):=by
   intro h;have h2:=Dg.nB x.s (Dg.vl B32 l);unfold I64 at h;omega
  have hl3:(2:Int)<(l.length:Int):=by omega
  have hl4:decide ((2:Int)<(l.length:Int))=true:=by rw[cZ];exact hl3
  obtain⟨s,a,n,cap⟩:=x;simp only[]at S1 HI⊢;generalize Dg.iv s (Dg.vl B32 l)=z at*;generalize hL:l.length=q at*;clear h1 bl AT hL hbig hl hlen
  go_enter Tryz.func120,Tryz.ntmps120
  go_wp2_with (go_at_call 163;(with_reducible refine(S1.out _ ?_).mono ?_);(exact H1.out.below (B:=w.heap.size) aA (af _));rintro e w1 ⟨rfl,hb1⟩;obtain⟨g1,rfl⟩:=mob hb1;clear hb1)
  refine bodyPost_ret (v:=.tuple #[.int .i64 (0),.bool false]) Eo rfl ⟨?_,by exact bel⟩;rw[xH HI.out,ui HI.out]
end
section
open Go.RowKit Go.BigFrame
attribute [local go_sem ↓] Go.wp_at_zero Go.wp_at_succ
structure IO'(w:World)(g:Nat)(zs:List Int):Prop where
 lt:g<w.heap.size
 c:∀(k:Nat) (z:Int),zs[k]?=some z->w.cell? ⟨g,k,none⟩=some (.int .i64 z)
 fr:∀k,w.frozen? ⟨g,k,none⟩=false
theorem IO'.below{B:Nat}{w w':World}{g:Nat}{zs:List Int}(h:IO' w g zs)(hb:Below B w w')(hB:w.heap.size<=B):IO' w' g zs:=by
 have hg:g<B:=aZ h.lt hB;exact⟨aZ h.lt hb.size,fun k z hz=>(hb.cell (p:=⟨g,k,none⟩) hg).trans (h.c k z hz),fun k=>(hb.frozen (p:=⟨g,k,none⟩) hg).trans (h.fr k)⟩
theorem IO'.set{w:World}{g:Nat}{zs:List Int}(h:IO' w g zs){k:Nat}(hk:k<zs.length)(z:Int):IO' (w.setCell ⟨g,k,none⟩ (.int .i64 z)) g (zs.set k z):=by
 have hc:=h.c k _ (getD_some hk);refine⟨by simpa using h.lt,fun i y hy=>?_,fun i=>by rw[World.frozen?_setCell];exact h.fr i⟩;by_cases e:i=k
 ·subst e;rw[nV hk]at hy;cases hy;exact gl _ _ _ _ _ hc
 ·rw[qc (Ne.symm e)]at hy;rw[fj _ _ _ _ _ e];exact h.c i y hy
theorem IO'.z{w:World}{g:Nat}{zs:List Int}(h:IO' w g zs):ZAt w (some ⟨g,0,none⟩) zs:=
 .inr ⟨⟨g,0,none⟩,rfl,h.lt,fun k x hx=>by
  have e:(⟨g,0,none⟩:Addr).add k=⟨g,k,none⟩:=by unfold Addr.add;split<;>simp_all
  rw[e];exact h.c k x hx⟩
theorem PJ:(Tryz.prog.info? 3).map (fun i=>(i.zero,i.size,i.bytes))=some (some (.int .i64 0),1,8):=by kernel_rfl
theorem Nf(n:Nat)(hn:n<=1000000000)(w:World):
  (Instr.makeSlice 40 (.int .i64 (n:Int)) (.int .i64 (n:Int))).run Tryz.prog w= .ok (.slice (some ⟨w.heap.size,0,none⟩) n n) (w.alloc (.cells (madeCells #[.int .i64 0] n) 3)):=by
 obtain⟨i,hi,hz,hs,hb⟩:=im PJ;have hr:=run_make (P:=Tryz.prog) w 40 3 i _ Tryz.underlying40 hi hz .i64 .i64 n n aa (tD _) (by rw[hb];omega) aa;rw[hs]at hr;simpa[Value.cells]using hr
theorem IO'.made(w:World)(n:Nat):IO' (w.alloc (.cells (madeCells #[.int .i64 0] n) 3)) w.heap.size (List.replicate n 0):=by
 have hh:=heap_alloc_new w (.cells (madeCells #[.int .i64 0] n) 3);refine⟨by simp,fun k z hz=>?_,fun k=>?_⟩
 ·rw[lf]at hz;split at hz
  ·cases hz;rw[cell_of_row _ w.heap.size _ _ _ (0,0) hh];unfold madeCells;rw[tC,vZ,an aa];simp[Nat.mod_one]
  ·cases hz
 ·simp only[World.frozen?];rw[hh];simp
theorem IO'.grew{w w':World}{base:Nat}{T:TypeId}{v v' u:Value}{l:List Value}{g:Nat}{zs:List Int}(h:IO' w g zs)(hg:sZ w w' base T v v' l u)(hne:v.ownBlock≠some g):IO' w' g zs:=by
 have hb:w'.heap[g]?=w.heap[g]?:=hg.by'.block g h.lt (fun e=>hne e.symm)
 exact⟨aZ h.lt hg.by'.size,fun k z hz=>(World.cell?_of_block hb).trans (h.c k z hz),fun k=>(frozen?_of_block hb).trans (h.fr k)⟩
def rws(gs:Nat->Nat)(n k:Nat):List Value:=(List.range k).map fun i=>.slice (some ⟨gs i,0,none⟩) n n
theorem Pf(gs:Nat->Nat)(n k g:Nat):rws (fun i=>if i=k then g else gs i) n (k+1)=rws gs n k++[.slice (some ⟨g,0,none⟩) n n]:=by
 unfold rws;rw[List.range_succ,cL,mF (g:=fun i=>.slice (some ⟨gs i,0,none⟩) n n) fun i hi=>by
  show Value.slice (some ⟨if i=k then g else gs i,0,none⟩) n n=_;rw[aj (by have:=zW.1 hi;omega)]]
 simp
def Rows(w:World)(v:Value)(gs:Nat->Nat)(M:Mx.Mat)(k:Nat):Prop:=∀i,i<k->IO' w (gs i) (Mx.rw M i)/\v.ownBlock≠some (gs i)
theorem Rows.step{w W w':World}{base:Nat}{T:TypeId}{v v' u:Value}{l:List Value}{gs:Nat->Nat}{M:Mx.Mat}{k g:Nat}(h:Rows w v gs M k)(hb:Below w.heap.size w W)(hi:IO' W g (Mx.rw M k))(hg:w.heap.size<=g)(ho:eW w base T v l)(hgr:sZ W w' base T v v' l u):
  Rows w' v' (fun i=>if i=k then g else gs i) M (k+1):=fun i hik=>by
 have hne:∀i,i<k+1->IO' W (if i=k then g else gs i) (Mx.rw M i)/\v.ownBlock≠some (if i=k then g else gs i):=fun i hik=>by
  by_cases e:i=k
  ·subst e;rw[an rfl];exact⟨hi,fun e2=>by have:=FB ho e2;omega⟩
  ·rw[aj e];have:=h i aa;exact⟨this.1.below hb (af _),this.2⟩
 obtain⟨h1,h2⟩:=hne i hik;refine⟨h1.grew hgr h2,fun e=>?_⟩;rcases hgr.at' with h3|h3
 ·exact h2 (h3.symm.trans e)
 ·rw[h3]at e;simp only[ak]at e;have:=h1.lt;omega
def ZMB(B:Nat)(w:World)(v:Value)(m:List (List Int)):Prop:=∃a cap,v= .slice a m.length cap/\m.length<=cap/\(m=[]\/∃g,a=some ⟨g,0,none⟩/\B<=g/\g<w.heap.size/\
 ∀(i:Nat) (l:List Int),m[i]?=some l->∃g',w.cell? ⟨g,i,none⟩=some (.slice (some ⟨g',0,none⟩) l.length l.length)/\B<=g'/\IO' w g' l)
theorem eW.zmb{w:World}{base:Nat}{T:TypeId}{v:Value}{gs:Nat->Nat}{n:Nat}{M:Mx.Mat}(h:eW w base T v (rws gs n M.length))(hr:Mx.Rc n M)(hrow:Rows w v gs M M.length)(hbs:∀i,i<M.length->base<=gs i):ZMB base w v M:=by
 obtain⟨h0,h⟩:=h;have hl:(rws gs n M.length).length=M.length:=by simp[rws]
 rcases h with⟨hv',hn⟩|⟨g,cap,cur,rfl,hb,hg,hle,hm,hsz,htk⟩
 ·exact⟨none,0,by rw[hv',show M.length=0 by omega],by omega,.inl (gP aa)⟩
 ·refine⟨_,cap,by rw[hl],by omega,.inr ⟨g,rfl,hb,(iG.1 hg).1,fun i l hi=>?_⟩⟩;have hi2:=(ct.1 hi).1;have hln:l.length=n:=hr l (bj hi);have hrw:Mx.rw M i=l:=Mx.di hi;refine⟨gs i,?_,hbs i hi2,?_⟩
  ·rw[cell_of_row w g _ cur _ (0,0) hg];have h1:(rws gs n M.length)[i]?=some (.slice (some ⟨gs i,0,none⟩) n n):=by unfold rws;rw[bN,iT hi2];rfl
   rw[<-htk,jo aa,eL]at h1;rw[hln];exact h1
  ·have:=(hrow i hi2).1;rwa[hrw]at this
theorem Ph:(Tryz.prog.info? 40).map (fun i=>(i.zero,i.size,i.bytes))=some (some (.slice none 0 0),1,24):=by kernel_rfl
def InL(L:Nat)(M:Mx.Mat):Prop:=∀i j,(Mx.at' M i j).natAbs<=L
open Classical in
def SMQ(w:World)(L:Nat)(M:Mx.Mat)(e:Ending)(w':World):Prop:=(if InL L M then∃v,e= .returned (.tuple #[v,.bool true])/\ZMB w.heap.size w' v M else e= .returned (.tuple #[.slice none 0 0,.bool false]))/\Below w.heap.size w w'
theorem L5{w w':World}{L:Nat}{M:Mx.Mat}{v:Value}(h:InL L M)(hz:ZMB w.heap.size w' v M)(hb:Below w.heap.size w w'):SMQ w L M (.returned (.tuple #[v,.bool true])) w':=
 ⟨by rw[an h];exact⟨v,rfl,hz⟩,hb⟩
theorem uU{w w':World}{L:Nat}{M:Mx.Mat}(h:¬InL L M)(hb:Below w.heap.size w w'):SMQ w L M (.returned (.tuple #[.slice none 0 0,.bool false])) w':=
 ⟨by rw[aj h],hb⟩
set_option maxRecDepth 10000 in
set_option maxHeartbeats 8000000 in
theorem KM(M:Mx.Mat)(n L:Nat)(v:Value)(hm:M.length<=1000000)(hn:n<=1000000)(hL:L<=1000000000000000000)(hf:∀i j,Fit (Mx.at' M i j))(w:World)(h:MR w v n M):
  Calls Tryz.prog 74 #[v,.int .i64 ((L:Int))] w (SMQ w L M):=by
 obtain⟨a,cap,rfl,_,hr,h4⟩:=h.row;have HRC:Hid (Mx.Rc n M):=hr;have hmk:=Nf n aa;have H4:=ae h4;have HF:Hid _:=hf;clear hr h4 h hf;generalize hml:M.length=q at*;have HQ:=ae hml;clear hml
 go_enter Tryz.func74,Tryz.ntmps74
 go_wp2_with fail
 go_loopw [6,16] (fun v6 i wr=>∃(k:Nat) (gs:Nat->Nat),k<=q/\i= .int .i64 ((k:Int))/\Below w.heap.size w wr/\Hid (eW wr w.heap.size 40 v6 (rws gs n k)/\Rows wr v6 gs M k/\(∀i j,i<k->(Mx.at' M i j).natAbs<=L)/\∀i,i<k->w.heap.size<=gs i)) (fun _ i _=>q-(intOf i).toNat)
 case atStart=>
  exact⟨0,id,by omega,rfl,by exact bel,eW.nil _ _ _,fun i hi=>by omega,fun i j hi=>by omega,fun i hi=>by omega⟩
 case round=>
  obtain⟨k,gs,hk,rfl,hB,HR⟩:=hrel;by_cases hkn:k<q
  ·have hkn2:(k:Int)<(q:Int):=by omega
   rcases H4.out with h0|⟨gm,om,ha,hal,hcc⟩
   ·have:=HQ.out;rw[h0]at this;simp at this;omega
   obtain⟨b,c,cz,hza⟩:=hcc k hkn;have cz2:=(hB.cell (p:=⟨gm,om+k,none⟩) hal).trans cz;subst ha;obtain⟨b',c',e',hc',hlen',⟨g,o,rfl⟩,hra⟩:=hza;cases e';have HRA:=ae hra;have hsw:w.heap.size<=wr.heap.size:=hB.size;have HBW:=ae hB;clear hcc hra cz
   go_wp2_with fail
   obtain⟨W1,hW1⟩:∃W,W=wr:=⟨wr,rfl⟩;subst hW1;clear hB
   go_loopw [25] (fun i2 wx=>∃j:Nat,j<=n/\i2= .int .i64 ((j:Int))/\Below W1.heap.size W1 wx/\W1.heap.size<wx.heap.size/\Hid (IO' wx W1.heap.size ((Mx.rw M k).take j++List.replicate ((Mx.rw M k).length-j) 0)/\∀j',j'<j->(Mx.at' M k j').natAbs<=L)) (fun i2 _=>n-(intOf i2).toNat)
   case atStart=>
    refine⟨0,by omega,rfl,by exact bel,by simp,?_,fun j' hj=>by omega⟩;rw[hlen',lv,dw,ew];exact IO'.made _ n
   case round=>
    obtain⟨j,hjn,rfl,hBX,hW1x,HIO⟩:=hrel;have HBX:=ae hBX;have hBWX:=HBW.out.trans (hBX.mono hsw);have HBWX:=ae hBWX;have hsx:w.heap.size<=wr.heap.size:=hBWX.size;by_cases hjk:j<n
    ·have hjk2:(j:Int)<(n:Int):=by omega
     have hz:=getD_some (l:=Mx.rw M k) (k:=j) (by rw[hlen'];exact hjk);have HZ:Hid ((Mx.rw M k)[j]?=some (Mx.at' M k j)):=hz;have hra2:RA wr g o (Mx.rw M k):=by
      rcases HRA.out with h0|⟨g',o',e',h5⟩
      ·omega
      ·cases e';exact h5.below hBWX (af _)
     obtain⟨x,x0,x1,xz⟩:=hra2.c j _ hz;have hgl:g<wr.heap.size:=hra2.lt;have HX:Hid (IZ wr x (Mx.at' M k j)):=xz;have c0:=HIO.out.1.c j 0 (by
      rw[ez (by rw[aY,hlen'];omega),aY,hlen',dK aa,eR,lf,an aa])
     have f0:=HIO.out.1.fr j;have SM:=ae (fun w hx=>wm x (Mx.at' M k j) (HF.out k j) w hx);obtain⟨xs,xa,xn,xc⟩:=x;simp only[]at x0 x1 SM;clear hz hra2 xz hBX hBWX;by_cases hg:(Mx.at' M k j).natAbs<=L
     ·have hI:I64 (Mx.at' M k j):=by unfold I64;omega
      have SM2:Hid (∀w,IP w ⟨xs,xa,xn,xc⟩ (Mx.at' M k j)->Calls Tryz.prog 120 #[.agg #[.bool ((⟨xs,xa,xn,xc⟩:IV)).s,.slice ((⟨xs,xa,xn,xc⟩:IV)).a ((⟨xs,xa,xn,xc⟩:IV)).n ((⟨xs,xa,xn,xc⟩:IV)).cap]] w fun e w'=>e= .returned (.tuple #[.int .i64 (Mx.at' M k j),.bool true])/\Below w.heap.size w w'):=fun w hx=>(SM.out w hx).mono fun e w' h=>⟨by rw[h.1,wk hI,wQ hI],h.2⟩;have t1:¬(L:Int)<Mx.at' M k j:=by omega
      have t2:¬Mx.at' M k j< -(L:Int):=by omega
      have t3:decide ((L:Int)<Mx.at' M k j)=false:=by rw[bW];exact t1
      have t4:decide (Mx.at' M k j< -(L:Int))=false:=by rw[bW];exact t2
      have HG:=ae hg;clear SM hI hg
      go_wp2_with (go_at_call 120;(with_reducible refine(SM2.out _ ?_).mono ?_);(exact(HX.out.below (B:=wr.heap.size) aA (af _)).ip);rintro e w4 ⟨rfl,hb4⟩;have HB4:=ae hb4;obtain⟨g4,rfl⟩:=mob hb4;clear hb4)
      go_roundw
      case rel=>
       have hb4:Below wr.heap.size wr (more (wr.alloc (.cells #[.bool xs,.slice xa xn xc] 62)) g4):=by exact bel
       have h1:=(HIO.out.1.below hb4 (af _)).set (k:=j) (by rw[cv,aY,pq,hlen'];omega) (Mx.at' M k j);have e5:(more (wr.alloc (.cells #[.bool xs,.slice xa xn xc] 62)) g4).setCell ⟨W1.heap.size,j,none⟩ (.int .i64 (Mx.at' M k j))=more ((wr.setCell ⟨W1.heap.size,j,none⟩ (.int .i64 (Mx.at' M k j))).alloc (.cells #[.bool xs,.slice xa xn xc] 62)) g4:=by go_simp
       rw[Gk rfl HZ.out,e5]at h1;have hBX:=HBX.out;refine⟨j+1,by omega,by go_num,by exact bel,?_,h1,fun j' hj=>?_⟩
       ·first|omega|(simp;omega)
       ·by_cases e:j'=j
        ·rw[e];exact HG.out
        ·exact HIO.out.2 j' aa
      case measure=>simp[intOf];omega
     ·have NB:Hid (¬InL L M):=fun h=>hg (h k j);by_cases hI:I64 (Mx.at' M k j)
      ·have SM2:Hid (∀w,IP w ⟨xs,xa,xn,xc⟩ (Mx.at' M k j)->Calls Tryz.prog 120 #[.agg #[.bool ((⟨xs,xa,xn,xc⟩:IV)).s,.slice ((⟨xs,xa,xn,xc⟩:IV)).a ((⟨xs,xa,xn,xc⟩:IV)).n ((⟨xs,xa,xn,xc⟩:IV)).cap]] w fun e w'=>e= .returned (.tuple #[.int .i64 (Mx.at' M k j),.bool true])/\Below w.heap.size w w'):=fun w hx=>(SM.out w hx).mono fun e w' h=>⟨by rw[h.1,wk hI,wQ hI],h.2⟩;clear SM hI;by_cases hgt:(L:Int)<Mx.at' M k j
       ·have t3:decide ((L:Int)<Mx.at' M k j)=true:=by rw[cZ];exact hgt
        clear hg
        go_wp2_with (go_at_call 120;(with_reducible refine(SM2.out _ ?_).mono ?_);(exact(HX.out.below (B:=wr.heap.size) aA (af _)).ip);rintro e w4 ⟨rfl,hb4⟩;obtain⟨g4,rfl⟩:=mob hb4;clear hb4)
        refine bodyPost_ret (v:=.tuple #[.slice none 0 0,.bool false]) Kc rfl (uU NB.out ?_);have hb:=HBWX.out;exact bel
       ·have t3:decide ((L:Int)<Mx.at' M k j)=false:=by rw[bW];exact hgt
        have t2:Mx.at' M k j< -(L:Int):=by omega
        have t4:decide (Mx.at' M k j< -(L:Int))=true:=by rw[cZ];exact t2
        clear hg
        go_wp2_with (go_at_call 120;(with_reducible refine(SM2.out _ ?_).mono ?_);(exact(HX.out.below (B:=wr.heap.size) aA (af _)).ip);rintro e w4 ⟨rfl,hb4⟩;obtain⟨g4,rfl⟩:=mob hb4;clear hb4)
        refine bodyPost_ret (v:=.tuple #[.slice none 0 0,.bool false]) Kc rfl (uU NB.out ?_);have hb:=HBWX.out;exact bel
      ·have SM2:Hid (∀w,IP w ⟨xs,xa,xn,xc⟩ (Mx.at' M k j)->Calls Tryz.prog 120 #[.agg #[.bool ((⟨xs,xa,xn,xc⟩:IV)).s,.slice ((⟨xs,xa,xn,xc⟩:IV)).a ((⟨xs,xa,xn,xc⟩:IV)).n ((⟨xs,xa,xn,xc⟩:IV)).cap]] w fun e w'=>e= .returned (.tuple #[.int .i64 (0),.bool false])/\Below w.heap.size w w'):=fun w hx=>(SM.out w hx).mono fun e w' h=>⟨by rw[h.1,xH hI,ui hI],h.2⟩;clear SM hI hg
       go_wp2_with (go_at_call 120;(with_reducible refine(SM2.out _ ?_).mono ?_);(exact(HX.out.below (B:=wr.heap.size) aA (af _)).ip);rintro e w4 ⟨rfl,hb4⟩;obtain⟨g4,rfl⟩:=mob hb4;clear hb4)
       refine bodyPost_ret (v:=.tuple #[.slice none 0 0,.bool false]) Kc rfl (uU NB.out ?_);have hb:=HBWX.out;exact bel
    ·obtain rfl:j=n:=by omega
     have hjk2:¬(j:Int)<(j:Int):=by omega
     have HL:Hid ((rws gs j k).length<=1000000000):=by show _<=_;simp[rws];omega
     go_wp2_with (at_builtin;go_must (refine yf Ph rfl au Tryz.underlying22 rfl (.tmp 53) (.tmp 55) rfl (u:=.slice (some ⟨W1.heap.size,0,none⟩) j j) (ad:=⟨wr.heap.size,0,none⟩) (c:=1) (l:=rws gs j k) (base:=w.heap.size) rfl rfl ?_ HL.out ?_ ?_ rfl ?_);(exact(HR.out.1.low HBX.out).low aA);(focus(first|omega|(simp;omega)));(focus(go_simp));intro v7 w7 hg7;have HG7:=ae hg7;clear hg7)
     go_roundw
     case rel=>
      have hbx:Below W1.heap.size W1 (wr.alloc (.cells #[.slice (some ⟨W1.heap.size,0,none⟩) j j] 40)):=HBX.out.trans ((Below.refl _ _).alloc aa _);have hfull:(Mx.rw M k).take j++List.replicate ((Mx.rw M k).length-j) 0=Mx.rw M k:=by rw[hlen',eR,cf aa];simp
      have h1:=HIO.out.1;rw[hfull]at h1;have h2:=Rows.step HR.out.2.1 hbx (h1.below ((Below.refl wr.heap.size wr).alloc (af _) _) (af _)) (af _) HR.out.1 HG7.out;have hb7:Below w.heap.size w w7:=HG7.out.below ((HR.out.1.low HBX.out).low ((Below.refl wr.heap.size wr).alloc (af _) _)) (HBWX.out.alloc aa _) cU;have h3:=HG7.out.own;rw[<-Pf]at h3;refine⟨k+1,_,by omega,by go_num,hb7,h3,h2,fun i j' hi=>?_,fun i hi=>?_⟩
      ·by_cases e:i=k
       ·by_cases e2:j'<j
        ·rw[e];exact HIO.out.2 j' e2
        ·rw[Mx.qn HRC.out aa];simp
       ·exact HR.out.2.2.1 i j' aa
      ·by_cases e:i=k
       ·rw[an e];exact HBW.out.size
       ·rw[aj e];exact HR.out.2.2.2 i aa
     case measure=>simp[intOf];omega
  ·obtain rfl:k=q:=by omega
   have hkn2:¬(k:Int)<(k:Int):=by omega
   have HI:Hid (InL L M):=fun i j=>by
    by_cases e:i<k
    ·exact HR.out.2.2.1 i j e
    ·rw[Mx.jC (by rw[HQ.out];omega)];simp
   have HZM:Hid (ZMB w.heap.size wr u6 M):=eW.zmb (by rw[HQ.out];exact HR.out.1) HRC.out (by rw[HQ.out];exact HR.out.2.1) (by rw[HQ.out];exact HR.out.2.2.2)
   go_wp2_with fail
   refine bodyPost_ret (v:=.tuple #[u6,.bool true]) Kc rfl (L5 HI.out HZM.out hB)
end
section
open Go.RowKit Go.BigFrame
attribute [local go_sem ↓] Go.wp_at_zero Go.wp_at_succ
def mapM(f:Int->Int)(M:Mx.Mat):Mx.Mat:=M.map (List.map f)
theorem ny(f:Int->Int)(M:Mx.Mat)(i:Nat):Mx.rw (mapM f M) i=(Mx.rw M i).map f:=by
 unfold Mx.rw mapM;rw[aq,aq,bN];cases M[i]?<;>simp
theorem fi(f:Int->Int)(M:Mx.Mat):(mapM f M).length=M.length:=by simp[mapM]
theorem IC{n:Nat}{f:Int->Int}{M:Mx.Mat}(h:Mx.Rc n M):Mx.Rc n (mapM f M):=fun r hr=>by
 obtain⟨x,hx,rfl⟩:=dY.1 hr;rw[bD];exact h x hx
def gD(k:Nat)(A B:Mx.Mat):Mx.Mat:=A.take k++B.drop k
theorem vc(A B:Mx.Mat):gD 0 A B=B:=by simp[gD]
theorem wC{A B:Mx.Mat}{k:Nat}(h:A.length<=k)(h2:B.length<=k):gD k A B=A:=by
 unfold gD;rw[cf h,jx h2,kB]
theorem wB{A B:Mx.Mat}(h:A.length=B.length)(k:Nat):(gD k A B).length=B.length:=by
 unfold gD;rw[cv,aY,de];omega
theorem Fy{A B:Mx.Mat}(h:A.length=B.length){k:Nat}(hk:k<B.length):Mx.rw (gD k A B) k=Mx.rw B k:=by
 unfold Mx.rw gD;rw[aq,aq,ez nQ,aY,dK aa,eR,eF,bZ]
theorem pM{A B:Mx.Mat}(h:A.length=B.length){k:Nat}(hk:k<B.length):(gD k A B).set k (Mx.rw A k)=gD (k+1) A B:=by
 unfold gD;rw[xA,aj nQ,aY,dK aa,eR,nW hk,et,nX,gJ (M:=A) aa];simp
theorem MB.BE{w:World}{B B' gm L:Nat}{gs cs:Nat->Nat}{n:Nat}{M:Mx.Mat}(h:MB w B gm L gs cs n M)(hB:B'<=B):MB w B' gm L gs cs n M:=
 ⟨aB hB h.b,h.lt,h.fr,h.hl,h.nw,h.ml,h.rc,fun i hi=>by
  obtain⟨b,h1,h2,hA,h3⟩:=h.hc i hi;exact⟨b,h1,h2,hA,fun h0=>⟨(h3 h0).1,aB hB (h3 h0).2.1,(h3 h0).2.2⟩⟩,h.dj⟩
theorem IB{f:Int->Int}{zs:List Int}{k:Nat}{z:Int}(h:zs[k]?=some z):(zs.map f)[k]?=some (f z):=by rw[bN,h];rfl
set_option maxRecDepth 10000 in
set_option maxHeartbeats 8000000 in
theorem Ul(M:Mx.Mat)(n:Nat)(v:Value)(K:IV)(kz:Int)(hm:M.length<=1000000)(hn:n<=1000000)(fk:Fit kz)(hf:∀i j,Fit (Mx.at' M i j))(w:World)(h:MR w v n M)(hk:IZ w K kz):
  Calls Tryz.prog 100 #[v,.agg #[.bool K.s,.slice K.a K.n K.cap]] w (qo w n (mapM (fun z=>kz*z) M)):=by
 have CL:=ae (fun w h=>vk M n v hm hn w h);have H:=ae h;have HK:=ae hk;have HF:Hid _:=hf;have FK:=ae fk;obtain⟨hRC,a,cap,rfl⟩:Mx.Rc n M/\∃a cap,v= .slice a M.length cap:=by obtain⟨a,cap,h1,_,h3,_⟩:=h;exact⟨h3,a,cap,h1⟩
 have RC:=ae hRC;obtain⟨ks,ka,kn,kc⟩:=K;clear h hk hf fk hRC;generalize hml:M.length=q at*;have HQ:=ae hml;clear hml
 go_enter Tryz.func100,Tryz.ntmps100
 go_wp2_with (go_at_call 156;(with_reducible refine(CL.out _ ?_).mono ?_);(exact H.out.below (B:=w.heap.size) aA (af _));rintro e w4 ⟨⟨gm,gs,cs,cp,rfl,hcp,hmb⟩,hb4⟩;rw[HQ.out]at hcp hmb⊢;have HM4:=ae hmb;have HB4:=ae hb4;clear hb4 hmb)
 have hs0:(w.alloc (.cells #[.bool ks,.slice ka kn kc] 62)).heap.size=w.heap.size+1:=by simp
 have HB0:Hid (Below w.heap.size w w4):=Below.trans (b:=w.alloc (.cells #[.bool ks,.slice ka kn kc] 62)) aA (HB4.out.mono aa);have b0:w4.cell? ⟨w.heap.size,0,none⟩=some (.bool ks):=(HB4.out.cell (p:=⟨w.heap.size,0,none⟩) Ka).trans (by go_simp);have b1:w4.cell? ⟨w.heap.size,1,none⟩=some (.slice ka kn kc):=(HB4.out.cell (p:=⟨w.heap.size,1,none⟩) Ka).trans (by go_simp);have HM5:Hid (MB w4 (w.heap.size+1) gm q gs cs n M):=by have:=HM4.out;rw[hs0]at this;exact this
 have hw4:w.heap.size<w4.heap.size:=by have:=HM5.out.b;have:=HM5.out.lt;omega
 have HK4:=ae (HK.out.below HB0.out (af _));have ML:=ae (fi (fun z=>kz*z) M);clear HM4 HB4 hs0
 go_loopw [14] (fun i wr=>∃k:Nat,k<=q/\i= .int .i64 ((k:Int))/\Hid (Below (w.heap.size+1) w4 wr)/\Hid (MB wr (w.heap.size+1) gm q gs cs n (gD k (mapM (fun z=>kz*z) M) M))) (fun i _=>q-(intOf i).toNat)
 case atStart=>exact⟨0,by omega,rfl,Below.refl _ _,by show MB _ _ _ _ _ _ _ _;rw[vc];exact HM5.out⟩
 case round=>
  obtain⟨k,hk,rfl,HB,HR⟩:=hrel;by_cases hkn:k<q
  ·have hkn2:(k:Int)<(q:Int):=by omega
   have hpl:(gD k (mapM (fun z=>kz*z) M) M).length=q:=by rw[wB ML.out,HQ.out]
   obtain⟨b,cz,hc,_,hrow⟩:=HR.out.hc k (by rw[hpl];exact hkn);have hgl:gm<wr.heap.size:=HR.out.lt;have HRW:=ae (Fy (A:=mapM (fun z=>kz*z) M) (B:=M) ML.out (k:=k) iS);by_cases hn0:n=0
   ·subst hn0;clear hrow
    go_wp2_with fail
    refine wp_loop_rounds 1 ?_;rw[rounds_succ]
    go_wp2_with fail
    go_roundw
    case rel=>
     refine⟨k+1,by omega,by go_num,HB.out,?_⟩;have h1:=HR.out;have hset:=pM (A:=mapM (fun z=>kz*z) M) (B:=M) ML.out (k:=k) iS;have hz:Mx.rw (mapM (fun z=>kz*z) M) k=Mx.rw (gD k (mapM (fun z=>kz*z) M) M) k:=by
      rw[HRW.out,ny];have:=RC.out.rw (i:=k) iS;rw[gP this];rfl
     rw[hz,Mx.Fi]at hset;show MB _ _ _ _ _ _ _ _;rw[<-hset];exact h1
    case measure=>simp[intOf];omega
   ·obtain⟨rfl,hBg,hgne,hro⟩:=hrow aa;rw[HRW.out]at hro;have HRO:=ae hro;have hlen:(Mx.rw M k).length=n:=RC.out.rw iS;have hnw:Hid (NW wr (gs k)):=hro.nw (fun e=>by rw[e]at hlen;simp at hlen;omega);have hgk:gs k<wr.heap.size:=hro.lt;have hwr:w.heap.size<wr.heap.size:=aZ hw4 HB.out.size;have d0:=(HB.out.cell (p:=⟨w.heap.size,0,none⟩) (iU _)).trans b0;have d1:=(HB.out.cell (p:=⟨w.heap.size,1,none⟩) (iU _)).trans b1;have HK5:=ae (HK.out.below (HB0.out.trans (HB.out.mono (kC _))) (af _));obtain⟨W1,hW1⟩:∃W,W=wr:=⟨wr,rfl⟩;subst hW1;clear hrow hro
    go_wp2_with fail
    go_loopw [20] (fun i2 wx=>∃j:Nat,j<=n/\i2= .int .i64 ((j:Int))/\Hid (Chg (gs k) W1 wx)/\Hid (RO wx (gs k) (part j ((Mx.rw M k).map (fun z=>kz*z)) (Mx.rw M k)))) (fun i2 _=>n-(intOf i2).toNat)
    case atStart=>exact⟨0,by omega,rfl,Chg.refl _ _,by show RO _ _ _;rw[rY];exact HRO.out⟩
    case round=>
     obtain⟨j,hjn,rfl,HC,HX⟩:=hrel;have hlm:((Mx.rw M k).map (fun z=>kz*z)).length=(Mx.rw M k).length:=bD _;by_cases hjk:j<n
     ·have hjk2:(j:Int)<(n:Int):=by omega
      have hz:=getD_some (l:=Mx.rw M k) (k:=j) (by rw[hlen];exact hjk);have HZ:Hid ((Mx.rw M k)[j]?=some (Mx.at' M k j)):=hz;obtain⟨x,cx0,cx1,hxz,f0,f1⟩:=HX.out.at (k:=j) (z:=Mx.at' M k j) (by rw[tV hlm (by rw[hlen];exact hjk)];exact hz);have HXZ:=ae hxz;have HKX:=ae (HK5.out.chg HC.out hnw.out);have FX:=ae (HF.out k j);have hgx:gs k<wr.heap.size:=HX.out.lt;have hwx:w.heap.size<wr.heap.size:=aZ hwr HC.out.size;have e0:=(HC.out.cell (o:=0) hwr aa).trans d0;have e1:=(HC.out.cell (o:=1) hwr aa).trans d1;obtain⟨xs,xa,xn,xc⟩:=x;simp only[]at cx0 cx1;clear hz hxz d0 d1
      go_wp2_with (go_at_call 117;(with_reducible refine(tY ⟨ks,ka,kn,kc⟩ ⟨xs,xa,xn,xc⟩ kz (Mx.at' M k j) FK.out FX.out _ ((HKX.out.below (B:=wr.heap.size) aA (af _)).ip) ((HXZ.out.below (B:=wr.heap.size) aA (af _)).ip)).mono ?_);rintro e w5 ⟨⟨y,rfl,hy⟩,hb5⟩;have HY:=ae hy;clear hy;obtain⟨g5,rfl⟩:=mob hb5;clear hb5)
      go_roundw
      case rel=>
       have hb5:Below wr.heap.size wr (more (wr.alloc (.cells #[.bool xs,.slice xa xn xc] 62)) g5):=by exact bel
       have h1:=(HX.out.below hb5 (af _)).set (k:=j) (by rw[qS hlm,hlen];exact hjk) HY.out;rw[qR hlm (IB HZ.out)]at h1;have h2:=qN ((HC.out.alloc (.cells #[.bool xs,.slice xa xn xc] 62)).mor g5) j y;have e5:gI (more (wr.alloc (.cells #[.bool xs,.slice xa xn xc] 62)) g5) (gs k) j y=more ((gI wr (gs k) j y).alloc (.cells #[.bool xs,.slice xa xn xc] 62)) g5:=by unfold gI;go_simp
       rw[e5]at h1 h2;exact⟨j+1,by omega,by go_num,h2,h1⟩
      case measure=>simp[intOf];omega
     ·obtain rfl:j=n:=by omega
      have hjk2:¬(j:Int)<(j:Int):=by omega
      go_wp2_with fail
      go_roundw
      case rel=>
       have h1:=HX.out;rw[vb (by rw[hlm,hlen];exact af _) (by rw[hlen];exact af _),<-ny]at h1;have hmo:=(HR.out.mo aa).setRow (i:=k) (by rw[hpl];exact hkn) (zs:=Mx.rw (mapM (fun z=>kz*z) M) k) (by rw[ny,hlm,hlen]) HC.out h1;rw[pM ML.out iS]at hmo;exact⟨k+1,by omega,by go_num,HC.out.below HB.out aa aa,hmo.mb⟩
      case measure=>simp[intOf];omega
  ·obtain rfl:k=q:=by omega
   have hkn2:¬(k:Int)<(k:Int):=by omega
   go_wp2_with fail
   go_ret
   have h1:=HR.out;rw[wC (by rw[ML.out,HQ.out];exact af _) Bv]at h1;exact⟨⟨gm,gs,cs,cp,by rw[fi,HQ.out];rfl,by rw[fi,HQ.out];exact hcp,by rw[fi,HQ.out];exact h1.BE (kC _)⟩,HB0.out.trans (HB.out.mono (kC _))⟩
set_option maxRecDepth 10000 in
set_option maxHeartbeats 8000000 in
theorem Nc(M:Mx.Mat)(n:Nat)(v:Value)(K:IV)(kz:Int)(hm:M.length<=1000000)(hn:n<=1000000)(fk:Fit kz)(hf:∀i j,Fit (Mx.at' M i j))(w:World)(h:MR w v n M)(hk:IZ w K kz):
  Calls Tryz.prog 119 #[v,.agg #[.bool K.s,.slice K.a K.n K.cap]] w (qo w n (mapM (fun z=>z/kz) M)):=by
 have CL:=ae (fun w h=>vk M n v hm hn w h);have H:=ae h;have HK:=ae hk;have HF:Hid _:=hf;have FK:=ae fk;obtain⟨hRC,a,cap,rfl⟩:Mx.Rc n M/\∃a cap,v= .slice a M.length cap:=by obtain⟨a,cap,h1,_,h3,_⟩:=h;exact⟨h3,a,cap,h1⟩
 have RC:=ae hRC;obtain⟨ks,ka,kn,kc⟩:=K;clear h hk hf fk hRC;generalize hml:M.length=q at*;have HQ:=ae hml;clear hml
 go_enter Tryz.func119,Tryz.ntmps119
 go_wp2_with (go_at_call 156;(with_reducible refine(CL.out _ ?_).mono ?_);(exact H.out.below (B:=w.heap.size) aA (af _));rintro e w4 ⟨⟨gm,gs,cs,cp,rfl,hcp,hmb⟩,hb4⟩;rw[HQ.out]at hcp hmb⊢;have HM4:=ae hmb;have HB4:=ae hb4;clear hb4 hmb)
 have hs0:(w.alloc (.cells #[.bool ks,.slice ka kn kc] 62)).heap.size=w.heap.size+1:=by simp
 have HB0:Hid (Below w.heap.size w w4):=Below.trans (b:=w.alloc (.cells #[.bool ks,.slice ka kn kc] 62)) aA (HB4.out.mono aa);have b0:w4.cell? ⟨w.heap.size,0,none⟩=some (.bool ks):=(HB4.out.cell (p:=⟨w.heap.size,0,none⟩) Ka).trans (by go_simp);have b1:w4.cell? ⟨w.heap.size,1,none⟩=some (.slice ka kn kc):=(HB4.out.cell (p:=⟨w.heap.size,1,none⟩) Ka).trans (by go_simp);have HM5:Hid (MB w4 (w.heap.size+1) gm q gs cs n M):=by have:=HM4.out;rw[hs0]at this;exact this
 have hw4:w.heap.size<w4.heap.size:=by have:=HM5.out.b;have:=HM5.out.lt;omega
 have HK4:=ae (HK.out.below HB0.out (af _));have ML:=ae (fi (fun z=>z/kz) M);clear HM4 HB4 hs0
 go_loopw [14] (fun i wr=>∃k:Nat,k<=q/\i= .int .i64 ((k:Int))/\Hid (Below (w.heap.size+1) w4 wr)/\Hid (MB wr (w.heap.size+1) gm q gs cs n (gD k (mapM (fun z=>z/kz) M) M))) (fun i _=>q-(intOf i).toNat)
 case atStart=>exact⟨0,by omega,rfl,Below.refl _ _,by show MB _ _ _ _ _ _ _ _;rw[vc];exact HM5.out⟩
 case round=>
  obtain⟨k,hk,rfl,HB,HR⟩:=hrel;by_cases hkn:k<q
  ·have hkn2:(k:Int)<(q:Int):=by omega
   have hpl:(gD k (mapM (fun z=>z/kz) M) M).length=q:=by rw[wB ML.out,HQ.out]
   obtain⟨b,cz,hc,_,hrow⟩:=HR.out.hc k (by rw[hpl];exact hkn);have hgl:gm<wr.heap.size:=HR.out.lt;have HRW:=ae (Fy (A:=mapM (fun z=>z/kz) M) (B:=M) ML.out (k:=k) iS);by_cases hn0:n=0
   ·subst hn0;clear hrow
    go_wp2_with fail
    refine wp_loop_rounds 1 ?_;rw[rounds_succ]
    go_wp2_with fail
    go_roundw
    case rel=>
     refine⟨k+1,by omega,by go_num,HB.out,?_⟩;have h1:=HR.out;have hset:=pM (A:=mapM (fun z=>z/kz) M) (B:=M) ML.out (k:=k) iS;have hz:Mx.rw (mapM (fun z=>z/kz) M) k=Mx.rw (gD k (mapM (fun z=>z/kz) M) M) k:=by
      rw[HRW.out,ny];have:=RC.out.rw (i:=k) iS;rw[gP this];rfl
     rw[hz,Mx.Fi]at hset;show MB _ _ _ _ _ _ _ _;rw[<-hset];exact h1
    case measure=>simp[intOf];omega
   ·obtain⟨rfl,hBg,hgne,hro⟩:=hrow aa;rw[HRW.out]at hro;have HRO:=ae hro;have hlen:(Mx.rw M k).length=n:=RC.out.rw iS;have hnw:Hid (NW wr (gs k)):=hro.nw (fun e=>by rw[e]at hlen;simp at hlen;omega);have hgk:gs k<wr.heap.size:=hro.lt;have hwr:w.heap.size<wr.heap.size:=aZ hw4 HB.out.size;have d0:=(HB.out.cell (p:=⟨w.heap.size,0,none⟩) (iU _)).trans b0;have d1:=(HB.out.cell (p:=⟨w.heap.size,1,none⟩) (iU _)).trans b1;have HK5:=ae (HK.out.below (HB0.out.trans (HB.out.mono (kC _))) (af _));obtain⟨W1,hW1⟩:∃W,W=wr:=⟨wr,rfl⟩;subst hW1;clear hrow hro
    go_wp2_with fail
    go_loopw [20] (fun i2 wx=>∃j:Nat,j<=n/\i2= .int .i64 ((j:Int))/\Hid (Chg (gs k) W1 wx)/\Hid (RO wx (gs k) (part j ((Mx.rw M k).map (fun z=>z/kz)) (Mx.rw M k)))) (fun i2 _=>n-(intOf i2).toNat)
    case atStart=>exact⟨0,by omega,rfl,Chg.refl _ _,by show RO _ _ _;rw[rY];exact HRO.out⟩
    case round=>
     obtain⟨j,hjn,rfl,HC,HX⟩:=hrel;have hlm:((Mx.rw M k).map (fun z=>z/kz)).length=(Mx.rw M k).length:=bD _;by_cases hjk:j<n
     ·have hjk2:(j:Int)<(n:Int):=by omega
      have hz:=getD_some (l:=Mx.rw M k) (k:=j) (by rw[hlen];exact hjk);have HZ:Hid ((Mx.rw M k)[j]?=some (Mx.at' M k j)):=hz;obtain⟨x,cx0,cx1,hxz,f0,f1⟩:=HX.out.at (k:=j) (z:=Mx.at' M k j) (by rw[tV hlm (by rw[hlen];exact hjk)];exact hz);have HXZ:=ae hxz;have HKX:=ae (HK5.out.chg HC.out hnw.out);have FX:=ae (HF.out k j);have hgx:gs k<wr.heap.size:=HX.out.lt;have hwx:w.heap.size<wr.heap.size:=aZ hwr HC.out.size;have e0:=(HC.out.cell (o:=0) hwr aa).trans d0;have e1:=(HC.out.cell (o:=1) hwr aa).trans d1;obtain⟨xs,xa,xn,xc⟩:=x;simp only[]at cx0 cx1;clear hz hxz d0 d1
      go_wp2_with (go_at_call 121;(with_reducible refine(ni ⟨xs,xa,xn,xc⟩ ⟨ks,ka,kn,kc⟩ (Mx.at' M k j) kz FX.out FK.out _ ((HXZ.out.below (B:=wr.heap.size) aA (af _)).ip) ((HKX.out.below (B:=wr.heap.size) aA (af _)).ip)).mono ?_);rintro e w5 ⟨⟨y,rfl,hy⟩,hb5⟩;have HY:=ae hy;clear hy;obtain⟨g5,rfl⟩:=mob hb5;clear hb5)
      go_roundw
      case rel=>
       have hb5:Below wr.heap.size wr (more (wr.alloc (.cells #[.bool xs,.slice xa xn xc] 62)) g5):=by exact bel
       have h1:=(HX.out.below hb5 (af _)).set (k:=j) (by rw[qS hlm,hlen];exact hjk) HY.out;rw[qR hlm (IB HZ.out)]at h1;have h2:=qN ((HC.out.alloc (.cells #[.bool xs,.slice xa xn xc] 62)).mor g5) j y;have e5:gI (more (wr.alloc (.cells #[.bool xs,.slice xa xn xc] 62)) g5) (gs k) j y=more ((gI wr (gs k) j y).alloc (.cells #[.bool xs,.slice xa xn xc] 62)) g5:=by unfold gI;go_simp
       rw[e5]at h1 h2;exact⟨j+1,by omega,by go_num,h2,h1⟩
      case measure=>simp[intOf];omega
     ·obtain rfl:j=n:=by omega
      have hjk2:¬(j:Int)<(j:Int):=by omega
      go_wp2_with fail
      go_roundw
      case rel=>
       have h1:=HX.out;rw[vb (by rw[hlm,hlen];exact af _) (by rw[hlen];exact af _),<-ny]at h1;have hmo:=(HR.out.mo aa).setRow (i:=k) (by rw[hpl];exact hkn) (zs:=Mx.rw (mapM (fun z=>z/kz) M) k) (by rw[ny,hlm,hlen]) HC.out h1;rw[pM ML.out iS]at hmo;exact⟨k+1,by omega,by go_num,HC.out.below HB.out aa aa,hmo.mb⟩
      case measure=>simp[intOf];omega
  ·obtain rfl:k=q:=by omega
   have hkn2:¬(k:Int)<(k:Int):=by omega
   go_wp2_with fail
   go_ret
   have h1:=HR.out;rw[wC (by rw[ML.out,HQ.out];exact af _) Bv]at h1;exact⟨⟨gm,gs,cs,cp,by rw[fi,HQ.out];rfl,by rw[fi,HQ.out];exact hcp,by rw[fi,HQ.out];exact h1.BE (kC _)⟩,HB0.out.trans (HB.out.mono (kC _))⟩
end
section
open Go.RowKit Go.BigFrame
attribute [local go_sem ↓] Go.wp_at_zero Go.wp_at_succ
def gR(row:List Int)(z:Int):Int:=row.foldl (fun a x=>((Int.gcd a x:Nat):Int)) z
def gM(M:Mx.Mat)(z:Int):Int:=M.foldl (fun a r=>gR r a) z
theorem I0{row:List Int}{j:Nat}{x:Int}(h:row[j]?=some x)(z:Int):gR (row.take (j+1)) z=((Int.gcd (gR (row.take j) z) x:Nat):Int):=by
 unfold gR;rw[nX,h,List.foldl_append];rfl
theorem I1{M:Mx.Mat}{k:Nat}{r:List Int}(h:M[k]?=some r)(z:Int):gM (M.take (k+1)) z=gR r (gM (M.take k) z):=by
 unfold gM;rw[nX,h,List.foldl_append];rfl
theorem Uw{a b:Int}(fa:Fit a)(fb:Fit b):Fit ((Int.gcd a b:Nat):Int):=by
 by_cases h:a=0
 ·subst h;rw[Int.gcd_zero_left];obtain⟨n,hn,hv⟩:=fb;exact⟨n,hn,by rw[cD];exact hv⟩
 ·obtain⟨n,hn,hv⟩:=fa;refine⟨n,hn,gY ?_ hv⟩;rw[cD];have:Int.gcd a b∣a.natAbs:=Int.gcd_dvd_natAbs_left a b;exact Nat.le_of_dvd aa this
theorem NS{row:List Int}(hr:∀x∈row,Fit x){z:Int}(hz:Fit z):Fit (gR row z):=by
 induction row generalizing z with
 |nil=>exact hz
 |cons x l ih=>
  exact ih (fun y hy=>hr y (bu _ hy)) (Uw hz (hr x bn))
theorem NU{M:Mx.Mat}(hM:∀r∈M,∀x∈r,Fit x){z:Int}(hz:Fit z):Fit (gM M z):=by
 induction M generalizing z with
 |nil=>exact hz
 |cons r M ih=>exact ih (fun y hy=>hM y (bu _ hy)) (NS (hM r bn) hz)
theorem Uj{M:Mx.Mat}(h:∀i j,Fit (Mx.at' M i j)):∀r∈M,∀x∈r,Fit x:=fun r hr x hx=>by
 obtain⟨i,hi⟩:=tf hr;obtain⟨j,hj⟩:=tf hx;have:=h i j;unfold Mx.at' at this;rw[Mx.di hi,ri hj]at this;exact this
def oJ(W0 wr:World)(b:Nat)(z:Int):Prop:=Chg b W0 wr/\(∀k,wr.frozen? ⟨b,k,none⟩=false)/\b<wr.heap.size/\∃y:IV,wr.cell? ⟨b,0,none⟩=some (.bool y.s)/\wr.cell? ⟨b,1,none⟩=some (.slice y.a y.n y.cap)/\IZ wr y z
theorem oJ.below{W0 w w':World}{b:Nat}{z:Int}(h:oJ W0 w b z)(hb:Below w.heap.size w w'):oJ W0 w' b z:=by
 obtain⟨h1,h2,h3,y,h4,h5,h6⟩:=h;exact⟨h1.trans (Chg.of hb),fun k=>(hb.frozen (p:=⟨b,k,none⟩) h3).trans (h2 k),aZ h3 hb.size,y,(hb.cell (p:=⟨b,0,none⟩) h3).trans h4,(hb.cell (p:=⟨b,1,none⟩) h3).trans h5,h6.below hb (af _)⟩
theorem oJ.set{W0 w:World}{b:Nat}{z z':Int}(h:oJ W0 w b z){y:IV}(hz:IZ w y z'):oJ W0 ((w.setCell ⟨b,0,none⟩ (.bool y.s)).setCell ⟨b,1,none⟩ (.slice y.a y.n y.cap)) b z':=by
 obtain⟨h1,h2,h3,x,h4,h5,_⟩:=h;have s0:=gl w b 0 (.bool y.s) _ h4;refine⟨(h1.set b 0 _ (.inl rfl)).set b 1 _ (.inl rfl),fun k=>by rw[World.frozen?_setCell,World.frozen?_setCell];exact h2 k,by simpa using h3,y,?_,?_,?_⟩
 ·rw[fj _ _ _ _ _ aa];exact s0
 ·exact gl _ _ _ _ _ ((fj _ _ _ _ _ aa).trans h5)
 ·exact(hz.off (Off.set w b 0 _) h4).off (Off.set _ b 1 _) s0
theorem oJ.nw{W0 w:World}{b:Nat}{z:Int}(h:oJ W0 w b z):NW w b:=fun n e=>by
 obtain⟨_,_,_,y,h4,_⟩:=h;rw[h4]at e;cases e
def rInt(w:World)(z:Int)(e:Ending)(w':World):Prop:=(∃y,e= .returned (.agg #[.bool y.s,.slice y.a y.n y.cap])/\IZ w' y z)/\Below w.heap.size w w'
set_option maxRecDepth 10000 in
set_option maxHeartbeats 8000000 in
theorem F0(M:Mx.Mat)(n:Nat)(v:Value)(K:IV)(kz:Int)(hm:M.length<=1000000)(hn:n<=1000000)(fk:Fit kz)(hf:∀i j,Fit (Mx.at' M i j))(w:World)(h:MR w v n M)(hk:IZ w K kz):
  Calls Tryz.prog 118 #[v,.agg #[.bool K.s,.slice K.a K.n K.cap]] w (rInt w (gM M kz)):=by
 obtain⟨a,cap,rfl,_,hr,h4⟩:=h.row;have HRC:Hid (Mx.Rc n M):=hr;have H4:=ae h4;have HF:Hid _:=hf;have HMF:=ae (Uj hf);have FK:=ae fk;have HK:=ae hk;obtain⟨ks,ka,kn,kc⟩:=K;clear hr h4 h hf fk hk;generalize hml:M.length=q at*;have HQ:=ae hml;clear hml
 go_enter Tryz.func118,Tryz.ntmps118
 go_wp2_with fail
 have hB0:Below w.heap.size w ((w.alloc (.cells #[.bool ks,.slice ka kn kc] 62)).alloc (.cells #[.bool false,.slice none 0 0] 62)):=by exact bel
 have hs0:((w.alloc (.cells #[.bool ks,.slice ka kn kc] 62)).alloc (.cells #[.bool false,.slice none 0 0] 62)).heap.size=w.heap.size+2:=by simp
 have b0:((w.alloc (.cells #[.bool ks,.slice ka kn kc] 62)).alloc (.cells #[.bool false,.slice none 0 0] 62)).cell? ⟨w.heap.size,0,none⟩=some (.bool ks):=by go_simp
 have b1:((w.alloc (.cells #[.bool ks,.slice ka kn kc] 62)).alloc (.cells #[.bool false,.slice none 0 0] 62)).cell? ⟨w.heap.size,1,none⟩=some (.slice ka kn kc):=by go_simp
 have r0:((w.alloc (.cells #[.bool ks,.slice ka kn kc] 62)).alloc (.cells #[.bool false,.slice none 0 0] 62)).cell? ⟨w.heap.size+1,0,none⟩=some (.bool false):=by go_simp
 have r1:((w.alloc (.cells #[.bool ks,.slice ka kn kc] 62)).alloc (.cells #[.bool false,.slice none 0 0] 62)).cell? ⟨w.heap.size+1,1,none⟩=some (.slice none 0 0):=by go_simp
 have z0:∀k,((w.alloc (.cells #[.bool ks,.slice ka kn kc] 62)).alloc (.cells #[.bool false,.slice none 0 0] 62)).frozen? ⟨w.heap.size,k,none⟩=false:=fun k=>by go_simp
 have z1:∀k,((w.alloc (.cells #[.bool ks,.slice ka kn kc] 62)).alloc (.cells #[.bool false,.slice none 0 0] 62)).frozen? ⟨w.heap.size+1,k,none⟩=false:=fun k=>by go_simp
 have hBX:oJ ((w.alloc (.cells #[.bool ks,.slice ka kn kc] 62)).alloc (.cells #[.bool false,.slice none 0 0] 62)) ((w.alloc (.cells #[.bool ks,.slice ka kn kc] 62)).alloc (.cells #[.bool false,.slice none 0 0] 62)) w.heap.size kz:=
  ⟨Chg.refl _ _,z0,by omega,⟨ks,ka,kn,kc⟩,b0,b1,HK.out.below hB0 (af _)⟩
 generalize(w.alloc (.cells #[.bool ks,.slice ka kn kc] 62)).alloc (.cells #[.bool false,.slice none 0 0] 62)=W0 at*;have HBX:=ae hBX;have HB0:=ae hB0;have HNW:Hid (NW W0 w.heap.size):=hBX.nw;clear hBX b0 b1 z0 hB0
 go_loopw [11] (fun i wr=>∃k:Nat,k<=q/\i= .int .i64 ((k:Int))/\Hid (oJ W0 wr w.heap.size (gM (M.take k) kz))) (fun i _=>q-(intOf i).toNat)
 case atStart=>exact⟨0,by omega,rfl,HBX.out⟩
 case round=>
  obtain⟨k,hk,rfl,HR⟩:=hrel;have hsw:W0.heap.size<=wr.heap.size:=HR.out.1.size;by_cases hkn:k<q
  ·have hkn2:(k:Int)<(q:Int):=by omega
   rcases H4.out with h0|⟨gm,om,ha,hal,hcc⟩
   ·have:=HQ.out;rw[h0]at this;simp at this;omega
   obtain⟨b,c,cz,hza⟩:=hcc k hkn;have cz2:=(HR.out.1.cell (b:=gm) (o:=om+k) aa aa).trans ((HB0.out.cell (p:=⟨gm,om+k,none⟩) hal).trans cz);subst ha;obtain⟨b',c',e',hc',hlen',⟨g,o,rfl⟩,hra⟩:=hza;cases e';have HRA:=ae hra;have HP:=ae (I1 (M:=M) (k:=k) (gJ iS) kz);have HRF:Hid (∀x∈Mx.rw M k,Fit x):=HMF.out _ (bj (gJ iS));have FG:Hid (Fit (gM (M.take k) kz)):=NU (fun r hr=>HMF.out r (mZ hr)) FK.out;have HR0:=ae HR.out;have hgmr:gm<wr.heap.size:=by omega
   generalize gM (M.take k) kz=zk at*;clear hcc hra cz HR
   go_wp2_with fail
   go_loopw [17] (fun i2 wx=>∃j:Nat,j<=n/\i2= .int .i64 ((j:Int))/\Hid (oJ W0 wx w.heap.size (gR ((Mx.rw M k).take j) zk))) (fun i2 _=>n-(intOf i2).toNat)
   case atStart=>exact⟨0,by omega,rfl,HR0.out⟩
   case round=>
    obtain⟨j,hjn,rfl,HX⟩:=hrel;have hsx:W0.heap.size<=wr.heap.size:=HX.out.1.size;by_cases hjk:j<n
    ·have hjk2:(j:Int)<(n:Int):=by omega
     have hz:=getD_some (l:=Mx.rw M k) (k:=j) (by rw[hlen'];exact hjk);have HPX:=ae (I0 hz zk);have FX:Hid (Fit (Mx.at' M k j)):=HF.out k j;have FG2:Hid (Fit (gR ((Mx.rw M k).take j) zk)):=NS (fun x hx=>HRF.out x (mZ hx)) FG.out;have hra2:RA wr g o (Mx.rw M k)/\g<w.heap.size:=by
      rcases HRA.out with h0|⟨g',o',e',h5⟩
      ·omega
      ·cases e';have:=h5.lt;exact⟨(h5.below HB0.out (af _)).chg HX.out.1 HNW.out aa,this⟩
     obtain⟨x,x0,x1,xz⟩:=hra2.1.c j _ hz;have hgl:g<wr.heap.size:=hra2.1.lt;have HXZ:Hid (IZ wr x (Mx.at' M k j)):=xz;obtain⟨_,fz,hbl,y,y0,y1,yz⟩:=HX.out;have HYZ:=ae yz;have f0:=fz 0;have f1:=fz 1;obtain⟨xs,xa,xn,xc⟩:=x;obtain⟨ys,ya,yn,yc⟩:=y;simp only[]at x0 x1 y0 y1;clear hz hra2 xz yz fz
     go_wp2_with (go_at_call 165;(with_reducible refine(IY ⟨ys,ya,yn,yc⟩ ⟨xs,xa,xn,xc⟩ _ (Mx.at' M k j) FG2.out FX.out _ ((HYZ.out.below (B:=wr.heap.size) aA (af _)).ip) ((HXZ.out.below (B:=wr.heap.size) aA (af _)).ip)).mono ?_);rintro e w5 ⟨⟨u,rfl,hu⟩,hb5⟩;have HU:=ae hu;clear hu;obtain⟨g5,rfl⟩:=mob hb5;clear hb5)
     go_roundw
     case rel=>
      have h1:=(HX.out.below (w':=more (wr.alloc (.cells #[.bool xs,.slice xa xn xc] 62)) g5) aA).set HU.out;have e5:((more (wr.alloc (.cells #[.bool xs,.slice xa xn xc] 62)) g5).setCell ⟨w.heap.size,0,none⟩ (.bool u.s)).setCell ⟨w.heap.size,1,none⟩ (.slice u.a u.n u.cap)=more (((wr.setCell ⟨w.heap.size,0,none⟩ (.bool u.s)).setCell ⟨w.heap.size,1,none⟩ (.slice u.a u.n u.cap)).alloc (.cells #[.bool xs,.slice xa xn xc] 62)) g5:=by go_simp
      have h2:((Int.gcd (gR ((Mx.rw M k).take j) zk) (Mx.at' M k j):Nat):Int)=gR ((Mx.rw M k).take (j+1)) zk:=HPX.out.symm;rw[e5,h2]at h1;exact⟨j+1,by omega,by go_num,h1⟩
     case measure=>simp[intOf];omega
    ·obtain rfl:j=n:=by omega
     have hjk2:¬(j:Int)<(j:Int):=by omega
     go_wp2_with fail
     go_roundw
     case rel=>
      have h1:=HX.out;rw[cf aa,<-HP.out]at h1;exact⟨k+1,by omega,by go_num,h1⟩
     case measure=>simp[intOf];omega
  ·obtain rfl:k=q:=by omega
   have hkn2:¬(k:Int)<(k:Int):=by omega
   have h1:=HR.out;rw[cf Bv]at h1;obtain⟨hch,_,hbl,y,y0,y1,yz⟩:=h1;have HYZ:=ae yz;have HCH:=ae hch;have q0:=(hch.cell (b:=w.heap.size+1) (o:=0) aa aa).trans r0;have q1:=(hch.cell (b:=w.heap.size+1) (o:=1) aa aa).trans r1;have q2:=(hch.frozen (b:=w.heap.size+1) (o:=0) aa aa).trans (z1 0);have q3:=(hch.frozen (b:=w.heap.size+1) (o:=1) aa aa).trans (z1 1);have q4:w.heap.size+1<wr.heap.size:=by omega
   obtain⟨ys,ya,yn,yc⟩:=y;simp only[]at y0 y1;clear yz hch HR r0 r1 z1
   go_wp2_with fail
   refine bodyPost_ret (v:=.agg #[.bool ((⟨ys,ya,yn,yc⟩:IV)).s,.slice ((⟨ys,ya,yn,yc⟩:IV)).a ((⟨ys,ya,yn,yc⟩:IV)).n ((⟨ys,ya,yn,yc⟩:IV)).cap]) (by simp[results,Tryz.results118,go_sem,q0,q1]) rfl ⟨⟨⟨ys,ya,yn,yc⟩,rfl,?_⟩,?_⟩
   ·refine(HYZ.out.off (Off.set wr (w.heap.size+1) 0 _) q0).off (Off.set _ (w.heap.size+1) 1 _) (c:=ys) ?_;exact gl _ _ _ _ _ q0
   ·have hb:=HCH.out.below HB0.out (af _) aa;exact bel
end
section
open Go.RowKit Go.BigFrame
attribute [local go_sem ↓] Go.wp_at_zero Go.wp_at_succ
def mulR(n:Nat)(r:List Int)(N:Mx.Mat):Nat->List Int
 |0=>List.replicate n 0
 |k+1=>Mx.en (r.getD k 0) (mulR n r N k) (Mx.rw N k)
def mulM(n:Nat)(M N:Mx.Mat):Mx.Mat:=M.map fun r=>mulR n r N N.length
theorem Pu(n:Nat)(M N:Mx.Mat):(mulM n M N).length=M.length:=by simp[mulM]
theorem yP{n:Nat}{r:List Int}{N:Mx.Mat}(h:Mx.Rc n N):∀k,k<=N.length->(mulR n r N k).length=n
 |0,_=>by simp[mulR]
 |k+1,hk=>by
  have h1:=yP (r:=r) h k aa;unfold mulR;rw[Mx.kg _ _ _ (by rw[h1,h.rw aa]),h1]
theorem Pv{n:Nat}{M N:Mx.Mat}{k:Nat}(hk:k<M.length):(mulM n M N)[k]?=some (mulR n (Mx.rw M k) N N.length):=by
 unfold mulM;rw[bN,gJ hk];rfl
theorem Iz{n e f:Nat}{r:List Int}{N:Mx.Mat}(h:Mx.Rc n N)(hr:∀j,(r.getD j 0).natAbs<=2^e)(hb:Mx.Bd (2^f) N):∀k,k<=N.length->∀j,((mulR n r N k).getD j 0).natAbs<=k*2^(e+f)
 |0,_,j=>by
  unfold mulR;rw[aq,lf];split<;>simp
 |k+1,hk,j=>by
  have h1:=Iz h hr hb k aa j;unfold mulR;rw[Mx.mn _ _ _ _ (by rw[yP h k aa,h.rw aa])];refine aB (Int.natAbs_add_le _ _) ?_;rw[Nat.succ_mul,gG,eZ];rw[eZ]at h1;exact Nat.add_le_add h1 (cr (hr k) (hb k j))
theorem Pt{n e f:Nat}{r:List Int}{N:Mx.Mat}(h:Mx.Rc n N)(hr:∀j,(r.getD j 0).natAbs<=2^e)(hb:Mx.Bd (2^f) N)(hl:N.length<=1000000)(he:e+f+20<=6000000000000)(k:Nat)(hk:k<N.length)(j:Nat)(x y:Int)(hx:(mulR n r N k)[j]?=some x)(hy:(Mx.rw N k)[j]?=some y):Fit x/\Fit y/\Fit (r.getD k 0*y):=by
 have h1:=Iz h hr hb k aa j;have h2:=hb k j;have h3:=hr k;rw[aq,hx]at h1;unfold Mx.at' at h2;rw[aq,hy]at h2;simp only[mE]at h1 h2;refine⟨bK (e:=e+f+20) (aB h1 ?_) he,bK h2 aa,bK (e:=e+f) ?_ aa⟩
 ·rw[eZ 2 (e+f) 20,bs];exact bV _ aa
 ·rw[gG,eZ];exact cr h3 h2
theorem RO.zero(w:World)(n:Nat):RO (w.alloc (.cells (madeCells #[.bool false,.slice none 0 0] (n*2)) 62)) w.heap.size (List.replicate n 0):=⟨_,RI.made w n⟩
set_option maxRecDepth 10000 in
set_option maxHeartbeats 8000000 in
theorem Ks(M N:Mx.Mat)(p n e f:Nat)(v v':Value)(hm:M.length<=1000000)(hp:p<=1000000)(hn:n<=1000000)(hn0:0<n)(hp0:0<p)(hl:N.length=p)(he:e+f+20<=6000000000000)(hM:Mx.Bd (2^e) M)(hN:Mx.Bd (2^f) N)(w:World)(h:MR w v p M)(h':MR w v' n N):
  Calls Tryz.prog 97 #[v,v'] w (qo w n (mulM n M N)):=by
 obtain⟨a,cap,rfl,_,hr,h4⟩:=h.row;obtain⟨a',cap',rfl,_,hr',h4'⟩:=h'.row;have hmk:=pN M.length aa;have hmr:=wH 147 Tryz.underlying147 n aa;have RC:Hid (Mx.Rc p M):=hr;have RC':Hid (Mx.Rc n N):=hr';have ML:=ae (Pu n M N);have GET:=ae (fun k hk=>Pv (n:=n) (M:=M) (N:=N) (k:=k) hk);have LEN:=ae (fun (r:List Int) k hk=>yP (r:=r) hr' k hk);have FIT:=ae (fun i=>Pt (r:=Mx.rw M i) hr' (hM i) hN aa he);have FX:=ae (fun i j=>bK (hM i j) aa);rcases h4' with h4'|⟨gn,on,rfl,hgn,hcn⟩
 ·rw[h4']at hl;simp at hl;omega
 have HCN:Hid _:=hcn;obtain⟨b0,c0,k0,_⟩:=hcn 0 aa;rw[bZ]at k0;have H4:Hid _:=h4;rw[hl]at GET HCN;generalize hml:M.length=q at*;have HQ:=ae hml;have HL:=ae hl;clear hml hcn h4 h h' hr hr' hM hN he;rw[hl];clear hl;have hp0':¬(p:Int)=0:=by omega
 have hp1':(0:Int)<(p:Int):=by omega
 go_enter Tryz.func97,Tryz.ntmps97
 go_wp2_with fail
 go_loopw [15] (fun i wr=>∃(k:Nat) (gs cs:Nat->Nat),k<=q/\i= .int .i64 ((k:Int))/\Below w.heap.size w wr/\Hid (MB wr w.heap.size w.heap.size q gs cs n ((mulM n M N).take k)/\∀i,i<k->w.heap.size<gs i/\gs i<wr.heap.size)) (fun i _=>q-(intOf i).toNat)
 case atStart=>
  exact⟨0,id,id,by omega,rfl,by exact bel,MB.made w w.heap.size q n id id (af _),fun i hi=>by omega⟩
 case round=>
  obtain⟨k,gs,cs,hk,rfl,hB,HR⟩:=hrel;have hlt:w.heap.size<wr.heap.size:=HR.out.1.lt;by_cases hkn:k<q
  ·have hkn2:(k:Int)<(q:Int):=by omega
   rcases H4.out with h0|⟨gm,om,rfl,hgm,hcm⟩
   ·have:=HQ.out;rw[h0]at this;simp at this;omega
   obtain⟨b,c,cz,hza⟩:=hcm k hkn;have cz2:=(hB.cell (p:=⟨gm,om+k,none⟩) hgm).trans cz;have k1:=(hB.cell (p:=⟨gn,on,none⟩) hgn).trans k0;have HZA:=ae (hza.below hB (af _));have hgm2:gm<wr.heap.size:=by omega
   have hgn2:gn<wr.heap.size:=by omega
   obtain⟨u,hu⟩:=HR.out.1.hl k hkn;have hfr:=HR.out.1.fr k;have hkl:((mulM n M N).take k).length=k:=by rw[aY,ML.out];omega
   have hb1:Below wr.heap.size wr (wr.alloc (.cells (madeCells #[.bool false, .slice none 0 0] (n*2)) 62)):=by exact bel
   have hp := (HR.out.1.below hb1 (af _)).push (g := wr.heap.size) (c := n) (b := some ⟨wr.heap.size, 0, none⟩) (zs := List.replicate n 0) (by rw [hkl]; exact hkn) (by simp) (af _) (AD.some _ _) (fun _ => ⟨rfl, RO.zero wr n, by omega, by omega, fun i hi => by
       have h1:=(HR.out.2 i (by rw[hkl]at hi;exact hi)).2;omega⟩)
   rw[hkl]at hp;have hz1:((mulM n M N).take k++[List.replicate n 0]).length=k+1:=by rw[cv,hkl];rfl
   have e1:(wr.alloc (.cells (madeCells #[.bool false, .slice none 0 0] (n*2)) 62)).setCell ⟨w.heap.size,k,none⟩ (.slice (some ⟨wr.heap.size,0,none⟩) n n)=(wr.setCell ⟨w.heap.size,k,none⟩ (.slice (some ⟨wr.heap.size,0,none⟩) n n)).alloc (.cells (madeCells #[.bool false, .slice none 0 0] (n*2)) 62):=by go_simp
   rw[e1]at hp;have hBW:Below w.heap.size w ((wr.setCell ⟨w.heap.size,k,none⟩ (.slice (some ⟨wr.heap.size,0,none⟩) n n)).alloc (.cells (madeCells #[.bool false, .slice none 0 0] (n*2)) 62)):=by exact bel
   have hsz:((wr.setCell ⟨w.heap.size,k,none⟩ (.slice (some ⟨wr.heap.size,0,none⟩) n n)).alloc (.cells (madeCells #[.bool false, .slice none 0 0] (n*2)) 62)).heap.size=wr.heap.size+1:=by simp
   have HP:=ae hp;clear hp hb1 e1
   go_upto_region 6 with fail
   generalize(wr.setCell ⟨w.heap.size,k,none⟩ (.slice (some ⟨wr.heap.size,0,none⟩) n n)).alloc (.cells (madeCells #[.bool false, .slice none 0 0] (n*2)) 62)=W1 at*;obtain⟨gr,hgr⟩:∃g,g=wr.heap.size:=⟨_,rfl⟩;rw[<-hgr]at hlt hgm2 hgn2 hsz HP⊢;have HGR:=ae hgr;clear hu hfr cz2 k1 hgr;have hmo:=HP.out.mo hn0;have f0:=hmo.hc k (by rw[hz1];omega);rw[an rfl,an rfl]at f0;obtain⟨f1,_,_,hgne,hro⟩:=f0;rw[BW,an hkl.symm]at hro;have HRO:=ae hro;have hnw:Hid (NW W1 gr):=hro.nw (fun e=>by have:=jS List.length e;simp at this;omega);have k1:=(hBW.cell (p:=⟨gm,om+k,none⟩) hgm).trans cz;have HZ1:=ae hza;have HBW:=ae hBW;have hWw:w.heap.size<=W1.heap.size:=by omega
   have hkl2:(Mx.rw M k).length=p:=RC.out.rw iS;have HK2:=ae hkl2;clear hro cz hza HZA hmo
   go_wp2_with fail
   go_loopw [30] (fun i2 wx=>∃j:Nat,j<=p/\i2= .int .i64 ((j:Int))/\Hid (Chg gr W1 wx)/\Hid (RO wx gr (mulR n (Mx.rw M k) N j))) (fun i2 _=>p-(intOf i2).toNat)
   case atStart=>exact⟨0,by omega,rfl,Chg.refl _ _,HRO.out⟩
   case round=>
    obtain⟨j,hjp,rfl,HC,HX⟩:=hrel;by_cases hj:j<p
    ·have hj2:(j:Int)<(p:Int):=by omega
     have hz:=getD_some (l:=Mx.rw M k) (k:=j) (by rw[hkl2];exact hj);have HZ:Hid ((Mx.rw M k)[j]?=some (Mx.at' M k j)):=hz;obtain⟨a5,c5,e5,_,_,_,h5⟩:=HZ1.out;cases e5;rcases h5 with h5|⟨g5,o5,rfl,ra5⟩
     ·omega
     have hg5:g5≠gr:=by have:=ra5.lt;omega
     have hg6:g5<wr.heap.size:=by have:=ra5.lt;have:=HC.out.size;omega
     obtain⟨x,cx0,cx1,hxz⟩:=((ra5.below HBW.out (af _)).chg HC.out hnw.out hg5).c j _ hz;have HXZ:=ae hxz;obtain⟨b6,c6,k6,h6⟩:=HCN.out j hj;have k7:=(HC.out.cell (o:=on+j) (by omega:gn<W1.heap.size) aa).trans ((hBW.cell (p:=⟨gn,on+j,none⟩) hgn).trans k6);have f2:=(HC.out.cell (o:=k) (by omega:w.heap.size<W1.heap.size) aa).trans f1;obtain⟨xs,xa,xn,xc⟩:=x;simp only[]at cx0 cx1;have hgr3:gr<wr.heap.size:=HX.out.lt;have hwr3:w.heap.size<wr.heap.size:=by have:=HC.out.size;omega
     have hgn3:gn<wr.heap.size:=by have:=HC.out.size;omega
     obtain⟨b8,c8,e8,_,hl8,_,h6⟩:=h6;cases e8;rcases h6 with h7|⟨g7,o7,rfl,ra7⟩
     ·omega
     have hg7:g7≠gr:=by have:=ra7.lt;omega
     have HRN:=ae ((ra7.below HBW.out (af _)).chg HC.out hnw.out hg7);have HLN:Hid ((Mx.rw N j).length=n):=hl8;clear hz ra5 hxz k6 ra7;have hB5:Below wr.heap.size wr (wr.alloc (.cells #[.bool xs, .slice xa xn xc] 62)):=by exact bel
     have HB5:=ae hB5;clear hB5
     go_upto_region 9 with fail
     (apply Own3.dR 9 [.inl _, .inl _, .inl _, .inl _, .inl _, .inl _, .inl _, .inl _, .inl _] ah ah;simp only[eu,dw,eU,du];refine zs1 ?_;refine zs1 ?_;refine zs1 ?_;refine zs1 ?_;refine zs1 ?_;refine zs1 ?_;refine zs1 ?_;refine zs1 ?_;refine zs1 ?_;refine Own3.jW ?_;intro w3 hw3;have hB3:=hw3.1;clear hw3;obtain⟨g3,rfl⟩:=mob hB3;clear hB3)
     have hbx:Below wr.heap.size wr (more (wr.alloc (.cells #[.bool xs, .slice xa xn xc] 62)) g3):=by exact bel
     have AD:=ae (yK ⟨xs,xa,xn,xc⟩ (Mx.at' M k j) gr g7 o7 n n c6 (mulR n (Mx.rw M k) N j) (Mx.rw N j) (LEN.out _ j (by rw[HL.out];omega)) HLN.out hn0 hn (FX.out k j) (FIT.out k j (by rw[HL.out];exact hj)) hg7 _ (HXZ.out.below hbx (af _)) (HX.out.below hbx (af _)) (HRN.out.below hbx (af _)));have HBX:=ae hbx;clear hbx
     go_wp2_with (go_at_call 160;(with_reducible refine AD.out.mono ?_);rintro e w22 ⟨rfl,hC22,hR22⟩;have HC22:=ae (And.intro hC22 hR22);clear hC22 hR22)
     go_roundw
     case rel=>exact⟨j+1,by omega,by go_num,((HC.out.alloc _).mor _).trans HC22.out.1,HC22.out.2⟩
     case measure=>simp[intOf];omega
    ·obtain rfl:j=p:=by omega
     have hj2:¬(j:Int)<(j:Int):=by omega
     go_wp2_with fail
     go_roundw
     case rel=>
      have hset:((mulM n M N).take k++[List.replicate n 0]).set k (mulR n (Mx.rw M k) N j)=(mulM n M N).take (k+1):=by
       rw[pL (GET.out k hkn)];have:=Fk (M:=(mulM n M N).take k) (z:=List.replicate n 0) (z':=mulR n (Mx.rw M k) N j);rw[hkl]at this;exact this
      have h2:=((HP.out.mo hn0).setRow (i:=k) (zs:=mulR n (Mx.rw M k) N j) (by rw[hz1];omega) (LEN.out _ j (by rw[HL.out];omega)) (by rw[an rfl];exact HC.out) (by rw[an rfl];exact HX.out)).mb;rw[hset]at h2;have hs9:=HC.out.size;refine⟨k+1,_,_,by omega,by go_num,HC.out.below HBW.out aa aa,h2,fun i hi=>?_⟩;by_cases e:i=k
      ·rw[an e];omega
      ·rw[aj e];have h1:=HR.out.2 i aa;have:=HGR.out;omega
     case measure=>simp[intOf];omega
  ·obtain rfl:k=q:=by omega
   have hkn2:¬(k:Int)<(k:Int):=by omega
   go_wp2_with fail
   go_ret
   refine⟨⟨w.heap.size,gs,cs,k,by rw[ML.out];rfl,by rw[ML.out];exact af _,?_⟩,hB⟩;have h1:=HR.out.1;rw[cf (by rw[ML.out];exact af _)]at h1;rw[ML.out];exact h1
end
section
open Go.RowKit Go.BigFrame
attribute [local go_sem ↓] Go.wp_at_zero Go.wp_at_succ
theorem NW.below{B:Nat}{w w':World}{g:Nat}(h:NW w g)(hb:Below B w w')(hB:w.heap.size<=B)(hg:g<w.heap.size):NW w' g:=
 h.tX (hb.cell (p:=⟨g,0,none⟩) (aZ hg hB))
end
section
open Go.RowKit Go.BigFrame
attribute [local go_sem ↓] Go.wp_at_zero Go.wp_at_succ
def inb(L:Int)(z:Int):Bool:=decide (-L<=z)&&decide (z<=L)
set_option maxRecDepth 10000 in
theorem Ag(z L:Int)(hL:0<=L)(hL2:L<=1000000000000000000)(w:World):
  Calls Tryz.prog 91 #[.int .i64 z,.int .i64 L] w fun e w'=>e= .returned (.bool (inb L z))/\Below w.heap.size w w':=by
 by_cases h1: -L<=z
 ·have d1:decide (-L<=z)=true:=by rw[cZ];exact h1
  have E:Hid (inb L z=decide (z<=L)):=by show inb L z=_;unfold inb;rw[d1];rfl
  go_enter Tryz.func91,Tryz.ntmps91
  go_wp2_with fail
  go_ret
  exact⟨by rw[E.out];rfl,by exact bel⟩
 ·have d1:decide (-L<=z)=false:=by rw[bW];exact h1
  have E:Hid (inb L z=false):=by show inb L z=_;unfold inb;rw[d1];rfl
  go_enter Tryz.func91,Tryz.ntmps91
  go_wp2_with fail
  go_ret
  exact⟨by rw[E.out];rfl,by exact bel⟩
def wid(m:List (List Int)):Nat:=(m.headD []).length
def Ec{α:Type}(p:α->Bool)(l:List α)(r:Int):Prop:=(r= -1/\∀x∈l,p x=false)\/∃(k:Nat) (x:α),r=k/\l[k]?=some x/\p x=true/\∀j y,j<k->l[j]?=some y->p y=false
theorem Ec.any{α:Type}{p:α->Bool}{l:List α}{r:Int}(h:Ec p l r):decide (0<=r)=l.any p:=by
 rcases h with⟨rfl,h⟩|⟨k,x,rfl,h1,h2,_⟩
 ·symm;rw[show decide ((0:Int)<=-1)=false from rfl,List.any_eq_false];exact fun x hx=>by rw[h x hx];simp
 ·rw[show l.any p=true from ku.2 ⟨x,bj h1,h2⟩];simp
def WC(w:World){α:Type}(p:α->Bool)(l:List α)(e:Ending)(w':World):Prop:=(∃r:Int,e= .returned (.int .i64 r)/\I64 r/\Ec p l r)/\Below w.heap.size w w'
set_option maxRecDepth 10000 in
set_option maxHeartbeats 2000000 in
theorem PQ(l:List Int)(b:Option Addr)(c:Nat)(hl:l.length<=1000000000)(g:Nat)(p:Int->Bool)(eg:∀args w,(callFunc g args).run Tryz.prog w= .ok (.enter g args) w)(hp:∀x w,Calls Tryz.prog g #[.int .i64 x] w fun e w'=>e= .returned (.bool (p x))/\Below w.heap.size w w')(w:World)(h:ZAt w b l):
  Calls Tryz.prog 157 #[.slice b l.length c,.func (.func g) #[] #[]] w (WC w p l):=by
 have H:=ae h;have HP:Hid _:=hp;clear h hp;generalize hn:l.length=n at*;have HN:=ae hn;clear hn
 go_enter Tryz.func157,Tryz.ntmps157
 go_wp2_with fail
 go_loopw [8] (fun i wr=>∃k:Nat,k<=n/\i= .int .i64 ((k:Int))/\Below w.heap.size w wr/\Hid (∀j y,j<k->l[j]?=some y->p y=false)) (fun i _=>n-(intOf i).toNat)
 case atStart=>exact⟨0,by omega,rfl,by exact bel,fun j y hj=>by omega⟩
 case round=>
  obtain⟨k,hk,rfl,hB,HJ⟩:=hrel;by_cases hkn:k<n
  ·have hkn2:(k:Int)<(n:Int):=by omega
   obtain⟨z,hz⟩:∃z,l[k]?=some z:=⟨l[k]'(by rw[HN.out];omega),aV _⟩;rcases H.out.below hB (af _)with h0|⟨a0,ha,hal,hcc⟩
   ·rw[h0]at hz;simp at hz
   have cz:=hcc k z hz;subst ha;have HPz:=ae (HP.out z);have hsw:w.heap.size<=wr.heap.size:=hB.size;have HZ:=ae hz;clear hcc hz;generalize hpz:p z=pz at HPz;have HQ:=ae hpz;clear hpz;cases pz
   ·go_wp2_with (go_at_fn g;(with_reducible refine(HPz.out _).mono ?_);rintro e w4 ⟨rfl,hb4⟩;have HB4:=ae hb4;obtain⟨g4,rfl⟩:=mob hb4;clear hb4)
    go_roundw
    case rel=>
     refine⟨k+1,by omega,by go_num,by exact bel,fun j y hj hy=>?_⟩;by_cases e:j=k
     ·subst e;rw[HZ.out]at hy;cases hy;exact HQ.out
     ·exact HJ.out j y aa hy
    case measure=>simp[intOf];omega
   ·go_wp2_with (go_at_fn g;(with_reducible refine(HPz.out _).mono ?_);rintro e w4 ⟨rfl,hb4⟩;have HB4:=ae hb4;obtain⟨g4,rfl⟩:=mob hb4;clear hb4)
    go_ret
    exact⟨⟨(k:Int),rfl,⟨by omega,by omega⟩,.inr ⟨k,z,rfl,HZ.out,HQ.out,HJ.out⟩⟩,by exact bel⟩
  ·obtain rfl:k=n:=by omega
   have hkn2:¬(k:Int)<(k:Int):=by omega
   go_wp2_with fail
   go_ret
   refine⟨⟨-1,rfl,⟨by omega,by omega⟩,.inl ⟨rfl,fun x hx=>?_⟩⟩,hB⟩;obtain⟨j,hj,e⟩:=lX hx;exact HJ.out j x (by rw[<-HN.out];exact hj) (by rw[aV hj,e])
set_option maxRecDepth 10000 in
theorem G2(l:List Int)(b:Option Addr)(c:Nat)(hl:l.length<=1000000000)(g:Nat)(p:Int->Bool)(eg:∀args w,(callFunc g args).run Tryz.prog w= .ok (.enter g args) w)(hp:∀x w,Calls Tryz.prog g #[.int .i64 x] w fun e w'=>e= .returned (.bool (p x))/\Below w.heap.size w w')(w:World)(h:ZAt w b l):
  Calls Tryz.prog 89 #[.slice b l.length c,.func (.func g) #[] #[]] w fun e w'=>e= .returned (.bool (l.any p))/\Below w.heap.size w w':=by
 have IX:=ae (fun w h=>PQ l b c hl g p eg hp w h);have H:=ae h;have HA:=ae (fun r (h:Ec p l r)=>h.any);clear h hp eg;generalize l.length=n at*
 go_enter Tryz.func89,Tryz.ntmps89
 go_wp2_with (go_at_call 157;(with_reducible refine(IX.out _ ?_).mono ?_);(exact H.out.below (B:=w.heap.size) aA (af _));rintro e w4 ⟨⟨r,rfl,hi,hr⟩,hb4⟩;have HR:=ae hr;clear hr;obtain⟨g4,rfl⟩:=mob hb4;clear hb4)
 all_goals go_ret
 all_goals exact⟨by rw[<-HA.out r HR.out];first|rfl|(congr 2;simp;omega)|simp,by exact bel⟩
end
section
open Go.RowKit Go.BigFrame
attribute [local go_sem ↓] Go.wp_at_zero Go.wp_at_succ
def big(z:Int):Bool:=!(inb 1000000000000000 z)
def chk(m:List (List Int)):Int:=if m.all (fun r=>r.length==wid m)=true then(if 64<m.length\/64<wid m then 8 else if m.any (fun r=>r.any big)=true then 2 else 0)else 9
end
section
open Go.RowKit
namespace DW
theorem bF{α:Type}{m:List α}{k:Nat}{x:α}(h:m[k]?=some x):m.take (k+1)=m.take k++[x]:=by rw[nX,h];rfl
theorem get_some{α:Type}{m:List α}{k:Nat}(h:k<m.length):∃x,m[k]?=some x:=⟨_,aV h⟩
theorem Hv{m:List (List Int)}(h:0<m.length):∃l,m[0]?=some l/\l.length=wid m:=by
 cases m with
 |nil=>simp at h
 |cons l m=>exact⟨l,rfl,rfl⟩
set_option maxRecDepth 20000
set_option maxHeartbeats 1000000
theorem uK(z a b:Int):Fn Tryz.prog 26 [zI z,zI a,zI b] (.sc (.bool (decide (a<=z)&&decide (z<=b)))):=by
 refine bg Tryz.func26 ah rfl rfl rfl fun X0=>?_;simp only[aP];by_cases h:z>=a
 ·rw[show(decide (a<=z)&&decide (z<=b))=decide (z<=b) by rw[aD h,qF]];have hd:decide (z>=a)=true:=aD h;refine nF ?_;refine Rh ?_;refine zs2 ?_;exact⟨_,Sh.refl,.one (.tmp 6) _ rfl (.tmp 6 rfl)⟩
 ·rw[show(decide (a<=z)&&decide (z<=b))=false by rw[aG h,qE]];have hd:decide (z>=a)=false:=aG h;refine nF ?_;refine Rh ?_;refine zs2 ?_;exact⟨_,Sh.refl,.one (.tmp 6) _ rfl (.tmp 6 rfl)⟩
theorem NQ(z:Int):Fn Tryz.prog 76 [zI z] (.sc (.bool (inb 1000000000000000 z))):=by
 have W:=uK z (-1000000000000000) 1000000000000000;refine bg Tryz.func76 ah rfl rfl rfl fun X0=>?_;simp only[aP];refine nF ?_;refine cE ?_;refine zs93 ?_;refine cn ?_;exact⟨_,Sh.refl,.one (.tmp 2) _ rfl (.tmp 2 rfl)⟩
theorem Md(z:Int)(hz:Hf z):Fn Tryz.prog 110 [.nm z] (.nm (z.natAbs:Int)):=by
 have S:=tM z hz;have N:=FJ z hz;have G:=So z hz;have s1:=xI z;obtain⟨g,hg⟩:∃g,g=sgn z:=⟨_,rfl⟩;rw[<-hg]at s1 S;refine bg Tryz.func110 ah rfl rfl rfl fun X0=>?_;simp only[aP];by_cases h:z<0
 ·have h1:=s1.2 h;rw[show(z.natAbs:Int)= -z by omega];refine zs2 ?_;refine Dq ?_;refine zs2 ?_;refine jk ?_;refine zs7 ?_;refine aQ ?_;refine bA ?_;refine jk ?_;refine jj ?_;exact⟨_,az (k:=2) aX bq bp,.one (.cell 2 62) _ rfl (.cell 2 _ _ rfl rfl ah ah)⟩
 ·have h1:¬g<0:=fun e=>h (s1.1 e);rw[show(z.natAbs:Int)=z by omega];refine zs2 ?_;refine Dq ?_;refine zs2 ?_;refine jk ?_;refine zs7 ?_;refine aQ ?_;refine bR ?_;refine jk ?_;refine jj ?_;exact⟨_,az (k:=2) aX bq bp,.one (.cell 2 62) _ rfl (.cell 2 _ _ rfl rfl ah ah)⟩
theorem zn{q:Int}{a b:List Int}{k:Nat}{x y:Int}(ha:a[k]?=some x)(hb:b[k]?=some y):(Mx.en q a b)[k]?=some (x+q*y):=by
 unfold Mx.en;rw[List.getElem?_zipWith,ha,hb]
theorem LV(row frm:List Int)(q:Int)(hl:row.length=frm.length)(hr:row.length<=1000000)(h1:∀x∈row,Hf x)(h2:∀y∈frm,Hf y/\Hf (q*y))(hq:Hf q):Fn Tryz.prog 149 [dZ row,dZ frm,.nm q] (dZ (Mx.en (-q) row frm)):=by
 refine bg Tryz.func149 ah rfl rfl rfl fun X0=>?_;simp only[aP];refine zs2 ?_;refine JX ?_;refine lS ?_;refine av (dz (t:=7) (k:=7) (T:=62) (wd:=2) fF rfl rfl cj) ?_
 (refine av (ay (sl':=[(0,dZ row),(1,dZ frm),(5,.pt (.nm q)),(7,.own 7),(8,zI 0)]) (ow':=[(7,⟨62,2,[]⟩)]) aF aH) ?_)
 refine bh (fun r s=>∃k,k<=row.length/\r=row.length-k/\s=⟨[(0,dZ row),(1,dZ frm),(5,.pt (.nm q)),(7,.own 7),(8,zI (k:Nat))],[(7,⟨62,2,((Mx.en (-q) row frm).take k).map .nm⟩)]⟩) (m:=row.length) ⟨0,aO _,rfl,rfl⟩ fun r s hs=>?_;obtain⟨k,hk,rfl,rfl⟩:=hs;by_cases hkl:k<row.length
 ·obtain⟨x,hx⟩:=get_some hkl;obtain⟨y,hy⟩:=get_some (m:=frm) (k:=k) aa;have hxy:=zn (q:=-q) hx hy;rw[gX,<-EM]at hxy;have hfx:=h1 x (bj hx);have hfy:=h2 y (bj hy);have M:=DZ q y hq hfy.1;have S:=Sf x (q*y) hfx hfy.2;refine iw ?_;refine zs94 ?_;refine ib ?_;refine jK ?_;refine eJ ?_;refine jK ?_;refine oK ?_;refine oK ?_;refine Jx ?_;((try refine bf ?_);(refine lQ rfl rfl rfl rfl ck ck aX ai pR ah ah zb60 cj sK ?_));refine pn ?_;refine iQ ?_;simp only[nx,inB];exact⟨row.length-(k+1),_,by omega,(ay (sl':=[(0,dZ row),(1,dZ frm),(5,.pt (.nm q)),(7,.own 7),(8,zI ((k+1:Nat):Int))]) (ow':=[(7,⟨62,2,((Mx.en (-q) row frm).take k).map .nm++[.nm (x-q*y)]⟩)]) aF aH),k+1,by omega,rfl,by rw[bF hxy,cL];rfl⟩
 ·obtain rfl:k=row.length:=by omega
  have hal:=Mx.kg (-q) row frm hl;rw[cf aa];refine kY ?_;refine av (az (k:=7) aX bq bp) ?_;refine ji ?_;exact⟨_,Sh.refl,.one (.tmp 6) _ rfl (.tmp 6 rfl)⟩
end DW
end
end Go.Proofs.YtcgjmdpcplhanaaGreat
