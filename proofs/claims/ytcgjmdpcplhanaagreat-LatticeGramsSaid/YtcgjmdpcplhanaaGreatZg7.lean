/- Lemmas for the law: V13 V14 V15 V16 V17 V18 V19 E11 E12 -/
import Derived.Shelf.Abstract
import Derived.Test.YtcgjmdpcplhanaaGreatZg6
namespace Go.Proofs.YtcgjmdpcplhanaaGreat
section
theorem GS{p q:Prop}(h:q)(f:Wq q->p:=by(intro hW;((refine gar ?_;refine zs4 ?_;refine zs4 ?_;refine lO ?_;refine zs4 ?_;refine zs8 ?_;refine zs8 ?_;refine vG ?_;refine gB ?_;refine zs6 ?_;refine af ?_));exact hW.out)):p:=f ⟨h⟩
theorem zS{p q:Prop}(h:q)(f:Wq q->p:=by(intro hW;((first|(refine aLs rfl rfl rfl rfl ?_ ?_;(focus(apply aJ;(conv=>lhs;whnf);(first|done|exact rfl|(apply aG;(first|(apply decide_eq_true;omega)|(apply decide_eq_false;omega)|assumption|(simp;done)))))))|refine aLw rfl rfl rfl rfl bp ot ?_));exact hW.out)):p:=f ⟨h⟩
theorem Aj{p q:Prop}(h:q)(f:Wq q->p:=by(intro hW;((refine gar ?_;refine zs4 ?_;refine zs5 ?_;refine zs7 ?_;refine zs4 ?_;refine zs8 ?_;refine zS ?_;refine jG ?_;refine gw ?_;refine af ?_));exact hW.out)):p:=f ⟨h⟩
theorem AF{p:Prop}(h:p:=by simp[results,Tryz.results74,go_sem]):p:=h
theorem gO{p q:Prop}(h:q)(f:Wq q->p:=by(intro hW;((refine gar ?_;refine zs4 ?_;refine zs4 ?_;refine zs4 ?_;refine dB ?_;refine aS ?_;refine zs5 ?_;refine lO ?_;refine af ?_));exact hW.out)):p:=f ⟨h⟩
theorem zb8{p:Prop}(h:p:=by(first|(apply gu;(exact rfl);(focus((apply au;(conv=>lhs;whnf);(first|done|exact rfl))));(exact bw);(kernel_rfl);(kernel_rfl);(omega);(focus((first|(apply mC;(focus assumption);(focus assumption))|(apply get_map;assumption)|(apply get_own;assumption)))))|(apply en;(exact rfl);(focus((apply au;(conv=>lhs;whnf);(first|done|exact rfl))));(exact bw);(focus((repeat(first|exact List.mem_cons_self|refine List.mem_cons_of_mem _ ?_))));(kernel_rfl);(kernel_rfl);(focus(first|omega|(simp;omega)));(focus(first|(apply dv;assumption)|exact rfl))))):p:=h
theorem sX{p q:Prop}(h:q)(f:Wq q->p:=by(intro hW;((first|refine cC rfl rfl rfl ae zb2 ae ae ?_|((try refine aB ?_);refine aL1 rfl rfl rfl zb2 ?_)));exact hW.out)):p:=f ⟨h⟩
theorem zs95{p q:Prop}(h:q)(f:Wq q->p:=by(intro hW;((first|refine cC rfl rfl rfl ae zb8 ae ae ?_|((try refine aB ?_);refine aL1 rfl rfl rfl zb8 ?_)));exact hW.out)):p:=f ⟨h⟩
theorem GR{p q:Prop}(h:q)(f:Wq q->p:=by(intro hW;((refine vH ?_;refine aR ?_;refine aR ?_;refine vI ?_;refine oe ?_;refine sX ?_;refine aR ?_;refine zs95 ?_;refine oe ?_;refine sX ?_;refine sY ?_;refine cP ?_));exact hW.out)):p:=f ⟨h⟩
theorem zs93{p q:Prop}(h:q)(f:Wq q->p:=by(intro hW;((first|refine cC rfl rfl rfl ae zb24 ae ae ?_|((try refine aB ?_);refine aL1 rfl rfl rfl zb24 ?_)));exact hW.out)):p:=f ⟨h⟩
theorem zs92{p q:Prop}(h:q)(f:Wq q->p:=by(intro hW;((first|(apply ao 13;(focus kernel_rfl);(decide+kernel))|(apply ao 12;(focus kernel_rfl);(decide+kernel))|(apply ao 11;(focus kernel_rfl);(decide+kernel))|(apply ao 10;(focus kernel_rfl);(decide+kernel))|(apply ao 9;(focus kernel_rfl);(decide+kernel))|(apply ao 8;(focus kernel_rfl);(decide+kernel))|(apply ao 7;(focus kernel_rfl);(decide+kernel))|(apply ao 6;(focus kernel_rfl);(decide+kernel)));simp only[List.take_succ_cons,List.take_zero,List.drop_succ_cons,List.drop_zero]);exact hW.out)):p:=f ⟨h⟩
theorem mN{p q:Prop}(h:q)(f:Wq q->p:=by(intro hW;(refine aL1 rfl rfl rfl AI ?_);exact hW.out)):p:=f ⟨h⟩
theorem GQ{p q:Prop}(h:q)(f:Wq q->p:=by(intro hW;((refine gar ?_;refine zs4 ?_;refine zs4 ?_;refine dB ?_;refine aS ?_;refine zs4 ?_;refine dB ?_;refine aS ?_;refine cO ?_;refine mN ?_;refine af ?_));exact hW.out)):p:=f ⟨h⟩
theorem zb53{p:Prop}(h:p:=by(simp only[List.length_map,List.length_take,List.length_cons,List.length_nil];omega)):p:=h
theorem zb28{p:Prop}(h:p:=by(apply zD;(exact rfl);(focus((apply au;(conv=>lhs;whnf);(first|done|exact rfl))));(exact bw);(exact bw);(exact rfl);(exact rfl);(exact rfl);(assumption);(exact rfl))):p:=h
theorem zs91{p q:Prop}(h:q)(f:Wq q->p:=by(intro hW;(refine aL1 rfl rfl rfl zb28 ?_);exact hW.out)):p:=f ⟨h⟩
end
section
open Go.RowKit Go.BigFrame
attribute [local go_sem ↓] Go.wp_at_zero Go.wp_at_succ
structure IO'(w:World)(g:Nat)(zs:List Int):Prop where
 lt:g<w.heap.size
 c:∀(k:Nat) (z:Int),zs[k]?=some z->w.cell? ⟨g,k,none⟩=some (.int .i64 z)
 fr:∀k,w.frozen? ⟨g,k,none⟩=false
theorem IO'.below{B:Nat}{w w':World}{g:Nat}{zs:List Int}(h:IO' w g zs)(hb:Below B w w')(hB:w.heap.size<=B):IO' w' g zs:=by
 have hg:g<B:=Nat.lt_of_lt_of_le h.lt hB;exact⟨Nat.lt_of_lt_of_le h.lt hb.size,fun k z hz=>(hb.cell (p:=⟨g,k,none⟩) hg).trans (h.c k z hz),fun k=>(hb.frozen (p:=⟨g,k,none⟩) hg).trans (h.fr k)⟩
theorem IO'.set{w:World}{g:Nat}{zs:List Int}(h:IO' w g zs){k:Nat}(hk:k<zs.length)(z:Int):IO' (w.setCell ⟨g,k,none⟩ (.int .i64 z)) g (zs.set k z):=by
 have hc:=h.c k _ (getD_some hk);refine⟨by simpa using h.lt,fun i y hy=>?_,fun i=>by rw[World.frozen?_setCell];exact h.fr i⟩;by_cases e:i=k
 ·subst e;rw[List.getElem?_set_self hk]at hy;cases hy;exact cw _ _ _ _ _ hc
 ·rw[List.getElem?_set_ne (Ne.symm e)]at hy;rw[bN _ _ _ _ _ e];exact h.c i y hy
theorem F6:(Tryz.prog.info? 3).map (fun i=>(i.zero,i.size,i.bytes))=some (some (.int .i64 0),1,8):=by kernel_rfl
theorem Dq(n:Nat)(hn:n<=1000000000)(w:World):
  (Instr.makeSlice 40 (.int .i64 (n:Int)) (.int .i64 (n:Int))).run Tryz.prog w= .ok (.slice (some ⟨w.heap.size,0,none⟩) n n) (w.alloc (.cells (madeCells #[.int .i64 0] n) 3)):=by
 obtain⟨i,hi,hz,hs,hb⟩:=eh F6;have hr:=run_make (P:=Tryz.prog) w 40 3 i _ Tryz.underlying40 hi hz .i64 .i64 n n (by omega) (Int.le_refl _) (by rw[hb];omega) (by omega);rw[hs]at hr;simpa[Value.cells]using hr
theorem IO'.made(w:World)(n:Nat):IO' (w.alloc (.cells (madeCells #[.int .i64 0] n) 3)) w.heap.size (List.replicate n 0):=by
 have hh:=heap_alloc_new w (.cells (madeCells #[.int .i64 0] n) 3);refine⟨by simp,fun k z hz=>?_,fun k=>?_⟩
 ·rw[List.getElem?_replicate]at hz;split at hz
  ·cases hz;rw[cell_of_row _ w.heap.size _ _ _ (0,0) hh];unfold madeCells;rw[Array.getElem?_map,Array.getElem?_range,if_pos (by omega)];simp[Nat.mod_one]
  ·cases hz
 ·simp only[World.frozen?];rw[hh];simp
theorem IO'.grew{w w':World}{base:Nat}{T:TypeId}{v v' u:Value}{l:List Value}{g:Nat}{zs:List Int}(h:IO' w g zs)(hg:ux w w' base T v v' l u)(hne:v.ownBlock≠some g):IO' w' g zs:=by
 have hb:w'.heap[g]?=w.heap[g]?:=hg.by'.block g h.lt (fun e=>hne e.symm)
 exact⟨Nat.lt_of_lt_of_le h.lt hg.by'.size,fun k z hz=>(World.cell?_of_block hb).trans (h.c k z hz),fun k=>(frozen?_of_block hb).trans (h.fr k)⟩
def rws(gs:Nat->Nat)(n k:Nat):List Value:=(List.range k).map fun i=>.slice (some ⟨gs i,0,none⟩) n n
theorem Fm(gs:Nat->Nat)(n k g:Nat):rws (fun i=>if i=k then g else gs i) n (k+1)=rws gs n k++[.slice (some ⟨g,0,none⟩) n n]:=by
 unfold rws;rw[List.range_succ,List.map_append,List.map_congr_left (g:=fun i=>.slice (some ⟨gs i,0,none⟩) n n) fun i hi=>by
  show Value.slice (some ⟨if i=k then g else gs i,0,none⟩) n n=_;rw[if_neg (by have:=List.mem_range.1 hi;omega)]]
 simp
def Rows(w:World)(v:Value)(gs:Nat->Nat)(M:Mx.Mat)(k:Nat):Prop:=∀i,i<k->IO' w (gs i) (Mx.rw M i)/\v.ownBlock≠some (gs i)
theorem Rows.step{w W w':World}{base:Nat}{T:TypeId}{v v' u:Value}{l:List Value}{gs:Nat->Nat}{M:Mx.Mat}{k g:Nat}(h:Rows w v gs M k)(hb:Below w.heap.size w W)(hi:IO' W g (Mx.rw M k))(hg:w.heap.size<=g)(ho:fW w base T v l)(hgr:ux W w' base T v v' l u):
  Rows w' v' (fun i=>if i=k then g else gs i) M (k+1):=fun i hik=>by
 have hne:∀i,i<k+1->IO' W (if i=k then g else gs i) (Mx.rw M i)/\v.ownBlock≠some (if i=k then g else gs i):=fun i hik=>by
  by_cases e:i=k
  ·subst e;rw[if_pos rfl];exact⟨hi,fun e2=>by have:=Kz ho e2;omega⟩
  ·rw[if_neg e];have:=h i (by omega);exact⟨this.1.below hb (Nat.le_refl _),this.2⟩
 obtain⟨h1,h2⟩:=hne i hik;refine⟨h1.grew hgr h2,fun e=>?_⟩;rcases hgr.at' with h3|h3
 ·exact h2 (h3.symm.trans e)
 ·rw[h3]at e;simp only[Option.some.injEq]at e;have:=h1.lt;omega
def ZMB(B:Nat)(w:World)(v:Value)(m:List (List Int)):Prop:=∃a cap,v= .slice a m.length cap/\m.length<=cap/\(m=[]\/∃g,a=some ⟨g,0,none⟩/\B<=g/\g<w.heap.size/\
 ∀(i:Nat) (l:List Int),m[i]?=some l->∃g',w.cell? ⟨g,i,none⟩=some (.slice (some ⟨g',0,none⟩) l.length l.length)/\B<=g'/\IO' w g' l)
theorem ad0(g i:Nat):(⟨g,0,none⟩:Addr).add i=⟨g,i,none⟩:=by unfold Addr.add;split<;>simp_all
theorem fW.zmb{w:World}{base:Nat}{T:TypeId}{v:Value}{gs:Nat->Nat}{n:Nat}{M:Mx.Mat}(h:fW w base T v (rws gs n M.length))(hr:Mx.Rc n M)(hrow:Rows w v gs M M.length)(hbs:∀i,i<M.length->base<=gs i):ZMB base w v M:=by
 obtain⟨h0,h⟩:=h;have hl:(rws gs n M.length).length=M.length:=by simp[rws]
 rcases h with⟨hv',hn⟩|⟨g,cap,cur,rfl,hb,hg,hle,hm,hsz,htk⟩
 ·exact⟨none,0,by rw[hv',show M.length=0 by omega],by omega,.inl (List.eq_nil_of_length_eq_zero (by omega))⟩
 ·refine⟨_,cap,by rw[hl],by omega,.inr ⟨g,rfl,hb,(Array.getElem?_eq_some_iff.1 hg).1,fun i l hi=>?_⟩⟩;have hi2:=(List.getElem?_eq_some_iff.1 hi).1;have hln:l.length=n:=hr l (List.mem_of_getElem? hi);have hrw:Mx.rw M i=l:=Mx.dX hi;refine⟨gs i,?_,hbs i hi2,?_⟩
  ·rw[cell_of_row w g _ cur _ (0,0) hg];have h1:(rws gs n M.length)[i]?=some (.slice (some ⟨gs i,0,none⟩) n n):=by unfold rws;rw[List.getElem?_map,List.getElem?_range hi2];rfl
   rw[<-htk,List.getElem?_take_of_lt (by omega),Array.getElem?_toList]at h1;rw[hln];exact h1
  ·have:=(hrow i hi2).1;rwa[hrw]at this
theorem Fq:(Tryz.prog.info? 40).map (fun i=>(i.zero,i.size,i.bytes))=some (some (.slice none 0 0),1,24):=by kernel_rfl
def InL(L:Nat)(M:Mx.Mat):Prop:=∀i j,(Mx.at' M i j).natAbs<=L
open Classical in
def SMQ(w:World)(L:Nat)(M:Mx.Mat)(e:Ending)(w':World):Prop:=(if InL L M then∃v,e= .returned (.tuple #[v,.bool true])/\ZMB w.heap.size w' v M else e= .returned (.tuple #[.slice none 0 0,.bool false]))/\Below w.heap.size w w'
theorem Cq{w w':World}{L:Nat}{M:Mx.Mat}{v:Value}(h:InL L M)(hz:ZMB w.heap.size w' v M)(hb:Below w.heap.size w w'):SMQ w L M (.returned (.tuple #[v,.bool true])) w':=
 ⟨by rw[if_pos h];exact⟨v,rfl,hz⟩,hb⟩
theorem ni{w w':World}{L:Nat}{M:Mx.Mat}(h:¬InL L M)(hb:Below w.heap.size w w'):SMQ w L M (.returned (.tuple #[.slice none 0 0,.bool false])) w':=
 ⟨by rw[if_neg h],hb⟩
set_option maxRecDepth 10000 in
set_option maxHeartbeats 8000000 in
theorem Bi(M:Mx.Mat)(n L:Nat)(v:Value)(hm:M.length<=1000000)(hn:n<=1000000)(hL:L<=1000000000000000000)(hf:∀i j,Fit (Mx.at' M i j))(w:World)(h:MR w v n M):
  Calls Tryz.prog 74 #[v,.int .i64 ((L:Int))] w (SMQ w L M):=by
 obtain⟨a,cap,rfl,_,hr,h4⟩:=h.row;have HRC:Hid (Mx.Rc n M):=hr;have hmk:=Dq n (by omega);have H4:=Lib.hid h4;have HF:Hid _:=hf;clear hr h4 h hf;generalize hml:M.length=q at*;have HQ:=Lib.hid hml;clear hml
 go_enter Tryz.func74,Tryz.ntmps74
 go_wp2_with fail
 go_loopw [6,16] (fun v6 i wr=>∃(k:Nat) (gs:Nat->Nat),k<=q/\i= .int .i64 ((k:Int))/\Below w.heap.size w wr/\Hid (fW wr w.heap.size 40 v6 (rws gs n k)/\Rows wr v6 gs M k/\(∀i j,i<k->(Mx.at' M i j).natAbs<=L)/\∀i,i<k->w.heap.size<=gs i)) (fun _ i _=>q-(intOf i).toNat)
 case atStart=>
  exact⟨0,id,by omega,rfl,by exact bel,fW.nil _ _ _,fun i hi=>by omega,fun i j hi=>by omega,fun i hi=>by omega⟩
 case round=>
  obtain⟨k,gs,hk,rfl,hB,HR⟩:=hrel;by_cases hkn:k<q
  ·have hkn2:(k:Int)<(q:Int):=by omega
   rcases H4.out with h0|⟨gm,om,ha,hal,hcc⟩
   ·have:=HQ.out;rw[h0]at this;simp at this;omega
   obtain⟨b,c,cz,hza⟩:=hcc k hkn;have cz2:=(hB.cell (p:=⟨gm,om+k,none⟩) hal).trans cz;subst ha;obtain⟨b',c',e',hc',hlen',⟨g,o,rfl⟩,hra⟩:=hza;cases e';have HRA:=Lib.hid hra;have hsw:w.heap.size<=wr.heap.size:=hB.size;have HBW:=Lib.hid hB;clear hcc hra cz
   go_wp2_with fail
   obtain⟨W1,hW1⟩:∃W,W=wr:=⟨wr,rfl⟩;subst hW1;clear hB
   go_loopw [25] (fun i2 wx=>∃j:Nat,j<=n/\i2= .int .i64 ((j:Int))/\Below W1.heap.size W1 wx/\W1.heap.size<wx.heap.size/\Hid (IO' wx W1.heap.size ((Mx.rw M k).take j++List.replicate ((Mx.rw M k).length-j) 0)/\∀j',j'<j->(Mx.at' M k j').natAbs<=L)) (fun i2 _=>n-(intOf i2).toNat)
   case atStart=>
    refine⟨0,by omega,rfl,by exact bel,by simp,?_,fun j' hj=>by omega⟩;rw[hlen',Nat.sub_zero,List.take_zero,List.nil_append];exact IO'.made _ n
   case round=>
    obtain⟨j,hjn,rfl,hBX,hW1x,HIO⟩:=hrel;have HBX:=Lib.hid hBX;have hBWX:=HBW.out.trans (hBX.mono hsw);have HBWX:=Lib.hid hBWX;have hsx:w.heap.size<=wr.heap.size:=hBWX.size;by_cases hjk:j<n
    ·have hjk2:(j:Int)<(n:Int):=by omega
     have hz:=getD_some (l:=Mx.rw M k) (k:=j) (by rw[hlen'];exact hjk);have HZ:Hid ((Mx.rw M k)[j]?=some (Mx.at' M k j)):=hz;have hra2:RA wr g o (Mx.rw M k):=by
      rcases HRA.out with h0|⟨g',o',e',h5⟩
      ·omega
      ·cases e';exact h5.below hBWX (Nat.le_refl _)
     obtain⟨x,x0,x1,xz⟩:=hra2.c j _ hz;have hgl:g<wr.heap.size:=hra2.lt;have HX:Hid (IZ wr x (Mx.at' M k j)):=xz;have c0:=HIO.out.1.c j 0 (by
      rw[List.getElem?_append_right (by rw[List.length_take,hlen'];omega),List.length_take,hlen',Nat.min_eq_left (by omega),Nat.sub_self,List.getElem?_replicate,if_pos (by omega)])
     have f0:=HIO.out.1.fr j;have SM:=Lib.hid (fun w hx=>oC x (Mx.at' M k j) (HF.out k j) w hx);obtain⟨xs,xa,xn,xc⟩:=x;simp only[]at x0 x1 SM;clear hz hra2 xz hBX hBWX;by_cases hg:(Mx.at' M k j).natAbs<=L
     ·have hI:I64 (Mx.at' M k j):=by unfold I64;omega
      have SM2:Hid (∀w,IP w ⟨xs,xa,xn,xc⟩ (Mx.at' M k j)->Calls Tryz.prog 120 #[.agg #[.bool ((⟨xs,xa,xn,xc⟩:IV)).s,.slice ((⟨xs,xa,xn,xc⟩:IV)).a ((⟨xs,xa,xn,xc⟩:IV)).n ((⟨xs,xa,xn,xc⟩:IV)).cap]] w fun e w'=>e= .returned (.tuple #[.int .i64 (Mx.at' M k j),.bool true])/\Below w.heap.size w w'):=fun w hx=>(SM.out w hx).mono fun e w' h=>⟨by rw[h.1,oB hI,oZ hI],h.2⟩;have t1:¬(L:Int)<Mx.at' M k j:=by omega
      have t2:¬Mx.at' M k j< -(L:Int):=by omega
      have t3:decide ((L:Int)<Mx.at' M k j)=false:=by rw[decide_eq_false_iff_not];exact t1
      have t4:decide (Mx.at' M k j< -(L:Int))=false:=by rw[decide_eq_false_iff_not];exact t2
      have HG:=Lib.hid hg;clear SM hI hg
      go_wp2_with (go_at_call 120;(with_reducible refine(SM2.out _ ?_).mono ?_);(exact(HX.out.below (B:=wr.heap.size) ah (Nat.le_refl _)).ip);rintro e w4 ⟨rfl,hb4⟩;have HB4:=Lib.hid hb4;obtain⟨g4,rfl⟩:=mob hb4;clear hb4)
      go_roundw
      case rel=>
       have hb4:Below wr.heap.size wr (more (wr.alloc (.cells #[.bool xs,.slice xa xn xc] 62)) g4):=by exact bel
       have h1:=(HIO.out.1.below hb4 (Nat.le_refl _)).set (k:=j) (by rw[List.length_append,List.length_take,List.length_replicate,hlen'];omega) (Mx.at' M k j);have e5:(more (wr.alloc (.cells #[.bool xs,.slice xa xn xc] 62)) g4).setCell ⟨W1.heap.size,j,none⟩ (.int .i64 (Mx.at' M k j))=more ((wr.setCell ⟨W1.heap.size,j,none⟩ (.int .i64 (Mx.at' M k j))).alloc (.cells #[.bool xs,.slice xa xn xc] 62)) g4:=by go_simp
       rw[xr rfl HZ.out,e5]at h1;have hBX:=HBX.out;refine⟨j+1,by omega,by go_num,by exact bel,?_,h1,fun j' hj=>?_⟩
       ·first|omega|(simp;omega)
       ·by_cases e:j'=j
        ·rw[e];exact HG.out
        ·exact HIO.out.2 j' (by omega)
      case measure=>simp[intOf];omega
     ·have NB:Hid (¬InL L M):=fun h=>hg (h k j);by_cases hI:I64 (Mx.at' M k j)
      ·have SM2:Hid (∀w,IP w ⟨xs,xa,xn,xc⟩ (Mx.at' M k j)->Calls Tryz.prog 120 #[.agg #[.bool ((⟨xs,xa,xn,xc⟩:IV)).s,.slice ((⟨xs,xa,xn,xc⟩:IV)).a ((⟨xs,xa,xn,xc⟩:IV)).n ((⟨xs,xa,xn,xc⟩:IV)).cap]] w fun e w'=>e= .returned (.tuple #[.int .i64 (Mx.at' M k j),.bool true])/\Below w.heap.size w w'):=fun w hx=>(SM.out w hx).mono fun e w' h=>⟨by rw[h.1,oB hI,oZ hI],h.2⟩;clear SM hI;by_cases hgt:(L:Int)<Mx.at' M k j
       ·have t3:decide ((L:Int)<Mx.at' M k j)=true:=by rw[decide_eq_true_iff];exact hgt
        clear hg
        go_wp2_with (go_at_call 120;(with_reducible refine(SM2.out _ ?_).mono ?_);(exact(HX.out.below (B:=wr.heap.size) ah (Nat.le_refl _)).ip);rintro e w4 ⟨rfl,hb4⟩;obtain⟨g4,rfl⟩:=mob hb4;clear hb4)
        refine bodyPost_ret (v:=.tuple #[.slice none 0 0,.bool false]) AF rfl (ni NB.out ?_);have hb:=HBWX.out;exact bel
       ·have t3:decide ((L:Int)<Mx.at' M k j)=false:=by rw[decide_eq_false_iff_not];exact hgt
        have t2:Mx.at' M k j< -(L:Int):=by omega
        have t4:decide (Mx.at' M k j< -(L:Int))=true:=by rw[decide_eq_true_iff];exact t2
        clear hg
        go_wp2_with (go_at_call 120;(with_reducible refine(SM2.out _ ?_).mono ?_);(exact(HX.out.below (B:=wr.heap.size) ah (Nat.le_refl _)).ip);rintro e w4 ⟨rfl,hb4⟩;obtain⟨g4,rfl⟩:=mob hb4;clear hb4)
        refine bodyPost_ret (v:=.tuple #[.slice none 0 0,.bool false]) AF rfl (ni NB.out ?_);have hb:=HBWX.out;exact bel
      ·have SM2:Hid (∀w,IP w ⟨xs,xa,xn,xc⟩ (Mx.at' M k j)->Calls Tryz.prog 120 #[.agg #[.bool ((⟨xs,xa,xn,xc⟩:IV)).s,.slice ((⟨xs,xa,xn,xc⟩:IV)).a ((⟨xs,xa,xn,xc⟩:IV)).n ((⟨xs,xa,xn,xc⟩:IV)).cap]] w fun e w'=>e= .returned (.tuple #[.int .i64 (0),.bool false])/\Below w.heap.size w w'):=fun w hx=>(SM.out w hx).mono fun e w' h=>⟨by rw[h.1,pG hI,mH hI],h.2⟩;clear SM hI hg
       go_wp2_with (go_at_call 120;(with_reducible refine(SM2.out _ ?_).mono ?_);(exact(HX.out.below (B:=wr.heap.size) ah (Nat.le_refl _)).ip);rintro e w4 ⟨rfl,hb4⟩;obtain⟨g4,rfl⟩:=mob hb4;clear hb4)
       refine bodyPost_ret (v:=.tuple #[.slice none 0 0,.bool false]) AF rfl (ni NB.out ?_);have hb:=HBWX.out;exact bel
    ·obtain rfl:j=n:=by omega
     have hjk2:¬(j:Int)<(j:Int):=by omega
     have HL:Hid ((rws gs j k).length<=1000000000):=by show _<=_;simp[rws];omega
     go_wp2_with (at_builtin;go_must (refine qh Fq rfl (by decide) Tryz.underlying22 rfl (.tmp 53) (.tmp 55) rfl (u:=.slice (some ⟨W1.heap.size,0,none⟩) j j) (ad:=⟨wr.heap.size,0,none⟩) (c:=1) (l:=rws gs j k) (base:=w.heap.size) rfl rfl ?_ HL.out ?_ ?_ rfl ?_);(exact(HR.out.1.low HBX.out).low ah);(focus(first|omega|(simp;omega)));(focus(go_simp));intro v7 w7 hg7;have HG7:=Lib.hid hg7;clear hg7)
     go_roundw
     case rel=>
      have hbx:Below W1.heap.size W1 (wr.alloc (.cells #[.slice (some ⟨W1.heap.size,0,none⟩) j j] 40)):=HBX.out.trans ((Below.refl _ _).alloc (by omega) _);have hfull:(Mx.rw M k).take j++List.replicate ((Mx.rw M k).length-j) 0=Mx.rw M k:=by rw[hlen',Nat.sub_self,List.take_of_length_le (by omega)];simp
      have h1:=HIO.out.1;rw[hfull]at h1;have h2:=Rows.step HR.out.2.1 hbx (h1.below ((Below.refl wr.heap.size wr).alloc (Nat.le_refl _) _) (Nat.le_refl _)) (Nat.le_refl _) HR.out.1 HG7.out;have hb7:Below w.heap.size w w7:=HG7.out.below ((HR.out.1.low HBX.out).low ((Below.refl wr.heap.size wr).alloc (Nat.le_refl _) _)) (HBWX.out.alloc (by omega) _) bH;have h3:=HG7.out.own;rw[<-Fm]at h3;refine⟨k+1,_,by omega,by go_num,hb7,h3,h2,fun i j' hi=>?_,fun i hi=>?_⟩
      ·by_cases e:i=k
       ·by_cases e2:j'<j
        ·rw[e];exact HIO.out.2 j' e2
        ·rw[Mx.vD HRC.out (by omega)];simp
       ·exact HR.out.2.2.1 i j' (by omega)
      ·by_cases e:i=k
       ·rw[if_pos e];exact HBW.out.size
       ·rw[if_neg e];exact HR.out.2.2.2 i (by omega)
     case measure=>simp[intOf];omega
  ·obtain rfl:k=q:=by omega
   have hkn2:¬(k:Int)<(k:Int):=by omega
   have HI:Hid (InL L M):=fun i j=>by
    by_cases e:i<k
    ·exact HR.out.2.2.1 i j e
    ·rw[Mx.mJ tg];simp
   have HZM:Hid (ZMB w.heap.size wr u6 M):=fW.zmb (by rw[HQ.out];exact HR.out.1) HRC.out (by rw[HQ.out];exact HR.out.2.1) (by rw[HQ.out];exact HR.out.2.2.2)
   go_wp2_with fail
   refine bodyPost_ret (v:=.tuple #[u6,.bool true]) AF rfl (Cq HI.out HZM.out hB)
end
section
open Go.RowKit Go.BigFrame
attribute [local go_sem ↓] Go.wp_at_zero Go.wp_at_succ
def mapM(f:Int->Int)(M:Mx.Mat):Mx.Mat:=M.map (List.map f)
theorem mD(f:Int->Int)(M:Mx.Mat)(i:Nat):Mx.rw (mapM f M) i=(Mx.rw M i).map f:=by
 unfold Mx.rw mapM;rw[List.getD_eq_getElem?_getD,List.getD_eq_getElem?_getD,List.getElem?_map];cases M[i]?<;>simp
theorem ed(f:Int->Int)(M:Mx.Mat):(mapM f M).length=M.length:=by simp[mapM]
theorem zh{n:Nat}{f:Int->Int}{M:Mx.Mat}(h:Mx.Rc n M):Mx.Rc n (mapM f M):=fun r hr=>by
 obtain⟨x,hx,rfl⟩:=List.mem_map.1 hr;rw[List.length_map];exact h x hx
def cV(k:Nat)(A B:Mx.Mat):Mx.Mat:=A.take k++B.drop k
theorem nv(A B:Mx.Mat):cV 0 A B=B:=by simp[cV]
theorem oM{A B:Mx.Mat}{k:Nat}(h:A.length<=k)(h2:B.length<=k):cV k A B=A:=by
 unfold cV;rw[List.take_of_length_le h,List.drop_eq_nil_of_le h2,List.append_nil]
theorem oL{A B:Mx.Mat}(h:A.length=B.length)(k:Nat):(cV k A B).length=B.length:=by
 unfold cV;rw[List.length_append,List.length_take,List.length_drop];omega
theorem wH{A B:Mx.Mat}(h:A.length=B.length){k:Nat}(hk:k<B.length):Mx.rw (cV k A B) k=Mx.rw B k:=by
 unfold Mx.rw cV;rw[List.getD_eq_getElem?_getD,List.getD_eq_getElem?_getD,List.getElem?_append_right mT,List.length_take,Nat.min_eq_left (by omega),Nat.sub_self,List.getElem?_drop,Nat.add_zero]
theorem ln{A B:Mx.Mat}(h:A.length=B.length){k:Nat}(hk:k<B.length):(cV k A B).set k (Mx.rw A k)=cV (k+1) A B:=by
 unfold cV;rw[List.set_append,if_neg mT,List.length_take,Nat.min_eq_left (by omega),Nat.sub_self,List.drop_eq_getElem_cons hk,List.set_cons_zero,List.take_add_one,du (M:=A) (by omega)];simp
theorem MB.weak{w:World}{B B' gm L:Nat}{gs cs:Nat->Nat}{n:Nat}{M:Mx.Mat}(h:MB w B gm L gs cs n M)(hB:B'<=B):MB w B' gm L gs cs n M:=
 ⟨Nat.le_trans hB h.b,h.lt,h.fr,h.hl,h.nw,h.ml,h.rc,fun i hi=>by
  obtain⟨b,h1,h2,hA,h3⟩:=h.hc i hi;exact⟨b,h1,h2,hA,fun h0=>⟨(h3 h0).1,Nat.le_trans hB (h3 h0).2.1,(h3 h0).2.2⟩⟩,h.dj⟩
theorem Ju{f:Int->Int}{zs:List Int}{k:Nat}{z:Int}(h:zs[k]?=some z):(zs.map f)[k]?=some (f z):=by rw[List.getElem?_map,h];rfl
set_option maxRecDepth 10000 in
set_option maxHeartbeats 8000000 in
theorem uK(M:Mx.Mat)(n:Nat)(v:Value)(K:IV)(kz:Int)(hm:M.length<=1000000)(hn:n<=1000000)(fk:Fit kz)(hf:∀i j,Fit (Mx.at' M i j))(w:World)(h:MR w v n M)(hk:IZ w K kz):
  Calls Tryz.prog 119 #[v,.agg #[.bool K.s,.slice K.a K.n K.cap]] w (lL w n (mapM (fun z=>z/kz) M)):=by
 have CL:=Lib.hid (fun w h=>sf M n v hm hn w h);have H:=Lib.hid h;have HK:=Lib.hid hk;have HF:Hid _:=hf;have FK:=Lib.hid fk;obtain⟨hRC,a,cap,rfl⟩:Mx.Rc n M/\∃a cap,v= .slice a M.length cap:=by obtain⟨a,cap,h1,_,h3,_⟩:=h;exact⟨h3,a,cap,h1⟩
 have RC:=Lib.hid hRC;obtain⟨ks,ka,kn,kc⟩:=K;clear h hk hf fk hRC;generalize hml:M.length=q at*;have HQ:=Lib.hid hml;clear hml
 go_enter Tryz.func119,Tryz.ntmps119
 go_wp2_with (go_at_call 156;(with_reducible refine(CL.out _ ?_).mono ?_);(exact H.out.below (B:=w.heap.size) ah (Nat.le_refl _));rintro e w4 ⟨⟨gm,gs,cs,cp,rfl,hcp,hmb⟩,hb4⟩;rw[HQ.out]at hcp hmb⊢;have HM4:=Lib.hid hmb;have HB4:=Lib.hid hb4;clear hb4 hmb)
 have hs0:(w.alloc (.cells #[.bool ks,.slice ka kn kc] 62)).heap.size=w.heap.size+1:=by simp
 have HB0:Hid (Below w.heap.size w w4):=Below.trans (b:=w.alloc (.cells #[.bool ks,.slice ka kn kc] 62)) ah (HB4.out.mono (by omega));have b0:w4.cell? ⟨w.heap.size,0,none⟩=some (.bool ks):=(HB4.out.cell (p:=⟨w.heap.size,0,none⟩) (by rw[hs0];exact Nat.lt_succ_self _)).trans (by go_simp);have b1:w4.cell? ⟨w.heap.size,1,none⟩=some (.slice ka kn kc):=(HB4.out.cell (p:=⟨w.heap.size,1,none⟩) (by rw[hs0];exact Nat.lt_succ_self _)).trans (by go_simp);have HM5:Hid (MB w4 (w.heap.size+1) gm q gs cs n M):=by have:=HM4.out;rw[hs0]at this;exact this
 have hw4:w.heap.size<w4.heap.size:=by have:=HM5.out.b;have:=HM5.out.lt;omega
 have HK4:=Lib.hid (HK.out.below HB0.out (Nat.le_refl _));have ML:=Lib.hid (ed (fun z=>z/kz) M);clear HM4 HB4 hs0
 go_loopw [14] (fun i wr=>∃k:Nat,k<=q/\i= .int .i64 ((k:Int))/\Hid (Below (w.heap.size+1) w4 wr)/\Hid (MB wr (w.heap.size+1) gm q gs cs n (cV k (mapM (fun z=>z/kz) M) M))) (fun i _=>q-(intOf i).toNat)
 case atStart=>exact⟨0,by omega,rfl,Below.refl _ _,by show MB _ _ _ _ _ _ _ _;rw[nv];exact HM5.out⟩
 case round=>
  obtain⟨k,hk,rfl,HB,HR⟩:=hrel;by_cases hkn:k<q
  ·have hkn2:(k:Int)<(q:Int):=by omega
   have hpl:(cV k (mapM (fun z=>z/kz) M) M).length=q:=by rw[oL ML.out,HQ.out]
   obtain⟨b,cz,hc,_,hrow⟩:=HR.out.hc k (by rw[hpl];exact hkn);have hgl:gm<wr.heap.size:=HR.out.lt;have HRW:=Lib.hid (wH (A:=mapM (fun z=>z/kz) M) (B:=M) ML.out (k:=k) lP);by_cases hn0:n=0
   ·subst hn0;clear hrow
    go_wp2_with fail
    refine wp_loop_rounds 1 ?_;rw[rounds_succ]
    go_wp2_with fail
    go_roundw
    case rel=>
     refine⟨k+1,by omega,by go_num,HB.out,?_⟩;have h1:=HR.out;have hset:=ln (A:=mapM (fun z=>z/kz) M) (B:=M) ML.out (k:=k) lP;have hz:Mx.rw (mapM (fun z=>z/kz) M) k=Mx.rw (cV k (mapM (fun z=>z/kz) M) M) k:=by
      rw[HRW.out,mD];have:=RC.out.rw (i:=k) lP;rw[List.eq_nil_of_length_eq_zero this];rfl
     rw[hz,Mx.Cz]at hset;show MB _ _ _ _ _ _ _ _;rw[<-hset];exact h1
    case measure=>simp[intOf];omega
   ·obtain⟨rfl,hBg,hgne,hro⟩:=hrow (by omega);rw[HRW.out]at hro;have HRO:=Lib.hid hro;have hlen:(Mx.rw M k).length=n:=RC.out.rw lP;have hnw:Hid (NW wr (gs k)):=hro.nw (fun e=>by rw[e]at hlen;simp at hlen;omega);have hgk:gs k<wr.heap.size:=hro.lt;have hwr:w.heap.size<wr.heap.size:=Nat.lt_of_lt_of_le hw4 HB.out.size;have d0:=(HB.out.cell (p:=⟨w.heap.size,0,none⟩) (Nat.lt_succ_self _)).trans b0;have d1:=(HB.out.cell (p:=⟨w.heap.size,1,none⟩) (Nat.lt_succ_self _)).trans b1;have HK5:=Lib.hid (HK.out.below (HB0.out.trans (HB.out.mono (Nat.le_succ _))) (Nat.le_refl _));obtain⟨W1,hW1⟩:∃W,W=wr:=⟨wr,rfl⟩;subst hW1;clear hrow hro
    go_wp2_with fail
    go_loopw [20] (fun i2 wx=>∃j:Nat,j<=n/\i2= .int .i64 ((j:Int))/\Hid (Chg (gs k) W1 wx)/\Hid (RO wx (gs k) (part j ((Mx.rw M k).map (fun z=>z/kz)) (Mx.rw M k)))) (fun i2 _=>n-(intOf i2).toNat)
    case atStart=>exact⟨0,by omega,rfl,Chg.refl _ _,by show RO _ _ _;rw[oK];exact HRO.out⟩
    case round=>
     obtain⟨j,hjn,rfl,HC,HX⟩:=hrel;have hlm:((Mx.rw M k).map (fun z=>z/kz)).length=(Mx.rw M k).length:=List.length_map _;by_cases hjk:j<n
     ·have hjk2:(j:Int)<(n:Int):=by omega
      have hz:=getD_some (l:=Mx.rw M k) (k:=j) (by rw[hlen];exact hjk);have HZ:Hid ((Mx.rw M k)[j]?=some (Mx.at' M k j)):=hz;obtain⟨x,cx0,cx1,hxz,f0,f1⟩:=HX.out.at (k:=j) (z:=Mx.at' M k j) (by rw[pL hlm (by rw[hlen];exact hjk)];exact hz);have HXZ:=Lib.hid hxz;have HKX:=Lib.hid (HK5.out.chg HC.out hnw.out);have FX:=Lib.hid (HF.out k j);have hgx:gs k<wr.heap.size:=HX.out.lt;have hwx:w.heap.size<wr.heap.size:=Nat.lt_of_lt_of_le hwr HC.out.size;have e0:=(HC.out.cell (o:=0) hwr (by omega)).trans d0;have e1:=(HC.out.cell (o:=1) hwr (by omega)).trans d1;obtain⟨xs,xa,xn,xc⟩:=x;simp only[]at cx0 cx1;clear hz hxz d0 d1
      go_wp2_with (go_at_call 121;(with_reducible refine(fH ⟨xs,xa,xn,xc⟩ ⟨ks,ka,kn,kc⟩ (Mx.at' M k j) kz FX.out FK.out _ ((HXZ.out.below (B:=wr.heap.size) ah (Nat.le_refl _)).ip) ((HKX.out.below (B:=wr.heap.size) ah (Nat.le_refl _)).ip)).mono ?_);rintro e w5 ⟨⟨y,rfl,hy⟩,hb5⟩;have HY:=Lib.hid hy;clear hy;obtain⟨g5,rfl⟩:=mob hb5;clear hb5)
      go_roundw
      case rel=>
       have hb5:Below wr.heap.size wr (more (wr.alloc (.cells #[.bool xs,.slice xa xn xc] 62)) g5):=by exact bel
       have h1:=(HX.out.below hb5 (Nat.le_refl _)).set (k:=j) (by rw[nt hlm,hlen];exact hjk) HY.out;rw[ns hlm (Ju HZ.out)]at h1;have h2:=qE ((HC.out.alloc (.cells #[.bool xs,.slice xa xn xc] 62)).mor g5) j y;have e5:eX (more (wr.alloc (.cells #[.bool xs,.slice xa xn xc] 62)) g5) (gs k) j y=more ((eX wr (gs k) j y).alloc (.cells #[.bool xs,.slice xa xn xc] 62)) g5:=by unfold eX;go_simp
       rw[e5]at h1 h2;exact⟨j+1,by omega,by go_num,h2,h1⟩
      case measure=>simp[intOf];omega
     ·obtain rfl:j=n:=by omega
      have hjk2:¬(j:Int)<(j:Int):=by omega
      go_wp2_with fail
      go_roundw
      case rel=>
       have h1:=HX.out;rw[qI (by rw[hlm,hlen];exact Nat.le_refl _) (by rw[hlen];exact Nat.le_refl _),<-mD]at h1;have hmo:=(HR.out.mo (by omega)).setRow (i:=k) (by rw[hpl];exact hkn) (zs:=Mx.rw (mapM (fun z=>z/kz) M) k) (by rw[mD,hlm,hlen]) HC.out h1;rw[ln ML.out lP]at hmo;exact⟨k+1,by omega,by go_num,HC.out.below HB.out (by omega) (by omega),hmo.mb⟩
      case measure=>simp[intOf];omega
  ·obtain rfl:k=q:=by omega
   have hkn2:¬(k:Int)<(k:Int):=by omega
   go_wp2_with fail
   go_ret
   have h1:=HR.out;rw[oM (by rw[ML.out,HQ.out];exact Nat.le_refl _) vP]at h1;exact⟨⟨gm,gs,cs,cp,by rw[ed,HQ.out];rfl,by rw[ed,HQ.out];exact hcp,by rw[ed,HQ.out];exact h1.weak (Nat.le_succ _)⟩,HB0.out.trans (HB.out.mono (Nat.le_succ _))⟩
end
section
open Go.RowKit Go.BigFrame
attribute [local go_sem ↓] Go.wp_at_zero Go.wp_at_succ
def gR(row:List Int)(z:Int):Int:=row.foldl (fun a x=>((Int.gcd a x:Nat):Int)) z
def gM(M:Mx.Mat)(z:Int):Int:=M.foldl (fun a r=>gR r a) z
theorem uf{row:List Int}{j:Nat}{x:Int}(h:row[j]?=some x)(z:Int):gR (row.take (j+1)) z=((Int.gcd (gR (row.take j) z) x:Nat):Int):=by
 unfold gR;rw[List.take_add_one,h,List.foldl_append];rfl
theorem ug{M:Mx.Mat}{k:Nat}{r:List Int}(h:M[k]?=some r)(z:Int):gM (M.take (k+1)) z=gR r (gM (M.take k) z):=by
 unfold gM;rw[List.take_add_one,h,List.foldl_append];rfl
theorem JE{a b:Int}(fa:Fit a)(fb:Fit b):Fit ((Int.gcd a b:Nat):Int):=by
 by_cases h:a=0
 ·subst h;rw[Int.gcd_zero_left];obtain⟨n,hn,hv⟩:=fb;exact⟨n,hn,by rw[Int.natAbs_natCast];exact hv⟩
 ·obtain⟨n,hn,hv⟩:=fa;refine⟨n,hn,Nat.lt_of_le_of_lt ?_ hv⟩;rw[Int.natAbs_natCast];have:Int.gcd a b∣a.natAbs:=Int.gcd_dvd_natAbs_left a b;exact Nat.le_of_dvd (by omega) this
theorem D0{row:List Int}(hr:∀x∈row,Fit x){z:Int}(hz:Fit z):Fit (gR row z):=by
 induction row generalizing z with
 |nil=>exact hz
 |cons x l ih=>
  exact ih (fun y hy=>hr y (List.mem_cons_of_mem _ hy)) (JE hz (hr x List.mem_cons_self))
theorem Ea{M:Mx.Mat}(hM:∀r∈M,∀x∈r,Fit x){z:Int}(hz:Fit z):Fit (gM M z):=by
 induction M generalizing z with
 |nil=>exact hz
 |cons r M ih=>exact ih (fun y hy=>hM y (List.mem_cons_of_mem _ hy)) (D0 (hM r List.mem_cons_self) hz)
theorem Jt{M:Mx.Mat}(h:∀i j,Fit (Mx.at' M i j)):∀r∈M,∀x∈r,Fit x:=fun r hr x hx=>by
 obtain⟨i,hi⟩:=List.getElem?_of_mem hr;obtain⟨j,hj⟩:=List.getElem?_of_mem hx;have:=h i j;unfold Mx.at' at this;rw[Mx.dX hi,kJ hj]at this;exact this
def iW(W0 wr:World)(b:Nat)(z:Int):Prop:=Chg b W0 wr/\(∀k,wr.frozen? ⟨b,k,none⟩=false)/\b<wr.heap.size/\∃y:IV,wr.cell? ⟨b,0,none⟩=some (.bool y.s)/\wr.cell? ⟨b,1,none⟩=some (.slice y.a y.n y.cap)/\IZ wr y z
theorem iW.below{W0 w w':World}{b:Nat}{z:Int}(h:iW W0 w b z)(hb:Below w.heap.size w w'):iW W0 w' b z:=by
 obtain⟨h1,h2,h3,y,h4,h5,h6⟩:=h;exact⟨h1.trans (Chg.of hb),fun k=>(hb.frozen (p:=⟨b,k,none⟩) h3).trans (h2 k),Nat.lt_of_lt_of_le h3 hb.size,y,(hb.cell (p:=⟨b,0,none⟩) h3).trans h4,(hb.cell (p:=⟨b,1,none⟩) h3).trans h5,h6.below hb (Nat.le_refl _)⟩
theorem iW.set{W0 w:World}{b:Nat}{z z':Int}(h:iW W0 w b z){y:IV}(hz:IZ w y z'):iW W0 ((w.setCell ⟨b,0,none⟩ (.bool y.s)).setCell ⟨b,1,none⟩ (.slice y.a y.n y.cap)) b z':=by
 obtain⟨h1,h2,h3,x,h4,h5,_⟩:=h;have s0:=cw w b 0 (.bool y.s) _ h4;refine⟨(h1.set b 0 _ (.inl rfl)).set b 1 _ (.inl rfl),fun k=>by rw[World.frozen?_setCell,World.frozen?_setCell];exact h2 k,by simpa using h3,y,?_,?_,?_⟩
 ·rw[bN _ _ _ _ _ (by omega)];exact s0
 ·exact cw _ _ _ _ _ ((bN _ _ _ _ _ (by omega)).trans h5)
 ·exact(hz.off (Off.set w b 0 _) h4).off (Off.set _ b 1 _) s0
theorem iW.nw{W0 w:World}{b:Nat}{z:Int}(h:iW W0 w b z):NW w b:=fun n e=>by
 obtain⟨_,_,_,y,h4,_⟩:=h;rw[h4]at e;cases e
def rInt(w:World)(z:Int)(e:Ending)(w':World):Prop:=(∃y,e= .returned (.agg #[.bool y.s,.slice y.a y.n y.cap])/\IZ w' y z)/\Below w.heap.size w w'
set_option maxRecDepth 10000 in
set_option maxHeartbeats 8000000 in
theorem oQ(M:Mx.Mat)(n:Nat)(v:Value)(K:IV)(kz:Int)(hm:M.length<=1000000)(hn:n<=1000000)(fk:Fit kz)(hf:∀i j,Fit (Mx.at' M i j))(w:World)(h:MR w v n M)(hk:IZ w K kz):
  Calls Tryz.prog 118 #[v,.agg #[.bool K.s,.slice K.a K.n K.cap]] w (rInt w (gM M kz)):=by
 obtain⟨a,cap,rfl,_,hr,h4⟩:=h.row;have HRC:Hid (Mx.Rc n M):=hr;have H4:=Lib.hid h4;have HF:Hid _:=hf;have HMF:=Lib.hid (Jt hf);have FK:=Lib.hid fk;have HK:=Lib.hid hk;obtain⟨ks,ka,kn,kc⟩:=K;clear hr h4 h hf fk hk;generalize hml:M.length=q at*;have HQ:=Lib.hid hml;clear hml
 go_enter Tryz.func118,Tryz.ntmps118
 go_wp2_with fail
 have hB0:Below w.heap.size w ((w.alloc (.cells #[.bool ks,.slice ka kn kc] 62)).alloc (.cells #[.bool false,.slice none 0 0] 62)):=by exact bel
 have hs0:((w.alloc (.cells #[.bool ks,.slice ka kn kc] 62)).alloc (.cells #[.bool false,.slice none 0 0] 62)).heap.size=w.heap.size+2:=by simp
 have b0:((w.alloc (.cells #[.bool ks,.slice ka kn kc] 62)).alloc (.cells #[.bool false,.slice none 0 0] 62)).cell? ⟨w.heap.size,0,none⟩=some (.bool ks):=by go_simp
 have b1:((w.alloc (.cells #[.bool ks,.slice ka kn kc] 62)).alloc (.cells #[.bool false,.slice none 0 0] 62)).cell? ⟨w.heap.size,1,none⟩=some (.slice ka kn kc):=by go_simp
 have r0:((w.alloc (.cells #[.bool ks,.slice ka kn kc] 62)).alloc (.cells #[.bool false,.slice none 0 0] 62)).cell? ⟨w.heap.size+1,0,none⟩=some (.bool false):=by go_simp
 have r1:((w.alloc (.cells #[.bool ks,.slice ka kn kc] 62)).alloc (.cells #[.bool false,.slice none 0 0] 62)).cell? ⟨w.heap.size+1,1,none⟩=some (.slice none 0 0):=by go_simp
 have z0:∀k,((w.alloc (.cells #[.bool ks,.slice ka kn kc] 62)).alloc (.cells #[.bool false,.slice none 0 0] 62)).frozen? ⟨w.heap.size,k,none⟩=false:=fun k=>by go_simp
 have z1:∀k,((w.alloc (.cells #[.bool ks,.slice ka kn kc] 62)).alloc (.cells #[.bool false,.slice none 0 0] 62)).frozen? ⟨w.heap.size+1,k,none⟩=false:=fun k=>by go_simp
 have hBX:iW ((w.alloc (.cells #[.bool ks,.slice ka kn kc] 62)).alloc (.cells #[.bool false,.slice none 0 0] 62)) ((w.alloc (.cells #[.bool ks,.slice ka kn kc] 62)).alloc (.cells #[.bool false,.slice none 0 0] 62)) w.heap.size kz:=
  ⟨Chg.refl _ _,z0,by omega,⟨ks,ka,kn,kc⟩,b0,b1,HK.out.below hB0 (Nat.le_refl _)⟩
 generalize(w.alloc (.cells #[.bool ks,.slice ka kn kc] 62)).alloc (.cells #[.bool false,.slice none 0 0] 62)=W0 at*;have HBX:=Lib.hid hBX;have HB0:=Lib.hid hB0;have HNW:Hid (NW W0 w.heap.size):=hBX.nw;clear hBX b0 b1 z0 hB0
 go_loopw [11] (fun i wr=>∃k:Nat,k<=q/\i= .int .i64 ((k:Int))/\Hid (iW W0 wr w.heap.size (gM (M.take k) kz))) (fun i _=>q-(intOf i).toNat)
 case atStart=>exact⟨0,by omega,rfl,HBX.out⟩
 case round=>
  obtain⟨k,hk,rfl,HR⟩:=hrel;have hsw:W0.heap.size<=wr.heap.size:=HR.out.1.size;by_cases hkn:k<q
  ·have hkn2:(k:Int)<(q:Int):=by omega
   rcases H4.out with h0|⟨gm,om,ha,hal,hcc⟩
   ·have:=HQ.out;rw[h0]at this;simp at this;omega
   obtain⟨b,c,cz,hza⟩:=hcc k hkn;have cz2:=(HR.out.1.cell (b:=gm) (o:=om+k) (by omega) (by omega)).trans ((HB0.out.cell (p:=⟨gm,om+k,none⟩) hal).trans cz);subst ha;obtain⟨b',c',e',hc',hlen',⟨g,o,rfl⟩,hra⟩:=hza;cases e';have HRA:=Lib.hid hra;have HP:=Lib.hid (ug (M:=M) (k:=k) (du lP) kz);have HRF:Hid (∀x∈Mx.rw M k,Fit x):=HMF.out _ (List.mem_of_getElem? (du lP));have FG:Hid (Fit (gM (M.take k) kz)):=Ea (fun r hr=>HMF.out r (List.mem_of_mem_take hr)) FK.out;have HR0:=Lib.hid HR.out;have hgmr:gm<wr.heap.size:=by omega
   generalize gM (M.take k) kz=zk at*;clear hcc hra cz HR
   go_wp2_with fail
   go_loopw [17] (fun i2 wx=>∃j:Nat,j<=n/\i2= .int .i64 ((j:Int))/\Hid (iW W0 wx w.heap.size (gR ((Mx.rw M k).take j) zk))) (fun i2 _=>n-(intOf i2).toNat)
   case atStart=>exact⟨0,by omega,rfl,HR0.out⟩
   case round=>
    obtain⟨j,hjn,rfl,HX⟩:=hrel;have hsx:W0.heap.size<=wr.heap.size:=HX.out.1.size;by_cases hjk:j<n
    ·have hjk2:(j:Int)<(n:Int):=by omega
     have hz:=getD_some (l:=Mx.rw M k) (k:=j) (by rw[hlen'];exact hjk);have HPX:=Lib.hid (uf hz zk);have FX:Hid (Fit (Mx.at' M k j)):=HF.out k j;have FG2:Hid (Fit (gR ((Mx.rw M k).take j) zk)):=D0 (fun x hx=>HRF.out x (List.mem_of_mem_take hx)) FG.out;have hra2:RA wr g o (Mx.rw M k)/\g<w.heap.size:=by
      rcases HRA.out with h0|⟨g',o',e',h5⟩
      ·omega
      ·cases e';have:=h5.lt;exact⟨(h5.below HB0.out (Nat.le_refl _)).chg HX.out.1 HNW.out (by omega),this⟩
     obtain⟨x,x0,x1,xz⟩:=hra2.1.c j _ hz;have hgl:g<wr.heap.size:=hra2.1.lt;have HXZ:Hid (IZ wr x (Mx.at' M k j)):=xz;obtain⟨_,fz,hbl,y,y0,y1,yz⟩:=HX.out;have HYZ:=Lib.hid yz;have f0:=fz 0;have f1:=fz 1;obtain⟨xs,xa,xn,xc⟩:=x;obtain⟨ys,ya,yn,yc⟩:=y;simp only[]at x0 x1 y0 y1;clear hz hra2 xz yz fz
     go_wp2_with (go_at_call 165;(with_reducible refine(zx ⟨ys,ya,yn,yc⟩ ⟨xs,xa,xn,xc⟩ _ (Mx.at' M k j) FG2.out FX.out _ ((HYZ.out.below (B:=wr.heap.size) ah (Nat.le_refl _)).ip) ((HXZ.out.below (B:=wr.heap.size) ah (Nat.le_refl _)).ip)).mono ?_);rintro e w5 ⟨⟨u,rfl,hu⟩,hb5⟩;have HU:=Lib.hid hu;clear hu;obtain⟨g5,rfl⟩:=mob hb5;clear hb5)
     go_roundw
     case rel=>
      have h1:=(HX.out.below (w':=more (wr.alloc (.cells #[.bool xs,.slice xa xn xc] 62)) g5) ah).set HU.out;have e5:((more (wr.alloc (.cells #[.bool xs,.slice xa xn xc] 62)) g5).setCell ⟨w.heap.size,0,none⟩ (.bool u.s)).setCell ⟨w.heap.size,1,none⟩ (.slice u.a u.n u.cap)=more (((wr.setCell ⟨w.heap.size,0,none⟩ (.bool u.s)).setCell ⟨w.heap.size,1,none⟩ (.slice u.a u.n u.cap)).alloc (.cells #[.bool xs,.slice xa xn xc] 62)) g5:=by go_simp
      have h2:((Int.gcd (gR ((Mx.rw M k).take j) zk) (Mx.at' M k j):Nat):Int)=gR ((Mx.rw M k).take (j+1)) zk:=HPX.out.symm;rw[e5,h2]at h1;exact⟨j+1,by omega,by go_num,h1⟩
     case measure=>simp[intOf];omega
    ·obtain rfl:j=n:=by omega
     have hjk2:¬(j:Int)<(j:Int):=by omega
     go_wp2_with fail
     go_roundw
     case rel=>
      have h1:=HX.out;rw[List.take_of_length_le (by omega),<-HP.out]at h1;exact⟨k+1,by omega,by go_num,h1⟩
     case measure=>simp[intOf];omega
  ·obtain rfl:k=q:=by omega
   have hkn2:¬(k:Int)<(k:Int):=by omega
   have h1:=HR.out;rw[List.take_of_length_le vP]at h1;obtain⟨hch,_,hbl,y,y0,y1,yz⟩:=h1;have HYZ:=Lib.hid yz;have HCH:=Lib.hid hch;have q0:=(hch.cell (b:=w.heap.size+1) (o:=0) (by omega) (by omega)).trans r0;have q1:=(hch.cell (b:=w.heap.size+1) (o:=1) (by omega) (by omega)).trans r1;have q2:=(hch.frozen (b:=w.heap.size+1) (o:=0) (by omega) (by omega)).trans (z1 0);have q3:=(hch.frozen (b:=w.heap.size+1) (o:=1) (by omega) (by omega)).trans (z1 1);have q4:w.heap.size+1<wr.heap.size:=by omega
   obtain⟨ys,ya,yn,yc⟩:=y;simp only[]at y0 y1;clear yz hch HR r0 r1 z1
   go_wp2_with fail
   refine bodyPost_ret (v:=.agg #[.bool ((⟨ys,ya,yn,yc⟩:IV)).s,.slice ((⟨ys,ya,yn,yc⟩:IV)).a ((⟨ys,ya,yn,yc⟩:IV)).n ((⟨ys,ya,yn,yc⟩:IV)).cap]) (by simp[results,Tryz.results118,go_sem,q0,q1]) rfl ⟨⟨⟨ys,ya,yn,yc⟩,rfl,?_⟩,?_⟩
   ·refine(HYZ.out.off (Off.set wr (w.heap.size+1) 0 _) q0).off (Off.set _ (w.heap.size+1) 1 _) (c:=ys) ?_;exact cw _ _ _ _ _ q0
   ·have hb:=HCH.out.below HB0.out (Nat.le_refl _) (by omega);exact bel
end
section
open Go.RowKit Go.BigFrame
attribute [local go_sem ↓] Go.wp_at_zero Go.wp_at_succ
def mulR(n:Nat)(r:List Int)(N:Mx.Mat):Nat->List Int
 |0=>List.replicate n 0
 |k+1=>Mx.dw (r.getD k 0) (mulR n r N k) (Mx.rw N k)
def mulM(n:Nat)(M N:Mx.Mat):Mx.Mat:=M.map fun r=>mulR n r N N.length
theorem FJ(n:Nat)(M N:Mx.Mat):(mulM n M N).length=M.length:=by simp[mulM]
theorem qK{n:Nat}{r:List Int}{N:Mx.Mat}(h:Mx.Rc n N):∀k,k<=N.length->(mulR n r N k).length=n
 |0,_=>by simp[mulR]
 |k+1,hk=>by
  have h1:=qK (r:=r) h k (by omega);unfold mulR;rw[Mx.ij _ _ _ (by rw[h1,h.rw (by omega)]),h1]
theorem FL{n:Nat}{M N:Mx.Mat}{k:Nat}(hk:k<M.length):(mulM n M N)[k]?=some (mulR n (Mx.rw M k) N N.length):=by
 unfold mulM;rw[List.getElem?_map,du hk];rfl
theorem zf{n e f:Nat}{r:List Int}{N:Mx.Mat}(h:Mx.Rc n N)(hr:∀j,(r.getD j 0).natAbs<=2^e)(hb:Mx.Bd (2^f) N):∀k,k<=N.length->∀j,((mulR n r N k).getD j 0).natAbs<=k*2^(e+f)
 |0,_,j=>by
  unfold mulR;rw[List.getD_eq_getElem?_getD,List.getElem?_replicate];split<;>simp
 |k+1,hk,j=>by
  have h1:=zf h hr hb k (by omega) j;unfold mulR;rw[Mx.ke _ _ _ _ (by rw[qK h k (by omega),h.rw (by omega)])];refine Nat.le_trans (Int.natAbs_add_le _ _) ?_;rw[Nat.succ_mul,Int.natAbs_mul,Nat.pow_add];rw[Nat.pow_add]at h1;exact Nat.add_le_add h1 (Nat.mul_le_mul (hr k) (hb k j))
theorem FH{n e f:Nat}{r:List Int}{N:Mx.Mat}(h:Mx.Rc n N)(hr:∀j,(r.getD j 0).natAbs<=2^e)(hb:Mx.Bd (2^f) N)(hl:N.length<=1000000)(he:e+f+20<=6000000000000)(k:Nat)(hk:k<N.length)(j:Nat)(x y:Int)(hx:(mulR n r N k)[j]?=some x)(hy:(Mx.rw N k)[j]?=some y):Fit x/\Fit y/\Fit (r.getD k 0*y):=by
 have h1:=zf h hr hb k (by omega) j;have h2:=hb k j;have h3:=hr k;rw[List.getD_eq_getElem?_getD,hx]at h1;unfold Mx.at' at h2;rw[List.getD_eq_getElem?_getD,hy]at h2;simp only[Option.getD_some]at h1 h2;refine⟨bh (e:=e+f+20) (Nat.le_trans h1 ?_) he,bh h2 (by omega),bh (e:=e+f) ?_ (by omega)⟩
 ·rw[Nat.pow_add 2 (e+f) 20,Nat.mul_comm];exact Nat.mul_le_mul_left _ (by omega)
 ·rw[Int.natAbs_mul,Nat.pow_add];exact Nat.mul_le_mul h3 h2
theorem RO.zero(w:World)(n:Nat):RO (w.alloc (.cells (madeCells #[.bool false,.slice none 0 0] (n*2)) 62)) w.heap.size (List.replicate n 0):=⟨_,RI.made w n⟩
set_option maxRecDepth 10000 in
set_option maxHeartbeats 8000000 in
theorem AX(M N:Mx.Mat)(p n e f:Nat)(v v':Value)(hm:M.length<=1000000)(hp:p<=1000000)(hn:n<=1000000)(hn0:0<n)(hp0:0<p)(hl:N.length=p)(he:e+f+20<=6000000000000)(hM:Mx.Bd (2^e) M)(hN:Mx.Bd (2^f) N)(w:World)(h:MR w v p M)(h':MR w v' n N):
  Calls Tryz.prog 97 #[v,v'] w (lL w n (mulM n M N)):=by
 obtain⟨a,cap,rfl,_,hr,h4⟩:=h.row;obtain⟨a',cap',rfl,_,hr',h4'⟩:=h'.row;have hmk:=lx M.length (by omega);have hmr:=uP 147 Tryz.underlying147 n (by omega);have RC:Hid (Mx.Rc p M):=hr;have RC':Hid (Mx.Rc n N):=hr';have ML:=Lib.hid (FJ n M N);have GET:=Lib.hid (fun k hk=>FL (n:=n) (M:=M) (N:=N) (k:=k) hk);have LEN:=Lib.hid (fun (r:List Int) k hk=>qK (r:=r) hr' k hk);have FIT:=Lib.hid (fun i=>FH (r:=Mx.rw M i) hr' (hM i) hN (by omega) he);have FX:=Lib.hid (fun i j=>bh (hM i j) (by omega));rcases h4' with h4'|⟨gn,on,rfl,hgn,hcn⟩
 ·rw[h4']at hl;simp at hl;omega
 have HCN:Hid _:=hcn;obtain⟨b0,c0,k0,_⟩:=hcn 0 (by omega);rw[Nat.add_zero]at k0;have H4:Hid _:=h4;rw[hl]at GET HCN;generalize hml:M.length=q at*;have HQ:=Lib.hid hml;have HL:=Lib.hid hl;clear hml hcn h4 h h' hr hr' hM hN he;rw[hl];clear hl;have hp0':¬(p:Int)=0:=by omega
 have hp1':(0:Int)<(p:Int):=by omega
 go_enter Tryz.func97,Tryz.ntmps97
 go_wp2_with fail
 go_loopw [15] (fun i wr=>∃(k:Nat) (gs cs:Nat->Nat),k<=q/\i= .int .i64 ((k:Int))/\Below w.heap.size w wr/\Hid (MB wr w.heap.size w.heap.size q gs cs n ((mulM n M N).take k)/\∀i,i<k->w.heap.size<gs i/\gs i<wr.heap.size)) (fun i _=>q-(intOf i).toNat)
 case atStart=>
  exact⟨0,id,id,by omega,rfl,by exact bel,MB.made w w.heap.size q n id id (Nat.le_refl _),fun i hi=>by omega⟩
 case round=>
  obtain⟨k,gs,cs,hk,rfl,hB,HR⟩:=hrel;have hlt:w.heap.size<wr.heap.size:=HR.out.1.lt;by_cases hkn:k<q
  ·have hkn2:(k:Int)<(q:Int):=by omega
   rcases H4.out with h0|⟨gm,om,rfl,hgm,hcm⟩
   ·have:=HQ.out;rw[h0]at this;simp at this;omega
   obtain⟨b,c,cz,hza⟩:=hcm k hkn;have cz2:=(hB.cell (p:=⟨gm,om+k,none⟩) hgm).trans cz;have k1:=(hB.cell (p:=⟨gn,on,none⟩) hgn).trans k0;have HZA:=Lib.hid (hza.below hB (Nat.le_refl _));have hgm2:gm<wr.heap.size:=by omega
   have hgn2:gn<wr.heap.size:=by omega
   obtain⟨u,hu⟩:=HR.out.1.hl k hkn;have hfr:=HR.out.1.fr k;have hkl:((mulM n M N).take k).length=k:=by rw[List.length_take,ML.out];omega
   have hb1:Below wr.heap.size wr (wr.alloc (.cells (madeCells #[.bool false, .slice none 0 0] (n*2)) 62)):=by exact bel
   have hp := (HR.out.1.below hb1 (Nat.le_refl _)).push (g := wr.heap.size) (c := n) (b := some ⟨wr.heap.size, 0, none⟩) (zs := List.replicate n 0) (by rw [hkl]; exact hkn) (by simp) (Nat.le_refl _) (AD.some _ _) (fun _ => ⟨rfl, RO.zero wr n, by omega, by omega, fun i hi => by
       have h1:=(HR.out.2 i (by rw[hkl]at hi;exact hi)).2;omega⟩)
   rw[hkl]at hp;have hz1:((mulM n M N).take k++[List.replicate n 0]).length=k+1:=by rw[List.length_append,hkl];rfl
   have e1:(wr.alloc (.cells (madeCells #[.bool false, .slice none 0 0] (n*2)) 62)).setCell ⟨w.heap.size,k,none⟩ (.slice (some ⟨wr.heap.size,0,none⟩) n n)=(wr.setCell ⟨w.heap.size,k,none⟩ (.slice (some ⟨wr.heap.size,0,none⟩) n n)).alloc (.cells (madeCells #[.bool false, .slice none 0 0] (n*2)) 62):=by go_simp
   rw[e1]at hp;have hBW:Below w.heap.size w ((wr.setCell ⟨w.heap.size,k,none⟩ (.slice (some ⟨wr.heap.size,0,none⟩) n n)).alloc (.cells (madeCells #[.bool false, .slice none 0 0] (n*2)) 62)):=by exact bel
   have hsz:((wr.setCell ⟨w.heap.size,k,none⟩ (.slice (some ⟨wr.heap.size,0,none⟩) n n)).alloc (.cells (madeCells #[.bool false, .slice none 0 0] (n*2)) 62)).heap.size=wr.heap.size+1:=by simp
   have HP:=Lib.hid hp;clear hp hb1 e1
   go_upto_region 6 with fail
   generalize(wr.setCell ⟨w.heap.size,k,none⟩ (.slice (some ⟨wr.heap.size,0,none⟩) n n)).alloc (.cells (madeCells #[.bool false, .slice none 0 0] (n*2)) 62)=W1 at*;obtain⟨gr,hgr⟩:∃g,g=wr.heap.size:=⟨_,rfl⟩;rw[<-hgr]at hlt hgm2 hgn2 hsz HP⊢;have HGR:=Lib.hid hgr;clear hu hfr cz2 k1 hgr;have hmo:=HP.out.mo hn0;have f0:=hmo.hc k (by rw[hz1];omega);rw[if_pos rfl,if_pos rfl]at f0;obtain⟨f1,_,_,hgne,hro⟩:=f0;rw[tQ,if_pos hkl.symm]at hro;have HRO:=Lib.hid hro;have hnw:Hid (NW W1 gr):=hro.nw (fun e=>by have:=congrArg List.length e;simp at this;omega);have k1:=(hBW.cell (p:=⟨gm,om+k,none⟩) hgm).trans cz;have HZ1:=Lib.hid hza;have HBW:=Lib.hid hBW;have hWw:w.heap.size<=W1.heap.size:=by omega
   have hkl2:(Mx.rw M k).length=p:=RC.out.rw lP;have HK2:=Lib.hid hkl2;clear hro cz hza HZA hmo
   go_wp2_with fail
   go_loopw [30] (fun i2 wx=>∃j:Nat,j<=p/\i2= .int .i64 ((j:Int))/\Hid (Chg gr W1 wx)/\Hid (RO wx gr (mulR n (Mx.rw M k) N j))) (fun i2 _=>p-(intOf i2).toNat)
   case atStart=>exact⟨0,by omega,rfl,Chg.refl _ _,HRO.out⟩
   case round=>
    obtain⟨j,hjp,rfl,HC,HX⟩:=hrel;by_cases hj:j<p
    ·have hj2:(j:Int)<(p:Int):=by omega
     have hz:=getD_some (l:=Mx.rw M k) (k:=j) (by rw[hkl2];exact hj);have HZ:Hid ((Mx.rw M k)[j]?=some (Mx.at' M k j)):=hz;obtain⟨a5,c5,e5,_,_,_,h5⟩:=HZ1.out;cases e5;rcases h5 with h5|⟨g5,o5,rfl,ra5⟩
     ·omega
     have hg5:g5≠gr:=by have:=ra5.lt;omega
     have hg6:g5<wr.heap.size:=by have:=ra5.lt;have:=HC.out.size;omega
     obtain⟨x,cx0,cx1,hxz⟩:=((ra5.below HBW.out (Nat.le_refl _)).chg HC.out hnw.out hg5).c j _ hz;have HXZ:=Lib.hid hxz;obtain⟨b6,c6,k6,h6⟩:=HCN.out j hj;have k7:=(HC.out.cell (o:=on+j) (by omega:gn<W1.heap.size) (by omega)).trans ((hBW.cell (p:=⟨gn,on+j,none⟩) hgn).trans k6);have f2:=(HC.out.cell (o:=k) (by omega:w.heap.size<W1.heap.size) (by omega)).trans f1;obtain⟨xs,xa,xn,xc⟩:=x;simp only[]at cx0 cx1;have hgr3:gr<wr.heap.size:=HX.out.lt;have hwr3:w.heap.size<wr.heap.size:=by have:=HC.out.size;omega
     have hgn3:gn<wr.heap.size:=by have:=HC.out.size;omega
     obtain⟨b8,c8,e8,_,hl8,_,h6⟩:=h6;cases e8;rcases h6 with h7|⟨g7,o7,rfl,ra7⟩
     ·omega
     have hg7:g7≠gr:=by have:=ra7.lt;omega
     have HRN:=Lib.hid ((ra7.below HBW.out (Nat.le_refl _)).chg HC.out hnw.out hg7);have HLN:Hid ((Mx.rw N j).length=n):=hl8;clear hz ra5 hxz k6 ra7;have hB5:Below wr.heap.size wr (wr.alloc (.cells #[.bool xs, .slice xa xn xc] 62)):=by exact bel
     have HB5:=Lib.hid hB5;clear hB5
     go_upto_region 9 with fail
     (apply Own3.bR 9 [.inl _, .inl _, .inl _, .inl _, .inl _, .inl _, .inl _, .inl _, .inl _] aa aa;simp only[List.take_succ_cons,List.take_zero,List.drop_succ_cons,List.drop_zero];refine zs1 ?_;refine zs1 ?_;refine zs1 ?_;refine zs1 ?_;refine zs1 ?_;refine zs1 ?_;refine zs1 ?_;refine zs1 ?_;refine zs1 ?_;refine Own3.fP ?_;intro w3 hw3;have hB3:=hw3.1;clear hw3;obtain⟨g3,rfl⟩:=mob hB3;clear hB3)
     have hbx:Below wr.heap.size wr (more (wr.alloc (.cells #[.bool xs, .slice xa xn xc] 62)) g3):=by exact bel
     have AD:=Lib.hid (qG ⟨xs,xa,xn,xc⟩ (Mx.at' M k j) gr g7 o7 n n c6 (mulR n (Mx.rw M k) N j) (Mx.rw N j) (LEN.out _ j (by rw[HL.out];omega)) HLN.out hn0 hn (FX.out k j) (FIT.out k j (by rw[HL.out];exact hj)) hg7 _ (HXZ.out.below hbx (Nat.le_refl _)) (HX.out.below hbx (Nat.le_refl _)) (HRN.out.below hbx (Nat.le_refl _)));have HBX:=Lib.hid hbx;clear hbx
     go_wp2_with (go_at_call 160;(with_reducible refine AD.out.mono ?_);rintro e w22 ⟨rfl,hC22,hR22⟩;have HC22:=Lib.hid (And.intro hC22 hR22);clear hC22 hR22)
     go_roundw
     case rel=>exact⟨j+1,by omega,by go_num,((HC.out.alloc _).mor _).trans HC22.out.1,HC22.out.2⟩
     case measure=>simp[intOf];omega
    ·obtain rfl:j=p:=by omega
     have hj2:¬(j:Int)<(j:Int):=by omega
     go_wp2_with fail
     go_roundw
     case rel=>
      have hset:((mulM n M N).take k++[List.replicate n 0]).set k (mulR n (Mx.rw M k) N j)=(mulM n M N).take (k+1):=by
       rw[lh (GET.out k hkn)];have:=Fk (M:=(mulM n M N).take k) (z:=List.replicate n 0) (z':=mulR n (Mx.rw M k) N j);rw[hkl]at this;exact this
      have h2:=((HP.out.mo hn0).setRow (i:=k) (zs:=mulR n (Mx.rw M k) N j) (by rw[hz1];omega) (LEN.out _ j (by rw[HL.out];omega)) (by rw[if_pos rfl];exact HC.out) (by rw[if_pos rfl];exact HX.out)).mb;rw[hset]at h2;have hs9:=HC.out.size;refine⟨k+1,_,_,by omega,by go_num,HC.out.below HBW.out (by omega) (by omega),h2,fun i hi=>?_⟩;by_cases e:i=k
      ·rw[if_pos e];omega
      ·rw[if_neg e];have h1:=HR.out.2 i (by omega);have:=HGR.out;omega
     case measure=>simp[intOf];omega
  ·obtain rfl:k=q:=by omega
   have hkn2:¬(k:Int)<(k:Int):=by omega
   go_wp2_with fail
   go_ret
   refine⟨⟨w.heap.size,gs,cs,k,by rw[ML.out];rfl,by rw[ML.out];exact Nat.le_refl _,?_⟩,hB⟩;have h1:=HR.out.1;rw[List.take_of_length_le (by rw[ML.out];exact Nat.le_refl _)]at h1;rw[ML.out];exact h1
end
section
open Go.RowKit Go.BigFrame
attribute [local go_sem ↓] Go.wp_at_zero Go.wp_at_succ
theorem NW.below{B:Nat}{w w':World}{g:Nat}(h:NW w g)(hb:Below B w w')(hB:w.heap.size<=B)(hg:g<w.heap.size):NW w' g:=
 h.jZ (hb.cell (p:=⟨g,0,none⟩) (Nat.lt_of_lt_of_le hg hB))
end
section
open Go.RowKit Go.BigFrame
attribute [local go_sem ↓] Go.wp_at_zero Go.wp_at_succ
def inb(L:Int)(z:Int):Bool:=decide (-L<=z)&&decide (z<=L)
set_option maxRecDepth 10000 in
theorem rC(z L:Int)(hL:0<=L)(hL2:L<=1000000000000000000)(w:World):
  Calls Tryz.prog 91 #[.int .i64 z,.int .i64 L] w fun e w'=>e= .returned (.bool (inb L z))/\Below w.heap.size w w':=by
 by_cases h1: -L<=z
 ·have d1:decide (-L<=z)=true:=by rw[decide_eq_true_iff];exact h1
  have E:Hid (inb L z=decide (z<=L)):=by show inb L z=_;unfold inb;rw[d1];rfl
  go_enter Tryz.func91,Tryz.ntmps91
  go_wp2_with fail
  go_ret
  exact⟨by rw[E.out];rfl,by exact bel⟩
 ·have d1:decide (-L<=z)=false:=by rw[decide_eq_false_iff_not];exact h1
  have E:Hid (inb L z=false):=by show inb L z=_;unfold inb;rw[d1];rfl
  go_enter Tryz.func91,Tryz.ntmps91
  go_wp2_with fail
  go_ret
  exact⟨by rw[E.out];rfl,by exact bel⟩
def wid(m:List (List Int)):Nat:=(m.headD []).length
set_option maxRecDepth 10000 in
theorem uz(m:List (List Int))(v:Value)(hm:m.length<=1000000000)(w:World)(h:ZM w v m):
  Calls Tryz.prog 111 #[v] w fun e w'=>e= .returned (.int .i64 ((wid m:Int)))/\Below w.heap.size w w':=by
 obtain⟨a,cap,rfl,_,h4⟩:=h;rcases m with _|⟨l,m⟩
 ·go_enter Tryz.func111,Tryz.ntmps111
  go_wp2_with fail
  go_ret
  exact⟨rfl,by exact bel⟩
 ·rcases h4 with h4|⟨a0,rfl,_,h5⟩
  ·cases h4
  obtain⟨b,c,cz,_⟩:=h5 0 l rfl;have e0:a0.add 0=a0:=by cases a0;unfold Addr.add;split<;>simp_all
  have cz2:=cz;rw[e0]at cz2;have E:Hid (wid (l::m)=l.length):=rfl;rw[List.length_cons]at hm⊢;generalize m.length=q at*;have hq:¬(q:Int)+1=0:=by omega
  have hq1:(0:Int)<(q:Int)+1:=by omega
  have hq2:¬q+1=0:=by omega
  clear h5
  go_enter Tryz.func111,Tryz.ntmps111
  go_wp2_with fail
  go_ret
  exact⟨by rw[E.out];rfl,by exact bel⟩
def vF{α:Type}(p:α->Bool)(l:List α)(r:Int):Prop:=(r= -1/\∀x∈l,p x=false)\/∃(k:Nat) (x:α),r=k/\l[k]?=some x/\p x=true/\∀j y,j<k->l[j]?=some y->p y=false
theorem vF.any{α:Type}{p:α->Bool}{l:List α}{r:Int}(h:vF p l r):decide (0<=r)=l.any p:=by
 rcases h with⟨rfl,h⟩|⟨k,x,rfl,h1,h2,_⟩
 ·symm;rw[show decide ((0:Int)<=-1)=false from rfl,List.any_eq_false];exact fun x hx=>by rw[h x hx];simp
 ·rw[show l.any p=true from List.any_eq_true.2 ⟨x,List.mem_of_getElem? h1,h2⟩];simp
def Lm(w:World){α:Type}(p:α->Bool)(l:List α)(e:Ending)(w':World):Prop:=(∃r:Int,e= .returned (.int .i64 r)/\I64 r/\vF p l r)/\Below w.heap.size w w'
set_option maxRecDepth 10000 in
set_option maxHeartbeats 2000000 in
theorem F8(l:List Int)(b:Option Addr)(c:Nat)(hl:l.length<=1000000000)(g:Nat)(p:Int->Bool)(eg:∀args w,(callFunc g args).run Tryz.prog w= .ok (.enter g args) w)(hp:∀x w,Calls Tryz.prog g #[.int .i64 x] w fun e w'=>e= .returned (.bool (p x))/\Below w.heap.size w w')(w:World)(h:ZAt w b l):
  Calls Tryz.prog 157 #[.slice b l.length c,.func (.func g) #[] #[]] w (Lm w p l):=by
 have H:=Lib.hid h;have HP:Hid _:=hp;clear h hp;generalize hn:l.length=n at*;have HN:=Lib.hid hn;clear hn
 go_enter Tryz.func157,Tryz.ntmps157
 go_wp2_with fail
 go_loopw [8] (fun i wr=>∃k:Nat,k<=n/\i= .int .i64 ((k:Int))/\Below w.heap.size w wr/\Hid (∀j y,j<k->l[j]?=some y->p y=false)) (fun i _=>n-(intOf i).toNat)
 case atStart=>exact⟨0,by omega,rfl,by exact bel,fun j y hj=>by omega⟩
 case round=>
  obtain⟨k,hk,rfl,hB,HJ⟩:=hrel;by_cases hkn:k<n
  ·have hkn2:(k:Int)<(n:Int):=by omega
   obtain⟨z,hz⟩:∃z,l[k]?=some z:=⟨l[k]'(by rw[HN.out];omega),List.getElem?_eq_getElem _⟩;rcases H.out.below hB (Nat.le_refl _)with h0|⟨a0,ha,hal,hcc⟩
   ·rw[h0]at hz;simp at hz
   have cz:=hcc k z hz;subst ha;have HPz:=Lib.hid (HP.out z);have hsw:w.heap.size<=wr.heap.size:=hB.size;have HZ:=Lib.hid hz;clear hcc hz;generalize hpz:p z=pz at HPz;have HQ:=Lib.hid hpz;clear hpz;cases pz
   ·go_wp2_with (go_at_fn g;(with_reducible refine(HPz.out _).mono ?_);rintro e w4 ⟨rfl,hb4⟩;have HB4:=Lib.hid hb4;obtain⟨g4,rfl⟩:=mob hb4;clear hb4)
    go_roundw
    case rel=>
     refine⟨k+1,by omega,by go_num,by exact bel,fun j y hj hy=>?_⟩;by_cases e:j=k
     ·subst e;rw[HZ.out]at hy;cases hy;exact HQ.out
     ·exact HJ.out j y (by omega) hy
    case measure=>simp[intOf];omega
   ·go_wp2_with (go_at_fn g;(with_reducible refine(HPz.out _).mono ?_);rintro e w4 ⟨rfl,hb4⟩;have HB4:=Lib.hid hb4;obtain⟨g4,rfl⟩:=mob hb4;clear hb4)
    go_ret
    exact⟨⟨(k:Int),rfl,⟨by omega,by omega⟩,.inr ⟨k,z,rfl,HZ.out,HQ.out,HJ.out⟩⟩,by exact bel⟩
  ·obtain rfl:k=n:=by omega
   have hkn2:¬(k:Int)<(k:Int):=by omega
   go_wp2_with fail
   go_ret
   refine⟨⟨-1,rfl,⟨by omega,by omega⟩,.inl ⟨rfl,fun x hx=>?_⟩⟩,hB⟩;obtain⟨j,hj,e⟩:=List.getElem_of_mem hx;exact HJ.out j x (by rw[<-HN.out];exact hj) (by rw[List.getElem?_eq_getElem hj,e])
set_option maxRecDepth 10000 in
theorem xU(l:List Int)(b:Option Addr)(c:Nat)(hl:l.length<=1000000000)(g:Nat)(p:Int->Bool)(eg:∀args w,(callFunc g args).run Tryz.prog w= .ok (.enter g args) w)(hp:∀x w,Calls Tryz.prog g #[.int .i64 x] w fun e w'=>e= .returned (.bool (p x))/\Below w.heap.size w w')(w:World)(h:ZAt w b l):
  Calls Tryz.prog 89 #[.slice b l.length c,.func (.func g) #[] #[]] w fun e w'=>e= .returned (.bool (l.any p))/\Below w.heap.size w w':=by
 have IX:=Lib.hid (fun w h=>F8 l b c hl g p eg hp w h);have H:=Lib.hid h;have HA:=Lib.hid (fun r (h:vF p l r)=>h.any);clear h hp eg;generalize l.length=n at*
 go_enter Tryz.func89,Tryz.ntmps89
 go_wp2_with (go_at_call 157;(with_reducible refine(IX.out _ ?_).mono ?_);(exact H.out.below (B:=w.heap.size) ah (Nat.le_refl _));rintro e w4 ⟨⟨r,rfl,hi,hr⟩,hb4⟩;have HR:=Lib.hid hr;clear hr;obtain⟨g4,rfl⟩:=mob hb4;clear hb4)
 all_goals go_ret
 all_goals exact⟨by rw[<-HA.out r HR.out];first|rfl|(congr 2;simp;omega)|simp,by exact bel⟩
end
section
open Go.RowKit Go.BigFrame
attribute [local go_sem ↓] Go.wp_at_zero Go.wp_at_succ
def big(z:Int):Bool:=!(inb 1000000000000000 z)
def chk(m:List (List Int)):Int:=if m.all (fun r=>r.length==wid m)=true then(if 64<m.length\/64<wid m then 8 else if m.any (fun r=>r.any big)=true then 2 else 0)else 9
theorem chk9{m:List (List Int)}{r:List Int}(h:r∈m)(h2:r.length≠wid m):chk m=9:=by
 unfold chk;rw[if_neg];intro h3;have:=List.all_eq_true.1 h3 r h;simp at this;exact h2 this
theorem pZ{m:List (List Int)}(h:∀(j:Nat) (r:List Int),j<m.length->m[j]?=some r->r.length=wid m):m.all (fun r=>r.length==wid m)=true:=by
 rw[List.all_eq_true];intro r hr;obtain⟨j,hj,e⟩:=List.getElem_of_mem hr;simpa using h j r hj (by rw[List.getElem?_eq_getElem hj,e])
theorem BI{m:List (List Int)}(h:m.all (fun r=>r.length==wid m)=true)(h2:64<m.length\/64<wid m):chk m=8:=by
 unfold chk;rw[if_pos h,if_pos h2]
theorem chk2{m:List (List Int)}(h:m.all (fun r=>r.length==wid m)=true)(h2:¬(64<m.length\/64<wid m)){r:List Int}(h3:r∈m)(h4:r.any big=true):chk m=2:=by
 unfold chk;rw[if_pos h,if_neg h2,if_pos (List.any_eq_true.2 ⟨r,h3,h4⟩)]
theorem chk0{m:List (List Int)}(h:m.all (fun r=>r.length==wid m)=true)(h2:¬(64<m.length\/64<wid m))(h3:∀(j:Nat) (r:List Int),j<m.length->m[j]?=some r->r.any big=false):chk m=0:=by
 unfold chk;rw[if_pos h,if_neg h2,if_neg];intro h4;obtain⟨r,hr,h5⟩:=List.any_eq_true.1 h4;obtain⟨j,hj,e⟩:=List.getElem_of_mem hr;rw[h3 j r hj (by rw[List.getElem?_eq_getElem hj,e])]at h5;cases h5
set_option maxRecDepth 10000 in
theorem JU(z:Int)(w:World):
  Calls Tryz.prog 113 #[.int .i64 z] w fun e w'=>e= .returned (.bool (big z))/\Below w.heap.size w w':=by
 have WI:=Lib.hid (fun w=>rC z 1000000000000000 (by omega) (by omega) w);have E:Hid (big z= !(inb 1000000000000000 z)):=rfl;generalize inb 1000000000000000 z=c at*
 go_enter Tryz.func113,Tryz.ntmps113
 go_wp2_with (go_at_call 91;(with_reducible refine(WI.out _).mono ?_);rintro e w4 ⟨rfl,hb4⟩;obtain⟨g4,rfl⟩:=mob hb4;clear hb4)
 go_ret
 exact⟨by rw[E.out];rfl,by exact bel⟩
theorem BO:∀args w,(callFunc 113 args).run Tryz.prog w= .ok (.enter 113 args) w:=enters_of Tryz.func113 aa rfl
set_option maxRecDepth 10000 in
set_option maxHeartbeats 4000000 in
theorem Ek(m:List (List Int))(v:Value)(hm:m.length<=1000000000)(hr:∀r∈m,r.length<=1000000000)(w:World)(h:ZM w v m):
  Calls Tryz.prog 40 #[v] w fun e w'=>e= .returned (.int .i64 (chk m))/\Below w.heap.size w w':=by
 have WI:=Lib.hid (fun w h=>uz m v hm w h);have AN:=Lib.hid (fun (r:List Int) (hr':r∈m) b c w h=>xU r b c (hr r hr') _ big BO (fun x w=>JU x w) w h);have H:=Lib.hid h;have C9:=Lib.hid (fun (r:List Int) (h:r∈m) h2=>chk9 h h2);have CA:=Lib.hid (pZ (m:=m));have C8:=Lib.hid (BI (m:=m));have C2:=Lib.hid (fun h h2 (r:List Int) h3 h4=>chk2 (m:=m) h h2 (r:=r) h3 h4);have C0:=Lib.hid (chk0 (m:=m));have HW1:Hid (wid m<=1000000000):=by
  show wid m<=1000000000;unfold wid
  cases m with
  |nil=>simp
  |cons a l=>exact hr a (by simp)
 have hW:=HW1.out;have HLR:Hid _:=hr;obtain⟨a,cap,rfl,_,h4⟩:=h;have H4:=Lib.hid h4;clear h4 hr;generalize hml:m.length=q at*;generalize wid m=W at*;have HQ:=Lib.hid hml;clear hml;generalize chk m=R at*
 go_enter Tryz.func40,Tryz.ntmps40
 go_wp2_with fail
 go_loopw [9] (fun i wr=>∃k:Nat,k<=q/\i= .int .i64 ((k:Int))/\Below w.heap.size w wr/\Hid (∀(j:Nat) (r:List Int),j<k->m[j]?=some r->r.length=W)) (fun i _=>q-(intOf i).toNat)
 case atStart=>exact⟨0,by omega,rfl,by exact bel,fun j r hj=>by omega⟩
 case round=>
  obtain⟨k,hk,rfl,hB,HJ⟩:=hrel;have hsw:w.heap.size<=wr.heap.size:=hB.size;by_cases hkn:k<q
  ·have hkn2:(k:Int)<(q:Int):=by omega
   obtain⟨l,hl⟩:∃l,m[k]?=some l:=⟨m[k]'tg,List.getElem?_eq_getElem _⟩;rcases H4.out with h0|⟨a0,ha,hal,hcc⟩
   ·rw[h0]at hl;simp at hl
   obtain⟨b,c,cz,_⟩:=hcc k l hl;have cz2:=iR hB (Nat.le_refl _) cz;subst ha;have HL:=Lib.hid hl;have hll:l.length<=1000000000:=HLR.out l (List.mem_of_getElem? hl);clear hcc cz hl;generalize hgl:l.length=p at*;have HP:=Lib.hid hgl;clear hgl;by_cases he:p=W
   ·subst he
    go_wp2_with (go_at_call 111;(with_reducible refine(WI.out _ ?_).mono ?_);(exact H.out.below (B:=w.heap.size) ah (Nat.le_refl _));rintro e w4 ⟨rfl,hb4⟩;obtain⟨g4,rfl⟩:=mob hb4;clear hb4)
    go_roundw
    case rel=>
     refine⟨k+1,by omega,by go_num,by exact bel,fun j y hj hy=>?_⟩;by_cases e:j=k
     ·subst e;rw[HL.out]at hy;cases hy;exact HP.out
     ·exact HJ.out j y (by omega) hy
    case measure=>simp[intOf];omega
   ·have he2:¬(p:Int)=(W:Int):=by omega
    have E:Hid (R=9):=C9.out l (List.mem_of_getElem? HL.out) (by rw[HP.out];exact he)
    go_wp2_with (go_at_call 111;(with_reducible refine(WI.out _ ?_).mono ?_);(exact H.out.below (B:=w.heap.size) ah (Nat.le_refl _));rintro e w4 ⟨rfl,hb4⟩;obtain⟨g4,rfl⟩:=mob hb4;clear hb4)
    go_ret
    exact⟨by rw[E.out];rfl,by exact bel⟩
  ·obtain rfl:k=q:=by omega
   have hkn2:¬(k:Int)<(k:Int):=by omega
   have HA:=Lib.hid (CA.out (fun j r hj hjr=>HJ.out j r hj hjr));by_cases h1:64<k
   ·have h2:(64:Int)<(k:Int):=by omega
    have E:Hid (R=8):=C8.out HA.out (.inl h1)
    go_wp2_with fail
    go_ret
    exact⟨by rw[E.out];rfl,by exact bel⟩
   ·have h2:¬(64:Int)<(k:Int):=by omega
    have h3:decide ((64:Int)<(k:Int))=false:=by rw[decide_eq_false_iff_not];exact h2
    by_cases h5:64<W
    ·have h6:(64:Int)<(W:Int):=by omega
     have E:Hid (R=8):=C8.out HA.out (.inr h5)
     go_wp2_with (go_at_call 111;(with_reducible refine(WI.out _ ?_).mono ?_);(exact H.out.below (B:=w.heap.size) ah (Nat.le_refl _));rintro e w4 ⟨rfl,hb4⟩;obtain⟨g4,rfl⟩:=mob hb4;clear hb4)
     go_ret
     exact⟨by rw[E.out];rfl,by exact bel⟩
    ·have h6:¬(64:Int)<(W:Int):=by omega
     have HN:Hid (¬(64<k\/64<W)):=fun h=>h.elim h1 h5
     go_wp2_with (go_at_call 111;(with_reducible refine(WI.out _ ?_).mono ?_);(exact H.out.below (B:=w.heap.size) ah (Nat.le_refl _));rintro e w4 ⟨rfl,hb4⟩;obtain⟨g4,rfl⟩:=mob hb4;clear hb4)
     go_loopw [29] (fun i wx=>∃j:Nat,j<=k/\i= .int .i64 ((j:Int))/\Below w.heap.size w wx/\Hid (∀(j':Nat) (r:List Int),j'<j->m[j']?=some r->r.any big=false)) (fun i _=>k-(intOf i).toNat)
     case atStart=>exact⟨0,by omega,rfl,by exact bel,fun j r hj=>by omega⟩
     case round=>
      obtain⟨j,hj,rfl,hBx,HX⟩:=hrel;have hsx:w.heap.size<=wr.heap.size:=hBx.size;by_cases hjk:j<k
      ·have hjk2:(j:Int)<(k:Int):=by omega
       obtain⟨l,hl⟩:∃l,m[j]?=some l:=⟨m[j]'tg,List.getElem?_eq_getElem _⟩;rcases H4.out with h0|⟨a0,ha,hal,hcc⟩
       ·rw[h0]at hl;simp at hl
       obtain⟨b,c,cz,_,hz⟩:=hcc j l hl;have cz2:=iR hBx (Nat.le_refl _) cz;subst ha;have HL:=Lib.hid hl;have ANl:=Lib.hid (AN.out l (List.mem_of_getElem? hl) b c);have HZ:=Lib.hid hz;clear hcc cz hl hz;generalize hgl:l.length=p at*;clear hgl;generalize hab:l.any big=t at*;have HT:=Lib.hid hab;clear hab;cases t
       ·go_wp2_with (go_at_call 89;(with_reducible refine(ANl.out _ ?_).mono ?_);(exact HZ.out.below (B:=w.heap.size) ah (Nat.le_refl _));rintro e w4 ⟨rfl,hb4⟩;obtain⟨g4,rfl⟩:=mob hb4;clear hb4)
        go_roundw
        case rel=>
         refine⟨j+1,by omega,by go_num,by exact bel,fun j' y hj' hy=>?_⟩;by_cases e:j'=j
         ·subst e;rw[HL.out]at hy;cases hy;exact HT.out
         ·exact HX.out j' y (by omega) hy
        case measure=>simp[intOf];omega
       ·have E:Hid (R=2):=C2.out HA.out HN.out l (List.mem_of_getElem? HL.out) HT.out
        go_wp2_with (go_at_call 89;(with_reducible refine(ANl.out _ ?_).mono ?_);(exact HZ.out.below (B:=w.heap.size) ah (Nat.le_refl _));rintro e w4 ⟨rfl,hb4⟩;obtain⟨g4,rfl⟩:=mob hb4;clear hb4)
        go_ret
        exact⟨by rw[E.out];rfl,by exact bel⟩
      ·obtain rfl:j=k:=by omega
       have hjk2:¬(j:Int)<(j:Int):=by omega
       have E:Hid (R=0):=C0.out HA.out HN.out (fun j' r h1 h2=>HX.out j' r h1 h2)
       go_wp2_with fail
       go_ret
       exact⟨by rw[E.out];rfl,hBx⟩
end
section
open Go.RowKit
namespace DW
theorem ba{α:Type}{m:List α}{k:Nat}{x:α}(h:m[k]?=some x):m.take (k+1)=m.take k++[x]:=by rw[List.take_add_one,h];rfl
theorem get_some{α:Type}{m:List α}{k:Nat}(h:k<m.length):∃x,m[k]?=some x:=⟨_,List.getElem?_eq_getElem h⟩
theorem yD{m:List (List Int)}(h:0<m.length):∃l,m[0]?=some l/\l.length=wid m:=by
 cases m with
 |nil=>simp at h
 |cons l m=>exact⟨l,rfl,rfl⟩
set_option maxRecDepth 20000
set_option maxHeartbeats 1000000
theorem mV(z a b:Int):Fn Tryz.prog 26 [zI z,zI a,zI b] (.sc (.bool (decide (a<=z)&&decide (z<=b)))):=by
 refine aP Tryz.func26 aa rfl rfl rfl fun X0=>?_;simp only[aD];by_cases h:z>=a
 ·rw[show(decide (a<=z)&&decide (z<=b))=decide (z<=b) by rw[decide_eq_true h,Bool.true_and]];have hd:decide (z>=a)=true:=decide_eq_true h
  (repeat(first|refine gk fun K hK=>?_|refine zs2 ?_));refine bF ?_;(repeat(first|refine gk fun K hK=>?_|refine zs2 ?_));refine GS ?_;(repeat(first|refine gk fun K hK=>?_|refine zs2 ?_))
  exact⟨_,Sh.refl,.one (.tmp 6) _ rfl (.tmp 6 rfl)⟩
 ·rw[show(decide (a<=z)&&decide (z<=b))=false by rw[decide_eq_false h,Bool.false_and]];have hd:decide (z>=a)=false:=decide_eq_false h
  (repeat(first|refine gk fun K hK=>?_|refine zs2 ?_));refine bF ?_;(repeat(first|refine gk fun K hK=>?_|refine zs2 ?_));refine GS ?_;(repeat(first|refine gk fun K hK=>?_|refine zs2 ?_))
  exact⟨_,Sh.refl,.one (.tmp 6) _ rfl (.tmp 6 rfl)⟩
theorem xp(z:Int):Fn Tryz.prog 76 [zI z] (.sc (.bool (inb 1000000000000000 z))):=by
 have W:=mV z (-1000000000000000) 1000000000000000;refine aP Tryz.func76 aa rfl rfl rfl fun X0=>?_;simp only[aD]
 (repeat(first|refine gk fun K hK=>?_|refine zs2 ?_));refine bF ?_;(repeat(first|refine gk fun K hK=>?_|refine zs2 ?_));(refine gar ?_;refine zs4 ?_;refine zs91 ?_;refine zs6 ?_;refine af ?_);(repeat(first|refine gk fun K hK=>?_|refine zs2 ?_))
 exact⟨_,Sh.refl,.one (.tmp 2) _ rfl (.tmp 2 rfl)⟩
theorem va(m:List (List Int)):Fn Tryz.prog 24 [dM m] (zI (wid m)):=by
 refine aP Tryz.func24 aa rfl rfl rfl fun X0=>?_;simp only[aD];by_cases h:m.length=0
 ·obtain rfl:=List.eq_nil_of_length_eq_zero h
  (repeat(first|refine gk fun K hK=>?_|refine zs2 ?_));refine aH ?_;(repeat(first|refine gk fun K hK=>?_|refine zs2 ?_));refine Ar ?_;(repeat(first|refine gk fun K hK=>?_|refine zs2 ?_))
  refine av ?_
  (repeat(first|refine gk fun K hK=>?_|refine zs2 ?_));refine aH ?_;(repeat(first|refine gk fun K hK=>?_|refine zs2 ?_))
  exact⟨_,Sh.refl,.one (.tmp 2) _ rfl (.tmp 2 rfl)⟩
 ·obtain⟨l,hl,hw⟩:=yD (m:=m) (by omega);have hc:(0:Int)=((0:Nat):Int):=rfl
  (repeat(first|refine gk fun K hK=>?_|refine zs2 ?_));refine aH ?_;(repeat(first|refine gk fun K hK=>?_|refine zs2 ?_));refine Ar ?_;(repeat(first|refine gk fun K hK=>?_|refine zs2 ?_))
  refine az ?_
  (repeat(first|refine gk fun K hK=>?_|refine zs2 ?_));(refine gar ?_;refine zs4 ?_;(refine aL1 rfl rfl rfl zb8 ?_);refine zU ?_;refine zs5 ?_;refine zs6 ?_;refine af ?_);(repeat(first|refine gk fun K hK=>?_|refine zs2 ?_))
  rw[<-hw];exact⟨_,Sh.refl,.one (.tmp 2) _ rfl (.tmp 2 rfl)⟩
theorem Cw(z:Int)(hz:Hf z):Fn Tryz.prog 110 [.nm z] (.nm (z.natAbs:Int)):=by
 have S:=oE z hz;have N:=wL z hz;have G:=Hw z hz;have s1:=pI z;obtain⟨g,hg⟩:∃g,g=sgn z:=⟨_,rfl⟩;rw[<-hg]at s1 S;refine aP Tryz.func110 aa rfl rfl rfl fun X0=>?_;simp only[aD];by_cases h:z<0
 ·have h1:=s1.2 h;rw[show(z.natAbs:Int)= -z by omega]
  (repeat(first|refine gk fun K hK=>?_|refine zs2 ?_));refine vp ?_;(repeat(first|refine gk fun K hK=>?_|refine zs2 ?_));(refine gar ?_;refine aS ?_;refine cO ?_;refine zs7 ?_;refine af ?_);(repeat(first|refine gk fun K hK=>?_|refine zs2 ?_))
  refine av ?_
  (repeat(first|refine gk fun K hK=>?_|refine zs2 ?_));(refine gar ?_;refine aS ?_;refine cO ?_;refine dC ?_;refine af ?_);(repeat(first|refine gk fun K hK=>?_|refine zs2 ?_))
  exact⟨_,aF (k:=2) aZ bB bA,.one (.cell 2 62) _ rfl (.cell 2 _ _ rfl rfl aa aa)⟩
 ·have h1:¬g<0:=fun e=>h (s1.1 e);rw[show(z.natAbs:Int)=z by omega]
  (repeat(first|refine gk fun K hK=>?_|refine zs2 ?_));refine vp ?_;(repeat(first|refine gk fun K hK=>?_|refine zs2 ?_));(refine gar ?_;refine aS ?_;refine cO ?_;refine zs7 ?_;refine af ?_);(repeat(first|refine gk fun K hK=>?_|refine zs2 ?_))
  refine az ?_
  (repeat(first|refine gk fun K hK=>?_|refine zs2 ?_));(refine gar ?_;refine aS ?_;refine cO ?_;refine dC ?_;refine af ?_);(repeat(first|refine gk fun K hK=>?_|refine zs2 ?_))
  exact⟨_,aF (k:=2) aZ bB bA,.one (.cell 2 62) _ rfl (.cell 2 _ _ rfl rfl aa aa)⟩
theorem xO{q:Int}{a b:List Int}{k:Nat}{x y:Int}(ha:a[k]?=some x)(hb:b[k]?=some y):(Mx.dw q a b)[k]?=some (x+q*y):=by
 unfold Mx.dw;rw[List.getElem?_zipWith,ha,hb]
theorem Cj(row frm:List Int)(q:Int)(hl:row.length=frm.length)(hr:row.length<=1000000)(h1:∀x∈row,Hf x)(h2:∀y∈frm,Hf y/\Hf (q*y))(hq:Hf q):Fn Tryz.prog 149 [dZ row,dZ frm,.nm q] (dZ (Mx.dw (-q) row frm)):=by
 refine aP Tryz.func149 aa rfl rfl rfl fun X0=>?_;simp only[aD]
 (repeat(first|refine gk fun K hK=>?_|refine zs2 ?_));(refine gar ?_;refine gA ?_;refine zs3 ?_;refine af ?_);(repeat(first|refine gk fun K hK=>?_|refine zs2 ?_));refine bK ?_;(repeat(first|refine gk fun K hK=>?_|refine zs2 ?_));refine aH ?_;(repeat(first|refine gk fun K hK=>?_|refine zs2 ?_))
 refine ak (cn (t:=7) (k:=7) (T:=62) (wd:=2) cr rfl rfl bD) ?_
 (refine ak (ai (sl':=[(0,dZ row),(1,dZ frm),(5,.pt (.nm q)),(7,.own 7),(8,zI 0)]) (ow':=[(7,⟨62,2,[]⟩)]) an aw) ?_)
 refine aE (fun r s=>∃k,k<=row.length/\r=row.length-k/\s=⟨[(0,dZ row),(1,dZ frm),(5,.pt (.nm q)),(7,.own 7),(8,zI (k:Nat))],[(7,⟨62,2,((Mx.dw (-q) row frm).take k).map .nm⟩)]⟩) (m:=row.length) ⟨0,Nat.zero_le _,rfl,rfl⟩ fun r s hs=>?_;obtain⟨k,hk,rfl,rfl⟩:=hs;by_cases hkl:k<row.length
 ·obtain⟨x,hx⟩:=get_some hkl;obtain⟨y,hy⟩:=get_some (m:=frm) (k:=k) (by omega);have hxy:=xO (q:=-q) hx hy;rw[Int.neg_mul,<-Int.sub_eq_add_neg]at hxy;have hfx:=h1 x (List.mem_of_getElem? hx);have hfy:=h2 y (List.mem_of_getElem? hy);have M:=vA q y hq hfy.1;have S:=Hr x (q*y) hfx hfy.2
  (repeat(first|refine gk fun K hK=>?_|refine zs2 ?_));refine aK ?_;(repeat(first|refine gk fun K hK=>?_|refine zs2 ?_))
  refine av ?_
  (repeat(first|refine gk fun K hK=>?_|refine zs2 ?_));(refine zs92 ?_;refine aR ?_;refine aR ?_;refine aR ?_;refine dn ?_;refine bq ?_;refine bq ?_;refine aR ?_;refine aR ?_;refine dn ?_;refine bq ?_;refine gy ?_;refine gy ?_;refine zs93 ?_;((try refine aB ?_);(refine kU rfl rfl rfl rfl bz bz aZ ae qx aa aa zb53 bD qv ?_));refine ko ?_;refine cP ?_);(repeat(first|refine gk fun K hK=>?_|refine zs2 ?_));refine aX ?_;(repeat(first|refine gk fun K hK=>?_|refine zs2 ?_))
  simp only[nx,inB];exact⟨row.length-(k+1),_,by omega,(ai (sl':=[(0,dZ row),(1,dZ frm),(5,.pt (.nm q)),(7,.own 7),(8,zI ((k+1:Nat):Int))]) (ow':=[(7,⟨62,2,((Mx.dw (-q) row frm).take k).map .nm++[.nm (x-q*y)]⟩)]) an aw),k+1,by omega,rfl,by rw[ba hxy,List.map_append];rfl⟩
 ·obtain rfl:k=row.length:=by omega
  have hal:=Mx.ij (-q) row frm hl;rw[List.take_of_length_le (by omega)]
  (repeat(first|refine gk fun K hK=>?_|refine zs2 ?_));refine aK ?_;(repeat(first|refine gk fun K hK=>?_|refine zs2 ?_))
  refine az ?_
  (repeat(first|refine gk fun K hK=>?_|refine zs2 ?_))
  refine ak (aF (k:=7) aZ bB bA) ?_;refine fC ?_
  (repeat(first|refine gk fun K hK=>?_|refine zs2 ?_))
  exact⟨_,Sh.refl,.one (.tmp 6) _ rfl (.tmp 6 rfl)⟩
end DW
end
section
open Go.RowKit
namespace DW
theorem BI{m:List (List Int)}(h:∀(j:Nat) (r:List Int),j<m.length->m[j]?=some r->r.length=wid m)(h2:64<m.length\/64<wid m):chk m=8:=by
 unfold chk;rw[if_pos (pZ h),if_pos h2]
theorem chk2{m:List (List Int)}(h:∀(j:Nat) (r:List Int),j<m.length->m[j]?=some r->r.length=wid m)(h2:¬(64<m.length\/64<wid m)){r:List Int}{z:Int}(hr:r∈m)(hz:z∈r)(hb:inb 1000000000000000 z=false):chk m=2:=by
 unfold chk;rw[if_pos (pZ h),if_neg h2,if_pos];rw[List.any_eq_true];refine⟨r,hr,?_⟩;rw[List.any_eq_true];exact⟨z,hz,by unfold big;rw[hb];rfl⟩
theorem chk0{m:List (List Int)}(h:∀(j:Nat) (r:List Int),j<m.length->m[j]?=some r->r.length=wid m)(h2:¬(64<m.length\/64<wid m))(h3:∀r∈m,∀z∈r,inb 1000000000000000 z=true):chk m=0:=by
 unfold chk;rw[if_pos (pZ h),if_neg h2,if_neg];intro h4;rw[List.any_eq_true]at h4;obtain⟨r,hr,h5⟩:=h4;rw[List.any_eq_true]at h5;obtain⟨z,hz,h6⟩:=h5;unfold big at h6;rw[h3 r hr z hz]at h6;cases h6
set_option maxRecDepth 20000
set_option maxHeartbeats 1000000
theorem JR(m:List (List Int))(hm:m.length<=1000000000):Fn Tryz.prog 17 [dM m] (zI (chk m)):=by
 refine aP Tryz.func17 aa rfl rfl rfl fun X0=>?_;simp only[aD];have hc0:(0:Int)=((0:Nat):Int):=rfl;have COLS:=va m
 (repeat(first|refine gk fun K hK=>?_|refine zs2 ?_));refine aH ?_;(repeat(first|refine gk fun K hK=>?_|refine zs2 ?_));refine aH ?_;(repeat(first|refine gk fun K hK=>?_|refine zs2 ?_))
 (refine ak (ai (sl':=[(0,dM m),(3,zI 0)]) (ow':=[]) an aw) ?_)
 refine aE (fun r s=>∃k,k<=m.length/\r=m.length-k/\(∀(j:Nat) (r:List Int),j<k->m[j]?=some r->r.length=wid m)/\s=⟨[(0,dM m),(3,zI (k:Nat))],[]⟩) (m:=m.length) ⟨0,Nat.zero_le _,rfl,fun j r h=>absurd h (Nat.not_lt_zero j),rfl⟩ fun r s hs=>?_;obtain⟨k,hk,rfl,hall,rfl⟩:=hs;by_cases hkl:k<m.length
 ·obtain⟨l0,hl0,hw⟩:=yD (m:=m) (by omega);obtain⟨l,hl⟩:=get_some hkl;by_cases hlw:l.length=wid m
  ·have hn:l.length=l0.length:=by omega
   (repeat(first|refine gk fun K hK=>?_|refine zs2 ?_));refine aK ?_;(repeat(first|refine gk fun K hK=>?_|refine zs2 ?_))
   refine av ?_
   (repeat(first|refine gk fun K hK=>?_|refine zs2 ?_));refine GR ?_;(repeat(first|refine gk fun K hK=>?_|refine zs2 ?_))
   refine az ?_
   (repeat(first|refine gk fun K hK=>?_|refine zs2 ?_));refine aX ?_;(repeat(first|refine gk fun K hK=>?_|refine zs2 ?_))
   simp only[nx,inB];exact⟨m.length-(k+1),_,by omega,(ai (sl':=[(0,dM m),(3,zI ((k+1:Nat):Int))]) (ow':=[]) an aw),k+1,by omega,rfl,fun j r hj hr=>by
    by_cases h:j=k
    ·subst h;rw[hl]at hr;cases hr;exact hlw
    ·exact hall j r (by omega) hr,rfl⟩
  ·have hn:l.length≠l0.length:=by omega
   have EC:=chk9 (List.mem_of_getElem? hl) hlw
   (repeat(first|refine gk fun K hK=>?_|refine zs2 ?_));refine aK ?_;(repeat(first|refine gk fun K hK=>?_|refine zs2 ?_))
   refine av ?_
   (repeat(first|refine gk fun K hK=>?_|refine zs2 ?_));refine GR ?_;(repeat(first|refine gk fun K hK=>?_|refine zs2 ?_))
   refine av ?_
   (repeat(first|refine gk fun K hK=>?_|refine zs2 ?_));refine aH ?_;(repeat(first|refine gk fun K hK=>?_|refine zs2 ?_))
   rw[EC];exact⟨_,Sh.refl,.one (.tmp 2) _ rfl (.tmp 2 rfl)⟩
 ·obtain rfl:k=m.length:=by omega
  obtain⟨W,hW⟩:∃W,W=wid m:=⟨_,rfl⟩;rw[<-hW]at COLS;by_cases h64:64<m.length
  ·have EC:=BI hall (.inl h64);have hd:decide ((m.length:Int)>64)=true:=decide_eq_true (by omega)
   (repeat(first|refine gk fun K hK=>?_|refine zs2 ?_));refine aK ?_;(repeat(first|refine gk fun K hK=>?_|refine zs2 ?_))
   refine az ?_
   (repeat(first|refine gk fun K hK=>?_|refine zs2 ?_));refine Aj ?_;(repeat(first|refine gk fun K hK=>?_|refine zs2 ?_))
   refine av ?_
   (repeat(first|refine gk fun K hK=>?_|refine zs2 ?_));refine aH ?_;(repeat(first|refine gk fun K hK=>?_|refine zs2 ?_))
   rw[EC];exact⟨_,Sh.refl,.one (.tmp 2) _ rfl (.tmp 2 rfl)⟩
  ·have hd:decide ((m.length:Int)>64)=false:=decide_eq_false (by omega);by_cases hw64:64<W
   ·have EC:=BI hall (.inr (by omega))
    (repeat(first|refine gk fun K hK=>?_|refine zs2 ?_));refine aK ?_;(repeat(first|refine gk fun K hK=>?_|refine zs2 ?_))
    refine az ?_
    (repeat(first|refine gk fun K hK=>?_|refine zs2 ?_));refine Aj ?_;(repeat(first|refine gk fun K hK=>?_|refine zs2 ?_))
    refine av ?_
    (repeat(first|refine gk fun K hK=>?_|refine zs2 ?_));refine aH ?_;(repeat(first|refine gk fun K hK=>?_|refine zs2 ?_))
    rw[EC];exact⟨_,Sh.refl,.one (.tmp 2) _ rfl (.tmp 2 rfl)⟩
   ·have hno:¬(64<m.length\/64<wid m):=by omega
    (repeat(first|refine gk fun K hK=>?_|refine zs2 ?_));refine aK ?_;(repeat(first|refine gk fun K hK=>?_|refine zs2 ?_))
    refine az ?_
    (repeat(first|refine gk fun K hK=>?_|refine zs2 ?_));refine Aj ?_;(repeat(first|refine gk fun K hK=>?_|refine zs2 ?_))
    refine az ?_
    (repeat(first|refine gk fun K hK=>?_|refine zs2 ?_));refine aH ?_;(repeat(first|refine gk fun K hK=>?_|refine zs2 ?_))
    (refine ak (ai (sl':=[(0,dM m),(4,zI 0)]) (ow':=[]) an aw) ?_)
    refine aE (fun r s=>∃k,k<=m.length/\r=m.length-k/\(∀l∈m.take k,∀z∈l,inb 1000000000000000 z=true)/\s=⟨[(0,dM m),(4,zI (k:Nat))],[]⟩) (m:=m.length) ⟨0,Nat.zero_le _,rfl,fun l h=>absurd h (by simp),rfl⟩ fun r s hs=>?_;obtain⟨k,hk,rfl,hin,rfl⟩:=hs;by_cases hkl:k<m.length
    ·obtain⟨l,hl⟩:=get_some hkl;have hlw:l.length=wid m:=hall k l hkl hl
     (repeat(first|refine gk fun K hK=>?_|refine zs2 ?_));refine aK ?_;(repeat(first|refine gk fun K hK=>?_|refine zs2 ?_))
     refine av ?_
     (repeat(first|refine gk fun K hK=>?_|refine zs2 ?_));refine aH ?_;(repeat(first|refine gk fun K hK=>?_|refine zs2 ?_))
     (refine ak (ai (sl':=[(0,dM m),(4,zI (k:Nat)),(5,zI 0)]) (ow':=[]) an aw) ?_)
     refine aE (fun r s=>∃j,j<=l.length/\r=l.length-j/\(∀z∈l.take j,inb 1000000000000000 z=true)/\s=⟨[(0,dM m),(4,zI (k:Nat)),(5,zI (j:Nat))],[]⟩) (m:=l.length) ⟨0,Nat.zero_le _,rfl,fun z h=>absurd h (by simp),rfl⟩ fun r s hs=>?_;obtain⟨j,hj,rfl,hin2,rfl⟩:=hs;by_cases hjl:j<l.length
     ·obtain⟨z,hz⟩:=get_some hjl;have FITS:=xp z;by_cases hf:inb 1000000000000000 z=true
      ·rw[hf]at FITS
       (repeat(first|refine gk fun K hK=>?_|refine zs2 ?_));refine gO ?_;(repeat(first|refine gk fun K hK=>?_|refine zs2 ?_))
       refine av ?_
       (repeat(first|refine gk fun K hK=>?_|refine zs2 ?_));refine GQ ?_;(repeat(first|refine gk fun K hK=>?_|refine zs2 ?_))
       refine az ?_
       (repeat(first|refine gk fun K hK=>?_|refine zs2 ?_));refine aX ?_;(repeat(first|refine gk fun K hK=>?_|refine zs2 ?_))
       simp only[nx,inB];exact⟨l.length-(j+1),_,by omega,(ai (sl':=[(0,dM m),(4,zI (k:Nat)),(5,zI ((j+1:Nat):Int))]) (ow':=[]) an aw),j+1,by omega,rfl,fun y hy=>by
        rw[ba hz]at hy;rcases List.mem_append.1 hy with h|h
        ·exact hin2 y h
        ·rw[List.mem_singleton.1 h];exact hf,rfl⟩
      ·have hf':inb 1000000000000000 z=false:=by simpa using hf
       rw[hf']at FITS;have EC:=chk2 hall hno (List.mem_of_getElem? hl) (List.mem_of_getElem? hz) hf'
       (repeat(first|refine gk fun K hK=>?_|refine zs2 ?_));refine gO ?_;(repeat(first|refine gk fun K hK=>?_|refine zs2 ?_))
       refine av ?_
       (repeat(first|refine gk fun K hK=>?_|refine zs2 ?_));refine GQ ?_;(repeat(first|refine gk fun K hK=>?_|refine zs2 ?_))
       refine av ?_
       (repeat(first|refine gk fun K hK=>?_|refine zs2 ?_));refine aH ?_;(repeat(first|refine gk fun K hK=>?_|refine zs2 ?_))
       rw[EC];exact⟨_,Sh.refl,.one (.tmp 2) _ rfl (.tmp 2 rfl)⟩
     ·obtain rfl:j=l.length:=by omega
      rw[List.take_length]at hin2
      (repeat(first|refine gk fun K hK=>?_|refine zs2 ?_));refine gO ?_;(repeat(first|refine gk fun K hK=>?_|refine zs2 ?_))
      refine az ?_
      (repeat(first|refine gk fun K hK=>?_|refine zs2 ?_));refine aX ?_;(repeat(first|refine gk fun K hK=>?_|refine zs2 ?_))
      simp only[nx,inB];exact⟨m.length-(k+1),_,by omega,(ai (sl':=[(0,dM m),(4,zI ((k+1:Nat):Int))]) (ow':=[]) an aw),k+1,by omega,rfl,fun y hy=>by
       rw[ba hl]at hy;rcases List.mem_append.1 hy with h|h
       ·exact hin y h
       ·rw[List.mem_singleton.1 h];exact hin2,rfl⟩
    ·obtain rfl:k=m.length:=by omega
     rw[List.take_length]at hin;have EC:=chk0 hall hno hin
     (repeat(first|refine gk fun K hK=>?_|refine zs2 ?_));refine aK ?_;(repeat(first|refine gk fun K hK=>?_|refine zs2 ?_))
     refine az ?_
     (repeat(first|refine gk fun K hK=>?_|refine zs2 ?_));refine aH ?_;(repeat(first|refine gk fun K hK=>?_|refine zs2 ?_))
     rw[EC];exact⟨_,Sh.refl,.one (.tmp 2) _ rfl (.tmp 2 rfl)⟩
end DW
end
end Go.Proofs.YtcgjmdpcplhanaaGreat
