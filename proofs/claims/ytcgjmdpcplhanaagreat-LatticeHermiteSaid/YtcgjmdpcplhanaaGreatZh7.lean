/- Lemmas for the law: V11 V12 V13 V16 V17 V18 V19 E11 E12 -/
import Derived.Shelf.Abstract
import Derived.Test.YtcgjmdpcplhanaaGreatZh6
namespace Go.Proofs.YtcgjmdpcplhanaaGreat
section
theorem zP{p q:Prop}(h:q)(f:Wq q->p:=by(intro hW;((refine gar ?_;refine br ?_;refine cZ ?_;refine iy ?_;refine af ?_));exact hW.out)):p:=f ⟨h⟩
theorem zb7{p:Prop}(h:p:=by(first|(apply iS;(exact rfl);(focus((apply an;(conv=>lhs;whnf);(first|done|exact rfl))));(exact bu);(kernel_rfl);(kernel_rfl);(omega);(focus((first|(apply wI;(focus assumption);(focus assumption))|(apply get_map;assumption)|(apply get_own;assumption)))))|(apply fF;(exact rfl);(focus((apply an;(conv=>lhs;whnf);(first|done|exact rfl))));(exact bu);(focus((repeat(first|exact List.mem_cons_self|refine List.mem_cons_of_mem _ ?_))));(kernel_rfl);(kernel_rfl);(focus(first|omega|(simp;omega)));(focus(first|(apply ep;assumption)|exact rfl))))):p:=h
theorem zs94{p q:Prop}(h:q)(f:Wq q->p:=by(intro hW;((first|refine cE rfl rfl rfl aa zb7 aa aa ?_|((try refine aB ?_);refine aL1 rfl rfl rfl zb7 ?_)));exact hW.out)):p:=f ⟨h⟩
theorem vA{p q:Prop}(h:q)(f:Wq q->p:=by(intro hW;((first|refine cE rfl rfl rfl aa zb2 aa aa ?_|((try refine aB ?_);refine aL1 rfl rfl rfl zb2 ?_)));exact hW.out)):p:=f ⟨h⟩
theorem Gk{p q:Prop}(h:q)(f:Wq q->p:=by(intro hW;((refine zy ?_;refine aQ ?_;refine aQ ?_;refine vC ?_;refine sX ?_;refine vA ?_;refine aQ ?_;refine zs94 ?_;refine sX ?_;refine vA ?_;refine vB ?_;refine di ?_));exact hW.out)):p:=f ⟨h⟩
theorem iA{p q:Prop}(h:q)(f:Wq q->p:=by(intro hW;((refine gar ?_;refine zs4 ?_;refine zs4 ?_;refine zs4 ?_;refine dh ?_;refine br ?_;refine zs5 ?_;refine lU ?_;refine af ?_));exact hW.out)):p:=f ⟨h⟩
theorem vy{p q:Prop}(h:q)(f:Wq q->p:=by(intro hW;((first|(refine aLs rfl rfl rfl rfl ?_ ?_;(focus(apply aY;(conv=>lhs;whnf);(first|done|exact rfl|(apply aK;(first|(apply decide_eq_true;omega)|(apply decide_eq_false;omega)|assumption|(simp;done)))))))|refine aLw rfl rfl rfl rfl bK og ?_));exact hW.out)):p:=f ⟨h⟩
theorem zO{p q:Prop}(h:q)(f:Wq q->p:=by(intro hW;((refine gar ?_;refine zs4 ?_;refine zs5 ?_;refine zs7 ?_;refine zs4 ?_;refine zs8 ?_;refine vy ?_;refine mU ?_;refine iu ?_;refine af ?_));exact hW.out)):p:=f ⟨h⟩
theorem vL{p:Prop}(h:p:=by simp[results,Tryz.results120,go_sem]):p:=h
theorem zs92{p q:Prop}(h:q)(f:Wq q->p:=by(intro hW;((first|(apply ai 13;(focus kernel_rfl);(decide+kernel))|(apply ai 12;(focus kernel_rfl);(decide+kernel))|(apply ai 11;(focus kernel_rfl);(decide+kernel))|(apply ai 10;(focus kernel_rfl);(decide+kernel))|(apply ai 9;(focus kernel_rfl);(decide+kernel))|(apply ai 8;(focus kernel_rfl);(decide+kernel))|(apply ai 7;(focus kernel_rfl);(decide+kernel))|(apply ai 6;(focus kernel_rfl);(decide+kernel)));simp only[List.take_succ_cons,List.take_zero,List.drop_succ_cons,List.drop_zero]);exact hW.out)):p:=f ⟨h⟩
theorem Gl{p q:Prop}(h:q)(f:Wq q->p:=by(intro hW;((refine gar ?_;refine zs4 ?_;refine zs4 ?_;refine lU ?_;refine zs4 ?_;refine zs8 ?_;refine zs8 ?_;refine zs62 ?_;refine iC ?_;refine zs6 ?_;refine af ?_));exact hW.out)):p:=f ⟨h⟩
theorem zb54{p:Prop}(h:p:=by(simp only[List.length_map,List.length_take,List.length_cons,List.length_nil];omega)):p:=h
theorem zb60{p:Prop}(h:p:=by rw[List.length_append,List.length_take,List.length_replicate,hlen'];omega):p:=h
theorem Ah{p:Prop}(h:p:=by simp[results,Tryz.results74,go_sem]):p:=h
theorem zs91{p q:Prop}(h:q)(f:Wq q->p:=by(intro hW;(refine aL1 rfl rfl rfl zb7 ?_);exact hW.out)):p:=f ⟨h⟩
theorem zb29{p:Prop}(h:p:=by(apply uc;(exact rfl);(focus((apply an;(conv=>lhs;whnf);(first|done|exact rfl))));(exact bu);(exact bu);(exact rfl);(exact rfl);(exact rfl);(assumption);(exact rfl))):p:=h
theorem zs90{p q:Prop}(h:q)(f:Wq q->p:=by(intro hW;(refine aL1 rfl rfl rfl zb29 ?_);exact hW.out)):p:=f ⟨h⟩
theorem qm{p q:Prop}(h:q)(f:Wq q->p:=by(intro hW;(refine aL1 rfl rfl rfl Ak ?_);exact hW.out)):p:=f ⟨h⟩
theorem Gj{p q:Prop}(h:q)(f:Wq q->p:=by(intro hW;((refine gar ?_;refine zs4 ?_;refine zs4 ?_;refine dh ?_;refine br ?_;refine zs4 ?_;refine dh ?_;refine br ?_;refine cZ ?_;refine qm ?_;refine af ?_));exact hW.out)):p:=f ⟨h⟩
end
section
open Go.RowKit Go.BigFrame
attribute [local go_sem ↓] Go.wp_at_zero Go.wp_at_succ
theorem RV.chg{b:Nat}{w w':World}{v:Value}{n:Nat}{zs:List Int}(h:RV w v n zs)(k:Chg b w w')(hb:NW w b)(hne:∀g o l c,v= .slice (some ⟨g,o,none⟩) l c->g≠b):RV w' v n zs:=by
 obtain⟨a,c,rfl,h2,h3,hA,h4⟩:=h;refine⟨a,c,rfl,h2,h3,hA,?_⟩;rcases h4 with h4|⟨g,o,rfl,h5⟩
 ·exact .inl h4
 ·exact .inr ⟨g,o,rfl,h5.chg k hb (hne g o _ _ rfl)⟩
theorem MB.rv{w:World}{B gm L:Nat}{gs cs:Nat->Nat}{n:Nat}{M:Mx.Mat}(h:MB w B gm L gs cs n M)(h0:0<n){i:Nat}(hi:i<M.length):w.cell? ⟨gm,i,none⟩=some (.slice (some ⟨gs i,0,none⟩) n (cs i))/\RV w (.slice (some ⟨gs i,0,none⟩) n (cs i)) n (Mx.rw M i)/\B<=gs i/\gs i≠gm:=by
 obtain⟨b,h1,h2,_,h3⟩:=h.hc i hi;obtain⟨rfl,h4,h5,h6⟩:=h3 h0;exact⟨h1,⟨_,_,rfl,h2,h.rc.rw hi,AD.some _ _,.inr ⟨gs i,0,rfl,h6.ra⟩⟩,h4,h5⟩
def Hm(w:World)(n m:Nat)(T:Nat×Mx.Mat)(e:Ending)(w':World):Prop:=(∃vh vu,e= .returned (.tuple #[vh,vu,.int .i64 ((T.1:Int))])/\MR w' vh n (tk n T.2)/\MR w' vu m (dp n T.2))/\Below w.heap.size w w'
def hvs(gs:Nat->Nat)(n k:Nat):List Value:=(List.range k).map fun i=>.slice (some ⟨gs i,0,none⟩) n n
def uvs(gs cs:Nat->Nat)(n q k:Nat):List Value:=(List.range k).map fun i=>.slice (some ⟨gs i,n*2,none⟩) q (cs i-n)
theorem Fy(gs:Nat->Nat)(n k:Nat):hvs gs n (k+1)=hvs gs n k++[.slice (some ⟨gs k,0,none⟩) n n]:=by
 unfold hvs;rw[List.range_succ,List.map_append];rfl
theorem Ep(gs cs:Nat->Nat)(n q k:Nat):uvs gs cs n q (k+1)=uvs gs cs n q k++[.slice (some ⟨gs k,n*2,none⟩) q (cs k-n)]:=by
 unfold uvs;rw[List.range_succ,List.map_append];rfl
set_option maxRecDepth 10000 in
set_option maxHeartbeats 8000000 in
theorem rE(M:Mx.Mat)(n e:Nat)(v:Value)(h0:M≠[])(hm:n+M.length<=1000)(he:6<=e)(hf:2*(e*11^n)<=6000000000000)(hb:Mx.Bd (2^e) M)(w:World)(h:MR w v n M):
  Calls Tryz.prog 73 #[v] w (Hm w n M.length (Mx.red n 0 (0,cD M))):=by
 obtain⟨a,cap,rfl,_,hr,h4⟩:=h.row;have HM0:0<M.length:=List.length_pos_iff.2 h0;have hRE:=Mx.iG n 0 (0,cD M) (fD hr);have RC:Hid (Mx.Rc n M):=hr;have RE0:=Lib.hid (fun (B gm L cap:Nat) (gs cs:Nat->Nat) w hmo=>AK B gm L cap (n+M.length) n e gs cs (cD M) (by omega) (by omega) (by rw[fj];omega) he hf (yX hb) w hmo);have RLN:Hid ((Mx.red n 0 (0,cD M)).2.length=M.length):=hRE.len.trans (fj M);have RRC:Hid (Mx.Rc (n+M.length) (Mx.red n 0 (0,cD M)).2):=hRE.rc (fD hr);have UN:=Lib.hid (fun w=>BS M.length (by omega) w);have EL:=Lib.hid (fj M);have hmk:=oJ M.length (by omega);rw[fj]at RE0;generalize hT:Mx.red n 0 (0,cD M)=T at*;obtain⟨rk,N⟩:=T;simp only[]at RE0 RLN RRC;rcases h4 with h4|⟨gm,om,rfl,hgl,hcc⟩
 ·exact absurd h4 h0
 have HCC:Hid _:=hcc;obtain⟨b0,c0,k0,_⟩:=hcc 0 HM0;have hm1:¬(M.length:Int)=0:=by omega
 have hm2:¬M.length=0:=by omega
 generalize hml:M.length=q at*;have HQ:=Lib.hid hml;clear hml h0 hT hb hcc h hr hRE;have hq0:(0:Int)<(q:Int):=by omega
 rw[Nat.add_zero]at k0
 go_enter Tryz.func73,Tryz.ntmps73
 go_wp2_with (first|(go_at_call 143;(with_reducible refine(UN.out _).mono ?_);rintro e w4 ⟨⟨gu,gsu,csu,cu,rfl,hcu,hmb⟩,hb4⟩;rw[fO]at hcu hmb⊢;have HU:=Lib.hid hmb;have HB4:=Lib.hid hb4;clear hb4 hmb))
 have hsz0:(w.alloc (.cells (madeCells #[.slice none 0 0] q) 147)).heap.size=w.heap.size+1:=by simp
 have hMB0:MB w4 w.heap.size w.heap.size q id id (n+q) ((cD M).take 0):=(MB.made w w.heap.size q (n+q) id id (Nat.le_refl _)).below HB4.out (Nat.le_refl _);have hBw4:Below w.heap.size w w4:=Below.trans (b:=w.alloc (.cells (madeCells #[.slice none 0 0] q) 147)) ah (HB4.out.mono (by omega));have HMB0:=Lib.hid hMB0;have HBw4:=Lib.hid hBw4;have NW4:=Lib.hid hMB0.nw;have hgu:w.heap.size<gu:=by have:=HU.out.b;omega
 have hgu4:gu<w4.heap.size:=HU.out.lt;have hw4:w.heap.size<w4.heap.size:=hMB0.lt;have HUB:=Lib.hid (fun i (hi:i<q)=>HU.out.rv HM0 (i:=i) (by rw[fO];exact hi));clear hMB0 hBw4 HU HB4
 go_loopw [25] (fun i wr=>∃(k:Nat) (gs cs:Nat->Nat),k<=q/\i= .int .i64 ((k:Int))/\Hid (Below w.heap.size w wr)/\Hid (Chg w.heap.size w4 wr)/\Hid (MB wr w.heap.size w.heap.size q gs cs (n+q) ((cD M).take k)/\∀i,i<k->w.heap.size<gs i/\gs i<wr.heap.size)) (fun i _=>q-(intOf i).toNat)
 case atStart=>exact⟨0,id,id,by omega,rfl,HBw4,Chg.refl _ _,HMB0.out,fun i hi=>by omega⟩
 case round=>
  obtain⟨k,gs,cs,hk,rfl,HB,HC,HR⟩:=hrel;have hlt:w.heap.size<wr.heap.size:=HR.out.1.lt;by_cases hkn:k<q
  ·have hkn2:(k:Int)<(q:Int):=by omega
   obtain⟨b,c,cz,hza⟩:=HCC.out k hkn;have cz2:=(HB.out.cell (p:=⟨gm,om+k,none⟩) hgl).trans cz;obtain⟨e0,er,eB,_⟩:=HUB.out k hkn;have e2:=(HC.out.cell (o:=k) hgu4 (by omega)).trans e0;have hr2:=er.chg HC.out NW4.out (fun g o l c he=>by cases he;omega);obtain⟨u,hu⟩:=HR.out.1.hl k hkn;have hfr:=HR.out.1.fr k;have HZ1:=Lib.hid (hza.below HB.out (Nat.le_refl _));have HZ2:=Lib.hid hr2;have hgm2:gm<wr.heap.size:=Nat.lt_of_lt_of_le hgl HB.out.size;have hgu2:gu<wr.heap.size:=Nat.lt_of_lt_of_le hgu4 HC.out.size;have EG:=Lib.hid (kX (M:=M) (k:=k) (by rw[HQ.out];exact hkn));rw[HQ.out]at EG;rw[Ay hkn]at HZ2;clear hza cz e0 er hr2
   go_wp2_with (first|(go_at_call 144;(with_reducible refine(yh wr.heap.size n q _ _ (Mx.rw M k) (cO q k) (by omega) (by omega) (by omega) _ (by go_simp) (by go_simp) (HZ1.out.below (B:=wr.heap.size) ah (Nat.le_refl _)) (HZ2.out.below (B:=wr.heap.size) ah (Nat.le_refl _))).mono ?_);rintro e w5 ⟨⟨b5,g5',c5,rfl,hc5,hA5,hy⟩,hb5⟩;have HY:=Lib.hid (And.intro hc5 (And.intro hA5 hy));clear hc5 hA5 hy;have HB5:=Lib.hid hb5;obtain⟨g5,rfl⟩:=mob hb5;clear hb5))
   go_roundw
   case rel=>
    have hkl:((cD M).take k).length=k:=by rw[List.length_take,EL.out];omega
    have hbx:Below wr.heap.size wr (more (wr.alloc (.cells #[.slice b n c,.slice (some ⟨gsu k,0,none⟩) q (csu k)] 147)) g5):=by exact bel
    obtain⟨y1,y2,y3⟩:=HY.out;obtain⟨rfl,y4,y5⟩:=y3 (by omega);have hsz5:(wr.alloc (.cells #[.slice b n c,.slice (some ⟨gsu k,0,none⟩) q (csu k)] 147)).heap.size=wr.heap.size+1:=by simp
    have hp:=(HR.out.1.below hbx (Nat.le_refl _)).push (g:=g5') (c:=c5) (b:=some ⟨g5',0,none⟩) (zs:=Mx.rw M k++cO q k) (by rw[hkl];exact hkn) (by rw[List.length_append,ox,RC.out.rw (by rw[HQ.out];exact hkn)]) y1 y2 (fun _=>⟨rfl,y5,by omega,by omega,fun i hi=>by
     have h1:=(HR.out.2 i (by rw[hkl]at hi;exact hi)).2;omega⟩)
    rw[<-oy EG.out,hkl]at hp;have e5:(more (wr.alloc (.cells #[.slice b n c,.slice (some ⟨gsu k,0,none⟩) q (csu k)] 147)) g5).setCell ⟨w.heap.size,k,none⟩ (.slice (some ⟨g5',0,none⟩) (n+q) c5)=more ((wr.setCell ⟨w.heap.size,k,none⟩ (.slice (some ⟨g5',0,none⟩) (n+q) c5)).alloc (.cells #[.slice b n c,.slice (some ⟨gsu k,0,none⟩) q (csu k)] 147)) g5:=by go_simp
    have hc5:=((HC.out.alloc (.cells #[.slice b n c,.slice (some ⟨gsu k,0,none⟩) q (csu k)] 147)).mor g5).set w.heap.size k (.slice (some ⟨g5',0,none⟩) (n+q) c5) (.inl rfl);have hb5:Below w.heap.size w ((more (wr.alloc (.cells #[.slice b n c,.slice (some ⟨gsu k,0,none⟩) q (csu k)] 147)) g5).setCell ⟨w.heap.size,k,none⟩ (.slice (some ⟨g5',0,none⟩) (n+q) c5)):=(HB.out.trans (hbx.mono (Nat.le_of_lt hlt))).setCell (Nat.le_refl _) _;have hs5:g5'<(more (wr.alloc (.cells #[.slice b n c,.slice (some ⟨gsu k,0,none⟩) q (csu k)] 147)) g5).heap.size:=y5.lt;have hs6:=hbx.size;rw[e5]at hp hc5 hb5;refine⟨k+1,_,_,by omega,by go_num,hb5,hc5,hp,fun i hi=>?_⟩;have hsz:(more ((wr.setCell ⟨w.heap.size,k,none⟩ (.slice (some ⟨g5',0,none⟩) (n+q) c5)).alloc (.cells #[.slice b n c,.slice (some ⟨gsu k,0,none⟩) q (csu k)] 147)) g5).heap.size=(more (wr.alloc (.cells #[.slice b n c,.slice (some ⟨gsu k,0,none⟩) q (csu k)] 147)) g5).heap.size:=by simp
    rw[hsz];by_cases e:i=k
    ·rw[if_pos e];omega
    ·rw[if_neg e];have h1:=HR.out.2 i (by omega);omega
   case measure=>simp[intOf];omega
  ·obtain rfl:k=q:=by omega
   have hkn2:¬(k:Int)<(k:Int):=by omega
   have HMX:Hid (MB wr w.heap.size w.heap.size k gs cs (n+k) (cD M)):=by
    have h1:=HR.out.1;rw[List.take_of_length_le (by rw[EL.out];exact Nat.le_refl _)]at h1;exact h1
   clear HR HUB HMB0 HBw4 hk
   go_wp2_with (first|(go_at_call 145;(with_reducible refine(RE0.out w.heap.size w.heap.size k k gs cs _ (HMX.out.mo (by omega))).mono ?_);rintro e w5 ⟨rfl,hb5,gs5,cs5,hmo5⟩;have HM5:=Lib.hid hmo5;have HB5:=Lib.hid (HB.out.trans hb5);clear hb5 hmo5))
   have hz5:w.heap.size<w5.heap.size:=HM5.out.lt
   go_loopw [2,3,46] (fun vh vu i wx=>∃j:Nat,j<=k/\i= .int .i64 ((j:Int))/\Hid (Below w5.heap.size w5 wx)/\Hid (bV wx w5.heap.size 147 vh (hvs gs5 n j)/\bV wx w5.heap.size 147 vu (uvs gs5 cs5 n k j)/\(vu.ownBlock=none\/vu.ownBlock≠vh.ownBlock))) (fun _ _ i _=>k-(intOf i).toNat)
   case atStart=>exact⟨0,by omega,rfl,Below.refl _ _,bV.nil _ _ _,bV.nil _ _ _,.inl rfl⟩
   case round=>
    obtain⟨j,hj,rfl,HBx,HO⟩:=hrel;by_cases hjk:j<k
    ·have hjk2:(j:Int)<(k:Int):=by omega
     obtain⟨m1,m2,m3,m4,m5⟩:=HM5.out.hc j (by rw[RLN.out];exact hjk);have cz:=(HBx.out.cell (p:=⟨w.heap.size,j,none⟩) hz5).trans m1;have hs1:(n:Int)<=(cs5 j:Int):=by omega
     have hs2:(n:Int)+(k:Int)<=(cs5 j:Int):=by omega
     have hs3:(n:Int)<=(n:Int)+(k:Int):=by omega
     have hs4:¬cs5 j=n:=by omega
     have hsx:w5.heap.size<=wr.heap.size:=HBx.out.size;have hwx:w.heap.size<wr.heap.size:=by omega
     clear m1 m3 m4 m5;have hap3:u3.ownBlock=none\/u3.ownBlock≠u2.ownBlock:=HO.out.2.2;have HAP:=Lib.hid hap3;have hlh:(hvs gs5 n j).length<=1000000000:=by simp[hvs];omega
     have hlu:(uvs gs5 cs5 n k j).length<=1000000000:=by simp[uvs];omega
     have HLH:=Lib.hid hlh;have HLU:=Lib.hid hlu;clear hap3 hlh hlu
     go_upto_region 14 with fail
     go_region_law (first|(refine dY kp rfl (by decide) Tryz.underlying104 rfl (.tmp 50) (.tmp 55) rfl (v:=u2) (u:=.slice (some ⟨gs5 j,0,none⟩) n n) (ad:=⟨wr.heap.size,0,none⟩) (c:=1) (l:=hvs gs5 n j) (base:=w5.heap.size) rfl rfl ?_ HLH.out ?_ ?_ rfl ?_;(exact HO.out.1.low ah);(focus(first|omega|(simp;omega)));(focus(go_simp));intro v6 w6 hg6;have T6:=Lib.hid (jF ah hg6 HBx.out hsx HO.out.1 HO.out.2.1 HAP.out);clear hg6)|(refine dY kp rfl (by decide) Tryz.underlying104 rfl (.tmp 50) (.tmp 55) rfl (v:=u2) (u:=.slice (some ⟨gs5 j,0,none⟩) n n) (ad:=⟨wr.heap.size+1,0,none⟩) (c:=1) (l:=hvs gs5 n j) (base:=w5.heap.size) rfl rfl ?_ HLH.out ?_ ?_ rfl ?_;(exact HO.out.1.low ah);(focus(first|omega|(simp;omega)));(focus(go_simp));intro v6 w6 hg6;have T6:=Lib.hid (jF ah hg6 HBx.out hsx HO.out.1 HO.out.2.1 HAP.out);clear hg6)|(refine dY kp rfl (by decide) Tryz.underlying104 rfl (.tmp 57) (.tmp 61) rfl (v:=u3) (u:=.slice (some ⟨gs5 j,n*2,none⟩) k (cs5 j-n)) (ad:=⟨wr.heap.size,0,none⟩) (c:=1) (l:=uvs gs5 cs5 n k j) (base:=w5.heap.size) rfl rfl ?_ HLU.out ?_ ?_ rfl ?_;(exact T6.out.1.b.low ah);(focus(first|exact Nat.le_trans hsx T6.out.1.sz|(have h8:=Nat.le_trans hsx T6.out.1.sz;simp;omega)));(focus(first|(go_simp;done)|(rw[T6.out.2 _ _ mY mY];go_simp)));intro v7 w7 hg7;have T7:=Lib.hid (jF ah hg7 T6.out.1.bl (Nat.le_trans hsx T6.out.1.sz) T6.out.1.b T6.out.1.a T6.out.1.symm.ap);clear hg7)|(refine dY kp rfl (by decide) Tryz.underlying104 rfl (.tmp 57) (.tmp 61) rfl (v:=u3) (u:=.slice (some ⟨gs5 j,n*2,none⟩) k (cs5 j-n)) (ad:=⟨wr.heap.size+1,0,none⟩) (c:=1) (l:=uvs gs5 cs5 n k j) (base:=w5.heap.size) rfl rfl ?_ HLU.out ?_ ?_ rfl ?_;(exact T6.out.1.b.low ah);(focus(first|exact Nat.le_trans hsx T6.out.1.sz|(have h8:=Nat.le_trans hsx T6.out.1.sz;simp;omega)));(focus(first|(go_simp;done)|(rw[T6.out.2 _ _ mY mY];go_simp)));intro v7 w7 hg7;have T7:=Lib.hid (jF ah hg7 T6.out.1.bl (Nat.le_trans hsx T6.out.1.sz) T6.out.1.b T6.out.1.a T6.out.1.symm.ap);clear hg7)|(refine dY kp rfl (by decide) Tryz.underlying104 rfl (.tmp 57) (.tmp 61) rfl (v:=u3) (u:=.slice (some ⟨gs5 j,n*2,none⟩) k (cs5 j-n)) (ad:=⟨w6.heap.size,0,none⟩) (c:=1) (l:=uvs gs5 cs5 n k j) (base:=w5.heap.size) rfl rfl ?_ HLU.out ?_ ?_ rfl ?_;(exact T6.out.1.b.low ah);(focus(first|exact Nat.le_trans hsx T6.out.1.sz|(have h8:=Nat.le_trans hsx T6.out.1.sz;simp;omega)));(focus(first|(go_simp;done)|(rw[T6.out.2 _ _ mY mY];go_simp)));intro v7 w7 hg7;have T7:=Lib.hid (jF ah hg7 T6.out.1.bl (Nat.le_trans hsx T6.out.1.sz) T6.out.1.b T6.out.1.a T6.out.1.symm.ap);clear hg7))
     all_goals(go_wp2_with fail)
     all_goals go_roundw
     all_goals(first|(refine⟨j+1,by omega,by go_num,T7.out.1.bl,?_,?_,T7.out.1.symm.ap⟩;(focus(rw[Fy];exact T7.out.1.b));(focus(rw[Ep];exact T7.out.1.a)))|(simp[intOf];omega))
    ·obtain rfl:j=k:=by omega
     have hjk2:¬(j:Int)<(j:Int):=by omega
     have hsx:w5.heap.size<=wr.heap.size:=HBx.out.size;have hmo:=HM5.out.below HBx.out (Nat.le_refl _);have hrt:Mx.Rc n (tk n N):=fun r hr=>by
      obtain⟨x,hx,rfl⟩:=List.mem_map.1 hr;rw[List.length_take,RRC.out x hx];omega
     have hrd:Mx.Rc j (dp n N):=fun r hr=>by
      obtain⟨x,hx,rfl⟩:=List.mem_map.1 hr;rw[List.length_drop,RRC.out x hx];omega
     have H1:Hid (MR wr u2 n (tk n N)):=HO.out.1.mr (by simp[hvs,tk,RLN.out]) hrt (fun i hi=>by
      have hi2:i<j:=by simpa[tk,RLN.out]using hi
      obtain⟨m1,m2,m3,m4,m5⟩:=hmo.hc i (by rw[RLN.out];exact hi2);refine⟨_,by unfold hvs;rw[List.getElem?_map,List.getElem?_range hi2];rfl,_,_,rfl,Nat.le_refl _,hrt.rw (by simpa[tk]using hi),AD.some _ _,.inr ⟨gs5 i,0,rfl,?_⟩⟩;rw[nh];exact m5.ra.take n)
     have H2:Hid (MR wr u3 j (dp n N)):=HO.out.2.1.mr (by simp[uvs,dp,RLN.out]) hrd (fun i hi=>by
      have hi2:i<j:=by simpa[dp,RLN.out]using hi
      obtain⟨m1,m2,m3,m4,m5⟩:=hmo.hc i (by rw[RLN.out];exact hi2);refine⟨_,by unfold uvs;rw[List.getElem?_map,List.getElem?_range hi2];rfl,_,_,rfl,by omega,hrd.rw (by simpa[dp]using hi),AD.some _ _,.inr ⟨gs5 i,n*2,rfl,?_⟩⟩;rw[G6];have:=m5.ra.drop n;rwa[Nat.zero_add]at this)
     clear hmo hrt hrd
     go_wp2_with fail
     refine bodyPost_ret (v:=.tuple #[u2,u3,.int .i64 ((rk:Int))]) (by simp[results,Tryz.results73,go_sem]) rfl ?_;exact⟨⟨u2,u3,rfl,H1.out,H2.out⟩,HB5.out.trans (HBx.out.mono (Nat.le_of_lt hz5))⟩
end
section
open Go.RowKit Go.BigFrame
attribute [local go_sem ↓] Go.wp_at_zero Go.wp_at_succ
instance decI64 (z:Int):Decidable (I64 z):=by unfold I64;exact inferInstance
def smv(z:Int):Int:=if I64 z then z else 0
theorem JY(a b:Nat)(h:b<4294967296):(a*4294967296)|||b=a*4294967296+b:=by
 have:=Nat.two_pow_add_eq_or_of_lt (i:=32) (b:=b) h a;rw[show(2:Nat)^32=4294967296 from rfl,Nat.mul_comm]at this;exact this.symm
theorem JG{l:List Nat}(h:l.length<=2):Dg.vl B32 l=l.getD 1 0*4294967296+l.getD 0 0:=by
 match l with
 |[]=>rfl
 |[x]=>simp[Dg.vl]
 |[x,y]=>simp[Dg.vl,B32,Nat.add_comm,Nat.mul_comm]
 |x::y::z::l=>simp at h
theorem rL{z:Int}(h:I64 z):smv z=z:=if_pos h
theorem pD{z:Int}(h:¬I64 z):smv z=0:=if_neg h
theorem sG{z:Int}(h:I64 z):decide (I64 z)=true:=by rw[decide_eq_true_iff];exact h
theorem pW{z:Int}(h:¬I64 z):decide (I64 z)=false:=by rw[decide_eq_false_iff_not];exact h
def Ky(w:World)(z:Int)(e:Ending)(w':World):Prop:=e= .returned (.tuple #[.int .i64 (smv z),.bool (decide (I64 z))])/\Below w.heap.size w w'
set_option maxRecDepth 10000 in
set_option maxHeartbeats 8000000 in
theorem uA(x:IV)(z:Int)(fz:Fit z)(w:World)(hx:IP w x z):
  Calls Tryz.prog 120 #[.agg #[.bool x.s,.slice x.a x.n x.cap]] w (Ky w z):=by
 obtain⟨l,h1,rfl⟩:=hx;have bl:=dC h1.nf fz;have S1:=Lib.hid (fun w (h:IW w x l)=>dE x l (by omega) w h);have AT:=Lib.hid (fun i (hi:i<=10) w h=>oY l x.a l.length i (by omega) (by omega) h1.nf.dg w h);have H1:=Lib.hid h1;by_cases hl:l.length<=2
 ·have hv:=JG hl;have d0:l.getD 0 0<4294967296:=Dg.aR h1.nf.dg (by decide) 0;have d1:l.getD 1 0<4294967296:=Dg.aR h1.nf.dg (by decide) 1;have A0:Hid (∀w,WS w x.a l->Calls Tryz.prog 166 #[.slice x.a l.length l.length,.int .i64 0] w fun e w'=>e= .returned (.int .u64 ((l.getD 0 0:Nat):Int))/\w'=w):=AT.out 0 (by omega);have A1:Hid (∀w,WS w x.a l->Calls Tryz.prog 166 #[.slice x.a l.length l.length,.int .i64 1] w fun e w'=>e= .returned (.int .u64 ((l.getD 1 0:Nat):Int))/\w'=w):=AT.out 1 (by omega);have HLL:=Lib.hid hl;obtain⟨s,a,n,cap⟩:=x;simp only[]at S1 A0 A1⊢;generalize l.getD 0 0=x0 at*;generalize l.getD 1 0=x1 at*;rw[hv];generalize hN:x1*4294967296+x0=N;obtain⟨sh,hsh⟩:∃sh,sh=x1*4294967296:=⟨_,rfl⟩;have e1:IntKind.u64.wrap ((x1:Int)*4294967296)=(sh:Int):=by rw[cK,hsh];omega
  have e2:bits .or .u64 (sh:Int) (x0:Int)=(N:Int):=by rw[u64_or_nat sh x0 (by omega) (by omega),hsh,JY x1 x0 d0,hN]
  have hl3:¬(2:Int)<(l.length:Int):=by omega
  have hl4:decide ((2:Int)<(l.length:Int))=false:=by rw[decide_eq_false_iff_not];exact hl3
  have hN2:(N:Int)<18446744073709551616:=by omega
  have hlI:(l.length:Int)<=2:=by omega
  generalize hL:l.length=q at*;clear h1 hv bl d0 d1 AT hsh hN;cases s
  ·have hz:Dg.iv false N=(N:Int):=by simp[Dg.iv]
   by_cases hs:N<9223372036854775808
   ·have t1:(N:Int)<9223372036854775808:=by omega
    have t2:decide ((N:Int)<9223372036854775808)=true:=by rw[decide_eq_true_iff];exact t1
    have HI:Hid (I64 (Dg.iv false N)):=by show I64 _;rw[hz];unfold I64;omega
    have HZ:=Lib.hid hz;clear hs hz
    go_enter Tryz.func120,Tryz.ntmps120
    go_wp2_with (first|(go_at_call 163;(with_reducible refine(S1.out _ ?_).mono ?_);(exact H1.out.below (B:=w.heap.size) ah (Nat.le_refl _));rintro e w1 ⟨rfl,hb1⟩;obtain⟨g1,rfl⟩:=mob hb1;clear hb1)|(go_at_call 166;(first|(with_reducible refine(A0.out _ ?_).mono ?_)|(with_reducible refine(A1.out _ ?_).mono ?_));(exact H1.out.ws.below (B:=w.heap.size) ah (Nat.le_refl _));rintro e w2 ⟨rfl,rfl⟩))
    refine bodyPost_ret (v:=.tuple #[.int .i64 ((N:Int)),.bool true]) vL rfl ⟨?_,by exact bel⟩;rw[rL HI.out,sG HI.out,HZ.out]
   ·have t1:¬(N:Int)<9223372036854775808:=by omega
    have t2:decide ((N:Int)<9223372036854775808)=false:=by rw[decide_eq_false_iff_not];exact t1
    have HI:Hid (¬I64 (Dg.iv false N)):=by show¬I64 _;rw[hz];unfold I64;omega
    clear hs hz
    go_enter Tryz.func120,Tryz.ntmps120
    go_wp2_with (first|(go_at_call 163;(with_reducible refine(S1.out _ ?_).mono ?_);(exact H1.out.below (B:=w.heap.size) ah (Nat.le_refl _));rintro e w1 ⟨rfl,hb1⟩;obtain⟨g1,rfl⟩:=mob hb1;clear hb1)|(go_at_call 166;(first|(with_reducible refine(A0.out _ ?_).mono ?_)|(with_reducible refine(A1.out _ ?_).mono ?_));(exact H1.out.ws.below (B:=w.heap.size) ah (Nat.le_refl _));rintro e w2 ⟨rfl,rfl⟩))
    refine bodyPost_ret (v:=.tuple #[.int .i64 (0),.bool false]) vL rfl ⟨?_,by exact bel⟩;rw[pD HI.out,pW HI.out]
  ·have hz:Dg.iv true N= -(N:Int):=by simp[Dg.iv]
   by_cases hs:N<=9223372036854775808
   ·have t1:(N:Int)<=9223372036854775808:=by omega
    have t2:decide ((N:Int)<=9223372036854775808)=true:=by rw[decide_eq_true_iff];exact t1
    have HI:Hid (I64 (Dg.iv true N)):=by show I64 _;rw[hz];unfold I64;omega
    have HZ:=Lib.hid hz;obtain⟨u,hu⟩:∃u:Int,u=(-(N:Int))%18446744073709551616:=⟨_,rfl⟩;have e3:IntKind.u64.wrap (-(N:Int))=u:=by rw[cK,hu]
    have e4:IntKind.i64.wrap u= -(N:Int):=by rw[hu,IntKind.wrap_i64];omega
    clear hs hz hu
    go_enter Tryz.func120,Tryz.ntmps120
    go_wp2_with (first|(go_at_call 163;(with_reducible refine(S1.out _ ?_).mono ?_);(exact H1.out.below (B:=w.heap.size) ah (Nat.le_refl _));rintro e w1 ⟨rfl,hb1⟩;obtain⟨g1,rfl⟩:=mob hb1;clear hb1)|(go_at_call 166;(first|(with_reducible refine(A0.out _ ?_).mono ?_)|(with_reducible refine(A1.out _ ?_).mono ?_));(exact H1.out.ws.below (B:=w.heap.size) ah (Nat.le_refl _));rintro e w2 ⟨rfl,rfl⟩))
    refine bodyPost_ret (v:=.tuple #[.int .i64 ((-(N:Int))),.bool true]) vL rfl ⟨?_,by exact bel⟩;rw[rL HI.out,sG HI.out,HZ.out]
   ·have t1:¬(N:Int)<=9223372036854775808:=by omega
    have t2:decide ((N:Int)<=9223372036854775808)=false:=by rw[decide_eq_false_iff_not];exact t1
    have HI:Hid (¬I64 (Dg.iv true N)):=by show¬I64 _;rw[hz];unfold I64;omega
    clear hs hz
    go_enter Tryz.func120,Tryz.ntmps120
    go_wp2_with (first|(go_at_call 163;(with_reducible refine(S1.out _ ?_).mono ?_);(exact H1.out.below (B:=w.heap.size) ah (Nat.le_refl _));rintro e w1 ⟨rfl,hb1⟩;obtain⟨g1,rfl⟩:=mob hb1;clear hb1)|(go_at_call 166;(first|(with_reducible refine(A0.out _ ?_).mono ?_)|(with_reducible refine(A1.out _ ?_).mono ?_));(exact H1.out.ws.below (B:=w.heap.size) ah (Nat.le_refl _));rintro e w2 ⟨rfl,rfl⟩))
    refine bodyPost_ret (v:=.tuple #[.int .i64 (0),.bool false]) vL rfl ⟨?_,by exact bel⟩;rw[pD HI.out,pW HI.out]
 ·have hlen:2<l.length:=by omega
  have hbig:18446744073709551616<=Dg.vl B32 l:=by
   obtain⟨m,hm⟩:∃m,l.length=m+1:=⟨l.length-1,by omega⟩;have k1:=Dg.iK hm h1.nf;have k2:B32^2<=B32^m:=Nat.pow_le_pow_right (by decide) (by omega);have k3:B32^2=18446744073709551616:=by decide
   omega
  have HI:Hid (¬I64 (Dg.iv x.s (Dg.vl B32 l))):=by
   intro h;have h2:=Dg.ik x.s (Dg.vl B32 l);unfold I64 at h;omega
  have hl3:(2:Int)<(l.length:Int):=by omega
  have hl4:decide ((2:Int)<(l.length:Int))=true:=by rw[decide_eq_true_iff];exact hl3
  obtain⟨s,a,n,cap⟩:=x;simp only[]at S1 HI⊢;generalize Dg.iv s (Dg.vl B32 l)=z at*;generalize hL:l.length=q at*;clear h1 bl AT hL hbig hl hlen
  go_enter Tryz.func120,Tryz.ntmps120
  go_wp2_with (go_at_call 163;(with_reducible refine(S1.out _ ?_).mono ?_);(exact H1.out.below (B:=w.heap.size) ah (Nat.le_refl _));rintro e w1 ⟨rfl,hb1⟩;obtain⟨g1,rfl⟩:=mob hb1;clear hb1)
  refine bodyPost_ret (v:=.tuple #[.int .i64 (0),.bool false]) vL rfl ⟨?_,by exact bel⟩;rw[pD HI.out,pW HI.out]
end
section
open Go.RowKit Go.BigFrame
attribute [local go_sem ↓] Go.wp_at_zero Go.wp_at_succ
structure IO'(w:World)(g:Nat)(zs:List Int):Prop where
 lt:g<w.heap.size
 c:∀(k:Nat) (z:Int),zs[k]?=some z->w.cell? ⟨g,k,none⟩=some (.int .i64 z)
 fr:∀k,w.frozen? ⟨g,k,none⟩=false
theorem IO'.below{B:Nat}{w w':World}{g:Nat}{zs:List Int}(h:IO' w g zs)(hb:Below B w w')(hB:w.heap.size<=B):IO' w' g zs:=by
 have hg:g<B:=Nat.lt_of_lt_of_le h.lt hB;exact⟨Nat.lt_of_lt_of_le h.lt hb.size,fun k z hz=>(hb.cell (p:=⟨g,k,none⟩) hg).trans (h.c k z hz),fun k=>(hb.frozen (p:=⟨g,k,none⟩) hg).trans (h.fr k)⟩
theorem IO'.set{w:World}{g:Nat}{zs:List Int}(h:IO' w g zs){k:Nat}(hk:k<zs.length)(z:Int):IO' (w.setCell ⟨g,k,none⟩ (.int .i64 z)) g (zs.set k z):=by
 have hc:=h.c k _ (getD_some hk);refine⟨by simpa using h.lt,fun i y hy=>?_,fun i=>by rw[World.frozen?_setCell];exact h.fr i⟩;by_cases e:i=k
 ·subst e;rw[List.getElem?_set_self hk]at hy;cases hy;exact dT _ _ _ _ _ hc
 ·rw[List.getElem?_set_ne (Ne.symm e)]at hy;rw[cL _ _ _ _ _ e];exact h.c i y hy
theorem Fv:(Tryz.prog.info? 3).map (fun i=>(i.zero,i.size,i.bytes))=some (some (.int .i64 0),1,8):=by kernel_rfl
theorem CY(n:Nat)(hn:n<=1000000000)(w:World):
  (Instr.makeSlice 40 (.int .i64 (n:Int)) (.int .i64 (n:Int))).run Tryz.prog w= .ok (.slice (some ⟨w.heap.size,0,none⟩) n n) (w.alloc (.cells (madeCells #[.int .i64 0] n) 3)):=by
 obtain⟨i,hi,hz,hs,hb⟩:=eu Fv;have hr:=run_make (P:=Tryz.prog) w 40 3 i _ Tryz.underlying40 hi hz .i64 .i64 n n (by omega) (Int.le_refl _) (by rw[hb];omega) (by omega);rw[hs]at hr;simpa[Value.cells]using hr
theorem IO'.made(w:World)(n:Nat):IO' (w.alloc (.cells (madeCells #[.int .i64 0] n) 3)) w.heap.size (List.replicate n 0):=by
 have hh:=heap_alloc_new w (.cells (madeCells #[.int .i64 0] n) 3);refine⟨by simp,fun k z hz=>?_,fun k=>?_⟩
 ·rw[List.getElem?_replicate]at hz;split at hz
  ·cases hz;rw[cell_of_row _ w.heap.size _ _ _ (0,0) hh];unfold madeCells;rw[Array.getElem?_map,Array.getElem?_range,if_pos (by omega)];simp[Nat.mod_one]
  ·cases hz
 ·simp only[World.frozen?];rw[hh];simp
theorem IO'.grew{w w':World}{base:Nat}{T:TypeId}{v v' u:Value}{l:List Value}{g:Nat}{zs:List Int}(h:IO' w g zs)(hg:jS w w' base T v v' l u)(hne:v.ownBlock≠some g):IO' w' g zs:=by
 have hb:w'.heap[g]?=w.heap[g]?:=hg.by'.block g h.lt (fun e=>hne e.symm)
 exact⟨Nat.lt_of_lt_of_le h.lt hg.by'.size,fun k z hz=>(World.cell?_of_block hb).trans (h.c k z hz),fun k=>(frozen?_of_block hb).trans (h.fr k)⟩
def rws(gs:Nat->Nat)(n k:Nat):List Value:=(List.range k).map fun i=>.slice (some ⟨gs i,0,none⟩) n n
theorem wg(gs:Nat->Nat)(n k g:Nat):rws (fun i=>if i=k then g else gs i) n (k+1)=rws gs n k++[.slice (some ⟨g,0,none⟩) n n]:=by
 unfold rws;rw[List.range_succ,List.map_append,List.map_congr_left (g:=fun i=>.slice (some ⟨gs i,0,none⟩) n n) fun i hi=>by
  show Value.slice (some ⟨if i=k then g else gs i,0,none⟩) n n=_;rw[if_neg (by have:=List.mem_range.1 hi;omega)]]
 simp
def Rows(w:World)(v:Value)(gs:Nat->Nat)(M:Mx.Mat)(k:Nat):Prop:=∀i,i<k->IO' w (gs i) (Mx.rw M i)/\v.ownBlock≠some (gs i)
theorem Rows.step{w W w':World}{base:Nat}{T:TypeId}{v v' u:Value}{l:List Value}{gs:Nat->Nat}{M:Mx.Mat}{k g:Nat}(h:Rows w v gs M k)(hb:Below w.heap.size w W)(hi:IO' W g (Mx.rw M k))(hg:w.heap.size<=g)(ho:bV w base T v l)(hgr:jS W w' base T v v' l u):
  Rows w' v' (fun i=>if i=k then g else gs i) M (k+1):=fun i hik=>by
 have hne:∀i,i<k+1->IO' W (if i=k then g else gs i) (Mx.rw M i)/\v.ownBlock≠some (if i=k then g else gs i):=fun i hik=>by
  by_cases e:i=k
  ·subst e;rw[if_pos rfl];exact⟨hi,fun e2=>by have:=oF ho e2;omega⟩
  ·rw[if_neg e];have:=h i (by omega);exact⟨this.1.below hb (Nat.le_refl _),this.2⟩
 obtain⟨h1,h2⟩:=hne i hik;refine⟨h1.grew hgr h2,fun e=>?_⟩;rcases hgr.at' with h3|h3
 ·exact h2 (h3.symm.trans e)
 ·rw[h3]at e;simp only[Option.some.injEq]at e;have:=h1.lt;omega
def ZMB(B:Nat)(w:World)(v:Value)(m:List (List Int)):Prop:=∃a cap,v= .slice a m.length cap/\m.length<=cap/\(m=[]\/∃g,a=some ⟨g,0,none⟩/\B<=g/\g<w.heap.size/\
 ∀(i:Nat) (l:List Int),m[i]?=some l->∃g',w.cell? ⟨g,i,none⟩=some (.slice (some ⟨g',0,none⟩) l.length l.length)/\B<=g'/\IO' w g' l)
theorem bV.zmb{w:World}{base:Nat}{T:TypeId}{v:Value}{gs:Nat->Nat}{n:Nat}{M:Mx.Mat}(h:bV w base T v (rws gs n M.length))(hr:Mx.Rc n M)(hrow:Rows w v gs M M.length)(hbs:∀i,i<M.length->base<=gs i):ZMB base w v M:=by
 obtain⟨h0,h⟩:=h;have hl:(rws gs n M.length).length=M.length:=by simp[rws]
 rcases h with⟨hv',hn⟩|⟨g,cap,cur,rfl,hb,hg,hle,hm,hsz,htk⟩
 ·exact⟨none,0,by rw[hv',show M.length=0 by omega],by omega,.inl (List.eq_nil_of_length_eq_zero (by omega))⟩
 ·refine⟨_,cap,by rw[hl],by omega,.inr ⟨g,rfl,hb,(Array.getElem?_eq_some_iff.1 hg).1,fun i l hi=>?_⟩⟩;have hi2:=(List.getElem?_eq_some_iff.1 hi).1;have hln:l.length=n:=hr l (List.mem_of_getElem? hi);have hrw:Mx.rw M i=l:=Mx.fl hi;refine⟨gs i,?_,hbs i hi2,?_⟩
  ·rw[cell_of_row w g _ cur _ (0,0) hg];have h1:(rws gs n M.length)[i]?=some (.slice (some ⟨gs i,0,none⟩) n n):=by unfold rws;rw[List.getElem?_map,List.getElem?_range hi2];rfl
   rw[<-htk,List.getElem?_take_of_lt (by omega),Array.getElem?_toList]at h1;rw[hln];exact h1
  ·have:=(hrow i hi2).1;rwa[hrw]at this
theorem EW:(Tryz.prog.info? 40).map (fun i=>(i.zero,i.size,i.bytes))=some (some (.slice none 0 0),1,24):=by kernel_rfl
def InL(L:Nat)(M:Mx.Mat):Prop:=∀i j,(Mx.at' M i j).natAbs<=L
open Classical in
def SMQ(w:World)(L:Nat)(M:Mx.Mat)(e:Ending)(w':World):Prop:=(if InL L M then∃v,e= .returned (.tuple #[v,.bool true])/\ZMB w.heap.size w' v M else e= .returned (.tuple #[.slice none 0 0,.bool false]))/\Below w.heap.size w w'
theorem Cc{w w':World}{L:Nat}{M:Mx.Mat}{v:Value}(h:InL L M)(hz:ZMB w.heap.size w' v M)(hb:Below w.heap.size w w'):SMQ w L M (.returned (.tuple #[v,.bool true])) w':=
 ⟨by rw[if_pos h];exact⟨v,rfl,hz⟩,hb⟩
theorem nj{w w':World}{L:Nat}{M:Mx.Mat}(h:¬InL L M)(hb:Below w.heap.size w w'):SMQ w L M (.returned (.tuple #[.slice none 0 0,.bool false])) w':=
 ⟨by rw[if_neg h],hb⟩
set_option maxRecDepth 10000 in
set_option maxHeartbeats 8000000 in
theorem AZ(M:Mx.Mat)(n L:Nat)(v:Value)(hm:M.length<=1000000)(hn:n<=1000000)(hL:L<=1000000000000000000)(hf:∀i j,Fit (Mx.at' M i j))(w:World)(h:MR w v n M):
  Calls Tryz.prog 74 #[v,.int .i64 ((L:Int))] w (SMQ w L M):=by
 obtain⟨a,cap,rfl,_,hr,h4⟩:=h.row;have HRC:Hid (Mx.Rc n M):=hr;have hmk:=CY n (by omega);have H4:=Lib.hid h4;have HF:Hid _:=hf;clear hr h4 h hf;generalize hml:M.length=q at*;have HQ:=Lib.hid hml;clear hml
 go_enter Tryz.func74,Tryz.ntmps74
 go_wp2_with fail
 go_loopw [6,16] (fun v6 i wr=>∃(k:Nat) (gs:Nat->Nat),k<=q/\i= .int .i64 ((k:Int))/\Below w.heap.size w wr/\Hid (bV wr w.heap.size 40 v6 (rws gs n k)/\Rows wr v6 gs M k/\(∀i j,i<k->(Mx.at' M i j).natAbs<=L)/\∀i,i<k->w.heap.size<=gs i)) (fun _ i _=>q-(intOf i).toNat)
 case atStart=>
  exact⟨0,id,by omega,rfl,by exact bel,bV.nil _ _ _,fun i hi=>by omega,fun i j hi=>by omega,fun i hi=>by omega⟩
 case round=>
  obtain⟨k,gs,hk,rfl,hB,HR⟩:=hrel;by_cases hkn:k<q
  ·have hkn2:(k:Int)<(q:Int):=by omega
   rcases H4.out with h0|⟨gm,om,ha,hal,hcc⟩
   ·have:=HQ.out;rw[h0]at this;simp at this;omega
   obtain⟨b,c,cz,hza⟩:=hcc k hkn;have cz2:=(hB.cell (p:=⟨gm,om+k,none⟩) hal).trans cz;subst ha;obtain⟨b',c',e',hc',hlen',⟨g,o,rfl⟩,hra⟩:=hza;cases e';have HRA:=Lib.hid hra;have hsw:w.heap.size<=wr.heap.size:=hB.size;have HBW:=Lib.hid hB;clear hcc hra cz
   go_wp2_with fail
   obtain⟨W1,hW1⟩:∃W,W=wr:=⟨wr,rfl⟩;subst hW1;clear hB
   go_loopw [25] (fun i2 wx=>∃j:Nat,j<=n/\i2= .int .i64 ((j:Int))/\Below W1.heap.size W1 wx/\W1.heap.size<wx.heap.size/\Hid (IO' wx W1.heap.size ((Mx.rw M k).take j++List.replicate ((Mx.rw M k).length-j) 0)/\∀j',j'<j->(Mx.at' M k j').natAbs<=L)) (fun i2 _=>n-(intOf i2).toNat)
   case atStart=>
    refine⟨0,by omega,rfl,by exact bel,by simp,?_,fun j' hj=>by omega⟩;rw[hlen',Nat.sub_zero,List.take_zero,List.nil_append];exact IO'.made _ n
   case round=>
    obtain⟨j,hjn,rfl,hBX,hW1x,HIO⟩:=hrel;have HBX:=Lib.hid hBX;have hBWX:=HBW.out.trans (hBX.mono hsw);have HBWX:=Lib.hid hBWX;have hsx:w.heap.size<=wr.heap.size:=hBWX.size;by_cases hjk:j<n
    ·have hjk2:(j:Int)<(n:Int):=by omega
     have hz:=getD_some (l:=Mx.rw M k) (k:=j) (by rw[hlen'];exact hjk);have HZ:Hid ((Mx.rw M k)[j]?=some (Mx.at' M k j)):=hz;have hra2:RA wr g o (Mx.rw M k):=by
      rcases HRA.out with h0|⟨g',o',e',h5⟩
      ·omega
      ·cases e';exact h5.below hBWX (Nat.le_refl _)
     obtain⟨x,x0,x1,xz⟩:=hra2.c j _ hz;have hgl:g<wr.heap.size:=hra2.lt;have HX:Hid (IZ wr x (Mx.at' M k j)):=xz;have c0:=HIO.out.1.c j 0 (by
      rw[List.getElem?_append_right (by rw[List.length_take,hlen'];omega),List.length_take,hlen',Nat.min_eq_left (by omega),Nat.sub_self,List.getElem?_replicate,if_pos (by omega)])
     have f0:=HIO.out.1.fr j;have SM:=Lib.hid (fun w hx=>uA x (Mx.at' M k j) (HF.out k j) w hx);obtain⟨xs,xa,xn,xc⟩:=x;simp only[]at x0 x1 SM;clear hz hra2 xz hBX hBWX;by_cases hg:(Mx.at' M k j).natAbs<=L
     ·have hI:I64 (Mx.at' M k j):=by unfold I64;omega
      have SM2:Hid (∀w,IP w ⟨xs,xa,xn,xc⟩ (Mx.at' M k j)->Calls Tryz.prog 120 #[.agg #[.bool ((⟨xs,xa,xn,xc⟩:IV)).s,.slice ((⟨xs,xa,xn,xc⟩:IV)).a ((⟨xs,xa,xn,xc⟩:IV)).n ((⟨xs,xa,xn,xc⟩:IV)).cap]] w fun e w'=>e= .returned (.tuple #[.int .i64 (Mx.at' M k j),.bool true])/\Below w.heap.size w w'):=fun w hx=>(SM.out w hx).mono fun e w' h=>⟨by rw[h.1,rL hI,sG hI],h.2⟩;have t1:¬(L:Int)<Mx.at' M k j:=by omega
      have t2:¬Mx.at' M k j< -(L:Int):=by omega
      have t3:decide ((L:Int)<Mx.at' M k j)=false:=by rw[decide_eq_false_iff_not];exact t1
      have t4:decide (Mx.at' M k j< -(L:Int))=false:=by rw[decide_eq_false_iff_not];exact t2
      have HG:=Lib.hid hg;clear SM hI hg
      go_wp2_with (go_at_call 120;(with_reducible refine(SM2.out _ ?_).mono ?_);(exact(HX.out.below (B:=wr.heap.size) ah (Nat.le_refl _)).ip);rintro e w4 ⟨rfl,hb4⟩;have HB4:=Lib.hid hb4;obtain⟨g4,rfl⟩:=mob hb4;clear hb4)
      go_roundw
      case rel=>
       have hb4:Below wr.heap.size wr (more (wr.alloc (.cells #[.bool xs,.slice xa xn xc] 62)) g4):=by exact bel
       have h1:=(HIO.out.1.below hb4 (Nat.le_refl _)).set (k:=j) zb60 (Mx.at' M k j);have e5:(more (wr.alloc (.cells #[.bool xs,.slice xa xn xc] 62)) g4).setCell ⟨W1.heap.size,j,none⟩ (.int .i64 (Mx.at' M k j))=more ((wr.setCell ⟨W1.heap.size,j,none⟩ (.int .i64 (Mx.at' M k j))).alloc (.cells #[.bool xs,.slice xa xn xc] 62)) g4:=by go_simp
       rw[qT rfl HZ.out,e5]at h1;have hBX:=HBX.out;refine⟨j+1,by omega,by go_num,by exact bel,?_,h1,fun j' hj=>?_⟩
       ·first|omega|(simp;omega)
       ·by_cases e:j'=j
        ·rw[e];exact HG.out
        ·exact HIO.out.2 j' (by omega)
      case measure=>simp[intOf];omega
     ·have NB:Hid (¬InL L M):=fun h=>hg (h k j);by_cases hI:I64 (Mx.at' M k j)
      ·have SM2:Hid (∀w,IP w ⟨xs,xa,xn,xc⟩ (Mx.at' M k j)->Calls Tryz.prog 120 #[.agg #[.bool ((⟨xs,xa,xn,xc⟩:IV)).s,.slice ((⟨xs,xa,xn,xc⟩:IV)).a ((⟨xs,xa,xn,xc⟩:IV)).n ((⟨xs,xa,xn,xc⟩:IV)).cap]] w fun e w'=>e= .returned (.tuple #[.int .i64 (Mx.at' M k j),.bool true])/\Below w.heap.size w w'):=fun w hx=>(SM.out w hx).mono fun e w' h=>⟨by rw[h.1,rL hI,sG hI],h.2⟩;clear SM hI;by_cases hgt:(L:Int)<Mx.at' M k j
       ·have t3:decide ((L:Int)<Mx.at' M k j)=true:=by rw[decide_eq_true_iff];exact hgt
        clear hg
        go_wp2_with (go_at_call 120;(with_reducible refine(SM2.out _ ?_).mono ?_);(exact(HX.out.below (B:=wr.heap.size) ah (Nat.le_refl _)).ip);rintro e w4 ⟨rfl,hb4⟩;obtain⟨g4,rfl⟩:=mob hb4;clear hb4)
        refine bodyPost_ret (v:=.tuple #[.slice none 0 0,.bool false]) Ah rfl (nj NB.out ?_);have hb:=HBWX.out;exact bel
       ·have t3:decide ((L:Int)<Mx.at' M k j)=false:=by rw[decide_eq_false_iff_not];exact hgt
        have t2:Mx.at' M k j< -(L:Int):=by omega
        have t4:decide (Mx.at' M k j< -(L:Int))=true:=by rw[decide_eq_true_iff];exact t2
        clear hg
        go_wp2_with (go_at_call 120;(with_reducible refine(SM2.out _ ?_).mono ?_);(exact(HX.out.below (B:=wr.heap.size) ah (Nat.le_refl _)).ip);rintro e w4 ⟨rfl,hb4⟩;obtain⟨g4,rfl⟩:=mob hb4;clear hb4)
        refine bodyPost_ret (v:=.tuple #[.slice none 0 0,.bool false]) Ah rfl (nj NB.out ?_);have hb:=HBWX.out;exact bel
      ·have SM2:Hid (∀w,IP w ⟨xs,xa,xn,xc⟩ (Mx.at' M k j)->Calls Tryz.prog 120 #[.agg #[.bool ((⟨xs,xa,xn,xc⟩:IV)).s,.slice ((⟨xs,xa,xn,xc⟩:IV)).a ((⟨xs,xa,xn,xc⟩:IV)).n ((⟨xs,xa,xn,xc⟩:IV)).cap]] w fun e w'=>e= .returned (.tuple #[.int .i64 (0),.bool false])/\Below w.heap.size w w'):=fun w hx=>(SM.out w hx).mono fun e w' h=>⟨by rw[h.1,pD hI,pW hI],h.2⟩;clear SM hI hg
       go_wp2_with (go_at_call 120;(with_reducible refine(SM2.out _ ?_).mono ?_);(exact(HX.out.below (B:=wr.heap.size) ah (Nat.le_refl _)).ip);rintro e w4 ⟨rfl,hb4⟩;obtain⟨g4,rfl⟩:=mob hb4;clear hb4)
       refine bodyPost_ret (v:=.tuple #[.slice none 0 0,.bool false]) Ah rfl (nj NB.out ?_);have hb:=HBWX.out;exact bel
    ·obtain rfl:j=n:=by omega
     have hjk2:¬(j:Int)<(j:Int):=by omega
     have HL:Hid ((rws gs j k).length<=1000000000):=by show _<=_;simp[rws];omega
     go_wp2_with (at_builtin;go_must (refine jT EW rfl (by decide) Tryz.underlying22 rfl (.tmp 53) (.tmp 55) rfl (u:=.slice (some ⟨W1.heap.size,0,none⟩) j j) (ad:=⟨wr.heap.size,0,none⟩) (c:=1) (l:=rws gs j k) (base:=w.heap.size) rfl rfl ?_ HL.out ?_ ?_ rfl ?_);(exact(HR.out.1.low HBX.out).low ah);(focus(first|omega|(simp;omega)));(focus(go_simp));intro v7 w7 hg7;have HG7:=Lib.hid hg7;clear hg7)
     go_roundw
     case rel=>
      have hbx:Below W1.heap.size W1 (wr.alloc (.cells #[.slice (some ⟨W1.heap.size,0,none⟩) j j] 40)):=HBX.out.trans ((Below.refl _ _).alloc (by omega) _);have hfull:(Mx.rw M k).take j++List.replicate ((Mx.rw M k).length-j) 0=Mx.rw M k:=by rw[hlen',Nat.sub_self,List.take_of_length_le (by omega)];simp
      have h1:=HIO.out.1;rw[hfull]at h1;have h2:=Rows.step HR.out.2.1 hbx (h1.below ((Below.refl wr.heap.size wr).alloc (Nat.le_refl _) _) (Nat.le_refl _)) (Nat.le_refl _) HR.out.1 HG7.out;have hb7:Below w.heap.size w w7:=HG7.out.below ((HR.out.1.low HBX.out).low ((Below.refl wr.heap.size wr).alloc (Nat.le_refl _) _)) (HBWX.out.alloc (by omega) _) bG;have h3:=HG7.out.own;rw[<-wg]at h3;refine⟨k+1,_,by omega,by go_num,hb7,h3,h2,fun i j' hi=>?_,fun i hi=>?_⟩
      ·by_cases e:i=k
       ·by_cases e2:j'<j
        ·rw[e];exact HIO.out.2 j' e2
        ·rw[Mx.Hj HRC.out (by omega)];simp
       ·exact HR.out.2.2.1 i j' (by omega)
      ·by_cases e:i=k
       ·rw[if_pos e];exact HBW.out.size
       ·rw[if_neg e];exact HR.out.2.2.2 i (by omega)
     case measure=>simp[intOf];omega
  ·obtain rfl:k=q:=by omega
   have hkn2:¬(k:Int)<(k:Int):=by omega
   have HI:Hid (InL L M):=fun i j=>by
    by_cases e:i<k
    ·exact HR.out.2.2.1 i j e
    ·rw[Mx.mO (by rw[HQ.out];omega)];simp
   have HZM:Hid (ZMB w.heap.size wr u6 M):=bV.zmb (by rw[HQ.out];exact HR.out.1) HRC.out (by rw[HQ.out];exact HR.out.2.1) (by rw[HQ.out];exact HR.out.2.2.2)
   go_wp2_with fail
   refine bodyPost_ret (v:=.tuple #[u6,.bool true]) Ah rfl (Cc HI.out HZM.out hB)
end
section
open Go.RowKit Go.BigFrame
attribute [local go_sem ↓] Go.wp_at_zero Go.wp_at_succ
theorem RO.zero(w:World)(n:Nat):RO (w.alloc (.cells (madeCells #[.bool false,.slice none 0 0] (n*2)) 62)) w.heap.size (List.replicate n 0):=⟨_,RI.made w n⟩
end
section
open Go.RowKit Go.BigFrame
attribute [local go_sem ↓] Go.wp_at_zero Go.wp_at_succ
theorem JW{w:World}{base:Nat}{T:TypeId}{v:Value}{l:List Value}(h:bV w base T v l)(hl:l≠[])(hu:∀u∈l,∀n,u≠ .int .u32 n){b:Nat}(hb:v.ownBlock=some b):NW w b:=by
 obtain⟨_,h⟩:=h;have h0:0<l.length:=List.length_pos_iff.2 hl;rcases h with⟨hv',hn⟩|⟨g,cap,cur,rfl,_,hg,hle,hm,hsz,htk⟩
 ·omega
 ·have:g=b:=by simpa[Value.ownBlock]using hb
  subst this;intro n e;have h1:l[0]?=some (.int .u32 n):=by
   rw[cell_of_row w g _ cur _ (0,0) hg]at e;rw[<-htk,List.getElem?_take_of_lt (by omega),Array.getElem?_toList];exact e
  exact hu _ (List.mem_of_getElem? h1) n rfl
theorem RO.grew{w w':World}{base:Nat}{T:TypeId}{v v' u:Value}{l:List Value}{g:Nat}{zs:List Int}(h:RO w g zs)(hg:jS w w' base T v v' l u)(hnw:∀b,v.ownBlock=some b->NW w b)(hne:v.ownBlock≠some g):RO w' g zs:=by
 cases hv:v.ownBlock with
 |none=>exact h.below (B:=w.heap.size) ⟨hg.by'.os,hg.by'.tape,hg.by'.output,hg.by'.size,fun k hk=>hg.by'.block k hk (by rw[hv];simp)⟩ (Nat.le_refl _)
 |some b=>exact h.chg ⟨hg.by'.os,hg.by'.tape,hg.by'.output,hg.by'.size,fun k hk hkb=>hg.by'.block k hk (by rw[hv];simp only[ne_eq,Option.some.injEq];first|exact hkb|exact fun e=>hkb e.symm)⟩ (hnw b hv) (fun e=>hne (by rw[hv,e]))
def lS(w:World)(v:Value)(gs:Nat->Nat)(M:Mx.Mat)(k:Nat):Prop:=(∀b,v.ownBlock=some b->NW w b)/\∀i,i<k->RO w (gs i) (Mx.rw M i)/\v.ownBlock≠some (gs i)
theorem Cp{gs:Nat->Nat}{n k:Nat}{u:Value}(h:u∈rws gs n k):∀m,u≠ .int .u32 m:=fun m e=>by
 obtain⟨i,_,rfl⟩:=List.mem_map.1 h;cases e
theorem NW.below{B:Nat}{w w':World}{g:Nat}(h:NW w g)(hb:Below B w w')(hB:w.heap.size<=B)(hg:g<w.heap.size):NW w' g:=
 h.pL (hb.cell (p:=⟨g,0,none⟩) (Nat.lt_of_lt_of_le hg hB))
theorem lS.step{w W w':World}{base:Nat}{T:TypeId}{v v':Value}{gs:Nat->Nat}{M:Mx.Mat}{n k g:Nat}(h:lS w v gs M k)(hb:Below w.heap.size w W)(hi:RO W g (Mx.rw M k))(hg:w.heap.size<=g)(ho:bV w base T v (rws gs n k))(hgr:jS W w' base T v v' (rws gs n k) (.slice (some ⟨g,0,none⟩) n n)):
  lS w' v' (fun i=>if i=k then g else gs i) M (k+1):=by
 refine⟨fun b hb=>JW hgr.own (by simp) (fun u hu m e=>?_) hb,fun i hik=>?_⟩
 ·rcases List.mem_append.1 hu with h1|h1
  ·exact Cp h1 m e
  ·rw[List.mem_singleton.1 h1]at e;cases e
 have hne:∀i,i<k+1->RO W (if i=k then g else gs i) (Mx.rw M i)/\v.ownBlock≠some (if i=k then g else gs i):=fun i hik=>by
  by_cases e:i=k
  ·subst e;rw[if_pos rfl];exact⟨hi,fun e2=>by have:=oF ho e2;omega⟩
  ·rw[if_neg e];have:=h.2 i (by omega);exact⟨this.1.below hb (Nat.le_refl _),this.2⟩
 obtain⟨h1,h2⟩:=hne i hik;refine⟨h1.grew hgr (fun b hb'=>(h.1 b hb').below hb (Nat.le_refl _) (oF ho hb')) h2,fun e=>?_⟩;rcases hgr.at' with h3|h3
 ·exact h2 (h3.symm.trans e)
 ·rw[h3]at e;simp only[Option.some.injEq]at e;have:=h1.lt;omega
theorem lS.mr{w:World}{base:Nat}{T:TypeId}{v:Value}{gs:Nat->Nat}{n:Nat}{M:Mx.Mat}(h:bV w base T v (rws gs n M.length))(hr:Mx.Rc n M)(hrow:lS w v gs M M.length):MR w v n M:=
 h.mr (by simp[rws]) hr fun i hi=>⟨_,by unfold rws;rw[List.getElem?_map,List.getElem?_range hi];rfl,⟨_,_,rfl,Nat.le_refl _,hr.rw hi,AD.some _ _,.inr ⟨gs i,0,rfl,(hrow.2 i hi).1.ra⟩⟩⟩
theorem Fu:(Tryz.prog.info? 113).map (fun i=>(i.zero,i.size,i.bytes))=some (some (.slice none 0 0),1,24):=by kernel_rfl
def LPost(w:World)(n:Nat)(M:Mx.Mat)(e:Ending)(w':World):Prop:=(∃v,e= .returned v/\MR w' v n M)/\Below w.heap.size w w'
set_option maxRecDepth 10000 in
set_option maxHeartbeats 8000000 in
theorem C3(M:Mx.Mat)(n:Nat)(v:Value)(hm:M.length<=1000000)(hn:n<=1000000)(hf:∀i j,Fit (Mx.at' M i j))(w:World)(h:MR w v n M):
  Calls Tryz.prog 75 #[v] w (LPost w n M):=by
 obtain⟨a,cap,rfl,_,hr,h4⟩:=h.row;have HRC:Hid (Mx.Rc n M):=hr;have hmk:=oK 113 Tryz.underlying113 n (by omega);have H4:=Lib.hid h4;have NO:Hid (∀(x:IV) (z:Int),Fit z->∀w,IP w x z->Calls Tryz.prog 112 #[.agg #[.bool x.s,.slice x.a x.n x.cap]] w fun e w'=>(∃y,e= .returned (.agg #[.bool y.s,.slice y.a y.n y.cap])/\IZ w' y z)/\Below w.heap.size w w'):=fun x z fz w hx=>by
  obtain⟨l,h1,rfl⟩:=hx;exact nA x l (by have:=dC h1.nf fz;omega) w h1
 have HF:Hid _:=hf;clear hr h4 h hf;generalize hml:M.length=q at*;have HQ:=Lib.hid hml;clear hml
 go_enter Tryz.func75,Tryz.ntmps75
 go_wp2_with fail
 go_loopw [3,11] (fun v6 i wr=>∃(k:Nat) (gs:Nat->Nat),k<=q/\i= .int .i64 ((k:Int))/\Below w.heap.size w wr/\Hid (bV wr w.heap.size 113 v6 (rws gs n k)/\lS wr v6 gs M k)) (fun _ i _=>q-(intOf i).toNat)
 case atStart=>
  exact⟨0,id,by omega,rfl,by exact bel,bV.nil _ _ _,fun b hb=>by simp[Value.ownBlock]at hb,fun i hi=>by omega⟩
 case round=>
  obtain⟨k,gs,hk,rfl,hB,HR⟩:=hrel;by_cases hkn:k<q
  ·have hkn2:(k:Int)<(q:Int):=by omega
   rcases H4.out with h0|⟨gm,om,ha,hal,hcc⟩
   ·have:=HQ.out;rw[h0]at this;simp at this;omega
   obtain⟨b,c,cz,hza⟩:=hcc k hkn;have cz2:=(hB.cell (p:=⟨gm,om+k,none⟩) hal).trans cz;subst ha;obtain⟨b',c',e',hc',hlen',⟨g,o,rfl⟩,hra⟩:=hza;cases e';have HRA:=Lib.hid hra;have hsw:w.heap.size<=wr.heap.size:=hB.size;have HBW:=Lib.hid hB;clear hcc hra cz
   go_wp2_with fail
   obtain⟨W1,hW1⟩:∃W,W=wr:=⟨wr,rfl⟩;subst hW1;clear hB
   go_loopw [20] (fun i2 wx=>∃j:Nat,j<=n/\i2= .int .i64 ((j:Int))/\Below W1.heap.size W1 wx/\W1.heap.size<wx.heap.size/\Hid (RO wx W1.heap.size ((Mx.rw M k).take j++List.replicate ((Mx.rw M k).length-j) 0))) (fun i2 _=>n-(intOf i2).toNat)
   case atStart=>
    refine⟨0,by omega,rfl,by exact bel,by simp,?_⟩;rw[hlen',Nat.sub_zero,List.take_zero,List.nil_append];exact RO.zero _ n
   case round=>
    obtain⟨j,hjn,rfl,hBX,hW1x,HIO⟩:=hrel;have HBX:=Lib.hid hBX;have hBWX:=HBW.out.trans (hBX.mono hsw);have HBWX:=Lib.hid hBWX;have hsx:w.heap.size<=wr.heap.size:=hBWX.size;by_cases hjk:j<n
    ·have hjk2:(j:Int)<(n:Int):=by omega
     have hz:=getD_some (l:=Mx.rw M k) (k:=j) (by rw[hlen'];exact hjk);have HZ:Hid ((Mx.rw M k)[j]?=some (Mx.at' M k j)):=hz;have hra2:RA wr g o (Mx.rw M k):=by
      rcases HRA.out with h0|⟨g',o',e',h5⟩
      ·omega
      ·cases e';exact h5.below hBWX (Nat.le_refl _)
     obtain⟨x,x0,x1,xz⟩:=hra2.c j _ hz;have hgl:g<wr.heap.size:=hra2.lt;have HX:Hid (IZ wr x (Mx.at' M k j)):=xz;obtain⟨x9,c0,c1,_,f0,f1⟩:=HIO.out.at (k:=j) (z:=0) (by
      rw[List.getElem?_append_right (by rw[List.length_take,hlen'];omega),List.length_take,hlen',Nat.min_eq_left (by omega),Nat.sub_self,List.getElem?_replicate,if_pos (by omega)])
     have NX:=Lib.hid (NO.out x (Mx.at' M k j) (HF.out k j));obtain⟨xs,xa,xn,xc⟩:=x;simp only[]at x0 x1 NX;clear hz hra2 xz hBX hBWX
     go_wp2_with (go_at_call 112;(with_reducible refine(NX.out _ ?_).mono ?_);(exact(HX.out.below (B:=wr.heap.size) ah (Nat.le_refl _)).ip);rintro e w5 ⟨⟨y,rfl,hy⟩,hb5⟩;have HY:=Lib.hid hy;clear hy;obtain⟨g5,rfl⟩:=mob hb5;clear hb5)
     go_roundw
     case rel=>
      have hb4:Below wr.heap.size wr (more (wr.alloc (.cells #[.bool xs,.slice xa xn xc] 62)) g5):=by exact bel
      have h1:=(HIO.out.below hb4 (Nat.le_refl _)).set (k:=j) zb60 HY.out;have e5:dF (more (wr.alloc (.cells #[.bool xs,.slice xa xn xc] 62)) g5) W1.heap.size j y=more ((dF wr W1.heap.size j y).alloc (.cells #[.bool xs,.slice xa xn xc] 62)) g5:=by unfold dF;go_simp
      rw[qT rfl HZ.out,e5]at h1;have hBX:=HBX.out;refine⟨j+1,by omega,by go_num,by exact bel,?_,h1⟩;first|omega|(simp;omega)
     case measure=>simp[intOf];omega
    ·obtain rfl:j=n:=by omega
     have hjk2:¬(j:Int)<(j:Int):=by omega
     have HL:Hid ((rws gs j k).length<=1000000000):=by show _<=_;simp[rws];omega
     go_wp2_with (at_builtin;go_must (refine jT Fu rfl (by decide) Tryz.underlying27 rfl (.tmp 31) (.tmp 33) rfl (u:=.slice (some ⟨W1.heap.size,0,none⟩) j j) (ad:=⟨wr.heap.size,0,none⟩) (c:=1) (l:=rws gs j k) (base:=w.heap.size) rfl rfl ?_ HL.out ?_ ?_ rfl ?_);(exact(HR.out.1.low HBX.out).low ah);(focus(first|omega|(simp;omega)));(focus(go_simp));intro v7 w7 hg7;have HG7:=Lib.hid hg7;clear hg7)
     go_roundw
     case rel=>
      have hbx:Below W1.heap.size W1 (wr.alloc (.cells #[.slice (some ⟨W1.heap.size,0,none⟩) j j] 113)):=HBX.out.trans ((Below.refl _ _).alloc (by omega) _);have hfull:(Mx.rw M k).take j++List.replicate ((Mx.rw M k).length-j) 0=Mx.rw M k:=by rw[hlen',Nat.sub_self,List.take_of_length_le (by omega)];simp
      have h1:=HIO.out;rw[hfull]at h1;have h2:=lS.step HR.out.2 hbx (h1.below ((Below.refl wr.heap.size wr).alloc (Nat.le_refl _) _) (Nat.le_refl _)) (Nat.le_refl _) HR.out.1 HG7.out;have hb7:Below w.heap.size w w7:=HG7.out.below ((HR.out.1.low HBX.out).low ((Below.refl wr.heap.size wr).alloc (Nat.le_refl _) _)) (HBWX.out.alloc (by omega) _) bG;have h3:=HG7.out.own;rw[<-wg]at h3;exact⟨k+1,_,by omega,by go_num,hb7,h3,h2⟩
     case measure=>simp[intOf];omega
  ·obtain rfl:k=q:=by omega
   have hkn2:¬(k:Int)<(k:Int):=by omega
   have HZM:Hid (MR wr u3 n M):=lS.mr (by rw[HQ.out];exact HR.out.1) HRC.out (by rw[HQ.out];exact HR.out.2)
   go_wp2_with fail
   go_ret
   exact⟨⟨_,rfl,HZM.out⟩,hB⟩
end
section
open Go.RowKit Go.BigFrame
attribute [local go_sem ↓] Go.wp_at_zero Go.wp_at_succ
def inb(L:Int)(z:Int):Bool:=decide (-L<=z)&&decide (z<=L)
set_option maxRecDepth 10000 in
theorem Aw(z L:Int)(hL:0<=L)(hL2:L<=1000000000000000000)(w:World):
  Calls Tryz.prog 91 #[.int .i64 z,.int .i64 L] w fun e w'=>e= .returned (.bool (inb L z))/\Below w.heap.size w w':=by
 by_cases h1: -L<=z
 ·have d1:decide (-L<=z)=true:=by rw[decide_eq_true_iff];exact h1
  have E:Hid (inb L z=decide (z<=L)):=by show inb L z=_;unfold inb;rw[d1];rfl
  go_enter Tryz.func91,Tryz.ntmps91
  go_wp2_with fail
  go_ret
  exact⟨by rw[E.out];rfl,by exact bel⟩
 ·have d1:decide (-L<=z)=false:=by rw[decide_eq_false_iff_not];exact h1
  have E:Hid (inb L z=false):=by show inb L z=_;unfold inb;rw[d1];rfl
  go_enter Tryz.func91,Tryz.ntmps91
  go_wp2_with fail
  go_ret
  exact⟨by rw[E.out];rfl,by exact bel⟩
def wid(m:List (List Int)):Nat:=(m.headD []).length
set_option maxRecDepth 10000 in
theorem BW(m:List (List Int))(v:Value)(hm:m.length<=1000000000)(w:World)(h:ZM w v m):
  Calls Tryz.prog 111 #[v] w fun e w'=>e= .returned (.int .i64 ((wid m:Int)))/\Below w.heap.size w w':=by
 obtain⟨a,cap,rfl,_,h4⟩:=h;rcases m with _|⟨l,m⟩
 ·go_enter Tryz.func111,Tryz.ntmps111
  go_wp2_with fail
  go_ret
  exact⟨rfl,by exact bel⟩
 ·rcases h4 with h4|⟨a0,rfl,_,h5⟩
  ·cases h4
  obtain⟨b,c,cz,_⟩:=h5 0 l rfl;have e0:a0.add 0=a0:=by cases a0;unfold Addr.add;split<;>simp_all
  have cz2:=cz;rw[e0]at cz2;have E:Hid (wid (l::m)=l.length):=rfl;rw[List.length_cons]at hm⊢;generalize m.length=q at*;have hq:¬(q:Int)+1=0:=by omega
  have hq1:(0:Int)<(q:Int)+1:=by omega
  have hq2:¬q+1=0:=by omega
  clear h5
  go_enter Tryz.func111,Tryz.ntmps111
  go_wp2_with fail
  go_ret
  exact⟨by rw[E.out];rfl,by exact bel⟩
def vv{α:Type}(p:α->Bool)(l:List α)(r:Int):Prop:=(r= -1/\∀x∈l,p x=false)\/∃(k:Nat) (x:α),r=k/\l[k]?=some x/\p x=true/\∀j y,j<k->l[j]?=some y->p y=false
theorem vv.any{α:Type}{p:α->Bool}{l:List α}{r:Int}(h:vv p l r):decide (0<=r)=l.any p:=by
 rcases h with⟨rfl,h⟩|⟨k,x,rfl,h1,h2,_⟩
 ·symm;rw[show decide ((0:Int)<=-1)=false from rfl,List.any_eq_false];exact fun x hx=>by rw[h x hx];simp
 ·rw[show l.any p=true from List.any_eq_true.2 ⟨x,List.mem_of_getElem? h1,h2⟩];simp
def KC(w:World){α:Type}(p:α->Bool)(l:List α)(e:Ending)(w':World):Prop:=(∃r:Int,e= .returned (.int .i64 r)/\I64 r/\vv p l r)/\Below w.heap.size w w'
set_option maxRecDepth 10000 in
set_option maxHeartbeats 2000000 in
theorem Fx(l:List Int)(b:Option Addr)(c:Nat)(hl:l.length<=1000000000)(g:Nat)(p:Int->Bool)(eg:∀args w,(callFunc g args).run Tryz.prog w= .ok (.enter g args) w)(hp:∀x w,Calls Tryz.prog g #[.int .i64 x] w fun e w'=>e= .returned (.bool (p x))/\Below w.heap.size w w')(w:World)(h:ZAt w b l):
  Calls Tryz.prog 157 #[.slice b l.length c,.func (.func g) #[] #[]] w (KC w p l):=by
 have H:=Lib.hid h;have HP:Hid _:=hp;clear h hp;generalize hn:l.length=n at*;have HN:=Lib.hid hn;clear hn
 go_enter Tryz.func157,Tryz.ntmps157
 go_wp2_with fail
 go_loopw [8] (fun i wr=>∃k:Nat,k<=n/\i= .int .i64 ((k:Int))/\Below w.heap.size w wr/\Hid (∀j y,j<k->l[j]?=some y->p y=false)) (fun i _=>n-(intOf i).toNat)
 case atStart=>exact⟨0,by omega,rfl,by exact bel,fun j y hj=>by omega⟩
 case round=>
  obtain⟨k,hk,rfl,hB,HJ⟩:=hrel;by_cases hkn:k<n
  ·have hkn2:(k:Int)<(n:Int):=by omega
   obtain⟨z,hz⟩:∃z,l[k]?=some z:=⟨l[k]'(by rw[HN.out];omega),List.getElem?_eq_getElem _⟩;rcases H.out.below hB (Nat.le_refl _)with h0|⟨a0,ha,hal,hcc⟩
   ·rw[h0]at hz;simp at hz
   have cz:=hcc k z hz;subst ha;have HPz:=Lib.hid (HP.out z);have hsw:w.heap.size<=wr.heap.size:=hB.size;have HZ:=Lib.hid hz;clear hcc hz;generalize hpz:p z=pz at HPz;have HQ:=Lib.hid hpz;clear hpz;cases pz
   ·go_wp2_with (go_at_fn g;(with_reducible refine(HPz.out _).mono ?_);rintro e w4 ⟨rfl,hb4⟩;have HB4:=Lib.hid hb4;obtain⟨g4,rfl⟩:=mob hb4;clear hb4)
    go_roundw
    case rel=>
     refine⟨k+1,by omega,by go_num,by exact bel,fun j y hj hy=>?_⟩;by_cases e:j=k
     ·subst e;rw[HZ.out]at hy;cases hy;exact HQ.out
     ·exact HJ.out j y (by omega) hy
    case measure=>simp[intOf];omega
   ·go_wp2_with (go_at_fn g;(with_reducible refine(HPz.out _).mono ?_);rintro e w4 ⟨rfl,hb4⟩;have HB4:=Lib.hid hb4;obtain⟨g4,rfl⟩:=mob hb4;clear hb4)
    go_ret
    exact⟨⟨(k:Int),rfl,⟨by omega,by omega⟩,.inr ⟨k,z,rfl,HZ.out,HQ.out,HJ.out⟩⟩,by exact bel⟩
  ·obtain rfl:k=n:=by omega
   have hkn2:¬(k:Int)<(k:Int):=by omega
   go_wp2_with fail
   go_ret
   refine⟨⟨-1,rfl,⟨by omega,by omega⟩,.inl ⟨rfl,fun x hx=>?_⟩⟩,hB⟩;obtain⟨j,hj,e⟩:=List.getElem_of_mem hx;exact HJ.out j x (by rw[<-HN.out];exact hj) (by rw[List.getElem?_eq_getElem hj,e])
set_option maxRecDepth 10000 in
theorem FU(l:List Int)(b:Option Addr)(c:Nat)(hl:l.length<=1000000000)(g:Nat)(p:Int->Bool)(eg:∀args w,(callFunc g args).run Tryz.prog w= .ok (.enter g args) w)(hp:∀x w,Calls Tryz.prog g #[.int .i64 x] w fun e w'=>e= .returned (.bool (p x))/\Below w.heap.size w w')(w:World)(h:ZAt w b l):
  Calls Tryz.prog 89 #[.slice b l.length c,.func (.func g) #[] #[]] w fun e w'=>e= .returned (.bool (l.any p))/\Below w.heap.size w w':=by
 have IX:=Lib.hid (fun w h=>Fx l b c hl g p eg hp w h);have H:=Lib.hid h;have HA:=Lib.hid (fun r (h:vv p l r)=>h.any);clear h hp eg;generalize l.length=n at*
 go_enter Tryz.func89,Tryz.ntmps89
 go_wp2_with (go_at_call 157;(with_reducible refine(IX.out _ ?_).mono ?_);(exact H.out.below (B:=w.heap.size) ah (Nat.le_refl _));rintro e w4 ⟨⟨r,rfl,hi,hr⟩,hb4⟩;have HR:=Lib.hid hr;clear hr;obtain⟨g4,rfl⟩:=mob hb4;clear hb4)
 all_goals go_ret
 all_goals exact⟨by rw[<-HA.out r HR.out];first|rfl|(congr 2;simp;omega)|simp,by exact bel⟩
end
section
open Go.RowKit Go.BigFrame
attribute [local go_sem ↓] Go.wp_at_zero Go.wp_at_succ
def big(z:Int):Bool:=!(inb 1000000000000000 z)
def chk(m:List (List Int)):Int:=if m.all (fun r=>r.length==wid m)=true then(if 64<m.length\/64<wid m then 8 else if m.any (fun r=>r.any big)=true then 2 else 0)else 9
theorem chk9{m:List (List Int)}{r:List Int}(h:r∈m)(h2:r.length≠wid m):chk m=9:=by
 unfold chk;rw[if_neg];intro h3;have:=List.all_eq_true.1 h3 r h;simp at this;exact h2 this
theorem mN{m:List (List Int)}(h:∀(j:Nat) (r:List Int),j<m.length->m[j]?=some r->r.length=wid m):m.all (fun r=>r.length==wid m)=true:=by
 rw[List.all_eq_true];intro r hr;obtain⟨j,hj,e⟩:=List.getElem_of_mem hr;simpa using h j r hj (by rw[List.getElem?_eq_getElem hj,e])
theorem Bl{m:List (List Int)}(h:m.all (fun r=>r.length==wid m)=true)(h2:64<m.length\/64<wid m):chk m=8:=by
 unfold chk;rw[if_pos h,if_pos h2]
theorem chk2{m:List (List Int)}(h:m.all (fun r=>r.length==wid m)=true)(h2:¬(64<m.length\/64<wid m)){r:List Int}(h3:r∈m)(h4:r.any big=true):chk m=2:=by
 unfold chk;rw[if_pos h,if_neg h2,if_pos (List.any_eq_true.2 ⟨r,h3,h4⟩)]
theorem chk0{m:List (List Int)}(h:m.all (fun r=>r.length==wid m)=true)(h2:¬(64<m.length\/64<wid m))(h3:∀(j:Nat) (r:List Int),j<m.length->m[j]?=some r->r.any big=false):chk m=0:=by
 unfold chk;rw[if_pos h,if_neg h2,if_neg];intro h4;obtain⟨r,hr,h5⟩:=List.any_eq_true.1 h4;obtain⟨j,hj,e⟩:=List.getElem_of_mem hr;rw[h3 j r hj (by rw[List.getElem?_eq_getElem hj,e])]at h5;cases h5
set_option maxRecDepth 10000 in
theorem Jf(z:Int)(w:World):
  Calls Tryz.prog 113 #[.int .i64 z] w fun e w'=>e= .returned (.bool (big z))/\Below w.heap.size w w':=by
 have WI:=Lib.hid (fun w=>Aw z 1000000000000000 (by omega) (by omega) w);have E:Hid (big z= !(inb 1000000000000000 z)):=rfl;generalize inb 1000000000000000 z=c at*
 go_enter Tryz.func113,Tryz.ntmps113
 go_wp2_with (go_at_call 91;(with_reducible refine(WI.out _).mono ?_);rintro e w4 ⟨rfl,hb4⟩;obtain⟨g4,rfl⟩:=mob hb4;clear hb4)
 go_ret
 exact⟨by rw[E.out];rfl,by exact bel⟩
theorem Br:∀args w,(callFunc 113 args).run Tryz.prog w= .ok (.enter 113 args) w:=enters_of Tryz.func113 ae rfl
set_option maxRecDepth 10000 in
set_option maxHeartbeats 4000000 in
theorem Dy(m:List (List Int))(v:Value)(hm:m.length<=1000000000)(hr:∀r∈m,r.length<=1000000000)(w:World)(h:ZM w v m):
  Calls Tryz.prog 40 #[v] w fun e w'=>e= .returned (.int .i64 (chk m))/\Below w.heap.size w w':=by
 have WI:=Lib.hid (fun w h=>BW m v hm w h);have AN:=Lib.hid (fun (r:List Int) (hr':r∈m) b c w h=>FU r b c (hr r hr') _ big Br (fun x w=>Jf x w) w h);have H:=Lib.hid h;have C9:=Lib.hid (fun (r:List Int) (h:r∈m) h2=>chk9 h h2);have CA:=Lib.hid (mN (m:=m));have C8:=Lib.hid (Bl (m:=m));have C2:=Lib.hid (fun h h2 (r:List Int) h3 h4=>chk2 (m:=m) h h2 (r:=r) h3 h4);have C0:=Lib.hid (chk0 (m:=m));have HW1:Hid (wid m<=1000000000):=by
  show wid m<=1000000000;unfold wid
  cases m with
  |nil=>simp
  |cons a l=>exact hr a (by simp)
 have hW:=HW1.out;have HLR:Hid _:=hr;obtain⟨a,cap,rfl,_,h4⟩:=h;have H4:=Lib.hid h4;clear h4 hr;generalize hml:m.length=q at*;generalize wid m=W at*;have HQ:=Lib.hid hml;clear hml;generalize chk m=R at*
 go_enter Tryz.func40,Tryz.ntmps40
 go_wp2_with fail
 go_loopw [9] (fun i wr=>∃k:Nat,k<=q/\i= .int .i64 ((k:Int))/\Below w.heap.size w wr/\Hid (∀(j:Nat) (r:List Int),j<k->m[j]?=some r->r.length=W)) (fun i _=>q-(intOf i).toNat)
 case atStart=>exact⟨0,by omega,rfl,by exact bel,fun j r hj=>by omega⟩
 case round=>
  obtain⟨k,hk,rfl,hB,HJ⟩:=hrel;have hsw:w.heap.size<=wr.heap.size:=hB.size;by_cases hkn:k<q
  ·have hkn2:(k:Int)<(q:Int):=by omega
   obtain⟨l,hl⟩:∃l,m[k]?=some l:=⟨m[k]'(by rw[HQ.out];omega),List.getElem?_eq_getElem _⟩;rcases H4.out with h0|⟨a0,ha,hal,hcc⟩
   ·rw[h0]at hl;simp at hl
   obtain⟨b,c,cz,_⟩:=hcc k l hl;have cz2:=iV hB (Nat.le_refl _) cz;subst ha;have HL:=Lib.hid hl;have hll:l.length<=1000000000:=HLR.out l (List.mem_of_getElem? hl);clear hcc cz hl;generalize hgl:l.length=p at*;have HP:=Lib.hid hgl;clear hgl;by_cases he:p=W
   ·subst he
    go_wp2_with (go_at_call 111;(with_reducible refine(WI.out _ ?_).mono ?_);(exact H.out.below (B:=w.heap.size) ah (Nat.le_refl _));rintro e w4 ⟨rfl,hb4⟩;obtain⟨g4,rfl⟩:=mob hb4;clear hb4)
    go_roundw
    case rel=>
     refine⟨k+1,by omega,by go_num,by exact bel,fun j y hj hy=>?_⟩;by_cases e:j=k
     ·subst e;rw[HL.out]at hy;cases hy;exact HP.out
     ·exact HJ.out j y (by omega) hy
    case measure=>simp[intOf];omega
   ·have he2:¬(p:Int)=(W:Int):=by omega
    have E:Hid (R=9):=C9.out l (List.mem_of_getElem? HL.out) (by rw[HP.out];exact he)
    go_wp2_with (go_at_call 111;(with_reducible refine(WI.out _ ?_).mono ?_);(exact H.out.below (B:=w.heap.size) ah (Nat.le_refl _));rintro e w4 ⟨rfl,hb4⟩;obtain⟨g4,rfl⟩:=mob hb4;clear hb4)
    go_ret
    exact⟨by rw[E.out];rfl,by exact bel⟩
  ·obtain rfl:k=q:=by omega
   have hkn2:¬(k:Int)<(k:Int):=by omega
   have HA:=Lib.hid (CA.out (fun j r hj hjr=>HJ.out j r hj hjr));by_cases h1:64<k
   ·have h2:(64:Int)<(k:Int):=by omega
    have E:Hid (R=8):=C8.out HA.out (.inl h1)
    go_wp2_with fail
    go_ret
    exact⟨by rw[E.out];rfl,by exact bel⟩
   ·have h2:¬(64:Int)<(k:Int):=by omega
    have h3:decide ((64:Int)<(k:Int))=false:=by rw[decide_eq_false_iff_not];exact h2
    by_cases h5:64<W
    ·have h6:(64:Int)<(W:Int):=by omega
     have E:Hid (R=8):=C8.out HA.out (.inr h5)
     go_wp2_with (go_at_call 111;(with_reducible refine(WI.out _ ?_).mono ?_);(exact H.out.below (B:=w.heap.size) ah (Nat.le_refl _));rintro e w4 ⟨rfl,hb4⟩;obtain⟨g4,rfl⟩:=mob hb4;clear hb4)
     go_ret
     exact⟨by rw[E.out];rfl,by exact bel⟩
    ·have h6:¬(64:Int)<(W:Int):=by omega
     have HN:Hid (¬(64<k\/64<W)):=fun h=>h.elim h1 h5
     go_wp2_with (go_at_call 111;(with_reducible refine(WI.out _ ?_).mono ?_);(exact H.out.below (B:=w.heap.size) ah (Nat.le_refl _));rintro e w4 ⟨rfl,hb4⟩;obtain⟨g4,rfl⟩:=mob hb4;clear hb4)
     go_loopw [29] (fun i wx=>∃j:Nat,j<=k/\i= .int .i64 ((j:Int))/\Below w.heap.size w wx/\Hid (∀(j':Nat) (r:List Int),j'<j->m[j']?=some r->r.any big=false)) (fun i _=>k-(intOf i).toNat)
     case atStart=>exact⟨0,by omega,rfl,by exact bel,fun j r hj=>by omega⟩
     case round=>
      obtain⟨j,hj,rfl,hBx,HX⟩:=hrel;have hsx:w.heap.size<=wr.heap.size:=hBx.size;by_cases hjk:j<k
      ·have hjk2:(j:Int)<(k:Int):=by omega
       obtain⟨l,hl⟩:∃l,m[j]?=some l:=⟨m[j]'(by rw[HQ.out];omega),List.getElem?_eq_getElem _⟩;rcases H4.out with h0|⟨a0,ha,hal,hcc⟩
       ·rw[h0]at hl;simp at hl
       obtain⟨b,c,cz,_,hz⟩:=hcc j l hl;have cz2:=iV hBx (Nat.le_refl _) cz;subst ha;have HL:=Lib.hid hl;have ANl:=Lib.hid (AN.out l (List.mem_of_getElem? hl) b c);have HZ:=Lib.hid hz;clear hcc cz hl hz;generalize hgl:l.length=p at*;clear hgl;generalize hab:l.any big=t at*;have HT:=Lib.hid hab;clear hab;cases t
       ·go_wp2_with (go_at_call 89;(with_reducible refine(ANl.out _ ?_).mono ?_);(exact HZ.out.below (B:=w.heap.size) ah (Nat.le_refl _));rintro e w4 ⟨rfl,hb4⟩;obtain⟨g4,rfl⟩:=mob hb4;clear hb4)
        go_roundw
        case rel=>
         refine⟨j+1,by omega,by go_num,by exact bel,fun j' y hj' hy=>?_⟩;by_cases e:j'=j
         ·subst e;rw[HL.out]at hy;cases hy;exact HT.out
         ·exact HX.out j' y (by omega) hy
        case measure=>simp[intOf];omega
       ·have E:Hid (R=2):=C2.out HA.out HN.out l (List.mem_of_getElem? HL.out) HT.out
        go_wp2_with (go_at_call 89;(with_reducible refine(ANl.out _ ?_).mono ?_);(exact HZ.out.below (B:=w.heap.size) ah (Nat.le_refl _));rintro e w4 ⟨rfl,hb4⟩;obtain⟨g4,rfl⟩:=mob hb4;clear hb4)
        go_ret
        exact⟨by rw[E.out];rfl,by exact bel⟩
      ·obtain rfl:j=k:=by omega
       have hjk2:¬(j:Int)<(j:Int):=by omega
       have E:Hid (R=0):=C0.out HA.out HN.out (fun j' r h1 h2=>HX.out j' r h1 h2)
       go_wp2_with fail
       go_ret
       exact⟨by rw[E.out];rfl,hBx⟩
end
section
open Go.RowKit
namespace DW
theorem aX{α:Type}{m:List α}{k:Nat}{x:α}(h:m[k]?=some x):m.take (k+1)=m.take k++[x]:=by rw[List.take_add_one,h];rfl
theorem get_some{α:Type}{m:List α}{k:Nat}(h:k<m.length):∃x,m[k]?=some x:=⟨_,List.getElem?_eq_getElem h⟩
theorem yk{m:List (List Int)}(h:0<m.length):∃l,m[0]?=some l/\l.length=wid m:=by
 cases m with
 |nil=>simp at h
 |cons l m=>exact⟨l,rfl,rfl⟩
set_option maxRecDepth 20000
set_option maxHeartbeats 1000000
theorem qv(z a b:Int):Fn Tryz.prog 26 [zI z,zI a,zI b] (.sc (.bool (decide (a<=z)&&decide (z<=b)))):=by
 refine bn Tryz.func26 ae rfl rfl rfl fun X0=>?_;simp only[aE];by_cases h:z>=a
 ·rw[show(decide (a<=z)&&decide (z<=b))=decide (z<=b) by rw[decide_eq_true h,Bool.true_and]];have hd:decide (z>=a)=true:=decide_eq_true h
  (repeat(first|refine gk fun K hK=>?_|refine zs2 ?_));refine bg ?_;(repeat(first|refine gk fun K hK=>?_|refine zs2 ?_));refine Gl ?_;(repeat(first|refine gk fun K hK=>?_|refine zs2 ?_))
  exact⟨_,Sh.refl,.one (.tmp 6) _ rfl (.tmp 6 rfl)⟩
 ·rw[show(decide (a<=z)&&decide (z<=b))=false by rw[decide_eq_false h,Bool.false_and]];have hd:decide (z>=a)=false:=decide_eq_false h
  (repeat(first|refine gk fun K hK=>?_|refine zs2 ?_));refine bg ?_;(repeat(first|refine gk fun K hK=>?_|refine zs2 ?_));refine Gl ?_;(repeat(first|refine gk fun K hK=>?_|refine zs2 ?_))
  exact⟨_,Sh.refl,.one (.tmp 6) _ rfl (.tmp 6 rfl)⟩
theorem Dl(z:Int):Fn Tryz.prog 76 [zI z] (.sc (.bool (inb 1000000000000000 z))):=by
 have W:=qv z (-1000000000000000) 1000000000000000;refine bn Tryz.func76 ae rfl rfl rfl fun X0=>?_;simp only[aE]
 (repeat(first|refine gk fun K hK=>?_|refine zs2 ?_));refine bg ?_;(repeat(first|refine gk fun K hK=>?_|refine zs2 ?_));(refine gar ?_;refine zs4 ?_;refine zs90 ?_;refine zs6 ?_;refine af ?_);(repeat(first|refine gk fun K hK=>?_|refine zs2 ?_))
 exact⟨_,Sh.refl,.one (.tmp 2) _ rfl (.tmp 2 rfl)⟩
theorem lP(m:List (List Int)):Fn Tryz.prog 24 [dM m] (zI (wid m)):=by
 refine bn Tryz.func24 ae rfl rfl rfl fun X0=>?_;simp only[aE];by_cases h:m.length=0
 ·obtain rfl:=List.eq_nil_of_length_eq_zero h
  (repeat(first|refine gk fun K hK=>?_|refine zs2 ?_));refine aS ?_;(repeat(first|refine gk fun K hK=>?_|refine zs2 ?_));refine rl ?_;(repeat(first|refine gk fun K hK=>?_|refine zs2 ?_))
  refine av ?_
  (repeat(first|refine gk fun K hK=>?_|refine zs2 ?_));refine aS ?_;(repeat(first|refine gk fun K hK=>?_|refine zs2 ?_))
  exact⟨_,Sh.refl,.one (.tmp 2) _ rfl (.tmp 2 rfl)⟩
 ·obtain⟨l,hl,hw⟩:=yk (m:=m) (by omega);have hc:(0:Int)=((0:Nat):Int):=rfl
  (repeat(first|refine gk fun K hK=>?_|refine zs2 ?_));refine aS ?_;(repeat(first|refine gk fun K hK=>?_|refine zs2 ?_));refine rl ?_;(repeat(first|refine gk fun K hK=>?_|refine zs2 ?_))
  refine az ?_
  (repeat(first|refine gk fun K hK=>?_|refine zs2 ?_));(refine gar ?_;refine zs4 ?_;refine zs91 ?_;refine sW ?_;refine zs5 ?_;refine zs6 ?_;refine af ?_);(repeat(first|refine gk fun K hK=>?_|refine zs2 ?_))
  rw[<-hw];exact⟨_,Sh.refl,.one (.tmp 2) _ rfl (.tmp 2 rfl)⟩
theorem Ci(z:Int)(hz:Hf z):Fn Tryz.prog 110 [.nm z] (.nm (z.natAbs:Int)):=by
 have S:=oB z hz;have N:=wC z hz;have G:=AU z hz;have s1:=pG z;obtain⟨g,hg⟩:∃g,g=sgn z:=⟨_,rfl⟩;rw[<-hg]at s1 S;refine bn Tryz.func110 ae rfl rfl rfl fun X0=>?_;simp only[aE];by_cases h:z<0
 ·have h1:=s1.2 h;rw[show(z.natAbs:Int)= -z by omega]
  (repeat(first|refine gk fun K hK=>?_|refine zs2 ?_));refine vg ?_;(repeat(first|refine gk fun K hK=>?_|refine zs2 ?_));(refine gar ?_;refine br ?_;refine cZ ?_;refine zs7 ?_;refine af ?_);(repeat(first|refine gk fun K hK=>?_|refine zs2 ?_))
  refine av ?_
  (repeat(first|refine gk fun K hK=>?_|refine zs2 ?_));refine zP ?_;(repeat(first|refine gk fun K hK=>?_|refine zs2 ?_))
  exact⟨_,aG (k:=2) bc bJ bI,.one (.cell 2 62) _ rfl (.cell 2 _ _ rfl rfl ae ae)⟩
 ·have h1:¬g<0:=fun e=>h (s1.1 e);rw[show(z.natAbs:Int)=z by omega]
  (repeat(first|refine gk fun K hK=>?_|refine zs2 ?_));refine vg ?_;(repeat(first|refine gk fun K hK=>?_|refine zs2 ?_));(refine gar ?_;refine br ?_;refine cZ ?_;refine zs7 ?_;refine af ?_);(repeat(first|refine gk fun K hK=>?_|refine zs2 ?_))
  refine az ?_
  (repeat(first|refine gk fun K hK=>?_|refine zs2 ?_));refine zP ?_;(repeat(first|refine gk fun K hK=>?_|refine zs2 ?_))
  exact⟨_,aG (k:=2) bc bJ bI,.one (.cell 2 62) _ rfl (.cell 2 _ _ rfl rfl ae ae)⟩
theorem FT{q:Int}{a b:List Int}{k:Nat}{x y:Int}(ha:a[k]?=some x)(hb:b[k]?=some y):(Mx.bP q a b)[k]?=some (x+q*y):=by
 unfold Mx.bP;rw[List.getElem?_zipWith,ha,hb]
theorem B5(row frm:List Int)(q:Int)(hl:row.length=frm.length)(hr:row.length<=1000000)(h1:∀x∈row,Hf x)(h2:∀y∈frm,Hf y/\Hf (q*y))(hq:Hf q):Fn Tryz.prog 149 [dZ row,dZ frm,.nm q] (dZ (Mx.bP (-q) row frm)):=by
 refine bn Tryz.func149 ae rfl rfl rfl fun X0=>?_;simp only[aE]
 (repeat(first|refine gk fun K hK=>?_|refine zs2 ?_));(refine gar ?_;refine gU ?_;refine zs3 ?_;refine af ?_);(repeat(first|refine gk fun K hK=>?_|refine zs2 ?_));refine cw ?_;(repeat(first|refine gk fun K hK=>?_|refine zs2 ?_));refine aS ?_;(repeat(first|refine gk fun K hK=>?_|refine zs2 ?_))
 refine aq (cY (t:=7) (k:=7) (T:=62) (wd:=2) fI rfl rfl bZ) ?_
 (refine aq (aj (sl':=[(0,dZ row),(1,dZ frm),(5,.pt (.nm q)),(7,.own 7),(8,zI 0)]) (ow':=[(7,⟨62,2,[]⟩)]) au ay) ?_)
 refine aF (fun r s=>∃k,k<=row.length/\r=row.length-k/\s=⟨[(0,dZ row),(1,dZ frm),(5,.pt (.nm q)),(7,.own 7),(8,zI (k:Nat))],[(7,⟨62,2,((Mx.bP (-q) row frm).take k).map .nm⟩)]⟩) (m:=row.length) ⟨0,Nat.zero_le _,rfl,rfl⟩ fun r s hs=>?_;obtain⟨k,hk,rfl,rfl⟩:=hs;by_cases hkl:k<row.length
 ·obtain⟨x,hx⟩:=get_some hkl;obtain⟨y,hy⟩:=get_some (m:=frm) (k:=k) (by omega);have hxy:=FT (q:=-q) hx hy;rw[Int.neg_mul,<-Int.sub_eq_add_neg]at hxy;have hfx:=h1 x (List.mem_of_getElem? hx);have hfy:=h2 y (List.mem_of_getElem? hy);have M:=AY q y hq hfy.1;have S:=GX x (q*y) hfx hfy.2
  (repeat(first|refine gk fun K hK=>?_|refine zs2 ?_));refine aH ?_;(repeat(first|refine gk fun K hK=>?_|refine zs2 ?_))
  refine av ?_
  (repeat(first|refine gk fun K hK=>?_|refine zs2 ?_));(refine zs92 ?_;refine aQ ?_;refine aQ ?_;refine aQ ?_;refine cR ?_;refine bp ?_;refine bp ?_;refine aQ ?_;refine aQ ?_;refine cR ?_;refine bp ?_;refine gT ?_;refine gT ?_;(first|refine cE rfl rfl rfl aa Am aa aa ?_|((try refine aB ?_);refine aL1 rfl rfl rfl Am ?_));((try refine aB ?_);(refine lk rfl rfl rfl rfl bq bq bc aa qu ae ae zb54 bZ qt ?_));refine mX ?_;refine di ?_);(repeat(first|refine gk fun K hK=>?_|refine zs2 ?_));refine aZ ?_;(repeat(first|refine gk fun K hK=>?_|refine zs2 ?_))
  simp only[nx,inB];exact⟨row.length-(k+1),_,by omega,(aj (sl':=[(0,dZ row),(1,dZ frm),(5,.pt (.nm q)),(7,.own 7),(8,zI ((k+1:Nat):Int))]) (ow':=[(7,⟨62,2,((Mx.bP (-q) row frm).take k).map .nm++[.nm (x-q*y)]⟩)]) au ay),k+1,by omega,rfl,by rw[aX hxy,List.map_append];rfl⟩
 ·obtain rfl:k=row.length:=by omega
  have hal:=Mx.jv (-q) row frm hl;rw[List.take_of_length_le (by omega)]
  (repeat(first|refine gk fun K hK=>?_|refine zs2 ?_));refine aH ?_;(repeat(first|refine gk fun K hK=>?_|refine zs2 ?_))
  refine az ?_
  (repeat(first|refine gk fun K hK=>?_|refine zs2 ?_))
  refine aq (aG (k:=7) bc bJ bI) ?_;refine iB ?_
  (repeat(first|refine gk fun K hK=>?_|refine zs2 ?_))
  exact⟨_,Sh.refl,.one (.tmp 6) _ rfl (.tmp 6 rfl)⟩
end DW
end
section
open Go.RowKit
namespace DW
theorem Bl{m:List (List Int)}(h:∀(j:Nat) (r:List Int),j<m.length->m[j]?=some r->r.length=wid m)(h2:64<m.length\/64<wid m):chk m=8:=by
 unfold chk;rw[if_pos (mN h),if_pos h2]
theorem chk2{m:List (List Int)}(h:∀(j:Nat) (r:List Int),j<m.length->m[j]?=some r->r.length=wid m)(h2:¬(64<m.length\/64<wid m)){r:List Int}{z:Int}(hr:r∈m)(hz:z∈r)(hb:inb 1000000000000000 z=false):chk m=2:=by
 unfold chk;rw[if_pos (mN h),if_neg h2,if_pos];rw[List.any_eq_true];refine⟨r,hr,?_⟩;rw[List.any_eq_true];exact⟨z,hz,by unfold big;rw[hb];rfl⟩
theorem chk0{m:List (List Int)}(h:∀(j:Nat) (r:List Int),j<m.length->m[j]?=some r->r.length=wid m)(h2:¬(64<m.length\/64<wid m))(h3:∀r∈m,∀z∈r,inb 1000000000000000 z=true):chk m=0:=by
 unfold chk;rw[if_pos (mN h),if_neg h2,if_neg];intro h4;rw[List.any_eq_true]at h4;obtain⟨r,hr,h5⟩:=h4;rw[List.any_eq_true]at h5;obtain⟨z,hz,h6⟩:=h5;unfold big at h6;rw[h3 r hr z hz]at h6;cases h6
set_option maxRecDepth 20000
set_option maxHeartbeats 1000000
theorem uh(m:List (List Int))(hm:m.length<=1000000000):Fn Tryz.prog 17 [dM m] (zI (chk m)):=by
 refine bn Tryz.func17 ae rfl rfl rfl fun X0=>?_;simp only[aE];have hc0:(0:Int)=((0:Nat):Int):=rfl;have COLS:=lP m
 (repeat(first|refine gk fun K hK=>?_|refine zs2 ?_));refine aS ?_;(repeat(first|refine gk fun K hK=>?_|refine zs2 ?_));refine aS ?_;(repeat(first|refine gk fun K hK=>?_|refine zs2 ?_))
 (refine aq (aj (sl':=[(0,dM m),(3,zI 0)]) (ow':=[]) au ay) ?_)
 refine aF (fun r s=>∃k,k<=m.length/\r=m.length-k/\(∀(j:Nat) (r:List Int),j<k->m[j]?=some r->r.length=wid m)/\s=⟨[(0,dM m),(3,zI (k:Nat))],[]⟩) (m:=m.length) ⟨0,Nat.zero_le _,rfl,fun j r h=>absurd h (Nat.not_lt_zero j),rfl⟩ fun r s hs=>?_;obtain⟨k,hk,rfl,hall,rfl⟩:=hs;by_cases hkl:k<m.length
 ·obtain⟨l0,hl0,hw⟩:=yk (m:=m) (by omega);obtain⟨l,hl⟩:=get_some hkl;by_cases hlw:l.length=wid m
  ·have hn:l.length=l0.length:=by omega
   (repeat(first|refine gk fun K hK=>?_|refine zs2 ?_));refine aH ?_;(repeat(first|refine gk fun K hK=>?_|refine zs2 ?_))
   refine av ?_
   (repeat(first|refine gk fun K hK=>?_|refine zs2 ?_));refine Gk ?_;(repeat(first|refine gk fun K hK=>?_|refine zs2 ?_))
   refine az ?_
   (repeat(first|refine gk fun K hK=>?_|refine zs2 ?_));refine aZ ?_;(repeat(first|refine gk fun K hK=>?_|refine zs2 ?_))
   simp only[nx,inB];exact⟨m.length-(k+1),_,by omega,(aj (sl':=[(0,dM m),(3,zI ((k+1:Nat):Int))]) (ow':=[]) au ay),k+1,by omega,rfl,fun j r hj hr=>by
    by_cases h:j=k
    ·subst h;rw[hl]at hr;cases hr;exact hlw
    ·exact hall j r (by omega) hr,rfl⟩
  ·have hn:l.length≠l0.length:=by omega
   have EC:=chk9 (List.mem_of_getElem? hl) hlw
   (repeat(first|refine gk fun K hK=>?_|refine zs2 ?_));refine aH ?_;(repeat(first|refine gk fun K hK=>?_|refine zs2 ?_))
   refine av ?_
   (repeat(first|refine gk fun K hK=>?_|refine zs2 ?_));refine Gk ?_;(repeat(first|refine gk fun K hK=>?_|refine zs2 ?_))
   refine av ?_
   (repeat(first|refine gk fun K hK=>?_|refine zs2 ?_));refine aS ?_;(repeat(first|refine gk fun K hK=>?_|refine zs2 ?_))
   rw[EC];exact⟨_,Sh.refl,.one (.tmp 2) _ rfl (.tmp 2 rfl)⟩
 ·obtain rfl:k=m.length:=by omega
  obtain⟨W,hW⟩:∃W,W=wid m:=⟨_,rfl⟩;rw[<-hW]at COLS;by_cases h64:64<m.length
  ·have EC:=Bl hall (.inl h64);have hd:decide ((m.length:Int)>64)=true:=decide_eq_true (by omega)
   (repeat(first|refine gk fun K hK=>?_|refine zs2 ?_));refine aH ?_;(repeat(first|refine gk fun K hK=>?_|refine zs2 ?_))
   refine az ?_
   (repeat(first|refine gk fun K hK=>?_|refine zs2 ?_));refine zO ?_;(repeat(first|refine gk fun K hK=>?_|refine zs2 ?_))
   refine av ?_
   (repeat(first|refine gk fun K hK=>?_|refine zs2 ?_));refine aS ?_;(repeat(first|refine gk fun K hK=>?_|refine zs2 ?_))
   rw[EC];exact⟨_,Sh.refl,.one (.tmp 2) _ rfl (.tmp 2 rfl)⟩
  ·have hd:decide ((m.length:Int)>64)=false:=decide_eq_false (by omega);by_cases hw64:64<W
   ·have EC:=Bl hall (.inr (by omega))
    (repeat(first|refine gk fun K hK=>?_|refine zs2 ?_));refine aH ?_;(repeat(first|refine gk fun K hK=>?_|refine zs2 ?_))
    refine az ?_
    (repeat(first|refine gk fun K hK=>?_|refine zs2 ?_));refine zO ?_;(repeat(first|refine gk fun K hK=>?_|refine zs2 ?_))
    refine av ?_
    (repeat(first|refine gk fun K hK=>?_|refine zs2 ?_));refine aS ?_;(repeat(first|refine gk fun K hK=>?_|refine zs2 ?_))
    rw[EC];exact⟨_,Sh.refl,.one (.tmp 2) _ rfl (.tmp 2 rfl)⟩
   ·have hno:¬(64<m.length\/64<wid m):=by omega
    (repeat(first|refine gk fun K hK=>?_|refine zs2 ?_));refine aH ?_;(repeat(first|refine gk fun K hK=>?_|refine zs2 ?_))
    refine az ?_
    (repeat(first|refine gk fun K hK=>?_|refine zs2 ?_));refine zO ?_;(repeat(first|refine gk fun K hK=>?_|refine zs2 ?_))
    refine az ?_
    (repeat(first|refine gk fun K hK=>?_|refine zs2 ?_));refine aS ?_;(repeat(first|refine gk fun K hK=>?_|refine zs2 ?_))
    (refine aq (aj (sl':=[(0,dM m),(4,zI 0)]) (ow':=[]) au ay) ?_)
    refine aF (fun r s=>∃k,k<=m.length/\r=m.length-k/\(∀l∈m.take k,∀z∈l,inb 1000000000000000 z=true)/\s=⟨[(0,dM m),(4,zI (k:Nat))],[]⟩) (m:=m.length) ⟨0,Nat.zero_le _,rfl,fun l h=>absurd h (by simp),rfl⟩ fun r s hs=>?_;obtain⟨k,hk,rfl,hin,rfl⟩:=hs;by_cases hkl:k<m.length
    ·obtain⟨l,hl⟩:=get_some hkl;have hlw:l.length=wid m:=hall k l hkl hl
     (repeat(first|refine gk fun K hK=>?_|refine zs2 ?_));refine aH ?_;(repeat(first|refine gk fun K hK=>?_|refine zs2 ?_))
     refine av ?_
     (repeat(first|refine gk fun K hK=>?_|refine zs2 ?_));refine aS ?_;(repeat(first|refine gk fun K hK=>?_|refine zs2 ?_))
     (refine aq (aj (sl':=[(0,dM m),(4,zI (k:Nat)),(5,zI 0)]) (ow':=[]) au ay) ?_)
     refine aF (fun r s=>∃j,j<=l.length/\r=l.length-j/\(∀z∈l.take j,inb 1000000000000000 z=true)/\s=⟨[(0,dM m),(4,zI (k:Nat)),(5,zI (j:Nat))],[]⟩) (m:=l.length) ⟨0,Nat.zero_le _,rfl,fun z h=>absurd h (by simp),rfl⟩ fun r s hs=>?_;obtain⟨j,hj,rfl,hin2,rfl⟩:=hs;by_cases hjl:j<l.length
     ·obtain⟨z,hz⟩:=get_some hjl;have FITS:=Dl z;by_cases hf:inb 1000000000000000 z=true
      ·rw[hf]at FITS
       (repeat(first|refine gk fun K hK=>?_|refine zs2 ?_));refine iA ?_;(repeat(first|refine gk fun K hK=>?_|refine zs2 ?_))
       refine av ?_
       (repeat(first|refine gk fun K hK=>?_|refine zs2 ?_));refine Gj ?_;(repeat(first|refine gk fun K hK=>?_|refine zs2 ?_))
       refine az ?_
       (repeat(first|refine gk fun K hK=>?_|refine zs2 ?_));refine aZ ?_;(repeat(first|refine gk fun K hK=>?_|refine zs2 ?_))
       simp only[nx,inB];exact⟨l.length-(j+1),_,by omega,(aj (sl':=[(0,dM m),(4,zI (k:Nat)),(5,zI ((j+1:Nat):Int))]) (ow':=[]) au ay),j+1,by omega,rfl,fun y hy=>by
        rw[aX hz]at hy;rcases List.mem_append.1 hy with h|h
        ·exact hin2 y h
        ·rw[List.mem_singleton.1 h];exact hf,rfl⟩
      ·have hf':inb 1000000000000000 z=false:=by simpa using hf
       rw[hf']at FITS;have EC:=chk2 hall hno (List.mem_of_getElem? hl) (List.mem_of_getElem? hz) hf'
       (repeat(first|refine gk fun K hK=>?_|refine zs2 ?_));refine iA ?_;(repeat(first|refine gk fun K hK=>?_|refine zs2 ?_))
       refine av ?_
       (repeat(first|refine gk fun K hK=>?_|refine zs2 ?_));refine Gj ?_;(repeat(first|refine gk fun K hK=>?_|refine zs2 ?_))
       refine av ?_
       (repeat(first|refine gk fun K hK=>?_|refine zs2 ?_));refine aS ?_;(repeat(first|refine gk fun K hK=>?_|refine zs2 ?_))
       rw[EC];exact⟨_,Sh.refl,.one (.tmp 2) _ rfl (.tmp 2 rfl)⟩
     ·obtain rfl:j=l.length:=by omega
      rw[List.take_length]at hin2
      (repeat(first|refine gk fun K hK=>?_|refine zs2 ?_));refine iA ?_;(repeat(first|refine gk fun K hK=>?_|refine zs2 ?_))
      refine az ?_
      (repeat(first|refine gk fun K hK=>?_|refine zs2 ?_));refine aZ ?_;(repeat(first|refine gk fun K hK=>?_|refine zs2 ?_))
      simp only[nx,inB];exact⟨m.length-(k+1),_,by omega,(aj (sl':=[(0,dM m),(4,zI ((k+1:Nat):Int))]) (ow':=[]) au ay),k+1,by omega,rfl,fun y hy=>by
       rw[aX hl]at hy;rcases List.mem_append.1 hy with h|h
       ·exact hin y h
       ·rw[List.mem_singleton.1 h];exact hin2,rfl⟩
    ·obtain rfl:k=m.length:=by omega
     rw[List.take_length]at hin;have EC:=chk0 hall hno hin
     (repeat(first|refine gk fun K hK=>?_|refine zs2 ?_));refine aH ?_;(repeat(first|refine gk fun K hK=>?_|refine zs2 ?_))
     refine az ?_
     (repeat(first|refine gk fun K hK=>?_|refine zs2 ?_));refine aS ?_;(repeat(first|refine gk fun K hK=>?_|refine zs2 ?_))
     rw[EC];exact⟨_,Sh.refl,.one (.tmp 2) _ rfl (.tmp 2 rfl)⟩
end DW
end
end Go.Proofs.YtcgjmdpcplhanaaGreat
