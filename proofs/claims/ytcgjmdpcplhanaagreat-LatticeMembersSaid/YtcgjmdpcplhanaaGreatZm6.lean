/- Lemmas for the law: V4 V8 V9 V10 V12 V13 V14 V15 V17 V18 V19 E11 -/
import Derived.Deep.CutBlock
import Derived.Maps.AppendAt
import Derived.Deep.RegionLaw
import Derived.Shelf.Abstract
import Derived.Test.YtcgjmdpcplhanaaGreatZm5
namespace Go.Proofs.YtcgjmdpcplhanaaGreat
section
theorem lZ{p:Prop}(h:p:=by rw[HQ.out];exact hkn):p:=h
theorem ye{p:Prop}(h:p:=by simp[results,Tryz.results74,go_sem]):p:=h
theorem tM{p:Prop}(h:p:=by simp[results,Tryz.results120,go_sem]):p:=h
theorem dK{p q:Prop}(h:q)(f:Wq q→p:=by(intro hW;((refine Own3.iK rfl (fun K hK=>?_);go_simp;(try go_bits);refine⟨fun w' hw' hcb'=>?_,hK _ ?_⟩;(focus(first|with_reducible exact rfl|with_reducible exact⟨rfl,rfl⟩|(obtain⟨gx,rfl⟩:=mob (Ext.below hw');go_simp;first|exact rfl|exact⟨rfl,rfl⟩)|(go_at_call 161;(have hf1:=hcb'.get (u:=10) lf;have hf2:=hcb'.get (u:=18) lf;exact(rT x111 x112 _ _ F1.out F2.out _ (IZ.ip (show IZ w' x111 ((Mx.at' M i c).natAbs:Int)from hf1)) (IZ.ip (show IZ w' x112 ((Mx.at' M t c).natAbs:Int)from hf2)))))));clear hK K));exact hW.out)):p:=f ⟨h⟩
theorem qZ{p:Prop}(h:p:=by rw[HSL.out];omega):p:=h
theorem oW{p:Prop}(h:p:=by rw[HW.out.len];exact hrr):p:=h
theorem zs92{p q:Prop}(h:q)(f:Wq q→p:=by(intro hW;((first|refine cw rfl rfl rfl aa zb23 aa aa ?_|((try refine aD ?_);refine aL1 rfl rfl rfl zb23 ?_)));exact hW.out)):p:=f ⟨h⟩
theorem yd{p:Prop}(h:p:=by rw[Int.natAbs_neg];exact HQB.out):p:=h
theorem DK{p q:Prop}(h:q)(f:Wq q→p:=by(intro hW;((refine gar ?_;refine zs4 ?_;refine zs4 ?_;refine jn ?_;refine zs4 ?_;refine zs8 ?_;refine zs8 ?_;refine zs60 ?_;refine gJ ?_;refine zs6 ?_;refine ae ?_));exact hW.out)):p:=f ⟨h⟩
theorem zb53{p:Prop}(h:p:=by(simp only[List.length_map,List.length_take,List.length_cons,List.length_nil];omega)):p:=h
theorem zs91{p q:Prop}(h:q)(f:Wq q→p:=by(intro hW;((first|(apply ak 13;(focus kernel_rfl);(focus(decide+kernel)))|(apply ak 12;(focus kernel_rfl);(focus(decide+kernel)))|(apply ak 11;(focus kernel_rfl);(focus(decide+kernel)))|(apply ak 10;(focus kernel_rfl);(focus(decide+kernel)))|(apply ak 9;(focus kernel_rfl);(focus(decide+kernel)))|(apply ak 8;(focus kernel_rfl);(focus(decide+kernel)))|(apply ak 7;(focus kernel_rfl);(focus(decide+kernel)))|(apply ak 6;(focus kernel_rfl);(focus(decide+kernel))));simp only[List.take_succ_cons,List.take_zero,List.drop_succ_cons,List.drop_zero]);exact hW.out)):p:=f ⟨h⟩
theorem eI{p q:Prop}(h:q)(f:Wq q→p:=by(intro hW;((refine Own3.iK rfl (fun K hK=>?_);go_simp;first|refine⟨rfl,hK _ ?_⟩|refine hK _ ?_;clear hK K));exact hW.out)):p:=f ⟨h⟩
theorem zb27{p:Prop}(h:p:=by(apply xg;(focus(exact rfl));(focus((apply ao;(conv=>lhs;whnf);(first|done|exact rfl))));(focus(exact bu));(focus(exact bu));(focus(exact rfl));(focus(exact rfl));(focus(exact rfl));(focus(assumption));(focus(exact rfl)))):p:=h
theorem tD{p q:Prop}(h:q)(f:Wq q→p:=by(intro hW;(refine aL1 rfl rfl rfl zb27 ?_);exact hW.out)):p:=f ⟨h⟩
end
section
open Go.RowKit Go.BigFrame
attribute [local go_sem ↓] Go.wp_at_zero Go.wp_at_succ
theorem aZ{z:Int}{e:Nat}(h:z.natAbs≤2^e)(he:e≤6000000000000):Fit z:=by
 refine⟨e/32+1,by omega,Nat.lt_of_le_of_lt h ?_⟩
 rw[show B32=2^32 from rfl,←Nat.pow_mul]
 exact Nat.pow_lt_pow_right (by omega) (by omega)
def vc:Option Nat→Int
 |none=>-1
 |some t=>t
structure R1(w wr:World)(B gm L n m:Nat)(gs cs:Nat→Nat)(M:Mx.Mat):Prop where
 mo:MO wr B gm L gs cs n M
 bl:Below B w wr
 len:M.length=m
theorem R1.ext{w wr wx:World}{B gm L n m:Nat}{gs cs:Nat→Nat}{M:Mx.Mat}(h:R1 w wr B gm L n m gs cs M)(hB:B≤wr.heap.size)(k:Below wr.heap.size wr wx):R1 w wx B gm L n m gs cs M:=
 ⟨h.mo.below k (Nat.le_refl _),h.bl.trans (k.mono hB),h.len⟩
theorem MO.elem{w:World}{B gm L:Nat}{gs cs:Nat→Nat}{n:Nat}{M:Mx.Mat}(h:MO w B gm L gs cs n M){i j:Nat}(hi:i<M.length)(hj:j<n):
  ∃x:IV,w.cell? ⟨gm,i,none⟩=some (.slice (some ⟨gs i,0,none⟩) n (cs i))∧w.cell? ⟨gs i,j*2,none⟩=some (.bool x.s)∧w.cell? ⟨gs i,j*2+1,none⟩=some (.slice x.a x.n x.cap)∧IZ w x (Mx.at' M i j)∧gs i<w.heap.size:=by
 obtain⟨h1,h2,h3,h4,h5⟩:=h.hc i hi
 obtain⟨x,x1,x2,x3,_⟩:=h5.at (k:=j) (z:=Mx.at' M i j) (getD_some (by rw[h.rc.rw hi];exact hj))
 exact⟨x,h1,x1,x2,x3,h5.lt⟩
theorem R1.swp{w wr:World}{B gm L n m:Nat}{gs cs:Nat→Nat}{M:Mx.Mat}(h:R1 w wr B gm L n m gs cs M){i j:Nat}(hi:i<m)(hj:j<m):
  R1 w ((wr.setCell ⟨gm,i,none⟩ (.slice (some ⟨gs j,0,none⟩) n (cs j))).setCell ⟨gm,j,none⟩ (.slice (some ⟨gs i,0,none⟩) n (cs i))).drew B gm L n m (ix gs i j) (ix cs i j) (Mx.swp M i j):=
 ⟨(h.mo.swp (by rw[h.len];exact hi) (by rw[h.len];exact hj)).below (Below.refl _ _).drew (Nat.le_refl _),((h.bl.setCell h.mo.b _).setCell h.mo.b _).drew,by rw[Mx.bS];exact h.len⟩
theorem jZ{l:List Int}{j:Nat}{x:Int}(h:l[j]?=some x):l.getD j 0=x:=by rw[List.getD_eq_getElem?_getD,h];rfl
theorem pC{E i r:Nat}{N:Mx.Mat}(hb:Mx.Bd (2^E) N)(hE:2*E≤6000000000000)(kz:Int)(hk:kz.natAbs≤2^E)(j:Nat)(x y:Int)(hx:(Mx.rw N i)[j]?=some x)(hy:(Mx.rw N r)[j]?=some y):Fit x∧Fit y∧Fit (kz*y):=by
 have h1:=hb i j
 have h2:=hb r j
 unfold Mx.at' at h1 h2
 rw[jZ hx]at h1
 rw[jZ hy]at h2
 refine⟨aZ h1 (by omega),aZ h2 (by omega),aZ (e:=2*E) ?_ hE⟩
 rw[Int.natAbs_mul,Nat.two_mul,Nat.pow_add]
 exact Nat.mul_le_mul hk h2
theorem R1.set{w wr wx:World}{B gm L n m:Nat}{gs cs:Nat→Nat}{M:Mx.Mat}(h:R1 w wr B gm L n m gs cs M){i:Nat}(hi:i<m){zs:List Int}(hz:zs.length=n)(k:Chg (gs i) wr wx)(hr:RO wx (gs i) zs):R1 w wx B gm L n m gs cs (M.set i zs):=
 have hi2:i<M.length:=by rw[h.len];exact hi
 ⟨h.mo.setRow hi2 hz k hr,k.below h.bl (h.mo.hc i hi2).2.2.1 (Nat.le_of_lt (Nat.lt_of_le_of_lt h.mo.b h.mo.lt)),by rw[List.length_set];exact h.len⟩
structure R2(w wr:World)(B gm L n m e:Nat)(T:Nat×Mx.Mat)(cN c r:Nat)(gs cs:Nat→Nat)(M:Mx.Mat):Prop where
 r1:R1 w wr B gm L n m gs cs M
 rm:r≤m
 eq:Mx.red (cN-c) c (r,M)=T
 bd:Mx.Bd (2^(e*11^c)) M
set_option maxRecDepth 10000 in
set_option maxHeartbeats 8000000 in
theorem yD(B gm L cap n cN e:Nat)(gs cs:Nat→Nat)(M:Mx.Mat)(hc:cN≤n)(hn1:n≤1000)(hL:M.length≤1000)(he:6≤e)(hf:2*(e*11^cN)≤6000000000000)(hb:Mx.Bd (2^e) M)
    (w:World) (h:MO w B gm L gs cs n M):
    Calls Tryz.prog 145 #[.slice (some ⟨gm,0,none⟩) M.length cap, .int .i64 ((cN:Int))] w fun e w'=>e= .returned (.int .i64 (((Mx.red cN 0 (0,M)).1:Int)))∧Below B w w'∧∃gs' cs',MO w' B gm L gs' cs' n (Mx.red cN 0 (0,M)).2:=by
  obtain⟨T,hT⟩:∃T,T=Mx.red cN 0 (0,M):=⟨_,rfl⟩
  rw[←hT]
  generalize hl:M.length=m at*
  have H0:Hid (R2 w w B gm L n m e T cN 0 0 gs cs M):=⟨⟨h,Below.refl _ _,hl⟩,Nat.zero_le _,hT.symm,by rw[Nat.pow_zero,Nat.mul_one];exact hb⟩
  have HF:=Lib.hid hf
  clear h hb hl hT hf
  go_enter Tryz.func145,Tryz.ntmps145
  go_wp2_with fail
  go_loopg [5,6] cN (fun kk s5 s6 wr=>∃(r c:Nat) (gs cs:Nat→Nat) (M:Mx.Mat),kk=cN-c∧c≤cN∧r≤m∧s5= .int .i64 ((r:Int))∧s6= .int .i64 ((c:Int))∧Hid (R2 w wr B gm L n m e T cN c r gs cs M))
  case atStart=>exact⟨0,0,gs,cs,M,by omega,by omega,by omega,rfl,rfl,H0⟩
  case round=>
    clear H0
    obtain⟨r,c,gs,cs,M,rfl,hcN,hrm,rfl,rfl,HR⟩:=hrel
    by_cases hcc:c<cN
    · have hcc2:(c:Int)<(cN:Int):=by omega
      have hcc3:decide ((c:Int)<(cN:Int))=true:=by rw[decide_eq_true_iff];exact hcc2
      by_cases hrr:r<m
      · have hrr2:(r:Int)<(m:Int):=by omega
        have hrr3:decide ((r:Int)<(m:Int))=true:=by rw[decide_eq_true_iff];exact hrr2
        go_upto_block 2 with fail
        go_cut [7]from 12 to 176 (fun _ wx=>∃(gs cs:Nat→Nat),Hid (R1 w wx B gm L n m gs cs (Mx.bZ r c M)))
        case first=>
          as_aux_lemma=>
            have hK0:Mx.Jn (2^(e*11^(c+1))) r c M:=by
              refine .inl ⟨2^(e*11^c),Nat.pow_pos (by omega),HR.out.bd,Nat.le_trans (Mx.yK _) (Nat.le_trans (Mx.qo ?_) (Nat.le_of_eq ?_))⟩
              · have:1≤11^c:=Nat.pow_pos (by omega)
                exact Nat.le_trans he (Nat.le_mul_of_pos_right e this)
              · rw[Mx.e11]
            have hKf:2*(e*11^(c+1))≤6000000000000:=Nat.le_trans (Nat.mul_le_mul_left 2 (Nat.mul_le_mul_left e (Nat.pow_le_pow_right (by omega) (by omega)))) HF.out
            generalize e*11^(c+1)=E at*
            have HJ:Hid (R1 w wr B gm L n m gs cs M∧Mx.Jn (2^E) r c M):=⟨HR.out.r1,hK0⟩
            generalize hMc:Mx.bZ r c M=Mc
            have HM0:Hid (Mx.bZ r c M=Mc):=hMc
            clear hMc hK0 HR
            go_wp2_with fail
            go_loopg [7] (Mx.eY r c M) (fun kk _ wx=>∃(gs cs:Nat→Nat) (M2:Mx.Mat),kk=Mx.eY r c M2∧Hid (R1 w wx B gm L n m gs cs M2∧Mx.Jn (2^E) r c M2)∧Hid (Mx.bZ r c M2=Mc))
            case atStart=>exact⟨gs,cs,M,rfl,HJ,HM0⟩
            case round=>
              clear HJ
              obtain⟨gs,cs,M,rfl,HJ,HMc⟩:=hrel
              have hBw:B≤wr.heap.size:=Nat.le_of_lt (Nat.lt_of_le_of_lt HJ.out.1.mo.b HJ.out.1.mo.lt)
              go_upto_block 4 with fail
              go_cut [7,8]from 23 to 122 (fun s7 s8 wy=>s7= .int .i64 (vc (Mx.pick r c M).1)∧s8= .int .i64 (((Mx.pick r c M).2:Int))∧Hid (R1 w wy B gm L n m gs cs M))
              case first=>
                as_aux_lemma=>
                  go_wp2_with fail
                  go_loopg [7,8,9] (m-r) (fun kk s7 s8 s9 wy=>∃i:Nat,r≤i∧i≤m∧kk=m-i∧s7= .int .i64 (vc (Mx.scan c r M (i-r)).1)∧s8= .int .i64 (((Mx.scan c r M (i-r)).2:Int))∧s9= .int .i64 ((i:Int))∧Hid (R1 w wy B gm L n m gs cs M))
                  case atStart=>exact⟨r,Nat.le_refl _,hrm,rfl,by rw[Nat.sub_self];rfl,by rw[Nat.sub_self];rfl,rfl,HJ.out.1⟩
                  case round=>
                    obtain⟨i,hri,him,rfl,rfl,rfl,rfl,HW⟩:=hrel
                    by_cases hi:i<m
                    · have hi2:(i:Int)<(m:Int):=by omega
                      obtain⟨x,k0,x0,x1,xz,xl⟩:=HW.out.mo.elem (i:=i) (j:=c) (by rw[HW.out.len];exact hi) (by omega)
                      have HX:=Lib.hid xz
                      have fx:Fit (Mx.at' M i c):=aZ (Mx.mK HJ.out.2 i c) (by omega)
                      have FX:=Lib.hid fx
                      have hcn:(c:Int)<(n:Int):=by omega
                      obtain⟨xs,xa,xn,xc⟩:=x
                      simp only[]at x0 x1
                      clear xz fx
                      have hBy:B≤wr.heap.size:=Nat.le_of_lt (Nat.lt_of_le_of_lt HW.out.mo.b HW.out.mo.lt)
                      have gml:gm<wr.heap.size:=HW.out.mo.lt
                      have hsc2:(Mx.scan c r M (i-r)).2≤i-r:=Mx.uh c r M (i-r)
                      by_cases hz:Mx.at' M i c=0
                      · have hd:decide (Mx.at' M i c=0)=true:=by rw[decide_eq_true_iff];exact hz
                        have HZ:=Lib.hid (Mx.zZ (c:=c) (M:=M) hri hz)
                        have ZE:=Lib.hid (fun w hx=>hd▸db ⟨xs,xa,xn,xc⟩ (Mx.at' M i c) w hx)
                        clear hz hd
                        go_wp2_with ((go_at_call 95;(with_reducible refine(ZE.out _ ?_).mono ?_);(focus(exact HX.out.below (B:=wr.heap.size) ah (Nat.le_refl _)));rintro e w1 ⟨rfl,hb1⟩;obtain⟨g1,rfl⟩:=mob hb1;clear hb1))
                        go_roundg (m-(i+1))
                        case measure=>omega
                        case rel=>exact⟨i+1,by omega,by omega,rfl,by rw[HZ.out],by rw[HZ.out],by go_num,HW.out.ext hBy ah⟩
                      · have hd:decide (Mx.at' M i c=0)=false:=by rw[decide_eq_false_iff_not];exact hz
                        have ZE:=Lib.hid (fun w hx=>hd▸db ⟨xs,xa,xn,xc⟩ (Mx.at' M i c) w hx)
                        have NZ:=Lib.hid hz
                        clear hz hd
                        cases hp:(Mx.scan c r M (i-r)).1 with
                        |none=>
                          have HS:=Lib.hid (Mx.z5 hri NZ.out hp)
                          generalize(Mx.scan c r M (i-r)).2=q at*
                          clear hp
                          simp only[vc]
                          go_upto_region 11 with((go_at_call 95;(with_reducible refine(ZE.out _ ?_).mono ?_);(focus(exact HX.out.below (B:=wr.heap.size) ah (Nat.le_refl _)));rintro e w1 ⟨rfl,hb1⟩;obtain⟨g1,rfl⟩:=mob hb1;clear hb1))
                          (apply Own3.bR 21 [.inl _, .inl _, .inl _, .inl undef, .inl undef, .inl undef, .inl undef, .inl undef, .inl undef, .inl undef, .inl undef, .inl undef, .inl undef, .inl undef, .inl undef, .inl undef, .inl undef, .inl undef, .inl undef, .inl undef, .inl undef] af af;simp only[List.take_succ_cons,List.take_zero,List.drop_succ_cons,List.drop_zero];refine zs1 ?_;refine zs1 ?_;refine zs1 ?_;refine eI ?_;refine eI ?_;refine eI ?_;refine eI ?_;refine eI ?_;refine eI ?_;refine eI ?_;refine eI ?_;refine eI ?_;refine eI ?_;refine eI ?_;refine eI ?_;refine eI ?_;refine eI ?_;refine eI ?_;refine eI ?_;refine eI ?_;refine eI ?_;refine Own3.gj ?_;intro w11 hw11;have hB11:=hw11.1;clear hw11;obtain⟨g11,rfl⟩:=mob hB11;clear hB11)
                          go_wp2_with fail
                          go_roundg (m-(i+1))
                          case measure=>omega
                          case rel=>exact⟨i+1,by omega,by omega,rfl,by rw[HS.out];rfl,by rw[HS.out];go_num,by go_num,HW.out.ext hBy ah⟩
                        |some t=>
                          have HT0:=Lib.hid ((Mx.cS c r M (i-r)).yes t hp)
                          have htr:t<m:=by have:=HT0.out.2.1;omega
                          have htr2:(t:Int)<(m:Int):=by omega
                          have hd:decide ((t:Int)<0)=false:=by rw[decide_eq_false_iff_not];omega
                          have hd2:¬(t:Int)<0:=by omega
                          obtain⟨y,kt,y0,y1,yz,yl⟩:=HW.out.mo.elem (i:=t) (j:=c) (by rw[HW.out.len];exact htr) (by omega)
                          have HY:=Lib.hid yz
                          have fy:Fit (Mx.at' M t c):=aZ (Mx.mK HJ.out.2 t c) (by omega)
                          have FY:=Lib.hid fy
                          have F1:Hid (Fit ((Mx.at' M i c).natAbs:Int)):=aZ (by rw[Int.natAbs_natCast];exact Mx.mK HJ.out.2 i c) (by omega)
                          have F2:Hid (Fit ((Mx.at' M t c).natAbs:Int)):=aZ (by rw[Int.natAbs_natCast];exact Mx.mK HJ.out.2 t c) (by omega)
                          obtain⟨ys,ya,yn,yc⟩:=y
                          simp only[]at y0 y1
                          have SG:Hid (((Mx.at' M i c).natAbs<(Mx.at' M t c).natAbs→sgn (((Mx.at' M i c).natAbs:Int)-((Mx.at' M t c).natAbs:Int))<0)∧(¬(Mx.at' M i c).natAbs<(Mx.at' M t c).natAbs→¬sgn (((Mx.at' M i c).natAbs:Int)-((Mx.at' M t c).natAbs:Int))<0)):=by
                            refine⟨fun h=> ?_,fun h=> ?_⟩
                            · unfold sgn;rw[if_neg (by omega),if_pos (by omega)];omega
                            · unfold sgn
                              by_cases h0:((Mx.at' M i c).natAbs:Int)-((Mx.at' M t c).natAbs:Int)=0
                              · rw[if_pos h0];omega
                              · rw[if_neg h0,if_neg (by omega)];omega
                          have HLT:=Lib.hid (Mx.wv hri NZ.out hp)
                          have HGE:=Lib.hid (Mx.wz hri NZ.out hp)
                          generalize(Mx.scan c r M (i-r)).2=q at*
                          clear hp fy yz
                          simp only[vc]
                          go_upto_region 11 with((go_at_call 95;(with_reducible refine(ZE.out _ ?_).mono ?_);(focus(exact HX.out.below (B:=wr.heap.size) ah (Nat.le_refl _)));rintro e w1 ⟨rfl,hb1⟩;obtain⟨g1,rfl⟩:=mob hb1;clear hb1))
                          have hBa:Below wr.heap.size wr (more wr g1):=by exact bel
                          have HBA:=Lib.hid hBa
                          clear hBa
                          (apply Own3.bR 21 [.inl _, .inl _, .inl _, .inl _, .inl _, .inl _, .inl _, .inl _, .inl _, .inl _, .inr (rIZ (((Mx.at' M i c).natAbs:Int))), .inl _, .inl _, .inl _, .inl _, .inl _, .inl _, .inl _, .inr (rIZ (((Mx.at' M t c).natAbs:Int))), .inl _, .inl _] af af;simp only[List.take_succ_cons,List.take_zero,List.drop_succ_cons,List.drop_zero];refine dK ?_;refine dK ?_;refine dK ?_;refine dK ?_;refine dK ?_;refine dK ?_;refine dK ?_;refine dK ?_;refine dK ?_;refine dK ?_;(refine Own3.cr rfl (fun K hK=> ?_) (fun x111=> ?_);(focus(go_simp;clear hK K;intro w' hw' hcb';first|(go_at_call 185;(first|exact cI (jc ⟨xs,xa,xn,xc⟩ (Mx.at' M i c) FX.out _ ((HX.out.below (Below.trans HBA.out ((Ext.below hw').mono HBA.out.size)) (Nat.le_refl _)).ip))|exact cI (jc ⟨ys,ya,yn,yc⟩ (Mx.at' M t c) FY.out _ ((HY.out.below (Below.trans HBA.out ((Ext.below hw').mono HBA.out.size)) (Nat.le_refl _)).ip))))));simp only[rIZ,Act.put,List.setIfInBounds_toArray,List.set_cons_succ,List.set_cons_zero]);refine dK ?_;refine dK ?_;refine dK ?_;refine dK ?_;refine dK ?_;refine dK ?_;refine dK ?_;(refine Own3.cr rfl (fun K hK=> ?_) (fun x112=> ?_);(focus(go_simp;clear hK K;intro w' hw' hcb';first|(go_at_call 185;(first|exact cI (jc ⟨xs,xa,xn,xc⟩ (Mx.at' M i c) FX.out _ ((HX.out.below (Below.trans HBA.out ((Ext.below hw').mono HBA.out.size)) (Nat.le_refl _)).ip))|exact cI (jc ⟨ys,ya,yn,yc⟩ (Mx.at' M t c) FY.out _ ((HY.out.below (Below.trans HBA.out ((Ext.below hw').mono HBA.out.size)) (Nat.le_refl _)).ip))))));simp only[Act.put,List.setIfInBounds_toArray,List.set_cons_succ,List.set_cons_zero]);refine dK ?_;refine dK ?_;refine Own3.gj ?_;intro w11 hw11;have hB11:=hw11.1;have HY111:Hid (IZ w11 x111 (((Mx.at' M i c).natAbs:Int))):=Lib.hid (hw11.get (u:=10) (Or.inr (Or.inl ⟨rfl,rfl⟩)));have HY112:Hid (IZ w11 x112 (((Mx.at' M t c).natAbs:Int))):=Lib.hid (hw11.get (u:=18) (Or.inl ⟨rfl,rfl⟩));clear hw11;obtain⟨g11,rfl⟩:=mob hB11;clear hB11)
                          clear HY111 HY112
                          by_cases hlt:(Mx.at' M i c).natAbs<(Mx.at' M t c).natAbs
                          · have hs1:=SG.out.1 hlt
                            have hs2:decide (sgn (((Mx.at' M i c).natAbs:Int)-((Mx.at' M t c).natAbs:Int))<0)=true:=by rw[decide_eq_true_iff];exact hs1
                            have HS:=Lib.hid (HLT.out hlt)
                            clear hlt
                            go_wp2_with fail
                            go_roundg (m-(i+1))
                            case measure=>omega
                            case rel=>exact⟨i+1,by omega,by omega,rfl,by rw[HS.out];rfl,by rw[HS.out];go_num,by go_num,HW.out.ext hBy ah⟩
                          · have hs1:=SG.out.2 hlt
                            have hs2:decide (sgn (((Mx.at' M i c).natAbs:Int)-((Mx.at' M t c).natAbs:Int))<0)=false:=by rw[decide_eq_false_iff_not];omega
                            have HS:=Lib.hid (HGE.out hlt)
                            clear hlt
                            go_wp2_with fail
                            go_roundg (m-(i+1))
                            case measure=>omega
                            case rel=>exact⟨i+1,by omega,by omega,rfl,by rw[HS.out];rfl,by rw[HS.out];go_num,by go_num,HW.out.ext hBy ah⟩
                    · have hi2:¬(i:Int)<(m:Int):=by omega
                      obtain rfl:i=m:=by omega
                      go_wp2_with fail
                      go_meet
                      case rel=>exact⟨by unfold Mx.pick;rw[HJ.out.1.len],by unfold Mx.pick;rw[HJ.out.1.len],HW⟩
              case rest=>
                obtain⟨rfl,rfl,HW⟩:=hcut
                have hBc:B≤wc.heap.size:=Nat.le_of_lt (Nat.lt_of_le_of_lt HW.out.mo.b HW.out.mo.lt)
                have gml:gm<wc.heap.size:=HW.out.mo.lt
                cases hp:(Mx.pick r c M).1 with
                |none=>
                  have hq:(Mx.pick r c M).2=0:=((Mx.cS c r M (M.length-r)).no hp).1
                  rw[hq]
                  have HE:=Lib.hid ((Mx.nN hp).symm.trans HMc.out)
                  clear hp hq
                  go_wp2_with fail
                  go_meet
                  case rel=>exact⟨gs,cs,by rw[HM0.out,←HE.out];exact HW⟩
                |some t=>
                  have SC:=Lib.hid ((Mx.cS c r M (M.length-r)).yes t hp)
                  have htm:t<m:=by have:=SC.out.2.1;have:=HW.out.len;omega
                  have htm2:(t:Int)<(m:Int):=by omega
                  have hrt:r≤t:=SC.out.1
                  obtain⟨q,hq⟩:∃q,(Mx.pick r c M).2=q:=⟨_,rfl⟩
                  have hq0:1≤q:=by have:=SC.out.2.2.2.2.1;unfold Mx.pick at hq;omega
                  have HO:=Lib.hid (fun (h:q=1)=>Mx.pG hp (hq.trans h))
                  have HS:=Lib.hid (fun (h:q≠1)=>Mx.nM HW.out.mo.rc hp (by rw[hq];exact h))
                  have HN:=Lib.hid (fun (h:q≠1)=>Mx.fC HW.out.mo.rc hp (by rw[hq];exact h))
                  have HJ2:=Lib.hid (fun (h:q≠1)=>Mx.rN HW.out.mo.rc HJ.out.2 hp (by rw[hq];exact h))
                  rw[hq]
                  have kr:=(HW.out.mo.hc r oW).1
                  have kt:=(HW.out.mo.hc t (by rw[HW.out.len];exact htm)).1
                  have fr:=HW.out.mo.fr r
                  have ft:=HW.out.mo.fr t
                  have hMS:=HW.out.mo.swp (i:=r) (j:=t) oW (by rw[HW.out.len];exact htm)
                  have HMS:=Lib.hid hMS
                  clear hMS hp hq
                  simp only[vc]
                  have q1:¬(q:Int)=0:=by omega
                  have q2:¬q=0:=by omega
                  have q3:((q:Int)==0)=false:=by rw[beq_eq_false_iff_ne];exact q1
                  go_upto_region 14 with fail
                  go_cut [10]from 23 to 122 (fun _ wy=>Hid (R1 w wy B gm L n m (ix gs r t) (ix cs r t) (Mx.swp M r t)))
                  case first=>
                    as_aux_lemma=>
                      have HRS:=Lib.hid (HW.out.swp hrr htm)
                      by_cases htr:t=r
                      · subst htr
                        go_region
                        all_goals(go_wp2_with fail;go_meet)
                        case rel=>exact HRS.out
                      · have htr2:¬r=t:=by omega
                        go_region
                        all_goals(go_wp2_with fail;go_meet)
                        case rel=>exact HRS.out
                  case rest=>
                    have HW2:=hcut
                    clear kr kt fr ft HW HMS gml hBc hcut
                    generalize ix gs r t=gs2 at HW2
                    generalize ix cs r t=cs2 at HW2
                    by_cases hq1:q=1
                    · have HE:=Lib.hid ((HO.out hq1).symm.trans HMc.out)
                      subst hq1
                      clear HO HS HN HJ2
                      go_wp2_with fail
                      go_meet
                      case rel=>exact⟨gs2,cs2,by rw[HM0.out,←HE.out];exact HW2⟩
                    · have q4:¬(q:Int)=1:=by omega
                      have q5:((q:Int)==1)=false:=by rw[beq_eq_false_iff_ne];exact q4
                      have HE:=Lib.hid ((HS.out hq1).symm.trans HMc.out)
                      have HN1:=Lib.hid (HN.out hq1).2.2.2
                      have HJ3:=Lib.hid (HJ2.out hq1)
                      have hpiv:Mx.at' (Mx.swp M r t) r c≠0:=by
                        have h1:=SC.out.2.2.1
                        have h2:=(HN.out hq1)
                        rw[Mx.bI h2.1 h2.2.1]
                        split
                        · rename_i e;rw[e];exact h1
                        · rw[if_pos rfl];exact h1
                      have HPV:Hid (Mx.at' (Mx.swp M r t) r c≠0):=hpiv
                      have HLM:=Lib.hid HJ.out.1.len
                      unfold Mx.elim at HE HN1 HJ3
                      generalize hS:Mx.swp M r t=S at*
                      have HSL:Hid (S.length=m):=HW2.out.len
                      have HRC:Hid (Mx.Rc n S):=HW2.out.mo.rc
                      clear HO HS HN HJ2 hpiv SC hS
                      go_wp2_with fail
                      go_loopg [10] (m-(r+1)) (fun kk s10 wy=>∃i:Nat,r+1≤i∧i≤m∧kk=m-i∧s10= .int .i64 ((i:Int))∧Hid (R1 w wy B gm L n m gs2 cs2 (Mx.aI r c (r+1) S (i-(r+1)))))
                      case atStart=>exact⟨r+1,Nat.le_refl _,hrr,by omega,by go_num,by rw[Nat.sub_self];exact HW2⟩
                      case round=>
                        clear HW2
                        obtain⟨i,hri,him,rfl,rfl,HW⟩:=hrel
                        have hBy:B≤wr.heap.size:=Nat.le_of_lt (Nat.lt_of_le_of_lt HW.out.mo.b HW.out.mo.lt)
                        have gml:gm<wr.heap.size:=HW.out.mo.lt
                        have hcn:(c:Int)<(n:Int):=by omega
                        by_cases hi:i<m
                        · have hi2:(i:Int)<(m:Int):=by omega
                          have hrc:Mx.Rc n S:=HRC.out
                          have HZ:=Lib.hid (fun (h:Mx.at' (Mx.aI r c (r+1) S (i-(r+1))) i c=0)=>(show Mx.aI r c (r+1) S (i+1-(r+1))=Mx.aI r c (r+1) S (i-(r+1)) by
                            rw[show i+1-(r+1)=(i-(r+1))+1 by omega]
                            exact Mx.yY hrc (by rw[HSL.out];exact hrr) (by omega) qZ (by rw[show r+1+(i-(r+1))=i by omega];exact h)))
                          have HNX:Hid (Mx.aI r c (r+1) S (i+1-(r+1))=(Mx.aI r c (r+1) S (i-(r+1))).set i (Mx.cu (Mx.rw (Mx.aI r c (r+1) S (i-(r+1))) r) c (Mx.rw (Mx.aI r c (r+1) S (i-(r+1))) i))):=by
                            show _=_
                            rw[show i+1-(r+1)=(i-(r+1))+1 by omega,Mx.ic (by omega) qZ,show r+1+(i-(r+1))=i by omega]
                          have hpn:Mx.at' (Mx.aI r c (r+1) S (i-(r+1))) r c≠0:=by
                            unfold Mx.at'
                            rw[Mx.cv r c (r+1) S (i-(r+1)) qZ r,if_neg (by omega)]
                            exact HPV.out
                          have HBN:=Lib.hid (HJ3.out.1 (i-(r+1)) (by rw[HLM.out];omega))
                          generalize Mx.aI r c (r+1) S (i-(r+1))=N at*
                          obtain⟨x,k0,x0,x1,xz,xl⟩:=HW.out.mo.elem (i:=i) (j:=c) (by rw[HW.out.len];exact hi) (by omega)
                          obtain⟨y,kr,y0,y1,yz,yl⟩:=HW.out.mo.elem (i:=r) (j:=c) oW (by omega)
                          have HX:=Lib.hid xz
                          have HY:=Lib.hid yz
                          have FX:Hid (Fit (Mx.at' N i c)):=aZ (HBN.out i c) (by omega)
                          have FY:Hid (Fit (Mx.at' N r c)):=aZ (HBN.out r c) (by omega)
                          obtain⟨xs,xa,xn,xc⟩:=x
                          obtain⟨ys,ya,yn,yc⟩:=y
                          simp only[]at x0 x1 y0 y1
                          clear xz yz hrc hpn
                          by_cases hz:Mx.at' N i c=0
                          · have hd:decide (Mx.at' N i c=0)=true:=by rw[decide_eq_true_iff];exact hz
                            have ZE:=Lib.hid (fun w hx=>hd▸db ⟨xs,xa,xn,xc⟩ (Mx.at' N i c) w hx)
                            have HE2:=Lib.hid (HZ.out hz)
                            clear hz hd HZ HNX
                            go_wp2_with ((go_at_call 95;(with_reducible refine(ZE.out _ ?_).mono ?_);(focus(exact HX.out.below (B:=wr.heap.size) ah (Nat.le_refl _)));rintro e w1 ⟨rfl,hb1⟩;obtain⟨g1,rfl⟩:=mob hb1;clear hb1))
                            go_roundg (m-(i+1))
                            case measure=>omega
                            case rel=>exact⟨i+1,by omega,by omega,rfl,by go_num,by first|(rw[HE2.out];exact HW.out.ext hBy ah)|(show R1 _ _ _ _ _ _ _ _ _ _;rw[HE2.out];exact HW.out.ext hBy ah)⟩
                          · have hd:decide (Mx.at' N i c=0)=false:=by rw[decide_eq_false_iff_not];exact hz
                            have ZE:=Lib.hid (fun w hx=>hd▸db ⟨xs,xa,xn,xc⟩ (Mx.at' N i c) w hx)
                            clear hz hd HZ
                            go_upto_region 20 with((go_at_call 95;(with_reducible refine(ZE.out _ ?_).mono ?_);(focus(exact HX.out.below (B:=wr.heap.size) ah (Nat.le_refl _)));rintro e w1 ⟨rfl,hb1⟩;obtain⟨g1,rfl⟩:=mob hb1;clear hb1))
                            have hBa:Below wr.heap.size wr (more wr g1):=by exact bel
                            have HBA:=Lib.hid hBa
                            clear hBa
                            have hqb:(Mx.at' N i c/Mx.at' N r c).natAbs≤2^E:=Nat.le_trans (Mx.gC _ _) (HBN.out i c)
                            have FQ:Hid (Fit (Mx.at' N i c/Mx.at' N r c)):=aZ hqb (by omega)
                            have HQB:=Lib.hid hqb
                            clear hqb
                            (apply Own3.bR 24 [.inl _, .inl _, .inl _, .inl _, .inl _, .inl _, .inl _, .inl _, .inl _, .inl _, .inl _, .inl _, .inl _, .inl _, .inl _, .inl _, .inl _, .inl _, .inr (rIZ (Mx.at' N i c/Mx.at' N r c)), .inr (rIZ (-(Mx.at' N i c/Mx.at' N r c))), .inl _, .inl _, .inl _, .inl _] af af;simp only[List.take_succ_cons,List.take_zero,List.drop_succ_cons,List.drop_zero];refine zs1 ?_;refine zs1 ?_;refine zs1 ?_;refine zs1 ?_;refine zs1 ?_;refine zs1 ?_;refine zs1 ?_;refine zs1 ?_;refine zs1 ?_;refine zs1 ?_;refine zs1 ?_;refine zs1 ?_;refine zs1 ?_;refine zs1 ?_;refine zs1 ?_;refine zs1 ?_;refine zs1 ?_;refine zs1 ?_;(refine Own3.cr rfl (fun K hK=> ?_) (fun x201=> ?_);(focus(go_simp;clear hK K;intro w' hw' hcb';first|(go_at_call 121;exact(cI (fY ⟨xs,xa,xn,xc⟩ ⟨ys,ya,yn,yc⟩ (Mx.at' N i c) (Mx.at' N r c) FX.out FY.out _ ((HX.out.below (Below.trans HBA.out ((Ext.below hw').mono HBA.out.size)) (Nat.le_refl _)).ip) ((HY.out.below (Below.trans HBA.out ((Ext.below hw').mono HBA.out.size)) (Nat.le_refl _)).ip))))|(go_at_call 102;(have hf:=hcb'.get (u:=18) lf;exact cI (fZ x201 _ FQ.out _ (IZ.ip (show IZ w' x201 (Mx.at' N i c/Mx.at' N r c)from hf)))))));simp only[rIZ,Act.put,List.setIfInBounds_toArray,List.set_cons_succ,List.set_cons_zero]);(refine Own3.cr rfl (fun K hK=> ?_) (fun x202=> ?_);(focus(go_simp;clear hK K;intro w' hw' hcb';first|(go_at_call 121;exact(cI (fY ⟨xs,xa,xn,xc⟩ ⟨ys,ya,yn,yc⟩ (Mx.at' N i c) (Mx.at' N r c) FX.out FY.out _ ((HX.out.below (Below.trans HBA.out ((Ext.below hw').mono HBA.out.size)) (Nat.le_refl _)).ip) ((HY.out.below (Below.trans HBA.out ((Ext.below hw').mono HBA.out.size)) (Nat.le_refl _)).ip))))|(go_at_call 102;(have hf:=hcb'.get (u:=18) lf;exact cI (fZ x201 _ FQ.out _ (IZ.ip (show IZ w' x201 (Mx.at' N i c/Mx.at' N r c)from hf)))))));simp only[Act.put,List.setIfInBounds_toArray,List.set_cons_succ,List.set_cons_zero]);refine zs1 ?_;refine zs1 ?_;refine zs1 ?_;refine zs1 ?_;refine Own3.gj ?_;intro w20 hw20;have hB20:=hw20.1;have HY201:Hid (IZ w20 x201 (Mx.at' N i c/Mx.at' N r c)):=Lib.hid (hw20.get (u:=18) (Or.inr (Or.inl ⟨rfl,rfl⟩)));have HY202:Hid (IZ w20 x202 (-(Mx.at' N i c/Mx.at' N r c))):=Lib.hid (hw20.get (u:=19) (Or.inl ⟨rfl,rfl⟩));clear hw20;obtain⟨g20,rfl⟩:=mob hB20;clear hB20)
                            clear HY201
                            have hBb:Below wr.heap.size wr (more (more wr g1) g20):=by exact bel
                            have hW20:=HW.out.ext hBy hBb
                            have hs20:wr.heap.size≤(more (more wr g1) g20).heap.size:=hBb.size
                            have gml2:gm<(more (more wr g1) g20).heap.size:=Nat.lt_of_lt_of_le gml hs20
                            have hlen1:(Mx.rw N i).length=n:=HW.out.mo.rc.rw (by rw[HW.out.len];exact hi)
                            have hlen2:(Mx.rw N r).length=n:=HW.out.mo.rc.rw oW
                            have hri3:r≠i:=by omega
                            have AD:=Lib.hid (uq x202 (-(Mx.at' N i c/Mx.at' N r c)) (gs2 i) (gs2 r) 0 n (cs2 i) (cs2 r) (Mx.rw N i) (Mx.rw N r) hlen1 hlen2 HW.out.mo.n0 (by omega) (aZ (e:=E) yd (by omega)) (pC HBN.out hKf _ yd) (hW20.mo.dj r i (by rw[hW20.len];exact hrr) (by rw[hW20.len];exact hi) hri3) _ HY202.out (hW20.mo.hc i (by rw[hW20.len];exact hi)).2.2.2.2 (hW20.mo.hc r (by rw[hW20.len];exact hrr)).2.2.2.2.ra)
                            have HW20:=Lib.hid hW20
                            have HL12:=Lib.hid (Mx.iZ (Mx.rw N r) (Mx.rw N i) c (by omega))
                            clear hBb hW20 hlen2 HY202
                            go_wp2_with (first|(go_at_call 160;(with_reducible refine AD.out.mono ?_);rintro e w22 ⟨rfl,hC22,hR22⟩;have HC22:=Lib.hid (And.intro hC22 hR22);clear hC22 hR22))
                            go_roundg (m-(i+1))
                            case measure=>omega
                            case rel=>
                              refine⟨i+1,by omega,by omega,rfl,by go_num,?_⟩
                              show R1 _ _ _ _ _ _ _ _ _ _
                              rw[HNX.out]
                              exact HW20.out.set hi (HL12.out.trans hlen1) HC22.out.1 HC22.out.2
                        · have hi2:¬(i:Int)<(m:Int):=by omega
                          obtain rfl:i=m:=by omega
                          have HW3:Hid (R1 w wr B gm L n i gs2 cs2 (Mx.aI r c (r+1) S (M.length-(r+1)))):=by rw[HLM.out];exact HW
                          go_wp2_with fail
                          go_roundg (Mx.eY r c (Mx.aI r c (r+1) S (S.length-(r+1))))
                          case measure=>exact HN1.out
                          case rel=>
                            refine⟨gs2,cs2,_,rfl,⟨?_,HJ3.out.2⟩,HE.out⟩
                            rw[show S.length=M.length from HSL.out.trans HLM.out.symm];exact HW3.out
        case rest=>
          obtain⟨gs2,cs2,HW⟩:=hcut
          have hBc:B≤wc.heap.size:=Nat.le_of_lt (Nat.lt_of_le_of_lt HW.out.mo.b HW.out.mo.lt)
          have gml:gm<wc.heap.size:=HW.out.mo.lt
          have hcn:(c:Int)<(n:Int):=by omega
          have hX1:1≤2^(e*11^c):=Nat.pow_pos (by omega)
          have he6:6≤e*11^c:=Nat.le_trans he (Nat.le_mul_of_pos_right e (Nat.pow_pos (by omega)))
          have hnb:Mx.nb (2^(e*11^c))≤2^(e*11^(c+1)):=Nat.le_trans (Mx.qo he6) (Nat.le_of_eq (by rw[Mx.e11]))
          have hKf:2*(e*11^(c+1))≤6000000000000:=Nat.le_trans (Nat.mul_le_mul_left 2 (Nat.mul_le_mul_left e (Nat.pow_le_pow_right (by omega) (by omega)))) HF.out
          have hrM:r<M.length:=by rw[HR.out.r1.len];exact hrr
          have hrcM:Mx.Rc n M:=HR.out.r1.mo.rc
          have HAB:Hid (Mx.Bd (2^(e*11^(c+1))) (Mx.bZ r c M)):=Mx.rS hrcM (.inl ⟨_,hX1,HR.out.bd,Nat.le_trans (Mx.yK _) hnb⟩)
          have HSB:Hid (Mx.Bd (2^(e*11^(c+1))) (Mx.step r c M).2):=(Mx.wk hrcM hrM hX1 HR.out.bd).mono hnb
          have HEQ:Hid (Mx.red (cN-(c+1)) (c+1) (Mx.step r c M)=T):=by
            have h1:=HR.out.eq
            rw[show cN-c=(cN-(c+1))+1 by omega,Mx.uo hrM]at h1
            exact h1
          have HSZ:=Lib.hid (fun (h:Mx.at' (Mx.bZ r c M) r c=0)=>(show Mx.step r c M=(r,Mx.bZ r c M) by unfold Mx.step;simp only[];rw[if_pos h]))
          have HSN:=Lib.hid (fun (h:¬Mx.at' (Mx.bZ r c M) r c=0)=>(show Mx.step r c M=(r+1,Mx.iq r c (Mx.bH r c (Mx.bZ r c M))) by unfold Mx.step;simp only[];rw[if_neg h]))
          generalize Mx.step r c M=ST at*
          generalize Mx.bZ r c M=A at*
          generalize hE:e*11^(c+1)=E at*
          have HE0:=Lib.hid hE
          clear hX1 he6 hnb hrM hrcM HR hE
          obtain⟨x,kr,x0,x1,xz,xl⟩:=HW.out.mo.elem (i:=r) (j:=c) oW (by omega)
          have HX:=Lib.hid xz
          have FX:Hid (Fit (Mx.at' A r c)):=aZ (HAB.out r c) (by omega)
          obtain⟨xs,xa,xn,xc⟩:=x
          simp only[]at x0 x1
          clear xz
          by_cases hz:Mx.at' A r c=0
          · have hd:decide (Mx.at' A r c=0)=true:=by rw[decide_eq_true_iff];exact hz
            have ZE:=Lib.hid (fun w hx=>hd▸db ⟨xs,xa,xn,xc⟩ (Mx.at' A r c) w hx)
            have HS:=Lib.hid (HSZ.out hz)
            clear hz hd HSZ HSN
            go_wp2_with ((go_at_call 95;(with_reducible refine(ZE.out _ ?_).mono ?_);(focus(exact HX.out.below (B:=wc.heap.size) ah (Nat.le_refl _)));rintro e w1 ⟨rfl,hb1⟩;obtain⟨g1,rfl⟩:=mob hb1;clear hb1))
            go_roundg (cN-(c+1))
            case measure=>omega
            case rel=>
              refine⟨r,c+1,gs2,cs2,A,rfl,by omega,hrm,rfl,by go_num,HW.out.ext hBc ah,hrm,?_,?_⟩
              · have:=HEQ.out;rw[HS.out]at this;exact this
              · have:=HSB.out;rw[HS.out]at this;rw[HE0.out];exact this
          · have hd:decide (Mx.at' A r c=0)=false:=by rw[decide_eq_false_iff_not];exact hz
            have ZE:=Lib.hid (fun w hx=>hd▸db ⟨xs,xa,xn,xc⟩ (Mx.at' A r c) w hx)
            have HS:=Lib.hid (HSN.out hz)
            have SI:=Lib.hid (fun w hx=>nd ⟨xs,xa,xn,xc⟩ (Mx.at' A r c) FX.out w hx)
            clear hd HSZ HSN
            go_upto_if 139 with(first|(go_at_call 95;(with_reducible refine(ZE.out _ ?_).mono ?_);(focus(exact HX.out.below (B:=wc.heap.size) ah (Nat.le_refl _)));rintro e w1 ⟨rfl,hb1⟩;obtain⟨g1,rfl⟩:=mob hb1;clear hb1)|(go_at_call 101;(with_reducible refine(SI.out _ ?_).mono ?_);(focus(exact(HX.out.below (B:=wc.heap.size) ah (Nat.le_refl _)).ip));rintro e w2 ⟨rfl,hb2⟩;obtain⟨g2,rfl⟩:=mob hb2;clear hb2))
            go_cut [7]from 12 to 176 (fun _ wx=>Hid (R1 w wx B gm L n m gs2 cs2 (Mx.bH r c A)))
            case first=>
              as_aux_lemma=>
                have hBb:Below wc.heap.size wc (more (more wc g1) g2):=by exact bel
                have HW20:=Lib.hid (HW.out.ext hBc hBb)
                clear hBb
                by_cases hneg:Mx.at' A r c<0
                · have hs1:sgn (Mx.at' A r c)<0:=by unfold sgn;rw[if_neg (by omega),if_pos hneg];omega
                  have hs2:decide (sgn (Mx.at' A r c)<0)=true:=by rw[decide_eq_true_iff];exact hs1
                  have hlen1:(Mx.rw A r).length=n:=HW.out.mo.rc.rw oW
                  have NG:=Lib.hid (vP (gs2 r) n (cs2 r) (Mx.rw A r) hlen1 (by omega) (fun z hz=>by
                    obtain⟨j,hj⟩:=List.getElem?_of_mem hz
                    exact(pC (i:=r) (r:=r) HAB.out hKf 0 (by simp) j z z hj hj).1) HW.out.mo.n0 _ (HW20.out.mo.hc r (by rw[HW20.out.len];exact hrr)).2.2.2.2)
                  have HSG:Hid (Mx.bH r c A=A.set r (Mx.neg (Mx.rw A r))):=by show _=_;unfold Mx.bH;rw[if_pos hneg]
                  clear hneg
                  go_wp2_with (first|(go_at_call 186;(with_reducible refine NG.out.mono ?_);rintro e w22 ⟨rfl,hC22,hR22⟩;have HC22:=Lib.hid (And.intro hC22 hR22);clear hC22 hR22))
                  go_meet
                  case rel=>
                    show R1 _ _ _ _ _ _ _ _ _ _
                    rw[HSG.out]
                    exact HW20.out.set hrr ((Mx.iJ _).trans hlen1) HC22.out.1 HC22.out.2
                · have hs1 : ¬ sgn (Mx.at' A r c) < 0 := by
                    unfold sgn
                    by_cases h0:Mx.at' A r c=0
                    · rw[if_pos h0];omega
                    · rw[if_neg h0,if_neg hneg];omega
                  have hs2:decide (sgn (Mx.at' A r c)<0)=false:=by rw[decide_eq_false_iff_not];exact hs1
                  have HSG:Hid (Mx.bH r c A=A):=by show _=_;unfold Mx.bH;rw[if_neg hneg]
                  clear hneg
                  go_wp2_with fail
                  go_meet
                  case rel=>
                    show R1 _ _ _ _ _ _ _ _ _ _
                    rw[HSG.out]
                    exact HW20.out
            case rest=>
              have HW2:=hcut
              have HSP:Hid (Mx.at' (Mx.bH r c A) r c≠0∧Mx.Bd (2^E) (Mx.bH r c A)):=by
                have hl:r<A.length:=by rw[HW.out.len];exact hrr
                refine⟨?_,Mx.rB HAB.out hl⟩
                unfold Mx.bH
                split
                · rw[Mx.lQ _ _ _ _ _ hl,if_pos rfl,Mx.lJ]
                  have:(Mx.rw A r).getD c 0=Mx.at' A r c:=rfl
                  omega
                · exact hz
              have HRC:Hid (Mx.Rc n (Mx.bH r c A)):=HW2.out.mo.rc
              have HSL:Hid ((Mx.bH r c A).length=m):=HW2.out.len
              clear HW kr x0 x1 xl ZE SI HX hcut gml hz FX
              unfold Mx.iq at HS
              generalize Mx.bH r c A=S at*
              go_wp2_with fail
              go_loopg [146] r (fun kk s146 wy=>∃i:Nat,i≤r∧kk=r-i∧s146= .int .i64 ((i:Int))∧Hid (R1 w wy B gm L n m gs2 cs2 (Mx.aI r c 0 S i)))
              case atStart=>exact⟨0,Nat.zero_le _,rfl,rfl,HW2⟩
              case round=>
                clear HW2
                obtain⟨i,hir,rfl,rfl,HW⟩:=hrel
                have hBy:B≤wr.heap.size:=Nat.le_of_lt (Nat.lt_of_le_of_lt HW.out.mo.b HW.out.mo.lt)
                have gml:gm<wr.heap.size:=HW.out.mo.lt
                by_cases hi:i<r
                · have hi2:(i:Int)<(r:Int):=by omega
                  have him:i<m:=by omega
                  have him2:(i:Int)<(m:Int):=by omega
                  have HNX:Hid (Mx.aI r c 0 S (i+1)=(Mx.aI r c 0 S i).set i (Mx.cu (Mx.rw (Mx.aI r c 0 S i) r) c (Mx.rw (Mx.aI r c 0 S i) i))):=by
                    show _=_
                    rw[Mx.ic (by omega) qZ,Nat.zero_add]
                  have hrwi:Mx.rw (Mx.aI r c 0 S i) i=Mx.rw S i:=by rw[Mx.cv r c 0 S i qZ i,if_neg (by omega)]
                  have hrwr:Mx.rw (Mx.aI r c 0 S i) r=Mx.rw S r:=by rw[Mx.cv r c 0 S i qZ r,if_neg (by omega)]
                  rw[hrwi,hrwr]at HNX
                  have hai:Mx.at' (Mx.aI r c 0 S i) i c=Mx.at' S i c:=by unfold Mx.at';rw[hrwi]
                  have har:Mx.at' (Mx.aI r c 0 S i) r c=Mx.at' S r c:=by unfold Mx.at';rw[hrwr]
                  obtain⟨x,k0,x0,x1,xz,xl⟩:=HW.out.mo.elem (i:=i) (j:=c) (by rw[HW.out.len];exact him) (by omega)
                  obtain⟨y,kr,y0,y1,yz,yl⟩:=HW.out.mo.elem (i:=r) (j:=c) oW (by omega)
                  rw[hai]at xz
                  rw[har]at yz
                  have HX:=Lib.hid xz
                  have HY:=Lib.hid yz
                  have HRW:=Lib.hid (And.intro hrwi hrwr)
                  have FX:Hid (Fit (Mx.at' S i c)):=aZ (HSP.out.2 i c) (by omega)
                  have FY:Hid (Fit (Mx.at' S r c)):=aZ (HSP.out.2 r c) (by omega)
                  have hqb:(Mx.at' S i c/Mx.at' S r c).natAbs≤2^E:=Nat.le_trans (Mx.gC _ _) (HSP.out.2 i c)
                  have FQ:Hid (Fit (Mx.at' S i c/Mx.at' S r c)):=aZ hqb (by omega)
                  have HQB:=Lib.hid hqb
                  obtain⟨xs,xa,xn,xc⟩:=x
                  obtain⟨ys,ya,yn,yc⟩:=y
                  simp only[]at x0 x1 y0 y1
                  clear xz yz hai har hrwi hrwr hqb
                  go_upto_region 27 with fail
                  have HBA:Hid (Below wr.heap.size wr wr):=Below.refl _ _
                  (apply Own3.bR 24 [.inl _, .inl _, .inl _, .inl _, .inl _, .inl _, .inl _, .inl _, .inl _, .inl _, .inl _, .inl _, .inl _, .inl _, .inl _, .inl _, .inl _, .inl _, .inr (rIZ (Mx.at' S i c/Mx.at' S r c)), .inr (rIZ (-(Mx.at' S i c/Mx.at' S r c))), .inl _, .inl _, .inl _, .inl _] af af;simp only[List.take_succ_cons,List.take_zero,List.drop_succ_cons,List.drop_zero];refine zs1 ?_;refine zs1 ?_;refine zs1 ?_;refine zs1 ?_;refine zs1 ?_;refine zs1 ?_;refine zs1 ?_;refine zs1 ?_;refine zs1 ?_;refine zs1 ?_;refine zs1 ?_;refine zs1 ?_;refine zs1 ?_;refine zs1 ?_;refine zs1 ?_;refine zs1 ?_;refine zs1 ?_;refine zs1 ?_;(refine Own3.cr rfl (fun K hK=> ?_) (fun x201=> ?_);(focus(go_simp;clear hK K;intro w' hw' hcb';first|(go_at_call 121;exact(cI (fY ⟨xs,xa,xn,xc⟩ ⟨ys,ya,yn,yc⟩ (Mx.at' S i c) (Mx.at' S r c) FX.out FY.out _ ((HX.out.below (Below.trans HBA.out ((Ext.below hw').mono HBA.out.size)) (Nat.le_refl _)).ip) ((HY.out.below (Below.trans HBA.out ((Ext.below hw').mono HBA.out.size)) (Nat.le_refl _)).ip))))|(go_at_call 102;(have hf:=hcb'.get (u:=18) lf;exact cI (fZ x201 _ FQ.out _ (IZ.ip (show IZ w' x201 (Mx.at' S i c/Mx.at' S r c)from hf)))))));simp only[rIZ,Act.put,List.setIfInBounds_toArray,List.set_cons_succ,List.set_cons_zero]);(refine Own3.cr rfl (fun K hK=> ?_) (fun x202=> ?_);(focus(go_simp;clear hK K;intro w' hw' hcb';first|(go_at_call 121;exact(cI (fY ⟨xs,xa,xn,xc⟩ ⟨ys,ya,yn,yc⟩ (Mx.at' S i c) (Mx.at' S r c) FX.out FY.out _ ((HX.out.below (Below.trans HBA.out ((Ext.below hw').mono HBA.out.size)) (Nat.le_refl _)).ip) ((HY.out.below (Below.trans HBA.out ((Ext.below hw').mono HBA.out.size)) (Nat.le_refl _)).ip))))|(go_at_call 102;(have hf:=hcb'.get (u:=18) lf;exact cI (fZ x201 _ FQ.out _ (IZ.ip (show IZ w' x201 (Mx.at' S i c/Mx.at' S r c)from hf)))))));simp only[Act.put,List.setIfInBounds_toArray,List.set_cons_succ,List.set_cons_zero]);refine zs1 ?_;refine zs1 ?_;refine zs1 ?_;refine zs1 ?_;refine Own3.gj ?_;intro w20 hw20;have hB20:=hw20.1;have HY201:Hid (IZ w20 x201 (Mx.at' S i c/Mx.at' S r c)):=Lib.hid (hw20.get (u:=18) (Or.inr (Or.inl ⟨rfl,rfl⟩)));have HY202:Hid (IZ w20 x202 (-(Mx.at' S i c/Mx.at' S r c))):=Lib.hid (hw20.get (u:=19) (Or.inl ⟨rfl,rfl⟩));clear hw20;obtain⟨g20,rfl⟩:=mob hB20;clear hB20)
                  clear HY201
                  have hBb:Below wr.heap.size wr (more wr g20):=by exact bel
                  have hW20:=HW.out.ext hBy hBb
                  have hs20:wr.heap.size≤(more wr g20).heap.size:=hBb.size
                  have gml2:gm<(more wr g20).heap.size:=Nat.lt_of_lt_of_le gml hs20
                  have hlen1:(Mx.rw S i).length=n:=HRC.out.rw (by rw[HSL.out];exact him)
                  have hlen2:(Mx.rw S r).length=n:=HRC.out.rw (by rw[HSL.out];exact hrr)
                  have hri3:r≠i:=by omega
                  have hci:=(hW20.mo.hc i (by rw[hW20.len];exact him)).2.2.2.2
                  have hcr:=(hW20.mo.hc r (by rw[hW20.len];exact hrr)).2.2.2.2
                  rw[HRW.out.1]at hci
                  rw[HRW.out.2]at hcr
                  have AD:=Lib.hid (uq x202 (-(Mx.at' S i c/Mx.at' S r c)) (gs2 i) (gs2 r) 0 n (cs2 i) (cs2 r) (Mx.rw S i) (Mx.rw S r) hlen1 hlen2 HW.out.mo.n0 (by omega) (aZ (e:=E) yd (by omega)) (pC HSP.out.2 hKf _ yd) (hW20.mo.dj r i (by rw[hW20.len];exact hrr) (by rw[hW20.len];exact him) hri3) _ HY202.out hci hcr.ra)
                  have HW20:=Lib.hid hW20
                  have HL12:=Lib.hid (Mx.iZ (Mx.rw S r) (Mx.rw S i) c (by omega))
                  clear hBb hW20 hlen2 HY202 hci hcr
                  go_wp2_with (first|(go_at_call 160;(with_reducible refine AD.out.mono ?_);rintro e w22 ⟨rfl,hC22,hR22⟩;have HC22:=Lib.hid (And.intro hC22 hR22);clear hC22 hR22))
                  go_roundg (r-(i+1))
                  case measure=>omega
                  case rel=>
                    refine⟨i+1,by omega,rfl,by go_num,?_⟩
                    show R1 _ _ _ _ _ _ _ _ _ _
                    rw[HNX.out]
                    exact HW20.out.set him (HL12.out.trans hlen1) HC22.out.1 HC22.out.2
                · have hi2:¬(i:Int)<(r:Int):=by omega
                  obtain rfl:i=r:=by omega
                  go_wp2_with fail
                  go_roundg (cN-(c+1))
                  case measure=>omega
                  case rel=>
                    refine⟨i+1,c+1,gs2,cs2,_,rfl,by omega,by omega,by go_num,by go_num,HW.out,by omega,?_,?_⟩
                    · have:=HEQ.out;rw[HS.out]at this;exact this
                    · have:=HSB.out;rw[HS.out]at this;rw[HE0.out];exact this
      · have hrr2:¬(r:Int)<(m:Int):=by omega
        have hrr3:decide ((r:Int)<(m:Int))=false:=by rw[decide_eq_false_iff_not];exact hrr2
        have HT:Hid (T=(r,M)):=by
          have h1:=HR.out.eq
          rw[Mx.mA (by rw[HR.out.r1.len];exact hrr)]at h1
          exact h1.symm
        go_wp2_with fail
        go_ret
        refine⟨by rw[HT.out];rfl,HR.out.r1.bl,gs,cs,?_⟩
        rw[HT.out];exact HR.out.r1.mo
    · have hcc2:¬(c:Int)<(cN:Int):=by omega
      have hcc3:decide ((c:Int)<(cN:Int))=false:=by rw[decide_eq_false_iff_not];exact hcc2
      have HT:Hid (T=(r,M)):=by
        have h1:=HR.out.eq
        rw[show cN-c=0 by omega]at h1
        exact h1.symm
      go_wp2_with fail
      go_ret
      refine⟨by rw[HT.out];rfl,HR.out.r1.bl,gs,cs,?_⟩
      rw[HT.out];exact HR.out.r1.mo
end
section
open Go.RowKit Go.BigFrame
attribute [local go_sem ↓] Go.wp_at_zero Go.wp_at_succ
theorem MR.row{w:World}{v:Value}{n:Nat}{M:Mx.Mat}(h:MR w v n M):∃a cap,v= .slice a M.length cap∧M.length≤cap∧Mx.Rc n M∧(M=[]∨∃gm om,a=some ⟨gm,om,none⟩∧gm<w.heap.size∧
  ∀i,i<M.length→∃b c,w.cell? ⟨gm,om+i,none⟩=some (.slice b n c)∧RV w (.slice b n c) n (Mx.rw M i)):=by
 obtain⟨a,cap,h1,h2,h3,h4⟩:=h
 refine⟨a,cap,h1,h2,h3,?_⟩
 rcases h4 with h4|⟨gm,om,e,hg,h5⟩
 ·exact .inl h4
 ·refine .inr ⟨gm,om,e,hg,fun i hi=>?_⟩
  obtain⟨b,c,k1,k2,kA,k3⟩:=h5 i hi
  exact⟨b,c,k1,b,c,rfl,k2,h3.rw hi,kA,k3⟩
theorem dc{M:Mx.Mat}{i:Nat}(h:i<M.length):M[i]?=some (Mx.rw M i):=by
 unfold Mx.rw;rw[List.getD_eq_getElem?_getD,List.getElem?_eq_getElem h];rfl
set_option maxRecDepth 10000 in
set_option maxHeartbeats 4000000 in
theorem qq(m:List (List Int))(n:Nat)(v:Value)(hm:m.length≤1000000)(hn:n≤1000000)(w:World)(h:MR w v n m):
  Calls Tryz.prog 156 #[v] w (qT w n m):=by
 obtain⟨a,cap,rfl,_,hr,h4⟩:=h.row
 have HRC:Hid (Mx.Rc n m):=hr
 have hmk:=sD m.length (by omega)
 have H4:=Lib.hid h4
 clear hr h4 h
 generalize hml:m.length=q at*
 have HQ:=Lib.hid hml
 clear hml
 go_enter Tryz.func156,Tryz.ntmps156
 go_wp2_with fail
 go_loopw [11] (fun i wr=>∃(k:Nat) (gs cs:Nat→Nat),k≤q∧i= .int .i64 ((k:Int))∧Below w.heap.size w wr∧Hid (MB wr w.heap.size w.heap.size q gs cs n (m.take k)∧∀i,i<k→0<n→w.heap.size<gs i∧gs i<wr.heap.size)) (fun i _=>q-(intOf i).toNat)
 case atStart=>
  exact⟨0,id,id,by omega,rfl,by exact bel,MB.made w w.heap.size q n id id (Nat.le_refl _),fun i hi=>by omega⟩
 case round=>
  obtain⟨k,gs,cs,hk,rfl,hB,HR⟩:=hrel
  have hlt:w.heap.size<wr.heap.size:=HR.out.1.lt
  by_cases hkn:k<q
  ·have hkn2:(k:Int)<(q:Int):=by omega
   rcases H4.out with h0|⟨gm,om,ha,hal,hcc⟩
   ·have:=HQ.out;rw[h0]at this;simp at this;omega
   obtain⟨b,c,cz,hza⟩:=hcc k hkn
   have cz2:=(hB.cell (p:=⟨gm,om+k,none⟩) hal).trans cz
   subst ha
   have HZA:=Lib.hid (hza.below hB (Nat.le_refl _))
   obtain⟨u,hu⟩:=HR.out.1.hl k hkn
   have hfr:=HR.out.1.fr k
   have HL:=Lib.hid (dc (M:=m) (i:=k) lZ)
   clear hcc hza cz
   go_wp2_with (first|(go_at_call 189;(with_reducible refine(yE _ n (Mx.rw m k) hn _ ?_).mono ?_);(focus(exact HZA.out.below (B:=wr.heap.size) ah (Nat.le_refl _)));rintro e w4 ⟨⟨b4,g4',c4,rfl,hc4,hA4,hy⟩,hb4⟩;have HY:=Lib.hid (And.intro hc4 (And.intro hA4 hy));clear hc4 hA4 hy;have HB4:=Lib.hid hb4;obtain⟨g4,rfl⟩:=mob hb4;clear hb4))
   go_roundw
   case rel=>
    have hkl:(m.take k).length=k:=by rw[List.length_take,HQ.out];omega
    have hp:=(HR.out.1.below HB4.out (Nat.le_refl _)).push (g:=g4') (c:=c4) (b:=b4) (zs:=Mx.rw m k) (by rw[hkl];exact hkn) (HRC.out.rw lZ) HY.out.1 HY.out.2.1 (fun h0=>⟨(HY.out.2.2 h0).1,(HY.out.2.2 h0).2.2,by have:=(HY.out.2.2 h0).2.1;omega,by have:=(HY.out.2.2 h0).2.1;omega,fun i hi=>by
     have h1:=(HR.out.2 i (by rw[hkl]at hi;exact hi) h0).2
     have:=(HY.out.2.2 h0).2.1;omega⟩)
    rw[←sa HL.out,hkl]at hp
    have e5:(more wr g4).setCell ⟨w.heap.size,k,none⟩ (.slice b4 n c4)=more (wr.setCell ⟨w.heap.size,k,none⟩ (.slice b4 n c4)) g4:=gO _ _ _ _ hlt
    rw[e5]at hp
    refine⟨k+1,_,_,by omega,by go_num,by exact bel,hp,fun i hi h0=>?_⟩
    have hsz:(more (wr.setCell ⟨w.heap.size,k,none⟩ (.slice b4 n c4)) g4).heap.size=(more wr g4).heap.size:=by simp
    rw[hsz]
    by_cases e:i=k
    ·rw[if_pos e]
     have h1:=(HY.out.2.2 h0).2.1
     have h2:=(HY.out.2.2 h0).2.2.lt
     omega
    ·rw[if_neg e]
     have h1:=HR.out.2 i (by omega) h0
     have:wr.heap.size≤(more wr g4).heap.size:=HB4.out.size
     omega
   case measure=>simp[intOf];omega
  ·obtain rfl:k=q:=by omega
   have hkn2:¬(k:Int)<(k:Int):=by omega
   go_wp2_with fail
   go_ret
   refine⟨⟨w.heap.size,gs,cs,k,by rw[HQ.out];rfl,by rw[HQ.out];exact Nat.le_refl _,?_⟩,hB⟩
   have h1:=HR.out.1
   rw[List.take_of_length_le tL]at h1
   rw[HQ.out];exact h1
set_option maxRecDepth 10000 in
theorem vR(a:Option Addr)(l cap:Nat)(w:World):
  Calls Tryz.prog 145 #[.slice a l cap,.int .i64 (0)] w fun e w'=>e= .returned (.int .i64 (0))∧Below w.heap.size w w':=by
 have hgd:decide ((0:Int)<0)=false:=by decide
 go_enter Tryz.func145,Tryz.ntmps145
 go_wp2_with fail
 refine wp_loop_rounds 1 ?_
 rw[rounds_succ]
 go_wp2_with fail
 go_ret
 exact⟨rfl,by exact bel⟩
theorem F3{M:Mx.Mat}{k i:Nat}(h:i<k):Mx.rw (M.take k) i=Mx.rw M i:=by
 unfold Mx.rw;rw[List.getD_eq_getElem?_getD,List.getD_eq_getElem?_getD,List.getElem?_take_of_lt h]
theorem MB.Gh{w:World}{B gm L:Nat}{gs cs:Nat→Nat}{n:Nat}{M:Mx.Mat}(h:MB w B gm L gs cs n M){cap k:Nat}(hc:k≤cap)(hk:k≤M.length):MR w (.slice (some ⟨gm,0,none⟩) k cap) n (M.take k):=by
 have hl:(M.take k).length=k:=by rw[List.length_take];omega
 refine⟨_,cap,by rw[hl],by rw[hl];exact hc,fun r hr=>h.rc r (List.mem_of_mem_take hr),.inr ⟨gm,0,rfl,h.lt,fun i hi=>?_⟩⟩
 rw[hl]at hi
 obtain⟨b,h1,h2,hA,h3⟩:=h.hc i (by omega)
 rw[Nat.zero_add]
 refine⟨b,cs i,h1,h2,hA,?_⟩
 by_cases h0:n=0
 ·exact .inl h0
 ·obtain⟨rfl,_,_,h4⟩:=h3 (by omega)
  rw[F3 hi]
  exact .inr ⟨gs i,0,rfl,h4.ra⟩
theorem Hk{n:Nat}{M:Mx.Mat}(k c:Nat)(h:Mx.Rc n M):(Mx.red k c (0,M)).1≤M.length:=by
 have key:∀(k c:Nat) (s:Nat×Mx.Mat),Mx.Rc n s.2→s.1≤s.2.length→(Mx.red k c s).1≤(Mx.red k c s).2.length:=by
  intro k
  induction k with
  |zero=>exact fun c s _ h=>h
  |succ k ih=>
   intro c s hr h
   unfold Mx.red
   split
   ·rename_i hlt
    have h1:=Mx.oa (c:=c) hr hlt
    exact ih _ _ (h1.1.rc hr) (by rw[h1.1.len];have:=h1.2.2;omega)
   ·exact h
 have h1:=key k c (0,M) h (Nat.zero_le _)
 rw[(Mx.fO k c (0,M) h).len]at h1
 exact h1
def Fl(w:World)(n:Nat)(M:Mx.Mat)(e:Ending)(w':World):Prop:=(∃v,e= .returned v∧MR w' v n M)∧Below w.heap.size w w'
set_option maxRecDepth 10000 in
set_option maxHeartbeats 4000000 in
theorem vV(M:Mx.Mat)(n e:Nat)(v:Value)(hm:M.length≤1000)(hn:n≤1000)(he:6≤e)(hf:2*(e*11^n)≤6000000000000)(hb:Mx.Bd (2^e) M)(w:World)(h:MR w v n M):
  Calls Tryz.prog 85 #[v] w (Fl w n ((Mx.red n 0 (0,M)).2.take (Mx.red n 0 (0,M)).1)):=by
 by_cases h0:M=[]
 ·subst h0
  obtain⟨a,cap,rfl,_,_,_⟩:=h
  rw[Mx.mA (by simp)]
  simp only[List.length_nil]
  go_enter Tryz.func85,Tryz.ntmps85
  go_wp2_with fail
  go_ret
  exact⟨⟨_,rfl,none,0,rfl,Nat.le_refl _,fun r hr=>by(cases hr),.inl rfl⟩,by exact bel⟩
 ·have CL:=Lib.hid (qq M n v (by omega) (by omega) w h)
  have RC:Hid (Mx.Rc n M):=by obtain⟨_,_,_,_,h3,_⟩:=h;exact h3
  have HM0:0<M.length:=List.length_pos_iff.2 h0
  have RE0:=Lib.hid (fun (B gm L cap:Nat) (gs cs:Nat→Nat) w hmo=>yD B gm L cap n n e gs cs M (Nat.le_refl _) hn hm he hf hb w hmo)
  have RL:=Lib.hid (Hk n 0 RC.out)
  have RLN:Hid ((Mx.red n 0 (0,M)).2.length=M.length):=(Mx.fO n 0 (0,M) RC.out).len
  generalize hT:Mx.red n 0 (0,M)=T at*
  have HT:=Lib.hid hT
  obtain⟨rk,N⟩:=T
  simp only[]at RE0 RL RLN
  obtain⟨a,cap,rfl,_⟩:=h
  have hm1:¬(M.length:Int)=0:=by omega
  have hm2:¬M.length=0:=by omega
  generalize hml:M.length=q at*
  have HQ:=Lib.hid hml
  have H0M:Hid (0<M.length):=by
   show 0<M.length
   rw[hml];exact HM0
  clear hml h0 hT hb
  have hq0:(0:Int)<(q:Int):=by omega
  by_cases hn0:n=0
  ·subst hn0
   go_enter Tryz.func85,Tryz.ntmps85
   go_wp2_with (first|(go_at_call 156;(with_reducible refine CL.out.mono ?_);rintro e w4 ⟨⟨gm,gs,cs,cp,rfl,hcp,hmb⟩,hb4⟩;have HY:=Lib.hid hmb;have k0:=(hmb.hc 0 H0M.out);obtain⟨b0,k0,_,_,_⟩:=k0;rw[HQ.out]at hcp⊢;have HB4:=Lib.hid hb4;clear hb4 hmb)|(go_at_call 145;(with_reducible refine(vR _ _ _ _).mono ?_);rintro e w5 ⟨rfl,hb5⟩;have HB5:=Lib.hid hb5;clear hb5))
   go_ret
   have e1:rk=0:=by have:=HT.out;unfold Mx.red at this;exact(Prod.mk.inj this).1.symm
   subst e1
   exact⟨⟨_,rfl,_,cp,rfl,Nat.zero_le _,fun r hr=>by(simp at hr),.inl (by simp)⟩,HB4.out.trans (HB5.out.mono HB4.out.size)⟩
  ·have hrk:rk≤q:=RL.out
   have hn1:0<n:=by omega
   go_enter Tryz.func85,Tryz.ntmps85
   go_wp2_with (first|(go_at_call 156;(with_reducible refine CL.out.mono ?_);rintro e w4 ⟨⟨gm,gs,cs,cp,rfl,hcp,hmb⟩,hb4⟩;have HY:=Lib.hid hmb;have k0:=(hmb.hc 0 H0M.out);obtain⟨b0,k0,_,_,_⟩:=k0;rw[HQ.out]at hcp⊢;have hrc:rk≤cp:=Nat.le_trans hrk hcp;have hrc2:(rk:Int)≤(cp:Int):=Int.ofNat_le.2 hrc;have HB4:=Lib.hid hb4;clear hb4 hmb)|(go_at_call 145;(with_reducible refine(RE0.out w.heap.size gm M.length cp gs cs _ (HY.out.mo (by omega))).mono ?_);rintro e w5 ⟨rfl,hb5,gs5,cs5,hmo5⟩;have HB5:=Lib.hid (And.intro hb5 hmo5);clear hb5 hmo5))
   go_ret
   exact⟨⟨_,rfl,HB5.out.2.mb.Gh hrc (by rw[RLN.out];exact hrk)⟩,HB4.out.trans HB5.out.1⟩
end
section
open Go.RowKit Go.BigFrame
attribute [local go_sem ↓] Go.wp_at_zero Go.wp_at_succ
def unitR(n k:Nat):List Int:=(List.replicate n 0).set k 1
end
section
open Go.RowKit Go.BigFrame
attribute [local go_sem ↓] Go.wp_at_zero Go.wp_at_succ
def fo(w:World)(base:Nat)(T:TypeId)(v:Value)(l:List Value):Prop:=w.ownsRow base T 1 v l.length l
theorem fo.nil(w:World)(base:Nat)(T:TypeId):fo w base T (.slice none 0 0) []:=⟨by simp,.inl ⟨rfl,rfl⟩⟩
theorem fo.low{W W':World}{base:Nat}{T:TypeId}{v:Value}{l:List Value}(h:fo W base T v l)(hb:Below W.heap.size W W'):fo W' base T v l:=
 World.ownsRow.kept (row:=none) h ⟨hb.os,hb.tape,hb.output,hb.size,fun k hk _=>hb.block k hk⟩ (by cases v.ownBlock<;>simp)
structure r7(w w':World)(base:Nat)(T:TypeId)(v v':Value)(l:List Value)(u:Value):Prop where
 own:fo w' base T v' (l++[u])
 by':w.grownBy w' v.ownBlock
 at':v'.ownBlock=v.ownBlock∨v'.ownBlock=some w.heap.size
theorem r7.below{w0 w w':World}{base:Nat}{T:TypeId}{v v':Value}{l:List Value}{u:Value}(h:r7 w w' base T v v' l u)(hown:fo w base T v l)(hB:Below base w0 w)(hbase:base≤w.heap.size):Below base w0 w':=
 hB.grown h.by' hbase fun k hk=>(hown.lt k hk).1
theorem rD{P:Program}{w:World}{base:Nat}{T t ty:TypeId}{z:Value}{bytes:Nat}(hI:(P.info? T).map (fun i=>(i.zero,i.size,i.bytes))=some (some z,1,bytes))(hz1:z.cells.size=1)(hby:bytes≤64)(ht:P.underlying t=some (.slice T))
    {v u:Value} {l:List Value} (hown:fo w base T v l) (hl:l.length≤1000000000) (hbase:base≤w.heap.size) (a:Addr) (c:Nat) (hc:w.cell? a=some u) (h1:u.oneCell'=true):
    ∃v' w',(Builtin.append_ #[t,t] ty #[v, .slice (some a) 1 c]).run P w= .ok v' w'∧r7 w w' base T v v' l u:=by
  obtain⟨i0,hi0,hz0,hzs,hzb⟩:=eB hI
  have hnews:∀j x,[u][j]?=some x→w.cell? (a.add j)=some x:=fun j x hx=>by
    match j with
    |0=>
      simp at hx;subst hx
      have:a.add 0=a:=by
        obtain⟨b,o,p⟩:=a
        cases p<;>simp[Addr.add]
      rw[this];exact hc
    |j+1=>simp at hx
  obtain⟨v',w',hr,h2,h3,_,h5⟩:=run_append_own_at (P:=P) w base t ty T i0 z 1 bytes ht hi0 hz0 hzs hzb hz1 (by omega) v l.length l hown a 1 c [u] (by simp) hnews (by intro x hx;rw[List.mem_singleton.1 hx];exact h1)
    (by simp only [maxLen]; omega) (by have : (l.length + 1) * bytes ≤ 1000000001 * 64 := Nat.mul_le_mul (by omega) hby
                                       omega) hbase
  exact⟨v',w',hr,by unfold fo;rw[List.length_append];exact h2,h3,h5⟩
theorem oK{P:Program}{ops:Array Oper}{rest:List Oper}{o:Oper}{a:Act}{w:World}{Q:Exit→Act→World→Prop}{base:Nat}{T t:TypeId}{z:Value}{bytes:Nat}(hI:(P.info? T).map (fun i=>(i.zero,i.size,i.bytes))=some (some z,1,bytes))(hz1:z.cells.size=1)(hby:bytes≤64)(ht:P.underlying t=some (.slice T))
  (hgd:o.guard=none) (s x:Operand) (ho:o.op= .call {callee:=.builtin .append,args:=#[s,x],argTypes:=#[t,t]}) {v u:Value} {l:List Value} {ad:Addr} {c:Nat} (hs:a.eval s=v) (hx:a.eval x= .slice (some ad) 1 c)
  (hown:fo w base T v l) (hl:l.length≤1000000000) (hbase:base≤w.heap.size) (hc:w.cell? ad=some u) (h1:u.oneCell'=true)
  (hK:∀v' w',r7 w w' base T v v' l u→wpList P ops Q rest (a.put o.dst v') w'):wpList P ops Q (o::rest) a w:=by
 obtain⟨v',w',hr,hg⟩:=rD (ty:=o.type) hI hz1 hby ht hown hl hbase ad c hc h1
 exact wpList_append_run hgd s x t t ho v' (by rw[hs,hx];exact hr) (hK v' w' hg)
theorem Hy{w:World}{base:Nat}{T:TypeId}{v:Value}{l:List Value}(h:fo w base T v l){b:Nat}(hb:v.ownBlock=some b):b<w.heap.size:=(World.ownsRow.lt h b hb).2
def extM(M:Mx.Mat):Mx.Mat:=(List.range M.length).map fun i=>Mx.rw M i++unitR M.length i
def tk(n:Nat)(M:Mx.Mat):Mx.Mat:=M.map (List.take n)
theorem RA.take{w:World}{g o:Nat}{zs:List Int}(h:RA w g o zs)(n:Nat):RA w g o (zs.take n):=⟨h.lt,fun k z hz=>h.c k z (by
 rw[List.getElem?_take]at hz
 split at hz
 ·exact hz
 ·cases hz)⟩
end
section
open Go.RowKit Go.BigFrame
attribute [local go_sem ↓] Go.wp_at_zero Go.wp_at_succ
instance decI64 (z:Int):Decidable (I64 z):=by unfold I64;exact inferInstance
def smv(z:Int):Int:=if I64 z then z else 0
theorem H5(a b:Nat)(h:b<4294967296):(a*4294967296)|||b=a*4294967296+b:=by
 have:=Nat.two_pow_add_eq_or_of_lt (i:=32) (b:=b) h a
 rw[show(2:Nat)^32=4294967296 from rfl,Nat.mul_comm]at this
 exact this.symm
theorem G9{l:List Nat}(h:l.length≤2):Dg.vl B32 l=l.getD 1 0*4294967296+l.getD 0 0:=by
 match l with
 |[]=>rfl
 |[x]=>simp[Dg.vl]
 |[x,y]=>simp[Dg.vl,B32,Nat.add_comm,Nat.mul_comm]
 |x::y::z::l=>simp at h
theorem p8{z:Int}(h:I64 z):smv z=z:=if_pos h
theorem oc{z:Int}(h:¬I64 z):smv z=0:=if_neg h
theorem qI{z:Int}(h:I64 z):decide (I64 z)=true:=by rw[decide_eq_true_iff];exact h
theorem oF{z:Int}(h:¬I64 z):decide (I64 z)=false:=by rw[decide_eq_false_iff_not];exact h
def IM(w:World)(z:Int)(e:Ending)(w':World):Prop:=e= .returned (.tuple #[.int .i64 (smv z),.bool (decide (I64 z))])∧Below w.heap.size w w'
set_option maxRecDepth 10000 in
set_option maxHeartbeats 8000000 in
theorem sd(x:IV)(z:Int)(fz:Fit z)(w:World)(hx:IP w x z):
  Calls Tryz.prog 120 #[.agg #[.bool x.s,.slice x.a x.n x.cap]] w (IM w z):=by
 obtain⟨l,h1,rfl⟩:=hx
 have bl:=cY h1.nf fz
 have S1:=Lib.hid (fun w (h:IW w x l)=>cT x l (by omega) w h)
 have AT:=Lib.hid (fun i (hi:i≤10) w h=>nQ l x.a l.length i (by omega) (by omega) h1.nf.dg w h)
 have H1:=Lib.hid h1
 by_cases hl:l.length≤2
 ·have hv:=G9 hl
  have d0:l.getD 0 0<4294967296:=Dg.aS h1.nf.dg (by decide) 0
  have d1:l.getD 1 0<4294967296:=Dg.aS h1.nf.dg (by decide) 1
  have A0:Hid (∀w,WS w x.a l→Calls Tryz.prog 166 #[.slice x.a l.length l.length,.int .i64 0] w fun e w'=>e= .returned (.int .u64 ((l.getD 0 0:Nat):Int))∧w'=w):=AT.out 0 (by omega)
  have A1:Hid (∀w,WS w x.a l→Calls Tryz.prog 166 #[.slice x.a l.length l.length,.int .i64 1] w fun e w'=>e= .returned (.int .u64 ((l.getD 1 0:Nat):Int))∧w'=w):=AT.out 1 (by omega)
  have HLL:=Lib.hid hl
  obtain⟨s,a,n,cap⟩:=x
  simp only[]at S1 A0 A1⊢
  generalize l.getD 0 0=x0 at*
  generalize l.getD 1 0=x1 at*
  rw[hv]
  generalize hN:x1*4294967296+x0=N
  obtain⟨sh,hsh⟩:∃sh,sh=x1*4294967296:=⟨_,rfl⟩
  have e1:IntKind.u64.wrap ((x1:Int)*4294967296)=(sh:Int):=by rw[cq,hsh];omega
  have e2:bits .or .u64 (sh:Int) (x0:Int)=(N:Int):=by rw[u64_or_nat sh x0 (by omega) (by omega),hsh,H5 x1 x0 d0,hN]
  have hl3:¬(2:Int)<(l.length:Int):=by omega
  have hl4:decide ((2:Int)<(l.length:Int))=false:=by rw[decide_eq_false_iff_not];exact hl3
  have hN2:(N:Int)<18446744073709551616:=by omega
  have hlI:(l.length:Int)≤2:=by omega
  generalize hL:l.length=q at*
  clear h1 hv bl d0 d1 AT hsh hN
  cases s
  ·have hz:Dg.iv false N=(N:Int):=by simp[Dg.iv]
   by_cases hs:N<9223372036854775808
   ·have t1:(N:Int)<9223372036854775808:=by omega
    have t2:decide ((N:Int)<9223372036854775808)=true:=by rw[decide_eq_true_iff];exact t1
    have HI:Hid (I64 (Dg.iv false N)):=by show I64 _;rw[hz];unfold I64;omega
    have HZ:=Lib.hid hz
    clear hs hz
    go_enter Tryz.func120,Tryz.ntmps120
    go_wp2_with (first|(go_at_call 163;(with_reducible refine(S1.out _ ?_).mono ?_);(focus(exact H1.out.below (B:=w.heap.size) ah (Nat.le_refl _)));rintro e w1 ⟨rfl,hb1⟩;obtain⟨g1,rfl⟩:=mob hb1;clear hb1)|(go_at_call 166;(first|(with_reducible refine(A0.out _ ?_).mono ?_)|(with_reducible refine(A1.out _ ?_).mono ?_));(focus(exact H1.out.ws.below (B:=w.heap.size) ah (Nat.le_refl _)));rintro e w2 ⟨rfl,rfl⟩))
    refine bodyPost_ret (v:=.tuple #[.int .i64 ((N:Int)),.bool true]) tM rfl ⟨?_,by exact bel⟩
    rw[p8 HI.out,qI HI.out,HZ.out]
   ·have t1:¬(N:Int)<9223372036854775808:=by omega
    have t2:decide ((N:Int)<9223372036854775808)=false:=by rw[decide_eq_false_iff_not];exact t1
    have HI:Hid (¬I64 (Dg.iv false N)):=by show¬I64 _;rw[hz];unfold I64;omega
    clear hs hz
    go_enter Tryz.func120,Tryz.ntmps120
    go_wp2_with (first|(go_at_call 163;(with_reducible refine(S1.out _ ?_).mono ?_);(focus(exact H1.out.below (B:=w.heap.size) ah (Nat.le_refl _)));rintro e w1 ⟨rfl,hb1⟩;obtain⟨g1,rfl⟩:=mob hb1;clear hb1)|(go_at_call 166;(first|(with_reducible refine(A0.out _ ?_).mono ?_)|(with_reducible refine(A1.out _ ?_).mono ?_));(focus(exact H1.out.ws.below (B:=w.heap.size) ah (Nat.le_refl _)));rintro e w2 ⟨rfl,rfl⟩))
    refine bodyPost_ret (v:=.tuple #[.int .i64 (0),.bool false]) tM rfl ⟨?_,by exact bel⟩
    rw[oc HI.out,oF HI.out]
  ·have hz:Dg.iv true N= -(N:Int):=by simp[Dg.iv]
   by_cases hs:N≤9223372036854775808
   ·have t1:(N:Int)≤9223372036854775808:=by omega
    have t2:decide ((N:Int)≤9223372036854775808)=true:=by rw[decide_eq_true_iff];exact t1
    have HI:Hid (I64 (Dg.iv true N)):=by show I64 _;rw[hz];unfold I64;omega
    have HZ:=Lib.hid hz
    obtain⟨u,hu⟩:∃u:Int,u=(-(N:Int))%18446744073709551616:=⟨_,rfl⟩
    have e3:IntKind.u64.wrap (-(N:Int))=u:=by rw[cq,hu]
    have e4:IntKind.i64.wrap u= -(N:Int):=by rw[hu,IntKind.wrap_i64];omega
    clear hs hz hu
    go_enter Tryz.func120,Tryz.ntmps120
    go_wp2_with (first|(go_at_call 163;(with_reducible refine(S1.out _ ?_).mono ?_);(focus(exact H1.out.below (B:=w.heap.size) ah (Nat.le_refl _)));rintro e w1 ⟨rfl,hb1⟩;obtain⟨g1,rfl⟩:=mob hb1;clear hb1)|(go_at_call 166;(first|(with_reducible refine(A0.out _ ?_).mono ?_)|(with_reducible refine(A1.out _ ?_).mono ?_));(focus(exact H1.out.ws.below (B:=w.heap.size) ah (Nat.le_refl _)));rintro e w2 ⟨rfl,rfl⟩))
    refine bodyPost_ret (v:=.tuple #[.int .i64 ((-(N:Int))),.bool true]) tM rfl ⟨?_,by exact bel⟩
    rw[p8 HI.out,qI HI.out,HZ.out]
   ·have t1:¬(N:Int)≤9223372036854775808:=by omega
    have t2:decide ((N:Int)≤9223372036854775808)=false:=by rw[decide_eq_false_iff_not];exact t1
    have HI:Hid (¬I64 (Dg.iv true N)):=by show¬I64 _;rw[hz];unfold I64;omega
    clear hs hz
    go_enter Tryz.func120,Tryz.ntmps120
    go_wp2_with (first|(go_at_call 163;(with_reducible refine(S1.out _ ?_).mono ?_);(focus(exact H1.out.below (B:=w.heap.size) ah (Nat.le_refl _)));rintro e w1 ⟨rfl,hb1⟩;obtain⟨g1,rfl⟩:=mob hb1;clear hb1)|(go_at_call 166;(first|(with_reducible refine(A0.out _ ?_).mono ?_)|(with_reducible refine(A1.out _ ?_).mono ?_));(focus(exact H1.out.ws.below (B:=w.heap.size) ah (Nat.le_refl _)));rintro e w2 ⟨rfl,rfl⟩))
    refine bodyPost_ret (v:=.tuple #[.int .i64 (0),.bool false]) tM rfl ⟨?_,by exact bel⟩
    rw[oc HI.out,oF HI.out]
 ·have hlen:2<l.length:=by omega
  have hbig:18446744073709551616≤Dg.vl B32 l:=by
   obtain⟨m,hm⟩:∃m,l.length=m+1:=⟨l.length-1,by omega⟩
   have k1:=Dg.gU hm h1.nf
   have k2:B32^2≤B32^m:=Nat.pow_le_pow_right (by decide) (by omega)
   have k3:B32^2=18446744073709551616:=by decide
   omega
  have HI:Hid (¬I64 (Dg.iv x.s (Dg.vl B32 l))):=by
   intro h
   have h2:=Dg.gA x.s (Dg.vl B32 l)
   unfold I64 at h
   omega
  have hl3:(2:Int)<(l.length:Int):=by omega
  have hl4:decide ((2:Int)<(l.length:Int))=true:=by rw[decide_eq_true_iff];exact hl3
  obtain⟨s,a,n,cap⟩:=x
  simp only[]at S1 HI⊢
  generalize Dg.iv s (Dg.vl B32 l)=z at*
  generalize hL:l.length=q at*
  clear h1 bl AT hL hbig hl hlen
  go_enter Tryz.func120,Tryz.ntmps120
  go_wp2_with (go_at_call 163;(with_reducible refine(S1.out _ ?_).mono ?_);(focus(exact H1.out.below (B:=w.heap.size) ah (Nat.le_refl _)));rintro e w1 ⟨rfl,hb1⟩;obtain⟨g1,rfl⟩:=mob hb1;clear hb1)
  refine bodyPost_ret (v:=.tuple #[.int .i64 (0),.bool false]) tM rfl ⟨?_,by exact bel⟩
  rw[oc HI.out,oF HI.out]
end
section
open Go.RowKit Go.BigFrame
attribute [local go_sem ↓] Go.wp_at_zero Go.wp_at_succ
structure IO'(w:World)(g:Nat)(zs:List Int):Prop where
 lt:g<w.heap.size
 c:∀(k:Nat) (z:Int),zs[k]?=some z→w.cell? ⟨g,k,none⟩=some (.int .i64 z)
 fr:∀k,w.frozen? ⟨g,k,none⟩=false
theorem IO'.below{B:Nat}{w w':World}{g:Nat}{zs:List Int}(h:IO' w g zs)(hb:Below B w w')(hB:w.heap.size≤B):IO' w' g zs:=by
 have hg:g<B:=Nat.lt_of_lt_of_le h.lt hB
 exact⟨Nat.lt_of_lt_of_le h.lt hb.size,fun k z hz=>(hb.cell (p:=⟨g,k,none⟩) hg).trans (h.c k z hz),fun k=>(hb.frozen (p:=⟨g,k,none⟩) hg).trans (h.fr k)⟩
theorem IO'.set{w:World}{g:Nat}{zs:List Int}(h:IO' w g zs){k:Nat}(hk:k<zs.length)(z:Int):IO' (w.setCell ⟨g,k,none⟩ (.int .i64 z)) g (zs.set k z):=by
 have hc:=h.c k _ (getD_some hk)
 refine⟨by simpa using h.lt,fun i y hy=>?_,fun i=>by rw[World.frozen?_setCell];exact h.fr i⟩
 by_cases e:i=k
 ·subst e
  rw[List.getElem?_set_self hk]at hy
  cases hy
  exact ct _ _ _ _ _ hc
 ·rw[List.getElem?_set_ne (Ne.symm e)]at hy
  rw[bP _ _ _ _ _ e]
  exact h.c i y hy
theorem CE:(Tryz.prog.info? 3).map (fun i=>(i.zero,i.size,i.bytes))=some (some (.int .i64 0),1,8):=by kernel_rfl
theorem AF(n:Nat)(hn:n≤1000000000)(w:World):
  (Instr.makeSlice 40 (.int .i64 (n:Int)) (.int .i64 (n:Int))).run Tryz.prog w= .ok (.slice (some ⟨w.heap.size,0,none⟩) n n) (w.alloc (.cells (madeCells #[.int .i64 0] n) 3)):=by
 obtain⟨i,hi,hz,hs,hb⟩:=eB CE
 have hr:=run_make (P:=Tryz.prog) w 40 3 i _ Tryz.underlying40 hi hz .i64 .i64 n n (by omega) (Int.le_refl _) (by rw[hb];omega) (by omega)
 rw[hs]at hr
 simpa[Value.cells]using hr
theorem IO'.made(w:World)(n:Nat):IO' (w.alloc (.cells (madeCells #[.int .i64 0] n) 3)) w.heap.size (List.replicate n 0):=by
 have hh:=heap_alloc_new w (.cells (madeCells #[.int .i64 0] n) 3)
 refine⟨by simp,fun k z hz=>?_,fun k=>?_⟩
 ·rw[List.getElem?_replicate]at hz
  split at hz
  ·cases hz
   rw[cell_of_row _ w.heap.size _ _ _ (0,0) hh]
   unfold madeCells
   rw[Array.getElem?_map,Array.getElem?_range,if_pos (by omega)]
   simp[Nat.mod_one]
  ·cases hz
 ·simp only[World.frozen?]
  rw[hh]
  simp
theorem IO'.grew{w w':World}{base:Nat}{T:TypeId}{v v' u:Value}{l:List Value}{g:Nat}{zs:List Int}(h:IO' w g zs)(hg:r7 w w' base T v v' l u)(hne:v.ownBlock≠some g):IO' w' g zs:=by
 have hb:w'.heap[g]?=w.heap[g]?:=hg.by'.block g h.lt (fun e=>hne e.symm)
 exact⟨Nat.lt_of_lt_of_le h.lt hg.by'.size,fun k z hz=>(World.cell?_of_block hb).trans (h.c k z hz),fun k=>(frozen?_of_block hb).trans (h.fr k)⟩
def rws(gs:Nat→Nat)(n k:Nat):List Value:=(List.range k).map fun i=>.slice (some ⟨gs i,0,none⟩) n n
theorem B9(gs:Nat→Nat)(n k g:Nat):rws (fun i=>if i=k then g else gs i) n (k+1)=rws gs n k++[.slice (some ⟨g,0,none⟩) n n]:=by
 unfold rws
 rw[List.range_succ,List.map_append,List.map_congr_left (g:=fun i=>.slice (some ⟨gs i,0,none⟩) n n) fun i hi=>by
  show Value.slice (some ⟨if i=k then g else gs i,0,none⟩) n n=_
  rw[if_neg (by have:=List.mem_range.1 hi;omega)]]
 simp
def Rows(w:World)(v:Value)(gs:Nat→Nat)(M:Mx.Mat)(k:Nat):Prop:=∀i,i<k→IO' w (gs i) (Mx.rw M i)∧v.ownBlock≠some (gs i)
theorem Rows.step{w W w':World}{base:Nat}{T:TypeId}{v v' u:Value}{l:List Value}{gs:Nat→Nat}{M:Mx.Mat}{k g:Nat}(h:Rows w v gs M k)(hb:Below w.heap.size w W)(hi:IO' W g (Mx.rw M k))(hg:w.heap.size≤g)(ho:fo w base T v l)(hgr:r7 W w' base T v v' l u):
  Rows w' v' (fun i=>if i=k then g else gs i) M (k+1):=fun i hik=>by
 have hne:∀i,i<k+1→IO' W (if i=k then g else gs i) (Mx.rw M i)∧v.ownBlock≠some (if i=k then g else gs i):=fun i hik=>by
  by_cases e:i=k
  ·subst e
   rw[if_pos rfl]
   exact⟨hi,fun e2=>by have:=Hy ho e2;omega⟩
  ·rw[if_neg e]
   have:=h i (by omega)
   exact⟨this.1.below hb (Nat.le_refl _),this.2⟩
 obtain⟨h1,h2⟩:=hne i hik
 refine⟨h1.grew hgr h2,fun e=>?_⟩
 rcases hgr.at' with h3|h3
 ·exact h2 (h3.symm.trans e)
 ·rw[h3]at e
  simp only[Option.some.injEq]at e
  have:=h1.lt
  omega
def ZMB(B:Nat)(w:World)(v:Value)(m:List (List Int)):Prop:=∃a cap,v= .slice a m.length cap∧m.length≤cap∧(m=[]∨∃g,a=some ⟨g,0,none⟩∧B≤g∧g<w.heap.size∧
 ∀(i:Nat) (l:List Int),m[i]?=some l→∃g',w.cell? ⟨g,i,none⟩=some (.slice (some ⟨g',0,none⟩) l.length l.length)∧B≤g'∧IO' w g' l)
theorem fo.zmb{w:World}{base:Nat}{T:TypeId}{v:Value}{gs:Nat→Nat}{n:Nat}{M:Mx.Mat}(h:fo w base T v (rws gs n M.length))(hr:Mx.Rc n M)(hrow:Rows w v gs M M.length)(hbs:∀i,i<M.length→base≤gs i):ZMB base w v M:=by
 obtain⟨h0,h⟩:=h
 have hl:(rws gs n M.length).length=M.length:=by simp[rws]
 rcases h with⟨hv',hn⟩|⟨g,cap,cur,rfl,hb,hg,hle,hm,hsz,htk⟩
 ·exact⟨none,0,by rw[hv',show M.length=0 by omega],by omega,.inl (List.eq_nil_of_length_eq_zero (by omega))⟩
 ·refine⟨_,cap,by rw[hl],by omega,.inr ⟨g,rfl,hb,(Array.getElem?_eq_some_iff.1 hg).1,fun i l hi=>?_⟩⟩
  have hi2:=(List.getElem?_eq_some_iff.1 hi).1
  have hln:l.length=n:=hr l (List.mem_of_getElem? hi)
  have hrw:Mx.rw M i=l:=Mx.fI hi
  refine⟨gs i,?_,hbs i hi2,?_⟩
  ·rw[cell_of_row w g _ cur _ (0,0) hg]
   have h1:(rws gs n M.length)[i]?=some (.slice (some ⟨gs i,0,none⟩) n n):=by unfold rws;rw[List.getElem?_map,List.getElem?_range hi2];rfl
   rw[←htk,List.getElem?_take_of_lt (by omega),Array.getElem?_toList]at h1
   rw[hln];exact h1
  ·have:=(hrow i hi2).1
   rwa[hrw]at this
theorem Ca:(Tryz.prog.info? 40).map (fun i=>(i.zero,i.size,i.bytes))=some (some (.slice none 0 0),1,24):=by kernel_rfl
def InL(L:Nat)(M:Mx.Mat):Prop:=∀i j,(Mx.at' M i j).natAbs≤L
open Classical in
def SMQ(w:World)(L:Nat)(M:Mx.Mat)(e:Ending)(w':World):Prop:=(if InL L M then∃v,e= .returned (.tuple #[v,.bool true])∧ZMB w.heap.size w' v M else e= .returned (.tuple #[.slice none 0 0,.bool false]))∧Below w.heap.size w w'
theorem zN{w w':World}{L:Nat}{M:Mx.Mat}{v:Value}(h:InL L M)(hz:ZMB w.heap.size w' v M)(hb:Below w.heap.size w w'):SMQ w L M (.returned (.tuple #[v,.bool true])) w':=
 ⟨by rw[if_pos h];exact⟨v,rfl,hz⟩,hb⟩
theorem mn{w w':World}{L:Nat}{M:Mx.Mat}(h:¬InL L M)(hb:Below w.heap.size w w'):SMQ w L M (.returned (.tuple #[.slice none 0 0,.bool false])) w':=
 ⟨by rw[if_neg h],hb⟩
set_option maxRecDepth 10000 in
set_option maxHeartbeats 8000000 in
theorem yL(M:Mx.Mat)(n L:Nat)(v:Value)(hm:M.length≤1000000)(hn:n≤1000000)(hL:L≤1000000000000000000)(hf:∀i j,Fit (Mx.at' M i j))(w:World)(h:MR w v n M):
  Calls Tryz.prog 74 #[v,.int .i64 ((L:Int))] w (SMQ w L M):=by
 obtain⟨a,cap,rfl,_,hr,h4⟩:=h.row
 have HRC:Hid (Mx.Rc n M):=hr
 have hmk:=AF n (by omega)
 have H4:=Lib.hid h4
 have HF:Hid _:=hf
 clear hr h4 h hf
 generalize hml:M.length=q at*
 have HQ:=Lib.hid hml
 clear hml
 go_enter Tryz.func74,Tryz.ntmps74
 go_wp2_with fail
 go_loopw [6,16] (fun v6 i wr=>∃(k:Nat) (gs:Nat→Nat),k≤q∧i= .int .i64 ((k:Int))∧Below w.heap.size w wr∧Hid (fo wr w.heap.size 40 v6 (rws gs n k)∧Rows wr v6 gs M k∧(∀i j,i<k→(Mx.at' M i j).natAbs≤L)∧∀i,i<k→w.heap.size≤gs i)) (fun _ i _=>q-(intOf i).toNat)
 case atStart=>
  exact⟨0,id,by omega,rfl,by exact bel,fo.nil _ _ _,fun i hi=>by omega,fun i j hi=>by omega,fun i hi=>by omega⟩
 case round=>
  obtain⟨k,gs,hk,rfl,hB,HR⟩:=hrel
  by_cases hkn:k<q
  ·have hkn2:(k:Int)<(q:Int):=by omega
   rcases H4.out with h0|⟨gm,om,ha,hal,hcc⟩
   ·have:=HQ.out;rw[h0]at this;simp at this;omega
   obtain⟨b,c,cz,hza⟩:=hcc k hkn
   have cz2:=(hB.cell (p:=⟨gm,om+k,none⟩) hal).trans cz
   subst ha
   obtain⟨b',c',e',hc',hlen',⟨g,o,rfl⟩,hra⟩:=hza
   cases e'
   have HRA:=Lib.hid hra
   have hsw:w.heap.size≤wr.heap.size:=hB.size
   have HBW:=Lib.hid hB
   clear hcc hra cz
   go_wp2_with fail
   obtain⟨W1,hW1⟩:∃W,W=wr:=⟨wr,rfl⟩
   subst hW1
   clear hB
   go_loopw [25] (fun i2 wx=>∃j:Nat,j≤n∧i2= .int .i64 ((j:Int))∧Below W1.heap.size W1 wx∧W1.heap.size<wx.heap.size∧Hid (IO' wx W1.heap.size ((Mx.rw M k).take j++List.replicate ((Mx.rw M k).length-j) 0)∧∀j',j'<j→(Mx.at' M k j').natAbs≤L)) (fun i2 _=>n-(intOf i2).toNat)
   case atStart=>
    refine⟨0,by omega,rfl,by exact bel,by simp,?_,fun j' hj=>by omega⟩
    rw[hlen',Nat.sub_zero,List.take_zero,List.nil_append]
    exact IO'.made _ n
   case round=>
    obtain⟨j,hjn,rfl,hBX,hW1x,HIO⟩:=hrel
    have HBX:=Lib.hid hBX
    have hBWX:=HBW.out.trans (hBX.mono hsw)
    have HBWX:=Lib.hid hBWX
    have hsx:w.heap.size≤wr.heap.size:=hBWX.size
    by_cases hjk:j<n
    ·have hjk2:(j:Int)<(n:Int):=by omega
     have hz:=getD_some (l:=Mx.rw M k) (k:=j) (by rw[hlen'];exact hjk)
     have HZ:Hid ((Mx.rw M k)[j]?=some (Mx.at' M k j)):=hz
     have hra2:RA wr g o (Mx.rw M k):=by
      rcases HRA.out with h0|⟨g',o',e',h5⟩
      ·omega
      ·cases e'
       exact h5.below hBWX (Nat.le_refl _)
     obtain⟨x,x0,x1,xz⟩:=hra2.c j _ hz
     have hgl:g<wr.heap.size:=hra2.lt
     have HX:Hid (IZ wr x (Mx.at' M k j)):=xz
     have c0:=HIO.out.1.c j 0 (by
      rw[List.getElem?_append_right (by rw[List.length_take,hlen'];omega),List.length_take,hlen',Nat.min_eq_left (by omega),Nat.sub_self,List.getElem?_replicate,if_pos (by omega)])
     have f0:=HIO.out.1.fr j
     have SM:=Lib.hid (fun w hx=>sd x (Mx.at' M k j) (HF.out k j) w hx)
     obtain⟨xs,xa,xn,xc⟩:=x
     simp only[]at x0 x1 SM
     clear hz hra2 xz hBX hBWX
     by_cases hg:(Mx.at' M k j).natAbs≤L
     ·have hI:I64 (Mx.at' M k j):=by unfold I64;omega
      have SM2:Hid (∀w,IP w ⟨xs,xa,xn,xc⟩ (Mx.at' M k j)→Calls Tryz.prog 120 #[.agg #[.bool ((⟨xs,xa,xn,xc⟩:IV)).s,.slice ((⟨xs,xa,xn,xc⟩:IV)).a ((⟨xs,xa,xn,xc⟩:IV)).n ((⟨xs,xa,xn,xc⟩:IV)).cap]] w fun e w'=>e= .returned (.tuple #[.int .i64 (Mx.at' M k j),.bool true])∧Below w.heap.size w w'):=fun w hx=>(SM.out w hx).mono fun e w' h=>⟨by rw[h.1,p8 hI,qI hI],h.2⟩
      have t1:¬(L:Int)<Mx.at' M k j:=by omega
      have t2:¬Mx.at' M k j< -(L:Int):=by omega
      have t3:decide ((L:Int)<Mx.at' M k j)=false:=by rw[decide_eq_false_iff_not];exact t1
      have t4:decide (Mx.at' M k j< -(L:Int))=false:=by rw[decide_eq_false_iff_not];exact t2
      have HG:=Lib.hid hg
      clear SM hI hg
      go_wp2_with (go_at_call 120;(with_reducible refine(SM2.out _ ?_).mono ?_);(focus(exact(HX.out.below (B:=wr.heap.size) ah (Nat.le_refl _)).ip));rintro e w4 ⟨rfl,hb4⟩;have HB4:=Lib.hid hb4;obtain⟨g4,rfl⟩:=mob hb4;clear hb4)
      go_roundw
      case rel=>
       have hb4:Below wr.heap.size wr (more (wr.alloc (.cells #[.bool xs,.slice xa xn xc] 62)) g4):=by exact bel
       have h1:=(HIO.out.1.below hb4 (Nat.le_refl _)).set (k:=j) (by rw[List.length_append,List.length_take,List.length_replicate,hlen'];omega) (Mx.at' M k j)
       have e5:(more (wr.alloc (.cells #[.bool xs,.slice xa xn xc] 62)) g4).setCell ⟨W1.heap.size,j,none⟩ (.int .i64 (Mx.at' M k j))=more ((wr.setCell ⟨W1.heap.size,j,none⟩ (.int .i64 (Mx.at' M k j))).alloc (.cells #[.bool xs,.slice xa xn xc] 62)) g4:=by go_simp
       rw[u7 rfl HZ.out,e5]at h1
       have hBX:=HBX.out
       refine⟨j+1,by omega,by go_num,by exact bel,?_,h1,fun j' hj=>?_⟩
       ·first|omega|(simp;omega)
       ·by_cases e:j'=j
        ·rw[e];exact HG.out
        ·exact HIO.out.2 j' (by omega)
      case measure=>simp[intOf];omega
     ·have NB:Hid (¬InL L M):=fun h=>hg (h k j)
      by_cases hI:I64 (Mx.at' M k j)
      ·have SM2:Hid (∀w,IP w ⟨xs,xa,xn,xc⟩ (Mx.at' M k j)→Calls Tryz.prog 120 #[.agg #[.bool ((⟨xs,xa,xn,xc⟩:IV)).s,.slice ((⟨xs,xa,xn,xc⟩:IV)).a ((⟨xs,xa,xn,xc⟩:IV)).n ((⟨xs,xa,xn,xc⟩:IV)).cap]] w fun e w'=>e= .returned (.tuple #[.int .i64 (Mx.at' M k j),.bool true])∧Below w.heap.size w w'):=fun w hx=>(SM.out w hx).mono fun e w' h=>⟨by rw[h.1,p8 hI,qI hI],h.2⟩
       clear SM hI
       by_cases hgt:(L:Int)<Mx.at' M k j
       ·have t3:decide ((L:Int)<Mx.at' M k j)=true:=by rw[decide_eq_true_iff];exact hgt
        clear hg
        go_wp2_with (go_at_call 120;(with_reducible refine(SM2.out _ ?_).mono ?_);(focus(exact(HX.out.below (B:=wr.heap.size) ah (Nat.le_refl _)).ip));rintro e w4 ⟨rfl,hb4⟩;obtain⟨g4,rfl⟩:=mob hb4;clear hb4)
        refine bodyPost_ret (v:=.tuple #[.slice none 0 0,.bool false]) ye rfl (mn NB.out ?_)
        have hb:=HBWX.out
        exact bel
       ·have t3:decide ((L:Int)<Mx.at' M k j)=false:=by rw[decide_eq_false_iff_not];exact hgt
        have t2:Mx.at' M k j< -(L:Int):=by omega
        have t4:decide (Mx.at' M k j< -(L:Int))=true:=by rw[decide_eq_true_iff];exact t2
        clear hg
        go_wp2_with (go_at_call 120;(with_reducible refine(SM2.out _ ?_).mono ?_);(focus(exact(HX.out.below (B:=wr.heap.size) ah (Nat.le_refl _)).ip));rintro e w4 ⟨rfl,hb4⟩;obtain⟨g4,rfl⟩:=mob hb4;clear hb4)
        refine bodyPost_ret (v:=.tuple #[.slice none 0 0,.bool false]) ye rfl (mn NB.out ?_)
        have hb:=HBWX.out
        exact bel
      ·have SM2:Hid (∀w,IP w ⟨xs,xa,xn,xc⟩ (Mx.at' M k j)→Calls Tryz.prog 120 #[.agg #[.bool ((⟨xs,xa,xn,xc⟩:IV)).s,.slice ((⟨xs,xa,xn,xc⟩:IV)).a ((⟨xs,xa,xn,xc⟩:IV)).n ((⟨xs,xa,xn,xc⟩:IV)).cap]] w fun e w'=>e= .returned (.tuple #[.int .i64 (0),.bool false])∧Below w.heap.size w w'):=fun w hx=>(SM.out w hx).mono fun e w' h=>⟨by rw[h.1,oc hI,oF hI],h.2⟩
       clear SM hI hg
       go_wp2_with (go_at_call 120;(with_reducible refine(SM2.out _ ?_).mono ?_);(focus(exact(HX.out.below (B:=wr.heap.size) ah (Nat.le_refl _)).ip));rintro e w4 ⟨rfl,hb4⟩;obtain⟨g4,rfl⟩:=mob hb4;clear hb4)
       refine bodyPost_ret (v:=.tuple #[.slice none 0 0,.bool false]) ye rfl (mn NB.out ?_)
       have hb:=HBWX.out
       exact bel
    ·obtain rfl:j=n:=by omega
     have hjk2:¬(j:Int)<(j:Int):=by omega
     have HL:Hid ((rws gs j k).length≤1000000000):=by show _≤_;simp[rws];omega
     go_wp2_with (at_builtin;go_must (refine oK Ca rfl (by decide) Tryz.underlying22 rfl (.tmp 53) (.tmp 55) rfl (u:=.slice (some ⟨W1.heap.size,0,none⟩) j j) (ad:=⟨wr.heap.size,0,none⟩) (c:=1) (l:=rws gs j k) (base:=w.heap.size) rfl rfl ?_ HL.out ?_ ?_ rfl ?_);(focus(exact(HR.out.1.low HBX.out).low ah));(focus(first|omega|(simp;omega)));(focus(go_simp));intro v7 w7 hg7;have HG7:=Lib.hid hg7;clear hg7)
     go_roundw
     case rel=>
      have hbx:Below W1.heap.size W1 (wr.alloc (.cells #[.slice (some ⟨W1.heap.size,0,none⟩) j j] 40)):=HBX.out.trans ((Below.refl _ _).alloc (by omega) _)
      have hfull:(Mx.rw M k).take j++List.replicate ((Mx.rw M k).length-j) 0=Mx.rw M k:=by rw[hlen',Nat.sub_self,List.take_of_length_le (by omega)];simp
      have h1:=HIO.out.1
      rw[hfull]at h1
      have h2:=Rows.step HR.out.2.1 hbx (h1.below ((Below.refl wr.heap.size wr).alloc (Nat.le_refl _) _) (Nat.le_refl _)) (Nat.le_refl _) HR.out.1 HG7.out
      have hb7:Below w.heap.size w w7:=HG7.out.below ((HR.out.1.low HBX.out).low ((Below.refl wr.heap.size wr).alloc (Nat.le_refl _) _)) (HBWX.out.alloc (by omega) _) bW
      have h3:=HG7.out.own
      rw[←B9]at h3
      refine⟨k+1,_,by omega,by go_num,hb7,h3,h2,fun i j' hi=>?_,fun i hi=>?_⟩
      ·by_cases e:i=k
       ·by_cases e2:j'<j
        ·rw[e];exact HIO.out.2 j' e2
        ·rw[Mx.tB HRC.out (by omega)];simp
       ·exact HR.out.2.2.1 i j' (by omega)
      ·by_cases e:i=k
       ·rw[if_pos e];exact HBW.out.size
       ·rw[if_neg e];exact HR.out.2.2.2 i (by omega)
     case measure=>simp[intOf];omega
  ·obtain rfl:k=q:=by omega
   have hkn2:¬(k:Int)<(k:Int):=by omega
   have HI:Hid (InL L M):=fun i j=>by
    by_cases e:i<k
    ·exact HR.out.2.2.1 i j e
    ·rw[Mx.nP (by rw[HQ.out];omega)];simp
   have HZM:Hid (ZMB w.heap.size wr u6 M):=fo.zmb (by rw[HQ.out];exact HR.out.1) HRC.out (by rw[HQ.out];exact HR.out.2.1) (by rw[HQ.out];exact HR.out.2.2.2)
   go_wp2_with fail
   refine bodyPost_ret (v:=.tuple #[u6,.bool true]) ye rfl (zN HI.out HZM.out hB)
end
section
open Go.RowKit Go.BigFrame
attribute [local go_sem ↓] Go.wp_at_zero Go.wp_at_succ
def mapM(f:Int→Int)(M:Mx.Mat):Mx.Mat:=M.map (List.map f)
theorem lK(f:Int→Int)(M:Mx.Mat)(i:Nat):Mx.rw (mapM f M) i=(Mx.rw M i).map f:=by
 unfold Mx.rw mapM
 rw[List.getD_eq_getElem?_getD,List.getD_eq_getElem?_getD,List.getElem?_map]
 cases M[i]?<;>simp
theorem eZ(f:Int→Int)(M:Mx.Mat):(mapM f M).length=M.length:=by simp[mapM]
theorem Gl{n:Nat}{f:Int→Int}{M:Mx.Mat}(h:Mx.Rc n M):Mx.Rc n (mapM f M):=fun r hr=>by
 obtain⟨x,hx,rfl⟩:=List.mem_map.1 hr
 rw[List.length_map];exact h x hx
def cU(k:Nat)(A B:Mx.Mat):Mx.Mat:=A.take k++B.drop k
theorem qi(A B:Mx.Mat):cU 0 A B=B:=by simp[cU]
theorem sw{A B:Mx.Mat}{k:Nat}(h:A.length≤k)(h2:B.length≤k):cU k A B=A:=by
 unfold cU;rw[List.take_of_length_le h,List.drop_eq_nil_of_le h2,List.append_nil]
theorem su{A B:Mx.Mat}(h:A.length=B.length)(k:Nat):(cU k A B).length=B.length:=by
 unfold cU;rw[List.length_append,List.length_take,List.length_drop];omega
theorem Cj{A B:Mx.Mat}(h:A.length=B.length){k:Nat}(hk:k<B.length):Mx.rw (cU k A B) k=Mx.rw B k:=by
 unfold Mx.rw cU
 rw[List.getD_eq_getElem?_getD,List.getD_eq_getElem?_getD,List.getElem?_append_right jq,List.length_take,Nat.min_eq_left (by omega),Nat.sub_self,List.getElem?_drop,Nat.add_zero]
theorem ns{A B:Mx.Mat}(h:A.length=B.length){k:Nat}(hk:k<B.length):(cU k A B).set k (Mx.rw A k)=cU (k+1) A B:=by
 unfold cU
 rw[List.set_append,if_neg jq,List.length_take,Nat.min_eq_left (by omega),Nat.sub_self,List.drop_eq_getElem_cons hk,List.set_cons_zero,List.take_add_one,dc (M:=A) (by omega)]
 simp
theorem MB.weak{w:World}{B B' gm L:Nat}{gs cs:Nat→Nat}{n:Nat}{M:Mx.Mat}(h:MB w B gm L gs cs n M)(hB:B'≤B):MB w B' gm L gs cs n M:=
 ⟨Nat.le_trans hB h.b,h.lt,h.fr,h.hl,h.nw,h.ml,h.rc,fun i hi=>by
  obtain⟨b,h1,h2,hA,h3⟩:=h.hc i hi
  exact⟨b,h1,h2,hA,fun h0=>⟨(h3 h0).1,Nat.le_trans hB (h3 h0).2.1,(h3 h0).2.2⟩⟩,h.dj⟩
theorem Gk{f:Int→Int}{zs:List Int}{k:Nat}{z:Int}(h:zs[k]?=some z):(zs.map f)[k]?=some (f z):=by rw[List.getElem?_map,h];rfl
set_option maxRecDepth 10000 in
set_option maxHeartbeats 8000000 in
theorem Az(M:Mx.Mat)(n:Nat)(v:Value)(K:IV)(kz:Int)(hm:M.length≤1000000)(hn:n≤1000000)(fk:Fit kz)(hf:∀i j,Fit (Mx.at' M i j))(w:World)(h:MR w v n M)(hk:IZ w K kz):
  Calls Tryz.prog 119 #[v,.agg #[.bool K.s,.slice K.a K.n K.cap]] w (qT w n (mapM (fun z=>z/kz) M)):=by
 have CL:=Lib.hid (fun w h=>qq M n v hm hn w h)
 have H:=Lib.hid h
 have HK:=Lib.hid hk
 have HF:Hid _:=hf
 have FK:=Lib.hid fk
 obtain⟨hRC,a,cap,rfl⟩:Mx.Rc n M∧∃a cap,v= .slice a M.length cap:=by obtain⟨a,cap,h1,_,h3,_⟩:=h;exact⟨h3,a,cap,h1⟩
 have RC:=Lib.hid hRC
 obtain⟨ks,ka,kn,kc⟩:=K
 clear h hk hf fk hRC
 generalize hml:M.length=q at*
 have HQ:=Lib.hid hml
 clear hml
 go_enter Tryz.func119,Tryz.ntmps119
 go_wp2_with (go_at_call 156;(with_reducible refine(CL.out _ ?_).mono ?_);(focus(exact H.out.below (B:=w.heap.size) ah (Nat.le_refl _)));rintro e w4 ⟨⟨gm,gs,cs,cp,rfl,hcp,hmb⟩,hb4⟩;rw[HQ.out]at hcp hmb⊢;have HM4:=Lib.hid hmb;have HB4:=Lib.hid hb4;clear hb4 hmb)
 have hs0:(w.alloc (.cells #[.bool ks,.slice ka kn kc] 62)).heap.size=w.heap.size+1:=by simp
 have HB0:Hid (Below w.heap.size w w4):=Below.trans (b:=w.alloc (.cells #[.bool ks,.slice ka kn kc] 62)) ah (HB4.out.mono (by omega))
 have b0:w4.cell? ⟨w.heap.size,0,none⟩=some (.bool ks):=(HB4.out.cell (p:=⟨w.heap.size,0,none⟩) (by rw[hs0];exact Nat.lt_succ_self _)).trans (by go_simp)
 have b1:w4.cell? ⟨w.heap.size,1,none⟩=some (.slice ka kn kc):=(HB4.out.cell (p:=⟨w.heap.size,1,none⟩) (by rw[hs0];exact Nat.lt_succ_self _)).trans (by go_simp)
 have HM5:Hid (MB w4 (w.heap.size+1) gm q gs cs n M):=by have:=HM4.out;rw[hs0]at this;exact this
 have hw4:w.heap.size<w4.heap.size:=by have:=HM5.out.b;have:=HM5.out.lt;omega
 have HK4:=Lib.hid (HK.out.below HB0.out (Nat.le_refl _))
 have ML:=Lib.hid (eZ (fun z=>z/kz) M)
 clear HM4 HB4 hs0
 go_loopw [14] (fun i wr=>∃k:Nat,k≤q∧i= .int .i64 ((k:Int))∧Hid (Below (w.heap.size+1) w4 wr)∧Hid (MB wr (w.heap.size+1) gm q gs cs n (cU k (mapM (fun z=>z/kz) M) M))) (fun i _=>q-(intOf i).toNat)
 case atStart=>exact⟨0,by omega,rfl,Below.refl _ _,by show MB _ _ _ _ _ _ _ _;rw[qi];exact HM5.out⟩
 case round=>
  obtain⟨k,hk,rfl,HB,HR⟩:=hrel
  by_cases hkn:k<q
  ·have hkn2:(k:Int)<(q:Int):=by omega
   have hpl:(cU k (mapM (fun z=>z/kz) M) M).length=q:=by rw[su ML.out,HQ.out]
   obtain⟨b,cz,hc,_,hrow⟩:=HR.out.hc k (by rw[hpl];exact hkn)
   have hgl:gm<wr.heap.size:=HR.out.lt
   have HRW:=Lib.hid (Cj (A:=mapM (fun z=>z/kz) M) (B:=M) ML.out (k:=k) lZ)
   by_cases hn0:n=0
   ·subst hn0
    clear hrow
    go_wp2_with fail
    refine wp_loop_rounds 1 ?_
    rw[rounds_succ]
    go_wp2_with fail
    go_roundw
    case rel=>
     refine⟨k+1,by omega,by go_num,HB.out,?_⟩
     have h1:=HR.out
     have hset:=ns (A:=mapM (fun z=>z/kz) M) (B:=M) ML.out (k:=k) lZ
     have hz:Mx.rw (mapM (fun z=>z/kz) M) k=Mx.rw (cU k (mapM (fun z=>z/kz) M) M) k:=by
      rw[HRW.out,lK]
      have:=RC.out.rw (i:=k) lZ
      rw[List.eq_nil_of_length_eq_zero this];rfl
     rw[hz,Mx.zW]at hset
     show MB _ _ _ _ _ _ _ _
     rw[←hset];exact h1
    case measure=>simp[intOf];omega
   ·obtain⟨rfl,hBg,hgne,hro⟩:=hrow (by omega)
    rw[HRW.out]at hro
    have HRO:=Lib.hid hro
    have hlen:(Mx.rw M k).length=n:=RC.out.rw lZ
    have hnw:Hid (NW wr (gs k)):=hro.nw (fun e=>by rw[e]at hlen;simp at hlen;omega)
    have hgk:gs k<wr.heap.size:=hro.lt
    have hwr:w.heap.size<wr.heap.size:=Nat.lt_of_lt_of_le hw4 HB.out.size
    have d0:=(HB.out.cell (p:=⟨w.heap.size,0,none⟩) (Nat.lt_succ_self _)).trans b0
    have d1:=(HB.out.cell (p:=⟨w.heap.size,1,none⟩) (Nat.lt_succ_self _)).trans b1
    have HK5:=Lib.hid (HK.out.below (HB0.out.trans (HB.out.mono (Nat.le_succ _))) (Nat.le_refl _))
    obtain⟨W1,hW1⟩:∃W,W=wr:=⟨wr,rfl⟩
    subst hW1
    clear hrow hro
    go_wp2_with fail
    go_loopw [20] (fun i2 wx=>∃j:Nat,j≤n∧i2= .int .i64 ((j:Int))∧Hid (Chg (gs k) W1 wx)∧Hid (RO wx (gs k) (part j ((Mx.rw M k).map (fun z=>z/kz)) (Mx.rw M k)))) (fun i2 _=>n-(intOf i2).toNat)
    case atStart=>exact⟨0,by omega,rfl,Chg.refl _ _,by show RO _ _ _;rw[nr];exact HRO.out⟩
    case round=>
     obtain⟨j,hjn,rfl,HC,HX⟩:=hrel
     have hlm:((Mx.rw M k).map (fun z=>z/kz)).length=(Mx.rw M k).length:=List.length_map _
     by_cases hjk:j<n
     ·have hjk2:(j:Int)<(n:Int):=by omega
      have hz:=getD_some (l:=Mx.rw M k) (k:=j) (by rw[hlen];exact hjk)
      have HZ:Hid ((Mx.rw M k)[j]?=some (Mx.at' M k j)):=hz
      obtain⟨x,cx0,cx1,hxz,f0,f1⟩:=HX.out.at (k:=j) (z:=Mx.at' M k j) (by rw[ot hlm (by rw[hlen];exact hjk)];exact hz)
      have HXZ:=Lib.hid hxz
      have HKX:=Lib.hid (HK5.out.chg HC.out hnw.out)
      have FX:=Lib.hid (HF.out k j)
      have hgx:gs k<wr.heap.size:=HX.out.lt
      have hwx:w.heap.size<wr.heap.size:=Nat.lt_of_lt_of_le hwr HC.out.size
      have e0:=(HC.out.cell (o:=0) hwr (by omega)).trans d0
      have e1:=(HC.out.cell (o:=1) hwr (by omega)).trans d1
      obtain⟨xs,xa,xn,xc⟩:=x
      simp only[]at cx0 cx1
      clear hz hxz d0 d1
      go_wp2_with (go_at_call 121;(with_reducible refine(fY ⟨xs,xa,xn,xc⟩ ⟨ks,ka,kn,kc⟩ (Mx.at' M k j) kz FX.out FK.out _ ((HXZ.out.below (B:=wr.heap.size) ah (Nat.le_refl _)).ip) ((HKX.out.below (B:=wr.heap.size) ah (Nat.le_refl _)).ip)).mono ?_);rintro e w5 ⟨⟨y,rfl,hy⟩,hb5⟩;have HY:=Lib.hid hy;clear hy;obtain⟨g5,rfl⟩:=mob hb5;clear hb5)
      go_roundw
      case rel=>
       have hb5:Below wr.heap.size wr (more (wr.alloc (.cells #[.bool xs,.slice xa xn xc] 62)) g5):=by exact bel
       have h1:=(HX.out.below hb5 (Nat.le_refl _)).set (k:=j) (by rw[mD hlm,hlen];exact hjk) HY.out
       rw[mC hlm (Gk HZ.out)]at h1
       have h2:=o9 ((HC.out.alloc (.cells #[.bool xs,.slice xa xn xc] 62)).mor g5) j y
       have e5:ei (more (wr.alloc (.cells #[.bool xs,.slice xa xn xc] 62)) g5) (gs k) j y=more ((ei wr (gs k) j y).alloc (.cells #[.bool xs,.slice xa xn xc] 62)) g5:=by unfold ei;go_simp
       rw[e5]at h1 h2
       exact⟨j+1,by omega,by go_num,h2,h1⟩
      case measure=>simp[intOf];omega
     ·obtain rfl:j=n:=by omega
      have hjk2:¬(j:Int)<(j:Int):=by omega
      go_wp2_with fail
      go_roundw
      case rel=>
       have h1:=HX.out
       rw[pd (by rw[hlm,hlen];exact Nat.le_refl _) (by rw[hlen];exact Nat.le_refl _),←lK]at h1
       have hmo:=(HR.out.mo (by omega)).setRow (i:=k) (by rw[hpl];exact hkn) (zs:=Mx.rw (mapM (fun z=>z/kz) M) k) (by rw[lK,hlm,hlen]) HC.out h1
       rw[ns ML.out lZ]at hmo
       exact⟨k+1,by omega,by go_num,HC.out.below HB.out (by omega) (by omega),hmo.mb⟩
      case measure=>simp[intOf];omega
  ·obtain rfl:k=q:=by omega
   have hkn2:¬(k:Int)<(k:Int):=by omega
   go_wp2_with fail
   go_ret
   have h1:=HR.out
   rw[sw (by rw[ML.out,HQ.out];exact Nat.le_refl _) tL]at h1
   exact⟨⟨gm,gs,cs,cp,by rw[eZ,HQ.out];rfl,by rw[eZ,HQ.out];exact hcp,by rw[eZ,HQ.out];exact h1.weak (Nat.le_succ _)⟩,HB0.out.trans (HB.out.mono (Nat.le_succ _))⟩
end
section
open Go.RowKit Go.BigFrame
attribute [local go_sem ↓] Go.wp_at_zero Go.wp_at_succ
def gR(row:List Int)(z:Int):Int:=row.foldl (fun a x=>((Int.gcd a x:Nat):Int)) z
def gM(M:Mx.Mat)(z:Int):Int:=M.foldl (fun a r=>gR r a) z
theorem wU{row:List Int}{j:Nat}{x:Int}(h:row[j]?=some x)(z:Int):gR (row.take (j+1)) z=((Int.gcd (gR (row.take j) z) x:Nat):Int):=by
 unfold gR;rw[List.take_add_one,h,List.foldl_append];rfl
theorem wV{M:Mx.Mat}{k:Nat}{r:List Int}(h:M[k]?=some r)(z:Int):gM (M.take (k+1)) z=gR r (gM (M.take k) z):=by
 unfold gM;rw[List.take_add_one,h,List.foldl_append];rfl
theorem Gw{a b:Int}(fa:Fit a)(fb:Fit b):Fit ((Int.gcd a b:Nat):Int):=by
 by_cases h:a=0
 ·subst h
  rw[Int.gcd_zero_left]
  obtain⟨n,hn,hv⟩:=fb
  exact⟨n,hn,by rw[Int.natAbs_natCast];exact hv⟩
 ·obtain⟨n,hn,hv⟩:=fa
  refine⟨n,hn,Nat.lt_of_le_of_lt ?_ hv⟩
  rw[Int.natAbs_natCast]
  have:Int.gcd a b∣a.natAbs:=Int.gcd_dvd_natAbs_left a b
  exact Nat.le_of_dvd (by omega) this
theorem A7{row:List Int}(hr:∀x∈row,Fit x){z:Int}(hz:Fit z):Fit (gR row z):=by
 induction row generalizing z with
 |nil=>exact hz
 |cons x l ih=>
  exact ih (fun y hy=>hr y (List.mem_cons_of_mem _ hy)) (Gw hz (hr x List.mem_cons_self))
theorem A8{M:Mx.Mat}(hM:∀r∈M,∀x∈r,Fit x){z:Int}(hz:Fit z):Fit (gM M z):=by
 induction M generalizing z with
 |nil=>exact hz
 |cons r M ih=>exact ih (fun y hy=>hM y (List.mem_cons_of_mem _ hy)) (A7 (hM r List.mem_cons_self) hz)
theorem Gj{M:Mx.Mat}(h:∀i j,Fit (Mx.at' M i j)):∀r∈M,∀x∈r,Fit x:=fun r hr x hx=>by
 obtain⟨i,hi⟩:=List.getElem?_of_mem hr
 obtain⟨j,hj⟩:=List.getElem?_of_mem hx
 have:=h i j
 unfold Mx.at' at this
 rw[Mx.fI hi,jZ hj]at this
 exact this
def iw(W0 wr:World)(b:Nat)(z:Int):Prop:=Chg b W0 wr∧(∀k,wr.frozen? ⟨b,k,none⟩=false)∧b<wr.heap.size∧∃y:IV,wr.cell? ⟨b,0,none⟩=some (.bool y.s)∧wr.cell? ⟨b,1,none⟩=some (.slice y.a y.n y.cap)∧IZ wr y z
theorem iw.below{W0 w w':World}{b:Nat}{z:Int}(h:iw W0 w b z)(hb:Below w.heap.size w w'):iw W0 w' b z:=by
 obtain⟨h1,h2,h3,y,h4,h5,h6⟩:=h
 exact⟨h1.trans (Chg.of hb),fun k=>(hb.frozen (p:=⟨b,k,none⟩) h3).trans (h2 k),Nat.lt_of_lt_of_le h3 hb.size,y,(hb.cell (p:=⟨b,0,none⟩) h3).trans h4,(hb.cell (p:=⟨b,1,none⟩) h3).trans h5,h6.below hb (Nat.le_refl _)⟩
theorem iw.set{W0 w:World}{b:Nat}{z z':Int}(h:iw W0 w b z){y:IV}(hz:IZ w y z'):iw W0 ((w.setCell ⟨b,0,none⟩ (.bool y.s)).setCell ⟨b,1,none⟩ (.slice y.a y.n y.cap)) b z':=by
 obtain⟨h1,h2,h3,x,h4,h5,_⟩:=h
 have s0:=ct w b 0 (.bool y.s) _ h4
 refine⟨(h1.set b 0 _ (.inl rfl)).set b 1 _ (.inl rfl),fun k=>by rw[World.frozen?_setCell,World.frozen?_setCell];exact h2 k,by simpa using h3,y,?_,?_,?_⟩
 ·rw[bP _ _ _ _ _ (by omega)];exact s0
 ·exact ct _ _ _ _ _ ((bP _ _ _ _ _ (by omega)).trans h5)
 ·exact(hz.off (Off.set w b 0 _) h4).off (Off.set _ b 1 _) s0
theorem iw.nw{W0 w:World}{b:Nat}{z:Int}(h:iw W0 w b z):NW w b:=fun n e=>by
 obtain⟨_,_,_,y,h4,_⟩:=h
 rw[h4]at e;cases e
def rInt(w:World)(z:Int)(e:Ending)(w':World):Prop:=(∃y,e= .returned (.agg #[.bool y.s,.slice y.a y.n y.cap])∧IZ w' y z)∧Below w.heap.size w w'
set_option maxRecDepth 10000 in
set_option maxHeartbeats 8000000 in
theorem uH(M:Mx.Mat)(n:Nat)(v:Value)(K:IV)(kz:Int)(hm:M.length≤1000000)(hn:n≤1000000)(fk:Fit kz)(hf:∀i j,Fit (Mx.at' M i j))(w:World)(h:MR w v n M)(hk:IZ w K kz):
  Calls Tryz.prog 118 #[v,.agg #[.bool K.s,.slice K.a K.n K.cap]] w (rInt w (gM M kz)):=by
 obtain⟨a,cap,rfl,_,hr,h4⟩:=h.row
 have HRC:Hid (Mx.Rc n M):=hr
 have H4:=Lib.hid h4
 have HF:Hid _:=hf
 have HMF:=Lib.hid (Gj hf)
 have FK:=Lib.hid fk
 have HK:=Lib.hid hk
 obtain⟨ks,ka,kn,kc⟩:=K
 clear hr h4 h hf fk hk
 generalize hml:M.length=q at*
 have HQ:=Lib.hid hml
 clear hml
 go_enter Tryz.func118,Tryz.ntmps118
 go_wp2_with fail
 have hB0:Below w.heap.size w ((w.alloc (.cells #[.bool ks,.slice ka kn kc] 62)).alloc (.cells #[.bool false,.slice none 0 0] 62)):=by exact bel
 have hs0:((w.alloc (.cells #[.bool ks,.slice ka kn kc] 62)).alloc (.cells #[.bool false,.slice none 0 0] 62)).heap.size=w.heap.size+2:=by simp
 have b0:((w.alloc (.cells #[.bool ks,.slice ka kn kc] 62)).alloc (.cells #[.bool false,.slice none 0 0] 62)).cell? ⟨w.heap.size,0,none⟩=some (.bool ks):=by go_simp
 have b1:((w.alloc (.cells #[.bool ks,.slice ka kn kc] 62)).alloc (.cells #[.bool false,.slice none 0 0] 62)).cell? ⟨w.heap.size,1,none⟩=some (.slice ka kn kc):=by go_simp
 have r0:((w.alloc (.cells #[.bool ks,.slice ka kn kc] 62)).alloc (.cells #[.bool false,.slice none 0 0] 62)).cell? ⟨w.heap.size+1,0,none⟩=some (.bool false):=by go_simp
 have r1:((w.alloc (.cells #[.bool ks,.slice ka kn kc] 62)).alloc (.cells #[.bool false,.slice none 0 0] 62)).cell? ⟨w.heap.size+1,1,none⟩=some (.slice none 0 0):=by go_simp
 have z0:∀k,((w.alloc (.cells #[.bool ks,.slice ka kn kc] 62)).alloc (.cells #[.bool false,.slice none 0 0] 62)).frozen? ⟨w.heap.size,k,none⟩=false:=fun k=>by go_simp
 have z1:∀k,((w.alloc (.cells #[.bool ks,.slice ka kn kc] 62)).alloc (.cells #[.bool false,.slice none 0 0] 62)).frozen? ⟨w.heap.size+1,k,none⟩=false:=fun k=>by go_simp
 have hBX:iw ((w.alloc (.cells #[.bool ks,.slice ka kn kc] 62)).alloc (.cells #[.bool false,.slice none 0 0] 62)) ((w.alloc (.cells #[.bool ks,.slice ka kn kc] 62)).alloc (.cells #[.bool false,.slice none 0 0] 62)) w.heap.size kz:=
  ⟨Chg.refl _ _,z0,by omega,⟨ks,ka,kn,kc⟩,b0,b1,HK.out.below hB0 (Nat.le_refl _)⟩
 generalize(w.alloc (.cells #[.bool ks,.slice ka kn kc] 62)).alloc (.cells #[.bool false,.slice none 0 0] 62)=W0 at*
 have HBX:=Lib.hid hBX
 have HB0:=Lib.hid hB0
 have HNW:Hid (NW W0 w.heap.size):=hBX.nw
 clear hBX b0 b1 z0 hB0
 go_loopw [11] (fun i wr=>∃k:Nat,k≤q∧i= .int .i64 ((k:Int))∧Hid (iw W0 wr w.heap.size (gM (M.take k) kz))) (fun i _=>q-(intOf i).toNat)
 case atStart=>exact⟨0,by omega,rfl,HBX.out⟩
 case round=>
  obtain⟨k,hk,rfl,HR⟩:=hrel
  have hsw:W0.heap.size≤wr.heap.size:=HR.out.1.size
  by_cases hkn:k<q
  ·have hkn2:(k:Int)<(q:Int):=by omega
   rcases H4.out with h0|⟨gm,om,ha,hal,hcc⟩
   ·have:=HQ.out;rw[h0]at this;simp at this;omega
   obtain⟨b,c,cz,hza⟩:=hcc k hkn
   have cz2:=(HR.out.1.cell (b:=gm) (o:=om+k) (by omega) (by omega)).trans ((HB0.out.cell (p:=⟨gm,om+k,none⟩) hal).trans cz)
   subst ha
   obtain⟨b',c',e',hc',hlen',⟨g,o,rfl⟩,hra⟩:=hza
   cases e'
   have HRA:=Lib.hid hra
   have HP:=Lib.hid (wV (M:=M) (k:=k) (dc lZ) kz)
   have HRF:Hid (∀x∈Mx.rw M k,Fit x):=HMF.out _ (List.mem_of_getElem? (dc lZ))
   have FG:Hid (Fit (gM (M.take k) kz)):=A8 (fun r hr=>HMF.out r (List.mem_of_mem_take hr)) FK.out
   have HR0:=Lib.hid HR.out
   have hgmr:gm<wr.heap.size:=by omega
   generalize gM (M.take k) kz=zk at*
   clear hcc hra cz HR
   go_wp2_with fail
   go_loopw [17] (fun i2 wx=>∃j:Nat,j≤n∧i2= .int .i64 ((j:Int))∧Hid (iw W0 wx w.heap.size (gR ((Mx.rw M k).take j) zk))) (fun i2 _=>n-(intOf i2).toNat)
   case atStart=>exact⟨0,by omega,rfl,HR0.out⟩
   case round=>
    obtain⟨j,hjn,rfl,HX⟩:=hrel
    have hsx:W0.heap.size≤wr.heap.size:=HX.out.1.size
    by_cases hjk:j<n
    ·have hjk2:(j:Int)<(n:Int):=by omega
     have hz:=getD_some (l:=Mx.rw M k) (k:=j) (by rw[hlen'];exact hjk)
     have HPX:=Lib.hid (wU hz zk)
     have FX:Hid (Fit (Mx.at' M k j)):=HF.out k j
     have FG2:Hid (Fit (gR ((Mx.rw M k).take j) zk)):=A7 (fun x hx=>HRF.out x (List.mem_of_mem_take hx)) FG.out
     have hra2:RA wr g o (Mx.rw M k)∧g<w.heap.size:=by
      rcases HRA.out with h0|⟨g',o',e',h5⟩
      ·omega
      ·cases e'
       have:=h5.lt
       exact⟨(h5.below HB0.out (Nat.le_refl _)).chg HX.out.1 HNW.out (by omega),this⟩
     obtain⟨x,x0,x1,xz⟩:=hra2.1.c j _ hz
     have hgl:g<wr.heap.size:=hra2.1.lt
     have HXZ:Hid (IZ wr x (Mx.at' M k j)):=xz
     obtain⟨_,fz,hbl,y,y0,y1,yz⟩:=HX.out
     have HYZ:=Lib.hid yz
     have f0:=fz 0
     have f1:=fz 1
     obtain⟨xs,xa,xn,xc⟩:=x
     obtain⟨ys,ya,yn,yc⟩:=y
     simp only[]at x0 x1 y0 y1
     clear hz hra2 xz yz fz
     go_wp2_with (go_at_call 165;(with_reducible refine(wT ⟨ys,ya,yn,yc⟩ ⟨xs,xa,xn,xc⟩ _ (Mx.at' M k j) FG2.out FX.out _ ((HYZ.out.below (B:=wr.heap.size) ah (Nat.le_refl _)).ip) ((HXZ.out.below (B:=wr.heap.size) ah (Nat.le_refl _)).ip)).mono ?_);rintro e w5 ⟨⟨u,rfl,hu⟩,hb5⟩;have HU:=Lib.hid hu;clear hu;obtain⟨g5,rfl⟩:=mob hb5;clear hb5)
     go_roundw
     case rel=>
      have h1:=(HX.out.below (w':=more (wr.alloc (.cells #[.bool xs,.slice xa xn xc] 62)) g5) ah).set HU.out
      have e5:((more (wr.alloc (.cells #[.bool xs,.slice xa xn xc] 62)) g5).setCell ⟨w.heap.size,0,none⟩ (.bool u.s)).setCell ⟨w.heap.size,1,none⟩ (.slice u.a u.n u.cap)=more (((wr.setCell ⟨w.heap.size,0,none⟩ (.bool u.s)).setCell ⟨w.heap.size,1,none⟩ (.slice u.a u.n u.cap)).alloc (.cells #[.bool xs,.slice xa xn xc] 62)) g5:=by go_simp
      have h2:((Int.gcd (gR ((Mx.rw M k).take j) zk) (Mx.at' M k j):Nat):Int)=gR ((Mx.rw M k).take (j+1)) zk:=HPX.out.symm
      rw[e5,h2]at h1
      exact⟨j+1,by omega,by go_num,h1⟩
     case measure=>simp[intOf];omega
    ·obtain rfl:j=n:=by omega
     have hjk2:¬(j:Int)<(j:Int):=by omega
     go_wp2_with fail
     go_roundw
     case rel=>
      have h1:=HX.out
      rw[List.take_of_length_le (by omega),←HP.out]at h1
      exact⟨k+1,by omega,by go_num,h1⟩
     case measure=>simp[intOf];omega
  ·obtain rfl:k=q:=by omega
   have hkn2:¬(k:Int)<(k:Int):=by omega
   have h1:=HR.out
   rw[List.take_of_length_le tL]at h1
   obtain⟨hch,_,hbl,y,y0,y1,yz⟩:=h1
   have HYZ:=Lib.hid yz
   have HCH:=Lib.hid hch
   have q0:=(hch.cell (b:=w.heap.size+1) (o:=0) (by omega) (by omega)).trans r0
   have q1:=(hch.cell (b:=w.heap.size+1) (o:=1) (by omega) (by omega)).trans r1
   have q2:=(hch.frozen (b:=w.heap.size+1) (o:=0) (by omega) (by omega)).trans (z1 0)
   have q3:=(hch.frozen (b:=w.heap.size+1) (o:=1) (by omega) (by omega)).trans (z1 1)
   have q4:w.heap.size+1<wr.heap.size:=by omega
   obtain⟨ys,ya,yn,yc⟩:=y
   simp only[]at y0 y1
   clear yz hch HR r0 r1 z1
   go_wp2_with fail
   refine bodyPost_ret (v:=.agg #[.bool ((⟨ys,ya,yn,yc⟩:IV)).s,.slice ((⟨ys,ya,yn,yc⟩:IV)).a ((⟨ys,ya,yn,yc⟩:IV)).n ((⟨ys,ya,yn,yc⟩:IV)).cap]) (by simp[results,Tryz.results118,go_sem,q0,q1]) rfl ⟨⟨⟨ys,ya,yn,yc⟩,rfl,?_⟩,?_⟩
   ·refine(HYZ.out.off (Off.set wr (w.heap.size+1) 0 _) q0).off (Off.set _ (w.heap.size+1) 1 _) (c:=ys) ?_
    exact ct _ _ _ _ _ q0
   ·have hb:=HCH.out.below HB0.out (Nat.le_refl _) (by omega)
    exact bel
end
section
open Go.RowKit Go.BigFrame
attribute [local go_sem ↓] Go.wp_at_zero Go.wp_at_succ
theorem NW.below{B:Nat}{w w':World}{g:Nat}(h:NW w g)(hb:Below B w w')(hB:w.heap.size≤B)(hg:g<w.heap.size):NW w' g:=
 h.lI (hb.cell (p:=⟨g,0,none⟩) (Nat.lt_of_lt_of_le hg hB))
end
section
open Go.RowKit Go.BigFrame
attribute [local go_sem ↓] Go.wp_at_zero Go.wp_at_succ
def inb(L:Int)(z:Int):Bool:=decide (-L≤z)&&decide (z≤L)
set_option maxRecDepth 10000 in
theorem pV(z L:Int)(hL:0≤L)(hL2:L≤1000000000000000000)(w:World):
  Calls Tryz.prog 91 #[.int .i64 z,.int .i64 L] w fun e w'=>e= .returned (.bool (inb L z))∧Below w.heap.size w w':=by
 by_cases h1: -L≤z
 ·have d1:decide (-L≤z)=true:=by rw[decide_eq_true_iff];exact h1
  have E:Hid (inb L z=decide (z≤L)):=by show inb L z=_;unfold inb;rw[d1];rfl
  go_enter Tryz.func91,Tryz.ntmps91
  go_wp2_with fail
  go_ret
  exact⟨by rw[E.out];rfl,by exact bel⟩
 ·have d1:decide (-L≤z)=false:=by rw[decide_eq_false_iff_not];exact h1
  have E:Hid (inb L z=false):=by show inb L z=_;unfold inb;rw[d1];rfl
  go_enter Tryz.func91,Tryz.ntmps91
  go_wp2_with fail
  go_ret
  exact⟨by rw[E.out];rfl,by exact bel⟩
def wid(m:List (List Int)):Nat:=(m.headD []).length
def tC{α:Type}(p:α→Bool)(l:List α)(r:Int):Prop:=(r= -1∧∀x∈l,p x=false)∨∃(k:Nat) (x:α),r=k∧l[k]?=some x∧p x=true∧∀j y,j<k→l[j]?=some y→p y=false
theorem tC.any{α:Type}{p:α→Bool}{l:List α}{r:Int}(h:tC p l r):decide (0≤r)=l.any p:=by
 rcases h with⟨rfl,h⟩|⟨k,x,rfl,h1,h2,_⟩
 ·symm
  rw[show decide ((0:Int)≤-1)=false from rfl,List.any_eq_false]
  exact fun x hx=>by rw[h x hx];simp
 ·rw[show l.any p=true from List.any_eq_true.2 ⟨x,List.mem_of_getElem? h1,h2⟩]
  simp
def IU(w:World){α:Type}(p:α→Bool)(l:List α)(e:Ending)(w':World):Prop:=(∃r:Int,e= .returned (.int .i64 r)∧I64 r∧tC p l r)∧Below w.heap.size w w'
set_option maxRecDepth 10000 in
set_option maxHeartbeats 2000000 in
theorem CJ(l:List Int)(b:Option Addr)(c:Nat)(hl:l.length≤1000000000)(g:Nat)(p:Int→Bool)(eg:∀args w,(callFunc g args).run Tryz.prog w= .ok (.enter g args) w)(hp:∀x w,Calls Tryz.prog g #[.int .i64 x] w fun e w'=>e= .returned (.bool (p x))∧Below w.heap.size w w')(w:World)(h:ZAt w b l):
  Calls Tryz.prog 157 #[.slice b l.length c,.func (.func g) #[] #[]] w (IU w p l):=by
 have H:=Lib.hid h
 have HP:Hid _:=hp
 clear h hp
 generalize hn:l.length=n at*
 have HN:=Lib.hid hn
 clear hn
 go_enter Tryz.func157,Tryz.ntmps157
 go_wp2_with fail
 go_loopw [8] (fun i wr=>∃k:Nat,k≤n∧i= .int .i64 ((k:Int))∧Below w.heap.size w wr∧Hid (∀j y,j<k→l[j]?=some y→p y=false)) (fun i _=>n-(intOf i).toNat)
 case atStart=>exact⟨0,by omega,rfl,by exact bel,fun j y hj=>by omega⟩
 case round=>
  obtain⟨k,hk,rfl,hB,HJ⟩:=hrel
  by_cases hkn:k<n
  ·have hkn2:(k:Int)<(n:Int):=by omega
   obtain⟨z,hz⟩:∃z,l[k]?=some z:=⟨l[k]'(by rw[HN.out];omega),List.getElem?_eq_getElem _⟩
   rcases H.out.below hB (Nat.le_refl _)with h0|⟨a0,ha,hal,hcc⟩
   ·rw[h0]at hz;simp at hz
   have cz:=hcc k z hz
   subst ha
   have HPz:=Lib.hid (HP.out z)
   have hsw:w.heap.size≤wr.heap.size:=hB.size
   have HZ:=Lib.hid hz
   clear hcc hz
   generalize hpz:p z=pz at HPz
   have HQ:=Lib.hid hpz
   clear hpz
   cases pz
   ·go_wp2_with (go_at_fn g;(with_reducible refine(HPz.out _).mono ?_);rintro e w4 ⟨rfl,hb4⟩;have HB4:=Lib.hid hb4;obtain⟨g4,rfl⟩:=mob hb4;clear hb4)
    go_roundw
    case rel=>
     refine⟨k+1,by omega,by go_num,by exact bel,fun j y hj hy=>?_⟩
     by_cases e:j=k
     ·subst e
      rw[HZ.out]at hy
      cases hy
      exact HQ.out
     ·exact HJ.out j y (by omega) hy
    case measure=>simp[intOf];omega
   ·go_wp2_with (go_at_fn g;(with_reducible refine(HPz.out _).mono ?_);rintro e w4 ⟨rfl,hb4⟩;have HB4:=Lib.hid hb4;obtain⟨g4,rfl⟩:=mob hb4;clear hb4)
    go_ret
    exact⟨⟨(k:Int),rfl,⟨by omega,by omega⟩,.inr ⟨k,z,rfl,HZ.out,HQ.out,HJ.out⟩⟩,by exact bel⟩
  ·obtain rfl:k=n:=by omega
   have hkn2:¬(k:Int)<(k:Int):=by omega
   go_wp2_with fail
   go_ret
   refine⟨⟨-1,rfl,⟨by omega,by omega⟩,.inl ⟨rfl,fun x hx=>?_⟩⟩,hB⟩
   obtain⟨j,hj,e⟩:=List.getElem_of_mem hx
   exact HJ.out j x (by rw[←HN.out];exact hj) (by rw[List.getElem?_eq_getElem hj,e])
set_option maxRecDepth 10000 in
theorem vD(l:List Int)(b:Option Addr)(c:Nat)(hl:l.length≤1000000000)(g:Nat)(p:Int→Bool)(eg:∀args w,(callFunc g args).run Tryz.prog w= .ok (.enter g args) w)(hp:∀x w,Calls Tryz.prog g #[.int .i64 x] w fun e w'=>e= .returned (.bool (p x))∧Below w.heap.size w w')(w:World)(h:ZAt w b l):
  Calls Tryz.prog 89 #[.slice b l.length c,.func (.func g) #[] #[]] w fun e w'=>e= .returned (.bool (l.any p))∧Below w.heap.size w w':=by
 have IX:=Lib.hid (fun w h=>CJ l b c hl g p eg hp w h)
 have H:=Lib.hid h
 have HA:=Lib.hid (fun r (h:tC p l r)=>h.any)
 clear h hp eg
 generalize l.length=n at*
 go_enter Tryz.func89,Tryz.ntmps89
 go_wp2_with (go_at_call 157;(with_reducible refine(IX.out _ ?_).mono ?_);(focus(exact H.out.below (B:=w.heap.size) ah (Nat.le_refl _)));rintro e w4 ⟨⟨r,rfl,hi,hr⟩,hb4⟩;have HR:=Lib.hid hr;clear hr;obtain⟨g4,rfl⟩:=mob hb4;clear hb4)
 all_goals go_ret
 all_goals exact⟨by rw[←HA.out r HR.out];first|rfl|(congr 2;simp;omega)|simp,by exact bel⟩
end
section
open Go.RowKit Go.BigFrame
attribute [local go_sem ↓] Go.wp_at_zero Go.wp_at_succ
def big(z:Int):Bool:=!(inb 1000000000000000 z)
end
section
open Go.RowKit
namespace DW
theorem bc{α:Type}{m:List α}{k:Nat}{x:α}(h:m[k]?=some x):m.take (k+1)=m.take k++[x]:=by rw[List.take_add_one,h];rfl
theorem get_some{α:Type}{m:List α}{k:Nat}(h:k<m.length):∃x,m[k]?=some x:=⟨_,List.getElem?_eq_getElem h⟩
set_option maxRecDepth 20000
set_option maxHeartbeats 1000000
theorem jQ(z a b:Int):Fn Tryz.prog 26 [zI z,zI a,zI b] (.sc (.bool (decide (a≤z)&&decide (z≤b)))):=by
 refine aF Tryz.func26 af rfl rfl rfl fun X0=>?_
 simp only[aA]
 by_cases h:z≥a
 ·rw[show(decide (a≤z)&&decide (z≤b))=decide (z≤b) by rw[decide_eq_true h,Bool.true_and]]
  have hd:decide (z≥a)=true:=decide_eq_true h
  (repeat(first|refine gk fun K hK=>?_|refine zs2 ?_));refine cj ?_;(repeat(first|refine gk fun K hK=>?_|refine zs2 ?_));refine DK ?_;(repeat(first|refine gk fun K hK=>?_|refine zs2 ?_))
  exact⟨_,Sh.refl,.one (.tmp 6) _ rfl (.tmp 6 rfl)⟩
 ·rw[show(decide (a≤z)&&decide (z≤b))=false by rw[decide_eq_false h,Bool.false_and]]
  have hd:decide (z≥a)=false:=decide_eq_false h
  (repeat(first|refine gk fun K hK=>?_|refine zs2 ?_));refine cj ?_;(repeat(first|refine gk fun K hK=>?_|refine zs2 ?_));refine DK ?_;(repeat(first|refine gk fun K hK=>?_|refine zs2 ?_))
  exact⟨_,Sh.refl,.one (.tmp 6) _ rfl (.tmp 6 rfl)⟩
theorem uY(z:Int):Fn Tryz.prog 76 [zI z] (.sc (.bool (inb 1000000000000000 z))):=by
 have W:=jQ z (-1000000000000000) 1000000000000000
 refine aF Tryz.func76 af rfl rfl rfl fun X0=>?_
 simp only[aA]
 (repeat(first|refine gk fun K hK=>?_|refine zs2 ?_));refine cj ?_;(repeat(first|refine gk fun K hK=>?_|refine zs2 ?_));(refine gar ?_;refine zs4 ?_;refine tD ?_;refine zs6 ?_;refine ae ?_);(repeat(first|refine gk fun K hK=>?_|refine zs2 ?_))
 exact⟨_,Sh.refl,.one (.tmp 2) _ rfl (.tmp 2 rfl)⟩
theorem zT(z:Int)(hz:Hf z):Fn Tryz.prog 110 [.nm z] (.nm (z.natAbs:Int)):=by
 have S:=jf z hz
 have N:=uz z hz
 have G:=EO z hz
 have s1:=oe z
 obtain⟨g,hg⟩:∃g,g=sgn z:=⟨_,rfl⟩
 rw[←hg]at s1 S
 refine aF Tryz.func110 af rfl rfl rfl fun X0=>?_
 simp only[aA]
 by_cases h:z<0
 ·have h1:=s1.2 h
  rw[show(z.natAbs:Int)= -z by omega]
  (repeat(first|refine gk fun K hK=>?_|refine zs2 ?_));refine td ?_;(repeat(first|refine gk fun K hK=>?_|refine zs2 ?_));(refine gar ?_;refine aJ ?_;refine bL ?_;refine zs7 ?_;refine ae ?_);(repeat(first|refine gk fun K hK=>?_|refine zs2 ?_))
  refine av ?_
  (repeat(first|refine gk fun K hK=>?_|refine zs2 ?_));(refine gar ?_;refine aJ ?_;refine bL ?_;refine eJ ?_;refine ae ?_);(repeat(first|refine gk fun K hK=>?_|refine zs2 ?_))
  exact⟨_,aE (k:=2) aU bs br,.one (.cell 2 62) _ rfl (.cell 2 _ _ rfl rfl af af)⟩
 ·have h1:¬g<0:=fun e=>h (s1.1 e)
  rw[show(z.natAbs:Int)=z by omega]
  (repeat(first|refine gk fun K hK=>?_|refine zs2 ?_));refine td ?_;(repeat(first|refine gk fun K hK=>?_|refine zs2 ?_));(refine gar ?_;refine aJ ?_;refine bL ?_;refine zs7 ?_;refine ae ?_);(repeat(first|refine gk fun K hK=>?_|refine zs2 ?_))
  refine ay ?_
  (repeat(first|refine gk fun K hK=>?_|refine zs2 ?_));(refine gar ?_;refine aJ ?_;refine bL ?_;refine eJ ?_;refine ae ?_);(repeat(first|refine gk fun K hK=>?_|refine zs2 ?_))
  exact⟨_,aE (k:=2) aU bs br,.one (.cell 2 62) _ rfl (.cell 2 _ _ rfl rfl af af)⟩
theorem vA{q:Int}{a b:List Int}{k:Nat}{x y:Int}(ha:a[k]?=some x)(hb:b[k]?=some y):(Mx.cg q a b)[k]?=some (x+q*y):=by
 unfold Mx.cg
 rw[List.getElem?_zipWith,ha,hb]
theorem tX(row frm:List Int)(q:Int)(hl:row.length=frm.length)(hr:row.length≤1000000)(h1:∀x∈row,Hf x)(h2:∀y∈frm,Hf y∧Hf (q*y))(hq:Hf q):Fn Tryz.prog 149 [dZ row,dZ frm,.nm q] (dZ (Mx.cg (-q) row frm)):=by
 refine aF Tryz.func149 af rfl rfl rfl fun X0=>?_
 simp only[aA]
 (repeat(first|refine gk fun K hK=>?_|refine zs2 ?_));(refine gar ?_;refine cK ?_;refine zs3 ?_;refine ae ?_);(repeat(first|refine gk fun K hK=>?_|refine zs2 ?_));refine bK ?_;(repeat(first|refine gk fun K hK=>?_|refine zs2 ?_));refine aQ ?_;(repeat(first|refine gk fun K hK=>?_|refine zs2 ?_))
 refine aq (b7 (t:=7) (k:=7) (T:=62) (wd:=2) b9 rfl rfl bB) ?_
 (refine aq (ai (sl':=[(0,dZ row),(1,dZ frm),(5,.pt (.nm q)),(7,.own 7),(8,zI 0)]) (ow':=[(7,⟨62,2,[]⟩)]) au aw) ?_)
 refine aH (fun r s=>∃k,k≤row.length∧r=row.length-k∧s=⟨[(0,dZ row),(1,dZ frm),(5,.pt (.nm q)),(7,.own 7),(8,zI (k:Nat))],[(7,⟨62,2,((Mx.cg (-q) row frm).take k).map .nm⟩)]⟩) (m:=row.length) ⟨0,Nat.zero_le _,rfl,rfl⟩ fun r s hs=>?_
 obtain⟨k,hk,rfl,rfl⟩:=hs
 by_cases hkl:k<row.length
 ·obtain⟨x,hx⟩:=get_some hkl
  obtain⟨y,hy⟩:=get_some (m:=frm) (k:=k) (by omega)
  have hxy:=vA (q:=-q) hx hy
  rw[Int.neg_mul,←Int.sub_eq_add_neg]at hxy
  have hfx:=h1 x (List.mem_of_getElem? hx)
  have hfy:=h2 y (List.mem_of_getElem? hy)
  have M:=tw q y hq hfy.1
  have S:=EG x (q*y) hfx hfy.2
  (repeat(first|refine gk fun K hK=>?_|refine zs2 ?_));refine bh ?_;(repeat(first|refine gk fun K hK=>?_|refine zs2 ?_))
  refine av ?_
  (repeat(first|refine gk fun K hK=>?_|refine zs2 ?_));(refine zs91 ?_;refine a8 ?_;refine a8 ?_;refine a8 ?_;refine dQ ?_;refine bq ?_;refine bq ?_;refine a8 ?_;refine a8 ?_;refine dQ ?_;refine bq ?_;refine gG ?_;refine gG ?_;refine zs92 ?_;((try refine aD ?_);(refine kj rfl rfl rfl rfl bf bf aU aa o3 af af zb53 bB oY ?_));refine jL ?_;refine cV ?_);(repeat(first|refine gk fun K hK=>?_|refine zs2 ?_));refine ba ?_;(repeat(first|refine gk fun K hK=>?_|refine zs2 ?_))
  simp only[nx,inB]
  exact⟨row.length-(k+1),_,by omega,(ai (sl':=[(0,dZ row),(1,dZ frm),(5,.pt (.nm q)),(7,.own 7),(8,zI ((k+1:Nat):Int))]) (ow':=[(7,⟨62,2,((Mx.cg (-q) row frm).take k).map .nm++[.nm (x-q*y)]⟩)]) au aw),k+1,by omega,rfl,by rw[bc hxy,List.map_append];rfl⟩
 ·obtain rfl:k=row.length:=by omega
  have hal:=Mx.gw (-q) row frm hl
  rw[List.take_of_length_le (by omega)]
  (repeat(first|refine gk fun K hK=>?_|refine zs2 ?_));refine bh ?_;(repeat(first|refine gk fun K hK=>?_|refine zs2 ?_))
  refine ay ?_
  (repeat(first|refine gk fun K hK=>?_|refine zs2 ?_))
  refine aq (aE (k:=7) aU bs br) ?_
  refine dT ?_
  (repeat(first|refine gk fun K hK=>?_|refine zs2 ?_))
  exact⟨_,Sh.refl,.one (.tmp 6) _ rfl (.tmp 6 rfl)⟩
end DW
end
end Go.Proofs.YtcgjmdpcplhanaaGreat
