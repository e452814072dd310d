/- Lemmas for the law: E62 V25 V27 V28 V29 E42 E63 E40 -/
import Derived.BigQuiet
import Derived.Deep.CutRange
import Derived.Deep.LoopGhost
import Derived.Test.YtcgjmdpcplhanaaGreatZd18
namespace Go.Proofs.YtcgjmdpcplhanaaGreat
section
theorem zb9{p:Prop}(h:p:=by(first|(apply NA;(exact rfl);(focus((apply aE;(conv=>lhs;whnf);(first|done|exact rfl))));(focus((apply aE;(conv=>lhs;whnf);(first|done|exact rfl))));(kernel_rfl);(kernel_rfl))|(apply TZ;(exact rfl);(focus((apply aE;(conv=>lhs;whnf);(first|done|exact rfl))));(focus((apply aE;(conv=>lhs;whnf);(first|done|exact rfl))));(exact rfl);(exact rfl);(focus((first|exact iM|exact iK|exact iL|exact wd_pt|exact rfl)));(focus((first|exact iM|exact iK|exact iL|exact wd_pt|exact rfl)));(kernel_rfl);(kernel_rfl);(exact rfl);(exact rfl)))):p:=h
theorem CR{p q:Prop}(h:q)(f:Wq q->p:=by(intro hW;(refine cO ?_;refine sa ?_;refine JJ ?_;refine tF ?_;refine aX ?_);exact hW.out)):p:=f ⟨h⟩
theorem zb22{p:Prop}(h:p:=by(apply Gl;(exact rfl);(focus((apply aE;(conv=>lhs;whnf);(first|done|exact rfl))));(focus((apply aE;(conv=>lhs;whnf);(first|done|exact rfl))));(kernel_rfl);(kernel_rfl);(focus(first|exact mT _|exact rfl));(focus(first|omega|(simp;omega))))):p:=h
theorem zb76{p:Prop}(h:p:=by simp[results,Tryz.results96,go_sem,t0,t1]):p:=h
theorem zs155{p q:Prop}(h:q)(f:Wq q->p:=by(intro hW;((refine ez (k:=10) (z:=(.agg #[.bool false,.slice none 0 0])) (d:=(.nm 0)) rfl rfl rfl rfl rfl ai aj aj dT aj aj cu ?_));exact hW.out)):p:=f ⟨h⟩
theorem Qr{p q:Prop}(h:q)(f:Wq q->p:=by(intro hW;(refine cn ?_;refine iq ?_;refine zs155 ?_;refine gw ?_);exact hW.out)):p:=f ⟨h⟩
theorem Qs{p q:Prop}(h:q)(f:Wq q->p:=by(intro hW;(refine cn ?_;refine kU ?_;refine zs6 ?_;refine cK ?_);exact hW.out)):p:=f ⟨h⟩
theorem zs156{p q:Prop}(h:q)(f:Wq q->p:=by(intro hW;((refine xN (i:=k) rfl rfl rfl cD cD bf aj sf aj dT aj ai qf ?_));exact hW.out)):p:=f ⟨h⟩
theorem Qq{p q:Prop}(h:q)(f:Wq q->p:=by(intro hW;(refine tM ?_;refine yR ?_;refine iH ?_;refine qU ?_;refine zs156 ?_;refine mL ?_);exact hW.out)):p:=f ⟨h⟩
end
section
open Go.RowKit
namespace DW
theorem H9(M:Mx.Mat)(r c i j:Nat):Mx.at' (mnr M r c) i j=Mx.at' M (Mx.skip r i) (Mx.skip c j):=by
 unfold Mx.at' Mx.rw mnr Mx.skip;simp only[aG,bW,vk];by_cases h:i<r
 ·simp only[ak h]
  cases M[i]? with
  |none=>simp
  |some q=>
   simp only[cw,ly,vk];split<;>rfl
 ·simp only[ah h]
  cases M[i+1]? with
  |none=>simp
  |some q=>
   simp only[cw,ly,vk];split<;>rfl
theorem H5{M:Mx.Mat}{n r c:Nat}(hl:M.length=n+1)(hM:Mx.Rc (n+1) M)(hr:r<n+1)(hc:c<n+1):(mnr M r c).length=n/\Mx.Rc n (mnr M r c):=by
 unfold mnr;refine⟨by rw[bC,zd aa];omega,fun q hq=>?_⟩;obtain⟨x,hx,rfl⟩:=dw.1 hq;have:=hM x (List.mem_of_mem_eraseIdx hx);rw[zd aa];omega
theorem tj{M:Mx.Mat}{B r c:Nat}(h:Mx.Bd B M):Mx.Bd B (mnr M r c):=fun i j=>by rw[H9];exact h _ _
theorem GB{M:Mx.Mat}{n:Nat}(hl:M.length=n+1)(i k:Nat):Mx.ad (M.length-1) (Mx.at' M) i k=if(i+k)%2=1 then-(Mx.D n (Mx.at' (mnr M k i)))else Mx.D n (Mx.at' (mnr M k i)):=by
 rw[hl,pE];unfold Mx.ad Mx.cof;rw[show Mx.D n (Mx.at' (mnr M k i))=Mx.D n (fun a b=>Mx.at' M (Mx.skip k a) (Mx.skip i b))from Mx.ck n _ _ fun a b _ _=>H9 M k i a b];unfold Mx.sg;by_cases h:(i+k)%2=1
 ·rw[ak h,ah aa];omega
 ·rw[ah h,ak aa];omega
def adR(M:Mx.Mat)(i:Nat):List Int:=(List.range M.length).map fun k=>Mx.ad (M.length-1) (Mx.at' M) i k
theorem xM(M:Mx.Mat)(i:Nat):(adR M i).length=M.length:=by simp[adR]
theorem IJ(M:Mx.Mat)(i:Nat){k:Nat}(h:k<M.length):(adR M i)[k]?=some (Mx.ad (M.length-1) (Mx.at' M) i k):=by
 unfold adR;rw[bW,ji h];rfl
theorem II(M:Mx.Mat){i:Nat}(h:i<M.length):(Mx.adM M)[i]?=some (adR M i):=Mx.IK M h
set_option maxRecDepth 20000
set_option maxHeartbeats 2000000
theorem UW(M:Mx.Mat)(n e:Nat)(hl:M.length=n+1)(hR:Mx.Rc (n+1) M)(hb:Mx.Bd (2^e) M)(hn:n<=900)(he:(e+n)*n+e<=3000000000):Fn Tryz.prog 109 [dW M] (dW (Mx.adM M)):=by
 have hMl:=xM M;refine ba Tryz.func109 ai rfl rfl rfl fun X0=>?_;simp only[aO];refine kd ?_;refine eQ ?_;refine ay (da (t:=3) (k:=30) (T:=113) (wd:=1) fq rfl rfl cu) ?_
 (refine ay (aq (sl':=[(0,dW M),(3,.own 30),(4,zI 0)]) (ow':=[(30,⟨113,1,[]⟩)]) az aD) ?_)
 refine bc (fun r s=>∃i,i<=M.length/\r=M.length-i/\s=⟨[(0,dW M),(3,.own 30),(4,zI (i:Nat))],[(30,⟨113,1,((Mx.adM M).take i).map dZ⟩)]⟩) (m:=M.length) ⟨0,aQ _,rfl,rfl⟩ fun r s hs=>?_;obtain⟨i,hi,rfl,rfl⟩:=hs;by_cases him:i<M.length
 ·have hsn:=bq (II M him);have hfl:((Mx.adM M).take i).length<=1000000:=by rw[aP];omega
  obtain⟨F,hF⟩:∃F,F=(Mx.adM M).take i:=⟨_,rfl⟩;rw[<-hF]at hsn hfl;rw[<-hF];clear hF;refine dn ?_;refine eQ ?_;refine ay (da (t:=5) (k:=5) (T:=62) (wd:=2) fq rfl rfl cu) ?_
  (refine ay (aq (sl':=[(0,dW M),(3,.own 30),(4,zI (i:Nat)),(5,.own 5),(6,zI 0)]) (ow':=[(5,⟨62,2,[]⟩),(30,⟨113,1,F.map dZ⟩)]) az aD) ?_)
  refine bc (fun r s=>∃k,k<=M.length/\r=M.length-k/\s=⟨[(0,dW M),(3,.own 30),(4,zI (i:Nat)),(5,.own 5),(6,zI (k:Nat))],[(5,⟨62,2,((adR M i).take k).map .nm⟩),(30,⟨113,1,F.map dZ⟩)]⟩) (m:=M.length) ⟨0,aQ _,rfl,rfl⟩ fun r s hs=>?_;obtain⟨k,hk,rfl,rfl⟩:=hs;by_cases hkm:k<M.length
  ·have hks:=bq (IJ M i hkm);have hgl:((adR M i).take k).length<=1000000:=by rw[aP,hMl];omega
   obtain⟨G,hG⟩:∃G,G=(adR M i).take k:=⟨_,rfl⟩;rw[<-hG]at hks hgl;rw[<-hG];clear hG;have hq:=H5 (r:=k) (c:=i) hl hR aa aa;have MI:=Ia M k i aa (fun l hl2=>by have:=hR l hl2;omega);have DE:=As e n (mnr M k i) hq.1 hq.2 (tj hb) aa he;have hdb:=qP (e:=e) n (Mx.at' (mnr M k i)) fun a b _ _=>tj hb a b;have had:=GB hl i k;generalize Mx.D n (Mx.at' (mnr M k i))=x at*;generalize Mx.ad (M.length-1) (Mx.at' M) i k=y at*;have NG:=Di x (bZ hdb aa);clear hdb hq;refine dn ?_;refine lL ?_;refine JN ?_;refine iq ?_;refine Rj ?_;refine gw ?_;refine zs2 ?_
   (refine ay (aq (sl':=[(0,dW M),(3,.own 30),(4,zI (i:Nat)),(5,.own 5),(6,zI (k:Nat)),(7,.opt 7 0)]) (ow':=[(7,⟨62,2,[.nm x]⟩),(5,⟨62,2,G.map .nm⟩),(30,⟨113,1,F.map dZ⟩)]) az aD) ?_)
   by_cases hp:(i+k)%2=1
   ·rw[ak hp]at had;have hpi:((i:Int)+(k:Int))%2=1:=by omega
    subst had;refine zs2 ?_;refine CR ?_;refine bw ?_;refine wJ ?_;refine zs2 ?_;refine Jo ?_;refine eU ?_;simp only[nx,inB];exact⟨M.length-(k+1),_,by omega,(aq (sl':=[(0,dW M),(3,.own 30),(4,zI (i:Nat)),(5,.own 5),(6,zI ((k+1:Nat):Int))]) (ow':=[(5,⟨62,2,G.map .nm++[.nm (-x)]⟩),(30,⟨113,1,F.map dZ⟩)]) az aD),k+1,by omega,rfl,by rw[hks,db];rfl⟩
   ·rw[ah hp]at had;have hpi:¬((i:Int)+(k:Int))%2=1:=by omega
    subst had;refine zs2 ?_;refine CR ?_;refine bp ?_;refine Jo ?_;refine eU ?_;simp only[nx,inB];exact⟨M.length-(k+1),_,by omega,(aq (sl':=[(0,dW M),(3,.own 30),(4,zI (i:Nat)),(5,.own 5),(6,zI ((k+1:Nat):Int))]) (ow':=[(5,⟨62,2,G.map .nm++[.nm y]⟩),(30,⟨113,1,F.map dZ⟩)]) az aD),k+1,by omega,rfl,by rw[hks,db];rfl⟩
  ·obtain rfl:k=M.length:=by omega
   rw[cj (by rw[hMl];omega)];refine eR ?_;refine ay (aA (k:=5) bf bA bz) ?_;refine wB ?_;simp only[nx,inB];exact⟨M.length-(i+1),_,by omega,(aq (sl':=[(0,dW M),(3,.own 30),(4,zI ((i+1:Nat):Int))]) (ow':=[(30,⟨113,1,F.map dZ++[dZ (adR M i)]⟩)]) az aD),i+1,by omega,rfl,by rw[hsn,db];rfl⟩
 ·obtain rfl:i=M.length:=by omega
  rw[cj (by rw[Mx.mE];omega)];refine eR ?_;refine ay (aA (k:=30) bf bA bz) ?_;refine kb ?_;exact⟨_,Sh.refl,.one (.tmp 2) _ rfl (.tmp 2 rfl)⟩
end DW
end
section
open Go.RowKit Go.BigFrame
attribute [local go_sem ↓] Go.wp_at_zero Go.wp_at_succ
def kj(dim:Int)(m:List (List Int))(den:Int)(f:List (List Int)):Int:=if lck dim m den≠0 then lck dim m den else if chk f≠0 then chk f else if(f.length:Int)=dim/\(wid f:Int)=dim then 0 else 9
set_option maxRecDepth 10000 in
set_option maxHeartbeats 4000000 in
theorem KO(dim den:Int)(m f:List (List Int))(v vf:Value)(hd:I64 dim)(hd2:I64 den)(hm:m.length<=1000000000)(hr:∀r∈m,r.length<=1000000000)(hf:f.length<=1000000000)(hfr:∀r∈f,r.length<=1000000000)(w:World)(h:ZM w v m)(h2:ZM w vf f):
  Calls Tryz.prog 93 #[.agg #[.int .i64 dim,v,.int .i64 den],vf] w fun e w'=>e= .returned (.int .i64 (kj dim m den f))/\Below w.heap.size w w':=by
 have CK:=ae (fun w h=>Ae dim den m v hd hd2 hm hr w h);have CM:=ae (fun w h=>NH f vf hf hfr w h);have WI:=ae (fun w h=>B8 f vf hf w h);have H:=ae h;have HF:=ae h2;have E1:=ae (fun h:lck dim m den≠0=>(show kj dim m den f=lck dim m den by unfold kj;rw[ak h]));have E2:=ae (fun (h:¬lck dim m den≠0) (h2:chk f≠0)=>(show kj dim m den f=chk f by unfold kj;rw[ah h,ak h2]));have E3:=ae (fun (h:¬lck dim m den≠0) (h2:¬chk f≠0) (h3:(f.length:Int)=dim/\(wid f:Int)=dim)=>(show kj dim m den f=0 by unfold kj;rw[ah h,ah h2,ak h3]));have E4:=ae (fun (h:¬lck dim m den≠0) (h2:¬chk f≠0) (h3:¬((f.length:Int)=dim/\(wid f:Int)=dim))=>(show kj dim m den f=9 by unfold kj;rw[ah h,ah h2,ah h3]));obtain⟨a,cap,rfl,_⟩:=h;obtain⟨a2,cap2,rfl,_⟩:=h2;clear hm hr hfr hd2;generalize kj dim m den f=R at*;generalize lck dim m den=c1 at*;generalize chk f=c2 at*;generalize wid f=W at*;generalize m.length=q at*;generalize f.length=p at*;unfold I64 at hd;by_cases h1:c1=0
 ·subst h1;by_cases h2:c2=0
  ·subst h2;by_cases h3:(p:Int)=dim
   ·by_cases h4:(W:Int)=dim
    ·have d3:decide ((p:Int)=dim)=true:=by rw[cL];exact h3
     have d4:decide ((W:Int)=dim)=true:=by rw[cL];exact h4
     have E:Hid (R=0):=E3.out aK aK ⟨h3,h4⟩;clear E1 E2 E3 E4
     go_enter Tryz.func93,Tryz.ntmps93
     go_upto_region 7 with(first|(go_at_call 33;((with_reducible refine(CK.out _ ?_).mono ?_);(exact H.out.below (B:=w.heap.size) ao (af _));rintro e w1 ⟨rfl,hb1⟩;obtain⟨g1,rfl⟩:=mob hb1;clear hb1))|(go_at_call 40;((with_reducible refine(CM.out _ ?_).mono ?_);(exact HF.out.below (B:=w.heap.size) ao (af _));rintro e w2 ⟨rfl,hb2⟩;obtain⟨g2,rfl⟩:=mob hb2;clear hb2)))
     have hB0:Below w.heap.size w (more (more (w.alloc (.cells #[.int .i64 dim,.slice a q cap,.int .i64 den] 48)) g1) g2):=by exact bel
     have q0:(more (more (w.alloc (.cells #[.int .i64 dim,.slice a q cap,.int .i64 den] 48)) g1) g2).cell? ⟨w.heap.size,0,none⟩=some (.int .i64 dim):=by go_simp
     have hs0:w.heap.size<(more (more (w.alloc (.cells #[.int .i64 dim,.slice a q cap,.int .i64 den] 48)) g1) g2).heap.size:=by simp;omega
     have HF0:=ae (HF.out.below hB0 (af _));have HB0:=ae hB0;clear hB0;generalize(more (more (w.alloc (.cells #[.int .i64 dim,.slice a q cap,.int .i64 den] 48)) g1) g2)=W0 at*
     (refine wp_region_quiet (C:=Ext _) ai ai (Ext.start _) ?_;simp only[];(repeat(first|go_big_quiet_skip|(go_big_quiet_want;go_big_quiet_op;first|go_big_quiet_on|(apply Exists.intro;refine⟨fun w' hw'=>?_,?_⟩;(focus(first|with_reducible exact rfl|(go_at_call 111;with_reducible exact Ext.call hw' (WI.out _ (HF0.out.below (Ext.below hw') (af _))))|(obtain⟨gx,rfl⟩:=mob (Ext.below hw');go_simp;exact rfl)));go_big_quiet_on))));refine wpQuiet_nil ?_;intro w7 hw7;have hb7:=Ext.below hw7;clear hw7;obtain⟨g7,rfl⟩:=mob hb7;clear hb7)
     have hb7:Below W0.heap.size W0 (more W0 g7):=by exact bel
     go_wp2_with fail
     go_ret
     exact⟨by rw[E.out];rfl,HB0.out.trans (hb7.mono aa)⟩
    ·have d3:decide ((p:Int)=dim)=true:=by rw[cL];exact h3
     have d4:decide ((W:Int)=dim)=false:=by rw[bN];exact h4
     have E:Hid (R=9):=E4.out aK aK (fun h=>h4 h.2);clear E1 E2 E3 E4
     go_enter Tryz.func93,Tryz.ntmps93
     go_upto_region 7 with(first|(go_at_call 33;((with_reducible refine(CK.out _ ?_).mono ?_);(exact H.out.below (B:=w.heap.size) ao (af _));rintro e w1 ⟨rfl,hb1⟩;obtain⟨g1,rfl⟩:=mob hb1;clear hb1))|(go_at_call 40;((with_reducible refine(CM.out _ ?_).mono ?_);(exact HF.out.below (B:=w.heap.size) ao (af _));rintro e w2 ⟨rfl,hb2⟩;obtain⟨g2,rfl⟩:=mob hb2;clear hb2)))
     have hB0:Below w.heap.size w (more (more (w.alloc (.cells #[.int .i64 dim,.slice a q cap,.int .i64 den] 48)) g1) g2):=by exact bel
     have q0:(more (more (w.alloc (.cells #[.int .i64 dim,.slice a q cap,.int .i64 den] 48)) g1) g2).cell? ⟨w.heap.size,0,none⟩=some (.int .i64 dim):=by go_simp
     have hs0:w.heap.size<(more (more (w.alloc (.cells #[.int .i64 dim,.slice a q cap,.int .i64 den] 48)) g1) g2).heap.size:=by simp;omega
     have HF0:=ae (HF.out.below hB0 (af _));have HB0:=ae hB0;clear hB0;generalize(more (more (w.alloc (.cells #[.int .i64 dim,.slice a q cap,.int .i64 den] 48)) g1) g2)=W0 at*
     (refine wp_region_quiet (C:=Ext _) ai ai (Ext.start _) ?_;simp only[];(repeat(first|go_big_quiet_skip|(go_big_quiet_want;go_big_quiet_op;first|go_big_quiet_on|(apply Exists.intro;refine⟨fun w' hw'=>?_,?_⟩;(focus(first|with_reducible exact rfl|(go_at_call 111;with_reducible exact Ext.call hw' (WI.out _ (HF0.out.below (Ext.below hw') (af _))))|(obtain⟨gx,rfl⟩:=mob (Ext.below hw');go_simp;exact rfl)));go_big_quiet_on))));refine wpQuiet_nil ?_;intro w7 hw7;have hb7:=Ext.below hw7;clear hw7;obtain⟨g7,rfl⟩:=mob hb7;clear hb7)
     have hb7:Below W0.heap.size W0 (more W0 g7):=by exact bel
     go_wp2_with fail
     go_ret
     exact⟨by rw[E.out];rfl,HB0.out.trans (hb7.mono aa)⟩
   ·have d5:((p:Int)==dim)=false:=by simp[h3]
    have d6:((p:Int) !=dim)=true:=by simp[h3]
    have d3:decide ((p:Int)=dim)=false:=by rw[bN];exact h3
    have E:Hid (R=9):=E4.out aK aK (fun h=>h3 h.1);clear E1 E2 E3 E4
    go_enter Tryz.func93,Tryz.ntmps93
    go_upto_region 7 with(first|(go_at_call 33;((with_reducible refine(CK.out _ ?_).mono ?_);(exact H.out.below (B:=w.heap.size) ao (af _));rintro e w1 ⟨rfl,hb1⟩;obtain⟨g1,rfl⟩:=mob hb1;clear hb1))|(go_at_call 40;((with_reducible refine(CM.out _ ?_).mono ?_);(exact HF.out.below (B:=w.heap.size) ao (af _));rintro e w2 ⟨rfl,hb2⟩;obtain⟨g2,rfl⟩:=mob hb2;clear hb2)))
    have hB0:Below w.heap.size w (more (more (w.alloc (.cells #[.int .i64 dim,.slice a q cap,.int .i64 den] 48)) g1) g2):=by exact bel
    have q0:(more (more (w.alloc (.cells #[.int .i64 dim,.slice a q cap,.int .i64 den] 48)) g1) g2).cell? ⟨w.heap.size,0,none⟩=some (.int .i64 dim):=by go_simp
    have hs0:w.heap.size<(more (more (w.alloc (.cells #[.int .i64 dim,.slice a q cap,.int .i64 den] 48)) g1) g2).heap.size:=by simp;omega
    have HF0:=ae (HF.out.below hB0 (af _));have HB0:=ae hB0;clear hB0;generalize(more (more (w.alloc (.cells #[.int .i64 dim,.slice a q cap,.int .i64 den] 48)) g1) g2)=W0 at*
    (refine wp_region_quiet (C:=Ext _) ai ai (Ext.start _) ?_;simp only[];(repeat(first|go_big_quiet_skip|(go_big_quiet_want;go_big_quiet_op;first|go_big_quiet_on|(apply Exists.intro;refine⟨fun w' hw'=>?_,?_⟩;(focus(first|with_reducible exact rfl|(go_at_call 111;with_reducible exact Ext.call hw' (WI.out _ (HF0.out.below (Ext.below hw') (af _))))|(obtain⟨gx,rfl⟩:=mob (Ext.below hw');go_simp;exact rfl)));go_big_quiet_on))));refine wpQuiet_nil ?_;intro w7 hw7;have hb7:=Ext.below hw7;clear hw7;obtain⟨g7,rfl⟩:=mob hb7;clear hb7)
    have hb7:Below W0.heap.size W0 (more W0 g7):=by exact bel
    go_wp2_with fail
    go_ret
    exact⟨by rw[E.out];rfl,HB0.out.trans (hb7.mono aa)⟩
  ·have E:Hid (R=c2):=E2.out aK h2;clear E1 E2 E3 E4
   go_enter Tryz.func93,Tryz.ntmps93
   go_wp2_with (first|(go_at_call 33;((with_reducible refine(CK.out _ ?_).mono ?_);(exact H.out.below (B:=w.heap.size) ao (af _));rintro e w1 ⟨rfl,hb1⟩;obtain⟨g1,rfl⟩:=mob hb1;clear hb1))|(go_at_call 40;((with_reducible refine(CM.out _ ?_).mono ?_);(exact HF.out.below (B:=w.heap.size) ao (af _));rintro e w2 ⟨rfl,hb2⟩;obtain⟨g2,rfl⟩:=mob hb2;clear hb2)))
   go_ret
   exact⟨by rw[E.out];rfl,by exact bel⟩
 ·have E:Hid (R=c1):=E1.out h1;clear E1 E2 E3 E4
  go_enter Tryz.func93,Tryz.ntmps93
  go_wp2_with (go_at_call 33;((with_reducible refine(CK.out _ ?_).mono ?_);(exact H.out.below (B:=w.heap.size) ao (af _));rintro e w1 ⟨rfl,hb1⟩;obtain⟨g1,rfl⟩:=mob hb1;clear hb1))
  go_ret
  exact⟨by rw[E.out];rfl,by exact bel⟩
end
section
open Go.RowKit Go.BigFrame
attribute [local go_sem ↓] Go.wp_at_zero Go.wp_at_succ
structure pS(w w':World)(base:Nat)(v v':Value)(l:List IV)(x:IV):Prop where
 own:fV w' base v' (l++[x])
 by':w.grownBy w' v.ownBlock
 at':v'.ownBlock=v.ownBlock\/v'.ownBlock=some w.heap.size
theorem Bt{w:World}{base:Nat}{ty:TypeId}{v:Value}{l:List IV}{x:IV}(t:TypeId)(ht:Tryz.prog.underlying t=some (.slice 62))(hown:fV w base v l)(hl:l.length<=1000000000)(hbase:base<=w.heap.size)(b c:Nat)
  (h0:w.cell? ⟨b,0,none⟩=some (.bool x.s)) (h1:w.cell? ⟨b,1,none⟩=some (.slice x.a x.n x.cap)):
  ∃v' w',(Builtin.append_ #[t,t] ty #[v,.slice (some ⟨b,0,none⟩) 1 c]).run Tryz.prog w= .ok v' w'/\pS w w' base v v' l x:=by
 obtain⟨i0,hi0,hz0,hz1,hz2⟩:=gJ uC;obtain⟨v',w',hr,h2,h3,_,h5⟩:=run_append_own_at (P:=Tryz.prog) (w:=w) base t ty 62 i0 _ 2 32 ht hi0 hz0 hz1 hz2 rfl aa v l.length (fJ l) hown ⟨b,0,none⟩ 1 c (fJ [x]) rfl
  (fun j u hu=>by
   rw[ad0]
   match j with
   |0=>simp[fJ]at hu;subst hu;exact h0
   |1=>simp[fJ]at hu;subst hu;exact h1
   |j+2=>simp[fJ]at hu)
  (fun u hu=>by simp[fJ]at hu;rcases hu with rfl|rfl<;>rfl) qW aa hbase
 exact⟨v',w',hr,by unfold fV;rw[cI,xY];exact h2,h3,h5⟩
theorem zF{ops:Array Oper}{o:Oper}{a:Act}{w:World}{K:Act->World->Prop}{Q:Exit->Act->World->Prop}{E:Prop}{base:Nat}(t:TypeId)(ht:Tryz.prog.underlying t=some (.slice 62))
  (hgd:o.guard=none) (s y:Operand) (ho:o.op= .call {callee:=.builtin .append,args:=#[s,y],argTypes:=#[t,t]}) {v:Value} {l:List IV} {x:IV} {b c:Nat} (hs:a.eval s=v) (hx:a.eval y= .slice (some ⟨b,0,none⟩) 1 c)
  (hown:fV w base v l) (hl:l.length<=1000000000) (hbase:base<=w.heap.size) (h0:w.cell? ⟨b,0,none⟩=some (.bool x.s)) (h1:w.cell? ⟨b,1,none⟩=some (.slice x.a x.n x.cap))
  (hK:∀v' w',pS w w' base v v' l x->K (a.put o.dst v') w'):if Region.wanted o (yielded ops a.tmps)=true then Oper.wp Tryz.prog o a w K Q else E:=by
 obtain⟨v',w',hr,hg⟩:=Bt (ty:=o.type) t ht hown hl hbase b c h0 h1;exact zE hgd s y t t ho v' (by rw[hs,hx];exact hr) (hK v' w' hg)
theorem pS.shape{w w':World}{base:Nat}{v v':Value}{l:List IV}{x:IV}(h:pS w w' base v v' l x):∃g c,v'= .slice (some ⟨g,0,none⟩) (l.length+1) c/\base<=g/\g<w'.heap.size:=by
 obtain⟨_,h⟩:=h.own;rw[cI,ff]at h;rcases h with⟨_,hn⟩|⟨g,cap,cur,rfl,hb,hg,_⟩
 ·omega
 ·exact⟨g,cap,rfl,hb,(gS.1 hg).1⟩
theorem pS.chg{w w':World}{base:Nat}{v v':Value}{l:List IV}{x:IV}(h:pS w w' base v v' l x)(hown:fV w base v l):∀b,b<base->b<w.heap.size->w'.heap[b]?=w.heap[b]?:=fun b hb hs=>
 h.by'.block b hs (fun e=>by
  have:=(World.ownsRow.lt hown b e.symm).1;omega)
theorem MB.row{w w':World}{B gm L:Nat}{gs cs:Nat->Nat}{n:Nat}{M:Mx.Mat}(h:MB w B gm L gs cs n M){g c:Nat}{b:Option Addr}{zs:List Int}(k:Chg gm w w')(hL:M.length<L)(hz:zs.length=n)(hc:n<=c)(hA:AD b)
  (hcell:∀i,i≠M.length->w'.cell? ⟨gm,i,none⟩=w.cell? ⟨gm,i,none⟩) (hnew:w'.cell? ⟨gm,M.length,none⟩=some (.slice b n c)) (hfr:∀i,w'.frozen? ⟨gm,i,none⟩=false)
  (hr:0<n->b=some ⟨g,0,none⟩/\RO w' g zs/\B<=g/\g≠gm/\∀i,i<M.length->gs i≠g):
  MB w' B gm L (fun i=>if i=M.length then g else gs i) (fun i=>if i=M.length then c else cs i) n (M++[zs]):=by
 refine⟨h.b,aS h.lt k.size,hfr,fun l hl=>?_,fun m e=>?_,by simp;omega,fun r hr=>?_,fun l hl=>?_,fun h0 a b ha hb hab=>?_⟩
 ·by_cases e:l=M.length
  ·exact⟨_,by rw[e];exact hnew⟩
  ·rw[hcell l e];exact h.hl l hl
 ·by_cases e2:0=M.length
  ·rw[<-e2]at hnew;rw[hnew]at e;cases e
  ·rw[hcell 0 e2]at e;exact h.nw m e
 ·rcases eY.1 hr with h1|h1
  ·exact h.rc r h1
  ·rw[bU.1 h1];exact hz
 ·simp only[cI,ff]at hl;rw[Bq];by_cases e:l=M.length
  ·subst e;rw[hnew,ak rfl,ak rfl,ak rfl];exact⟨b,rfl,hc,hA,fun h0=>⟨(hr h0).1,(hr h0).2.2.1,(hr h0).2.2.2.1,(hr h0).2.1⟩⟩
  ·obtain⟨b',h1,h2,hA',h3⟩:=h.hc l aa;rw[hcell l e,h1,ah e,ah e,ah e];exact⟨b',rfl,h2,hA',fun h0=>⟨(h3 h0).1,(h3 h0).2.1,(h3 h0).2.2.1,(h3 h0).2.2.2.chg k h.nw (h3 h0).2.2.1⟩⟩
 ·simp only[cI,ff]at ha hb;by_cases a1:a=M.length
  ·rw[ak a1,ah aa];exact fun e=>(hr h0).2.2.2.2 b aa e.symm
  ·rw[ah a1];by_cases b1:b=M.length
   ·rw[ak b1];exact(hr h0).2.2.2.2 a aa
   ·rw[ah b1];exact h.dj h0 a b aa aa hab
theorem pS.iz{w w':World}{base:Nat}{v v':Value}{l:List IV}{x:IV}(h:pS w w' base v v' l x)(hown:fV w base v l)(h0:l=[]->v= .slice none 0 0){y:IV}{z:Int}(hy:IZ w y z):IZ w' y z:=by
 cases hv:v.ownBlock with
 |none=>exact hy.below (B:=w.heap.size) ⟨h.by'.os,h.by'.tape,h.by'.output,h.by'.size,fun k hk=>h.by'.block k hk (by rw[hv];simp)⟩ (af _)
 |some b=>
  refine hy.chg (g:=b) ⟨h.by'.os,h.by'.tape,h.by'.output,h.by'.size,fun k hk hkb=>h.by'.block k hk (by rw[hv];simp only[ne_eq,an];exact hkb)⟩ fun n e=>?_;obtain⟨_,hown⟩:=hown
  match l,h0,hown with
  |[],h0,_=>rw[h0 rfl]at hv;cases hv
  |y::l,_,hown=>
   rcases hown with⟨_,hn⟩|⟨g,cap,cur,rfl,_,hg,hle,hm,hsz,htk⟩
   ·simp at hn
   ·have:g=b:=by simpa[Value.ownBlock]using hv
    subst this;rw[cell_of_row w g _ cur _ (0,0) hg]at e;have h1:(fJ (y::l))[0]?=some (.int .u32 n):=by
     rw[<-htk,ik aK,dG];exact e
    simp[fJ]at h1
structure GM(W1 w:World)(gm k:Nat)(zs:List Int)(j:Nat)(v:Value):Prop where
 c:Chg gm W1 w
 o:∀i,i≠k->w.cell? ⟨gm,i,none⟩=W1.cell? ⟨gm,i,none⟩
 h:w.cell? ⟨gm,k,none⟩=some v
 f:∀i,w.frozen? ⟨gm,i,none⟩=false
 nw:NW w gm
 v0:∀n,v≠ .int .u32 n
 r:∃l:List IV,l.length=j/\fV w W1.heap.size v l/\(l=[]->v= .slice none 0 0)/\∀(t:Nat) (x:IV) (z:Int),l[t]?=some x->zs[t]?=some z->IZ w x z
theorem GM.step{W1 wr W w6:World}{gm k j:Nat}{zs:List Int}{v v':Value}{l:List IV}{x:IV}{z:Int}(h:GM W1 wr gm k zs j v)(hgm:gm<W1.heap.size)(hl:l.length=j)(hl0:l=[]->v= .slice none 0 0)(hiz:∀(t:Nat) (x:IV) (z:Int),l[t]?=some x->zs[t]?=some z->IZ wr x z)
  (hb:Below wr.heap.size wr W) (hown:fV W W1.heap.size v l) (hg:pS W w6 W1.heap.size v v' l x) (hz:zs[j]?=some z) (hx:IZ wr x z):GM W1 (w6.setCell ⟨gm,k,none⟩ v') gm k zs (j+1) v':=by
 have hs1:W1.heap.size<=wr.heap.size:=h.c.size;have hgr:gm<wr.heap.size:=by omega
 have hgW:gm<W.heap.size:=aS hgr hb.size;have e6:∀b,b<W1.heap.size->w6.heap[b]?=wr.heap[b]?:=fun b hbl=>(hg.chg hown b hbl (aS (aS hbl hs1) hb.size)).trans (hb.block b aa);have ec:∀i,w6.cell? ⟨gm,i,none⟩=wr.cell? ⟨gm,i,none⟩:=fun i=>World.cell?_of_block (e6 gm hgm);have ef:∀i,w6.frozen? ⟨gm,i,none⟩=wr.frozen? ⟨gm,i,none⟩:=fun i=>frozen?_of_block (e6 gm hgm);have nw6:NW w6 gm:=h.nw.nQ (ec 0);have kc:Chg gm W1 w6:=⟨hg.by'.os.trans (hb.os.trans h.c.os),hg.by'.tape.trans (hb.tape.trans h.c.tape),hg.by'.output.trans (hb.output.trans h.c.output),aH hs1 (aH hb.size hg.by'.size),fun b hbl hne=>(e6 b hbl).trans (h.c.block b hbl hne)⟩;have k6:Chg gm w6 (w6.setCell ⟨gm,k,none⟩ v'):=(Chg.refl gm w6).set gm _ _ (.inl rfl);obtain⟨g',c',hv',hb',hlt'⟩:=hg.shape;have hv0:∀n,v'≠ .int .u32 n:=fun n e=>by rw[hv']at e;cases e
 have cell:∀i u,w6.cell? ⟨gm,i,none⟩=some u->(w6.setCell ⟨gm,k,none⟩ v').cell? ⟨gm,i,none⟩=some (if i=k then v' else u):=fun i u hu=>by
  by_cases e:i=k
  ·rw[ak e,<-e];exact ew _ _ _ _ _ hu
  ·rw[ah e,dm _ _ _ _ _ e];exact hu
 refine⟨kc.trans k6,fun i hi=>?_,?_,fun i=>?_,fun n e=>?_,hv0,l++[x],by simp[hl],?_,fun e=>by simp at e,fun t y z' ht hz'=>?_⟩
 ·rw[dm _ _ _ _ _ hi,ec];exact h.o i hi
 ·exact(cell k v ((ec k).trans h.h)).trans (by rw[ak rfl])
 ·rw[World.frozen?_setCell,ef];exact h.f i
 ·by_cases e0:0=k
  ·subst e0;have h1:=cell 0 v ((ec 0).trans h.h);rw[ak rfl]at h1;rw[h1]at e;exact hv0 n oB
  ·rw[dm _ _ _ _ _ e0]at e;exact nw6 n e
 ·exact World.ownsRow.kept (row:=some gm) hg.own ⟨k6.os,k6.tape,k6.output,k6.size,fun b hbl hne=>k6.block b hbl (fun e=>hne (by rw[e]))⟩ (.inr (by rw[hv'];simp[Value.ownBlock];omega))
 ·have hy : IZ wr y z' := by
   by_cases e:t<l.length
   ·rw[eD e]at ht;exact hiz t y z' ht hz'
   ·have e2 : t = l.length := by
     have:=(cB.1 ht).1;simp at this;omega
    rw[e2,fF (af _),dH]at ht;simp at ht;rw[e2,hl,hz]at hz';cases hz';rw[<-ht];exact hx
  exact((hg.iz hown hl0 (hy.below hb (af _))).chg k6 nw6)
set_option maxRecDepth 10000 in
set_option maxHeartbeats 8000000 in
theorem Bc(M:Mx.Mat)(n:Nat)(v:Value)(h0:M≠[])(hm:M.length<=1000000)(hn:n<=1000000)(w:World)(h:MR w v n M):
  Calls Tryz.prog 98 #[v] w (oL w M.length (Mx.trM n M)):=by
 obtain⟨a,cap,rfl,_,hr,h4⟩:=h.row;have HM0:0<M.length:=il.2 h0;have RC:Hid (Mx.Rc n M):=hr;rcases h4 with h4|⟨gq,om,rfl,hgl,hcc⟩
 ·exact absurd h4 h0
 have HCC:Hid _:=hcc;obtain⟨b0,c0,k0,_⟩:=hcc 0 HM0;have hmk:=rI n aa;have hm2:¬M.length=0:=by omega
 have hm1:¬(M.length:Int)=0:=by omega
 have TL:=ae (Mx.gL n M);generalize hml:M.length=q at*;have HQ:=ae hml;clear hml h0 hcc h hr;have hq0:(0:Int)<(q:Int):=by omega
 have hm3:((q:Int)==0)=false:=by rw[beq_eq_false_iff_ne];exact hm1
 rw[cg]at k0
 go_enter Tryz.func98,Tryz.ntmps98
 go_wp2_with fail
 have hgm0:w.heap.size<(w.alloc (.cells (madeCells #[.slice none 0 0] n) 147)).heap.size:=by simp
 go_loopw [17] (fun i wr=>∃(k:Nat) (gs cs:Nat->Nat),k<=n/\i= .int .i64 ((k:Int))/\Hid (Below w.heap.size w wr)/\w.heap.size<wr.heap.size/\Hid (MB wr w.heap.size w.heap.size n gs cs q ((Mx.trM n M).take k))/\Hid (∀i,k<=i->i<n->wr.cell? ⟨w.heap.size,i,none⟩=some (.slice none 0 0))) (fun i _=>n-(intOf i).toNat)
 case atStart=>
  refine⟨0,id,id,by omega,rfl,by show Below _ _ _;exact bel,by simp,MB.made w w.heap.size n q id id (af _),fun i _ hi=>?_⟩;rw[cell_of_row _ w.heap.size _ _ _ (0,0) (heap_alloc_new w _)];exact zX n i hi
 case round=>
  obtain⟨k,gs,cs,hk,rfl,HB,hlt,HR,HN⟩:=hrel;by_cases hkn:k<n
  ·have hkn2:(k:Int)<(n:Int):=by omega
   obtain⟨W1,hW1⟩:∃W,W=wr:=⟨wr,rfl⟩;have hkl:((Mx.trM n M).take k).length=k:=by rw[aP,TL.out];omega
   have HKL:=ae hkl;have hcs:GM W1 wr w.heap.size k (M.map fun r=>r.getD k 0) 0 (.slice none 0 0):=by
    subst hW1;exact⟨Chg.refl _ _,fun i _=>rfl,HN.out k (af _) hkn,HR.out.fr,HR.out.nw,(fun n e=>by cases e),[],rfl,fV.nil _ _,fun _=>rfl,fun t x z ht=>by simp at ht⟩
   have HCS:=ae hcs;have hlt1:w.heap.size<W1.heap.size:=by rw[hW1];exact hlt
   have HB1:Hid (Below w.heap.size w W1):=by subst hW1;exact HB.out
   have HR1:Hid (MB W1 w.heap.size w.heap.size n gs cs q ((Mx.trM n M).take k)):=by subst hW1;exact HR.out
   have HN1:Hid (∀i,k<=i->i<n->W1.cell? ⟨w.heap.size,i,none⟩=some (.slice none 0 0)):=by subst hW1;exact HN.out
   clear hcs hkl HB HR HN hlt
   go_wp2_with fail
   go_loopw [22] (fun i wx=>∃(j:Nat) (v:Value),j<=q/\i= .int .i64 ((j:Int))/\Hid (GM W1 wx w.heap.size k (M.map fun r=>r.getD k 0) j v)) (fun i _=>q-(intOf i).toNat)
   case atStart=>exact⟨0,_,by omega,rfl,HCS.out⟩
   case round=>
    obtain⟨j,vj,hj,rfl,HC⟩:=hrel;have hs1:W1.heap.size<=wr.heap.size:=HC.out.c.size;have hgr:w.heap.size<wr.heap.size:=by omega
    by_cases hjq:j<q
    ·have hjq2:(j:Int)<(q:Int):=by omega
     have hbx:Below w.heap.size w wr:=HC.out.c.below HB1.out (af _) (bO hlt1);obtain⟨b,c,cz,hza⟩:=HCC.out j hjq;obtain⟨b',c',e',hc5,hl5,hA5,hz5⟩:=hza;cases e';have cz2:=(hbx.cell (p:=⟨gq,om+j,none⟩) hgl).trans cz;obtain⟨g,o,rfl,hra⟩:∃g o,b=some ⟨g,o,none⟩/\RA wr g o (Mx.rw M j):=by
      rcases hz5 with h|⟨g,o,e,h5⟩
      ·omega
      ·exact⟨g,o,e,h5.below hbx (af _)⟩
     have hrl:(Mx.rw M j).length=n:=RC.out.rw (by rw[HQ.out];exact hjq);obtain⟨x,x0,x1,xz⟩:=hra.c k _ (getD_some (by rw[hrl];exact hkn));have HX:Hid (IZ wr x (Mx.at' M j k)):=xz;have HZJ:Hid ((M.map fun r=>r.getD k 0)[j]?=some (Mx.at' M j k)):=by
      have:=getD_some (l:=M.map fun r=>r.getD k 0) (k:=j) (by rw[bC,HQ.out];exact hjq);rw[Mx.vU]at this;exact this
     have hg2:g<wr.heap.size:=hra.lt;obtain⟨l,hll,hown,hl0,hiz⟩:=HC.out.r;have h5:=HC.out.h;have f5:=HC.out.f k;have HO:=ae hown;have HL0:=ae hl0;have HIZ:Hid _:=hiz;have HLL:=ae hll;have hll2:l.length<=1000000000:=by omega
     have HLB:=ae hll2;obtain⟨xs,xa,xn,xc⟩:=x;simp only[]at x0 x1;clear cz hz5 hra hrl xz hown hl0 hiz hll hll2 hbx
     go_upto_region 10 with fail
     go_region_law (refine zF (x:=⟨xs,xa,xn,xc⟩) (b:=wr.heap.size) (c:=1) (l:=l) (v:=vj) (base:=W1.heap.size) 147 Tryz.underlying147 rfl (.tmp 31) (.tmp 36) rfl rfl rfl ?_ HLB.out ?_ ?_ ?_ ?_;(exact HO.out.low ao);(focus(first|omega|(simp;omega)));(focus(go_simp));(focus(go_simp));intro v6 w6 hg6;have hc6:w6.cell? ⟨w.heap.size,k,none⟩=some vj:=((World.cell?_of_block ((hg6.chg (HO.out.low ao) w.heap.size hlt1 cX).trans ((show Below wr.heap.size wr (wr.alloc (.cells #[.bool xs,.slice xa xn xc] 62)) by exact bel).block _ hgr))).trans h5);have hf6:w6.frozen? ⟨w.heap.size,k,none⟩=false:=((frozen?_of_block ((hg6.chg (HO.out.low ao) w.heap.size hlt1 cX).trans ((show Below wr.heap.size wr (wr.alloc (.cells #[.bool xs,.slice xa xn xc] 62)) by exact bel).block _ hgr))).trans f5);have HS6:=ae (HC.out.step hlt1 HLL.out HL0.out HIZ.out ao (HO.out.low ao) hg6 HZJ.out HX.out);obtain⟨g6,c6,rfl,_⟩:=hg6.shape;clear hg6)
     all_goals(go_wp2_with fail)
     all_goals go_roundw
     all_goals(first|(exact⟨j+1,_,by omega,by go_num,HS6.out⟩)|(simp[intOf];omega))
    ·obtain rfl:j=q:=by omega
     have hjq2:¬(j:Int)<(j:Int):=by omega
     go_wp2_with fail
     go_roundw
     case rel=>
      obtain⟨l,hll,hown,_,hiz⟩:=HC.out.r;obtain⟨b,g,c,hv,hc,hro⟩:=hown.ro (zs:=M.map fun r=>r.getD k 0) (by rw[bC,HQ.out,hll]) hiz;rw[bC,HQ.out]at hv hc hro;obtain⟨rfl,hgb,hro⟩:=hro aa;have hnew:=HC.out.h;rw[hv]at hnew;have hp:=HR1.out.row (g:=g) (c:=c) (zs:=M.map fun r=>r.getD k 0) HC.out.c (by rw[HKL.out];exact hkn) (by rw[bC,HQ.out]) hc (AD.some _ _) (by rw[HKL.out];exact HC.out.o) (by rw[HKL.out];exact hnew) HC.out.f (fun h0=>⟨rfl,hro,by omega,by omega,fun i hi=>by
       obtain⟨b2,_,_,_,h6⟩:=HR1.out.hc i hi;have:=(h6 h0).2.2.2.lt;omega⟩)
      rw[<-rp (Mx.Be M hkn)]at hp;exact⟨k+1,_,_,by omega,by go_num,HC.out.c.below HB1.out (af _) (bO hlt1),hgr,hp,fun i hi hi2=>(HC.out.o i aa).trans (HN1.out i aa hi2)⟩
     case measure=>simp[intOf];omega
  ·obtain rfl:k=n:=by omega
   have hkn2:¬(k:Int)<(k:Int):=by omega
   go_wp2_with fail
   have hp:=HR.out;rw[cj (by rw[TL.out];exact af _)]at hp;have hb:=HB.out
   go_ret
   exact⟨⟨w.heap.size,gs,cs,k,by rw[TL.out];rfl,by rw[TL.out];exact af _,by rw[TL.out];exact hp⟩,hb⟩
end
section
open Go.RowKit Go.BigFrame
attribute [local go_sem ↓] Go.wp_at_zero Go.wp_at_succ
theorem Kt{a b:List Int}{k:Nat}(hk:∀j,j<k->a[j]?=b[j]?):part k a b=b:=by
 have e:a.take k=b.take k:=by
  apply oN;intro j;rw[gB,gB];split
  ·exact hk j (by assumption)
  ·rfl
 unfold part;rw[e,pF]
def bY(k:Nat)(last:Int)(N:Mx.Mat)(t j:Nat):Mx.Mat:=(Mx.bK k last N t).set (k+1+t) (part j (Mx.uS k last (Mx.rw N k) (Mx.rw N (k+1+t))) (Mx.rw N (k+1+t)))
theorem K9{k t:Nat}{last:Int}{N:Mx.Mat}(ht:k+1+t<N.length)(j i:Nat):Mx.rw (bY k last N t j) i=if i=k+1+t then part j (Mx.uS k last (Mx.rw N k) (Mx.rw N (k+1+t))) (Mx.rw N (k+1+t))else Mx.rw (Mx.bK k last N t) i:=by
 unfold bY;rw[Mx.qp _ _ _ _ (by rw[Mx.Az];exact ht)]
theorem P6{n k t:Nat}{last:Int}{N:Mx.Mat}(h:Mx.Rc n N)(ht:k+1+t<N.length):bY k last N t (k+1)=Mx.bK k last N t:=by
 have hl:(Mx.rw N (k+1+t)).length=n:=h.rw ht;unfold bY;rw[Kt (fun j hj=>by
  by_cases hjn:j<n
  ·rw[Mx.uR (by rw[hl];exact hjn),ah aa,getD_some (by rw[hl];exact hjn)]
  ·rw[gA (by rw[Mx.mi,hl];omega),gA (by rw[hl];omega)])]
 have e:Mx.rw N (k+1+t)=Mx.rw (Mx.bK k last N t) (k+1+t):=by rw[Mx.xI k last N t aa,ah aa]
 rw[e,Mx.zK]
theorem Vt{n k t:Nat}{last:Int}{N:Mx.Mat}(h:Mx.Rc n N)(ht:k+1+t<N.length):bY k last N t n=Mx.bK k last N (t+1):=by
 have hl:(Mx.rw N (k+1+t)).length=n:=h.rw ht;unfold bY;rw[qu (by rw[Mx.mi,hl];exact af _) (by rw[hl];exact af _)];rfl
theorem bY_k{k t:Nat}{last:Int}{N:Mx.Mat}(ht:k+1+t<N.length)(j l:Nat):Mx.at' (bY k last N t j) k l=Mx.at' N k l:=by
 unfold Mx.at';rw[K9 ht,ah aa,Mx.xI k last N t aa,ah aa]
theorem bY_i{n k t j l:Nat}{last:Int}{N:Mx.Mat}(h:Mx.Rc n N)(ht:k+1+t<N.length)(hln:l<n)(hl:j<=l\/l<=k):Mx.at' (bY k last N t j) (k+1+t) l=Mx.at' N (k+1+t) l:=by
 have hrl:(Mx.rw N (k+1+t)).length=n:=h.rw ht;unfold Mx.at';rw[K9 ht,ak rfl,aG,aG];congr 1;unfold part;by_cases hj:j<=l
 ·by_cases hjn:j<=n
  ·rw[fF uZ,aP,Mx.mi,hrl,dp hjn,fE];congr 1;omega
  ·omega
 ·rw[eD (by rw[aP,Mx.mi,hrl];omega),ik aa,Mx.uR (by rw[hrl];exact hln),ah aa,getD_some (by rw[hrl];exact hln)]
theorem Uc{n k t j:Nat}{last:Int}{N:Mx.Mat}(h:Mx.Rc n N)(ht:k+1+t<N.length)(hj:k<j)(hjn:j<n):
  (bY k last N t j).set (k+1+t) ((Mx.rw (bY k last N t j) (k+1+t)).set j ((Mx.at' N k k*Mx.at' N (k+1+t) j-Mx.at' N (k+1+t) k*Mx.at' N k j)/last))=bY k last N t (j+1):=by
 have hrl:(Mx.rw N (k+1+t)).length=n:=h.rw ht;rw[K9 ht,ak rfl,nO (Mx.mi _ _ _ _) (by rw[Mx.uR (by rw[hrl];exact hjn),ak hj];rfl)];unfold bY;rw[List.set_set]
structure DI(w wr:World)(gm L n:Nat)(gs cs:Nat->Nat)(X:Mx.Mat)(y:IV)(last:Int):Prop where
 bl:Below w.heap.size w wr
 mb:MB wr (w.heap.size+1) gm n gs cs n X
 len:X.length=n
 gl:gm<L
 gsl:∀i,i<n->gs i<L
 lt:L<wr.heap.size
 l0:wr.cell? ⟨L,0,none⟩=some (.bool y.s)
 l1:wr.cell? ⟨L,1,none⟩=some (.slice y.a y.n y.cap)
 lf:∀i,wr.frozen? ⟨L,i,none⟩=false
 iz:IZ wr y last
 r0:wr.cell? ⟨w.heap.size,0,none⟩=some (.bool false)
 r1:wr.cell? ⟨w.heap.size,1,none⟩=some (.slice none 0 0)
 rf:∀i,wr.frozen? ⟨w.heap.size,i,none⟩=false
theorem DI.rlt{w wr:World}{gm L n:Nat}{gs cs:Nat->Nat}{X:Mx.Mat}{y:IV}{last:Int}(h:DI w wr gm L n gs cs X y last):w.heap.size<gm/\w.heap.size<wr.heap.size:=by
 have:=h.mb.b;have:=h.mb.lt;omega
theorem NW.bool{w:World}{g:Nat}{b:Bool}(h:w.cell? ⟨g,0,none⟩=some (.bool b)):NW w g:=fun n e=>by rw[h]at e;cases e
theorem DI.below{w wr wx:World}{gm L n:Nat}{gs cs:Nat->Nat}{X:Mx.Mat}{y:IV}{last:Int}(h:DI w wr gm L n gs cs X y last)(k:Below wr.heap.size wr wx):DI w wx gm L n gs cs X y last:=
 have hr:=h.rlt.2
 ⟨h.bl.trans (k.mono (bO hr)),h.mb.below k (af _),h.len,h.gl,h.gsl,aS h.lt k.size,(k.cell (p:=⟨L,0,none⟩) h.lt).trans h.l0,(k.cell (p:=⟨L,1,none⟩) h.lt).trans h.l1,fun i=>(k.frozen (p:=⟨L,i,none⟩) h.lt).trans (h.lf i),h.iz.below k (af _),
  (k.cell (p:=⟨w.heap.size,0,none⟩) hr).trans h.r0,(k.cell (p:=⟨w.heap.size,1,none⟩) hr).trans h.r1,fun i=>(k.frozen (p:=⟨w.heap.size,i,none⟩) hr).trans (h.rf i)⟩
theorem DI.chg{w wr wx:World}{gm L n:Nat}{gs cs gs2 cs2:Nat->Nat}{X X2:Mx.Mat}{y:IV}{last:Int}{b:Nat}(h:DI w wr gm L n gs cs X y last)(k:Chg b wr wx)(hb:w.heap.size<b)(hbL:b<L)(hnw:NW wr b)(hm:MB wx (w.heap.size+1) gm n gs2 cs2 n X2)(hl:X2.length=n)(hg:∀i,i<n->gs2 i<L):DI w wx gm L n gs2 cs2 X2 y last:=
 have hr:=h.rlt.2
 ⟨k.below h.bl (bO hb) (bO hr),hm,hl,h.gl,hg,aS h.lt k.size,(k.cell h.lt aa).trans h.l0,(k.cell h.lt aa).trans h.l1,fun i=>(k.frozen h.lt aa).trans (h.lf i),h.iz.chg k hnw,
  (k.cell hr aa).trans h.r0,(k.cell hr aa).trans h.r1,fun i=>(k.frozen hr aa).trans (h.rf i)⟩
theorem MB.oth{b:Nat}{w w':World}{B gm L:Nat}{gs cs:Nat->Nat}{n:Nat}{M:Mx.Mat}(h:MB w B gm L gs cs n M)(k:Chg b w w')(hb:NW w b)(hg:gm≠b)(hgs:∀i,i<M.length->gs i≠b):MB w' B gm L gs cs n M:=by
 refine⟨h.b,aS h.lt k.size,fun j=>(k.frozen h.lt hg).trans (h.fr j),fun i hi=>?_,h.nw.nQ (k.cell h.lt hg),h.ml,h.rc,fun i hi=>?_,h.dj⟩
 ·obtain⟨u,hu⟩:=h.hl i hi;exact⟨u,(k.cell h.lt hg).trans hu⟩
 ·obtain⟨a,h1,h2,hA,h3⟩:=h.hc i hi;exact⟨a,(k.cell h.lt hg).trans h1,h2,hA,fun h0=>⟨(h3 h0).1,(h3 h0).2.1,(h3 h0).2.2.1,(h3 h0).2.2.2.chg k hb (hgs i hi)⟩⟩
theorem DI.row{w wr:World}{gm L n:Nat}{gs cs:Nat->Nat}{X:Mx.Mat}{y:IV}{last:Int}(h:DI w wr gm L n gs cs X y last){i j:Nat}(hi:i<n)(hj:j<n){x:IV}{z:Int}(hx:IZ wr x z):DI w (dY wr (gs i) j x) gm L n gs cs (X.set i ((Mx.rw X i).set j z)) y last:=by
 have hi2:i<X.length:=by rw[h.len];exact hi
 have hm:=h.mb.mo aa;obtain⟨h1,h2,h3,h4,h5⟩:=hm.hc i hi2;have hnw:=hm.Mh hi2;have k:Chg (gs i) wr (dY wr (gs i) j x):=lX (Chg.refl _ _) j x;have hrl:(Mx.rw X i).length=n:=hm.rc.rw hi2;have ho:RO (dY wr (gs i) j x) (gs i) ((Mx.rw X i).set j z):=h5.set (by rw[hrl];exact hj) hx;exact h.chg k aa (h.gsl i hi) hnw (hm.setRow hi2 (by rw[ed];exact hrl) k ho).mb (by rw[ed];exact h.len) h.gsl
theorem DI.swp{w wr:World}{gm L n:Nat}{gs cs:Nat->Nat}{X:Mx.Mat}{y:IV}{last:Int}(h:DI w wr gm L n gs cs X y last){i j:Nat}(hi:i<n)(hj:j<n):
  DI w ((wr.setCell ⟨gm,i,none⟩ (.slice (some ⟨gs j,0,none⟩) n (cs j))).setCell ⟨gm,j,none⟩ (.slice (some ⟨gs i,0,none⟩) n (cs i))).drew gm L n (ix gs i j) (ix cs i j) (Mx.swp X i j) y last:=by
 have k:Chg gm wr ((wr.setCell ⟨gm,i,none⟩ (.slice (some ⟨gs j,0,none⟩) n (cs j))).setCell ⟨gm,j,none⟩ (.slice (some ⟨gs i,0,none⟩) n (cs i))):=((Chg.refl gm wr).set gm _ _ (.inl rfl)).set gm _ _ (.inl rfl);refine(h.chg k h.rlt.1 h.gl h.mb.nw ((h.mb.mo aa).swp (by rw[h.len];exact hi) (by rw[h.len];exact hj)).mb (by rw[Mx.dK];exact h.len) (fun l hl=>?_)).below (Below.refl _ _).drew;unfold ix;split
 ·exact h.gsl i hi
 ·split
  ·exact h.gsl j hj
  ·exact h.gsl l hl
theorem DI.last{w wr:World}{gm L n:Nat}{gs cs:Nat->Nat}{X:Mx.Mat}{y:IV}{last:Int}(h:DI w wr gm L n gs cs X y last){x:IV}{z:Int}(hx:IZ wr x z):DI w ((wr.setCell ⟨L,0,none⟩ (.bool x.s)).setCell ⟨L,1,none⟩ (.slice x.a x.n x.cap)) gm L n gs cs X x z:=by
 have k:Chg L wr ((wr.setCell ⟨L,0,none⟩ (.bool x.s)).setCell ⟨L,1,none⟩ (.slice x.a x.n x.cap)):=((Chg.refl L wr).set L _ _ (.inl rfl)).set L _ _ (.inl rfl);have hnw:=NW.bool h.l0;have hr:=h.rlt;have hL:w.heap.size≠L:=by have:=h.gl;omega
 refine⟨k.below h.bl (by have:=h.gl;omega) (bO hr.2),h.mb.oth k hnw (by have:=h.gl;omega) (fun i hi=>by have:=h.gsl i (by rw[<-h.len];exact hi);omega),h.len,h.gl,h.gsl,by simpa using h.lt,?_,?_,fun i=>by rw[World.frozen?_setCell,World.frozen?_setCell];exact h.lf i,hx.chg k hnw,(k.cell hr.2 hL).trans h.r0,(k.cell hr.2 hL).trans h.r1,fun i=>(k.frozen hr.2 hL).trans (h.rf i)⟩
 ·rw[dm _ _ _ _ _ aa];exact ew _ _ _ _ _ h.l0
 ·exact ew _ _ _ _ _ ((dm _ _ _ _ _ aa).trans h.l1)
end
section
open Go.RowKit Go.BigFrame
attribute [local go_sem ↓] Go.wp_at_zero Go.wp_at_succ
set_option maxRecDepth 20000 in
set_option maxHeartbeats 0 in
theorem TY(M:Mx.Mat)(n e:Nat)(v:Value)(hlen:M.length=n)(hn:n<=1000)(he:2^n*(e+1)<=6000000000000)(hb:Mx.Bd (2^e) M)(w:World)(h:MR w v n M):
  Calls Tryz.prog 96 #[v] w fun e w'=>(∃z,e= .returned (.agg #[.bool z.s,.slice z.a z.n z.cap])/\IZ w' z (Mx.BU M))/\Below w.heap.size w w':=by
 have HRC:Hid (Mx.Rc n M):=by obtain⟨_,_,_,_,h3,_⟩:=h;exact h3
 have CL:Hid (∀w,MR w v n M->Calls Tryz.prog 156 #[v] w fun e w'=>(∃gm gs cs cap,e= .returned (.slice (some ⟨gm,0,none⟩) n cap)/\n<=cap/\MB w' w.heap.size gm n gs cs n M)/\Below w.heap.size w w'):=fun w h=>by
  have h1:=pJ M n v aa aa w h;unfold oL at h1;rw[hlen]at h1;exact h1
 have OF:=ae (fun w=>rM 1 aa w);have H:=ae h;have HB0:Hid (Mx.Bd (2^(Mx.bE e 0)) M):=by show Mx.Bd _ _;rw[Mx.Uf];exact hb
 have HE:Hid (∀k,k<=n->Mx.bE e k<=6000000000000):=fun k hk=>aH (Mx.bE_le hk) he;have HG0:Hid (Mx.bGo (n-0) 0 M 1 1=Mx.BU M):=by show _=_;unfold Mx.BU;rw[hlen];rfl
 have HLN:=ae hlen;obtain⟨a,cap,rfl,_⟩:=h;rw[hlen]at H CL⊢;generalize Mx.BU M=Z at*;clear he hb hlen
 go_enter Tryz.func96,Tryz.ntmps96
 go_wp2_with (first
  |(go_at_call 156;((with_reducible refine(CL.out _ (H.out.below (B:=w.heap.size) ao (af _))).mono ?_);rintro e w4 ⟨⟨gm,gs,cs,c4,rfl,hc4,hm⟩,hb4⟩;have HM:=ae hm;clear hm;have HB4:=ae hb4;clear hb4))
  |(go_at_call 124;((with_reducible refine(OF.out _).mono ?_);rintro e w5 ⟨⟨y,rfl,hy⟩,hb5⟩;have HY:=ae hy;have HB5:=ae hb5;clear hb5 hy)))
 have hsz0:(w.alloc (.cells #[.bool false,.slice none 0 0] 62)).heap.size=w.heap.size+1:=by simp
 have hD:DI w (w5.alloc (.cells #[.bool y.s,.slice y.a y.n y.cap] 62)) gm w5.heap.size n gs cs M y 1:=by
  have hm5:MB w5 (w.heap.size+1) gm n gs cs n M:=by
   have:=HM.out.below HB5.out (af _);rw[hsz0]at this;exact this
  have hgs:∀i,i<n->gs i<w5.heap.size:=fun i hi=>by
   obtain⟨_,_,_,_,h6⟩:=hm5.hc i (by rw[HLN.out];exact hi);exact(h6 aa).2.2.2.lt
  have hb1:Below w.heap.size w (w.alloc (.cells #[.bool false,.slice none 0 0] 62)):=by exact bel
  have hb4:Below w.heap.size w w4:=hb1.trans (HB4.out.mono aa);have hb5:Below w.heap.size w w5:=hb4.trans (HB5.out.mono hb4.size);have hlt4:w.heap.size<w4.heap.size:=by have:=HB4.out.size;omega
  have hlt5:w.heap.size<w5.heap.size:=by have:=HB5.out.size;omega
  have hh:=heap_alloc_new w (.cells #[.bool false,.slice none 0 0] 62);have hh5:=heap_alloc_new w5 (.cells #[.bool y.s,.slice y.a y.n y.cap] 62);have hbl:(w5.alloc (.cells #[.bool y.s,.slice y.a y.n y.cap] 62)).heap[w.heap.size]?=some (.cells #[.bool false,.slice none 0 0] 62):=(((Below.refl w5.heap.size w5).alloc (af _) _).block _ hlt5).trans ((HB5.out.block _ hlt4).trans ((HB4.out.block _ aa).trans hh));refine⟨hb5.alloc aa _,hm5.below ((Below.refl w5.heap.size w5).alloc (af _) _) (af _),HLN.out,hm5.lt,hgs,by simp,?_,?_,fun i=>?_,HY.out.below ((Below.refl w5.heap.size w5).alloc (af _) _) (af _),?_,?_,fun i=>?_⟩
  ·rw[cell_of_row _ w5.heap.size _ _ _ (0,0) hh5];rfl
  ·rw[cell_of_row _ w5.heap.size _ _ _ (0,0) hh5];rfl
  ·simp only[World.frozen?];rw[hh5];simp
  ·rw[cell_of_row _ w.heap.size _ _ _ (0,0) hbl];rfl
  ·rw[cell_of_row _ w.heap.size _ _ _ (0,0) hbl];rfl
  ·simp only[World.frozen?];rw[hbl];simp
 have HD:=ae hD;have f2:Hid (Fit 1):=bL (e:=1) aK aa;clear hD HM HB4 HY HB5 CL OF H hsz0;generalize w5.heap.size=L at*
 go_loopw [6,17] (fun s i wr=>∃(k:Nat) (sg:Int) (gs cs:Nat->Nat) (X:Mx.Mat) (y:IV) (last:Int),k<=n/\i= .int .i64 ((k:Int))/\s= .int .i64 sg/\(sg=1\/sg= -1)/\Hid (DI w wr gm L n gs cs X y last)/\Hid (Mx.bGo (n-k) k X last sg=Z)/\Hid (Mx.Bd (2^(Mx.bE e k)) X/\Mx.Rc n X/\Fit last)) (fun _ i _=>n-(intOf i).toNat)
 case atStart=>exact⟨0,1,gs,cs,M,y,1,by omega,rfl,rfl,.inl rfl,HD.out,HG0.out,HB0.out,HRC.out,f2.out⟩
 case round=>
  clear HD HG0 HB0 HRC f2 HLN;obtain⟨k,sg,gs,cs,X,y,last,hk,rfl,rfl,hsg,HD,HG,HX⟩:=hrel;by_cases hkn:k<n
  ·have hkn2:(k:Int)<(n:Int):=by omega
   go_wp2_with fail
   obtain⟨P,hP⟩:∃P,Mx.piv k X k=P:=⟨_,rfl⟩;have HP:=ae hP;have hPE:=ae hP
   go_loopw [8] (fun s wx=>∃p:Nat,k<=p/\p<=n/\s= .int .i64 ((p:Int))/\Hid (DI w wx gm L n gs cs X y last)/\Hid (Mx.piv k X p=P)/\Hid (∀q,k<=q->q<p->Mx.at' X q k=0)) (fun s _=>n-(intOf s).toNat)
   case atStart=>exact⟨k,af _,hk,rfl,HD.out,HP.out,fun q h1 h2=>by omega⟩
   case round=>
    clear HD hP HP;obtain⟨p,hkp,hpn,rfl,HD,HP,HQ⟩:=hrel;have hdl:=HD.out.lt;by_cases hp:p<n
    ·have hp2:(p:Int)<(n:Int):=by omega
     have hp3:decide ((p:Int)<(n:Int))=true:=by rw[cL];exact hp2
     have hmo:=HD.out.mb.mo aa;obtain⟨x,kx,x0,x1,xz,xl⟩:=hmo.elem (i:=p) (j:=k) (by rw[HD.out.len];exact hp) hkn;have hgl:=hmo.lt;have HXZ:=ae xz;obtain⟨xs,xa,xn,xc⟩:=x;simp only[]at x0 x1;clear xz hmo;by_cases hz:Mx.at' X p k=0
     ·have hd:decide (Mx.at' X p k=0)=true:=by rw[cL];exact hz
      have ZE:=ae (fun w hx=>hd▸fT ⟨xs,xa,xn,xc⟩ (Mx.at' X p k) w hx);have HZ:=ae hz;clear hz hd
      go_wp2_with ((go_at_call 95;(with_reducible refine(ZE.out _ ?_).mono ?_);(exact HXZ.out.below (B:=wr.heap.size) ao (af _));rintro e w1 ⟨rfl,hb1⟩;obtain⟨g1,rfl⟩:=mob hb1;clear hb1))
      go_roundw
      case rel=>exact⟨p+1,by omega,by omega,by go_num,HD.out.below ao,(Mx.O4 (by rw[HD.out.len];exact hp) HZ.out).symm.trans HP.out,fun q h1 h2=>if e:q=p then(by rw[e];exact HZ.out)else HQ.out q h1 aa⟩
      case measure=>simp[intOf];omega
     ·have hd:decide (Mx.at' X p k=0)=false:=by rw[bN];exact hz
      have ZE:=ae (fun w hx=>hd▸fT ⟨xs,xa,xn,xc⟩ (Mx.at' X p k) w hx);have HZ:=ae hz;have hpp:Mx.piv k X p=p:=Mx.O5 (by rw[HD.out.len];exact hp) hz;have hPp:P=p:=HP.out.symm.trans hpp;subst hPp;have h10:((P:Int)==(n:Int))=false:=by rw[beq_eq_false_iff_ne];omega
      clear hz hd hpp HP
      go_upto_region 10 with((go_at_call 95;(with_reducible refine(ZE.out _ ?_).mono ?_);(exact HXZ.out.below (B:=wr.heap.size) ao (af _));rintro e w1 ⟨rfl,hb1⟩;obtain⟨g1,rfl⟩:=mob hb1;clear hb1))
      have hkk:=(HD.out.mb.mo aa).hc k (by rw[HD.out.len];exact hkn);have kk:=hkk.1;have fk:=HD.out.mb.fr k;have fp:=HD.out.mb.fr P;have hrl:=HD.out.rlt.1;have HDx:Hid (DI w (more wr g1) gm L n gs cs X y last):=HD.out.below ao;clear hkk
      go_upto_if 42 with fail
      go_cut [6]from 18 to 119 (fun s wy=>s= .int .i64 (if P=k then sg else-sg)/\Hid (∃gs2 cs2,DI w wy gm L n gs2 cs2 (if P=k then X else Mx.swp X k P) y last))
      case first=>
       as_aux_lemma=>
        by_cases hpk:P=k
        ·subst hpk
         go_wp2_with fail
         go_meet
         case rel=>exact⟨by rw[ak trivial],gs,cs,by rw[ak trivial];exact HDx.out⟩
        ·have hpk2:((P:Int) !=(k:Int))=true:=by rw[bne_iff_ne];omega
         have hpk3:((P:Int)==(k:Int))=false:=by rw[beq_eq_false_iff_ne];omega
         have hpk4:¬P=k:=hpk;have hpk5:¬k=P:=fun e=>hpk e.symm;have HSW:=ae (HDx.out.swp hkn hp)
         go_upto_region 13 with fail
         go_region
         all_goals(go_wp2_with fail;go_meet)
         case rel=>
          have h9:=HSW.out;have e9:(((more wr g1).setCell ⟨gm,k,none⟩ (.slice (some ⟨gs P,0,none⟩) n (cs P))).setCell ⟨gm,P,none⟩ (.slice (some ⟨gs k,0,none⟩) n (cs k))).drew=more ((wr.setCell ⟨gm,k,none⟩ (.slice (some ⟨gs P,0,none⟩) n (cs P))).setCell ⟨gm,P,none⟩ (.slice (some ⟨gs k,0,none⟩) n (cs k))) (g1.1+1,g1.2):=by go_simp
          rw[e9]at h9;exact⟨by rw[ah hpk],_,_,by rw[ah hpk];exact h9⟩
      case rest=>
       obtain⟨rfl,HD2⟩:=hcut;have hswp:Mx.Bd (2^(Mx.bE e k)) (if P=k then X else Mx.swp X k P)/\Mx.Rc n (if P=k then X else Mx.swp X k P)/\Mx.at' (if P=k then X else Mx.swp X k P) k k=Mx.at' X P k:=by
        have hl:=HD.out.len;by_cases hpk:P=k
        ·rw[ak hpk,hpk];exact⟨HX.out.1,HX.out.2.1,rfl⟩
        ·rw[ah hpk];refine⟨Mx.ED HX.out.1 aa aa,Mx.lC HX.out.2.1 aa aa,?_⟩;rw[Mx.di aa aa,ah aa,ak rfl]
       have HGN:Hid (Mx.bGo (n-(k+1)) (k+1) (Mx.sy k last (if P=k then X else Mx.swp X k P)) (Mx.at' (if P=k then X else Mx.swp X k P) k k) (if P=k then sg else-sg)=Z):=by
        have h1:=HG.out;rw[show n-k=(n-(k+1))+1 by omega]at h1;unfold Mx.bGo at h1;rw[hPE.out,HD.out.len,ah aa]at h1;rw[hswp.2.2];exact h1
       have hsg2:(if P=k then sg else-sg)=1\/(if P=k then sg else-sg)= -1:=by split<;>omega
       have HX2:Hid (Mx.Bd (2^(Mx.bE e k)) (if P=k then X else Mx.swp X k P)/\Mx.Rc n (if P=k then X else Mx.swp X k P)):=⟨hswp.1,hswp.2.1⟩;have FL:Hid (Fit last):=HX.out.2.2;have HL2:Hid ((if P=k then X else Mx.swp X k P).length=n):=by
        have hl:=HD.out.len;show _=_;split
        ·exact hl
        ·rw[Mx.dK];exact hl
       clear HD HDx hPE HG HX HQ HZ hswp hp3 kx x0 x1 xl hgl HXZ kk fk fp hdl;generalize(if P=k then X else Mx.swp X k P)=X2 at*;generalize(if P=k then sg else-sg)=sg2 at*;obtain⟨gs2,cs2,hd2⟩:=HD2.out;have HD2:=ae hd2;clear hd2;have HB2:Hid (∀t,k+1+t<=n->Mx.Bd (2^(Mx.bE e (k+1))) (Mx.bK k last X2 t)):=fun t ht=>by
        have:=Mx.bK_bd (last:=last) (k:=k) (t:=t) HX2.out.2 HX2.out.1 (eH aa) (by rw[HL2.out];exact ht);rw[Mx.IC]at this;exact this
       have hE1:=HE.out (k+1) aa;have hdl:=HD2.out.lt
       go_wp2_with fail
       go_loopw [9] (fun s wx=>∃i:Nat,k+1<=i/\i<=n/\s= .int .i64 ((i:Int))/\Hid (DI w wx gm L n gs2 cs2 (Mx.bK k last X2 (i-(k+1))) y last)) (fun s _=>n-(intOf s).toNat)
       case atStart=>exact⟨k+1,af _,by omega,by go_num,by rw[dH];exact HD2.out⟩
       case round=>
        clear HD2 hdl;obtain⟨i,hki,hin,rfl,HD⟩:=hrel;by_cases hi:i<n
        ·have hi2:(i:Int)<(n:Int):=by omega
         have hit:k+1+(i-(k+1))=i:=by omega
         have hlt:k+1+(i-(k+1))<X2.length:=by rw[HL2.out];omega
         have HS0:Hid (bY k last X2 (i-(k+1)) (k+1)=Mx.bK k last X2 (i-(k+1))):=P6 HX2.out.2 hlt;have HSN:Hid (bY k last X2 (i-(k+1)) n=Mx.bK k last X2 (i+1-(k+1))):=by
          show _=_;rw[Vt HX2.out.2 hlt,show i+1-(k+1)=i-(k+1)+1 by omega]
         have HYK:=ae (fun j l=>bY_k (last:=last) hlt j l);have HYI:=ae (fun j l (hl:l<n) (h:j<=l\/l<=k)=>bY_i (last:=last) (j:=j) HX2.out.2 hlt hl h);have HYS:=ae (fun j (hj:k<j) (hjn:j<n)=>Uc (last:=last) HX2.out.2 hlt hj hjn);rw[hit]at HYI HYS;clear hlt hit
         go_wp2_with fail
         go_loopw [10] (fun s wx=>∃j:Nat,k+1<=j/\j<=n/\s= .int .i64 ((j:Int))/\Hid (DI w wx gm L n gs2 cs2 (bY k last X2 (i-(k+1)) j) y last)) (fun s _=>n-(intOf s).toNat)
         case atStart=>exact⟨k+1,af _,by omega,by go_num,by show DI _ _ _ _ _ _ _ _ _ _;rw[HS0.out];exact HD.out⟩
         case round=>
          clear HD HS0;obtain⟨j,hkj,hjn,rfl,HD⟩:=hrel;have hdl:=HD.out.lt;by_cases hj:j<n
          ·have hj2:(j:Int)<(n:Int):=by omega
           have hmo:=HD.out.mb.mo aa;have hln:=HD.out.len;have hrc:=hmo.rc;have e1:=HYK.out j k;have e2:=HYK.out j j;have e3:=HYI.out j j hj (.inl (af _));have e4:=HYI.out j k hkn (.inr (af _));have e5:=HYS.out j aa hj;generalize hYE:bY k last X2 (i-(k+1)) j=Y at*;obtain⟨p,kp,p0,p1,pz,pl⟩:=hmo.elem (i:=k) (j:=k) aa hkn;obtain⟨q,kq,q0,q1,qz,ql⟩:=hmo.elem (i:=i) (j:=j) aa hj;obtain⟨r,_,r0,r1,rz,rl⟩:=hmo.elem (i:=i) (j:=k) aa hkn;obtain⟨t,_,t0,t1,tz,tl⟩:=hmo.elem (i:=k) (j:=j) aa hj;rw[e1]at pz;rw[e3]at qz;rw[e4]at rz;rw[e2]at tz;have f0:=(hmo.hc i aa).2.2.2.2.at (k:=j) (getD_some (by rw[hrc.rw aa];exact hj));obtain⟨_,c9,d9,i9,f0,f1⟩:=f0;clear c9 d9 i9;have HP:=ae pz;have HQ:=ae qz;have HR:=ae rz;have HT:=ae tz;have hgl:=hmo.lt;have B1:=HX2.out.1 k k;have B2:=HX2.out.1 i j;have B3:=HX2.out.1 i k;have B4:=HX2.out.1 k j;have HE5:=ae e5;have l0:=HD.out.l0;have l1:=HD.out.l1;generalize Mx.at' X2 k k=Pz at*;generalize Mx.at' X2 i j=Qz at*;generalize Mx.at' X2 i k=Rz at*;generalize Mx.at' X2 k j=Tz at*;have m1:(Pz*Qz).natAbs<=2^(Mx.bE e k)*2^(Mx.bE e k):=by rw[en];exact cv B1 B2
           have m2:(Rz*Tz).natAbs<=2^(Mx.bE e k)*2^(Mx.bE e k):=by rw[en];exact cv B3 B4
           have hS:=Mx.IC e k;rw[cF]at hS;have hE0:=HE.out k hk;have FP:Hid (Fit Pz):=bL B1 hE0;have FQ:Hid (Fit Qz):=bL B2 hE0;have FR:Hid (Fit Rz):=bL B3 hE0;have FT:Hid (Fit Tz):=bL B4 hE0;have F1:Hid (Fit (Pz*Qz)):=bL (e:=Mx.bE e (k+1)) aa hE1;have F2:Hid (Fit (Rz*Tz)):=bL (e:=Mx.bE e (k+1)) aa hE1;have F3:Hid (Fit (Pz*Qz-Rz*Tz)):=bL (e:=Mx.bE e (k+1)) aa hE1;have hx1:gs2 i<wr.heap.size:=ql;clear e1 e2 e3 e4 e5 pz qz rz tz hrc hmo hln B1 B2 B3 B4 m1 m2 hS hE0 hYE;obtain⟨ps,pa,pn,pc⟩:=p;obtain⟨qs,qa,qn,qc⟩:=q;obtain⟨rs,ra,rn,rc⟩:=r;obtain⟨ts,ta,tn,tc⟩:=t;obtain⟨ys,ya,yn,yc⟩:=y;simp only[]at p0 p1 q0 q1 r0 r1 t0 t1 l0 l1
           go_wp2_with fail
           (apply Own3.dD 39 [Sum.inl _,Sum.inl _,Sum.inl _,Sum.inl _,Sum.inl _,Sum.inl _,Sum.inl _,Sum.inl _,Sum.inl _,Sum.inl _,Sum.inl _,Sum.inl _,Sum.inl _,Sum.inl _,Sum.inl _,Sum.inl _,Sum.inl _,Sum.inl _,Sum.inl _,Sum.inr (rIZ (Pz*Qz)),Sum.inl _,Sum.inl _,Sum.inl _,Sum.inl _,Sum.inl _,Sum.inl _,Sum.inl _,Sum.inl _,Sum.inl _,Sum.inl _,Sum.inl _,Sum.inl _,Sum.inl _,Sum.inl _,Sum.inr (rIZ (Rz*Tz)),Sum.inr (rIZ (Pz*Qz-Rz*Tz)),Sum.inl _,Sum.inr (rIZ ((Pz*Qz-Rz*Tz)/last)),Sum.inl _] ai ai;simp only[dJ,dv,eC,cY];refine zs1 ?_;refine zs1 ?_;refine zs1 ?_;refine zs1 ?_;refine zs1 ?_;refine zs1 ?_;refine zs1 ?_;refine zs1 ?_;refine zs1 ?_;refine zs1 ?_;refine zs1 ?_;refine zs1 ?_;refine zs1 ?_;refine zs1 ?_;refine zs1 ?_;refine zs1 ?_;refine zs1 ?_;refine zs1 ?_;refine zs1 ?_;(refine Own3.ea rfl (fun K hK=>?_) (fun x211=>?_);(focus(go_simp;clear hK K;intro w' hw' hcb';first|(go_at_call 117;(first|with_reducible exact cS (iA ⟨ps,pa,pn,pc⟩ ⟨qs,qa,qn,qc⟩ Pz Qz FP.out FQ.out _ ((HP.out.below (Ext.below hw') (af _)).ip) ((HQ.out.below (Ext.below hw') (af _)).ip))|exact cS (iA ⟨rs,ra,rn,rc⟩ ⟨ts,ta,tn,tc⟩ Rz Tz FR.out FT.out _ ((HR.out.below (Ext.below hw') (af _)).ip) ((HT.out.below (Ext.below hw') (af _)).ip))))|(go_at_call 159;(have h1:=hcb'.get (u:=19) iu;have h2:=hcb'.get (u:=34) iu;exact cS (nL x211 x212 (Pz*Qz) (Rz*Tz) F1.out F2.out _ (IZ.ip (show IZ w' x211 (Pz*Qz)from h1)) (IZ.ip (show IZ w' x212 (Rz*Tz)from h2)))))|(go_at_call 121;(have h1:=hcb'.get (u:=35) iu;exact cS (gX x213 ⟨ys,ya,yn,yc⟩ (Pz*Qz-Rz*Tz) last F3.out FL.out _ (IZ.ip (show IZ w' x213 (Pz*Qz-Rz*Tz)from h1)) ((HD.out.iz.below (Ext.below hw') (af _)).ip))))));simp only[rIZ,Act.put,gh,gC,dB]);refine zs1 ?_;refine zs1 ?_;refine zs1 ?_;refine zs1 ?_;refine zs1 ?_;refine zs1 ?_;refine zs1 ?_;refine zs1 ?_;refine zs1 ?_;refine zs1 ?_;refine zs1 ?_;refine zs1 ?_;refine zs1 ?_;refine zs1 ?_;(refine Own3.ea rfl (fun K hK=>?_) (fun x212=>?_);(focus(go_simp;clear hK K;intro w' hw' hcb';first|(go_at_call 117;(first|with_reducible exact cS (iA ⟨ps,pa,pn,pc⟩ ⟨qs,qa,qn,qc⟩ Pz Qz FP.out FQ.out _ ((HP.out.below (Ext.below hw') (af _)).ip) ((HQ.out.below (Ext.below hw') (af _)).ip))|exact cS (iA ⟨rs,ra,rn,rc⟩ ⟨ts,ta,tn,tc⟩ Rz Tz FR.out FT.out _ ((HR.out.below (Ext.below hw') (af _)).ip) ((HT.out.below (Ext.below hw') (af _)).ip))))|(go_at_call 159;(have h1:=hcb'.get (u:=19) iu;have h2:=hcb'.get (u:=34) iu;exact cS (nL x211 x212 (Pz*Qz) (Rz*Tz) F1.out F2.out _ (IZ.ip (show IZ w' x211 (Pz*Qz)from h1)) (IZ.ip (show IZ w' x212 (Rz*Tz)from h2)))))|(go_at_call 121;(have h1:=hcb'.get (u:=35) iu;exact cS (gX x213 ⟨ys,ya,yn,yc⟩ (Pz*Qz-Rz*Tz) last F3.out FL.out _ (IZ.ip (show IZ w' x213 (Pz*Qz-Rz*Tz)from h1)) ((HD.out.iz.below (Ext.below hw') (af _)).ip))))));simp only[Act.put,gh,gC,dB]);(refine Own3.ea rfl (fun K hK=>?_) (fun x213=>?_);(focus(go_simp;clear hK K;intro w' hw' hcb';first|(go_at_call 117;(first|with_reducible exact cS (iA ⟨ps,pa,pn,pc⟩ ⟨qs,qa,qn,qc⟩ Pz Qz FP.out FQ.out _ ((HP.out.below (Ext.below hw') (af _)).ip) ((HQ.out.below (Ext.below hw') (af _)).ip))|exact cS (iA ⟨rs,ra,rn,rc⟩ ⟨ts,ta,tn,tc⟩ Rz Tz FR.out FT.out _ ((HR.out.below (Ext.below hw') (af _)).ip) ((HT.out.below (Ext.below hw') (af _)).ip))))|(go_at_call 159;(have h1:=hcb'.get (u:=19) iu;have h2:=hcb'.get (u:=34) iu;exact cS (nL x211 x212 (Pz*Qz) (Rz*Tz) F1.out F2.out _ (IZ.ip (show IZ w' x211 (Pz*Qz)from h1)) (IZ.ip (show IZ w' x212 (Rz*Tz)from h2)))))|(go_at_call 121;(have h1:=hcb'.get (u:=35) iu;exact cS (gX x213 ⟨ys,ya,yn,yc⟩ (Pz*Qz-Rz*Tz) last F3.out FL.out _ (IZ.ip (show IZ w' x213 (Pz*Qz-Rz*Tz)from h1)) ((HD.out.iz.below (Ext.below hw') (af _)).ip))))));simp only[Act.put,gh,gC,dB]);refine zs1 ?_;(refine Own3.ea rfl (fun K hK=>?_) (fun x214=>?_);(focus(go_simp;clear hK K;intro w' hw' hcb';first|(go_at_call 117;(first|with_reducible exact cS (iA ⟨ps,pa,pn,pc⟩ ⟨qs,qa,qn,qc⟩ Pz Qz FP.out FQ.out _ ((HP.out.below (Ext.below hw') (af _)).ip) ((HQ.out.below (Ext.below hw') (af _)).ip))|exact cS (iA ⟨rs,ra,rn,rc⟩ ⟨ts,ta,tn,tc⟩ Rz Tz FR.out FT.out _ ((HR.out.below (Ext.below hw') (af _)).ip) ((HT.out.below (Ext.below hw') (af _)).ip))))|(go_at_call 159;(have h1:=hcb'.get (u:=19) iu;have h2:=hcb'.get (u:=34) iu;exact cS (nL x211 x212 (Pz*Qz) (Rz*Tz) F1.out F2.out _ (IZ.ip (show IZ w' x211 (Pz*Qz)from h1)) (IZ.ip (show IZ w' x212 (Rz*Tz)from h2)))))|(go_at_call 121;(have h1:=hcb'.get (u:=35) iu;exact cS (gX x213 ⟨ys,ya,yn,yc⟩ (Pz*Qz-Rz*Tz) last F3.out FL.out _ (IZ.ip (show IZ w' x213 (Pz*Qz-Rz*Tz)from h1)) ((HD.out.iz.below (Ext.below hw') (af _)).ip))))));simp only[Act.put,gh,gC,dB]);refine zs1 ?_;refine Own3.jE ?_;intro w21 hw21;have hB21:=hw21.1;have HY211:Hid (IZ w21 x211 (Pz*Qz)):=ae (hw21.get (u:=19) (Or.inr (Or.inr (Or.inr (Or.inl ⟨rfl,rfl⟩)))));have HY212:Hid (IZ w21 x212 (Rz*Tz)):=ae (hw21.get (u:=34) (Or.inr (Or.inr (Or.inl ⟨rfl,rfl⟩))));have HY213:Hid (IZ w21 x213 (Pz*Qz-Rz*Tz)):=ae (hw21.get (u:=35) (Or.inr (Or.inl ⟨rfl,rfl⟩)));have HY214:Hid (IZ w21 x214 ((Pz*Qz-Rz*Tz)/last)):=ae (hw21.get (u:=37) (Or.inl ⟨rfl,rfl⟩));clear hw21;obtain⟨g21,rfl⟩:=mob hB21;clear hB21)
           clear HY211 HY212 HY213
           go_wp2_with fail
           go_roundw
           case rel=>
            have h1:=(HD.out.below (wx:=more wr g21) ao).row hi hj HY214.out;have e5:dY (more wr g21) (gs2 i) j x214=more (dY wr (gs2 i) j x214) g21:=by unfold dY;go_simp
            rw[e5,HE5.out]at h1;exact⟨j+1,by omega,by omega,by go_num,h1⟩
           case measure=>simp[intOf];omega
          ·obtain rfl:j=n:=by omega
           have hj2:¬(j:Int)<(j:Int):=by omega
           go_wp2_with fail
           go_roundw
           case rel=>exact⟨i+1,by omega,by omega,by go_num,by show DI _ _ _ _ _ _ _ _ _ _;rw[<-HSN.out];exact HD.out⟩
           case measure=>simp[intOf];omega
        ·obtain rfl:i=n:=by omega
         have hi2:¬(i:Int)<(i:Int):=by omega
         have hdl:=HD.out.lt;have hmo:=HD.out.mb.mo aa;obtain⟨x,kx,x0,x1,xz,xl⟩:=hmo.elem (i:=k) (j:=k) (by rw[HD.out.len];exact hkn) hkn;have hgl:=hmo.lt;have ekk:Mx.at' (Mx.bK k last X2 (i-(k+1))) k k=Mx.at' X2 k k:=by
          unfold Mx.at';rw[Mx.xI k last X2 _ (by rw[HL2.out];omega),ah aa]
         rw[ekk]at xz;have l0:=HD.out.l0;have l1:=HD.out.l1;have lf0:=HD.out.lf 0;have lf1:=HD.out.lf 1;have HN:=ae (HD.out.last xz);clear hmo xz ekk
         go_wp2_with fail
         go_roundw
         case rel=>
          refine⟨k+1,sg2,gs2,cs2,_,x,_,by omega,by go_num,rfl,hsg2,HN.out,?_,?_⟩
          ·have h1:=HGN.out;unfold Mx.sy at h1;rw[HL2.out]at h1;exact h1
          ·exact⟨HB2.out _ aa,Mx.La HX2.out.2 _ (by rw[HL2.out];omega),bL (HX2.out.1 k k) (HE.out k hk)⟩
         case measure=>simp[intOf];omega
    ·obtain rfl:p=n:=by omega
     have hp2:¬(p:Int)<(p:Int):=by omega
     have hp3:decide ((p:Int)<(p:Int))=false:=by rw[bN];exact hp2
     have hP2:P=p:=HP.out.symm.trans (Mx.Td (by rw[HD.out.len];exact af _));have r0:=HD.out.r0;have r1:=HD.out.r1;have rf0:=HD.out.rf 0;have rf1:=HD.out.rf 1;have hr:=HD.out.rlt.2;have HZ0:Hid (Z=0):=by
      have h1:=HG.out;rw[show p-k=(p-(k+1))+1 by omega]at h1;unfold Mx.bGo at h1;rw[hPE.out,hP2,HD.out.len,ak rfl]at h1;exact h1.symm
     have hbl:=HD.out.bl
     go_wp2_with fail
     have t0:((wr.setCell ⟨w.heap.size,0,none⟩ (.bool false)).setCell ⟨w.heap.size,1,none⟩ (.slice none 0 0)).cell? ⟨w.heap.size,0,none⟩=some (.bool false):=by go_simp
     have t1:((wr.setCell ⟨w.heap.size,0,none⟩ (.bool false)).setCell ⟨w.heap.size,1,none⟩ (.slice none 0 0)).cell? ⟨w.heap.size,1,none⟩=some (.slice none 0 0):=by go_simp
     refine bodyPost_ret (v:=.agg #[.bool false,.slice none 0 0]) zb76 rfl ⟨⟨⟨false,none,0,0⟩,rfl,?_⟩,?_⟩
     ·rw[HZ0.out];exact IZ.zero _
     ·exact bel
  ·obtain rfl:k=n:=by omega
   have hkn2:¬(k:Int)<(k:Int):=by omega
   have r0:=HD.out.r0;have r1:=HD.out.r1;have rf0:=HD.out.rf 0;have rf1:=HD.out.rf 1;have l0:=HD.out.l0;have l1:=HD.out.l1;have hr:=HD.out.rlt.2;have hdl:=HD.out.lt;have hbl:=HD.out.bl;have hne:w.heap.size<L:=by have:=HD.out.rlt.1;have:=HD.out.gl;omega
   have hnw:=NW.bool HD.out.r0;have hzz:sg*last=Z:=by
    have h1:=HG.out;rw[dH]at h1;exact h1
   have HZZ:=ae hzz;have HIZ:=ae HD.out.iz;have HFL:=ae HX.out.2.2;obtain⟨ys,ya,yn,yc⟩:=y;simp only[]at l0 l1;clear hzz HD HG HX;rcases hsg with rfl|rfl
   ·have k2:Chg w.heap.size wr (dY wr w.heap.size 0 ⟨ys,ya,yn,yc⟩):=lX (Chg.refl _ _) 0 _;have hz2:=HIZ.out.chg k2 hnw;unfold dY at hz2
    go_wp2_with fail
    have t0:((wr.setCell ⟨w.heap.size,0,none⟩ (.bool ys)).setCell ⟨w.heap.size,1,none⟩ (.slice ya yn yc)).cell? ⟨w.heap.size,0,none⟩=some (.bool ys):=by go_simp
    have t1:((wr.setCell ⟨w.heap.size,0,none⟩ (.bool ys)).setCell ⟨w.heap.size,1,none⟩ (.slice ya yn yc)).cell? ⟨w.heap.size,1,none⟩=some (.slice ya yn yc):=by go_simp
    refine bodyPost_ret (v:=.agg #[.bool ((⟨ys,ya,yn,yc⟩:IV)).s,.slice ((⟨ys,ya,yn,yc⟩:IV)).a ((⟨ys,ya,yn,yc⟩:IV)).n ((⟨ys,ya,yn,yc⟩:IV)).cap]) zb76 rfl ⟨⟨⟨ys,ya,yn,yc⟩,rfl,?_⟩,?_⟩
    ·rw[<-HZZ.out,cW];exact hz2
    ·exact bel
   ·have NG:=ae (fun w hx=>jB ⟨ys,ya,yn,yc⟩ last HFL.out w hx)
    go_wp2_with (go_at_call 102;((with_reducible refine(NG.out _ (HIZ.out.below (B:=wr.heap.size) ao (af _)).ip).mono ?_);rintro e w6 ⟨⟨x,rfl,hx⟩,hb6⟩;have HX6:=ae hx;obtain⟨g6,rfl⟩:=mob hb6;clear hb6 hx))
    have k2:Chg w.heap.size (more wr g6) (dY (more wr g6) w.heap.size 0 x):=lX (Chg.refl _ _) 0 _;have hz2:=HX6.out.chg k2 (hnw.below (B:=wr.heap.size) (w':=more wr g6) ao (af _) hr);have e5:dY (more wr g6) w.heap.size 0 x=more (dY wr w.heap.size 0 x) g6:=by unfold dY;go_simp
    rw[e5]at hz2;unfold dY at hz2;have t0:(more ((wr.setCell ⟨w.heap.size,0,none⟩ (.bool x.s)).setCell ⟨w.heap.size,1,none⟩ (.slice x.a x.n x.cap)) g6).cell? ⟨w.heap.size,0,none⟩=some (.bool x.s):=by go_simp
    have t1:(more ((wr.setCell ⟨w.heap.size,0,none⟩ (.bool x.s)).setCell ⟨w.heap.size,1,none⟩ (.slice x.a x.n x.cap)) g6).cell? ⟨w.heap.size,1,none⟩=some (.slice x.a x.n x.cap):=by go_simp
    refine bodyPost_ret (v:=.agg #[.bool x.s,.slice x.a x.n x.cap]) zb76 rfl ⟨⟨x,rfl,?_⟩,?_⟩
    ·rw[<-HZZ.out,show(-1:Int)*last= -last by omega];exact hz2
    ·exact bel
end
section
open Go.RowKit
namespace DW
theorem Ug{X:Nat->Prop}{w:World}{M:Mx.Mat}{v:Value}{n:Nat}(h:AR X w (dW M) v)(hr:Mx.Rc n M)(hn:0<n\/M=[]):MR w v n M:=by
 by_cases h0:0<n
 ·exact qK h hr h0
 ·have hM:=hn.resolve_left h0;subst hM;simp only[dW,AR]at h;obtain⟨a,c,rfl,h2,_⟩:=h;exact⟨a,c,rfl,h2,hr,.inl rfl⟩
theorem zx(M:Mx.Mat)(n e:Nat)(hl:M.length=n)(hR:Mx.Rc n M)(hn:n<=1000)(he:2^n*(e+1)<=6000000000000)(hb:Mx.Bd (2^e) M):Fn Tryz.prog 96 [dW M] (.nm (Mx.D n (Mx.at' M))):=by
 refine⟨enters_of Tryz.func96 ai rfl,fun X w vs hX hv=>?_⟩;simp only[ATp]at hv;obtain⟨v1,r1,e1,h1,rfl⟩:=hv;have:vs= #[v1]:=cQ.1 e1;subst this;rw[<-Mx.Vu hl hR];refine(TY M n e v1 hl hn he hb w (Ug h1 hR ?_)).mono fun e w' ⟨⟨z,h3,h4⟩,h5⟩=>⟨_,h3,by simp only[AR];exact⟨z,rfl,h4⟩,h5⟩;by_cases h0:n=0
 ·exact .inr (fN aa)
 ·exact .inl aa
set_option maxRecDepth 20000
set_option maxHeartbeats 2000000
end DW
end
section
open Go.RowKit
namespace DW
abbrev Kx:D:=.sc (.slice none 0 0)
def adL(M:Mx.Mat)(i:Nat):List D:=((Mx.adM M).take i).map dZ++List.replicate (M.length-i) Kx
theorem Up(M:Mx.Mat){i:Nat}(h:i<=M.length):(adL M i).length=M.length:=by
 have:=Mx.mE M;unfold adL;rw[cI,bC,aP,qY];omega
theorem Vw(M:Mx.Mat)(i J:Nat):D.own J∉adL M i:=fun h=>by
 unfold adL at h;rcases eY.1 h with h|h
 ·obtain⟨r,_,e⟩:=dw.1 h;cases e
 ·have:=(J8.1 h).2;cases this
theorem P8(M:Mx.Mat):∀d∈(Mx.adM M).map dZ,d.fits=true:=fun d hd=>by
 obtain⟨r,_,rfl⟩:=dw.1 hd;rfl
theorem Uo(M:Mx.Mat){i:Nat}(h:i<M.length)(d:D):((adL M i).set i d).set i (dZ (adR M i))=adL M (i+1):=by
 have hl:=Mx.mE M;have hsn:=bq (II M h);have e:(((Mx.adM M).take i).map dZ).length=i:=by rw[bC,aP];omega
 rw[List.set_set];unfold adL;rw[Eh _ _ aa,e,dH,hsn,db,gW];congr 1;rw[show M.length-i=(M.length-(i+1))+1 by omega,Dc,dB];rfl
def adP(M:Mx.Mat)(i k:Nat):List D:=((adR M i).take k).map .nm++List.replicate (M.length-k) (.nm 0)
theorem Um(M:Mx.Mat)(i:Nat){k:Nat}(h:k<=M.length):(adP M i k).length=M.length:=by
 have:=xM M i;unfold adP;rw[cI,bC,aP,qY];omega
theorem Ul(M:Mx.Mat)(i:Nat){k:Nat}{y:Int}(h:k<M.length)(hy:Mx.ad (M.length-1) (Mx.at' M) i k=y):(adP M i k).set k (.nm y)=adP M i (k+1):=by
 have hl:=xM M i;have hsn:=bq (IJ M i h);rw[hy]at hsn;have e:(((adR M i).take k).map D.nm).length=k:=by rw[bC,aP];omega
 unfold adP;rw[Eh _ _ aa,e,dH,hsn,db,gW];congr 1;rw[show M.length-k=(M.length-(k+1))+1 by omega,Dc,dB];rfl
theorem Un(M:Mx.Mat)(i:Nat):adP M i M.length=(adR M i).map .nm:=by
 unfold adP;rw[cj (by rw[xM];omega),dH,List.replicate_zero,lz]
theorem LD(z:Int)(fz:Fit z):Fn Tryz.prog 102 [.nm z] (.nm (-z)):=by
 refine⟨enters_of Tryz.func102 ai rfl,fun X w vs hX hv=>?_⟩;simp only[ATp,AR]at hv;obtain⟨v1,r1,e1,⟨x,rfl,hx⟩,rfl⟩:=hv;have:vs= #[.agg #[.bool x.s,.slice x.a x.n x.cap]]:=cQ.1 e1;subst this;exact(jB x z fz w hx.ip).mono fun e w' ⟨⟨y,h2,h3⟩,h4⟩=>⟨_,h2,by simp only[AR];exact⟨y,rfl,h3⟩,h4⟩
theorem Sn(z:Int)(fz:Fit z):Fn Tryz.prog 101 [.nm z] (zI (sgn z)):=by
 refine⟨enters_of Tryz.func101 ai rfl,fun X w vs hX hv=>?_⟩;simp only[ATp,AR]at hv;obtain⟨v1,r1,e1,⟨x,rfl,hx⟩,rfl⟩:=hv;have:vs= #[.agg #[.bool x.s,.slice x.a x.n x.cap]]:=cQ.1 e1;subst this;exact(rj x z fz w hx.ip).mono fun e w' ⟨h2,h4⟩=>⟨_,h2,BW _,h4⟩
set_option maxRecDepth 20000
set_option maxHeartbeats 4000000
theorem UI(M:Mx.Mat)(n e:Nat)(hl:M.length=n+1)(hR:Mx.Rc (n+1) M)(hb:Mx.Bd (2^e) M)(hn:n<=900)(he:2^n*(e+1)<=6000000000000)(he2:(e+n)*n+e<=3000000000):Fn Tryz.prog 99 [dW M] (dW (Mx.adM M)):=by
 refine ba Tryz.func99 ai rfl rfl rfl fun X0=>?_;simp only[aO];refine kd ?_;refine jv ?_;refine cT ?_;refine cn ?_;(refine AF (k:=14) (T:=Tryz.prog.elem 104) (zv:=(.slice none 0 0)) (d0:=(.sc (.slice none 0 0))) (wd:=1) rfl rfl rfl rfl cD cD ai ai aj aj aj aj aj aa J1 aj cu ?_);refine cT ?_;refine cn ?_;refine JK ?_;refine ig ?_
 (refine ay (aq (sl':=[(0,dW M),(3,zI (M.length:Nat)),(4,.own 14),(15,zI (M.length:Nat)),(16,zI 0)]) (ow':=[(14,⟨147,1,List.replicate M.length Kx⟩)]) az aD) ?_)
 refine ay (Sf (a:=14) (b:=2000000) (q:=⟨147,1,List.replicate M.length Kx⟩) (ow':=[(2000000,⟨147,1,List.replicate M.length Kx⟩)]) bF rfl (.inr ⟨rfl,rfl,fun d hd=>by rw[(J8.1 hd).2];rfl⟩) (fun p hp=>by rw[bU.1 hp];exact⟨by simp,fun h=>by cases h⟩) rfl (fun p hp=>.inl (bU.1 hp))) ?_;refine ay (aq (sl':=[(0,dW M),(3,zI (M.length:Nat)),(4,.own 2000000),(15,zI (M.length:Nat)),(16,zI 0)]) (ow':=[(2000000,⟨147,1,adL M 0⟩)]) az (fun p hp=>by simpa[adL]using hp)) ?_;refine bc (fun r s=>∃i,i<=M.length/\r=M.length-i/\s=⟨[(0,dW M),(3,zI (M.length:Nat)),(4,.own 2000000),(15,zI (M.length:Nat)),(16,zI (i:Nat))],[(2000000,⟨147,1,adL M i⟩)]⟩) (m:=M.length) ⟨0,aQ _,rfl,rfl⟩ fun r s hs=>?_;obtain⟨i,hi,rfl,rfl⟩:=hs;by_cases him:i<M.length
 ·have hLl:=Up M hi;have hLn:=Vw M i;have hset:=Uo M him (.own 1000000);obtain⟨L0,hL0⟩:∃L0,L0=adL M i:=⟨_,rfl⟩;rw[<-hL0]at hLl hLn hset;rw[<-hL0];clear hL0;have hil:i<L0.length:=by omega
  refine mF ?_;refine bw ?_;refine kb ?_;(refine gar ?_;refine zs4 ?_;refine zs4 ?_;refine zs4 ?_;(refine AF (k:=22) (T:=Tryz.prog.elem 147) (zv:=(.agg #[.bool false,.slice none 0 0])) (d0:=(.nm 0)) (wd:=2) rfl rfl rfl rfl cD cD ai ai aj aj aj aj aj aa J1 aj cu ?_);refine Le (Uy rfl hLn rfl) ?_;refine Le (aq (sl':=[(0,dW M),(3,zI (M.length:Nat)),(4,.own 2000000),(5,zI (i:Nat)),(15,zI (M.length:Nat)),(16,zI (i:Nat)),(19,.own 2000000),(20,zI (i:Nat)),(22,.own 1000000)]) (ow':=[(1000000,⟨62,2,List.replicate M.length (.nm 0)⟩),(2000000,⟨147,1,L0⟩)]) az aD) ?_;refine I7 ?_;(refine Qc (i:=i) rfl rfl rfl cD cD bf bf aj aj aj JV ai qf ?_);refine aX ?_);refine zs2 ?_;refine cn ?_;refine JK ?_;refine ig ?_;have hLi:(L0.set i (.own 1000000))[i]?=some (.own 1000000):=lO hil;have hLJ:∀k,k≠i->(L0.set i (.own 1000000))[k]?≠some (D.own 1000000):=fun k hk h=>by
   rw[oC (Ne.symm hk)]at h;exact hLn _ (bj h)
  have hLl2:(L0.set i (.own 1000000)).length=M.length:=by rw[ed];exact hLl
  obtain⟨L,hL⟩:∃L,L=L0.set i (.own 1000000):=⟨_,rfl⟩;rw[<-hL]at hset hLi hLJ hLl2;rw[<-hL];clear hL hLl hLn hil;refine ay (aq (sl':=[(0,dW M),(3,zI (M.length:Nat)),(4,.own 2000000),(5,zI (i:Nat)),(15,zI (M.length:Nat)),(16,zI (i:Nat)),(24,zI (M.length:Nat)),(25,zI 0)]) (ow':=[(1000000,⟨62,2,adP M i 0⟩),(2000000,⟨147,1,L⟩)]) az (fun p hp=>by simpa[adP]using hp)) ?_;refine bc (fun r s=>∃k,k<=M.length/\r=M.length-k/\s=⟨[(0,dW M),(3,zI (M.length:Nat)),(4,.own 2000000),(5,zI (i:Nat)),(15,zI (M.length:Nat)),(16,zI (i:Nat)),(24,zI (M.length:Nat)),(25,zI (k:Nat))],[(1000000,⟨62,2,adP M i k⟩),(2000000,⟨147,1,L⟩)]⟩) (m:=M.length) ⟨0,aQ _,rfl,rfl⟩ fun r s hs=>?_;obtain⟨k,hk,rfl,rfl⟩:=hs;by_cases hkm:k<M.length
  ·have hq:=H5 (r:=k) (c:=i) hl hR aa aa;have DE:=zx (mnr M k i) n e hq.1 hq.2 aa he (tj hb);have hdb:=qP (e:=e) n (Mx.at' (mnr M k i)) fun a b _ _=>tj hb a b;have had:=GB hl i k;have hPl:=Um M i hk;have hPs:=fun y=>Ul (y:=y) M i hkm;obtain⟨V,hV⟩:∃V,V=adP M i k:=⟨_,rfl⟩;rw[<-hV]at hPl;simp only[<-hV]at hPs;rw[<-hV];clear hV;generalize Mx.D n (Mx.at' (mnr M k i))=x at*;generalize Mx.ad (M.length-1) (Mx.at' M) i k=y at*;have NG:=LD x (bL hdb aa);clear hdb hq;refine mF ?_;refine bw ?_;refine tK ?_;refine kd ?_;refine Jm ?_;refine zs2 ?_;refine ay (da (t:=7) (k:=7) (T:=147) (wd:=1) fq rfl rfl cu) ?_
   (refine ay (aq (sl':=[(0,dW M),(3,zI (M.length:Nat)),(4,.own 2000000),(5,zI (i:Nat)),(6,zI (k:Nat)),(7,.own 7),(15,zI (M.length:Nat)),(16,zI (i:Nat)),(24,zI (M.length:Nat)),(25,zI (k:Nat)),(28,dW M),(29,zI (M.length:Nat)),(30,zI 0)]) (ow':=[(7,⟨147,1,[]⟩),(1000000,⟨62,2,V⟩),(2000000,⟨147,1,L⟩)]) az aD) ?_)
   refine bc (fun q s=>∃r,r<=M.length/\q=M.length-r/\s=⟨[(0,dW M),(3,zI (M.length:Nat)),(4,.own 2000000),(5,zI (i:Nat)),(6,zI (k:Nat)),(7,.own 7),(15,zI (M.length:Nat)),(16,zI (i:Nat)),(24,zI (M.length:Nat)),(25,zI (k:Nat)),(28,dW M),(29,zI (M.length:Nat)),(30,zI (r:Nat))],[(7,⟨147,1,(mnr (M.take r) k i).map dZ⟩),(1000000,⟨62,2,V⟩),(2000000,⟨147,1,L⟩)]⟩) (m:=M.length) ⟨0,aQ _,rfl,by unfold mnr;simp⟩ fun q s hs=>?_;obtain⟨r,hr,rfl,rfl⟩:=hs;by_cases hrm:r<M.length
   ·obtain⟨row,hrow⟩:=get_some hrm;have hrl:=hR row (bj hrow);have hsn:=Fm (M.take r) row k i;rw[<-bq hrow,aP,dp aa]at hsn;have hfl:=H7 (M.take r) k i;rw[aP,dp aa]at hfl;obtain⟨F,hF⟩:∃F,F=mnr (M.take r) k i:=⟨_,rfl⟩;rw[<-hF]at hsn hfl;rw[<-hF];clear hF;by_cases hrk:r=k
    ·rw[ak hrk]at hsn;refine mF ?_;refine bw ?_;refine Qs ?_;refine zs2 ?_;refine CS ?_;refine bp ?_;refine tJ ?_;refine zs2 ?_;simp only[nx,inB];exact⟨M.length-(r+1),_,by omega,(aq (sl':=[(0,dW M),(3,zI (M.length:Nat)),(4,.own 2000000),(5,zI (i:Nat)),(6,zI (k:Nat)),(7,.own 7),(15,zI (M.length:Nat)),(16,zI (i:Nat)),(24,zI (M.length:Nat)),(25,zI (k:Nat)),(28,dW M),(29,zI (M.length:Nat)),(30,zI ((r+1:Nat):Int))]) (ow':=[(7,⟨147,1,F.map dZ⟩),(1000000,⟨62,2,V⟩),(2000000,⟨147,1,L⟩)]) az aD),r+1,by omega,rfl,by rw[hsn]⟩
    ·rw[ah hrk]at hsn;have CC:Fn Tryz.prog 144 [.ls 1 [.ls 2 ((row.map D.nm).take i),.ls 2 ((row.map D.nm).drop (i+1))]] (dZ (row.eraseIdx i)):=by
      have h:=P4 [row.take i,row.drop (i+1)] aK (by simp only[kK,aP,eM];omega);have e1:[row.take i,row.drop (i+1)].flatten=row.eraseIdx i:=by
       rw[List.eraseIdx_eq_take_drop_succ];simp
      rw[e1]at h;simp only[eL,jb,dZ,List.map_take,List.map_drop]at h;exact h
     have hml:(row.map D.nm).length=n+1:=by rw[bC];exact hrl
     refine mF ?_;refine bw ?_;refine Qs ?_;refine zs2 ?_;refine CS ?_;refine bw ?_;refine Du ?_;refine eV ?_;refine eV ?_;refine eV ?_;(first|refine eJ rfl rfl rfl aj zb23 aj aj ?_|((try refine aY ?_);refine aL1 rfl rfl rfl zb23 ?_));refine eV ?_;refine eV ?_;(first|refine eJ rfl rfl rfl aj zb26 aj aj ?_|((try refine aY ?_);refine aL1 rfl rfl rfl zb26 ?_));(first|refine eJ rfl rfl rfl aj zb22 aj aj ?_|((try refine aY ?_);refine aL1 rfl rfl rfl zb22 ?_));(first|refine eJ rfl rfl rfl aj zb9 aj aj ?_|((try refine aY ?_);refine aL1 rfl rfl rfl zb9 ?_));refine sd ?_;refine zs94 ?_;refine Rh ?_;refine tI ?_;refine jg ?_;refine zs2 ?_;refine tJ ?_;refine zs2 ?_;simp only[nx,inB];exact⟨M.length-(r+1),_,by omega,(aq (sl':=[(0,dW M),(3,zI (M.length:Nat)),(4,.own 2000000),(5,zI (i:Nat)),(6,zI (k:Nat)),(7,.own 7),(15,zI (M.length:Nat)),(16,zI (i:Nat)),(24,zI (M.length:Nat)),(25,zI (k:Nat)),(28,dW M),(29,zI (M.length:Nat)),(30,zI ((r+1:Nat):Int))]) (ow':=[(7,⟨147,1,F.map dZ++[dZ (row.eraseIdx i)]⟩),(1000000,⟨62,2,V⟩),(2000000,⟨147,1,L⟩)]) az aD),r+1,by omega,rfl,by rw[hsn,db];rfl⟩
   ·obtain rfl:r=M.length:=by omega
    rw[et];refine mF ?_;refine bp ?_;refine ay (aA (k:=7) bf bA bz) ?_;refine Qr ?_;refine zs2 ?_
    (refine ay (aq (sl':=[(0,dW M),(3,zI (M.length:Nat)),(4,.own 2000000),(5,zI (i:Nat)),(6,zI (k:Nat)),(10,.opt 10 0),(15,zI (M.length:Nat)),(16,zI (i:Nat)),(24,zI (M.length:Nat)),(25,zI (k:Nat))]) (ow':=[(10,⟨62,2,[.nm x]⟩),(1000000,⟨62,2,V⟩),(2000000,⟨147,1,L⟩)]) az aD) ?_)
    by_cases hp:(i+k)%2=1
    ·rw[ak hp]at had;have hpi:((i:Int)+(k:Int))%2=1:=by omega
     subst had;have hPs:=hPs (-x) rfl;refine zs2 ?_;refine CR ?_;refine bw ?_;refine wJ ?_;refine zs2 ?_;refine Qq ?_;refine zs2 ?_;rw[hPs];refine zs2 ?_;refine tJ ?_;refine zs2 ?_;simp only[nx,inB];exact⟨M.length-(k+1),_,by omega,(aq (sl':=[(0,dW M),(3,zI (M.length:Nat)),(4,.own 2000000),(5,zI (i:Nat)),(15,zI (M.length:Nat)),(16,zI (i:Nat)),(24,zI (M.length:Nat)),(25,zI ((k+1:Nat):Int))]) (ow':=[(1000000,⟨62,2,adP M i (k+1)⟩),(2000000,⟨147,1,L⟩)]) az aD),k+1,by omega,rfl,rfl⟩
    ·rw[ah hp]at had;have hpi:¬((i:Int)+(k:Int))%2=1:=by omega
     subst had;have hPs:=hPs y rfl;refine zs2 ?_;refine CR ?_;refine bp ?_;refine Qq ?_;refine zs2 ?_;rw[hPs];refine zs2 ?_;refine tJ ?_;refine zs2 ?_;simp only[nx,inB];exact⟨M.length-(k+1),_,by omega,(aq (sl':=[(0,dW M),(3,zI (M.length:Nat)),(4,.own 2000000),(5,zI (i:Nat)),(15,zI (M.length:Nat)),(16,zI (i:Nat)),(24,zI (M.length:Nat)),(25,zI ((k+1:Nat):Int))]) (ow':=[(1000000,⟨62,2,adP M i (k+1)⟩),(2000000,⟨147,1,L⟩)]) az aD),k+1,by omega,rfl,rfl⟩
  ·obtain rfl:k=M.length:=by omega
   rw[Un];refine mF ?_;refine bp ?_
   (refine ay (aq (sl':=[(0,dW M),(3,zI (M.length:Nat)),(4,.own 2000000),(15,zI (M.length:Nat)),(16,zI (i:Nat))]) (ow':=[(1000000,⟨62,2,(adR M i).map .nm⟩),(2000000,⟨147,1,L⟩)]) az aD) ?_)
   refine ay (Uz (i:=i) aa hLi hLJ rfl hset) ?_;refine tJ ?_;simp only[nx,inB];exact⟨M.length-(i+1),_,by omega,(aq (sl':=[(0,dW M),(3,zI (M.length:Nat)),(4,.own 2000000),(15,zI (M.length:Nat)),(16,zI ((i+1:Nat):Int))]) (ow':=[(2000000,⟨147,1,adL M (i+1)⟩)]) az aD),i+1,by omega,rfl,rfl⟩
 ·obtain rfl:i=M.length:=by omega
  have hfin:adL M M.length=(Mx.adM M).map dZ:=by
   unfold adL;rw[cj (by rw[Mx.mE];omega),dH,List.replicate_zero,lz]
  rw[hfin];refine mF ?_;refine bp ?_;refine ay (aq (sl':=[(4,.own 2000000)]) (ow':=[(2000000,⟨147,1,(Mx.adM M).map dZ⟩)]) az aD) ?_;refine ay (UA (P8 M)) ?_;refine ay (aq (sl':=[(4,dW (Mx.adM M))]) (ow':=[]) az aD) ?_;refine kb ?_;exact⟨_,Sh.refl,.one (.tmp 2) _ rfl (.tmp 2 rfl)⟩
end DW
end
section
open Go.RowKit
namespace DW
theorem ON{n:Nat}{den:Int}{m:Mx.Mat}(hc:lck n m den=0)(hn:n<=5):Mx.Bd (2^520) (Mx.red n 0 (0,m)).2:=fun i j=>by
 obtain⟨r,hr,h⟩:=Mx.Ml (B:=2^50) (jn hc) (tu hc) i j;refine aH h ?_;have:r=0\/r=1\/r=2\/r=3\/r=4\/r=5:=by omega
 clear h hr;rcases this with rfl|rfl|rfl|rfl|rfl|rfl<;>exact qh ai
theorem Tj{n:Nat}{den:Int}{m:Mx.Mat}(hc:lck n m den=0)(hn:n<=5):∀l∈nR n m den,∀x∈l,x.natAbs<=2^520:=fun l hl x hx=>by
 have hd:=(gZ hc).1;obtain⟨r,hr,rfl⟩:=dw.1 hl;obtain⟨y,hy,rfl⟩:=dw.1 hx;have h1:=(Mx.fo (jn hc) (show 0<den by omega)).2.2.2.2.1;exact aH (we h1 ((Mx.nn (nH n m) den).2 r hr y hy)) (oY (ON hc hn) (vQ hr) hy)
theorem xH{X:Nat}{M:Mx.Mat}(h:∀l∈M,∀x∈l,x.natAbs<=X):Mx.Bd X M:=fun i j=>by
 rcases at_mem M i j with h1|⟨r,hr,hz⟩
 ·rw[h1];exact aQ _
 ·exact h r hr _ hz
structure Mk(n:Nat)(M:Mx.Mat)(z:Int):Prop where
 n0:0<n
 n5:n<=5
 len:M.length<=64
 rc:Mx.Rc n M
 bd:Mx.Bd (2^600) M
 z0:0<z
 zb:z.natAbs<=2^600
theorem Mk.red{n:Nat}{M:Mx.Mat}{z:Int}(h:Mk n M z):Mx.Bd (2^(600*11^n)) (Mx.red n 0 (0,M)).2:=by
 have:=Mx.vM (n:=n) (e:=600) aa n 0 0 M h.rc (by rw[sR,eX];exact h.bd);rw[bn]at this;exact this
theorem FJ(dim:Int)(R:Mx.Mat)(d:Int):∃n2 R2 d2 C,hnd dim R d= .tp [dL n2 R2 d2,zI C]/\R2.length<=R.length/\∀l∈R2,l∈R:=by
 unfold hnd;split
 ·exact⟨_,_,_,_,rfl,af _,fun l hl=>hl⟩
 ·exact⟨_,_,_,_,rfl,aQ _,fun l hl=>by cases hl⟩
theorem pw(a b:Nat)(h:a<=b):2^a<=2^b:=cH av h
theorem pmul{x y a b c:Nat}(h1:x<=2^a)(h2:y<=2^b)(h:a+b<=c):x*y<=2^c:=aH (cv h1 h2) (by rw[<-fC];exact pw _ _ h)
theorem Ew{p q:Int}{a b c:Nat}(h1:p.natAbs<=2^a)(h2:q.natAbs<=2^b)(h:a+b<=c):(p*q).natAbs<=2^c:=by
 rw[en];exact pmul h1 h2 h
set_option maxRecDepth 20000
set_option maxHeartbeats 2000000
theorem Mm(dim den:Int)(m R:Mx.Mat)(d:Int)(WD:Fn Tryz.prog 23 [dM m] (dW m))(OF:Fn Tryz.prog 81 [zI den] (.nm den))(BS:Fn Tryz.prog 158 [dW m,.nm den,zI dim] (.tp [dW R,.nm d])):Fn Tryz.prog 105 [dL dim m den] (.tp [dW R,.nm d]):=by
 refine ba Tryz.func105 ai rfl rfl rfl fun X0=>?_;simp only[aO];refine zs2 ?_;refine jw ?_;refine zs3 ?_;refine Rf ?_;refine ig ?_;refine tM ?_;refine Rm ?_;refine iH ?_;refine oz ?_;refine JR ?_;refine iH ?_;refine oz ?_;refine JS ?_;refine iH ?_;refine JQ ?_;refine pB ?_;refine pB ?_;refine wN ?_;refine oA ?_;refine mL ?_;refine zs2 ?_;exact⟨_,aA (k:=3) bf bA bz,.two (.tmp 2) (.cell 3 62) _ _ rfl (.tmp 2 rfl) (.cell 3 _ _ rfl rfl ai ai)⟩
theorem Ch{n:Nat}{m:Mx.Mat}{den:Int}(hc:lck n m den=0)(hn:n<=5):Fn Tryz.prog 105 [dL n m den] (.tp [dW (nR n m den),.nm (den/nG n m den)]):=by
 obtain⟨k1,k2,k3⟩:=gZ hc;have hR:=jn hc;have WD:=Eu m aa (fun l hl=>by have:=hR l hl;omega) (fun l hl z hz=>Ad hc l hl z hz);exact Mm n den m _ _ WD (BD den aa) (OX n den m hc hn)
theorem Fl{n:Nat}{r:List Int}{N:Mx.Mat}(h:Mx.Rc n N):∀k,k<=N.length->mulR n r N k=(List.range n).map fun j=>jZ r N j k
 |0,_=>by
  show List.replicate n 0=(List.range n).map fun _=>(0:Int);rw[List.map_const',List.length_range]
 |k+1,hk=>by
  show Mx.ib (r.getD k 0) (mulR n r N k) (Mx.rw N k)=_;rw[Fl h k aa];refine oN fun j=>?_;have hl:(Mx.rw N k).length=n:=h.rw aa;by_cases hj:j<n
  ·rw[Gx (x:=jZ r N j k) (y:=Mx.at' N k j) (by rw[bW,ji hj];rfl) (ny h aa hj),bW,ji hj];rfl
  ·rw[gA,gA]
   ·simp;omega
   ·have:=Mx.mj (r.getD k 0) ((List.range n).map fun j=>jZ r N j k) (Mx.rw N k) (by simp[hl]);rw[this];simp;omega
theorem Tn{n:Nat}{M N:Mx.Mat}(h:Mx.Rc n N):mulM n M N=tim M N n:=by
 unfold mulM tim lV;exact jh fun r _=>Fl h _ (af _)
theorem Iw{row:List Int}{B:Mx.Mat}{k X L:Nat}(hl:row.length<=L)(h:∀j,(row.getD j 0*Mx.at' B j k).natAbs<=X):∀j,(jZ row B k j).natAbs<=min j L*X
 |0=>by simp[jZ]
 |j+1=>by
  have h1:=Iw hl h j;have h2:=h j;show(jZ row B k j+row.getD j 0*Mx.at' B j k).natAbs<=_;by_cases hj:j<L
  ·rw[dp aa]at h1;rw[dp aa,Nat.succ_mul];omega
  ·rw[aG,gA aa];rw[Nat.min_eq_right aa]at h1⊢;simpa using h1
theorem mC{f:Mx.Mat}(hf:chk f=0):Mx.Bd (2^50) f:=xH fun l hl x hx=>aH ((wq hf).2.2.2 l hl x hx) av
end DW
end
end Go.Proofs.YtcgjmdpcplhanaaGreat
