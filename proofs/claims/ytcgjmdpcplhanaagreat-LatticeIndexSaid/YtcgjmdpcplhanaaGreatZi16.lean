/- Lemmas for the law: E68 E69 -/
import Derived.Test.YtcgjmdpcplhanaaGreatZi15
namespace Go.Proofs.YtcgjmdpcplhanaaGreat
section
theorem Ix{p q:Prop}(h:q)(f:Wq q->p:=by(intro hW;(refine gar ?_;refine rq ?_;refine gL ?_;refine de ?_);exact hW.out)):p:=f ⟨h⟩
theorem PZ{p q:Prop}(h:q)(f:Wq q->p:=by(intro hW;(refine aL1 rfl rfl rfl (by(first|(apply sR;(exact rfl);(focus((apply az;(conv=>lhs;whnf);(first|done|exact rfl))));(exact rfl);(focus((first|exact fq|exact fm|exact fo|exact wd_pt|exact rfl)));(exact rfl);(kernel_rfl);(kernel_rfl))|(apply jN;(exact rfl);(focus((apply az;(conv=>lhs;whnf);(first|done|exact rfl))));(focus((repeat(first|exact bw|refine bC _ ?_))));(exact iB);(exact rfl);(exact rfl);(focus((first|exact fq|exact fm|exact fo|exact wd_pt|exact rfl)));(exact rfl);(kernel_rfl);(kernel_rfl))|(apply kg;(exact rfl);(focus((apply az;(conv=>lhs;whnf);(first|done|exact rfl))));(focus((repeat(first|exact bw|refine bC _ ?_))));(exact rfl);(focus((first|exact iB|(apply nQ;assumption)|assumption|exact g1|exact rfl)));(exact rfl);(focus((first|exact fq|exact fm|exact fo|exact wd_pt|exact rfl)));(exact rfl);(kernel_rfl);(kernel_rfl))|(apply d_load_row;(exact rfl);(focus((apply az;(conv=>lhs;whnf);(first|done|exact rfl))));(focus((repeat(first|exact bw|refine bC _ ?_))));(exact rfl);(focus(first|(apply fA;assumption)|exact rfl));(assumption);(kernel_rfl);(kernel_rfl)))) ?_);exact hW.out)):p:=f ⟨h⟩
theorem zb9{p:Prop}(h:p:=by(first|(apply MF;(exact rfl);(focus((apply az;(conv=>lhs;whnf);(first|done|exact rfl))));(focus((apply az;(conv=>lhs;whnf);(first|done|exact rfl))));(kernel_rfl);(kernel_rfl))|(apply SJ;(exact rfl);(focus((apply az;(conv=>lhs;whnf);(first|done|exact rfl))));(focus((apply az;(conv=>lhs;whnf);(first|done|exact rfl))));(exact rfl);(exact rfl);(focus((first|exact fq|exact fm|exact fo|exact wd_pt|exact rfl)));(focus((first|exact fq|exact fm|exact fo|exact wd_pt|exact rfl)));(kernel_rfl);(kernel_rfl);(exact rfl);(exact rfl)))):p:=h
theorem P5{p q:Prop}(h:q)(f:Wq q->p:=by(intro hW;(refine aL1 rfl rfl rfl zb9 ?_);exact hW.out)):p:=f ⟨h⟩
theorem Cf{p q:Prop}(h:q)(f:Wq q->p:=by(intro hW;(refine od ?_;refine zs2 ?_;refine qG ?_;refine bs ?_;refine lj ?_;refine zs2 ?_);exact hW.out)):p:=f ⟨h⟩
theorem th{p q:Prop}(h:q)(f:Wq q->p:=by(intro hW;(refine gar ?_;refine CW ?_;refine zs4 ?_;refine bc ?_);exact hW.out)):p:=f ⟨h⟩
theorem Pm{p q:Prop}(h:q)(f:Wq q->p:=by(intro hW;(refine gar ?_;refine oR ?_;refine bc ?_);exact hW.out)):p:=f ⟨h⟩
theorem ta{p q:Prop}(h:q)(f:Wq q->p:=by(intro hW;(refine zs2 ?_;refine Pm ?_;refine bK ?_);exact hW.out)):p:=f ⟨h⟩
theorem oV{p q:Prop}(h:q)(f:Wq q->p:=by(intro hW;(refine zs2 ?_;refine Pm ?_;refine bs ?_);exact hW.out)):p:=f ⟨h⟩
theorem wa{p q:Prop}(h:q)(f:Wq q->p:=by(intro hW;(refine aL1 rfl rfl rfl (by(apply MD;(exact rfl);(exact cj))) ?_);exact hW.out)):p:=f ⟨h⟩
theorem Cl{p q:Prop}(h:q)(f:Wq q->p:=by(intro hW;(refine qC ?_;refine xi ?_;refine gL ?_;refine CU ?_;refine bc ?_);exact hW.out)):p:=f ⟨h⟩
theorem P0{p q:Prop}(h:q)(f:Wq q->p:=by(intro hW;(refine aL1 rfl rfl rfl (by(first|(apply jM;(exact rfl);(focus((apply az;(conv=>lhs;whnf);(first|done|exact rfl))));(focus((apply az;(conv=>lhs;whnf);(first|done|exact rfl))));(kernel_rfl);(kernel_rfl);(omega);(focus((first|exact g1|(apply get_map;assumption)|(apply get_own;assumption)))))|(apply gX;(exact rfl);(focus((apply az;(conv=>lhs;whnf);(first|done|exact rfl))));(focus((apply az;(conv=>lhs;whnf);(first|done|exact rfl))));(focus((repeat(first|exact bw|refine bC _ ?_))));(kernel_rfl);(kernel_rfl);(focus(first|omega|(simp;omega)));(focus(first|(apply fA;assumption)|exact rfl))))) ?_);exact hW.out)):p:=f ⟨h⟩
theorem P4{p q:Prop}(h:q)(f:Wq q->p:=by(intro hW;(refine aL1 rfl rfl rfl (by(first|(apply jM;(exact rfl);(focus((apply az;(conv=>lhs;whnf);(first|done|exact rfl))));(focus((apply az;(conv=>lhs;whnf);(first|done|exact rfl))));(kernel_rfl);(kernel_rfl);(omega);(focus((first|exact g0|(apply get_map;assumption)|(apply get_own;assumption)))))|(apply gX;(exact rfl);(focus((apply az;(conv=>lhs;whnf);(first|done|exact rfl))));(focus((apply az;(conv=>lhs;whnf);(first|done|exact rfl))));(focus((repeat(first|exact bw|refine bC _ ?_))));(kernel_rfl);(kernel_rfl);(focus(first|omega|(simp;omega)));(focus(first|(apply fA;assumption)|exact rfl))))) ?_);exact hW.out)):p:=f ⟨h⟩
theorem P3{p q:Prop}(h:q)(f:Wq q->p:=by(intro hW;(refine aL1 rfl rfl rfl (by(first|(apply sR;(exact rfl);(focus((apply az;(conv=>lhs;whnf);(first|done|exact rfl))));(exact rfl);(focus((first|exact fq|exact fm|exact fo|exact wd_pt|exact rfl)));(exact rfl);(kernel_rfl);(kernel_rfl))|(apply jN;(exact rfl);(focus((apply az;(conv=>lhs;whnf);(first|done|exact rfl))));(focus((repeat(first|exact bw|refine bC _ ?_))));(exact iB);(exact rfl);(exact rfl);(focus((first|exact fq|exact fm|exact fo|exact wd_pt|exact rfl)));(exact rfl);(kernel_rfl);(kernel_rfl))|(apply kg;(exact rfl);(focus((apply az;(conv=>lhs;whnf);(first|done|exact rfl))));(focus((repeat(first|exact bw|refine bC _ ?_))));(exact rfl);(focus((first|exact iB|(apply nQ;assumption)|assumption|exact g0|exact rfl)));(exact rfl);(focus((first|exact fq|exact fm|exact fo|exact wd_pt|exact rfl)));(exact rfl);(kernel_rfl);(kernel_rfl))|(apply d_load_row;(exact rfl);(focus((apply az;(conv=>lhs;whnf);(first|done|exact rfl))));(focus((repeat(first|exact bw|refine bC _ ?_))));(exact rfl);(focus(first|(apply fA;assumption)|exact rfl));(assumption);(kernel_rfl);(kernel_rfl)))) ?_);exact hW.out)):p:=f ⟨h⟩
theorem Cq{p q:Prop}(h:q)(f:Wq q->p:=by(intro hW;((refine dV (k:=6) (z:=(.agg #[.int .i64 0,.slice none 0 0,.int .i64 0])) (d:=(.st [.sc (.int .i64 0),.sc (.slice none 0 0),.sc (.int .i64 0)])) rfl rfl rfl rfl rfl ah aj aj dC aj aj cG ?_));exact hW.out)):p:=f ⟨h⟩
end
section
open Go.RowKit Go.BigFrame
attribute [local go_sem ↓] Go.wp_at_zero Go.wp_at_succ
set_option maxRecDepth 10000 in
set_option maxHeartbeats 4000000 in
theorem OE(n:Nat)(hn:n<=1000000)(w:World):
  Calls Tryz.prog 176 #[.slice none 0 0, .int .i64 ((n:Int))] w fun e w'=>(∃v,e= .returned v/\w'.ownsRow w.heap.size 147 1 v 0 []/\∀b,v.ownBlock=some b->NW w' b)/\Below w.heap.size w w':=by
 by_cases h0:n=0
 ·subst h0
  go_enter Tryz.func176,Tryz.ntmps176
  go_wp2_with fail
  go_ret
  exact⟨⟨_,rfl,⟨rfl, .inl ⟨rfl,rfl⟩⟩,fun b hb=>by cases hb⟩,by exact bel⟩
 ·have hp:(0:Int)<(n:Int):=by omega
  have hneg:¬(n:Int)<0:=by omega
  obtain⟨i0,hi0,hz0,hz1,hz2⟩:=gW nJ
  have hrz : ∀ (ty : TypeId) (W : World), (Builtin.append_ #[104, 3] ty #[.slice none 0 0, .int .i64 (n : Int)]).run Tryz.prog W =
      .ok (.slice (some ⟨W.heap.size,0,none⟩) n (grownCap W n 0 147)) (W.drew.alloc (.cells (Builtin.zeroCells (Value.slice none 0 0).cells n++Builtin.zeroCells (Value.slice none 0 0).cells (grownCap W n 0 147-n)) 147)):=fun ty W=>by
   have h:=Dk W 104 3 ty 147 i0 _ .i64 .i64 Tryz.underlying104 Tryz.underlying3 hi0 hz0 none 0 0 [] (run_firstCells_none W.drew i0.size 0 0 0) n aa aa aa aa (by rw[hz2];omega) (by rw[hz2];exact growslice_fits aa aa);simpa using h
  have hG:∀W,n<=grownCap W n 0 147/\grownCap W n 0 147<=9223372036854775807:=fun W=>by
   refine⟨grownCap_ge W _ _ _,?_⟩;have:=grownCap_le_maxLen W n 0 147 (by unfold maxLen;omega);unfold maxLen at this;omega
  go_enter Tryz.func176,Tryz.ntmps176
  have HRZ:Hid _:=hrz;clear hrz;obtain⟨g1,g2⟩:=hG w
  go_wp2_with (at_builtin;go_must (refine wpList_append_run rfl (.tmp 20) (.tmp 21) 104 3 rfl _ (HRZ.out _ _) ?_))
  go_ret
  refine⟨⟨_,rfl,⟨by simp, .inr ⟨w.heap.size,grownCap w n 0 147,_,rfl,af _,heap_alloc_new w _,bg _,by unfold maxLen;exact g2,?_,by simp⟩⟩,fun b hb m hm=>?_⟩,by exact bel⟩
  ·rw[qI,size_zeroCells,size_zeroCells];show n*1+(grownCap w n 0 147-n)*1=_;omega
  ·have hb2:w.heap.size=b:=Option.some.inj hb;subst hb2
   change (w.alloc _).cell? _=_ at hm
   rw[cell_of_row _ w.heap.size _ _ _ (0,0) (heap_alloc_new w _)]at hm;have h3:0<n*1:=by omega
   have h4:(Builtin.zeroCells (Value.slice none 0 0).cells n)[0]?=some (.slice none 0 0):=by
    simp only[Builtin.zeroCells,Value.cells];have h5:0<n*(#[Value.slice none 0 0]:Array Value).size:=by simp;omega
    rw[rU,lC (by simpa using h5)];simp
   rw[pM (by rw[size_zeroCells];exact h3)]at hm;have hm2:=h4.symm.trans hm;clear hm;have hm:=hm2;cases hm
namespace DW
theorem So(n:Nat)(hn:n<=1000000):FnG Tryz.prog 176 [.sc (.slice none 0 0),zI (n:Int)] [] (.own 6) [(6,⟨147,1,[]⟩)]:=by
 refine⟨enters_of Tryz.func176 ah rfl,fun X f w vs hX hO hv=>?_⟩;rw[Us]at hv;simp only[SRs,SR,AR]at hv;obtain⟨v1,r1,e1,⟨rfl,_⟩,v2,r2,e2,⟨rfl,_⟩,rfl⟩:=hv;subst e2;have:vs= #[.slice none 0 0,.int .i64 ((n:Int))]:=cU.1 e1;subst this;refine(OE n hn w).mono fun e w' ⟨⟨v,he,ho,hnw⟩,hb⟩=>?_;have hbl:∀b,blk (fun _=>v) [(6,(⟨147,1,[]⟩:Ow))] b->v.ownBlock=some b:=fun b ⟨p,hp,e⟩=>e;have hge:∀b,v.ownBlock=some b->w.heap.size<=b:=fun b hb=>by
  rcases ho.2 with⟨h1,_⟩|⟨g,cap,cur,h1,h2,_⟩
  ·subst h1;cases hb
  ·rw[h1]at hb;simp only[Value.ownBlock,ak]at hb;omega
 refine⟨v,fun _=>v,he,⟨hb.os,hb.tape,hb.output,hb.size,fun b hb' _=>hb.block b hb'⟩,⟨fun p hp=>?_,fun b hb'=>hnw b (hbl b hb'),fun p hp q hq hne=>?_,fun p hp q hq _=>?_,fun b hx hb'=>?_⟩,fun b hb'=>.inr (hge b (hbl b hb')),fun p hp=>(by cases hp),by simp only[SR]⟩
 ·rw[cr.1 hp];refine⟨by decide,[],⟨rfl,?_⟩,EE.of rfl rfl⟩;rcases ho.2 with h1|⟨g,cap,cur,h1,h2,h3⟩
  ·exact .inl h1
  ·exact .inr ⟨g,cap,cur,h1,bg _,h3⟩
 ·rw[cr.1 hp,cr.1 hq]at hne;exact absurd rfl hne
 ·rw[cr.1 hp,cr.1 hq]
 ·exact absurd (hX b hx).1 (by have:=hge b (hbl b hb');omega)
set_option maxRecDepth 20000
set_option maxHeartbeats 2000000
theorem O4(A B:Mx.Mat)(hA:A.length<=100000)(hB:B.length<=100000):Fn Tryz.prog 140 [.ls 1 [dW A,dW B]] (dW (A++B)):=by
 have GR:=So (A.length+B.length) aa;obtain⟨L,hL⟩:∃L:List Mx.Mat,L=[A,B]:=⟨_,rfl⟩;have hLl:L.length=2:=by rw[hL];rfl
 have hin:(D.ls 1 [dW A,dW B])= .ls 1 (L.map dW):=by rw[hL];rfl
 rw[hin];have hl0:∀i,((L.take i).map List.length).sum<=A.length+B.length:=fun i=>by
  rw[hL]
  match i with
  |0=>simp
  |1=>simp
  |i+2=>simp
 have hls:∀i (M:Mx.Mat),L[i]?=some M->((L.take (i+1)).map List.length).sum=((L.take i).map List.length).sum+M.length:=fun i M h=>by
  rw[cM h,eR,List.sum_append];simp
 have hlm:∀i (M:Mx.Mat),L[i]?=some M->M.length<=100000:=fun i M h=>by
  have:=bG h;rw[hL]at this;simp only[bP,List.not_mem_nil,or_false]at this;rcases this with rfl|rfl<;>assumption
 have hfl:∀i,((L.take i).flatten).length<=200000:=fun i=>by
  rw[List.length_flatten];have:=hl0 i;omega
 have hend:L.flatten=A++B:=by rw[hL];simp
 have hsum:((L.take 2).map List.length).sum=A.length+B.length:=by rw[hL];simp
 clear hL hin;refine bh Tryz.func140 ah rfl rfl rfl fun X0=>?_;simp only[aK];refine zs2 ?_;refine jA ?_;refine mD ?_;refine wa ?_;refine dX ?_
 (refine av (aE (sl':=[(0,.ls 1 (L.map dW)),(3,zI 0),(9,.ls 1 (L.map dW)),(10,zI 2),(11,zI 0)]) (ow':=[]) aO aS) ?_)
 refine bB (fun r s=>∃i,i<=2/\r=2-i/\s=⟨[(0,.ls 1 (L.map dW)),(3,zI (((L.take i).map List.length).sum:Nat)),(9,.ls 1 (L.map dW)),(10,zI 2),(11,zI (i:Nat))],[]⟩) (m:=2) ⟨0,bg _,rfl,rfl⟩ fun r s hs=>?_;obtain⟨i,hi,rfl,rfl⟩:=hs;by_cases hil:i<2
 ·obtain⟨M,hM⟩:=get_some (m:=L) (k:=i) aa;have hs1:=hls i M hM;have hm1:=hlm i M hM;have h01:=hl0 i;generalize((L.take i).map List.length).sum=a at*;refine oV ?_;refine Ix ?_;refine zs2 ?_;refine ck ?_;refine zs5 ?_;refine sY ?_;refine cS ?_;refine iZ ?_;refine bK ?_;refine th ?_;refine zs2 ?_;simp only[nx,inB];exact⟨2-(i+1),_,by omega,(aE (sl':=[(0,.ls 1 (L.map dW)),(3,zI (((L.take (i+1)).map List.length).sum:Nat)),(9,.ls 1 (L.map dW)),(10,zI 2),(11,zI ((i+1:Nat):Int))]) (ow':=[]) aO aS),i+1,by omega,rfl,rfl⟩
 ·obtain rfl:i=2:=by omega
  rw[hsum];refine ta ?_;refine cF ?_;(refine Up rfl rfl rfl rfl (by exact sG) cO (GR) aj aj aj ?_);refine cS ?_;refine mD ?_;refine wa ?_;refine dX ?_
  (refine av (aE (sl':=[(0,.ls 1 (L.map dW)),(6,.own 6),(25,.ls 1 (L.map dW)),(26,zI 2),(27,zI 0)]) (ow':=[(6,⟨147,1,[]⟩)]) aO aS) ?_)
  refine bB (fun r s=>∃i,i<=2/\r=2-i/\s=⟨[(0,.ls 1 (L.map dW)),(6,.own 6),(25,.ls 1 (L.map dW)),(26,zI 2),(27,zI (i:Nat))],[(6,⟨147,1,(L.take i).flatten.map dZ⟩)]⟩) (m:=2) ⟨0,bg _,rfl,rfl⟩ fun r s hs=>?_;obtain⟨i,hi,rfl,rfl⟩:=hs;by_cases hil:i<2
  ·obtain⟨M,hM⟩:=get_some (m:=L) (k:=i) aa;have hsn:=cM hM;have hm1:=hlm i M hM;have hf1:=hfl i;obtain⟨F,hF⟩:∃F,F=L.take i:=⟨_,rfl⟩;rw[<-hF]at hsn hf1;rw[<-hF];clear hF;refine oV ?_;refine Ix ?_;refine zs2 ?_;refine ck ?_;(refine oQ rfl rfl rfl rfl cO cO aH aj uO ah ah (by(simp only[bI];omega)) cG uL ?_);refine cS ?_;refine th ?_;refine zs2 ?_;simp only[nx,inB];exact⟨2-(i+1),_,by omega,(aE (sl':=[(0,.ls 1 (L.map dW)),(6,.own 6),(25,.ls 1 (L.map dW)),(26,zI 2),(27,zI ((i+1:Nat):Int))]) (ow':=[(6,⟨147,1,F.flatten.map dZ++M.map dZ⟩)]) aO aS),i+1,by omega,rfl,by rw[hsn,List.flatten_append,eR];simp⟩
  ·obtain rfl:i=2:=by omega
   rw[cw aa,hend];refine ta ?_;refine av (ao (k:=6) aH aR aQ) ?_;refine lj ?_;refine zs2 ?_;exact⟨_,Sh.refl,.one (.tmp 2) _ rfl (.tmp 2 rfl)⟩
theorem ra_ar{X:Nat->Prop}{w:World}{row:List Int}{g o c:Nat}(h:RA w g o row)(hc:row.length<=c)(hX:¬X g):AR X w (dZ row) (.slice (some ⟨g,o,none⟩) row.length c):=by
 simp only[dZ,AR];refine⟨_,c,by rw[bI],by rw[bI];exact hc,.inr ⟨g,o,rfl,hX,h.lt,ARs.mk fun k d hd=>?_⟩⟩;rw[bO]at hd;obtain⟨z,hz,rfl⟩:=eL.1 hd;obtain⟨x,h1,h2,h3⟩:=h.c k z hz;refine⟨.agg #[.bool x.s,.slice x.a x.n x.cap],by simp only[AR];exact⟨x,rfl,h3⟩,rfl,rfl,fun j u hj=>?_⟩
 match j with
 |0=>simp[Value.cells]at hj;subst hj;exact h1
 |1=>simp[Value.cells]at hj;subst hj;exact h2
 |j+2=>simp[Value.cells]at hj
theorem LF{X:Nat->Prop}{w:World}{B:Nat}{M:Mx.Mat}{v:Value}{n:Nat}(h:MRB w B v n M)(hX:∀b,X b->b<B):AR X w (dW M) v:=by
 obtain⟨a,cap,rfl,h1,h2,h3⟩:=h;simp only[dW,AR];refine⟨a,cap,by rw[bI],by rw[bI];exact h1,?_⟩;rcases h3 with h3|⟨gm,om,rfl,hb,hlt,h4⟩
 ·exact .inl (by rw[h3];rfl)
 ·refine .inr ⟨gm,om,rfl,fun hx=>by have:=hX gm hx;omega,hlt,ARs.mk fun i d hd=>?_⟩;rw[bO]at hd;obtain⟨row,hrow,rfl⟩:=eL.1 hd;have hi:=(cD.1 hrow).1;have hl:row.length=n:=h2 row (bG hrow);obtain⟨b,c,k1,k2,_,k4⟩:=h4 i hi;refine⟨.slice b n c,?_,rfl,rfl,fun j u hj=>?_⟩
  ·rcases k4 with k4|⟨g,o,rfl,k5,k6⟩
   ·have:row=[]:=gP aa;rw[this,k4];simp only[dZ,AR];exact⟨b,c,rfl,bg _,.inl rfl⟩
   ·rw[Mx.dR hrow]at k6;have:=ra_ar (X:=X) k6 (show row.length<=c by omega) (fun hx=>by have:=hX g hx;omega);rwa[hl]at this
  ·match j with
   |0=>simp[Value.cells]at hj;subst hj;rw[eW,bZ];exact k1
   |j+1=>simp[Value.cells]at hj
theorem wtr_d(M:Mx.Mat)(n e:Nat)(h0:M≠[])(hn0:0<n)(hR:Mx.Rc n M)(hm:n+M.length<=1000)(he:6<=e)(hf:2*(e*11^n)<=6000000000000)(hb:Mx.Bd (2^e) M):Fn Tryz.prog 73 [dW M] (.tp [dW (tk n (Mx.red n 0 (0,cH M)).2),dW (dp n (Mx.red n 0 (0,cH M)).2),zI ((Mx.red n 0 (0,cH M)).1:Nat)]):=by
 refine⟨enters_of Tryz.func73 ah rfl,fun X w vs hX hv=>?_⟩;simp only[ATp]at hv;obtain⟨v1,r1,e1,h1,rfl⟩:=hv;have:vs= #[v1]:=cU.1 e1;subst this;refine(zf M n e v1 h0 hm he hf hb w (sU h1 hR hn0)).mono fun e w' ⟨⟨vh,vu,h2,h3,h4⟩,h5⟩=>⟨_,h2,?_,h5⟩;have hXb:∀b,X b->b<w.heap.size:=fun b hb=>(hX b hb).1;simp only[AR,ATp];exact⟨#[vh,vu,.int .i64 (((Mx.red n 0 (0,cH M)).1:Int))],rfl,vh,_,rfl,LF h3 hXb,vu,_,rfl,LF h4 hXb,_,_,rfl,⟨rfl,rfl⟩,rfl⟩
end DW
end
section
open Go.RowKit
namespace DW
section
variable {P : Program} {s : S} {o : Oper}
theorem wv{X:Nat->Prop}{w:World}{a b:Int}{v:Value}(h:AR X w (dF a b) v):v= .agg #[.int .i64 a,.int .i64 b]:=by
 simp only[AR,ASt]at h;obtain⟨cs,rfl,u,r,h1,⟨rfl,_⟩,_,u2,r2,h2,⟨rfl,_⟩,_,rfl⟩:=h;subst h2;simp[Value.cells]at h1;have:cs= #[.int .i64 a,.int .i64 b]:=cU.1 h1;rw[this]
theorem Uh{x y:Operand}{a b c d:Int}{tt:TypeId}(ho:o.op= .binOp .eql 73 x y tt)(hx:s.op x=dF a b)(hy:s.op y=dF c d):bF Tryz.prog o s (.sc (.bool (decide (a=c)&&decide (b=d)))):=ke rfl fun X f w ac hs=>by
 have h1:=hs x bL;have h2:=hs y bL;rw[hx]at h1;rw[hy]at h2;have e1:=wv h1;have e2:=wv h2;unfold execOp;rw[ho];have hm:Tryz.prog.eqGuardType Tryz.prog.depth 73=false:=by kernel_rfl
 have hr:=EV a b c d w;have hg:=run_eqGuard_agg (P:=Tryz.prog) w .eql 73 x y #[.int .i64 a,.int .i64 b] #[.int .i64 c,.int .i64 d] hm;simp[e1,e2,hg,hr]
theorem OI(a b c d:Int)(w:World):(binOp .neq 73 (.agg #[.int .i64 a,.int .i64 b]) (.agg #[.int .i64 c,.int .i64 d])).run Tryz.prog w= .ok (.bool (!(decide (a=c)&&decide (b=d)))) w:=by
 have h:=EV a b c d w;rw[run_eql_struct]at h;rw[run_neq_struct]
 cases hq:(Op.equalIn 10000 73 (.agg #[.int .i64 a,.int .i64 b]) (.agg #[.int .i64 c,.int .i64 d])).run Tryz.prog w with
 |ok v w2=>
  rw[hq]at h;simp only[Result.andThen_ok,Result.ok.injEq,Value.bool.injEq]at h⊢;exact⟨by rw[h.1],h.2⟩
 |halt x w2=>rw[hq]at h;simp[Result.andThen]at h
theorem Ug{x y:Operand}{a b c d:Int}{tt:TypeId}(ho:o.op= .binOp .neq 73 x y tt)(hx:s.op x=dF a b)(hy:s.op y=dF c d):bF Tryz.prog o s (.sc (.bool (!(decide (a=c)&&decide (b=d))))):=ke rfl fun X f w ac hs=>by
 have h1:=hs x bL;have h2:=hs y bL;rw[hx]at h1;rw[hy]at h2;have e1:=wv h1;have e2:=wv h2;unfold execOp;rw[ho];have hm:Tryz.prog.eqGuardType Tryz.prog.depth 73=false:=by kernel_rfl
 have hr:=OI a b c d w;have hg:=run_eqGuard_agg (P:=Tryz.prog) w .neq 73 x y #[.int .i64 a,.int .i64 b] #[.int .i64 c,.int .i64 d] hm;simp[e1,e2,hg,hr]
end
set_option maxRecDepth 20000
set_option maxHeartbeats 4000000
def tck(da:Int)(ma:Mx.Mat)(ea:Int)(db:Int)(mb:Mx.Mat)(eb:Int):Int:=if lck da ma ea≠0 then lck da ma ea else if lck db mb eb≠0 then lck db mb eb else if da=db then 0 else 9
theorem Tw(da ea db eb:Int)(ma mb:Mx.Mat)(CA:Fn Tryz.prog 32 [dL da ma ea] (zI (lck da ma ea)))(CB:Fn Tryz.prog 32 [dL db mb eb] (zI (lck db mb eb))):Fn Tryz.prog 65 [dL da ma ea,dL db mb eb] (zI (tck da ma ea db mb eb)):=by
 by_cases h1:lck da ma ea=0
 ·rw[h1]at CA;by_cases h2:lck db mb eb=0
  ·rw[h2]at CB;by_cases h3:da=db
   ·have EC:tck da ma ea db mb eb=0:=by unfold tck;rw[ai (fun h=>h h1),ai (fun h=>h h2),an h3]
    refine bh Tryz.func65 ah rfl rfl rfl fun X0=>?_;simp only[aK];refine vP ?_;refine od ?_;refine mG ?_;refine od ?_;refine mG ?_;refine Cl ?_;refine bK ?_;refine fI ?_;rw[EC];exact⟨_,Sh.refl,.one (.tmp 4) _ rfl (.tmp 4 rfl)⟩
   ·have EC:tck da ma ea db mb eb=9:=by unfold tck;rw[ai (fun h=>h h1),ai (fun h=>h h2),ai h3]
    refine bh Tryz.func65 ah rfl rfl rfl fun X0=>?_;simp only[aK];refine vP ?_;refine od ?_;refine mG ?_;refine od ?_;refine mG ?_;refine Cl ?_;refine bs ?_;refine fI ?_;rw[EC];exact⟨_,Sh.refl,.one (.tmp 4) _ rfl (.tmp 4 rfl)⟩
  ·have EC:tck da ma ea db mb eb=lck db mb eb:=by unfold tck;rw[ai (fun h=>h h1),an h2]
   rw[EC];clear EC;generalize lck db mb eb=C at*;refine bh Tryz.func65 ah rfl rfl rfl fun X0=>?_;simp only[aK];refine vP ?_;refine od ?_;refine mG ?_;refine Cf ?_;exact⟨_,Sh.refl,.one (.tmp 4) _ rfl (.tmp 4 rfl)⟩
 ·have EC:tck da ma ea db mb eb=lck da ma ea:=by unfold tck;rw[an h1]
  rw[EC];clear EC;generalize lck da ma ea=C at*;refine bh Tryz.func65 ah rfl rfl rfl fun X0=>?_;simp only[aK];refine vP ?_;refine Cf ?_;exact⟨_,Sh.refl,.one (.tmp 4) _ rfl (.tmp 4 rfl)⟩
theorem Ll(da ea db eb:Int)(ma mb:Mx.Mat)(CA:Fn Tryz.prog 33 [dL da ma ea] (zI (lck da ma ea)))(CB:Fn Tryz.prog 33 [dL db mb eb] (zI (lck db mb eb))):Fn Tryz.prog 134 [dL da ma ea,dL db mb eb] (zI (tck da ma ea db mb eb)):=by
 obtain⟨A,hA⟩:∃A,A=dL da ma ea:=⟨_,rfl⟩;obtain⟨B,hB⟩:∃B,B=dL db mb eb:=⟨_,rfl⟩;have g0:([dL da ma ea,dL db mb eb]:List D)[((0:Nat):Int).toNat]?=some (dL da ma ea):=rfl;have g1:([dL da ma ea,dL db mb eb]:List D)[((1:Nat):Int).toNat]?=some (dL db mb eb):=rfl;refine bh Tryz.func134 ah rfl rfl rfl fun X0=>?_;simp only[aK];refine vP ?_;refine yq ?_;refine gL ?_;refine P5 ?_;refine zs5 ?_;refine wa ?_;refine dX ?_
 (refine av (aE (sl':=[(2,.pt (dL da ma ea)),(3,.pt (dL db mb eb)),(10,.ls (dL da ma ea).wd [dL da ma ea,dL db mb eb]),(11,zI 2),(12,zI 0)]) (ow':=[]) aO aS) ?_)
 refine bB (fun r s=>∃i,i<=2/\r=2-i/\(1<=i->lck da ma ea=0)/\(2<=i->lck db mb eb=0)/\s=⟨[(2,.pt (dL da ma ea)),(3,.pt (dL db mb eb)),(10,.ls (dL da ma ea).wd [dL da ma ea,dL db mb eb]),(11,zI 2),(12,zI (i:Nat))],[]⟩) (m:=2) ⟨0,bg _,rfl,fun h=>by omega,fun h=>by omega,rfl⟩ fun r s hs=>?_;obtain⟨i,hi,rfl,hi1,hi2,rfl⟩:=hs;have hcase:i=0\/i=1\/i=2:=by omega
 rcases hcase with rfl|rfl|rfl
 ·by_cases h1:lck da ma ea=0
  ·rw[h1]at CA;refine oV ?_;refine gar ?_;refine P4 ?_;refine P3 ?_;refine Cq ?_;refine jz ?_;refine av (ao (k:=6) aH aR aQ) ?_;refine zs2 ?_;refine od ?_;refine mG ?_;refine th ?_;refine zs2 ?_;simp only[nx,inB];exact⟨2-1,_,by omega,(aE (sl':=[(2,.pt (dL da ma ea)),(3,.pt (dL db mb eb)),(10,.ls (dL da ma ea).wd [dL da ma ea,dL db mb eb]),(11,zI 2),(12,zI ((1:Nat):Int))]) (ow':=[]) aO aS),1,by omega,rfl,fun _=>h1,fun h=>by omega,rfl⟩
  ·have EC:tck da ma ea db mb eb=lck da ma ea:=by unfold tck;rw[an h1]
   rw[EC];clear EC hi1;generalize lck da ma ea=C at*;refine oV ?_;refine gar ?_;refine P4 ?_;refine P3 ?_;refine Cq ?_;refine jz ?_;refine av (ao (k:=6) aH aR aQ) ?_;refine zs2 ?_;refine Cf ?_;exact⟨_,Sh.refl,.one (.tmp 4) _ rfl (.tmp 4 rfl)⟩
 ·have h1:=hi1 aa;by_cases h2:lck db mb eb=0
  ·rw[h2]at CB;refine oV ?_;refine gar ?_;refine P0 ?_;refine PZ ?_;refine Cq ?_;refine jz ?_;refine av (ao (k:=6) aH aR aQ) ?_;refine zs2 ?_;refine od ?_;refine mG ?_;refine th ?_;refine zs2 ?_;simp only[nx,inB];exact⟨2-2,_,by omega,(aE (sl':=[(2,.pt (dL da ma ea)),(3,.pt (dL db mb eb)),(10,.ls (dL da ma ea).wd [dL da ma ea,dL db mb eb]),(11,zI 2),(12,zI ((2:Nat):Int))]) (ow':=[]) aO aS),2,by omega,rfl,fun _=>h1,fun _=>h2,rfl⟩
  ·have EC:tck da ma ea db mb eb=lck db mb eb:=by unfold tck;rw[ai (fun h=>h h1),an h2]
   rw[EC];clear EC hi2;generalize lck db mb eb=C at*;refine oV ?_;refine gar ?_;refine P0 ?_;refine PZ ?_;refine Cq ?_;refine jz ?_;refine av (ao (k:=6) aH aR aQ) ?_;refine zs2 ?_;refine Cf ?_;exact⟨_,Sh.refl,.one (.tmp 4) _ rfl (.tmp 4 rfl)⟩
 ·have h1:=hi1 aa;have h2:=hi2 aa;by_cases h3:da=db
  ·have EC:tck da ma ea db mb eb=0:=by unfold tck;rw[ai (fun h=>h h1),ai (fun h=>h h2),an h3]
   refine ta ?_;refine Cl ?_;refine bK ?_;refine fI ?_;rw[EC];exact⟨_,Sh.refl,.one (.tmp 4) _ rfl (.tmp 4 rfl)⟩
  ·have EC:tck da ma ea db mb eb=9:=by unfold tck;rw[ai (fun h=>h h1),ai (fun h=>h h2),ai h3]
   refine ta ?_;refine Cl ?_;refine bs ?_;refine fI ?_;rw[EC];exact⟨_,Sh.refl,.one (.tmp 4) _ rfl (.tmp 4 rfl)⟩
theorem GS(x:Int)(n:Nat)(hn:n<=1000)(fx:Fit x)(hf:∀k,k<=n->Fit (Mx.dpr (fun _ _=>x) k)):Fn Tryz.prog 137 [.nm x,zI (n:Nat)] (.nm (Mx.dpr (fun _ _=>x) n)):=by
 have O:=J8 1 (by unfold I64;omega);refine bh Tryz.func137 ah rfl rfl rfl fun X0=>?_;simp only[aK];refine zs2 ?_;refine il ?_;refine Ig ?_;refine dX ?_;refine gar ?_;refine Ie ?_;refine zs77 ?_;refine jz ?_;refine cF ?_;refine wa ?_;refine dX ?_
 (refine av (aE (sl':=[(2,.pt (.nm x)),(4,.opt 4 0),(5,.opt 5 0),(7,zI (n:Nat)),(8,zI 0)]) (ow':=[(5,⟨62,2,[.nm 1]⟩),(4,⟨62,2,[.nm 0]⟩)]) aO aS) ?_)
 refine bB (fun r s=>∃k,k<=n/\r=n-k/\s=⟨[(2,.pt (.nm x)),(4,.opt 4 0),(5,.opt 5 0),(7,zI (n:Nat)),(8,zI (k:Nat))],[(5,⟨62,2,[.nm (Mx.dpr (fun _ _=>x) k)]⟩),(4,⟨62,2,[.nm 0]⟩)]⟩) (m:=n) ⟨0,bg _,rfl,rfl⟩ fun r s hs=>?_;obtain⟨k,hk,rfl,rfl⟩:=hs;by_cases hkn:k<n
 ·have MU:=sM (Mx.dpr (fun _ _=>x) k) x (hf k hk) fx;have hs1:Mx.dpr (fun _ _=>x) k*x=Mx.dpr (fun _ _=>x) (k+1):=rfl;rw[hs1]at MU;obtain⟨z2,hz2⟩:∃z2,z2=Mx.dpr (fun _ _=>x) (k+1):=⟨_,rfl⟩;rw[<-hz2]at MU;obtain⟨z1,hz1⟩:∃z1,z1=Mx.dpr (fun _ _=>x) k:=⟨_,rfl⟩;rw[<-hz1]at MU;rw[<-hz1];clear hs1 hz1 hf;refine oV ?_;refine Iy ?_;refine zs2 ?_;refine th ?_;refine zs2 ?_;simp only[nx,inB];exact⟨n-(k+1),_,by omega,(aE (sl':=[(2,.pt (.nm x)),(4,.opt 4 0),(5,.opt 5 0),(7,zI (n:Nat)),(8,zI ((k+1:Nat):Int))]) (ow':=[(5,⟨62,2,[.nm z2]⟩),(4,⟨62,2,[.nm 0]⟩)]) aO aS),k+1,by omega,rfl,by rw[hz2]⟩
 ·have:k=n:=by omega
  subst this;generalize Mx.dpr (fun _ _=>x) k=z at*;refine ta ?_;refine Co ?_;refine zs2 ?_;exact⟨_,ao (k:=4) aH aR aQ,.one (.cell 4 62) _ rfl (.cell 4 _ _ rfl rfl ah ah)⟩
end DW
end
end Go.Proofs.YtcgjmdpcplhanaaGreat
