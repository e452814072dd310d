/- Lemmas for the law: F3 L5 DN F1 -/
import Derived.Test.YtepdigdijecgpaaGreatZa4
namespace Go.Proofs.YtepdigdijecgpaaGreat
section
abbrev pD:=@Nat.not_lt_zero
theorem zs29{p q:Prop}(h:q)(f:Wq q->p:=by(intro hW;((refine Az (k:=3) (wd:=1) (T:=Tryz.prog.elem 45) rfl rfl rfl rfl ak ak av av fE ?_));exact hW.out)):p:=f ⟨h⟩
theorem zs32{p q:Prop}(h:q)(f:Wq q->p:=by(intro hW;((first|refine aN1 rfl rfl rfl zb21 ?_|refine aN1o rfl rfl rfl zb21 ?_));exact hW.out)):p:=f ⟨h⟩
theorem zb17{p:Prop}(h:p:=by(apply qu;(exact rfl);(focus((apply aB;(conv=>lhs;whnf);(first|done|exact rfl))));(focus((apply aB;(conv=>lhs;whnf);(first|done|exact rfl))));(kernel_rfl);(kernel_rfl);(focus(first|exact ns _|exact rfl));(focus(first|omega|(simp;omega))))):p:=h
theorem zs33{p q:Prop}(h:q)(f:Wq q->p:=by(intro hW;((first|refine aN1 rfl rfl rfl zb17 ?_|refine aN1o rfl rfl rfl zb17 ?_));exact hW.out)):p:=f ⟨h⟩
theorem zb41{p:Prop}(h:p:=by(repeat(first|exact JZ|(apply J0;(exact rfl))|(apply GA;(exact rfl))))):p:=h
theorem nV{p q:Prop}(h:q)(f:Wq q->p:=by(intro hW;((try refine bp ?_);refine aK ?_);exact hW.out)):p:=f ⟨h⟩
theorem zb28{p:Prop}(h:p:=by(first|(apply H9;(exact rfl);(focus((apply aB;(conv=>lhs;whnf);(first|done|exact rfl))));(omega))|(apply LK;(exact rfl);(focus((apply aB;(conv=>lhs;whnf);(first|done|exact rfl))))))):p:=h
theorem AJ{p q:Prop}(h:q)(f:Wq q->p:=by(intro hW;(refine aL1 rfl rfl rfl zb28 ?_);exact hW.out)):p:=f ⟨h⟩
theorem uF{p q:Prop}(h:q)(f:Wq q->p:=by(intro hW;((first|refine fo rfl rfl rfl av zb11 av av ?_|((try refine bp ?_);refine aL1 rfl rfl rfl zb11 ?_)));exact hW.out)):p:=f ⟨h⟩
theorem zb39{p:Prop}(h:p:=by(apply LL;(exact rfl);(focus((apply aB;(conv=>lhs;whnf);(first|done|exact rfl))));(exact rfl))):p:=h
theorem zs57{p q:Prop}(h:q)(f:Wq q->p:=by(intro hW;(refine aL1 rfl rfl rfl zb39 ?_);exact hW.out)):p:=f ⟨h⟩
theorem zb35{p:Prop}(h:p:=by(apply dB;(exact rfl);(focus((apply aB;(conv=>lhs;whnf);(first|done|exact rfl))));(exact cI);(exact rfl))):p:=h
theorem mQ{p q:Prop}(h:q)(f:Wq q->p:=by(intro hW;(refine aL1 rfl rfl rfl zb35 ?_);exact hW.out)):p:=f ⟨h⟩
theorem Bp{p:Prop}(h:p:=by(apply rA;(exact rfl);(focus((apply aB;(conv=>lhs;whnf);(first|done|exact rfl))));(focus((apply aB;(conv=>lhs;whnf);(first|done|exact rfl))));(exact rfl);(exact rfl);(assumption);(exact rfl))):p:=h
theorem il{p q:Prop}(h:q)(f:Wq q->p:=by(intro hW;(refine aL1 rfl rfl rfl Bp ?_);exact hW.out)):p:=f ⟨h⟩
theorem wD{p q:Prop}(h:q)(f:Wq q->p:=by(intro hW;(refine cJ ?_;refine il ?_;refine mQ ?_;refine cw ?_);exact hW.out)):p:=f ⟨h⟩
theorem zs45{p q:Prop}(h:q)(f:Wq q->p:=by(intro hW;(refine aL1 rfl rfl rfl (by(first|(apply Gt;(exact rfl);(focus((apply aB;(conv=>lhs;whnf);(first|done|exact rfl))));(focus((apply aB;(conv=>lhs;whnf);(first|done|exact rfl))));(exact rfl);(focus((first|exact GX)));(exact rfl))|(apply Gu;(exact rfl);(focus((apply aB;(conv=>lhs;whnf);(first|done|exact rfl))));(focus((apply aB;(conv=>lhs;whnf);(first|done|exact rfl))));(exact rfl);(focus((first|exact GX)));(exact rfl)))) ?_);exact hW.out)):p:=f ⟨h⟩
theorem kF{p q:Prop}(h:q)(f:Wq q->p:=by(intro hW;(refine zs3 ?_;refine xh ?_;refine ff ?_);exact hW.out)):p:=f ⟨h⟩
theorem zs127{p q:Prop}(h:q)(f:Wq q->p:=by(intro hW;(refine cJ ?_;refine kF ?_;refine zs45 ?_;refine aK ?_);exact hW.out)):p:=f ⟨h⟩
theorem lX{p q:Prop}(h:q)(f:Wq q->p:=by(intro hW;(refine nX ?_;refine dD ?_;refine zs127 ?_);exact hW.out)):p:=f ⟨h⟩
theorem zb10{p:Prop}(h:p:=by(first|(apply dB;(exact rfl);(focus((apply aB;(conv=>lhs;whnf);(first|done|exact rfl))));(focus((apply aB;(conv=>lhs;whnf);(first|done|exact rfl))));(exact rfl))|(apply Ia;(exact rfl);(focus((apply aB;(conv=>lhs;whnf);(first|done|exact rfl))));(focus((apply aB;(conv=>lhs;whnf);(first|done|exact rfl))));(kernel_rfl)))):p:=h
theorem AI{p q:Prop}(h:q)(f:Wq q->p:=by(intro hW;(refine aL1 rfl rfl rfl zb10 ?_);exact hW.out)):p:=f ⟨h⟩
theorem zs61{p q:Prop}(h:q)(f:Wq q->p:=by(intro hW;((first|(refine aLs rfl rfl rfl rfl ?_ ?_;(focus(apply bF;(conv=>lhs;whnf);(first|done|exact rfl|(apply bA;(first|(apply aq;omega)|(apply ao;omega)|assumption|(simp;done)))))))|refine aLw rfl rfl rfl rfl cZ zb39 ?_));exact hW.out)):p:=f ⟨h⟩
theorem wZ{p q:Prop}(h:q)(f:Wq q->p:=by(intro hW;((first|(refine aLs rfl rfl rfl rfl ?_ ?_;(focus(apply bF;(conv=>lhs;whnf);(first|done|exact rfl|(apply bA;(first|(apply aq;omega)|(apply ao;omega)|assumption|(simp;done)))))))|refine aLw rfl rfl rfl rfl cZ Bp ?_));exact hW.out)):p:=f ⟨h⟩
theorem Bn{p:Prop}(h:p:=by(apply Gn;(exact rfl);(focus((apply aB;(conv=>lhs;whnf);(first|done|exact rfl)))))):p:=h
theorem uE{p q:Prop}(h:q)(f:Wq q->p:=by(intro hW;((first|(refine aLs rfl rfl rfl rfl ?_ ?_;(focus(apply bF;(conv=>lhs;whnf);(first|done|exact rfl|(apply bA;(first|(apply aq;omega)|(apply ao;omega)|assumption|(simp;done)))))))|refine aLw rfl rfl rfl rfl cZ Bn ?_));exact hW.out)):p:=f ⟨h⟩
theorem Hn{p q:Prop}(h:q)(f:Wq q->p:=by(intro hW;(refine bI ?_;refine gh ?_;refine ff ?_;refine AI ?_;refine zs3 ?_;refine zs5 ?_;refine zs61 ?_;refine wZ ?_;refine uE ?_;refine zs7 ?_;refine cw ?_);exact hW.out)):p:=f ⟨h⟩
theorem iK{p q:Prop}(h:q)(f:Wq q->p:=by(intro hW;(refine aL1 rfl rfl rfl Bn ?_);exact hW.out)):p:=f ⟨h⟩
theorem zb23{p:Prop}(h:p:=by(apply qu;(exact rfl);(focus((apply aB;(conv=>lhs;whnf);(first|done|exact rfl))));(exact cI);(kernel_rfl);(kernel_rfl);(focus(first|exact ns _|exact rfl));(focus(first|omega|(simp;omega))))):p:=h
theorem zs34{p q:Prop}(h:q)(f:Wq q->p:=by(intro hW;((first|refine aN1 rfl rfl rfl xu ?_|refine aN1o rfl rfl rfl xu ?_));exact hW.out)):p:=f ⟨h⟩
theorem gE{p q:Prop}(h:q)(f:Wq q->p:=by(intro hW;((first|refine fo rfl rfl rfl av mS av av ?_|((try refine bp ?_);refine aL1 rfl rfl rfl mS ?_)));exact hW.out)):p:=f ⟨h⟩
theorem sW{p q:Prop}(h:q)(f:Wq q->p:=by(intro hW;(refine cJ ?_;refine zs4 ?_;refine aK ?_);exact hW.out)):p:=f ⟨h⟩
theorem nU{p q:Prop}(h:q)(f:Wq q->p:=by(intro hW;(refine aL1 rfl rfl rfl (by(apply Gq;(exact rfl);(focus((apply aB;(conv=>lhs;whnf);(first|done|exact rfl))));(exact rfl))) ?_);exact hW.out)):p:=f ⟨h⟩
theorem Bf{p q:Prop}(h:q)(f:Wq q->p:=by(intro hW;(refine gar ?_;refine nU ?_;refine zs2 ?_;refine aK ?_);exact hW.out)):p:=f ⟨h⟩
theorem qC{p q:Prop}(h:q)(f:Wq q->p:=by(intro hW;(refine zs1 ?_;refine Bf ?_;refine zs1 ?_);exact hW.out)):p:=f ⟨h⟩
theorem zb3{p:Prop}(h:p:=by(first|(apply oZ;(exact rfl);(focus((apply aB;(conv=>lhs;whnf);(first|done|exact rfl))));(focus((apply aB;(conv=>lhs;whnf);(first|done|exact rfl))));(kernel_rfl);(kernel_rfl);(omega);(focus((first|(apply yx;(focus assumption);(focus assumption))|(apply get_map;assumption)|(apply get_own;assumption)))))|(apply d_index_own;(exact rfl);(focus((apply aB;(conv=>lhs;whnf);(first|done|exact rfl))));(focus((apply aB;(conv=>lhs;whnf);(first|done|exact rfl))));(focus((repeat(first|exact bn|refine bq _ ?_))));(kernel_rfl);(kernel_rfl);(focus(first|omega|(simp;omega)));(focus(first|(apply offs_nat;assumption)|exact rfl))))):p:=h
theorem zs37{p q:Prop}(h:q)(f:Wq q->p:=by(intro hW;((first|refine fo rfl rfl rfl av zb3 av av ?_|((try refine bp ?_);refine aL1 rfl rfl rfl zb3 ?_)));exact hW.out)):p:=f ⟨h⟩
theorem lh{p q:Prop}(h:q)(f:Wq q->p:=by(intro hW;((first|refine aN1 rfl rfl rfl mS ?_|refine aN1o rfl rfl rfl mS ?_));exact hW.out)):p:=f ⟨h⟩
theorem zs123{p q:Prop}(h:q)(f:Wq q->p:=by(intro hW;(refine cJ ?_;refine gh ?_;refine zs4 ?_;refine aK ?_);exact hW.out)):p:=f ⟨h⟩
theorem AQ{p q:Prop}(h:q)(f:Wq q->p:=by(intro hW;(refine zs1 ?_;refine zs123 ?_);exact hW.out)):p:=f ⟨h⟩
theorem jS{p q:Prop}(h:q)(f:Wq q->p:=by(intro hW;(refine AQ ?_;refine cq ?_);exact hW.out)):p:=f ⟨h⟩
theorem zs31{p q:Prop}(h:q)(f:Wq q->p:=by(intro hW;((first|refine aN1 rfl rfl rfl zb18 ?_|refine aN1o rfl rfl rfl zb18 ?_));exact hW.out)):p:=f ⟨h⟩
theorem xe{p q:Prop}(h:q)(f:Wq q->p:=by(intro hW;((first|refine fo rfl rfl rfl av xu av av ?_|((try refine bp ?_);refine aL1 rfl rfl rfl xu ?_)));exact hW.out)):p:=f ⟨h⟩
theorem zs40{p q:Prop}(h:q)(f:Wq q->p:=by(intro hW;((first|refine fo rfl rfl rfl av zb12 av av ?_|((try refine bp ?_);refine aL1 rfl rfl rfl zb12 ?_)));exact hW.out)):p:=f ⟨h⟩
theorem zb14{p:Prop}(h:p:=by(apply vB;(exact rfl);(focus((apply aB;(conv=>lhs;whnf);(first|done|exact rfl))));(focus((apply aB;(conv=>lhs;whnf);(first|done|exact rfl))));(focus((apply aB;(conv=>lhs;whnf);(first|done|exact rfl))));(exact rfl);(exact rfl);(exact rfl);(assumption);(exact rfl))):p:=h
theorem zs39{p q:Prop}(h:q)(f:Wq q->p:=by(intro hW;((first|refine fo rfl rfl rfl av zb14 av av ?_|((try refine bp ?_);refine aL1 rfl rfl rfl zb14 ?_)));exact hW.out)):p:=f ⟨h⟩
theorem Bg{p q:Prop}(h:q)(f:Wq q->p:=by(intro hW;(refine cJ ?_;refine xg ?_;refine xf ?_;refine cw ?_);exact hW.out)):p:=f ⟨h⟩
theorem zs48{p q:Prop}(h:q)(f:Wq q->p:=by(intro hW;((first|(apply az 10;(focus kernel_rfl);(decide+kernel))|(apply az 9;(focus kernel_rfl);(decide+kernel))|(apply az 8;(focus kernel_rfl);(decide+kernel))|(apply az 7;(focus kernel_rfl);(decide+kernel))|(apply az 6;(focus kernel_rfl);(decide+kernel))|(apply az 5;(focus kernel_rfl);(decide+kernel))|(apply az 4;(focus kernel_rfl);(decide+kernel))|(apply az 3;(focus kernel_rfl);(decide+kernel)));simp only[fT,eU,gK,ft]);exact hW.out)):p:=f ⟨h⟩
theorem zb5{p:Prop}(h:p:=by(first|(apply yX;(exact rfl);(focus((apply aB;(conv=>lhs;whnf);(first|done|exact rfl))));(focus(first|exact rfl|(apply aq;omega)|assumption|(simp;done)));(exact jI))|(apply yY;(exact rfl);(focus((apply aB;(conv=>lhs;whnf);(first|done|exact rfl))));(focus(first|exact rfl|(apply ao;omega)|assumption|(simp;done)));(focus((apply aB;(conv=>lhs;whnf);(first|done|exact rfl)))))|(apply d_pick;(exact rfl);(focus((apply aB;(conv=>lhs;whnf);(first|done|exact rfl))));(exact jI);(focus((apply aB;(conv=>lhs;whnf);(first|done|exact rfl))));(exact rfl)))):p:=h
theorem zs56{p q:Prop}(h:q)(f:Wq q->p:=by(intro hW;((first|refine fo rfl rfl rfl av zb5 av av ?_|((try refine bp ?_);refine aL1 rfl rfl rfl zb5 ?_)));exact hW.out)):p:=f ⟨h⟩
theorem zs54{p q:Prop}(h:q)(f:Wq q->p:=by(intro hW;((first|(first|(refine aHs rfl rfl rfl rfl rfl ?_ ?_;(focus(apply bF;(conv=>lhs;whnf);(first|done|exact rfl|(apply bA;(first|(apply aq;omega)|(apply ao;omega)|assumption|(simp;done)))))))|refine CN rfl rfl rfl rfl rfl cZ av zb28 av av ?_)|((try refine bp ?_);(first|(refine aLs rfl rfl rfl rfl ?_ ?_;(focus(apply bF;(conv=>lhs;whnf);(first|done|exact rfl|(apply bA;(first|(apply aq;omega)|(apply ao;omega)|assumption|(simp;done)))))))|refine aLw rfl rfl rfl rfl cZ zb28 ?_))));exact hW.out)):p:=f ⟨h⟩
theorem zs52{p q:Prop}(h:q)(f:Wq q->p:=by(intro hW;((first|(first|(refine aHs rfl rfl rfl rfl rfl ?_ ?_;(focus(apply bF;(conv=>lhs;whnf);(first|done|exact rfl|(apply bA;(first|(apply aq;omega)|(apply ao;omega)|assumption|(simp;done)))))))|refine CN rfl rfl rfl rfl rfl cZ av mS av av ?_)|((try refine bp ?_);(first|(refine aLs rfl rfl rfl rfl ?_ ?_;(focus(apply bF;(conv=>lhs;whnf);(first|done|exact rfl|(apply bA;(first|(apply aq;omega)|(apply ao;omega)|assumption|(simp;done)))))))|refine aLw rfl rfl rfl rfl cZ mS ?_))));exact hW.out)):p:=f ⟨h⟩
theorem zs49{p q:Prop}(h:q)(f:Wq q->p:=by(intro hW;((first|refine fo rfl rfl rfl av Bo av av ?_|((try refine bp ?_);refine aL1 rfl rfl rfl Bo ?_)));exact hW.out)):p:=f ⟨h⟩
theorem zs55{p q:Prop}(h:q)(f:Wq q->p:=by(intro hW;((first|(first|(refine aHs rfl rfl rfl rfl rfl ?_ ?_;(focus(apply bF;(conv=>lhs;whnf);(first|done|exact rfl|(apply bA;(first|(apply aq;omega)|(apply ao;omega)|assumption|(simp;done)))))))|refine CN rfl rfl rfl rfl rfl cZ av uP av av ?_)|((try refine bp ?_);(first|(refine aLs rfl rfl rfl rfl ?_ ?_;(focus(apply bF;(conv=>lhs;whnf);(first|done|exact rfl|(apply bA;(first|(apply aq;omega)|(apply ao;omega)|assumption|(simp;done)))))))|refine aLw rfl rfl rfl rfl cZ uP ?_))));exact hW.out)):p:=f ⟨h⟩
theorem zs51{p q:Prop}(h:q)(f:Wq q->p:=by(intro hW;((first|refine fo rfl rfl rfl av uP av av ?_|((try refine bp ?_);refine aL1 rfl rfl rfl uP ?_)));exact hW.out)):p:=f ⟨h⟩
theorem zs53{p q:Prop}(h:q)(f:Wq q->p:=by(intro hW;((first|(first|(refine aHs rfl rfl rfl rfl rfl ?_ ?_;(focus(apply bF;(conv=>lhs;whnf);(first|done|exact rfl|(apply bA;(first|(apply aq;omega)|(apply ao;omega)|assumption|(simp;done)))))))|refine CN rfl rfl rfl rfl rfl cZ av zb1 av av ?_)|((try refine bp ?_);(first|(refine aLs rfl rfl rfl rfl ?_ ?_;(focus(apply bF;(conv=>lhs;whnf);(first|done|exact rfl|(apply bA;(first|(apply aq;omega)|(apply ao;omega)|assumption|(simp;done)))))))|refine aLw rfl rfl rfl rfl cZ zb1 ?_))));exact hW.out)):p:=f ⟨h⟩
theorem py{p q:Prop}(h:q)(f:Wq q->p:=by(intro hW;((first|refine fo rfl rfl rfl av zb1 av av ?_|((try refine bp ?_);refine aL1 rfl rfl rfl zb1 ?_)));exact hW.out)):p:=f ⟨h⟩
theorem Ho{p q:Prop}(h:q)(f:Wq q->p:=by(intro hW;(refine zs48 ?_;refine gE ?_;refine zs49 ?_;refine py ?_;refine zs51 ?_;refine gE ?_;refine zs52 ?_;refine zs53 ?_;refine zs54 ?_;refine zs55 ?_;refine zs56 ?_;refine xe ?_;refine nV ?_);exact hW.out)):p:=f ⟨h⟩
theorem jP{p q:Prop}(h:q)(f:Wq q->p:=by(intro hW;(refine AQ ?_;refine bc ?_);exact hW.out)):p:=f ⟨h⟩
theorem zs44{p q:Prop}(h:q)(f:Wq q->p:=by(intro hW;(refine aL1 rfl rfl rfl zb14 ?_);exact hW.out)):p:=f ⟨h⟩
theorem zs124{p q:Prop}(h:q)(f:Wq q->p:=by(intro hW;(refine bI ?_;refine AX ?_;refine cw ?_);exact hW.out)):p:=f ⟨h⟩
theorem jT{p q:Prop}(h:q)(f:Wq q->p:=by(intro hW;(refine zs124 ?_;refine zs1 ?_);exact hW.out)):p:=f ⟨h⟩
theorem AK{p q:Prop}(h:q)(f:Wq q->p:=by(intro hW;((first|refine fo rfl rfl rfl av zb0 av av ?_|((try refine bp ?_);refine aL1 rfl rfl rfl zb0 ?_)));exact hW.out)):p:=f ⟨h⟩
end
section
open Go.RowKit
namespace DW
abbrev qF(n:Int)(g:Mx.Mat):D:=.st [zI n,dM g]
abbrev gJ(l:List Int):List D:=l.map zI
def nn(l:List Nat):List Int:=l.map fun i:Nat=>(i:Int)
theorem tV(l:List Nat):(nn l).length=l.length:=by unfold nn;rw[br]
theorem KZ{l:List Nat}{k c:Nat}(h:l[k]?=some c):(nn l)[k]?=some (c:Int):=by
 unfold nn;rw[cR,h];rfl
theorem Jl(m:Nat):nn (List.range (m+1))=nn (List.range m)++[(m:Int)]:=by
 unfold nn;rw[List.range_succ,cN];rfl
def mtm(g:Mx.Mat)(r:Nat)(rs cs:List Nat)(k:Nat):Int:=Mx.sg k*Mx.at' g r (cs.getD k 0)*Mx.mn g rs (cs.eraseIdx k)
theorem Jw(g:Mx.Mat)(r:Nat)(rs cs:List Nat):Mx.mn g (r::rs) cs=Mx.sm (rs.length+1) (mtm g r rs cs):=by
 show Mx.sm (rs.length+1) _=_;refine Mx.cv _ _ _ fun k _=>?_;show Mx.sg k*Mx.at' g r (cs.getD k 0)*Mx.D rs.length (fun i j=>Mx.at' g ((r::rs).getD (i+1) 0) (cs.getD (Mx.skip k j) 0))=_;rw[Mx.Jt];rfl
theorem zX{g:Mx.Mat}(hb:Mx.Bd 20000 g){r:Nat}{rs cs:List Nat}{k:Nat}(hn:rs.length<=3):(mtm g r rs cs k).natAbs<=960000000000000000:=by
 unfold mtm;refine aX (jL (A:=20000) (B:=48000000000000) ?_ (Mx.mn_bd hb _ _ hn)) ay;rw[gF,Mx.nH,cC];exact hb r _
theorem K6{g:Mx.Mat}(hb:Mx.Bd 20000 g){r:Nat}{rs cs:List Nat}{k:Nat}(hn:rs.length<=3)(hk:k<=4):(Mx.sm k (mtm g r rs cs)).natAbs<=3840000000000000000:=by
 refine aX (Mx.nF k _ _ fun l _=>zX hb hn) ?_;exact aX (cS _ hk) ay
set_option maxRecDepth 20000
set_option maxHeartbeats 2000000
theorem rO(l:List Int)(hl:l.length<=1000000)(K:Nat)(hK:hdr K=false):FnG Tryz.prog 79 [dI l] [] (.own K) [(K,⟨3,1,gJ l⟩)]:=by
 refine⟨enters_of Tryz.func79 ak rfl,sT.mv (a:=3) ?_ rfl hK⟩;refine Ad Tryz.func79 rfl rfl (fun _ hp=>by cases hp) fun X0=>?_;simp only[aA];refine jW ?_;refine gar ?_;refine zs29 ?_;refine zs3 ?_;refine zs11 ?_;refine dC ?_;exact⟨_,Sh.refl,.own 2 3 rfl rfl,rfl⟩
theorem yi{g:Mx.Mat}{n:Nat}(hg:g.length=n)(hR:Mx.Rc n g)(hb:Mx.Bd 20000 g):∀(rs cs:List Nat),rs.length<=4->cs.length=rs.length->(∀r∈rs,r<n)->(∀c∈cs,c<n)->Fn Tryz.prog 283 [dM g,dI (nn rs),dI (nn cs)] (zI (Mx.mn g rs cs))
 |[],cs,_,_,_,_=>by
  have hz:(nn []).length=0:=rfl;have hm1:Mx.mn g [] cs=1:=rfl;rw[hm1];generalize nn []=R at*;generalize nn cs=C;refine aF Tryz.func283 ak rfl rfl rfl fun X0=>?_;simp only[aA];refine cH ?_;refine qG ?_;refine db ?_;exact⟨_,Sh.refl,.one (.tmp 6) _ rfl (.tmp 6 rfl)⟩
 |r::rs,cs,h4,hcs,hrs,hcn=>by
  rw[eV]at h4 hcs;have hr:=hrs r bn;have h3:rs.length<=3:=by omega
  have IH:∀k,k<rs.length+1->Fn Tryz.prog 283 [dM g,.ls 1 (((nn (r::rs)).map zI).drop 1),.ls 1 (gJ ((nn cs).take k)++((nn cs).map zI).drop (k+1))] (zI (Mx.mn g rs (cs.eraseIdx k))):=fun k hk=>by
   have:=yi hg hR hb rs (cs.eraseIdx k) aa (by rw[tf aa];omega) (fun x hx=>hrs x (bq _ hx)) (fun x hx=>hcn x (List.mem_of_mem_eraseIdx hx));have e:nn (cs.eraseIdx k)=(nn cs).take k++(nn cs).drop (k+1):=by
    unfold nn;rw[xC,cN,nk,List.map_drop]
   have e2:(nn (cs.eraseIdx k)).map zI=gJ ((nn cs).take k)++((nn cs).map zI).drop (k+1):=by rw[e,cN,List.map_drop]
   rw[<-e2];exact this
  have CP:∀k,FnG Tryz.prog 79 [.ls 1 (((nn cs).map zI).take k)] [] (.own 23) [(23,⟨3,1,gJ ((nn cs).take k)⟩)]:=fun k=>by
   have:=rO ((nn cs).take k) (by rw[aQ,tV];omega) 23 rfl;rw[<-nk];exact this
  have hSB:=fun k (hk:k<=4)=>K6 hb (r:=r) (rs:=rs) (cs:=cs) (k:=k) h3 hk;have hTB:=fun k=>zX hb (r:=r) (rs:=rs) (cs:=cs) (k:=k) h3;have hC:∀k,k<rs.length+1->∃c,c<n/\cs.getD k 0=c/\(nn cs)[k]?=some (c:Int):=fun k hk=>by
   obtain⟨c,hc⟩:=get_some (m:=cs) (k:=k) aa;exact⟨c,hcn c (bf hc),by rw[aH,hc];rfl,KZ hc⟩
  have hR0:(nn (r::rs))[0]?=some (r:Int):=rfl;have hRl:(nn (r::rs)).length=rs.length+1:=tV _;have hCl:(nn cs).length=rs.length+1:=by rw[tV];exact hcs
  obtain⟨x,hx⟩:=get_some (m:=g) (k:=r) aa;have hxl:=hR x (bf hx);have hxa:∀c,Mx.at' g r c=x.getD c 0:=fun c=>by unfold Mx.at';rw[Mx.cM hx]
  have hc0:(0:Int)=((0:Nat):Int):=rfl;rw[Jw];obtain⟨M,hM⟩:∃M,M=rs.length+1:=⟨_,rfl⟩;rw[<-hM]at IH hC hRl hCl;rw[<-hM];have hM4:M<=4:=by omega
  obtain⟨T,hT⟩:∃T,T=mtm g r rs cs:=⟨_,rfl⟩;have hTk:∀k,T k=Mx.sg k*Mx.at' g r (cs.getD k 0)*Mx.mn g rs (cs.eraseIdx k):=fun k=>by rw[hT];rfl
  rw[<-hT]at hSB hTB;rw[<-hT];generalize nn (r::rs)=R at*;generalize nn cs=C at*;have hb0:=fun c=>hb r c;clear hb hR hrs hcn hcs h4 h3 hT;refine aF Tryz.func283 ak rfl rfl rfl fun X0=>?_;simp only[aA];refine cH ?_;refine qG ?_;refine bc ?_;refine gar ?_;refine lj ?_;refine lj ?_;refine aK ?_;refine cH ?_
  (refine bh (aO (sl':=[(0,dM g),(1,dI R),(2,dI C),(7,zI 0),(8,zI 1),(9,zI 0)]) (ow':=[]) ba aZ) ?_)
  refine bw (fun q s=>∃k,k<=M/\q=M-k/\s=⟨[(0,dM g),(1,dI R),(2,dI C),(7,zI (Mx.sm k T)),(8,zI (Mx.sg k)),(9,zI (k:Nat))],[]⟩) (m:=M) ⟨0,aP _,rfl,rfl⟩ fun q s hs=>?_;obtain⟨k,hk,rfl,rfl⟩:=hs;by_cases hkl:k<M
  ·obtain⟨c,hcl,hcD,hcC⟩:=hC k hkl;obtain⟨y,hy⟩:=get_some (m:=x) (k:=c) aa;have ey:Mx.at' g r c=y:=by rw[hxa,aH,hy];rfl
   have hS1:Mx.sm (k+1) T=Mx.sm k T+T k:=rfl;have hg1:=Mx.nG k;have bg:=Mx.nH k;have bS:=hSB k aa;have bS1:=hSB (k+1) aa;have bT:=hTB k;have IHk:=IH k hkl;have CPk:=CP k;have bX:=hb0 c;have hdt:=hTk k;rw[hcD,ey]at hdt;rw[ey]at bX;obtain⟨S,hS⟩:∃S,S=Mx.sm k T:=⟨_,rfl⟩;obtain⟨Dm,hDm⟩:∃Dm,Dm=Mx.mn g rs (cs.eraseIdx k):=⟨_,rfl⟩;obtain⟨G,hG⟩:∃G,G=Mx.sg k:=⟨_,rfl⟩;rw[<-hG]at hg1 bg hdt;rw[<-hDm]at IHk hdt;rw[hdt]at bT hS1;rw[hS1]at bS1;rw[<-hS]at hS1 bS bS1;have bGX:(G*y).natAbs<=20000:=by rw[gF,bg,cC];exact bX
   have hgl:(gJ (C.take k)).length<=4:=by unfold gJ;rw[br,aQ];omega
   rw[<-hS,<-hG];clear hS hDm hG IH CP hSB hTB hb0 ey hxa hTk hdt hcD hC;refine jS ?_;(refine EP [23,1000000023] ak (by(apply ib;(focus((apply ib;(exact wb);(focus((repeat(first|exact iR|(apply gP;(exact rfl))|(apply iS;(exact rfl)))))))));(focus((repeat(first|exact iR|(apply gP;(exact rfl))|(apply iS;(exact rfl)))))))) ?_);refine lh ?_;refine lh ?_;refine zs31 ?_;(refine ES rfl rfl rfl rfl ei (CPk) av av ?_);refine lh ?_;refine lh ?_;refine zs32 ?_;refine zs33 ?_;(refine ET (k:=23) rfl rfl rfl rfl ei ei cK av uO ak ak (by(simp only[br,aQ,ep];omega)) zb41 ?_);refine zs34 ?_;(refine EU ak ?_);refine zs1 ?_;((first|(apply az 22;(focus kernel_rfl);(decide+kernel))|(apply az 21;(focus kernel_rfl);(decide+kernel))|(apply az 20;(focus kernel_rfl);(decide+kernel))|(apply az 19;(focus kernel_rfl);(decide+kernel))|(apply az 18;(focus kernel_rfl);(decide+kernel))|(apply az 17;(focus kernel_rfl);(decide+kernel))|(apply az 16;(focus kernel_rfl);(decide+kernel))|(apply az 15;(focus kernel_rfl);(decide+kernel)));simp only[fT,eU,gK,ft]);refine gE ?_;refine gE ?_;refine gE ?_;refine gE ?_;(first|refine fo rfl rfl rfl av zb7 av av ?_|((try refine bp ?_);refine aL1 rfl rfl rfl zb7 ?_));refine AK ?_;refine zs37 ?_;refine AK ?_;refine gE ?_;refine gE ?_;refine zs37 ?_;refine AK ?_;refine zs37 ?_;refine AK ?_;refine uF ?_;refine gE ?_;refine gE ?_;(first|refine fo rfl rfl rfl av zb23 av av ?_|((try refine bp ?_);refine aL1 rfl rfl rfl zb23 ?_));refine gE ?_;refine zs39 ?_;refine uF ?_;refine zs40 ?_;refine xe ?_;refine nV ?_;refine zs1 ?_;refine bI ?_;refine AJ ?_;refine dC ?_;refine jT ?_;simp only[nx];exact⟨M-(k+1),_,by omega,(aO (sl':=[(0,dM g),(1,dI R),(2,dI C),(7,zI (S+G*y*Dm)),(8,zI (-G)),(9,zI ((k+1:Nat):Int))]) (ow':=[]) ba aZ),k+1,by omega,rfl,by rw[hS1,hg1]⟩
  ·obtain rfl:k=M:=by omega
   generalize Mx.sm k T=S;generalize Mx.sg k=G;refine jP ?_;refine dD ?_;exact⟨_,Sh.refl,.one (.tmp 6) _ rfl (.tmp 6 rfl)⟩
theorem Fx(n:Nat)(hn:n<=1000):Fn Tryz.prog 284 [zI n] (dI (nn (List.range n))):=by
 refine aF Tryz.func284 ak rfl rfl rfl fun X0=>?_;simp only[aA];refine jW ?_;refine lY ?_;refine cH ?_;refine bh (ik (t:=3) (k:=3) (T:=3) (wd:=1) mR rfl rfl fE) ?_
 (refine bh (aO (sl':=[(0,zI n),(3,.own 3),(4,zI 0)]) (ow':=[(3,⟨3,1,[]⟩)]) ba aZ) ?_)
 refine bw (fun q s=>∃k,k<=n/\q=n-k/\s=⟨[(0,zI n),(3,.own 3),(4,zI (k:Nat))],[(3,⟨3,1,(nn (List.range k)).map zI⟩)]⟩) (m:=n) ⟨0,aP _,rfl,rfl⟩ fun q s hs=>?_;obtain⟨k,hk,rfl,rfl⟩:=hs;by_cases hkl:k<n
 ·have hsn:(nn (List.range (k+1))).map zI=(nn (List.range k)).map zI++[zI (k:Nat)]:=by rw[Jl,cN];rfl
  have hil:(nn (List.range k)).length=k:=by rw[tV,List.length_range]
  generalize nn (List.range k)=I at*;refine zs1 ?_;refine sW ?_;refine cq ?_;refine Bg ?_;refine zs1 ?_;refine jT ?_;simp only[nx];exact⟨n-(k+1),_,by omega,(aO (sl':=[(0,zI n),(3,.own 3),(4,zI ((k+1:Nat):Int))]) (ow':=[(3,⟨3,1,I.map zI++[zI (k:Nat)]⟩)]) ba aZ),k+1,by omega,rfl,by rw[hsn]⟩
 ·obtain rfl:k=n:=by omega
  generalize nn (List.range k)=I;refine zs1 ?_;refine sW ?_;refine bc ?_;refine bh (bN (k:=3) cK dX dV) ?_;refine zs1 ?_;refine dD ?_;exact⟨_,Sh.refl,.one (.tmp 2) _ rfl (.tmp 2 rfl)⟩
theorem I8{g:Mx.Mat}{n:Nat}(hg:g.length=n)(hR:Mx.Rc n g)(hb:Mx.Bd 20000 g)(hn:n<=4){m:Nat}(hm:m<=n):Fn Tryz.prog 169 [dM g,zI m] (zI (Mx.D m (Mx.at' g))):=by
 have FI:=Fx m aa;have MI:=yi hg hR hb (List.range m) (List.range m) (by rw[List.length_range];omega) rfl (fun r hr=>by have:=tg.1 hr;omega) (fun r hr=>by have:=tg.1 hr;omega);rw[Mx.Jv]at MI;generalize nn (List.range m)=I at*;generalize Mx.D m (Mx.at' g)=d at*;refine aF Tryz.func169 ak rfl rfl rfl fun X0=>?_;simp only[aA];refine cH ?_;refine cJ ?_;refine gg ?_;refine zs3 ?_;refine gg ?_;refine zs44 ?_;refine dC ?_;exact⟨_,Sh.refl,.one (.tmp 4) _ rfl (.tmp 4 rfl)⟩
end DW
end
section
open Go.ChangeShapes Go.WideShapes Go.ChangeAt Go.RowKit Go.Joins Go.Deep
theorem DW.ar_qF{X:Nat->Prop}{w:World}{n:Int}{m:Mx.Mat}{u:Value}(h:DW.AR X w (DW.dM m) u):DW.AR X w (DW.qF n m) (.agg #[.int .i64 n,u]):=by
 simp only[DW.dM,DW.AR]at h;simp only[DW.qF,DW.AR,DW.ASt];have h2:=h;obtain⟨a,c,rfl,_⟩:=h2;exact⟨_,rfl,.int .i64 n,_,rfl,⟨rfl,rfl⟩,rfl,_,[],rfl,h,rfl,rfl⟩
set_option maxRecDepth 100000 in
theorem Ei{H:Type}{enc:TypeId×Value->H}{w:World}{base b0:Nat}{spare:Nat->Bool}{held:Bool}{r:Reach}{v:Value}{d:DataW H}{p:List MemPlace}
  (hv:Value.okWide Tryz.prog w r b0 79 v) (h:DataW.Trod enc Tryz.prog w base spare held 79 v d p):∃(n:Int) (m:List (List Int)),I64 n/\DW.AR (fun _=>False) w (DW.qF n m) v:=by
 obtain⟨v0,v1,y0,y1,n,rfl,_,_,g0,g1⟩:=open_agg2 Tryz.underlying79 ak ak hv h;obtain⟨a0,e0,_,w0⟩:=DataW.trod_int Tryz.underlying3 g0;simp at e0;subst e0;obtain⟨m,hm⟩:=Eo g1;exact⟨a0,m,bounds_i64 w0,DW.ar_qF hm⟩
end
section
open Go.RowKit
namespace DW
section
variable {P : Program} {X0 : Nat->Prop} {n : Nat} {Q : Exit->S->Prop} {s : S} {sl : List (Nat × D)} {ow : List (Nat × Ow)} {o : Oper} {ops : Array Oper} {l : List Oper} {K : S->Prop} {t : Nat} {d : D}
theorem xV{X:Nat->Prop}{f:Nat->Value}{w:World}:SR X f w (.tp []) undef:=by
 simp only[SR,AR,ATp];exact⟨#[],rfl,rfl⟩
theorem Fa{X:Nat->Prop}{f:Nat->Value}{w:World}{v:Value}(h:SR X f w (.tp []) v):v=undef:=by
 simp only[SR,AR,ATp]at h;obtain⟨vs,rfl,h⟩:=h;have:vs= #[]:=cU.1 h;rw[this];rfl
theorem BI{a:Act}{j u:Nat}{c:Bool}(hg:o.guard=some (j,c))(hj:(ops[j]?).bind (·.dst)=some u)(h:a.tmps.getD u undef=undef):Region.wanted o (yielded ops a.tmps)=false:=by
 unfold Region.wanted;rw[hg];simp only;unfold yielded;rw[hj];simp only[eS];rw[cg]at h
 cases h6:a.tmps[u]? with
 |none=>rfl
 |some v=>
  rw[h6]at h;simp only[ln]at h;subst h;rfl
theorem aLs0{j u:Nat}{c:Bool}(hg:o.guard=some (j,c))(hdst:o.dst=some t)(ht:Nat.blt t n=true)(hj:(ops[j]?).bind (·.dst)=some u)(hc:look sl u= .sc (.bool (!c)))(h:aL P X0 n ops l K ⟨(t,.tp [])::sl,ow⟩):aL P X0 n ops (o::l) K ⟨sl,ow⟩:=fun w0 f a w Q hd hq=>by
 have ht':cr n o=true:=by unfold cr;rw[hdst];simpa[aV]using ht
 have h':aL P X0 n ops l K ((⟨sl,ow⟩:S).put o.dst (.tp [])):=by rw[hdst];exact h
 have hi:HI (XO X0 ⟨sl,ow⟩ f) n w f Own3.Fs.none [] ⟨sl,ow⟩ a:=⟨hd.sz,hd.df,fun t _=>hd.sl t,fun t u e=>by simp[eC]at e⟩;have hw:=hi.want (ops:=ops) (o:=o) (b:=false) (by simp only[di,hg];exact⟨u,!c,hj,rfl,hc,by cases c<;>rfl⟩);refine wpList_step fun K' hK=>?_;rw[ai (by rw[hw];simp)];exact hK _ _ (h' w0 f _ w Q (hd.put xV (fb ht')) hq)
theorem aLsu{j u:Nat}{c:Bool}(hg:o.guard=some (j,c))(hdst:o.dst=some t)(ht:Nat.blt t n=true)(hj:(ops[j]?).bind (·.dst)=some u)(hc:look sl u= .tp [])(h:aL P X0 n ops l K ⟨(t,.tp [])::sl,ow⟩):aL P X0 n ops (o::l) K ⟨sl,ow⟩:=fun w0 f a w Q hd hq=>by
 have ht':cr n o=true:=by unfold cr;rw[hdst];simpa[aV]using ht
 have h':aL P X0 n ops l K ((⟨sl,ow⟩:S).put o.dst (.tp [])):=by rw[hdst];exact h
 have h1:=hd.sl u;rw[show(⟨sl,ow⟩:S).gt u= .tp []from hc]at h1;have hw:=BI (ops:=ops) hg hj (Fa h1);refine wpList_step fun K' hK=>?_;rw[ai (by rw[hw];simp)];exact hK _ _ (h' w0 f _ w Q (hd.put xV (fb ht')) hq)
end
end DW
end
section
open Go.RowKit
namespace DW
def ixp{α:Type}(p:α->Bool)(l:List α):Int:=if l.any p=true then(l.findIdx p:Nat)else-1
theorem ri{α:Type}(p:α->Bool)(l:List α):decide (ixp p l>=0)=l.any p:=by
 unfold ixp
 cases h:l.any p with
 |true=>simp
 |false=>simp
theorem oS{α:Type}{p:α->Bool}{l:List α}{k:Nat}{x:α}(h:l[k]?=some x)(hx:p x=true)(hz:∀j y,j<k->l[j]?=some y->p y=false):ixp p l=k:=by
 unfold ixp;rw[aj (eR.2 ⟨x,bf h,hx⟩)];have hk:=(bW.1 h).1;have hxe:=(bW.1 h).2;congr 1;rw[List.findIdx_eq hk];refine⟨by rw[hxe];exact hx,fun j hj=>?_⟩;have:=hz j _ hj (aS aa);simpa using this
theorem oR{α:Type}{p:α->Bool}{l:List α}(hz:∀j y,j<l.length->l[j]?=some y->p y=false):ixp p l= -1:=by
 unfold ixp;rw[ai];intro h;obtain⟨x,hx,h2⟩:=eR.1 h;obtain⟨j,hj,e⟩:=td hx;rw[hz j x hj Bj]at h2;cases h2
set_option maxRecDepth 20000
set_option maxHeartbeats 1000000
theorem ixI_d(g:Nat)(cs:List D)(p:Int->Bool)(l:List (Int))(hl:l.length<=1000000)(hg:∀z∈l,Fn Tryz.prog g (zI z::cs) (.sc (.bool (p z)))):Fn Tryz.prog 315 [dI l,.cl g cs] (zI (ixp p l)):=by
 refine aF Tryz.func315 ak rfl rfl rfl fun X0=>?_;simp only[aA];refine cH ?_;refine jO ?_
 (refine bh (aO (sl':=[(0,dI l),(1,.cl g cs),(6,dI l),(7,zI l.length),(8,zI 0)]) (ow':=[]) ba aZ) ?_)
 refine bw (fun r s=>∃k,k<=l.length/\r=l.length-k/\(∀j y,j<k->l[j]?=some y->p y=false)/\s=⟨[(0,dI l),(1,.cl g cs),(6,dI l),(7,zI l.length),(8,zI (k:Nat))],[]⟩) (m:=l.length) ⟨0,aP _,rfl,fun j y hj=>absurd hj (pD j),rfl⟩ fun r s hs=>?_;obtain⟨k,hk,rfl,hz,rfl⟩:=hs;by_cases hkl:k<l.length
 ·obtain⟨x,hx⟩:=get_some hkl;have GX:=hg x (bf hx)
  cases h0:p x with
  |false=>
   rw[h0]at GX;refine lX ?_;refine jU ?_;simp only[nx];exact⟨l.length-(k+1),_,by omega,(aO (sl':=[(0,dI l),(1,.cl g cs),(6,dI l),(7,zI l.length),(8,zI ((k+1:Nat):Int))]) (ow':=[]) ba aZ),k+1,by omega,rfl,fun j y hj hy=>by
    by_cases e:j=k
    ·subst e;rw[hx]at hy;cases hy;exact h0
    ·exact hz j y aa hy,rfl⟩
  |true=>
   rw[h0]at GX;have EC:=oS hx h0 hz;refine lX ?_;refine cq ?_;refine dD ?_;rw[EC];exact⟨_,Sh.refl,.one (.tmp 4) _ rfl (.tmp 4 rfl)⟩
 ·obtain rfl:k=l.length:=by omega
  have EC:=oR hz;refine gu ?_;refine dQ ?_;rw[EC];exact⟨_,Sh.refl,.one (.tmp 4) _ rfl (.tmp 4 rfl)⟩
theorem anI_d(g:Nat)(cs:List D)(p:Int->Bool)(l:List (Int))(hl:l.length<=1000000)(hg:∀z∈l,Fn Tryz.prog g (zI z::cs) (.sc (.bool (p z)))):Fn Tryz.prog 235 [dI l,.cl g cs] (.sc (.bool (l.any p))):=by
 have IX:=ixI_d g cs p l hl hg;rw[<-ri];refine aF Tryz.func235 ak rfl rfl rfl fun X0=>?_;simp only[aA];refine cX ?_;refine wD ?_;refine zs1 ?_;exact⟨_,Sh.refl,.one (.tmp 4) _ rfl (.tmp 4 rfl)⟩
theorem ixM_d(g:Nat)(cs:List D)(p:List Int->Bool)(l:List (List Int))(hl:l.length<=1000000)(hg:∀z∈l,Fn Tryz.prog g (dI z::cs) (.sc (.bool (p z)))):Fn Tryz.prog 345 [dM l,.cl g cs] (zI (ixp p l)):=by
 refine aF Tryz.func345 ak rfl rfl rfl fun X0=>?_;simp only[aA];refine cH ?_;refine jO ?_
 (refine bh (aO (sl':=[(0,dM l),(1,.cl g cs),(6,dM l),(7,zI l.length),(8,zI 0)]) (ow':=[]) ba aZ) ?_)
 refine bw (fun r s=>∃k,k<=l.length/\r=l.length-k/\(∀j y,j<k->l[j]?=some y->p y=false)/\s=⟨[(0,dM l),(1,.cl g cs),(6,dM l),(7,zI l.length),(8,zI (k:Nat))],[]⟩) (m:=l.length) ⟨0,aP _,rfl,fun j y hj=>absurd hj (pD j),rfl⟩ fun r s hs=>?_;obtain⟨k,hk,rfl,hz,rfl⟩:=hs;by_cases hkl:k<l.length
 ·obtain⟨x,hx⟩:=get_some hkl;have GX:=hg x (bf hx)
  cases h0:p x with
  |false=>
   rw[h0]at GX;refine lX ?_;refine jU ?_;simp only[nx];exact⟨l.length-(k+1),_,by omega,(aO (sl':=[(0,dM l),(1,.cl g cs),(6,dM l),(7,zI l.length),(8,zI ((k+1:Nat):Int))]) (ow':=[]) ba aZ),k+1,by omega,rfl,fun j y hj hy=>by
    by_cases e:j=k
    ·subst e;rw[hx]at hy;cases hy;exact h0
    ·exact hz j y aa hy,rfl⟩
  |true=>
   rw[h0]at GX;have EC:=oS hx h0 hz;refine lX ?_;refine cq ?_;refine dD ?_;rw[EC];exact⟨_,Sh.refl,.one (.tmp 4) _ rfl (.tmp 4 rfl)⟩
 ·obtain rfl:k=l.length:=by omega
  have EC:=oR hz;refine gu ?_;refine dQ ?_;rw[EC];exact⟨_,Sh.refl,.one (.tmp 4) _ rfl (.tmp 4 rfl)⟩
theorem Ig(g:Nat)(cs:List D)(p:List Int->Bool)(l:List (List Int))(hl:l.length<=1000000)(hg:∀z∈l,Fn Tryz.prog g (dI z::cs) (.sc (.bool (p z)))):Fn Tryz.prog 279 [dM l,.cl g cs] (.sc (.bool (l.any p))):=by
 have IX:=ixM_d g cs p l hl hg;rw[<-ri];refine aF Tryz.func279 ak rfl rfl rfl fun X0=>?_;simp only[aA];refine cX ?_;refine wD ?_;refine zs1 ?_;exact⟨_,Sh.refl,.one (.tmp 4) _ rfl (.tmp 4 rfl)⟩
def szw(z:Int):Int:=if wrap64 (0-z)>z then wrap64 (0-z)else z
theorem zT(z:Int):Fn Tryz.prog 180 [zI z] (zI (szw z)):=by
 unfold szw;generalize hy:wrap64 (0-z)=y;refine aF Tryz.func180 ak rfl rfl rfl fun X0=>?_;simp only[aA];refine cH ?_;refine cJ ?_;refine AJ ?_;(refine aL1 rfl rfl rfl (by(apply d_max;(exact rfl);(focus((apply aB;(conv=>lhs;whnf);(first|done|exact rfl))));(focus((apply aB;(conv=>lhs;whnf);(first|done|exact rfl)))))) ?_);refine dC ?_;first|rw[hy]|skip
 exact⟨_,Sh.refl,.one (.tmp 2) _ rfl (.tmp 2 rfl)⟩
theorem IG{z:Int}(h:z.natAbs<=9223372036854775807):szw z=(z.natAbs:Int):=by
 unfold szw;rw[wO (0-z) aa];split<;>omega
theorem IE{m z:Int}(h0:0<=m)(h1:m<=1000000000000000):(decide (szw z>m)||decide (z< -m))= !inb m z:=by
 unfold szw inb;by_cases h: -m<=z/\z<=m
 ·rw[aq h.1,aq h.2,wO (0-z) aa,ao (by omega:¬z< -m),ao]
  ·rfl
  ·split<;>omega
 ·by_cases h2:z< -m
  ·rw[aq h2,ao (by omega:¬-m<=z),ll];rfl
  ·rw[aq (by omega: -m<=z),ao (by omega:¬z<=m),aq]
   ·rfl
   ·split<;>omega
theorem LW(z m:Int)(h0:0<=m)(h1:m<=1000000000000000):Fn Tryz.prog 282 [zI z,.pt (zI m)] (.sc (.bool (!inb m z))):=by
 have SZ:=zT z;rw[<-IE h0 h1];generalize szw z=y at*;by_cases h:y>m
 ·have hd:decide (y>m)=true:=aq h;rw[hd,pE];refine aF Tryz.func282 ak rfl rfl rfl fun X0=>?_;simp only[aA];refine cX ?_;refine Ho ?_;refine zs1 ?_;exact⟨_,Sh.refl,.one (.tmp 3) _ rfl (.tmp 3 rfl)⟩
 ·have hd:decide (y>m)=false:=ao h;rw[hd,Bool.false_or];refine aF Tryz.func282 ak rfl rfl rfl fun X0=>?_;simp only[aA];refine cX ?_;refine Ho ?_;refine zs1 ?_;exact⟨_,Sh.refl,.one (.tmp 3) _ rfl (.tmp 3 rfl)⟩
theorem bnd_d(r:List Int)(hr:r.length<=1000000)(m:Int)(h0:0<=m)(h1:m<=1000000000000000):Fn Tryz.prog 281 [dI r,.pt (zI m)] (.sc (.bool (r.any fun z=>!inb m z))):=by
 have AN:=anI_d 282 [.pt (zI m)] (fun z=>!inb m z) r hr fun z _=>LW z m h0 h1;refine aF Tryz.func281 ak rfl rfl rfl fun X0=>?_;simp only[aA];refine cX ?_;refine bI ?_;refine zs57 ?_;refine il ?_;refine dC ?_;exact⟨_,Sh.refl,.one (.tmp 3) _ rfl (.tmp 3 rfl)⟩
def eJ(m:Int)(g:Mx.Mat):Bool:=!(g.any fun r=>r.any fun z=>!inb m z)
theorem qy(g:Mx.Mat)(hg:g.length<=1000000)(hr:∀r∈g,r.length<=1000000)(m:Int)(h0:0<=m)(h1:m<=1000000000000000):Fn Tryz.prog 166 [dM g,zI m] (.sc (.bool (eJ m g))):=by
 have AN:=Ig 281 [.pt (zI m)] (fun r=>r.any fun z=>!inb m z) g hg fun r h=>bnd_d r (hr r h) m h0 h1;unfold eJ;refine aF Tryz.func166 ak rfl rfl rfl fun X0=>?_;simp only[aA];refine qC ?_;refine bI ?_;refine zs57 ?_;refine il ?_;refine iK ?_;refine dC ?_;exact⟨_,Sh.refl,.one (.tmp 4) _ rfl (.tmp 4 rfl)⟩
theorem sq1_d(r:List Int)(n:Int):Fn Tryz.prog 280 [dI r,.pt (zI n)] (.sc (.bool (!decide ((r.length:Int)=n)))):=by
 refine aF Tryz.func280 ak rfl rfl rfl fun X0=>?_;simp only[aA];refine cX ?_;refine bI ?_;refine gh ?_;refine ff ?_;refine nZ ?_;refine dC ?_;exact⟨_,Sh.refl,.one (.tmp 3) _ rfl (.tmp 3 rfl)⟩
def sqB(g:Mx.Mat)(n:Int):Bool:=decide ((g.length:Int)=n)&& !(g.any fun r=>!decide ((r.length:Int)=n))
theorem oB(g:Mx.Mat)(hg:g.length<=1000000)(n:Int):Fn Tryz.prog 165 [dM g,zI n] (.sc (.bool (sqB g n))):=by
 have AN:=Ig 280 [.pt (zI n)] (fun r=>!decide ((r.length:Int)=n)) g hg fun r _=>sq1_d r n;unfold sqB;by_cases h:(g.length:Int)=n
 ·have hd:decide ((g.length:Int)=n)=true:=aq h;rw[hd,fR];refine aF Tryz.func165 ak rfl rfl rfl fun X0=>?_;simp only[aA];refine qC ?_;refine Hn ?_;refine zs1 ?_;exact⟨_,Sh.refl,.one (.tmp 4) _ rfl (.tmp 4 rfl)⟩
 ·have hd:decide ((g.length:Int)=n)=false:=ao h;rw[hd,nq];refine aF Tryz.func165 ak rfl rfl rfl fun X0=>?_;simp only[aA];refine qC ?_;refine Hn ?_;refine zs1 ?_;exact⟨_,Sh.refl,.one (.tmp 4) _ rfl (.tmp 4 rfl)⟩
end DW
end
end Go.Proofs.YtepdigdijecgpaaGreat
