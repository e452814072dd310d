/- Lemmas for the law: H3 E1 E2 E3 -/
import Derived.Test.YtcgjmdpcplhanaaGreatZs2
namespace Go.Proofs.YtcgjmdpcplhanaaGreat
section
abbrev aD:=@decide_eq_true
abbrev aG:=@decide_eq_false
abbrev gW:=@List.length_nil
abbrev iU:=@Nat.lt_succ_self
abbrev vV:=@List.map_take
abbrev cL:=@List.map_append
abbrev qG:=@Nat.pow_mul
abbrev eQ:=@Nat.le_mul_of_pos_right
theorem ai{p:Prop}(h:p:=by exact rfl):p:=h
theorem zb1{p:Prop}(h:p:=by(first|(apply uj;(exact rfl);(focus((apply aE;(conv=>lhs;whnf);(first|done|exact rfl))));(exact rfl);(focus((first|exact fN|exact fL|exact fM|exact wd_pt|exact rfl)));(exact rfl);(kernel_rfl);(kernel_rfl))|(apply ke;(exact rfl);(focus((apply aE;(conv=>lhs;whnf);(first|done|exact rfl))));(focus((repeat(first|exact bn|refine bu _ ?_))));(exact iK);(exact rfl);(exact rfl);(focus((first|exact fN|exact fL|exact fM|exact wd_pt|exact rfl)));(exact rfl);(kernel_rfl);(kernel_rfl))|(apply kR;(exact rfl);(focus((apply aE;(conv=>lhs;whnf);(first|done|exact rfl))));(focus((repeat(first|exact bn|refine bu _ ?_))));(exact rfl);(focus((first|exact iK|(apply oY;assumption)|assumption|exact rfl)));(exact rfl);(focus((first|exact fN|exact fL|exact fM|exact wd_pt|exact rfl)));(exact rfl);(kernel_rfl);(kernel_rfl))|(apply d_load_row;(exact rfl);(focus((apply aE;(conv=>lhs;whnf);(first|done|exact rfl))));(focus((repeat(first|exact bn|refine bu _ ?_))));(exact rfl);(focus(first|(apply fP;assumption)|exact rfl));(assumption);(kernel_rfl);(kernel_rfl)))):p:=h
theorem eJ{p q:Prop}(h:q)(f:Wq q->p:=by(intro hW;((first|refine fo rfl rfl rfl ai zb1 ai ai ?_|((try refine bf ?_);refine aL1 rfl rfl rfl zb1 ?_)));exact hW.out)):p:=f ⟨h⟩
theorem ck{p:Prop}(h:p:=by(apply aE;(conv=>lhs;whnf);(first|done|exact rfl))):p:=h
theorem aX{p:Prop}(h:p:=by(repeat(first|exact bn|refine bu _ ?_))):p:=h
theorem cj{p:Prop}(h:p:=by(repeat(first|exact lF|(apply jG;(exact rfl))|(apply lG;(exact rfl))))):p:=h
theorem sK{p:Prop}(h:p:=by(repeat(first|exact To|apply Tp|(apply OI;(exact rfl))))):p:=h
theorem pR{p:Prop}(h:p:=by first|exact rfl|(apply FH;intro _;exact rfl)|(apply Ud;apply FH;intro _;exact rfl)|(apply nw_drop;apply FH;intro _;exact rfl)|(simp[D.nw];done)):p:=h
theorem zs16{p q:Prop}(h:q)(f:Wq q->p:=by(intro hW;((refine lQ rfl rfl rfl rfl ck ck aX ai pR ah ah (by(first|omega|(simp;done)|(simp;omega))) cj sK ?_));exact hW.out)):p:=f ⟨h⟩
theorem zb23{p:Prop}(h:p:=by(apply Le;(exact rfl);(focus((apply aE;(conv=>lhs;whnf);(first|done|exact rfl))));(focus((apply aE;(conv=>lhs;whnf);(first|done|exact rfl))));(kernel_rfl);(kernel_rfl);(focus(first|exact nY _|exact rfl));(focus(first|omega|(simp;omega))))):p:=h
theorem zs15{p q:Prop}(h:q)(f:Wq q->p:=by(intro hW;(refine aL1 rfl rfl rfl zb23 ?_);exact hW.out)):p:=f ⟨h⟩
theorem Ep{p:Prop}(h:p:=by(apply vA;(exact rfl);(focus((apply aE;(conv=>lhs;whnf);(first|done|exact rfl)))))):p:=h
theorem zs6{p q:Prop}(h:q)(f:Wq q->p:=by(intro hW;(refine aL1 rfl rfl rfl Ep ?_);exact hW.out)):p:=f ⟨h⟩
theorem cT{p q:Prop}(h:q)(f:Wq q->p:=by(intro hW;(refine zs6 ?_;refine aQ ?_);exact hW.out)):p:=f ⟨h⟩
theorem zs14{p q:Prop}(h:q)(f:Wq q->p:=by(intro hW;((refine yd (k:=18) (wd:=1) (T:=Tryz.prog.elem 40) rfl rfl rfl rfl ah ah ai ai cj ?_));exact hW.out)):p:=f ⟨h⟩
theorem uC{p:Prop}(h:p:=by(apply N9;(exact rfl);(focus((apply aE;(conv=>lhs;whnf);(first|done|exact rfl)))))):p:=h
theorem zs4{p q:Prop}(h:q)(f:Wq q->p:=by(intro hW;(refine aL1 rfl rfl rfl uC ?_);exact hW.out)):p:=f ⟨h⟩
theorem Rs{p q:Prop}(h:q)(f:Wq q->p:=by(intro hW;(refine gar ?_;refine zs14 ?_;refine zs4 ?_;refine zs4 ?_;refine zs15 ?_;refine zs16 ?_;refine cT ?_);exact hW.out)):p:=f ⟨h⟩
theorem cE{p q:Prop}(h:q)(f:Wq q->p:=by(intro hW;(refine gar ?_;refine zs4 ?_);exact hW.out)):p:=f ⟨h⟩
theorem zb26{p:Prop}(h:p:=by(first|(apply SF;(exact rfl);(focus((apply aE;(conv=>lhs;whnf);(first|done|exact rfl))));(exact cK);(omega))|(apply fm;(exact rfl);(focus((apply aE;(conv=>lhs;whnf);(first|done|exact rfl))));(exact cK);(exact rfl)))):p:=h
theorem zs19{p q:Prop}(h:q)(f:Wq q->p:=by(intro hW;(refine aL1 rfl rfl rfl zb26 ?_);exact hW.out)):p:=f ⟨h⟩
theorem xr{p q:Prop}(h:q)(f:Wq q->p:=by(intro hW;(refine cE ?_;refine zs19 ?_;refine cT ?_);exact hW.out)):p:=f ⟨h⟩
theorem zs2{p q:Prop}(h:q)(f:Wq q->p:=by(intro hW;(repeat(first|refine Qr ?_|refine G4 ?_|refine Jp ?_|refine Jq ?_|refine Om ?_|with_reducible refine nx_c ?_|with_reducible refine nx_e ?_|with_reducible refine nx_r ?_|with_reducible refine in_n ?_|with_reducible refine in_r ?_|with_reducible refine in_e ?_|with_reducible refine in_x ai ?_));exact hW.out)):p:=f ⟨h⟩
theorem kX{p q:Prop}(h:q)(f:Wq q->p:=by(intro hW;(refine zs2 ?_;refine cE ?_);exact hW.out)):p:=f ⟨h⟩
theorem El{p q:Prop}(h:q)(f:Wq q->p:=by(intro hW;((first|refine fo rfl rfl rfl ai Ep ai ai ?_|((try refine bf ?_);refine aL1 rfl rfl rfl Ep ?_)));exact hW.out)):p:=f ⟨h⟩
theorem qy{p q:Prop}(h:q)(f:Wq q->p:=by(intro hW;((try refine bf ?_);refine aQ ?_);exact hW.out)):p:=f ⟨h⟩
theorem pn{p q:Prop}(h:q)(f:Wq q->p:=by(intro hW;(refine El ?_;refine qy ?_);exact hW.out)):p:=f ⟨h⟩
theorem Kf{p:Prop}(h:p:=by(apply P8;(exact rfl);(focus((apply aE;(conv=>lhs;whnf);(first|done|exact rfl)))))):p:=h
theorem zs42{p q:Prop}(h:q)(f:Wq q->p:=by(intro hW;((first|refine fo rfl rfl rfl ai Kf ai ai ?_|((try refine bf ?_);refine aL1 rfl rfl rfl Kf ?_)));exact hW.out)):p:=f ⟨h⟩
theorem yv{p:Prop}(h:p:=by(apply fm;(exact rfl);(focus((apply aE;(conv=>lhs;whnf);(first|done|exact rfl))));(exact cK);(exact rfl))):p:=h
theorem zs7{p q:Prop}(h:q)(f:Wq q->p:=by(intro hW;(refine aL1 rfl rfl rfl yv ?_);exact hW.out)):p:=f ⟨h⟩
theorem jn{p q:Prop}(h:q)(f:Wq q->p:=by(intro hW;(refine cE ?_;refine zs7 ?_;refine aQ ?_);exact hW.out)):p:=f ⟨h⟩
theorem zb25{p:Prop}(h:p:=by(first|(apply fm;(exact rfl);(focus((apply aE;(conv=>lhs;whnf);(first|done|exact rfl))));(exact cK);(exact rfl))|(apply SQ;(exact rfl);(focus((apply aE;(conv=>lhs;whnf);(first|done|exact rfl))));(exact cK);(kernel_rfl)))):p:=h
theorem Br{p q:Prop}(h:q)(f:Wq q->p:=by(intro hW;(refine aL1 rfl rfl rfl zb25 ?_);exact hW.out)):p:=f ⟨h⟩
theorem jw{p q:Prop}(h:q)(f:Wq q->p:=by(intro hW;(refine aL1 rfl rfl rfl (by(apply vA;(exact rfl);(exact cK))) ?_);exact hW.out)):p:=f ⟨h⟩
theorem uy{p q:Prop}(h:q)(f:Wq q->p:=by(intro hW;(refine aL1 rfl rfl rfl (by(apply Qa;(exact rfl);(focus((apply aE;(conv=>lhs;whnf);(first|done|exact rfl))));(exact rfl))) ?_);exact hW.out)):p:=f ⟨h⟩
theorem iy{p q:Prop}(h:q)(f:Wq q->p:=by(intro hW;(refine gar ?_;refine uy ?_);exact hW.out)):p:=f ⟨h⟩
theorem zs186{p q:Prop}(h:q)(f:Wq q->p:=by(intro hW;(refine iy ?_;refine jw ?_;refine aQ ?_);exact hW.out)):p:=f ⟨h⟩
theorem xe{p q:Prop}(h:q)(f:Wq q->p:=by(intro hW;(refine zs2 ?_;refine zs186 ?_;refine zs2 ?_);exact hW.out)):p:=f ⟨h⟩
theorem bp{p:Prop}(h:p:=by(repeat(first|exact drop_nil|apply P7|(apply N4;(exact rfl))))):p:=h
theorem cI{p:Prop}(h:p:=by(apply bz;(conv=>lhs;whnf);(first|done|exact rfl|(apply br;(first|(apply aD;omega)|(apply aG;omega)|assumption|(simp;done)))))):p:=h
theorem J5{p q:Prop}(h:q)(f:Wq q->p:=by(intro hW;((first|(refine aLs rfl rfl rfl rfl ?_ ?_;(focus(apply bz;(conv=>lhs;whnf);(first|done|exact rfl|(apply br;(first|(apply aD;omega)|(apply aG;omega)|assumption|(simp;done)))))))|refine aLw rfl rfl rfl rfl cI zb25 ?_));exact hW.out)):p:=f ⟨h⟩
theorem zs47{p q:Prop}(h:q)(f:Wq q->p:=by(intro hW;(refine aL1 rfl rfl rfl (by(apply mj;(exact rfl);(focus((apply aE;(conv=>lhs;whnf);(first|done|exact rfl))));(focus((apply aE;(conv=>lhs;whnf);(first|done|exact rfl))));(exact rfl);(exact rfl);(focus((first|exact M l aa h1 h2)));(exact rfl))) ?_);exact hW.out)):p:=f ⟨h⟩
theorem zs8{p q:Prop}(h:q)(f:Wq q->p:=by(intro hW;((first|(refine aLs rfl rfl rfl rfl ?_ ?_;(focus(apply bz;(conv=>lhs;whnf);(first|done|exact rfl|(apply br;(first|(apply aD;omega)|(apply aG;omega)|assumption|(simp;done)))))))|refine aLw rfl rfl rfl rfl cI uC ?_));exact hW.out)):p:=f ⟨h⟩
theorem fe{p q:Prop}(h:q)(f:Wq q->p:=by(intro hW;((apply rA;(focus(first|(apply aE;(conv=>lhs;whnf);(first|done|exact rfl))|with_reducible exact cK|with_reducible exact mc|with_reducible exact tW|exact op_zero));(focus(first|with_reducible rfl|(apply aD;omega)|assumption|(simp<;>omega)))));exact hW.out)):p:=f ⟨h⟩
theorem bA{p q:Prop}(h:q)(f:Wq q->p:=by(intro hW;(refine zs2 ?_;refine fe ?_;refine zs2 ?_);exact hW.out)):p:=f ⟨h⟩
theorem zb24{p:Prop}(h:p:=by(first|(apply fm;(exact rfl);(focus((apply aE;(conv=>lhs;whnf);(first|done|exact rfl))));(exact cK);(exact rfl))|(apply SK;(exact rfl);(focus((apply aE;(conv=>lhs;whnf);(first|done|exact rfl))));(exact cK);(kernel_rfl)))):p:=h
theorem zs45{p q:Prop}(h:q)(f:Wq q->p:=by(intro hW;(refine aL1 rfl rfl rfl zb24 ?_);exact hW.out)):p:=f ⟨h⟩
theorem JV{p q:Prop}(h:q)(f:Wq q->p:=by(intro hW;(refine cE ?_;refine zs45 ?_;refine aQ ?_);exact hW.out)):p:=f ⟨h⟩
theorem rF{p q:Prop}(h:q)(f:Wq q->p:=by(intro hW;(refine zs2 ?_;refine JV ?_;refine bA ?_);exact hW.out)):p:=f ⟨h⟩
theorem Bq{p q:Prop}(h:q)(f:Wq q->p:=by(intro hW;((refine lQ rfl rfl rfl rfl ck ck aX ai pR ah ah (by(simp only[bD,iD,gW];omega)) cj sK ?_));exact hW.out)):p:=f ⟨h⟩
theorem bT{p q:Prop}(h:q)(f:Wq q->p:=by(intro hW;(refine cE ?_;refine zs4 ?_);exact hW.out)):p:=f ⟨h⟩
theorem zb27{p:Prop}(h:p:=by(apply SO;(exact rfl);(focus((apply aE;(conv=>lhs;whnf);(first|done|exact rfl))));(exact rfl);(focus((first|exact fN|exact fL|exact fM|exact wd_pt|exact rfl)));(kernel_rfl);(kernel_rfl);(exact rfl);(exact rfl))):p:=h
theorem my{p q:Prop}(h:q)(f:Wq q->p:=by(intro hW;(refine aL1 rfl rfl rfl zb27 ?_);exact hW.out)):p:=f ⟨h⟩
theorem uz{p q:Prop}(h:q)(f:Wq q->p:=by(intro hW;(refine bT ?_;refine my ?_;refine Bq ?_;refine cT ?_);exact hW.out)):p:=f ⟨h⟩
theorem ib{p q:Prop}(h:q)(f:Wq q->p:=by(intro hW;((first|refine fo rfl rfl rfl ai uC ai ai ?_|((try refine bf ?_);refine aL1 rfl rfl rfl uC ?_)));exact hW.out)):p:=f ⟨h⟩
theorem cn{p q:Prop}(h:q)(f:Wq q->p:=by(intro hW;(refine cT ?_;refine zs2 ?_);exact hW.out)):p:=f ⟨h⟩
theorem zb4{p:Prop}(h:p:=by(first|(apply kd;(exact rfl);(focus((apply aE;(conv=>lhs;whnf);(first|done|exact rfl))));(focus((apply aE;(conv=>lhs;whnf);(first|done|exact rfl))));(kernel_rfl);(kernel_rfl);(omega);(focus((first|(apply get_map;assumption)|(apply get_own;assumption)))))|(apply iq;(exact rfl);(focus((apply aE;(conv=>lhs;whnf);(first|done|exact rfl))));(focus((apply aE;(conv=>lhs;whnf);(first|done|exact rfl))));(focus((repeat(first|exact bn|refine bu _ ?_))));(kernel_rfl);(kernel_rfl);(focus(first|omega|(simp;omega)));(focus(first|(apply fP;assumption)|exact rfl))))):p:=h
theorem zs10{p q:Prop}(h:q)(f:Wq q->p:=by(intro hW;((first|(refine aLs rfl rfl rfl rfl ?_ ?_;(focus(apply bz;(conv=>lhs;whnf);(first|done|exact rfl|(apply br;(first|(apply aD;omega)|(apply aG;omega)|assumption|(simp;done)))))))|refine aLw rfl rfl rfl rfl cI zb4 ?_));exact hW.out)):p:=f ⟨h⟩
theorem zs3{p q:Prop}(h:q)(f:Wq q->p:=by(intro hW;(refine aL1 rfl rfl rfl (by(apply vA;(exact rfl);(exact tW))) ?_);exact hW.out)):p:=f ⟨h⟩
theorem JX{p q:Prop}(h:q)(f:Wq q->p:=by(intro hW;(refine iy ?_;refine zs3 ?_;refine aQ ?_);exact hW.out)):p:=f ⟨h⟩
theorem zb11{p:Prop}(h:p:=by(first|(apply(We (c:=65536));(exact rfl);(focus((apply aE;(conv=>lhs;whnf);(first|done|exact rfl))));(exact cK);(exact rfl);(exact rfl))|(apply d_remP;(exact rfl);(focus((apply aE;(conv=>lhs;whnf);(first|done|exact rfl))));(exact cK);(omega))|(apply N7;(exact rfl);(focus((apply aE;(conv=>lhs;whnf);(first|done|exact rfl))));(exact cK);(focus(first|omega|decide))))):p:=h
theorem JB{p q:Prop}(h:q)(f:Wq q->p:=by(intro hW;(refine aL1 rfl rfl rfl zb11 ?_);exact hW.out)):p:=f ⟨h⟩
theorem Ek{p q:Prop}(h:q)(f:Wq q->p:=by(intro hW;(refine aL1 rfl rfl rfl (by(first|(apply SS;(exact rfl);(focus((apply aE;(conv=>lhs;whnf);(first|done|exact rfl))));(exact cK);(omega))|(apply fm;(exact rfl);(focus((apply aE;(conv=>lhs;whnf);(first|done|exact rfl))));(exact cK);(exact rfl)))) ?_);exact hW.out)):p:=f ⟨h⟩
theorem fE{p q:Prop}(h:q)(f:Wq q->p:=by(intro hW;(refine cE ?_;refine Ek ?_;refine cT ?_);exact hW.out)):p:=f ⟨h⟩
theorem mT{p q:Prop}(h:q)(f:Wq q->p:=by(intro hW;(refine gar ?_;refine zs3 ?_;refine aQ ?_);exact hW.out)):p:=f ⟨h⟩
theorem oM{p:Prop}(h:p:=by(first|(apply aE;(conv=>lhs;whnf);(first|done|exact rfl))|with_reducible exact cK|with_reducible exact mc|with_reducible exact tW|exact op_zero)):p:=h
theorem zs29{p q:Prop}(h:q)(f:Wq q->p:=by(intro hW;((first|refine fo rfl rfl rfl ai zb4 ai ai ?_|((try refine bf ?_);refine aL1 rfl rfl rfl zb4 ?_)));exact hW.out)):p:=f ⟨h⟩
theorem rJ{p q:Prop}(h:q)(f:Wq q->p:=by(intro hW;(refine ib ?_;refine zs29 ?_;refine eJ ?_);exact hW.out)):p:=f ⟨h⟩
theorem Dx{p:Prop}(h:p:=by rw[HB5.out];simp;omega):p:=h
theorem mS{p q:Prop}(h:q)(f:Wq q->p:=by(intro hW;(refine gar ?_;refine jw ?_;refine aQ ?_);exact hW.out)):p:=f ⟨h⟩
theorem pW{p q:Prop}(h:q)(f:Wq q->p:=by(intro hW;(refine mS ?_;refine zs2 ?_);exact hW.out)):p:=f ⟨h⟩
theorem iA{p q:Prop}(h:q)(f:Wq q->p:=by(intro hW;(refine zs2 ?_;refine pW ?_);exact hW.out)):p:=f ⟨h⟩
theorem vM{p:Prop}(h:p:=by(apply Cm;(exact rfl);(focus((apply aE;(conv=>lhs;whnf);(first|done|exact rfl))));(exact rfl);(assumption);(exact rfl))):p:=h
theorem vL{p q:Prop}(h:q)(f:Wq q->p:=by(intro hW;((first|refine fo rfl rfl rfl ai vM ai ai ?_|((try refine bf ?_);refine aL1 rfl rfl rfl vM ?_)));exact hW.out)):p:=f ⟨h⟩
theorem fF{p:Prop}(h:p:=by(apply bz;(conv=>lhs;whnf);(first|done|exact rfl))):p:=h
theorem zb8{p:Prop}(h:p:=by(first|(apply(N8 (c:=65536));(exact rfl);(focus((apply aE;(conv=>lhs;whnf);(first|done|exact rfl))));(exact cK);(exact rfl);(exact rfl);(focus(apply tF;(try simp only[]);omega)))|(apply d_quoP;(exact rfl);(focus((apply aE;(conv=>lhs;whnf);(first|done|exact rfl))));(exact cK);(omega))|(apply SJ;(exact rfl);(focus((apply aE;(conv=>lhs;whnf);(first|done|exact rfl))));(exact cK);(omega))|(apply GH;(exact rfl);(focus((apply aE;(conv=>lhs;whnf);(first|done|exact rfl))));(exact cK);(focus(first|omega|decide))))):p:=h
theorem ll{p q:Prop}(h:q)(f:Wq q->p:=by(intro hW;(refine aL1 rfl rfl rfl vM ?_);exact hW.out)):p:=f ⟨h⟩
theorem Dr{p q:Prop}(h:q)(f:Wq q->p:=by(intro hW;(refine cE ?_;refine ll ?_;refine cT ?_);exact hW.out)):p:=f ⟨h⟩
theorem cX{p:Prop}(h:p:=by(first|exact fN|exact fL|exact fM|exact wd_pt|exact rfl)):p:=h
theorem zs35{p q:Prop}(h:q)(f:Wq q->p:=by(intro hW;((refine dT (k:=2) (z:=(.agg #[.bool false,.slice none 0 0])) (d:=(.nm 0)) rfl rfl rfl rfl rfl ah ai ai cX ai ai cj ?_));exact hW.out)):p:=f ⟨h⟩
theorem zb2{p:Prop}(h:p:=by(first|(apply Wh;(exact rfl);(focus((apply aE;(conv=>lhs;whnf);(first|done|exact rfl))));(kernel_rfl))|(apply Lf;(exact rfl);(focus((apply aE;(conv=>lhs;whnf);(first|done|exact rfl))));(focus((repeat(first|exact bn|refine bu _ ?_))));(kernel_rfl))|(apply d_len;(exact rfl);(focus((apply aE;(conv=>lhs;whnf);(first|done|exact rfl))));(kernel_rfl))|(apply d_len_own;(exact rfl);(focus((apply aE;(conv=>lhs;whnf);(first|done|exact rfl))));(focus((repeat(first|exact bn|refine bu _ ?_))));(kernel_rfl))|(apply d_len0;(exact rfl);(focus((apply aE;(conv=>lhs;whnf);(first|done|exact rfl))));(kernel_rfl)))):p:=h
theorem zs5{p q:Prop}(h:q)(f:Wq q->p:=by(intro hW;(refine aL1 rfl rfl rfl zb2 ?_);exact hW.out)):p:=f ⟨h⟩
theorem ff{p q:Prop}(h:q)(f:Wq q->p:=by(intro hW;(refine aL1 rfl rfl rfl zb1 ?_);exact hW.out)):p:=f ⟨h⟩
theorem Kg{p:Prop}(h:p:=by(apply fm;(exact rfl);(focus((apply aE;(conv=>lhs;whnf);(first|done|exact rfl))));(focus((apply aE;(conv=>lhs;whnf);(first|done|exact rfl))));(exact rfl))):p:=h
theorem pQ{p q:Prop}(h:q)(f:Wq q->p:=by(intro hW;(refine aL1 rfl rfl rfl Kg ?_);exact hW.out)):p:=f ⟨h⟩
theorem yw{p:Prop}(h:p:=by(first|(apply Ld;(exact rfl);(focus((apply aE;(conv=>lhs;whnf);(first|done|exact rfl))));(kernel_rfl);(kernel_rfl))|(apply vz;(exact rfl);(focus((apply aE;(conv=>lhs;whnf);(first|done|exact rfl))));(kernel_rfl);(exact rfl);(kernel_rfl)))):p:=h
theorem zs22{p q:Prop}(h:q)(f:Wq q->p:=by(intro hW;(refine aL1 rfl rfl rfl yw ?_);exact hW.out)):p:=f ⟨h⟩
theorem zs182{p q:Prop}(h:q)(f:Wq q->p:=by(intro hW;(refine cE ?_;refine zs22 ?_;refine ff ?_;refine zs5 ?_;refine pQ ?_;refine aQ ?_);exact hW.out)):p:=f ⟨h⟩
theorem nI{p q:Prop}(h:q)(f:Wq q->p:=by(intro hW;(refine zs2 ?_;refine zs182 ?_);exact hW.out)):p:=f ⟨h⟩
theorem fD{p q:Prop}(h:q)(f:Wq q->p:=by(intro hW;((apply sH;(focus(first|(apply aE;(conv=>lhs;whnf);(first|done|exact rfl))|with_reducible exact cK|with_reducible exact mc|with_reducible exact tW|exact op_zero));(focus(first|with_reducible rfl|(apply aG;omega)|assumption|(simp<;>omega)))));exact hW.out)):p:=f ⟨h⟩
theorem bR{p q:Prop}(h:q)(f:Wq q->p:=by(intro hW;(refine zs2 ?_;refine fD ?_;refine zs2 ?_);exact hW.out)):p:=f ⟨h⟩
theorem jN{p q:Prop}(h:q)(f:Wq q->p:=by(intro hW;(refine zs2 ?_;refine JV ?_;refine bR ?_);exact hW.out)):p:=f ⟨h⟩
theorem zs36{p q:Prop}(h:q)(f:Wq q->p:=by(intro hW;((first|(apply aI 5;(focus kernel_rfl);(decide+kernel))|(apply aI 4;(focus kernel_rfl);(decide+kernel))|(apply aI 3;(focus kernel_rfl);(decide+kernel))|(apply aI 2;(focus kernel_rfl);(decide+kernel))|(apply aI 1;(focus kernel_rfl);(decide+kernel)));simp only[eu,dw,eU,du]);exact hW.out)):p:=f ⟨h⟩
theorem mO{p q:Prop}(h:q)(f:Wq q->p:=by(intro hW;(refine zs2 ?_;refine mT ?_);exact hW.out)):p:=f ⟨h⟩
theorem aH{p:Prop}(h:p:=by(repeat(first|exact O3|(apply LX;(focus(repeat(first|exact bn|refine bu _ ?_))))))):p:=h
theorem zs9{p q:Prop}(h:q)(f:Wq q->p:=by(intro hW;((first|(refine aLs rfl rfl rfl rfl ?_ ?_;(focus(apply bz;(conv=>lhs;whnf);(first|done|exact rfl|(apply br;(first|(apply aD;omega)|(apply aG;omega)|assumption|(simp;done)))))))|refine aLw rfl rfl rfl rfl cI zb26 ?_));exact hW.out)):p:=f ⟨h⟩
theorem Bt{p q:Prop}(h:q)(f:Wq q->p:=by(intro hW;((first|refine fo rfl rfl rfl ai yw ai ai ?_|((try refine bf ?_);refine aL1 rfl rfl rfl yw ?_)));exact hW.out)):p:=f ⟨h⟩
theorem Dq{p q:Prop}(h:q)(f:Wq q->p:=by(intro hW;(refine iy ?_;refine zs35 ?_;refine aQ ?_);exact hW.out)):p:=f ⟨h⟩
theorem jk{p q:Prop}(h:q)(f:Wq q->p:=by(intro hW;(refine gar ?_;refine ff ?_;refine ll ?_);exact hW.out)):p:=f ⟨h⟩
theorem gO{p q:Prop}(h:q)(f:Wq q->p:=by(intro hW;(refine zs4 ?_;refine zs8 ?_);exact hW.out)):p:=f ⟨h⟩
theorem BC{p:Prop}(h:p:=by(first|(apply Qc;(exact rfl);(focus((apply aE;(conv=>lhs;whnf);(first|done|exact rfl))));(kernel_rfl);(kernel_rfl))|(apply vz;(exact rfl);(focus((apply aE;(conv=>lhs;whnf);(first|done|exact rfl))));(kernel_rfl);(exact rfl);(kernel_rfl)))):p:=h
theorem yr{p q:Prop}(h:q)(f:Wq q->p:=by(intro hW;((first|refine fo rfl rfl rfl ai BC ai ai ?_|((try refine bf ?_);refine aL1 rfl rfl rfl BC ?_)));exact hW.out)):p:=f ⟨h⟩
theorem zb36{p:Prop}(h:p:=by(apply Oa;(exact rfl);(focus((apply aE;(conv=>lhs;whnf);(first|done|exact rfl))));(focus((apply aE;(conv=>lhs;whnf);(first|done|exact rfl))));(kernel_rfl);(kernel_rfl))):p:=h
theorem zb6{p:Prop}(h:p:=by(first|(apply GI;(exact rfl);(focus((apply aE;(conv=>lhs;whnf);(first|done|exact rfl))));(focus(first|exact rfl|(apply aD;omega)|assumption|(simp;done)));(focus((apply aE;(conv=>lhs;whnf);(first|done|exact rfl)))))|(apply GJ;(exact rfl);(focus((apply aE;(conv=>lhs;whnf);(first|done|exact rfl))));(focus(first|exact rfl|(apply aG;omega)|assumption|(simp;done)));(exact mc))|(apply d_pick;(exact rfl);(focus((apply aE;(conv=>lhs;whnf);(first|done|exact rfl))));(focus((apply aE;(conv=>lhs;whnf);(first|done|exact rfl))));(exact mc);(exact rfl)))):p:=h
theorem nP{p q:Prop}(h:q)(f:Wq q->p:=by(intro hW;(refine aL1 rfl rfl rfl zb6 ?_);exact hW.out)):p:=f ⟨h⟩
theorem zb0{p:Prop}(h:p:=by(first|(apply uj;(exact rfl);(focus((apply aE;(conv=>lhs;whnf);(first|done|exact rfl))));(exact rfl);(focus((first|exact fN|exact fL|exact fM|exact wd_pt|exact rfl)));(exact rfl);(kernel_rfl);(kernel_rfl))|(apply ke;(exact rfl);(focus((apply aE;(conv=>lhs;whnf);(first|done|exact rfl))));(focus((repeat(first|exact bn|refine bu _ ?_))));(exact iK);(exact rfl);(exact rfl);(focus((first|exact fN|exact fL|exact fM|exact wd_pt|exact rfl)));(exact rfl);(kernel_rfl);(kernel_rfl))|(apply kR;(exact rfl);(focus((apply aE;(conv=>lhs;whnf);(first|done|exact rfl))));(focus((repeat(first|exact bn|refine bu _ ?_))));(exact rfl);(focus((first|exact iK|(apply oY;assumption)|assumption|(apply F4;(focus assumption);(focus assumption))|exact rfl)));(exact rfl);(focus((first|exact fN|exact fL|exact fM|exact wd_pt|exact rfl)));(exact rfl);(kernel_rfl);(kernel_rfl))|(apply d_load_row;(exact rfl);(focus((apply aE;(conv=>lhs;whnf);(first|done|exact rfl))));(focus((repeat(first|exact bn|refine bu _ ?_))));(exact rfl);(focus(first|(apply fP;assumption)|exact rfl));(assumption);(kernel_rfl);(kernel_rfl)))):p:=h
theorem zs18{p q:Prop}(h:q)(f:Wq q->p:=by(intro hW;((first|(refine aLs rfl rfl rfl rfl ?_ ?_;(focus(apply bz;(conv=>lhs;whnf);(first|done|exact rfl|(apply br;(first|(apply aD;omega)|(apply aG;omega)|assumption|(simp;done)))))))|refine aLw rfl rfl rfl rfl cI zb0 ?_));exact hW.out)):p:=f ⟨h⟩
theorem zb3{p:Prop}(h:p:=by(first|(apply kd;(exact rfl);(focus((apply aE;(conv=>lhs;whnf);(first|done|exact rfl))));(focus((apply aE;(conv=>lhs;whnf);(first|done|exact rfl))));(kernel_rfl);(kernel_rfl);(omega);(focus((first|(apply F4;(focus assumption);(focus assumption))|(apply get_map;assumption)|(apply get_own;assumption)))))|(apply iq;(exact rfl);(focus((apply aE;(conv=>lhs;whnf);(first|done|exact rfl))));(focus((apply aE;(conv=>lhs;whnf);(first|done|exact rfl))));(focus((repeat(first|exact bn|refine bu _ ?_))));(kernel_rfl);(kernel_rfl);(focus(first|omega|(simp;omega)));(focus(first|(apply fP;assumption)|exact rfl))))):p:=h
theorem zs17{p q:Prop}(h:q)(f:Wq q->p:=by(intro hW;((first|(refine aLs rfl rfl rfl rfl ?_ ?_;(focus(apply bz;(conv=>lhs;whnf);(first|done|exact rfl|(apply br;(first|(apply aD;omega)|(apply aG;omega)|assumption|(simp;done)))))))|refine aLw rfl rfl rfl rfl cI zb3 ?_));exact hW.out)):p:=f ⟨h⟩
theorem Rr{p q:Prop}(h:q)(f:Wq q->p:=by(intro hW;(refine cE ?_;refine zs7 ?_;refine gO ?_;refine zs8 ?_;refine zs9 ?_;refine zs17 ?_;refine zs18 ?_;refine J5 ?_;refine nP ?_;refine aQ ?_);exact hW.out)):p:=f ⟨h⟩
theorem zb104{p:Prop}(h:p:=by simp only[];omega):p:=h
theorem zb33{p:Prop}(h:p:=by first|with_reducible rfl|exact Ax aa|exact Ax zb104|exact Ax aU|(apply Ax;omega)|(apply br;(first|(apply aG;omega)|(apply aD;omega)|(simp<;>omega)))):p:=h
theorem aF{p:Prop}(h:p:=by(repeat(first|exact Tx|refine O4 fF zb33 ?_))):p:=h
theorem lS{p q:Prop}(h:q)(f:Wq q->p:=by(intro hW;(refine mO ?_;refine iA ?_);exact hW.out)):p:=f ⟨h⟩
theorem zs25{p q:Prop}(h:q)(f:Wq q->p:=by(intro hW;((first|(apply aI 16;(focus kernel_rfl);(decide+kernel))|(apply aI 15;(focus kernel_rfl);(decide+kernel))|(apply aI 14;(focus kernel_rfl);(decide+kernel))|(apply aI 13;(focus kernel_rfl);(decide+kernel))|(apply aI 12;(focus kernel_rfl);(decide+kernel))|(apply aI 11;(focus kernel_rfl);(decide+kernel))|(apply aI 10;(focus kernel_rfl);(decide+kernel))|(apply aI 9;(focus kernel_rfl);(decide+kernel)));simp only[eu,dw,eU,du]);exact hW.out)):p:=f ⟨h⟩
theorem qA{p:Prop}(h:p:=by(repeat(first|exact set_nil|apply TL|apply TM|(apply Pd;(exact rfl))))):p:=h
theorem qz{p:Prop}(h:p:=by first|exact Nat.zero_lt_one|omega|(simp;omega)):p:=h
theorem iE{p q:Prop}(h:q)(f:Wq q->p:=by(intro hW;((refine pj (i:=0) rfl rfl rfl ck ck aX ai qz ai cX ai ah qA ?_));exact hW.out)):p:=f ⟨h⟩
theorem eX{p q:Prop}(h:q)(f:Wq q->p:=by(intro hW;(refine aQ ?_;refine zs2 ?_);exact hW.out)):p:=f ⟨h⟩
theorem jj{p q:Prop}(h:q)(f:Wq q->p:=by(intro hW;(refine iE ?_;refine eX ?_);exact hW.out)):p:=f ⟨h⟩
theorem bq{p:Prop}(h:p:=by(repeat(first|exact Pb|(apply Me;(exact rfl))|apply Pc|apply TF))):p:=h
theorem zb7{p:Prop}(h:p:=by(first|(apply(GL (q':=.i64));(exact rfl);(focus((apply aE;(conv=>lhs;whnf);(first|done|exact rfl))));(kernel_rfl);(kernel_rfl);(focus(first|(apply tF;(try simp only[]);omega)|exact rfl)))|(apply(GL (q':=.u32));(exact rfl);(focus((apply aE;(conv=>lhs;whnf);(first|done|exact rfl))));(kernel_rfl);(kernel_rfl);(focus(first|(apply tF;(try simp only[]);omega)|exact rfl)))|(apply(GL (q':=.u64));(exact rfl);(focus((apply aE;(conv=>lhs;whnf);(first|done|exact rfl))));(kernel_rfl);(kernel_rfl);(focus(first|(apply tF;(try simp only[]);omega)|exact rfl))))):p:=h
theorem zs30{p q:Prop}(h:q)(f:Wq q->p:=by(intro hW;((first|refine fo rfl rfl rfl ai zb7 ai ai ?_|((try refine bf ?_);refine aL1 rfl rfl rfl zb7 ?_)));exact hW.out)):p:=f ⟨h⟩
theorem zs41{p q:Prop}(h:q)(f:Wq q->p:=by(intro hW;((first|(apply aI 6;(focus kernel_rfl);(decide+kernel))|(apply aI 5;(focus kernel_rfl);(decide+kernel))|(apply aI 4;(focus kernel_rfl);(decide+kernel))|(apply aI 3;(focus kernel_rfl);(decide+kernel))|(apply aI 2;(focus kernel_rfl);(decide+kernel))|(apply aI 1;(focus kernel_rfl);(decide+kernel)));simp only[eu,dw,eU,du]);exact hW.out)):p:=f ⟨h⟩
theorem vN{p:Prop}(h:p:=by(apply mj;(exact rfl);(focus((apply aE;(conv=>lhs;whnf);(first|done|exact rfl))));(focus((apply aE;(conv=>lhs;whnf);(first|done|exact rfl))));(exact rfl);(exact rfl);(assumption);(exact rfl))):p:=h
theorem oK{p q:Prop}(h:q)(f:Wq q->p:=by(intro hW;((first|refine fo rfl rfl rfl ai vN ai ai ?_|((try refine bf ?_);refine aL1 rfl rfl rfl vN ?_)));exact hW.out)):p:=f ⟨h⟩
theorem zs40{p q:Prop}(h:q)(f:Wq q->p:=by(intro hW;(((try refine bf ?_);(refine pj (i:=0) rfl rfl rfl ck ck aX ai qz ai cX ai ah qA ?_)));exact hW.out)):p:=f ⟨h⟩
theorem xf{p q:Prop}(h:q)(f:Wq q->p:=by(intro hW;(refine oK ?_;refine zs40 ?_;refine qy ?_);exact hW.out)):p:=f ⟨h⟩
theorem zs53{p q:Prop}(h:q)(f:Wq q->p:=by(intro hW;(refine aL1 rfl rfl rfl zb8 ?_);exact hW.out)):p:=f ⟨h⟩
theorem zz{p q:Prop}(h:q)(f:Wq q->p:=by(intro hW;(refine cE ?_;refine zs53 ?_;refine cT ?_);exact hW.out)):p:=f ⟨h⟩
theorem jO{p q:Prop}(h:q)(f:Wq q->p:=by(intro hW;((first|(refine aLs rfl rfl rfl rfl ?_ ?_;(focus(apply bz;(conv=>lhs;whnf);(first|done|exact rfl|(apply br;(first|(apply aD;omega)|(apply aG;omega)|assumption|(simp;done)))))))|refine aLw rfl rfl rfl rfl cI zb1 ?_));exact hW.out)):p:=f ⟨h⟩
theorem vK{p q:Prop}(h:q)(f:Wq q->p:=by(intro hW;(refine aL1 rfl rfl rfl BC ?_);exact hW.out)):p:=f ⟨h⟩
theorem nO{p q:Prop}(h:q)(f:Wq q->p:=by(intro hW;(refine gar ?_;refine vK ?_;refine ff ?_);exact hW.out)):p:=f ⟨h⟩
theorem JW{p q:Prop}(h:q)(f:Wq q->p:=by(intro hW;(refine nO ?_;refine aQ ?_);exact hW.out)):p:=f ⟨h⟩
end
section
open Go.RowKit Go.BigFrame
attribute [local go_sem ↓] Go.wp_at_zero Go.wp_at_succ
def pk:List Nat->List Nat
 |[]=>[]
 |[x]=>[x]
 |x::y::l=>(x+y*65536)::pk l
theorem Sm:∀l:List Nat,Dg.vl B32 (pk l)=Dg.vl B16 l
 |[]=>rfl
 |[x]=>rfl
 |x::y::l=>by
  simp only[pk,Dg.gh,Sm l,B16,B32];omega
theorem MN:∀{l:List Nat},Dg.dig B16 l->Dg.dig B32 (pk l)
 |[],_=>fun x h=>by cases h
 |[x],h=>fun y hy=>by
  simp only[pk,bL]at hy;have:=h x bn;subst hy;show y<4294967296;have:y<65536:=this;omega
 |x::y::l,h=>by
  have h1:=Dg.ns h;have h2:=Dg.ns h1.2;have h3:=MN h2.2;have h4:x<65536:=h1.1;have h5:y<65536:=h2.1;intro z hz;simp only[pk,bC]at hz;rcases hz with rfl|hz
  ·show x+y*65536<4294967296;omega
  ·exact h3 z hz
theorem Sn:∀{l:List Nat},l≠[]->pk l≠[]
 |[],h=>absurd rfl h
 |[x],_=>by simp[pk]
 |x::y::l,_=>by simp[pk]
theorem Is:∀{l:List Nat},l.getLast?≠some 0->(pk l).getLast?≠some 0
 |[],h=>h
 |[x],h=>h
 |x::y::[],h=>by
  simp[pk]at h⊢;omega
 |x::y::z::l,h=>by
  have h1:(z::l).getLast?≠some 0:=by simpa using h
  have h2:=Is h1;have h3:pk (z::l)≠[]:=Sn aU;simp only[pk];rw[List.getLast?_cons];obtain⟨u,hu⟩:∃u,(pk (z::l)).getLast?=some u:=by
   cases h4:(pk (z::l)).getLast? with
   |none=>rw[List.getLast?_eq_none_iff]at h4;exact absurd h4 h3
   |some u=>exact⟨u,rfl⟩
  rw[hu]at h2⊢;simpa using h2
theorem pk_nf{l:List Nat}(h:Dg.NF B16 l):Dg.NF B32 (pk l):=⟨MN h.dg,Is h.nz⟩
theorem Ir:∀{l:List Nat} {k x:Nat},l[2*k]?=some x->pk (l.take (2*k+2))=pk (l.take (2*k))++[x+l.getD (2*k+1) 0*65536]
 |[],k,x,h=>by simp at h
 |[y],0,x,h=>by
  simp at h;subst h;simp[pk]
 |[y],k+1,x,h=>by simp at h
 |y::z::l,0,x,h=>by
  simp at h;subst h;simp[pk]
 |y::z::l,k+1,x,h=>by
  have e:2*(k+1)=2*k+1+1:=by omega
  rw[e]at h⊢;have h1:l[2*k]?=some x:=by simpa using h
  have h2:=Ir h1;simp only[eu,pk,uJ,uI,h2]
theorem Pp{l:List Nat}{k x:Nat}(hk:k%2=0)(h:l[k]?=some x):pk (l.take (k+2))=pk (l.take k)++[x+l.getD (k+1) 0*65536]:=by
 obtain⟨j,rfl⟩:∃j,k=2*j:=⟨k/2,by omega⟩;exact Ir h
theorem VC{l:List Nat}{k:Nat}(h:l.length<=k):pk (l.take k)=pk l:=by rw[cf h]
theorem MM:∀l:List Nat,(pk l).length<=l.length
 |[]=>af _
 |[x]=>af _
 |x::y::l=>by have:=MM l;simp[pk];omega
theorem ik.Mh{w:World}{base:Nat}{v:Value}{l:List Nat}(h:ik w base v l){g o:Nat}(u:Value)(hg:g<base):ik (w.setCell ⟨g,o,none⟩ u) base v l:=by
 refine World.ownsRow.kept h (lI w g o u) ?_
 cases e:v.ownBlock with
 |none=>exact .inl rfl
 |some k=>
  right;intro e2;have:=(World.ownsRow.lt h k e).1;cases e2;omega
set_option maxRecDepth 10000 in
set_option maxHeartbeats 8000000 in
theorem Ny(s:Bool)(l:List Nat)(v:Value)(hl:l.length<=2000000000000)(hd:Dg.dig B16 l)(w:World)(TR0:∀W,Below w.heap.size w W->Calls Tryz.prog 188 #[v] W fun e w'=>HRes w' e (Dg.vl B16 l)/\Below W.heap.size W w'):
  Calls Tryz.prog 150 #[.bool s,v] w fun e w'=>(∃x,e= .returned (.agg #[.bool x.s,.slice x.a x.n x.cap])/\IZ w' x (Dg.iv s (Dg.vl B16 l)))/\Below w.heap.size w w':=by
 have TR:=ae TR0;clear TR0;have hN:=Dg.cq hd;have LB:Hid (∀m:List Nat,Dg.NF B16 m->Dg.vl B16 m=Dg.vl B16 l->m.length<=2000000000000):=fun m h1 h2=>by
  rcases Nat.lt_or_ge l.length m.length with h3|h3
  ·obtain⟨k,hk⟩:∃k,m.length=k+1:=⟨m.length-1,by omega⟩;have h4:=Dg.ou hk h1;have h5:=Dg.cq hd;have h6:B16^l.length<=B16^k:=bI au aa;omega
  ·omega
 generalize hNe:Dg.vl B16 l=N at*;clear hNe hN hd;obtain⟨d,hd⟩:∃d,d=decide (N≠0):=⟨_,rfl⟩;have fin:∀(c:Bool),(c=(s&&d))->∀(m:List Nat) (w':World) (v1:Value) (base:Nat),Dg.NF B16 m->Dg.vl B16 m=N->ik w' base v1 (pk m)->∃x:IV,v1= .slice x.a x.n x.cap/\x.s=c/\IZ w' x (Dg.iv s N):=fun c hc m w' v1 base h1 h2 h3=>by
  obtain⟨a,cap,e,h4,_,h5,_⟩:=h3.ws;refine⟨⟨c,a,(pk m).length,cap⟩,e,rfl,pk m,⟨rfl,h4,h5,pk_nf h1⟩,fun e=>?_,?_⟩
  ·have:m=[]:=Decidable.byContradiction fun hm=>Sn hm e;subst this;have:N=0:=h2.symm;subst this;simp[hc,hd]
  ·rw[Sm,h2];by_cases h0:N=0
   ·subst h0;rw[Dg.ua,Dg.ua]
   ·simp[hc,hd,h0]
 have FIN:=ae fin;clear fin;have key:∀m,Dg.NF B16 m->Dg.vl B16 m=N->decide ((0:Int)<(m.length:Int))=d:=fun m h1 h2=>by
  have h3:=Dg.xL h1 au;rw[hd,decide_eq_decide,<-h2];constructor
  ·intro h4 h5;rw[h3.1 h5]at h4;simp at h4
  ·intro h4;have:m≠[]:=fun e=>h4 (h3.2 e);have:=iC.2 this;omega
 have KEY:=ae key;clear key hd;obtain⟨c0,hc0⟩:∃c0,c0=(s&&d):=⟨_,rfl⟩;have W1b:∀(W:World) (b x:Nat),b=W.heap.size->WS (W.alloc (.cells #[.int .u32 (x:Int)] 138)) (some ⟨b,0,none⟩) [x]:=fun W b x hb=>Ht W _ b x hb;have WB:=ae W1b;have FIN1:=ae (FIN.out c0 hc0);clear W1b FIN;cases s<;>cases d;all_goals
  simp only[Bool.and_false,Bool.and_true]at hc0;have HC0:=ae hc0;clear hc0
  go_enter Tryz.func150,Tryz.ntmps150
  go_wp2_with (first|(go_at_call 188;(with_reducible refine(TR.out _ ?_).mono ?_);(exact bel);rintro e w1 ⟨⟨v1,m,rfl,h1,h2,h3⟩,hb1⟩;obtain⟨a1,c1,rfl,hle1,hv1⟩:=h1.parts;have hdf:=KEY.out m h2 h3;have HM:=ae (And.intro h2 h3);have hml:=LB.out m h2 h3;clear h1 h2 h3;obtain⟨g1,rfl⟩:=mob hb1;clear hb1;have HS1:=ae hv1;clear hv1;(obtain⟨q,hq⟩:∃q,q=m.length:=(⟨_,rfl⟩));have HQ:=ae hq;rw[<-hq]at hdf hml⊢;clear hq hle1))
  have hb5:∃b5,b5=w.heap.size+1+g1.2.size:=⟨_,rfl⟩;obtain⟨b5,hb5⟩:=hb5;have HB5:=ae hb5;have hqb:(q:Int)<=2000000000000:=by omega
  rw[<-hb5];clear hb5
  go_loopw [6] (fun i wr=>∃(k:Nat) (v:Value),k<=q+1/\i= .int .i64 ((k:Int))/\Hid (k%2=0)/\wr.cell? ⟨b5,0,none⟩=some (.bool c0)/\wr.cell? ⟨b5,1,none⟩=some v/\wr.frozen? ⟨b5,1,none⟩=false/\b5<wr.heap.size/\Hid (ik wr (b5+1) v (pk (m.take k))/\Below b5 (more (w.alloc (.cells #[.bool false,.slice none 0 0] 62)) g1) wr)) (fun i _=>q+1-(intOf i).toNat)
  case atStart=>
   refine⟨0,.slice none 0 0,by omega,rfl,rfl,?_,?_,?_,?_,ik.nil _ _,?_⟩
   ·rw[HB5.out,HC0.out];go_simp<;>(simp at hdf;omega)
   ·rw[HB5.out];go_simp
   ·rw[HB5.out];go_simp
   ·rw[HB5.out];simp
   ·rw[HB5.out];refine Below.alloc (Below.refl _ _) ?_ _;simp
  case round=>
   obtain⟨k,v,hk,rfl,HK,k0,k1,kf,kl,HR⟩:=hrel;by_cases hkq:k<q
   ·have hkq2:(k:Int)<(q:Int):=by omega
    obtain⟨x,hx⟩:∃x,m[k]?=some x:=⟨_,aV (by rw[<-HQ.out];exact hkq)⟩;have hxb:x<65536:=HM.out.1.dg x (bj hx);rcases HS1.out.below (HR.out.2) (by rw[HB5.out];simp)with h0|⟨g,ha,hg,hcc⟩
    ·rw[h0]at hx;simp at hx
    have c2:=hcc k x hx;subst ha;have PK0:=Pp HK.out hx;obtain⟨z,hz⟩:∃z,z=x+m.getD (k+1) 0*65536:=⟨_,rfl⟩;rw[<-hz]at PK0;have HZ:=ae hz;have PK:=ae PK0;clear hz PK0;have hlen:(pk (m.take k)).length+[z].length<=4000000000000:=by
     have:=MM (m.take k);rw[aY]at this;simp;omega
    by_cases hkq3:k+1<q
    ·have hkq4:(k:Int)+1<(q:Int):=by omega
     obtain⟨y,hy⟩:∃y,m[k+1]?=some y:=⟨_,aV (by rw[<-HQ.out];exact hkq3)⟩;have hyb:y<65536:=HM.out.1.dg y (bj hy);have c3:=hcc (k+1) y hy;have hyd:m.getD (k+1) 0=y:=by rw[aq,hy];rfl
     have HY:Hid (∀(W:World) (b:Nat),b=W.heap.size->WS (W.alloc (.cells #[.int .u32 ((x:Int)+(y:Int)*65536)] 138)) (some ⟨b,0,none⟩) [z]):=fun W b hb=>by
      rw[show(x:Int)+(y:Int)*65536=(z:Int) by have:=HZ.out;rw[hyd]at this;omega];exact WB.out W b _ hb
     have hx2:(x:Int)<65536:=by omega
     have hy2:(y:Int)<65536:=by omega
     clear hcc hx hy hyd hxb hyb
     go_wp2_with (first|(at_builtin;go_must (refine lP (w0:=wr) (base:=b5+1) (v:=v) (l:=pk (m.take k)) ?_ ?_ ?_ 60 60 Tryz.underlying60 Tryz.underlying60 [z] wr.heap.size 1 1 rfl ?_ hlen rfl (.tmp 43) (.tmp 45) rfl (by rfl) (by rfl) ?_);(exact World.ownsRow.alloc HR.out.1 _);(exact bel);(focus(simp;omega));(exact HY.out _ _ aU);intro v4 w4 hown4 hB4 hz4;obtain⟨a4,cap4,hv4,_⟩:=hown4.ws;subst hv4;have HO4:=ae (And.intro hown4 hB4);have k4:=(hB4.cell (p:=⟨b5,0,none⟩) (iU _)).trans k0;have k5:=(hB4.cell (p:=⟨b5,1,none⟩) (iU _)).trans k1;have k6:=(hB4.frozen (p:=⟨b5,1,none⟩) (iU _)).trans kf;clear hown4 hB4))
     go_roundw
     case rel=>
      refine⟨k+2,.slice a4 ((pk (m.take k)).length+1) cap4,by omega,by go_num,by have:=HK.out;show(k+2)%2=0;omega,?_,?_,?_,?_,?_,?_⟩
      ·rw[fj _ _ _ _ _ aa];exact k4
      ·exact gl _ _ _ _ _ k5
      ·rw[World.frozen?_setCell];exact k6
      ·simp;omega
      ·have h1:=HO4.out.1;rw[show(pk (m.take k)++[z]).length=(pk (m.take k)).length+1 by simp]at h1;rw[<-PK.out]at h1;exact h1.Mh _ (iU _)
      ·exact Below.setCell (Below.trans HR.out.2 (HO4.out.2.mono (kC _))) (af _) _
     case measure=>simp[intOf];omega
    ·have hkq4:¬(k:Int)+1<(q:Int):=by omega
     have hyd:m.getD (k+1) 0=0:=by rw[aq,gQ (by rw[<-HQ.out];omega)];rfl
     have HY:Hid (∀(W:World) (b:Nat),b=W.heap.size->WS (W.alloc (.cells #[.int .u32 (x:Int)] 138)) (some ⟨b,0,none⟩) [z]):=fun W b hb=>by
      rw[show(x:Int)=(z:Int) by have:=HZ.out;rw[hyd]at this;omega];exact WB.out W b z hb
     have hx2:(x:Int)<65536:=by omega
     clear hcc hx hyd hxb
     go_wp2_with (first|(at_builtin;go_must (refine lP (w0:=wr) (base:=b5+1) (v:=v) (l:=pk (m.take k)) ?_ ?_ ?_ 60 60 Tryz.underlying60 Tryz.underlying60 [z] wr.heap.size 1 1 rfl ?_ hlen rfl (.tmp 43) (.tmp 45) rfl (by rfl) (by rfl) ?_);(exact World.ownsRow.alloc HR.out.1 _);(exact bel);(focus(simp;omega));(exact HY.out _ _ aU);intro v4 w4 hown4 hB4 hz4;obtain⟨a4,cap4,hv4,_⟩:=hown4.ws;subst hv4;have HO4:=ae (And.intro hown4 hB4);have k4:=(hB4.cell (p:=⟨b5,0,none⟩) (iU _)).trans k0;have k5:=(hB4.cell (p:=⟨b5,1,none⟩) (iU _)).trans k1;have k6:=(hB4.frozen (p:=⟨b5,1,none⟩) (iU _)).trans kf;clear hown4 hB4))
     go_roundw
     case rel=>
      refine⟨k+2,.slice a4 ((pk (m.take k)).length+1) cap4,by omega,by go_num,by have:=HK.out;show(k+2)%2=0;omega,?_,?_,?_,?_,?_,?_⟩
      ·rw[fj _ _ _ _ _ aa];exact k4
      ·exact gl _ _ _ _ _ k5
      ·rw[World.frozen?_setCell];exact k6
      ·simp;omega
      ·have h1:=HO4.out.1;rw[show(pk (m.take k)++[z]).length=(pk (m.take k)).length+1 by simp]at h1;rw[<-PK.out]at h1;exact h1.Mh _ (iU _)
      ·exact Below.setCell (Below.trans HR.out.2 (HO4.out.2.mono (kC _))) (af _) _
     case measure=>simp[intOf];omega
   ·have hkq2:¬(k:Int)<(q:Int):=by omega
    have hfin:=FIN1.out m wr v (b5+1) HM.out.1 HM.out.2 (by have h1:=HR.out.1;rw[VC (by rw[<-HQ.out];omega)]at h1;exact h1);obtain⟨y,rfl,rfl,hy⟩:=hfin;have HY:=ae hy;have r0:wr.cell? ⟨w.heap.size,0,none⟩=some (.bool false):=(HR.out.2.cell (p:=⟨w.heap.size,0,none⟩) Dx).trans (by go_simp);have r1:wr.cell? ⟨w.heap.size,1,none⟩=some (.slice none 0 0):=(HR.out.2.cell (p:=⟨w.heap.size,1,none⟩) Dx).trans (by go_simp);have r2:wr.frozen? ⟨w.heap.size,0,none⟩=false:=(HR.out.2.frozen (p:=⟨w.heap.size,0,none⟩) Dx).trans (by go_simp);have r3:wr.frozen? ⟨w.heap.size,1,none⟩=false:=(HR.out.2.frozen (p:=⟨w.heap.size,1,none⟩) Dx).trans (by go_simp);have r4:w.heap.size<wr.heap.size:=by have:=kl;have:=HB5.out;omega
    have hB6:Below w.heap.size w wr:=Below.trans (b:=more (w.alloc (.cells #[.bool false,.slice none 0 0] 62)) g1) aA (HR.out.2.mono (by rw[HB5.out];omega));have HB6:=ae hB6;clear hy hB6
    go_wp2_with fail
    refine bodyPost_ret (v:=.agg #[.bool y.s,.slice y.a y.n y.cap]) (by simp[results,Tryz.results150,go_sem,r0,r1]) rfl ⟨⟨y,rfl,?_⟩,?_⟩
    ·refine(HY.out.off (Off.set wr w.heap.size 0 _) r0).off (Off.set _ w.heap.size 1 _) (c:=y.s) ?_;exact gl _ _ _ _ _ r0
    ·have hB:=HB6.out;exact bel
end
section
open Go.RowKit
namespace DW
theorem sy{l:List Nat}{k:Nat}(h:k<l.length):l[k]?=some (l.getD k 0):=by rw[aq,aV h];rfl
theorem hd_of{l:List Nat}(h:Dg.dig 65536 l):l.take (tl l)=hd (Dg.vl 65536 l):=by
 obtain⟨h1,h2⟩:=Ts h;have:=Dg.GF au h1;rw[h2]at this;exact this.symm
abbrev trimQ(N:Nat)(e:Exit)(s:S):Prop:=(e= .normal\/e= .ret)/\s.gt 2= .own 18/\(18,(⟨3,1,(hd N).map hN⟩:Ow))∈s.ow
set_option maxRecDepth 20000 in
set_option maxHeartbeats 1000000 in
theorem LM(X0:Nat->Prop)(l:List Nat)(hl:l.length<=900000000)(hdg:Dg.dig 65536 l):∃c,Tryz.f188.body=some c/\aW Tryz.prog X0 Tryz.f188.ntmps c (trimQ (Dg.vl 65536 l)) ⟨aP 0 [dN l],[]⟩:=by
 refine⟨_,rfl,?_⟩;have HT:=hd_of hdg;simp only[aP];refine mO ?_;refine kX ?_;refine zs5 ?_;refine cn ?_
 (refine av (ay (sl':=[(0,dN l),(3,zI l.length)]) (ow':=[]) aF aH) ?_)
 refine bh (fun k s=>tl l<=k/\k<=l.length/\s=⟨[(0,dN l),(3,zI k)],[]⟩) (m:=l.length) ⟨lg l,af _,rfl⟩ fun k s hs=>?_;obtain⟨hk1,hk2,rfl⟩:=hs;have fin':∀(K:Exit->S->Prop),k=tl l->([]++(l.map hN).take k)=(hd (Dg.vl 65536 l)).map hN:=fun _ e=>by rw[ew,<-vV,e,HT]
 by_cases hk0:k=0
 ·subst hk0;have ht:tl l=0:=by omega
  refine kX ?_;refine zs7 ?_;refine gO ?_;refine zs8 ?_;refine zs9 ?_;refine zs10 ?_;refine jO ?_;refine J5 ?_;refine nP ?_;refine eX ?_;refine sH oM (by rfl) ?_;refine zs2 ?_;refine Rs ?_;refine zs2 ?_;exact⟨.inr rfl,by rfl,by rw[<-fin' (fun _ _=>True) ht.symm];exact bn⟩
 ·have hx:=sy (l:=l) (k:=k-1) aa;obtain⟨x,hxd⟩:∃x,x=l.getD (k-1) 0:=⟨_,rfl⟩;rw[<-hxd]at hx;have hcast:(k:Int)-1=((k-1:Nat):Int):=by omega
  by_cases hx0:x=0
  ·have hlt : tl l < k := by
    rcases tI l with h|h
    ·omega
    ·apply Nat.lt_of_le_of_ne hk1;intro e;rw[e]at h;exact h (by rw[<-hxd,hx0])
   refine zs2 ?_;refine Rr ?_;refine zs2 ?_;refine rA oM (aD aa) ?_;refine zs2 ?_;refine xr ?_;simp only[nx,inB];exact⟨k-1,_,by omega,(ay (sl':=[(0,dN l),(3,zI (k-1:Nat))]) (ow':=[]) aF aH),by omega,by omega,rfl⟩
  ·have ht : k = tl l := by
    apply xD _ hk1;apply dJ;intro h;exact hx0 (by rw[hxd];exact qq l (k-1) aa)
   refine zs2 ?_;refine Rr ?_;refine zs2 ?_;refine sH oM (aG aa) ?_;refine zs2 ?_;refine Rs ?_;refine zs2 ?_;exact⟨.inr rfl,by rfl,by rw[<-fin' (fun _ _=>True) ht];exact bn⟩
theorem LP(l:List Nat)(hl:l.length<=900000000)(hdg:Dg.dig 65536 l):Fn Tryz.prog 188 [dN l] (dN (hd (Dg.vl 65536 l))):=by
 refine bg Tryz.func188 ah rfl rfl rfl fun X0=>?_;obtain⟨c,h1,h2⟩:=LM X0 l hl hdg;cases h1;refine h2.mono fun e s ⟨h3,h4,h5⟩=>?_;have:=Ux (P:=Tryz.prog) (X0:=X0) (n:=Tryz.f188.ntmps) (fn:=Tryz.f188) (s:=s) (t:=2) rfl h4 h5;rcases h3 with rfl|rfl<;>exact this
theorem Nx(l:List Nat)(hl:l.length<=900000000)(hdg:Dg.dig 65536 l)(X:Nat->Prop)(w:World)(v:Value)(hX:XW X w)(hv:AR X w (dN l) v):Calls Tryz.prog 188 #[v] w fun e w'=>HRes w' e (Dg.vl 65536 l)/\Below w.heap.size w w':=by
 obtain⟨c,h1,h2⟩:=LM X l hl hdg;refine Oe (ds:=[dN l]) Tryz.func188 h1 rfl rfl hX (by simp only[ATp];exact⟨v,[],rfl,hv,rfl⟩) _ h2 fun e s f a w' ⟨h3,h4,h5⟩ hh=>⟨h3,a.tmps.getD 2 undef,results_tmp rfl a.tmps _ _,⟨_,hd (Dg.vl 65536 l),rfl,?_,(Dg.dA au _).1,(Dg.dA au _).2⟩,hh.bl.low⟩;have h6:=hh.sl 2;rw[h4]at h6;simp only[SR]at h6;rw[h6];obtain⟨_,xs,⟨k1,k2⟩,k3⟩:=hh.ow _ h5;simp only[bD]at k1 k2 k3;rcases k2 with⟨k4,k5⟩|⟨g,cap,cur,k4,_,hgg,hle,hm,hcs,htk⟩
 ·exact .inl ⟨k4,gP k5⟩
 ·refine .inr ⟨g,cap,k4,hle,hm,(iG.1 hgg).1,fun k x hk=>?_⟩;have hd':((hd (Dg.vl 65536 l)).map hN)[k]?=some (hN x):=by rw[bN,hk];rfl
  obtain⟨u,e1,_,_,e4⟩:=Els.at k3 hd';simp only[AR]at e1;have h7:=e4 0 u (by rw[jF (by rw[e1.1];rfl)];rfl);rw[fH,bZ]at h7;rw[cell_of_row w' g _ cur _ (0,0) hgg];have hlt:=(ct.1 h7).1;rw[<-htk,aY]at hlt;rw[<-htk,jo aa,eL]at h7;rw[h7,e1.1]
theorem F5(s:Bool)(l:List Nat)(hl:l.length<=900000000)(hdg:Dg.dig 65536 l):Fn Tryz.prog 150 [.sc (.bool s),dN l] (.nm (Dg.iv s (Dg.vl 65536 l))):=by
 refine⟨Go.Proofs.enters_of Tryz.func150 ah rfl,fun X w vs hX hv=>?_⟩;simp only[ATp]at hv;obtain⟨v1,r1,e,h1,v2,r2,e2,h2,e3⟩:=hv;simp only[AR]at h1;rw[e2,e3,h1.1]at e;have:vs= #[.bool s,v2]:=cM.1 e;subst this;exact(Ny s l v2 aa hdg w fun W hW=>Nx l hl hdg X W v2 (hX.grow hW) (h2.grow hW)).mono fun e w' ⟨⟨x,k1,k2⟩,k3⟩=>⟨_,k1,by simp only[AR];exact⟨x,rfl,k2⟩,k3⟩
set_option maxRecDepth 20000 in
set_option maxHeartbeats 1000000 in
theorem Qb(z:Int)(hz:(wds z.natAbs).length<=400000000):Fn Tryz.prog 151 [.nm z] (dN (hd z.natAbs)):=by
 refine bg Tryz.func151 ah rfl rfl rfl fun X0=>?_;simp only[aP];have hv:Dg.vl B32 (wds z.natAbs)=z.natAbs:=(Dg.dA au _).2;have hdu:Dg.dig B32 (wds z.natAbs):=(Dg.dA au _).1.dg;have hvl:Dg.vl 65536 (hw (wds z.natAbs))=z.natAbs:=by rw[Sv,hv]
 have TRIM:=LP (hw (wds z.natAbs)) (by rw[Gc];omega) (Nw hdu);rw[hvl]at TRIM;refine zs2 ?_;refine JX ?_;refine lS ?_;refine av (dz (t:=3) (k:=3) (T:=3) (wd:=1) fF rfl rfl cj) ?_
 (refine av (ay (sl':=[(1,.pt (.nm z)),(3,.own 3),(4,zI 0)]) (ow':=[(3,⟨3,1,[]⟩)]) aF aH) ?_)
 refine bh (fun r s=>∃k,k<=(wds z.natAbs).length/\r=(wds z.natAbs).length-k/\s=⟨[(1,.pt (.nm z)),(3,.own 3),(4,zI k)],[(3,⟨3,1,(hw ((wds z.natAbs).take k)).map hN⟩)]⟩) (m:=(wds z.natAbs).length) ⟨0,by omega,rfl,by simp[hw]⟩ fun r s hs=>?_;obtain⟨k,hk,rfl,rfl⟩:=hs;by_cases hkl:k<(wds z.natAbs).length
 ·have hx:=sy hkl;obtain⟨x,hxd⟩:∃x,x=(wds z.natAbs).getD k 0:=⟨_,rfl⟩;rw[<-hxd]at hx;have hx32:x<4294967296:=hdu x (bj hx);have hql:x/65536<65536:=by omega
  refine nI ?_;refine zs2 ?_;refine rA oM (aD aa) ?_;refine zs2 ?_;refine zs25 ?_;refine ib ?_;refine Bt ?_;refine eJ ?_;refine rJ ?_;(first|refine fo rfl rfl rfl ai zb11 ai ai ?_|((try refine bf ?_);refine aL1 rfl rfl rfl zb11 ?_));refine zs30 ?_;refine Bt ?_;refine eJ ?_;refine rJ ?_;(first|refine fo rfl rfl rfl ai zb8 ai ai ?_|((try refine bf ?_);refine aL1 rfl rfl rfl zb8 ?_));refine zs30 ?_;(first|refine fo rfl rfl rfl ai zb36 ai ai ?_|((try refine bf ?_);refine aL1 rfl rfl rfl zb36 ?_));((try refine bf ?_);(refine lQ rfl rfl rfl rfl ck ck aX ai pR ah ah (by(simp only[bD,Gc,aY,iD,gW];omega)) cj sK ?_));refine pn ?_;refine zs2 ?_;refine fE ?_;simp only[nx,inB];refine⟨(wds z.natAbs).length-(k+1),_,by omega,(ay (sl':=[(1,.pt (.nm z)),(3,.own 3),(4,zI (k+1:Nat))]) (ow':=[(3,⟨3,1,(hw ((wds z.natAbs).take k)).map hN++[hN (x%65536),hN (x/65536)]⟩)]) aF aH),k+1,by omega,rfl,?_⟩;rw[Ut hx,cL];rfl
 ·have hke:k=(wds z.natAbs).length:=by omega
  subst hke;rw[gf];refine nI ?_;refine zs2 ?_;refine sH oM (aG aa) ?_;refine zs2 ?_;refine av (az (k:=3) aX bq bp) ?_;refine Dr ?_;refine zs2 ?_;exact⟨_,Sh.refl,.one (.tmp 2) _ rfl (.tmp 2 rfl)⟩
end DW
end
section
open Go.RowKit
namespace DW
theorem jH{n k:Nat}(h:n<65536^k):(hd n).length<=k:=by
 apply dJ;intro hlt;obtain⟨j,hj⟩:∃j,(hd n).length=j+1:=⟨(hd n).length-1,by omega⟩;have h1:=Dg.ou hj (Dg.dA au n).1;rw[show Dg.vl 65536 (hd n)=n from(Dg.dA au n).2]at h1;have h2:=bI (n:=65536) aa (show k<=j by omega);omega
theorem sq(n:Nat):n<65536^(hd n).length:=by
 have h:=Dg.cq (Dg.dA (b:=65536) au n).1.dg;rw[(Dg.dA au n).2]at h;exact h
theorem jB{m n:Nat}(h:m<=n):(hd m).length<=(hd n).length:=jH (gY h (sq n))
theorem Tj(n:Nat):(wds n).length<=(hd n).length:=by
 by_cases h0:(wds n).length=0
 ·omega
 ·obtain⟨j,hj⟩:∃j,(wds n).length=j+1:=⟨(wds n).length-1,by omega⟩;have h1:=Dg.ou hj (Dg.dA (b:=4294967296) au n).1;rw[show Dg.vl 4294967296 (wds n)=n from(Dg.dA au n).2]at h1;have h2:(4294967296:Nat)^j=65536^(2*j):=by rw[qG]
  rw[h2]at h1;have h3:=gY h1 (sq n);have h4:=(Nat.pow_lt_pow_iff_right (by omega:1<65536)).1 h3;omega
theorem kG(n:Nat):Dg.dig 65536 (hd n):=(Dg.dA au n).1.dg
theorem jY(n:Nat):Dg.vl 65536 (hd n)=n:=(Dg.dA au n).2
theorem oz(n:Nat):(hd n).length=0↔n=0:=by
 rw[List.length_eq_zero_iff];exact Dg.UG au
def Hf(z:Int):Prop:=(hd z.natAbs).length<=200000000
theorem Hf.neg{z:Int}(h:Hf z):Hf (-z):=by unfold Hf;rw[pH];exact h
theorem Hf.le{z y:Int}(h:Hf z)(hy:y.natAbs<=z.natAbs):Hf y:=aB (jB hy) h
theorem iM{z:Int}(h:Hf z):Fn Tryz.prog 151 [.nm z] (dN (hd z.natAbs)):=Qb z (by have:=Tj z.natAbs;unfold Hf at h;omega)
theorem Aj{l:List Nat}(hl:l.length<=900000000)(hdg:Dg.dig 65536 l){n:Nat}(hv:Dg.vl 65536 l=n):Fn Tryz.prog 188 [dN l] (dN (hd n)):=hv▸LP l hl hdg
theorem mg{s:Bool}{n:Nat}(h:(hd n).length<=900000000){z:Int}(hz:Dg.iv s n=z):Fn Tryz.prog 150 [.sc (.bool s),dN (hd n)] (.nm z):=by
 have:=F5 s (hd n) h (kG n);rw[jY,hz]at this;exact this
theorem A6{z:Int}:Dg.iv (decide (z<0)) z.natAbs=z:=by unfold Dg.iv;split<;>rename_i h<;>simp at h<;>omega
theorem VO{z:Int}:Dg.iv (!decide (z<0)) z.natAbs= -z:=by unfold Dg.iv;split<;>rename_i h<;>simp at h<;>omega
set_option maxRecDepth 20000
set_option maxHeartbeats 1000000
theorem FJ(z:Int)(hz:Hf z):Fn Tryz.prog 80 [.nm z] (.nm z):=by
 have D1:=iM hz;have M1:=mg (s:=decide (z<0)) (n:=z.natAbs) (by unfold Hf at hz;omega) A6;refine bg Tryz.func80 ah rfl rfl rfl fun X0=>?_;simp only[aP];refine zs2 ?_;refine Dq ?_;refine zs2 ?_;refine zs36 ?_;refine yr ?_;refine eJ ?_;refine eJ ?_;refine vL ?_;refine xf ?_;refine zs2 ?_;exact⟨_,az (k:=2) aX bq bp,.one (.cell 2 62) _ rfl (.cell 2 _ _ rfl rfl ah ah)⟩
theorem So(z:Int)(hz:Hf z):Fn Tryz.prog 116 [.nm z] (.nm (-z)):=by
 have D1:=iM hz;have M1:=mg (s:=!decide (z<0)) (n:=z.natAbs) (by unfold Hf at hz;omega) VO;refine bg Tryz.func116 ah rfl rfl rfl fun X0=>?_;simp only[aP];refine zs2 ?_;refine Dq ?_;refine zs2 ?_;refine zs41 ?_;refine yr ?_;refine eJ ?_;refine zs42 ?_;refine eJ ?_;refine vL ?_;refine xf ?_;refine zs2 ?_;exact⟨_,az (k:=2) aX bq bp,.one (.cell 2 62) _ rfl (.cell 2 _ _ rfl rfl ah ah)⟩
theorem tM(z:Int)(hz:Hf z):Fn Tryz.prog 106 [.nm z] (zI (sgn z)):=by
 have D1:=iM hz;refine bg Tryz.func106 ah rfl rfl rfl fun X0=>?_;simp only[aP];by_cases h0:z=0
 ·have hl:(hd z.natAbs).length=0:=(oz _).2 aa;refine xe ?_;refine jk ?_;refine zs5 ?_;refine Br ?_;refine eX ?_;refine rA oM (aD aa) ?_;refine iA ?_;rw[show sgn z=0 by unfold sgn;rw[an h0]];exact⟨_,Sh.refl,.one (.tmp 2) _ rfl (.tmp 2 rfl)⟩
 ·have hl:(hd z.natAbs).length≠0:=fun e=>h0 (by have:=(oz _).1 e;omega);refine xe ?_;refine jk ?_;refine zs5 ?_;refine Br ?_;refine eX ?_;refine sH oM (aG aa) ?_;refine zs2 ?_;refine JW ?_;refine zs2 ?_;by_cases h1:z<0
  ·refine rA oM (aD aa) ?_;refine iA ?_;rw[show sgn z= -1 by unfold sgn;rw[aj aa,an h1]];exact⟨_,Sh.refl,.one (.tmp 2) _ rfl (.tmp 2 rfl)⟩
  ·refine sH oM (aG aa) ?_;refine iA ?_;rw[show sgn z=1 by unfold sgn;rw[aj aa,aj aa]];exact⟨_,Sh.refl,.one (.tmp 2) _ rfl (.tmp 2 rfl)⟩
end DW
end
section
open Go.RowKit
namespace DW
theorem Tn{b:Nat}(l:List Nat)(x:Nat):Dg.vl b (l++[x])=Dg.vl b l+b^l.length*x:=by rw[Dg.fW];simp[Dg.vl]
theorem rn{b:Nat}{l:List Nat}{x:Nat}(h:Dg.dig b l)(hx:x<b):Dg.dig b (l++[x]):=Dg.oD h fun y hy=>by
 rw[bL.1 hy];exact hx
theorem qV(l:List Nat)(x:Nat):(l++[x]).map hN=l.map hN++[hN x]:=by rw[cL];rfl
theorem MV{l:List Nat}{m:Nat}(h:65536^l.length*m<65536^4)(hm:0<m):l.length<4:=by
 have h1:65536^l.length<=65536^l.length*m:=eQ _ hm;exact(Nat.pow_lt_pow_iff_right (by omega:1<65536)).1 (gY h1 h)
theorem Iv(l:List Nat)(m:Nat):Dg.vl 65536 (l++[m%65536])+65536^(l++[m%65536]).length*(m/65536)=Dg.vl 65536 l+65536^l.length*m:=by
 rw[Tn,cv,kv,dQ,bP,py,<-gA];congr 2;omega
set_option maxRecDepth 20000
set_option maxHeartbeats 1000000
theorem yM(z:Int)(hz: -9223372036854775808<=z/\z<=9223372036854775807):Fn Tryz.prog 81 [zI z] (.nm z):=by
 refine bg Tryz.func81 ah rfl rfl rfl fun X0=>?_;simp only[aP];have hb:z.natAbs<65536^4:=by rw[show(65536:Nat)^4=18446744073709551616 by rfl];omega
 refine zs2 ?_;refine gar ?_;refine zs35 ?_;refine eX ?_;refine mT ?_;refine kX ?_;refine zs7 ?_;refine cn ?_;refine av (dz (t:=3) (k:=3) (T:=3) (wd:=1) fF rfl rfl cj) ?_;by_cases hn:z<0
 ·have M : ∀ l : List Nat, Dg.vl 65536 l = z.natAbs -> Dg.dig 65536 l -> l.length <= 4 -> Fn Tryz.prog 150 [.sc (.bool (decide (z < 0))), dN l] (.nm z) := fun l h1 h2 h3 => by
   have:=F5 (decide (z<0)) l aa h2;rwa[h1,A6]at this
  (refine av (ay (sl':=[(0,zI (-((z.natAbs:Nat):Int))),(2, .opt 2 0),(3, .own 3),(4, .sc (.bool (decide (z<0))))]) (ow':=[(3,⟨3,1,[]⟩),(2,⟨62,2,[.nm 0]⟩)]) aF aH) ?_)
  refine bh (fun r s=>∃l,Dg.dig 65536 l/\l.length<=4/\Dg.vl 65536 l+65536^l.length*r=z.natAbs/\r<=9223372036854775808/\s=⟨[(0,zI (-(r:Int))),(2, .opt 2 0),(3, .own 3),(4, .sc (.bool (decide (z<0))))],[(3,⟨3,1,l.map hN⟩),(2,⟨62,2,[.nm 0]⟩)]⟩) (m:=z.natAbs) ⟨[],fun _ h=>(by cases h),by simp,by simp[Dg.vl],by omega,rfl⟩ fun r s hs=>?_;obtain⟨l,h1,h2,h3,h4,rfl⟩:=hs;by_cases hr:r=0
  ·subst hr;refine jN ?_;refine av (az (k:=3) aX bq bp) ?_;refine bT ?_;refine zs47 ?_;refine jj ?_;exact⟨_,az (k:=2) aX bq bp, .one (.cell 2 62) _ rfl (.cell 2 _ _ rfl rfl ah ah)⟩
  ·have hl:=MV (l:=l) (m:=r) aa aa;have e1:(-(r:Int)).tmod 65536= -((r%65536:Nat):Int):=by rw[Int.neg_tmod];rfl
   have e2:(-(r:Int)).tdiv 65536= -((r/65536:Nat):Int):=by rw[Int.neg_tdiv];rfl
   have h5:=Iv l r;have h6:=rn h1 (eC r (by omega:0<65536));have h7:(l++[r%65536]).length=l.length+1:=by simp
   have h8:=qV l (r%65536);refine zs2 ?_;refine JV ?_;refine zs2 ?_;refine fe ?_;by_cases hd0:r%65536=0;all_goals
    refine kX ?_;refine JB ?_;refine cn ?_;refine jn ?_;refine zs2 ?_
    (first|(refine fe ?_;(refine zs2 ?_);(refine gar ?_;refine zs4 ?_;(refine aL1 rfl rfl rfl (by(apply d_neg;(exact rfl);(focus((apply aE;(conv=>lhs;whnf);(first|done|exact rfl))));(omega))) ?_);refine zs6 ?_;refine aQ ?_);(refine zs2 ?_))|(refine fD ?_;(refine zs2 ?_)))
    (refine av (ay (sl':=[(0,zI (-(r:Int))),(2, .opt 2 0),(3, .own 3),(4, .sc (.bool (decide (z<0)))),(5,hN (r%65536))]) (ow':=[(3,⟨3,1,l.map hN⟩),(2,⟨62,2,[.nm 0]⟩)]) aF aH) ?_)
    refine zs2 ?_;refine uz ?_;refine zs2 ?_;refine zz ?_;refine zs2 ?_;simp only[nx,inB];exact⟨r/65536,_,by omega,(ay (sl':=[(0,zI (-((r/65536:Nat):Int))),(2, .opt 2 0),(3, .own 3),(4, .sc (.bool (decide (z<0))))]) (ow':=[(3,⟨3,1,l.map hN++[hN (r%65536)]⟩),(2,⟨62,2,[.nm 0]⟩)]) aF aH),l++[r%65536],h6,by omega,by omega,by omega,by rw[h8]⟩
 ·have M : ∀ l : List Nat, Dg.vl 65536 l = z.natAbs -> Dg.dig 65536 l -> l.length <= 4 -> Fn Tryz.prog 150 [.sc (.bool (decide (z < 0))), dN l] (.nm z) := fun l h1 h2 h3 => by
   have:=F5 (decide (z<0)) l aa h2;rwa[h1,A6]at this
  (refine av (ay (sl':=[(0,zI ((z.natAbs:Nat):Int)),(2, .opt 2 0),(3, .own 3),(4, .sc (.bool (decide (z<0))))]) (ow':=[(3,⟨3,1,[]⟩),(2,⟨62,2,[.nm 0]⟩)]) aF aH) ?_)
  refine bh (fun r s=>∃l,Dg.dig 65536 l/\l.length<=4/\Dg.vl 65536 l+65536^l.length*r=z.natAbs/\r<=9223372036854775807/\s=⟨[(0,zI (r:Int)),(2, .opt 2 0),(3, .own 3),(4, .sc (.bool (decide (z<0))))],[(3,⟨3,1,l.map hN⟩),(2,⟨62,2,[.nm 0]⟩)]⟩) (m:=z.natAbs) ⟨[],fun _ h=>(by cases h),by simp,by simp[Dg.vl],by omega,rfl⟩ fun r s hs=>?_;obtain⟨l,h1,h2,h3,h4,rfl⟩:=hs;by_cases hr:r=0
  ·subst hr;refine jN ?_;refine av (az (k:=3) aX bq bp) ?_;refine bT ?_;refine zs47 ?_;refine jj ?_;exact⟨_,az (k:=2) aX bq bp, .one (.cell 2 62) _ rfl (.cell 2 _ _ rfl rfl ah ah)⟩
  ·have hl:=MV (l:=l) (m:=r) aa aa;have h5:=Iv l r;have h6:=rn h1 (eC r (by omega:0<65536));have h7:(l++[r%65536]).length=l.length+1:=by simp
   have h8:=qV l (r%65536);refine rF ?_;refine cE ?_;refine JB ?_;refine cn ?_;refine jn ?_;refine bR ?_;refine uz ?_;refine zs2 ?_;refine zz ?_;refine zs2 ?_;simp only[nx,inB];exact⟨r/65536,_,by omega,(ay (sl':=[(0,hN (r/65536)),(2, .opt 2 0),(3, .own 3),(4, .sc (.bool (decide (z<0))))]) (ow':=[(3,⟨3,1,l.map hN++[hN (r%65536)]⟩),(2,⟨62,2,[.nm 0]⟩)]) aF aH),l++[r%65536],h6,by omega,by omega,by omega,by rw[h8]⟩
end DW
end
end Go.Proofs.YtcgjmdpcplhanaaGreat
