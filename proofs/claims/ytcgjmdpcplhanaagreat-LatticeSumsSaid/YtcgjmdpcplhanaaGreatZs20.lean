/- Lemmas for the law: E72 DU E77 -/
import Derived.Test.YtcgjmdpcplhanaaGreatZs19
namespace Go.Proofs.YtcgjmdpcplhanaaGreat
section
theorem QE{p q:Prop}(h:q)(f:Wq q->p:=by(intro hW;(refine pY ?_;refine yp ?_;refine J0 ?_;refine zs6 ?_;refine zs6 ?_;refine iE ?_;refine aQ ?_);exact hW.out)):p:=f ⟨h⟩
theorem JY{p q:Prop}(h:q)(f:Wq q->p:=by(intro hW;((first|refine fo rfl rfl rfl ai BD ai ai ?_|((try refine bf ?_);refine aL1 rfl rfl rfl BD ?_)));exact hW.out)):p:=f ⟨h⟩
theorem QI{p q:Prop}(h:q)(f:Wq q->p:=by(intro hW;(refine Jy ?_;refine Bt ?_;refine eJ ?_;refine JY ?_;refine eJ ?_;refine oK ?_;refine Bt ?_;refine eJ ?_;refine JY ?_;refine eJ ?_;refine oK ?_;refine El ?_;refine pn ?_);exact hW.out)):p:=f ⟨h⟩
theorem zb50{p:Prop}(h:p:=by(repeat(first|exact UJ|(apply UK;(exact rfl))|(apply Qg;(exact rfl))))):p:=h
theorem Qy{p q:Prop}(h:q)(f:Wq q->p:=by(intro hW;(refine uA ?_;refine dH ?_;refine uA ?_;refine dH ?_;refine lV ?_;refine Du ?_;refine rL ?_;refine mU ?_;refine mU ?_;refine jP ?_;refine rN ?_;refine lU ?_);exact hW.out)):p:=f ⟨h⟩
theorem zb68{p:Prop}(h:p:=by(simp only[bD,cv,gW];omega)):p:=h
theorem QH{p q:Prop}(h:q)(f:Wq q->p:=by(intro hW;(refine bT ?_;refine RF ?_;refine ll ?_;refine ll ?_;refine pX ?_;refine yp ?_;refine zs6 ?_;refine zs6 ?_;refine cT ?_);exact hW.out)):p:=f ⟨h⟩
theorem zs165{p q:Prop}(h:q)(f:Wq q->p:=by(intro hW;((refine dT (k:=4) (z:=(.agg #[.int .i64 0,.slice none 0 0,.int .i64 0])) (d:=(.st [.sc (.int .i64 0),.sc (.slice none 0 0),.sc (.int .i64 0)])) rfl rfl rfl rfl rfl ah ai ai cX ai ai cj ?_));exact hW.out)):p:=f ⟨h⟩
theorem zs272{p q:Prop}(h:q)(f:Wq q->p:=by(intro hW;(refine iy ?_;refine uy ?_;refine zs165 ?_;refine jw ?_;refine aQ ?_);exact hW.out)):p:=f ⟨h⟩
theorem uv{p q:Prop}(h:q)(f:Wq q->p:=by(intro hW;(refine zs2 ?_;refine zs272 ?_;refine zs2 ?_);exact hW.out)):p:=f ⟨h⟩
theorem QF{p q:Prop}(h:q)(f:Wq q->p:=by(intro hW;(refine rM ?_;refine zE ?_;refine dH ?_;refine fZ ?_;refine Qy ?_);exact hW.out)):p:=f ⟨h⟩
theorem zs167{p q:Prop}(h:q)(f:Wq q->p:=by(intro hW;((refine mr (k:=7) (z:=(.agg #[.int .i64 0,.slice none 0 0,.bool false,.slice none 0 0])) (d:=(.st [.sc (.int .i64 0),.sc (.slice none 0 0),.sc (.bool false),.sc (.slice none 0 0)])) rfl rfl rfl rfl rfl ah ai ai cX ai ai ?_));exact hW.out)):p:=f ⟨h⟩
theorem zs168{p q:Prop}(h:q)(f:Wq q->p:=by(intro hW;((refine mr (k:=8) (z:=(.agg #[.int .i64 0,.slice none 0 0,.bool false,.slice none 0 0])) (d:=(.st [.sc (.int .i64 0),.sc (.slice none 0 0),.sc (.bool false),.sc (.slice none 0 0)])) rfl rfl rfl rfl rfl ah ai ai cX ai ai ?_));exact hW.out)):p:=f ⟨h⟩
theorem zs166{p q:Prop}(h:q)(f:Wq q->p:=by(intro hW;(refine rz [7,8] ah Ki ?_);exact hW.out)):p:=f ⟨h⟩
theorem JF{p q:Prop}(h:q)(f:Wq q->p:=by(intro hW;(refine zs166 ?_;refine dH ?_;refine rL ?_;refine dH ?_;refine rL ?_;refine zs167 ?_;refine zs168 ?_;refine jP ?_;refine jP ?_;refine lU ?_);exact hW.out)):p:=f ⟨h⟩
theorem QG{p q:Prop}(h:q)(f:Wq q->p:=by(intro hW;(refine bT ?_;refine RR ?_;refine zs5 ?_;refine Dt ?_;refine aQ ?_);exact hW.out)):p:=f ⟨h⟩
end
section
open Go.RowKit
namespace DW
set_option maxRecDepth 20000
set_option maxHeartbeats 4000000
theorem VB(n1 e1 n2 e2 C:Int)(m1 m2:Mx.Mat)(hC:C≠0)(TW:Fn Tryz.prog 134 [dL n1 m1 e1,dL n2 m2 e2] (zI C)):Fn Tryz.prog 67 [dL n1 m1 e1,dL n2 m2 e2] (.tp [dL 0 [] 0,zI C]):=by
 refine bg Tryz.func67 ah rfl rfl rfl fun X0=>?_;simp only[aP];refine uv ?_;refine rK ?_;refine rF ?_;refine gar ?_;refine J4 ?_;refine zs4 ?_;refine iE ?_;refine cn ?_;exact⟨_,Sh.trans (az (k:=4) aX bq bp) (sJ (t:=4) (d:=.pt (.st [_,.sc (.slice none 0 0),_])) (d':=.pt (.st [_,dM [],_])) ai rfl rfl fun X w v h=>nt h),.two (.cell 4 48) (.tmp 5) _ _ rfl (.cell 4 _ _ rfl rfl ah ah) (.tmp 5 rfl)⟩
theorem VA(n1 e1 n2 e2 d1 d2 d d3 a b C:Int)(m1 m2 R1 R2 P Q A R3 R:Mx.Mat)(TW:Fn Tryz.prog 134 [dL n1 m1 e1,dL n2 m2 e2] (zI 0))(RA:Fn Tryz.prog 87 [dL n1 m1 e1] (dF n1 R1 d1))(RB:Fn Tryz.prog 87 [dL n2 m2 e2] (dF n2 R2 d2))(B1:Fn Tryz.prog 100 [dW R1,.nm d2] (dW P))(B2:Fn Tryz.prog 100 [dW R2,.nm d1] (dW Q))(CC:Fn Tryz.prog 140 [.ls 1 [dW P,dW Q]] (dW A))(ML:Fn Tryz.prog 117 [.nm d1,.nm d2] (.nm d))(NO:Fn Tryz.prog 103 [zI n1,dW A,.nm d] (dF n1 R3 d3))(HD:Fn Tryz.prog 88 [dF n1 R3 d3] (.tp [dL a R b,zI C])):Fn Tryz.prog 67 [dL n1 m1 e1,dL n2 m2 e2] (.tp [dL a R b,zI C]):=by
 refine bg Tryz.func67 ah rfl rfl rfl fun X0=>?_;simp only[aP];refine uv ?_;refine rK ?_;refine jN ?_;refine JF ?_;refine zs2 ?_;refine av (az (k:=7) aX bq bp) ?_;refine av (az (k:=8) aX bq bp) ?_;refine zs2 ?_;refine rM ?_;refine zE ?_;refine dH ?_;refine zD ?_;refine dH ?_;refine uA ?_;refine dH ?_;refine lV ?_;refine zD ?_;refine dH ?_;refine uA ?_;refine dH ?_;refine lV ?_;(first|refine aN1 rfl rfl rfl zb9 ?_|refine ph rfl rfl rfl zb9 ?_);refine rL ?_;refine Qy ?_;refine zs2 ?_;exact⟨_,az (k:=4) aX bq bp,.two (.cell 4 48) (.tmp 5) _ _ rfl (.cell 4 _ _ rfl rfl ah ah) (.tmp 5 rfl)⟩
theorem T5(n1 e1 n2 e2 C:Int)(m1 m2:Mx.Mat)(hC:C≠0)(TW:Fn Tryz.prog 134 [dL n1 m1 e1,dL n2 m2 e2] (zI C)):Fn Tryz.prog 68 [dL n1 m1 e1,dL n2 m2 e2] (.tp [dL 0 [] 0,zI C]):=by
 refine bg Tryz.func68 ah rfl rfl rfl fun X0=>?_;simp only[aP];refine uv ?_;refine rK ?_;refine rF ?_;refine gar ?_;refine J4 ?_;refine zs4 ?_;refine iE ?_;refine cn ?_;exact⟨_,Sh.trans (az (k:=4) aX bq bp) (sJ (t:=4) (d:=.pt (.st [_,.sc (.slice none 0 0),_])) (d':=.pt (.st [_,dM [],_])) ai rfl rfl fun X w v h=>nt h),.two (.cell 4 48) (.tmp 5) _ _ rfl (.cell 4 _ _ rfl rfl ah ah) (.tmp 5 rfl)⟩
def mtR(n:Nat)(P V:Mx.Mat):Mx.Mat:=V.map fun c=>fC P n (c.take P.length)
theorem FU(n:Nat)(P V:Mx.Mat)(c:List Int):mtR n P (V++[c])=mtR n P V++[fC P n (c.take P.length)]:=by simp[mtR]
theorem T4(n1 e1 n2 e2 d1 d2 d d3 a b C:Int)(r n:Nat)(m1 m2 R1 R2 P Q A H U R3 R:Mx.Mat)(hP:0<P.length)(hPl:P.length<=1000000)(hU:U.length<=1000000)(hr:r<=U.length)(hUr:∀c∈U,P.length<=c.length)(TW:Fn Tryz.prog 134 [dL n1 m1 e1,dL n2 m2 e2] (zI 0))(RA:Fn Tryz.prog 87 [dL n1 m1 e1] (dF n1 R1 d1))(RB:Fn Tryz.prog 87 [dL n2 m2 e2] (dF n2 R2 d2))(B1:Fn Tryz.prog 100 [dW R1,.nm d2] (dW P))(B2:Fn Tryz.prog 100 [dW R2,.nm d1] (dW Q))(CC:Fn Tryz.prog 140 [.ls 1 [dW P,dW Q]] (dW A))(TR:Fn Tryz.prog 73 [dW A] (.tp [dW H,dW U,zI (r:Nat)]))(TI:∀c∈U.drop r,Fn Tryz.prog 97 [dW [c.take P.length],dW P] (dW [fC P n (c.take P.length)]))(ML:Fn Tryz.prog 117 [.nm d1,.nm d2] (.nm d))(NO:Fn Tryz.prog 103 [zI n1,dW (mtR n P (U.drop r)),.nm d] (dF n1 R3 d3))(HD:Fn Tryz.prog 88 [dF n1 R3 d3] (.tp [dL a R b,zI C])):Fn Tryz.prog 68 [dL n1 m1 e1,dL n2 m2 e2] (.tp [dL a R b,zI C]):=by
 have hUl:(U.map dZ).length=U.length:=bD ..;have hUd:(U.map dZ).drop r=(U.drop r).map dZ:=vQ.symm;refine bg Tryz.func68 ah rfl rfl rfl fun X0=>?_;simp only[aP];refine uv ?_;refine rK ?_;refine jN ?_;refine JF ?_;refine zs2 ?_;refine av (az (k:=7) aX bq bp) ?_;refine av (az (k:=8) aX bq bp) ?_;refine zs2 ?_;refine QI ?_;refine zs2 ?_;refine QH ?_;refine mO ?_;refine zs2 ?_;refine av (dz (t:=14) (k:=14) (T:=147) (wd:=1) fF rfl rfl cj) ?_;refine zs2 ?_;refine QG ?_;refine zs2 ?_;obtain⟨V,hV⟩:∃V,V=U.drop r:=⟨_,rfl⟩;rw[<-hV]at hUd TI NO;rw[hUd];have hVU:∀c∈V,P.length<=c.length:=fun c hc=>hUr c (by rw[hV]at hc;exact zK hc);have hVl:V.length<=1000000:=by rw[hV,de];omega
 clear hUd hV hU hUr hr hUl
 (refine av (ay (sl':=[(2,.pt (dL n1 m1 e1)),(3,.pt (dL n2 m2 e2)),(4,.opt 4 0),(7,.pt (dF n1 R1 d1)),(8,.pt (dF n2 R2 d2)),(9,dW P),(14,.own 14),(49,dW V),(50,zI (V.length:Nat)),(51,zI 0)]) (ow':=[(14,⟨147,1,[]⟩),(4,⟨48,(D.st [zI 0,.sc (.slice none 0 0),zI 0]).wd,[.st [zI 0,.sc (.slice none 0 0),zI 0]]⟩)]) aF aH) ?_)
 refine bh (fun q s=>∃i,i<=V.length/\q=V.length-i/\s=⟨[(2,.pt (dL n1 m1 e1)),(3,.pt (dL n2 m2 e2)),(4,.opt 4 0),(7,.pt (dF n1 R1 d1)),(8,.pt (dF n2 R2 d2)),(9,dW P),(14,.own 14),(49,dW V),(50,zI (V.length:Nat)),(51,zI (i:Nat))],[(14,⟨147,1,(mtR n P (V.take i)).map dZ⟩),(4,⟨48,(D.st [zI 0,.sc (.slice none 0 0),zI 0]).wd,[.st [zI 0,.sc (.slice none 0 0),zI 0]]⟩)]⟩) (m:=V.length) ⟨0,aO _,rfl,rfl⟩ fun q s hs=>?_;obtain⟨i,hi,rfl,rfl⟩:=hs;by_cases hin:i<V.length
 ·obtain⟨c,hc⟩:=get_some hin;have hcV:=bj hc;have hcl:=hVU c hcV;have hsn:=FU n P (V.take i) c;rw[<-bF hc]at hsn;obtain⟨x,hx⟩:∃x,x=fC P n (c.take P.length):=⟨_,rfl⟩;have TI':=TI c hcV;rw[<-hx]at hsn TI';have e1:dW [c.take P.length]= .ls 1 [.ls 2 ((c.map D.nm).take P.length)]:=by rw[<-vV];rfl
  rw[e1]at TI';obtain⟨X1,g0,TI'⟩:∃X1:Mx.Mat,X1[0]?=some x/\Fn Tryz.prog 97 [.ls 1 [.ls 2 ((c.map D.nm).take P.length)],dW P] (dW X1):=⟨[x],rfl,TI'⟩;have hc0:(0:Int)=((0:Nat):Int):=rfl;have hml:(c.map D.nm).length=c.length:=bD ..;have hfl:(mtR n P (V.take i)).length<=1000000:=by unfold mtR;rw[bD,aY];omega
  obtain⟨F,hF⟩:∃F,F=mtR n P (V.take i):=⟨_,rfl⟩;rw[<-hF]at hsn hfl;rw[<-hF];clear hF e1 hx TI hVU;refine jM ?_;refine xh ?_;refine zs2 ?_;refine xo ?_;refine bA ?_;refine bT ?_;refine zs4 ?_;refine zs5 ?_;refine zs15 ?_;refine my ?_;refine zs4 ?_;refine kU ?_;refine Dv ?_;refine yq ?_;refine my ?_;refine Bq ?_;refine cn ?_;refine nE ?_;simp only[nx,inB];exact⟨V.length-(i+1),_,by omega,(ay (sl':=[(2,.pt (dL n1 m1 e1)),(3,.pt (dL n2 m2 e2)),(4,.opt 4 0),(7,.pt (dF n1 R1 d1)),(8,.pt (dF n2 R2 d2)),(9,dW P),(14,.own 14),(49,dW V),(50,zI (V.length:Nat)),(51,zI ((i+1:Nat):Int))]) (ow':=[(14,⟨147,1,F.map dZ++[dZ x]⟩),(4,⟨48,(D.st [zI 0,.sc (.slice none 0 0),zI 0]).wd,[.st [zI 0,.sc (.slice none 0 0),zI 0]]⟩)]) aF aH),i+1,by omega,rfl,by rw[hsn,cL];rfl⟩
 ·obtain rfl:i=V.length:=by omega
  rw[gf];refine nM ?_;refine av (az (k:=14) aX bq bp) ?_;refine zs2 ?_;refine QF ?_;refine zs2 ?_;exact⟨_,az (k:=4) aX bq bp,.two (.cell 4 48) (.tmp 5) _ _ rfl (.cell 4 _ _ rfl rfl ah ah) (.tmp 5 rfl)⟩
end DW
end
section
open Go.RowKit
namespace DW
theorem wA{a:Act}{dst:Option Tmp}{v:Value}{u:Nat}(h:dst≠some u):(a.put dst v).tmps.getD u undef=a.tmps.getD u undef:=by
 cases dst with
 |none=>rfl
 |some t=>
  have:t≠u:=fun e=>h (by rw[e]);unfold Act.put;simp[cS,zO this]
theorem Tg{P:Program}{o:Oper}{a:Act}{w:World}{K:Act->World->Prop}{Q Q':Exit->Act->World->Prop}(hp:∀c a w,Q (.panic c) a w->Q' (.panic c) a w)(hl:LetsOut Q->LetsOut Q')(hh:o.wp P a w K Q):
  o.wp P a w (fun a' w'=>K a' w'/\∀u,o.dst≠some u->a'.tmps.getD u undef=a.tmps.getD u undef) Q':=by
 unfold Oper.wp at*;generalize(execOp a.eval o).run P w=r at*
 cases r with
 |ok n w'=>
  cases n with
  |value v=>simp only[Oper.upon]at hh⊢;exact⟨hh,fun u h=>wA h⟩
  |skip=>simp only[Oper.upon]at hh⊢;exact⟨hh,fun u h=>wA h⟩
  |defer d=>simp only[Oper.upon]at hh⊢;exact⟨hh,fun u h=>wA (a:={a with defers:=d::a.defers}) h⟩
  |enter f args=>
   simp only[Oper.upon]at hh⊢;refine Calls.mono hh fun e w'' he=>?_
   cases e with
   |returned v=>exact⟨he,fun u h=>wA h⟩
   |panicked c=>exact hp _ _ _ he
   |outgrown=>exact hl he
  |row row args=>simp only[Oper.upon]at hh⊢;exact Rows.mono hh fun v w'' he=>⟨he,fun u h=>wA h⟩
  |_=>simp only[Oper.upon]at hh
 |halt x w'=>
  cases x with
  |panic v=>simp only[Oper.upon]at hh⊢;exact hp _ _ _ hh
  |_=>simp only[Oper.upon]at hh
section
variable {P : Program} {X0 : Nat->Prop} {n : Nat} {ops : Array Oper} {s : S} {sl : List (Nat × D)} {ow : List (Nat × Ow)} {o : Oper} {l : List Oper} {t : Nat} {d : D} {K : S->Prop} {fs : List FP}
theorem ES{S0 S1:S}(hA:aL P X0 n ops [o] (fun s=>s=S1) S0){w0:Bs}{f:Nat->Value}{a:Act}{w:World}(hw:Region.wanted o (yielded ops a.tmps)=true)(hh:Hd X0 n w0 S0 f a w)(Qx:Exit->Act->World->Prop):
  o.wp P a w (fun a' w'=>(∃f',Hd X0 n w0 S1 f' a' w')/\∀u,o.dst≠some u->a'.tmps.getD u undef=a.tmps.getD u undef) Qx:=by
 have h:=hA w0 f a w (fun e a' w'=>e= .normal/\∃f',Hd X0 n w0 S1 f' a' w') hh fun s' f' a' w' h1 h2=>⟨rfl,f',by rw[<-h2];exact h1⟩;unfold wpList at h;rw[an hw]at h;have h':=h.resolve_right fun hx=>by
  obtain⟨_,_,_,hx,_⟩:=hx;cases hx
 refine Oper.wp_mono (fun a' w' hx=>?_) (Tg (Q':=Qx) (fun c a w hx=>by cases hx.1) (fun hx=>by obtain⟨_,_,hx,_⟩:=hx;cases hx) h');obtain⟨h1,h2⟩:=hx;unfold wpList at h1;exact⟨h1.2,h2⟩
theorem qj{k u:Nat}:∀{r:List (Nat×D)},(look r u).is k=false->look (kill k r) u=look r u
 |[],_=>rfl
 |(v,d')::r,hh=>by
  simp only[kill,look]at hh⊢;split
  ·next e=>rw[an e]at hh;rw[hh]
  ·next e=>rw[aj e]at hh;exact qj hh
theorem Gf{w0:Bs}{f g:Nat->Value}{a':Act}{w w':World}{k:Nat}{ow1:List (Nat×Ow)}(h:Hd X0 n w0 ⟨(t,d)::kill k sl,ow1⟩ f a' w')(h0:∀u,(look sl u).is k=true->u≠t->SR (fun _=>False) g w (look sl u) (a'.tmps.getD u undef))(hk1:∀p∈ow1,p.1≠k)(hk:Nat.blt k 1000000=true)(hd:d.is k=false):∃f',Hd X0 n w0 ⟨(t,d)::sl,ow1⟩ f' a' w':=by
 obtain⟨F,hF⟩:∃F:Nat->Value,F=fun j=>if j=k then g k else f j:=⟨_,rfl⟩
 have hFk:F k=g k:=by rw[hF];exact an rfl
 have hFn:∀j,j≠k->F j=f j:=fun j hj=>by rw[hF];exact aj hj
 clear hF;have he:∀p∈ow1,F p.1=f p.1:=fun p hp=>hFn _ (hk1 p hp);have hX:∀sx:List (Nat×D),XO X0 ⟨sx,ow1⟩ F=XO X0 ⟨(t,d)::kill k sl,ow1⟩ f:=fun sx=>funext fun b=>propext (by
  unfold XO;constructor
  ·rintro(h|⟨p,hp,q⟩)
   ·exact .inl h
   ·exact .inr ⟨p,hp,by rw[<-he p hp];exact q⟩
  ·rintro(h|⟨p,hp,q⟩)
   ·exact .inl h
   ·exact .inr ⟨p,hp,by rw[he p hp];exact q⟩)
 have sr:∀{X:Nat->Prop} {d':D} {v:Value},d'.is k=false->SR X f w' d' v->SR X F w' d' v:=fun {X d' v} hn hv=>by
  cases d' with
  |own j=>
   have:j≠k:=fun e=>by subst e;simp[D.is]at hn
   simp only[SR,hFn j this]at hv⊢;exact hv
  |opt j off=>
   have:j≠k:=fun e=>by subst e;simp[D.is]at hn
   simp only[SR,hFn j this]at hv⊢;exact hv
  |_=>exact hv
 refine⟨F,h.sz,h.df,h.bl,h.x0,h.xy,fun j hj=>?_,fun p hp b hb=>h.lo p hp b (by rw[<-he p hp];exact hb),fun u=>?_,fun p hp=>?_,fun b hb=>?_,fun p hp q hq hne b hb=>?_,h.un⟩
 ·rw[hFn j (qv hk hj)];exact h.fx j hj
 ·rw[hX];show SR _ _ _ (look ((t,d)::sl) u) _;have h1:SR (XO X0 ⟨(t,d)::kill k sl,ow1⟩ f) f w' (look ((t,d)::kill k sl) u) (a'.tmps.getD u undef):=h.sl u;simp only[look]at h1⊢;by_cases hu:t=u
  ·rw[an hu]at h1⊢;exact sr hd h1
  ·rw[aj hu]at h1⊢
   cases hi:(look sl u).is k with
   |true=>
    have h2:=h0 u hi (Ne.symm hu)
    cases hq:look sl u with
    |own j=>
     rw[hq]at hi h2;have:j=k:=by simpa[D.is]using hi
     subst this;simp only[SR,hFk]at h2⊢;exact h2
    |opt j off=>
     rw[hq]at hi h2;have:j=k:=by simpa[D.is]using hi
     subst this;simp only[SR,hFk]at h2⊢;exact h2
    |_=>rw[hq]at hi;simp[D.is]at hi
   |false=>
    rw[qj hi]at h1;exact sr hi h1
 ·obtain⟨k0,zs,k1,k2⟩:=h.ow p hp;refine⟨k0,zs,?_,?_⟩
  ·rw[he p hp];exact k1
  ·rw[hX];exact EE.agr (Agr.refl _ w') (fun _ _ h=>h) (fun j hj=>hFn j (qu hk hj)) k2
 ·obtain⟨p,hp,q⟩:=hb;exact h.nw b ⟨p,hp,by rw[<-he p hp];exact q⟩
 ·rw[he q hq];exact h.dj p hp q hq hne b (by rw[<-he p hp];exact hb)
theorem Mf{k wd:Nat}{l:List D}{d:D}(h:d.is k=false):lh k wd l d=d:=by
 cases d with
 |own j=>simp only[lh];rw[show Nat.beq j k=false from h]
 |opt j off=>simp only[lh];rw[show Nat.beq j k=false from h]
 |_=>rfl
theorem Uf{a b:Nat}{d:D}(h:d.is a=false):mvD a b d=d:=by
 cases d with
 |own j=>simp only[mvD];rw[show Nat.beq j a=false from h]
 |opt j off=>simp only[mvD];rw[show Nat.beq j a=false from h]
 |_=>rfl
theorem F8(b:Nat):∀l:List (Nat×D),noS b (kill b l)=true
 |[]=>rfl
 |(u,d)::l=>by
  have ih:=F8 b l;unfold noS at ih⊢;simp only[kill,qH,ih,Bool.and_true]
  cases h:d.is b with
  |true=>rfl
  |false=>simp[h]
theorem BG{k:Nat}{l2:List D}{q:Ow}:∀{l:List (Nat×Ow)},(k,q)∈l->(k,(⟨q.T,q.wd,q.l++l2⟩:Ow))∈upd k l2 l
 |(j,r)::l,h=>by
  simp only[upd];rcases bC.1 h with h|h
  ·cases h;rw[an rfl];exact bn
  ·split
   ·exact bu _ (BG h)
   ·exact bu _ (BG h)
theorem yA{k:Nat}{l2:List D}:∀{l:List (Nat×Ow)} {p:Nat×Ow},p.1≠k->(p∈upd k l2 l↔p∈l)
 |[],p,_=>Iff.rfl
 |(j,r)::l,p,h=>by
  have ih:=yA (k:=k) (l2:=l2) (l:=l) h;simp only[upd];split
  ·next e=>
   have n1:p≠(j,⟨r.T,r.wd,r.l++l2⟩):=fun e'=>h (by rw[e'];exact e);have n2:p≠(j,r):=fun e'=>h (by rw[e'];exact e);simp only[bC,n1,n2,false_or];exact ih
  ·simp only[bC,ih]
theorem BH{k:Nat}{l2:List D}:∀{l:List (Nat×Ow)} {p:Nat×Ow},p∈upd k l2 l->∃q∈l,q.1=p.1
 |(j,r)::l,p,h=>by
  simp only[upd]at h;split at h
  ·rcases bC.1 h with h|h
   ·exact⟨_,bn,by rw[h]⟩
   ·obtain⟨q,h1,h2⟩:=BH h;exact⟨q,bu _ h1,h2⟩
  ·rcases bC.1 h with h|h
   ·exact⟨_,bn,by rw[h]⟩
   ·obtain⟨q,h1,h2⟩:=BH h;exact⟨q,bu _ h1,h2⟩
theorem Cb{k:Nat}{l:List (Nat×Ow)}{p:Nat×Ow}:p∈cut k l↔p∈l/\p.1≠k:=by
 unfold cut;rw[zP];constructor
 ·rintro⟨h1,h2⟩;exact⟨h1,fun e=>by rw[e]at h2;simp at h2⟩
 ·rintro⟨h1,h2⟩;exact⟨h1,by rw[uk h2];rfl⟩
theorem UJ{k:Nat}:cut k []=[]:=rfl
theorem UK{j k:Nat}{q:Ow}{l l':List (Nat×Ow)}(h:Nat.beq j k=true)(e:cut k l=l'):cut k ((j,q)::l)=l':=by
 unfold cut at e⊢;rw[mC (by simp[h])];exact e
theorem Qg{j k:Nat}{q:Ow}{l l':List (Nat×Ow)}(h:Nat.beq j k=false)(e:cut k l=l'):cut k ((j,q)::l)=(j,q)::l':=by
 unfold cut at e⊢;rw[ln (by simp[h]),e]
theorem Hd.less{w0:Bs}{f:Nat->Value}{a:Act}{w:World}{ow1 ow2:List (Nat×Ow)}{sl1 sl2:List (Nat×D)}(h:Hd X0 n w0 ⟨sl1,ow1⟩ f a w)(h1:∀p,p∈ow2↔p∈ow1)(h2:∀u,look sl1 u=look sl2 u):Hd X0 n w0 ⟨sl2,ow2⟩ f a w:=by
 have hX:XO X0 ⟨sl2,ow2⟩ f=XO X0 ⟨sl1,ow1⟩ f:=funext fun b=>propext (by
  unfold XO;constructor
  ·rintro(h|⟨p,hp,q⟩)
   ·exact .inl h
   ·exact .inr ⟨p,(h1 p).1 hp,q⟩
  ·rintro(h|⟨p,hp,q⟩)
   ·exact .inl h
   ·exact .inr ⟨p,(h1 p).2 hp,q⟩)
 refine⟨h.sz,h.df,h.bl,h.x0,h.xy,h.fx,fun p hp=>h.lo p ((h1 p).1 hp),fun u=>?_,fun p hp=>by rw[hX];exact h.ow p ((h1 p).1 hp),fun b hb=>?_,fun p hp q hq=>h.dj p ((h1 p).1 hp) q ((h1 q).1 hq),fun p hp q hq=>h.un p ((h1 p).1 hp) q ((h1 q).1 hq)⟩
 ·rw[hX];show SR _ _ _ (look sl2 u) _;rw[<-h2 u];exact h.sl u
 ·obtain⟨p,hp,q⟩:=hb;exact h.nw b ⟨p,(h1 p).1 hp,q⟩
theorem I9{X:Nat->Prop}{f:Nat->Value}{w:World}{j:Nat}:∀{l:List D} {xs:List Value},ElH X f w l xs->.own j∈l->mz j=true
 |d::l,xs,⟨u,rest,h1,h2,h3,h4,h5,h6,h7⟩,h=>by
  rcases bC.1 h with h|h
  ·rw[<-h]at h4;exact h4.1
  ·exact I9 h7 h
theorem Na{x y:Operand}{tt:TypeId}{k:Nat}{q:Ow}{wd:Nat}{l2:List D}{f:FP}{nw:List (Nat×Ow)}(hg:o.guard=none)(hdst:o.dst=some t)(ht:Nat.blt t n=true)
  (ho:o.op= .call {callee:= .builtin .append,args:= #[x,y],argTypes:= #[tt,tt]}) (hx:S.op ⟨sl,ow⟩ x= .own k) (hy:S.op ⟨sl,ow⟩ y= .ls wd l2) (hk:(k,q)∈ow) (hwd:wd=q.wd) (hn2:l2.all D.nw=true)
  (htt:P.underlying tt=some (.slice q.T)) (hI:(P.info? q.T).map (fun i=>(i.zero.map (·.cells.size),i.size,decide (i.bytes<=100000)))=some (some q.wd,q.wd,true)) (hlen:q.l.length+l2.length<=1000000000)
  (hk0:Nat.blt k 1000000=true) (hrc:k∈f.rc)
  (hnw:(nw=[]/\d= .ls wd (q.l++l2))\/∃j,nw=[(j,⟨q.T,q.wd,q.l++l2⟩)]/\d= .own j/\j∈f.al/\j≠k/\Nat.blt j 1000000=true/\ow.all (fun p=> !Nat.beq p.1 j)=true):MS P X0 n ops o ⟨sl,ow⟩ (.app k nw d) f:=fun σ ag w0 g a w hh Qx=>by
 have hw:=qp hh (ag.eM (ly hg rfl));rw[an hw];have hkσ:=ag.I7 hrc hk;have h1:S.op ⟨σ.sl,σ.ow⟩ x= .own k:=by
  show σ.op x=_;rw[ag.op oL];exact hx
 have h2:S.op ⟨σ.sl,σ.ow⟩ y= .ls wd l2:=by
  show σ.op y=_;rw[ag.op oL];exact hy
 have hA:aL P X0 n ops [o] (fun s=>s=⟨(t, .own k)::kill k σ.sl,upd k l2 σ.ow⟩) ⟨σ.sl,σ.ow⟩:=lQ hg hdst ht ho h1 h2 hkσ hwd hn2 htt hI hlen rfl rfl (aQ rfl) hk0;refine Oper.wp_mono (fun a' w' ⟨⟨f',h3⟩,h4⟩=>?_) (ES hA hw hh Qx);rw[hdst];have old:∀u,(look σ.sl u).is k=true->u≠t->SR (fun _=>False) g w (look σ.sl u) (a'.tmps.getD u undef):=fun u hu hne=>by
  rw[h4 u (by rw[hdst];exact fun e=>hne (Option.some.inj e).symm)];have h5:SR (XO X0 σ g) g w (look σ.sl u) (a.tmps.getD u undef):=hh.sl u
  cases hq:look σ.sl u with
  |own j=>rw[hq]at h5;exact h5
  |opt j off=>rw[hq]at h5;exact h5
  |_=>rw[hq]at hu;simp[D.is]at hu
 have hlk:∀u,(look (kill k σ.sl) u).is k=false:=fun u=>by
  rcases iY k σ.sl u with⟨e1,e2⟩|e
  ·rw[e1];exact e2
  ·rw[e];rfl
 have hcm:∀p,p∈cut k σ.ow↔p∈upd k l2 σ.ow/\p.1≠k:=fun p=>by
  rw[Cb];constructor
  ·rintro⟨e1,e2⟩;exact⟨(yA e2).2 e1,e2⟩
  ·rintro⟨e1,e2⟩;exact⟨(yA e2).1 e1,e2⟩
 have hum:=BG (l2:=l2) hkσ;rcases hnw with⟨rfl,rfl⟩|⟨j,rfl,rfl,hj1,hj2,hj3,hj4⟩
 ·obtain⟨f2,h5⟩:=Cs (s:=⟨(t, .own k)::kill k σ.sl,upd k l2 σ.ow⟩) (n:=n) hum (nA hk0) w0 f' a' w' h3;have h6:Hd X0 n w0 ⟨(t, .ls wd (q.l++l2))::kill k σ.sl,cut k σ.ow⟩ f2 a' w':=h5.less (fun p=>by
   rw[hcm];constructor
   ·rintro⟨e1,e2⟩;have key:∀{l:List (Nat×Ow)},p∈l->p∈gE k l:=fun {l}=>by
     induction l with
     |nil=>intro h;cases h
     |cons r l ih=>
      intro h;simp only[gE];rcases bC.1 h with h|h
      ·subst h;rw[aj e2];exact bn
      ·split
       ·exact ih h
       ·exact bu _ (ih h)
    exact key e1
   ·exact fun e=>fY e) fun u=>by
    rw[sb];simp only[look];split
    ·subst hwd;simp[lh]
    ·exact Mf (hlk u)
  exact Gf h6 (g:=g) (w:=w) old (fun p hp=>(Cb.1 hp).2) hk0 rfl
 ·have hjf : ∀ p ∈ upd k l2 σ.ow, p.1 ≠ j := fun p hp e => by
   obtain⟨r,r1,r2⟩:=BH hp;obtain⟨e1,_⟩:=ag.al j hj1;have h7:=kK.2 (show(j,r.2)∈σ.ow by rw[<-e,<-r2];exact r1);rw[e1]at h7;exact lK hj4 _ (kK.1 h7) rfl
  have hjs:=(ag.al j hj1).2;have h3':Hd X0 n w0 ⟨kill j ((t, .own k)::kill k σ.sl),upd k l2 σ.ow⟩ f' a' w':=h3.kill
  obtain ⟨f2, h5⟩ := Sh_mv (X0 := X0) (n := n) (a := k) (b := j) (ow' := (j, ⟨q.T, q.wd, q.l ++ l2⟩) :: cut k σ.ow) hum (by
      cases hb:pin j with
      |false=>rfl
      |true=>exact absurd rfl (qv hj3 hb)) (.inl (by rw[nA hj3,nA hk0])) (fun p hp=>⟨hjf p hp,fun hh hm=>by
      obtain⟨_,zs,_,k2⟩:=h3.ow p hp;unfold EE at k2;rw[hh]at k2;exact qu hj3 (I9 k2.2 hm) rfl⟩) (F8 _ _) (fun p hp=>by
      rcases bC.1 hp with e|e
      ·exact .inl e
      ·exact .inr ((hcm p).1 e)) w0 f' a' w' h3'
  have h6 : Hd X0 n w0 ⟨(t, .own j) :: kill k σ.sl, (j, ⟨q.T, q.wd, q.l ++ l2⟩) :: cut k σ.ow⟩ f2 a' w' := h5.less (fun p => Iff.rfl) fun u => by
      have hku:Nat.beq k j=false:=uk (Ne.symm hj2);rw[yR];have e0:(look ((t, .own k)::kill k σ.sl) u).is j=false:=by
       simp only[look];split
       ·exact hku
       ·rcases iY k σ.sl u with⟨e1,e2⟩|e
        ·rw[e1];exact hjs u
        ·rw[e];rfl
      rw[qj e0];simp only[look];split
      ·simp[mvD]
      ·exact Uf (hlk u)
  exact Gf h6 (g:=g) (w:=w) old (fun p hp=>by
   rcases bC.1 hp with e|e
   ·rw[e];exact hj2
   ·exact(Cb.1 e).2) hk0 (uk hj2)
theorem U5{tt T:TypeId}{wd k:Nat}(hg:o.guard=none)(hdst:o.dst=some t)(ht:Nat.blt t n=true)(ho:o.op= .buildSlice tt 0 #[])(htt:P.underlying tt=some (.slice T))(hi:(P.info? T).map (fun i=>i.size)=some wd)(h0:Nat.blt 0 wd=true)(hk:ow.all (fun p=>!Nat.beq p.1 k)=true)
  (h:aM P X0 n ops l ⟨(t,.own k)::sl,(k,⟨T,wd,[]⟩)::ow⟩ fs K) (hk0:Nat.blt k 1000000=true:=by exact rfl):aM P X0 n ops (o::l) ⟨sl,ow⟩ (⟨[],[],[],[k],[]⟩::fs) K:=
 ⟨_,fs,.alloc k ⟨T,wd,[]⟩ (.own k),rfl,⟨bL.2 rfl,fun k' hk'=>by have:=qt hk';simpa[D.sO]using this⟩,fun σ ag w0 g a w hh Qx=>by
  have hw:=qp hh (ag.eM (ly hg rfl));rw[an hw];obtain⟨e1,e2⟩:=ag.al k (bL.2 rfl);have hfr:σ.ow.all (fun p=>!Nat.beq p.1 k)=true:=cW.2 fun p hp=>by
   cases hb:Nat.beq p.1 k with
   |false=>rfl
   |true=>
    have h1:=kK.2 (show(k,p.2)∈σ.ow by rw[<-ed hb];exact hp);rw[e1]at h1;exact absurd rfl (lK hk _ (kK.1 h1))
  have hA:aL P X0 n ops [o] (fun s=>s=⟨(t,.own k)::kill k σ.sl,(k,⟨T,wd,[]⟩)::σ.ow⟩) ⟨σ.sl,σ.ow⟩:=yd hg hdst ht ho htt hi h0 hfr rfl (aQ rfl) hk0;refine Oper.wp_mono (fun a' w' ⟨⟨f',h3⟩,_⟩=>⟨f',?_⟩) (ES hA hw hh Qx);rw[hdst];refine h3.less (fun p=>Iff.rfl) fun u=>?_;show look ((t,.own k)::kill k σ.sl) u=look ((t,.own k)::σ.sl) u;simp only[look];split
  ·rfl
  ·exact qj (e2 u),by rw[hdst];exact h⟩
theorem aMapp{x y:Operand}{tt:TypeId}{k j:Nat}{q:Ow}{wd:Nat}{l2:List D}{ow':List (Nat×Ow)}(hg:o.guard=none)(hdst:o.dst=some t)(ht:Nat.blt t n=true)
  (ho:o.op= .call {callee:=.builtin .append,args:=#[x,y],argTypes:=#[tt,tt]}) (hx:S.op ⟨sl,ow⟩ x= .own k) (hy:S.op ⟨sl,ow⟩ y= .ls wd l2) (hk:(k,q)∈ow) (hwd:wd=q.wd) (hn2:l2.all D.nw=true)
  (htt:P.underlying tt=some (.slice q.T)) (hI:(P.info? q.T).map (fun i=>(i.zero.map (·.cells.size),i.size,decide (i.bytes<=100000)))=some (some q.wd,q.wd,true)) (hlen:q.l.length+l2.length<=1000000000)
  (hjk:Nat.beq j k=false) (hj:ow.all (fun p=>!Nat.beq p.1 j)=true) (hc:cut k ow=ow') (h:aM P X0 n ops l ⟨(t,.own j)::sl,(j,⟨q.T,q.wd,q.l++l2⟩)::ow'⟩ fs K) (hk0:Nat.blt k 1000000=true:=by exact rfl) (hj0:Nat.blt j 1000000=true:=by exact rfl):aM P X0 n ops (o::l) ⟨sl,ow⟩ (⟨[k],[],[k],[j,1000000000+k],[]⟩::fs) K:=by
 subst hc;have hjk':j≠k:=fun e=>by rw[e]at hjk;simp at hjk
 have hkd:k∈dlN [j,1000000000+k]:=by
  simp only[dlN]
  cases hb:Nat.ble 1000000000 j with
  |true=>rw[tA]at hb;rw[bB]at hj0;omega
  |false=>
   have:Nat.ble 1000000000 (1000000000+k)=true:=by rw[tA];omega
   rw[this];simp
 exact⟨_,fs,.app k [(j,⟨q.T,q.wd,q.l++l2⟩)] (.own j),rfl,⟨bL.2 rfl,hkd,fun p hp=>by rw[bL.1 hp];exact bn,fun k' hk'=>by have:=qt hk';simp[D.sO]at this;rw[this];exact bn⟩,
  Na hg hdst ht ho hx hy hk hwd hn2 htt hI hlen hk0 (bL.2 rfl) (.inr ⟨j,rfl,rfl,bn,hjk',hj0,hj⟩),by rw[hdst];exact h⟩
theorem Ws{x y:Operand}{tt:TypeId}{k:Nat}{q:Ow}{wd:Nat}{l2:List D}{ow':List (Nat×Ow)}(hg:o.guard=none)(hdst:o.dst=some t)(ht:Nat.blt t n=true)
  (ho:o.op= .call {callee:=.builtin .append,args:=#[x,y],argTypes:=#[tt,tt]}) (hx:S.op ⟨sl,ow⟩ x= .own k) (hy:S.op ⟨sl,ow⟩ y= .ls wd l2) (hk:(k,q)∈ow) (hwd:wd=q.wd) (hn2:l2.all D.nw=true)
  (htt:P.underlying tt=some (.slice q.T)) (hI:(P.info? q.T).map (fun i=>(i.zero.map (·.cells.size),i.size,decide (i.bytes<=100000)))=some (some q.wd,q.wd,true)) (hlen:q.l.length+l2.length<=1000000000)
  (hc:cut k ow=ow') (h:aM P X0 n ops l ⟨(t,.ls wd (q.l++l2))::sl,ow'⟩ fs K) (hk0:Nat.blt k 1000000=true:=by exact rfl):aM P X0 n ops (o::l) ⟨sl,ow⟩ (⟨[k],[],[k],[1000000000+k],[]⟩::fs) K:=by
 subst hc;have hkd:k∈dlN [1000000000+k]:=by
  simp only[dlN];have:Nat.ble 1000000000 (1000000000+k)=true:=by rw[tA];omega
  rw[this];simp
 exact⟨_,fs,.app k [] (.ls wd (q.l++l2)),rfl,⟨bL.2 rfl,hkd,(fun p hp=>nomatch hp),(fun k' hk'=>nomatch hk')⟩,
  Na hg hdst ht ho hx hy hk hwd hn2 htt hI hlen hk0 (bL.2 rfl) (.inl ⟨rfl,rfl⟩),by rw[hdst];exact h⟩
section
variable {ks : List Nat} {acc : List FP}
theorem U2{tt T:TypeId}{wd k:Nat}(hg:o.guard=none)(hdst:o.dst=some t)(ht:Nat.blt t n=true)(ho:o.op= .buildSlice tt 0 #[])(htt:P.underlying tt=some (.slice T))(hi:(P.info? T).map (fun i=>i.size)=some wd)(h0:Nat.blt 0 wd=true)(hk:ow.all (fun p=>!Nat.beq p.1 k)=true)
 (h:aN P X0 n ops ks l ⟨(t,.own k)::sl,(k,⟨T,wd,[]⟩)::ow⟩ (⟨[],[],[],[k],[]⟩::acc) K) (hk0:Nat.blt k 1000000=true:=by exact rfl):aN P X0 n ops ks (o::l) ⟨sl,ow⟩ acc K:=sI (fun _ h=>U5 hg hdst ht ho htt hi h0 hk h hk0) h
theorem aNapp{x y:Operand}{tt:TypeId}{k j:Nat}{q:Ow}{wd:Nat}{l2:List D}{ow':List (Nat×Ow)}(hg:o.guard=none)(hdst:o.dst=some t)(ht:Nat.blt t n=true)
 (ho:o.op= .call {callee:=.builtin .append,args:=#[x,y],argTypes:=#[tt,tt]}) (hx:S.op ⟨sl,ow⟩ x= .own k) (hy:S.op ⟨sl,ow⟩ y= .ls wd l2) (hk:(k,q)∈ow) (hwd:wd=q.wd) (hn2:l2.all D.nw=true)
 (htt:P.underlying tt=some (.slice q.T)) (hI:(P.info? q.T).map (fun i=>(i.zero.map (·.cells.size),i.size,decide (i.bytes<=100000)))=some (some q.wd,q.wd,true)) (hlen:q.l.length+l2.length<=1000000000)
 (hjk:Nat.beq j k=false) (hj:ow.all (fun p=>!Nat.beq p.1 j)=true) (hc:cut k ow=ow') (h:aN P X0 n ops ks l ⟨(t,.own j)::sl,(j,⟨q.T,q.wd,q.l++l2⟩)::ow'⟩ (⟨[k],[],[k],[j,1000000000+k],[]⟩::acc) K) (hk0:Nat.blt k 1000000=true:=by exact rfl) (hj0:Nat.blt j 1000000=true:=by exact rfl):aN P X0 n ops ks (o::l) ⟨sl,ow⟩ acc K:=sI (fun _ h=>aMapp hg hdst ht ho hx hy hk hwd hn2 htt hI hlen hjk hj hc h hk0 hj0) h
theorem Wp{x y:Operand}{tt:TypeId}{k:Nat}{q:Ow}{wd:Nat}{l2:List D}{ow':List (Nat×Ow)}(hg:o.guard=none)(hdst:o.dst=some t)(ht:Nat.blt t n=true)
 (ho:o.op= .call {callee:=.builtin .append,args:=#[x,y],argTypes:=#[tt,tt]}) (hx:S.op ⟨sl,ow⟩ x= .own k) (hy:S.op ⟨sl,ow⟩ y= .ls wd l2) (hk:(k,q)∈ow) (hwd:wd=q.wd) (hn2:l2.all D.nw=true)
 (htt:P.underlying tt=some (.slice q.T)) (hI:(P.info? q.T).map (fun i=>(i.zero.map (·.cells.size),i.size,decide (i.bytes<=100000)))=some (some q.wd,q.wd,true)) (hlen:q.l.length+l2.length<=1000000000)
 (hc:cut k ow=ow') (h:aN P X0 n ops ks l ⟨(t,.ls wd (q.l++l2))::sl,ow'⟩ (⟨[k],[],[k],[1000000000+k],[]⟩::acc) K) (hk0:Nat.blt k 1000000=true:=by exact rfl):aN P X0 n ops ks (o::l) ⟨sl,ow⟩ acc K:=sI (fun _ h=>Ws hg hdst ht ho hx hy hk hwd hn2 htt hI hlen hc h hk0) h
end
end
end DW
end
section
open Go.RowKit
namespace DW
set_option maxRecDepth 20000
set_option maxHeartbeats 4000000
theorem Vs(n1 e1 n2 e2 d a b C:Int)(m1 m2 P Q R:Mx.Mat)(hl:P.length+Q.length<=100000)(CO:Fn Tryz.prog 138 [dL n1 m1 e1,dL n2 m2 e2] (.tp [dW P,dW Q,.nm d]))(MD:Fn Tryz.prog 92 [dW (P++Q),.nm d,zI n1] (.tp [dL a R b,zI C])):Fn Tryz.prog 69 [dL n1 m1 e1,dL n2 m2 e2] (.tp [dL a R b,zI C]):=by
 rw[show dW (P++Q)= .ls 1 ([]++P.map dZ++Q.map dZ) by rw[ew,<-cL]]at MD;refine bg Tryz.func69 ah rfl rfl rfl fun X0=>?_;simp only[aP];refine uv ?_;refine QE ?_;refine zs2 ?_;refine av (az (k:=8) aX bq bp) ?_;refine zs2 ?_;(refine rz [16,18,1000000016,1000000018] ah (by(apply jX;(focus((apply jX;(focus((apply jX;(focus((apply jX;(exact se);(focus((repeat(first|exact lF|(apply jG;(exact rfl))|(apply lG;(exact rfl)))))))));(focus((repeat(first|exact lF|(apply jG;(exact rfl))|(apply lG;(exact rfl)))))))));(focus((repeat(first|exact lF|(apply jG;(exact rfl))|(apply lG;(exact rfl)))))))));(focus((repeat(first|exact lF|(apply jG;(exact rfl))|(apply lG;(exact rfl)))))))) ?_);(refine U2 (k:=16) (wd:=1) (T:=Tryz.prog.elem 27) rfl rfl rfl rfl ah ah ai ai ?_);refine fZ ?_;(refine aNapp (k:=16) (j:=18) rfl rfl rfl rfl ck ck aX ai pR ah ah zb68 ai ai zb50 ?_);refine fZ ?_;(refine Wp (k:=18) rfl rfl rfl rfl ck ck aX ai pR ah ah zb68 zb50 ?_);refine dH ?_;refine zE ?_;refine dH ?_;refine Du ?_;refine mU ?_;refine mU ?_;refine jP ?_;refine rN ?_;refine lU ?_;refine zs2 ?_;exact⟨_,az (k:=4) aX bq bp,.two (.cell 4 48) (.tmp 5) _ _ rfl (.cell 4 _ _ rfl rfl ah ah) (.tmp 5 rfl)⟩
end DW
end
end Go.Proofs.YtcgjmdpcplhanaaGreat
