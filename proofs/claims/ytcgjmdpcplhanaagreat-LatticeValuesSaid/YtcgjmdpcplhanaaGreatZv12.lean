/- Lemmas for the law: E88 DV E89 DX -/
import Derived.RangeFuncOwn
import Derived.RangeFuncLeaves
import Derived.TacticsIn
import Derived.OrdersIn
import Derived.RangeFuncNested
import Derived.RangeFuncBound
import Derived.WalkKit
import Derived.OwnWalkIn
import Derived.TacticsInMore
import Derived.LoopNIn
import Derived.LoopIn
import Derived.Laws.EntriesVeiled
import Derived.Test.YtcgjmdpcplhanaaGreatZv11
namespace Go.Proofs.YtcgjmdpcplhanaaGreat
section
abbrev xS:=@List.prefix_append
abbrev qx:=@Array.replicate_succ
abbrev qw:=@Array.replicate_zero
abbrev qu:=@List.push_toArray
abbrev qt:=@List.append_toArray
theorem IG{p q:Prop}(h:q)(f:Wq q->p:=by(intro hW;((first|(first|(refine aHs rfl rfl rfl rfl rfl ?_ ?_;(focus(apply bF;(conv=>lhs;whnf);(first|done|exact rfl|(apply bj;(first|(apply ay;omega)|(apply aA;omega)|assumption|(simp;done)))))))|refine nT rfl rfl rfl rfl rfl cL an qp an an ?_)|((try refine aS ?_);(first|(refine aLs rfl rfl rfl rfl ?_ ?_;(focus(apply bF;(conv=>lhs;whnf);(first|done|exact rfl|(apply bj;(first|(apply ay;omega)|(apply aA;omega)|assumption|(simp;done)))))))|refine aLw rfl rfl rfl rfl cL qp ?_))));exact hW.out)):p:=f ⟨h⟩
theorem xg{p q:Prop}(h:q)(f:Wq q->p:=by(intro hW;((first|(first|(refine aHs rfl rfl rfl rfl rfl ?_ ?_;(focus(apply bF;(conv=>lhs;whnf);(first|done|exact rfl|(apply bj;(first|(apply ay;omega)|(apply aA;omega)|assumption|(simp;done)))))))|refine nT rfl rfl rfl rfl rfl cL an zb1 an an ?_)|((try refine aS ?_);(first|(refine aLs rfl rfl rfl rfl ?_ ?_;(focus(apply bF;(conv=>lhs;whnf);(first|done|exact rfl|(apply bj;(first|(apply ay;omega)|(apply aA;omega)|assumption|(simp;done)))))))|refine aLw rfl rfl rfl rfl cL zb1 ?_))));exact hW.out)):p:=f ⟨h⟩
theorem xh{p q:Prop}(h:q)(f:Wq q->p:=by(intro hW;((first|(first|(refine aHs rfl rfl rfl rfl rfl ?_ ?_;(focus(apply bF;(conv=>lhs;whnf);(first|done|exact rfl|(apply bj;(first|(apply ay;omega)|(apply aA;omega)|assumption|(simp;done)))))))|refine nT rfl rfl rfl rfl rfl cL an zb4 an an ?_)|((try refine aS ?_);(first|(refine aLs rfl rfl rfl rfl ?_ ?_;(focus(apply bF;(conv=>lhs;whnf);(first|done|exact rfl|(apply bj;(first|(apply ay;omega)|(apply aA;omega)|assumption|(simp;done)))))))|refine aLw rfl rfl rfl rfl cL zb4 ?_))));exact hW.out)):p:=f ⟨h⟩
theorem xf{p q:Prop}(h:q)(f:Wq q->p:=by(intro hW;((first|(first|(refine aHs rfl rfl rfl rfl rfl ?_ ?_;(focus(apply bF;(conv=>lhs;whnf);(first|done|exact rfl|(apply bj;(first|(apply ay;omega)|(apply aA;omega)|assumption|(simp;done)))))))|refine nT rfl rfl rfl rfl rfl cL an B0 an an ?_)|((try refine aS ?_);(first|(refine aLs rfl rfl rfl rfl ?_ ?_;(focus(apply bF;(conv=>lhs;whnf);(first|done|exact rfl|(apply bj;(first|(apply ay;omega)|(apply aA;omega)|assumption|(simp;done)))))))|refine aLw rfl rfl rfl rfl cL B0 ?_))));exact hW.out)):p:=f ⟨h⟩
theorem IE{p q:Prop}(h:q)(f:Wq q->p:=by(intro hW;((first|refine eK rfl rfl rfl an zb5 an an ?_|((try refine aS ?_);refine aL1 rfl rfl rfl zb5 ?_)));exact hW.out)):p:=f ⟨h⟩
theorem II{p q:Prop}(h:q)(f:Wq q->p:=by(intro hW;((first|refine eK rfl rfl rfl an BZ an an ?_|((try refine aS ?_);refine aL1 rfl rfl rfl BZ ?_)));exact hW.out)):p:=f ⟨h⟩
theorem fi{p q:Prop}(h:q)(f:Wq q->p:=by(intro hW;((first|(first|(refine aHs rfl rfl rfl rfl rfl ?_ ?_;(focus(apply bF;(conv=>lhs;whnf);(first|done|exact rfl|(apply bj;(first|(apply ay;omega)|(apply aA;omega)|assumption|(simp;done)))))))|refine nT rfl rfl rfl rfl rfl cL an qo an an ?_)|((try refine aS ?_);(first|(refine aLs rfl rfl rfl rfl ?_ ?_;(focus(apply bF;(conv=>lhs;whnf);(first|done|exact rfl|(apply bj;(first|(apply ay;omega)|(apply aA;omega)|assumption|(simp;done)))))))|refine aLw rfl rfl rfl rfl cL qo ?_))));exact hW.out)):p:=f ⟨h⟩
theorem Hy{p q:Prop}(h:q)(f:Wq q->p:=by(intro hW;(refine fJ ?_;refine II ?_;refine fJ ?_;refine fi ?_;refine fi ?_;refine xh ?_;refine xg ?_;refine fi ?_;refine xh ?_;refine xg ?_;refine fi ?_;refine fi ?_;refine xf ?_;refine xh ?_;refine xg ?_;refine fi ?_;refine xf ?_;refine xh ?_;refine xg ?_;refine IG ?_;refine IE ?_);exact hW.out)):p:=f ⟨h⟩
theorem Ib{p q:Prop}(h:q)(f:Wq q->p:=by(intro hW;(refine cf ?_;refine Bk ?_;refine xB ?_;refine mq ?_;refine ba ?_);exact hW.out)):p:=f ⟨h⟩
theorem IK{p q:Prop}(h:q)(f:Wq q->p:=by(intro hW;(refine aL1 rfl rfl rfl (by(apply Jh;(exact rfl);(focus((first|exact op_zero|exact rfl)));(exact rfl);(focus((first|exact gD|exact gB|exact gC|exact wd_pt|exact rfl)));(kernel_rfl);(kernel_rfl);(exact rfl);(exact rfl))) ?_);exact hW.out)):p:=f ⟨h⟩
theorem zs105{p q:Prop}(h:q)(f:Wq q->p:=by(intro hW;((first|(apply ao 10;(focus kernel_rfl);(decide+kernel))|(apply ao 9;(focus kernel_rfl);(decide+kernel))|(apply ao 8;(focus kernel_rfl);(decide+kernel))|(apply ao 7;(focus kernel_rfl);(decide+kernel))|(apply ao 6;(focus kernel_rfl);(decide+kernel))|(apply ao 5;(focus kernel_rfl);(decide+kernel))|(apply ao 4;(focus kernel_rfl);(decide+kernel))|(apply ao 3;(focus kernel_rfl);(decide+kernel)));simp only[eZ,eE,fF,eO]);exact hW.out)):p:=f ⟨h⟩
theorem H9{p q:Prop}(h:q)(f:Wq q->p:=by(intro hW;(refine zs105 ?_;refine fJ ?_;refine fJ ?_;refine vf ?_;refine kW ?_;refine oQ ?_;refine zs58 ?_;refine gS ?_);exact hW.out)):p:=f ⟨h⟩
theorem IJ{p q:Prop}(h:q)(f:Wq q->p:=by(intro hW;((first|(apply ao 20;(focus kernel_rfl);(decide+kernel))|(apply ao 19;(focus kernel_rfl);(decide+kernel))|(apply ao 18;(focus kernel_rfl);(decide+kernel))|(apply ao 17;(focus kernel_rfl);(decide+kernel))|(apply ao 16;(focus kernel_rfl);(decide+kernel))|(apply ao 15;(focus kernel_rfl);(decide+kernel))|(apply ao 14;(focus kernel_rfl);(decide+kernel))|(apply ao 13;(focus kernel_rfl);(decide+kernel)));simp only[eZ,eE,fF,eO]);exact hW.out)):p:=f ⟨h⟩
theorem wZ{p q:Prop}(h:q)(f:Wq q->p:=by(intro hW;((first|(first|(refine aHs rfl rfl rfl rfl rfl ?_ ?_;(focus(apply bF;(conv=>lhs;whnf);(first|done|exact rfl|(apply bj;(first|(apply ay;omega)|(apply aA;omega)|assumption|(simp;done)))))))|refine nT rfl rfl rfl rfl rfl cL an zb0 an an ?_)|((try refine aS ?_);(first|(refine aLs rfl rfl rfl rfl ?_ ?_;(focus(apply bF;(conv=>lhs;whnf);(first|done|exact rfl|(apply bj;(first|(apply ay;omega)|(apply aA;omega)|assumption|(simp;done)))))))|refine aLw rfl rfl rfl rfl cL zb0 ?_))));exact hW.out)):p:=f ⟨h⟩
theorem xe{p q:Prop}(h:q)(f:Wq q->p:=by(intro hW;((first|(first|(refine aHs rfl rfl rfl rfl rfl ?_ ?_;(focus(apply bF;(conv=>lhs;whnf);(first|done|exact rfl|(apply bj;(first|(apply ay;omega)|(apply aA;omega)|assumption|(simp;done)))))))|refine nT rfl rfl rfl rfl rfl cL an zb3 an an ?_)|((try refine aS ?_);(first|(refine aLs rfl rfl rfl rfl ?_ ?_;(focus(apply bF;(conv=>lhs;whnf);(first|done|exact rfl|(apply bj;(first|(apply ay;omega)|(apply aA;omega)|assumption|(simp;done)))))))|refine aLw rfl rfl rfl rfl cL zb3 ?_))));exact hW.out)):p:=f ⟨h⟩
theorem Br{p q:Prop}(h:q)(f:Wq q->p:=by(intro hW;(refine fJ ?_;refine II ?_;refine fJ ?_;refine fi ?_;refine fi ?_;refine xe ?_;refine wZ ?_;refine fi ?_;refine xe ?_;refine wZ ?_;refine fi ?_;refine fi ?_;refine xf ?_;refine xe ?_;refine wZ ?_;refine fi ?_;refine xf ?_;refine xe ?_;refine wZ ?_;refine IG ?_;refine IE ?_);exact hW.out)):p:=f ⟨h⟩
theorem Ia{p q:Prop}(h:q)(f:Wq q->p:=by(intro hW;(refine gn ?_;refine zs3 ?_;refine zs4 ?_;refine mq ?_;refine ba ?_);exact hW.out)):p:=f ⟨h⟩
end
section
open Go.RowKit
namespace DW
theorem FN{P:Program}{X0:Nat->Prop}{n:Nat}{x y:Code}{Q Q':Exit->S->Prop}{s:S}(c:S)(T:∀s,Sh X0 n s c->aW P X0 n y Q s)(h:∀K:S->Prop,(∀s,Sh X0 n s c->K s)->aW P X0 n x (nx K Q') s):aW P X0 n x (nx (aC P X0 n y Q) Q') s:=h _ fun s hs=>⟨T s hs⟩
def bx:Nat->List (List Int)
 |0=>[[]]
 |i+1=>([-1,0,1]:List Int).flatMap fun c=>(bx i).map fun l=>c::l
theorem uS:∀(i:Nat) (l:List Int),l∈bx i->l.length=i/\∀x∈l,x.natAbs<=1
 |0,l,h=>by
  obtain rfl:=bV.1 h;exact⟨rfl,fun x hx=>by cases hx⟩
 |i+1,l,h=>by
  obtain⟨c,hc,h2⟩:=List.mem_flatMap.1 h;obtain⟨m,hm,rfl⟩:=iD.1 h2;obtain⟨h3,h4⟩:=uS i m hm;refine⟨by rw[dh,h3],fun x hx=>?_⟩;rcases bI.1 hx with rfl|hx
  ·simp only[bI,List.not_mem_nil,or_false]at hc;omega
  ·exact h4 x hx
theorem uT:∀i,(bx i).length=3^i
 |0=>rfl
 |i+1=>by
  show((bx i).map (fun l=>(-1:Int)::l)++((bx i).map (fun l=>(0:Int)::l)++((bx i).map (fun l=>(1:Int)::l)++[]))).length=_;simp only[cq,aY,en,uT i,dw];omega
def sv(n i:Nat)(l:List Int):List Int:=l++1::List.replicate (n-i-1) 0
def shB(g:Mx.Mat)(n i:Nat):Bool:=(bx i).any fun l=>decide (qv g (sv n i l)<Mx.at' g i i)
def rd0(g:Mx.Mat)(i:Nat):Bool:=decide (0<i)&&decide (Mx.at' g i i<Mx.at' g (i-1) (i-1))
def rdB(g:Mx.Mat)(n:Nat):Bool:=!(List.range n).any fun i=>rd0 g i||shB g n i
theorem EF{g:Mx.Mat}{n i:Nat}(hi:i<n)(h:(rd0 g i||shB g n i)=true):rdB g n=false:=by
 unfold rdB;rw[dQ.2 ⟨i,qB.2 hi,h⟩];rfl
theorem Ay{g:Mx.Mat}{n:Nat}(h:∀i,i<n->(rd0 g i||shB g n i)=false):rdB g n=true:=by
 unfold rdB;rw[oh.2 fun i hi=>by rw[h i (qB.1 hi)];simp];rfl
theorem sv_ok{g:Mx.Mat}{n i:Nat}{l:List Int}(h4:n<=4)(hl:g.length=n)(hR:Mx.Rc n g)(hb:∀i j,(Mx.at' g i j).natAbs<=1000000)(hi:i<n)(h:l∈bx i):VOk g (sv n i l) n:=by
 obtain⟨h1,h2⟩:=uS i l h;refine⟨h4,hl,hR,?_,hb,fun x hx=>?_⟩
 ·unfold sv;rw[cq,dh,ji];omega
 ·unfold sv at hx;rcases de.1 hx with hx|hx
  ·have:=h2 x hx;omega
  ·rcases bI.1 hx with rfl|hx
   ·decide
   ·rw[List.eq_of_mem_replicate hx];decide
set_option maxRecDepth 20000
set_option maxHeartbeats 2000000
def bxk(i k:Nat):List (List Int):=(([-1,0,1]:List Int).take k).flatMap fun c=>(bx i).map fun l=>c::l
theorem Ho{i k:Nat}(hk:k<3):bxk i (k+1)=bxk i k++(bx i).map fun l=>((k:Int)-1)::l:=by
 unfold bxk;have:k=0\/k=1\/k=2:=by omega
 rcases this with rfl|rfl|rfl<;>simp
theorem KM{i k:Nat}(hk:k<=3):(bxk i k).length=k*3^i:=by
 have:k=0\/k=1\/k=2\/k=3:=by omega
 unfold bxk;rcases this with rfl|rfl|rfl|rfl<;>simp[uT]<;>omega
theorem Jl:∀i:Nat,i<=4->Fn Tryz.prog 133 [dI (List.replicate i 1)] (dM (bx i))
 |0,_=>by
  show Fn _ _ [dI []] (dM [[]]);refine bq Tryz.func133 ak rfl rfl rfl fun X0=>?_;simp only[aQ];refine jL ?_;refine rK ?_;refine bU ?_;(refine gar ?_;(refine oL (k:=10) (wd:=1) (T:=Tryz.prog.elem 40) rfl rfl rfl rfl ak ak an an dL ?_);refine Jq (bB (k:=10) cr dG dF) ?_;refine qk ?_;refine zs5 ?_;refine ba ?_);refine zs1 ?_;exact⟨_,Sh.refl,.one (.tmp 2) _ rfl (.tmp 2 rfl)⟩
 |i+1,hi=>by
  have IH:=Jl i aa;have h3:3^i<=27:=cE (n:=3) (j:=3) aa aa;have hbl:=uT i;have hg0:(List.replicate (i+1) (1:Int))[0]?=some 1:=rfl;have hrl:(List.replicate (i+1) (1:Int)).length=i+1:=ji;have hdr:((List.replicate (i+1) (1:Int)).map zI).drop 1=(List.replicate i (1:Int)).map zI:=rfl;have hIs:=fun k (h:k<3)=>Ho (i:=i) h;have hIl:=fun k (h:k<=3)=>KM (i:=i) h;have hE:bxk i 3=bx (i+1):=rfl;have hB0:bxk i 0=[]:=rfl;rw[<-hE];have hBl:∀l∈bx i,l.length<=4:=fun l hl=>by rw[(uS i l hl).1];omega
  generalize bxk i=U at*;generalize bx i=B at*;rw[show dI (List.replicate i (1:Int))= .ls 1 (((List.replicate (i+1) (1:Int)).map zI).drop 1)from rfl]at IH;generalize List.replicate (i+1) (1:Int)=O at*;clear hdr hE;have hOl:(O.map zI).length=O.length:=aY ..;refine bq Tryz.func133 ak rfl rfl rfl fun X0=>?_;simp only[aQ];refine jL ?_;refine rK ?_;refine bG ?_;refine tL ?_;refine zs1 ?_;refine aI (eX (t:=3) (k:=3) (T:=40) (wd:=1) jN rfl rfl dL) ?_;have hc0:(0:Int)=((0:Nat):Int):=rfl;refine jK ?_;(refine aL1 rfl rfl rfl (by(apply zx;(exact rfl);(focus((apply aw;(conv=>lhs;whnf);(first|done|exact rfl))));(exact bW);(kernel_rfl);(kernel_rfl);(focus(first|exact lv _|exact rfl));(focus(first|omega|(simp;omega))))) ?_);refine gR ?_;refine cJ ?_;refine ct ?_;refine Bk ?_;refine xB ?_;refine zs47 ?_;refine cJ ?_;clear IH
  (refine aI (av (sl':=[(0,dI O),(3,.own 3),(4,dM B),(5,zI (((0:Nat):Int)-1))]) (ow':=[(3,⟨40,1,[]⟩)]) aE aH) ?_)
  refine aX (fun r s=>∃k,k<=3/\r=3-k/\s=⟨[(0,dI O),(3,.own 3),(4,dM B),(5,zI ((k:Nat)-1:Int))],[(3,⟨40,1,(U k).map dI⟩)]⟩) (m:=3) ⟨0,aO _,rfl,by rw[hB0];rfl⟩ fun r s hs=>?_;obtain⟨k,hk,rfl,rfl⟩:=hs;by_cases hk3:k<3
  ·have hsn:=hIs k hk3;have hUl:=hIl k hk;clear hIs hIl hB0;have hUb:(U k).length<=81:=by
    have:k*3^i<=3*27:=bZ hk h3;omega
   obtain⟨V,hV⟩:∃V,V=U k:=⟨_,rfl⟩;rw[<-hV]at hsn hUb;rw[<-hV];clear hV hUl;refine zs1 ?_;refine Ib ?_;refine eN ?_
   (refine aI (av (sl':=[(0,dI O),(3,.own 3),(4,dM B),(5,zI ((k:Nat)-1:Int)),(6,zI 0)]) (ow':=[(3,⟨40,1,V.map dI⟩)]) aE aH) ?_)
   refine aX (fun rr s=>∃j,j<=B.length/\rr=B.length-j/\s=⟨[(0,dI O),(3,.own 3),(4,dM B),(5,zI ((k:Nat)-1:Int)),(6,zI (j:Nat))],[(3,⟨40,1,(V++(B.take j).map fun l=>((k:Int)-1)::l).map dI⟩)]⟩) (m:=B.length) ⟨0,aO _,rfl,by simp⟩ fun rr s hs=>?_;obtain⟨j,hj,rfl,rfl⟩:=hs;by_cases hjl:j<B.length
   ·obtain⟨l,hl⟩:=get_some hjl;have hjs:(V++(B.take (j+1)).map fun l=>((k:Int)-1)::l).map dI=(V++(B.take j).map fun l=>((k:Int)-1)::l).map dI++[.ls 1 ([zI ((k:Int)-1)]++l.map zI)]:=by
     simp only[cB hl,dC,cY];rfl
    have hWb:(V++(B.take j).map fun l=>((k:Int)-1)::l).length<=200:=by
     rw[cq,aY,aP];omega
    obtain⟨W,hW⟩:∃W,W=V++(B.take j).map fun l=>((k:Int)-1)::l:=⟨_,rfl⟩;rw[<-hW]at hjs hWb;rw[<-hW];have hll:l.length<=4:=hBl l (bh hl);clear hW hsn;refine cC ?_;(refine gar ?_;refine zs3 ?_;refine zs3 ?_;(refine MQ (k:=34) (T:=Tryz.prog.elem 40) rfl rfl rfl rfl dm an mr an ak ak an an an dL ?_);refine zs3 ?_;refine zs3 ?_;refine kE ?_;refine fK ?_;refine sM ?_;refine Jq (bB (k:=34) cr dG dF) ?_;refine qk ?_;refine sM ?_;refine zs5 ?_;refine ba ?_);refine je ?_;simp only[nx];exact⟨B.length-(j+1),_,by omega,(av (sl':=[(0,dI O),(3,.own 3),(4,dM B),(5,zI ((k:Nat)-1:Int)),(6,zI ((j+1:Nat):Int))]) (ow':=[(3,⟨40,1,W.map dI++[.ls 1 ([zI ((k:Int)-1)]++l.map zI)]⟩)]) aE aH),j+1,by omega,rfl,by rw[hjs]⟩
   ·obtain rfl:j=B.length:=by omega
    rw[fj,<-hsn];clear hsn;obtain⟨W,hW⟩:∃W,W=U (k+1):=⟨_,rfl⟩;rw[<-hW];refine dH ?_;refine jf ?_;simp only[nx];exact⟨3-(k+1),_,by omega,(av (sl':=[(0,dI O),(3,.own 3),(4,dM B),(5,zI ((k+1:Nat)-1:Int))]) (ow':=[(3,⟨40,1,W.map dI⟩)]) aE aH),k+1,by omega,rfl,by rw[hW]⟩
  ·obtain rfl:k=3:=by omega
   clear hIs hIl hB0;generalize U 3=W;refine zs1 ?_;refine Ib ?_;refine bG ?_;refine aI (bB (k:=3) cr dG dF) ?_;refine zs1 ?_;refine jd ?_;exact⟨_,Sh.refl,.one (.tmp 2) _ rfl (.tmp 2 rfl)⟩
theorem I1{g:Mx.Mat}{v:List Int}{n:Nat}(h:VOk g v n):(qv g v).natAbs<=9000000000000000000:=by
 have h1:=h.qb (i:=n) (k:=0) (af _) (aO _);have e:qs g v n n 0=qv g v:=by
  unfold qv;rw[h.vl];exact fZ _
 rw[e]at h1;omega
theorem GM{i k:Nat}(hk:k<i):(List.replicate k (1:Int)++List.replicate (i-k) 0).set k 1=List.replicate (k+1) 1++List.replicate (i-(k+1)) 0:=by
 rw[xW k _ (by rw[ji];exact af _),ji,fE,show i-k=i-(k+1)+1 by omega,xp,gg,xX (n:=k),cY];rfl
theorem Lp(g:Mx.Mat)(n:Nat)(hl:g.length=n)(h4:n<=4)(hR:Mx.Rc n g)(hb:∀i j,(Mx.at' g i j).natAbs<=1000000):Fn Tryz.prog 60 [dM g] (.sc (.bool (rdB g n))):=by
 have hno:=fun i (hi:i<n)=>EF (g:=g) hi;have hye:=Ay (g:=g) (n:=n);generalize rdB g n=BB at*;refine bq Tryz.func60 ak rfl rfl rfl fun X0=>?_;simp only[aQ];refine zs1 ?_;refine Iy ?_;refine cD ?_
 (refine aI (av (sl':=[(0,dM g),(3,zI 0)]) (ow':=[]) aE aH) ?_)
 refine aX (fun r s=>∃i,i<=n/\r=n-i/\(∀a,a<i->(rd0 g a||shB g n a)=false)/\s=⟨[(0,dM g),(3,zI (i:Nat))],[]⟩) (m:=n) ⟨0,aO _,rfl,fun a h=>by omega,rfl⟩ fun r s hs=>?_;obtain⟨i,hi,rfl,hok,rfl⟩:=hs;by_cases hil:i<n
 ·obtain⟨q,hq⟩:=get_some (m:=g) (k:=i) aa;have hql:=hR q (bh hq);obtain⟨x,hx⟩:=get_some (m:=q) (k:=i) aa;have ex:Mx.at' g i i=x:=by unfold Mx.at';rw[Mx.cX hq,aF,hx];rfl
  have hxb:=hb i i;rw[ex]at hxb;have hno':=hno i hil;clear hno;have hok2:(rd0 g i||shB g n i)=false->∀a,a<i+1->(rd0 g a||shB g n a)=false:=fun h a ha=>by
   by_cases e:a=i
   ·rw[e];exact h
   ·exact hok a aa
  clear hok;obtain⟨b0,hb0⟩:∃b0,b0=rd0 g i:=⟨_,rfl⟩;obtain⟨b1,hb1⟩:∃b1,b1=shB g n i:=⟨_,rfl⟩;have hVO:=fun l=>sv_ok (l:=l) h4 hl hR hb hil;rw[<-hb0,<-hb1]at hno' hok2;refine cC ?_;refine FN ⟨[(0,dM g),(3,zI (i:Nat)),(35, .sc (.bool b0))],[]⟩ (fun s hs=>?_) fun K hK=>?_
  ·refine aI hs ?_;clear hb0;cases b0
   ·rw[Bool.false_or]at hno' hok2;refine mn ?_;refine jK ?_;(refine FW (k:=37) (T:=Tryz.prog.elem 40) (zv:=(.int .i64 0)) (d0:=(.sc (.int .i64 0))) (wd:=1) rfl rfl rfl rfl dm dm ak ak an an an an an aa zb52 an dL ?_);refine dJ ?_;refine cD ?_
    (refine aI (av (sl':=[(0,dM g),(3,zI (i:Nat)),(4, .own 37),(5,zI 0)]) (ow':=[(37,⟨3,1,List.replicate i (zI 0)⟩)]) aE aH) ?_)
    refine aX (fun rr s=>∃k,k<=i/\rr=i-k/\s=⟨[(0,dM g),(3,zI (i:Nat)),(4, .own 37),(5,zI (k:Nat))],[(37,⟨3,1,(List.replicate k (1:Int)++List.replicate (i-k) 0).map zI⟩)]⟩) (m:=i) ⟨0,aO _,rfl,by simp⟩ fun rr s hs=>?_;obtain⟨k,hk,rfl,rfl⟩:=hs;by_cases hki:k<i
    ·have hst:=GM hki;have hLl:(List.replicate k (1:Int)++List.replicate (i-k) 0).length=i:=by rw[cq,ji,ji];omega
     obtain⟨L,hL⟩:∃L,L=List.replicate k (1:Int)++List.replicate (i-k) 0:=⟨_,rfl⟩;rw[<-hL]at hst hLl;rw[<-hL];clear hL;have hE:(L.map zI).set k (zI 1)=(L.set k 1).map zI:=by rw[List.map_set]
     refine zs1 ?_;refine oR ?_;refine bU ?_;refine cf ?_;refine kE ?_;(refine oK (i:=k) rfl rfl rfl dm (by exact bW) cr an vt an mr an ak vu ?_);refine dv ?_;rw[hE,hst];refine je ?_;simp only[nx];exact⟨i-(k+1),_,by omega,(av (sl':=[(0,dM g),(3,zI (i:Nat)),(4, .own 37),(5,zI ((k+1:Nat):Int))]) (ow':=[(37,⟨3,1,(List.replicate (k+1) (1:Int)++List.replicate (i-(k+1)) 0).map zI⟩)]) aE aH),k+1,by omega,rfl,rfl⟩
    ·obtain rfl:k=i:=by omega
     rw[fE,List.replicate_zero,gZ];have BX:=Jl k aa;have hbl:=uT k;have h3:3^k<=27:=cE (n:=3) (j:=3) aa aa;have hany:shB g n k=(bx k).any fun l=>decide (qv g (sv n k l)<x):=by unfold shB;rw[ex]
     rw[<-hb1]at hany;have hBm:=uS k;clear hb hb1;generalize bx k=B at*;generalize List.replicate k (1:Int)=O at*;refine zs1 ?_;refine oR ?_;refine bG ?_;refine aI (bB (k:=37) cr dG dF) ?_;refine zs1 ?_;refine BI ?_;refine cD ?_;clear BX
     (refine aI (av (sl':=[(0,dM g),(3,zI (k:Nat)),(6,dM B),(7,zI 0)]) (ow':=[]) aE aH) ?_)
     refine aX (fun rr s=>∃j,j<=B.length/\rr=B.length-j/\((B.take j).any fun l=>decide (qv g (sv n k l)<x))=false/\s=⟨[(0,dM g),(3,zI (k:Nat)),(6,dM B),(7,zI (j:Nat))],[]⟩) (m:=B.length) ⟨0,aO _,rfl,rfl,rfl⟩ fun rr s hs=>?_;obtain⟨j,hj,rfl,han,rfl⟩:=hs;by_cases hjl:j<B.length
     ·obtain⟨l,hlj⟩:=get_some hjl;have hlm:=bh hlj;obtain⟨hll,_⟩:=hBm l hlm;have VO:=hVO l hlm;have RV:=yy g (sv n k l) n VO;have hvb:(qv g (sv n k l)).natAbs<=9000000000000000000:=I1 VO;have hane:((B.take (j+1)).any fun l=>decide (qv g (sv n k l)<x))=decide (qv g (sv n k l)<x):=by
       rw[cB hlj,List.any_append,han,Bool.false_or,List.any_cons,List.any_nil,Bool.or_false]
      have hyes:decide (qv g (sv n k l)<x)=true->b1=true:=fun h=>by
       rw[hany];exact dQ.2 ⟨l,hlm,h⟩
      clear hVO VO han hany hBm;obtain⟨N,hN⟩:∃N,N=n-k-1:=⟨_,rfl⟩;have esv:sv n k l=l++1::List.replicate N 0:=by unfold sv;rw[hN]
      obtain⟨z,hz⟩:∃z,z=qv g (sv n k l):=⟨_,rfl⟩;rw[<-hz]at hane hyes hvb RV;rw[esv]at RV;clear hz esv;have hE1:([]++l.map zI)++[zI 1]=(l++1::List.replicate 0 0).map zI:=by simp
      refine cC ?_;refine gar ?_;(refine oL (k:=54) (wd:=1) (T:=Tryz.prog.elem 40) rfl rfl rfl rfl ak ak an an dL ?_);refine zs3 ?_;refine jM ?_;refine vh ?_;refine IK ?_;refine vh ?_;refine cJ ?_
      (refine aI (av (sl':=[(0,dM g),(3,zI (k:Nat)),(6,dM B),(7,zI (j:Nat)),(8, .own 54)]) (ow':=[(54,⟨3,1,([]++l.map zI)++[zI 1]⟩)]) aE aH) ?_)
      rw[hE1];refine aX (fun rr s=>∃q,q<=N/\rr=N-q/\s=⟨[(0,dM g),(3,zI (k:Nat)),(6,dM B),(7,zI (j:Nat)),(8, .own 54)],[(54,⟨3,1,(l++1::List.replicate q 0).map zI⟩)]⟩) (m:=N) ⟨0,aO _,rfl,rfl⟩ fun rr s hs=>?_;obtain⟨q,hqN,rfl,rfl⟩:=hs;have hWl:(l++1::List.replicate q (0:Int)).length=k+1+q:=by rw[cq,dh,ji];omega
      by_cases hqn:q<N
      ·have hWs : (l ++ 1 :: List.replicate (q + 1) (0 : Int)).map zI = (l ++ 1 :: List.replicate q 0).map zI ++ [zI 0] := by
        rw[xX,<-jk,<-cY,dC];rfl
       obtain⟨W,hW⟩:∃W,W=l++1::List.replicate q 0:=⟨_,rfl⟩;rw[<-hW]at hWs hWl;rw[<-hW];clear hW RV hane hyes;have hWl2:(W.map zI).length=k+1+q:=by rw[aY];exact hWl
       refine zs1 ?_;refine Ia ?_;refine bU ?_;refine ct ?_;refine IK ?_;refine sM ?_;refine cJ ?_;simp only[nx];exact⟨N-(q+1),_,by omega,(av (sl':=[(0,dM g),(3,zI (k:Nat)),(6,dM B),(7,zI (j:Nat)),(8, .own 54)]) (ow':=[(54,⟨3,1,W.map zI++[zI 0]⟩)]) aE aH),q+1,by omega,rfl,by rw[hWs]⟩
      ·obtain rfl:q=N:=by omega
       obtain⟨W,hW⟩:∃W,W=l++1::List.replicate q 0:=⟨_,rfl⟩;rw[<-hW]at hWl RV;rw[<-hW];clear hW hE1;have hWl2:(W.map zI).length=k+1+q:=by rw[aY];exact hWl
       refine zs1 ?_;refine Ia ?_;refine bG ?_;refine aI (bB (k:=54) cr dG dF) ?_;by_cases hzx:z<x
       ·obtain rfl:=hno' (hyes (ay hzx));refine zs1 ?_;refine H9 ?_;refine bU ?_;refine kV ?_;exact⟨_,Sh.refl, .one (.tmp 2) _ rfl (.tmp 2 rfl)⟩
       ·rw[aA hzx]at hane;refine zs1 ?_;refine H9 ?_;refine gU ?_;simp only[nx];exact⟨B.length-(j+1),_,by omega,(av (sl':=[(0,dM g),(3,zI (k:Nat)),(6,dM B),(7,zI ((j+1:Nat):Int))]) (ow':=[]) aE aH),j+1,by omega,rfl,hane,rfl⟩
     ·obtain rfl:j=B.length:=by omega
      rw[fj,<-hany]at han;have hok3:=hok2 han;clear hok2 hVO hany hBm;refine dH ?_;refine jf ?_;simp only[nx];exact⟨n-(k+1),_,by omega,(av (sl':=[(0,dM g),(3,zI ((k+1:Nat):Int))]) (ow':=[]) aE aH),k+1,by omega,rfl,hok3,rfl⟩
   ·refine mj ?_;obtain rfl:=hno' rfl;refine fR ?_;exact⟨_,Sh.refl, .one (.tmp 2) _ rfl (.tmp 2 rfl)⟩
  ·clear hno' hok2 hVO hb1;rcases i with _|i
   ·have hd0:decide (((0:Nat):Int)>0)=false:=rfl;obtain rfl:b0=false:=by rw[hb0];rfl
    refine zs1 ?_;refine IJ ?_;refine Hy ?_;refine gS ?_;refine zs1 ?_;exact hK _ (av (sl':=[(0,dM g),(3,zI ((0:Nat):Int)),(35, .sc (.bool false))]) (ow':=[]) aE aH)
   ·have hd0:decide (((i+1:Nat):Int)>0)=true:=ay aa;obtain⟨q2,hq2⟩:=get_some (m:=g) (k:=i) aa;have hql2:=hR q2 (bh hq2);obtain⟨y,hy⟩:=get_some (m:=q2) (k:=i) aa;have ey:Mx.at' g i i=y:=by unfold Mx.at';rw[Mx.cX hq2,aF,hy];rfl
    have hyb:=hb i i;rw[ey]at hyb;have hc:((i+1:Nat):Int)-1=((i:Nat):Int):=by omega
    obtain rfl:b0=decide (x<y):=by
     rw[hb0];unfold rd0;rw[oZ,ex,ey,ay (Nat.succ_pos i),tW]
    clear hb0 hb;refine zs1 ?_;refine IJ ?_;refine Br ?_;refine gS ?_;refine zs1 ?_;exact hK _ (av (sl':=[(0,dM g),(3,zI ((i+1:Nat):Int)),(35, .sc (.bool (decide (x<y))))]) (ow':=[]) aE aH)
 ·obtain rfl:i=n:=by omega
  obtain rfl:=hye hok;clear hno hok;refine dH ?_;refine kV ?_;exact⟨_,Sh.refl, .one (.tmp 2) _ rfl (.tmp 2 rfl)⟩
end DW
end
section
open Go.RowKit
namespace DW
section
variable {P : Program} {ops : Array Oper} {Q : Exit->Act->World->Prop} {m : Nat}
theorem Ev{r:Nat}{row:String}{args:Array Value}{w:World}{R:Value->World->Prop}(h:Rows P row args w R):RowsIn (Fence.wide.inRound r) m P row args w R:=fun c cs _=>by
 obtain⟨v,w2,h1,h2⟩:=h c cs;exact⟨v,w2,h1,stepsIn_wide.2 h2⟩
theorem AG(r:Nat){o:Oper}{a:Act}{w:World}{K:Act->World->Prop}(hd:∀c,o.op≠ .defer c)(h:o.wp P a w K Q):o.wpIn (Fence.wide.inRound r) m P a w K Q:=by
 refine⟨fun _ _=>trivial,?_⟩;rw[Oper.semAt_eq _ _ _ hd];unfold Oper.wp at h;generalize(execOp a.eval o).run P w=e at*
 cases e with
 |ok x w'=>
  cases x<;>simp only[Oper.upon,Oper.uponIn]at h⊢<;>
   first
    |exact h
    |exact⟨fun e=>(by cases e),callsIn_wide.2 h⟩
    |exact⟨fun e=>(by cases e),Ev h⟩
 |halt x w'=>cases x<;>simp only[Oper.upon,Oper.uponIn]at h⊢<;>exact h
def sZ(l:List Oper):Bool:=l.all fun o=>match o.op with
 | .defer _=>false
 |_=>true
theorem AI{l:List Oper}(h:sZ l=true){o:Oper}(ho:o∈l):∀c,o.op≠ .defer c:=fun c e=>by
 have:=fD.1 h o ho;rw[e]at this;cases this
theorem qZ(r:Nat)(hq:¬LetsOut Q):∀(l:List Oper) (a:Act) (w:World),sZ l=true->wpList P ops Q l a w->wpListIn (Fence.wide.inRound r) m P ops Q l a w
 |[],_,_,_,h=>h
 |o::l,a,w,hd,h=>by
  have hd':sZ l=true:=by
   unfold sZ at hd⊢;rw[oa,cO]at hd;exact hd.2
  unfold wpListIn;unfold wpList at h;split
  ·next hw=>
   rw[aj hw]at h;rcases h with h|h
   ·exact AG r (AI hd br) (Oper.wp_mono (fun a w=>qZ r hq l a w hd') h)
   ·exact absurd h.2 hq
  ·next hw=>
   rw[ah hw]at h;exact⟨fun _ _=>trivial,qZ r hq l _ _ hd' h⟩
theorem qf(r:Nat)(hq:¬LetsOut Q)(hd:sZ ops.toList=true){md:Region.Mode}:∀(fuel:Nat) (b:Array Bool) (a:Act) (w:World),wpAny P md ops Q fuel b a w->wpAnyIn (Fence.wide.inRound r) m P md ops Q fuel b a w
 |0,_,_,_,h=>h
 |fuel+1,b,a,w,h=>by
  refine⟨h.1,fun i hi=>?_⟩;have h2:=h.2 i hi;unfold wpOp at h2;unfold wpOpIn;split
  ·next ho=>
   rw[ho]at h2;exact qf r hq hd fuel _ _ _ h2
  ·next o ho=>
   simp only[ho]at h2;have hm:o∈ops.toList:=by
    obtain⟨h3,h4⟩:=dz.1 ho;rw[<-h4];exact Array.getElem_mem_toList h3
   split
   ·next hw=>
    rw[aj hw]at h2;rcases h2 with h2|h2
    ·exact AG r (AI hd hm) (Oper.wp_mono (fun a w=>qf r hq hd fuel _ a w) h2)
    ·exact absurd h2.2 hq
   ·next hw=>
    rw[ah hw]at h2;exact⟨fun _ _=>trivial,qf r hq hd fuel _ _ _ h2⟩
end
def aR(P:Program)(r:Nat)(X0:Nat->Prop)(n:Nat)(c:Code)(Q:Exit->S->Prop)(s:S):Prop:=
 ∀m w0 f a w,Hd X0 n w0 s f a w->c.wpIn (Fence.wide.inRound r) m P (fun e a w=>∃s' f',Hd X0 n w0 s' f' a w/\Q e s') a w
section
variable {P : Program} {r : Nat} {X0 : Nat->Prop} {n : Nat} {Q : Exit->S->Prop} {s : S}
def onQ(X0:Nat->Prop)(n:Nat)(w0:Bs)(K:S->Prop):Exit->Act->World->Prop
 | .normal,a,w=>∃s' f',Hd X0 n w0 s' f' a w/\K s'
 |_,_,_=>False
theorem EO{w0:Bs}{K:S->Prop}:¬LetsOut (onQ X0 n w0 K):=fun ⟨_,_,h⟩=>h
theorem FO{id:Nat}{l:List Oper}(hd:sZ l=true)(h:aL P X0 n l.toArray l (Q .normal) s):aR P r X0 n (.region id l.toArray false) Q s:=fun m w0 f a w hh=>
 wpIn_mono (wpIn_region_lit (qZ r EO l a w hd (h w0 f a w (onQ X0 n w0 (Q .normal)) hh fun s' f' _ _ h1 h2=>⟨s',f',h1,h2⟩))) fun e a w h=>by
  cases e with
  |normal=>exact h
  |_=>exact h.elim
theorem aRmix{id:Nat}{l:List Oper}{sl sl':List (Nat×D)}{ow:List (Nat×Ow)}(ks:List Nat)(hm:P.follows .mixedOrders=true)(hdf:sZ l=true)(hs:fq ks sl=sl')(h:aN P X0 n l.toArray ks l ⟨sl',ow⟩ [] (Q .normal)):aR P r X0 n (.region id l.toArray true) Q ⟨sl,ow⟩:=fun m w0 f a w hd=>by
 subst hs;obtain⟨fps,h1,h2⟩:=h;obtain⟨st,s',h3,h4⟩:=zP h1;have M:=EZ (P:=P) (X0:=X0) (s:=⟨fq ks sl,ow⟩) (st:=st) (s':=s') h2 (fun k hk t=>tj hk t) (by simpa using h3);obtain⟨_,e2⟩:=sD 0 h3;refine wpIn_mono (Q:=onQ X0 n w0 (Q .normal)) (wpIn_region_any hm (qf r EO hdf _ _ _ _ (AK M (w0:=w0) (fun g a' w' hh=>?_) _ _ a _ f (List.range l.toArray.size) aU aU (fun i hi _=>qB.2 hi) ?_ ?_))) fun e a w h=>by
  cases e with
  |normal=>exact h
  |_=>exact h.elim
 ·rw[<-e2]at hh;exact⟨s',g,hh,h4⟩
 ·intro i p q hi;simp only[cn,qA]at hi;split at hi<;>simp at hi
 ·have hz : stL (fun i => (Array.replicate l.toArray.size false).getD i false) st 0 ⟨fq ks sl, ow⟩ = ⟨fq ks sl, ow⟩ := pw _ _ _ fun i _ => by
   simp only[cn,qA];split<;>rfl
  rw[hz];exact(tw ks hd).grow ((Below.refl _ w).drew)
end
end DW
end
section
open Go.RowKit
namespace DW
attribute [local go_sem] Oper.semAt_some
structure EC(l n i a1 a2 a3 a4 bv:Nat)(W:World):Prop where
 c1:W.cell? ⟨a1,0,none⟩=some (.int .i64 i)
 c2:W.cell? ⟨a2,0,none⟩=some (.func (.yield l) #[] #[])
 c3:W.cell? ⟨a3,0,none⟩=some (.slice (some ⟨bv,0,none⟩) n n)
 c4:W.cell? ⟨a4,0,none⟩=some (.func (.func 213) #[] #[.pointer (some ⟨a1,0,none⟩),.pointer (some ⟨a2,0,none⟩),.pointer (some ⟨a3,0,none⟩),.pointer (some ⟨a4,0,none⟩)])
 n1:a1≠bv
 n2:a2≠bv
 n3:a3≠bv
 n4:a4≠bv
structure VC(n bv:Nat)(C:List Int)(W:World):Prop where
 len:C.length=n
 cell:∀j z,C[j]?=some z->W.cell? ⟨bv,j,none⟩=some (.int .i64 z)
 fz:∀j,j<n->W.frozen? ⟨bv,j,none⟩=false
theorem EC.set{l n i a1 a2 a3 a4 bv:Nat}{W:World}(h:EC l n i a1 a2 a3 a4 bv W)(j:Nat)(v:Value):EC l n i a1 a2 a3 a4 bv (W.setCell ⟨bv,j,none⟩ v):=by
 have key:∀a,a≠bv->(W.setCell ⟨bv,j,none⟩ v).cell? ⟨a,0,none⟩=W.cell? ⟨a,0,none⟩:=fun a ha=>World.cell?_of_block (Below.heap_setCell W ⟨bv,j,none⟩ v a ha);exact⟨(key a1 h.n1).trans h.c1,(key a2 h.n2).trans h.c2,(key a3 h.n3).trans h.c3,(key a4 h.n4).trans h.c4,h.n1,h.n2,h.n3,h.n4⟩
theorem VC.set{n bv:Nat}{C:List Int}{W:World}(h:VC n bv C W){j:Nat}(hj:j<n)(z:Int):VC n bv (C.set j z) (W.setCell ⟨bv,j,none⟩ (.int .i64 z)):=by
 obtain⟨y,hy⟩:=get_some (m:=C) (k:=j) (by rw[h.len];exact hj);refine⟨by rw[dc];exact h.len,fun k x hk=>?_,fun k hk=>by rw[World.frozen?_setCell];exact h.fz k hk⟩;rw[List.getElem?_set]at hk;split at hk
 ·next e=>
  subst e;split at hk
  ·cases hk;exact World.cell?_setCell_same' _ _ _ (by rw[h.cell _ _ hy];rfl)
  ·cases hk
 ·next e=>
  rw[World.cell?_setCell_other]
  ·exact h.cell k x hk
  ·intro e2;cases e2;exact e rfl
def exs(n i d:Nat)(p:List Int):List (List Int):=(bx d).map fun q=>sv n i (p++q)
theorem zj(n i:Nat)(p:List Int):exs n i 0 p=[sv n i p]:=by
 show [sv n i (p++[])]=_;rw[gZ]
theorem G9(n i d:Nat)(p:List Int):exs n i (d+1) p=exs n i d (p++[-1])++(exs n i d (p++[0])++exs n i d (p++[1])):=by
 unfold exs;show((bx d).map (fun l=>(-1:Int)::l)++((bx d).map (fun l=>(0:Int)::l)++((bx d).map (fun l=>(1:Int)::l)++[]))).map _=_;simp only[dC,List.map_map,gZ];congr 1
 ·exact nY fun q _=>by simp
 ·congr 1<;>exact nY fun q _=>by simp
def exc(n i d:Nat)(p:List Int):Nat->List (List Int)
 |0=>[]
 |c+1=>exc n i d p c++exs n i d (p++[(c:Int)-1])
theorem wK(n i d:Nat)(p:List Int):exc n i d p 3=exs n i (d+1) p:=by
 rw[G9];show(([]++exs n i d (p++[-1]))++exs n i d (p++[0]))++exs n i d (p++[1])=_;rw[cT,cY]
theorem Kx(n i d:Nat)(p:List Int){c:Nat}(h:c<=3):exc n i d p c<+:exs n i (d+1) p:=by
 rw[<-wK];have:c=0\/c=1\/c=2\/c=3:=by omega
 rcases this with rfl|rfl|rfl|rfl
 ·exact List.nil_prefix
 ·exact List.IsPrefix.trans (xS _ _) (xS _ _)
 ·exact xS _ _
 ·exact List.prefix_refl _
theorem ym{C p:List Int}{k:Nat}{z:Int}(hp:p.length=k)(h:C.take (k+1)=p++[z]):C.take k=p:=by
 have h1:(C.take (k+1)).take k=C.take k:=by rw[List.take_take,cV (lx k)]
 rw[<-h1,h,my aa,cR aa]
def gone(b k:Nat)(W:World):Nat:=match W.cell? ⟨b,k,none⟩with
 |some (.int _ z)=>(2-z).toNat
 |_=>0
theorem AV{b k:Nat}{W:World}{z:Int}(h:W.cell? ⟨b,k,none⟩=some (.int .i64 z)):gone b k W=(2-z).toNat:=by unfold gone;rw[h]
set_option maxRecDepth 20000
set_option maxHeartbeats 2000000
theorem Fp(l n i a1 a2 a3 a4 bv:Nat)(hin:i<n)(hn:n<=4)(J Jx:List (List Int)->World->Prop)(hJs:∀pre W j v,J pre W->J pre (W.setCell ⟨bv,j,none⟩ v))
  (hY:∀m pre p W,EC l n i a1 a2 a3 a4 bv W->VC n bv (sv n i p) W->J pre W->p.length=i->(∀x∈p,x.natAbs<=1)->YieldAt Fence.wide m Tryz.prog l #[.slice (some ⟨bv,0,none⟩) n n] W fun e W'=>(e= .returned (.bool true)/\EC l n i a1 a2 a3 a4 bv W'/\VC n bv (sv n i p) W'/\J (pre++[sv n i p]) W')\/(e= .returned (.bool false)/\Jx (pre++[sv n i p]) W')):
  ∀d k:Nat,k+d=i->∀(m:Nat) (p C:List Int) (pre:List (List Int)) (W:World),p.length=k->(∀x∈p,x.natAbs<=1)->C.take k=p->C.drop i=1::List.replicate (n-i-1) 0->EC l n i a1 a2 a3 a4 bv W->VC n bv C W->J pre W->
  CallsIn Fence.wide m Tryz.prog 213 #[.int .i64 ((k:Int)), .pointer (some ⟨a1,0,none⟩), .pointer (some ⟨a2,0,none⟩), .pointer (some ⟨a3,0,none⟩), .pointer (some ⟨a4,0,none⟩)] W fun e W'=>
   (e= .returned (.bool true)/\∃C',C'.take k=p/\C'.drop i=1::List.replicate (n-i-1) 0/\EC l n i a1 a2 a3 a4 bv W'/\VC n bv C' W'/\J (pre++exs n i d p) W')\/(e= .returned (.bool false)/\∃q,q<+:exs n i d p/\Jx (pre++q) W')
 |0,k,hk,m,p,C,pre,W,hpl,hpx,hCt,hCd,hE,hV,hJ=>by
  obtain rfl:k=i:=by omega
  have hC:C=sv n k p:=by
   rw[<-lJ k C,hCt,hCd];rfl
  subst hC;obtain⟨fn,tmps,assign,body,hy,hR⟩:=hY (m-1) pre p W hE hV hJ hpl hpx;obtain⟨e1,e2,e3,e4,_,_,_,_⟩:=hE;have e0:(decide ((k:Int)=(k:Int)))=true:=ay rfl;refine callsIn_of_wp Tryz.func213 rfl trivial ?_ rfl;simp only[Tryz.ntmps213,fY,dh,en,Nat.reduceAdd,Nat.reduceSub,qx,qw,qu,qt,cT,jk]
  gi_wp2
  refine⟨fun h=>(by cases h),?_⟩;refine hR.mono ?_;rintro e W' (⟨rfl,hE',hV',hJ'⟩|⟨rfl,hJx'⟩)
  ·gi_wp2
   refine bodyPost_ret (results_tmp rfl _ _ _) rfl ?_;exact .inl ⟨rfl,_,hCt,hCd,hE',hV',by rw[zj];exact hJ'⟩
  ·gi_wp2
   refine bodyPost_ret (results_tmp rfl _ _ _) rfl ?_;exact .inr ⟨rfl,_,by rw[zj];exact List.prefix_refl _,hJx'⟩
 |d+1,k,hk,m,p,C,pre,W,hpl,hpx,hCt,hCd,hE,hV,hJ=>by
  have IH:=Fp l n i a1 a2 a3 a4 bv hin hn J Jx hJs hY d (k+1) aa;have e0:((k:Int)==(i:Int))=false:=by rw[beq_eq_false_iff_ne];omega
  have hkn:k<n:=by omega
  obtain⟨y0,hy0⟩:=get_some (m:=C) (k:=k) (by rw[hV.len];exact hkn);have hc0:=hV.cell k y0 hy0;have hf0:=hV.fz k hkn;have hE0:=hE;obtain⟨e1,e2,e3,e4,_,_,_,_⟩:=hE0;refine callsIn_of_wp Tryz.func213 rfl trivial ?_ rfl;simp only[Tryz.ntmps213,fY,dh,en,Nat.reduceAdd,Nat.reduceSub,qx,qw,qu,qt,cT,jk]
  gi_wp2
  gi_loopw [] (fun wr=>∃(c:Nat) (C':List Int),c<=3/\C'.take k=p/\C'.drop i=1::List.replicate (n-i-1) 0/\C'[k]?=some ((c:Int)-1)/\EC l n i a1 a2 a3 a4 bv wr/\VC n bv C' wr/\J (pre++exc n i d p c) wr) (fun wr=>gone bv k wr)
  case atStart=>
   refine⟨0,C.set k (-1),by omega,?_,?_,?_,hE.set _ _,hV.set hkn _,by rw[show exc n i d p 0=[]from rfl,gZ];exact hJs _ _ _ _ hJ⟩
   ·rw[Ca (af _)];exact hCt
   ·rw[B9 aa];exact hCd
   ·rw[lj (by rw[hV.len];exact hkn)];rfl
  case round=>
   obtain⟨c,C',hc,hCt',hCd',hk',hE',hV',hJ'⟩:=hrel;have hcell:=hV'.cell k _ hk';have hfz:=hV'.fz k hkn;have hE1:=hE';obtain⟨f1,f2,f3,f4,_,_,_,_⟩:=hE1;clear e1 e2 e3 e4 hc0 hf0;by_cases hc3:c<3
   ·have hd:decide ((c:Int)-1<=1)=true:=ay aa;have ht:C'.take (k+1)=p++[(c:Int)-1]:=by rw[cB hk',hCt']
    have ix:=IH (m-1) (p++[(c:Int)-1]) C' (pre++exc n i d p c) wr (by rw[cq,hpl];rfl) (fun x hx=>by
     rcases de.1 hx with hx|hx
     ·exact hpx x hx
     ·rw[bV.1 hx];omega) ht hCd' hE' hV' hJ'
    rw[show((k+1:Nat):Int)=(k:Int)+1 by omega,cY]at ix;have hex:exc n i d p c++exs n i d (p++[(c:Int)-1])=exc n i d p (c+1):=rfl;rw[hex]at ix;clear IH hE' hV' hJ' hk' hCt' ht
    gi_wp2
    refine⟨trivial,fun h=>(by cases h),?_⟩;refine ix.mono ?_;clear ix;rintro e W3 (⟨rfl,C3,hCt3,hCd3,hE3,hV3,hJ3⟩|⟨rfl,q,hq,hJx⟩)
    ·have hk3 : C3[k]? = some ((c : Int) - 1) := by
      rw[<-fS (iU k),hCt3,iC aa,hpl,fE];rfl
     have hcell3:=hV3.cell k _ hk3;have hfz3:=hV3.fz k hkn;have hE4:=hE3;obtain⟨g1,g2,g3,g4,_,_,_,_⟩:=hE4;clear f1 f2 f3 f4
     gi_wp2
     go_roundw
     case rel=>exact⟨c+1,C3.set k c,by omega,by rw[Ca (af _)];exact ym hpl hCt3,by rw[B9 aa];exact hCd3,by rw[lj (by rw[hV3.len];exact hkn)];congr 1;omega,hE3.set _ _,hV3.set hkn _,hJs _ _ _ _ hJ3⟩
     case measure=>
      rw[AV hcell,AV (World.cell?_setCell_same' _ _ _ (by rw[hcell3];rfl))];omega
    ·gi_wp2
     refine bodyPost_ret (results_tmp rfl _ _ _) rfl ?_;refine .inr ⟨rfl,exc n i d p c++q,?_,by rw[<-cY];exact hJx⟩;exact List.IsPrefix.trans ((List.prefix_append_right_inj _).2 hq) (Kx n i d p (c:=c+1) aa)
   ·obtain rfl:c=3:=by omega
    have hd:decide (((3:Nat):Int)-1<=1)=false:=rfl
    gi_wp2
    refine bodyPost_ret (results_tmp rfl _ _ _) rfl ?_;exact .inl ⟨rfl,C',hCt',hCd',hE',hV',by rw[<-wK];exact hJ'⟩
theorem iu(A:World)(v:Value)(t:TypeId):(A.alloc (.cells #[v] t)).cell? ⟨A.heap.size,0,none⟩=some v:=by simp
theorem Af(A:World)(v:Value)(t:TypeId):(A.alloc (.cells #[v] t)).frozen? ⟨A.heap.size,0,none⟩=false:=by simp
theorem eW{A:World}(o:Obj){p:Addr}{v:Value}(h:A.cell? p=some v):(A.alloc o).cell? p=some v:=by
 obtain⟨q,hq,_⟩:=cells_of_cell h;exact(World.cell?_of_block (Below.heap_alloc A o p.block (dz.1 hq).1)).trans h
theorem Fo{A:World}(o:Obj){p:Addr}{v:Value}(h:A.cell? p=some v):(A.alloc o).frozen? p=A.frozen? p:=by
 obtain⟨q,hq,_⟩:=cells_of_cell h;exact World.frozen?_of_block (Below.heap_alloc A o p.block (dz.1 hq).1)
theorem Ke(A:World)(n i j:Nat)(hj:j<n):(A.alloc (.cells ((madeCells #[.int .i64 0] n).setIfInBounds i (.int .i64 1)) 3)).cell? ⟨A.heap.size,j,none⟩=some (.int .i64 (if j=i then 1 else 0)):=by
 have hh:=heap_alloc_new A (.cells ((madeCells #[.int .i64 0] n).setIfInBounds i (.int .i64 1)) 3);rw[cell_of_row _ A.heap.size _ _ _ (0,0) hh,mz];unfold madeCells;by_cases e:i=j
 ·subst e;rw[aj rfl,aj (by simp;exact hj),aj rfl]
 ·rw[ah e,oe,od,aj hj,ah (fun h=>e h.symm)];simp[Nat.mod_one]
theorem EW(A:World)(n i j:Nat):(A.alloc (.cells ((madeCells #[.int .i64 0] n).setIfInBounds i (.int .i64 1)) 3)).frozen? ⟨A.heap.size,j,none⟩=false:=by
 have hh:=heap_alloc_new A (.cells ((madeCells #[.int .i64 0] n).setIfInBounds i (.int .i64 1)) 3);simp only[World.frozen?];rw[hh];simp
theorem mS{W W':World}{a:Nat}{v:Value}(h:W.cell? ⟨a,0,none⟩=some v)(hk:a<W.heap.size->W'.heap[a]?=W.heap[a]?):W'.cell? ⟨a,0,none⟩=some v:=by
 have hl:a<W.heap.size:=by
  obtain⟨o,ho,_⟩:=cells_of_cell h;exact(dz.1 ho).1
 exact(World.cell?_of_block (a:=⟨a,0,none⟩) (hk hl)).trans h
theorem JX(l n i bn bi:Nat)(hin:i<n)(hn:n<=4)(m:Nat)(J Jx:List (List Int)->World->Prop)(W:World)(hbi:bi<W.heap.size)(hbn:bn<W.heap.size)(hJb:∀pre A B,J pre A->Below W.heap.size A B->J pre B)
  (hcap:∀pre A,J pre A->A.cell? ⟨bn,0,none⟩=some (.int .i64 n)/\A.cell? ⟨bi,0,none⟩=some (.int .i64 i))
  (hY:∀m pre p bv W1,W.heap.size<=bv->VC n bv (sv n i p) W1->J pre W1->p.length=i->(∀x∈p,x.natAbs<=1)->YieldAt Fence.wide m Tryz.prog l #[.slice (some ⟨bv,0,none⟩) n n] W1 fun e W'=>(e= .returned (.bool true)/\(∀k,W.heap.size<=k->k<W1.heap.size->W'.heap[k]?=W1.heap[k]?)/\J (pre++[sv n i p]) W')\/(e= .returned (.bool false)/\Jx (pre++[sv n i p]) W'))
  (hJ:J [] W):
  CallsIn Fence.wide m Tryz.prog 212 #[.func (.yield l) #[] #[],.pointer (some ⟨bn,0,none⟩),.pointer (some ⟨bi,0,none⟩)] W fun e W'=>(∃v,e= .returned v)/\(J (exs n i i []) W'\/∃q,q<+:exs n i i []/\Jx q W'):=by
 obtain⟨c1,c2⟩:=hcap _ _ hJ;have hi0:(0:Int)<=(i:Int):=by omega
 have hin':(i:Int)<(n:Int):=by omega
 have hn0:(0:Int)<=(n:Int):=by omega
 have hn4:(n:Int)<=4:=by omega
 have hmk:=fun w=>E0 n aa w;have hio:∀(o o':Array Value) (t t':TypeId),IO' (((W.alloc (.cells o t)).alloc (.cells (madeCells #[.int .i64 0] n) 3)).alloc (.cells o' t')) (W.heap.size+1) (List.replicate n 0):=fun o o' t t'=>by
  have h1:=IO'.made (W.alloc (.cells o t)) n;rw[World.size_alloc]at h1;have hh:=Below.heap_alloc ((W.alloc (.cells o t)).alloc (.cells (madeCells #[.int .i64 0] n) 3)) (.cells o' t') (W.heap.size+1) aU;exact⟨by simp,fun k z hz=>(World.cell?_of_block (a:=⟨W.heap.size+1,k,none⟩) hh).trans (h1.c k z hz),fun k=>(frozen?_of_block hh).trans (h1.fr k)⟩
 have hst:=fun o o' t t'=>(hio o o' t t').c i 0 (by rw[oY,aj hin]);have hsf:=fun o o' t t'=>(hio o o' t t').fr i;have hs4:∀(a b c:Obj) (v:Value) (t:TypeId),((((W.alloc a).alloc b).alloc c).alloc (.cells #[v] t)).cell? ⟨W.heap.size+1+1+1,0,none⟩=some v:=fun a b c v t=>by
  have:=iu (((W.alloc a).alloc b).alloc c) v t;rwa[World.size_alloc,World.size_alloc,World.size_alloc]at this
 have hs5:∀(a b c:Obj) (v:Value) (t:TypeId),((((W.alloc a).alloc b).alloc c).alloc (.cells #[v] t)).frozen? ⟨W.heap.size+1+1+1,0,none⟩=false:=fun a b c v t=>by
  have:=Af (((W.alloc a).alloc b).alloc c) v t;rwa[World.size_alloc,World.size_alloc,World.size_alloc]at this
 refine callsIn_of_wp Tryz.func212 rfl trivial ?_ rfl;simp only[Tryz.ntmps212,fY,dh,en,Nat.reduceAdd,Nat.reduceSub,qx,qw,qu,qt,cT,jk]
 gi_wp2
 refine⟨trivial,fun h=>(by cases h),?_⟩;have hC0:VC n (W.heap.size+1) ((List.replicate n (0:Int)).set i 1) ((W.alloc (.cells #[.func (.yield l) #[] #[]] 221)).alloc (.cells ((madeCells #[.int .i64 0] n).setIfInBounds i (.int .i64 1)) 3)):=by
  have hz:(W.alloc (.cells #[.func (.yield l) #[] #[]] 221)).heap.size=W.heap.size+1:=World.size_alloc ..;refine⟨by rw[dc,ji],fun j z hj=>?_,fun j _=>?_⟩
  ·have h1:=Ke (W.alloc (.cells #[.func (.yield l) #[] #[]] 221)) n i j;rw[hz]at h1;rw[List.getElem?_set,oY,ji]at hj;by_cases e:i=j
   ·subst e;rw[aj rfl,aj hin]at hj;cases hj;have:=h1 hin;rwa[aj rfl]at this
   ·rw[ah e]at hj;split at hj
    ·next hl=>
     cases hj;have:=h1 hl;rwa[ah (fun e2=>e e2.symm)]at this
    ·cases hj
  ·have:=EW (W.alloc (.cells #[.func (.yield l) #[] #[]] 221)) n i j;rwa[hz]at this
 have hVA:∀{A:World} (o:Obj) {C:List Int},VC n (W.heap.size+1) C A->VC n (W.heap.size+1) C (A.alloc o):=fun {A} o {C} h=>by
  refine⟨h.len,fun j z hj=>eW o (h.cell j z hj),fun j hj=>?_⟩;obtain⟨z,hz⟩:=get_some (m:=C) (k:=j) (by rw[h.len];exact hj);exact(Fo o (h.cell j z hz)).trans (h.fz j hj)
 have hV4:=hVA (.cells #[.func (.func 213) #[] #[.pointer (some ⟨bi,0,none⟩),.pointer (some ⟨W.heap.size,0,none⟩),.pointer (some ⟨W.heap.size+1+1,0,none⟩),.pointer (some ⟨W.heap.size+1+1+1,0,none⟩)]] 110) (hVA (.cells #[.slice (some ⟨W.heap.size+1,0,none⟩) n n] 40) hC0);have hB4:Below W.heap.size W ((((W.alloc (.cells #[.func (.yield l) #[] #[]] 221)).alloc (.cells ((madeCells #[.int .i64 0] n).setIfInBounds i (.int .i64 1)) 3)).alloc (.cells #[.slice (some ⟨W.heap.size+1,0,none⟩) n n] 40)).alloc (.cells #[.func (.func 213) #[] #[.pointer (some ⟨bi,0,none⟩),.pointer (some ⟨W.heap.size,0,none⟩),.pointer (some ⟨W.heap.size+1+1,0,none⟩),.pointer (some ⟨W.heap.size+1+1+1,0,none⟩)]] 110)):=by exact bel
 have hE4:EC l n i bi W.heap.size (W.heap.size+1+1) (W.heap.size+1+1+1) (W.heap.size+1) ((((W.alloc (.cells #[.func (.yield l) #[] #[]] 221)).alloc (.cells ((madeCells #[.int .i64 0] n).setIfInBounds i (.int .i64 1)) 3)).alloc (.cells #[.slice (some ⟨W.heap.size+1,0,none⟩) n n] 40)).alloc (.cells #[.func (.func 213) #[] #[.pointer (some ⟨bi,0,none⟩),.pointer (some ⟨W.heap.size,0,none⟩),.pointer (some ⟨W.heap.size+1+1,0,none⟩),.pointer (some ⟨W.heap.size+1+1+1,0,none⟩)]] 110)):=by
  refine⟨(hB4.cell (p:=⟨bi,0,none⟩) hbi).trans c2,eW _ (eW _ (eW _ (iu W _ _))),eW _ ?_,hs4 _ _ _ _ _,by omega,by omega,by omega,by omega⟩;have:=iu ((W.alloc (.cells #[.func (.yield l) #[] #[]] 221)).alloc (.cells ((madeCells #[.int .i64 0] n).setIfInBounds i (.int .i64 1)) 3)) (.slice (some ⟨W.heap.size+1,0,none⟩) n n) 40;rwa[World.size_alloc,World.size_alloc]at this
 have ix:=Fp l n i bi W.heap.size (W.heap.size+1+1) (W.heap.size+1+1+1) (W.heap.size+1) hin hn J Jx (fun pre A j v h=>hJb pre _ _ h ((Below.refl _ A).setCell (p:=⟨W.heap.size+1,j,none⟩) (lx _) v)) (fun m pre p A hE hV hj h1 h2=>?_) i 0 aa (m-1) [] ((List.replicate n (0:Int)).set i 1) [] _ rfl (fun x hx=>by cases hx) rfl (by
  rw[List.drop_set,ah (Nat.lt_irrefl i),fE,List.drop_replicate,show n-i=n-i-1+1 by omega,xp];rfl) hE4 hV4 (hJb _ _ _ hJ hB4)
 ·refine ix.mono ?_;clear ix hE4 hV4 hB4 hVA hC0 hs4 hs5 hst hsf hio hmk;rintro e W3 (⟨rfl,C3,_,_,_,_,hJ3⟩|⟨rfl,q,hq,hJx⟩)
  ·gi_wp2
   go_end0
   exact⟨⟨_,rfl⟩,.inl hJ3⟩
  ·gi_wp2
   go_end0
   exact⟨⟨_,rfl⟩,.inr ⟨q,hq,hJx⟩⟩
 ·refine(hY m pre p (W.heap.size+1) A aa hV hj h1 h2).mono ?_;rintro e A' (⟨rfl,k1,k2⟩|⟨rfl,k2⟩)
  ·obtain⟨d1,d2,d3,d4,d5,d6,d7,d8⟩:=hE;refine .inl ⟨rfl,⟨(hcap _ _ k2).2,mS d2 (fun h=>k1 _ aa h),mS d3 (fun h=>k1 _ aa h),mS d4 (fun h=>k1 _ aa h),d5,d6,d7,d8⟩,?_,k2⟩;obtain⟨z0,hz0⟩:=get_some (m:=sv n i p) (k:=0) (by rw[hV.len];omega);obtain⟨o,ho,_⟩:=cells_of_cell (hV.cell 0 z0 hz0);have hlt:W.heap.size+1<A.heap.size:=(dz.1 ho).1;have hb:=k1 (W.heap.size+1) aa hlt;exact⟨hV.len,fun j z hj=>(World.cell?_of_block (a:=⟨W.heap.size+1,j,none⟩) hb).trans (hV.cell j z hj),fun j hj=>(World.frozen?_of_block (a:=⟨W.heap.size+1,j,none⟩) hb).trans (hV.fz j hj)⟩
  ·exact .inr ⟨rfl,k2⟩
end DW
end
section
open Go.RowKit
namespace DW
def Lw{α:Type}(w:World)(I:List α->World->Prop)(Ix:Code->List α->World->Prop)(xs:List α)(W:World):Exit->Act->World->Prop
 | .normal,_,W'=>(∀k,w.heap.size<=k->k<W.heap.size->W'.heap[k]?=W.heap[k]?)/\I xs W'
 | .ret,_,W'=>(∀k,w.heap.size<=k->k<w.heap.size+2->W'.heap[k]?=W.heap[k]?)/\Ix .ret xs W'
 | .exit id,_,W'=>(∀k,w.heap.size<=k->k<w.heap.size+2->W'.heap[k]?=W.heap[k]?)/\Ix (.exit id) xs W'
 | .goto t,_,W'=>(∀k,w.heap.size<=k->k<w.heap.size+2->W'.heap[k]?=W.heap[k]?)/\Ix (.goto t) xs W'
 | .panic _,_,_=>False
 | .outgrown,_,_=>False
def Bi{α:Type}(P:Program)(gf:Nat)(lb:Array Value)(Cap:World->Prop)(V:Nat->α->Array Value->World->Prop)(xs:List α):Prop:=
 ∀(m l:Nat) (J Jx:List α->World->Prop) (W:World),(∀pre A B,J pre A->Below W.heap.size A B->J pre B)->(∀pre A,J pre A->Cap A)->
  (∀m pre x args W1,V W.heap.size x args W1->J pre W1->YieldAt Fence.wide m P l args W1 fun e W'=>(e= .returned (.bool true)/\(∀k,W.heap.size<=k->k<W1.heap.size->W'.heap[k]?=W1.heap[k]?)/\J (pre++[x]) W')\/(e= .returned (.bool false)/\Jx (pre++[x]) W'))->
  J [] W->CallsIn Fence.wide m P gf (#[.func (.yield l) #[] #[]]++lb) W fun e W'=>(∃v,e= .returned v)/\(J xs W'\/∃q,q<+:xs/\Jx q W')
variable {m : Nat} {P : Program}
theorem Lu{α:Type}{g:Operand}{ps:Array Tmp}{assign body:Code}{Q:Exit->Act->World->Prop}{a:Act}{w:World}{gf:Nat}{lb:Array Value}(hg:a.eval g= .func (.func gf) #[] lb)(eg:∀args w,(callFunc gf args).run P w= .ok (.enter gf args) w)
  {Cap:World->Prop} {V:Nat->α->Array Value->World->Prop} {xs:List α} (hseq:Bi P gf lb Cap V xs) (hps:∀n x args W,V n x args W->args.size=ps.size) (hVs:∀n x args A B,V n x args A->(∀k,n<=k->B.heap[k]?=A.heap[k]?)->V n x args B)
  (I:List α->World->Prop) (Ix:Code->List α->World->Prop) (hI:∀pre A B,I pre A->Below w.heap.size A B->I pre B) (hIx:∀c pre A r o,Ix c pre A->A.heap[w.heap.size+1]?=some (.loop r)->Ix c pre (A.putObj (w.heap.size+1) (.loop o))) (hcap:∀pre A,I pre A->Cap A) (h0:I [] w) (a₁:Array Value->Act)
  (hassign:∀(m:Nat) (args:Array Value) (W:World) (K:Act->World->Prop),args.size=ps.size->K (a₁ args) W->assign.wpIn (Fence.wide.inRound (w.heap.size+1)) m P (Exit.then K (fun _ _ _=>False)) {tmps:=(ps.zip args).foldl (fun t (p,v)=>t.setIfInBounds p v) a.tmps,defers:=[]} W)
  (hbody:∀(m:Nat) (pre:List α) (x:α) (args:Array Value) (W:World),I pre W->V (w.heap.size+2) x args W->w.heap.size+2<=W.heap.size->body.wpIn (Fence.wide.inRound (w.heap.size+1)) m P (Lw w I Ix (pre++[x]) W) (a₁ args) W)
  (hdone:∀(W:World),I xs W->W.heap[w.heap.size]?=some (.deferred (some []))->Q .normal {a with defers:={target:= .collected w.heap.size,args:= #[]}::a.defers} W)
  (hstop:∀(c:Code) (q:List α) (W:World),q<+:xs->Ix c q W->W.heap[w.heap.size]?=some (.deferred (some []))->c.wpIn Fence.wide m P Q {a with defers:={target:= .collected w.heap.size,args:= #[]}::a.defers} W):
  (Code.rangeFunc g ps assign body).wpIn Fence.wide m P Q a w:=by
 refine wpIn_rangeFunc ?_;intro fn hfn;rw[show Fence.wide.round=none from rfl];obtain⟨rec,hrec⟩:∃rec:LoopState->Option Code->Loop,rec=fun st pe=>{state:=st,pending:=pe,fn,tmps:=a.tmps,params:=ps,assign,body,defers:=w.heap.size}:=⟨_,rfl⟩;obtain⟨W1,hW1⟩:∃W1,(w.alloc (.deferred (some []))).alloc (.loop (rec .ready none))=W1:=⟨_,rfl⟩;have hS1:W1.heap.size=w.heap.size+2:=by rw[<-hW1,World.size_alloc,World.size_alloc]
 have hL1:W1.heap[w.heap.size+1]?=some (.loop (rec .ready none)):=by
  rw[<-hW1];have:=World.alloc_heap_new (w.alloc (.deferred (some []))) (.loop (rec .ready none));rwa[World.size_alloc]at this
 have hK1:W1.heap[w.heap.size]?=some (.deferred (some [])):=by
  rw[<-hW1];exact(Below.heap_alloc _ _ _ aU).trans (World.alloc_heap_new w _)
 have hI1:I [] W1:=hI _ _ _ h0 (by
  rw[<-hW1];exact((Below.refl _ w).alloc (af _) _).alloc aU _)
 have hP:∀(A:World) (o:Obj),Below w.heap.size A (A.putObj (w.heap.size+1) o):=fun A o=>
  ⟨rfl,rfl,rfl,by simp,fun k hk=>World.putObj_heap_other aa⟩
 refine⟨w.heap.size+1,[{target:= .collected w.heap.size,args:= #[]}],W1,{target:= .fn (.func gf) lb,args:= #[.func (.yield (w.heap.size+1)) #[] #[]]},W1,gf,
  #[.func (.yield (w.heap.size+1)) #[] #[]]++lb,W1,?_,?_,?_,?_,fun h=>(by cases h),?_⟩
 ·rw[<-hW1,hrec];exact run_enterLoop_outer _ _ _ _ _
 ·simp only[resolve,hg];simp[go_sem]
 ·intro f' hf';trivial
 ·simp[invoke,go_sem,eg]
 ·refine (hseq (m - 1) (w.heap.size + 1)
   (fun pre W=>I pre W/\W.heap[w.heap.size+1]?=some (.loop (rec .ready none))/\W.heap[w.heap.size]?=some (.deferred (some [])))
   (fun pre W=>∃c,Ix c pre W/\W.heap[w.heap.size+1]?=some (.loop (rec .done (some c)))/\W.heap[w.heap.size]?=some (.deferred (some [])))
   W1 (fun pre A B ⟨j1,j2,j3⟩ hb=>⟨hI _ _ _ j1 (hb.mono aa),(hb.block _ aa).trans j2,(hb.block _ aa).trans j3⟩) (fun pre A h=>hcap pre A h.1) ?_ ⟨hI1,hL1,hK1⟩).mono ?_
  ·rintro m' pre x args W hV ⟨hi,hl,hk⟩;rw[hS1]at hV;have hlt:w.heap.size+1<W.heap.size:=(dz.1 hl).1;have hy:=run_yield (P:=P) (args:=args) hl (by rw[hrec];exact hps _ _ _ _ hV);rw[hrec]at hy;refine⟨fn,_,assign,body,hy,roundIn_of_wpIn hfn (hassign _ args W _ (hps _ _ _ _ hV) ⟨_,run_beginRound hl (by rw[hrec]),?_⟩)⟩;obtain⟨Wb,hWb⟩:∃Wb,Wb=W.putObj (w.heap.size+1) (.loop {rec .ready none with state:= .busy}):=⟨_,rfl⟩;have hSb:Wb.heap.size=W.heap.size:=by rw[hWb];simp
   have hl2:Wb.heap[w.heap.size+1]?=some (.loop {rec .ready none with state:= .busy}):=by rw[hWb];exact World.putObj_heap_same hlt
   have hk2:Wb.heap[w.heap.size]?=some (.deferred (some [])):=by rw[hWb];exact(World.putObj_heap_other aa).trans hk
   have hot:∀k,w.heap.size+2<=k->Wb.heap[k]?=W.heap[k]?:=fun k h=>by rw[hWb];exact World.putObj_heap_other aa
   have hib:I pre Wb:=hI _ _ _ hi (by rw[hWb];exact hP W _);rw[<-hWb];refine wpIn_mono (hbody _ pre x args Wb hib (hVs _ _ _ _ _ hV hot) aa) ?_
   have fin : ∀ (jump : Option Code) (W3 : World), W3.heap[w.heap.size + 1]? = Wb.heap[w.heap.size + 1]? -> W3.heap[w.heap.size]? = Wb.heap[w.heap.size]? ->
       (Instr.endRound (w.heap.size+1) jump).run P W3= .ok (.bool jump.isNone) (W3.putObj (w.heap.size+1) (.loop (rec (if jump.isNone then .ready else .done) jump)))/\
       W3.heap[w.heap.size+1]?=some (.loop {rec .ready none with state:= .busy})/\
       (W3.putObj (w.heap.size+1) (.loop (rec (if jump.isNone then .ready else .done) jump))).heap[w.heap.size+1]?=some (.loop (rec (if jump.isNone then .ready else .done) jump))/\
       (W3.putObj (w.heap.size+1) (.loop (rec (if jump.isNone then .ready else .done) jump))).heap[w.heap.size]?=some (.deferred (some [])):=fun jump W3 e1 e2=>by
    have hl3:=e1.trans hl2;have hk3:=e2.trans hk2;have:=run_endRound (P:=P) jump hl3;rw[hrec]at this⊢;exact⟨this,by rw[hrec]at hl3;exact hl3,World.putObj_heap_same (dz.1 hl3).1,(World.putObj_heap_other aa).trans hk3⟩
   rintro e a3 W3 hp
   cases e with
   |normal=>
    obtain⟨hk3,hi3⟩:=hp;obtain⟨hr,hl3,hl4,hk4⟩:=fin none W3 (hk3 _ aa aa) (hk3 _ aa aa);refine⟨_,_,hr, .inl ⟨rfl,fun k h1 h2=>?_,hI _ _ _ hi3 (hP W3 _),hl4,hk4⟩⟩;rw[hS1]at h1;exact(World.putObj_heap_other aa).trans ((hk3 k aa aa).trans (hot k h1))
   |ret=>
    obtain⟨hk3,hi3⟩:=hp;obtain⟨hr,hl3,hl4,hk4⟩:=fin (some .ret) W3 (hk3 _ aa aa) (hk3 _ aa aa);exact⟨_,_,hr, .inr ⟨rfl, .ret,hIx _ _ _ _ _ hi3 hl3,hl4,hk4⟩⟩
   |exit id=>
    obtain⟨hk3,hi3⟩:=hp;obtain⟨hr,hl3,hl4,hk4⟩:=fin (some (.exit id)) W3 (hk3 _ aa aa) (hk3 _ aa aa);exact⟨_,_,hr, .inr ⟨rfl, .exit id,hIx _ _ _ _ _ hi3 hl3,hl4,hk4⟩⟩
   |goto t=>
    obtain⟨hk3,hi3⟩:=hp;obtain⟨hr,hl3,hl4,hk4⟩:=fin (some (.goto t)) W3 (hk3 _ aa aa) (hk3 _ aa aa);exact⟨_,_,hr, .inr ⟨rfl, .goto t,hIx _ _ _ _ _ hi3 hl3,hl4,hk4⟩⟩
   |panic ch=>exact hp.elim
   |outgrown=>exact hp.elim
  ·rintro e W2 ⟨⟨v,rfl⟩,(⟨hi,hl,hk⟩|⟨q,hq,c,hi,hl,hk⟩)⟩
   ·exact⟨none,_,by have:=run_endLoop (P:=P) hl (by rw[hrec];simp);rw[hrec]at this;exact this,hdone _ (hI _ _ _ hi (hP W2 _)) ((World.putObj_heap_other aa).trans hk)⟩
   ·exact⟨some c,_,by have:=run_endLoop (P:=P) hl (by rw[hrec];simp);rw[hrec]at this;exact this,hstop c q _ hq (hIx _ _ _ _ _ hi hl) ((World.putObj_heap_other aa).trans hk)⟩
end DW
end
end Go.Proofs.YtcgjmdpcplhanaaGreat
