/- Lemmas for the law: E4 E5 E6 -/
import Derived.Test.YtcgjmdpcplhanaaGreatZg3
namespace Go.Proofs.YtcgjmdpcplhanaaGreat
section
theorem zb14{p:Prop}(h:p:=by(first|(apply Ii;(exact rfl);(focus((apply au;(conv=>lhs;whnf);(first|done|exact rfl))));(focus((apply au;(conv=>lhs;whnf);(first|done|exact rfl))));(omega))|(apply cg;(exact rfl);(focus((apply au;(conv=>lhs;whnf);(first|done|exact rfl))));(focus((apply au;(conv=>lhs;whnf);(first|done|exact rfl))));(exact rfl)))):p:=h
theorem zs68{p q:Prop}(h:q)(f:Wq q->p:=by(intro hW;(refine aL1 rfl rfl rfl (by(first|(apply Ib;(exact rfl);(focus((apply au;(conv=>lhs;whnf);(first|done|exact rfl))));(focus((apply au;(conv=>lhs;whnf);(first|done|exact rfl))));(omega))|(apply cg;(exact rfl);(focus((apply au;(conv=>lhs;whnf);(first|done|exact rfl))));(focus((apply au;(conv=>lhs;whnf);(first|done|exact rfl))));(exact rfl)))) ?_);exact hW.out)):p:=f ⟨h⟩
theorem zs66{p q:Prop}(h:q)(f:Wq q->p:=by(intro hW;(refine aL1 rfl rfl rfl (by(first|(apply sJ;(exact rfl);(focus((apply au;(conv=>lhs;whnf);(first|done|exact rfl))));(exact rfl);(focus((first|exact eR|exact eP|exact eQ|exact wd_pt|exact rfl)));(exact rfl);(kernel_rfl);(kernel_rfl))|(apply iQ;(exact rfl);(focus((apply au;(conv=>lhs;whnf);(first|done|exact rfl))));(focus((repeat(first|exact List.mem_cons_self|refine List.mem_cons_of_mem _ ?_))));(exact iq);(exact rfl);(exact rfl);(focus((first|exact eR|exact eP|exact eQ|exact wd_pt|exact rfl)));(exact rfl);(kernel_rfl);(kernel_rfl))|(apply jy;(exact rfl);(focus((apply au;(conv=>lhs;whnf);(first|done|exact rfl))));(focus((repeat(first|exact List.mem_cons_self|refine List.mem_cons_of_mem _ ?_))));(exact rfl);(focus((first|exact iq|(apply nK;assumption)|assumption|(apply get_map;exact hy h6)|exact rfl)));(exact rfl);(focus((first|exact eR|exact eP|exact eQ|exact wd_pt|exact rfl)));(exact rfl);(kernel_rfl);(kernel_rfl))|(apply jV;(exact rfl);(focus((apply au;(conv=>lhs;whnf);(first|done|exact rfl))));(focus((repeat(first|exact List.mem_cons_self|refine List.mem_cons_of_mem _ ?_))));(exact rfl);(focus(first|(apply dv;assumption)|exact rfl));(assumption);(kernel_rfl);(kernel_rfl)))) ?_);exact hW.out)):p:=f ⟨h⟩
theorem zs65{p q:Prop}(h:q)(f:Wq q->p:=by(intro hW;(refine aL1 rfl rfl rfl (by(first|(apply gu;(exact rfl);(focus((apply au;(conv=>lhs;whnf);(first|done|exact rfl))));(focus((apply au;(conv=>lhs;whnf);(first|done|exact rfl))));(kernel_rfl);(kernel_rfl);(omega);(focus((first|(apply get_map;exact hy h6)|(apply get_map;assumption)|(apply get_own;assumption)))))|(apply en;(exact rfl);(focus((apply au;(conv=>lhs;whnf);(first|done|exact rfl))));(focus((apply au;(conv=>lhs;whnf);(first|done|exact rfl))));(focus((repeat(first|exact List.mem_cons_self|refine List.mem_cons_of_mem _ ?_))));(kernel_rfl);(kernel_rfl);(focus(first|omega|(simp;omega)));(focus(first|(apply dv;assumption)|exact rfl))))) ?_);exact hW.out)):p:=f ⟨h⟩
theorem G1{p q:Prop}(h:q)(f:Wq q->p:=by(intro hW;((refine gar ?_;refine zs4 ?_;refine zs4 ?_;refine zs4 ?_;refine zs65 ?_;refine zs66 ?_;refine zs68 ?_;refine zs6 ?_;refine af ?_));exact hW.out)):p:=f ⟨h⟩
theorem sZ{p q:Prop}(h:q)(f:Wq q->p:=by(intro hW;(refine aL1 rfl rfl rfl (by(apply nT;(exact rfl);(exact gg))) ?_);exact hW.out)):p:=f ⟨h⟩
theorem bF{p q:Prop}(h:q)(f:Wq q->p:=by(intro hW;((refine gar ?_;refine sZ ?_;refine af ?_));exact hW.out)):p:=f ⟨h⟩
theorem zb5{p:Prop}(h:p:=by(first|(apply xG;(exact rfl);(focus((apply au;(conv=>lhs;whnf);(first|done|exact rfl))));(focus(first|exact rfl|(apply decide_eq_true;omega)|assumption|(simp;done)));(exact gg))|(apply xH;(exact rfl);(focus((apply au;(conv=>lhs;whnf);(first|done|exact rfl))));(focus(first|exact rfl|(apply decide_eq_false;omega)|assumption|(simp;done)));(focus((apply au;(conv=>lhs;whnf);(first|done|exact rfl)))))|(apply d_pick;(exact rfl);(focus((apply au;(conv=>lhs;whnf);(first|done|exact rfl))));(exact gg);(focus((apply au;(conv=>lhs;whnf);(first|done|exact rfl))));(exact rfl)))):p:=h
theorem gw{p q:Prop}(h:q)(f:Wq q->p:=by(intro hW;(refine aL1 rfl rfl rfl zb5 ?_);exact hW.out)):p:=f ⟨h⟩
theorem jG{p q:Prop}(h:q)(f:Wq q->p:=by(intro hW;((first|(refine aLs rfl rfl rfl rfl ?_ ?_;(focus(apply aJ;(conv=>lhs;whnf);(first|done|exact rfl|(apply aG;(first|(apply decide_eq_true;omega)|(apply decide_eq_false;omega)|assumption|(simp;done)))))))|refine aLw rfl rfl rfl rfl bp qw ?_));exact hW.out)):p:=f ⟨h⟩
theorem Av{p q:Prop}(h:q)(f:Wq q->p:=by(intro hW;((refine gar ?_;refine zs4 ?_;refine zs4 ?_;refine zs5 ?_;refine lO ?_;refine zs4 ?_;refine zs8 ?_;refine jG ?_;refine gw ?_;refine af ?_));exact hW.out)):p:=f ⟨h⟩
theorem oe{p q:Prop}(h:q)(f:Wq q->p:=by(intro hW;((first|refine cC rfl rfl rfl ae zb0 ae ae ?_|((try refine aB ?_);refine aL1 rfl rfl rfl zb0 ?_)));exact hW.out)):p:=f ⟨h⟩
theorem vH{p q:Prop}(h:q)(f:Wq q->p:=by(intro hW;((first|(apply ao 9;(focus kernel_rfl);(decide+kernel))|(apply ao 8;(focus kernel_rfl);(decide+kernel))|(apply ao 7;(focus kernel_rfl);(decide+kernel))|(apply ao 6;(focus kernel_rfl);(decide+kernel))|(apply ao 5;(focus kernel_rfl);(decide+kernel))|(apply ao 4;(focus kernel_rfl);(decide+kernel))|(apply ao 3;(focus kernel_rfl);(decide+kernel))|(apply ao 2;(focus kernel_rfl);(decide+kernel)));simp only[List.take_succ_cons,List.take_zero,List.drop_succ_cons,List.drop_zero]);exact hW.out)):p:=f ⟨h⟩
theorem od{p q:Prop}(h:q)(f:Wq q->p:=by(intro hW;(refine aL1 rfl rfl rfl zb14 ?_);exact hW.out)):p:=f ⟨h⟩
theorem vI{p q:Prop}(h:q)(f:Wq q->p:=by(intro hW;((first|refine cC rfl rfl rfl ae zb3 ae ae ?_|((try refine aB ?_);refine aL1 rfl rfl rfl zb3 ?_)));exact hW.out)):p:=f ⟨h⟩
theorem Aw{p q:Prop}(h:q)(f:Wq q->p:=by(intro hW;((refine gar ?_;refine zs4 ?_;refine zs5 ?_;refine zs19 ?_;refine zs6 ?_;refine af ?_));exact hW.out)):p:=f ⟨h⟩
theorem zW{p q:Prop}(h:q)(f:Wq q->p:=by(intro hW;((first|(apply ao 8;(focus kernel_rfl);(decide+kernel))|(apply ao 7;(focus kernel_rfl);(decide+kernel))|(apply ao 6;(focus kernel_rfl);(decide+kernel))|(apply ao 5;(focus kernel_rfl);(decide+kernel))|(apply ao 4;(focus kernel_rfl);(decide+kernel))|(apply ao 3;(focus kernel_rfl);(decide+kernel))|(apply ao 2;(focus kernel_rfl);(decide+kernel))|(apply ao 1;(focus kernel_rfl);(decide+kernel)));simp only[List.take_succ_cons,List.take_zero,List.drop_succ_cons,List.drop_zero]);exact hW.out)):p:=f ⟨h⟩
theorem vT{p:Prop}(h:p:=by(first|(apply cg;(exact rfl);(focus((apply au;(conv=>lhs;whnf);(first|done|exact rfl))));(focus((apply au;(conv=>lhs;whnf);(first|done|exact rfl))));(exact rfl))|(apply Ic;(exact rfl);(focus((apply au;(conv=>lhs;whnf);(first|done|exact rfl))));(focus((apply au;(conv=>lhs;whnf);(first|done|exact rfl))));(kernel_rfl)))):p:=h
theorem sY{p q:Prop}(h:q)(f:Wq q->p:=by(intro hW;((first|refine cC rfl rfl rfl ae vT ae ae ?_|((try refine aB ?_);refine aL1 rfl rfl rfl vT ?_)));exact hW.out)):p:=f ⟨h⟩
theorem G4{p q:Prop}(h:q)(f:Wq q->p:=by(intro hW;((refine zW ?_;refine aR ?_;refine aR ?_;refine vI ?_;refine oe ?_;refine aR ?_;refine aR ?_;refine vI ?_;refine oe ?_;refine sY ?_;refine cP ?_));exact hW.out)):p:=f ⟨h⟩
theorem zb59{p:Prop}(h:p:=by first|(apply ES;assumption)|exact Int.toNat_natCast _|exact rfl):p:=h
theorem zb52{p:Prop}(h:p:=by rw[List.take_append_of_le_length (by omega),List.take_of_length_le (by omega)];exact h):p:=h
theorem jH{p q:Prop}(h:q)(f:Wq q->p:=by(intro hW;((first|(refine aLs rfl rfl rfl rfl ?_ ?_;(focus(apply aJ;(conv=>lhs;whnf);(first|done|exact rfl|(apply aG;(first|(apply decide_eq_true;omega)|(apply decide_eq_false;omega)|assumption|(simp;done)))))))|refine aLw rfl rfl rfl rfl bp zb2 ?_));exact hW.out)):p:=f ⟨h⟩
theorem vG{p q:Prop}(h:q)(f:Wq q->p:=by(intro hW;((first|(refine aLs rfl rfl rfl rfl ?_ ?_;(focus(apply aJ;(conv=>lhs;whnf);(first|done|exact rfl|(apply aG;(first|(apply decide_eq_true;omega)|(apply decide_eq_false;omega)|assumption|(simp;done)))))))|refine aLw rfl rfl rfl rfl bp AJ ?_));exact hW.out)):p:=f ⟨h⟩
theorem G3{p q:Prop}(h:q)(f:Wq q->p:=by(intro hW;((refine gar ?_;refine zs4 ?_;refine zs4 ?_;refine zs5 ?_;refine lO ?_;refine zs4 ?_;refine zs8 ?_;refine zs8 ?_;refine jH ?_;refine vG ?_;refine gw ?_;refine zs4 ?_;refine zs8 ?_;refine jG ?_;refine gw ?_;refine af ?_));exact hW.out)):p:=f ⟨h⟩
theorem dB{p q:Prop}(h:q)(f:Wq q->p:=by(intro hW;(refine aL1 rfl rfl rfl zb4 ?_);exact hW.out)):p:=f ⟨h⟩
theorem G2{p q:Prop}(h:q)(f:Wq q->p:=by(intro hW;((refine gar ?_;refine zs4 ?_;refine zs4 ?_;refine dB ?_;refine aS ?_;refine zs4 ?_;refine zs68 ?_;refine zs6 ?_;refine af ?_));exact hW.out)):p:=f ⟨h⟩
theorem zb15{p:Prop}(h:p:=by(first|(apply Ie;(exact rfl);(focus((apply au;(conv=>lhs;whnf);(first|done|exact rfl))));(focus((apply au;(conv=>lhs;whnf);(first|done|exact rfl))));(omega))|(apply cg;(exact rfl);(focus((apply au;(conv=>lhs;whnf);(first|done|exact rfl))));(focus((apply au;(conv=>lhs;whnf);(first|done|exact rfl))));(exact rfl)))):p:=h
theorem GZ{p q:Prop}(h:q)(f:Wq q->p:=by(intro hW;((refine gar ?_;refine zs4 ?_;refine zs4 ?_;refine zs4 ?_;refine zs4 ?_;refine od ?_;refine dB ?_;refine aS ?_;refine od ?_;refine zs6 ?_;refine af ?_));exact hW.out)):p:=f ⟨h⟩
theorem zs70{p q:Prop}(h:q)(f:Wq q->p:=by(intro hW;((refine kg (i:=i+k) rfl rfl rfl bz bz aZ ae lR ae cE ae aa lS ?_));exact hW.out)):p:=f ⟨h⟩
theorem GY{p q:Prop}(h:q)(f:Wq q->p:=by(intro hW;((refine gar ?_;refine zs4 ?_;refine zs4 ?_;refine zs4 ?_;refine od ?_;refine zs4 ?_;refine zX ?_;refine dB ?_;refine zs70 ?_;refine af ?_));exact hW.out)):p:=f ⟨h⟩
theorem zV{p q:Prop}(h:q)(f:Wq q->p:=by(intro hW;((first|(apply ao 11;(focus kernel_rfl);(decide+kernel))|(apply ao 10;(focus kernel_rfl);(decide+kernel))|(apply ao 9;(focus kernel_rfl);(decide+kernel))|(apply ao 8;(focus kernel_rfl);(decide+kernel))|(apply ao 7;(focus kernel_rfl);(decide+kernel))|(apply ao 6;(focus kernel_rfl);(decide+kernel))|(apply ao 5;(focus kernel_rfl);(decide+kernel))|(apply ao 4;(focus kernel_rfl);(decide+kernel)));simp only[List.take_succ_cons,List.take_zero,List.drop_succ_cons,List.drop_zero]);exact hW.out)):p:=f ⟨h⟩
theorem zs54{p q:Prop}(h:q)(f:Wq q->p:=by(intro hW;(refine aL1 rfl rfl rfl vT ?_);exact hW.out)):p:=f ⟨h⟩
theorem py{p q:Prop}(h:q)(f:Wq q->p:=by(intro hW;((refine gar ?_;refine zs4 ?_;refine zs5 ?_;refine zs4 ?_;refine zs5 ?_;refine zs54 ?_;refine af ?_));exact hW.out)):p:=f ⟨h⟩
theorem aK{p q:Prop}(h:q)(f:Wq q->p:=by(intro hW;((refine gar ?_;refine zs4 ?_;refine zs4 ?_;refine zs5 ?_;refine lO ?_;refine af ?_));exact hW.out)):p:=f ⟨h⟩
end
section
open Go.RowKit
namespace DW
theorem KR{a b:Nat}(h:hd a=hd b):a=b:=by rw[<-eZ a,<-eZ b,h]
theorem uV{a b:Nat}(h:(hd a).length<(hd b).length):a<b:=by
 have:=Dg.fL (b:=65536) (by decide) (Dg.bI (by decide) a).1 (Dg.bI (by decide) b).1 h;rwa[(Dg.bI (by decide) a).2,(Dg.bI (by decide) b).2]at this
theorem DQ{a b i:Nat}(hi:i<(hd a).length)(hl:(hd a).length=(hd b).length)(hd':(hd a).drop (i+1)=(hd b).drop (i+1))(h:(hd a).getD i 0<(hd b).getD i 0):a<b:=by
 have:=Dg.lex_lt (fj a) hi hl hd' h;rwa[eZ,eZ]at this
theorem zt{a i:Nat}(hi:i<(hd a).length):(hd a).drop i=(hd a).getD i 0::(hd a).drop (i+1):=by
 rw[List.drop_eq_getElem_cons hi,List.getD_eq_getElem?_getD,List.getElem?_eq_getElem hi];rfl
theorem kE{a i:Nat}(hi:i<(hd a).length):(hd a)[i]?=some ((hd a).getD i 0):=lD hi
theorem pX{l:List Nat}{i:Nat}(h:l.length<=i):l.getD i 0=0:=by rw[List.getD_eq_getElem?_getD,List.getElem?_eq_none h];rfl
set_option maxRecDepth 20000
set_option maxHeartbeats 1000000
theorem Dt(a b:Nat)(ha:(hd a).length<=900000000)(hb:(hd b).length<=900000000):Fn Tryz.prog 153 [dN (hd a),dN (hd b)] (.sc (.bool (decide (a<b)))):=by
 refine aP Tryz.func153 aa rfl rfl rfl fun X0=>?_;simp only[aD];by_cases hl:(hd a).length=(hd b).length
 ·(repeat(first|refine gk fun K hK=>?_|refine zs2 ?_));refine bF ?_;(repeat(first|refine gk fun K hK=>?_|refine zs2 ?_));refine py ?_;(repeat(first|refine gk fun K hK=>?_|refine zs2 ?_))
  refine az ?_
  (repeat(first|refine gk fun K hK=>?_|refine zs2 ?_));refine Aw ?_;(repeat(first|refine gk fun K hK=>?_|refine zs2 ?_))
  (refine ak (ai (sl':=[(0,dN (hd a)),(1,dN (hd b)),(5,zI ((hd a).length-1))]) (ow':=[]) an aw) ?_)
  refine aE (fun r s=>r<=(hd a).length/\(hd a).drop r=(hd b).drop r/\s=⟨[(0,dN (hd a)),(1,dN (hd b)),(5,zI (r-1))],[]⟩) (m:=(hd a).length) ⟨Nat.le_refl _,by rw[List.drop_length,hl,List.drop_length],rfl⟩ fun r s hs=>?_;obtain⟨h1,h2,rfl⟩:=hs;by_cases hr:r=0
  ·have e:a=b:=KR (by subst hr;simpa using h2)
   (repeat(first|refine gk fun K hK=>?_|refine zs2 ?_));refine eM ?_;(repeat(first|refine gk fun K hK=>?_|refine zs2 ?_))
   refine az ?_
   (repeat(first|refine gk fun K hK=>?_|refine zs2 ?_));refine bF ?_;(repeat(first|refine gk fun K hK=>?_|refine zs2 ?_))
   rw[show decide (a<b)=false from decide_eq_false (by omega)];exact⟨_,Sh.refl, .one (.tmp 4) _ rfl (.tmp 4 rfl)⟩
  ·obtain⟨i,rfl⟩:∃i,r=i+1:=⟨r-1,by omega⟩;have hi:i<(hd a).length:=by omega
   have hi':i<(hd b).length:=by omega
   have hx:=kE hi;have hy:=kE hi';have hc:((i+1:Nat):Int)-1=(i:Int):=by omega
   have k1:=zt hi;have k2:=zt hi';have k3:(hd a).getD i 0<(hd b).getD i 0->a<b:=DQ hi hl h2;have k4:(hd b).getD i 0<(hd a).getD i 0->b<a:=DQ hi' hl.symm h2.symm;obtain⟨x,hxd⟩:∃x,x=(hd a).getD i 0:=⟨_,rfl⟩;obtain⟨y,hyd⟩:∃y,y=(hd b).getD i 0:=⟨_,rfl⟩;rw[<-hxd]at hx k1 k3 k4;rw[<-hyd]at hy k2 k3 k4;by_cases hxy:x=y
   ·have k5:(hd a).drop i=(hd b).drop i:=by rw[k1,k2,hxy,h2]
    (repeat(first|refine gk fun K hK=>?_|refine zs2 ?_));refine eM ?_;(repeat(first|refine gk fun K hK=>?_|refine zs2 ?_))
    refine av ?_
    (repeat(first|refine gk fun K hK=>?_|refine zs2 ?_));refine G4 ?_;(repeat(first|refine gk fun K hK=>?_|refine zs2 ?_))
    refine az ?_
    (repeat(first|refine gk fun K hK=>?_|refine zs2 ?_));refine pA ?_;(repeat(first|refine gk fun K hK=>?_|refine zs2 ?_))
    simp only[nx,inB];exact⟨i,_,by omega,(ai (sl':=[(0,dN (hd a)),(1,dN (hd b)),(5,zI ((i:Int)-1))]) (ow':=[]) an aw),by omega,k5,rfl⟩
   ·have k5 : decide ((x : Int) < (y : Int)) = decide (a < b) := by
     by_cases h:x<y
     ·rw[decide_eq_true (by omega),decide_eq_true (k3 h)]
     ·rw[decide_eq_false (by omega),decide_eq_false (by have:=k4 (by omega);omega)]
    (repeat(first|refine gk fun K hK=>?_|refine zs2 ?_));refine eM ?_;(repeat(first|refine gk fun K hK=>?_|refine zs2 ?_))
    refine av ?_
    (repeat(first|refine gk fun K hK=>?_|refine zs2 ?_));refine G4 ?_;(repeat(first|refine gk fun K hK=>?_|refine zs2 ?_))
    refine av ?_
    (repeat(first|refine gk fun K hK=>?_|refine zs2 ?_));(refine vH ?_;refine aR ?_;refine aR ?_;refine vI ?_;refine oe ?_;refine aR ?_;refine aR ?_;refine vI ?_;refine oe ?_;(first|refine cC rfl rfl rfl ae AJ ae ae ?_|((try refine aB ?_);refine aL1 rfl rfl rfl AJ ?_));refine ko ?_;refine cP ?_);(repeat(first|refine gk fun K hK=>?_|refine zs2 ?_))
    rw[<-k5];exact⟨_,Sh.refl, .one (.tmp 4) _ rfl (.tmp 4 rfl)⟩
 ·have k5 : decide (((hd a).length : Int) < ((hd b).length : Int)) = decide (a < b) := by
   by_cases h:(hd a).length<(hd b).length
   ·rw[decide_eq_true (by omega),decide_eq_true (uV h)]
   ·rw[decide_eq_false (by omega),decide_eq_false (by have:=uV (a:=b) (b:=a) (by omega);omega)]
  (repeat(first|refine gk fun K hK=>?_|refine zs2 ?_));refine bF ?_;(repeat(first|refine gk fun K hK=>?_|refine zs2 ?_));refine py ?_;(repeat(first|refine gk fun K hK=>?_|refine zs2 ?_))
  refine av ?_
  (repeat(first|refine gk fun K hK=>?_|refine zs2 ?_));(refine gar ?_;refine zs4 ?_;refine zs5 ?_;refine zs4 ?_;refine zs5 ?_;refine lO ?_;refine zs6 ?_;refine af ?_);(repeat(first|refine gk fun K hK=>?_|refine zs2 ?_))
  rw[<-k5];exact⟨_,Sh.refl, .one (.tmp 4) _ rfl (.tmp 4 rfl)⟩
theorem C3{a b o:List Nat}{i c:Nat}(hi:o.length=i)(h:Dg.vl 65536 o+c*65536^i=Dg.vl 65536 (a.take i)+Dg.vl 65536 (b.take i)):
  Dg.vl 65536 (o++[(c+a.getD i 0+b.getD i 0)%65536])+(c+a.getD i 0+b.getD i 0)/65536*65536^(i+1)=Dg.vl 65536 (a.take (i+1))+Dg.vl 65536 (b.take (i+1)):=by
 have:=Dg.ll (B:=65536) (a:=a) (b:=b) (o:=o++[0]) (i:=i) (c:=c) bH zb52;rw[show a.getD i 0+b.getD i 0+c=c+a.getD i 0+b.getD i 0 by omega,Dg.gQ bH,List.take_append_of_le_length (by omega),List.take_of_length_le (by omega)]at this;exact this
theorem yS(a b:Nat)(ha:(hd a).length<=400000000)(hb:(hd b).length<=400000000):Fn Tryz.prog 152 [dN (hd a),dN (hd b)] (dN (hd (a+b))):=by
 refine aP Tryz.func152 aa rfl rfl rfl fun X0=>?_;simp only[aD]
 (repeat(first|refine gk fun K hK=>?_|refine zs2 ?_));refine bK ?_;(repeat(first|refine gk fun K hK=>?_|refine zs2 ?_));refine bK ?_;(repeat(first|refine gk fun K hK=>?_|refine zs2 ?_));refine aH ?_;(repeat(first|refine gk fun K hK=>?_|refine zs2 ?_));refine aH ?_;(repeat(first|refine gk fun K hK=>?_|refine zs2 ?_))
 refine ak (cn (t:=5) (k:=5) (T:=3) (wd:=1) cr rfl rfl bD) ?_
 (refine ak (ai (sl':=[(0,dN (hd a)),(1,dN (hd b)),(5, .own 5),(6,zI 0),(7,zI 0)]) (ow':=[(5,⟨3,1,[]⟩)]) an aw) ?_)
 obtain⟨M,hM⟩:∃M,M=max (hd a).length (hd b).length:=⟨_,rfl⟩;refine aE (fun r s=>∃i o c,r=M+1-i/\o.length=i/\Dg.dig 65536 o/\c<=1/\(i<=M\/(i<=M+1/\c=0))/\Dg.vl 65536 o+c*65536^i=Dg.vl 65536 ((hd a).take i)+Dg.vl 65536 ((hd b).take i)/\s=⟨[(0,dN (hd a)),(1,dN (hd b)),(5, .own 5),(6,zI (c:Nat)),(7,zI (i:Nat))],[(5,⟨3,1,o.map hN⟩)]⟩) (m:=M+1) ⟨0,[],0,by omega,rfl,fun _ h=>(by cases h),by omega, .inl (by omega),by simp[Dg.vl],rfl⟩ fun r s hs=>?_;obtain⟨i,o,c,rfl,ho,hdo,hc,hiM,hv,rfl⟩:=hs;have STEP:=C3 (a:=hd a) (b:=hd b) ho hv;have hxl:(hd a).getD i 0<65536:=Dg.aY (fj a) (by decide) i;have hyl:(hd b).getD i 0<65536:=Dg.aY (fj b) (by decide) i;have hx:i<(hd a).length->(hd a)[i]?=some ((hd a).getD i 0):=kE;have hy:i<(hd b).length->(hd b)[i]?=some ((hd b).getD i 0):=kE;have hx0:(hd a).length<=i->(hd a).getD i 0=0:=pX;have hy0:(hd b).length<=i->(hd b).getD i 0=0:=pX;obtain⟨x,hxd⟩:∃x,x=(hd a).getD i 0:=⟨_,rfl⟩;obtain⟨y,hyd⟩:∃y,y=(hd b).getD i 0:=⟨_,rfl⟩;rw[<-hxd]at STEP hxl hx hx0;rw[<-hyd]at STEP hyl hy hy0;have hdig:=kO hdo (Nat.mod_lt (c+x+y) (by omega:0<65536));have hms:=kD o ((c+x+y)%65536);have hlen:(o++[(c+x+y)%65536]).length=i+1:=by simp[ho]
 have kx:(hd a).length<=M:=by omega
 have ky:(hd b).length<=M:=by omega
 have kM:M<=(hd a).length\/M<=(hd b).length:=by omega
 have kM2:M<=400000000:=by omega
 clear hM hxd hyd;by_cases hend:M<=i/\c=0
 ·obtain⟨h1,h2⟩:=hend;have e:Dg.vl 65536 o=a+b:=by
   subst h2;rw[List.take_of_length_le (by omega),List.take_of_length_le (by omega),eZ,eZ]at hv;omega
  have T:=rF (l:=o) (by omega) hdo e
  (repeat(first|refine gk fun K hK=>?_|refine zs2 ?_));refine G3 ?_;(repeat(first|refine gk fun K hK=>?_|refine zs2 ?_))
  refine az ?_
  (repeat(first|refine gk fun K hK=>?_|refine zs2 ?_))
  refine ak (aF (k:=5) aZ bB bA) ?_;refine kY ?_
  (repeat(first|refine gk fun K hK=>?_|refine zs2 ?_))
  exact⟨_,Sh.refl, .one (.tmp 4) _ rfl (.tmp 4 rfl)⟩
 ·have hcases:((i<(hd a).length)\/(i<(hd b).length/\(hd a).length<=i))\/(c>0/\(hd a).length<=i/\(hd b).length<=i):=by omega
  have hxe:i<(hd a).length\/((hd a).length<=i/\x=0):=by
   by_cases h:i<(hd a).length
   ·exact .inl h
   ·exact .inr ⟨by omega,hx0 (by omega)⟩
  have hye:i<(hd b).length\/((hd b).length<=i/\y=0):=by
   by_cases h:i<(hd b).length
   ·exact .inl h
   ·exact .inr ⟨by omega,hy0 (by omega)⟩
  rcases hcases with(h1|⟨h1,h2⟩)|⟨h1,h2,h3⟩;all_goals
   rcases hxe with h4|⟨h4,h5⟩;all_goals
    rcases hye with h6|⟨h6,h7⟩;all_goals
     first
      |(exfalso;omega;done)
      | ((repeat (first | refine gk fun K hK =>?_ | refine zs2 ?_)); refine G3 ?_; (repeat (first | refine gk fun K hK =>?_ | refine zs2 ?_))
         refine av ?_
         (repeat(first|refine gk fun K hK=>?_|refine zs2 ?_));refine aK ?_;(repeat(first|refine gk fun K hK=>?_|refine zs2 ?_))
         (first|(refine av ?_;(repeat(first|refine gk fun K hK=>?_|refine zs2 ?_));(refine gar ?_;refine zs4 ?_;refine zs4 ?_;refine zs4 ?_;(refine aL1 rfl rfl rfl (by(first|(apply gu;(exact rfl);(focus((apply au;(conv=>lhs;whnf);(first|done|exact rfl))));(focus((apply au;(conv=>lhs;whnf);(first|done|exact rfl))));(kernel_rfl);(kernel_rfl);(omega);(focus((first|(apply get_map;exact hx h4)|(apply get_map;assumption)|(apply get_own;assumption)))))|(apply en;(exact rfl);(focus((apply au;(conv=>lhs;whnf);(first|done|exact rfl))));(focus((apply au;(conv=>lhs;whnf);(first|done|exact rfl))));(focus((repeat(first|exact List.mem_cons_self|refine List.mem_cons_of_mem _ ?_))));(kernel_rfl);(kernel_rfl);(focus(first|omega|(simp;omega)));(focus(first|(apply dv;assumption)|exact rfl))))) ?_);(refine aL1 rfl rfl rfl (by(first|(apply sJ;(exact rfl);(focus((apply au;(conv=>lhs;whnf);(first|done|exact rfl))));(exact rfl);(focus((first|exact eR|exact eP|exact eQ|exact wd_pt|exact rfl)));(exact rfl);(kernel_rfl);(kernel_rfl))|(apply iQ;(exact rfl);(focus((apply au;(conv=>lhs;whnf);(first|done|exact rfl))));(focus((repeat(first|exact List.mem_cons_self|refine List.mem_cons_of_mem _ ?_))));(exact iq);(exact rfl);(exact rfl);(focus((first|exact eR|exact eP|exact eQ|exact wd_pt|exact rfl)));(exact rfl);(kernel_rfl);(kernel_rfl))|(apply jy;(exact rfl);(focus((apply au;(conv=>lhs;whnf);(first|done|exact rfl))));(focus((repeat(first|exact List.mem_cons_self|refine List.mem_cons_of_mem _ ?_))));(exact rfl);(focus((first|exact iq|(apply nK;assumption)|assumption|(apply get_map;exact hx h4)|exact rfl)));(exact rfl);(focus((first|exact eR|exact eP|exact eQ|exact wd_pt|exact rfl)));(exact rfl);(kernel_rfl);(kernel_rfl))|(apply jV;(exact rfl);(focus((apply au;(conv=>lhs;whnf);(first|done|exact rfl))));(focus((repeat(first|exact List.mem_cons_self|refine List.mem_cons_of_mem _ ?_))));(exact rfl);(focus(first|(apply dv;assumption)|exact rfl));(assumption);(kernel_rfl);(kernel_rfl)))) ?_);refine od ?_;refine zs6 ?_;refine af ?_);(repeat(first|refine gk fun K hK=>?_|refine zs2 ?_)))|(refine az ?_;(repeat(first|refine gk fun K hK=>?_|refine zs2 ?_))))
         (repeat(first|refine gk fun K hK=>?_|refine zs2 ?_));refine aK ?_;(repeat(first|refine gk fun K hK=>?_|refine zs2 ?_))
         (first|(refine av ?_;(repeat(first|refine gk fun K hK=>?_|refine zs2 ?_));(refine gar ?_;refine zs4 ?_;refine zs4 ?_;refine zs4 ?_;refine zs65 ?_;refine zs66 ?_;refine od ?_;refine zs6 ?_;refine af ?_);(repeat(first|refine gk fun K hK=>?_|refine zs2 ?_)))|(refine az ?_;(repeat(first|refine gk fun K hK=>?_|refine zs2 ?_))))
         (refine ak (ai (sl':=[(0,dN (hd a)),(1,dN (hd b)),(5, .own 5),(6,zI ((c+x+y:Nat):Int)),(7,zI (i:Nat))]) (ow':=[(5,⟨3,1,o.map hN⟩)]) an aw) ?_)
         (repeat(first|refine gk fun K hK=>?_|refine zs2 ?_));(refine gar ?_;refine zs4 ?_;refine zs4 ?_;refine zX ?_;refine jI ?_;refine ta ?_;refine zs6 ?_;refine af ?_);(repeat(first|refine gk fun K hK=>?_|refine zs2 ?_));refine ry ?_;(repeat(first|refine gk fun K hK=>?_|refine zs2 ?_));refine aX ?_;(repeat(first|refine gk fun K hK=>?_|refine zs2 ?_))
         simp only[nx,inB];exact⟨M+1-(i+1),_,by omega,(ai (sl':=[(0,dN (hd a)),(1,dN (hd b)),(5, .own 5),(6,zI (((c+x+y)/65536:Nat):Int)),(7,zI ((i+1:Nat):Int))]) (ow':=[(5,⟨3,1,o.map hN++[hN ((c+x+y)%65536)]⟩)]) an aw),i+1,o++[(c+x+y)%65536],(c+x+y)/65536,rfl,hlen,hdig,by omega,by omega,STEP,by rw[hms]⟩)
end DW
end
section
open Go.RowKit
namespace DW
theorem vc{a b o:List Nat}{i c:Nat}(hi:o.length=i)(h:Dg.vl 65536 o+Dg.vl 65536 (b.take i)=Dg.vl 65536 (a.take i)+c*65536^i)(hc:b.getD i 0+c<=a.getD i 0):
  Dg.vl 65536 (o++[a.getD i 0-b.getD i 0-c])+Dg.vl 65536 (b.take (i+1))=Dg.vl 65536 (a.take (i+1))+0*65536^(i+1):=by
 have:=Dg.wS (B:=65536) (a:=a) (b:=b) (o:=o++[0]) (i:=i) (c:=c) bH zb52 hc;rw[Dg.gQ bH,List.take_append_of_le_length (by omega),List.take_of_length_le (by omega)]at this;exact this
theorem vd{a b o:List Nat}{i c:Nat}(hi:o.length=i)(h:Dg.vl 65536 o+Dg.vl 65536 (b.take i)=Dg.vl 65536 (a.take i)+c*65536^i)(hb:b.getD i 0+c<=a.getD i 0+65536):
  Dg.vl 65536 (o++[a.getD i 0+65536-b.getD i 0-c])+Dg.vl 65536 (b.take (i+1))=Dg.vl 65536 (a.take (i+1))+1*65536^(i+1):=by
 have:=Dg.wT (B:=65536) (a:=a) (b:=b) (o:=o++[0]) (i:=i) (c:=c) bH zb52 hb;rw[Dg.gQ bH,List.take_append_of_le_length (by omega),List.take_of_length_le (by omega)]at this;exact this
set_option maxRecDepth 20000
set_option maxHeartbeats 1000000
theorem nE(a b:Nat)(ha:(hd a).length<=800000000)(hba:b<=a):Fn Tryz.prog 154 [dN (hd a),dN (hd b)] (dN (hd (a-b))):=by
 refine aP Tryz.func154 aa rfl rfl rfl fun X0=>?_;simp only[aD];have hlb:(hd b).length<=(hd a).length:=fo hba
 (repeat(first|refine gk fun K hK=>?_|refine zs2 ?_));refine bK ?_;(repeat(first|refine gk fun K hK=>?_|refine zs2 ?_));refine bK ?_;(repeat(first|refine gk fun K hK=>?_|refine zs2 ?_));refine aH ?_;(repeat(first|refine gk fun K hK=>?_|refine zs2 ?_));refine aH ?_;(repeat(first|refine gk fun K hK=>?_|refine zs2 ?_))
 refine ak (cn (t:=5) (k:=5) (T:=3) (wd:=1) cr rfl rfl bD) ?_
 (refine ak (ai (sl':=[(0,dN (hd a)),(1,dN (hd b)),(5, .own 5),(6,zI 0),(7,zI 0)]) (ow':=[(5,⟨3,1,[]⟩)]) an aw) ?_)
 refine aE (fun r s=>∃i o c,r=(hd a).length-i/\i<=(hd a).length/\o.length=i/\Dg.dig 65536 o/\c<=1/\Dg.vl 65536 o+Dg.vl 65536 ((hd b).take i)=Dg.vl 65536 ((hd a).take i)+c*65536^i/\s=⟨[(0,dN (hd a)),(1,dN (hd b)),(5, .own 5),(6,zI (c:Nat)),(7,zI (i:Nat))],[(5,⟨3,1,o.map hN⟩)]⟩) (m:=(hd a).length) ⟨0,[],0,by omega,by omega,rfl,fun _ h=>(by cases h),by omega,by simp[Dg.vl],rfl⟩ fun r s hs=>?_;obtain⟨i,o,c,rfl,hia,ho,hdo,hc,hv,rfl⟩:=hs;by_cases hend:i=(hd a).length
 ·have e : Dg.vl 65536 o = a - b := by
   rw[List.take_of_length_le (by omega),List.take_of_length_le (by omega),eZ,eZ]at hv;have h1:=Dg.bg hdo;rw[ho]at h1;rcases(show c=0\/c=1 by omega)with h|h
   ·subst h;rw[Nat.zero_mul]at hv;omega
   ·subst h;rw[Nat.one_mul]at hv;omega
  have T:=rF (l:=o) (by omega) hdo e;clear hv
  (repeat(first|refine gk fun K hK=>?_|refine zs2 ?_));refine aK ?_;(repeat(first|refine gk fun K hK=>?_|refine zs2 ?_))
  refine az ?_
  (repeat(first|refine gk fun K hK=>?_|refine zs2 ?_))
  refine ak (aF (k:=5) aZ bB bA) ?_;refine kY ?_
  (repeat(first|refine gk fun K hK=>?_|refine zs2 ?_))
  exact⟨_,Sh.refl, .one (.tmp 4) _ rfl (.tmp 4 rfl)⟩
 ·have hxl:(hd a).getD i 0<65536:=Dg.aY (fj a) (by decide) i;have hyl:(hd b).getD i 0<65536:=Dg.aY (fj b) (by decide) i;have hx:(hd a)[i]?=some ((hd a).getD i 0):=kE (by omega);have hy:i<(hd b).length->(hd b)[i]?=some ((hd b).getD i 0):=kE;have hy0:(hd b).length<=i->(hd b).getD i 0=0:=pX;have LO:=vc (a:=hd a) (b:=hd b) ho hv;have HI:=vd (a:=hd a) (b:=hd b) ho hv;obtain⟨x,hxd⟩:∃x,x=(hd a).getD i 0:=⟨_,rfl⟩;obtain⟨y,hyd⟩:∃y,y=(hd b).getD i 0:=⟨_,rfl⟩;rw[<-hxd]at hxl hx LO HI;rw[<-hyd]at hyl hy hy0 LO HI;clear hxd hyd hv;have hye:i<(hd b).length\/((hd b).length<=i/\y=0):=by
   by_cases h:i<(hd b).length
   ·exact .inl h
   ·exact .inr ⟨by omega,hy0 (by omega)⟩
  have hlen:∀q,(o++[q]).length=i+1:=fun q=>by simp[ho]
  by_cases hge:y+c<=x
  ·have LO':=LO hge;clear LO HI;rcases hye with h6|⟨h6,h7⟩;all_goals
    (repeat(first|refine gk fun K hK=>?_|refine zs2 ?_));refine aK ?_;(repeat(first|refine gk fun K hK=>?_|refine zs2 ?_))
    refine av ?_
    (repeat(first|refine gk fun K hK=>?_|refine zs2 ?_));refine G2 ?_;(repeat(first|refine gk fun K hK=>?_|refine zs2 ?_));refine aK ?_;(repeat(first|refine gk fun K hK=>?_|refine zs2 ?_))
    (first|(refine av ?_;(repeat(first|refine gk fun K hK=>?_|refine zs2 ?_));refine G1 ?_;(repeat(first|refine gk fun K hK=>?_|refine zs2 ?_)))|(refine az ?_;(repeat(first|refine gk fun K hK=>?_|refine zs2 ?_))))
    (repeat(first|refine gk fun K hK=>?_|refine zs2 ?_));refine aH ?_;(repeat(first|refine gk fun K hK=>?_|refine zs2 ?_));refine eM ?_;(repeat(first|refine gk fun K hK=>?_|refine zs2 ?_))
    refine az ?_
    (refine ak (ai (sl':=[(0,dN (hd a)),(1,dN (hd b)),(5, .own 5),(6,zI 0),(7,zI (i:Nat)),(8,hN (x-y-c))]) (ow':=[(5,⟨3,1,o.map hN⟩)]) an aw) ?_)
    (repeat(first|refine gk fun K hK=>?_|refine zs2 ?_));refine mP ?_;(repeat(first|refine gk fun K hK=>?_|refine zs2 ?_));refine aX ?_;(repeat(first|refine gk fun K hK=>?_|refine zs2 ?_))
    simp only[nx,inB];exact⟨(hd a).length-(i+1),_,by omega,(ai (sl':=[(0,dN (hd a)),(1,dN (hd b)),(5, .own 5),(6,zI ((0:Nat):Int)),(7,zI ((i+1:Nat):Int))]) (ow':=[(5,⟨3,1,o.map hN++[hN (x-y-c)]⟩)]) an aw),i+1,o++[x-y-c],0,rfl,by omega,hlen _,kO hdo (by omega),by omega,LO',by rw[kD]⟩
  ·have HI':=HI (by omega);clear LO HI;rcases hye with h6|⟨h6,h7⟩;all_goals
    (repeat(first|refine gk fun K hK=>?_|refine zs2 ?_));refine aK ?_;(repeat(first|refine gk fun K hK=>?_|refine zs2 ?_))
    refine av ?_
    (repeat(first|refine gk fun K hK=>?_|refine zs2 ?_));refine G2 ?_;(repeat(first|refine gk fun K hK=>?_|refine zs2 ?_));refine aK ?_;(repeat(first|refine gk fun K hK=>?_|refine zs2 ?_))
    (first|(refine av ?_;(repeat(first|refine gk fun K hK=>?_|refine zs2 ?_));refine G1 ?_;(repeat(first|refine gk fun K hK=>?_|refine zs2 ?_)))|(refine az ?_;(repeat(first|refine gk fun K hK=>?_|refine zs2 ?_))))
    (repeat(first|refine gk fun K hK=>?_|refine zs2 ?_));refine aH ?_;(repeat(first|refine gk fun K hK=>?_|refine zs2 ?_));refine eM ?_;(repeat(first|refine gk fun K hK=>?_|refine zs2 ?_))
    refine av ?_
    (repeat(first|refine gk fun K hK=>?_|refine zs2 ?_));(refine gar ?_;refine zs4 ?_;refine zY ?_;refine zs6 ?_;refine fG ?_;refine af ?_);(repeat(first|refine gk fun K hK=>?_|refine zs2 ?_))
    (refine ak (ai (sl':=[(0,dN (hd a)),(1,dN (hd b)),(5, .own 5),(6,zI 1),(7,zI (i:Nat)),(8,hN (x+65536-y-c))]) (ow':=[(5,⟨3,1,o.map hN⟩)]) an aw) ?_)
    (repeat(first|refine gk fun K hK=>?_|refine zs2 ?_));refine mP ?_;(repeat(first|refine gk fun K hK=>?_|refine zs2 ?_));refine aX ?_;(repeat(first|refine gk fun K hK=>?_|refine zs2 ?_))
    simp only[nx,inB];exact⟨(hd a).length-(i+1),_,by omega,(ai (sl':=[(0,dN (hd a)),(1,dN (hd b)),(5, .own 5),(6,zI ((1:Nat):Int)),(7,zI ((i+1:Nat):Int))]) (ow':=[(5,⟨3,1,o.map hN++[hN (x+65536-y-c)]⟩)]) an aw),i+1,o++[x+65536-y-c],1,rfl,by omega,hlen _,kO hdo (by omega),by omega,HI',by rw[kD]⟩
end DW
end
section
open Go.RowKit
namespace DW
theorem rI{l m o:List Nat}{i k x c:Nat}(hl:Dg.dig 65536 l)(hm:Dg.dig 65536 m)(hil:i<l.length)(hx:x=l.getD i 0)(h:Dg.vl 65536 o+c*65536^(i+k)=Dg.vl 65536 (l.take i)*Dg.vl 65536 m+x*Dg.vl 65536 (m.take k)*65536^i)(hc:c≠0):k<=m.length:=by
 apply Nat.le_of_not_lt;intro hlt;rw[List.take_of_length_le (l:=m) (by omega)]at h;have e:Dg.vl 65536 (l.take (i+1))*Dg.vl 65536 m=Dg.vl 65536 (l.take i)*Dg.vl 65536 m+x*Dg.vl 65536 m*65536^i:=by
  rw[Dg.bJ,<-hx,Nat.add_mul,Nat.mul_right_comm]
 have h1:=Dg.bg (Dg.ei hl (i+1));rw[List.length_take,Nat.min_eq_left (by omega)]at h1;have h2:=Dg.bg hm;have h3:Dg.vl 65536 (l.take (i+1))*Dg.vl 65536 m<=65536^(i+1)*65536^m.length:=Nat.mul_le_mul (Nat.le_of_lt h1) (Nat.le_of_lt h2);rw[<-Nat.pow_add]at h3;have h4:(65536:Nat)^(i+1+m.length)<=65536^(i+k):=Nat.pow_le_pow_right (by decide) (by omega);have h5:1*65536^(i+k)<=c*65536^(i+k):=Nat.mul_le_mul_right _ (by omega);have h6:0<(65536:Nat)^(i+1+m.length):=Nat.pow_pos (by decide);have h7:Dg.vl 65536 (l.take (i+1))*Dg.vl 65536 m<65536^(i+1)*65536^m.length:=by
  by_cases hz:Dg.vl 65536 m=0
  ·rw[hz,Nat.mul_zero,<-Nat.pow_add];exact h6
  ·exact Nat.mul_lt_mul_of_lt_of_le h1 (Nat.le_of_lt h2) (by omega)
 rw[<-Nat.pow_add]at h7;omega
theorem A4{l m o:List Nat}{i k x:Nat}(hk:m.length<=k)(hx:x=l.getD i 0)(h:Dg.vl 65536 o+0*65536^(i+k)=Dg.vl 65536 (l.take i)*Dg.vl 65536 m+x*Dg.vl 65536 (m.take k)*65536^i):Dg.vl 65536 o=Dg.vl 65536 (l.take (i+1))*Dg.vl 65536 m:=by
 rw[List.take_of_length_le hk,Nat.zero_mul,Nat.add_zero]at h;rw[h,Dg.bJ,<-hx,Nat.add_mul,Nat.mul_right_comm x]
theorem kK{o:List Nat}{j:Nat}(h:j<o.length):o[j]?=some (o.getD j 0):=lD h
theorem map_set(o:List Nat)(j v:Nat):(o.set j v).map hN=(o.map hN).set j (hN v):=List.map_set
set_option maxRecDepth 20000
set_option maxHeartbeats 1000000
theorem vZ(l m:List Nat)(hl:Dg.dig 65536 l)(hm:Dg.dig 65536 m)(hll:l.length<=400000000)(hml:m.length<=400000000):Fn Tryz.prog 155 [dN l,dN m] (dN (hd (Dg.vl 65536 l*Dg.vl 65536 m))):=by
 refine aP Tryz.func155 aa rfl rfl rfl fun X0=>?_;simp only[aD];obtain⟨L,hL⟩:∃L,L=l.length+m.length+1:=⟨_,rfl⟩;have hLc:(l.length:Int)+(m.length:Int)+1=(L:Int):=by omega
 (repeat(first|refine gk fun K hK=>?_|refine zs2 ?_));refine bK ?_;(repeat(first|refine gk fun K hK=>?_|refine zs2 ?_));(refine gar ?_;refine zs4 ?_;refine zs5 ?_;refine zs4 ?_;refine zs5 ?_;refine od ?_;refine zY ?_;(refine Ew (k:=15) (T:=Tryz.prog.elem 40) (zv:=(.int .i64 0)) (d0:=(.sc (.int .i64 0))) (wd:=1) rfl rfl rfl rfl bz bz aa aa ae ae ae ae ae (by omega) zb59 ae bD ?_);refine zs6 ?_;refine af ?_);(repeat(first|refine gk fun K hK=>?_|refine zs2 ?_));refine aH ?_;(repeat(first|refine gk fun K hK=>?_|refine zs2 ?_))
 (refine ak (ai (sl':=[(0,dN l),(1,dN m),(5, .own 15),(6,zI 0)]) (ow':=[(15,⟨3,1,List.replicate L (zI 0)⟩)]) an aw) ?_)
 refine aE (fun r s=>∃i o,r=l.length-i/\i<=l.length/\o.length=L/\Dg.dig 65536 o/\Dg.vl 65536 o=Dg.vl 65536 (l.take i)*Dg.vl 65536 m/\s=⟨[(0,dN l),(1,dN m),(5, .own 15),(6,zI (i:Nat))],[(15,⟨3,1,o.map hN⟩)]⟩) (m:=l.length) ⟨0,List.replicate L 0,by omega,by omega,by simp,Dg.dV (by decide) _,by rw[Dg.mX];simp[Dg.vl],by rw[List.map_replicate];rfl⟩ fun r s hs=>?_;obtain⟨i,o,rfl,hil,ho,hdo,hv,rfl⟩:=hs;by_cases hend:i=l.length
 ·have e:Dg.vl 65536 o=Dg.vl 65536 l*Dg.vl 65536 m:=by rw[hv,List.take_of_length_le (by omega)]
  have T:=rF (l:=o) (by omega) hdo e;clear hv
  (repeat(first|refine gk fun K hK=>?_|refine zs2 ?_));refine aK ?_;(repeat(first|refine gk fun K hK=>?_|refine zs2 ?_))
  refine az ?_
  (repeat(first|refine gk fun K hK=>?_|refine zs2 ?_))
  refine ak (aF (k:=15) aZ bB bA) ?_;refine kY ?_
  (repeat(first|refine gk fun K hK=>?_|refine zs2 ?_))
  exact⟨_,Sh.refl, .one (.tmp 4) _ rfl (.tmp 4 rfl)⟩
 ·have hil':i<l.length:=by omega
  obtain⟨x,hxd⟩:∃x,x=l.getD i 0:=⟨_,rfl⟩;have hx:l[i]?=some x:=by rw[hxd];exact kK hil'
  have hxl:x<65536:=by rw[hxd];exact Dg.aY hl (by decide) i
  (repeat(first|refine gk fun K hK=>?_|refine zs2 ?_));refine aK ?_;(repeat(first|refine gk fun K hK=>?_|refine zs2 ?_))
  refine av ?_
  (repeat(first|refine gk fun K hK=>?_|refine zs2 ?_));refine aH ?_;(repeat(first|refine gk fun K hK=>?_|refine zs2 ?_));refine aH ?_;(repeat(first|refine gk fun K hK=>?_|refine zs2 ?_))
  (refine ak (ai (sl':=[(0,dN l),(1,dN m),(5, .own 15),(6,zI (i:Nat)),(7,zI 0),(8,zI 0)]) (ow':=[(15,⟨3,1,o.map hN⟩)]) an aw) ?_)
  refine aE (fun r s=>∃k o c,r=m.length+1-k/\o.length=L/\Dg.dig 65536 o/\c<65536/\(k<=m.length\/(k<=m.length+1/\c=0))/\Dg.vl 65536 o+c*65536^(i+k)=Dg.vl 65536 (l.take i)*Dg.vl 65536 m+x*Dg.vl 65536 (m.take k)*65536^i/\s=⟨[(0,dN l),(1,dN m),(5, .own 15),(6,zI (i:Nat)),(7,zI (c:Nat)),(8,zI (k:Nat))],[(15,⟨3,1,o.map hN⟩)]⟩) (m:=m.length+1) ⟨0,o,0,by omega,ho,hdo,by omega, .inl (by omega),by rw[hv];simp[Dg.vl],rfl⟩ fun r s hs=>?_;clear hv hdo ho;obtain⟨k,o,c,rfl,ho,hdo,hc,hkm,hv,rfl⟩:=hs;by_cases hend2:m.length<=k/\c=0
  ·obtain⟨h1,h2⟩:=hend2;have e:Dg.vl 65536 o=Dg.vl 65536 (l.take (i+1))*Dg.vl 65536 m:=by subst h2;exact A4 h1 hxd hv
   clear hv
   (repeat(first|refine gk fun K hK=>?_|refine zs2 ?_));refine Av ?_;(repeat(first|refine gk fun K hK=>?_|refine zs2 ?_))
   refine az ?_
   (repeat(first|refine gk fun K hK=>?_|refine zs2 ?_));refine aX ?_;(repeat(first|refine gk fun K hK=>?_|refine zs2 ?_))
   simp only[nx,inB];exact⟨l.length-(i+1),_,by omega,(ai (sl':=[(0,dN l),(1,dN m),(5, .own 15),(6,zI ((i+1:Nat):Int))]) (ow':=[(15,⟨3,1,o.map hN⟩)]) an aw),i+1,o,rfl,by omega,ho,hdo,e,rfl⟩
  ·have hk : k <= m.length := by
    by_cases h:c=0
    ·omega
    ·exact rI hl hm hil' hxd hv h
   have hik:i+k<o.length:=by omega
   have STEP:=Dg.rH (B:=65536) (b:=m) (o:=o) (i:=i) (k:=k) (x:=x) (c:=c) hik hv;have hu:=kK hik;have hul:o.getD (i+k) 0<65536:=Dg.aY hdo (by decide) _;have hyl:m.getD k 0<65536:=Dg.aY hm (by decide) _;have hy:k<m.length->m[k]?=some (m.getD k 0):=kK;have hy0:m.length<=k->m.getD k 0=0:=pX;clear hv;obtain⟨u,hud⟩:∃u,u=o.getD (i+k) 0:=⟨_,rfl⟩;obtain⟨y,hyd⟩:∃y,y=m.getD k 0:=⟨_,rfl⟩;rw[<-hud]at hul hu STEP;rw[<-hyd]at hyl hy hy0 STEP;clear hud hyd;have hxy:x*y<=65535*65535:=Nat.mul_le_mul (by omega) (by omega);have hxy0:y=0->x*y=0:=fun h=>by rw[h,Nat.mul_zero]
   have hc2:(x*y+u+c)/65536<65536:=by
    rw[Nat.div_lt_iff_lt_mul (by decide)];omega
   have hik':(i:Int)+(k:Int)=((i+k:Nat):Int):=by omega
   have hdig:=Dg.cW hdo (j:=i+k) (Nat.mod_lt (x*y+u+c) (by decide:0<65536));have hms:=map_set o (i+k) ((x*y+u+c)%65536);have hlen:(o.set (i+k) ((x*y+u+c)%65536)).length=L:=by rw[List.length_set];exact ho
   have hcast:((x*y:Nat):Int)=(x:Int)*(y:Int):=Int.natCast_mul x y;have hye:k<m.length\/(m.length<=k/\y=0/\c≠0):=by
    by_cases h:k<m.length
    ·exact .inl h
    ·exact .inr ⟨by omega,hy0 (by omega),by omega⟩
   rcases hye with h6|⟨h6,h7,h8⟩
   ·have hye:=hy h6
    (repeat(first|refine gk fun K hK=>?_|refine zs2 ?_));refine Av ?_;(repeat(first|refine gk fun K hK=>?_|refine zs2 ?_))
    refine av ?_
    (repeat(first|refine gk fun K hK=>?_|refine zs2 ?_));refine GZ ?_;(repeat(first|refine gk fun K hK=>?_|refine zs2 ?_));refine aK ?_;(repeat(first|refine gk fun K hK=>?_|refine zs2 ?_))
    refine av ?_
    (repeat(first|refine gk fun K hK=>?_|refine zs2 ?_));(refine zV ?_;refine aR ?_;refine aR ?_;refine aR ?_;refine dn ?_;refine bq ?_;refine aR ?_;refine aR ?_;refine dn ?_;refine bq ?_;(first|refine cC rfl rfl rfl ae zb15 ae ae ?_|((try refine aB ?_);refine aL1 rfl rfl rfl zb15 ?_));(first|refine cC rfl rfl rfl ae zb14 ae ae ?_|((try refine aB ?_);refine aL1 rfl rfl rfl zb14 ?_));refine ko ?_;refine cP ?_);(repeat(first|refine gk fun K hK=>?_|refine zs2 ?_))
    (refine ak (ai (sl':=[(0,dN l),(1,dN m),(5, .own 15),(6,zI (i:Nat)),(7,zI ((x*y+u+c:Nat):Int)),(8,zI (k:Nat))]) (ow':=[(15,⟨3,1,o.map hN⟩)]) an aw) ?_)
    (repeat(first|refine gk fun K hK=>?_|refine zs2 ?_));refine GY ?_;(repeat(first|refine gk fun K hK=>?_|refine zs2 ?_));refine ry ?_;(repeat(first|refine gk fun K hK=>?_|refine zs2 ?_));refine aX ?_;(repeat(first|refine gk fun K hK=>?_|refine zs2 ?_))
    simp only[nx,inB];exact⟨m.length+1-(k+1),_,by omega,(ai (sl':=[(0,dN l),(1,dN m),(5, .own 15),(6,zI (i:Nat)),(7,zI (((x*y+u+c)/65536:Nat):Int)),(8,zI ((k+1:Nat):Int))]) (ow':=[(15,⟨3,1,(o.map hN).set (i+k) (hN ((x*y+u+c)%65536))⟩)]) an aw),k+1,o.set (i+k) ((x*y+u+c)%65536),(x*y+u+c)/65536,rfl,hlen,hdig,hc2,by omega,STEP,by rw[hms]⟩
   ·have h9:=hxy0 h7
    (repeat(first|refine gk fun K hK=>?_|refine zs2 ?_));refine Av ?_;(repeat(first|refine gk fun K hK=>?_|refine zs2 ?_))
    refine av ?_
    (repeat(first|refine gk fun K hK=>?_|refine zs2 ?_));refine GZ ?_;(repeat(first|refine gk fun K hK=>?_|refine zs2 ?_));refine aK ?_;(repeat(first|refine gk fun K hK=>?_|refine zs2 ?_))
    refine az ?_
    (refine ak (ai (sl':=[(0,dN l),(1,dN m),(5, .own 15),(6,zI (i:Nat)),(7,zI ((x*y+u+c:Nat):Int)),(8,zI (k:Nat))]) (ow':=[(15,⟨3,1,o.map hN⟩)]) an aw) ?_)
    (repeat(first|refine gk fun K hK=>?_|refine zs2 ?_));refine GY ?_;(repeat(first|refine gk fun K hK=>?_|refine zs2 ?_));refine ry ?_;(repeat(first|refine gk fun K hK=>?_|refine zs2 ?_));refine aX ?_;(repeat(first|refine gk fun K hK=>?_|refine zs2 ?_))
    simp only[nx,inB];have hk1:k+1<=m.length\/(k+1<=m.length+1/\(x*y+u+c)/65536=0):=by
     refine .inr ⟨by omega,Classical.byContradiction fun h=>?_⟩;have:=rI hl hm hil' hxd STEP h;omega
    exact⟨m.length+1-(k+1),_,by omega,(ai (sl':=[(0,dN l),(1,dN m),(5, .own 15),(6,zI (i:Nat)),(7,zI (((x*y+u+c)/65536:Nat):Int)),(8,zI ((k+1:Nat):Int))]) (ow':=[(15,⟨3,1,(o.map hN).set (i+k) (hN ((x*y+u+c)%65536))⟩)]) an aw),k+1,o.set (i+k) ((x*y+u+c)%65536),(x*y+u+c)/65536,rfl,hlen,hdig,hc2,hk1,STEP,by rw[hms]⟩
end DW
end
end Go.Proofs.YtcgjmdpcplhanaaGreat
