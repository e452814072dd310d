/- Lemmas for the law: E4 E5 E6 -/
import Derived.Test.YtcgjmdpcplhanaaGreatZh3
namespace Go.Proofs.YtcgjmdpcplhanaaGreat
section
theorem Ao{p:Prop}(h:p:=by(first|(apply Hb;(exact rfl);(focus((apply an;(conv=>lhs;whnf);(first|done|exact rfl))));(focus((apply an;(conv=>lhs;whnf);(first|done|exact rfl))));(omega))|(apply cA;(exact rfl);(focus((apply an;(conv=>lhs;whnf);(first|done|exact rfl))));(focus((apply an;(conv=>lhs;whnf);(first|done|exact rfl))));(exact rfl)))):p:=h
theorem tz{p:Prop}(h:p:=by(first|(apply Hg;(exact rfl);(focus((apply an;(conv=>lhs;whnf);(first|done|exact rfl))));(focus((apply an;(conv=>lhs;whnf);(first|done|exact rfl))));(omega))|(apply cA;(exact rfl);(focus((apply an;(conv=>lhs;whnf);(first|done|exact rfl))));(focus((apply an;(conv=>lhs;whnf);(first|done|exact rfl))));(exact rfl)))):p:=h
theorem zb61{p:Prop}(h:p:=by first|(apply Ev;assumption)|exact Int.toNat_natCast _|exact rfl):p:=h
theorem Ap{p:Prop}(h:p:=by(first|(apply cA;(exact rfl);(focus((apply an;(conv=>lhs;whnf);(first|done|exact rfl))));(focus((apply an;(conv=>lhs;whnf);(first|done|exact rfl))));(exact rfl))|(apply Ha;(exact rfl);(focus((apply an;(conv=>lhs;whnf);(first|done|exact rfl))));(focus((apply an;(conv=>lhs;whnf);(first|done|exact rfl))));(kernel_rfl)))):p:=h
theorem oa{p q:Prop}(h:q)(f:Wq q->p:=by(intro hW;(refine aL1 rfl rfl rfl Ap ?_);exact hW.out)):p:=f ⟨h⟩
theorem jw{p q:Prop}(h:q)(f:Wq q->p:=by(intro hW;((refine gar ?_;refine zs4 ?_;refine zs5 ?_;refine zs4 ?_;refine zs5 ?_;refine oa ?_;refine af ?_));exact hW.out)):p:=f ⟨h⟩
theorem mU{p q:Prop}(h:q)(f:Wq q->p:=by(intro hW;((first|(refine aLs rfl rfl rfl rfl ?_ ?_;(focus(apply aY;(conv=>lhs;whnf);(first|done|exact rfl|(apply aK;(first|(apply decide_eq_true;omega)|(apply decide_eq_false;omega)|assumption|(simp;done)))))))|refine aLw rfl rfl rfl rfl bK tw ?_));exact hW.out)):p:=f ⟨h⟩
theorem iw{p q:Prop}(h:q)(f:Wq q->p:=by(intro hW;((first|(refine aLs rfl rfl rfl rfl ?_ ?_;(focus(apply aY;(conv=>lhs;whnf);(first|done|exact rfl|(apply aK;(first|(apply decide_eq_true;omega)|(apply decide_eq_false;omega)|assumption|(simp;done)))))))|refine aLw rfl rfl rfl rfl bK zb2 ?_));exact hW.out)):p:=f ⟨h⟩
theorem zs62{p q:Prop}(h:q)(f:Wq q->p:=by(intro hW;((first|(refine aLs rfl rfl rfl rfl ?_ ?_;(focus(apply aY;(conv=>lhs;whnf);(first|done|exact rfl|(apply aK;(first|(apply decide_eq_true;omega)|(apply decide_eq_false;omega)|assumption|(simp;done)))))))|refine aLw rfl rfl rfl rfl bK Al ?_));exact hW.out)):p:=f ⟨h⟩
theorem zb5{p:Prop}(h:p:=by(first|(apply xA;(exact rfl);(focus((apply an;(conv=>lhs;whnf);(first|done|exact rfl))));(focus(first|exact rfl|(apply decide_eq_true;omega)|assumption|(simp;done)));(exact gw))|(apply xB;(exact rfl);(focus((apply an;(conv=>lhs;whnf);(first|done|exact rfl))));(focus(first|exact rfl|(apply decide_eq_false;omega)|assumption|(simp;done)));(focus((apply an;(conv=>lhs;whnf);(first|done|exact rfl)))))|(apply d_pick;(exact rfl);(focus((apply an;(conv=>lhs;whnf);(first|done|exact rfl))));(exact gw);(focus((apply an;(conv=>lhs;whnf);(first|done|exact rfl))));(exact rfl)))):p:=h
theorem iu{p q:Prop}(h:q)(f:Wq q->p:=by(intro hW;(refine aL1 rfl rfl rfl zb5 ?_);exact hW.out)):p:=f ⟨h⟩
theorem Gv{p q:Prop}(h:q)(f:Wq q->p:=by(intro hW;((refine gar ?_;refine zs4 ?_;refine zs4 ?_;refine zs5 ?_;refine lU ?_;refine zs4 ?_;refine zs8 ?_;refine zs8 ?_;refine iw ?_;refine zs62 ?_;refine iu ?_;refine zs4 ?_;refine zs8 ?_;refine mU ?_;refine iu ?_;refine af ?_));exact hW.out)):p:=f ⟨h⟩
theorem zs69{p q:Prop}(h:q)(f:Wq q->p:=by(intro hW;(refine aL1 rfl rfl rfl (by(first|(apply G9;(exact rfl);(focus((apply an;(conv=>lhs;whnf);(first|done|exact rfl))));(focus((apply an;(conv=>lhs;whnf);(first|done|exact rfl))));(omega))|(apply cA;(exact rfl);(focus((apply an;(conv=>lhs;whnf);(first|done|exact rfl))));(focus((apply an;(conv=>lhs;whnf);(first|done|exact rfl))));(exact rfl)))) ?_);exact hW.out)):p:=f ⟨h⟩
theorem dh{p q:Prop}(h:q)(f:Wq q->p:=by(intro hW;(refine aL1 rfl rfl rfl zb4 ?_);exact hW.out)):p:=f ⟨h⟩
theorem Gu{p q:Prop}(h:q)(f:Wq q->p:=by(intro hW;((refine gar ?_;refine zs4 ?_;refine zs4 ?_;refine dh ?_;refine br ?_;refine zs4 ?_;refine zs69 ?_;refine zs6 ?_;refine af ?_));exact hW.out)):p:=f ⟨h⟩
theorem zy{p q:Prop}(h:q)(f:Wq q->p:=by(intro hW;((first|(apply ai 9;(focus kernel_rfl);(decide+kernel))|(apply ai 8;(focus kernel_rfl);(decide+kernel))|(apply ai 7;(focus kernel_rfl);(decide+kernel))|(apply ai 6;(focus kernel_rfl);(decide+kernel))|(apply ai 5;(focus kernel_rfl);(decide+kernel))|(apply ai 4;(focus kernel_rfl);(decide+kernel))|(apply ai 3;(focus kernel_rfl);(decide+kernel))|(apply ai 2;(focus kernel_rfl);(decide+kernel)));simp only[List.take_succ_cons,List.take_zero,List.drop_succ_cons,List.drop_zero]);exact hW.out)):p:=f ⟨h⟩
theorem zs70{p q:Prop}(h:q)(f:Wq q->p:=by(intro hW;((first|(apply ai 11;(focus kernel_rfl);(decide+kernel))|(apply ai 10;(focus kernel_rfl);(decide+kernel))|(apply ai 9;(focus kernel_rfl);(decide+kernel))|(apply ai 8;(focus kernel_rfl);(decide+kernel))|(apply ai 7;(focus kernel_rfl);(decide+kernel))|(apply ai 6;(focus kernel_rfl);(decide+kernel))|(apply ai 5;(focus kernel_rfl);(decide+kernel))|(apply ai 4;(focus kernel_rfl);(decide+kernel)));simp only[List.take_succ_cons,List.take_zero,List.drop_succ_cons,List.drop_zero]);exact hW.out)):p:=f ⟨h⟩
theorem zZ{p q:Prop}(h:q)(f:Wq q->p:=by(intro hW;((refine gar ?_;refine zs4 ?_;refine zs5 ?_;refine zs19 ?_;refine zs6 ?_;refine af ?_));exact hW.out)):p:=f ⟨h⟩
theorem vC{p q:Prop}(h:q)(f:Wq q->p:=by(intro hW;((first|refine cE rfl rfl rfl aa zb3 aa aa ?_|((try refine aB ?_);refine aL1 rfl rfl rfl zb3 ?_)));exact hW.out)):p:=f ⟨h⟩
theorem zs67{p q:Prop}(h:q)(f:Wq q->p:=by(intro hW;(refine aL1 rfl rfl rfl (by(first|(apply sI;(exact rfl);(focus((apply an;(conv=>lhs;whnf);(first|done|exact rfl))));(exact rfl);(focus((first|exact fb|exact eY|exact eZ|exact wd_pt|exact rfl)));(exact rfl);(kernel_rfl);(kernel_rfl))|(apply iU;(exact rfl);(focus((apply an;(conv=>lhs;whnf);(first|done|exact rfl))));(focus((repeat(first|exact List.mem_cons_self|refine List.mem_cons_of_mem _ ?_))));(exact im);(exact rfl);(exact rfl);(focus((first|exact fb|exact eY|exact eZ|exact wd_pt|exact rfl)));(exact rfl);(kernel_rfl);(kernel_rfl))|(apply jC;(exact rfl);(focus((apply an;(conv=>lhs;whnf);(first|done|exact rfl))));(focus((repeat(first|exact List.mem_cons_self|refine List.mem_cons_of_mem _ ?_))));(exact rfl);(focus((first|exact im|(apply nJ;assumption)|assumption|(apply get_map;exact hy h6)|exact rfl)));(exact rfl);(focus((first|exact fb|exact eY|exact eZ|exact wd_pt|exact rfl)));(exact rfl);(kernel_rfl);(kernel_rfl))|(apply kj;(exact rfl);(focus((apply an;(conv=>lhs;whnf);(first|done|exact rfl))));(focus((repeat(first|exact List.mem_cons_self|refine List.mem_cons_of_mem _ ?_))));(exact rfl);(focus(first|(apply ep;assumption)|exact rfl));(assumption);(kernel_rfl);(kernel_rfl)))) ?_);exact hW.out)):p:=f ⟨h⟩
theorem aH{p q:Prop}(h:q)(f:Wq q->p:=by(intro hW;((refine gar ?_;refine zs4 ?_;refine zs4 ?_;refine zs5 ?_;refine lU ?_;refine af ?_));exact hW.out)):p:=f ⟨h⟩
theorem zs66{p q:Prop}(h:q)(f:Wq q->p:=by(intro hW;(refine aL1 rfl rfl rfl (by(first|(apply iS;(exact rfl);(focus((apply an;(conv=>lhs;whnf);(first|done|exact rfl))));(focus((apply an;(conv=>lhs;whnf);(first|done|exact rfl))));(kernel_rfl);(kernel_rfl);(omega);(focus((first|(apply get_map;exact hy h6)|(apply get_map;assumption)|(apply get_own;assumption)))))|(apply fF;(exact rfl);(focus((apply an;(conv=>lhs;whnf);(first|done|exact rfl))));(focus((apply an;(conv=>lhs;whnf);(first|done|exact rfl))));(focus((repeat(first|exact List.mem_cons_self|refine List.mem_cons_of_mem _ ?_))));(kernel_rfl);(kernel_rfl);(focus(first|omega|(simp;omega)));(focus(first|(apply ep;assumption)|exact rfl))))) ?_);exact hW.out)):p:=f ⟨h⟩
theorem zY{p q:Prop}(h:q)(f:Wq q->p:=by(intro hW;((refine gar ?_;refine zs4 ?_;refine zs4 ?_;refine zs5 ?_;refine lU ?_;refine zs4 ?_;refine zs8 ?_;refine mU ?_;refine iu ?_;refine af ?_));exact hW.out)):p:=f ⟨h⟩
theorem qn{p q:Prop}(h:q)(f:Wq q->p:=by(intro hW;(refine aL1 rfl rfl rfl (by(apply nQ;(exact rfl);(exact gw))) ?_);exact hW.out)):p:=f ⟨h⟩
theorem bg{p q:Prop}(h:q)(f:Wq q->p:=by(intro hW;((refine gar ?_;refine qn ?_;refine af ?_));exact hW.out)):p:=f ⟨h⟩
theorem nZ{p q:Prop}(h:q)(f:Wq q->p:=by(intro hW;(refine aL1 rfl rfl rfl tz ?_);exact hW.out)):p:=f ⟨h⟩
theorem Gs{p q:Prop}(h:q)(f:Wq q->p:=by(intro hW;((refine gar ?_;refine zs4 ?_;refine zs4 ?_;refine zs4 ?_;refine zs4 ?_;refine nZ ?_;refine dh ?_;refine br ?_;refine nZ ?_;refine zs6 ?_;refine af ?_));exact hW.out)):p:=f ⟨h⟩
theorem zs71{p q:Prop}(h:q)(f:Wq q->p:=by(intro hW;((refine kD (i:=i+k) rfl rfl rfl bq bq bc aa lW aa dL aa ae lX ?_));exact hW.out)):p:=f ⟨h⟩
theorem Gq{p q:Prop}(h:q)(f:Wq q->p:=by(intro hW;((refine gar ?_;refine zs4 ?_;refine zs4 ?_;refine zs4 ?_;refine nZ ?_;refine zs4 ?_;refine sY ?_;refine dh ?_;refine zs71 ?_;refine af ?_));exact hW.out)):p:=f ⟨h⟩
theorem sX{p q:Prop}(h:q)(f:Wq q->p:=by(intro hW;((first|refine cE rfl rfl rfl aa zb0 aa aa ?_|((try refine aB ?_);refine aL1 rfl rfl rfl zb0 ?_)));exact hW.out)):p:=f ⟨h⟩
theorem zb53{p:Prop}(h:p:=by rw[List.take_append_of_le_length (by omega),List.take_of_length_le (by omega)];exact h):p:=h
theorem zs56{p q:Prop}(h:q)(f:Wq q->p:=by(intro hW;((first|(apply ai 8;(focus kernel_rfl);(decide+kernel))|(apply ai 7;(focus kernel_rfl);(decide+kernel))|(apply ai 6;(focus kernel_rfl);(decide+kernel))|(apply ai 5;(focus kernel_rfl);(decide+kernel))|(apply ai 4;(focus kernel_rfl);(decide+kernel))|(apply ai 3;(focus kernel_rfl);(decide+kernel))|(apply ai 2;(focus kernel_rfl);(decide+kernel))|(apply ai 1;(focus kernel_rfl);(decide+kernel)));simp only[List.take_succ_cons,List.take_zero,List.drop_succ_cons,List.drop_zero]);exact hW.out)):p:=f ⟨h⟩
theorem vB{p q:Prop}(h:q)(f:Wq q->p:=by(intro hW;((first|refine cE rfl rfl rfl aa Ap aa aa ?_|((try refine aB ?_);refine aL1 rfl rfl rfl Ap ?_)));exact hW.out)):p:=f ⟨h⟩
theorem Gw{p q:Prop}(h:q)(f:Wq q->p:=by(intro hW;((refine zs56 ?_;refine aQ ?_;refine aQ ?_;refine vC ?_;refine sX ?_;refine aQ ?_;refine aQ ?_;refine vC ?_;refine sX ?_;refine vB ?_;refine di ?_));exact hW.out)):p:=f ⟨h⟩
theorem Gt{p q:Prop}(h:q)(f:Wq q->p:=by(intro hW;((refine gar ?_;refine zs4 ?_;refine zs4 ?_;refine zs4 ?_;refine zs66 ?_;refine zs67 ?_;refine zs69 ?_;refine zs6 ?_;refine af ?_));exact hW.out)):p:=f ⟨h⟩
end
section
open Go.RowKit
namespace DW
theorem Kf{a b:Nat}(h:hd a=hd b):a=b:=by rw[<-fi a,<-fi b,h]
theorem uS{a b:Nat}(h:(hd a).length<(hd b).length):a<b:=by
 have:=Dg.fS (b:=65536) (by decide) (Dg.bB (by decide) a).1 (Dg.bB (by decide) b).1 h;rwa[(Dg.bB (by decide) a).2,(Dg.bB (by decide) b).2]at this
theorem Dh{a b i:Nat}(hi:i<(hd a).length)(hl:(hd a).length=(hd b).length)(hd':(hd a).drop (i+1)=(hd b).drop (i+1))(h:(hd a).getD i 0<(hd b).getD i 0):a<b:=by
 have:=Dg.lex_lt (fw a) hi hl hd' h;rwa[fi,fi]at this
theorem yT{a i:Nat}(hi:i<(hd a).length):(hd a).drop i=(hd a).getD i 0::(hd a).drop (i+1):=by
 rw[List.drop_eq_getElem_cons hi,List.getD_eq_getElem?_getD,List.getElem?_eq_getElem hi];rfl
theorem kS{a i:Nat}(hi:i<(hd a).length):(hd a)[i]?=some ((hd a).getD i 0):=lJ hi
theorem pV{l:List Nat}{i:Nat}(h:l.length<=i):l.getD i 0=0:=by rw[List.getD_eq_getElem?_getD,List.getElem?_eq_none h];rfl
set_option maxRecDepth 20000
set_option maxHeartbeats 1000000
theorem C4(a b:Nat)(ha:(hd a).length<=900000000)(hb:(hd b).length<=900000000):Fn Tryz.prog 153 [dN (hd a),dN (hd b)] (.sc (.bool (decide (a<b)))):=by
 refine bn Tryz.func153 ae rfl rfl rfl fun X0=>?_;simp only[aE];by_cases hl:(hd a).length=(hd b).length
 ·(repeat(first|refine gk fun K hK=>?_|refine zs2 ?_));refine bg ?_;(repeat(first|refine gk fun K hK=>?_|refine zs2 ?_));refine jw ?_;(repeat(first|refine gk fun K hK=>?_|refine zs2 ?_))
  refine az ?_
  (repeat(first|refine gk fun K hK=>?_|refine zs2 ?_));refine zZ ?_;(repeat(first|refine gk fun K hK=>?_|refine zs2 ?_))
  (refine aq (aj (sl':=[(0,dN (hd a)),(1,dN (hd b)),(5,zI ((hd a).length-1))]) (ow':=[]) au ay) ?_)
  refine aF (fun r s=>r<=(hd a).length/\(hd a).drop r=(hd b).drop r/\s=⟨[(0,dN (hd a)),(1,dN (hd b)),(5,zI (r-1))],[]⟩) (m:=(hd a).length) ⟨Nat.le_refl _,by rw[List.drop_length,hl,List.drop_length],rfl⟩ fun r s hs=>?_;obtain⟨h1,h2,rfl⟩:=hs;by_cases hr:r=0
  ·have e:a=b:=Kf (by subst hr;simpa using h2)
   (repeat(first|refine gk fun K hK=>?_|refine zs2 ?_));refine eW ?_;(repeat(first|refine gk fun K hK=>?_|refine zs2 ?_))
   refine az ?_
   (repeat(first|refine gk fun K hK=>?_|refine zs2 ?_));refine bg ?_;(repeat(first|refine gk fun K hK=>?_|refine zs2 ?_))
   rw[show decide (a<b)=false from decide_eq_false (by omega)];exact⟨_,Sh.refl, .one (.tmp 4) _ rfl (.tmp 4 rfl)⟩
  ·obtain⟨i,rfl⟩:∃i,r=i+1:=⟨r-1,by omega⟩;have hi:i<(hd a).length:=by omega
   have hi':i<(hd b).length:=by omega
   have hx:=kS hi;have hy:=kS hi';have hc:((i+1:Nat):Int)-1=(i:Int):=by omega
   have k1:=yT hi;have k2:=yT hi';have k3:(hd a).getD i 0<(hd b).getD i 0->a<b:=Dh hi hl h2;have k4:(hd b).getD i 0<(hd a).getD i 0->b<a:=Dh hi' hl.symm h2.symm;obtain⟨x,hxd⟩:∃x,x=(hd a).getD i 0:=⟨_,rfl⟩;obtain⟨y,hyd⟩:∃y,y=(hd b).getD i 0:=⟨_,rfl⟩;rw[<-hxd]at hx k1 k3 k4;rw[<-hyd]at hy k2 k3 k4;by_cases hxy:x=y
   ·have k5:(hd a).drop i=(hd b).drop i:=by rw[k1,k2,hxy,h2]
    (repeat(first|refine gk fun K hK=>?_|refine zs2 ?_));refine eW ?_;(repeat(first|refine gk fun K hK=>?_|refine zs2 ?_))
    refine av ?_
    (repeat(first|refine gk fun K hK=>?_|refine zs2 ?_));refine Gw ?_;(repeat(first|refine gk fun K hK=>?_|refine zs2 ?_))
    refine az ?_
    (repeat(first|refine gk fun K hK=>?_|refine zs2 ?_));refine pq ?_;(repeat(first|refine gk fun K hK=>?_|refine zs2 ?_))
    simp only[nx,inB];exact⟨i,_,by omega,(aj (sl':=[(0,dN (hd a)),(1,dN (hd b)),(5,zI ((i:Int)-1))]) (ow':=[]) au ay),by omega,k5,rfl⟩
   ·have k5 : decide ((x : Int) < (y : Int)) = decide (a < b) := by
     by_cases h:x<y
     ·rw[decide_eq_true (by omega),decide_eq_true (k3 h)]
     ·rw[decide_eq_false (by omega),decide_eq_false (by have:=k4 (by omega);omega)]
    (repeat(first|refine gk fun K hK=>?_|refine zs2 ?_));refine eW ?_;(repeat(first|refine gk fun K hK=>?_|refine zs2 ?_))
    refine av ?_
    (repeat(first|refine gk fun K hK=>?_|refine zs2 ?_));refine Gw ?_;(repeat(first|refine gk fun K hK=>?_|refine zs2 ?_))
    refine av ?_
    (repeat(first|refine gk fun K hK=>?_|refine zs2 ?_));(refine zy ?_;refine aQ ?_;refine aQ ?_;refine vC ?_;refine sX ?_;refine aQ ?_;refine aQ ?_;refine vC ?_;refine sX ?_;(first|refine cE rfl rfl rfl aa Al aa aa ?_|((try refine aB ?_);refine aL1 rfl rfl rfl Al ?_));refine mX ?_;refine di ?_);(repeat(first|refine gk fun K hK=>?_|refine zs2 ?_))
    rw[<-k5];exact⟨_,Sh.refl, .one (.tmp 4) _ rfl (.tmp 4 rfl)⟩
 ·have k5 : decide (((hd a).length : Int) < ((hd b).length : Int)) = decide (a < b) := by
   by_cases h:(hd a).length<(hd b).length
   ·rw[decide_eq_true (by omega),decide_eq_true (uS h)]
   ·rw[decide_eq_false (by omega),decide_eq_false (by have:=uS (a:=b) (b:=a) (by omega);omega)]
  (repeat(first|refine gk fun K hK=>?_|refine zs2 ?_));refine bg ?_;(repeat(first|refine gk fun K hK=>?_|refine zs2 ?_));refine jw ?_;(repeat(first|refine gk fun K hK=>?_|refine zs2 ?_))
  refine av ?_
  (repeat(first|refine gk fun K hK=>?_|refine zs2 ?_));(refine gar ?_;refine zs4 ?_;refine zs5 ?_;refine zs4 ?_;refine zs5 ?_;refine lU ?_;refine zs6 ?_;refine af ?_);(repeat(first|refine gk fun K hK=>?_|refine zs2 ?_))
  rw[<-k5];exact⟨_,Sh.refl, .one (.tmp 4) _ rfl (.tmp 4 rfl)⟩
theorem CE{a b o:List Nat}{i c:Nat}(hi:o.length=i)(h:Dg.vl 65536 o+c*65536^i=Dg.vl 65536 (a.take i)+Dg.vl 65536 (b.take i)):
  Dg.vl 65536 (o++[(c+a.getD i 0+b.getD i 0)%65536])+(c+a.getD i 0+b.getD i 0)/65536*65536^(i+1)=Dg.vl 65536 (a.take (i+1))+Dg.vl 65536 (b.take (i+1)):=by
 have:=Dg.lA (B:=65536) (a:=a) (b:=b) (o:=o++[0]) (i:=i) (c:=c) bG zb53;rw[show a.getD i 0+b.getD i 0+c=c+a.getD i 0+b.getD i 0 by omega,Dg.gP bG,List.take_append_of_le_length (by omega),List.take_of_length_le (by omega)]at this;exact this
theorem yD(a b:Nat)(ha:(hd a).length<=400000000)(hb:(hd b).length<=400000000):Fn Tryz.prog 152 [dN (hd a),dN (hd b)] (dN (hd (a+b))):=by
 refine bn Tryz.func152 ae rfl rfl rfl fun X0=>?_;simp only[aE]
 (repeat(first|refine gk fun K hK=>?_|refine zs2 ?_));refine cw ?_;(repeat(first|refine gk fun K hK=>?_|refine zs2 ?_));refine cw ?_;(repeat(first|refine gk fun K hK=>?_|refine zs2 ?_));refine aS ?_;(repeat(first|refine gk fun K hK=>?_|refine zs2 ?_));refine aS ?_;(repeat(first|refine gk fun K hK=>?_|refine zs2 ?_))
 refine aq (cY (t:=5) (k:=5) (T:=3) (wd:=1) fI rfl rfl bZ) ?_
 (refine aq (aj (sl':=[(0,dN (hd a)),(1,dN (hd b)),(5, .own 5),(6,zI 0),(7,zI 0)]) (ow':=[(5,⟨3,1,[]⟩)]) au ay) ?_)
 obtain⟨M,hM⟩:∃M,M=max (hd a).length (hd b).length:=⟨_,rfl⟩;refine aF (fun r s=>∃i o c,r=M+1-i/\o.length=i/\Dg.dig 65536 o/\c<=1/\(i<=M\/(i<=M+1/\c=0))/\Dg.vl 65536 o+c*65536^i=Dg.vl 65536 ((hd a).take i)+Dg.vl 65536 ((hd b).take i)/\s=⟨[(0,dN (hd a)),(1,dN (hd b)),(5, .own 5),(6,zI (c:Nat)),(7,zI (i:Nat))],[(5,⟨3,1,o.map hN⟩)]⟩) (m:=M+1) ⟨0,[],0,by omega,rfl,fun _ h=>(by cases h),by omega, .inl (by omega),by simp[Dg.vl],rfl⟩ fun r s hs=>?_;obtain⟨i,o,c,rfl,ho,hdo,hc,hiM,hv,rfl⟩:=hs;have STEP:=CE (a:=hd a) (b:=hd b) ho hv;have hxl:(hd a).getD i 0<65536:=Dg.aR (fw a) (by decide) i;have hyl:(hd b).getD i 0<65536:=Dg.aR (fw b) (by decide) i;have hx:i<(hd a).length->(hd a)[i]?=some ((hd a).getD i 0):=kS;have hy:i<(hd b).length->(hd b)[i]?=some ((hd b).getD i 0):=kS;have hx0:(hd a).length<=i->(hd a).getD i 0=0:=pV;have hy0:(hd b).length<=i->(hd b).getD i 0=0:=pV;obtain⟨x,hxd⟩:∃x,x=(hd a).getD i 0:=⟨_,rfl⟩;obtain⟨y,hyd⟩:∃y,y=(hd b).getD i 0:=⟨_,rfl⟩;rw[<-hxd]at STEP hxl hx hx0;rw[<-hyd]at STEP hyl hy hy0;have hdig:=kZ hdo (Nat.mod_lt (c+x+y) (by omega:0<65536));have hms:=kQ o ((c+x+y)%65536);have hlen:(o++[(c+x+y)%65536]).length=i+1:=by simp[ho]
 have kx:(hd a).length<=M:=by omega
 have ky:(hd b).length<=M:=by omega
 have kM:M<=(hd a).length\/M<=(hd b).length:=by omega
 have kM2:M<=400000000:=by omega
 clear hM hxd hyd;by_cases hend:M<=i/\c=0
 ·obtain⟨h1,h2⟩:=hend;have e:Dg.vl 65536 o=a+b:=by
   subst h2;rw[List.take_of_length_le (by omega),List.take_of_length_le (by omega),fi,fi]at hv;omega
  have T:=rD (l:=o) (by omega) hdo e
  (repeat(first|refine gk fun K hK=>?_|refine zs2 ?_));refine Gv ?_;(repeat(first|refine gk fun K hK=>?_|refine zs2 ?_))
  refine az ?_
  (repeat(first|refine gk fun K hK=>?_|refine zs2 ?_))
  refine aq (aG (k:=5) bc bJ bI) ?_;refine lu ?_
  (repeat(first|refine gk fun K hK=>?_|refine zs2 ?_))
  exact⟨_,Sh.refl, .one (.tmp 4) _ rfl (.tmp 4 rfl)⟩
 ·have hcases:((i<(hd a).length)\/(i<(hd b).length/\(hd a).length<=i))\/(c>0/\(hd a).length<=i/\(hd b).length<=i):=by omega
  have hxe:i<(hd a).length\/((hd a).length<=i/\x=0):=by
   by_cases h:i<(hd a).length
   ·exact .inl h
   ·exact .inr ⟨by omega,hx0 (by omega)⟩
  have hye:i<(hd b).length\/((hd b).length<=i/\y=0):=by
   by_cases h:i<(hd b).length
   ·exact .inl h
   ·exact .inr ⟨by omega,hy0 (by omega)⟩
  rcases hcases with(h1|⟨h1,h2⟩)|⟨h1,h2,h3⟩;all_goals
   rcases hxe with h4|⟨h4,h5⟩;all_goals
    rcases hye with h6|⟨h6,h7⟩;all_goals
     first
      |(exfalso;omega;done)
      | ((repeat (first | refine gk fun K hK =>?_ | refine zs2 ?_)); refine Gv ?_; (repeat (first | refine gk fun K hK =>?_ | refine zs2 ?_))
         refine av ?_
         (repeat(first|refine gk fun K hK=>?_|refine zs2 ?_));refine aH ?_;(repeat(first|refine gk fun K hK=>?_|refine zs2 ?_))
         (first|(refine av ?_;(repeat(first|refine gk fun K hK=>?_|refine zs2 ?_));(refine gar ?_;refine zs4 ?_;refine zs4 ?_;refine zs4 ?_;(refine aL1 rfl rfl rfl (by(first|(apply iS;(exact rfl);(focus((apply an;(conv=>lhs;whnf);(first|done|exact rfl))));(focus((apply an;(conv=>lhs;whnf);(first|done|exact rfl))));(kernel_rfl);(kernel_rfl);(omega);(focus((first|(apply get_map;exact hx h4)|(apply get_map;assumption)|(apply get_own;assumption)))))|(apply fF;(exact rfl);(focus((apply an;(conv=>lhs;whnf);(first|done|exact rfl))));(focus((apply an;(conv=>lhs;whnf);(first|done|exact rfl))));(focus((repeat(first|exact List.mem_cons_self|refine List.mem_cons_of_mem _ ?_))));(kernel_rfl);(kernel_rfl);(focus(first|omega|(simp;omega)));(focus(first|(apply ep;assumption)|exact rfl))))) ?_);(refine aL1 rfl rfl rfl (by(first|(apply sI;(exact rfl);(focus((apply an;(conv=>lhs;whnf);(first|done|exact rfl))));(exact rfl);(focus((first|exact fb|exact eY|exact eZ|exact wd_pt|exact rfl)));(exact rfl);(kernel_rfl);(kernel_rfl))|(apply iU;(exact rfl);(focus((apply an;(conv=>lhs;whnf);(first|done|exact rfl))));(focus((repeat(first|exact List.mem_cons_self|refine List.mem_cons_of_mem _ ?_))));(exact im);(exact rfl);(exact rfl);(focus((first|exact fb|exact eY|exact eZ|exact wd_pt|exact rfl)));(exact rfl);(kernel_rfl);(kernel_rfl))|(apply jC;(exact rfl);(focus((apply an;(conv=>lhs;whnf);(first|done|exact rfl))));(focus((repeat(first|exact List.mem_cons_self|refine List.mem_cons_of_mem _ ?_))));(exact rfl);(focus((first|exact im|(apply nJ;assumption)|assumption|(apply get_map;exact hx h4)|exact rfl)));(exact rfl);(focus((first|exact fb|exact eY|exact eZ|exact wd_pt|exact rfl)));(exact rfl);(kernel_rfl);(kernel_rfl))|(apply kj;(exact rfl);(focus((apply an;(conv=>lhs;whnf);(first|done|exact rfl))));(focus((repeat(first|exact List.mem_cons_self|refine List.mem_cons_of_mem _ ?_))));(exact rfl);(focus(first|(apply ep;assumption)|exact rfl));(assumption);(kernel_rfl);(kernel_rfl)))) ?_);refine nZ ?_;refine zs6 ?_;refine af ?_);(repeat(first|refine gk fun K hK=>?_|refine zs2 ?_)))|(refine az ?_;(repeat(first|refine gk fun K hK=>?_|refine zs2 ?_))))
         (repeat(first|refine gk fun K hK=>?_|refine zs2 ?_));refine aH ?_;(repeat(first|refine gk fun K hK=>?_|refine zs2 ?_))
         (first|(refine av ?_;(repeat(first|refine gk fun K hK=>?_|refine zs2 ?_));(refine gar ?_;refine zs4 ?_;refine zs4 ?_;refine zs4 ?_;refine zs66 ?_;refine zs67 ?_;refine nZ ?_;refine zs6 ?_;refine af ?_);(repeat(first|refine gk fun K hK=>?_|refine zs2 ?_)))|(refine az ?_;(repeat(first|refine gk fun K hK=>?_|refine zs2 ?_))))
         (refine aq (aj (sl':=[(0,dN (hd a)),(1,dN (hd b)),(5, .own 5),(6,zI ((c+x+y:Nat):Int)),(7,zI (i:Nat))]) (ow':=[(5,⟨3,1,o.map hN⟩)]) au ay) ?_)
         (repeat(first|refine gk fun K hK=>?_|refine zs2 ?_));(refine gar ?_;refine zs4 ?_;refine zs4 ?_;refine sY ?_;refine mV ?_;refine vD ?_;refine zs6 ?_;refine af ?_);(repeat(first|refine gk fun K hK=>?_|refine zs2 ?_));refine rn ?_;(repeat(first|refine gk fun K hK=>?_|refine zs2 ?_));refine aZ ?_;(repeat(first|refine gk fun K hK=>?_|refine zs2 ?_))
         simp only[nx,inB];exact⟨M+1-(i+1),_,by omega,(aj (sl':=[(0,dN (hd a)),(1,dN (hd b)),(5, .own 5),(6,zI (((c+x+y)/65536:Nat):Int)),(7,zI ((i+1:Nat):Int))]) (ow':=[(5,⟨3,1,o.map hN++[hN ((c+x+y)%65536)]⟩)]) au ay),i+1,o++[(c+x+y)%65536],(c+x+y)/65536,rfl,hlen,hdig,by omega,by omega,STEP,by rw[hms]⟩)
end DW
end
section
open Go.RowKit
namespace DW
theorem vb{a b o:List Nat}{i c:Nat}(hi:o.length=i)(h:Dg.vl 65536 o+Dg.vl 65536 (b.take i)=Dg.vl 65536 (a.take i)+c*65536^i)(hc:b.getD i 0+c<=a.getD i 0):
  Dg.vl 65536 (o++[a.getD i 0-b.getD i 0-c])+Dg.vl 65536 (b.take (i+1))=Dg.vl 65536 (a.take (i+1))+0*65536^(i+1):=by
 have:=Dg.wG (B:=65536) (a:=a) (b:=b) (o:=o++[0]) (i:=i) (c:=c) bG zb53 hc;rw[Dg.gP bG,List.take_append_of_le_length (by omega),List.take_of_length_le (by omega)]at this;exact this
theorem vc{a b o:List Nat}{i c:Nat}(hi:o.length=i)(h:Dg.vl 65536 o+Dg.vl 65536 (b.take i)=Dg.vl 65536 (a.take i)+c*65536^i)(hb:b.getD i 0+c<=a.getD i 0+65536):
  Dg.vl 65536 (o++[a.getD i 0+65536-b.getD i 0-c])+Dg.vl 65536 (b.take (i+1))=Dg.vl 65536 (a.take (i+1))+1*65536^(i+1):=by
 have:=Dg.wH (B:=65536) (a:=a) (b:=b) (o:=o++[0]) (i:=i) (c:=c) bG zb53 hb;rw[Dg.gP bG,List.take_append_of_le_length (by omega),List.take_of_length_le (by omega)]at this;exact this
set_option maxRecDepth 20000
set_option maxHeartbeats 1000000
theorem nD(a b:Nat)(ha:(hd a).length<=800000000)(hba:b<=a):Fn Tryz.prog 154 [dN (hd a),dN (hd b)] (dN (hd (a-b))):=by
 refine bn Tryz.func154 ae rfl rfl rfl fun X0=>?_;simp only[aE];have hlb:(hd b).length<=(hd a).length:=il hba
 (repeat(first|refine gk fun K hK=>?_|refine zs2 ?_));refine cw ?_;(repeat(first|refine gk fun K hK=>?_|refine zs2 ?_));refine cw ?_;(repeat(first|refine gk fun K hK=>?_|refine zs2 ?_));refine aS ?_;(repeat(first|refine gk fun K hK=>?_|refine zs2 ?_));refine aS ?_;(repeat(first|refine gk fun K hK=>?_|refine zs2 ?_))
 refine aq (cY (t:=5) (k:=5) (T:=3) (wd:=1) fI rfl rfl bZ) ?_
 (refine aq (aj (sl':=[(0,dN (hd a)),(1,dN (hd b)),(5, .own 5),(6,zI 0),(7,zI 0)]) (ow':=[(5,⟨3,1,[]⟩)]) au ay) ?_)
 refine aF (fun r s=>∃i o c,r=(hd a).length-i/\i<=(hd a).length/\o.length=i/\Dg.dig 65536 o/\c<=1/\Dg.vl 65536 o+Dg.vl 65536 ((hd b).take i)=Dg.vl 65536 ((hd a).take i)+c*65536^i/\s=⟨[(0,dN (hd a)),(1,dN (hd b)),(5, .own 5),(6,zI (c:Nat)),(7,zI (i:Nat))],[(5,⟨3,1,o.map hN⟩)]⟩) (m:=(hd a).length) ⟨0,[],0,by omega,by omega,rfl,fun _ h=>(by cases h),by omega,by simp[Dg.vl],rfl⟩ fun r s hs=>?_;obtain⟨i,o,c,rfl,hia,ho,hdo,hc,hv,rfl⟩:=hs;by_cases hend:i=(hd a).length
 ·have e : Dg.vl 65536 o = a - b := by
   rw[List.take_of_length_le (by omega),List.take_of_length_le (by omega),fi,fi]at hv;have h1:=Dg.bf hdo;rw[ho]at h1;rcases(show c=0\/c=1 by omega)with h|h
   ·subst h;rw[Nat.zero_mul]at hv;omega
   ·subst h;rw[Nat.one_mul]at hv;omega
  have T:=rD (l:=o) (by omega) hdo e;clear hv
  (repeat(first|refine gk fun K hK=>?_|refine zs2 ?_));refine aH ?_;(repeat(first|refine gk fun K hK=>?_|refine zs2 ?_))
  refine az ?_
  (repeat(first|refine gk fun K hK=>?_|refine zs2 ?_))
  refine aq (aG (k:=5) bc bJ bI) ?_;refine lu ?_
  (repeat(first|refine gk fun K hK=>?_|refine zs2 ?_))
  exact⟨_,Sh.refl, .one (.tmp 4) _ rfl (.tmp 4 rfl)⟩
 ·have hxl:(hd a).getD i 0<65536:=Dg.aR (fw a) (by decide) i;have hyl:(hd b).getD i 0<65536:=Dg.aR (fw b) (by decide) i;have hx:(hd a)[i]?=some ((hd a).getD i 0):=kS (by omega);have hy:i<(hd b).length->(hd b)[i]?=some ((hd b).getD i 0):=kS;have hy0:(hd b).length<=i->(hd b).getD i 0=0:=pV;have LO:=vb (a:=hd a) (b:=hd b) ho hv;have HI:=vc (a:=hd a) (b:=hd b) ho hv;obtain⟨x,hxd⟩:∃x,x=(hd a).getD i 0:=⟨_,rfl⟩;obtain⟨y,hyd⟩:∃y,y=(hd b).getD i 0:=⟨_,rfl⟩;rw[<-hxd]at hxl hx LO HI;rw[<-hyd]at hyl hy hy0 LO HI;clear hxd hyd hv;have hye:i<(hd b).length\/((hd b).length<=i/\y=0):=by
   by_cases h:i<(hd b).length
   ·exact .inl h
   ·exact .inr ⟨by omega,hy0 (by omega)⟩
  have hlen:∀q,(o++[q]).length=i+1:=fun q=>by simp[ho]
  by_cases hge:y+c<=x
  ·have LO':=LO hge;clear LO HI;rcases hye with h6|⟨h6,h7⟩;all_goals
    (repeat(first|refine gk fun K hK=>?_|refine zs2 ?_));refine aH ?_;(repeat(first|refine gk fun K hK=>?_|refine zs2 ?_))
    refine av ?_
    (repeat(first|refine gk fun K hK=>?_|refine zs2 ?_));refine Gu ?_;(repeat(first|refine gk fun K hK=>?_|refine zs2 ?_));refine aH ?_;(repeat(first|refine gk fun K hK=>?_|refine zs2 ?_))
    (first|(refine av ?_;(repeat(first|refine gk fun K hK=>?_|refine zs2 ?_));refine Gt ?_;(repeat(first|refine gk fun K hK=>?_|refine zs2 ?_)))|(refine az ?_;(repeat(first|refine gk fun K hK=>?_|refine zs2 ?_))))
    (repeat(first|refine gk fun K hK=>?_|refine zs2 ?_));refine aS ?_;(repeat(first|refine gk fun K hK=>?_|refine zs2 ?_));refine eW ?_;(repeat(first|refine gk fun K hK=>?_|refine zs2 ?_))
    refine az ?_
    (refine aq (aj (sl':=[(0,dN (hd a)),(1,dN (hd b)),(5, .own 5),(6,zI 0),(7,zI (i:Nat)),(8,hN (x-y-c))]) (ow':=[(5,⟨3,1,o.map hN⟩)]) au ay) ?_)
    (repeat(first|refine gk fun K hK=>?_|refine zs2 ?_));refine po ?_;(repeat(first|refine gk fun K hK=>?_|refine zs2 ?_));refine aZ ?_;(repeat(first|refine gk fun K hK=>?_|refine zs2 ?_))
    simp only[nx,inB];exact⟨(hd a).length-(i+1),_,by omega,(aj (sl':=[(0,dN (hd a)),(1,dN (hd b)),(5, .own 5),(6,zI ((0:Nat):Int)),(7,zI ((i+1:Nat):Int))]) (ow':=[(5,⟨3,1,o.map hN++[hN (x-y-c)]⟩)]) au ay),i+1,o++[x-y-c],0,rfl,by omega,hlen _,kZ hdo (by omega),by omega,LO',by rw[kQ]⟩
  ·have HI':=HI (by omega);clear LO HI;rcases hye with h6|⟨h6,h7⟩;all_goals
    (repeat(first|refine gk fun K hK=>?_|refine zs2 ?_));refine aH ?_;(repeat(first|refine gk fun K hK=>?_|refine zs2 ?_))
    refine av ?_
    (repeat(first|refine gk fun K hK=>?_|refine zs2 ?_));refine Gu ?_;(repeat(first|refine gk fun K hK=>?_|refine zs2 ?_));refine aH ?_;(repeat(first|refine gk fun K hK=>?_|refine zs2 ?_))
    (first|(refine av ?_;(repeat(first|refine gk fun K hK=>?_|refine zs2 ?_));refine Gt ?_;(repeat(first|refine gk fun K hK=>?_|refine zs2 ?_)))|(refine az ?_;(repeat(first|refine gk fun K hK=>?_|refine zs2 ?_))))
    (repeat(first|refine gk fun K hK=>?_|refine zs2 ?_));refine aS ?_;(repeat(first|refine gk fun K hK=>?_|refine zs2 ?_));refine eW ?_;(repeat(first|refine gk fun K hK=>?_|refine zs2 ?_))
    refine av ?_
    (repeat(first|refine gk fun K hK=>?_|refine zs2 ?_));(refine gar ?_;refine zs4 ?_;refine zA ?_;refine zs6 ?_;refine kF ?_;refine af ?_);(repeat(first|refine gk fun K hK=>?_|refine zs2 ?_))
    (refine aq (aj (sl':=[(0,dN (hd a)),(1,dN (hd b)),(5, .own 5),(6,zI 1),(7,zI (i:Nat)),(8,hN (x+65536-y-c))]) (ow':=[(5,⟨3,1,o.map hN⟩)]) au ay) ?_)
    (repeat(first|refine gk fun K hK=>?_|refine zs2 ?_));refine po ?_;(repeat(first|refine gk fun K hK=>?_|refine zs2 ?_));refine aZ ?_;(repeat(first|refine gk fun K hK=>?_|refine zs2 ?_))
    simp only[nx,inB];exact⟨(hd a).length-(i+1),_,by omega,(aj (sl':=[(0,dN (hd a)),(1,dN (hd b)),(5, .own 5),(6,zI ((1:Nat):Int)),(7,zI ((i+1:Nat):Int))]) (ow':=[(5,⟨3,1,o.map hN++[hN (x+65536-y-c)]⟩)]) au ay),i+1,o++[x+65536-y-c],1,rfl,by omega,hlen _,kZ hdo (by omega),by omega,HI',by rw[kQ]⟩
end DW
end
section
open Go.RowKit
namespace DW
theorem rH{l m o:List Nat}{i k x c:Nat}(hl:Dg.dig 65536 l)(hm:Dg.dig 65536 m)(hil:i<l.length)(hx:x=l.getD i 0)(h:Dg.vl 65536 o+c*65536^(i+k)=Dg.vl 65536 (l.take i)*Dg.vl 65536 m+x*Dg.vl 65536 (m.take k)*65536^i)(hc:c≠0):k<=m.length:=by
 apply Nat.le_of_not_lt;intro hlt;rw[List.take_of_length_le (l:=m) (by omega)]at h;have e:Dg.vl 65536 (l.take (i+1))*Dg.vl 65536 m=Dg.vl 65536 (l.take i)*Dg.vl 65536 m+x*Dg.vl 65536 m*65536^i:=by
  rw[Dg.bL,<-hx,Nat.add_mul,Nat.mul_right_comm]
 have h1:=Dg.bf (Dg.ez hl (i+1));rw[List.length_take,Nat.min_eq_left (by omega)]at h1;have h2:=Dg.bf hm;have h3:Dg.vl 65536 (l.take (i+1))*Dg.vl 65536 m<=65536^(i+1)*65536^m.length:=Nat.mul_le_mul (Nat.le_of_lt h1) (Nat.le_of_lt h2);rw[<-Nat.pow_add]at h3;have h4:(65536:Nat)^(i+1+m.length)<=65536^(i+k):=Nat.pow_le_pow_right (by decide) (by omega);have h5:1*65536^(i+k)<=c*65536^(i+k):=Nat.mul_le_mul_right _ (by omega);have h6:0<(65536:Nat)^(i+1+m.length):=Nat.pow_pos (by decide);have h7:Dg.vl 65536 (l.take (i+1))*Dg.vl 65536 m<65536^(i+1)*65536^m.length:=by
  by_cases hz:Dg.vl 65536 m=0
  ·rw[hz,Nat.mul_zero,<-Nat.pow_add];exact h6
  ·exact Nat.mul_lt_mul_of_lt_of_le h1 (Nat.le_of_lt h2) (by omega)
 rw[<-Nat.pow_add]at h7;omega
theorem AA{l m o:List Nat}{i k x:Nat}(hk:m.length<=k)(hx:x=l.getD i 0)(h:Dg.vl 65536 o+0*65536^(i+k)=Dg.vl 65536 (l.take i)*Dg.vl 65536 m+x*Dg.vl 65536 (m.take k)*65536^i):Dg.vl 65536 o=Dg.vl 65536 (l.take (i+1))*Dg.vl 65536 m:=by
 rw[List.take_of_length_le hk,Nat.zero_mul,Nat.add_zero]at h;rw[h,Dg.bL,<-hx,Nat.add_mul,Nat.mul_right_comm x]
theorem kW{o:List Nat}{j:Nat}(h:j<o.length):o[j]?=some (o.getD j 0):=lJ h
theorem map_set(o:List Nat)(j v:Nat):(o.set j v).map hN=(o.map hN).set j (hN v):=List.map_set
set_option maxRecDepth 20000
set_option maxHeartbeats 1000000
theorem vS(l m:List Nat)(hl:Dg.dig 65536 l)(hm:Dg.dig 65536 m)(hll:l.length<=400000000)(hml:m.length<=400000000):Fn Tryz.prog 155 [dN l,dN m] (dN (hd (Dg.vl 65536 l*Dg.vl 65536 m))):=by
 refine bn Tryz.func155 ae rfl rfl rfl fun X0=>?_;simp only[aE];obtain⟨L,hL⟩:∃L,L=l.length+m.length+1:=⟨_,rfl⟩;have hLc:(l.length:Int)+(m.length:Int)+1=(L:Int):=by omega
 (repeat(first|refine gk fun K hK=>?_|refine zs2 ?_));refine cw ?_;(repeat(first|refine gk fun K hK=>?_|refine zs2 ?_));(refine gar ?_;refine zs4 ?_;refine zs5 ?_;refine zs4 ?_;refine zs5 ?_;refine nZ ?_;refine zA ?_;(refine Ec (k:=15) (T:=Tryz.prog.elem 40) (zv:=(.int .i64 0)) (d0:=(.sc (.int .i64 0))) (wd:=1) rfl rfl rfl rfl bq bq ae ae aa aa aa aa aa (by omega) zb61 aa bZ ?_);refine zs6 ?_;refine af ?_);(repeat(first|refine gk fun K hK=>?_|refine zs2 ?_));refine aS ?_;(repeat(first|refine gk fun K hK=>?_|refine zs2 ?_))
 (refine aq (aj (sl':=[(0,dN l),(1,dN m),(5, .own 15),(6,zI 0)]) (ow':=[(15,⟨3,1,List.replicate L (zI 0)⟩)]) au ay) ?_)
 refine aF (fun r s=>∃i o,r=l.length-i/\i<=l.length/\o.length=L/\Dg.dig 65536 o/\Dg.vl 65536 o=Dg.vl 65536 (l.take i)*Dg.vl 65536 m/\s=⟨[(0,dN l),(1,dN m),(5, .own 15),(6,zI (i:Nat))],[(15,⟨3,1,o.map hN⟩)]⟩) (m:=l.length) ⟨0,List.replicate L 0,by omega,by omega,by simp,Dg.eh (by decide) _,by rw[Dg.na];simp[Dg.vl],by rw[List.map_replicate];rfl⟩ fun r s hs=>?_;obtain⟨i,o,rfl,hil,ho,hdo,hv,rfl⟩:=hs;by_cases hend:i=l.length
 ·have e:Dg.vl 65536 o=Dg.vl 65536 l*Dg.vl 65536 m:=by rw[hv,List.take_of_length_le (by omega)]
  have T:=rD (l:=o) (by omega) hdo e;clear hv
  (repeat(first|refine gk fun K hK=>?_|refine zs2 ?_));refine aH ?_;(repeat(first|refine gk fun K hK=>?_|refine zs2 ?_))
  refine az ?_
  (repeat(first|refine gk fun K hK=>?_|refine zs2 ?_))
  refine aq (aG (k:=15) bc bJ bI) ?_;refine lu ?_
  (repeat(first|refine gk fun K hK=>?_|refine zs2 ?_))
  exact⟨_,Sh.refl, .one (.tmp 4) _ rfl (.tmp 4 rfl)⟩
 ·have hil':i<l.length:=by omega
  obtain⟨x,hxd⟩:∃x,x=l.getD i 0:=⟨_,rfl⟩;have hx:l[i]?=some x:=by rw[hxd];exact kW hil'
  have hxl:x<65536:=by rw[hxd];exact Dg.aR hl (by decide) i
  (repeat(first|refine gk fun K hK=>?_|refine zs2 ?_));refine aH ?_;(repeat(first|refine gk fun K hK=>?_|refine zs2 ?_))
  refine av ?_
  (repeat(first|refine gk fun K hK=>?_|refine zs2 ?_));refine aS ?_;(repeat(first|refine gk fun K hK=>?_|refine zs2 ?_));refine aS ?_;(repeat(first|refine gk fun K hK=>?_|refine zs2 ?_))
  (refine aq (aj (sl':=[(0,dN l),(1,dN m),(5, .own 15),(6,zI (i:Nat)),(7,zI 0),(8,zI 0)]) (ow':=[(15,⟨3,1,o.map hN⟩)]) au ay) ?_)
  refine aF (fun r s=>∃k o c,r=m.length+1-k/\o.length=L/\Dg.dig 65536 o/\c<65536/\(k<=m.length\/(k<=m.length+1/\c=0))/\Dg.vl 65536 o+c*65536^(i+k)=Dg.vl 65536 (l.take i)*Dg.vl 65536 m+x*Dg.vl 65536 (m.take k)*65536^i/\s=⟨[(0,dN l),(1,dN m),(5, .own 15),(6,zI (i:Nat)),(7,zI (c:Nat)),(8,zI (k:Nat))],[(15,⟨3,1,o.map hN⟩)]⟩) (m:=m.length+1) ⟨0,o,0,by omega,ho,hdo,by omega, .inl (by omega),by rw[hv];simp[Dg.vl],rfl⟩ fun r s hs=>?_;clear hv hdo ho;obtain⟨k,o,c,rfl,ho,hdo,hc,hkm,hv,rfl⟩:=hs;by_cases hend2:m.length<=k/\c=0
  ·obtain⟨h1,h2⟩:=hend2;have e:Dg.vl 65536 o=Dg.vl 65536 (l.take (i+1))*Dg.vl 65536 m:=by subst h2;exact AA h1 hxd hv
   clear hv
   (repeat(first|refine gk fun K hK=>?_|refine zs2 ?_));refine zY ?_;(repeat(first|refine gk fun K hK=>?_|refine zs2 ?_))
   refine az ?_
   (repeat(first|refine gk fun K hK=>?_|refine zs2 ?_));refine aZ ?_;(repeat(first|refine gk fun K hK=>?_|refine zs2 ?_))
   simp only[nx,inB];exact⟨l.length-(i+1),_,by omega,(aj (sl':=[(0,dN l),(1,dN m),(5, .own 15),(6,zI ((i+1:Nat):Int))]) (ow':=[(15,⟨3,1,o.map hN⟩)]) au ay),i+1,o,rfl,by omega,ho,hdo,e,rfl⟩
  ·have hk : k <= m.length := by
    by_cases h:c=0
    ·omega
    ·exact rH hl hm hil' hxd hv h
   have hik:i+k<o.length:=by omega
   have STEP:=Dg.rG (B:=65536) (b:=m) (o:=o) (i:=i) (k:=k) (x:=x) (c:=c) hik hv;have hu:=kW hik;have hul:o.getD (i+k) 0<65536:=Dg.aR hdo (by decide) _;have hyl:m.getD k 0<65536:=Dg.aR hm (by decide) _;have hy:k<m.length->m[k]?=some (m.getD k 0):=kW;have hy0:m.length<=k->m.getD k 0=0:=pV;clear hv;obtain⟨u,hud⟩:∃u,u=o.getD (i+k) 0:=⟨_,rfl⟩;obtain⟨y,hyd⟩:∃y,y=m.getD k 0:=⟨_,rfl⟩;rw[<-hud]at hul hu STEP;rw[<-hyd]at hyl hy hy0 STEP;clear hud hyd;have hxy:x*y<=65535*65535:=Nat.mul_le_mul (by omega) (by omega);have hxy0:y=0->x*y=0:=fun h=>by rw[h,Nat.mul_zero]
   have hc2:(x*y+u+c)/65536<65536:=by
    rw[Nat.div_lt_iff_lt_mul (by decide)];omega
   have hik':(i:Int)+(k:Int)=((i+k:Nat):Int):=by omega
   have hdig:=Dg.cX hdo (j:=i+k) (Nat.mod_lt (x*y+u+c) (by decide:0<65536));have hms:=map_set o (i+k) ((x*y+u+c)%65536);have hlen:(o.set (i+k) ((x*y+u+c)%65536)).length=L:=by rw[List.length_set];exact ho
   have hcast:((x*y:Nat):Int)=(x:Int)*(y:Int):=Int.natCast_mul x y;have hye:k<m.length\/(m.length<=k/\y=0/\c≠0):=by
    by_cases h:k<m.length
    ·exact .inl h
    ·exact .inr ⟨by omega,hy0 (by omega),by omega⟩
   rcases hye with h6|⟨h6,h7,h8⟩
   ·have hye:=hy h6
    (repeat(first|refine gk fun K hK=>?_|refine zs2 ?_));refine zY ?_;(repeat(first|refine gk fun K hK=>?_|refine zs2 ?_))
    refine av ?_
    (repeat(first|refine gk fun K hK=>?_|refine zs2 ?_));refine Gs ?_;(repeat(first|refine gk fun K hK=>?_|refine zs2 ?_));refine aH ?_;(repeat(first|refine gk fun K hK=>?_|refine zs2 ?_))
    refine av ?_
    (repeat(first|refine gk fun K hK=>?_|refine zs2 ?_));(refine zs70 ?_;refine aQ ?_;refine aQ ?_;refine aQ ?_;refine cR ?_;refine bp ?_;refine aQ ?_;refine aQ ?_;refine cR ?_;refine bp ?_;(first|refine cE rfl rfl rfl aa Ao aa aa ?_|((try refine aB ?_);refine aL1 rfl rfl rfl Ao ?_));(first|refine cE rfl rfl rfl aa tz aa aa ?_|((try refine aB ?_);refine aL1 rfl rfl rfl tz ?_));refine mX ?_;refine di ?_);(repeat(first|refine gk fun K hK=>?_|refine zs2 ?_))
    (refine aq (aj (sl':=[(0,dN l),(1,dN m),(5, .own 15),(6,zI (i:Nat)),(7,zI ((x*y+u+c:Nat):Int)),(8,zI (k:Nat))]) (ow':=[(15,⟨3,1,o.map hN⟩)]) au ay) ?_)
    (repeat(first|refine gk fun K hK=>?_|refine zs2 ?_));refine Gq ?_;(repeat(first|refine gk fun K hK=>?_|refine zs2 ?_));refine rn ?_;(repeat(first|refine gk fun K hK=>?_|refine zs2 ?_));refine aZ ?_;(repeat(first|refine gk fun K hK=>?_|refine zs2 ?_))
    simp only[nx,inB];exact⟨m.length+1-(k+1),_,by omega,(aj (sl':=[(0,dN l),(1,dN m),(5, .own 15),(6,zI (i:Nat)),(7,zI (((x*y+u+c)/65536:Nat):Int)),(8,zI ((k+1:Nat):Int))]) (ow':=[(15,⟨3,1,(o.map hN).set (i+k) (hN ((x*y+u+c)%65536))⟩)]) au ay),k+1,o.set (i+k) ((x*y+u+c)%65536),(x*y+u+c)/65536,rfl,hlen,hdig,hc2,by omega,STEP,by rw[hms]⟩
   ·have h9:=hxy0 h7
    (repeat(first|refine gk fun K hK=>?_|refine zs2 ?_));refine zY ?_;(repeat(first|refine gk fun K hK=>?_|refine zs2 ?_))
    refine av ?_
    (repeat(first|refine gk fun K hK=>?_|refine zs2 ?_));refine Gs ?_;(repeat(first|refine gk fun K hK=>?_|refine zs2 ?_));refine aH ?_;(repeat(first|refine gk fun K hK=>?_|refine zs2 ?_))
    refine az ?_
    (refine aq (aj (sl':=[(0,dN l),(1,dN m),(5, .own 15),(6,zI (i:Nat)),(7,zI ((x*y+u+c:Nat):Int)),(8,zI (k:Nat))]) (ow':=[(15,⟨3,1,o.map hN⟩)]) au ay) ?_)
    (repeat(first|refine gk fun K hK=>?_|refine zs2 ?_));refine Gq ?_;(repeat(first|refine gk fun K hK=>?_|refine zs2 ?_));refine rn ?_;(repeat(first|refine gk fun K hK=>?_|refine zs2 ?_));refine aZ ?_;(repeat(first|refine gk fun K hK=>?_|refine zs2 ?_))
    simp only[nx,inB];have hk1:k+1<=m.length\/(k+1<=m.length+1/\(x*y+u+c)/65536=0):=by
     refine .inr ⟨by omega,Classical.byContradiction fun h=>?_⟩;have:=rH hl hm hil' hxd STEP h;omega
    exact⟨m.length+1-(k+1),_,by omega,(aj (sl':=[(0,dN l),(1,dN m),(5, .own 15),(6,zI (i:Nat)),(7,zI (((x*y+u+c)/65536:Nat):Int)),(8,zI ((k+1:Nat):Int))]) (ow':=[(15,⟨3,1,(o.map hN).set (i+k) (hN ((x*y+u+c)%65536))⟩)]) au ay),k+1,o.set (i+k) ((x*y+u+c)%65536),(x*y+u+c)/65536,rfl,hlen,hdig,hc2,hk1,STEP,by rw[hms]⟩
end DW
end
end Go.Proofs.YtcgjmdpcplhanaaGreat
