/- Lemmas for the law: E5 E6 E7 E8 -/
import Derived.Test.YtcgjmdpcplhanaaGreatZt3
namespace Go.Proofs.YtcgjmdpcplhanaaGreat
section
theorem xo{p q:Prop}(h:q)(f:Wq q->p:=by(intro hW;((refine zs40 ?_;refine tH ?_;refine bR ?_;refine aZ ?_;refine aZ ?_;refine lg ?_;refine lg ?_;refine tG ?_;refine eA ?_));exact hW.out)):p:=f ⟨h⟩
theorem zs73{p q:Prop}(h:q)(f:Wq q->p:=by(intro hW;(refine aL1 rfl rfl rfl (by(apply jd;(exact rfl);(focus((apply ak;(conv=>lhs;whnf);(first|done|exact rfl))));(focus((apply ak;(conv=>lhs;whnf);(first|done|exact rfl))));(exact rfl);(exact rfl);(focus((first|exact TIMES g (by omega))));(exact rfl))) ?_);exact hW.out)):p:=f ⟨h⟩
theorem jf{p q:Prop}(h:q)(f:Wq q->p:=by(intro hW;(refine aL1 rfl rfl rfl mD ?_);exact hW.out)):p:=f ⟨h⟩
theorem CJ{p q:Prop}(h:q)(f:Wq q->p:=by(intro hW;((refine gar ?_;refine zs4 ?_;refine zs4 ?_;refine zs4 ?_;refine my ?_;refine zs73 ?_;refine jf ?_;refine af ?_));exact hW.out)):p:=f ⟨h⟩
theorem wQ{p q:Prop}(h:q)(f:Wq q->p:=by(intro hW;(refine aL1 rfl rfl rfl zb0 ?_);exact hW.out)):p:=f ⟨h⟩
theorem zs67{p q:Prop}(h:q)(f:Wq q->p:=by(intro hW;(refine aL1 rfl rfl rfl (by(first|(apply Dw;(exact rfl);(focus((apply ak;(conv=>lhs;whnf);(first|done|exact rfl))));(focus((apply ak;(conv=>lhs;whnf);(first|done|exact rfl))));(omega))|(apply cq;(exact rfl);(focus((apply ak;(conv=>lhs;whnf);(first|done|exact rfl))));(focus((apply ak;(conv=>lhs;whnf);(first|done|exact rfl))));(exact rfl)))) ?_);exact hW.out)):p:=f ⟨h⟩
theorem eI{p q:Prop}(h:q)(f:Wq q->p:=by(intro hW;(refine aL1 rfl rfl rfl zb4 ?_);exact hW.out)):p:=f ⟨h⟩
theorem CR{p q:Prop}(h:q)(f:Wq q->p:=by(intro hW;((refine gar ?_;refine zs4 ?_;refine zs4 ?_;refine eI ?_;refine bs ?_;refine zs4 ?_;refine zs67 ?_;refine zs6 ?_;refine af ?_));exact hW.out)):p:=f ⟨h⟩
theorem CQ{p q:Prop}(h:q)(f:Wq q->p:=by(intro hW;((refine gar ?_;refine zs4 ?_;refine zs4 ?_;refine zs4 ?_;refine zs64 ?_;refine zs65 ?_;refine zs67 ?_;refine zs6 ?_;refine af ?_));exact hW.out)):p:=f ⟨h⟩
theorem zs70{p q:Prop}(h:q)(f:Wq q->p:=by(intro hW;(refine aL1 rfl rfl rfl zb3 ?_);exact hW.out)):p:=f ⟨h⟩
theorem zb58{p:Prop}(h:p:=by first|(apply Bb;assumption)|exact Int.toNat_natCast _|exact rfl):p:=h
theorem xp{p q:Prop}(h:q)(f:Wq q->p:=by(intro hW;((refine gar ?_;refine zs4 ?_;refine zs4 ?_;refine zs5 ?_;refine lh ?_;refine zs4 ?_;refine zs8 ?_;refine kX ?_;refine kY ?_;refine af ?_));exact hW.out)):p:=f ⟨h⟩
theorem td{p q:Prop}(h:q)(f:Wq q->p:=by(intro hW;((refine gar ?_;refine zs4 ?_;refine zs4 ?_;refine lh ?_;refine af ?_));exact hW.out)):p:=f ⟨h⟩
theorem zb13{p:Prop}(h:p:=by(first|(apply cq;(exact rfl);(focus((apply ak;(conv=>lhs;whnf);(first|done|exact rfl))));(focus((apply ak;(conv=>lhs;whnf);(first|done|exact rfl))));(exact rfl))|(apply Dz;(exact rfl);(focus((apply ak;(conv=>lhs;whnf);(first|done|exact rfl))));(focus((apply ak;(conv=>lhs;whnf);(first|done|exact rfl))));(kernel_rfl)))):p:=h
theorem wP{p q:Prop}(h:q)(f:Wq q->p:=by(intro hW;(refine aL1 rfl rfl rfl zb13 ?_);exact hW.out)):p:=f ⟨h⟩
theorem CG{p q:Prop}(h:q)(f:Wq q->p:=by(intro hW;((refine gar ?_;refine mz ?_;refine bs ?_;refine mz ?_;refine bs ?_;refine wP ?_;refine af ?_));exact hW.out)):p:=f ⟨h⟩
theorem zs68{p q:Prop}(h:q)(f:Wq q->p:=by(intro hW;((first|(apply ah 11;(focus kernel_rfl);(decide+kernel))|(apply ah 10;(focus kernel_rfl);(decide+kernel))|(apply ah 9;(focus kernel_rfl);(decide+kernel))|(apply ah 8;(focus kernel_rfl);(decide+kernel))|(apply ah 7;(focus kernel_rfl);(decide+kernel))|(apply ah 6;(focus kernel_rfl);(decide+kernel))|(apply ah 5;(focus kernel_rfl);(decide+kernel))|(apply ah 4;(focus kernel_rfl);(decide+kernel)));simp only[List.take_succ_cons,List.take_zero,List.drop_succ_cons,List.drop_zero]);exact hW.out)):p:=f ⟨h⟩
theorem zb15{p:Prop}(h:p:=by(first|(apply d_mul;(exact rfl);(focus((apply ak;(conv=>lhs;whnf);(first|done|exact rfl))));(focus((apply ak;(conv=>lhs;whnf);(first|done|exact rfl))));(omega))|(apply cq;(exact rfl);(focus((apply ak;(conv=>lhs;whnf);(first|done|exact rfl))));(focus((apply ak;(conv=>lhs;whnf);(first|done|exact rfl))));(exact rfl)))):p:=h
theorem CP{p q:Prop}(h:q)(f:Wq q->p:=by(intro hW;((refine gar ?_;refine zs4 ?_;refine zs4 ?_;refine zs4 ?_;refine zs4 ?_;refine oe ?_;refine eI ?_;refine bs ?_;refine oe ?_;refine zs6 ?_;refine af ?_));exact hW.out)):p:=f ⟨h⟩
theorem ik{p q:Prop}(h:q)(f:Wq q->p:=by(intro hW;((refine gar ?_;refine zs4 ?_;refine zs6 ?_;refine af ?_));exact hW.out)):p:=f ⟨h⟩
theorem zs69{p q:Prop}(h:q)(f:Wq q->p:=by(intro hW;((refine je (i:=i+k) rfl rfl rfl bu bu aR aa lk aa dK aa ae ll ?_));exact hW.out)):p:=f ⟨h⟩
theorem CN{p q:Prop}(h:q)(f:Wq q->p:=by(intro hW;((refine gar ?_;refine zs4 ?_;refine zs4 ?_;refine zs4 ?_;refine oe ?_;refine zs4 ?_;refine qI ?_;refine eI ?_;refine zs69 ?_;refine af ?_));exact hW.out)):p:=f ⟨h⟩
theorem zs74{p q:Prop}(h:q)(f:Wq q->p:=by(intro hW;((refine nT (k:=4) (z:=(.agg #[.bool false,.slice none 0 0])) (d:=(.nm 0)) rfl rfl rfl rfl rfl ae aa aa dK aa aa cM ?_));exact hW.out)):p:=f ⟨h⟩
theorem sZ{p q:Prop}(h:q)(f:Wq q->p:=by(intro hW;((refine gar ?_;refine gQ ?_;refine gQ ?_;refine zs74 ?_;refine af ?_));exact hW.out)):p:=f ⟨h⟩
theorem CH{p q:Prop}(h:q)(f:Wq q->p:=by(intro hW;((refine zs35 ?_;refine bR ?_;refine og ?_;refine bR ?_;refine og ?_;refine oh ?_;refine oh ?_;refine eA ?_));exact hW.out)):p:=f ⟨h⟩
end
section
open Go.RowKit
namespace DW
theorem sT{a b o:List Nat}{i c:Nat}(hi:o.length=i)(h:Dg.vl 65536 o+Dg.vl 65536 (b.take i)=Dg.vl 65536 (a.take i)+c*65536^i)(hc:b.getD i 0+c<=a.getD i 0):
  Dg.vl 65536 (o++[a.getD i 0-b.getD i 0-c])+Dg.vl 65536 (b.take (i+1))=Dg.vl 65536 (a.take (i+1))+0*65536^(i+1):=by
 have:=Dg.uD (B:=65536) (a:=a) (b:=b) (o:=o++[0]) (i:=i) (c:=c) cA zb52 hc;rw[Dg.fE cA,List.take_append_of_le_length (by omega),List.take_of_length_le (by omega)]at this;exact this
theorem sU{a b o:List Nat}{i c:Nat}(hi:o.length=i)(h:Dg.vl 65536 o+Dg.vl 65536 (b.take i)=Dg.vl 65536 (a.take i)+c*65536^i)(hb:b.getD i 0+c<=a.getD i 0+65536):
  Dg.vl 65536 (o++[a.getD i 0+65536-b.getD i 0-c])+Dg.vl 65536 (b.take (i+1))=Dg.vl 65536 (a.take (i+1))+1*65536^(i+1):=by
 have:=Dg.uE (B:=65536) (a:=a) (b:=b) (o:=o++[0]) (i:=i) (c:=c) cA zb52 hb;rw[Dg.fE cA,List.take_append_of_le_length (by omega),List.take_of_length_le (by omega)]at this;exact this
set_option maxRecDepth 20000
set_option maxHeartbeats 1000000
theorem lK(a b:Nat)(ha:(hd a).length<=800000000)(hba:b<=a):Fn Tryz.prog 154 [dN (hd a),dN (hd b)] (dN (hd (a-b))):=by
 refine aY Tryz.func154 ae rfl rfl rfl fun X0=>?_;simp only[aK];have hlb:(hd b).length<=(hd a).length:=fS hba
 (repeat(first|refine gk fun K hK=>?_|refine zs2 ?_));refine cL ?_;(repeat(first|refine gk fun K hK=>?_|refine zs2 ?_));refine cL ?_;(repeat(first|refine gk fun K hK=>?_|refine zs2 ?_));refine aX ?_;(repeat(first|refine gk fun K hK=>?_|refine zs2 ?_));refine aX ?_;(repeat(first|refine gk fun K hK=>?_|refine zs2 ?_))
 refine az (eu (t:=5) (k:=5) (T:=3) (wd:=1) iK rfl rfl cM) ?_
 (refine az (au (sl':=[(0,dN (hd a)),(1,dN (hd b)),(5, .own 5),(6,zI 0),(7,zI 0)]) (ow':=[(5,⟨3,1,[]⟩)]) ay aD) ?_)
 refine aV (fun r s=>∃i o c,r=(hd a).length-i/\i<=(hd a).length/\o.length=i/\Dg.dig 65536 o/\c<=1/\Dg.vl 65536 o+Dg.vl 65536 ((hd b).take i)=Dg.vl 65536 ((hd a).take i)+c*65536^i/\s=⟨[(0,dN (hd a)),(1,dN (hd b)),(5, .own 5),(6,zI (c:Nat)),(7,zI (i:Nat))],[(5,⟨3,1,o.map hN⟩)]⟩) (m:=(hd a).length) ⟨0,[],0,by omega,by omega,rfl,fun _ h=>(by cases h),by omega,by simp[Dg.vl],rfl⟩ fun r s hs=>?_;obtain⟨i,o,c,rfl,hia,ho,hdo,hc,hv,rfl⟩:=hs;by_cases hend:i=(hd a).length
 ·have e : Dg.vl 65536 o = a - b := by
   rw[List.take_of_length_le (by omega),List.take_of_length_le (by omega),eF,eF]at hv;have h1:=Dg.aP hdo;rw[ho]at h1;rcases(show c=0\/c=1 by omega)with h|h
   ·subst h;rw[Nat.zero_mul]at hv;omega
   ·subst h;rw[Nat.one_mul]at hv;omega
  have T:=pq (l:=o) (by omega) hdo e;clear hv
  (repeat(first|refine gk fun K hK=>?_|refine zs2 ?_));refine aU ?_;(repeat(first|refine gk fun K hK=>?_|refine zs2 ?_))
  refine aB ?_
  (repeat(first|refine gk fun K hK=>?_|refine zs2 ?_))
  refine az (aE (k:=5) aR bz bw) ?_;refine im ?_
  (repeat(first|refine gk fun K hK=>?_|refine zs2 ?_))
  exact⟨_,Sh.refl, .one (.tmp 4) _ rfl (.tmp 4 rfl)⟩
 ·have hxl:(hd a).getD i 0<65536:=Dg.aJ (eR a) (by decide) i;have hyl:(hd b).getD i 0<65536:=Dg.aJ (eR b) (by decide) i;have hx:(hd a)[i]?=some ((hd a).getD i 0):=jt (by omega);have hy:i<(hd b).length->(hd b)[i]?=some ((hd b).getD i 0):=jt;have hy0:(hd b).length<=i->(hd b).getD i 0=0:=nM;have LO:=sT (a:=hd a) (b:=hd b) ho hv;have HI:=sU (a:=hd a) (b:=hd b) ho hv;obtain⟨x,hxd⟩:∃x,x=(hd a).getD i 0:=⟨_,rfl⟩;obtain⟨y,hyd⟩:∃y,y=(hd b).getD i 0:=⟨_,rfl⟩;rw[<-hxd]at hxl hx LO HI;rw[<-hyd]at hyl hy hy0 LO HI;clear hxd hyd hv;have hye:i<(hd b).length\/((hd b).length<=i/\y=0):=by
   by_cases h:i<(hd b).length
   ·exact .inl h
   ·exact .inr ⟨by omega,hy0 (by omega)⟩
  have hlen:∀q,(o++[q]).length=i+1:=fun q=>by simp[ho]
  by_cases hge:y+c<=x
  ·have LO':=LO hge;clear LO HI;rcases hye with h6|⟨h6,h7⟩;all_goals
    (repeat(first|refine gk fun K hK=>?_|refine zs2 ?_));refine aU ?_;(repeat(first|refine gk fun K hK=>?_|refine zs2 ?_))
    refine aA ?_
    (repeat(first|refine gk fun K hK=>?_|refine zs2 ?_));refine CR ?_;(repeat(first|refine gk fun K hK=>?_|refine zs2 ?_));refine aU ?_;(repeat(first|refine gk fun K hK=>?_|refine zs2 ?_))
    (first|(refine aA ?_;(repeat(first|refine gk fun K hK=>?_|refine zs2 ?_));refine CQ ?_;(repeat(first|refine gk fun K hK=>?_|refine zs2 ?_)))|(refine aB ?_;(repeat(first|refine gk fun K hK=>?_|refine zs2 ?_))))
    (repeat(first|refine gk fun K hK=>?_|refine zs2 ?_));refine aX ?_;(repeat(first|refine gk fun K hK=>?_|refine zs2 ?_));refine gf ?_;(repeat(first|refine gk fun K hK=>?_|refine zs2 ?_))
    refine aB ?_
    (refine az (au (sl':=[(0,dN (hd a)),(1,dN (hd b)),(5, .own 5),(6,zI 0),(7,zI (i:Nat)),(8,hN (x-y-c))]) (ow':=[(5,⟨3,1,o.map hN⟩)]) ay aD) ?_)
    (repeat(first|refine gk fun K hK=>?_|refine zs2 ?_));refine pd ?_;(repeat(first|refine gk fun K hK=>?_|refine zs2 ?_));refine ba ?_;(repeat(first|refine gk fun K hK=>?_|refine zs2 ?_))
    simp only[nx,inB];exact⟨(hd a).length-(i+1),_,by omega,(au (sl':=[(0,dN (hd a)),(1,dN (hd b)),(5, .own 5),(6,zI ((0:Nat):Int)),(7,zI ((i+1:Nat):Int))]) (ow':=[(5,⟨3,1,o.map hN++[hN (x-y-c)]⟩)]) ay aD),i+1,o++[x-y-c],0,rfl,by omega,hlen _,jA hdo (by omega),by omega,LO',by rw[jr]⟩
  ·have HI':=HI (by omega);clear LO HI;rcases hye with h6|⟨h6,h7⟩;all_goals
    (repeat(first|refine gk fun K hK=>?_|refine zs2 ?_));refine aU ?_;(repeat(first|refine gk fun K hK=>?_|refine zs2 ?_))
    refine aA ?_
    (repeat(first|refine gk fun K hK=>?_|refine zs2 ?_));refine CR ?_;(repeat(first|refine gk fun K hK=>?_|refine zs2 ?_));refine aU ?_;(repeat(first|refine gk fun K hK=>?_|refine zs2 ?_))
    (first|(refine aA ?_;(repeat(first|refine gk fun K hK=>?_|refine zs2 ?_));refine CQ ?_;(repeat(first|refine gk fun K hK=>?_|refine zs2 ?_)))|(refine aB ?_;(repeat(first|refine gk fun K hK=>?_|refine zs2 ?_))))
    (repeat(first|refine gk fun K hK=>?_|refine zs2 ?_));refine aX ?_;(repeat(first|refine gk fun K hK=>?_|refine zs2 ?_));refine gf ?_;(repeat(first|refine gk fun K hK=>?_|refine zs2 ?_))
    refine aA ?_
    (repeat(first|refine gk fun K hK=>?_|refine zs2 ?_));(refine gar ?_;refine zs4 ?_;refine wS ?_;refine zs6 ?_;refine gP ?_;refine af ?_);(repeat(first|refine gk fun K hK=>?_|refine zs2 ?_))
    (refine az (au (sl':=[(0,dN (hd a)),(1,dN (hd b)),(5, .own 5),(6,zI 1),(7,zI (i:Nat)),(8,hN (x+65536-y-c))]) (ow':=[(5,⟨3,1,o.map hN⟩)]) ay aD) ?_)
    (repeat(first|refine gk fun K hK=>?_|refine zs2 ?_));refine pd ?_;(repeat(first|refine gk fun K hK=>?_|refine zs2 ?_));refine ba ?_;(repeat(first|refine gk fun K hK=>?_|refine zs2 ?_))
    simp only[nx,inB];exact⟨(hd a).length-(i+1),_,by omega,(au (sl':=[(0,dN (hd a)),(1,dN (hd b)),(5, .own 5),(6,zI ((1:Nat):Int)),(7,zI ((i+1:Nat):Int))]) (ow':=[(5,⟨3,1,o.map hN++[hN (x+65536-y-c)]⟩)]) ay aD),i+1,o++[x+65536-y-c],1,rfl,by omega,hlen _,jA hdo (by omega),by omega,HI',by rw[jr]⟩
end DW
end
section
open Go.RowKit
namespace DW
theorem py{l m o:List Nat}{i k x c:Nat}(hl:Dg.dig 65536 l)(hm:Dg.dig 65536 m)(hil:i<l.length)(hx:x=l.getD i 0)(h:Dg.vl 65536 o+c*65536^(i+k)=Dg.vl 65536 (l.take i)*Dg.vl 65536 m+x*Dg.vl 65536 (m.take k)*65536^i)(hc:c≠0):k<=m.length:=by
 apply Nat.le_of_not_lt;intro hlt;rw[List.take_of_length_le (l:=m) (by omega)]at h;have e:Dg.vl 65536 (l.take (i+1))*Dg.vl 65536 m=Dg.vl 65536 (l.take i)*Dg.vl 65536 m+x*Dg.vl 65536 m*65536^i:=by
  rw[Dg.bA,<-hx,Nat.add_mul,Nat.mul_right_comm]
 have h1:=Dg.aP (Dg.du hl (i+1));rw[List.length_take,Nat.min_eq_left (by omega)]at h1;have h2:=Dg.aP hm;have h3:Dg.vl 65536 (l.take (i+1))*Dg.vl 65536 m<=65536^(i+1)*65536^m.length:=Nat.mul_le_mul (Nat.le_of_lt h1) (Nat.le_of_lt h2);rw[<-Nat.pow_add]at h3;have h4:(65536:Nat)^(i+1+m.length)<=65536^(i+k):=Nat.pow_le_pow_right (by decide) (by omega);have h5:1*65536^(i+k)<=c*65536^(i+k):=Nat.mul_le_mul_right _ (by omega);have h6:0<(65536:Nat)^(i+1+m.length):=Nat.pow_pos (by decide);have h7:Dg.vl 65536 (l.take (i+1))*Dg.vl 65536 m<65536^(i+1)*65536^m.length:=by
  by_cases hz:Dg.vl 65536 m=0
  ·rw[hz,Nat.mul_zero,<-Nat.pow_add];exact h6
  ·exact Nat.mul_lt_mul_of_lt_of_le h1 (Nat.le_of_lt h2) (by omega)
 rw[<-Nat.pow_add]at h7;omega
theorem xN{l m o:List Nat}{i k x:Nat}(hk:m.length<=k)(hx:x=l.getD i 0)(h:Dg.vl 65536 o+0*65536^(i+k)=Dg.vl 65536 (l.take i)*Dg.vl 65536 m+x*Dg.vl 65536 (m.take k)*65536^i):Dg.vl 65536 o=Dg.vl 65536 (l.take (i+1))*Dg.vl 65536 m:=by
 rw[List.take_of_length_le hk,Nat.zero_mul,Nat.add_zero]at h;rw[h,Dg.bA,<-hx,Nat.add_mul,Nat.mul_right_comm x]
theorem oM{o:List Nat}{j:Nat}(h:j<o.length):o[j]?=some (o.getD j 0):=jU h
theorem map_set(o:List Nat)(j v:Nat):(o.set j v).map hN=(o.map hN).set j (hN v):=List.map_set
set_option maxRecDepth 20000
set_option maxHeartbeats 1000000
theorem tZ(l m:List Nat)(hl:Dg.dig 65536 l)(hm:Dg.dig 65536 m)(hll:l.length<=400000000)(hml:m.length<=400000000):Fn Tryz.prog 155 [dN l,dN m] (dN (hd (Dg.vl 65536 l*Dg.vl 65536 m))):=by
 refine aY Tryz.func155 ae rfl rfl rfl fun X0=>?_;simp only[aK];obtain⟨L,hL⟩:∃L,L=l.length+m.length+1:=⟨_,rfl⟩;have hLc:(l.length:Int)+(m.length:Int)+1=(L:Int):=by omega
 (repeat(first|refine gk fun K hK=>?_|refine zs2 ?_));refine cL ?_;(repeat(first|refine gk fun K hK=>?_|refine zs2 ?_));(refine gar ?_;refine zs4 ?_;refine zs5 ?_;refine zs4 ?_;refine zs5 ?_;refine oe ?_;refine wS ?_;(refine AS (k:=15) (T:=Tryz.prog.elem 40) (zv:=(.int .i64 0)) (d0:=(.sc (.int .i64 0))) (wd:=1) rfl rfl rfl rfl bu bu ae ae aa aa aa aa aa (by omega) zb58 aa cM ?_);refine zs6 ?_;refine af ?_);(repeat(first|refine gk fun K hK=>?_|refine zs2 ?_));refine aX ?_;(repeat(first|refine gk fun K hK=>?_|refine zs2 ?_))
 (refine az (au (sl':=[(0,dN l),(1,dN m),(5, .own 15),(6,zI 0)]) (ow':=[(15,⟨3,1,List.replicate L (zI 0)⟩)]) ay aD) ?_)
 refine aV (fun r s=>∃i o,r=l.length-i/\i<=l.length/\o.length=L/\Dg.dig 65536 o/\Dg.vl 65536 o=Dg.vl 65536 (l.take i)*Dg.vl 65536 m/\s=⟨[(0,dN l),(1,dN m),(5, .own 15),(6,zI (i:Nat))],[(15,⟨3,1,o.map hN⟩)]⟩) (m:=l.length) ⟨0,List.replicate L 0,by omega,by omega,by simp,Dg.di (by decide) _,by rw[Dg.lp];simp[Dg.vl],by rw[List.map_replicate];rfl⟩ fun r s hs=>?_;obtain⟨i,o,rfl,hil,ho,hdo,hv,rfl⟩:=hs;by_cases hend:i=l.length
 ·have e:Dg.vl 65536 o=Dg.vl 65536 l*Dg.vl 65536 m:=by rw[hv,List.take_of_length_le (by omega)]
  have T:=pq (l:=o) (by omega) hdo e;clear hv
  (repeat(first|refine gk fun K hK=>?_|refine zs2 ?_));refine aU ?_;(repeat(first|refine gk fun K hK=>?_|refine zs2 ?_))
  refine aB ?_
  (repeat(first|refine gk fun K hK=>?_|refine zs2 ?_))
  refine az (aE (k:=15) aR bz bw) ?_;refine im ?_
  (repeat(first|refine gk fun K hK=>?_|refine zs2 ?_))
  exact⟨_,Sh.refl, .one (.tmp 4) _ rfl (.tmp 4 rfl)⟩
 ·have hil':i<l.length:=by omega
  obtain⟨x,hxd⟩:∃x,x=l.getD i 0:=⟨_,rfl⟩;have hx:l[i]?=some x:=by rw[hxd];exact oM hil'
  have hxl:x<65536:=by rw[hxd];exact Dg.aJ hl (by decide) i
  (repeat(first|refine gk fun K hK=>?_|refine zs2 ?_));refine aU ?_;(repeat(first|refine gk fun K hK=>?_|refine zs2 ?_))
  refine aA ?_
  (repeat(first|refine gk fun K hK=>?_|refine zs2 ?_));refine aX ?_;(repeat(first|refine gk fun K hK=>?_|refine zs2 ?_));refine aX ?_;(repeat(first|refine gk fun K hK=>?_|refine zs2 ?_))
  (refine az (au (sl':=[(0,dN l),(1,dN m),(5, .own 15),(6,zI (i:Nat)),(7,zI 0),(8,zI 0)]) (ow':=[(15,⟨3,1,o.map hN⟩)]) ay aD) ?_)
  refine aV (fun r s=>∃k o c,r=m.length+1-k/\o.length=L/\Dg.dig 65536 o/\c<65536/\(k<=m.length\/(k<=m.length+1/\c=0))/\Dg.vl 65536 o+c*65536^(i+k)=Dg.vl 65536 (l.take i)*Dg.vl 65536 m+x*Dg.vl 65536 (m.take k)*65536^i/\s=⟨[(0,dN l),(1,dN m),(5, .own 15),(6,zI (i:Nat)),(7,zI (c:Nat)),(8,zI (k:Nat))],[(15,⟨3,1,o.map hN⟩)]⟩) (m:=m.length+1) ⟨0,o,0,by omega,ho,hdo,by omega, .inl (by omega),by rw[hv];simp[Dg.vl],rfl⟩ fun r s hs=>?_;clear hv hdo ho;obtain⟨k,o,c,rfl,ho,hdo,hc,hkm,hv,rfl⟩:=hs;by_cases hend2:m.length<=k/\c=0
  ·obtain⟨h1,h2⟩:=hend2;have e:Dg.vl 65536 o=Dg.vl 65536 (l.take (i+1))*Dg.vl 65536 m:=by subst h2;exact xN h1 hxd hv
   clear hv
   (repeat(first|refine gk fun K hK=>?_|refine zs2 ?_));refine xp ?_;(repeat(first|refine gk fun K hK=>?_|refine zs2 ?_))
   refine aB ?_
   (repeat(first|refine gk fun K hK=>?_|refine zs2 ?_));refine ba ?_;(repeat(first|refine gk fun K hK=>?_|refine zs2 ?_))
   simp only[nx,inB];exact⟨l.length-(i+1),_,by omega,(au (sl':=[(0,dN l),(1,dN m),(5, .own 15),(6,zI ((i+1:Nat):Int))]) (ow':=[(15,⟨3,1,o.map hN⟩)]) ay aD),i+1,o,rfl,by omega,ho,hdo,e,rfl⟩
  ·have hk : k <= m.length := by
    by_cases h:c=0
    ·omega
    ·exact py hl hm hil' hxd hv h
   have hik:i+k<o.length:=by omega
   have STEP:=Dg.px (B:=65536) (b:=m) (o:=o) (i:=i) (k:=k) (x:=x) (c:=c) hik hv;have hu:=oM hik;have hul:o.getD (i+k) 0<65536:=Dg.aJ hdo (by decide) _;have hyl:m.getD k 0<65536:=Dg.aJ hm (by decide) _;have hy:k<m.length->m[k]?=some (m.getD k 0):=oM;have hy0:m.length<=k->m.getD k 0=0:=nM;clear hv;obtain⟨u,hud⟩:∃u,u=o.getD (i+k) 0:=⟨_,rfl⟩;obtain⟨y,hyd⟩:∃y,y=m.getD k 0:=⟨_,rfl⟩;rw[<-hud]at hul hu STEP;rw[<-hyd]at hyl hy hy0 STEP;clear hud hyd;have hxy:x*y<=65535*65535:=Nat.mul_le_mul (by omega) (by omega);have hxy0:y=0->x*y=0:=fun h=>by rw[h,Nat.mul_zero]
   have hc2:(x*y+u+c)/65536<65536:=by
    rw[Nat.div_lt_iff_lt_mul (by decide)];omega
   have hik':(i:Int)+(k:Int)=((i+k:Nat):Int):=by omega
   have hdig:=Dg.cK hdo (j:=i+k) (Nat.mod_lt (x*y+u+c) (by decide:0<65536));have hms:=map_set o (i+k) ((x*y+u+c)%65536);have hlen:(o.set (i+k) ((x*y+u+c)%65536)).length=L:=by rw[List.length_set];exact ho
   have hcast:((x*y:Nat):Int)=(x:Int)*(y:Int):=Int.natCast_mul x y;have hye:k<m.length\/(m.length<=k/\y=0/\c≠0):=by
    by_cases h:k<m.length
    ·exact .inl h
    ·exact .inr ⟨by omega,hy0 (by omega),by omega⟩
   rcases hye with h6|⟨h6,h7,h8⟩
   ·have hye:=hy h6
    (repeat(first|refine gk fun K hK=>?_|refine zs2 ?_));refine xp ?_;(repeat(first|refine gk fun K hK=>?_|refine zs2 ?_))
    refine aA ?_
    (repeat(first|refine gk fun K hK=>?_|refine zs2 ?_));refine CP ?_;(repeat(first|refine gk fun K hK=>?_|refine zs2 ?_));refine aU ?_;(repeat(first|refine gk fun K hK=>?_|refine zs2 ?_))
    refine aA ?_
    (repeat(first|refine gk fun K hK=>?_|refine zs2 ?_));(refine zs68 ?_;refine aZ ?_;refine aZ ?_;refine aZ ?_;refine fY ?_;refine bR ?_;refine aZ ?_;refine aZ ?_;refine fY ?_;refine bR ?_;(first|refine cr rfl rfl rfl aa zb15 aa aa ?_|((try refine av ?_);refine aL1 rfl rfl rfl zb15 ?_));(first|refine cr rfl rfl rfl aa zb14 aa aa ?_|((try refine av ?_);refine aL1 rfl rfl rfl zb14 ?_));refine oh ?_;refine eA ?_);(repeat(first|refine gk fun K hK=>?_|refine zs2 ?_))
    (refine az (au (sl':=[(0,dN l),(1,dN m),(5, .own 15),(6,zI (i:Nat)),(7,zI ((x*y+u+c:Nat):Int)),(8,zI (k:Nat))]) (ow':=[(15,⟨3,1,o.map hN⟩)]) ay aD) ?_)
    (repeat(first|refine gk fun K hK=>?_|refine zs2 ?_));refine CN ?_;(repeat(first|refine gk fun K hK=>?_|refine zs2 ?_));refine oZ ?_;(repeat(first|refine gk fun K hK=>?_|refine zs2 ?_));refine ba ?_;(repeat(first|refine gk fun K hK=>?_|refine zs2 ?_))
    simp only[nx,inB];exact⟨m.length+1-(k+1),_,by omega,(au (sl':=[(0,dN l),(1,dN m),(5, .own 15),(6,zI (i:Nat)),(7,zI (((x*y+u+c)/65536:Nat):Int)),(8,zI ((k+1:Nat):Int))]) (ow':=[(15,⟨3,1,(o.map hN).set (i+k) (hN ((x*y+u+c)%65536))⟩)]) ay aD),k+1,o.set (i+k) ((x*y+u+c)%65536),(x*y+u+c)/65536,rfl,hlen,hdig,hc2,by omega,STEP,by rw[hms]⟩
   ·have h9:=hxy0 h7
    (repeat(first|refine gk fun K hK=>?_|refine zs2 ?_));refine xp ?_;(repeat(first|refine gk fun K hK=>?_|refine zs2 ?_))
    refine aA ?_
    (repeat(first|refine gk fun K hK=>?_|refine zs2 ?_));refine CP ?_;(repeat(first|refine gk fun K hK=>?_|refine zs2 ?_));refine aU ?_;(repeat(first|refine gk fun K hK=>?_|refine zs2 ?_))
    refine aB ?_
    (refine az (au (sl':=[(0,dN l),(1,dN m),(5, .own 15),(6,zI (i:Nat)),(7,zI ((x*y+u+c:Nat):Int)),(8,zI (k:Nat))]) (ow':=[(15,⟨3,1,o.map hN⟩)]) ay aD) ?_)
    (repeat(first|refine gk fun K hK=>?_|refine zs2 ?_));refine CN ?_;(repeat(first|refine gk fun K hK=>?_|refine zs2 ?_));refine oZ ?_;(repeat(first|refine gk fun K hK=>?_|refine zs2 ?_));refine ba ?_;(repeat(first|refine gk fun K hK=>?_|refine zs2 ?_))
    simp only[nx,inB];have hk1:k+1<=m.length\/(k+1<=m.length+1/\(x*y+u+c)/65536=0):=by
     refine .inr ⟨by omega,Classical.byContradiction fun h=>?_⟩;have:=py hl hm hil' hxd STEP h;omega
    exact⟨m.length+1-(k+1),_,by omega,(au (sl':=[(0,dN l),(1,dN m),(5, .own 15),(6,zI (i:Nat)),(7,zI (((x*y+u+c)/65536:Nat):Int)),(8,zI ((k+1:Nat):Int))]) (ow':=[(15,⟨3,1,(o.map hN).set (i+k) (hN ((x*y+u+c)%65536))⟩)]) ay aD),k+1,o.set (i+k) ((x*y+u+c)%65536),(x*y+u+c)/65536,rfl,hlen,hdig,hc2,hk1,STEP,by rw[hms]⟩
end DW
end
section
open Go.RowKit
namespace DW
theorem yZ(b x:Nat):Dg.vl b [x]=x:=by simp[Dg.vl]
set_option maxRecDepth 20000
set_option maxHeartbeats 1000000
theorem Az(a b:Nat)(ha:(hd a).length<=300000000)(hb:(hd b).length<=300000000)(hb0:0<b):Fn Tryz.prog 168 [dN (hd a),dN (hd b)] (.tp [dN (hd (a/b)),dN (hd (a%b))]):=by
 refine aY Tryz.func168 ae rfl rfl rfl fun X0=>?_;simp only[aK];obtain⟨L,hL⟩:∃L,L=(hd a).length:=⟨_,rfl⟩;have hLc:((hd a).length:Int)=(L:Int):=by omega
 (repeat(first|refine gk fun K hK=>?_|refine zs2 ?_));(refine gar ?_;refine zs3 ?_;refine zs3 ?_;refine af ?_);(repeat(first|refine gk fun K hK=>?_|refine zs2 ?_));(refine gar ?_;refine zs4 ?_;refine zs5 ?_;(refine AS (k:=14) (T:=Tryz.prog.elem 40) (zv:=(.int .i64 0)) (d0:=(.sc (.int .i64 0))) (wd:=1) rfl rfl rfl rfl bu bu ae ae aa aa aa aa aa (by omega) zb58 aa cM ?_);refine zs6 ?_;refine af ?_);(repeat(first|refine gk fun K hK=>?_|refine zs2 ?_));refine cL ?_;(repeat(first|refine gk fun K hK=>?_|refine zs2 ?_));(refine gar ?_;refine zs4 ?_;refine zs5 ?_;refine zs19 ?_;refine zs6 ?_;refine af ?_);(repeat(first|refine gk fun K hK=>?_|refine zs2 ?_))
 (refine az (Sh_ls (t:=7) (wd:=1) iK) ?_)
 (refine az (au (sl':=[(0,dN (hd a)),(1,dN (hd b)),(6,.own 14),(7,.ls 1 []),(8,zI ((hd a).length-1))]) (ow':=[(14,⟨3,1,List.replicate L (zI 0)⟩)]) ay aD) ?_)
 refine aV (fun r s=>∃q m,r<=L/\q.length=L/\Dg.dig 65536 q/\m<b/\Dg.vl 65536 ((hd a).drop r)=b*Dg.vl 65536 (q.drop r)+m/\s=⟨[(0,dN (hd a)),(1,dN (hd b)),(6,.own 14),(7,dN (hd m)),(8,zI (r-1))],[(14,⟨3,1,q.map hN⟩)]⟩) (m:=L) ⟨List.replicate L 0,0,Nat.le_refl _,by simp,Dg.di (by decide) _,hb0,by rw[List.drop_of_length_le (by omega),List.drop_of_length_le (by simp)];simp[Dg.vl],by rw[List.map_replicate,<-hL,show hd 0=[]from List.length_eq_zero_iff.1 ((js 0).2 rfl)];rfl⟩ fun r s hs=>?_;obtain⟨q,m,hr,hq,hdq,hm,hv,rfl⟩:=hs;by_cases hr0:r=0
 ·subst hr0;rw[List.drop_zero,List.drop_zero,eF]at hv;have e1:a/b=Dg.vl 65536 q:=by rw[hv,Nat.mul_add_div hb0,Nat.div_eq_of_lt hm,Nat.add_zero]
  have e2:a%b=m:=by rw[hv,Nat.mul_add_mod,Nat.mod_eq_of_lt hm]
  have T:=pq (l:=q) (by omega) hdq e1.symm;clear hv
  (repeat(first|refine gk fun K hK=>?_|refine zs2 ?_));refine gf ?_;(repeat(first|refine gk fun K hK=>?_|refine zs2 ?_))
  refine aB ?_
  (repeat(first|refine gk fun K hK=>?_|refine zs2 ?_))
  refine az (aE (k:=14) aR bz bw) ?_
  (refine gar ?_;refine zs4 ?_;refine cw ?_;refine zs4 ?_;refine zs6 ?_;refine zs6 ?_;refine af ?_)
  (repeat(first|refine gk fun K hK=>?_|refine zs2 ?_))
  rw[e2];exact⟨_,Sh.refl,.two (.tmp 4) (.tmp 5) _ _ rfl (.tmp 4 rfl) (.tmp 5 rfl)⟩
 ·obtain⟨i,rfl⟩:∃i,r=i+1:=⟨r-1,by omega⟩;have hi:i<(hd a).length:=by omega
  have hiq:i<q.length:=by omega
  have STEP:=Dg.pD (B:=65536) (a:=hd a) (o:=q) (i:=i) (d:=b) (r:=m) hi hiq hv;clear hv;have hx:=jt hi;have hxl:(hd a).getD i 0<65536:=Dg.aJ (eR a) (by decide) i;obtain⟨x,hxd⟩:∃x,x=(hd a).getD i 0:=⟨_,rfl⟩;rw[<-hxd]at hx hxl STEP;have hc:((i+1:Nat):Int)-1=(i:Int):=by omega
  have hml:(hd m).length<=(hd b).length:=fS (by omega);have T:=pq (l:=x::hd m) (by simp only[List.length_cons];omega) (fun y hy=>by
   rcases List.mem_cons.1 hy with rfl|h
   ·exact hxl
   ·exact eR m y h) (n:=m*65536+x) (by rw[Dg.cB,eF];omega)
  obtain⟨R,hR⟩:∃R,R=m*65536+x:=⟨_,rfl⟩;rw[<-hR]at T STEP;have hRb:R/b<65536:=by
   rw[Nat.div_lt_iff_lt_mul hb0];have:=Nat.mul_le_mul_right 65536 (show m+1<=b by omega);rw[Nat.mul_comm 65536 b];omega
  have hRl:(hd R).length<=(hd b).length+1:=fT (by
   have h1:=jT b;rw[Nat.pow_succ];have h4:=Nat.mul_le_mul_right 65536 (show m+1<=b by omega);have h5:=Nat.mul_le_mul_right 65536 (Nat.le_of_lt h1);omega)
  have TIMES:∀g:Nat,g<65536->Fn Tryz.prog 155 [dN (hd b),dN [g]] (dN (hd (b*g))):=fun g hg=>by
   have:=tZ (hd b) [g] (eR b) (fun y hy=>by rw[List.mem_singleton.1 hy];exact hg) (by omega) (by simp);rwa[eF,yZ]at this
  have hprod:∀g,g<65536->(hd (b*g)).length<=(hd b).length+1:=fun g hg=>fT (by
   have h1:=jT b;rw[Nat.pow_succ];have h4:b*g<=b*65536:=Nat.mul_le_mul_left b (by omega);have h5:=Nat.mul_lt_mul_of_pos_right h1 (show 0<65536 by decide);omega)
  have hml2:(hd m).length<=300000000:=by omega
  clear hml hxd
  (repeat(first|refine gk fun K hK=>?_|refine zs2 ?_));refine gf ?_;(repeat(first|refine gk fun K hK=>?_|refine zs2 ?_))
  refine aA ?_
  (repeat(first|refine gk fun K hK=>?_|refine zs2 ?_));(refine gar ?_;refine zs4 ?_;refine zs4 ?_;refine zs70 ?_;refine wQ ?_;(refine Hc (k:=26) (T:=Tryz.prog.elem 40) rfl rfl rfl rfl bu aa dK aa ae ae aa aa aa cM ?_);refine zs4 ?_;refine tF ?_;refine aL_sh (aE (k:=26) aR bz bw) ?_;refine cw ?_;refine zs6 ?_;refine af ?_);(repeat(first|refine gk fun K hK=>?_|refine zs2 ?_));(refine gar ?_;refine gP ?_;refine gP ?_;refine af ?_);(repeat(first|refine gk fun K hK=>?_|refine zs2 ?_))
  (refine az (au (sl':=[(0,dN (hd a)),(1,dN (hd b)),(6,.own 14),(7,dN (hd R)),(8,zI (i:Nat)),(9,zI ((0:Nat):Int)),(10,zI ((65535:Nat):Int))]) (ow':=[(14,⟨3,1,q.map hN⟩)]) ay aD) ?_)
  refine aV (fun r s=>∃lo hi,r=hi-lo/\lo<=hi/\hi<65536/\b*lo<=R/\R<b*(hi+1)/\s=⟨[(0,dN (hd a)),(1,dN (hd b)),(6,.own 14),(7,dN (hd R)),(8,zI (i:Nat)),(9,zI (lo:Nat)),(10,zI (hi:Nat))],[(14,⟨3,1,q.map hN⟩)]⟩) (m:=65535) ⟨0,65535,rfl,by omega,by omega,by omega,by
   rw[Nat.div_lt_iff_lt_mul hb0]at hRb;rw[Nat.mul_comm];exact hRb,rfl⟩ fun r s hs=>?_
  obtain⟨lo,hi',rfl,h1,h2,h3,h4,rfl⟩:=hs;by_cases hlh:lo=hi'
  ·subst hlh;have e1:R/b=lo:=by
    apply Nat.le_antisymm
    ·have:=(Nat.div_lt_iff_lt_mul hb0).2 (by rw[Nat.mul_comm];exact h4);omega
    ·exact(Nat.le_div_iff_mul_le hb0).2 (by rw[Nat.mul_comm];exact h3)
   have e2:R%b=R-b*lo:=by rw[Nat.mod_def,e1]
   have hmb:R%b<b:=Nat.mod_lt _ hb0;rw[e1]at STEP;have MIN:=lK R (b*lo) (by omega) h3;rw[<-e2]at MIN;have hlen:(q.set i lo).length=L:=by rw[List.length_set];exact hq
   have hdig:=Dg.cK hdq (j:=i) (show lo<65536 by omega);have hms:=map_set q i lo
   (repeat(first|refine gk fun K hK=>?_|refine zs2 ?_));refine td ?_;(repeat(first|refine gk fun K hK=>?_|refine zs2 ?_))
   refine aB ?_
   (repeat(first|refine gk fun K hK=>?_|refine zs2 ?_));(refine gar ?_;refine zs4 ?_;refine zs4 ?_;refine zs4 ?_;refine eI ?_;(refine je (i:=i) rfl rfl rfl bu bu aR aa lk aa dK aa ae ll ?_);refine af ?_);(repeat(first|refine gk fun K hK=>?_|refine zs2 ?_));(refine gar ?_;refine zs4 ?_;refine zs4 ?_;refine zs4 ?_;refine my ?_;(refine aL1 rfl rfl rfl (by(apply jd;(exact rfl);(focus((apply ak;(conv=>lhs;whnf);(first|done|exact rfl))));(focus((apply ak;(conv=>lhs;whnf);(first|done|exact rfl))));(exact rfl);(exact rfl);(focus((first|exact TIMES lo (by omega))));(exact rfl))) ?_);refine jf ?_;refine zs6 ?_;refine af ?_);(repeat(first|refine gk fun K hK=>?_|refine zs2 ?_));refine tf ?_;(repeat(first|refine gk fun K hK=>?_|refine zs2 ?_))
   simp only[nx,inB];exact⟨i,_,by omega,(au (sl':=[(0,dN (hd a)),(1,dN (hd b)),(6,.own 14),(7,dN (hd (R%b))),(8,zI ((i:Int)-1))]) (ow':=[(14,⟨3,1,(q.map hN).set i (hN lo)⟩)]) ay aD),q.set i lo,R%b,by omega,hlen,hdig,hmb,STEP,by rw[hms]⟩
  ·obtain⟨g,hg⟩:∃g,g=(lo+hi'+1)/2:=⟨_,rfl⟩;have hg1:lo<g:=by omega
   have hg2:g<=hi':=by omega
   have LESS:=Ah R (b*g) (by omega) (by have:=hprod g (by omega);omega)
   (repeat(first|refine gk fun K hK=>?_|refine zs2 ?_));refine td ?_;(repeat(first|refine gk fun K hK=>?_|refine zs2 ?_))
   refine aA ?_
   (repeat(first|refine gk fun K hK=>?_|refine zs2 ?_));(refine gar ?_;refine zs4 ?_;refine zs4 ?_;refine oe ?_;refine wS ?_;refine zs51 ?_;refine zs6 ?_;refine af ?_);(repeat(first|refine gk fun K hK=>?_|refine zs2 ?_))
   (refine az (au (sl':=[(0,dN (hd a)),(1,dN (hd b)),(6,.own 14),(7,dN (hd R)),(8,zI (i:Nat)),(9,zI (lo:Nat)),(10,zI (hi':Nat)),(11,zI (g:Nat))]) (ow':=[(14,⟨3,1,q.map hN⟩)]) ay aD) ?_)
   by_cases hlt:R<b*g
   ·(repeat(first|refine gk fun K hK=>?_|refine zs2 ?_));refine CJ ?_;(repeat(first|refine gk fun K hK=>?_|refine zs2 ?_))
    refine aA ?_
    (repeat(first|refine gk fun K hK=>?_|refine zs2 ?_));refine tf ?_;(repeat(first|refine gk fun K hK=>?_|refine zs2 ?_))
    simp only[nx,inB];exact⟨g-1-lo,_,by omega,(au (sl':=[(0,dN (hd a)),(1,dN (hd b)),(6,.own 14),(7,dN (hd R)),(8,zI (i:Nat)),(9,zI (lo:Nat)),(10,zI ((g-1:Nat):Int))]) (ow':=[(14,⟨3,1,q.map hN⟩)]) ay aD),lo,g-1,rfl,by omega,by omega,h3,by rw[show g-1+1=g by omega];exact hlt,rfl⟩
   ·(repeat(first|refine gk fun K hK=>?_|refine zs2 ?_));refine CJ ?_;(repeat(first|refine gk fun K hK=>?_|refine zs2 ?_))
    refine aB ?_
    (repeat(first|refine gk fun K hK=>?_|refine zs2 ?_));refine ik ?_;(repeat(first|refine gk fun K hK=>?_|refine zs2 ?_))
    simp only[nx,inB];exact⟨hi'-g,_,by omega,(au (sl':=[(0,dN (hd a)),(1,dN (hd b)),(6,.own 14),(7,dN (hd R)),(8,zI (i:Nat)),(9,zI (g:Nat)),(10,zI (hi':Nat))]) (ow':=[(14,⟨3,1,q.map hN⟩)]) ay aD),g,hi',rfl,by omega,by omega,by omega,h4,rfl⟩
end DW
end
section
open Go.RowKit
namespace DW
theorem GO(a b:Nat):(hd (a*b)).length<=(hd a).length+(hd b).length:=by
 by_cases h0:b=0
 ·subst h0;rw[Nat.mul_zero,(js 0).2 rfl];omega
 apply fT;rw[Nat.pow_add];exact Nat.mul_lt_mul_of_lt_of_le (jT a) (Nat.le_of_lt (jT b)) (Nat.pow_pos (by decide))
theorem uR(a b:Nat):(hd (a+b)).length<=max (hd a).length (hd b).length+1:=by
 apply fT;rw[Nat.pow_succ];have h1:(65536:Nat)^(hd a).length<=65536^max (hd a).length (hd b).length:=Nat.pow_le_pow_right (by decide) (Nat.le_max_left _ _);have h2:(65536:Nat)^(hd b).length<=65536^max (hd a).length (hd b).length:=Nat.pow_le_pow_right (by decide) (Nat.le_max_right _ _);have:=jT a;have:=jT b;omega
theorem en(z:Int):Dg.iv (decide (z<0)) z.natAbs=z:=pW
theorem iv_f(n:Nat):Dg.iv false n=(n:Int):=rfl
set_option maxRecDepth 20000
set_option maxHeartbeats 1000000
theorem DJ(u v:Int)(hu:Hf u)(hv:Hf v):Fn Tryz.prog 83 [.nm u,.nm v] (.nm (u+v)):=by
 have D1:=fi hu;have D2:=fi hv;unfold Hf at hu hv;have hp:=uR u.natAbs v.natAbs;refine aY Tryz.func83 ae rfl rfl rfl fun X0=>?_;simp only[aK];by_cases hs:decide (u<0)=decide (v<0)
 ·have hb:(decide (u<0)==decide (v<0))=true:=by rw[hs,beq_self_eq_true]
  have M:=fF (s:=decide (u<0)) (n:=u.natAbs+v.natAbs) (z:=u+v) (by omega) (by
   rw[Dg.wq]
   conv=>lhs;rhs;rw[hs]
   rw[en,en])
  have PL:=we u.natAbs v.natAbs (by omega) (by omega)
  (repeat(first|refine gk fun K hK=>?_|refine zs2 ?_));refine sZ ?_;(repeat(first|refine gk fun K hK=>?_|refine zs2 ?_));refine CH ?_;(repeat(first|refine gk fun K hK=>?_|refine zs2 ?_));refine CG ?_;(repeat(first|refine gk fun K hK=>?_|refine zs2 ?_))
  refine aA ?_
  (repeat(first|refine gk fun K hK=>?_|refine zs2 ?_));refine xo ?_;(repeat(first|refine gk fun K hK=>?_|refine zs2 ?_))
  exact⟨_,aE (k:=4) aR bz bw,.one (.cell 4 62) _ rfl (.cell 4 _ _ rfl rfl ae ae)⟩
 ·have hb:(decide (u<0)==decide (v<0))=false:=by rw[beq_eq_false_iff_ne];exact hs
  have LE:=Ah u.natAbs v.natAbs (by omega) (by omega)
  (repeat(first|refine gk fun K hK=>?_|refine zs2 ?_));refine sZ ?_;(repeat(first|refine gk fun K hK=>?_|refine zs2 ?_));refine CH ?_;(repeat(first|refine gk fun K hK=>?_|refine zs2 ?_));refine CG ?_;(repeat(first|refine gk fun K hK=>?_|refine zs2 ?_))
  refine aB ?_
  (repeat(first|refine gk fun K hK=>?_|refine zs2 ?_));(refine gar ?_;refine zs4 ?_;refine zs4 ?_;refine jf ?_;refine af ?_);(repeat(first|refine gk fun K hK=>?_|refine zs2 ?_))
  by_cases hl:u.natAbs<v.natAbs
  ·have MI:=lK v.natAbs u.natAbs (by omega) (by omega);have hm:=fS (show v.natAbs-u.natAbs<=v.natAbs by omega);have M:=fF (s:=decide (v<0)) (n:=v.natAbs-u.natAbs) (z:=u+v) (by omega) (by
    rw[Dg.pX hs (by omega),en,en])
   refine aA ?_
   (repeat(first|refine gk fun K hK=>?_|refine zs2 ?_));refine xo ?_;(repeat(first|refine gk fun K hK=>?_|refine zs2 ?_))
   exact⟨_,aE (k:=4) aR bz bw,.one (.cell 4 62) _ rfl (.cell 4 _ _ rfl rfl ae ae)⟩
  ·have MI:=lK u.natAbs v.natAbs (by omega) (by omega);have hm:=fS (show u.natAbs-v.natAbs<=u.natAbs by omega);have M:=fF (s:=decide (u<0)) (n:=u.natAbs-v.natAbs) (z:=u+v) (by omega) (by
    rw[Dg.pY hs (by omega),en,en])
   refine aB ?_
   (repeat(first|refine gk fun K hK=>?_|refine zs2 ?_));refine xo ?_;(repeat(first|refine gk fun K hK=>?_|refine zs2 ?_))
   exact⟨_,aE (k:=4) aR bz bw,.one (.cell 4 62) _ rfl (.cell 4 _ _ rfl rfl ae ae)⟩
theorem Dk(u v:Int)(hu:Hf u)(hv:Hf v):Fn Tryz.prog 187 [.nm u,.nm v] (.nm (u-v)):=by
 have N:=yg v hv;have A:=DJ u (-v) hu hv.neg;rw[<-Int.sub_eq_add_neg]at A;refine aY Tryz.func187 ae rfl rfl rfl fun X0=>?_;simp only[aK]
 (repeat(first|refine gk fun K hK=>?_|refine zs2 ?_));refine sZ ?_;(repeat(first|refine gk fun K hK=>?_|refine zs2 ?_));(((first|(apply ah 4;(focus kernel_rfl);(decide+kernel))|(apply ah 3;(focus kernel_rfl);(decide+kernel))|(apply ah 2;(focus kernel_rfl);(decide+kernel))|(apply ah 1;(focus kernel_rfl);(decide+kernel)));simp only[List.take_succ_cons,List.take_zero,List.drop_succ_cons,List.drop_zero]);refine bR ?_;refine bR ?_;refine og ?_;refine lg ?_;refine tG ?_;refine eA ?_);(repeat(first|refine gk fun K hK=>?_|refine zs2 ?_))
 exact⟨_,aE (k:=4) aR bz bw,.one (.cell 4 62) _ rfl (.cell 4 _ _ rfl rfl ae ae)⟩
theorem Dq(u v:Int)(hu:Hf u)(hv:Hf v):Fn Tryz.prog 84 [.nm u,.nm v] (.nm (u*v)):=by
 have D1:=fi hu;have D2:=fi hv;unfold Hf at hu hv;have hp:=GO u.natAbs v.natAbs;have T:=tZ (hd u.natAbs) (hd v.natAbs) (eR _) (eR _) (by omega) (by omega);rw[eF,eF]at T;have M:=fF (s:=!(decide (u<0)==decide (v<0))) (n:=u.natAbs*v.natAbs) (z:=u*v) (by omega) (by
  have:=Dg.uL (decide (u<0)) (decide (v<0)) u.natAbs v.natAbs;rw[en,en]at this;exact this)
 refine aY Tryz.func84 ae rfl rfl rfl fun X0=>?_;simp only[aK]
 (repeat(first|refine gk fun K hK=>?_|refine zs2 ?_));refine sZ ?_;(repeat(first|refine gk fun K hK=>?_|refine zs2 ?_));(refine zs68 ?_;refine tH ?_;refine bR ?_;refine tH ?_;refine bR ?_;refine wR ?_;refine bR ?_;refine og ?_;refine bR ?_;refine og ?_;refine lg ?_;refine lg ?_;refine tG ?_;refine eA ?_);(repeat(first|refine gk fun K hK=>?_|refine zs2 ?_))
 exact⟨_,aE (k:=4) aR bz bw,.one (.cell 4 62) _ rfl (.cell 4 _ _ rfl rfl ae ae)⟩
theorem Hf.sub'{u v:Int}(hu:(hd u.natAbs).length<=199999999)(hv:(hd v.natAbs).length<=199999999):Hf (u-v):=by
 unfold Hf;have h1:=uR u.natAbs v.natAbs;have h2:=fS (show(u-v).natAbs<=u.natAbs+v.natAbs by omega);omega
theorem cmp_d(u v:Int)(hu:(hd u.natAbs).length<=199999999)(hv:(hd v.natAbs).length<=199999999):Fn Tryz.prog 147 [.nm u,.nm v] (zI (sgn (u-v))):=by
 have A:=Dk u v (by unfold Hf;omega) (by unfold Hf;omega);have B:=kK (u-v) (Hf.sub' hu hv);refine aY Tryz.func147 ae rfl rfl rfl fun X0=>?_;simp only[aK]
 (repeat(first|refine gk fun K hK=>?_|refine zs2 ?_));(refine gar ?_;refine gQ ?_;refine gQ ?_;refine gP ?_;refine af ?_);(repeat(first|refine gk fun K hK=>?_|refine zs2 ?_));(refine gar ?_;refine bs ?_;refine bs ?_;refine jf ?_;refine cw ?_;refine zs6 ?_;refine af ?_);(repeat(first|refine gk fun K hK=>?_|refine zs2 ?_))
 exact⟨_,Sh.refl,.one (.tmp 4) _ rfl (.tmp 4 rfl)⟩
end DW
end
end Go.Proofs.YtcgjmdpcplhanaaGreat
