/- Lemmas for the law: E5 E6 E7 E8 -/
import Derived.Test.YtcgjmdpcplhanaaGreatZi3
namespace Go.Proofs.YtcgjmdpcplhanaaGreat
section
theorem zs68{p q:Prop}(h:q)(f:Wq q→p:=by(intro hW;(refine aL1 rfl rfl rfl (by(first|(apply G4;(focus(exact rfl));(focus((apply av;(conv=>lhs;whnf);(first|done|exact rfl))));(focus((apply av;(conv=>lhs;whnf);(first|done|exact rfl))));(focus(omega)))|(apply cf;(focus(exact rfl));(focus((apply av;(conv=>lhs;whnf);(first|done|exact rfl))));(focus((apply av;(conv=>lhs;whnf);(first|done|exact rfl))));(focus(exact rfl))))) ?_);exact hW.out)):p:=f ⟨h⟩
theorem Gp{p q:Prop}(h:q)(f:Wq q→p:=by(intro hW;((refine gar ?_;refine zs4 ?_;refine zs4 ?_;refine zs4 ?_;refine zs65 ?_;refine zs66 ?_;refine zs68 ?_;refine zs6 ?_;refine af ?_));exact hW.out)):p:=f ⟨h⟩
theorem gZ{p q:Prop}(h:q)(f:Wq q→p:=by(intro hW;((refine gar ?_;refine zs4 ?_;refine zs6 ?_;refine af ?_));exact hW.out)):p:=f ⟨h⟩
theorem zC{p q:Prop}(h:q)(f:Wq q→p:=by(intro hW;((refine gar ?_;refine zs4 ?_;refine zs4 ?_;refine zs5 ?_;refine lE ?_;refine zs4 ?_;refine zs8 ?_;refine fG ?_;refine cP ?_;refine af ?_));exact hW.out)):p:=f ⟨h⟩
theorem zs71{p q:Prop}(h:q)(f:Wq q→p:=by(intro hW;(refine aL1 rfl rfl rfl zb3 ?_);exact hW.out)):p:=f ⟨h⟩
theorem zs70{p q:Prop}(h:q)(f:Wq q→p:=by(intro hW;((refine jh (i:=i+k) rfl rfl rfl bw bw aG ae lG ae bN ae aa lH ?_));exact hW.out)):p:=f ⟨h⟩
theorem dT{p q:Prop}(h:q)(f:Wq q→p:=by(intro hW;(refine aL1 rfl rfl rfl zb4 ?_);exact hW.out)):p:=f ⟨h⟩
theorem Gm{p q:Prop}(h:q)(f:Wq q→p:=by(intro hW;((refine gar ?_;refine zs4 ?_;refine zs4 ?_;refine zs4 ?_;refine nM ?_;refine zs4 ?_;refine y4 ?_;refine dT ?_;refine zs70 ?_;refine af ?_));exact hW.out)):p:=f ⟨h⟩
theorem gX{p q:Prop}(h:q)(f:Wq q→p:=by(intro hW;(refine aL1 rfl rfl rfl nO ?_);exact hW.out)):p:=f ⟨h⟩
theorem zB{p q:Prop}(h:q)(f:Wq q→p:=by(intro hW;((refine zs35 ?_;refine bu ?_;refine pX ?_;refine bu ?_;refine pX ?_;refine pY ?_;refine pY ?_;refine dv ?_));exact hW.out)):p:=f ⟨h⟩
theorem zs73{p q:Prop}(h:q)(f:Wq q→p:=by(intro hW;((refine jh (i:=i) rfl rfl rfl bw bw aG ae lG ae bN ae aa lH ?_));exact hW.out)):p:=f ⟨h⟩
theorem Gl{p q:Prop}(h:q)(f:Wq q→p:=by(intro hW;((refine gar ?_;refine zs4 ?_;refine zs4 ?_;refine zs4 ?_;refine dT ?_;refine zs73 ?_;refine af ?_));exact hW.out)):p:=f ⟨h⟩
theorem zb13{p:Prop}(h:p:=by(first|(apply cf;(focus(exact rfl));(focus((apply av;(conv=>lhs;whnf);(first|done|exact rfl))));(focus((apply av;(conv=>lhs;whnf);(first|done|exact rfl))));(focus(exact rfl)))|(apply G8;(focus(exact rfl));(focus((apply av;(conv=>lhs;whnf);(first|done|exact rfl))));(focus((apply av;(conv=>lhs;whnf);(first|done|exact rfl))));(focus(kernel_rfl))))):p:=h
theorem yZ{p q:Prop}(h:q)(f:Wq q→p:=by(intro hW;(refine aL1 rfl rfl rfl zb13 ?_);exact hW.out)):p:=f ⟨h⟩
theorem Gj{p q:Prop}(h:q)(f:Wq q→p:=by(intro hW;((refine gar ?_;refine ew ?_;refine aK ?_;refine ew ?_;refine aK ?_;refine yZ ?_;refine af ?_));exact hW.out)):p:=f ⟨h⟩
theorem zs76{p q:Prop}(h:q)(f:Wq q→p:=by(intro hW;((refine bL (k:=4) (z:=(.agg #[.bool false,.slice none 0 0])) (d:=(.nm 0)) rfl rfl rfl rfl rfl aa ae ae bN ae ae bj ?_));exact hW.out)):p:=f ⟨h⟩
theorem oS{p q:Prop}(h:q)(f:Wq q→p:=by(intro hW;((refine gar ?_;refine ez ?_;refine ez ?_;refine zs76 ?_;refine af ?_));exact hW.out)):p:=f ⟨h⟩
theorem Gn{p q:Prop}(h:q)(f:Wq q→p:=by(intro hW;((refine gar ?_;refine zs4 ?_;refine zs4 ?_;refine zs4 ?_;refine zs4 ?_;refine nM ?_;refine dT ?_;refine aK ?_;refine nM ?_;refine zs6 ?_;refine af ?_));exact hW.out)):p:=f ⟨h⟩
theorem Gq{p q:Prop}(h:q)(f:Wq q→p:=by(intro hW;((refine gar ?_;refine zs4 ?_;refine zs4 ?_;refine dT ?_;refine aK ?_;refine zs4 ?_;refine zs68 ?_;refine zs6 ?_;refine af ?_));exact hW.out)):p:=f ⟨h⟩
theorem zb60{p:Prop}(h:p:=by first|(apply DU;assumption)|exact Int.toNat_natCast _|exact rfl):p:=h
theorem zb15{p:Prop}(h:p:=by(first|(apply G6;(focus(exact rfl));(focus((apply av;(conv=>lhs;whnf);(first|done|exact rfl))));(focus((apply av;(conv=>lhs;whnf);(first|done|exact rfl))));(focus(omega)))|(apply cf;(focus(exact rfl));(focus((apply av;(conv=>lhs;whnf);(first|done|exact rfl))));(focus((apply av;(conv=>lhs;whnf);(first|done|exact rfl))));(focus(exact rfl))))):p:=h
theorem zA{p q:Prop}(h:q)(f:Wq q→p:=by(intro hW;((refine zs40 ?_;refine sb ?_;refine bu ?_;refine aZ ?_;refine aZ ?_;refine gY ?_;refine gY ?_;refine sa ?_;refine dv ?_));exact hW.out)):p:=f ⟨h⟩
theorem zs69{p q:Prop}(h:q)(f:Wq q→p:=by(intro hW;((first|(apply an 11;(focus kernel_rfl);(focus(decide+kernel)))|(apply an 10;(focus kernel_rfl);(focus(decide+kernel)))|(apply an 9;(focus kernel_rfl);(focus(decide+kernel)))|(apply an 8;(focus kernel_rfl);(focus(decide+kernel)))|(apply an 7;(focus kernel_rfl);(focus(decide+kernel)))|(apply an 6;(focus kernel_rfl);(focus(decide+kernel)))|(apply an 5;(focus kernel_rfl);(focus(decide+kernel)))|(apply an 4;(focus kernel_rfl);(focus(decide+kernel))));simp only[List.take_succ_cons,List.take_zero,List.drop_succ_cons,List.drop_zero]);exact hW.out)):p:=f ⟨h⟩
theorem ji{p q:Prop}(h:q)(f:Wq q→p:=by(intro hW;((refine gar ?_;refine zs4 ?_;refine zs4 ?_;refine lE ?_;refine af ?_));exact hW.out)):p:=f ⟨h⟩
theorem r8{p q:Prop}(h:q)(f:Wq q→p:=by(intro hW;(refine aL1 rfl rfl rfl zb0 ?_);exact hW.out)):p:=f ⟨h⟩
theorem zs75{p q:Prop}(h:q)(f:Wq q→p:=by(intro hW;(refine aL1 rfl rfl rfl (by(apply jg;(focus(exact rfl));(focus((apply av;(conv=>lhs;whnf);(first|done|exact rfl))));(focus((apply av;(conv=>lhs;whnf);(first|done|exact rfl))));(focus(exact rfl));(focus(exact rfl));(focus((first|exact TIMES g (by omega))));(focus(exact rfl)))) ?_);exact hW.out)):p:=f ⟨h⟩
theorem Gk{p q:Prop}(h:q)(f:Wq q→p:=by(intro hW;((refine gar ?_;refine zs4 ?_;refine zs4 ?_;refine zs4 ?_;refine jZ ?_;refine zs75 ?_;refine gX ?_;refine af ?_));exact hW.out)):p:=f ⟨h⟩
end
section
open Go.RowKit
namespace DW
theorem ui{a b o:List Nat}{i c:Nat}(hi:o.length=i)(h:Dg.vl 65536 o+Dg.vl 65536 (b.take i)=Dg.vl 65536 (a.take i)+c*65536^i)(hc:b.getD i 0+c≤a.getD i 0):
  Dg.vl 65536 (o++[a.getD i 0-b.getD i 0-c])+Dg.vl 65536 (b.take (i+1))=Dg.vl 65536 (a.take (i+1))+0*65536^(i+1):=by
 have:=Dg.vT (B:=65536) (a:=a) (b:=b) (o:=o++[0]) (i:=i) (c:=c) bF zb53 hc
 rw[Dg.gD bF,List.take_append_of_le_length (by omega),List.take_of_length_le (by omega)]at this
 exact this
theorem uj{a b o:List Nat}{i c:Nat}(hi:o.length=i)(h:Dg.vl 65536 o+Dg.vl 65536 (b.take i)=Dg.vl 65536 (a.take i)+c*65536^i)(hb:b.getD i 0+c≤a.getD i 0+65536):
  Dg.vl 65536 (o++[a.getD i 0+65536-b.getD i 0-c])+Dg.vl 65536 (b.take (i+1))=Dg.vl 65536 (a.take (i+1))+1*65536^(i+1):=by
 have:=Dg.vU (B:=65536) (a:=a) (b:=b) (o:=o++[0]) (i:=i) (c:=c) bF zb53 hb
 rw[Dg.gD bF,List.take_append_of_le_length (by omega),List.take_of_length_le (by omega)]at this
 exact this
set_option maxRecDepth 20000
set_option maxHeartbeats 1000000
theorem nn(a b:Nat)(ha:(hd a).length≤800000000)(hba:b≤a):Fn Tryz.prog 154 [dN (hd a),dN (hd b)] (dN (hd (a-b))):=by
  refine aE Tryz.func154 aa rfl rfl rfl fun X0=> ?_
  simp only[ay]
  have hlb:(hd b).length≤(hd a).length:=fi hba
  (repeat(first|refine gk fun K hK=> ?_|refine zs2 ?_));refine bZ ?_;(repeat(first|refine gk fun K hK=> ?_|refine zs2 ?_));refine bZ ?_;(repeat(first|refine gk fun K hK=> ?_|refine zs2 ?_));refine aS ?_;(repeat(first|refine gk fun K hK=> ?_|refine zs2 ?_));refine aS ?_;(repeat(first|refine gk fun K hK=> ?_|refine zs2 ?_))
  refine aw (ct (t:=5) (k:=5) (T:=3) (wd:=1) eA rfl rfl bj) ?_
  (refine aw (ak (sl':=[(0,dN (hd a)),(1,dN (hd b)),(5, .own 5),(6,zI 0),(7,zI 0)]) (ow':=[(5,⟨3,1,[]⟩)]) az aB) ?_)
  refine aJ (fun r s=>∃i o c,r=(hd a).length-i∧i≤(hd a).length∧o.length=i∧Dg.dig 65536 o∧c≤1∧Dg.vl 65536 o+Dg.vl 65536 ((hd b).take i)=Dg.vl 65536 ((hd a).take i)+c*65536^i∧s=⟨[(0,dN (hd a)),(1,dN (hd b)),(5, .own 5),(6,zI (c:Nat)),(7,zI (i:Nat))],[(5,⟨3,1,o.map hN⟩)]⟩) (m:=(hd a).length) ⟨0,[],0,by omega,by omega,rfl,fun _ h=>(by cases h),by omega,by simp[Dg.vl],rfl⟩ fun r s hs=> ?_
  obtain⟨i,o,c,rfl,hia,ho,hdo,hc,hv,rfl⟩:=hs
  by_cases hend:i=(hd a).length
  · have e : Dg.vl 65536 o = a - b := by
      rw[List.take_of_length_le (by omega),List.take_of_length_le (by omega),eR,eR]at hv
      have h1:=Dg.ba hdo
      rw[ho]at h1
      rcases(show c=0∨c=1 by omega)with h|h
      · subst h;rw[Nat.zero_mul]at hv;omega
      · subst h;rw[Nat.one_mul]at hv;omega
    have T:=qQ (l:=o) (by omega) hdo e
    clear hv
    (repeat(first|refine gk fun K hK=> ?_|refine zs2 ?_));refine aX ?_;(repeat(first|refine gk fun K hK=> ?_|refine zs2 ?_))
    refine au ?_
    (repeat(first|refine gk fun K hK=> ?_|refine zs2 ?_))
    refine aw (ai (k:=5) aG aQ aP) ?_
    refine ei ?_
    (repeat(first|refine gk fun K hK=> ?_|refine zs2 ?_))
    exact⟨_,Sh.refl, .one (.tmp 4) _ rfl (.tmp 4 rfl)⟩
  · have hxl:(hd a).getD i 0<65536:=Dg.aY (eY a) (by decide) i
    have hyl:(hd b).getD i 0<65536:=Dg.aY (eY b) (by decide) i
    have hx:(hd a)[i]?=some ((hd a).getD i 0):=ko (by omega)
    have hy:i<(hd b).length→(hd b)[i]?=some ((hd b).getD i 0):=ko
    have hy0:(hd b).length≤i→(hd b).getD i 0=0:=pA
    have LO:=ui (a:=hd a) (b:=hd b) ho hv
    have HI:=uj (a:=hd a) (b:=hd b) ho hv
    obtain⟨x,hxd⟩:∃x,x=(hd a).getD i 0:=⟨_,rfl⟩
    obtain⟨y,hyd⟩:∃y,y=(hd b).getD i 0:=⟨_,rfl⟩
    rw[←hxd]at hxl hx LO HI
    rw[←hyd]at hyl hy hy0 LO HI
    clear hxd hyd hv
    have hye:i<(hd b).length∨((hd b).length≤i∧y=0):=by
      by_cases h:i<(hd b).length
      · exact .inl h
      · exact .inr ⟨by omega,hy0 (by omega)⟩
    have hlen:∀q,(o++[q]).length=i+1:=fun q=>by simp[ho]
    by_cases hge:y+c≤x
    · have LO':=LO hge
      clear LO HI
      rcases hye with h6|⟨h6,h7⟩
      all_goals
        (repeat(first|refine gk fun K hK=> ?_|refine zs2 ?_));refine aX ?_;(repeat(first|refine gk fun K hK=> ?_|refine zs2 ?_))
        refine ao ?_
        (repeat(first|refine gk fun K hK=> ?_|refine zs2 ?_));refine Gq ?_;(repeat(first|refine gk fun K hK=> ?_|refine zs2 ?_));refine aX ?_;(repeat(first|refine gk fun K hK=> ?_|refine zs2 ?_))
        (first|(refine ao ?_;(repeat(first|refine gk fun K hK=> ?_|refine zs2 ?_));refine Gp ?_;(repeat(first|refine gk fun K hK=> ?_|refine zs2 ?_)))|(refine au ?_;(repeat(first|refine gk fun K hK=> ?_|refine zs2 ?_))))
        (repeat(first|refine gk fun K hK=> ?_|refine zs2 ?_));refine aS ?_;(repeat(first|refine gk fun K hK=> ?_|refine zs2 ?_));refine eK ?_;(repeat(first|refine gk fun K hK=> ?_|refine zs2 ?_))
        refine au ?_
        (refine aw (ak (sl':=[(0,dN (hd a)),(1,dN (hd b)),(5, .own 5),(6,zI 0),(7,zI (i:Nat)),(8,hN (x-y-c))]) (ow':=[(5,⟨3,1,o.map hN⟩)]) az aB) ?_)
        (repeat(first|refine gk fun K hK=> ?_|refine zs2 ?_));refine mK ?_;(repeat(first|refine gk fun K hK=> ?_|refine zs2 ?_));refine a9 ?_;(repeat(first|refine gk fun K hK=> ?_|refine zs2 ?_))
        simp only[nx,inB]
        exact⟨(hd a).length-(i+1),_,by omega,(ak (sl':=[(0,dN (hd a)),(1,dN (hd b)),(5, .own 5),(6,zI ((0:Nat):Int)),(7,zI ((i+1:Nat):Int))]) (ow':=[(5,⟨3,1,o.map hN++[hN (x-y-c)]⟩)]) az aB),i+1,o++[x-y-c],0,rfl,by omega,hlen _,kE hdo (by omega),by omega,LO',by rw[kg]⟩
    · have HI':=HI (by omega)
      clear LO HI
      rcases hye with h6|⟨h6,h7⟩
      all_goals
        (repeat(first|refine gk fun K hK=> ?_|refine zs2 ?_));refine aX ?_;(repeat(first|refine gk fun K hK=> ?_|refine zs2 ?_))
        refine ao ?_
        (repeat(first|refine gk fun K hK=> ?_|refine zs2 ?_));refine Gq ?_;(repeat(first|refine gk fun K hK=> ?_|refine zs2 ?_));refine aX ?_;(repeat(first|refine gk fun K hK=> ?_|refine zs2 ?_))
        (first|(refine ao ?_;(repeat(first|refine gk fun K hK=> ?_|refine zs2 ?_));refine Gp ?_;(repeat(first|refine gk fun K hK=> ?_|refine zs2 ?_)))|(refine au ?_;(repeat(first|refine gk fun K hK=> ?_|refine zs2 ?_))))
        (repeat(first|refine gk fun K hK=> ?_|refine zs2 ?_));refine aS ?_;(repeat(first|refine gk fun K hK=> ?_|refine zs2 ?_));refine eK ?_;(repeat(first|refine gk fun K hK=> ?_|refine zs2 ?_))
        refine ao ?_
        (repeat(first|refine gk fun K hK=> ?_|refine zs2 ?_));(refine gar ?_;refine zs4 ?_;refine y6 ?_;refine zs6 ?_;refine gg ?_;refine af ?_);(repeat(first|refine gk fun K hK=> ?_|refine zs2 ?_))
        (refine aw (ak (sl':=[(0,dN (hd a)),(1,dN (hd b)),(5, .own 5),(6,zI 1),(7,zI (i:Nat)),(8,hN (x+65536-y-c))]) (ow':=[(5,⟨3,1,o.map hN⟩)]) az aB) ?_)
        (repeat(first|refine gk fun K hK=> ?_|refine zs2 ?_));refine mK ?_;(repeat(first|refine gk fun K hK=> ?_|refine zs2 ?_));refine a9 ?_;(repeat(first|refine gk fun K hK=> ?_|refine zs2 ?_))
        simp only[nx,inB]
        exact⟨(hd a).length-(i+1),_,by omega,(ak (sl':=[(0,dN (hd a)),(1,dN (hd b)),(5, .own 5),(6,zI ((1:Nat):Int)),(7,zI ((i+1:Nat):Int))]) (ow':=[(5,⟨3,1,o.map hN++[hN (x+65536-y-c)]⟩)]) az aB),i+1,o++[x+65536-y-c],1,rfl,by omega,hlen _,kE hdo (by omega),by omega,HI',by rw[kg]⟩
end DW
end
section
open Go.RowKit
namespace DW
theorem qT{l m o:List Nat}{i k x c:Nat}(hl:Dg.dig 65536 l)(hm:Dg.dig 65536 m)(hil:i<l.length)(hx:x=l.getD i 0)(h:Dg.vl 65536 o+c*65536^(i+k)=Dg.vl 65536 (l.take i)*Dg.vl 65536 m+x*Dg.vl 65536 (m.take k)*65536^i)(hc:c≠0):k≤m.length:=by
 apply Nat.le_of_not_lt;intro hlt
 rw[List.take_of_length_le (l:=m) (by omega)]at h
 have e:Dg.vl 65536 (l.take (i+1))*Dg.vl 65536 m=Dg.vl 65536 (l.take i)*Dg.vl 65536 m+x*Dg.vl 65536 m*65536^i:=by
  rw[Dg.bI,←hx,Nat.add_mul,Nat.mul_right_comm]
 have h1:=Dg.ba (Dg.dY hl (i+1))
 rw[List.length_take,Nat.min_eq_left (by omega)]at h1
 have h2:=Dg.ba hm
 have h3:Dg.vl 65536 (l.take (i+1))*Dg.vl 65536 m≤65536^(i+1)*65536^m.length:=Nat.mul_le_mul (Nat.le_of_lt h1) (Nat.le_of_lt h2)
 rw[←Nat.pow_add]at h3
 have h4:(65536:Nat)^(i+1+m.length)≤65536^(i+k):=Nat.pow_le_pow_right (by decide) (by omega)
 have h5:1*65536^(i+k)≤c*65536^(i+k):=Nat.mul_le_mul_right _ (by omega)
 have h6:0<(65536:Nat)^(i+1+m.length):=Nat.pow_pos (by decide)
 have h7:Dg.vl 65536 (l.take (i+1))*Dg.vl 65536 m<65536^(i+1)*65536^m.length:=by
  by_cases hz:Dg.vl 65536 m=0
  ·rw[hz,Nat.mul_zero,←Nat.pow_add];exact h6
  ·exact Nat.mul_lt_mul_of_lt_of_le h1 (Nat.le_of_lt h2) (by omega)
 rw[←Nat.pow_add]at h7
 omega
theorem z7{l m o:List Nat}{i k x:Nat}(hk:m.length≤k)(hx:x=l.getD i 0)(h:Dg.vl 65536 o+0*65536^(i+k)=Dg.vl 65536 (l.take i)*Dg.vl 65536 m+x*Dg.vl 65536 (m.take k)*65536^i):Dg.vl 65536 o=Dg.vl 65536 (l.take (i+1))*Dg.vl 65536 m:=by
 rw[List.take_of_length_le hk,Nat.zero_mul,Nat.add_zero]at h
 rw[h,Dg.bI,←hx,Nat.add_mul,Nat.mul_right_comm x]
theorem kC{o:List Nat}{j:Nat}(h:j<o.length):o[j]?=some (o.getD j 0):=ln h
theorem map_set(o:List Nat)(j v:Nat):(o.set j v).map hN=(o.map hN).set j (hN v):=List.map_set
set_option maxRecDepth 20000
set_option maxHeartbeats 1000000
theorem vg(l m:List Nat)(hl:Dg.dig 65536 l)(hm:Dg.dig 65536 m)(hll:l.length≤400000000)(hml:m.length≤400000000):Fn Tryz.prog 155 [dN l,dN m] (dN (hd (Dg.vl 65536 l*Dg.vl 65536 m))):=by
  refine aE Tryz.func155 aa rfl rfl rfl fun X0=> ?_
  simp only[ay]
  obtain⟨L,hL⟩:∃L,L=l.length+m.length+1:=⟨_,rfl⟩
  have hLc:(l.length:Int)+(m.length:Int)+1=(L:Int):=by omega
  (repeat(first|refine gk fun K hK=> ?_|refine zs2 ?_));refine bZ ?_;(repeat(first|refine gk fun K hK=> ?_|refine zs2 ?_));(refine gar ?_;refine zs4 ?_;refine zs5 ?_;refine zs4 ?_;refine zs5 ?_;refine nM ?_;refine y6 ?_;(refine xg (k:=15) (T:=Tryz.prog.elem 40) (zv:=(.int .i64 0)) (d0:=(.sc (.int .i64 0))) (wd:=1) rfl rfl rfl rfl bw bw aa aa ae ae ae ae ae (by omega) zb60 ae bj ?_);refine zs6 ?_;refine af ?_);(repeat(first|refine gk fun K hK=> ?_|refine zs2 ?_));refine aS ?_;(repeat(first|refine gk fun K hK=> ?_|refine zs2 ?_))
  (refine aw (ak (sl':=[(0,dN l),(1,dN m),(5, .own 15),(6,zI 0)]) (ow':=[(15,⟨3,1,List.replicate L (zI 0)⟩)]) az aB) ?_)
  refine aJ (fun r s=>∃i o,r=l.length-i∧i≤l.length∧o.length=L∧Dg.dig 65536 o∧Dg.vl 65536 o=Dg.vl 65536 (l.take i)*Dg.vl 65536 m∧s=⟨[(0,dN l),(1,dN m),(5, .own 15),(6,zI (i:Nat))],[(15,⟨3,1,o.map hN⟩)]⟩) (m:=l.length) ⟨0,List.replicate L 0,by omega,by omega,by simp,Dg.dR (by decide) _,by rw[Dg.mR];simp[Dg.vl],by rw[List.map_replicate];rfl⟩ fun r s hs=> ?_
  obtain⟨i,o,rfl,hil,ho,hdo,hv,rfl⟩:=hs
  by_cases hend:i=l.length
  · have e:Dg.vl 65536 o=Dg.vl 65536 l*Dg.vl 65536 m:=by rw[hv,List.take_of_length_le (by omega)]
    have T:=qQ (l:=o) (by omega) hdo e
    clear hv
    (repeat(first|refine gk fun K hK=> ?_|refine zs2 ?_));refine aX ?_;(repeat(first|refine gk fun K hK=> ?_|refine zs2 ?_))
    refine au ?_
    (repeat(first|refine gk fun K hK=> ?_|refine zs2 ?_))
    refine aw (ai (k:=15) aG aQ aP) ?_
    refine ei ?_
    (repeat(first|refine gk fun K hK=> ?_|refine zs2 ?_))
    exact⟨_,Sh.refl, .one (.tmp 4) _ rfl (.tmp 4 rfl)⟩
  · have hil':i<l.length:=by omega
    obtain⟨x,hxd⟩:∃x,x=l.getD i 0:=⟨_,rfl⟩
    have hx:l[i]?=some x:=by rw[hxd];exact kC hil'
    have hxl:x<65536:=by rw[hxd];exact Dg.aY hl (by decide) i
    (repeat(first|refine gk fun K hK=> ?_|refine zs2 ?_));refine aX ?_;(repeat(first|refine gk fun K hK=> ?_|refine zs2 ?_))
    refine ao ?_
    (repeat(first|refine gk fun K hK=> ?_|refine zs2 ?_));refine aS ?_;(repeat(first|refine gk fun K hK=> ?_|refine zs2 ?_));refine aS ?_;(repeat(first|refine gk fun K hK=> ?_|refine zs2 ?_))
    (refine aw (ak (sl':=[(0,dN l),(1,dN m),(5, .own 15),(6,zI (i:Nat)),(7,zI 0),(8,zI 0)]) (ow':=[(15,⟨3,1,o.map hN⟩)]) az aB) ?_)
    refine aJ (fun r s=>∃k o c,r=m.length+1-k∧o.length=L∧Dg.dig 65536 o∧c<65536∧(k≤m.length∨(k≤m.length+1∧c=0))∧Dg.vl 65536 o+c*65536^(i+k)=Dg.vl 65536 (l.take i)*Dg.vl 65536 m+x*Dg.vl 65536 (m.take k)*65536^i∧s=⟨[(0,dN l),(1,dN m),(5, .own 15),(6,zI (i:Nat)),(7,zI (c:Nat)),(8,zI (k:Nat))],[(15,⟨3,1,o.map hN⟩)]⟩) (m:=m.length+1) ⟨0,o,0,by omega,ho,hdo,by omega, .inl (by omega),by rw[hv];simp[Dg.vl],rfl⟩ fun r s hs=> ?_
    clear hv hdo ho
    obtain⟨k,o,c,rfl,ho,hdo,hc,hkm,hv,rfl⟩:=hs
    by_cases hend2:m.length≤k∧c=0
    · obtain⟨h1,h2⟩:=hend2
      have e:Dg.vl 65536 o=Dg.vl 65536 (l.take (i+1))*Dg.vl 65536 m:=by subst h2;exact z7 h1 hxd hv
      clear hv
      (repeat(first|refine gk fun K hK=> ?_|refine zs2 ?_));refine zC ?_;(repeat(first|refine gk fun K hK=> ?_|refine zs2 ?_))
      refine au ?_
      (repeat(first|refine gk fun K hK=> ?_|refine zs2 ?_));refine a9 ?_;(repeat(first|refine gk fun K hK=> ?_|refine zs2 ?_))
      simp only[nx,inB]
      exact⟨l.length-(i+1),_,by omega,(ak (sl':=[(0,dN l),(1,dN m),(5, .own 15),(6,zI ((i+1:Nat):Int))]) (ow':=[(15,⟨3,1,o.map hN⟩)]) az aB),i+1,o,rfl,by omega,ho,hdo,e,rfl⟩
    · have hk : k ≤ m.length := by
        by_cases h:c=0
        · omega
        · exact qT hl hm hil' hxd hv h
      have hik:i+k<o.length:=by omega
      have STEP:=Dg.qS (B:=65536) (b:=m) (o:=o) (i:=i) (k:=k) (x:=x) (c:=c) hik hv
      have hu:=kC hik
      have hul:o.getD (i+k) 0<65536:=Dg.aY hdo (by decide) _
      have hyl:m.getD k 0<65536:=Dg.aY hm (by decide) _
      have hy:k<m.length→m[k]?=some (m.getD k 0):=kC
      have hy0:m.length≤k→m.getD k 0=0:=pA
      clear hv
      obtain⟨u,hud⟩:∃u,u=o.getD (i+k) 0:=⟨_,rfl⟩
      obtain⟨y,hyd⟩:∃y,y=m.getD k 0:=⟨_,rfl⟩
      rw[←hud]at hul hu STEP
      rw[←hyd]at hyl hy hy0 STEP
      clear hud hyd
      have hxy:x*y≤65535*65535:=Nat.mul_le_mul (by omega) (by omega)
      have hxy0:y=0→x*y=0:=fun h=>by rw[h,Nat.mul_zero]
      have hc2:(x*y+u+c)/65536<65536:=by
        rw[Nat.div_lt_iff_lt_mul (by decide)]
        omega
      have hik':(i:Int)+(k:Int)=((i+k:Nat):Int):=by omega
      have hdig:=Dg.cW hdo (j:=i+k) (Nat.mod_lt (x*y+u+c) (by decide:0<65536))
      have hms:=map_set o (i+k) ((x*y+u+c)%65536)
      have hlen:(o.set (i+k) ((x*y+u+c)%65536)).length=L:=by rw[List.length_set];exact ho
      have hcast:((x*y:Nat):Int)=(x:Int)*(y:Int):=Int.natCast_mul x y
      have hye:k<m.length∨(m.length≤k∧y=0∧c≠0):=by
        by_cases h:k<m.length
        · exact .inl h
        · exact .inr ⟨by omega,hy0 (by omega),by omega⟩
      rcases hye with h6|⟨h6,h7,h8⟩
      · have hye:=hy h6
        (repeat(first|refine gk fun K hK=> ?_|refine zs2 ?_));refine zC ?_;(repeat(first|refine gk fun K hK=> ?_|refine zs2 ?_))
        refine ao ?_
        (repeat(first|refine gk fun K hK=> ?_|refine zs2 ?_));refine Gn ?_;(repeat(first|refine gk fun K hK=> ?_|refine zs2 ?_));refine aX ?_;(repeat(first|refine gk fun K hK=> ?_|refine zs2 ?_))
        refine ao ?_
        (repeat(first|refine gk fun K hK=> ?_|refine zs2 ?_));(refine zs69 ?_;refine aZ ?_;refine aZ ?_;refine aZ ?_;refine de ?_;refine bu ?_;refine aZ ?_;refine aZ ?_;refine de ?_;refine bu ?_;(first|refine cJ rfl rfl rfl ae zb15 ae ae ?_|((try refine aF ?_);refine aL1 rfl rfl rfl zb15 ?_));(first|refine cJ rfl rfl rfl ae zb14 ae ae ?_|((try refine aF ?_);refine aL1 rfl rfl rfl zb14 ?_));refine pY ?_;refine dv ?_);(repeat(first|refine gk fun K hK=> ?_|refine zs2 ?_))
        (refine aw (ak (sl':=[(0,dN l),(1,dN m),(5, .own 15),(6,zI (i:Nat)),(7,zI ((x*y+u+c:Nat):Int)),(8,zI (k:Nat))]) (ow':=[(15,⟨3,1,o.map hN⟩)]) az aB) ?_)
        (repeat(first|refine gk fun K hK=> ?_|refine zs2 ?_));refine Gm ?_;(repeat(first|refine gk fun K hK=> ?_|refine zs2 ?_));refine qK ?_;(repeat(first|refine gk fun K hK=> ?_|refine zs2 ?_));refine a9 ?_;(repeat(first|refine gk fun K hK=> ?_|refine zs2 ?_))
        simp only[nx,inB]
        exact⟨m.length+1-(k+1),_,by omega,(ak (sl':=[(0,dN l),(1,dN m),(5, .own 15),(6,zI (i:Nat)),(7,zI (((x*y+u+c)/65536:Nat):Int)),(8,zI ((k+1:Nat):Int))]) (ow':=[(15,⟨3,1,(o.map hN).set (i+k) (hN ((x*y+u+c)%65536))⟩)]) az aB),k+1,o.set (i+k) ((x*y+u+c)%65536),(x*y+u+c)/65536,rfl,hlen,hdig,hc2,by omega,STEP,by rw[hms]⟩
      · have h9:=hxy0 h7
        (repeat(first|refine gk fun K hK=> ?_|refine zs2 ?_));refine zC ?_;(repeat(first|refine gk fun K hK=> ?_|refine zs2 ?_))
        refine ao ?_
        (repeat(first|refine gk fun K hK=> ?_|refine zs2 ?_));refine Gn ?_;(repeat(first|refine gk fun K hK=> ?_|refine zs2 ?_));refine aX ?_;(repeat(first|refine gk fun K hK=> ?_|refine zs2 ?_))
        refine au ?_
        (refine aw (ak (sl':=[(0,dN l),(1,dN m),(5, .own 15),(6,zI (i:Nat)),(7,zI ((x*y+u+c:Nat):Int)),(8,zI (k:Nat))]) (ow':=[(15,⟨3,1,o.map hN⟩)]) az aB) ?_)
        (repeat(first|refine gk fun K hK=> ?_|refine zs2 ?_));refine Gm ?_;(repeat(first|refine gk fun K hK=> ?_|refine zs2 ?_));refine qK ?_;(repeat(first|refine gk fun K hK=> ?_|refine zs2 ?_));refine a9 ?_;(repeat(first|refine gk fun K hK=> ?_|refine zs2 ?_))
        simp only[nx,inB]
        have hk1:k+1≤m.length∨(k+1≤m.length+1∧(x*y+u+c)/65536=0):=by
          refine .inr ⟨by omega,Classical.byContradiction fun h=> ?_⟩
          have:=qT hl hm hil' hxd STEP h
          omega
        exact⟨m.length+1-(k+1),_,by omega,(ak (sl':=[(0,dN l),(1,dN m),(5, .own 15),(6,zI (i:Nat)),(7,zI (((x*y+u+c)/65536:Nat):Int)),(8,zI ((k+1:Nat):Int))]) (ow':=[(15,⟨3,1,(o.map hN).set (i+k) (hN ((x*y+u+c)%65536))⟩)]) az aB),k+1,o.set (i+k) ((x*y+u+c)%65536),(x*y+u+c)/65536,rfl,hlen,hdig,hc2,hk1,STEP,by rw[hms]⟩
end DW
end
section
open Go.RowKit
namespace DW
theorem Bk(b x:Nat):Dg.vl b [x]=x:=by simp[Dg.vl]
set_option maxRecDepth 20000
set_option maxHeartbeats 1000000
theorem ug(a b:Nat)(ha:(hd a).length≤300000000)(hb:(hd b).length≤300000000)(hb0:0<b):Fn Tryz.prog 168 [dN (hd a),dN (hd b)] (.tp [dN (hd (a/b)),dN (hd (a%b))]):=by
 refine aE Tryz.func168 aa rfl rfl rfl fun X0=>?_
 simp only[ay]
 obtain⟨L,hL⟩:∃L,L=(hd a).length:=⟨_,rfl⟩
 have hLc:((hd a).length:Int)=(L:Int):=by omega
 (repeat(first|refine gk fun K hK=>?_|refine zs2 ?_));(refine gar ?_;refine zs3 ?_;refine zs3 ?_;refine af ?_);(repeat(first|refine gk fun K hK=>?_|refine zs2 ?_));(refine gar ?_;refine zs4 ?_;refine zs5 ?_;(refine xg (k:=14) (T:=Tryz.prog.elem 40) (zv:=(.int .i64 0)) (d0:=(.sc (.int .i64 0))) (wd:=1) rfl rfl rfl rfl bw bw aa aa ae ae ae ae ae (by omega) zb60 ae bj ?_);refine zs6 ?_;refine af ?_);(repeat(first|refine gk fun K hK=>?_|refine zs2 ?_));refine bZ ?_;(repeat(first|refine gk fun K hK=>?_|refine zs2 ?_));refine zD ?_;(repeat(first|refine gk fun K hK=>?_|refine zs2 ?_))
 (refine aw (A8 (t:=7) (wd:=1) eA) ?_)
 (refine aw (ak (sl':=[(0,dN (hd a)),(1,dN (hd b)),(6,.own 14),(7,.ls 1 []),(8,zI ((hd a).length-1))]) (ow':=[(14,⟨3,1,List.replicate L (zI 0)⟩)]) az aB) ?_)
 refine aJ (fun r s=>∃q m,r≤L∧q.length=L∧Dg.dig 65536 q∧m<b∧Dg.vl 65536 ((hd a).drop r)=b*Dg.vl 65536 (q.drop r)+m∧s=⟨[(0,dN (hd a)),(1,dN (hd b)),(6,.own 14),(7,dN (hd m)),(8,zI (r-1))],[(14,⟨3,1,q.map hN⟩)]⟩) (m:=L) ⟨List.replicate L 0,0,Nat.le_refl _,by simp,Dg.dR (by decide) _,hb0,by rw[List.drop_of_length_le (by omega),List.drop_of_length_le (by simp)];simp[Dg.vl],by rw[List.map_replicate,←hL,show hd 0=[]from List.length_eq_zero_iff.1 ((iA 0).2 rfl)];rfl⟩ fun r s hs=>?_
 obtain⟨q,m,hr,hq,hdq,hm,hv,rfl⟩:=hs
 by_cases hr0:r=0
 ·subst hr0
  rw[List.drop_zero,List.drop_zero,eR]at hv
  have e1:a/b=Dg.vl 65536 q:=by rw[hv,Nat.mul_add_div hb0,Nat.div_eq_of_lt hm,Nat.add_zero]
  have e2:a%b=m:=by rw[hv,Nat.mul_add_mod,Nat.mod_eq_of_lt hm]
  have T:=qQ (l:=q) (by omega) hdq e1.symm
  clear hv
  (repeat(first|refine gk fun K hK=>?_|refine zs2 ?_));refine eK ?_;(repeat(first|refine gk fun K hK=>?_|refine zs2 ?_))
  refine au ?_
  (repeat(first|refine gk fun K hK=>?_|refine zs2 ?_))
  refine aw (ai (k:=14) aG aQ aP) ?_
  (refine gar ?_;refine zs4 ?_;refine cw ?_;refine zs4 ?_;refine zs6 ?_;refine zs6 ?_;refine af ?_)
  (repeat(first|refine gk fun K hK=>?_|refine zs2 ?_))
  rw[e2]
  exact⟨_,Sh.refl,.two (.tmp 4) (.tmp 5) _ _ rfl (.tmp 4 rfl) (.tmp 5 rfl)⟩
 ·obtain⟨i,rfl⟩:∃i,r=i+1:=⟨r-1,by omega⟩
  have hi:i<(hd a).length:=by omega
  have hiq:i<q.length:=by omega
  have STEP:=Dg.qX (B:=65536) (a:=hd a) (o:=q) (i:=i) (d:=b) (r:=m) hi hiq hv
  clear hv
  have hx:=ko hi
  have hxl:(hd a).getD i 0<65536:=Dg.aY (eY a) (by decide) i
  obtain⟨x,hxd⟩:∃x,x=(hd a).getD i 0:=⟨_,rfl⟩
  rw[←hxd]at hx hxl STEP
  have hc:((i+1:Nat):Int)-1=(i:Int):=by omega
  have hml:(hd m).length≤(hd b).length:=fi (by omega)
  have T:=qQ (l:=x::hd m) (by simp only[List.length_cons];omega) (fun y hy=>by
   rcases List.mem_cons.1 hy with rfl|h
   ·exact hxl
   ·exact eY m y h) (n:=m*65536+x) (by rw[Dg.cD,eR];omega)
  obtain⟨R,hR⟩:∃R,R=m*65536+x:=⟨_,rfl⟩
  rw[←hR]at T STEP
  have hRb:R/b<65536:=by
   rw[Nat.div_lt_iff_lt_mul hb0]
   have:=Nat.mul_le_mul_right 65536 (show m+1≤b by omega)
   rw[Nat.mul_comm 65536 b];omega
  have hRl:(hd R).length≤(hd b).length+1:=eI (by
   have h1:=ll b
   rw[Nat.pow_succ]
   have h4:=Nat.mul_le_mul_right 65536 (show m+1≤b by omega)
   have h5:=Nat.mul_le_mul_right 65536 (Nat.le_of_lt h1)
   omega)
  have TIMES:∀g:Nat,g<65536→Fn Tryz.prog 155 [dN (hd b),dN [g]] (dN (hd (b*g))):=fun g hg=>by
   have:=vg (hd b) [g] (eY b) (fun y hy=>by rw[List.mem_singleton.1 hy];exact hg) (by omega) (by simp)
   rwa[eR,Bk]at this
  have hprod:∀g,g<65536→(hd (b*g)).length≤(hd b).length+1:=fun g hg=>eI (by
   have h1:=ll b
   rw[Nat.pow_succ]
   have h4:b*g≤b*65536:=Nat.mul_le_mul_left b (by omega)
   have h5:=Nat.mul_lt_mul_of_pos_right h1 (show 0<65536 by decide)
   omega)
  have hml2:(hd m).length≤300000000:=by omega
  clear hml hxd
  (repeat(first|refine gk fun K hK=>?_|refine zs2 ?_));refine eK ?_;(repeat(first|refine gk fun K hK=>?_|refine zs2 ?_))
  refine ao ?_
  (repeat(first|refine gk fun K hK=>?_|refine zs2 ?_));(refine gar ?_;refine zs4 ?_;refine zs4 ?_;refine zs71 ?_;refine r8 ?_;(refine Kh (k:=26) (T:=Tryz.prog.elem 40) rfl rfl rfl rfl bw ae bN ae aa aa ae ae ae bj ?_);refine zs4 ?_;refine uR ?_;refine aL_sh (ai (k:=26) aG aQ aP) ?_;refine cw ?_;refine zs6 ?_;refine af ?_);(repeat(first|refine gk fun K hK=>?_|refine zs2 ?_));(refine gar ?_;refine gg ?_;refine gg ?_;refine af ?_);(repeat(first|refine gk fun K hK=>?_|refine zs2 ?_))
  (refine aw (ak (sl':=[(0,dN (hd a)),(1,dN (hd b)),(6,.own 14),(7,dN (hd R)),(8,zI (i:Nat)),(9,zI ((0:Nat):Int)),(10,zI ((65535:Nat):Int))]) (ow':=[(14,⟨3,1,q.map hN⟩)]) az aB) ?_)
  refine aJ (fun r s=>∃lo hi,r=hi-lo∧lo≤hi∧hi<65536∧b*lo≤R∧R<b*(hi+1)∧s=⟨[(0,dN (hd a)),(1,dN (hd b)),(6,.own 14),(7,dN (hd R)),(8,zI (i:Nat)),(9,zI (lo:Nat)),(10,zI (hi:Nat))],[(14,⟨3,1,q.map hN⟩)]⟩) (m:=65535) ⟨0,65535,rfl,by omega,by omega,by omega,by
   rw[Nat.div_lt_iff_lt_mul hb0]at hRb
   rw[Nat.mul_comm];exact hRb,rfl⟩ fun r s hs=>?_
  obtain⟨lo,hi',rfl,h1,h2,h3,h4,rfl⟩:=hs
  by_cases hlh:lo=hi'
  ·subst hlh
   have e1:R/b=lo:=by
    apply Nat.le_antisymm
    ·have:=(Nat.div_lt_iff_lt_mul hb0).2 (by rw[Nat.mul_comm];exact h4);omega
    ·exact(Nat.le_div_iff_mul_le hb0).2 (by rw[Nat.mul_comm];exact h3)
   have e2:R%b=R-b*lo:=by rw[Nat.mod_def,e1]
   have hmb:R%b<b:=Nat.mod_lt _ hb0
   rw[e1]at STEP
   have MIN:=nn R (b*lo) (by omega) h3
   rw[←e2]at MIN
   have hlen:(q.set i lo).length=L:=by rw[List.length_set];exact hq
   have hdig:=Dg.cW hdq (j:=i) (show lo<65536 by omega)
   have hms:=map_set q i lo
   (repeat(first|refine gk fun K hK=>?_|refine zs2 ?_));refine ji ?_;(repeat(first|refine gk fun K hK=>?_|refine zs2 ?_))
   refine au ?_
   (repeat(first|refine gk fun K hK=>?_|refine zs2 ?_));refine Gl ?_;(repeat(first|refine gk fun K hK=>?_|refine zs2 ?_));(refine gar ?_;refine zs4 ?_;refine zs4 ?_;refine zs4 ?_;refine jZ ?_;(refine aL1 rfl rfl rfl (by(apply jg;(focus(exact rfl));(focus((apply av;(conv=>lhs;whnf);(first|done|exact rfl))));(focus((apply av;(conv=>lhs;whnf);(first|done|exact rfl))));(focus(exact rfl));(focus(exact rfl));(focus((first|exact TIMES lo (by omega))));(focus(exact rfl)))) ?_);refine gX ?_;refine zs6 ?_;refine af ?_);(repeat(first|refine gk fun K hK=>?_|refine zs2 ?_));refine oV ?_;(repeat(first|refine gk fun K hK=>?_|refine zs2 ?_))
   simp only[nx,inB]
   exact⟨i,_,by omega,(ak (sl':=[(0,dN (hd a)),(1,dN (hd b)),(6,.own 14),(7,dN (hd (R%b))),(8,zI ((i:Int)-1))]) (ow':=[(14,⟨3,1,(q.map hN).set i (hN lo)⟩)]) az aB),q.set i lo,R%b,by omega,hlen,hdig,hmb,STEP,by rw[hms]⟩
  ·obtain⟨g,hg⟩:∃g,g=(lo+hi'+1)/2:=⟨_,rfl⟩
   have hg1:lo<g:=by omega
   have hg2:g≤hi':=by omega
   have LESS:=Cz R (b*g) (by omega) (by have:=hprod g (by omega);omega)
   (repeat(first|refine gk fun K hK=>?_|refine zs2 ?_));refine ji ?_;(repeat(first|refine gk fun K hK=>?_|refine zs2 ?_))
   refine ao ?_
   (repeat(first|refine gk fun K hK=>?_|refine zs2 ?_));(refine gar ?_;refine zs4 ?_;refine zs4 ?_;refine nM ?_;refine y6 ?_;refine zs52 ?_;refine zs6 ?_;refine af ?_);(repeat(first|refine gk fun K hK=>?_|refine zs2 ?_))
   (refine aw (ak (sl':=[(0,dN (hd a)),(1,dN (hd b)),(6,.own 14),(7,dN (hd R)),(8,zI (i:Nat)),(9,zI (lo:Nat)),(10,zI (hi':Nat)),(11,zI (g:Nat))]) (ow':=[(14,⟨3,1,q.map hN⟩)]) az aB) ?_)
   by_cases hlt:R<b*g
   ·(repeat(first|refine gk fun K hK=>?_|refine zs2 ?_));refine Gk ?_;(repeat(first|refine gk fun K hK=>?_|refine zs2 ?_))
    refine ao ?_
    (repeat(first|refine gk fun K hK=>?_|refine zs2 ?_));refine oV ?_;(repeat(first|refine gk fun K hK=>?_|refine zs2 ?_))
    simp only[nx,inB]
    exact⟨g-1-lo,_,by omega,(ak (sl':=[(0,dN (hd a)),(1,dN (hd b)),(6,.own 14),(7,dN (hd R)),(8,zI (i:Nat)),(9,zI (lo:Nat)),(10,zI ((g-1:Nat):Int))]) (ow':=[(14,⟨3,1,q.map hN⟩)]) az aB),lo,g-1,rfl,by omega,by omega,h3,by rw[show g-1+1=g by omega];exact hlt,rfl⟩
   ·(repeat(first|refine gk fun K hK=>?_|refine zs2 ?_));refine Gk ?_;(repeat(first|refine gk fun K hK=>?_|refine zs2 ?_))
    refine au ?_
    (repeat(first|refine gk fun K hK=>?_|refine zs2 ?_));refine gZ ?_;(repeat(first|refine gk fun K hK=>?_|refine zs2 ?_))
    simp only[nx,inB]
    exact⟨hi'-g,_,by omega,(ak (sl':=[(0,dN (hd a)),(1,dN (hd b)),(6,.own 14),(7,dN (hd R)),(8,zI (i:Nat)),(9,zI (g:Nat)),(10,zI (hi':Nat))]) (ow':=[(14,⟨3,1,q.map hN⟩)]) az aB),g,hi',rfl,by omega,by omega,by omega,h4,rfl⟩
end DW
end
section
open Go.RowKit
namespace DW
theorem JX(a b:Nat):(hd (a*b)).length≤(hd a).length+(hd b).length:=by
 by_cases h0:b=0
 ·subst h0;rw[Nat.mul_zero,(iA 0).2 rfl];omega
 apply eI
 rw[Nat.pow_add]
 exact Nat.mul_lt_mul_of_lt_of_le (ll a) (Nat.le_of_lt (ll b)) (Nat.pow_pos (by decide))
theorem wv(a b:Nat):(hd (a+b)).length≤max (hd a).length (hd b).length+1:=by
 apply eI
 rw[Nat.pow_succ]
 have h1:(65536:Nat)^(hd a).length≤65536^max (hd a).length (hd b).length:=Nat.pow_le_pow_right (by decide) (Nat.le_max_left _ _)
 have h2:(65536:Nat)^(hd b).length≤65536^max (hd a).length (hd b).length:=Nat.pow_le_pow_right (by decide) (Nat.le_max_right _ _)
 have:=ll a
 have:=ll b
 omega
theorem fe(z:Int):Dg.iv (decide (z<0)) z.natAbs=z:=rE
theorem Ay(n:Nat):Dg.iv false n=(n:Int):=rfl
set_option maxRecDepth 20000
set_option maxHeartbeats 1000000
theorem Hb(u v:Int)(hu:Hf u)(hv:Hf v):Fn Tryz.prog 83 [.nm u,.nm v] (.nm (u+v)):=by
 have D1:=dD hu
 have D2:=dD hv
 unfold Hf at hu hv
 have hp:=wv u.natAbs v.natAbs
 refine aE Tryz.func83 aa rfl rfl rfl fun X0=>?_
 simp only[ay]
 by_cases hs:decide (u<0)=decide (v<0)
 ·have hb:(decide (u<0)==decide (v<0))=true:=by rw[hs,beq_self_eq_true]
  have M:=fY (s:=decide (u<0)) (n:=u.natAbs+v.natAbs) (z:=u+v) (by omega) (by
   rw[Dg.yv]
   conv=>lhs;rhs;rw[hs]
   rw[fe,fe])
  have PL:=ye u.natAbs v.natAbs (by omega) (by omega)
  (repeat(first|refine gk fun K hK=>?_|refine zs2 ?_));refine oS ?_;(repeat(first|refine gk fun K hK=>?_|refine zs2 ?_));refine zB ?_;(repeat(first|refine gk fun K hK=>?_|refine zs2 ?_));refine Gj ?_;(repeat(first|refine gk fun K hK=>?_|refine zs2 ?_))
  refine ao ?_
  (repeat(first|refine gk fun K hK=>?_|refine zs2 ?_));refine zA ?_;(repeat(first|refine gk fun K hK=>?_|refine zs2 ?_))
  exact⟨_,ai (k:=4) aG aQ aP,.one (.cell 4 62) _ rfl (.cell 4 _ _ rfl rfl aa aa)⟩
 ·have hb:(decide (u<0)==decide (v<0))=false:=by rw[beq_eq_false_iff_ne];exact hs
  have LE:=Cz u.natAbs v.natAbs (by omega) (by omega)
  (repeat(first|refine gk fun K hK=>?_|refine zs2 ?_));refine oS ?_;(repeat(first|refine gk fun K hK=>?_|refine zs2 ?_));refine zB ?_;(repeat(first|refine gk fun K hK=>?_|refine zs2 ?_));refine Gj ?_;(repeat(first|refine gk fun K hK=>?_|refine zs2 ?_))
  refine au ?_
  (repeat(first|refine gk fun K hK=>?_|refine zs2 ?_));(refine gar ?_;refine zs4 ?_;refine zs4 ?_;refine gX ?_;refine af ?_);(repeat(first|refine gk fun K hK=>?_|refine zs2 ?_))
  by_cases hl:u.natAbs<v.natAbs
  ·have MI:=nn v.natAbs u.natAbs (by omega) (by omega)
   have hm:=fi (show v.natAbs-u.natAbs≤v.natAbs by omega)
   have M:=fY (s:=decide (v<0)) (n:=v.natAbs-u.natAbs) (z:=u+v) (by omega) (by
    rw[Dg.rF hs (by omega),fe,fe])
   refine ao ?_
   (repeat(first|refine gk fun K hK=>?_|refine zs2 ?_));refine zA ?_;(repeat(first|refine gk fun K hK=>?_|refine zs2 ?_))
   exact⟨_,ai (k:=4) aG aQ aP,.one (.cell 4 62) _ rfl (.cell 4 _ _ rfl rfl aa aa)⟩
  ·have MI:=nn u.natAbs v.natAbs (by omega) (by omega)
   have hm:=fi (show u.natAbs-v.natAbs≤u.natAbs by omega)
   have M:=fY (s:=decide (u<0)) (n:=u.natAbs-v.natAbs) (z:=u+v) (by omega) (by
    rw[Dg.rG hs (by omega),fe,fe])
   refine au ?_
   (repeat(first|refine gk fun K hK=>?_|refine zs2 ?_));refine zA ?_;(repeat(first|refine gk fun K hK=>?_|refine zs2 ?_))
   exact⟨_,ai (k:=4) aG aQ aP,.one (.cell 4 62) _ rfl (.cell 4 _ _ rfl rfl aa aa)⟩
theorem GO(u v:Int)(hu:Hf u)(hv:Hf v):Fn Tryz.prog 187 [.nm u,.nm v] (.nm (u-v)):=by
 have N:=GV v hv
 have A:=Hb u (-v) hu hv.neg
 rw[←Int.sub_eq_add_neg]at A
 refine aE Tryz.func187 aa rfl rfl rfl fun X0=>?_
 simp only[ay]
 (repeat(first|refine gk fun K hK=>?_|refine zs2 ?_));refine oS ?_;(repeat(first|refine gk fun K hK=>?_|refine zs2 ?_));(((first|(apply an 4;(focus kernel_rfl);(focus(decide+kernel)))|(apply an 3;(focus kernel_rfl);(focus(decide+kernel)))|(apply an 2;(focus kernel_rfl);(focus(decide+kernel)))|(apply an 1;(focus kernel_rfl);(focus(decide+kernel))));simp only[List.take_succ_cons,List.take_zero,List.drop_succ_cons,List.drop_zero]);refine bu ?_;refine bu ?_;refine pX ?_;refine gY ?_;refine sa ?_;refine dv ?_);(repeat(first|refine gk fun K hK=>?_|refine zs2 ?_))
 exact⟨_,ai (k:=4) aG aQ aP,.one (.cell 4 62) _ rfl (.cell 4 _ _ rfl rfl aa aa)⟩
theorem ry(u v:Int)(hu:Hf u)(hv:Hf v):Fn Tryz.prog 84 [.nm u,.nm v] (.nm (u*v)):=by
 have D1:=dD hu
 have D2:=dD hv
 unfold Hf at hu hv
 have hp:=JX u.natAbs v.natAbs
 have T:=vg (hd u.natAbs) (hd v.natAbs) (eY _) (eY _) (by omega) (by omega)
 rw[eR,eR]at T
 have M:=fY (s:=!(decide (u<0)==decide (v<0))) (n:=u.natAbs*v.natAbs) (z:=u*v) (by omega) (by
  have:=Dg.wi (decide (u<0)) (decide (v<0)) u.natAbs v.natAbs
  rw[fe,fe]at this
  exact this)
 refine aE Tryz.func84 aa rfl rfl rfl fun X0=>?_
 simp only[ay]
 (repeat(first|refine gk fun K hK=>?_|refine zs2 ?_));refine oS ?_;(repeat(first|refine gk fun K hK=>?_|refine zs2 ?_));(refine zs69 ?_;refine sb ?_;refine bu ?_;refine sb ?_;refine bu ?_;refine uO ?_;refine bu ?_;refine pX ?_;refine bu ?_;refine pX ?_;refine gY ?_;refine gY ?_;refine sa ?_;refine dv ?_);(repeat(first|refine gk fun K hK=>?_|refine zs2 ?_))
 exact⟨_,ai (k:=4) aG aQ aP,.one (.cell 4 62) _ rfl (.cell 4 _ _ rfl rfl aa aa)⟩
theorem Hf.sub'{u v:Int}(hu:(hd u.natAbs).length≤199999999)(hv:(hd v.natAbs).length≤199999999):Hf (u-v):=by
 unfold Hf
 have h1:=wv u.natAbs v.natAbs
 have h2:=fi (show(u-v).natAbs≤u.natAbs+v.natAbs by omega)
 omega
theorem AP(u v:Int)(hu:(hd u.natAbs).length≤199999999)(hv:(hd v.natAbs).length≤199999999):Fn Tryz.prog 147 [.nm u,.nm v] (zI (sgn (u-v))):=by
 have A:=GO u v (by unfold Hf;omega) (by unfold Hf;omega)
 have B:=nZ (u-v) (Hf.sub' hu hv)
 refine aE Tryz.func147 aa rfl rfl rfl fun X0=>?_
 simp only[ay]
 (repeat(first|refine gk fun K hK=>?_|refine zs2 ?_));(refine gar ?_;refine ez ?_;refine ez ?_;refine gg ?_;refine af ?_);(repeat(first|refine gk fun K hK=>?_|refine zs2 ?_));(refine gar ?_;refine aK ?_;refine aK ?_;refine gX ?_;refine cw ?_;refine zs6 ?_;refine af ?_);(repeat(first|refine gk fun K hK=>?_|refine zs2 ?_))
 exact⟨_,Sh.refl,.one (.tmp 4) _ rfl (.tmp 4 rfl)⟩
end DW
end
end Go.Proofs.YtcgjmdpcplhanaaGreat
