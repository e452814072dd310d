/- Lemmas for the law: E5 E6 E7 E8 -/
import Derived.Test.YtcgjmdpcplhanaaGreatZm3
namespace Go.Proofs.YtcgjmdpcplhanaaGreat
section
theorem fJ{p q:Prop}(h:q)(f:Wq q→p:=by(intro hW;(refine aL1 rfl rfl rfl m9 ?_);exact hW.out)):p:=f ⟨h⟩
theorem zs74{p q:Prop}(h:q)(f:Wq q→p:=by(intro hW;(refine aL1 rfl rfl rfl (by(apply fH;(focus(exact rfl));(focus((apply ao;(conv=>lhs;whnf);(first|done|exact rfl))));(focus((apply ao;(conv=>lhs;whnf);(first|done|exact rfl))));(focus(exact rfl));(focus(exact rfl));(focus((first|exact TIMES g (by omega))));(focus(exact rfl)))) ?_);exact hW.out)):p:=f ⟨h⟩
theorem DQ{p q:Prop}(h:q)(f:Wq q→p:=by(intro hW;((refine gar ?_;refine zs4 ?_;refine zs4 ?_;refine zs4 ?_;refine jk ?_;refine zs74 ?_;refine fJ ?_;refine ae ?_));exact hW.out)):p:=f ⟨h⟩
theorem zb14{p:Prop}(h:p:=by(first|(apply Ff;(focus(exact rfl));(focus((apply ao;(conv=>lhs;whnf);(first|done|exact rfl))));(focus((apply ao;(conv=>lhs;whnf);(first|done|exact rfl))));(focus(omega)))|(apply bQ;(focus(exact rfl));(focus((apply ao;(conv=>lhs;whnf);(first|done|exact rfl))));(focus((apply ao;(conv=>lhs;whnf);(first|done|exact rfl))));(focus(exact rfl))))):p:=h
theorem dT{p q:Prop}(h:q)(f:Wq q→p:=by(intro hW;((refine gar ?_;refine zs4 ?_;refine zs6 ?_;refine ae ?_));exact hW.out)):p:=f ⟨h⟩
theorem tE{p q:Prop}(h:q)(f:Wq q→p:=by(intro hW;(refine aL1 rfl rfl rfl zb0 ?_);exact hW.out)):p:=f ⟨h⟩
theorem xQ{p q:Prop}(h:q)(f:Wq q→p:=by(intro hW;((refine zs35 ?_;refine bq ?_;refine lV ?_;refine bq ?_;refine lV ?_;refine jL ?_;refine jL ?_;refine cV ?_));exact hW.out)):p:=f ⟨h⟩
theorem xP{p q:Prop}(h:q)(f:Wq q→p:=by(intro hW;((refine zs40 ?_;refine oU ?_;refine bq ?_;refine a8 ?_;refine a8 ?_;refine gG ?_;refine gG ?_;refine tG ?_;refine cV ?_));exact hW.out)):p:=f ⟨h⟩
theorem xw{p q:Prop}(h:q)(f:Wq q→p:=by(intro hW;(refine aL1 rfl rfl rfl zb3 ?_);exact hW.out)):p:=f ⟨h⟩
theorem zs75{p q:Prop}(h:q)(f:Wq q→p:=by(intro hW;((refine eF (k:=4) (z:=(.agg #[.bool false,.slice none 0 0])) (d:=(.nm 0)) rfl rfl rfl rfl rfl af aa aa cf aa aa bB ?_));exact hW.out)):p:=f ⟨h⟩
theorem nX{p q:Prop}(h:q)(f:Wq q→p:=by(intro hW;((refine gar ?_;refine cK ?_;refine cK ?_;refine zs75 ?_;refine ae ?_));exact hW.out)):p:=f ⟨h⟩
theorem zb59{p:Prop}(h:p:=by first|(apply BN;assumption)|exact Int.toNat_natCast _|exact rfl):p:=h
theorem kC{p q:Prop}(h:q)(f:Wq q→p:=by(intro hW;((refine gar ?_;refine zs4 ?_;refine zs4 ?_;refine jn ?_;refine ae ?_));exact hW.out)):p:=f ⟨h⟩
theorem cE{p q:Prop}(h:q)(f:Wq q→p:=by(intro hW;(refine aL1 rfl rfl rfl zb4 ?_);exact hW.out)):p:=f ⟨h⟩
theorem zs72{p q:Prop}(h:q)(f:Wq q→p:=by(intro hW;((refine iU (i:=i) rfl rfl rfl bf bf aU aa jN aa cf aa af jO ?_));exact hW.out)):p:=f ⟨h⟩
theorem DR{p q:Prop}(h:q)(f:Wq q→p:=by(intro hW;((refine gar ?_;refine zs4 ?_;refine zs4 ?_;refine zs4 ?_;refine cE ?_;refine zs72 ?_;refine ae ?_));exact hW.out)):p:=f ⟨h⟩
theorem zs67{p q:Prop}(h:q)(f:Wq q→p:=by(intro hW;(refine aL1 rfl rfl rfl (by(first|(apply Fc;(focus(exact rfl));(focus((apply ao;(conv=>lhs;whnf);(first|done|exact rfl))));(focus((apply ao;(conv=>lhs;whnf);(first|done|exact rfl))));(focus(omega)))|(apply bQ;(focus(exact rfl));(focus((apply ao;(conv=>lhs;whnf);(first|done|exact rfl))));(focus((apply ao;(conv=>lhs;whnf);(first|done|exact rfl))));(focus(exact rfl))))) ?_);exact hW.out)):p:=f ⟨h⟩
theorem DZ{p q:Prop}(h:q)(f:Wq q→p:=by(intro hW;((refine gar ?_;refine zs4 ?_;refine zs4 ?_;refine cE ?_;refine aJ ?_;refine zs4 ?_;refine zs67 ?_;refine zs6 ?_;refine ae ?_));exact hW.out)):p:=f ⟨h⟩
theorem zs68{p q:Prop}(h:q)(f:Wq q→p:=by(intro hW;((first|(apply ak 11;(focus kernel_rfl);(focus(decide+kernel)))|(apply ak 10;(focus kernel_rfl);(focus(decide+kernel)))|(apply ak 9;(focus kernel_rfl);(focus(decide+kernel)))|(apply ak 8;(focus kernel_rfl);(focus(decide+kernel)))|(apply ak 7;(focus kernel_rfl);(focus(decide+kernel)))|(apply ak 6;(focus kernel_rfl);(focus(decide+kernel)))|(apply ak 5;(focus kernel_rfl);(focus(decide+kernel)))|(apply ak 4;(focus kernel_rfl);(focus(decide+kernel))));simp only[List.take_succ_cons,List.take_zero,List.drop_succ_cons,List.drop_zero]);exact hW.out)):p:=f ⟨h⟩
theorem DU{p q:Prop}(h:q)(f:Wq q→p:=by(intro hW;((refine gar ?_;refine zs4 ?_;refine zs4 ?_;refine zs4 ?_;refine zs64 ?_;refine zs65 ?_;refine zs67 ?_;refine zs6 ?_;refine ae ?_));exact hW.out)):p:=f ⟨h⟩
theorem DT{p q:Prop}(h:q)(f:Wq q→p:=by(intro hW;((refine gar ?_;refine zs4 ?_;refine zs4 ?_;refine zs4 ?_;refine zs4 ?_;refine m7 ?_;refine cE ?_;refine aJ ?_;refine m7 ?_;refine zs6 ?_;refine ae ?_));exact hW.out)):p:=f ⟨h⟩
theorem xS{p q:Prop}(h:q)(f:Wq q→p:=by(intro hW;((refine gar ?_;refine zs4 ?_;refine zs4 ?_;refine zs5 ?_;refine jn ?_;refine zs4 ?_;refine zs8 ?_;refine lU ?_;refine gE ?_;refine ae ?_));exact hW.out)):p:=f ⟨h⟩
theorem zs69{p q:Prop}(h:q)(f:Wq q→p:=by(intro hW;((refine iU (i:=i+k) rfl rfl rfl bf bf aU aa jN aa cf aa af jO ?_));exact hW.out)):p:=f ⟨h⟩
theorem DS{p q:Prop}(h:q)(f:Wq q→p:=by(intro hW;((refine gar ?_;refine zs4 ?_;refine zs4 ?_;refine zs4 ?_;refine m7 ?_;refine zs4 ?_;refine xD ?_;refine cE ?_;refine zs69 ?_;refine ae ?_));exact hW.out)):p:=f ⟨h⟩
theorem zb12{p:Prop}(h:p:=by(first|(apply bQ;(focus(exact rfl));(focus((apply ao;(conv=>lhs;whnf);(first|done|exact rfl))));(focus((apply ao;(conv=>lhs;whnf);(first|done|exact rfl))));(focus(exact rfl)))|(apply Fh;(focus(exact rfl));(focus((apply ao;(conv=>lhs;whnf);(first|done|exact rfl))));(focus((apply ao;(conv=>lhs;whnf);(first|done|exact rfl))));(focus(kernel_rfl))))):p:=h
theorem zs76{p q:Prop}(h:q)(f:Wq q→p:=by(intro hW;(refine aL1 rfl rfl rfl zb12 ?_);exact hW.out)):p:=f ⟨h⟩
theorem DP{p q:Prop}(h:q)(f:Wq q→p:=by(intro hW;((refine gar ?_;refine gF ?_;refine aJ ?_;refine gF ?_;refine aJ ?_;refine zs76 ?_;refine ae ?_));exact hW.out)):p:=f ⟨h⟩
theorem kB{p q:Prop}(h:q)(f:Wq q→p:=by(intro hW;((refine gar ?_;refine cK ?_;refine cK ?_;refine fX ?_;refine ae ?_));exact hW.out)):p:=f ⟨h⟩
end
section
open Go.RowKit
namespace DW
theorem sQ{a b o:List Nat}{i c:Nat}(hi:o.length=i)(h:Dg.vl 65536 o+Dg.vl 65536 (b.take i)=Dg.vl 65536 (a.take i)+c*65536^i)(hc:b.getD i 0+c≤a.getD i 0):
  Dg.vl 65536 (o++[a.getD i 0-b.getD i 0-c])+Dg.vl 65536 (b.take (i+1))=Dg.vl 65536 (a.take (i+1))+0*65536^(i+1):=by
 have:=Dg.uF (B:=65536) (a:=a) (b:=b) (o:=o++[0]) (i:=i) (c:=c) bW zb52 hc
 rw[Dg.fU bW,List.take_append_of_le_length (by omega),List.take_of_length_le (by omega)]at this
 exact this
theorem sR{a b o:List Nat}{i c:Nat}(hi:o.length=i)(h:Dg.vl 65536 o+Dg.vl 65536 (b.take i)=Dg.vl 65536 (a.take i)+c*65536^i)(hb:b.getD i 0+c≤a.getD i 0+65536):
  Dg.vl 65536 (o++[a.getD i 0+65536-b.getD i 0-c])+Dg.vl 65536 (b.take (i+1))=Dg.vl 65536 (a.take (i+1))+1*65536^(i+1):=by
 have:=Dg.uG (B:=65536) (a:=a) (b:=b) (o:=o++[0]) (i:=i) (c:=c) bW zb52 hb
 rw[Dg.fU bW,List.take_append_of_le_length (by omega),List.take_of_length_le (by omega)]at this
 exact this
set_option maxRecDepth 20000
set_option maxHeartbeats 1000000
theorem mJ(a b:Nat)(ha:(hd a).length≤800000000)(hba:b≤a):Fn Tryz.prog 154 [dN (hd a),dN (hd b)] (dN (hd (a-b))):=by
  refine aF Tryz.func154 af rfl rfl rfl fun X0=> ?_
  simp only[aA]
  have hlb:(hd b).length≤(hd a).length:=eC hba
  (repeat(first|refine gk fun K hK=> ?_|refine zs2 ?_));refine bK ?_;(repeat(first|refine gk fun K hK=> ?_|refine zs2 ?_));refine bK ?_;(repeat(first|refine gk fun K hK=> ?_|refine zs2 ?_));refine aQ ?_;(repeat(first|refine gk fun K hK=> ?_|refine zs2 ?_));refine aQ ?_;(repeat(first|refine gk fun K hK=> ?_|refine zs2 ?_))
  refine aq (b7 (t:=5) (k:=5) (T:=3) (wd:=1) b9 rfl rfl bB) ?_
  (refine aq (ai (sl':=[(0,dN (hd a)),(1,dN (hd b)),(5, .own 5),(6,zI 0),(7,zI 0)]) (ow':=[(5,⟨3,1,[]⟩)]) au aw) ?_)
  refine aH (fun r s=>∃i o c,r=(hd a).length-i∧i≤(hd a).length∧o.length=i∧Dg.dig 65536 o∧c≤1∧Dg.vl 65536 o+Dg.vl 65536 ((hd b).take i)=Dg.vl 65536 ((hd a).take i)+c*65536^i∧s=⟨[(0,dN (hd a)),(1,dN (hd b)),(5, .own 5),(6,zI (c:Nat)),(7,zI (i:Nat))],[(5,⟨3,1,o.map hN⟩)]⟩) (m:=(hd a).length) ⟨0,[],0,by omega,by omega,rfl,fun _ h=>(by cases h),by omega,by simp[Dg.vl],rfl⟩ fun r s hs=> ?_
  obtain⟨i,o,c,rfl,hia,ho,hdo,hc,hv,rfl⟩:=hs
  by_cases hend:i=(hd a).length
  · have e : Dg.vl 65536 o = a - b := by
      rw[List.take_of_length_le (by omega),List.take_of_length_le (by omega),en,en]at hv
      have h1:=Dg.aX hdo
      rw[ho]at h1
      rcases(show c=0∨c=1 by omega)with h|h
      · subst h;rw[Nat.zero_mul]at hv;omega
      · subst h;rw[Nat.one_mul]at hv;omega
    have T:=pY (l:=o) (by omega) hdo e
    clear hv
    (repeat(first|refine gk fun K hK=> ?_|refine zs2 ?_));refine bh ?_;(repeat(first|refine gk fun K hK=> ?_|refine zs2 ?_))
    refine ay ?_
    (repeat(first|refine gk fun K hK=> ?_|refine zs2 ?_))
    refine aq (aE (k:=5) aU bs br) ?_
    refine te ?_
    (repeat(first|refine gk fun K hK=> ?_|refine zs2 ?_))
    exact⟨_,Sh.refl, .one (.tmp 4) _ rfl (.tmp 4 rfl)⟩
  · have hxl:(hd a).getD i 0<65536:=Dg.aS (ew a) (by decide) i
    have hyl:(hd b).getD i 0<65536:=Dg.aS (ew b) (by decide) i
    have hx:(hd a)[i]?=some ((hd a).getD i 0):=jV (by omega)
    have hy:i<(hd b).length→(hd b)[i]?=some ((hd b).getD i 0):=jV
    have hy0:(hd b).length≤i→(hd b).getD i 0=0:=oE
    have LO:=sQ (a:=hd a) (b:=hd b) ho hv
    have HI:=sR (a:=hd a) (b:=hd b) ho hv
    obtain⟨x,hxd⟩:∃x,x=(hd a).getD i 0:=⟨_,rfl⟩
    obtain⟨y,hyd⟩:∃y,y=(hd b).getD i 0:=⟨_,rfl⟩
    rw[←hxd]at hxl hx LO HI
    rw[←hyd]at hyl hy hy0 LO HI
    clear hxd hyd hv
    have hye:i<(hd b).length∨((hd b).length≤i∧y=0):=by
      by_cases h:i<(hd b).length
      · exact .inl h
      · exact .inr ⟨by omega,hy0 (by omega)⟩
    have hlen:∀q,(o++[q]).length=i+1:=fun q=>by simp[ho]
    by_cases hge:y+c≤x
    · have LO':=LO hge
      clear LO HI
      rcases hye with h6|⟨h6,h7⟩
      all_goals
        (repeat(first|refine gk fun K hK=> ?_|refine zs2 ?_));refine bh ?_;(repeat(first|refine gk fun K hK=> ?_|refine zs2 ?_))
        refine av ?_
        (repeat(first|refine gk fun K hK=> ?_|refine zs2 ?_));refine DZ ?_;(repeat(first|refine gk fun K hK=> ?_|refine zs2 ?_));refine bh ?_;(repeat(first|refine gk fun K hK=> ?_|refine zs2 ?_))
        (first|(refine av ?_;(repeat(first|refine gk fun K hK=> ?_|refine zs2 ?_));refine DU ?_;(repeat(first|refine gk fun K hK=> ?_|refine zs2 ?_)))|(refine ay ?_;(repeat(first|refine gk fun K hK=> ?_|refine zs2 ?_))))
        (repeat(first|refine gk fun K hK=> ?_|refine zs2 ?_));refine aQ ?_;(repeat(first|refine gk fun K hK=> ?_|refine zs2 ?_));refine dX ?_;(repeat(first|refine gk fun K hK=> ?_|refine zs2 ?_))
        refine ay ?_
        (refine aq (ai (sl':=[(0,dN (hd a)),(1,dN (hd b)),(5, .own 5),(6,zI 0),(7,zI (i:Nat)),(8,hN (x-y-c))]) (ow':=[(5,⟨3,1,o.map hN⟩)]) au aw) ?_)
        (repeat(first|refine gk fun K hK=> ?_|refine zs2 ?_));refine pP ?_;(repeat(first|refine gk fun K hK=> ?_|refine zs2 ?_));refine ba ?_;(repeat(first|refine gk fun K hK=> ?_|refine zs2 ?_))
        simp only[nx,inB]
        exact⟨(hd a).length-(i+1),_,by omega,(ai (sl':=[(0,dN (hd a)),(1,dN (hd b)),(5, .own 5),(6,zI ((0:Nat):Int)),(7,zI ((i+1:Nat):Int))]) (ow':=[(5,⟨3,1,o.map hN++[hN (x-y-c)]⟩)]) au aw),i+1,o++[x-y-c],0,rfl,by omega,hlen _,j8 hdo (by omega),by omega,LO',by rw[jU]⟩
    · have HI':=HI (by omega)
      clear LO HI
      rcases hye with h6|⟨h6,h7⟩
      all_goals
        (repeat(first|refine gk fun K hK=> ?_|refine zs2 ?_));refine bh ?_;(repeat(first|refine gk fun K hK=> ?_|refine zs2 ?_))
        refine av ?_
        (repeat(first|refine gk fun K hK=> ?_|refine zs2 ?_));refine DZ ?_;(repeat(first|refine gk fun K hK=> ?_|refine zs2 ?_));refine bh ?_;(repeat(first|refine gk fun K hK=> ?_|refine zs2 ?_))
        (first|(refine av ?_;(repeat(first|refine gk fun K hK=> ?_|refine zs2 ?_));refine DU ?_;(repeat(first|refine gk fun K hK=> ?_|refine zs2 ?_)))|(refine ay ?_;(repeat(first|refine gk fun K hK=> ?_|refine zs2 ?_))))
        (repeat(first|refine gk fun K hK=> ?_|refine zs2 ?_));refine aQ ?_;(repeat(first|refine gk fun K hK=> ?_|refine zs2 ?_));refine dX ?_;(repeat(first|refine gk fun K hK=> ?_|refine zs2 ?_))
        refine av ?_
        (repeat(first|refine gk fun K hK=> ?_|refine zs2 ?_));(refine gar ?_;refine zs4 ?_;refine tH ?_;refine zs6 ?_;refine fX ?_;refine ae ?_);(repeat(first|refine gk fun K hK=> ?_|refine zs2 ?_))
        (refine aq (ai (sl':=[(0,dN (hd a)),(1,dN (hd b)),(5, .own 5),(6,zI 1),(7,zI (i:Nat)),(8,hN (x+65536-y-c))]) (ow':=[(5,⟨3,1,o.map hN⟩)]) au aw) ?_)
        (repeat(first|refine gk fun K hK=> ?_|refine zs2 ?_));refine pP ?_;(repeat(first|refine gk fun K hK=> ?_|refine zs2 ?_));refine ba ?_;(repeat(first|refine gk fun K hK=> ?_|refine zs2 ?_))
        simp only[nx,inB]
        exact⟨(hd a).length-(i+1),_,by omega,(ai (sl':=[(0,dN (hd a)),(1,dN (hd b)),(5, .own 5),(6,zI ((1:Nat):Int)),(7,zI ((i+1:Nat):Int))]) (ow':=[(5,⟨3,1,o.map hN++[hN (x+65536-y-c)]⟩)]) au aw),i+1,o++[x+65536-y-c],1,rfl,by omega,hlen _,j8 hdo (by omega),by omega,HI',by rw[jU]⟩
end DW
end
section
open Go.RowKit
namespace DW
theorem p6{l m o:List Nat}{i k x c:Nat}(hl:Dg.dig 65536 l)(hm:Dg.dig 65536 m)(hil:i<l.length)(hx:x=l.getD i 0)(h:Dg.vl 65536 o+c*65536^(i+k)=Dg.vl 65536 (l.take i)*Dg.vl 65536 m+x*Dg.vl 65536 (m.take k)*65536^i)(hc:c≠0):k≤m.length:=by
 apply Nat.le_of_not_lt;intro hlt
 rw[List.take_of_length_le (l:=m) (by omega)]at h
 have e:Dg.vl 65536 (l.take (i+1))*Dg.vl 65536 m=Dg.vl 65536 (l.take i)*Dg.vl 65536 m+x*Dg.vl 65536 m*65536^i:=by
  rw[Dg.bD,←hx,Nat.add_mul,Nat.mul_right_comm]
 have h1:=Dg.aX (Dg.dv hl (i+1))
 rw[List.length_take,Nat.min_eq_left (by omega)]at h1
 have h2:=Dg.aX hm
 have h3:Dg.vl 65536 (l.take (i+1))*Dg.vl 65536 m≤65536^(i+1)*65536^m.length:=Nat.mul_le_mul (Nat.le_of_lt h1) (Nat.le_of_lt h2)
 rw[←Nat.pow_add]at h3
 have h4:(65536:Nat)^(i+1+m.length)≤65536^(i+k):=Nat.pow_le_pow_right (by decide) (by omega)
 have h5:1*65536^(i+k)≤c*65536^(i+k):=Nat.mul_le_mul_right _ (by omega)
 have h6:0<(65536:Nat)^(i+1+m.length):=Nat.pow_pos (by decide)
 have h7:Dg.vl 65536 (l.take (i+1))*Dg.vl 65536 m<65536^(i+1)*65536^m.length:=by
  by_cases hz:Dg.vl 65536 m=0
  ·rw[hz,Nat.mul_zero,←Nat.pow_add];exact h6
  ·exact Nat.mul_lt_mul_of_lt_of_le h1 (Nat.le_of_lt h2) (by omega)
 rw[←Nat.pow_add]at h7
 omega
theorem yw{l m o:List Nat}{i k x:Nat}(hk:m.length≤k)(hx:x=l.getD i 0)(h:Dg.vl 65536 o+0*65536^(i+k)=Dg.vl 65536 (l.take i)*Dg.vl 65536 m+x*Dg.vl 65536 (m.take k)*65536^i):Dg.vl 65536 o=Dg.vl 65536 (l.take (i+1))*Dg.vl 65536 m:=by
 rw[List.take_of_length_le hk,Nat.zero_mul,Nat.add_zero]at h
 rw[h,Dg.bD,←hx,Nat.add_mul,Nat.mul_right_comm x]
theorem j6{o:List Nat}{j:Nat}(h:j<o.length):o[j]?=some (o.getD j 0):=kR h
theorem map_set(o:List Nat)(j v:Nat):(o.set j v).map hN=(o.map hN).set j (hN v):=List.map_set
set_option maxRecDepth 20000
set_option maxHeartbeats 1000000
theorem tV(l m:List Nat)(hl:Dg.dig 65536 l)(hm:Dg.dig 65536 m)(hll:l.length≤400000000)(hml:m.length≤400000000):Fn Tryz.prog 155 [dN l,dN m] (dN (hd (Dg.vl 65536 l*Dg.vl 65536 m))):=by
  refine aF Tryz.func155 af rfl rfl rfl fun X0=> ?_
  simp only[aA]
  obtain⟨L,hL⟩:∃L,L=l.length+m.length+1:=⟨_,rfl⟩
  have hLc:(l.length:Int)+(m.length:Int)+1=(L:Int):=by omega
  (repeat(first|refine gk fun K hK=> ?_|refine zs2 ?_));refine bK ?_;(repeat(first|refine gk fun K hK=> ?_|refine zs2 ?_));(refine gar ?_;refine zs4 ?_;refine zs5 ?_;refine zs4 ?_;refine zs5 ?_;refine m7 ?_;refine tH ?_;(refine vF (k:=15) (T:=Tryz.prog.elem 40) (zv:=(.int .i64 0)) (d0:=(.sc (.int .i64 0))) (wd:=1) rfl rfl rfl rfl bf bf af af aa aa aa aa aa (by omega) zb59 aa bB ?_);refine zs6 ?_;refine ae ?_);(repeat(first|refine gk fun K hK=> ?_|refine zs2 ?_));refine aQ ?_;(repeat(first|refine gk fun K hK=> ?_|refine zs2 ?_))
  (refine aq (ai (sl':=[(0,dN l),(1,dN m),(5, .own 15),(6,zI 0)]) (ow':=[(15,⟨3,1,List.replicate L (zI 0)⟩)]) au aw) ?_)
  refine aH (fun r s=>∃i o,r=l.length-i∧i≤l.length∧o.length=L∧Dg.dig 65536 o∧Dg.vl 65536 o=Dg.vl 65536 (l.take i)*Dg.vl 65536 m∧s=⟨[(0,dN l),(1,dN m),(5, .own 15),(6,zI (i:Nat))],[(15,⟨3,1,o.map hN⟩)]⟩) (m:=l.length) ⟨0,List.replicate L 0,by omega,by omega,by simp,Dg.dm (by decide) _,by rw[Dg.mf];simp[Dg.vl],by rw[List.map_replicate];rfl⟩ fun r s hs=> ?_
  obtain⟨i,o,rfl,hil,ho,hdo,hv,rfl⟩:=hs
  by_cases hend:i=l.length
  · have e:Dg.vl 65536 o=Dg.vl 65536 l*Dg.vl 65536 m:=by rw[hv,List.take_of_length_le (by omega)]
    have T:=pY (l:=o) (by omega) hdo e
    clear hv
    (repeat(first|refine gk fun K hK=> ?_|refine zs2 ?_));refine bh ?_;(repeat(first|refine gk fun K hK=> ?_|refine zs2 ?_))
    refine ay ?_
    (repeat(first|refine gk fun K hK=> ?_|refine zs2 ?_))
    refine aq (aE (k:=15) aU bs br) ?_
    refine te ?_
    (repeat(first|refine gk fun K hK=> ?_|refine zs2 ?_))
    exact⟨_,Sh.refl, .one (.tmp 4) _ rfl (.tmp 4 rfl)⟩
  · have hil':i<l.length:=by omega
    obtain⟨x,hxd⟩:∃x,x=l.getD i 0:=⟨_,rfl⟩
    have hx:l[i]?=some x:=by rw[hxd];exact j6 hil'
    have hxl:x<65536:=by rw[hxd];exact Dg.aS hl (by decide) i
    (repeat(first|refine gk fun K hK=> ?_|refine zs2 ?_));refine bh ?_;(repeat(first|refine gk fun K hK=> ?_|refine zs2 ?_))
    refine av ?_
    (repeat(first|refine gk fun K hK=> ?_|refine zs2 ?_));refine aQ ?_;(repeat(first|refine gk fun K hK=> ?_|refine zs2 ?_));refine aQ ?_;(repeat(first|refine gk fun K hK=> ?_|refine zs2 ?_))
    (refine aq (ai (sl':=[(0,dN l),(1,dN m),(5, .own 15),(6,zI (i:Nat)),(7,zI 0),(8,zI 0)]) (ow':=[(15,⟨3,1,o.map hN⟩)]) au aw) ?_)
    refine aH (fun r s=>∃k o c,r=m.length+1-k∧o.length=L∧Dg.dig 65536 o∧c<65536∧(k≤m.length∨(k≤m.length+1∧c=0))∧Dg.vl 65536 o+c*65536^(i+k)=Dg.vl 65536 (l.take i)*Dg.vl 65536 m+x*Dg.vl 65536 (m.take k)*65536^i∧s=⟨[(0,dN l),(1,dN m),(5, .own 15),(6,zI (i:Nat)),(7,zI (c:Nat)),(8,zI (k:Nat))],[(15,⟨3,1,o.map hN⟩)]⟩) (m:=m.length+1) ⟨0,o,0,by omega,ho,hdo,by omega, .inl (by omega),by rw[hv];simp[Dg.vl],rfl⟩ fun r s hs=> ?_
    clear hv hdo ho
    obtain⟨k,o,c,rfl,ho,hdo,hc,hkm,hv,rfl⟩:=hs
    by_cases hend2:m.length≤k∧c=0
    · obtain⟨h1,h2⟩:=hend2
      have e:Dg.vl 65536 o=Dg.vl 65536 (l.take (i+1))*Dg.vl 65536 m:=by subst h2;exact yw h1 hxd hv
      clear hv
      (repeat(first|refine gk fun K hK=> ?_|refine zs2 ?_));refine xS ?_;(repeat(first|refine gk fun K hK=> ?_|refine zs2 ?_))
      refine ay ?_
      (repeat(first|refine gk fun K hK=> ?_|refine zs2 ?_));refine ba ?_;(repeat(first|refine gk fun K hK=> ?_|refine zs2 ?_))
      simp only[nx,inB]
      exact⟨l.length-(i+1),_,by omega,(ai (sl':=[(0,dN l),(1,dN m),(5, .own 15),(6,zI ((i+1:Nat):Int))]) (ow':=[(15,⟨3,1,o.map hN⟩)]) au aw),i+1,o,rfl,by omega,ho,hdo,e,rfl⟩
    · have hk : k ≤ m.length := by
        by_cases h:c=0
        · omega
        · exact p6 hl hm hil' hxd hv h
      have hik:i+k<o.length:=by omega
      have STEP:=Dg.p4 (B:=65536) (b:=m) (o:=o) (i:=i) (k:=k) (x:=x) (c:=c) hik hv
      have hu:=j6 hik
      have hul:o.getD (i+k) 0<65536:=Dg.aS hdo (by decide) _
      have hyl:m.getD k 0<65536:=Dg.aS hm (by decide) _
      have hy:k<m.length→m[k]?=some (m.getD k 0):=j6
      have hy0:m.length≤k→m.getD k 0=0:=oE
      clear hv
      obtain⟨u,hud⟩:∃u,u=o.getD (i+k) 0:=⟨_,rfl⟩
      obtain⟨y,hyd⟩:∃y,y=m.getD k 0:=⟨_,rfl⟩
      rw[←hud]at hul hu STEP
      rw[←hyd]at hyl hy hy0 STEP
      clear hud hyd
      have hxy:x*y≤65535*65535:=Nat.mul_le_mul (by omega) (by omega)
      have hxy0:y=0→x*y=0:=fun h=>by rw[h,Nat.mul_zero]
      have hc2:(x*y+u+c)/65536<65536:=by
        rw[Nat.div_lt_iff_lt_mul (by decide)]
        omega
      have hik':(i:Int)+(k:Int)=((i+k:Nat):Int):=by omega
      have hdig:=Dg.cJ hdo (j:=i+k) (Nat.mod_lt (x*y+u+c) (by decide:0<65536))
      have hms:=map_set o (i+k) ((x*y+u+c)%65536)
      have hlen:(o.set (i+k) ((x*y+u+c)%65536)).length=L:=by rw[List.length_set];exact ho
      have hcast:((x*y:Nat):Int)=(x:Int)*(y:Int):=Int.natCast_mul x y
      have hye:k<m.length∨(m.length≤k∧y=0∧c≠0):=by
        by_cases h:k<m.length
        · exact .inl h
        · exact .inr ⟨by omega,hy0 (by omega),by omega⟩
      rcases hye with h6|⟨h6,h7,h8⟩
      · have hye:=hy h6
        (repeat(first|refine gk fun K hK=> ?_|refine zs2 ?_));refine xS ?_;(repeat(first|refine gk fun K hK=> ?_|refine zs2 ?_))
        refine av ?_
        (repeat(first|refine gk fun K hK=> ?_|refine zs2 ?_));refine DT ?_;(repeat(first|refine gk fun K hK=> ?_|refine zs2 ?_));refine bh ?_;(repeat(first|refine gk fun K hK=> ?_|refine zs2 ?_))
        refine av ?_
        (repeat(first|refine gk fun K hK=> ?_|refine zs2 ?_));(refine zs68 ?_;refine a8 ?_;refine a8 ?_;refine a8 ?_;refine dQ ?_;refine bq ?_;refine a8 ?_;refine a8 ?_;refine dQ ?_;refine bq ?_;(first|refine cw rfl rfl rfl aa zb14 aa aa ?_|((try refine aD ?_);refine aL1 rfl rfl rfl zb14 ?_));(first|refine cw rfl rfl rfl aa zb13 aa aa ?_|((try refine aD ?_);refine aL1 rfl rfl rfl zb13 ?_));refine jL ?_;refine cV ?_);(repeat(first|refine gk fun K hK=> ?_|refine zs2 ?_))
        (refine aq (ai (sl':=[(0,dN l),(1,dN m),(5, .own 15),(6,zI (i:Nat)),(7,zI ((x*y+u+c:Nat):Int)),(8,zI (k:Nat))]) (ow':=[(15,⟨3,1,o.map hN⟩)]) au aw) ?_)
        (repeat(first|refine gk fun K hK=> ?_|refine zs2 ?_));refine DS ?_;(repeat(first|refine gk fun K hK=> ?_|refine zs2 ?_));refine pO ?_;(repeat(first|refine gk fun K hK=> ?_|refine zs2 ?_));refine ba ?_;(repeat(first|refine gk fun K hK=> ?_|refine zs2 ?_))
        simp only[nx,inB]
        exact⟨m.length+1-(k+1),_,by omega,(ai (sl':=[(0,dN l),(1,dN m),(5, .own 15),(6,zI (i:Nat)),(7,zI (((x*y+u+c)/65536:Nat):Int)),(8,zI ((k+1:Nat):Int))]) (ow':=[(15,⟨3,1,(o.map hN).set (i+k) (hN ((x*y+u+c)%65536))⟩)]) au aw),k+1,o.set (i+k) ((x*y+u+c)%65536),(x*y+u+c)/65536,rfl,hlen,hdig,hc2,by omega,STEP,by rw[hms]⟩
      · have h9:=hxy0 h7
        (repeat(first|refine gk fun K hK=> ?_|refine zs2 ?_));refine xS ?_;(repeat(first|refine gk fun K hK=> ?_|refine zs2 ?_))
        refine av ?_
        (repeat(first|refine gk fun K hK=> ?_|refine zs2 ?_));refine DT ?_;(repeat(first|refine gk fun K hK=> ?_|refine zs2 ?_));refine bh ?_;(repeat(first|refine gk fun K hK=> ?_|refine zs2 ?_))
        refine ay ?_
        (refine aq (ai (sl':=[(0,dN l),(1,dN m),(5, .own 15),(6,zI (i:Nat)),(7,zI ((x*y+u+c:Nat):Int)),(8,zI (k:Nat))]) (ow':=[(15,⟨3,1,o.map hN⟩)]) au aw) ?_)
        (repeat(first|refine gk fun K hK=> ?_|refine zs2 ?_));refine DS ?_;(repeat(first|refine gk fun K hK=> ?_|refine zs2 ?_));refine pO ?_;(repeat(first|refine gk fun K hK=> ?_|refine zs2 ?_));refine ba ?_;(repeat(first|refine gk fun K hK=> ?_|refine zs2 ?_))
        simp only[nx,inB]
        have hk1:k+1≤m.length∨(k+1≤m.length+1∧(x*y+u+c)/65536=0):=by
          refine .inr ⟨by omega,Classical.byContradiction fun h=> ?_⟩
          have:=p6 hl hm hil' hxd STEP h
          omega
        exact⟨m.length+1-(k+1),_,by omega,(ai (sl':=[(0,dN l),(1,dN m),(5, .own 15),(6,zI (i:Nat)),(7,zI (((x*y+u+c)/65536:Nat):Int)),(8,zI ((k+1:Nat):Int))]) (ow':=[(15,⟨3,1,(o.map hN).set (i+k) (hN ((x*y+u+c)%65536))⟩)]) au aw),k+1,o.set (i+k) ((x*y+u+c)%65536),(x*y+u+c)/65536,rfl,hlen,hdig,hc2,hk1,STEP,by rw[hms]⟩
end DW
end
section
open Go.RowKit
namespace DW
theorem zC(b x:Nat):Dg.vl b [x]=x:=by simp[Dg.vl]
set_option maxRecDepth 20000
set_option maxHeartbeats 1000000
theorem sM(a b:Nat)(ha:(hd a).length≤300000000)(hb:(hd b).length≤300000000)(hb0:0<b):Fn Tryz.prog 168 [dN (hd a),dN (hd b)] (.tp [dN (hd (a/b)),dN (hd (a%b))]):=by
 refine aF Tryz.func168 af rfl rfl rfl fun X0=>?_
 simp only[aA]
 obtain⟨L,hL⟩:∃L,L=(hd a).length:=⟨_,rfl⟩
 have hLc:((hd a).length:Int)=(L:Int):=by omega
 (repeat(first|refine gk fun K hK=>?_|refine zs2 ?_));(refine gar ?_;refine zs3 ?_;refine zs3 ?_;refine ae ?_);(repeat(first|refine gk fun K hK=>?_|refine zs2 ?_));(refine gar ?_;refine zs4 ?_;refine zs5 ?_;(refine vF (k:=14) (T:=Tryz.prog.elem 40) (zv:=(.int .i64 0)) (d0:=(.sc (.int .i64 0))) (wd:=1) rfl rfl rfl rfl bf bf af af aa aa aa aa aa (by omega) zb59 aa bB ?_);refine zs6 ?_;refine ae ?_);(repeat(first|refine gk fun K hK=>?_|refine zs2 ?_));refine bK ?_;(repeat(first|refine gk fun K hK=>?_|refine zs2 ?_));refine xU ?_;(repeat(first|refine gk fun K hK=>?_|refine zs2 ?_))
 (refine aq (ir (t:=7) (wd:=1) b9) ?_)
 (refine aq (ai (sl':=[(0,dN (hd a)),(1,dN (hd b)),(6,.own 14),(7,.ls 1 []),(8,zI ((hd a).length-1))]) (ow':=[(14,⟨3,1,List.replicate L (zI 0)⟩)]) au aw) ?_)
 refine aH (fun r s=>∃q m,r≤L∧q.length=L∧Dg.dig 65536 q∧m<b∧Dg.vl 65536 ((hd a).drop r)=b*Dg.vl 65536 (q.drop r)+m∧s=⟨[(0,dN (hd a)),(1,dN (hd b)),(6,.own 14),(7,dN (hd m)),(8,zI (r-1))],[(14,⟨3,1,q.map hN⟩)]⟩) (m:=L) ⟨List.replicate L 0,0,Nat.le_refl _,by simp,Dg.dm (by decide) _,hb0,by rw[List.drop_of_length_le (by omega),List.drop_of_length_le (by simp)];simp[Dg.vl],by rw[List.map_replicate,←hL,show hd 0=[]from List.length_eq_zero_iff.1 ((gZ 0).2 rfl)];rfl⟩ fun r s hs=>?_
 obtain⟨q,m,hr,hq,hdq,hm,hv,rfl⟩:=hs
 by_cases hr0:r=0
 ·subst hr0
  rw[List.drop_zero,List.drop_zero,en]at hv
  have e1:a/b=Dg.vl 65536 q:=by rw[hv,Nat.mul_add_div hb0,Nat.div_eq_of_lt hm,Nat.add_zero]
  have e2:a%b=m:=by rw[hv,Nat.mul_add_mod,Nat.mod_eq_of_lt hm]
  have T:=pY (l:=q) (by omega) hdq e1.symm
  clear hv
  (repeat(first|refine gk fun K hK=>?_|refine zs2 ?_));refine dX ?_;(repeat(first|refine gk fun K hK=>?_|refine zs2 ?_))
  refine ay ?_
  (repeat(first|refine gk fun K hK=>?_|refine zs2 ?_))
  refine aq (aE (k:=14) aU bs br) ?_
  (refine gar ?_;refine zs4 ?_;refine bL ?_;refine zs4 ?_;refine zs6 ?_;refine zs6 ?_;refine ae ?_)
  (repeat(first|refine gk fun K hK=>?_|refine zs2 ?_))
  rw[e2]
  exact⟨_,Sh.refl,.two (.tmp 4) (.tmp 5) _ _ rfl (.tmp 4 rfl) (.tmp 5 rfl)⟩
 ·obtain⟨i,rfl⟩:∃i,r=i+1:=⟨r-1,by omega⟩
  have hi:i<(hd a).length:=by omega
  have hiq:i<q.length:=by omega
  have STEP:=Dg.qa (B:=65536) (a:=hd a) (o:=q) (i:=i) (d:=b) (r:=m) hi hiq hv
  clear hv
  have hx:=jV hi
  have hxl:(hd a).getD i 0<65536:=Dg.aS (ew a) (by decide) i
  obtain⟨x,hxd⟩:∃x,x=(hd a).getD i 0:=⟨_,rfl⟩
  rw[←hxd]at hx hxl STEP
  have hc:((i+1:Nat):Int)-1=(i:Int):=by omega
  have hml:(hd m).length≤(hd b).length:=eC (by omega)
  have T:=pY (l:=x::hd m) (by simp only[List.length_cons];omega) (fun y hy=>by
   rcases List.mem_cons.1 hy with rfl|h
   ·exact hxl
   ·exact ew m y h) (n:=m*65536+x) (by rw[Dg.cn,en];omega)
  obtain⟨R,hR⟩:∃R,R=m*65536+x:=⟨_,rfl⟩
  rw[←hR]at T STEP
  have hRb:R/b<65536:=by
   rw[Nat.div_lt_iff_lt_mul hb0]
   have:=Nat.mul_le_mul_right 65536 (show m+1≤b by omega)
   rw[Nat.mul_comm 65536 b];omega
  have hRl:(hd R).length≤(hd b).length+1:=dJ (by
   have h1:=kQ b
   rw[Nat.pow_succ]
   have h4:=Nat.mul_le_mul_right 65536 (show m+1≤b by omega)
   have h5:=Nat.mul_le_mul_right 65536 (Nat.le_of_lt h1)
   omega)
  have TIMES:∀g:Nat,g<65536→Fn Tryz.prog 155 [dN (hd b),dN [g]] (dN (hd (b*g))):=fun g hg=>by
   have:=tV (hd b) [g] (ew b) (fun y hy=>by rw[List.mem_singleton.1 hy];exact hg) (by omega) (by simp)
   rwa[en,zC]at this
  have hprod:∀g,g<65536→(hd (b*g)).length≤(hd b).length+1:=fun g hg=>dJ (by
   have h1:=kQ b
   rw[Nat.pow_succ]
   have h4:b*g≤b*65536:=Nat.mul_le_mul_left b (by omega)
   have h5:=Nat.mul_lt_mul_of_pos_right h1 (show 0<65536 by decide)
   omega)
  have hml2:(hd m).length≤300000000:=by omega
  clear hml hxd
  (repeat(first|refine gk fun K hK=>?_|refine zs2 ?_));refine dX ?_;(repeat(first|refine gk fun K hK=>?_|refine zs2 ?_))
  refine av ?_
  (repeat(first|refine gk fun K hK=>?_|refine zs2 ?_));(refine gar ?_;refine zs4 ?_;refine zs4 ?_;refine xw ?_;refine tE ?_;(refine IL (k:=26) (T:=Tryz.prog.elem 40) rfl rfl rfl rfl bf aa cf aa af af aa aa aa bB ?_);refine zs4 ?_;refine tF ?_;refine aL_sh (aE (k:=26) aU bs br) ?_;refine bL ?_;refine zs6 ?_;refine ae ?_);(repeat(first|refine gk fun K hK=>?_|refine zs2 ?_));(refine gar ?_;refine fX ?_;refine fX ?_;refine ae ?_);(repeat(first|refine gk fun K hK=>?_|refine zs2 ?_))
  (refine aq (ai (sl':=[(0,dN (hd a)),(1,dN (hd b)),(6,.own 14),(7,dN (hd R)),(8,zI (i:Nat)),(9,zI ((0:Nat):Int)),(10,zI ((65535:Nat):Int))]) (ow':=[(14,⟨3,1,q.map hN⟩)]) au aw) ?_)
  refine aH (fun r s=>∃lo hi,r=hi-lo∧lo≤hi∧hi<65536∧b*lo≤R∧R<b*(hi+1)∧s=⟨[(0,dN (hd a)),(1,dN (hd b)),(6,.own 14),(7,dN (hd R)),(8,zI (i:Nat)),(9,zI (lo:Nat)),(10,zI (hi:Nat))],[(14,⟨3,1,q.map hN⟩)]⟩) (m:=65535) ⟨0,65535,rfl,by omega,by omega,by omega,by
   rw[Nat.div_lt_iff_lt_mul hb0]at hRb
   rw[Nat.mul_comm];exact hRb,rfl⟩ fun r s hs=>?_
  obtain⟨lo,hi',rfl,h1,h2,h3,h4,rfl⟩:=hs
  by_cases hlh:lo=hi'
  ·subst hlh
   have e1:R/b=lo:=by
    apply Nat.le_antisymm
    ·have:=(Nat.div_lt_iff_lt_mul hb0).2 (by rw[Nat.mul_comm];exact h4);omega
    ·exact(Nat.le_div_iff_mul_le hb0).2 (by rw[Nat.mul_comm];exact h3)
   have e2:R%b=R-b*lo:=by rw[Nat.mod_def,e1]
   have hmb:R%b<b:=Nat.mod_lt _ hb0
   rw[e1]at STEP
   have MIN:=mJ R (b*lo) (by omega) h3
   rw[←e2]at MIN
   have hlen:(q.set i lo).length=L:=by rw[List.length_set];exact hq
   have hdig:=Dg.cJ hdq (j:=i) (show lo<65536 by omega)
   have hms:=map_set q i lo
   (repeat(first|refine gk fun K hK=>?_|refine zs2 ?_));refine kC ?_;(repeat(first|refine gk fun K hK=>?_|refine zs2 ?_))
   refine ay ?_
   (repeat(first|refine gk fun K hK=>?_|refine zs2 ?_));refine DR ?_;(repeat(first|refine gk fun K hK=>?_|refine zs2 ?_));(refine gar ?_;refine zs4 ?_;refine zs4 ?_;refine zs4 ?_;refine jk ?_;(refine aL1 rfl rfl rfl (by(apply fH;(focus(exact rfl));(focus((apply ao;(conv=>lhs;whnf);(first|done|exact rfl))));(focus((apply ao;(conv=>lhs;whnf);(first|done|exact rfl))));(focus(exact rfl));(focus(exact rfl));(focus((first|exact TIMES lo (by omega))));(focus(exact rfl)))) ?_);refine fJ ?_;refine zs6 ?_;refine ae ?_);(repeat(first|refine gk fun K hK=>?_|refine zs2 ?_));refine nZ ?_;(repeat(first|refine gk fun K hK=>?_|refine zs2 ?_))
   simp only[nx,inB]
   exact⟨i,_,by omega,(ai (sl':=[(0,dN (hd a)),(1,dN (hd b)),(6,.own 14),(7,dN (hd (R%b))),(8,zI ((i:Int)-1))]) (ow':=[(14,⟨3,1,(q.map hN).set i (hN lo)⟩)]) au aw),q.set i lo,R%b,by omega,hlen,hdig,hmb,STEP,by rw[hms]⟩
  ·obtain⟨g,hg⟩:∃g,g=(lo+hi'+1)/2:=⟨_,rfl⟩
   have hg1:lo<g:=by omega
   have hg2:g≤hi':=by omega
   have LESS:=AI R (b*g) (by omega) (by have:=hprod g (by omega);omega)
   (repeat(first|refine gk fun K hK=>?_|refine zs2 ?_));refine kC ?_;(repeat(first|refine gk fun K hK=>?_|refine zs2 ?_))
   refine av ?_
   (repeat(first|refine gk fun K hK=>?_|refine zs2 ?_));(refine gar ?_;refine zs4 ?_;refine zs4 ?_;refine m7 ?_;refine tH ?_;refine zs51 ?_;refine zs6 ?_;refine ae ?_);(repeat(first|refine gk fun K hK=>?_|refine zs2 ?_))
   (refine aq (ai (sl':=[(0,dN (hd a)),(1,dN (hd b)),(6,.own 14),(7,dN (hd R)),(8,zI (i:Nat)),(9,zI (lo:Nat)),(10,zI (hi':Nat)),(11,zI (g:Nat))]) (ow':=[(14,⟨3,1,q.map hN⟩)]) au aw) ?_)
   by_cases hlt:R<b*g
   ·(repeat(first|refine gk fun K hK=>?_|refine zs2 ?_));refine DQ ?_;(repeat(first|refine gk fun K hK=>?_|refine zs2 ?_))
    refine av ?_
    (repeat(first|refine gk fun K hK=>?_|refine zs2 ?_));refine nZ ?_;(repeat(first|refine gk fun K hK=>?_|refine zs2 ?_))
    simp only[nx,inB]
    exact⟨g-1-lo,_,by omega,(ai (sl':=[(0,dN (hd a)),(1,dN (hd b)),(6,.own 14),(7,dN (hd R)),(8,zI (i:Nat)),(9,zI (lo:Nat)),(10,zI ((g-1:Nat):Int))]) (ow':=[(14,⟨3,1,q.map hN⟩)]) au aw),lo,g-1,rfl,by omega,by omega,h3,by rw[show g-1+1=g by omega];exact hlt,rfl⟩
   ·(repeat(first|refine gk fun K hK=>?_|refine zs2 ?_));refine DQ ?_;(repeat(first|refine gk fun K hK=>?_|refine zs2 ?_))
    refine ay ?_
    (repeat(first|refine gk fun K hK=>?_|refine zs2 ?_));refine dT ?_;(repeat(first|refine gk fun K hK=>?_|refine zs2 ?_))
    simp only[nx,inB]
    exact⟨hi'-g,_,by omega,(ai (sl':=[(0,dN (hd a)),(1,dN (hd b)),(6,.own 14),(7,dN (hd R)),(8,zI (i:Nat)),(9,zI (g:Nat)),(10,zI (hi':Nat))]) (ow':=[(14,⟨3,1,q.map hN⟩)]) au aw),g,hi',rfl,by omega,by omega,by omega,h4,rfl⟩
end DW
end
section
open Go.RowKit
namespace DW
theorem Iq(a b:Nat):(hd (a*b)).length≤(hd a).length+(hd b).length:=by
 by_cases h0:b=0
 ·subst h0;rw[Nat.mul_zero,(gZ 0).2 rfl];omega
 apply dJ
 rw[Nat.pow_add]
 exact Nat.mul_lt_mul_of_lt_of_le (kQ a) (Nat.le_of_lt (kQ b)) (Nat.pow_pos (by decide))
theorem uX(a b:Nat):(hd (a+b)).length≤max (hd a).length (hd b).length+1:=by
 apply dJ
 rw[Nat.pow_succ]
 have h1:(65536:Nat)^(hd a).length≤65536^max (hd a).length (hd b).length:=Nat.pow_le_pow_right (by decide) (Nat.le_max_left _ _)
 have h2:(65536:Nat)^(hd b).length≤65536^max (hd a).length (hd b).length:=Nat.pow_le_pow_right (by decide) (Nat.le_max_right _ _)
 have:=kQ a
 have:=kQ b
 omega
theorem eA(z:Int):Dg.iv (decide (z<0)) z.natAbs=z:=qx
theorem yT(n:Nat):Dg.iv false n=(n:Int):=rfl
set_option maxRecDepth 20000
set_option maxHeartbeats 1000000
theorem add_d(u v:Int)(hu:Hf u)(hv:Hf v):Fn Tryz.prog 83 [.nm u,.nm v] (.nm (u+v)):=by
 have D1:=cZ hu
 have D2:=cZ hv
 unfold Hf at hu hv
 have hp:=uX u.natAbs v.natAbs
 refine aF Tryz.func83 af rfl rfl rfl fun X0=>?_
 simp only[aA]
 by_cases hs:decide (u<0)=decide (v<0)
 ·have hb:(decide (u<0)==decide (v<0))=true:=by rw[hs,beq_self_eq_true]
  have M:=fE (s:=decide (u<0)) (n:=u.natAbs+v.natAbs) (z:=u+v) (by omega) (by
   rw[Dg.wM]
   conv=>lhs;rhs;rw[hs]
   rw[eA,eA])
  have PL:=wC u.natAbs v.natAbs (by omega) (by omega)
  (repeat(first|refine gk fun K hK=>?_|refine zs2 ?_));refine nX ?_;(repeat(first|refine gk fun K hK=>?_|refine zs2 ?_));refine xQ ?_;(repeat(first|refine gk fun K hK=>?_|refine zs2 ?_));refine DP ?_;(repeat(first|refine gk fun K hK=>?_|refine zs2 ?_))
  refine av ?_
  (repeat(first|refine gk fun K hK=>?_|refine zs2 ?_));refine xP ?_;(repeat(first|refine gk fun K hK=>?_|refine zs2 ?_))
  exact⟨_,aE (k:=4) aU bs br,.one (.cell 4 62) _ rfl (.cell 4 _ _ rfl rfl af af)⟩
 ·have hb:(decide (u<0)==decide (v<0))=false:=by rw[beq_eq_false_iff_ne];exact hs
  have LE:=AI u.natAbs v.natAbs (by omega) (by omega)
  (repeat(first|refine gk fun K hK=>?_|refine zs2 ?_));refine nX ?_;(repeat(first|refine gk fun K hK=>?_|refine zs2 ?_));refine xQ ?_;(repeat(first|refine gk fun K hK=>?_|refine zs2 ?_));refine DP ?_;(repeat(first|refine gk fun K hK=>?_|refine zs2 ?_))
  refine ay ?_
  (repeat(first|refine gk fun K hK=>?_|refine zs2 ?_));(refine gar ?_;refine zs4 ?_;refine zs4 ?_;refine fJ ?_;refine ae ?_);(repeat(first|refine gk fun K hK=>?_|refine zs2 ?_))
  by_cases hl:u.natAbs<v.natAbs
  ·have MI:=mJ v.natAbs u.natAbs (by omega) (by omega)
   have hm:=eC (show v.natAbs-u.natAbs≤v.natAbs by omega)
   have M:=fE (s:=decide (v<0)) (n:=v.natAbs-u.natAbs) (z:=u+v) (by omega) (by
    rw[Dg.qy hs (by omega),eA,eA])
   refine av ?_
   (repeat(first|refine gk fun K hK=>?_|refine zs2 ?_));refine xP ?_;(repeat(first|refine gk fun K hK=>?_|refine zs2 ?_))
   exact⟨_,aE (k:=4) aU bs br,.one (.cell 4 62) _ rfl (.cell 4 _ _ rfl rfl af af)⟩
  ·have MI:=mJ u.natAbs v.natAbs (by omega) (by omega)
   have hm:=eC (show u.natAbs-v.natAbs≤u.natAbs by omega)
   have M:=fE (s:=decide (u<0)) (n:=u.natAbs-v.natAbs) (z:=u+v) (by omega) (by
    rw[Dg.qz hs (by omega),eA,eA])
   refine ay ?_
   (repeat(first|refine gk fun K hK=>?_|refine zs2 ?_));refine xP ?_;(repeat(first|refine gk fun K hK=>?_|refine zs2 ?_))
   exact⟨_,aE (k:=4) aU bs br,.one (.cell 4 62) _ rfl (.cell 4 _ _ rfl rfl af af)⟩
theorem EG(u v:Int)(hu:Hf u)(hv:Hf v):Fn Tryz.prog 187 [.nm u,.nm v] (.nm (u-v)):=by
 have N:=EO v hv
 have A:=add_d u (-v) hu hv.neg
 rw[←Int.sub_eq_add_neg]at A
 refine aF Tryz.func187 af rfl rfl rfl fun X0=>?_
 simp only[aA]
 (repeat(first|refine gk fun K hK=>?_|refine zs2 ?_));refine nX ?_;(repeat(first|refine gk fun K hK=>?_|refine zs2 ?_));(((first|(apply ak 4;(focus kernel_rfl);(focus(decide+kernel)))|(apply ak 3;(focus kernel_rfl);(focus(decide+kernel)))|(apply ak 2;(focus kernel_rfl);(focus(decide+kernel)))|(apply ak 1;(focus kernel_rfl);(focus(decide+kernel))));simp only[List.take_succ_cons,List.take_zero,List.drop_succ_cons,List.drop_zero]);refine bq ?_;refine bq ?_;refine lV ?_;refine gG ?_;refine tG ?_;refine cV ?_);(repeat(first|refine gk fun K hK=>?_|refine zs2 ?_))
 exact⟨_,aE (k:=4) aU bs br,.one (.cell 4 62) _ rfl (.cell 4 _ _ rfl rfl af af)⟩
theorem tw(u v:Int)(hu:Hf u)(hv:Hf v):Fn Tryz.prog 84 [.nm u,.nm v] (.nm (u*v)):=by
 have D1:=cZ hu
 have D2:=cZ hv
 unfold Hf at hu hv
 have hp:=Iq u.natAbs v.natAbs
 have T:=tV (hd u.natAbs) (hd v.natAbs) (ew _) (ew _) (by omega) (by omega)
 rw[en,en]at T
 have M:=fE (s:=!(decide (u<0)==decide (v<0))) (n:=u.natAbs*v.natAbs) (z:=u*v) (by omega) (by
  have:=Dg.uS (decide (u<0)) (decide (v<0)) u.natAbs v.natAbs
  rw[eA,eA]at this
  exact this)
 refine aF Tryz.func84 af rfl rfl rfl fun X0=>?_
 simp only[aA]
 (repeat(first|refine gk fun K hK=>?_|refine zs2 ?_));refine nX ?_;(repeat(first|refine gk fun K hK=>?_|refine zs2 ?_));(refine zs68 ?_;refine oU ?_;refine bq ?_;refine oU ?_;refine bq ?_;refine xx ?_;refine bq ?_;refine lV ?_;refine bq ?_;refine lV ?_;refine gG ?_;refine gG ?_;refine tG ?_;refine cV ?_);(repeat(first|refine gk fun K hK=>?_|refine zs2 ?_))
 exact⟨_,aE (k:=4) aU bs br,.one (.cell 4 62) _ rfl (.cell 4 _ _ rfl rfl af af)⟩
theorem Hf.sub'{u v:Int}(hu:(hd u.natAbs).length≤199999999)(hv:(hd v.natAbs).length≤199999999):Hf (u-v):=by
 unfold Hf
 have h1:=uX u.natAbs v.natAbs
 have h2:=eC (show(u-v).natAbs≤u.natAbs+v.natAbs by omega)
 omega
theorem za(u v:Int)(hu:(hd u.natAbs).length≤199999999)(hv:(hd v.natAbs).length≤199999999):Fn Tryz.prog 147 [.nm u,.nm v] (zI (sgn (u-v))):=by
 have A:=EG u v (by unfold Hf;omega) (by unfold Hf;omega)
 have B:=jf (u-v) (Hf.sub' hu hv)
 refine aF Tryz.func147 af rfl rfl rfl fun X0=>?_
 simp only[aA]
 (repeat(first|refine gk fun K hK=>?_|refine zs2 ?_));refine kB ?_;(repeat(first|refine gk fun K hK=>?_|refine zs2 ?_));(refine gar ?_;refine aJ ?_;refine aJ ?_;refine fJ ?_;refine bL ?_;refine zs6 ?_;refine ae ?_);(repeat(first|refine gk fun K hK=>?_|refine zs2 ?_))
 exact⟨_,Sh.refl,.one (.tmp 4) _ rfl (.tmp 4 rfl)⟩
end DW
end
end Go.Proofs.YtcgjmdpcplhanaaGreat
