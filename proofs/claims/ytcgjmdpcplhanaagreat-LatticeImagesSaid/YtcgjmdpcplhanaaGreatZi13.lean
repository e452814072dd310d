/- Lemmas for the law: E29 E30 E35 E16 -/
import Derived.Test.YtcgjmdpcplhanaaGreatZi12
namespace Go.Proofs.YtcgjmdpcplhanaaGreat
section
theorem Gz{p q:Prop}(h:q)(f:Wq q→p:=by(intro hW;((refine bL (k:=7) (z:=(.agg #[.bool false,.slice none 0 0])) (d:=(.nm 0)) rfl rfl rfl rfl rfl aa ae ae bN ae ae bj ?_));exact hW.out)):p:=f ⟨h⟩
theorem Gy{p q:Prop}(h:q)(f:Wq q→p:=by(intro hW;((refine bL (k:=9) (z:=(.agg #[.bool false,.slice none 0 0])) (d:=(.nm 0)) rfl rfl rfl rfl rfl aa ae ae bN ae ae bj ?_));exact hW.out)):p:=f ⟨h⟩
theorem zg{p q:Prop}(h:q)(f:Wq q→p:=by(intro hW;((refine gar ?_;refine zs4 ?_;refine cw ?_;refine zs4 ?_;refine bT ?_;refine bT ?_;refine zs6 ?_;refine zs6 ?_;refine af ?_));exact hW.out)):p:=f ⟨h⟩
theorem F4{p q:Prop}(h:q)(f:Wq q→p:=by(intro hW;((refine gar ?_;refine zs4 ?_;refine zs4 ?_;refine zs8 ?_;refine zs8 ?_;refine uT ?_;refine cC ?_;refine zs8 ?_;refine uT ?_;refine cC ?_;refine pV ?_;refine zs12 ?_;refine fq ?_;refine zs6 ?_;refine af ?_));exact hW.out)):p:=f ⟨h⟩
theorem zs142{p q:Prop}(h:q)(f:Wq q→p:=by(intro hW;((refine bL (k:=6) (z:=(.agg #[.int .i64 0,.slice none 0 0,.int .i64 0])) (d:=(.st [.sc (.int .i64 0),.sc (.slice none 0 0),.sc (.int .i64 0)])) rfl rfl rfl rfl rfl aa ae ae bN ae ae bj ?_));exact hW.out)):p:=f ⟨h⟩
theorem eh{p q:Prop}(h:q)(f:Wq q→p:=by(intro hW;((refine gar ?_;refine ez ?_;refine zs142 ?_;refine gg ?_;refine af ?_));exact hW.out)):p:=f ⟨h⟩
theorem ze{p q:Prop}(h:q)(f:Wq q→p:=by(intro hW;((refine gar ?_;refine zs4 ?_;refine iP ?_;refine zs4 ?_;refine zs8 ?_;refine lD ?_;refine cP ?_;refine af ?_));exact hW.out)):p:=f ⟨h⟩
theorem uB{p q:Prop}(h:q)(f:Wq q→p:=by(intro hW;(refine aL1 rfl rfl rfl u9 ?_);exact hW.out)):p:=f ⟨h⟩
theorem zh{p q:Prop}(h:q)(f:Wq q→p:=by(intro hW;((refine gar ?_;refine zs4 ?_;refine aK ?_;refine zs4 ?_;refine uB ?_;refine zs4 ?_;refine bT ?_;refine bT ?_;refine Gy ?_;refine zs6 ?_;refine cv ?_;refine af ?_));exact hW.out)):p:=f ⟨h⟩
theorem zs141{p q:Prop}(h:q)(f:Wq q→p:=by(intro hW;(((try refine aF ?_);(refine kL rfl rfl rfl rfl bw bw aG ae qa aa aa (by(simp only[List.length_map,List.length_cons,List.length_nil];omega)) bj p8 ?_)));exact hW.out)):p:=f ⟨h⟩
theorem F3{p q:Prop}(h:q)(f:Wq q→p:=by(intro hW;((refine zs69 ?_;refine aZ ?_;refine aZ ?_;refine aZ ?_;refine de ?_;refine bu ?_;refine aZ ?_;refine de ?_;refine bu ?_;refine bu ?_;refine gY ?_;refine zs94 ?_;refine zs141 ?_;refine pY ?_;refine dv ?_));exact hW.out)):p:=f ⟨h⟩
theorem zf{p q:Prop}(h:q)(f:Wq q→p:=by(intro hW;((refine gar ?_;refine aK ?_;refine jZ ?_;refine jZ ?_;refine cw ?_;refine zs4 ?_;refine bT ?_;refine bT ?_;refine zs6 ?_;refine zs6 ?_;refine af ?_));exact hW.out)):p:=f ⟨h⟩
end
section
open Go.RowKit
namespace DW
set_option maxRecDepth 20000
set_option maxHeartbeats 1000000
theorem Fu(m:List (List Int))(hm:m.length≤1000000)(hm2:∀l∈m,l.length≤1000000)(hm3:∀l∈m,∀z∈l,Hf z)(K:Nat)(hK:hdr K=false):FnG Tryz.prog 114 [dW m] [] (.own K) [(K,⟨113,1,(fil m).map dZ⟩)]:=by
 refine⟨enters_of Tryz.func114 aa rfl,tB.mv (a:=3) ?_ rfl hK⟩
 refine IL Tryz.func114 rfl rfl (fun _ hp=>by cases hp) fun X0=>?_
 simp only[ay]
 (repeat(first|refine gk fun K hK=>?_|refine zs2 ?_));refine bZ ?_;(repeat(first|refine gk fun K hK=>?_|refine zs2 ?_));refine bZ ?_;(repeat(first|refine gk fun K hK=>?_|refine zs2 ?_));refine aS ?_;(repeat(first|refine gk fun K hK=>?_|refine zs2 ?_))
 refine aw (ct (t:=3) (k:=3) (T:=113) (wd:=1) eA rfl rfl bj) ?_
 (refine aw (ak (sl':=[(0,dW m),(3,.own 3),(4,zI 0)]) (ow':=[(3,⟨113,1,[]⟩)]) az aB) ?_)
 refine aJ (fun r s=>∃k,k≤m.length∧r=m.length-k∧s=⟨[(0,dW m),(3,.own 3),(4,zI (k:Nat))],[(3,⟨113,1,(fil (m.take k)).map dZ⟩)]⟩) (m:=m.length) ⟨0,Nat.zero_le _,rfl,rfl⟩ fun r s hs=>?_
 obtain⟨k,hk,rfl,rfl⟩:=hs
 by_cases hkl:k<m.length
 ·obtain⟨l,hl⟩:=get_some hkl
  have hll:=hm2 l (List.mem_of_getElem? hl)
  have hfl:=IT (m.take k)
  rw[List.length_take]at hfl
  have hfl2:(fil (m.take k)).length≤1000000:=Nat.le_trans hfl (by omega)
  clear hfl
  have hsn:=Fv (m.take k) l
  rw[←bc hl]at hsn
  obtain⟨F,hF⟩:∃F,F=fil (m.take k):=⟨_,rfl⟩
  rw[←hF]at hsn hfl2
  rw[←hF]
  clear hF
  (repeat(first|refine gk fun K hK=>?_|refine zs2 ?_));refine aX ?_;(repeat(first|refine gk fun K hK=>?_|refine zs2 ?_))
  refine ao ?_
  (repeat(first|refine gk fun K hK=>?_|refine zs2 ?_));refine bE ?_;(repeat(first|refine gk fun K hK=>?_|refine zs2 ?_));refine aS ?_;(repeat(first|refine gk fun K hK=>?_|refine zs2 ?_))
  (refine aw (ak (sl':=[(0,dW m),(3,.own 3),(4,zI (k:Nat)),(5,.sc (.bool true)),(6,zI 0)]) (ow':=[(3,⟨113,1,F.map dZ⟩)]) az aB) ?_)
  refine aJ (fun r s=>∃j b,j≤l.length∧r=l.length-j∧b=(l.take j).all (fun z=>decide (z=0))∧s=⟨[(0,dW m),(3,.own 3),(4,zI (k:Nat)),(5,.sc (.bool b)),(6,zI (j:Nat))],[(3,⟨113,1,F.map dZ⟩)]⟩) (m:=l.length) ⟨0,true,Nat.zero_le _,rfl,rfl,rfl⟩ fun r s hs=>?_
  obtain⟨j,b,hj,rfl,hb,rfl⟩:=hs
  by_cases hjl:j<l.length
  ·obtain⟨z,hz⟩:=get_some hjl
   have SX:=nZ z (hm3 l (List.mem_of_getElem? hl) z (List.mem_of_getElem? hz))
   have gx:=sgn_z z
   have hb':(l.take (j+1)).all (fun z=>decide (z=0))=(b&&decide (z=0)):=by rw[bc hz,List.all_append,←hb];simp
   have hd:decide (sgn z=0)=decide (z=0):=by
    by_cases h:z=0
    ·rw[decide_eq_true h,decide_eq_true (gx.2 h)]
    ·rw[decide_eq_false h,decide_eq_false (fun e=>h (gx.1 e))]
   clear hb
   cases b with
   |true=>
    rw[Bool.true_and]at hb'
    (repeat(first|refine gk fun K hK=>?_|refine zs2 ?_));refine fB ?_;(repeat(first|refine gk fun K hK=>?_|refine zs2 ?_))
    refine ao ?_
    (repeat(first|refine gk fun K hK=>?_|refine zs2 ?_));refine F4 ?_;(repeat(first|refine gk fun K hK=>?_|refine zs2 ?_));refine a9 ?_;(repeat(first|refine gk fun K hK=>?_|refine zs2 ?_))
    simp only[nx,inB]
    exact⟨l.length-(j+1),_,by omega,(ak (sl':=[(0,dW m),(3,.own 3),(4,zI (k:Nat)),(5,.sc (.bool (decide (sgn z=0)))),(6,zI ((j+1:Nat):Int))]) (ow':=[(3,⟨113,1,F.map dZ⟩)]) az aB),j+1,decide (sgn z=0),by omega,rfl,by rw[hb',hd],rfl⟩
   |false=>
    rw[Bool.false_and]at hb'
    (repeat(first|refine gk fun K hK=>?_|refine zs2 ?_));refine fB ?_;(repeat(first|refine gk fun K hK=>?_|refine zs2 ?_))
    refine ao ?_
    (repeat(first|refine gk fun K hK=>?_|refine zs2 ?_));refine F4 ?_;(repeat(first|refine gk fun K hK=>?_|refine zs2 ?_));refine a9 ?_;(repeat(first|refine gk fun K hK=>?_|refine zs2 ?_))
    simp only[nx,inB]
    exact⟨l.length-(j+1),_,by omega,(ak (sl':=[(0,dW m),(3,.own 3),(4,zI (k:Nat)),(5,.sc (.bool false)),(6,zI ((j+1:Nat):Int))]) (ow':=[(3,⟨113,1,F.map dZ⟩)]) az aB),j+1,false,by omega,rfl,by rw[hb'],rfl⟩
  ·obtain rfl:j=l.length:=by omega
   rw[List.take_length]at hb
   rw[←hb]at hsn
   clear hb
   cases b with
   |true=>
    rw[if_pos rfl]at hsn
    (repeat(first|refine gk fun K hK=>?_|refine zs2 ?_));refine fB ?_;(repeat(first|refine gk fun K hK=>?_|refine zs2 ?_))
    refine au ?_
    (repeat(first|refine gk fun K hK=>?_|refine zs2 ?_));refine uz ?_;(repeat(first|refine gk fun K hK=>?_|refine zs2 ?_))
    refine au ?_
    (repeat(first|refine gk fun K hK=>?_|refine zs2 ?_));refine a9 ?_;(repeat(first|refine gk fun K hK=>?_|refine zs2 ?_))
    simp only[nx,inB]
    exact⟨m.length-(k+1),_,by omega,(ak (sl':=[(0,dW m),(3,.own 3),(4,zI ((k+1:Nat):Int))]) (ow':=[(3,⟨113,1,F.map dZ⟩)]) az aB),k+1,by omega,rfl,by rw[hsn]⟩
   |false=>
    rw[if_neg (by decide)]at hsn
    (repeat(first|refine gk fun K hK=>?_|refine zs2 ?_));refine fB ?_;(repeat(first|refine gk fun K hK=>?_|refine zs2 ?_))
    refine au ?_
    (repeat(first|refine gk fun K hK=>?_|refine zs2 ?_));refine uz ?_;(repeat(first|refine gk fun K hK=>?_|refine zs2 ?_))
    refine ao ?_
    (repeat(first|refine gk fun K hK=>?_|refine zs2 ?_));(refine gar ?_;refine zs4 ?_;refine zs4 ?_;refine zs4 ?_;refine dT ?_;refine aK ?_;refine jZ ?_;refine uR ?_;refine zs6 ?_;refine af ?_);(repeat(first|refine gk fun K hK=>?_|refine zs2 ?_));refine a9 ?_;(repeat(first|refine gk fun K hK=>?_|refine zs2 ?_))
    simp only[nx,inB]
    exact⟨m.length-(k+1),_,by omega,(ak (sl':=[(0,dW m),(3,.own 3),(4,zI ((k+1:Nat):Int))]) (ow':=[(3,⟨113,1,F.map dZ++[dZ l]⟩)]) az aB),k+1,by omega,rfl,by rw[hsn,List.map_append];rfl⟩
 ·obtain rfl:k=m.length:=by omega
  rw[List.take_length]
  (repeat(first|refine gk fun K hK=>?_|refine zs2 ?_));refine aX ?_;(repeat(first|refine gk fun K hK=>?_|refine zs2 ?_))
  refine au ?_
  (repeat(first|refine gk fun K hK=>?_|refine zs2 ?_))
  refine gZ ?_
  (repeat(first|refine gk fun K hK=>?_|refine zs2 ?_))
  exact⟨_,(ak (sl':=[(2,.own 3)]) (ow':=[(3,⟨113,1,(fil m).map dZ⟩)]) az aB),.own 2 3 rfl rfl,rfl⟩
end DW
end
section
open Go.RowKit
namespace Mx
theorem IU(A B:Mat):DW.fil (A++B)=DW.fil A++DW.fil B:=List.filter_append ..
theorem yH{A:Mat}(h:∀l∈A,l.all (fun z=>decide (z=0))=false):DW.fil A=A:=by
 unfold DW.fil
 rw[List.filter_eq_self]
 intro l hl;rw[h l hl];rfl
theorem Fw{A:Mat}(h:∀l∈A,l.all (fun z=>decide (z=0))=true):DW.fil A=[]:=by
 unfold DW.fil
 rw[List.filter_eq_nil_iff]
 intro l hl;rw[h l hl];simp
theorem ta{n:Nat}{M:Mat}(h:Rc n M):DW.fil (red n 0 (0,M)).2=nH n M:=by
 obtain⟨pv,he⟩:=mc n 0 (0,M) id h (lu M)
 have hR:Rc n (red n 0 (0,M)).2:=(gu n 0 (0,M) h).rc h
 unfold nH
 generalize red n 0 (0,M)=T at*
 obtain⟨r,N⟩:=T
 simp only at he hR⊢
 rw[Nat.zero_add]at he
 have hz:∀{i:Nat} {l:List Int},N[i]?=some l→(l.all (fun z=>decide (z=0))=true↔∀j,j<n→at' N i j=0):=fun {i l} hl=>by
  have hi:=(List.getElem?_eq_some_iff.1 hl).1
  have hrw:rw N i=l:=eV hl
  have hlen:l.length=n:=hR l (List.mem_of_getElem? hl)
  rw[List.all_eq_true]
  constructor
  ·intro h j hj
   unfold at'
   rw[hrw,List.getD_eq_getElem?_getD,List.getElem?_eq_getElem (by omega)]
   simpa using h _ (List.getElem_mem (by omega))
  ·intro h z hz
   obtain⟨j,hj,rfl⟩:=List.getElem_of_mem hz
   have:=h j (by omega)
   unfold at' at this
   rw[hrw,List.getD_eq_getElem?_getD,List.getElem?_eq_getElem hj]at this
   simpa using this
 have e:=List.take_append_drop r N
 conv=>lhs;rw[←e]
 rw[IU,yH,Fw,List.append_nil]
 ·intro l hl
  obtain⟨i,hi⟩:=List.getElem?_of_mem hl
  rw[List.getElem?_drop]at hi
  exact(hz hi).2 fun j hj=>he.zb _ (by omega) j hj
 ·intro l hl
  obtain⟨i,hi⟩:=List.getElem?_of_mem hl
  rw[List.getElem?_take]at hi
  split at hi
  ·next hir=>
   cases hb:l.all (fun z=>decide (z=0))with
   |false=>rfl
   |true=>
    have h1:=(hz hi).1 hb (pv i) (he.lt i hir)
    have h2:=he.pos i hir
    omega
  ·cases hi
theorem GW{n:Nat}{M:Mat}(h:Rc n M):Rc n (nH n M):=fun l hl=>(gu n 0 (0,M) h).rc h l (List.mem_of_mem_take hl)
end Mx
namespace DW
theorem Az{x y:Int}(h:x.natAbs≤y.natAbs)(hy:Hf y):Hf x:=Nat.le_trans (fi h) hy
theorem JZ{a:Int}(b:Int)(h:a≠0):((Int.gcd a b:Nat):Int)≠0∧(((Int.gcd a b:Nat):Int)).natAbs≤a.natAbs:=by
 have h1:Int.gcd a b∣a.natAbs:=Int.gcd_dvd_natAbs_left a b
 have h2:=Nat.le_of_dvd (by omega) h1
 have h3:Int.gcd a b≠0:=fun e=>by rw[Int.gcd_eq_zero_iff]at e;exact h e.1
 omega
theorem AB:∀(row:List Int) (z:Int),z≠0→gR row z≠0∧(gR row z).natAbs≤z.natAbs
 |[],z,h=>⟨h,Nat.le_refl _⟩
 |x::l,z,h=>by
  have h1:=JZ x h
  have h2:=AB l _ h1.1
  exact⟨h2.1,Nat.le_trans h2.2 h1.2⟩
theorem uJ:∀(M:Mx.Mat) (z:Int),z≠0→gM M z≠0∧(gM M z).natAbs≤z.natAbs
 |[],z,h=>⟨h,Nat.le_refl _⟩
 |r::M,z,h=>by
  have h1:=AB r z h
  have h2:=uJ M _ h1.1
  exact⟨h2.1,Nat.le_trans h2.2 h1.2⟩
theorem J9(A:Mx.Mat)(i:Nat)(l:List Int):(A.map dZ).set i (dZ l)=(A.set i l).map dZ:=(List.map_set ..).symm
set_option maxRecDepth 20000
set_option maxHeartbeats 2000000
theorem yQ(M:Mx.Mat)(n e p:Nat)(z:Int)(hR:Mx.Rc n M)(hn:n≤1000)(hm:M.length≤1000)(he:6≤e)(hp:M.length≤p∨n≤p)(hf:2*(e*11^p)≤3000000000)(hb:Mx.Bd (2^e) M)(hz:Hf z)(hz0:z≠0)(hH:∀l∈nH n M,∀x∈l,Hf x)(hE:∀l∈(Mx.red n 0 (0,M)).2,∀x∈l,Hf x):
  Fn Tryz.prog 158 [dW M,.nm z,zI n] (.tp [dW (nR n M z),.nm (z/nG n M z)]):=by
 have EC:=C6 M n n e p hR (Nat.le_refl _) hn hm he hp hf hb
 have hre:=Mx.gu n 0 (0,M) hR
 have hRe:=hre.rc hR
 have FI:=Fu (Mx.red n 0 (0,M)).2 (by rw[hre.len];show M.length≤1000000;omega) (fun l hl=>by have:=hRe l hl;omega) hE 100 rfl
 rw[Mx.ta hR]at FI
 have NO:=vL z hz
 have hgl:=uJ (nH n M) z hz0
 have hnl:=ru hR
 have hnr:=Mx.GW hR
 have QZ:=GR z (nG n M z) hz (Az hgl.2 hz) hgl.1
 unfold nR
 obtain⟨G,hG⟩:∃G,G=nG n M z:=⟨_,rfl⟩
 have hG2:G=gM (nH n M) z:=hG
 rw[←hG]at QZ
 rw[←hG]
 rw[show gM (nH n M) z=G from hG2.symm]at hgl
 clear hG hf hb hE hRe hre hR
 generalize(Mx.red n 0 (0,M)).2=E0 at*
 generalize nH n M=H at*
 refine aE Tryz.func158 aa rfl rfl rfl fun X0=>?_
 simp only[ay]
 (repeat(first|refine gk fun K hK=>?_|refine zs2 ?_));(refine gar ?_;refine ez ?_;refine zs3 ?_;refine Gz ?_;refine af ?_);(repeat(first|refine gk fun K hK=>?_|refine zs2 ?_));(refine gar ?_;refine zs4 ?_;refine zs4 ?_;refine gX ?_;(refine Kg rfl rfl rfl rfl bw (FI) ae ae ae ?_);refine zs6 ?_;refine af ?_);(repeat(first|refine gk fun K hK=>?_|refine zs2 ?_));(refine gar ?_;refine aK ?_;refine cw ?_;refine Gy ?_;refine cv ?_;refine af ?_);(repeat(first|refine gk fun K hK=>?_|refine zs2 ?_));refine aS ?_;(repeat(first|refine gk fun K hK=>?_|refine zs2 ?_))
 have hHl:H.length≤1000:=by omega
 (refine aw (ak (sl':=[(2,zI n),(4,.pt (.nm z)),(7,.opt 7 0),(8,.own 100),(9,.opt 9 0),(10,zI 0)]) (ow':=[(7,⟨62,2,[.nm 0]⟩),(9,⟨62,2,[.nm z]⟩),(100,⟨113,1,H.map dZ⟩)]) az aB) ?_)
 refine aJ (fun r s=>∃i,i≤H.length∧r=H.length-i∧s=⟨[(2,zI n),(4,.pt (.nm z)),(7,.opt 7 0),(8,.own 100),(9,.opt 9 0),(10,zI (i:Nat))],[(7,⟨62,2,[.nm 0]⟩),(9,⟨62,2,[.nm (gM (H.take i) z)]⟩),(100,⟨113,1,H.map dZ⟩)]⟩) (m:=H.length) ⟨0,Nat.zero_le _,rfl,rfl⟩ fun r s hs=>?_
 obtain⟨i,hi,rfl,rfl⟩:=hs
 by_cases hil:i<H.length
 ·obtain⟨row,hrow⟩:=get_some hil
  have hrl:=hnr row (List.mem_of_getElem? hrow)
  have hrf:=hH row (List.mem_of_getElem? hrow)
  have hgi:=uJ (H.take i) z hz0
  have hps:=yG hrow z
  obtain⟨g,hg⟩:∃g,g=gM (H.take i) z:=⟨_,rfl⟩
  rw[←hg]at hgi hps
  rw[←hg]
  clear hg
  (repeat(first|refine gk fun K hK=>?_|refine zs2 ?_));refine aX ?_;(repeat(first|refine gk fun K hK=>?_|refine zs2 ?_))
  refine ao ?_
  (repeat(first|refine gk fun K hK=>?_|refine zs2 ?_));refine aS ?_;(repeat(first|refine gk fun K hK=>?_|refine zs2 ?_))
  (refine aw (ak (sl':=[(2,zI n),(4,.pt (.nm z)),(7,.opt 7 0),(8,.own 100),(9,.opt 9 0),(10,zI (i:Nat)),(11,zI 0)]) (ow':=[(7,⟨62,2,[.nm 0]⟩),(9,⟨62,2,[.nm g]⟩),(100,⟨113,1,H.map dZ⟩)]) az aB) ?_)
  refine aJ (fun r s=>∃j,j≤n∧r=n-j∧s=⟨[(2,zI n),(4,.pt (.nm z)),(7,.opt 7 0),(8,.own 100),(9,.opt 9 0),(10,zI (i:Nat)),(11,zI (j:Nat))],[(7,⟨62,2,[.nm 0]⟩),(9,⟨62,2,[.nm (gR (row.take j) g)]⟩),(100,⟨113,1,H.map dZ⟩)]⟩) (m:=n) ⟨0,Nat.zero_le _,rfl,rfl⟩ fun r s hs=>?_
  obtain⟨j,hj,rfl,rfl⟩:=hs
  by_cases hjl:j<n
  ·obtain⟨x,hx⟩:=get_some (m:=row) (k:=j) (by omega)
   have hgj:=AB (row.take j) g hgi.1
   have hpj:=yF hx g
   have GC:=gcd_d (gR (row.take j) g) x (Az (Nat.le_trans hgj.2 hgi.2) hz) (hrf x (List.mem_of_getElem? hx))
   rw[←hpj]at GC
   (repeat(first|refine gk fun K hK=>?_|refine zs2 ?_));refine ji ?_;(repeat(first|refine gk fun K hK=>?_|refine zs2 ?_))
   refine ao ?_
   (repeat(first|refine gk fun K hK=>?_|refine zs2 ?_));(refine kR ?_;refine bG ?_;refine bA ?_;refine bA ?_;refine fC ?_;refine bG ?_;refine bA ?_;refine fC ?_;refine bG ?_;refine jk ?_;refine ic ?_;refine jj ?_);(repeat(first|refine gk fun K hK=>?_|refine zs2 ?_));refine a9 ?_;(repeat(first|refine gk fun K hK=>?_|refine zs2 ?_))
   simp only[nx,inB]
   exact⟨n-(j+1),_,by omega,(ak (sl':=[(2,zI n),(4,.pt (.nm z)),(7,.opt 7 0),(8,.own 100),(9,.opt 9 0),(10,zI (i:Nat)),(11,zI ((j+1:Nat):Int))]) (ow':=[(7,⟨62,2,[.nm 0]⟩),(9,⟨62,2,[.nm (gR (row.take (j+1)) g)]⟩),(100,⟨113,1,H.map dZ⟩)]) az aB),j+1,by omega,rfl,rfl⟩
  ·obtain rfl:j=n:=by omega
   rw[List.take_of_length_le (by omega),←hps]
   (repeat(first|refine gk fun K hK=>?_|refine zs2 ?_));refine ji ?_;(repeat(first|refine gk fun K hK=>?_|refine zs2 ?_))
   refine au ?_
   (repeat(first|refine gk fun K hK=>?_|refine zs2 ?_));refine a9 ?_;(repeat(first|refine gk fun K hK=>?_|refine zs2 ?_))
   simp only[nx,inB]
   exact⟨H.length-(i+1),_,by omega,(ak (sl':=[(2,zI j),(4,.pt (.nm z)),(7,.opt 7 0),(8,.own 100),(9,.opt 9 0),(10,zI ((i+1:Nat):Int))]) (ow':=[(7,⟨62,2,[.nm 0]⟩),(9,⟨62,2,[.nm (gM (H.take (i+1)) z)]⟩),(100,⟨113,1,H.map dZ⟩)]) az aB),i+1,by omega,rfl,rfl⟩
 ·obtain rfl:i=H.length:=by omega
  rw[List.take_length,←hG2]
  (repeat(first|refine gk fun K hK=>?_|refine zs2 ?_));refine aX ?_;(repeat(first|refine gk fun K hK=>?_|refine zs2 ?_))
  refine au ?_
  (repeat(first|refine gk fun K hK=>?_|refine zs2 ?_));refine aS ?_;(repeat(first|refine gk fun K hK=>?_|refine zs2 ?_))
  (refine aw (ak (sl':=[(2,zI n),(4,.pt (.nm z)),(7,.opt 7 0),(8,.own 100),(9,.opt 9 0),(12,zI 0)]) (ow':=[(7,⟨62,2,[.nm 0]⟩),(9,⟨62,2,[.nm G]⟩),(100,⟨113,1,H.map dZ⟩)]) az aB) ?_)
  obtain⟨R,hR⟩:∃R,R=mapM (fun z=>z/G) H:=⟨_,rfl⟩
  rw[←hR]
  have hRl:R.length=H.length:=by rw[hR];exact b7 _ _
  refine aJ (fun r s=>∃i,i≤H.length∧r=H.length-i∧s=⟨[(2,zI n),(4,.pt (.nm z)),(7,.opt 7 0),(8,.own 100),(9,.opt 9 0),(12,zI (i:Nat))],[(7,⟨62,2,[.nm 0]⟩),(9,⟨62,2,[.nm G]⟩),(100,⟨113,1,(cM i R H).map dZ⟩)]⟩) (m:=H.length) ⟨0,Nat.zero_le _,rfl,by rw[na];rfl⟩ fun r s hs=>?_
  obtain⟨i,hi,rfl,rfl⟩:=hs
  have hPl:=oc hRl i
  by_cases hil:i<H.length
  ·obtain⟨row,hrow⟩:=get_some hil
   have hrl:=hnr row (List.mem_of_getElem? hrow)
   have hrf:=hH row (List.mem_of_getElem? hrow)
   have hPr:(cM i R H)[i]?=some row:=by
    unfold cM
    rw[List.getElem?_append_right p7,List.length_take,List.getElem?_drop,show i+(i-min i R.length)=i by omega]
    exact hrow
   have hRi:Mx.rw R i=row.map (fun z=>z/G):=by rw[hR,gT,Mx.eV hrow]
   have hst:=jA hRl hil
   rw[hRi]at hst
   obtain⟨A,hA⟩:∃A,A=cM i R H:=⟨_,rfl⟩
   rw[←hA]at hPl hPr hst
   rw[←hA]
   clear hA hRi
   (repeat(first|refine gk fun K hK=>?_|refine zs2 ?_));refine aX ?_;(repeat(first|refine gk fun K hK=>?_|refine zs2 ?_))
   refine ao ?_
   (repeat(first|refine gk fun K hK=>?_|refine zs2 ?_));refine bZ ?_;(repeat(first|refine gk fun K hK=>?_|refine zs2 ?_));refine aS ?_;(repeat(first|refine gk fun K hK=>?_|refine zs2 ?_))
   refine aw (ct (t:=13) (k:=13) (T:=62) (wd:=2) eA rfl rfl bj) ?_
   (refine aw (ak (sl':=[(2,zI n),(4,.pt (.nm z)),(7,.opt 7 0),(8,.own 100),(9,.opt 9 0),(12,zI (i:Nat)),(13,.own 13),(14,zI 0)]) (ow':=[(13,⟨62,2,[]⟩),(7,⟨62,2,[.nm 0]⟩),(9,⟨62,2,[.nm G]⟩),(100,⟨113,1,A.map dZ⟩)]) az aB) ?_)
   refine aJ (fun r s=>∃j,j≤n∧r=n-j∧s=⟨[(2,zI n),(4,.pt (.nm z)),(7,.opt 7 0),(8,.own 100),(9,.opt 9 0),(12,zI (i:Nat)),(13,.own 13),(14,zI (j:Nat))],[(13,⟨62,2,((row.map (fun z=>z/G)).take j).map .nm⟩),(7,⟨62,2,[.nm 0]⟩),(9,⟨62,2,[.nm G]⟩),(100,⟨113,1,A.map dZ⟩)]⟩) (m:=n) ⟨0,Nat.zero_le _,rfl,rfl⟩ fun r s hs=>?_
   obtain⟨j,hj,rfl,rfl⟩:=hs
   by_cases hjl:j<n
   ·obtain⟨x,hx⟩:=get_some (m:=row) (k:=j) (by omega)
    have hx2:(row.map (fun z=>z/G))[j]?=some (x/G):=by rw[List.getElem?_map,hx];rfl
    have hsn:=bc hx2
    have hle:((row.map (fun z=>z/G)).take j).length≤1000:=by rw[List.length_take];omega
    have QX:=GR x G (hrf x (List.mem_of_getElem? hx)) (Az hgl.2 hz) hgl.1
    obtain⟨B,hB⟩:∃B,B=(row.map (fun z=>z/G)).take j:=⟨_,rfl⟩
    rw[←hB]at hsn hle
    rw[←hB]
    clear hB hx2
    (repeat(first|refine gk fun K hK=>?_|refine zs2 ?_));refine ji ?_;(repeat(first|refine gk fun K hK=>?_|refine zs2 ?_))
    refine ao ?_
    (repeat(first|refine gk fun K hK=>?_|refine zs2 ?_));refine F3 ?_;(repeat(first|refine gk fun K hK=>?_|refine zs2 ?_));refine a9 ?_;(repeat(first|refine gk fun K hK=>?_|refine zs2 ?_))
    simp only[nx,inB]
    exact⟨n-(j+1),_,by omega,(ak (sl':=[(2,zI n),(4,.pt (.nm z)),(7,.opt 7 0),(8,.own 100),(9,.opt 9 0),(12,zI (i:Nat)),(13,.own 13),(14,zI ((j+1:Nat):Int))]) (ow':=[(13,⟨62,2,B.map .nm++[.nm (x/G)]⟩),(7,⟨62,2,[.nm 0]⟩),(9,⟨62,2,[.nm G]⟩),(100,⟨113,1,A.map dZ⟩)]) az aB),j+1,by omega,rfl,by rw[hsn,List.map_append];rfl⟩
   ·obtain rfl:j=n:=by omega
    rw[List.take_of_length_le (by rw[List.length_map];omega)]
    have hii:(i:Int)=((i:Nat):Int):=rfl
    (repeat(first|refine gk fun K hK=>?_|refine zs2 ?_));refine ji ?_;(repeat(first|refine gk fun K hK=>?_|refine zs2 ?_))
    refine au ?_
    (repeat(first|refine gk fun K hK=>?_|refine zs2 ?_))
    refine aw (ai (k:=13) aG aQ aP) ?_
    refine Gl ?_
    (repeat(first|refine gk fun K hK=>?_|refine zs2 ?_));refine a9 ?_;(repeat(first|refine gk fun K hK=>?_|refine zs2 ?_))
    simp only[nx,inB]
    exact⟨H.length-(i+1),_,by omega,(ak (sl':=[(2,zI j),(4,.pt (.nm z)),(7,.opt 7 0),(8,.own 100),(9,.opt 9 0),(12,zI ((i+1:Nat):Int))]) (ow':=[(7,⟨62,2,[.nm 0]⟩),(9,⟨62,2,[.nm G]⟩),(100,⟨113,1,(A.map dZ).set i (dZ (row.map (fun z=>z/G)))⟩)]) az aB),i+1,by omega,rfl,by rw[J9,hst]⟩
  ·obtain rfl:i=H.length:=by omega
   rw[od (by omega) (Nat.le_refl _)]
   (repeat(first|refine gk fun K hK=>?_|refine zs2 ?_));refine aX ?_;(repeat(first|refine gk fun K hK=>?_|refine zs2 ?_))
   refine au ?_
   (repeat(first|refine gk fun K hK=>?_|refine zs2 ?_));(refine gar ?_;refine zs4 ?_;refine aK ?_;refine aK ?_;refine gX ?_;refine zs6 ?_;refine cv ?_;refine af ?_);(repeat(first|refine gk fun K hK=>?_|refine zs2 ?_))
   rw[←hR]
   refine⟨_,Sh.trans (ai (k:=100) aG aQ aP) (ai (k:=7) aG aQ aP),?_⟩
   exact .two (.tmp 6) (.cell 7 62) _ _ rfl (.tmp 6 rfl) (.cell 7 _ _ rfl rfl aa aa)
end DW
end
section
open Go.RowKit
namespace DW
theorem vZ{dim:Int}:∀{m:List (List Int)},cA dim m=0→∀l∈m,(l.length:Int)=dim∧∀z∈l,inb 1000000000000000 z=true
 |[],_=>fun l hl=>by cases hl
 |r::t,h=>by
  unfold cA at h
  split at h
  ·next h1=>
   split at h
   ·cases h
   ·next h2=>
    intro l hl
    rcases List.mem_cons.1 hl with rfl|hl
    ·refine⟨h1,fun z hz=>?_⟩
     cases hb:inb 1000000000000000 z with
     |true=>rfl
     |false=>exact absurd (List.any_eq_true.2 ⟨z,hz,by unfold big;rw[hb];rfl⟩) h2
    ·exact vZ h l hl
  ·cases h
theorem cS{dim den:Int}{m:List (List Int)}(h:lck dim m den=0):(1≤dim∧dim≤6∧1≤den∧den≤1000000000000000)∧m.length≤64∧∀l∈m,(l.length:Int)=dim∧∀z∈l,inb 1000000000000000 z=true:=by
 unfold lck at h
 split at h
 ·cases h
 ·split at h
  ·cases h
  ·exact⟨by omega,by omega,vZ h⟩
theorem cB{n:Nat}{den:Int}{m:List (List Int)}(h:lck n m den=0):Mx.Rc n m:=fun l hl=>by have:=((cS h).2.2 l hl).1;omega
theorem oy{dim den:Int}{m:List (List Int)}(h:lck dim m den=0):Mx.Bd (2^50) m:=fun i j=>by
 rcases at_mem m i j with h1|⟨r,hr,hz⟩
 ·rw[h1];simp
 ·have:=dB.1 (((cS h).2.2 r hr).2 _ hz)
  exact Nat.le_trans (show(Mx.at' m i j).natAbs≤1000000000000000 by omega) (by decide)
theorem wa{dim den:Int}{m:List (List Int)}(h:lck dim m den=0):∀l∈m,∀z∈l,I64 z:=fun l hl z hz=>by
 have:=dB.1 (((cS h).2.2 l hl).2 z hz)
 unfold I64;omega
set_option maxRecDepth 20000
set_option maxHeartbeats 2000000
theorem Ik(dim:Int)(M R:Mx.Mat)(z d:Int)(BS:Fn Tryz.prog 158 [dW M,.nm z,zI dim] (.tp [dW R,.nm d]))(hR:R.length≤1000000)(hR2:∀l∈R,l.length≤1000000)(hR3:∀l∈R,∀x∈l,(hd x.natAbs).length≤199999999)(hdl:(hd d.natAbs).length≤199999999):Fn Tryz.prog 92 [dW M,.nm z,zI dim] (hnd dim R d):=by
 have NR:=vP R hR hR2 hR3
 have ND:=vP [[d]] (by simp) (by simp) (by simpa using hdl)
 unfold nrw at NR ND
 rw[show([[d]]:Mx.Mat).all (fun l=>l.all (inb 1000000000000000))=inb 1000000000000000 d by simp]at ND
 by_cases h1:R.all (fun l=>l.all (inb 1000000000000000))=true
 ·rw[if_pos h1]at NR
  by_cases h2:inb 1000000000000000 d=true
  ·rw[if_pos h2]at ND
   have EC:hnd dim R d= .tp [dL dim R d,zI 0]:=if_pos ⟨h1,h2⟩
   have hc0:(0:Int)=((0:Nat):Int):=rfl
   obtain⟨N,L,g0,g1,ND⟩:∃(N:Mx.Mat) (L:List Int),N[0]?=some L∧L[0]?=some d∧Fn Tryz.prog 77 [dW [[d]]] (.tp [dM N,.sc (.bool true)]):=⟨[[d]],[d],rfl,rfl,ND⟩
   refine aE Tryz.func92 aa rfl rfl rfl fun X0=>?_
   simp only[ay]
   (repeat(first|refine gk fun K hK=>?_|refine zs2 ?_));refine eh ?_;(repeat(first|refine gk fun K hK=>?_|refine zs2 ?_));refine zh ?_;(repeat(first|refine gk fun K hK=>?_|refine zs2 ?_));refine zg ?_;(repeat(first|refine gk fun K hK=>?_|refine zs2 ?_));refine zf ?_;(repeat(first|refine gk fun K hK=>?_|refine zs2 ?_));refine ze ?_;(repeat(first|refine gk fun K hK=>?_|refine zs2 ?_))
   refine au ?_
   (repeat(first|refine gk fun K hK=>?_|refine zs2 ?_));(refine gar ?_;refine zs4 ?_;refine zs4 ?_;refine zs4 ?_;refine zs92 ?_;refine r8 ?_;refine zs92 ?_;refine r8 ?_;refine GB ?_;refine cv ?_;refine gg ?_;refine af ?_);(repeat(first|refine gk fun K hK=>?_|refine zs2 ?_))
   rw[EC]
   exact⟨_,ai (k:=6) aG aQ aP,.two (.cell 6 48) (.tmp 7) _ _ rfl (.cell 6 _ _ rfl rfl aa aa) (.tmp 7 rfl)⟩
  ·rw[if_neg h2]at ND
   have EC:hnd dim R d= .tp [dL 0 [] 0,zI 8]:=if_neg (fun h=>h2 h.2)
   refine aE Tryz.func92 aa rfl rfl rfl fun X0=>?_
   simp only[ay]
   (repeat(first|refine gk fun K hK=>?_|refine zs2 ?_));refine eh ?_;(repeat(first|refine gk fun K hK=>?_|refine zs2 ?_));refine zh ?_;(repeat(first|refine gk fun K hK=>?_|refine zs2 ?_));refine zg ?_;(repeat(first|refine gk fun K hK=>?_|refine zs2 ?_));refine zf ?_;(repeat(first|refine gk fun K hK=>?_|refine zs2 ?_));refine ze ?_;(repeat(first|refine gk fun K hK=>?_|refine zs2 ?_))
   refine ao ?_
   (repeat(first|refine gk fun K hK=>?_|refine zs2 ?_));refine dp ?_;(repeat(first|refine gk fun K hK=>?_|refine zs2 ?_))
   rw[EC]
   exact⟨_,Sh.trans (ai (k:=6) aG aQ aP) (cq (t:=6) (d:=.pt (.st [_,.sc (.slice none 0 0),_])) (d':=.pt (.st [_,dM [],_])) ae rfl rfl fun X w v h=>bs h),.two (.cell 6 48) (.tmp 7) _ _ rfl (.cell 6 _ _ rfl rfl aa aa) (.tmp 7 rfl)⟩
 ·rw[if_neg h1]at NR
  have EC:hnd dim R d= .tp [dL 0 [] 0,zI 8]:=if_neg (fun h=>h1 h.1)
  have ND':∃a b,Fn Tryz.prog 77 [dW [[d]]] (.tp [dM a,.sc (.bool b)]):=by
   split at ND
   ·exact⟨_,_,ND⟩
   ·exact⟨_,_,ND⟩
  clear ND
  obtain⟨a,b,ND⟩:=ND'
  refine aE Tryz.func92 aa rfl rfl rfl fun X0=>?_
  simp only[ay]
  (repeat(first|refine gk fun K hK=>?_|refine zs2 ?_));refine eh ?_;(repeat(first|refine gk fun K hK=>?_|refine zs2 ?_));refine zh ?_;(repeat(first|refine gk fun K hK=>?_|refine zs2 ?_));refine zg ?_;(repeat(first|refine gk fun K hK=>?_|refine zs2 ?_));refine zf ?_;(repeat(first|refine gk fun K hK=>?_|refine zs2 ?_));refine ze ?_;(repeat(first|refine gk fun K hK=>?_|refine zs2 ?_))
  refine ao ?_
  (repeat(first|refine gk fun K hK=>?_|refine zs2 ?_));refine dp ?_;(repeat(first|refine gk fun K hK=>?_|refine zs2 ?_))
  rw[EC]
  exact⟨_,Sh.trans (ai (k:=6) aG aQ aP) (cq (t:=6) (d:=.pt (.st [_,.sc (.slice none 0 0),_])) (d':=.pt (.st [_,dM [],_])) ae rfl rfl fun X w v h=>bs h),.two (.cell 6 48) (.tmp 7) _ _ rfl (.cell 6 _ _ rfl rfl aa aa) (.tmp 7 rfl)⟩
end DW
end
section
open Go.RowKit
namespace DW
def fA(row:List Int)(B:Mx.Mat)(k:Nat):Nat→Int
 |0=>0
 |j+1=>fA row B k j+row.getD j 0*Mx.at' B j k
def jF(B:Mx.Mat)(cols:Nat)(row:List Int):List Int:=(List.range cols).map fun k=>fA row B k B.length
def tim(A B:Mx.Mat)(cols:Nat):Mx.Mat:=A.map (jF B cols)
structure TimOk(A B:Mx.Mat)(cols:Nat):Prop where
 len:∀row∈A,B.length≤row.length
 rc:∀j,j<B.length→cols≤(Mx.rw B j).length
 hr:∀row∈A,∀j,Hf (row.getD j 0)
 hb:∀j k,Hf (Mx.at' B j k)
 hp:∀row∈A,∀j k,Hf (row.getD j 0*Mx.at' B j k)
 hs:∀row∈A,∀k j,Hf (fA row B k j)
theorem Ea{B:Mx.Mat}{cols k:Nat}{row:List Int}(h:k<cols):(jF B cols row)[k]?=some (fA row B k B.length):=by
 unfold jF;rw[List.getElem?_map,List.getElem?_range h];rfl
theorem D0(B:Mx.Mat)(cols:Nat)(row:List Int):(jF B cols row).length=cols:=by unfold jF;simp
theorem qv{l:List Int}{j:Nat}(h:j<l.length):l[j]?=some (l.getD j 0):=by rw[List.getD_eq_getElem?_getD,List.getElem?_eq_getElem h];rfl
theorem rwg{M:Mx.Mat}{i:Nat}(h:i<M.length):M[i]?=some (Mx.rw M i):=by
 unfold Mx.rw;rw[List.getD_eq_getElem?_getD,List.getElem?_eq_getElem h];rfl
theorem Hv{A B:Mx.Mat}{cols i:Nat}{row:List Int}(h:A[i]?=some row):(tim A B cols)[i]?=some (jF B cols row):=by
 unfold tim;rw[List.getElem?_map,h];rfl
set_option maxRecDepth 20000
set_option maxHeartbeats 1000000
theorem Hu(A B:Mx.Mat)(cols:Nat)(hA:A.length≤1000000)(hB:B.length≤1000000)(hc:cols≤1000000)(H:TimOk A B cols):Fn Tryz.prog 22 [dW A,dW B,zI cols] (dW (tim A B cols)):=by
 refine aE Tryz.func22 aa rfl rfl rfl fun X0=>?_
 simp only[ay]
 (repeat(first|refine gk fun K hK=>?_|refine zs2 ?_));refine bZ ?_;(repeat(first|refine gk fun K hK=>?_|refine zs2 ?_));refine bZ ?_;(repeat(first|refine gk fun K hK=>?_|refine zs2 ?_));refine aS ?_;(repeat(first|refine gk fun K hK=>?_|refine zs2 ?_))
 refine aw (ct (t:=7) (k:=7) (T:=113) (wd:=1) eA rfl rfl bj) ?_
 (refine aw (ak (sl':=[(0,dW A),(1,dW B),(2,zI cols),(7,.own 7),(8,zI 0)]) (ow':=[(7,⟨113,1,[]⟩)]) az aB) ?_)
 refine aJ (fun r s=>∃i,i≤A.length∧r=A.length-i∧s=⟨[(0,dW A),(1,dW B),(2,zI cols),(7,.own 7),(8,zI (i:Nat))],[(7,⟨113,1,((tim A B cols).take i).map dZ⟩)]⟩) (m:=A.length) ⟨0,Nat.zero_le _,rfl,rfl⟩ fun r s hs=>?_
 obtain⟨i,hi,rfl,rfl⟩:=hs
 have htl:(tim A B cols).length=A.length:=by unfold tim;simp
 by_cases hil:i<A.length
 ·obtain⟨row,hrow⟩:=get_some hil
  have hmem:=List.mem_of_getElem? hrow
  have hlen:=H.len row hmem
  have hti:=Hv (B:=B) (cols:=cols) hrow
  have hsn:=bc hti
  have hfl:((tim A B cols).take i).length≤1000000:=by rw[List.length_take];omega
  obtain⟨F,hF⟩:∃F,F=(tim A B cols).take i:=⟨_,rfl⟩
  rw[←hF]at hsn hfl
  rw[←hF]
  clear hF hti htl
  have hRl:=D0 B cols row
  (repeat(first|refine gk fun K hK=>?_|refine zs2 ?_));refine aX ?_;(repeat(first|refine gk fun K hK=>?_|refine zs2 ?_))
  refine ao ?_
  (repeat(first|refine gk fun K hK=>?_|refine zs2 ?_));refine bZ ?_;(repeat(first|refine gk fun K hK=>?_|refine zs2 ?_));refine aS ?_;(repeat(first|refine gk fun K hK=>?_|refine zs2 ?_))
  refine aw (ct (t:=9) (k:=9) (T:=62) (wd:=2) eA rfl rfl bj) ?_
  (refine aw (ak (sl':=[(0,dW A),(1,dW B),(2,zI cols),(7,.own 7),(8,zI (i:Nat)),(9,.own 9),(10,zI 0)]) (ow':=[(9,⟨62,2,[]⟩),(7,⟨113,1,F.map dZ⟩)]) az aB) ?_)
  refine aJ (fun r s=>∃k,k≤cols∧r=cols-k∧s=⟨[(0,dW A),(1,dW B),(2,zI cols),(7,.own 7),(8,zI (i:Nat)),(9,.own 9),(10,zI (k:Nat))],[(9,⟨62,2,((jF B cols row).take k).map .nm⟩),(7,⟨113,1,F.map dZ⟩)]⟩) (m:=cols) ⟨0,Nat.zero_le _,rfl,rfl⟩ fun r s hs=>?_
  obtain⟨k,hk,rfl,rfl⟩:=hs
  by_cases hkc:k<cols
  ·have hkg:=Ea (B:=B) (row:=row) hkc
   have hks:=bc hkg
   have hgl:((jF B cols row).take k).length≤1000000:=by rw[List.length_take];omega
   obtain⟨G,hG⟩:∃G,G=(jF B cols row).take k:=⟨_,rfl⟩
   rw[←hG]at hks hgl
   rw[←hG]
   clear hG hkg
   (repeat(first|refine gk fun K hK=>?_|refine zs2 ?_));refine ji ?_;(repeat(first|refine gk fun K hK=>?_|refine zs2 ?_))
   refine ao ?_
   (repeat(first|refine gk fun K hK=>?_|refine zs2 ?_));(refine gar ?_;(refine aL1 rfl rfl rfl (by(apply(wT (z:=(.agg #[.bool false,.slice none 0 0])) (d:=(.nm 0)));(focus(exact rfl));(focus(kernel_rfl));(focus(exact rfl));(focus(exact rfl));(focus(exact rfl)))) ?_);(refine bL (k:=11) (z:=(.agg #[.bool false,.slice none 0 0])) (d:=(.nm 0)) rfl rfl rfl rfl rfl aa ae ae bN ae ae bj ?_);refine cv ?_;refine af ?_);(repeat(first|refine gk fun K hK=>?_|refine zs2 ?_));refine aS ?_;(repeat(first|refine gk fun K hK=>?_|refine zs2 ?_))
   (refine aw (ak (sl':=[(0,dW A),(1,dW B),(2,zI cols),(7,.own 7),(8,zI (i:Nat)),(9,.own 9),(10,zI (k:Nat)),(11,.opt 11 0),(12,zI 0)]) (ow':=[(11,⟨62,2,[.nm 0]⟩),(9,⟨62,2,G.map .nm⟩),(7,⟨113,1,F.map dZ⟩)]) az aB) ?_)
   refine aJ (fun r s=>∃j,j≤B.length∧r=B.length-j∧s=⟨[(0,dW A),(1,dW B),(2,zI cols),(7,.own 7),(8,zI (i:Nat)),(9,.own 9),(10,zI (k:Nat)),(11,.opt 11 0),(12,zI (j:Nat))],[(11,⟨62,2,[.nm (fA row B k j)]⟩),(9,⟨62,2,G.map .nm⟩),(7,⟨113,1,F.map dZ⟩)]⟩) (m:=B.length) ⟨0,Nat.zero_le _,rfl,rfl⟩ fun r s hs=>?_
   obtain⟨j,hj,rfl,rfl⟩:=hs
   by_cases hjl:j<B.length
   ·have hx:=qv (l:=row) (j:=j) (by omega)
    have hbj:=rwg hjl
    have hy:(Mx.rw B j)[k]?=some (Mx.at' B j k):=qv (l:=Mx.rw B j) (j:=k) (by have:=H.rc j hjl;omega)
    have MU:=ry (row.getD j 0) (Mx.at' B j k) (H.hr row hmem j) (H.hb j k)
    have AD:=Hb (fA row B k j) (row.getD j 0*Mx.at' B j k) (H.hs row hmem k j) (H.hp row hmem j k)
    (repeat(first|refine gk fun K hK=>?_|refine zs2 ?_));refine aX ?_;(repeat(first|refine gk fun K hK=>?_|refine zs2 ?_))
    refine ao ?_
    (repeat(first|refine gk fun K hK=>?_|refine zs2 ?_));(((first|(apply an 17;(focus kernel_rfl);(focus(decide+kernel)))|(apply an 16;(focus kernel_rfl);(focus(decide+kernel)))|(apply an 15;(focus kernel_rfl);(focus(decide+kernel)))|(apply an 14;(focus kernel_rfl);(focus(decide+kernel)))|(apply an 13;(focus kernel_rfl);(focus(decide+kernel)))|(apply an 12;(focus kernel_rfl);(focus(decide+kernel)))|(apply an 11;(focus kernel_rfl);(focus(decide+kernel)))|(apply an 10;(focus kernel_rfl);(focus(decide+kernel))));simp only[List.take_succ_cons,List.take_zero,List.drop_succ_cons,List.drop_zero]);refine bu ?_;refine aZ ?_;refine aZ ?_;refine de ?_;refine bu ?_;refine aZ ?_;refine de ?_;refine bu ?_;refine aZ ?_;refine aZ ?_;refine de ?_;refine bu ?_;refine aZ ?_;refine de ?_;refine bu ?_;refine gY ?_;refine gY ?_;refine sa ?_;refine dv ?_);(repeat(first|refine gk fun K hK=>?_|refine zs2 ?_));refine a9 ?_;(repeat(first|refine gk fun K hK=>?_|refine zs2 ?_))
    simp only[nx,inB]
    exact⟨B.length-(j+1),_,by omega,(ak (sl':=[(0,dW A),(1,dW B),(2,zI cols),(7,.own 7),(8,zI (i:Nat)),(9,.own 9),(10,zI (k:Nat)),(11,.opt 11 0),(12,zI ((j+1:Nat):Int))]) (ow':=[(11,⟨62,2,[.nm (fA row B k j+row.getD j 0*Mx.at' B j k)]⟩),(9,⟨62,2,G.map .nm⟩),(7,⟨113,1,F.map dZ⟩)]) az aB),j+1,by omega,rfl,rfl⟩
   ·obtain rfl:j=B.length:=by omega
    (repeat(first|refine gk fun K hK=>?_|refine zs2 ?_));refine aX ?_;(repeat(first|refine gk fun K hK=>?_|refine zs2 ?_))
    refine au ?_
    (repeat(first|refine gk fun K hK=>?_|refine zs2 ?_));(refine gar ?_;refine zs4 ?_;refine aK ?_;refine jZ ?_;refine uR ?_;refine zs6 ?_;refine af ?_);(repeat(first|refine gk fun K hK=>?_|refine zs2 ?_));refine a9 ?_;(repeat(first|refine gk fun K hK=>?_|refine zs2 ?_))
    simp only[nx,inB]
    exact⟨cols-(k+1),_,by omega,(ak (sl':=[(0,dW A),(1,dW B),(2,zI cols),(7,.own 7),(8,zI (i:Nat)),(9,.own 9),(10,zI ((k+1:Nat):Int))]) (ow':=[(9,⟨62,2,G.map .nm++[.nm (fA row B k B.length)]⟩),(7,⟨113,1,F.map dZ⟩)]) az aB),k+1,by omega,rfl,by rw[hks,List.map_append];rfl⟩
  ·obtain rfl:k=cols:=by omega
   rw[List.take_of_length_le (by omega)]
   (repeat(first|refine gk fun K hK=>?_|refine zs2 ?_));refine ji ?_;(repeat(first|refine gk fun K hK=>?_|refine zs2 ?_))
   refine au ?_
   (repeat(first|refine gk fun K hK=>?_|refine zs2 ?_))
   refine aw (ai (k:=9) aG aQ aP) ?_
   refine mK ?_
   (repeat(first|refine gk fun K hK=>?_|refine zs2 ?_))
   refine a9 ?_
   simp only[nx,inB]
   exact⟨A.length-(i+1),_,by omega,(ak (sl':=[(0,dW A),(1,dW B),(2,zI k),(7,.own 7),(8,zI ((i+1:Nat):Int))]) (ow':=[(7,⟨113,1,F.map dZ++[dZ (jF B k row)]⟩)]) az aB),i+1,by omega,rfl,by rw[hsn,List.map_append];rfl⟩
 ·obtain rfl:i=A.length:=by omega
  rw[List.take_of_length_le (by omega)]
  (repeat(first|refine gk fun K hK=>?_|refine zs2 ?_));refine aX ?_;(repeat(first|refine gk fun K hK=>?_|refine zs2 ?_))
  refine au ?_
  (repeat(first|refine gk fun K hK=>?_|refine zs2 ?_))
  refine aw (ai (k:=7) aG aQ aP) ?_
  refine gZ ?_
  (repeat(first|refine gk fun K hK=>?_|refine zs2 ?_))
  exact⟨_,Sh.refl,.one (.tmp 6) _ rfl (.tmp 6 rfl)⟩
end DW
end
end Go.Proofs.YtcgjmdpcplhanaaGreat
