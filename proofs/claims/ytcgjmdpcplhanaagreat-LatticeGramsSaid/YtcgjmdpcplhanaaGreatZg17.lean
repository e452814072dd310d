/- Lemmas for the law: E49 -/
import Derived.Test.YtcgjmdpcplhanaaGreatZg16
namespace Go.Proofs.YtcgjmdpcplhanaaGreat
section
theorem rp{p q:Prop}(h:q)(f:Wq q->p:=by(intro hW;((refine gar ?_;refine aS ?_;refine zs4 ?_;refine eA ?_;refine zs6 ?_;refine af ?_));exact hW.out)):p:=f ⟨h⟩
theorem rq{p q:Prop}(h:q)(f:Wq q->p:=by(intro hW;((refine gar ?_;refine gA ?_;refine zs3 ?_;refine fG ?_;refine fG ?_;refine af ?_));exact hW.out)):p:=f ⟨h⟩
theorem po{p q:Prop}(h:q)(f:Wq q->p:=by(intro hW;((refine gar ?_;refine zs3 ?_;refine fG ?_;refine fG ?_;refine af ?_));exact hW.out)):p:=f ⟨h⟩
theorem Aa{p q:Prop}(h:q)(f:Wq q->p:=by(intro hW;((refine gar ?_;refine zs4 ?_;refine mN ?_;refine zs4 ?_;refine zs8 ?_;refine sW ?_;refine gw ?_;refine af ?_));exact hW.out)):p:=f ⟨h⟩
end
section
open Go.RowKit
namespace DW
def grD(M:Mx.Mat)(d:Int):D:=if M.all (fun l=>l.all (inb 1000000000000000))=true/\inb 1000000000000000 d=true then .tp [dM M,zI d,zI 0]else .tp [dM [],zI 0,zI 8]
set_option maxRecDepth 20000
set_option maxHeartbeats 4000000
theorem Jb(dim den C:Int)(m f:Mx.Mat)(hC:C≠0)(CF:Fn Tryz.prog 104 [dL dim m den,dM f] (zI C)):Fn Tryz.prog 45 [dL dim m den,dM f] (.tp [dM [],zI 0,zI C]):=by
 refine aP Tryz.func45 aa rfl rfl rfl fun X0=>?_;simp only[aD]
 (repeat(first|refine gk fun K hK=>?_|refine zs2 ?_));refine rq ?_;(repeat(first|refine gk fun K hK=>?_|refine zs2 ?_));refine rp ?_;(repeat(first|refine gk fun K hK=>?_|refine zs2 ?_));refine eO ?_;(repeat(first|refine gk fun K hK=>?_|refine zs2 ?_))
 refine av ?_
 (repeat(first|refine gk fun K hK=>?_|refine zs2 ?_));(refine gar ?_;refine zs4 ?_;refine zs3 ?_;refine fG ?_;refine zs6 ?_;refine af ?_);(repeat(first|refine gk fun K hK=>?_|refine zs2 ?_))
 exact⟨_,gT (t:=4) (wd:=1) cr,.three (.tmp 4) (.tmp 5) (.tmp 6) _ _ _ rfl (.tmp 4 rfl) (.tmp 5 rfl) (.tmp 6 rfl)⟩
theorem IQ{a:Nat×Ow}{E F:List (Nat×Ow)}:∀p∈a::(E++F),p∈a::(F++E):=fun p hp=>by
 rcases List.mem_cons.1 hp with rfl|hp
 ·exact List.mem_cons_self
 ·rcases List.mem_append.1 hp with hp|hp
  ·exact List.mem_cons_of_mem _ (List.mem_append_right _ hp)
  ·exact List.mem_cons_of_mem _ (List.mem_append_left _ hp)
theorem Ja(dim den d0 d1:Int)(m f R A B N M2:Mx.Mat)(d2:Int)(CF:Fn Tryz.prog 104 [dL dim m den,dM f] (zI 0))(BS:Fn Tryz.prog 105 [dL dim m den] (.tp [dW R,.nm d0]))(WD:Fn Tryz.prog 23 [dM f] (dW f))(T1:Fn Tryz.prog 22 [dW R,dW f,zI dim] (dW A))(TR:Fn Tryz.prog 107 [dW R] (dW B))(T2:N.length<=900000/\FnG Tryz.prog 22 [dW A,dW B,zI R.length] [] (.own 2000000) ((2000000,⟨113,1,hds N.length⟩)::rws 62 2 gZ 0 N))(MU:Fn Tryz.prog 84 [.nm d0,.nm d0] (.nm d1))
  (hN:Mx.Rc N.length N) (hd1:d1≠0) (GC:∀g x,g≠0->g.natAbs<=d1.natAbs->(∃r∈N,x∈r)->Fn Tryz.prog 122 [.nm g,.nm x] (.nm (Int.gcd g x:Int))) (QU:∀x,(∃r∈N,x∈r)->Fn Tryz.prog 123 [.nm x,.nm (gM N d1)] (.nm (x/gM N d1))) (hM2:M2=mapM (fun x=>x/gM N d1) N) (NR:Fn Tryz.prog 77 [dW M2] (nrw M2)) (QD:Fn Tryz.prog 123 [.nm d1,.nm (gM N d1)] (.nm d2)) (ND:Fn Tryz.prog 77 [dW [[d2]]] (onD [d2])):Fn Tryz.prog 45 [dL dim m den,dM f] (grD M2 d2):=by
 have hN9:=T2.1;have hrl:∀n:Nat,(List.range n).length=n:=fun n=>List.length_range;have hc0:(0:Int)=((0:Nat):Int):=rfl;obtain⟨N1,b1,NR,hb1⟩:∃N1 b1,Fn Tryz.prog 77 [dW M2] (.tp [dM N1,.sc (.bool b1)])/\((b1=true/\N1=M2/\M2.all (fun l=>l.all (inb 1000000000000000))=true)\/(b1=false/\¬M2.all (fun l=>l.all (inb 1000000000000000))=true)):=by
  unfold nrw at NR;split at NR
  ·next h=>exact⟨_,_,NR,.inl ⟨rfl,rfl,h⟩⟩
  ·next h=>exact⟨_,_,NR,.inr ⟨rfl,h⟩⟩
 obtain⟨N2,b2,ND,hb2⟩:∃N2 b2,Fn Tryz.prog 77 [dW [[d2]]] (.tp [dM N2,.sc (.bool b2)])/\((b2=true/\(∃Lx:List Int,N2[0]?=some Lx/\Lx[0]?=some d2)/\inb 1000000000000000 d2=true)\/(b2=false/\¬inb 1000000000000000 d2=true)):=by
  unfold onD at ND;rw[show([d2]:List Int).all (inb 1000000000000000)=inb 1000000000000000 d2 by simp]at ND;split at ND
  ·next h=>exact⟨_,_,ND,.inl ⟨rfl,⟨[d2],rfl,rfl⟩,h⟩⟩
  ·next h=>exact⟨_,_,ND,.inr ⟨rfl,h⟩⟩
 have hM2l:M2.length=N.length:=by rw[hM2,ed]
 refine aP Tryz.func45 aa rfl rfl rfl fun X0=>?_;simp only[aD]
 (repeat(first|refine gk fun K hK=>?_|refine zs2 ?_));refine rq ?_;(repeat(first|refine gk fun K hK=>?_|refine zs2 ?_));refine rp ?_;(repeat(first|refine gk fun K hK=>?_|refine zs2 ?_));refine eO ?_;(repeat(first|refine gk fun K hK=>?_|refine zs2 ?_))
 refine az ?_
 (repeat(first|refine gk fun K hK=>?_|refine zs2 ?_));(refine gar ?_;refine aS ?_;refine cO ?_;refine zs4 ?_;refine dA ?_;refine dA ?_;refine Hb ?_;refine zs6 ?_;refine dC ?_;refine af ?_);(repeat(first|refine gk fun K hK=>?_|refine zs2 ?_));(((first|(apply ao 10;(focus kernel_rfl);(decide+kernel)));simp only[List.take_succ_cons,List.take_zero,List.drop_succ_cons,List.drop_zero]);refine aR ?_;refine aR ?_;refine kj ?_;refine og ?_;refine bq ?_;refine Az ?_;refine aR ?_;refine kj ?_;refine aR ?_;refine sX ?_;((try refine aB ?_);(refine J9 rfl rfl rfl rfl bz bz bz (T2) ae ae ae ?_));refine ko ?_;refine cP ?_);(repeat(first|refine gk fun K hK=>?_|refine zs2 ?_))
 refine ak (ai (sl':=[(9,.opt 9 0),(10,.own 2000000)]) (ow':=(2000000,⟨113,1,hds N.length⟩)::([(9,⟨62,2,[.nm d0]⟩)]++rws 62 2 gZ 0 N)) an (fun p hp=>IQ p hp)) ?_;refine rl (by omega) rfl rfl fun X1 L hL hLs=>?_
 (refine gar ?_;refine aS ?_;refine aS ?_;refine eA ?_;refine vq ?_;refine dC ?_;refine af ?_)
 refine⟨[(9,.opt 9 0),(10,.own 2000000),(11,.opt 11 0)],[(11,⟨62,2,[.nm d1]⟩)],(ai (sl':=[(9,.opt 9 0),(10,.own 2000000),(11,.opt 11 0)]) (ow':=[(2000000,⟨113,1,L⟩),(11,⟨62,2,[.nm d1]⟩)]) an aw),rfl,rfl,rfl,?_⟩
 ((simp only[nx,inB,ite_true,ite_false,↓reduceIte,Nat.reduceEqDiff,reduceCtorEq]);apply_assumption-exfalso)
 (repeat(first|refine gk fun K hK=>?_|refine zs2 ?_))
 refine rl (by omega) rfl rfl fun X1 L hL hLs=>?_
 (refine gar ?_;refine aS ?_;(refine dK (k:=12) (z:=(.agg #[.bool false,.slice none 0 0])) (d:=(.nm 0)) rfl rfl rfl rfl rfl aa ae ae cE ae ae bD ?_);refine dC ?_;refine af ?_)
 refine⟨[(10,.own 2000000),(11,.opt 11 0),(12,.opt 12 0)],[(12,⟨62,2,[.nm d1]⟩),(11,⟨62,2,[.nm d1]⟩)],(ai (sl':=[(10,.own 2000000),(11,.opt 11 0),(12,.opt 12 0)]) (ow':=[(2000000,⟨113,1,L⟩),(12,⟨62,2,[.nm d1]⟩),(11,⟨62,2,[.nm d1]⟩)]) an aw),rfl,rfl,rfl,?_⟩
 ((simp only[nx,inB,ite_true,ite_false,↓reduceIte,Nat.reduceEqDiff,reduceCtorEq]);apply_assumption-exfalso)
 (repeat(first|refine gk fun K hK=>?_|refine zs2 ?_));refine aH ?_;(repeat(first|refine gk fun K hK=>?_|refine zs2 ?_))
 refine ak (ai (sl':=[(10,.own 2000000),(11,.opt 11 0),(12,.opt 12 0),(13,zI 0)]) (ow':=(2000000,⟨113,1,hds N.length⟩)::([(12,⟨62,2,[.nm d1]⟩),(11,⟨62,2,[.nm d1]⟩)]++rws 62 2 gZ 0 N)) an (fun p hp=>hp)) ?_;refine aE (fun r s=>∃i,i<=N.length/\r=N.length-i/\s=⟨[(10,.own 2000000),(11,.opt 11 0),(12,.opt 12 0),(13,zI (i:Nat))],(2000000,⟨113,1,hds N.length⟩)::([(12,⟨62,2,[.nm (gM (N.take i) d1)]⟩),(11,⟨62,2,[.nm d1]⟩)]++rws 62 2 gZ 0 N)⟩) (m:=N.length) ⟨0,Nat.zero_le _,rfl,rfl⟩ fun r s hs=>?_;obtain⟨i,hi,rfl,rfl⟩:=hs;by_cases hil:i<N.length
 ·obtain⟨row,hrow⟩:=get_some hil;have hrl2:=hN row (List.mem_of_getElem? hrow);have hgi:=pY (N.take i) d1 hd1;have hps:=ug hrow d1;have hset:N.set i row=N:=by
   obtain⟨_,rfl⟩:=List.getElem?_eq_some_iff.1 hrow;exact List.set_getElem_self _
  have h1:=hrl N.length;obtain⟨g,hg⟩:∃g,g=gM (N.take i) d1:=⟨_,rfl⟩;rw[<-hg]at hgi hps;rw[<-hg];clear hg
  (repeat(first|refine gk fun K hK=>?_|refine zs2 ?_));refine aK ?_;(repeat(first|refine gk fun K hK=>?_|refine zs2 ?_))
  refine av ?_
  (repeat(first|refine gk fun K hK=>?_|refine zs2 ?_));refine aH ?_;(repeat(first|refine gk fun K hK=>?_|refine zs2 ?_))
  refine ak (ai (sl':=[(10,.own 2000000),(11,.opt 11 0),(12,.opt 12 0),(13,zI (i:Nat)),(14,zI 0)]) (ow':=(2000000,⟨113,1,hds N.length⟩)::([(12,⟨62,2,[.nm g]⟩),(11,⟨62,2,[.nm d1]⟩)]++rws 62 2 gZ 0 N)) an (fun p hp=>hp)) ?_;refine zM hrow (by omega) rfl rfl fun X1 L hL hLi=>?_;refine aE (fun r s=>∃k,k<=N.length/\r=N.length-k/\s=⟨[(10,.own 2000000),(11,.opt 11 0),(12,.opt 12 0),(13,zI (i:Nat)),(14,zI (k:Nat))],[(2000000,⟨113,1,L⟩),(1900000,⟨62,2,row.map .nm⟩),(12,⟨62,2,[.nm (gR (row.take k) g)]⟩),(11,⟨62,2,[.nm d1]⟩)]⟩) (m:=N.length) ⟨0,Nat.zero_le _,rfl,rfl⟩ fun r s hs=>?_;obtain⟨k,hk,rfl,rfl⟩:=hs;by_cases hkl:k<N.length
  ·obtain⟨x,hx⟩:=get_some (m:=row) (k:=k) (by omega);have hgj:=vC (row.take k) g hgi.1;have hpj:=uf hx g;have GX:=GC (gR (row.take k) g) x hgj.1 (Nat.le_trans hgj.2 hgi.2) ⟨row,List.mem_of_getElem? hrow,List.mem_of_getElem? hx⟩;rw[<-hpj]at GX
   (repeat(first|refine gk fun K hK=>?_|refine zs2 ?_));refine aK ?_;(repeat(first|refine gk fun K hK=>?_|refine zs2 ?_))
   refine av ?_
   (repeat(first|refine gk fun K hK=>?_|refine zs2 ?_));refine GF ?_;(repeat(first|refine gk fun K hK=>?_|refine zs2 ?_));refine aX ?_;(repeat(first|refine gk fun K hK=>?_|refine zs2 ?_))
   simp only[nx,inB];exact⟨N.length-(k+1),_,by omega,(ai (sl':=[(10,.own 2000000),(11,.opt 11 0),(12,.opt 12 0),(13,zI (i:Nat)),(14,zI ((k+1:Nat):Int))]) (ow':=[(2000000,⟨113,1,L⟩),(1900000,⟨62,2,row.map .nm⟩),(12,⟨62,2,[.nm (gR (row.take (k+1)) g)]⟩),(11,⟨62,2,[.nm d1]⟩)]) an aw),k+1,by omega,rfl,rfl⟩
  ·obtain rfl:k=N.length:=by omega
   rw[List.take_of_length_le (by omega)]
   (repeat(first|refine gk fun K hK=>?_|refine zs2 ?_));refine aK ?_;(repeat(first|refine gk fun K hK=>?_|refine zs2 ?_))
   refine az ?_
   (repeat(first|refine gk fun K hK=>?_|refine zs2 ?_))
   refine⟨row,[(10,.own 2000000),(11,.opt 11 0),(12,.opt 12 0),(13,zI (i:Nat))],[(12,⟨62,2,[.nm (gR row g)]⟩),(11,⟨62,2,[.nm d1]⟩)],(ai (sl':=[(10,.own 2000000),(11,.opt 11 0),(12,.opt 12 0),(13,zI (i:Nat))]) (ow':=[(2000000,⟨113,1,L⟩),(1900000,⟨62,2,row.map .nm⟩),(12,⟨62,2,[.nm (gR row g)]⟩),(11,⟨62,2,[.nm d1]⟩)]) an aw),rfl,rfl,rfl,?_⟩
   ((simp only[nx,inB,ite_true,ite_false,↓reduceIte,Nat.reduceEqDiff,reduceCtorEq]);apply_assumption-exfalso)
   (repeat(first|refine gk fun K hK=>?_|refine zs2 ?_));refine aX ?_;(repeat(first|refine gk fun K hK=>?_|refine zs2 ?_))
   simp only[nx,inB];exact⟨N.length-(i+1),_,by omega,ai (sl':=[(10,.own 2000000),(11,.opt 11 0),(12,.opt 12 0),(13,zI ((i+1:Nat):Int))]) (ow':=(2000000,⟨113,1,hds N.length⟩)::([(12,⟨62,2,[.nm (gR row g)]⟩),(11,⟨62,2,[.nm d1]⟩)]++rws 62 2 gZ 0 N)) an (fun p hp=>by rw[hset];exact hp),i+1,by omega,rfl,by rw[hps]⟩
 ·obtain rfl:i=N.length:=by omega
  rw[List.take_length];have h1:=hrl N.length;clear GC;obtain⟨g,hg⟩:∃g,g=gM N d1:=⟨_,rfl⟩;rw[<-hg]at QU QD hM2;rw[<-hg];clear hg
  (repeat(first|refine gk fun K hK=>?_|refine zs2 ?_));refine aK ?_;(repeat(first|refine gk fun K hK=>?_|refine zs2 ?_))
  refine az ?_
  (repeat(first|refine gk fun K hK=>?_|refine zs2 ?_));refine aH ?_;(repeat(first|refine gk fun K hK=>?_|refine zs2 ?_))
  refine ak (ai (sl':=[(10,.own 2000000),(11,.opt 11 0),(12,.opt 12 0),(15,zI 0)]) (ow':=(2000000,⟨113,1,hds N.length⟩)::([(12,⟨62,2,[.nm g]⟩),(11,⟨62,2,[.nm d1]⟩)]++rws 62 2 gZ 0 N)) an (fun p hp=>hp)) ?_;refine aE (fun r s=>∃i W,i<=N.length/\r=N.length-i/\W=cV i M2 N/\s=⟨[(10,.own 2000000),(11,.opt 11 0),(12,.opt 12 0),(15,zI (i:Nat))],(2000000,⟨113,1,hds W.length⟩)::([(12,⟨62,2,[.nm g]⟩),(11,⟨62,2,[.nm d1]⟩)]++rws 62 2 gZ 0 W)⟩) (m:=N.length) ⟨0,N,Nat.zero_le _,rfl,(nv _ _).symm,rfl⟩ fun r s hs=>?_;obtain⟨i,W,hi,rfl,hW,rfl⟩:=hs;have hWl:W.length=N.length:=by rw[hW,oL hM2l]
  have h1:=hrl W.length;by_cases hil:i<N.length
  ·obtain⟨row,hrow⟩:=get_some hil;have hrl2:=hN row (List.mem_of_getElem? hrow);have hWr:W[i]?=some row:=by
    have:=wH (A:=M2) hM2l hil;rw[<-hW,Mx.dX hrow]at this;rw[rwg (by omega),this]
   obtain⟨r2,hr2⟩:∃r2,r2=row.map fun x=>x/g:=⟨_,rfl⟩;have hr2l:r2.length=N.length:=by rw[hr2,List.length_map,hrl2]
   have hWn:W.set i r2=cV (i+1) M2 N:=by
    have:=ln (A:=M2) hM2l hil;rw[<-this,<-hW];congr 1;have e:M2[i]?=some r2:=by rw[hM2,hr2];unfold mapM;rw[List.getElem?_map,hrow];rfl
    exact(Mx.dX e).symm
   clear hW
   (repeat(first|refine gk fun K hK=>?_|refine zs2 ?_));refine aK ?_;(repeat(first|refine gk fun K hK=>?_|refine zs2 ?_))
   refine av ?_
   (repeat(first|refine gk fun K hK=>?_|refine zs2 ?_));refine aH ?_;(repeat(first|refine gk fun K hK=>?_|refine zs2 ?_))
   refine ak (ai (sl':=[(10,.own 2000000),(11,.opt 11 0),(12,.opt 12 0),(15,zI (i:Nat)),(16,zI 0)]) (ow':=(2000000,⟨113,1,hds W.length⟩)::([(12,⟨62,2,[.nm g]⟩),(11,⟨62,2,[.nm d1]⟩)]++rws 62 2 gZ 0 W)) an (fun p hp=>hp)) ?_;refine zM hWr (by omega) rfl rfl fun X1 L hL hLi=>?_;refine aE (fun r s=>∃k,k<=N.length/\r=N.length-k/\s=⟨[(10,.own 2000000),(11,.opt 11 0),(12,.opt 12 0),(15,zI (i:Nat)),(16,zI (k:Nat))],[(2000000,⟨113,1,L⟩),(1900000,⟨62,2,(r2.take k++row.drop k).map .nm⟩),(12,⟨62,2,[.nm g]⟩),(11,⟨62,2,[.nm d1]⟩)]⟩) (m:=N.length) ⟨0,Nat.zero_le _,rfl,rfl⟩ fun r s hs=>?_;obtain⟨k,hk,rfl,rfl⟩:=hs;by_cases hkl:k<N.length
   ·obtain⟨x,hx⟩:=get_some (m:=row) (k:=k) (by omega);have QX:=QU x ⟨row,List.mem_of_getElem? hrow,List.mem_of_getElem? hx⟩;have hnk:r2[k]?=some (x/g):=by rw[hr2,List.getElem?_map,hx];rfl
    have hq1:(r2.take k++row.drop k).set k (x/g)=r2.take (k+1)++row.drop (k+1):=by
     rw[ba hnk,List.set_append_right k _ mT,List.length_take,Nat.min_eq_left (by omega),Nat.sub_self,List.drop_eq_getElem_cons (by omega),List.set_cons_zero,List.append_assoc];rfl
    have hq0:(r2.take k++row.drop k)[k]?=some x:=by
     rw[List.getElem?_append_right mT,List.length_take,Nat.min_eq_left (by omega),Nat.sub_self,List.getElem?_drop];exact hx
    have hql:(r2.take k++row.drop k).length=N.length:=by simp;omega
    obtain⟨V,hV⟩:∃V,V=r2.take k++row.drop k:=⟨_,rfl⟩;rw[<-hV]at hq1 hql hq0;rw[<-hV];clear hV hnk hr2 hWn;generalize x/g=y at*;have hE:(V.map D.nm).set k (.nm y)=(V.set k y).map .nm:=by rw[List.map_set]
    (repeat(first|refine gk fun K hK=>?_|refine zs2 ?_));refine aK ?_;(repeat(first|refine gk fun K hK=>?_|refine zs2 ?_))
    refine av ?_
    (repeat(first|refine gk fun K hK=>?_|refine zs2 ?_));(refine rz ?_;refine bG ?_;refine bG ?_;refine dz ?_;refine ct ?_;refine bG ?_;refine bG ?_;refine bG ?_;refine dz ?_;refine ct ?_;refine bG ?_;refine dz ?_;refine ct ?_;refine ct ?_;refine vu ?_;refine dz ?_;(refine qf (i:=k) rfl rfl rfl bz bz aZ ae lR ae cE ae aa lS ?_);refine mR ?_);(repeat(first|refine gk fun K hK=>?_|refine zs2 ?_))
    rw[hE,hq1]
    (repeat(first|refine gk fun K hK=>?_|refine zs2 ?_));refine aX ?_;(repeat(first|refine gk fun K hK=>?_|refine zs2 ?_))
    simp only[nx,inB];exact⟨N.length-(k+1),_,by omega,(ai (sl':=[(10,.own 2000000),(11,.opt 11 0),(12,.opt 12 0),(15,zI (i:Nat)),(16,zI ((k+1:Nat):Int))]) (ow':=[(2000000,⟨113,1,L⟩),(1900000,⟨62,2,(r2.take (k+1)++row.drop (k+1)).map .nm⟩),(12,⟨62,2,[.nm g]⟩),(11,⟨62,2,[.nm d1]⟩)]) an aw),k+1,by omega,rfl,rfl⟩
   ·obtain rfl:k=N.length:=by omega
    have hq1:r2.take N.length++row.drop N.length=r2:=by rw[List.take_of_length_le (by omega),List.drop_eq_nil_of_le (by omega),List.append_nil]
    rw[hq1];clear hq1
    (repeat(first|refine gk fun K hK=>?_|refine zs2 ?_));refine aK ?_;(repeat(first|refine gk fun K hK=>?_|refine zs2 ?_))
    refine az ?_
    (repeat(first|refine gk fun K hK=>?_|refine zs2 ?_))
    refine⟨r2,[(10,.own 2000000),(11,.opt 11 0),(12,.opt 12 0),(15,zI (i:Nat))],[(12,⟨62,2,[.nm g]⟩),(11,⟨62,2,[.nm d1]⟩)],(ai (sl':=[(10,.own 2000000),(11,.opt 11 0),(12,.opt 12 0),(15,zI (i:Nat))]) (ow':=[(2000000,⟨113,1,L⟩),(1900000,⟨62,2,r2.map .nm⟩),(12,⟨62,2,[.nm g]⟩),(11,⟨62,2,[.nm d1]⟩)]) an aw),rfl,rfl,rfl,?_⟩
    ((simp only[nx,inB,ite_true,ite_false,↓reduceIte,Nat.reduceEqDiff,reduceCtorEq]);apply_assumption-exfalso)
    (repeat(first|refine gk fun K hK=>?_|refine zs2 ?_));refine aX ?_;(repeat(first|refine gk fun K hK=>?_|refine zs2 ?_))
    simp only[nx,inB];exact⟨N.length-(i+1),_,by omega,ai (sl':=[(10,.own 2000000),(11,.opt 11 0),(12,.opt 12 0),(15,zI ((i+1:Nat):Int))]) (ow':=(2000000,⟨113,1,hds (W.set i r2).length⟩)::([(12,⟨62,2,[.nm g]⟩),(11,⟨62,2,[.nm d1]⟩)]++rws 62 2 gZ 0 (W.set i r2))) an (fun p hp=>by rw[List.length_set]at hp;exact hp),i+1,W.set i r2,by omega,rfl,hWn,rfl⟩
  ·obtain rfl:i=N.length:=by omega
   rw[oM (by omega) (Nat.le_refl _)]at hW;subst hW;clear QU
   (repeat(first|refine gk fun K hK=>?_|refine zs2 ?_));refine aK ?_;(repeat(first|refine gk fun K hK=>?_|refine zs2 ?_))
   refine az ?_
   (repeat(first|refine gk fun K hK=>?_|refine zs2 ?_))
   refine ak (Ez (by omega) rfl) ?_
   (refine ak (ai (sl':=[(10,dW W),(11,.opt 11 0),(12,.opt 12 0)]) (ow':=[(12,⟨62,2,[.nm g]⟩),(11,⟨62,2,[.nm d1]⟩)]) an aw) ?_)
   (repeat(first|refine gk fun K hK=>?_|refine zs2 ?_));(refine gar ?_;refine zs4 ?_;refine cO ?_;refine zs4 ?_;refine dA ?_;refine dA ?_;refine zs6 ?_;refine zs6 ?_;refine af ?_);(repeat(first|refine gk fun K hK=>?_|refine zs2 ?_));(refine gar ?_;refine aS ?_;refine aS ?_;refine eA ?_;refine jI ?_;refine jI ?_;refine cO ?_;refine zs4 ?_;refine dA ?_;refine dA ?_;refine zs6 ?_;refine zs6 ?_;refine af ?_);(repeat(first|refine gk fun K hK=>?_|refine zs2 ?_))
   rcases hb1 with⟨rfl,rfl,ha1⟩|⟨rfl,ha1⟩
   ·rcases hb2 with⟨rfl,⟨Lx,g0,g1⟩,ha2⟩|⟨rfl,ha2⟩
    ·have EC:grD N1 d2= .tp [dM N1,zI d2,zI 0]:=if_pos ⟨ha1,ha2⟩
     (repeat(first|refine gk fun K hK=>?_|refine zs2 ?_));refine Aa ?_;(repeat(first|refine gk fun K hK=>?_|refine zs2 ?_))
     refine az ?_
     (repeat(first|refine gk fun K hK=>?_|refine zs2 ?_));(refine zW ?_;refine aR ?_;refine aR ?_;refine zs95 ?_;refine oe ?_;refine zs95 ?_;refine oe ?_;refine ko ?_;refine ko ?_;(first|refine cC rfl rfl rfl ae zb63 ae ae ?_|((try refine aB ?_);refine aL1 rfl rfl rfl zb63 ?_));refine cP ?_);(repeat(first|refine gk fun K hK=>?_|refine zs2 ?_))
     rw[EC];exact⟨_,Sh.refl,.three (.tmp 4) (.tmp 5) (.tmp 6) _ _ _ rfl (.tmp 4 rfl) (.tmp 5 rfl) (.tmp 6 rfl)⟩
    ·have EC:grD N1 d2= .tp [dM [],zI 0,zI 8]:=if_neg fun h=>ha2 h.2
     (repeat(first|refine gk fun K hK=>?_|refine zs2 ?_));refine Aa ?_;(repeat(first|refine gk fun K hK=>?_|refine zs2 ?_))
     refine av ?_
     (repeat(first|refine gk fun K hK=>?_|refine zs2 ?_));refine po ?_;(repeat(first|refine gk fun K hK=>?_|refine zs2 ?_))
     rw[EC];exact⟨_,gT (t:=4) (wd:=1) cr,.three (.tmp 4) (.tmp 5) (.tmp 6) _ _ _ rfl (.tmp 4 rfl) (.tmp 5 rfl) (.tmp 6 rfl)⟩
   ·have EC:∀M,¬M.all (fun l=>l.all (inb 1000000000000000))=true->grD M d2= .tp [dM [],zI 0,zI 8]:=fun M h1=>if_neg fun h=>h1 h.1
    (repeat(first|refine gk fun K hK=>?_|refine zs2 ?_));refine Aa ?_;(repeat(first|refine gk fun K hK=>?_|refine zs2 ?_))
    refine av ?_
    (repeat(first|refine gk fun K hK=>?_|refine zs2 ?_));refine po ?_;(repeat(first|refine gk fun K hK=>?_|refine zs2 ?_))
    rw[EC _ ha1];exact⟨_,gT (t:=4) (wd:=1) cr,.three (.tmp 4) (.tmp 5) (.tmp 6) _ _ _ rfl (.tmp 4 rfl) (.tmp 5 rfl) (.tmp 6 rfl)⟩
end DW
end
end Go.Proofs.YtcgjmdpcplhanaaGreat
