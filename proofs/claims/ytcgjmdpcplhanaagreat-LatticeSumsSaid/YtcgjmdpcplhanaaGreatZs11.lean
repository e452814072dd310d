/- Lemmas for the law: E15 E23 V21 DG E25 M9 M10 E17 -/
import Derived.Test.YtcgjmdpcplhanaaGreatZs10
namespace Go.Proofs.YtcgjmdpcplhanaaGreat
section
abbrev vQ:=@List.map_drop
theorem zb10{p:Prop}(h:p:=by(first|(apply kd;(exact rfl);(focus((apply aE;(conv=>lhs;whnf);(first|done|exact rfl))));(exact cK);(kernel_rfl);(kernel_rfl);(omega);(focus((first|(apply F4;(focus assumption);(focus assumption))|(apply get_map;assumption)|(apply get_own;assumption)))))|(apply iq;(exact rfl);(focus((apply aE;(conv=>lhs;whnf);(first|done|exact rfl))));(exact cK);(focus((repeat(first|exact bn|refine bu _ ?_))));(kernel_rfl);(kernel_rfl);(focus(first|omega|(simp;omega)));(focus(first|(apply fP;assumption)|exact rfl))))):p:=h
theorem Dv{p q:Prop}(h:q)(f:Wq q->p:=by(intro hW;(refine aL1 rfl rfl rfl zb10 ?_);exact hW.out)):p:=f ⟨h⟩
theorem nL{p q:Prop}(h:q)(f:Wq q->p:=by(intro hW;(refine bR ?_;refine pW ?_);exact hW.out)):p:=f ⟨h⟩
theorem Ra{p q:Prop}(h:q)(f:Wq q->p:=by(intro hW;(refine bT ?_;refine lT ?_;refine my ?_;refine Bq ?_;refine cT ?_);exact hW.out)):p:=f ⟨h⟩
theorem RR{p q:Prop}(h:q)(f:Wq q->p:=by(intro hW;(refine aL1 rfl rfl rfl (by(apply GG;(exact rfl);(focus((apply aE;(conv=>lhs;whnf);(first|done|exact rfl))));(focus((apply aE;(conv=>lhs;whnf);(first|done|exact rfl))));(kernel_rfl);(kernel_rfl);(focus(first|exact nY _|exact rfl));(focus(first|omega|(simp;omega))))) ?_);exact hW.out)):p:=f ⟨h⟩
theorem J6{p q:Prop}(h:q)(f:Wq q->p:=by(intro hW;((refine lQ rfl rfl rfl rfl ck ck aX ai pR ah ah (by(simp only[bD,cv,iD,gW];omega)) cj sK ?_));exact hW.out)):p:=f ⟨h⟩
theorem QV{p q:Prop}(h:q)(f:Wq q->p:=by(intro hW;(refine JA ?_;refine jK ?_;refine jK ?_;refine Jz ?_;refine qy ?_);exact hW.out)):p:=f ⟨h⟩
theorem zs234{p q:Prop}(h:q)(f:Wq q->p:=by(intro hW;(refine bT ?_;refine zs8 ?_;refine zs8 ?_;refine zs10 ?_;refine jO ?_;refine zs8 ?_;refine zs10 ?_;refine jO ?_;refine zs97 ?_;refine J5 ?_;refine nP ?_;refine cT ?_);exact hW.out)):p:=f ⟨h⟩
theorem Df{p q:Prop}(h:q)(f:Wq q->p:=by(intro hW;(refine mP ?_;refine bA ?_;refine zs234 ?_;refine iQ ?_);exact hW.out)):p:=f ⟨h⟩
theorem QT{p q:Prop}(h:q)(f:Wq q->p:=by(intro hW;(refine zs60 ?_;refine jK ?_;refine jK ?_;refine oK ?_;refine zs42 ?_;refine qy ?_);exact hW.out)):p:=f ⟨h⟩
theorem QW{p q:Prop}(h:q)(f:Wq q->p:=by(intro hW;(refine bT ?_;refine nK ?_;refine zs4 ?_;refine zs15 ?_;refine my ?_;refine ll ?_;refine zs5 ?_;refine Br ?_;refine aQ ?_);exact hW.out)):p:=f ⟨h⟩
theorem QY{p q:Prop}(h:q)(f:Wq q->p:=by(intro hW;(refine bT ?_;refine ll ?_;refine my ?_;refine J6 ?_;refine cT ?_);exact hW.out)):p:=f ⟨h⟩
end
section
open Go.RowKit
namespace DW
theorem Si(z:Int):sgn z=0↔z=0:=by unfold sgn;split<;>(try split)<;>omega
def fil(m:List (List Int)):List (List Int):=m.filter fun l=>!(l.all fun z=>decide (z=0))
theorem Gm(m:List (List Int))(l:List Int):fil (m++[l])=if l.all (fun z=>decide (z=0))=true then fil m else fil m++[l]:=by
 unfold fil;rw[zR];split<;>rename_i h<;>simp[h]
theorem I5(m:List (List Int)):(fil m).length<=m.length:=List.length_filter_le _ _
set_option maxRecDepth 20000
set_option maxHeartbeats 1000000
theorem P4(m:List (List Int))(hm:m.length<=1000000)(hm2:∀l∈m,l.length<=1000000)(hm3:∀l∈m,∀z∈l,Hf z):Fn Tryz.prog 114 [dW m] (dW (fil m)):=by
 refine bg Tryz.func114 ah rfl rfl rfl fun X0=>?_;simp only[aP];refine mO ?_;refine lS ?_;refine av (dz (t:=3) (k:=3) (T:=113) (wd:=1) fF rfl rfl cj) ?_
 (refine av (ay (sl':=[(0,dW m),(3,.own 3),(4,zI 0)]) (ow':=[(3,⟨113,1,[]⟩)]) aF aH) ?_)
 refine bh (fun r s=>∃k,k<=m.length/\r=m.length-k/\s=⟨[(0,dW m),(3,.own 3),(4,zI (k:Nat))],[(3,⟨113,1,(fil (m.take k)).map dZ⟩)]⟩) (m:=m.length) ⟨0,aO _,rfl,rfl⟩ fun r s hs=>?_;obtain⟨k,hk,rfl,rfl⟩:=hs;by_cases hkl:k<m.length
 ·obtain⟨l,hl⟩:=get_some hkl;have hll:=hm2 l (bj hl);have hfl:=I5 (m.take k);rw[aY]at hfl;have hfl2:(fil (m.take k)).length<=1000000:=aB hfl aa;clear hfl;have hsn:=Gm (m.take k) l;rw[<-bF hl]at hsn;obtain⟨F,hF⟩:∃F,F=fil (m.take k):=⟨_,rfl⟩;rw[<-hF]at hsn hfl2;rw[<-hF];clear hF;refine iw ?_;refine JU ?_;refine iA ?_
  (refine av (ay (sl':=[(0,dW m),(3,.own 3),(4,zI (k:Nat)),(5,.sc (.bool true)),(6,zI 0)]) (ow':=[(3,⟨113,1,F.map dZ⟩)]) aF aH) ?_)
  refine bh (fun r s=>∃j b,j<=l.length/\r=l.length-j/\b=(l.take j).all (fun z=>decide (z=0))/\s=⟨[(0,dW m),(3,.own 3),(4,zI (k:Nat)),(5,.sc (.bool b)),(6,zI (j:Nat))],[(3,⟨113,1,F.map dZ⟩)]⟩) (m:=l.length) ⟨0,true,aO _,rfl,rfl,rfl⟩ fun r s hs=>?_;obtain⟨j,b,hj,rfl,hb,rfl⟩:=hs;by_cases hjl:j<l.length
  ·obtain⟨z,hz⟩:=get_some hjl;have SX:=tM z (hm3 l (bj hl) z (bj hz));have gx:=Si z;have hb':(l.take (j+1)).all (fun z=>decide (z=0))=(b&&decide (z=0)):=by rw[bF hz,zV,<-hb];simp
   have hd:decide (sgn z=0)=decide (z=0):=by
    by_cases h:z=0
    ·rw[aD h,aD (gx.2 h)]
    ·rw[aG h,aG (fun e=>h (gx.1 e))]
   clear hb
   cases b with
   |true=>
    rw[qF]at hb';refine Df ?_;simp only[nx,inB];exact⟨l.length-(j+1),_,by omega,(ay (sl':=[(0,dW m),(3,.own 3),(4,zI (k:Nat)),(5,.sc (.bool (decide (sgn z=0)))),(6,zI ((j+1:Nat):Int))]) (ow':=[(3,⟨113,1,F.map dZ⟩)]) aF aH),j+1,decide (sgn z=0),by omega,rfl,by rw[hb',hd],rfl⟩
   |false=>
    rw[qE]at hb';refine Df ?_;simp only[nx,inB];exact⟨l.length-(j+1),_,by omega,(ay (sl':=[(0,dW m),(3,.own 3),(4,zI (k:Nat)),(5,.sc (.bool false)),(6,zI ((j+1:Nat):Int))]) (ow':=[(3,⟨113,1,F.map dZ⟩)]) aF aH),j+1,false,by omega,rfl,by rw[hb'],rfl⟩
  ·obtain rfl:j=l.length:=by omega
   rw[gf]at hb;rw[<-hb]at hsn;clear hb
   cases b with
   |true=>
    rw[an rfl]at hsn;refine mP ?_;refine bR ?_;refine xj ?_;refine mQ ?_;simp only[nx,inB];exact⟨m.length-(k+1),_,by omega,(ay (sl':=[(0,dW m),(3,.own 3),(4,zI ((k+1:Nat):Int))]) (ow':=[(3,⟨113,1,F.map dZ⟩)]) aF aH),k+1,by omega,rfl,by rw[hsn]⟩
   |false=>
    rw[aj au]at hsn;refine mP ?_;refine bR ?_;refine xj ?_;refine bA ?_;refine Ra ?_;refine iQ ?_;simp only[nx,inB];exact⟨m.length-(k+1),_,by omega,(ay (sl':=[(0,dW m),(3,.own 3),(4,zI ((k+1:Nat):Int))]) (ow':=[(3,⟨113,1,F.map dZ++[dZ l]⟩)]) aF aH),k+1,by omega,rfl,by rw[hsn,cL];rfl⟩
 ·obtain rfl:k=m.length:=by omega
  rw[gf];refine kY ?_;refine av (az (k:=3) aX bq bp) ?_;refine ji ?_;exact⟨_,Sh.refl,.one (.tmp 2) _ rfl (.tmp 2 rfl)⟩
end DW
end
section
open Go.RowKit
namespace DW
theorem mN{M:Mx.Mat}{B:Nat}(h:Mx.Bd B M){r:List Int}(hr:r∈M){z:Int}(hz:z∈r):z.natAbs<=B:=by
 obtain⟨i,hi,e⟩:=lX hr;obtain⟨j,hj,e2⟩:=lX hz;have:=h i j;unfold Mx.at' Mx.rw at this;rw[aq,aq,aV hi,e,mE,aV hj,e2]at this;exact this
theorem Ti{w:Nat}(h:w<=5):2*(50*11^w)<=3000000000:=by
 have:(11:Nat)^w<=11^5:=bI aa h;omega
set_option maxRecDepth 20000
set_option maxHeartbeats 2000000
end DW
end
section
open Go.RowKit Go.BigFrame
attribute [local go_sem ↓] Go.wp_at_zero Go.wp_at_succ
theorem UC(M:Mx.Mat)(k i:Nat):Mx.rw (M.drop k) i=Mx.rw M (k+i):=by
 unfold Mx.rw;rw[aq,aq,eF]
theorem Tv{X:Nat}{M:Mx.Mat}(h:Mx.Bd X M)(k:Nat):Mx.Bd X (M.take k):=fun i j=>by
 have e:Mx.rw (M.take k) i=if i<k then Mx.rw M i else []:=by
  unfold Mx.rw;rw[aq,aq,iB];split<;>rfl
 unfold Mx.at';rw[e];split
 ·exact h i j
 ·simp
theorem MR.split{w:World}{v:Value}{n:Nat}{M:Mx.Mat}(h:MR w v n M):∃a cap,v= .slice a M.length cap/\M.length<=cap/\MR w (.slice a M.length cap) n M:=by
 obtain⟨a,cap,rfl,h2⟩:=h;exact⟨a,cap,rfl,h2.1,a,cap,rfl,h2⟩
theorem MR.drop{w:World}{g o L cap n k:Nat}{M:Mx.Mat}(h:MR w (.slice (some ⟨g,o,none⟩) L cap) n M)(hk:k<L):MR w (.slice (some ⟨g,o+k,none⟩) (L-k) (cap-k)) n (M.drop k):=by
 obtain⟨a',c',e,h2,h3,h4⟩:=h;cases e;have hl:(M.drop k).length=M.length-k:=de;refine⟨_,_,by rw[hl],by omega,fun r hr=>h3 r (zK hr),.inr ?_⟩;rcases h4 with h4|⟨g',o',e,h5,h6⟩
 ·rw[h4]at hk;simp at hk
 ·cases e;refine⟨g,o+k,rfl,h5,fun i hi=>?_⟩;rw[hl]at hi;obtain⟨b,c,c1,c2⟩:=h6 (k+i) aa;rw[UC];refine⟨b,c,?_,c2⟩;rw[py];exact c1
def KT(m:Mx.Mat):Nat×Mx.Mat:=Mx.red m.length 0 (0,(cg m).drop (HT m).1)
theorem Lw{m:Mx.Mat}(h:Mx.Rc (wid m) m):(HT m).1<=m.length:=by
 have:=tS (wid m) 0 (fU h);rw[gV]at this;exact this
theorem rB{m:Mx.Mat}(h:Mx.Rc (wid m) m):(cg m).length=m.length:=by unfold cg dp;rw[bD,wX h]
theorem S7{m:Mx.Mat}(h:Mx.Rc (wid m) m):Mx.Rc m.length (cg m):=fun r hr=>by
 obtain⟨x,hx,rfl⟩:=dY.1 hr;rw[de,Ee h x hx];omega
theorem vH{m:Mx.Mat}(h:Mx.Rc (wid m) m):Mx.Rc m.length ((cg m).drop (HT m).1):=fun r hr=>S7 h r (zK hr)
end
section
open Go.RowKit
namespace DW
section
variable {P : Program} {s : S} {o : Oper}
theorem GG{x y:Operand}{tt:TypeId}{wd:Nat}{lo:List D}{q:IntKind}{z:Int}{m:Nat}(ho:o.op= .slice tt x (some y) none none)(hx:s.op x= .ls wd lo)(hy:s.op y= .sc (.int q z))(ht:P.underlying tt=some (.slice (P.elem tt)))(hz:(P.info? (P.elem tt)).map (·.size)=some wd)(hm:z.toNat=m)(hb:0<=z/\z<=lo.length):bH P o s (.ls wd (lo.drop m)):=fun X f a w base _ _ hs=>by
 subst hm;have h1:=hs x bU;have h2:=hs y bU;rw[hx]at h1;rw[hy]at h2;simp only[SR,AR]at h1 h2;obtain⟨ad,c,h3,h4,h5⟩:=h1
 cases hq:P.info? (P.elem tt)with
 |none=>rw[hq]at hz;cases hz
 |some inf=>
  rw[hq]at hz;simp only[cG,ak]at hz;have hlen:(lo.drop z.toNat).length=lo.length-z.toNat:=by rw[de]
  have hr:(execOp a.eval o).run P w= .ok (.value (.slice (if c=z.toNat then ad else ad.map (·.add (z.toNat*wd))) (lo.length-z.toNat) (c-z.toNat))) w:=by
   unfold execOp;rw[ho];simp only[Option.map_none,cG,h3,h2.1];have hru:=run_underlying ht w;simp[Instr.sliceAt,Instr.slice,Instr.sliceBounds,Instr.sliceBound,asIntOf,hru,hb.1,hb.2,sizeOf,typeInfo,hq,hz]
  refine eA hr ?_;simp only[SR,AR];refine⟨_,c-z.toNat,by rw[hlen],by rw[hlen];omega,?_⟩;by_cases he:lo.drop z.toNat=[]
  ·exact .inl he
  ·have hlt:z.toNat<lo.length:=uG fun h=>he (jx h);rcases h5 with h5|⟨b,off,e,k1,k2,k3⟩
   ·rw[h5]at hlt;simp at hlt
   ·refine .inr ⟨b,off+z.toNat*wd,?_,k1,k2,ARs.mk fun i d hd=>?_⟩
    ·rw[aj aa,e,cG,dB]
    ·rw[eF]at hd;have:=ARs.at k3 hd;rw[bO,<-py]at this;exact this
end
end DW
end
section
open Go.RowKit
namespace DW
theorem OJ{n i k:Nat}(hk:k<n):(fO n i)[k]?=some (if k=i then 1 else 0):=by
 unfold fO;by_cases h:k=i
 ·subst h;rw[an rfl,nV (by simpa using hk)]
 ·rw[aj h,qc (fun e=>h e.symm),lf,an hk]
theorem NV{l:List Int}(h:l.all (fun z=>decide (z=0))=true):fil [l]=[]:=by simp[fil,h]
theorem NY{l:List Int}(h:l.all (fun z=>decide (z=0))=false):fil [l]=[l]:=by simp[fil,h]
def kO(w r:Nat)(H:Mx.Mat)(k:Nat):Mx.Mat:=((H.take k).drop r).map (List.drop w)
theorem Ur{w r k:Nat}{H:Mx.Mat}{l:List Int}(h:H[k]?=some l):kO w r H (k+1)=if k<r then kO w r H k else kO w r H k++[l.drop w]:=by
 unfold kO;have hk:=(ct.1 h).1;rw[bF h];split
 ·rw[zZ,jx cU,jx cU];simp
 ·rw[qJ cU,cL];rfl
theorem VN(w r:Nat)(H:Mx.Mat)(k:Nat):(kO w r H k).length<=H.length:=by
 unfold kO;simp;omega
theorem NC{m:Mx.Mat}(hc:Mx.Rc (wid m) m){k:Nat}{l:List Int}(hl:(HT m).2[k]?=some l):(l.take (wid m)).all (fun z=>decide (z=0))= !decide (k<(HT m).1):=by
 have hR:=Ee hc;obtain⟨pv,he⟩:=Mx.iJ (wid m) 0 (0,cA m) id (fU hc) (Mx.gL _);rw[bw]at he;rw[show Mx.red (wid m) 0 (0,cA m)=HT m from rfl]at he;have hat:∀j,l.getD j 0=Mx.at' (HT m).2 k j:=fun j=>by
  unfold Mx.at' Mx.rw;rw[aq (l:=(HT m).2),hl];rfl
 have hll:=hR l (bj hl);by_cases hk:k<(HT m).1
 ·rw[aD hk];refine Bool.eq_false_iff.2 fun h=>?_;have h1:=he.pos k hk;have h2:=he.lt k hk;rw[<-hat,aq]at h1;have hmem:(l.getD (pv k) 0)∈l.take (wid m):=by
   rw[aq,aV aa,mE];exact List.mem_take_iff_getElem.2 ⟨pv k,by omega,rfl⟩
  have:=cW.1 h _ hmem;rw[aq]at this;simp only[decide_eq_true_eq]at this;omega
 ·rw[aG hk];refine cW.2 fun z hz=>?_;obtain⟨j,hj,e⟩:=List.mem_take_iff_getElem.1 hz;have h1:=he.zb k aa j aa;rw[<-hat,aq,aV aa,mE,e]at h1;exact aD h1
set_option maxRecDepth 20000
set_option maxHeartbeats 2000000
theorem KW(m:Mx.Mat)(k3:Mx.Rc (wid m) m)(hm:m.length<=64)(hw:wid m<=64)(EC:Fn Tryz.prog 78 [dW (cA m),zI (wid m)] (dW (HT m).2))(E2:Fn Tryz.prog 78 [dW ((cg m).drop (HT m).1),zI m.length] (dW (KT m).2))(hHf:∀l∈(HT m).2,∀z∈l,Hf z):Fn Tryz.prog 86 [dW m] (dW (KT m).2):=by
 have hHL:=wX k3;have hHR:=Ee k3;have hr:(HT m).1<=m.length:=Lw k3;have hO:kO (wid m) (HT m).1 (HT m).2 m.length=(cg m).drop (HT m).1:=by
  unfold kO cg dp;rw[cf aa,vQ]
 have hZ:=fun (k:Nat) (l:List Int) (h:(HT m).2[k]?=some l)=>NC k3 h;have hFi:=fun (k:Nat) (l:List Int) (h:(HT m).2[k]?=some l)=>P4 [l.take (wid m)] aU (fun x hx=>by rw[bL.1 hx,aY];omega) (fun x hx z hz=>by
  rw[bL.1 hx]at hz;exact hHf l (bj h) z (mZ hz))
 have h0w:m.length=0->wid m=0:=fun h=>by rw[gP h];rfl
 rw[<-hO]at E2;clear hO hHf;generalize(HT m).2=H at*;generalize(HT m).1=r at*;generalize(KT m).2=R at*;have O1:=yM 1 aa;have O0:=yM 0 aa;refine bg Tryz.func86 ah rfl rfl rfl fun X0=>?_;simp only[aP]
 (repeat(first|refine gk fun K hK=>?_|refine ao ?_))
 refine mT ?_
 (repeat(first|refine gk fun K hK=>?_|refine ao ?_))
 refine mS ?_
 (repeat refine ao ?_)
 refine gk fun K2 hK2=>?_;have TAIL:∀s,Sh X0 Tryz.f86.ntmps s ⟨[(0,dW m),(3,zI (wid m))],[]⟩->K2 s:=by
  intro s hs;apply hK2;refine av hs ?_;clear hK2
  (repeat(first|refine gk fun K hK=>?_|refine ao ?_));refine mT ?_;(repeat(first|refine gk fun K hK=>?_|refine ao ?_));refine mS ?_;(repeat(first|refine gk fun K hK=>?_|refine ao ?_))
  refine av (dz (t:=4) (k:=4) (T:=113) (wd:=1) fF rfl rfl cj) ?_
  (refine av (ay (sl':=[(0,dW m),(3,zI (wid m)),(4,.own 4),(5,zI 0)]) (ow':=[(4,⟨113,1,[]⟩)]) aF aH) ?_)
  refine bh (fun q s=>∃i,i<=m.length/\q=m.length-i/\s=⟨[(0,dW m),(3,zI (wid m)),(4,.own 4),(5,zI (i:Nat))],[(4,⟨113,1,((cA m).take i).map dZ⟩)]⟩) (m:=m.length) ⟨0,aO _,rfl,rfl⟩ fun q s hs=>?_;obtain⟨i,hi,rfl,rfl⟩:=hs;by_cases him:i<m.length
  ·have hl:=gJ him;have hle:=k3 _ (bj hl);have hxs:=bF (np him);have hul:=rS m.length i;have hug:=fun k (hk:k<m.length)=>OJ (i:=i) hk;have htl:((cA m).take i).length<=64:=by rw[aY];omega
   obtain⟨l,hL⟩:∃l,l=Mx.rw m i:=⟨_,rfl⟩;obtain⟨u,hU⟩:∃u,u=fO m.length i:=⟨_,rfl⟩;obtain⟨G,hG⟩:∃G,G=(cA m).take i:=⟨_,rfl⟩;rw[<-hL]at hl hle hxs;rw[<-hU]at hul hug hxs;rw[<-hG]at hxs htl;rw[<-hG];clear hL hU hG
   (repeat(first|refine gk fun K hK=>?_|refine ao ?_));refine iR ?_;(repeat(first|refine gk fun K hK=>?_|refine ao ?_))
   refine fe ?_
   (repeat(first|refine gk fun K hK=>?_|refine ao ?_));refine gar ?_;(refine yd (k:=25) (wd:=2) (T:=Tryz.prog.elem 113) rfl rfl rfl rfl ah ah ai ai cj ?_);refine zs4 ?_;refine lT ?_;refine J6 ?_;refine cT ?_;(repeat(first|refine gk fun K hK=>?_|refine ao ?_));refine mS ?_;(repeat(first|refine gk fun K hK=>?_|refine ao ?_))
   (refine av (ay (sl':=[(0,dW m),(3,zI (wid m)),(4,.own 4),(5,zI (i:Nat)),(6,.own 25),(7,zI 0)]) (ow':=[(25,⟨62,2,l.map .nm⟩),(4,⟨113,1,G.map dZ⟩)]) aF aH) ?_)
   refine bh (fun q s=>∃k,k<=m.length/\q=m.length-k/\s=⟨[(0,dW m),(3,zI (wid m)),(4,.own 4),(5,zI (i:Nat)),(6,.own 25),(7,zI (k:Nat))],[(25,⟨62,2,(l++u.take k).map .nm⟩),(4,⟨113,1,G.map dZ⟩)]⟩) (m:=m.length) ⟨0,aO _,rfl,by simp⟩ fun q s hs=>?_;obtain⟨k,hk,rfl,rfl⟩:=hs;by_cases hkm:k<m.length
   ·have hg:=hug k hkm;have hts:=bF hg;have hlu:(l++u.take k).length<=1000:=by rw[cv,aY];omega
    have hsn:l++u.take (k+1)=(l++u.take k)++[if k=i then 1 else 0]:=by rw[hts,fK]
    obtain⟨V,hV⟩:∃V,V=l++u.take k:=⟨_,rfl⟩;rw[<-hV]at hlu hsn;rw[<-hV];clear hV hts hg hxs;by_cases hki:k=i
    ·rw[an hki]at hsn
     (repeat(first|refine gk fun K hK=>?_|refine ao ?_));refine iR ?_;(repeat(first|refine gk fun K hK=>?_|refine ao ?_))
     refine fe ?_
     (repeat(first|refine gk fun K hK=>?_|refine ao ?_));refine mS ?_;(repeat(first|refine gk fun K hK=>?_|refine ao ?_));refine bT ?_;refine Eg ?_;refine aQ ?_;(repeat(first|refine gk fun K hK=>?_|refine ao ?_))
     refine fe ?_
     (repeat(first|refine gk fun K hK=>?_|refine ao ?_));refine mS ?_;(repeat(first|refine gk fun K hK=>?_|refine ao ?_));refine QY ?_;(repeat(first|refine gk fun K hK=>?_|refine ao ?_));refine fE ?_;(repeat(first|refine gk fun K hK=>?_|refine ao ?_))
     simp only[nx,inB];exact⟨m.length-(k+1),_,by omega,(ay (sl':=[(0,dW m),(3,zI (wid m)),(4,.own 4),(5,zI (i:Nat)),(6,.own 25),(7,zI ((k+1:Nat):Int))]) (ow':=[(25,⟨62,2,V.map .nm++[.nm 1]⟩),(4,⟨113,1,G.map dZ⟩)]) aF aH),k+1,by omega,rfl,by rw[hsn,cL];rfl⟩
    ·rw[aj hki]at hsn
     (repeat(first|refine gk fun K hK=>?_|refine ao ?_));refine iR ?_;(repeat(first|refine gk fun K hK=>?_|refine ao ?_))
     refine fe ?_
     (repeat(first|refine gk fun K hK=>?_|refine ao ?_));refine mS ?_;(repeat(first|refine gk fun K hK=>?_|refine ao ?_));refine bT ?_;refine Eg ?_;refine aQ ?_;(repeat(first|refine gk fun K hK=>?_|refine ao ?_))
     refine fD ?_
     (repeat(first|refine gk fun K hK=>?_|refine ao ?_));refine QY ?_;(repeat(first|refine gk fun K hK=>?_|refine ao ?_));refine fE ?_;(repeat(first|refine gk fun K hK=>?_|refine ao ?_))
     simp only[nx,inB];exact⟨m.length-(k+1),_,by omega,(ay (sl':=[(0,dW m),(3,zI (wid m)),(4,.own 4),(5,zI (i:Nat)),(6,.own 25),(7,zI ((k+1:Nat):Int))]) (ow':=[(25,⟨62,2,V.map .nm++[.nm 0]⟩),(4,⟨113,1,G.map dZ⟩)]) aF aH),k+1,by omega,rfl,by rw[hsn,cL];rfl⟩
   ·obtain rfl:k=m.length:=by omega
    rw[cf aa];clear hug
    (repeat(first|refine gk fun K hK=>?_|refine ao ?_));refine iR ?_;(repeat(first|refine gk fun K hK=>?_|refine ao ?_))
    refine fD ?_
    (repeat(first|refine gk fun K hK=>?_|refine ao ?_))
    refine av (az (k:=25) aX bq bp) ?_;refine uz ?_
    (repeat(first|refine gk fun K hK=>?_|refine ao ?_))
    refine fE ?_;simp only[nx,inB];exact⟨m.length-(i+1),_,by omega,(ay (sl':=[(0,dW m),(3,zI (wid m)),(4,.own 4),(5,zI ((i+1:Nat):Int))]) (ow':=[(4,⟨113,1,G.map dZ++[dZ (l++u)]⟩)]) aF aH),i+1,by omega,rfl,by rw[hxs,cL];rfl⟩
  ·obtain rfl:i=m.length:=by omega
   rw[cf (by rw[gV];exact af _)]
   (repeat(first|refine gk fun K hK=>?_|refine ao ?_));refine iR ?_;(repeat(first|refine gk fun K hK=>?_|refine ao ?_))
   refine fD ?_
   (repeat(first|refine gk fun K hK=>?_|refine ao ?_))
   refine av (az (k:=4) aX bq bp) ?_;refine bT ?_;refine kU ?_;refine cT ?_
   (repeat(first|refine gk fun K hK=>?_|refine ao ?_))
   refine mT ?_
   (repeat(first|refine gk fun K hK=>?_|refine ao ?_))
   refine mS ?_
   (repeat(first|refine gk fun K hK=>?_|refine ao ?_))
   refine av (dz (t:=10) (k:=10) (T:=113) (wd:=1) fF rfl rfl cj) ?_
   (refine av (ay (sl':=[(0,dW m),(3,zI (wid m)),(9,dW H),(10,.own 10),(11,zI 0)]) (ow':=[(10,⟨113,1,[]⟩)]) aF aH) ?_)
   refine bh (fun q s=>∃k,k<=m.length/\q=m.length-k/\s=⟨[(0,dW m),(3,zI (wid m)),(9,dW H),(10,.own 10),(11,zI (k:Nat))],[(10,⟨113,1,(kO (wid m) r H k).map dZ⟩)]⟩) (m:=m.length) ⟨0,aO _,rfl,by simp[kO]⟩ fun q s hs=>?_;obtain⟨k,hk,rfl,rfl⟩:=hs;by_cases hkm:k<m.length
   ·obtain⟨l,hl⟩:=get_some (show k<H.length by omega);have hll:=hHR l (bj hl);have hz:=hZ k l hl;have FI:=hFi k l hl;have hsn:=Ur (w:=wid m) (r:=r) hl;have hkl:=VN (wid m) r H k;obtain⟨G,hG⟩:∃G,G=kO (wid m) r H k:=⟨_,rfl⟩;rw[<-hG]at hsn hkl;rw[<-hG];clear hG hZ hFi;have eT:(l.map D.nm).take (wid m)=(l.take (wid m)).map .nm:=vV.symm;have eD:D.ls 2 ((l.map D.nm).drop (wid m))=dZ (l.drop (wid m)):=by show _=D.ls 2 ((l.drop (wid m)).map .nm);rw[vQ]
    by_cases hkr:k<r
    ·rw[an hkr]at hsn;rw[aD hkr]at hz;rw[NY hz]at FI;have FI':Fn Tryz.prog 114 [.ls 1 [.ls 2 ((l.map .nm).take (wid m))]] (dW [l.take (wid m)]):=by rw[eT];exact FI
     (repeat(first|refine gk fun K hK=>?_|refine ao ?_));refine iR ?_;(repeat(first|refine gk fun K hK=>?_|refine ao ?_))
     refine fe ?_
     (repeat(first|refine gk fun K hK=>?_|refine ao ?_));refine QW ?_;(repeat(first|refine gk fun K hK=>?_|refine ao ?_))
     refine fD ?_
     (repeat(first|refine gk fun K hK=>?_|refine ao ?_));refine fE ?_;(repeat(first|refine gk fun K hK=>?_|refine ao ?_))
     simp only[nx,inB];exact⟨m.length-(k+1),_,by omega,(ay (sl':=[(0,dW m),(3,zI (wid m)),(9,dW H),(10,.own 10),(11,zI ((k+1:Nat):Int))]) (ow':=[(10,⟨113,1,G.map dZ⟩)]) aF aH),k+1,by omega,rfl,by rw[hsn]⟩
    ·rw[aj hkr]at hsn;rw[aG hkr]at hz;rw[NV hz]at FI;have FI':Fn Tryz.prog 114 [.ls 1 [.ls 2 ((l.map .nm).take (wid m))]] (dW []):=by rw[eT];exact FI
     (repeat(first|refine gk fun K hK=>?_|refine ao ?_));refine iR ?_;(repeat(first|refine gk fun K hK=>?_|refine ao ?_))
     refine fe ?_
     (repeat(first|refine gk fun K hK=>?_|refine ao ?_));refine QW ?_;(repeat(first|refine gk fun K hK=>?_|refine ao ?_))
     refine fe ?_
     (repeat(first|refine gk fun K hK=>?_|refine ao ?_));refine bT ?_;refine lT ?_;refine zs4 ?_;refine RR ?_;refine my ?_;refine J6 ?_;refine cT ?_;(repeat(first|refine gk fun K hK=>?_|refine ao ?_));refine fE ?_;(repeat(first|refine gk fun K hK=>?_|refine ao ?_))
     simp only[nx,inB];exact⟨m.length-(k+1),_,by omega,(ay (sl':=[(0,dW m),(3,zI (wid m)),(9,dW H),(10,.own 10),(11,zI ((k+1:Nat):Int))]) (ow':=[(10,⟨113,1,G.map dZ++[.ls 2 ((l.map .nm).drop (wid m))]⟩)]) aF aH),k+1,by omega,rfl,by rw[hsn,cL,eD];rfl⟩
   ·obtain rfl:k=m.length:=by omega
    clear hZ hFi
    (repeat(first|refine gk fun K hK=>?_|refine ao ?_));refine iR ?_;(repeat(first|refine gk fun K hK=>?_|refine ao ?_))
    refine fD ?_
    (repeat(first|refine gk fun K hK=>?_|refine ao ?_))
    refine av (az (k:=10) aX bq bp) ?_;refine bT ?_;refine zs5 ?_;refine kU ?_;refine cT ?_
    (repeat(first|refine gk fun K hK=>?_|refine ao ?_))
    exact⟨_,Sh.refl,.one (.tmp 2) _ rfl (.tmp 2 rfl)⟩
 clear hK2 hZ hFi EC E2;by_cases h0:m.length=0
 ·have hw0:=h0w h0
  (repeat(first|refine gk fun K hK=>?_|refine ao ?_));refine xo ?_;(repeat(first|refine gk fun K hK=>?_|refine ao ?_))
  refine fD ?_;rw[show wid m=0 from hw0]at TAIL
  (repeat(first|refine gk fun K hK=>?_|refine ao ?_))
  exact(ay (sl':=[(0,dW m),(3,zI ((0:Nat):Int))]) (ow':=[]) aF aH)
 ·obtain⟨l,hl,hw⟩:=Hv (m:=m) aa;have hc0:(0:Int)=((0:Nat):Int):=rfl
  (repeat(first|refine gk fun K hK=>?_|refine ao ?_));refine xo ?_;(repeat(first|refine gk fun K hK=>?_|refine ao ?_))
  refine fe ?_;rw[<-hw]at TAIL
  (repeat(first|refine gk fun K hK=>?_|refine ao ?_));refine cE ?_;refine Dv ?_;refine yq ?_;refine zs5 ?_;refine cT ?_;(repeat(first|refine gk fun K hK=>?_|refine ao ?_))
  exact(ay (sl':=[(0,dW m),(3,zI (l.length:Nat))]) (ow':=[]) aF aH)
end DW
end
section
namespace Mx
theorem Bk{n:Nat}{M:Mat}{i j:Nat}(h:j<n):at' (tk n M) i j=at' M i j:=by rw[UT,an h]
theorem C3{n:Nat}(l:List Int){j:Nat}(h:j<n):(l.take n).getD j 0=l.getD j 0:=by
 rw[aq,aq,iB,an h]
theorem Aw(n:Nat)(M:Mat)(i:Nat)(r:List Int):(tk n M).set i (r.take n)=tk n (M.set i r):=by
 unfold tk;rw[lu]
theorem A4(n:Nat)(M:Mat):(tk n M).length=M.length:=by simp[tk]
theorem Vn(n:Nat)(M:Mat)(i j:Nat):swp (tk n M) i j=tk n (swp M i j):=by
 unfold swp;rw[uQ,uQ,Aw,Aw]
theorem K8{n c:Nat}(h:c<n)(p a:List Int):eO (p.take n) c (a.take n)=(eO p c a).take n:=by
 unfold eO en;rw[C3 _ h,C3 _ h,List.take_zipWith]
theorem VH(n:Nat)(a:List Int):neg (a.take n)=(neg a).take n:=by unfold neg;rw[vV]
theorem zf{n c:Nat}(h:c<n)(r s:Nat)(M:Mat):∀k,ba r c s (tk n M) k=tk n (ba r c s M k)
 |0=>rfl
 |k+1=>by
  unfold ba;rw[zf h r s M k,uQ,uQ,K8 h,Aw]
theorem Ig{n c:Nat}(h:c<n)(r:Nat)(M:Mat):∀k,scan c r (tk n M) k=scan c r M k
 |0=>rfl
 |k+1=>by
  unfold scan;simp only[Ig h r M k,Bk h]
theorem T9{n c:Nat}(h:c<n)(r:Nat)(M:Mat):pick r c (tk n M)=pick r c M:=by
 unfold pick;rw[A4,Ig h]
theorem Hx{n c:Nat}(h:c<n)(r:Nat)(M:Mat):∀k,jU r c (tk n M) k=jU r c M k
 |0=>rfl
 |k+1=>by
  unfold jU;rw[Hx h r M k,Bk h]
theorem Uz{n c:Nat}(h:c<n)(r:Nat)(M:Mat):elim r c (tk n M)=tk n (elim r c M):=by
 unfold elim;rw[A4,zf h]
theorem Jf{n c:Nat}(h:c<n)(r:Nat):∀(f:Nat) (M:Mat),rq r c f (tk n M)=tk n (rq r c f M)
 |0,_=>rfl
 |f+1,M=>by
  unfold rq;rw[T9 h]
  cases(pick r c M).1 with
  |none=>rfl
  |some t=>
   simp only;rw[Vn,Uz h,Jf h r f];split<;>rfl
theorem UL{n c:Nat}(h:c<n)(r:Nat)(M:Mat):cH r c (tk n M)=tk n (cH r c M):=by
 unfold cH kW;rw[A4,Hx h,Jf h]
theorem TH{n c:Nat}(h:c<n)(r:Nat)(M:Mat):cJ r c (tk n M)=tk n (cJ r c M):=by
 unfold cJ;rw[Bk h,uQ,VH,Aw];split<;>rfl
theorem Qp{n c:Nat}(h:c<n)(r:Nat)(M:Mat):kj r c (tk n M)=tk n (kj r c M):=zf h r 0 M r
theorem Ty{n c:Nat}(h:c<n)(r:Nat)(M:Mat):step r c (tk n M)=((step r c M).1,tk n (step r c M).2):=by
 unfold step;simp only[];rw[UL h,Bk h,TH h,Qp h];split<;>rfl
theorem Mv{n:Nat}:∀(k c r:Nat) (M:Mat),c+k<=n->red k c (r,tk n M)=((red k c (r,M)).1,tk n (red k c (r,M)).2)
 |0,_,_,_,_=>rfl
 |k+1,c,r,M,h=>by
  unfold red;simp only[A4];split
  ·rw[Ty aa];exact Mv k (c+1) (step r c M).1 (step r c M).2 aa
  ·rfl
theorem Vk{m:Mat}(h:Rc (wid m) m):tk (wid m) (cA m)=m:=by
 apply pF;intro i;unfold tk;rw[bN];by_cases hi:i<m.length
 ·rw[np hi,gJ hi];simp only[cG,ak];rw[zY (h.rw hi)]
 ·rw[gQ (by rw[gV];omega),gQ aa];rfl
theorem TZ{m:Mat}(h:Rc (wid m) m):red (wid m) 0 (0,m)=((HT m).1,Ed m):=by
 have:=Mv (n:=wid m) (wid m) 0 0 (cA m) aa;rw[Vk h]at this;exact this
end Mx
end
section
namespace Mx
theorem Pg(P M:Mat)(i:Nat):rw (P++M) (P.length+i)=rw M i:=by
 unfold rw;rw[aq,aq,ez aa,oc]
theorem WJ{n i:Nat}(hi:i<n)(f:Nat->Nat->Int)(h:∀l,l<n->f i l=0):D n f=0:=by
 have h1:=Bn 0 0 n f i (f i) (f i) hi;rw[fV n _ f fun k j hk hj=>by
  unfold upd;split
  ·next e=>rw[e,h j hj];show 0*f i j+0*f i j=0;omega
  ·rfl]at h1
 rw[h1];omega
end Mx
end
section
open Go.RowKit
namespace DW
theorem yj{α:Type}{a b:List α}(hl:a.length=b.length)(h:a.take a.length=b.take a.length):a=b:=by
 rw[gf]at h;rw[h,hl,gf]
set_option maxRecDepth 20000
set_option maxHeartbeats 1000000
theorem VU(a b:List Int)(ha:a.length<=1000000000):Fn Tryz.prog 55 [dI a,dI b] (.sc (.bool (decide (a=b)))):=by
 refine bg Tryz.func55 ah rfl rfl rfl fun X0=>?_;simp only[aP];by_cases hl:a.length=b.length
 ·refine nF ?_;refine xq ?_;refine nL ?_
  (refine av (ay (sl':=[(0,dI a),(1,dI b),(5,zI 0)]) (ow':=[]) aF aH) ?_)
  refine bh (fun r s=>∃k,k<=a.length/\r=a.length-k/\a.take k=b.take k/\s=⟨[(0,dI a),(1,dI b),(5,zI (k:Nat))],[]⟩) (m:=a.length) ⟨0,aO _,rfl,rfl,rfl⟩ fun r s hs=>?_;obtain⟨k,hk,rfl,he,rfl⟩:=hs;by_cases hkl:k<a.length
  ·obtain⟨x,hx⟩:=get_some hkl;obtain⟨y,hy⟩:=get_some (m:=b) (k:=k) aa;by_cases hxy:x=y
   ·refine iw ?_;refine QV ?_;refine mQ ?_;simp only[nx,inB];exact⟨a.length-(k+1),_,by omega,(ay (sl':=[(0,dI a),(1,dI b),(5,zI ((k+1:Nat):Int))]) (ow':=[]) aF aH),k+1,by omega,rfl,by rw[bF hx,bF hy,he,hxy],rfl⟩
   ·have EC:decide (a=b)=false:=aG fun e=>hxy (by rw[e,hy]at hx;cases hx;rfl);refine iw ?_;refine QV ?_;refine bA ?_;refine jL ?_;rw[EC];exact⟨_,Sh.refl,.one (.tmp 4) _ rfl (.tmp 4 rfl)⟩
  ·obtain rfl:k=a.length:=by omega
   have EC:decide (a=b)=true:=aD (yj hl he);refine kY ?_;refine jL ?_;rw[EC];exact⟨_,Sh.refl,.one (.tmp 4) _ rfl (.tmp 4 rfl)⟩
 ·have EC:decide (a=b)=false:=aG fun e=>hl (by rw[e]);refine nF ?_;refine xq ?_;refine bA ?_;refine jL ?_;rw[EC];exact⟨_,Sh.refl,.one (.tmp 4) _ rfl (.tmp 4 rfl)⟩
theorem Up(a b:List (List Int))(ha:a.length<=1000000000)(ha2:∀l∈a,l.length<=1000000000):Fn Tryz.prog 19 [dM a,dM b] (.sc (.bool (decide (a=b)))):=by
 refine bg Tryz.func19 ah rfl rfl rfl fun X0=>?_;simp only[aP];by_cases hl:a.length=b.length
 ·refine nF ?_;refine xq ?_;refine nL ?_
  (refine av (ay (sl':=[(0,dM a),(1,dM b),(5,zI 0)]) (ow':=[]) aF aH) ?_)
  refine bh (fun r s=>∃k,k<=a.length/\r=a.length-k/\a.take k=b.take k/\s=⟨[(0,dM a),(1,dM b),(5,zI (k:Nat))],[]⟩) (m:=a.length) ⟨0,aO _,rfl,rfl,rfl⟩ fun r s hs=>?_;obtain⟨k,hk,rfl,he,rfl⟩:=hs;by_cases hkl:k<a.length
  ·obtain⟨x,hx⟩:=get_some hkl;obtain⟨y,hy⟩:=get_some (m:=b) (k:=k) aa;have IN:=VU x y (ha2 x (bj hx));by_cases hxy:x=y
   ·rw[aD hxy]at IN;refine iw ?_;refine QT ?_;refine mQ ?_;simp only[nx,inB];exact⟨a.length-(k+1),_,by omega,(ay (sl':=[(0,dM a),(1,dM b),(5,zI ((k+1:Nat):Int))]) (ow':=[]) aF aH),k+1,by omega,rfl,by rw[bF hx,bF hy,he,hxy],rfl⟩
   ·rw[aG hxy]at IN;have EC:decide (a=b)=false:=aG fun e=>hxy (by rw[e,hy]at hx;cases hx;rfl);refine iw ?_;refine QT ?_;refine bA ?_;refine jL ?_;rw[EC];exact⟨_,Sh.refl,.one (.tmp 4) _ rfl (.tmp 4 rfl)⟩
  ·obtain rfl:k=a.length:=by omega
   have EC:decide (a=b)=true:=aD (yj hl he);refine kY ?_;refine jL ?_;rw[EC];exact⟨_,Sh.refl,.one (.tmp 4) _ rfl (.tmp 4 rfl)⟩
 ·have EC:decide (a=b)=false:=aG fun e=>hl (by rw[e]);refine nF ?_;refine xq ?_;refine bA ?_;refine jL ?_;rw[EC];exact⟨_,Sh.refl,.one (.tmp 4) _ rfl (.tmp 4 rfl)⟩
end DW
end
end Go.Proofs.YtcgjmdpcplhanaaGreat
