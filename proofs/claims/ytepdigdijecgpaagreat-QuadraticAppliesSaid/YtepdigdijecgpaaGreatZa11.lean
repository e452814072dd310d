/- Lemmas for the law: F15 -/
import Derived.Test.YtepdigdijecgpaaGreatZa10
namespace Go.Proofs.YtepdigdijecgpaaGreat
section
theorem A7{p q:Prop}(h:q)(f:Wq q->p:=by(intro hW;(refine bI ?_;refine wY ?_;refine ff ?_;refine il ?_;refine iK ?_;refine aK ?_);exact hW.out)):p:=f ⟨h⟩
theorem qE{p q:Prop}(h:q)(f:Wq q->p:=by(intro hW;(refine bI ?_;refine uD ?_;refine iK ?_;refine aK ?_);exact hW.out)):p:=f ⟨h⟩
theorem A6{p q:Prop}(h:q)(f:Wq q->p:=by(intro hW;(refine cJ ?_;refine il ?_;refine iK ?_;refine aK ?_);exact hW.out)):p:=f ⟨h⟩
end
section
open Go.RowKit
namespace DW
def tkv(n:Nat)(g t:Mx.Mat):Mx.Mat:=t.map fun x=>t.map fun y=>pv n g x y
def pQ(N:Int)(t:Mx.Mat):Int:=if sqB t N=true then(if eJ 1000000 t=true then 0 else 2)else 9
theorem Fn.wk{P:Program}{f:FuncId}{ds ds':List D}{r:D}(h:Fn P f ds r)(hw:∀X w vs,ATp X w ds' vs->ATp X w ds vs):Fn P f ds' r:=⟨h.1,fun X w vs hX hv=>h.2 X w vs hX (hw X w vs.toList hv)⟩
theorem J6(m:Int)(t:Mx.Mat):(t.any fun r=>r.any fun z=>!inb m z)= !(eJ m t):=by unfold eJ;rw[Bool.not_not]
set_option maxRecDepth 20000
set_option maxHeartbeats 1000000
theorem I5(g t:Mx.Mat)(N:Int)(ht:t.length<=1000000)(hr:∀r∈t,r.length<=1000000):Fn Tryz.prog 193 [qF N g,dM t] (zI (pQ N t)):=by
 have SQ:=mE t ht N;have SZ:=oE t ht hr 1000000 aa aa;unfold pQ
 cases hs:sqB t N with
 |false=>
  rw[hs]at SQ;rw[ai ay];refine aF Tryz.func193 ak rfl rfl rfl fun X0=>?_;simp only[aA];refine iD ?_;refine A7 ?_;refine db ?_;exact⟨_,Sh.refl,.one (.tmp 4) _ rfl (.tmp 4 rfl)⟩
 |true=>
  rw[hs]at SQ;rw[aj rfl]
  cases hb:eJ 1000000 t with
  |false=>
   rw[hb]at SZ;rw[ai ay];refine aF Tryz.func193 ak rfl rfl rfl fun X0=>?_;simp only[aA];refine iD ?_;refine A7 ?_;refine bc ?_;refine qE ?_;refine db ?_;exact⟨_,Sh.refl,.one (.tmp 4) _ rfl (.tmp 4 rfl)⟩
  |true=>
   rw[hb]at SZ;rw[aj rfl];refine aF Tryz.func193 ak rfl rfl rfl fun X0=>?_;simp only[aA];refine iD ?_;refine A7 ?_;refine bc ?_;refine qE ?_;refine bc ?_;refine dQ ?_;exact⟨_,Sh.refl,.one (.tmp 4) _ rfl (.tmp 4 rfl)⟩
theorem Lm(g:Nat)(p:List Int->Bool)(l:List (List Int))(hl:l.length<=1000000)(hg:∀z∈l,Fn Tryz.prog g [dI z] (.sc (.bool (p z)))):Fn Tryz.prog 345 [dM l,fnv g] (zI (ixp p l)):=by
 refine aF Tryz.func345 ak rfl rfl rfl fun X0=>?_;simp only[aA];refine cH ?_;refine jO ?_
 (refine bh (aO (sl':=[(0,dM l),(1,fnv g),(6,dM l),(7,zI l.length),(8,zI 0)]) (ow':=[]) ba aZ) ?_)
 refine bw (fun r s=>∃k,k<=l.length/\r=l.length-k/\(∀j y,j<k->l[j]?=some y->p y=false)/\s=⟨[(0,dM l),(1,fnv g),(6,dM l),(7,zI l.length),(8,zI (k:Nat))],[]⟩) (m:=l.length) ⟨0,aP _,rfl,fun j y hj=>absurd hj (pD j),rfl⟩ fun r s hs=>?_;obtain⟨k,hk,rfl,hz,rfl⟩:=hs;by_cases hkl:k<l.length
 ·obtain⟨x,hx⟩:=get_some hkl;have GX:=hg x (bf hx)
  cases h0:p x with
  |false=>
   rw[h0]at GX;refine lX ?_;refine jU ?_;simp only[nx];exact⟨l.length-(k+1),_,by omega,(aO (sl':=[(0,dM l),(1,fnv g),(6,dM l),(7,zI l.length),(8,zI ((k+1:Nat):Int))]) (ow':=[]) ba aZ),k+1,by omega,rfl,fun j y hj hy=>by
    by_cases e:j=k
    ·subst e;rw[hx]at hy;cases hy;exact h0
    ·exact hz j y aa hy,rfl⟩
  |true=>
   rw[h0]at GX;have EC:=oS hx h0 hz;refine lX ?_;refine cq ?_;refine dD ?_;rw[EC];exact⟨_,Sh.refl,.one (.tmp 4) _ rfl (.tmp 4 rfl)⟩
 ·obtain rfl:k=l.length:=by omega
  have EC:=oR hz;refine gu ?_;refine dQ ?_;rw[EC];exact⟨_,Sh.refl,.one (.tmp 4) _ rfl (.tmp 4 rfl)⟩
theorem L6(g:Nat)(p:List Int->Bool)(l:List (List Int))(hl:l.length<=1000000)(hg:∀z∈l,Fn Tryz.prog g [dI z] (.sc (.bool (p z)))):Fn Tryz.prog 279 [dM l,fnv g] (.sc (.bool (l.any p))):=by
 have IX:=Lm g p l hl hg;rw[<-ri];refine aF Tryz.func279 ak rfl rfl rfl fun X0=>?_;simp only[aA];refine cX ?_;refine wD ?_;refine zs1 ?_;exact⟨_,Sh.refl,.one (.tmp 4) _ rfl (.tmp 4 rfl)⟩
theorem KR(r:List Int)(hr:r.length<=1000000):Fn Tryz.prog 300 [dI r] (.sc (.bool (r.any fun z=>!inb 1000000 z))):=by
 have IR:=Ev r hr;rw[<-Bool.not_not (r.any fun z=>!inb 1000000 z)];refine aF Tryz.func300 ak rfl rfl rfl fun X0=>?_;simp only[aA];refine cX ?_;refine bI ?_;refine gg ?_;refine iK ?_;refine dC ?_;exact⟨_,Sh.refl,.one (.tmp 2) _ rfl (.tmp 2 rfl)⟩
theorem qcm_d(t:Mx.Mat)(N:Int)(ht:t.length<=1000000)(hr:∀r∈t,r.length<=1000000):Fn Tryz.prog 203 [dM t,zI N] (zI (pQ N t)):=by
 have SQ:=oB t ht N;have AN:=L6 300 (fun r=>r.any fun z=>!inb 1000000 z) t ht fun r h=>KR r (hr r h);rw[J6]at AN;unfold pQ
 cases hs:sqB t N with
 |false=>
  rw[hs]at SQ;rw[ai ay];refine aF Tryz.func203 ak rfl rfl rfl fun X0=>?_;simp only[aA];refine cH ?_;refine A6 ?_;refine db ?_;exact⟨_,Sh.refl,.one (.tmp 4) _ rfl (.tmp 4 rfl)⟩
 |true=>
  rw[hs]at SQ;rw[aj rfl]
  cases hb:eJ 1000000 t with
  |false=>
   rw[hb,Bool.not_false]at AN;rw[ai ay];refine aF Tryz.func203 ak rfl rfl rfl fun X0=>?_;simp only[aA];refine cH ?_;refine A6 ?_;refine bc ?_;refine bI ?_;refine zs87 ?_;refine aK ?_;refine db ?_;exact⟨_,Sh.refl,.one (.tmp 4) _ rfl (.tmp 4 rfl)⟩
  |true=>
   rw[hb,Bool.not_true]at AN;rw[aj rfl];refine aF Tryz.func203 ak rfl rfl rfl fun X0=>?_;simp only[aA];refine cH ?_;refine A6 ?_;refine bc ?_;refine bI ?_;refine zs87 ?_;refine aK ?_;refine bc ?_;refine dQ ?_;exact⟨_,Sh.refl,.one (.tmp 4) _ rfl (.tmp 4 rfl)⟩
set_option maxHeartbeats 2000000
theorem FB{g t:Mx.Mat}{n:Nat}(hg:g.length=n)(hR:Mx.Rc n g)(hb:Mx.Bd 1000 g)(hn:n<=4)(ht:t.length=n)(hT:Mx.Rc n t)(hV:∀x∈t,Vb x):Fn Tryz.prog 181 [dM g,dM t] (dM (tkv n g t)):=by
 have PR:∀x y,x∈t->y∈t->Fn Tryz.prog 178 [dM g,dI x,dI y] (zI (pv n g x y)):=fun x y hx hy=>KV hg hR hb hn (hT x hx) (hT y hy) (hV x hx) (hV y hy);clear hb hV;have hfin:tkv n g t=t.map fun x=>t.map fun y=>pv n g x y:=rfl;rw[hfin];clear hfin;refine aF Tryz.func181 ak rfl rfl rfl fun X0=>?_;simp only[aA];refine jW ?_;refine lY ?_;refine zs1 ?_;refine bh (ik (t:=5) (k:=5) (T:=45) (wd:=1) mR rfl rfl fE) ?_;refine zs1 ?_;refine jO ?_
 (refine bh (aO (sl':=[(0,dM g),(1,dM t),(5,.own 5),(11,dM t),(12,zI t.length),(13,zI 0)]) (ow':=[(5,⟨45,1,[]⟩)]) ba aZ) ?_)
 refine bw (fun q s=>∃i,i<=n/\q=n-i/\s=⟨[(0,dM g),(1,dM t),(5,.own 5),(11,dM t),(12,zI t.length),(13,zI (i:Nat))],[(5,⟨45,1,((t.take i).map fun x=>t.map fun y=>pv n g x y).map dI⟩)]⟩) (m:=n) ⟨0,aP _,rfl,rfl⟩ fun q s hs=>?_;obtain⟨i,hi,rfl,rfl⟩:=hs;by_cases hil:i<n
 ·obtain⟨x,hx⟩:=get_some (m:=t) (k:=i) aa;have hxl:=hT x (bf hx);have hsn:((t.take (i+1)).map fun x=>t.map fun y=>pv n g x y).map dI=((t.take i).map fun x=>t.map fun y=>pv n g x y).map dI++[dI (t.map fun y=>pv n g x y)]:=by rw[cF hx,cN,cN];rfl
  have hfl:((t.take i).map fun x=>t.map fun y=>pv n g x y).length<=4:=by rw[br,aQ];omega
  obtain⟨F,hF⟩:∃F,F=(t.take i).map fun x=>t.map fun y=>pv n g x y:=⟨_,rfl⟩;rw[<-hF]at hsn hfl;rw[<-hF];clear hF;refine nX ?_;refine Bh ?_;refine jW ?_;refine bh (ik (t:=8) (k:=8) (T:=3) (wd:=1) mR rfl rfl fE) ?_;refine zs1 ?_;refine jO ?_
  (refine bh (aO (sl':=[(0,dM g),(1,dM t),(5,.own 5),(7,dI x),(8,.own 8),(11,dM t),(12,zI t.length),(13,zI (i:Nat)),(17,dM t),(18,zI t.length),(19,zI 0)]) (ow':=[(8,⟨3,1,[]⟩),(5,⟨45,1,F.map dI⟩)]) ba aZ) ?_)
  refine bw (fun q s=>∃k,k<=n/\q=n-k/\s=⟨[(0,dM g),(1,dM t),(5,.own 5),(7,dI x),(8,.own 8),(11,dM t),(12,zI t.length),(13,zI (i:Nat)),(17,dM t),(18,zI t.length),(19,zI (k:Nat))],[(8,⟨3,1,((t.take k).map fun y=>pv n g x y).map zI⟩),(5,⟨45,1,F.map dI⟩)]⟩) (m:=n) ⟨0,aP _,rfl,rfl⟩ fun q s hs=>?_;obtain⟨k,hk,rfl,rfl⟩:=hs;by_cases hkl:k<n
  ·obtain⟨y,hy⟩:=get_some (m:=t) (k:=k) aa;have hyl:=hT y (bf hy);have PXY:=PR x y (bf hx) (bf hy);have hsm:((t.take (k+1)).map fun y=>pv n g x y).map zI=((t.take k).map fun y=>pv n g x y).map zI++[zI (pv n g x y)]:=by rw[cF hy,cN,cN];rfl
   have hgl:((t.take k).map fun y=>pv n g x y).length<=4:=by rw[br,aQ];omega
   obtain⟨G,hG⟩:∃G,G=(t.take k).map fun y=>pv n g x y:=⟨_,rfl⟩;rw[<-hG]at hsm hgl;rw[<-hG];clear hG hsn PR;generalize pv n g x y=z at*;refine nX ?_;refine Bh ?_;refine zs1 ?_;refine cJ ?_;refine zs3 ?_;refine zs3 ?_;refine zs44 ?_;refine xg ?_;refine xf ?_;refine dC ?_;refine kG ?_;refine zs1 ?_;simp only[nx];exact⟨n-(k+1),_,by omega,(aO (sl':=[(0,dM g),(1,dM t),(5,.own 5),(7,dI x),(8,.own 8),(11,dM t),(12,zI t.length),(13,zI (i:Nat)),(17,dM t),(18,zI t.length),(19,zI ((k+1:Nat):Int))]) (ow':=[(8,⟨3,1,G.map zI++[zI z]⟩),(5,⟨45,1,F.map dI⟩)]) ba aZ),k+1,by omega,rfl,by rw[hsm]⟩
  ·obtain rfl:k=n:=by omega
   rw[eA aa];obtain⟨R,hRe⟩:∃R,R=t.map fun y=>pv k g x y:=⟨_,rfl⟩;rw[<-hRe]at hsn;rw[<-hRe];clear hRe PR;refine gu ?_;refine bh (bN (k:=8) cK dX dV) ?_;refine zs1 ?_;refine Bg ?_;refine zs1 ?_;refine kG ?_;refine zs1 ?_;simp only[nx];exact⟨k-(i+1),_,by omega,(aO (sl':=[(0,dM g),(1,dM t),(5,.own 5),(11,dM t),(12,zI t.length),(13,zI ((i+1:Nat):Int))]) (ow':=[(5,⟨45,1,F.map dI++[dI R]⟩)]) ba aZ),i+1,by omega,rfl,by rw[hsn]⟩
 ·obtain rfl:i=n:=by omega
  rw[eA aa];generalize(t.map fun x=>t.map fun y=>pv i g x y)=R at*;refine gu ?_;refine bh (bN (k:=5) cK dX dV) ?_;refine zs1 ?_;refine dD ?_;exact⟨_,Sh.refl,.one (.tmp 4) _ rfl (.tmp 4 rfl)⟩
theorem Fv{g t:Mx.Mat}{n:Nat}(hg:g.length=n)(hR:Mx.Rc n g)(hb:Mx.Bd 1000 g)(hn:n<=4)(ht:t.length=n)(hT:Mx.Rc n t)(hV:∀x∈t,Vb x):Fn Tryz.prog 185 [qF n g,dM t] (dM (tkv n g t)):=by
 have PR:∀x y,x∈t->y∈t->Fn Tryz.prog 208 [qF n g,dI x,dI y] (zI (pv n g x y)):=fun x y hx hy=>I6 hg hR hb hn (hT x hx) (hT y hy) (hV x hx) (hV y hy);clear hb hV;have hfin:tkv n g t=t.map fun x=>t.map fun y=>pv n g x y:=rfl;rw[hfin];clear hfin;refine aF Tryz.func185 ak rfl rfl rfl fun X0=>?_;simp only[aA];refine zs1 ?_;refine gar ?_;refine nU ?_;refine zs9 ?_;refine aK ?_;refine jW ?_;refine bh (ik (t:=5) (k:=5) (T:=45) (wd:=1) mR rfl rfl fE) ?_;refine cH ?_
 (refine bh (aO (sl':=[(1,dM t),(2,.pt (qF n g)),(5,.own 5),(6,zI 0)]) (ow':=[(5,⟨45,1,[]⟩)]) ba aZ) ?_)
 refine bw (fun q s=>∃i,i<=n/\q=n-i/\s=⟨[(1,dM t),(2,.pt (qF n g)),(5,.own 5),(6,zI (i:Nat))],[(5,⟨45,1,((t.take i).map fun x=>t.map fun y=>pv n g x y).map dI⟩)]⟩) (m:=n) ⟨0,aP _,rfl,rfl⟩ fun q s hs=>?_;obtain⟨i,hi,rfl,rfl⟩:=hs;by_cases hil:i<n
 ·obtain⟨x,hx⟩:=get_some (m:=t) (k:=i) aa;have hxl:=hT x (bf hx);have hsn:((t.take (i+1)).map fun x=>t.map fun y=>pv n g x y).map dI=((t.take i).map fun x=>t.map fun y=>pv n g x y).map dI++[dI (t.map fun y=>pv n g x y)]:=by rw[cF hx,cN,cN];rfl
  have hfl:((t.take i).map fun x=>t.map fun y=>pv n g x y).length<=4:=by rw[br,aQ];omega
  obtain⟨F,hF⟩:∃F,F=(t.take i).map fun x=>t.map fun y=>pv n g x y:=⟨_,rfl⟩;rw[<-hF]at hsn hfl;rw[<-hF];clear hF;refine jS ?_;refine lY ?_;refine zs1 ?_;refine bh (ik (t:=7) (k:=7) (T:=3) (wd:=1) mR rfl rfl fE) ?_;refine cH ?_
  (refine bh (aO (sl':=[(1,dM t),(2,.pt (qF n g)),(5,.own 5),(6,zI (i:Nat)),(7,.own 7),(8,zI 0)]) (ow':=[(7,⟨3,1,[]⟩),(5,⟨45,1,F.map dI⟩)]) ba aZ) ?_)
  refine bw (fun q s=>∃k,k<=n/\q=n-k/\s=⟨[(1,dM t),(2,.pt (qF n g)),(5,.own 5),(6,zI (i:Nat)),(7,.own 7),(8,zI (k:Nat))],[(7,⟨3,1,((t.take k).map fun y=>pv n g x y).map zI⟩),(5,⟨45,1,F.map dI⟩)]⟩) (m:=n) ⟨0,aP _,rfl,rfl⟩ fun q s hs=>?_;obtain⟨k,hk,rfl,rfl⟩:=hs;by_cases hkl:k<n
  ·obtain⟨y,hy⟩:=get_some (m:=t) (k:=k) aa;have hyl:=hT y (bf hy);have PXY:=PR x y (bf hx) (bf hy);have hsm:((t.take (k+1)).map fun y=>pv n g x y).map zI=((t.take k).map fun y=>pv n g x y).map zI++[zI (pv n g x y)]:=by rw[cF hy,cN,cN];rfl
   have hgl:((t.take k).map fun y=>pv n g x y).length<=4:=by rw[br,aQ];omega
   obtain⟨G,hG⟩:∃G,G=(t.take k).map fun y=>pv n g x y:=⟨_,rfl⟩;rw[<-hG]at hsm hgl;rw[<-hG];clear hG hsn PR;generalize pv n g x y=z at*;refine jS ?_;((first|(apply az 12;(focus kernel_rfl);(decide+kernel))|(apply az 11;(focus kernel_rfl);(decide+kernel))|(apply az 10;(focus kernel_rfl);(decide+kernel))|(apply az 9;(focus kernel_rfl);(decide+kernel))|(apply az 8;(focus kernel_rfl);(decide+kernel))|(apply az 7;(focus kernel_rfl);(decide+kernel))|(apply az 6;(focus kernel_rfl);(decide+kernel))|(apply az 5;(focus kernel_rfl);(decide+kernel)));simp only[fT,eU,gK,ft]);refine gE ?_;refine py ?_;refine jQ ?_;refine jQ ?_;refine zs39 ?_;(first|refine fo rfl rfl rfl av xv av av ?_|((try refine bp ?_);refine aL1 rfl rfl rfl xv ?_));((try refine bp ?_);(refine uy rfl rfl rfl rfl ei ei cK av uO ak ak (by(simp only[br,eV,fQ];omega)) fE zb49 ?_));refine xe ?_;refine nV ?_;refine zs1 ?_;refine jT ?_;simp only[nx];exact⟨n-(k+1),_,by omega,(aO (sl':=[(1,dM t),(2,.pt (qF n g)),(5,.own 5),(6,zI (i:Nat)),(7,.own 7),(8,zI ((k+1:Nat):Int))]) (ow':=[(7,⟨3,1,G.map zI++[zI z]⟩),(5,⟨45,1,F.map dI⟩)]) ba aZ),k+1,by omega,rfl,by rw[hsm]⟩
  ·obtain rfl:k=n:=by omega
   rw[eA aa];obtain⟨R,hRe⟩:∃R,R=t.map fun y=>pv k g x y:=⟨_,rfl⟩;rw[<-hRe]at hsn;rw[<-hRe];clear hRe PR;refine jP ?_;refine bh (bN (k:=7) cK dX dV) ?_;refine zs1 ?_;refine Bg ?_;refine zs1 ?_;refine jT ?_;simp only[nx];exact⟨k-(i+1),_,by omega,(aO (sl':=[(1,dM t),(2,.pt (qF k g)),(5,.own 5),(6,zI ((i+1:Nat):Int))]) (ow':=[(5,⟨45,1,F.map dI++[dI R]⟩)]) ba aZ),i+1,by omega,rfl,by rw[hsn]⟩
 ·obtain rfl:i=n:=by omega
  rw[eA aa];generalize(t.map fun x=>t.map fun y=>pv i g x y)=R at*;refine jP ?_;refine bh (bN (k:=5) cK dX dV) ?_;refine zs1 ?_;refine dD ?_;exact⟨_,Sh.refl,.one (.tmp 4) _ rfl (.tmp 4 rfl)⟩
end DW
end
end Go.Proofs.YtepdigdijecgpaaGreat
