/- Lemmas for the law: E15 E23 V21 DG M10 E17 E21 E27 L0 V22 -/
import Derived.Test.YtcgjmdpcplhanaaGreatRows
import Derived.WalkKit
import Derived.ProofKit
import Derived.OpenShut
import Derived.ChangeOld
import Derived.ChangeSlices
import Derived.Below
import Derived.Lib.SmallJoins
import Derived.Deep.Slices
import Derived.Test.YtcgjmdpcplhanaaGreatZd11
namespace Go.Proofs.YtcgjmdpcplhanaaGreat
section
theorem kV{p q:Prop}(h:q)(f:Wq q->p:=by(intro hW;(refine bw ?_;refine qS ?_);exact hW.out)):p:=f ⟨h⟩
theorem Js{p q:Prop}(h:q)(f:Wq q->p:=by(intro hW;(refine jv ?_;refine zs7 ?_;refine fM ?_;refine sb ?_;refine pg ?_;refine kv ?_;refine fM ?_;refine sb ?_;refine pg ?_;refine kT ?_);exact hW.out)):p:=f ⟨h⟩
theorem CW{p q:Prop}(h:q)(f:Wq q->p:=by(intro hW;(refine cO ?_;refine kU ?_;refine zs5 ?_;refine zs7 ?_;refine fM ?_;refine zs8 ?_;refine Dy ?_;refine jW ?_;refine sb ?_;refine pg ?_;refine kv ?_;refine fM ?_;refine zs8 ?_;refine Dy ?_;refine jW ?_;refine sb ?_;refine pg ?_;refine kT ?_);exact hW.out)):p:=f ⟨h⟩
theorem QD{p q:Prop}(h:q)(f:Wq q->p:=by(intro hW;(refine I9 ?_;refine jy ?_;refine jy ?_;refine tG ?_;refine zs41 ?_;refine jg ?_);exact hW.out)):p:=f ⟨h⟩
theorem QE{p q:Prop}(h:q)(f:Wq q->p:=by(intro hW;(refine zs55 ?_;refine jy ?_;refine jy ?_;refine AV ?_;refine jg ?_);exact hW.out)):p:=f ⟨h⟩
end
section
open Go.RowKit
namespace DW
theorem sgn_z(z:Int):sgn z=0↔z=0:=by unfold sgn;split<;>(try split)<;>omega
def fil(m:List (List Int)):List (List Int):=m.filter fun l=>!(l.all fun z=>decide (z=0))
theorem PE(m:List (List Int))(l:List Int):fil (m++[l])=if l.all (fun z=>decide (z=0))=true then fil m else fil m++[l]:=by
 unfold fil;rw[List.filter_append];split<;>rename_i h<;>simp[h]
theorem TH(m:List (List Int)):(fil m).length<=m.length:=List.length_filter_le _ _
set_option maxRecDepth 20000
set_option maxHeartbeats 1000000
end DW
end
section
open Go.RowKit
namespace DW
theorem oY{M:Mx.Mat}{B:Nat}(h:Mx.Bd B M){r:List Int}(hr:r∈M){z:Int}(hz:z∈r):z.natAbs<=B:=by
 obtain⟨i,hi,e⟩:=kZ hr;obtain⟨j,hj,e2⟩:=kZ hz;have:=h i j;unfold Mx.at' Mx.rw at this;rw[aG,aG,aV hi,e,ly,aV hj,e2]at this;exact this
theorem Sp{w:Nat}(h:w<=5):2*(50*11^w)<=3000000000:=by
 have:(11:Nat)^w<=11^5:=cH aa h;omega
set_option maxRecDepth 20000
set_option maxHeartbeats 2000000
end DW
end
section
open Go.RowKit Go.BigFrame
attribute [local go_sem ↓] Go.wp_at_zero Go.wp_at_succ
theorem TU(M:Mx.Mat)(k i:Nat):Mx.rw (M.drop k) i=Mx.rw M (k+i):=by
 unfold Mx.rw;rw[aG,aG,fE]
theorem Sz{X:Nat}{M:Mx.Mat}(h:Mx.Bd X M)(k:Nat):Mx.Bd X (M.take k):=fun i j=>by
 have e:Mx.rw (M.take k) i=if i<k then Mx.rw M i else []:=by
  unfold Mx.rw;rw[aG,aG,gB];split<;>rfl
 unfold Mx.at';rw[e];split
 ·exact h i j
 ·simp
theorem MR.split{w:World}{v:Value}{n:Nat}{M:Mx.Mat}(h:MR w v n M):∃a cap,v= .slice a M.length cap/\M.length<=cap/\MR w (.slice a M.length cap) n M:=by
 obtain⟨a,cap,rfl,h2⟩:=h;exact⟨a,cap,rfl,h2.1,a,cap,rfl,h2⟩
theorem MR.drop{w:World}{g o L cap n k:Nat}{M:Mx.Mat}(h:MR w (.slice (some ⟨g,o,none⟩) L cap) n M)(hk:k<L):MR w (.slice (some ⟨g,o+k,none⟩) (L-k) (cap-k)) n (M.drop k):=by
 obtain⟨a',c',e,h2,h3,h4⟩:=h;cases e;have hl:(M.drop k).length=M.length-k:=eM;refine⟨_,_,by rw[hl],by omega,fun r hr=>h3 r (List.mem_of_mem_drop hr),.inr ?_⟩;rcases h4 with h4|⟨g',o',e,h5,h6⟩
 ·rw[h4]at hk;simp at hk
 ·cases e;refine⟨g,o+k,rfl,h5,fun i hi=>?_⟩;rw[hl]at hi;obtain⟨b,c,c1,c2⟩:=h6 (k+i) aa;rw[TU];refine⟨b,c,?_,c2⟩;rw[oF];exact c1
end
section
open Go.RowKit
namespace DW
section
variable {P : Program} {s : S} {o : Oper}
theorem Gl{x y:Operand}{tt:TypeId}{wd:Nat}{lo:List D}{q:IntKind}{z:Int}{m:Nat}(ho:o.op= .slice tt x (some y) none none)(hx:s.op x= .ls wd lo)(hy:s.op y= .sc (.int q z))(ht:P.underlying tt=some (.slice (P.elem tt)))(hz:(P.info? (P.elem tt)).map (·.size)=some wd)(hm:z.toNat=m)(hb:0<=z/\z<=lo.length):bI P o s (.ls wd (lo.drop m)):=fun X f a w base _ _ hs=>by
 subst hm;have h1:=hs x bV;have h2:=hs y bV;rw[hx]at h1;rw[hy]at h2;simp only[SR,AR]at h1 h2;obtain⟨ad,c,h3,h4,h5⟩:=h1
 cases hq:P.info? (P.elem tt)with
 |none=>rw[hq]at hz;cases hz
 |some inf=>
  rw[hq]at hz;simp only[cw,an]at hz;have hlen:(lo.drop z.toNat).length=lo.length-z.toNat:=by rw[eM]
  have hr:(execOp a.eval o).run P w= .ok (.value (.slice (if c=z.toNat then ad else ad.map (·.add (z.toNat*wd))) (lo.length-z.toNat) (c-z.toNat))) w:=by
   unfold execOp;rw[ho];simp only[Option.map_none,cw,h3,h2.1];have hru:=run_underlying ht w;simp[Instr.sliceAt,Instr.slice,Instr.sliceBounds,Instr.sliceBound,asIntOf,hru,hb.1,hb.2,sizeOf,typeInfo,hq,hz]
  refine dE hr ?_;simp only[SR,AR];refine⟨_,c-z.toNat,by rw[hlen],by rw[hlen];omega,?_⟩;by_cases he:lo.drop z.toNat=[]
  ·exact .inl he
  ·have hlt:z.toNat<lo.length:=wW fun h=>he (lA h);rcases h5 with h5|⟨b,off,e,k1,k2,k3⟩
   ·rw[h5]at hlt;simp at hlt
   ·refine .inr ⟨b,off+z.toNat*wd,?_,k1,k2,ARs.mk fun i d hd=>?_⟩
    ·rw[ah aa,e,cw,dA]
    ·rw[fE]at hd;have:=ARs.at k3 hd;rw[cq,<-oF]at this;exact this
end
end DW
end
section
namespace Mx
theorem GJ{n i:Nat}(hi:i<n)(f:Nat->Nat->Int)(h:∀l,l<n->f i l=0):D n f=0:=by
 have h1:=rY 0 0 n f i (f i) (f i) hi;rw[ck n _ f fun k j hk hj=>by
  unfold upd;split
  ·next e=>rw[e,h j hj];show 0*f i j+0*f i j=0;omega
  ·rfl]at h1
 rw[h1];omega
theorem at_rb(M:Mat)(i j:Nat):rb 0 M i j=at' M i j:=by unfold rb;rw[bn]
end Mx
end
section
open Go.RowKit
namespace DW
theorem xU{α:Type}{a b:List α}(hl:a.length=b.length)(h:a.take a.length=b.take a.length):a=b:=by
 rw[et]at h;rw[h,hl,et]
set_option maxRecDepth 20000
set_option maxHeartbeats 1000000
theorem Vf(a b:List Int)(ha:a.length<=1000000000):Fn Tryz.prog 55 [dI a,dI b] (.sc (.bool (decide (a=b)))):=by
 refine ba Tryz.func55 ai rfl rfl rfl fun X0=>?_;simp only[aO];by_cases hl:a.length=b.length
 ·refine lJ ?_;refine wL ?_;refine oh ?_
  (refine ay (aq (sl':=[(0,dI a),(1,dI b),(5,zI 0)]) (ow':=[]) az aD) ?_)
  refine bc (fun r s=>∃k,k<=a.length/\r=a.length-k/\a.take k=b.take k/\s=⟨[(0,dI a),(1,dI b),(5,zI (k:Nat))],[]⟩) (m:=a.length) ⟨0,aQ _,rfl,rfl,rfl⟩ fun r s hs=>?_;obtain⟨k,hk,rfl,he,rfl⟩:=hs;by_cases hkl:k<a.length
  ·obtain⟨x,hx⟩:=get_some hkl;obtain⟨y,hy⟩:=get_some (m:=b) (k:=k) aa;by_cases hxy:x=y
   ·refine dn ?_;refine QE ?_;refine jx ?_;simp only[nx,inB];exact⟨a.length-(k+1),_,by omega,(aq (sl':=[(0,dI a),(1,dI b),(5,zI ((k+1:Nat):Int))]) (ow':=[]) az aD),k+1,by omega,rfl,by rw[bq hx,bq hy,he,hxy],rfl⟩
   ·have EC:decide (a=b)=false:=aw fun e=>hxy (by rw[e,hy]at hx;cases hx;rfl);refine dn ?_;refine QE ?_;refine kV ?_;rw[EC];exact⟨_,Sh.refl,.one (.tmp 4) _ rfl (.tmp 4 rfl)⟩
  ·obtain rfl:k=a.length:=by omega
   have EC:decide (a=b)=true:=au (xU hl he);refine eR ?_;refine qS ?_;rw[EC];exact⟨_,Sh.refl,.one (.tmp 4) _ rfl (.tmp 4 rfl)⟩
 ·have EC:decide (a=b)=false:=aw fun e=>hl (by rw[e]);refine lJ ?_;refine wL ?_;refine kV ?_;rw[EC];exact⟨_,Sh.refl,.one (.tmp 4) _ rfl (.tmp 4 rfl)⟩
theorem Tv(a b:List (List Int))(ha:a.length<=1000000000)(ha2:∀l∈a,l.length<=1000000000):Fn Tryz.prog 19 [dM a,dM b] (.sc (.bool (decide (a=b)))):=by
 refine ba Tryz.func19 ai rfl rfl rfl fun X0=>?_;simp only[aO];by_cases hl:a.length=b.length
 ·refine lJ ?_;refine wL ?_;refine oh ?_
  (refine ay (aq (sl':=[(0,dM a),(1,dM b),(5,zI 0)]) (ow':=[]) az aD) ?_)
  refine bc (fun r s=>∃k,k<=a.length/\r=a.length-k/\a.take k=b.take k/\s=⟨[(0,dM a),(1,dM b),(5,zI (k:Nat))],[]⟩) (m:=a.length) ⟨0,aQ _,rfl,rfl,rfl⟩ fun r s hs=>?_;obtain⟨k,hk,rfl,he,rfl⟩:=hs;by_cases hkl:k<a.length
  ·obtain⟨x,hx⟩:=get_some hkl;obtain⟨y,hy⟩:=get_some (m:=b) (k:=k) aa;have IN:=Vf x y (ha2 x (bj hx));by_cases hxy:x=y
   ·rw[au hxy]at IN;refine dn ?_;refine QD ?_;refine jx ?_;simp only[nx,inB];exact⟨a.length-(k+1),_,by omega,(aq (sl':=[(0,dM a),(1,dM b),(5,zI ((k+1:Nat):Int))]) (ow':=[]) az aD),k+1,by omega,rfl,by rw[bq hx,bq hy,he,hxy],rfl⟩
   ·rw[aw hxy]at IN;have EC:decide (a=b)=false:=aw fun e=>hxy (by rw[e,hy]at hx;cases hx;rfl);refine dn ?_;refine QD ?_;refine kV ?_;rw[EC];exact⟨_,Sh.refl,.one (.tmp 4) _ rfl (.tmp 4 rfl)⟩
  ·obtain rfl:k=a.length:=by omega
   have EC:decide (a=b)=true:=au (xU hl he);refine eR ?_;refine qS ?_;rw[EC];exact⟨_,Sh.refl,.one (.tmp 4) _ rfl (.tmp 4 rfl)⟩
 ·have EC:decide (a=b)=false:=aw fun e=>hl (by rw[e]);refine lJ ?_;refine wL ?_;refine kV ?_;rw[EC];exact⟨_,Sh.refl,.one (.tmp 4) _ rfl (.tmp 4 rfl)⟩
end DW
end
section
open Go.RowKit
namespace DW
def smq(n:Nat):Bool:=decide ((5<n/\n<=64)\/70<n)
def smL(m:List (List Int)):Bool:=!(smq m.length)&&m.all fun l=>!(smq l.length)
theorem UN{m:List (List Int)}{l:List Int}(h:l∈m)(h2:smq l.length=true):smL m=false:=by
 unfold smL;rw[vq];right;rw[zf];exact⟨l,h,by rw[h2];decide⟩
set_option maxRecDepth 20000
set_option maxHeartbeats 1000000
theorem Ou(m:List (List Int)):Fn Tryz.prog 14 [dM m] (.sc (.bool (smL m))):=by
 refine ba Tryz.func14 ai rfl rfl rfl fun X0=>?_;simp only[aO];by_cases hq:smq m.length=true
 ·have EC:smL m=false:=by unfold smL;rw[hq];rfl
  have hq':=qh hq;rcases hq' with⟨h1,h2⟩|h1
  ·have d1:decide ((m.length:Int)>5)=true:=au aa;have d2:decide ((m.length:Int)<=64)=true:=au aa;refine lJ ?_;refine Js ?_;refine kV ?_;rw[EC];exact⟨_,Sh.refl, .one (.tmp 2) _ rfl (.tmp 2 rfl)⟩
  ·have d1:decide ((m.length:Int)>5)=true:=au aa;have d2:decide ((m.length:Int)<=64)=false:=aw aa;refine lJ ?_;refine Js ?_;refine kV ?_;rw[EC];exact⟨_,Sh.refl, .one (.tmp 2) _ rfl (.tmp 2 rfl)⟩
 ·have hq0:smq m.length=false:=by simpa using hq
  have hq':=of_decide_eq_false hq0;have hml:m.length<=70:=by omega
  have hc:m.length<=5\/(64<m.length/\m.length<=70):=by omega
  rcases hc with h1|⟨h1,h2⟩;all_goals
   first
   |have d1:decide ((m.length:Int)>5)=false:=aw aa
   | (have d1 : decide ((m.length : Int) > 5) = true := au (by omega)
      have d2:decide ((m.length:Int)<=64)=false:=aw aa)
   refine lJ ?_;refine Js ?_;refine oh ?_
   (refine ay (aq (sl':=[(0,dM m),(3,zI 0)]) (ow':=[]) az aD) ?_)
   refine bc (fun r s=>∃k,k<=m.length/\r=m.length-k/\(m.take k).all (fun l=> !(smq l.length))=true/\s=⟨[(0,dM m),(3,zI (k:Nat))],[]⟩) (m:=m.length) ⟨0,aQ _,rfl,rfl,rfl⟩ fun r s hs=>?_;obtain⟨k,hk,rfl,he,rfl⟩:=hs;by_cases hkl:k<m.length
   ·obtain⟨l,hl⟩:=get_some hkl;by_cases hql:smq l.length=true
    ·have EC:=UN (bj hl) hql;have hql':=qh hql;have d3:decide ((l.length:Int)>5)=true:=au aa;rcases hql' with⟨h3,h4⟩|h3
     ·have d4:decide ((l.length:Int)<=64)=true:=au aa;refine dn ?_;refine CW ?_;refine kV ?_;rw[EC];exact⟨_,Sh.refl, .one (.tmp 2) _ rfl (.tmp 2 rfl)⟩
     ·have d4:decide ((l.length:Int)<=64)=false:=aw aa;refine dn ?_;refine CW ?_;refine kV ?_;rw[EC];exact⟨_,Sh.refl, .one (.tmp 2) _ rfl (.tmp 2 rfl)⟩
    ·have hql0:smq l.length=false:=by simpa using hql
     have hql':=of_decide_eq_false hql0;have he':(m.take (k+1)).all (fun l=> !(smq l.length))=true:=by rw[bq hl,zm,he];simp[hql0]
     have hc2:l.length<=5\/(64<l.length/\l.length<=70):=by omega
     rcases hc2 with h3|⟨h3,h4⟩
     ·have d3:decide ((l.length:Int)>5)=false:=aw aa;refine dn ?_;refine CW ?_;refine jx ?_;simp only[nx,inB];exact⟨m.length-(k+1),_,by omega,(aq (sl':=[(0,dM m),(3,zI ((k+1:Nat):Int))]) (ow':=[]) az aD),k+1,by omega,rfl,he',rfl⟩
     ·have d3:decide ((l.length:Int)>5)=true:=au aa;have d4:decide ((l.length:Int)<=64)=false:=aw aa;refine dn ?_;refine CW ?_;refine jx ?_;simp only[nx,inB];exact⟨m.length-(k+1),_,by omega,(aq (sl':=[(0,dM m),(3,zI ((k+1:Nat):Int))]) (ow':=[]) az aD),k+1,by omega,rfl,he',rfl⟩
   ·obtain rfl:k=m.length:=by omega
    rw[et]at he;have EC:smL m=true:=by unfold smL;rw[hq0,he];rfl
    refine eR ?_;refine qS ?_;rw[EC];exact⟨_,Sh.refl, .one (.tmp 2) _ rfl (.tmp 2 rfl)⟩
end DW
end
section
open Go.RowKit
namespace DW
theorem xL(b o j:Nat):(⟨b,o,none⟩:Addr).add j=⟨b,o+j,none⟩:=Addr.add_mid b o j
theorem Uh{X:Nat->Prop}{w:World}{l:List Int}{v:Value}(h:AR X w (dI l) v):∃a c,v= .slice a l.length c/\l.length<=c/\ZAt w a l:=by
 simp only[dI,AR]at h;obtain⟨a,c,rfl,h2,h3⟩:=h;rw[bC]at h2;refine⟨a,c,by rw[bC],h2,?_⟩;rcases h3 with h3|⟨b,o,rfl,_,hb,hs⟩
 ·exact .inl (by simpa using h3)
 ·refine .inr ⟨⟨b,o,none⟩,rfl,hb,fun k x hk=>?_⟩;obtain⟨u,h4,_,_,h7⟩:=ARs.at hs (i:=k) (d:=zI x) (by rw[bW,hk];rfl);simp only[AR]at h4;obtain⟨rfl,_⟩:=h4;have:=h7 0 (.int .i64 x) rfl;rw[xL];simpa using this
theorem AA{X:Nat->Prop}{w:World}{m:List (List Int)}{v:Value}(h:AR X w (dM m) v):ZM w v m:=by
 simp only[dM,AR]at h;obtain⟨a,c,rfl,h2,h3⟩:=h;rw[bC]at h2;refine⟨a,c,by rw[bC],h2,?_⟩;rcases h3 with h3|⟨b,o,rfl,_,hb,hs⟩
 ·exact .inl (by simpa using h3)
 ·refine .inr ⟨⟨b,o,none⟩,rfl,hb,fun k l hk=>?_⟩;obtain⟨u,h4,_,_,h7⟩:=ARs.at hs (i:=k) (d:=dI l) (by rw[bW,hk];rfl);obtain⟨a',c',rfl,h8,h9⟩:=Uh h4;have:=h7 0 _ rfl;rw[xL];exact⟨a',c',by simpa using this,h8,h9⟩
theorem Sk{X:Nat->Prop}{B:Nat}{w:World}{m:List (List Int)}{v:Value}(h:ZMB B w v m)(hX:∀b,X b->b<B):AR X w (dM m) v:=by
 obtain⟨a,cap,rfl,hc,h⟩:=h;simp only[dM,AR];refine⟨a,cap,by rw[bC],by rw[bC];exact hc,?_⟩;rcases h with h|⟨g,rfl,h1,hg,h2⟩
 ·exact .inl (by rw[h];rfl)
 ·refine .inr ⟨g,0,rfl,fun hx=>by have:=hX g hx;omega,hg,ARs.mk fun i d hd=>?_⟩;rw[bW]at hd;obtain⟨l,hl,rfl⟩:=eW.1 hd;obtain⟨g',h3,h4,h5⟩:=h2 i l hl;refine⟨.slice (some ⟨g',0,none⟩) l.length l.length,?_,rfl,rfl,fun j u hj=>?_⟩
  ·simp only[dI,AR];refine⟨_,_,by rw[bC],by rw[bC];exact af _,.inr ⟨g',0,rfl,fun hx=>by have:=hX g' hx;omega,h5.lt,ARs.mk fun k d hd=>?_⟩⟩;rw[bW]at hd;obtain⟨z,hz,rfl⟩:=eW.1 hd;refine⟨.int .i64 z,by simp only[zI,AR];exact⟨trivial,rfl⟩,rfl,rfl,fun j u hj=>?_⟩
   match j,hj with
   |0,hj=>
    have:u= .int .i64 z:=by simpa[Value.cells]using hj.symm
    rw[this];simpa using h5.c k z hz
   |j+1,hj=>simp[Value.cells]at hj
  ·match j,hj with
   |0,hj=>
    have:u= .slice (some ⟨g',0,none⟩) l.length l.length:=by simpa[Value.cells]using hj.symm
    rw[this];simpa using h3
   |j+1,hj=>simp[Value.cells]at hj
theorem IE{X:Nat->Prop}{w:World}:AR X w (dM []) (.slice none 0 0):=by
 simp only[dM,jb,AR];exact⟨none,0,rfl,af _,.inl aK⟩
theorem BW{X:Nat->Prop}{w:World}(z:Int):AR X w (zI z) (.int .i64 z):=by simp only[zI,AR];exact⟨trivial,rfl⟩
theorem Gz{X:Nat->Prop}{w:World}{d1 d2:D}{u1 u2:Value}(h1:AR X w d1 u1)(h2:AR X w d2 u2):AR X w (.tp [d1,d2]) (.tuple #[u1,u2]):=by
 simp only[AR,ATp];exact⟨_,rfl,_,_,rfl,h1,_,_,rfl,h2,rfl⟩
end DW
end
section
open Go.ChangeShapes Go.WideShapes Go.ChangeAt Go.RowKit Go.Joins Go.Deep
theorem own:ownKnob Tryz.prog.godebug=none:=by kernel_rfl
theorem laidOut:laidOutB Tryz.prog=true:=by kernel_rfl
theorem NI:Tryz.prog.cellsOf 3=1:=by kernel_rfl
theorem K6:Tryz.prog.cellsOf 40=1:=by kernel_rfl
namespace DW
theorem CE{w:World}{a:Addr}{v:Value}(h:w.cell? a=some v):a=⟨a.block,a.off,none⟩:=by
 obtain⟨b,o,s⟩:=a
 cases s with
 |none=>rfl
 |some k=>
  unfold World.cell? at h;simp only at h;split at h
  ·simp at h
  ·cases h
theorem Uk{w:World}{a:Addr}{l:List Int}{cap:Nat}(hc:l.length<=cap)(h:∀i,i<l.length->w.cell? (a.add i)=some (.int .i64 (l.getD i 0))):AR (fun _=>False) w (dI l) (.slice (some a) l.length cap):=by
 simp only[dI,AR];refine⟨some a,cap,by rw[bC],by rw[bC];exact hc,?_⟩;by_cases hl:l=[]
 ·exact .inl (by rw[hl];rfl)
 ·have hp:0<l.length:=il.2 hl;have h0:w.cell? a=some (.int .i64 (l.getD 0 0)):=h 0 hp;have ha:=CE h0;refine .inr ⟨a.block,a.off,ke some ha,fun h=>h,World.block_lt_of_cell? w _ h0,ARs.mk fun i d hd=>?_⟩;rw[bW]at hd;obtain⟨z,hz,rfl⟩:=eW.1 hd;have hi:=(cB.1 hz).1;refine⟨.int .i64 z,BW z,rfl,rfl,fun j u hj=>?_⟩
  match j,hj with
  |0,hj=>
   have:u= .int .i64 z:=by simpa[Value.cells]using hj.symm
   have h1:=h i hi;rw[aG,hz]at h1;rw[this,eX,cg];rw[ha,xL]at h1;exact h1
  |j+1,hj=>simp[Value.cells]at hj
theorem Uj{w:World}{a:Addr}{m:List (List Int)}{cap:Nat}(hc:m.length<=cap)(h:∀i l,m[i]?=some l->∃u,w.cell? (a.add i)=some u/\AR (fun _=>False) w (dI l) u):AR (fun _=>False) w (dM m) (.slice (some a) m.length cap):=by
 simp only[dM,AR];refine⟨some a,cap,by rw[bC],by rw[bC];exact hc,?_⟩
 cases m with
 |nil=>exact .inl rfl
 |cons l0 m0=>
  obtain⟨u0,h0,_⟩:=h 0 l0 rfl;have ha:=CE (show w.cell? a=some u0 from h0);refine .inr ⟨a.block,a.off,ke some ha,fun h=>h,World.block_lt_of_cell? w _ (show w.cell? a=some u0 from h0),ARs.mk fun i d hd=>?_⟩;rw[bW]at hd;obtain⟨l,hl,rfl⟩:=eW.1 hd;obtain⟨u,h1,h2⟩:=h i l hl;have h3:=h2;simp only[dI,AR]at h3;obtain⟨a',c',rfl,_⟩:=h3;refine⟨_,h2,rfl,rfl,fun j u hj=>?_⟩
  match j,hj with
  |0,hj=>
   have:u= .slice a' (l.map zI).length c':=by simpa[Value.cells]using hj.symm
   rw[this,eX,cg];rw[ha,xL]at h1;exact h1
  |j+1,hj=>simp[Value.cells]at hj
end DW
set_option maxRecDepth 100000 in
theorem MV{H:Type}{enc:TypeId×Value->H}{w:World}{base:Nat}{spare:Nat->Bool}{held:Bool}{v:Value}{fuel:Nat}{x:DataW H×List MemPlace}
  (hf:DataW.trod enc Tryz.prog w base spare held fuel 22 [v]=some x):∃m:List (List Int),DW.AR (fun _=>False) w (DW.dM m) v:=by
 rcases open_slice Tryz.underlying22 hf with⟨hcs,hx⟩|⟨a,len0,cap0,m,n,D,Pl,hcs,_,hl,hm,hmm,_,hel⟩
 ·simp at hcs;subst hcs;exact⟨[],DW.IE⟩
 ·simp at hcs;subst hcs;rw[K6]at hel;have hlm:len0<=m:=by rw[hmm];split<;>omega
  obtain⟨F,hF⟩:=choose_lt (α:=List Int) (n:=len0) (p:=fun i (l:List Int)=>∃u,w.cell? (a.add i)=some u/\DW.AR (fun _=>False) w (DW.dI l) u) (fun i hi=>by
   obtain⟨cs',h1,h2⟩:=hel i aa;obtain⟨_,hlen,hc⟩:=World.cells?_some h1;have hc0:=hc 0 aa;rw[eX]at hc0;rcases open_ints Tryz.underlying40 Tryz.underlying3 NI h2 with⟨rfl,_⟩|⟨a',len',cap',zs,rfl,_,hl',_,hz,_,hcell,_⟩
   ·refine⟨[],.slice none 0 0,hc0,?_⟩;simp only[DW.dI,DW.AR];exact⟨none,0,rfl,af _,.inl rfl⟩
   ·have hzl:len'<=zs.length:=by rw[hz];split<;>omega
    have hlen:(zs.take len').length=len':=by rw[aP];omega
    have hA:=DW.Uk (w:=w) (a:=a') (l:=zs.take len') (cap:=cap') aa (fun k hk=>by
     rw[hlen]at hk;rw[hcell k aa,aG,aG,gB,ak hk])
    rw[hlen]at hA;exact⟨zs.take len',_,hc0,hA⟩)
  have hlen:((List.range len0).map F).length=len0:=by simp
  have hA:=DW.Uj (w:=w) (a:=a) (m:=(List.range len0).map F) (cap:=cap0) aa (fun i l hi=>by
   have hk:i<len0:=by simpa using(cB.1 hi).1
   rw[bW,ji hk]at hi;cases hi;exact hF i hk)
  rw[hlen]at hA;exact⟨_,hA⟩
set_option maxRecDepth 100000 in
theorem O8{H:Type}{enc:TypeId×Value->H}{w:World}{base b0:Nat}{spare:Nat->Bool}{held:Bool}{r:Reach}{v:Value}{d:DataW H}{p:List MemPlace}
  (hv:Value.okWide Tryz.prog w r b0 22 v) (h:DataW.Trod enc Tryz.prog w base spare held 22 v d p):∃m:List (List Int),DW.AR (fun _=>False) w (DW.dM m) v:=by
 obtain⟨a0,len0,cap0,rfl⟩:=okWide_slice Tryz.underlying22 hv;obtain⟨fuel,hf⟩:=h;exact MV hf
end
section
open Go.RowKit Go.BigFrame
attribute [local go_sem ↓] Go.wp_at_zero Go.wp_at_succ
def eP(dim:Int):List (List Int)->Int
 |[]=>0
 |r::t=>if(r.length:Int)=dim then(if r.any big=true then 2 else eP dim t)else 9
def lck(dim:Int)(m:List (List Int))(den:Int):Int:=if dim<1\/6<dim\/den<1\/1000000000000000<den then 2 else if 64<m.length then 8 else eP dim m
theorem pL{dim:Int}{m:List (List Int)}{k:Nat}{l:List Int}(hl:m[k]?=some l):eP dim (m.drop k)=if(l.length:Int)=dim then(if l.any big=true then 2 else eP dim (m.drop (k+1)))else 9:=by
 obtain⟨hk,rfl⟩:=cB.1 hl;rw[rh hk];rfl
set_option maxRecDepth 10000 in
theorem P5(z:Int)(w:World):
  Calls Tryz.prog 90 #[.int .i64 z] w fun e w'=>e= .returned (.bool (big z))/\Below w.heap.size w w':=by
 have WI:=ae (fun w=>zw z 1000000000000000 aa aa w);have E:Hid (big z= !(inb 1000000000000000 z)):=rfl;generalize inb 1000000000000000 z=c at*
 go_enter Tryz.func90,Tryz.ntmps90
 go_wp2_with (go_at_call 91;(with_reducible refine(WI.out _).mono ?_);rintro e w4 ⟨rfl,hb4⟩;obtain⟨g4,rfl⟩:=mob hb4;clear hb4)
 go_ret
 exact⟨by rw[E.out];rfl,by exact bel⟩
theorem G6:∀args w,(callFunc 90 args).run Tryz.prog w= .ok (.enter 90 args) w:=enters_of Tryz.func90 ai rfl
set_option maxRecDepth 10000 in
set_option maxHeartbeats 4000000 in
theorem Ae(dim den:Int)(m:List (List Int))(v:Value)(hd:I64 dim)(hd2:I64 den)(hm:m.length<=1000000000)(hr:∀r∈m,r.length<=1000000000)(w:World)(h:ZM w v m):
  Calls Tryz.prog 33 #[.agg #[.int .i64 dim,v, .int .i64 den]] w fun e w'=>e= .returned (.int .i64 (lck dim m den))/\Below w.heap.size w w':=by
 have AN:=ae (fun (r:List Int) (hr':r∈m) b c w h=>GA r b c (hr r hr') _ big G6 (fun x w=>P5 x w) w h);have H:=ae h;have E2:=ae (fun h:dim<1\/6<dim\/den<1\/1000000000000000<den=>(show lck dim m den=2 by unfold lck;rw[ak h]));have E8:=ae (fun (h:¬(dim<1\/6<dim\/den<1\/1000000000000000<den)) (h2:64<m.length)=>(show lck dim m den=8 by unfold lck;rw[ah h,ak h2]));have E0:=ae (fun (h:¬(dim<1\/6<dim\/den<1\/1000000000000000<den)) (h2:¬64<m.length)=>(show lck dim m den=eP dim m by unfold lck;rw[ah h,ah h2]));have ST:=ae (fun k l hl=>pL (dim:=dim) (m:=m) (k:=k) (l:=l) hl);have EN:Hid (∀k,m.length<=k->eP dim (m.drop k)=0):=fun k hk=>by rw[lA hk];rfl
 have HLR:Hid _:=hr;obtain⟨a,cap,rfl,_,h4⟩:=h;have H4:=ae h4;clear h4 hr;generalize hml:m.length=q at*;have HQ:=ae hml;clear hml;generalize hR:lck dim m den=R at*;clear hR;unfold I64 at hd hd2;by_cases c1:dim<1
 ·have d1:decide (dim<1)=true:=by rw[cL];exact c1
  have E:=ae (E2.out (.inl c1))
  go_enter Tryz.func33,Tryz.ntmps33
  go_wp2_with fail
  go_ret
  exact⟨by rw[E.out];rfl,by exact bel⟩
 have d1:decide (dim<1)=false:=by rw[bN];exact c1
 by_cases c2:6<dim
 ·have d2:decide (6<dim)=true:=by rw[cL];exact c2
  have E:=ae (E2.out (.inr (.inl c2)))
  go_enter Tryz.func33,Tryz.ntmps33
  go_wp2_with fail
  go_ret
  exact⟨by rw[E.out];rfl,by exact bel⟩
 have d2:decide (6<dim)=false:=by rw[bN];exact c2
 by_cases c3:den<1
 ·have d3:decide (den<1)=true:=by rw[cL];exact c3
  have E:=ae (E2.out (.inr (.inr (.inl c3))))
  go_enter Tryz.func33,Tryz.ntmps33
  go_wp2_with fail
  go_ret
  exact⟨by rw[E.out];rfl,by exact bel⟩
 have d3:decide (den<1)=false:=by rw[bN];exact c3
 by_cases c4:1000000000000000<den
 ·have d4:decide (1000000000000000<den)=true:=by rw[cL];exact c4
  have E:=ae (E2.out (.inr (.inr (.inr c4))))
  go_enter Tryz.func33,Tryz.ntmps33
  go_wp2_with fail
  go_ret
  exact⟨by rw[E.out];rfl,by exact bel⟩
 have d4:decide (1000000000000000<den)=false:=by rw[bN];exact c4
 have HN:Hid (¬(dim<1\/6<dim\/den<1\/1000000000000000<den)):=by
  show¬_;omega
 by_cases h1:64<q
 ·have h2:(64:Int)<(q:Int):=by omega
  have E:Hid (R=8):=E8.out HN.out h1
  go_enter Tryz.func33,Tryz.ntmps33
  go_wp2_with fail
  go_ret
  exact⟨by rw[E.out];rfl,by exact bel⟩
 have h2:¬(64:Int)<(q:Int):=by omega
 have E0':Hid (R=eP dim m):=E0.out HN.out h1;clear E2 E8 E0
 go_enter Tryz.func33,Tryz.ntmps33
 go_wp2_with fail
 go_loopw [32] (fun i wr=>∃k:Nat,k<=q/\i= .int .i64 ((k:Int))/\Hid (Below (w.heap.size+1) (w.alloc (.cells #[.int .i64 dim, .slice a q cap, .int .i64 den] 48)) wr)/\Hid (eP dim m=eP dim (m.drop k))) (fun i _=>q-(intOf i).toNat)
 case atStart=>exact⟨0,by omega,rfl,Below.refl _ _,rfl⟩
 case round=>
  obtain⟨k,hk,rfl,HB,HJ⟩:=hrel;have hsz:(w.alloc (.cells #[.int .i64 dim, .slice a q cap, .int .i64 den] 48)).heap.size=w.heap.size+1:=by simp
  have hsw:w.heap.size<wr.heap.size:=by have:=HB.out.size;omega
  have hB:Below w.heap.size w wr:=Below.trans (b:=w.alloc (.cells #[.int .i64 dim, .slice a q cap, .int .i64 den] 48)) ao (HB.out.mono aa);have q0:wr.cell? ⟨w.heap.size,0,none⟩=some (.int .i64 dim):=(HB.out.cell (p:=⟨w.heap.size,0,none⟩) (gV _)).trans (by go_simp);clear hsz;by_cases hkn:k<q
  ·have hkn2:(k:Int)<(q:Int):=by omega
   obtain⟨l,hl⟩:∃l,m[k]?=some l:=⟨m[k]'wR,aV _⟩;rcases H4.out with h0|⟨a0,ha,hal,hcc⟩
   ·rw[h0]at hl;simp at hl
   obtain⟨b,c,cz,_,hz⟩:=hcc k l hl;have cz2:=nv hB (af _) cz;subst ha;have HL:=ae hl;have hll:l.length<=1000000000:=HLR.out l (bj hl);have ANl:=ae (AN.out l (bj hl) b c);have HZ:=ae (hz.below hB (af _));have STl:=ae (ST.out k l hl);have HBW:=ae hB;clear hcc cz hl hz hB;generalize l.length=p at*;by_cases he:(p:Int)=dim
   ·have he2:decide ((p:Int)=dim)=true:=by rw[cL];exact he
    generalize hab:l.any big=t at*;have HT:=ae hab;clear hab;cases t
    ·have E : Hid (eP dim (m.drop k) = eP dim (m.drop (k + 1))) := by
      show _=_;rw[STl.out,ak he,ah aK]
     have HE:=ae he;subst he;clear he2
     go_wp2_with (go_at_call 89;(with_reducible refine(ANl.out _ ?_).mono ?_);(exact HZ.out.below (B:=wr.heap.size) ao (af _));rintro e w4 ⟨rfl,hb4⟩;have HB4:=ae hb4;obtain⟨g4,rfl⟩:=mob hb4;clear hb4)
     go_roundw
     case rel=>exact⟨k+1,by omega,by go_num,HB.out.trans (HB4.out.mono aa),HJ.out.trans E.out⟩
     case measure=>simp[intOf];omega
    ·have E : Hid (R = 2) := by
      show _=_;rw[E0'.out,HJ.out,STl.out,ak he,ak rfl]
     subst he;clear he2
     go_wp2_with (go_at_call 89;(with_reducible refine(ANl.out _ ?_).mono ?_);(exact HZ.out.below (B:=wr.heap.size) ao (af _));rintro e w4 ⟨rfl,hb4⟩;have HB4:=ae hb4;obtain⟨g4,rfl⟩:=mob hb4;clear hb4)
     go_ret
     exact⟨by rw[E.out];rfl,HBW.out.trans (HB4.out.mono aa)⟩
   ·have E : Hid (R = 9) := by
     show _=_;rw[E0'.out,HJ.out,STl.out,ah he]
    go_wp2_with fail
    go_ret
    exact⟨by rw[E.out];rfl,HBW.out⟩
  ·obtain rfl:k=q:=by omega
   have hkn2:¬(k:Int)<(k:Int):=by omega
   have E:Hid (R=0):=by
    show _=_;rw[E0'.out,HJ.out,EN.out k (af _)]
   go_wp2_with fail
   go_ret
   exact⟨by rw[E.out];rfl,hB⟩
end
end Go.Proofs.YtcgjmdpcplhanaaGreat
