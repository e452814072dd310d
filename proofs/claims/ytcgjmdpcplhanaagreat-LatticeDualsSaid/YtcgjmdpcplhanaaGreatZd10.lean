/- Lemmas for the law: DF V20 M8 -/
import Derived.Test.YtcgjmdpcplhanaaGreatZd9
namespace Go.Proofs.YtcgjmdpcplhanaaGreat
section
open Go.RowKit
namespace DW
section
variable {P : Program} {X0 : Nat->Prop} {n : Nat} {sl : List (Nat × D)} {ow : List (Nat × Ow)} {o : Oper} {ops : Array Oper} {l : List Oper} {K : S->Prop} {t : Nat} {d : D} {fs : List FP}
theorem Ob{T:TypeId}{k wd:Nat}{z:Value}(hdst:o.dst=some t)(ht:Nat.blt t n=true)(ho:o.op= .alloc T)(hk:∀p∈ow,p.1≠k)
  (hz:(P.info? T).map (fun i=>i.zero)=some (some z)) (hd:cst z=d) (hf:d.fits=true) (hw:d.wd=wd) (h0:Nat.blt 0 wd=true) (hn:d.nw=true) (hk0:Nat.blt k 1000000=true) {w0:Bs} {w:World} {f:Nat->Value} {a:Act} (hh:Hd X0 n w0 ⟨sl,ow⟩ f a w) (Qx:Exit->Act->World->Prop):
  o.wp P a w (fun a' w'=>∃f',Hd X0 n w0 ⟨(t,.opt k 0)::kill k sl,(k,⟨T,wd,[d]⟩)::ow⟩ f' a' w') Qx:=by
 subst hw;subst hd
 cases hq:P.info? T with
 |none=>rw[hq]at hz;cases hz
 |some inf=>
  rw[hq]at hz;simp only[cw,an]at hz;have hsz:z.cells.size=(cst z).wd:=AR.size (X:=XO X0 ⟨sl,ow⟩ f) (w:=w) _ _ hf (by
   have:=jD (X:=XO X0 ⟨sl,ow⟩ f) (f:=f) (w:=w) z;cases hc:cst z<;>rw[hc]at this hf<;>first|exact this|simp[D.fits]at hf)
  have h0':0<(cst z).wd:=by simpa[bs]using h0
  have hAR:AR (XO X0 ⟨sl,ow⟩ f) w (cst z) z:=by
   have:=jD (X:=XO X0 ⟨sl,ow⟩ f) (f:=f) (w:=w) z;cases hc:cst z<;>rw[hc]at this hf<;>first|exact this|simp[D.fits]at hf
  have hrun:(execOp a.eval o).run P w= .ok (.value (.pointer (some ⟨w.heap.size,0,none⟩))) (w.alloc (.cells z.cells T)):=by
   unfold execOp;simp only[ho];simp[Instr.alloc,zeroValue,typeInfo,hq,hz,newVar,newRow]
  unfold Oper.wp;rw[hrun];simp only[Oper.upon,hdst];refine⟨_,hh.new (k:=k) (cap:=1) (q:=⟨T,(cst z).wd,[cst z]⟩) hk hk0 h0' (af _) (by simp[maxLen]) (by simpa using hsz) ⟨z,[],?_,hAR,hf,rfl,hn,rfl⟩ (.inl aK) yi (fun X=>?_)⟩
  ·simp only[ff,cR,lz];rw[cj (by simp[hsz])]
  ·simp only[SR,if_true];exact⟨w.heap.size,1,1,rfl,rfl⟩
theorem N9{x y:Operand}{T tt:TypeId}{k off wd i:Nat}{lo:List D}(hdst:o.dst=none)(ho:o.op= .store tt x y)(hx:S.op ⟨sl,ow⟩ x= .opt k off)(hy:S.op ⟨sl,ow⟩ y=d)(hk:(k,(⟨T,wd,lo⟩:Ow))∈ow)
  (hoff:off=i*wd) (hi:i<lo.length) (hf:d.fits=true) (hw:d.wd=wd) (hn:d.nw=true) (hz:(P.info? tt).map (·.size)=some wd) (hkh:hdr k=false) {w0:Bs} {w:World} {f:Nat->Value} {a:Act} (hh:Hd X0 n w0 ⟨sl,ow⟩ f a w) (Qx:Exit->Act->World->Prop):
  o.wp P a w (fun a' w'=>∃f',Hd X0 n w0 ⟨sl,cJ k i d ow⟩ f' a' w') Qx:=by
 subst hoff;subst hw;have h1:=hh.op x;have h2:=hh.op y;rw[hx]at h1;rw[hy]at h2;simp only[SR]at h1;obtain⟨g,n',c',e1,e2⟩:=h1;have hAR:AR (XO X0 ⟨sl,ow⟩ f) w d (a.eval y):=by cases d<;>first|exact h2|simp[D.fits]at hf
 have hsz:=AR.size _ _ hf hAR;obtain⟨hw0,xs,⟨hxl,h10⟩,h11'⟩:=hh.ow _ hk;have h11:=h11'.pl hkh;simp only at h10 h11 hw0 hxl;rcases h10 with⟨h12,_⟩|⟨g',cap,cur,h12,hb,hgg,hle,hm,hcs,htk⟩
 ·rw[e1]at h12;cases h12
 rw[e1]at h12;cases h12;have hlt:i*d.wd+d.wd<=lo.length*d.wd:=by
  have:=cZ d.wd (show i+1<=lo.length by omega);rw[cq,cR]at this;exact this
 have hle2:lo.length*d.wd<=c'*d.wd:=cZ _ hle
 cases hq:P.info? tt with
 |none=>rw[hq]at hz;cases hz
 |some inf=>
  rw[hq]at hz;simp only[cw,an]at hz;have hst:=run_storeCells_at (P:=P) g (i*d.wd) T (a.eval y).cells.toList 0 cur w hgg (by simp only[cf,cg];omega) (AR.one _ _ hf hAR);have hrun:(execOp a.eval o).run P w= .ok .skip (w.setRow g (cur.toList.take (i*d.wd)++(a.eval y).cells.toList++cur.toList.drop (i*d.wd+d.wd)).toArray):=by
   unfold execOp;simp only[ho,Instr.storeAt,Instr.sureAddr,e2,storeVar,sizeOf,typeInfo];simp only[cg,cf,hsz]at hst;simp[hq,hz,hsz,hst]
  unfold Oper.wp;rw[hrun];simp only[Oper.upon,hdst,Act.put];have hgrow:w.grownBy (w.setRow g (cur.toList.take (i*d.wd)++(a.eval y).cells.toList++cur.toList.drop (i*d.wd+d.wd)).toArray) (f k).ownBlock:=⟨rfl,rfl,rfl,by simp,fun b _ hb=>setRow_other w g b _ (fun e=>hb (by simp[e1,Value.ownBlock,e]))⟩;have hclen:cur.toList.length=c'*d.wd:=by simp[hcs]
  refine⟨f,hh.set (k:=k) (i:=i) (q:=⟨T,d.wd,lo⟩) (d:=d) (xs:=(cur.toList.take (i*d.wd)++(a.eval y).cells.toList++cur.toList.drop (i*d.wd+d.wd)).take (lo.length*d.wd)) hk hi hgrow ⟨?_,.inr ⟨g,c',_,e1,hb,setRow_heap w g cur _ T _ hgg,hle,hm,?_,?_⟩⟩ ?_⟩
  ·simp only[aP,cI,eM,cf,hsz,hcs];omega
  ·simp only[mS,cI,aP,eM,cf,hsz,hcs];omega
  ·simp only[qj]
  ·
   have key:∀(lo:List D) (i:Nat) (ys:List Value),Els (XO X0 ⟨sl,ow⟩ f) w d.wd lo ys->i<lo.length->Els (XO X0 ⟨sl,ow⟩ f) w d.wd (lo.set i d) (ys.take (i*d.wd)++(a.eval y).cells.toList++ys.drop (i*d.wd+d.wd)):=fun lo=>by
    induction lo with
    |nil=>intro i ys _ hi;simp at hi
    |cons d0 lo ih=>
     intro i ys ⟨u,rest,k1,k2,k3,k4,k5,k6⟩ hi;have hu:=AR.size d0 u k3 k2;have hul:u.cells.toList.length=d.wd:=by rw[cf,hu,k4]
     match i with
     |0=>
      simp only[dB,kY,dv,gj,bn];refine⟨a.eval y,rest,?_,hAR,hf,rfl,hn,k6⟩;rw[k1,sT aa,lA aa,gj]
     |i+1=>
      simp only[gC];refine⟨u,_,?_,k2,k3,k4,k5,ih i rest k6 (by simpa using hi)⟩;rw[k1,show(i+1)*d.wd=d.wd+i*d.wd by rw[cq,cR,mO],List.take_append,cj aa,hul,wU,gW,gW,gW,
       List.drop_append,lA aa,gj,hul,show d.wd+i*d.wd+d.wd-d.wd=i*d.wd+d.wd by omega]
   have h13:=key lo i xs h11 hi;have e0:cur.toList=xs++cur.toList.drop (lo.length*d.wd):=by rw[<-htk];exact(pF _ _).symm
   have e5:(cur.toList.take (i*d.wd)++(a.eval y).cells.toList++cur.toList.drop (i*d.wd+d.wd)).take (lo.length*d.wd)=List.take (i*d.wd) xs++(a.eval y).cells.toList++List.drop (i*d.wd+d.wd) xs:=by
    have a1:cur.toList.take (i*d.wd)=xs.take (i*d.wd):=by rw[<-htk,List.take_take,dp aa]
    have a2:cur.toList.drop (i*d.wd+d.wd)=xs.drop (i*d.wd+d.wd)++cur.toList.drop (lo.length*d.wd):=by
     have:=ke (List.drop (i*d.wd+d.wd)) e0;rw[sT aa]at this;exact this
    rw[a1,a2,<-gW,List.take_left' zb57]
   rw[e5];exact EE.of h13 hkh
theorem Pq{x:Operand}(hx:x∈o.op.operands){u:Nat}(e:x= .tmp u):u∈CI.looks ops o:=by
 subst e;unfold CI.looks;exact List.mem_append_right _ (List.mem_filterMap.2 ⟨.tmp u,by simpa using hx,rfl⟩)
theorem Pr{j u:Nat}{c:Bool}(hg:o.guard=some (j,c))(hj:(ops[j]?).bind (·.dst)=some u):u∈CI.looks ops o:=by
 unfold CI.looks;rw[hg];simp only[hj];exact List.mem_append_left _ aK
section
variable {f : FP} {sj σ : S}
theorem uW.op(ag:uW ops o f sj σ){x:Operand}(hx:x∈o.op.operands):σ.op x=sj.op x:=by
 cases x with
 |tmp u=>exact ag.sl u (Pq hx rfl)
 |const v=>rfl
 |global g=>rfl
 |func g=>rfl
theorem uW.eO(ag:uW ops o f sj σ){b:Bool}(h:eO ops [] sj o b):eO ops [] σ o b:=by
 unfold DW.eO at h⊢
 cases hg:o.guard with
 |none=>rw[hg]at h;exact h
 |some p=>
  obtain⟨j,c⟩:=p;rw[hg]at h;simp only at h⊢;obtain⟨t,e,h1,h2,h3,h4⟩:=h;exact⟨t,e,h1,h2,by rw[ag.sl t (Pr hg h1)];exact h3,h4⟩
theorem uW.TM(ag:uW ops o f sj σ){k:Nat}{q:Ow}(hk:k∈f.rc)(h:(k,q)∈sj.ow):(k,q)∈σ.ow:=by
 have:=pY.2 h;rw[<-ag.rc k hk]at this;exact pY.1 this
theorem uW.Hi(ag:uW ops o f sj σ){k:Nat}{q:Ow}(hk:k∈f.rs\/k∈f.wc)(h:(k,q)∈sj.ow):∃l',l'.length=q.l.length/\(k,(⟨q.T,q.wd,l'⟩:Ow))∈σ.ow:=by
 have h1:(q.T,q.wd,q.l.length)∈shp k sj.ow:=dw.2 ⟨(k,q),pY.2 h,rfl⟩;rw[<-ag.rs k hk]at h1;obtain⟨⟨k',q'⟩,h2,h3⟩:=dw.1 h1;have:=Is h2;simp only at this;subst this;simp only[aR]at h3;refine⟨q'.l,h3.2.2,?_⟩;rw[<-h3.1,<-h3.2.1];exact pY.1 h2
theorem xf{w0:Bs}{w:World}{g:Nat->Value}{a:Act}(hh:Hd X0 n w0 σ g a w){b:Bool}(h:eO ops [] σ o b):Region.wanted o (yielded ops a.tmps)=b:=by
 have hi:HI (XO X0 σ g) n w g Own3.Fs.none [] σ a:=⟨hh.sz,hh.df,fun t _=>hh.sl t,fun t u e=>by simp[gD]at e⟩;exact hi.want h
end
theorem MN{f:FP}{own:List (Nat×Ow)}(hw:eO ops [] ⟨sl,ow⟩ o true)(ht:dc n o=true)(hd:bI P o ⟨sl,own⟩ d)(ho:∀p∈own,p∈ow/\p.1∈f.rc):MS P X0 n ops o ⟨sl,ow⟩ (.val d) f:=fun σ ag w0 g a w hh Qx=>by
 rw[ak (xf hh (ag.eO hw))];have hD:bI P o σ d:=fun X f' a w base hX how hs=>hd X f' a w base hX (fun p hp=>by
  obtain⟨k,q⟩:=p;obtain⟨h1,h2⟩:=ho _ hp;exact how _ (ag.TM h2 h1)) (fun x hx=>by
  have h1:=hs x hx;rw[ag.op hx]at h1;cases x<;>exact h1)
 exact Oper.wp_mono (fun a' w' h=>⟨g,h⟩) (pG hD hh ht)
def D.vT:D->List Nat
 | .own k=>[k]
 | .opt k _=>[k]
 |_=>[]
theorem xw{d:D}{k:Nat}(h:d.is k=true):k∈d.vT:=by
 cases d<;>simp[D.is]at h<;>simp[D.vT,h]
def Dp:List (Nat×Ow)->List Nat
 |[]=>[]
 |(k,_)::l=>k::Dp l
theorem Cn{p:Nat×Ow}:∀{l:List (Nat×Ow)},p∈l->p.1∈Dp l
 |(k,q)::l,h=>by
  rcases bP.1 h with e|e
  ·subst e;exact bF
  ·exact bJ _ (Cn e)
theorem Gf(hdst:o.dst=some t)(ht:Nat.blt t n=true):dc n o=true:=by
 unfold dc;rw[hdst];simpa[bs]using ht
theorem oQ{b:Bool}{s:S}(hg:o.guard=none)(hb:b=true):eO ops [] s o b:=by
 unfold eO;rw[hg];exact hb
theorem VA(h:K ⟨sl,ow⟩):aM P X0 n ops [] ⟨sl,ow⟩ [] K:=⟨rfl,h⟩
theorem vY:ko [] sl=sl:=rfl
theorem uA{k:Nat}{ks:List Nat}{sl1 sl2:List (Nat×D)}(h1:ko ks sl=sl1)(h2:kill k sl1=sl2):ko (k::ks) sl=sl2:=by
 subst h1;exact h2
theorem aWmix{id:Nat}{Q:Exit->S->Prop}{sl':List (Nat×D)}(ks:List Nat){fps:List FP}(hm:P.follows .mixedOrders=true)(hs:ko ks sl=sl')(h:aM P X0 n l.toArray l ⟨sl',ow⟩ fps (Q .normal))(hc:vR l.toArray n ks fps=true):aW P X0 n (.region id l.toArray true) Q ⟨sl,ow⟩:=by
 subst hs;exact Vy ks hm h hc
theorem aM1(hg:o.guard=none)(hdst:o.dst=some t)(ht:Nat.blt t n=true)(hd:bI P o ⟨sl,[]⟩ d)(h:aM P X0 n ops l ⟨(t,d)::sl,ow⟩ fs K):aM P X0 n ops (o::l) ⟨sl,ow⟩ (⟨[],[],[],[],d.vT⟩::fs) K:=
 ⟨_,fs,.val d,rfl,fun _ hk=>xw hk,MN (oQ hg rfl) (Gf hdst ht) hd (fun p hp=>by cases hp),by rw[hdst];exact h⟩
theorem aM1o(hg:o.guard=none)(hdst:o.dst=some t)(ht:Nat.blt t n=true)(hd:bI P o ⟨sl,ow⟩ d)(h:aM P X0 n ops l ⟨(t,d)::sl,ow⟩ fs K):aM P X0 n ops (o::l) ⟨sl,ow⟩ (⟨Dp ow,[],[],[],d.vT⟩::fs) K:=
 ⟨_,fs,.val d,rfl,fun _ hk=>xw hk,MN (oQ hg rfl) (Gf hdst ht) hd (fun p hp=>⟨hp,Cn hp⟩),by rw[hdst];exact h⟩
theorem Us{x i:Operand}{tt T:TypeId}{k wd:Nat}{lo:List D}{q:IntKind}{z:Int}{off:Nat}(hg:o.guard=none)(hdst:o.dst=some t)(ht:Nat.blt t n=true)(ho:o.op= .indexAddr tt x i)(hx:S.op ⟨sl,ow⟩ x= .own k)(hi:S.op ⟨sl,ow⟩ i= .sc (.int q z))(hk:(k,(⟨T,wd,lo⟩:Ow))∈ow)
  (htt:P.underlying tt=some (.slice (P.elem tt))) (hz:(P.info? (P.elem tt)).map (·.size)=some wd) (hn:0<=z/\z<lo.length) (hoff:z.toNat*wd=off) (h:aM P X0 n ops l ⟨(t,.opt k off)::sl,ow⟩ fs K):aM P X0 n ops (o::l) ⟨sl,ow⟩ (⟨[],[k],[],[],[k]⟩::fs) K:=
 ⟨_,fs,.val (.opt k off),rfl,fun k' hk=>by have:=xw hk;simpa[D.vT]using this,fun σ ag w0 g a w hh Qx=>by
  rw[ak (xf hh (ag.eO (oQ hg rfl)))];obtain⟨l',e1,e2⟩:=ag.Hi (k:=k) (.inl (bU.2 rfl)) hk;have h1:σ.op x= .own k:=by rw[ag.op bV];exact hx
  have h2:σ.op i= .sc (.int q z):=by rw[ag.op bV];exact hi
  exact Oper.wp_mono (fun a' w' h=>⟨g,h⟩) (pG (jT ho h1 h2 e2 htt hz (by rw[e1];exact hn) hoff) hh (Gf hdst ht)),by rw[hdst];exact h⟩
theorem Ut{T:TypeId}{k wd:Nat}{z:Value}(hg:o.guard=none)(hdst:o.dst=some t)(ht:Nat.blt t n=true)(ho:o.op= .alloc T)(hk:ow.all (fun p=> !Nat.beq p.1 k)=true)
  (hz:(P.info? T).map (fun i=>i.zero)=some (some z)) (hd:cst z=d) (hf:d.fits=true) (hw:d.wd=wd) (h0:Nat.blt 0 wd=true) (hn:d.nw=true)
  (h:aM P X0 n ops l ⟨(t, .opt k 0)::sl,(k,⟨T,wd,[d]⟩)::ow⟩ fs K) (hk0:Nat.blt k 1000000=true:=by exact rfl):aM P X0 n ops (o::l) ⟨sl,ow⟩ (⟨[],[],[],[k],[]⟩::fs) K:=
 ⟨_,fs, .alloc k ⟨T,wd,[d]⟩ (.opt k 0),rfl,⟨bU.2 rfl,fun k' hk=>by have:=xw hk;simpa[D.vT]using this⟩,fun σ ag w0 g a w hh Qx=>by
  rw[ak (xf hh (ag.eO (oQ hg rfl)))];obtain⟨e1,e2⟩:=ag.al k (bU.2 rfl);have hfr:∀p∈σ.ow,p.1≠k:=fun p hp e=>by
   obtain⟨k',q⟩:=p;simp only at e;subst e;have h1:=pY.2 hp;rw[e1]at h1;exact nZ hk _ (pY.1 h1) rfl
  have hl:∀u,look (kill k σ.sl) u=look σ.sl u:=fun u=>by
   rcases kJ k σ.sl u with⟨h1,_⟩|h1
   ·exact h1
   ·have key : ∀ (r : List (Nat × D)), (look r u).is k = false -> look (kill k r) u = look r u := fun r => by
     induction r with
     |nil=>intro _;rfl
     |cons p r ih=>
      obtain⟨v,d'⟩:=p;intro hh;simp only[kill,look]at hh⊢;split
      ·next e=>rw[ak e]at hh;rw[hh]
      ·next e=>rw[ah e]at hh;exact ih hh
    exact key σ.sl (e2 u)
  refine Oper.wp_mono (fun a' w' ⟨f',h⟩=>⟨f',h.eqv ⟨fun u=>?_, .refl _⟩⟩) (Ob (k:=k) hdst ht ho hfr hz hd hf hw h0 hn hk0 hh Qx);rw[hdst];show look ((t, .opt k 0)::kill k σ.sl) u=look ((t, .opt k 0)::σ.sl) u;simp only[look];split
  ·rfl
  ·exact hl u,by rw[hdst];exact h⟩
theorem Ur{x y:Operand}{T tt:TypeId}{k off wd i:Nat}{lo:List D}{ow':List (Nat×Ow)}(hg:o.guard=none)(hdst:o.dst=none)(ho:o.op= .store tt x y)(hx:S.op ⟨sl,ow⟩ x= .opt k off)(hy:S.op ⟨sl,ow⟩ y=d)(hk:(k,(⟨T,wd,lo⟩:Ow))∈ow)
  (hoff:off=i*wd) (hi:i<lo.length) (hf:d.fits=true) (hw:d.wd=wd) (hn:d.nw=true) (hz:(P.info? tt).map (·.size)=some wd) (hs:cJ k i d ow=ow')
  (h:aM P X0 n ops l ⟨sl,ow'⟩ fs K) (hkh:hdr k=false:=by exact rfl):aM P X0 n ops (o::l) ⟨sl,ow⟩ (⟨[],[],[k],[],[]⟩::fs) K:=
 ⟨_,fs,.store k i d,rfl,bU.2 rfl,fun σ ag w0 g a w hh Qx=>by
  rw[ak (xf hh (ag.eO (oQ hg rfl)))];obtain⟨l',e1,e2⟩:=ag.Hi (k:=k) (.inr (bU.2 rfl)) hk;have h1:σ.op x= .opt k off:=by rw[ag.op bV];exact hx
  have h2:σ.op y=d:=by rw[ag.op bV];exact hy
  exact N9 hdst ho h1 h2 e2 hoff (by rw[e1];exact hi) hf hw hn hz hkh hh Qx,by subst hs;exact h⟩
def aN(P:Program)(X0:Nat->Prop)(n:Nat)(ops:Array Oper)(ks:List Nat)(l:List Oper)(s:S)(acc:List FP)(K:S->Prop):Prop:=∃fps,aM P X0 n ops l s fps K/\vR ops n ks (acc.reverse++fps)=true
section
variable {ks : List Nat} {acc : List FP}
theorem AE{s s':S}{f:FP}(hs:∀fs,aM P X0 n ops l s' fs K->aM P X0 n ops (o::l) s (f::fs) K)(h:aN P X0 n ops ks l s' (f::acc) K):aN P X0 n ops ks (o::l) s acc K:=by
 obtain⟨fps,h1,h2⟩:=h;exact⟨f::fps,hs fps h1,by simpa using h2⟩
theorem Vz(hc:vR ops n ks acc.reverse=true)(h:K ⟨sl,ow⟩):aN P X0 n ops ks [] ⟨sl,ow⟩ acc K:=⟨[],VA h,by simpa using hc⟩
theorem wz{id:Nat}{Q:Exit->S->Prop}{sl':List (Nat×D)}(ks:List Nat)(hm:P.follows .mixedOrders=true)(hs:ko ks sl=sl')(h:aN P X0 n l.toArray ks l ⟨sl',ow⟩ [] (Q .normal)):aW P X0 n (.region id l.toArray true) Q ⟨sl,ow⟩:=by
 obtain⟨fps,h1,h2⟩:=h;exact aWmix ks hm hs h1 h2
theorem aN1(hg:o.guard=none)(hdst:o.dst=some t)(ht:Nat.blt t n=true)(hd:bI P o ⟨sl,[]⟩ d)(h:aN P X0 n ops ks l ⟨(t,d)::sl,ow⟩ (⟨[],[],[],[],d.vT⟩::acc) K):aN P X0 n ops ks (o::l) ⟨sl,ow⟩ acc K:=AE (fun _ h=>aM1 hg hdst ht hd h) h
theorem mn(hg:o.guard=none)(hdst:o.dst=some t)(ht:Nat.blt t n=true)(hd:bI P o ⟨sl,ow⟩ d)(h:aN P X0 n ops ks l ⟨(t,d)::sl,ow⟩ (⟨Dp ow,[],[],[],d.vT⟩::acc) K):aN P X0 n ops ks (o::l) ⟨sl,ow⟩ acc K:=AE (fun _ h=>aM1o hg hdst ht hd h) h
theorem BX{x i:Operand}{tt T:TypeId}{k wd:Nat}{lo:List D}{q:IntKind}{z:Int}{off:Nat}(hg:o.guard=none)(hdst:o.dst=some t)(ht:Nat.blt t n=true)(ho:o.op= .indexAddr tt x i)(hx:S.op ⟨sl,ow⟩ x= .own k)(hi:S.op ⟨sl,ow⟩ i= .sc (.int q z))(hk:(k,(⟨T,wd,lo⟩:Ow))∈ow)
 (htt:P.underlying tt=some (.slice (P.elem tt))) (hz:(P.info? (P.elem tt)).map (·.size)=some wd) (hn:0<=z/\z<lo.length) (hoff:z.toNat*wd=off) (h:aN P X0 n ops ks l ⟨(t,.opt k off)::sl,ow⟩ (⟨[],[k],[],[],[k]⟩::acc) K):aN P X0 n ops ks (o::l) ⟨sl,ow⟩ acc K:=AE (fun _ h=>Us hg hdst ht ho hx hi hk htt hz hn hoff h) h
theorem qd{T:TypeId}{k wd:Nat}{z:Value}(hg:o.guard=none)(hdst:o.dst=some t)(ht:Nat.blt t n=true)(ho:o.op= .alloc T)(hk:ow.all (fun p=>!Nat.beq p.1 k)=true)
 (hz:(P.info? T).map (fun i=>i.zero)=some (some z)) (hd:cst z=d) (hf:d.fits=true) (hw:d.wd=wd) (h0:Nat.blt 0 wd=true) (hn:d.nw=true)
 (h:aN P X0 n ops ks l ⟨(t,.opt k 0)::sl,(k,⟨T,wd,[d]⟩)::ow⟩ (⟨[],[],[],[k],[]⟩::acc) K) (hk0:Nat.blt k 1000000=true:=by exact rfl):aN P X0 n ops ks (o::l) ⟨sl,ow⟩ acc K:=AE (fun _ h=>Ut hg hdst ht ho hk hz hd hf hw h0 hn h hk0) h
theorem xN{x y:Operand}{T tt:TypeId}{k off wd i:Nat}{lo:List D}{ow':List (Nat×Ow)}(hg:o.guard=none)(hdst:o.dst=none)(ho:o.op= .store tt x y)(hx:S.op ⟨sl,ow⟩ x= .opt k off)(hy:S.op ⟨sl,ow⟩ y=d)(hk:(k,(⟨T,wd,lo⟩:Ow))∈ow)
 (hoff:off=i*wd) (hi:i<lo.length) (hf:d.fits=true) (hw:d.wd=wd) (hn:d.nw=true) (hz:(P.info? tt).map (·.size)=some wd) (hs:cJ k i d ow=ow')
 (h:aN P X0 n ops ks l ⟨sl,ow'⟩ (⟨[],[],[k],[],[]⟩::acc) K) (hkh:hdr k=false:=by exact rfl):aN P X0 n ops ks (o::l) ⟨sl,ow⟩ acc K:=AE (fun _ h=>Ur hg hdst ho hx hy hk hoff hi hf hw hn hz hs h hkh) h
end
end
end DW
end
section
open Go.RowKit Go.BigFrame
attribute [local go_sem ↓] Go.wp_at_zero Go.wp_at_succ
namespace Mx
theorem vM{n e:Nat}(he:6<=e):∀(k c r:Nat) (M:Mx.Mat),Mx.Rc n M->Mx.Bd (2^(e*11^c)) M->Mx.Bd (2^(e*11^(c+k))) (Mx.red k c (r,M)).2
 |0,_,_,_,_,hb=>hb
 |k+1,c,r,M,hr,hb=>by
  by_cases h:r<M.length
  ·rw[Mx.EV h];have h1:=Mx.He (c:=c) hr h (eH aa) hb;have h2:=((Mx.xi (c:=c) hr h).1).rc hr;have h3:=vM he k (c+1) (Mx.step r c M).1 (Mx.step r c M).2 h2 (h1.mono (aH (Mx.zU (aH he (jI e (eH aa)))) (Nat.le_of_eq (by rw[Mx.e11]))));rw[show c+(k+1)=c+1+k by omega];exact h3
  ·rw[Mx.uk h];exact hb.mono (cH aa (dR e (cH aa aa)))
end Mx
theorem at_mem(M:Mx.Mat)(i j:Nat):Mx.at' M i j=0\/∃r∈M,Mx.at' M i j∈r:=by
 unfold Mx.at' Mx.rw;rw[aG,aG]
 cases h:M[i]? with
 |none=>left;simp
 |some r=>
  simp only[ly]
  cases h2:r[j]? with
  |none=>left;simp
  |some z=>right;exact⟨r,bj h,by simpa using bj h2⟩
theorem wq{m:List (List Int)}(h:chk m=0):m.length<=64/\wid m<=64/\Mx.Rc (wid m) m/\∀r∈m,∀z∈r,z.natAbs<=1000000000000000:=by
 unfold chk at h;split at h
 ·rename_i h1;split at h
  ·cases h
  ·rename_i h2;split at h
   ·cases h
   ·rename_i h3;refine⟨by omega,by omega,fun r hr=>by simpa using du.1 h1 r hr,fun r hr z hz=>?_⟩;have h4:¬big z=true:=fun e=>h3 (gT.2 ⟨r,hr,gT.2 ⟨z,hz,e⟩⟩);unfold big inb at h4;simp at h4;omega
 ·cases h
def HT(m:Mx.Mat):Nat×Mx.Mat:=Mx.red (wid m) 0 (0,extM m)
theorem e50{n:Nat}(h:n<=10):2*(50*11^n)<=6000000000000:=by
 have:11^n<=11^10:=cH aa h;have e:11^10=25937424601:=by decide
 omega
end
section
namespace Mx
theorem NC{n r c:Nat}{M:Mat}(h:Rc n M):fi r c M=M\/at' (fi r c M) r c≠0:=by
 have piv:∀{N:Mat} {t:Nat},(pick r c N).1=some t->r<N.length/\t<N.length/\at' (swp N r t) r c≠0:=fun {N t} ht=>by
  obtain⟨k1,k2,k3,_⟩:=(gO c r N (N.length-r)).yes t ht;refine⟨by omega,by omega,?_⟩;rw[di aa aa];split
  ·next e=>rw[e];exact k3
  ·rw[ak rfl];exact k3
 refine yN (n:=n) (r:=r) (c:=c) (fun N=>N=M\/at' N r c≠0) (fun N hN _ t ht h2=>.inr ?_) (fun N=>N=M\/at' N r c≠0) (fun N _ hq _=>hq) (fun N hN _ t ht _=>.inr (piv ht).2.2) _ M rfl h (.inl rfl);obtain⟨hr,htl,hp⟩:=piv ht;unfold elim at';rw[fL _ _ _ _ _ (by rw[dK];omega),ah aa];exact hp
end Mx
end
end Go.Proofs.YtcgjmdpcplhanaaGreat
