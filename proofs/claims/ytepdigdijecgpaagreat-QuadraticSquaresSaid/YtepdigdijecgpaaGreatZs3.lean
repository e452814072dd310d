/- Lemmas for the law: Q5 Q6 Q7 Q8 Q9 Q10 Q11 Q12 Q13 Q14 Q15 Q16 Q17 Q18 Q19 Q20 DB DC DF DH DI DL DO DY DZ0 DZ F3 Q21 Q22 Q23 Q24 -/
import Derived.Laws.Slices
import Derived.Lib.AppendZerosOnto
import Derived.RangeFuncIn
import Derived.RangeFuncCalls
import Derived.OrdersIn
import Derived.DefersIn
import Derived.RangeFuncLeaves
import Derived.RangeFuncRecord
import Derived.Shelf.Abstract
import Derived.Test.YtepdigdijecgpaaGreatDel
import Derived.Test.YtepdigdijecgpaaGreatZs2
namespace Go.Proofs.YtepdigdijecgpaaGreat
section
abbrev jN:=@List.size_toArray
abbrev rA:=@List.take_append_of_le_length
abbrev og:=@List.toList_toArray
abbrev gU:=@List.length_nil
abbrev iE:=@Nat.ble_eq_true_of_le
abbrev oe:=@List.map_congr_left
abbrev rz:=@Bool.and_eq_false_iff
abbrev fV:=@Nat.min_eq_right
abbrev jM:=@Nat.lt_succ_iff_lt_or_eq
abbrev lj:=@Array.getElem?_eq_getElem
abbrev ry:=@Nat.lt_or_gt_of_ne
theorem zs9{p q:Prop}(h:q)(f:Wq q->p:=by(intro hW;(refine aL1 rfl rfl rfl (by(apply kT;(exact rfl);(exact jZ))) ?_);exact hW.out)):p:=f ⟨h⟩
theorem py{p q:Prop}(h:q)(f:Wq q->p:=by(intro hW;(refine gar ?_;refine zs9 ?_;refine aS ?_);exact hW.out)):p:=f ⟨h⟩
theorem zb16{p:Prop}(h:p:=by first|exact rfl|(apply si;intro _;exact rfl)|(apply nw_take;apply si;intro _;exact rfl)|(apply nw_drop;apply si;intro _;exact rfl)|(simp[D.nw];done)):p:=h
theorem rn{p:Prop}(h:p:=by(apply aw;(conv=>lhs;whnf);(first|done|exact rfl))):p:=h
theorem zb27{p:Prop}(h:p:=by(repeat(first|exact Aa|apply Ab|(apply yd;(exact rfl))))):p:=h
theorem rp{p:Prop}(h:p:=by(repeat(first|exact ba|refine bh _ ?_))):p:=h
theorem da{p q:Prop}(h:q)(f:Wq q->p:=by(intro hW;(refine fQ ?_;refine zs1 ?_);exact hW.out)):p:=f ⟨h⟩
theorem kf{p:Prop}(h:p:=by rw[ho,hy];simp[Op.operands]):p:=h
theorem zs10{p q:Prop}(h:q)(f:Wq q->p:=by(intro hW;((apply aW_no;(focus(first|(apply aw;(conv=>lhs;whnf);(first|done|exact rfl))|with_reducible exact bD|with_reducible exact gF|with_reducible exact jZ|exact op_zero));(focus(first|with_reducible rfl|(apply aN;omega)|assumption|(simp<;>omega)))));exact hW.out)):p:=f ⟨h⟩
theorem aM{p q:Prop}(h:q)(f:Wq q->p:=by(intro hW;(refine zs1 ?_;refine zs10 ?_;refine zs1 ?_);exact hW.out)):p:=f ⟨h⟩
theorem ri{p:Prop}(h:p:=by unfold at';rw[aB rfl]):p:=h
theorem pG{p:Prop}(h:p:=by(repeat(first|exact yQ|(apply xu;(exact rfl))|(apply yR;(exact rfl))))):p:=h
end
section
open Go.RowKit
namespace CI
variable {P : Program} {A : Nat->Prop} {ρ : Nat->Nat} {w : World} {tm : Tm} {a : Act} {o : Oper} {next : Nat} {c : C} {ob : Option B}
theorem Ce{k k':IntKind}(h:ikB k k'=true):k=k':=by cases k<;>cases k'<;>simp_all [ikB]
theorem not_neg{q:Int}(h:isNeg q=false):¬q<0:=by
 cases q with
 |ofNat n=>simp
 |negSucc n=>simp[isNeg]at h
theorem VR.int{k:IntKind}{p:Int}{u:Value}(h:VR P A ρ w (.sc (.int k p)) u):u= .int k p:=by simp only[VR]at h;exact h.1
theorem VR.bool{b:Bool}{u:Value}(h:VR P A ρ w (.sc (.bool b)) u):u= .bool b:=by simp only[VR]at h;exact h.1
theorem dR{u:Value}(h:u.oneCell'=true):VR P A ρ w (.sc u) u:=by simp only[VR];exact⟨trivial,h⟩
theorem x_bin(hv:HV P A ρ w tm a o){op:BinOp}{t t':TypeId}{x y:Operand}(ho:o.op= .binOp op t x y t')(hb:bin op ((au x).ev tm) ((au y).ev tm)=some c):XO' P A ρ w ((execOp a.eval o).run P w) next c none:=by
 have h1:=hv x bp;have h2:=hv y bp;unfold OpV at h1 h2;unfold bin at hb;split at hb
 ·next k p k' q e1 e2=>
  rw[e1]at h1;rw[e2]at h2;have h3:=h1.int;have h4:=h2.int;split at hb
  ·split at hb
   ·cases hb
   ·next hn=>
    simp only[ah]at hb;subst hb;refine cH ?_ (dR rfl);unfold execOp;rw[ho];simp[h3,h4,eqGuard,binOp,Op.shift,not_neg hn]
  ·split at hb
   ·cases hb
   ·next hn=>
    simp only[ah]at hb;subst hb;refine cH ?_ (dR rfl);unfold execOp;rw[ho];simp[h3,h4,eqGuard,binOp,Op.shift,not_neg hn]
  ·next hs1 hs2=>
   split at hb
   ·next hk=>
    have hk':=Ce hk;subst hk';obtain⟨u,e3,rfl⟩:=fT.1 hb;have hu:u.oneCell'=true/\((do eqGuard op t x y (.int k p) (.int k q);binOp op t (.int k p) (.int k q):Sem Value)).run P w= .ok u w:=by
     unfold binZ at e3;split at e3<;>try(simp only[ah]at e3;subst e3;refine⟨rfl,?_⟩;simp[eqGuard,binOp,Op.intArith,Op.intCmp];done)
     ·split at e3
      ·cases e3
      ·next hq=>
       simp only[ah]at e3;subst e3;exact⟨rfl,by simp[eqGuard,binOp,Op.intDiv,show q≠0 from fun e=>hq e]⟩
     ·split at e3
      ·cases e3
      ·next hq=>
       simp only[ah]at e3;subst e3;exact⟨rfl,by simp[eqGuard,binOp,Op.intDiv,show q≠0 from fun e=>hq e]⟩
     ·cases e3
    refine cH ?_ (dR hu.1);unfold execOp;rw[ho];simp only[h3,h4];rw[Sem.run_bind,hu.2];rfl
   ·cases hb
 ·cases hb
theorem zx(hv:HV P A ρ w tm a o){op:BinOp}{t t':TypeId}{x y:Operand}{ng:Bool}(ho:o.op= .binOp op t x y t')(hu:P.underlying t=some .bool)(hop:op=if ng then .neq else .eql)(hb:vU ng ((au x).ev tm) ((au y).ev tm)=some c):XO' P A ρ w ((execOp a.eval o).run P w) next c none:=by
 have h1:=hv x bp;have h2:=hv y bp;unfold OpV at h1 h2;unfold vU at hb;split at hb
 ·next p q e1 e2=>
  rw[e1]at h1;rw[e2]at h2;have h3:=h1.bool;have h4:=h2.bool;simp only[ah]at hb;subst hb;refine cH ?_ (dR rfl);unfold execOp;rw[ho];subst hop;cases ng
  ·have:=run_eql_bool (P:=P) w t p q hu;simp[h3,h4,eqGuard,this]
  ·have:=run_neq_bool (P:=P) w t p q hu;simp[h3,h4,eqGuard,this]
 ·cases hb
theorem jo{c:C}{b:Bool}{u:Value}(h:vy c=some b)(hu:VR P A ρ w c u):∃ad n cp,u= .slice ad n cp/\ad.isNone=b:=by
 unfold vy at h;split at h
 ·simp only[ah]at h;subst h;simp only[VR]at hu;exact⟨none,_,_,hu.1,rfl⟩
 ·simp only[ah]at h;subst h;simp only[VR]at hu;obtain⟨_,cap,rfl,_⟩:=hu;exact⟨_,_,_,rfl,rfl⟩
 ·cases h
theorem cK(b o j:Nat):(⟨b,o,none⟩:Addr).add j=⟨b,o+j,none⟩:=Addr.add_mid b o j
theorem rY(d:Nat)(w:World){t e:TypeId}(ad ad':Option Addr)(n c n' c':Nat)(h:P.underlying t=some (.slice e))(hn:ad.isNone=true\/ad'.isNone=true):(Op.equalIn (d+1) t (.slice ad n c) (.slice ad' n' c')).run P w= .ok (ad.isNone&&ad'.isNone) w:=by
 cases ad<;>cases ad'<;>simp[Op.equalIn,run_underlying h]at hn⊢
theorem oL(w:World){t e:TypeId}(ad ad':Option Addr)(n c n' c':Nat)(h:P.underlying t=some (.slice e))(hn:ad.isNone=true\/ad'.isNone=true):(Op.equal t (.slice ad n c) (.slice ad' n' c')).run P w= .ok (ad.isNone&&ad'.isNone) w:=
 rY (P:=P) 9999 w ad ad' n c n' c' h hn
theorem wj(hv:HV P A ρ w tm a o){op:BinOp}{t t' e:TypeId}{x y:Operand}{ng:Bool}(ho:o.op= .binOp op t x y t')(hu:P.underlying t=some (.slice e))(hop:op=if ng then .neq else .eql)(hb:qR ng ((au x).ev tm) ((au y).ev tm)=some c):XO' P A ρ w ((execOp a.eval o).run P w) next c none:=by
 have h1:=hv x bp;have h2:=hv y bp;unfold OpV at h1 h2;unfold qR at hb;split at hb
 ·next b e1 e2=>
  obtain⟨ad,n,cp,e3,e4⟩:=jo e1 h1;obtain⟨ad',n',cp',e5,e6⟩:=jo e2 h2;simp only[ah]at hb;subst hb;refine cH ?_ (dR rfl);have hr:=oL (P:=P) w ad ad' n cp n' cp' hu (.inl e4);rw[e4,e6]at hr;unfold execOp;rw[ho];subst hop;cases ng<;>simp[e3,e5,eqGuard,binOp,hr]
 ·next e1 e2=>
  obtain⟨ad,n,cp,e3,e4⟩:=jo e1 h1;obtain⟨ad',n',cp',e5,e6⟩:=jo e2 h2;simp only[ah]at hb;subst hb;refine cH ?_ (dR rfl);have hr:=oL (P:=P) w ad ad' n cp n' cp' hu (.inr e6);rw[e4,e6]at hr;unfold execOp;rw[ho];subst hop;cases ng<;>simp[e3,e5,eqGuard,binOp,hr]
 ·cases hb
theorem x_un(hv:HV P A ρ w tm a o){op:UnOp}{t:TypeId}{x:Operand}(ho:o.op= .unOp op t x)(hb:un op ((au x).ev tm)=some c):XO' P A ρ w ((execOp a.eval o).run P w) next c none:=by
 have h1:=hv x bp;unfold OpV at h1;unfold un at hb;split at hb
 ·next b e1=>
  rw[e1]at h1;simp only[ah]at hb;subst hb;refine cH ?_ (dR rfl);unfold execOp;rw[ho];simp[h1.bool,Op.unary]
 ·next k p e1=>
  rw[e1]at h1;simp only[ah]at hb;subst hb;refine cH ?_ (dR rfl);unfold execOp;rw[ho];simp[h1.int,Op.unary,Op.intArith]
 ·cases hb
theorem Bw(hv:HV P A ρ w tm a o){t1 t2:TypeId}{x:Operand}{k k1 k2:IntKind}{n:Int}(ho:o.op= .convert t1 t2 x)(h1:P.underlying t1=some (.int k1))(h2:P.underlying t2=some (.int k))(hx:(au x).ev tm= .sc (.int k2 n)):XO' P A ρ w ((execOp a.eval o).run P w) next (.sc (.int k (k.wrap n))) none:=by
 have h3:=hv x bp;unfold OpV at h3;rw[hx]at h3;refine cH ?_ (dR rfl);unfold execOp;rw[ho];simp[convert,run_underlying h1,run_underlying h2,h3.int,Conv.intToInt]
theorem pH(tm:Tm)(a:Act):∀l:List Operand,(∀x∈l,OpV P A ρ w tm a x)->VRl P A ρ w ((jz l).map (·.ev tm)) (l.map a.eval)
 |[],_=>by simp[jz,VRl]
 |x::l,h=>by
  simp only[jz,eh,VRl];exact⟨a.eval x,l.map a.eval,rfl,h x ba,by simpa[jz]using pH tm a l fun y hy=>h y (bh _ hy)⟩
theorem x_mkf(hv:HV P A ρ w tm a o){f:FuncId}{first cs:Array Operand}(ho:o.op= .makeFunc (.func f) first cs)(hs:first.size=0):XO' P A ρ w ((execOp a.eval o).run P w) next (.fn f ((jz cs.toList).map (·.ev tm))) none:=by
 have e1:first= #[]:=oh hs
 subst e1;refine cH (u:=.func (.func f) #[] (cs.map a.eval)) ?_ ?_
 ·unfold execOp;rw[ho];simp[Instr.makeFunc]
 ·simp only[VR];exact⟨_,rfl,by rw[Array.toList_map];exact pH tm a _ fun x hx=>hv x (by rw[ho];simp[Op.operands];simpa using hx)⟩
theorem x_mks(hv:HV P A ρ w tm a o){t e:TypeId}{x y:Operand}{i:TypeInfo}{z:List C}{l m:Nat}(ho:o.op= .makeSlice t x y)(hu:P.underlying t=some (.slice e))(hi:P.info? e=some i)(hz:zOf P e=some z)(hby:i.bytes<=100000)
  (hl:dc ((au x).ev tm)=some l) (hm:dc ((au y).ev tm)=some m) (h1:l<=m) (h2:m<=1000000):XO' P A ρ w ((execOp a.eval o).run P w) next (.sl next 0 l m true) (some (.cells e (dp z m))):=by
 obtain⟨i',v,k1,k2,k3,k4⟩:=fH hz;rw[hi]at k1;simp only[ah]at k1;subst k1;obtain⟨kl,e1⟩:=dE hl (hv x bp);obtain⟨kc,e2⟩:=dE hm (hv y bp);have hbm:(i.bytes:Int)*m<=100000*1000000:=Int.mul_le_mul aa aa aa aa;have hr:=run_make (P:=P) w t e i v hu hi k2 kl kc l m aa aa aa aa;simp only[Int.toNat_natCast]at hr;refine vc (u:=.slice (some ⟨w.heap.size,0,none⟩) l m) (arr:=madeCells v.cells (m*i.size)) ?_ (by rw[<-k3];exact gn (k4 _ _ _) m) (fun A' ρ' _ e3 e4=>?_)
 ·unfold execOp;rw[ho];simp[e1,e2,hr]
 ·simp only[VR,Bool.true_eq_false,false_imp_iff,and_true,true_imp_iff];exact⟨e4,m,by rw[e3],h1,ai _,rfl⟩
theorem dD{x:Option Operand}{d n:Nat}(h:cX tm d (x.map au)=some n)(hv:∀y,x=some y->OpV P A ρ w tm a y):(x=none/\n=d)\/∃y k,x=some y/\a.eval y= .int k (n:Int):=by
 cases x with
 |none=>simp[cX]at h;exact .inl ⟨rfl,h.symm⟩
 |some y=>
  simp only[bX,cX]at h;obtain⟨k,e⟩:=dE h (hv y rfl);exact .inr ⟨y,k,rfl,e⟩
theorem kV(w:World)(n cap l h m:Nat)(lo hi mx:Option Value)(hlo:(lo=none/\l=0)\/∃k,lo=some (.int k (l:Int)))(hhi:(hi=none/\mx=none/\h=n)\/∃k,hi=some (.int k (h:Int)))(hmx:(mx=none/\m=cap)\/∃k,mx=some (.int k (m:Int)))
  (h1:m<=cap) (h2:h<=m) (h3:l<=h):(Instr.sliceBounds true n cap lo hi mx).run P w= .ok (l,h,m) w:=by
 have e1:(m:Int)<=(cap:Int):=by omega
 have e2:(h:Int)<=(m:Int):=by omega
 have e3:(l:Int)<=(h:Int):=by omega
 rcases hmx with⟨rfl,rfl⟩|⟨km,rfl⟩<;>rcases hhi with⟨rfl,hm,rfl⟩|⟨kh,rfl⟩<;>rcases hlo with⟨rfl,rfl⟩|⟨kl,rfl⟩<;>first|(cases hm;done)|simp[Instr.sliceBounds,Instr.sliceBound,asIntOf,h1,h2,h3]
theorem zS(hv:HV P A ρ w tm a o){t e:TypeId}{x:Operand}{lo hi mx:Option Operand}{s k off n cp:Nat}{ex:Bool}{l h m:Nat}(ho:o.op= .slice t x lo hi mx)(hu:P.underlying t=some (.slice e))(hs:bE P e=some s)(hhm:hi=none->mx=none)
  (hx:(au x).ev tm= .sl k off n cp ex) (hl:cX tm 0 (lo.map au)=some l) (hh:cX tm n (hi.map au)=some h) (hm:cX tm cp (mx.map au)=some m) (h1:m<=cp) (h2:h<=m) (h3:l<=h)
  (hlh:l=h):XO' P A ρ w ((execOp a.eval o).run P w) next .em none:=by
 have hX:=hv x bp;unfold OpV at hX;rw[hx]at hX;simp only[VR]at hX;obtain⟨_,cap,e0,_,hc,_,_⟩:=hX;have ml:∀y,lo=some y->OpV P A ρ w tm a y:=fun y hy=>hv y kf;have mh:∀y,hi=some y->OpV P A ρ w tm a y:=fun y hy=>hv y kf;have mm:∀y,mx=some y->OpV P A ρ w tm a y:=fun y hy=>hv y kf;obtain⟨i,hi1,hi2⟩:=cU hs;obtain⟨m',hm1,hm2⟩:∃m',((mx.map a.eval=none/\m'=cap)\/∃k,mx.map a.eval=some (.int k (m':Int)))/\(m<=m'/\m'<=cap):=by
  rcases dD hm mm with⟨r1,r2⟩|⟨y,k,r1,r2⟩
  ·exact⟨cap,.inl ⟨by rw[r1];rfl,rfl⟩,⟨by omega,ai _⟩⟩
  ·exact⟨m,.inr ⟨k,by rw[r1,bX,r2]⟩,⟨ai _,by omega⟩⟩
 have hb:=kV (P:=P) w n cap l h m' (lo.map a.eval) (hi.map a.eval) (mx.map a.eval) (by
  rcases dD hl ml with⟨r1,r2⟩|⟨y,k,r1,r2⟩
  ·exact .inl ⟨by rw[r1];rfl,r2⟩
  ·exact .inr ⟨k,by rw[r1,bX,r2]⟩) (by
  rcases dD hh mh with⟨r1,r2⟩|⟨y,k,r1,r2⟩
  ·exact .inl ⟨by rw[r1];rfl,by rw[hhm r1];rfl,r2⟩
  ·exact .inr ⟨k,by rw[r1,bX,r2]⟩) hm1 hm2.2 aa h3
 have hrun:(execOp a.eval o).run P w= .ok (.value (.slice (if m'=l then some ⟨ρ k,off,none⟩else some ((⟨ρ k,off,none⟩:Addr).add (l*s))) (h-l) (m'-l))) w:=by
  unfold execOp;rw[ho];simp only[Instr.sliceAt,Instr.slice,e0,Sem.run_bind,run_underlying hu,Result.andThen_ok,hb];simp[sizeOf,typeInfo,hi1,hi2]
 refine cH hrun ?_;simp only[VR];exact⟨_,_,by rw[show h-l=0 by omega]⟩
theorem x_slc(hv:HV P A ρ w tm a o){t e:TypeId}{x:Operand}{lo hi mx:Option Operand}{s k off n cp:Nat}{ex ex':Bool}{l h m:Nat}{dt:Nat}(ho:o.op= .slice t x lo hi mx)(he:(mx=none/\ex'=ex)\/(mx.isSome=true/\ex'=true))(hu:P.underlying t=some (.slice e))(hs:bE P e=some s)(hhm:hi=none->mx=none)
  (hx:(au x).ev tm= .sl k off n cp ex) (hl:cX tm 0 (lo.map au)=some l) (hh:cX tm n (hi.map au)=some h) (hm:cX tm cp (mx.map au)=some m) (h1:m<=cp) (h2:h<=m) (h3:l<=h)
  (hoff:qS s off l m ex'=some dt):XO' P A ρ w ((execOp a.eval o).run P w) next (.sl k dt (h-l) (m-l) ex') none:=by
 have hX:=hv x bp;unfold OpV at hX;rw[hx]at hX;simp only[VR]at hX;obtain⟨hA,cap,e0,hn,hc,hex,hne⟩:=hX;have ml:∀y,lo=some y->OpV P A ρ w tm a y:=fun y hy=>hv y kf;have mh:∀y,hi=some y->OpV P A ρ w tm a y:=fun y hy=>hv y kf;have mm:∀y,mx=some y->OpV P A ρ w tm a y:=fun y hy=>hv y kf;obtain⟨i,hi1,hi2⟩:=cU hs;obtain⟨m',hm1,hm2,hm3⟩:∃m',((mx.map a.eval=none/\m'=cap)\/∃k,mx.map a.eval=some (.int k (m':Int)))/\(m<=m'/\m'<=cap)/\((mx=none/\m'=cap)\/(mx.isSome=true/\m'=m)):=by
  rcases dD hm mm with⟨r1,r2⟩|⟨y,k,r1,r2⟩
  ·exact⟨cap, .inl ⟨by rw[r1];rfl,rfl⟩,⟨by omega,ai _⟩, .inl ⟨r1,rfl⟩⟩
  ·exact⟨m, .inr ⟨k,by rw[r1,bX,r2]⟩,⟨ai _,by omega⟩, .inr ⟨by rw[r1];rfl,rfl⟩⟩
 have hb:=kV (P:=P) w n cap l h m' (lo.map a.eval) (hi.map a.eval) (mx.map a.eval) (by
  rcases dD hl ml with⟨r1,r2⟩|⟨y,k,r1,r2⟩
  ·exact .inl ⟨by rw[r1];rfl,r2⟩
  ·exact .inr ⟨k,by rw[r1,bX,r2]⟩) (by
  rcases dD hh mh with⟨r1,r2⟩|⟨y,k,r1,r2⟩
  ·exact .inl ⟨by rw[r1];rfl,by rw[hhm r1];rfl,r2⟩
  ·exact .inr ⟨k,by rw[r1,bX,r2]⟩) hm1 hm2.2 aa h3
 have hrun:(execOp a.eval o).run P w= .ok (.value (.slice (if m'=l then some ⟨ρ k,off,none⟩else some ((⟨ρ k,off,none⟩:Addr).add (l*s))) (h-l) (m'-l))) w:=by
  unfold execOp;rw[ho];simp only[Instr.sliceAt,Instr.slice,e0,Sem.run_bind,run_underlying hu,Result.andThen_ok,hb];simp[sizeOf,typeInfo,hi1,hi2]
 have hmo:m'=m\/(mx=none/\ex=false):=by
  rcases hm3 with⟨r1,r2⟩|⟨_,r2⟩
  ·cases hx':ex with
   |true=>have:=hex hx';exact .inl (by subst r1;simp[cX]at hm;omega)
   |false=>exact .inr ⟨r1,rfl⟩
  ·exact .inl r2
 have haddr:(if m'=l then some (⟨ρ k,off,none⟩:Addr)else some ((⟨ρ k,off,none⟩:Addr).add (l*s)))=some ⟨ρ k,dt,none⟩/\(dt=0->l=0/\off=0\/m=l/\m'=m/\ex'=true):=by
  unfold qS at hoff;split at hoff
  ·simp only[ah]at hoff;subst hoff;refine⟨?_,fun e=> .inl ⟨rfl,e⟩⟩;rw[jb,cK,bS];split<;>rfl
  ·next hl0=>
   split at hoff
   ·next hml=>
    have hml':m=l:=by simpa using hml
    cases hE:ex' with
    |true=>
     rw[hE]at hoff;simp only[ah]at hoff;subst hoff;have hmm:m'=m:=hmo.resolve_right fun r=>by
      rcases he with⟨_,e1⟩|⟨e1,_⟩
      ·rw[e1,r.2]at hE;cases hE
      ·rw[r.1]at e1;cases e1
     exact⟨by rw[aB aa],fun _=> .inr ⟨hml',hmm,rfl⟩⟩
    |false=>rw[hE]at hoff;cases hoff
   ·next hml=>
    have hml':m≠l:=ov hml;split at hoff
    ·cases hoff
    ·next hs0=>
     simp only[ah]at hoff;subst hoff;refine⟨by rw[an aa,cK],fun e=>?_⟩;have:0<l*s:=mr (fR hl0) (fR hs0);omega
 rw[haddr.1]at hrun;refine cH hrun ?_;simp only[VR];refine⟨hA,m'-l,rfl,by omega,by omega,fun e=>?_,fun e eo=>?_⟩
 ·rcases hmo with r|⟨r1,r2⟩
  ·rw[r]
  ·rcases he with⟨_,e1⟩|⟨e1,_⟩
   ·rw[e1,r2]at e;cases e
   ·rw[r1]at e1;cases e1
 ·rcases haddr.2 eo with⟨r1,r2⟩|⟨_,_,r3⟩
  ·have hmx : mx = none /\ ex = false := by
    rcases he with⟨e1,e2⟩|⟨_,e2⟩
    ·exact⟨e1,by rw[<-e2];exact e⟩
    ·rw[e2]at e;cases e
   obtain⟨r3,T,s',r4,r5⟩:=hne hmx.2 r2;have:m'=cap:=by
    rcases hm3 with⟨_,r⟩|⟨r,_⟩
    ·exact r
    ·rw[hmx.1]at r;cases r
   rw[this,r1,Nat.sub_zero];exact⟨r3,T,s',r4,r5⟩
  ·rw[r3]at e;cases e
theorem xY(hv:HV P A ρ w tm a o){t e:TypeId}{x:Operand}{lo hi mx:Option Operand}{s:Nat}(ho:o.op= .slice t x lo hi mx)(hu:P.underlying t=some (.slice e))(hs:bE P e=some s)(hhm:hi=none->mx=none)
  (hx:(au x).ev tm= .sc (.slice none 0 0)) (hl:cX tm 0 (lo.map au)=some 0) (hh:cX tm 0 (hi.map au)=some 0) (hm:cX tm 0 (mx.map au)=some 0):XO' P A ρ w ((execOp a.eval o).run P w) next (.sc (.slice none 0 0)) none:=by
 have hX:=hv x bp;unfold OpV at hX;rw[hx]at hX;simp only[VR]at hX;have ml:∀y,lo=some y->OpV P A ρ w tm a y:=fun y hy=>hv y kf;have mh:∀y,hi=some y->OpV P A ρ w tm a y:=fun y hy=>hv y kf;have mm:∀y,mx=some y->OpV P A ρ w tm a y:=fun y hy=>hv y kf;obtain⟨i,hi1,hi2⟩:=cU hs;have hb:=kV (P:=P) w 0 0 0 0 0 (lo.map a.eval) (hi.map a.eval) (mx.map a.eval) (by
  rcases dD hl ml with⟨r1,r2⟩|⟨y,k,r1,r2⟩
  ·exact .inl ⟨by rw[r1];rfl,r2⟩
  ·exact .inr ⟨k,by rw[r1,bX,r2]⟩) (by
  rcases dD hh mh with⟨r1,r2⟩|⟨y,k,r1,r2⟩
  ·exact .inl ⟨by rw[r1];rfl,by rw[hhm r1];rfl,r2⟩
  ·exact .inr ⟨k,by rw[r1,bX,r2]⟩) (by
  rcases dD hm mm with⟨r1,r2⟩|⟨y,k,r1,r2⟩
  ·exact .inl ⟨by rw[r1];rfl,r2⟩
  ·exact .inr ⟨k,by rw[r1,bX,r2]⟩) (ai _) (ai _) (ai _)
 refine cH (u:=.slice none 0 0) ?_ (dR rfl);unfold execOp;rw[ho];simp only[Instr.sliceAt,Instr.slice,hX.1,Sem.run_bind,run_underlying hu,Result.andThen_ok,hb];simp[sizeOf,typeInfo,hi1]
end CI
end
section
open Go.RowKit
namespace CI
variable {P : Program} {A : Nat->Prop} {ρ : Nat->Nat} {w : World} {tm : Tm} {a : Act} {o : Oper} {next : Nat} {c : C} {ob : Option B}
theorem ju{t:TypeId}{r:Bool}(h:rowOf P t=some r)(w:World):(isAgg t).run P w= .ok r w:=by
 unfold rowOf at h
 cases hu:P.underlying t with
 |none=>rw[hu]at h;cases h
 |some d=>
  unfold isAgg;rw[Sem.run_bind,run_underlying hu w];rw[hu]at h;cases d<;>simp at h<;>subst h<;>rfl
theorem zg(cs:Array Value)(i n:Nat):(cs.extract i (i+n)).toList=(cs.toList.drop i).take n:=by
 simp
theorem sf{t:TypeId}{r:Bool}{s off:Nat}{cs:Array Value}{p l:List C}{c:C}(hr:rowOf P t=some r)(hs:bE P t=some s)(hl:VCs P A ρ w l cs.toList)(hp:eJ l off s=some p)(hc:cT r p=some c):∃u,(Go.part t cs off).run P w= .ok u w/\VR P A ρ w c u:=by
 obtain⟨i,hi1,hi2⟩:=cU hs;obtain⟨k1,k2⟩:=hl.get hp;have k3:=k1.cT hc
 cases r with
 |true=>
  simp only[if_true]at k3;refine⟨.agg (cs.extract off (off+s)),?_,?_⟩
  ·unfold Go.part;simp[ju hr,sizeOf,typeInfo,hi1,hi2]
  ·have : cs.extract off (off + s) = ((cs.toList.drop off).take s).toArray := by
    apply dB.1;rw[zg]
   rw[this];exact k3
 |false=>
  simp only[ot,if_false]at k3;obtain⟨u,e,k4⟩:=k3;refine⟨u,?_,k4⟩;have h0:((cs.toList.drop off).take s)[0]?=some u:=by rw[e];rfl
  have h1:cs[off]?=some u:=by
   rw[gP]at h0;split at h0
   ·rw[gV,bS,cM]at h0;exact h0
   ·cases h0
  unfold Go.part;simp[ju hr,h1]
theorem x_fa(hv:HV P A ρ w tm a o){t:TypeId}{x:Operand}{i k off s:Nat}{fs:Array Field}{f:Field}(ho:o.op= .fieldAddr t x i)(hu:P.underlying t=some (.struct fs))(hf:fs[i]?=some f)(hs:bE P f.type=some s)(h0:s≠0)(hx:(au x).ev tm= .pt k off):XO' P A ρ w ((execOp a.eval o).run P w) next (.pt k (off+f.offset)) none:=by
 have hX:=hv x bp;unfold OpV at hX;rw[hx]at hX;simp only[VR]at hX;obtain⟨j,hj1,hj2⟩:=cU hs;refine cH (u:=.pointer (some ⟨ρ k,off+f.offset,none⟩)) ?_ (by simp only[VR];exact⟨hX.1,trivial⟩);unfold execOp;rw[ho];have h0':j.size≠0:=by omega
 simp[hX.2,Instr.fieldAt,run_underlying hu,hf,Instr.sureAddr,fieldPlace,sizeOf,typeInfo,hj1,h0',cK]
theorem x_fd(hv:HV P A ρ w tm a o){t:TypeId}{x:Operand}{i s:Nat}{r:Bool}{fs:Array Field}{f:Field}{l p:List C}(ho:o.op= .field t x i)(hu:P.underlying t=some (.struct fs))(hf:fs[i]?=some f)(hs:bE P f.type=some s)(hr:rowOf P f.type=some r)(hx:(au x).ev tm= .ag l)(hp:eJ l f.offset s=some p)(hc:cT r p=some c):XO' P A ρ w ((execOp a.eval o).run P w) next c none:=by
 have hX:=hv x bp;unfold OpV at hX;rw[hx]at hX;simp only[VR]at hX;obtain⟨cs,e1,hl⟩:=hX;obtain⟨u,k1,k2⟩:=sf hr hs hl hp hc;refine cH (u:=u) ?_ k2;unfold execOp;rw[ho];simp[Instr.field,run_underlying hu,hf,e1,asAgg,k1]
theorem vK{t e:TypeId}(h:P.underlying t=some (.slice e)):P.elem t=e:=by unfold Program.elem;rw[h]
theorem x_ia(hv:HV P A ρ w tm a o){t e:TypeId}{x y:Operand}{i k off n cp s:Nat}{ex:Bool}(ho:o.op= .indexAddr t x y)(hu:P.underlying t=some (.slice e))(hs:bE P e=some s)(hi:dc ((au y).ev tm)=some i)(hx:(au x).ev tm= .sl k off n cp ex)(hlt:i<n):XO' P A ρ w ((execOp a.eval o).run P w) next (.pt k (off+i*s)) none:=by
 have hX:=hv x bp;unfold OpV at hX;rw[hx]at hX;simp only[VR]at hX;obtain⟨hA,cap,e1,_⟩:=hX;obtain⟨ki,e2⟩:=dE hi (hv y bp);obtain⟨j,hj1,hj2⟩:=cU hs;refine cH (u:=.pointer (some ⟨ρ k,off+i*s,none⟩)) ?_ (by simp only[VR];exact⟨hA,trivial⟩);unfold execOp;rw[ho];have he:=vK hu;have hrun:=run_indexAt_slice (P:=P) (w:=w) t ⟨ρ k,off,none⟩ n cap ki (i:Int) (by rw[he];exact hu);rw[aB ⟨by omega,by omega⟩]at hrun;simp only[Sem.run_bind,e1,e2,hrun];simp[sizeOf,typeInfo,he,hj1,hj2,cK]
theorem x_iaA(hv:HV P A ρ w tm a o){t e:TypeId}{x y:Operand}{i k off n s:Nat}(ho:o.op= .indexAddr t x y)(hu:P.underlying t=some (.array n e))(hs:bE P e=some s)(hi:dc ((au y).ev tm)=some i)(hx:(au x).ev tm= .pt k off)(hlt:i<n):XO' P A ρ w ((execOp a.eval o).run P w) next (.pt k (off+i*s)) none:=by
 have hX:=hv x bp;unfold OpV at hX;rw[hx]at hX;simp only[VR]at hX;obtain⟨hA,e1⟩:=hX;obtain⟨ki,e2⟩:=dE hi (hv y bp);obtain⟨j,hj1,hj2⟩:=cU hs;refine cH (u:=.pointer (some ⟨ρ k,off+i*s,none⟩)) ?_ (by simp only[VR];exact⟨hA,trivial⟩);unfold execOp;rw[ho];have hlt':(i:Int)<(n:Int):=by omega
 simp[Instr.indexAt,e1,e2,asIntOf,run_underlying hu,Instr.sureAddr,hlt,sizeOf,typeInfo,hj1,hj2,cK]
theorem x_ix(hv:HV P A ρ w tm a o){t e:TypeId}{x y:Operand}{i n s:Nat}{r:Bool}{l p:List C}(ho:o.op= .index t x y)(hu:P.underlying t=some (.array n e))(hs:bE P e=some s)(hr:rowOf P e=some r)(hi:dc ((au y).ev tm)=some i)(hx:(au x).ev tm= .ag l)(hlt:i<n)(hp:eJ l (i*s) s=some p)(hc:cT r p=some c):XO' P A ρ w ((execOp a.eval o).run P w) next c none:=by
 have hX:=hv x bp;unfold OpV at hX;rw[hx]at hX;simp only[VR]at hX;obtain⟨cs,e1,hl⟩:=hX;obtain⟨ki,e2⟩:=dE hi (hv y bp);obtain⟨j,hj1,hj2⟩:=cU hs;obtain⟨u,k1,k2⟩:=sf hr hs hl hp hc;refine cH (u:=u) ?_ k2;unfold execOp;rw[ho];simp[Instr.index,e1,e2,asIntOf,run_underlying hu,hlt,sizeOf,typeInfo,hj1,hj2,k1]
theorem x_sx(hv:HV P A ρ w tm a o){t:TypeId}{x y:Operand}{i:Nat}{s:ByteArray}{b:UInt8}(ho:o.op= .index t x y)(hu:P.underlying t=some .string)(hi:dc ((au y).ev tm)=some i)(hx:(au x).ev tm= .sc (.string s))(hb:s[i]?=some b):XO' P A ρ w ((execOp a.eval o).run P w) next (.sc (.int .u8 b.toNat)) none:=by
 have hX:=hv x bp;unfold OpV at hX;rw[hx]at hX;simp only[VR]at hX;obtain⟨ki,e2⟩:=dE hi (hv y bp);refine cH (u:=.int .u8 b.toNat) ?_ (dR rfl);unfold execOp;rw[ho];simp[Instr.index,hX.1,e2,asIntOf,run_underlying hu,hb]
theorem VRl.at:∀{l:List C} {vs:List Value} {i:Nat} {c:C},VRl P A ρ w l vs->l[i]?=some c->∃u,vs[i]?=some u/\VR P A ρ w c u
 |[],_,_,_,_,h=>by simp at h
 |d::l,vs,0,c,h,e=>by
  simp only[VRl]at h;simp at e;subst e;obtain⟨u,rest,rfl,h2,_⟩:=h;exact⟨u,rfl,h2⟩
 |d::l,vs,i+1,c,h,e=>by
  simp only[VRl]at h;obtain⟨u,rest,rfl,h2,h3⟩:=h;obtain⟨u',k1,k2⟩:=VRl.at h3 (by simpa using e);exact⟨u',by simpa using k1,k2⟩
theorem x_ext(hv:HV P A ρ w tm a o){x:Operand}{i:Nat}{l:List C}(ho:o.op= .extract x i)(hx:(au x).ev tm= .tp l)(hc:l[i]?=some c):XO' P A ρ w ((execOp a.eval o).run P w) next c none:=by
 have hX:=hv x bp;unfold OpV at hX;rw[hx]at hX;simp only[VR]at hX;obtain⟨vs,e1,h2⟩:=hX;obtain⟨u,k1,k2⟩:=VRl.at h2 hc;refine cH (u:=u) ?_ k2;unfold execOp;rw[ho];have k1':vs[i]?=some u:=by simpa using k1
 simp[e1,Instr.extract,k1']
theorem x_nc(hv:HV P A ρ w tm a o){x:Operand}(ho:o.op= .nilCheck x)(hx:(∃k off,(au x).ev tm= .pt k off)\/(∃f cs,(au x).ev tm= .fn f cs)\/(∃k,(au x).ev tm= .yl k)):XO' P A ρ w ((execOp a.eval o).run P w) next ((au x).ev tm) none:=by
 have hX:=hv x bp;refine cH (u:=a.eval x) ?_ hX;unfold OpV at hX;unfold execOp;rw[ho];rcases hx with⟨k,off,e⟩|⟨f,cs,e⟩|⟨k,e⟩<;>rw[e]at hX<;>simp only[VR]at hX
 ·simp[hX.2]
 ·obtain⟨us,e2,_⟩:=hX;simp[e2]
 ·simp[hX.2]
theorem vd(hv:HV P A ρ w tm a o){t:TypeId}{x:Operand}{n:Nat}(ho:o.op= .call {callee:= .builtin .len,args:= #[x],argTypes:= #[t]})(hx:(∃e,P.underlying t=some (.slice e)/\((∃k off cp ex,(au x).ev tm= .sl k off n cp ex)\/∃cp,(au x).ev tm= .sc (.slice none n cp)))\/(∃s:ByteArray,P.underlying t=some .string/\(au x).ev tm= .sc (.string s)/\s.size=n)):XO' P A ρ w ((execOp a.eval o).run P w) next (ofN n) none:=by
 have hX:=hv x gB;unfold OpV at hX;refine cH (u:= .int .i64 n) ?_ (dR rfl);unfold execOp;rw[ho];rcases hx with⟨e,hu,hx⟩|⟨s,hu,hx,hn⟩
 ·have : ∃ ad cp, a.eval x = .slice ad n cp := by
   rcases hx with⟨k,off,cp,ex,e1⟩|⟨cp,e1⟩<;>rw[e1]at hX<;>simp only[VR]at hX
   ·obtain⟨_,cap,e2,_⟩:=hX;exact⟨_,_,e2⟩
   ·exact⟨_,_,hX.1⟩
  obtain⟨ad,cp,e2⟩:=this;simp[resolve,invoke,builtin,e2,Builtin.len_,run_underlying hu,goInt]
 ·rw[hx]at hX;simp only[VR]at hX;simp[resolve,invoke,builtin,hX.1,Builtin.len_,run_underlying hu,goInt,hn]
theorem zT(hv:HV P A ρ w tm a o){t e:TypeId}{x:Operand}(ho:o.op= .call {callee:=.builtin .len,args:=#[x],argTypes:=#[t]})(hu:P.underlying t=some (.slice e))(hx:(au x).ev tm= .em):XO' P A ρ w ((execOp a.eval o).run P w) next (ofN 0) none:=by
 have hX:=hv x gB;unfold OpV at hX;refine cH (u:=.int .i64 0) ?_ (dR rfl);unfold execOp;rw[ho];rw[hx]at hX;simp only[VR]at hX;obtain⟨ad,cp,e2⟩:=hX;simp[resolve,invoke,builtin,e2,Builtin.len_,run_underlying hu,goInt]
theorem zw(hv:HV P A ρ w tm a o){t e:TypeId}{x:Operand}{n:Nat}(ho:o.op= .call {callee:=.builtin .cap,args:=#[x],argTypes:=#[t]})(hu:P.underlying t=some (.slice e))(hx:(∃k off m,(au x).ev tm= .sl k off m n true)\/∃m,(au x).ev tm= .sc (.slice none m n)):XO' P A ρ w ((execOp a.eval o).run P w) next (ofN n) none:=by
 have hX:=hv x gB;unfold OpV at hX;refine cH (u:=.int .i64 n) ?_ (dR rfl);unfold execOp;rw[ho];have:∃ad m,a.eval x= .slice ad m n:=by
  rcases hx with⟨k,off,m,e1⟩|⟨m,e1⟩<;>rw[e1]at hX<;>simp only[VR]at hX
  ·obtain⟨_,cap,e2,_,_,h3,_⟩:=hX;have:cap=n:=by simpa using h3
   subst this;exact⟨_,_,e2⟩
  ·exact⟨_,_,hX.1⟩
 obtain⟨ad,m,e2⟩:=this;simp[resolve,invoke,builtin,e2,Builtin.cap_,run_underlying hu,goInt]
theorem zu(hv:HV P A ρ w tm a o){ts:Array TypeId}{x y:Operand}{g:Bool}{k k':IntKind}{p q:Int}(ho:o.op= .call {callee:=.builtin (if g then .max else .min),args:=#[x,y],argTypes:=ts})(hx:(au x).ev tm= .sc (.int k p))(hy:(au y).ev tm= .sc (.int k' q)):XO' P A ρ w ((execOp a.eval o).run P w) next (.sc (.int k (if g then(if q>p then q else p)else(if q<p then q else p)))) none:=by
 have h1:=hv x gB;have h2:=hv y gB;unfold OpV at h1 h2;rw[hx]at h1;rw[hy]at h2;refine cH (u:=.int k (if g then(if q>p then q else p)else(if q<p then q else p))) ?_ (dR rfl);unfold execOp;rw[ho];cases g<;>simp[resolve,invoke,builtin,h1.int,h2.int,Builtin.max_,Builtin.min_,Builtin.max2,Builtin.min2]
end CI
end
section
open Go.RowKit
namespace CI
variable {P : Program} {A : Nat->Prop} {ρ : Nat->Nat} {w : World} {tm : Tm} {a : Act} {o : Oper} {next : Nat} {c : C} {ob : Option B}
theorem aj{α β:Type}{f:α->β}{x:Option α}{y:β}(h:x.map f=some y):∃z,x=some z/\f z=y:=fT.1 h
theorem aq{α β:Type}{f:α->Option β}{x:Option α}{y:β}(h:x.bind f=some y):∃z,x=some z/\f z=some y:=fW.1 h
theorem xZ{x:X}(hc:ay P o.op=some x)(hT:x.isT=true)(hx:xT x tm next=some (c,ob))(hv:HV P A ρ w tm a o):XO' P A ρ w ((execOp a.eval o).run P w) next c ob:=by
 cases hop:o.op with
 |move y=>
  rw[hop]at hc;simp only[ay,ah]at hc;subst hc;simp only[xT,ah,av]at hx;obtain⟨rfl,rfl⟩:=hx;exact wo hv (.inl hop)
 |assign y=>
  rw[hop]at hc;simp only[ay,ah]at hc;subst hc;simp only[xT,ah,av]at hx;obtain⟨rfl,rfl⟩:=hx;exact wo hv (.inr hop)
 |pick y y1 y2=>
  rw[hop]at hc;simp only[ay,ah]at hc;subst hc;simp only[xT]at hx;split at hx
  ·next e=>
   simp only[ah,av]at hx;obtain⟨rfl,rfl⟩:=hx;exact wm hv (t:=true) hop e
  ·next e=>
   simp only[ah,av]at hx;obtain⟨rfl,rfl⟩:=hx;exact wm hv (t:=false) hop e
  ·cases hx
 |alloc t=>
  rw[hop]at hc;simp only[ay]at hc;obtain⟨z,e1,rfl⟩:=aj hc;simp only[xT,ah,av]at hx;obtain⟨rfl,rfl⟩:=hx;exact zV hop e1
 |box t y=>
  rw[hop]at hc;simp only[ay,ah]at hc;subst hc;simp only[xT]at hx;obtain⟨p,e1,e2⟩:=aj hx;simp only[av]at e2;obtain⟨rfl,rfl⟩:=e2;exact x_box hv hop e1
 |build t ps=>
  rw[hop]at hc;simp only[ay]at hc;have key:∃z pl,zOf P t=some z/\placesOf P t ps.toList=some pl/\x= .build z pl/\((∃fs,P.underlying t=some (.struct fs)/\fs.toList.all (fun f=>(P.info? f.type).isSome)=true)\/∃n e s,P.underlying t=some (.array n e)/\bE P e=some s):=by
   split at hc
   ·next fs e=>
    split at hc
    ·next hall=>
     obtain⟨z,e1,hc⟩:=aq hc;obtain⟨pl,e2,e3⟩:=aj hc;exact⟨z,pl,e1,e2,e3.symm,.inl ⟨fs,e,hall⟩⟩
    ·cases hc
   ·next n e' e=>
    obtain⟨s,e0,hc⟩:=aq hc;obtain⟨z,e1,hc⟩:=aq hc;obtain⟨pl,e2,e3⟩:=aj hc;exact⟨z,pl,e1,e2,e3.symm,.inr ⟨n,e',s,e,e0⟩⟩
   ·cases hc
  obtain⟨z,pl,e1,e2,rfl,e3⟩:=key;simp only[xT]at hx;obtain⟨l,e4,e5⟩:=aj hx;simp only[av]at e5;obtain⟨rfl,rfl⟩:=e5;exact zU hv hop e1 e2 e3 e4
 |buildSlice t n ps=>
  rw[hop]at hc;simp only[ay]at hc;split at hc
  ·next e hu=>
   obtain⟨s,e1,hc⟩:=aq hc;obtain⟨z,e2,hc⟩:=aq hc;split at hc
   ·next hb=>
    obtain⟨pl,e3,rfl⟩:=aj hc;simp only[cu,Bool.or_eq_true]at hb;simp only[xT]at hx;obtain⟨l,e4,e5⟩:=aj hx;simp only[av]at e5;obtain⟨rfl,rfl⟩:=e5;exact x_bsl hv hop hu e1 e2 e3 (bG hb.1.1) (by simpa[aJ]using hb.1.2) (hb.2.imp (fun h=>by simpa[aJ]using h) (fun h=>List.isEmpty_iff.1 h)) e4
   ·cases hc
  ·cases hc
 |load t y=>
  rw[hop]at hc;simp only[ay]at hc;obtain⟨s,_,hc⟩:=aq hc;obtain⟨r,_,rfl⟩:=aj hc;simp[X.isT]at hT
 |store t y v=>
  rw[hop]at hc;simp only[ay]at hc;obtain⟨s,_,rfl⟩:=aj hc;simp[X.isT]at hT
 |binOp op t y y2 t2=>
  rw[hop]at hc;simp only[ay]at hc;split at hc
  ·simp only[ah]at hc;subst hc;simp only[xT]at hx;obtain⟨c',e1,e2⟩:=aj hx;simp only[av]at e2;obtain⟨rfl,rfl⟩:=e2;exact x_bin hv hop e1
  ·next hu=>
   split at hc
   ·simp only[ah]at hc;subst hc;simp only[xT]at hx;obtain⟨c',e1,e2⟩:=aj hx;simp only[av]at e2;obtain⟨rfl,rfl⟩:=e2;exact zx hv hop hu rfl e1
   ·simp only[ah]at hc;subst hc;simp only[xT]at hx;obtain⟨c',e1,e2⟩:=aj hx;simp only[av]at e2;obtain⟨rfl,rfl⟩:=e2;exact zx hv hop hu rfl e1
   ·cases hc
  ·next hu=>
   split at hc
   ·simp only[ah]at hc;subst hc;simp only[xT]at hx;obtain⟨c',e1,e2⟩:=aj hx;simp only[av]at e2;obtain⟨rfl,rfl⟩:=e2;exact wj hv hop hu rfl e1
   ·simp only[ah]at hc;subst hc;simp only[xT]at hx;obtain⟨c',e1,e2⟩:=aj hx;simp only[av]at e2;obtain⟨rfl,rfl⟩:=e2;exact wj hv hop hu rfl e1
   ·cases hc
  ·cases hc
 |unOp op t y=>
  rw[hop]at hc;simp only[ay,ah]at hc;subst hc;simp only[xT]at hx;obtain⟨c',e1,e2⟩:=aj hx;simp only[av]at e2;obtain⟨rfl,rfl⟩:=e2;exact x_un hv hop e1
 |convert t1 t2 y=>
  rw[hop]at hc;simp only[ay]at hc;split at hc
  ·next k1 k h1 h2=>
   simp only[ah]at hc;subst hc;simp only[xT]at hx;split at hx
   ·next k2 n e=>
    simp only[ah,av]at hx;obtain⟨rfl,rfl⟩:=hx;exact Bw hv hop h1 h2 e
   ·cases hx
  ·cases hc
 |makeFunc f first cs=>
  rw[hop]at hc
  cases f with
  |func g=>
   simp only[ay]at hc;split at hc
   ·next hs=>
    simp only[ah]at hc;subst hc;simp only[xT,ah,av]at hx;obtain⟨rfl,rfl⟩:=hx;exact x_mkf hv hop hs
   ·cases hc
  |_=>simp[ay]at hc
 |makeSlice t y y2=>
  rw[hop]at hc;simp only[ay]at hc;split at hc
  ·next e hu=>
   obtain⟨i,e1,hc⟩:=aq hc;obtain⟨z,e2,hc⟩:=aq hc;split at hc
   ·next hb=>
    simp only[ah]at hc;subst hc;simp only[xT]at hx;split at hx
    ·next l m h1 h2=>
     split at hx
     ·next h3 h4=>
      simp only[ah,av]at hx;obtain⟨rfl,rfl⟩:=hx;exact x_mks hv hop hu e1 e2 (bG hb) h1 h2 (bG h3) (bG h4)
     ·cases hx
    ·cases hx
   ·cases hc
  ·cases hc
 |slice t y lo hi mx=>
  rw[hop]at hc;simp only[ay]at hc;split at hc
  ·next e hu=>
   have key:∃s,bE P e=some s/\x= .slc s (au y) (lo.map au) (hi.map au) (mx.map au)/\(hi=none->mx=none):=by
    split at hc
    ·cases hc
    ·next hn=>
     obtain⟨s,e1,e2⟩:=aj hc;refine⟨s,e1,e2.symm,fun h=>?_⟩
     cases mx with
     |none=>rfl
     |some z=>exact absurd rfl (hn z h)
   obtain⟨s,e1,rfl,hhm⟩:=key;simp only[xT]at hx;split at hx
   ·next k off n cp ex ey=>
    split at hx
    ·next l h m h1 h2 h3=>
     split at hx
     ·next h4 h5 h6=>
      split at hx
      ·next dt e2=>
       simp only[ah,av]at hx;obtain⟨rfl,rfl⟩:=hx;exact x_slc hv hop (by cases mx<;>simp[oW]) hu e1 hhm ey h1 h2 h3 (bG h4) (bG h5) (bG h6) e2
      ·split at hx
       ·next hlh=>
        simp only[ah,av]at hx;obtain⟨rfl,rfl⟩:=hx;exact zS hv hop hu e1 hhm ey h1 h2 h3 (bG h4) (bG h5) (bG h6) (dX hlh)
       ·cases hx
     ·cases hx
    ·cases hx
   ·next ey=>
    split at hx
    ·next h1 h2 h3=>
     simp only[ah,av]at hx;obtain⟨rfl,rfl⟩:=hx;exact xY hv hop hu e1 hhm ey h2 h1 h3
    ·cases hx
   ·cases hx
  ·cases hc
 |fieldAddr t y i=>
  rw[hop]at hc;simp only[ay]at hc;split at hc
  ·next fs hu=>
   obtain⟨f,e1,hc⟩:=aq hc;obtain⟨s,e2,hc⟩:=aq hc;split at hc
   ·cases hc
   ·next h0=>
    simp only[ah]at hc;subst hc;simp only[xT]at hx;split at hx
    ·next k off ey=>
     simp only[ah,av]at hx;obtain⟨rfl,rfl⟩:=hx;exact x_fa hv hop hu e1 e2 (fun e=>h0 e) ey
    ·cases hx
  ·cases hc
 |field t y i=>
  rw[hop]at hc;simp only[ay]at hc;split at hc
  ·next fs hu=>
   obtain⟨f,e1,hc⟩:=aq hc;obtain⟨s,e2,hc⟩:=aq hc;obtain⟨r,e3,rfl⟩:=aj hc;simp only[xT]at hx;split at hx
   ·next l ey=>
    obtain⟨c',e4,e5⟩:=aj hx;simp only[av]at e5;obtain⟨rfl,rfl⟩:=e5;obtain⟨p,e6,e7⟩:=aq e4;exact x_fd hv hop hu e1 e2 e3 ey e6 e7
   ·cases hx
  ·cases hc
 |indexAddr t y i=>
  rw[hop]at hc;simp only[ay]at hc;split at hc
  ·next e hu=>
   obtain⟨s,e1,rfl⟩:=aj hc;simp only[xT]at hx;split at hx
   ·next i' hi=>
    split at hx
    ·next k off n cp ex ey _=>
     split at hx
     ·next hlt=>
      simp only[ah,av]at hx;obtain⟨rfl,rfl⟩:=hx;exact x_ia hv hop hu e1 hi ey (by simpa[aJ]using hlt)
     ·cases hx
    ·next hh=>cases hh
    ·cases hx
   ·cases hx
  ·next n e hu=>
   obtain⟨s,e1,rfl⟩:=aj hc;simp only[xT]at hx;split at hx
   ·next i' hi=>
    split at hx
    ·next hh=>cases hh
    ·next k off n' ey hh=>
     simp only[ah]at hh;subst hh;split at hx
     ·next hlt=>
      simp only[ah,av]at hx;obtain⟨rfl,rfl⟩:=hx;exact x_iaA hv hop hu e1 hi ey (by simpa[aJ]using hlt)
     ·cases hx
    ·cases hx
   ·cases hx
  ·cases hc
 |index t y i=>
  rw[hop]at hc;simp only[ay]at hc;split at hc
  ·next n e hu=>
   obtain⟨s,e1,hc⟩:=aq hc;obtain⟨r,e2,rfl⟩:=aj hc;simp only[xT]at hx;split at hx
   ·next i' l hi ey=>
    split at hx
    ·next hlt=>
     obtain⟨c',e4,e5⟩:=aj hx;simp only[av]at e5;obtain⟨rfl,rfl⟩:=e5;obtain⟨p,e6,e7⟩:=aq e4;exact x_ix hv hop hu e1 e2 hi ey (by simpa[aJ]using hlt) e6 e7
    ·cases hx
   ·cases hx
  ·next hu=>
   simp only[ah]at hc;subst hc;simp only[xT]at hx;split at hx
   ·next i' s hi ey=>
    obtain⟨b,e4,e5⟩:=aj hx;simp only[av]at e5;obtain⟨rfl,rfl⟩:=e5;exact x_sx hv hop hu hi ey e4
   ·cases hx
  ·cases hc
 |extract y i=>
  rw[hop]at hc;simp only[ay,ah]at hc;subst hc;simp only[xT]at hx;split at hx
  ·next l ey=>
   obtain⟨c',e4,e5⟩:=aj hx;simp only[av]at e5;obtain⟨rfl,rfl⟩:=e5;exact x_ext hv hop ey e4
  ·cases hx
 |nilCheck y=>
  rw[hop]at hc;simp only[ay,ah]at hc;subst hc;simp only[xT]at hx;split at hx
  ·next k off ey=>
   simp only[ah,av]at hx;obtain⟨rfl,rfl⟩:=hx;rw[<-ey];exact x_nc hv hop (.inl ⟨k,off,ey⟩)
  ·next f cs ey=>
   simp only[ah,av]at hx;obtain⟨rfl,rfl⟩:=hx;rw[<-ey];exact x_nc hv hop (.inr (.inl ⟨f,cs,ey⟩))
  ·next k ey=>
   simp only[ah,av]at hx;obtain⟨rfl,rfl⟩:=hx;rw[<-ey];exact x_nc hv hop (.inr (.inr ⟨k,ey⟩))
  ·cases hx
 |call cl=>
  obtain⟨callee,args,argTypes⟩:=cl;rw[hop]at hc
  cases callee with
  |value f=>
   simp only[ay,ah]at hc;subst hc;simp[X.isT]at hT
  |invoke r m=>simp[ay]at hc
  |builtin b=>
   simp only[ay]at hc;split at hc
   ·next y t ha ht=>
    have ha':args= #[y]:=dB.1 ha;have ht':argTypes= #[t]:=dB.1 ht;subst ha';subst ht';split at hc
    ·next e hu=>
     simp only[ah]at hc;subst hc;simp only[xT]at hx;split at hx
     ·next k off n cp ex ey=>
      simp only[ah,av]at hx;obtain⟨rfl,rfl⟩:=hx;exact vd hv hop (.inl ⟨e,hu,.inl ⟨k,off,cp,ex,ey⟩⟩)
     ·next ey=>
      simp only[ah,av]at hx;obtain⟨rfl,rfl⟩:=hx;exact zT hv hop hu ey
     ·next n cp ey=>
      simp only[ah,av]at hx;obtain⟨rfl,rfl⟩:=hx;exact vd hv hop (.inl ⟨e,hu,.inr ⟨cp,ey⟩⟩)
     ·cases hx
    ·next hu=>
     simp only[ah]at hc;subst hc;simp only[xT]at hx;split at hx
     ·next s ey=>
      simp only[ah,av]at hx;obtain⟨rfl,rfl⟩:=hx;exact vd hv hop (.inr ⟨s,hu,ey,rfl⟩)
     ·cases hx
    ·cases hc
   ·next y y2 ha=>
    have ha':args= #[y,y2]:=dB.1 ha;subst ha';simp only[ah]at hc;subst hc;simp only[xT]at hx;split at hx
    ·next k p k' q e1 e2=>
     simp only[ah,av]at hx;obtain⟨rfl,rfl⟩:=hx;exact zu hv (g:=false) hop e1 e2
    ·cases hx
   ·next y y2 ha=>
    have ha':args= #[y,y2]:=dB.1 ha;subst ha';simp only[ah]at hc;subst hc;simp only[xT]at hx;split at hx
    ·next k p k' q e1 e2=>
     simp only[ah,av]at hx;obtain⟨rfl,rfl⟩:=hx;exact zu hv (g:=true) hop e1 e2
    ·cases hx
   ·next y y2 t t' ha ht=>
    split at hc
    ·split at hc
     ·cases hc
     ·obtain⟨i,_,hc⟩:=aq hc;obtain⟨z,_,hc⟩:=aq hc;split at hc
      ·simp only[ah]at hc;subst hc;simp[X.isT]at hT
      ·cases hc
    ·obtain⟨i,_,hc⟩:=aq hc;obtain⟨z,_,hc⟩:=aq hc;split at hc
     ·simp only[ah]at hc;subst hc;simp[X.isT]at hT
     ·cases hc
    ·cases hc
   ·next y t ha ht=>
    have ha':args= #[y]:=dB.1 ha;have ht':argTypes= #[t]:=dB.1 ht;subst ha';subst ht';split at hc
    ·next e hu=>
     simp only[ah]at hc;subst hc;simp only[xT]at hx;split at hx
     ·next k off n cp ey=>
      simp only[ah,av]at hx;obtain⟨rfl,rfl⟩:=hx;exact zw hv hop hu (.inl ⟨k,off,n,ey⟩)
     ·next m n ey=>
      simp only[ah,av]at hx;obtain⟨rfl,rfl⟩:=hx;exact zw hv hop hu (.inr ⟨m,ey⟩)
     ·cases hx
    ·cases hc
   ·split at hc
    ·obtain⟨i,_,hc⟩:=aq hc;obtain⟨z,_,rfl⟩:=aj hc;simp[X.isT]at hT
    ·cases hc
   ·cases hc
 |_=>rw[hop]at hc;simp[ay]at hc
end CI
end
section
open Go.RowKit
namespace CI
variable {P : Program} {A : Nat->Prop} {ρ : Nat->Nat} {w : World} {tm : Tm} {a : Act} {o : Oper} {c : C} {h h' : H}
def ME(P:Program)(A:Nat->Prop)(ρ:Nat->Nat)(w:World)(h:H)(r:Result Next)(c:C)(h':H):Prop:=
 ∃u w' ρ',(r= .ok (.value u) w'\/(r= .ok .skip w'/\u=undef))/\bc P A ρ w h ρ' w' h'/\VR P (Ext A h h') ρ' w' c u
theorem aG{k:Nat}{b:B}(e:h.get k=some b):h.live k:=by unfold H.live;rw[e];rfl
theorem nA{r:Nat}{arr:Array Value}{T:TypeId}{xs rest:List Value}(hg:w.heap[r]?=some (.cells arr T (0,0)))(e:arr.toList=xs++rest){j:Nat}{v:Value}(hj:xs[j]?=some v):w.cell? ⟨r,j,none⟩=some v:=by
 rw[cell_of_row w r _ _ _ (0,0) hg,<-cM,e,dN (cN.1 hj).1];exact hj
theorem oV(t:Rel P A ρ w h){k off s:Nat}{r:Bool}{T:TypeId}{l p:List C}{ty:TypeId}(hb:h.get k=some (.cells T l))(hp:eJ l off s=some p)(hc:cT r p=some c)(hr:rowOf P ty=some r)(hs:bE P ty=some s):
  ∃u,(loadVar ty ⟨ρ k,off,none⟩).run P w= .ok u w/\VR P A ρ w c u:=by
 obtain⟨_,_,_,arr,xs,rest,e1,e2,e3,_⟩:=t.blk k _ hb;obtain⟨k1,k2⟩:=e3.get hp;have k3:=k1.cT hc;obtain⟨i,hi1,hi2⟩:=cU hs;have hcell:∀j v,((xs.drop off).take s)[j]?=some v->w.cell? ((⟨ρ k,off,none⟩:Addr).add j)=some v:=fun j v hj=>by
  rw[cK];rw[gP]at hj;split at hj
  ·rw[gV]at hj;exact nA e1 e2 hj
  ·cases hj
 have hlen:((xs.drop off).take s).length=s:=by rw[bf,fU];omega
 cases r with
 |true=>
  simp only[if_true]at k3;refine⟨_,?_,k3⟩;have hr2:=run_loadCells_list (P:=P) (w:=w) ⟨ρ k,off,none⟩ ((xs.drop off).take s) hcell;rw[hlen]at hr2;unfold loadVar;simp[ju hr,sizeOf,typeInfo,hi1,hi2,hr2]
 |false=>
  simp only[ot,if_false]at k3;obtain⟨u,e,k4⟩:=k3;refine⟨u,?_,k4⟩;have h0:=hcell 0 u (by rw[e];rfl);rw[cK,bS]at h0;unfold loadVar;simp[ju hr,h0]
theorem BV(hv:HV P A ρ w tm a o)(t:Rel P A ρ w h){ty:TypeId}{x:Operand}{s:Nat}{r:Bool}(ho:o.op= .load ty x)(hr:rowOf P ty=some r)(hs:bE P ty=some s)(hx:ir r s ((au x).ev tm) h=some c):ME P A ρ w h ((execOp a.eval o).run P w) c h:=by
 have hX:=hv x bp;unfold OpV at hX;unfold ir at hx;split at hx
 ·next k off e=>
  rw[e]at hX;simp only[VR]at hX;split at hx
  ·next T l hb=>
   obtain⟨p,e1,e2⟩:=aq hx;obtain⟨u,k1,k2⟩:=oV t hb e1 e2 hr hs;have p0:=bc.refl t;refine⟨u,w,ρ,.inl ?_,p0,VR.mo ⟨fun _ hk=>.inl hk,fun _ _=>rfl⟩ (Lt.refl w) _ _ k2⟩;unfold execOp;rw[ho];simp[hX.2,Instr.loadAt,Instr.sureAddr,k1]
  ·cases hx
 ·cases hx
theorem lF(t:Rel P A ρ w h){k off:Nat}{T:TypeId}{l l' new:List C}{ys:List Value}{s:Nat}(hb:h.get k=some (.cells T l))(hs:iH l off s new=some l')(hn:VCs P A ρ w new ys)(hl:ys.length=s):
  ∃arr,w.heap[ρ k]?=some (.cells arr T (0,0))/\off+s<=arr.size/\bc P A ρ w h ρ (w.setRow (ρ k) (arr.toList.take off++ys++arr.toList.drop (off+s)).toArray) (h.set k (some (.cells T l'))):=by
 obtain⟨_,_,hlt,arr,xs,rest,e1,e2,e3,e4⟩:=t.blk k _ hb;obtain⟨k1,k2⟩:=e3.set hn hs;have hlen:off+s<=arr.size:=by rw[<-bL,e2,bK];omega
 refine⟨arr,e1,hlen,?_⟩;have hnew:=setRow_heap w (ρ k) arr (arr.toList.take off++ys++arr.toList.drop (off+s)).toArray T (0,0) e1;have hc:Chg (ρ k) w (w.setRow (ρ k) (arr.toList.take off++ys++arr.toList.drop (off+s)).toArray):=⟨rfl,rfl,rfl,by simp,fun j _ hj=>setRow_other w (ρ k) j _ hj⟩;have hsz:(arr.toList.take off++ys++arr.toList.drop (off+s)).toArray.size=arr.size:=by
  simp only[jN,bK,bf,fU,bL];omega
 have hsh:∀q,w.shape? (ρ k)=some q->(w.setRow (ρ k) (arr.toList.take off++ys++arr.toList.drop (off+s)).toArray).shape? (ρ k)=some q:=fun q hq=>by
  unfold World.shape? at hq⊢;rw[e1]at hq;rw[hnew];simp only at hq⊢;rw[hsz];exact hq
 have hLt:=Lt.chg hc e4 hsh;have harr:(arr.toList.take off++ys++arr.toList.drop (off+s))=(xs.take off++ys++xs.drop (off+s))++rest:=by
  rw[e2,rA aa,List.drop_append_of_le_length aa];simp only[fy]
 refine rT t (aG hb) hc e4 hsh ⟨_,xs.take off++ys++xs.drop (off+s),rest,hnew,by rw[og];exact harr,VCs.mo (Mo.refl A ρ) hLt _ _ k1,fun n e=>?_⟩;rw[cell_of_row _ (ρ k) _ _ _ (0,0) hnew,<-cM,og,harr]at e;by_cases hx:(xs.take off++ys++xs.drop (off+s))=[]
 ·have hx0 : xs = [] := by
   apply fS;have:=congrArg List.length hx;simp only[bK,bf,fU,gU]at this;omega
  rw[hx,kg]at e;refine e4 n ?_;rw[cell_of_row _ (ρ k) _ _ _ (0,0) e1,<-cM,e2,hx0,kg];exact e
 ·rw[dN (eM.2 hx)]at e;exact VCs.nw k1 n e
theorem AI(hv:HV P A ρ w tm a o)(t:Rel P A ρ w h){ty:TypeId}{x y:Operand}{s:Nat}(ho:o.op= .store ty x y)(hs:bE P ty=some s)(hx:gW s ((au x).ev tm) ((au y).ev tm) h=some h'):ME P A ρ w h ((execOp a.eval o).run P w) .any h'/\Good h h':=by
 have hX:=hv x bp;have hY:=hv y bp;unfold OpV at hX hY;unfold gW at hx;split at hx
 ·next k off e=>
  rw[e]at hX;simp only[VR]at hX;split at hx
  ·next T l hb=>
   obtain⟨p,e1,hx⟩:=aq hx;split at hx
   ·next hw=>
    obtain⟨l',e2,rfl⟩:=aj hx;have hp:=VR.flat hY e1;have hlen:(a.eval y).cells.toList.length=s:=by rw[hp.len];simpa using hw
    obtain⟨arr,k1,k2,k3⟩:=lF t hb e2 hp hlen;obtain⟨i,hi1,hi2⟩:=cU hs;have hk:k<1000000:=aH (t.live (aG hb)).1 t.bd;refine⟨⟨undef,_,ρ,.inr ⟨?_,rfl⟩,k3,by simp only[VR]⟩,ny hk (aG hb)⟩;have hst:=run_storeCells_at P (ρ k) off T (a.eval y).cells.toList 0 arr w k1 aa hp.one;have hsz:(a.eval y).cells.size=s:=by rw[<-hlen,bL]
    unfold execOp;rw[ho];simp only[bS,hlen]at hst;simp[hX.2,Instr.storeAt,Instr.sureAddr,storeVar,sizeOf,typeInfo,hi1,hi2,hsz,hst]
   ·cases hx
  ·cases hx
 ·cases hx
theorem qt{k r:Nat}{b:B}{w':World}(t:Rel P A ρ w h)(hl:h.live k)(e:(h.set k none).new b=some h')(hd:Dj A h h')(hc:Chg (ρ k) w w')(hnw:NW w (ρ k))(hs:∀s,w.shape? (ρ k)=some s->w'.shape? (ρ k)=some s)
  (hr:r=ρ k\/w.heap.size<=r/\r<w'.heap.size) (hB:∀A' ρ',Mo A A' ρ ρ'->ρ' h.next=r->A' h.next->BR P A' ρ' w' r b):bc P A ρ w h (at' ρ h.next r) w' h'/\Good h h':=by
 obtain⟨m1,m2,m3⟩:=t.live hl;have hk:k<1000000:=aH m1 t.bd;obtain⟨s1,s2,s3,s4⟩:=ku (h:=h) (b:=none) hk;obtain⟨k1,k2,k3,k4,k5⟩:=bP e;rw[s1]at k1 k4 k5;rw[s2]at k3;have hlt:=Lt.chg hc hnw hs;have hmo:Mo A (Ext A h h') ρ (at' ρ h.next r):=⟨fun _ hk=> .inl hk,fun k hk=>by
  have:=hd k hk;unfold at';rw[an aa]⟩
 have hat:∀j,j≠h.next->at' ρ h.next r j=ρ j:=fun j hj=>by unfold at';rw[an hj]
 have hatn:at' ρ h.next r h.next=r:=by unfold at';rw[aB rfl]
 have hT:∀j,T.get h'.t j=if j=h.next then some b else if j=k then none else T.get h.t j:=fun j=>by rw[k5,s4]
 have hg:∀j c,h'.get j=some c->(j=h.next/\c=b)\/(j≠h.next/\j≠k/\h.get j=some c):=fun j c ej=>by
  unfold H.get at ej⊢;rw[k3]at ej;split at ej
  ·cases ej
  ·next hf=>
   rw[hT]at ej;by_cases e1:j=h.next
   ·rw[aB e1]at ej;simp only[ah]at ej;exact .inl ⟨e1,ej.symm⟩
   ·rw[an e1]at ej;by_cases e2:j=k
    ·rw[aB e2]at ej;cases ej
    ·rw[an e2]at ej;exact .inr ⟨e1,e2,ej⟩
 have hlv:∀j,h'.live j->j=h.next\/(j≠h.next/\j≠k/\h.live j):=fun j hj=>by
  obtain⟨c,ec⟩:=bH.1 hj;rcases hg j c ec with⟨e1,_⟩|⟨e1,e2,e3⟩
  ·exact .inl e1
  ·exact .inr ⟨e1,e2,aG e3⟩
 have hlow:h'.low<=h.low/\h'.low<=k:=by rw[k2];exact s3
 refine⟨⟨fun j hj=>hat j aa,⟨fun j c ej=>?_,fun i j hi hj ee=>?_,by omega⟩,hlt,fun q hq hn=>hc.block q hq fun e2=>hn k hl hlow.2 e2.symm,fun j hj hlj=>?_⟩,⟨by omega,hlow.1,k3,fun j hj hlo=>?_,fun j hj hd=>?_⟩⟩
 ·rcases hg j c ej with⟨e1,e2⟩|⟨e1,e2,e3⟩
  ·subst e1;subst e2;have hA:Ext A h h' h.next:= .inr ⟨ai _,by omega⟩
   rw[hatn];refine⟨by omega,hA,?_,hB _ _ hmo hatn hA⟩;rcases hr with hr|hr
   ·rw[hr];exact aH m3 hlt.size
   ·exact hr.2
  ·obtain⟨n1,n2,n3,n4⟩:=t.blk j c e3;rw[hat j e1];have hne:ρ j≠ρ k:=fun e5=>e2 (t.inj j k (aG e3) hl e5);exact⟨by omega, .inl n2,aH n3 hlt.size,n4.mo hmo hlt (hc.block _ n3 hne)⟩
 ·have key : ∀ i, i ≠ h.next -> i ≠ k -> h.live i -> ρ i ≠ r := fun i h1 h2 h3 e5 => by
   rcases hr with hr|hr
   ·rw[hr]at e5;exact h2 (t.inj i k h3 hl e5)
   ·have:=(t.live h3).2.2;omega
  rcases hlv i hi with hi'|⟨hi1,hi2,hi3⟩<;>rcases hlv j hj with hj'|⟨hj1,hj2,hj3⟩
  ·rw[hi',hj']
  ·rw[hi',hatn,hat j hj1]at ee;exact absurd ee.symm (key j hj1 hj2 hj3)
  ·rw[hj',hatn,hat i hi1]at ee;exact absurd ee (key i hi1 hi2 hi3)
  ·rw[hat i hi1,hat j hj1]at ee;exact t.inj i j hi3 hj3 ee
 ·rcases hlv j hlj with e1|⟨_,_,e3⟩
  ·subst e1;rw[hatn];rcases hr with hr|hr
   ·exact .inr ⟨k,hl,hlow.2,hr⟩
   ·exact .inl hr.1
  ·have:=(t.live e3).1;omega
 ·rw[hT,an aa,an aa]
 ·rw[hT,an aa,an (fun e2=>hd (by rw[e2];exact hl))]
end CI
end
section
open Go.RowKit
namespace CI
variable {P : Program} {A : Nat->Prop} {ρ : Nat->Nat} {w : World} {tm : Tm} {a : Act} {o : Oper} {c : C} {h h' : H}
theorem yq(t:Rel P A ρ w h){s m:Nat}{b:C}{v:Value}{new:List C}(hb:slW s b h=some (new,m))(hv:VR P A ρ w b v):∃ys,VCs P A ρ w new ys/\ys.length=m*s/\((m=0/\∃ad cp,v= .slice ad 0 cp)\/∃ad cp,v= .slice (some ad) m cp/\∀j u,ys[j]?=some u->w.cell? (ad.add j)=some u):=by
 unfold slW at hb;split at hb
 ·simp only[ah,av]at hb;obtain⟨rfl,rfl⟩:=hb;simp only[VR]at hv;exact⟨[],by simp only[VCs],by simp,.inl ⟨rfl,none,0,hv.1⟩⟩
 ·simp only[ah,av]at hb;obtain⟨rfl,rfl⟩:=hb;simp only[VR]at hv;exact⟨[],by simp only[VCs],by simp,.inl ⟨rfl,hv⟩⟩
 ·next k off n cp ex=>
  split at hb
  ·next T l hg=>
   obtain⟨p,e1,e2⟩:=aj hb;simp only[av]at e2;obtain⟨rfl,rfl⟩:=e2;obtain⟨_,_,_,arr,xs,rest,f1,f2,f3,_⟩:=t.blk k _ hg;obtain⟨k1,k2⟩:=f3.get e1;simp only[VR]at hv;obtain⟨_,cap,hv,_⟩:=hv;refine⟨_,k1,by rw[bf,fU];omega,.inr ⟨_,_,hv,fun j u hj=>?_⟩⟩;rw[cK];rw[gP]at hj;split at hj
   ·rw[gV]at hj;exact nA f1 f2 hj
   ·cases hj
  ·cases hb
 ·cases hb
theorem iQ{T s m cap:Nat}{arr:Array Value}{A':Nat->Prop}{ρ':Nat->Nat}{w':World}{k r:Nat}(hA:A' k)(hr:ρ' k=r)(hg:w'.heap[r]?=some (.cells arr T (0,0)))(hs:bE P T=some s)(hm:m<=cap)(hml:cap<=maxLen)(hsz:arr.size=cap*s):VR P A' ρ' w' (.sl k 0 m m false) (.slice (some ⟨r,0,none⟩) m cap):=by
 simp only[VR,ot,false_imp_iff,true_and,true_imp_iff];refine⟨hA,cap,by rw[hr],ai _,hm,hml,T,s,?_,hs⟩;unfold World.shape?;rw[hr,hg];show some (T,arr.size)=_;rw[hsz]
theorem mS(w:World)(arr:Array Value)(T:TypeId){l:List C}{xs rest:List Value}{A':Nat->Prop}{ρ':Nat->Nat}(m:Mo A A' ρ ρ')(hb:Below w.heap.size w (w.drew.alloc (.cells arr T)))(e:arr.toList=xs++rest)(hl:VCs P A ρ w l xs)(hne:xs≠[]):BR P A' ρ' (w.drew.alloc (.cells arr T)) w.heap.size (.cells T l):=by
 refine⟨arr,xs,rest,heap_alloc_new w.drew _,e,VCs.mo m (Lt.below hb) _ _ hl,fun n e2=>?_⟩;rw[cell_of_row _ w.heap.size _ _ _ (0,0) (heap_alloc_new w.drew _),<-cM,e,dN (eM.2 hne)]at e2;exact VCs.nw hl n e2
theorem eX(w:World)(arr:Array Value)(T:TypeId):Below w.heap.size w (w.drew.alloc (.cells arr T)):=((Below.refl _ w).drew).alloc (by exact ai _) _
theorem rX{t ty e:TypeId}{i:TypeInfo}(ht:P.underlying t=some (.slice e))(hi:P.info? e=some i){g off n cap:Nat}{cur:Array Value}{T:TypeId}(hg:w.heap[g]?=some (.cells cur T (0,0)))
  {ad:Addr} {m cp:Nat} {ys:List Value} (hl:ys.length=m*i.size) (hc:∀j u,ys[j]?=some u->w.cell? (ad.add j)=some u) (h1:∀u∈ys,u.oneCell'=true) (hroom:n+m<=cap) (hfit:off+n*i.size+ys.length<=cur.size):
  (Builtin.append_ #[t,t] ty #[.slice (some ⟨g,off,none⟩) n cap,.slice (some ad) m cp]).run P w= .ok (.slice (some ⟨g,off,none⟩) (n+m) cap) (w.setRow g (cur.toList.take (off+n*i.size)++ys++cur.toList.drop (off+n*i.size+ys.length)).toArray):=by
 have hf:=run_firstCells_some (P:=P) w i.size m ad m cp ys hl hc;have hst:=run_storeCells_at P g (off+n*i.size) T ys 0 cur w hg (by simpa using hfit) h1;simp only[bS]at hst;simp[Builtin.append_,run_underlying ht,sizeOf,typeInfo,hi,Builtin.lenOf,hroom,hf,Addr.add_lit,hst]
theorem m_app(hv:HV P A ρ w tm a o)(t:Rel P A ρ w h)(hd:Dj A h h'){ty e:TypeId}{x y:Operand}{s:Nat}{i:TypeInfo}{z:List C}(ho:o.op= .call {callee:=.builtin .append,args:=#[x,y],argTypes:=#[ty,ty]})(hu:P.underlying ty=some (.slice e))(hi:P.info? e=some i)(his:i.size=s)(hz:zOf P e=some z)(hby:i.bytes<=100000)(h0:0<s)
  (hx:rI e s ((au x).ev tm) ((au y).ev tm) h=some (c,h')):ME P A ρ w h ((execOp a.eval o).run P w) c h'/\Good h h':=by
 have hX:=hv x gB;have hY:=hv y gB;unfold OpV at hX hY;unfold rI at hx;have hq:=aq hx;clear hx;obtain⟨⟨new,m⟩,e1,hx⟩:=hq;obtain⟨ys,k1,k2,k3⟩:=yq t e1 hY;obtain⟨i',zv,z1,z2,z3,_⟩:=fH hz;rw[hi]at z1;simp only[ah]at z1;subst z1;have hse:bE P e=some s:=by unfold bE;rw[hi,bX,his]
 have hex:∀v w',(Builtin.append_ #[ty,ty] o.type #[a.eval x,a.eval y]).run P w= .ok v w'->(execOp a.eval o).run P w= .ok (.value v) w':=fun v w' hr=>by
  unfold execOp;rw[ho];simp[resolve,invoke,builtin,hr]
 simp only at hx;unfold jc at hx;split at hx
 ·
  have hys:ys=[]:=fS (by simpa using k2);have hyv:∃ad cp,a.eval y= .slice ad 0 cp:=by
   rcases k3 with⟨_,h⟩|⟨ad,cp,h,_⟩
   ·exact h
   ·exact⟨_,_,h⟩
  obtain⟨ad,cp,hyv⟩:=hyv;have hfc:∀ad:Option Addr,(Builtin.firstCells i.size 0 (.slice ad 0 cp)).run P w= .ok #[] w:=fun ad=>by
   cases ad<;>simp[Builtin.firstCells,loadCells,loadCellsFrom]
  have key:c=(au x).ev tm/\h'=h/\∃b n cap,a.eval x= .slice b n cap/\n<=cap:=by
   split at hx
   ·next ex=>
    simp only[ah,av]at hx;obtain⟨rfl,rfl⟩:=hx;rw[ex]at hX;simp only[VR]at hX;exact⟨rfl,rfl,_,_,_,hX.1,ai _⟩
   ·next k off n cp' e' ex=>
    simp only[ah,av]at hx;obtain⟨rfl,rfl⟩:=hx;rw[ex]at hX;simp only[VR]at hX;obtain⟨_,cap,hX,q1,q2,_⟩:=hX;exact⟨rfl,rfl,_,_,_,hX,by omega⟩
   ·cases hx
  obtain⟨rfl,rfl,b,n,cap,hxv,hle⟩:=key;have hrun:(Builtin.append_ #[ty,ty] o.type #[a.eval x,a.eval y]).run P w= .ok (a.eval x) w:=by
   rw[hxv,hyv];have hru:=run_underlying hu w;simp[Builtin.append_,hru,sizeOf,typeInfo,hi,Builtin.lenOf,hle,hfc];cases b<;>simp[storeCells]
  exact⟨⟨_,w,ρ,.inl (hex _ _ hrun),bc.refl t,VR.mo ⟨fun _ hk=>.inl hk,fun _ _=>rfl⟩ (Lt.refl w) _ _ hX⟩,Good.refl _⟩
 ·next hm0=>
  have hmp:0<m:=fR hm0;obtain⟨ad,cp,hyv,hcell⟩:=k3.resolve_left (fun q=>hm0 q.1);have hysne:ys≠[]:=fun e2=>by
   rw[e2]at k2;have:0<m*s:=mr hmp h0;simp at k2;omega
  have hz3:zv.cells.size=i.size:=z3;have hzc:∀n,(Builtin.zeroCells zv.cells n).size=n*s:=fun n=>by rw[size_zeroCells,hz3,his]
  split at hx
  ·next ex=>
   split at hx<;>try(cases hx;done)
   next hml=>
   have hmle:=bG hml;obtain⟨h1,e2,e3⟩:=aj hx;simp only[av]at e3;obtain⟨rfl,rfl⟩:=e3;rw[ex]at hX;simp only[VR]at hX;have hr:=run_append_nil (P:=P) w ty o.type e i zv hu hi z2 ad m cp ys (by rw[his];exact k2) hcell hmp aa (aE (bF hmle hby) aA);rw[<-hX.1,<-hyv]at hr;have hge:=grownCap_ge w m 0 e;have hel:(ys.toArray++Builtin.zeroCells zv.cells (grownCap w m 0 e-m)).toList=ys++(Builtin.zeroCells zv.cells (grownCap w m 0 e-m)).toList:=by simp
   have hp:=gH (r:=w.heap.size) t e2 hd (eX w _ e) (ai _) aO (fun A' ρ' mo h1 h2=>mS w _ e mo (eX w _ e) hel k1 hysne);refine⟨⟨_,_,_,.inl (hex _ _ hr),hp,?_⟩,nC e2⟩;refine iQ (.inr ⟨ai _,by have:=(bP e2).1;omega⟩) ri (heap_alloc_new w.drew _) hse hge (grownCap_le_maxLen w m 0 e rh) ?_;rw[mu,hzc,jN,k2,<-aU];congr 1;omega
  ·next k off n cp' exx ex=>
   rw[ex]at hX;simp only[VR]at hX;obtain⟨hA,cap,hxv,q1,q2,q3,q4⟩:=hX;split at hx
   ·next T' l hg=>
    split at hx
    ·cases hx
    ·next hT=>
     have hT':T'=e:=by simpa using hT
     subst hT';obtain⟨_,_,hlt,arr,xs,rest,f1,f2,f3,f4⟩:=t.blk k _ hg;split at hx
     ·next hroom=>
      have hroom':=bG hroom;obtain⟨l',e2,e3⟩:=aj hx;simp only[av]at e3;obtain⟨rfl,rfl⟩:=e3;have hlen:(ys).length=m*i.size:=by rw[his];exact k2
      obtain⟨arr',g1,g2,g3⟩:=lF t hg e2 k1 k2;rw[f1]at g1;simp only[ah,Obj.cells.injEq,and_true]at g1;obtain rfl:=g1.symm;have hr:=rX (ty:=o.type) (cap:=cap) (cp:=cp) hu hi (off:=off) (n:=n) f1 hlen hcell (VCs.one k1) aa (by rw[hlen,his];exact g2);rw[<-hxv,<-hyv,hlen,his]at hr;have hk:k<1000000:=aH (t.live (aG hg)).1 t.bd;refine⟨⟨_,_,_,.inl (hex _ _ hr),g3,?_⟩,ny hk (aG hg)⟩;simp only[VR];refine⟨.inl hA,cap,rfl,hroom',q2,q3,fun r1 r2=>?_⟩;obtain⟨r3,T,s',r4,r5⟩:=q4 r1 r2;exact⟨r3,T,s',g3.lt.shape _ _ r4,r5⟩
     ·next hf=>
      split at hx
      ·next hle=>
       have hle':=bG hle;obtain⟨old,e2,hx⟩:=aq hx;have hnle:¬n+m<=cp':=fun e5=>by
        rw[iE e5]at hf;cases hf
       obtain⟨g1,g2⟩:=f3.get e2;have hlo:((xs.drop off).take (n*s)).length=n*s:=by rw[bf,fU];omega
       have hold:∀j u,((xs.drop off).take (n*s))[j]?=some u->w.cell? ((⟨ρ k,off,none⟩:Addr).add j)=some u:=fun j u hj=>by
        rw[cK];rw[gP]at hj;split at hj
        ·rw[gV]at hj;exact nA f1 f2 hj
        ·cases hj
       have hne:(xs.drop off).take (n*s)++ys≠[]:=fun e5=>hysne (List.append_eq_nil_iff.1 e5).2;have hgr:∀cap,cap<n+m->_:=fun cap hc=>run_append_grow (P:=P) w ty o.type T' i zv hu hi z2 ⟨ρ k,off,none⟩ n cap _ (by rw[his];exact hlo) hold ad m cp ys (by rw[his];exact k2) hcell hc aa (growslice_fits hc (aE (bF hle' hby) aA));have hge:=grownCap_ge w (n+m) cap T';have hgm:=grownCap_le_maxLen w (n+m) cap T' rh;have hel:(((xs.drop off).take (n*s)).toArray++ys.toArray++Builtin.zeroCells zv.cells (grownCap w (n+m) cap T'-(n+m))).toList=((xs.drop off).take (n*s)++ys)++(Builtin.zeroCells zv.cells (grownCap w (n+m) cap T'-(n+m))).toList:=by simp
       have hasz:(((xs.drop off).take (n*s)).toArray++ys.toArray++Builtin.zeroCells zv.cells (grownCap w (n+m) cap T'-(n+m))).size=grownCap w (n+m) cap T'*s:=by
        rw[mu,mu,hzc,jN,jN,k2,hlo,<-aU,<-aU];congr 1;omega
       split at hx
       ·next he=>
        obtain⟨h1,e3,e4⟩:=aj hx;simp only[av]at e4;obtain⟨rfl,rfl⟩:=e4;have hcap:cap=cp':=q3 aO;have hr:=hgr cap aa;rw[<-hxv,<-hyv]at hr;have hp:=gH (r:=w.heap.size) t e3 hd (eX w _ T') (ai _) aO (fun A' ρ' mo h1 h2=>mS w _ T' mo (eX w _ T') hel (VCs.app k1 g1) hne);refine⟨⟨_,_,_,.inl (hex _ _ hr),hp,?_⟩,nC e3⟩;exact iQ (.inr ⟨ai _,by have:=(bP e3).1;omega⟩) ri (heap_alloc_new w.drew _) hse hge hgm hasz
       ·split at hx
        ·obtain⟨h1,e3,e4⟩:=aj hx;simp only[av]at e4;obtain⟨rfl,rfl⟩:=e4;obtain⟨r3,T2,s',r4,r5⟩:=q4 aO rfl;have hk:k<1000000:=aH (t.live (aG hg)).1 t.bd;have hnx:h1.next=h.next+1:=(bP e3).1
         have hT2:T2=T'/\cap*s'=arr.size:=by
          unfold World.shape? at r4;rw[f1]at r4;simp only[ah,av]at r4;exact⟨r4.1.symm,r4.2.symm⟩
         rw[hT2.1,hse]at r5;simp only[ah]at r5;subst r5;by_cases hroom:n+m<=cap
         ·have hlen:ys.length=m*i.size:=by rw[his];exact k2
          have hfit:0+n*i.size+ys.length<=arr.size:=by
           rw[hlen,his,bU,<-aU,<-hT2.2];exact cE _ hroom
          have hr:=rX (ty:=o.type) (cap:=cap) (cp:=cp) hu hi (off:=0) (n:=n) f1 hlen hcell (VCs.one k1) hroom hfit;rw[<-hxv,<-hyv,hlen,his,bU]at hr;rw[hlen,his,bU]at hfit;have hnew:=setRow_heap w (ρ k) arr (arr.toList.take (n*s)++ys++arr.toList.drop (n*s+m*s)).toArray T' (0,0) f1;have hc:Chg (ρ k) w (w.setRow (ρ k) (arr.toList.take (n*s)++ys++arr.toList.drop (n*s+m*s)).toArray):=⟨rfl,rfl,rfl,by simp,fun j _ hj=>setRow_other w (ρ k) j _ hj⟩;have hsz:(arr.toList.take (n*s)++ys++arr.toList.drop (n*s+m*s)).toArray.size=arr.size:=by
           simp only[jN,bK,bf,fU,bL,k2];omega
          have hsh:∀q,w.shape? (ρ k)=some q->(w.setRow (ρ k) (arr.toList.take (n*s)++ys++arr.toList.drop (n*s+m*s)).toArray).shape? (ρ k)=some q:=fun q hq=>by
           unfold World.shape? at hq⊢;rw[f1]at hq;rw[hnew];simp only at hq⊢;rw[hsz];exact hq
          have hold2:arr.toList.take (n*s)=(xs.drop 0).take (n*s):=by
           rw[f2,iX,rA aa]
          have hmp:=qt (r:=ρ k) t (aG hg) e3 hd hc f4 hsh (.inl rfl) (fun A' ρ' mo h1 h2=>⟨_,(xs.drop 0).take (n*s)++ys,arr.toList.drop (n*s+m*s),hnew,by rw[og,hold2],VCs.mo mo (Lt.chg hc f4 hsh) _ _ (VCs.app k1 g1),fun q e5=>by
           rw[cell_of_row _ (ρ k) _ _ _ (0,0) hnew,<-cM,og,hold2,dN (eM.2 hne)]at e5;exact VCs.nw (VCs.app k1 g1) q e5⟩)
          refine⟨⟨_,_,_,.inl (hex _ _ hr),hmp.1,?_⟩,hmp.2⟩;exact iQ (.inr ⟨ai _,by omega⟩) ri hnew hse hroom r3 (by rw[hsz,hT2.2])
         ·have hr:=hgr cap aa;rw[<-hxv,<-hyv]at hr;have hbl:=eX w (((xs.drop 0).take (n*s)).toArray++ys.toArray++Builtin.zeroCells zv.cells (grownCap w (n+m) cap T'-(n+m))) T';have hmp:=qt (r:=w.heap.size) t (aG hg) e3 hd (Chg.of hbl) f4 (fun q hq=>(Lt.below hbl).shape _ _ hq) (.inr ⟨ai _,by simp⟩) (fun A' ρ' mo h1 h2=>mS w _ T' mo hbl hel (VCs.app k1 g1) hne);refine⟨⟨_,_,_,.inl (hex _ _ hr),hmp.1,?_⟩,hmp.2⟩;exact iQ (.inr ⟨ai _,by omega⟩) ri (heap_alloc_new w.drew _) hse hge hgm hasz
        ·cases hx
      ·cases hx
   ·cases hx
  ·cases hx
end CI
end
section
open Go.RowKit
namespace CI
variable {P : Program} {A : Nat->Prop} {ρ : Nat->Nat} {w : World} {tm : Tm} {a : Act} {o : Oper} {c : C} {h h' h'' : H}
structure Wf(h:H):Prop where
 bd:h.next<=1000000
 lt:∀k b,T.get h.t k=some b->k<h.next
structure Gd(h h':H):Prop where
 wf:Wf h'
 good:Good h h'
theorem ew{k:Nat}{b:B}(e:h.get k=some b):T.get h.t k=some b:=by
 unfold H.get at e;split at e
 ·cases e
 ·exact e
theorem Gd.refl(f:Wf h):Gd h h:=⟨f,Good.refl h⟩
theorem Gd.trans(g:Gd h h')(g':Gd h' h''):Gd h h'':=⟨g'.wf,g.good.trans g'.good⟩
theorem gk{b:B}(f:Wf h)(e:h.new b=some h'):Gd h h':=by
 obtain⟨h1,h2,h3,h4,h5⟩:=bP e;refine⟨⟨by omega,fun k c hc=>?_⟩,nC e⟩;rw[h5]at hc;split at hc
 ·omega
 ·have:=f.lt k c hc;omega
theorem eE{k:Nat}{b:Option B}(f:Wf h)(hl:h.live k):Gd h (h.set k b):=by
 obtain⟨c,ec⟩:=bH.1 hl;have hk:=f.lt k c (ew ec);have hk':k<1000000:=aH hk f.bd;obtain⟨k1,k2,k3,k4⟩:=ku (h:=h) (b:=b) hk';refine⟨⟨by rw[k1];exact f.bd,fun j d hd=>?_⟩,ny hk' hl⟩;rw[k4]at hd;rw[k1];split at hd
 ·next e=>rw[e];exact hk
 ·exact f.lt j d hd
theorem kb{b:Option B}(f:Wf h)(e:h.fw b=some h'):Gd h h':=by
 cases b with
 |none=>simp only[H.fw,ah]at e;subst e;exact Gd.refl f
 |some b=>exact gk f e
theorem wv{s:Nat}{x y:C}(f:Wf h)(e:gW s x y h=some h'):Gd h h':=by
 unfold gW at e;split at e
 ·split at e
  ·next hb=>
   obtain⟨p,_,e⟩:=aq e;split at e
   ·obtain⟨l',_,rfl⟩:=aj e;exact eE f (aG hb)
   ·cases e
  ·cases e
 ·cases e
theorem ya{T s m:Nat}{x:C}{new:List C}(f:Wf h)(e:jc T s x new m h=some (c,h')):Gd h h':=by
 unfold jc at e;split at e
 ·split at e
  ·simp only[ah,av]at e;obtain⟨_,rfl⟩:=e;exact Gd.refl f
  ·simp only[ah,av]at e;obtain⟨_,rfl⟩:=e;exact Gd.refl f
  ·cases e
 ·split at e
  ·split at e
   ·obtain⟨h1,e1,e2⟩:=aj e;simp only[av]at e2;obtain⟨_,rfl⟩:=e2;exact gk f e1
   ·cases e
  ·split at e
   ·next hb=>
    split at e
    ·cases e
    ·split at e
     ·obtain⟨l',_,e2⟩:=aj e;simp only[av]at e2;obtain⟨_,rfl⟩:=e2;exact eE f (aG hb)
     ·split at e
      ·obtain⟨old,_,e⟩:=aq e;split at e
       ·obtain⟨h1,e1,e2⟩:=aj e;simp only[av]at e2;obtain⟨_,rfl⟩:=e2;exact gk f e1
       ·split at e
        ·obtain⟨h1,e1,e2⟩:=aj e;simp only[av]at e2;obtain⟨_,rfl⟩:=e2;have g:=eE (b:=none) f (aG hb);exact g.trans (gk g.wf e1)
        ·cases e
      ·cases e
   ·cases e
  ·cases e
theorem zX{s:Nat}{z:List C}{x:C}(f:Wf h)(e:rH s z x h=some h'):Gd h h':=by
 unfold rH at e;split at e
 ·simp only[ah]at e;subst e;exact Gd.refl f
 ·split at e
  ·simp only[ah]at e;subst e;exact Gd.refl f
  ·split at e
   ·next hb=>
    obtain⟨l',_,rfl⟩:=aj e;exact eE f (aG hb)
   ·cases e
 ·cases e
def cF(rec:Rec):Prop:=∀f args h c h',rec (.call f args h)=some (.val c h')->Wf h->Gd h h'
theorem iq{rec:Rec}(hr:cF rec){x:X}(f:Wf h)(e:xR rec x tm h=some (c,h')):Gd h h':=by
 unfold xR at e;split at e
 ·obtain⟨d,_,e2⟩:=aj e;simp only[av]at e2;obtain⟨_,rfl⟩:=e2;exact Gd.refl f
 ·obtain⟨d,e1,e2⟩:=aj e;simp only[av]at e2;obtain⟨_,rfl⟩:=e2;exact wv f e1
 ·unfold rI at e;obtain⟨⟨new,m⟩,_,e⟩:=aq e;exact ya f e
 ·split at e
  ·split at e
   ·obtain⟨h1,e1,e2⟩:=aj e;simp only[av]at e2;obtain⟨_,rfl⟩:=e2;exact gk f e1
   ·cases e
  ·cases e
 ·obtain⟨d,e1,e2⟩:=aj e;simp only[av]at e2;obtain⟨_,rfl⟩:=e2;exact zX f e1
 ·split at e
  ·next ec=>
   simp only[ah,av]at e;obtain⟨rfl,rfl⟩:=e;exact hr _ _ _ _ _ ec f
  ·cases e
 ·cases e
theorem BW(hv:HV P A ρ w tm a o)(t:Rel P A ρ w h)(hd:Dj A h h'){ty tn e:TypeId}{x y:Operand}{m:Nat}{i:TypeInfo}{z:List C}{kn:IntKind}(ho:o.op= .call {callee:=.builtin .append,args:=#[x,y],argTypes:=#[ty,tn]})(hu:P.underlying ty=some (.slice e))(hn:P.underlying tn=some (.int kn))(hi:P.info? e=some i)(hz:zOf P e=some z)(hby:i.bytes<=100000)(h0:0<i.size)
  (hx:(au x).ev tm= .sc (.slice none 0 0)) (hy:dc ((au y).ev tm)=some (m+1)) (hm:m+1<=1000000) (hnew:h.new (.cells e (dp z (m+1)))=some h'):ME P A ρ w h ((execOp a.eval o).run P w) (.sl h.next 0 (m+1) (m+1) false) h':=by
 have hX:=hv x gB;have hY:=hv y gB;unfold OpV at hX hY;rw[hx]at hX;simp only[VR]at hX;obtain⟨kq,hyv⟩:=dE hy hY;obtain⟨i',zv,z1,z2,z3,z4⟩:=fH hz;rw[hi]at z1;simp only[ah]at z1;subst z1;have hse:bE P e=some i.size:=by unfold bE;rw[hi,bX]
 have hb1:(m+1)*i.bytes<=1000000*100000:=bF hm hby
 have hr:=Lib.run_append_grow_zeros (P:=P) w ty tn o.type e i zv kq kn hu hn hi z2 none 0 0 [] (run_firstCells_none (P:=P) w.drew i.size 0 0 0) (m+1) aa h0 aa aa aa (growslice_fits aa (by rw[bU];omega));rw[bU]at hr;have hge:=grownCap_ge w (m+1) 0 e;have hzz:∀n,(Builtin.zeroCells zv.cells n)=madeCells zv.cells (n*zv.cells.size):=fun n=>rfl;have hzc:∀n,(Builtin.zeroCells zv.cells n).size=n*i.size:=fun n=>by rw[size_zeroCells,z3]
 have hl:VCs P A ρ w (dp z (m+1)) (Builtin.zeroCells zv.cells (m+1)).toList:=by rw[hzz];exact gn (z4 _ _ _) (m+1)
 have hne:(Builtin.zeroCells zv.cells (m+1)).toList≠[]:=fun e2=>by
  have:=congrArg List.length e2;rw[bL,hzc,gU]at this;have:=mr (show 0<m+1 by omega) h0;omega
 have hel:(([]:List Value).toArray++Builtin.zeroCells zv.cells (m+1)++Builtin.zeroCells zv.cells (grownCap w (m+1) 0 e-(m+1))).toList=(Builtin.zeroCells zv.cells (m+1)).toList++(Builtin.zeroCells zv.cells (grownCap w (m+1) 0 e-(m+1))).toList:=by simp
 have hp:=gH (r:=w.heap.size) t hnew hd (eX w _ e) (ai _) aO (fun A' ρ' mo h1 h2=>mS w _ e mo (eX w _ e) hel hl hne);refine⟨_,_,_,.inl ?_,hp,iQ (.inr ⟨ai _,by have:=(bP hnew).1;omega⟩) (by unfold at';rw[aB rfl];rfl) (heap_alloc_new w.drew _) hse hge (grownCap_le_maxLen w (m+1) 0 e rh) ?_⟩
 ·rw[<-hX.1,<-hyv]at hr;unfold execOp;rw[ho];simp[resolve,invoke,builtin,hr]
 ·rw[mu,mu,hzc,hzc];simp only[jN,gU,bU];rw[<-aU];congr 1;omega
theorem m_clr(hv:HV P A ρ w tm a o)(t:Rel P A ρ w h){ty e:TypeId}{x:Operand}{i:TypeInfo}{z:List C}(ho:o.op= .call {callee:=.builtin .clear,args:=#[x],argTypes:=#[ty]})(hu:P.underlying ty=some (.slice e))(hi:P.info? e=some i)(hz:zOf P e=some z)
  (hx:rH i.size z ((au x).ev tm) h=some h'):ME P A ρ w h ((execOp a.eval o).run P w) .any h':=by
 have hX:=hv x gB;unfold OpV at hX;obtain⟨i',zv,z1,z2,z3,z4⟩:=fH hz;rw[hi]at z1;simp only[ah]at z1;subst z1;have hex:∀v w',(Builtin.clear_ #[ty] o.type #[a.eval x]).run P w= .ok v w'->(execOp a.eval o).run P w= .ok (.value v) w':=fun v w' hr=>by
  unfold execOp;rw[ho];simp[resolve,invoke,builtin,hr]
 have hru:=run_underlying hu w;unfold rH at hx;split at hx
 ·next n cp ex=>
  simp only[ah]at hx;subst hx;rw[ex]at hX;simp only[VR]at hX;have hr:(Builtin.clear_ #[ty] o.type #[a.eval x]).run P w= .ok (.tuple #[]) w:=by
   rw[hX.1];simp[Builtin.clear_,hru]
  exact⟨_,w,ρ,.inl (hex _ _ hr),bc.refl t,by simp only[VR]⟩
 ·next k off n cp ce ex=>
  rw[ex]at hX;simp only[VR]at hX;obtain⟨_,cap,hX,_⟩:=hX
  cases n with
  |zero=>
   simp only[ah]at hx;subst hx;have hr:(Builtin.clear_ #[ty] o.type #[a.eval x]).run P w= .ok (.tuple #[]) w:=by
    rw[hX];simp[Builtin.clear_,hru]
   exact⟨_,w,ρ,.inl (hex _ _ hr),bc.refl t,by simp only[VR]⟩
  |succ m=>
   simp only at hx;split at hx
   ·next T l hb=>
    obtain⟨l',e2,rfl⟩:=aj hx;have hzc:(Builtin.zeroCells zv.cells (m+1)).toList.length=(m+1)*i.size:=by rw[bL,size_zeroCells,z3]
    have hl:VCs P A ρ w (dp z (m+1)) (Builtin.zeroCells zv.cells (m+1)).toList:=by
     show VCs P A ρ w (dp z (m+1)) (madeCells zv.cells ((m+1)*zv.cells.size)).toList;exact gn (z4 _ _ _) (m+1)
    obtain⟨arr,k1,k2,k3⟩:=lF t hb e2 hl hzc;have hst:=run_storeCells_at P (ρ k) off T (Builtin.zeroCells zv.cells (m+1)).toList 0 arr w k1 aa hl.one;simp only[bS,hzc]at hst;have hzr:(zeroValue e).run P w= .ok zv w:=by simp[zeroValue,typeInfo,hi,z2]
    have hr:(Builtin.clear_ #[ty] o.type #[a.eval x]).run P w= .ok (.tuple #[]) (w.setRow (ρ k) (arr.toList.take off++(Builtin.zeroCells zv.cells (m+1)).toList++arr.toList.drop (off+(m+1)*i.size)).toArray):=by
     rw[hX];simp[Builtin.clear_,hru,hzr,hst]
    exact⟨_,_,ρ,.inl (hex _ _ hr),k3,by simp only[VR]⟩
   ·cases hx
 ·cases hx
theorem sT{op:Op}{x:X}(hc:ay P op=some x)(hT:x.isT=false):(∃ty y,op= .load ty y)\/(∃ty y v,op= .store ty y v)\/∃cl,op= .call cl:=by
 cases hop:op with
 |load ty y=>exact .inl ⟨ty,y,rfl⟩
 |store ty y v=>exact .inr (.inl ⟨ty,y,v,rfl⟩)
 |call cl=>exact .inr (.inr ⟨cl,rfl⟩)
 |move y=>rw[hop]at hc;simp only[ay,ah]at hc;subst hc;simp[X.isT]at hT
 |assign y=>rw[hop]at hc;simp only[ay,ah]at hc;subst hc;simp[X.isT]at hT
 |pick y y1 y2=>rw[hop]at hc;simp only[ay,ah]at hc;subst hc;simp[X.isT]at hT
 |box t y=>rw[hop]at hc;simp only[ay,ah]at hc;subst hc;simp[X.isT]at hT
 |unOp op t y=>rw[hop]at hc;simp only[ay,ah]at hc;subst hc;simp[X.isT]at hT
 |extract y i=>rw[hop]at hc;simp only[ay,ah]at hc;subst hc;simp[X.isT]at hT
 |nilCheck y=>rw[hop]at hc;simp only[ay,ah]at hc;subst hc;simp[X.isT]at hT
 |alloc t=>rw[hop]at hc;simp only[ay]at hc;obtain⟨_,_,rfl⟩:=aj hc;simp[X.isT]at hT
 |build t ps=>
  rw[hop]at hc;simp only[ay]at hc;split at hc
  ·split at hc
   ·obtain⟨_,_,hc⟩:=aq hc;obtain⟨_,_,rfl⟩:=aj hc;simp[X.isT]at hT
   ·cases hc
  ·obtain⟨_,_,hc⟩:=aq hc;obtain⟨_,_,hc⟩:=aq hc;obtain⟨_,_,rfl⟩:=aj hc;simp[X.isT]at hT
  ·cases hc
 |buildSlice t n ps=>
  rw[hop]at hc;simp only[ay]at hc;split at hc
  ·obtain⟨_,_,hc⟩:=aq hc;obtain⟨_,_,hc⟩:=aq hc;split at hc
   ·obtain⟨_,_,rfl⟩:=aj hc;simp[X.isT]at hT
   ·cases hc
  ·cases hc
 |binOp op t y y2 t2=>
  rw[hop]at hc;simp only[ay]at hc;split at hc
  ·simp only[ah]at hc;subst hc;simp[X.isT]at hT
  ·split at hc
   ·simp only[ah]at hc;subst hc;simp[X.isT]at hT
   ·simp only[ah]at hc;subst hc;simp[X.isT]at hT
   ·cases hc
  ·split at hc
   ·simp only[ah]at hc;subst hc;simp[X.isT]at hT
   ·simp only[ah]at hc;subst hc;simp[X.isT]at hT
   ·cases hc
  ·cases hc
 |convert t1 t2 y=>
  rw[hop]at hc;simp only[ay]at hc;split at hc
  ·simp only[ah]at hc;subst hc;simp[X.isT]at hT
  ·cases hc
 |makeFunc f first cs=>
  rw[hop]at hc
  cases f with
  |func g=>
   simp only[ay]at hc;split at hc
   ·simp only[ah]at hc;subst hc;simp[X.isT]at hT
   ·cases hc
  |_=>simp[ay]at hc
 |makeSlice t y y2=>
  rw[hop]at hc;simp only[ay]at hc;split at hc
  ·obtain⟨_,_,hc⟩:=aq hc;obtain⟨_,_,hc⟩:=aq hc;split at hc
   ·simp only[ah]at hc;subst hc;simp[X.isT]at hT
   ·cases hc
  ·cases hc
 |slice t y lo hi mx=>
  rw[hop]at hc;simp only[ay]at hc;split at hc
  ·split at hc
   ·cases hc
   ·obtain⟨_,_,rfl⟩:=aj hc;simp[X.isT]at hT
  ·cases hc
 |fieldAddr t y i=>
  rw[hop]at hc;simp only[ay]at hc;split at hc
  ·obtain⟨_,_,hc⟩:=aq hc;obtain⟨_,_,hc⟩:=aq hc;split at hc
   ·cases hc
   ·simp only[ah]at hc;subst hc;simp[X.isT]at hT
  ·cases hc
 |field t y i=>
  rw[hop]at hc;simp only[ay]at hc;split at hc
  ·obtain⟨_,_,hc⟩:=aq hc;obtain⟨_,_,hc⟩:=aq hc;obtain⟨_,_,rfl⟩:=aj hc;simp[X.isT]at hT
  ·cases hc
 |indexAddr t y i=>
  rw[hop]at hc;simp only[ay]at hc;split at hc
  ·obtain⟨_,_,rfl⟩:=aj hc;simp[X.isT]at hT
  ·obtain⟨_,_,rfl⟩:=aj hc;simp[X.isT]at hT
  ·cases hc
 |index t y i=>
  rw[hop]at hc;simp only[ay]at hc;split at hc
  ·obtain⟨_,_,hc⟩:=aq hc;obtain⟨_,_,rfl⟩:=aj hc;simp[X.isT]at hT
  ·simp only[ah]at hc;subst hc;simp[X.isT]at hT
  ·cases hc
 |_=>rw[hop]at hc;simp[ay]at hc
theorem ve{rec:Rec}{x:X}(hc:ay P o.op=some x)(hT:x.isT=false)(hnc:∀f l,x≠ .cal f l)(hx:xR rec x tm h=some (c,h'))(hv:HV P A ρ w tm a o)(t:Rel P A ρ w h)(hd:Dj A h h'):ME P A ρ w h ((execOp a.eval o).run P w) c h':=by
 cases hop:o.op with
 |load ty y=>
  rw[hop]at hc;simp only[ay]at hc;obtain⟨s,e1,hc⟩:=aq hc;obtain⟨r,e2,rfl⟩:=aj hc;simp only[xR]at hx;obtain⟨d,e3,e4⟩:=aj hx;simp only[av]at e4;obtain⟨rfl,rfl⟩:=e4;exact BV hv t hop e2 e1 e3
 |store ty y v=>
  rw[hop]at hc;simp only[ay]at hc;obtain⟨s,e1,rfl⟩:=aj hc;simp only[xR]at hx;obtain⟨d,e3,e4⟩:=aj hx;simp only[av]at e4;obtain⟨rfl,rfl⟩:=e4;exact(AI hv t hop e1 e3).1
 |call cl=>
  obtain⟨callee,args,argTypes⟩:=cl;rw[hop]at hc
  cases callee with
  |value f=>
   simp only[ay,ah]at hc;subst hc;exact absurd rfl (hnc _ _)
  |invoke r m=>simp[ay]at hc
  |builtin b=>
   simp only[ay]at hc;split at hc
   ·split at hc
    ·simp only[ah]at hc;subst hc;simp[X.isT]at hT
    ·simp only[ah]at hc;subst hc;simp[X.isT]at hT
    ·cases hc
   ·simp only[ah]at hc;subst hc;simp[X.isT]at hT
   ·simp only[ah]at hc;subst hc;simp[X.isT]at hT
   ·next y y2 ty tn ha ht=>
    have ha':args= #[y,y2]:=dB.1 ha;have ht':argTypes= #[ty,tn]:=dB.1 ht;subst ha';subst ht';split at hc
    ·next e e' hu hu'=>
     split at hc
     ·cases hc
     ·next hb=>
      have hb':ty=tn:=by simpa using hb
      subst hb';obtain⟨i,e1,hc⟩:=aq hc;obtain⟨z,e2,hc⟩:=aq hc;split at hc
      ·next hcc=>
       simp only[cu]at hcc;simp only[ah]at hc;subst hc;simp only[xR]at hx;exact(m_app hv t hd hop hu e1 rfl e2 (bG hcc.1) (by simpa[aJ]using hcc.2) hx).1
      ·cases hc
    ·next e kn hu hu'=>
     obtain⟨i,e1,hc⟩:=aq hc;obtain⟨z,e2,hc⟩:=aq hc;split at hc
     ·next hcc=>
      simp only[cu]at hcc;simp only[ah]at hc;subst hc;simp only[xR]at hx;split at hx
      ·next m hx1 hx2=>
       split at hx
       ·next hm=>
        obtain⟨h1,e3,e4⟩:=aj hx;simp only[av]at e4;obtain⟨rfl,rfl⟩:=e4;exact BW hv t hd hop hu hu' e1 e2 (bG hcc.1) (by simpa[aJ]using hcc.2) hx1 hx2 (bG hm) e3
       ·cases hx
      ·cases hx
     ·cases hc
    ·cases hc
   ·split at hc
    ·simp only[ah]at hc;subst hc;simp[X.isT]at hT
    ·cases hc
   ·next y ty ha ht=>
    have ha':args= #[y]:=dB.1 ha;have ht':argTypes= #[ty]:=dB.1 ht;subst ha';subst ht';split at hc
    ·next e hu=>
     obtain⟨i,e1,hc⟩:=aq hc;obtain⟨z,e2,rfl⟩:=aj hc;simp only[xR]at hx;obtain⟨d,e3,e4⟩:=aj hx;simp only[av]at e4;obtain⟨rfl,rfl⟩:=e4;exact m_clr hv t hop hu e1 e2 e3
    ·cases hc
   ·cases hc
 |_=>
  exfalso;rcases sT hc hT with⟨_,_,e⟩|⟨_,_,_,e⟩|⟨_,e⟩<;>(rw[hop]at e;cases e)
end CI
end
section
open Go.RowKit
namespace CI
variable {P : Program} {A : Nat->Prop} {ρ : Nat->Nat} {w : World} {tm tm' : Tm} {a : Act} {o : Oper} {c : C} {h h' h'' : H} {rec : Rec}
def po(P:Program)(fv:Value)(vs:Array Value)(w:World)(R:Ending->World->Prop):Prop:=
 ∃d,(Deferred.ofValue fv vs).run P w= .ok d w/\((∃f args,(invoke d.target d.args).run P w= .ok (.enter f args) w/\CallsIn Fence.wide 0 P f args w R)\/
  ∃l f tmps s b,fv= .func (.yield l) #[] #[]/\(invoke d.target d.args).run P w= .ok (.round l f tmps s b) w/\RoundIn Fence.wide 0 P l f tmps s b w R)
def eC(P:Program)(A:Nat->Prop)(ρ:Nat->Nat)(w:World)(h:H)(c:C)(h':H):Ending->World->Prop:=fun e w'=>∃u ρ',e= .returned u/\bc P A ρ w h ρ' w' h'/\VR P (Ext A h h') ρ' w' c u
def gA(P:Program)(rec:Rec):Prop:=∀f args h c h',rec (.call f args h)=some (.val c h')->Wf h->∀A ρ w fv vs,Rel P A ρ w h->Dj A h h'->VR P A ρ w f fv->VRl P A ρ w args vs.toList->
 po P fv vs w (eC P A ρ w h c h')
def FC(F:Fence):Prop:=F=Fence.wide\/∃l,F=Fence.wide.inRound l
theorem FC.fn{F:Fence}(hF:FC F)(f:FuncId):F.fn f:=by rcases hF with rfl|⟨l,rfl⟩<;>trivial
theorem FC.depth{F:Fence}(hF:FC F):F.depth.isSome=true->1<=0:=by rcases hF with rfl|⟨l,rfl⟩<;>(intro e;cases e)
theorem FC.calls{F:Fence}(hF:FC F){f:FuncId}{args:Array Value}{w:World}{R:Ending->World->Prop}(h:CallsIn Fence.wide 0 P f args w R):CallsIn F 0 P f args w R:=by
 rcases hF with rfl|⟨l,rfl⟩
 ·exact h
 ·exact CallsIn.inRound l h
theorem FC.round{F:Fence}(hF:FC F){l:Nat}{f:FuncId}{tmps:Array Value}{s b:Code}{w:World}{R:Ending->World->Prop}(h:RoundIn Fence.wide 0 P l f tmps s b w R):RoundIn F 0 P l f tmps s b w R:=by
 rcases hF with rfl|⟨l,rfl⟩
 ·exact h
 ·exact h
theorem iS(hc:∃x,ay P o.op=some x)(cl:Call):o.op≠ .defer cl:=fun e=>by
 obtain⟨x,hc⟩:=hc;rw[e]at hc;simp[ay]at hc
theorem t_me{x:X}{ob:Option B}(hc:ay P o.op=some x)(hT:x.isT=true)(hx:xT x tm h.next=some (c,ob))(hb:h.fw ob=some h')(hv:HV P A ρ w tm a o)(t:Rel P A ρ w h)(hd:Dj A h h'):ME P A ρ w h ((execOp a.eval o).run P w) c h':=by
 obtain⟨u,w',hr,hk⟩:=xZ hc hT hx hv
 cases ob with
 |none=>
  simp only[H.fw,ah]at hb;subst hb;obtain⟨rfl,hu⟩:=hk;exact⟨u,w',ρ,.inl hr,bc.refl t,VR.mo ⟨fun _ hk=>.inl hk,fun _ _=>rfl⟩ (Lt.refl _) _ _ hu⟩
 |some b=>
  obtain⟨hbl,hlt,hk⟩:=hk;have hp:=gH t hb hd hbl (ai _) hlt (fun A' ρ' m e1 e2=>(hk A' ρ' m e1 e2).1);refine⟨u,w',_,.inl hr,hp,(hk _ _ (hp.mo hd) ri (.inr ⟨ai _,?_⟩)).2⟩;have:=(bP hb).1;omega
theorem vB{F:Fence}(hF:FC F){next:Act->World->Prop}{Q:Exit->Act->World->Prop}(hnd:∀cl,o.op≠ .defer cl)(hm:ME P A ρ w h ((execOp a.eval o).run P w) c h')
  (hn:∀u w' ρ',bc P A ρ w h ρ' w' h'->VR P (Ext A h h') ρ' w' c u->next (a.put o.dst u) w'):o.wpIn F 0 P a w next Q:=by
 refine⟨fun f _=>hF.fn f,?_⟩;rw[Oper.semAt_eq F.round a.eval o hnd];obtain⟨u,w',ρ',hr|⟨hr,rfl⟩,hp,hu⟩:=hm
 ·rw[hr,Oper.uponIn_value];exact hn u w' ρ' hp hu
 ·rw[hr,Oper.uponIn_skip];exact hn undef w' ρ' hp hu
theorem Bh{F:Fence}(hF:FC F){next:Act->World->Prop}{Q:Exit->Act->World->Prop}{f:Operand}{args:Array Operand}{ts:Array TypeId}(ho:o.op= .call {callee:= .value f,args:=args,argTypes:=ts})
  (hk:po P (a.eval f) (args.map a.eval) w (eC P A ρ w h c h'))
  (hn:∀u w' ρ',bc P A ρ w h ρ' w' h'->VR P (Ext A h h') ρ' w' c u->next (a.put o.dst u) w'):o.wpIn F 0 P a w next Q:=by
 refine⟨fun f _=>hF.fn f,?_⟩;rw[Oper.semAt_eq F.round a.eval o (fun cl e=>by rw[ho]at e;cases e)];obtain⟨d,hd,hk⟩:=hk;have hE:(execOp a.eval o).run P w=(invoke d.target d.args).run P w:=by
  unfold execOp;rw[ho];simp only[resolve,Sem.run_bind,hd,Result.andThen_ok]
 rw[hE]
 have hpost : ∀ e w', eC P A ρ w h c h' e w' -> (match e, w' with
     | .returned v,w''=>next (a.put o.dst v) w''
     | .panicked chain,w''=>Q (.panic chain) a w''
     | .outgrown,_=>LetsOut Q):=fun e w' ⟨u,ρ',e1,hp,hu⟩=>by
  subst e1;exact hn u w' ρ' hp hu
 rcases hk with⟨g,as',hr,hk⟩|⟨l,g,tmps,s,b,_,hr,hk⟩
 ·rw[hr,Oper.uponIn_enter];exact⟨hF.depth,(hF.calls hk).mono hpost⟩
 ·rw[hr,Oper.uponIn_round];exact⟨hF.depth,(hF.round hk).mono hpost⟩
theorem r_wp(hrec:gA P rec){F:Fence}(hF:FC F){next:Act->World->Prop}{Q:Exit->Act->World->Prop}{x:X}(hc:ay P o.op=some x)(hT:x.isT=false)(hx:xR rec x tm h=some (c,h'))(f:Wf h)(hv:HV P A ρ w tm a o)(t:Rel P A ρ w h)(hd:Dj A h h')
  (hn:∀u w' ρ',bc P A ρ w h ρ' w' h'->VR P (Ext A h h') ρ' w' c u->next (a.put o.dst u) w'):o.wpIn F 0 P a w next Q:=by
 by_cases hcal:∃g l,x= .cal g l
 ·obtain⟨g,l,rfl⟩:=hcal;have hop:∃f args ts,o.op= .call {callee:=.value f,args:=args,argTypes:=ts}/\g=au f/\l=jz args.toList:=by
   cases hop:o.op with
   |call cl=>
    obtain⟨callee,args,argTypes⟩:=cl;rw[hop]at hc
    cases callee with
    |value f=>
     simp only[ay,ah,X.cal.injEq]at hc;exact⟨f,args,argTypes,rfl,hc.1.symm,hc.2.symm⟩
    |invoke r m=>simp[ay]at hc
    |builtin b=>
     exfalso;simp only[ay]at hc;split at hc
     ·split at hc<;>simp at hc
     ·simp at hc
     ·simp at hc
     ·split at hc
      ·split at hc
       ·cases hc
       ·obtain⟨_,_,hc⟩:=aq hc;obtain⟨_,_,hc⟩:=aq hc;split at hc<;>simp at hc
      ·obtain⟨_,_,hc⟩:=aq hc;obtain⟨_,_,hc⟩:=aq hc;split at hc<;>simp at hc
      ·cases hc
     ·split at hc<;>simp at hc
     ·split at hc
      ·obtain⟨_,_,hc⟩:=aq hc;obtain⟨_,_,hc⟩:=aj hc;cases hc
      ·cases hc
     ·cases hc
   |store ty y v=>
    exfalso;rw[hop]at hc;simp only[ay]at hc;obtain⟨_,_,hc⟩:=aj hc;cases hc
   |load ty y=>
    exfalso;rw[hop]at hc;simp only[ay]at hc;obtain⟨_,_,hc⟩:=aq hc;obtain⟨_,_,hc⟩:=aj hc;cases hc
   |_=>
    exfalso;rcases sT hc hT with⟨_,_,e⟩|⟨_,_,_,e⟩|⟨_,e⟩<;>(rw[hop]at e;cases e)
  obtain⟨f',args,ts,hop,rfl,rfl⟩:=hop;simp only[xR]at hx;split at hx
  ·next e=>
   simp only[ah,av]at hx;obtain⟨rfl,rfl⟩:=hx;refine Bh hF hop ?_ hn;refine hrec _ _ _ _ _ e f A ρ w _ _ t hd (hv f' (by rw[hop];simp[Op.operands,Call.operands])) ?_;rw[Array.toList_map];exact pH tm a _ fun y hy=>hv y (by rw[hop];simp[Op.operands,Call.operands];exact .inr (by simpa using hy))
  ·cases hx
 ·exact vB hF (iS ⟨x,hc⟩) (ve hc hT (fun g l e=>hcal ⟨g,l,e⟩) hx hv t hd) hn
end CI
end
section
open Go.RowKit
namespace CI
variable {P : Program} {A A' : Nat->Prop} {ρ ρ' : Nat->Nat} {w w' : World} {tm tm' : Tm} {a : Act} {o : Oper} {c : C} {h h' h'' : H} {rec : Rec} {n : Nat} {ds : List Nat}
def lY(ρ:Nat->Nat)(k:Nat):Deferred:={target:=.collected (ρ k),args:=#[]}
structure Fr(P:Program)(A:Nat->Prop)(ρ:Nat->Nat)(w:World)(n:Nat)(ds:List Nat)(tm:Tm)(a:Act):Prop where
 tr:TR P A ρ w tm a.tmps
 sz:a.tmps.size=n
 nm:∀k∈ds,A k
 df:a.defers=ds.map (lY ρ)
theorem Fr.mo(m:Mo A A' ρ ρ')(k:Lt w w')(f:Fr P A ρ w n ds tm a):Fr P A' ρ' w' n ds tm a:=
 ⟨f.tr.mo m k,f.sz,fun j hj=>m.sub j (f.nm j hj),f.df.trans (oe fun j hj=>by unfold lY;rw[m.eq j (f.nm j hj)])⟩
theorem pc{t u:Nat}(ht:t<1000000)(tm:Tm)(c:C):CO.ev (T.put 24 tm t (some c)) (CO.t u)=if u=t then c else CO.ev tm (CO.t u):=by
 simp only[CO.ev,T.nL ht];split
 ·next e=>split at e<;>simp_all
 ·next e=>split at e<;>simp_all
theorem TR.put{tmps:Array Value}{t:Nat}{v:Value}(h:TR P A ρ w tm tmps)(ht:t<tmps.size)(hb:t<1000000)(hv:VR P A ρ w c v):TR P A ρ w (T.put 24 tm t (some c)) (tmps.setIfInBounds t v):=fun u=>by
 rw[pc hb];by_cases e:u=t
 ·rw[aB e];subst e;rw[ct,lk];simp[ht];exact hv
 ·rw[an e,ct,lk,an (fun e2=>e e2.symm),<-ct];exact h u
theorem Fr.put{dst:Option Nat}{v:Value}(f:Fr P A ρ w n ds tm a)(hn:n<1000000)(hd:cA n dst=true)(hv:VR P A ρ w c v):Fr P A ρ w n ds (eI tm dst c) (a.put dst v):=by
 cases dst with
 |none=>exact f
 |some t=>
  have ht:t<n:=by simpa[cA,aJ]using hd
  exact⟨f.tr.put (by rw[f.sz];exact ht) aa hv,by simp[Act.put,f.sz],f.nm,f.df⟩
theorem Fr.hv(f:Fr P A ρ w n ds tm a)(o:Oper):HV P A ρ w tm a o:=fun y _=>f.tr.op y
theorem lX{draw:Bool}{ops:Array Oper}{acc l:List Oper}{ps:List Nat}{r:List RO}(e:dz P n draw ops acc (o::l) ps=some r):
  ∃ p ps' g r', ps = p :: ps' /\ cA n o.dst = true /\ (draw = true -> kt ops o p acc 0 = true /\ iC acc.length o.after.toList = true) /\ (match o.guard with
      |none=>some none
      |some (j,b)=>((ops[j]?).bind (·.dst)).map fun t=>some (t,b))=some g/\dz P n draw ops (acc++[o]) l ps'=some r'/\r=⟨o.dst,g,(match ay P o.op with|some x=>x|none=> .bad),p⟩::r':=by
 cases ps with
 |nil=>simp[dz]at e
 |cons p ps'=>
  simp only[dz]at e;split at e
  ·cases e
  ·next hb=>
   obtain⟨g,e1,e⟩:=aq e;obtain⟨r',e2,e3⟩:=aj e;simp only[Bool.or_eq_false_iff,rz,Bool.not_eq_false',cu]at hb;exact⟨p,ps',g,r',rfl,hb.2,fun hd=>hb.1.resolve_left (by simp[hd]),e1,e2,e3.symm⟩
theorem qP{x:X}(e:x=(match ay P o.op with|some x=>x|none=>.bad))(hT:x.isT=false\/x≠ .bad):ay P o.op=some x:=by
 cases hc:ay P o.op with
 |some y=>rw[hc]at e;rw[e]
 |none=>
  rw[hc]at e;subst e;rcases hT with hT|hT
  ·simp[X.isT]at hT
  ·exact absurd rfl hT
theorem wq{tm:Tm}{next:Nat}:xT .bad tm next=none:=rfl
theorem kr{ops:Array Oper}{g:Option (Nat×Bool)}{x:X}{p:Nat}{b:Bool}(hg:(match o.guard with
   |none=>some none
   |some (j,b)=>((ops[j]?).bind (·.dst)).map fun t=>some (t,b))=some g) (hw:dC ⟨o.dst,g,x,p⟩ tm=some b)
  (hv:∀t c,g=some (t,c)->VR P A ρ w (CO.ev tm (CO.t t)) (a.tmps.getD t undef)):Region.wanted o (yielded ops a.tmps)=b:=by
 unfold Region.wanted
 cases ho:o.guard with
 |none=>
  rw[ho]at hg;simp only[ah]at hg;subst hg;simp only[dC,ah]at hw;exact hw
 |some q=>
  obtain⟨j,bb⟩:=q;rw[ho]at hg;simp only at hg;obtain⟨t,e1,e2⟩:=aj hg;subst e2;simp only[dC]at hw;split at hw
  ·next cc e=>
   simp only[ah]at hw;subst hw;have h1:=hv t bb rfl;simp only[CO.ev,e]at h1;have h2:=h1.bool;have h3:a.tmps[t]?=some (.bool cc):=by
    rw[ct]at h2
    cases e3:a.tmps[t]? with
    |none=>rw[e3]at h2;simp[undef]at h2
    |some v=>rw[e3]at h2;simp at h2;rw[h2]
   simp only[yielded,e1];simp[h3];cases bb<;>cases cc<;>rfl
  ·cases hw
theorem mG(hg:cF rec):∀(r:List RO) (tm:Tm) (h:H) (tm':Tm) (h':H),ib rec r tm h=some (tm',h')->Wf h->Gd h h'
 |[],tm,h,tm',h',e,f=>by
  simp only[ib,ah,av]at e;obtain⟨_,rfl⟩:=e;exact Gd.refl f
 |o::l,tm,h,tm',h',e,f=>by
  simp only[ib]at e;split at e
  ·split at e
   ·next c h1 e1=>
    have g1:Gd h h1:=by
     unfold ns at e1;split at e1
     ·obtain⟨⟨c',b⟩,_,e1⟩:=aq e1;obtain⟨h2,e2,e3⟩:=aj e1;simp only[av]at e3;obtain⟨_,rfl⟩:=e3;exact kb f e2
     ·exact iq hg f e1
    exact g1.trans (mG hg l _ _ _ _ e g1.wf)
   ·cases e
  ·exact mG hg l _ _ _ _ e f
  ·cases e
theorem ky(hrec:gA P rec)(hg:cF rec){F:Fence}(hF:FC F){Q:Exit->Act->World->Prop}{ops:Array Oper}{draw:Bool}(hn:n<1000000):∀(l:List Oper) (k:Nat) (acc:List Oper) (ps:List Nat) (r:List RO),(∀(i:Nat) (o:Oper),l[i]?=some o->ops[k+i]?=some o)->dz P n draw ops acc l ps=some r->
  ∀(tm:Tm) (h:H) (tm':Tm) (h':H) (A:Nat->Prop) (ρ:Nat->Nat) (w:World) (a:Act),ib rec r tm h=some (tm',h')->Wf h->Rel P A ρ w h->Dj A h h'->Fr P A ρ w n ds tm a->
  (∀ρ' w' a',bc P A ρ w h ρ' w' h'->Fr P (Ext A h h') ρ' w' n ds tm' a'->Q .normal a' w')->wpOpsIn F 0 P ops Q (List.range' k l.length) a w
 |[],k,acc,ps,r,_,hc,tm,h,tm',h',A,ρ,w,a,e,f,t,hd,hf,hq=>by
  simp only[dz,ah]at hc;subst hc;simp only[ib,ah,av]at e;obtain⟨rfl,rfl⟩:=e;exact hq ρ w a (bc.refl t) (hf.mo ⟨fun _ hk=>.inl hk,fun _ _=>rfl⟩ (Lt.refl w))
 |o::l,k,acc,ps,r,hl,hc,tm,h,tm',h',A,ρ,w,a,e,f,t,hd,hf,hq=>by
  obtain⟨p,ps',g,r',rfl,h1,_,h2,h3,rfl⟩:=lX hc;have hk:ops[k]?=some o:=by simpa using hl 0 o rfl
  have hl':∀(i:Nat) (o':Oper),l[i]?=some o'->ops[k+1+i]?=some o':=fun i o' hi=>by
   have:=hl (i+1) o' (by simpa using hi);rwa[show k+(i+1)=k+1+i by omega]at this
  simp only[eu,List.range'_succ,wpOpsIn,hk];simp only[ib]at e;split at e
  ·next hw=>
   have hw':=kr h2 hw (fun u b _=>hf.tr u);rw[hw',aB rfl];split at e
   ·next c h1' e1=>
    have g1:Gd h h1':=by
     unfold ns at e1;split at e1
     ·obtain⟨⟨c',b⟩,_,e1⟩:=aq e1;obtain⟨h2,e2,e3⟩:=aj e1;simp only[av]at e3;obtain⟨_,rfl⟩:=e3;exact kb f e2
     ·exact iq hg f e1
    have g2:=mG hg r' _ _ _ _ e g1.wf;have hd1:=hd.left g2.good.next
    have cont:∀u w' ρ',bc P A ρ w h ρ' w' h1'->VR P (Ext A h h1') ρ' w' c u->wpOpsIn F 0 P ops Q (List.range' (k+1) l.length) (a.put o.dst u) w':=fun u w' ρ' hp hu=>
     ky hrec hg hF hn l (k+1) _ ps' r' hl' h3 _ h1' tm' h' (Ext A h h1') ρ' w' _ e g1.wf hp.rel (hd.right g1.good.next) ((hf.mo (hp.mo hd1) hp.lt).put hn h1 hu) (fun ρ2 w2 a2 hp2 hf2=>
      hq ρ2 w2 a2 (hp.trans g1.good hp2 g2.good) (hf2.mo (Mo.ext g1.good.next g2.good.next _) (Lt.refl _)))
    unfold ns at e1;split at e1
    ·next hT=>
     obtain⟨⟨c',b⟩,e2,e1⟩:=aq e1;obtain⟨h2',e3,e4⟩:=aj e1;simp only[av]at e4;obtain⟨rfl,rfl⟩:=e4;have hcc:=qP rfl (.inr fun e5=>by rw[e5,wq]at e2;cases e2);exact vB hF (iS ⟨_,hcc⟩) (t_me hcc hT e2 e3 (hf.hv o) t hd1) cont
    ·next hT=>
     have hcc:=qP rfl (.inl hT);exact r_wp hrec hF hcc hT e1 f (hf.hv o) t hd1 cont
   ·cases e
  ·next hw=>
   have hw':=kr h2 hw (fun u b _=>hf.tr u);rw[hw',an aO];refine⟨fun g _=>hF.fn g,?_⟩;exact ky hrec hg hF hn l (k+1) _ ps' r' hl' h3 _ h tm' h' A ρ w _ e f t hd (hf.put hn h1 (by simp only[VR])) hq
  ·cases e
end CI
end
section
open Go.RowKit
namespace CI
variable {P : Program} {A A' : Nat->Prop} {ρ ρ' : Nat->Nat} {w w' : World} {tm tm' : Tm} {a : Act} {o : Oper} {c : C} {h h' h'' : H} {rec : Rec} {n : Nat} {ds : List Nat}
theorem eU(pre k:Nat):∀(iv:List (Nat×Nat×Nat)) (f:List (Nat×Nat)),aR k (eA pre iv f)=false->aR k f=false
 |[],f,h=>h
 |(i,x,y)::l,f,h=>by
  simp only[eA]at h;split at h
  ·exact eU pre k l f h
  ·simp only[aR]at h;split at h
   ·split at h
    ·cases h
    ·exact eU pre k l f h
   ·exact eU pre k l f h
theorem cQ{k a b:Nat}{f:List (Nat×Nat)}(h:aR k ((a,b)::f)=false):(k<a\/b<=k)/\aR k f=false:=by
 simp only[aR]at h;split at h
 ·next e1=>
  split at h
  ·cases h
  ·next e2=>
   refine⟨.inr (cq fun e3=>?_),h⟩;rw[<-aJ]at e3;rw[e3]at e2;cases e2
 ·next e1=>
  refine⟨.inl (my fun e3=>?_),h⟩;rw[iE e3]at e1;cases e1
theorem hJ(k:Nat)(l:List Nat):eV k (k::l)=true:=by
 simp only[eV,de]
theorem qy{k x:Nat}{l:List Nat}(h:eV k l=true):eV k (x::l)=true:=by
 simp only[eV];split
 ·rfl
 ·exact h
theorem oR(a b:Nat):mnN a b=min a b:=by
 unfold mnN;split
 ·next e=>exact(dn (bG e)).symm
 ·next e=>
  refine(fV (Nat.le_of_not_le fun e2=>?_)).symm;rw[iE e2]at e;cases e
theorem cP{k a b:Nat}{f:List (Nat×Nat)}(h:b<=k):aR k ((a,b)::f)=aR k f:=by
 simp only[aR];split
 ·split
  ·next e2=>
   have:k<b:=by simpa[aJ]using e2
   omega
  ·rfl
 ·rfl
theorem yE{next k:Nat}{g:Ft}{f:List (Nat×Nat)}(h:next<=k):aR k (iK next g f)=aR k f:=by
 cases g with
 |none=>rfl
 |some l=>
  simp only[iK]
  match l with
  |[]=>exact cP h
  |[x]=>
   simp only[outs,oR];rw[cP aa,cP h]
  |x::y::l=>
   simp only[outs,oR];split
   ·rw[cP aa,cP aa,cP h]
   ·rw[cP aa,cP aa,cP h]
theorem eT{next k:Nat}{g:Ft}{f:List (Nat×Nat)}(h:aR k (iK next g f)=false):aR k f=false/\(k<next->g.has k=true):=by
 cases g with
 |none=>exact⟨h,fun _=>rfl⟩
 |some l=>
  simp only[iK]at h;show aR k f=false/\(k<next->eV k l=true)
  match l,h with
  |[],h=>
   obtain⟨h1,h2⟩:=cQ h;exact⟨h2,fun hk=>by omega⟩
  |[x],h=>
   simp only[outs,oR]at h;obtain⟨h1,h2⟩:=cQ h;obtain⟨h3,h4⟩:=cQ h2;refine⟨h4,fun hk=>?_⟩;have:x=k:=by omega
   rw[this];exact hJ _ _
  |x::y::l,h=>
   simp only[outs,oR]at h;split at h
   ·obtain⟨h1,h2⟩:=cQ h;obtain⟨h3,h4⟩:=cQ h2;obtain⟨h5,h6⟩:=cQ h4;refine⟨h6,fun hk=>?_⟩;have:x=k\/y=k:=by omega
    rcases this with e|e
    ·rw[e];exact hJ _ _
    ·rw[e];exact qy (hJ _ _)
   ·obtain⟨h1,h2⟩:=cQ h;obtain⟨h3,h4⟩:=cQ h2;obtain⟨h5,h6⟩:=cQ h4;refine⟨h6,fun hk=>?_⟩;have:x=k\/y=k:=by omega
    rcases this with e|e
    ·rw[e];exact hJ _ _
    ·rw[e];exact qy (hJ _ _)
def H.part(h:H)(pre:Nat)(iv:List (Nat×Nat×Nat))(g:Ft):H:=⟨h.next,h.next,iK h.next g (eA pre iv h.forb),h.t⟩
theorem iJ{pre:Nat}{iv:List (Nat×Nat×Nat)}{g:Ft}{k:Nat}{b:B}(e:(h.part pre iv g).get k=some b):h.get k=some b:=by
 unfold H.get at e⊢;split at e
 ·cases e
 ·next hf=>rw[eU pre k iv h.forb (eT hf).1];exact e
theorem fM{pre:Nat}{iv:List (Nat×Nat×Nat)}{g:Ft}(f:Wf h):Wf (h.part pre iv g):=⟨f.bd,f.lt⟩
def H.whole(h h':H):H:=⟨h'.next,(match Nat.blt h'.low h.low with|true=>h'.low|false=>h.low),h.forb,h'.t⟩
theorem ql(h h':H):(h.whole h').low<=h.low/\(h.whole h').low<=h'.low:=by
 show(match Nat.blt h'.low h.low with|true=>h'.low|false=>h.low)<=h.low/\(match Nat.blt h'.low h.low with|true=>h'.low|false=>h.low)<=h'.low;split
 ·next e=>
  have:h'.low<h.low:=by simpa[aJ]using e
  exact⟨cC this,ai _⟩
 ·next e=>
  have:¬h'.low<h.low:=by intro e2;rw[<-aJ]at e2;rw[e2]at e;cases e
  exact⟨ai _,by omega⟩
theorem pR{pre:Nat}{iv:List (Nat×Nat×Nat)}{gf:Ft}(g:Gd (h.part pre iv gf) h'):Gd h (h.whole h'):=by
 obtain⟨l1,l2⟩:=ql h h';refine⟨⟨g.wf.bd,g.wf.lt⟩,⟨g.good.next,l1,rfl,fun k hk hl=>g.good.keep k hk (aH hl l2),fun k hk hd=>g.good.dead k hk fun hl=>hd ?_⟩⟩;obtain⟨b,e⟩:=bH.1 hl;exact aG (iJ e)
theorem qp{o:RO}{l:List RO}{j:Nat}{iv:List (Nat×Nat×Nat)}{rw:List (Nat×Bool×Ft)}(e:dK rec (o::l) j iv rw tm h=some (tm',h')):
  (dC o tm=some false/\dK rec l (j+1) iv rw (eI tm o.dst .any) h=some (tm',h'))\/
  (dC o tm=some true/\o.x.isT=true/\∃c ob h1,xT o.x tm h.next=some (c,ob)/\h.fw ob=some h1/\dK rec l (j+1) (match ob with|none=>iv|some _=>(j,h.next,h1.next)::iv) rw (eI tm o.dst c) h1=some (tm',h'))\/
  (dC o tm=some true/\o.x.isT=false/\∃c h1,xR rec o.x tm (h.part o.pre iv (xFt o.x tm))=some (c,h1)/\gS o.pre (Nat.blt h1.low h.next) (xFt o.x tm) rw=false/\
   dK rec l (j+1) (match Nat.blt h.next h1.next with|true=>(j,h.next,h1.next)::iv|false=>iv) ((j,Nat.blt h1.low h.next,xFt o.x tm)::rw) (eI tm o.dst c) (h.whole h1)=some (tm',h')):=by
 simp only[dK]at e;split at e
 ·next hw=>
  split at e
  ·next hT=>
   split at e
   ·next c e1=>exact .inr (.inl ⟨hw,hT,c,none,h,e1,rfl,e⟩)
   ·next c b e1=>
    split at e
    ·next h1 e2=>exact .inr (.inl ⟨hw,hT,c,some b,h1,e1,e2,e⟩)
    ·cases e
   ·cases e
  ·next hT=>
   split at e
   ·next c h1 e1=>
    split at e
    ·cases e
    ·next hcl=>exact .inr (.inr ⟨hw,hT,c,h1,e1,hcl,e⟩)
   ·cases e
 ·next hw=>exact .inl ⟨hw,e⟩
 ·cases e
theorem mH(hg:cF rec):∀(r:List RO) (j:Nat) (iv:List (Nat×Nat×Nat)) (rw:List (Nat×Bool×Ft)) (tm:Tm) (h:H) (tm':Tm) (h':H),dK rec r j iv rw tm h=some (tm',h')->Wf h->Gd h h'
 |[],j,iv,rw,tm,h,tm',h',e,f=>by
  simp only[dK,ah,av]at e;obtain⟨_,rfl⟩:=e;exact Gd.refl f
 |o::l,j,iv,rw,tm,h,tm',h',e,f=>by
  rcases qp e with⟨_,e⟩|⟨_,_,c,ob,h1,_,e2,e⟩|⟨_,_,c,h1,e1,_,e⟩
  ·exact mH hg l _ _ _ _ _ _ _ e f
  ·have g1:=kb f e2;exact g1.trans (mH hg l _ _ _ _ _ _ _ e g1.wf)
  ·have g1:=pR (iq hg (fM f) e1);exact g1.trans (mH hg l _ _ _ _ _ _ _ e g1.wf)
def tg(P:Program)(rec:Rec):Prop:=∀(F:Fence) (_:FC F) (Q:Exit->Act->World->Prop) (ops:Array Oper) (id n:Nat) (_:n<1000000) (r:List RO) (_:dz P n true ops [] ops.toList (ic ops.toList [])=some r)
 (tm:Tm) (h:H) (tm':Tm) (h':H) (_:dK rec r 0 [] [] tm h=some (tm',h')) (_:Wf h) (A:Nat->Prop) (ρ:Nat->Nat) (w:World) (a:Act) (ds:List Nat) (_:Rel P A ρ w h) (_:Dj A h h') (_:Fr P A ρ w n ds tm a)
 (_:∀ρ' w' a',bc P A ρ w h ρ' w' h'->Fr P (Ext A h h') ρ' w' n ds tm' a'->Q .normal a' w'),(Code.region id ops true).wpIn F 0 P Q a w
end CI
end
section
open Go.RowKit
namespace CI
variable {P : Program} {h h' h'' : H} {rec : Rec} {E : Env}
def mi(rec:Rec):Prop:=∀cc tm ds rd h e tm' ds' h',rec (.code cc tm ds rd h)=some (.code e tm' ds' h')->Wf h->Gd h h'
theorem jB:∀(ds:List Nat) (h h':H),dH ds h=some h'->Wf h->Gd h h'
 |[],h,h',e,f=>by simp only[dH,ah]at e;subst e;exact Gd.refl f
 |k::l,h,h',e,f=>by
  simp only[dH]at e;split at e
  ·next hb=>
   have g:=eE (b:=some (.defd false)) f (aG hb);exact g.trans (jB l _ _ e g.wf)
  ·cases e
theorem ua{l:Nat}{e:Ex}{c:C}(hh:sI l e h=some (c,h'))(f:Wf h):Gd h h':=by
 unfold sI at hh;split at hh
 ·next hb=>
  split at hh<;>(simp only[ah,av]at hh;obtain⟨_,rfl⟩:=hh;exact eE f (aG hb))
 ·cases hh
theorem Bi(hr:cF rec)(hc:mi rec):cF (body E rec)/\mi (body E rec):=by
 constructor
 ·intro f args h c h' e fh;simp only[body]at e;split at e
  ·split at e
   ·obtain⟨_,_,e2⟩:=aj e;simp only[Out.val.injEq]at e2;obtain⟨_,rfl⟩:=e2;exact Gd.refl fh
   ·split at e
    ·split at e
     ·cases e
     ·split at e
      ·next e1=>
       have g1:=hc _ _ _ _ _ _ _ _ _ e1 fh;split at e
       ·cases e
       ·obtain⟨h2,e2,e⟩:=aq e;obtain⟨rs,e3,e4⟩:=aj e;simp only[Out.val.injEq]at e4;obtain⟨_,rfl⟩:=e4;exact g1.trans (jB _ _ _ e2 g1.wf)
      ·cases e
    ·cases e
  ·split at e
   ·split at e
    ·split at e
     ·next e1=>
      have g1:=hc _ _ _ _ _ _ _ _ _ e1 fh;split at e
      ·next hb=>
       split at e
       ·next e2=>
        have g0:=hc _ _ _ _ _ _ _ _ _ e2 (eE g1.wf (aG hb)).wf;have g3:=g1.trans ((eE g1.wf (aG hb)).trans g0);obtain⟨⟨c',h3⟩,e3,e4⟩:=aj e;simp only[Out.val.injEq]at e4;obtain⟨_,rfl⟩:=e4;exact g3.trans (ua e3 g3.wf)
       ·cases e
      ·cases e
     ·cases e
    ·cases e
   ·cases e
  ·cases e
 ·intro cc tm ds rd h e tm' ds' h' ee fh
  cases cc with
  |skip=>simp only[body,ah,Out.code.injEq]at ee;obtain⟨_,_,_,rfl⟩:=ee;exact Gd.refl fh
  |ret=>simp only[body,ah,Out.code.injEq]at ee;obtain⟨_,_,_,rfl⟩:=ee;exact Gd.refl fh
  |exit id=>simp only[body,ah,Out.code.injEq]at ee;obtain⟨_,_,_,rfl⟩:=ee;exact Gd.refl fh
  |seq a b=>
   simp only[body]at ee;split at ee
   ·next e1=>
    have g1:=hc _ _ _ _ _ _ _ _ _ e1 fh;exact g1.trans (hc _ _ _ _ _ _ _ _ _ ee g1.wf)
   ·exact hc _ _ _ _ _ _ _ _ _ ee fh
  |cond c a b=>
   simp only[body]at ee;split at ee
   ·exact hc _ _ _ _ _ _ _ _ _ ee fh
   ·exact hc _ _ _ _ _ _ _ _ _ ee fh
   ·cases ee
  |block id c=>
   simp only[body]at ee;split at ee
   ·next e1=>
    have g1:=hc _ _ _ _ _ _ _ _ _ e1 fh;split at ee<;>(simp only[ah,Out.code.injEq]at ee;obtain⟨_,_,_,rfl⟩:=ee;exact g1)
   ·exact hc _ _ _ _ _ _ _ _ _ ee fh
  |loop c=>
   simp only[body]at ee;split at ee
   ·next e1=>
    have g1:=hc _ _ _ _ _ _ _ _ _ e1 fh;exact g1.trans (hc _ _ _ _ _ _ _ _ _ ee g1.wf)
   ·exact hc _ _ _ _ _ _ _ _ _ ee fh
  |reg draw ops=>
   simp only[body]at ee;split at ee
   ·next e1=>
    simp only[ah,Out.code.injEq]at ee;obtain⟨_,rfl,_,rfl⟩:=ee;split at e1
    ·exact mH hr _ _ _ _ _ _ _ _ e1 fh
    ·exact mG hr _ _ _ _ _ e1 fh
   ·cases ee
  |rng f ps a b=>
   simp only[body]at ee;split at ee
   ·next d ds1 h1 e1=>
    have g1:Gd h h1:=by
     split at e1
     ·split at e1
      ·simp only[ah,av]at e1;obtain⟨_,_,rfl⟩:=e1;exact Gd.refl fh
      ·cases e1
     ·obtain⟨h2,e2,e3⟩:=aj e1;simp only[av]at e3;obtain⟨_,_,rfl⟩:=e3;exact gk fh e2
    split at ee
    ·next h2 e2=>
     have g2:=g1.trans (gk g1.wf e2);split at ee
     ·next e3=>
      split at e3
      ·next g caps _=>
       have g3:=g2.trans (hr _ _ _ _ _ e3 g2.wf);split at ee
       ·cases ee
       ·next hb=>
        simp only[ah,Out.code.injEq]at ee;obtain⟨_,_,_,rfl⟩:=ee;exact g3.trans (eE g3.wf (aG hb))
       ·cases ee
      ·cases e3
     ·cases ee
    ·cases ee
   ·cases ee
theorem jU(E:Env):∀n,cF (run E n)/\mi (run E n)
 |0=>⟨fun _ _ _ _ _ e=>by simp[run]at e,fun _ _ _ _ _ _ _ _ _ e=>by simp[run]at e⟩
 |n+1=>Bi (jU E n).1 (jU E n).2
end CI
end
section
open Go.RowKit
namespace CI
variable {P : Program} {A A' : Nat->Prop} {ρ ρ' : Nat->Nat} {w w' : World} {tm tm' : Tm} {a : Act} {c : C} {h h' h'' : H} {rec : Rec} {E : Env} {n : Nat} {ds ds' : List Nat}
def exM:Ex->Exit->Prop
 | .norm,.normal=>True
 | .ret,.ret=>True
 | .exit i,.exit j=>i=j
 |_,_=>False
def eY(P:Program)(A:Nat->Prop)(ρ:Nat->Nat)(w:World)(h:H)(n:Nat)(e:Ex)(tm':Tm)(ds':List Nat)(h':H):Exit->Act->World->Prop:=fun e' a' w'=>
 exM e e'/\∃ρ',bc P A ρ w h ρ' w' h'/\Fr P (Ext A h h') ρ' w' n ds' tm' a'
def fc(rd:Option Nat)(ρ:Nat->Nat):Fence:=match rd with|none=>Fence.wide|some l=>Fence.wide.inRound (ρ l)
theorem zJ(rd:Option Nat)(ρ:Nat->Nat):FC (fc rd ρ):=by
 cases rd with
 |none=>exact .inl rfl
 |some l=>exact .inr ⟨_,rfl⟩
theorem zH{rd:Option Nat}(h:∀l,rd=some l->ρ' l=ρ l):fc rd ρ'=fc rd ρ:=by
 cases rd with
 |none=>rfl
 |some l=>simp only[fc,h l rfl]
def iV(P:Program)(rec:Rec):Prop:=∀cc tm ds rd h e tm' ds' h',rec (.code cc tm ds rd h)=some (.code e tm' ds' h')->Wf h->∀n c A ρ w a,comp P n c=some cc->n<1000000->Rel P A ρ w h->Dj A h h'->Fr P A ρ w n ds tm a->(∀l,rd=some l->A l)->
 c.wpIn (fc rd ρ) 0 P (eY P A ρ w h n e tm' ds' h') a w
theorem ph{h1:H}{ρ1:Nat->Nat}{w1:World}{e:Ex}{e':Exit}{a':Act}(p:bc P A ρ w h ρ1 w1 h1)(g:Gd h h1)(g':Gd h1 h')(q:eY P (Ext A h h1) ρ1 w1 h1 n e tm' ds' h' e' a' w'):eY P A ρ w h n e tm' ds' h' e' a' w':=by
 obtain⟨h1,ρ2,hp,hf⟩:=q;exact⟨h1,ρ2,p.trans g.good hp g'.good,hf.mo (Mo.ext g.good.next g'.good.next _) (Lt.refl _)⟩
theorem Fr.ext(f:Fr P A ρ w n ds tm a):Fr P (Ext A h h') ρ w n ds tm a:=f.mo ⟨fun _ hk=>.inl hk,fun _ _=>rfl⟩ (Lt.refl w)
theorem tw{F:Fence}{m:Nat}{c:Code}{Q:Exit->Act->World->Prop}(I:Nat->Act->World->Prop){k:Nat}(h₀:I k a w)
  (round:∀k a w,I k a w->c.wpIn F m P (Exit.then (fun a' w'=>∃k',k'<k/\I k' a' w') Q) a w):(Code.loop c).wpIn F m P Q a w:=by
 intro b kk cs hro hb hr
 have key : ∀ j a w, I j a w ->
     ∃e a' w',Q e a' w'/\ArrivesIn (Machine.fenced P F) P (lone (b.atR a (.code c:: .inLoop c::kk)) cs w) b kk cs e a' w':=by
  intro j
  induction j using Nat.strongRecOn with
  |_ j ih=>
   intro a w hI;obtain⟨e,a₁,w₁,hq,harr⟩:=round j a w hI b (.inLoop c::kk) cs hro hb hr
   cases e with
   |normal=>
    obtain⟨k',hlt,hI₁⟩:=hq;obtain⟨e₂,a₂,w₂,hq₂,harr₂⟩:=ih k' hlt a₁ w₁ hI₁;exact⟨e₂,a₂,w₂,hq₂, .of_steps (StepsIn.trans harr (.one (fenced_calm hb hr rfl) stepR_inLoop)) harr₂⟩
   |exit id=>exact⟨_,a₁,w₁,hq, .pass (x:= .inLoop c) rfl (fun _ _=> .inl aO) harr⟩
   |goto l=>exact⟨_,a₁,w₁,hq, .pass (x:= .inLoop c) rfl (fun _ _=> .inl aO) harr⟩
   |ret=>exact⟨_,a₁,w₁,hq, .pass (x:= .inLoop c) rfl (fun _ _=> .inl aO) harr⟩
   |panic ch=>exact⟨_,a₁,w₁,hq, .pass (x:= .inLoop c) rfl (fun _ _=> .inl aO) harr⟩
   |outgrown=>exact⟨_,a₁,w₁,hq, .pass (x:= .inLoop c) rfl (fun _ _=> .inl aO) harr⟩
 obtain⟨e,a',w',hq,harr⟩:=key k a w h₀;exact⟨e,a',w',hq, .of_steps (.one (fenced_calm hb hr rfl) stepR_loop) harr⟩
theorem kO{e':Exit}(h:exM .norm e'):e'= .normal:=by cases e'<;>simp[exM]at h⊢
theorem jR{h1:H}{e:Ex}{F:Fence}{c:Code}{tm1:Tm}{ds1:List Nat}{K:Act->World->Prop}{Q:Exit->Act->World->Prop}(hw:c.wpIn F 0 P (eY P A ρ w h n e tm1 ds1 h1) a w)
  (hk:e= .norm->∀ρ1 w1 a1,bc P A ρ w h ρ1 w1 h1->Fr P (Ext A h h1) ρ1 w1 n ds1 tm1 a1->K a1 w1) (hq:e≠ .norm->∀e' a1 w1,eY P A ρ w h n e tm1 ds1 h1 e' a1 w1->Q e' a1 w1):c.wpIn F 0 P (Exit.then K Q) a w:=by
 refine wpIn_mono hw fun e' a1 w1 hp=>?_
 cases e with
 |norm=>
  obtain⟨h1,ρ1,hp,hf⟩:=hp;rw[kO h1];exact hk rfl ρ1 w1 a1 hp hf
 |ret=>
  have hp':=hp;obtain⟨h1,_⟩:=hp;cases e'<;>simp[exM]at h1;exact hq aO _ _ _ hp'
 |exit i=>
  have hp':=hp;obtain⟨h1,_⟩:=hp;cases e'<;>simp[exM]at h1;exact hq aO _ _ _ hp'
theorem Bf{N:Nat}(hR:∀m,m<=N->gA P (run E m))(hC:∀m,m<=N->iV P (run E m))(hD:∀m,m<=N->tg P (run E m))(hrng:∀f ps x y cc tm ds rd h e tm' ds' h',run E (N+1) (.code cc tm ds rd h)=some (.code e tm' ds' h')->Wf h->∀n A ρ w a,comp P n (.rangeFunc f ps x y)=some cc->n<1000000->Rel P A ρ w h->Dj A h h'->Fr P A ρ w n ds tm a->(∀l,rd=some l->A l)->(Code.rangeFunc f ps x y).wpIn (fc rd ρ) 0 P (eY P A ρ w h n e tm' ds' h') a w):iV P (run E (N+1)):=by
 intro cc tm ds rd h e tm' ds' h' ee fh n c A ρ w a hcc hn t hd hf hrd;have hFC:=zJ rd ρ;have gd:=fun m=>jU E m
 cases c with
 |skip=>
  simp only[comp,ah]at hcc;subst hcc;simp only[run,body,ah,Out.code.injEq]at ee;obtain⟨rfl,rfl,rfl,rfl⟩:=ee;exact wpIn_skip ⟨trivial,ρ,bc.refl t,hf.ext⟩
 |label l=>
  simp only[comp,ah]at hcc;subst hcc;simp only[run,body,ah,Out.code.injEq]at ee;obtain⟨rfl,rfl,rfl,rfl⟩:=ee;exact wpIn_label ⟨trivial,ρ,bc.refl t,hf.ext⟩
 |ret=>
  simp only[comp,ah]at hcc;subst hcc;simp only[run,body,ah,Out.code.injEq]at ee;obtain⟨rfl,rfl,rfl,rfl⟩:=ee;exact wpIn_ret ⟨trivial,ρ,bc.refl t,hf.ext⟩
 |exit id=>
  simp only[comp,ah]at hcc;subst hcc;simp only[run,body,ah,Out.code.injEq]at ee;obtain⟨rfl,rfl,rfl,rfl⟩:=ee;exact wpIn_exit ⟨rfl,ρ,bc.refl t,hf.ext⟩
 |goto l=>simp[comp]at hcc
 |scope x=>simp[comp]at hcc
 |refuse s=>simp[comp]at hcc
 |seq x y=>
  simp only[comp]at hcc;obtain⟨cx,e1,hcc⟩:=aq hcc;obtain⟨cy,e2,rfl⟩:=aj hcc;simp only[run,body]at ee;split at ee
  ·next tm1 ds1 h1 e3=>
   have g1:=(gd N).2 _ _ _ _ _ _ _ _ _ e3 fh;have g2:=(gd N).2 _ _ _ _ _ _ _ _ _ ee g1.wf;refine wpIn_seq (jR (hC N (ai _) _ _ _ _ _ _ _ _ _ e3 fh n x A ρ w a e1 hn t (hd.left g2.good.next) hf hrd) (fun _ ρ1 w1 a1 hp hf1=>?_) (fun he=>absurd rfl he));have hfc:fc rd ρ1=fc rd ρ:=zH fun l hl=>(hp.mo (hd.left g2.good.next)).eq l (hrd l hl);rw[<-hfc];exact wpIn_mono (hC N (ai _) _ _ _ _ _ _ _ _ _ ee g1.wf n y _ ρ1 w1 a1 e2 hn hp.rel (hd.right g1.good.next) hf1 (fun l hl=>.inl (hrd l hl))) fun e' a' w' q=>ph hp g1 g2 q
  ·next hne=>
   refine wpIn_seq (jR (hC N (ai _) _ _ _ _ _ _ _ _ _ ee fh n x A ρ w a e1 hn t hd hf hrd) (fun he=>?_) (fun _ e' a1 w1 q=>q));subst he;exact absurd ee (hne _ _ _)
 |cond x y z=>
  simp only[comp]at hcc;obtain⟨cx,e1,hcc⟩:=aq hcc;obtain⟨cy,e2,rfl⟩:=aj hcc;have hx:=hf.tr.op x;unfold OpV at hx;simp only[run,body]at ee;split at ee
  ·next e3=>
   rw[e3]at hx;exact wpIn_cond_true hx.bool (hC N (ai _) _ _ _ _ _ _ _ _ _ ee fh n y A ρ w a e1 hn t hd hf hrd)
  ·next e3=>
   rw[e3]at hx;exact wpIn_cond_false hx.bool (hC N (ai _) _ _ _ _ _ _ _ _ _ ee fh n z A ρ w a e2 hn t hd hf hrd)
  ·cases ee
 |block id x=>
  simp only[comp]at hcc;obtain⟨cx,e1,rfl⟩:=aj hcc;simp only[run,body]at ee;refine wpIn_block ?_;split at ee
  ·next i tm1 ds1 h1 e3=>
   split at ee
   ·next hi=>
    have hi':=dX hi;simp only[ah,Out.code.injEq]at ee;obtain⟨rfl,rfl,rfl,rfl⟩:=ee;refine wpIn_mono (hC N (ai _) _ _ _ _ _ _ _ _ _ e3 fh n x A ρ w a e1 hn t hd hf hrd) fun e' a' w' q=>?_;obtain⟨q1,q2⟩:=q;cases e'<;>simp[exM]at q1;subst q1;simp only[Exit.inBlock,hi',if_true];exact⟨trivial,q2⟩
   ·next hi=>
    have hi':=ov hi;simp only[ah,Out.code.injEq]at ee;obtain⟨rfl,rfl,rfl,rfl⟩:=ee;refine wpIn_mono (hC N (ai _) _ _ _ _ _ _ _ _ _ e3 fh n x A ρ w a e1 hn t hd hf hrd) fun e' a' w' q=>?_;obtain⟨q1,q2⟩:=q;cases e'<;>simp[exM]at q1;subst q1;simp only[Exit.inBlock,hi',if_false];exact⟨rfl,q2⟩
  ·next hne=>
   refine wpIn_mono (hC N (ai _) _ _ _ _ _ _ _ _ _ ee fh n x A ρ w a e1 hn t hd hf hrd) fun e' a' w' q=>?_
   cases e with
   |norm=>have:=kO q.1;subst this;exact q
   |ret=>
    have q1:=q.1;cases e'<;>simp[exM]at q1;exact q
   |exit i=>exact absurd ee (hne _ _ _ _)
 |loop x=>
  simp only[comp]at hcc;obtain⟨cx,e1,rfl⟩:=aj hcc;refine tw (fun k a1 w1=>k<=N+1/\∃tm1 ds1 h1 ρ1,run E k (.code (.loop cx) tm1 ds1 rd h1)=some (.code e tm' ds' h')/\Gd h h1/\bc P A ρ w h ρ1 w1 h1/\Fr P (Ext A h h1) ρ1 w1 n ds1 tm1 a1) (k:=N+1) ⟨ai _,tm,ds,h,ρ,ee,Gd.refl fh,bc.refl t,hf.ext⟩ ?_;rintro k a1 w1 ⟨hk,tm1,ds1,h1,ρ1,er,g1,p1,f1⟩
  cases k with
  |zero=>simp[run]at er
  |succ k=>
   have hkN:k<=N:=by omega
   have gEnd:=(gd (k+1)).2 _ _ _ _ _ _ _ _ _ er g1.wf;have hd1:=hd.right g1.good.next
   have hfc:fc rd ρ1=fc rd ρ:=zH fun l hl=>(p1.mo (hd.left gEnd.good.next)).eq l (hrd l hl);simp only[run,body]at er;rw[<-hfc];split at er
   ·next tm2 ds2 h2 e3=>
    have g2:=(gd k).2 _ _ _ _ _ _ _ _ _ e3 g1.wf;have g3:=(gd k).2 _ _ _ _ _ _ _ _ _ er g2.wf;refine jR (hC k hkN _ _ _ _ _ _ _ _ _ e3 g1.wf n x _ ρ1 w1 a1 e1 hn p1.rel (hd1.left g3.good.next) f1 (fun l hl=>.inl (hrd l hl))) (fun _ ρ2 w2 a2 hp hf2=>⟨k,by omega,by omega,tm2,ds2,h2,ρ2,er,g1.trans g2,p1.trans g1.good hp g2.good,hf2.mo (Mo.ext g1.good.next g2.good.next _) (Lt.refl _)⟩) (fun he=>absurd rfl he)
   ·next hne=>
    have g2:=(gd k).2 _ _ _ _ _ _ _ _ _ er g1.wf;refine jR (hC k hkN _ _ _ _ _ _ _ _ _ er g1.wf n x _ ρ1 w1 a1 e1 hn p1.rel hd1 f1 (fun l hl=>.inl (hrd l hl))) (fun he=>?_) (fun _ e' a2 w2 q=>ph p1 g1 g2 q);subst he;exact absurd er (hne _ _ _)
 |region id ops draw=>
  simp only[comp]at hcc;obtain⟨r,e1,rfl⟩:=aj hcc;simp only[run,body]at ee;split at ee
  ·next tm1 h1 e2=>
   simp only[ah,Out.code.injEq]at ee;obtain⟨rfl,rfl,rfl,rfl⟩:=ee
   cases draw with
   |true=>exact hD N (ai _) (fc rd ρ) hFC _ ops id n hn r e1 tm h tm1 h1 e2 fh A ρ w a ds t hd hf (fun ρ' w' a' hp hf'=>⟨trivial,ρ',hp,hf'⟩)
   |false=>
    refine wpIn_region ?_;rw[List.range_eq_range'];have:=ky (hR N (ai _)) (gd N).1 hFC (Q:=eY P A ρ w h n .norm tm1 ds h1) (ops:=ops) hn ops.toList 0 [] _ r (fun i o hi=>by rw[bU];simpa using hi) e1 tm h tm1 h1 A ρ w a e2 fh t hd hf (fun ρ' w' a' hp hf'=>⟨trivial,ρ',hp,hf'⟩);simpa using this
  ·cases ee
 |rangeFunc f ps x y=>exact hrng f ps x y cc tm ds rd h e tm' ds' h' ee fh n A ρ w a hcc hn t hd hf hrd
end CI
end
section
open Go.RowKit
namespace CI
variable {P : Program} {A A' : Nat->Prop} {ρ ρ' : Nat->Nat} {w w' : World} {tm tm' : Tm} {a : Act} {c : C} {h h' h'' : H} {rec : Rec} {E : Env} {n : Nat} {ds ds' : List Nat}
theorem jJ(w:World)(o:Obj):Below w.heap.size w (w.alloc o):=(Below.refl _ _).alloc (ai _) _
theorem oO{r:Nat}{o:Obj}(h:w.heap[r]?=some o)(ho:∀c e f,o≠ .cells c e f):NW w r:=fun m e=>by
 unfold World.cell? at e;rw[h]at e;cases o<;>simp at e;exact absurd rfl (ho _ _ _)
theorem jk{r:Nat}{o:Obj}(h:w.heap[r]?=some o)(ho:∀c e f,o≠ .cells c e f):w.shape? r=none:=by
 unfold World.shape?;rw[h];cases o<;>first|rfl|exact absurd rfl (ho _ _ _)
theorem kC{k:Nat}{b b0:B}{o o':Obj}(t:Rel P A ρ w h)(hb:h.get k=some b0)(ho:w.heap[ρ k]?=some o)(hoc:∀c e f,o≠ .cells c e f)(hB:BR P A ρ (w.putObj (ρ k) o') (ρ k) b):bc P A ρ w h ρ (w.putObj (ρ k) o') (h.set k (some b)):=by
 refine rT t (aG hb) ⟨rfl,rfl,rfl,by simp,fun j _ hj=>World.putObj_heap_other hj⟩ (oO ho hoc) (fun s hs=>?_) hB;rw[jk ho hoc]at hs;cases hs
theorem yA{N:Nat}(hR:gA P (run E N)):∀f ps x y cc tm ds rd h e tm' ds' h',run E (N+1) (.code cc tm ds rd h)=some (.code e tm' ds' h')->Wf h->∀n A ρ w a,comp P n (.rangeFunc f ps x y)=some cc->n<1000000->Rel P A ρ w h->Dj A h h'->Fr P A ρ w n ds tm a->(∀l,rd=some l->A l)->(Code.rangeFunc f ps x y).wpIn (fc rd ρ) 0 P (eY P A ρ w h n e tm' ds' h') a w:=by
 intro f ps x y cc tm ds rd h e tm' ds' h' ee fh n A ρ w a hcc hn t hd hf hrd;have hFC:=zJ rd ρ;simp only[comp]at hcc;split at hcc
 ·cases hcc
 next hall=>
 obtain⟨ca,c1,hcc⟩:=aq hcc;obtain⟨cb,c2,rfl⟩:=aj hcc;have hps:∀u∈ps.toList,u<n:=fun u hu=>by
  have:=iG.1 hall u hu;simpa[aJ]using this
 simp only[run,body]at ee;split at ee
 case h_2=>cases ee
 next d ds1 h1 e1=>
 split at ee
 case h_2=>cases ee
 next h2 e2=>
 split at ee
 case h_2=>cases ee
 next c3 h3 e3=>
 split at e3
 case h_2=>cases e3
 next g caps ef=>
 split at ee
 ·cases ee
 case h_3=>cases ee
 next st p tm2 ps2 a2 b2 d2 hst hb3=>
 simp only[ah,Out.code.injEq]at ee;obtain⟨rfl,rfl,rfl,rfl⟩:=ee;have g1:Gd h h1:=by
  split at e1
  ·split at e1
   ·simp only[ah,av]at e1;obtain⟨_,_,rfl⟩:=e1;exact Gd.refl fh
   ·cases e1
  ·obtain⟨hx,ex,e3x⟩:=aj e1;simp only[av]at e3x;obtain⟨_,_,rfl⟩:=e3x;exact gk fh ex
 have g2:=gk g1.wf e2;have g3:=(jU E N).1 _ _ _ _ _ e3 g2.wf;have g4:=eE (b:=some (B.loop .lJ p tm2 ps2 a2 b2 d2)) g3.wf (aG hb3);have hd1:Dj A h h1:=hd.left (aE g2.good.next (aE g3.good.next g4.good.next));have hd2:Dj (Ext A h h1) h1 h2:=(hd.right g1.good.next).left (aE g3.good.next g4.good.next);have hd3:Dj (Ext (Ext A h h1) h1 h2) h2 h3:=((hd.right g1.good.next).right g2.good.next).left g4.good.next
 have key:∃ρ1 w1 mark,bc P A ρ w h ρ1 w1 h1/\Ext A h h1 d/\(∀fn,(Instr.enterLoop fn a.tmps ps x y (fc rd ρ).round).run P w= .ok (w1.heap.size,mark) (w1.alloc (.loop ⟨.ready,none,fn,a.tmps,ps,x,y,ρ1 d⟩)))/\mark++a.defers=ds1.map (lY ρ1)/\∀k∈ds1,Ext A h h1 k:=by
  cases rd with
  |none=>
   obtain⟨h1',k1,k2⟩:=aj e1;simp only[av]at k2;obtain⟨rfl,rfl,rfl⟩:=k2;have hB:∀A' ρ',Mo A A' ρ ρ'->ρ' h.next=w.heap.size->A' h.next->BR P A' ρ' (w.alloc (.deferred (some []))) w.heap.size (.defd true):=fun A' ρ' _ _ _=>heap_alloc_new w _
   have hp:=gH t k1 hd1 (jJ w (.deferred (some []))) (ai _) aO hB;have hnx:Ext A h h1' h.next:=.inr ⟨ai _,by have:=(bP k1).1;omega⟩
   have hat:at' ρ h.next w.heap.size h.next=w.heap.size:=by unfold at';rw[aB rfl]
   refine⟨_,w.alloc (.deferred (some [])),[{target:=.collected w.heap.size,args:=#[]}],hp,hnx,fun fn=>?_,?_,fun k hk=>?_⟩
   ·have:=run_enterLoop_outer (P:=P) (w:=w) fn a.tmps ps x y;rw[hat];show(Instr.enterLoop fn a.tmps ps x y none).run P w=_;rw[this];simp
   ·rw[eh,hf.df];simp only[List.singleton_append,lY,hat,List.cons.injEq,true_and];exact oe fun k hk=>by unfold lY;rw[(hp.mo hd1).eq k (hf.nm k hk)]
   ·rcases bj.1 hk with rfl|hk
    ·exact hnx
    ·exact .inl (hf.nm k hk)
  |some l=>
   simp only at e1;split at e1
   ·next st' p' tmx psx ax bx dx hbl=>
    simp only[ah,av]at e1;obtain⟨rfl,rfl,rfl⟩:=e1;obtain⟨_,_,_,hA,fn',tmps',a',b',hh,_⟩:=t.blk l _ hbl;refine⟨ρ,w,[],bc.refl t,.inl hA,fun fn=>?_,by rw[kg,hf.df],fun k hk=>.inl (hf.nm k hk)⟩;show(Instr.enterLoop fn a.tmps ps x y (some (ρ l))).run P w=_;unfold Instr.enterLoop;simp only[Sem.run_bind,run_getLoop hh,Result.andThen_ok,run_newObj_alloc,Sem.run_pure]
   ·cases e1
 obtain⟨ρ1,w1,mark,p1,hAd,henter,hmark,hds1⟩:=key;have hf1:=hf.mo (p1.mo hd1) p1.lt;refine wpIn_rangeFunc fun fn _=>?_;have hB:∀A' ρ',Mo (Ext A h h1) A' ρ1 ρ'->ρ' h1.next=w1.heap.size->A' h1.next->BR P A' ρ' (w1.alloc (.loop ⟨.ready,none,fn,a.tmps,ps,x,y,ρ1 d⟩)) w1.heap.size (.loop .ready .norm tm ps.toList ca cb d):=fun A' ρ' m _ _=>
  ⟨m.sub d hAd,fn,a.tmps,x,y,by rw[m.eq d hAd];exact heap_alloc_new w1 _,hf1.tr.mo m (Lt.below (jJ w1 _)),by rw[hf.sz];exact c1,by rw[hf.sz];exact c2,by rw[hf.sz];exact hn,fun u hu=>by rw[hf.sz];exact hps u hu⟩
 have p2:=gH p1.rel e2 hd2 (jJ w1 (.loop ⟨.ready,none,fn,a.tmps,ps,x,y,ρ1 d⟩)) (ai _) aO hB;have hL:at' ρ1 h1.next w1.heap.size h1.next=w1.heap.size:=by unfold at';rw[aB rfl]
 have hAL:Ext (Ext A h h1) h1 h2 h1.next:=.inr ⟨ai _,by have:=(bP e2).1;omega⟩
 have hfv:=hf.tr.op f;unfold OpV at hfv;rw[ef]at hfv;have hfv2:=VR.mo (p2.mo hd2) p2.lt _ _ (VR.mo (p1.mo hd1) p1.lt _ _ hfv);have hcall:=hR _ _ _ _ _ e3 g2.wf _ _ _ _ #[.func (.yield w1.heap.size) #[] #[]] p2.rel hd3 hfv2 (by
  simp only[VRl,VR];exact⟨_,[],rfl,⟨hAL,by rw[hL]⟩,rfl⟩)
 obtain⟨dd,hdd,hk⟩:=hcall;have hk':∃f' args',(invoke dd.target dd.args).run P (w1.alloc (.loop ⟨.ready,none,fn,a.tmps,ps,x,y,ρ1 d⟩))= .ok (.enter f' args') (w1.alloc (.loop ⟨.ready,none,fn,a.tmps,ps,x,y,ρ1 d⟩))/\CallsIn Fence.wide 0 P f' args' (w1.alloc (.loop ⟨.ready,none,fn,a.tmps,ps,x,y,ρ1 d⟩)) (eC P (Ext (Ext A h h1) h1 h2) (at' ρ1 h1.next w1.heap.size) (w1.alloc (.loop ⟨.ready,none,fn,a.tmps,ps,x,y,ρ1 d⟩)) h2 c3 h3):=by
  rcases hk with⟨f',args',q1,q2⟩|⟨l,g',tmps,s,b,q0,_⟩
  ·exact⟨f',args',q1,q2⟩
  ·simp only[VR]at hfv;obtain⟨us,e5,_⟩:=hfv;rw[e5]at q0;cases q0
 obtain⟨f',args',q1,q2⟩:=hk';refine⟨w1.heap.size,mark,_,dd,_,f',args',_,henter fn,?_,fun _ _=>hFC.fn _,q1,hFC.depth,(hFC.calls q2).mono fun e5 w3 hpost=>?_⟩
 ·simp only[resolve,ko,eh,eZ];exact hdd
 obtain⟨u,ρ3,rfl,p3,_⟩:=hpost;have hr3:ρ3 h1.next=w1.heap.size:=by rw[p3.rho h1.next (.inl (by have:=(bP e2).1;omega)),hL]
 obtain⟨_,_,_,hAd2,fn',tmps',x',y',hh,hTR,hrest⟩:=p3.rel.blk h1.next _ hb3
 have hnb:pK st≠ .busy:=fun e=>by
  cases st<;>simp[pK]at e;exact hst rfl
 have hend:=run_endLoop (P:=P) hh hnb;refine⟨jI p,_,by rw[<-hr3];exact hend,?_⟩;have hlt4:Lt w3 (w3.putObj (ρ3 h1.next) (.loop ⟨.exhausted,jI p,fn',tmps',ps2.toArray,x',y',ρ3 d2⟩)):=Lt.chg (g:=ρ3 h1.next) ⟨rfl,rfl,rfl,by simp,fun j _ hj=>World.putObj_heap_other hj⟩ (oO hh aO) (fun s hs=>by rw[jk hh aO]at hs;cases hs);have hpo:=kC (o':=.loop ⟨.exhausted,jI p,fn',tmps',ps2.toArray,x',y',ρ3 d2⟩) (b:=.loop .lJ p tm2 ps2 a2 b2 d2) p3.rel hb3 hh aO ⟨hAd2,fn',tmps',x',y',World.putObj_heap_same (ft.1 hh).1,hTR.mo (Mo.refl _ _) hlt4,hrest⟩;have pAll:=p1.trans g1.good (p2.trans g2.good (p3.trans g3.good hpo g4.good) (g3.good.trans g4.good)) (g2.good.trans (g3.good.trans g4.good));have pT:=p2.trans g2.good (p3.trans g3.good hpo g4.good) (g3.good.trans g4.good);have hdT:Dj (Ext A h h1) h1 (h3.set h1.next (some (.loop .lJ p tm2 ps2 a2 b2 d2))):=hd.right g1.good.next
 have hfE:Fr P (Ext A h (h3.set h1.next (some (.loop .lJ p tm2 ps2 a2 b2 d2)))) ρ3 (w3.putObj (ρ3 h1.next) (.loop ⟨.exhausted,jI p,fn',tmps',ps2.toArray,x',y',ρ3 d2⟩)) n ds1 tm {a with defers:=mark++a.defers}:=by
  have hmo:Mo (Ext A h h1) (Ext A h (h3.set h1.next (some (.loop .lJ p tm2 ps2 a2 b2 d2)))) ρ1 ρ3:=⟨fun k hk=>(Ext.trans g1.good.next (aE g2.good.next (aE g3.good.next g4.good.next)) k).1 ((pT.mo hdT).sub k hk),(pT.mo hdT).eq⟩;refine Fr.mo hmo pT.lt ⟨hf1.tr,hf.sz,hds1,hmark⟩
 cases p with
 |norm=>exact⟨trivial,ρ3,pAll,hfE⟩
 |ret=>exact wpIn_ret ⟨trivial,ρ3,pAll,hfE⟩
 |exit id=>exact wpIn_exit ⟨rfl,ρ3,pAll,hfE⟩
end CI
end
section
open Go.RowKit
namespace CI
variable {P : Program} {A A' : Nat->Prop} {ρ ρ' : Nat->Nat} {w w' : World} {tm tm' : Tm} {a : Act} {c : C} {h h' h'' : H} {rec : Rec} {E : Env} {n : Nat} {ds ds' : List Nat}
theorem ev_e(u:Nat):CO.ev (T.e:Tm) (CO.t u)= .any:=by simp[CO.ev,T.oY]
theorem pa:∀(l:List C) (k:Nat) (tm:Tm) (u:Nat),k+l.length<=1000000->CO.ev (setArgs 24 k l tm) (CO.t u)=if k<=u/\u<k+l.length then(l[u-k]?).getD .any else CO.ev tm (CO.t u)
 |[],k,tm,u,_=>by
  simp only[setArgs,gU,bS];rw[an aa]
 |c::l,k,tm,u,hk=>by
  simp only[setArgs,eu]at hk⊢;rw[pa l (k+1) _ u aa,pc aa];by_cases h1:k+1<=u/\u<k+1+l.length
  ·rw[aB h1,aB aa,show u-k=(u-(k+1))+1 by omega,List.getElem?_cons_succ]
  ·rw[an h1];by_cases h2:u=k
   ·subst h2;rw[aB rfl,aB aa,Nat.sub_self];rfl
   ·rw[an h2,an aa]
theorem VRl.len:∀{l:List C} {vs:List Value},VRl P A ρ w l vs->vs.length=l.length
 |[],_,h=>by simp only[VRl]at h;subst h;rfl
 |d::l,vs,h=>by
  simp only[VRl]at h;obtain⟨u,rest,rfl,_,h3⟩:=h;simp[VRl.len h3]
theorem VRl.app{l2:List C}{ys:List Value}(k:VRl P A ρ w l2 ys):∀{l:List C} {xs:List Value},VRl P A ρ w l xs->VRl P A ρ w (l++l2) (xs++ys)
 |[],_,h=>by simp only[VRl]at h;subst h;exact k
 |d::l,xs,h=>by
  simp only[VRl]at h;obtain⟨u,rest,rfl,h2,h3⟩:=h;simp only[qO,VRl];exact⟨u,rest++ys,rfl,h2,VRl.app k h3⟩
theorem Bl{l:List C}{vs:Array Value}(hv:VRl P A ρ w l vs.toList)(hl:l.length<=n)(hn:n<1000000):Fr P A ρ w n [] (setArgs 24 0 l .e) {tmps:=vs++Array.replicate (n-vs.size) undef,defers:=[]}:=by
 have hlen:vs.size=l.length:=by rw[<-hv.len,bL]
 refine⟨fun u=>?_,fq,(fun k hk=>by cases hk),rfl⟩;rw[pa l 0 .e u aa];split
 ·next hu=>
  simp only[bU]at hu;obtain⟨u',k1,k2⟩:=VRl.at hv (aP (show u-0<l.length by omega));rw[Nat.sub_zero]at k1⊢;have e:(vs++Array.replicate (n-vs.size) undef).getD u undef=u':=by
   rw[ct,kp aa,<-cM,k1];rfl
  rw[e,aP aa];simpa using k2
 ·rw[ev_e];simp only[VR]
def qT(tmps:Array Value)(r:ResultVar):Sem Value:=
 match r with
 | .tmp t=>pure (tmps.getD t undef)
 | .cell a t=>do loadVar t (<-asAddr (tmps.getD a undef))
theorem vu(fn:Func)(tmps:Array Value):Go.results fn tmps=(do
 let vs<-fn.results.mapM (qT tmps)
 pure (if h:vs.size=1 then vs[0]else .tuple vs)):=rfl
theorem tz{fn:Func}{rvs:List RV}{rs:List C}(hr:kv P fn.results.toList=some rvs)(he:results tm h rvs=some rs)(t:Rel P A ρ w h){tmps:Array Value}(hf:TR P A ρ w tm tmps):∃v,(Go.results fn tmps).run P w= .ok v w/\VR P A ρ w (jD rs) v:=by
 have key:∀(l:List ResultVar) (rvs:List RV) (rs:List C),kv P l=some rvs->results tm h rvs=some rs->∃vs,(l.mapM (m:=Sem) (qT tmps)).run P w= .ok vs w/\VRl P A ρ w rs vs:=by
  intro l
  induction l with
  |nil=>
   intro rvs rs h1 h2;simp only[kv,ah]at h1;subst h1;simp only[results,ah]at h2;subst h2;exact⟨[],by simp,by simp only[VRl]⟩
  |cons r l ih=>
   intro rvs rs h1 h2;simp only[kv]at h1;obtain⟨rv,e1,h1⟩:=aq h1;obtain⟨rvs',e2,rfl⟩:=aj h1
   cases r with
   |tmp u=>
    simp only[rvOf,ah]at e1;subst e1;simp only[results]at h2;obtain⟨rs',e3,rfl⟩:=aj h2;obtain⟨vs,k1,k2⟩:=ih _ _ e2 e3;refine⟨tmps.getD u undef::vs,by rw[List.mapM_cons];simp only[qT,Sem.run_bind,Sem.run_pure,Result.andThen_ok,k1],?_⟩;simp only[VRl];exact⟨_,vs,rfl,hf u,k2⟩
   |cell u ty=>
    simp only[rvOf]at e1;obtain⟨s,e4,e1⟩:=aq e1;obtain⟨r',e5,rfl⟩:=aj e1;simp only[results]at h2;obtain⟨c,e6,h2⟩:=aq h2;obtain⟨rs',e3,rfl⟩:=aj h2;obtain⟨vs,k1,k2⟩:=ih _ _ e2 e3;have hu:=hf u;unfold ir at e6;split at e6
    ·next k off e7=>
     rw[e7]at hu;simp only[VR]at hu;split at e6
     ·next T l hb=>
      obtain⟨p,e8,e9⟩:=aq e6;obtain⟨v,k3,k4⟩:=oV t hb e8 e9 e5 e4;refine⟨v::vs,?_,?_⟩
      ·have ha:(asAddr (tmps.getD u undef)).run P w= .ok ⟨ρ k,off,none⟩ w:=by rw[hu.2];rfl
       have hrv:(qT tmps (.cell u ty)).run P w= .ok v w:=by
        show(asAddr (tmps.getD u undef)>>=loadVar ty).run P w=_;rw[Sem.run_bind,ha,Result.andThen_ok,k3]
       rw[List.mapM_cons];simp only[Sem.run_bind,Sem.run_pure,Result.andThen_ok,hrv,k1]
      ·simp only[VRl];exact⟨v,vs,rfl,k4,k2⟩
     ·cases e6
    ·cases e6
 obtain⟨vs,k1,k2⟩:=key _ _ _ hr he;have hrun:(Go.results fn tmps).run P w= .ok (if h:vs.toArray.size=1 then vs.toArray[0]else .tuple vs.toArray) w:=by
  rw[vu,Array.mapM_eq_mapM_toList];simp only[Sem.run_bind,map_eq_pure_bind,k1,Result.andThen_ok,Sem.run_pure]
 refine⟨_,hrun,?_⟩
 match rs,vs,k2 with
 |[],vs,k2=>
  simp only[VRl]at k2;subst k2;simp only[jD,VR];exact⟨#[],by simp,by simp only[VRl]⟩
 |[c],vs,k2=>
  simp only[VRl]at k2;obtain⟨u,_,rfl,k3,rfl⟩:=k2;simpa[jD]using k3
 |c1::c2::rs,vs,k2=>
  have hl:=k2.len;simp only[jD,VR];refine⟨vs.toArray,?_,by simpa using k2⟩;rw[dif_neg (by simp at hl⊢;omega)]
theorem sU{F:Fence}{fn:Func}{tmps:Array Value}{R:Ending->World->Prop}:∀(ds:List Nat) (w:World) (h h':H),dH ds h=some h'->Wf h->Rel P A ρ w h->(∀w',bc P A ρ w h ρ w' h'->∃v,(Go.results fn tmps).run P w'= .ok v w'/\R (.returned v) w')->LeavesInM F 0 P fn tmps R (ds.map (lY ρ)) .returning w
 |[],w,h,h',e,_,t,hk=>by
  simp only[dH,ah]at e;subst e;exact hk w (bc.refl t)
 |k::l,w,h,h',e,fh,t,hk=>by
  simp only[dH]at e;split at e
  ·next hb=>
   obtain⟨_,_,hlt,hB⟩:=t.blk k _ hb;simp only[BR,if_true]at hB;have hpo:=kC (o':=.deferred none) (b:=.defd false) t hb hB aO (by
    show(w.putObj (ρ k) (.deferred none)).heap[ρ k]?=_;rw[World.putObj_heap_same hlt];rfl)
   have g1:=eE (b:=some (.defd false)) fh (aG hb);have g2:=jB _ _ _ e g1.wf;have hrel:Rel P A ρ (w.putObj (ρ k) (.deferred none)) (h.set k (some (.defd false))):=hpo.rel.mo ⟨fun j hj=>hj.resolve_right (fun q=>by
    have:(h.set k (some (B.defd false))).next=h.next:=rfl
    omega),fun _ _=>rfl⟩ (Lt.refl _) (fun _ _=>rfl)
   simp only[eh];unfold LeavesInM;refine⟨by simp,.inl ⟨ρ k,_,rfl,run_takeDeferred hB,sU l _ _ h' e g1.wf hrel fun w2 hp=>hk w2 (hpo.trans g1.good ⟨hp.rho,hp.rel.mo ⟨fun j hj=>hj.imp (fun q=>.inl q) id,fun _ _=>rfl⟩ (Lt.refl _) (fun _ _=>rfl),hp.lt,hp.fr,hp.new⟩ g2.good)⟩⟩
  ·cases e
def pn(P:Program)(E:Env):Prop:=∀g f,E.orc g=some f->∀args r,f args=some r->∀A ρ w vs,VRl P A ρ w args vs.toList->
 Enters P g/\Calls P g vs w (fun e w'=>∃u,e= .returned u/\VR P A ρ w' r u/\Below w.heap.size w w')
theorem rV:∀(ps:List Nat) (args:List C) (tm tm2:Tm) (vs:List Value) (tmps:Array Value),jn ps args tm=some tm2->TR P A ρ w tm tmps->VRl P A ρ w args vs->(∀t∈ps,t<tmps.size)->tmps.size<1000000->
  TR P A ρ w tm2 ((ps.zip vs).foldl (fun (tmps:Array Value) (p:Nat×Value)=>tmps.setIfInBounds p.1 p.2) tmps)/\((ps.zip vs).foldl (fun (tmps:Array Value) (p:Nat×Value)=>tmps.setIfInBounds p.1 p.2) tmps).size=tmps.size/\vs.length=ps.length
 |[],[],tm,tm2,vs,tmps,e,hT,hv,_,_=>by
  simp only[jn,ah]at e;subst e;simp only[VRl]at hv;subst hv;exact⟨hT,rfl,rfl⟩
 |t::ps,c::args,tm,tm2,vs,tmps,e,hT,hv,hp,hs=>by
  simp only[jn]at e;simp only[VRl]at hv;obtain⟨u,rest,rfl,h2,h3⟩:=hv;have ht:=hp t ba;obtain⟨k1,k2,k3⟩:=rV ps args _ tm2 rest (tmps.setIfInBounds t u) e (hT.put ht aa h2) h3 (fun t' ht'=>by simpa using hp t' (bh _ ht')) (by simpa using hs);exact⟨k1,by rw[List.zip_cons_cons,List.foldl_cons,k2];simp,by simp[k3]⟩
 |[],_::_,_,_,_,_,e,_,_,_,_=>by simp[jn]at e
 |_::_,[],_,_,_,_,e,_,_,_,_=>by simp[jn]at e
end CI
end
section
open Go.RowKit
namespace CI
variable {P : Program} {A A' : Nat->Prop} {ρ ρ' : Nat->Nat} {w w' : World} {tm tm' : Tm} {a : Act} {c : C} {h h' h'' : H} {rec : Rec} {E : Env} {n : Nat} {ds ds' : List Nat}
theorem vP {g : FuncId} {fn : F} (h : jA P g = some fn) : ∃ f c, P.funcs[g]? = some f ∧ f.body = some c ∧ f.ntmps < 1000000 ∧ (f.name == "runtime.NumGoroutine") = false ∧ comp P f.ntmps c = some fn.body ∧ kv P f.results.toList = some fn.res ∧ fn.ntmps = f.ntmps := by
 unfold jA at h;obtain⟨f,e1,h⟩:=aq h;obtain⟨c,e2,h⟩:=aq h;split at h
 ·next hb=>
  simp only[cu,Bool.not_eq_true']at hb;obtain⟨cc,e3,h⟩:=aq h;obtain⟨r,e4,rfl⟩:=aj h;exact⟨f,c,e1,e2,by simpa[aJ]using hb.1,hb.2,e3,e4,rfl⟩
 ·cases h
theorem lR{g:FuncId}(hE:Enters P g)(vs us:Array Value)(w:World):∃d,(Deferred.ofValue (.func (.func g) #[] us) vs).run P w= .ok d w/\(invoke d.target d.args).run P w= .ok (.enter g (vs++us)) w:=by
 refine⟨{target:=.fn (.func g) us,args:=#[]++vs},by simp[Deferred.ofValue],?_⟩;have:=hE (vs++us) w;simp[invoke,this]
theorem VR.ext{v:Value}(h:VR P A ρ w c v){h1 h2:H}:VR P (Ext A h1 h2) ρ w c v:=VR.mo ⟨fun _ hk=>.inl hk,fun _ _=>rfl⟩ (Lt.refl _) _ _ h
theorem BO(hO:pn P E){g:FuncId}{o:Orc}{args caps:List C}{r:C}{fv:Value}{vs:Array Value}(he:E.orc g=some o)(hr:o (args++caps)=some r)(t:Rel P A ρ w h)(hv:VR P A ρ w (.fn g caps) fv)(hvs:VRl P A ρ w args vs.toList):po P fv vs w (eC P A ρ w h r h):=by
 simp only[VR]at hv;obtain⟨us,rfl,hus⟩:=hv;obtain⟨hE,hC⟩:=hO g o he _ r hr A ρ w (vs++us) (by rw[Array.toList_append];exact VRl.app hus hvs);obtain⟨d,e1,e2⟩:=lR hE vs us w;refine⟨d,e1,.inl ⟨g,vs++us,e2,callsIn_wide.2 (hC.mono fun e w' ⟨u,h1,h2,h3⟩=>?_)⟩⟩;have hp:=bc.below t h3;exact⟨u,ρ,h1,hp,h2.ext⟩
theorem fn_ok(hC:iV P rec)(hG:mi rec){g:FuncId}{fn:F}{args caps:List C}{tm1:Tm}{ds1:List Nat}{h1 h2:H}{e:Ex}{rs:List C}{fv:Value}{vs:Array Value}(hf:jA P g=some fn)(hl:(args++caps).length<=fn.ntmps)
  (hr:rec (.code fn.body (setArgs 24 0 (args++caps) .e) [] none h)=some (.code e tm1 ds1 h1)) (hne:∀i,e≠ .exit i) (hcl:dH ds1 h1=some h2) (hrs:results tm1 h2 fn.res=some rs) (fh:Wf h) (t:Rel P A ρ w h) (hd:Dj A h h2) (hv:VR P A ρ w (.fn g caps) fv) (hvs:VRl P A ρ w args vs.toList):po P fv vs w (eC P A ρ w h (jD rs) h2):=by
 simp only[VR]at hv;obtain⟨us,rfl,hus⟩:=hv;obtain⟨f,c,e1,e2,e3,e4,e5,e6,e7⟩:=vP hf;obtain⟨d,k1,k2⟩:=lR (enters_of e1 e4 e2) vs us w;have hall:VRl P A ρ w (args++caps) (vs++us).toList:=by rw[Array.toList_append];exact VRl.app hus hvs
 rw[e7]at hl;have hfr:=Bl hall hl e3;have g1:=hG _ _ _ _ _ _ _ _ _ hr fh;have g2:=jB _ _ _ hcl g1.wf;have hw:=hC _ _ _ _ _ _ _ _ _ hr fh f.ntmps c A ρ w _ e5 e3 t (hd.left g2.good.next) hfr (fun l hl=>by cases hl);refine⟨d,k1,.inl ⟨g,vs++us,k2,callsIn_of_wp_marks e1 e2 trivial (wpIn_mono hw fun e' a' w' q=>?_)⟩⟩;obtain⟨q1,ρ1,p1,f1⟩:=q;have hfin:LeavesInM Fence.wide 0 P f a'.tmps (eC P A ρ w h (jD rs) h2) a'.defers .returning w':=by
  rw[f1.df];refine sU ds1 w' h1 h2 hcl g1.wf p1.rel fun w2 p2=>?_;have hd2:Dj (Ext A h h1) h1 h2:=hd.right g1.good.next
  have pAll:=p1.trans g1.good p2 g2.good;obtain⟨v,r1,r2⟩:=tz e6 hrs pAll.rel (fun u=>VR.mo (Mo.ext g1.good.next g2.good.next _) (Lt.refl _) _ _ (VR.mo (p2.mo hd2) p2.lt _ _ (f1.tr u)));exact⟨v,r1,v,ρ1,rfl,pAll,r2⟩
 cases e with
 |norm=>rw[kO q1];exact hfin
 |ret=>
  cases e'<;>simp[exM]at q1;exact hfin
 |exit i=>exact absurd rfl (hne i)
theorem yl_ok(hC:iV P rec)(hG:mi rec){l:Nat}{p0 p1:Ex}{tm0 tm1 tm2 tm3 tm4:Tm}{ps ps1:List Nat}{ca cb a1 b1:CC}{d0 d1:Nat}{args:List C}{h1 h2 h3:H}{e:Ex}{fv:Value}{vs:Array Value}
  (hb0:h.get l=some (.loop .ready p0 tm0 ps ca cb d0)) (hps:jn ps args tm0=some tm1) (hr1:rec (.code ca tm1 [] (some l) h)=some (.code .norm tm2 [] h1)) (hb1:h1.get l=some (.loop .ready p1 tm3 ps1 a1 b1 d1))
  (hr2:rec (.code cb tm2 [] (some l) (h1.set l (some (.loop .busy p1 tm3 ps1 a1 b1 d1))))=some (.code e tm4 [] h2)) (hend:sI l e h2=some (c,h3)) (fh:Wf h) (t:Rel P A ρ w h) (hd:Dj A h h3) (hv:VR P A ρ w (.yl l) fv) (hvs:VRl P A ρ w args vs.toList):po P fv vs w (eC P A ρ w h c h3):=by
 simp only[VR]at hv;obtain⟨hA,rfl⟩:=hv;obtain⟨_,_,_,hAd,fn,tmps,x,y,hh,hTR,c1,c2,hsz,hpl⟩:=t.blk l _ hb0;obtain⟨k1,k2,k3⟩:=rV ps args tm0 tm1 vs.toList tmps hps hTR hvs hpl hsz;have g1:=hG _ _ _ _ _ _ _ _ _ hr1 fh;have g2:=eE (b:=some (B.loop .busy p1 tm3 ps1 a1 b1 d1)) g1.wf (aG hb1);have g3:=hG _ _ _ _ _ _ _ _ _ hr2 g2.wf;have g4:=ua hend g3.wf;have hds:Dj (Ext A h h1) h1 h3:=hd.right g1.good.next
 refine⟨{target:=.fn (.yield (ρ l)) #[],args:=#[]++vs},by simp[Deferred.ofValue],.inr ⟨ρ l,fn,(ps.toArray.zip vs).foldl (fun (tmps:Array Value) (x:Tmp×Value)=>tmps.setIfInBounds x.1 x.2) tmps,x,y,rfl,?_,?_⟩⟩
 ·have hy:=run_yield (P:=P) (args:=vs) hh (by simp[<-k3]);simp only[Array.empty_append,invoke];exact hy
 refine roundIn_of_wpIn (F:=Fence.wide) trivial ?_;have hfold:((ps.toArray.zip vs).foldl (fun (tmps:Array Value) (x:Tmp×Value)=>tmps.setIfInBounds x.1 x.2) tmps)=((ps.zip vs.toList).foldl (fun (tmps:Array Value) (p:Nat×Value)=>tmps.setIfInBounds p.1 p.2) tmps):=by
  rw[<-Array.foldl_toList,Array.toList_zip]
 have hfr:Fr P A ρ w tmps.size [] tm1 {tmps:=(ps.toArray.zip vs).foldl (fun (tmps:Array Value) (x:Tmp×Value)=>tmps.setIfInBounds x.1 x.2) tmps,defers:=[]}:=
  ⟨by rw[hfold];exact k1,by rw[hfold];exact k2,(fun k hk=>by cases hk),rfl⟩
 have hw1:=hC _ _ _ _ _ _ _ _ _ hr1 fh tmps.size x A ρ w _ c1 hsz t (hd.left (aE g2.good.next (aE g3.good.next g4.good.next))) hfr (fun l' hl=>by cases hl;exact hA);refine jR hw1 (fun _ ρ1 w1 aa1 q1 f1=>?_) (fun he=>absurd rfl he);have hρ1:ρ1 l=ρ l:=q1.rho l (.inl (t.live (aG hb0)).1);obtain⟨_,_,_,hAd1,fn1,tmps1,x1,y1,hh1,hTR1,hrest1⟩:=q1.rel.blk l _ hb1;have hbeg:=run_beginRound (P:=P) hh1 rfl;refine⟨_,by rw[<-hρ1];exact hbeg,?_⟩;have hlt1:Lt w1 (w1.putObj (ρ1 l) (.loop ⟨.busy,jI p1,fn1,tmps1,ps1.toArray,x1,y1,ρ1 d1⟩)):=Lt.chg (g:=ρ1 l) ⟨rfl,rfl,rfl,by simp,fun j _ hj=>World.putObj_heap_other hj⟩ (oO hh1 aO) (fun s hs=>by rw[jk hh1 aO]at hs;cases hs);have q2:=kC (o':=.loop ⟨.busy,jI p1,fn1,tmps1,ps1.toArray,x1,y1,ρ1 d1⟩) (b:=.loop .busy p1 tm3 ps1 a1 b1 d1) q1.rel hb1 hh1 aO ⟨hAd1,fn1,tmps1,x1,y1,World.putObj_heap_same (ft.1 hh1).1,hTR1.mo (Mo.refl _ _) hlt1,hrest1⟩;have hd2:Dj (Ext (Ext A h h1) h1 (h1.set l (some (B.loop .busy p1 tm3 ps1 a1 b1 d1)))) (h1.set l (some (B.loop .busy p1 tm3 ps1 a1 b1 d1))) h3:=hds.right g2.good.next
 have f2:=f1.mo (q2.mo (hds.left (aE g3.good.next g4.good.next))) q2.lt;have hw2:=hC _ _ _ _ _ _ _ _ _ hr2 g2.wf tmps.size y _ ρ1 _ _ c2 hsz q2.rel (hd2.left g4.good.next) f2 (fun l' hl=>by cases hl;exact .inl (.inl hA));have hfc:fc (some l) ρ1=Fence.wide.inRound (ρ l):=by simp only[fc,hρ1]
 rw[hfc]at hw2;refine wpIn_mono hw2 fun e' a' w2 q=>?_;obtain⟨q3,ρ3,p3,f3⟩:=q;have hl1:l<h1.next:=(q1.rel.live (aG hb1)).1
 have hρ3:ρ3 l=ρ l:=by rw[p3.rho l (.inl hl1),hρ1]
 have q12:=q1.trans g1.good (q2.trans g2.good p3 g3.good) (g2.good.trans g3.good);have g123:=g1.trans (g2.trans g3);have hd3:Dj (Ext A h h2) h2 h3:=hd.right g123.good.next
 unfold sI at hend;split at hend
 ·next p5 tm5 ps5 a5 b5 d5 hb5=>
  obtain⟨_,_,_,hAd5,fn5,tmps5,x5,y5,hh5,hTR5,hrest5⟩:=q12.rel.blk l _ hb5;have fin:∀(jump:Option Code) (st:LS) (ex:Ex),jI ex=jump->pK st=(if jump.isNone then .ready else .done)->h3=h2.set l (some (.loop st ex tm5 ps5 a5 b5 d5))->c= .sc (.bool jump.isNone)->∃v w',(Instr.endRound (ρ l) jump).run P w2= .ok v w'/\eC P A ρ w h c h3 (.returned v) w':=by
   rintro jump st ex hj hs rfl rfl;have hrun:=run_endRound (P:=P) jump hh5;rw[hρ3]at hrun;refine⟨_,_,hrun,.bool jump.isNone,ρ3,rfl,?_,dR rfl⟩;have hlt5:Lt w2 (w2.putObj (ρ3 l) (.loop ⟨pK st,jI ex,fn5,tmps5,ps5.toArray,x5,y5,ρ3 d5⟩)):=Lt.chg (g:=ρ3 l) ⟨rfl,rfl,rfl,by simp,fun j _ hj=>World.putObj_heap_other hj⟩ (oO hh5 aO) (fun s hs=>by rw[jk hh5 aO]at hs;cases hs);have q5:=kC (o':=.loop ⟨pK st,jI ex,fn5,tmps5,ps5.toArray,x5,y5,ρ3 d5⟩) (b:=.loop st ex tm5 ps5 a5 b5 d5) q12.rel hb5 hh5 aO ⟨hAd5,fn5,tmps5,x5,y5,World.putObj_heap_same (ft.1 hh5).1,hTR5.mo (Mo.refl _ _) hlt5,hrest5⟩;have:=q12.trans g123.good q5 g4.good;rw[hρ3,hj,hs]at this;exact this
  cases e with
  |norm=>
   simp only[ah,av]at hend;rw[kO q3];exact fin none .ready .norm rfl rfl hend.2.symm hend.1.symm
  |ret=>
   simp only[ah,av]at hend;cases e'<;>simp[exM]at q3;exact fin (some .ret) .done .ret rfl rfl hend.2.symm hend.1.symm
  |exit i=>
   simp only[ah,av]at hend;cases e'<;>simp[exM]at q3;subst q3;exact fin (some (.exit i)) .done (.exit i) rfl rfl hend.2.symm hend.1.symm
 ·cases hend
theorem BI{N:Nat}(hO:pn P E)(hfn:E.fns=jA P)(hC:iV P (run E N)):gA P (run E (N+1)):=by
 intro f args h c h' ee fh A ρ w fv vs t hd hv hvs;have hG:=(jU E N).2;simp only[run,body]at ee;split at ee
 ·next g caps=>
  split at ee
  ·next o ho=>
   obtain⟨r,e1,e2⟩:=aj ee;simp only[Out.val.injEq]at e2;obtain⟨rfl,rfl⟩:=e2;exact BO hO ho e1 t hv hvs
  ·split at ee
   ·next fn hfn'=>
    split at ee
    ·cases ee
    ·next hl=>
     split at ee
     ·next e tm1 ds1 h1 hr=>
      have key:(∀i,e≠ .exit i)/\∃h2 rs,dH ds1 h1=some h2/\results tm1 h2 fn.res=some rs/\c=jD rs/\h'=h2:=by
       split at ee
       ·cases ee
       ·next hne=>
        obtain⟨h2,e1,ee⟩:=aq ee;obtain⟨rs,e2,e3⟩:=aj ee;simp only[Out.val.injEq]at e3;exact⟨fun i hi=>hne i hi,h2,rs,e1,e2,e3.1.symm,e3.2.symm⟩
      obtain⟨hne,h2,rs,e1,e2,rfl,rfl⟩:=key;rw[hfn]at hfn';exact fn_ok hC hG hfn' (bG hl) hr hne e1 e2 fh t hd hv hvs
     ·cases ee
   ·cases ee
 ·next l=>
  split at ee
  ·next p0 tm0 ps ca cb d0 hb0=>
   split at ee
   ·next tm1 hps=>
    split at ee
    ·next tm2 h1 hr1=>
     split at ee
     ·next p1 tm3 ps1 a1 b1 d1 hb1=>
      split at ee
      ·next e tm4 h2 hr2=>
       obtain⟨⟨c',h3⟩,e1,e2⟩:=aj ee;simp only[Out.val.injEq]at e2;obtain⟨rfl,rfl⟩:=e2;exact yl_ok hC hG hb0 hps hr1 hb1 hr2 e1 fh t hd hv hvs
      ·cases ee
     ·cases ee
    ·cases ee
   ·cases ee
  ·cases ee
 ·cases ee
theorem BG(hO:pn P E)(hfn:E.fns=jA P)(hD:∀rec,gA P rec->cF rec->tg P rec):∀N,gA P (run E N)/\iV P (run E N):=fun N=>by
 induction N using Nat.strongRecOn with
 |_ N ih=>
  cases N with
  |zero=>exact⟨fun _ _ _ _ _ e=>by simp[run]at e,fun _ _ _ _ _ _ _ _ _ e=>by simp[run]at e⟩
  |succ N=>
   have hR:∀m,m<=N->gA P (run E m):=fun m hm=>(ih m (Nat.lt_succ_of_le hm)).1;have hC:∀m,m<=N->iV P (run E m):=fun m hm=>(ih m (Nat.lt_succ_of_le hm)).2;exact⟨BI hO hfn (hC N (ai _)),Bf hR hC (fun m hm=>hD _ (hR m hm) (jU E m).1) (yA (hR N (ai _)))⟩
end CI
end
section
open Go.RowKit
namespace CI
variable {P : Program} {h h' : H} {tm tm' : Tm} {rec : Rec} {n : Nat}
structure SD where
 tm:Tm
 h:H
 iv:List (Nat×Nat×Nat)
 rw:List (Nat×Bool×Ft)
 v:C
 wr:Bool
 rd:Bool
 fr:Ft
def iw(rec:Rec)(j:Nat)(o:RO)(s:SD):Option SD:=
 match dC o s.tm with
 |some false=>some ⟨eI s.tm o.dst .any,s.h,s.iv,s.rw,.any,false,false,none⟩
 |some true=>match o.x.isT with
  |true=>(xT o.x s.tm s.h.next).bind fun p=>(s.h.fw p.2).map fun h1=>⟨eI s.tm o.dst p.1,h1,(match p.2 with|none=>s.iv|some _=>(j,s.h.next,h1.next)::s.iv),s.rw,p.1,false,false,none⟩
  |false=>(xR rec o.x s.tm (s.h.part o.pre s.iv (xFt o.x s.tm))).bind fun p=>match gS o.pre (Nat.blt p.2.low s.h.next) (xFt o.x s.tm) s.rw with
   |true=>none
   |false=>some ⟨eI s.tm o.dst p.1,s.h.whole p.2,(match Nat.blt s.h.next p.2.next with|true=>(j,s.h.next,p.2.next)::s.iv|false=>s.iv),(j,Nat.blt p.2.low s.h.next,xFt o.x s.tm)::s.rw,p.1,Nat.blt p.2.low s.h.next,true,xFt o.x s.tm⟩
 |none=>none
theorem wZ{o:RO}{l:List RO}{j:Nat}{s:SD}(e:dK rec (o::l) j s.iv s.rw s.tm s.h=some (tm',h')):∃s1,iw rec j o s=some s1/\dK rec l (j+1) s1.iv s1.rw s1.tm s1.h=some (tm',h'):=by
 rcases qp e with⟨h1,e⟩|⟨h1,h2,c,ob,h3,e1,e2,e⟩|⟨h1,h2,c,h3,e1,e2,e⟩
 ·exact⟨⟨_,_,_,_,.any,false,false,none⟩,by simp only[iw,h1];rfl,e⟩
 ·exact⟨⟨_,_,_,_,c,false,false,none⟩,by simp only[iw,h1,h2,e1,dW,e2,bX];rfl,e⟩
 ·exact⟨⟨_,_,_,_,c,_,true,_⟩,by simp only[iw,h1,h2,e1,dW,e2];rfl,e⟩
def dF(rec:Rec):List RO->Nat->SD->Option SD
 |[],_,s=>some s
 |o::l,j,s=>(iw rec j o s).bind (dF rec l (j+1))
theorem qo:∀(l:List RO) (j:Nat) (s:SD),dK rec l j s.iv s.rw s.tm s.h=some (tm',h')->∃s1,dF rec l j s=some s1/\s1.tm=tm'/\s1.h=h'
 |[],j,s,e=>by
  simp only[dK,ah,av]at e;exact⟨s,rfl,e.1,e.2⟩
 |o::l,j,s,e=>by
  obtain⟨s1,e1,e2⟩:=wZ e;obtain⟨s2,e3,e4⟩:=qo l (j+1) s1 e2;exact⟨s2,by simp only[dF,e1,dW,e3],e4⟩
theorem nN:∀(l1 l2:List RO) (j:Nat) (s s2:SD),dF rec (l1++l2) j s=some s2->∃s1,dF rec l1 j s=some s1/\dF rec l2 (j+l1.length) s1=some s2
 |[],l2,j,s,s2,e=>⟨s,rfl,by simpa using e⟩
 |o::l1,l2,j,s,s2,e=>by
  simp only[qO,dF]at e;obtain⟨s1,e1,e2⟩:=aq e;obtain⟨s3,e3,e4⟩:=nN l1 l2 (j+1) s1 s2 e2;exact⟨s3,by simp only[dF,e1,dW,e3],by rw[eu,show j+(l1.length+1)=j+1+l1.length by omega];exact e4⟩
structure Trace(rec:Rec)(r:List RO)(tm:Tm)(h:H)(tm':Tm)(h':H)(S:Nat->SD):Prop where
 tm0:(S 0).tm=tm
 h0:(S 0).h=h
 tmN:(S r.length).tm=tm'
 hN:(S r.length).h=h'
 iv0:(S 0).iv=[]
 step:∀i o,r[i]?=some o->iw rec i o (S i)=some (S (i+1))
theorem ye{r:List RO}(e:dK rec r 0 [] [] tm h=some (tm',h')):∃S,Trace rec r tm h tm' h' S:=by
 obtain⟨sN,e1,e2,e3⟩:=qo r 0 ⟨tm,h,[],[],.any,false,false,none⟩ e;have pre:∀i,∃s,dF rec (r.take i) 0 ⟨tm,h,[],[],.any,false,false,none⟩=some s:=fun i=>by
  have e1':=e1;rw[<-oc i r]at e1';obtain⟨s,e4,_⟩:=nN _ _ _ _ _ e1';exact⟨s,e4⟩
 have hS:∀i,dF rec (r.take i) 0 ⟨tm,h,[],[],.any,false,false,none⟩=some ((dF rec (r.take i) 0 ⟨tm,h,[],[],.any,false,false,none⟩).getD ⟨tm,h,[],[],.any,false,false,none⟩):=fun i=>by
  obtain⟨s,e4⟩:=pre i;rw[e4];rfl
 refine⟨fun i=>(dF rec (r.take i) 0 ⟨tm,h,[],[],.any,false,false,none⟩).getD ⟨tm,h,[],[],.any,false,false,none⟩,by simp[dF],by simp[dF],?_,?_,by simp[dF],fun i o ho=>?_⟩
 ·simp only[il,e1,Option.getD_some];exact e2
 ·simp only[il,e1,Option.getD_some];exact e3
 ·have hlt:=(cN.1 ho).1;have h1:=hS (i+1);have hti:r.take (i+1)=r.take i++[o]:=by
   rw[qN,ho];rfl
  have h2:=h1;rw[hti]at h2;obtain⟨s1,e4,e5⟩:=nN _ _ _ _ _ h2;simp only[dF,bf,bU]at e5;obtain⟨s2,e6,e7⟩:=aq e5;simp only[ah]at e7;rw[dn aa]at e6;show iw rec i o ((dF rec (r.take i) 0 ⟨tm,h,[],[],.any,false,false,none⟩).getD ⟨tm,h,[],[],.any,false,false,none⟩)=_;rw[e4,hti];show iw rec i o s1=_;rw[e6,e7]
section
variable {r : List RO} {S : Nat->SD}
theorem Trace.cases(t:Trace rec r tm h tm' h' S){i:Nat}{o:RO}(ho:r[i]?=some o):
  (S (i+1)).tm=eI (S i).tm o.dst (S (i+1)).v/\
  ((dC o (S i).tm=some false/\(S (i+1)).v= .any/\(S (i+1)).h=(S i).h/\(S (i+1)).wr=false/\(S (i+1)).rd=false/\(S (i+1)).iv=(S i).iv/\(S (i+1)).rw=(S i).rw)\/
   (dC o (S i).tm=some true/\o.x.isT=true/\(S (i+1)).wr=false/\(S (i+1)).rd=false/\(S (i+1)).rw=(S i).rw/\∃ob,xT o.x (S i).tm (S i).h.next=some ((S (i+1)).v,ob)/\(S i).h.fw ob=some (S (i+1)).h/\(S (i+1)).iv=(match ob with|none=>(S i).iv|some _=>(i,(S i).h.next,(S (i+1)).h.next)::(S i).iv))\/
   (dC o (S i).tm = some true /\ o.x.isT = false /\ (S (i + 1)).rd = true /\ ∃ h1, xR rec o.x (S i).tm ((S i).h.part o.pre (S i).iv (S (i + 1)).fr) = some ((S (i + 1)).v, h1) /\ (S (i + 1)).h = (S i).h.whole h1 /\ (S (i + 1)).wr = Nat.blt h1.low (S i).h.next /\ gS o.pre (S (i + 1)).wr (S (i + 1)).fr (S i).rw = false /\
      (S (i+1)).iv=(match Nat.blt (S i).h.next h1.next with|true=>(i,(S i).h.next,h1.next)::(S i).iv|false=>(S i).iv)/\(S (i+1)).rw=(i,(S (i+1)).wr,(S (i+1)).fr)::(S i).rw)):=by
 have hs:=t.step i o ho;unfold iw at hs;split at hs
 ·next hw=>
  simp only[ah]at hs;rw[<-hs];exact⟨rfl, .inl ⟨hw,rfl,rfl,rfl,rfl,rfl,rfl⟩⟩
 ·next hw=>
  split at hs
  ·next hT=>
   obtain⟨⟨c,ob⟩,e1,hs⟩:=aq hs;obtain⟨h1,e2,hs⟩:=aj hs;rw[<-hs];exact⟨rfl, .inr (.inl ⟨hw,hT,rfl,rfl,rfl,ob,e1,e2,rfl⟩)⟩
  ·next hT=>
   obtain⟨⟨c,h1⟩,e1,hs⟩:=aq hs;split at hs
   ·cases hs
   ·next hcl=>
    simp only[ah]at hs;rw[<-hs];exact⟨rfl, .inr (.inr ⟨hw,hT,rfl,h1,e1,rfl,rfl,hcl,rfl,rfl⟩)⟩
 ·cases hs
theorem Trace.gd(t:Trace rec r tm h tm' h' S)(hg:cF rec)(f:Wf h):∀i,i<=r.length->Wf (S i).h/\Gd h (S i).h
 |0,_=>by rw[t.h0];exact⟨f,Gd.refl f⟩
 |i+1,hi=>by
  obtain⟨o,ho⟩:∃o,r[i]?=some o:=⟨_,aP aa⟩;obtain⟨f1,g1⟩:=t.gd hg f i aa;have g2:Gd (S i).h (S (i+1)).h:=by
   rcases(t.cases ho).2 with⟨_,_,e,_⟩|⟨_,_,_,_,_,ob,_,e,_⟩|⟨_,_,_,h1,e1,e2,_⟩
   ·rw[e];exact Gd.refl f1
   ·exact kb f1 e
   ·rw[e2];exact pR (iq hg (fM f1) e1)
  exact⟨g2.wf,g1.trans g2⟩
theorem Trace.gd1(t:Trace rec r tm h tm' h' S)(hg:cF rec)(f:Wf h){i:Nat}(hi:i<r.length):Gd (S i).h (S (i+1)).h:=by
 obtain⟨o,ho⟩:∃o,r[i]?=some o:=⟨_,aP hi⟩;have f1:=(t.gd hg f i aa).1;rcases(t.cases ho).2 with⟨_,_,e,_⟩|⟨_,_,_,_,_,ob,_,e,_⟩|⟨_,_,_,h1,e1,e2,_⟩
 ·rw[e];exact Gd.refl f1
 ·exact kb f1 e
 ·rw[e2];exact pR (iq hg (fM f1) e1)
theorem Trace.gdm(t:Trace rec r tm h tm' h' S)(hg:cF rec)(f:Wf h):∀(k i:Nat),i+k<=r.length->Gd (S i).h (S (i+k)).h
 |0,i,hi=>Gd.refl (t.gd hg f i aa).1
 |k+1,i,hi=>(t.gdm hg f k i aa).trans (t.gd1 hg f aa)
theorem Trace.iv(t:Trace rec r tm h tm' h' S):∀i,i<=r.length->(∀x∈(S i).iv,∃q,q<i/\x=(q,(S q).h.next,(S (q+1)).h.next))/\(∀q,q<i->(S q).h.next<(S (q+1)).h.next->(q,(S q).h.next,(S (q+1)).h.next)∈(S i).iv)
 |0,_=>by
  rw[t.iv0];exact⟨fun x hx=>by simp at hx,fun q hq=>by omega⟩
 |i+1,hi=>by
  obtain⟨o,ho⟩:∃o,r[i]?=some o:=⟨_,aP aa⟩;obtain⟨k1,k2⟩:=t.iv i aa;have key:((S (i+1)).iv=(S i).iv/\¬(S i).h.next<(S (i+1)).h.next)\/(S (i+1)).iv=(i,(S i).h.next,(S (i+1)).h.next)::(S i).iv:=by
   rcases(t.cases ho).2 with⟨_,_,e,_,_,e2,_⟩|⟨_,_,_,_,_,ob,_,e,e2⟩|⟨_,_,_,h1,e1,e2,_,_,e3,_⟩
   ·exact .inl ⟨e2,by rw[e];omega⟩
   ·cases ob with
    |none=>
     simp only[H.fw,ah]at e;exact .inl ⟨e2,by rw[<-e];omega⟩
    |some b=>exact .inr e2
   ·have hn:(S (i+1)).h.next=h1.next:=by rw[e2];rfl
    rw[hn];split at e3
    ·exact .inr e3
    ·next hb=>
     refine .inl ⟨e3,fun hlt=>?_⟩;rw[<-aJ]at hlt;rw[hlt]at hb;cases hb
  rcases key with⟨e,hlt⟩|e
  ·rw[e];exact⟨fun x hx=>by obtain⟨q,h1,h2⟩:=k1 x hx;exact⟨q,by omega,h2⟩,fun q hq hl=>k2 q (by
    rcases jM.1 hq with h|h
    ·exact h
    ·subst h;exact absurd hl hlt) hl⟩
  ·rw[e];refine⟨fun x hx=>?_,fun q hq hl=>?_⟩
   ·rcases bj.1 hx with h|h
    ·exact⟨i,by omega,h⟩
    ·obtain⟨q,h1,h2⟩:=k1 x h;exact⟨q,by omega,h2⟩
   ·rcases jM.1 hq with h|h
    ·exact bh _ (k2 q h hl)
    ·subst h;exact ba
theorem Trace.rw'(t:Trace rec r tm h tm' h' S):∀i,i<=r.length->∀q,q<i->(S (q+1)).rd=true->(q,(S (q+1)).wr,(S (q+1)).fr)∈(S i).rw
 |0,_,q,hq,_=>by omega
 |i+1,hi,q,hq,hr=>by
  obtain⟨o,ho⟩:∃o,r[i]?=some o:=⟨_,aP aa⟩;have ih:=t.rw' i aa;rcases jM.1 hq with h|h
  ·have h1:=ih q h hr;rcases(t.cases ho).2 with⟨_,_,_,_,_,_,e⟩|⟨_,_,_,_,e,_⟩|⟨_,_,_,h1',_,_,_,_,_,e⟩
   ·rw[e];exact h1
   ·rw[e];exact h1
   ·rw[e];exact bh _ h1
  ·subst h;rcases(t.cases ho).2 with⟨_,_,_,_,e,_⟩|⟨_,_,_,e,_⟩|⟨_,_,_,h1',_,_,_,_,_,e⟩
   ·rw[e]at hr;cases hr
   ·rw[e]at hr;cases hr
   ·rw[e];exact ba
theorem lV{pre k:Nat}:∀{iv:List (Nat×Nat×Nat)} {f:List (Nat×Nat)} {q x y:Nat},(q,x,y)∈iv->pre.testBit q=false->x<=k->k<y->aR k (eA pre iv f)=true
 |(i,a,b)::l,f,q,x,y,hm,hp,h1,h2=>by
  simp only[eA];have hb1:Nat.ble x k=true:=iE h1;have hb2:Nat.blt k y=true:=by simpa[aJ]using h2
  rcases bj.1 hm with e|e
  ·simp only[av]at e;rw[<-e.1,<-e.2.1,<-e.2.2,hp];simp only[aR];rw[hb1,hb2]
  ·have:=lV (f:=f) e hp h1 h2;split
   ·exact this
   ·simp only[aR];split
    ·split
     ·rfl
     ·exact this
    ·exact this
theorem qz{pre k:Nat}:∀{iv:List (Nat×Nat×Nat)} {f:List (Nat×Nat)},(∀x∈iv,¬(x.2.1<=k/\k<x.2.2))->aR k (eA pre iv f)=aR k f
 |[],f,_=>rfl
 |(i,a,b)::l,f,h=>by
  have ih:=qz (pre:=pre) (f:=f) fun x hx=>h x (bh _ hx);have h0:=h _ ba;simp only[eA];split
  ·exact ih
  ·simp only[aR];split
   ·next h1=>
    split
    ·next h2=>exact absurd ⟨bG h1,by simpa[aJ]using h2⟩ h0
    ·exact ih
   ·exact ih
theorem Cf{k:Nat}:∀{l:List Nat},eV k l=true->k∈l
 |[],h=>by cases h
 |x::l,h=>by
  simp only[eV]at h;split at h
  ·next e=>rw[dX e];exact ba
  ·exact bh _ (Cf h)
theorem so{k:Nat}{l:List Nat}(h1:eV k l=true):∀{m:List Nat},eV k m=true->meets l m=true
 |[],h=>by cases h
 |x::m,h=>by
  simp only[eV]at h;simp only[meets];split at h
  ·next e=>
   rw[dX e,h1]
  ·split
   ·rfl
   ·exact so h1 h
theorem Ft.AH{f g:Ft}{k:Nat}(h1:f.has k=true)(h2:g.has k=true):f.meet g=true:=by
 cases f with
 |none=>rfl
 |some l=>cases g with
  |none=>rfl
  |some m=>exact so h1 h2
theorem ni{pre:Nat}{wr:Bool}{g:Ft}{k:Nat}:∀{rw:List (Nat×Bool×Ft)} {q:Nat} {x:Bool} {f:Ft},gS pre wr g rw=false->(q,x,f)∈rw->(x||wr)=true->f.has k=true->g.has k=true->pre.testBit q=true
 |(i,y,e)::l,q,x,f,h,hm,hx,h1,h2=>by
  simp only[gS]at h;split at h
  ·cases h
  ·next hb=>
   rcases bj.1 hm with e|e
   ·cases e;rw[hx,Ft.AH h1 h2]at hb;simpa using hb
   ·exact ni h e hx h1 h2
end
end CI
end
section
open Go.RowKit
namespace CI
variable {P : Program} {n : Nat}
theorem sD:∀(l:List Nat) (k:Nat),kM l k=(l[k]?).getD 0
 |[],k=>by simp[kM]
 |x::l,0=>by simp[kM]
 |x::l,k+1=>by simp[kM,sD l k]
theorem kB{acc:List Nat}{q:Nat}:∀{es:List Edge},(gg acc es).testBit q=true->∃e∈es,Region.binds .any e=true/\(e.on=q\/(kM acc e.on).testBit q=true)
 |[],h=>by simp[gg]at h
 |e::es,h=>by
  simp only[gg]at h;split at h
  ·next hb=>
   simp only[Nat.testBit_or,Bool.or_eq_true,Nat.testBit_two_pow,decide_eq_true_eq]at h;rcases h with(h|h)|h
   ·exact⟨e,ba,hb,.inl h⟩
   ·exact⟨e,ba,hb,.inr h⟩
   ·obtain⟨e',h1,h2⟩:=kB h;exact⟨e',bh _ h1,h2⟩
  ·obtain⟨e',h1,h2⟩:=kB h;exact⟨e',bh _ h1,h2⟩
theorem se:∀(l:List Oper) (acc:List Nat),∃t,ic l acc=acc++t/\t.length=l.length
 |[],acc=>⟨[],by simp[ic],rfl⟩
 |o::l,acc=>by
  obtain⟨t,e,h⟩:=se l (acc++[gg acc o.after.toList]);exact⟨gg acc o.after.toList::t,by simp only[ic];rw[e];simp,by simp[h]⟩
theorem tT:∀(l:List Oper) (acc:List Nat) (i:Nat) (o:Oper),l[i]?=some o->(ic l acc)[acc.length+i]?=some (gg ((ic l acc).take (acc.length+i)) o.after.toList)
 |[],acc,i,o,h=>by simp at h
 |o'::l,acc,0,o,h=>by
  simp at h;subst h;simp only[ic];obtain⟨t,e,_⟩:=se l (acc++[gg acc o'.after.toList]);rw[e];simp
 |o'::l,acc,i+1,o,h=>by
  simp only[ic];have:=tT l (acc++[gg acc o'.after.toList]) i o (by simpa using h);rw[bK,eQ,show acc.length+1+i=acc.length+(i+1) by omega]at this;exact this
theorem mP{t:Nat}:∀{l:List Nat},t∈l->eV t l=true
 |x::l,h=>by
  simp only[eV];split
  ·rfl
  ·next hb=>
   rcases bj.1 h with e|e
   ·subst e;rw[de]at hb;cases hb
   ·exact mP e
theorem oD{ops:Array Oper}{o:Oper}{p:Nat}:∀{l:List Oper} {k:Nat},kt ops o p l k=true->∀i o',l[i]?=some o'->(qc o'.dst (looks ops o)=true\/qc o.dst (looks ops o')=true\/qc o.dst o'.dst.toList=true)->p.testBit (k+i)=true
 |[],k,_,i,o',h,_=>by simp at h
 |x::l,k,h,0,o',ho,hh=>by
  simp at ho;subst ho;simp only[kt]at h;split at h
  ·cases h
  ·next hb=>
   rw[bS]
   cases hp:p.testBit k with
   |true=>rfl
   |false=>
    exfalso;rw[hp]at hb;rcases hh with hh|hh|hh<;>simp[hh]at hb
 |x::l,k,h,i+1,o',ho,hh=>by
  simp only[kt]at h;split at h
  ·cases h
  ·have:=oD h i o' (by simpa using ho) hh;rwa[show k+1+i=k+(i+1) by omega]at this
theorem lW{k:Nat}:∀{l:List Edge},iC k l=true->∀e∈l,Region.binds .any e=true->e.on<k
 |x::l,h,e,he,hb=>by
  simp only[iC]at h;split at h
  ·cases h
  ·next hx=>
   rcases bj.1 he with e1|e1
   ·subst e1;rw[hb]at hx;simp only[ou,Bool.not_eq_false']at hx;simpa[aJ]using hx
   ·exact lW h e e1 hb
theorem ue{ops:Array Oper}:∀(l acc:List Oper) (ps:List Nat) (r:List RO),dz P n true ops acc l ps=some r->r.length=l.length/\∀i o,l[i]?=some o->∃p g,ps[i]?=some p/\cA n o.dst=true/\kt ops o p (acc++l.take i) 0=true/\iC (acc.length+i) o.after.toList=true/\(match o.guard with
  |none=>some none
  |some (j,b)=>((ops[j]?).bind (·.dst)).map fun t=>some (t,b))=some g/\r[i]?=some ⟨o.dst,g,(match ay P o.op with|some x=>x|none=>.bad),p⟩
 |[],acc,ps,r,h=>by
  simp only[dz,ah]at h;subst h;exact⟨rfl,fun i o ho=>by simp at ho⟩
 |o::l,acc,ps,r,h=>by
  obtain⟨p,ps',g,r',rfl,h1,h2,h3,h4,rfl⟩:=lX h;obtain⟨k1,k2⟩:=ue l (acc++[o]) ps' r' h4;refine⟨by simp[k1],fun i o' ho=>?_⟩
  cases i with
  |zero=>
   simp at ho;subst ho;exact⟨p,g,rfl,h1,by simpa using(h2 rfl).1,by simpa using(h2 rfl).2,h3,rfl⟩
  |succ i=>
   obtain⟨p',g',q1,q2,q3,q4,q5,q6⟩:=k2 i o' (by simpa using ho);refine⟨p',g',by simpa using q1,q2,by simpa using q3,?_,q5,by simpa using q6⟩;rw[bK,eQ]at q4;rwa[show acc.length+1+i=acc.length+(i+1) by omega]at q4
structure Stat(P:Program)(n:Nat)(ops:Array Oper)(r:List RO):Prop where
 len:r.length=ops.size
 row : ∀ (i : Nat) (o : Oper), ops[i]? = some o -> ∃ g p, r[i]? = some ⟨o.dst, g, (match ay P o.op with | some x => x | none => .bad), p⟩ /\ cA n o.dst = true /\ (match o.guard with
       |none=>some none
       |some (j,b)=>((ops[j]?).bind (·.dst)).map fun t=>some (t,b))=some g
 pre:∀(i:Nat) (o:Oper) (ro:RO) (q:Nat),ops[i]?=some o->r[i]?=some ro->ro.pre.testBit q=true->∃e∈o.after.toList,Region.binds .any e=true/\(e.on=q\/∃ro',r[e.on]?=some ro'/\ro'.pre.testBit q=true)
 edge:∀(i:Nat) (o:Oper) (e:Edge),ops[i]?=some o->e∈o.after.toList->Region.binds .any e=true->e.on<i
 tmp:∀(i j:Nat) (o' o:Oper) (ro:RO) (t:Nat),i<j->ops[i]?=some o'->ops[j]?=some o->r[j]?=some ro->((o'.dst=some t/\t∈looks ops o)\/(o.dst=some t/\t∈looks ops o')\/(o.dst=some t/\o'.dst=some t))->ro.pre.testBit i=true
theorem Ag{ops:Array Oper}{r:List RO}(h:dz P n true ops [] ops.toList (ic ops.toList [])=some r):Stat P n ops r:=by
 obtain⟨k1,k2⟩:=ue _ _ _ _ h;have hl:∀{i:Nat} {o:Oper},ops[i]?=some o->ops.toList[i]?=some o:=fun ho=>by simpa using ho
 have hpre:∀(i:Nat) (o:Oper) (ro:RO),ops[i]?=some o->r[i]?=some ro->(ic ops.toList [])[i]?=some ro.pre:=fun i o ro ho hr=>by
  obtain⟨p,g,q1,_,_,_,_,q6⟩:=k2 i o (hl ho);rw[hr]at q6;simp only[ah]at q6;subst q6;exact q1
 refine⟨by rw[k1];simp,fun i o ho=>?_,fun i o ro q ho hr hq=>?_,fun i o e ho he hb=>?_,fun i j o' o ro t hij ho' ho hr ht=>?_⟩
 ·obtain⟨p,g,q1,q2,q3,q4,q5,q6⟩:=k2 i o (hl ho);exact⟨g,p,q6,q2,q5⟩
 ·have h1:=hpre i o ro ho hr;have h2:=tT ops.toList [] i o (hl ho);simp only[gU,bU]at h2;rw[h1]at h2;simp only[ah]at h2;rw[h2]at hq;obtain⟨e,he,hb,hh⟩:=kB hq;refine⟨e,he,hb,hh.imp id fun hx=>?_⟩;rw[sD,gP]at hx;split at hx
  ·next hlt=>
   have hsz:i<ops.size:=(ft.1 ho).1;obtain⟨o2,ho2⟩:∃o2,ops[e.on]?=some o2:=⟨_,lj aa⟩;obtain⟨p,g,q1,q2,q3,q4,q5,q6⟩:=k2 e.on o2 (hl ho2);rw[q1]at hx;exact⟨_,q6,by simpa using hx⟩
  ·simp at hx
 ·obtain⟨p,g,q1,q2,q3,q4,q5,q6⟩:=k2 i o (hl ho);have:=lW q4 e he hb;simpa using this
 ·obtain⟨p,g,q1,q2,q3,q4,q5,q6⟩:=k2 j o (hl ho);rw[hr]at q6;simp only[ah]at q6;subst q6;have:=oD q3 i o' (by rw[kg,kj hij];exact hl ho') (by
   rcases ht with⟨h1,h2⟩|⟨h1,h2⟩|⟨h1,h2⟩
   ·exact .inl (by rw[h1];exact mP h2)
   ·exact .inr (.inl (by rw[h1];exact mP h2))
   ·exact .inr (.inr (by rw[h1,h2];exact mP aO)))
  simpa using this
end CI
end
section
open Go.RowKit
namespace DW
inductive Mn where
 |val (d:D)
 |alloc (k:Nat) (q:Ow) (d:D)
 |store (k i:Nat) (d:D)
 |app (k:Nat) (nw:List (Nat×Ow)) (d:D)
structure FP where
 rc:List Nat
 rs:List Nat
 wc:List Nat
 al:List Nat
 me:List Nat
structure Eqv(s s':S):Prop where
 gt:∀t,s.gt t=s'.gt t
 ow:s.ow.Perm s'.ow
theorem Eqv.symm{s s':S}(h:Eqv s s'):Eqv s' s:=⟨fun t=>(h.gt t).symm,h.ow.symm⟩
def ent(k:Nat)(l:List (Nat×Ow)):List (Nat×Ow):=l.filter fun p=>Nat.beq p.1 k
def shp(k:Nat)(l:List (Nat×Ow)):List (TypeId×Nat×Nat):=(ent k l).map fun p=>(p.2.T,p.2.wd,p.2.l.length)
end DW
end
section
open Go.RowKit
namespace DW
structure Agr2(ops:Array Oper)(o:Oper)(f:FP)(sj σ:S):Prop where
 sl:∀t,t∈CI.looks ops o->σ.gt t=sj.gt t
 rc:∀k,k∈f.rc->ent k σ.ow=ent k sj.ow
 rs:∀k,k∈f.rs\/k∈f.wc->shp k σ.ow=shp k sj.ow
 al:∀k,k∈f.al->ent k σ.ow=ent k sj.ow/\∀t,(σ.gt t).is k=false
section
variable {P : Program} {X0 : Nat->Prop} {n : Nat} {ops : Array Oper} {Q : Exit->S->Prop} {s : S}
end
end DW
end
section
open Go.RowKit
namespace DW
section
variable {P : Program} {X0 : Nat->Prop} {n : Nat} {sl : List (Nat × D)} {ow : List (Nat × Ow)} {o : Oper} {ops : Array Oper} {l : List Oper} {K : S->Prop} {t : Nat} {d : D} {fs : List FP}
theorem yN{x:Operand}(hx:x∈o.op.operands){u:Nat}(e:x= .tmp u):u∈CI.looks ops o:=by
 subst e;unfold CI.looks;exact List.mem_append_right _ (List.mem_filterMap.2 ⟨.tmp u,by simpa using hx,rfl⟩)
section
variable {f : FP} {sj σ : S}
theorem Agr2.op(ag:Agr2 ops o f sj σ){x:Operand}(hx:x∈o.op.operands):σ.op x=sj.op x:=by
 cases x with
 |tmp u=>exact ag.sl u (yN hx rfl)
 |const v=>rfl
 |global g=>rfl
 |func g=>rfl
end
section
variable {ks : List Nat} {acc : List FP}
end
end
end DW
end
section
open Go.RowKit
namespace DW
theorem IZ.gr{Y:Nat->Prop}{w w':World}{x:IV}{z:Int}(h:IZ w x z)(k:Gr Y w w')(hb:∀b,Y b->NW w b):IZ w' x z:=by
 obtain⟨l,h1,h2,h3⟩:=h;refine⟨l,⟨h1.n,h1.cap,?_,h1.nf⟩,h2,h3⟩;rcases h1.ws with h|⟨b,e,hg,hc⟩
 ·exact .inl h
 ·by_cases hl:l=[]
  ·exact .inl hl
  have hne:¬Y b:=fun e2=>hb b e2 _ (hc 0 _ (aP (eM.2 hl)));exact .inr ⟨b,e,aH hg k.size,fun i x hk=>(World.cell?_of_block (a:=⟨b,i,none⟩) (k.block b hg hne)).trans (hc i x hk)⟩
theorem Gr.agr{X Y:Nat->Prop}{w w':World}(k:Gr Y w w')(hb:∀b,Y b->NW w b)(hX:∀b,Y b->X b):Agr X w w':=
 ⟨k.size,fun b h1 h2=>k.block b h1 fun h=>h2 (hX b h),fun _ _ h=>IZ.gr h k hb⟩
theorem Gr.trans{Y Z:Nat->Prop}{w w' w2:World}(h:Gr Y w w')(k:Gr Z w' w2)(hz:∀b,Z b->w.heap.size<=b\/Y b):Gr Y w w2:=
 ⟨k.os.trans h.os,k.tape.trans h.tape,k.output.trans h.output,aE h.size k.size,fun b hb hy=>(k.block b (aH hb h.size) fun e=>by
  rcases hz b e with h1|h1
  ·omega
  ·exact hy h1).trans (h.block b hb hy)⟩
def blk(f:Nat->Value)(os:List (Nat×Ow))(b:Nat):Prop:=∃p∈os,(f p.1).ownBlock=some b
def XB(X:Nat->Prop)(f:Nat->Value)(os:List (Nat×Ow))(b:Nat):Prop:=X b\/blk f os b
structure OS(X:Nat->Prop)(f:Nat->Value)(w:World)(os:List (Nat×Ow)):Prop where
 ow:∀p∈os,OW (XB X f os) f w 0 p
 nw:∀b,blk f os b->NW w b
 dj:∀p∈os,∀q∈os,p.1≠q.1->∀b,(f p.1).ownBlock=some b->(f q.1).ownBlock≠some b
 un:∀p∈os,∀q∈os,p.1=q.1->p=q
 xd:∀b,X b->¬blk f os b
def SRs(X:Nat->Prop)(f:Nat->Value)(w:World):List D->List Value->Prop
 |[],vs=>vs=[]
 |d::l,vs=>∃u rest,vs=u::rest/\SR X f w d u/\SRs X f w l rest
theorem SRs.at{X:Nat->Prop}{f:Nat->Value}{w:World}:∀{l:List D} {i:Nat} {d:D} {vs:List Value},SRs X f w l vs->l[i]?=some d->∃u,vs[i]?=some u/\SR X f w d u
 |[],_,_,_,_,h=>by simp at h
 |_::_,0,_,_,⟨u,rest,h1,h2,_⟩,e=>by simp at e;subst e;exact⟨u,by rw[h1];rfl,h2⟩
 |_::_,i+1,_,_,⟨u,rest,h1,_,h3⟩,e=>by
  obtain⟨u',k1,k2⟩:=SRs.at h3 (by simpa using e);exact⟨u',by rw[h1];simpa using k1,k2⟩
theorem SRs.len{X:Nat->Prop}{f:Nat->Value}{w:World}:∀{l:List D} {vs:List Value},SRs X f w l vs->vs.length=l.length
 |[],_,h=>by rw[show _=[]from h];rfl
 |_::_,_,⟨_,_,h1,_,h3⟩=>by rw[h1];simp[SRs.len h3]
def qj(P:Program)(g:FuncId)(ds:List D)(os:List (Nat×Ow))(r:D)(os':List (Nat×Ow)):Prop:=
 ∀(X:Nat->Prop) (f:Nat->Value) (w:World) (vs:Array Value),XW X w->OS X f w os->SRs (XB X f os) f w ds vs.toList->
  Calls P g vs w (fun e w'=>∃u f',e= .returned u/\Gr (blk f os) w w'/\OS X f' w' os'/\(∀b,blk f' os' b->blk f os b\/w.heap.size<=b)/\(∀p∈os,f' p.1=f p.1)/\SR (XB X f' os') f' w' r u)
abbrev FnG(P:Program)(g:FuncId)(ds:List D)(os:List (Nat×Ow))(r:D)(os':List (Nat×Ow)):Prop:=Go.Proofs.Enters P g/\qj P g ds os r os'
section
variable {P : Program} {X0 : Nat->Prop} {n : Nat} {Q : Exit->S->Prop} {s : S} {sl : List (Nat × D)} {ow : List (Nat × Ow)} {o : Oper} {ops : Array Oper} {l : List Oper} {K : S->Prop} {t : Nat} {d : D}
theorem lH{w w':World}{base:Nat}{e:TypeId}{size:Nat}{v:Value}{m:Nat}{xs:List Value}(h:w.ownsRow base e size v m xs){g:Nat}(hv:v.ownBlock=some g)(hb:w'.heap[g]?=w.heap[g]?):w'.ownsRow base e size v m xs:=by
 refine⟨h.1,?_⟩;rcases h.2 with hn|⟨g',cap,cur,rfl,hb',hgg,rest⟩
 ·exact .inl hn
 ·simp only[Value.ownBlock,ah]at hv;subst hv;exact .inr ⟨g',cap,cur,rfl,hb',hb.trans hgg,rest⟩
theorem lI{w w':World}{base:Nat}{e:TypeId}{size:Nat}{v:Value}{m:Nat}{xs:List Value}(h:w.ownsRow base e size v m xs)(hv:v.ownBlock=none):w'.ownsRow base e size v m xs:=by
 refine⟨h.1,?_⟩;rcases h.2 with hn|⟨g',cap,cur,rfl,_⟩
 ·exact .inl hn
 ·cases hv
inductive tf(P:Program)(fn:Func)(s:S):D->Prop
 |res (d:D) (h:Res P fn s d) (hd:d.seen=true):tf P fn s d
 |own (t k:Nat) (h:fn.results= #[.tmp t]) (h1:s.gt t= .own k):tf P fn s (.own k)
def fing(P:Program)(X0:Nat->Prop)(n:Nat)(fn:Func)(r:D)(os':List (Nat×Ow)):Exit->S->Prop
 | .normal,s=>∃s',Sh X0 n s s'/\tf P fn s' r/\s'.ow=os'
 | .ret,s=>∃s',Sh X0 n s s'/\tf P fn s' r/\s'.ow=os'
 |_,_=>False
theorem A9{g:FuncId}{fn:Func}{c:Code}{ds:List D}{os os':List (Nat×Ow)}{r:D}(hf:P.funcs[g]?=some fn)(hb:fn.body=some c)(hn:Nat.ble ds.length fn.ntmps=true)(hpin:∀p∈os,pin p.1=true)
  (h:∀X0,aW P X0 fn.ntmps c (fing P X0 fn.ntmps fn r os') ⟨bC 0 ds,os⟩):qj P g ds os r os':=fun X f w vs hX hO hv=>by
 have hl:=hv.len;simp only[bL]at hl;have hn':ds.length<=fn.ntmps:=by simpa using hn
 have hd:Hd X fn.ntmps ⟨w,blk f os,f⟩ ⟨bC 0 ds,os⟩ f {tmps:=vs++Array.replicate (fn.ntmps-vs.size) undef,defers:=[]} w:=by
  refine⟨by simp;omega,rfl,Gr.refl _ _,hX,hO.xd,fun _ _=>rfl,fun p hp b hb=>.inr ⟨p,hp,hb⟩,fun t=>?_,hO.ow,hO.nw,hO.dj,hO.un⟩;show SR _ _ _ (look (bC 0 ds) t) _;rw[lO,aB (aZ _),Nat.sub_zero]
  cases hd:ds[t]? with
  |none=>exact SR.any
  |some d=>
   obtain⟨u,k1,k2⟩:=SRs.at hv hd;have k1':vs[t]?=some u:=by simpa using k1
   have hlt:=(ft.1 k1').1;have e:(vs++Array.replicate (fn.ntmps-vs.size) undef).getD t undef=u:=by
    rw[ct,kp hlt,k1'];rfl
   show SR _ _ _ d (Array.getD _ t undef);rw[e];exact k2
 have key:∀s' f' a w',Hd X fn.ntmps ⟨w,blk f os,f⟩ s' f' a w'->(∃s'',Sh X fn.ntmps s' s''/\tf P fn s'' r/\s''.ow=os')->a.defers=[]/\∃v,(results fn a.tmps).run P w'= .ok v w'/\(∃u f',Ending.returned v= .returned u/\Gr (blk f os) w w'/\OS X f' w' os'/\(∀b,blk f' os' b->blk f os b\/w.heap.size<=b)/\(∀p∈os,f' p.1=f p.1)/\SR (XB X f' os') f' w' r u):=fun s' f' a w' h1 ⟨s'',h2,h3,h4⟩=>by
  obtain⟨f'',h5⟩:=h2 _ f' a w' h1;subst h4;refine⟨h5.df,?_⟩;have hos:OS X f'' w' s''.ow:=⟨h5.ow,fun b hb=>h5.nw b hb,h5.dj,h5.un,fun b hb ⟨p,hp,e⟩=>by
   rcases h5.lo p hp b e with h6|h6
   ·exact absurd (hX b hb).1 (by simp only at h6;omega)
   ·exact hO.xd b hb h6⟩
  have hbk:∀b,blk f'' s''.ow b->blk f os b\/w.heap.size<=b:=fun b ⟨p,hp,e⟩=>(h5.lo p hp b e).symm;have hkp:∀p∈os,f'' p.1=f p.1:=fun p hp=>h5.fx p.1 (hpin p hp)
  cases h3 with
  |res d h6 h7=>
   obtain⟨v,k1,k2⟩:=tP h5 h6;refine⟨v,k1,v,f'',rfl,h5.bl,hos,hbk,hkp,?_⟩;have k3:AR (XB X f'' s''.ow) w' r v:=k2;cases r<;>first|exact k3|simp[D.seen]at h7
  |own t k h6 h7=>
   have h8:=h5.sl t;rw[h7]at h8;refine⟨f'' k,?_,f'' k,f'',rfl,h5.bl,hos,hbk,hkp,rfl⟩;unfold results;rw[h6];simp only[SR]at h8;rw[ct]at h8;simp[h8]
 refine calls_of_wp hf hb (Code.wp_mono (fun e a w' ⟨s',f',h1,h2⟩=>?_) (h X _ f _ w hd));cases e<;>simp only[fing]at h2<;>simp only[bodyPost]
 ·exact key s' f' a w' h1 h2
 ·exact key s' f' a w' h1 h2
theorem ER.re{X:Nat->Prop}{f f':Nat->Value}{w:World}{d:D}{u:Value}(h:ER X f w d u)(hf:∀j,hZ j=true->d= .own j->f' j=f j):ER X f' w d u:=by
 cases d<;>first|exact h|exact⟨h.1,by rw[hf _ h.1 rfl];exact h.2.1,h.2.2⟩
theorem ElH.re{X:Nat->Prop}{f f':Nat->Value}{w:World}:∀{l:List D} {xs:List Value},ElH X f w l xs->(∀j,hZ j=true->.own j∈l->f' j=f j)->ElH X f' w l xs
 |[],_,h,_=>h
 |d::_,_,⟨u,rest,h1,h2,h3,h4,h5,h6,h7⟩,hf=>⟨u,rest,h1,h2,h3,h4.re fun j hr e=>hf j hr (by rw[<-e];exact ba),h5,h6,h7.re fun j hr hj=>hf j hr (bh _ hj)⟩
theorem EE.re{X:Nat->Prop}{f f':Nat->Value}{w:World}{k wd:Nat}{l:List D}{xs:List Value}(h:EE X f w k wd l xs)(hf:hdr k=true->∀j,hZ j=true->.own j∈l->f' j=f j):EE X f' w k wd l xs:=by
 unfold EE at h⊢
 cases hh:hdr k with
 |false=>rw[hh]at h;exact h
 |true=>rw[hh]at h;exact⟨h.1,h.2.re (hf hh)⟩
def inK(os:List (Nat×Ow))(k:Nat):Bool:=os.any fun p=>Nat.beq p.1 k
theorem lT{os:List (Nat×Ow)}{k:Nat}:inK os k=true↔∃p∈os,p.1=k:=by
 unfold inK;rw[List.any_eq_true];constructor
 ·rintro⟨p,hp,h⟩;exact⟨p,hp,dX h⟩
 ·rintro⟨p,hp,h⟩;exact⟨p,hp,by rw[h,de]⟩
theorem Hd.call{w0:Bs}{f f':Nat->Value}{a:Act}{w w':World}{os os' ow1:List (Nat×Ow)}{r:D}{u:Value}(h:Hd X0 n w0 ⟨sl,ow⟩ f a w)
  (hos:∀p∈os,p∈ow) (h1:∀p∈ow1,p∈ow/\∀q∈os,q.1≠p.1)
  (hnew:∀p∈os',(∃q∈os,q.1=p.1)\/(pin p.1=false/\(∀t,(look sl t).is p.1=false)/\∀q∈ow1,q.1≠p.1/\(hdr q.1=true->hZ p.1=true-> .own p.1∉q.2.l)))
  (hm':∀p∈os',hdr p.1=true->∀j, .own j∈p.2.l->∃q∈os',q.1=j) (hr:∀k,r.is k=true->∃q∈os',q.1=k) (ht:t<n)
  (hg:Gr (blk f os) w w') (hO:OS (fun b=>XO X0 ⟨sl,ow⟩ f b/\¬blk f os b) f' w' os') (hb:∀b,blk f' os' b->blk f os b\/w.heap.size<=b) (hk:∀p∈os,f' p.1=f p.1) (hu:SR (XB (fun b=>XO X0 ⟨sl,ow⟩ f b/\¬blk f os b) f' os') f' w' r u):
  Hd X0 n w0 ⟨(t,r)::sl,os'++ow1⟩ (fun k=>if inK os' k then f' k else f k) (a.put (some t) u) w':=by
 have e1:∀p∈os',(if inK os' p.1 then f' p.1 else f p.1)=f' p.1:=fun p hp=>aB (lT.2 ⟨p,hp,rfl⟩);have e2:∀p∈ow1,(if inK os' p.1 then f' p.1 else f p.1)=f p.1:=fun p hp=>an fun hh=>by
  obtain⟨q,hq,e⟩:=lT.1 hh;rcases hnew q hq with⟨q2,h2,e'⟩|h2
  ·exact(h1 p hp).2 q2 h2 (e'.trans e)
  ·exact(h2.2.2 p hp).1 e.symm
 have e3:∀k,(∃q∈os,q.1=k)\/inK os' k=false->(if inK os' k then f' k else f k)=f k:=fun k hh=>by
  rcases hh with⟨q,hq,rfl⟩|hh
  ·split
   ·exact hk q hq
   ·rfl
  ·rw[an (by rw[hh];simp)]
 have hlt:∀p∈ow,∀b,(f p.1).ownBlock=some b->b<w.heap.size:=fun p hp b e=>((h.ow p hp).lt e).2;have hbo:∀b,blk f os b->blk f ow b:=fun b ⟨p,hp,e⟩=>⟨p,hos p hp,e⟩;have hX0:∀b,X0 b->¬blk f ow b:=fun b hb0 ⟨p,hp,e⟩=>by
  rcases h.lo p hp b e with h2|h2
  ·exact absurd (h.x0 b hb0).1 aa
  ·exact h.xy b hb0 h2
 have hd1:∀b,blk f ow1 b->¬blk f os b:=fun b ⟨p,hp,e⟩ ⟨q,hq,e'⟩=>h.dj p (h1 p hp).1 q (hos q hq) (fun e2=>(h1 p hp).2 q hq e2.symm) b e e';have hag:Agr (XO X0 ⟨sl,ow⟩ f) w w':=hg.agr (fun b hb=>h.nw b (hbo b hb)) (fun b hb=> .inr (hbo b hb));have hX1:∀b,XO X0 ⟨(t,r)::sl,os'++ow1⟩ (fun k=>if inK os' k then f' k else f k) b->X0 b\/blk f' os' b\/blk f ow1 b:=fun b hb=>by
  rcases hb with hb|⟨p,hp,e⟩
  ·exact .inl hb
  ·rcases fg.1 hp with hp|hp
   ·simp only[e1 p hp]at e;exact .inr (.inl ⟨p,hp,e⟩)
   ·simp only[e2 p hp]at e;exact .inr (.inr ⟨p,hp,e⟩)
 have hXw:∀b,b<w.heap.size->XO X0 ⟨(t,r)::sl,os'++ow1⟩ (fun k=>if inK os' k then f' k else f k) b->XO X0 ⟨sl,ow⟩ f b:=fun b hbs hx=>by
  rcases hX1 b hx with h2|h2|⟨p,hp,e⟩
  ·exact .inl h2
  ·rcases hb b h2 with h3|h3
   ·exact .inr (hbo b h3)
   ·omega
  ·exact .inr ⟨p,(h1 p hp).1,e⟩
 have hXO:∀b,XO X0 ⟨(t,r)::sl,os'++ow1⟩ (fun k=>if inK os' k then f' k else f k) b->XB (fun b=>XO X0 ⟨sl,ow⟩ f b/\¬blk f os b) f' os' b:=fun b hx=>by
  rcases hX1 b hx with h2|h2|h2
  ·exact .inl ⟨.inl h2,fun hh=>hX0 b h2 (hbo b hh)⟩
  ·exact .inr h2
  ·obtain⟨p,hp,e⟩:=h2;exact .inl ⟨.inr ⟨p,(h1 p hp).1,e⟩,hd1 b ⟨p,hp,e⟩⟩
 refine⟨by simp[Act.put,h.sz],h.df,h.bl.trans hg fun b ⟨p,hp,e⟩=>h.lo p (hos p hp) b e,h.x0,h.xy,fun j hj=>?_,fun p hp b e=>?_,fun v=>?_,fun p hp=>?_,fun b ⟨p,hp,e⟩=>?_,fun p hp q hq hne b e e'=>?_,fun p hp q hq e=>?_⟩
 ·rw[e3 j ?_]
  ·exact h.fx j hj
  ·cases hi:inK os' j with
   |false=>exact .inr rfl
   |true=>
    obtain⟨q,hq,rfl⟩:=lT.1 hi;rcases hnew q hq with h2|h2
    ·exact .inl h2
    ·rw[h2.1]at hj;cases hj
 ·rcases fg.1 hp with hp|hp
  ·simp only[e1 p hp]at e;rcases hb b ⟨p,hp,e⟩with⟨q,hq,e'⟩|h3
   ·exact h.lo q (hos q hq) b e'
   ·exact .inl (by have:=h.bl.size;omega)
  ·simp only[e2 p hp]at e;exact h.lo p (h1 p hp).1 b e
 ·rw[gK (by rw[h.sz];exact ht)];show SR _ _ _ (look ((t,r)::sl) v) _;simp only[look];split
  ·cases hrd:r with
   |own k=>
    rw[hrd]at hu;obtain⟨q,hq,rfl⟩:=hr k (by rw[hrd];simp[D.is,de]);simp only[SR,e1 q hq];exact hu
   |opt k off=>
    rw[hrd]at hu;obtain⟨q,hq,rfl⟩:=hr k (by rw[hrd];simp[D.is,de]);simp only[SR,e1 q hq];exact hu
   |_=>rw[hrd]at hu;exact AR.free hu (fun b _ hb=>hXO b hb)
  ·have h2:SR (XO X0 ⟨sl,ow⟩ f) f w (look sl v) (a.tmps.getD v undef):=h.sl v;have h3:∀k,(look sl v).is k=true->(if inK os' k then f' k else f k)=f k:=fun k hk2=>e3 k (by
    cases hi:inK os' k with
    |false=>exact .inr rfl
    |true=>
     obtain⟨q,hq,rfl⟩:=lT.1 hi;rcases hnew q hq with h4|h4
     ·exact .inl h4
     ·rw[h4.2.1 v]at hk2;cases hk2)
   cases hd:look sl v with
   |own k=>
    rw[hd]at h2 h3;simp only[SR]at h2⊢;rw[h3 k (by simp[D.is,de])];exact h2
   |opt k off=>
    rw[hd]at h2 h3;simp only[SR]at h2⊢;rw[h3 k (by simp[D.is,de])];exact h2
   |_=>rw[hd]at h2;exact AR.agr hag hXw _ _ h2
 ·rcases fg.1 hp with hp|hp
  ·obtain⟨k0,zs,k1,k2⟩:=hO.ow p hp;refine⟨k0,zs,by simp only[e1 p hp];exact k1,?_⟩;exact(EE.agr (Agr.refl _ w') (fun b _ hb=>hXO b hb) (fun _ _=>rfl) k2).re fun hh j _ hj=>by
    obtain⟨q,hq,rfl⟩:=hm' p hp hh j hj;exact e1 q hq
  ·obtain⟨k0,zs,k1,k2⟩:=h.ow p (h1 p hp).1;refine⟨k0,zs,?_,?_⟩
   ·simp only[e2 p hp]
    cases hv:(f p.1).ownBlock with
    |none=>exact lI k1 hv
    |some g=>exact lH k1 hv (hg.block g (hlt p (h1 p hp).1 g hv) (hd1 g ⟨p,hp,hv⟩))
   ·refine(EE.agr hag hXw (fun _ _=>rfl) k2).re fun hh j hrw hj=>e3 j ?_
    cases hi:inK os' j with
    |false=>exact .inr rfl
    |true=>
     obtain⟨q,hq,rfl⟩:=lT.1 hi;rcases hnew q hq with h4|h4
     ·exact .inl h4
     ·exact absurd hj ((h4.2.2 p hp).2 hh hrw)
 ·rcases fg.1 hp with hp|hp
  ·simp only[e1 p hp]at e;exact hO.nw b ⟨p,hp,e⟩
  ·simp only[e2 p hp]at e;have hpo:=(h1 p hp).1;intro m hm;have:w'.cell? ⟨b,0,none⟩=w.cell? ⟨b,0,none⟩:=World.cell?_of_block (hg.block b (hlt p hpo b e) (hd1 b ⟨p,hp,e⟩));rw[this]at hm;exact h.nw b ⟨p,hpo,e⟩ m hm
 ·have cross : ∀ p ∈ os', ∀ q ∈ ow1, ∀ b, (f' p.1).ownBlock = some b -> (f q.1).ownBlock = some b -> False := fun p hp q hq b e e' => by
   rcases hb b ⟨p,hp,e⟩with h3|h3
   ·exact hd1 b ⟨q,hq,e'⟩ h3
   ·have:=hlt q (h1 q hq).1 b e';omega
  rcases fg.1 hp with hp|hp<;>rcases fg.1 hq with hq|hq
  ·simp only[e1 p hp,e1 q hq]at e e';exact hO.dj p hp q hq hne b e e'
  ·simp only[e1 p hp,e2 q hq]at e e';exact cross p hp q hq b e e'
  ·simp only[e2 p hp,e1 q hq]at e e';exact cross q hq p hp b e' e
  ·simp only[e2 p hp,e2 q hq]at e e';exact h.dj p (h1 p hp).1 q (h1 q hq).1 hne b e e'
 ·have cross : ∀ p ∈ os', ∀ q ∈ ow1, p.1 = q.1 -> False := fun p hp q hq e => by
   rcases hnew p hp with⟨q2,h4,e4⟩|h4
   ·exact(h1 q hq).2 q2 h4 (e4.trans e)
   ·exact(h4.2.2 q hq).1 e.symm
  rcases fg.1 hp with hp|hp<;>rcases fg.1 hq with hq|hq
  ·exact hO.un p hp q hq e
  ·exact(cross p hp q hq e).elim
  ·exact(cross q hq p hp e.symm).elim
  ·exact h.un p (h1 p hp).1 q (h1 q hq).1 e
end
end DW
end
section
open Go.RowKit
namespace DW
section
variable {P : Program} {X0 : Nat->Prop} {n : Nat} {Q : Exit->S->Prop} {s : S} {sl : List (Nat × D)} {ow : List (Nat × Ow)} {o : Oper} {ops : Array Oper} {l : List Oper} {K : S->Prop} {t : Nat} {d : D}
theorem Hd.re{w0:Bs}{f f':Nat->Value}{a:Act}{w:World}{s':S}(h:Hd X0 n w0 s f a w)(τ:Nat->Nat)
  (h1:∀p∈s'.ow,∃q:Ow,(τ p.1,q)∈s.ow/\f' p.1=f (τ p.1)/\p.2.T=q.T/\p.2.wd=q.wd/\p.2.l.length=q.l.length/\∀X xs,EE X f w (τ p.1) q.wd q.l xs->EE X f' w p.1 q.wd p.2.l xs)
  (h2:∀p∈s'.ow,∀p2∈s'.ow,τ p.1=τ p2.1->p=p2) (h3:∀t X v,SR X f w (s.gt t) v->SR X f' w (s'.gt t) v) (h4:∀j,pin j=true->f' j=f j):Hd X0 n w0 s' f' a w:=by
 have hX:∀b,XO X0 s' f' b->XO X0 s f b:=fun b hb=>by
  rcases hb with hb|⟨p,hp,e⟩
  ·exact .inl hb
  ·obtain⟨q,q1,q2,_⟩:=h1 p hp;exact .inr ⟨_,q1,by rw[<-q2];exact e⟩
 refine⟨h.sz,h.df,h.bl,h.x0,h.xy,fun j hj=>(h4 j hj).trans (h.fx j hj),fun p hp b e=>?_,fun t=>?_,fun p hp=>?_,fun b ⟨p,hp,e⟩=>?_,fun p hp q hq hne b e e'=>?_,fun p hp q hq e=>h2 p hp q hq (by rw[e])⟩
 ·obtain⟨q,q1,q2,_⟩:=h1 p hp;exact h.lo _ q1 b (by rw[<-q2];exact e)
 ·have h5:=h3 t _ _ (h.sl t);cases hd:s'.gt t<;>rw[hd]at h5<;>first|exact AR.free h5 (fun b _ hb=>hX b hb)|exact h5
 ·obtain⟨q,q1,q2,q3,q4,q5,q6⟩:=h1 p hp;obtain⟨k0,zs,k1,k2⟩:=h.ow _ q1;refine⟨by rw[q4];exact k0,zs,by rw[q2,q3,q4,q5];exact k1,?_⟩;rw[q4];exact EE.agr (Agr.refl _ w) (fun b _ hb=>hX b hb) (fun _ _=>rfl) (q6 _ _ k2)
 ·obtain⟨q,q1,q2,_⟩:=h1 p hp;exact h.nw b ⟨_,q1,by rw[<-q2];exact e⟩
 ·obtain⟨q1,r1,r2,_⟩:=h1 p hp;obtain⟨q2,r3,r4,_⟩:=h1 q hq;exact h.dj _ r1 _ r3 (fun hh=>hne (by rw[h2 p hp q hq hh])) b (by rw[<-r2];exact e) (by rw[<-r4];exact e')
theorem ElH.map{X:Nat->Prop}{f f':Nat->Value}{w:World}:∀{l l':List D} {xs:List Value},ElH X f w l xs->l'.length=l.length->(∀(i:Nat) (d d':D),l[i]?=some d->l'[i]?=some d'->d'.wd=1/\∀u,ER X f w d u->ER X f' w d' u)->ElH X f' w l' xs
 |[],[],_,h,_,_=>h
 |[],_::_,_,_,h,_=>by simp at h
 |_::_,[],_,_,h,_=>by simp at h
 |d::_,d'::_,_,⟨u,rest,h1,h2,h3,h4,_,h6,h7⟩,hl,hh=>by
  obtain⟨k1,k2⟩:=hh 0 d d' rfl rfl;exact⟨u,rest,h1,h2,h3,k2 u h4,k1,h6,ElH.map h7 (by simpa using hl) fun i e e' he he'=>hh (i+1) e e' (by simpa using he) (by simpa using he')⟩
end
end DW
end
section
open Go.RowKit
namespace DW
theorem qj.mv{P:Program}{g:FuncId}{ds:List D}{a:Nat}{q:Ow}(h:qj P g ds [] (.own a) [(a,q)])(ha:hdr a=false){b:Nat}(hb:hdr b=false):qj P g ds [] (.own b) [(b,q)]:=fun X f w vs hX hO hv=>by
 refine(h X f w vs hX hO hv).mono fun e w' ⟨u,f',he,h1,h2,h3,h4,h5⟩=>?_;have hx:XB X (fun _=>f' a) [(b,q)]=XB X f' [(a,q)]:=funext fun x=>propext (by
  unfold XB blk;constructor
  ·rintro(h|⟨p,hp,e⟩)
   ·exact .inl h
   ·exact .inr ⟨_,cD.2 rfl,e⟩
  ·rintro(h|⟨p,hp,e⟩)
   ·exact .inl h
   ·rw[cD.1 hp]at e;exact .inr ⟨_,cD.2 rfl,e⟩)
 have hk:∀x,blk (fun _=>f' a) [(b,q)] x->blk f' [(a,q)] x:=fun x ⟨p,hp,e⟩=>⟨_,cD.2 rfl,e⟩;refine⟨u,fun _=>f' a,he,h1,⟨fun p hp=>?_,fun x hx=>h2.nw x (hk x hx),fun p hp q' hq hne=>?_,fun p hp q' hq _=>?_,fun x hx hb'=>h2.xd x hx (hk x hb')⟩,fun x hx=>h3 x (hk x hx),fun p hp=>(by cases hp),?_⟩
 ·rw[cD.1 hp,hx];obtain⟨k0,xs,k1,k2⟩:=h2.ow _ (cD.2 rfl);exact⟨k0,xs,k1,EE.of (k2.pl ha) hb⟩
 ·rw[cD.1 hp,cD.1 hq]at hne;exact absurd rfl hne
 ·rw[cD.1 hp,cD.1 hq]
 ·simp only[SR]at h5⊢;exact h5
section
variable {P : Program} {X0 : Nat->Prop} {n : Nat} {Q : Exit->S->Prop} {s : S} {sl : List (Nat × D)} {ow : List (Nat × Ow)} {o : Oper} {ops : Array Oper} {l : List Oper} {K : S->Prop} {t : Nat} {d : D}
end
end DW
end
section
open Go.RowKit
namespace DW
def rk(i:Nat):Nat:=1000000+i
section
variable {P : Program} {X0 : Nat->Prop} {n : Nat} {Q : Exit->S->Prop} {s : S} {sl : List (Nat × D)} {T T1 : TypeId} {wd : Nat} {g : List Int->List D} {E : List (Nat × Ow)} {M : List (List Int)}
end
end DW
end
section
open Go.RowKit
namespace DW
section
variable {P : Program} {s : S} {o : Oper}
theorem d_min{x y:Operand}{ts:Array TypeId}{p q:Int}(ho:o.op= .call {callee:=.builtin .min,args:=#[x,y],argTypes:=ts})(hx:s.op x= .sc (.int .i64 p))(hy:s.op y= .sc (.int .i64 q)):bq P o s (.sc (.int .i64 (if q<p then q else p))):=gR (by split<;>rfl) fun X f w a hs=>by
 have h1:=hs x gB;have h2:=hs y gB;rw[hx]at h1;rw[hy]at h2;simp only[SR,AR]at h1 h2;unfold execOp;rw[ho];simp[resolve,invoke,builtin,h1.1,h2.1,Builtin.min_,Builtin.min2]
end
end DW
end
section
open Go.RowKit
namespace DW
section
variable {P : Program} {s : S} {o : Oper}
theorem wO{X:Nat->Prop}{w:World}{wd:Nat}{lo:List D}{v:Value}(h:AR X w (.ls wd lo) v)(hne:lo≠[]):∃a n c,v= .slice a n c/\a.isNone=false:=by
 simp only[AR]at h;obtain⟨a,c,e,_,h3⟩:=h;rcases h3 with h|⟨b,o,rfl,_⟩
 ·exact absurd h hne
 ·exact⟨_,_,_,e,rfl⟩
theorem run_eql_slice_nil(w:World)(t e:TypeId)(a:Option Addr)(l c:Nat)(h:P.underlying t=some (.slice e)):(binOp .eql t (.slice a l c) (.slice none 0 0)).run P w= .ok (.bool a.isNone) w:=by
 simp only[binOp];simp[run_equal_slice_nil w t e a l c h]
theorem Cn{x y:Operand}{tt tt':TypeId}{wd:Nat}{lo:List D}(ho:o.op= .binOp .eql tt x y tt')(hx:s.op x= .ls wd lo)(hy:s.op y= .sc (.slice none 0 0))(hne:lo≠[])(hu:P.underlying tt=some (.slice (P.elem tt))):bq P o s (.sc (.bool false)):=gR rfl fun X f w a hs=>by
 have h1:=hs x bp;have h2:=hs y bp;rw[hx]at h1;rw[hy]at h2;obtain⟨q,n,c,e1,hn⟩:=wO h1 hne;have e2:a.eval y= .slice none 0 0:=h2.1;unfold execOp;rw[ho];have:=run_eql_slice_nil (P:=P) w tt _ q n c hu;simp only[eqGuard];simp[e1,e2,this,hn]
end
set_option maxRecDepth 20000
set_option maxHeartbeats 1000000
end DW
end
section
open Go.RowKit
namespace DW
section
variable {P : Program} {X0 : Nat->Prop} {n : Nat} {sl : List (Nat × D)} {o : Oper} {ops : Array Oper} {l : List Oper} {K : S->Prop} {t : Nat}
end
abbrev gN(l:List Int):List D:=l.map zI
set_option maxRecDepth 20000
set_option maxHeartbeats 2000000
theorem sV(l:List Int)(h0:l≠[])(hl:l.length<=1000000)(K:Nat)(hK:hdr K=false):FnG Tryz.prog 175 [dI l] [] (.own K) [(K,⟨3,1,gN l⟩)]:=by
 have hne:l.map zI≠[]:=by simpa using h0
 refine⟨enters_of Tryz.func175 aD rfl,qj.mv (a:=5) ?_ rfl hK⟩;refine A9 Tryz.func175 rfl rfl (fun _ hp=>by cases hp) fun X0=>?_;simp only[bC];refine zs1 ?_;refine py ?_;refine zs1 ?_;refine bN ?_;(refine aL1 rfl rfl rfl (by(first|(apply Cn;(exact rfl);(focus((apply aw;(conv=>lhs;whnf);(first|done|exact rfl))));(exact jZ);(focus(first|assumption|(intro h;simp at h;done)|(simp;done)));(kernel_rfl))|(apply d_slqn;(exact rfl);(focus((apply aw;(conv=>lhs;whnf);(first|done|exact rfl))));(exact jZ);(kernel_rfl)))) ?_);refine aS ?_;refine aM ?_;refine gar ?_;(refine ur (k:=5) (wd:=1) (T:=Tryz.prog.elem 45) rfl rfl rfl rfl aD aD bW bW pG ?_);refine zs3 ?_;(refine xW rfl rfl rfl rfl rn rn rp bW zb16 aD aD (by(simp only[bu,gU];omega)) pG zb27 ?_);refine da ?_;exact⟨_,Sh.refl,.own 2 5 rfl rfl,rfl⟩
theorem uc{X:Nat->Prop}{w:World}:∀(l:List Int) (xs:List Value),Els X w 1 (gN l) xs->xs=l.map (Value.int .i64)
 |[],_,h=>h
 |z::l,xs,⟨u,rest,h1,h2,_,_,_,h3⟩=>by
  simp only[AR]at h2;rw[h1,uc l rest h3,h2.1];rfl
end DW
end
section
open Go.RowKit
namespace DW
def nn(l:List Nat):List Int:=l.map fun i:Nat=>(i:Int)
theorem lK(l:List Nat):(nn l).length=l.length:=by unfold nn;rw[bu]
theorem xi{l:List Nat}{k c:Nat}(h:l[k]?=some c):(nn l)[k]?=some (c:Int):=by
 unfold nn;rw[eg,h];rfl
set_option maxRecDepth 20000
set_option maxHeartbeats 2000000
end DW
end
section
open Go.RowKit
namespace CI
variable {P : Program} {h h' : H} {tm tm' : Tm} {rec : Rec} {n : Nat} {r : List RO} {S : Nat->SD} {ops : Array Oper}
theorem Trace.mono(t:Trace rec r tm h tm' h' S)(hg:cF rec)(f:Wf h){i j:Nat}(hij:i<=j)(hj:j<=r.length):(S i).h.next<=(S j).h.next:=by
 have:=(t.gdm hg f (j-i) i aa).good.next
 rwa[show i+(j-i)=j by omega]at this
theorem Trace.low(t:Trace rec r tm h tm' h' S)(hg:cF rec)(f:Wf h){i j:Nat}(hij:i<=j)(hj:j<=r.length):(S j).h.low<=(S i).h.low:=by
 have:=(t.gdm hg f (j-i) i aa).good.low;rwa[show i+(j-i)=j by omega]at this
theorem jd{g h1:H}{k:Nat}(e:T.get h1.t k=T.get g.t k):(g.whole h1).get k=g.get k:=by
 unfold H.get;show(match aR k g.forb with|true=>none|false=>T.get h1.t k)=_;rw[e];rfl
theorem nR{g g':H}{ob:Option B}(e:g.fw ob=some g'){k:Nat}(hk:k<g.next):g'.get k=g.get k:=by
 cases ob with
 |none=>simp only[H.fw,ah]at e;rw[e]
 |some b=>
  obtain⟨_,_,h3,_,h5⟩:=bP e;exact oX h3 (by rw[h5,an aa])
def SD.wk(s:SD)(k:Nat):Bool:=s.wr&&s.fr.has k
def SD.rk(s:SD)(k:Nat):Bool:=s.rd&&s.fr.has k
theorem Trace.zC(t:Trace rec r tm h tm' h' S)(hg:cF rec)(f:Wf h){i k:Nat}(hi:i<r.length)(hw:(S (i+1)).wk k=false)(hk:k<(S i).h.next):(S (i+1)).h.get k=(S i).h.get k:=by
 obtain⟨o,ho⟩:∃o,r[i]?=some o:=⟨_,aP hi⟩;have f1:=(t.gd hg f i aa).1;rcases(t.cases ho).2 with⟨_,_,e,_⟩|⟨_,_,_,_,_,ob,_,e,_⟩|⟨_,_,_,h1,e1,e2,e3,_⟩
 ·rw[e]
 ·exact nR e hk
 ·rw[e2];unfold SD.wk at hw
  cases hw2:(S (i+1)).wr with
  |false=>
   refine jd ((iq hg (fM f1) e1).good.keep k hk ?_);rw[e3]at hw2;refine aH hk (cq fun hlt=>?_);rw[<-aJ]at hlt;rw[hlt]at hw2;cases hw2
  |true=>
   rw[hw2,ou]at hw;refine jd ((iq hg (fM f1) e1).good.dead k hk fun hl=>?_);rw[(eT (cY hl)).2 hk]at hw;cases hw
theorem Trace.keepO(t:Trace rec r tm h tm' h' S)(hg:cF rec)(f:Wf h){i k q:Nat}{ro:RO}(hi:r[i]?=some ro)(hq:q<i)(hp:ro.pre.testBit q=false)(h1:(S q).h.next<=k)(h2:k<(S (q+1)).h.next):(S (i+1)).h.get k=(S i).h.get k:=by
 have hlt:=(cN.1 hi).1;have hk:k<(S i).h.next:=aH h2 (t.mono hg f hq aa)
 have f1:=(t.gd hg f i aa).1;rcases(t.cases hi).2 with⟨_,_,e,_⟩|⟨_,_,_,_,_,ob,_,e,_⟩|⟨_,_,_,g1,e1,e2,e3,_⟩
 ·rw[e]
 ·exact nR e hk
 ·rw[e2];refine jd ((iq hg (fM f1) e1).good.dead k hk fun hl=>?_);have:=(eT (cY hl)).1;rw[lV ((t.iv i aa).2 q hq aa) hp h1 h2]at this;cases this
theorem Trace.vf(t:Trace rec r tm h tm' h' S){i:Nat}(hi:i<r.length)(hw:(S (i+1)).wr=true):(S (i+1)).rd=true:=by
 obtain⟨o,ho⟩:∃o,r[i]?=some o:=⟨_,aP hi⟩;rcases(t.cases ho).2 with⟨_,_,_,e,_⟩|⟨_,_,e,_⟩|⟨_,_,e,_⟩
 ·rw[e]at hw;cases hw
 ·rw[e]at hw;cases hw
 ·exact e
theorem Trace.vh(t:Trace rec r tm h tm' h' S){i k:Nat}(hi:i<r.length)(hw:(S (i+1)).wk k=true):(S (i+1)).rk k=true:=by
 unfold SD.wk at hw;unfold SD.rk;rw[cu]at hw⊢;exact⟨t.vf hi hw.1,hw.2⟩
theorem Trace.bound(t:Trace rec r tm h tm' h' S){i j k:Nat}{ro:RO}(hij:i<j)(hj:r[j]?=some ro)(hk:((S (i+1)).wk k=true/\(S (j+1)).rk k=true)\/((S (i+1)).rk k=true/\(S (j+1)).wk k=true)):ro.pre.testBit i=true:=by
 have hlt:=(cN.1 hj).1;simp only[SD.wk,SD.rk,cu]at hk;have hf:(S (i+1)).fr.has k=true/\(S (j+1)).fr.has k=true:=by
  rcases hk with⟨h1,h2⟩|⟨h1,h2⟩<;>exact⟨h1.2,h2.2⟩
 have hh:((S (i+1)).wr=true/\(S (j+1)).rd=true)\/((S (i+1)).rd=true/\(S (j+1)).wr=true):=by
  rcases hk with⟨h1,h2⟩|⟨h1,h2⟩
  ·exact .inl ⟨h1.1,h2.1⟩
  ·exact .inr ⟨h1.1,h2.1⟩
 clear hk;have hri:(S (i+1)).rd=true:=by
  rcases hh with⟨h1,_⟩|⟨h1,_⟩
  ·exact t.vf aa h1
  ·exact h1
 have hrj:(S (j+1)).rd=true:=by
  rcases hh with⟨_,h1⟩|⟨_,h1⟩
  ·exact h1
  ·exact t.vf hlt h1
 rcases(t.cases hj).2 with⟨_,_,_,_,e,_⟩|⟨_,_,_,e,_⟩|⟨_,_,_,g1,_,_,_,e4,_⟩
 ·rw[e]at hrj;cases hrj
 ·rw[e]at hrj;cases hrj
 ·refine ni e4 (t.rw' j aa i hij hri) ?_ hf.1 hf.2;rcases hh with⟨h1,_⟩|⟨_,h1⟩<;>simp[h1]
theorem stay{k x:Nat}:∀{y:Nat},x<=y->(∀i,x<=i->i<y->(S (i+1)).h.get k=(S i).h.get k)->(S y).h.get k=(S x).h.get k:=fun {y} hxy=>by
 induction y with
 |zero=>intro _;rw[show x=0 by omega]
 |succ y ih=>
  intro hh;by_cases hx:x=y+1
  ·rw[hx]
  ·rw[hh y aa aa,ih aa fun i h1 h2=>hh i h1 aa]
theorem Trace.owner(t:Trace rec r tm h tm' h' S){k:Nat}:∀{j:Nat},(S 0).h.next<=k->k<(S j).h.next->∃q,q<j/\(S q).h.next<=k/\k<(S (q+1)).h.next
 |0,h1,h2=>by omega
 |j+1,h1,h2=>by
  by_cases hk:k<(S j).h.next
  ·obtain⟨q,q1,q2⟩:=t.owner h1 hk;exact⟨q,by omega,q2⟩
  ·exact⟨j,by omega,by omega,h2⟩
structure zO(P:Program)(S:Nat->SD)(ops:Array Oper)(j:Nat)(o:Oper)(pre:Nat)(G h1:H):Prop where
 nx:G.next=(S j).h.next
 nx1:h1.next=(S (j+1)).h.next
 g1:∀k b,G.get k=some b->k<(S j).h.next/\(S j).h.get k=some b/\(S (j+1)).rk k=true/\∀q,q<j->(S q).h.next<=k->k<(S (q+1)).h.next->pre.testBit q=true
 g2:∀k b,(S j).h.next<=k->(S (j+1)).h.get k=some b->h1.get k=some b
 g3:∀k,G.live k->(S (j+1)).h.get k=h1.get k
 g4:∀k,k<(S j).h.next->¬G.live k->(S (j+1)).h.get k=(S j).h.get k
 g5:∀k,(S (j+1)).wk k=false->G.live k->h1.get k=G.get k
 low:∀k,G.live k->h1.low<=k->(S (j+1)).h.low<=k
 bd:(S j).h.next<=1000000
 wp:∀(F:Fence) (_:FC F) (Q:Exit->Act->World->Prop) (K:Act->World->Prop) (A:Nat->Prop) (ρ:Nat->Nat) (w:World) (a:Act),Rel P A ρ w G->Dj A G h1->(∀u,u∈looks ops o->VR P A ρ w (CO.ev (S j).tm (CO.t u)) (a.tmps.getD u undef))->
  (∀u w' ρ',bc P A ρ w G ρ' w' h1->VR P (Ext A G h1) ρ' w' (S (j+1)).v u->K (a.put o.dst u) w')->wpOpIn F 0 P ops Q j K a w
def bare(k:Nat):H:=⟨k,k,[],.e⟩
theorem kW(k j:Nat):(bare k).get j=none:=by
 unfold H.get bare;simp only[aR,T.oY]
theorem fP(k j:Nat):¬(bare k).live j:=by unfold H.live;rw[kW];simp
theorem sq{A:Nat->Prop}{ρ:Nat->Nat}{w:World}{a:Act}{o:Oper}{tm:Tm}(hl:∀u,u∈looks ops o->VR P A ρ w (CO.ev tm (CO.t u)) (a.tmps.getD u undef)):HV P A ρ w tm a o:=fun y hy=>by
 cases y with
 |tmp u=>
  have:=hl u (by
   unfold looks;exact List.mem_append_right _ (List.mem_filterMap.2 ⟨.tmp u,by simpa using hy,rfl⟩))
  unfold OpV;simpa[au,Act.eval]using this
 |const v=>exact qs v
 |global g=>simp only[OpV,au,CO.ev,VR]
 |func g=>
  show VR P A ρ w (.fn g []) (.func (.func g) #[] #[]);simp only[VR,VRl];exact⟨_,rfl,rfl⟩
theorem Ae(hrec:gA P rec)(hg:cF rec)(t:Trace rec r tm h tm' h' S)(st:Stat P n ops r)(f:Wf h){j:Nat}{o:Oper}(ho:ops[j]?=some o):∃ro G h1,r[j]?=some ro/\cA n o.dst=true/\(S (j+1)).tm=eI (S j).tm o.dst (S (j+1)).v/\zO P S ops j o ro.pre G h1:=by
 obtain⟨g,p,hr,hdst,hgd⟩:=st.row j o ho;have hjl:j<r.length:=(cN.1 hr).1;obtain⟨f1,_⟩:=t.gd hg f j aa;obtain⟨ht,hcs⟩:=t.cases hr;have hwant:∀(A:Nat->Prop) (ρ:Nat->Nat) (w:World) (a:Act) (b:Bool),dC ⟨o.dst,g,(match ay P o.op with|some x=>x|none=> .bad),p⟩ (S j).tm=some b->(∀u,u∈looks ops o->VR P A ρ w (CO.ev (S j).tm (CO.t u)) (a.tmps.getD u undef))->Region.wanted o (yielded ops a.tmps)=b:=fun A ρ w a b hw hl=>by
  refine kr (P:=P) (A:=A) (ρ:=ρ) (w:=w) hgd hw fun u c hc=>hl u ?_;unfold looks;refine List.mem_append_left _ ?_
  cases hog:o.guard with
  |none=>rw[hog]at hgd;simp only[ah]at hgd;rw[<-hgd]at hc;cases hc
  |some q=>
   obtain⟨q1,q2⟩:=q;rw[hog]at hgd;simp only at hgd⊢;obtain⟨u',e1,e2⟩:=aj hgd;rw[hc]at e2;simp only[ah,av]at e2;rw[e1,e2.1];simp
 rcases hcs with⟨hw,hv,hh,hwr,hrd,_⟩|⟨hw,hT,hwr,hrd,_,ob,e1,e2,_⟩|⟨hw,hT,hrd,h1,e1,e2,e3,e4,_⟩
 ·refine⟨_,bare (S j).h.next,bare (S j).h.next,hr,hdst,ht,rfl,(by rw[hh];rfl),(fun k b e=>by rw[kW]at e;cases e),fun k b hk e=>?_,fun k hl=>absurd hl (fP _ _),(fun k _ _=>by rw[hh]),fun k _ hl=>absurd hl (fP _ _),fun k hl=>absurd hl (fP _ _),f1.bd,fun F hF Q K A ρ w a tR hd hl hK=>?_⟩
  ·rw[hh]at e;have:=f1.lt k b (ew e);omega
  ·unfold wpOpIn;simp only[ho];rw[hwant A ρ w a false hw hl,an aO];exact⟨fun g _=>hF.fn g,hK undef w ρ (bc.refl tR) (by rw[hv];simp only[VR])⟩
 ·obtain ⟨h1, e3⟩ : ∃ h1, (bare (S j).h.next).fw ob = some h1 := by
   cases ob with
   |none=>exact⟨_,rfl⟩
   |some b=>
    have:=(bP e2).2.2.2.1;exact⟨_,by
     show(bare (S j).h.next).new b=_;unfold H.new bare;rw[(by simpa[aJ]using this:Nat.blt (S j).h.next 1000000=true)]⟩
  have hcc:=qP (P:=P) (o:=o) rfl (.inr fun e5=>by
   have e6:=(congrArg (fun x=>xT x (S j).tm (S j).h.next) e5).symm.trans e1;rw[wq]at e6;cases e6)
  have hn1:h1.next=(S (j+1)).h.next:=by
   cases ob with
   |none=>
    simp only[H.fw,ah]at e2 e3;rw[<-e2,<-e3];rfl
   |some b=>rw[(bP e3).1,(bP e2).1];rfl
  refine⟨_,bare (S j).h.next,h1,hr,hdst,ht,rfl,hn1,(fun k b e=>by rw[kW]at e;cases e),fun k b hk e=>?_,fun k hl=>absurd hl (fP _ _),fun k hk _=>nR e2 hk,fun k _ hl=>absurd hl (fP _ _),fun k hl=>absurd hl (fP _ _),f1.bd,fun F hF Q K A ρ w a tR hd hl hK=>?_⟩
  ·cases ob with
   |none=>
    simp only[H.fw,ah]at e2;rw[<-e2]at e;have:=f1.lt k b (ew e);omega
   |some b'=>
    obtain⟨q1,q2,q3,q4,q5⟩:=bP e2;obtain⟨s1,s2,s3,s4,s5⟩:=bP e3;have e':=ew e;rw[q5]at e';split at e'
    ·next hk'=>
     simp only[ah]at e';subst e';unfold H.get;rw[s3];simp only[bare,aR];rw[s5];exact aB hk'
    ·have:=f1.lt k b e';omega
  ·unfold wpOpIn;simp only[ho];rw[hwant A ρ w a true hw hl,aB rfl];exact vB hF (iS ⟨_,hcc⟩) (t_me (h:=bare (S j).h.next) hcc hT e1 e3 (sq hl) tR hd) hK
 ·have hcc:=qP (P:=P) (o:=o) rfl (.inl hT);have gp:=iq hg (fM f1) e1;have hout:∀k,(S j).h.next<=k->aR k (iK (S j).h.next (S (j+1)).fr (eA p (S j).iv (S j).h.forb))=aR k (S j).h.forb:=fun k hk=>(yE hk).trans<|qz fun x hx=>by
   obtain⟨q,hq,rfl⟩:=(t.iv j aa).1 x hx;have:=t.mono hg f (show q+1<=j by omega) aa;simp only;omega
  have hrk:∀k b,((S j).h.part p (S j).iv (S (j+1)).fr).get k=some b->(S (j+1)).rk k=true:=fun k b e=>by
   unfold SD.rk;rw[hrd,(eT (cY (aG e))).2 (f1.lt k b (ew (iJ e)))];rfl
  refine⟨_,(S j).h.part p (S j).iv (S (j+1)).fr,h1,hr,hdst,ht,rfl,(by rw[e2];rfl),fun k b e=>⟨f1.lt k b (ew (iJ e)),iJ e,hrk k b e,fun q hq q1 q2=>?_⟩,fun k b hk e=>?_,fun k hl=>?_,fun k hk hl=>?_,fun k hwk hl=>?_,fun k _ hlo=>?_,f1.bd,fun F hF Q K A ρ w a tR hd hl hK=>?_⟩
  ·cases hp:p.testBit q with
   |true=>rfl
   |false=>
    have:=(eT (cY (aG e))).1;rw[lV ((t.iv j aa).2 q hq aa) hp q1 q2]at this;cases this
  ·rw[e2]at e;have hf:=gp.good.forb;unfold H.get at e⊢;rw[hf,show((S j).h.part p (S j).iv (S (j+1)).fr).forb=iK (S j).h.next (S (j+1)).fr (eA p (S j).iv (S j).h.forb)from rfl,hout k hk];exact e
  ·rw[e2];have hb:=cY hl;have hb2:aR k (S j).h.forb=false:=eU p k _ _ (eT hb).1;unfold H.get;rw[gp.good.forb,hb];show(match aR k (S j).h.forb with|true=>none|false=>T.get h1.t k)=_;rw[hb2]
  ·rw[e2];exact jd (gp.good.dead k hk hl)
  ·have hk : k < (S j).h.next := by
    obtain⟨b,eb⟩:=bH.1 hl;exact f1.lt k b (ew (iJ eb))
   have hw0:(S (j+1)).wr=false:=by
    unfold SD.wk at hwk;rw[(eT (cY hl)).2 hk,Bool.and_true]at hwk;exact hwk
   rw[e3]at hw0;refine oX gp.good.forb (gp.good.keep k hk (aH hk (cq fun hlt=>?_)));rw[<-aJ]at hlt;rw[hlt]at hw0;cases hw0
  ·rw[e2];exact aE (ql _ _).2 hlo
  ·unfold wpOpIn;simp only[ho];rw[hwant A ρ w a true hw hl,aB rfl];exact r_wp hrec hF hcc hT e1 (fM f1) (sq hl) tR hd hK
end CI
end
section
open Go.RowKit
namespace CI
variable {P : Program} {h h' : H} {tm tm' : Tm} {rec : Rec} {n : Nat} {r : List RO} {S : Nat->SD} {ops : Array Oper} {A : Nat->Prop} {ρ ρ1 ρ2 : Nat->Nat} {w w1 w2 : World} {a : Act} {ds : List Nat} {L : Nat->Prop} {s : Nat->Nat} {j : Nat}
def AL(A:Nat->Prop)(S:Nat->SD)(L:Nat->Prop)(k:Nat):Prop:=A k\/∃i,L i/\(S i).h.next<=k/\k<(S (i+1)).h.next
def Lv(S:Nat->SD)(L:Nat->Prop)(s:Nat->Nat)(k:Nat)(b:B):Prop:=(k<(S 0).h.next/\(S (s k)).h.get k=some b)\/∃i,L i/\(S i).h.next<=k/\k<(S (i+1)).h.next/\(S (max (s k) (i+1))).h.get k=some b
structure Inv(P:Program)(S:Nat->SD)(ops:Array Oper)(r:List RO)(h':H)(n:Nat)(ds:List Nat)(A:Nat->Prop)(ρ:Nat->Nat)(w:World)(L:Nat->Prop)(s:Nat->Nat)(ρ1:Nat->Nat)(a:Act)(w1:World):Prop where
 cl:∀i ro q,L i->r[i]?=some ro->ro.pre.testBit q=true->L q
 lN:∀i,L i->i<r.length
 s0:∀k,s k<=r.length
 sl:∀k i,i<s k->(S (i+1)).wk k=true->L i
 sr:∀k i,s k<=i->i<r.length->(S (i+1)).wk k=true->¬L i
 tmv:∀t,(∃i o,L i/\ops[i]?=some o/\o.dst=some t/\(∀i' o',L i'->i<i'->ops[i']?=some o'->o'.dst≠some t)/\VR P (AL A S L) ρ1 w1 (S (i+1)).v (a.tmps.getD t undef))\/
  ((∀i o,L i->ops[i]?=some o->o.dst≠some t)/\VR P (AL A S L) ρ1 w1 (CO.ev (S 0).tm (CO.t t)) (a.tmps.getD t undef))
 sz:a.tmps.size=n
 df:a.defers=ds.map (lY ρ)
 blk:∀k b,Lv S L s k b->ρ1 k<w1.heap.size/\BR P (AL A S L) ρ1 w1 (ρ1 k) b
 inj:∀k b k' b',Lv S L s k b->Lv S L s k' b'->ρ1 k=ρ1 k'->k=k'
 lt:Lt w w1
 fr:∀b,b<w.heap.size->(∀k,(S 0).h.live k->h'.low<=k->ρ k≠b)->w1.heap[b]?=w.heap[b]?
 rho:∀k,(k<(S 0).h.next\/h'.next<=k)->ρ1 k=ρ k
 new:∀k b,Lv S L s k b->(S 0).h.next<=k->w.heap.size<=ρ1 k\/∃i,(S 0).h.live i/\h'.low<=i/\ρ1 k=ρ i
theorem vk(t:Trace rec r tm h tm' h' S)(st:Stat P n ops r)(hn:n<1000000)(u:Nat):∀j,j<=r.length->(∃i o,i<j/\ops[i]?=some o/\o.dst=some u/\(∀i' o',i'<j->i<i'->ops[i']?=some o'->o'.dst≠some u)/\CO.ev (S j).tm (CO.t u)=(S (i+1)).v)\/
  ((∀i o,i<j->ops[i]?=some o->o.dst≠some u)/\CO.ev (S j).tm (CO.t u)=CO.ev (S 0).tm (CO.t u))
 |0,_=> .inr ⟨fun i o hi=>by omega,rfl⟩
 |j+1,hj=>by
  have hjo:j<ops.size:=by rw[<-st.len];omega
  obtain⟨o,ho⟩:∃o,ops[j]?=some o:=⟨_,lj hjo⟩;obtain⟨g,p,hr,hdst,_⟩:=st.row j o ho;have ht:=(t.cases hr).1;have ih:=vk t st hn u j aa;by_cases hd:o.dst=some u
  ·refine .inl ⟨j,o,by omega,ho,hd,fun i' o' h1 h2=>by omega,?_⟩;have hu:u<n:=by rw[hd]at hdst;simpa[cA,aJ]using hdst
   rw[ht];simp only[eI,hd];rw[pc (t:=u) aa,aB rfl]
  ·have hsame : CO.ev (S (j + 1)).tm (CO.t u) = CO.ev (S j).tm (CO.t u) := by
    rw[ht]
    cases hdd:o.dst with
    |none=>rfl
    |some v=>
     have hv:v<n:=by rw[hdd]at hdst;simpa[cA,aJ]using hdst
     simp only[eI];rw[pc (t:=v) (Nat.lt_trans hv hn),an (fun e=>hd (by rw[hdd,e]))]
   rcases ih with⟨i,o',h1,h2,h3,h4,h5⟩|⟨h1,h2⟩
   ·refine .inl ⟨i,o',by omega,h2,h3,fun i' o'' k1 k2 k3=>?_,by rw[hsame,h5]⟩;rcases jM.1 k1 with k|k
    ·exact h4 i' o'' k k2 k3
    ·subst k;rw[ho]at k3;simp only[ah]at k3;rw[<-k3];exact hd
   ·refine .inr ⟨fun i o' k1 k2=>?_,by rw[hsame,h2]⟩;rcases jM.1 k1 with k|k
    ·exact h1 i o' k k2
    ·subst k;rw[ho]at k2;simp only[ah]at k2;rw[<-k2];exact hd
section
variable (t : Trace rec r tm h tm' h' S) (st : Stat P n ops r) (hg : cF rec) (f : Wf h)
theorem Inv.slots(I:Inv P S ops r h' n ds A ρ w L s ρ1 a w1)(t:Trace rec r tm h tm' h' S)(st:Stat P n ops r)(hn:n<1000000){o:Oper}{ro:RO}(ho:ops[j]?=some o)(hr:r[j]?=some ro)(hj:¬L j)(hpre:∀q,ro.pre.testBit q=true->L q):∀u,u∈looks ops o->VR P (AL A S L) ρ1 w1 (CO.ev (S j).tm (CO.t u)) (a.tmps.getD u undef):=fun u hu=>by
 have hjl:j<r.length:=(cN.1 hr).1;have later:∀i o',L i->j<i->ops[i]?=some o'->o'.dst≠some u:=fun i o' hL hji hi hd=>by
  obtain⟨ro',hro'⟩:∃ro',r[i]?=some ro':=⟨_,aP (I.lN i hL)⟩;exact hj (I.cl i ro' j hL hro' (st.tmp j i o o' ro' u hji ho hi hro' (.inr (.inl ⟨hd,hu⟩))))
 rcases vk t st hn u j aa with⟨i,o',h1,h2,h3,h4,h5⟩|⟨h1,h2⟩
 ·have hLi:L i:=hpre i (st.tmp i j o' o ro u h1 h2 ho hr (.inl ⟨h3,hu⟩));rw[h5];rcases I.tmv u with⟨i',o'',k1,k2,k3,k4,k5⟩|⟨k1,k2⟩
  ·have : i' = i := by
    rcases iY i i' with e|e|e
    ·exfalso;rcases iY i' j with e2|e2|e2
     ·exact h4 i' o'' e2 e k2 k3
     ·exact hj (e2▸k1)
     ·exact later i' o'' k1 e2 k2 k3
    ·exact e.symm
    ·exact absurd h3 (k4 i o' hLi e h2)
   subst this;exact k5
  ·exact absurd h3 (k1 i o' hLi h2)
 ·rw[h2];rcases I.tmv u with⟨i',o'',k1,k2,k3,k4,k5⟩|⟨k1,k2⟩
  ·exfalso;rcases iY i' j with e2|e2|e2
   ·exact h1 i' o'' e2 k2 k3
   ·exact hj (e2▸k1)
   ·exact later i' o'' k1 e2 k2 k3
  ·exact k2
theorem Inv.quiet(I:Inv P S ops r h' n ds A ρ w L s ρ1 a w1)(t:Trace rec r tm h tm' h' S){ro:RO}(hr:r[j]?=some ro)(hj:¬L j)(hpre:∀q,ro.pre.testBit q=true->L q){k:Nat}(hrd:(S (j+1)).rk k=true):
  (∀i,s k<=i->i<j->(S (i+1)).wk k=false)/\(∀i,j<=i->i<s k->(S (i+1)).wk k=false):=by
 have hjl:j<r.length:=(cN.1 hr).1;refine⟨fun i h1 h2=>?_,fun i h1 h2=>?_⟩
 ·cases hw:(S (i+1)).wk k with
  |false=>rfl
  |true=>exact absurd (hpre i (t.bound h2 hr (.inl ⟨hw,hrd⟩))) (I.sr k i h1 aa hw)
 ·cases hw:(S (i+1)).wk k with
  |false=>rfl
  |true=>
   exfalso;have hLi:=I.sl k i h2 hw;have hne:i≠j:=fun e=>hj (e▸hLi);obtain⟨ro',hro'⟩:∃ro',r[i]?=some ro':=⟨_,aP (I.lN i hLi)⟩;exact hj (I.cl i ro' j hLi hro' (t.bound aa hro' (.inr ⟨hrd,hw⟩)))
theorem dY(t:Trace rec r tm h tm' h' S)(hg:cF rec)(f:Wf h){x y k:Nat}(hxy:x<=y)(hy:y<=r.length)(hk:k<(S x).h.next)(hw:∀i,x<=i->i<y->(S (i+1)).wk k=false):(S y).h.get k=(S x).h.get k:=
 stay hxy fun i h1 h2=>t.zC hg f aa (hw i h1 h2) (aH hk (t.mono hg f h1 aa))
end
end CI
end
section
open Go.RowKit
namespace CI
variable {P : Program} {h h' : H} {tm tm' : Tm} {rec : Rec} {n : Nat} {r : List RO} {S : Nat->SD} {ops : Array Oper} {A : Nat->Prop} {ρ ρ1 ρ2 : Nat->Nat} {w w1 w2 : World} {a : Act} {ds : List Nat} {L : Nat->Prop} {s : Nat->Nat} {j : Nat} {o : Oper} {ro : RO} {G h1 : H}
structure ig(rec:Rec)(P:Program)(S:Nat->SD)(ops:Array Oper)(r:List RO)(tm:Tm)(h:H)(tm':Tm)(h':H)(n:Nat)(A:Nat->Prop)(L:Nat->Prop)(j:Nat)(o:Oper)(ro:RO)(G h1:H):Prop where
 t:Trace rec r tm h tm' h' S
 st:Stat P n ops r
 hg:cF rec
 f:Wf h
 hn:n<1000000
 ho:ops[j]?=some o
 hr:r[j]?=some ro
 hj:¬L j
 pre:∀q,ro.pre.testBit q=true->L q
 dst:cA n o.dst=true
 sg:zO P S ops j o ro.pre G h1
 dj:Dj A h h'
 nm:∀k,h.live k->A k
theorem Lv.uniq(t:Trace rec r tm h tm' h' S)(hg:cF rec)(f:Wf h)(hL:∀i,L i->i<r.length){k:Nat}{b b':B}(e:Lv S L s k b)(e':Lv S L s k b'):b=b':=by
 have m0:∀i,L i->(S 0).h.next<=(S i).h.next:=fun i hi=>t.mono hg f (aZ _) (cC (hL i hi))
 rcases e with⟨h1,e⟩|⟨i,hi,a1,a2,e⟩<;>rcases e' with⟨h1',e'⟩|⟨i',hi',a1',a2',e'⟩
 ·rw[e]at e';simpa using e'
 ·have:=m0 i' hi';omega
 ·have:=m0 i hi;omega
 ·have : i = i' := by
   rcases iY i i' with x|x|x
   ·have:=t.mono hg f (show i+1<=i' from x) (cC (hL i' hi'));omega
   ·exact x
   ·have:=t.mono hg f (show i'+1<=i from x) (cC (hL i hi));omega
  subst this;rw[e]at e';simpa using e'
section
variable (M : ig rec P S ops r tm h tm' h' n A L j o ro G h1)
theorem ig.jl(M:ig rec P S ops r tm h tm' h' n A L j o ro G h1):j<r.length:=(cN.1 M.hr).1
theorem ig.mono(M:ig rec P S ops r tm h tm' h' n A L j o ro G h1){x y:Nat}(h1:x<=y)(h2:y<=r.length):(S x).h.next<=(S y).h.next:=M.t.mono M.hg M.f h1 h2
theorem Inv.jH(I:Inv P S ops r h' n ds A ρ w L s ρ1 a w1)(M:ig rec P S ops r tm h tm' h' n A L j o ro G h1){k:Nat}{b:B}(e:G.get k=some b):Lv S L s k b:=by
 obtain⟨k1,k2,k3,k4⟩:=M.sg.g1 k b e;obtain⟨q1,q2⟩:=I.quiet M.t M.hr M.hj M.pre k3;have jl:=M.jl;by_cases hk:k<(S 0).h.next
 ·refine .inl ⟨hk,?_⟩;rcases Nat.le_total (s k) j with hs|hs
  ·rw[<-dY M.t M.hg M.f hs aa (aH hk (M.mono (aZ _) (I.s0 k))) q1];exact k2
  ·rw[dY M.t M.hg M.f hs (I.s0 k) k1 q2];exact k2
 ·obtain⟨q,hq,a1,a2⟩:=M.t.owner (cq hk) k1;refine .inr ⟨q,M.pre q (k4 q hq a1 a2),a1,a2,?_⟩;rcases Nat.le_total (s k) j with hs|hs
  ·rw[<-dY M.t M.hg M.f (x:=max (s k) (q+1)) (y:=j) aa aa (aH a2 (M.mono aa aa)) (fun i i1 i2=>q1 i aa i2)];exact k2
  ·rw[show max (s k) (q+1)=s k by omega,dY M.t M.hg M.f hs (I.s0 k) k1 q2];exact k2
theorem Inv.nmA(I:Inv P S ops r h' n ds A ρ w L s ρ1 a w1)(M:ig rec P S ops r tm h tm' h' n A L j o ro G h1){k:Nat}{b:B}(e:Lv S L s k b):AL A S L k:=by
 rcases e with⟨hk,e⟩|⟨i,hi,a1,a2,_⟩
 ·refine .inl (M.nm k ?_);have g:=(M.t.gd M.hg M.f (s k) (I.s0 k)).2;rw[M.t.h0]at hk;exact g.good.back hk (aG e)
 ·exact .inr ⟨i,hi,a1,a2⟩
theorem Inv.rel(I:Inv P S ops r h' n ds A ρ w L s ρ1 a w1)(M:ig rec P S ops r tm h tm' h' n A L j o ro G h1):Rel P (AL A S L) ρ1 w1 G:=by
 refine⟨fun k b e=>?_,fun k k' hl hl' e=>?_,by rw[M.sg.nx];exact M.sg.bd⟩
 ·have hlv:=I.jH M e;obtain⟨b1,b2⟩:=I.blk k b hlv;exact⟨by rw[M.sg.nx];exact(M.sg.g1 k b e).1,I.nmA M hlv,b1,b2⟩
 ·obtain⟨b,eb⟩:=bH.1 hl;obtain⟨b',eb'⟩:=bH.1 hl';exact I.inj k b k' b' (I.jH M eb) (I.jH M eb') e
theorem Inv.dj(I:Inv P S ops r h' n ds A ρ w L s ρ1 a w1)(M:ig rec P S ops r tm h tm' h' n A L j o ro G h1):Dj (AL A S L) G h1:=fun k hk=>by
 have jl:=M.jl;rw[M.sg.nx,M.sg.nx1];rcases hk with hk|⟨i,hi,a1,a2⟩
 ·have e1:(S 0).h.next=h.next:=by rw[M.t.h0]
  have e2:(S r.length).h.next=h'.next:=by rw[M.t.hN]
  have m1:=M.mono (aZ j) aa;have m2:=M.mono (show j+1<=r.length by omega) (ai _);have:=M.dj k hk;omega
 ·rcases iY i j with x|x|x
  ·have:=M.mono (show i+1<=j from x) aa;omega
  ·exact absurd (x▸hi) M.hj
  ·have:=M.mono (show j+1<=i from x) (cC (I.lN i hi));omega
def jr(S:Nat->SD)(s:Nat->Nat)(j:Nat):Nat->Nat:=fun k=>if(S (j+1)).wk k=true then j+1 else s k
theorem Inv.mL(I:Inv P S ops r h' n ds A ρ w L s ρ1 a w1)(M:ig rec P S ops r tm h tm' h' n A L j o ro G h1){k:Nat}{b:B}(e:Lv S (fun i=>L i\/i=j) (jr S s j) k b):
  (h1.get k=some b/\(G.live k\/((S j).h.next<=k/\k<(S (j+1)).h.next)))\/(¬G.live k/\¬((S j).h.next<=k/\k<(S (j+1)).h.next)/\Lv S L s k b):=by
 have jl:=M.jl;have hwr:(S (j+1)).wk k=true->s k<=j/\∀i,s k<=i->i<j->(S (i+1)).wk k=false:=fun hw=>
  ⟨cq fun hlt=>M.hj (I.sl k j hlt hw),(I.quiet M.t M.hr M.hj M.pre (M.t.vh jl hw)).1⟩
 have hs':((S (j+1)).wk k=true/\jr S s j k=j+1)\/((S (j+1)).wk k=false/\jr S s j k=s k):=by
  unfold jr
  cases hw:(S (j+1)).wk k with
  |true=>exact .inl ⟨rfl,by simp⟩
  |false=>exact .inr ⟨rfl,by simp⟩
 have hlive:G.live k->(S (j+1)).wk k=false->Lv S L s k b->h1.get k=some b:=fun hG hw hl=>by
  obtain⟨b0,eb⟩:=bH.1 hG;have:=Lv.uniq M.t M.hg M.f I.lN hl (I.jH M eb);rw[M.sg.g5 k hw hG,eb,this]
 rcases e with⟨hk,e⟩|⟨i,hi,a1,a2,e⟩
 ·have hkj:k<(S j).h.next:=aH hk (M.mono (aZ _) aa)
  by_cases hG:G.live k
  ·refine .inl ⟨?_, .inl hG⟩;rcases hs' with⟨hw,hs⟩|⟨hw,hs⟩
   ·rw[hs,M.sg.g3 k hG]at e;exact e
   ·rw[hs]at e;exact hlive hG hw (.inl ⟨hk,e⟩)
  ·refine .inr ⟨hG,by omega, .inl ⟨hk,?_⟩⟩;rcases hs' with⟨hw,hs⟩|⟨hw,hs⟩
   ·obtain⟨q1,q2⟩:=hwr hw;rw[hs,M.sg.g4 k hkj hG,dY M.t M.hg M.f q1 aa (aH hk (M.mono (aZ _) (I.s0 k))) q2]at e;exact e
   ·rw[hs]at e;exact e
 ·rcases hi with hi|hi
  ·have hij:i≠j:=fun x=>M.hj (x▸hi);have hni:¬((S j).h.next<=k/\k<(S (j+1)).h.next):=fun hx=>by
    rcases ry hij with x|x
    ·have:=M.mono (show i+1<=j from x) aa;omega
    ·have:=M.mono (show j+1<=i from x) (cC (I.lN i hi));omega
   by_cases hG:G.live k
   ·obtain⟨b0,eb⟩:=bH.1 hG;have hkj:=(M.sg.g1 k b0 eb).1;have hlt:i<j:=by
     rcases ry hij with x|x
     ·exact x
     ·have h1:=M.mono (show j+1<=i from x) (cC (I.lN i hi));have h2:=M.mono (show j<=j+1 by omega) aa;omega
    refine .inl ⟨?_, .inl hG⟩;rcases hs' with⟨hw,hs⟩|⟨hw,hs⟩
    ·rw[hs,show max (j+1) (i+1)=j+1 by omega,M.sg.g3 k hG]at e;exact e
    ·rw[hs]at e;exact hlive hG hw (.inr ⟨i,hi,a1,a2,e⟩)
   ·refine .inr ⟨hG,hni, .inr ⟨i,hi,a1,a2,?_⟩⟩;rcases hs' with⟨hw,hs⟩|⟨hw,hs⟩
    ·obtain⟨q1,q2⟩:=hwr hw;rcases ry hij with x|x
     ·rw [hs, show max (j + 1) (i + 1) = j + 1 by omega, M.sg.g4 k (aH a2 (M.mono (show i + 1 <= j from x) (by omega))) hG,
       dY M.t M.hg M.f (x:=max (s k) (i+1)) (y:=j) aa aa (aH a2 (M.mono aa aa)) (fun i' i1 i2=>q2 i' aa i2)]at e
      exact e
     ·rw[hs,show max (j+1) (i+1)=max (s k) (i+1) by omega]at e;exact e
    ·rw[hs]at e;exact e
  ·subst hi;refine .inl ⟨?_, .inr ⟨a1,a2⟩⟩;rcases hs' with⟨hw,hs⟩|⟨hw,hs⟩
   ·rw[hs,show max (i+1) (i+1)=i+1 by omega]at e;exact M.sg.g2 k b a1 e
   ·rw[hs,stay (x:=i+1) (y:=max (s k) (i+1)) aa (fun x x1 x2=>?_)]at e
    ·exact M.sg.g2 k b a1 e
    ·have hxs:x<s k:=by omega
     have hxr:x<r.length:=aH hxs (I.s0 k)
     cases hwx:(S (x+1)).wk k with
     |false=>exact M.t.zC M.hg M.f hxr hwx (aH a2 (M.mono x1 aa))
     |true=>
      obtain⟨rx,hrx⟩:∃rx,r[x]?=some rx:=⟨_,aP hxr⟩;refine M.t.keepO M.hg M.f hrx (show i<x by omega) ?_ a1 a2
      cases hp:rx.pre.testBit i with
      |false=>rfl
      |true=>exact absurd (I.cl x rx i (I.sl k x hxs hwx) hrx hp) M.hj
end
end CI
end
section
open Go.RowKit
namespace CI
variable {P : Program} {h h' : H} {tm tm' : Tm} {rec : Rec} {n : Nat} {r : List RO} {S : Nat->SD} {ops : Array Oper} {A : Nat->Prop} {ρ ρ1 ρ2 : Nat->Nat} {w w1 w2 : World} {a : Act} {ds : List Nat} {L : Nat->Prop} {s : Nat->Nat} {j : Nat} {o : Oper} {ro : RO} {G h1 : H}
theorem xe{dst:Option Tmp}{t:Nat}{u:Value}(h:dst≠some t):(a.put dst u).tmps.getD t undef=a.tmps.getD t undef:=by
 cases dst with
 |none=>rfl
 |some d=>
  have hne:d≠t:=fun e=>h (by rw[e]);simp only[Act.put,ct,Array.getElem?_setIfInBounds_ne hne]
theorem yC{t:Nat}{u:Value}(ht:t<a.tmps.size):(a.put (some t) u).tmps.getD t undef=u:=by
 simp only[Act.put,ct,lk];simp[ht]
theorem Inv.step(I:Inv P S ops r h' n ds A ρ w L s ρ1 a w1)(M:ig rec P S ops r tm h tm' h' n A L j o ro G h1){u:Value}(p:bc P (AL A S L) ρ1 w1 G ρ2 w2 h1)(hu:VR P (Ext (AL A S L) G h1) ρ2 w2 (S (j+1)).v u):
  Inv P S ops r h' n ds A ρ w (fun i=>L i\/i=j) (jr S s j) ρ2 (a.put o.dst u) w2:=by
 have jl:=M.jl;have hdj:=I.dj M;have hmo:Mo (AL A S L) (AL A S fun i=>L i\/i=j) ρ1 ρ2:=⟨fun k hk=>hk.imp id fun ⟨i,hi,hx⟩=>⟨i, .inl hi,hx⟩,(p.mo hdj).eq⟩;have hmo2:Mo (Ext (AL A S L) G h1) (AL A S fun i=>L i\/i=j) ρ2 ρ2:=⟨fun k hk=>by
  rcases hk with hk|hk
  ·exact hmo.sub k hk
  ·rw[M.sg.nx,M.sg.nx1]at hk;exact .inr ⟨j, .inr rfl,hk⟩,fun _ _=>rfl⟩
 have hs':∀k,((S (j+1)).wk k=true/\jr S s j k=j+1)\/((S (j+1)).wk k=false/\jr S s j k=s k):=fun k=>by
  unfold jr
  cases hw:(S (j+1)).wk k with
  |true=>exact .inl ⟨rfl,by simp⟩
  |false=>exact .inr ⟨rfl,by simp⟩
 have after:∀i,L i->∀rx,r[i]?=some rx->rx.pre.testBit j=true->False:=fun i hi rx hrx hp=>M.hj (I.cl i rx j hi hrx hp);have hframe:∀k b,Lv S L s k b->¬G.live k->w2.heap[ρ1 k]?=w1.heap[ρ1 k]?:=fun k b hl hG=>p.fr _ (I.blk k b hl).1 fun k' hl' _ e=>by
  obtain⟨b',eb'⟩:=bH.1 hl';have:=I.inj k' b' k b (I.jH M eb') hl e;subst this;exact hG hl'
 have hrho:∀k b,Lv S L s k b->ρ2 k=ρ1 k:=fun k b hl=>hmo.eq k (I.nmA M hl);have hbN:h'.next=(S r.length).h.next:=by rw[M.t.hN]
 refine⟨fun i rx q hi hrx hp=>?_,fun i hi=>?_,fun k=>?_,fun k i hi hw=>?_,fun k i hi hir hw hL=>?_,fun t=>?_,?_,?_,fun k b e=>?_,fun k b k' b' e e' hk=>?_,I.lt.trans p.lt,fun b hb hn=>?_,fun k hk=>?_,fun k b e hk=>?_⟩
 ·rcases hi with hi|hi
  ·exact .inl (I.cl i rx q hi hrx hp)
  ·subst hi;rw[M.hr]at hrx;simp only[ah]at hrx;subst hrx;exact .inl (M.pre q hp)
 ·rcases hi with hi|hi
  ·exact I.lN i hi
  ·rw[hi];exact jl
 ·rcases hs' k with⟨_,e⟩|⟨_,e⟩<;>rw[e]
  ·exact jl
  ·exact I.s0 k
 ·rcases hs' k with⟨hwj,e⟩|⟨_,e⟩<;>rw[e]at hi
  ·rcases jM.1 hi with x|x
   ·exact .inl (M.pre i (M.t.bound x M.hr (.inl ⟨hw,M.t.vh jl hwj⟩)))
   ·exact .inr x
  ·exact .inl (I.sl k i hi hw)
 ·rcases hs' k with⟨hwj,e⟩|⟨hwj,e⟩<;>rw[e]at hi
  ·rcases hL with hL|hL
   ·obtain⟨rx,hrx⟩:∃rx,r[i]?=some rx:=⟨_,aP hir⟩;exact after i hL rx hrx (M.t.bound (show j<i by omega) hrx (.inl ⟨hwj,M.t.vh hir hw⟩))
   ·omega
  ·rcases hL with hL|hL
   ·exact I.sr k i hi hir hw hL
   ·subst hL;rw[hw]at hwj;cases hwj
 ·by_cases hd:o.dst=some t
  ·have ht:t<n:=by have:=M.dst;rw[hd]at this;simpa[cA,aJ]using this
   refine .inl ⟨j,o, .inr rfl,M.ho,hd,fun i' o' hi' hlt ho' hd'=>?_,?_⟩
   ·rcases hi' with hi'|hi'
    ·obtain⟨rx,hrx⟩:∃rx,r[i']?=some rx:=⟨_,aP (I.lN i' hi')⟩;exact after i' hi' rx hrx (M.st.tmp j i' o o' rx t hlt M.ho ho' hrx (.inr (.inr ⟨hd',hd⟩)))
    ·omega
   ·rw[hd,yC (by rw[I.sz];exact ht)];exact VR.mo hmo2 (Lt.refl _) _ _ hu
  ·rw[xe hd];rcases I.tmv t with⟨i,o',q1,q2,q3,q4,q5⟩|⟨q1,q2⟩
   ·refine .inl ⟨i,o', .inl q1,q2,q3,fun i' o'' hi' hlt ho'=>?_,VR.mo hmo p.lt _ _ q5⟩;rcases hi' with hi'|hi'
    ·exact q4 i' o'' hi' hlt ho'
    ·subst hi';rw[M.ho]at ho';simp only[ah]at ho';rw[<-ho'];exact hd
   ·refine .inr ⟨fun i' o'' hi' ho'=>?_,VR.mo hmo p.lt _ _ q2⟩;rcases hi' with hi'|hi'
    ·exact q1 i' o'' hi' ho'
    ·subst hi';rw[M.ho]at ho';simp only[ah]at ho';rw[<-ho'];exact hd
 ·have:=I.sz;cases o.dst<;>simp[Act.put,this]
 ·have:=I.df;cases o.dst<;>simp[Act.put,this]
 ·rcases I.mL M e with⟨e1,_⟩|⟨hG,_,hl⟩
  ·obtain⟨_,_,b1,b2⟩:=p.rel.blk k b e1;exact⟨b1,b2.mo hmo2 (Lt.refl _) rfl⟩
  ·obtain⟨b1,b2⟩:=I.blk k b hl;rw[hrho k b hl];exact⟨aH b1 p.lt.size,b2.mo hmo p.lt (hframe k b hl hG)⟩
 ·have key : ∀ x y bx, h1.get x = some bx -> (G.live x \/ ((S j).h.next <= x /\ x < (S (j + 1)).h.next)) -> ∀ by', ¬ G.live y -> Lv S L s y by' -> ρ2 x = ρ2 y -> x = y := fun x y bx ex hx by' hy hly hxy => by
   rw[hrho y by' hly]at hxy;rcases hx with hx|hx
   ·obtain⟨b0,eb⟩:=bH.1 hx;have hlx:=I.jH M eb;rw[hrho x b0 hlx]at hxy;exact I.inj x b0 y by' hlx hly hxy
   ·rcases p.new x (by rw[M.sg.nx];exact hx.1) (aG ex)with q|⟨i,q1,q2,q3⟩
    ·have:=(I.blk y by' hly).1;omega
    ·exfalso;obtain⟨b0,eb⟩:=bH.1 q1;have:=I.inj i b0 y by' (I.jH M eb) hly (q3.symm.trans hxy)
     subst this;exact hy q1
  rcases I.mL M e with⟨e1,x1⟩|⟨hG,_,hl⟩<;>rcases I.mL M e' with⟨e1',x1'⟩|⟨hG',_,hl'⟩
  ·exact p.rel.inj k k' (aG e1) (aG e1') hk
  ·exact key k k' b e1 x1 b' hG' hl' hk
  ·exact(key k' k b' e1' x1' b hG hl hk.symm).symm
  ·rw[hrho k b hl,hrho k' b' hl']at hk;exact I.inj k b k' b' hl hl' hk
 ·rw[p.fr b (aH hb I.lt.size) fun k hl hlo hk=>?_,I.fr b hb hn];obtain⟨b0,eb⟩:=bH.1 hl;have hlv:=I.jH M eb;have hlow:h'.low<=k:=by
   have h2:=M.t.low M.hg M.f (show j+1<=r.length by omega) (ai _);rw[M.t.hN]at h2;exact aE h2 (M.sg.low k hl hlo)
  by_cases hk0:k<(S 0).h.next
  ·rw[I.rho k (.inl hk0)]at hk;refine hn k ?_ hlow hk;rcases hlv with⟨_,e⟩|⟨i,hi,a1,_⟩
   ·have g:=(M.t.gd M.hg M.f (s k) (I.s0 k)).2;rw[M.t.h0]at hk0⊢;exact g.good.back hk0 (aG e)
   ·have:=M.mono (aZ i) (cC (I.lN i hi));omega
  ·rcases I.new k b0 hlv (cq hk0)with q|⟨i,q1,q2,q3⟩
   ·omega
   ·exact hn i q1 q2 (q3.symm.trans hk)
 ·have m1:=M.mono (aZ j) aa;have m2:=M.mono (show j+1<=r.length by omega) (ai _);rw[p.rho k (by rw[M.sg.nx,M.sg.nx1];omega),I.rho k hk]
 ·rcases I.mL M e with⟨e1,x1⟩|⟨hG,_,hl⟩
  ·rcases x1 with x1|x1
   ·obtain⟨b0,eb⟩:=bH.1 x1;have hlv:=I.jH M eb;rw[hrho k b0 hlv];exact I.new k b0 hlv hk
   ·rcases p.new k (by rw[M.sg.nx];exact x1.1) (aG e1)with q|⟨i,q1,q2,q3⟩
    ·exact .inl (aE I.lt.size q)
    ·obtain⟨b0,eb⟩:=bH.1 q1;have hlv:=I.jH M eb;have hlow:h'.low<=i:=by
      have h2:=M.t.low M.hg M.f (show j+1<=r.length by omega) (ai _);rw[M.t.hN]at h2;exact aE h2 (M.sg.low i q1 q2)
     rw[q3];by_cases hi0:i<(S 0).h.next
     ·refine .inr ⟨i,?_,hlow,I.rho i (.inl hi0)⟩;rcases hlv with⟨_,e⟩|⟨i',hi',a1,_⟩
      ·have g:=(M.t.gd M.hg M.f (s i) (I.s0 i)).2;rw[M.t.h0]at hi0⊢;exact g.good.back hi0 (aG e)
      ·have:=M.mono (aZ i') (cC (I.lN i' hi'));omega
     ·exact I.new i b0 hlv (cq hi0)
  ·rw[hrho k b hl];exact I.new k b hl hk
end CI
end
end Go.Proofs.YtepdigdijecgpaaGreat
