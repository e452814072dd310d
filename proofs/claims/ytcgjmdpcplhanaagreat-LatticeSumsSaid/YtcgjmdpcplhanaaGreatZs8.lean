/- Lemmas for the law: E13 Q1 Q2 Q3 Q4 Q5 Q6 Q7 Q8 Q9 Q10 -/
import Derived.Great.BuildSlice
import Derived.Lib.SliceRun
import Derived.Laws.Slices
import Derived.Lib.AppendZerosOnto
import Derived.Test.YtcgjmdpcplhanaaGreatZs7
namespace Go.Proofs.YtcgjmdpcplhanaaGreat
section
abbrev zV:=@List.all_append
abbrev gg:=@Nat.le_of_ble_eq_true
abbrev lp:=@Option.bind_eq_some_iff
abbrev zU:=@Bool.false_eq_true
abbrev zT:=@Array.eq_empty_of_size_eq_zero
abbrev EH:=@Array.foldl_toList
theorem Jw{p q:Prop}(h:q)(f:Wq q->p:=by(intro hW;((first|(refine aLs rfl rfl rfl rfl ?_ ?_;(focus(apply bz;(conv=>lhs;whnf);(first|done|exact rfl|(apply br;(first|(apply aD;omega)|(apply aG;omega)|assumption|(simp;done)))))))|refine aLw rfl rfl rfl rfl cI Kf ?_));exact hW.out)):p:=f ⟨h⟩
theorem rG{p q:Prop}(h:q)(f:Wq q->p:=by(intro hW;(refine Jw ?_;refine mu ?_;refine aQ ?_);exact hW.out)):p:=f ⟨h⟩
theorem nD{p q:Prop}(h:q)(f:Wq q->p:=by(intro hW;(refine aL1 rfl rfl rfl Kf ?_);exact hW.out)):p:=f ⟨h⟩
theorem zs97{p q:Prop}(h:q)(f:Wq q->p:=by(intro hW;((first|(refine aLs rfl rfl rfl rfl ?_ ?_;(focus(apply bz;(conv=>lhs;whnf);(first|done|exact rfl|(apply br;(first|(apply aD;omega)|(apply aG;omega)|assumption|(simp;done)))))))|refine aLw rfl rfl rfl rfl cI vM ?_));exact hW.out)):p:=f ⟨h⟩
theorem Rg{p q:Prop}(h:q)(f:Wq q->p:=by(intro hW;(refine cE ?_;refine nD ?_;refine gO ?_;refine zs97 ?_;refine rG ?_);exact hW.out)):p:=f ⟨h⟩
theorem zs99{p q:Prop}(h:q)(f:Wq q->p:=by(intro hW;((refine lQ rfl rfl rfl rfl ck ck aX ai pR ah ah zb60 cj sK ?_));exact hW.out)):p:=f ⟨h⟩
theorem Rf{p q:Prop}(h:q)(f:Wq q->p:=by(intro hW;(refine bT ?_;refine my ?_;refine zs99 ?_;refine cT ?_);exact hW.out)):p:=f ⟨h⟩
theorem lT{p q:Prop}(h:q)(f:Wq q->p:=by(intro hW;(refine zs4 ?_;refine nK ?_);exact hW.out)):p:=f ⟨h⟩
theorem zs222{p q:Prop}(h:q)(f:Wq q->p:=by(intro hW;(refine bT ?_;refine lT ?_;refine zs5 ?_;refine pQ ?_;refine aQ ?_);exact hW.out)):p:=f ⟨h⟩
theorem mP{p q:Prop}(h:q)(f:Wq q->p:=by(intro hW;(refine zs2 ?_;refine zs222 ?_);exact hW.out)):p:=f ⟨h⟩
theorem Em{p:Prop}(h:p:=by unfold at';rw[an rfl]):p:=h
theorem Bu{p:Prop}(h:p:=by rw[ho,hy];simp[Op.operands]):p:=h
theorem zb39{p:Prop}(h:p:=by(apply Cm;(exact rfl);(focus((apply aE;(conv=>lhs;whnf);(first|done|exact rfl))));(exact rfl);(focus((first|exact fail)));(exact rfl))):p:=h
theorem Dp{p q:Prop}(h:q)(f:Wq q->p:=by(intro hW;(refine gar ?_;refine zs3 ?_;refine uu ?_;refine aQ ?_);exact hW.out)):p:=f ⟨h⟩
theorem De{p q:Prop}(h:q)(f:Wq q->p:=by(intro hW;(refine ll ?_;refine pX ?_;refine zs6 ?_;refine cT ?_);exact hW.out)):p:=f ⟨h⟩
theorem JJ{p q:Prop}(h:q)(f:Wq q->p:=by(intro hW;(refine bT ?_;refine nK ?_;refine lT ?_;refine De ?_);exact hW.out)):p:=f ⟨h⟩
end
section
open Go.RowKit
namespace DW
def nrw(m:List (List Int)):D:=if m.all (fun l=>l.all (inb 1000000000000000))=true then .tp [dM m,.sc (.bool true)]else .tp [dM [],.sc (.bool false)]
theorem MY{m:List (List Int)}{l:List Int}{z:Int}(hl:l∈m)(hz:z∈l)(h:inb 1000000000000000 z=false):nrw m= .tp [dM [],.sc (.bool false)]:=by
 unfold nrw;rw[aj];intro h2;have:=cW.1 (cW.1 h2 l hl) z hz;rw[h]at this;cases this
theorem kP{L z:Int}:inb L z=true↔-L<=z/\z<=L:=by unfold inb;simp
theorem Nd(l:List Int)(x:Int):(l++[x]).map zI=l.map zI++[zI x]:=by rw[cL];rfl
set_option maxRecDepth 20000
set_option maxHeartbeats 1000000
theorem Vh(m:List (List Int))(hm:m.length<=1000000)(hm2:∀l∈m,l.length<=1000000)(hm3:∀l∈m,∀z∈l,-9223372036854775808<=z/\z<=9223372036854775807):Fn Tryz.prog 23 [dM m] (dW m):=by
 refine bg Tryz.func23 ah rfl rfl rfl fun X0=>?_;simp only[aP];refine mO ?_;refine lS ?_;refine av (dz (t:=3) (k:=1) (T:=113) (wd:=1) fF rfl rfl cj) ?_;refine av (uq (sl':=[(0,.ls 1 (m.map dI)),(3,.own 1),(4,zI 0)]) aF rfl) ?_;refine bh (fun r s=>∃k:Nat,k<=m.length/\r=m.length-k/\s=⟨[(0,.ls 1 (m.map dI)),(3,.own 1),(4,zI k)],[(1,⟨113,1,(m.take k).map dZ⟩)]⟩) (m:=m.length) ⟨0,aO _,rfl,rfl⟩ fun r s hs=>?_;obtain⟨k,hk,rfl,rfl⟩:=hs;refine rI ?_;refine zs2 ?_;by_cases hkm:k<m.length
 ·obtain⟨l,hl⟩:∃l,m[k]?=some l:=⟨_,aV hkm⟩;have hl2:=hm2 l (bj hl);refine rA oM (aD cU) ?_;refine lS ?_;refine av (dz (t:=5) (k:=2) (T:=62) (wd:=2) fF rfl rfl cj) ?_;refine av (uq (sl':=[(0,.ls 1 (m.map dI)),(3,.own 1),(4,zI k),(5,.own 2),(6,zI 0)]) aF rfl) ?_;refine bh (fun r s=>∃j:Nat,j<=l.length/\r=l.length-j/\s=⟨[(0,.ls 1 (m.map dI)),(3,.own 1),(4,zI k),(5,.own 2),(6,zI j)],[(2,⟨62,2,(l.take j).map .nm⟩),(1,⟨113,1,(m.take k).map dZ⟩)]⟩) (m:=l.length) ⟨0,aO _,rfl,rfl⟩ fun r s hs=>?_;obtain⟨j,hj,rfl,rfl⟩:=hs;refine mP ?_;refine zs2 ?_;by_cases hjl:j<l.length
  ·obtain⟨x,hx⟩:∃x,l[j]?=some x:=⟨_,aV hjl⟩;have HO:=yM x (hm3 l (bj hl) x (bj hx));refine rA oM (aD cU) ?_;refine zs2 ?_;refine bT ?_;refine lT ?_;refine lT ?_;refine ll ?_;refine my ?_;refine zs16 ?_;refine cn ?_;refine fE ?_;simp only[nx];refine⟨l.length-(j+1),_,by omega,uq (sl':=[(0,.ls 1 (m.map dI)),(3,.own 1),(4,zI k),(5,.own 2),(6,zI (j+1:Nat))]) aF rfl,j+1,by omega,rfl,?_⟩;rw[bF hx,cL];rfl
  ·refine sH oM (aG cU) ?_;obtain rfl:j=l.length:=by omega
   refine zs2 ?_;refine av (az (k:=2) aX bq bp) ?_;refine bT ?_;refine my ?_;refine zs16 ?_;refine cn ?_;refine fE ?_;simp only[nx];refine⟨m.length-(k+1),_,by omega,uq (sl':=[(0,.ls 1 (m.map dI)),(3,.own 1),(4,zI (k+1:Nat))]) aF rfl,k+1,by omega,rfl,?_⟩;rw[bF hl,cL,gf];rfl
 ·refine sH oM (aG cU) ?_;obtain rfl:k=m.length:=by omega
  refine zs2 ?_;refine av (az (k:=1) aX bq bp) ?_;refine ji ?_;rw[gf];exact⟨_,Sh.refl,.one (.tmp 2) _ rfl (.tmp 2 rfl)⟩
theorem FN(m:List (List Int))(hm:m.length<=1000000)(hm2:∀l∈m,l.length<=1000000)(hm3:∀l∈m,∀z∈l,(hd z.natAbs).length<=199999999):Fn Tryz.prog 77 [dW m] (nrw m):=by
 refine bg Tryz.func77 ah rfl rfl rfl fun X0=>?_;simp only[aP];refine zs2 ?_;refine Dp ?_;refine lS ?_;refine av (dz (t:=4) (k:=4) (T:=40) (wd:=1) fF rfl rfl cj) ?_
 (refine av (ay (sl':=[(0,dW m),(4,.own 4),(5,zI 0)]) (ow':=[(4,⟨40,1,[]⟩)]) aF aH) ?_)
 refine bh (fun r s=>∃k,k<=m.length/\r=m.length-k/\(m.take k).all (fun l=>l.all (inb 1000000000000000))=true/\s=⟨[(0,dW m),(4,.own 4),(5,zI (k:Nat))],[(4,⟨40,1,(m.take k).map dI⟩)]⟩) (m:=m.length) ⟨0,aO _,rfl,rfl,rfl⟩ fun r s hs=>?_;obtain⟨k,hk,rfl,hall,rfl⟩:=hs;by_cases hkl:k<m.length
 ·obtain⟨l,hl⟩:=get_some hkl;have hll:=hm2 l (bj hl);refine iw ?_;refine mT ?_;refine iA ?_;refine av (dz (t:=6) (k:=6) (T:=3) (wd:=1) fF rfl rfl cj) ?_
  (refine av (ay (sl':=[(0,dW m),(4,.own 4),(5,zI (k:Nat)),(6,.own 6),(7,zI 0)]) (ow':=[(6,⟨3,1,[]⟩),(4,⟨40,1,(m.take k).map dI⟩)]) aF aH) ?_)
  refine bh (fun r s=>∃j,j<=l.length/\r=l.length-j/\(l.take j).all (inb 1000000000000000)=true/\s=⟨[(0,dW m),(4,.own 4),(5,zI (k:Nat)),(6,.own 6),(7,zI (j:Nat))],[(6,⟨3,1,(l.take j).map zI⟩),(4,⟨40,1,(m.take k).map dI⟩)]⟩) (m:=l.length) ⟨0,aO _,rfl,rfl,rfl⟩ fun r s hs=>?_;obtain⟨j,hj,rfl,hall2,rfl⟩:=hs;by_cases hjl:j<l.length
  ·obtain⟨z,hz⟩:=get_some hjl;have SM:=TD z (hm3 l (bj hl) z (bj hz));by_cases hr: -9223372036854775808<=z/\z<=9223372036854775807
   ·rw[show smD z= .tp [zI z,.sc (.bool true)]from an hr]at SM;have FITS:=NQ z;by_cases hf:inb 1000000000000000 z=true
    ·rw[hf]at FITS;refine mP ?_;refine bA ?_;refine JJ ?_;refine zs2 ?_;refine Rg ?_;refine bR ?_;refine Rf ?_;refine iQ ?_;simp only[nx,inB];exact⟨l.length-(j+1),_,by omega,(ay (sl':=[(0,dW m),(4,.own 4),(5,zI (k:Nat)),(6,.own 6),(7,zI ((j+1:Nat):Int))]) (ow':=[(6,⟨3,1,(l.take j).map zI++[zI z]⟩),(4,⟨40,1,(m.take k).map dI⟩)]) aF aH),j+1,by omega,rfl,by rw[bF hz,zV,hall2];simp[hf],by rw[bF hz,Nd]⟩
    ·have hf':inb 1000000000000000 z=false:=by simpa using hf
     rw[hf']at FITS;have EC:=MY (bj hl) (bj hz) hf';refine mP ?_;refine bA ?_;refine JJ ?_;refine zs2 ?_;refine Rg ?_;refine bA ?_;refine Dp ?_;refine zs2 ?_;rw[EC];exact⟨_,ye (t:=2) (wd:=1) fF,.two (.tmp 2) (.tmp 3) _ _ rfl (.tmp 2 rfl) (.tmp 3 rfl)⟩
   ·rw[show smD z= .tp [zI 0,.sc (.bool false)]from aj hr]at SM;have hf':inb 1000000000000000 z=false:=by
     cases h:inb 1000000000000000 z with
     |false=>rfl
     |true=>have:=kP.1 h;omega
    have EC:=MY (bj hl) (bj hz) hf';refine mP ?_;refine bA ?_;refine JJ ?_;refine kX ?_;refine nD ?_;refine gO ?_;(first|(refine aLs rfl rfl rfl rfl ?_ ?_;(focus(apply bz;(conv=>lhs;whnf);(first|done|exact rfl|(apply br;(first|(apply aD;omega)|(apply aG;omega)|assumption|(simp;done)))))))|refine aLw rfl rfl rfl rfl cI zb39 ?_);refine rG ?_;refine bA ?_;refine Dp ?_;refine zs2 ?_;rw[EC];exact⟨_,ye (t:=2) (wd:=1) fF,.two (.tmp 2) (.tmp 3) _ _ rfl (.tmp 2 rfl) (.tmp 3 rfl)⟩
  ·obtain rfl:j=l.length:=by omega
   rw[gf]at hall2;rw[gf];refine mP ?_;refine bR ?_;refine av (az (k:=6) aX bq bp) ?_;refine Rf ?_;refine zs2 ?_;refine fE ?_;simp only[nx,inB];exact⟨m.length-(k+1),_,by omega,(ay (sl':=[(0,dW m),(4,.own 4),(5,zI ((k+1:Nat):Int))]) (ow':=[(4,⟨40,1,(m.take k).map dI++[dI l]⟩)]) aF aH),k+1,by omega,rfl,by rw[bF hl,zV,hall];simp only[qH,List.all_nil,hall2,Bool.and_true],by rw[bF hl,cL];rfl⟩
 ·obtain rfl:k=m.length:=by omega
  rw[gf]at hall;rw[gf];have EC:nrw m= .tp [dM m,.sc (.bool true)]:=an hall;refine kY ?_;refine av (az (k:=4) aX bq bp) ?_;refine JK ?_;refine zs2 ?_;rw[EC];exact⟨_,Sh.refl,.two (.tmp 2) (.tmp 3) _ _ rfl (.tmp 2 rfl) (.tmp 3 rfl)⟩
end DW
end
section
open Go.RowKit
namespace CI
inductive C where
 |any
 |sc (v:Value)
 |nm (z:Int)
 |sl (k off n c:Nat) (x:Bool)
 |pt (k off:Nat)
 |fn (f:FuncId) (caps:List C)
 |ag (l:List C)
 |tp (l:List C)
 |yl (k:Nat)
 deriving Inhabited
inductive T(α:Type) where
 |e
 |n (v:Option α) (l r:T α)
def T.get{α:Type}:T α->Nat->Option α
 | .e,_=>none
 | .n v l r,k=>match k with
  |0=>v
  |k+1=>match k%2 with
   |0=>l.get (k/2)
   |_+1=>r.get (k/2)
def T.put{α:Type}:Nat->T α->Nat->Option α->T α
 |0,t,_,_=>t
 |f+1,t,k,x=>
  match t with
  | .e=>match k with
   |0=>.n x .e .e
   |k+1=>match k%2 with
    |0=>.n none (put f .e (k/2) x) .e
    |_+1=>.n none .e (put f .e (k/2) x)
  | .n v l r=>match k with
   |0=>.n x l r
   |k+1=>match k%2 with
    |0=>.n v (put f l (k/2) x) r
    |_+1=>.n v l (put f r (k/2) x)
inductive CO where
 |t (n:Nat)
 |c (x:C)
 deriving Inhabited
inductive X where
 |mv (x:CO)
 |pick (c a b:CO)
 |alloc (T:Nat) (z:List C)
 |box (T:Nat) (x:CO)
 |build (z:List C) (ps:List (Nat×Nat×CO))
 |bsl (T w len:Nat) (z:List C) (ps:List (Nat×Nat×CO))
 |load (row:Bool) (w:Nat) (x:CO)
 |store (w:Nat) (a x:CO)
 |bin (op:BinOp) (x y:CO)
 |beq (ng:Bool) (x y:CO)
 |snil (ng:Bool) (x y:CO)
 |un (op:UnOp) (x:CO)
 |conv (k:IntKind) (x:CO)
 |mkf (f:FuncId) (cs:List CO)
 |mks (T w bytes:Nat) (z:List C) (l c:CO)
 |slc (w:Nat) (x:CO) (lo hi mx:Option CO)
 |fa (off:Nat) (x:CO)
 |fd (row:Bool) (off w:Nat) (x:CO)
 |ia (w:Nat) (len:Option Nat) (x i:CO)
 |ix (row:Bool) (w len:Nat) (x i:CO)
 |sx (x i:CO)
 |ext (x:CO) (i:Nat)
 |nc (x:CO)
 |len (str:Bool) (x:CO)
 |mnx (gt:Bool) (x y:CO)
 |app (T w:Nat) (x y:CO)
 |appz (T:Nat) (z:List C) (x n:CO)
 |cap (x:CO)
 |bad
 |cal (f:CO) (args:List CO)
 deriving Inhabited
structure RO where
 dst:Option Nat
 g:Option (Nat×Bool)
 x:X
 pre:Nat
 deriving Inhabited
inductive CC where
 |skip
 |ret
 |exit (id:Nat)
 |seq (a b:CC)
 |cond (c:CO) (a b:CC)
 |block (id:Nat) (c:CC)
 |loop (c:CC)
 |rng (f:CO) (ps:List Nat) (assign body:CC)
 |reg (draw:Bool) (ops:List RO)
 deriving Inhabited
inductive Ex where
 |norm
 |ret
 |exit (id:Nat)
 deriving Inhabited
inductive LS where|ready|busy|done|wD
inductive B where
 |cells (T:Nat) (l:List C)
 |loop (st:LS) (pend:Ex) (tm:T C) (ps:List Nat) (assign body:CC) (defers:Nat)
 |defd (isOpen:Bool)
structure H where
 next:Nat
 low:Nat
 forb:List (Nat×Nat)
 t:T B
def eI(k:Nat):List (Nat×Nat)->Bool
 |[]=>false
 |(a,b)::l=>match Nat.ble a k with
  |true=>match Nat.blt k b with
   |true=>true
   |false=>eI k l
  |false=>eI k l
def H.get(h:H)(k:Nat):Option B:=
 match eI k h.forb with
 |true=>none
 |false=>h.t.get k
def H.set(h:H)(k:Nat)(b:Option B):H:=⟨h.next,(match Nat.blt k h.low with|true=>k|false=>h.low),h.forb,T.put 24 h.t k b⟩
def H.new(h:H)(b:B):Option H:=match Nat.blt h.next 1000000 with
 |true=>some ⟨h.next+1,h.low,h.forb,T.put 24 h.t h.next (some b)⟩
 |false=>none
def C.wid:C->Nat
 | .nm _=>2
 | .sc _=>1
 | .sl ..=>1
 | .pt ..=>1
 | .fn ..=>1
 | .yl _=>1
 |_=>0
def ET:List C->Nat
 |[]=>0
 |c::l=>c.wid+ET l
def C.okP:C->Bool
 | .nm _=>true
 | .sc (.int .u32 _)=>false
 | .sc _=>true
 | .sl ..=>true
 | .pt ..=>true
 | .fn ..=>true
 | .yl _=>true
 |_=>false
def C.flat:C->Option (List C)
 | .ag l=>some l
 |c=>match c.okP with|true=>some [c]|false=>none
def kD(row:Bool)(l:List C):Option C:=
 match row with
 |true=>match l with
  |[.nm z]=>some (.nm z)
  |l=>some (.ag l)
 |false=>match l with
  |[.nm _]=>none
  |[c]=>some c
  |_=>none
def vw:List C->Nat->Option (List C)
 |l,0=>some l
 |[],_+1=>none
 |c::l,off+1=>match Nat.ble c.wid (off+1)with
  |true=>vw l (off+1-c.wid)
  |false=>none
def uR:List C->Nat->Option (List C)
 |_,0=>some []
 |[],_+1=>none
 |c::l,n+1=>match Nat.ble c.wid (n+1)with
  |true=>(uR l (n+1-c.wid)).map (c::·)
  |false=>none
def rf(l:List C)(off w:Nat):Option (List C):=(vw l off).bind (uR · w)
def BV(l:List C)(off w:Nat)(new:List C):Option (List C):=
 (uR l off).bind fun a=>(vw l (off+w)).map fun b=>a++new++b
def GY:C->Option Int
 | .nm z=>some z
 | .ag [.sc (.bool false),.sc (.slice none 0 0)]=>some 0
 |_=>none
def sA(l:List C):List (Nat×Nat×C)->Option (List C)
 |[]=>some l
 |(off,w,c)::ps=>c.flat.bind fun p=>match Nat.beq (ET p) w with
  |true=>(BV l off w p).bind (sA · ps)
  |false=>none
def og(z:List C):Nat->List C
 |0=>[]
 |n+1=>z++og z n
def ikB:IntKind->IntKind->Bool
 | .i8,.i8| .i16,.i16| .i32,.i32| .i64,.i64| .u8,.u8| .u16,.u16| .u32,.u32| .u64,.u64=>true
 |_,_=>false
def KH:C->Option Bool
 | .sc (.slice none _ _)=>some true
 | .sl ..=>some false
 |_=>none
def binZ(op:BinOp)(k:IntKind)(p q:Int):Option Value:=
 match op with
 | .add=>some (.int k (k.wrap (p+q)))
 | .sub=>some (.int k (k.wrap (p-q)))
 | .mul=>some (.int k (k.wrap (p*q)))
 | .quo=>match q with|0=>none|_=>some (.int k (k.wrap (p.tdiv q)))
 | .rem=>match q with|0=>none|_=>some (.int k (p.tmod q))
 | .eql=>some (.bool (p==q))
 | .neq=>some (.bool (p !=q))
 | .lss=>some (.bool (p<q))
 | .leq=>some (.bool (p<=q))
 | .gtr=>some (.bool (p>q))
 | .geq=>some (.bool (p>=q))
 |_=>none
def isNeg(q:Int):Bool:=match q with| .negSucc _=>true|_=>false
def bin(op:BinOp)(a b:C):Option C:=
 match a,b with
 | .sc (.int k p),.sc (.int k' q)=>
  match op with
  | .shl=>match isNeg q with|true=>none|false=>some (.sc (.int k (k.wrap (p*2^(min q.toNat k.bits)))))
  | .shr=>match isNeg q with|true=>none|false=>some (.sc (.int k (p.fdiv (2^(min q.toNat k.bits)))))
  |op=>match ikB k k' with
   |true=>(binZ op k p q).map .sc
   |false=>none
 |_,_=>none
def beqC(ng:Bool)(a b:C):Option C:=
 match a,b with
 | .sc (.bool p),.sc (.bool q)=>some (.sc (.bool (match ng with|true=>!(p==q)|false=>p==q)))
 |_,_=>none
def Kz(ng:Bool)(a b:C):Option C:=
 match KH a,KH b with
 |some true,some y=>some (.sc (.bool (match ng with|true=>!y|false=>y)))
 |some false,some true=>some (.sc (.bool ng))
 |_,_=>none
def un(op:UnOp)(a:C):Option C:=
 match op,a with
 | .not,.sc (.bool b)=>some (.sc (.bool !b))
 | .neg,.sc (.int k p)=>some (.sc (.int k (k.wrap (0-p))))
 |_,_=>none
def ofN(n:Nat):C:=.sc (.int .i64 n)
def ju:C->Option Nat
 | .sc (.int _ (.ofNat n))=>some n
 |_=>none
abbrev Tm:=T C
def CO.ev(tm:Tm):CO->C
 |CO.t n=>match T.get tm n with|some y=>y|none=>C.any
 |CO.c x=>x
def mA(tm:Tm)(d:Nat):Option CO->Option Nat
 |none=>some d
 |some x=>ju (x.ev tm)
def parts(tm:Tm):List (Nat×Nat×CO)->List (Nat×Nat×C)
 |[]=>[]
 |(o,w,x)::l=>(o,w,x.ev tm)::parts tm l
def KA(w off l m:Nat)(exact:Bool):Option Nat:=
 match l with
 |0=>some off
 |_=>match Nat.beq m l with
  |true=>match exact with
   |true=>some off
   |false=>none
  |false=>match w with
   |0=>none
   |_=>some (off+l*w)
def KX(mx:Option CO)(e:Bool):Bool:=match mx with|none=>e|some _=>true
def xT(x:X)(tm:Tm)(next:Nat):Option (C×Option B):=
 match x with
 | .mv x=>some (x.ev tm,none)
 | .pick c a b=>match c.ev tm with
  | .sc (.bool true)=>some (a.ev tm,none)
  | .sc (.bool false)=>some (b.ev tm,none)
  |_=>none
 | .alloc T z=>some (.pt next 0,some (.cells T z))
 | .box T x=>(x.ev tm).flat.map fun p=>(.pt next 0,some (.cells T p))
 | .build z ps=>(sA z (parts tm ps)).map fun l=>(.ag l,none)
 | .bsl T w len z ps=>(sA (og z len) (parts tm ps)).map fun l=>(.sl next 0 len len true,some (.cells T l))
 | .bin op x y=>(bin op (x.ev tm) (y.ev tm)).map (·,none)
 | .beq ng x y=>(beqC ng (x.ev tm) (y.ev tm)).map (·,none)
 | .snil ng x y=>(Kz ng (x.ev tm) (y.ev tm)).map (·,none)
 | .un op x=>(un op (x.ev tm)).map (·,none)
 | .conv k x=>match x.ev tm with
  | .sc (.int _ n)=>some (.sc (.int k (k.wrap n)),none)
  |_=>none
 | .mkf f cs=>some (.fn f (cs.map (·.ev tm)),none)
 | .mks T w bytes z l c=>match ju (l.ev tm),ju (c.ev tm)with
  |some l,some c=>match Nat.ble l c,Nat.ble c 1000000 with
   |true,true=>some (.sl next 0 l c true,some (.cells T (og z c)))
   |_,_=>none
  |_,_=>none
 | .slc w x lo hi mx=>match x.ev tm with
  | .sl k off n c e=>
   match mA tm 0 lo,mA tm n hi,mA tm c mx with
   |some l,some h,some m=>match Nat.ble m c,Nat.ble h m,Nat.ble l h with
    |true,true,true=>(KA w off l m (KX mx e)).map fun o=>(.sl k o (h-l) (m-l) (KX mx e),none)
    |_,_,_=>none
   |_,_,_=>none
  | .sc (.slice none 0 0)=>match mA tm 0 hi,mA tm 0 lo,mA tm 0 mx with
   |some 0,some 0,some 0=>some (.sc (.slice none 0 0),none)
   |_,_,_=>none
  |_=>none
 | .fa off x=>match x.ev tm with
  | .pt k o=>some (.pt k (o+off),none)
  |_=>none
 | .fd row off w x=>match x.ev tm with
  | .ag l=>((rf l off w).bind (kD row)).map (·,none)
  |_=>none
 | .ia w len x i=>match ju (i.ev tm)with
  |some i=>match x.ev tm,len with
   | .sl k off n _ _,none=>match Nat.blt i n with
    |true=>some (.pt k (off+i*w),none)
    |false=>none
   | .pt k off,some n=>match Nat.blt i n with
    |true=>some (.pt k (off+i*w),none)
    |false=>none
   |_,_=>none
  |none=>none
 | .ix row w len x i=>match ju (i.ev tm),x.ev tm with
  |some i,.ag l=>match Nat.blt i len with
   |true=>((rf l (i*w) w).bind (kD row)).map (·,none)
   |false=>none
  |_,_=>none
 | .sx x i=>match ju (i.ev tm),x.ev tm with
  |some i,.sc (.string s)=>s[i]?.map fun b=>(.sc (.int .u8 b.toNat),none)
  |_,_=>none
 | .ext x i=>match x.ev tm with
  | .tp l=>l[i]?.map (·,none)
  |_=>none
 | .nc x=>match x.ev tm with
  | .pt k o=>some (.pt k o,none)
  | .fn f c=>some (.fn f c,none)
  | .yl k=>some (.yl k,none)
  |_=>none
 | .len str x=>match str with
  |false=>match x.ev tm with
   | .sl _ _ n _ _=>some (ofN n,none)
   | .sc (.slice none n _)=>some (ofN n,none)
   |_=>none
  |true=>match x.ev tm with
   | .sc (.string s)=>some (ofN s.size,none)
   |_=>none
 | .cap x=>match x.ev tm with
  | .sl _ _ _ c true=>some (ofN c,none)
  | .sc (.slice none _ c)=>some (ofN c,none)
  |_=>none
 | .mnx gt x y=>match x.ev tm,y.ev tm with
  | .sc (.int k p),.sc (.int _ q)=>match gt with
   |true=>some (.sc (.int k (if q>p then q else p)),none)
   |false=>some (.sc (.int k (if q<p then q else p)),none)
  |_,_=>none
 |_=>none
def X.isT:X->Bool
 | .load ..=>false
 | .store ..=>false
 | .app ..=>false
 | .appz ..=>false
 | .cal ..=>false
 |_=>true
def H.oH(h:H):Option B->Option H
 |none=>some h
 |some b=>h.new b
def Ae(row:Bool)(w:Nat)(a:C)(h:H):Option C:=
 match a with
 | .pt k off=>match h.get k with
  |some (.cells _ l)=>(rf l off w).bind (kD row)
  |_=>none
 |_=>none
def wb(w:Nat)(a v:C)(h:H):Option H:=
 match a with
 | .pt k off=>match h.get k with
  |some (.cells T l)=>v.flat.bind fun p=>match Nat.beq (ET p) w with
   |true=>(BV l off w p).map fun l'=>h.set k (some (.cells T l'))
   |false=>none
  |_=>none
 |_=>none
def slW(w:Nat)(a:C)(h:H):Option (List C×Nat):=
 match a with
 | .sc (.slice none 0 0)=>some ([],0)
 | .sl k off n _ _=>match h.get k with
  |some (.cells _ l)=>(rf l off (n*w)).map (·,n)
  |_=>none
 |_=>none
def DK(T w:Nat)(a:C)(new:List C)(m:Nat)(h:H):Option (C×H):=
 match m with
 |0=>match a with
  | .sc (.slice none 0 0)=>some (a,h)
  | .sl .. =>some (a,h)
  |_=>none
 |_=>match a with
  | .sc (.slice none 0 0)=>match Nat.ble m 1000000 with
   |true=>(h.new (.cells T new)).map fun h'=>(.sl h.next 0 m m false,h')
   |false=>none
  | .sl k off n c e=>match h.get k with
   |some (.cells T' l)=>match Nat.beq T' T with
    |false=>none
    |true=>match Nat.ble (n+m) c with
     |true=>(BV l (off+n*w) (m*w) new).map fun l'=>(.sl k off (n+m) c e,h.set k (some (.cells T' l')))
     |false=>match Nat.ble (n+m) 1000000 with
      |true=>(rf l off (n*w)).bind fun old=>match e with
       |true=>(h.new (.cells T' (old++new))).map fun h'=>(.sl h.next 0 (n+m) (n+m) false,h')
       |false=>match off with
        |0=>((h.set k none).new (.cells T' (old++new))).map fun h'=>(.sl h.next 0 (n+m) (n+m) false,h')
        |_=>none
      |false=>none
   |_=>none
  |_=>none
def Kq(T w:Nat)(a b:C)(h:H):Option (C×H):=(slW w b h).bind fun (new,m)=>DK T w a new m h
abbrev Orc:=List C->Option C
inductive RV where
 |tmp (t:Nat)
 |cell (t:Nat) (row:Bool) (w:Nat)
 deriving Inhabited
structure F where
 ntmps:Nat
 body:CC
 res:List RV
structure Env where
 fns:FuncId->Option F
 orc:FuncId->Option Orc
def setArgs:Nat->Nat->List C->Tm->Tm
 |_,_,[],tm=>tm
 |f,k,c::l,tm=>setArgs f (k+1) l (T.put f tm k (some c))
def rU:List Nat->List C->Tm->Option Tm
 |[],[],tm=>some tm
 |t::ts,c::cs,tm=>rU ts cs (T.put 24 tm t (some c))
 |_,_,_=>none
inductive Task where
 |code (c:CC) (tm:Tm) (ds:List Nat) (rd:Option Nat) (h:H)
 |call (f:C) (args:List C) (h:H)
inductive Out where
 |code (e:Ex) (tm:Tm) (ds:List Nat) (h:H)
 |val (c:C) (h:H)
abbrev Rec:=Task->Option Out
def lD(tm:Tm)(dst:Option Nat)(c:C):Tm:=
 match dst with
 |some t=>T.put 24 tm t (some c)
 |none=>tm
def lY(o:RO)(tm:Tm):Option Bool:=
 match o.g with
 |none=>some true
 |some (t,b)=>match tm.get t with
  |some (.sc (.bool c))=>some (match b with|true=>c|false=>!c)
  |_=>none
def xR(rec:Rec)(x:X)(tm:Tm)(h:H):Option (C×H):=
 match x with
 | .load row w a=>(Ae row w (a.ev tm) h).map (·,h)
 | .store w a v=>(wb w (a.ev tm) (v.ev tm) h).map (.any,·)
 | .app T w a b=>Kq T w (a.ev tm) (b.ev tm) h
 | .appz T z a n=>match a.ev tm,ju (n.ev tm)with
  | .sc (.slice none 0 0),some (m+1)=>match Nat.ble (m+1) 1000000 with
   |true=>(h.new (.cells T (og z (m+1)))).map fun h'=>(.sl h.next 0 (m+1) (m+1) false,h')
   |false=>none
  |_,_=>none
 | .cal f args=>match rec (.call (f.ev tm) (args.map (·.ev tm)) h)with
  |some (.val c h)=>some (c,h)
  |_=>none
 |_=>none
def Kr(rec:Rec)(x:X)(tm:Tm)(h:H):Option (C×H):=
 match x.isT with
 |true=>(xT x tm h.next).bind fun (c,b)=>(h.oH b).map fun h=>(c,h)
 |false=>xR rec x tm h
def uZ(rec:Rec):List RO->Tm->H->Option (Tm×H)
 |[],tm,h=>some (tm,h)
 |o::l,tm,h=>match lY o tm with
  |some true=>match Kr rec o.x tm h with
   |some (c,h)=>uZ rec l (lD tm o.dst c) h
   |none=>none
  |some false=>uZ rec l (lD tm o.dst .any) h
  |none=>none
def lk(pre:Nat):List (Nat×Nat×Nat)->List (Nat×Nat)->List (Nat×Nat)
 |[],f=>f
 |(i,a,b)::l,f=>match pre.testBit i with
  |true=>lk pre l f
  |false=>(a,b)::lk pre l f
def vC(pre:Nat)(wr:Bool):List (Nat×Bool)->Bool
 |[]=>false
 |(i,w)::l=>match(w||wr)&& !pre.testBit i with
  |true=>true
  |false=>vC pre wr l
def kV(rec:Rec):List RO->Nat->List (Nat×Nat×Nat)->List (Nat×Bool)->Tm->H->Option (Tm×H)
 |[],_,_,_,tm,h=>some (tm,h)
 |o::l,j,iv,rw,tm,h=>match lY o tm with
  |some true=>match o.x.isT with
   |true=>match xT o.x tm h.next with
    |some (c,none)=>kV rec l (j+1) iv rw (lD tm o.dst c) h
    |some (c,some b)=>match h.new b with
     |some h'=>kV rec l (j+1) ((j,h.next,h'.next)::iv) rw (lD tm o.dst c) h'
     |none=>none
    |none=>none
   |false=>match xR rec o.x tm ⟨h.next,h.next,lk o.pre iv h.forb,h.t⟩with
    |some (c,h')=>
     let wr:=Nat.blt h'.low h.next
     match vC o.pre wr rw with
     |true=>none
     | false => kV rec l (j + 1) (match Nat.blt h.next h'.next with | true => (j, h.next, h'.next) :: iv | false => iv) ((j, wr) :: rw) (lD tm o.dst c)
         ⟨h'.next,(match Nat.blt h'.low h.low with|true=>h'.low|false=>h.low),h.forb,h'.t⟩
    |none=>none
  |some false=>kV rec l (j+1) iv rw (lD tm o.dst .any) h
  |none=>none
def results(tm:Tm)(h:H):List RV->Option (List C)
 |[]=>some []
 | .tmp t::l=>(results tm h l).map (CO.ev tm (CO.t t)::·)
 | .cell t row w::l=>(Ae row w (CO.ev tm (CO.t t)) h).bind fun c=>(results tm h l).map (c::·)
def wz:List C->C
 |[c]=>c
 |l=>.tp l
def mM:List Nat->H->Option H
 |[],h=>some h
 |k::l,h=>match h.get k with
  |some (.defd true)=>mM l (h.set k (some (.defd false)))
  |_=>none
def Gn(l:Nat)(e:Ex)(h:H):Option (C×H):=
 match h.get l with
 |some (.loop .busy _ tm ps a b d)=>match e with
  | .norm=>some (.sc (.bool true),h.set l (some (.loop .ready .norm tm ps a b d)))
  |e=>some (.sc (.bool false),h.set l (some (.loop .done e tm ps a b d)))
 |_=>none
def body(E:Env)(rec:Rec):Task->Option Out
 | .code c tm ds rd h=>match c with
  | .skip=>some (.code .norm tm ds h)
  | .ret=>some (.code .ret tm ds h)
  | .exit id=>some (.code (.exit id) tm ds h)
  | .seq a b=>match rec (.code a tm ds rd h)with
   |some (.code .norm tm ds h)=>rec (.code b tm ds rd h)
   |o=>o
  | .cond c a b=>match c.ev tm with
   | .sc (.bool true)=>rec (.code a tm ds rd h)
   | .sc (.bool false)=>rec (.code b tm ds rd h)
   |_=>none
  | .block id c=>match rec (.code c tm ds rd h)with
   |some (.code (.exit i) tm ds h)=>match Nat.beq i id with
    |true=>some (.code .norm tm ds h)
    |false=>some (.code (.exit i) tm ds h)
   |o=>o
  | .loop c=>match rec (.code c tm ds rd h)with
   |some (.code .norm tm ds h)=>rec (.code (.loop c) tm ds rd h)
   |o=>o
  | .reg draw ops=>match(match draw with|true=>kV rec ops 0 [] [] tm h|false=>uZ rec ops tm h)with
   |some (tm,h)=>some (.code .norm tm ds h)
   |none=>none
  | .rng f ps a b=>
   match(match rd with
    |some l=>match h.get l with
     |some (.loop _ _ _ _ _ _ d)=>some (d,ds,h)
     |_=>none
    |none=>(h.new (.defd true)).map fun h'=>(h.next,h.next::ds,h'))with
   |some (d,ds,h)=>match h.new (.loop .ready .norm tm ps a b d)with
    |some h'=>match(match f.ev tm with| .fn g caps=>rec (.call (.fn g caps) [.yl h.next] h')|_=>none)with
     |some (.val _ h2)=>match h2.get h.next with
      |some (.loop .busy ..)=>none
      |some (.loop _ p tm' ps' a' b' d')=>some (.code p tm ds (h2.set h.next (some (.loop .wD p tm' ps' a' b' d'))))
      |_=>none
     |_=>none
    |none=>none
   |none=>none
 | .call f args h=>match f with
  | .fn g caps=>match E.orc g with
   |some o=>(o (args++caps)).map (.val · h)
   |none=>match E.fns g with
    |some fn=>match Nat.ble (args++caps).length fn.ntmps with
     |false=>none
     |true=>match rec (.code fn.body (setArgs 24 0 (args++caps) .e) [] none h)with
      |some (.code e tm ds h)=>match e with
       | .exit _=>none
       |_=>(mM ds h).bind fun h=>(results tm h fn.res).map fun rs=> .val (wz rs) h
      |_=>none
    |none=>none
  | .yl l=>match h.get l with
   |some (.loop .ready _ tm ps a b _)=>match rU ps args tm with
    |some tm=>match rec (.code a tm [] (some l) h)with
     |some (.code .norm tm [] h)=>match h.get l with
      |some (.loop .ready p tm' ps' a' b' d')=>match rec (.code b tm [] (some l) (h.set l (some (.loop .busy p tm' ps' a' b' d'))))with
       |some (.code e _ [] h)=>(Gn l e h).map fun (c,h)=> .val c h
       |_=>none
      |_=>none
     |_=>none
    |none=>none
   |_=>none
  |_=>none
def run(E:Env):Nat->Rec
 |0=>fun _=>none
 |n+1=>body E (run E n)
section comp
variable (P : Program)
def ofV:Value->C
 | .agg cs=>match cs.toList.all (fun v=>v.oneCell'&&(C.sc v).okP)with
  |true=>.ag (cs.toList.map .sc)
  |false=>.any
 | .tuple _=>.any
 | .func (.func f) first cs=>match first.size,cs.size with
  |0,0=>.fn f []
  |_,_=>.any
 | .func ..=>.any
 |v=>.sc v
def aS:Operand->CO
 | .tmp t=>CO.t t
 | .const v=>CO.c (ofV v)
 | .global _=>CO.c .any
 | .func f=>CO.c (.fn f [])
def zOf(t:TypeId):Option (List C):=(P.info? t).bind fun i=>i.zero.bind fun z=>match z.cells.toList.all (fun v=>v.oneCell'&&(C.sc v).okP)&&Nat.beq z.cells.size i.size with
 |true=>some (z.cells.toList.map .sc)
 |false=>none
def dm(t:TypeId):Option Nat:=(P.info? t).map (·.size)
def rowOf(t:TypeId):Option Bool:=match P.underlying t with|some (.struct _)=>some true|some (.array ..)=>some true|some _=>some false|none=>none
def place(t:TypeId)(i:Nat):Option (Nat×Nat):=
 match P.underlying t with
 |some (.struct fs)=>fs[i]?.bind fun f=>(dm P f.type).map (f.offset,·)
 |some (.array _ e)=>(dm P e).map fun s=>(i*s,s)
 |some (.slice e)=>(dm P e).map fun s=>(i*s,s)
 |_=>none
def placesOf(t:TypeId):List (Nat×Operand)->Option (List (Nat×Nat×CO))
 |[]=>some []
 |(i,x)::l=>(place P t i).bind fun (o,w)=>(placesOf t l).map ((o,w,aS x)::·)
def sC(l:List Operand):List CO:=l.map aS
def bc(o:Op):Option X:=
 match o with
 | .move x=>some (.mv (aS x))
 | .assign x=>some (.mv (aS x))
 | .pick c a b=>some (.pick (aS c) (aS a) (aS b))
 | .alloc t=>(zOf P t).map (.alloc t)
 | .box t x=>some (.box t (aS x))
 | .build t ps=>match P.underlying t with
  |some (.struct fs)=>match fs.toList.all (fun f=>(P.info? f.type).isSome)with
   |true=>(zOf P t).bind fun z=>(placesOf P t ps.toList).map fun ps=> .build z ps
   |false=>none
  |some (.array _ e)=>(dm P e).bind fun _=>(zOf P t).bind fun z=>(placesOf P t ps.toList).map fun ps=> .build z ps
  |_=>none
 | .buildSlice t n ps=>match P.underlying t with
  |some (.slice e)=>(dm P e).bind fun w=>(zOf P e).bind fun z=>match Nat.ble (n*w) 16777216&&Nat.blt 0 w&&(Nat.blt 0 n||ps.toList.isEmpty)with
   |true=>(placesOf P t ps.toList).map fun ps=> .bsl e w n z ps
   |false=>none
  |_=>none
 | .load t a=>(dm P t).bind fun w=>(rowOf P t).map fun r=> .load r w (aS a)
 | .store t a x=>(dm P t).map fun w=> .store w (aS a) (aS x)
 | .binOp op t x y _=>match P.underlying t with
  |some (.int _)=>some (.bin op (aS x) (aS y))
  |some .bool=>match op with
   | .eql=>some (.beq false (aS x) (aS y))
   | .neq=>some (.beq true (aS x) (aS y))
   |_=>none
  |some (.slice _)=>match op with
   | .eql=>some (.snil false (aS x) (aS y))
   | .neq=>some (.snil true (aS x) (aS y))
   |_=>none
  |_=>none
 | .unOp op _ x=>some (.un op (aS x))
 | .convert s t x=>match P.underlying s,P.underlying t with
  |some (.int _),some (.int k)=>some (.conv k (aS x))
  |_,_=>none
 | .makeFunc (.func f) first cs=>match first.size with
  |0=>some (.mkf f (sC cs.toList))
  |_=>none
 | .makeSlice t l c=>match P.underlying t with
  |some (.slice e)=>(P.info? e).bind fun i=>(zOf P e).bind fun z=>match Nat.ble i.bytes 100000 with
   |true=>some (.mks e i.size i.bytes z (aS l) (aS c))
   |false=>none
  |_=>none
 | .slice t x lo hi mx=>match P.underlying t with
  |some (.slice e)=>match hi,mx with
   |none,some _=>none
   |_,_=>(dm P e).map fun w=> .slc w (aS x) (lo.map aS) (hi.map aS) (mx.map aS)
  |_=>none
 | .fieldAddr t x i=>match P.underlying t with
  |some (.struct fs)=>fs[i]?.bind fun f=>(dm P f.type).bind fun w=>match w with
   |0=>none
   |_=>some (.fa f.offset (aS x))
  |_=>none
 | .field t x i=>match P.underlying t with
  |some (.struct fs)=>fs[i]?.bind fun f=>(dm P f.type).bind fun w=>(rowOf P f.type).map fun r=> .fd r f.offset w (aS x)
  |_=>none
 | .indexAddr t x i=>match P.underlying t with
  |some (.slice e)=>(dm P e).map fun w=> .ia w none (aS x) (aS i)
  |some (.array n e)=>(dm P e).map fun w=> .ia w (some n) (aS x) (aS i)
  |_=>none
 | .index t x i=>match P.underlying t with
  |some (.array n e)=>(dm P e).bind fun w=>(rowOf P e).map fun r=> .ix r w n (aS x) (aS i)
  |some .string=>some (.sx (aS x) (aS i))
  |_=>none
 | .extract x i=>some (.ext (aS x) i)
 | .nilCheck x=>some (.nc (aS x))
 | .call {callee:= .builtin b,args,argTypes}=>match b,args.toList,argTypes.toList with
  | .len,[x],[t]=>match P.underlying t with
   |some (.slice _)=>some (.len false (aS x))
   |some .string=>some (.len true (aS x))
   |_=>none
  | .min,[x,y],_=>some (.mnx false (aS x) (aS y))
  | .max,[x,y],_=>some (.mnx true (aS x) (aS y))
  | .append,[x,y],[t,t']=>match P.underlying t,P.underlying t' with
   |some (.slice e),some (.slice _)=>match Nat.beq t t' with
    |false=>none
    |true=>(P.info? e).bind fun i=>(zOf P e).bind fun z=>match Nat.ble i.bytes 100000&&Nat.blt 0 i.size with
     |true=>some (.app e i.size (aS x) (aS y))
     |false=>none
   |some (.slice e),some (.int _)=>(P.info? e).bind fun i=>(zOf P e).bind fun z=>match Nat.ble i.bytes 100000&&Nat.blt 0 i.size with
    |true=>some (.appz e z (aS x) (aS y))
    |false=>none
   |_,_=>none
  | .cap,[x],[t]=>match P.underlying t with
   |some (.slice _)=>some (.cap (aS x))
   |_=>none
  |_,_,_=>none
 | .call {callee:= .value f,args, .. }=>some (.cal (aS f) (sC args.toList))
 |_=>none
def vp:List Nat->Nat->Nat
 |[],_=>0
 |x::_,0=>x
 |_::l,n+1=>vp l n
def oh(acc:List Nat):List Edge->Nat
 |[]=>0
 |e::l=>match Region.binds .any e with
  |true=>2^e.on|||vp acc e.on|||oh acc l
  |false=>oh acc l
def nk:List Oper->List Nat->List Nat
 |[],acc=>acc
 |o::l,acc=>nk l (acc++[oh acc o.after.toList])
def sR(t:Nat):List Nat->Bool
 |[]=>false
 |x::l=>match Nat.beq x t with|true=>true|false=>sR t l
def looks(ops:Array Oper)(o:Oper):List Nat:=
 (match o.guard with
  |some (g,_)=>((ops[g]?).bind (·.dst)).toList
  |none=>[])++(o.op.operands.toList.filterMap fun| .tmp t=>some t|_=>none)
def sQ(t:Option Nat)(l:List Nat):Bool:=match t with|some t=>sR t l|none=>false
def uP(ops:Array Oper)(o:Oper)(pre:Nat):List Oper->Nat->Bool
 |[],_=>true
 |o'::l,i=>match(sQ o'.dst (looks ops o)||sQ o.dst (looks ops o')||sQ o.dst o'.dst.toList)&& !pre.testBit i with
  |true=>false
  |false=>uP ops o pre l (i+1)
def mi(k:Nat):List Edge->Bool
 |[]=>true
 |e::l=>match Region.binds .any e&& !Nat.blt e.on k with
  |true=>false
  |false=>mi k l
def dh(n:Nat)(dst:Option Tmp):Bool:=match dst with|some t=>Nat.blt t n|none=>true
def iP(n:Nat)(draw:Bool)(ops:Array Oper)(acc:List Oper):List Oper->List Nat->Option (List RO)
 |[],_=>some []
 |o::l,ps=>match ps with
  |p::ps=>match draw&& !(uP ops o p acc 0&&mi acc.length o.after.toList)|| !dh n o.dst with
   |true=>none
   |false=>(match o.guard with
    |none=>some none
    |some (j,b)=>((ops[j]?).bind (·.dst)).map fun t=>some (t,b)).bind fun g=>
     (iP n draw ops (acc++[o]) l ps).map fun r=>⟨o.dst,g,(match bc P o.op with|some x=>x|none=>.bad),p⟩::r
  |[]=>none
def comp(n:Nat):Code->Option CC
 | .skip=>some .skip
 | .ret=>some .ret
 | .exit id=>some (.exit id)
 | .label _=>some .skip
 | .seq a b=>(comp n a).bind fun a=>(comp n b).map (.seq a)
 | .cond c a b=>(comp n a).bind fun a=>(comp n b).map (.cond (aS c) a)
 | .block id c=>(comp n c).map (.block id)
 | .loop c=>(comp n c).map .loop
 | .rangeFunc f ps a b=>match ps.toList.all (fun t=>Nat.blt t n)with
  |false=>none
  |true=>(comp n a).bind fun a=>(comp n b).map (.rng (aS f) ps.toList a)
 | .region _ ops draw=>(iP P n draw ops [] ops.toList (nk ops.toList [])).map (.reg draw)
 |_=>none
def rvOf:ResultVar->Option RV
 | .tmp t=>some (.tmp t)
 | .cell t ty=>(dm P ty).bind fun w=>(rowOf P ty).map fun r=>.cell t r w
def uW:List ResultVar->Option (List RV)
 |[]=>some []
 |r::l=>(rvOf P r).bind fun r=>(uW l).map (r::·)
def sD (g : FuncId) : Option F := (P.funcs[g]?).bind fun fn => fn.body.bind fun c => match Nat.blt fn.ntmps 1000000 && !(fn.name == "runtime.NumGoroutine") with
 |true=>(comp P fn.ntmps c).bind fun c=>(uW P fn.results.toList).map fun r=>⟨fn.ntmps,c,r⟩
 |false=>none
end comp
end CI
end
section
open Go.RowKit
namespace CI
section
variable (P : Program)
mutual
def VR(A:Nat->Prop)(ρ:Nat->Nat)(w:World):C->Value->Prop
 | .any,_=>True
 | .sc u,v=>v=u/\u.oneCell'=true
 | .nm z,v=>∃x:IV,v= .agg #[.bool x.s, .slice x.a x.n x.cap]/\IZ w x z
 | .sl k off n c x, v => A k /\ ∃ cap, v = .slice (some ⟨ρ k, off, none⟩) n cap /\ n <= c /\ c <= cap /\ (x = true -> cap = c) /\
     (x=false->off=0->cap<=maxLen/\∃T s,w.shape? (ρ k)=some (T,cap*s)/\dm P T=some s)
 | .pt k off,v=>A k/\v= .pointer (some ⟨ρ k,off,none⟩)
 | .fn f cs,v=>∃us,v= .func (.func f) #[] us/\VRl A ρ w cs us.toList
 | .ag l,v=>∃cs,v= .agg cs/\VCs A ρ w l cs.toList
 | .tp l,v=>∃vs,v= .tuple vs/\VRl A ρ w l vs.toList
 | .yl k,v=>A k/\v= .func (.yield (ρ k)) #[] #[]
def VRl(A:Nat->Prop)(ρ:Nat->Nat)(w:World):List C->List Value->Prop
 |[],vs=>vs=[]
 |d::l,vs=>∃u rest,vs=u::rest/\VR A ρ w d u/\VRl A ρ w l rest
def VCs(A:Nat->Prop)(ρ:Nat->Nat)(w:World):List C->List Value->Prop
 |[],cs=>cs=[]
 |d::l,cs=>d.okP=true/\∃u rest,cs=u.cells.toList++rest/\VR A ρ w d u/\VCs A ρ w l rest
end
structure Lt(w w':World):Prop where
 os:w'.os=w.os
 tape:w'.tape=w.tape
 output:w'.output=w.output
 size:w.heap.size<=w'.heap.size
 iz:∀x z,IZ w x z->IZ w' x z
 shape:∀b s,w.shape? b=some s->w'.shape? b=some s
theorem Lt.refl(w:World):Lt w w:=⟨rfl,rfl,rfl,af _,fun _ _ h=>h,fun _ _ h=>h⟩
theorem Lt.trans{a b c:World}(h:Lt a b)(k:Lt b c):Lt a c:=
 ⟨k.os.trans h.os,k.tape.trans h.tape,k.output.trans h.output,aB h.size k.size,fun x z e=>k.iz x z (h.iz x z e),fun x z e=>k.shape x z (h.shape x z e)⟩
theorem Fg{w:World}{b:Nat}{s:TypeId×Nat}(h:w.shape? b=some s):b<w.heap.size:=by
 unfold World.shape? at h
 cases e:w.heap[b]? with
 |none=>rw[e]at h;cases h
 |some o=>exact(iG.1 e).1
theorem Ff{w w':World}{b:Nat}(h:w'.heap[b]?=w.heap[b]?):w'.shape? b=w.shape? b:=by
 unfold World.shape?;rw[h]
theorem Lt.below{w w':World}(h:Below w.heap.size w w'):Lt w w':=
 ⟨h.os,h.tape,h.output,h.size,fun _ _ hz=>hz.below h (af _),fun b s e=>by rw[Ff (h.block b (Fg e))];exact e⟩
theorem Lt.chg{g:Nat}{w w':World}(h:Chg g w w')(hb:NW w g)(hs:∀s,w.shape? g=some s->w'.shape? g=some s):Lt w w':=
 ⟨h.os,h.tape,h.output,h.size,fun _ _ hz=>hz.chg h hb,fun b s e=>by
  by_cases hbg:b=g
  ·subst hbg;exact hs s e
  ·rw[Ff (h.block b (Fg e) hbg)];exact e⟩
variable {P}
structure Mo(A A':Nat->Prop)(ρ ρ':Nat->Nat):Prop where
 sub:∀k,A k->A' k
 eq:∀k,A k->ρ' k=ρ k
theorem Mo.refl(A:Nat->Prop)(ρ:Nat->Nat):Mo A A ρ ρ:=⟨fun _ h=>h,fun _ _=>rfl⟩
mutual
theorem VR.mo{A A':Nat->Prop}{ρ ρ':Nat->Nat}{w w':World}(m:Mo A A' ρ ρ')(k:Lt w w'):∀(c:C) (v:Value),VR P A ρ w c v->VR P A' ρ' w' c v
 | .any,_,_=>by simp only[VR]
 | .sc u,v,h=>by simp only[VR]at h⊢;exact h
 | .nm z,v,h=>by
  simp only[VR]at h⊢;obtain⟨x,h1,h2⟩:=h;exact⟨x,h1,k.iz _ _ h2⟩
 | .sl b off n c x,v,h=>by
  simp only[VR]at h⊢;obtain⟨h0,cap,h1,h2,h3,h4,h5⟩:=h;refine⟨m.sub _ h0,cap,by rw[m.eq _ h0];exact h1,h2,h3,h4,fun hx ho=>?_⟩;obtain⟨h6,T,s,h7,h8⟩:=h5 hx ho;exact⟨h6,T,s,by rw[m.eq _ h0];exact k.shape _ _ h7,h8⟩
 | .pt b off,v,h=>by
  simp only[VR]at h⊢;exact⟨m.sub _ h.1,by rw[m.eq _ h.1];exact h.2⟩
 | .fn f cs,v,h=>by
  simp only[VR]at h⊢;obtain⟨us,h1,h2⟩:=h;exact⟨us,h1,VRl.mo m k cs _ h2⟩
 | .ag l,v,h=>by
  simp only[VR]at h⊢;obtain⟨cs,h1,h2⟩:=h;exact⟨cs,h1,VCs.mo m k l _ h2⟩
 | .tp l,v,h=>by
  simp only[VR]at h⊢;obtain⟨vs,h1,h2⟩:=h;exact⟨vs,h1,VRl.mo m k l _ h2⟩
 | .yl b,v,h=>by
  simp only[VR]at h⊢;exact⟨m.sub _ h.1,by rw[m.eq _ h.1];exact h.2⟩
theorem VRl.mo{A A':Nat->Prop}{ρ ρ':Nat->Nat}{w w':World}(m:Mo A A' ρ ρ')(k:Lt w w'):∀(l:List C) (vs:List Value),VRl P A ρ w l vs->VRl P A' ρ' w' l vs
 |[],_,h=>by simp only[VRl]at h⊢;exact h
 |d::l,vs,h=>by
  simp only[VRl]at h⊢;obtain⟨u,rest,h1,h2,h3⟩:=h;exact⟨u,rest,h1,VR.mo m k d u h2,VRl.mo m k l rest h3⟩
theorem VCs.mo{A A':Nat->Prop}{ρ ρ':Nat->Nat}{w w':World}(m:Mo A A' ρ ρ')(k:Lt w w'):∀(l:List C) (cs:List Value),VCs P A ρ w l cs->VCs P A' ρ' w' l cs
 |[],_,h=>by simp only[VCs]at h⊢;exact h
 |d::l,cs,h=>by
  simp only[VCs]at h⊢;obtain⟨h0,u,rest,h1,h2,h3⟩:=h;exact⟨h0,u,rest,h1,VR.mo m k d u h2,VCs.mo m k l rest h3⟩
end
variable {A : Nat->Prop} {ρ : Nat->Nat} {w : World}
theorem wV{u:Value}(h:u.oneCell'=true):u.cells= #[u]:=by
 cases u<;>first|rfl|simp[Value.oneCell']at h
theorem VR.cells{c:C}{u:Value}(ho:c.okP=true)(h:VR P A ρ w c u):u.cells.toList.length=c.wid/\(∀x∈u.cells.toList,x.oneCell'=true)/\(∀n,u.cells.toList[0]?≠some (.int .u32 n)):=by
 cases c with
 |any=>simp[C.okP]at ho
 |ag l=>simp[C.okP]at ho
 |tp l=>simp[C.okP]at ho
 |sc v=>
  simp only[VR]at h;obtain⟨rfl,h⟩:=h;rw[wV h];refine⟨rfl,by simpa using h,fun n e=>?_⟩;simp at e;subst e;simp[C.okP]at ho
 |nm z=>
  simp only[VR]at h;obtain⟨x,rfl,_⟩:=h;refine⟨rfl,fun u hu=>?_,fun n e=>by simp[Value.cells]at e⟩;simp[Value.cells]at hu;rcases hu with rfl|rfl<;>rfl
 |sl k off n c x=>
  simp only[VR]at h;obtain⟨_,cap,rfl,_⟩:=h;exact⟨rfl,by simp[Value.cells,Value.oneCell'],fun n e=>by simp[Value.cells]at e⟩
 |pt k off=>
  simp only[VR]at h;obtain⟨_,rfl⟩:=h;exact⟨rfl,by simp[Value.cells,Value.oneCell'],fun n e=>by simp[Value.cells]at e⟩
 |fn f cs=>
  simp only[VR]at h;obtain⟨us,rfl,_⟩:=h;exact⟨rfl,by simp[Value.cells,Value.oneCell'],fun n e=>by simp[Value.cells]at e⟩
 |yl k=>
  simp only[VR]at h;obtain⟨_,rfl⟩:=h;exact⟨rfl,by simp[Value.cells,Value.oneCell'],fun n e=>by simp[Value.cells]at e⟩
theorem VCs.len:∀{l:List C} {xs:List Value},VCs P A ρ w l xs->xs.length=ET l
 |[],_,h=>by simp only[VCs]at h;subst h;rfl
 |d::l,xs,h=>by
  simp only[VCs]at h;obtain⟨h0,u,rest,rfl,h2,h3⟩:=h;rw[cv,(VR.cells h0 h2).1,VCs.len h3];rfl
theorem VCs.one:∀{l:List C} {xs:List Value},VCs P A ρ w l xs->∀x∈xs,x.oneCell'=true
 |[],_,h=>by simp only[VCs]at h;subst h;intro x hx;cases hx
 |d::l,xs,h=>by
  simp only[VCs]at h;obtain⟨h0,u,rest,rfl,h2,h3⟩:=h;intro x hx;rcases gy.1 hx with hx|hx
  ·exact(VR.cells h0 h2).2.1 x hx
  ·exact VCs.one h3 x hx
theorem B7{c:C}(h:c.okP=true):0<c.wid:=by cases c<;>simp_all [C.okP,C.wid]
theorem VCs.nw{l:List C}{xs:List Value}(h:VCs P A ρ w l xs):∀n,xs[0]?≠some (.int .u32 n):=by
 cases l with
 |nil=>simp only[VCs]at h;subst h;intro n e;simp at e
 |cons d l=>
  simp only[VCs]at h;obtain⟨h0,u,rest,rfl,h2,h3⟩:=h;obtain⟨k1,_,k3⟩:=VR.cells h0 h2;have:=B7 h0;intro n e;rw[dC aa]at e;exact k3 n e
theorem VCs.app{l2:List C}{ys:List Value}(k:VCs P A ρ w l2 ys):∀{l:List C} {xs:List Value},VCs P A ρ w l xs->VCs P A ρ w (l++l2) (xs++ys)
 |[],_,h=>by simp only[VCs]at h;subst h;exact k
 |d::l,xs,h=>by
  simp only[VCs]at h;obtain⟨h0,u,rest,rfl,h2,h3⟩:=h;simp only[uJ,VCs];exact⟨h0,u,rest++ys,by rw[fK],h2,VCs.app k h3⟩
theorem VCs.drop:∀{l:List C} {xs:List Value} {off:Nat} {l':List C},VCs P A ρ w l xs->vw l off=some l'->VCs P A ρ w l' (xs.drop off)/\off<=xs.length
 |l,xs,0,l',h,e=>by
  have e':l'=l:=by cases l<;>simpa[vw]using e.symm
  subst e';exact⟨h,aO _⟩
 |[],_,off+1,l',_,e=>by simp[vw]at e
 |c::l,xs,off+1,l',h,e=>by
  simp only[vw]at e;split at e
  ·next hb=>
   have hb':=gg hb;simp only[VCs]at h;obtain⟨h0,u,rest,rfl,h2,h3⟩:=h;have hl:=(VR.cells h0 h2).1;have:=B7 h0;obtain⟨k1,k2⟩:=VCs.drop h3 e;refine⟨?_,by rw[cv];omega⟩;rw[zZ,jx aa,ew,hl];exact k1
  ·cases e
theorem VCs.take:∀{l:List C} {xs:List Value} {n:Nat} {l':List C},VCs P A ρ w l xs->uR l n=some l'->VCs P A ρ w l' (xs.take n)/\n<=xs.length
 |l,xs,0,l',h,e=>by
  have e':l'=[]:=by cases l<;>simpa[uR]using e.symm
  subst e';exact⟨by simp only[VCs,dw],aO _⟩
 |[],_,n+1,l',_,e=>by simp[uR]at e
 |c::l,xs,n+1,l',h,e=>by
  simp only[uR]at e;split at e
  ·next hb=>
   have hb':=gg hb;obtain⟨l2,e2,rfl⟩:=eY.1 e;simp only[VCs]at h;obtain⟨h0,u,rest,rfl,h2,h3⟩:=h;have hl:=(VR.cells h0 h2).1;have:=B7 h0;obtain⟨k1,k2⟩:=VCs.take h3 e2;refine⟨?_,by rw[cv];omega⟩;rw[List.take_append,cf aa,hl];simp only[VCs];exact⟨h0,u,_,rfl,h2,k1⟩
  ·cases e
theorem VCs.get{l:List C}{xs:List Value}{off n:Nat}{p:List C}(h:VCs P A ρ w l xs)(e:rf l off n=some p):VCs P A ρ w p ((xs.drop off).take n)/\off+n<=xs.length:=by
 unfold rf at e;obtain⟨l1,e1,e2⟩:=lp.1 e;obtain⟨k1,k2⟩:=h.drop e1;obtain⟨k3,k4⟩:=k1.take e2;exact⟨k3,by rw[de]at k4;omega⟩
theorem VCs.set{l:List C}{xs ys:List Value}{off n:Nat}{new l':List C}(h:VCs P A ρ w l xs)(hy:VCs P A ρ w new ys)(e:BV l off n new=some l'):VCs P A ρ w l' (xs.take off++ys++xs.drop (off+n))/\off+n<=xs.length:=by
 unfold BV at e;obtain⟨l1,e1,e2⟩:=lp.1 e;obtain⟨l2,e3,rfl⟩:=eY.1 e2;obtain⟨k1,k2⟩:=h.take e1;obtain⟨k3,k4⟩:=h.drop e3;exact⟨VCs.app k3 (VCs.app hy k1),k4⟩
theorem VR.flat{c:C}{u:Value}{p:List C}(h:VR P A ρ w c u)(e:c.flat=some p):VCs P A ρ w p u.cells.toList:=by
 unfold C.flat at e;split at e
 ·simp only[ak]at e;subst e;simp only[VR]at h;obtain⟨cs,rfl,h2⟩:=h;exact h2
 ·split at e
  ·next ho=>
   simp only[ak]at e;subst e;simp only[VCs];exact⟨ho,u,[],by simp,h,rfl⟩
  ·cases e
theorem VCs.kD{row:Bool}{p:List C}{c:C}{xs:List Value}(h:VCs P A ρ w p xs)(e:kD row p=some c):if row then VR P A ρ w c (.agg xs.toArray)else∃u,xs=[u]/\VR P A ρ w c u:=by
 unfold CI.kD at e
 cases row with
 |true=>
  simp only[if_true];simp only at e;split at e
  ·simp only[ak]at e;subst e;simp only[VCs]at h;obtain⟨_,u,rest,rfl,h2,rfl⟩:=h;simp only[VR]at h2⊢;obtain⟨x,rfl,h3⟩:=h2;exact⟨x,by simp[Value.cells],h3⟩
  ·simp only[ak]at e;subst e;simp only[VR];exact⟨_,rfl,by simpa using h⟩
 |false=>
  simp only[zU,if_false];simp only at e;split at e
  ·cases e
  ·next c' hne=>
   simp only[ak]at e;subst e;simp only[VCs]at h;obtain⟨h0,u,rest,rfl,h2,rfl⟩:=h;refine⟨u,?_,h2⟩;obtain⟨k1,k2,_⟩:=VR.cells h0 h2;have hw:c'.wid=1:=by cases c'<;>simp_all [C.okP,C.wid]
   rw[hw]at k1;have hu:u.oneCell'=true:=by
    cases hc:c'<;>rw[hc]at h2 h0<;>simp only[VR]at h2<;>first|(simp[C.okP]at h0;done)|(obtain⟨rfl,h⟩:=h2;exact h)|(obtain⟨_,_,rfl,_⟩:=h2;rfl)|(obtain⟨_,rfl⟩:=h2;rfl)|(obtain⟨_,rfl,_⟩:=h2;rfl)|(exact absurd hc (hne _))
   rw[wV hu];rfl
  ·cases e
end
end CI
end
section
open Go.RowKit
namespace CI
theorem T.Bb{α:Type}(k:Nat):T.get (T.e:T α) k=none:=by cases k<;>rfl
theorem IT{j k:Nat}(h:j≠k)(e:j%2=k%2):j/2≠k/2:=by omega
theorem T.IU{α:Type}:∀(f:Nat) (t:T α) (k j:Nat) (x:Option α),k+1<2^f->T.get (T.put f t k x) j=if j=k then x else T.get t j
 |0,t,k,j,x,h=>by simp at h
 |f+1,t,0,j,x,h=>by
  cases t<;>cases j<;>simp[T.put,T.get,T.Bb];split<;>rfl
 |f+1,t,k+1,j,x,h=>by
  have hk:k/2+1<2^f:=by rw[dQ]at h;omega
  have IH:=fun t j=>T.IU f t (k/2) j x hk
  cases j with
  |zero=>cases t<;>simp only[T.put]<;>split<;>simp[T.get]
  |succ j=>
   have key:∀l r:T α,∀v,T.get (match k%2 with|0=>T.n v (T.put f l (k/2) x) r|_+1=>T.n v l (T.put f r (k/2) x)) (j+1)=if j+1=k+1 then x else T.get (T.n v l r) (j+1):=fun l r v=>by
    have hj:=Nat.mod_two_eq_zero_or_one j;have hk2:=Nat.mod_two_eq_zero_or_one k;rcases hk2 with e|e<;>rcases hj with e'|e'<;>simp only[e,e',T.get,IH]
    ·by_cases hjk:j=k
     ·subst hjk;simp
     ·rw[aj (IT hjk aa),aj aa]
    ·rw[aj aa]
    ·rw[aj aa]
    ·by_cases hjk:j=k
     ·subst hjk;simp
     ·rw[aj (IT hjk aa),aj aa]
   cases t with
   |e=>
    refine(key .e .e none).trans ?_;split
    ·rfl
    ·simp only[T.get];split<;>simp[T.Bb]
   |n v l r=>exact key l r v
theorem T.yY{α:Type}{t:T α}{k j:Nat}{x:Option α}(h:k<1000000):T.get (T.put 24 t k x) j=if j=k then x else T.get t j:=
 T.IU 24 t k j x (gY (Nat.succ_le_succ (bQ h)) au)
def BJ:LS->LoopState
 | .ready=>.ready
 | .busy=>.busy
 | .done=>.done
 | .wD=>.exhausted
def sU:Ex->Option Code
 | .norm=>none
 | .ret=>some .ret
 | .exit id=>some (.exit id)
def H.live(h:H)(k:Nat):Prop:=(h.get k).isSome=true
section
variable (P : Program)
def TR(A:Nat->Prop)(ρ:Nat->Nat)(w:World)(tm:Tm)(tmps:Array Value):Prop:=∀t,VR P A ρ w (CO.ev tm (CO.t t)) (tmps.getD t undef)
def BR(A:Nat->Prop)(ρ:Nat->Nat)(w:World)(r:Nat):B->Prop
 | .cells T l=>∃arr xs rest,w.heap[r]?=some (.cells arr T (0,0))/\arr.toList=xs++rest/\VCs P A ρ w l xs/\NW w r
 | .loop st p tm ps a b d=>A d/\∃fn tmps a' b',w.heap[r]?=some (.loop ⟨BJ st,sU p,fn,tmps,ps.toArray,a',b',ρ d⟩)/\TR P A ρ w tm tmps/\comp P tmps.size a'=some a/\comp P tmps.size b'=some b/\tmps.size<1000000/\∀t∈ps,t<tmps.size
 | .defd o=>w.heap[r]?=some (.deferred (if o then some []else none))
structure Rel(A:Nat->Prop)(ρ:Nat->Nat)(w:World)(h:H):Prop where
 blk:∀k b,h.get k=some b->k<h.next/\A k/\ρ k<w.heap.size/\BR P A ρ w (ρ k) b
 inj:∀j k,h.live j->h.live k->ρ j=ρ k->j=k
 bd:h.next<=1000000
def Ext(A:Nat->Prop)(h h':H):Nat->Prop:=fun k=>A k\/(h.next<=k/\k<h'.next)
structure cR(A:Nat->Prop)(ρ:Nat->Nat)(w:World)(h:H)(ρ':Nat->Nat)(w':World)(h':H):Prop where
 rho:∀k,(k<h.next\/h'.next<=k)->ρ' k=ρ k
 rel:Rel P (Ext A h h') ρ' w' h'
 lt:Lt w w'
 fr:∀b,b<w.heap.size->(∀k,h.live k->h'.low<=k->ρ k≠b)->w'.heap[b]?=w.heap[b]?
 new:∀k,h.next<=k->h'.live k->w.heap.size<=ρ' k\/∃j,h.live j/\h'.low<=j/\ρ' k=ρ j
def Dj(A:Nat->Prop)(h h':H):Prop:=∀k,A k->k<h.next\/h'.next<=k
structure Good(h h':H):Prop where
 next:h.next<=h'.next
 low:h'.low<=h.low
 forb:h'.forb=h.forb
 keep:∀k,k<h.next->k<h'.low->T.get h'.t k=T.get h.t k
 dead:∀k,k<h.next->¬h.live k->T.get h'.t k=T.get h.t k
end
variable {P : Program} {A A' : Nat->Prop} {ρ ρ' : Nat->Nat} {w w' w'' : World} {h h' h'' : H}
theorem Ba{h h':H}{k:Nat}(hf:h'.forb=h.forb)(ht:T.get h'.t k=T.get h.t k):h'.get k=h.get k:=by
 unfold H.get;rw[hf,ht]
theorem Good.refl(h:H):Good h h:=⟨af _,af _,rfl,fun _ _ _=>rfl,fun _ _ _=>rfl⟩
theorem Good.back(g:Good h h'){k:Nat}(hk:k<h.next)(hl:h'.live k):h.live k:=by
 by_cases hh:h.live k
 ·exact hh
 ·unfold H.live at hl hh⊢;rw[Ba g.forb (g.dead k hk hh)]at hl;exact hl
theorem Good.trans(g:Good h h')(g':Good h' h''):Good h h'':=by
 refine⟨aB g.next g'.next,aB g'.low g.low,g'.forb.trans g.forb,fun k hk hl=>?_,fun k hk hl=>?_⟩
 ·rw[g'.keep k (aZ hk g.next) hl,g.keep k hk (aZ hl g'.low)]
 ·rw[g'.dead k (aZ hk g.next) (fun e=>hl (g.back hk e)),g.dead k hk hl]
theorem TR.mo{tm:Tm}{a:Array Value}(m:Mo A A' ρ ρ')(k:Lt w w')(t:TR P A ρ w tm a):TR P A' ρ' w' tm a:=fun i=>VR.mo m k _ _ (t i)
theorem NW.of{r:Nat}(hh:w'.heap[r]?=w.heap[r]?)(n:NW w r):NW w' r:=fun m e=>n m (by rw[<-e];exact(World.cell?_of_block (a:=⟨r,0,none⟩) hh).symm)
theorem BR.mo{r:Nat}{b:B}(m:Mo A A' ρ ρ')(k:Lt w w')(hh:w'.heap[r]?=w.heap[r]?)(t:BR P A ρ w r b):BR P A' ρ' w' r b:=by
 cases b with
 |cells T l=>
  obtain⟨arr,xs,rest,h1,h2,h3,h4⟩:=t;exact⟨arr,xs,rest,hh.trans h1,h2,VCs.mo m k _ _ h3,NW.of hh h4⟩
 |loop st p tm ps a b d=>
  obtain⟨h0,fn,tmps,a',b',h1,h2,h3⟩:=t;exact⟨m.sub _ h0,fn,tmps,a',b',by rw[hh,h1,m.eq _ h0],h2.mo m k,h3⟩
 |defd o=>exact hh.trans t
theorem Rel.mo(m:Mo A A' ρ ρ')(k:Lt w w')(hb:∀j,h.live j->w'.heap[ρ j]?=w.heap[ρ j]?)(t:Rel P A ρ w h):Rel P A' ρ' w' h:=by
 have hlv:∀j,h.live j->A j:=fun j hj=>by
  obtain⟨b,e⟩:=cV.1 hj;exact(t.blk j b e).2.1
 refine⟨fun j b e=>?_,fun i j hi hj e=>?_,t.bd⟩
 ·obtain⟨h1,h2,h3,h4⟩:=t.blk j b e;have hl:h.live j:=by unfold H.live;rw[e];rfl
  rw[m.eq _ h2];exact⟨h1,m.sub _ h2,aZ h3 k.size,h4.mo m k (hb j hl)⟩
 ·rw[m.eq _ (hlv i hi),m.eq _ (hlv j hj)]at e;exact t.inj i j hi hj e
theorem cR.mo(p:cR P A ρ w h ρ' w' h')(d:Dj A h h'):Mo A (Ext A h h') ρ ρ':=⟨fun _ hk=>.inl hk,fun k hk=>p.rho k (d k hk)⟩
theorem cR.refl(t:Rel P A ρ w h):cR P A ρ w h ρ w h:=
 ⟨fun _ _=>rfl,t.mo ⟨fun _ hk=>.inl hk,fun _ _=>rfl⟩ (Lt.refl w) (fun _ _=>rfl),Lt.refl w,fun _ _ _=>rfl,fun k hk hl=>by
  obtain⟨b,e⟩:=cV.1 hl;have:=(t.blk k b e).1;omega⟩
theorem cR.below(t:Rel P A ρ w h)(hb:Below w.heap.size w w'):cR P A ρ w h ρ w' h:=by
 have hlt:∀j,h.live j->ρ j<w.heap.size:=fun j hj=>by
  obtain⟨b,e⟩:=cV.1 hj;exact(t.blk j b e).2.2.1
 refine⟨fun _ _=>rfl,t.mo ⟨fun _ hk=>.inl hk,fun _ _=>rfl⟩ (Lt.below hb) (fun j hj=>hb.block _ (hlt j hj)),Lt.below hb,fun b hbl _=>hb.block b hbl,fun k hk hl=>?_⟩;obtain⟨b,e⟩:=cV.1 hl;have:=(t.blk k b e).1;omega
theorem Dj.left(d:Dj A h h'')(g:h'.next<=h''.next):Dj A h h':=fun k hk=>(d k hk).imp id (fun e=>aB g e)
theorem Dj.right(d:Dj A h h'')(g:h.next<=h'.next):Dj (Ext A h h') h' h'':=fun k hk=>by
 rcases hk with hk|hk
 ·exact(d k hk).imp (fun e=>aZ e g) id
 ·exact .inl hk.2
theorem Ext.trans(g:h.next<=h'.next)(g':h'.next<=h''.next)(k:Nat):Ext (Ext A h h') h' h'' k↔Ext A h h'' k:=by
 unfold Ext;constructor
 ·rintro((e|e)|e)
  ·exact .inl e
  ·exact .inr aa
  ·exact .inr aa
 ·rintro(e|e)
  ·exact .inl (.inl e)
  ·by_cases hk:k<h'.next
   ·exact .inl (.inr aa)
   ·exact .inr aa
theorem Mo.ext(g:h.next<=h'.next)(g':h'.next<=h''.next)(ρ:Nat->Nat):Mo (Ext (Ext A h h') h' h'') (Ext A h h'') ρ ρ:=⟨fun k hk=>(Ext.trans g g' k).1 hk,fun _ _=>rfl⟩
theorem cR.trans{ρ'':Nat->Nat}(p:cR P A ρ w h ρ' w' h')(g:Good h h')(q:cR P (Ext A h h') ρ' w' h' ρ'' w'' h'')(g':Good h' h''):cR P A ρ w h ρ'' w'' h'':=by
 refine⟨fun k hk=>?_,q.rel.mo (Mo.ext g.next g'.next _) (Lt.refl _) (fun _ _=>rfl),p.lt.trans q.lt,fun b hb hn=>?_,fun k hk hl=>?_⟩
 ·rw[q.rho k (hk.imp (fun e=>aZ e g.next) id),p.rho k (hk.imp id (fun e=>aB g'.next e))]
 ·rw[q.fr b (aZ hb p.lt.size) fun k hl hk e=>?_,p.fr b hb fun k hl hk=>hn k hl (aB g'.low hk)];by_cases hkn:k<h.next
  ·rw[p.rho k (.inl hkn)]at e;exact hn k (g.back hkn hl) hk e
  ·rcases p.new k aa hl with e2|⟨j,h1,h2,h3⟩
   ·omega
   ·exact hn j h1 (aB g'.low h2) (h3.symm.trans e)
 ·by_cases hkn:k<h'.next
  ·have hl':=g'.back hkn hl;rw[q.rho k (.inl hkn)];rcases p.new k hk hl' with e|⟨j,h1,h2,h3⟩
   ·exact .inl e
   ·exact .inr ⟨j,h1,aB g'.low h2,h3⟩
  ·rcases q.new k aa hl with e|⟨j,h1,h2,h3⟩
   ·exact .inl (aB p.lt.size e)
   ·by_cases hj:j<h.next
    ·rw[p.rho j (.inl hj)]at h3;exact .inr ⟨j,g.back hj h1,h2,h3⟩
    ·rcases p.new j aa h1 with e|⟨i,k1,k2,k3⟩
     ·exact .inl (by rw[h3];exact e)
     ·exact .inr ⟨i,k1,aB g'.low k2,h3.trans k3⟩
theorem dX{b:B}(e:h.new b=some h'):h'.next=h.next+1/\h'.low=h.low/\h'.forb=h.forb/\h.next<1000000/\∀j,T.get h'.t j=if j=h.next then some b else T.get h.t j:=by
 unfold H.new at e;split at e
 ·next hb=>
  simp only[ak]at e;subst e;have hb':h.next<1000000:=by simpa[bB]using hb
  exact⟨rfl,rfl,rfl,hb',fun j=>T.yY hb'⟩
 ·cases e
theorem yO{b:B}(e:h.new b=some h'):Good h h':=by
 obtain⟨h1,h2,h3,h4,h5⟩:=dX e;exact⟨by omega,by omega,h3,fun k hk _=>by rw[h5,aj aa],fun k hk _=>by rw[h5,aj aa]⟩
def at'(ρ:Nat->Nat)(n r:Nat):Nat->Nat:=fun k=>if k=n then r else ρ k
theorem oU{b:B}{r:Nat}(t:Rel P A ρ w h)(e:h.new b=some h')(hd:Dj A h h')(hbl:Below w.heap.size w w')(h1:w.heap.size<=r)(h2:r<w'.heap.size)
  (hB:∀A' ρ',Mo A A' ρ ρ'->ρ' h.next=r->A' h.next->BR P A' ρ' w' r b):cR P A ρ w h (at' ρ h.next r) w' h':=by
 obtain⟨k1,k2,k3,k4,k5⟩:=dX e;have hmo:Mo A (Ext A h h') ρ (at' ρ h.next r):=⟨fun _ hk=> .inl hk,fun k hk=>by
  have:=hd k hk;unfold at';rw[aj aa]⟩
 have hg:∀k,h'.get k=some b/\k=h.next\/h'.get k=h.get k/\k≠h.next\/h'.get k=none:=fun k=>by
  unfold H.get;rw[k3,k5];by_cases hk:k=h.next
  ·rw[an hk];cases eI k h.forb<;>simp[hk]
  ·rw[aj hk];exact .inr (.inl ⟨rfl,hk⟩)
 have hlt:∀j c,h.get j=some c->j<h.next/\ρ j<w.heap.size:=fun j c ej=>⟨(t.blk j c ej).1,(t.blk j c ej).2.2.1⟩
 have hat:∀j,j≠h.next->at' ρ h.next r j=ρ j:=fun j hj=>by unfold at';rw[aj hj]
 have hatn:at' ρ h.next r h.next=r:=by unfold at';rw[an rfl]
 refine⟨fun k hk=>hat k aa,⟨fun k c ek=>?_,fun i j hi hj ee=>?_,by omega⟩,Lt.below hbl,fun b hb _=>hbl.block b hb,fun k hk hl=>?_⟩
 ·rcases hg k with⟨e1,e2⟩|⟨e1,e2⟩|e1
  ·rw[e1]at ek;simp only[ak]at ek;subst ek;subst e2;rw[hatn];have hA:Ext A h h' h.next:= .inr ⟨af _,by omega⟩
   exact⟨by omega,hA,h2,hB _ _ hmo hatn hA⟩
  ·rw[e1]at ek;obtain⟨m1,m2,m3,m4⟩:=t.blk k c ek;rw[hat k e2];exact⟨by omega, .inl m2,aZ m3 hbl.size,m4.mo hmo (Lt.below hbl) (hbl.block _ m3)⟩
  ·rw[e1]at ek;cases ek
 ·have key : ∀ i, h'.live i -> (i = h.next \/ (i ≠ h.next /\ h.live i /\ ρ i < w.heap.size)) := fun i hi => by
   unfold H.live at hi;rcases hg i with⟨e1,e2⟩|⟨e1,e2⟩|e1
   ·exact .inl e2
   ·rw[e1]at hi;obtain⟨c,ec⟩:=cV.1 hi;exact .inr ⟨e2,hi,(hlt i c ec).2⟩
   ·rw[e1]at hi;cases hi
  rcases key i hi with hi'|⟨hi1,hi2,hi3⟩<;>rcases key j hj with hj'|⟨hj1,hj2,hj3⟩
  ·rw[hi',hj']
  ·rw[hi',hatn,hat j hj1]at ee;omega
  ·rw[hj',hatn,hat i hi1]at ee;omega
  ·rw[hat i hi1,hat j hj1]at ee;exact t.inj i j hi2 hj2 ee
 ·unfold H.live at hl;rcases hg k with⟨e1,e2⟩|⟨e1,e2⟩|e1
  ·subst e2;exact .inl (by rw[hatn];exact h1)
  ·rw[e1]at hl;obtain⟨c,ec⟩:=cV.1 hl;have:=(hlt k c ec).1;omega
  ·rw[e1]at hl;cases hl
theorem uV{k:Nat}{b:Option B}(hk:k<1000000):(h.set k b).next=h.next/\(h.set k b).forb=h.forb/\((h.set k b).low<=h.low/\(h.set k b).low<=k)/\∀j,T.get (h.set k b).t j=if j=k then b else T.get h.t j:=by
 refine⟨rfl,rfl,?_,fun j=>T.yY hk⟩;show(match Nat.blt k h.low with|true=>k|false=>h.low)<=h.low/\(match Nat.blt k h.low with|true=>k|false=>h.low)<=k;split
 ·next e=>
  have:k<h.low:=by simpa[bB]using e
  exact⟨bQ this,af _⟩
 ·next e=>
  have:¬k<h.low:=by intro e2;rw[<-bB]at e2;rw[e2]at e;cases e
  exact⟨af _,by omega⟩
theorem nh{k:Nat}(hl:h.live k):eI k h.forb=false:=by
 unfold H.live H.get at hl
 cases e:eI k h.forb with
 |false=>rfl
 |true=>rw[e]at hl;cases hl
theorem Rel.live(t:Rel P A ρ w h){k:Nat}(hl:h.live k):k<h.next/\A k/\ρ k<w.heap.size:=by
 obtain⟨b,e⟩:=cV.1 hl;exact⟨(t.blk k b e).1,(t.blk k b e).2.1,(t.blk k b e).2.2.1⟩
theorem yE{k:Nat}{b:Option B}(hk:k<1000000)(hl:h.live k):Good h (h.set k b):=by
 obtain⟨k1,k2,k3,k4⟩:=uV (h:=h) (b:=b) hk;refine⟨vU k1.symm,k3.1,k2,fun j hj hlo=>?_,fun j hj hd=>?_⟩
 ·rw[k4,aj (by have:=k3.2;omega)]
 ·rw[k4,aj (fun e=>hd (by rw[e];exact hl))]
theorem Fj{k:Nat}{b:B}(t:Rel P A ρ w h)(hl:h.live k)(hc:Chg (ρ k) w w')(hnw:NW w (ρ k))(hs:∀s,w.shape? (ρ k)=some s->w'.shape? (ρ k)=some s)
  (hB:BR P A ρ w' (ρ k) b):cR P A ρ w h ρ w' (h.set k (some b)):=by
 obtain⟨m1,m2,m3⟩:=t.live hl;have hk:k<1000000:=aZ m1 t.bd;obtain⟨k1,k2,k3,k4⟩:=uV (h:=h) (b:=some b) hk;have hlt:=Lt.chg hc hnw hs;have hmo:Mo A (Ext A h (h.set k (some b))) ρ ρ:=⟨fun _ hk=>.inl hk,fun _ _=>rfl⟩;have hg:∀j,j≠k->(h.set k (some b)).get j=h.get j:=fun j hj=>Ba k2 (by rw[k4,aj hj]);have hgk:(h.set k (some b)).get k=some b:=by
  unfold H.get;rw[k2,nh hl,k4,an rfl]
 have hlv:∀j,(h.set k (some b)).live j->h.live j:=fun j hj=>by
  by_cases e:j=k
  ·rw[e];exact hl
  ·unfold H.live at hj⊢;rw[hg j e]at hj;exact hj
 refine⟨fun _ _=>rfl,⟨fun j c ej=>?_,fun i j hi hj=>t.inj i j (hlv i hi) (hlv j hj),t.bd⟩,hlt,fun r hr hn=>hc.block r hr fun e=>hn k hl k3.2 e.symm,fun j hj hlj=>?_⟩
 ·by_cases e:j=k
  ·subst e;rw[hgk]at ej;simp only[ak]at ej;subst ej;exact⟨m1,.inl m2,aZ m3 hlt.size,hB.mo hmo (Lt.refl _) rfl⟩
  ·rw[hg j e]at ej;obtain⟨n1,n2,n3,n4⟩:=t.blk j c ej;have hne:ρ j≠ρ k:=fun e2=>e (t.inj j k (by unfold H.live;rw[ej];rfl) hl e2);exact⟨n1,.inl n2,aZ n3 hlt.size,n4.mo hmo hlt (hc.block _ n3 hne)⟩
 ·have:=(t.live (hlv j hlj)).1;omega
end CI
end
section
open Go.RowKit
namespace CI
variable {P : Program} {A : Nat->Prop} {ρ : Nat->Nat} {w : World} {tm : Tm} {a : Act} {o : Oper} {next : Nat} {c : C} {ob : Option B}
def XO'(P:Program)(A:Nat->Prop)(ρ:Nat->Nat)(w:World)(r:Result Next)(next:Nat)(c:C)(ob:Option B):Prop:=
 ∃u w',r= .ok (.value u) w'/\
  match ob with
  |none=>w'=w/\VR P A ρ w c u
  |some b=>Below w.heap.size w w'/\w.heap.size<w'.heap.size/\∀A' ρ',Mo A A' ρ ρ'->ρ' next=w.heap.size->A' next->BR P A' ρ' w' w.heap.size b/\VR P A' ρ' w' c u
theorem gH{u:Value}{r:Result Next}(h:r= .ok (.value u) w)(hu:VR P A ρ w c u):XO' P A ρ w r next c none:=⟨u,w,h,rfl,hu⟩
theorem Kn{u:Value}{r:Result Next}{arr:Array Value}{T:TypeId}{l:List C}(h:r= .ok (.value u) (w.alloc (.cells arr T)))(hl:VCs P A ρ w l arr.toList)
  (hu:∀A' ρ',Mo A A' ρ ρ'->ρ' next=w.heap.size->A' next->VR P A' ρ' (w.alloc (.cells arr T)) c u):XO' P A ρ w r next c (some (.cells T l)):=by
 have hb:Below w.heap.size w (w.alloc (.cells arr T)):=(Below.refl _ _).alloc (af _) _;refine⟨u,_,h,hb,by simp,fun A' ρ' m h1 h2=>⟨⟨arr,arr.toList,[],heap_alloc_new w _,by simp,VCs.mo m (Lt.below hb) _ _ hl,fun n e=>?_⟩,hu A' ρ' m h1 h2⟩⟩;rw[cell_of_row _ w.heap.size _ _ _ (0,0) (heap_alloc_new w _)]at e;exact VCs.nw hl n pZ
theorem il{t s:Nat}(h:dm P t=some s):∃i,P.info? t=some i/\i.size=s:=by
 unfold dm at h;exact eY.1 h
theorem scs{l:List Value}(h:l.all (fun v=>v.oneCell'&&(C.sc v).okP)=true):VCs P A ρ w (l.map .sc) l:=by
 induction l with
 |nil=>simp only[jq,VCs]
 |cons v l ih=>
  simp only[qH,eH]at h;simp only[fA,VCs];exact⟨h.1.2,v,l,by rw[wV h.1.1];rfl,by simp only[VR];exact⟨trivial,h.1.1⟩,ih (by simpa using h.2)⟩
theorem oN{t:TypeId}{z:List C}(h:zOf P t=some z):∃i v,P.info? t=some i/\i.zero=some v/\v.cells.size=i.size/\∀(A:Nat->Prop) (ρ:Nat->Nat) (w:World),VCs P A ρ w z v.cells.toList:=by
 unfold zOf at h;obtain⟨i,hi,h⟩:=lp.1 h;obtain⟨v,hv,h⟩:=lp.1 h;split at h
 ·next hc=>
  simp only[ak]at h;subst h;simp only[eH]at hc;exact⟨i,v,hi,hv,by simpa using hc.2,fun _ _ _=>scs hc.1⟩
 ·cases h
theorem CJ(v:Value):VR P A ρ w (ofV v) v:=by
 cases v with
 |agg cs=>
  simp only[ofV];split
  ·next h=>simp only[VR];exact⟨cs,rfl,scs h⟩
  ·simp only[VR]
 |func f first cs=>
  cases f with
  |func g=>
   simp only[ofV];split
   ·next h1 h2=>
    simp only[VR,VRl];have e1:first= #[]:=zT h1
    have e2:cs= #[]:=zT h2;subst e1;subst e2;exact⟨_,rfl,rfl⟩
   ·simp only[VR]
  |_=>simp only[ofV,VR]
 |tuple vs=>simp only[ofV,VR]
 |_=>simp only[ofV,VR,Value.oneCell',and_self]
def OpV(P:Program)(A:Nat->Prop)(ρ:Nat->Nat)(w:World)(tm:Tm)(a:Act)(x:Operand):Prop:=VR P A ρ w ((aS x).ev tm) (a.eval x)
theorem TR.op(h:TR P A ρ w tm a.tmps)(x:Operand):OpV P A ρ w tm a x:=by
 cases x with
 |tmp t=>
  have:=h t;unfold OpV;simpa[aS,Act.eval]using this
 |const v=>exact CJ v
 |global g=>simp only[OpV,aS,CO.ev,VR]
 |func g=>
  show VR P A ρ w (.fn g []) (.func (.func g) #[] #[]);simp only[VR,VRl];exact⟨_,rfl,rfl⟩
theorem iX{c:C}{n:Nat}{u:Value}(h:ju c=some n)(hu:VR P A ρ w c u):∃k,u= .int k (n:Int):=by
 unfold ju at h;split at h
 ·next k m=>
  simp only[ak]at h;subst h;simp only[VR]at hu;exact⟨k,hu.1⟩
 ·cases h
theorem Gi(vs:List Value)(off:Nat)(cs:Array Value)(h:off+vs.length<=cs.size):(vs.zipIdx.foldl (fun cs (x:Value×Nat)=>cs.setIfInBounds (off+x.2) x.1) cs).toList=cs.toList.take off++vs++cs.toList.drop (off+vs.length):=by
 obtain⟨h1,h2⟩:=Go.Great.foldl_set off vs 0 cs;refine pF fun k=>?_;rw[eL,h2 k];simp only[bZ];by_cases hk:k<off
 ·rw[aj aa,fK,dC cU,jo hk,eL]
 ·by_cases hk2:k<off+vs.length
  ·rw[an aa,dC cU,ez cU];simp only[aY,bX];rw[dK aa]
  ·rw[aj aa,ez cU,eF];simp only[cv,aY,bX];rw[dK aa,show off+vs.length+(k-(off+vs.length))=k by omega,eL]
theorem qk{t:TypeId}(pf:Nat->Option (Nat×Nat))(hpf:∀i x,place P t i=some x->pf i=some x):∀(pl:List (Nat×Operand)) (ps:List (Nat×Nat×CO)) (l l':List C) (cells:Array Value),placesOf P t pl=some ps->sA l (parts tm ps)=some l'->VCs P A ρ w l cells.toList->
  (∀p∈pl,OpV P A ρ w tm a p.2)->∃cells',Instr.fill pf cells (pl.map fun p=>(p.1,a.eval p.2))=some cells'/\VCs P A ρ w l' cells'.toList
 |[],ps,l,l',cells,h1,h2,h3,_=>by
  simp only[placesOf,ak]at h1;subst h1;simp only[parts,sA,ak]at h2;subst h2;exact⟨cells,rfl,h3⟩
 |(i,x)::pl,ps,l,l',cells,h1,h2,h3,h4=>by
  simp only[placesOf]at h1;obtain⟨⟨off,s⟩,e1,h1⟩:=lp.1 h1;obtain⟨ps',e2,rfl⟩:=eY.1 h1;simp only[parts,sA]at h2;obtain⟨p,e3,h2⟩:=lp.1 h2;split at h2
  ·next hw=>
   have hw':ET p=s:=by simpa using hw
   obtain⟨l1,e4,h2⟩:=lp.1 h2;have hv:=h4 _ bn;have hp:=VR.flat hv e3;have hlen:=hp.len;simp only at hlen hv hp;obtain⟨k1,k2⟩:=h3.set hp e4;have hsz:(a.eval x).cells.size=s:=by rw[<-hw',<-hlen,bX]
   have hfo:=Gi (a.eval x).cells.toList off cells (by rw[bX,hsz];simpa using k2);obtain⟨cells',e5,k3⟩:=qk pf hpf pl ps' l1 l' ((a.eval x).cells.toList.zipIdx.foldl (fun cs (x:Value×Nat)=>cs.setIfInBounds (off+x.2) x.1) cells) e2 h2 (by
    rw[hfo,bX,hsz];exact k1) (fun q hq=>h4 q (bu _ hq))
   refine⟨cells',?_,k3⟩;simp only[fA];unfold Instr.fill;simp only[hpf _ _ e1];rw[aj (by simp[hsz];simpa using k2),<-e5];congr 1;rw[<-EH,Array.toList_zipIdx]
  ·cases h2
theorem Py{fs:List Field}(h:fs.all (fun f:Field=>(P.info? f.type).isSome)=true):∃pl,fs.mapM (fun f:Field=>(P.info? f.type).map fun i=>(f.offset,i.size))=some pl/\∀(i:Nat) (f:Field) (s:Nat),fs[i]?=some f->dm P f.type=some s->pl[i]?=some (f.offset,s):=by
 induction fs with
 |nil=>exact⟨[],rfl,fun i f s h=>by simp at h⟩
 |cons f fs ih=>
  simp only[qH,eH]at h;obtain⟨pl,e1,e2⟩:=ih h.2;obtain⟨inf,e3⟩:=cV.1 h.1;refine⟨(f.offset,inf.size)::pl,by simp[List.mapM_cons,e3,e1],fun i f' s hf hs=>?_⟩
  cases i with
  |zero=>
   simp only[List.getElem?_cons_zero,ak]at hf;subst hf;simp only[dm,e3,cG,ak]at hs;subst hs;rfl
  |succ i=>exact e2 i f' s (by simpa using hf) hs
theorem PA(z:Array Value)(n:Nat):(madeCells z ((n+1)*z.size)).toList=z.toList++(madeCells z (n*z.size)).toList:=by
 refine pF fun k=>?_;by_cases hz:z.size=0
 ·have:z= #[]:=zT hz;subst this;simp[madeCells]
 by_cases hk:k<z.size
 ·rw[dC (by simpa using hk),eL,eL];unfold madeCells;have:k<(n+1)*z.size:=by rw[bO,dc];omega
  simp[this,px hk,hk]
 ·rw[ez cU,eL,eL,bX];unfold madeCells;by_cases hk2:k<(n+1)*z.size
  ·have hk3:k-z.size<n*z.size:=by rw[bO,dc]at hk2;omega
   have hm:(k-z.size)%z.size=k%z.size:=by
    conv=>rhs;rw[show k=k-z.size+z.size by omega]
    rw[Nat.add_mod_right]
   simp[hk2,hk3,hm]
  ·have hk3:¬k-z.size<n*z.size:=by rw[bO,dc]at hk2;omega
   simp[hk2,hk3]
theorem qh{z:List C}{zc:Array Value}(h:VCs P A ρ w z zc.toList):∀n,VCs P A ρ w (og z n) (madeCells zc (n*zc.size)).toList
 |0=>by simp[og,VCs,madeCells]
 |n+1=>by rw[PA];exact VCs.app (qh h n) h
def HV(P:Program)(A:Nat->Prop)(ρ:Nat->Nat)(w:World)(tm:Tm)(a:Act)(o:Oper):Prop:=∀y∈o.op.operands,OpV P A ρ w tm a y
theorem LF(hv:HV P A ρ w tm a o){x:Operand}(ho:o.op= .move x\/o.op= .assign x):XO' P A ρ w ((execOp a.eval o).run P w) next ((aS x).ev tm) none:=by
 refine gH (u:=a.eval x) ?_ (hv x (by rcases ho with ho|ho<;>rw[ho]<;>simp[Op.operands]));rcases ho with ho|ho<;>(unfold execOp;rw[ho];rfl)
theorem LD(hv:HV P A ρ w tm a o){x y z:Operand}{t:Bool}(ho:o.op= .pick x y z)(hc:(aS x).ev tm= .sc (.bool t)):XO' P A ρ w ((execOp a.eval o).run P w) next ((aS (if t then y else z)).ev tm) none:=by
 have h1:=hv x bU;unfold OpV at h1;rw[hc]at h1;simp only[VR]at h1;refine gH (u:=a.eval (if t then y else z)) ?_ (hv _ (by rw[ho];cases t<;>simp[Op.operands]));unfold execOp;rw[ho];cases t<;>simp[h1.1,asBool]
theorem Tf{t:TypeId}{z:List C}(ho:o.op= .alloc t)(hz:zOf P t=some z):XO' P A ρ w ((execOp a.eval o).run P w) next (.pt next 0) (some (.cells t z)):=by
 obtain⟨i,v,h1,h2,_,h3⟩:=oN hz;refine Kn (u:=.pointer (some ⟨w.heap.size,0,none⟩)) (arr:=v.cells) ?_ (h3 _ _ _) (fun A' ρ' m e1 e2=>by simp only[VR];exact⟨e2,by rw[e1]⟩);unfold execOp;rw[ho];simp[Instr.alloc,zeroValue,typeInfo,h1,h2,newVar,newRow]
theorem x_box(hv:HV P A ρ w tm a o){t:TypeId}{x:Operand}{p:List C}(ho:o.op= .box t x)(hp:((aS x).ev tm).flat=some p):XO' P A ρ w ((execOp a.eval o).run P w) next (.pt next 0) (some (.cells t p)):=by
 have h1:=hv x bU;refine Kn (u:=.pointer (some ⟨w.heap.size,0,none⟩)) (arr:=(a.eval x).cells) ?_ (VR.flat h1 hp) (fun A' ρ' m e1 e2=>by simp only[VR];exact⟨e2,by rw[e1]⟩);unfold execOp;rw[ho];simp[Instr.box,newVar,newRow]
theorem CP(hv:HV P A ρ w tm a o){ps:Array (Nat×Operand)}{t:TypeId}{n:Nat}(ho:o.op= .build t ps\/o.op= .buildSlice t n ps):∀p∈ps.toList,OpV P A ρ w tm a p.2:=fun p hp=>by
 refine hv p.2 ?_;rcases ho with ho|ho<;>rw[ho]<;>simp only[Op.operands]<;>simp only[List.mem_toArray,dY]<;>exact⟨p,hp,rfl⟩
theorem Te(hv:HV P A ρ w tm a o){t:TypeId}{ps:Array (Nat×Operand)}{z:List C}{pl:List (Nat×Nat×CO)}{l:List C}(ho:o.op= .build t ps)(hz:zOf P t=some z)(hp:placesOf P t ps.toList=some pl)
  (hu:(∃fs,P.underlying t=some (.struct fs)/\fs.toList.all (fun f=>(P.info? f.type).isSome)=true)\/∃n e s,P.underlying t=some (.array n e)/\dm P e=some s) (hf:sA z (parts tm pl)=some l):XO' P A ρ w ((execOp a.eval o).run P w) next (.ag l) none:=by
 obtain⟨i,v,h1,h2,_,h3⟩:=oN hz;have hm:=CP hv (n:=0) (.inl ho);have key:∃cells,P.built t ((ps.map fun (i,x)=>(i,a.eval x)).toList)=some cells/\VCs P A ρ w l cells.toList:=by
  unfold Program.built;rcases hu with⟨fs,hu,hall⟩|⟨n,e,es,hu,hes⟩
  ·obtain⟨places,e1,e2⟩:=Py hall;simp only[h1,hu,h2,e1];obtain⟨cells,k1,k2⟩:=qk (places.toArray[·]?) (fun i x hx=>by
    unfold place at hx;rw[hu]at hx;obtain⟨f,hf,hx⟩:=lp.1 hx;obtain⟨s,hs,rfl⟩:=eY.1 hx;simpa using e2 i f s (by simpa using hf) hs) ps.toList pl z l v.cells hp hf (h3 _ _ _) hm
   exact⟨cells,by rw[<-k1];congr 1;simp,k2⟩
  ·obtain⟨ie,hie,his⟩:=il hes;simp only[h1,hu,h2,hie];obtain⟨cells,k1,k2⟩:=qk (t:=t) (fun i=>some (i*ie.size,ie.size)) (fun i x hx=>by
    unfold place at hx;rw[hu]at hx;simpa[dm,hie]using hx) ps.toList pl z l v.cells hp hf (h3 _ _ _) hm
   exact⟨cells,by rw[<-k1];congr 1;simp,k2⟩
 obtain⟨cells,k1,k2⟩:=key;refine gH (u:=.agg cells) ?_ (by simp only[VR];exact⟨cells,rfl,k2⟩);unfold execOp;rw[ho];simp[run_build (P:=P) w t _ cells k1]
theorem x_bsl(hv:HV P A ρ w tm a o){t e:TypeId}{n s:Nat}{ps:Array (Nat×Operand)}{z:List C}{pl:List (Nat×Nat×CO)}{l:List C}(ho:o.op= .buildSlice t n ps)(hu:P.underlying t=some (.slice e))(hs:dm P e=some s)(hz:zOf P e=some z)(hp:placesOf P t ps.toList=some pl)
  (hb:n*s<=16777216) (h0:0<s) (hn0:0<n\/ps.toList=[]) (hf:sA (og z n) (parts tm pl)=some l):XO' P A ρ w ((execOp a.eval o).run P w) next (.sl next 0 n n true) (some (.cells e l)):=by
 obtain⟨i,v,h1,h2,hsz,h3⟩:=oN hz;have hi:i.size=s:=by simpa[dm,h1]using hs
 have hm:=CP hv (.inr ho);obtain⟨cells,k1,k2⟩:=qk (t:=t) (fun i=>some (i*s,s)) (fun i x hx=>by
  unfold place at hx;rw[hu]at hx;simp only[hs,cG,ak]at hx;rw[hx]) ps.toList pl (og z n) l (madeCells v.cells (n*v.cells.size)) hp hf (qh (h3 _ _ _) n) hm
 have hsl:∀A' ρ',Mo A A' ρ ρ'->ρ' next=w.heap.size->A' next->VR P A' ρ' (w.alloc (.cells cells e)) (.sl next 0 n n true) (.slice (some ⟨w.heap.size,0,none⟩) n n):=fun A' ρ' m e1 e2=>by
  simp only[VR,Bool.true_eq_false,false_imp_iff,and_true,true_imp_iff];exact⟨e2,n,by rw[e1],af _,af _,rfl⟩
 refine Kn (u:= .slice (some ⟨w.heap.size,0,none⟩) n n) (arr:=cells) ?_ k2 hsl;unfold execOp;rw[ho];by_cases hn:n=0
 ·subst hn;have hps:ps= #[]:=cM.1 (hn0.resolve_left aa);subst hps;have hc:cells= #[]:=by
   simp[Instr.fill,madeCells,Array.range_zero']at k1;exact k1
  subst hc;simp[Instr.buildSlice,run_underlying hu,sizeOf,typeInfo,h1,newRow,Instr.fill,Array.range_zero']
 ·have hr := run_buildSlice (P := P) w t e n (ps.map fun (i, x) => (i, a.eval x)) cells i v hu h1 h2 (by rw [hi]; omega) (by rw [hi]; exact fun e => by rcases Nat.mul_eq_zero.1 e with e | e <;> omega) (by
   rw[hi,<-k1,hsz,hi];unfold madeCells;rw[hsz,hi];congr 1;simp)
  simp[hr]
end CI
end
section
open Go.RowKit
namespace CI
variable {P : Program} {A : Nat->Prop} {ρ : Nat->Nat} {w : World} {tm : Tm} {a : Act} {o : Oper} {next : Nat} {c : C} {ob : Option B}
theorem VV{k k':IntKind}(h:ikB k k'=true):k=k':=by cases k<;>cases k'<;>simp_all [ikB]
theorem not_neg{q:Int}(h:isNeg q=false):¬q<0:=by
 cases q with
 |ofNat n=>simp
 |negSucc n=>simp[isNeg]at h
theorem VR.int{k:IntKind}{p:Int}{u:Value}(h:VR P A ρ w (.sc (.int k p)) u):u= .int k p:=by simp only[VR]at h;exact h.1
theorem VR.bool{b:Bool}{u:Value}(h:VR P A ρ w (.sc (.bool b)) u):u= .bool b:=by simp only[VR]at h;exact h.1
theorem jT{u:Value}(h:u.oneCell'=true):VR P A ρ w (.sc u) u:=by simp only[VR];exact⟨trivial,h⟩
theorem x_bin(hv:HV P A ρ w tm a o){op:BinOp}{t t':TypeId}{x y:Operand}(ho:o.op= .binOp op t x y t')(hb:bin op ((aS x).ev tm) ((aS y).ev tm)=some c):XO' P A ρ w ((execOp a.eval o).run P w) next c none:=by
 have h1:=hv x bU;have h2:=hv y bU;unfold OpV at h1 h2;unfold bin at hb;split at hb
 ·next k p k' q e1 e2=>
  rw[e1]at h1;rw[e2]at h2;have h3:=h1.int;have h4:=h2.int;split at hb
  ·split at hb
   ·cases hb
   ·next hn=>
    simp only[ak]at hb;subst hb;refine gH ?_ (jT rfl);unfold execOp;rw[ho];simp[h3,h4,eqGuard,binOp,Op.shift,not_neg hn]
  ·split at hb
   ·cases hb
   ·next hn=>
    simp only[ak]at hb;subst hb;refine gH ?_ (jT rfl);unfold execOp;rw[ho];simp[h3,h4,eqGuard,binOp,Op.shift,not_neg hn]
  ·next hs1 hs2=>
   split at hb
   ·next hk=>
    have hk':=VV hk;subst hk';obtain⟨u,e3,rfl⟩:=eY.1 hb;have hu:u.oneCell'=true/\((do eqGuard op t x y (.int k p) (.int k q);binOp op t (.int k p) (.int k q):Sem Value)).run P w= .ok u w:=by
     unfold binZ at e3;split at e3<;>try(simp only[ak]at e3;subst e3;refine⟨rfl,?_⟩;simp[eqGuard,binOp,Op.intArith,Op.intCmp];done)
     ·split at e3
      ·cases e3
      ·next hq=>
       simp only[ak]at e3;subst e3;exact⟨rfl,by simp[eqGuard,binOp,Op.intDiv,show q≠0 from fun e=>hq e]⟩
     ·split at e3
      ·cases e3
      ·next hq=>
       simp only[ak]at e3;subst e3;exact⟨rfl,by simp[eqGuard,binOp,Op.intDiv,show q≠0 from fun e=>hq e]⟩
     ·cases e3
    refine gH ?_ (jT hu.1);unfold execOp;rw[ho];simp only[h3,h4];rw[Sem.run_bind,hu.2];rfl
   ·cases hb
 ·cases hb
theorem Sb(hv:HV P A ρ w tm a o){op:BinOp}{t t':TypeId}{x y:Operand}{ng:Bool}(ho:o.op= .binOp op t x y t')(hu:P.underlying t=some .bool)(hop:op=if ng then .neq else .eql)(hb:beqC ng ((aS x).ev tm) ((aS y).ev tm)=some c):XO' P A ρ w ((execOp a.eval o).run P w) next c none:=by
 have h1:=hv x bU;have h2:=hv y bU;unfold OpV at h1 h2;unfold beqC at hb;split at hb
 ·next p q e1 e2=>
  rw[e1]at h1;rw[e2]at h2;have h3:=h1.bool;have h4:=h2.bool;simp only[ak]at hb;subst hb;refine gH ?_ (jT rfl);unfold execOp;rw[ho];subst hop;cases ng
  ·have:=run_eql_bool (P:=P) w t p q hu;simp[h3,h4,eqGuard,this]
  ·have:=run_neq_bool (P:=P) w t p q hu;simp[h3,h4,eqGuard,this]
 ·cases hb
theorem rZ{c:C}{b:Bool}{u:Value}(h:KH c=some b)(hu:VR P A ρ w c u):∃ad n cp,u= .slice ad n cp/\ad.isNone=b:=by
 unfold KH at h;split at h
 ·simp only[ak]at h;subst h;simp only[VR]at hu;exact⟨none,_,_,hu.1,rfl⟩
 ·simp only[ak]at h;subst h;simp only[VR]at hu;obtain⟨_,cap,rfl,_⟩:=hu;exact⟨_,_,_,rfl,rfl⟩
 ·cases h
theorem dB(b o j:Nat):(⟨b,o,none⟩:Addr).add j=⟨b,o+j,none⟩:=Addr.add_mid b o j
theorem Fq(d:Nat)(w:World){t e:TypeId}(ad ad':Option Addr)(n c n' c':Nat)(h:P.underlying t=some (.slice e))(hn:ad.isNone=true\/ad'.isNone=true):(Op.equalIn (d+1) t (.slice ad n c) (.slice ad' n' c')).run P w= .ok (ad.isNone&&ad'.isNone) w:=by
 cases ad<;>cases ad'<;>simp[Op.equalIn,run_underlying h]at hn⊢
theorem Ay(w:World){t e:TypeId}(ad ad':Option Addr)(n c n' c':Nat)(h:P.underlying t=some (.slice e))(hn:ad.isNone=true\/ad'.isNone=true):(Op.equal t (.slice ad n c) (.slice ad' n' c')).run P w= .ok (ad.isNone&&ad'.isNone) w:=
 Fq (P:=P) 9999 w ad ad' n c n' c' h hn
theorem LC(hv:HV P A ρ w tm a o){op:BinOp}{t t' e:TypeId}{x y:Operand}{ng:Bool}(ho:o.op= .binOp op t x y t')(hu:P.underlying t=some (.slice e))(hop:op=if ng then .neq else .eql)(hb:Kz ng ((aS x).ev tm) ((aS y).ev tm)=some c):XO' P A ρ w ((execOp a.eval o).run P w) next c none:=by
 have h1:=hv x bU;have h2:=hv y bU;unfold OpV at h1 h2;unfold Kz at hb;split at hb
 ·next b e1 e2=>
  obtain⟨ad,n,cp,e3,e4⟩:=rZ e1 h1;obtain⟨ad',n',cp',e5,e6⟩:=rZ e2 h2;simp only[ak]at hb;subst hb;refine gH ?_ (jT rfl);have hr:=Ay (P:=P) w ad ad' n cp n' cp' hu (.inl e4);rw[e4,e6]at hr;unfold execOp;rw[ho];subst hop;cases ng<;>simp[e3,e5,eqGuard,binOp,hr]
 ·next e1 e2=>
  obtain⟨ad,n,cp,e3,e4⟩:=rZ e1 h1;obtain⟨ad',n',cp',e5,e6⟩:=rZ e2 h2;simp only[ak]at hb;subst hb;refine gH ?_ (jT rfl);have hr:=Ay (P:=P) w ad ad' n cp n' cp' hu (.inr e6);rw[e4,e6]at hr;unfold execOp;rw[ho];subst hop;cases ng<;>simp[e3,e5,eqGuard,binOp,hr]
 ·cases hb
theorem x_un(hv:HV P A ρ w tm a o){op:UnOp}{t:TypeId}{x:Operand}(ho:o.op= .unOp op t x)(hb:un op ((aS x).ev tm)=some c):XO' P A ρ w ((execOp a.eval o).run P w) next c none:=by
 have h1:=hv x bU;unfold OpV at h1;unfold un at hb;split at hb
 ·next b e1=>
  rw[e1]at h1;simp only[ak]at hb;subst hb;refine gH ?_ (jT rfl);unfold execOp;rw[ho];simp[h1.bool,Op.unary]
 ·next k p e1=>
  rw[e1]at h1;simp only[ak]at hb;subst hb;refine gH ?_ (jT rfl);unfold execOp;rw[ho];simp[h1.int,Op.unary,Op.intArith]
 ·cases hb
theorem Ve(hv:HV P A ρ w tm a o){t1 t2:TypeId}{x:Operand}{k k1 k2:IntKind}{n:Int}(ho:o.op= .convert t1 t2 x)(h1:P.underlying t1=some (.int k1))(h2:P.underlying t2=some (.int k))(hx:(aS x).ev tm= .sc (.int k2 n)):XO' P A ρ w ((execOp a.eval o).run P w) next (.sc (.int k (k.wrap n))) none:=by
 have h3:=hv x bU;unfold OpV at h3;rw[hx]at h3;refine gH ?_ (jT rfl);unfold execOp;rw[ho];simp[convert,run_underlying h1,run_underlying h2,h3.int,Conv.intToInt]
theorem BF(tm:Tm)(a:Act):∀l:List Operand,(∀x∈l,OpV P A ρ w tm a x)->VRl P A ρ w ((sC l).map (·.ev tm)) (l.map a.eval)
 |[],_=>by simp[sC,VRl]
 |x::l,h=>by
  simp only[sC,fA,VRl];exact⟨a.eval x,l.map a.eval,rfl,h x bn,by simpa[sC]using BF tm a l fun y hy=>h y (bu _ hy)⟩
theorem x_mkf(hv:HV P A ρ w tm a o){f:FuncId}{first cs:Array Operand}(ho:o.op= .makeFunc (.func f) first cs)(hs:first.size=0):XO' P A ρ w ((execOp a.eval o).run P w) next (.fn f ((sC cs.toList).map (·.ev tm))) none:=by
 have e1:first= #[]:=zT hs
 subst e1;refine gH (u:=.func (.func f) #[] (cs.map a.eval)) ?_ ?_
 ·unfold execOp;rw[ho];simp[Instr.makeFunc]
 ·simp only[VR];exact⟨_,rfl,by rw[Array.toList_map];exact BF tm a _ fun x hx=>hv x (by rw[ho];simp[Op.operands];simpa using hx)⟩
theorem x_mks(hv:HV P A ρ w tm a o){t e:TypeId}{x y:Operand}{i:TypeInfo}{z:List C}{l m:Nat}(ho:o.op= .makeSlice t x y)(hu:P.underlying t=some (.slice e))(hi:P.info? e=some i)(hz:zOf P e=some z)(hby:i.bytes<=100000)
  (hl:ju ((aS x).ev tm)=some l) (hm:ju ((aS y).ev tm)=some m) (h1:l<=m) (h2:m<=1000000):XO' P A ρ w ((execOp a.eval o).run P w) next (.sl next 0 l m true) (some (.cells e (og z m))):=by
 obtain⟨i',v,k1,k2,k3,k4⟩:=oN hz;rw[hi]at k1;simp only[ak]at k1;subst k1;obtain⟨kl,e1⟩:=iX hl (hv x bU);obtain⟨kc,e2⟩:=iX hm (hv y bU);have hbm:(i.bytes:Int)*m<=100000*1000000:=vW aa aa aa aa;have hr:=run_make (P:=P) w t e i v hu hi k2 kl kc l m aa aa aa aa;simp only[nY]at hr;refine Kn (u:=.slice (some ⟨w.heap.size,0,none⟩) l m) (arr:=madeCells v.cells (m*i.size)) ?_ (by rw[<-k3];exact qh (k4 _ _ _) m) (fun A' ρ' _ e3 e4=>?_)
 ·unfold execOp;rw[ho];simp[e1,e2,hr]
 ·simp only[VR,Bool.true_eq_false,false_imp_iff,and_true,true_imp_iff];exact⟨e4,m,by rw[e3],h1,af _,rfl⟩
theorem nv{x:Option Operand}{d n:Nat}(h:mA tm d (x.map aS)=some n)(hv:∀y,x=some y->OpV P A ρ w tm a y):(x=none/\n=d)\/∃y k,x=some y/\a.eval y= .int k (n:Int):=by
 cases x with
 |none=>simp[mA]at h;exact .inl ⟨rfl,h.symm⟩
 |some y=>
  simp only[cG,mA]at h;obtain⟨k,e⟩:=iX h (hv y rfl);exact .inr ⟨y,k,rfl,e⟩
theorem Bj(w:World)(n cap l h m:Nat)(lo hi mx:Option Value)(hlo:(lo=none/\l=0)\/∃k,lo=some (.int k (l:Int)))(hhi:(hi=none/\mx=none/\h=n)\/∃k,hi=some (.int k (h:Int)))(hmx:(mx=none/\m=cap)\/∃k,mx=some (.int k (m:Int)))
  (h1:m<=cap) (h2:h<=m) (h3:l<=h):(Instr.sliceBounds true n cap lo hi mx).run P w= .ok (l,h,m) w:=by
 have e1:(m:Int)<=(cap:Int):=by omega
 have e2:(h:Int)<=(m:Int):=by omega
 have e3:(l:Int)<=(h:Int):=by omega
 rcases hmx with⟨rfl,rfl⟩|⟨km,rfl⟩<;>rcases hhi with⟨rfl,hm,rfl⟩|⟨kh,rfl⟩<;>rcases hlo with⟨rfl,rfl⟩|⟨kl,rfl⟩<;>first|(cases hm;done)|simp[Instr.sliceBounds,Instr.sliceBound,asIntOf,h1,h2,h3]
theorem x_slc(hv:HV P A ρ w tm a o){t e:TypeId}{x:Operand}{lo hi mx:Option Operand}{s k off n cp:Nat}{ex ex':Bool}{l h m:Nat}{iH:Nat}(ho:o.op= .slice t x lo hi mx)(he:(mx=none/\ex'=ex)\/(mx.isSome=true/\ex'=true))(hu:P.underlying t=some (.slice e))(hs:dm P e=some s)(hhm:hi=none->mx=none)
  (hx:(aS x).ev tm= .sl k off n cp ex) (hl:mA tm 0 (lo.map aS)=some l) (hh:mA tm n (hi.map aS)=some h) (hm:mA tm cp (mx.map aS)=some m) (h1:m<=cp) (h2:h<=m) (h3:l<=h)
  (hoff:KA s off l m ex'=some iH):XO' P A ρ w ((execOp a.eval o).run P w) next (.sl k iH (h-l) (m-l) ex') none:=by
 have hX:=hv x bU;unfold OpV at hX;rw[hx]at hX;simp only[VR]at hX;obtain⟨hA,cap,e0,hn,hc,hex,hne⟩:=hX;have ml:∀y,lo=some y->OpV P A ρ w tm a y:=fun y hy=>hv y Bu;have mh:∀y,hi=some y->OpV P A ρ w tm a y:=fun y hy=>hv y Bu;have mm:∀y,mx=some y->OpV P A ρ w tm a y:=fun y hy=>hv y Bu;obtain⟨i,hi1,hi2⟩:=il hs;obtain⟨m',hm1,hm2,hm3⟩:∃m',((mx.map a.eval=none/\m'=cap)\/∃k,mx.map a.eval=some (.int k (m':Int)))/\(m<=m'/\m'<=cap)/\((mx=none/\m'=cap)\/(mx.isSome=true/\m'=m)):=by
  rcases nv hm mm with⟨r1,r2⟩|⟨y,k,r1,r2⟩
  ·exact⟨cap, .inl ⟨by rw[r1];rfl,rfl⟩,⟨by omega,af _⟩, .inl ⟨r1,rfl⟩⟩
  ·exact⟨m, .inr ⟨k,by rw[r1,cG,r2]⟩,⟨af _,by omega⟩, .inr ⟨by rw[r1];rfl,rfl⟩⟩
 have hb:=Bj (P:=P) w n cap l h m' (lo.map a.eval) (hi.map a.eval) (mx.map a.eval) (by
  rcases nv hl ml with⟨r1,r2⟩|⟨y,k,r1,r2⟩
  ·exact .inl ⟨by rw[r1];rfl,r2⟩
  ·exact .inr ⟨k,by rw[r1,cG,r2]⟩) (by
  rcases nv hh mh with⟨r1,r2⟩|⟨y,k,r1,r2⟩
  ·exact .inl ⟨by rw[r1];rfl,by rw[hhm r1];rfl,r2⟩
  ·exact .inr ⟨k,by rw[r1,cG,r2]⟩) hm1 hm2.2 aa h3
 have hrun:(execOp a.eval o).run P w= .ok (.value (.slice (if m'=l then some ⟨ρ k,off,none⟩else some ((⟨ρ k,off,none⟩:Addr).add (l*s))) (h-l) (m'-l))) w:=by
  unfold execOp;rw[ho];simp only[Instr.sliceAt,Instr.slice,e0,Sem.run_bind,run_underlying hu,Result.andThen_ok,hb];simp[sizeOf,typeInfo,hi1,hi2]
 have hmo:m'=m\/(mx=none/\ex=false):=by
  rcases hm3 with⟨r1,r2⟩|⟨_,r2⟩
  ·cases hx':ex with
   |true=>have:=hex hx';exact .inl (by subst r1;simp[mA]at hm;omega)
   |false=>exact .inr ⟨r1,rfl⟩
  ·exact .inl r2
 have haddr:(if m'=l then some (⟨ρ k,off,none⟩:Addr)else some ((⟨ρ k,off,none⟩:Addr).add (l*s)))=some ⟨ρ k,iH,none⟩/\(iH=0->l=0/\off=0\/m=l/\m'=m/\ex'=true):=by
  unfold KA at hoff;split at hoff
  ·simp only[ak]at hoff;subst hoff;refine⟨?_,fun e=> .inl ⟨rfl,e⟩⟩;rw[lW,dB,bZ];split<;>rfl
  ·next hl0=>
   split at hoff
   ·next hml=>
    have hml':m=l:=by simpa using hml
    cases hE:ex' with
    |true=>
     rw[hE]at hoff;simp only[ak]at hoff;subst hoff;have hmm:m'=m:=hmo.resolve_right fun r=>by
      rcases he with⟨_,e1⟩|⟨e1,_⟩
      ·rw[e1,r.2]at hE;cases hE
      ·rw[r.1]at e1;cases e1
     exact⟨by rw[an aa],fun _=> .inr ⟨hml',hmm,rfl⟩⟩
    |false=>rw[hE]at hoff;cases hoff
   ·next hml=>
    have hml':m≠l:=Aa hml;split at hoff
    ·cases hoff
    ·next hs0=>
     simp only[ak]at hoff;subst hoff;refine⟨by rw[aj aa,dB],fun e=>?_⟩;have:0<l*s:=tE (qK hl0) (qK hs0);omega
 rw[haddr.1]at hrun;refine gH hrun ?_;simp only[VR];refine⟨hA,m'-l,rfl,by omega,by omega,fun e=>?_,fun e eo=>?_⟩
 ·rcases hmo with r|⟨r1,r2⟩
  ·rw[r]
  ·rcases he with⟨_,e1⟩|⟨e1,_⟩
   ·rw[e1,r2]at e;cases e
   ·rw[r1]at e1;cases e1
 ·rcases haddr.2 eo with⟨r1,r2⟩|⟨_,_,r3⟩
  ·have hmx : mx = none /\ ex = false := by
    rcases he with⟨e1,e2⟩|⟨_,e2⟩
    ·exact⟨e1,by rw[<-e2];exact e⟩
    ·rw[e2]at e;cases e
   obtain⟨r3,T,s',r4,r5⟩:=hne hmx.2 r2;have:m'=cap:=by
    rcases hm3 with⟨_,r⟩|⟨r,_⟩
    ·exact r
    ·rw[hmx.1]at r;cases r
   rw[this,r1,lv];exact⟨r3,T,s',r4,r5⟩
  ·rw[r3]at e;cases e
theorem Oy(hv:HV P A ρ w tm a o){t e:TypeId}{x:Operand}{lo hi mx:Option Operand}{s:Nat}(ho:o.op= .slice t x lo hi mx)(hu:P.underlying t=some (.slice e))(hs:dm P e=some s)(hhm:hi=none->mx=none)
  (hx:(aS x).ev tm= .sc (.slice none 0 0)) (hl:mA tm 0 (lo.map aS)=some 0) (hh:mA tm 0 (hi.map aS)=some 0) (hm:mA tm 0 (mx.map aS)=some 0):XO' P A ρ w ((execOp a.eval o).run P w) next (.sc (.slice none 0 0)) none:=by
 have hX:=hv x bU;unfold OpV at hX;rw[hx]at hX;simp only[VR]at hX;have ml:∀y,lo=some y->OpV P A ρ w tm a y:=fun y hy=>hv y Bu;have mh:∀y,hi=some y->OpV P A ρ w tm a y:=fun y hy=>hv y Bu;have mm:∀y,mx=some y->OpV P A ρ w tm a y:=fun y hy=>hv y Bu;obtain⟨i,hi1,hi2⟩:=il hs;have hb:=Bj (P:=P) w 0 0 0 0 0 (lo.map a.eval) (hi.map a.eval) (mx.map a.eval) (by
  rcases nv hl ml with⟨r1,r2⟩|⟨y,k,r1,r2⟩
  ·exact .inl ⟨by rw[r1];rfl,r2⟩
  ·exact .inr ⟨k,by rw[r1,cG,r2]⟩) (by
  rcases nv hh mh with⟨r1,r2⟩|⟨y,k,r1,r2⟩
  ·exact .inl ⟨by rw[r1];rfl,by rw[hhm r1];rfl,r2⟩
  ·exact .inr ⟨k,by rw[r1,cG,r2]⟩) (by
  rcases nv hm mm with⟨r1,r2⟩|⟨y,k,r1,r2⟩
  ·exact .inl ⟨by rw[r1];rfl,r2⟩
  ·exact .inr ⟨k,by rw[r1,cG,r2]⟩) (af _) (af _) (af _)
 refine gH (u:=.slice none 0 0) ?_ (jT rfl);unfold execOp;rw[ho];simp only[Instr.sliceAt,Instr.slice,hX.1,Sem.run_bind,run_underlying hu,Result.andThen_ok,hb];simp[sizeOf,typeInfo,hi1]
end CI
end
section
open Go.RowKit
namespace CI
variable {P : Program} {A : Nat->Prop} {ρ : Nat->Nat} {w : World} {tm : Tm} {a : Act} {o : Oper} {next : Nat} {c : C} {ob : Option B}
theorem sf{t:TypeId}{r:Bool}(h:rowOf P t=some r)(w:World):(isAgg t).run P w= .ok r w:=by
 unfold rowOf at h
 cases hu:P.underlying t with
 |none=>rw[hu]at h;cases h
 |some d=>
  unfold isAgg;rw[Sem.run_bind,run_underlying hu w];rw[hu]at h;cases d<;>simp at h<;>subst h<;>rfl
theorem Qh(cs:Array Value)(i n:Nat):(cs.extract i (i+n)).toList=(cs.toList.drop i).take n:=by
 simp
theorem Fx{t:TypeId}{r:Bool}{s off:Nat}{cs:Array Value}{p l:List C}{c:C}(hr:rowOf P t=some r)(hs:dm P t=some s)(hl:VCs P A ρ w l cs.toList)(hp:rf l off s=some p)(hc:kD r p=some c):∃u,(Go.part t cs off).run P w= .ok u w/\VR P A ρ w c u:=by
 obtain⟨i,hi1,hi2⟩:=il hs;obtain⟨k1,k2⟩:=hl.get hp;have k3:=k1.kD hc
 cases r with
 |true=>
  simp only[if_true]at k3;refine⟨.agg (cs.extract off (off+s)),?_,?_⟩
  ·unfold Go.part;simp[sf hr,sizeOf,typeInfo,hi1,hi2]
  ·have : cs.extract off (off + s) = ((cs.toList.drop off).take s).toArray := by
    apply cM.1;rw[Qh]
   rw[this];exact k3
 |false=>
  simp only[zU,if_false]at k3;obtain⟨u,e,k4⟩:=k3;refine⟨u,?_,k4⟩;have h0:((cs.toList.drop off).take s)[0]?=some u:=by rw[e];rfl
  have h1:cs[off]?=some u:=by
   rw[iB]at h0;split at h0
   ·rw[eF,bZ,eL]at h0;exact h0
   ·cases h0
  unfold Go.part;simp[sf hr,h1]
theorem x_fa(hv:HV P A ρ w tm a o){t:TypeId}{x:Operand}{i k off s:Nat}{fs:Array Field}{f:Field}(ho:o.op= .fieldAddr t x i)(hu:P.underlying t=some (.struct fs))(hf:fs[i]?=some f)(hs:dm P f.type=some s)(h0:s≠0)(hx:(aS x).ev tm= .pt k off):XO' P A ρ w ((execOp a.eval o).run P w) next (.pt k (off+f.offset)) none:=by
 have hX:=hv x bU;unfold OpV at hX;rw[hx]at hX;simp only[VR]at hX;obtain⟨j,hj1,hj2⟩:=il hs;refine gH (u:=.pointer (some ⟨ρ k,off+f.offset,none⟩)) ?_ (by simp only[VR];exact⟨hX.1,trivial⟩);unfold execOp;rw[ho];have h0':j.size≠0:=by omega
 simp[hX.2,Instr.fieldAt,run_underlying hu,hf,Instr.sureAddr,fieldPlace,sizeOf,typeInfo,hj1,h0',dB]
theorem x_fd(hv:HV P A ρ w tm a o){t:TypeId}{x:Operand}{i s:Nat}{r:Bool}{fs:Array Field}{f:Field}{l p:List C}(ho:o.op= .field t x i)(hu:P.underlying t=some (.struct fs))(hf:fs[i]?=some f)(hs:dm P f.type=some s)(hr:rowOf P f.type=some r)(hx:(aS x).ev tm= .ag l)(hp:rf l f.offset s=some p)(hc:kD r p=some c):XO' P A ρ w ((execOp a.eval o).run P w) next c none:=by
 have hX:=hv x bU;unfold OpV at hX;rw[hx]at hX;simp only[VR]at hX;obtain⟨cs,e1,hl⟩:=hX;obtain⟨u,k1,k2⟩:=Fx hr hs hl hp hc;refine gH (u:=u) ?_ k2;unfold execOp;rw[ho];simp[Instr.field,run_underlying hu,hf,e1,asAgg,k1]
theorem La{t e:TypeId}(h:P.underlying t=some (.slice e)):P.elem t=e:=by unfold Program.elem;rw[h]
theorem x_ia(hv:HV P A ρ w tm a o){t e:TypeId}{x y:Operand}{i k off n cp s:Nat}{ex:Bool}(ho:o.op= .indexAddr t x y)(hu:P.underlying t=some (.slice e))(hs:dm P e=some s)(hi:ju ((aS y).ev tm)=some i)(hx:(aS x).ev tm= .sl k off n cp ex)(hlt:i<n):XO' P A ρ w ((execOp a.eval o).run P w) next (.pt k (off+i*s)) none:=by
 have hX:=hv x bU;unfold OpV at hX;rw[hx]at hX;simp only[VR]at hX;obtain⟨hA,cap,e1,_⟩:=hX;obtain⟨ki,e2⟩:=iX hi (hv y bU);obtain⟨j,hj1,hj2⟩:=il hs;refine gH (u:=.pointer (some ⟨ρ k,off+i*s,none⟩)) ?_ (by simp only[VR];exact⟨hA,trivial⟩);unfold execOp;rw[ho];have he:=La hu;have hrun:=run_indexAt_slice (P:=P) (w:=w) t ⟨ρ k,off,none⟩ n cap ki (i:Int) (by rw[he];exact hu);rw[an ⟨by omega,by omega⟩]at hrun;simp only[Sem.run_bind,e1,e2,hrun];simp[sizeOf,typeInfo,he,hj1,hj2,dB]
theorem x_iaA(hv:HV P A ρ w tm a o){t e:TypeId}{x y:Operand}{i k off n s:Nat}(ho:o.op= .indexAddr t x y)(hu:P.underlying t=some (.array n e))(hs:dm P e=some s)(hi:ju ((aS y).ev tm)=some i)(hx:(aS x).ev tm= .pt k off)(hlt:i<n):XO' P A ρ w ((execOp a.eval o).run P w) next (.pt k (off+i*s)) none:=by
 have hX:=hv x bU;unfold OpV at hX;rw[hx]at hX;simp only[VR]at hX;obtain⟨hA,e1⟩:=hX;obtain⟨ki,e2⟩:=iX hi (hv y bU);obtain⟨j,hj1,hj2⟩:=il hs;refine gH (u:=.pointer (some ⟨ρ k,off+i*s,none⟩)) ?_ (by simp only[VR];exact⟨hA,trivial⟩);unfold execOp;rw[ho];have hlt':(i:Int)<(n:Int):=by omega
 simp[Instr.indexAt,e1,e2,asIntOf,run_underlying hu,Instr.sureAddr,hlt,sizeOf,typeInfo,hj1,hj2,dB]
theorem x_ix(hv:HV P A ρ w tm a o){t e:TypeId}{x y:Operand}{i n s:Nat}{r:Bool}{l p:List C}(ho:o.op= .index t x y)(hu:P.underlying t=some (.array n e))(hs:dm P e=some s)(hr:rowOf P e=some r)(hi:ju ((aS y).ev tm)=some i)(hx:(aS x).ev tm= .ag l)(hlt:i<n)(hp:rf l (i*s) s=some p)(hc:kD r p=some c):XO' P A ρ w ((execOp a.eval o).run P w) next c none:=by
 have hX:=hv x bU;unfold OpV at hX;rw[hx]at hX;simp only[VR]at hX;obtain⟨cs,e1,hl⟩:=hX;obtain⟨ki,e2⟩:=iX hi (hv y bU);obtain⟨j,hj1,hj2⟩:=il hs;obtain⟨u,k1,k2⟩:=Fx hr hs hl hp hc;refine gH (u:=u) ?_ k2;unfold execOp;rw[ho];simp[Instr.index,e1,e2,asIntOf,run_underlying hu,hlt,sizeOf,typeInfo,hj1,hj2,k1]
theorem x_sx(hv:HV P A ρ w tm a o){t:TypeId}{x y:Operand}{i:Nat}{s:ByteArray}{b:UInt8}(ho:o.op= .index t x y)(hu:P.underlying t=some .string)(hi:ju ((aS y).ev tm)=some i)(hx:(aS x).ev tm= .sc (.string s))(hb:s[i]?=some b):XO' P A ρ w ((execOp a.eval o).run P w) next (.sc (.int .u8 b.toNat)) none:=by
 have hX:=hv x bU;unfold OpV at hX;rw[hx]at hX;simp only[VR]at hX;obtain⟨ki,e2⟩:=iX hi (hv y bU);refine gH (u:=.int .u8 b.toNat) ?_ (jT rfl);unfold execOp;rw[ho];simp[Instr.index,hX.1,e2,asIntOf,run_underlying hu,hb]
theorem VRl.at:∀{l:List C} {vs:List Value} {i:Nat} {c:C},VRl P A ρ w l vs->l[i]?=some c->∃u,vs[i]?=some u/\VR P A ρ w c u
 |[],_,_,_,_,h=>by simp at h
 |d::l,vs,0,c,h,e=>by
  simp only[VRl]at h;simp at e;subst e;obtain⟨u,rest,rfl,h2,_⟩:=h;exact⟨u,rfl,h2⟩
 |d::l,vs,i+1,c,h,e=>by
  simp only[VRl]at h;obtain⟨u,rest,rfl,h2,h3⟩:=h;obtain⟨u',k1,k2⟩:=VRl.at h3 pZ;exact⟨u',by simpa using k1,k2⟩
theorem x_ext(hv:HV P A ρ w tm a o){x:Operand}{i:Nat}{l:List C}(ho:o.op= .extract x i)(hx:(aS x).ev tm= .tp l)(hc:l[i]?=some c):XO' P A ρ w ((execOp a.eval o).run P w) next c none:=by
 have hX:=hv x bU;unfold OpV at hX;rw[hx]at hX;simp only[VR]at hX;obtain⟨vs,e1,h2⟩:=hX;obtain⟨u,k1,k2⟩:=VRl.at h2 hc;refine gH (u:=u) ?_ k2;unfold execOp;rw[ho];have k1':vs[i]?=some u:=by simpa using k1
 simp[e1,Instr.extract,k1']
theorem x_nc(hv:HV P A ρ w tm a o){x:Operand}(ho:o.op= .nilCheck x)(hx:(∃k off,(aS x).ev tm= .pt k off)\/(∃f cs,(aS x).ev tm= .fn f cs)\/(∃k,(aS x).ev tm= .yl k)):XO' P A ρ w ((execOp a.eval o).run P w) next ((aS x).ev tm) none:=by
 have hX:=hv x bU;refine gH (u:=a.eval x) ?_ hX;unfold OpV at hX;unfold execOp;rw[ho];rcases hx with⟨k,off,e⟩|⟨f,cs,e⟩|⟨k,e⟩<;>rw[e]at hX<;>simp only[VR]at hX
 ·simp[hX.2]
 ·obtain⟨us,e2,_⟩:=hX;simp[e2]
 ·simp[hX.2]
theorem Ko(hv:HV P A ρ w tm a o){t:TypeId}{x:Operand}{n:Nat}(ho:o.op= .call {callee:= .builtin .len,args:= #[x],argTypes:= #[t]})(hx:(∃e,P.underlying t=some (.slice e)/\((∃k off cp ex,(aS x).ev tm= .sl k off n cp ex)\/∃cp,(aS x).ev tm= .sc (.slice none n cp)))\/(∃s:ByteArray,P.underlying t=some .string/\(aS x).ev tm= .sc (.string s)/\s.size=n)):XO' P A ρ w ((execOp a.eval o).run P w) next (ofN n) none:=by
 have hX:=hv x oL;unfold OpV at hX;refine gH (u:= .int .i64 n) ?_ (jT rfl);unfold execOp;rw[ho];rcases hx with⟨e,hu,hx⟩|⟨s,hu,hx,hn⟩
 ·have : ∃ ad cp, a.eval x = .slice ad n cp := by
   rcases hx with⟨k,off,cp,ex,e1⟩|⟨cp,e1⟩<;>rw[e1]at hX<;>simp only[VR]at hX
   ·obtain⟨_,cap,e2,_⟩:=hX;exact⟨_,_,e2⟩
   ·exact⟨_,_,hX.1⟩
  obtain⟨ad,cp,e2⟩:=this;simp[resolve,invoke,builtin,e2,Builtin.len_,run_underlying hu,goInt]
 ·rw[hx]at hX;simp only[VR]at hX;simp[resolve,invoke,builtin,hX.1,Builtin.len_,run_underlying hu,goInt,hn]
theorem Sa(hv:HV P A ρ w tm a o){t e:TypeId}{x:Operand}{n:Nat}(ho:o.op= .call {callee:=.builtin .cap,args:=#[x],argTypes:=#[t]})(hu:P.underlying t=some (.slice e))(hx:(∃k off m,(aS x).ev tm= .sl k off m n true)\/∃m,(aS x).ev tm= .sc (.slice none m n)):XO' P A ρ w ((execOp a.eval o).run P w) next (ofN n) none:=by
 have hX:=hv x oL;unfold OpV at hX;refine gH (u:=.int .i64 n) ?_ (jT rfl);unfold execOp;rw[ho];have:∃ad m,a.eval x= .slice ad m n:=by
  rcases hx with⟨k,off,m,e1⟩|⟨m,e1⟩<;>rw[e1]at hX<;>simp only[VR]at hX
  ·obtain⟨_,cap,e2,_,_,h3,_⟩:=hX;have:cap=n:=by simpa using h3
   subst this;exact⟨_,_,e2⟩
  ·exact⟨_,_,hX.1⟩
 obtain⟨ad,m,e2⟩:=this;simp[resolve,invoke,builtin,e2,Builtin.cap_,run_underlying hu,goInt]
theorem R9(hv:HV P A ρ w tm a o){ts:Array TypeId}{x y:Operand}{g:Bool}{k k':IntKind}{p q:Int}(ho:o.op= .call {callee:=.builtin (if g then .max else .min),args:=#[x,y],argTypes:=ts})(hx:(aS x).ev tm= .sc (.int k p))(hy:(aS y).ev tm= .sc (.int k' q)):XO' P A ρ w ((execOp a.eval o).run P w) next (.sc (.int k (if g then(if q>p then q else p)else(if q<p then q else p)))) none:=by
 have h1:=hv x oL;have h2:=hv y oL;unfold OpV at h1 h2;rw[hx]at h1;rw[hy]at h2;refine gH (u:=.int k (if g then(if q>p then q else p)else(if q<p then q else p))) ?_ (jT rfl);unfold execOp;rw[ho];cases g<;>simp[resolve,invoke,builtin,h1.int,h2.int,Builtin.max_,Builtin.min_,Builtin.max2,Builtin.min2]
end CI
end
section
open Go.RowKit
namespace CI
variable {P : Program} {A : Nat->Prop} {ρ : Nat->Nat} {w : World} {tm : Tm} {a : Act} {o : Oper} {next : Nat} {c : C} {ob : Option B}
theorem aJ{α β:Type}{f:α->β}{x:Option α}{y:β}(h:x.map f=some y):∃z,x=some z/\f z=y:=eY.1 h
theorem aK{α β:Type}{f:α->Option β}{x:Option α}{y:β}(h:x.bind f=some y):∃z,x=some z/\f z=some y:=lp.1 h
theorem Oz{x:X}(hc:bc P o.op=some x)(hT:x.isT=true)(hx:xT x tm next=some (c,ob))(hv:HV P A ρ w tm a o):XO' P A ρ w ((execOp a.eval o).run P w) next c ob:=by
 cases hop:o.op with
 |move y=>
  rw[hop]at hc;simp only[bc,ak]at hc;subst hc;simp only[xT,ak,aR]at hx;obtain⟨rfl,rfl⟩:=hx;exact LF hv (.inl hop)
 |assign y=>
  rw[hop]at hc;simp only[bc,ak]at hc;subst hc;simp only[xT,ak,aR]at hx;obtain⟨rfl,rfl⟩:=hx;exact LF hv (.inr hop)
 |pick y y1 y2=>
  rw[hop]at hc;simp only[bc,ak]at hc;subst hc;simp only[xT]at hx;split at hx
  ·next e=>
   simp only[ak,aR]at hx;obtain⟨rfl,rfl⟩:=hx;exact LD hv (t:=true) hop e
  ·next e=>
   simp only[ak,aR]at hx;obtain⟨rfl,rfl⟩:=hx;exact LD hv (t:=false) hop e
  ·cases hx
 |alloc t=>
  rw[hop]at hc;simp only[bc]at hc;obtain⟨z,e1,rfl⟩:=aJ hc;simp only[xT,ak,aR]at hx;obtain⟨rfl,rfl⟩:=hx;exact Tf hop e1
 |box t y=>
  rw[hop]at hc;simp only[bc,ak]at hc;subst hc;simp only[xT]at hx;obtain⟨p,e1,e2⟩:=aJ hx;simp only[aR]at e2;obtain⟨rfl,rfl⟩:=e2;exact x_box hv hop e1
 |build t ps=>
  rw[hop]at hc;simp only[bc]at hc;have key:∃z pl,zOf P t=some z/\placesOf P t ps.toList=some pl/\x= .build z pl/\((∃fs,P.underlying t=some (.struct fs)/\fs.toList.all (fun f=>(P.info? f.type).isSome)=true)\/∃n e s,P.underlying t=some (.array n e)/\dm P e=some s):=by
   split at hc
   ·next fs e=>
    split at hc
    ·next hall=>
     obtain⟨z,e1,hc⟩:=aK hc;obtain⟨pl,e2,e3⟩:=aJ hc;exact⟨z,pl,e1,e2,e3.symm,.inl ⟨fs,e,hall⟩⟩
    ·cases hc
   ·next n e' e=>
    obtain⟨s,e0,hc⟩:=aK hc;obtain⟨z,e1,hc⟩:=aK hc;obtain⟨pl,e2,e3⟩:=aJ hc;exact⟨z,pl,e1,e2,e3.symm,.inr ⟨n,e',s,e,e0⟩⟩
   ·cases hc
  obtain⟨z,pl,e1,e2,rfl,e3⟩:=key;simp only[xT]at hx;obtain⟨l,e4,e5⟩:=aJ hx;simp only[aR]at e5;obtain⟨rfl,rfl⟩:=e5;exact Te hv hop e1 e2 e3 e4
 |buildSlice t n ps=>
  rw[hop]at hc;simp only[bc]at hc;split at hc
  ·next e hu=>
   obtain⟨s,e1,hc⟩:=aK hc;obtain⟨z,e2,hc⟩:=aK hc;split at hc
   ·next hb=>
    obtain⟨pl,e3,rfl⟩:=aJ hc;simp only[eH,tz]at hb;simp only[xT]at hx;obtain⟨l,e4,e5⟩:=aJ hx;simp only[aR]at e5;obtain⟨rfl,rfl⟩:=e5;exact x_bsl hv hop hu e1 e2 e3 (gg hb.1.1) (by simpa[bB]using hb.1.2) (hb.2.imp (fun h=>by simpa[bB]using h) (fun h=>List.isEmpty_iff.1 h)) e4
   ·cases hc
  ·cases hc
 |load t y=>
  rw[hop]at hc;simp only[bc]at hc;obtain⟨s,_,hc⟩:=aK hc;obtain⟨r,_,rfl⟩:=aJ hc;simp[X.isT]at hT
 |store t y v=>
  rw[hop]at hc;simp only[bc]at hc;obtain⟨s,_,rfl⟩:=aJ hc;simp[X.isT]at hT
 |binOp op t y y2 t2=>
  rw[hop]at hc;simp only[bc]at hc;split at hc
  ·simp only[ak]at hc;subst hc;simp only[xT]at hx;obtain⟨c',e1,e2⟩:=aJ hx;simp only[aR]at e2;obtain⟨rfl,rfl⟩:=e2;exact x_bin hv hop e1
  ·next hu=>
   split at hc
   ·simp only[ak]at hc;subst hc;simp only[xT]at hx;obtain⟨c',e1,e2⟩:=aJ hx;simp only[aR]at e2;obtain⟨rfl,rfl⟩:=e2;exact Sb hv hop hu rfl e1
   ·simp only[ak]at hc;subst hc;simp only[xT]at hx;obtain⟨c',e1,e2⟩:=aJ hx;simp only[aR]at e2;obtain⟨rfl,rfl⟩:=e2;exact Sb hv hop hu rfl e1
   ·cases hc
  ·next hu=>
   split at hc
   ·simp only[ak]at hc;subst hc;simp only[xT]at hx;obtain⟨c',e1,e2⟩:=aJ hx;simp only[aR]at e2;obtain⟨rfl,rfl⟩:=e2;exact LC hv hop hu rfl e1
   ·simp only[ak]at hc;subst hc;simp only[xT]at hx;obtain⟨c',e1,e2⟩:=aJ hx;simp only[aR]at e2;obtain⟨rfl,rfl⟩:=e2;exact LC hv hop hu rfl e1
   ·cases hc
  ·cases hc
 |unOp op t y=>
  rw[hop]at hc;simp only[bc,ak]at hc;subst hc;simp only[xT]at hx;obtain⟨c',e1,e2⟩:=aJ hx;simp only[aR]at e2;obtain⟨rfl,rfl⟩:=e2;exact x_un hv hop e1
 |convert t1 t2 y=>
  rw[hop]at hc;simp only[bc]at hc;split at hc
  ·next k1 k h1 h2=>
   simp only[ak]at hc;subst hc;simp only[xT]at hx;split at hx
   ·next k2 n e=>
    simp only[ak,aR]at hx;obtain⟨rfl,rfl⟩:=hx;exact Ve hv hop h1 h2 e
   ·cases hx
  ·cases hc
 |makeFunc f first cs=>
  rw[hop]at hc
  cases f with
  |func g=>
   simp only[bc]at hc;split at hc
   ·next hs=>
    simp only[ak]at hc;subst hc;simp only[xT,ak,aR]at hx;obtain⟨rfl,rfl⟩:=hx;exact x_mkf hv hop hs
   ·cases hc
  |_=>simp[bc]at hc
 |makeSlice t y y2=>
  rw[hop]at hc;simp only[bc]at hc;split at hc
  ·next e hu=>
   obtain⟨i,e1,hc⟩:=aK hc;obtain⟨z,e2,hc⟩:=aK hc;split at hc
   ·next hb=>
    simp only[ak]at hc;subst hc;simp only[xT]at hx;split at hx
    ·next l m h1 h2=>
     split at hx
     ·next h3 h4=>
      simp only[ak,aR]at hx;obtain⟨rfl,rfl⟩:=hx;exact x_mks hv hop hu e1 e2 (gg hb) h1 h2 (gg h3) (gg h4)
     ·cases hx
    ·cases hx
   ·cases hc
  ·cases hc
 |slice t y lo hi mx=>
  rw[hop]at hc;simp only[bc]at hc;split at hc
  ·next e hu=>
   have key:∃s,dm P e=some s/\x= .slc s (aS y) (lo.map aS) (hi.map aS) (mx.map aS)/\(hi=none->mx=none):=by
    split at hc
    ·cases hc
    ·next hn=>
     obtain⟨s,e1,e2⟩:=aJ hc;refine⟨s,e1,e2.symm,fun h=>?_⟩
     cases mx with
     |none=>rfl
     |some z=>exact absurd rfl (hn z h)
   obtain⟨s,e1,rfl,hhm⟩:=key;simp only[xT]at hx;split at hx
   ·next k off n cp ex ey=>
    split at hx
    ·next l h m h1 h2 h3=>
     split at hx
     ·next h4 h5 h6=>
      obtain⟨iH,e2,e3⟩:=aJ hx;simp only[aR]at e3;obtain⟨rfl,rfl⟩:=e3;exact x_slc hv hop (by cases mx<;>simp[KX]) hu e1 hhm ey h1 h2 h3 (gg h4) (gg h5) (gg h6) e2
     ·cases hx
    ·cases hx
   ·next ey=>
    split at hx
    ·next h1 h2 h3=>
     simp only[ak,aR]at hx;obtain⟨rfl,rfl⟩:=hx;exact Oy hv hop hu e1 hhm ey h2 h1 h3
    ·cases hx
   ·cases hx
  ·cases hc
 |fieldAddr t y i=>
  rw[hop]at hc;simp only[bc]at hc;split at hc
  ·next fs hu=>
   obtain⟨f,e1,hc⟩:=aK hc;obtain⟨s,e2,hc⟩:=aK hc;split at hc
   ·cases hc
   ·next h0=>
    simp only[ak]at hc;subst hc;simp only[xT]at hx;split at hx
    ·next k off ey=>
     simp only[ak,aR]at hx;obtain⟨rfl,rfl⟩:=hx;exact x_fa hv hop hu e1 e2 (fun e=>h0 e) ey
    ·cases hx
  ·cases hc
 |field t y i=>
  rw[hop]at hc;simp only[bc]at hc;split at hc
  ·next fs hu=>
   obtain⟨f,e1,hc⟩:=aK hc;obtain⟨s,e2,hc⟩:=aK hc;obtain⟨r,e3,rfl⟩:=aJ hc;simp only[xT]at hx;split at hx
   ·next l ey=>
    obtain⟨c',e4,e5⟩:=aJ hx;simp only[aR]at e5;obtain⟨rfl,rfl⟩:=e5;obtain⟨p,e6,e7⟩:=aK e4;exact x_fd hv hop hu e1 e2 e3 ey e6 e7
   ·cases hx
  ·cases hc
 |indexAddr t y i=>
  rw[hop]at hc;simp only[bc]at hc;split at hc
  ·next e hu=>
   obtain⟨s,e1,rfl⟩:=aJ hc;simp only[xT]at hx;split at hx
   ·next i' hi=>
    split at hx
    ·next k off n cp ex ey _=>
     split at hx
     ·next hlt=>
      simp only[ak,aR]at hx;obtain⟨rfl,rfl⟩:=hx;exact x_ia hv hop hu e1 hi ey (by simpa[bB]using hlt)
     ·cases hx
    ·next hh=>cases hh
    ·cases hx
   ·cases hx
  ·next n e hu=>
   obtain⟨s,e1,rfl⟩:=aJ hc;simp only[xT]at hx;split at hx
   ·next i' hi=>
    split at hx
    ·next hh=>cases hh
    ·next k off n' ey hh=>
     simp only[ak]at hh;subst hh;split at hx
     ·next hlt=>
      simp only[ak,aR]at hx;obtain⟨rfl,rfl⟩:=hx;exact x_iaA hv hop hu e1 hi ey (by simpa[bB]using hlt)
     ·cases hx
    ·cases hx
   ·cases hx
  ·cases hc
 |index t y i=>
  rw[hop]at hc;simp only[bc]at hc;split at hc
  ·next n e hu=>
   obtain⟨s,e1,hc⟩:=aK hc;obtain⟨r,e2,rfl⟩:=aJ hc;simp only[xT]at hx;split at hx
   ·next i' l hi ey=>
    split at hx
    ·next hlt=>
     obtain⟨c',e4,e5⟩:=aJ hx;simp only[aR]at e5;obtain⟨rfl,rfl⟩:=e5;obtain⟨p,e6,e7⟩:=aK e4;exact x_ix hv hop hu e1 e2 hi ey (by simpa[bB]using hlt) e6 e7
    ·cases hx
   ·cases hx
  ·next hu=>
   simp only[ak]at hc;subst hc;simp only[xT]at hx;split at hx
   ·next i' s hi ey=>
    obtain⟨b,e4,e5⟩:=aJ hx;simp only[aR]at e5;obtain⟨rfl,rfl⟩:=e5;exact x_sx hv hop hu hi ey e4
   ·cases hx
  ·cases hc
 |extract y i=>
  rw[hop]at hc;simp only[bc,ak]at hc;subst hc;simp only[xT]at hx;split at hx
  ·next l ey=>
   obtain⟨c',e4,e5⟩:=aJ hx;simp only[aR]at e5;obtain⟨rfl,rfl⟩:=e5;exact x_ext hv hop ey e4
  ·cases hx
 |nilCheck y=>
  rw[hop]at hc;simp only[bc,ak]at hc;subst hc;simp only[xT]at hx;split at hx
  ·next k off ey=>
   simp only[ak,aR]at hx;obtain⟨rfl,rfl⟩:=hx;rw[<-ey];exact x_nc hv hop (.inl ⟨k,off,ey⟩)
  ·next f cs ey=>
   simp only[ak,aR]at hx;obtain⟨rfl,rfl⟩:=hx;rw[<-ey];exact x_nc hv hop (.inr (.inl ⟨f,cs,ey⟩))
  ·next k ey=>
   simp only[ak,aR]at hx;obtain⟨rfl,rfl⟩:=hx;rw[<-ey];exact x_nc hv hop (.inr (.inr ⟨k,ey⟩))
  ·cases hx
 |call cl=>
  obtain⟨callee,args,argTypes⟩:=cl;rw[hop]at hc
  cases callee with
  |value f=>
   simp only[bc,ak]at hc;subst hc;simp[X.isT]at hT
  |invoke r m=>simp[bc]at hc
  |builtin b=>
   simp only[bc]at hc;split at hc
   ·next y t ha ht=>
    have ha':args= #[y]:=cM.1 ha;have ht':argTypes= #[t]:=cM.1 ht;subst ha';subst ht';split at hc
    ·next e hu=>
     simp only[ak]at hc;subst hc;simp only[xT]at hx;split at hx
     ·next k off n cp ex ey=>
      simp only[ak,aR]at hx;obtain⟨rfl,rfl⟩:=hx;exact Ko hv hop (.inl ⟨e,hu,.inl ⟨k,off,cp,ex,ey⟩⟩)
     ·next n cp ey=>
      simp only[ak,aR]at hx;obtain⟨rfl,rfl⟩:=hx;exact Ko hv hop (.inl ⟨e,hu,.inr ⟨cp,ey⟩⟩)
     ·cases hx
    ·next hu=>
     simp only[ak]at hc;subst hc;simp only[xT]at hx;split at hx
     ·next s ey=>
      simp only[ak,aR]at hx;obtain⟨rfl,rfl⟩:=hx;exact Ko hv hop (.inr ⟨s,hu,ey,rfl⟩)
     ·cases hx
    ·cases hc
   ·next y y2 ha=>
    have ha':args= #[y,y2]:=cM.1 ha;subst ha';simp only[ak]at hc;subst hc;simp only[xT]at hx;split at hx
    ·next k p k' q e1 e2=>
     simp only[ak,aR]at hx;obtain⟨rfl,rfl⟩:=hx;exact R9 hv (g:=false) hop e1 e2
    ·cases hx
   ·next y y2 ha=>
    have ha':args= #[y,y2]:=cM.1 ha;subst ha';simp only[ak]at hc;subst hc;simp only[xT]at hx;split at hx
    ·next k p k' q e1 e2=>
     simp only[ak,aR]at hx;obtain⟨rfl,rfl⟩:=hx;exact R9 hv (g:=true) hop e1 e2
    ·cases hx
   ·next y y2 t t' ha ht=>
    split at hc
    ·split at hc
     ·cases hc
     ·obtain⟨i,_,hc⟩:=aK hc;obtain⟨z,_,hc⟩:=aK hc;split at hc
      ·simp only[ak]at hc;subst hc;simp[X.isT]at hT
      ·cases hc
    ·obtain⟨i,_,hc⟩:=aK hc;obtain⟨z,_,hc⟩:=aK hc;split at hc
     ·simp only[ak]at hc;subst hc;simp[X.isT]at hT
     ·cases hc
    ·cases hc
   ·next y t ha ht=>
    have ha':args= #[y]:=cM.1 ha;have ht':argTypes= #[t]:=cM.1 ht;subst ha';subst ht';split at hc
    ·next e hu=>
     simp only[ak]at hc;subst hc;simp only[xT]at hx;split at hx
     ·next k off n cp ey=>
      simp only[ak,aR]at hx;obtain⟨rfl,rfl⟩:=hx;exact Sa hv hop hu (.inl ⟨k,off,n,ey⟩)
     ·next m n ey=>
      simp only[ak,aR]at hx;obtain⟨rfl,rfl⟩:=hx;exact Sa hv hop hu (.inr ⟨m,ey⟩)
     ·cases hx
    ·cases hc
   ·cases hc
 |_=>rw[hop]at hc;simp[bc]at hc
end CI
end
section
open Go.RowKit
namespace CI
variable {P : Program} {A : Nat->Prop} {ρ : Nat->Nat} {w : World} {tm : Tm} {a : Act} {o : Oper} {c : C} {h h' : H}
def ME(P:Program)(A:Nat->Prop)(ρ:Nat->Nat)(w:World)(h:H)(r:Result Next)(c:C)(h':H):Prop:=
 ∃u w' ρ',(r= .ok (.value u) w'\/(r= .ok .skip w'/\u=undef))/\cR P A ρ w h ρ' w' h'/\VR P (Ext A h h') ρ' w' c u
theorem bJ{k:Nat}{b:B}(e:h.get k=some b):h.live k:=by unfold H.live;rw[e];rfl
theorem yG{r:Nat}{arr:Array Value}{T:TypeId}{xs rest:List Value}(hg:w.heap[r]?=some (.cells arr T (0,0)))(e:arr.toList=xs++rest){j:Nat}{v:Value}(hj:xs[j]?=some v):w.cell? ⟨r,j,none⟩=some v:=by
 rw[cell_of_row w r _ _ _ (0,0) hg,<-eL,e,dC (ct.1 hj).1];exact hj
theorem A3(t:Rel P A ρ w h){k off s:Nat}{r:Bool}{T:TypeId}{l p:List C}{ty:TypeId}(hb:h.get k=some (.cells T l))(hp:rf l off s=some p)(hc:kD r p=some c)(hr:rowOf P ty=some r)(hs:dm P ty=some s):
  ∃u,(loadVar ty ⟨ρ k,off,none⟩).run P w= .ok u w/\VR P A ρ w c u:=by
 obtain⟨_,_,_,arr,xs,rest,e1,e2,e3,_⟩:=t.blk k _ hb;obtain⟨k1,k2⟩:=e3.get hp;have k3:=k1.kD hc;obtain⟨i,hi1,hi2⟩:=il hs;have hcell:∀j v,((xs.drop off).take s)[j]?=some v->w.cell? ((⟨ρ k,off,none⟩:Addr).add j)=some v:=fun j v hj=>by
  rw[dB];rw[iB]at hj;split at hj
  ·rw[eF]at hj;exact yG e1 e2 hj
  ·cases hj
 have hlen:((xs.drop off).take s).length=s:=by rw[aY,de];omega
 cases r with
 |true=>
  simp only[if_true]at k3;refine⟨_,?_,k3⟩;have hr2:=run_loadCells_list (P:=P) (w:=w) ⟨ρ k,off,none⟩ ((xs.drop off).take s) hcell;rw[hlen]at hr2;unfold loadVar;simp[sf hr,sizeOf,typeInfo,hi1,hi2,hr2]
 |false=>
  simp only[zU,if_false]at k3;obtain⟨u,e,k4⟩:=k3;refine⟨u,?_,k4⟩;have h0:=hcell 0 u (by rw[e];rfl);rw[dB,bZ]at h0;unfold loadVar;simp[sf hr,h0]
theorem VL(hv:HV P A ρ w tm a o)(t:Rel P A ρ w h){ty:TypeId}{x:Operand}{s:Nat}{r:Bool}(ho:o.op= .load ty x)(hr:rowOf P ty=some r)(hs:dm P ty=some s)(hx:Ae r s ((aS x).ev tm) h=some c):ME P A ρ w h ((execOp a.eval o).run P w) c h:=by
 have hX:=hv x bU;unfold OpV at hX;unfold Ae at hx;split at hx
 ·next k off e=>
  rw[e]at hX;simp only[VR]at hX;split at hx
  ·next T l hb=>
   obtain⟨p,e1,e2⟩:=aK hx;obtain⟨u,k1,k2⟩:=A3 t hb e1 e2 hr hs;have p0:=cR.refl t;refine⟨u,w,ρ,.inl ?_,p0,VR.mo ⟨fun _ hk=>.inl hk,fun _ _=>rfl⟩ (Lt.refl w) _ _ k2⟩;unfold execOp;rw[ho];simp[hX.2,Instr.loadAt,Instr.sureAddr,k1]
  ·cases hx
 ·cases hx
theorem CD(t:Rel P A ρ w h){k off:Nat}{T:TypeId}{l l' new:List C}{ys:List Value}{s:Nat}(hb:h.get k=some (.cells T l))(hs:BV l off s new=some l')(hn:VCs P A ρ w new ys)(hl:ys.length=s):
  ∃arr,w.heap[ρ k]?=some (.cells arr T (0,0))/\off+s<=arr.size/\cR P A ρ w h ρ (w.setRow (ρ k) (arr.toList.take off++ys++arr.toList.drop (off+s)).toArray) (h.set k (some (.cells T l'))):=by
 obtain⟨_,_,hlt,arr,xs,rest,e1,e2,e3,e4⟩:=t.blk k _ hb;obtain⟨k1,k2⟩:=e3.set hn hs;have hlen:off+s<=arr.size:=by rw[<-bX,e2,cv];omega
 refine⟨arr,e1,hlen,?_⟩;have hnew:=setRow_heap w (ρ k) arr (arr.toList.take off++ys++arr.toList.drop (off+s)).toArray T (0,0) e1;have hc:Chg (ρ k) w (w.setRow (ρ k) (arr.toList.take off++ys++arr.toList.drop (off+s)).toArray):=⟨rfl,rfl,rfl,by simp,fun j _ hj=>setRow_other w (ρ k) j _ hj⟩;have hsz:(arr.toList.take off++ys++arr.toList.drop (off+s)).toArray.size=arr.size:=by
  simp only[pE,cv,aY,de,bX];omega
 have hsh:∀q,w.shape? (ρ k)=some q->(w.setRow (ρ k) (arr.toList.take off++ys++arr.toList.drop (off+s)).toArray).shape? (ρ k)=some q:=fun q hq=>by
  unfold World.shape? at hq⊢;rw[e1]at hq;rw[hnew];simp only at hq⊢;rw[hsz];exact hq
 have hLt:=Lt.chg hc e4 hsh;have harr:(arr.toList.take off++ys++arr.toList.drop (off+s))=(xs.take off++ys++xs.drop (off+s))++rest:=by
  rw[e2,tj aa,qJ aa];simp only[fK]
 refine Fj t (bJ hb) hc e4 hsh ⟨_,xs.take off++ys++xs.drop (off+s),rest,hnew,by rw[tu];exact harr,VCs.mo (Mo.refl A ρ) hLt _ _ k1,fun n e=>?_⟩;rw[cell_of_row _ (ρ k) _ _ _ (0,0) hnew,<-eL,tu,harr]at e;by_cases hx:(xs.take off++ys++xs.drop (off+s))=[]
 ·have hx0 : xs = [] := by
   apply gP;have:=jS List.length hx;simp only[cv,aY,de,gW]at this;omega
  rw[hx,ew]at e;refine e4 n ?_;rw[cell_of_row _ (ρ k) _ _ _ (0,0) e1,<-eL,e2,hx0,ew];exact e
 ·rw[dC (iC.2 hx)]at e;exact VCs.nw k1 n e
theorem Um(hv:HV P A ρ w tm a o)(t:Rel P A ρ w h){ty:TypeId}{x y:Operand}{s:Nat}(ho:o.op= .store ty x y)(hs:dm P ty=some s)(hx:wb s ((aS x).ev tm) ((aS y).ev tm) h=some h'):ME P A ρ w h ((execOp a.eval o).run P w) .any h'/\Good h h':=by
 have hX:=hv x bU;have hY:=hv y bU;unfold OpV at hX hY;unfold wb at hx;split at hx
 ·next k off e=>
  rw[e]at hX;simp only[VR]at hX;split at hx
  ·next T l hb=>
   obtain⟨p,e1,hx⟩:=aK hx;split at hx
   ·next hw=>
    obtain⟨l',e2,rfl⟩:=aJ hx;have hp:=VR.flat hY e1;have hlen:(a.eval y).cells.toList.length=s:=by rw[hp.len];simpa using hw
    obtain⟨arr,k1,k2,k3⟩:=CD t hb e2 hp hlen;obtain⟨i,hi1,hi2⟩:=il hs;have hk:k<1000000:=aZ (t.live (bJ hb)).1 t.bd;refine⟨⟨undef,_,ρ,.inr ⟨?_,rfl⟩,k3,by simp only[VR]⟩,yE hk (bJ hb)⟩;have hst:=run_storeCells_at P (ρ k) off T (a.eval y).cells.toList 0 arr w k1 aa hp.one;have hsz:(a.eval y).cells.size=s:=by rw[<-hlen,bX]
    unfold execOp;rw[ho];simp only[bZ,hlen]at hst;simp[hX.2,Instr.storeAt,Instr.sureAddr,storeVar,sizeOf,typeInfo,hi1,hi2,hsz,hst]
   ·cases hx
  ·cases hx
 ·cases hx
theorem CN{k r:Nat}{b:B}{w':World}(t:Rel P A ρ w h)(hl:h.live k)(e:(h.set k none).new b=some h')(hd:Dj A h h')(hc:Chg (ρ k) w w')(hnw:NW w (ρ k))(hs:∀s,w.shape? (ρ k)=some s->w'.shape? (ρ k)=some s)
  (hr:r=ρ k\/w.heap.size<=r/\r<w'.heap.size) (hB:∀A' ρ',Mo A A' ρ ρ'->ρ' h.next=r->A' h.next->BR P A' ρ' w' r b):cR P A ρ w h (at' ρ h.next r) w' h'/\Good h h':=by
 obtain⟨m1,m2,m3⟩:=t.live hl;have hk:k<1000000:=aZ m1 t.bd;obtain⟨s1,s2,s3,s4⟩:=uV (h:=h) (b:=none) hk;obtain⟨k1,k2,k3,k4,k5⟩:=dX e;rw[s1]at k1 k4 k5;rw[s2]at k3;have hlt:=Lt.chg hc hnw hs;have hmo:Mo A (Ext A h h') ρ (at' ρ h.next r):=⟨fun _ hk=> .inl hk,fun k hk=>by
  have:=hd k hk;unfold at';rw[aj aa]⟩
 have hat:∀j,j≠h.next->at' ρ h.next r j=ρ j:=fun j hj=>by unfold at';rw[aj hj]
 have hatn:at' ρ h.next r h.next=r:=by unfold at';rw[an rfl]
 have hT:∀j,T.get h'.t j=if j=h.next then some b else if j=k then none else T.get h.t j:=fun j=>by rw[k5,s4]
 have hg:∀j c,h'.get j=some c->(j=h.next/\c=b)\/(j≠h.next/\j≠k/\h.get j=some c):=fun j c ej=>by
  unfold H.get at ej⊢;rw[k3]at ej;split at ej
  ·cases ej
  ·next hf=>
   rw[hT]at ej;by_cases e1:j=h.next
   ·rw[an e1]at ej;simp only[ak]at ej;exact .inl ⟨e1,ej.symm⟩
   ·rw[aj e1]at ej;by_cases e2:j=k
    ·rw[an e2]at ej;cases ej
    ·rw[aj e2]at ej;exact .inr ⟨e1,e2,ej⟩
 have hlv:∀j,h'.live j->j=h.next\/(j≠h.next/\j≠k/\h.live j):=fun j hj=>by
  obtain⟨c,ec⟩:=cV.1 hj;rcases hg j c ec with⟨e1,_⟩|⟨e1,e2,e3⟩
  ·exact .inl e1
  ·exact .inr ⟨e1,e2,bJ e3⟩
 have hlow:h'.low<=h.low/\h'.low<=k:=by rw[k2];exact s3
 refine⟨⟨fun j hj=>hat j aa,⟨fun j c ej=>?_,fun i j hi hj ee=>?_,by omega⟩,hlt,fun q hq hn=>hc.block q hq fun e2=>hn k hl hlow.2 e2.symm,fun j hj hlj=>?_⟩,⟨by omega,hlow.1,k3,fun j hj hlo=>?_,fun j hj hd=>?_⟩⟩
 ·rcases hg j c ej with⟨e1,e2⟩|⟨e1,e2,e3⟩
  ·subst e1;subst e2;have hA:Ext A h h' h.next:= .inr ⟨af _,by omega⟩
   rw[hatn];refine⟨by omega,hA,?_,hB _ _ hmo hatn hA⟩;rcases hr with hr|hr
   ·rw[hr];exact aZ m3 hlt.size
   ·exact hr.2
  ·obtain⟨n1,n2,n3,n4⟩:=t.blk j c e3;rw[hat j e1];have hne:ρ j≠ρ k:=fun e5=>e2 (t.inj j k (bJ e3) hl e5);exact⟨by omega, .inl n2,aZ n3 hlt.size,n4.mo hmo hlt (hc.block _ n3 hne)⟩
 ·have key : ∀ i, i ≠ h.next -> i ≠ k -> h.live i -> ρ i ≠ r := fun i h1 h2 h3 e5 => by
   rcases hr with hr|hr
   ·rw[hr]at e5;exact h2 (t.inj i k h3 hl e5)
   ·have:=(t.live h3).2.2;omega
  rcases hlv i hi with hi'|⟨hi1,hi2,hi3⟩<;>rcases hlv j hj with hj'|⟨hj1,hj2,hj3⟩
  ·rw[hi',hj']
  ·rw[hi',hatn,hat j hj1]at ee;exact absurd ee.symm (key j hj1 hj2 hj3)
  ·rw[hj',hatn,hat i hi1]at ee;exact absurd ee (key i hi1 hi2 hi3)
  ·rw[hat i hi1,hat j hj1]at ee;exact t.inj i j hi3 hj3 ee
 ·rcases hlv j hlj with e1|⟨_,_,e3⟩
  ·subst e1;rw[hatn];rcases hr with hr|hr
   ·exact .inr ⟨k,hl,hlow.2,hr⟩
   ·exact .inl hr.1
  ·have:=(t.live e3).1;omega
 ·rw[hT,aj aa,aj aa]
 ·rw[hT,aj aa,aj (fun e2=>hd (by rw[e2];exact hl))]
end CI
end
section
open Go.RowKit
namespace CI
variable {P : Program} {A : Nat->Prop} {ρ : Nat->Nat} {w : World} {tm : Tm} {a : Act} {o : Oper} {c : C} {h h' : H}
theorem Pa(t:Rel P A ρ w h){s m:Nat}{b:C}{v:Value}{new:List C}(hb:slW s b h=some (new,m))(hv:VR P A ρ w b v):∃ys,VCs P A ρ w new ys/\ys.length=m*s/\((m=0/\∃ad cp,v= .slice ad 0 cp)\/∃ad cp,v= .slice (some ad) m cp/\∀j u,ys[j]?=some u->w.cell? (ad.add j)=some u):=by
 unfold slW at hb;split at hb
 ·simp only[ak,aR]at hb;obtain⟨rfl,rfl⟩:=hb;simp only[VR]at hv;exact⟨[],by simp only[VCs],by simp,.inl ⟨rfl,none,0,hv.1⟩⟩
 ·next k off n cp ex=>
  split at hb
  ·next T l hg=>
   obtain⟨p,e1,e2⟩:=aJ hb;simp only[aR]at e2;obtain⟨rfl,rfl⟩:=e2;obtain⟨_,_,_,arr,xs,rest,f1,f2,f3,_⟩:=t.blk k _ hg;obtain⟨k1,k2⟩:=f3.get e1;simp only[VR]at hv;obtain⟨_,cap,hv,_⟩:=hv;refine⟨_,k1,by rw[aY,de];omega,.inr ⟨_,_,hv,fun j u hj=>?_⟩⟩;rw[dB];rw[iB]at hj;split at hj
   ·rw[eF]at hj;exact yG f1 f2 hj
   ·cases hj
  ·cases hb
 ·cases hb
theorem qZ{T s m cap:Nat}{arr:Array Value}{A':Nat->Prop}{ρ':Nat->Nat}{w':World}{k r:Nat}(hA:A' k)(hr:ρ' k=r)(hg:w'.heap[r]?=some (.cells arr T (0,0)))(hs:dm P T=some s)(hm:m<=cap)(hml:cap<=maxLen)(hsz:arr.size=cap*s):VR P A' ρ' w' (.sl k 0 m m false) (.slice (some ⟨r,0,none⟩) m cap):=by
 simp only[VR,zU,false_imp_iff,true_and,true_imp_iff];refine⟨hA,cap,by rw[hr],af _,hm,hml,T,s,?_,hs⟩;unfold World.shape?;rw[hr,hg];show some (T,arr.size)=_;rw[hsz]
theorem xV(w:World)(arr:Array Value)(T:TypeId){l:List C}{xs rest:List Value}{A':Nat->Prop}{ρ':Nat->Nat}(m:Mo A A' ρ ρ')(hb:Below w.heap.size w (w.drew.alloc (.cells arr T)))(e:arr.toList=xs++rest)(hl:VCs P A ρ w l xs)(hne:xs≠[]):BR P A' ρ' (w.drew.alloc (.cells arr T)) w.heap.size (.cells T l):=by
 refine⟨arr,xs,rest,heap_alloc_new w.drew _,e,VCs.mo m (Lt.below hb) _ _ hl,fun n e2=>?_⟩;rw[cell_of_row _ w.heap.size _ _ _ (0,0) (heap_alloc_new w.drew _),<-eL,e,dC (iC.2 hne)]at e2;exact VCs.nw hl n e2
theorem lO(w:World)(arr:Array Value)(T:TypeId):Below w.heap.size w (w.drew.alloc (.cells arr T)):=((Below.refl _ w).drew).alloc (by exact af _) _
theorem Fp{t ty e:TypeId}{i:TypeInfo}(ht:P.underlying t=some (.slice e))(hi:P.info? e=some i){g off n cap:Nat}{cur:Array Value}{T:TypeId}(hg:w.heap[g]?=some (.cells cur T (0,0)))
  {ad:Addr} {m cp:Nat} {ys:List Value} (hl:ys.length=m*i.size) (hc:∀j u,ys[j]?=some u->w.cell? (ad.add j)=some u) (h1:∀u∈ys,u.oneCell'=true) (hroom:n+m<=cap) (hfit:off+n*i.size+ys.length<=cur.size):
  (Builtin.append_ #[t,t] ty #[.slice (some ⟨g,off,none⟩) n cap,.slice (some ad) m cp]).run P w= .ok (.slice (some ⟨g,off,none⟩) (n+m) cap) (w.setRow g (cur.toList.take (off+n*i.size)++ys++cur.toList.drop (off+n*i.size+ys.length)).toArray):=by
 have hf:=run_firstCells_some (P:=P) w i.size m ad m cp ys hl hc;have hst:=run_storeCells_at P g (off+n*i.size) T ys 0 cur w hg (by simpa using hfit) h1;simp only[bZ]at hst;simp[Builtin.append_,run_underlying ht,sizeOf,typeInfo,hi,Builtin.lenOf,hroom,hf,Addr.add_lit,hst]
theorem m_app(hv:HV P A ρ w tm a o)(t:Rel P A ρ w h)(hd:Dj A h h'){ty e:TypeId}{x y:Operand}{s:Nat}{i:TypeInfo}{z:List C}(ho:o.op= .call {callee:=.builtin .append,args:=#[x,y],argTypes:=#[ty,ty]})(hu:P.underlying ty=some (.slice e))(hi:P.info? e=some i)(his:i.size=s)(hz:zOf P e=some z)(hby:i.bytes<=100000)(h0:0<s)
  (hx:Kq e s ((aS x).ev tm) ((aS y).ev tm) h=some (c,h')):ME P A ρ w h ((execOp a.eval o).run P w) c h'/\Good h h':=by
 have hX:=hv x oL;have hY:=hv y oL;unfold OpV at hX hY;unfold Kq at hx;have hq:=aK hx;clear hx;obtain⟨⟨new,m⟩,e1,hx⟩:=hq;obtain⟨ys,k1,k2,k3⟩:=Pa t e1 hY;obtain⟨i',zv,z1,z2,z3,_⟩:=oN hz;rw[hi]at z1;simp only[ak]at z1;subst z1;have hse:dm P e=some s:=by unfold dm;rw[hi,cG,his]
 have hex:∀v w',(Builtin.append_ #[ty,ty] o.type #[a.eval x,a.eval y]).run P w= .ok v w'->(execOp a.eval o).run P w= .ok (.value v) w':=fun v w' hr=>by
  unfold execOp;rw[ho];simp[resolve,invoke,builtin,hr]
 simp only at hx;unfold DK at hx;split at hx
 ·
  have hys:ys=[]:=gP (by simpa using k2);have hyv:∃ad cp,a.eval y= .slice ad 0 cp:=by
   rcases k3 with⟨_,h⟩|⟨ad,cp,h,_⟩
   ·exact h
   ·exact⟨_,_,h⟩
  obtain⟨ad,cp,hyv⟩:=hyv;have hfc:∀ad:Option Addr,(Builtin.firstCells i.size 0 (.slice ad 0 cp)).run P w= .ok #[] w:=fun ad=>by
   cases ad<;>simp[Builtin.firstCells,loadCells,loadCellsFrom]
  have key:c=(aS x).ev tm/\h'=h/\∃b n cap,a.eval x= .slice b n cap/\n<=cap:=by
   split at hx
   ·next ex=>
    simp only[ak,aR]at hx;obtain⟨rfl,rfl⟩:=hx;rw[ex]at hX;simp only[VR]at hX;exact⟨rfl,rfl,_,_,_,hX.1,af _⟩
   ·next k off n cp' e' ex=>
    simp only[ak,aR]at hx;obtain⟨rfl,rfl⟩:=hx;rw[ex]at hX;simp only[VR]at hX;obtain⟨_,cap,hX,q1,q2,_⟩:=hX;exact⟨rfl,rfl,_,_,_,hX,by omega⟩
   ·cases hx
  obtain⟨rfl,rfl,b,n,cap,hxv,hle⟩:=key;have hrun:(Builtin.append_ #[ty,ty] o.type #[a.eval x,a.eval y]).run P w= .ok (a.eval x) w:=by
   rw[hxv,hyv];have hru:=run_underlying hu w;simp[Builtin.append_,hru,sizeOf,typeInfo,hi,Builtin.lenOf,hle,hfc];cases b<;>simp[storeCells]
  exact⟨⟨_,w,ρ,.inl (hex _ _ hrun),cR.refl t,VR.mo ⟨fun _ hk=>.inl hk,fun _ _=>rfl⟩ (Lt.refl w) _ _ hX⟩,Good.refl _⟩
 ·next hm0=>
  have hmp:0<m:=qK hm0;obtain⟨ad,cp,hyv,hcell⟩:=k3.resolve_left (fun q=>hm0 q.1);have hysne:ys≠[]:=fun e2=>by
   rw[e2]at k2;have:0<m*s:=tE hmp h0;simp at k2;omega
  have hz3:zv.cells.size=i.size:=z3;have hzc:∀n,(Builtin.zeroCells zv.cells n).size=n*s:=fun n=>by rw[size_zeroCells,hz3,his]
  split at hx
  ·next ex=>
   split at hx<;>try(cases hx;done)
   next hml=>
   have hmle:=gg hml;obtain⟨h1,e2,e3⟩:=aJ hx;simp only[aR]at e3;obtain⟨rfl,rfl⟩:=e3;rw[ex]at hX;simp only[VR]at hX;have hr:=run_append_nil (P:=P) w ty o.type e i zv hu hi z2 ad m cp ys (by rw[his];exact k2) hcell hmp aa (aB (cr hmle hby) au);rw[<-hX.1,<-hyv]at hr;have hge:=grownCap_ge w m 0 e;have hel:(ys.toArray++Builtin.zeroCells zv.cells (grownCap w m 0 e-m)).toList=ys++(Builtin.zeroCells zv.cells (grownCap w m 0 e-m)).toList:=by simp
   have hp:=oU (r:=w.heap.size) t e2 hd (lO w _ e) (af _) aU (fun A' ρ' mo h1 h2=>xV w _ e mo (lO w _ e) hel k1 hysne);refine⟨⟨_,_,_,.inl (hex _ _ hr),hp,?_⟩,yO e2⟩;refine qZ (.inr ⟨af _,by have:=(dX e2).1;omega⟩) Em (heap_alloc_new w.drew _) hse hge (grownCap_le_maxLen w m 0 e uF) ?_;rw[rO,hzc,pE,k2,<-bO];congr 1;omega
  ·next k off n cp' exx ex=>
   rw[ex]at hX;simp only[VR]at hX;obtain⟨hA,cap,hxv,q1,q2,q3,q4⟩:=hX;split at hx
   ·next T' l hg=>
    split at hx
    ·cases hx
    ·next hT=>
     have hT':T'=e:=by simpa using hT
     subst hT';obtain⟨_,_,hlt,arr,xs,rest,f1,f2,f3,f4⟩:=t.blk k _ hg;split at hx
     ·next hroom=>
      have hroom':=gg hroom;obtain⟨l',e2,e3⟩:=aJ hx;simp only[aR]at e3;obtain⟨rfl,rfl⟩:=e3;have hlen:(ys).length=m*i.size:=by rw[his];exact k2
      obtain⟨arr',g1,g2,g3⟩:=CD t hg e2 k1 k2;rw[f1]at g1;simp only[ak,Obj.cells.injEq,and_true]at g1;obtain rfl:=g1.symm;have hr:=Fp (ty:=o.type) (cap:=cap) (cp:=cp) hu hi (off:=off) (n:=n) f1 hlen hcell (VCs.one k1) aa (by rw[hlen,his];exact g2);rw[<-hxv,<-hyv,hlen,his]at hr;have hk:k<1000000:=aZ (t.live (bJ hg)).1 t.bd;refine⟨⟨_,_,_,.inl (hex _ _ hr),g3,?_⟩,yE hk (bJ hg)⟩;simp only[VR];refine⟨.inl hA,cap,rfl,hroom',q2,q3,fun r1 r2=>?_⟩;obtain⟨r3,T,s',r4,r5⟩:=q4 r1 r2;exact⟨r3,T,s',g3.lt.shape _ _ r4,r5⟩
     ·next hf=>
      split at hx
      ·next hle=>
       have hle':=gg hle;obtain⟨old,e2,hx⟩:=aK hx;have hnle:¬n+m<=cp':=fun e5=>by
        rw[Nat.ble_eq_true_of_le e5]at hf;cases hf
       obtain⟨g1,g2⟩:=f3.get e2;have hlo:((xs.drop off).take (n*s)).length=n*s:=by rw[aY,de];omega
       have hold:∀j u,((xs.drop off).take (n*s))[j]?=some u->w.cell? ((⟨ρ k,off,none⟩:Addr).add j)=some u:=fun j u hj=>by
        rw[dB];rw[iB]at hj;split at hj
        ·rw[eF]at hj;exact yG f1 f2 hj
        ·cases hj
       have hne:(xs.drop off).take (n*s)++ys≠[]:=fun e5=>hysne (List.append_eq_nil_iff.1 e5).2;have hgr:∀cap,cap<n+m->_:=fun cap hc=>run_append_grow (P:=P) w ty o.type T' i zv hu hi z2 ⟨ρ k,off,none⟩ n cap _ (by rw[his];exact hlo) hold ad m cp ys (by rw[his];exact k2) hcell hc aa (growslice_fits hc (aB (cr hle' hby) au));have hge:=grownCap_ge w (n+m) cap T';have hgm:=grownCap_le_maxLen w (n+m) cap T' uF;have hel:(((xs.drop off).take (n*s)).toArray++ys.toArray++Builtin.zeroCells zv.cells (grownCap w (n+m) cap T'-(n+m))).toList=((xs.drop off).take (n*s)++ys)++(Builtin.zeroCells zv.cells (grownCap w (n+m) cap T'-(n+m))).toList:=by simp
       have hasz:(((xs.drop off).take (n*s)).toArray++ys.toArray++Builtin.zeroCells zv.cells (grownCap w (n+m) cap T'-(n+m))).size=grownCap w (n+m) cap T'*s:=by
        rw[rO,rO,hzc,pE,pE,k2,hlo,<-bO,<-bO];congr 1;omega
       split at hx
       ·next he=>
        obtain⟨h1,e3,e4⟩:=aJ hx;simp only[aR]at e4;obtain⟨rfl,rfl⟩:=e4;have hcap:cap=cp':=q3 aU;have hr:=hgr cap aa;rw[<-hxv,<-hyv]at hr;have hp:=oU (r:=w.heap.size) t e3 hd (lO w _ T') (af _) aU (fun A' ρ' mo h1 h2=>xV w _ T' mo (lO w _ T') hel (VCs.app k1 g1) hne);refine⟨⟨_,_,_,.inl (hex _ _ hr),hp,?_⟩,yO e3⟩;exact qZ (.inr ⟨af _,by have:=(dX e3).1;omega⟩) Em (heap_alloc_new w.drew _) hse hge hgm hasz
       ·split at hx
        ·obtain⟨h1,e3,e4⟩:=aJ hx;simp only[aR]at e4;obtain⟨rfl,rfl⟩:=e4;obtain⟨r3,T2,s',r4,r5⟩:=q4 aU rfl;have hk:k<1000000:=aZ (t.live (bJ hg)).1 t.bd;have hnx:h1.next=h.next+1:=(dX e3).1
         have hT2:T2=T'/\cap*s'=arr.size:=by
          unfold World.shape? at r4;rw[f1]at r4;simp only[ak,aR]at r4;exact⟨r4.1.symm,r4.2.symm⟩
         rw[hT2.1,hse]at r5;simp only[ak]at r5;subst r5;by_cases hroom:n+m<=cap
         ·have hlen:ys.length=m*i.size:=by rw[his];exact k2
          have hfit:0+n*i.size+ys.length<=arr.size:=by
           rw[hlen,his,bw,<-bO,<-hT2.2];exact cF _ hroom
          have hr:=Fp (ty:=o.type) (cap:=cap) (cp:=cp) hu hi (off:=0) (n:=n) f1 hlen hcell (VCs.one k1) hroom hfit;rw[<-hxv,<-hyv,hlen,his,bw]at hr;rw[hlen,his,bw]at hfit;have hnew:=setRow_heap w (ρ k) arr (arr.toList.take (n*s)++ys++arr.toList.drop (n*s+m*s)).toArray T' (0,0) f1;have hc:Chg (ρ k) w (w.setRow (ρ k) (arr.toList.take (n*s)++ys++arr.toList.drop (n*s+m*s)).toArray):=⟨rfl,rfl,rfl,by simp,fun j _ hj=>setRow_other w (ρ k) j _ hj⟩;have hsz:(arr.toList.take (n*s)++ys++arr.toList.drop (n*s+m*s)).toArray.size=arr.size:=by
           simp only[pE,cv,aY,de,bX,k2];omega
          have hsh:∀q,w.shape? (ρ k)=some q->(w.setRow (ρ k) (arr.toList.take (n*s)++ys++arr.toList.drop (n*s+m*s)).toArray).shape? (ρ k)=some q:=fun q hq=>by
           unfold World.shape? at hq⊢;rw[f1]at hq;rw[hnew];simp only at hq⊢;rw[hsz];exact hq
          have hold2:arr.toList.take (n*s)=(xs.drop 0).take (n*s):=by
           rw[f2,du,tj aa]
          have hmp:=CN (r:=ρ k) t (bJ hg) e3 hd hc f4 hsh (.inl rfl) (fun A' ρ' mo h1 h2=>⟨_,(xs.drop 0).take (n*s)++ys,arr.toList.drop (n*s+m*s),hnew,by rw[tu,hold2],VCs.mo mo (Lt.chg hc f4 hsh) _ _ (VCs.app k1 g1),fun q e5=>by
           rw[cell_of_row _ (ρ k) _ _ _ (0,0) hnew,<-eL,tu,hold2,dC (iC.2 hne)]at e5;exact VCs.nw (VCs.app k1 g1) q e5⟩)
          refine⟨⟨_,_,_,.inl (hex _ _ hr),hmp.1,?_⟩,hmp.2⟩;exact qZ (.inr ⟨af _,by omega⟩) Em hnew hse hroom r3 (by rw[hsz,hT2.2])
         ·have hr:=hgr cap aa;rw[<-hxv,<-hyv]at hr;have hbl:=lO w (((xs.drop 0).take (n*s)).toArray++ys.toArray++Builtin.zeroCells zv.cells (grownCap w (n+m) cap T'-(n+m))) T';have hmp:=CN (r:=w.heap.size) t (bJ hg) e3 hd (Chg.of hbl) f4 (fun q hq=>(Lt.below hbl).shape _ _ hq) (.inr ⟨af _,by simp⟩) (fun A' ρ' mo h1 h2=>xV w _ T' mo hbl hel (VCs.app k1 g1) hne);refine⟨⟨_,_,_,.inl (hex _ _ hr),hmp.1,?_⟩,hmp.2⟩;exact qZ (.inr ⟨af _,by omega⟩) Em (heap_alloc_new w.drew _) hse hge hgm hasz
        ·cases hx
      ·cases hx
   ·cases hx
  ·cases hx
end CI
end
section
open Go.RowKit
namespace CI
variable {P : Program} {A : Nat->Prop} {ρ : Nat->Nat} {w : World} {tm : Tm} {a : Act} {o : Oper} {c : C} {h h' h'' : H}
structure Wf(h:H):Prop where
 bd:h.next<=1000000
 lt:∀k b,T.get h.t k=some b->k<h.next
structure Gd(h h':H):Prop where
 wf:Wf h'
 good:Good h h'
theorem lJ{k:Nat}{b:B}(e:h.get k=some b):T.get h.t k=some b:=by
 unfold H.get at e;split at e
 ·cases e
 ·exact e
theorem Gd.refl(f:Wf h):Gd h h:=⟨f,Good.refl h⟩
theorem Gd.trans(g:Gd h h')(g':Gd h' h''):Gd h h'':=⟨g'.wf,g.good.trans g'.good⟩
theorem ox{b:B}(f:Wf h)(e:h.new b=some h'):Gd h h':=by
 obtain⟨h1,h2,h3,h4,h5⟩:=dX e;refine⟨⟨by omega,fun k c hc=>?_⟩,yO e⟩;rw[h5]at hc;split at hc
 ·omega
 ·have:=f.lt k c hc;omega
theorem lB{k:Nat}{b:Option B}(f:Wf h)(hl:h.live k):Gd h (h.set k b):=by
 obtain⟨c,ec⟩:=cV.1 hl;have hk:=f.lt k c (lJ ec);have hk':k<1000000:=aZ hk f.bd;obtain⟨k1,k2,k3,k4⟩:=uV (h:=h) (b:=b) hk';refine⟨⟨by rw[k1];exact f.bd,fun j d hd=>?_⟩,yE hk' hl⟩;rw[k4]at hd;rw[k1];split at hd
 ·next e=>rw[e];exact hk
 ·exact f.lt j d hd
theorem uo{b:Option B}(f:Wf h)(e:h.oH b=some h'):Gd h h':=by
 cases b with
 |none=>simp only[H.oH,ak]at e;subst e;exact Gd.refl f
 |some b=>exact ox f e
theorem LI{s:Nat}{x y:C}(f:Wf h)(e:wb s x y h=some h'):Gd h h':=by
 unfold wb at e;split at e
 ·split at e
  ·next hb=>
   obtain⟨p,_,e⟩:=aK e;split at e
   ·obtain⟨l',_,rfl⟩:=aJ e;exact lB f (bJ hb)
   ·cases e
  ·cases e
 ·cases e
theorem OA{T s m:Nat}{x:C}{new:List C}(f:Wf h)(e:DK T s x new m h=some (c,h')):Gd h h':=by
 unfold DK at e;split at e
 ·split at e
  ·simp only[ak,aR]at e;obtain⟨_,rfl⟩:=e;exact Gd.refl f
  ·simp only[ak,aR]at e;obtain⟨_,rfl⟩:=e;exact Gd.refl f
  ·cases e
 ·split at e
  ·split at e
   ·obtain⟨h1,e1,e2⟩:=aJ e;simp only[aR]at e2;obtain⟨_,rfl⟩:=e2;exact ox f e1
   ·cases e
  ·split at e
   ·next hb=>
    split at e
    ·cases e
    ·split at e
     ·obtain⟨l',_,e2⟩:=aJ e;simp only[aR]at e2;obtain⟨_,rfl⟩:=e2;exact lB f (bJ hb)
     ·split at e
      ·obtain⟨old,_,e⟩:=aK e;split at e
       ·obtain⟨h1,e1,e2⟩:=aJ e;simp only[aR]at e2;obtain⟨_,rfl⟩:=e2;exact ox f e1
       ·split at e
        ·obtain⟨h1,e1,e2⟩:=aJ e;simp only[aR]at e2;obtain⟨_,rfl⟩:=e2;have g:=lB (b:=none) f (bJ hb);exact g.trans (ox g.wf e1)
        ·cases e
      ·cases e
   ·cases e
  ·cases e
def fS(rec:Rec):Prop:=∀f args h c h',rec (.call f args h)=some (.val c h')->Wf h->Gd h h'
theorem rR{rec:Rec}(hr:fS rec){x:X}(f:Wf h)(e:xR rec x tm h=some (c,h')):Gd h h':=by
 unfold xR at e;split at e
 ·obtain⟨d,_,e2⟩:=aJ e;simp only[aR]at e2;obtain⟨_,rfl⟩:=e2;exact Gd.refl f
 ·obtain⟨d,e1,e2⟩:=aJ e;simp only[aR]at e2;obtain⟨_,rfl⟩:=e2;exact LI f e1
 ·unfold Kq at e;obtain⟨⟨new,m⟩,_,e⟩:=aK e;exact OA f e
 ·split at e
  ·split at e
   ·obtain⟨h1,e1,e2⟩:=aJ e;simp only[aR]at e2;obtain⟨_,rfl⟩:=e2;exact ox f e1
   ·cases e
  ·cases e
 ·split at e
  ·next ec=>
   simp only[ak,aR]at e;obtain⟨rfl,rfl⟩:=e;exact hr _ _ _ _ _ ec f
  ·cases e
 ·cases e
theorem VM(hv:HV P A ρ w tm a o)(t:Rel P A ρ w h)(hd:Dj A h h'){ty tn e:TypeId}{x y:Operand}{m:Nat}{i:TypeInfo}{z:List C}{kn:IntKind}(ho:o.op= .call {callee:=.builtin .append,args:=#[x,y],argTypes:=#[ty,tn]})(hu:P.underlying ty=some (.slice e))(hn:P.underlying tn=some (.int kn))(hi:P.info? e=some i)(hz:zOf P e=some z)(hby:i.bytes<=100000)(h0:0<i.size)
  (hx:(aS x).ev tm= .sc (.slice none 0 0)) (hy:ju ((aS y).ev tm)=some (m+1)) (hm:m+1<=1000000) (hnew:h.new (.cells e (og z (m+1)))=some h'):ME P A ρ w h ((execOp a.eval o).run P w) (.sl h.next 0 (m+1) (m+1) false) h':=by
 have hX:=hv x oL;have hY:=hv y oL;unfold OpV at hX hY;rw[hx]at hX;simp only[VR]at hX;obtain⟨kq,hyv⟩:=iX hy hY;obtain⟨i',zv,z1,z2,z3,z4⟩:=oN hz;rw[hi]at z1;simp only[ak]at z1;subst z1;have hse:dm P e=some i.size:=by unfold dm;rw[hi,cG]
 have hb1:(m+1)*i.bytes<=1000000*100000:=cr hm hby
 have hr:=EI (P:=P) w ty tn o.type e i zv kq kn hu hn hi z2 none 0 0 [] (run_firstCells_none (P:=P) w.drew i.size 0 0 0) (m+1) aa h0 aa aa aa (growslice_fits aa (by rw[bw];omega));rw[bw]at hr;have hge:=grownCap_ge w (m+1) 0 e;have hzz:∀n,(Builtin.zeroCells zv.cells n)=madeCells zv.cells (n*zv.cells.size):=fun n=>rfl;have hzc:∀n,(Builtin.zeroCells zv.cells n).size=n*i.size:=fun n=>by rw[size_zeroCells,z3]
 have hl:VCs P A ρ w (og z (m+1)) (Builtin.zeroCells zv.cells (m+1)).toList:=by rw[hzz];exact qh (z4 _ _ _) (m+1)
 have hne:(Builtin.zeroCells zv.cells (m+1)).toList≠[]:=fun e2=>by
  have:=jS List.length e2;rw[bX,hzc,gW]at this;have:=tE (show 0<m+1 by omega) h0;omega
 have hel:(([]:List Value).toArray++Builtin.zeroCells zv.cells (m+1)++Builtin.zeroCells zv.cells (grownCap w (m+1) 0 e-(m+1))).toList=(Builtin.zeroCells zv.cells (m+1)).toList++(Builtin.zeroCells zv.cells (grownCap w (m+1) 0 e-(m+1))).toList:=by simp
 have hp:=oU (r:=w.heap.size) t hnew hd (lO w _ e) (af _) aU (fun A' ρ' mo h1 h2=>xV w _ e mo (lO w _ e) hel hl hne);refine⟨_,_,_,.inl ?_,hp,qZ (.inr ⟨af _,by have:=(dX hnew).1;omega⟩) (by unfold at';rw[an rfl];rfl) (heap_alloc_new w.drew _) hse hge (grownCap_le_maxLen w (m+1) 0 e uF) ?_⟩
 ·rw[<-hX.1,<-hyv]at hr;unfold execOp;rw[ho];simp[resolve,invoke,builtin,hr]
 ·rw[rO,rO,hzc,hzc];simp only[pE,gW,bw];rw[<-bO];congr 1;omega
theorem GP{op:Op}{x:X}(hc:bc P op=some x)(hT:x.isT=false):(∃ty y,op= .load ty y)\/(∃ty y v,op= .store ty y v)\/∃cl,op= .call cl:=by
 cases hop:op with
 |load ty y=>exact .inl ⟨ty,y,rfl⟩
 |store ty y v=>exact .inr (.inl ⟨ty,y,v,rfl⟩)
 |call cl=>exact .inr (.inr ⟨cl,rfl⟩)
 |move y=>rw[hop]at hc;simp only[bc,ak]at hc;subst hc;simp[X.isT]at hT
 |assign y=>rw[hop]at hc;simp only[bc,ak]at hc;subst hc;simp[X.isT]at hT
 |pick y y1 y2=>rw[hop]at hc;simp only[bc,ak]at hc;subst hc;simp[X.isT]at hT
 |box t y=>rw[hop]at hc;simp only[bc,ak]at hc;subst hc;simp[X.isT]at hT
 |unOp op t y=>rw[hop]at hc;simp only[bc,ak]at hc;subst hc;simp[X.isT]at hT
 |extract y i=>rw[hop]at hc;simp only[bc,ak]at hc;subst hc;simp[X.isT]at hT
 |nilCheck y=>rw[hop]at hc;simp only[bc,ak]at hc;subst hc;simp[X.isT]at hT
 |alloc t=>rw[hop]at hc;simp only[bc]at hc;obtain⟨_,_,rfl⟩:=aJ hc;simp[X.isT]at hT
 |build t ps=>
  rw[hop]at hc;simp only[bc]at hc;split at hc
  ·split at hc
   ·obtain⟨_,_,hc⟩:=aK hc;obtain⟨_,_,rfl⟩:=aJ hc;simp[X.isT]at hT
   ·cases hc
  ·obtain⟨_,_,hc⟩:=aK hc;obtain⟨_,_,hc⟩:=aK hc;obtain⟨_,_,rfl⟩:=aJ hc;simp[X.isT]at hT
  ·cases hc
 |buildSlice t n ps=>
  rw[hop]at hc;simp only[bc]at hc;split at hc
  ·obtain⟨_,_,hc⟩:=aK hc;obtain⟨_,_,hc⟩:=aK hc;split at hc
   ·obtain⟨_,_,rfl⟩:=aJ hc;simp[X.isT]at hT
   ·cases hc
  ·cases hc
 |binOp op t y y2 t2=>
  rw[hop]at hc;simp only[bc]at hc;split at hc
  ·simp only[ak]at hc;subst hc;simp[X.isT]at hT
  ·split at hc
   ·simp only[ak]at hc;subst hc;simp[X.isT]at hT
   ·simp only[ak]at hc;subst hc;simp[X.isT]at hT
   ·cases hc
  ·split at hc
   ·simp only[ak]at hc;subst hc;simp[X.isT]at hT
   ·simp only[ak]at hc;subst hc;simp[X.isT]at hT
   ·cases hc
  ·cases hc
 |convert t1 t2 y=>
  rw[hop]at hc;simp only[bc]at hc;split at hc
  ·simp only[ak]at hc;subst hc;simp[X.isT]at hT
  ·cases hc
 |makeFunc f first cs=>
  rw[hop]at hc
  cases f with
  |func g=>
   simp only[bc]at hc;split at hc
   ·simp only[ak]at hc;subst hc;simp[X.isT]at hT
   ·cases hc
  |_=>simp[bc]at hc
 |makeSlice t y y2=>
  rw[hop]at hc;simp only[bc]at hc;split at hc
  ·obtain⟨_,_,hc⟩:=aK hc;obtain⟨_,_,hc⟩:=aK hc;split at hc
   ·simp only[ak]at hc;subst hc;simp[X.isT]at hT
   ·cases hc
  ·cases hc
 |slice t y lo hi mx=>
  rw[hop]at hc;simp only[bc]at hc;split at hc
  ·split at hc
   ·cases hc
   ·obtain⟨_,_,rfl⟩:=aJ hc;simp[X.isT]at hT
  ·cases hc
 |fieldAddr t y i=>
  rw[hop]at hc;simp only[bc]at hc;split at hc
  ·obtain⟨_,_,hc⟩:=aK hc;obtain⟨_,_,hc⟩:=aK hc;split at hc
   ·cases hc
   ·simp only[ak]at hc;subst hc;simp[X.isT]at hT
  ·cases hc
 |field t y i=>
  rw[hop]at hc;simp only[bc]at hc;split at hc
  ·obtain⟨_,_,hc⟩:=aK hc;obtain⟨_,_,hc⟩:=aK hc;obtain⟨_,_,rfl⟩:=aJ hc;simp[X.isT]at hT
  ·cases hc
 |indexAddr t y i=>
  rw[hop]at hc;simp only[bc]at hc;split at hc
  ·obtain⟨_,_,rfl⟩:=aJ hc;simp[X.isT]at hT
  ·obtain⟨_,_,rfl⟩:=aJ hc;simp[X.isT]at hT
  ·cases hc
 |index t y i=>
  rw[hop]at hc;simp only[bc]at hc;split at hc
  ·obtain⟨_,_,hc⟩:=aK hc;obtain⟨_,_,rfl⟩:=aJ hc;simp[X.isT]at hT
  ·simp only[ak]at hc;subst hc;simp[X.isT]at hT
  ·cases hc
 |_=>rw[hop]at hc;simp[bc]at hc
theorem Kp{rec:Rec}{x:X}(hc:bc P o.op=some x)(hT:x.isT=false)(hnc:∀f l,x≠ .cal f l)(hx:xR rec x tm h=some (c,h'))(hv:HV P A ρ w tm a o)(t:Rel P A ρ w h)(hd:Dj A h h'):ME P A ρ w h ((execOp a.eval o).run P w) c h':=by
 cases hop:o.op with
 |load ty y=>
  rw[hop]at hc;simp only[bc]at hc;obtain⟨s,e1,hc⟩:=aK hc;obtain⟨r,e2,rfl⟩:=aJ hc;simp only[xR]at hx;obtain⟨d,e3,e4⟩:=aJ hx;simp only[aR]at e4;obtain⟨rfl,rfl⟩:=e4;exact VL hv t hop e2 e1 e3
 |store ty y v=>
  rw[hop]at hc;simp only[bc]at hc;obtain⟨s,e1,rfl⟩:=aJ hc;simp only[xR]at hx;obtain⟨d,e3,e4⟩:=aJ hx;simp only[aR]at e4;obtain⟨rfl,rfl⟩:=e4;exact(Um hv t hop e1 e3).1
 |call cl=>
  obtain⟨callee,args,argTypes⟩:=cl;rw[hop]at hc
  cases callee with
  |value f=>
   simp only[bc,ak]at hc;subst hc;exact absurd rfl (hnc _ _)
  |invoke r m=>simp[bc]at hc
  |builtin b=>
   simp only[bc]at hc;split at hc
   ·split at hc
    ·simp only[ak]at hc;subst hc;simp[X.isT]at hT
    ·simp only[ak]at hc;subst hc;simp[X.isT]at hT
    ·cases hc
   ·simp only[ak]at hc;subst hc;simp[X.isT]at hT
   ·simp only[ak]at hc;subst hc;simp[X.isT]at hT
   ·next y y2 ty tn ha ht=>
    have ha':args= #[y,y2]:=cM.1 ha;have ht':argTypes= #[ty,tn]:=cM.1 ht;subst ha';subst ht';split at hc
    ·next e e' hu hu'=>
     split at hc
     ·cases hc
     ·next hb=>
      have hb':ty=tn:=by simpa using hb
      subst hb';obtain⟨i,e1,hc⟩:=aK hc;obtain⟨z,e2,hc⟩:=aK hc;split at hc
      ·next hcc=>
       simp only[eH]at hcc;simp only[ak]at hc;subst hc;simp only[xR]at hx;exact(m_app hv t hd hop hu e1 rfl e2 (gg hcc.1) (by simpa[bB]using hcc.2) hx).1
      ·cases hc
    ·next e kn hu hu'=>
     obtain⟨i,e1,hc⟩:=aK hc;obtain⟨z,e2,hc⟩:=aK hc;split at hc
     ·next hcc=>
      simp only[eH]at hcc;simp only[ak]at hc;subst hc;simp only[xR]at hx;split at hx
      ·next m hx1 hx2=>
       split at hx
       ·next hm=>
        obtain⟨h1,e3,e4⟩:=aJ hx;simp only[aR]at e4;obtain⟨rfl,rfl⟩:=e4;exact VM hv t hd hop hu hu' e1 e2 (gg hcc.1) (by simpa[bB]using hcc.2) hx1 hx2 (gg hm) e3
       ·cases hx
      ·cases hx
     ·cases hc
    ·cases hc
   ·split at hc
    ·simp only[ak]at hc;subst hc;simp[X.isT]at hT
    ·cases hc
   ·cases hc
 |_=>
  exfalso;rcases GP hc hT with⟨_,_,e⟩|⟨_,_,_,e⟩|⟨_,e⟩<;>(rw[hop]at e;cases e)
end CI
end
end Go.Proofs.YtcgjmdpcplhanaaGreat
