/- Lemmas for the law: Q1 Q2 Q3 Q4 Q5 Q6 Q7 Q8 Q9 Q10 Q11 Q12 Q13 Q14 Q15 Q16 Q17 Q18 Q19 Q20 -/
import Derived.Great.BuildSlice
import Derived.Lib.SliceRun
import Derived.Laws.Slices
import Derived.Lib.AppendZerosOnto
import Derived.RangeFuncIn
import Derived.RangeFuncCalls
import Derived.OrdersIn
import Derived.DefersIn
import Derived.RangeFuncLeaves
import Derived.RangeFuncRecord
import Derived.Shelf.Abstract
import Derived.Test.YtepdigdijecgpaaGreatZa2
namespace Go.Proofs.YtepdigdijecgpaaGreat
section
abbrev ct:=@Nat.le_of_ble_eq_true
abbrev gH:=@Option.bind_eq_some_iff
abbrev tv:=@Bool.false_eq_true
abbrev tu:=@Array.eq_empty_of_size_eq_zero
abbrev xH:=@Array.foldl_toList
abbrev xG:=@List.take_append_of_le_length
abbrev fQ:=@List.length_nil
abbrev lu:=@Nat.ble_eq_true_of_le
abbrev xF:=@List.map_congr_left
abbrev xE:=@Bool.or_eq_false_iff
abbrev lp:=@Bool.not_eq_true'
abbrev ln:=@Option.getD_some
abbrev np:=@Nat.lt_succ_iff_lt_or_eq
abbrev iu:=@Array.getElem?_eq_getElem
theorem od{p:Prop}(h:p:=by rw[ho,hy];simp[Op.operands]):p:=h
theorem xo{p:Prop}(h:p:=by unfold at';rw[aj rfl]):p:=h
end
section
open Go.RowKit
namespace CI
inductive C where
 |any
 |sc (v:Value)
 |nm (z:Int)
 |sl (k off n c:Nat) (x:Bool)
 |pt (k off:Nat)
 |fn (f:FuncId) (caps:List C)
 |ag (l:List C)
 |tp (l:List C)
 |yl (k:Nat)
 |em
 deriving Inhabited
inductive T(α:Type) where
 |e
 |n (v:Option α) (l r:T α)
def T.get{α:Type}:T α->Nat->Option α
 | .e,_=>none
 | .n v l r,k=>match k with
  |0=>v
  |k+1=>match k%2 with
   |0=>l.get (k/2)
   |_+1=>r.get (k/2)
def T.mkL{α:Type}(t:T α)(v:Option α)(r:T α):T α:=match t with
 | .e=>.n v .e r
 | .n a b c=>.n v (.n a b c) r
def T.mkR{α:Type}(t:T α)(v:Option α)(l:T α):T α:=match t with
 | .e=>.n v l .e
 | .n a b c=>.n v l (.n a b c)
def T.put{α:Type}:Nat->T α->Nat->Option α->T α
 |0,t,_,_=>t
 |f+1,t,k,x=>
  match t with
  | .e=>match k with
   |0=>.n x .e .e
   |k+1=>match k%2 with
    |0=>(put f .e (k/2) x).mkL none .e
    |_+1=>(put f .e (k/2) x).mkR none .e
  | .n v l r=>match k with
   |0=>.n x l r
   |k+1=>match k%2 with
    |0=>(put f l (k/2) x).mkL v r
    |_+1=>(put f r (k/2) x).mkR v l
inductive CO where
 |t (n:Nat)
 |c (x:C)
 deriving Inhabited
inductive X where
 |mv (x:CO)
 |pick (c a b:CO)
 |alloc (T:Nat) (z:List C)
 |box (T:Nat) (x:CO)
 |build (z:List C) (ps:List (Nat×Nat×CO))
 |bsl (T w len:Nat) (z:List C) (ps:List (Nat×Nat×CO))
 |load (row:Bool) (w:Nat) (x:CO)
 |store (w:Nat) (a x:CO)
 |bin (op:BinOp) (x y:CO)
 |beq (ng:Bool) (x y:CO)
 |snil (ng:Bool) (x y:CO)
 |un (op:UnOp) (x:CO)
 |conv (k:IntKind) (x:CO)
 |mkf (f:FuncId) (cs:List CO)
 |mks (T w bytes:Nat) (z:List C) (l c:CO)
 |slc (w:Nat) (x:CO) (lo hi mx:Option CO)
 |fa (off:Nat) (x:CO)
 |fd (row:Bool) (off w:Nat) (x:CO)
 |ia (w:Nat) (len:Option Nat) (x i:CO)
 |ix (row:Bool) (w len:Nat) (x i:CO)
 |sx (x i:CO)
 |ext (x:CO) (i:Nat)
 |nc (x:CO)
 |len (str:Bool) (x:CO)
 |mnx (gt:Bool) (x y:CO)
 |app (T w:Nat) (x y:CO)
 |appz (T:Nat) (z:List C) (x n:CO)
 |cap (x:CO)
 |clr (w:Nat) (z:List C) (x:CO)
 |bad
 |cal (f:CO) (args:List CO)
 deriving Inhabited
structure RO where
 dst:Option Nat
 g:Option (Nat×Bool)
 x:X
 pre:Nat
 deriving Inhabited
inductive CC where
 |skip
 |ret
 |exit (id:Nat)
 |seq (a b:CC)
 |cond (c:CO) (a b:CC)
 |block (id:Nat) (c:CC)
 |loop (c:CC)
 |rng (f:CO) (ps:List Nat) (assign body:CC)
 |reg (draw:Bool) (ops:List RO)
 deriving Inhabited
inductive Ex where
 |norm
 |ret
 |exit (id:Nat)
 deriving Inhabited
inductive LS where|ready|busy|done|qd
inductive B where
 |cells (T:Nat) (l:List C)
 |loop (st:LS) (pend:Ex) (tm:T C) (ps:List Nat) (assign body:CC) (defers:Nat)
 |defd (isOpen:Bool)
structure H where
 next:Nat
 low:Nat
 forb:List (Nat×Nat)
 t:T B
def bH(k:Nat):List (Nat×Nat)->Bool
 |[]=>false
 |(a,b)::l=>match Nat.ble a k with
  |true=>match Nat.blt k b with
   |true=>true
   |false=>bH k l
  |false=>bH k l
def H.get(h:H)(k:Nat):Option B:=
 match bH k h.forb with
 |true=>none
 |false=>h.t.get k
def H.set(h:H)(k:Nat)(b:Option B):H:=⟨h.next,(match Nat.blt k h.low with|true=>k|false=>h.low),h.forb,T.put 24 h.t k b⟩
def H.new(h:H)(b:B):Option H:=match Nat.blt h.next 1000000 with
 |true=>some ⟨h.next+1,h.low,h.forb,T.put 24 h.t h.next (some b)⟩
 |false=>none
def C.wid:C->Nat
 | .nm _=>2
 | .sc _=>1
 | .sl ..=>1
 | .pt ..=>1
 | .fn ..=>1
 | .yl _=>1
 |_=>0
def pO:List C->Nat
 |[]=>0
 |c::l=>c.wid+pO l
def C.okP:C->Bool
 | .nm _=>true
 | .sc (.int .u32 _)=>false
 | .sc _=>true
 | .sl ..=>true
 | .pt ..=>true
 | .fn ..=>true
 | .yl _=>true
 |_=>false
def C.flat:C->Option (List C)
 | .ag l=>some l
 |c=>match c.okP with|true=>some [c]|false=>none
def dN(row:Bool)(l:List C):Option C:=
 match row with
 |true=>match l with
  |[.nm z]=>some (.nm z)
  |l=>some (.ag l)
 |false=>match l with
  |[.nm _]=>none
  |[c]=>some c
  |_=>none
def iJ:List C->Nat->Option (List C)
 |l,0=>some l
 |[],_+1=>none
 |c::l,off+1=>match Nat.ble c.wid (off+1)with
  |true=>iJ l (off+1-c.wid)
  |false=>none
def jn:List C->Nat->Option (List C)
 |_,0=>some []
 |[],_+1=>none
 |c::l,n+1=>match Nat.ble c.wid (n+1)with
  |true=>(jn l (n+1-c.wid)).map (c::·)
  |false=>none
def gk(l:List C)(off w:Nat):Option (List C):=(iJ l off).bind (jn · w)
def lE(l:List C)(off w:Nat)(new:List C):Option (List C):=
 (jn l off).bind fun a=>(iJ l (off+w)).map fun b=>a++new++b
def zj:C->Option Int
 | .nm z=>some z
 | .ag [.sc (.bool false),.sc (.slice none 0 0)]=>some 0
 |_=>none
def gD(l:List C):List (Nat×Nat×C)->Option (List C)
 |[]=>some l
 |(off,w,c)::ps=>c.flat.bind fun p=>match Nat.beq (pO p) w with
  |true=>(lE l off w p).bind (gD · ps)
  |false=>none
def eK(z:List C):Nat->List C
 |0=>[]
 |n+1=>z++eK z n
def ikB:IntKind->IntKind->Bool
 | .i8,.i8| .i16,.i16| .i32,.i32| .i64,.i64| .u8,.u8| .u16,.u16| .u32,.u32| .u64,.u64=>true
 |_,_=>false
def B7:C->Option Bool
 | .sc (.slice none _ _)=>some true
 | .sl ..=>some false
 |_=>none
def binZ(op:BinOp)(k:IntKind)(p q:Int):Option Value:=
 match op with
 | .add=>some (.int k (k.wrap (p+q)))
 | .sub=>some (.int k (k.wrap (p-q)))
 | .mul=>some (.int k (k.wrap (p*q)))
 | .quo=>match q with|0=>none|_=>some (.int k (k.wrap (p.tdiv q)))
 | .rem=>match q with|0=>none|_=>some (.int k (p.tmod q))
 | .eql=>some (.bool (p==q))
 | .neq=>some (.bool (p !=q))
 | .lss=>some (.bool (p<q))
 | .leq=>some (.bool (p<=q))
 | .gtr=>some (.bool (p>q))
 | .geq=>some (.bool (p>=q))
 |_=>none
def isNeg(q:Int):Bool:=match q with| .negSucc _=>true|_=>false
def bin(op:BinOp)(a b:C):Option C:=
 match a,b with
 | .sc (.int k p),.sc (.int k' q)=>
  match op with
  | .shl=>match isNeg q with|true=>none|false=>some (.sc (.int k (k.wrap (p*2^(min q.toNat k.bits)))))
  | .shr=>match isNeg q with|true=>none|false=>some (.sc (.int k (p.fdiv (2^(min q.toNat k.bits)))))
  |op=>match ikB k k' with
   |true=>(binZ op k p q).map .sc
   |false=>none
 |_,_=>none
def Cx(ng:Bool)(a b:C):Option C:=
 match a,b with
 | .sc (.bool p),.sc (.bool q)=>some (.sc (.bool (match ng with|true=>!(p==q)|false=>p==q)))
 |_,_=>none
def wQ(ng:Bool)(a b:C):Option C:=
 match B7 a,B7 b with
 |some true,some y=>some (.sc (.bool (match ng with|true=>!y|false=>y)))
 |some false,some true=>some (.sc (.bool ng))
 |_,_=>none
def un(op:UnOp)(a:C):Option C:=
 match op,a with
 | .not,.sc (.bool b)=>some (.sc (.bool !b))
 | .neg,.sc (.int k p)=>some (.sc (.int k (k.wrap (0-p))))
 |_,_=>none
def ofN(n:Nat):C:=.sc (.int .i64 n)
def eB:C->Option Nat
 | .sc (.int _ (.ofNat n))=>some n
 |_=>none
abbrev Tm:=T C
def CO.ev(tm:Tm):CO->C
 |CO.t n=>match T.get tm n with|some y=>y|none=>C.any
 |CO.c x=>x
def dY(tm:Tm)(d:Nat):Option CO->Option Nat
 |none=>some d
 |some x=>eB (x.ev tm)
def parts(tm:Tm):List (Nat×Nat×CO)->List (Nat×Nat×C)
 |[]=>[]
 |(o,w,x)::l=>(o,w,x.ev tm)::parts tm l
def wR(w off l m:Nat)(exact:Bool):Option Nat:=
 match l with
 |0=>some off
 |_=>match Nat.beq m l with
  |true=>match exact with
   |true=>some off
   |false=>none
  |false=>match w with
   |0=>none
   |_=>some (off+l*w)
def uf(mx:Option CO)(e:Bool):Bool:=match mx with|none=>e|some _=>true
def xT(x:X)(tm:Tm)(next:Nat):Option (C×Option B):=
 match x with
 | .mv x=>some (x.ev tm,none)
 | .pick c a b=>match c.ev tm with
  | .sc (.bool true)=>some (a.ev tm,none)
  | .sc (.bool false)=>some (b.ev tm,none)
  |_=>none
 | .alloc T z=>some (.pt next 0,some (.cells T z))
 | .box T x=>(x.ev tm).flat.map fun p=>(.pt next 0,some (.cells T p))
 | .build z ps=>(gD z (parts tm ps)).map fun l=>(.ag l,none)
 | .bsl T w len z ps=>(gD (eK z len) (parts tm ps)).map fun l=>(.sl next 0 len len true,some (.cells T l))
 | .bin op x y=>(bin op (x.ev tm) (y.ev tm)).map (·,none)
 | .beq ng x y=>(Cx ng (x.ev tm) (y.ev tm)).map (·,none)
 | .snil ng x y=>(wQ ng (x.ev tm) (y.ev tm)).map (·,none)
 | .un op x=>(un op (x.ev tm)).map (·,none)
 | .conv k x=>match x.ev tm with
  | .sc (.int _ n)=>some (.sc (.int k (k.wrap n)),none)
  |_=>none
 | .mkf f cs=>some (.fn f (cs.map (·.ev tm)),none)
 | .mks T w bytes z l c=>match eB (l.ev tm),eB (c.ev tm)with
  |some l,some c=>match Nat.ble l c,Nat.ble c 1000000 with
   |true,true=>some (.sl next 0 l c true,some (.cells T (eK z c)))
   |_,_=>none
  |_,_=>none
 | .slc w x lo hi mx=>match x.ev tm with
  | .sl k off n c e=>
   match dY tm 0 lo,dY tm n hi,dY tm c mx with
   |some l,some h,some m=>match Nat.ble m c,Nat.ble h m,Nat.ble l h with
    |true,true,true=>match wR w off l m (uf mx e)with
     |some o=>some (.sl k o (h-l) (m-l) (uf mx e),none)
     |none=>match Nat.beq l h with
      |true=>some (.em,none)
      |false=>none
    |_,_,_=>none
   |_,_,_=>none
  | .sc (.slice none 0 0)=>match dY tm 0 hi,dY tm 0 lo,dY tm 0 mx with
   |some 0,some 0,some 0=>some (.sc (.slice none 0 0),none)
   |_,_,_=>none
  |_=>none
 | .fa off x=>match x.ev tm with
  | .pt k o=>some (.pt k (o+off),none)
  |_=>none
 | .fd row off w x=>match x.ev tm with
  | .ag l=>((gk l off w).bind (dN row)).map (·,none)
  |_=>none
 | .ia w len x i=>match eB (i.ev tm)with
  |some i=>match x.ev tm,len with
   | .sl k off n _ _,none=>match Nat.blt i n with
    |true=>some (.pt k (off+i*w),none)
    |false=>none
   | .pt k off,some n=>match Nat.blt i n with
    |true=>some (.pt k (off+i*w),none)
    |false=>none
   |_,_=>none
  |none=>none
 | .ix row w len x i=>match eB (i.ev tm),x.ev tm with
  |some i,.ag l=>match Nat.blt i len with
   |true=>((gk l (i*w) w).bind (dN row)).map (·,none)
   |false=>none
  |_,_=>none
 | .sx x i=>match eB (i.ev tm),x.ev tm with
  |some i,.sc (.string s)=>s[i]?.map fun b=>(.sc (.int .u8 b.toNat),none)
  |_,_=>none
 | .ext x i=>match x.ev tm with
  | .tp l=>l[i]?.map (·,none)
  |_=>none
 | .nc x=>match x.ev tm with
  | .pt k o=>some (.pt k o,none)
  | .fn f c=>some (.fn f c,none)
  | .yl k=>some (.yl k,none)
  |_=>none
 | .len str x=>match str with
  |false=>match x.ev tm with
   | .sl _ _ n _ _=>some (ofN n,none)
   | .em=>some (ofN 0,none)
   | .sc (.slice none n _)=>some (ofN n,none)
   |_=>none
  |true=>match x.ev tm with
   | .sc (.string s)=>some (ofN s.size,none)
   |_=>none
 | .cap x=>match x.ev tm with
  | .sl _ _ _ c true=>some (ofN c,none)
  | .sc (.slice none _ c)=>some (ofN c,none)
  |_=>none
 | .mnx gt x y=>match x.ev tm,y.ev tm with
  | .sc (.int k p),.sc (.int _ q)=>match gt with
   |true=>some (.sc (.int k (if q>p then q else p)),none)
   |false=>some (.sc (.int k (if q<p then q else p)),none)
  |_,_=>none
 |_=>none
def X.isT:X->Bool
 | .load ..=>false
 | .store ..=>false
 | .app ..=>false
 | .appz ..=>false
 | .clr ..=>false
 | .cal ..=>false
 |_=>true
def H.iq(h:H):Option B->Option H
 |none=>some h
 |some b=>h.new b
def kM(row:Bool)(w:Nat)(a:C)(h:H):Option C:=
 match a with
 | .pt k off=>match h.get k with
  |some (.cells _ l)=>(gk l off w).bind (dN row)
  |_=>none
 |_=>none
def kj(w:Nat)(a v:C)(h:H):Option H:=
 match a with
 | .pt k off=>match h.get k with
  |some (.cells T l)=>v.flat.bind fun p=>match Nat.beq (pO p) w with
   |true=>(lE l off w p).map fun l'=>h.set k (some (.cells T l'))
   |false=>none
  |_=>none
 |_=>none
def slW(w:Nat)(a:C)(h:H):Option (List C×Nat):=
 match a with
 | .sc (.slice none 0 0)=>some ([],0)
 | .em=>some ([],0)
 | .sl k off n _ _=>match h.get k with
  |some (.cells _ l)=>(gk l off (n*w)).map (·,n)
  |_=>none
 |_=>none
def mr(T w:Nat)(a:C)(new:List C)(m:Nat)(h:H):Option (C×H):=
 match m with
 |0=>match a with
  | .sc (.slice none 0 0)=>some (a,h)
  | .sl .. =>some (a,h)
  |_=>none
 |_=>match a with
  | .sc (.slice none 0 0)=>match Nat.ble m 1000000 with
   |true=>(h.new (.cells T new)).map fun h'=>(.sl h.next 0 m m false,h')
   |false=>none
  | .sl k off n c e=>match h.get k with
   |some (.cells T' l)=>match Nat.beq T' T with
    |false=>none
    |true=>match Nat.ble (n+m) c with
     |true=>(lE l (off+n*w) (m*w) new).map fun l'=>(.sl k off (n+m) c e,h.set k (some (.cells T' l')))
     |false=>match Nat.ble (n+m) 1000000 with
      |true=>(gk l off (n*w)).bind fun old=>match e with
       |true=>(h.new (.cells T' (old++new))).map fun h'=>(.sl h.next 0 (n+m) (n+m) false,h')
       |false=>match off with
        |0=>((h.set k none).new (.cells T' (old++new))).map fun h'=>(.sl h.next 0 (n+m) (n+m) false,h')
        |_=>none
      |false=>none
   |_=>none
  |_=>none
def xL(T w:Nat)(a b:C)(h:H):Option (C×H):=(slW w b h).bind fun (new,m)=>mr T w a new m h
def xK(w:Nat)(z:List C)(a:C)(h:H):Option H:=
 match a with
 | .sc (.slice none _ _)=>some h
 | .sl k off n _ _=>match n with
  |0=>some h
  |m+1=>match h.get k with
   |some (.cells T l)=>(lE l off ((m+1)*w) (eK z (m+1))).map fun l'=>h.set k (some (.cells T l'))
   |_=>none
 |_=>none
abbrev Orc:=List C->Option C
inductive RV where
 |tmp (t:Nat)
 |cell (t:Nat) (row:Bool) (w:Nat)
 deriving Inhabited
structure F where
 ntmps:Nat
 body:CC
 res:List RV
structure Env where
 fns:FuncId->Option F
 orc:FuncId->Option Orc
def setArgs:Nat->Nat->List C->Tm->Tm
 |_,_,[],tm=>tm
 |f,k,c::l,tm=>setArgs f (k+1) l (T.put f tm k (some c))
def mC:List Nat->List C->Tm->Option Tm
 |[],[],tm=>some tm
 |t::ts,c::cs,tm=>mC ts cs (T.put 24 tm t (some c))
 |_,_,_=>none
inductive Task where
 |code (c:CC) (tm:Tm) (ds:List Nat) (rd:Option Nat) (h:H)
 |call (f:C) (args:List C) (h:H)
inductive Out where
 |code (e:Ex) (tm:Tm) (ds:List Nat) (h:H)
 |val (c:C) (h:H)
abbrev Rec:=Task->Option Out
def gj(tm:Tm)(dst:Option Nat)(c:C):Tm:=
 match dst with
 |some t=>T.put 24 tm t (some c)
 |none=>tm
def eW(o:RO)(tm:Tm):Option Bool:=
 match o.g with
 |none=>some true
 |some (t,b)=>match tm.get t with
  |some (.sc (.bool c))=>some (match b with|true=>c|false=>!c)
  |_=>none
def xR(rec:Rec)(x:X)(tm:Tm)(h:H):Option (C×H):=
 match x with
 | .load row w a=>(kM row w (a.ev tm) h).map (·,h)
 | .store w a v=>(kj w (a.ev tm) (v.ev tm) h).map (.any,·)
 | .app T w a b=>xL T w (a.ev tm) (b.ev tm) h
 | .appz T z a n=>match a.ev tm,eB (n.ev tm)with
  | .sc (.slice none 0 0),some (m+1)=>match Nat.ble (m+1) 1000000 with
   |true=>(h.new (.cells T (eK z (m+1)))).map fun h'=>(.sl h.next 0 (m+1) (m+1) false,h')
   |false=>none
  |_,_=>none
 | .clr w z a=>(xK w z (a.ev tm) h).map (.any,·)
 | .cal f args=>match rec (.call (f.ev tm) (args.map (·.ev tm)) h)with
  |some (.val c h)=>some (c,h)
  |_=>none
 |_=>none
def rX(rec:Rec)(x:X)(tm:Tm)(h:H):Option (C×H):=
 match x.isT with
 |true=>(xT x tm h.next).bind fun (c,b)=>(h.iq b).map fun h=>(c,h)
 |false=>xR rec x tm h
def kB(rec:Rec):List RO->Tm->H->Option (Tm×H)
 |[],tm,h=>some (tm,h)
 |o::l,tm,h=>match eW o tm with
  |some true=>match rX rec o.x tm h with
   |some (c,h)=>kB rec l (gj tm o.dst c) h
   |none=>none
  |some false=>kB rec l (gj tm o.dst .any) h
  |none=>none
def fM(pre:Nat):List (Nat×Nat×Nat)->List (Nat×Nat)->List (Nat×Nat)
 |[],f=>f
 |(i,a,b)::l,f=>match pre.testBit i with
  |true=>fM pre l f
  |false=>(a,b)::fM pre l f
abbrev Ft:=Option (List Nat)
def eI(t:Nat):List Nat->Bool
 |[]=>false
 |x::l=>match Nat.beq x t with|true=>true|false=>eI t l
def rE:C->List Nat
 | .sl k ..=>[k]
 | .pt k _=>[k]
 |_=>[]
def xFt(x:X)(tm:Tm):Ft:=
 match x with
 | .load _ _ a=>some (rE (a.ev tm))
 | .store _ a _=>some (rE (a.ev tm))
 | .app _ _ a b=>some (rE (a.ev tm)++rE (b.ev tm))
 | .clr _ _ a=>some (rE (a.ev tm))
 |_=>none
def Ft.has(f:Ft)(k:Nat):Bool:=match f with|none=>true|some l=>eI k l
def meets(l:List Nat):List Nat->Bool
 |[]=>false
 |k::m=>match eI k l with|true=>true|false=>meets l m
def Ft.meet(f g:Ft):Bool:=match f,g with
 |some l,some m=>meets l m
 |_,_=>true
def mnN(a b:Nat):Nat:=match Nat.ble a b with|true=>a|false=>b
def outs(next:Nat)(l:List Nat)(f:List (Nat×Nat)):List (Nat×Nat):=
 match l with
 |[]=>(0,next)::f
 |[k]=>(0,mnN k next)::(k+1,next)::f
 |k::k'::_=>match Nat.ble k k' with
  |true=>(0,mnN k next)::(k+1,mnN k' next)::(k'+1,next)::f
  |false=>(0,mnN k' next)::(k'+1,mnN k next)::(k+1,next)::f
def lI(next:Nat)(g:Ft)(f:List (Nat×Nat)):List (Nat×Nat):=match g with|none=>f|some l=>outs next l f
def kf(pre:Nat)(wr:Bool)(g:Ft):List (Nat×Bool×Ft)->Bool
 |[]=>false
 |(i,w,f)::l=>match(w||wr)&&f.meet g&& !pre.testBit i with
  |true=>true
  |false=>kf pre wr g l
def fi(rec:Rec):List RO->Nat->List (Nat×Nat×Nat)->List (Nat×Bool×Ft)->Tm->H->Option (Tm×H)
 |[],_,_,_,tm,h=>some (tm,h)
 |o::l,j,iv,rw,tm,h=>match eW o tm with
  |some true=>match o.x.isT with
   |true=>match xT o.x tm h.next with
    |some (c,none)=>fi rec l (j+1) iv rw (gj tm o.dst c) h
    |some (c,some b)=>match h.new b with
     |some h'=>fi rec l (j+1) ((j,h.next,h'.next)::iv) rw (gj tm o.dst c) h'
     |none=>none
    |none=>none
   |false=>match xR rec o.x tm ⟨h.next,h.next,lI h.next (xFt o.x tm) (fM o.pre iv h.forb),h.t⟩with
    |some (c,h')=>
     let wr:=Nat.blt h'.low h.next
     match kf o.pre wr (xFt o.x tm) rw with
     |true=>none
     | false => fi rec l (j + 1) (match Nat.blt h.next h'.next with | true => (j, h.next, h'.next) :: iv | false => iv) ((j, wr, xFt o.x tm) :: rw) (gj tm o.dst c)
         ⟨h'.next,(match Nat.blt h'.low h.low with|true=>h'.low|false=>h.low),h.forb,h'.t⟩
    |none=>none
  |some false=>fi rec l (j+1) iv rw (gj tm o.dst .any) h
  |none=>none
def results(tm:Tm)(h:H):List RV->Option (List C)
 |[]=>some []
 | .tmp t::l=>(results tm h l).map (CO.ev tm (CO.t t)::·)
 | .cell t row w::l=>(kM row w (CO.ev tm (CO.t t)) h).bind fun c=>(results tm h l).map (c::·)
def mT:List C->C
 |[c]=>c
 |l=>.tp l
def fe:List Nat->H->Option H
 |[],h=>some h
 |k::l,h=>match h.get k with
  |some (.defd true)=>fe l (h.set k (some (.defd false)))
  |_=>none
def yQ(l:Nat)(e:Ex)(h:H):Option (C×H):=
 match h.get l with
 |some (.loop .busy _ tm ps a b d)=>match e with
  | .norm=>some (.sc (.bool true),h.set l (some (.loop .ready .norm tm ps a b d)))
  |e=>some (.sc (.bool false),h.set l (some (.loop .done e tm ps a b d)))
 |_=>none
def body(E:Env)(rec:Rec):Task->Option Out
 | .code c tm ds rd h=>match c with
  | .skip=>some (.code .norm tm ds h)
  | .ret=>some (.code .ret tm ds h)
  | .exit id=>some (.code (.exit id) tm ds h)
  | .seq a b=>match rec (.code a tm ds rd h)with
   |some (.code .norm tm ds h)=>rec (.code b tm ds rd h)
   |o=>o
  | .cond c a b=>match c.ev tm with
   | .sc (.bool true)=>rec (.code a tm ds rd h)
   | .sc (.bool false)=>rec (.code b tm ds rd h)
   |_=>none
  | .block id c=>match rec (.code c tm ds rd h)with
   |some (.code (.exit i) tm ds h)=>match Nat.beq i id with
    |true=>some (.code .norm tm ds h)
    |false=>some (.code (.exit i) tm ds h)
   |o=>o
  | .loop c=>match rec (.code c tm ds rd h)with
   |some (.code .norm tm ds h)=>rec (.code (.loop c) tm ds rd h)
   |o=>o
  | .reg draw ops=>match(match draw with|true=>fi rec ops 0 [] [] tm h|false=>kB rec ops tm h)with
   |some (tm,h)=>some (.code .norm tm ds h)
   |none=>none
  | .rng f ps a b=>
   match(match rd with
    |some l=>match h.get l with
     |some (.loop _ _ _ _ _ _ d)=>some (d,ds,h)
     |_=>none
    |none=>(h.new (.defd true)).map fun h'=>(h.next,h.next::ds,h'))with
   |some (d,ds,h)=>match h.new (.loop .ready .norm tm ps a b d)with
    |some h'=>match(match f.ev tm with| .fn g caps=>rec (.call (.fn g caps) [.yl h.next] h')|_=>none)with
     |some (.val _ h2)=>match h2.get h.next with
      |some (.loop .busy ..)=>none
      |some (.loop _ p tm' ps' a' b' d')=>some (.code p tm ds (h2.set h.next (some (.loop .qd p tm' ps' a' b' d'))))
      |_=>none
     |_=>none
    |none=>none
   |none=>none
 | .call f args h=>match f with
  | .fn g caps=>match E.orc g with
   |some o=>(o (args++caps)).map (.val · h)
   |none=>match E.fns g with
    |some fn=>match Nat.ble (args++caps).length fn.ntmps with
     |false=>none
     |true=>match rec (.code fn.body (setArgs 24 0 (args++caps) .e) [] none h)with
      |some (.code e tm ds h)=>match e with
       | .exit _=>none
       |_=>(fe ds h).bind fun h=>(results tm h fn.res).map fun rs=> .val (mT rs) h
      |_=>none
    |none=>none
  | .yl l=>match h.get l with
   |some (.loop .ready _ tm ps a b _)=>match mC ps args tm with
    |some tm=>match rec (.code a tm [] (some l) h)with
     |some (.code .norm tm [] h)=>match h.get l with
      |some (.loop .ready p tm' ps' a' b' d')=>match rec (.code b tm [] (some l) (h.set l (some (.loop .busy p tm' ps' a' b' d'))))with
       |some (.code e _ [] h)=>(yQ l e h).map fun (c,h)=> .val c h
       |_=>none
      |_=>none
     |_=>none
    |none=>none
   |_=>none
  |_=>none
def run(E:Env):Nat->Rec
 |0=>fun _=>none
 |n+1=>body E (run E n)
section comp
variable (P : Program)
def ofV:Value->C
 | .agg cs=>match cs.toList.all (fun v=>v.oneCell'&&(C.sc v).okP)with
  |true=>.ag (cs.toList.map .sc)
  |false=>.any
 | .tuple _=>.any
 | .func (.func f) first cs=>match first.size,cs.size with
  |0,0=>.fn f []
  |_,_=>.any
 | .func ..=>.any
 |v=>.sc v
def aw:Operand->CO
 | .tmp t=>CO.t t
 | .const v=>CO.c (ofV v)
 | .global _=>CO.c .any
 | .func f=>CO.c (.fn f [])
def zOf(t:TypeId):Option (List C):=(P.info? t).bind fun i=>i.zero.bind fun z=>match z.cells.toList.all (fun v=>v.oneCell'&&(C.sc v).okP)&&Nat.beq z.cells.size i.size with
 |true=>some (z.cells.toList.map .sc)
 |false=>none
def cj(t:TypeId):Option Nat:=(P.info? t).map (·.size)
def rowOf(t:TypeId):Option Bool:=match P.underlying t with|some (.struct _)=>some true|some (.array ..)=>some true|some _=>some false|none=>none
def place(t:TypeId)(i:Nat):Option (Nat×Nat):=
 match P.underlying t with
 |some (.struct fs)=>fs[i]?.bind fun f=>(cj P f.type).map (f.offset,·)
 |some (.array _ e)=>(cj P e).map fun s=>(i*s,s)
 |some (.slice e)=>(cj P e).map fun s=>(i*s,s)
 |_=>none
def placesOf(t:TypeId):List (Nat×Operand)->Option (List (Nat×Nat×CO))
 |[]=>some []
 |(i,x)::l=>(place P t i).bind fun (o,w)=>(placesOf t l).map ((o,w,aw x)::·)
def mL(l:List Operand):List CO:=l.map aw
def aE(o:Op):Option X:=
 match o with
 | .move x=>some (.mv (aw x))
 | .assign x=>some (.mv (aw x))
 | .pick c a b=>some (.pick (aw c) (aw a) (aw b))
 | .alloc t=>(zOf P t).map (.alloc t)
 | .box t x=>some (.box t (aw x))
 | .build t ps=>match P.underlying t with
  |some (.struct fs)=>match fs.toList.all (fun f=>(P.info? f.type).isSome)with
   |true=>(zOf P t).bind fun z=>(placesOf P t ps.toList).map fun ps=> .build z ps
   |false=>none
  |some (.array _ e)=>(cj P e).bind fun _=>(zOf P t).bind fun z=>(placesOf P t ps.toList).map fun ps=> .build z ps
  |_=>none
 | .buildSlice t n ps=>match P.underlying t with
  |some (.slice e)=>(cj P e).bind fun w=>(zOf P e).bind fun z=>match Nat.ble (n*w) 16777216&&Nat.blt 0 w&&(Nat.blt 0 n||ps.toList.isEmpty)with
   |true=>(placesOf P t ps.toList).map fun ps=> .bsl e w n z ps
   |false=>none
  |_=>none
 | .load t a=>(cj P t).bind fun w=>(rowOf P t).map fun r=> .load r w (aw a)
 | .store t a x=>(cj P t).map fun w=> .store w (aw a) (aw x)
 | .binOp op t x y _=>match P.underlying t with
  |some (.int _)=>some (.bin op (aw x) (aw y))
  |some .bool=>match op with
   | .eql=>some (.beq false (aw x) (aw y))
   | .neq=>some (.beq true (aw x) (aw y))
   |_=>none
  |some (.slice _)=>match op with
   | .eql=>some (.snil false (aw x) (aw y))
   | .neq=>some (.snil true (aw x) (aw y))
   |_=>none
  |_=>none
 | .unOp op _ x=>some (.un op (aw x))
 | .convert s t x=>match P.underlying s,P.underlying t with
  |some (.int _),some (.int k)=>some (.conv k (aw x))
  |_,_=>none
 | .makeFunc (.func f) first cs=>match first.size with
  |0=>some (.mkf f (mL cs.toList))
  |_=>none
 | .makeSlice t l c=>match P.underlying t with
  |some (.slice e)=>(P.info? e).bind fun i=>(zOf P e).bind fun z=>match Nat.ble i.bytes 100000 with
   |true=>some (.mks e i.size i.bytes z (aw l) (aw c))
   |false=>none
  |_=>none
 | .slice t x lo hi mx=>match P.underlying t with
  |some (.slice e)=>match hi,mx with
   |none,some _=>none
   |_,_=>(cj P e).map fun w=> .slc w (aw x) (lo.map aw) (hi.map aw) (mx.map aw)
  |_=>none
 | .fieldAddr t x i=>match P.underlying t with
  |some (.struct fs)=>fs[i]?.bind fun f=>(cj P f.type).bind fun w=>match w with
   |0=>none
   |_=>some (.fa f.offset (aw x))
  |_=>none
 | .field t x i=>match P.underlying t with
  |some (.struct fs)=>fs[i]?.bind fun f=>(cj P f.type).bind fun w=>(rowOf P f.type).map fun r=> .fd r f.offset w (aw x)
  |_=>none
 | .indexAddr t x i=>match P.underlying t with
  |some (.slice e)=>(cj P e).map fun w=> .ia w none (aw x) (aw i)
  |some (.array n e)=>(cj P e).map fun w=> .ia w (some n) (aw x) (aw i)
  |_=>none
 | .index t x i=>match P.underlying t with
  |some (.array n e)=>(cj P e).bind fun w=>(rowOf P e).map fun r=> .ix r w n (aw x) (aw i)
  |some .string=>some (.sx (aw x) (aw i))
  |_=>none
 | .extract x i=>some (.ext (aw x) i)
 | .nilCheck x=>some (.nc (aw x))
 | .call {callee:= .builtin b,args,argTypes}=>match b,args.toList,argTypes.toList with
  | .len,[x],[t]=>match P.underlying t with
   |some (.slice _)=>some (.len false (aw x))
   |some .string=>some (.len true (aw x))
   |_=>none
  | .min,[x,y],_=>some (.mnx false (aw x) (aw y))
  | .max,[x,y],_=>some (.mnx true (aw x) (aw y))
  | .append,[x,y],[t,t']=>match P.underlying t,P.underlying t' with
   |some (.slice e),some (.slice _)=>match Nat.beq t t' with
    |false=>none
    |true=>(P.info? e).bind fun i=>(zOf P e).bind fun z=>match Nat.ble i.bytes 100000&&Nat.blt 0 i.size with
     |true=>some (.app e i.size (aw x) (aw y))
     |false=>none
   |some (.slice e),some (.int _)=>(P.info? e).bind fun i=>(zOf P e).bind fun z=>match Nat.ble i.bytes 100000&&Nat.blt 0 i.size with
    |true=>some (.appz e z (aw x) (aw y))
    |false=>none
   |_,_=>none
  | .cap,[x],[t]=>match P.underlying t with
   |some (.slice _)=>some (.cap (aw x))
   |_=>none
  | .clear,[x],[t]=>match P.underlying t with
   |some (.slice e)=>(P.info? e).bind fun i=>(zOf P e).map fun z=> .clr i.size z (aw x)
   |_=>none
  |_,_,_=>none
 | .call {callee:= .value f,args, .. }=>some (.cal (aw f) (mL args.toList))
 |_=>none
def oV:List Nat->Nat->Nat
 |[],_=>0
 |x::_,0=>x
 |_::l,n+1=>oV l n
def jq(acc:List Nat):List Edge->Nat
 |[]=>0
 |e::l=>match Region.binds .any e with
  |true=>2^e.on|||oV acc e.on|||jq acc l
  |false=>jq acc l
def iM:List Oper->List Nat->List Nat
 |[],acc=>acc
 |o::l,acc=>iM l (acc++[jq acc o.after.toList])
def looks(ops:Array Oper)(o:Oper):List Nat:=
 (match o.guard with
  |some (g,_)=>((ops[g]?).bind (·.dst)).toList
  |none=>[])++(o.op.operands.toList.filterMap fun| .tmp t=>some t|_=>none)
def mX(t:Option Nat)(l:List Nat):Bool:=match t with|some t=>eI t l|none=>false
def oA(ops:Array Oper)(o:Oper)(pre:Nat):List Oper->Nat->Bool
 |[],_=>true
 |o'::l,i=>match(mX o'.dst (looks ops o)||mX o.dst (looks ops o')||mX o.dst o'.dst.toList)&& !pre.testBit i with
  |true=>false
  |false=>oA ops o pre l (i+1)
def ig(k:Nat):List Edge->Bool
 |[]=>true
 |e::l=>match Region.binds .any e&& !Nat.blt e.on k with
  |true=>false
  |false=>ig k l
def cr(n:Nat)(dst:Option Tmp):Bool:=match dst with|some t=>Nat.blt t n|none=>true
def eP(n:Nat)(draw:Bool)(ops:Array Oper)(acc:List Oper):List Oper->List Nat->Option (List RO)
 |[],_=>some []
 |o::l,ps=>match ps with
  |p::ps=>match draw&& !(oA ops o p acc 0&&ig acc.length o.after.toList)|| !cr n o.dst with
   |true=>none
   |false=>(match o.guard with
    |none=>some none
    |some (j,b)=>((ops[j]?).bind (·.dst)).map fun t=>some (t,b)).bind fun g=>
     (eP n draw ops (acc++[o]) l ps).map fun r=>⟨o.dst,g,(match aE P o.op with|some x=>x|none=>.bad),p⟩::r
  |[]=>none
def comp(n:Nat):Code->Option CC
 | .skip=>some .skip
 | .ret=>some .ret
 | .exit id=>some (.exit id)
 | .label _=>some .skip
 | .seq a b=>(comp n a).bind fun a=>(comp n b).map (.seq a)
 | .cond c a b=>(comp n a).bind fun a=>(comp n b).map (.cond (aw c) a)
 | .block id c=>(comp n c).map (.block id)
 | .loop c=>(comp n c).map .loop
 | .rangeFunc f ps a b=>match ps.toList.all (fun t=>Nat.blt t n)with
  |false=>none
  |true=>(comp n a).bind fun a=>(comp n b).map (.rng (aw f) ps.toList a)
 | .region _ ops draw=>(eP P n draw ops [] ops.toList (iM ops.toList [])).map (.reg draw)
 |_=>none
def rvOf:ResultVar->Option RV
 | .tmp t=>some (.tmp t)
 | .cell t ty=>(cj P ty).bind fun w=>(rowOf P ty).map fun r=>.cell t r w
def oD:List ResultVar->Option (List RV)
 |[]=>some []
 |r::l=>(rvOf P r).bind fun r=>(oD l).map (r::·)
def mM (g : FuncId) : Option F := (P.funcs[g]?).bind fun fn => fn.body.bind fun c => match Nat.blt fn.ntmps 1000000 && !(fn.name == "runtime.NumGoroutine") with
 |true=>(comp P fn.ntmps c).bind fun c=>(oD P fn.results.toList).map fun r=>⟨fn.ntmps,c,r⟩
 |false=>none
end comp
end CI
end
section
open Go.RowKit
namespace CI
section
variable (P : Program)
mutual
def VR(A:Nat->Prop)(ρ:Nat->Nat)(w:World):C->Value->Prop
 | .any,_=>True
 | .sc u,v=>v=u/\u.oneCell'=true
 | .nm z,v=>∃x:IV,v= .agg #[.bool x.s, .slice x.a x.n x.cap]/\IZ w x z
 | .sl k off n c x, v => A k /\ ∃ cap, v = .slice (some ⟨ρ k, off, none⟩) n cap /\ n <= c /\ c <= cap /\ (x = true -> cap = c) /\
     (x=false->off=0->cap<=maxLen/\∃T s,w.shape? (ρ k)=some (T,cap*s)/\cj P T=some s)
 | .pt k off,v=>A k/\v= .pointer (some ⟨ρ k,off,none⟩)
 | .fn f cs,v=>∃us,v= .func (.func f) #[] us/\VRl A ρ w cs us.toList
 | .ag l,v=>∃cs,v= .agg cs/\VCs A ρ w l cs.toList
 | .tp l,v=>∃vs,v= .tuple vs/\VRl A ρ w l vs.toList
 | .yl k,v=>A k/\v= .func (.yield (ρ k)) #[] #[]
 | .em,v=>∃ad cp,v= .slice ad 0 cp
def VRl(A:Nat->Prop)(ρ:Nat->Nat)(w:World):List C->List Value->Prop
 |[],vs=>vs=[]
 |d::l,vs=>∃u rest,vs=u::rest/\VR A ρ w d u/\VRl A ρ w l rest
def VCs(A:Nat->Prop)(ρ:Nat->Nat)(w:World):List C->List Value->Prop
 |[],cs=>cs=[]
 |d::l,cs=>d.okP=true/\∃u rest,cs=u.cells.toList++rest/\VR A ρ w d u/\VCs A ρ w l rest
end
structure Lt(w w':World):Prop where
 os:w'.os=w.os
 tape:w'.tape=w.tape
 output:w'.output=w.output
 size:w.heap.size<=w'.heap.size
 iz:∀x z,IZ w x z->IZ w' x z
 shape:∀b s,w.shape? b=some s->w'.shape? b=some s
theorem Lt.refl(w:World):Lt w w:=⟨rfl,rfl,rfl,af _,fun _ _ h=>h,fun _ _ h=>h⟩
theorem Lt.trans{a b c:World}(h:Lt a b)(k:Lt b c):Lt a c:=
 ⟨k.os.trans h.os,k.tape.trans h.tape,k.output.trans h.output,aX h.size k.size,fun x z e=>k.iz x z (h.iz x z e),fun x z e=>k.shape x z (h.shape x z e)⟩
theorem xZ{w:World}{b:Nat}{s:TypeId×Nat}(h:w.shape? b=some s):b<w.heap.size:=by
 unfold World.shape? at h
 cases e:w.heap[b]? with
 |none=>rw[e]at h;cases h
 |some o=>exact(gi.1 e).1
theorem xY{w w':World}{b:Nat}(h:w'.heap[b]?=w.heap[b]?):w'.shape? b=w.shape? b:=by
 unfold World.shape?;rw[h]
theorem Lt.below{w w':World}(h:Below w.heap.size w w'):Lt w w':=
 ⟨h.os,h.tape,h.output,h.size,fun _ _ hz=>hz.below h (af _),fun b s e=>by rw[xY (h.block b (xZ e))];exact e⟩
theorem Lt.chg{g:Nat}{w w':World}(h:Chg g w w')(hb:NW w g)(hs:∀s,w.shape? g=some s->w'.shape? g=some s):Lt w w':=
 ⟨h.os,h.tape,h.output,h.size,fun _ _ hz=>hz.chg h hb,fun b s e=>by
  by_cases hbg:b=g
  ·subst hbg;exact hs s e
  ·rw[xY (h.block b (xZ e) hbg)];exact e⟩
variable {P}
structure Mo(A A':Nat->Prop)(ρ ρ':Nat->Nat):Prop where
 sub:∀k,A k->A' k
 eq:∀k,A k->ρ' k=ρ k
theorem Mo.refl(A:Nat->Prop)(ρ:Nat->Nat):Mo A A ρ ρ:=⟨fun _ h=>h,fun _ _=>rfl⟩
mutual
theorem VR.mo{A A':Nat->Prop}{ρ ρ':Nat->Nat}{w w':World}(m:Mo A A' ρ ρ')(k:Lt w w'):∀(c:C) (v:Value),VR P A ρ w c v->VR P A' ρ' w' c v
 | .any,_,_=>by simp only[VR]
 | .sc u,v,h=>by simp only[VR]at h⊢;exact h
 | .nm z,v,h=>by
  simp only[VR]at h⊢;obtain⟨x,h1,h2⟩:=h;exact⟨x,h1,k.iz _ _ h2⟩
 | .sl b off n c x,v,h=>by
  simp only[VR]at h⊢;obtain⟨h0,cap,h1,h2,h3,h4,h5⟩:=h;refine⟨m.sub _ h0,cap,by rw[m.eq _ h0];exact h1,h2,h3,h4,fun hx ho=>?_⟩;obtain⟨h6,T,s,h7,h8⟩:=h5 hx ho;exact⟨h6,T,s,by rw[m.eq _ h0];exact k.shape _ _ h7,h8⟩
 | .pt b off,v,h=>by
  simp only[VR]at h⊢;exact⟨m.sub _ h.1,by rw[m.eq _ h.1];exact h.2⟩
 | .fn f cs,v,h=>by
  simp only[VR]at h⊢;obtain⟨us,h1,h2⟩:=h;exact⟨us,h1,VRl.mo m k cs _ h2⟩
 | .ag l,v,h=>by
  simp only[VR]at h⊢;obtain⟨cs,h1,h2⟩:=h;exact⟨cs,h1,VCs.mo m k l _ h2⟩
 | .tp l,v,h=>by
  simp only[VR]at h⊢;obtain⟨vs,h1,h2⟩:=h;exact⟨vs,h1,VRl.mo m k l _ h2⟩
 | .yl b,v,h=>by
  simp only[VR]at h⊢;exact⟨m.sub _ h.1,by rw[m.eq _ h.1];exact h.2⟩
 | .em,v,h=>by
  simp only[VR]at h⊢;exact h
theorem VRl.mo{A A':Nat->Prop}{ρ ρ':Nat->Nat}{w w':World}(m:Mo A A' ρ ρ')(k:Lt w w'):∀(l:List C) (vs:List Value),VRl P A ρ w l vs->VRl P A' ρ' w' l vs
 |[],_,h=>by simp only[VRl]at h⊢;exact h
 |d::l,vs,h=>by
  simp only[VRl]at h⊢;obtain⟨u,rest,h1,h2,h3⟩:=h;exact⟨u,rest,h1,VR.mo m k d u h2,VRl.mo m k l rest h3⟩
theorem VCs.mo{A A':Nat->Prop}{ρ ρ':Nat->Nat}{w w':World}(m:Mo A A' ρ ρ')(k:Lt w w'):∀(l:List C) (cs:List Value),VCs P A ρ w l cs->VCs P A' ρ' w' l cs
 |[],_,h=>by simp only[VCs]at h⊢;exact h
 |d::l,cs,h=>by
  simp only[VCs]at h⊢;obtain⟨h0,u,rest,h1,h2,h3⟩:=h;exact⟨h0,u,rest,h1,VR.mo m k d u h2,VCs.mo m k l rest h3⟩
end
variable {A : Nat->Prop} {ρ : Nat->Nat} {w : World}
theorem qx{u:Value}(h:u.oneCell'=true):u.cells= #[u]:=by
 cases u<;>first|rfl|simp[Value.oneCell']at h
theorem VR.cells{c:C}{u:Value}(ho:c.okP=true)(h:VR P A ρ w c u):u.cells.toList.length=c.wid/\(∀x∈u.cells.toList,x.oneCell'=true)/\(∀n,u.cells.toList[0]?≠some (.int .u32 n)):=by
 cases c with
 |any=>simp[C.okP]at ho
 |ag l=>simp[C.okP]at ho
 |tp l=>simp[C.okP]at ho
 |em=>simp[C.okP]at ho
 |sc v=>
  simp only[VR]at h;obtain⟨rfl,h⟩:=h;rw[qx h];refine⟨rfl,by simpa using h,fun n e=>?_⟩;simp at e;subst e;simp[C.okP]at ho
 |nm z=>
  simp only[VR]at h;obtain⟨x,rfl,_⟩:=h;refine⟨rfl,fun u hu=>?_,fun n e=>by simp[Value.cells]at e⟩;simp[Value.cells]at hu;rcases hu with rfl|rfl<;>rfl
 |sl k off n c x=>
  simp only[VR]at h;obtain⟨_,cap,rfl,_⟩:=h;exact⟨rfl,by simp[Value.cells,Value.oneCell'],fun n e=>by simp[Value.cells]at e⟩
 |pt k off=>
  simp only[VR]at h;obtain⟨_,rfl⟩:=h;exact⟨rfl,by simp[Value.cells,Value.oneCell'],fun n e=>by simp[Value.cells]at e⟩
 |fn f cs=>
  simp only[VR]at h;obtain⟨us,rfl,_⟩:=h;exact⟨rfl,by simp[Value.cells,Value.oneCell'],fun n e=>by simp[Value.cells]at e⟩
 |yl k=>
  simp only[VR]at h;obtain⟨_,rfl⟩:=h;exact⟨rfl,by simp[Value.cells,Value.oneCell'],fun n e=>by simp[Value.cells]at e⟩
theorem VCs.len:∀{l:List C} {xs:List Value},VCs P A ρ w l xs->xs.length=pO l
 |[],_,h=>by simp only[VCs]at h;subst h;rfl
 |d::l,xs,h=>by
  simp only[VCs]at h;obtain⟨h0,u,rest,rfl,h2,h3⟩:=h;rw[cL,(VR.cells h0 h2).1,VCs.len h3];rfl
theorem VCs.one:∀{l:List C} {xs:List Value},VCs P A ρ w l xs->∀x∈xs,x.oneCell'=true
 |[],_,h=>by simp only[VCs]at h;subst h;intro x hx;cases hx
 |d::l,xs,h=>by
  simp only[VCs]at h;obtain⟨h0,u,rest,rfl,h2,h3⟩:=h;intro x hx;rcases dR.1 hx with hx|hx
  ·exact(VR.cells h0 h2).2.1 x hx
  ·exact VCs.one h3 x hx
theorem vg{c:C}(h:c.okP=true):0<c.wid:=by cases c<;>simp_all [C.okP,C.wid]
theorem VCs.nw{l:List C}{xs:List Value}(h:VCs P A ρ w l xs):∀n,xs[0]?≠some (.int .u32 n):=by
 cases l with
 |nil=>simp only[VCs]at h;subst h;intro n e;simp at e
 |cons d l=>
  simp only[VCs]at h;obtain⟨h0,u,rest,rfl,h2,h3⟩:=h;obtain⟨k1,_,k3⟩:=VR.cells h0 h2;have:=vg h0;intro n e;rw[en aa]at e;exact k3 n e
theorem VCs.app{l2:List C}{ys:List Value}(k:VCs P A ρ w l2 ys):∀{l:List C} {xs:List Value},VCs P A ρ w l xs->VCs P A ρ w (l++l2) (xs++ys)
 |[],_,h=>by simp only[VCs]at h;subst h;exact k
 |d::l,xs,h=>by
  simp only[VCs]at h;obtain⟨h0,u,rest,rfl,h2,h3⟩:=h;simp only[qM,VCs];exact⟨h0,u,rest++ys,by rw[fS],h2,VCs.app k h3⟩
theorem VCs.drop:∀{l:List C} {xs:List Value} {off:Nat} {l':List C},VCs P A ρ w l xs->iJ l off=some l'->VCs P A ρ w l' (xs.drop off)/\off<=xs.length
 |l,xs,0,l',h,e=>by
  have e':l'=l:=by cases l<;>simpa[iJ]using e.symm
  subst e';exact⟨h,aP _⟩
 |[],_,off+1,l',_,e=>by simp[iJ]at e
 |c::l,xs,off+1,l',h,e=>by
  simp only[iJ]at e;split at e
  ·next hb=>
   have hb':=ct hb;simp only[VCs]at h;obtain⟨h0,u,rest,rfl,h2,h3⟩:=h;have hl:=(VR.cells h0 h2).1;have:=vg h0;obtain⟨k1,k2⟩:=VCs.drop h3 e;refine⟨?_,by rw[cL];omega⟩;rw[List.drop_append,pI aa,fV,hl];exact k1
  ·cases e
theorem VCs.take:∀{l:List C} {xs:List Value} {n:Nat} {l':List C},VCs P A ρ w l xs->jn l n=some l'->VCs P A ρ w l' (xs.take n)/\n<=xs.length
 |l,xs,0,l',h,e=>by
  have e':l'=[]:=by cases l<;>simpa[jn]using e.symm
  subst e';exact⟨by simp only[VCs,eU],aP _⟩
 |[],_,n+1,l',_,e=>by simp[jn]at e
 |c::l,xs,n+1,l',h,e=>by
  simp only[jn]at e;split at e
  ·next hb=>
   have hb':=ct hb;obtain⟨l2,e2,rfl⟩:=fw.1 e;simp only[VCs]at h;obtain⟨h0,u,rest,rfl,h2,h3⟩:=h;have hl:=(VR.cells h0 h2).1;have:=vg h0;obtain⟨k1,k2⟩:=VCs.take h3 e2;refine⟨?_,by rw[cL];omega⟩;rw[List.take_append,eA aa,hl];simp only[VCs];exact⟨h0,u,_,rfl,h2,k1⟩
  ·cases e
theorem VCs.get{l:List C}{xs:List Value}{off n:Nat}{p:List C}(h:VCs P A ρ w l xs)(e:gk l off n=some p):VCs P A ρ w p ((xs.drop off).take n)/\off+n<=xs.length:=by
 unfold gk at e;obtain⟨l1,e1,e2⟩:=gH.1 e;obtain⟨k1,k2⟩:=h.drop e1;obtain⟨k3,k4⟩:=k1.take e2;exact⟨k3,by rw[ep]at k4;omega⟩
theorem VCs.set{l:List C}{xs ys:List Value}{off n:Nat}{new l':List C}(h:VCs P A ρ w l xs)(hy:VCs P A ρ w new ys)(e:lE l off n new=some l'):VCs P A ρ w l' (xs.take off++ys++xs.drop (off+n))/\off+n<=xs.length:=by
 unfold lE at e;obtain⟨l1,e1,e2⟩:=gH.1 e;obtain⟨l2,e3,rfl⟩:=fw.1 e2;obtain⟨k1,k2⟩:=h.take e1;obtain⟨k3,k4⟩:=h.drop e3;exact⟨VCs.app k3 (VCs.app hy k1),k4⟩
theorem VR.flat{c:C}{u:Value}{p:List C}(h:VR P A ρ w c u)(e:c.flat=some p):VCs P A ρ w p u.cells.toList:=by
 unfold C.flat at e;split at e
 ·simp only[ah]at e;subst e;simp only[VR]at h;obtain⟨cs,rfl,h2⟩:=h;exact h2
 ·split at e
  ·next ho=>
   simp only[ah]at e;subst e;simp only[VCs];exact⟨ho,u,[],by simp,h,rfl⟩
  ·cases e
theorem VCs.dN{row:Bool}{p:List C}{c:C}{xs:List Value}(h:VCs P A ρ w p xs)(e:dN row p=some c):if row then VR P A ρ w c (.agg xs.toArray)else∃u,xs=[u]/\VR P A ρ w c u:=by
 unfold CI.dN at e
 cases row with
 |true=>
  simp only[if_true];simp only at e;split at e
  ·simp only[ah]at e;subst e;simp only[VCs]at h;obtain⟨_,u,rest,rfl,h2,rfl⟩:=h;simp only[VR]at h2⊢;obtain⟨x,rfl,h3⟩:=h2;exact⟨x,by simp[Value.cells],h3⟩
  ·simp only[ah]at e;subst e;simp only[VR];exact⟨_,rfl,by simpa using h⟩
 |false=>
  simp only[tv,if_false];simp only at e;split at e
  ·cases e
  ·next c' hne=>
   simp only[ah]at e;subst e;simp only[VCs]at h;obtain⟨h0,u,rest,rfl,h2,rfl⟩:=h;refine⟨u,?_,h2⟩;obtain⟨k1,k2,_⟩:=VR.cells h0 h2;have hw:c'.wid=1:=by cases c'<;>simp_all [C.okP,C.wid]
   rw[hw]at k1;have hu:u.oneCell'=true:=by
    cases hc:c'<;>rw[hc]at h2 h0<;>simp only[VR]at h2<;>first|(simp[C.okP]at h0;done)|(obtain⟨rfl,h⟩:=h2;exact h)|(obtain⟨_,_,rfl,_⟩:=h2;rfl)|(obtain⟨_,rfl⟩:=h2;rfl)|(obtain⟨_,rfl,_⟩:=h2;rfl)|(exact absurd hc (hne _))
   rw[qx hu];rfl
  ·cases e
end
end CI
end
section
open Go.RowKit
namespace CI
theorem T.uh{α:Type}(k:Nat):T.get (T.e:T α) k=none:=by cases k<;>rfl
theorem Aa{j k:Nat}(h:j≠k)(e:j%2=k%2):j/2≠k/2:=by omega
theorem T.lL{α:Type}(t:T α)(v:Option α)(r:T α):t.mkL v r= .n v t r:=by cases t<;>rfl
theorem T.lK{α:Type}(t:T α)(v:Option α)(l:T α):t.mkR v l= .n v l t:=by cases t<;>rfl
theorem T.Ab{α:Type}:∀(f:Nat) (t:T α) (k j:Nat) (x:Option α),k+1<2^f->T.get (T.put f t k x) j=if j=k then x else T.get t j
 |0,t,k,j,x,h=>by simp at h
 |f+1,t,0,j,x,h=>by
  cases t<;>cases j<;>simp[T.put,T.lL,T.lK,T.get,T.uh];split<;>rfl
 |f+1,t,k+1,j,x,h=>by
  have hk:k/2+1<2^f:=by rw[dE]at h;omega
  have IH:=fun t j=>T.Ab f t (k/2) j x hk
  cases j with
  |zero=>cases t<;>simp only[T.put,T.lL,T.lK]<;>split<;>simp[T.get]
  |succ j=>
   have key:∀l r:T α,∀v,T.get (match k%2 with|0=>T.n v (T.put f l (k/2) x) r|_+1=>T.n v l (T.put f r (k/2) x)) (j+1)=if j+1=k+1 then x else T.get (T.n v l r) (j+1):=fun l r v=>by
    have hj:=Nat.mod_two_eq_zero_or_one j;have hk2:=Nat.mod_two_eq_zero_or_one k;rcases hk2 with e|e<;>rcases hj with e'|e'<;>simp only[e,e',T.get,IH]
    ·by_cases hjk:j=k
     ·subst hjk;simp
     ·rw[ai (Aa hjk aa),ai aa]
    ·rw[ai aa]
    ·rw[ai aa]
    ·by_cases hjk:j=k
     ·subst hjk;simp
     ·rw[ai (Aa hjk aa),ai aa]
   cases t with
   |e=>
    simp only[T.put,T.lL,T.lK];refine(key .e .e none).trans ?_;split
    ·rfl
    ·simp only[T.get];split<;>simp[T.uh]
   |n v l r=>
    simp only[T.put,T.lL,T.lK];exact key l r v
theorem T.sJ{α:Type}{t:T α}{k j:Nat}{x:Option α}(h:k<1000000):T.get (T.put 24 t k x) j=if j=k then x else T.get t j:=
 T.Ab 24 t k j x (nB (Nat.succ_le_succ (cD h)) ay)
def uV:LS->LoopState
 | .ready=>.ready
 | .busy=>.busy
 | .done=>.done
 | .qd=>.exhausted
def mZ:Ex->Option Code
 | .norm=>none
 | .ret=>some .ret
 | .exit id=>some (.exit id)
def H.live(h:H)(k:Nat):Prop:=(h.get k).isSome=true
section
variable (P : Program)
def TR(A:Nat->Prop)(ρ:Nat->Nat)(w:World)(tm:Tm)(tmps:Array Value):Prop:=∀t,VR P A ρ w (CO.ev tm (CO.t t)) (tmps.getD t undef)
def BR(A:Nat->Prop)(ρ:Nat->Nat)(w:World)(r:Nat):B->Prop
 | .cells T l=>∃arr xs rest,w.heap[r]?=some (.cells arr T (0,0))/\arr.toList=xs++rest/\VCs P A ρ w l xs/\NW w r
 | .loop st p tm ps a b d=>A d/\∃fn tmps a' b',w.heap[r]?=some (.loop ⟨uV st,mZ p,fn,tmps,ps.toArray,a',b',ρ d⟩)/\TR P A ρ w tm tmps/\comp P tmps.size a'=some a/\comp P tmps.size b'=some b/\tmps.size<1000000/\∀t∈ps,t<tmps.size
 | .defd o=>w.heap[r]?=some (.deferred (if o then some []else none))
structure Rel(A:Nat->Prop)(ρ:Nat->Nat)(w:World)(h:H):Prop where
 blk:∀k b,h.get k=some b->k<h.next/\A k/\ρ k<w.heap.size/\BR P A ρ w (ρ k) b
 inj:∀j k,h.live j->h.live k->ρ j=ρ k->j=k
 bd:h.next<=1000000
def Ext(A:Nat->Prop)(h h':H):Nat->Prop:=fun k=>A k\/(h.next<=k/\k<h'.next)
structure bR(A:Nat->Prop)(ρ:Nat->Nat)(w:World)(h:H)(ρ':Nat->Nat)(w':World)(h':H):Prop where
 rho:∀k,(k<h.next\/h'.next<=k)->ρ' k=ρ k
 rel:Rel P (Ext A h h') ρ' w' h'
 lt:Lt w w'
 fr:∀b,b<w.heap.size->(∀k,h.live k->h'.low<=k->ρ k≠b)->w'.heap[b]?=w.heap[b]?
 new:∀k,h.next<=k->h'.live k->w.heap.size<=ρ' k\/∃j,h.live j/\h'.low<=j/\ρ' k=ρ j
def Dj(A:Nat->Prop)(h h':H):Prop:=∀k,A k->k<h.next\/h'.next<=k
structure Good(h h':H):Prop where
 next:h.next<=h'.next
 low:h'.low<=h.low
 forb:h'.forb=h.forb
 keep:∀k,k<h.next->k<h'.low->T.get h'.t k=T.get h.t k
 dead:∀k,k<h.next->¬h.live k->T.get h'.t k=T.get h.t k
end
variable {P : Program} {A A' : Nat->Prop} {ρ ρ' : Nat->Nat} {w w' w'' : World} {h h' h'' : H}
theorem ug{h h':H}{k:Nat}(hf:h'.forb=h.forb)(ht:T.get h'.t k=T.get h.t k):h'.get k=h.get k:=by
 unfold H.get;rw[hf,ht]
theorem Good.refl(h:H):Good h h:=⟨af _,af _,rfl,fun _ _ _=>rfl,fun _ _ _=>rfl⟩
theorem Good.back(g:Good h h'){k:Nat}(hk:k<h.next)(hl:h'.live k):h.live k:=by
 by_cases hh:h.live k
 ·exact hh
 ·unfold H.live at hl hh⊢;rw[ug g.forb (g.dead k hk hh)]at hl;exact hl
theorem Good.trans(g:Good h h')(g':Good h' h''):Good h h'':=by
 refine⟨aX g.next g'.next,aX g'.low g.low,g'.forb.trans g.forb,fun k hk hl=>?_,fun k hk hl=>?_⟩
 ·rw[g'.keep k (aJ hk g.next) hl,g.keep k hk (aJ hl g'.low)]
 ·rw[g'.dead k (aJ hk g.next) (fun e=>hl (g.back hk e)),g.dead k hk hl]
theorem TR.mo{tm:Tm}{a:Array Value}(m:Mo A A' ρ ρ')(k:Lt w w')(t:TR P A ρ w tm a):TR P A' ρ' w' tm a:=fun i=>VR.mo m k _ _ (t i)
theorem NW.of{r:Nat}(hh:w'.heap[r]?=w.heap[r]?)(n:NW w r):NW w' r:=fun m e=>n m (by rw[<-e];exact(World.cell?_of_block (a:=⟨r,0,none⟩) hh).symm)
theorem BR.mo{r:Nat}{b:B}(m:Mo A A' ρ ρ')(k:Lt w w')(hh:w'.heap[r]?=w.heap[r]?)(t:BR P A ρ w r b):BR P A' ρ' w' r b:=by
 cases b with
 |cells T l=>
  obtain⟨arr,xs,rest,h1,h2,h3,h4⟩:=t;exact⟨arr,xs,rest,hh.trans h1,h2,VCs.mo m k _ _ h3,NW.of hh h4⟩
 |loop st p tm ps a b d=>
  obtain⟨h0,fn,tmps,a',b',h1,h2,h3⟩:=t;exact⟨m.sub _ h0,fn,tmps,a',b',by rw[hh,h1,m.eq _ h0],h2.mo m k,h3⟩
 |defd o=>exact hh.trans t
theorem Rel.mo(m:Mo A A' ρ ρ')(k:Lt w w')(hb:∀j,h.live j->w'.heap[ρ j]?=w.heap[ρ j]?)(t:Rel P A ρ w h):Rel P A' ρ' w' h:=by
 have hlv:∀j,h.live j->A j:=fun j hj=>by
  obtain⟨b,e⟩:=cA.1 hj;exact(t.blk j b e).2.1
 refine⟨fun j b e=>?_,fun i j hi hj e=>?_,t.bd⟩
 ·obtain⟨h1,h2,h3,h4⟩:=t.blk j b e;have hl:h.live j:=by unfold H.live;rw[e];rfl
  rw[m.eq _ h2];exact⟨h1,m.sub _ h2,aJ h3 k.size,h4.mo m k (hb j hl)⟩
 ·rw[m.eq _ (hlv i hi),m.eq _ (hlv j hj)]at e;exact t.inj i j hi hj e
theorem bR.mo(p:bR P A ρ w h ρ' w' h')(d:Dj A h h'):Mo A (Ext A h h') ρ ρ':=⟨fun _ hk=>.inl hk,fun k hk=>p.rho k (d k hk)⟩
theorem bR.refl(t:Rel P A ρ w h):bR P A ρ w h ρ w h:=
 ⟨fun _ _=>rfl,t.mo ⟨fun _ hk=>.inl hk,fun _ _=>rfl⟩ (Lt.refl w) (fun _ _=>rfl),Lt.refl w,fun _ _ _=>rfl,fun k hk hl=>by
  obtain⟨b,e⟩:=cA.1 hl;have:=(t.blk k b e).1;omega⟩
theorem bR.below(t:Rel P A ρ w h)(hb:Below w.heap.size w w'):bR P A ρ w h ρ w' h:=by
 have hlt:∀j,h.live j->ρ j<w.heap.size:=fun j hj=>by
  obtain⟨b,e⟩:=cA.1 hj;exact(t.blk j b e).2.2.1
 refine⟨fun _ _=>rfl,t.mo ⟨fun _ hk=>.inl hk,fun _ _=>rfl⟩ (Lt.below hb) (fun j hj=>hb.block _ (hlt j hj)),Lt.below hb,fun b hbl _=>hb.block b hbl,fun k hk hl=>?_⟩;obtain⟨b,e⟩:=cA.1 hl;have:=(t.blk k b e).1;omega
theorem Dj.left(d:Dj A h h'')(g:h'.next<=h''.next):Dj A h h':=fun k hk=>(d k hk).imp id (fun e=>aX g e)
theorem Dj.right(d:Dj A h h'')(g:h.next<=h'.next):Dj (Ext A h h') h' h'':=fun k hk=>by
 rcases hk with hk|hk
 ·exact(d k hk).imp (fun e=>aJ e g) id
 ·exact .inl hk.2
theorem Ext.trans(g:h.next<=h'.next)(g':h'.next<=h''.next)(k:Nat):Ext (Ext A h h') h' h'' k↔Ext A h h'' k:=by
 unfold Ext;constructor
 ·rintro((e|e)|e)
  ·exact .inl e
  ·exact .inr aa
  ·exact .inr aa
 ·rintro(e|e)
  ·exact .inl (.inl e)
  ·by_cases hk:k<h'.next
   ·exact .inl (.inr aa)
   ·exact .inr aa
theorem Mo.ext(g:h.next<=h'.next)(g':h'.next<=h''.next)(ρ:Nat->Nat):Mo (Ext (Ext A h h') h' h'') (Ext A h h'') ρ ρ:=⟨fun k hk=>(Ext.trans g g' k).1 hk,fun _ _=>rfl⟩
theorem bR.trans{ρ'':Nat->Nat}(p:bR P A ρ w h ρ' w' h')(g:Good h h')(q:bR P (Ext A h h') ρ' w' h' ρ'' w'' h'')(g':Good h' h''):bR P A ρ w h ρ'' w'' h'':=by
 refine⟨fun k hk=>?_,q.rel.mo (Mo.ext g.next g'.next _) (Lt.refl _) (fun _ _=>rfl),p.lt.trans q.lt,fun b hb hn=>?_,fun k hk hl=>?_⟩
 ·rw[q.rho k (hk.imp (fun e=>aJ e g.next) id),p.rho k (hk.imp id (fun e=>aX g'.next e))]
 ·rw[q.fr b (aJ hb p.lt.size) fun k hl hk e=>?_,p.fr b hb fun k hl hk=>hn k hl (aX g'.low hk)];by_cases hkn:k<h.next
  ·rw[p.rho k (.inl hkn)]at e;exact hn k (g.back hkn hl) hk e
  ·rcases p.new k aa hl with e2|⟨j,h1,h2,h3⟩
   ·omega
   ·exact hn j h1 (aX g'.low h2) (h3.symm.trans e)
 ·by_cases hkn:k<h'.next
  ·have hl':=g'.back hkn hl;rw[q.rho k (.inl hkn)];rcases p.new k hk hl' with e|⟨j,h1,h2,h3⟩
   ·exact .inl e
   ·exact .inr ⟨j,h1,aX g'.low h2,h3⟩
  ·rcases q.new k aa hl with e|⟨j,h1,h2,h3⟩
   ·exact .inl (aX p.lt.size e)
   ·by_cases hj:j<h.next
    ·rw[p.rho j (.inl hj)]at h3;exact .inr ⟨j,g.back hj h1,h2,h3⟩
    ·rcases p.new j aa h1 with e|⟨i,k1,k2,k3⟩
     ·exact .inl (by rw[h3];exact e)
     ·exact .inr ⟨i,k1,aX g'.low k2,h3.trans k3⟩
theorem cG{b:B}(e:h.new b=some h'):h'.next=h.next+1/\h'.low=h.low/\h'.forb=h.forb/\h.next<1000000/\∀j,T.get h'.t j=if j=h.next then some b else T.get h.t j:=by
 unfold H.new at e;split at e
 ·next hb=>
  simp only[ah]at e;subst e;have hb':h.next<1000000:=by simpa[aV]using hb
  exact⟨rfl,rfl,rfl,hb',fun j=>T.sJ hb'⟩
 ·cases e
theorem su{b:B}(e:h.new b=some h'):Good h h':=by
 obtain⟨h1,h2,h3,h4,h5⟩:=cG e;exact⟨by omega,by omega,h3,fun k hk _=>by rw[h5,ai aa],fun k hk _=>by rw[h5,ai aa]⟩
def at'(ρ:Nat->Nat)(n r:Nat):Nat->Nat:=fun k=>if k=n then r else ρ k
theorem jK{b:B}{r:Nat}(t:Rel P A ρ w h)(e:h.new b=some h')(hd:Dj A h h')(hbl:Below w.heap.size w w')(h1:w.heap.size<=r)(h2:r<w'.heap.size)
  (hB:∀A' ρ',Mo A A' ρ ρ'->ρ' h.next=r->A' h.next->BR P A' ρ' w' r b):bR P A ρ w h (at' ρ h.next r) w' h':=by
 obtain⟨k1,k2,k3,k4,k5⟩:=cG e;have hmo:Mo A (Ext A h h') ρ (at' ρ h.next r):=⟨fun _ hk=> .inl hk,fun k hk=>by
  have:=hd k hk;unfold at';rw[ai aa]⟩
 have hg:∀k,h'.get k=some b/\k=h.next\/h'.get k=h.get k/\k≠h.next\/h'.get k=none:=fun k=>by
  unfold H.get;rw[k3,k5];by_cases hk:k=h.next
  ·rw[aj hk];cases bH k h.forb<;>simp[hk]
  ·rw[ai hk];exact .inr (.inl ⟨rfl,hk⟩)
 have hlt:∀j c,h.get j=some c->j<h.next/\ρ j<w.heap.size:=fun j c ej=>⟨(t.blk j c ej).1,(t.blk j c ej).2.2.1⟩
 have hat:∀j,j≠h.next->at' ρ h.next r j=ρ j:=fun j hj=>by unfold at';rw[ai hj]
 have hatn:at' ρ h.next r h.next=r:=by unfold at';rw[aj rfl]
 refine⟨fun k hk=>hat k aa,⟨fun k c ek=>?_,fun i j hi hj ee=>?_,by omega⟩,Lt.below hbl,fun b hb _=>hbl.block b hb,fun k hk hl=>?_⟩
 ·rcases hg k with⟨e1,e2⟩|⟨e1,e2⟩|e1
  ·rw[e1]at ek;simp only[ah]at ek;subst ek;subst e2;rw[hatn];have hA:Ext A h h' h.next:= .inr ⟨af _,by omega⟩
   exact⟨by omega,hA,h2,hB _ _ hmo hatn hA⟩
  ·rw[e1]at ek;obtain⟨m1,m2,m3,m4⟩:=t.blk k c ek;rw[hat k e2];exact⟨by omega, .inl m2,aJ m3 hbl.size,m4.mo hmo (Lt.below hbl) (hbl.block _ m3)⟩
  ·rw[e1]at ek;cases ek
 ·have key : ∀ i, h'.live i -> (i = h.next \/ (i ≠ h.next /\ h.live i /\ ρ i < w.heap.size)) := fun i hi => by
   unfold H.live at hi;rcases hg i with⟨e1,e2⟩|⟨e1,e2⟩|e1
   ·exact .inl e2
   ·rw[e1]at hi;obtain⟨c,ec⟩:=cA.1 hi;exact .inr ⟨e2,hi,(hlt i c ec).2⟩
   ·rw[e1]at hi;cases hi
  rcases key i hi with hi'|⟨hi1,hi2,hi3⟩<;>rcases key j hj with hj'|⟨hj1,hj2,hj3⟩
  ·rw[hi',hj']
  ·rw[hi',hatn,hat j hj1]at ee;omega
  ·rw[hj',hatn,hat i hi1]at ee;omega
  ·rw[hat i hi1,hat j hj1]at ee;exact t.inj i j hi2 hj2 ee
 ·unfold H.live at hl;rcases hg k with⟨e1,e2⟩|⟨e1,e2⟩|e1
  ·subst e2;exact .inl (by rw[hatn];exact h1)
  ·rw[e1]at hl;obtain⟨c,ec⟩:=cA.1 hl;have:=(hlt k c ec).1;omega
  ·rw[e1]at hl;cases hl
theorem oC{k:Nat}{b:Option B}(hk:k<1000000):(h.set k b).next=h.next/\(h.set k b).forb=h.forb/\((h.set k b).low<=h.low/\(h.set k b).low<=k)/\∀j,T.get (h.set k b).t j=if j=k then b else T.get h.t j:=by
 refine⟨rfl,rfl,?_,fun j=>T.sJ hk⟩;show(match Nat.blt k h.low with|true=>k|false=>h.low)<=h.low/\(match Nat.blt k h.low with|true=>k|false=>h.low)<=k;split
 ·next e=>
  have:k<h.low:=by simpa[aV]using e
  exact⟨cD this,af _⟩
 ·next e=>
  have:¬k<h.low:=by intro e2;rw[<-aV]at e2;rw[e2]at e;cases e
  exact⟨af _,by omega⟩
theorem ed{k:Nat}(hl:h.live k):bH k h.forb=false:=by
 unfold H.live H.get at hl
 cases e:bH k h.forb with
 |false=>rfl
 |true=>rw[e]at hl;cases hl
theorem Rel.live(t:Rel P A ρ w h){k:Nat}(hl:h.live k):k<h.next/\A k/\ρ k<w.heap.size:=by
 obtain⟨b,e⟩:=cA.1 hl;exact⟨(t.blk k b e).1,(t.blk k b e).2.1,(t.blk k b e).2.2.1⟩
theorem sf{k:Nat}{b:Option B}(hk:k<1000000)(hl:h.live k):Good h (h.set k b):=by
 obtain⟨k1,k2,k3,k4⟩:=oC (h:=h) (b:=b) hk;refine⟨Nat.le_of_eq k1.symm,k3.1,k2,fun j hj hlo=>?_,fun j hj hd=>?_⟩
 ·rw[k4,ai (by have:=k3.2;omega)]
 ·rw[k4,ai (fun e=>hd (by rw[e];exact hl))]
theorem yd{k:Nat}{b:B}(t:Rel P A ρ w h)(hl:h.live k)(hc:Chg (ρ k) w w')(hnw:NW w (ρ k))(hs:∀s,w.shape? (ρ k)=some s->w'.shape? (ρ k)=some s)
  (hB:BR P A ρ w' (ρ k) b):bR P A ρ w h ρ w' (h.set k (some b)):=by
 obtain⟨m1,m2,m3⟩:=t.live hl;have hk:k<1000000:=aJ m1 t.bd;obtain⟨k1,k2,k3,k4⟩:=oC (h:=h) (b:=some b) hk;have hlt:=Lt.chg hc hnw hs;have hmo:Mo A (Ext A h (h.set k (some b))) ρ ρ:=⟨fun _ hk=>.inl hk,fun _ _=>rfl⟩;have hg:∀j,j≠k->(h.set k (some b)).get j=h.get j:=fun j hj=>ug k2 (by rw[k4,ai hj]);have hgk:(h.set k (some b)).get k=some b:=by
  unfold H.get;rw[k2,ed hl,k4,aj rfl]
 have hlv:∀j,(h.set k (some b)).live j->h.live j:=fun j hj=>by
  by_cases e:j=k
  ·rw[e];exact hl
  ·unfold H.live at hj⊢;rw[hg j e]at hj;exact hj
 refine⟨fun _ _=>rfl,⟨fun j c ej=>?_,fun i j hi hj=>t.inj i j (hlv i hi) (hlv j hj),t.bd⟩,hlt,fun r hr hn=>hc.block r hr fun e=>hn k hl k3.2 e.symm,fun j hj hlj=>?_⟩
 ·by_cases e:j=k
  ·subst e;rw[hgk]at ej;simp only[ah]at ej;subst ej;exact⟨m1,.inl m2,aJ m3 hlt.size,hB.mo hmo (Lt.refl _) rfl⟩
  ·rw[hg j e]at ej;obtain⟨n1,n2,n3,n4⟩:=t.blk j c ej;have hne:ρ j≠ρ k:=fun e2=>e (t.inj j k (by unfold H.live;rw[ej];rfl) hl e2);exact⟨n1,.inl n2,aJ n3 hlt.size,n4.mo hmo hlt (hc.block _ n3 hne)⟩
 ·have:=(t.live (hlv j hlj)).1;omega
end CI
end
section
open Go.RowKit
namespace CI
variable {P : Program} {A : Nat->Prop} {ρ : Nat->Nat} {w : World} {tm : Tm} {a : Act} {o : Oper} {next : Nat} {c : C} {ob : Option B}
def XO'(P:Program)(A:Nat->Prop)(ρ:Nat->Nat)(w:World)(r:Result Next)(next:Nat)(c:C)(ob:Option B):Prop:=
 ∃u w',r= .ok (.value u) w'/\
  match ob with
  |none=>w'=w/\VR P A ρ w c u
  |some b=>Below w.heap.size w w'/\w.heap.size<w'.heap.size/\∀A' ρ',Mo A A' ρ ρ'->ρ' next=w.heap.size->A' next->BR P A' ρ' w' w.heap.size b/\VR P A' ρ' w' c u
theorem dv{u:Value}{r:Result Next}(h:r= .ok (.value u) w)(hu:VR P A ρ w c u):XO' P A ρ w r next c none:=⟨u,w,h,rfl,hu⟩
theorem BA{u:Value}{r:Result Next}{arr:Array Value}{T:TypeId}{l:List C}(h:r= .ok (.value u) (w.alloc (.cells arr T)))(hl:VCs P A ρ w l arr.toList)
  (hu:∀A' ρ',Mo A A' ρ ρ'->ρ' next=w.heap.size->A' next->VR P A' ρ' (w.alloc (.cells arr T)) c u):XO' P A ρ w r next c (some (.cells T l)):=by
 have hb:Below w.heap.size w (w.alloc (.cells arr T)):=(Below.refl _ _).alloc (af _) _;refine⟨u,_,h,hb,by simp,fun A' ρ' m h1 h2=>⟨⟨arr,arr.toList,[],heap_alloc_new w _,by simp,VCs.mo m (Lt.below hb) _ _ hl,fun n e=>?_⟩,hu A' ρ' m h1 h2⟩⟩;rw[cell_of_row _ w.heap.size _ _ _ (0,0) (heap_alloc_new w _)]at e;exact VCs.nw hl n oc
theorem dp{t s:Nat}(h:cj P t=some s):∃i,P.info? t=some i/\i.size=s:=by
 unfold cj at h;exact fw.1 h
theorem scs{l:List Value}(h:l.all (fun v=>v.oneCell'&&(C.sc v).okP)=true):VCs P A ρ w (l.map .sc) l:=by
 induction l with
 |nil=>simp only[gy,VCs]
 |cons v l ih=>
  simp only[nt,bV]at h;simp only[dw,VCs];exact⟨h.1.2,v,l,by rw[qx h.1.1];rfl,by simp only[VR];exact⟨trivial,h.1.1⟩,ih (by simpa using h.2)⟩
theorem iL{t:TypeId}{z:List C}(h:zOf P t=some z):∃i v,P.info? t=some i/\i.zero=some v/\v.cells.size=i.size/\∀(A:Nat->Prop) (ρ:Nat->Nat) (w:World),VCs P A ρ w z v.cells.toList:=by
 unfold zOf at h;obtain⟨i,hi,h⟩:=gH.1 h;obtain⟨v,hv,h⟩:=gH.1 h;split at h
 ·next hc=>
  simp only[ah]at h;subst h;simp only[bV]at hc;exact⟨i,v,hi,hv,by simpa using hc.2,fun _ _ _=>scs hc.1⟩
 ·cases h
theorem vW(v:Value):VR P A ρ w (ofV v) v:=by
 cases v with
 |agg cs=>
  simp only[ofV];split
  ·next h=>simp only[VR];exact⟨cs,rfl,scs h⟩
  ·simp only[VR]
 |func f first cs=>
  cases f with
  |func g=>
   simp only[ofV];split
   ·next h1 h2=>
    simp only[VR,VRl];have e1:first= #[]:=tu h1
    have e2:cs= #[]:=tu h2;subst e1;subst e2;exact⟨_,rfl,rfl⟩
   ·simp only[VR]
  |_=>simp only[ofV,VR]
 |tuple vs=>simp only[ofV,VR]
 |_=>simp only[ofV,VR,Value.oneCell',and_self]
def OpV(P:Program)(A:Nat->Prop)(ρ:Nat->Nat)(w:World)(tm:Tm)(a:Act)(x:Operand):Prop:=VR P A ρ w ((aw x).ev tm) (a.eval x)
theorem TR.op(h:TR P A ρ w tm a.tmps)(x:Operand):OpV P A ρ w tm a x:=by
 cases x with
 |tmp t=>
  have:=h t;unfold OpV;simpa[aw,Act.eval]using this
 |const v=>exact vW v
 |global g=>simp only[OpV,aw,CO.ev,VR]
 |func g=>
  show VR P A ρ w (.fn g []) (.func (.func g) #[] #[]);simp only[VR,VRl];exact⟨_,rfl,rfl⟩
theorem eY{c:C}{n:Nat}{u:Value}(h:eB c=some n)(hu:VR P A ρ w c u):∃k,u= .int k (n:Int):=by
 unfold eB at h;split at h
 ·next k m=>
  simp only[ah]at h;subst h;simp only[VR]at hu;exact⟨k,hu.1⟩
 ·cases h
theorem yL(vs:List Value)(off:Nat)(cs:Array Value)(h:off+vs.length<=cs.size):(vs.zipIdx.foldl (fun cs (x:Value×Nat)=>cs.setIfInBounds (off+x.2) x.1) cs).toList=cs.toList.take off++vs++cs.toList.drop (off+vs.length):=by
 obtain⟨h1,h2⟩:=Go.Great.foldl_set off vs 0 cs;refine nr fun k=>?_;rw[cQ,h2 k];simp only[cf];by_cases hk:k<off
 ·rw[ai aa,fS,en fD,gV hk,cQ]
 ·by_cases hk2:k<off+vs.length
  ·rw[aj aa,en fD,iE fD];simp only[aQ,bJ];rw[dT aa]
  ·rw[ai aa,iE fD,fU];simp only[cL,aQ,bJ];rw[dT aa,show off+vs.length+(k-(off+vs.length))=k by omega,cQ]
theorem kP{t:TypeId}(pf:Nat->Option (Nat×Nat))(hpf:∀i x,place P t i=some x->pf i=some x):∀(pl:List (Nat×Operand)) (ps:List (Nat×Nat×CO)) (l l':List C) (cells:Array Value),placesOf P t pl=some ps->gD l (parts tm ps)=some l'->VCs P A ρ w l cells.toList->
  (∀p∈pl,OpV P A ρ w tm a p.2)->∃cells',Instr.fill pf cells (pl.map fun p=>(p.1,a.eval p.2))=some cells'/\VCs P A ρ w l' cells'.toList
 |[],ps,l,l',cells,h1,h2,h3,_=>by
  simp only[placesOf,ah]at h1;subst h1;simp only[parts,gD,ah]at h2;subst h2;exact⟨cells,rfl,h3⟩
 |(i,x)::pl,ps,l,l',cells,h1,h2,h3,h4=>by
  simp only[placesOf]at h1;obtain⟨⟨off,s⟩,e1,h1⟩:=gH.1 h1;obtain⟨ps',e2,rfl⟩:=fw.1 h1;simp only[parts,gD]at h2;obtain⟨p,e3,h2⟩:=gH.1 h2;split at h2
  ·next hw=>
   have hw':pO p=s:=by simpa using hw
   obtain⟨l1,e4,h2⟩:=gH.1 h2;have hv:=h4 _ bn;have hp:=VR.flat hv e3;have hlen:=hp.len;simp only at hlen hv hp;obtain⟨k1,k2⟩:=h3.set hp e4;have hsz:(a.eval x).cells.size=s:=by rw[<-hw',<-hlen,bJ]
   have hfo:=yL (a.eval x).cells.toList off cells (by rw[bJ,hsz];simpa using k2);obtain⟨cells',e5,k3⟩:=kP pf hpf pl ps' l1 l' ((a.eval x).cells.toList.zipIdx.foldl (fun cs (x:Value×Nat)=>cs.setIfInBounds (off+x.2) x.1) cells) e2 h2 (by
    rw[hfo,bJ,hsz];exact k1) (fun q hq=>h4 q (bq _ hq))
   refine⟨cells',?_,k3⟩;simp only[dw];unfold Instr.fill;simp only[hpf _ _ e1];rw[ai (by simp[hsz];simpa using k2),<-e5];congr 1;rw[<-xH,Array.toList_zipIdx]
  ·cases h2
theorem F8{fs:List Field}(h:fs.all (fun f:Field=>(P.info? f.type).isSome)=true):∃pl,fs.mapM (fun f:Field=>(P.info? f.type).map fun i=>(f.offset,i.size))=some pl/\∀(i:Nat) (f:Field) (s:Nat),fs[i]?=some f->cj P f.type=some s->pl[i]?=some (f.offset,s):=by
 induction fs with
 |nil=>exact⟨[],rfl,fun i f s h=>by simp at h⟩
 |cons f fs ih=>
  simp only[nt,bV]at h;obtain⟨pl,e1,e2⟩:=ih h.2;obtain⟨inf,e3⟩:=cA.1 h.1;refine⟨(f.offset,inf.size)::pl,by simp[List.mapM_cons,e3,e1],fun i f' s hf hs=>?_⟩
  cases i with
  |zero=>
   simp only[List.getElem?_cons_zero,ah]at hf;subst hf;simp only[cj,e3,bQ,ah]at hs;subst hs;rfl
  |succ i=>exact e2 i f' s (by simpa using hf) hs
theorem Ga(z:Array Value)(n:Nat):(madeCells z ((n+1)*z.size)).toList=z.toList++(madeCells z (n*z.size)).toList:=by
 refine nr fun k=>?_;by_cases hz:z.size=0
 ·have:z= #[]:=tu hz;subst this;simp[madeCells]
 by_cases hk:k<z.size
 ·rw[en (by simpa using hk),cQ,cQ];unfold madeCells;have:k<(n+1)*z.size:=by rw[bU,cC];omega
  simp[this,oe hk,hk]
 ·rw[iE fD,cQ,cQ,bJ];unfold madeCells;by_cases hk2:k<(n+1)*z.size
  ·have hk3:k-z.size<n*z.size:=by rw[bU,cC]at hk2;omega
   have hm:(k-z.size)%z.size=k%z.size:=by
    conv=>rhs;rw[show k=k-z.size+z.size by omega]
    rw[Nat.add_mod_right]
   simp[hk2,hk3,hm]
  ·have hk3:¬k-z.size<n*z.size:=by rw[bU,cC]at hk2;omega
   simp[hk2,hk3]
theorem jv{z:List C}{zc:Array Value}(h:VCs P A ρ w z zc.toList):∀n,VCs P A ρ w (eK z n) (madeCells zc (n*zc.size)).toList
 |0=>by simp[eK,VCs,madeCells]
 |n+1=>by rw[Ga];exact VCs.app (jv h n) h
def HV(P:Program)(A:Nat->Prop)(ρ:Nat->Nat)(w:World)(tm:Tm)(a:Act)(o:Oper):Prop:=∀y∈o.op.operands,OpV P A ρ w tm a y
theorem C7(hv:HV P A ρ w tm a o){x:Operand}(ho:o.op= .move x\/o.op= .assign x):XO' P A ρ w ((execOp a.eval o).run P w) next ((aw x).ev tm) none:=by
 refine dv (u:=a.eval x) ?_ (hv x (by rcases ho with ho|ho<;>rw[ho]<;>simp[Op.operands]));rcases ho with ho|ho<;>(unfold execOp;rw[ho];rfl)
theorem C6(hv:HV P A ρ w tm a o){x y z:Operand}{t:Bool}(ho:o.op= .pick x y z)(hc:(aw x).ev tm= .sc (.bool t)):XO' P A ρ w ((execOp a.eval o).run P w) next ((aw (if t then y else z)).ev tm) none:=by
 have h1:=hv x bC;unfold OpV at h1;rw[hc]at h1;simp only[VR]at h1;refine dv (u:=a.eval (if t then y else z)) ?_ (hv _ (by rw[ho];cases t<;>simp[Op.operands]));unfold execOp;rw[ho];cases t<;>simp[h1.1,asBool]
theorem Iu{t:TypeId}{z:List C}(ho:o.op= .alloc t)(hz:zOf P t=some z):XO' P A ρ w ((execOp a.eval o).run P w) next (.pt next 0) (some (.cells t z)):=by
 obtain⟨i,v,h1,h2,_,h3⟩:=iL hz;refine BA (u:=.pointer (some ⟨w.heap.size,0,none⟩)) (arr:=v.cells) ?_ (h3 _ _ _) (fun A' ρ' m e1 e2=>by simp only[VR];exact⟨e2,by rw[e1]⟩);unfold execOp;rw[ho];simp[Instr.alloc,zeroValue,typeInfo,h1,h2,newVar,newRow]
theorem x_box(hv:HV P A ρ w tm a o){t:TypeId}{x:Operand}{p:List C}(ho:o.op= .box t x)(hp:((aw x).ev tm).flat=some p):XO' P A ρ w ((execOp a.eval o).run P w) next (.pt next 0) (some (.cells t p)):=by
 have h1:=hv x bC;refine BA (u:=.pointer (some ⟨w.heap.size,0,none⟩)) (arr:=(a.eval x).cells) ?_ (VR.flat h1 hp) (fun A' ρ' m e1 e2=>by simp only[VR];exact⟨e2,by rw[e1]⟩);unfold execOp;rw[ho];simp[Instr.box,newVar,newRow]
theorem vY(hv:HV P A ρ w tm a o){ps:Array (Nat×Operand)}{t:TypeId}{n:Nat}(ho:o.op= .build t ps\/o.op= .buildSlice t n ps):∀p∈ps.toList,OpV P A ρ w tm a p.2:=fun p hp=>by
 refine hv p.2 ?_;rcases ho with ho|ho<;>rw[ho]<;>simp only[Op.operands]<;>simp only[List.mem_toArray,mc]<;>exact⟨p,hp,rfl⟩
theorem It(hv:HV P A ρ w tm a o){t:TypeId}{ps:Array (Nat×Operand)}{z:List C}{pl:List (Nat×Nat×CO)}{l:List C}(ho:o.op= .build t ps)(hz:zOf P t=some z)(hp:placesOf P t ps.toList=some pl)
  (hu:(∃fs,P.underlying t=some (.struct fs)/\fs.toList.all (fun f=>(P.info? f.type).isSome)=true)\/∃n e s,P.underlying t=some (.array n e)/\cj P e=some s) (hf:gD z (parts tm pl)=some l):XO' P A ρ w ((execOp a.eval o).run P w) next (.ag l) none:=by
 obtain⟨i,v,h1,h2,_,h3⟩:=iL hz;have hm:=vY hv (n:=0) (.inl ho);have key:∃cells,P.built t ((ps.map fun (i,x)=>(i,a.eval x)).toList)=some cells/\VCs P A ρ w l cells.toList:=by
  unfold Program.built;rcases hu with⟨fs,hu,hall⟩|⟨n,e,es,hu,hes⟩
  ·obtain⟨places,e1,e2⟩:=F8 hall;simp only[h1,hu,h2,e1];obtain⟨cells,k1,k2⟩:=kP (places.toArray[·]?) (fun i x hx=>by
    unfold place at hx;rw[hu]at hx;obtain⟨f,hf,hx⟩:=gH.1 hx;obtain⟨s,hs,rfl⟩:=fw.1 hx;simpa using e2 i f s (by simpa using hf) hs) ps.toList pl z l v.cells hp hf (h3 _ _ _) hm
   exact⟨cells,by rw[<-k1];congr 1;simp,k2⟩
  ·obtain⟨ie,hie,his⟩:=dp hes;simp only[h1,hu,h2,hie];obtain⟨cells,k1,k2⟩:=kP (t:=t) (fun i=>some (i*ie.size,ie.size)) (fun i x hx=>by
    unfold place at hx;rw[hu]at hx;simpa[cj,hie]using hx) ps.toList pl z l v.cells hp hf (h3 _ _ _) hm
   exact⟨cells,by rw[<-k1];congr 1;simp,k2⟩
 obtain⟨cells,k1,k2⟩:=key;refine dv (u:=.agg cells) ?_ (by simp only[VR];exact⟨cells,rfl,k2⟩);unfold execOp;rw[ho];simp[run_build (P:=P) w t _ cells k1]
theorem x_bsl(hv:HV P A ρ w tm a o){t e:TypeId}{n s:Nat}{ps:Array (Nat×Operand)}{z:List C}{pl:List (Nat×Nat×CO)}{l:List C}(ho:o.op= .buildSlice t n ps)(hu:P.underlying t=some (.slice e))(hs:cj P e=some s)(hz:zOf P e=some z)(hp:placesOf P t ps.toList=some pl)
  (hb:n*s<=16777216) (h0:0<s) (hn0:0<n\/ps.toList=[]) (hf:gD (eK z n) (parts tm pl)=some l):XO' P A ρ w ((execOp a.eval o).run P w) next (.sl next 0 n n true) (some (.cells e l)):=by
 obtain⟨i,v,h1,h2,hsz,h3⟩:=iL hz;have hi:i.size=s:=by simpa[cj,h1]using hs
 have hm:=vY hv (.inr ho);obtain⟨cells,k1,k2⟩:=kP (t:=t) (fun i=>some (i*s,s)) (fun i x hx=>by
  unfold place at hx;rw[hu]at hx;simp only[hs,bQ,ah]at hx;rw[hx]) ps.toList pl (eK z n) l (madeCells v.cells (n*v.cells.size)) hp hf (jv (h3 _ _ _) n) hm
 have hsl:∀A' ρ',Mo A A' ρ ρ'->ρ' next=w.heap.size->A' next->VR P A' ρ' (w.alloc (.cells cells e)) (.sl next 0 n n true) (.slice (some ⟨w.heap.size,0,none⟩) n n):=fun A' ρ' m e1 e2=>by
  simp only[VR,Bool.true_eq_false,false_imp_iff,and_true,true_imp_iff];exact⟨e2,n,by rw[e1],af _,af _,rfl⟩
 refine BA (u:= .slice (some ⟨w.heap.size,0,none⟩) n n) (arr:=cells) ?_ k2 hsl;unfold execOp;rw[ho];by_cases hn:n=0
 ·subst hn;have hps:ps= #[]:=cU.1 (hn0.resolve_left aa);subst hps;have hc:cells= #[]:=by
   simp[Instr.fill,madeCells,Array.range_zero']at k1;exact k1
  subst hc;simp[Instr.buildSlice,run_underlying hu,sizeOf,typeInfo,h1,newRow,Instr.fill,Array.range_zero']
 ·have hr := run_buildSlice (P := P) w t e n (ps.map fun (i, x) => (i, a.eval x)) cells i v hu h1 h2 (by rw [hi]; omega) (by rw [hi]; exact fun e => by rcases Nat.mul_eq_zero.1 e with e | e <;> omega) (by
   rw[hi,<-k1,hsz,hi];unfold madeCells;rw[hsz,hi];congr 1;simp)
  simp[hr]
end CI
end
section
open Go.RowKit
namespace CI
variable {P : Program} {A : Nat->Prop} {ρ : Nat->Nat} {w : World} {tm : Tm} {a : Act} {o : Oper} {next : Nat} {c : C} {ob : Option B}
theorem Lx{k k':IntKind}(h:ikB k k'=true):k=k':=by cases k<;>cases k'<;>simp_all [ikB]
theorem not_neg{q:Int}(h:isNeg q=false):¬q<0:=by
 cases q with
 |ofNat n=>simp
 |negSucc n=>simp[isNeg]at h
theorem VR.int{k:IntKind}{p:Int}{u:Value}(h:VR P A ρ w (.sc (.int k p)) u):u= .int k p:=by simp only[VR]at h;exact h.1
theorem VR.bool{b:Bool}{u:Value}(h:VR P A ρ w (.sc (.bool b)) u):u= .bool b:=by simp only[VR]at h;exact h.1
theorem fA{u:Value}(h:u.oneCell'=true):VR P A ρ w (.sc u) u:=by simp only[VR];exact⟨trivial,h⟩
theorem x_bin(hv:HV P A ρ w tm a o){op:BinOp}{t t':TypeId}{x y:Operand}(ho:o.op= .binOp op t x y t')(hb:bin op ((aw x).ev tm) ((aw y).ev tm)=some c):XO' P A ρ w ((execOp a.eval o).run P w) next c none:=by
 have h1:=hv x bC;have h2:=hv y bC;unfold OpV at h1 h2;unfold bin at hb;split at hb
 ·next k p k' q e1 e2=>
  rw[e1]at h1;rw[e2]at h2;have h3:=h1.int;have h4:=h2.int;split at hb
  ·split at hb
   ·cases hb
   ·next hn=>
    simp only[ah]at hb;subst hb;refine dv ?_ (fA rfl);unfold execOp;rw[ho];simp[h3,h4,eqGuard,binOp,Op.shift,not_neg hn]
  ·split at hb
   ·cases hb
   ·next hn=>
    simp only[ah]at hb;subst hb;refine dv ?_ (fA rfl);unfold execOp;rw[ho];simp[h3,h4,eqGuard,binOp,Op.shift,not_neg hn]
  ·next hs1 hs2=>
   split at hb
   ·next hk=>
    have hk':=Lx hk;subst hk';obtain⟨u,e3,rfl⟩:=fw.1 hb;have hu:u.oneCell'=true/\((do eqGuard op t x y (.int k p) (.int k q);binOp op t (.int k p) (.int k q):Sem Value)).run P w= .ok u w:=by
     unfold binZ at e3;split at e3<;>try(simp only[ah]at e3;subst e3;refine⟨rfl,?_⟩;simp[eqGuard,binOp,Op.intArith,Op.intCmp];done)
     ·split at e3
      ·cases e3
      ·next hq=>
       simp only[ah]at e3;subst e3;exact⟨rfl,by simp[eqGuard,binOp,Op.intDiv,show q≠0 from fun e=>hq e]⟩
     ·split at e3
      ·cases e3
      ·next hq=>
       simp only[ah]at e3;subst e3;exact⟨rfl,by simp[eqGuard,binOp,Op.intDiv,show q≠0 from fun e=>hq e]⟩
     ·cases e3
    refine dv ?_ (fA hu.1);unfold execOp;rw[ho];simp only[h3,h4];rw[Sem.run_bind,hu.2];rfl
   ·cases hb
 ·cases hb
theorem Hv(hv:HV P A ρ w tm a o){op:BinOp}{t t':TypeId}{x y:Operand}{ng:Bool}(ho:o.op= .binOp op t x y t')(hu:P.underlying t=some .bool)(hop:op=if ng then .neq else .eql)(hb:Cx ng ((aw x).ev tm) ((aw y).ev tm)=some c):XO' P A ρ w ((execOp a.eval o).run P w) next c none:=by
 have h1:=hv x bC;have h2:=hv y bC;unfold OpV at h1 h2;unfold Cx at hb;split at hb
 ·next p q e1 e2=>
  rw[e1]at h1;rw[e2]at h2;have h3:=h1.bool;have h4:=h2.bool;simp only[ah]at hb;subst hb;refine dv ?_ (fA rfl);unfold execOp;rw[ho];subst hop;cases ng
  ·have:=run_eql_bool (P:=P) w t p q hu;simp[h3,h4,eqGuard,this]
  ·have:=run_neq_bool (P:=P) w t p q hu;simp[h3,h4,eqGuard,this]
 ·cases hb
theorem mF{c:C}{b:Bool}{u:Value}(h:B7 c=some b)(hu:VR P A ρ w c u):∃ad n cp,u= .slice ad n cp/\ad.isNone=b:=by
 unfold B7 at h;split at h
 ·simp only[ah]at h;subst h;simp only[VR]at hu;exact⟨none,_,_,hu.1,rfl⟩
 ·simp only[ah]at h;subst h;simp only[VR]at hu;obtain⟨_,cap,rfl,_⟩:=hu;exact⟨_,_,_,rfl,rfl⟩
 ·cases h
theorem cP(b o j:Nat):(⟨b,o,none⟩:Addr).add j=⟨b,o+j,none⟩:=Addr.add_mid b o j
theorem yh(d:Nat)(w:World){t e:TypeId}(ad ad':Option Addr)(n c n' c':Nat)(h:P.underlying t=some (.slice e))(hn:ad.isNone=true\/ad'.isNone=true):(Op.equalIn (d+1) t (.slice ad n c) (.slice ad' n' c')).run P w= .ok (ad.isNone&&ad'.isNone) w:=by
 cases ad<;>cases ad'<;>simp[Op.equalIn,run_underlying h]at hn⊢
theorem tM(w:World){t e:TypeId}(ad ad':Option Addr)(n c n' c':Nat)(h:P.underlying t=some (.slice e))(hn:ad.isNone=true\/ad'.isNone=true):(Op.equal t (.slice ad n c) (.slice ad' n' c')).run P w= .ok (ad.isNone&&ad'.isNone) w:=
 yh (P:=P) 9999 w ad ad' n c n' c' h hn
theorem C5(hv:HV P A ρ w tm a o){op:BinOp}{t t' e:TypeId}{x y:Operand}{ng:Bool}(ho:o.op= .binOp op t x y t')(hu:P.underlying t=some (.slice e))(hop:op=if ng then .neq else .eql)(hb:wQ ng ((aw x).ev tm) ((aw y).ev tm)=some c):XO' P A ρ w ((execOp a.eval o).run P w) next c none:=by
 have h1:=hv x bC;have h2:=hv y bC;unfold OpV at h1 h2;unfold wQ at hb;split at hb
 ·next b e1 e2=>
  obtain⟨ad,n,cp,e3,e4⟩:=mF e1 h1;obtain⟨ad',n',cp',e5,e6⟩:=mF e2 h2;simp only[ah]at hb;subst hb;refine dv ?_ (fA rfl);have hr:=tM (P:=P) w ad ad' n cp n' cp' hu (.inl e4);rw[e4,e6]at hr;unfold execOp;rw[ho];subst hop;cases ng<;>simp[e3,e5,eqGuard,binOp,hr]
 ·next e1 e2=>
  obtain⟨ad,n,cp,e3,e4⟩:=mF e1 h1;obtain⟨ad',n',cp',e5,e6⟩:=mF e2 h2;simp only[ah]at hb;subst hb;refine dv ?_ (fA rfl);have hr:=tM (P:=P) w ad ad' n cp n' cp' hu (.inr e6);rw[e4,e6]at hr;unfold execOp;rw[ho];subst hop;cases ng<;>simp[e3,e5,eqGuard,binOp,hr]
 ·cases hb
theorem x_un(hv:HV P A ρ w tm a o){op:UnOp}{t:TypeId}{x:Operand}(ho:o.op= .unOp op t x)(hb:un op ((aw x).ev tm)=some c):XO' P A ρ w ((execOp a.eval o).run P w) next c none:=by
 have h1:=hv x bC;unfold OpV at h1;unfold un at hb;split at hb
 ·next b e1=>
  rw[e1]at h1;simp only[ah]at hb;subst hb;refine dv ?_ (fA rfl);unfold execOp;rw[ho];simp[h1.bool,Op.unary]
 ·next k p e1=>
  rw[e1]at h1;simp only[ah]at hb;subst hb;refine dv ?_ (fA rfl);unfold execOp;rw[ho];simp[h1.int,Op.unary,Op.intArith]
 ·cases hb
theorem Kv(hv:HV P A ρ w tm a o){t1 t2:TypeId}{x:Operand}{k k1 k2:IntKind}{n:Int}(ho:o.op= .convert t1 t2 x)(h1:P.underlying t1=some (.int k1))(h2:P.underlying t2=some (.int k))(hx:(aw x).ev tm= .sc (.int k2 n)):XO' P A ρ w ((execOp a.eval o).run P w) next (.sc (.int k (k.wrap n))) none:=by
 have h3:=hv x bC;unfold OpV at h3;rw[hx]at h3;refine dv ?_ (fA rfl);unfold execOp;rw[ho];simp[convert,run_underlying h1,run_underlying h2,h3.int,Conv.intToInt]
theorem uR(tm:Tm)(a:Act):∀l:List Operand,(∀x∈l,OpV P A ρ w tm a x)->VRl P A ρ w ((mL l).map (·.ev tm)) (l.map a.eval)
 |[],_=>by simp[mL,VRl]
 |x::l,h=>by
  simp only[mL,dw,VRl];exact⟨a.eval x,l.map a.eval,rfl,h x bn,by simpa[mL]using uR tm a l fun y hy=>h y (bq _ hy)⟩
theorem x_mkf(hv:HV P A ρ w tm a o){f:FuncId}{first cs:Array Operand}(ho:o.op= .makeFunc (.func f) first cs)(hs:first.size=0):XO' P A ρ w ((execOp a.eval o).run P w) next (.fn f ((mL cs.toList).map (·.ev tm))) none:=by
 have e1:first= #[]:=tu hs
 subst e1;refine dv (u:=.func (.func f) #[] (cs.map a.eval)) ?_ ?_
 ·unfold execOp;rw[ho];simp[Instr.makeFunc]
 ·simp only[VR];exact⟨_,rfl,by rw[Array.toList_map];exact uR tm a _ fun x hx=>hv x (by rw[ho];simp[Op.operands];simpa using hx)⟩
theorem x_mks(hv:HV P A ρ w tm a o){t e:TypeId}{x y:Operand}{i:TypeInfo}{z:List C}{l m:Nat}(ho:o.op= .makeSlice t x y)(hu:P.underlying t=some (.slice e))(hi:P.info? e=some i)(hz:zOf P e=some z)(hby:i.bytes<=100000)
  (hl:eB ((aw x).ev tm)=some l) (hm:eB ((aw y).ev tm)=some m) (h1:l<=m) (h2:m<=1000000):XO' P A ρ w ((execOp a.eval o).run P w) next (.sl next 0 l m true) (some (.cells e (eK z m))):=by
 obtain⟨i',v,k1,k2,k3,k4⟩:=iL hz;rw[hi]at k1;simp only[ah]at k1;subst k1;obtain⟨kl,e1⟩:=eY hl (hv x bC);obtain⟨kc,e2⟩:=eY hm (hv y bC);have hbm:(i.bytes:Int)*m<=100000*1000000:=Int.mul_le_mul aa aa aa aa;have hr:=run_make (P:=P) w t e i v hu hi k2 kl kc l m aa aa aa aa;simp only[ns]at hr;refine BA (u:=.slice (some ⟨w.heap.size,0,none⟩) l m) (arr:=madeCells v.cells (m*i.size)) ?_ (by rw[<-k3];exact jv (k4 _ _ _) m) (fun A' ρ' _ e3 e4=>?_)
 ·unfold execOp;rw[ho];simp[e1,e2,hr]
 ·simp only[VR,Bool.true_eq_false,false_imp_iff,and_true,true_imp_iff];exact⟨e4,m,by rw[e3],h1,af _,rfl⟩
theorem eX{x:Option Operand}{d n:Nat}(h:dY tm d (x.map aw)=some n)(hv:∀y,x=some y->OpV P A ρ w tm a y):(x=none/\n=d)\/∃y k,x=some y/\a.eval y= .int k (n:Int):=by
 cases x with
 |none=>simp[dY]at h;exact .inl ⟨rfl,h.symm⟩
 |some y=>
  simp only[bQ,dY]at h;obtain⟨k,e⟩:=eY h (hv y rfl);exact .inr ⟨y,k,rfl,e⟩
theorem ph(w:World)(n cap l h m:Nat)(lo hi mx:Option Value)(hlo:(lo=none/\l=0)\/∃k,lo=some (.int k (l:Int)))(hhi:(hi=none/\mx=none/\h=n)\/∃k,hi=some (.int k (h:Int)))(hmx:(mx=none/\m=cap)\/∃k,mx=some (.int k (m:Int)))
  (h1:m<=cap) (h2:h<=m) (h3:l<=h):(Instr.sliceBounds true n cap lo hi mx).run P w= .ok (l,h,m) w:=by
 have e1:(m:Int)<=(cap:Int):=by omega
 have e2:(h:Int)<=(m:Int):=by omega
 have e3:(l:Int)<=(h:Int):=by omega
 rcases hmx with⟨rfl,rfl⟩|⟨km,rfl⟩<;>rcases hhi with⟨rfl,hm,rfl⟩|⟨kh,rfl⟩<;>rcases hlo with⟨rfl,rfl⟩|⟨kl,rfl⟩<;>first|(cases hm;done)|simp[Instr.sliceBounds,Instr.sliceBound,asIntOf,h1,h2,h3]
theorem Ir(hv:HV P A ρ w tm a o){t e:TypeId}{x:Operand}{lo hi mx:Option Operand}{s k off n cp:Nat}{ex:Bool}{l h m:Nat}(ho:o.op= .slice t x lo hi mx)(hu:P.underlying t=some (.slice e))(hs:cj P e=some s)(hhm:hi=none->mx=none)
  (hx:(aw x).ev tm= .sl k off n cp ex) (hl:dY tm 0 (lo.map aw)=some l) (hh:dY tm n (hi.map aw)=some h) (hm:dY tm cp (mx.map aw)=some m) (h1:m<=cp) (h2:h<=m) (h3:l<=h)
  (hlh:l=h):XO' P A ρ w ((execOp a.eval o).run P w) next .em none:=by
 have hX:=hv x bC;unfold OpV at hX;rw[hx]at hX;simp only[VR]at hX;obtain⟨_,cap,e0,_,hc,_,_⟩:=hX;have ml:∀y,lo=some y->OpV P A ρ w tm a y:=fun y hy=>hv y od;have mh:∀y,hi=some y->OpV P A ρ w tm a y:=fun y hy=>hv y od;have mm:∀y,mx=some y->OpV P A ρ w tm a y:=fun y hy=>hv y od;obtain⟨i,hi1,hi2⟩:=dp hs;obtain⟨m',hm1,hm2⟩:∃m',((mx.map a.eval=none/\m'=cap)\/∃k,mx.map a.eval=some (.int k (m':Int)))/\(m<=m'/\m'<=cap):=by
  rcases eX hm mm with⟨r1,r2⟩|⟨y,k,r1,r2⟩
  ·exact⟨cap,.inl ⟨by rw[r1];rfl,rfl⟩,⟨by omega,af _⟩⟩
  ·exact⟨m,.inr ⟨k,by rw[r1,bQ,r2]⟩,⟨af _,by omega⟩⟩
 have hb:=ph (P:=P) w n cap l h m' (lo.map a.eval) (hi.map a.eval) (mx.map a.eval) (by
  rcases eX hl ml with⟨r1,r2⟩|⟨y,k,r1,r2⟩
  ·exact .inl ⟨by rw[r1];rfl,r2⟩
  ·exact .inr ⟨k,by rw[r1,bQ,r2]⟩) (by
  rcases eX hh mh with⟨r1,r2⟩|⟨y,k,r1,r2⟩
  ·exact .inl ⟨by rw[r1];rfl,by rw[hhm r1];rfl,r2⟩
  ·exact .inr ⟨k,by rw[r1,bQ,r2]⟩) hm1 hm2.2 aa h3
 have hrun:(execOp a.eval o).run P w= .ok (.value (.slice (if m'=l then some ⟨ρ k,off,none⟩else some ((⟨ρ k,off,none⟩:Addr).add (l*s))) (h-l) (m'-l))) w:=by
  unfold execOp;rw[ho];simp only[Instr.sliceAt,Instr.slice,e0,Sem.run_bind,run_underlying hu,Result.andThen_ok,hb];simp[sizeOf,typeInfo,hi1,hi2]
 refine dv hrun ?_;simp only[VR];exact⟨_,_,by rw[show h-l=0 by omega]⟩
theorem x_slc(hv:HV P A ρ w tm a o){t e:TypeId}{x:Operand}{lo hi mx:Option Operand}{s k off n cp:Nat}{ex ex':Bool}{l h m:Nat}{eM:Nat}(ho:o.op= .slice t x lo hi mx)(he:(mx=none/\ex'=ex)\/(mx.isSome=true/\ex'=true))(hu:P.underlying t=some (.slice e))(hs:cj P e=some s)(hhm:hi=none->mx=none)
  (hx:(aw x).ev tm= .sl k off n cp ex) (hl:dY tm 0 (lo.map aw)=some l) (hh:dY tm n (hi.map aw)=some h) (hm:dY tm cp (mx.map aw)=some m) (h1:m<=cp) (h2:h<=m) (h3:l<=h)
  (hoff:wR s off l m ex'=some eM):XO' P A ρ w ((execOp a.eval o).run P w) next (.sl k eM (h-l) (m-l) ex') none:=by
 have hX:=hv x bC;unfold OpV at hX;rw[hx]at hX;simp only[VR]at hX;obtain⟨hA,cap,e0,hn,hc,hex,hne⟩:=hX;have ml:∀y,lo=some y->OpV P A ρ w tm a y:=fun y hy=>hv y od;have mh:∀y,hi=some y->OpV P A ρ w tm a y:=fun y hy=>hv y od;have mm:∀y,mx=some y->OpV P A ρ w tm a y:=fun y hy=>hv y od;obtain⟨i,hi1,hi2⟩:=dp hs;obtain⟨m',hm1,hm2,hm3⟩:∃m',((mx.map a.eval=none/\m'=cap)\/∃k,mx.map a.eval=some (.int k (m':Int)))/\(m<=m'/\m'<=cap)/\((mx=none/\m'=cap)\/(mx.isSome=true/\m'=m)):=by
  rcases eX hm mm with⟨r1,r2⟩|⟨y,k,r1,r2⟩
  ·exact⟨cap, .inl ⟨by rw[r1];rfl,rfl⟩,⟨by omega,af _⟩, .inl ⟨r1,rfl⟩⟩
  ·exact⟨m, .inr ⟨k,by rw[r1,bQ,r2]⟩,⟨af _,by omega⟩, .inr ⟨by rw[r1];rfl,rfl⟩⟩
 have hb:=ph (P:=P) w n cap l h m' (lo.map a.eval) (hi.map a.eval) (mx.map a.eval) (by
  rcases eX hl ml with⟨r1,r2⟩|⟨y,k,r1,r2⟩
  ·exact .inl ⟨by rw[r1];rfl,r2⟩
  ·exact .inr ⟨k,by rw[r1,bQ,r2]⟩) (by
  rcases eX hh mh with⟨r1,r2⟩|⟨y,k,r1,r2⟩
  ·exact .inl ⟨by rw[r1];rfl,by rw[hhm r1];rfl,r2⟩
  ·exact .inr ⟨k,by rw[r1,bQ,r2]⟩) hm1 hm2.2 aa h3
 have hrun:(execOp a.eval o).run P w= .ok (.value (.slice (if m'=l then some ⟨ρ k,off,none⟩else some ((⟨ρ k,off,none⟩:Addr).add (l*s))) (h-l) (m'-l))) w:=by
  unfold execOp;rw[ho];simp only[Instr.sliceAt,Instr.slice,e0,Sem.run_bind,run_underlying hu,Result.andThen_ok,hb];simp[sizeOf,typeInfo,hi1,hi2]
 have hmo:m'=m\/(mx=none/\ex=false):=by
  rcases hm3 with⟨r1,r2⟩|⟨_,r2⟩
  ·cases hx':ex with
   |true=>have:=hex hx';exact .inl (by subst r1;simp[dY]at hm;omega)
   |false=>exact .inr ⟨r1,rfl⟩
  ·exact .inl r2
 have haddr:(if m'=l then some (⟨ρ k,off,none⟩:Addr)else some ((⟨ρ k,off,none⟩:Addr).add (l*s)))=some ⟨ρ k,eM,none⟩/\(eM=0->l=0/\off=0\/m=l/\m'=m/\ex'=true):=by
  unfold wR at hoff;split at hoff
  ·simp only[ah]at hoff;subst hoff;refine⟨?_,fun e=> .inl ⟨rfl,e⟩⟩;rw[ka,cP,cf];split<;>rfl
  ·next hl0=>
   split at hoff
   ·next hml=>
    have hml':m=l:=by simpa using hml
    cases hE:ex' with
    |true=>
     rw[hE]at hoff;simp only[ah]at hoff;subst hoff;have hmm:m'=m:=hmo.resolve_right fun r=>by
      rcases he with⟨_,e1⟩|⟨e1,_⟩
      ·rw[e1,r.2]at hE;cases hE
      ·rw[r.1]at e1;cases e1
     exact⟨by rw[aj aa],fun _=> .inr ⟨hml',hmm,rfl⟩⟩
    |false=>rw[hE]at hoff;cases hoff
   ·next hml=>
    have hml':m≠l:=pH hml;split at hoff
    ·cases hoff
    ·next hs0=>
     simp only[ah]at hoff;subst hoff;refine⟨by rw[ai aa,cP],fun e=>?_⟩;have:0<l*s:=lz (qI hl0) (qI hs0);omega
 rw[haddr.1]at hrun;refine dv hrun ?_;simp only[VR];refine⟨hA,m'-l,rfl,by omega,by omega,fun e=>?_,fun e eo=>?_⟩
 ·rcases hmo with r|⟨r1,r2⟩
  ·rw[r]
  ·rcases he with⟨_,e1⟩|⟨e1,_⟩
   ·rw[e1,r2]at e;cases e
   ·rw[r1]at e1;cases e1
 ·rcases haddr.2 eo with⟨r1,r2⟩|⟨_,_,r3⟩
  ·have hmx : mx = none /\ ex = false := by
    rcases he with⟨e1,e2⟩|⟨_,e2⟩
    ·exact⟨e1,by rw[<-e2];exact e⟩
    ·rw[e2]at e;cases e
   obtain⟨r3,T,s',r4,r5⟩:=hne hmx.2 r2;have:m'=cap:=by
    rcases hm3 with⟨_,r⟩|⟨r,_⟩
    ·exact r
    ·rw[hmx.1]at r;cases r
   rw[this,r1,iw];exact⟨r3,T,s',r4,r5⟩
  ·rw[r3]at e;cases e
theorem E4(hv:HV P A ρ w tm a o){t e:TypeId}{x:Operand}{lo hi mx:Option Operand}{s:Nat}(ho:o.op= .slice t x lo hi mx)(hu:P.underlying t=some (.slice e))(hs:cj P e=some s)(hhm:hi=none->mx=none)
  (hx:(aw x).ev tm= .sc (.slice none 0 0)) (hl:dY tm 0 (lo.map aw)=some 0) (hh:dY tm 0 (hi.map aw)=some 0) (hm:dY tm 0 (mx.map aw)=some 0):XO' P A ρ w ((execOp a.eval o).run P w) next (.sc (.slice none 0 0)) none:=by
 have hX:=hv x bC;unfold OpV at hX;rw[hx]at hX;simp only[VR]at hX;have ml:∀y,lo=some y->OpV P A ρ w tm a y:=fun y hy=>hv y od;have mh:∀y,hi=some y->OpV P A ρ w tm a y:=fun y hy=>hv y od;have mm:∀y,mx=some y->OpV P A ρ w tm a y:=fun y hy=>hv y od;obtain⟨i,hi1,hi2⟩:=dp hs;have hb:=ph (P:=P) w 0 0 0 0 0 (lo.map a.eval) (hi.map a.eval) (mx.map a.eval) (by
  rcases eX hl ml with⟨r1,r2⟩|⟨y,k,r1,r2⟩
  ·exact .inl ⟨by rw[r1];rfl,r2⟩
  ·exact .inr ⟨k,by rw[r1,bQ,r2]⟩) (by
  rcases eX hh mh with⟨r1,r2⟩|⟨y,k,r1,r2⟩
  ·exact .inl ⟨by rw[r1];rfl,by rw[hhm r1];rfl,r2⟩
  ·exact .inr ⟨k,by rw[r1,bQ,r2]⟩) (by
  rcases eX hm mm with⟨r1,r2⟩|⟨y,k,r1,r2⟩
  ·exact .inl ⟨by rw[r1];rfl,r2⟩
  ·exact .inr ⟨k,by rw[r1,bQ,r2]⟩) (af _) (af _) (af _)
 refine dv (u:=.slice none 0 0) ?_ (fA rfl);unfold execOp;rw[ho];simp only[Instr.sliceAt,Instr.slice,hX.1,Sem.run_bind,run_underlying hu,Result.andThen_ok,hb];simp[sizeOf,typeInfo,hi1]
end CI
end
section
open Go.RowKit
namespace CI
variable {P : Program} {A : Nat->Prop} {ρ : Nat->Nat} {w : World} {tm : Tm} {a : Act} {o : Oper} {next : Nat} {c : C} {ob : Option B}
theorem kv{t:TypeId}{r:Bool}(h:rowOf P t=some r)(w:World):(isAgg t).run P w= .ok r w:=by
 unfold rowOf at h
 cases hu:P.underlying t with
 |none=>rw[hu]at h;cases h
 |some d=>
  unfold isAgg;rw[Sem.run_bind,run_underlying hu w];rw[hu]at h;cases d<;>simp at h<;>subst h<;>rfl
theorem GB(cs:Array Value)(i n:Nat):(cs.extract i (i+n)).toList=(cs.toList.drop i).take n:=by
 simp
theorem yp{t:TypeId}{r:Bool}{s off:Nat}{cs:Array Value}{p l:List C}{c:C}(hr:rowOf P t=some r)(hs:cj P t=some s)(hl:VCs P A ρ w l cs.toList)(hp:gk l off s=some p)(hc:dN r p=some c):∃u,(Go.part t cs off).run P w= .ok u w/\VR P A ρ w c u:=by
 obtain⟨i,hi1,hi2⟩:=dp hs;obtain⟨k1,k2⟩:=hl.get hp;have k3:=k1.dN hc
 cases r with
 |true=>
  simp only[if_true]at k3;refine⟨.agg (cs.extract off (off+s)),?_,?_⟩
  ·unfold Go.part;simp[kv hr,sizeOf,typeInfo,hi1,hi2]
  ·have : cs.extract off (off + s) = ((cs.toList.drop off).take s).toArray := by
    apply cU.1;rw[GB]
   rw[this];exact k3
 |false=>
  simp only[tv,if_false]at k3;obtain⟨u,e,k4⟩:=k3;refine⟨u,?_,k4⟩;have h0:((cs.toList.drop off).take s)[0]?=some u:=by rw[e];rfl
  have h1:cs[off]?=some u:=by
   rw[et]at h0;split at h0
   ·rw[fU,cf,cQ]at h0;exact h0
   ·cases h0
  unfold Go.part;simp[kv hr,h1]
theorem x_fa(hv:HV P A ρ w tm a o){t:TypeId}{x:Operand}{i k off s:Nat}{fs:Array Field}{f:Field}(ho:o.op= .fieldAddr t x i)(hu:P.underlying t=some (.struct fs))(hf:fs[i]?=some f)(hs:cj P f.type=some s)(h0:s≠0)(hx:(aw x).ev tm= .pt k off):XO' P A ρ w ((execOp a.eval o).run P w) next (.pt k (off+f.offset)) none:=by
 have hX:=hv x bC;unfold OpV at hX;rw[hx]at hX;simp only[VR]at hX;obtain⟨j,hj1,hj2⟩:=dp hs;refine dv (u:=.pointer (some ⟨ρ k,off+f.offset,none⟩)) ?_ (by simp only[VR];exact⟨hX.1,trivial⟩);unfold execOp;rw[ho];have h0':j.size≠0:=by omega
 simp[hX.2,Instr.fieldAt,run_underlying hu,hf,Instr.sureAddr,fieldPlace,sizeOf,typeInfo,hj1,h0',cP]
theorem x_fd(hv:HV P A ρ w tm a o){t:TypeId}{x:Operand}{i s:Nat}{r:Bool}{fs:Array Field}{f:Field}{l p:List C}(ho:o.op= .field t x i)(hu:P.underlying t=some (.struct fs))(hf:fs[i]?=some f)(hs:cj P f.type=some s)(hr:rowOf P f.type=some r)(hx:(aw x).ev tm= .ag l)(hp:gk l f.offset s=some p)(hc:dN r p=some c):XO' P A ρ w ((execOp a.eval o).run P w) next c none:=by
 have hX:=hv x bC;unfold OpV at hX;rw[hx]at hX;simp only[VR]at hX;obtain⟨cs,e1,hl⟩:=hX;obtain⟨u,k1,k2⟩:=yp hr hs hl hp hc;refine dv (u:=u) ?_ k2;unfold execOp;rw[ho];simp[Instr.field,run_underlying hu,hf,e1,asAgg,k1]
theorem Cl{t e:TypeId}(h:P.underlying t=some (.slice e)):P.elem t=e:=by unfold Program.elem;rw[h]
theorem x_ia(hv:HV P A ρ w tm a o){t e:TypeId}{x y:Operand}{i k off n cp s:Nat}{ex:Bool}(ho:o.op= .indexAddr t x y)(hu:P.underlying t=some (.slice e))(hs:cj P e=some s)(hi:eB ((aw y).ev tm)=some i)(hx:(aw x).ev tm= .sl k off n cp ex)(hlt:i<n):XO' P A ρ w ((execOp a.eval o).run P w) next (.pt k (off+i*s)) none:=by
 have hX:=hv x bC;unfold OpV at hX;rw[hx]at hX;simp only[VR]at hX;obtain⟨hA,cap,e1,_⟩:=hX;obtain⟨ki,e2⟩:=eY hi (hv y bC);obtain⟨j,hj1,hj2⟩:=dp hs;refine dv (u:=.pointer (some ⟨ρ k,off+i*s,none⟩)) ?_ (by simp only[VR];exact⟨hA,trivial⟩);unfold execOp;rw[ho];have he:=Cl hu;have hrun:=run_indexAt_slice (P:=P) (w:=w) t ⟨ρ k,off,none⟩ n cap ki (i:Int) (by rw[he];exact hu);rw[aj ⟨by omega,by omega⟩]at hrun;simp only[Sem.run_bind,e1,e2,hrun];simp[sizeOf,typeInfo,he,hj1,hj2,cP]
theorem x_iaA(hv:HV P A ρ w tm a o){t e:TypeId}{x y:Operand}{i k off n s:Nat}(ho:o.op= .indexAddr t x y)(hu:P.underlying t=some (.array n e))(hs:cj P e=some s)(hi:eB ((aw y).ev tm)=some i)(hx:(aw x).ev tm= .pt k off)(hlt:i<n):XO' P A ρ w ((execOp a.eval o).run P w) next (.pt k (off+i*s)) none:=by
 have hX:=hv x bC;unfold OpV at hX;rw[hx]at hX;simp only[VR]at hX;obtain⟨hA,e1⟩:=hX;obtain⟨ki,e2⟩:=eY hi (hv y bC);obtain⟨j,hj1,hj2⟩:=dp hs;refine dv (u:=.pointer (some ⟨ρ k,off+i*s,none⟩)) ?_ (by simp only[VR];exact⟨hA,trivial⟩);unfold execOp;rw[ho];have hlt':(i:Int)<(n:Int):=by omega
 simp[Instr.indexAt,e1,e2,asIntOf,run_underlying hu,Instr.sureAddr,hlt,sizeOf,typeInfo,hj1,hj2,cP]
theorem x_ix(hv:HV P A ρ w tm a o){t e:TypeId}{x y:Operand}{i n s:Nat}{r:Bool}{l p:List C}(ho:o.op= .index t x y)(hu:P.underlying t=some (.array n e))(hs:cj P e=some s)(hr:rowOf P e=some r)(hi:eB ((aw y).ev tm)=some i)(hx:(aw x).ev tm= .ag l)(hlt:i<n)(hp:gk l (i*s) s=some p)(hc:dN r p=some c):XO' P A ρ w ((execOp a.eval o).run P w) next c none:=by
 have hX:=hv x bC;unfold OpV at hX;rw[hx]at hX;simp only[VR]at hX;obtain⟨cs,e1,hl⟩:=hX;obtain⟨ki,e2⟩:=eY hi (hv y bC);obtain⟨j,hj1,hj2⟩:=dp hs;obtain⟨u,k1,k2⟩:=yp hr hs hl hp hc;refine dv (u:=u) ?_ k2;unfold execOp;rw[ho];simp[Instr.index,e1,e2,asIntOf,run_underlying hu,hlt,sizeOf,typeInfo,hj1,hj2,k1]
theorem x_sx(hv:HV P A ρ w tm a o){t:TypeId}{x y:Operand}{i:Nat}{s:ByteArray}{b:UInt8}(ho:o.op= .index t x y)(hu:P.underlying t=some .string)(hi:eB ((aw y).ev tm)=some i)(hx:(aw x).ev tm= .sc (.string s))(hb:s[i]?=some b):XO' P A ρ w ((execOp a.eval o).run P w) next (.sc (.int .u8 b.toNat)) none:=by
 have hX:=hv x bC;unfold OpV at hX;rw[hx]at hX;simp only[VR]at hX;obtain⟨ki,e2⟩:=eY hi (hv y bC);refine dv (u:=.int .u8 b.toNat) ?_ (fA rfl);unfold execOp;rw[ho];simp[Instr.index,hX.1,e2,asIntOf,run_underlying hu,hb]
theorem VRl.at:∀{l:List C} {vs:List Value} {i:Nat} {c:C},VRl P A ρ w l vs->l[i]?=some c->∃u,vs[i]?=some u/\VR P A ρ w c u
 |[],_,_,_,_,h=>by simp at h
 |d::l,vs,0,c,h,e=>by
  simp only[VRl]at h;simp at e;subst e;obtain⟨u,rest,rfl,h2,_⟩:=h;exact⟨u,rfl,h2⟩
 |d::l,vs,i+1,c,h,e=>by
  simp only[VRl]at h;obtain⟨u,rest,rfl,h2,h3⟩:=h;obtain⟨u',k1,k2⟩:=VRl.at h3 oc;exact⟨u',by simpa using k1,k2⟩
theorem x_ext(hv:HV P A ρ w tm a o){x:Operand}{i:Nat}{l:List C}(ho:o.op= .extract x i)(hx:(aw x).ev tm= .tp l)(hc:l[i]?=some c):XO' P A ρ w ((execOp a.eval o).run P w) next c none:=by
 have hX:=hv x bC;unfold OpV at hX;rw[hx]at hX;simp only[VR]at hX;obtain⟨vs,e1,h2⟩:=hX;obtain⟨u,k1,k2⟩:=VRl.at h2 hc;refine dv (u:=u) ?_ k2;unfold execOp;rw[ho];have k1':vs[i]?=some u:=by simpa using k1
 simp[e1,Instr.extract,k1']
theorem x_nc(hv:HV P A ρ w tm a o){x:Operand}(ho:o.op= .nilCheck x)(hx:(∃k off,(aw x).ev tm= .pt k off)\/(∃f cs,(aw x).ev tm= .fn f cs)\/(∃k,(aw x).ev tm= .yl k)):XO' P A ρ w ((execOp a.eval o).run P w) next ((aw x).ev tm) none:=by
 have hX:=hv x bC;refine dv (u:=a.eval x) ?_ hX;unfold OpV at hX;unfold execOp;rw[ho];rcases hx with⟨k,off,e⟩|⟨f,cs,e⟩|⟨k,e⟩<;>rw[e]at hX<;>simp only[VR]at hX
 ·simp[hX.2]
 ·obtain⟨us,e2,_⟩:=hX;simp[e2]
 ·simp[hX.2]
theorem BC(hv:HV P A ρ w tm a o){t:TypeId}{x:Operand}{n:Nat}(ho:o.op= .call {callee:= .builtin .len,args:= #[x],argTypes:= #[t]})(hx:(∃e,P.underlying t=some (.slice e)/\((∃k off cp ex,(aw x).ev tm= .sl k off n cp ex)\/∃cp,(aw x).ev tm= .sc (.slice none n cp)))\/(∃s:ByteArray,P.underlying t=some .string/\(aw x).ev tm= .sc (.string s)/\s.size=n)):XO' P A ρ w ((execOp a.eval o).run P w) next (ofN n) none:=by
 have hX:=hv x fJ;unfold OpV at hX;refine dv (u:= .int .i64 n) ?_ (fA rfl);unfold execOp;rw[ho];rcases hx with⟨e,hu,hx⟩|⟨s,hu,hx,hn⟩
 ·have : ∃ ad cp, a.eval x = .slice ad n cp := by
   rcases hx with⟨k,off,cp,ex,e1⟩|⟨cp,e1⟩<;>rw[e1]at hX<;>simp only[VR]at hX
   ·obtain⟨_,cap,e2,_⟩:=hX;exact⟨_,_,e2⟩
   ·exact⟨_,_,hX.1⟩
  obtain⟨ad,cp,e2⟩:=this;simp[resolve,invoke,builtin,e2,Builtin.len_,run_underlying hu,goInt]
 ·rw[hx]at hX;simp only[VR]at hX;simp[resolve,invoke,builtin,hX.1,Builtin.len_,run_underlying hu,goInt,hn]
theorem Is(hv:HV P A ρ w tm a o){t e:TypeId}{x:Operand}(ho:o.op= .call {callee:=.builtin .len,args:=#[x],argTypes:=#[t]})(hu:P.underlying t=some (.slice e))(hx:(aw x).ev tm= .em):XO' P A ρ w ((execOp a.eval o).run P w) next (ofN 0) none:=by
 have hX:=hv x fJ;unfold OpV at hX;refine dv (u:=.int .i64 0) ?_ (fA rfl);unfold execOp;rw[ho];rw[hx]at hX;simp only[VR]at hX;obtain⟨ad,cp,e2⟩:=hX;simp[resolve,invoke,builtin,e2,Builtin.len_,run_underlying hu,goInt]
theorem Hu(hv:HV P A ρ w tm a o){t e:TypeId}{x:Operand}{n:Nat}(ho:o.op= .call {callee:=.builtin .cap,args:=#[x],argTypes:=#[t]})(hu:P.underlying t=some (.slice e))(hx:(∃k off m,(aw x).ev tm= .sl k off m n true)\/∃m,(aw x).ev tm= .sc (.slice none m n)):XO' P A ρ w ((execOp a.eval o).run P w) next (ofN n) none:=by
 have hX:=hv x fJ;unfold OpV at hX;refine dv (u:=.int .i64 n) ?_ (fA rfl);unfold execOp;rw[ho];have:∃ad m,a.eval x= .slice ad m n:=by
  rcases hx with⟨k,off,m,e1⟩|⟨m,e1⟩<;>rw[e1]at hX<;>simp only[VR]at hX
  ·obtain⟨_,cap,e2,_,_,h3,_⟩:=hX;have:cap=n:=by simpa using h3
   subst this;exact⟨_,_,e2⟩
  ·exact⟨_,_,hX.1⟩
 obtain⟨ad,m,e2⟩:=this;simp[resolve,invoke,builtin,e2,Builtin.cap_,run_underlying hu,goInt]
theorem Ht(hv:HV P A ρ w tm a o){ts:Array TypeId}{x y:Operand}{g:Bool}{k k':IntKind}{p q:Int}(ho:o.op= .call {callee:=.builtin (if g then .max else .min),args:=#[x,y],argTypes:=ts})(hx:(aw x).ev tm= .sc (.int k p))(hy:(aw y).ev tm= .sc (.int k' q)):XO' P A ρ w ((execOp a.eval o).run P w) next (.sc (.int k (if g then(if q>p then q else p)else(if q<p then q else p)))) none:=by
 have h1:=hv x fJ;have h2:=hv y fJ;unfold OpV at h1 h2;rw[hx]at h1;rw[hy]at h2;refine dv (u:=.int k (if g then(if q>p then q else p)else(if q<p then q else p))) ?_ (fA rfl);unfold execOp;rw[ho];cases g<;>simp[resolve,invoke,builtin,h1.int,h2.int,Builtin.max_,Builtin.min_,Builtin.max2,Builtin.min2]
end CI
end
section
open Go.RowKit
namespace CI
variable {P : Program} {A : Nat->Prop} {ρ : Nat->Nat} {w : World} {tm : Tm} {a : Act} {o : Oper} {next : Nat} {c : C} {ob : Option B}
theorem an{α β:Type}{f:α->β}{x:Option α}{y:β}(h:x.map f=some y):∃z,x=some z/\f z=y:=fw.1 h
theorem au{α β:Type}{f:α->Option β}{x:Option α}{y:β}(h:x.bind f=some y):∃z,x=some z/\f z=some y:=gH.1 h
theorem E5{x:X}(hc:aE P o.op=some x)(hT:x.isT=true)(hx:xT x tm next=some (c,ob))(hv:HV P A ρ w tm a o):XO' P A ρ w ((execOp a.eval o).run P w) next c ob:=by
 cases hop:o.op with
 |move y=>
  rw[hop]at hc;simp only[aE,ah]at hc;subst hc;simp only[xT,ah,aD]at hx;obtain⟨rfl,rfl⟩:=hx;exact C7 hv (.inl hop)
 |assign y=>
  rw[hop]at hc;simp only[aE,ah]at hc;subst hc;simp only[xT,ah,aD]at hx;obtain⟨rfl,rfl⟩:=hx;exact C7 hv (.inr hop)
 |pick y y1 y2=>
  rw[hop]at hc;simp only[aE,ah]at hc;subst hc;simp only[xT]at hx;split at hx
  ·next e=>
   simp only[ah,aD]at hx;obtain⟨rfl,rfl⟩:=hx;exact C6 hv (t:=true) hop e
  ·next e=>
   simp only[ah,aD]at hx;obtain⟨rfl,rfl⟩:=hx;exact C6 hv (t:=false) hop e
  ·cases hx
 |alloc t=>
  rw[hop]at hc;simp only[aE]at hc;obtain⟨z,e1,rfl⟩:=an hc;simp only[xT,ah,aD]at hx;obtain⟨rfl,rfl⟩:=hx;exact Iu hop e1
 |box t y=>
  rw[hop]at hc;simp only[aE,ah]at hc;subst hc;simp only[xT]at hx;obtain⟨p,e1,e2⟩:=an hx;simp only[aD]at e2;obtain⟨rfl,rfl⟩:=e2;exact x_box hv hop e1
 |build t ps=>
  rw[hop]at hc;simp only[aE]at hc;have key:∃z pl,zOf P t=some z/\placesOf P t ps.toList=some pl/\x= .build z pl/\((∃fs,P.underlying t=some (.struct fs)/\fs.toList.all (fun f=>(P.info? f.type).isSome)=true)\/∃n e s,P.underlying t=some (.array n e)/\cj P e=some s):=by
   split at hc
   ·next fs e=>
    split at hc
    ·next hall=>
     obtain⟨z,e1,hc⟩:=au hc;obtain⟨pl,e2,e3⟩:=an hc;exact⟨z,pl,e1,e2,e3.symm,.inl ⟨fs,e,hall⟩⟩
    ·cases hc
   ·next n e' e=>
    obtain⟨s,e0,hc⟩:=au hc;obtain⟨z,e1,hc⟩:=au hc;obtain⟨pl,e2,e3⟩:=an hc;exact⟨z,pl,e1,e2,e3.symm,.inr ⟨n,e',s,e,e0⟩⟩
   ·cases hc
  obtain⟨z,pl,e1,e2,rfl,e3⟩:=key;simp only[xT]at hx;obtain⟨l,e4,e5⟩:=an hx;simp only[aD]at e5;obtain⟨rfl,rfl⟩:=e5;exact It hv hop e1 e2 e3 e4
 |buildSlice t n ps=>
  rw[hop]at hc;simp only[aE]at hc;split at hc
  ·next e hu=>
   obtain⟨s,e1,hc⟩:=au hc;obtain⟨z,e2,hc⟩:=au hc;split at hc
   ·next hb=>
    obtain⟨pl,e3,rfl⟩:=an hc;simp only[bV,nv]at hb;simp only[xT]at hx;obtain⟨l,e4,e5⟩:=an hx;simp only[aD]at e5;obtain⟨rfl,rfl⟩:=e5;exact x_bsl hv hop hu e1 e2 e3 (ct hb.1.1) (by simpa[aV]using hb.1.2) (hb.2.imp (fun h=>by simpa[aV]using h) (fun h=>List.isEmpty_iff.1 h)) e4
   ·cases hc
  ·cases hc
 |load t y=>
  rw[hop]at hc;simp only[aE]at hc;obtain⟨s,_,hc⟩:=au hc;obtain⟨r,_,rfl⟩:=an hc;simp[X.isT]at hT
 |store t y v=>
  rw[hop]at hc;simp only[aE]at hc;obtain⟨s,_,rfl⟩:=an hc;simp[X.isT]at hT
 |binOp op t y y2 t2=>
  rw[hop]at hc;simp only[aE]at hc;split at hc
  ·simp only[ah]at hc;subst hc;simp only[xT]at hx;obtain⟨c',e1,e2⟩:=an hx;simp only[aD]at e2;obtain⟨rfl,rfl⟩:=e2;exact x_bin hv hop e1
  ·next hu=>
   split at hc
   ·simp only[ah]at hc;subst hc;simp only[xT]at hx;obtain⟨c',e1,e2⟩:=an hx;simp only[aD]at e2;obtain⟨rfl,rfl⟩:=e2;exact Hv hv hop hu rfl e1
   ·simp only[ah]at hc;subst hc;simp only[xT]at hx;obtain⟨c',e1,e2⟩:=an hx;simp only[aD]at e2;obtain⟨rfl,rfl⟩:=e2;exact Hv hv hop hu rfl e1
   ·cases hc
  ·next hu=>
   split at hc
   ·simp only[ah]at hc;subst hc;simp only[xT]at hx;obtain⟨c',e1,e2⟩:=an hx;simp only[aD]at e2;obtain⟨rfl,rfl⟩:=e2;exact C5 hv hop hu rfl e1
   ·simp only[ah]at hc;subst hc;simp only[xT]at hx;obtain⟨c',e1,e2⟩:=an hx;simp only[aD]at e2;obtain⟨rfl,rfl⟩:=e2;exact C5 hv hop hu rfl e1
   ·cases hc
  ·cases hc
 |unOp op t y=>
  rw[hop]at hc;simp only[aE,ah]at hc;subst hc;simp only[xT]at hx;obtain⟨c',e1,e2⟩:=an hx;simp only[aD]at e2;obtain⟨rfl,rfl⟩:=e2;exact x_un hv hop e1
 |convert t1 t2 y=>
  rw[hop]at hc;simp only[aE]at hc;split at hc
  ·next k1 k h1 h2=>
   simp only[ah]at hc;subst hc;simp only[xT]at hx;split at hx
   ·next k2 n e=>
    simp only[ah,aD]at hx;obtain⟨rfl,rfl⟩:=hx;exact Kv hv hop h1 h2 e
   ·cases hx
  ·cases hc
 |makeFunc f first cs=>
  rw[hop]at hc
  cases f with
  |func g=>
   simp only[aE]at hc;split at hc
   ·next hs=>
    simp only[ah]at hc;subst hc;simp only[xT,ah,aD]at hx;obtain⟨rfl,rfl⟩:=hx;exact x_mkf hv hop hs
   ·cases hc
  |_=>simp[aE]at hc
 |makeSlice t y y2=>
  rw[hop]at hc;simp only[aE]at hc;split at hc
  ·next e hu=>
   obtain⟨i,e1,hc⟩:=au hc;obtain⟨z,e2,hc⟩:=au hc;split at hc
   ·next hb=>
    simp only[ah]at hc;subst hc;simp only[xT]at hx;split at hx
    ·next l m h1 h2=>
     split at hx
     ·next h3 h4=>
      simp only[ah,aD]at hx;obtain⟨rfl,rfl⟩:=hx;exact x_mks hv hop hu e1 e2 (ct hb) h1 h2 (ct h3) (ct h4)
     ·cases hx
    ·cases hx
   ·cases hc
  ·cases hc
 |slice t y lo hi mx=>
  rw[hop]at hc;simp only[aE]at hc;split at hc
  ·next e hu=>
   have key:∃s,cj P e=some s/\x= .slc s (aw y) (lo.map aw) (hi.map aw) (mx.map aw)/\(hi=none->mx=none):=by
    split at hc
    ·cases hc
    ·next hn=>
     obtain⟨s,e1,e2⟩:=an hc;refine⟨s,e1,e2.symm,fun h=>?_⟩
     cases mx with
     |none=>rfl
     |some z=>exact absurd rfl (hn z h)
   obtain⟨s,e1,rfl,hhm⟩:=key;simp only[xT]at hx;split at hx
   ·next k off n cp ex ey=>
    split at hx
    ·next l h m h1 h2 h3=>
     split at hx
     ·next h4 h5 h6=>
      split at hx
      ·next eM e2=>
       simp only[ah,aD]at hx;obtain⟨rfl,rfl⟩:=hx;exact x_slc hv hop (by cases mx<;>simp[uf]) hu e1 hhm ey h1 h2 h3 (ct h4) (ct h5) (ct h6) e2
      ·split at hx
       ·next hlh=>
        simp only[ah,aD]at hx;obtain⟨rfl,rfl⟩:=hx;exact Ir hv hop hu e1 hhm ey h1 h2 h3 (ct h4) (ct h5) (ct h6) (cn hlh)
       ·cases hx
     ·cases hx
    ·cases hx
   ·next ey=>
    split at hx
    ·next h1 h2 h3=>
     simp only[ah,aD]at hx;obtain⟨rfl,rfl⟩:=hx;exact E4 hv hop hu e1 hhm ey h2 h1 h3
    ·cases hx
   ·cases hx
  ·cases hc
 |fieldAddr t y i=>
  rw[hop]at hc;simp only[aE]at hc;split at hc
  ·next fs hu=>
   obtain⟨f,e1,hc⟩:=au hc;obtain⟨s,e2,hc⟩:=au hc;split at hc
   ·cases hc
   ·next h0=>
    simp only[ah]at hc;subst hc;simp only[xT]at hx;split at hx
    ·next k off ey=>
     simp only[ah,aD]at hx;obtain⟨rfl,rfl⟩:=hx;exact x_fa hv hop hu e1 e2 (fun e=>h0 e) ey
    ·cases hx
  ·cases hc
 |field t y i=>
  rw[hop]at hc;simp only[aE]at hc;split at hc
  ·next fs hu=>
   obtain⟨f,e1,hc⟩:=au hc;obtain⟨s,e2,hc⟩:=au hc;obtain⟨r,e3,rfl⟩:=an hc;simp only[xT]at hx;split at hx
   ·next l ey=>
    obtain⟨c',e4,e5⟩:=an hx;simp only[aD]at e5;obtain⟨rfl,rfl⟩:=e5;obtain⟨p,e6,e7⟩:=au e4;exact x_fd hv hop hu e1 e2 e3 ey e6 e7
   ·cases hx
  ·cases hc
 |indexAddr t y i=>
  rw[hop]at hc;simp only[aE]at hc;split at hc
  ·next e hu=>
   obtain⟨s,e1,rfl⟩:=an hc;simp only[xT]at hx;split at hx
   ·next i' hi=>
    split at hx
    ·next k off n cp ex ey _=>
     split at hx
     ·next hlt=>
      simp only[ah,aD]at hx;obtain⟨rfl,rfl⟩:=hx;exact x_ia hv hop hu e1 hi ey (by simpa[aV]using hlt)
     ·cases hx
    ·next hh=>cases hh
    ·cases hx
   ·cases hx
  ·next n e hu=>
   obtain⟨s,e1,rfl⟩:=an hc;simp only[xT]at hx;split at hx
   ·next i' hi=>
    split at hx
    ·next hh=>cases hh
    ·next k off n' ey hh=>
     simp only[ah]at hh;subst hh;split at hx
     ·next hlt=>
      simp only[ah,aD]at hx;obtain⟨rfl,rfl⟩:=hx;exact x_iaA hv hop hu e1 hi ey (by simpa[aV]using hlt)
     ·cases hx
    ·cases hx
   ·cases hx
  ·cases hc
 |index t y i=>
  rw[hop]at hc;simp only[aE]at hc;split at hc
  ·next n e hu=>
   obtain⟨s,e1,hc⟩:=au hc;obtain⟨r,e2,rfl⟩:=an hc;simp only[xT]at hx;split at hx
   ·next i' l hi ey=>
    split at hx
    ·next hlt=>
     obtain⟨c',e4,e5⟩:=an hx;simp only[aD]at e5;obtain⟨rfl,rfl⟩:=e5;obtain⟨p,e6,e7⟩:=au e4;exact x_ix hv hop hu e1 e2 hi ey (by simpa[aV]using hlt) e6 e7
    ·cases hx
   ·cases hx
  ·next hu=>
   simp only[ah]at hc;subst hc;simp only[xT]at hx;split at hx
   ·next i' s hi ey=>
    obtain⟨b,e4,e5⟩:=an hx;simp only[aD]at e5;obtain⟨rfl,rfl⟩:=e5;exact x_sx hv hop hu hi ey e4
   ·cases hx
  ·cases hc
 |extract y i=>
  rw[hop]at hc;simp only[aE,ah]at hc;subst hc;simp only[xT]at hx;split at hx
  ·next l ey=>
   obtain⟨c',e4,e5⟩:=an hx;simp only[aD]at e5;obtain⟨rfl,rfl⟩:=e5;exact x_ext hv hop ey e4
  ·cases hx
 |nilCheck y=>
  rw[hop]at hc;simp only[aE,ah]at hc;subst hc;simp only[xT]at hx;split at hx
  ·next k off ey=>
   simp only[ah,aD]at hx;obtain⟨rfl,rfl⟩:=hx;rw[<-ey];exact x_nc hv hop (.inl ⟨k,off,ey⟩)
  ·next f cs ey=>
   simp only[ah,aD]at hx;obtain⟨rfl,rfl⟩:=hx;rw[<-ey];exact x_nc hv hop (.inr (.inl ⟨f,cs,ey⟩))
  ·next k ey=>
   simp only[ah,aD]at hx;obtain⟨rfl,rfl⟩:=hx;rw[<-ey];exact x_nc hv hop (.inr (.inr ⟨k,ey⟩))
  ·cases hx
 |call cl=>
  obtain⟨callee,args,argTypes⟩:=cl;rw[hop]at hc
  cases callee with
  |value f=>
   simp only[aE,ah]at hc;subst hc;simp[X.isT]at hT
  |invoke r m=>simp[aE]at hc
  |builtin b=>
   simp only[aE]at hc;split at hc
   ·next y t ha ht=>
    have ha':args= #[y]:=cU.1 ha;have ht':argTypes= #[t]:=cU.1 ht;subst ha';subst ht';split at hc
    ·next e hu=>
     simp only[ah]at hc;subst hc;simp only[xT]at hx;split at hx
     ·next k off n cp ex ey=>
      simp only[ah,aD]at hx;obtain⟨rfl,rfl⟩:=hx;exact BC hv hop (.inl ⟨e,hu,.inl ⟨k,off,cp,ex,ey⟩⟩)
     ·next ey=>
      simp only[ah,aD]at hx;obtain⟨rfl,rfl⟩:=hx;exact Is hv hop hu ey
     ·next n cp ey=>
      simp only[ah,aD]at hx;obtain⟨rfl,rfl⟩:=hx;exact BC hv hop (.inl ⟨e,hu,.inr ⟨cp,ey⟩⟩)
     ·cases hx
    ·next hu=>
     simp only[ah]at hc;subst hc;simp only[xT]at hx;split at hx
     ·next s ey=>
      simp only[ah,aD]at hx;obtain⟨rfl,rfl⟩:=hx;exact BC hv hop (.inr ⟨s,hu,ey,rfl⟩)
     ·cases hx
    ·cases hc
   ·next y y2 ha=>
    have ha':args= #[y,y2]:=cU.1 ha;subst ha';simp only[ah]at hc;subst hc;simp only[xT]at hx;split at hx
    ·next k p k' q e1 e2=>
     simp only[ah,aD]at hx;obtain⟨rfl,rfl⟩:=hx;exact Ht hv (g:=false) hop e1 e2
    ·cases hx
   ·next y y2 ha=>
    have ha':args= #[y,y2]:=cU.1 ha;subst ha';simp only[ah]at hc;subst hc;simp only[xT]at hx;split at hx
    ·next k p k' q e1 e2=>
     simp only[ah,aD]at hx;obtain⟨rfl,rfl⟩:=hx;exact Ht hv (g:=true) hop e1 e2
    ·cases hx
   ·next y y2 t t' ha ht=>
    split at hc
    ·split at hc
     ·cases hc
     ·obtain⟨i,_,hc⟩:=au hc;obtain⟨z,_,hc⟩:=au hc;split at hc
      ·simp only[ah]at hc;subst hc;simp[X.isT]at hT
      ·cases hc
    ·obtain⟨i,_,hc⟩:=au hc;obtain⟨z,_,hc⟩:=au hc;split at hc
     ·simp only[ah]at hc;subst hc;simp[X.isT]at hT
     ·cases hc
    ·cases hc
   ·next y t ha ht=>
    have ha':args= #[y]:=cU.1 ha;have ht':argTypes= #[t]:=cU.1 ht;subst ha';subst ht';split at hc
    ·next e hu=>
     simp only[ah]at hc;subst hc;simp only[xT]at hx;split at hx
     ·next k off n cp ey=>
      simp only[ah,aD]at hx;obtain⟨rfl,rfl⟩:=hx;exact Hu hv hop hu (.inl ⟨k,off,n,ey⟩)
     ·next m n ey=>
      simp only[ah,aD]at hx;obtain⟨rfl,rfl⟩:=hx;exact Hu hv hop hu (.inr ⟨m,ey⟩)
     ·cases hx
    ·cases hc
   ·split at hc
    ·obtain⟨i,_,hc⟩:=au hc;obtain⟨z,_,rfl⟩:=an hc;simp[X.isT]at hT
    ·cases hc
   ·cases hc
 |_=>rw[hop]at hc;simp[aE]at hc
end CI
end
section
open Go.RowKit
namespace CI
variable {P : Program} {A : Nat->Prop} {ρ : Nat->Nat} {w : World} {tm : Tm} {a : Act} {o : Oper} {c : C} {h h' : H}
def ME(P:Program)(A:Nat->Prop)(ρ:Nat->Nat)(w:World)(h:H)(r:Result Next)(c:C)(h':H):Prop:=
 ∃u w' ρ',(r= .ok (.value u) w'\/(r= .ok .skip w'/\u=undef))/\bR P A ρ w h ρ' w' h'/\VR P (Ext A h h') ρ' w' c u
theorem aR{k:Nat}{b:B}(e:h.get k=some b):h.live k:=by unfold H.live;rw[e];rfl
theorem so{r:Nat}{arr:Array Value}{T:TypeId}{xs rest:List Value}(hg:w.heap[r]?=some (.cells arr T (0,0)))(e:arr.toList=xs++rest){j:Nat}{v:Value}(hj:xs[j]?=some v):w.cell? ⟨r,j,none⟩=some v:=by
 rw[cell_of_row w r _ _ _ (0,0) hg,<-cQ,e,en (bW.1 hj).1];exact hj
theorem ue(t:Rel P A ρ w h){k off s:Nat}{r:Bool}{T:TypeId}{l p:List C}{ty:TypeId}(hb:h.get k=some (.cells T l))(hp:gk l off s=some p)(hc:dN r p=some c)(hr:rowOf P ty=some r)(hs:cj P ty=some s):
  ∃u,(loadVar ty ⟨ρ k,off,none⟩).run P w= .ok u w/\VR P A ρ w c u:=by
 obtain⟨_,_,_,arr,xs,rest,e1,e2,e3,_⟩:=t.blk k _ hb;obtain⟨k1,k2⟩:=e3.get hp;have k3:=k1.dN hc;obtain⟨i,hi1,hi2⟩:=dp hs;have hcell:∀j v,((xs.drop off).take s)[j]?=some v->w.cell? ((⟨ρ k,off,none⟩:Addr).add j)=some v:=fun j v hj=>by
  rw[cP];rw[et]at hj;split at hj
  ·rw[fU]at hj;exact so e1 e2 hj
  ·cases hj
 have hlen:((xs.drop off).take s).length=s:=by rw[aQ,ep];omega
 cases r with
 |true=>
  simp only[if_true]at k3;refine⟨_,?_,k3⟩;have hr2:=run_loadCells_list (P:=P) (w:=w) ⟨ρ k,off,none⟩ ((xs.drop off).take s) hcell;rw[hlen]at hr2;unfold loadVar;simp[kv hr,sizeOf,typeInfo,hi1,hi2,hr2]
 |false=>
  simp only[tv,if_false]at k3;obtain⟨u,e,k4⟩:=k3;refine⟨u,?_,k4⟩;have h0:=hcell 0 u (by rw[e];rfl);rw[cP,cf]at h0;unfold loadVar;simp[kv hr,h0]
theorem Ld(hv:HV P A ρ w tm a o)(t:Rel P A ρ w h){ty:TypeId}{x:Operand}{s:Nat}{r:Bool}(ho:o.op= .load ty x)(hr:rowOf P ty=some r)(hs:cj P ty=some s)(hx:kM r s ((aw x).ev tm) h=some c):ME P A ρ w h ((execOp a.eval o).run P w) c h:=by
 have hX:=hv x bC;unfold OpV at hX;unfold kM at hx;split at hx
 ·next k off e=>
  rw[e]at hX;simp only[VR]at hX;split at hx
  ·next T l hb=>
   obtain⟨p,e1,e2⟩:=au hx;obtain⟨u,k1,k2⟩:=ue t hb e1 e2 hr hs;have p0:=bR.refl t;refine⟨u,w,ρ,.inl ?_,p0,VR.mo ⟨fun _ hk=>.inl hk,fun _ _=>rfl⟩ (Lt.refl w) _ _ k2⟩;unfold execOp;rw[ho];simp[hX.2,Instr.loadAt,Instr.sureAddr,k1]
  ·cases hx
 ·cases hx
theorem pX(t:Rel P A ρ w h){k off:Nat}{T:TypeId}{l l' new:List C}{ys:List Value}{s:Nat}(hb:h.get k=some (.cells T l))(hs:lE l off s new=some l')(hn:VCs P A ρ w new ys)(hl:ys.length=s):
  ∃arr,w.heap[ρ k]?=some (.cells arr T (0,0))/\off+s<=arr.size/\bR P A ρ w h ρ (w.setRow (ρ k) (arr.toList.take off++ys++arr.toList.drop (off+s)).toArray) (h.set k (some (.cells T l'))):=by
 obtain⟨_,_,hlt,arr,xs,rest,e1,e2,e3,e4⟩:=t.blk k _ hb;obtain⟨k1,k2⟩:=e3.set hn hs;have hlen:off+s<=arr.size:=by rw[<-bJ,e2,cL];omega
 refine⟨arr,e1,hlen,?_⟩;have hnew:=setRow_heap w (ρ k) arr (arr.toList.take off++ys++arr.toList.drop (off+s)).toArray T (0,0) e1;have hc:Chg (ρ k) w (w.setRow (ρ k) (arr.toList.take off++ys++arr.toList.drop (off+s)).toArray):=⟨rfl,rfl,rfl,by simp,fun j _ hj=>setRow_other w (ρ k) j _ hj⟩;have hsz:(arr.toList.take off++ys++arr.toList.drop (off+s)).toArray.size=arr.size:=by
  simp only[jh,cL,aQ,ep,bJ];omega
 have hsh:∀q,w.shape? (ρ k)=some q->(w.setRow (ρ k) (arr.toList.take off++ys++arr.toList.drop (off+s)).toArray).shape? (ρ k)=some q:=fun q hq=>by
  unfold World.shape? at hq⊢;rw[e1]at hq;rw[hnew];simp only at hq⊢;rw[hsz];exact hq
 have hLt:=Lt.chg hc e4 hsh;have harr:(arr.toList.take off++ys++arr.toList.drop (off+s))=(xs.take off++ys++xs.drop (off+s))++rest:=by
  rw[e2,xG aa,tB aa];simp only[fS]
 refine yd t (aR hb) hc e4 hsh ⟨_,xs.take off++ys++xs.drop (off+s),rest,hnew,by rw[pG];exact harr,VCs.mo (Mo.refl A ρ) hLt _ _ k1,fun n e=>?_⟩;rw[cell_of_row _ (ρ k) _ _ _ (0,0) hnew,<-cQ,pG,harr]at e;by_cases hx:(xs.take off++ys++xs.drop (off+s))=[]
 ·have hx0 : xs = [] := by
   apply gw;have:=kH List.length hx;simp only[cL,aQ,ep,fQ]at this;omega
  rw[hx,fV]at e;refine e4 n ?_;rw[cell_of_row _ (ρ k) _ _ _ (0,0) e1,<-cQ,e2,hx0,fV];exact e
 ·rw[en (gA.2 hx)]at e;exact VCs.nw k1 n e
theorem Jz(hv:HV P A ρ w tm a o)(t:Rel P A ρ w h){ty:TypeId}{x y:Operand}{s:Nat}(ho:o.op= .store ty x y)(hs:cj P ty=some s)(hx:kj s ((aw x).ev tm) ((aw y).ev tm) h=some h'):ME P A ρ w h ((execOp a.eval o).run P w) .any h'/\Good h h':=by
 have hX:=hv x bC;have hY:=hv y bC;unfold OpV at hX hY;unfold kj at hx;split at hx
 ·next k off e=>
  rw[e]at hX;simp only[VR]at hX;split at hx
  ·next T l hb=>
   obtain⟨p,e1,hx⟩:=au hx;split at hx
   ·next hw=>
    obtain⟨l',e2,rfl⟩:=an hx;have hp:=VR.flat hY e1;have hlen:(a.eval y).cells.toList.length=s:=by rw[hp.len];simpa using hw
    obtain⟨arr,k1,k2,k3⟩:=pX t hb e2 hp hlen;obtain⟨i,hi1,hi2⟩:=dp hs;have hk:k<1000000:=aJ (t.live (aR hb)).1 t.bd;refine⟨⟨undef,_,ρ,.inr ⟨?_,rfl⟩,k3,by simp only[VR]⟩,sf hk (aR hb)⟩;have hst:=run_storeCells_at P (ρ k) off T (a.eval y).cells.toList 0 arr w k1 aa hp.one;have hsz:(a.eval y).cells.size=s:=by rw[<-hlen,bJ]
    unfold execOp;rw[ho];simp only[cf,hlen]at hst;simp[hX.2,Instr.storeAt,Instr.sureAddr,storeVar,sizeOf,typeInfo,hi1,hi2,hsz,hst]
   ·cases hx
  ·cases hx
 ·cases hx
theorem vX{k r:Nat}{b:B}{w':World}(t:Rel P A ρ w h)(hl:h.live k)(e:(h.set k none).new b=some h')(hd:Dj A h h')(hc:Chg (ρ k) w w')(hnw:NW w (ρ k))(hs:∀s,w.shape? (ρ k)=some s->w'.shape? (ρ k)=some s)
  (hr:r=ρ k\/w.heap.size<=r/\r<w'.heap.size) (hB:∀A' ρ',Mo A A' ρ ρ'->ρ' h.next=r->A' h.next->BR P A' ρ' w' r b):bR P A ρ w h (at' ρ h.next r) w' h'/\Good h h':=by
 obtain⟨m1,m2,m3⟩:=t.live hl;have hk:k<1000000:=aJ m1 t.bd;obtain⟨s1,s2,s3,s4⟩:=oC (h:=h) (b:=none) hk;obtain⟨k1,k2,k3,k4,k5⟩:=cG e;rw[s1]at k1 k4 k5;rw[s2]at k3;have hlt:=Lt.chg hc hnw hs;have hmo:Mo A (Ext A h h') ρ (at' ρ h.next r):=⟨fun _ hk=> .inl hk,fun k hk=>by
  have:=hd k hk;unfold at';rw[ai aa]⟩
 have hat:∀j,j≠h.next->at' ρ h.next r j=ρ j:=fun j hj=>by unfold at';rw[ai hj]
 have hatn:at' ρ h.next r h.next=r:=by unfold at';rw[aj rfl]
 have hT:∀j,T.get h'.t j=if j=h.next then some b else if j=k then none else T.get h.t j:=fun j=>by rw[k5,s4]
 have hg:∀j c,h'.get j=some c->(j=h.next/\c=b)\/(j≠h.next/\j≠k/\h.get j=some c):=fun j c ej=>by
  unfold H.get at ej⊢;rw[k3]at ej;split at ej
  ·cases ej
  ·next hf=>
   rw[hT]at ej;by_cases e1:j=h.next
   ·rw[aj e1]at ej;simp only[ah]at ej;exact .inl ⟨e1,ej.symm⟩
   ·rw[ai e1]at ej;by_cases e2:j=k
    ·rw[aj e2]at ej;cases ej
    ·rw[ai e2]at ej;exact .inr ⟨e1,e2,ej⟩
 have hlv:∀j,h'.live j->j=h.next\/(j≠h.next/\j≠k/\h.live j):=fun j hj=>by
  obtain⟨c,ec⟩:=cA.1 hj;rcases hg j c ec with⟨e1,_⟩|⟨e1,e2,e3⟩
  ·exact .inl e1
  ·exact .inr ⟨e1,e2,aR e3⟩
 have hlow:h'.low<=h.low/\h'.low<=k:=by rw[k2];exact s3
 refine⟨⟨fun j hj=>hat j aa,⟨fun j c ej=>?_,fun i j hi hj ee=>?_,by omega⟩,hlt,fun q hq hn=>hc.block q hq fun e2=>hn k hl hlow.2 e2.symm,fun j hj hlj=>?_⟩,⟨by omega,hlow.1,k3,fun j hj hlo=>?_,fun j hj hd=>?_⟩⟩
 ·rcases hg j c ej with⟨e1,e2⟩|⟨e1,e2,e3⟩
  ·subst e1;subst e2;have hA:Ext A h h' h.next:= .inr ⟨af _,by omega⟩
   rw[hatn];refine⟨by omega,hA,?_,hB _ _ hmo hatn hA⟩;rcases hr with hr|hr
   ·rw[hr];exact aJ m3 hlt.size
   ·exact hr.2
  ·obtain⟨n1,n2,n3,n4⟩:=t.blk j c e3;rw[hat j e1];have hne:ρ j≠ρ k:=fun e5=>e2 (t.inj j k (aR e3) hl e5);exact⟨by omega, .inl n2,aJ n3 hlt.size,n4.mo hmo hlt (hc.block _ n3 hne)⟩
 ·have key : ∀ i, i ≠ h.next -> i ≠ k -> h.live i -> ρ i ≠ r := fun i h1 h2 h3 e5 => by
   rcases hr with hr|hr
   ·rw[hr]at e5;exact h2 (t.inj i k h3 hl e5)
   ·have:=(t.live h3).2.2;omega
  rcases hlv i hi with hi'|⟨hi1,hi2,hi3⟩<;>rcases hlv j hj with hj'|⟨hj1,hj2,hj3⟩
  ·rw[hi',hj']
  ·rw[hi',hatn,hat j hj1]at ee;exact absurd ee.symm (key j hj1 hj2 hj3)
  ·rw[hj',hatn,hat i hi1]at ee;exact absurd ee (key i hi1 hi2 hi3)
  ·rw[hat i hi1,hat j hj1]at ee;exact t.inj i j hi3 hj3 ee
 ·rcases hlv j hlj with e1|⟨_,_,e3⟩
  ·subst e1;rw[hatn];rcases hr with hr|hr
   ·exact .inr ⟨k,hl,hlow.2,hr⟩
   ·exact .inl hr.1
  ·have:=(t.live e3).1;omega
 ·rw[hT,ai aa,ai aa]
 ·rw[hT,ai aa,ai (fun e2=>hd (by rw[e2];exact hl))]
end CI
end
section
open Go.RowKit
namespace CI
variable {P : Program} {A : Nat->Prop} {ρ : Nat->Nat} {w : World} {tm : Tm} {a : Act} {o : Oper} {c : C} {h h' : H}
theorem Fk(t:Rel P A ρ w h){s m:Nat}{b:C}{v:Value}{new:List C}(hb:slW s b h=some (new,m))(hv:VR P A ρ w b v):∃ys,VCs P A ρ w new ys/\ys.length=m*s/\((m=0/\∃ad cp,v= .slice ad 0 cp)\/∃ad cp,v= .slice (some ad) m cp/\∀j u,ys[j]?=some u->w.cell? (ad.add j)=some u):=by
 unfold slW at hb;split at hb
 ·simp only[ah,aD]at hb;obtain⟨rfl,rfl⟩:=hb;simp only[VR]at hv;exact⟨[],by simp only[VCs],by simp,.inl ⟨rfl,none,0,hv.1⟩⟩
 ·simp only[ah,aD]at hb;obtain⟨rfl,rfl⟩:=hb;simp only[VR]at hv;exact⟨[],by simp only[VCs],by simp,.inl ⟨rfl,hv⟩⟩
 ·next k off n cp ex=>
  split at hb
  ·next T l hg=>
   obtain⟨p,e1,e2⟩:=an hb;simp only[aD]at e2;obtain⟨rfl,rfl⟩:=e2;obtain⟨_,_,_,arr,xs,rest,f1,f2,f3,_⟩:=t.blk k _ hg;obtain⟨k1,k2⟩:=f3.get e1;simp only[VR]at hv;obtain⟨_,cap,hv,_⟩:=hv;refine⟨_,k1,by rw[aQ,ep];omega,.inr ⟨_,_,hv,fun j u hj=>?_⟩⟩;rw[cP];rw[et]at hj;split at hj
   ·rw[fU]at hj;exact so f1 f2 hj
   ·cases hj
  ·cases hb
 ·cases hb
theorem lM{T s m cap:Nat}{arr:Array Value}{A':Nat->Prop}{ρ':Nat->Nat}{w':World}{k r:Nat}(hA:A' k)(hr:ρ' k=r)(hg:w'.heap[r]?=some (.cells arr T (0,0)))(hs:cj P T=some s)(hm:m<=cap)(hml:cap<=maxLen)(hsz:arr.size=cap*s):VR P A' ρ' w' (.sl k 0 m m false) (.slice (some ⟨r,0,none⟩) m cap):=by
 simp only[VR,tv,false_imp_iff,true_and,true_imp_iff];refine⟨hA,cap,by rw[hr],af _,hm,hml,T,s,?_,hs⟩;unfold World.shape?;rw[hr,hg];show some (T,arr.size)=_;rw[hsz]
theorem rD(w:World)(arr:Array Value)(T:TypeId){l:List C}{xs rest:List Value}{A':Nat->Prop}{ρ':Nat->Nat}(m:Mo A A' ρ ρ')(hb:Below w.heap.size w (w.drew.alloc (.cells arr T)))(e:arr.toList=xs++rest)(hl:VCs P A ρ w l xs)(hne:xs≠[]):BR P A' ρ' (w.drew.alloc (.cells arr T)) w.heap.size (.cells T l):=by
 refine⟨arr,xs,rest,heap_alloc_new w.drew _,e,VCs.mo m (Lt.below hb) _ _ hl,fun n e2=>?_⟩;rw[cell_of_row _ w.heap.size _ _ _ (0,0) (heap_alloc_new w.drew _),<-cQ,e,en (gA.2 hne)]at e2;exact VCs.nw hl n e2
theorem gS(w:World)(arr:Array Value)(T:TypeId):Below w.heap.size w (w.drew.alloc (.cells arr T)):=((Below.refl _ w).drew).alloc (by exact af _) _
theorem yg{t ty e:TypeId}{i:TypeInfo}(ht:P.underlying t=some (.slice e))(hi:P.info? e=some i){g off n cap:Nat}{cur:Array Value}{T:TypeId}(hg:w.heap[g]?=some (.cells cur T (0,0)))
  {ad:Addr} {m cp:Nat} {ys:List Value} (hl:ys.length=m*i.size) (hc:∀j u,ys[j]?=some u->w.cell? (ad.add j)=some u) (h1:∀u∈ys,u.oneCell'=true) (hroom:n+m<=cap) (hfit:off+n*i.size+ys.length<=cur.size):
  (Builtin.append_ #[t,t] ty #[.slice (some ⟨g,off,none⟩) n cap,.slice (some ad) m cp]).run P w= .ok (.slice (some ⟨g,off,none⟩) (n+m) cap) (w.setRow g (cur.toList.take (off+n*i.size)++ys++cur.toList.drop (off+n*i.size+ys.length)).toArray):=by
 have hf:=run_firstCells_some (P:=P) w i.size m ad m cp ys hl hc;have hst:=run_storeCells_at P g (off+n*i.size) T ys 0 cur w hg (by simpa using hfit) h1;simp only[cf]at hst;simp[Builtin.append_,run_underlying ht,sizeOf,typeInfo,hi,Builtin.lenOf,hroom,hf,Addr.add_lit,hst]
theorem m_app(hv:HV P A ρ w tm a o)(t:Rel P A ρ w h)(hd:Dj A h h'){ty e:TypeId}{x y:Operand}{s:Nat}{i:TypeInfo}{z:List C}(ho:o.op= .call {callee:=.builtin .append,args:=#[x,y],argTypes:=#[ty,ty]})(hu:P.underlying ty=some (.slice e))(hi:P.info? e=some i)(his:i.size=s)(hz:zOf P e=some z)(hby:i.bytes<=100000)(h0:0<s)
  (hx:xL e s ((aw x).ev tm) ((aw y).ev tm) h=some (c,h')):ME P A ρ w h ((execOp a.eval o).run P w) c h'/\Good h h':=by
 have hX:=hv x fJ;have hY:=hv y fJ;unfold OpV at hX hY;unfold xL at hx;have hq:=au hx;clear hx;obtain⟨⟨new,m⟩,e1,hx⟩:=hq;obtain⟨ys,k1,k2,k3⟩:=Fk t e1 hY;obtain⟨i',zv,z1,z2,z3,_⟩:=iL hz;rw[hi]at z1;simp only[ah]at z1;subst z1;have hse:cj P e=some s:=by unfold cj;rw[hi,bQ,his]
 have hex:∀v w',(Builtin.append_ #[ty,ty] o.type #[a.eval x,a.eval y]).run P w= .ok v w'->(execOp a.eval o).run P w= .ok (.value v) w':=fun v w' hr=>by
  unfold execOp;rw[ho];simp[resolve,invoke,builtin,hr]
 simp only at hx;unfold mr at hx;split at hx
 ·
  have hys:ys=[]:=gw (by simpa using k2);have hyv:∃ad cp,a.eval y= .slice ad 0 cp:=by
   rcases k3 with⟨_,h⟩|⟨ad,cp,h,_⟩
   ·exact h
   ·exact⟨_,_,h⟩
  obtain⟨ad,cp,hyv⟩:=hyv;have hfc:∀ad:Option Addr,(Builtin.firstCells i.size 0 (.slice ad 0 cp)).run P w= .ok #[] w:=fun ad=>by
   cases ad<;>simp[Builtin.firstCells,loadCells,loadCellsFrom]
  have key:c=(aw x).ev tm/\h'=h/\∃b n cap,a.eval x= .slice b n cap/\n<=cap:=by
   split at hx
   ·next ex=>
    simp only[ah,aD]at hx;obtain⟨rfl,rfl⟩:=hx;rw[ex]at hX;simp only[VR]at hX;exact⟨rfl,rfl,_,_,_,hX.1,af _⟩
   ·next k off n cp' e' ex=>
    simp only[ah,aD]at hx;obtain⟨rfl,rfl⟩:=hx;rw[ex]at hX;simp only[VR]at hX;obtain⟨_,cap,hX,q1,q2,_⟩:=hX;exact⟨rfl,rfl,_,_,_,hX,by omega⟩
   ·cases hx
  obtain⟨rfl,rfl,b,n,cap,hxv,hle⟩:=key;have hrun:(Builtin.append_ #[ty,ty] o.type #[a.eval x,a.eval y]).run P w= .ok (a.eval x) w:=by
   rw[hxv,hyv];have hru:=run_underlying hu w;simp[Builtin.append_,hru,sizeOf,typeInfo,hi,Builtin.lenOf,hle,hfc];cases b<;>simp[storeCells]
  exact⟨⟨_,w,ρ,.inl (hex _ _ hrun),bR.refl t,VR.mo ⟨fun _ hk=>.inl hk,fun _ _=>rfl⟩ (Lt.refl w) _ _ hX⟩,Good.refl _⟩
 ·next hm0=>
  have hmp:0<m:=qI hm0;obtain⟨ad,cp,hyv,hcell⟩:=k3.resolve_left (fun q=>hm0 q.1);have hysne:ys≠[]:=fun e2=>by
   rw[e2]at k2;have:0<m*s:=lz hmp h0;simp at k2;omega
  have hz3:zv.cells.size=i.size:=z3;have hzc:∀n,(Builtin.zeroCells zv.cells n).size=n*s:=fun n=>by rw[size_zeroCells,hz3,his]
  split at hx
  ·next ex=>
   split at hx<;>try(cases hx;done)
   next hml=>
   have hmle:=ct hml;obtain⟨h1,e2,e3⟩:=an hx;simp only[aD]at e3;obtain⟨rfl,rfl⟩:=e3;rw[ex]at hX;simp only[VR]at hX;have hr:=run_append_nil (P:=P) w ty o.type e i zv hu hi z2 ad m cp ys (by rw[his];exact k2) hcell hmp aa (aX (eQ hmle hby) ay);rw[<-hX.1,<-hyv]at hr;have hge:=grownCap_ge w m 0 e;have hel:(ys.toArray++Builtin.zeroCells zv.cells (grownCap w m 0 e-m)).toList=ys++(Builtin.zeroCells zv.cells (grownCap w m 0 e-m)).toList:=by simp
   have hp:=jK (r:=w.heap.size) t e2 hd (gS w _ e) (af _) aY (fun A' ρ' mo h1 h2=>rD w _ e mo (gS w _ e) hel k1 hysne);refine⟨⟨_,_,_,.inl (hex _ _ hr),hp,?_⟩,su e2⟩;refine lM (.inr ⟨af _,by have:=(cG e2).1;omega⟩) xo (heap_alloc_new w.drew _) hse hge (grownCap_le_maxLen w m 0 e uJ) ?_;rw[qJ,hzc,jh,k2,<-bU];congr 1;omega
  ·next k off n cp' exx ex=>
   rw[ex]at hX;simp only[VR]at hX;obtain⟨hA,cap,hxv,q1,q2,q3,q4⟩:=hX;split at hx
   ·next T' l hg=>
    split at hx
    ·cases hx
    ·next hT=>
     have hT':T'=e:=by simpa using hT
     subst hT';obtain⟨_,_,hlt,arr,xs,rest,f1,f2,f3,f4⟩:=t.blk k _ hg;split at hx
     ·next hroom=>
      have hroom':=ct hroom;obtain⟨l',e2,e3⟩:=an hx;simp only[aD]at e3;obtain⟨rfl,rfl⟩:=e3;have hlen:(ys).length=m*i.size:=by rw[his];exact k2
      obtain⟨arr',g1,g2,g3⟩:=pX t hg e2 k1 k2;rw[f1]at g1;simp only[ah,Obj.cells.injEq,and_true]at g1;obtain rfl:=g1.symm;have hr:=yg (ty:=o.type) (cap:=cap) (cp:=cp) hu hi (off:=off) (n:=n) f1 hlen hcell (VCs.one k1) aa (by rw[hlen,his];exact g2);rw[<-hxv,<-hyv,hlen,his]at hr;have hk:k<1000000:=aJ (t.live (aR hg)).1 t.bd;refine⟨⟨_,_,_,.inl (hex _ _ hr),g3,?_⟩,sf hk (aR hg)⟩;simp only[VR];refine⟨.inl hA,cap,rfl,hroom',q2,q3,fun r1 r2=>?_⟩;obtain⟨r3,T,s',r4,r5⟩:=q4 r1 r2;exact⟨r3,T,s',g3.lt.shape _ _ r4,r5⟩
     ·next hf=>
      split at hx
      ·next hle=>
       have hle':=ct hle;obtain⟨old,e2,hx⟩:=au hx;have hnle:¬n+m<=cp':=fun e5=>by
        rw[lu e5]at hf;cases hf
       obtain⟨g1,g2⟩:=f3.get e2;have hlo:((xs.drop off).take (n*s)).length=n*s:=by rw[aQ,ep];omega
       have hold:∀j u,((xs.drop off).take (n*s))[j]?=some u->w.cell? ((⟨ρ k,off,none⟩:Addr).add j)=some u:=fun j u hj=>by
        rw[cP];rw[et]at hj;split at hj
        ·rw[fU]at hj;exact so f1 f2 hj
        ·cases hj
       have hne:(xs.drop off).take (n*s)++ys≠[]:=fun e5=>hysne (List.append_eq_nil_iff.1 e5).2;have hgr:∀cap,cap<n+m->_:=fun cap hc=>run_append_grow (P:=P) w ty o.type T' i zv hu hi z2 ⟨ρ k,off,none⟩ n cap _ (by rw[his];exact hlo) hold ad m cp ys (by rw[his];exact k2) hcell hc aa (growslice_fits hc (aX (eQ hle' hby) ay));have hge:=grownCap_ge w (n+m) cap T';have hgm:=grownCap_le_maxLen w (n+m) cap T' uJ;have hel:(((xs.drop off).take (n*s)).toArray++ys.toArray++Builtin.zeroCells zv.cells (grownCap w (n+m) cap T'-(n+m))).toList=((xs.drop off).take (n*s)++ys)++(Builtin.zeroCells zv.cells (grownCap w (n+m) cap T'-(n+m))).toList:=by simp
       have hasz:(((xs.drop off).take (n*s)).toArray++ys.toArray++Builtin.zeroCells zv.cells (grownCap w (n+m) cap T'-(n+m))).size=grownCap w (n+m) cap T'*s:=by
        rw[qJ,qJ,hzc,jh,jh,k2,hlo,<-bU,<-bU];congr 1;omega
       split at hx
       ·next he=>
        obtain⟨h1,e3,e4⟩:=an hx;simp only[aD]at e4;obtain⟨rfl,rfl⟩:=e4;have hcap:cap=cp':=q3 aY;have hr:=hgr cap aa;rw[<-hxv,<-hyv]at hr;have hp:=jK (r:=w.heap.size) t e3 hd (gS w _ T') (af _) aY (fun A' ρ' mo h1 h2=>rD w _ T' mo (gS w _ T') hel (VCs.app k1 g1) hne);refine⟨⟨_,_,_,.inl (hex _ _ hr),hp,?_⟩,su e3⟩;exact lM (.inr ⟨af _,by have:=(cG e3).1;omega⟩) xo (heap_alloc_new w.drew _) hse hge hgm hasz
       ·split at hx
        ·obtain⟨h1,e3,e4⟩:=an hx;simp only[aD]at e4;obtain⟨rfl,rfl⟩:=e4;obtain⟨r3,T2,s',r4,r5⟩:=q4 aY rfl;have hk:k<1000000:=aJ (t.live (aR hg)).1 t.bd;have hnx:h1.next=h.next+1:=(cG e3).1
         have hT2:T2=T'/\cap*s'=arr.size:=by
          unfold World.shape? at r4;rw[f1]at r4;simp only[ah,aD]at r4;exact⟨r4.1.symm,r4.2.symm⟩
         rw[hT2.1,hse]at r5;simp only[ah]at r5;subst r5;by_cases hroom:n+m<=cap
         ·have hlen:ys.length=m*i.size:=by rw[his];exact k2
          have hfit:0+n*i.size+ys.length<=arr.size:=by
           rw[hlen,his,bG,<-bU,<-hT2.2];exact cS _ hroom
          have hr:=yg (ty:=o.type) (cap:=cap) (cp:=cp) hu hi (off:=0) (n:=n) f1 hlen hcell (VCs.one k1) hroom hfit;rw[<-hxv,<-hyv,hlen,his,bG]at hr;rw[hlen,his,bG]at hfit;have hnew:=setRow_heap w (ρ k) arr (arr.toList.take (n*s)++ys++arr.toList.drop (n*s+m*s)).toArray T' (0,0) f1;have hc:Chg (ρ k) w (w.setRow (ρ k) (arr.toList.take (n*s)++ys++arr.toList.drop (n*s+m*s)).toArray):=⟨rfl,rfl,rfl,by simp,fun j _ hj=>setRow_other w (ρ k) j _ hj⟩;have hsz:(arr.toList.take (n*s)++ys++arr.toList.drop (n*s+m*s)).toArray.size=arr.size:=by
           simp only[jh,cL,aQ,ep,bJ,k2];omega
          have hsh:∀q,w.shape? (ρ k)=some q->(w.setRow (ρ k) (arr.toList.take (n*s)++ys++arr.toList.drop (n*s+m*s)).toArray).shape? (ρ k)=some q:=fun q hq=>by
           unfold World.shape? at hq⊢;rw[f1]at hq;rw[hnew];simp only at hq⊢;rw[hsz];exact hq
          have hold2:arr.toList.take (n*s)=(xs.drop 0).take (n*s):=by
           rw[f2,ft,xG aa]
          have hmp:=vX (r:=ρ k) t (aR hg) e3 hd hc f4 hsh (.inl rfl) (fun A' ρ' mo h1 h2=>⟨_,(xs.drop 0).take (n*s)++ys,arr.toList.drop (n*s+m*s),hnew,by rw[pG,hold2],VCs.mo mo (Lt.chg hc f4 hsh) _ _ (VCs.app k1 g1),fun q e5=>by
           rw[cell_of_row _ (ρ k) _ _ _ (0,0) hnew,<-cQ,pG,hold2,en (gA.2 hne)]at e5;exact VCs.nw (VCs.app k1 g1) q e5⟩)
          refine⟨⟨_,_,_,.inl (hex _ _ hr),hmp.1,?_⟩,hmp.2⟩;exact lM (.inr ⟨af _,by omega⟩) xo hnew hse hroom r3 (by rw[hsz,hT2.2])
         ·have hr:=hgr cap aa;rw[<-hxv,<-hyv]at hr;have hbl:=gS w (((xs.drop 0).take (n*s)).toArray++ys.toArray++Builtin.zeroCells zv.cells (grownCap w (n+m) cap T'-(n+m))) T';have hmp:=vX (r:=w.heap.size) t (aR hg) e3 hd (Chg.of hbl) f4 (fun q hq=>(Lt.below hbl).shape _ _ hq) (.inr ⟨af _,by simp⟩) (fun A' ρ' mo h1 h2=>rD w _ T' mo hbl hel (VCs.app k1 g1) hne);refine⟨⟨_,_,_,.inl (hex _ _ hr),hmp.1,?_⟩,hmp.2⟩;exact lM (.inr ⟨af _,by omega⟩) xo (heap_alloc_new w.drew _) hse hge hgm hasz
        ·cases hx
      ·cases hx
   ·cases hx
  ·cases hx
end CI
end
section
open Go.RowKit
namespace CI
variable {P : Program} {A : Nat->Prop} {ρ : Nat->Nat} {w : World} {tm : Tm} {a : Act} {o : Oper} {c : C} {h h' h'' : H}
structure Wf(h:H):Prop where
 bd:h.next<=1000000
 lt:∀k b,T.get h.t k=some b->k<h.next
structure Gd(h h':H):Prop where
 wf:Wf h'
 good:Good h h'
theorem fK{k:Nat}{b:B}(e:h.get k=some b):T.get h.t k=some b:=by
 unfold H.get at e;split at e
 ·cases e
 ·exact e
theorem Gd.refl(f:Wf h):Gd h h:=⟨f,Good.refl h⟩
theorem Gd.trans(g:Gd h h')(g':Gd h' h''):Gd h h'':=⟨g'.wf,g.good.trans g'.good⟩
theorem ju{b:B}(f:Wf h)(e:h.new b=some h'):Gd h h':=by
 obtain⟨h1,h2,h3,h4,h5⟩:=cG e;refine⟨⟨by omega,fun k c hc=>?_⟩,su e⟩;rw[h5]at hc;split at hc
 ·omega
 ·have:=f.lt k c hc;omega
theorem fW{k:Nat}{b:Option B}(f:Wf h)(hl:h.live k):Gd h (h.set k b):=by
 obtain⟨c,ec⟩:=cA.1 hl;have hk:=f.lt k c (fK ec);have hk':k<1000000:=aJ hk f.bd;obtain⟨k1,k2,k3,k4⟩:=oC (h:=h) (b:=b) hk';refine⟨⟨by rw[k1];exact f.bd,fun j d hd=>?_⟩,sf hk' hl⟩;rw[k4]at hd;rw[k1];split at hd
 ·next e=>rw[e];exact hk
 ·exact f.lt j d hd
theorem nQ{b:Option B}(f:Wf h)(e:h.iq b=some h'):Gd h h':=by
 cases b with
 |none=>simp only[H.iq,ah]at e;subst e;exact Gd.refl f
 |some b=>exact ju f e
theorem Dc{s:Nat}{x y:C}(f:Wf h)(e:kj s x y h=some h'):Gd h h':=by
 unfold kj at e;split at e
 ·split at e
  ·next hb=>
   obtain⟨p,_,e⟩:=au e;split at e
   ·obtain⟨l',_,rfl⟩:=an e;exact fW f (aR hb)
   ·cases e
  ·cases e
 ·cases e
theorem E6{T s m:Nat}{x:C}{new:List C}(f:Wf h)(e:mr T s x new m h=some (c,h')):Gd h h':=by
 unfold mr at e;split at e
 ·split at e
  ·simp only[ah,aD]at e;obtain⟨_,rfl⟩:=e;exact Gd.refl f
  ·simp only[ah,aD]at e;obtain⟨_,rfl⟩:=e;exact Gd.refl f
  ·cases e
 ·split at e
  ·split at e
   ·obtain⟨h1,e1,e2⟩:=an e;simp only[aD]at e2;obtain⟨_,rfl⟩:=e2;exact ju f e1
   ·cases e
  ·split at e
   ·next hb=>
    split at e
    ·cases e
    ·split at e
     ·obtain⟨l',_,e2⟩:=an e;simp only[aD]at e2;obtain⟨_,rfl⟩:=e2;exact fW f (aR hb)
     ·split at e
      ·obtain⟨old,_,e⟩:=au e;split at e
       ·obtain⟨h1,e1,e2⟩:=an e;simp only[aD]at e2;obtain⟨_,rfl⟩:=e2;exact ju f e1
       ·split at e
        ·obtain⟨h1,e1,e2⟩:=an e;simp only[aD]at e2;obtain⟨_,rfl⟩:=e2;have g:=fW (b:=none) f (aR hb);exact g.trans (ju g.wf e1)
        ·cases e
      ·cases e
   ·cases e
  ·cases e
theorem Iw{s:Nat}{z:List C}{x:C}(f:Wf h)(e:xK s z x h=some h'):Gd h h':=by
 unfold xK at e;split at e
 ·simp only[ah]at e;subst e;exact Gd.refl f
 ·split at e
  ·simp only[ah]at e;subst e;exact Gd.refl f
  ·split at e
   ·next hb=>
    obtain⟨l',_,rfl⟩:=an e;exact fW f (aR hb)
   ·cases e
 ·cases e
def dn(rec:Rec):Prop:=∀f args h c h',rec (.call f args h)=some (.val c h')->Wf h->Gd h h'
theorem kL{rec:Rec}(hr:dn rec){x:X}(f:Wf h)(e:xR rec x tm h=some (c,h')):Gd h h':=by
 unfold xR at e;split at e
 ·obtain⟨d,_,e2⟩:=an e;simp only[aD]at e2;obtain⟨_,rfl⟩:=e2;exact Gd.refl f
 ·obtain⟨d,e1,e2⟩:=an e;simp only[aD]at e2;obtain⟨_,rfl⟩:=e2;exact Dc f e1
 ·unfold xL at e;obtain⟨⟨new,m⟩,_,e⟩:=au e;exact E6 f e
 ·split at e
  ·split at e
   ·obtain⟨h1,e1,e2⟩:=an e;simp only[aD]at e2;obtain⟨_,rfl⟩:=e2;exact ju f e1
   ·cases e
  ·cases e
 ·obtain⟨d,e1,e2⟩:=an e;simp only[aD]at e2;obtain⟨_,rfl⟩:=e2;exact Iw f e1
 ·split at e
  ·next ec=>
   simp only[ah,aD]at e;obtain⟨rfl,rfl⟩:=e;exact hr _ _ _ _ _ ec f
  ·cases e
 ·cases e
theorem Le(hv:HV P A ρ w tm a o)(t:Rel P A ρ w h)(hd:Dj A h h'){ty tn e:TypeId}{x y:Operand}{m:Nat}{i:TypeInfo}{z:List C}{kn:IntKind}(ho:o.op= .call {callee:=.builtin .append,args:=#[x,y],argTypes:=#[ty,tn]})(hu:P.underlying ty=some (.slice e))(hn:P.underlying tn=some (.int kn))(hi:P.info? e=some i)(hz:zOf P e=some z)(hby:i.bytes<=100000)(h0:0<i.size)
  (hx:(aw x).ev tm= .sc (.slice none 0 0)) (hy:eB ((aw y).ev tm)=some (m+1)) (hm:m+1<=1000000) (hnew:h.new (.cells e (eK z (m+1)))=some h'):ME P A ρ w h ((execOp a.eval o).run P w) (.sl h.next 0 (m+1) (m+1) false) h':=by
 have hX:=hv x fJ;have hY:=hv y fJ;unfold OpV at hX hY;rw[hx]at hX;simp only[VR]at hX;obtain⟨kq,hyv⟩:=eY hy hY;obtain⟨i',zv,z1,z2,z3,z4⟩:=iL hz;rw[hi]at z1;simp only[ah]at z1;subst z1;have hse:cj P e=some i.size:=by unfold cj;rw[hi,bQ]
 have hb1:(m+1)*i.bytes<=1000000*100000:=eQ hm hby
 have hr:=Lib.run_append_grow_zeros (P:=P) w ty tn o.type e i zv kq kn hu hn hi z2 none 0 0 [] (run_firstCells_none (P:=P) w.drew i.size 0 0 0) (m+1) aa h0 aa aa aa (growslice_fits aa (by rw[bG];omega));rw[bG]at hr;have hge:=grownCap_ge w (m+1) 0 e;have hzz:∀n,(Builtin.zeroCells zv.cells n)=madeCells zv.cells (n*zv.cells.size):=fun n=>rfl;have hzc:∀n,(Builtin.zeroCells zv.cells n).size=n*i.size:=fun n=>by rw[size_zeroCells,z3]
 have hl:VCs P A ρ w (eK z (m+1)) (Builtin.zeroCells zv.cells (m+1)).toList:=by rw[hzz];exact jv (z4 _ _ _) (m+1)
 have hne:(Builtin.zeroCells zv.cells (m+1)).toList≠[]:=fun e2=>by
  have:=kH List.length e2;rw[bJ,hzc,fQ]at this;have:=lz (show 0<m+1 by omega) h0;omega
 have hel:(([]:List Value).toArray++Builtin.zeroCells zv.cells (m+1)++Builtin.zeroCells zv.cells (grownCap w (m+1) 0 e-(m+1))).toList=(Builtin.zeroCells zv.cells (m+1)).toList++(Builtin.zeroCells zv.cells (grownCap w (m+1) 0 e-(m+1))).toList:=by simp
 have hp:=jK (r:=w.heap.size) t hnew hd (gS w _ e) (af _) aY (fun A' ρ' mo h1 h2=>rD w _ e mo (gS w _ e) hel hl hne);refine⟨_,_,_,.inl ?_,hp,lM (.inr ⟨af _,by have:=(cG hnew).1;omega⟩) (by unfold at';rw[aj rfl];rfl) (heap_alloc_new w.drew _) hse hge (grownCap_le_maxLen w (m+1) 0 e uJ) ?_⟩
 ·rw[<-hX.1,<-hyv]at hr;unfold execOp;rw[ho];simp[resolve,invoke,builtin,hr]
 ·rw[qJ,qJ,hzc,hzc];simp only[jh,fQ,bG];rw[<-bU];congr 1;omega
theorem m_clr(hv:HV P A ρ w tm a o)(t:Rel P A ρ w h){ty e:TypeId}{x:Operand}{i:TypeInfo}{z:List C}(ho:o.op= .call {callee:=.builtin .clear,args:=#[x],argTypes:=#[ty]})(hu:P.underlying ty=some (.slice e))(hi:P.info? e=some i)(hz:zOf P e=some z)
  (hx:xK i.size z ((aw x).ev tm) h=some h'):ME P A ρ w h ((execOp a.eval o).run P w) .any h':=by
 have hX:=hv x fJ;unfold OpV at hX;obtain⟨i',zv,z1,z2,z3,z4⟩:=iL hz;rw[hi]at z1;simp only[ah]at z1;subst z1;have hex:∀v w',(Builtin.clear_ #[ty] o.type #[a.eval x]).run P w= .ok v w'->(execOp a.eval o).run P w= .ok (.value v) w':=fun v w' hr=>by
  unfold execOp;rw[ho];simp[resolve,invoke,builtin,hr]
 have hru:=run_underlying hu w;unfold xK at hx;split at hx
 ·next n cp ex=>
  simp only[ah]at hx;subst hx;rw[ex]at hX;simp only[VR]at hX;have hr:(Builtin.clear_ #[ty] o.type #[a.eval x]).run P w= .ok (.tuple #[]) w:=by
   rw[hX.1];simp[Builtin.clear_,hru]
  exact⟨_,w,ρ,.inl (hex _ _ hr),bR.refl t,by simp only[VR]⟩
 ·next k off n cp ce ex=>
  rw[ex]at hX;simp only[VR]at hX;obtain⟨_,cap,hX,_⟩:=hX
  cases n with
  |zero=>
   simp only[ah]at hx;subst hx;have hr:(Builtin.clear_ #[ty] o.type #[a.eval x]).run P w= .ok (.tuple #[]) w:=by
    rw[hX];simp[Builtin.clear_,hru]
   exact⟨_,w,ρ,.inl (hex _ _ hr),bR.refl t,by simp only[VR]⟩
  |succ m=>
   simp only at hx;split at hx
   ·next T l hb=>
    obtain⟨l',e2,rfl⟩:=an hx;have hzc:(Builtin.zeroCells zv.cells (m+1)).toList.length=(m+1)*i.size:=by rw[bJ,size_zeroCells,z3]
    have hl:VCs P A ρ w (eK z (m+1)) (Builtin.zeroCells zv.cells (m+1)).toList:=by
     show VCs P A ρ w (eK z (m+1)) (madeCells zv.cells ((m+1)*zv.cells.size)).toList;exact jv (z4 _ _ _) (m+1)
    obtain⟨arr,k1,k2,k3⟩:=pX t hb e2 hl hzc;have hst:=run_storeCells_at P (ρ k) off T (Builtin.zeroCells zv.cells (m+1)).toList 0 arr w k1 aa hl.one;simp only[cf,hzc]at hst;have hzr:(zeroValue e).run P w= .ok zv w:=by simp[zeroValue,typeInfo,hi,z2]
    have hr:(Builtin.clear_ #[ty] o.type #[a.eval x]).run P w= .ok (.tuple #[]) (w.setRow (ρ k) (arr.toList.take off++(Builtin.zeroCells zv.cells (m+1)).toList++arr.toList.drop (off+(m+1)*i.size)).toArray):=by
     rw[hX];simp[Builtin.clear_,hru,hzr,hst]
    exact⟨_,_,ρ,.inl (hex _ _ hr),k3,by simp only[VR]⟩
   ·cases hx
 ·cases hx
theorem za{op:Op}{x:X}(hc:aE P op=some x)(hT:x.isT=false):(∃ty y,op= .load ty y)\/(∃ty y v,op= .store ty y v)\/∃cl,op= .call cl:=by
 cases hop:op with
 |load ty y=>exact .inl ⟨ty,y,rfl⟩
 |store ty y v=>exact .inr (.inl ⟨ty,y,v,rfl⟩)
 |call cl=>exact .inr (.inr ⟨cl,rfl⟩)
 |move y=>rw[hop]at hc;simp only[aE,ah]at hc;subst hc;simp[X.isT]at hT
 |assign y=>rw[hop]at hc;simp only[aE,ah]at hc;subst hc;simp[X.isT]at hT
 |pick y y1 y2=>rw[hop]at hc;simp only[aE,ah]at hc;subst hc;simp[X.isT]at hT
 |box t y=>rw[hop]at hc;simp only[aE,ah]at hc;subst hc;simp[X.isT]at hT
 |unOp op t y=>rw[hop]at hc;simp only[aE,ah]at hc;subst hc;simp[X.isT]at hT
 |extract y i=>rw[hop]at hc;simp only[aE,ah]at hc;subst hc;simp[X.isT]at hT
 |nilCheck y=>rw[hop]at hc;simp only[aE,ah]at hc;subst hc;simp[X.isT]at hT
 |alloc t=>rw[hop]at hc;simp only[aE]at hc;obtain⟨_,_,rfl⟩:=an hc;simp[X.isT]at hT
 |build t ps=>
  rw[hop]at hc;simp only[aE]at hc;split at hc
  ·split at hc
   ·obtain⟨_,_,hc⟩:=au hc;obtain⟨_,_,rfl⟩:=an hc;simp[X.isT]at hT
   ·cases hc
  ·obtain⟨_,_,hc⟩:=au hc;obtain⟨_,_,hc⟩:=au hc;obtain⟨_,_,rfl⟩:=an hc;simp[X.isT]at hT
  ·cases hc
 |buildSlice t n ps=>
  rw[hop]at hc;simp only[aE]at hc;split at hc
  ·obtain⟨_,_,hc⟩:=au hc;obtain⟨_,_,hc⟩:=au hc;split at hc
   ·obtain⟨_,_,rfl⟩:=an hc;simp[X.isT]at hT
   ·cases hc
  ·cases hc
 |binOp op t y y2 t2=>
  rw[hop]at hc;simp only[aE]at hc;split at hc
  ·simp only[ah]at hc;subst hc;simp[X.isT]at hT
  ·split at hc
   ·simp only[ah]at hc;subst hc;simp[X.isT]at hT
   ·simp only[ah]at hc;subst hc;simp[X.isT]at hT
   ·cases hc
  ·split at hc
   ·simp only[ah]at hc;subst hc;simp[X.isT]at hT
   ·simp only[ah]at hc;subst hc;simp[X.isT]at hT
   ·cases hc
  ·cases hc
 |convert t1 t2 y=>
  rw[hop]at hc;simp only[aE]at hc;split at hc
  ·simp only[ah]at hc;subst hc;simp[X.isT]at hT
  ·cases hc
 |makeFunc f first cs=>
  rw[hop]at hc
  cases f with
  |func g=>
   simp only[aE]at hc;split at hc
   ·simp only[ah]at hc;subst hc;simp[X.isT]at hT
   ·cases hc
  |_=>simp[aE]at hc
 |makeSlice t y y2=>
  rw[hop]at hc;simp only[aE]at hc;split at hc
  ·obtain⟨_,_,hc⟩:=au hc;obtain⟨_,_,hc⟩:=au hc;split at hc
   ·simp only[ah]at hc;subst hc;simp[X.isT]at hT
   ·cases hc
  ·cases hc
 |slice t y lo hi mx=>
  rw[hop]at hc;simp only[aE]at hc;split at hc
  ·split at hc
   ·cases hc
   ·obtain⟨_,_,rfl⟩:=an hc;simp[X.isT]at hT
  ·cases hc
 |fieldAddr t y i=>
  rw[hop]at hc;simp only[aE]at hc;split at hc
  ·obtain⟨_,_,hc⟩:=au hc;obtain⟨_,_,hc⟩:=au hc;split at hc
   ·cases hc
   ·simp only[ah]at hc;subst hc;simp[X.isT]at hT
  ·cases hc
 |field t y i=>
  rw[hop]at hc;simp only[aE]at hc;split at hc
  ·obtain⟨_,_,hc⟩:=au hc;obtain⟨_,_,hc⟩:=au hc;obtain⟨_,_,rfl⟩:=an hc;simp[X.isT]at hT
  ·cases hc
 |indexAddr t y i=>
  rw[hop]at hc;simp only[aE]at hc;split at hc
  ·obtain⟨_,_,rfl⟩:=an hc;simp[X.isT]at hT
  ·obtain⟨_,_,rfl⟩:=an hc;simp[X.isT]at hT
  ·cases hc
 |index t y i=>
  rw[hop]at hc;simp only[aE]at hc;split at hc
  ·obtain⟨_,_,hc⟩:=au hc;obtain⟨_,_,rfl⟩:=an hc;simp[X.isT]at hT
  ·simp only[ah]at hc;subst hc;simp[X.isT]at hT
  ·cases hc
 |_=>rw[hop]at hc;simp[aE]at hc
theorem BE{rec:Rec}{x:X}(hc:aE P o.op=some x)(hT:x.isT=false)(hnc:∀f l,x≠ .cal f l)(hx:xR rec x tm h=some (c,h'))(hv:HV P A ρ w tm a o)(t:Rel P A ρ w h)(hd:Dj A h h'):ME P A ρ w h ((execOp a.eval o).run P w) c h':=by
 cases hop:o.op with
 |load ty y=>
  rw[hop]at hc;simp only[aE]at hc;obtain⟨s,e1,hc⟩:=au hc;obtain⟨r,e2,rfl⟩:=an hc;simp only[xR]at hx;obtain⟨d,e3,e4⟩:=an hx;simp only[aD]at e4;obtain⟨rfl,rfl⟩:=e4;exact Ld hv t hop e2 e1 e3
 |store ty y v=>
  rw[hop]at hc;simp only[aE]at hc;obtain⟨s,e1,rfl⟩:=an hc;simp only[xR]at hx;obtain⟨d,e3,e4⟩:=an hx;simp only[aD]at e4;obtain⟨rfl,rfl⟩:=e4;exact(Jz hv t hop e1 e3).1
 |call cl=>
  obtain⟨callee,args,argTypes⟩:=cl;rw[hop]at hc
  cases callee with
  |value f=>
   simp only[aE,ah]at hc;subst hc;exact absurd rfl (hnc _ _)
  |invoke r m=>simp[aE]at hc
  |builtin b=>
   simp only[aE]at hc;split at hc
   ·split at hc
    ·simp only[ah]at hc;subst hc;simp[X.isT]at hT
    ·simp only[ah]at hc;subst hc;simp[X.isT]at hT
    ·cases hc
   ·simp only[ah]at hc;subst hc;simp[X.isT]at hT
   ·simp only[ah]at hc;subst hc;simp[X.isT]at hT
   ·next y y2 ty tn ha ht=>
    have ha':args= #[y,y2]:=cU.1 ha;have ht':argTypes= #[ty,tn]:=cU.1 ht;subst ha';subst ht';split at hc
    ·next e e' hu hu'=>
     split at hc
     ·cases hc
     ·next hb=>
      have hb':ty=tn:=by simpa using hb
      subst hb';obtain⟨i,e1,hc⟩:=au hc;obtain⟨z,e2,hc⟩:=au hc;split at hc
      ·next hcc=>
       simp only[bV]at hcc;simp only[ah]at hc;subst hc;simp only[xR]at hx;exact(m_app hv t hd hop hu e1 rfl e2 (ct hcc.1) (by simpa[aV]using hcc.2) hx).1
      ·cases hc
    ·next e kn hu hu'=>
     obtain⟨i,e1,hc⟩:=au hc;obtain⟨z,e2,hc⟩:=au hc;split at hc
     ·next hcc=>
      simp only[bV]at hcc;simp only[ah]at hc;subst hc;simp only[xR]at hx;split at hx
      ·next m hx1 hx2=>
       split at hx
       ·next hm=>
        obtain⟨h1,e3,e4⟩:=an hx;simp only[aD]at e4;obtain⟨rfl,rfl⟩:=e4;exact Le hv t hd hop hu hu' e1 e2 (ct hcc.1) (by simpa[aV]using hcc.2) hx1 hx2 (ct hm) e3
       ·cases hx
      ·cases hx
     ·cases hc
    ·cases hc
   ·split at hc
    ·simp only[ah]at hc;subst hc;simp[X.isT]at hT
    ·cases hc
   ·next y ty ha ht=>
    have ha':args= #[y]:=cU.1 ha;have ht':argTypes= #[ty]:=cU.1 ht;subst ha';subst ht';split at hc
    ·next e hu=>
     obtain⟨i,e1,hc⟩:=au hc;obtain⟨z,e2,rfl⟩:=an hc;simp only[xR]at hx;obtain⟨d,e3,e4⟩:=an hx;simp only[aD]at e4;obtain⟨rfl,rfl⟩:=e4;exact m_clr hv t hop hu e1 e2 e3
    ·cases hc
   ·cases hc
 |_=>
  exfalso;rcases za hc hT with⟨_,_,e⟩|⟨_,_,_,e⟩|⟨_,e⟩<;>(rw[hop]at e;cases e)
end CI
end
section
open Go.RowKit
namespace CI
variable {P : Program} {A : Nat->Prop} {ρ : Nat->Nat} {w : World} {tm tm' : Tm} {a : Act} {o : Oper} {c : C} {h h' h'' : H} {rec : Rec}
def uC(P:Program)(fv:Value)(vs:Array Value)(w:World)(R:Ending->World->Prop):Prop:=
 ∃d,(Deferred.ofValue fv vs).run P w= .ok d w/\((∃f args,(invoke d.target d.args).run P w= .ok (.enter f args) w/\CallsIn Fence.wide 0 P f args w R)\/
  ∃l f tmps s b,fv= .func (.yield l) #[] #[]/\(invoke d.target d.args).run P w= .ok (.round l f tmps s b) w/\RoundIn Fence.wide 0 P l f tmps s b w R)
def fO(P:Program)(A:Nat->Prop)(ρ:Nat->Nat)(w:World)(h:H)(c:C)(h':H):Ending->World->Prop:=fun e w'=>∃u ρ',e= .returned u/\bR P A ρ w h ρ' w' h'/\VR P (Ext A h h') ρ' w' c u
def jB(P:Program)(rec:Rec):Prop:=∀f args h c h',rec (.call f args h)=some (.val c h')->Wf h->∀A ρ w fv vs,Rel P A ρ w h->Dj A h h'->VR P A ρ w f fv->VRl P A ρ w args vs.toList->
 uC P fv vs w (fO P A ρ w h c h')
def FC(F:Fence):Prop:=F=Fence.wide\/∃l,F=Fence.wide.inRound l
theorem FC.fn{F:Fence}(hF:FC F)(f:FuncId):F.fn f:=by rcases hF with rfl|⟨l,rfl⟩<;>trivial
theorem FC.depth{F:Fence}(hF:FC F):F.depth.isSome=true->1<=0:=by rcases hF with rfl|⟨l,rfl⟩<;>(intro e;cases e)
theorem FC.calls{F:Fence}(hF:FC F){f:FuncId}{args:Array Value}{w:World}{R:Ending->World->Prop}(h:CallsIn Fence.wide 0 P f args w R):CallsIn F 0 P f args w R:=by
 rcases hF with rfl|⟨l,rfl⟩
 ·exact h
 ·exact CallsIn.inRound l h
theorem FC.round{F:Fence}(hF:FC F){l:Nat}{f:FuncId}{tmps:Array Value}{s b:Code}{w:World}{R:Ending->World->Prop}(h:RoundIn Fence.wide 0 P l f tmps s b w R):RoundIn F 0 P l f tmps s b w R:=by
 rcases hF with rfl|⟨l,rfl⟩
 ·exact h
 ·exact h
theorem lR(hc:∃x,aE P o.op=some x)(cl:Call):o.op≠ .defer cl:=fun e=>by
 obtain⟨x,hc⟩:=hc;rw[e]at hc;simp[aE]at hc
theorem t_me{x:X}{ob:Option B}(hc:aE P o.op=some x)(hT:x.isT=true)(hx:xT x tm h.next=some (c,ob))(hb:h.iq ob=some h')(hv:HV P A ρ w tm a o)(t:Rel P A ρ w h)(hd:Dj A h h'):ME P A ρ w h ((execOp a.eval o).run P w) c h':=by
 obtain⟨u,w',hr,hk⟩:=E5 hc hT hx hv
 cases ob with
 |none=>
  simp only[H.iq,ah]at hb;subst hb;obtain⟨rfl,hu⟩:=hk;exact⟨u,w',ρ,.inl hr,bR.refl t,VR.mo ⟨fun _ hk=>.inl hk,fun _ _=>rfl⟩ (Lt.refl _) _ _ hu⟩
 |some b=>
  obtain⟨hbl,hlt,hk⟩:=hk;have hp:=jK t hb hd hbl (af _) hlt (fun A' ρ' m e1 e2=>(hk A' ρ' m e1 e2).1);refine⟨u,w',_,.inl hr,hp,(hk _ _ (hp.mo hd) xo (.inr ⟨af _,?_⟩)).2⟩;have:=(cG hb).1;omega
theorem Cb{F:Fence}(hF:FC F){next:Act->World->Prop}{Q:Exit->Act->World->Prop}(hnd:∀cl,o.op≠ .defer cl)(hm:ME P A ρ w h ((execOp a.eval o).run P w) c h')
  (hn:∀u w' ρ',bR P A ρ w h ρ' w' h'->VR P (Ext A h h') ρ' w' c u->next (a.put o.dst u) w'):o.wpIn F 0 P a w next Q:=by
 refine⟨fun f _=>hF.fn f,?_⟩;rw[Oper.semAt_eq F.round a.eval o hnd];obtain⟨u,w',ρ',hr|⟨hr,rfl⟩,hp,hu⟩:=hm
 ·rw[hr,Oper.uponIn_value];exact hn u w' ρ' hp hu
 ·rw[hr,Oper.uponIn_skip];exact hn undef w' ρ' hp hu
theorem J4{F:Fence}(hF:FC F){next:Act->World->Prop}{Q:Exit->Act->World->Prop}{f:Operand}{args:Array Operand}{ts:Array TypeId}(ho:o.op= .call {callee:= .value f,args:=args,argTypes:=ts})
  (hk:uC P (a.eval f) (args.map a.eval) w (fO P A ρ w h c h'))
  (hn:∀u w' ρ',bR P A ρ w h ρ' w' h'->VR P (Ext A h h') ρ' w' c u->next (a.put o.dst u) w'):o.wpIn F 0 P a w next Q:=by
 refine⟨fun f _=>hF.fn f,?_⟩;rw[Oper.semAt_eq F.round a.eval o (fun cl e=>by rw[ho]at e;cases e)];obtain⟨d,hd,hk⟩:=hk;have hE:(execOp a.eval o).run P w=(invoke d.target d.args).run P w:=by
  unfold execOp;rw[ho];simp only[resolve,Sem.run_bind,hd,Result.andThen_ok]
 rw[hE]
 have hpost : ∀ e w', fO P A ρ w h c h' e w' -> (match e, w' with
     | .returned v,w''=>next (a.put o.dst v) w''
     | .panicked chain,w''=>Q (.panic chain) a w''
     | .outgrown,_=>LetsOut Q):=fun e w' ⟨u,ρ',e1,hp,hu⟩=>by
  subst e1;exact hn u w' ρ' hp hu
 rcases hk with⟨g,as',hr,hk⟩|⟨l,g,tmps,s,b,_,hr,hk⟩
 ·rw[hr,Oper.uponIn_enter];exact⟨hF.depth,(hF.calls hk).mono hpost⟩
 ·rw[hr,Oper.uponIn_round];exact⟨hF.depth,(hF.round hk).mono hpost⟩
theorem r_wp(hrec:jB P rec){F:Fence}(hF:FC F){next:Act->World->Prop}{Q:Exit->Act->World->Prop}{x:X}(hc:aE P o.op=some x)(hT:x.isT=false)(hx:xR rec x tm h=some (c,h'))(f:Wf h)(hv:HV P A ρ w tm a o)(t:Rel P A ρ w h)(hd:Dj A h h')
  (hn:∀u w' ρ',bR P A ρ w h ρ' w' h'->VR P (Ext A h h') ρ' w' c u->next (a.put o.dst u) w'):o.wpIn F 0 P a w next Q:=by
 by_cases hcal:∃g l,x= .cal g l
 ·obtain⟨g,l,rfl⟩:=hcal;have hop:∃f args ts,o.op= .call {callee:=.value f,args:=args,argTypes:=ts}/\g=aw f/\l=mL args.toList:=by
   cases hop:o.op with
   |call cl=>
    obtain⟨callee,args,argTypes⟩:=cl;rw[hop]at hc
    cases callee with
    |value f=>
     simp only[aE,ah,X.cal.injEq]at hc;exact⟨f,args,argTypes,rfl,hc.1.symm,hc.2.symm⟩
    |invoke r m=>simp[aE]at hc
    |builtin b=>
     exfalso;simp only[aE]at hc;split at hc
     ·split at hc<;>simp at hc
     ·simp at hc
     ·simp at hc
     ·split at hc
      ·split at hc
       ·cases hc
       ·obtain⟨_,_,hc⟩:=au hc;obtain⟨_,_,hc⟩:=au hc;split at hc<;>simp at hc
      ·obtain⟨_,_,hc⟩:=au hc;obtain⟨_,_,hc⟩:=au hc;split at hc<;>simp at hc
      ·cases hc
     ·split at hc<;>simp at hc
     ·split at hc
      ·obtain⟨_,_,hc⟩:=au hc;obtain⟨_,_,hc⟩:=an hc;cases hc
      ·cases hc
     ·cases hc
   |store ty y v=>
    exfalso;rw[hop]at hc;simp only[aE]at hc;obtain⟨_,_,hc⟩:=an hc;cases hc
   |load ty y=>
    exfalso;rw[hop]at hc;simp only[aE]at hc;obtain⟨_,_,hc⟩:=au hc;obtain⟨_,_,hc⟩:=an hc;cases hc
   |_=>
    exfalso;rcases za hc hT with⟨_,_,e⟩|⟨_,_,_,e⟩|⟨_,e⟩<;>(rw[hop]at e;cases e)
  obtain⟨f',args,ts,hop,rfl,rfl⟩:=hop;simp only[xR]at hx;split at hx
  ·next e=>
   simp only[ah,aD]at hx;obtain⟨rfl,rfl⟩:=hx;refine J4 hF hop ?_ hn;refine hrec _ _ _ _ _ e f A ρ w _ _ t hd (hv f' (by rw[hop];simp[Op.operands,Call.operands])) ?_;rw[Array.toList_map];exact uR tm a _ fun y hy=>hv y (by rw[hop];simp[Op.operands,Call.operands];exact .inr (by simpa using hy))
  ·cases hx
 ·exact Cb hF (lR ⟨x,hc⟩) (BE hc hT (fun g l e=>hcal ⟨g,l,e⟩) hx hv t hd) hn
end CI
end
section
open Go.RowKit
namespace CI
variable {P : Program} {A A' : Nat->Prop} {ρ ρ' : Nat->Nat} {w w' : World} {tm tm' : Tm} {a : Act} {o : Oper} {c : C} {h h' h'' : H} {rec : Rec} {n : Nat} {ds : List Nat}
def qw(ρ:Nat->Nat)(k:Nat):Deferred:={target:=.collected (ρ k),args:=#[]}
structure Fr(P:Program)(A:Nat->Prop)(ρ:Nat->Nat)(w:World)(n:Nat)(ds:List Nat)(tm:Tm)(a:Act):Prop where
 tr:TR P A ρ w tm a.tmps
 sz:a.tmps.size=n
 nm:∀k∈ds,A k
 df:a.defers=ds.map (qw ρ)
theorem Fr.mo(m:Mo A A' ρ ρ')(k:Lt w w')(f:Fr P A ρ w n ds tm a):Fr P A' ρ' w' n ds tm a:=
 ⟨f.tr.mo m k,f.sz,fun j hj=>m.sub j (f.nm j hj),f.df.trans (xF fun j hj=>by unfold qw;rw[m.eq j (f.nm j hj)])⟩
theorem uk{t u:Nat}(ht:t<1000000)(tm:Tm)(c:C):CO.ev (T.put 24 tm t (some c)) (CO.t u)=if u=t then c else CO.ev tm (CO.t u):=by
 simp only[CO.ev,T.sJ ht];split
 ·next e=>split at e<;>simp_all
 ·next e=>split at e<;>simp_all
theorem TR.put{tmps:Array Value}{t:Nat}{v:Value}(h:TR P A ρ w tm tmps)(ht:t<tmps.size)(hb:t<1000000)(hv:VR P A ρ w c v):TR P A ρ w (T.put 24 tm t (some c)) (tmps.setIfInBounds t v):=fun u=>by
 rw[uk hb];by_cases e:u=t
 ·rw[aj e];subst e;rw[cg,nu];simp[ht];exact hv
 ·rw[ai e,cg,nu,ai (fun e2=>e e2.symm),<-cg];exact h u
theorem Fr.put{dst:Option Nat}{v:Value}(f:Fr P A ρ w n ds tm a)(hn:n<1000000)(hd:cr n dst=true)(hv:VR P A ρ w c v):Fr P A ρ w n ds (gj tm dst c) (a.put dst v):=by
 cases dst with
 |none=>exact f
 |some t=>
  have ht:t<n:=by simpa[cr,aV]using hd
  exact⟨f.tr.put (by rw[f.sz];exact ht) aa hv,by simp[Act.put,f.sz],f.nm,f.df⟩
theorem Fr.hv(f:Fr P A ρ w n ds tm a)(o:Oper):HV P A ρ w tm a o:=fun y _=>f.tr.op y
theorem qv{draw:Bool}{ops:Array Oper}{acc l:List Oper}{ps:List Nat}{r:List RO}(e:eP P n draw ops acc (o::l) ps=some r):
  ∃ p ps' g r', ps = p :: ps' /\ cr n o.dst = true /\ (draw = true -> oA ops o p acc 0 = true /\ ig acc.length o.after.toList = true) /\ (match o.guard with
      |none=>some none
      |some (j,b)=>((ops[j]?).bind (·.dst)).map fun t=>some (t,b))=some g/\eP P n draw ops (acc++[o]) l ps'=some r'/\r=⟨o.dst,g,(match aE P o.op with|some x=>x|none=> .bad),p⟩::r':=by
 cases ps with
 |nil=>simp[eP]at e
 |cons p ps'=>
  simp only[eP]at e;split at e
  ·cases e
  ·next hb=>
   obtain⟨g,e1,e⟩:=au e;obtain⟨r',e2,e3⟩:=an e;simp only[xE,Bool.and_eq_false_iff,Bool.not_eq_false',bV]at hb;exact⟨p,ps',g,r',rfl,hb.2,fun hd=>hb.1.resolve_left (by simp[hd]),e1,e2,e3.symm⟩
theorem wN{x:X}(e:x=(match aE P o.op with|some x=>x|none=>.bad))(hT:x.isT=false\/x≠ .bad):aE P o.op=some x:=by
 cases hc:aE P o.op with
 |some y=>rw[hc]at e;rw[e]
 |none=>
  rw[hc]at e;subst e;rcases hT with hT|hT
  ·simp[X.isT]at hT
  ·exact absurd rfl hT
theorem Da{tm:Tm}{next:Nat}:xT .bad tm next=none:=rfl
theorem oz{ops:Array Oper}{g:Option (Nat×Bool)}{x:X}{p:Nat}{b:Bool}(hg:(match o.guard with
   |none=>some none
   |some (j,b)=>((ops[j]?).bind (·.dst)).map fun t=>some (t,b))=some g) (hw:eW ⟨o.dst,g,x,p⟩ tm=some b)
  (hv:∀t c,g=some (t,c)->VR P A ρ w (CO.ev tm (CO.t t)) (a.tmps.getD t undef)):Region.wanted o (yielded ops a.tmps)=b:=by
 unfold Region.wanted
 cases ho:o.guard with
 |none=>
  rw[ho]at hg;simp only[ah]at hg;subst hg;simp only[eW,ah]at hw;exact hw
 |some q=>
  obtain⟨j,bb⟩:=q;rw[ho]at hg;simp only at hg;obtain⟨t,e1,e2⟩:=an hg;subst e2;simp only[eW]at hw;split at hw
  ·next cc e=>
   simp only[ah]at hw;subst hw;have h1:=hv t bb rfl;simp only[CO.ev,e]at h1;have h2:=h1.bool;have h3:a.tmps[t]?=some (.bool cc):=by
    rw[cg]at h2
    cases e3:a.tmps[t]? with
    |none=>rw[e3]at h2;simp[undef]at h2
    |some v=>rw[e3]at h2;simp at h2;rw[h2]
   simp only[yielded,e1];simp[h3];cases bb<;>cases cc<;>rfl
  ·cases hw
theorem qV(hg:dn rec):∀(r:List RO) (tm:Tm) (h:H) (tm':Tm) (h':H),kB rec r tm h=some (tm',h')->Wf h->Gd h h'
 |[],tm,h,tm',h',e,f=>by
  simp only[kB,ah,aD]at e;obtain⟨_,rfl⟩:=e;exact Gd.refl f
 |o::l,tm,h,tm',h',e,f=>by
  simp only[kB]at e;split at e
  ·split at e
   ·next c h1 e1=>
    have g1:Gd h h1:=by
     unfold rX at e1;split at e1
     ·obtain⟨⟨c',b⟩,_,e1⟩:=au e1;obtain⟨h2,e2,e3⟩:=an e1;simp only[aD]at e3;obtain⟨_,rfl⟩:=e3;exact nQ f e2
     ·exact kL hg f e1
    exact g1.trans (qV hg l _ _ _ _ e g1.wf)
   ·cases e
  ·exact qV hg l _ _ _ _ e f
  ·cases e
theorem oF(hrec:jB P rec)(hg:dn rec){F:Fence}(hF:FC F){Q:Exit->Act->World->Prop}{ops:Array Oper}{draw:Bool}(hn:n<1000000):∀(l:List Oper) (k:Nat) (acc:List Oper) (ps:List Nat) (r:List RO),(∀(i:Nat) (o:Oper),l[i]?=some o->ops[k+i]?=some o)->eP P n draw ops acc l ps=some r->
  ∀(tm:Tm) (h:H) (tm':Tm) (h':H) (A:Nat->Prop) (ρ:Nat->Nat) (w:World) (a:Act),kB rec r tm h=some (tm',h')->Wf h->Rel P A ρ w h->Dj A h h'->Fr P A ρ w n ds tm a->
  (∀ρ' w' a',bR P A ρ w h ρ' w' h'->Fr P (Ext A h h') ρ' w' n ds tm' a'->Q .normal a' w')->wpOpsIn F 0 P ops Q (List.range' k l.length) a w
 |[],k,acc,ps,r,_,hc,tm,h,tm',h',A,ρ,w,a,e,f,t,hd,hf,hq=>by
  simp only[eP,ah]at hc;subst hc;simp only[kB,ah,aD]at e;obtain⟨rfl,rfl⟩:=e;exact hq ρ w a (bR.refl t) (hf.mo ⟨fun _ hk=>.inl hk,fun _ _=>rfl⟩ (Lt.refl w))
 |o::l,k,acc,ps,r,hl,hc,tm,h,tm',h',A,ρ,w,a,e,f,t,hd,hf,hq=>by
  obtain⟨p,ps',g,r',rfl,h1,_,h2,h3,rfl⟩:=qv hc;have hk:ops[k]?=some o:=by simpa using hl 0 o rfl
  have hl':∀(i:Nat) (o':Oper),l[i]?=some o'->ops[k+1+i]?=some o':=fun i o' hi=>by
   have:=hl (i+1) o' (by simpa using hi);rwa[show k+(i+1)=k+1+i by omega]at this
  simp only[eV,List.range'_succ,wpOpsIn,hk];simp only[kB]at e;split at e
  ·next hw=>
   have hw':=oz h2 hw (fun u b _=>hf.tr u);rw[hw',aj rfl];split at e
   ·next c h1' e1=>
    have g1:Gd h h1':=by
     unfold rX at e1;split at e1
     ·obtain⟨⟨c',b⟩,_,e1⟩:=au e1;obtain⟨h2,e2,e3⟩:=an e1;simp only[aD]at e3;obtain⟨_,rfl⟩:=e3;exact nQ f e2
     ·exact kL hg f e1
    have g2:=qV hg r' _ _ _ _ e g1.wf;have hd1:=hd.left g2.good.next
    have cont:∀u w' ρ',bR P A ρ w h ρ' w' h1'->VR P (Ext A h h1') ρ' w' c u->wpOpsIn F 0 P ops Q (List.range' (k+1) l.length) (a.put o.dst u) w':=fun u w' ρ' hp hu=>
     oF hrec hg hF hn l (k+1) _ ps' r' hl' h3 _ h1' tm' h' (Ext A h h1') ρ' w' _ e g1.wf hp.rel (hd.right g1.good.next) ((hf.mo (hp.mo hd1) hp.lt).put hn h1 hu) (fun ρ2 w2 a2 hp2 hf2=>
      hq ρ2 w2 a2 (hp.trans g1.good hp2 g2.good) (hf2.mo (Mo.ext g1.good.next g2.good.next _) (Lt.refl _)))
    unfold rX at e1;split at e1
    ·next hT=>
     obtain⟨⟨c',b⟩,e2,e1⟩:=au e1;obtain⟨h2',e3,e4⟩:=an e1;simp only[aD]at e4;obtain⟨rfl,rfl⟩:=e4;have hcc:=wN rfl (.inr fun e5=>by rw[e5,Da]at e2;cases e2);exact Cb hF (lR ⟨_,hcc⟩) (t_me hcc hT e2 e3 (hf.hv o) t hd1) cont
    ·next hT=>
     have hcc:=wN rfl (.inl hT);exact r_wp hrec hF hcc hT e1 f (hf.hv o) t hd1 cont
   ·cases e
  ·next hw=>
   have hw':=oz h2 hw (fun u b _=>hf.tr u);rw[hw',ai aY];refine⟨fun g _=>hF.fn g,?_⟩;exact oF hrec hg hF hn l (k+1) _ ps' r' hl' h3 _ h tm' h' A ρ w _ e f t hd (hf.put hn h1 (by simp only[VR])) hq
  ·cases e
end CI
end
section
open Go.RowKit
namespace CI
variable {P : Program} {A A' : Nat->Prop} {ρ ρ' : Nat->Nat} {w w' : World} {tm tm' : Tm} {a : Act} {o : Oper} {c : C} {h h' h'' : H} {rec : Rec} {n : Nat} {ds : List Nat}
theorem gQ(pre k:Nat):∀(iv:List (Nat×Nat×Nat)) (f:List (Nat×Nat)),bH k (fM pre iv f)=false->bH k f=false
 |[],f,h=>h
 |(i,x,y)::l,f,h=>by
  simp only[fM]at h;split at h
  ·exact gQ pre k l f h
  ·simp only[bH]at h;split at h
   ·split at h
    ·cases h
    ·exact gQ pre k l f h
   ·exact gQ pre k l f h
theorem dH{k a b:Nat}{f:List (Nat×Nat)}(h:bH k ((a,b)::f)=false):(k<a\/b<=k)/\bH k f=false:=by
 simp only[bH]at h;split at h
 ·next e1=>
  split at h
  ·cases h
  ·next e2=>
   refine⟨.inr (cY fun e3=>?_),h⟩;rw[<-aV]at e3;rw[e3]at e2;cases e2
 ·next e1=>
  refine⟨.inl (oh fun e3=>?_),h⟩;rw[lu e3]at e1;cases e1
theorem ky(k:Nat)(l:List Nat):eI k (k::l)=true:=by
 simp only[eI,dz]
theorem wg{k x:Nat}{l:List Nat}(h:eI k l=true):eI k (x::l)=true:=by
 simp only[eI];split
 ·rfl
 ·exact h
theorem tY(a b:Nat):mnN a b=min a b:=by
 unfold mnN;split
 ·next e=>exact(dT (ct e)).symm
 ·next e=>
  refine(Nat.min_eq_right (Nat.le_of_not_le fun e2=>?_)).symm;rw[lu e2]at e;cases e
theorem dG{k a b:Nat}{f:List (Nat×Nat)}(h:b<=k):bH k ((a,b)::f)=bH k f:=by
 simp only[bH];split
 ·split
  ·next e2=>
   have:k<b:=by simpa[aV]using e2
   omega
  ·rfl
 ·rfl
theorem FM{next k:Nat}{g:Ft}{f:List (Nat×Nat)}(h:next<=k):bH k (lI next g f)=bH k f:=by
 cases g with
 |none=>rfl
 |some l=>
  simp only[lI]
  match l with
  |[]=>exact dG h
  |[x]=>
   simp only[outs,tY];rw[dG aa,dG h]
  |x::y::l=>
   simp only[outs,tY];split
   ·rw[dG aa,dG aa,dG h]
   ·rw[dG aa,dG aa,dG h]
theorem gO{next k:Nat}{g:Ft}{f:List (Nat×Nat)}(h:bH k (lI next g f)=false):bH k f=false/\(k<next->g.has k=true):=by
 cases g with
 |none=>exact⟨h,fun _=>rfl⟩
 |some l=>
  simp only[lI]at h;show bH k f=false/\(k<next->eI k l=true)
  match l,h with
  |[],h=>
   obtain⟨h1,h2⟩:=dH h;exact⟨h2,fun hk=>by omega⟩
  |[x],h=>
   simp only[outs,tY]at h;obtain⟨h1,h2⟩:=dH h;obtain⟨h3,h4⟩:=dH h2;refine⟨h4,fun hk=>?_⟩;have:x=k:=by omega
   rw[this];exact ky _ _
  |x::y::l,h=>
   simp only[outs,tY]at h;split at h
   ·obtain⟨h1,h2⟩:=dH h;obtain⟨h3,h4⟩:=dH h2;obtain⟨h5,h6⟩:=dH h4;refine⟨h6,fun hk=>?_⟩;have:x=k\/y=k:=by omega
    rcases this with e|e
    ·rw[e];exact ky _ _
    ·rw[e];exact wg (ky _ _)
   ·obtain⟨h1,h2⟩:=dH h;obtain⟨h3,h4⟩:=dH h2;obtain⟨h5,h6⟩:=dH h4;refine⟨h6,fun hk=>?_⟩;have:x=k\/y=k:=by omega
    rcases this with e|e
    ·rw[e];exact ky _ _
    ·rw[e];exact wg (ky _ _)
def H.part(h:H)(pre:Nat)(iv:List (Nat×Nat×Nat))(g:Ft):H:=⟨h.next,h.next,lI h.next g (fM pre iv h.forb),h.t⟩
theorem lH{pre:Nat}{iv:List (Nat×Nat×Nat)}{g:Ft}{k:Nat}{b:B}(e:(h.part pre iv g).get k=some b):h.get k=some b:=by
 unfold H.get at e⊢;split at e
 ·cases e
 ·next hf=>rw[gQ pre k iv h.forb (gO hf).1];exact e
theorem iZ{pre:Nat}{iv:List (Nat×Nat×Nat)}{g:Ft}(f:Wf h):Wf (h.part pre iv g):=⟨f.bd,f.lt⟩
def H.whole(h h':H):H:=⟨h'.next,(match Nat.blt h'.low h.low with|true=>h'.low|false=>h.low),h.forb,h'.t⟩
theorem vL(h h':H):(h.whole h').low<=h.low/\(h.whole h').low<=h'.low:=by
 show(match Nat.blt h'.low h.low with|true=>h'.low|false=>h.low)<=h.low/\(match Nat.blt h'.low h.low with|true=>h'.low|false=>h.low)<=h'.low;split
 ·next e=>
  have:h'.low<h.low:=by simpa[aV]using e
  exact⟨cD this,af _⟩
 ·next e=>
  have:¬h'.low<h.low:=by intro e2;rw[<-aV]at e2;rw[e2]at e;cases e
  exact⟨af _,by omega⟩
theorem vf{pre:Nat}{iv:List (Nat×Nat×Nat)}{gf:Ft}(g:Gd (h.part pre iv gf) h'):Gd h (h.whole h'):=by
 obtain⟨l1,l2⟩:=vL h h';refine⟨⟨g.wf.bd,g.wf.lt⟩,⟨g.good.next,l1,rfl,fun k hk hl=>g.good.keep k hk (aJ hl l2),fun k hk hd=>g.good.dead k hk fun hl=>hd ?_⟩⟩;obtain⟨b,e⟩:=cA.1 hl;exact aR (lH e)
theorem vT{o:RO}{l:List RO}{j:Nat}{iv:List (Nat×Nat×Nat)}{rw:List (Nat×Bool×Ft)}(e:fi rec (o::l) j iv rw tm h=some (tm',h')):
  (eW o tm=some false/\fi rec l (j+1) iv rw (gj tm o.dst .any) h=some (tm',h'))\/
  (eW o tm=some true/\o.x.isT=true/\∃c ob h1,xT o.x tm h.next=some (c,ob)/\h.iq ob=some h1/\fi rec l (j+1) (match ob with|none=>iv|some _=>(j,h.next,h1.next)::iv) rw (gj tm o.dst c) h1=some (tm',h'))\/
  (eW o tm=some true/\o.x.isT=false/\∃c h1,xR rec o.x tm (h.part o.pre iv (xFt o.x tm))=some (c,h1)/\kf o.pre (Nat.blt h1.low h.next) (xFt o.x tm) rw=false/\
   fi rec l (j+1) (match Nat.blt h.next h1.next with|true=>(j,h.next,h1.next)::iv|false=>iv) ((j,Nat.blt h1.low h.next,xFt o.x tm)::rw) (gj tm o.dst c) (h.whole h1)=some (tm',h')):=by
 simp only[fi]at e;split at e
 ·next hw=>
  split at e
  ·next hT=>
   split at e
   ·next c e1=>exact .inr (.inl ⟨hw,hT,c,none,h,e1,rfl,e⟩)
   ·next c b e1=>
    split at e
    ·next h1 e2=>exact .inr (.inl ⟨hw,hT,c,some b,h1,e1,e2,e⟩)
    ·cases e
   ·cases e
  ·next hT=>
   split at e
   ·next c h1 e1=>
    split at e
    ·cases e
    ·next hcl=>exact .inr (.inr ⟨hw,hT,c,h1,e1,hcl,e⟩)
   ·cases e
 ·next hw=>exact .inl ⟨hw,e⟩
 ·cases e
theorem qW(hg:dn rec):∀(r:List RO) (j:Nat) (iv:List (Nat×Nat×Nat)) (rw:List (Nat×Bool×Ft)) (tm:Tm) (h:H) (tm':Tm) (h':H),fi rec r j iv rw tm h=some (tm',h')->Wf h->Gd h h'
 |[],j,iv,rw,tm,h,tm',h',e,f=>by
  simp only[fi,ah,aD]at e;obtain⟨_,rfl⟩:=e;exact Gd.refl f
 |o::l,j,iv,rw,tm,h,tm',h',e,f=>by
  rcases vT e with⟨_,e⟩|⟨_,_,c,ob,h1,_,e2,e⟩|⟨_,_,c,h1,e1,_,e⟩
  ·exact qW hg l _ _ _ _ _ _ _ e f
  ·have g1:=nQ f e2;exact g1.trans (qW hg l _ _ _ _ _ _ _ e g1.wf)
  ·have g1:=vf (kL hg (iZ f) e1);exact g1.trans (qW hg l _ _ _ _ _ _ _ e g1.wf)
def zo(P:Program)(rec:Rec):Prop:=∀(F:Fence) (_:FC F) (Q:Exit->Act->World->Prop) (ops:Array Oper) (id n:Nat) (_:n<1000000) (r:List RO) (_:eP P n true ops [] ops.toList (iM ops.toList [])=some r)
 (tm:Tm) (h:H) (tm':Tm) (h':H) (_:fi rec r 0 [] [] tm h=some (tm',h')) (_:Wf h) (A:Nat->Prop) (ρ:Nat->Nat) (w:World) (a:Act) (ds:List Nat) (_:Rel P A ρ w h) (_:Dj A h h') (_:Fr P A ρ w n ds tm a)
 (_:∀ρ' w' a',bR P A ρ w h ρ' w' h'->Fr P (Ext A h h') ρ' w' n ds tm' a'->Q .normal a' w'),(Code.region id ops true).wpIn F 0 P Q a w
end CI
end
section
open Go.RowKit
namespace CI
variable {P : Program} {h h' h'' : H} {rec : Rec} {E : Env}
def qB(rec:Rec):Prop:=∀cc tm ds rd h e tm' ds' h',rec (.code cc tm ds rd h)=some (.code e tm' ds' h')->Wf h->Gd h h'
theorem mN:∀(ds:List Nat) (h h':H),fe ds h=some h'->Wf h->Gd h h'
 |[],h,h',e,f=>by simp only[fe,ah]at e;subst e;exact Gd.refl f
 |k::l,h,h',e,f=>by
  simp only[fe]at e;split at e
  ·next hb=>
   have g:=fW (b:=some (.defd false)) f (aR hb);exact g.trans (mN l _ _ e g.wf)
  ·cases e
theorem Af{l:Nat}{e:Ex}{c:C}(hh:yQ l e h=some (c,h'))(f:Wf h):Gd h h':=by
 unfold yQ at hh;split at hh
 ·next hb=>
  split at hh<;>(simp only[ah,aD]at hh;obtain⟨_,rfl⟩:=hh;exact fW f (aR hb))
 ·cases hh
theorem J5(hr:dn rec)(hc:qB rec):dn (body E rec)/\qB (body E rec):=by
 constructor
 ·intro f args h c h' e fh;simp only[body]at e;split at e
  ·split at e
   ·obtain⟨_,_,e2⟩:=an e;simp only[Out.val.injEq]at e2;obtain⟨_,rfl⟩:=e2;exact Gd.refl fh
   ·split at e
    ·split at e
     ·cases e
     ·split at e
      ·next e1=>
       have g1:=hc _ _ _ _ _ _ _ _ _ e1 fh;split at e
       ·cases e
       ·obtain⟨h2,e2,e⟩:=au e;obtain⟨rs,e3,e4⟩:=an e;simp only[Out.val.injEq]at e4;obtain⟨_,rfl⟩:=e4;exact g1.trans (mN _ _ _ e2 g1.wf)
      ·cases e
    ·cases e
  ·split at e
   ·split at e
    ·split at e
     ·next e1=>
      have g1:=hc _ _ _ _ _ _ _ _ _ e1 fh;split at e
      ·next hb=>
       split at e
       ·next e2=>
        have g0:=hc _ _ _ _ _ _ _ _ _ e2 (fW g1.wf (aR hb)).wf;have g3:=g1.trans ((fW g1.wf (aR hb)).trans g0);obtain⟨⟨c',h3⟩,e3,e4⟩:=an e;simp only[Out.val.injEq]at e4;obtain⟨_,rfl⟩:=e4;exact g3.trans (Af e3 g3.wf)
       ·cases e
      ·cases e
     ·cases e
    ·cases e
   ·cases e
  ·cases e
 ·intro cc tm ds rd h e tm' ds' h' ee fh
  cases cc with
  |skip=>simp only[body,ah,Out.code.injEq]at ee;obtain⟨_,_,_,rfl⟩:=ee;exact Gd.refl fh
  |ret=>simp only[body,ah,Out.code.injEq]at ee;obtain⟨_,_,_,rfl⟩:=ee;exact Gd.refl fh
  |exit id=>simp only[body,ah,Out.code.injEq]at ee;obtain⟨_,_,_,rfl⟩:=ee;exact Gd.refl fh
  |seq a b=>
   simp only[body]at ee;split at ee
   ·next e1=>
    have g1:=hc _ _ _ _ _ _ _ _ _ e1 fh;exact g1.trans (hc _ _ _ _ _ _ _ _ _ ee g1.wf)
   ·exact hc _ _ _ _ _ _ _ _ _ ee fh
  |cond c a b=>
   simp only[body]at ee;split at ee
   ·exact hc _ _ _ _ _ _ _ _ _ ee fh
   ·exact hc _ _ _ _ _ _ _ _ _ ee fh
   ·cases ee
  |block id c=>
   simp only[body]at ee;split at ee
   ·next e1=>
    have g1:=hc _ _ _ _ _ _ _ _ _ e1 fh;split at ee<;>(simp only[ah,Out.code.injEq]at ee;obtain⟨_,_,_,rfl⟩:=ee;exact g1)
   ·exact hc _ _ _ _ _ _ _ _ _ ee fh
  |loop c=>
   simp only[body]at ee;split at ee
   ·next e1=>
    have g1:=hc _ _ _ _ _ _ _ _ _ e1 fh;exact g1.trans (hc _ _ _ _ _ _ _ _ _ ee g1.wf)
   ·exact hc _ _ _ _ _ _ _ _ _ ee fh
  |reg draw ops=>
   simp only[body]at ee;split at ee
   ·next e1=>
    simp only[ah,Out.code.injEq]at ee;obtain⟨_,rfl,_,rfl⟩:=ee;split at e1
    ·exact qW hr _ _ _ _ _ _ _ _ e1 fh
    ·exact qV hr _ _ _ _ _ e1 fh
   ·cases ee
  |rng f ps a b=>
   simp only[body]at ee;split at ee
   ·next d ds1 h1 e1=>
    have g1:Gd h h1:=by
     split at e1
     ·split at e1
      ·simp only[ah,aD]at e1;obtain⟨_,_,rfl⟩:=e1;exact Gd.refl fh
      ·cases e1
     ·obtain⟨h2,e2,e3⟩:=an e1;simp only[aD]at e3;obtain⟨_,_,rfl⟩:=e3;exact ju fh e2
    split at ee
    ·next h2 e2=>
     have g2:=g1.trans (ju g1.wf e2);split at ee
     ·next e3=>
      split at e3
      ·next g caps _=>
       have g3:=g2.trans (hr _ _ _ _ _ e3 g2.wf);split at ee
       ·cases ee
       ·next hb=>
        simp only[ah,Out.code.injEq]at ee;obtain⟨_,_,_,rfl⟩:=ee;exact g3.trans (fW g3.wf (aR hb))
       ·cases ee
      ·cases e3
     ·cases ee
    ·cases ee
   ·cases ee
theorem nJ(E:Env):∀n,dn (run E n)/\qB (run E n)
 |0=>⟨fun _ _ _ _ _ e=>by simp[run]at e,fun _ _ _ _ _ _ _ _ _ e=>by simp[run]at e⟩
 |n+1=>J5 (nJ E n).1 (nJ E n).2
end CI
end
section
open Go.RowKit
namespace CI
variable {P : Program} {A A' : Nat->Prop} {ρ ρ' : Nat->Nat} {w w' : World} {tm tm' : Tm} {a : Act} {c : C} {h h' h'' : H} {rec : Rec} {E : Env} {n : Nat} {ds ds' : List Nat}
def exM:Ex->Exit->Prop
 | .norm,.normal=>True
 | .ret,.ret=>True
 | .exit i,.exit j=>i=j
 |_,_=>False
def gT(P:Program)(A:Nat->Prop)(ρ:Nat->Nat)(w:World)(h:H)(n:Nat)(e:Ex)(tm':Tm)(ds':List Nat)(h':H):Exit->Act->World->Prop:=fun e' a' w'=>
 exM e e'/\∃ρ',bR P A ρ w h ρ' w' h'/\Fr P (Ext A h h') ρ' w' n ds' tm' a'
def fc(rd:Option Nat)(ρ:Nat->Nat):Fence:=match rd with|none=>Fence.wide|some l=>Fence.wide.inRound (ρ l)
theorem H7(rd:Option Nat)(ρ:Nat->Nat):FC (fc rd ρ):=by
 cases rd with
 |none=>exact .inl rfl
 |some l=>exact .inr ⟨_,rfl⟩
theorem H5{rd:Option Nat}(h:∀l,rd=some l->ρ' l=ρ l):fc rd ρ'=fc rd ρ:=by
 cases rd with
 |none=>rfl
 |some l=>simp only[fc,h l rfl]
def lW(P:Program)(rec:Rec):Prop:=∀cc tm ds rd h e tm' ds' h',rec (.code cc tm ds rd h)=some (.code e tm' ds' h')->Wf h->∀n c A ρ w a,comp P n c=some cc->n<1000000->Rel P A ρ w h->Dj A h h'->Fr P A ρ w n ds tm a->(∀l,rd=some l->A l)->
 c.wpIn (fc rd ρ) 0 P (gT P A ρ w h n e tm' ds' h') a w
theorem uw{h1:H}{ρ1:Nat->Nat}{w1:World}{e:Ex}{e':Exit}{a':Act}(p:bR P A ρ w h ρ1 w1 h1)(g:Gd h h1)(g':Gd h1 h')(q:gT P (Ext A h h1) ρ1 w1 h1 n e tm' ds' h' e' a' w'):gT P A ρ w h n e tm' ds' h' e' a' w':=by
 obtain⟨h1,ρ2,hp,hf⟩:=q;exact⟨h1,ρ2,p.trans g.good hp g'.good,hf.mo (Mo.ext g.good.next g'.good.next _) (Lt.refl _)⟩
theorem Fr.ext(f:Fr P A ρ w n ds tm a):Fr P (Ext A h h') ρ w n ds tm a:=f.mo ⟨fun _ hk=>.inl hk,fun _ _=>rfl⟩ (Lt.refl w)
theorem zw{F:Fence}{m:Nat}{c:Code}{Q:Exit->Act->World->Prop}(I:Nat->Act->World->Prop){k:Nat}(h₀:I k a w)
  (round:∀k a w,I k a w->c.wpIn F m P (Exit.then (fun a' w'=>∃k',k'<k/\I k' a' w') Q) a w):(Code.loop c).wpIn F m P Q a w:=by
 intro b kk cs hro hb hr
 have key : ∀ j a w, I j a w ->
     ∃e a' w',Q e a' w'/\ArrivesIn (Machine.fenced P F) P (lone (b.atR a (.code c:: .inLoop c::kk)) cs w) b kk cs e a' w':=by
  intro j
  induction j using Nat.strongRecOn with
  |_ j ih=>
   intro a w hI;obtain⟨e,a₁,w₁,hq,harr⟩:=round j a w hI b (.inLoop c::kk) cs hro hb hr
   cases e with
   |normal=>
    obtain⟨k',hlt,hI₁⟩:=hq;obtain⟨e₂,a₂,w₂,hq₂,harr₂⟩:=ih k' hlt a₁ w₁ hI₁;exact⟨e₂,a₂,w₂,hq₂, .of_steps (StepsIn.trans harr (.one (fenced_calm hb hr rfl) stepR_inLoop)) harr₂⟩
   |exit id=>exact⟨_,a₁,w₁,hq, .pass (x:= .inLoop c) rfl (fun _ _=> .inl aY) harr⟩
   |goto l=>exact⟨_,a₁,w₁,hq, .pass (x:= .inLoop c) rfl (fun _ _=> .inl aY) harr⟩
   |ret=>exact⟨_,a₁,w₁,hq, .pass (x:= .inLoop c) rfl (fun _ _=> .inl aY) harr⟩
   |panic ch=>exact⟨_,a₁,w₁,hq, .pass (x:= .inLoop c) rfl (fun _ _=> .inl aY) harr⟩
   |outgrown=>exact⟨_,a₁,w₁,hq, .pass (x:= .inLoop c) rfl (fun _ _=> .inl aY) harr⟩
 obtain⟨e,a',w',hq,harr⟩:=key k a w h₀;exact⟨e,a',w',hq, .of_steps (.one (fenced_calm hb hr rfl) stepR_loop) harr⟩
theorem oX{e':Exit}(h:exM .norm e'):e'= .normal:=by cases e'<;>simp[exM]at h⊢
theorem nE{h1:H}{e:Ex}{F:Fence}{c:Code}{tm1:Tm}{ds1:List Nat}{K:Act->World->Prop}{Q:Exit->Act->World->Prop}(hw:c.wpIn F 0 P (gT P A ρ w h n e tm1 ds1 h1) a w)
  (hk:e= .norm->∀ρ1 w1 a1,bR P A ρ w h ρ1 w1 h1->Fr P (Ext A h h1) ρ1 w1 n ds1 tm1 a1->K a1 w1) (hq:e≠ .norm->∀e' a1 w1,gT P A ρ w h n e tm1 ds1 h1 e' a1 w1->Q e' a1 w1):c.wpIn F 0 P (Exit.then K Q) a w:=by
 refine wpIn_mono hw fun e' a1 w1 hp=>?_
 cases e with
 |norm=>
  obtain⟨h1,ρ1,hp,hf⟩:=hp;rw[oX h1];exact hk rfl ρ1 w1 a1 hp hf
 |ret=>
  have hp':=hp;obtain⟨h1,_⟩:=hp;cases e'<;>simp[exM]at h1;exact hq aY _ _ _ hp'
 |exit i=>
  have hp':=hp;obtain⟨h1,_⟩:=hp;cases e'<;>simp[exM]at h1;exact hq aY _ _ _ hp'
theorem J2{N:Nat}(hR:∀m,m<=N->jB P (run E m))(hC:∀m,m<=N->lW P (run E m))(hD:∀m,m<=N->zo P (run E m))(hrng:∀f ps x y cc tm ds rd h e tm' ds' h',run E (N+1) (.code cc tm ds rd h)=some (.code e tm' ds' h')->Wf h->∀n A ρ w a,comp P n (.rangeFunc f ps x y)=some cc->n<1000000->Rel P A ρ w h->Dj A h h'->Fr P A ρ w n ds tm a->(∀l,rd=some l->A l)->(Code.rangeFunc f ps x y).wpIn (fc rd ρ) 0 P (gT P A ρ w h n e tm' ds' h') a w):lW P (run E (N+1)):=by
 intro cc tm ds rd h e tm' ds' h' ee fh n c A ρ w a hcc hn t hd hf hrd;have hFC:=H7 rd ρ;have gd:=fun m=>nJ E m
 cases c with
 |skip=>
  simp only[comp,ah]at hcc;subst hcc;simp only[run,body,ah,Out.code.injEq]at ee;obtain⟨rfl,rfl,rfl,rfl⟩:=ee;exact wpIn_skip ⟨trivial,ρ,bR.refl t,hf.ext⟩
 |label l=>
  simp only[comp,ah]at hcc;subst hcc;simp only[run,body,ah,Out.code.injEq]at ee;obtain⟨rfl,rfl,rfl,rfl⟩:=ee;exact wpIn_label ⟨trivial,ρ,bR.refl t,hf.ext⟩
 |ret=>
  simp only[comp,ah]at hcc;subst hcc;simp only[run,body,ah,Out.code.injEq]at ee;obtain⟨rfl,rfl,rfl,rfl⟩:=ee;exact wpIn_ret ⟨trivial,ρ,bR.refl t,hf.ext⟩
 |exit id=>
  simp only[comp,ah]at hcc;subst hcc;simp only[run,body,ah,Out.code.injEq]at ee;obtain⟨rfl,rfl,rfl,rfl⟩:=ee;exact wpIn_exit ⟨rfl,ρ,bR.refl t,hf.ext⟩
 |goto l=>simp[comp]at hcc
 |scope x=>simp[comp]at hcc
 |refuse s=>simp[comp]at hcc
 |seq x y=>
  simp only[comp]at hcc;obtain⟨cx,e1,hcc⟩:=au hcc;obtain⟨cy,e2,rfl⟩:=an hcc;simp only[run,body]at ee;split at ee
  ·next tm1 ds1 h1 e3=>
   have g1:=(gd N).2 _ _ _ _ _ _ _ _ _ e3 fh;have g2:=(gd N).2 _ _ _ _ _ _ _ _ _ ee g1.wf;refine wpIn_seq (nE (hC N (af _) _ _ _ _ _ _ _ _ _ e3 fh n x A ρ w a e1 hn t (hd.left g2.good.next) hf hrd) (fun _ ρ1 w1 a1 hp hf1=>?_) (fun he=>absurd rfl he));have hfc:fc rd ρ1=fc rd ρ:=H5 fun l hl=>(hp.mo (hd.left g2.good.next)).eq l (hrd l hl);rw[<-hfc];exact wpIn_mono (hC N (af _) _ _ _ _ _ _ _ _ _ ee g1.wf n y _ ρ1 w1 a1 e2 hn hp.rel (hd.right g1.good.next) hf1 (fun l hl=>.inl (hrd l hl))) fun e' a' w' q=>uw hp g1 g2 q
  ·next hne=>
   refine wpIn_seq (nE (hC N (af _) _ _ _ _ _ _ _ _ _ ee fh n x A ρ w a e1 hn t hd hf hrd) (fun he=>?_) (fun _ e' a1 w1 q=>q));subst he;exact absurd ee (hne _ _ _)
 |cond x y z=>
  simp only[comp]at hcc;obtain⟨cx,e1,hcc⟩:=au hcc;obtain⟨cy,e2,rfl⟩:=an hcc;have hx:=hf.tr.op x;unfold OpV at hx;simp only[run,body]at ee;split at ee
  ·next e3=>
   rw[e3]at hx;exact wpIn_cond_true hx.bool (hC N (af _) _ _ _ _ _ _ _ _ _ ee fh n y A ρ w a e1 hn t hd hf hrd)
  ·next e3=>
   rw[e3]at hx;exact wpIn_cond_false hx.bool (hC N (af _) _ _ _ _ _ _ _ _ _ ee fh n z A ρ w a e2 hn t hd hf hrd)
  ·cases ee
 |block id x=>
  simp only[comp]at hcc;obtain⟨cx,e1,rfl⟩:=an hcc;simp only[run,body]at ee;refine wpIn_block ?_;split at ee
  ·next i tm1 ds1 h1 e3=>
   split at ee
   ·next hi=>
    have hi':=cn hi;simp only[ah,Out.code.injEq]at ee;obtain⟨rfl,rfl,rfl,rfl⟩:=ee;refine wpIn_mono (hC N (af _) _ _ _ _ _ _ _ _ _ e3 fh n x A ρ w a e1 hn t hd hf hrd) fun e' a' w' q=>?_;obtain⟨q1,q2⟩:=q;cases e'<;>simp[exM]at q1;subst q1;simp only[Exit.inBlock,hi',if_true];exact⟨trivial,q2⟩
   ·next hi=>
    have hi':=pH hi;simp only[ah,Out.code.injEq]at ee;obtain⟨rfl,rfl,rfl,rfl⟩:=ee;refine wpIn_mono (hC N (af _) _ _ _ _ _ _ _ _ _ e3 fh n x A ρ w a e1 hn t hd hf hrd) fun e' a' w' q=>?_;obtain⟨q1,q2⟩:=q;cases e'<;>simp[exM]at q1;subst q1;simp only[Exit.inBlock,hi',if_false];exact⟨rfl,q2⟩
  ·next hne=>
   refine wpIn_mono (hC N (af _) _ _ _ _ _ _ _ _ _ ee fh n x A ρ w a e1 hn t hd hf hrd) fun e' a' w' q=>?_
   cases e with
   |norm=>have:=oX q.1;subst this;exact q
   |ret=>
    have q1:=q.1;cases e'<;>simp[exM]at q1;exact q
   |exit i=>exact absurd ee (hne _ _ _ _)
 |loop x=>
  simp only[comp]at hcc;obtain⟨cx,e1,rfl⟩:=an hcc;refine zw (fun k a1 w1=>k<=N+1/\∃tm1 ds1 h1 ρ1,run E k (.code (.loop cx) tm1 ds1 rd h1)=some (.code e tm' ds' h')/\Gd h h1/\bR P A ρ w h ρ1 w1 h1/\Fr P (Ext A h h1) ρ1 w1 n ds1 tm1 a1) (k:=N+1) ⟨af _,tm,ds,h,ρ,ee,Gd.refl fh,bR.refl t,hf.ext⟩ ?_;rintro k a1 w1 ⟨hk,tm1,ds1,h1,ρ1,er,g1,p1,f1⟩
  cases k with
  |zero=>simp[run]at er
  |succ k=>
   have hkN:k<=N:=by omega
   have gEnd:=(gd (k+1)).2 _ _ _ _ _ _ _ _ _ er g1.wf;have hd1:=hd.right g1.good.next
   have hfc:fc rd ρ1=fc rd ρ:=H5 fun l hl=>(p1.mo (hd.left gEnd.good.next)).eq l (hrd l hl);simp only[run,body]at er;rw[<-hfc];split at er
   ·next tm2 ds2 h2 e3=>
    have g2:=(gd k).2 _ _ _ _ _ _ _ _ _ e3 g1.wf;have g3:=(gd k).2 _ _ _ _ _ _ _ _ _ er g2.wf;refine nE (hC k hkN _ _ _ _ _ _ _ _ _ e3 g1.wf n x _ ρ1 w1 a1 e1 hn p1.rel (hd1.left g3.good.next) f1 (fun l hl=>.inl (hrd l hl))) (fun _ ρ2 w2 a2 hp hf2=>⟨k,by omega,by omega,tm2,ds2,h2,ρ2,er,g1.trans g2,p1.trans g1.good hp g2.good,hf2.mo (Mo.ext g1.good.next g2.good.next _) (Lt.refl _)⟩) (fun he=>absurd rfl he)
   ·next hne=>
    have g2:=(gd k).2 _ _ _ _ _ _ _ _ _ er g1.wf;refine nE (hC k hkN _ _ _ _ _ _ _ _ _ er g1.wf n x _ ρ1 w1 a1 e1 hn p1.rel hd1 f1 (fun l hl=>.inl (hrd l hl))) (fun he=>?_) (fun _ e' a2 w2 q=>uw p1 g1 g2 q);subst he;exact absurd er (hne _ _ _)
 |region id ops draw=>
  simp only[comp]at hcc;obtain⟨r,e1,rfl⟩:=an hcc;simp only[run,body]at ee;split at ee
  ·next tm1 h1 e2=>
   simp only[ah,Out.code.injEq]at ee;obtain⟨rfl,rfl,rfl,rfl⟩:=ee
   cases draw with
   |true=>exact hD N (af _) (fc rd ρ) hFC _ ops id n hn r e1 tm h tm1 h1 e2 fh A ρ w a ds t hd hf (fun ρ' w' a' hp hf'=>⟨trivial,ρ',hp,hf'⟩)
   |false=>
    refine wpIn_region ?_;rw[List.range_eq_range'];have:=oF (hR N (af _)) (gd N).1 hFC (Q:=gT P A ρ w h n .norm tm1 ds h1) (ops:=ops) hn ops.toList 0 [] _ r (fun i o hi=>by rw[bG];simpa using hi) e1 tm h tm1 h1 A ρ w a e2 fh t hd hf (fun ρ' w' a' hp hf'=>⟨trivial,ρ',hp,hf'⟩);simpa using this
  ·cases ee
 |rangeFunc f ps x y=>exact hrng f ps x y cc tm ds rd h e tm' ds' h' ee fh n A ρ w a hcc hn t hd hf hrd
end CI
end
section
open Go.RowKit
namespace CI
variable {P : Program} {A A' : Nat->Prop} {ρ ρ' : Nat->Nat} {w w' : World} {tm tm' : Tm} {a : Act} {c : C} {h h' h'' : H} {rec : Rec} {E : Env} {n : Nat} {ds ds' : List Nat}
theorem nd(w:World)(o:Obj):Below w.heap.size w (w.alloc o):=(Below.refl _ _).alloc (af _) _
theorem tU{r:Nat}{o:Obj}(h:w.heap[r]?=some o)(ho:∀c e f,o≠ .cells c e f):NW w r:=fun m e=>by
 unfold World.cell? at e;rw[h]at e;cases o<;>simp at e;exact absurd rfl (ho _ _ _)
theorem mB{r:Nat}{o:Obj}(h:w.heap[r]?=some o)(ho:∀c e f,o≠ .cells c e f):w.shape? r=none:=by
 unfold World.shape?;rw[h];cases o<;>first|rfl|exact absurd rfl (ho _ _ _)
theorem oH{k:Nat}{b b0:B}{o o':Obj}(t:Rel P A ρ w h)(hb:h.get k=some b0)(ho:w.heap[ρ k]?=some o)(hoc:∀c e f,o≠ .cells c e f)(hB:BR P A ρ (w.putObj (ρ k) o') (ρ k) b):bR P A ρ w h ρ (w.putObj (ρ k) o') (h.set k (some b)):=by
 refine yd t (aR hb) ⟨rfl,rfl,rfl,by simp,fun j _ hj=>World.putObj_heap_other hj⟩ (tU ho hoc) (fun s hs=>?_) hB;rw[mB ho hoc]at hs;cases hs
theorem FA{N:Nat}(hR:jB P (run E N)):∀f ps x y cc tm ds rd h e tm' ds' h',run E (N+1) (.code cc tm ds rd h)=some (.code e tm' ds' h')->Wf h->∀n A ρ w a,comp P n (.rangeFunc f ps x y)=some cc->n<1000000->Rel P A ρ w h->Dj A h h'->Fr P A ρ w n ds tm a->(∀l,rd=some l->A l)->(Code.rangeFunc f ps x y).wpIn (fc rd ρ) 0 P (gT P A ρ w h n e tm' ds' h') a w:=by
 intro f ps x y cc tm ds rd h e tm' ds' h' ee fh n A ρ w a hcc hn t hd hf hrd;have hFC:=H7 rd ρ;simp only[comp]at hcc;split at hcc
 ·cases hcc
 next hall=>
 obtain⟨ca,c1,hcc⟩:=au hcc;obtain⟨cb,c2,rfl⟩:=an hcc;have hps:∀u∈ps.toList,u<n:=fun u hu=>by
  have:=eT.1 hall u hu;simpa[aV]using this
 simp only[run,body]at ee;split at ee
 case h_2=>cases ee
 next d ds1 h1 e1=>
 split at ee
 case h_2=>cases ee
 next h2 e2=>
 split at ee
 case h_2=>cases ee
 next c3 h3 e3=>
 split at e3
 case h_2=>cases e3
 next g caps ef=>
 split at ee
 ·cases ee
 case h_3=>cases ee
 next st p tm2 ps2 a2 b2 d2 hst hb3=>
 simp only[ah,Out.code.injEq]at ee;obtain⟨rfl,rfl,rfl,rfl⟩:=ee;have g1:Gd h h1:=by
  split at e1
  ·split at e1
   ·simp only[ah,aD]at e1;obtain⟨_,_,rfl⟩:=e1;exact Gd.refl fh
   ·cases e1
  ·obtain⟨hx,ex,e3x⟩:=an e1;simp only[aD]at e3x;obtain⟨_,_,rfl⟩:=e3x;exact ju fh ex
 have g2:=ju g1.wf e2;have g3:=(nJ E N).1 _ _ _ _ _ e3 g2.wf;have g4:=fW (b:=some (B.loop .qd p tm2 ps2 a2 b2 d2)) g3.wf (aR hb3);have hd1:Dj A h h1:=hd.left (aX g2.good.next (aX g3.good.next g4.good.next));have hd2:Dj (Ext A h h1) h1 h2:=(hd.right g1.good.next).left (aX g3.good.next g4.good.next);have hd3:Dj (Ext (Ext A h h1) h1 h2) h2 h3:=((hd.right g1.good.next).right g2.good.next).left g4.good.next
 have key:∃ρ1 w1 mark,bR P A ρ w h ρ1 w1 h1/\Ext A h h1 d/\(∀fn,(Instr.enterLoop fn a.tmps ps x y (fc rd ρ).round).run P w= .ok (w1.heap.size,mark) (w1.alloc (.loop ⟨.ready,none,fn,a.tmps,ps,x,y,ρ1 d⟩)))/\mark++a.defers=ds1.map (qw ρ1)/\∀k∈ds1,Ext A h h1 k:=by
  cases rd with
  |none=>
   obtain⟨h1',k1,k2⟩:=an e1;simp only[aD]at k2;obtain⟨rfl,rfl,rfl⟩:=k2;have hB:∀A' ρ',Mo A A' ρ ρ'->ρ' h.next=w.heap.size->A' h.next->BR P A' ρ' (w.alloc (.deferred (some []))) w.heap.size (.defd true):=fun A' ρ' _ _ _=>heap_alloc_new w _
   have hp:=jK t k1 hd1 (nd w (.deferred (some []))) (af _) aY hB;have hnx:Ext A h h1' h.next:=.inr ⟨af _,by have:=(cG k1).1;omega⟩
   have hat:at' ρ h.next w.heap.size h.next=w.heap.size:=by unfold at';rw[aj rfl]
   refine⟨_,w.alloc (.deferred (some [])),[{target:=.collected w.heap.size,args:=#[]}],hp,hnx,fun fn=>?_,?_,fun k hk=>?_⟩
   ·have:=run_enterLoop_outer (P:=P) (w:=w) fn a.tmps ps x y;rw[hat];show(Instr.enterLoop fn a.tmps ps x y none).run P w=_;rw[this];simp
   ·rw[dw,hf.df];simp only[List.singleton_append,qw,hat,List.cons.injEq,true_and];exact xF fun k hk=>by unfold qw;rw[(hp.mo hd1).eq k (hf.nm k hk)]
   ·rcases bs.1 hk with rfl|hk
    ·exact hnx
    ·exact .inl (hf.nm k hk)
  |some l=>
   simp only at e1;split at e1
   ·next st' p' tmx psx ax bx dx hbl=>
    simp only[ah,aD]at e1;obtain⟨rfl,rfl,rfl⟩:=e1;obtain⟨_,_,_,hA,fn',tmps',a',b',hh,_⟩:=t.blk l _ hbl;refine⟨ρ,w,[],bR.refl t,.inl hA,fun fn=>?_,by rw[fV,hf.df],fun k hk=>.inl (hf.nm k hk)⟩;show(Instr.enterLoop fn a.tmps ps x y (some (ρ l))).run P w=_;unfold Instr.enterLoop;simp only[Sem.run_bind,run_getLoop hh,Result.andThen_ok,run_newObj_alloc,Sem.run_pure]
   ·cases e1
 obtain⟨ρ1,w1,mark,p1,hAd,henter,hmark,hds1⟩:=key;have hf1:=hf.mo (p1.mo hd1) p1.lt;refine wpIn_rangeFunc fun fn _=>?_;have hB:∀A' ρ',Mo (Ext A h h1) A' ρ1 ρ'->ρ' h1.next=w1.heap.size->A' h1.next->BR P A' ρ' (w1.alloc (.loop ⟨.ready,none,fn,a.tmps,ps,x,y,ρ1 d⟩)) w1.heap.size (.loop .ready .norm tm ps.toList ca cb d):=fun A' ρ' m _ _=>
  ⟨m.sub d hAd,fn,a.tmps,x,y,by rw[m.eq d hAd];exact heap_alloc_new w1 _,hf1.tr.mo m (Lt.below (nd w1 _)),by rw[hf.sz];exact c1,by rw[hf.sz];exact c2,by rw[hf.sz];exact hn,fun u hu=>by rw[hf.sz];exact hps u hu⟩
 have p2:=jK p1.rel e2 hd2 (nd w1 (.loop ⟨.ready,none,fn,a.tmps,ps,x,y,ρ1 d⟩)) (af _) aY hB;have hL:at' ρ1 h1.next w1.heap.size h1.next=w1.heap.size:=by unfold at';rw[aj rfl]
 have hAL:Ext (Ext A h h1) h1 h2 h1.next:=.inr ⟨af _,by have:=(cG e2).1;omega⟩
 have hfv:=hf.tr.op f;unfold OpV at hfv;rw[ef]at hfv;have hfv2:=VR.mo (p2.mo hd2) p2.lt _ _ (VR.mo (p1.mo hd1) p1.lt _ _ hfv);have hcall:=hR _ _ _ _ _ e3 g2.wf _ _ _ _ #[.func (.yield w1.heap.size) #[] #[]] p2.rel hd3 hfv2 (by
  simp only[VRl,VR];exact⟨_,[],rfl,⟨hAL,by rw[hL]⟩,rfl⟩)
 obtain⟨dd,hdd,hk⟩:=hcall;have hk':∃f' args',(invoke dd.target dd.args).run P (w1.alloc (.loop ⟨.ready,none,fn,a.tmps,ps,x,y,ρ1 d⟩))= .ok (.enter f' args') (w1.alloc (.loop ⟨.ready,none,fn,a.tmps,ps,x,y,ρ1 d⟩))/\CallsIn Fence.wide 0 P f' args' (w1.alloc (.loop ⟨.ready,none,fn,a.tmps,ps,x,y,ρ1 d⟩)) (fO P (Ext (Ext A h h1) h1 h2) (at' ρ1 h1.next w1.heap.size) (w1.alloc (.loop ⟨.ready,none,fn,a.tmps,ps,x,y,ρ1 d⟩)) h2 c3 h3):=by
  rcases hk with⟨f',args',q1,q2⟩|⟨l,g',tmps,s,b,q0,_⟩
  ·exact⟨f',args',q1,q2⟩
  ·simp only[VR]at hfv;obtain⟨us,e5,_⟩:=hfv;rw[e5]at q0;cases q0
 obtain⟨f',args',q1,q2⟩:=hk';refine⟨w1.heap.size,mark,_,dd,_,f',args',_,henter fn,?_,fun _ _=>hFC.fn _,q1,hFC.depth,(hFC.calls q2).mono fun e5 w3 hpost=>?_⟩
 ·simp only[resolve,og,dw,gy];exact hdd
 obtain⟨u,ρ3,rfl,p3,_⟩:=hpost;have hr3:ρ3 h1.next=w1.heap.size:=by rw[p3.rho h1.next (.inl (by have:=(cG e2).1;omega)),hL]
 obtain⟨_,_,_,hAd2,fn',tmps',x',y',hh,hTR,hrest⟩:=p3.rel.blk h1.next _ hb3
 have hnb:uV st≠ .busy:=fun e=>by
  cases st<;>simp[uV]at e;exact hst rfl
 have hend:=run_endLoop (P:=P) hh hnb;refine⟨mZ p,_,by rw[<-hr3];exact hend,?_⟩;have hlt4:Lt w3 (w3.putObj (ρ3 h1.next) (.loop ⟨.exhausted,mZ p,fn',tmps',ps2.toArray,x',y',ρ3 d2⟩)):=Lt.chg (g:=ρ3 h1.next) ⟨rfl,rfl,rfl,by simp,fun j _ hj=>World.putObj_heap_other hj⟩ (tU hh aY) (fun s hs=>by rw[mB hh aY]at hs;cases hs);have hpo:=oH (o':=.loop ⟨.exhausted,mZ p,fn',tmps',ps2.toArray,x',y',ρ3 d2⟩) (b:=.loop .qd p tm2 ps2 a2 b2 d2) p3.rel hb3 hh aY ⟨hAd2,fn',tmps',x',y',World.putObj_heap_same (gi.1 hh).1,hTR.mo (Mo.refl _ _) hlt4,hrest⟩;have pAll:=p1.trans g1.good (p2.trans g2.good (p3.trans g3.good hpo g4.good) (g3.good.trans g4.good)) (g2.good.trans (g3.good.trans g4.good));have pT:=p2.trans g2.good (p3.trans g3.good hpo g4.good) (g3.good.trans g4.good);have hdT:Dj (Ext A h h1) h1 (h3.set h1.next (some (.loop .qd p tm2 ps2 a2 b2 d2))):=hd.right g1.good.next
 have hfE:Fr P (Ext A h (h3.set h1.next (some (.loop .qd p tm2 ps2 a2 b2 d2)))) ρ3 (w3.putObj (ρ3 h1.next) (.loop ⟨.exhausted,mZ p,fn',tmps',ps2.toArray,x',y',ρ3 d2⟩)) n ds1 tm {a with defers:=mark++a.defers}:=by
  have hmo:Mo (Ext A h h1) (Ext A h (h3.set h1.next (some (.loop .qd p tm2 ps2 a2 b2 d2)))) ρ1 ρ3:=⟨fun k hk=>(Ext.trans g1.good.next (aX g2.good.next (aX g3.good.next g4.good.next)) k).1 ((pT.mo hdT).sub k hk),(pT.mo hdT).eq⟩;refine Fr.mo hmo pT.lt ⟨hf1.tr,hf.sz,hds1,hmark⟩
 cases p with
 |norm=>exact⟨trivial,ρ3,pAll,hfE⟩
 |ret=>exact wpIn_ret ⟨trivial,ρ3,pAll,hfE⟩
 |exit id=>exact wpIn_exit ⟨rfl,ρ3,pAll,hfE⟩
end CI
end
section
open Go.RowKit
namespace CI
variable {P : Program} {A A' : Nat->Prop} {ρ ρ' : Nat->Nat} {w w' : World} {tm tm' : Tm} {a : Act} {c : C} {h h' h'' : H} {rec : Rec} {E : Env} {n : Nat} {ds ds' : List Nat}
theorem ev_e(u:Nat):CO.ev (T.e:Tm) (CO.t u)= .any:=by simp[CO.ev,T.uh]
theorem uj:∀(l:List C) (k:Nat) (tm:Tm) (u:Nat),k+l.length<=1000000->CO.ev (setArgs 24 k l tm) (CO.t u)=if k<=u/\u<k+l.length then(l[u-k]?).getD .any else CO.ev tm (CO.t u)
 |[],k,tm,u,_=>by
  simp only[setArgs,fQ,cf];rw[ai aa]
 |c::l,k,tm,u,hk=>by
  simp only[setArgs,eV]at hk⊢;rw[uj l (k+1) _ u aa,uk aa];by_cases h1:k+1<=u/\u<k+1+l.length
  ·rw[aj h1,aj aa,show u-k=(u-(k+1))+1 by omega,List.getElem?_cons_succ]
  ·rw[ai h1];by_cases h2:u=k
   ·subst h2;rw[aj rfl,aj aa,ly];rfl
   ·rw[ai h2,ai aa]
theorem VRl.len:∀{l:List C} {vs:List Value},VRl P A ρ w l vs->vs.length=l.length
 |[],_,h=>by simp only[VRl]at h;subst h;rfl
 |d::l,vs,h=>by
  simp only[VRl]at h;obtain⟨u,rest,rfl,_,h3⟩:=h;simp[VRl.len h3]
theorem VRl.app{l2:List C}{ys:List Value}(k:VRl P A ρ w l2 ys):∀{l:List C} {xs:List Value},VRl P A ρ w l xs->VRl P A ρ w (l++l2) (xs++ys)
 |[],_,h=>by simp only[VRl]at h;subst h;exact k
 |d::l,xs,h=>by
  simp only[VRl]at h;obtain⟨u,rest,rfl,h2,h3⟩:=h;simp only[qM,VRl];exact⟨u,rest++ys,rfl,h2,VRl.app k h3⟩
theorem Kh{l:List C}{vs:Array Value}(hv:VRl P A ρ w l vs.toList)(hl:l.length<=n)(hn:n<1000000):Fr P A ρ w n [] (setArgs 24 0 l .e) {tmps:=vs++Array.replicate (n-vs.size) undef,defers:=[]}:=by
 have hlen:vs.size=l.length:=by rw[<-hv.len,bJ]
 refine⟨fun u=>?_,fD,(fun k hk=>by cases hk),rfl⟩;rw[uj l 0 .e u aa];split
 ·next hu=>
  simp only[bG]at hu;obtain⟨u',k1,k2⟩:=VRl.at hv (aS (show u-0<l.length by omega));rw[iw]at k1⊢;have e:(vs++Array.replicate (n-vs.size) undef).getD u undef=u':=by
   rw[cg,ot aa,<-cQ,k1];rfl
  rw[e,aS aa];simpa using k2
 ·rw[ev_e];simp only[VR]
def wS(tmps:Array Value)(r:ResultVar):Sem Value:=
 match r with
 | .tmp t=>pure (tmps.getD t undef)
 | .cell a t=>do loadVar t (<-asAddr (tmps.getD a undef))
theorem BS(fn:Func)(tmps:Array Value):Go.results fn tmps=(do
 let vs<-fn.results.mapM (wS tmps)
 pure (if h:vs.size=1 then vs[0]else .tuple vs)):=rfl
theorem zx{fn:Func}{rvs:List RV}{rs:List C}(hr:oD P fn.results.toList=some rvs)(he:results tm h rvs=some rs)(t:Rel P A ρ w h){tmps:Array Value}(hf:TR P A ρ w tm tmps):∃v,(Go.results fn tmps).run P w= .ok v w/\VR P A ρ w (mT rs) v:=by
 have key:∀(l:List ResultVar) (rvs:List RV) (rs:List C),oD P l=some rvs->results tm h rvs=some rs->∃vs,(l.mapM (m:=Sem) (wS tmps)).run P w= .ok vs w/\VRl P A ρ w rs vs:=by
  intro l
  induction l with
  |nil=>
   intro rvs rs h1 h2;simp only[oD,ah]at h1;subst h1;simp only[results,ah]at h2;subst h2;exact⟨[],by simp,by simp only[VRl]⟩
  |cons r l ih=>
   intro rvs rs h1 h2;simp only[oD]at h1;obtain⟨rv,e1,h1⟩:=au h1;obtain⟨rvs',e2,rfl⟩:=an h1
   cases r with
   |tmp u=>
    simp only[rvOf,ah]at e1;subst e1;simp only[results]at h2;obtain⟨rs',e3,rfl⟩:=an h2;obtain⟨vs,k1,k2⟩:=ih _ _ e2 e3;refine⟨tmps.getD u undef::vs,by rw[List.mapM_cons];simp only[wS,Sem.run_bind,Sem.run_pure,Result.andThen_ok,k1],?_⟩;simp only[VRl];exact⟨_,vs,rfl,hf u,k2⟩
   |cell u ty=>
    simp only[rvOf]at e1;obtain⟨s,e4,e1⟩:=au e1;obtain⟨r',e5,rfl⟩:=an e1;simp only[results]at h2;obtain⟨c,e6,h2⟩:=au h2;obtain⟨rs',e3,rfl⟩:=an h2;obtain⟨vs,k1,k2⟩:=ih _ _ e2 e3;have hu:=hf u;unfold kM at e6;split at e6
    ·next k off e7=>
     rw[e7]at hu;simp only[VR]at hu;split at e6
     ·next T l hb=>
      obtain⟨p,e8,e9⟩:=au e6;obtain⟨v,k3,k4⟩:=ue t hb e8 e9 e5 e4;refine⟨v::vs,?_,?_⟩
      ·have ha:(asAddr (tmps.getD u undef)).run P w= .ok ⟨ρ k,off,none⟩ w:=by rw[hu.2];rfl
       have hrv:(wS tmps (.cell u ty)).run P w= .ok v w:=by
        show(asAddr (tmps.getD u undef)>>=loadVar ty).run P w=_;rw[Sem.run_bind,ha,Result.andThen_ok,k3]
       rw[List.mapM_cons];simp only[Sem.run_bind,Sem.run_pure,Result.andThen_ok,hrv,k1]
      ·simp only[VRl];exact⟨v,vs,rfl,k4,k2⟩
     ·cases e6
    ·cases e6
 obtain⟨vs,k1,k2⟩:=key _ _ _ hr he;have hrun:(Go.results fn tmps).run P w= .ok (if h:vs.toArray.size=1 then vs.toArray[0]else .tuple vs.toArray) w:=by
  rw[BS,Array.mapM_eq_mapM_toList];simp only[Sem.run_bind,map_eq_pure_bind,k1,Result.andThen_ok,Sem.run_pure]
 refine⟨_,hrun,?_⟩
 match rs,vs,k2 with
 |[],vs,k2=>
  simp only[VRl]at k2;subst k2;simp only[mT,VR];exact⟨#[],by simp,by simp only[VRl]⟩
 |[c],vs,k2=>
  simp only[VRl]at k2;obtain⟨u,_,rfl,k3,rfl⟩:=k2;simpa[mT]using k3
 |c1::c2::rs,vs,k2=>
  have hl:=k2.len;simp only[mT,VR];refine⟨vs.toArray,?_,by simpa using k2⟩;rw[dif_neg (by simp at hl⊢;omega)]
theorem zd{F:Fence}{fn:Func}{tmps:Array Value}{R:Ending->World->Prop}:∀(ds:List Nat) (w:World) (h h':H),fe ds h=some h'->Wf h->Rel P A ρ w h->(∀w',bR P A ρ w h ρ w' h'->∃v,(Go.results fn tmps).run P w'= .ok v w'/\R (.returned v) w')->LeavesInM F 0 P fn tmps R (ds.map (qw ρ)) .returning w
 |[],w,h,h',e,_,t,hk=>by
  simp only[fe,ah]at e;subst e;exact hk w (bR.refl t)
 |k::l,w,h,h',e,fh,t,hk=>by
  simp only[fe]at e;split at e
  ·next hb=>
   obtain⟨_,_,hlt,hB⟩:=t.blk k _ hb;simp only[BR,if_true]at hB;have hpo:=oH (o':=.deferred none) (b:=.defd false) t hb hB aY (by
    show(w.putObj (ρ k) (.deferred none)).heap[ρ k]?=_;rw[World.putObj_heap_same hlt];rfl)
   have g1:=fW (b:=some (.defd false)) fh (aR hb);have g2:=mN _ _ _ e g1.wf;have hrel:Rel P A ρ (w.putObj (ρ k) (.deferred none)) (h.set k (some (.defd false))):=hpo.rel.mo ⟨fun j hj=>hj.resolve_right (fun q=>by
    have:(h.set k (some (B.defd false))).next=h.next:=rfl
    omega),fun _ _=>rfl⟩ (Lt.refl _) (fun _ _=>rfl)
   simp only[dw];unfold LeavesInM;refine⟨by simp,.inl ⟨ρ k,_,rfl,run_takeDeferred hB,zd l _ _ h' e g1.wf hrel fun w2 hp=>hk w2 (hpo.trans g1.good ⟨hp.rho,hp.rel.mo ⟨fun j hj=>hj.imp (fun q=>.inl q) id,fun _ _=>rfl⟩ (Lt.refl _) (fun _ _=>rfl),hp.lt,hp.fr,hp.new⟩ g2.good)⟩⟩
  ·cases e
def uA(P:Program)(E:Env):Prop:=∀g f,E.orc g=some f->∀args r,f args=some r->∀A ρ w vs,VRl P A ρ w args vs.toList->
 Enters P g/\Calls P g vs w (fun e w'=>∃u,e= .returned u/\VR P A ρ w' r u/\Below w.heap.size w w')
theorem yf:∀(ps:List Nat) (args:List C) (tm tm2:Tm) (vs:List Value) (tmps:Array Value),mC ps args tm=some tm2->TR P A ρ w tm tmps->VRl P A ρ w args vs->(∀t∈ps,t<tmps.size)->tmps.size<1000000->
  TR P A ρ w tm2 ((ps.zip vs).foldl (fun (tmps:Array Value) (p:Nat×Value)=>tmps.setIfInBounds p.1 p.2) tmps)/\((ps.zip vs).foldl (fun (tmps:Array Value) (p:Nat×Value)=>tmps.setIfInBounds p.1 p.2) tmps).size=tmps.size/\vs.length=ps.length
 |[],[],tm,tm2,vs,tmps,e,hT,hv,_,_=>by
  simp only[mC,ah]at e;subst e;simp only[VRl]at hv;subst hv;exact⟨hT,rfl,rfl⟩
 |t::ps,c::args,tm,tm2,vs,tmps,e,hT,hv,hp,hs=>by
  simp only[mC]at e;simp only[VRl]at hv;obtain⟨u,rest,rfl,h2,h3⟩:=hv;have ht:=hp t bn;obtain⟨k1,k2,k3⟩:=yf ps args _ tm2 rest (tmps.setIfInBounds t u) e (hT.put ht aa h2) h3 (fun t' ht'=>by simpa using hp t' (bq _ ht')) (by simpa using hs);exact⟨k1,by rw[List.zip_cons_cons,List.foldl_cons,k2];simp,by simp[k3]⟩
 |[],_::_,_,_,_,_,e,_,_,_,_=>by simp[mC]at e
 |_::_,[],_,_,_,_,e,_,_,_,_=>by simp[mC]at e
end CI
end
section
open Go.RowKit
namespace CI
variable {P : Program} {A A' : Nat->Prop} {ρ ρ' : Nat->Nat} {w w' : World} {tm tm' : Tm} {a : Act} {c : C} {h h' h'' : H} {rec : Rec} {E : Env} {n : Nat} {ds ds' : List Nat}
theorem Cq {g : FuncId} {fn : F} (h : mM P g = some fn) : ∃ f c, P.funcs[g]? = some f ∧ f.body = some c ∧ f.ntmps < 1000000 ∧ (f.name == "runtime.NumGoroutine") = false ∧ comp P f.ntmps c = some fn.body ∧ oD P f.results.toList = some fn.res ∧ fn.ntmps = f.ntmps := by
 unfold mM at h;obtain⟨f,e1,h⟩:=au h;obtain⟨c,e2,h⟩:=au h;split at h
 ·next hb=>
  simp only[bV,lp]at hb;obtain⟨cc,e3,h⟩:=au h;obtain⟨r,e4,rfl⟩:=an h;exact⟨f,c,e1,e2,by simpa[aV]using hb.1,hb.2,e3,e4,rfl⟩
 ·cases h
theorem qk{g:FuncId}(hE:Enters P g)(vs us:Array Value)(w:World):∃d,(Deferred.ofValue (.func (.func g) #[] us) vs).run P w= .ok d w/\(invoke d.target d.args).run P w= .ok (.enter g (vs++us)) w:=by
 refine⟨{target:=.fn (.func g) us,args:=#[]++vs},by simp[Deferred.ofValue],?_⟩;have:=hE (vs++us) w;simp[invoke,this]
theorem VR.ext{v:Value}(h:VR P A ρ w c v){h1 h2:H}:VR P (Ext A h1 h2) ρ w c v:=VR.mo ⟨fun _ hk=>.inl hk,fun _ _=>rfl⟩ (Lt.refl _) _ _ h
theorem KW(hO:uA P E){g:FuncId}{o:Orc}{args caps:List C}{r:C}{fv:Value}{vs:Array Value}(he:E.orc g=some o)(hr:o (args++caps)=some r)(t:Rel P A ρ w h)(hv:VR P A ρ w (.fn g caps) fv)(hvs:VRl P A ρ w args vs.toList):uC P fv vs w (fO P A ρ w h r h):=by
 simp only[VR]at hv;obtain⟨us,rfl,hus⟩:=hv;obtain⟨hE,hC⟩:=hO g o he _ r hr A ρ w (vs++us) (by rw[Array.toList_append];exact VRl.app hus hvs);obtain⟨d,e1,e2⟩:=qk hE vs us w;refine⟨d,e1,.inl ⟨g,vs++us,e2,callsIn_wide.2 (hC.mono fun e w' ⟨u,h1,h2,h3⟩=>?_)⟩⟩;have hp:=bR.below t h3;exact⟨u,ρ,h1,hp,h2.ext⟩
theorem fn_ok(hC:lW P rec)(hG:qB rec){g:FuncId}{fn:F}{args caps:List C}{tm1:Tm}{ds1:List Nat}{h1 h2:H}{e:Ex}{rs:List C}{fv:Value}{vs:Array Value}(hf:mM P g=some fn)(hl:(args++caps).length<=fn.ntmps)
  (hr:rec (.code fn.body (setArgs 24 0 (args++caps) .e) [] none h)=some (.code e tm1 ds1 h1)) (hne:∀i,e≠ .exit i) (hcl:fe ds1 h1=some h2) (hrs:results tm1 h2 fn.res=some rs) (fh:Wf h) (t:Rel P A ρ w h) (hd:Dj A h h2) (hv:VR P A ρ w (.fn g caps) fv) (hvs:VRl P A ρ w args vs.toList):uC P fv vs w (fO P A ρ w h (mT rs) h2):=by
 simp only[VR]at hv;obtain⟨us,rfl,hus⟩:=hv;obtain⟨f,c,e1,e2,e3,e4,e5,e6,e7⟩:=Cq hf;obtain⟨d,k1,k2⟩:=qk (enters_of e1 e4 e2) vs us w;have hall:VRl P A ρ w (args++caps) (vs++us).toList:=by rw[Array.toList_append];exact VRl.app hus hvs
 rw[e7]at hl;have hfr:=Kh hall hl e3;have g1:=hG _ _ _ _ _ _ _ _ _ hr fh;have g2:=mN _ _ _ hcl g1.wf;have hw:=hC _ _ _ _ _ _ _ _ _ hr fh f.ntmps c A ρ w _ e5 e3 t (hd.left g2.good.next) hfr (fun l hl=>by cases hl);refine⟨d,k1,.inl ⟨g,vs++us,k2,callsIn_of_wp_marks e1 e2 trivial (wpIn_mono hw fun e' a' w' q=>?_)⟩⟩;obtain⟨q1,ρ1,p1,f1⟩:=q;have hfin:LeavesInM Fence.wide 0 P f a'.tmps (fO P A ρ w h (mT rs) h2) a'.defers .returning w':=by
  rw[f1.df];refine zd ds1 w' h1 h2 hcl g1.wf p1.rel fun w2 p2=>?_;have hd2:Dj (Ext A h h1) h1 h2:=hd.right g1.good.next
  have pAll:=p1.trans g1.good p2 g2.good;obtain⟨v,r1,r2⟩:=zx e6 hrs pAll.rel (fun u=>VR.mo (Mo.ext g1.good.next g2.good.next _) (Lt.refl _) _ _ (VR.mo (p2.mo hd2) p2.lt _ _ (f1.tr u)));exact⟨v,r1,v,ρ1,rfl,pAll,r2⟩
 cases e with
 |norm=>rw[oX q1];exact hfin
 |ret=>
  cases e'<;>simp[exM]at q1;exact hfin
 |exit i=>exact absurd rfl (hne i)
theorem yl_ok(hC:lW P rec)(hG:qB rec){l:Nat}{p0 p1:Ex}{tm0 tm1 tm2 tm3 tm4:Tm}{ps ps1:List Nat}{ca cb a1 b1:CC}{d0 d1:Nat}{args:List C}{h1 h2 h3:H}{e:Ex}{fv:Value}{vs:Array Value}
  (hb0:h.get l=some (.loop .ready p0 tm0 ps ca cb d0)) (hps:mC ps args tm0=some tm1) (hr1:rec (.code ca tm1 [] (some l) h)=some (.code .norm tm2 [] h1)) (hb1:h1.get l=some (.loop .ready p1 tm3 ps1 a1 b1 d1))
  (hr2:rec (.code cb tm2 [] (some l) (h1.set l (some (.loop .busy p1 tm3 ps1 a1 b1 d1))))=some (.code e tm4 [] h2)) (hend:yQ l e h2=some (c,h3)) (fh:Wf h) (t:Rel P A ρ w h) (hd:Dj A h h3) (hv:VR P A ρ w (.yl l) fv) (hvs:VRl P A ρ w args vs.toList):uC P fv vs w (fO P A ρ w h c h3):=by
 simp only[VR]at hv;obtain⟨hA,rfl⟩:=hv;obtain⟨_,_,_,hAd,fn,tmps,x,y,hh,hTR,c1,c2,hsz,hpl⟩:=t.blk l _ hb0;obtain⟨k1,k2,k3⟩:=yf ps args tm0 tm1 vs.toList tmps hps hTR hvs hpl hsz;have g1:=hG _ _ _ _ _ _ _ _ _ hr1 fh;have g2:=fW (b:=some (B.loop .busy p1 tm3 ps1 a1 b1 d1)) g1.wf (aR hb1);have g3:=hG _ _ _ _ _ _ _ _ _ hr2 g2.wf;have g4:=Af hend g3.wf;have hds:Dj (Ext A h h1) h1 h3:=hd.right g1.good.next
 refine⟨{target:=.fn (.yield (ρ l)) #[],args:=#[]++vs},by simp[Deferred.ofValue],.inr ⟨ρ l,fn,(ps.toArray.zip vs).foldl (fun (tmps:Array Value) (x:Tmp×Value)=>tmps.setIfInBounds x.1 x.2) tmps,x,y,rfl,?_,?_⟩⟩
 ·have hy:=run_yield (P:=P) (args:=vs) hh (by simp[<-k3]);simp only[Array.empty_append,invoke];exact hy
 refine roundIn_of_wpIn (F:=Fence.wide) trivial ?_;have hfold:((ps.toArray.zip vs).foldl (fun (tmps:Array Value) (x:Tmp×Value)=>tmps.setIfInBounds x.1 x.2) tmps)=((ps.zip vs.toList).foldl (fun (tmps:Array Value) (p:Nat×Value)=>tmps.setIfInBounds p.1 p.2) tmps):=by
  rw[<-xH,Array.toList_zip]
 have hfr:Fr P A ρ w tmps.size [] tm1 {tmps:=(ps.toArray.zip vs).foldl (fun (tmps:Array Value) (x:Tmp×Value)=>tmps.setIfInBounds x.1 x.2) tmps,defers:=[]}:=
  ⟨by rw[hfold];exact k1,by rw[hfold];exact k2,(fun k hk=>by cases hk),rfl⟩
 have hw1:=hC _ _ _ _ _ _ _ _ _ hr1 fh tmps.size x A ρ w _ c1 hsz t (hd.left (aX g2.good.next (aX g3.good.next g4.good.next))) hfr (fun l' hl=>by cases hl;exact hA);refine nE hw1 (fun _ ρ1 w1 aa1 q1 f1=>?_) (fun he=>absurd rfl he);have hρ1:ρ1 l=ρ l:=q1.rho l (.inl (t.live (aR hb0)).1);obtain⟨_,_,_,hAd1,fn1,tmps1,x1,y1,hh1,hTR1,hrest1⟩:=q1.rel.blk l _ hb1;have hbeg:=run_beginRound (P:=P) hh1 rfl;refine⟨_,by rw[<-hρ1];exact hbeg,?_⟩;have hlt1:Lt w1 (w1.putObj (ρ1 l) (.loop ⟨.busy,mZ p1,fn1,tmps1,ps1.toArray,x1,y1,ρ1 d1⟩)):=Lt.chg (g:=ρ1 l) ⟨rfl,rfl,rfl,by simp,fun j _ hj=>World.putObj_heap_other hj⟩ (tU hh1 aY) (fun s hs=>by rw[mB hh1 aY]at hs;cases hs);have q2:=oH (o':=.loop ⟨.busy,mZ p1,fn1,tmps1,ps1.toArray,x1,y1,ρ1 d1⟩) (b:=.loop .busy p1 tm3 ps1 a1 b1 d1) q1.rel hb1 hh1 aY ⟨hAd1,fn1,tmps1,x1,y1,World.putObj_heap_same (gi.1 hh1).1,hTR1.mo (Mo.refl _ _) hlt1,hrest1⟩;have hd2:Dj (Ext (Ext A h h1) h1 (h1.set l (some (B.loop .busy p1 tm3 ps1 a1 b1 d1)))) (h1.set l (some (B.loop .busy p1 tm3 ps1 a1 b1 d1))) h3:=hds.right g2.good.next
 have f2:=f1.mo (q2.mo (hds.left (aX g3.good.next g4.good.next))) q2.lt;have hw2:=hC _ _ _ _ _ _ _ _ _ hr2 g2.wf tmps.size y _ ρ1 _ _ c2 hsz q2.rel (hd2.left g4.good.next) f2 (fun l' hl=>by cases hl;exact .inl (.inl hA));have hfc:fc (some l) ρ1=Fence.wide.inRound (ρ l):=by simp only[fc,hρ1]
 rw[hfc]at hw2;refine wpIn_mono hw2 fun e' a' w2 q=>?_;obtain⟨q3,ρ3,p3,f3⟩:=q;have hl1:l<h1.next:=(q1.rel.live (aR hb1)).1
 have hρ3:ρ3 l=ρ l:=by rw[p3.rho l (.inl hl1),hρ1]
 have q12:=q1.trans g1.good (q2.trans g2.good p3 g3.good) (g2.good.trans g3.good);have g123:=g1.trans (g2.trans g3);have hd3:Dj (Ext A h h2) h2 h3:=hd.right g123.good.next
 unfold yQ at hend;split at hend
 ·next p5 tm5 ps5 a5 b5 d5 hb5=>
  obtain⟨_,_,_,hAd5,fn5,tmps5,x5,y5,hh5,hTR5,hrest5⟩:=q12.rel.blk l _ hb5;have fin:∀(jump:Option Code) (st:LS) (ex:Ex),mZ ex=jump->uV st=(if jump.isNone then .ready else .done)->h3=h2.set l (some (.loop st ex tm5 ps5 a5 b5 d5))->c= .sc (.bool jump.isNone)->∃v w',(Instr.endRound (ρ l) jump).run P w2= .ok v w'/\fO P A ρ w h c h3 (.returned v) w':=by
   rintro jump st ex hj hs rfl rfl;have hrun:=run_endRound (P:=P) jump hh5;rw[hρ3]at hrun;refine⟨_,_,hrun,.bool jump.isNone,ρ3,rfl,?_,fA rfl⟩;have hlt5:Lt w2 (w2.putObj (ρ3 l) (.loop ⟨uV st,mZ ex,fn5,tmps5,ps5.toArray,x5,y5,ρ3 d5⟩)):=Lt.chg (g:=ρ3 l) ⟨rfl,rfl,rfl,by simp,fun j _ hj=>World.putObj_heap_other hj⟩ (tU hh5 aY) (fun s hs=>by rw[mB hh5 aY]at hs;cases hs);have q5:=oH (o':=.loop ⟨uV st,mZ ex,fn5,tmps5,ps5.toArray,x5,y5,ρ3 d5⟩) (b:=.loop st ex tm5 ps5 a5 b5 d5) q12.rel hb5 hh5 aY ⟨hAd5,fn5,tmps5,x5,y5,World.putObj_heap_same (gi.1 hh5).1,hTR5.mo (Mo.refl _ _) hlt5,hrest5⟩;have:=q12.trans g123.good q5 g4.good;rw[hρ3,hj,hs]at this;exact this
  cases e with
  |norm=>
   simp only[ah,aD]at hend;rw[oX q3];exact fin none .ready .norm rfl rfl hend.2.symm hend.1.symm
  |ret=>
   simp only[ah,aD]at hend;cases e'<;>simp[exM]at q3;exact fin (some .ret) .done .ret rfl rfl hend.2.symm hend.1.symm
  |exit i=>
   simp only[ah,aD]at hend;cases e'<;>simp[exM]at q3;subst q3;exact fin (some (.exit i)) .done (.exit i) rfl rfl hend.2.symm hend.1.symm
 ·cases hend
theorem KP{N:Nat}(hO:uA P E)(hfn:E.fns=mM P)(hC:lW P (run E N)):jB P (run E (N+1)):=by
 intro f args h c h' ee fh A ρ w fv vs t hd hv hvs;have hG:=(nJ E N).2;simp only[run,body]at ee;split at ee
 ·next g caps=>
  split at ee
  ·next o ho=>
   obtain⟨r,e1,e2⟩:=an ee;simp only[Out.val.injEq]at e2;obtain⟨rfl,rfl⟩:=e2;exact KW hO ho e1 t hv hvs
  ·split at ee
   ·next fn hfn'=>
    split at ee
    ·cases ee
    ·next hl=>
     split at ee
     ·next e tm1 ds1 h1 hr=>
      have key:(∀i,e≠ .exit i)/\∃h2 rs,fe ds1 h1=some h2/\results tm1 h2 fn.res=some rs/\c=mT rs/\h'=h2:=by
       split at ee
       ·cases ee
       ·next hne=>
        obtain⟨h2,e1,ee⟩:=au ee;obtain⟨rs,e2,e3⟩:=an ee;simp only[Out.val.injEq]at e3;exact⟨fun i hi=>hne i hi,h2,rs,e1,e2,e3.1.symm,e3.2.symm⟩
      obtain⟨hne,h2,rs,e1,e2,rfl,rfl⟩:=key;rw[hfn]at hfn';exact fn_ok hC hG hfn' (ct hl) hr hne e1 e2 fh t hd hv hvs
     ·cases ee
   ·cases ee
 ·next l=>
  split at ee
  ·next p0 tm0 ps ca cb d0 hb0=>
   split at ee
   ·next tm1 hps=>
    split at ee
    ·next tm2 h1 hr1=>
     split at ee
     ·next p1 tm3 ps1 a1 b1 d1 hb1=>
      split at ee
      ·next e tm4 h2 hr2=>
       obtain⟨⟨c',h3⟩,e1,e2⟩:=an ee;simp only[Out.val.injEq]at e2;obtain⟨rfl,rfl⟩:=e2;exact yl_ok hC hG hb0 hps hr1 hb1 hr2 e1 fh t hd hv hvs
      ·cases ee
     ·cases ee
    ·cases ee
   ·cases ee
  ·cases ee
 ·cases ee
theorem KM(hO:uA P E)(hfn:E.fns=mM P)(hD:∀rec,jB P rec->dn rec->zo P rec):∀N,jB P (run E N)/\lW P (run E N):=fun N=>by
 induction N using Nat.strongRecOn with
 |_ N ih=>
  cases N with
  |zero=>exact⟨fun _ _ _ _ _ e=>by simp[run]at e,fun _ _ _ _ _ _ _ _ _ e=>by simp[run]at e⟩
  |succ N=>
   have hR:∀m,m<=N->jB P (run E m):=fun m hm=>(ih m (Nat.lt_succ_of_le hm)).1;have hC:∀m,m<=N->lW P (run E m):=fun m hm=>(ih m (Nat.lt_succ_of_le hm)).2;exact⟨KP hO hfn (hC N (af _)),J2 hR hC (fun m hm=>hD _ (hR m hm) (nJ E m).1) (FA (hR N (af _)))⟩
end CI
end
section
open Go.RowKit
namespace CI
variable {P : Program} {h h' : H} {tm tm' : Tm} {rec : Rec} {n : Nat}
structure SD where
 tm:Tm
 h:H
 iv:List (Nat×Nat×Nat)
 rw:List (Nat×Bool×Ft)
 v:C
 wr:Bool
 rd:Bool
 fr:Ft
def kN(rec:Rec)(j:Nat)(o:RO)(s:SD):Option SD:=
 match eW o s.tm with
 |some false=>some ⟨gj s.tm o.dst .any,s.h,s.iv,s.rw,.any,false,false,none⟩
 |some true=>match o.x.isT with
  |true=>(xT o.x s.tm s.h.next).bind fun p=>(s.h.iq p.2).map fun h1=>⟨gj s.tm o.dst p.1,h1,(match p.2 with|none=>s.iv|some _=>(j,s.h.next,h1.next)::s.iv),s.rw,p.1,false,false,none⟩
  |false=>(xR rec o.x s.tm (s.h.part o.pre s.iv (xFt o.x s.tm))).bind fun p=>match kf o.pre (Nat.blt p.2.low s.h.next) (xFt o.x s.tm) s.rw with
   |true=>none
   |false=>some ⟨gj s.tm o.dst p.1,s.h.whole p.2,(match Nat.blt s.h.next p.2.next with|true=>(j,s.h.next,p.2.next)::s.iv|false=>s.iv),(j,Nat.blt p.2.low s.h.next,xFt o.x s.tm)::s.rw,p.1,Nat.blt p.2.low s.h.next,true,xFt o.x s.tm⟩
 |none=>none
theorem Ed{o:RO}{l:List RO}{j:Nat}{s:SD}(e:fi rec (o::l) j s.iv s.rw s.tm s.h=some (tm',h')):∃s1,kN rec j o s=some s1/\fi rec l (j+1) s1.iv s1.rw s1.tm s1.h=some (tm',h'):=by
 rcases vT e with⟨h1,e⟩|⟨h1,h2,c,ob,h3,e1,e2,e⟩|⟨h1,h2,c,h3,e1,e2,e⟩
 ·exact⟨⟨_,_,_,_,.any,false,false,none⟩,by simp only[kN,h1];rfl,e⟩
 ·exact⟨⟨_,_,_,_,c,false,false,none⟩,by simp only[kN,h1,h2,e1,eS,e2,bQ];rfl,e⟩
 ·exact⟨⟨_,_,_,_,c,_,true,_⟩,by simp only[kN,h1,h2,e1,eS,e2];rfl,e⟩
def eZ(rec:Rec):List RO->Nat->SD->Option SD
 |[],_,s=>some s
 |o::l,j,s=>(kN rec j o s).bind (eZ rec l (j+1))
theorem vS:∀(l:List RO) (j:Nat) (s:SD),fi rec l j s.iv s.rw s.tm s.h=some (tm',h')->∃s1,eZ rec l j s=some s1/\s1.tm=tm'/\s1.h=h'
 |[],j,s,e=>by
  simp only[fi,ah,aD]at e;exact⟨s,rfl,e.1,e.2⟩
 |o::l,j,s,e=>by
  obtain⟨s1,e1,e2⟩:=Ed e;obtain⟨s2,e3,e4⟩:=vS l (j+1) s1 e2;exact⟨s2,by simp only[eZ,e1,eS,e3],e4⟩
theorem sM:∀(l1 l2:List RO) (j:Nat) (s s2:SD),eZ rec (l1++l2) j s=some s2->∃s1,eZ rec l1 j s=some s1/\eZ rec l2 (j+l1.length) s1=some s2
 |[],l2,j,s,s2,e=>⟨s,rfl,by simpa using e⟩
 |o::l1,l2,j,s,s2,e=>by
  simp only[qM,eZ]at e;obtain⟨s1,e1,e2⟩:=au e;obtain⟨s3,e3,e4⟩:=sM l1 l2 (j+1) s1 s2 e2;exact⟨s3,by simp only[eZ,e1,eS,e3],by rw[eV,show j+(l1.length+1)=j+1+l1.length by omega];exact e4⟩
structure Trace(rec:Rec)(r:List RO)(tm:Tm)(h:H)(tm':Tm)(h':H)(S:Nat->SD):Prop where
 tm0:(S 0).tm=tm
 h0:(S 0).h=h
 tmN:(S r.length).tm=tm'
 hN:(S r.length).h=h'
 iv0:(S 0).iv=[]
 step:∀i o,r[i]?=some o->kN rec i o (S i)=some (S (i+1))
theorem Fb{r:List RO}(e:fi rec r 0 [] [] tm h=some (tm',h')):∃S,Trace rec r tm h tm' h' S:=by
 obtain⟨sN,e1,e2,e3⟩:=vS r 0 ⟨tm,h,[],[],.any,false,false,none⟩ e;have pre:∀i,∃s,eZ rec (r.take i) 0 ⟨tm,h,[],[],.any,false,false,none⟩=some s:=fun i=>by
  have e1':=e1;rw[<-ou i r]at e1';obtain⟨s,e4,_⟩:=sM _ _ _ _ _ e1';exact⟨s,e4⟩
 have hS:∀i,eZ rec (r.take i) 0 ⟨tm,h,[],[],.any,false,false,none⟩=some ((eZ rec (r.take i) 0 ⟨tm,h,[],[],.any,false,false,none⟩).getD ⟨tm,h,[],[],.any,false,false,none⟩):=fun i=>by
  obtain⟨s,e4⟩:=pre i;rw[e4];rfl
 refine⟨fun i=>(eZ rec (r.take i) 0 ⟨tm,h,[],[],.any,false,false,none⟩).getD ⟨tm,h,[],[],.any,false,false,none⟩,by simp[eZ],by simp[eZ],?_,?_,by simp[eZ],fun i o ho=>?_⟩
 ·simp only[kI,e1,ln];exact e2
 ·simp only[kI,e1,ln];exact e3
 ·have hlt:=(bW.1 ho).1;have h1:=hS (i+1);have hti:r.take (i+1)=r.take i++[o]:=by
   rw[ov,ho];rfl
  have h2:=h1;rw[hti]at h2;obtain⟨s1,e4,e5⟩:=sM _ _ _ _ _ h2;simp only[eZ,aQ,bG]at e5;obtain⟨s2,e6,e7⟩:=au e5;simp only[ah]at e7;rw[dT aa]at e6;show kN rec i o ((eZ rec (r.take i) 0 ⟨tm,h,[],[],.any,false,false,none⟩).getD ⟨tm,h,[],[],.any,false,false,none⟩)=_;rw[e4,hti];show kN rec i o s1=_;rw[e6,e7]
section
variable {r : List RO} {S : Nat->SD}
theorem Trace.cases(t:Trace rec r tm h tm' h' S){i:Nat}{o:RO}(ho:r[i]?=some o):
  (S (i+1)).tm=gj (S i).tm o.dst (S (i+1)).v/\
  ((eW o (S i).tm=some false/\(S (i+1)).v= .any/\(S (i+1)).h=(S i).h/\(S (i+1)).wr=false/\(S (i+1)).rd=false/\(S (i+1)).iv=(S i).iv/\(S (i+1)).rw=(S i).rw)\/
   (eW o (S i).tm=some true/\o.x.isT=true/\(S (i+1)).wr=false/\(S (i+1)).rd=false/\(S (i+1)).rw=(S i).rw/\∃ob,xT o.x (S i).tm (S i).h.next=some ((S (i+1)).v,ob)/\(S i).h.iq ob=some (S (i+1)).h/\(S (i+1)).iv=(match ob with|none=>(S i).iv|some _=>(i,(S i).h.next,(S (i+1)).h.next)::(S i).iv))\/
   (eW o (S i).tm = some true /\ o.x.isT = false /\ (S (i + 1)).rd = true /\ ∃ h1, xR rec o.x (S i).tm ((S i).h.part o.pre (S i).iv (S (i + 1)).fr) = some ((S (i + 1)).v, h1) /\ (S (i + 1)).h = (S i).h.whole h1 /\ (S (i + 1)).wr = Nat.blt h1.low (S i).h.next /\ kf o.pre (S (i + 1)).wr (S (i + 1)).fr (S i).rw = false /\
      (S (i+1)).iv=(match Nat.blt (S i).h.next h1.next with|true=>(i,(S i).h.next,h1.next)::(S i).iv|false=>(S i).iv)/\(S (i+1)).rw=(i,(S (i+1)).wr,(S (i+1)).fr)::(S i).rw)):=by
 have hs:=t.step i o ho;unfold kN at hs;split at hs
 ·next hw=>
  simp only[ah]at hs;rw[<-hs];exact⟨rfl, .inl ⟨hw,rfl,rfl,rfl,rfl,rfl,rfl⟩⟩
 ·next hw=>
  split at hs
  ·next hT=>
   obtain⟨⟨c,ob⟩,e1,hs⟩:=au hs;obtain⟨h1,e2,hs⟩:=an hs;rw[<-hs];exact⟨rfl, .inr (.inl ⟨hw,hT,rfl,rfl,rfl,ob,e1,e2,rfl⟩)⟩
  ·next hT=>
   obtain⟨⟨c,h1⟩,e1,hs⟩:=au hs;split at hs
   ·cases hs
   ·next hcl=>
    simp only[ah]at hs;rw[<-hs];exact⟨rfl, .inr (.inr ⟨hw,hT,rfl,h1,e1,rfl,rfl,hcl,rfl,rfl⟩)⟩
 ·cases hs
theorem Trace.gd(t:Trace rec r tm h tm' h' S)(hg:dn rec)(f:Wf h):∀i,i<=r.length->Wf (S i).h/\Gd h (S i).h
 |0,_=>by rw[t.h0];exact⟨f,Gd.refl f⟩
 |i+1,hi=>by
  obtain⟨o,ho⟩:∃o,r[i]?=some o:=⟨_,aS aa⟩;obtain⟨f1,g1⟩:=t.gd hg f i aa;have g2:Gd (S i).h (S (i+1)).h:=by
   rcases(t.cases ho).2 with⟨_,_,e,_⟩|⟨_,_,_,_,_,ob,_,e,_⟩|⟨_,_,_,h1,e1,e2,_⟩
   ·rw[e];exact Gd.refl f1
   ·exact nQ f1 e
   ·rw[e2];exact vf (kL hg (iZ f1) e1)
  exact⟨g2.wf,g1.trans g2⟩
theorem Trace.gd1(t:Trace rec r tm h tm' h' S)(hg:dn rec)(f:Wf h){i:Nat}(hi:i<r.length):Gd (S i).h (S (i+1)).h:=by
 obtain⟨o,ho⟩:∃o,r[i]?=some o:=⟨_,aS hi⟩;have f1:=(t.gd hg f i aa).1;rcases(t.cases ho).2 with⟨_,_,e,_⟩|⟨_,_,_,_,_,ob,_,e,_⟩|⟨_,_,_,h1,e1,e2,_⟩
 ·rw[e];exact Gd.refl f1
 ·exact nQ f1 e
 ·rw[e2];exact vf (kL hg (iZ f1) e1)
theorem Trace.gdm(t:Trace rec r tm h tm' h' S)(hg:dn rec)(f:Wf h):∀(k i:Nat),i+k<=r.length->Gd (S i).h (S (i+k)).h
 |0,i,hi=>Gd.refl (t.gd hg f i aa).1
 |k+1,i,hi=>(t.gdm hg f k i aa).trans (t.gd1 hg f aa)
theorem Trace.iv(t:Trace rec r tm h tm' h' S):∀i,i<=r.length->(∀x∈(S i).iv,∃q,q<i/\x=(q,(S q).h.next,(S (q+1)).h.next))/\(∀q,q<i->(S q).h.next<(S (q+1)).h.next->(q,(S q).h.next,(S (q+1)).h.next)∈(S i).iv)
 |0,_=>by
  rw[t.iv0];exact⟨fun x hx=>by simp at hx,fun q hq=>by omega⟩
 |i+1,hi=>by
  obtain⟨o,ho⟩:∃o,r[i]?=some o:=⟨_,aS aa⟩;obtain⟨k1,k2⟩:=t.iv i aa;have key:((S (i+1)).iv=(S i).iv/\¬(S i).h.next<(S (i+1)).h.next)\/(S (i+1)).iv=(i,(S i).h.next,(S (i+1)).h.next)::(S i).iv:=by
   rcases(t.cases ho).2 with⟨_,_,e,_,_,e2,_⟩|⟨_,_,_,_,_,ob,_,e,e2⟩|⟨_,_,_,h1,e1,e2,_,_,e3,_⟩
   ·exact .inl ⟨e2,by rw[e];omega⟩
   ·cases ob with
    |none=>
     simp only[H.iq,ah]at e;exact .inl ⟨e2,by rw[<-e];omega⟩
    |some b=>exact .inr e2
   ·have hn:(S (i+1)).h.next=h1.next:=by rw[e2];rfl
    rw[hn];split at e3
    ·exact .inr e3
    ·next hb=>
     refine .inl ⟨e3,fun hlt=>?_⟩;rw[<-aV]at hlt;rw[hlt]at hb;cases hb
  rcases key with⟨e,hlt⟩|e
  ·rw[e];exact⟨fun x hx=>by obtain⟨q,h1,h2⟩:=k1 x hx;exact⟨q,by omega,h2⟩,fun q hq hl=>k2 q (by
    rcases np.1 hq with h|h
    ·exact h
    ·subst h;exact absurd hl hlt) hl⟩
  ·rw[e];refine⟨fun x hx=>?_,fun q hq hl=>?_⟩
   ·rcases bs.1 hx with h|h
    ·exact⟨i,by omega,h⟩
    ·obtain⟨q,h1,h2⟩:=k1 x h;exact⟨q,by omega,h2⟩
   ·rcases np.1 hq with h|h
    ·exact bq _ (k2 q h hl)
    ·subst h;exact bn
theorem Trace.rw'(t:Trace rec r tm h tm' h' S):∀i,i<=r.length->∀q,q<i->(S (q+1)).rd=true->(q,(S (q+1)).wr,(S (q+1)).fr)∈(S i).rw
 |0,_,q,hq,_=>by omega
 |i+1,hi,q,hq,hr=>by
  obtain⟨o,ho⟩:∃o,r[i]?=some o:=⟨_,aS aa⟩;have ih:=t.rw' i aa;rcases np.1 hq with h|h
  ·have h1:=ih q h hr;rcases(t.cases ho).2 with⟨_,_,_,_,_,_,e⟩|⟨_,_,_,_,e,_⟩|⟨_,_,_,h1',_,_,_,_,_,e⟩
   ·rw[e];exact h1
   ·rw[e];exact h1
   ·rw[e];exact bq _ h1
  ·subst h;rcases(t.cases ho).2 with⟨_,_,_,_,e,_⟩|⟨_,_,_,e,_⟩|⟨_,_,_,h1',_,_,_,_,_,e⟩
   ·rw[e]at hr;cases hr
   ·rw[e]at hr;cases hr
   ·rw[e];exact bn
theorem qt{pre k:Nat}:∀{iv:List (Nat×Nat×Nat)} {f:List (Nat×Nat)} {q x y:Nat},(q,x,y)∈iv->pre.testBit q=false->x<=k->k<y->bH k (fM pre iv f)=true
 |(i,a,b)::l,f,q,x,y,hm,hp,h1,h2=>by
  simp only[fM];have hb1:Nat.ble x k=true:=lu h1;have hb2:Nat.blt k y=true:=by simpa[aV]using h2
  rcases bs.1 hm with e|e
  ·simp only[aD]at e;rw[<-e.1,<-e.2.1,<-e.2.2,hp];simp only[bH];rw[hb1,hb2]
  ·have:=qt (f:=f) e hp h1 h2;split
   ·exact this
   ·simp only[bH];split
    ·split
     ·rfl
     ·exact this
    ·exact this
theorem wh{pre k:Nat}:∀{iv:List (Nat×Nat×Nat)} {f:List (Nat×Nat)},(∀x∈iv,¬(x.2.1<=k/\k<x.2.2))->bH k (fM pre iv f)=bH k f
 |[],f,_=>rfl
 |(i,a,b)::l,f,h=>by
  have ih:=wh (pre:=pre) (f:=f) fun x hx=>h x (bq _ hx);have h0:=h _ bn;simp only[fM];split
  ·exact ih
  ·simp only[bH];split
   ·next h1=>
    split
    ·next h2=>exact absurd ⟨ct h1,by simpa[aV]using h2⟩ h0
    ·exact ih
   ·exact ih
theorem Ly{k:Nat}:∀{l:List Nat},eI k l=true->k∈l
 |[],h=>by cases h
 |x::l,h=>by
  simp only[eI]at h;split at h
  ·next e=>rw[cn e];exact bn
  ·exact bq _ (Ly h)
theorem yw{k:Nat}{l:List Nat}(h1:eI k l=true):∀{m:List Nat},eI k m=true->meets l m=true
 |[],h=>by cases h
 |x::m,h=>by
  simp only[eI]at h;simp only[meets];split at h
  ·next e=>
   rw[cn e,h1]
  ·split
   ·rfl
   ·exact yw h1 h
theorem Ft.Jy{f g:Ft}{k:Nat}(h1:f.has k=true)(h2:g.has k=true):f.meet g=true:=by
 cases f with
 |none=>rfl
 |some l=>cases g with
  |none=>rfl
  |some m=>exact yw h1 h2
theorem rR{pre:Nat}{wr:Bool}{g:Ft}{k:Nat}:∀{rw:List (Nat×Bool×Ft)} {q:Nat} {x:Bool} {f:Ft},kf pre wr g rw=false->(q,x,f)∈rw->(x||wr)=true->f.has k=true->g.has k=true->pre.testBit q=true
 |(i,y,e)::l,q,x,f,h,hm,hx,h1,h2=>by
  simp only[kf]at h;split at h
  ·cases h
  ·next hb=>
   rcases bs.1 hm with e|e
   ·cases e;rw[hx,Ft.Jy h1 h2]at hb;simpa using hb
   ·exact rR h e hx h1 h2
end
end CI
end
section
open Go.RowKit
namespace CI
variable {P : Program} {n : Nat}
theorem sL:∀(l:List Nat) (k:Nat),oV l k=(l[k]?).getD 0
 |[],k=>by simp[oV]
 |x::l,0=>by simp[oV]
 |x::l,k+1=>by simp[oV,sL l k]
theorem kO{acc:List Nat}{q:Nat}:∀{es:List Edge},(jq acc es).testBit q=true->∃e∈es,Region.binds .any e=true/\(e.on=q\/(oV acc e.on).testBit q=true)
 |[],h=>by simp[jq]at h
 |e::es,h=>by
  simp only[jq]at h;split at h
  ·next hb=>
   simp only[Nat.testBit_or,nv,Nat.testBit_two_pow,decide_eq_true_eq]at h;rcases h with(h|h)|h
   ·exact⟨e,bn,hb,.inl h⟩
   ·exact⟨e,bn,hb,.inr h⟩
   ·obtain⟨e',h1,h2⟩:=kO h;exact⟨e',bq _ h1,h2⟩
  ·obtain⟨e',h1,h2⟩:=kO h;exact⟨e',bq _ h1,h2⟩
theorem yo:∀(l:List Oper) (acc:List Nat),∃t,iM l acc=acc++t/\t.length=l.length
 |[],acc=>⟨[],by simp[iM],rfl⟩
 |o::l,acc=>by
  obtain⟨t,e,h⟩:=yo l (acc++[jq acc o.after.toList]);exact⟨jq acc o.after.toList::t,by simp only[iM];rw[e];simp,by simp[h]⟩
theorem ve:∀(l:List Oper) (acc:List Nat) (i:Nat) (o:Oper),l[i]?=some o->(iM l acc)[acc.length+i]?=some (jq ((iM l acc).take (acc.length+i)) o.after.toList)
 |[],acc,i,o,h=>by simp at h
 |o'::l,acc,0,o,h=>by
  simp at h;subst h;simp only[iM];obtain⟨t,e,_⟩:=yo l (acc++[jq acc o'.after.toList]);rw[e];simp
 |o'::l,acc,i+1,o,h=>by
  simp only[iM];have:=ve l (acc++[jq acc o'.after.toList]) i o (by simpa using h);rw[cL,ji,show acc.length+1+i=acc.length+(i+1) by omega]at this;exact this
theorem kZ{t:Nat}:∀{l:List Nat},t∈l->eI t l=true
 |x::l,h=>by
  simp only[eI];split
  ·rfl
  ·next hb=>
   rcases bs.1 h with e|e
   ·subst e;rw[dz]at hb;cases hb
   ·exact kZ e
theorem tE{ops:Array Oper}{o:Oper}{p:Nat}:∀{l:List Oper} {k:Nat},oA ops o p l k=true->∀i o',l[i]?=some o'->(mX o'.dst (looks ops o)=true\/mX o.dst (looks ops o')=true\/mX o.dst o'.dst.toList=true)->p.testBit (k+i)=true
 |[],k,_,i,o',h,_=>by simp at h
 |x::l,k,h,0,o',ho,hh=>by
  simp at ho;subst ho;simp only[oA]at h;split at h
  ·cases h
  ·next hb=>
   rw[cf]
   cases hp:p.testBit k with
   |true=>rfl
   |false=>
    exfalso;rw[hp]at hb;rcases hh with hh|hh|hh<;>simp[hh]at hb
 |x::l,k,h,i+1,o',ho,hh=>by
  simp only[oA]at h;split at h
  ·cases h
  ·have:=tE h i o' (by simpa using ho) hh;rwa[show k+1+i=k+(i+1) by omega]at this
theorem lP{k:Nat}:∀{l:List Edge},ig k l=true->∀e∈l,Region.binds .any e=true->e.on<k
 |x::l,h,e,he,hb=>by
  simp only[ig]at h;split at h
  ·cases h
  ·next hx=>
   rcases bs.1 he with e1|e1
   ·subst e1;rw[hb]at hx;simp only[fR,Bool.not_eq_false']at hx;simpa[aV]using hx
   ·exact lP h e e1 hb
theorem Aj{ops:Array Oper}:∀(l acc:List Oper) (ps:List Nat) (r:List RO),eP P n true ops acc l ps=some r->r.length=l.length/\∀i o,l[i]?=some o->∃p g,ps[i]?=some p/\cr n o.dst=true/\oA ops o p (acc++l.take i) 0=true/\ig (acc.length+i) o.after.toList=true/\(match o.guard with
  |none=>some none
  |some (j,b)=>((ops[j]?).bind (·.dst)).map fun t=>some (t,b))=some g/\r[i]?=some ⟨o.dst,g,(match aE P o.op with|some x=>x|none=>.bad),p⟩
 |[],acc,ps,r,h=>by
  simp only[eP,ah]at h;subst h;exact⟨rfl,fun i o ho=>by simp at ho⟩
 |o::l,acc,ps,r,h=>by
  obtain⟨p,ps',g,r',rfl,h1,h2,h3,h4,rfl⟩:=qv h;obtain⟨k1,k2⟩:=Aj l (acc++[o]) ps' r' h4;refine⟨by simp[k1],fun i o' ho=>?_⟩
  cases i with
  |zero=>
   simp at ho;subst ho;exact⟨p,g,rfl,h1,by simpa using(h2 rfl).1,by simpa using(h2 rfl).2,h3,rfl⟩
  |succ i=>
   obtain⟨p',g',q1,q2,q3,q4,q5,q6⟩:=k2 i o' (by simpa using ho);refine⟨p',g',by simpa using q1,q2,by simpa using q3,?_,q5,by simpa using q6⟩;rw[cL,ji]at q4;rwa[show acc.length+1+i=acc.length+(i+1) by omega]at q4
structure Stat(P:Program)(n:Nat)(ops:Array Oper)(r:List RO):Prop where
 len:r.length=ops.size
 row : ∀ (i : Nat) (o : Oper), ops[i]? = some o -> ∃ g p, r[i]? = some ⟨o.dst, g, (match aE P o.op with | some x => x | none => .bad), p⟩ /\ cr n o.dst = true /\ (match o.guard with
       |none=>some none
       |some (j,b)=>((ops[j]?).bind (·.dst)).map fun t=>some (t,b))=some g
 pre:∀(i:Nat) (o:Oper) (ro:RO) (q:Nat),ops[i]?=some o->r[i]?=some ro->ro.pre.testBit q=true->∃e∈o.after.toList,Region.binds .any e=true/\(e.on=q\/∃ro',r[e.on]?=some ro'/\ro'.pre.testBit q=true)
 edge:∀(i:Nat) (o:Oper) (e:Edge),ops[i]?=some o->e∈o.after.toList->Region.binds .any e=true->e.on<i
 tmp:∀(i j:Nat) (o' o:Oper) (ro:RO) (t:Nat),i<j->ops[i]?=some o'->ops[j]?=some o->r[j]?=some ro->((o'.dst=some t/\t∈looks ops o)\/(o.dst=some t/\t∈looks ops o')\/(o.dst=some t/\o'.dst=some t))->ro.pre.testBit i=true
theorem IL{ops:Array Oper}{r:List RO}(h:eP P n true ops [] ops.toList (iM ops.toList [])=some r):Stat P n ops r:=by
 obtain⟨k1,k2⟩:=Aj _ _ _ _ h;have hl:∀{i:Nat} {o:Oper},ops[i]?=some o->ops.toList[i]?=some o:=fun ho=>by simpa using ho
 have hpre:∀(i:Nat) (o:Oper) (ro:RO),ops[i]?=some o->r[i]?=some ro->(iM ops.toList [])[i]?=some ro.pre:=fun i o ro ho hr=>by
  obtain⟨p,g,q1,_,_,_,_,q6⟩:=k2 i o (hl ho);rw[hr]at q6;simp only[ah]at q6;subst q6;exact q1
 refine⟨by rw[k1];simp,fun i o ho=>?_,fun i o ro q ho hr hq=>?_,fun i o e ho he hb=>?_,fun i j o' o ro t hij ho' ho hr ht=>?_⟩
 ·obtain⟨p,g,q1,q2,q3,q4,q5,q6⟩:=k2 i o (hl ho);exact⟨g,p,q6,q2,q5⟩
 ·have h1:=hpre i o ro ho hr;have h2:=ve ops.toList [] i o (hl ho);simp only[fQ,bG]at h2;rw[h1]at h2;simp only[ah]at h2;rw[h2]at hq;obtain⟨e,he,hb,hh⟩:=kO hq;refine⟨e,he,hb,hh.imp id fun hx=>?_⟩;rw[sL,et]at hx;split at hx
  ·next hlt=>
   have hsz:i<ops.size:=(gi.1 ho).1;obtain⟨o2,ho2⟩:∃o2,ops[e.on]?=some o2:=⟨_,iu aa⟩;obtain⟨p,g,q1,q2,q3,q4,q5,q6⟩:=k2 e.on o2 (hl ho2);rw[q1]at hx;exact⟨_,q6,by simpa using hx⟩
  ·simp at hx
 ·obtain⟨p,g,q1,q2,q3,q4,q5,q6⟩:=k2 i o (hl ho);have:=lP q4 e he hb;simpa using this
 ·obtain⟨p,g,q1,q2,q3,q4,q5,q6⟩:=k2 j o (hl ho);rw[hr]at q6;simp only[ah]at q6;subst q6;have:=tE q3 i o' (by rw[fV,gV hij];exact hl ho') (by
   rcases ht with⟨h1,h2⟩|⟨h1,h2⟩|⟨h1,h2⟩
   ·exact .inl (by rw[h1];exact kZ h2)
   ·exact .inr (.inl (by rw[h1];exact kZ h2))
   ·exact .inr (.inr (by rw[h1,h2];exact kZ aY)))
  simpa using this
end CI
end
end Go.Proofs.YtepdigdijecgpaaGreat
