/- Lemmas for the law: Q4 Q5 Q6 Q7 Q8 Q9 Q10 Q11 Q12 Q13 Q14 Q15 Q16 Q17 Q18 Q19 Q20 DB DC DE DF DG -/
import Derived.Great.BuildSlice
import Derived.Lib.SliceRun
import Derived.Laws.Slices
import Derived.Lib.AppendZerosOnto
import Derived.RangeFuncIn
import Derived.RangeFuncCalls
import Derived.OrdersIn
import Derived.DefersIn
import Derived.RangeFuncLeaves
import Derived.RangeFuncRecord
import Derived.Shelf.Abstract
import Derived.Test.YtepdigdijecgpaaGreatZv2
namespace Go.Proofs.YtepdigdijecgpaaGreat
section
abbrev qT:=@Array.eq_empty_of_size_eq_zero
abbrev vc:=@Array.foldl_toList
abbrev vb:=@List.take_append_of_le_length
abbrev gK:=@List.length_nil
abbrev kf:=@Nat.ble_eq_true_of_le
abbrev va:=@List.map_congr_left
abbrev uZ:=@Bool.or_eq_false_iff
abbrev ke:=@Bool.not_eq_true'
abbrev kd:=@Option.getD_some
abbrev lI:=@Nat.lt_succ_iff_lt_or_eq
abbrev gI:=@Array.getElem?_eq_getElem
abbrev gH:=@List.filter_cons_of_neg
abbrev gG:=@List.filter_cons_of_pos
abbrev qS:=@List.filter_filter
abbrev eU:=@List.map_append
abbrev nI:=@Bool.true_or
abbrev kb:=@Bool.or_true
abbrev qR:=@Array.getElem?_setIfInBounds_ne
abbrev lH:=@List.mem_range
abbrev uY:=@Array.getElem?_replicate
theorem pM{p:Prop}(h:p:=by simpa using he):p:=h
theorem my{p:Prop}(h:p:=by rw[ho,hy];simp[Op.operands]):p:=h
theorem jz{p:Prop}(h:p:=by simp[h2]):p:=h
theorem uM{p:Prop}(h:p:=by unfold at';rw[aB rfl]):p:=h
end
section
open Go.RowKit
namespace CI
variable {P : Program} {A : Nat->Prop} {ρ : Nat->Nat} {w : World} {tm : Tm} {a : Act} {o : Oper} {next : Nat} {c : C} {ob : Option B}
def XO'(P:Program)(A:Nat->Prop)(ρ:Nat->Nat)(w:World)(r:Result Next)(next:Nat)(c:C)(ob:Option B):Prop:=
 ∃u w',r= .ok (.value u) w'/\
  match ob with
  |none=>w'=w/\VR P A ρ w c u
  |some b=>Below w.heap.size w w'/\w.heap.size<w'.heap.size/\∀A' ρ',Mo A A' ρ ρ'->ρ' next=w.heap.size->A' next->BR P A' ρ' w' w.heap.size b/\VR P A' ρ' w' c u
theorem cU{u:Value}{r:Result Next}(h:r= .ok (.value u) w)(hu:VR P A ρ w c u):XO' P A ρ w r next c none:=⟨u,w,h,rfl,hu⟩
theorem zh{u:Value}{r:Result Next}{arr:Array Value}{T:TypeId}{l:List C}(h:r= .ok (.value u) (w.alloc (.cells arr T)))(hl:VCs P A ρ w l arr.toList)
  (hu:∀A' ρ',Mo A A' ρ ρ'->ρ' next=w.heap.size->A' next->VR P A' ρ' (w.alloc (.cells arr T)) c u):XO' P A ρ w r next c (some (.cells T l)):=by
 have hb:Below w.heap.size w (w.alloc (.cells arr T)):=(Below.refl _ _).alloc (ah _) _;refine⟨u,_,h,hb,by simp,fun A' ρ' m h1 h2=>⟨⟨arr,arr.toList,[],heap_alloc_new w _,by simp,VCs.mo m (Lt.below hb) _ _ hl,fun n e=>?_⟩,hu A' ρ' m h1 h2⟩⟩;rw[cell_of_row _ w.heap.size _ _ _ (0,0) (heap_alloc_new w _)]at e;exact VCs.nw hl n pL
theorem dm{t s:Nat}(h:cj P t=some s):∃i,P.info? t=some i/\i.size=s:=by
 unfold cj at h;exact fF.1 h
theorem scs{l:List Value}(h:l.all (fun v=>v.oneCell'&&(C.sc v).okP)=true):VCs P A ρ w (l.map .sc) l:=by
 induction l with
 |nil=>simp only[jf,VCs]
 |cons v l ih=>
  simp only[lM,bV]at h;simp only[du,VCs];exact⟨h.1.2,v,l,by rw[oD h.1.1];rfl,by simp only[VR];exact⟨trivial,h.1.1⟩,ih (by simpa using h.2)⟩
theorem gV{t:TypeId}{z:List C}(h:zOf P t=some z):∃i v,P.info? t=some i/\i.zero=some v/\v.cells.size=i.size/\∀(A:Nat->Prop) (ρ:Nat->Nat) (w:World),VCs P A ρ w z v.cells.toList:=by
 unfold zOf at h;obtain⟨i,hi,h⟩:=fK.1 h;obtain⟨v,hv,h⟩:=fK.1 h;split at h
 ·next hc=>
  simp only[af]at h;subst h;simp only[bV]at hc;exact⟨i,v,hi,hv,by simpa using hc.2,fun _ _ _=>scs hc.1⟩
 ·cases h
theorem tJ(v:Value):VR P A ρ w (ofV v) v:=by
 cases v with
 |agg cs=>
  simp only[ofV];split
  ·next h=>simp only[VR];exact⟨cs,rfl,scs h⟩
  ·simp only[VR]
 |func f first cs=>
  cases f with
  |func g=>
   simp only[ofV];split
   ·next h1 h2=>
    simp only[VR,VRl];have e1:first= #[]:=qT h1
    have e2:cs= #[]:=qT h2;subst e1;subst e2;exact⟨_,rfl,rfl⟩
   ·simp only[VR]
  |_=>simp only[ofV,VR]
 |tuple vs=>simp only[ofV,VR]
 |_=>simp only[ofV,VR,Value.oneCell',and_self]
def OpV(P:Program)(A:Nat->Prop)(ρ:Nat->Nat)(w:World)(tm:Tm)(a:Act)(x:Operand):Prop:=VR P A ρ w ((aq x).ev tm) (a.eval x)
theorem TR.op(h:TR P A ρ w tm a.tmps)(x:Operand):OpV P A ρ w tm a x:=by
 cases x with
 |tmp t=>
  have:=h t;unfold OpV;simpa[aq,Act.eval]using this
 |const v=>exact tJ v
 |global g=>simp only[OpV,aq,CO.ev,VR]
 |func g=>
  show VR P A ρ w (.fn g []) (.func (.func g) #[] #[]);simp only[VR,VRl];exact⟨_,rfl,rfl⟩
theorem eE{c:C}{n:Nat}{u:Value}(h:dJ c=some n)(hu:VR P A ρ w c u):∃k,u= .int k (n:Int):=by
 unfold dJ at h;split at h
 ·next k m=>
  simp only[af]at h;subst h;simp only[VR]at hu;exact⟨k,hu.1⟩
 ·cases h
theorem wo(vs:List Value)(off:Nat)(cs:Array Value)(h:off+vs.length<=cs.size):(vs.zipIdx.foldl (fun cs (x:Value×Nat)=>cs.setIfInBounds (off+x.2) x.1) cs).toList=cs.toList.take off++vs++cs.toList.drop (off+vs.length):=by
 obtain⟨h1,h2⟩:=Go.Great.foldl_set off vs 0 cs;refine qV fun k=>?_;rw[cV,h2 k];simp only[cf];by_cases hk:k<off
 ·rw[aj aa,fq,eP fB,jI hk,cV]
 ·by_cases hk2:k<off+vs.length
  ·rw[aB aa,eP fB,kI fB];simp only[ba,bL];rw[eA aa]
  ·rw[aj aa,kI fB,iD];simp only[cT,ba,bL];rw[eA aa,show off+vs.length+(k-(off+vs.length))=k by omega,cV]
theorem jO{t:TypeId}(pf:Nat->Option (Nat×Nat))(hpf:∀i x,place P t i=some x->pf i=some x):∀(pl:List (Nat×Operand)) (ps:List (Nat×Nat×CO)) (l l':List C) (cells:Array Value),placesOf P t pl=some ps->fJ l (parts tm ps)=some l'->VCs P A ρ w l cells.toList->
  (∀p∈pl,OpV P A ρ w tm a p.2)->∃cells',Instr.fill pf cells (pl.map fun p=>(p.1,a.eval p.2))=some cells'/\VCs P A ρ w l' cells'.toList
 |[],ps,l,l',cells,h1,h2,h3,_=>by
  simp only[placesOf,af]at h1;subst h1;simp only[parts,fJ,af]at h2;subst h2;exact⟨cells,rfl,h3⟩
 |(i,x)::pl,ps,l,l',cells,h1,h2,h3,h4=>by
  simp only[placesOf]at h1;obtain⟨⟨off,s⟩,e1,h1⟩:=fK.1 h1;obtain⟨ps',e2,rfl⟩:=fF.1 h1;simp only[parts,fJ]at h2;obtain⟨p,e3,h2⟩:=fK.1 h2;split at h2
  ·next hw=>
   have hw':nP p=s:=by simpa using hw
   obtain⟨l1,e4,h2⟩:=fK.1 h2;have hv:=h4 _ bp;have hp:=VR.flat hv e3;have hlen:=hp.len;simp only at hlen hv hp;obtain⟨k1,k2⟩:=h3.set hp e4;have hsz:(a.eval x).cells.size=s:=by rw[<-hw',<-hlen,bL]
   have hfo:=wo (a.eval x).cells.toList off cells (by rw[bL,hsz];simpa using k2);obtain⟨cells',e5,k3⟩:=jO pf hpf pl ps' l1 l' ((a.eval x).cells.toList.zipIdx.foldl (fun cs (x:Value×Nat)=>cs.setIfInBounds (off+x.2) x.1) cells) e2 h2 (by
    rw[hfo,bL,hsz];exact k1) (fun q hq=>h4 q (bf _ hq))
   refine⟨cells',?_,k3⟩;simp only[du];unfold Instr.fill;simp only[hpf _ _ e1];rw[aj (by simp[hsz];simpa using k2),<-e5];congr 1;rw[<-vc,Array.toList_zipIdx]
  ·cases h2
theorem Cs{fs:List Field}(h:fs.all (fun f:Field=>(P.info? f.type).isSome)=true):∃pl,fs.mapM (fun f:Field=>(P.info? f.type).map fun i=>(f.offset,i.size))=some pl/\∀(i:Nat) (f:Field) (s:Nat),fs[i]?=some f->cj P f.type=some s->pl[i]?=some (f.offset,s):=by
 induction fs with
 |nil=>exact⟨[],rfl,fun i f s h=>by simp at h⟩
 |cons f fs ih=>
  simp only[lM,bV]at h;obtain⟨pl,e1,e2⟩:=ih h.2;obtain⟨inf,e3⟩:=cq.1 h.1;refine⟨(f.offset,inf.size)::pl,by simp[List.mapM_cons,e3,e1],fun i f' s hf hs=>?_⟩
  cases i with
  |zero=>
   simp only[List.getElem?_cons_zero,af]at hf;subst hf;simp only[cj,e3,bK,af]at hs;subst hs;rfl
  |succ i=>exact e2 i f' s (by simpa using hf) hs
theorem Cu(z:Array Value)(n:Nat):(madeCells z ((n+1)*z.size)).toList=z.toList++(madeCells z (n*z.size)).toList:=by
 refine qV fun k=>?_;by_cases hz:z.size=0
 ·have:z= #[]:=qT hz;subst this;simp[madeCells]
 by_cases hk:k<z.size
 ·rw[eP (by simpa using hk),cV,cV];unfold madeCells;have:k<(n+1)*z.size:=by rw[bW,cB];omega
  simp[this,mB hk,hk]
 ·rw[kI fB,cV,cV,bL];unfold madeCells;by_cases hk2:k<(n+1)*z.size
  ·have hk3:k-z.size<n*z.size:=by rw[bW,cB]at hk2;omega
   have hm:(k-z.size)%z.size=k%z.size:=by
    conv=>rhs;rw[show k=k-z.size+z.size by omega]
    rw[Nat.add_mod_right]
   simp[hk2,hk3,hm]
  ·have hk3:¬k-z.size<n*z.size:=by rw[bW,cB]at hk2;omega
   simp[hk2,hk3]
theorem iM{z:List C}{zc:Array Value}(h:VCs P A ρ w z zc.toList):∀n,VCs P A ρ w (dX z n) (madeCells zc (n*zc.size)).toList
 |0=>by simp[dX,VCs,madeCells]
 |n+1=>by rw[Cu];exact VCs.app (iM h n) h
def HV(P:Program)(A:Nat->Prop)(ρ:Nat->Nat)(w:World)(tm:Tm)(a:Act)(o:Oper):Prop:=∀y∈o.op.operands,OpV P A ρ w tm a y
theorem As(hv:HV P A ρ w tm a o){x:Operand}(ho:o.op= .move x\/o.op= .assign x):XO' P A ρ w ((execOp a.eval o).run P w) next ((aq x).ev tm) none:=by
 refine cU (u:=a.eval x) ?_ (hv x (by rcases ho with ho|ho<;>rw[ho]<;>simp[Op.operands]));rcases ho with ho|ho<;>(unfold execOp;rw[ho];rfl)
theorem Ar(hv:HV P A ρ w tm a o){x y z:Operand}{t:Bool}(ho:o.op= .pick x y z)(hc:(aq x).ev tm= .sc (.bool t)):XO' P A ρ w ((execOp a.eval o).run P w) next ((aq (if t then y else z)).ev tm) none:=by
 have h1:=hv x bu;unfold OpV at h1;rw[hc]at h1;simp only[VR]at h1;refine cU (u:=a.eval (if t then y else z)) ?_ (hv _ (by rw[ho];cases t<;>simp[Op.operands]));unfold execOp;rw[ho];cases t<;>simp[h1.1,asBool]
theorem ED{t:TypeId}{z:List C}(ho:o.op= .alloc t)(hz:zOf P t=some z):XO' P A ρ w ((execOp a.eval o).run P w) next (.pt next 0) (some (.cells t z)):=by
 obtain⟨i,v,h1,h2,_,h3⟩:=gV hz;refine zh (u:=.pointer (some ⟨w.heap.size,0,none⟩)) (arr:=v.cells) ?_ (h3 _ _ _) (fun A' ρ' m e1 e2=>by simp only[VR];exact⟨e2,by rw[e1]⟩);unfold execOp;rw[ho];simp[Instr.alloc,zeroValue,typeInfo,h1,h2,newVar,newRow]
theorem x_box(hv:HV P A ρ w tm a o){t:TypeId}{x:Operand}{p:List C}(ho:o.op= .box t x)(hp:((aq x).ev tm).flat=some p):XO' P A ρ w ((execOp a.eval o).run P w) next (.pt next 0) (some (.cells t p)):=by
 have h1:=hv x bu;refine zh (u:=.pointer (some ⟨w.heap.size,0,none⟩)) (arr:=(a.eval x).cells) ?_ (VR.flat h1 hp) (fun A' ρ' m e1 e2=>by simp only[VR];exact⟨e2,by rw[e1]⟩);unfold execOp;rw[ho];simp[Instr.box,newVar,newRow]
theorem tL(hv:HV P A ρ w tm a o){ps:Array (Nat×Operand)}{t:TypeId}{n:Nat}(ho:o.op= .build t ps\/o.op= .buildSlice t n ps):∀p∈ps.toList,OpV P A ρ w tm a p.2:=fun p hp=>by
 refine hv p.2 ?_;rcases ho with ho|ho<;>rw[ho]<;>simp only[Op.operands]<;>simp only[List.mem_toArray,mC]<;>exact⟨p,hp,rfl⟩
theorem EB(hv:HV P A ρ w tm a o){t:TypeId}{ps:Array (Nat×Operand)}{z:List C}{pl:List (Nat×Nat×CO)}{l:List C}(ho:o.op= .build t ps)(hz:zOf P t=some z)(hp:placesOf P t ps.toList=some pl)
  (hu:(∃fs,P.underlying t=some (.struct fs)/\fs.toList.all (fun f=>(P.info? f.type).isSome)=true)\/∃n e s,P.underlying t=some (.array n e)/\cj P e=some s) (hf:fJ z (parts tm pl)=some l):XO' P A ρ w ((execOp a.eval o).run P w) next (.ag l) none:=by
 obtain⟨i,v,h1,h2,_,h3⟩:=gV hz;have hm:=tL hv (n:=0) (.inl ho);have key:∃cells,P.built t ((ps.map fun (i,x)=>(i,a.eval x)).toList)=some cells/\VCs P A ρ w l cells.toList:=by
  unfold Program.built;rcases hu with⟨fs,hu,hall⟩|⟨n,e,es,hu,hes⟩
  ·obtain⟨places,e1,e2⟩:=Cs hall;simp only[h1,hu,h2,e1];obtain⟨cells,k1,k2⟩:=jO (places.toArray[·]?) (fun i x hx=>by
    unfold place at hx;rw[hu]at hx;obtain⟨f,hf,hx⟩:=fK.1 hx;obtain⟨s,hs,rfl⟩:=fF.1 hx;simpa using e2 i f s (by simpa using hf) hs) ps.toList pl z l v.cells hp hf (h3 _ _ _) hm
   exact⟨cells,by rw[<-k1];congr 1;simp,k2⟩
  ·obtain⟨ie,hie,his⟩:=dm hes;simp only[h1,hu,h2,hie];obtain⟨cells,k1,k2⟩:=jO (t:=t) (fun i=>some (i*ie.size,ie.size)) (fun i x hx=>by
    unfold place at hx;rw[hu]at hx;simpa[cj,hie]using hx) ps.toList pl z l v.cells hp hf (h3 _ _ _) hm
   exact⟨cells,by rw[<-k1];congr 1;simp,k2⟩
 obtain⟨cells,k1,k2⟩:=key;refine cU (u:=.agg cells) ?_ (by simp only[VR];exact⟨cells,rfl,k2⟩);unfold execOp;rw[ho];simp[run_build (P:=P) w t _ cells k1]
theorem x_bsl(hv:HV P A ρ w tm a o){t e:TypeId}{n s:Nat}{ps:Array (Nat×Operand)}{z:List C}{pl:List (Nat×Nat×CO)}{l:List C}(ho:o.op= .buildSlice t n ps)(hu:P.underlying t=some (.slice e))(hs:cj P e=some s)(hz:zOf P e=some z)(hp:placesOf P t ps.toList=some pl)
  (hb:n*s<=16777216) (h0:0<s) (hn0:0<n\/ps.toList=[]) (hf:fJ (dX z n) (parts tm pl)=some l):XO' P A ρ w ((execOp a.eval o).run P w) next (.sl next 0 n n true) (some (.cells e l)):=by
 obtain⟨i,v,h1,h2,hsz,h3⟩:=gV hz;have hi:i.size=s:=by simpa[cj,h1]using hs
 have hm:=tL hv (.inr ho);obtain⟨cells,k1,k2⟩:=jO (t:=t) (fun i=>some (i*s,s)) (fun i x hx=>by
  unfold place at hx;rw[hu]at hx;simp only[hs,bK,af]at hx;rw[hx]) ps.toList pl (dX z n) l (madeCells v.cells (n*v.cells.size)) hp hf (iM (h3 _ _ _) n) hm
 have hsl:∀A' ρ',Mo A A' ρ ρ'->ρ' next=w.heap.size->A' next->VR P A' ρ' (w.alloc (.cells cells e)) (.sl next 0 n n true) (.slice (some ⟨w.heap.size,0,none⟩) n n):=fun A' ρ' m e1 e2=>by
  simp only[VR,Bool.true_eq_false,false_imp_iff,and_true,true_imp_iff];exact⟨e2,n,by rw[e1],ah _,ah _,rfl⟩
 refine zh (u:= .slice (some ⟨w.heap.size,0,none⟩) n n) (arr:=cells) ?_ k2 hsl;unfold execOp;rw[ho];by_cases hn:n=0
 ·subst hn;have hps:ps= #[]:=dN.1 (hn0.resolve_left aa);subst hps;have hc:cells= #[]:=by
   simp[Instr.fill,madeCells,Array.range_zero']at k1;exact k1
  subst hc;simp[Instr.buildSlice,run_underlying hu,sizeOf,typeInfo,h1,newRow,Instr.fill,Array.range_zero']
 ·have hr := run_buildSlice (P := P) w t e n (ps.map fun (i, x) => (i, a.eval x)) cells i v hu h1 h2 (by rw [hi]; omega) (by rw [hi]; exact fun e => by rcases Nat.mul_eq_zero.1 e with e | e <;> omega) (by
   rw[hi,<-k1,hsz,hi];unfold madeCells;rw[hsz,hi];congr 1;simp)
  simp[hr]
end CI
end
section
open Go.RowKit
namespace CI
variable {P : Program} {A : Nat->Prop} {ρ : Nat->Nat} {w : World} {tm : Tm} {a : Act} {o : Oper} {next : Nat} {c : C} {ob : Option B}
theorem HH{k k':IntKind}(h:ikB k k'=true):k=k':=by cases k<;>cases k'<;>simp_all [ikB]
theorem not_neg{q:Int}(h:isNeg q=false):¬q<0:=by
 cases q with
 |ofNat n=>simp
 |negSucc n=>simp[isNeg]at h
theorem VR.int{k:IntKind}{p:Int}{u:Value}(h:VR P A ρ w (.sc (.int k p)) u):u= .int k p:=by simp only[VR]at h;exact h.1
theorem VR.bool{b:Bool}{u:Value}(h:VR P A ρ w (.sc (.bool b)) u):u= .bool b:=by simp only[VR]at h;exact h.1
theorem eQ{u:Value}(h:u.oneCell'=true):VR P A ρ w (.sc u) u:=by simp only[VR];exact⟨trivial,h⟩
theorem x_bin(hv:HV P A ρ w tm a o){op:BinOp}{t t':TypeId}{x y:Operand}(ho:o.op= .binOp op t x y t')(hb:bin op ((aq x).ev tm) ((aq y).ev tm)=some c):XO' P A ρ w ((execOp a.eval o).run P w) next c none:=by
 have h1:=hv x bu;have h2:=hv y bu;unfold OpV at h1 h2;unfold bin at hb;split at hb
 ·next k p k' q e1 e2=>
  rw[e1]at h1;rw[e2]at h2;have h3:=h1.int;have h4:=h2.int;split at hb
  ·split at hb
   ·cases hb
   ·next hn=>
    simp only[af]at hb;subst hb;refine cU ?_ (eQ rfl);unfold execOp;rw[ho];simp[h3,h4,eqGuard,binOp,Op.shift,not_neg hn]
  ·split at hb
   ·cases hb
   ·next hn=>
    simp only[af]at hb;subst hb;refine cU ?_ (eQ rfl);unfold execOp;rw[ho];simp[h3,h4,eqGuard,binOp,Op.shift,not_neg hn]
  ·next hs1 hs2=>
   split at hb
   ·next hk=>
    have hk':=HH hk;subst hk';obtain⟨u,e3,rfl⟩:=fF.1 hb;have hu:u.oneCell'=true/\((do eqGuard op t x y (.int k p) (.int k q);binOp op t (.int k p) (.int k q):Sem Value)).run P w= .ok u w:=by
     unfold binZ at e3;split at e3<;>try(simp only[af]at e3;subst e3;refine⟨rfl,?_⟩;simp[eqGuard,binOp,Op.intArith,Op.intCmp];done)
     ·split at e3
      ·cases e3
      ·next hq=>
       simp only[af]at e3;subst e3;exact⟨rfl,by simp[eqGuard,binOp,Op.intDiv,show q≠0 from fun e=>hq e]⟩
     ·split at e3
      ·cases e3
      ·next hq=>
       simp only[af]at e3;subst e3;exact⟨rfl,by simp[eqGuard,binOp,Op.intDiv,show q≠0 from fun e=>hq e]⟩
     ·cases e3
    refine cU ?_ (eQ hu.1);unfold execOp;rw[ho];simp only[h3,h4];rw[Sem.run_bind,hu.2];rfl
   ·cases hb
 ·cases hb
theorem Eg(hv:HV P A ρ w tm a o){op:BinOp}{t t':TypeId}{x y:Operand}{ng:Bool}(ho:o.op= .binOp op t x y t')(hu:P.underlying t=some .bool)(hop:op=if ng then .neq else .eql)(hb:zZ ng ((aq x).ev tm) ((aq y).ev tm)=some c):XO' P A ρ w ((execOp a.eval o).run P w) next c none:=by
 have h1:=hv x bu;have h2:=hv y bu;unfold OpV at h1 h2;unfold zZ at hb;split at hb
 ·next p q e1 e2=>
  rw[e1]at h1;rw[e2]at h2;have h3:=h1.bool;have h4:=h2.bool;simp only[af]at hb;subst hb;refine cU ?_ (eQ rfl);unfold execOp;rw[ho];subst hop;cases ng
  ·have:=run_eql_bool (P:=P) w t p q hu;simp[h3,h4,eqGuard,this]
  ·have:=run_neq_bool (P:=P) w t p q hu;simp[h3,h4,eqGuard,this]
 ·cases hb
theorem kU{c:C}{b:Bool}{u:Value}(h:zB c=some b)(hu:VR P A ρ w c u):∃ad n cp,u= .slice ad n cp/\ad.isNone=b:=by
 unfold zB at h;split at h
 ·simp only[af]at h;subst h;simp only[VR]at hu;exact⟨none,_,_,hu.1,rfl⟩
 ·simp only[af]at h;subst h;simp only[VR]at hu;obtain⟨_,cap,rfl,_⟩:=hu;exact⟨_,_,_,rfl,rfl⟩
 ·cases h
theorem cD(b o j:Nat):(⟨b,o,none⟩:Addr).add j=⟨b,o+j,none⟩:=Addr.add_mid b o j
theorem vE(d:Nat)(w:World){t e:TypeId}(ad ad':Option Addr)(n c n' c':Nat)(h:P.underlying t=some (.slice e))(hn:ad.isNone=true\/ad'.isNone=true):(Op.equalIn (d+1) t (.slice ad n c) (.slice ad' n' c')).run P w= .ok (ad.isNone&&ad'.isNone) w:=by
 cases ad<;>cases ad'<;>simp[Op.equalIn,run_underlying h]at hn⊢
theorem rn(w:World){t e:TypeId}(ad ad':Option Addr)(n c n' c':Nat)(h:P.underlying t=some (.slice e))(hn:ad.isNone=true\/ad'.isNone=true):(Op.equal t (.slice ad n c) (.slice ad' n' c')).run P w= .ok (ad.isNone&&ad'.isNone) w:=
 vE (P:=P) 9999 w ad ad' n c n' c' h hn
theorem Aq(hv:HV P A ρ w tm a o){op:BinOp}{t t' e:TypeId}{x y:Operand}{ng:Bool}(ho:o.op= .binOp op t x y t')(hu:P.underlying t=some (.slice e))(hop:op=if ng then .neq else .eql)(hb:uz ng ((aq x).ev tm) ((aq y).ev tm)=some c):XO' P A ρ w ((execOp a.eval o).run P w) next c none:=by
 have h1:=hv x bu;have h2:=hv y bu;unfold OpV at h1 h2;unfold uz at hb;split at hb
 ·next b e1 e2=>
  obtain⟨ad,n,cp,e3,e4⟩:=kU e1 h1;obtain⟨ad',n',cp',e5,e6⟩:=kU e2 h2;simp only[af]at hb;subst hb;refine cU ?_ (eQ rfl);have hr:=rn (P:=P) w ad ad' n cp n' cp' hu (.inl e4);rw[e4,e6]at hr;unfold execOp;rw[ho];subst hop;cases ng<;>simp[e3,e5,eqGuard,binOp,hr]
 ·next e1 e2=>
  obtain⟨ad,n,cp,e3,e4⟩:=kU e1 h1;obtain⟨ad',n',cp',e5,e6⟩:=kU e2 h2;simp only[af]at hb;subst hb;refine cU ?_ (eQ rfl);have hr:=rn (P:=P) w ad ad' n cp n' cp' hu (.inr e6);rw[e4,e6]at hr;unfold execOp;rw[ho];subst hop;cases ng<;>simp[e3,e5,eqGuard,binOp,hr]
 ·cases hb
theorem x_un(hv:HV P A ρ w tm a o){op:UnOp}{t:TypeId}{x:Operand}(ho:o.op= .unOp op t x)(hb:un op ((aq x).ev tm)=some c):XO' P A ρ w ((execOp a.eval o).run P w) next c none:=by
 have h1:=hv x bu;unfold OpV at h1;unfold un at hb;split at hb
 ·next b e1=>
  rw[e1]at h1;simp only[af]at hb;subst hb;refine cU ?_ (eQ rfl);unfold execOp;rw[ho];simp[h1.bool,Op.unary]
 ·next k p e1=>
  rw[e1]at h1;simp only[af]at hb;subst hb;refine cU ?_ (eQ rfl);unfold execOp;rw[ho];simp[h1.int,Op.unary,Op.intArith]
 ·cases hb
theorem GD(hv:HV P A ρ w tm a o){t1 t2:TypeId}{x:Operand}{k k1 k2:IntKind}{n:Int}(ho:o.op= .convert t1 t2 x)(h1:P.underlying t1=some (.int k1))(h2:P.underlying t2=some (.int k))(hx:(aq x).ev tm= .sc (.int k2 n)):XO' P A ρ w ((execOp a.eval o).run P w) next (.sc (.int k (k.wrap n))) none:=by
 have h3:=hv x bu;unfold OpV at h3;rw[hx]at h3;refine cU ?_ (eQ rfl);unfold execOp;rw[ho];simp[convert,run_underlying h1,run_underlying h2,h3.int,Conv.intToInt]
theorem sC(tm:Tm)(a:Act):∀l:List Operand,(∀x∈l,OpV P A ρ w tm a x)->VRl P A ρ w ((lg l).map (·.ev tm)) (l.map a.eval)
 |[],_=>by simp[lg,VRl]
 |x::l,h=>by
  simp only[lg,du,VRl];exact⟨a.eval x,l.map a.eval,rfl,h x bp,by simpa[lg]using sC tm a l fun y hy=>h y (bf _ hy)⟩
theorem x_mkf(hv:HV P A ρ w tm a o){f:FuncId}{first cs:Array Operand}(ho:o.op= .makeFunc (.func f) first cs)(hs:first.size=0):XO' P A ρ w ((execOp a.eval o).run P w) next (.fn f ((lg cs.toList).map (·.ev tm))) none:=by
 have e1:first= #[]:=qT hs
 subst e1;refine cU (u:=.func (.func f) #[] (cs.map a.eval)) ?_ ?_
 ·unfold execOp;rw[ho];simp[Instr.makeFunc]
 ·simp only[VR];exact⟨_,rfl,by rw[Array.toList_map];exact sC tm a _ fun x hx=>hv x (by rw[ho];simp[Op.operands];simpa using hx)⟩
theorem x_mks(hv:HV P A ρ w tm a o){t e:TypeId}{x y:Operand}{i:TypeInfo}{z:List C}{l m:Nat}(ho:o.op= .makeSlice t x y)(hu:P.underlying t=some (.slice e))(hi:P.info? e=some i)(hz:zOf P e=some z)(hby:i.bytes<=100000)
  (hl:dJ ((aq x).ev tm)=some l) (hm:dJ ((aq y).ev tm)=some m) (h1:l<=m) (h2:m<=1000000):XO' P A ρ w ((execOp a.eval o).run P w) next (.sl next 0 l m true) (some (.cells e (dX z m))):=by
 obtain⟨i',v,k1,k2,k3,k4⟩:=gV hz;rw[hi]at k1;simp only[af]at k1;subst k1;obtain⟨kl,e1⟩:=eE hl (hv x bu);obtain⟨kc,e2⟩:=eE hm (hv y bu);have hbm:(i.bytes:Int)*m<=100000*1000000:=Int.mul_le_mul aa aa aa aa;have hr:=run_make (P:=P) w t e i v hu hi k2 kl kc l m aa aa aa aa;simp only[lK]at hr;refine zh (u:=.slice (some ⟨w.heap.size,0,none⟩) l m) (arr:=madeCells v.cells (m*i.size)) ?_ (by rw[<-k3];exact iM (k4 _ _ _) m) (fun A' ρ' _ e3 e4=>?_)
 ·unfold execOp;rw[ho];simp[e1,e2,hr]
 ·simp only[VR,Bool.true_eq_false,false_imp_iff,and_true,true_imp_iff];exact⟨e4,m,by rw[e3],h1,ah _,rfl⟩
theorem eD{x:Option Operand}{d n:Nat}(h:dz tm d (x.map aq)=some n)(hv:∀y,x=some y->OpV P A ρ w tm a y):(x=none/\n=d)\/∃y k,x=some y/\a.eval y= .int k (n:Int):=by
 cases x with
 |none=>simp[dz]at h;exact .inl ⟨rfl,h.symm⟩
 |some y=>
  simp only[bK,dz]at h;obtain⟨k,e⟩:=eE h (hv y rfl);exact .inr ⟨y,k,rfl,e⟩
theorem ny(w:World)(n cap l h m:Nat)(lo hi mx:Option Value)(hlo:(lo=none/\l=0)\/∃k,lo=some (.int k (l:Int)))(hhi:(hi=none/\mx=none/\h=n)\/∃k,hi=some (.int k (h:Int)))(hmx:(mx=none/\m=cap)\/∃k,mx=some (.int k (m:Int)))
  (h1:m<=cap) (h2:h<=m) (h3:l<=h):(Instr.sliceBounds true n cap lo hi mx).run P w= .ok (l,h,m) w:=by
 have e1:(m:Int)<=(cap:Int):=by omega
 have e2:(h:Int)<=(m:Int):=by omega
 have e3:(l:Int)<=(h:Int):=by omega
 rcases hmx with⟨rfl,rfl⟩|⟨km,rfl⟩<;>rcases hhi with⟨rfl,hm,rfl⟩|⟨kh,rfl⟩<;>rcases hlo with⟨rfl,rfl⟩|⟨kl,rfl⟩<;>first|(cases hm;done)|simp[Instr.sliceBounds,Instr.sliceBound,asIntOf,h1,h2,h3]
theorem Ez(hv:HV P A ρ w tm a o){t e:TypeId}{x:Operand}{lo hi mx:Option Operand}{s k off n cp:Nat}{ex:Bool}{l h m:Nat}(ho:o.op= .slice t x lo hi mx)(hu:P.underlying t=some (.slice e))(hs:cj P e=some s)(hhm:hi=none->mx=none)
  (hx:(aq x).ev tm= .sl k off n cp ex) (hl:dz tm 0 (lo.map aq)=some l) (hh:dz tm n (hi.map aq)=some h) (hm:dz tm cp (mx.map aq)=some m) (h1:m<=cp) (h2:h<=m) (h3:l<=h)
  (hlh:l=h):XO' P A ρ w ((execOp a.eval o).run P w) next .em none:=by
 have hX:=hv x bu;unfold OpV at hX;rw[hx]at hX;simp only[VR]at hX;obtain⟨_,cap,e0,_,hc,_,_⟩:=hX;have ml:∀y,lo=some y->OpV P A ρ w tm a y:=fun y hy=>hv y my;have mh:∀y,hi=some y->OpV P A ρ w tm a y:=fun y hy=>hv y my;have mm:∀y,mx=some y->OpV P A ρ w tm a y:=fun y hy=>hv y my;obtain⟨i,hi1,hi2⟩:=dm hs;obtain⟨m',hm1,hm2⟩:∃m',((mx.map a.eval=none/\m'=cap)\/∃k,mx.map a.eval=some (.int k (m':Int)))/\(m<=m'/\m'<=cap):=by
  rcases eD hm mm with⟨r1,r2⟩|⟨y,k,r1,r2⟩
  ·exact⟨cap,.inl ⟨by rw[r1];rfl,rfl⟩,⟨by omega,ah _⟩⟩
  ·exact⟨m,.inr ⟨k,by rw[r1,bK,r2]⟩,⟨ah _,by omega⟩⟩
 have hb:=ny (P:=P) w n cap l h m' (lo.map a.eval) (hi.map a.eval) (mx.map a.eval) (by
  rcases eD hl ml with⟨r1,r2⟩|⟨y,k,r1,r2⟩
  ·exact .inl ⟨by rw[r1];rfl,r2⟩
  ·exact .inr ⟨k,by rw[r1,bK,r2]⟩) (by
  rcases eD hh mh with⟨r1,r2⟩|⟨y,k,r1,r2⟩
  ·exact .inl ⟨by rw[r1];rfl,by rw[hhm r1];rfl,r2⟩
  ·exact .inr ⟨k,by rw[r1,bK,r2]⟩) hm1 hm2.2 aa h3
 have hrun:(execOp a.eval o).run P w= .ok (.value (.slice (if m'=l then some ⟨ρ k,off,none⟩else some ((⟨ρ k,off,none⟩:Addr).add (l*s))) (h-l) (m'-l))) w:=by
  unfold execOp;rw[ho];simp only[Instr.sliceAt,Instr.slice,e0,Sem.run_bind,run_underlying hu,Result.andThen_ok,hb];simp[sizeOf,typeInfo,hi1,hi2]
 refine cU hrun ?_;simp only[VR];exact⟨_,_,by rw[show h-l=0 by omega]⟩
theorem x_slc(hv:HV P A ρ w tm a o){t e:TypeId}{x:Operand}{lo hi mx:Option Operand}{s k off n cp:Nat}{ex ex':Bool}{l h m:Nat}{eg:Nat}(ho:o.op= .slice t x lo hi mx)(he:(mx=none/\ex'=ex)\/(mx.isSome=true/\ex'=true))(hu:P.underlying t=some (.slice e))(hs:cj P e=some s)(hhm:hi=none->mx=none)
  (hx:(aq x).ev tm= .sl k off n cp ex) (hl:dz tm 0 (lo.map aq)=some l) (hh:dz tm n (hi.map aq)=some h) (hm:dz tm cp (mx.map aq)=some m) (h1:m<=cp) (h2:h<=m) (h3:l<=h)
  (hoff:uA s off l m ex'=some eg):XO' P A ρ w ((execOp a.eval o).run P w) next (.sl k eg (h-l) (m-l) ex') none:=by
 have hX:=hv x bu;unfold OpV at hX;rw[hx]at hX;simp only[VR]at hX;obtain⟨hA,cap,e0,hn,hc,hex,hne⟩:=hX;have ml:∀y,lo=some y->OpV P A ρ w tm a y:=fun y hy=>hv y my;have mh:∀y,hi=some y->OpV P A ρ w tm a y:=fun y hy=>hv y my;have mm:∀y,mx=some y->OpV P A ρ w tm a y:=fun y hy=>hv y my;obtain⟨i,hi1,hi2⟩:=dm hs;obtain⟨m',hm1,hm2,hm3⟩:∃m',((mx.map a.eval=none/\m'=cap)\/∃k,mx.map a.eval=some (.int k (m':Int)))/\(m<=m'/\m'<=cap)/\((mx=none/\m'=cap)\/(mx.isSome=true/\m'=m)):=by
  rcases eD hm mm with⟨r1,r2⟩|⟨y,k,r1,r2⟩
  ·exact⟨cap, .inl ⟨by rw[r1];rfl,rfl⟩,⟨by omega,ah _⟩, .inl ⟨r1,rfl⟩⟩
  ·exact⟨m, .inr ⟨k,by rw[r1,bK,r2]⟩,⟨ah _,by omega⟩, .inr ⟨by rw[r1];rfl,rfl⟩⟩
 have hb:=ny (P:=P) w n cap l h m' (lo.map a.eval) (hi.map a.eval) (mx.map a.eval) (by
  rcases eD hl ml with⟨r1,r2⟩|⟨y,k,r1,r2⟩
  ·exact .inl ⟨by rw[r1];rfl,r2⟩
  ·exact .inr ⟨k,by rw[r1,bK,r2]⟩) (by
  rcases eD hh mh with⟨r1,r2⟩|⟨y,k,r1,r2⟩
  ·exact .inl ⟨by rw[r1];rfl,by rw[hhm r1];rfl,r2⟩
  ·exact .inr ⟨k,by rw[r1,bK,r2]⟩) hm1 hm2.2 aa h3
 have hrun:(execOp a.eval o).run P w= .ok (.value (.slice (if m'=l then some ⟨ρ k,off,none⟩else some ((⟨ρ k,off,none⟩:Addr).add (l*s))) (h-l) (m'-l))) w:=by
  unfold execOp;rw[ho];simp only[Instr.sliceAt,Instr.slice,e0,Sem.run_bind,run_underlying hu,Result.andThen_ok,hb];simp[sizeOf,typeInfo,hi1,hi2]
 have hmo:m'=m\/(mx=none/\ex=false):=by
  rcases hm3 with⟨r1,r2⟩|⟨_,r2⟩
  ·cases hx':ex with
   |true=>have:=hex hx';exact .inl (by subst r1;simp[dz]at hm;omega)
   |false=>exact .inr ⟨r1,rfl⟩
  ·exact .inl r2
 have haddr:(if m'=l then some (⟨ρ k,off,none⟩:Addr)else some ((⟨ρ k,off,none⟩:Addr).add (l*s)))=some ⟨ρ k,eg,none⟩/\(eg=0->l=0/\off=0\/m=l/\m'=m/\ex'=true):=by
  unfold uA at hoff;split at hoff
  ·simp only[af]at hoff;subst hoff;refine⟨?_,fun e=> .inl ⟨rfl,e⟩⟩;rw[kL,cD,cf];split<;>rfl
  ·next hl0=>
   split at hoff
   ·next hml=>
    have hml':m=l:=by simpa using hml
    cases hE:ex' with
    |true=>
     rw[hE]at hoff;simp only[af]at hoff;subst hoff;have hmm:m'=m:=hmo.resolve_right fun r=>by
      rcases he with⟨_,e1⟩|⟨e1,_⟩
      ·rw[e1,r.2]at hE;cases hE
      ·rw[r.1]at e1;cases e1
     exact⟨by rw[aB aa],fun _=> .inr ⟨hml',hmm,rfl⟩⟩
    |false=>rw[hE]at hoff;cases hoff
   ·next hml=>
    have hml':m≠l:=nK hml;split at hoff
    ·cases hoff
    ·next hs0=>
     simp only[af]at hoff;subst hoff;refine⟨by rw[aj aa,cD],fun e=>?_⟩;have:0<l*s:=mA (oM hl0) (oM hs0);omega
 rw[haddr.1]at hrun;refine cU hrun ?_;simp only[VR];refine⟨hA,m'-l,rfl,by omega,by omega,fun e=>?_,fun e eo=>?_⟩
 ·rcases hmo with r|⟨r1,r2⟩
  ·rw[r]
  ·rcases he with⟨_,e1⟩|⟨e1,_⟩
   ·rw[e1,r2]at e;cases e
   ·rw[r1]at e1;cases e1
 ·rcases haddr.2 eo with⟨r1,r2⟩|⟨_,_,r3⟩
  ·have hmx : mx = none /\ ex = false := by
    rcases he with⟨e1,e2⟩|⟨_,e2⟩
    ·exact⟨e1,by rw[<-e2];exact e⟩
    ·rw[e2]at e;cases e
   obtain⟨r3,T,s',r4,r5⟩:=hne hmx.2 r2;have:m'=cap:=by
    rcases hm3 with⟨_,r⟩|⟨r,_⟩
    ·exact r
    ·rw[hmx.1]at r;cases r
   rw[this,r1,gM];exact⟨r3,T,s',r4,r5⟩
  ·rw[r3]at e;cases e
theorem BS(hv:HV P A ρ w tm a o){t e:TypeId}{x:Operand}{lo hi mx:Option Operand}{s:Nat}(ho:o.op= .slice t x lo hi mx)(hu:P.underlying t=some (.slice e))(hs:cj P e=some s)(hhm:hi=none->mx=none)
  (hx:(aq x).ev tm= .sc (.slice none 0 0)) (hl:dz tm 0 (lo.map aq)=some 0) (hh:dz tm 0 (hi.map aq)=some 0) (hm:dz tm 0 (mx.map aq)=some 0):XO' P A ρ w ((execOp a.eval o).run P w) next (.sc (.slice none 0 0)) none:=by
 have hX:=hv x bu;unfold OpV at hX;rw[hx]at hX;simp only[VR]at hX;have ml:∀y,lo=some y->OpV P A ρ w tm a y:=fun y hy=>hv y my;have mh:∀y,hi=some y->OpV P A ρ w tm a y:=fun y hy=>hv y my;have mm:∀y,mx=some y->OpV P A ρ w tm a y:=fun y hy=>hv y my;obtain⟨i,hi1,hi2⟩:=dm hs;have hb:=ny (P:=P) w 0 0 0 0 0 (lo.map a.eval) (hi.map a.eval) (mx.map a.eval) (by
  rcases eD hl ml with⟨r1,r2⟩|⟨y,k,r1,r2⟩
  ·exact .inl ⟨by rw[r1];rfl,r2⟩
  ·exact .inr ⟨k,by rw[r1,bK,r2]⟩) (by
  rcases eD hh mh with⟨r1,r2⟩|⟨y,k,r1,r2⟩
  ·exact .inl ⟨by rw[r1];rfl,by rw[hhm r1];rfl,r2⟩
  ·exact .inr ⟨k,by rw[r1,bK,r2]⟩) (by
  rcases eD hm mm with⟨r1,r2⟩|⟨y,k,r1,r2⟩
  ·exact .inl ⟨by rw[r1];rfl,r2⟩
  ·exact .inr ⟨k,by rw[r1,bK,r2]⟩) (ah _) (ah _) (ah _)
 refine cU (u:=.slice none 0 0) ?_ (eQ rfl);unfold execOp;rw[ho];simp only[Instr.sliceAt,Instr.slice,hX.1,Sem.run_bind,run_underlying hu,Result.andThen_ok,hb];simp[sizeOf,typeInfo,hi1]
end CI
end
section
open Go.RowKit
namespace CI
variable {P : Program} {A : Nat->Prop} {ρ : Nat->Nat} {w : World} {tm : Tm} {a : Act} {o : Oper} {next : Nat} {c : C} {ob : Option B}
theorem kX{t:TypeId}{r:Bool}(h:rowOf P t=some r)(w:World):(isAgg t).run P w= .ok r w:=by
 unfold rowOf at h
 cases hu:P.underlying t with
 |none=>rw[hu]at h;cases h
 |some d=>
  unfold isAgg;rw[Sem.run_bind,run_underlying hu w];rw[hu]at h;cases d<;>simp at h<;>subst h<;>rfl
theorem CY(cs:Array Value)(i n:Nat):(cs.extract i (i+n)).toList=(cs.toList.drop i).take n:=by
 simp
theorem vP{t:TypeId}{r:Bool}{s off:Nat}{cs:Array Value}{p l:List C}{c:C}(hr:rowOf P t=some r)(hs:cj P t=some s)(hl:VCs P A ρ w l cs.toList)(hp:fD l off s=some p)(hc:di r p=some c):∃u,(Go.part t cs off).run P w= .ok u w/\VR P A ρ w c u:=by
 obtain⟨i,hi1,hi2⟩:=dm hs;obtain⟨k1,k2⟩:=hl.get hp;have k3:=k1.di hc
 cases r with
 |true=>
  simp only[if_true]at k3;refine⟨.agg (cs.extract off (off+s)),?_,?_⟩
  ·unfold Go.part;simp[kX hr,sizeOf,typeInfo,hi1,hi2]
  ·have : cs.extract off (off + s) = ((cs.toList.drop off).take s).toArray := by
    apply dN.1;rw[CY]
   rw[this];exact k3
 |false=>
  simp only[qU,if_false]at k3;obtain⟨u,e,k4⟩:=k3;refine⟨u,?_,k4⟩;have h0:((cs.toList.drop off).take s)[0]?=some u:=by rw[e];rfl
  have h1:cs[off]?=some u:=by
   rw[dV]at h0;split at h0
   ·rw[iD,cf,cV]at h0;exact h0
   ·cases h0
  unfold Go.part;simp[kX hr,h1]
theorem x_fa(hv:HV P A ρ w tm a o){t:TypeId}{x:Operand}{i k off s:Nat}{fs:Array Field}{f:Field}(ho:o.op= .fieldAddr t x i)(hu:P.underlying t=some (.struct fs))(hf:fs[i]?=some f)(hs:cj P f.type=some s)(h0:s≠0)(hx:(aq x).ev tm= .pt k off):XO' P A ρ w ((execOp a.eval o).run P w) next (.pt k (off+f.offset)) none:=by
 have hX:=hv x bu;unfold OpV at hX;rw[hx]at hX;simp only[VR]at hX;obtain⟨j,hj1,hj2⟩:=dm hs;refine cU (u:=.pointer (some ⟨ρ k,off+f.offset,none⟩)) ?_ (by simp only[VR];exact⟨hX.1,trivial⟩);unfold execOp;rw[ho];have h0':j.size≠0:=by omega
 simp[hX.2,Instr.fieldAt,run_underlying hu,hf,Instr.sureAddr,fieldPlace,sizeOf,typeInfo,hj1,h0',cD]
theorem x_fd(hv:HV P A ρ w tm a o){t:TypeId}{x:Operand}{i s:Nat}{r:Bool}{fs:Array Field}{f:Field}{l p:List C}(ho:o.op= .field t x i)(hu:P.underlying t=some (.struct fs))(hf:fs[i]?=some f)(hs:cj P f.type=some s)(hr:rowOf P f.type=some r)(hx:(aq x).ev tm= .ag l)(hp:fD l f.offset s=some p)(hc:di r p=some c):XO' P A ρ w ((execOp a.eval o).run P w) next c none:=by
 have hX:=hv x bu;unfold OpV at hX;rw[hx]at hX;simp only[VR]at hX;obtain⟨cs,e1,hl⟩:=hX;obtain⟨u,k1,k2⟩:=vP hr hs hl hp hc;refine cU (u:=u) ?_ k2;unfold execOp;rw[ho];simp[Instr.field,run_underlying hu,hf,e1,asAgg,k1]
theorem zP{t e:TypeId}(h:P.underlying t=some (.slice e)):P.elem t=e:=by unfold Program.elem;rw[h]
theorem x_ia(hv:HV P A ρ w tm a o){t e:TypeId}{x y:Operand}{i k off n cp s:Nat}{ex:Bool}(ho:o.op= .indexAddr t x y)(hu:P.underlying t=some (.slice e))(hs:cj P e=some s)(hi:dJ ((aq y).ev tm)=some i)(hx:(aq x).ev tm= .sl k off n cp ex)(hlt:i<n):XO' P A ρ w ((execOp a.eval o).run P w) next (.pt k (off+i*s)) none:=by
 have hX:=hv x bu;unfold OpV at hX;rw[hx]at hX;simp only[VR]at hX;obtain⟨hA,cap,e1,_⟩:=hX;obtain⟨ki,e2⟩:=eE hi (hv y bu);obtain⟨j,hj1,hj2⟩:=dm hs;refine cU (u:=.pointer (some ⟨ρ k,off+i*s,none⟩)) ?_ (by simp only[VR];exact⟨hA,trivial⟩);unfold execOp;rw[ho];have he:=zP hu;have hrun:=run_indexAt_slice (P:=P) (w:=w) t ⟨ρ k,off,none⟩ n cap ki (i:Int) (by rw[he];exact hu);rw[aB ⟨by omega,by omega⟩]at hrun;simp only[Sem.run_bind,e1,e2,hrun];simp[sizeOf,typeInfo,he,hj1,hj2,cD]
theorem x_iaA(hv:HV P A ρ w tm a o){t e:TypeId}{x y:Operand}{i k off n s:Nat}(ho:o.op= .indexAddr t x y)(hu:P.underlying t=some (.array n e))(hs:cj P e=some s)(hi:dJ ((aq y).ev tm)=some i)(hx:(aq x).ev tm= .pt k off)(hlt:i<n):XO' P A ρ w ((execOp a.eval o).run P w) next (.pt k (off+i*s)) none:=by
 have hX:=hv x bu;unfold OpV at hX;rw[hx]at hX;simp only[VR]at hX;obtain⟨hA,e1⟩:=hX;obtain⟨ki,e2⟩:=eE hi (hv y bu);obtain⟨j,hj1,hj2⟩:=dm hs;refine cU (u:=.pointer (some ⟨ρ k,off+i*s,none⟩)) ?_ (by simp only[VR];exact⟨hA,trivial⟩);unfold execOp;rw[ho];have hlt':(i:Int)<(n:Int):=by omega
 simp[Instr.indexAt,e1,e2,asIntOf,run_underlying hu,Instr.sureAddr,hlt,sizeOf,typeInfo,hj1,hj2,cD]
theorem x_ix(hv:HV P A ρ w tm a o){t e:TypeId}{x y:Operand}{i n s:Nat}{r:Bool}{l p:List C}(ho:o.op= .index t x y)(hu:P.underlying t=some (.array n e))(hs:cj P e=some s)(hr:rowOf P e=some r)(hi:dJ ((aq y).ev tm)=some i)(hx:(aq x).ev tm= .ag l)(hlt:i<n)(hp:fD l (i*s) s=some p)(hc:di r p=some c):XO' P A ρ w ((execOp a.eval o).run P w) next c none:=by
 have hX:=hv x bu;unfold OpV at hX;rw[hx]at hX;simp only[VR]at hX;obtain⟨cs,e1,hl⟩:=hX;obtain⟨ki,e2⟩:=eE hi (hv y bu);obtain⟨j,hj1,hj2⟩:=dm hs;obtain⟨u,k1,k2⟩:=vP hr hs hl hp hc;refine cU (u:=u) ?_ k2;unfold execOp;rw[ho];simp[Instr.index,e1,e2,asIntOf,run_underlying hu,hlt,sizeOf,typeInfo,hj1,hj2,k1]
theorem x_sx(hv:HV P A ρ w tm a o){t:TypeId}{x y:Operand}{i:Nat}{s:ByteArray}{b:UInt8}(ho:o.op= .index t x y)(hu:P.underlying t=some .string)(hi:dJ ((aq y).ev tm)=some i)(hx:(aq x).ev tm= .sc (.string s))(hb:s[i]?=some b):XO' P A ρ w ((execOp a.eval o).run P w) next (.sc (.int .u8 b.toNat)) none:=by
 have hX:=hv x bu;unfold OpV at hX;rw[hx]at hX;simp only[VR]at hX;obtain⟨ki,e2⟩:=eE hi (hv y bu);refine cU (u:=.int .u8 b.toNat) ?_ (eQ rfl);unfold execOp;rw[ho];simp[Instr.index,hX.1,e2,asIntOf,run_underlying hu,hb]
theorem VRl.at:∀{l:List C} {vs:List Value} {i:Nat} {c:C},VRl P A ρ w l vs->l[i]?=some c->∃u,vs[i]?=some u/\VR P A ρ w c u
 |[],_,_,_,_,h=>by simp at h
 |d::l,vs,0,c,h,e=>by
  simp only[VRl]at h;simp at e;subst e;obtain⟨u,rest,rfl,h2,_⟩:=h;exact⟨u,rfl,h2⟩
 |d::l,vs,i+1,c,h,e=>by
  simp only[VRl]at h;obtain⟨u,rest,rfl,h2,h3⟩:=h;obtain⟨u',k1,k2⟩:=VRl.at h3 pL;exact⟨u',by simpa using k1,k2⟩
theorem x_ext(hv:HV P A ρ w tm a o){x:Operand}{i:Nat}{l:List C}(ho:o.op= .extract x i)(hx:(aq x).ev tm= .tp l)(hc:l[i]?=some c):XO' P A ρ w ((execOp a.eval o).run P w) next c none:=by
 have hX:=hv x bu;unfold OpV at hX;rw[hx]at hX;simp only[VR]at hX;obtain⟨vs,e1,h2⟩:=hX;obtain⟨u,k1,k2⟩:=VRl.at h2 hc;refine cU (u:=u) ?_ k2;unfold execOp;rw[ho];have k1':vs[i]?=some u:=by simpa using k1
 simp[e1,Instr.extract,k1']
theorem x_nc(hv:HV P A ρ w tm a o){x:Operand}(ho:o.op= .nilCheck x)(hx:(∃k off,(aq x).ev tm= .pt k off)\/(∃f cs,(aq x).ev tm= .fn f cs)\/(∃k,(aq x).ev tm= .yl k)):XO' P A ρ w ((execOp a.eval o).run P w) next ((aq x).ev tm) none:=by
 have hX:=hv x bu;refine cU (u:=a.eval x) ?_ hX;unfold OpV at hX;unfold execOp;rw[ho];rcases hx with⟨k,off,e⟩|⟨f,cs,e⟩|⟨k,e⟩<;>rw[e]at hX<;>simp only[VR]at hX
 ·simp[hX.2]
 ·obtain⟨us,e2,_⟩:=hX;simp[e2]
 ·simp[hX.2]
theorem zi(hv:HV P A ρ w tm a o){t:TypeId}{x:Operand}{n:Nat}(ho:o.op= .call {callee:= .builtin .len,args:= #[x],argTypes:= #[t]})(hx:(∃e,P.underlying t=some (.slice e)/\((∃k off cp ex,(aq x).ev tm= .sl k off n cp ex)\/∃cp,(aq x).ev tm= .sc (.slice none n cp)))\/(∃s:ByteArray,P.underlying t=some .string/\(aq x).ev tm= .sc (.string s)/\s.size=n)):XO' P A ρ w ((execOp a.eval o).run P w) next (ofN n) none:=by
 have hX:=hv x fb;unfold OpV at hX;refine cU (u:= .int .i64 n) ?_ (eQ rfl);unfold execOp;rw[ho];rcases hx with⟨e,hu,hx⟩|⟨s,hu,hx,hn⟩
 ·have : ∃ ad cp, a.eval x = .slice ad n cp := by
   rcases hx with⟨k,off,cp,ex,e1⟩|⟨cp,e1⟩<;>rw[e1]at hX<;>simp only[VR]at hX
   ·obtain⟨_,cap,e2,_⟩:=hX;exact⟨_,_,e2⟩
   ·exact⟨_,_,hX.1⟩
  obtain⟨ad,cp,e2⟩:=this;simp[resolve,invoke,builtin,e2,Builtin.len_,run_underlying hu,goInt]
 ·rw[hx]at hX;simp only[VR]at hX;simp[resolve,invoke,builtin,hX.1,Builtin.len_,run_underlying hu,goInt,hn]
theorem EA(hv:HV P A ρ w tm a o){t e:TypeId}{x:Operand}(ho:o.op= .call {callee:=.builtin .len,args:=#[x],argTypes:=#[t]})(hu:P.underlying t=some (.slice e))(hx:(aq x).ev tm= .em):XO' P A ρ w ((execOp a.eval o).run P w) next (ofN 0) none:=by
 have hX:=hv x fb;unfold OpV at hX;refine cU (u:=.int .i64 0) ?_ (eQ rfl);unfold execOp;rw[ho];rw[hx]at hX;simp only[VR]at hX;obtain⟨ad,cp,e2⟩:=hX;simp[resolve,invoke,builtin,e2,Builtin.len_,run_underlying hu,goInt]
theorem Ef(hv:HV P A ρ w tm a o){t e:TypeId}{x:Operand}{n:Nat}(ho:o.op= .call {callee:=.builtin .cap,args:=#[x],argTypes:=#[t]})(hu:P.underlying t=some (.slice e))(hx:(∃k off m,(aq x).ev tm= .sl k off m n true)\/∃m,(aq x).ev tm= .sc (.slice none m n)):XO' P A ρ w ((execOp a.eval o).run P w) next (ofN n) none:=by
 have hX:=hv x fb;unfold OpV at hX;refine cU (u:=.int .i64 n) ?_ (eQ rfl);unfold execOp;rw[ho];have:∃ad m,a.eval x= .slice ad m n:=by
  rcases hx with⟨k,off,m,e1⟩|⟨m,e1⟩<;>rw[e1]at hX<;>simp only[VR]at hX
  ·obtain⟨_,cap,e2,_,_,h3,_⟩:=hX;have:cap=n:=by simpa using h3
   subst this;exact⟨_,_,e2⟩
  ·exact⟨_,_,hX.1⟩
 obtain⟨ad,m,e2⟩:=this;simp[resolve,invoke,builtin,e2,Builtin.cap_,run_underlying hu,goInt]
theorem Ee(hv:HV P A ρ w tm a o){ts:Array TypeId}{x y:Operand}{g:Bool}{k k':IntKind}{p q:Int}(ho:o.op= .call {callee:=.builtin (if g then .max else .min),args:=#[x,y],argTypes:=ts})(hx:(aq x).ev tm= .sc (.int k p))(hy:(aq y).ev tm= .sc (.int k' q)):XO' P A ρ w ((execOp a.eval o).run P w) next (.sc (.int k (if g then(if q>p then q else p)else(if q<p then q else p)))) none:=by
 have h1:=hv x fb;have h2:=hv y fb;unfold OpV at h1 h2;rw[hx]at h1;rw[hy]at h2;refine cU (u:=.int k (if g then(if q>p then q else p)else(if q<p then q else p))) ?_ (eQ rfl);unfold execOp;rw[ho];cases g<;>simp[resolve,invoke,builtin,h1.int,h2.int,Builtin.max_,Builtin.min_,Builtin.max2,Builtin.min2]
end CI
end
section
open Go.RowKit
namespace CI
variable {P : Program} {A : Nat->Prop} {ρ : Nat->Nat} {w : World} {tm : Tm} {a : Act} {o : Oper} {next : Nat} {c : C} {ob : Option B}
theorem ai{α β:Type}{f:α->β}{x:Option α}{y:β}(h:x.map f=some y):∃z,x=some z/\f z=y:=fF.1 h
theorem an{α β:Type}{f:α->Option β}{x:Option α}{y:β}(h:x.bind f=some y):∃z,x=some z/\f z=some y:=fK.1 h
theorem BU{x:X}(hc:ay P o.op=some x)(hT:x.isT=true)(hx:xT x tm next=some (c,ob))(hv:HV P A ρ w tm a o):XO' P A ρ w ((execOp a.eval o).run P w) next c ob:=by
 cases hop:o.op with
 |move y=>
  rw[hop]at hc;simp only[ay,af]at hc;subst hc;simp only[xT,af,av]at hx;obtain⟨rfl,rfl⟩:=hx;exact As hv (.inl hop)
 |assign y=>
  rw[hop]at hc;simp only[ay,af]at hc;subst hc;simp only[xT,af,av]at hx;obtain⟨rfl,rfl⟩:=hx;exact As hv (.inr hop)
 |pick y y1 y2=>
  rw[hop]at hc;simp only[ay,af]at hc;subst hc;simp only[xT]at hx;split at hx
  ·next e=>
   simp only[af,av]at hx;obtain⟨rfl,rfl⟩:=hx;exact Ar hv (t:=true) hop e
  ·next e=>
   simp only[af,av]at hx;obtain⟨rfl,rfl⟩:=hx;exact Ar hv (t:=false) hop e
  ·cases hx
 |alloc t=>
  rw[hop]at hc;simp only[ay]at hc;obtain⟨z,e1,rfl⟩:=ai hc;simp only[xT,af,av]at hx;obtain⟨rfl,rfl⟩:=hx;exact ED hop e1
 |box t y=>
  rw[hop]at hc;simp only[ay,af]at hc;subst hc;simp only[xT]at hx;obtain⟨p,e1,e2⟩:=ai hx;simp only[av]at e2;obtain⟨rfl,rfl⟩:=e2;exact x_box hv hop e1
 |build t ps=>
  rw[hop]at hc;simp only[ay]at hc;have key:∃z pl,zOf P t=some z/\placesOf P t ps.toList=some pl/\x= .build z pl/\((∃fs,P.underlying t=some (.struct fs)/\fs.toList.all (fun f=>(P.info? f.type).isSome)=true)\/∃n e s,P.underlying t=some (.array n e)/\cj P e=some s):=by
   split at hc
   ·next fs e=>
    split at hc
    ·next hall=>
     obtain⟨z,e1,hc⟩:=an hc;obtain⟨pl,e2,e3⟩:=ai hc;exact⟨z,pl,e1,e2,e3.symm,.inl ⟨fs,e,hall⟩⟩
    ·cases hc
   ·next n e' e=>
    obtain⟨s,e0,hc⟩:=an hc;obtain⟨z,e1,hc⟩:=an hc;obtain⟨pl,e2,e3⟩:=ai hc;exact⟨z,pl,e1,e2,e3.symm,.inr ⟨n,e',s,e,e0⟩⟩
   ·cases hc
  obtain⟨z,pl,e1,e2,rfl,e3⟩:=key;simp only[xT]at hx;obtain⟨l,e4,e5⟩:=ai hx;simp only[av]at e5;obtain⟨rfl,rfl⟩:=e5;exact EB hv hop e1 e2 e3 e4
 |buildSlice t n ps=>
  rw[hop]at hc;simp only[ay]at hc;split at hc
  ·next e hu=>
   obtain⟨s,e1,hc⟩:=an hc;obtain⟨z,e2,hc⟩:=an hc;split at hc
   ·next hb=>
    obtain⟨pl,e3,rfl⟩:=ai hc;simp only[bV,lP]at hb;simp only[xT]at hx;obtain⟨l,e4,e5⟩:=ai hx;simp only[av]at e5;obtain⟨rfl,rfl⟩:=e5;exact x_bsl hv hop hu e1 e2 e3 (cn hb.1.1) (by simpa[aX]using hb.1.2) (hb.2.imp (fun h=>by simpa[aX]using h) (fun h=>List.isEmpty_iff.1 h)) e4
   ·cases hc
  ·cases hc
 |load t y=>
  rw[hop]at hc;simp only[ay]at hc;obtain⟨s,_,hc⟩:=an hc;obtain⟨r,_,rfl⟩:=ai hc;simp[X.isT]at hT
 |store t y v=>
  rw[hop]at hc;simp only[ay]at hc;obtain⟨s,_,rfl⟩:=ai hc;simp[X.isT]at hT
 |binOp op t y y2 t2=>
  rw[hop]at hc;simp only[ay]at hc;split at hc
  ·simp only[af]at hc;subst hc;simp only[xT]at hx;obtain⟨c',e1,e2⟩:=ai hx;simp only[av]at e2;obtain⟨rfl,rfl⟩:=e2;exact x_bin hv hop e1
  ·next hu=>
   split at hc
   ·simp only[af]at hc;subst hc;simp only[xT]at hx;obtain⟨c',e1,e2⟩:=ai hx;simp only[av]at e2;obtain⟨rfl,rfl⟩:=e2;exact Eg hv hop hu rfl e1
   ·simp only[af]at hc;subst hc;simp only[xT]at hx;obtain⟨c',e1,e2⟩:=ai hx;simp only[av]at e2;obtain⟨rfl,rfl⟩:=e2;exact Eg hv hop hu rfl e1
   ·cases hc
  ·next hu=>
   split at hc
   ·simp only[af]at hc;subst hc;simp only[xT]at hx;obtain⟨c',e1,e2⟩:=ai hx;simp only[av]at e2;obtain⟨rfl,rfl⟩:=e2;exact Aq hv hop hu rfl e1
   ·simp only[af]at hc;subst hc;simp only[xT]at hx;obtain⟨c',e1,e2⟩:=ai hx;simp only[av]at e2;obtain⟨rfl,rfl⟩:=e2;exact Aq hv hop hu rfl e1
   ·cases hc
  ·cases hc
 |unOp op t y=>
  rw[hop]at hc;simp only[ay,af]at hc;subst hc;simp only[xT]at hx;obtain⟨c',e1,e2⟩:=ai hx;simp only[av]at e2;obtain⟨rfl,rfl⟩:=e2;exact x_un hv hop e1
 |convert t1 t2 y=>
  rw[hop]at hc;simp only[ay]at hc;split at hc
  ·next k1 k h1 h2=>
   simp only[af]at hc;subst hc;simp only[xT]at hx;split at hx
   ·next k2 n e=>
    simp only[af,av]at hx;obtain⟨rfl,rfl⟩:=hx;exact GD hv hop h1 h2 e
   ·cases hx
  ·cases hc
 |makeFunc f first cs=>
  rw[hop]at hc
  cases f with
  |func g=>
   simp only[ay]at hc;split at hc
   ·next hs=>
    simp only[af]at hc;subst hc;simp only[xT,af,av]at hx;obtain⟨rfl,rfl⟩:=hx;exact x_mkf hv hop hs
   ·cases hc
  |_=>simp[ay]at hc
 |makeSlice t y y2=>
  rw[hop]at hc;simp only[ay]at hc;split at hc
  ·next e hu=>
   obtain⟨i,e1,hc⟩:=an hc;obtain⟨z,e2,hc⟩:=an hc;split at hc
   ·next hb=>
    simp only[af]at hc;subst hc;simp only[xT]at hx;split at hx
    ·next l m h1 h2=>
     split at hx
     ·next h3 h4=>
      simp only[af,av]at hx;obtain⟨rfl,rfl⟩:=hx;exact x_mks hv hop hu e1 e2 (cn hb) h1 h2 (cn h3) (cn h4)
     ·cases hx
    ·cases hx
   ·cases hc
  ·cases hc
 |slice t y lo hi mx=>
  rw[hop]at hc;simp only[ay]at hc;split at hc
  ·next e hu=>
   have key:∃s,cj P e=some s/\x= .slc s (aq y) (lo.map aq) (hi.map aq) (mx.map aq)/\(hi=none->mx=none):=by
    split at hc
    ·cases hc
    ·next hn=>
     obtain⟨s,e1,e2⟩:=ai hc;refine⟨s,e1,e2.symm,fun h=>?_⟩
     cases mx with
     |none=>rfl
     |some z=>exact absurd rfl (hn z h)
   obtain⟨s,e1,rfl,hhm⟩:=key;simp only[xT]at hx;split at hx
   ·next k off n cp ex ey=>
    split at hx
    ·next l h m h1 h2 h3=>
     split at hx
     ·next h4 h5 h6=>
      split at hx
      ·next eg e2=>
       simp only[af,av]at hx;obtain⟨rfl,rfl⟩:=hx;exact x_slc hv hop (by cases mx<;>simp[rL]) hu e1 hhm ey h1 h2 h3 (cn h4) (cn h5) (cn h6) e2
      ·split at hx
       ·next hlh=>
        simp only[af,av]at hx;obtain⟨rfl,rfl⟩:=hx;exact Ez hv hop hu e1 hhm ey h1 h2 h3 (cn h4) (cn h5) (cn h6) (cg hlh)
       ·cases hx
     ·cases hx
    ·cases hx
   ·next ey=>
    split at hx
    ·next h1 h2 h3=>
     simp only[af,av]at hx;obtain⟨rfl,rfl⟩:=hx;exact BS hv hop hu e1 hhm ey h2 h1 h3
    ·cases hx
   ·cases hx
  ·cases hc
 |fieldAddr t y i=>
  rw[hop]at hc;simp only[ay]at hc;split at hc
  ·next fs hu=>
   obtain⟨f,e1,hc⟩:=an hc;obtain⟨s,e2,hc⟩:=an hc;split at hc
   ·cases hc
   ·next h0=>
    simp only[af]at hc;subst hc;simp only[xT]at hx;split at hx
    ·next k off ey=>
     simp only[af,av]at hx;obtain⟨rfl,rfl⟩:=hx;exact x_fa hv hop hu e1 e2 (fun e=>h0 e) ey
    ·cases hx
  ·cases hc
 |field t y i=>
  rw[hop]at hc;simp only[ay]at hc;split at hc
  ·next fs hu=>
   obtain⟨f,e1,hc⟩:=an hc;obtain⟨s,e2,hc⟩:=an hc;obtain⟨r,e3,rfl⟩:=ai hc;simp only[xT]at hx;split at hx
   ·next l ey=>
    obtain⟨c',e4,e5⟩:=ai hx;simp only[av]at e5;obtain⟨rfl,rfl⟩:=e5;obtain⟨p,e6,e7⟩:=an e4;exact x_fd hv hop hu e1 e2 e3 ey e6 e7
   ·cases hx
  ·cases hc
 |indexAddr t y i=>
  rw[hop]at hc;simp only[ay]at hc;split at hc
  ·next e hu=>
   obtain⟨s,e1,rfl⟩:=ai hc;simp only[xT]at hx;split at hx
   ·next i' hi=>
    split at hx
    ·next k off n cp ex ey _=>
     split at hx
     ·next hlt=>
      simp only[af,av]at hx;obtain⟨rfl,rfl⟩:=hx;exact x_ia hv hop hu e1 hi ey (by simpa[aX]using hlt)
     ·cases hx
    ·next hh=>cases hh
    ·cases hx
   ·cases hx
  ·next n e hu=>
   obtain⟨s,e1,rfl⟩:=ai hc;simp only[xT]at hx;split at hx
   ·next i' hi=>
    split at hx
    ·next hh=>cases hh
    ·next k off n' ey hh=>
     simp only[af]at hh;subst hh;split at hx
     ·next hlt=>
      simp only[af,av]at hx;obtain⟨rfl,rfl⟩:=hx;exact x_iaA hv hop hu e1 hi ey (by simpa[aX]using hlt)
     ·cases hx
    ·cases hx
   ·cases hx
  ·cases hc
 |index t y i=>
  rw[hop]at hc;simp only[ay]at hc;split at hc
  ·next n e hu=>
   obtain⟨s,e1,hc⟩:=an hc;obtain⟨r,e2,rfl⟩:=ai hc;simp only[xT]at hx;split at hx
   ·next i' l hi ey=>
    split at hx
    ·next hlt=>
     obtain⟨c',e4,e5⟩:=ai hx;simp only[av]at e5;obtain⟨rfl,rfl⟩:=e5;obtain⟨p,e6,e7⟩:=an e4;exact x_ix hv hop hu e1 e2 hi ey (by simpa[aX]using hlt) e6 e7
    ·cases hx
   ·cases hx
  ·next hu=>
   simp only[af]at hc;subst hc;simp only[xT]at hx;split at hx
   ·next i' s hi ey=>
    obtain⟨b,e4,e5⟩:=ai hx;simp only[av]at e5;obtain⟨rfl,rfl⟩:=e5;exact x_sx hv hop hu hi ey e4
   ·cases hx
  ·cases hc
 |extract y i=>
  rw[hop]at hc;simp only[ay,af]at hc;subst hc;simp only[xT]at hx;split at hx
  ·next l ey=>
   obtain⟨c',e4,e5⟩:=ai hx;simp only[av]at e5;obtain⟨rfl,rfl⟩:=e5;exact x_ext hv hop ey e4
  ·cases hx
 |nilCheck y=>
  rw[hop]at hc;simp only[ay,af]at hc;subst hc;simp only[xT]at hx;split at hx
  ·next k off ey=>
   simp only[af,av]at hx;obtain⟨rfl,rfl⟩:=hx;rw[<-ey];exact x_nc hv hop (.inl ⟨k,off,ey⟩)
  ·next f cs ey=>
   simp only[af,av]at hx;obtain⟨rfl,rfl⟩:=hx;rw[<-ey];exact x_nc hv hop (.inr (.inl ⟨f,cs,ey⟩))
  ·next k ey=>
   simp only[af,av]at hx;obtain⟨rfl,rfl⟩:=hx;rw[<-ey];exact x_nc hv hop (.inr (.inr ⟨k,ey⟩))
  ·cases hx
 |call cl=>
  obtain⟨callee,args,argTypes⟩:=cl;rw[hop]at hc
  cases callee with
  |value f=>
   simp only[ay,af]at hc;subst hc;simp[X.isT]at hT
  |invoke r m=>simp[ay]at hc
  |builtin b=>
   simp only[ay]at hc;split at hc
   ·next y t ha ht=>
    have ha':args= #[y]:=dN.1 ha;have ht':argTypes= #[t]:=dN.1 ht;subst ha';subst ht';split at hc
    ·next e hu=>
     simp only[af]at hc;subst hc;simp only[xT]at hx;split at hx
     ·next k off n cp ex ey=>
      simp only[af,av]at hx;obtain⟨rfl,rfl⟩:=hx;exact zi hv hop (.inl ⟨e,hu,.inl ⟨k,off,cp,ex,ey⟩⟩)
     ·next ey=>
      simp only[af,av]at hx;obtain⟨rfl,rfl⟩:=hx;exact EA hv hop hu ey
     ·next n cp ey=>
      simp only[af,av]at hx;obtain⟨rfl,rfl⟩:=hx;exact zi hv hop (.inl ⟨e,hu,.inr ⟨cp,ey⟩⟩)
     ·cases hx
    ·next hu=>
     simp only[af]at hc;subst hc;simp only[xT]at hx;split at hx
     ·next s ey=>
      simp only[af,av]at hx;obtain⟨rfl,rfl⟩:=hx;exact zi hv hop (.inr ⟨s,hu,ey,rfl⟩)
     ·cases hx
    ·cases hc
   ·next y y2 ha=>
    have ha':args= #[y,y2]:=dN.1 ha;subst ha';simp only[af]at hc;subst hc;simp only[xT]at hx;split at hx
    ·next k p k' q e1 e2=>
     simp only[af,av]at hx;obtain⟨rfl,rfl⟩:=hx;exact Ee hv (g:=false) hop e1 e2
    ·cases hx
   ·next y y2 ha=>
    have ha':args= #[y,y2]:=dN.1 ha;subst ha';simp only[af]at hc;subst hc;simp only[xT]at hx;split at hx
    ·next k p k' q e1 e2=>
     simp only[af,av]at hx;obtain⟨rfl,rfl⟩:=hx;exact Ee hv (g:=true) hop e1 e2
    ·cases hx
   ·next y y2 t t' ha ht=>
    split at hc
    ·split at hc
     ·cases hc
     ·obtain⟨i,_,hc⟩:=an hc;obtain⟨z,_,hc⟩:=an hc;split at hc
      ·simp only[af]at hc;subst hc;simp[X.isT]at hT
      ·cases hc
    ·obtain⟨i,_,hc⟩:=an hc;obtain⟨z,_,hc⟩:=an hc;split at hc
     ·simp only[af]at hc;subst hc;simp[X.isT]at hT
     ·cases hc
    ·cases hc
   ·next y t ha ht=>
    have ha':args= #[y]:=dN.1 ha;have ht':argTypes= #[t]:=dN.1 ht;subst ha';subst ht';split at hc
    ·next e hu=>
     simp only[af]at hc;subst hc;simp only[xT]at hx;split at hx
     ·next k off n cp ey=>
      simp only[af,av]at hx;obtain⟨rfl,rfl⟩:=hx;exact Ef hv hop hu (.inl ⟨k,off,n,ey⟩)
     ·next m n ey=>
      simp only[af,av]at hx;obtain⟨rfl,rfl⟩:=hx;exact Ef hv hop hu (.inr ⟨m,ey⟩)
     ·cases hx
    ·cases hc
   ·split at hc
    ·obtain⟨i,_,hc⟩:=an hc;obtain⟨z,_,rfl⟩:=ai hc;simp[X.isT]at hT
    ·cases hc
   ·cases hc
 |_=>rw[hop]at hc;simp[ay]at hc
end CI
end
section
open Go.RowKit
namespace CI
variable {P : Program} {A : Nat->Prop} {ρ : Nat->Nat} {w : World} {tm : Tm} {a : Act} {o : Oper} {c : C} {h h' : H}
def ME(P:Program)(A:Nat->Prop)(ρ:Nat->Nat)(w:World)(h:H)(r:Result Next)(c:C)(h':H):Prop:=
 ∃u w' ρ',(r= .ok (.value u) w'\/(r= .ok .skip w'/\u=undef))/\bO P A ρ w h ρ' w' h'/\VR P (Ext A h h') ρ' w' c u
theorem aO{k:Nat}{b:B}(e:h.get k=some b):h.live k:=by unfold H.live;rw[e];rfl
theorem qd{r:Nat}{arr:Array Value}{T:TypeId}{xs rest:List Value}(hg:w.heap[r]?=some (.cells arr T (0,0)))(e:arr.toList=xs++rest){j:Nat}{v:Value}(hj:xs[j]?=some v):w.cell? ⟨r,j,none⟩=some v:=by
 rw[cell_of_row w r _ _ _ (0,0) hg,<-cV,e,eP (cF.1 hj).1];exact hj
theorem rK(t:Rel P A ρ w h){k off s:Nat}{r:Bool}{T:TypeId}{l p:List C}{ty:TypeId}(hb:h.get k=some (.cells T l))(hp:fD l off s=some p)(hc:di r p=some c)(hr:rowOf P ty=some r)(hs:cj P ty=some s):
  ∃u,(loadVar ty ⟨ρ k,off,none⟩).run P w= .ok u w/\VR P A ρ w c u:=by
 obtain⟨_,_,_,arr,xs,rest,e1,e2,e3,_⟩:=t.blk k _ hb;obtain⟨k1,k2⟩:=e3.get hp;have k3:=k1.di hc;obtain⟨i,hi1,hi2⟩:=dm hs;have hcell:∀j v,((xs.drop off).take s)[j]?=some v->w.cell? ((⟨ρ k,off,none⟩:Addr).add j)=some v:=fun j v hj=>by
  rw[cD];rw[dV]at hj;split at hj
  ·rw[iD]at hj;exact qd e1 e2 hj
  ·cases hj
 have hlen:((xs.drop off).take s).length=s:=by rw[ba,eu];omega
 cases r with
 |true=>
  simp only[if_true]at k3;refine⟨_,?_,k3⟩;have hr2:=run_loadCells_list (P:=P) (w:=w) ⟨ρ k,off,none⟩ ((xs.drop off).take s) hcell;rw[hlen]at hr2;unfold loadVar;simp[kX hr,sizeOf,typeInfo,hi1,hi2,hr2]
 |false=>
  simp only[qU,if_false]at k3;obtain⟨u,e,k4⟩:=k3;refine⟨u,?_,k4⟩;have h0:=hcell 0 u (by rw[e];rfl);rw[cD,cf]at h0;unfold loadVar;simp[kX hr,h0]
theorem Hn(hv:HV P A ρ w tm a o)(t:Rel P A ρ w h){ty:TypeId}{x:Operand}{s:Nat}{r:Bool}(ho:o.op= .load ty x)(hr:rowOf P ty=some r)(hs:cj P ty=some s)(hx:jL r s ((aq x).ev tm) h=some c):ME P A ρ w h ((execOp a.eval o).run P w) c h:=by
 have hX:=hv x bu;unfold OpV at hX;unfold jL at hx;split at hx
 ·next k off e=>
  rw[e]at hX;simp only[VR]at hX;split at hx
  ·next T l hb=>
   obtain⟨p,e1,e2⟩:=an hx;obtain⟨u,k1,k2⟩:=rK t hb e1 e2 hr hs;have p0:=bO.refl t;refine⟨u,w,ρ,.inl ?_,p0,VR.mo ⟨fun _ hk=>.inl hk,fun _ _=>rfl⟩ (Lt.refl w) _ _ k2⟩;unfold execOp;rw[ho];simp[hX.2,Instr.loadAt,Instr.sureAddr,k1]
  ·cases hx
 ·cases hx
theorem nW(t:Rel P A ρ w h){k off:Nat}{T:TypeId}{l l' new:List C}{ys:List Value}{s:Nat}(hb:h.get k=some (.cells T l))(hs:kg l off s new=some l')(hn:VCs P A ρ w new ys)(hl:ys.length=s):
  ∃arr,w.heap[ρ k]?=some (.cells arr T (0,0))/\off+s<=arr.size/\bO P A ρ w h ρ (w.setRow (ρ k) (arr.toList.take off++ys++arr.toList.drop (off+s)).toArray) (h.set k (some (.cells T l'))):=by
 obtain⟨_,_,hlt,arr,xs,rest,e1,e2,e3,e4⟩:=t.blk k _ hb;obtain⟨k1,k2⟩:=e3.set hn hs;have hlen:off+s<=arr.size:=by rw[<-bL,e2,cT];omega
 refine⟨arr,e1,hlen,?_⟩;have hnew:=setRow_heap w (ρ k) arr (arr.toList.take off++ys++arr.toList.drop (off+s)).toArray T (0,0) e1;have hc:Chg (ρ k) w (w.setRow (ρ k) (arr.toList.take off++ys++arr.toList.drop (off+s)).toArray):=⟨rfl,rfl,rfl,by simp,fun j _ hj=>setRow_other w (ρ k) j _ hj⟩;have hsz:(arr.toList.take off++ys++arr.toList.drop (off+s)).toArray.size=arr.size:=by
  simp only[iB,cT,ba,eu,bL];omega
 have hsh:∀q,w.shape? (ρ k)=some q->(w.setRow (ρ k) (arr.toList.take off++ys++arr.toList.drop (off+s)).toArray).shape? (ρ k)=some q:=fun q hq=>by
  unfold World.shape? at hq⊢;rw[e1]at hq;rw[hnew];simp only at hq⊢;rw[hsz];exact hq
 have hLt:=Lt.chg hc e4 hsh;have harr:(arr.toList.take off++ys++arr.toList.drop (off+s))=(xs.take off++ys++xs.drop (off+s))++rest:=by
  rw[e2,vb aa,uj aa];simp only[fq]
 refine vA t (aO hb) hc e4 hsh ⟨_,xs.take off++ys++xs.drop (off+s),rest,hnew,by rw[nJ];exact harr,VCs.mo (Mo.refl A ρ) hLt _ _ k1,fun n e=>?_⟩;rw[cell_of_row _ (ρ k) _ _ _ (0,0) hnew,<-cV,nJ,harr]at e;by_cases hx:(xs.take off++ys++xs.drop (off+s))=[]
 ·have hx0 : xs = [] := by
   apply iy;have:=jG List.length hx;simp only[cT,ba,eu,gK]at this;omega
  rw[hx,iw]at e;refine e4 n ?_;rw[cell_of_row _ (ρ k) _ _ _ (0,0) e1,<-cV,e2,hx0,iw];exact e
 ·rw[eP (fG.2 hx)]at e;exact VCs.nw k1 n e
theorem Fz(hv:HV P A ρ w tm a o)(t:Rel P A ρ w h){ty:TypeId}{x y:Operand}{s:Nat}(ho:o.op= .store ty x y)(hs:cj P ty=some s)(hx:ju s ((aq x).ev tm) ((aq y).ev tm) h=some h'):ME P A ρ w h ((execOp a.eval o).run P w) .any h'/\Good h h':=by
 have hX:=hv x bu;have hY:=hv y bu;unfold OpV at hX hY;unfold ju at hx;split at hx
 ·next k off e=>
  rw[e]at hX;simp only[VR]at hX;split at hx
  ·next T l hb=>
   obtain⟨p,e1,hx⟩:=an hx;split at hx
   ·next hw=>
    obtain⟨l',e2,rfl⟩:=ai hx;have hp:=VR.flat hY e1;have hlen:(a.eval y).cells.toList.length=s:=by rw[hp.len];simpa using hw
    obtain⟨arr,k1,k2,k3⟩:=nW t hb e2 hp hlen;obtain⟨i,hi1,hi2⟩:=dm hs;have hk:k<1000000:=aV (t.live (aO hb)).1 t.bd;refine⟨⟨undef,_,ρ,.inr ⟨?_,rfl⟩,k3,by simp only[VR]⟩,pZ hk (aO hb)⟩;have hst:=run_storeCells_at P (ρ k) off T (a.eval y).cells.toList 0 arr w k1 aa hp.one;have hsz:(a.eval y).cells.size=s:=by rw[<-hlen,bL]
    unfold execOp;rw[ho];simp only[cf,hlen]at hst;simp[hX.2,Instr.storeAt,Instr.sureAddr,storeVar,sizeOf,typeInfo,hi1,hi2,hsz,hst]
   ·cases hx
  ·cases hx
 ·cases hx
theorem tK{k r:Nat}{b:B}{w':World}(t:Rel P A ρ w h)(hl:h.live k)(e:(h.set k none).new b=some h')(hd:Dj A h h')(hc:Chg (ρ k) w w')(hnw:NW w (ρ k))(hs:∀s,w.shape? (ρ k)=some s->w'.shape? (ρ k)=some s)
  (hr:r=ρ k\/w.heap.size<=r/\r<w'.heap.size) (hB:∀A' ρ',Mo A A' ρ ρ'->ρ' h.next=r->A' h.next->BR P A' ρ' w' r b):bO P A ρ w h (at' ρ h.next r) w' h'/\Good h h':=by
 obtain⟨m1,m2,m3⟩:=t.live hl;have hk:k<1000000:=aV m1 t.bd;obtain⟨s1,s2,s3,s4⟩:=mM (h:=h) (b:=none) hk;obtain⟨k1,k2,k3,k4,k5⟩:=cw e;rw[s1]at k1 k4 k5;rw[s2]at k3;have hlt:=Lt.chg hc hnw hs;have hmo:Mo A (Ext A h h') ρ (at' ρ h.next r):=⟨fun _ hk=> .inl hk,fun k hk=>by
  have:=hd k hk;unfold at';rw[aj aa]⟩
 have hat:∀j,j≠h.next->at' ρ h.next r j=ρ j:=fun j hj=>by unfold at';rw[aj hj]
 have hatn:at' ρ h.next r h.next=r:=by unfold at';rw[aB rfl]
 have hT:∀j,T.get h'.t j=if j=h.next then some b else if j=k then none else T.get h.t j:=fun j=>by rw[k5,s4]
 have hg:∀j c,h'.get j=some c->(j=h.next/\c=b)\/(j≠h.next/\j≠k/\h.get j=some c):=fun j c ej=>by
  unfold H.get at ej⊢;rw[k3]at ej;split at ej
  ·cases ej
  ·next hf=>
   rw[hT]at ej;by_cases e1:j=h.next
   ·rw[aB e1]at ej;simp only[af]at ej;exact .inl ⟨e1,ej.symm⟩
   ·rw[aj e1]at ej;by_cases e2:j=k
    ·rw[aB e2]at ej;cases ej
    ·rw[aj e2]at ej;exact .inr ⟨e1,e2,ej⟩
 have hlv:∀j,h'.live j->j=h.next\/(j≠h.next/\j≠k/\h.live j):=fun j hj=>by
  obtain⟨c,ec⟩:=cq.1 hj;rcases hg j c ec with⟨e1,_⟩|⟨e1,e2,e3⟩
  ·exact .inl e1
  ·exact .inr ⟨e1,e2,aO e3⟩
 have hlow:h'.low<=h.low/\h'.low<=k:=by rw[k2];exact s3
 refine⟨⟨fun j hj=>hat j aa,⟨fun j c ej=>?_,fun i j hi hj ee=>?_,by omega⟩,hlt,fun q hq hn=>hc.block q hq fun e2=>hn k hl hlow.2 e2.symm,fun j hj hlj=>?_⟩,⟨by omega,hlow.1,k3,fun j hj hlo=>?_,fun j hj hd=>?_⟩⟩
 ·rcases hg j c ej with⟨e1,e2⟩|⟨e1,e2,e3⟩
  ·subst e1;subst e2;have hA:Ext A h h' h.next:= .inr ⟨ah _,by omega⟩
   rw[hatn];refine⟨by omega,hA,?_,hB _ _ hmo hatn hA⟩;rcases hr with hr|hr
   ·rw[hr];exact aV m3 hlt.size
   ·exact hr.2
  ·obtain⟨n1,n2,n3,n4⟩:=t.blk j c e3;rw[hat j e1];have hne:ρ j≠ρ k:=fun e5=>e2 (t.inj j k (aO e3) hl e5);exact⟨by omega, .inl n2,aV n3 hlt.size,n4.mo hmo hlt (hc.block _ n3 hne)⟩
 ·have key : ∀ i, i ≠ h.next -> i ≠ k -> h.live i -> ρ i ≠ r := fun i h1 h2 h3 e5 => by
   rcases hr with hr|hr
   ·rw[hr]at e5;exact h2 (t.inj i k h3 hl e5)
   ·have:=(t.live h3).2.2;omega
  rcases hlv i hi with hi'|⟨hi1,hi2,hi3⟩<;>rcases hlv j hj with hj'|⟨hj1,hj2,hj3⟩
  ·rw[hi',hj']
  ·rw[hi',hatn,hat j hj1]at ee;exact absurd ee.symm (key j hj1 hj2 hj3)
  ·rw[hj',hatn,hat i hi1]at ee;exact absurd ee (key i hi1 hi2 hi3)
  ·rw[hat i hi1,hat j hj1]at ee;exact t.inj i j hi3 hj3 ee
 ·rcases hlv j hlj with e1|⟨_,_,e3⟩
  ·subst e1;rw[hatn];rcases hr with hr|hr
   ·exact .inr ⟨k,hl,hlow.2,hr⟩
   ·exact .inl hr.1
  ·have:=(t.live e3).1;omega
 ·rw[hT,aj aa,aj aa]
 ·rw[hT,aj aa,aj (fun e2=>hd (by rw[e2];exact hl))]
end CI
end
section
open Go.RowKit
namespace CI
variable {P : Program} {A : Nat->Prop} {ρ : Nat->Nat} {w : World} {tm : Tm} {a : Act} {o : Oper} {c : C} {h h' : H}
theorem Ca(t:Rel P A ρ w h){s m:Nat}{b:C}{v:Value}{new:List C}(hb:slW s b h=some (new,m))(hv:VR P A ρ w b v):∃ys,VCs P A ρ w new ys/\ys.length=m*s/\((m=0/\∃ad cp,v= .slice ad 0 cp)\/∃ad cp,v= .slice (some ad) m cp/\∀j u,ys[j]?=some u->w.cell? (ad.add j)=some u):=by
 unfold slW at hb;split at hb
 ·simp only[af,av]at hb;obtain⟨rfl,rfl⟩:=hb;simp only[VR]at hv;exact⟨[],by simp only[VCs],by simp,.inl ⟨rfl,none,0,hv.1⟩⟩
 ·simp only[af,av]at hb;obtain⟨rfl,rfl⟩:=hb;simp only[VR]at hv;exact⟨[],by simp only[VCs],by simp,.inl ⟨rfl,hv⟩⟩
 ·next k off n cp ex=>
  split at hb
  ·next T l hg=>
   obtain⟨p,e1,e2⟩:=ai hb;simp only[av]at e2;obtain⟨rfl,rfl⟩:=e2;obtain⟨_,_,_,arr,xs,rest,f1,f2,f3,_⟩:=t.blk k _ hg;obtain⟨k1,k2⟩:=f3.get e1;simp only[VR]at hv;obtain⟨_,cap,hv,_⟩:=hv;refine⟨_,k1,by rw[ba,eu];omega,.inr ⟨_,_,hv,fun j u hj=>?_⟩⟩;rw[cD];rw[dV]at hj;split at hj
   ·rw[iD]at hj;exact qd f1 f2 hj
   ·cases hj
  ·cases hb
 ·cases hb
theorem ky{T s m cap:Nat}{arr:Array Value}{A':Nat->Prop}{ρ':Nat->Nat}{w':World}{k r:Nat}(hA:A' k)(hr:ρ' k=r)(hg:w'.heap[r]?=some (.cells arr T (0,0)))(hs:cj P T=some s)(hm:m<=cap)(hml:cap<=maxLen)(hsz:arr.size=cap*s):VR P A' ρ' w' (.sl k 0 m m false) (.slice (some ⟨r,0,none⟩) m cap):=by
 simp only[VR,qU,false_imp_iff,true_and,true_imp_iff];refine⟨hA,cap,by rw[hr],ah _,hm,hml,T,s,?_,hs⟩;unfold World.shape?;rw[hr,hg];show some (T,arr.size)=_;rw[hsz]
theorem py(w:World)(arr:Array Value)(T:TypeId){l:List C}{xs rest:List Value}{A':Nat->Prop}{ρ':Nat->Nat}(m:Mo A A' ρ ρ')(hb:Below w.heap.size w (w.drew.alloc (.cells arr T)))(e:arr.toList=xs++rest)(hl:VCs P A ρ w l xs)(hne:xs≠[]):BR P A' ρ' (w.drew.alloc (.cells arr T)) w.heap.size (.cells T l):=by
 refine⟨arr,xs,rest,heap_alloc_new w.drew _,e,VCs.mo m (Lt.below hb) _ _ hl,fun n e2=>?_⟩;rw[cell_of_row _ w.heap.size _ _ _ (0,0) (heap_alloc_new w.drew _),<-cV,e,eP (fG.2 hne)]at e2;exact VCs.nw hl n e2
theorem fY(w:World)(arr:Array Value)(T:TypeId):Below w.heap.size w (w.drew.alloc (.cells arr T)):=((Below.refl _ w).drew).alloc (by exact ah _) _
theorem vD{t ty e:TypeId}{i:TypeInfo}(ht:P.underlying t=some (.slice e))(hi:P.info? e=some i){g off n cap:Nat}{cur:Array Value}{T:TypeId}(hg:w.heap[g]?=some (.cells cur T (0,0)))
  {ad:Addr} {m cp:Nat} {ys:List Value} (hl:ys.length=m*i.size) (hc:∀j u,ys[j]?=some u->w.cell? (ad.add j)=some u) (h1:∀u∈ys,u.oneCell'=true) (hroom:n+m<=cap) (hfit:off+n*i.size+ys.length<=cur.size):
  (Builtin.append_ #[t,t] ty #[.slice (some ⟨g,off,none⟩) n cap,.slice (some ad) m cp]).run P w= .ok (.slice (some ⟨g,off,none⟩) (n+m) cap) (w.setRow g (cur.toList.take (off+n*i.size)++ys++cur.toList.drop (off+n*i.size+ys.length)).toArray):=by
 have hf:=run_firstCells_some (P:=P) w i.size m ad m cp ys hl hc;have hst:=run_storeCells_at P g (off+n*i.size) T ys 0 cur w hg (by simpa using hfit) h1;simp only[cf]at hst;simp[Builtin.append_,run_underlying ht,sizeOf,typeInfo,hi,Builtin.lenOf,hroom,hf,Addr.add_lit,hst]
theorem m_app(hv:HV P A ρ w tm a o)(t:Rel P A ρ w h)(hd:Dj A h h'){ty e:TypeId}{x y:Operand}{s:Nat}{i:TypeInfo}{z:List C}(ho:o.op= .call {callee:=.builtin .append,args:=#[x,y],argTypes:=#[ty,ty]})(hu:P.underlying ty=some (.slice e))(hi:P.info? e=some i)(his:i.size=s)(hz:zOf P e=some z)(hby:i.bytes<=100000)(h0:0<s)
  (hx:vh e s ((aq x).ev tm) ((aq y).ev tm) h=some (c,h')):ME P A ρ w h ((execOp a.eval o).run P w) c h'/\Good h h':=by
 have hX:=hv x fb;have hY:=hv y fb;unfold OpV at hX hY;unfold vh at hx;have hq:=an hx;clear hx;obtain⟨⟨new,m⟩,e1,hx⟩:=hq;obtain⟨ys,k1,k2,k3⟩:=Ca t e1 hY;obtain⟨i',zv,z1,z2,z3,_⟩:=gV hz;rw[hi]at z1;simp only[af]at z1;subst z1;have hse:cj P e=some s:=by unfold cj;rw[hi,bK,his]
 have hex:∀v w',(Builtin.append_ #[ty,ty] o.type #[a.eval x,a.eval y]).run P w= .ok v w'->(execOp a.eval o).run P w= .ok (.value v) w':=fun v w' hr=>by
  unfold execOp;rw[ho];simp[resolve,invoke,builtin,hr]
 simp only at hx;unfold kN at hx;split at hx
 ·
  have hys:ys=[]:=iy (by simpa using k2);have hyv:∃ad cp,a.eval y= .slice ad 0 cp:=by
   rcases k3 with⟨_,h⟩|⟨ad,cp,h,_⟩
   ·exact h
   ·exact⟨_,_,h⟩
  obtain⟨ad,cp,hyv⟩:=hyv;have hfc:∀ad:Option Addr,(Builtin.firstCells i.size 0 (.slice ad 0 cp)).run P w= .ok #[] w:=fun ad=>by
   cases ad<;>simp[Builtin.firstCells,loadCells,loadCellsFrom]
  have key:c=(aq x).ev tm/\h'=h/\∃b n cap,a.eval x= .slice b n cap/\n<=cap:=by
   split at hx
   ·next ex=>
    simp only[af,av]at hx;obtain⟨rfl,rfl⟩:=hx;rw[ex]at hX;simp only[VR]at hX;exact⟨rfl,rfl,_,_,_,hX.1,ah _⟩
   ·next k off n cp' e' ex=>
    simp only[af,av]at hx;obtain⟨rfl,rfl⟩:=hx;rw[ex]at hX;simp only[VR]at hX;obtain⟨_,cap,hX,q1,q2,_⟩:=hX;exact⟨rfl,rfl,_,_,_,hX,by omega⟩
   ·cases hx
  obtain⟨rfl,rfl,b,n,cap,hxv,hle⟩:=key;have hrun:(Builtin.append_ #[ty,ty] o.type #[a.eval x,a.eval y]).run P w= .ok (a.eval x) w:=by
   rw[hxv,hyv];have hru:=run_underlying hu w;simp[Builtin.append_,hru,sizeOf,typeInfo,hi,Builtin.lenOf,hle,hfc];cases b<;>simp[storeCells]
  exact⟨⟨_,w,ρ,.inl (hex _ _ hrun),bO.refl t,VR.mo ⟨fun _ hk=>.inl hk,fun _ _=>rfl⟩ (Lt.refl w) _ _ hX⟩,Good.refl _⟩
 ·next hm0=>
  have hmp:0<m:=oM hm0;obtain⟨ad,cp,hyv,hcell⟩:=k3.resolve_left (fun q=>hm0 q.1);have hysne:ys≠[]:=fun e2=>by
   rw[e2]at k2;have:0<m*s:=mA hmp h0;simp at k2;omega
  have hz3:zv.cells.size=i.size:=z3;have hzc:∀n,(Builtin.zeroCells zv.cells n).size=n*s:=fun n=>by rw[size_zeroCells,hz3,his]
  split at hx
  ·next ex=>
   split at hx<;>try(cases hx;done)
   next hml=>
   have hmle:=cn hml;obtain⟨h1,e2,e3⟩:=ai hx;simp only[av]at e3;obtain⟨rfl,rfl⟩:=e3;rw[ex]at hX;simp only[VR]at hX;have hr:=run_append_nil (P:=P) w ty o.type e i zv hu hi z2 ad m cp ys (by rw[his];exact k2) hcell hmp aa (aU (gR hmle hby) aE);rw[<-hX.1,<-hyv]at hr;have hge:=grownCap_ge w m 0 e;have hel:(ys.toArray++Builtin.zeroCells zv.cells (grownCap w m 0 e-m)).toList=ys++(Builtin.zeroCells zv.cells (grownCap w m 0 e-m)).toList:=by simp
   have hp:=ja (r:=w.heap.size) t e2 hd (fY w _ e) (ah _) aY (fun A' ρ' mo h1 h2=>py w _ e mo (fY w _ e) hel k1 hysne);refine⟨⟨_,_,_,.inl (hex _ _ hr),hp,?_⟩,qg e2⟩;refine ky (.inr ⟨ah _,by have:=(cw e2).1;omega⟩) uM (heap_alloc_new w.drew _) hse hge (grownCap_le_maxLen w m 0 e uL) ?_;rw[oO,hzc,iB,k2,<-bW];congr 1;omega
  ·next k off n cp' exx ex=>
   rw[ex]at hX;simp only[VR]at hX;obtain⟨hA,cap,hxv,q1,q2,q3,q4⟩:=hX;split at hx
   ·next T' l hg=>
    split at hx
    ·cases hx
    ·next hT=>
     have hT':T'=e:=by simpa using hT
     subst hT';obtain⟨_,_,hlt,arr,xs,rest,f1,f2,f3,f4⟩:=t.blk k _ hg;split at hx
     ·next hroom=>
      have hroom':=cn hroom;obtain⟨l',e2,e3⟩:=ai hx;simp only[av]at e3;obtain⟨rfl,rfl⟩:=e3;have hlen:(ys).length=m*i.size:=by rw[his];exact k2
      obtain⟨arr',g1,g2,g3⟩:=nW t hg e2 k1 k2;rw[f1]at g1;simp only[af,Obj.cells.injEq,and_true]at g1;obtain rfl:=g1.symm;have hr:=vD (ty:=o.type) (cap:=cap) (cp:=cp) hu hi (off:=off) (n:=n) f1 hlen hcell (VCs.one k1) aa (by rw[hlen,his];exact g2);rw[<-hxv,<-hyv,hlen,his]at hr;have hk:k<1000000:=aV (t.live (aO hg)).1 t.bd;refine⟨⟨_,_,_,.inl (hex _ _ hr),g3,?_⟩,pZ hk (aO hg)⟩;simp only[VR];refine⟨.inl hA,cap,rfl,hroom',q2,q3,fun r1 r2=>?_⟩;obtain⟨r3,T,s',r4,r5⟩:=q4 r1 r2;exact⟨r3,T,s',g3.lt.shape _ _ r4,r5⟩
     ·next hf=>
      split at hx
      ·next hle=>
       have hle':=cn hle;obtain⟨old,e2,hx⟩:=an hx;have hnle:¬n+m<=cp':=fun e5=>by
        rw[kf e5]at hf;cases hf
       obtain⟨g1,g2⟩:=f3.get e2;have hlo:((xs.drop off).take (n*s)).length=n*s:=by rw[ba,eu];omega
       have hold:∀j u,((xs.drop off).take (n*s))[j]?=some u->w.cell? ((⟨ρ k,off,none⟩:Addr).add j)=some u:=fun j u hj=>by
        rw[cD];rw[dV]at hj;split at hj
        ·rw[iD]at hj;exact qd f1 f2 hj
        ·cases hj
       have hne:(xs.drop off).take (n*s)++ys≠[]:=fun e5=>hysne (List.append_eq_nil_iff.1 e5).2;have hgr:∀cap,cap<n+m->_:=fun cap hc=>run_append_grow (P:=P) w ty o.type T' i zv hu hi z2 ⟨ρ k,off,none⟩ n cap _ (by rw[his];exact hlo) hold ad m cp ys (by rw[his];exact k2) hcell hc aa (growslice_fits hc (aU (gR hle' hby) aE));have hge:=grownCap_ge w (n+m) cap T';have hgm:=grownCap_le_maxLen w (n+m) cap T' uL;have hel:(((xs.drop off).take (n*s)).toArray++ys.toArray++Builtin.zeroCells zv.cells (grownCap w (n+m) cap T'-(n+m))).toList=((xs.drop off).take (n*s)++ys)++(Builtin.zeroCells zv.cells (grownCap w (n+m) cap T'-(n+m))).toList:=by simp
       have hasz:(((xs.drop off).take (n*s)).toArray++ys.toArray++Builtin.zeroCells zv.cells (grownCap w (n+m) cap T'-(n+m))).size=grownCap w (n+m) cap T'*s:=by
        rw[oO,oO,hzc,iB,iB,k2,hlo,<-bW,<-bW];congr 1;omega
       split at hx
       ·next he=>
        obtain⟨h1,e3,e4⟩:=ai hx;simp only[av]at e4;obtain⟨rfl,rfl⟩:=e4;have hcap:cap=cp':=q3 aY;have hr:=hgr cap aa;rw[<-hxv,<-hyv]at hr;have hp:=ja (r:=w.heap.size) t e3 hd (fY w _ T') (ah _) aY (fun A' ρ' mo h1 h2=>py w _ T' mo (fY w _ T') hel (VCs.app k1 g1) hne);refine⟨⟨_,_,_,.inl (hex _ _ hr),hp,?_⟩,qg e3⟩;exact ky (.inr ⟨ah _,by have:=(cw e3).1;omega⟩) uM (heap_alloc_new w.drew _) hse hge hgm hasz
       ·split at hx
        ·obtain⟨h1,e3,e4⟩:=ai hx;simp only[av]at e4;obtain⟨rfl,rfl⟩:=e4;obtain⟨r3,T2,s',r4,r5⟩:=q4 aY rfl;have hk:k<1000000:=aV (t.live (aO hg)).1 t.bd;have hnx:h1.next=h.next+1:=(cw e3).1
         have hT2:T2=T'/\cap*s'=arr.size:=by
          unfold World.shape? at r4;rw[f1]at r4;simp only[af,av]at r4;exact⟨r4.1.symm,r4.2.symm⟩
         rw[hT2.1,hse]at r5;simp only[af]at r5;subst r5;by_cases hroom:n+m<=cap
         ·have hlen:ys.length=m*i.size:=by rw[his];exact k2
          have hfit:0+n*i.size+ys.length<=arr.size:=by
           rw[hlen,his,bQ,<-bW,<-hT2.2];exact cJ _ hroom
          have hr:=vD (ty:=o.type) (cap:=cap) (cp:=cp) hu hi (off:=0) (n:=n) f1 hlen hcell (VCs.one k1) hroom hfit;rw[<-hxv,<-hyv,hlen,his,bQ]at hr;rw[hlen,his,bQ]at hfit;have hnew:=setRow_heap w (ρ k) arr (arr.toList.take (n*s)++ys++arr.toList.drop (n*s+m*s)).toArray T' (0,0) f1;have hc:Chg (ρ k) w (w.setRow (ρ k) (arr.toList.take (n*s)++ys++arr.toList.drop (n*s+m*s)).toArray):=⟨rfl,rfl,rfl,by simp,fun j _ hj=>setRow_other w (ρ k) j _ hj⟩;have hsz:(arr.toList.take (n*s)++ys++arr.toList.drop (n*s+m*s)).toArray.size=arr.size:=by
           simp only[iB,cT,ba,eu,bL,k2];omega
          have hsh:∀q,w.shape? (ρ k)=some q->(w.setRow (ρ k) (arr.toList.take (n*s)++ys++arr.toList.drop (n*s+m*s)).toArray).shape? (ρ k)=some q:=fun q hq=>by
           unfold World.shape? at hq⊢;rw[f1]at hq;rw[hnew];simp only at hq⊢;rw[hsz];exact hq
          have hold2:arr.toList.take (n*s)=(xs.drop 0).take (n*s):=by
           rw[f2,gi,vb aa]
          have hmp:=tK (r:=ρ k) t (aO hg) e3 hd hc f4 hsh (.inl rfl) (fun A' ρ' mo h1 h2=>⟨_,(xs.drop 0).take (n*s)++ys,arr.toList.drop (n*s+m*s),hnew,by rw[nJ,hold2],VCs.mo mo (Lt.chg hc f4 hsh) _ _ (VCs.app k1 g1),fun q e5=>by
           rw[cell_of_row _ (ρ k) _ _ _ (0,0) hnew,<-cV,nJ,hold2,eP (fG.2 hne)]at e5;exact VCs.nw (VCs.app k1 g1) q e5⟩)
          refine⟨⟨_,_,_,.inl (hex _ _ hr),hmp.1,?_⟩,hmp.2⟩;exact ky (.inr ⟨ah _,by omega⟩) uM hnew hse hroom r3 (by rw[hsz,hT2.2])
         ·have hr:=hgr cap aa;rw[<-hxv,<-hyv]at hr;have hbl:=fY w (((xs.drop 0).take (n*s)).toArray++ys.toArray++Builtin.zeroCells zv.cells (grownCap w (n+m) cap T'-(n+m))) T';have hmp:=tK (r:=w.heap.size) t (aO hg) e3 hd (Chg.of hbl) f4 (fun q hq=>(Lt.below hbl).shape _ _ hq) (.inr ⟨ah _,by simp⟩) (fun A' ρ' mo h1 h2=>py w _ T' mo hbl hel (VCs.app k1 g1) hne);refine⟨⟨_,_,_,.inl (hex _ _ hr),hmp.1,?_⟩,hmp.2⟩;exact ky (.inr ⟨ah _,by omega⟩) uM (heap_alloc_new w.drew _) hse hge hgm hasz
        ·cases hx
      ·cases hx
   ·cases hx
  ·cases hx
end CI
end
section
open Go.RowKit
namespace CI
variable {P : Program} {A : Nat->Prop} {ρ : Nat->Nat} {w : World} {tm : Tm} {a : Act} {o : Oper} {c : C} {h h' h'' : H}
structure Wf(h:H):Prop where
 bd:h.next<=1000000
 lt:∀k b,T.get h.t k=some b->k<h.next
structure Gd(h h':H):Prop where
 wf:Wf h'
 good:Good h h'
theorem fi{k:Nat}{b:B}(e:h.get k=some b):T.get h.t k=some b:=by
 unfold H.get at e;split at e
 ·cases e
 ·exact e
theorem Gd.refl(f:Wf h):Gd h h:=⟨f,Good.refl h⟩
theorem Gd.trans(g:Gd h h')(g':Gd h' h''):Gd h h'':=⟨g'.wf,g.good.trans g'.good⟩
theorem iL{b:B}(f:Wf h)(e:h.new b=some h'):Gd h h':=by
 obtain⟨h1,h2,h3,h4,h5⟩:=cw e;refine⟨⟨by omega,fun k c hc=>?_⟩,qg e⟩;rw[h5]at hc;split at hc
 ·omega
 ·have:=f.lt k c hc;omega
theorem ft{k:Nat}{b:Option B}(f:Wf h)(hl:h.live k):Gd h (h.set k b):=by
 obtain⟨c,ec⟩:=cq.1 hl;have hk:=f.lt k c (fi ec);have hk':k<1000000:=aV hk f.bd;obtain⟨k1,k2,k3,k4⟩:=mM (h:=h) (b:=b) hk';refine⟨⟨by rw[k1];exact f.bd,fun j d hd=>?_⟩,pZ hk' hl⟩;rw[k4]at hd;rw[k1];split at hd
 ·next e=>rw[e];exact hk
 ·exact f.lt j d hd
theorem mg{b:Option B}(f:Wf h)(e:h.gE b=some h'):Gd h h':=by
 cases b with
 |none=>simp only[H.gE,af]at e;subst e;exact Gd.refl f
 |some b=>exact iL f e
theorem Aw{s:Nat}{x y:C}(f:Wf h)(e:ju s x y h=some h'):Gd h h':=by
 unfold ju at e;split at e
 ·split at e
  ·next hb=>
   obtain⟨p,_,e⟩:=an e;split at e
   ·obtain⟨l',_,rfl⟩:=ai e;exact ft f (aO hb)
   ·cases e
  ·cases e
 ·cases e
theorem BV{T s m:Nat}{x:C}{new:List C}(f:Wf h)(e:kN T s x new m h=some (c,h')):Gd h h':=by
 unfold kN at e;split at e
 ·split at e
  ·simp only[af,av]at e;obtain⟨_,rfl⟩:=e;exact Gd.refl f
  ·simp only[af,av]at e;obtain⟨_,rfl⟩:=e;exact Gd.refl f
  ·cases e
 ·split at e
  ·split at e
   ·obtain⟨h1,e1,e2⟩:=ai e;simp only[av]at e2;obtain⟨_,rfl⟩:=e2;exact iL f e1
   ·cases e
  ·split at e
   ·next hb=>
    split at e
    ·cases e
    ·split at e
     ·obtain⟨l',_,e2⟩:=ai e;simp only[av]at e2;obtain⟨_,rfl⟩:=e2;exact ft f (aO hb)
     ·split at e
      ·obtain⟨old,_,e⟩:=an e;split at e
       ·obtain⟨h1,e1,e2⟩:=ai e;simp only[av]at e2;obtain⟨_,rfl⟩:=e2;exact iL f e1
       ·split at e
        ·obtain⟨h1,e1,e2⟩:=ai e;simp only[av]at e2;obtain⟨_,rfl⟩:=e2;have g:=ft (b:=none) f (aO hb);exact g.trans (iL g.wf e1)
        ·cases e
      ·cases e
   ·cases e
  ·cases e
theorem EG{s:Nat}{z:List C}{x:C}(f:Wf h)(e:vg s z x h=some h'):Gd h h':=by
 unfold vg at e;split at e
 ·simp only[af]at e;subst e;exact Gd.refl f
 ·split at e
  ·simp only[af]at e;subst e;exact Gd.refl f
  ·split at e
   ·next hb=>
    obtain⟨l',_,rfl⟩:=ai e;exact ft f (aO hb)
   ·cases e
 ·cases e
def cR(rec:Rec):Prop:=∀f args h c h',rec (.call f args h)=some (.val c h')->Wf h->Gd h h'
theorem jK{rec:Rec}(hr:cR rec){x:X}(f:Wf h)(e:xR rec x tm h=some (c,h')):Gd h h':=by
 unfold xR at e;split at e
 ·obtain⟨d,_,e2⟩:=ai e;simp only[av]at e2;obtain⟨_,rfl⟩:=e2;exact Gd.refl f
 ·obtain⟨d,e1,e2⟩:=ai e;simp only[av]at e2;obtain⟨_,rfl⟩:=e2;exact Aw f e1
 ·unfold vh at e;obtain⟨⟨new,m⟩,_,e⟩:=an e;exact BV f e
 ·split at e
  ·split at e
   ·obtain⟨h1,e1,e2⟩:=ai e;simp only[av]at e2;obtain⟨_,rfl⟩:=e2;exact iL f e1
   ·cases e
  ·cases e
 ·obtain⟨d,e1,e2⟩:=ai e;simp only[av]at e2;obtain⟨_,rfl⟩:=e2;exact EG f e1
 ·split at e
  ·next ec=>
   simp only[af,av]at e;obtain⟨rfl,rfl⟩:=e;exact hr _ _ _ _ _ ec f
  ·cases e
 ·cases e
theorem Ho(hv:HV P A ρ w tm a o)(t:Rel P A ρ w h)(hd:Dj A h h'){ty tn e:TypeId}{x y:Operand}{m:Nat}{i:TypeInfo}{z:List C}{kn:IntKind}(ho:o.op= .call {callee:=.builtin .append,args:=#[x,y],argTypes:=#[ty,tn]})(hu:P.underlying ty=some (.slice e))(hn:P.underlying tn=some (.int kn))(hi:P.info? e=some i)(hz:zOf P e=some z)(hby:i.bytes<=100000)(h0:0<i.size)
  (hx:(aq x).ev tm= .sc (.slice none 0 0)) (hy:dJ ((aq y).ev tm)=some (m+1)) (hm:m+1<=1000000) (hnew:h.new (.cells e (dX z (m+1)))=some h'):ME P A ρ w h ((execOp a.eval o).run P w) (.sl h.next 0 (m+1) (m+1) false) h':=by
 have hX:=hv x fb;have hY:=hv y fb;unfold OpV at hX hY;rw[hx]at hX;simp only[VR]at hX;obtain⟨kq,hyv⟩:=eE hy hY;obtain⟨i',zv,z1,z2,z3,z4⟩:=gV hz;rw[hi]at z1;simp only[af]at z1;subst z1;have hse:cj P e=some i.size:=by unfold cj;rw[hi,bK]
 have hb1:(m+1)*i.bytes<=1000000*100000:=gR hm hby
 have hr:=Lib.run_append_grow_zeros (P:=P) w ty tn o.type e i zv kq kn hu hn hi z2 none 0 0 [] (run_firstCells_none (P:=P) w.drew i.size 0 0 0) (m+1) aa h0 aa aa aa (growslice_fits aa (by rw[bQ];omega));rw[bQ]at hr;have hge:=grownCap_ge w (m+1) 0 e;have hzz:∀n,(Builtin.zeroCells zv.cells n)=madeCells zv.cells (n*zv.cells.size):=fun n=>rfl;have hzc:∀n,(Builtin.zeroCells zv.cells n).size=n*i.size:=fun n=>by rw[size_zeroCells,z3]
 have hl:VCs P A ρ w (dX z (m+1)) (Builtin.zeroCells zv.cells (m+1)).toList:=by rw[hzz];exact iM (z4 _ _ _) (m+1)
 have hne:(Builtin.zeroCells zv.cells (m+1)).toList≠[]:=fun e2=>by
  have:=jG List.length e2;rw[bL,hzc,gK]at this;have:=mA (show 0<m+1 by omega) h0;omega
 have hel:(([]:List Value).toArray++Builtin.zeroCells zv.cells (m+1)++Builtin.zeroCells zv.cells (grownCap w (m+1) 0 e-(m+1))).toList=(Builtin.zeroCells zv.cells (m+1)).toList++(Builtin.zeroCells zv.cells (grownCap w (m+1) 0 e-(m+1))).toList:=by simp
 have hp:=ja (r:=w.heap.size) t hnew hd (fY w _ e) (ah _) aY (fun A' ρ' mo h1 h2=>py w _ e mo (fY w _ e) hel hl hne);refine⟨_,_,_,.inl ?_,hp,ky (.inr ⟨ah _,by have:=(cw hnew).1;omega⟩) (by unfold at';rw[aB rfl];rfl) (heap_alloc_new w.drew _) hse hge (grownCap_le_maxLen w (m+1) 0 e uL) ?_⟩
 ·rw[<-hX.1,<-hyv]at hr;unfold execOp;rw[ho];simp[resolve,invoke,builtin,hr]
 ·rw[oO,oO,hzc,hzc];simp only[iB,gK,bQ];rw[<-bW];congr 1;omega
theorem m_clr(hv:HV P A ρ w tm a o)(t:Rel P A ρ w h){ty e:TypeId}{x:Operand}{i:TypeInfo}{z:List C}(ho:o.op= .call {callee:=.builtin .clear,args:=#[x],argTypes:=#[ty]})(hu:P.underlying ty=some (.slice e))(hi:P.info? e=some i)(hz:zOf P e=some z)
  (hx:vg i.size z ((aq x).ev tm) h=some h'):ME P A ρ w h ((execOp a.eval o).run P w) .any h':=by
 have hX:=hv x fb;unfold OpV at hX;obtain⟨i',zv,z1,z2,z3,z4⟩:=gV hz;rw[hi]at z1;simp only[af]at z1;subst z1;have hex:∀v w',(Builtin.clear_ #[ty] o.type #[a.eval x]).run P w= .ok v w'->(execOp a.eval o).run P w= .ok (.value v) w':=fun v w' hr=>by
  unfold execOp;rw[ho];simp[resolve,invoke,builtin,hr]
 have hru:=run_underlying hu w;unfold vg at hx;split at hx
 ·next n cp ex=>
  simp only[af]at hx;subst hx;rw[ex]at hX;simp only[VR]at hX;have hr:(Builtin.clear_ #[ty] o.type #[a.eval x]).run P w= .ok (.tuple #[]) w:=by
   rw[hX.1];simp[Builtin.clear_,hru]
  exact⟨_,w,ρ,.inl (hex _ _ hr),bO.refl t,by simp only[VR]⟩
 ·next k off n cp ce ex=>
  rw[ex]at hX;simp only[VR]at hX;obtain⟨_,cap,hX,_⟩:=hX
  cases n with
  |zero=>
   simp only[af]at hx;subst hx;have hr:(Builtin.clear_ #[ty] o.type #[a.eval x]).run P w= .ok (.tuple #[]) w:=by
    rw[hX];simp[Builtin.clear_,hru]
   exact⟨_,w,ρ,.inl (hex _ _ hr),bO.refl t,by simp only[VR]⟩
  |succ m=>
   simp only at hx;split at hx
   ·next T l hb=>
    obtain⟨l',e2,rfl⟩:=ai hx;have hzc:(Builtin.zeroCells zv.cells (m+1)).toList.length=(m+1)*i.size:=by rw[bL,size_zeroCells,z3]
    have hl:VCs P A ρ w (dX z (m+1)) (Builtin.zeroCells zv.cells (m+1)).toList:=by
     show VCs P A ρ w (dX z (m+1)) (madeCells zv.cells ((m+1)*zv.cells.size)).toList;exact iM (z4 _ _ _) (m+1)
    obtain⟨arr,k1,k2,k3⟩:=nW t hb e2 hl hzc;have hst:=run_storeCells_at P (ρ k) off T (Builtin.zeroCells zv.cells (m+1)).toList 0 arr w k1 aa hl.one;simp only[cf,hzc]at hst;have hzr:(zeroValue e).run P w= .ok zv w:=by simp[zeroValue,typeInfo,hi,z2]
    have hr:(Builtin.clear_ #[ty] o.type #[a.eval x]).run P w= .ok (.tuple #[]) (w.setRow (ρ k) (arr.toList.take off++(Builtin.zeroCells zv.cells (m+1)).toList++arr.toList.drop (off+(m+1)*i.size)).toArray):=by
     rw[hX];simp[Builtin.clear_,hru,hzr,hst]
    exact⟨_,_,ρ,.inl (hex _ _ hr),k3,by simp only[VR]⟩
   ·cases hx
 ·cases hx
theorem wL{op:Op}{x:X}(hc:ay P op=some x)(hT:x.isT=false):(∃ty y,op= .load ty y)\/(∃ty y v,op= .store ty y v)\/∃cl,op= .call cl:=by
 cases hop:op with
 |load ty y=>exact .inl ⟨ty,y,rfl⟩
 |store ty y v=>exact .inr (.inl ⟨ty,y,v,rfl⟩)
 |call cl=>exact .inr (.inr ⟨cl,rfl⟩)
 |move y=>rw[hop]at hc;simp only[ay,af]at hc;subst hc;simp[X.isT]at hT
 |assign y=>rw[hop]at hc;simp only[ay,af]at hc;subst hc;simp[X.isT]at hT
 |pick y y1 y2=>rw[hop]at hc;simp only[ay,af]at hc;subst hc;simp[X.isT]at hT
 |box t y=>rw[hop]at hc;simp only[ay,af]at hc;subst hc;simp[X.isT]at hT
 |unOp op t y=>rw[hop]at hc;simp only[ay,af]at hc;subst hc;simp[X.isT]at hT
 |extract y i=>rw[hop]at hc;simp only[ay,af]at hc;subst hc;simp[X.isT]at hT
 |nilCheck y=>rw[hop]at hc;simp only[ay,af]at hc;subst hc;simp[X.isT]at hT
 |alloc t=>rw[hop]at hc;simp only[ay]at hc;obtain⟨_,_,rfl⟩:=ai hc;simp[X.isT]at hT
 |build t ps=>
  rw[hop]at hc;simp only[ay]at hc;split at hc
  ·split at hc
   ·obtain⟨_,_,hc⟩:=an hc;obtain⟨_,_,rfl⟩:=ai hc;simp[X.isT]at hT
   ·cases hc
  ·obtain⟨_,_,hc⟩:=an hc;obtain⟨_,_,hc⟩:=an hc;obtain⟨_,_,rfl⟩:=ai hc;simp[X.isT]at hT
  ·cases hc
 |buildSlice t n ps=>
  rw[hop]at hc;simp only[ay]at hc;split at hc
  ·obtain⟨_,_,hc⟩:=an hc;obtain⟨_,_,hc⟩:=an hc;split at hc
   ·obtain⟨_,_,rfl⟩:=ai hc;simp[X.isT]at hT
   ·cases hc
  ·cases hc
 |binOp op t y y2 t2=>
  rw[hop]at hc;simp only[ay]at hc;split at hc
  ·simp only[af]at hc;subst hc;simp[X.isT]at hT
  ·split at hc
   ·simp only[af]at hc;subst hc;simp[X.isT]at hT
   ·simp only[af]at hc;subst hc;simp[X.isT]at hT
   ·cases hc
  ·split at hc
   ·simp only[af]at hc;subst hc;simp[X.isT]at hT
   ·simp only[af]at hc;subst hc;simp[X.isT]at hT
   ·cases hc
  ·cases hc
 |convert t1 t2 y=>
  rw[hop]at hc;simp only[ay]at hc;split at hc
  ·simp only[af]at hc;subst hc;simp[X.isT]at hT
  ·cases hc
 |makeFunc f first cs=>
  rw[hop]at hc
  cases f with
  |func g=>
   simp only[ay]at hc;split at hc
   ·simp only[af]at hc;subst hc;simp[X.isT]at hT
   ·cases hc
  |_=>simp[ay]at hc
 |makeSlice t y y2=>
  rw[hop]at hc;simp only[ay]at hc;split at hc
  ·obtain⟨_,_,hc⟩:=an hc;obtain⟨_,_,hc⟩:=an hc;split at hc
   ·simp only[af]at hc;subst hc;simp[X.isT]at hT
   ·cases hc
  ·cases hc
 |slice t y lo hi mx=>
  rw[hop]at hc;simp only[ay]at hc;split at hc
  ·split at hc
   ·cases hc
   ·obtain⟨_,_,rfl⟩:=ai hc;simp[X.isT]at hT
  ·cases hc
 |fieldAddr t y i=>
  rw[hop]at hc;simp only[ay]at hc;split at hc
  ·obtain⟨_,_,hc⟩:=an hc;obtain⟨_,_,hc⟩:=an hc;split at hc
   ·cases hc
   ·simp only[af]at hc;subst hc;simp[X.isT]at hT
  ·cases hc
 |field t y i=>
  rw[hop]at hc;simp only[ay]at hc;split at hc
  ·obtain⟨_,_,hc⟩:=an hc;obtain⟨_,_,hc⟩:=an hc;obtain⟨_,_,rfl⟩:=ai hc;simp[X.isT]at hT
  ·cases hc
 |indexAddr t y i=>
  rw[hop]at hc;simp only[ay]at hc;split at hc
  ·obtain⟨_,_,rfl⟩:=ai hc;simp[X.isT]at hT
  ·obtain⟨_,_,rfl⟩:=ai hc;simp[X.isT]at hT
  ·cases hc
 |index t y i=>
  rw[hop]at hc;simp only[ay]at hc;split at hc
  ·obtain⟨_,_,hc⟩:=an hc;obtain⟨_,_,rfl⟩:=ai hc;simp[X.isT]at hT
  ·simp only[af]at hc;subst hc;simp[X.isT]at hT
  ·cases hc
 |_=>rw[hop]at hc;simp[ay]at hc
theorem zj{rec:Rec}{x:X}(hc:ay P o.op=some x)(hT:x.isT=false)(hnc:∀f l,x≠ .cal f l)(hx:xR rec x tm h=some (c,h'))(hv:HV P A ρ w tm a o)(t:Rel P A ρ w h)(hd:Dj A h h'):ME P A ρ w h ((execOp a.eval o).run P w) c h':=by
 cases hop:o.op with
 |load ty y=>
  rw[hop]at hc;simp only[ay]at hc;obtain⟨s,e1,hc⟩:=an hc;obtain⟨r,e2,rfl⟩:=ai hc;simp only[xR]at hx;obtain⟨d,e3,e4⟩:=ai hx;simp only[av]at e4;obtain⟨rfl,rfl⟩:=e4;exact Hn hv t hop e2 e1 e3
 |store ty y v=>
  rw[hop]at hc;simp only[ay]at hc;obtain⟨s,e1,rfl⟩:=ai hc;simp only[xR]at hx;obtain⟨d,e3,e4⟩:=ai hx;simp only[av]at e4;obtain⟨rfl,rfl⟩:=e4;exact(Fz hv t hop e1 e3).1
 |call cl=>
  obtain⟨callee,args,argTypes⟩:=cl;rw[hop]at hc
  cases callee with
  |value f=>
   simp only[ay,af]at hc;subst hc;exact absurd rfl (hnc _ _)
  |invoke r m=>simp[ay]at hc
  |builtin b=>
   simp only[ay]at hc;split at hc
   ·split at hc
    ·simp only[af]at hc;subst hc;simp[X.isT]at hT
    ·simp only[af]at hc;subst hc;simp[X.isT]at hT
    ·cases hc
   ·simp only[af]at hc;subst hc;simp[X.isT]at hT
   ·simp only[af]at hc;subst hc;simp[X.isT]at hT
   ·next y y2 ty tn ha ht=>
    have ha':args= #[y,y2]:=dN.1 ha;have ht':argTypes= #[ty,tn]:=dN.1 ht;subst ha';subst ht';split at hc
    ·next e e' hu hu'=>
     split at hc
     ·cases hc
     ·next hb=>
      have hb':ty=tn:=by simpa using hb
      subst hb';obtain⟨i,e1,hc⟩:=an hc;obtain⟨z,e2,hc⟩:=an hc;split at hc
      ·next hcc=>
       simp only[bV]at hcc;simp only[af]at hc;subst hc;simp only[xR]at hx;exact(m_app hv t hd hop hu e1 rfl e2 (cn hcc.1) (by simpa[aX]using hcc.2) hx).1
      ·cases hc
    ·next e kn hu hu'=>
     obtain⟨i,e1,hc⟩:=an hc;obtain⟨z,e2,hc⟩:=an hc;split at hc
     ·next hcc=>
      simp only[bV]at hcc;simp only[af]at hc;subst hc;simp only[xR]at hx;split at hx
      ·next m hx1 hx2=>
       split at hx
       ·next hm=>
        obtain⟨h1,e3,e4⟩:=ai hx;simp only[av]at e4;obtain⟨rfl,rfl⟩:=e4;exact Ho hv t hd hop hu hu' e1 e2 (cn hcc.1) (by simpa[aX]using hcc.2) hx1 hx2 (cn hm) e3
       ·cases hx
      ·cases hx
     ·cases hc
    ·cases hc
   ·split at hc
    ·simp only[af]at hc;subst hc;simp[X.isT]at hT
    ·cases hc
   ·next y ty ha ht=>
    have ha':args= #[y]:=dN.1 ha;have ht':argTypes= #[ty]:=dN.1 ht;subst ha';subst ht';split at hc
    ·next e hu=>
     obtain⟨i,e1,hc⟩:=an hc;obtain⟨z,e2,rfl⟩:=ai hc;simp only[xR]at hx;obtain⟨d,e3,e4⟩:=ai hx;simp only[av]at e4;obtain⟨rfl,rfl⟩:=e4;exact m_clr hv t hop hu e1 e2 e3
    ·cases hc
   ·cases hc
 |_=>
  exfalso;rcases wL hc hT with⟨_,_,e⟩|⟨_,_,_,e⟩|⟨_,e⟩<;>(rw[hop]at e;cases e)
end CI
end
section
open Go.RowKit
namespace CI
variable {P : Program} {A : Nat->Prop} {ρ : Nat->Nat} {w : World} {tm tm' : Tm} {a : Act} {o : Oper} {c : C} {h h' h'' : H} {rec : Rec}
def rZ(P:Program)(fv:Value)(vs:Array Value)(w:World)(R:Ending->World->Prop):Prop:=
 ∃d,(Deferred.ofValue fv vs).run P w= .ok d w/\((∃f args,(invoke d.target d.args).run P w= .ok (.enter f args) w/\CallsIn Fence.wide 0 P f args w R)\/
  ∃l f tmps s b,fv= .func (.yield l) #[] #[]/\(invoke d.target d.args).run P w= .ok (.round l f tmps s b) w/\RoundIn Fence.wide 0 P l f tmps s b w R)
def fo(P:Program)(A:Nat->Prop)(ρ:Nat->Nat)(w:World)(h:H)(c:C)(h':H):Ending->World->Prop:=fun e w'=>∃u ρ',e= .returned u/\bO P A ρ w h ρ' w' h'/\VR P (Ext A h h') ρ' w' c u
def iU(P:Program)(rec:Rec):Prop:=∀f args h c h',rec (.call f args h)=some (.val c h')->Wf h->∀A ρ w fv vs,Rel P A ρ w h->Dj A h h'->VR P A ρ w f fv->VRl P A ρ w args vs.toList->
 rZ P fv vs w (fo P A ρ w h c h')
def FC(F:Fence):Prop:=F=Fence.wide\/∃l,F=Fence.wide.inRound l
theorem FC.fn{F:Fence}(hF:FC F)(f:FuncId):F.fn f:=by rcases hF with rfl|⟨l,rfl⟩<;>trivial
theorem FC.depth{F:Fence}(hF:FC F):F.depth.isSome=true->1<=0:=by rcases hF with rfl|⟨l,rfl⟩<;>(intro e;cases e)
theorem FC.calls{F:Fence}(hF:FC F){f:FuncId}{args:Array Value}{w:World}{R:Ending->World->Prop}(h:CallsIn Fence.wide 0 P f args w R):CallsIn F 0 P f args w R:=by
 rcases hF with rfl|⟨l,rfl⟩
 ·exact h
 ·exact CallsIn.inRound l h
theorem FC.round{F:Fence}(hF:FC F){l:Nat}{f:FuncId}{tmps:Array Value}{s b:Code}{w:World}{R:Ending->World->Prop}(h:RoundIn Fence.wide 0 P l f tmps s b w R):RoundIn F 0 P l f tmps s b w R:=by
 rcases hF with rfl|⟨l,rfl⟩
 ·exact h
 ·exact h
theorem kC(hc:∃x,ay P o.op=some x)(cl:Call):o.op≠ .defer cl:=fun e=>by
 obtain⟨x,hc⟩:=hc;rw[e]at hc;simp[ay]at hc
theorem t_me{x:X}{ob:Option B}(hc:ay P o.op=some x)(hT:x.isT=true)(hx:xT x tm h.next=some (c,ob))(hb:h.gE ob=some h')(hv:HV P A ρ w tm a o)(t:Rel P A ρ w h)(hd:Dj A h h'):ME P A ρ w h ((execOp a.eval o).run P w) c h':=by
 obtain⟨u,w',hr,hk⟩:=BU hc hT hx hv
 cases ob with
 |none=>
  simp only[H.gE,af]at hb;subst hb;obtain⟨rfl,hu⟩:=hk;exact⟨u,w',ρ,.inl hr,bO.refl t,VR.mo ⟨fun _ hk=>.inl hk,fun _ _=>rfl⟩ (Lt.refl _) _ _ hu⟩
 |some b=>
  obtain⟨hbl,hlt,hk⟩:=hk;have hp:=ja t hb hd hbl (ah _) hlt (fun A' ρ' m e1 e2=>(hk A' ρ' m e1 e2).1);refine⟨u,w',_,.inl hr,hp,(hk _ _ (hp.mo hd) uM (.inr ⟨ah _,?_⟩)).2⟩;have:=(cw hb).1;omega
theorem zF{F:Fence}(hF:FC F){next:Act->World->Prop}{Q:Exit->Act->World->Prop}(hnd:∀cl,o.op≠ .defer cl)(hm:ME P A ρ w h ((execOp a.eval o).run P w) c h')
  (hn:∀u w' ρ',bO P A ρ w h ρ' w' h'->VR P (Ext A h h') ρ' w' c u->next (a.put o.dst u) w'):o.wpIn F 0 P a w next Q:=by
 refine⟨fun f _=>hF.fn f,?_⟩;rw[Oper.semAt_eq F.round a.eval o hnd];obtain⟨u,w',ρ',hr|⟨hr,rfl⟩,hp,hu⟩:=hm
 ·rw[hr,Oper.uponIn_value];exact hn u w' ρ' hp hu
 ·rw[hr,Oper.uponIn_skip];exact hn undef w' ρ' hp hu
theorem Gj{F:Fence}(hF:FC F){next:Act->World->Prop}{Q:Exit->Act->World->Prop}{f:Operand}{args:Array Operand}{ts:Array TypeId}(ho:o.op= .call {callee:= .value f,args:=args,argTypes:=ts})
  (hk:rZ P (a.eval f) (args.map a.eval) w (fo P A ρ w h c h'))
  (hn:∀u w' ρ',bO P A ρ w h ρ' w' h'->VR P (Ext A h h') ρ' w' c u->next (a.put o.dst u) w'):o.wpIn F 0 P a w next Q:=by
 refine⟨fun f _=>hF.fn f,?_⟩;rw[Oper.semAt_eq F.round a.eval o (fun cl e=>by rw[ho]at e;cases e)];obtain⟨d,hd,hk⟩:=hk;have hE:(execOp a.eval o).run P w=(invoke d.target d.args).run P w:=by
  unfold execOp;rw[ho];simp only[resolve,Sem.run_bind,hd,Result.andThen_ok]
 rw[hE]
 have hpost : ∀ e w', fo P A ρ w h c h' e w' -> (match e, w' with
     | .returned v,w''=>next (a.put o.dst v) w''
     | .panicked chain,w''=>Q (.panic chain) a w''
     | .outgrown,_=>LetsOut Q):=fun e w' ⟨u,ρ',e1,hp,hu⟩=>by
  subst e1;exact hn u w' ρ' hp hu
 rcases hk with⟨g,as',hr,hk⟩|⟨l,g,tmps,s,b,_,hr,hk⟩
 ·rw[hr,Oper.uponIn_enter];exact⟨hF.depth,(hF.calls hk).mono hpost⟩
 ·rw[hr,Oper.uponIn_round];exact⟨hF.depth,(hF.round hk).mono hpost⟩
theorem r_wp(hrec:iU P rec){F:Fence}(hF:FC F){next:Act->World->Prop}{Q:Exit->Act->World->Prop}{x:X}(hc:ay P o.op=some x)(hT:x.isT=false)(hx:xR rec x tm h=some (c,h'))(f:Wf h)(hv:HV P A ρ w tm a o)(t:Rel P A ρ w h)(hd:Dj A h h')
  (hn:∀u w' ρ',bO P A ρ w h ρ' w' h'->VR P (Ext A h h') ρ' w' c u->next (a.put o.dst u) w'):o.wpIn F 0 P a w next Q:=by
 by_cases hcal:∃g l,x= .cal g l
 ·obtain⟨g,l,rfl⟩:=hcal;have hop:∃f args ts,o.op= .call {callee:=.value f,args:=args,argTypes:=ts}/\g=aq f/\l=lg args.toList:=by
   cases hop:o.op with
   |call cl=>
    obtain⟨callee,args,argTypes⟩:=cl;rw[hop]at hc
    cases callee with
    |value f=>
     simp only[ay,af,X.cal.injEq]at hc;exact⟨f,args,argTypes,rfl,hc.1.symm,hc.2.symm⟩
    |invoke r m=>simp[ay]at hc
    |builtin b=>
     exfalso;simp only[ay]at hc;split at hc
     ·split at hc<;>simp at hc
     ·simp at hc
     ·simp at hc
     ·split at hc
      ·split at hc
       ·cases hc
       ·obtain⟨_,_,hc⟩:=an hc;obtain⟨_,_,hc⟩:=an hc;split at hc<;>simp at hc
      ·obtain⟨_,_,hc⟩:=an hc;obtain⟨_,_,hc⟩:=an hc;split at hc<;>simp at hc
      ·cases hc
     ·split at hc<;>simp at hc
     ·split at hc
      ·obtain⟨_,_,hc⟩:=an hc;obtain⟨_,_,hc⟩:=ai hc;cases hc
      ·cases hc
     ·cases hc
   |store ty y v=>
    exfalso;rw[hop]at hc;simp only[ay]at hc;obtain⟨_,_,hc⟩:=ai hc;cases hc
   |load ty y=>
    exfalso;rw[hop]at hc;simp only[ay]at hc;obtain⟨_,_,hc⟩:=an hc;obtain⟨_,_,hc⟩:=ai hc;cases hc
   |_=>
    exfalso;rcases wL hc hT with⟨_,_,e⟩|⟨_,_,_,e⟩|⟨_,e⟩<;>(rw[hop]at e;cases e)
  obtain⟨f',args,ts,hop,rfl,rfl⟩:=hop;simp only[xR]at hx;split at hx
  ·next e=>
   simp only[af,av]at hx;obtain⟨rfl,rfl⟩:=hx;refine Gj hF hop ?_ hn;refine hrec _ _ _ _ _ e f A ρ w _ _ t hd (hv f' (by rw[hop];simp[Op.operands,Call.operands])) ?_;rw[Array.toList_map];exact sC tm a _ fun y hy=>hv y (by rw[hop];simp[Op.operands,Call.operands];exact .inr (by simpa using hy))
  ·cases hx
 ·exact zF hF (kC ⟨x,hc⟩) (zj hc hT (fun g l e=>hcal ⟨g,l,e⟩) hx hv t hd) hn
end CI
end
section
open Go.RowKit
namespace CI
variable {P : Program} {A A' : Nat->Prop} {ρ ρ' : Nat->Nat} {w w' : World} {tm tm' : Tm} {a : Act} {o : Oper} {c : C} {h h' h'' : H} {rec : Rec} {n : Nat} {ds : List Nat}
def oC(ρ:Nat->Nat)(k:Nat):Deferred:={target:=.collected (ρ k),args:=#[]}
structure Fr(P:Program)(A:Nat->Prop)(ρ:Nat->Nat)(w:World)(n:Nat)(ds:List Nat)(tm:Tm)(a:Act):Prop where
 tr:TR P A ρ w tm a.tmps
 sz:a.tmps.size=n
 nm:∀k∈ds,A k
 df:a.defers=ds.map (oC ρ)
theorem Fr.mo(m:Mo A A' ρ ρ')(k:Lt w w')(f:Fr P A ρ w n ds tm a):Fr P A' ρ' w' n ds tm a:=
 ⟨f.tr.mo m k,f.sz,fun j hj=>m.sub j (f.nm j hj),f.df.trans (va fun j hj=>by unfold oC;rw[m.eq j (f.nm j hj)])⟩
theorem rQ{t u:Nat}(ht:t<1000000)(tm:Tm)(c:C):CO.ev (T.put 24 tm t (some c)) (CO.t u)=if u=t then c else CO.ev tm (CO.t u):=by
 simp only[CO.ev,T.qv ht];split
 ·next e=>split at e<;>simp_all
 ·next e=>split at e<;>simp_all
theorem TR.put{tmps:Array Value}{t:Nat}{v:Value}(h:TR P A ρ w tm tmps)(ht:t<tmps.size)(hb:t<1000000)(hv:VR P A ρ w c v):TR P A ρ w (T.put 24 tm t (some c)) (tmps.setIfInBounds t v):=fun u=>by
 rw[rQ hb];by_cases e:u=t
 ·rw[aB e];subst e;rw[bZ,lO];simp[ht];exact hv
 ·rw[aj e,bZ,lO,aj (fun e2=>e e2.symm),<-bZ];exact h u
theorem Fr.put{dst:Option Nat}{v:Value}(f:Fr P A ρ w n ds tm a)(hn:n<1000000)(hd:ck n dst=true)(hv:VR P A ρ w c v):Fr P A ρ w n ds (fC tm dst c) (a.put dst v):=by
 cases dst with
 |none=>exact f
 |some t=>
  have ht:t<n:=by simpa[ck,aX]using hd
  exact⟨f.tr.put (by rw[f.sz];exact ht) aa hv,by simp[Act.put,f.sz],f.nm,f.df⟩
theorem Fr.hv(f:Fr P A ρ w n ds tm a)(o:Oper):HV P A ρ w tm a o:=fun y _=>f.tr.op y
theorem oB{draw:Bool}{ops:Array Oper}{acc l:List Oper}{ps:List Nat}{r:List RO}(e:ep P n draw ops acc (o::l) ps=some r):
  ∃ p ps' g r', ps = p :: ps' /\ ck n o.dst = true /\ (draw = true -> mK ops o p acc 0 = true /\ gA acc.length o.after.toList = true) /\ (match o.guard with
      |none=>some none
      |some (j,b)=>((ops[j]?).bind (·.dst)).map fun t=>some (t,b))=some g/\ep P n draw ops (acc++[o]) l ps'=some r'/\r=⟨o.dst,g,(match ay P o.op with|some x=>x|none=> .bad),p⟩::r':=by
 cases ps with
 |nil=>simp[ep]at e
 |cons p ps'=>
  simp only[ep]at e;split at e
  ·cases e
  ·next hb=>
   obtain⟨g,e1,e⟩:=an e;obtain⟨r',e2,e3⟩:=ai e;simp only[uZ,Bool.and_eq_false_iff,Bool.not_eq_false',bV]at hb;exact⟨p,ps',g,r',rfl,hb.2,fun hd=>hb.1.resolve_left (by simp[hd]),e1,e2,e3.symm⟩
theorem ux{x:X}(e:x=(match ay P o.op with|some x=>x|none=>.bad))(hT:x.isT=false\/x≠ .bad):ay P o.op=some x:=by
 cases hc:ay P o.op with
 |some y=>rw[hc]at e;rw[e]
 |none=>
  rw[hc]at e;subst e;rcases hT with hT|hT
  ·simp[X.isT]at hT
  ·exact absurd rfl hT
theorem Au{tm:Tm}{next:Nat}:xT .bad tm next=none:=rfl
theorem mJ{ops:Array Oper}{g:Option (Nat×Bool)}{x:X}{p:Nat}{b:Bool}(hg:(match o.guard with
   |none=>some none
   |some (j,b)=>((ops[j]?).bind (·.dst)).map fun t=>some (t,b))=some g) (hw:eC ⟨o.dst,g,x,p⟩ tm=some b)
  (hv:∀t c,g=some (t,c)->VR P A ρ w (CO.ev tm (CO.t t)) (a.tmps.getD t undef)):Region.wanted o (yielded ops a.tmps)=b:=by
 unfold Region.wanted
 cases ho:o.guard with
 |none=>
  rw[ho]at hg;simp only[af]at hg;subst hg;simp only[eC,af]at hw;exact hw
 |some q=>
  obtain⟨j,bb⟩:=q;rw[ho]at hg;simp only at hg;obtain⟨t,e1,e2⟩:=ai hg;subst e2;simp only[eC]at hw;split at hw
  ·next cc e=>
   simp only[af]at hw;subst hw;have h1:=hv t bb rfl;simp only[CO.ev,e]at h1;have h2:=h1.bool;have h3:a.tmps[t]?=some (.bool cc):=by
    rw[bZ]at h2
    cases e3:a.tmps[t]? with
    |none=>rw[e3]at h2;simp[undef]at h2
    |some v=>rw[e3]at h2;simp at h2;rw[h2]
   simp only[yielded,e1];simp[h3];cases bb<;>cases cc<;>rfl
  ·cases hw
theorem oW(hg:cR rec):∀(r:List RO) (tm:Tm) (h:H) (tm':Tm) (h':H),jB rec r tm h=some (tm',h')->Wf h->Gd h h'
 |[],tm,h,tm',h',e,f=>by
  simp only[jB,af,av]at e;obtain⟨_,rfl⟩:=e;exact Gd.refl f
 |o::l,tm,h,tm',h',e,f=>by
  simp only[jB]at e;split at e
  ·split at e
   ·next c h1 e1=>
    have g1:Gd h h1:=by
     unfold pQ at e1;split at e1
     ·obtain⟨⟨c',b⟩,_,e1⟩:=an e1;obtain⟨h2,e2,e3⟩:=ai e1;simp only[av]at e3;obtain⟨_,rfl⟩:=e3;exact mg f e2
     ·exact jK hg f e1
    exact g1.trans (oW hg l _ _ _ _ e g1.wf)
   ·cases e
  ·exact oW hg l _ _ _ _ e f
  ·cases e
theorem mO(hrec:iU P rec)(hg:cR rec){F:Fence}(hF:FC F){Q:Exit->Act->World->Prop}{ops:Array Oper}{draw:Bool}(hn:n<1000000):∀(l:List Oper) (k:Nat) (acc:List Oper) (ps:List Nat) (r:List RO),(∀(i:Nat) (o:Oper),l[i]?=some o->ops[k+i]?=some o)->ep P n draw ops acc l ps=some r->
  ∀(tm:Tm) (h:H) (tm':Tm) (h':H) (A:Nat->Prop) (ρ:Nat->Nat) (w:World) (a:Act),jB rec r tm h=some (tm',h')->Wf h->Rel P A ρ w h->Dj A h h'->Fr P A ρ w n ds tm a->
  (∀ρ' w' a',bO P A ρ w h ρ' w' h'->Fr P (Ext A h h') ρ' w' n ds tm' a'->Q .normal a' w')->wpOpsIn F 0 P ops Q (List.range' k l.length) a w
 |[],k,acc,ps,r,_,hc,tm,h,tm',h',A,ρ,w,a,e,f,t,hd,hf,hq=>by
  simp only[ep,af]at hc;subst hc;simp only[jB,af,av]at e;obtain⟨rfl,rfl⟩:=e;exact hq ρ w a (bO.refl t) (hf.mo ⟨fun _ hk=>.inl hk,fun _ _=>rfl⟩ (Lt.refl w))
 |o::l,k,acc,ps,r,hl,hc,tm,h,tm',h',A,ρ,w,a,e,f,t,hd,hf,hq=>by
  obtain⟨p,ps',g,r',rfl,h1,_,h2,h3,rfl⟩:=oB hc;have hk:ops[k]?=some o:=by simpa using hl 0 o rfl
  have hl':∀(i:Nat) (o':Oper),l[i]?=some o'->ops[k+1+i]?=some o':=fun i o' hi=>by
   have:=hl (i+1) o' (by simpa using hi);rwa[show k+(i+1)=k+1+i by omega]at this
  simp only[gj,List.range'_succ,wpOpsIn,hk];simp only[jB]at e;split at e
  ·next hw=>
   have hw':=mJ h2 hw (fun u b _=>hf.tr u);rw[hw',aB rfl];split at e
   ·next c h1' e1=>
    have g1:Gd h h1':=by
     unfold pQ at e1;split at e1
     ·obtain⟨⟨c',b⟩,_,e1⟩:=an e1;obtain⟨h2,e2,e3⟩:=ai e1;simp only[av]at e3;obtain⟨_,rfl⟩:=e3;exact mg f e2
     ·exact jK hg f e1
    have g2:=oW hg r' _ _ _ _ e g1.wf;have hd1:=hd.left g2.good.next
    have cont:∀u w' ρ',bO P A ρ w h ρ' w' h1'->VR P (Ext A h h1') ρ' w' c u->wpOpsIn F 0 P ops Q (List.range' (k+1) l.length) (a.put o.dst u) w':=fun u w' ρ' hp hu=>
     mO hrec hg hF hn l (k+1) _ ps' r' hl' h3 _ h1' tm' h' (Ext A h h1') ρ' w' _ e g1.wf hp.rel (hd.right g1.good.next) ((hf.mo (hp.mo hd1) hp.lt).put hn h1 hu) (fun ρ2 w2 a2 hp2 hf2=>
      hq ρ2 w2 a2 (hp.trans g1.good hp2 g2.good) (hf2.mo (Mo.ext g1.good.next g2.good.next _) (Lt.refl _)))
    unfold pQ at e1;split at e1
    ·next hT=>
     obtain⟨⟨c',b⟩,e2,e1⟩:=an e1;obtain⟨h2',e3,e4⟩:=ai e1;simp only[av]at e4;obtain⟨rfl,rfl⟩:=e4;have hcc:=ux rfl (.inr fun e5=>by rw[e5,Au]at e2;cases e2);exact zF hF (kC ⟨_,hcc⟩) (t_me hcc hT e2 e3 (hf.hv o) t hd1) cont
    ·next hT=>
     have hcc:=ux rfl (.inl hT);exact r_wp hrec hF hcc hT e1 f (hf.hv o) t hd1 cont
   ·cases e
  ·next hw=>
   have hw':=mJ h2 hw (fun u b _=>hf.tr u);rw[hw',aj aY];refine⟨fun g _=>hF.fn g,?_⟩;exact mO hrec hg hF hn l (k+1) _ ps' r' hl' h3 _ h tm' h' A ρ w _ e f t hd (hf.put hn h1 (by simp only[VR])) hq
  ·cases e
end CI
end
section
open Go.RowKit
namespace CI
variable {P : Program} {A A' : Nat->Prop} {ρ ρ' : Nat->Nat} {w w' : World} {tm tm' : Tm} {a : Act} {o : Oper} {c : C} {h h' h'' : H} {rec : Rec} {n : Nat} {ds : List Nat}
theorem fV(pre k:Nat):∀(iv:List (Nat×Nat×Nat)) (f:List (Nat×Nat)),bF k (fk pre iv f)=false->bF k f=false
 |[],f,h=>h
 |(i,x,y)::l,f,h=>by
  simp only[fk]at h;split at h
  ·exact fV pre k l f h
  ·simp only[bF]at h;split at h
   ·split at h
    ·cases h
    ·exact fV pre k l f h
   ·exact fV pre k l f h
theorem db{k a b:Nat}{f:List (Nat×Nat)}(h:bF k ((a,b)::f)=false):(k<a\/b<=k)/\bF k f=false:=by
 simp only[bF]at h;split at h
 ·next e1=>
  split at h
  ·cases h
  ·next e2=>
   refine⟨.inr (cK fun e3=>?_),h⟩;rw[<-aX]at e3;rw[e3]at e2;cases e2
 ·next e1=>
  refine⟨.inl (mD fun e3=>?_),h⟩;rw[kf e3]at e1;cases e1
theorem jx(k:Nat)(l:List Nat):dT k (k::l)=true:=by
 simp only[dT,de]
theorem tP{k x:Nat}{l:List Nat}(h:dT k l=true):dT k (x::l)=true:=by
 simp only[dT];split
 ·rfl
 ·exact h
theorem rF(a b:Nat):mnN a b=min a b:=by
 unfold mnN;split
 ·next e=>exact(eA (cn e)).symm
 ·next e=>
  refine(Nat.min_eq_right (Nat.le_of_not_le fun e2=>?_)).symm;rw[kf e2]at e;cases e
theorem da{k a b:Nat}{f:List (Nat×Nat)}(h:b<=k):bF k ((a,b)::f)=bF k f:=by
 simp only[bF];split
 ·split
  ·next e2=>
   have:k<b:=by simpa[aX]using e2
   omega
  ·rfl
 ·rfl
theorem Ck{next k:Nat}{g:Ft}{f:List (Nat×Nat)}(h:next<=k):bF k (kp next g f)=bF k f:=by
 cases g with
 |none=>rfl
 |some l=>
  simp only[kp]
  match l with
  |[]=>exact da h
  |[x]=>
   simp only[outs,rF];rw[da aa,da h]
  |x::y::l=>
   simp only[outs,rF];split
   ·rw[da aa,da aa,da h]
   ·rw[da aa,da aa,da h]
theorem fQ{next k:Nat}{g:Ft}{f:List (Nat×Nat)}(h:bF k (kp next g f)=false):bF k f=false/\(k<next->g.has k=true):=by
 cases g with
 |none=>exact⟨h,fun _=>rfl⟩
 |some l=>
  simp only[kp]at h;show bF k f=false/\(k<next->dT k l=true)
  match l,h with
  |[],h=>
   obtain⟨h1,h2⟩:=db h;exact⟨h2,fun hk=>by omega⟩
  |[x],h=>
   simp only[outs,rF]at h;obtain⟨h1,h2⟩:=db h;obtain⟨h3,h4⟩:=db h2;refine⟨h4,fun hk=>?_⟩;have:x=k:=by omega
   rw[this];exact jx _ _
  |x::y::l,h=>
   simp only[outs,rF]at h;split at h
   ·obtain⟨h1,h2⟩:=db h;obtain⟨h3,h4⟩:=db h2;obtain⟨h5,h6⟩:=db h4;refine⟨h6,fun hk=>?_⟩;have:x=k\/y=k:=by omega
    rcases this with e|e
    ·rw[e];exact jx _ _
    ·rw[e];exact tP (jx _ _)
   ·obtain⟨h1,h2⟩:=db h;obtain⟨h3,h4⟩:=db h2;obtain⟨h5,h6⟩:=db h4;refine⟨h6,fun hk=>?_⟩;have:x=k\/y=k:=by omega
    rcases this with e|e
    ·rw[e];exact jx _ _
    ·rw[e];exact tP (jx _ _)
def H.part(h:H)(pre:Nat)(iv:List (Nat×Nat×Nat))(g:Ft):H:=⟨h.next,h.next,kp h.next g (fk pre iv h.forb),h.t⟩
theorem ko{pre:Nat}{iv:List (Nat×Nat×Nat)}{g:Ft}{k:Nat}{b:B}(e:(h.part pre iv g).get k=some b):h.get k=some b:=by
 unfold H.get at e⊢;split at e
 ·cases e
 ·next hf=>rw[fV pre k iv h.forb (fQ hf).1];exact e
theorem ig{pre:Nat}{iv:List (Nat×Nat×Nat)}{g:Ft}(f:Wf h):Wf (h.part pre iv g):=⟨f.bd,f.lt⟩
def H.whole(h h':H):H:=⟨h'.next,(match Nat.blt h'.low h.low with|true=>h'.low|false=>h.low),h.forb,h'.t⟩
theorem tB(h h':H):(h.whole h').low<=h.low/\(h.whole h').low<=h'.low:=by
 show(match Nat.blt h'.low h.low with|true=>h'.low|false=>h.low)<=h.low/\(match Nat.blt h'.low h.low with|true=>h'.low|false=>h.low)<=h'.low;split
 ·next e=>
  have:h'.low<h.low:=by simpa[aX]using e
  exact⟨cE this,ah _⟩
 ·next e=>
  have:¬h'.low<h.low:=by intro e2;rw[<-aX]at e2;rw[e2]at e;cases e
  exact⟨ah _,by omega⟩
theorem sQ{pre:Nat}{iv:List (Nat×Nat×Nat)}{gf:Ft}(g:Gd (h.part pre iv gf) h'):Gd h (h.whole h'):=by
 obtain⟨l1,l2⟩:=tB h h';refine⟨⟨g.wf.bd,g.wf.lt⟩,⟨g.good.next,l1,rfl,fun k hk hl=>g.good.keep k hk (aV hl l2),fun k hk hd=>g.good.dead k hk fun hl=>hd ?_⟩⟩;obtain⟨b,e⟩:=cq.1 hl;exact aO (ko e)
theorem tH{o:RO}{l:List RO}{j:Nat}{iv:List (Nat×Nat×Nat)}{rw:List (Nat×Bool×Ft)}(e:eJ rec (o::l) j iv rw tm h=some (tm',h')):
  (eC o tm=some false/\eJ rec l (j+1) iv rw (fC tm o.dst .any) h=some (tm',h'))\/
  (eC o tm=some true/\o.x.isT=true/\∃c ob h1,xT o.x tm h.next=some (c,ob)/\h.gE ob=some h1/\eJ rec l (j+1) (match ob with|none=>iv|some _=>(j,h.next,h1.next)::iv) rw (fC tm o.dst c) h1=some (tm',h'))\/
  (eC o tm=some true/\o.x.isT=false/\∃c h1,xR rec o.x tm (h.part o.pre iv (xFt o.x tm))=some (c,h1)/\jk o.pre (Nat.blt h1.low h.next) (xFt o.x tm) rw=false/\
   eJ rec l (j+1) (match Nat.blt h.next h1.next with|true=>(j,h.next,h1.next)::iv|false=>iv) ((j,Nat.blt h1.low h.next,xFt o.x tm)::rw) (fC tm o.dst c) (h.whole h1)=some (tm',h')):=by
 simp only[eJ]at e;split at e
 ·next hw=>
  split at e
  ·next hT=>
   split at e
   ·next c e1=>exact .inr (.inl ⟨hw,hT,c,none,h,e1,rfl,e⟩)
   ·next c b e1=>
    split at e
    ·next h1 e2=>exact .inr (.inl ⟨hw,hT,c,some b,h1,e1,e2,e⟩)
    ·cases e
   ·cases e
  ·next hT=>
   split at e
   ·next c h1 e1=>
    split at e
    ·cases e
    ·next hcl=>exact .inr (.inr ⟨hw,hT,c,h1,e1,hcl,e⟩)
   ·cases e
 ·next hw=>exact .inl ⟨hw,e⟩
 ·cases e
theorem oX(hg:cR rec):∀(r:List RO) (j:Nat) (iv:List (Nat×Nat×Nat)) (rw:List (Nat×Bool×Ft)) (tm:Tm) (h:H) (tm':Tm) (h':H),eJ rec r j iv rw tm h=some (tm',h')->Wf h->Gd h h'
 |[],j,iv,rw,tm,h,tm',h',e,f=>by
  simp only[eJ,af,av]at e;obtain⟨_,rfl⟩:=e;exact Gd.refl f
 |o::l,j,iv,rw,tm,h,tm',h',e,f=>by
  rcases tH e with⟨_,e⟩|⟨_,_,c,ob,h1,_,e2,e⟩|⟨_,_,c,h1,e1,_,e⟩
  ·exact oX hg l _ _ _ _ _ _ _ e f
  ·have g1:=mg f e2;exact g1.trans (oX hg l _ _ _ _ _ _ _ e g1.wf)
  ·have g1:=sQ (jK hg (ig f) e1);exact g1.trans (oX hg l _ _ _ _ _ _ _ e g1.wf)
def wZ(P:Program)(rec:Rec):Prop:=∀(F:Fence) (_:FC F) (Q:Exit->Act->World->Prop) (ops:Array Oper) (id n:Nat) (_:n<1000000) (r:List RO) (_:ep P n true ops [] ops.toList (gW ops.toList [])=some r)
 (tm:Tm) (h:H) (tm':Tm) (h':H) (_:eJ rec r 0 [] [] tm h=some (tm',h')) (_:Wf h) (A:Nat->Prop) (ρ:Nat->Nat) (w:World) (a:Act) (ds:List Nat) (_:Rel P A ρ w h) (_:Dj A h h') (_:Fr P A ρ w n ds tm a)
 (_:∀ρ' w' a',bO P A ρ w h ρ' w' h'->Fr P (Ext A h h') ρ' w' n ds tm' a'->Q .normal a' w'),(Code.region id ops true).wpIn F 0 P Q a w
end CI
end
section
open Go.RowKit
namespace CI
variable {P : Program} {h h' h'' : H} {rec : Rec} {E : Env}
def oF(rec:Rec):Prop:=∀cc tm ds rd h e tm' ds' h',rec (.code cc tm ds rd h)=some (.code e tm' ds' h')->Wf h->Gd h h'
theorem lj:∀(ds:List Nat) (h h':H),eH ds h=some h'->Wf h->Gd h h'
 |[],h,h',e,f=>by simp only[eH,af]at e;subst e;exact Gd.refl f
 |k::l,h,h',e,f=>by
  simp only[eH]at e;split at e
  ·next hb=>
   have g:=ft (b:=some (.defd false)) f (aO hb);exact g.trans (lj l _ _ e g.wf)
  ·cases e
theorem xQ{l:Nat}{e:Ex}{c:C}(hh:wB l e h=some (c,h'))(f:Wf h):Gd h h':=by
 unfold wB at hh;split at hh
 ·next hb=>
  split at hh<;>(simp only[af,av]at hh;obtain⟨_,rfl⟩:=hh;exact ft f (aO hb))
 ·cases hh
theorem Gk(hr:cR rec)(hc:oF rec):cR (body E rec)/\oF (body E rec):=by
 constructor
 ·intro f args h c h' e fh;simp only[body]at e;split at e
  ·split at e
   ·obtain⟨_,_,e2⟩:=ai e;simp only[Out.val.injEq]at e2;obtain⟨_,rfl⟩:=e2;exact Gd.refl fh
   ·split at e
    ·split at e
     ·cases e
     ·split at e
      ·next e1=>
       have g1:=hc _ _ _ _ _ _ _ _ _ e1 fh;split at e
       ·cases e
       ·obtain⟨h2,e2,e⟩:=an e;obtain⟨rs,e3,e4⟩:=ai e;simp only[Out.val.injEq]at e4;obtain⟨_,rfl⟩:=e4;exact g1.trans (lj _ _ _ e2 g1.wf)
      ·cases e
    ·cases e
  ·split at e
   ·split at e
    ·split at e
     ·next e1=>
      have g1:=hc _ _ _ _ _ _ _ _ _ e1 fh;split at e
      ·next hb=>
       split at e
       ·next e2=>
        have g0:=hc _ _ _ _ _ _ _ _ _ e2 (ft g1.wf (aO hb)).wf;have g3:=g1.trans ((ft g1.wf (aO hb)).trans g0);obtain⟨⟨c',h3⟩,e3,e4⟩:=ai e;simp only[Out.val.injEq]at e4;obtain⟨_,rfl⟩:=e4;exact g3.trans (xQ e3 g3.wf)
       ·cases e
      ·cases e
     ·cases e
    ·cases e
   ·cases e
  ·cases e
 ·intro cc tm ds rd h e tm' ds' h' ee fh
  cases cc with
  |skip=>simp only[body,af,Out.code.injEq]at ee;obtain⟨_,_,_,rfl⟩:=ee;exact Gd.refl fh
  |ret=>simp only[body,af,Out.code.injEq]at ee;obtain⟨_,_,_,rfl⟩:=ee;exact Gd.refl fh
  |exit id=>simp only[body,af,Out.code.injEq]at ee;obtain⟨_,_,_,rfl⟩:=ee;exact Gd.refl fh
  |seq a b=>
   simp only[body]at ee;split at ee
   ·next e1=>
    have g1:=hc _ _ _ _ _ _ _ _ _ e1 fh;exact g1.trans (hc _ _ _ _ _ _ _ _ _ ee g1.wf)
   ·exact hc _ _ _ _ _ _ _ _ _ ee fh
  |cond c a b=>
   simp only[body]at ee;split at ee
   ·exact hc _ _ _ _ _ _ _ _ _ ee fh
   ·exact hc _ _ _ _ _ _ _ _ _ ee fh
   ·cases ee
  |block id c=>
   simp only[body]at ee;split at ee
   ·next e1=>
    have g1:=hc _ _ _ _ _ _ _ _ _ e1 fh;split at ee<;>(simp only[af,Out.code.injEq]at ee;obtain⟨_,_,_,rfl⟩:=ee;exact g1)
   ·exact hc _ _ _ _ _ _ _ _ _ ee fh
  |loop c=>
   simp only[body]at ee;split at ee
   ·next e1=>
    have g1:=hc _ _ _ _ _ _ _ _ _ e1 fh;exact g1.trans (hc _ _ _ _ _ _ _ _ _ ee g1.wf)
   ·exact hc _ _ _ _ _ _ _ _ _ ee fh
  |reg draw ops=>
   simp only[body]at ee;split at ee
   ·next e1=>
    simp only[af,Out.code.injEq]at ee;obtain⟨_,rfl,_,rfl⟩:=ee;split at e1
    ·exact oX hr _ _ _ _ _ _ _ _ e1 fh
    ·exact oW hr _ _ _ _ _ e1 fh
   ·cases ee
  |rng f ps a b=>
   simp only[body]at ee;split at ee
   ·next d ds1 h1 e1=>
    have g1:Gd h h1:=by
     split at e1
     ·split at e1
      ·simp only[af,av]at e1;obtain⟨_,_,rfl⟩:=e1;exact Gd.refl fh
      ·cases e1
     ·obtain⟨h2,e2,e3⟩:=ai e1;simp only[av]at e3;obtain⟨_,_,rfl⟩:=e3;exact iL fh e2
    split at ee
    ·next h2 e2=>
     have g2:=g1.trans (iL g1.wf e2);split at ee
     ·next e3=>
      split at e3
      ·next g caps _=>
       have g3:=g2.trans (hr _ _ _ _ _ e3 g2.wf);split at ee
       ·cases ee
       ·next hb=>
        simp only[af,Out.code.injEq]at ee;obtain⟨_,_,_,rfl⟩:=ee;exact g3.trans (ft g3.wf (aO hb))
       ·cases ee
      ·cases e3
     ·cases ee
    ·cases ee
   ·cases ee
theorem lX(E:Env):∀n,cR (run E n)/\oF (run E n)
 |0=>⟨fun _ _ _ _ _ e=>by simp[run]at e,fun _ _ _ _ _ _ _ _ _ e=>by simp[run]at e⟩
 |n+1=>Gk (lX E n).1 (lX E n).2
end CI
end
section
open Go.RowKit
namespace CI
variable {P : Program} {A A' : Nat->Prop} {ρ ρ' : Nat->Nat} {w w' : World} {tm tm' : Tm} {a : Act} {c : C} {h h' h'' : H} {rec : Rec} {E : Env} {n : Nat} {ds ds' : List Nat}
def exM:Ex->Exit->Prop
 | .norm,.normal=>True
 | .ret,.ret=>True
 | .exit i,.exit j=>i=j
 |_,_=>False
def fZ(P:Program)(A:Nat->Prop)(ρ:Nat->Nat)(w:World)(h:H)(n:Nat)(e:Ex)(tm':Tm)(ds':List Nat)(h':H):Exit->Act->World->Prop:=fun e' a' w'=>
 exM e e'/\∃ρ',bO P A ρ w h ρ' w' h'/\Fr P (Ext A h h') ρ' w' n ds' tm' a'
def fc(rd:Option Nat)(ρ:Nat->Nat):Fence:=match rd with|none=>Fence.wide|some l=>Fence.wide.inRound (ρ l)
theorem Eo(rd:Option Nat)(ρ:Nat->Nat):FC (fc rd ρ):=by
 cases rd with
 |none=>exact .inl rfl
 |some l=>exact .inr ⟨_,rfl⟩
theorem En{rd:Option Nat}(h:∀l,rd=some l->ρ' l=ρ l):fc rd ρ'=fc rd ρ:=by
 cases rd with
 |none=>rfl
 |some l=>simp only[fc,h l rfl]
def kG(P:Program)(rec:Rec):Prop:=∀cc tm ds rd h e tm' ds' h',rec (.code cc tm ds rd h)=some (.code e tm' ds' h')->Wf h->∀n c A ρ w a,comp P n c=some cc->n<1000000->Rel P A ρ w h->Dj A h h'->Fr P A ρ w n ds tm a->(∀l,rd=some l->A l)->
 c.wpIn (fc rd ρ) 0 P (fZ P A ρ w h n e tm' ds' h') a w
theorem rU{h1:H}{ρ1:Nat->Nat}{w1:World}{e:Ex}{e':Exit}{a':Act}(p:bO P A ρ w h ρ1 w1 h1)(g:Gd h h1)(g':Gd h1 h')(q:fZ P (Ext A h h1) ρ1 w1 h1 n e tm' ds' h' e' a' w'):fZ P A ρ w h n e tm' ds' h' e' a' w':=by
 obtain⟨h1,ρ2,hp,hf⟩:=q;exact⟨h1,ρ2,p.trans g.good hp g'.good,hf.mo (Mo.ext g.good.next g'.good.next _) (Lt.refl _)⟩
theorem Fr.ext(f:Fr P A ρ w n ds tm a):Fr P (Ext A h h') ρ w n ds tm a:=f.mo ⟨fun _ hk=>.inl hk,fun _ _=>rfl⟩ (Lt.refl w)
theorem xf{F:Fence}{m:Nat}{c:Code}{Q:Exit->Act->World->Prop}(I:Nat->Act->World->Prop){k:Nat}(h₀:I k a w)
  (round:∀k a w,I k a w->c.wpIn F m P (Exit.then (fun a' w'=>∃k',k'<k/\I k' a' w') Q) a w):(Code.loop c).wpIn F m P Q a w:=by
 intro b kk cs hro hb hr
 have key : ∀ j a w, I j a w ->
     ∃e a' w',Q e a' w'/\ArrivesIn (Machine.fenced P F) P (lone (b.atR a (.code c:: .inLoop c::kk)) cs w) b kk cs e a' w':=by
  intro j
  induction j using Nat.strongRecOn with
  |_ j ih=>
   intro a w hI;obtain⟨e,a₁,w₁,hq,harr⟩:=round j a w hI b (.inLoop c::kk) cs hro hb hr
   cases e with
   |normal=>
    obtain⟨k',hlt,hI₁⟩:=hq;obtain⟨e₂,a₂,w₂,hq₂,harr₂⟩:=ih k' hlt a₁ w₁ hI₁;exact⟨e₂,a₂,w₂,hq₂, .of_steps (StepsIn.trans harr (.one (fenced_calm hb hr rfl) stepR_inLoop)) harr₂⟩
   |exit id=>exact⟨_,a₁,w₁,hq, .pass (x:= .inLoop c) rfl (fun _ _=> .inl aY) harr⟩
   |goto l=>exact⟨_,a₁,w₁,hq, .pass (x:= .inLoop c) rfl (fun _ _=> .inl aY) harr⟩
   |ret=>exact⟨_,a₁,w₁,hq, .pass (x:= .inLoop c) rfl (fun _ _=> .inl aY) harr⟩
   |panic ch=>exact⟨_,a₁,w₁,hq, .pass (x:= .inLoop c) rfl (fun _ _=> .inl aY) harr⟩
   |outgrown=>exact⟨_,a₁,w₁,hq, .pass (x:= .inLoop c) rfl (fun _ _=> .inl aY) harr⟩
 obtain⟨e,a',w',hq,harr⟩:=key k a w h₀;exact⟨e,a',w',hq, .of_steps (.one (fenced_calm hb hr rfl) stepR_loop) harr⟩
theorem ni{e':Exit}(h:exM .norm e'):e'= .normal:=by cases e'<;>simp[exM]at h⊢
theorem lT{h1:H}{e:Ex}{F:Fence}{c:Code}{tm1:Tm}{ds1:List Nat}{K:Act->World->Prop}{Q:Exit->Act->World->Prop}(hw:c.wpIn F 0 P (fZ P A ρ w h n e tm1 ds1 h1) a w)
  (hk:e= .norm->∀ρ1 w1 a1,bO P A ρ w h ρ1 w1 h1->Fr P (Ext A h h1) ρ1 w1 n ds1 tm1 a1->K a1 w1) (hq:e≠ .norm->∀e' a1 w1,fZ P A ρ w h n e tm1 ds1 h1 e' a1 w1->Q e' a1 w1):c.wpIn F 0 P (Exit.then K Q) a w:=by
 refine wpIn_mono hw fun e' a1 w1 hp=>?_
 cases e with
 |norm=>
  obtain⟨h1,ρ1,hp,hf⟩:=hp;rw[ni h1];exact hk rfl ρ1 w1 a1 hp hf
 |ret=>
  have hp':=hp;obtain⟨h1,_⟩:=hp;cases e'<;>simp[exM]at h1;exact hq aY _ _ _ hp'
 |exit i=>
  have hp':=hp;obtain⟨h1,_⟩:=hp;cases e'<;>simp[exM]at h1;exact hq aY _ _ _ hp'
theorem Gf{N:Nat}(hR:∀m,m<=N->iU P (run E m))(hC:∀m,m<=N->kG P (run E m))(hD:∀m,m<=N->wZ P (run E m))(hrng:∀f ps x y cc tm ds rd h e tm' ds' h',run E (N+1) (.code cc tm ds rd h)=some (.code e tm' ds' h')->Wf h->∀n A ρ w a,comp P n (.rangeFunc f ps x y)=some cc->n<1000000->Rel P A ρ w h->Dj A h h'->Fr P A ρ w n ds tm a->(∀l,rd=some l->A l)->(Code.rangeFunc f ps x y).wpIn (fc rd ρ) 0 P (fZ P A ρ w h n e tm' ds' h') a w):kG P (run E (N+1)):=by
 intro cc tm ds rd h e tm' ds' h' ee fh n c A ρ w a hcc hn t hd hf hrd;have hFC:=Eo rd ρ;have gd:=fun m=>lX E m
 cases c with
 |skip=>
  simp only[comp,af]at hcc;subst hcc;simp only[run,body,af,Out.code.injEq]at ee;obtain⟨rfl,rfl,rfl,rfl⟩:=ee;exact wpIn_skip ⟨trivial,ρ,bO.refl t,hf.ext⟩
 |label l=>
  simp only[comp,af]at hcc;subst hcc;simp only[run,body,af,Out.code.injEq]at ee;obtain⟨rfl,rfl,rfl,rfl⟩:=ee;exact wpIn_label ⟨trivial,ρ,bO.refl t,hf.ext⟩
 |ret=>
  simp only[comp,af]at hcc;subst hcc;simp only[run,body,af,Out.code.injEq]at ee;obtain⟨rfl,rfl,rfl,rfl⟩:=ee;exact wpIn_ret ⟨trivial,ρ,bO.refl t,hf.ext⟩
 |exit id=>
  simp only[comp,af]at hcc;subst hcc;simp only[run,body,af,Out.code.injEq]at ee;obtain⟨rfl,rfl,rfl,rfl⟩:=ee;exact wpIn_exit ⟨rfl,ρ,bO.refl t,hf.ext⟩
 |goto l=>simp[comp]at hcc
 |scope x=>simp[comp]at hcc
 |refuse s=>simp[comp]at hcc
 |seq x y=>
  simp only[comp]at hcc;obtain⟨cx,e1,hcc⟩:=an hcc;obtain⟨cy,e2,rfl⟩:=ai hcc;simp only[run,body]at ee;split at ee
  ·next tm1 ds1 h1 e3=>
   have g1:=(gd N).2 _ _ _ _ _ _ _ _ _ e3 fh;have g2:=(gd N).2 _ _ _ _ _ _ _ _ _ ee g1.wf;refine wpIn_seq (lT (hC N (ah _) _ _ _ _ _ _ _ _ _ e3 fh n x A ρ w a e1 hn t (hd.left g2.good.next) hf hrd) (fun _ ρ1 w1 a1 hp hf1=>?_) (fun he=>absurd rfl he));have hfc:fc rd ρ1=fc rd ρ:=En fun l hl=>(hp.mo (hd.left g2.good.next)).eq l (hrd l hl);rw[<-hfc];exact wpIn_mono (hC N (ah _) _ _ _ _ _ _ _ _ _ ee g1.wf n y _ ρ1 w1 a1 e2 hn hp.rel (hd.right g1.good.next) hf1 (fun l hl=>.inl (hrd l hl))) fun e' a' w' q=>rU hp g1 g2 q
  ·next hne=>
   refine wpIn_seq (lT (hC N (ah _) _ _ _ _ _ _ _ _ _ ee fh n x A ρ w a e1 hn t hd hf hrd) (fun he=>?_) (fun _ e' a1 w1 q=>q));subst he;exact absurd ee (hne _ _ _)
 |cond x y z=>
  simp only[comp]at hcc;obtain⟨cx,e1,hcc⟩:=an hcc;obtain⟨cy,e2,rfl⟩:=ai hcc;have hx:=hf.tr.op x;unfold OpV at hx;simp only[run,body]at ee;split at ee
  ·next e3=>
   rw[e3]at hx;exact wpIn_cond_true hx.bool (hC N (ah _) _ _ _ _ _ _ _ _ _ ee fh n y A ρ w a e1 hn t hd hf hrd)
  ·next e3=>
   rw[e3]at hx;exact wpIn_cond_false hx.bool (hC N (ah _) _ _ _ _ _ _ _ _ _ ee fh n z A ρ w a e2 hn t hd hf hrd)
  ·cases ee
 |block id x=>
  simp only[comp]at hcc;obtain⟨cx,e1,rfl⟩:=ai hcc;simp only[run,body]at ee;refine wpIn_block ?_;split at ee
  ·next i tm1 ds1 h1 e3=>
   split at ee
   ·next hi=>
    have hi':=cg hi;simp only[af,Out.code.injEq]at ee;obtain⟨rfl,rfl,rfl,rfl⟩:=ee;refine wpIn_mono (hC N (ah _) _ _ _ _ _ _ _ _ _ e3 fh n x A ρ w a e1 hn t hd hf hrd) fun e' a' w' q=>?_;obtain⟨q1,q2⟩:=q;cases e'<;>simp[exM]at q1;subst q1;simp only[Exit.inBlock,hi',if_true];exact⟨trivial,q2⟩
   ·next hi=>
    have hi':=nK hi;simp only[af,Out.code.injEq]at ee;obtain⟨rfl,rfl,rfl,rfl⟩:=ee;refine wpIn_mono (hC N (ah _) _ _ _ _ _ _ _ _ _ e3 fh n x A ρ w a e1 hn t hd hf hrd) fun e' a' w' q=>?_;obtain⟨q1,q2⟩:=q;cases e'<;>simp[exM]at q1;subst q1;simp only[Exit.inBlock,hi',if_false];exact⟨rfl,q2⟩
  ·next hne=>
   refine wpIn_mono (hC N (ah _) _ _ _ _ _ _ _ _ _ ee fh n x A ρ w a e1 hn t hd hf hrd) fun e' a' w' q=>?_
   cases e with
   |norm=>have:=ni q.1;subst this;exact q
   |ret=>
    have q1:=q.1;cases e'<;>simp[exM]at q1;exact q
   |exit i=>exact absurd ee (hne _ _ _ _)
 |loop x=>
  simp only[comp]at hcc;obtain⟨cx,e1,rfl⟩:=ai hcc;refine xf (fun k a1 w1=>k<=N+1/\∃tm1 ds1 h1 ρ1,run E k (.code (.loop cx) tm1 ds1 rd h1)=some (.code e tm' ds' h')/\Gd h h1/\bO P A ρ w h ρ1 w1 h1/\Fr P (Ext A h h1) ρ1 w1 n ds1 tm1 a1) (k:=N+1) ⟨ah _,tm,ds,h,ρ,ee,Gd.refl fh,bO.refl t,hf.ext⟩ ?_;rintro k a1 w1 ⟨hk,tm1,ds1,h1,ρ1,er,g1,p1,f1⟩
  cases k with
  |zero=>simp[run]at er
  |succ k=>
   have hkN:k<=N:=by omega
   have gEnd:=(gd (k+1)).2 _ _ _ _ _ _ _ _ _ er g1.wf;have hd1:=hd.right g1.good.next
   have hfc:fc rd ρ1=fc rd ρ:=En fun l hl=>(p1.mo (hd.left gEnd.good.next)).eq l (hrd l hl);simp only[run,body]at er;rw[<-hfc];split at er
   ·next tm2 ds2 h2 e3=>
    have g2:=(gd k).2 _ _ _ _ _ _ _ _ _ e3 g1.wf;have g3:=(gd k).2 _ _ _ _ _ _ _ _ _ er g2.wf;refine lT (hC k hkN _ _ _ _ _ _ _ _ _ e3 g1.wf n x _ ρ1 w1 a1 e1 hn p1.rel (hd1.left g3.good.next) f1 (fun l hl=>.inl (hrd l hl))) (fun _ ρ2 w2 a2 hp hf2=>⟨k,by omega,by omega,tm2,ds2,h2,ρ2,er,g1.trans g2,p1.trans g1.good hp g2.good,hf2.mo (Mo.ext g1.good.next g2.good.next _) (Lt.refl _)⟩) (fun he=>absurd rfl he)
   ·next hne=>
    have g2:=(gd k).2 _ _ _ _ _ _ _ _ _ er g1.wf;refine lT (hC k hkN _ _ _ _ _ _ _ _ _ er g1.wf n x _ ρ1 w1 a1 e1 hn p1.rel hd1 f1 (fun l hl=>.inl (hrd l hl))) (fun he=>?_) (fun _ e' a2 w2 q=>rU p1 g1 g2 q);subst he;exact absurd er (hne _ _ _)
 |region id ops draw=>
  simp only[comp]at hcc;obtain⟨r,e1,rfl⟩:=ai hcc;simp only[run,body]at ee;split at ee
  ·next tm1 h1 e2=>
   simp only[af,Out.code.injEq]at ee;obtain⟨rfl,rfl,rfl,rfl⟩:=ee
   cases draw with
   |true=>exact hD N (ah _) (fc rd ρ) hFC _ ops id n hn r e1 tm h tm1 h1 e2 fh A ρ w a ds t hd hf (fun ρ' w' a' hp hf'=>⟨trivial,ρ',hp,hf'⟩)
   |false=>
    refine wpIn_region ?_;rw[List.range_eq_range'];have:=mO (hR N (ah _)) (gd N).1 hFC (Q:=fZ P A ρ w h n .norm tm1 ds h1) (ops:=ops) hn ops.toList 0 [] _ r (fun i o hi=>by rw[bQ];simpa using hi) e1 tm h tm1 h1 A ρ w a e2 fh t hd hf (fun ρ' w' a' hp hf'=>⟨trivial,ρ',hp,hf'⟩);simpa using this
  ·cases ee
 |rangeFunc f ps x y=>exact hrng f ps x y cc tm ds rd h e tm' ds' h' ee fh n A ρ w a hcc hn t hd hf hrd
end CI
end
section
open Go.RowKit
namespace CI
variable {P : Program} {A A' : Nat->Prop} {ρ ρ' : Nat->Nat} {w w' : World} {tm tm' : Tm} {a : Act} {c : C} {h h' h'' : H} {rec : Rec} {E : Env} {n : Nat} {ds ds' : List Nat}
theorem lD(w:World)(o:Obj):Below w.heap.size w (w.alloc o):=(Below.refl _ _).alloc (ah _) _
theorem rC{r:Nat}{o:Obj}(h:w.heap[r]?=some o)(ho:∀c e f,o≠ .cells c e f):NW w r:=fun m e=>by
 unfold World.cell? at e;rw[h]at e;cases o<;>simp at e;exact absurd rfl (ho _ _ _)
theorem kR{r:Nat}{o:Obj}(h:w.heap[r]?=some o)(ho:∀c e f,o≠ .cells c e f):w.shape? r=none:=by
 unfold World.shape?;rw[h];cases o<;>first|rfl|exact absurd rfl (ho _ _ _)
theorem mQ{k:Nat}{b b0:B}{o o':Obj}(t:Rel P A ρ w h)(hb:h.get k=some b0)(ho:w.heap[ρ k]?=some o)(hoc:∀c e f,o≠ .cells c e f)(hB:BR P A ρ (w.putObj (ρ k) o') (ρ k) b):bO P A ρ w h ρ (w.putObj (ρ k) o') (h.set k (some b)):=by
 refine vA t (aO hb) ⟨rfl,rfl,rfl,by simp,fun j _ hj=>World.putObj_heap_other hj⟩ (rC ho hoc) (fun s hs=>?_) hB;rw[kR ho hoc]at hs;cases hs
theorem Ch{N:Nat}(hR:iU P (run E N)):∀f ps x y cc tm ds rd h e tm' ds' h',run E (N+1) (.code cc tm ds rd h)=some (.code e tm' ds' h')->Wf h->∀n A ρ w a,comp P n (.rangeFunc f ps x y)=some cc->n<1000000->Rel P A ρ w h->Dj A h h'->Fr P A ρ w n ds tm a->(∀l,rd=some l->A l)->(Code.rangeFunc f ps x y).wpIn (fc rd ρ) 0 P (fZ P A ρ w h n e tm' ds' h') a w:=by
 intro f ps x y cc tm ds rd h e tm' ds' h' ee fh n A ρ w a hcc hn t hd hf hrd;have hFC:=Eo rd ρ;simp only[comp]at hcc;split at hcc
 ·cases hcc
 next hall=>
 obtain⟨ca,c1,hcc⟩:=an hcc;obtain⟨cb,c2,rfl⟩:=ai hcc;have hps:∀u∈ps.toList,u<n:=fun u hu=>by
  have:=fL.1 hall u hu;simpa[aX]using this
 simp only[run,body]at ee;split at ee
 case h_2=>cases ee
 next d ds1 h1 e1=>
 split at ee
 case h_2=>cases ee
 next h2 e2=>
 split at ee
 case h_2=>cases ee
 next c3 h3 e3=>
 split at e3
 case h_2=>cases e3
 next g caps ef=>
 split at ee
 ·cases ee
 case h_3=>cases ee
 next st p tm2 ps2 a2 b2 d2 hst hb3=>
 simp only[af,Out.code.injEq]at ee;obtain⟨rfl,rfl,rfl,rfl⟩:=ee;have g1:Gd h h1:=by
  split at e1
  ·split at e1
   ·simp only[af,av]at e1;obtain⟨_,_,rfl⟩:=e1;exact Gd.refl fh
   ·cases e1
  ·obtain⟨hx,ex,e3x⟩:=ai e1;simp only[av]at e3x;obtain⟨_,_,rfl⟩:=e3x;exact iL fh ex
 have g2:=iL g1.wf e2;have g3:=(lX E N).1 _ _ _ _ _ e3 g2.wf;have g4:=ft (b:=some (B.loop .oa p tm2 ps2 a2 b2 d2)) g3.wf (aO hb3);have hd1:Dj A h h1:=hd.left (aU g2.good.next (aU g3.good.next g4.good.next));have hd2:Dj (Ext A h h1) h1 h2:=(hd.right g1.good.next).left (aU g3.good.next g4.good.next);have hd3:Dj (Ext (Ext A h h1) h1 h2) h2 h3:=((hd.right g1.good.next).right g2.good.next).left g4.good.next
 have key:∃ρ1 w1 mark,bO P A ρ w h ρ1 w1 h1/\Ext A h h1 d/\(∀fn,(Instr.enterLoop fn a.tmps ps x y (fc rd ρ).round).run P w= .ok (w1.heap.size,mark) (w1.alloc (.loop ⟨.ready,none,fn,a.tmps,ps,x,y,ρ1 d⟩)))/\mark++a.defers=ds1.map (oC ρ1)/\∀k∈ds1,Ext A h h1 k:=by
  cases rd with
  |none=>
   obtain⟨h1',k1,k2⟩:=ai e1;simp only[av]at k2;obtain⟨rfl,rfl,rfl⟩:=k2;have hB:∀A' ρ',Mo A A' ρ ρ'->ρ' h.next=w.heap.size->A' h.next->BR P A' ρ' (w.alloc (.deferred (some []))) w.heap.size (.defd true):=fun A' ρ' _ _ _=>heap_alloc_new w _
   have hp:=ja t k1 hd1 (lD w (.deferred (some []))) (ah _) aY hB;have hnx:Ext A h h1' h.next:=.inr ⟨ah _,by have:=(cw k1).1;omega⟩
   have hat:at' ρ h.next w.heap.size h.next=w.heap.size:=by unfold at';rw[aB rfl]
   refine⟨_,w.alloc (.deferred (some [])),[{target:=.collected w.heap.size,args:=#[]}],hp,hnx,fun fn=>?_,?_,fun k hk=>?_⟩
   ·have:=run_enterLoop_outer (P:=P) (w:=w) fn a.tmps ps x y;rw[hat];show(Instr.enterLoop fn a.tmps ps x y none).run P w=_;rw[this];simp
   ·rw[du,hf.df];simp only[List.singleton_append,oC,hat,List.cons.injEq,true_and];exact va fun k hk=>by unfold oC;rw[(hp.mo hd1).eq k (hf.nm k hk)]
   ·rcases aZ.1 hk with rfl|hk
    ·exact hnx
    ·exact .inl (hf.nm k hk)
  |some l=>
   simp only at e1;split at e1
   ·next st' p' tmx psx ax bx dx hbl=>
    simp only[af,av]at e1;obtain⟨rfl,rfl,rfl⟩:=e1;obtain⟨_,_,_,hA,fn',tmps',a',b',hh,_⟩:=t.blk l _ hbl;refine⟨ρ,w,[],bO.refl t,.inl hA,fun fn=>?_,by rw[iw,hf.df],fun k hk=>.inl (hf.nm k hk)⟩;show(Instr.enterLoop fn a.tmps ps x y (some (ρ l))).run P w=_;unfold Instr.enterLoop;simp only[Sem.run_bind,run_getLoop hh,Result.andThen_ok,run_newObj_alloc,Sem.run_pure]
   ·cases e1
 obtain⟨ρ1,w1,mark,p1,hAd,henter,hmark,hds1⟩:=key;have hf1:=hf.mo (p1.mo hd1) p1.lt;refine wpIn_rangeFunc fun fn _=>?_;have hB:∀A' ρ',Mo (Ext A h h1) A' ρ1 ρ'->ρ' h1.next=w1.heap.size->A' h1.next->BR P A' ρ' (w1.alloc (.loop ⟨.ready,none,fn,a.tmps,ps,x,y,ρ1 d⟩)) w1.heap.size (.loop .ready .norm tm ps.toList ca cb d):=fun A' ρ' m _ _=>
  ⟨m.sub d hAd,fn,a.tmps,x,y,by rw[m.eq d hAd];exact heap_alloc_new w1 _,hf1.tr.mo m (Lt.below (lD w1 _)),by rw[hf.sz];exact c1,by rw[hf.sz];exact c2,by rw[hf.sz];exact hn,fun u hu=>by rw[hf.sz];exact hps u hu⟩
 have p2:=ja p1.rel e2 hd2 (lD w1 (.loop ⟨.ready,none,fn,a.tmps,ps,x,y,ρ1 d⟩)) (ah _) aY hB;have hL:at' ρ1 h1.next w1.heap.size h1.next=w1.heap.size:=by unfold at';rw[aB rfl]
 have hAL:Ext (Ext A h h1) h1 h2 h1.next:=.inr ⟨ah _,by have:=(cw e2).1;omega⟩
 have hfv:=hf.tr.op f;unfold OpV at hfv;rw[ef]at hfv;have hfv2:=VR.mo (p2.mo hd2) p2.lt _ _ (VR.mo (p1.mo hd1) p1.lt _ _ hfv);have hcall:=hR _ _ _ _ _ e3 g2.wf _ _ _ _ #[.func (.yield w1.heap.size) #[] #[]] p2.rel hd3 hfv2 (by
  simp only[VRl,VR];exact⟨_,[],rfl,⟨hAL,by rw[hL]⟩,rfl⟩)
 obtain⟨dd,hdd,hk⟩:=hcall;have hk':∃f' args',(invoke dd.target dd.args).run P (w1.alloc (.loop ⟨.ready,none,fn,a.tmps,ps,x,y,ρ1 d⟩))= .ok (.enter f' args') (w1.alloc (.loop ⟨.ready,none,fn,a.tmps,ps,x,y,ρ1 d⟩))/\CallsIn Fence.wide 0 P f' args' (w1.alloc (.loop ⟨.ready,none,fn,a.tmps,ps,x,y,ρ1 d⟩)) (fo P (Ext (Ext A h h1) h1 h2) (at' ρ1 h1.next w1.heap.size) (w1.alloc (.loop ⟨.ready,none,fn,a.tmps,ps,x,y,ρ1 d⟩)) h2 c3 h3):=by
  rcases hk with⟨f',args',q1,q2⟩|⟨l,g',tmps,s,b,q0,_⟩
  ·exact⟨f',args',q1,q2⟩
  ·simp only[VR]at hfv;obtain⟨us,e5,_⟩:=hfv;rw[e5]at q0;cases q0
 obtain⟨f',args',q1,q2⟩:=hk';refine⟨w1.heap.size,mark,_,dd,_,f',args',_,henter fn,?_,fun _ _=>hFC.fn _,q1,hFC.depth,(hFC.calls q2).mono fun e5 w3 hpost=>?_⟩
 ·simp only[resolve,qL,du,jf];exact hdd
 obtain⟨u,ρ3,rfl,p3,_⟩:=hpost;have hr3:ρ3 h1.next=w1.heap.size:=by rw[p3.rho h1.next (.inl (by have:=(cw e2).1;omega)),hL]
 obtain⟨_,_,_,hAd2,fn',tmps',x',y',hh,hTR,hrest⟩:=p3.rel.blk h1.next _ hb3
 have hnb:sH st≠ .busy:=fun e=>by
  cases st<;>simp[sH]at e;exact hst rfl
 have hend:=run_endLoop (P:=P) hh hnb;refine⟨lC p,_,by rw[<-hr3];exact hend,?_⟩;have hlt4:Lt w3 (w3.putObj (ρ3 h1.next) (.loop ⟨.exhausted,lC p,fn',tmps',ps2.toArray,x',y',ρ3 d2⟩)):=Lt.chg (g:=ρ3 h1.next) ⟨rfl,rfl,rfl,by simp,fun j _ hj=>World.putObj_heap_other hj⟩ (rC hh aY) (fun s hs=>by rw[kR hh aY]at hs;cases hs);have hpo:=mQ (o':=.loop ⟨.exhausted,lC p,fn',tmps',ps2.toArray,x',y',ρ3 d2⟩) (b:=.loop .oa p tm2 ps2 a2 b2 d2) p3.rel hb3 hh aY ⟨hAd2,fn',tmps',x',y',World.putObj_heap_same (gC.1 hh).1,hTR.mo (Mo.refl _ _) hlt4,hrest⟩;have pAll:=p1.trans g1.good (p2.trans g2.good (p3.trans g3.good hpo g4.good) (g3.good.trans g4.good)) (g2.good.trans (g3.good.trans g4.good));have pT:=p2.trans g2.good (p3.trans g3.good hpo g4.good) (g3.good.trans g4.good);have hdT:Dj (Ext A h h1) h1 (h3.set h1.next (some (.loop .oa p tm2 ps2 a2 b2 d2))):=hd.right g1.good.next
 have hfE:Fr P (Ext A h (h3.set h1.next (some (.loop .oa p tm2 ps2 a2 b2 d2)))) ρ3 (w3.putObj (ρ3 h1.next) (.loop ⟨.exhausted,lC p,fn',tmps',ps2.toArray,x',y',ρ3 d2⟩)) n ds1 tm {a with defers:=mark++a.defers}:=by
  have hmo:Mo (Ext A h h1) (Ext A h (h3.set h1.next (some (.loop .oa p tm2 ps2 a2 b2 d2)))) ρ1 ρ3:=⟨fun k hk=>(Ext.trans g1.good.next (aU g2.good.next (aU g3.good.next g4.good.next)) k).1 ((pT.mo hdT).sub k hk),(pT.mo hdT).eq⟩;refine Fr.mo hmo pT.lt ⟨hf1.tr,hf.sz,hds1,hmark⟩
 cases p with
 |norm=>exact⟨trivial,ρ3,pAll,hfE⟩
 |ret=>exact wpIn_ret ⟨trivial,ρ3,pAll,hfE⟩
 |exit id=>exact wpIn_exit ⟨rfl,ρ3,pAll,hfE⟩
end CI
end
section
open Go.RowKit
namespace CI
variable {P : Program} {A A' : Nat->Prop} {ρ ρ' : Nat->Nat} {w w' : World} {tm tm' : Tm} {a : Act} {c : C} {h h' h'' : H} {rec : Rec} {E : Env} {n : Nat} {ds ds' : List Nat}
theorem ev_e(u:Nat):CO.ev (T.e:Tm) (CO.t u)= .any:=by simp[CO.ev,T.rN]
theorem rP:∀(l:List C) (k:Nat) (tm:Tm) (u:Nat),k+l.length<=1000000->CO.ev (setArgs 24 k l tm) (CO.t u)=if k<=u/\u<k+l.length then(l[u-k]?).getD .any else CO.ev tm (CO.t u)
 |[],k,tm,u,_=>by
  simp only[setArgs,gK,cf];rw[aj aa]
 |c::l,k,tm,u,hk=>by
  simp only[setArgs,gj]at hk⊢;rw[rP l (k+1) _ u aa,rQ aa];by_cases h1:k+1<=u/\u<k+1+l.length
  ·rw[aB h1,aB aa,show u-k=(u-(k+1))+1 by omega,List.getElem?_cons_succ]
  ·rw[aj h1];by_cases h2:u=k
   ·subst h2;rw[aB rfl,aB aa,Nat.sub_self];rfl
   ·rw[aj h2,aj aa]
theorem VRl.len:∀{l:List C} {vs:List Value},VRl P A ρ w l vs->vs.length=l.length
 |[],_,h=>by simp only[VRl]at h;subst h;rfl
 |d::l,vs,h=>by
  simp only[VRl]at h;obtain⟨u,rest,rfl,_,h3⟩:=h;simp[VRl.len h3]
theorem VRl.app{l2:List C}{ys:List Value}(k:VRl P A ρ w l2 ys):∀{l:List C} {xs:List Value},VRl P A ρ w l xs->VRl P A ρ w (l++l2) (xs++ys)
 |[],_,h=>by simp only[VRl]at h;subst h;exact k
 |d::l,xs,h=>by
  simp only[VRl]at h;obtain⟨u,rest,rfl,h2,h3⟩:=h;simp only[oQ,VRl];exact⟨u,rest++ys,rfl,h2,VRl.app k h3⟩
theorem Gp{l:List C}{vs:Array Value}(hv:VRl P A ρ w l vs.toList)(hl:l.length<=n)(hn:n<1000000):Fr P A ρ w n [] (setArgs 24 0 l .e) {tmps:=vs++Array.replicate (n-vs.size) undef,defers:=[]}:=by
 have hlen:vs.size=l.length:=by rw[<-hv.len,bL]
 refine⟨fun u=>?_,fB,(fun k hk=>by cases hk),rfl⟩;rw[rP l 0 .e u aa];split
 ·next hu=>
  simp only[bQ]at hu;obtain⟨u',k1,k2⟩:=VRl.at hv (bn (show u-0<l.length by omega));rw[gM]at k1⊢;have e:(vs++Array.replicate (n-vs.size) undef).getD u undef=u':=by
   rw[bZ,mE aa,<-cV,k1];rfl
  rw[e,bn aa];simpa using k2
 ·rw[ev_e];simp only[VR]
def uB(tmps:Array Value)(r:ResultVar):Sem Value:=
 match r with
 | .tmp t=>pure (tmps.getD t undef)
 | .cell a t=>do loadVar t (<-asAddr (tmps.getD a undef))
theorem zw(fn:Func)(tmps:Array Value):Go.results fn tmps=(do
 let vs<-fn.results.mapM (uB tmps)
 pure (if h:vs.size=1 then vs[0]else .tuple vs)):=rfl
theorem xg{fn:Func}{rvs:List RV}{rs:List C}(hr:mN P fn.results.toList=some rvs)(he:results tm h rvs=some rs)(t:Rel P A ρ w h){tmps:Array Value}(hf:TR P A ρ w tm tmps):∃v,(Go.results fn tmps).run P w= .ok v w/\VR P A ρ w (lu rs) v:=by
 have key:∀(l:List ResultVar) (rvs:List RV) (rs:List C),mN P l=some rvs->results tm h rvs=some rs->∃vs,(l.mapM (m:=Sem) (uB tmps)).run P w= .ok vs w/\VRl P A ρ w rs vs:=by
  intro l
  induction l with
  |nil=>
   intro rvs rs h1 h2;simp only[mN,af]at h1;subst h1;simp only[results,af]at h2;subst h2;exact⟨[],by simp,by simp only[VRl]⟩
  |cons r l ih=>
   intro rvs rs h1 h2;simp only[mN]at h1;obtain⟨rv,e1,h1⟩:=an h1;obtain⟨rvs',e2,rfl⟩:=ai h1
   cases r with
   |tmp u=>
    simp only[rvOf,af]at e1;subst e1;simp only[results]at h2;obtain⟨rs',e3,rfl⟩:=ai h2;obtain⟨vs,k1,k2⟩:=ih _ _ e2 e3;refine⟨tmps.getD u undef::vs,by rw[List.mapM_cons];simp only[uB,Sem.run_bind,Sem.run_pure,Result.andThen_ok,k1],?_⟩;simp only[VRl];exact⟨_,vs,rfl,hf u,k2⟩
   |cell u ty=>
    simp only[rvOf]at e1;obtain⟨s,e4,e1⟩:=an e1;obtain⟨r',e5,rfl⟩:=ai e1;simp only[results]at h2;obtain⟨c,e6,h2⟩:=an h2;obtain⟨rs',e3,rfl⟩:=ai h2;obtain⟨vs,k1,k2⟩:=ih _ _ e2 e3;have hu:=hf u;unfold jL at e6;split at e6
    ·next k off e7=>
     rw[e7]at hu;simp only[VR]at hu;split at e6
     ·next T l hb=>
      obtain⟨p,e8,e9⟩:=an e6;obtain⟨v,k3,k4⟩:=rK t hb e8 e9 e5 e4;refine⟨v::vs,?_,?_⟩
      ·have ha:(asAddr (tmps.getD u undef)).run P w= .ok ⟨ρ k,off,none⟩ w:=by rw[hu.2];rfl
       have hrv:(uB tmps (.cell u ty)).run P w= .ok v w:=by
        show(asAddr (tmps.getD u undef)>>=loadVar ty).run P w=_;rw[Sem.run_bind,ha,Result.andThen_ok,k3]
       rw[List.mapM_cons];simp only[Sem.run_bind,Sem.run_pure,Result.andThen_ok,hrv,k1]
      ·simp only[VRl];exact⟨v,vs,rfl,k4,k2⟩
     ·cases e6
    ·cases e6
 obtain⟨vs,k1,k2⟩:=key _ _ _ hr he;have hrun:(Go.results fn tmps).run P w= .ok (if h:vs.toArray.size=1 then vs.toArray[0]else .tuple vs.toArray) w:=by
  rw[zw,Array.mapM_eq_mapM_toList];simp only[Sem.run_bind,map_eq_pure_bind,k1,Result.andThen_ok,Sem.run_pure]
 refine⟨_,hrun,?_⟩
 match rs,vs,k2 with
 |[],vs,k2=>
  simp only[VRl]at k2;subst k2;simp only[lu,VR];exact⟨#[],by simp,by simp only[VRl]⟩
 |[c],vs,k2=>
  simp only[VRl]at k2;obtain⟨u,_,rfl,k3,rfl⟩:=k2;simpa[lu]using k3
 |c1::c2::rs,vs,k2=>
  have hl:=k2.len;simp only[lu,VR];refine⟨vs.toArray,?_,by simpa using k2⟩;rw[dif_neg (by simp at hl⊢;omega)]
theorem wM{F:Fence}{fn:Func}{tmps:Array Value}{R:Ending->World->Prop}:∀(ds:List Nat) (w:World) (h h':H),eH ds h=some h'->Wf h->Rel P A ρ w h->(∀w',bO P A ρ w h ρ w' h'->∃v,(Go.results fn tmps).run P w'= .ok v w'/\R (.returned v) w')->LeavesInM F 0 P fn tmps R (ds.map (oC ρ)) .returning w
 |[],w,h,h',e,_,t,hk=>by
  simp only[eH,af]at e;subst e;exact hk w (bO.refl t)
 |k::l,w,h,h',e,fh,t,hk=>by
  simp only[eH]at e;split at e
  ·next hb=>
   obtain⟨_,_,hlt,hB⟩:=t.blk k _ hb;simp only[BR,if_true]at hB;have hpo:=mQ (o':=.deferred none) (b:=.defd false) t hb hB aY (by
    show(w.putObj (ρ k) (.deferred none)).heap[ρ k]?=_;rw[World.putObj_heap_same hlt];rfl)
   have g1:=ft (b:=some (.defd false)) fh (aO hb);have g2:=lj _ _ _ e g1.wf;have hrel:Rel P A ρ (w.putObj (ρ k) (.deferred none)) (h.set k (some (.defd false))):=hpo.rel.mo ⟨fun j hj=>hj.resolve_right (fun q=>by
    have:(h.set k (some (B.defd false))).next=h.next:=rfl
    omega),fun _ _=>rfl⟩ (Lt.refl _) (fun _ _=>rfl)
   simp only[du];unfold LeavesInM;refine⟨by simp,.inl ⟨ρ k,_,rfl,run_takeDeferred hB,wM l _ _ h' e g1.wf hrel fun w2 hp=>hk w2 (hpo.trans g1.good ⟨hp.rho,hp.rel.mo ⟨fun j hj=>hj.imp (fun q=>.inl q) id,fun _ _=>rfl⟩ (Lt.refl _) (fun _ _=>rfl),hp.lt,hp.fr,hp.new⟩ g2.good)⟩⟩
  ·cases e
def rX(P:Program)(E:Env):Prop:=∀g f,E.orc g=some f->∀args r,f args=some r->∀A ρ w vs,VRl P A ρ w args vs.toList->
 Enters P g/\Calls P g vs w (fun e w'=>∃u,e= .returned u/\VR P A ρ w' r u/\Below w.heap.size w w')
theorem vC:∀(ps:List Nat) (args:List C) (tm tm2:Tm) (vs:List Value) (tmps:Array Value),kS ps args tm=some tm2->TR P A ρ w tm tmps->VRl P A ρ w args vs->(∀t∈ps,t<tmps.size)->tmps.size<1000000->
  TR P A ρ w tm2 ((ps.zip vs).foldl (fun (tmps:Array Value) (p:Nat×Value)=>tmps.setIfInBounds p.1 p.2) tmps)/\((ps.zip vs).foldl (fun (tmps:Array Value) (p:Nat×Value)=>tmps.setIfInBounds p.1 p.2) tmps).size=tmps.size/\vs.length=ps.length
 |[],[],tm,tm2,vs,tmps,e,hT,hv,_,_=>by
  simp only[kS,af]at e;subst e;simp only[VRl]at hv;subst hv;exact⟨hT,rfl,rfl⟩
 |t::ps,c::args,tm,tm2,vs,tmps,e,hT,hv,hp,hs=>by
  simp only[kS]at e;simp only[VRl]at hv;obtain⟨u,rest,rfl,h2,h3⟩:=hv;have ht:=hp t bp;obtain⟨k1,k2,k3⟩:=vC ps args _ tm2 rest (tmps.setIfInBounds t u) e (hT.put ht aa h2) h3 (fun t' ht'=>by simpa using hp t' (bf _ ht')) (by simpa using hs);exact⟨k1,by rw[List.zip_cons_cons,List.foldl_cons,k2];simp,by simp[k3]⟩
 |[],_::_,_,_,_,_,e,_,_,_,_=>by simp[kS]at e
 |_::_,[],_,_,_,_,e,_,_,_,_=>by simp[kS]at e
end CI
end
section
open Go.RowKit
namespace CI
variable {P : Program} {A A' : Nat->Prop} {ρ ρ' : Nat->Nat} {w w' : World} {tm tm' : Tm} {a : Act} {c : C} {h h' h'' : H} {rec : Rec} {E : Env} {n : Nat} {ds ds' : List Nat}
theorem zU {g : FuncId} {fn : F} (h : lh P g = some fn) : ∃ f c, P.funcs[g]? = some f ∧ f.body = some c ∧ f.ntmps < 1000000 ∧ (f.name == "runtime.NumGoroutine") = false ∧ comp P f.ntmps c = some fn.body ∧ mN P f.results.toList = some fn.res ∧ fn.ntmps = f.ntmps := by
 unfold lh at h;obtain⟨f,e1,h⟩:=an h;obtain⟨c,e2,h⟩:=an h;split at h
 ·next hb=>
  simp only[bV,ke]at hb;obtain⟨cc,e3,h⟩:=an h;obtain⟨r,e4,rfl⟩:=ai h;exact⟨f,c,e1,e2,by simpa[aX]using hb.1,hb.2,e3,e4,rfl⟩
 ·cases h
theorem ot{g:FuncId}(hE:Enters P g)(vs us:Array Value)(w:World):∃d,(Deferred.ofValue (.func (.func g) #[] us) vs).run P w= .ok d w/\(invoke d.target d.args).run P w= .ok (.enter g (vs++us)) w:=by
 refine⟨{target:=.fn (.func g) us,args:=#[]++vs},by simp[Deferred.ofValue],?_⟩;have:=hE (vs++us) w;simp[invoke,this]
theorem VR.ext{v:Value}(h:VR P A ρ w c v){h1 h2:H}:VR P (Ext A h1 h2) ρ w c v:=VR.mo ⟨fun _ hk=>.inl hk,fun _ _=>rfl⟩ (Lt.refl _) _ _ h
theorem G8(hO:rX P E){g:FuncId}{o:Orc}{args caps:List C}{r:C}{fv:Value}{vs:Array Value}(he:E.orc g=some o)(hr:o (args++caps)=some r)(t:Rel P A ρ w h)(hv:VR P A ρ w (.fn g caps) fv)(hvs:VRl P A ρ w args vs.toList):rZ P fv vs w (fo P A ρ w h r h):=by
 simp only[VR]at hv;obtain⟨us,rfl,hus⟩:=hv;obtain⟨hE,hC⟩:=hO g o he _ r hr A ρ w (vs++us) (by rw[Array.toList_append];exact VRl.app hus hvs);obtain⟨d,e1,e2⟩:=ot hE vs us w;refine⟨d,e1,.inl ⟨g,vs++us,e2,callsIn_wide.2 (hC.mono fun e w' ⟨u,h1,h2,h3⟩=>?_)⟩⟩;have hp:=bO.below t h3;exact⟨u,ρ,h1,hp,h2.ext⟩
theorem fn_ok(hC:kG P rec)(hG:oF rec){g:FuncId}{fn:F}{args caps:List C}{tm1:Tm}{ds1:List Nat}{h1 h2:H}{e:Ex}{rs:List C}{fv:Value}{vs:Array Value}(hf:lh P g=some fn)(hl:(args++caps).length<=fn.ntmps)
  (hr:rec (.code fn.body (setArgs 24 0 (args++caps) .e) [] none h)=some (.code e tm1 ds1 h1)) (hne:∀i,e≠ .exit i) (hcl:eH ds1 h1=some h2) (hrs:results tm1 h2 fn.res=some rs) (fh:Wf h) (t:Rel P A ρ w h) (hd:Dj A h h2) (hv:VR P A ρ w (.fn g caps) fv) (hvs:VRl P A ρ w args vs.toList):rZ P fv vs w (fo P A ρ w h (lu rs) h2):=by
 simp only[VR]at hv;obtain⟨us,rfl,hus⟩:=hv;obtain⟨f,c,e1,e2,e3,e4,e5,e6,e7⟩:=zU hf;obtain⟨d,k1,k2⟩:=ot (enters_of e1 e4 e2) vs us w;have hall:VRl P A ρ w (args++caps) (vs++us).toList:=by rw[Array.toList_append];exact VRl.app hus hvs
 rw[e7]at hl;have hfr:=Gp hall hl e3;have g1:=hG _ _ _ _ _ _ _ _ _ hr fh;have g2:=lj _ _ _ hcl g1.wf;have hw:=hC _ _ _ _ _ _ _ _ _ hr fh f.ntmps c A ρ w _ e5 e3 t (hd.left g2.good.next) hfr (fun l hl=>by cases hl);refine⟨d,k1,.inl ⟨g,vs++us,k2,callsIn_of_wp_marks e1 e2 trivial (wpIn_mono hw fun e' a' w' q=>?_)⟩⟩;obtain⟨q1,ρ1,p1,f1⟩:=q;have hfin:LeavesInM Fence.wide 0 P f a'.tmps (fo P A ρ w h (lu rs) h2) a'.defers .returning w':=by
  rw[f1.df];refine wM ds1 w' h1 h2 hcl g1.wf p1.rel fun w2 p2=>?_;have hd2:Dj (Ext A h h1) h1 h2:=hd.right g1.good.next
  have pAll:=p1.trans g1.good p2 g2.good;obtain⟨v,r1,r2⟩:=xg e6 hrs pAll.rel (fun u=>VR.mo (Mo.ext g1.good.next g2.good.next _) (Lt.refl _) _ _ (VR.mo (p2.mo hd2) p2.lt _ _ (f1.tr u)));exact⟨v,r1,v,ρ1,rfl,pAll,r2⟩
 cases e with
 |norm=>rw[ni q1];exact hfin
 |ret=>
  cases e'<;>simp[exM]at q1;exact hfin
 |exit i=>exact absurd rfl (hne i)
theorem yl_ok(hC:kG P rec)(hG:oF rec){l:Nat}{p0 p1:Ex}{tm0 tm1 tm2 tm3 tm4:Tm}{ps ps1:List Nat}{ca cb a1 b1:CC}{d0 d1:Nat}{args:List C}{h1 h2 h3:H}{e:Ex}{fv:Value}{vs:Array Value}
  (hb0:h.get l=some (.loop .ready p0 tm0 ps ca cb d0)) (hps:kS ps args tm0=some tm1) (hr1:rec (.code ca tm1 [] (some l) h)=some (.code .norm tm2 [] h1)) (hb1:h1.get l=some (.loop .ready p1 tm3 ps1 a1 b1 d1))
  (hr2:rec (.code cb tm2 [] (some l) (h1.set l (some (.loop .busy p1 tm3 ps1 a1 b1 d1))))=some (.code e tm4 [] h2)) (hend:wB l e h2=some (c,h3)) (fh:Wf h) (t:Rel P A ρ w h) (hd:Dj A h h3) (hv:VR P A ρ w (.yl l) fv) (hvs:VRl P A ρ w args vs.toList):rZ P fv vs w (fo P A ρ w h c h3):=by
 simp only[VR]at hv;obtain⟨hA,rfl⟩:=hv;obtain⟨_,_,_,hAd,fn,tmps,x,y,hh,hTR,c1,c2,hsz,hpl⟩:=t.blk l _ hb0;obtain⟨k1,k2,k3⟩:=vC ps args tm0 tm1 vs.toList tmps hps hTR hvs hpl hsz;have g1:=hG _ _ _ _ _ _ _ _ _ hr1 fh;have g2:=ft (b:=some (B.loop .busy p1 tm3 ps1 a1 b1 d1)) g1.wf (aO hb1);have g3:=hG _ _ _ _ _ _ _ _ _ hr2 g2.wf;have g4:=xQ hend g3.wf;have hds:Dj (Ext A h h1) h1 h3:=hd.right g1.good.next
 refine⟨{target:=.fn (.yield (ρ l)) #[],args:=#[]++vs},by simp[Deferred.ofValue],.inr ⟨ρ l,fn,(ps.toArray.zip vs).foldl (fun (tmps:Array Value) (x:Tmp×Value)=>tmps.setIfInBounds x.1 x.2) tmps,x,y,rfl,?_,?_⟩⟩
 ·have hy:=run_yield (P:=P) (args:=vs) hh (by simp[<-k3]);simp only[Array.empty_append,invoke];exact hy
 refine roundIn_of_wpIn (F:=Fence.wide) trivial ?_;have hfold:((ps.toArray.zip vs).foldl (fun (tmps:Array Value) (x:Tmp×Value)=>tmps.setIfInBounds x.1 x.2) tmps)=((ps.zip vs.toList).foldl (fun (tmps:Array Value) (p:Nat×Value)=>tmps.setIfInBounds p.1 p.2) tmps):=by
  rw[<-vc,Array.toList_zip]
 have hfr:Fr P A ρ w tmps.size [] tm1 {tmps:=(ps.toArray.zip vs).foldl (fun (tmps:Array Value) (x:Tmp×Value)=>tmps.setIfInBounds x.1 x.2) tmps,defers:=[]}:=
  ⟨by rw[hfold];exact k1,by rw[hfold];exact k2,(fun k hk=>by cases hk),rfl⟩
 have hw1:=hC _ _ _ _ _ _ _ _ _ hr1 fh tmps.size x A ρ w _ c1 hsz t (hd.left (aU g2.good.next (aU g3.good.next g4.good.next))) hfr (fun l' hl=>by cases hl;exact hA);refine lT hw1 (fun _ ρ1 w1 aa1 q1 f1=>?_) (fun he=>absurd rfl he);have hρ1:ρ1 l=ρ l:=q1.rho l (.inl (t.live (aO hb0)).1);obtain⟨_,_,_,hAd1,fn1,tmps1,x1,y1,hh1,hTR1,hrest1⟩:=q1.rel.blk l _ hb1;have hbeg:=run_beginRound (P:=P) hh1 rfl;refine⟨_,by rw[<-hρ1];exact hbeg,?_⟩;have hlt1:Lt w1 (w1.putObj (ρ1 l) (.loop ⟨.busy,lC p1,fn1,tmps1,ps1.toArray,x1,y1,ρ1 d1⟩)):=Lt.chg (g:=ρ1 l) ⟨rfl,rfl,rfl,by simp,fun j _ hj=>World.putObj_heap_other hj⟩ (rC hh1 aY) (fun s hs=>by rw[kR hh1 aY]at hs;cases hs);have q2:=mQ (o':=.loop ⟨.busy,lC p1,fn1,tmps1,ps1.toArray,x1,y1,ρ1 d1⟩) (b:=.loop .busy p1 tm3 ps1 a1 b1 d1) q1.rel hb1 hh1 aY ⟨hAd1,fn1,tmps1,x1,y1,World.putObj_heap_same (gC.1 hh1).1,hTR1.mo (Mo.refl _ _) hlt1,hrest1⟩;have hd2:Dj (Ext (Ext A h h1) h1 (h1.set l (some (B.loop .busy p1 tm3 ps1 a1 b1 d1)))) (h1.set l (some (B.loop .busy p1 tm3 ps1 a1 b1 d1))) h3:=hds.right g2.good.next
 have f2:=f1.mo (q2.mo (hds.left (aU g3.good.next g4.good.next))) q2.lt;have hw2:=hC _ _ _ _ _ _ _ _ _ hr2 g2.wf tmps.size y _ ρ1 _ _ c2 hsz q2.rel (hd2.left g4.good.next) f2 (fun l' hl=>by cases hl;exact .inl (.inl hA));have hfc:fc (some l) ρ1=Fence.wide.inRound (ρ l):=by simp only[fc,hρ1]
 rw[hfc]at hw2;refine wpIn_mono hw2 fun e' a' w2 q=>?_;obtain⟨q3,ρ3,p3,f3⟩:=q;have hl1:l<h1.next:=(q1.rel.live (aO hb1)).1
 have hρ3:ρ3 l=ρ l:=by rw[p3.rho l (.inl hl1),hρ1]
 have q12:=q1.trans g1.good (q2.trans g2.good p3 g3.good) (g2.good.trans g3.good);have g123:=g1.trans (g2.trans g3);have hd3:Dj (Ext A h h2) h2 h3:=hd.right g123.good.next
 unfold wB at hend;split at hend
 ·next p5 tm5 ps5 a5 b5 d5 hb5=>
  obtain⟨_,_,_,hAd5,fn5,tmps5,x5,y5,hh5,hTR5,hrest5⟩:=q12.rel.blk l _ hb5;have fin:∀(jump:Option Code) (st:LS) (ex:Ex),lC ex=jump->sH st=(if jump.isNone then .ready else .done)->h3=h2.set l (some (.loop st ex tm5 ps5 a5 b5 d5))->c= .sc (.bool jump.isNone)->∃v w',(Instr.endRound (ρ l) jump).run P w2= .ok v w'/\fo P A ρ w h c h3 (.returned v) w':=by
   rintro jump st ex hj hs rfl rfl;have hrun:=run_endRound (P:=P) jump hh5;rw[hρ3]at hrun;refine⟨_,_,hrun,.bool jump.isNone,ρ3,rfl,?_,eQ rfl⟩;have hlt5:Lt w2 (w2.putObj (ρ3 l) (.loop ⟨sH st,lC ex,fn5,tmps5,ps5.toArray,x5,y5,ρ3 d5⟩)):=Lt.chg (g:=ρ3 l) ⟨rfl,rfl,rfl,by simp,fun j _ hj=>World.putObj_heap_other hj⟩ (rC hh5 aY) (fun s hs=>by rw[kR hh5 aY]at hs;cases hs);have q5:=mQ (o':=.loop ⟨sH st,lC ex,fn5,tmps5,ps5.toArray,x5,y5,ρ3 d5⟩) (b:=.loop st ex tm5 ps5 a5 b5 d5) q12.rel hb5 hh5 aY ⟨hAd5,fn5,tmps5,x5,y5,World.putObj_heap_same (gC.1 hh5).1,hTR5.mo (Mo.refl _ _) hlt5,hrest5⟩;have:=q12.trans g123.good q5 g4.good;rw[hρ3,hj,hs]at this;exact this
  cases e with
  |norm=>
   simp only[af,av]at hend;rw[ni q3];exact fin none .ready .norm rfl rfl hend.2.symm hend.1.symm
  |ret=>
   simp only[af,av]at hend;cases e'<;>simp[exM]at q3;exact fin (some .ret) .done .ret rfl rfl hend.2.symm hend.1.symm
  |exit i=>
   simp only[af,av]at hend;cases e'<;>simp[exM]at q3;subst q3;exact fin (some (.exit i)) .done (.exit i) rfl rfl hend.2.symm hend.1.symm
 ·cases hend
theorem GQ{N:Nat}(hO:rX P E)(hfn:E.fns=lh P)(hC:kG P (run E N)):iU P (run E (N+1)):=by
 intro f args h c h' ee fh A ρ w fv vs t hd hv hvs;have hG:=(lX E N).2;simp only[run,body]at ee;split at ee
 ·next g caps=>
  split at ee
  ·next o ho=>
   obtain⟨r,e1,e2⟩:=ai ee;simp only[Out.val.injEq]at e2;obtain⟨rfl,rfl⟩:=e2;exact G8 hO ho e1 t hv hvs
  ·split at ee
   ·next fn hfn'=>
    split at ee
    ·cases ee
    ·next hl=>
     split at ee
     ·next e tm1 ds1 h1 hr=>
      have key:(∀i,e≠ .exit i)/\∃h2 rs,eH ds1 h1=some h2/\results tm1 h2 fn.res=some rs/\c=lu rs/\h'=h2:=by
       split at ee
       ·cases ee
       ·next hne=>
        obtain⟨h2,e1,ee⟩:=an ee;obtain⟨rs,e2,e3⟩:=ai ee;simp only[Out.val.injEq]at e3;exact⟨fun i hi=>hne i hi,h2,rs,e1,e2,e3.1.symm,e3.2.symm⟩
      obtain⟨hne,h2,rs,e1,e2,rfl,rfl⟩:=key;rw[hfn]at hfn';exact fn_ok hC hG hfn' (cn hl) hr hne e1 e2 fh t hd hv hvs
     ·cases ee
   ·cases ee
 ·next l=>
  split at ee
  ·next p0 tm0 ps ca cb d0 hb0=>
   split at ee
   ·next tm1 hps=>
    split at ee
    ·next tm2 h1 hr1=>
     split at ee
     ·next p1 tm3 ps1 a1 b1 d1 hb1=>
      split at ee
      ·next e tm4 h2 hr2=>
       obtain⟨⟨c',h3⟩,e1,e2⟩:=ai ee;simp only[Out.val.injEq]at e2;obtain⟨rfl,rfl⟩:=e2;exact yl_ok hC hG hb0 hps hr1 hb1 hr2 e1 fh t hd hv hvs
      ·cases ee
     ·cases ee
    ·cases ee
   ·cases ee
  ·cases ee
 ·cases ee
theorem GO(hO:rX P E)(hfn:E.fns=lh P)(hD:∀rec,iU P rec->cR rec->wZ P rec):∀N,iU P (run E N)/\kG P (run E N):=fun N=>by
 induction N using Nat.strongRecOn with
 |_ N ih=>
  cases N with
  |zero=>exact⟨fun _ _ _ _ _ e=>by simp[run]at e,fun _ _ _ _ _ _ _ _ _ e=>by simp[run]at e⟩
  |succ N=>
   have hR:∀m,m<=N->iU P (run E m):=fun m hm=>(ih m (Nat.lt_succ_of_le hm)).1;have hC:∀m,m<=N->kG P (run E m):=fun m hm=>(ih m (Nat.lt_succ_of_le hm)).2;exact⟨GQ hO hfn (hC N (ah _)),Gf hR hC (fun m hm=>hD _ (hR m hm) (lX E m).1) (Ch (hR N (ah _)))⟩
end CI
end
section
open Go.RowKit
namespace CI
variable {P : Program} {h h' : H} {tm tm' : Tm} {rec : Rec} {n : Nat}
structure SD where
 tm:Tm
 h:H
 iv:List (Nat×Nat×Nat)
 rw:List (Nat×Bool×Ft)
 v:C
 wr:Bool
 rd:Bool
 fr:Ft
def jM(rec:Rec)(j:Nat)(o:RO)(s:SD):Option SD:=
 match eC o s.tm with
 |some false=>some ⟨fC s.tm o.dst .any,s.h,s.iv,s.rw,.any,false,false,none⟩
 |some true=>match o.x.isT with
  |true=>(xT o.x s.tm s.h.next).bind fun p=>(s.h.gE p.2).map fun h1=>⟨fC s.tm o.dst p.1,h1,(match p.2 with|none=>s.iv|some _=>(j,s.h.next,h1.next)::s.iv),s.rw,p.1,false,false,none⟩
  |false=>(xR rec o.x s.tm (s.h.part o.pre s.iv (xFt o.x s.tm))).bind fun p=>match jk o.pre (Nat.blt p.2.low s.h.next) (xFt o.x s.tm) s.rw with
   |true=>none
   |false=>some ⟨fC s.tm o.dst p.1,s.h.whole p.2,(match Nat.blt s.h.next p.2.next with|true=>(j,s.h.next,p.2.next)::s.iv|false=>s.iv),(j,Nat.blt p.2.low s.h.next,xFt o.x s.tm)::s.rw,p.1,Nat.blt p.2.low s.h.next,true,xFt o.x s.tm⟩
 |none=>none
theorem A3{o:RO}{l:List RO}{j:Nat}{s:SD}(e:eJ rec (o::l) j s.iv s.rw s.tm s.h=some (tm',h')):∃s1,jM rec j o s=some s1/\eJ rec l (j+1) s1.iv s1.rw s1.tm s1.h=some (tm',h'):=by
 rcases tH e with⟨h1,e⟩|⟨h1,h2,c,ob,h3,e1,e2,e⟩|⟨h1,h2,c,h3,e1,e2,e⟩
 ·exact⟨⟨_,_,_,_,.any,false,false,none⟩,by simp only[jM,h1];rfl,e⟩
 ·exact⟨⟨_,_,_,_,c,false,false,none⟩,by simp only[jM,h1,h2,e1,eB,e2,bK];rfl,e⟩
 ·exact⟨⟨_,_,_,_,c,_,true,_⟩,by simp only[jM,h1,h2,e1,eB,e2];rfl,e⟩
def eF(rec:Rec):List RO->Nat->SD->Option SD
 |[],_,s=>some s
 |o::l,j,s=>(jM rec j o s).bind (eF rec l (j+1))
theorem tG:∀(l:List RO) (j:Nat) (s:SD),eJ rec l j s.iv s.rw s.tm s.h=some (tm',h')->∃s1,eF rec l j s=some s1/\s1.tm=tm'/\s1.h=h'
 |[],j,s,e=>by
  simp only[eJ,af,av]at e;exact⟨s,rfl,e.1,e.2⟩
 |o::l,j,s,e=>by
  obtain⟨s1,e1,e2⟩:=A3 e;obtain⟨s2,e3,e4⟩:=tG l (j+1) s1 e2;exact⟨s2,by simp only[eF,e1,eB,e3],e4⟩
theorem qy:∀(l1 l2:List RO) (j:Nat) (s s2:SD),eF rec (l1++l2) j s=some s2->∃s1,eF rec l1 j s=some s1/\eF rec l2 (j+l1.length) s1=some s2
 |[],l2,j,s,s2,e=>⟨s,rfl,by simpa using e⟩
 |o::l1,l2,j,s,s2,e=>by
  simp only[oQ,eF]at e;obtain⟨s1,e1,e2⟩:=an e;obtain⟨s3,e3,e4⟩:=qy l1 l2 (j+1) s1 s2 e2;exact⟨s3,by simp only[eF,e1,eB,e3],by rw[gj,show j+(l1.length+1)=j+1+l1.length by omega];exact e4⟩
structure Trace(rec:Rec)(r:List RO)(tm:Tm)(h:H)(tm':Tm)(h':H)(S:Nat->SD):Prop where
 tm0:(S 0).tm=tm
 h0:(S 0).h=h
 tmN:(S r.length).tm=tm'
 hN:(S r.length).h=h'
 iv0:(S 0).iv=[]
 step:∀i o,r[i]?=some o->jM rec i o (S i)=some (S (i+1))
theorem B0{r:List RO}(e:eJ rec r 0 [] [] tm h=some (tm',h')):∃S,Trace rec r tm h tm' h' S:=by
 obtain⟨sN,e1,e2,e3⟩:=tG r 0 ⟨tm,h,[],[],.any,false,false,none⟩ e;have pre:∀i,∃s,eF rec (r.take i) 0 ⟨tm,h,[],[],.any,false,false,none⟩=some s:=fun i=>by
  have e1':=e1;rw[<-oP i r]at e1';obtain⟨s,e4,_⟩:=qy _ _ _ _ _ e1';exact⟨s,e4⟩
 have hS:∀i,eF rec (r.take i) 0 ⟨tm,h,[],[],.any,false,false,none⟩=some ((eF rec (r.take i) 0 ⟨tm,h,[],[],.any,false,false,none⟩).getD ⟨tm,h,[],[],.any,false,false,none⟩):=fun i=>by
  obtain⟨s,e4⟩:=pre i;rw[e4];rfl
 refine⟨fun i=>(eF rec (r.take i) 0 ⟨tm,h,[],[],.any,false,false,none⟩).getD ⟨tm,h,[],[],.any,false,false,none⟩,by simp[eF],by simp[eF],?_,?_,by simp[eF],fun i o ho=>?_⟩
 ·simp only[kJ,e1,kd];exact e2
 ·simp only[kJ,e1,kd];exact e3
 ·have hlt:=(cF.1 ho).1;have h1:=hS (i+1);have hti:r.take (i+1)=r.take i++[o]:=by
   rw[uw,ho];rfl
  have h2:=h1;rw[hti]at h2;obtain⟨s1,e4,e5⟩:=qy _ _ _ _ _ h2;simp only[eF,ba,bQ]at e5;obtain⟨s2,e6,e7⟩:=an e5;simp only[af]at e7;rw[eA aa]at e6;show jM rec i o ((eF rec (r.take i) 0 ⟨tm,h,[],[],.any,false,false,none⟩).getD ⟨tm,h,[],[],.any,false,false,none⟩)=_;rw[e4,hti];show jM rec i o s1=_;rw[e6,e7]
section
variable {r : List RO} {S : Nat->SD}
theorem Trace.cases(t:Trace rec r tm h tm' h' S){i:Nat}{o:RO}(ho:r[i]?=some o):
  (S (i+1)).tm=fC (S i).tm o.dst (S (i+1)).v/\
  ((eC o (S i).tm=some false/\(S (i+1)).v= .any/\(S (i+1)).h=(S i).h/\(S (i+1)).wr=false/\(S (i+1)).rd=false/\(S (i+1)).iv=(S i).iv/\(S (i+1)).rw=(S i).rw)\/
   (eC o (S i).tm=some true/\o.x.isT=true/\(S (i+1)).wr=false/\(S (i+1)).rd=false/\(S (i+1)).rw=(S i).rw/\∃ob,xT o.x (S i).tm (S i).h.next=some ((S (i+1)).v,ob)/\(S i).h.gE ob=some (S (i+1)).h/\(S (i+1)).iv=(match ob with|none=>(S i).iv|some _=>(i,(S i).h.next,(S (i+1)).h.next)::(S i).iv))\/
   (eC o (S i).tm = some true /\ o.x.isT = false /\ (S (i + 1)).rd = true /\ ∃ h1, xR rec o.x (S i).tm ((S i).h.part o.pre (S i).iv (S (i + 1)).fr) = some ((S (i + 1)).v, h1) /\ (S (i + 1)).h = (S i).h.whole h1 /\ (S (i + 1)).wr = Nat.blt h1.low (S i).h.next /\ jk o.pre (S (i + 1)).wr (S (i + 1)).fr (S i).rw = false /\
      (S (i+1)).iv=(match Nat.blt (S i).h.next h1.next with|true=>(i,(S i).h.next,h1.next)::(S i).iv|false=>(S i).iv)/\(S (i+1)).rw=(i,(S (i+1)).wr,(S (i+1)).fr)::(S i).rw)):=by
 have hs:=t.step i o ho;unfold jM at hs;split at hs
 ·next hw=>
  simp only[af]at hs;rw[<-hs];exact⟨rfl, .inl ⟨hw,rfl,rfl,rfl,rfl,rfl,rfl⟩⟩
 ·next hw=>
  split at hs
  ·next hT=>
   obtain⟨⟨c,ob⟩,e1,hs⟩:=an hs;obtain⟨h1,e2,hs⟩:=ai hs;rw[<-hs];exact⟨rfl, .inr (.inl ⟨hw,hT,rfl,rfl,rfl,ob,e1,e2,rfl⟩)⟩
  ·next hT=>
   obtain⟨⟨c,h1⟩,e1,hs⟩:=an hs;split at hs
   ·cases hs
   ·next hcl=>
    simp only[af]at hs;rw[<-hs];exact⟨rfl, .inr (.inr ⟨hw,hT,rfl,h1,e1,rfl,rfl,hcl,rfl,rfl⟩)⟩
 ·cases hs
theorem Trace.gd(t:Trace rec r tm h tm' h' S)(hg:cR rec)(f:Wf h):∀i,i<=r.length->Wf (S i).h/\Gd h (S i).h
 |0,_=>by rw[t.h0];exact⟨f,Gd.refl f⟩
 |i+1,hi=>by
  obtain⟨o,ho⟩:∃o,r[i]?=some o:=⟨_,bn aa⟩;obtain⟨f1,g1⟩:=t.gd hg f i aa;have g2:Gd (S i).h (S (i+1)).h:=by
   rcases(t.cases ho).2 with⟨_,_,e,_⟩|⟨_,_,_,_,_,ob,_,e,_⟩|⟨_,_,_,h1,e1,e2,_⟩
   ·rw[e];exact Gd.refl f1
   ·exact mg f1 e
   ·rw[e2];exact sQ (jK hg (ig f1) e1)
  exact⟨g2.wf,g1.trans g2⟩
theorem Trace.gd1(t:Trace rec r tm h tm' h' S)(hg:cR rec)(f:Wf h){i:Nat}(hi:i<r.length):Gd (S i).h (S (i+1)).h:=by
 obtain⟨o,ho⟩:∃o,r[i]?=some o:=⟨_,bn hi⟩;have f1:=(t.gd hg f i aa).1;rcases(t.cases ho).2 with⟨_,_,e,_⟩|⟨_,_,_,_,_,ob,_,e,_⟩|⟨_,_,_,h1,e1,e2,_⟩
 ·rw[e];exact Gd.refl f1
 ·exact mg f1 e
 ·rw[e2];exact sQ (jK hg (ig f1) e1)
theorem Trace.gdm(t:Trace rec r tm h tm' h' S)(hg:cR rec)(f:Wf h):∀(k i:Nat),i+k<=r.length->Gd (S i).h (S (i+k)).h
 |0,i,hi=>Gd.refl (t.gd hg f i aa).1
 |k+1,i,hi=>(t.gdm hg f k i aa).trans (t.gd1 hg f aa)
theorem Trace.iv(t:Trace rec r tm h tm' h' S):∀i,i<=r.length->(∀x∈(S i).iv,∃q,q<i/\x=(q,(S q).h.next,(S (q+1)).h.next))/\(∀q,q<i->(S q).h.next<(S (q+1)).h.next->(q,(S q).h.next,(S (q+1)).h.next)∈(S i).iv)
 |0,_=>by
  rw[t.iv0];exact⟨fun x hx=>by simp at hx,fun q hq=>by omega⟩
 |i+1,hi=>by
  obtain⟨o,ho⟩:∃o,r[i]?=some o:=⟨_,bn aa⟩;obtain⟨k1,k2⟩:=t.iv i aa;have key:((S (i+1)).iv=(S i).iv/\¬(S i).h.next<(S (i+1)).h.next)\/(S (i+1)).iv=(i,(S i).h.next,(S (i+1)).h.next)::(S i).iv:=by
   rcases(t.cases ho).2 with⟨_,_,e,_,_,e2,_⟩|⟨_,_,_,_,_,ob,_,e,e2⟩|⟨_,_,_,h1,e1,e2,_,_,e3,_⟩
   ·exact .inl ⟨e2,by rw[e];omega⟩
   ·cases ob with
    |none=>
     simp only[H.gE,af]at e;exact .inl ⟨e2,by rw[<-e];omega⟩
    |some b=>exact .inr e2
   ·have hn:(S (i+1)).h.next=h1.next:=by rw[e2];rfl
    rw[hn];split at e3
    ·exact .inr e3
    ·next hb=>
     refine .inl ⟨e3,fun hlt=>?_⟩;rw[<-aX]at hlt;rw[hlt]at hb;cases hb
  rcases key with⟨e,hlt⟩|e
  ·rw[e];exact⟨fun x hx=>by obtain⟨q,h1,h2⟩:=k1 x hx;exact⟨q,by omega,h2⟩,fun q hq hl=>k2 q (by
    rcases lI.1 hq with h|h
    ·exact h
    ·subst h;exact absurd hl hlt) hl⟩
  ·rw[e];refine⟨fun x hx=>?_,fun q hq hl=>?_⟩
   ·rcases aZ.1 hx with h|h
    ·exact⟨i,by omega,h⟩
    ·obtain⟨q,h1,h2⟩:=k1 x h;exact⟨q,by omega,h2⟩
   ·rcases lI.1 hq with h|h
    ·exact bf _ (k2 q h hl)
    ·subst h;exact bp
theorem Trace.rw'(t:Trace rec r tm h tm' h' S):∀i,i<=r.length->∀q,q<i->(S (q+1)).rd=true->(q,(S (q+1)).wr,(S (q+1)).fr)∈(S i).rw
 |0,_,q,hq,_=>by omega
 |i+1,hi,q,hq,hr=>by
  obtain⟨o,ho⟩:∃o,r[i]?=some o:=⟨_,bn aa⟩;have ih:=t.rw' i aa;rcases lI.1 hq with h|h
  ·have h1:=ih q h hr;rcases(t.cases ho).2 with⟨_,_,_,_,_,_,e⟩|⟨_,_,_,_,e,_⟩|⟨_,_,_,h1',_,_,_,_,_,e⟩
   ·rw[e];exact h1
   ·rw[e];exact h1
   ·rw[e];exact bf _ h1
  ·subst h;rcases(t.cases ho).2 with⟨_,_,_,_,e,_⟩|⟨_,_,_,e,_⟩|⟨_,_,_,h1',_,_,_,_,_,e⟩
   ·rw[e]at hr;cases hr
   ·rw[e]at hr;cases hr
   ·rw[e];exact bp
theorem oz{pre k:Nat}:∀{iv:List (Nat×Nat×Nat)} {f:List (Nat×Nat)} {q x y:Nat},(q,x,y)∈iv->pre.testBit q=false->x<=k->k<y->bF k (fk pre iv f)=true
 |(i,a,b)::l,f,q,x,y,hm,hp,h1,h2=>by
  simp only[fk];have hb1:Nat.ble x k=true:=kf h1;have hb2:Nat.blt k y=true:=by simpa[aX]using h2
  rcases aZ.1 hm with e|e
  ·simp only[av]at e;rw[<-e.1,<-e.2.1,<-e.2.2,hp];simp only[bF];rw[hb1,hb2]
  ·have:=oz (f:=f) e hp h1 h2;split
   ·exact this
   ·simp only[bF];split
    ·split
     ·rfl
     ·exact this
    ·exact this
theorem tQ{pre k:Nat}:∀{iv:List (Nat×Nat×Nat)} {f:List (Nat×Nat)},(∀x∈iv,¬(x.2.1<=k/\k<x.2.2))->bF k (fk pre iv f)=bF k f
 |[],f,_=>rfl
 |(i,a,b)::l,f,h=>by
  have ih:=tQ (pre:=pre) (f:=f) fun x hx=>h x (bf _ hx);have h0:=h _ bp;simp only[fk];split
  ·exact ih
  ·simp only[bF];split
   ·next h1=>
    split
    ·next h2=>exact absurd ⟨cn h1,by simpa[aX]using h2⟩ h0
    ·exact ih
   ·exact ih
theorem HJ{k:Nat}:∀{l:List Nat},dT k l=true->k∈l
 |[],h=>by cases h
 |x::l,h=>by
  simp only[dT]at h;split at h
  ·next e=>rw[cg e];exact bp
  ·exact bf _ (HJ h)
theorem vW{k:Nat}{l:List Nat}(h1:dT k l=true):∀{m:List Nat},dT k m=true->meets l m=true
 |[],h=>by cases h
 |x::m,h=>by
  simp only[dT]at h;simp only[meets];split at h
  ·next e=>
   rw[cg e,h1]
  ·split
   ·rfl
   ·exact vW h1 h
theorem Ft.Fy{f g:Ft}{k:Nat}(h1:f.has k=true)(h2:g.has k=true):f.meet g=true:=by
 cases f with
 |none=>rfl
 |some l=>cases g with
  |none=>rfl
  |some m=>exact vW h1 h2
theorem pI{pre:Nat}{wr:Bool}{g:Ft}{k:Nat}:∀{rw:List (Nat×Bool×Ft)} {q:Nat} {x:Bool} {f:Ft},jk pre wr g rw=false->(q,x,f)∈rw->(x||wr)=true->f.has k=true->g.has k=true->pre.testBit q=true
 |(i,y,e)::l,q,x,f,h,hm,hx,h1,h2=>by
  simp only[jk]at h;split at h
  ·cases h
  ·next hb=>
   rcases aZ.1 hm with e|e
   ·cases e;rw[hx,Ft.Fy h1 h2]at hb;simpa using hb
   ·exact pI h e hx h1 h2
end
end CI
end
section
open Go.RowKit
namespace CI
variable {P : Program} {n : Nat}
theorem qx:∀(l:List Nat) (k:Nat),nd l k=(l[k]?).getD 0
 |[],k=>by simp[nd]
 |x::l,0=>by simp[nd]
 |x::l,k+1=>by simp[nd,qx l k]
theorem jN{acc:List Nat}{q:Nat}:∀{es:List Edge},(iH acc es).testBit q=true->∃e∈es,Region.binds .any e=true/\(e.on=q\/(nd acc e.on).testBit q=true)
 |[],h=>by simp[iH]at h
 |e::es,h=>by
  simp only[iH]at h;split at h
  ·next hb=>
   simp only[Nat.testBit_or,lP,Nat.testBit_two_pow,decide_eq_true_eq]at h;rcases h with(h|h)|h
   ·exact⟨e,bp,hb,.inl h⟩
   ·exact⟨e,bp,hb,.inr h⟩
   ·obtain⟨e',h1,h2⟩:=jN h;exact⟨e',bf _ h1,h2⟩
  ·obtain⟨e',h1,h2⟩:=jN h;exact⟨e',bf _ h1,h2⟩
theorem vO:∀(l:List Oper) (acc:List Nat),∃t,gW l acc=acc++t/\t.length=l.length
 |[],acc=>⟨[],by simp[gW],rfl⟩
 |o::l,acc=>by
  obtain⟨t,e,h⟩:=vO l (acc++[iH acc o.after.toList]);exact⟨iH acc o.after.toList::t,by simp only[gW];rw[e];simp,by simp[h]⟩
theorem sP:∀(l:List Oper) (acc:List Nat) (i:Nat) (o:Oper),l[i]?=some o->(gW l acc)[acc.length+i]?=some (iH ((gW l acc).take (acc.length+i)) o.after.toList)
 |[],acc,i,o,h=>by simp at h
 |o'::l,acc,0,o,h=>by
  simp at h;subst h;simp only[gW];obtain⟨t,e,_⟩:=vO l (acc++[iH acc o'.after.toList]);rw[e];simp
 |o'::l,acc,i+1,o,h=>by
  simp only[gW];have:=sP l (acc++[iH acc o'.after.toList]) i o (by simpa using h);rw[cT,lL,show acc.length+1+i=acc.length+(i+1) by omega]at this;exact this
theorem jW{t:Nat}:∀{l:List Nat},t∈l->dT t l=true
 |x::l,h=>by
  simp only[dT];split
  ·rfl
  ·next hb=>
   rcases aZ.1 h with e|e
   ·subst e;rw[de]at hb;cases hb
   ·exact jW e
theorem ra{ops:Array Oper}{o:Oper}{p:Nat}:∀{l:List Oper} {k:Nat},mK ops o p l k=true->∀i o',l[i]?=some o'->(lA o'.dst (looks ops o)=true\/lA o.dst (looks ops o')=true\/lA o.dst o'.dst.toList=true)->p.testBit (k+i)=true
 |[],k,_,i,o',h,_=>by simp at h
 |x::l,k,h,0,o',ho,hh=>by
  simp at ho;subst ho;simp only[mK]at h;split at h
  ·cases h
  ·next hb=>
   rw[cf]
   cases hp:p.testBit k with
   |true=>rfl
   |false=>
    exfalso;rw[hp]at hb;rcases hh with hh|hh|hh<;>simp[hh]at hb
 |x::l,k,h,i+1,o',ho,hh=>by
  simp only[mK]at h;split at h
  ·cases h
  ·have:=ra h i o' (by simpa using ho) hh;rwa[show k+1+i=k+(i+1) by omega]at this
theorem kB{k:Nat}:∀{l:List Edge},gA k l=true->∀e∈l,Region.binds .any e=true->e.on<k
 |x::l,h,e,he,hb=>by
  simp only[gA]at h;split at h
  ·cases h
  ·next hx=>
   rcases aZ.1 he with e1|e1
   ·subst e1;rw[hb]at hx;simp only[jr,Bool.not_eq_false']at hx;simpa[aX]using hx
   ·exact kB h e e1 hb
theorem xW{ops:Array Oper}:∀(l acc:List Oper) (ps:List Nat) (r:List RO),ep P n true ops acc l ps=some r->r.length=l.length/\∀i o,l[i]?=some o->∃p g,ps[i]?=some p/\ck n o.dst=true/\mK ops o p (acc++l.take i) 0=true/\gA (acc.length+i) o.after.toList=true/\(match o.guard with
  |none=>some none
  |some (j,b)=>((ops[j]?).bind (·.dst)).map fun t=>some (t,b))=some g/\r[i]?=some ⟨o.dst,g,(match ay P o.op with|some x=>x|none=>.bad),p⟩
 |[],acc,ps,r,h=>by
  simp only[ep,af]at h;subst h;exact⟨rfl,fun i o ho=>by simp at ho⟩
 |o::l,acc,ps,r,h=>by
  obtain⟨p,ps',g,r',rfl,h1,h2,h3,h4,rfl⟩:=oB h;obtain⟨k1,k2⟩:=xW l (acc++[o]) ps' r' h4;refine⟨by simp[k1],fun i o' ho=>?_⟩
  cases i with
  |zero=>
   simp at ho;subst ho;exact⟨p,g,rfl,h1,by simpa using(h2 rfl).1,by simpa using(h2 rfl).2,h3,rfl⟩
  |succ i=>
   obtain⟨p',g',q1,q2,q3,q4,q5,q6⟩:=k2 i o' (by simpa using ho);refine⟨p',g',by simpa using q1,q2,by simpa using q3,?_,q5,by simpa using q6⟩;rw[cT,lL]at q4;rwa[show acc.length+1+i=acc.length+(i+1) by omega]at q4
structure Stat(P:Program)(n:Nat)(ops:Array Oper)(r:List RO):Prop where
 len:r.length=ops.size
 row : ∀ (i : Nat) (o : Oper), ops[i]? = some o -> ∃ g p, r[i]? = some ⟨o.dst, g, (match ay P o.op with | some x => x | none => .bad), p⟩ /\ ck n o.dst = true /\ (match o.guard with
       |none=>some none
       |some (j,b)=>((ops[j]?).bind (·.dst)).map fun t=>some (t,b))=some g
 pre:∀(i:Nat) (o:Oper) (ro:RO) (q:Nat),ops[i]?=some o->r[i]?=some ro->ro.pre.testBit q=true->∃e∈o.after.toList,Region.binds .any e=true/\(e.on=q\/∃ro',r[e.on]?=some ro'/\ro'.pre.testBit q=true)
 edge:∀(i:Nat) (o:Oper) (e:Edge),ops[i]?=some o->e∈o.after.toList->Region.binds .any e=true->e.on<i
 tmp:∀(i j:Nat) (o' o:Oper) (ro:RO) (t:Nat),i<j->ops[i]?=some o'->ops[j]?=some o->r[j]?=some ro->((o'.dst=some t/\t∈looks ops o)\/(o.dst=some t/\t∈looks ops o')\/(o.dst=some t/\o'.dst=some t))->ro.pre.testBit i=true
theorem ET{ops:Array Oper}{r:List RO}(h:ep P n true ops [] ops.toList (gW ops.toList [])=some r):Stat P n ops r:=by
 obtain⟨k1,k2⟩:=xW _ _ _ _ h;have hl:∀{i:Nat} {o:Oper},ops[i]?=some o->ops.toList[i]?=some o:=fun ho=>by simpa using ho
 have hpre:∀(i:Nat) (o:Oper) (ro:RO),ops[i]?=some o->r[i]?=some ro->(gW ops.toList [])[i]?=some ro.pre:=fun i o ro ho hr=>by
  obtain⟨p,g,q1,_,_,_,_,q6⟩:=k2 i o (hl ho);rw[hr]at q6;simp only[af]at q6;subst q6;exact q1
 refine⟨by rw[k1];simp,fun i o ho=>?_,fun i o ro q ho hr hq=>?_,fun i o e ho he hb=>?_,fun i j o' o ro t hij ho' ho hr ht=>?_⟩
 ·obtain⟨p,g,q1,q2,q3,q4,q5,q6⟩:=k2 i o (hl ho);exact⟨g,p,q6,q2,q5⟩
 ·have h1:=hpre i o ro ho hr;have h2:=sP ops.toList [] i o (hl ho);simp only[gK,bQ]at h2;rw[h1]at h2;simp only[af]at h2;rw[h2]at hq;obtain⟨e,he,hb,hh⟩:=jN hq;refine⟨e,he,hb,hh.imp id fun hx=>?_⟩;rw[qx,dV]at hx;split at hx
  ·next hlt=>
   have hsz:i<ops.size:=(gC.1 ho).1;obtain⟨o2,ho2⟩:∃o2,ops[e.on]?=some o2:=⟨_,gI aa⟩;obtain⟨p,g,q1,q2,q3,q4,q5,q6⟩:=k2 e.on o2 (hl ho2);rw[q1]at hx;exact⟨_,q6,by simpa using hx⟩
  ·simp at hx
 ·obtain⟨p,g,q1,q2,q3,q4,q5,q6⟩:=k2 i o (hl ho);have:=kB q4 e he hb;simpa using this
 ·obtain⟨p,g,q1,q2,q3,q4,q5,q6⟩:=k2 j o (hl ho);rw[hr]at q6;simp only[af]at q6;subst q6;have:=ra q3 i o' (by rw[iw,jI hij];exact hl ho') (by
   rcases ht with⟨h1,h2⟩|⟨h1,h2⟩|⟨h1,h2⟩
   ·exact .inl (by rw[h1];exact jW h2)
   ·exact .inr (.inl (by rw[h1];exact jW h2))
   ·exact .inr (.inr (by rw[h1,h2];exact jW aY)))
  simpa using this
end CI
end
section
open Go.RowKit
namespace DW
inductive Mn where
 |val (d:D)
 |alloc (k:Nat) (q:Ow) (d:D)
 |store (k i:Nat) (d:D)
 |app (k:Nat) (nw:List (Nat×Ow)) (d:D)
structure FP where
 rc:List Nat
 rs:List Nat
 wc:List Nat
 al:List Nat
 me:List Nat
def cut(k:Nat)(l:List (Nat×Ow)):List (Nat×Ow):=l.filter fun p=>!Nat.beq p.1 k
def mAp(t:Option Tmp)(m:Mn)(s:S):S:=
 match m with
 | .val d=>s.put t d
 | .alloc k q d=>⟨(s.put t d).sl,(k,q)::s.ow⟩
 | .store k i d=>⟨s.sl,bR k i d s.ow⟩
 | .app k nw d=>⟨(s.put t d).sl,nw++cut k s.ow⟩
def Mn.dt:Mn->Option D
 | .val d=>some d
 | .alloc _ _ d=>some d
 | .store ..=>none
 | .app _ _ d=>some d
def stL(L:Nat->Bool):List (Option Tmp×Mn)->Nat->S->S
 |[],_,s=>s
 |(t,m)::l,i,s=>stL L l (i+1) (match L i with|true=>mAp t m s|false=>s)
structure Eqv(s s':S):Prop where
 gt:∀t,s.gt t=s'.gt t
 ow:s.ow.Perm s'.ow
theorem Eqv.refl(s:S):Eqv s s:=⟨fun _=>rfl,.refl _⟩
theorem Eqv.of{s s':S}(h:s=s'):Eqv s s':=h▸Eqv.refl s
theorem Eqv.symm{s s':S}(h:Eqv s s'):Eqv s' s:=⟨fun t=>(h.gt t).symm,h.ow.symm⟩
theorem Eqv.trans{a b c:S}(h:Eqv a b)(k:Eqv b c):Eqv a c:=⟨fun t=>(h.gt t).trans (k.gt t),h.ow.trans k.ow⟩
theorem vM(s:S)(t:Option Tmp)(d:D)(u:Nat):(s.put t d).gt u=if t=some u then d else s.gt u:=by
 cases t with
 |none=>rfl
 |some t=>
  show look ((t,d)::s.sl) u=_;simp only[look,af];rfl
theorem fP(s:S)(t:Option Tmp)(d:D):(s.put t d).ow=s.ow:=by cases t<;>rfl
theorem iP(t:Option Tmp)(m:Mn)(s:S)(u:Nat):(mAp t m s).gt u=match m.dt with|some d=>if t=some u then d else s.gt u|none=>s.gt u:=by
 cases m with
 |val d=>exact vM s t d u
 |alloc k q d=>exact vM s t d u
 |store k i d=>rfl
 |app k nw d=>exact vM s t d u
theorem AX(k i:Nat)(d:D){l l':List (Nat×Ow)}(h:l.Perm l'):(bR k i d l).Perm (bR k i d l'):=by
 have e:∀l:List (Nat×Ow),bR k i d l=l.map fun p=>match Nat.beq p.1 k with|true=>(p.1,⟨p.2.T,p.2.wd,p.2.l.set i d⟩)|false=>p:=fun l=>by
  induction l with
  |nil=>rfl
  |cons p l ih=>
   obtain⟨j,q⟩:=p;simp only[bR,du,ih];cases Nat.beq j k<;>rfl
 rw[e,e];exact h.map _
theorem tF{k k' i i':Nat}{d d':D}(h:k≠k'):∀l:List (Nat×Ow),bR k i d (bR k' i' d' l)=bR k' i' d' (bR k i d l)
 |[]=>rfl
 |(j,q)::l=>by
  have ih:=tF (i:=i) (i':=i') (d:=d) (d':=d') h l
  cases h1:Nat.beq j k with
  |true=>
   have h2:Nat.beq j k'=false:=by
    cases h2:Nat.beq j k' with
    |false=>rfl
    |true=>exact absurd ((cg h1).symm.trans (cg h2)) h
   simp only[bR,h1,h2,ih]
  |false=>
   cases h2:Nat.beq j k' with
   |true=>simp only[bR,h1,h2,ih]
   |false=>simp only[bR,h1,h2,ih]
theorem FA(t:Option Tmp)(m:Mn){s s':S}(h:Eqv s s'):Eqv (mAp t m s) (mAp t m s'):=by
 refine⟨fun u=>by rw[iP,iP,h.gt],?_⟩
 cases m with
 |val d=>simp only[mAp,fP];exact h.ow
 |alloc k q d=>exact h.ow.cons _
 |store k i d=>exact AX k i d h.ow
 |app k nw d=>exact(h.ow.filter _).append_left nw
theorem sJ(L:Nat->Bool):∀(l:List (Option Tmp×Mn)) (i:Nat) {s s':S},Eqv s s'->Eqv (stL L l i s) (stL L l i s')
 |[],_,_,_,h=>h
 |(t,m)::l,i,s,s',h=>by
  simp only[stL]
  cases L i with
  |true=>exact sJ L l (i+1) (FA t m h)
  |false=>exact sJ L l (i+1) h
def comm(t t':Option Tmp)(m m':Mn):Prop:=
 (∀u,t=some u->t'=some u->False)/\
 (∀k q d k' i' d',m= .alloc k q d->m'= .store k' i' d'->k≠k')/\
 (∀k q d k' i' d',m'= .alloc k q d->m= .store k' i' d'->k≠k')/\
 (∀k i d k' i' d',m= .store k i d->m'= .store k' i' d'->k≠k')/\
 (∀k nw d k' q' d',m= .app k nw d->m'= .alloc k' q' d'->k≠k')/\
 (∀k nw d k' q' d',m'= .app k nw d->m= .alloc k' q' d'->k≠k')/\
 (∀k nw d k' i d',m= .app k nw d->m'= .store k' i d'->∀p∈nw,p.1≠k')/\
 (∀k nw d k' i d',m'= .app k nw d->m= .store k' i d'->∀p∈nw,p.1≠k')/\
 (∀k nw d k' nw' d',m= .app k nw d->m'= .app k' nw' d'->(∀p∈nw,p.1≠k')/\∀p∈nw',p.1≠k)
theorem nT{k k' i:Nat}{q:Ow}{d:D}(h:k≠k')(l:List (Nat×Ow)):bR k' i d ((k,q)::l)=(k,q)::bR k' i d l:=by
 simp only[bR]
 cases hb:Nat.beq k k' with
 |true=>exact absurd (cg hb) h
 |false=>rfl
theorem qa(k i:Nat)(d:D):∀l l':List (Nat×Ow),bR k i d (l++l')=bR k i d l++bR k i d l'
 |[],_=>rfl
 |(x,q)::l,l'=>by
  have ih:=qa k i d l l';simp only[oQ,bR,ih];cases Nat.beq x k<;>rfl
theorem kT{k i:Nat}{d:D}:∀{l:List (Nat×Ow)},(∀p∈l,p.1≠k)->bR k i d l=l
 |[],_=>rfl
 |(x,q)::l,h=>by
  simp only[bR]
  cases h1:Nat.beq x k with
  |true=>exact absurd (cg h1) (h _ bp)
  |false=>rw[kT fun p hp=>h p (bf _ hp)]
theorem qA(k j i:Nat)(d:D):∀l:List (Nat×Ow),cut k (bR j i d l)=bR j i d (cut k l)
 |[]=>rfl
 |(x,q)::l=>by
  have ih:=qA k j i d l;unfold cut at ih⊢
  cases h1:Nat.beq x j with
  |true=>
   simp only[bR,h1]
   cases h2:Nat.beq x k with
   |true=>rw[gH jz,gH jz,ih]
   |false=>rw[gG jz,gG jz,ih];simp only[bR,h1]
  |false=>
   simp only[bR,h1]
   cases h2:Nat.beq x k with
   |true=>rw[gH jz,gH jz,ih]
   |false=>rw[gG jz,gG jz,ih];simp only[bR,h1]
theorem mf{x k:Nat}(h:x≠k):Nat.beq x k=false:=by
 cases hb:Nat.beq x k with
 |true=>exact absurd (cg hb) h
 |false=>rfl
theorem nt{k:Nat}{l:List (Nat×Ow)}(h:∀p∈l,p.1≠k):cut k l=l:=by
 unfold cut;rw[List.filter_eq_self];exact fun p hp=>by rw[mf (h p hp)];rfl
theorem xV(k:Nat)(l l':List (Nat×Ow)):cut k (l++l')=cut k l++cut k l':=List.filter_append ..
theorem C0(k k':Nat)(l:List (Nat×Ow)):cut k (cut k' l)=cut k' (cut k l):=by
 unfold cut;rw[qS,qS];exact List.filter_congr fun p _=>Bool.and_comm ..
theorem Cv{t t':Option Tmp}{m m':Mn}(h:comm t t' m m')(s:S):Eqv (mAp t m (mAp t' m' s)) (mAp t' m' (mAp t m s)):=by
 obtain⟨h1,h2,h3,h4,h5,h6,h7,h8,h9⟩:=h;refine⟨fun u=>?_,?_⟩
 ·rw[iP,iP,iP,iP]
  cases m.dt with
  |none=>rfl
  |some d=>
   cases m'.dt with
   |none=>rfl
   |some d'=>
    simp only;by_cases e:t=some u
    ·rw[aB e,aj (fun e'=>h1 u e e'),aB e]
    ·rw[aj e,aj e]
 ·cases m with
  |val d=>
   cases m' with
   |val d'=>simp only[mAp,fP];exact .refl _
   |alloc k q d'=>simp only[mAp,fP];exact .refl _
   |store k i d'=>simp only[mAp,fP];exact .refl _
   |app k nw d'=>simp only[mAp,fP];exact .refl _
  |alloc k q d=>
   cases m' with
   |val d'=>simp only[mAp,fP];exact .refl _
   |alloc k' q' d'=>simp only[mAp];exact List.Perm.swap _ _ _
   |store k' i d'=>
    simp only[mAp];rw[nT (h2 _ _ _ _ _ _ rfl rfl)]
   |app k' nw d'=>
    simp only[mAp];have e:cut k' ((k,q)::s.ow)=(k,q)::cut k' s.ow:=by
     unfold cut;rw[gG (by rw[mf (Ne.symm (h6 _ _ _ _ _ _ rfl rfl))];rfl)]
    rw[e];exact List.perm_middle.symm
  |store k i d=>
   cases m' with
   |val d'=>simp only[mAp,fP];exact .refl _
   |alloc k' q' d'=>
    simp only[mAp];rw[nT (h3 _ _ _ _ _ _ rfl rfl)]
   |store k' i' d'=>
    simp only[mAp];rw[tF (h4 _ _ _ _ _ _ rfl rfl)]
   |app k' nw d'=>
    simp only[mAp];rw[qa,kT (h8 _ _ _ _ _ _ rfl rfl),qA]
  |app k nw d=>
   cases m' with
   |val d'=>simp only[mAp,fP];exact .refl _
   |alloc k' q' d'=>
    simp only[mAp];have e:cut k ((k',q')::s.ow)=(k',q')::cut k s.ow:=by
     unfold cut;rw[gG (by rw[mf (Ne.symm (h5 _ _ _ _ _ _ rfl rfl))];rfl)]
    rw[e];exact List.perm_middle
   |store k' i d'=>
    simp only[mAp];rw[qa,kT (h7 _ _ _ _ _ _ rfl rfl),qA]
   |app k' nw' d'=>
    simp only[mAp];obtain⟨a1,a2⟩:=h9 _ _ _ _ _ _ rfl rfl;rw[xV,xV,nt a1,nt a2,C0,<-fq,<-fq];exact List.perm_append_comm.append_right _
theorem pW{L:Nat->Bool}:∀(l:List (Option Tmp×Mn)) (i:Nat) (s:S),(∀j,i<=j->L j=false)->stL L l i s=s
 |[],_,_,_=>rfl
 |(t,m)::l,i,s,h=>by
  simp only[stL,h i (ah _)];exact pW l (i+1) s fun j hj=>h j aa
theorem tE{L L':Nat->Bool}:∀(l:List (Option Tmp×Mn)) (i:Nat) (s:S),(∀j,i<=j->L j=L' j)->stL L l i s=stL L' l i s
 |[],_,_,_=>rfl
 |(t,m)::l,i,s,h=>by
  simp only[stL,h i (ah _)];exact tE l (i+1) _ fun j hj=>h j aa
theorem rh{L:Nat->Bool}{t:Option Tmp}{m:Mn}:∀(l:List (Option Tmp×Mn)) (i:Nat) (s:S),(∀j t' m',l[j]?=some (t',m')->L (i+j)=true->comm t t' m m')->Eqv (mAp t m (stL L l i s)) (stL L l i (mAp t m s))
 |[],_,s,_=>Eqv.refl _
 |(t',m')::l,i,s,h=>by
  simp only[stL];have ih:=fun s=>rh (L:=L) (t:=t) (m:=m) l (i+1) s fun j t'' m'' hj hL=>h (j+1) t'' m'' (by simpa using hj) (by rw[show i+(j+1)=i+1+j by omega];exact hL)
  cases hL:L i with
  |false=>exact ih s
  |true=>exact(ih _).trans (sJ L l (i+1) (Cv (h 0 t' m' rfl hL) s))
theorem vp{L L':Nat->Bool}{t:Option Tmp}{m:Mn}:∀(l:List (Option Tmp×Mn)) (i j:Nat) (s:S),i<=j->l[j-i]?=some (t,m)->L j=false->L' j=true->(∀x,x≠j->L' x=L x)->
  (∀x t' m',j<i+x->l[x]?=some (t',m')->L (i+x)=true->comm t t' m m')->Eqv (mAp t m (stL L l i s)) (stL L' l i s)
 |[],i,j,s,_,e,_,_,_,_=>by simp at e
 |(t',m')::l,i,j,s,hij,e,h1,h2,h3,h4=>by
  simp only[stL];by_cases hx:i=j
  ·subst hx;rw[Nat.sub_self]at e;simp at e;obtain⟨rfl,rfl⟩:=e;rw[h1,h2];simp only;refine(rh l (i+1) s fun x t'' m'' hl hL=>h4 (x+1) t'' m'' aa nE (by rw[show i+(x+1)=i+1+x by omega];exact hL)).trans ?_;rw[tE (L:=L) (L':=L') l (i+1) _ fun x hx=>(h3 x aa).symm];exact Eqv.refl _
  ·rw[h3 i hx];refine vp l (i+1) j _ aa ?_ h1 h2 h3 fun x t'' m'' hlt hl hL=>h4 (x+1) t'' m'' aa nE (by rw[show i+(x+1)=i+1+x by omega];exact hL);rw[show j-i=j-(i+1)+1 by omega]at e;simpa using e
theorem AI{L L':Nat->Bool}{u:Nat}:∀(l:List (Option Tmp×Mn)) (i:Nat) (s s':S),s.gt u=s'.gt u->(∀x m,l[x]?=some (some u,m)->L (i+x)=L' (i+x))->(stL L l i s).gt u=(stL L' l i s').gt u
 |[],_,s,s',h,_=>h
 |(t,m)::l,i,s,s',h,hh=>by
  simp only[stL];refine AI l (i+1) _ _ ?_ fun x m' hl=>?_
  ·by_cases ht:t=some u
   ·have:=hh 0 m (by simp[ht]);simp only[cf]at this;rw[this]
    cases L' i with
    |false=>exact h
    |true=>simp only[iP];rw[h]
   ·have key : ∀ (b : Bool) (σ : S), (match b with | true => mAp t m σ | false => σ).gt u = σ.gt u := fun b σ => by
     cases b with
     |false=>rfl
     |true=>
      simp only[iP]
      cases m.dt with
      |none=>rfl
      |some d=>simp only[aj ht]
    rw[key,key];exact h
  ·have:=hh (x+1) m' nE;rwa[show i+(x+1)=i+1+x by omega]at this
def ent(k:Nat)(l:List (Nat×Ow)):List (Nat×Ow):=l.filter fun p=>Nat.beq p.1 k
theorem jS{k:Nat}{l:List (Nat×Ow)}{q:Ow}:(k,q)∈ent k l↔(k,q)∈l:=by
 unfold ent;rw[List.mem_filter];simp
def Mn.tc(k:Nat):Mn->Bool
 | .val _=>false
 | .alloc j _ _=>Nat.beq j k
 | .store j _ _=>Nat.beq j k
 | .app j nw _=>Nat.beq j k||nw.any fun p=>Nat.beq p.1 k
def Mn.mk'(k:Nat):Mn->Bool
 | .alloc j _ _=>Nat.beq j k
 | .app j nw _=>Nat.beq j k||nw.any fun p=>Nat.beq p.1 k
 |_=>false
theorem po(k j:Nat)(l:List (Nat×Ow)):ent k (cut j l)=cut j (ent k l):=by
 unfold ent cut;rw[qS,qS];exact List.filter_congr fun p _=>Bool.and_comm ..
theorem pq(k:Nat)(l l':List (Nat×Ow)):ent k (l++l')=ent k l++ent k l':=List.filter_append ..
theorem nk(k j i:Nat)(d:D):∀l:List (Nat×Ow),ent k (bR j i d l)=bR j i d (ent k l)
 |[]=>rfl
 |(x,q)::l=>by
  have ih:=nk k j i d l;unfold ent at ih⊢
  cases h1:Nat.beq x j with
  |true=>
   simp only[bR,h1]
   cases h2:Nat.beq x k with
   |true=>rw[gG (by exact h2),gG (by exact h2),ih];simp only[bR,h1]
   |false=>rw[gH jz,gH jz,ih]
  |false=>
   simp only[bR,h1]
   cases h2:Nat.beq x k with
   |true=>rw[gG (by exact h2),gG (by exact h2),ih];simp only[bR,h1]
   |false=>rw[gH jz,gH jz,ih]
theorem pn{k:Nat}{l:List (Nat×Ow)}{p:Nat×Ow}(h:p∈ent k l):p.1=k:=by
 unfold ent at h;rw[List.mem_filter]at h;exact cg h.2
theorem FB{k:Nat}{t:Option Tmp}{m:Mn}{s s':S}(h:ent k s.ow=ent k s'.ow):ent k (mAp t m s).ow=ent k (mAp t m s').ow:=by
 cases m with
 |val d=>simp only[mAp,fP];exact h
 |alloc j q d=>
  simp only[mAp];unfold ent at h⊢;simp only[List.filter_cons,h]
 |store j i d=>
  simp only[mAp,nk,h]
 |app j nw d=>
  simp only[mAp,pq,po,h]
theorem lz{k:Nat}{t:Option Tmp}{m:Mn}(hm:m.tc k=false)(s:S):ent k (mAp t m s).ow=ent k s.ow:=by
 cases m with
 |val d=>simp only[mAp,fP]
 |alloc j q d=>
  simp only[mAp];unfold ent;rw[gH (by show¬Nat.beq j k=true;rw[show Nat.beq j k=false from hm];decide)]
 |store j i d=>
  simp only[mAp,nk];refine kT fun p hp e=>?_;rw[pn hp]at e;simp[Mn.tc,e]at hm
 |app j nw d=>
  simp only[Mn.tc,uZ]at hm;simp only[mAp,pq,po];have e1:ent k nw=[]:=by
   unfold ent;rw[List.filter_eq_nil_iff];exact fun p hp h=>by
    have:=jt.1 hm.2 p hp;exact this h
  rw[e1,iw];exact nt fun p hp e=>by
   rw[pn hp]at e;rw[e]at hm;simp at hm
theorem sK{L L':Nat->Bool}{k:Nat}:∀(l:List (Option Tmp×Mn)) (i:Nat) (s s':S),ent k s.ow=ent k s'.ow->(∀x t m,l[x]?=some (t,m)->m.tc k=true->L (i+x)=L' (i+x))->ent k (stL L l i s).ow=ent k (stL L' l i s').ow
 |[],_,s,s',h,_=>h
 |(t,m)::l,i,s,s',h,hh=>by
  simp only[stL];refine sK l (i+1) _ _ ?_ fun x t' m' hl hm=>?_
  ·cases hm:m.tc k with
   |true=>
    have:=hh 0 t m aY hm;simp only[cf]at this;rw[this]
    cases L' i with
    |false=>exact h
    |true=>exact FB h
   |false=>
    have key:∀(b:Bool) (σ:S),ent k (match b with|true=>mAp t m σ|false=>σ).ow=ent k σ.ow:=fun b σ=>by
     cases b with
     |false=>rfl
     |true=>exact lz hm σ
    rw[key,key];exact h
  ·have:=hh (x+1) t' m' nE hm;rwa[show i+(x+1)=i+1+x by omega]at this
def shp(k:Nat)(l:List (Nat×Ow)):List (TypeId×Nat×Nat):=(ent k l).map fun p=>(p.2.T,p.2.wd,p.2.l.length)
theorem vv(k j i:Nat)(d:D):∀l:List (Nat×Ow),(bR j i d l).map (fun p=>(p.2.T,p.2.wd,p.2.l.length))=l.map fun p=>(p.2.T,p.2.wd,p.2.l.length)
 |[]=>rfl
 |(x,q)::l=>by
  have ih:=vv k j i d l;simp only[bR]
  cases Nat.beq x j with
  |true=>simp only[du,ih,fg]
  |false=>simp only[du,ih]
theorem xv{L L':Nat->Bool}{k:Nat}:∀(l:List (Option Tmp×Mn)) (i:Nat) (s s':S),shp k s.ow=shp k s'.ow->(∀x t m,l[x]?=some (t,m)->m.mk' k=true->L (i+x)=L' (i+x))->shp k (stL L l i s).ow=shp k (stL L' l i s').ow
 |[],_,s,s',h,_=>h
 |(t,m)::l,i,s,s',h,hh=>by
  simp only[stL];refine xv l (i+1) _ _ ?_ fun x t' m' hl hm=>?_
  ·have off : m.mk' k = false -> ∀ (b : Bool) (σ : S), shp k (match b with | true => mAp t m σ | false => σ).ow = shp k σ.ow := fun hm b σ => by
    cases b with
    |false=>rfl
    |true=>
     cases m with
     |val d=>simp only[mAp,fP]
     |alloc j q d=>
      unfold shp;rw[lz (by simpa[Mn.tc,Mn.mk']using hm)]
     |store j i d=>
      unfold shp;simp only[mAp,nk];exact vv k j i d _
     |app j nw d=>
      unfold shp;rw[lz (by exact hm)]
   cases hm:m.mk' k with
   |true=>
    have:=hh 0 t m aY hm;simp only[cf]at this;rw[this]
    cases L' i with
    |false=>exact h
    |true=>
     cases m with
     |val d=>simp[Mn.mk']at hm
     |store j i d=>simp[Mn.mk']at hm
     |alloc j q d=>
      simp only[mAp];unfold shp ent at h⊢;simp only[List.filter_cons];split
      ·simp only[du,h]
      ·exact h
     |app j nw d=>
      simp only[mAp];unfold shp at h⊢;rw[pq,pq,po,po,eU,eU];congr 1;by_cases e:k=j
      ·have z : ∀ l : List (Nat × Ow), cut j (ent k l) = [] := fun l => by
        unfold cut;rw[List.filter_eq_nil_iff];exact fun p hp hh=>by rw[pn hp,e]at hh;simp at hh
       rw[z,z]
      ·have z:∀l:List (Nat×Ow),cut j (ent k l)=ent k l:=fun l=>nt fun p hp hh=>e ((pn hp).symm.trans hh);rw[z,z];exact h
   |false=>rw[off hm,off hm];exact h
  ·have:=hh (x+1) t' m' nE hm;rwa[show i+(x+1)=i+1+x by omega]at this
end DW
end
section
open Go.RowKit
namespace DW
def qt(a b:List Nat):Bool:=a.any fun x=>CI.dT x b
theorem jV{a b:List Nat}{k:Nat}(h1:k∈a)(h2:k∈b):qt a b=true:=gL.2 ⟨k,h1,CI.jW h2⟩
def fN(ops:Array Oper)(o' o:Oper):Bool:=CI.lA o'.dst (CI.looks ops o)||CI.lA o.dst (CI.looks ops o')||CI.lA o.dst o'.dst.toList
def dlN:List Nat->List Nat
 |[]=>[]
 |x::l=>match Nat.ble 1000000000 x with|true=>Nat.sub x 1000000000::dlN l|false=>dlN l
def cQ(f' f:FP):Bool:=qt f'.wc (f.rc++f.wc)||qt f'.rc f.wc||qt f'.al (f.rc++f.rs++f.wc++f.me)||qt (dlN f'.al) f.rs||qt (dlN f.al) f'.rs
def never(f' f:FP):Bool:=qt f.al (f'.rc++f'.rs++f'.wc++f'.me++f'.al)
def gP(ops:Array Oper)(o' o:Oper)(f' f:FP)(p i:Nat):Bool:=(!(fN ops o' o||cQ f' f)||p.testBit i)&& !never f' f
def rq(ops:Array Oper)(o:Oper)(f:FP)(p:Nat):List (Oper×FP)->Nat->Bool
 |[],_=>true
 |(o',f')::l,i=>gP ops o' o f' f p i&&rq ops o f p l (i+1)
def mW(ops:Array Oper)(n:Nat)(ks:List Nat):List Oper->List FP->List Nat->List (Oper×FP)->Bool
 |[],[],_,_=>true
 |o::l,f::fs,p::ps,acc=>CI.gA acc.length o.after.toList&&f.al.all (fun k=>CI.dT k ks)&&rq ops o f p acc 0&&mW ops n ks l fs ps (acc++[(o,f)])
 |_,_,_,_=>false
def od(ops:Array Oper)(n:Nat)(ks:List Nat)(fps:List FP):Bool:=mW ops n ks ops.toList fps (CI.gW ops.toList []) []
theorem iS{i k:Nat}(h:k<=i):Nat.blt i k=false:=by
 cases hb:Nat.blt i k with
 |false=>rfl
 |true=>rw[aX]at hb;omega
theorem rp{ops:Array Oper}{o:Oper}{f:FP}{p:Nat}:∀{l:List (Oper×FP)} {k:Nat},rq ops o f p l k=true->∀i o' f',l[i]?=some (o',f')->gP ops o' o f' f p (k+i)=true
 |[],_,_,i,o',f',e=>by simp at e
 |(x,y)::l,k,h,0,o',f',e=>by
  simp only[rq,bV]at h;rw[List.getElem?_cons_zero]at e;cases e;rw[cf];exact h.1
 |(x,y)::l,k,h,i+1,o',f',e=>by
  simp only[rq,bV]at h;have:=rp h.2 i o' f' pL;rwa[show k+1+i=k+(i+1) by omega]at this
theorem rG{ops:Array Oper}{n:Nat}{ks:List Nat}:∀{l:List Oper} {fs:List FP} {ps:List Nat} {acc:List (Oper×FP)},mW ops n ks l fs ps acc=true->fs.length=l.length/\∀(j:Nat) (o:Oper),l[j]?=some o->∃f p,fs[j]?=some f/\ps[j]?=some p/\CI.gA (acc.length+j) o.after.toList=true/\(∀k∈f.al,CI.dT k ks=true)/\
  (∀i o' f',acc[i]?=some (o',f')->gP ops o' o f' f p i=true)/\∀i o' f',i<j->l[i]?=some o'->fs[i]?=some f'->gP ops o' o f' f p (acc.length+i)=true
 |[],[],_,_,_=>⟨rfl,fun j o h=>by simp at h⟩
 |o::l,f::fs,p::ps,acc,h=>by
  simp only[mW,bV]at h;obtain⟨⟨⟨h1,h2⟩,h3⟩,h4⟩:=h;obtain⟨k1,k2⟩:=rG h4;refine⟨by simp[k1],fun j o' ho=>?_⟩
  cases j with
  |zero=>
   simp at ho;subst ho;exact⟨f,p,rfl,rfl,h1,by simpa using h2,fun i o' f' e=>by have:=rp h3 i o' f' e;rwa[bQ]at this,fun i _ _ hi=>by omega⟩
  |succ j=>
   obtain⟨f1,p1,q1,q2,q3,q4,q5,q6⟩:=k2 j o' (by simpa using ho);simp only[cT,lL]at q3 q6;refine⟨f1,p1,by simpa using q1,by simpa using q2,by rwa[show acc.length+1+j=acc.length+(j+1) by omega]at q3,q4,fun i o2 f2 e=>q5 i o2 f2 ?_,fun i o2 f2 hi e1 e2=>?_⟩
   ·rw[eP (cF.1 e).1];exact e
   ·cases i with
    |zero=>
     simp at e1 e2;subst e1;subst e2;have:=q5 acc.length o f (by rw[kI (ah _)];simp);exact this
    |succ i=>
     have:=q6 i o2 f2 aa (by simpa using e1) (by simpa using e2);rwa[show acc.length+1+i=acc.length+(i+1) by omega]at this
 |[],_::_,_,_,h=>by simp[mW]at h
 |_::_,[],_,_,h=>by simp[mW]at h
 |_::_,_::_,[],_,h=>by simp[mW]at h
structure qG(ops:Array Oper)(o:Oper)(f:FP)(sj σ:S):Prop where
 sl:∀t,t∈CI.looks ops o->σ.gt t=sj.gt t
 rc:∀k,k∈f.rc->ent k σ.ow=ent k sj.ow
 rs:∀k,k∈f.rs\/k∈f.wc->shp k σ.ow=shp k sj.ow
 al:∀k,k∈f.al->ent k σ.ow=ent k sj.ow/\∀t,(σ.gt t).is k=false
def MS(P:Program)(X0:Nat->Prop)(n:Nat)(ops:Array Oper)(o:Oper)(sj:S)(m:Mn)(f:FP):Prop:=
 ∀σ,qG ops o f sj σ->∀w0 g a w,Hd X0 n w0 σ g a w->∀Qx:Exit->Act->World->Prop,
  if Region.wanted o (yielded ops a.tmps)=true then o.wp P a w (fun a' w'=>∃g',Hd X0 n w0 (mAp o.dst m σ) g' a' w') Qx else∃g',Hd X0 n w0 (mAp o.dst m σ) g' (a.put o.dst undef) w
def kF:Mn->FP->Prop
 | .val d,f=>∀k,d.is k=true->k∈f.me
 | .alloc k _ d,f=>k∈f.al/\∀k',d.is k'=true->k'=k
 | .store k _ _,f=>k∈f.wc
 | .app k nw d,f=>k∈f.wc/\k∈dlN f.al/\(∀p∈nw,p.1∈f.al)/\∀k',d.is k'=true->k'∈f.al
def aM(P:Program)(X0:Nat->Prop)(n:Nat)(ops:Array Oper):List Oper->S->List FP->(S->Prop)->Prop
 |[],s,fps,K=>fps=[]/\K s
 |o::l,s,fps,K=>∃f fs m,fps=f::fs/\kF m f/\MS P X0 n ops o s m f/\aM P X0 n ops l (mAp o.dst m s) fs K
def aML(P:Program)(X0:Nat->Prop)(n:Nat)(ops:Array Oper):List Oper->S->List FP->List (Option Tmp×Mn)->S->Prop
 |[],s,fps,st,s'=>fps=[]/\st=[]/\s=s'
 |o::l,s,fps,st,s'=>∃f fs m st',fps=f::fs/\st=(o.dst,m)::st'/\kF m f/\MS P X0 n ops o s m f/\aML P X0 n ops l (mAp o.dst m s) fs st' s'
section
variable {P : Program} {X0 : Nat->Prop} {n : Nat} {ops : Array Oper} {Q : Exit->S->Prop} {s : S}
theorem BN{K:S->Prop}:∀{l:List Oper} {s:S} {fps:List FP},aM P X0 n ops l s fps K->∃st s',aML P X0 n ops l s fps st s'/\K s'
 |[],s,fps,h=>⟨[],s,⟨h.1,rfl,rfl⟩,h.2⟩
 |o::l,s,fps,⟨f,fs,m,h1,h2,h3,h4⟩=>by
  obtain⟨st,s',k1,k2⟩:=BN h4;exact⟨(o.dst,m)::st,s',⟨f,fs,m,st,h1,rfl,h2,h3,k1⟩,k2⟩
theorem tz:∀{l:List Oper} {s:S} {fps:List FP} {st:List (Option Tmp×Mn)} {s':S} (k:Nat),aML P X0 n ops l s fps st s'->st.length=l.length/\s'=stL (fun _=>true) st k s
 |[],s,fps,st,s',k,⟨_,h2,h3⟩=>by subst h2;subst h3;exact⟨rfl,rfl⟩
 |o::l,s,fps,st,s',k,⟨f,fs,m,st',h1,h2,h3,h4,h5⟩=>by
  obtain⟨k1,k2⟩:=tz (k+1) h5;subst h2;exact⟨by simp[k1],by simp only[stL];exact k2⟩
theorem BO:∀{l:List Oper} {s:S} {fps:List FP} {st:List (Option Tmp×Mn)} {s':S} (k:Nat),aML P X0 n ops l s fps st s'->∀j o,k<=j->l[j-k]?=some o->∃f m,fps[j-k]?=some f/\st[j-k]?=some (o.dst,m)/\kF m f/\MS P X0 n ops o (stL (fun i=>Nat.blt i j) st k s) m f
 |[],s,fps,st,s',k,_,j,o,_,h=>by simp at h
 |o::l,s,fps,st,s',k,⟨f,fs,m,st',h1,h2,h3,h4,h5⟩,j,o',hkj,hl=>by
  subst h1;subst h2;by_cases hj:k=j
  ·subst hj;rw[Nat.sub_self]at hl⊢;simp at hl;subst hl;refine⟨f,m,rfl,rfl,h3,?_⟩;rw[pW _ _ _ fun i hi=>iS hi];exact h4
  ·have hlt:k<j:=by omega
   obtain⟨f',m',q1,q2,q3,q4⟩:=BO (k+1) h5 j o' aa (by rw[show j-k=j-(k+1)+1 by omega]at hl;simpa using hl);refine⟨f',m',by rw[show j-k=j-(k+1)+1 by omega];simpa using q1,by rw[show j-k=j-(k+1)+1 by omega];simpa using q2,q3,?_⟩;simp only[stL,(by simpa[aX]using hlt:Nat.blt k j=true)];exact q4
theorem sI{L:Nat->Bool}{u:Nat}:∀(l:List (Option Tmp×Mn)) (i:Nat) (s:S),(stL L l i s).gt u=s.gt u\/∃x t m d,l[x]?=some (t,m)/\L (i+x)=true/\m.dt=some d/\(stL L l i s).gt u=d
 |[],_,s=>.inl rfl
 |(t,m)::l,i,s=>by
  simp only[stL]
  cases hL:L i with
  |false=>
   rcases sI (L:=L) (u:=u) l (i+1) s with h|⟨x,t',m',d,h1,h2,h3,h4⟩
   ·exact .inl h
   ·exact .inr ⟨x+1,t',m',d,by simpa using h1,by rw[show i+(x+1)=i+1+x by omega];exact h2,h3,h4⟩
  |true=>
   rcases sI (L:=L) (u:=u) l (i+1) (mAp t m s)with h|⟨x,t',m',d,h1,h2,h3,h4⟩
   ·have h':(stL L l (i+1) (mAp t m s)).gt u=match m.dt with|some d=>if t=some u then d else s.gt u|none=>s.gt u:=h.trans (iP t m s u)
    cases hd:m.dt with
    |none=>
     rw[hd]at h';exact .inl h'
    |some d=>
     rw[hd]at h';simp only at h';by_cases e:t=some u
     ·rw[aB e]at h';exact .inr ⟨0,t,m,d,rfl,hL,hd,h'⟩
     ·rw[aj e]at h';exact .inl h'
   ·exact .inr ⟨x+1,t',m',d,by simpa using h1,by rw[show i+(x+1)=i+1+x by omega];exact h2,h3,h4⟩
theorem Hd.eqv{w0:Bs}{s s':S}{f:Nat->Value}{a:Act}{w:World}(h:Hd X0 n w0 s f a w)(e:Eqv s s'):Hd X0 n w0 s' f a w:=by
 have hm:∀p,p∈s'.ow↔p∈s.ow:=fun p=>e.ow.mem_iff.symm;have hX:XO X0 s' f=XO X0 s f:=funext fun b=>propext (by
  unfold XO;constructor
  ·rintro(h|⟨p,hp,q⟩)
   ·exact .inl h
   ·exact .inr ⟨p,(hm p).1 hp,q⟩
  ·rintro(h|⟨p,hp,q⟩)
   ·exact .inl h
   ·exact .inr ⟨p,(hm p).2 hp,q⟩)
 refine⟨h.sz,h.df,h.bl,h.x0,h.xy,h.fx,fun p hp=>h.lo p ((hm p).1 hp),fun t=>by rw[hX,<-e.gt];exact h.sl t,fun p hp=>by rw[hX];exact h.ow p ((hm p).1 hp),fun b hb=>?_,fun p hp q hq=>h.dj p ((hm p).1 hp) q ((hm q).1 hq),fun p hp q hq=>h.un p ((hm p).1 hp) q ((hm q).1 hq)⟩;obtain⟨p,hp,q⟩:=hb;exact h.nw b ⟨p,(hm p).1 hp,q⟩
structure Mix(P:Program)(X0:Nat->Prop)(n:Nat)(ops:Array Oper)(s:S)(st:List (Option Tmp×Mn))(ps:List Nat):Prop where
 len:st.length=ops.size
 row:∀j o,ops[j]?=some o->∃f p m,ps[j]?=some p/\st[j]?=some (o.dst,m)/\kF m f/\MS P X0 n ops o (stL (fun i=>Nat.blt i j) st 0 s) m f/\CI.gA j o.after.toList=true/\(∀k∈f.al,∀t,(s.gt t).is k=false)/\
  (∀i o',i<j->ops[i]?=some o'->∃f' m',st[i]?=some (o'.dst,m')/\kF m' f'/\gP ops o' o f' f p i=true)/\
  (∀i o',j<i->ops[i]?=some o'->∃f' m' p',st[i]?=some (o'.dst,m')/\kF m' f'/\ps[i]?=some p'/\gP ops o o' f f' p' j=true)
 pre:∀(i:Nat) (o:Oper) (p q:Nat),ops[i]?=some o->ps[i]?=some p->p.testBit q=true->∃e∈o.after.toList,Region.binds .any e=true/\(e.on=q\/∃p',ps[e.on]?=some p'/\p'.testBit q=true)
theorem Hl{ks:List Nat}{fps:List FP}{st:List (Option Tmp×Mn)}{s':S}(hc:od ops n ks fps=true)(hb:∀k,k∈ks->∀t,(s.gt t).is k=false)(h:aML P X0 n ops ops.toList s fps st s'):Mix P X0 n ops s st (CI.gW ops.toList []):=by
 obtain⟨k1,k2⟩:=rG hc;obtain⟨e1,_⟩:=tz 0 h;have at':=fun j o (ho:ops[j]?=some o)=>BO 0 h j o (aI _) (by rw[gM];simpa using ho);refine⟨by simpa using e1,fun j o ho=>?_,fun i o p q ho hp hq=>?_⟩
 ·obtain⟨f,m,q1,q2,q3,q4⟩:=at' j o ho;rw[gM]at q1 q2;obtain⟨f1,p,r1,r2,r3,r4,_,r6⟩:=k2 j o (by simpa using ho);rw[q1]at r1;simp only[af]at r1;subst r1;simp only[gK,bQ]at r3 r6;refine⟨f,p,m,r2,q2,q3,q4,r3,fun k hk t=>hb k ?_ t,fun i o' hi ho'=>?_,fun i o' hi ho'=>?_⟩
  ·have:=r4 k hk;have hh:∀{l:List Nat},CI.dT k l=true->k∈l:=fun {l}=>by
    induction l with
    |nil=>intro h;simp[CI.dT]at h
    |cons x l ih=>
     intro h;simp only[CI.dT]at h;split at h
     ·next hb=>rw[cg hb];exact bp
     ·exact bf _ (ih h)
   exact hh this
  ·obtain⟨f',m',q1',q2',q3',_⟩:=at' i o' ho';rw[gM]at q1' q2';exact⟨f',m',q2',q3',r6 i o' f' hi (by simpa using ho') q1'⟩
  ·obtain⟨f',m',q1',q2',q3',_⟩:=at' i o' ho';rw[gM]at q1' q2';obtain⟨f1,p',t1,t2,_,_,_,t6⟩:=k2 i o' (by simpa using ho');rw[q1']at t1;simp only[af]at t1;subst t1;simp only[gK,bQ]at t6;exact⟨f',m',p',q2',q3',t2,t6 j o f hi (by simpa using ho) q1⟩
 ·have h2:=CI.sP ops.toList [] i o (by simpa using ho);simp only[gK,bQ]at h2;rw[hp]at h2;simp only[af]at h2;rw[h2]at hq;obtain⟨e,he,hb',hh⟩:=CI.jN hq;refine⟨e,he,hb',hh.imp id fun hx=>?_⟩;rw[CI.qx,dV]at hx;split at hx
  ·cases hz:(CI.gW ops.toList [])[e.on]? with
   |none=>rw[hz]at hx;simp at hx
   |some p'=>rw[hz]at hx;exact⟨p',rfl,by simpa using hx⟩
  ·simp at hx
end
end DW
end
section
open Go.RowKit
namespace DW
section
variable {P : Program} {X0 : Nat->Prop} {n : Nat} {ops : Array Oper} {Q : Exit->S->Prop} {s : S} {st : List (Option Tmp × Mn)} {ps : List Nat} {L : Nat->Bool} {j : Nat} {o : Oper}
def rY(ps:List Nat)(L:Nat->Bool):Prop:=∀i p q,L i=true->ps[i]?=some p->p.testBit q=true->L q=true
theorem te{t:Nat}{x:Option Tmp}{l:List Nat}(h:x=some t)(hl:t∈l):CI.lA x l=true:=by
 rw[h];exact CI.jW hl
theorem rA{o' o:Oper}{f' f:FP}{p i:Nat}(h:gP ops o' o f' f p i=true):never f' f=false:=by
 unfold gP at h;simp only[bV,ke]at h;exact h.2
theorem rB{o' o:Oper}{f' f:FP}{p i:Nat}(h:gP ops o' o f' f p i=true)(hc:fN ops o' o=true\/cQ f' f=true):p.testBit i=true:=by
 unfold gP at h;simp only[bV,lP,ke,uZ]at h;rcases h.1 with⟨h1,h2⟩|h1
 ·rcases hc with hc|hc
  ·rw[h1]at hc;cases hc
  ·rw[h2]at hc;cases hc
 ·exact h1
theorem eK{f' f:FP}{k:Nat}(h1:k∈f.al)(h2:k∈f'.rc\/k∈f'.rs\/k∈f'.wc\/k∈f'.me\/k∈f'.al):never f' f=true:=by
 refine jV h1 ?_;simp only[dG];rcases h2 with h|h|h|h|h<;>simp[h]
theorem uG{f' f:FP}{k:Nat}(h1:k∈f'.wc)(h2:k∈f.rc\/k∈f.wc):cQ f' f=true:=by
 unfold cQ;rw[jV h1 (dG.2 h2)];simp only[nI]
theorem blk_r{f' f:FP}{k:Nat}(h1:k∈f'.rc)(h2:k∈f.wc):cQ f' f=true:=by
 unfold cQ;rw[jV h1 h2];simp only[nI,kb]
theorem ll{f' f:FP}{k:Nat}(h1:k∈f'.al)(h2:k∈f.rc\/k∈f.rs\/k∈f.wc\/k∈f.me):cQ f' f=true:=by
 unfold cQ;rw[jV h1 (by simp only[dG];rcases h2 with h|h|h|h<;>simp[h])];simp only[nI,kb]
theorem blk_d{f' f:FP}{k:Nat}(h1:k∈dlN f'.al)(h2:k∈f.rs):cQ f' f=true:=by
 unfold cQ;rw[jV h1 h2];simp only[nI,kb]
theorem Iq{f' f:FP}{k:Nat}(h1:k∈dlN f.al)(h2:k∈f'.rs):cQ f' f=true:=by
 unfold cQ;rw[jV h1 h2];simp only[kb]
theorem Eh{m:Mn}{f:FP}{k:Nat}(h:kF m f)(ht:m.tc k=true):k∈f.wc\/k∈f.al:=by
 cases m with
 |val d=>simp[Mn.tc]at ht
 |alloc j q d=>rw[<-cg ht];exact .inr h.1
 |store j i d=>rw[<-cg ht];exact .inl h
 |app j nw d=>
  simp only[Mn.tc,lP,gL]at ht;rcases ht with ht|⟨p,hp,ht⟩
  ·rw[<-cg ht];exact .inl h.1
  ·rw[<-cg ht];exact .inr (h.2.2.1 p hp)
theorem mk_of{m:Mn}{f:FP}{k:Nat}(h:kF m f)(ht:m.mk' k=true):k∈f.al\/k∈dlN f.al/\k∈f.wc:=by
 cases m with
 |val d=>simp[Mn.mk']at ht
 |alloc j q d=>rw[<-cg ht];exact .inl h.1
 |store j i d=>simp[Mn.mk']at ht
 |app j nw d=>
  simp only[Mn.mk',lP,gL]at ht;rcases ht with ht|⟨p,hp,ht⟩
  ·rw[<-cg ht];exact .inr ⟨h.2.1,h.1⟩
  ·rw[<-cg ht];exact .inl (h.2.2.1 p hp)
theorem dt_of{m:Mn}{f:FP}{k:Nat}{d:D}(h:kF m f)(hd:m.dt=some d)(hk:d.is k=true):k∈f.me\/k∈f.al:=by
 cases m with
 |val d'=>simp[Mn.dt]at hd;subst hd;exact .inl (h k hk)
 |alloc j q d'=>simp[Mn.dt]at hd;subst hd;rw[h.2 k hk];exact .inr h.1
 |store j i d'=>simp[Mn.dt]at hd
 |app j nw d'=>simp[Mn.dt]at hd;subst hd;exact .inr (h.2.2.2 k hk)
theorem Mix.oper(M:Mix P X0 n ops s st ps){x:Nat}{t:Option Tmp}{m:Mn}(h:st[x]?=some (t,m)):∃o,ops[x]?=some o:=by
 have:=(cF.1 h).1;rw[M.len]at this;exact⟨ops[x],gI this⟩
theorem Mix.other(M:Mix P X0 n ops s st ps)(hL:rY ps L)(ho:ops[j]?=some o):∃f m p,st[j]?=some (o.dst,m)/\ps[j]?=some p/\kF m f/\MS P X0 n ops o (stL (fun i=>Nat.blt i j) st 0 s) m f/\(∀k∈f.al,∀t,(s.gt t).is k=false)/\
  (L j=false->(∀q,p.testBit q=true->L q=true)->∀x t' m',st[x]?=some (t',m')->∃o' f',ops[x]?=some o'/\t'=o'.dst/\kF m' f'/\
   ((x<j/\never f' f=false/\(fN ops o' o=true\/cQ f' f=true->L x=true))\/(x=j)\/(j<x/\never f f'=false/\(fN ops o o'=true\/cQ f f'=true->L x=false)))):=by
 obtain⟨f,p,m,h1,h2,h3,h4,h5,h6,h7,h8⟩:=M.row j o ho;refine⟨f,m,p,h2,h1,h3,h4,h6,fun hj hp x t' m' hx=>?_⟩;obtain⟨o',ho'⟩:=M.oper hx;rcases jH x j with e|e|e
 ·obtain⟨f',m'',q1,q2,q3⟩:=h7 x o' e ho';rw[hx]at q1;simp only[af,av]at q1;obtain⟨rfl,rfl⟩:=q1;exact⟨o',f',ho',rfl,q2,.inl ⟨e,rA q3,fun hc=>hp x (rB q3 hc)⟩⟩
 ·subst e;rw[ho]at ho';simp only[af]at ho';subst ho';rw[h2]at hx;simp only[af,av]at hx;obtain⟨rfl,rfl⟩:=hx;exact⟨o,f,ho,rfl,h3,.inr (.inl rfl)⟩
 ·obtain⟨f',m'',p',q1,q2,q3,q4⟩:=h8 x o' e ho';rw[hx]at q1;simp only[af,av]at q1;obtain⟨rfl,rfl⟩:=q1;refine⟨o',f',ho',rfl,q2,.inr (.inr ⟨e,rA q4,fun hc=>?_⟩)⟩;have hb:=rB q4 hc
  cases hLx:L x with
  |false=>rfl
  |true=>
   have:=hL x p' j hLx q3 hb;rw[hj]at this;cases this
theorem cG{b:Bool}(h:b=false)(h':b=true):False:=by rw[h]at h';cases h'
theorem tu{i k:Nat}(h:i<k):Nat.blt i k=true:=by rw[aX];exact h
theorem Mix.step(M:Mix P X0 n ops s st ps)(hL:rY ps L)(ho:ops[j]?=some o)(hj:L j=false)(hp:∀p q,ps[j]?=some p->p.testBit q=true->L q=true){L':Nat->Bool}(h2:L' j=true)(h3:∀x,x≠j->L' x=L x):
  ∃m,(∀w0 g a w,Hd X0 n w0 (stL L st 0 s) g a w->∀Qx:Exit->Act->World->Prop,
   if Region.wanted o (yielded ops a.tmps)=true then o.wp P a w (fun a' w'=>∃g',Hd X0 n w0 (mAp o.dst m (stL L st 0 s)) g' a' w') Qx else∃g',Hd X0 n w0 (mAp o.dst m (stL L st 0 s)) g' (a.put o.dst undef) w)/\Eqv (mAp o.dst m (stL L st 0 s)) (stL L' st 0 s):=by
 obtain⟨f,m,p,e1,e2,e3,e4,e5,e6⟩:=M.other (L:=L) hL ho;have oth:=e6 hj (fun q hq=>hp p q e2 hq);refine⟨m,e4 _ ⟨fun t ht=>?_,fun k hk=>?_,fun k hk=>?_,fun k hk=>⟨?_,fun t=>?_⟩⟩,?_⟩
 ·refine AI st 0 s s rfl fun x m' hx=>?_;rw[bQ];obtain⟨o',f',q1,q2,q3,q4⟩:=oth x _ m' hx;rcases q4 with⟨e,_,hc⟩|e|⟨e,_,hc⟩
  ·rw[tu e];refine hc (.inl ?_);unfold fN;rw[te q2.symm ht];rfl
  ·subst e;rw[hj,iS (ah _)]
  ·rw[iS (cE e)];refine hc (.inl ?_);unfold fN;rw[te q2.symm ht,kb];rfl
 ·refine sK st 0 s s rfl fun x t' m' hx hm=>?_;rw[bQ];obtain⟨o',f',q1,q2,q3,q4⟩:=oth x _ m' hx;have ht:=Eh q3 hm;rcases q4 with⟨e,hn,hc⟩|e|⟨e,hn,hc⟩
  ·rw[tu e];exact hc (.inr (ht.elim (fun h=>uG h (.inl hk)) (fun h=>ll h (.inl hk))))
  ·subst e;rw[hj,iS (ah _)]
  ·rw[iS (cE e)];rcases ht with ht|ht
   ·exact hc (.inr (blk_r hk ht))
   ·exact(cG hn (eK ht (.inl hk))).elim
 ·refine xv st 0 s s rfl fun x t' m' hx hm=>?_;rw[bQ];obtain⟨o',f',q1,q2,q3,q4⟩:=oth x _ m' hx;have ht:=mk_of q3 hm;rcases q4 with⟨e,hn,hc⟩|e|⟨e,hn,hc⟩
  ·rw[tu e];rcases ht with ht|⟨ht,hw⟩
   ·exact hc (.inr (ll ht (.inr (hk.elim .inl (fun h=>.inr (.inl h))))))
   ·exact hc (.inr (hk.elim (fun h=>blk_d ht h) (fun h=>uG hw (.inr h))))
  ·subst e;rw[hj,iS (ah _)]
  ·rcases ht with ht|⟨ht,hw⟩
   ·exact(cG hn (eK ht (.inr (hk.elim .inl (fun h=>.inr (.inl h)))))).elim
   ·rw[iS (cE e)];exact hc (.inr (hk.elim (fun h=>Iq ht h) (fun h=>uG h (.inr hw))))
 ·refine sK st 0 s s rfl fun x t' m' hx hm=>?_;rw[bQ];obtain⟨o',f',q1,q2,q3,q4⟩:=oth x _ m' hx;have ht:=Eh q3 hm;rcases q4 with⟨e,hn,hc⟩|e|⟨e,hn,hc⟩
  ·exact(cG hn (eK hk (by rcases ht with h|h<;>simp[h]))).elim
  ·subst e;rw[hj,iS (ah _)]
  ·rw[iS (cE e)];rcases ht with ht|ht
   ·exact hc (.inr (ll hk (by simp[ht])))
   ·exact(cG hn (eK ht (by simp[hk]))).elim
 ·rcases sI (L:=L) (u:=t) st 0 s with h|⟨x,t',m',d,q1,q2,q3,q4⟩
  ·rw[h];exact e5 k hk t
  ·rw[q4]
   cases hd:d.is k with
   |false=>rfl
   |true=>
    exfalso;rw[bQ]at q2;obtain⟨o',f',_,_,r3,r4⟩:=oth x _ m' q1;have ht:=dt_of r3 q3 hd;rcases r4 with⟨e,hn,_⟩|e|⟨e,hn,hc⟩
    ·exact cG hn (eK hk (by rcases ht with h|h<;>simp[h]))
    ·subst e;exact cG hj q2
    ·rcases ht with ht|ht
     ·exact cG (hc (.inr (ll hk (by simp[ht])))) q2
     ·exact cG hn (eK ht (by simp[hk]))
 ·refine vp st 0 j s (aI _) (by rw[gM];exact e1) hj h2 h3 fun x t' m' hx hs hLx=>?_;rw[bQ]at hx hLx;obtain⟨o',f',q1,q2,q3,q4⟩:=oth x _ m' hs;rcases q4 with⟨e,_⟩|e|⟨e,hn,hc⟩
  ·omega
  ·omega
  ·refine⟨fun u h1 h2=>?_,fun k q d k' i' d' h1 h2 hk=>?_,fun k q d k' i' d' h1 h2 hk=>?_,fun k i d k' i' d' h1 h2 hk=>?_,fun k nw d k' q' d' h1 h2 hk=>?_,fun k nw d k' q' d' h1 h2 hk=>?_,fun k nw d k' i d' h1 h2 p hp hk=>?_,fun k nw d k' i d' h1 h2 p hp hk=>?_,fun k nw d k' nw' d' h1 h2=>⟨fun p hp hk=>?_,fun p hp hk=>?_⟩⟩
   ·refine cG (hc (.inl ?_)) hLx;unfold fN;rw[te (x:=o'.dst) (l:=o.dst.toList) (q2.symm.trans h2) (by rw[h1];simp),kb]
   ·subst h1;subst h2;subst hk;exact cG (hc (.inr (ll e3.1 (.inr (.inr (.inl q3)))))) hLx
   ·subst h1;subst h2;subst hk;exact cG hn (eK q3.1 (.inr (.inr (.inl e3))))
   ·subst h1;subst h2;subst hk;exact cG (hc (.inr (uG e3 (.inr q3)))) hLx
   ·subst h1;subst h2;subst hk;exact cG hn (eK q3.1 (.inr (.inr (.inl e3.1))))
   ·subst h1;subst h2;subst hk;exact cG (hc (.inr (ll e3.1 (.inr (.inr (.inl q3.1)))))) hLx
   ·subst h1;subst h2;subst hk;exact cG (hc (.inr (ll (e3.2.2.1 p hp) (.inr (.inr (.inl q3)))))) hLx
   ·subst h1;subst h2;subst hk;exact cG hn (eK (q3.2.2.1 p hp) (.inr (.inr (.inl e3))))
   ·subst h1;subst h2;subst hk;exact cG (hc (.inr (ll (e3.2.2.1 p hp) (.inr (.inr (.inl q3.1)))))) hLx
   ·subst h1;subst h2;subst hk;exact cG hn (eK (q3.2.2.1 p hp) (.inr (.inr (.inl e3.1))))
theorem Fx(M:Mix P X0 n ops s st ps){Qx:Exit->Act->World->Prop}{w0:Bs}(hq:∀g a w,Hd X0 n w0 (stL (fun _=>true) st 0 s) g a w->Qx .normal a w):∀(fuel:Nat) (listed:Array Bool) (a:Act) (w:World) (g:Nat->Value) (U:List Nat),listed.size=ops.size->U.length<=fuel->(∀i,i<ops.size->listed.getD i false=false->i∈U)->
  rY ps (fun i=>listed.getD i false)->Hd X0 n w0 (stL (fun i=>listed.getD i false) st 0 s) g a w->wpAny P .any ops Qx fuel listed a w:=by
 have done:∀(listed:Array Bool) (a:Act) (w:World) (g:Nat->Value),(∀i,i<ops.size->listed.getD i false=true)->Hd X0 n w0 (stL (fun i=>listed.getD i false) st 0 s) g a w->Qx .normal a w:=fun listed a w g hall hh=>by
  refine hq g a w (hh.eqv (Eqv.of ?_));have key:∀(l:List (Option Tmp×Mn)) (i:Nat) (σ:S),(∀x,x<l.length->listed.getD (i+x) false=true)->stL (fun i=>listed.getD i false) l i σ=stL (fun _=>true) l i σ:=fun l=>by
   induction l with
   |nil=>intro i σ _;rfl
   |cons x l ih=>
    intro i σ hx;obtain⟨t,m⟩:=x;have h0:=hx 0 aY;rw[cf]at h0;simp only[stL,h0];exact ih (i+1) _ fun y hy=>by
     have:=hx (y+1) fB;rwa[show i+(y+1)=i+1+y by omega]at this
  exact key st 0 s fun x hx=>by rw[bQ];exact hall x (by rw[<-M.len];exact hx)
 have unl:∀(listed:Array Bool) (j:Nat),listed.size=ops.size->listed.getD j true=false->j<ops.size/\listed.getD j false=false:=fun listed j hs hl=>by
  rw[bZ]at hl
  cases e:listed[j]? with
  |none=>rw[e]at hl;simp at hl
  |some b=>
   rw[e]at hl;have hlt:=(gC.1 e).1;refine⟨by omega,?_⟩;rw[bZ,e];simpa using hl
 intro fuel
 induction fuel with
 |zero=>
  intro listed a w g U hs hU hin hcl hh;have hUn:U=[]:=iy aa;subst hUn;have hall:∀i,i<ops.size->listed.getD i false=true:=fun i hi=>by
   cases hb:listed.getD i false with
   |true=>rfl
   |false=>exact absurd (hin i hi hb) aY
  refine⟨?_,done listed a w g hall hh⟩
  cases hr:Region.ready .any ops listed with
  |nil=>rfl
  |cons x xs=>
   exfalso;have hx:x∈Region.ready .any ops listed:=by rw[hr];exact bp
   obtain⟨h1,h2⟩:=unl listed x hs (mem_ready.1 hx).1;rw[hall x h1]at h2;cases h2
 |succ fuel ih=>
  intro listed a w g U hs hU hin hcl hh;refine⟨fun hr=>?_,fun j hj=>?_⟩
  ·refine done listed a w g (fun i=>?_) hh
   induction i using Nat.strongRecOn with
   |_ i ihi=>
    intro hi
    cases hb:listed.getD i false with
    |true=>rfl
    |false=>
     exfalso;have hmem:i∈Region.ready .any ops listed:=by
      refine mem_ready.2 ⟨?_,ops[i],gI hi,fun e he hbd=>?_⟩
      ·have e:=gI (xs:=listed) (i:=i) aa;rw[bZ,e]at hb⊢;simpa using hb
      ·obtain⟨_,_,_,_,_,_,_,h5,_⟩:=M.row i ops[i] (gI hi);have hlt:=CI.kB h5 e pM hbd;exact ihi e.on hlt aa
     rw[hr]at hmem;cases hmem
  ·obtain⟨h1,o,ho,h3⟩:=mem_ready.1 hj;obtain⟨hjs,hjl⟩:=unl listed j hs h1;have hpre:∀p q,ps[j]?=some p->p.testBit q=true->listed.getD q false=true:=fun p q hp hq=>by
    obtain⟨e,he,hbd,hx⟩:=M.pre j o p q ho hp hq;have hl:=h3 e pM hbd;rcases hx with hx|⟨p',hp',hq'⟩
    ·rw[<-hx];exact hl
    ·exact hcl e.on p' q hl hp' hq'
   have hset1:(listed.setIfInBounds j true).getD j false=true:=by
    simp[bZ,lO,show j<listed.size by omega]
   have hset2:∀i,i≠j->(listed.setIfInBounds j true).getD i false=listed.getD i false:=fun i e=>by
    simp[bZ,qR (Ne.symm e)]
   obtain⟨m,hstep,heq⟩:=M.step (L:=fun i=>listed.getD i false) hcl ho hjl hpre (L':=fun i=>(listed.setIfInBounds j true).getD i false) hset1 hset2;have hjU:j∈U:=hin j hjs hjl;have hcl':rY ps (fun i=>(listed.setIfInBounds j true).getD i false):=fun i p q hi hp hq=>by
    have key:listed.getD q false=true:=by
     by_cases e:i=j
     ·subst e;exact hpre p q hp hq
     ·exact hcl i p q (by show listed.getD i false=true;rw[<-hset2 i e];exact hi) hp hq
    by_cases e:q=j
    ·subst e;exact hset1
    ·simp only[hset2 q e];exact key
   have go:∀g' a' w',Hd X0 n w0 (mAp o.dst m (stL (fun i=>listed.getD i false) st 0 s)) g' a' w'->wpAny P .any ops Qx fuel (listed.setIfInBounds j true) a' w':=fun g' a' w' h=>by
    refine ih _ _ _ g' (U.erase j) (by simp[hs]) (by rw[List.length_erase_of_mem hjU];omega) (fun i hi hb=>?_) hcl' (h.eqv heq);have hne:i≠j:=fun e=>by subst e;rw[hset1]at hb;cases hb
    exact(List.mem_erase_of_ne hne).2 (hin i hi (by rw[<-hset2 i hne];exact hb))
   refine wpOp_step ho fun K' hK=>?_;have:=hstep w0 g a w hh Qx;split
   ·next hw=>
    rw[aB hw]at this;exact Oper.wp_mono (fun a' w' ⟨g',h⟩=>hK _ _ (go g' a' w' h)) this
   ·next hw=>
    rw[aj hw]at this;obtain⟨g',h⟩:=this;exact hK _ _ (go g' _ _ h)
def fI:List Nat->List (Nat×D)->List (Nat×D)
 |[],sl=>sl
 |k::ks,sl=>kill k (fI ks sl)
theorem wg:∀{ks:List Nat} {sl:List (Nat×D)} {k:Nat},k∈ks->∀t,(look (fI ks sl) t).is k=false
 |j::ks,sl,k,h,t=>by
  simp only[fI];rcases eX j (fI ks sl) t with⟨h1,h2⟩|h1
  ·rcases aZ.1 h with e|e
   ·subst e;rw[h1];exact h2
   ·rw[h1];exact wg e t
  ·rw[h1];rfl
theorem wi:∀(ks:List Nat) {w0:Bs} {w:World} {f:Nat->Value} {a:Act} {sl:List (Nat×D)} {ow:List (Nat×Ow)},Hd X0 n w0 ⟨sl,ow⟩ f a w->Hd X0 n w0 ⟨fI ks sl,ow⟩ f a w
 |[],_,_,_,_,_,_,h=>h
 |_::ks,_,_,_,_,_,_,h=>(wi ks h).kill
theorem Iv{id:Nat}{l:List Oper}(ks:List Nat){fps:List FP}(hm:P.follows .mixedOrders=true)(h:aM P X0 n l.toArray l ⟨fI ks s.sl,s.ow⟩ fps (Q .normal))(hc:od l.toArray n ks fps=true):aW P X0 n (.region id l.toArray true) Q s:=fun w0 f a w hd=>by
 obtain⟨st,s',h1,h2⟩:=BN h;have M:=Hl (P:=P) (X0:=X0) (s:=⟨fI ks s.sl,s.ow⟩) (st:=st) (s':=s') hc (fun k hk t=>wg hk t) (by simpa using h1);obtain⟨_,e2⟩:=tz 0 h1;refine wp_region_any hm (Fx M (w0:=w0) (fun g a' w' hh=>?_) _ _ a _ f (List.range l.toArray.size) aY aY (fun i hi _=>lH.2 hi) ?_ ?_)
 ·rw[<-e2]at hh;exact⟨s',g,hh,h2⟩
 ·intro i p q hi;simp only[bZ,uY]at hi;split at hi<;>simp at hi
 ·have hz : stL (fun i => (Array.replicate l.toArray.size false).getD i false) st 0 ⟨fI ks s.sl, s.ow⟩ = ⟨fI ks s.sl, s.ow⟩ := pW _ _ _ fun i _ => by
   simp only[bZ,uY];split<;>rfl
  rw[hz];exact(wi ks hd).grow ((Below.refl _ w).drew)
end
end DW
end
section
open Go.RowKit
namespace DW
section
variable {P : Program} {X0 : Nat->Prop} {n : Nat} {sl : List (Nat × D)} {ow : List (Nat × Ow)} {o : Oper} {ops : Array Oper} {l : List Oper} {K : S->Prop} {t : Nat} {d : D} {fs : List FP}
theorem Cw{x:Operand}(hx:x∈o.op.operands){u:Nat}(e:x= .tmp u):u∈CI.looks ops o:=by
 subst e;unfold CI.looks;exact List.mem_append_right _ (List.mem_filterMap.2 ⟨.tmp u,by simpa using hx,rfl⟩)
theorem Cx{j u:Nat}{c:Bool}(hg:o.guard=some (j,c))(hj:(ops[j]?).bind (·.dst)=some u):u∈CI.looks ops o:=by
 unfold CI.looks;rw[hg];simp only[hj];exact List.mem_append_left _ aY
section
variable {f : FP} {sj σ : S}
theorem qG.op(ag:qG ops o f sj σ){x:Operand}(hx:x∈o.op.operands):σ.op x=sj.op x:=by
 cases x with
 |tmp u=>exact ag.sl u (Cw hx rfl)
 |const v=>rfl
 |global g=>rfl
 |func g=>rfl
theorem qG.cP(ag:qG ops o f sj σ){b:Bool}(h:cP ops [] sj o b):cP ops [] σ o b:=by
 unfold DW.cP at h⊢
 cases hg:o.guard with
 |none=>rw[hg]at h;exact h
 |some p=>
  obtain⟨j,c⟩:=p;rw[hg]at h;simp only at h⊢;obtain⟨t,e,h1,h2,h3,h4⟩:=h;exact⟨t,e,h1,h2,by rw[ag.sl t (Cx hg h1)];exact h3,h4⟩
theorem qG.xP(ag:qG ops o f sj σ){k:Nat}{q:Ow}(hk:k∈f.rc)(h:(k,q)∈sj.ow):(k,q)∈σ.ow:=by
 have:=jS.2 h;rw[<-ag.rc k hk]at this;exact jS.1 this
theorem sB{w0:Bs}{w:World}{g:Nat->Value}{a:Act}(hh:Hd X0 n w0 σ g a w){b:Bool}(h:cP ops [] σ o b):Region.wanted o (yielded ops a.tmps)=b:=by
 have hi:HI (XO X0 σ g) n w g Own3.Fs.none [] σ a:=⟨hh.sz,hh.df,fun t _=>hh.sl t,fun t u e=>by simp[dK]at e⟩;exact hi.want h
end
theorem Hg{f:FP}{own:List (Nat×Ow)}(hw:cP ops [] ⟨sl,ow⟩ o true)(ht:ck n o=true)(hd:bc P o ⟨sl,own⟩ d)(ho:∀p∈own,p∈ow/\p.1∈f.rc):MS P X0 n ops o ⟨sl,ow⟩ (.val d) f:=fun σ ag w0 g a w hh Qx=>by
 rw[aB (sB hh (ag.cP hw))];have hD:bc P o σ d:=fun X f' a w base hX how hs=>hd X f' a w base hX (fun p hp=>by
  obtain⟨k,q⟩:=p;obtain⟨h1,h2⟩:=ho _ hp;exact how _ (ag.xP h2 h1)) (fun x hx=>by
  have h1:=hs x hx;rw[ag.op hx]at h1;cases x<;>exact h1)
 exact Oper.wp_mono (fun a' w' h=>⟨g,h⟩) (mH hD hh ht)
def D.vV:D->List Nat
 | .own k=>[k]
 | .opt k _=>[k]
 |_=>[]
theorem xG{d:D}{k:Nat}(h:d.is k=true):k∈d.vV:=by
 cases d<;>simp[D.is]at h<;>simp[D.vV,h]
theorem Ia(hdst:o.dst=some t)(ht:Nat.blt t n=true):ck n o=true:=by
 unfold ck;rw[hdst];simpa[aX]using ht
theorem nQ{b:Bool}{s:S}(hg:o.guard=none)(hb:b=true):cP ops [] s o b:=by
 unfold cP;rw[hg];exact hb
theorem Iy(h:K ⟨sl,ow⟩):aM P X0 n ops [] ⟨sl,ow⟩ [] K:=⟨rfl,h⟩
theorem tN:fI [] sl=sl:=rfl
theorem gy{k:Nat}{ks:List Nat}{sl1 sl2:List (Nat×D)}(h1:fI ks sl=sl1)(h2:kill k sl1=sl2):fI (k::ks) sl=sl2:=by
 subst h1;exact h2
theorem aWmix{id:Nat}{Q:Exit->S->Prop}{sl':List (Nat×D)}(ks:List Nat){fps:List FP}(hm:P.follows .mixedOrders=true)(hs:fI ks sl=sl')(h:aM P X0 n l.toArray l ⟨sl',ow⟩ fps (Q .normal))(hc:od l.toArray n ks fps=true):aW P X0 n (.region id l.toArray true) Q ⟨sl,ow⟩:=by
 subst hs;exact Iv ks hm h hc
theorem aM1(hg:o.guard=none)(hdst:o.dst=some t)(ht:Nat.blt t n=true)(hd:bc P o ⟨sl,[]⟩ d)(h:aM P X0 n ops l ⟨(t,d)::sl,ow⟩ fs K):aM P X0 n ops (o::l) ⟨sl,ow⟩ (⟨[],[],[],[],d.vV⟩::fs) K:=
 ⟨_,fs,.val d,rfl,fun _ hk=>xG hk,Hg (nQ hg rfl) (Ia hdst ht) hd (fun p hp=>by cases hp),by rw[hdst];exact h⟩
def aN(P:Program)(X0:Nat->Prop)(n:Nat)(ops:Array Oper)(ks:List Nat)(l:List Oper)(s:S)(acc:List FP)(K:S->Prop):Prop:=∃fps,aM P X0 n ops l s fps K/\od ops n ks (acc.reverse++fps)=true
section
variable {ks : List Nat} {acc : List FP}
theorem Ag{s s':S}{f:FP}(hs:∀fs,aM P X0 n ops l s' fs K->aM P X0 n ops (o::l) s (f::fs) K)(h:aN P X0 n ops ks l s' (f::acc) K):aN P X0 n ops ks (o::l) s acc K:=by
 obtain⟨fps,h1,h2⟩:=h;exact⟨f::fps,hs fps h1,by simpa using h2⟩
theorem BM(hc:od ops n ks acc.reverse=true)(h:K ⟨sl,ow⟩):aN P X0 n ops ks [] ⟨sl,ow⟩ acc K:=⟨[],Iy h,by simpa using hc⟩
theorem BL{id:Nat}{Q:Exit->S->Prop}{sl':List (Nat×D)}(ks:List Nat)(hm:P.follows .mixedOrders=true)(hs:fI ks sl=sl')(h:aN P X0 n l.toArray ks l ⟨sl',ow⟩ [] (Q .normal)):aW P X0 n (.region id l.toArray true) Q ⟨sl,ow⟩:=by
 obtain⟨fps,h1,h2⟩:=h;exact aWmix ks hm hs h1 h2
theorem aN1(hg:o.guard=none)(hdst:o.dst=some t)(ht:Nat.blt t n=true)(hd:bc P o ⟨sl,[]⟩ d)(h:aN P X0 n ops ks l ⟨(t,d)::sl,ow⟩ (⟨[],[],[],[],d.vV⟩::acc) K):aN P X0 n ops ks (o::l) ⟨sl,ow⟩ acc K:=Ag (fun _ h=>aM1 hg hdst ht hd h) h
end
end
end DW
end
section
open Go.RowKit
namespace DW
section
variable {P : Program} {s : S} {o : Oper}
theorem oA{x y:Operand}{tt:TypeId}{wd:Nat}{lo:List D}{q:IntKind}{z:Int}{m:Nat}(ho:o.op= .slice tt x (some y) none none)(hx:s.op x= .ls wd lo)(hy:s.op y= .sc (.int q z))(ht:P.underlying tt=some (.slice (P.elem tt)))(hz:(P.info? (P.elem tt)).map (·.size)=some wd)(hm:z.toNat=m)(hb:0<=z/\z<=lo.length):bc P o s (.ls wd (lo.drop m)):=fun X f a w base _ _ hs=>by
 subst hm;have h1:=hs x bu;have h2:=hs y bu;rw[hx]at h1;rw[hy]at h2;simp only[SR,AR]at h1 h2;obtain⟨ad,c,h3,h4,h5⟩:=h1
 cases hq:P.info? (P.elem tt)with
 |none=>rw[hq]at hz;cases hz
 |some inf=>
  rw[hq]at hz;simp only[bK,af]at hz;have hlen:(lo.drop z.toNat).length=lo.length-z.toNat:=by rw[eu]
  have hr:(execOp a.eval o).run P w= .ok (.value (.slice (if c=z.toNat then ad else ad.map (·.add (z.toNat*wd))) (lo.length-z.toNat) (c-z.toNat))) w:=by
   unfold execOp;rw[ho];simp only[Option.map_none,bK,h3,h2.1];have hru:=run_underlying ht w;simp[Instr.sliceAt,Instr.slice,Instr.sliceBounds,Instr.sliceBound,asIntOf,hru,hb.1,hb.2,sizeOf,typeInfo,hq,hz]
  refine dw hr ?_;simp only[SR,AR];refine⟨_,c-z.toNat,by rw[hlen],by rw[hlen];omega,?_⟩;by_cases he:lo.drop z.toNat=[]
  ·exact .inl he
  ·have hlt:z.toNat<lo.length:=mD fun h=>he (qW h);rcases h5 with h5|⟨b,off,e,k1,k2,k3⟩
   ·rw[h5]at hlt;simp at hlt
   ·refine .inr ⟨b,off+z.toNat*wd,?_,k1,k2,ARs.mk fun i d hd=>?_⟩
    ·rw[aj aa,e,bK,cD]
    ·rw[iD]at hd;have:=ARs.at k3 hd;rw[bW,<-mF]at this;exact this
end
end DW
end
end Go.Proofs.YtepdigdijecgpaaGreat
