/- Lemmas for the law: DO E47 M12 M13 E40 V25 M5 V27 -/
import Derived.BigQuiet
import Derived.Test.YtcgjmdpcplhanaaGreatZg14
namespace Go.Proofs.YtcgjmdpcplhanaaGreat
section
open Go.RowKit
namespace DW
def rk(i:Nat):Nat:=1000000+i
def hds(n:Nat):List D:=(List.range n).map fun i=>.own (rk i)
def rws(T:TypeId)(wd:Nat)(g:List Int->List D):Nat->List (List Int)->List (Nat×Ow)
 |_,[]=>[]
 |k,r::M=>(rk k,⟨T,wd,g r⟩)::rws T wd g (k+1) M
theorem bW{T:TypeId}{wd:Nat}{g:List Int->List D}{p:Nat×Ow}:∀{M:List (List Int)} {k:Nat},p∈rws T wd g k M↔∃i r,M[i]?=some r/\p=(rk (k+i),⟨T,wd,g r⟩)
 |[],k=>⟨fun h=>(by cases h),fun ⟨i,r,h,_⟩=>(by simp at h)⟩
 |r::M,k=>by
  show p∈(rk k,⟨T,wd,g r⟩)::rws T wd g (k+1) M↔_;rw[List.mem_cons,bW (M:=M)];constructor
  ·rintro(rfl|⟨i,r',h,rfl⟩)
   ·exact⟨0,r,rfl,rfl⟩
   ·exact⟨i+1,r',by simpa using h,by rw[show k+1+i=k+(i+1) by omega]⟩
  ·rintro⟨i,r',h,rfl⟩
   cases i with
   |zero=>simp at h;subst h;exact .inl rfl
   |succ i=>exact .inr ⟨i,r',by simpa using h,by rw[show k+1+i=k+(i+1) by omega]⟩
theorem oI{i j:Nat}(h:rk i=rk j):i=j:=by unfold rk at h;omega
theorem Il{a b:Nat}(h:b<a):Nat.ble a b=false:=by
 cases hb:Nat.ble a b with
 |false=>rfl
 |true=>rw[Nat.ble_eq]at hb;omega
theorem Ij{a b:Nat}(h:a<b):Nat.blt a b=true:=by rw[Nat.blt_eq];exact h
theorem ble_t{a b:Nat}(h:a<=b):Nat.ble a b=true:=by rw[Nat.ble_eq];exact h
theorem rS{i:Nat}(h:i<900000):da (rk i)=true:=by
 unfold da rk;rw[ble_t (by omega),Ij (by omega)];rfl
theorem jC{i:Nat}(h:i<900000):hdr (rk i)=false:=by
 unfold hdr rk;rw[Il (by omega)];rfl
theorem wD{i:Nat}(h:i<900000):pin (rk i)=false:=by
 unfold pin rk;exact Il (by omega)
def ib(E:List (Nat×Ow)):Bool:=E.all fun p=>Nat.blt p.1 1000000
def wX:D->Bool
 | .own k=>Nat.blt k 1000000||Nat.beq k 2000000
 | .opt k _=>Nat.blt k 1000000||Nat.beq k 2000000
 |_=>true
def eC(sl:List (Nat×D)):Bool:=sl.all fun p=>wX p.2
theorem bX{E:List (Nat×Ow)}(h:ib E=true){p:Nat×Ow}(hp:p∈E):p.1<1000000:=by
 have:=List.all_eq_true.1 h p hp;rwa[Nat.blt_eq]at this
theorem cB:∀{sl:List (Nat×D)},eC sl=true->∀t,wX (look sl t)=true
 |[],_,_=>rfl
 |(u,d)::l,h,t=>by
  simp only[eC,List.all_cons,Bool.and_eq_true]at h;simp only[look];split
  ·exact h.1
  ·exact cB (sl:=l) h.2 t
theorem eD{d:D}{k:Nat}(h:wX d=true)(hk:1000000<=k)(hk2:k≠2000000):d.is k=false:=by
 have key:∀j:Nat,(Nat.blt j 1000000||Nat.beq j 2000000)=true->Nat.beq j k=false:=fun j hj=>by
  cases hb:Nat.beq j k with
  |false=>rfl
  |true=>
   have e:=Nat.eq_of_beq_eq_true hb;subst e;rw[Bool.or_eq_true,Nat.blt_eq]at hj;rcases hj with hj|hj
   ·omega
   ·exact absurd (Nat.eq_of_beq_eq_true hj) hk2
 cases d<;>first|rfl|exact key _ h
theorem pW{n i:Nat}(h:i<n):(hds n)[i]?=some (.own (rk i)):=by
 unfold hds;rw[List.getElem?_map,List.getElem?_range h];rfl
theorem gj(n:Nat):(hds n).length=n:=by simp[hds]
theorem pV{n k:Nat}:D.own k∈hds n↔∃i,i<n/\k=rk i:=by
 unfold hds;rw[List.mem_map];constructor
 ·rintro⟨i,hi,e⟩;cases e;exact⟨i,List.mem_range.1 hi,rfl⟩
 ·rintro⟨i,hi,rfl⟩;exact⟨i,List.mem_range.2 hi,rfl⟩
theorem fN{E:List (Nat×Ow)}(h:ib E=true){p:Nat×Ow}(hp:p∈E):hdr p.1=false:=il (Ij (bX h hp))
theorem xV{F:List (Nat×Ow)}{vs:Nat->Value}{p:Nat×Ow}(h:hdr p.1=false):bn F vs p=p:=by unfold bn;rw[h]
theorem mL{F:List (Nat×Ow)}{vs:Nat->Value}{E:List (Nat×Ow)}(h:ib E=true):E.map (bn F vs)=E:=by
 have:E.map (bn F vs)=E.map id:=List.map_congr_left fun p hp=>xV (fN h hp);rw[this,List.map_id]
theorem ud{F:List (Nat×Ow)}{k:Nat}(h:∀p∈F,1000000<=p.1)(hk:k<1000000):inK F k=false:=by
 cases hi:inK F k with
 |false=>rfl
 |true=>
  obtain⟨p,hp,rfl⟩:=bT.1 hi;have:=h p hp;omega
theorem gJ{F:List (Nat×Ow)}{k:Nat}(h:∀p∈F,p.1≠k):inK F k=false:=by
 cases hi:inK F k with
 |false=>rfl
 |true=>
  obtain⟨p,hp,e⟩:=bT.1 hi;exact absurd e (h p hp)
section
variable {P : Program} {X0 : Nat->Prop} {n : Nat} {Q : Exit->S->Prop} {s : S} {sl : List (Nat × D)} {T T1 : TypeId} {wd : Nat} {g : List Int->List D} {E : List (Nat × Ow)} {M : List (List Int)}
theorem qe{c:Code}(h:aW P X0 n c (fun ex s=>∃s2,Sh X0 n s s2/\Q ex s2) s):aW P X0 n c Q s:=fun w0 f a w hd=>
 Code.wp_mono (fun _ a' w' ⟨s',f',h1,s2,h2,h3⟩=>by
  obtain⟨f2,h4⟩:=h2 w0 f' a' w' h1;exact⟨s2,f2,h4,h3⟩) (h w0 f a w hd)
theorem rl{c:Code}(hM:M.length<=900000)(hE:ib E=true)(hsl:eC sl=true)
  (h:∀(X1:Nat->Prop) (L:List D),L.length=M.length->(∀d∈L,∃A m cc,d= .sc (.slice A m cc))->aW P X1 n c (fun ex s'=>∃sl' E',Sh X1 n s' ⟨sl',(2000000,⟨T1,1,L⟩)::E'⟩/\eC sl'=true/\ib E'=true/\ndK E'=true/\Q ex ⟨sl',(2000000,⟨T1,1,hds M.length⟩)::(E'++rws T wd g 0 M)⟩) ⟨sl,(2000000,⟨T1,1,L⟩)::E⟩):
  aW P X0 n c Q ⟨sl,(2000000,⟨T1,1,hds M.length⟩)::(E++rws T wd g 0 M)⟩:=by
 have hF:∀p∈rws T wd g 0 M,∃i,i<M.length/\p.1=rk i:=fun p hp=>by
  obtain⟨i,r,h1,rfl⟩:=bW.1 hp;exact⟨i,(List.getElem?_eq_some_iff.1 h1).1,by rw[Nat.zero_add]⟩
 have hF2:∀p∈rws T wd g 0 M,1000000<=p.1/\p.1<1900000:=fun p hp=>by
  obtain⟨i,hi,e⟩:=hF p hp;rw[e];unfold rk;omega
 have hdis:∀E':List (Nat×Ow),ib E'=true->∀p∈(2000000,(⟨T1,1,hds M.length⟩:Ow))::E',inK (rws T wd g 0 M) p.1=false:=fun E' hE' p hp=>by
  rcases List.mem_cons.1 hp with rfl|hp
  ·exact gJ fun q hq e=>by have:=hF2 q hq;simp only at e;omega
  ·exact ud (fun q hq=>(hF2 q hq).1) (bX hE' hp)
 refine xY (e:=(2000000,⟨T1,1,hds M.length⟩)::E) (F:=rws T wd g 0 M) (fun p hp=>?_) (hdis E hE) (fun p hp t=>?_) fun X1 vs hvs=>?_
 ·obtain⟨i,hi,e⟩:=hF p hp;rw[e];exact rS (by omega)
 ·have:=hF2 p hp;exact eD (cB hsl t) this.1 (by omega)
 ·have hL : ∀ d ∈ (hds M.length).map (cS (rws T wd g 0 M) vs), ∃ A m cc, d = .sc (.slice A m cc) := fun d hd => by
   obtain⟨d0,h0,rfl⟩:=List.mem_map.1 hd;obtain⟨i,hi,rfl⟩:=List.mem_map.1 h0;have hi':=List.mem_range.1 hi;obtain⟨r,hr⟩:∃r,M[i]?=some r:=⟨_,List.getElem?_eq_getElem hi'⟩;have hk:inK (rws T wd g 0 M) (rk i)=true:=bT.2 ⟨(rk (0+i),⟨T,wd,g r⟩),bW.2 ⟨i,r,hr,rfl⟩,by simp⟩;obtain⟨A,m,cc,e⟩:=hvs _ hk;refine⟨A,m,cc,?_⟩;show cS (rws T wd g 0 M) vs (.own (rk i))=_;simp only[cS,hk,e]
  have e0:bn (rws T wd g 0 M) vs (2000000,⟨T1,1,hds M.length⟩)=(2000000,⟨T1,1,(hds M.length).map (cS (rws T wd g 0 M) vs)⟩):=rfl;have key:=h X1 ((hds M.length).map (cS (rws T wd g 0 M) vs)) (by rw[List.length_map,gj]) hL;rw[List.map_cons,e0,mL hE];refine qe (key.mono fun ex s' ⟨sl',E',h1,h2,h3,h4,h5⟩=>⟨_,h1,(2000000,⟨T1,1,hds M.length⟩)::E',?_,?_,hdis E' h3,fun p hp t=>?_,h5⟩)
  ·rw[List.map_cons,e0,mL h3]
  ·simp only[ndK,h4,Bool.and_true,Bool.not_eq_true'];exact gJ fun q hq e=>by have:=bX h3 hq;(try simp only at e);omega
  ·have:=hF2 p hp;exact eD (cB h2 t) this.1 (by omega)
theorem zM{c:Code}{i:Nat}{r:List Int}(hr:M[i]?=some r)(hM:M.length<=900000)(hE:ib E=true)(hsl:eC sl=true)
  (h:∀(X1:Nat->Prop) (L:List D),L.length=M.length->L[i]?=some (.own 1900000)->aW P X1 n c (fun ex s'=>∃r' sl' E',Sh X1 n s' ⟨sl',(2000000,⟨T1,1,L⟩)::(1900000,⟨T,wd,g r'⟩)::E'⟩/\eC sl'=true/\ib E'=true/\ndK E'=true/\Q ex ⟨sl',(2000000,⟨T1,1,hds M.length⟩)::(E'++rws T wd g 0 (M.set i r'))⟩) ⟨sl,(2000000,⟨T1,1,L⟩)::(1900000,⟨T,wd,g r⟩)::E⟩):
  aW P X0 n c Q ⟨sl,(2000000,⟨T1,1,hds M.length⟩)::(E++rws T wd g 0 M)⟩:=by
 have hi:=(List.getElem?_eq_some_iff.1 hr).1;obtain⟨F,hFd⟩:∃F,F=(rws T wd g 0 M).filter fun p=>!Nat.beq p.1 (rk i):=⟨_,rfl⟩;have hFm:∀p,p∈F↔p∈rws T wd g 0 M/\p.1≠rk i:=fun p=>by
  rw[hFd,List.mem_filter];constructor
  ·rintro⟨h1,h2⟩;refine⟨h1,fun e=>?_⟩;rw[e,Nat.beq_refl]at h2;cases h2
  ·rintro⟨h1,h2⟩;refine⟨h1,?_⟩
   cases hb:Nat.beq p.1 (rk i)with
   |false=>rfl
   |true=>exact absurd (Nat.eq_of_beq_eq_true hb) h2
 have hF:∀p∈F,∃j,j<M.length/\j≠i/\p.1=rk j:=fun p hp=>by
  obtain⟨h0,h2⟩:=(hFm p).1 hp;obtain⟨j,r,h1,rfl⟩:=bW.1 h0;refine⟨j,(List.getElem?_eq_some_iff.1 h1).1,fun e=>h2 ?_,by rw[Nat.zero_add]⟩;rw[e,Nat.zero_add]
 have hF2:∀p∈F,1000000<=p.1/\p.1<1900000:=fun p hp=>by
  obtain⟨i,hi,_,e⟩:=hF p hp;rw[e];unfold rk;omega
 have hR2:∀p∈rws T wd g 0 M,1000000<=p.1/\p.1<1900000:=fun p hp=>by
  obtain⟨j,r,h1,rfl⟩:=bW.1 hp;have:=(List.getElem?_eq_some_iff.1 h1).1;unfold rk;simp only;omega
 have hri:1000000<=rk i/\rk i<1900000:=by unfold rk;omega
 have hH:hdr 2000000=true:=rfl;have hJm:∀k,1900000<=k->D.own k∉hds M.length:=fun k hk hm=>by
  obtain⟨j,hj,e⟩:=pV.1 hm;unfold rk at e;omega
 have hge:∀p∈F,hdr p.1=false:=fun p hp=>by
  obtain⟨j,hj,_,e⟩:=hF p hp;rw[e];exact jC (by omega)
 refine ak (s':=⟨sl,((2000000,⟨T1,1,(hds M.length).set i (.own 1900000)⟩)::(1900000,⟨T,wd,g r⟩)::E)++F⟩) (Ip (H:=2000000) (J:=1900000) (a:=rk i) (i:=i) (Tm:=T1) (L:=hds M.length) (q:=⟨T,wd,g r⟩) List.mem_cons_self (List.mem_cons_of_mem _ (List.mem_append_right _ (bW.2 ⟨i,r,hr,by rw[Nat.zero_add]⟩))) (pW hi) rfl rfl rfl (jC (by omega)) rfl (fun p hp=>?_) (fun t=>⟨eD (cB hsl t) hri.1 (by omega),eD (cB hsl t) (by omega) (by omega)⟩) fun p hp=>?_) ?_
 ·rcases List.mem_cons.1 hp with rfl|hp
  ·exact⟨by simp,fun _=>hJm _ (Nat.le_refl _)⟩
  ·rcases List.mem_append.1 hp with hp|hp
   ·have:=bX hE hp;exact⟨by omega,fun h=>by rw[fN hE hp]at h;cases h⟩
   ·have:=hR2 p hp;refine⟨by omega,fun h=>?_⟩;obtain⟨j,r,h1,rfl⟩:=bW.1 hp;have:=(List.getElem?_eq_some_iff.1 h1).1;rw[jC (by omega)]at h;cases h
 ·rcases List.mem_append.1 hp with hp|hp
  ·rcases List.mem_cons.1 hp with rfl|hp
   ·exact .inr (.inl rfl)
   ·rcases List.mem_cons.1 hp with rfl|hp
    ·exact .inl rfl
    ·have:=bX hE hp;exact .inr (.inr ⟨List.mem_cons_of_mem _ (List.mem_append_left _ hp),by omega,by omega⟩)
  ·obtain⟨h1,h2⟩:=(hFm p).1 hp;have:=hR2 p h1;exact .inr (.inr ⟨List.mem_cons_of_mem _ (List.mem_append_right _ h1),h2,by omega⟩)
 have hdis:∀(r':List Int) (E':List (Nat×Ow)),ib E'=true->∀p∈(2000000,(⟨T1,1,(hds M.length).set i (.own 1900000)⟩:Ow))::(1900000,⟨T,wd,g r'⟩)::E',inK F p.1=false:=fun r' E' hE' p hp=>by
  rcases List.mem_cons.1 hp with rfl|hp
  ·exact gJ fun q hq e=>by have:=hF2 q hq;simp only at e;omega
  ·rcases List.mem_cons.1 hp with rfl|hp
   ·exact gJ fun q hq e=>by have:=hF2 q hq;simp only at e;omega
   ·exact ud (fun q hq=>(hF2 q hq).1) (bX hE' hp)
 have hJF:inK F 1900000=false:=gJ fun q hq e=>by have:=hF2 q hq;omega
 refine qe (xY (fun p hp=>?_) (hdis r E hE) (fun p hp t=>?_) fun X1 vs hvs=>?_)
 ·obtain⟨j,hj,_,e⟩:=hF p hp;rw[e];exact rS (by omega)
 ·have:=hF2 p hp;exact eD (cB hsl t) this.1 (by omega)
 ·have e0:bn F vs (2000000,⟨T1,1,(hds M.length).set i (.own 1900000)⟩)=(2000000,⟨T1,1,((hds M.length).set i (.own 1900000)).map (cS F vs)⟩):=rfl;have e1:∀r':List Int,bn F vs (1900000,⟨T,wd,g r'⟩)=(1900000,⟨T,wd,g r'⟩):=fun r'=>xV rfl;have key:=h X1 (((hds M.length).set i (.own 1900000)).map (cS F vs)) (by rw[List.length_map,List.length_set,gj]) (by
   rw[List.getElem?_map,List.getElem?_set,if_pos rfl,gj,if_pos hi];simp only[Option.map_some,cS,hJF])
  rw[List.map_cons,List.map_cons,e0,e1,mL hE];refine qe (key.mono fun ex s' ⟨r',sl',E',h1,h2,h3,h4,h5⟩=>⟨_,h1,(2000000,⟨T1,1,(hds M.length).set i (.own 1900000)⟩)::(1900000,⟨T,wd,g r'⟩)::E',?_,?_,hdis r' E' h3,fun p hp t=>?_,_,?_,h5⟩)
  ·rw[List.map_cons,List.map_cons,e0,e1,mL h3]
  ·have a1:inK E' 1900000=false:=gJ fun q hq e=>by have:=bX h3 hq;omega
   have a2:inK ((1900000,(⟨T,wd,g r'⟩:Ow))::E') 2000000=false:=gJ fun q hq e=>by
    rcases List.mem_cons.1 hq with rfl|hq
    ·simp at e
    ·have:=bX h3 hq;omega
   simp only[ndK,h4,a1,a2,Bool.and_true,Bool.not_false]
  ·have:=hF2 p hp;exact eD (cB h2 t) this.1 (by omega)
  ·refine Ip (H:=2000000) (J:=rk i) (a:=1900000) (i:=i) (Tm:=T1) (L:=(hds M.length).set i (.own 1900000)) (q:=⟨T,wd,g r'⟩) List.mem_cons_self (List.mem_cons_of_mem _ List.mem_cons_self) (by rw[List.getElem?_set,if_pos rfl,gj,if_pos hi]) rfl (rS (by omega)) (wD (by omega)) rfl (jC (by omega)) (fun p hp=>?_) (fun t=>⟨eD (cB h2 t) (by omega) (by omega),eD (cB h2 t) hri.1 (by omega)⟩) fun p hp=>?_
   ·rcases List.mem_append.1 hp with hp|hp
    ·rcases List.mem_cons.1 hp with rfl|hp
     ·refine⟨by simp only;omega,fun _ hm=>?_⟩;obtain⟨k,hk,e⟩:=List.getElem_of_mem hm;rw[List.getElem_set]at e;split at e
      ·injection e with e;omega
      ·next hne=>
       have:=pW (n:=M.length) (i:=k) (by rw[List.length_set,gj]at hk;exact hk);rw[List.getElem?_eq_getElem (by rw[List.length_set]at hk;exact hk),e]at this;injection this with this;injection this with this;first|exact hne (oI this).symm|exact hne (oI this)
     ·rcases List.mem_cons.1 hp with rfl|hp
      ·exact⟨by simp only;omega,fun h=>by cases h⟩
      ·have:=bX h3 hp;exact⟨by omega,fun h=>by rw[fN h3 hp]at h;cases h⟩
    ·exact⟨((hFm p).1 hp).2,fun h=>by rw[hge p hp]at h;cases h⟩
   ·rcases List.mem_cons.1 hp with rfl|hp
    ·refine .inr (.inl ?_);congr 2;rw[List.set_set];refine List.ext_getElem? fun k=>?_;rw[List.getElem?_set];split
     ·next e=>subst e;rw[gj,if_pos hi,pW hi]
     ·rfl
    ·rcases List.mem_append.1 hp with hp|hp
     ·have:=bX h3 hp;exact .inr (.inr ⟨List.mem_append_left _ (List.mem_cons_of_mem _ (List.mem_cons_of_mem _ hp)),by omega,by omega⟩)
     ·obtain⟨k,q,h6,rfl⟩:=bW.1 hp;rw[List.getElem?_set]at h6;by_cases e:i=k
      ·rw[if_pos e,if_pos hi]at h6;cases h6;subst e;exact .inl (by rw[Nat.zero_add])
      ·rw[if_neg e]at h6;have hk:=(List.getElem?_eq_some_iff.1 h6).1;refine .inr (.inr ⟨List.mem_append_right _ ((hFm _).2 ⟨bW.2 ⟨k,q,h6,rfl⟩,fun e2=>e ?_⟩),?_,?_⟩)
       ·simp only[Nat.zero_add]at e2;exact(oI e2).symm
       ·unfold rk;simp only;omega
       ·unfold rk;simp only;omega
def nZ(F:List (Nat×Ow))(vs:Nat->Value):List (Nat×D)->List (Nat×D)
 |[]=>[]
 |(t,d)::l=>(t,cS F vs d)::nZ F vs l
theorem uQ(F:List (Nat×Ow))(vs:Nat->Value):∀(l:List (Nat×D)) (t:Nat),look (nZ F vs l) t=cS F vs (look l t)
 |[],_=>rfl
 |(u,d)::l,t=>by
  simp only[nZ,look];split
  ·rfl
  ·exact uQ F vs l t
theorem Et{c:Code}{e F:List (Nat×Ow)}(hF:∀p∈F,da p.1=true)(hd:∀p∈e,inK F p.1=false)(hs:∀p∈F,∀t off,look sl t≠ .opt p.1 off)
  (h:∀(X1:Nat->Prop) (vs:Nat->Value),(∀j,inK F j=true->∃A m c,vs j= .slice A m c)->
   aW P X1 n c (fun ex s'=>∃e',s'.ow=e'.map (bn F vs)/\ndK e'=true/\(∀p∈e',inK F p.1=false)/\(∀p∈F,∀t,(look s'.sl t).is p.1=false)/\Q ex ⟨s'.sl,e'++F⟩) ⟨nZ F vs sl,e.map (bn F vs)⟩):aW P X0 n c Q ⟨sl,e++F⟩:=fun w0 f a w hh=>by
 have hin:∀p∈F,inK F p.1=true:=fun p hp=>bT.2 ⟨p,hp,rfl⟩;have hme:∀p∈e,p∈e++F:=fun p hp=>List.mem_append_left _ hp;have hmF:∀p∈F,p∈e++F:=fun p hp=>List.mem_append_right _ hp;have hne:∀p∈e,∀q∈F,p.1≠q.1:=fun p hp q hq e'=>by
  have:=hd p hp;rw[e',hin q hq]at this;cases this
 have hdF:∀b,blk f e b->¬blk f F b:=fun b ⟨p,hp,e1⟩ ⟨q,hq,e2⟩=>hh.dj p (hme p hp) q (hmF q hq) (hne p hp q hq) b e1 e2;have hX0:∀b,X0 b->¬blk f (e++F) b:=fun b hb ⟨p,hp,e1⟩=>by
  rcases hh.lo p hp b e1 with h2|h2
  ·exact absurd (hh.x0 b hb).1 (by omega)
  ·exact hh.xy b hb h2
 have hap:∀{p:Nat×Ow} {l:List (Nat×Ow)},p∈l.map (bn F f)↔∃q∈l,bn F f q=p:=fun {p l}=>List.mem_map;have hXe:∀b,XO (fun b=>X0 b\/blk f F b) ⟨nZ F f sl,e.map (bn F f)⟩ f b->XO X0 ⟨sl,e++F⟩ f b:=fun b hb=>by
  rcases hb with(hb|⟨p,hp,e1⟩)|⟨p,hp,e1⟩
  ·exact .inl hb
  ·exact .inr ⟨p,hmF p hp,e1⟩
  ·obtain⟨q,hq,rfl⟩:=List.mem_map.1 hp;rw[aV]at e1;exact .inr ⟨q,hme q hq,e1⟩
 have hslF:∀j,inK F j=true->∃A m c,f j= .slice A m c:=fun j hj=>by
  obtain⟨p,hp,rfl⟩:=bT.1 hj;exact wi (s:=⟨sl,e++F⟩) hh (hmF p hp)
 have h1:Hd (fun b=>X0 b\/blk f F b) n ⟨w,blk f e,f⟩ ⟨nZ F f sl,e.map (bn F f)⟩ f a w:=by
  refine⟨hh.sz,hh.df,Gr.refl _ _,fun b hb=>hh.xlt b ?_,fun b hb he=>?_,fun _ _=>rfl,fun p hp b e1=>?_,fun t=>?_,fun p hp=>?_,fun b ⟨p,hp,e1⟩=>?_,fun p hp q hq hpq b e1 e2=>?_,fun p hp q hq e1=>?_⟩
  ·rcases hb with hb|⟨p,hp,e1⟩
   ·exact .inl hb
   ·exact .inr ⟨p,hmF p hp,e1⟩
  ·rcases hb with hb|hb
   ·exact hX0 b hb (he.elim fun p hp=>⟨p,hme p hp.1,hp.2⟩)
   ·exact hdF b he hb
  ·obtain⟨q,hq,rfl⟩:=List.mem_map.1 hp;rw[aV]at e1;exact .inr ⟨q,hq,e1⟩
  ·have h2:SR (XO X0 ⟨sl,e++F⟩ f) f w (look sl t) (a.tmps.getD t undef):=hh.sl t;show SR _ _ _ (look (nZ F f sl) t) _;rw[uQ]
   cases hd:look sl t with
   |own j=>
    rw[hd]at h2;simp only[SR]at h2
    cases hi:inK F j with
    |false=>simp only[cS,hi,SR];exact h2
    |true=>
     obtain⟨A,m,cc,e2⟩:=hslF j hi;simp only[cS,hi,SR,AR];exact⟨h2,by rw[e2];rfl⟩
   |opt j off=>rw[hd]at h2;exact h2
   |_=>rw[hd]at h2;exact AR.free h2 (fun b _ hb=>hXe b hb)
  ·obtain⟨q,hq,rfl⟩:=List.mem_map.1 hp;obtain⟨k0,zs,k1,k2⟩:=hh.ow q (hme q hq);obtain⟨a1,a2,a3⟩:=oa F f q;refine⟨by rw[a2];exact k0,zs,by rw[a1,a2,a3,aV];exact k1,?_⟩;exact EE.agr (Agr.refl _ w) (fun b _ hb=>hXe b hb) (fun _ _=>rfl) (k2.abs fun _ _=>rfl)
  ·obtain⟨q,hq,rfl⟩:=List.mem_map.1 hp;rw[aV]at e1;exact hh.nw b ⟨q,hme q hq,e1⟩
  ·obtain⟨q1,hq1,rfl⟩:=List.mem_map.1 hp;obtain⟨q2,hq2,rfl⟩:=List.mem_map.1 hq;rw[aV,aV]at hpq;rw[aV]at e1 e2;exact hh.dj q1 (hme q1 hq1) q2 (hme q2 hq2) hpq b e1 e2
  ·obtain⟨q1,hq1,rfl⟩:=List.mem_map.1 hp;obtain⟨q2,hq2,rfl⟩:=List.mem_map.1 hq;rw[aV,aV]at e1;rw[hh.un q1 (hme q1 hq1) q2 (hme q2 hq2) e1]
 refine Code.wp_mono (fun ex a' w' ⟨s',f',h2,e',h3,h9,h4,h5,h6⟩=>?_) (h _ f hslF ⟨w,blk f e,f⟩ f a w h1);obtain⟨sl',ow'⟩:=s';simp only at h3 h5 h6;subst h3;have hg:Gr (blk f e) w w':=h2.bl;have hbk:∀p∈e',∀b,(f' p.1).ownBlock=some b->w.heap.size<=b\/blk f e b:=fun p hp b e1=>h2.lo (bn F f p) (List.mem_map.2 ⟨p,hp,rfl⟩) b (by rw[aV];exact e1);have hlF:∀p∈F,∀b,(f p.1).ownBlock=some b->b<w.heap.size:=fun p hp b e1=>((hh.ow p (hmF p hp)).lt e1).2;have f2e:∀p∈e',(if inK F p.1 then f p.1 else f' p.1)=f' p.1:=fun p hp=>if_neg (by rw[h4 p hp];simp);have f2F:∀p∈F,(if inK F p.1 then f p.1 else f' p.1)=f p.1:=fun p hp=>if_pos (hin p hp);have hagF:Agr (XO X0 ⟨sl,e++F⟩ f) w w':=hg.agr (fun b ⟨p,hp,e1⟩=>hh.nw b ⟨p,hme p hp,e1⟩) (fun b ⟨p,hp,e1⟩=> .inr ⟨p,hme p hp,e1⟩);have hX2:∀b,XO X0 ⟨sl',e'++F⟩ (fun j=>if inK F j then f j else f' j) b->X0 b\/blk f' e' b\/blk f F b:=fun b hb=>by
  rcases hb with hb|⟨p,hp,e1⟩
  ·exact .inl hb
  ·rcases List.mem_append.1 hp with hp|hp
   ·simp only[f2e p hp]at e1;exact .inr (.inl ⟨p,hp,e1⟩)
   ·simp only[f2F p hp]at e1;exact .inr (.inr ⟨p,hp,e1⟩)
 have hXs:∀b,XO X0 ⟨sl',e'++F⟩ (fun j=>if inK F j then f j else f' j) b->XO (fun b=>X0 b\/blk f F b) ⟨sl',e'.map (bn F f)⟩ f' b:=fun b hb=>by
  rcases hX2 b hb with h7|⟨p,hp,e1⟩|h7
  ·exact .inl (.inl h7)
  ·exact .inr ⟨bn F f p,List.mem_map.2 ⟨p,hp,rfl⟩,by rw[aV];exact e1⟩
  ·exact .inl (.inr h7)
 have hXw:∀b,b<w.heap.size->XO X0 ⟨sl',e'++F⟩ (fun j=>if inK F j then f j else f' j) b->XO X0 ⟨sl,e++F⟩ f b:=fun b hb hx=>by
  rcases hX2 b hx with h7|⟨p,hp,e1⟩|⟨p,hp,e1⟩
  ·exact .inl h7
  ·rcases hbk p hp b e1 with h8|⟨q,hq,e2⟩
   ·omega
   ·exact .inr ⟨q,hme q hq,e2⟩
  ·exact .inr ⟨p,hmF p hp,e1⟩
 have hFno:∀p∈F,∀b,(f p.1).ownBlock=some b->¬blk f e b:=fun p hp b e1 he=>hdF b he ⟨p,hp,e1⟩;have hcr:∀p∈e',∀q∈F,∀b,(f' p.1).ownBlock=some b->(f q.1).ownBlock=some b->False:=fun p hp q hq b e1 e2=>by
  rcases hbk p hp b e1 with h8|h8
  ·have:=hlF q hq b e2;omega
  ·exact hFno q hq b e2 h8
 refine⟨⟨sl',e'++F⟩,fun j=>if inK F j then f j else f' j,?_,h6⟩;refine⟨h2.sz,h2.df,hh.bl.trans hg fun b ⟨p,hp,e1⟩=>hh.lo p (hme p hp) b e1,hh.x0,hh.xy,fun j hj=>?_,fun p hp b e1=>?_,fun t=>?_,fun p hp=>?_,fun b ⟨p,hp,e1⟩=>?_,fun p hp q hq hpq b e1 e2=>?_,fun p hp q hq e1=>?_⟩
 ·show(if inK F j then f j else f' j)=_;split
  ·exact hh.fx j hj
  ·exact(h2.fx j hj).trans (hh.fx j hj)
 ·rcases List.mem_append.1 hp with hp|hp
  ·simp only[f2e p hp]at e1;rcases hbk p hp b e1 with h8|⟨q,hq,e2⟩
   ·exact .inl (by have:=hh.bl.size;omega)
   ·exact hh.lo q (hme q hq) b e2
  ·simp only[f2F p hp]at e1;exact hh.lo p (hmF p hp) b e1
 ·have h7:SR (XO (fun b=>X0 b\/blk f F b) ⟨sl',e'.map (bn F f)⟩ f') f' w' (look sl' t) (a'.tmps.getD t undef):=h2.sl t;show SR _ _ _ (look sl' t) _;have h8:∀k,(look sl' t).is k=true->(if inK F k then f k else f' k)=f' k:=fun k hk=>by
   cases hi:inK F k with
   |false=>simp
   |true=>
    obtain⟨p,hp,rfl⟩:=bT.1 hi;rw[h5 p hp t]at hk;cases hk
  cases hd:look sl' t with
  |own k=>rw[hd]at h7 h8;simp only[SR]at h7⊢;rw[h8 k tu];exact h7
  |opt k off=>rw[hd]at h7 h8;simp only[SR]at h7⊢;rw[h8 k tu];exact h7
  |_=>rw[hd]at h7;exact AR.free h7 (fun b _ hb=>hXs b hb)
 ·rcases List.mem_append.1 hp with hp|hp
  ·obtain⟨k0,zs,k1,k2⟩:=h2.ow (bn F f p) (List.mem_map.2 ⟨p,hp,rfl⟩);obtain⟨a1,a2,a3⟩:=oa F f p;rw[a2]at k0;rw[a1,a2,a3,aV]at k1;refine⟨k0,zs,by simp only[f2e p hp];exact k1,?_⟩;refine EE.agr (Agr.refl _ w') (fun b _ hb=>hXs b hb) (fun _ _=>rfl) (EE.Hp (f:=f') (F:=F) (vs:=f) (fun j hj=>⟨by simp only[hj,if_true],?_,hslF j hj⟩) (fun j hj=>by simp[hj]) k2);obtain⟨q,hq,rfl⟩:=bT.1 hj;exact hF q hq
  ·obtain⟨k0,zs,k1,k2⟩:=hh.ow p (hmF p hp);refine⟨k0,zs,?_,?_⟩
   ·simp only[f2F p hp]
    cases hv:(f p.1).ownBlock with
    |none=>exact kB k1 hv
    |some g=>exact kv k1 hv (hg.block g (hlF p hp g hv) (hFno p hp g hv))
   ·have hr:=hF p hp;have hh0:hdr p.1=false:=by
     simp only[da,Bool.or_eq_true,Bool.and_eq_true,Nat.ble_eq,Nat.blt_eq]at hr;unfold hdr
     cases h10:Nat.ble 2000000 p.1 with
     |false=>rfl
     |true=>
      rw[Nat.ble_eq]at h10;have ha:Nat.blt p.1 3000000=false:=by
       cases hb:Nat.blt p.1 3000000 with
       |false=>rfl
       |true=>rw[Nat.blt_eq]at hb;omega
      have hb:Nat.ble 4000000 p.1=false:=by
       cases hb:Nat.ble 4000000 p.1 with
       |false=>rfl
       |true=>rw[Nat.ble_eq]at hb;omega
      rw[ha,hb];rfl
    exact EE.of (Els.agr hagF hXw (k2.pl hh0)) hh0
 ·rcases List.mem_append.1 hp with hp|hp
  ·simp only[f2e p hp]at e1;exact h2.nw b ⟨bn F f p,List.mem_map.2 ⟨p,hp,rfl⟩,by rw[aV];exact e1⟩
  ·simp only[f2F p hp]at e1;intro m hm;have:w'.cell? ⟨b,0,none⟩=w.cell? ⟨b,0,none⟩:=World.cell?_of_block (hg.block b (hlF p hp b e1) (hFno p hp b e1));rw[this]at hm;exact hh.nw b ⟨p,hmF p hp,e1⟩ m hm
 ·rcases List.mem_append.1 hp with hp|hp<;>rcases List.mem_append.1 hq with hq|hq
  ·simp only[f2e p hp,f2e q hq]at e1 e2;exact h2.dj (bn F f p) (List.mem_map.2 ⟨p,hp,rfl⟩) (bn F f q) (List.mem_map.2 ⟨q,hq,rfl⟩) (by rw[aV,aV];exact hpq) b (by rw[aV];exact e1) (by rw[aV];exact e2)
  ·simp only[f2e p hp,f2F q hq]at e1 e2;exact hcr p hp q hq b e1 e2
  ·simp only[f2F p hp,f2e q hq]at e1 e2;exact hcr q hq p hp b e2 e1
  ·simp only[f2F p hp,f2F q hq]at e1 e2;exact hh.dj p (hmF p hp) q (hmF q hq) hpq b e1 e2
 ·have hk : ∀ p ∈ e', ∀ q ∈ F, p.1 = q.1 -> False := fun p hp q hq e2 => by
   have:=h4 p hp;rw[e2,hin q hq]at this;cases this
  rcases List.mem_append.1 hp with hp|hp<;>rcases List.mem_append.1 hq with hq|hq
  ·exact wO h9 p hp q hq e1
  ·exact(hk p hp q hq e1).elim
  ·exact(hk q hq p hp e1.symm).elim
  ·exact hh.un p (hmF p hp) q (hmF q hq) e1
theorem Sh_hp{H b:Nat}{L:List D}{ow ow':List (Nat×Ow)}(hH:(H,(⟨T1,1,L⟩:Ow))∈ow)(hL:∀d∈L,∃A m cc,d= .sc (.slice A m cc))(hb:pin b=false)(hbh:hdr b=false)(hf:∀p∈ow,p.1≠b/\(hdr p.1=true->.own b∉p.2.l))(hs:∀t,(look sl t).is b=false)
  (ho:∀p∈ow',p=(b,⟨T1,1,L⟩)\/(p∈ow/\p.1≠H)):Sh X0 n ⟨sl,ow⟩ ⟨mvS H b sl,ow'⟩:=fun w0 f ac w h=>by
 refine⟨fun j=>if j=b then f H else f j,h.re (fun k=>if k=b then H else k) (fun p hp=>?_) (fun p hp p2 hp2 e=>?_) (fun t X v hv=>?_) fun j hj=>if_neg fun e=>by rw[e,hb]at hj;cases hj⟩
 ·rcases ho p hp with rfl|⟨h1,h2⟩
  ·refine⟨⟨T1,1,L⟩,by simp only[if_true];exact hH,by simp,rfl,rfl,rfl,fun X xs hx=>?_⟩;simp only[if_true]at hx;refine EE.of ?_ hbh;unfold EE at hx;have key:∀(l:List D) (xs:List Value),(∀d∈l,∃A m cc,d= .sc (.slice A m cc))->ElH X f w l xs->Els X w 1 l xs:=fun l=>by
    induction l with
    |nil=>exact fun xs _ h=>h
    |cons d l ih=>
     rintro xs hd ⟨u,rest,h1,h2,h3,h4,h5,h6,h7⟩;obtain⟨A,m,cc,rfl⟩:=hd d List.mem_cons_self;exact⟨u,rest,by rw[h1,h3];rfl,h4.1,h4.2,h5,rfl,ih rest (fun d hd'=>hd d (List.mem_cons_of_mem _ hd')) h7⟩
   cases hh:hdr H with
   |false=>rw[hh]at hx;exact hx
   |true=>rw[hh]at hx;exact key L xs hL hx.2
  ·have hkb:=(hf _ h1).1;refine⟨p.2,by simp only[if_neg hkb];exact h1,by simp only[if_neg hkb],rfl,rfl,rfl,fun X xs hx=>?_⟩;simp only[if_neg hkb]at hx;exact hx.re fun hh j _ hj=>if_neg fun e=>(hf _ h1).2 hh (by rw[<-e];exact hj)
 ·rcases ho p hp with rfl|⟨h1,h2⟩<;>rcases ho p2 hp2 with rfl|⟨h3,h4⟩
  ·rfl
  ·rw[if_pos rfl,if_neg (hf _ h3).1]at e;exact absurd e.symm h4
  ·rw[if_pos rfl,if_neg (hf _ h1).1]at e;exact absurd e h2
  ·rw[if_neg (hf _ h1).1,if_neg (hf _ h3).1]at e;exact h.un p h1 p2 h3 e
 ·show SR X _ w (look (mvS H b sl) t) v;rw[nF];have hv':SR X f w (look sl t) v:=hv;have h2:=hs t
  cases hd:look sl t with
  |own j=>
   rw[hd]at hv' h2;simp only[SR]at hv';simp only[mvD]
   cases hja:Nat.beq j H with
   |true=>simp only[SR,if_true];rw[<-Nat.eq_of_beq_eq_true hja];exact hv'
   |false=>simp only[SR];rw[if_neg fun e=>by rw[e]at h2;simp[D.is,Nat.beq_refl]at h2];exact hv'
  |opt j off=>
   rw[hd]at hv' h2;simp only[SR]at hv';simp only[mvD]
   cases hja:Nat.beq j H with
   |true=>simp only[SR,if_true];rw[<-Nat.eq_of_beq_eq_true hja];exact hv'
   |false=>simp only[SR];rw[if_neg fun e=>by rw[e]at h2;simp[D.is,Nat.beq_refl]at h2];exact hv'
  |_=>rw[hd]at hv';exact hv'
def mY(κ:Nat)(v:Value):List (Nat×D)->List (Nat×D)
 |[]=>[]
 |(t,d)::l=>(t,match d with
  | .own j=>(match Nat.beq j κ with|true=>.sc v|false=>.own j)
  |d=>d)::mY κ v l
def sa(κ:Nat)(sl:List (Nat×D)):Bool:=sl.all fun p=>match p.2 with
 | .opt j _=>!Nat.beq j κ
 |_=>true
theorem rZ{κ:Nat}:∀{sl:List (Nat×D)},sa κ sl=true->∀t off,look sl t≠ .opt κ off
 |[],_,_,_=>by simp[look]
 |(u,d)::l,h,t,off=>by
  simp only[sa,List.all_cons,Bool.and_eq_true]at h;simp only[look];split
  ·intro e;rw[e]at h;simp[Nat.beq_refl]at h
  ·exact rZ (sl:=l) h.2 t off
theorem yZ{k:Nat}(hk:1000000<=k)(hk2:k≠2000000):∀{sl:List (Nat×D)},eC sl=true->noS k sl=true
 |[],_=>rfl
 |(u,d)::l,h=>by
  simp only[eC,List.all_cons,Bool.and_eq_true]at h;simp only[noS,List.all_cons,Bool.and_eq_true,Bool.not_eq_true'];exact⟨eD h.1 hk hk2,yZ hk hk2 (sl:=l) h.2⟩
theorem zi:∀{sl:List (Nat×D)},eC sl=true->eC (mvS 30 2000000 sl)=true
 |[],_=>rfl
 |(u,d)::l,h=>by
  simp only[eC,List.all_cons,Bool.and_eq_true]at h;simp only[mvS,eC,List.all_cons,Bool.and_eq_true];refine⟨?_,zi (sl:=l) h.2⟩
  cases d with
  |own j=>simp only[mvD];cases Nat.beq j 30 with
   |true=>rfl
   |false=>exact h.1
  |opt j off=>simp only[mvD];cases Nat.beq j 30 with
   |true=>rfl
   |false=>exact h.1
  |_=>exact h.1
theorem lowK{j:Nat}(h:(Nat.blt j 1000000||Nat.beq j 2000000)=true):j<1000000\/j=2000000:=by
 rw[Bool.or_eq_true,Nat.blt_eq]at h;exact h.imp id Nat.eq_of_beq_eq_true
theorem zK{F:List (Nat×Ow)}{vs:Nat->Value}{κ b:Nat}(hF:∀p∈F,1000000<=p.1/\p.1≠2000000)(hb:inK F b=true):∀{sl:List (Nat×D)},eC sl=true->sa κ sl=true->nZ F vs (mvS κ b sl)=mY κ (vs b) sl
 |[],_,_=>rfl
 |(u,d)::l,h,h2=>by
  simp only[eC,List.all_cons,Bool.and_eq_true]at h;simp only[sa,List.all_cons,Bool.and_eq_true]at h2;simp only[mvS,nZ,mY];rw[zK hF hb (sl:=l) h.2 h2.2];congr 2
  cases d with
  |own j=>
   simp only[mvD]
   cases Nat.beq j κ with
   |true=>simp only[cS,hb]
   |false=>
    have hj:inK F j=false:=gJ fun p hp e=>by
     have:=hF p hp;rcases lowK h.1 with h3|h3<;>omega
    simp only[cS,hj]
  |opt j off=>
   simp only[mvD];have h3:=h2.1;simp only[Bool.not_eq_true']at h3;rw[h3];rfl
  |_=>rfl
theorem J3{c:Code}{κ:Nat}{r:List Int}(hM:M.length<900000)(hκ:Nat.blt κ 1000000=true)(hE:ib E=true)(hEκ:inK E κ=false)(hE30:inK E 30=false)(hsl:eC sl=true)(hso:sa κ sl=true)(hs30:noS 30 sl=true)
  (h:∀(X1:Nat->Prop) (L:List D) (A:Option Addr) (m cc:Nat),L.length=M.length->aW P X1 n c (fun ex s'=>∃sl' E',Sh X1 n s' ⟨sl',(30,⟨T1,1,L++[.sc (.slice A m cc)]⟩)::E'⟩/\eC sl'=true/\noS 2000000 sl'=true/\ib E'=true/\ndK E'=true/\inK E' 30=false/\Q ex ⟨mvS 30 2000000 sl',(2000000,⟨T1,1,hds (M.length+1)⟩)::(E'++rws T wd g 0 (M++[r]))⟩) ⟨mvS 2000000 30 (mY κ (.slice A m cc) sl),(30,⟨T1,1,L⟩)::E⟩):
  aW P X0 n c Q ⟨sl,(2000000,⟨T1,1,hds M.length⟩)::(((κ,⟨T,wd,g r⟩)::E)++rws T wd g 0 M)⟩:=by
 have hκ':κ<1000000:=by rwa[Nat.blt_eq]at hκ
 obtain⟨N,hN⟩:∃N,N=M++[r]:=⟨_,rfl⟩;have hNl:N.length=M.length+1:=by rw[hN];simp
 have hNr:N[M.length]?=some r:=by rw[hN];simp
 have hF:∀p∈rws T wd g 0 N,∃i,i<N.length/\p.1=rk i:=fun p hp=>by
  obtain⟨i,r,h1,rfl⟩:=bW.1 hp;exact⟨i,(List.getElem?_eq_some_iff.1 h1).1,by rw[Nat.zero_add]⟩
 have hF2:∀p∈rws T wd g 0 N,1000000<=p.1/\p.1<1900001:=fun p hp=>by
  obtain⟨i,hi,e⟩:=hF p hp;rw[e];unfold rk;omega
 have hri:rk M.length=1000000+M.length:=rfl;have hMm:∀p∈rws T wd g 0 M,∃i,i<M.length/\p.1=rk i/\p∈rws T wd g 0 N:=fun p hp=>by
  obtain⟨i,r',h1,rfl⟩:=bW.1 hp;have hi:=(List.getElem?_eq_some_iff.1 h1).1;exact⟨i,hi,by rw[Nat.zero_add],bW.2 ⟨i,r',by rw[hN,List.getElem?_append_left hi];exact h1,rfl⟩⟩
 refine ak (s':=⟨mvS κ (rk M.length) sl,((2000000,⟨T1,1,hds M.length⟩)::E)++rws T wd g 0 N⟩) (B1 (q:=⟨T,wd,g r⟩) (List.mem_cons_of_mem _ (List.mem_append_left _ List.mem_cons_self)) (wD hM) (.inl (by rw[jC hM,il hκ])) (fun p hp=>?_) (yZ (by omega) (by omega) hsl) fun p hp=>?_) ?_
 ·rcases List.mem_cons.1 hp with rfl|hp
  ·refine⟨by simp only;omega,fun _ hm=>?_⟩;obtain⟨j,hj,e⟩:=pV.1 hm;have:=oI e;omega
  ·rcases List.mem_append.1 hp with hp|hp
   ·rcases List.mem_cons.1 hp with rfl|hp
    ·exact⟨by simp only;omega,fun h=>by rw[il hκ]at h;cases h⟩
    ·have:=bX hE hp;exact⟨by omega,fun h=>by rw[fN hE hp]at h;cases h⟩
   ·obtain⟨i,hi,e,_⟩:=hMm p hp;refine⟨fun e2=>?_,fun h=>by rw[e,jC (by omega)]at h;cases h⟩;rw[e]at e2;have:=oI e2;omega
 ·rcases List.mem_append.1 hp with hp|hp
  ·rcases List.mem_cons.1 hp with rfl|hp
   ·exact .inr ⟨List.mem_cons_self,by simp only;omega⟩
   ·refine .inr ⟨List.mem_cons_of_mem _ (List.mem_append_left _ (List.mem_cons_of_mem _ hp)),fun e=>?_⟩;have:=bT.2 ⟨p,hp,e⟩;rw[hEκ]at this;cases this
  ·obtain⟨i,r',h1,rfl⟩:=bW.1 hp;by_cases e:i=M.length
   ·rw[e,hNr]at h1;cases h1;exact .inl (by rw[e,Nat.zero_add])
   ·have hi:=(List.getElem?_eq_some_iff.1 h1).1;rw[hN,List.getElem?_append_left (by omega)]at h1;refine .inr ⟨List.mem_cons_of_mem _ (List.mem_append_right _ (bW.2 ⟨i,r',h1,rfl⟩)),?_⟩;unfold rk;simp only;omega
 have hdis:∀(k:Nat) (E':List (Nat×Ow)),ib E'=true->∀p∈(2000000,(⟨T1,1,hds k⟩:Ow))::E',inK (rws T wd g 0 N) p.1=false:=fun k E' hE' p hp=>by
  rcases List.mem_cons.1 hp with rfl|hp
  ·exact gJ fun q hq e=>by have:=hF2 q hq;simp only at e;omega
  ·exact ud (fun q hq=>(hF2 q hq).1) (bX hE' hp)
 have hrow:∀p∈rws T wd g 0 N,da p.1=true:=fun p hp=>by
  obtain⟨i,hi,e⟩:=hF p hp;rw[e];exact rS (by omega)
 have hkey:∀i,i<N.length->inK (rws T wd g 0 N) (rk i)=true:=fun i hi=>by
  obtain⟨r',h1⟩:∃r',N[i]?=some r':=⟨_,List.getElem?_eq_getElem hi⟩;exact bT.2 ⟨(rk (0+i),⟨T,wd,g r'⟩),bW.2 ⟨i,r',h1,rfl⟩,by simp⟩
 refine Et (e:=(2000000,⟨T1,1,hds M.length⟩)::E) (F:=rws T wd g 0 N) hrow (hdis _ E hE) (fun p hp t off e=>?_) fun X1 vs hvs=>?_
 ·rw[nF]at e;have hlow:=cB hsl t;have hno:=rZ hso t;have:=hF2 p hp
  cases hd:look sl t with
  |opt j gW=>
   rw[hd]at e hlow hno;simp only[mvD]at e
   cases hja:Nat.beq j κ with
   |true=>exact hno gW (by rw[Nat.eq_of_beq_eq_true hja])
   |false=>
    rw[hja]at e;simp only[D.opt.injEq]at e;have h3:(Nat.blt j 1000000||Nat.beq j 2000000)=true:=hlow;rcases lowK h3 with h4|h4<;>omega
  |own j=>
   rw[hd]at e;simp only[mvD]at e;cases hja:Nat.beq j κ<;>rw[hja]at e<;>cases e
  |_=>rw[hd]at e;cases e
 ·have hnk:=hkey M.length (by omega);obtain⟨A,m,cc,hv⟩:=hvs _ hnk;rw[zK (fun p hp=>by have:=hF2 p hp;omega) hnk hsl hso,hv];obtain⟨L,hL⟩:∃L,L=(hds M.length).map (cS (rws T wd g 0 N) vs):=⟨_,rfl⟩;have hLs:∀d∈L,∃A m cc,d= .sc (.slice A m cc):=fun d hd=>by
   rw[hL]at hd;obtain⟨d0,h0,rfl⟩:=List.mem_map.1 hd;obtain⟨i,hi,rfl⟩:=List.mem_map.1 h0;have hk:=hkey i (by have:=List.mem_range.1 hi;omega);obtain⟨A,m,cc,e⟩:=hvs _ hk;refine⟨A,m,cc,?_⟩;show cS (rws T wd g 0 N) vs (.own (rk i))=_;simp only[cS,hk,e]
  have e0:∀k,bn (rws T wd g 0 N) vs (2000000,⟨T1,1,hds k⟩)=(2000000,⟨T1,1,(hds k).map (cS (rws T wd g 0 N) vs)⟩):=fun _=>rfl;have hL1:(hds (M.length+1)).map (cS (rws T wd g 0 N) vs)=L++[.sc (.slice A m cc)]:=by
   unfold hds;rw[List.range_succ,List.map_append,List.map_append,hL];congr 1;show [cS (rws T wd g 0 N) vs (.own (rk M.length))]=_;simp only[cS,hnk,hv]
  rw[List.map_cons,e0,mL hE,<-hL];have key:=h X1 L A m cc (by rw[hL,List.length_map,gj]);have hvlow:∀t,wX (look (mY κ (.slice A m cc) sl) t)=true/\(look (mY κ (.slice A m cc) sl) t).is 30=false:=by
   have hg:∀l:List (Nat×D),eC l=true->noS 30 l=true->∀t,wX (look (mY κ (.slice A m cc) l) t)=true/\(look (mY κ (.slice A m cc) l) t).is 30=false:=fun l=>by
    induction l with
    |nil=>exact fun _ _ _=>⟨rfl,rfl⟩
    |cons p l ih=>
     obtain⟨u,d⟩:=p;intro h1 h2 t;simp only[eC,List.all_cons,Bool.and_eq_true]at h1;simp only[noS,List.all_cons,Bool.and_eq_true,Bool.not_eq_true']at h2;simp only[mY,look];split
     ·cases d with
      |own j=>cases hb:Nat.beq j κ with
       |true=>simp only[hb];exact⟨rfl,rfl⟩
       |false=>simp only[hb];exact⟨h1.1,h2.1⟩
      |_=>exact⟨h1.1,h2.1⟩
     ·exact ih h1.2 h2.2 t
   exact hg sl hsl hs30
  refine ak (Sh_hp (H:=2000000) (b:=30) (T1:=T1) (L:=L) (ow':=(30,⟨T1,1,L⟩)::E) List.mem_cons_self hLs rfl rfl (fun p hp=>?_) (fun t=>(hvlow t).2) fun p hp=>?_) ?_
  ·rcases List.mem_cons.1 hp with rfl|hp
   ·refine⟨by simp,fun _ hm=>?_⟩;obtain⟨A,m,cc,e⟩:=hLs _ hm;cases e
   ·refine⟨fun e=>?_,fun h=>by rw[fN hE hp]at h;cases h⟩;have:=bT.2 ⟨p,hp,e⟩;rw[hE30]at this;cases this
  ·rcases List.mem_cons.1 hp with rfl|hp
   ·exact .inl rfl
   ·exact .inr ⟨List.mem_cons_of_mem _ hp,by have:=bX hE hp;omega⟩
  ·refine qe (key.mono fun ex s' ⟨sl',E',h1,h2,h3,h4,h5,h7,h6⟩=>?_);refine⟨⟨mvS 30 2000000 sl',(2000000,⟨T1,1,L++[.sc (.slice A m cc)]⟩)::E'⟩,h1.trans (B1 (q:=⟨T1,1,L++[.sc (.slice A m cc)]⟩) List.mem_cons_self rfl (.inr ⟨rfl,rfl,fun d hd=>?_⟩) (fun p hp=>?_) h3 fun p hp=>?_),(2000000,⟨T1,1,hds (M.length+1)⟩)::E',?_,?_,hdis _ E' h4,fun p hp t=>?_,?_⟩
   ·rcases List.mem_append.1 hd with hd|hd
    ·obtain⟨A,m,cc,rfl⟩:=hLs d hd;rfl
    ·rw[List.mem_singleton.1 hd];rfl
   ·rcases List.mem_cons.1 hp with rfl|hp
    ·exact⟨by simp,fun h=>by cases h⟩
    ·have:=bX h4 hp;exact⟨by omega,fun h=>by rw[fN h4 hp]at h;cases h⟩
   ·rcases List.mem_cons.1 hp with rfl|hp
    ·exact .inl rfl
    ·exact .inr ⟨List.mem_cons_of_mem _ hp, fun e => by
      have:=bT.2 ⟨p,hp,e⟩;rw[h7]at this;cases this⟩
   ·rw[List.map_cons,e0,mL h4,hL1]
   ·simp only[ndK,h5,Bool.and_true,Bool.not_eq_true'];exact gJ fun q hq e=>by have:=bX h4 hq;(try simp only at e);omega
   ·have:=hF2 p hp;exact eD (cB (zi h2) t) this.1 (by omega)
   ·rw[hN];exact h6
theorem BM{ow:List (Nat×Ow)}{N:List (List Int)}(hN:N.length<=900000)(hsl:eC sl=true)(hs:noS 2000000 sl=true)(hE:ib ow=true):sV sl ow [] ((2000000,⟨T1,1,hds N.length⟩)::rws T wd g 0 N) ow (.own 2000000):=by
 have hR:∀p∈rws T wd g 0 N,∃i,i<N.length/\p.1=rk i:=fun p hp=>by
  obtain⟨i,r,h1,rfl⟩:=bW.1 hp;exact⟨i,(List.getElem?_eq_some_iff.1 h1).1,by rw[Nat.zero_add]⟩
 refine⟨fun _ hp=>(by cases hp),fun p hp=>⟨hp,fun _ hq=>(by cases hq)⟩,fun p hp=>.inr ?_,fun p hp hh j hj=>?_,fun k hk=>?_⟩
 ·rcases List.mem_cons.1 hp with rfl|hp
  ·exact⟨rfl,nC hs,fun q hq=>⟨fun e=>by have:=bX hE hq;simp only at e;omega,fun h=>by rw[fN hE hq]at h;cases h⟩⟩
  ·obtain⟨i,hi,e⟩:=hR p hp;rw[e];refine⟨wD (by omega),fun t=>eD (cB hsl t) (by unfold rk;omega) (by unfold rk;omega),fun q hq=>⟨fun e=>?_,fun h=>by rw[fN hE hq]at h;cases h⟩⟩;have:=bX hE hq;unfold rk at e;omega
 ·rcases List.mem_cons.1 hp with rfl|hp
  ·obtain⟨i,hi,rfl⟩:=pV.1 hj;obtain⟨r,hr⟩:∃r,N[i]?=some r:=⟨_,List.getElem?_eq_getElem hi⟩;exact⟨(rk (0+i),⟨T,wd,g r⟩),List.mem_cons_of_mem _ (bW.2 ⟨i,r,hr,rfl⟩),by simp⟩
  ·obtain⟨i,hi,e⟩:=hR p hp;rw[e,jC (by omega)]at hh;cases hh
 ·refine⟨_,List.mem_cons_self,?_⟩;simp only[D.is]at hk;exact Nat.eq_of_beq_eq_true hk
theorem J9{t:Nat}{o:Oper}{ops:Array Oper}{l:List Oper}{K:S->Prop}{ow:List (Nat×Ow)}{f:FuncId}{x y z:Operand}{ts:Array TypeId}{d1 d2 d3:D}{N:List (List Int)}(hg:o.guard=none)(hdst:o.dst=some t)(ht:Nat.blt t n=true)(ho:o.op= .call {callee:=.value (.func f),args:=#[x,y,z],argTypes:=ts})(hx:S.op ⟨sl,ow⟩ x=d1)(hy:S.op ⟨sl,ow⟩ y=d2)(hz:S.op ⟨sl,ow⟩ z=d3)(hf:N.length<=900000/\FnG P f [d1,d2,d3] [] (.own 2000000) ((2000000,⟨T1,1,hds N.length⟩)::rws T wd g 0 N))(hsl:eC sl=true)(hs:noS 2000000 sl=true)(hE:ib ow=true)
  (h:aL P X0 n ops l K ⟨(t,.own 2000000)::sl,(2000000,⟨T1,1,hds N.length⟩)::(rws T wd g 0 N++ow)⟩):aL P X0 n ops (o::l) K ⟨sl,ow⟩:=
 zP (xs:=[x,y,z]) (os:=[]) ow hg hdst ht ho (by rw[<-hx,<-hy,<-hz];rfl) hf.2 (BM hf.1 hsl hs hE) h
def clS(d0:D):List (Nat×D)->List (Nat×D)
 |[]=>[]
 |(t,d)::l=>(t,match d with
  | .own j=>(match Nat.beq j 2000000 with|true=>d0|false=>.own j)
  | .opt j off=>(match Nat.beq j 2000000 with|true=>.any|false=>.opt j off)
  |d=>d)::clS d0 l
theorem wZ(d0:D):∀(l:List (Nat×D)) (t:Nat),look (clS d0 l) t=match look l t with
  | .own j=>(match Nat.beq j 2000000 with|true=>d0|false=>.own j)
  | .opt j off=>(match Nat.beq j 2000000 with|true=>.any|false=>.opt j off)
  |d=>d
 |[],_=>rfl
 |(u,d)::l,t=>by
  simp only[clS,look];split
  ·rfl
  ·exact wZ d0 l t
theorem Ez{N:List (List Int)}(hN:N.length<=900000)(hE:ib E=true):Sh X0 n ⟨sl,(2000000,⟨T1,1,hds N.length⟩)::(E++rws T wd g 0 N)⟩ ⟨clS (.ls 1 (N.map fun r=>.ls wd (g r))) sl,E⟩:=by
 refine Gy (H:=2000000) (Tm:=T1) (L:=hds N.length) (L':=N.map fun r=>.ls wd (g r)) List.mem_cons_self rfl (by rw[List.length_map,gj]) (fun i d d' h1 h2=>?_) (fun t=>?_) fun p hp=>?_
 ·have hi:=(List.getElem?_eq_some_iff.1 h1).1;rw[gj]at hi;rw[pW hi]at h1;cases h1;rw[List.getElem?_map]at h2;obtain⟨r,hr,rfl⟩:=Option.map_eq_some_iff.1 h2;exact .inr ⟨rk i,⟨T,wd,g r⟩,rfl,List.mem_cons_of_mem _ (List.mem_append_right _ (bW.2 ⟨i,r,hr,by rw[Nat.zero_add]⟩)),jC (by omega),rfl⟩
 ·rw[wZ]
  cases hd:look sl t with
  |own j=>
   cases hb:Nat.beq j 2000000 with
   |true=>exact .inr (.inl ⟨by simp only[hb],by rw[Nat.eq_of_beq_eq_true hb]⟩)
   |false=>exact .inr (.inr (by simp only[hb]))
  |opt j off=>
   cases hb:Nat.beq j 2000000 with
   |true=>exact .inl (by simp only[hb])
   |false=>exact .inr (.inr (by simp only[hb]))
  |_=>exact .inr (.inr rfl)
 ·have:=bX hE hp;refine⟨List.mem_cons_of_mem _ (List.mem_append_left _ hp),by omega,fun hm=>?_⟩;obtain⟨i,hi,e⟩:=pV.1 hm;unfold rk at e;omega
end
end DW
end
section
open Go.RowKit
namespace DW
abbrev gZ(l:List Int):List D:=l.map .nm
set_option maxRecDepth 20000
set_option maxHeartbeats 2000000
theorem yE(A B:Mx.Mat)(cols:Nat)(hA:A.length<=100000)(hB:B.length<=1000000)(hc:cols<=1000000)(H:vE A B cols):FnG Tryz.prog 22 [dW A,dW B,zI cols] [] (.own 2000000) ((2000000,⟨113,1,hds (tim A B cols).length⟩)::rws 62 2 gZ 0 (tim A B cols)):=by
 refine⟨enters_of Tryz.func22 aa rfl,?_⟩;refine zy Tryz.func22 rfl rfl (fun _ hp=>by cases hp) fun X0=>?_;simp only[aD]
 (repeat(first|refine gk fun K hK=>?_|refine zs2 ?_));refine bK ?_;(repeat(first|refine gk fun K hK=>?_|refine zs2 ?_));refine bK ?_;(repeat(first|refine gk fun K hK=>?_|refine zs2 ?_));refine aH ?_;(repeat(first|refine gk fun K hK=>?_|refine zs2 ?_))
 refine ak (cn (t:=7) (k:=7) (T:=113) (wd:=1) cr rfl rfl bD) ?_
 (refine ak (ai (sl':=[(0,dW A),(1,dW B),(2,zI cols),(7,.own 7),(8,zI 0)]) (ow':=[(7,⟨113,1,[]⟩)]) an aw) ?_)
 refine ak (B1 (a:=7) (b:=2000000) (q:=⟨113,1,[]⟩) (ow':=[(2000000,⟨113,1,[]⟩)]) List.mem_cons_self rfl (.inr ⟨rfl,rfl,fun d hd=>(by cases hd)⟩) (fun p hp=>by rw[List.mem_singleton.1 hp];exact⟨by simp,fun h=>by cases h⟩) rfl (fun p hp=>.inl (List.mem_singleton.1 hp))) ?_;refine ak (ai (sl':=[(0,dW A),(1,dW B),(2,zI cols),(7,.own 2000000),(8,zI 0)]) (ow':=(2000000,⟨113,1,hds ([]:Mx.Mat).length⟩)::([]++rws 62 2 gZ 0 [])) an (fun p hp=>by simpa[hds,rws]using hp)) ?_;have htl:(tim A B cols).length=A.length:=by unfold tim;simp
 refine aE (fun r s=>∃i F,i<=A.length/\r=A.length-i/\F=(tim A B cols).take i/\s=⟨[(0,dW A),(1,dW B),(2,zI cols),(7,.own 2000000),(8,zI (i:Nat))],(2000000,⟨113,1,hds F.length⟩)::([]++rws 62 2 gZ 0 F)⟩) (m:=A.length) ⟨0,[],Nat.zero_le _,rfl,rfl,rfl⟩ fun r s hs=>?_;obtain⟨i,F,hi,rfl,hF,rfl⟩:=hs;have hFl:F.length=i:=by rw[hF,List.length_take];omega
 by_cases hil:i<A.length
 ·obtain⟨row,hrow⟩:=get_some hil;have hmem:=List.mem_of_getElem? hrow;have hlen:=H.len row hmem;have hti:=yF (B:=B) (cols:=cols) hrow;have hsn:=ba hti;rw[<-hF]at hsn;clear hF hti htl;have hRl:=nd B cols row
  (repeat(first|refine gk fun K hK=>?_|refine zs2 ?_));refine aK ?_;(repeat(first|refine gk fun K hK=>?_|refine zs2 ?_))
  refine av ?_
  (repeat(first|refine gk fun K hK=>?_|refine zs2 ?_));refine bK ?_;(repeat(first|refine gk fun K hK=>?_|refine zs2 ?_));refine aH ?_;(repeat(first|refine gk fun K hK=>?_|refine zs2 ?_))
  refine ak (ai (sl':=[(0,dW A),(1,dW B),(2,zI cols),(7,.own 2000000),(8,zI (i:Nat)),(9,.sc (.slice none 0 0)),(10,zI 0)]) (ow':=(2000000,⟨113,1,hds F.length⟩)::([]++rws 62 2 gZ 0 F)) an (fun p hp=>hp)) ?_;refine rl (by omega) rfl rfl fun X1 L hL hLs=>?_;refine ak (cn (t:=9) (k:=9) (T:=62) (wd:=2) cr rfl rfl bD) ?_
  (refine ak (ai (sl':=[(0,dW A),(1,dW B),(2,zI cols),(7,.own 2000000),(8,zI (i:Nat)),(9,.own 9),(10,zI 0)]) (ow':=[(9,⟨62,2,[]⟩),(2000000,⟨113,1,L⟩)]) an aw) ?_)
  refine aE (fun r s=>∃k,k<=cols/\r=cols-k/\s=⟨[(0,dW A),(1,dW B),(2,zI cols),(7,.own 2000000),(8,zI (i:Nat)),(9,.own 9),(10,zI (k:Nat))],[(9,⟨62,2,((eV B cols row).take k).map .nm⟩),(2000000,⟨113,1,L⟩)]⟩) (m:=cols) ⟨0,Nat.zero_le _,rfl,rfl⟩ fun r s hs=>?_;obtain⟨k,hk,rfl,rfl⟩:=hs;by_cases hkc:k<cols
  ·have hkg:=wa (B:=B) (row:=row) hkc;have hks:=ba hkg;have hgl:((eV B cols row).take k).length<=1000000:=by rw[List.length_take];omega
   obtain⟨G,hG⟩:∃G,G=(eV B cols row).take k:=⟨_,rfl⟩;rw[<-hG]at hks hgl;rw[<-hG];clear hG hkg
   (repeat(first|refine gk fun K hK=>?_|refine zs2 ?_));refine gP ?_;(repeat(first|refine gk fun K hK=>?_|refine zs2 ?_))
   refine av ?_
   (repeat(first|refine gk fun K hK=>?_|refine zs2 ?_));(refine gar ?_;refine Ha ?_;refine vq ?_;refine dC ?_;refine af ?_);(repeat(first|refine gk fun K hK=>?_|refine zs2 ?_));refine aH ?_;(repeat(first|refine gk fun K hK=>?_|refine zs2 ?_))
   (refine ak (ai (sl':=[(0,dW A),(1,dW B),(2,zI cols),(7,.own 2000000),(8,zI (i:Nat)),(9,.own 9),(10,zI (k:Nat)),(11,.opt 11 0),(12,zI 0)]) (ow':=[(11,⟨62,2,[.nm 0]⟩),(9,⟨62,2,G.map .nm⟩),(2000000,⟨113,1,L⟩)]) an aw) ?_)
   refine aE (fun r s=>∃j,j<=B.length/\r=B.length-j/\s=⟨[(0,dW A),(1,dW B),(2,zI cols),(7,.own 2000000),(8,zI (i:Nat)),(9,.own 9),(10,zI (k:Nat)),(11,.opt 11 0),(12,zI (j:Nat))],[(11,⟨62,2,[.nm (eE row B k j)]⟩),(9,⟨62,2,G.map .nm⟩),(2000000,⟨113,1,L⟩)]⟩) (m:=B.length) ⟨0,Nat.zero_le _,rfl,rfl⟩ fun r s hs=>?_;obtain⟨j,hj,rfl,rfl⟩:=hs;by_cases hjl:j<B.length
   ·have hx:=kG (l:=row) (j:=j) (by omega);have hbj:=rwg hjl;have hy:(Mx.rw B j)[k]?=some (Mx.at' B j k):=kG (l:=Mx.rw B j) (j:=k) (by have:=H.rc j hjl;omega);have MU:=vA (row.getD j 0) (Mx.at' B j k) (H.hr row hmem j) (H.hb j k);have AD:=BU (eE row B k j) (row.getD j 0*Mx.at' B j k) (H.hs row hmem k j) (H.hp row hmem j k)
    (repeat(first|refine gk fun K hK=>?_|refine zs2 ?_));refine aK ?_;(repeat(first|refine gk fun K hK=>?_|refine zs2 ?_))
    refine av ?_
    (repeat(first|refine gk fun K hK=>?_|refine zs2 ?_));refine GD ?_;(repeat(first|refine gk fun K hK=>?_|refine zs2 ?_));refine aX ?_;(repeat(first|refine gk fun K hK=>?_|refine zs2 ?_))
    simp only[nx,inB];exact⟨B.length-(j+1),_,by omega,(ai (sl':=[(0,dW A),(1,dW B),(2,zI cols),(7,.own 2000000),(8,zI (i:Nat)),(9,.own 9),(10,zI (k:Nat)),(11,.opt 11 0),(12,zI ((j+1:Nat):Int))]) (ow':=[(11,⟨62,2,[.nm (eE row B k j+row.getD j 0*Mx.at' B j k)]⟩),(9,⟨62,2,G.map .nm⟩),(2000000,⟨113,1,L⟩)]) an aw),j+1,by omega,rfl,rfl⟩
   ·obtain rfl:j=B.length:=by omega
    (repeat(first|refine gk fun K hK=>?_|refine zs2 ?_));refine aK ?_;(repeat(first|refine gk fun K hK=>?_|refine zs2 ?_))
    refine az ?_
    (repeat(first|refine gk fun K hK=>?_|refine zs2 ?_));refine GB ?_;(repeat(first|refine gk fun K hK=>?_|refine zs2 ?_));refine aX ?_;(repeat(first|refine gk fun K hK=>?_|refine zs2 ?_))
    simp only[nx,inB];exact⟨cols-(k+1),_,by omega,(ai (sl':=[(0,dW A),(1,dW B),(2,zI cols),(7,.own 2000000),(8,zI (i:Nat)),(9,.own 9),(10,zI ((k+1:Nat):Int))]) (ow':=[(9,⟨62,2,G.map .nm++[.nm (eE row B k B.length)]⟩),(2000000,⟨113,1,L⟩)]) an aw),k+1,by omega,rfl,by rw[hks,List.map_append];rfl⟩
  ·obtain rfl:k=cols:=by omega
   rw[List.take_of_length_le (by omega)]
   (repeat(first|refine gk fun K hK=>?_|refine zs2 ?_));refine gP ?_;(repeat(first|refine gk fun K hK=>?_|refine zs2 ?_))
   refine az ?_
   (repeat(first|refine gk fun K hK=>?_|refine zs2 ?_))
   refine⟨[(0,dW A),(1,dW B),(2,zI k),(7,.own 2000000),(8,zI (i:Nat)),(9,.own 9)],[(9,⟨62,2,gZ (eV B k row)⟩)],(ai (sl':=[(0,dW A),(1,dW B),(2,zI k),(7,.own 2000000),(8,zI (i:Nat)),(9,.own 9)]) (ow':=[(2000000,⟨113,1,L⟩),(9,⟨62,2,gZ (eV B k row)⟩)]) an aw),rfl,rfl,rfl,?_⟩
   ((simp only[nx,inB,ite_true,ite_false,↓reduceIte,Nat.reduceEqDiff,reduceCtorEq]);apply_assumption-exfalso)
   (repeat(first|refine gk fun K hK=>?_|refine zs2 ?_))
   refine J3 (κ:=9) (E:=[]) (by omega) rfl rfl rfl rfl rfl rfl rfl fun X2 L2 A2 m2 c2 hL2=>?_
   (refine ak (ai (sl':=[(0,dW A),(1,dW B),(2,zI k),(7,.own 30),(8,zI (i:Nat)),(9,.sc (.slice A2 m2 c2))]) (ow':=[(30,⟨113,1,L2⟩)]) an aw) ?_)
   refine mP ?_;refine⟨[(0,dW A),(1,dW B),(2,zI k),(7,.own 30),(8,zI (i:Nat))],[],(ai (sl':=[(0,dW A),(1,dW B),(2,zI k),(7,.own 30),(8,zI (i:Nat))]) (ow':=[(30,⟨113,1,L2++[.sc (.slice A2 m2 c2)]⟩)]) an aw),rfl,rfl,rfl,rfl,rfl,?_⟩
   ((simp only[nx,inB,ite_true,ite_false,↓reduceIte,Nat.reduceEqDiff,reduceCtorEq]);apply_assumption-exfalso)
   (repeat(first|refine gk fun K hK=>?_|refine zs2 ?_))
   refine aX ?_;simp only[nx,inB];exact⟨A.length-(i+1),_,by omega,ai (sl':=[(0,dW A),(1,dW B),(2,zI k),(7,.own 2000000),(8,zI ((i+1:Nat):Int))]) (ow':=(2000000,⟨113,1,hds (F++[eV B k row]).length⟩)::([]++rws 62 2 gZ 0 (F++[eV B k row]))) an (fun p hp=>by rw[List.length_append]at hp;exact hp),i+1,F++[eV B k row],by omega,rfl,hsn.symm,rfl⟩
 ·obtain rfl:i=A.length:=by omega
  rw[List.take_of_length_le (by omega)]at hF;subst hF
  (repeat(first|refine gk fun K hK=>?_|refine zs2 ?_));refine aK ?_;(repeat(first|refine gk fun K hK=>?_|refine zs2 ?_))
  refine az ?_
  (repeat(first|refine gk fun K hK=>?_|refine zs2 ?_))
  refine fC ?_
  (repeat(first|refine gk fun K hK=>?_|refine zs2 ?_))
  exact⟨_,Sh.refl,.own 6 2000000 rfl rfl,rfl⟩
end DW
end
section
namespace Mx
theorem uD(j:Nat):skip 0 j=j+1:=by unfold skip;rw[if_neg (by omega)]
theorem tN(l:Nat):skip (l+1) 0=0:=by unfold skip;rw[if_pos (by omega)]
theorem Ct(l i:Nat):skip (l+1) (i+1)=skip l i+1:=by
 unfold skip;by_cases h:i<l
 ·rw[if_pos h,if_pos (by omega)]
 ·rw[if_neg h,if_neg (by omega)]
theorem qC(n:Nat)(g:Nat->Int):sm (n+1) g=g 0+sm n (fun l=>g (l+1)):=by
 rw[yL g n 0 (Nat.zero_le _),bP n (fun l=>g (skip 0 l)) (fun l=>g (l+1)) fun l _=>by rw[uD]];omega
theorem Ir(n:Nat)(h:∀f,D (n+1) f=D (n+1) fun i j=>f j i)(f:Nat->Nat->Int):
  D (n+2) f=f 0 0*D (n+1) (fun i j=>f (i+1) (j+1))+sm (n+1) fun l=>sm (n+1) fun m=>-(sg l*sg m)*(f 0 (l+1)*f (m+1) 0)*D n (fun i j=>f (skip m j+1) (skip l i+1)):=by
 show sm (n+2) (fun k=>sg k*f 0 k*D (n+1) (fun i j=>f (i+1) (skip k j)))=_;rw[qC];congr 1
 ·rw[show sg 0=1 from rfl,Int.one_mul,cK (n+1) (fun i j=>f (i+1) (skip 0 j)) (fun i j=>f (i+1) (j+1)) fun i j _ _=>by rw[uD]]
 ·refine bP _ _ _ fun l _=>?_;rw[h];show sg (l+1)*f 0 (l+1)*sm (n+1) (fun m=>sg m*f (m+1) (skip (l+1) 0)*D n (fun i j=>f (skip m j+1) (skip (l+1) (i+1))))=_;rw[<-rM];refine bP _ _ _ fun m _=>?_;rw[tN,yN,cK n (fun i j=>f (skip m j+1) (skip (l+1) (i+1))) (fun i j=>f (skip m j+1) (skip l i+1)) fun i j _ _=>by rw[Ct]];generalize D n _=d;simp only[Int.neg_mul,Int.mul_assoc];congr 1;rw[Int.mul_left_comm (f 0 (l+1)) (sg m)]
theorem It:∀n,(∀f,D n f=D n fun i j=>f j i)/\∀f,D (n+1) f=D (n+1) fun i j=>f j i
 |0=>⟨fun _=>rfl,fun f=>by
  show sm 1 (fun k=>sg k*f 0 k*1)=sm 1 (fun k=>sg k*f k 0*1);rfl⟩
 |n+1=>by
  obtain⟨h1,h2⟩:=It n;refine⟨h2,fun f=>?_⟩;rw[Ir n h2 f,Ir n h2 (fun i j=>f j i)];congr 1
  ·rw[h2]
  ·rw[tL];refine bP _ _ _ fun l _=>bP _ _ _ fun m _=>?_;rw[h1,Int.mul_comm (sg m) (sg l),Int.mul_comm (f 0 (m+1))]
theorem D_tr(n:Nat)(f:Nat->Nat->Int):D n f=D n fun i j=>f j i:=(It n).1 f
theorem Ke{n i:Nat}(hi:i<n)(f:Nat->Nat->Int):D n (upd f i fun _=>0)=0:=by
 have h:=sS 0 0 n f i (fun _=>0) (fun _=>0) hi;simpa using h
theorem D_sm{n i:Nat}(hi:i<n)(f:Nat->Nat->Int)(v:Nat->Int)(A:Nat->Nat->Int):∀m,D n (upd f i fun j=>sm m fun k=>v k*A k j)=sm m fun k=>v k*D n (upd f i (A k))
 |0=>Ke hi f
 |m+1=>by
  have h:=sS 1 (v m) n f i (fun j=>sm m fun k=>v k*A k j) (A m) hi;rw[D_sm hi f v A m]at h;show D n (upd f i fun j=>sm m (fun k=>v k*A k j)+v m*A m j)=sm m (fun k=>v k*D n (upd f i (A k)))+v m*D n (upd f i (A m));rw[Int.one_mul]at h;rw[<-h];congr 2;funext j;rw[Int.one_mul]
theorem C6:∀(n:Nat) (τ:Nat->Nat),(∀i,i<n+1->τ i<n)->∃i j,i<j/\j<n+1/\τ i=τ j
 |0,τ,h=>absurd (h 0 (by omega)) (by omega)
 |n+1,τ,h=>by
  by_cases e:∃i,i<n+1/\τ i=τ (n+1)
  ·obtain⟨i,h1,h2⟩:=e;exact⟨i,n+1,h1,by omega,h2⟩
  ·have hne:∀i,i<n+1->τ i≠τ (n+1):=fun i hi h2=>e ⟨i,hi,h2⟩;have ht:=h (n+1) (by omega);obtain⟨i,j,h1,h2,h3⟩:=C6 n (fun i=>if τ (n+1)<τ i then τ i-1 else τ i) fun i hi=>by
    have a:=hne i hi;have b:=h i (by omega);show(if τ (n+1)<τ i then τ i-1 else τ i)<n;split<;>omega
   refine⟨i,j,h1,by omega,?_⟩;have a:=hne i (by omega);have b:=hne j h2;split at h3<;>split at h3<;>omega
theorem rn{r:Nat}(H:Nat->Nat->Int):∀(d k:Nat),k+d=r->∀τ:Nat->Nat,(∀i,i<r->τ i<r)->(∀i,i<k->τ i=i)->∃c:Int,∀S:Nat->Nat,D r (fun i j=>H (τ i) (S j))=c*D r (fun i j=>H i (S j))
 |0,k,hk,τ,_,h2=>⟨1,fun S=>by
  rw[Int.one_mul];exact cK r _ _ fun i j hi _=>by rw[h2 i (by omega)]⟩
 |d+1,k,hk,τ,h1,h2=>by
  by_cases e:∃i j,i<j/\j<r/\τ i=τ j
  ·obtain⟨i,j,hij,hj,he⟩:=e;exact⟨0,fun S=>by
    rw[Int.zero_mul];exact ye (i:=i) (j:=j) (by omega) hj (by omega) _ fun l=>by rw[he]⟩
  ·have hne:∀i j,i<j->j<r->τ i≠τ j:=fun i j hi hj he=>e ⟨i,j,hi,hj,he⟩;have hp:∃p,p<r/\τ p=k:=Classical.byContradiction fun hno=>by
    have hno':∀p,p<r->τ p≠k:=fun p hp he=>hno ⟨p,hp,he⟩;obtain⟨n,rfl⟩:∃n,r=n+1:=⟨r-1,by omega⟩;obtain⟨i,j,g1,g2,g3⟩:=C6 n (fun i=>if k<τ i then τ i-1 else τ i) fun i hi=>by
     have a:=hno' i hi;have b:=h1 i hi;show(if k<τ i then τ i-1 else τ i)<n;split<;>omega
    have a:=hno' i (by omega);have b:=hno' j g2;refine hne i j g1 g2 ?_;split at g3<;>split at g3<;>omega
   obtain⟨p,hp,hpk⟩:=hp;have hkp:k<=p:=Classical.byContradiction fun h=>by
    have:=h2 p (by omega);omega
   by_cases hpe:p=k
   ·subst hpe;exact rn (r:=r) H d (p+1) (by omega) τ h1 fun i hi=>by
     by_cases hi2:i<p
     ·exact h2 i hi2
     ·obtain rfl:i=p:=by omega
      exact hpk
   ·obtain ⟨c, hc⟩ := rn (r := r) H d (k + 1) (by omega) (fun i => if i = k then τ p else if i = p then τ k else τ i) (fun i hi => by
        show(if i=k then τ p else if i=p then τ k else τ i)<r;split
        ·exact h1 p hp
        ·split
         ·exact h1 k (by omega)
         ·exact h1 i hi) (fun i hi=>by
        show(if i=k then τ p else if i=p then τ k else τ i)=i;split
        ·omega
        ·split
         ·omega
         ·exact h2 i (by omega))
    refine⟨-c,fun S=>?_⟩;rw[Int.neg_mul,<-hc S];have hs:=Lo (n:=r) (i:=k) (j:=p) (by omega) hp (fun h=>hpe h.symm) (fun i j=>H (τ i) (S j));have:D r (upd (upd (fun i j=>H (τ i) (S j)) k ((fun i j=>H (τ i) (S j)) p)) p ((fun i j=>H (τ i) (S j)) k))=D r (fun i j=>H (if i=k then τ p else if i=p then τ k else τ i) (S j)):=cK r _ _ fun i j _ _=>by
     unfold upd;by_cases e1:i=p
     ·rw[if_pos e1,if_neg (by omega),if_pos e1]
     ·rw[if_neg e1];by_cases e2:i=k
      ·rw[if_pos e2,if_pos e2]
      ·rw[if_neg e2,if_neg e2,if_neg e1]
    rw[this]at hs;omega
theorem ED{r:Nat}(H V:Nat->Nat->Int):∀t,t<=r->∀τ:Nat->Nat,(∀i,i<r->τ i<r)->∃c:Int,∀S:Nat->Nat,D r (fun i j=>if i<t then sm r (fun k=>V i k*H k (S j))else H (τ i) (S j))=c*D r (fun i j=>H i (S j))
 |0,_,τ,h1=>by
  obtain⟨c,hc⟩:=rn (r:=r) H r 0 (by omega) τ h1 fun i hi=>absurd hi (Nat.not_lt_zero i);exact⟨c,fun S=>by
   rw[<-hc S];exact cK r _ _ fun i j _ _=>if_neg (Nat.not_lt_zero i)⟩
 |t+1,ht,τ,h1=>by
  have hk:∀k,∃c:Int,k<r->∀S:Nat->Nat,D r (fun i j=>if i<t then sm r (fun k=>V i k*H k (S j))else H (if i=t then k else τ i) (S j))=c*D r (fun i j=>H i (S j)):=fun k=>by
   by_cases hkr:k<r
   ·obtain ⟨c, hc⟩ := ED (r := r) H V t (by omega) (fun i => if i = t then k else τ i) fun i hi => by
     show(if i=t then k else τ i)<r;split
     ·exact hkr
     ·exact h1 i hi
    exact⟨c,fun _=>hc⟩
   ·exact⟨0,fun h=>absurd h hkr⟩
  refine⟨sm r fun k=>V t k*Classical.choose (hk k),fun S=>?_⟩;have e:=D_sm (n:=r) (i:=t) (by omega) (fun i j=>if i<t then sm r (fun k=>V i k*H k (S j))else H (τ i) (S j)) (V t) (fun k j=>H k (S j)) r;rw[cK r (fun i j=>if i<t+1 then sm r (fun k=>V i k*H k (S j))else H (τ i) (S j)) (upd (fun i j=>if i<t then sm r (fun k=>V i k*H k (S j))else H (τ i) (S j)) t fun j=>sm r fun k=>V t k*H k (S j)) fun i j _ _=>by
   unfold upd;by_cases e1:i=t
   ·rw[if_pos e1,if_pos (by omega),e1]
   ·rw[if_neg e1];show(if i<t+1 then sm r fun k=>V i k*H k (S j)else H (τ i) (S j))=if i<t then sm r (fun k=>V i k*H k (S j))else H (τ i) (S j)
    by_cases e2:i<t
    ·rw[if_pos e2,if_pos (show i<t+1 by omega)]
    ·rw[if_neg e2,if_neg (show¬i<t+1 by omega)],e,Int.mul_comm,<-rM]
  refine bP r _ _ fun k hkr=>?_;have hc:=Classical.choose_spec (hk k) hkr S;rw[cK r (upd (fun i j=>if i<t then sm r (fun k=>V i k*H k (S j))else H (τ i) (S j)) t fun j=>H k (S j)) (fun i j=>if i<t then sm r (fun k=>V i k*H k (S j))else H (if i=t then k else τ i) (S j)) fun i j _ _=>by
   unfold upd;by_cases e1:i=t
   ·rw[if_pos e1,if_neg (by omega),if_pos e1]
   ·rw[if_neg e1,if_neg e1],hc,Int.mul_left_comm,Int.mul_comm (D r _)]
  rw[Int.mul_left_comm,Int.mul_assoc]
end Mx
end
section
namespace Mx
def fct:Nat->Nat
 |0=>1
 |n+1=>(n+1)*fct n
theorem tM:∀(n:Nat) (f:Nat->Int) (X:Nat),(∀k,k<n->(f k).natAbs<=X)->(sm n f).natAbs<=n*X
 |0,_,_,_=>by simp[sm]
 |n+1,f,X,h=>by
  have h1:=tM n f X fun k hk=>h k (by omega);have h2:=h n (by omega);show(sm n f+f n).natAbs<=_;rw[Nat.succ_mul];omega
theorem Cy(k:Nat):(sg k).natAbs=1:=by unfold sg;split<;>rfl
theorem D_bd{B:Nat}:∀(n:Nat) (f:Nat->Nat->Int),(∀i j,(f i j).natAbs<=B)->(D n f).natAbs<=fct n*B^n
 |0,_,_=>by simp[D,fct]
 |n+1,f,h=>by
  show(sm (n+1) fun k=>sg k*f 0 k*D n (fun i j=>f (i+1) (skip k j))).natAbs<=_;refine Nat.le_trans (tM _ _ (B*(fct n*B^n)) fun k _=>?_) ?_
  ·rw[Int.natAbs_mul,Int.natAbs_mul,Cy,Nat.one_mul];exact Nat.mul_le_mul (h 0 k) (D_bd n _ fun i j=>h _ _)
  ·show _<=(n+1)*fct n*B^(n+1);rw[Nat.pow_succ,Nat.mul_comm (B^n) B,<-Nat.mul_assoc,Nat.mul_assoc,Nat.mul_assoc,Nat.mul_left_comm B];exact Nat.le_refl _
theorem EA{r L:Nat}(A U:Nat->Nat->Int)(S:Nat->Nat)(h0:∀τ:Nat->Nat,(∀i,i<r->τ i<L)->D r (fun i j=>A (τ i) (S j))=0):∀t,t<=r->∀τ:Nat->Nat,(∀i,i<r->τ i<L)->D r (fun i j=>if i<t then sm L (fun k=>U i k*A k (S j))else A (τ i) (S j))=0
 |0,_,τ,h1=>by
  rw[<-h0 τ h1];exact cK r _ _ fun i j _ _=>if_neg (Nat.not_lt_zero i)
 |t+1,ht,τ,h1=>by
  have e:=D_sm (n:=r) (i:=t) (by omega) (fun i j=>if i<t then sm L (fun k=>U i k*A k (S j))else A (τ i) (S j)) (U t) (fun k j=>A k (S j)) L;rw[cK r (fun i j=>if i<t+1 then sm L (fun k=>U i k*A k (S j))else A (τ i) (S j)) (upd (fun i j=>if i<t then sm L (fun k=>U i k*A k (S j))else A (τ i) (S j)) t fun j=>sm L fun k=>U t k*A k (S j)) fun i j _ _=>by
   unfold upd;by_cases e1:i=t
   ·rw[if_pos e1,if_pos (by omega),e1]
   ·rw[if_neg e1];show(if i<t+1 then sm L fun k=>U i k*A k (S j)else A (τ i) (S j))=if i<t then sm L (fun k=>U i k*A k (S j))else A (τ i) (S j)
    by_cases e2:i<t
    ·rw[if_pos e2,if_pos (show i<t+1 by omega)]
    ·rw[if_neg e2,if_neg (show¬i<t+1 by omega)],e]
  refine mq L _ fun k hk=>?_;rw[cK r (upd (fun i j=>if i<t then sm L (fun k=>U i k*A k (S j))else A (τ i) (S j)) t fun j=>A k (S j)) (fun i j=>if i<t then sm L (fun k=>U i k*A k (S j))else A (if i=t then k else τ i) (S j)) fun i j _ _=>by
   unfold upd;by_cases e1:i=t
   ·rw[if_pos e1,if_neg (by omega),if_pos e1]
   ·rw[if_neg e1,if_neg e1],EA A U S h0 t (by omega) (fun i=>if i=t then k else τ i) (fun i hi=>by
    show(if i=t then k else τ i)<L;split
    ·exact hk
    ·exact h1 i hi),Int.mul_zero]
theorem Kf{r L B:Nat}(A H U V:Nat->Nat->Int)(c:Nat->Nat)(hU:∀i,i<r->∀j,H i j=sm L fun k=>U i k*A k j)(hV:∀i,i<L->∀j,A i j=sm r fun k=>V i k*H k j)(hp:D r (fun i j=>H i (c j))≠0)(hB:∀i j,(A i j).natAbs<=B)(S:Nat->Nat):(D r (fun i j=>H i (S j))).natAbs<=fct r*B^r:=by
 have hτ:∃τ:Nat->Nat,(∀i,i<r->τ i<L)/\D r (fun i j=>A (τ i) (c j))≠0:=Classical.byContradiction fun hno=>by
  have h0:∀τ:Nat->Nat,(∀i,i<r->τ i<L)->D r (fun i j=>A (τ i) (c j))=0:=fun τ h=>Classical.byContradiction fun h2=>hno ⟨τ,h,h2⟩;by_cases hL:0<L
  ·have:=EA A U c h0 r (Nat.le_refl _) (fun _=>0) fun _ _=>hL;refine hp ?_;rw[<-this];exact cK r _ _ fun i j hi _=>by rw[if_pos hi,hU i hi]
  ·obtain rfl:L=0:=by omega
   by_cases hr:r=0
   ·subst hr;exact hp (h0 (fun _=>0) fun i hi=>absurd hi (Nat.not_lt_zero i))
   ·refine hp (Ln (i:=0) (by omega) _ fun l _=>?_);show H 0 (c l)=0;rw[hU 0 (by omega)];rfl
 obtain⟨τ,h1,h2⟩:=hτ;obtain⟨z,hz⟩:=ED (r:=r) H (fun i k=>V (τ i) k) r (Nat.le_refl _) (fun _=>0) (fun i hi=>by omega);have e:∀S:Nat->Nat,D r (fun i j=>A (τ i) (S j))=z*D r (fun i j=>H i (S j)):=fun S=>by
  rw[<-hz S];exact cK r _ _ fun i j hi _=>by rw[if_pos hi,hV _ (h1 i hi)]
 have hz0:z≠0:=fun hz0=>h2 (by rw[e c,hz0,Int.zero_mul]);have h3:=D_bd (B:=B) r (fun i j=>A (τ i) (S j)) fun i j=>hB _ _;rw[e S,Int.natAbs_mul]at h3;exact Nat.le_trans (Nat.le_mul_of_pos_left _ (by omega)) h3
theorem Is:∀(n:Nat) (f:Nat->Nat->Int),(∀i j,j<i->i<n->f i j=0)->(∀i,i<n->1<=f i i)->1<=D n f/\∀i,i<n->f i i<=D n f
 |0,_,_,_=>⟨by simp[D],fun i hi=>absurd hi (Nat.not_lt_zero i)⟩
 |n+1,f,h0,h1=>by
  have e:D (n+1) f=f 0 0*D n (fun i j=>f (i+1) (j+1)):=by
   rw[D_tr];show sm (n+1) (fun k=>sg k*f k 0*D n (fun i j=>f (skip k j) (i+1)))=_;rw[Cr (j:=0) (by omega) fun k hk hne=>by rw[h0 k 0 (by omega) hk];simp,D_tr n (fun i j=>f (i+1) (j+1))];rw[show sg 0=1 from rfl,Int.one_mul];congr 1
  obtain⟨i1,i2⟩:=Is n (fun i j=>f (i+1) (j+1)) (fun i j hj hi=>h0 _ _ (by omega) (by omega)) fun i hi=>h1 _ (by omega);have ha:=h1 0 (by omega);rw[e];generalize D n (fun i j=>f (i+1) (j+1))=d at*;have hda:d<=f 0 0*d:=by
   have:=Int.mul_le_mul_of_nonneg_right ha (show 0<=d by omega);omega
  have haa:f 0 0<=f 0 0*d:=by
   have:=Int.mul_le_mul_of_nonneg_left i1 (show 0<=f 0 0 by omega);omega
  refine⟨by omega,fun i hi=>?_⟩
  cases i with
  |zero=>exact haa
  |succ i=>exact Int.le_trans (i2 i (by omega)) hda
theorem Lp{r K P:Nat}(H:Nat->Nat->Int)(c:Nat->Nat)(hK:∀S:Nat->Nat,(D r (fun i j=>H i (S j))).natAbs<=K)(hp:D r (fun i j=>H i (c j))≠0){i:Nat}(hi:i<r)(hP:∀l,l<r->(H i (c l)).natAbs<=P)(j:Nat):(H i j).natAbs<=r*(P*K):=by
 let col:Nat->Nat:=fun b=>if b=0 then j else c (b-1)
 let g:Nat->Nat->Int:=fun a b=>H (if a=0 then i else a-1) (col b)
 have h0:D (r+1) g=0:=ye (i:=0) (j:=i+1) (by omega) (by omega) (by omega) g fun l=>by
  show H (if 0=0 then i else _) _=H (if i+1=0 then i else i+1-1) _;rw[if_pos rfl,if_neg (by omega),Nat.add_sub_cancel]
 have h1:D (r+1) g=sm (r+1) fun k=>sg k*g 0 k*D r (fun a b=>g (a+1) (skip k b)):=rfl;have hg:∀k,D r (fun a b=>g (a+1) (skip k b))=D r (fun a b=>H a (col (skip k b))):=fun k=>cK r _ _ fun a b _ _=>by
  show H (if a+1=0 then i else a+1-1) _=_;rw[if_neg (by omega),Nat.add_sub_cancel]
 rw[h0,qC]at h1;have e1:sg 0*g 0 0*D r (fun a b=>g (a+1) (skip 0 b))=H i j*D r (fun a b=>H a (c b)):=by
  rw[hg 0,show sg 0=1 from rfl,Int.one_mul];show H (if 0=0 then i else _) (col 0)*_=_;rw[if_pos rfl];congr 1
 rw[e1]at h1;have h2:=tM r (fun l=>sg (l+1)*g 0 (l+1)*D r (fun a b=>g (a+1) (skip (l+1) b))) (P*K) fun l hl=>by
  rw[Int.natAbs_mul,Int.natAbs_mul,Cy,Nat.one_mul,hg (l+1)];refine Nat.mul_le_mul ?_ (hK _);show(H (if 0=0 then i else _) (if l+1=0 then j else c (l+1-1))).natAbs<=P;rw[if_pos rfl,if_neg (by omega),Nat.add_sub_cancel];exact hP l hl
 have h3:(H i j*D r (fun a b=>H a (c b))).natAbs<=r*(P*K):=by omega
 rw[Int.natAbs_mul]at h3;exact Nat.le_trans (Nat.le_mul_of_pos_right _ (by omega)) h3
theorem xe:∀(M:Mat) (f:Nat->Int) (j:Nat),lcf f M j=sm M.length fun k=>f k*at' M k j
 |[],_,_=>rfl
 |a::A,f,j=>by
  rw[cY,xe A,List.length_cons,qC];simp only[cf,eF]
theorem CR{n B:Nat}{M:Mat}(hR:Rc n M)(hB:∀i j,(at' M i j).natAbs<=B)(i j:Nat):∃r,r<=n/\(at' (red n 0 (0,M)).2 i j).natAbs<=r*((fct r*B^r)*(fct r*B^r)):=by
 have hre:RE M (red n 0 (0,M)).2:=gF n 0 (0,M) hR;obtain⟨pv,he⟩:=mz n 0 (0,M) id hR (lF M);rw[Nat.zero_add]at he;obtain⟨h1,h2⟩:=hre.sp hR;generalize(red n 0 (0,M)).2=H at*;generalize(red n 0 (0,M)).1=r at*;have hlen:=hre.len;have hRH:=hre.rc hR;have hrn:r<=n:=by
  have:∀k,k<=r->k<=n/\∀i,i<k->i<=pv i:=fun k=>by
   induction k with
   |zero=>exact fun _=>⟨Nat.zero_le _,fun i hi=>absurd hi (Nat.not_lt_zero i)⟩
   |succ k ih=>
    intro hk;obtain⟨a,b⟩:=ih (by omega);have hk2:k<=pv k:=by
     cases k with
     |zero=>omega
     |succ k=>have:=b k (by omega);have:=he.mono k (k+1) (by omega) (by omega);omega
    have:=he.lt k (by omega);refine⟨by omega,fun i hi=>?_⟩;by_cases e:i=k
    ·rw[e];exact hk2
    ·exact b i (by omega)
  exact(this r (Nat.le_refl _)).1
 refine⟨r,hrn,?_⟩;by_cases hi:i<r
 ·have hz : ∀ k, r <= k -> ∀ j, at' H k j = 0 := fun k hk j => by
   by_cases hj:j<n
   ·exact he.zb k hk j hj
   ·exact vD hRH (by omega)
  have hU:∀i,∃f:Nat->Int,∀j,at' H i j=sm M.length fun k=>f k*at' M k j:=fun i=>by
   obtain⟨f,hf⟩:=h1 (at' H i) (SP.row H i);exact⟨f,fun j=>by rw[hf j,xe]⟩
  have hV:∀i,∃f:Nat->Int,∀j,at' M i j=sm r fun k=>f k*at' H k j:=fun i=>by
   obtain⟨f,hf⟩:=h2 (at' M i) (SP.row M i);refine⟨f,fun j=>?_⟩;rw[hf j,xe];have:∀d,sm (r+d) (fun k=>f k*at' H k j)=sm r fun k=>f k*at' H k j:=fun d=>by
    induction d with
    |zero=>rfl
    |succ d ih=>
     show sm (r+d) _+f (r+d)*at' H (r+d) j=_;rw[hz (r+d) (by omega),Int.mul_zero,Int.add_zero,ih]
   have:=this (H.length-r);rwa[show r+(H.length-r)=H.length by have:=he.le;omega]at this
  have hT:=Is r (fun i j=>at' H i (pv j)) (fun i j hj hi=>he.zl i hi _ (he.mono j i hj hi)) fun i hi=>by have:=he.pos i hi;omega
  have hp:D r (fun i j=>at' H i (pv j))≠0:=fun h=>by rw[h]at hT;omega
  have hK:=fun S=>Kf (B:=B) (at' M) (at' H) (fun i=>Classical.choose (hU i)) (fun i=>Classical.choose (hV i)) pv (fun i _ j=>Classical.choose_spec (hU i) j) (fun i _ j=>Classical.choose_spec (hV i) j) hp hB S;refine Lp (at' H) pv hK hp hi (fun l hl=>?_) j;have hKp:=hK pv;have hpl:=hT.2 l hl;have hll:at' H l (pv l)<=(fct r*B^r:Nat):=by omega
  by_cases hil:i<l
  ·have:=he.ab i l hil hl;omega
  ·by_cases hli:i=l
   ·subst hli;have:=he.pos i hi;omega
   ·rw[he.zl i hi _ (he.mono l i (by omega) hi)];simp
 ·have : at' H i j = 0 := by
   by_cases hj:j<n
   ·exact he.zb i (by omega) j hj
   ·exact vD hRH (by omega)
  rw[this];simp
end Mx
end
section
open Go.RowKit
namespace DW
theorem Fu{n:Nat}{den:Int}{m:Mx.Mat}(hc:lck n m den=0)(hn:n<=5):Mx.Bd (2^520) (Mx.red n 0 (0,m)).2:=fun i j=>by
 obtain⟨r,hr,h⟩:=Mx.CR (B:=2^50) (iJ hc) (su hc) i j;refine Nat.le_trans h ?_;have:r=0\/r=1\/r=2\/r=3\/r=4\/r=5:=by omega
 clear h hr;rcases this with rfl|rfl|rfl|rfl|rfl|rfl<;>exact of_decide_eq_true aa
theorem zd{n:Nat}{den:Int}{m:Mx.Mat}(hc:lck n m den=0)(hn:n<=5):∀l∈nR n m den,∀x∈l,x.natAbs<=2^520:=fun l hl x hx=>by
 have hd:=(gI hc).1;obtain⟨r,hr,rfl⟩:=List.mem_map.1 hl;obtain⟨y,hy,rfl⟩:=List.mem_map.1 hx;have h1:=(Mx.lp (iJ hc) (show 0<den by omega)).2.2.2.2.1;exact Nat.le_trans (Ef h1 ((Mx.oW (nH n m) den).2 r hr y hy)) (sO (Fu hc hn) (Dk hr) hy)
theorem nW{X:Nat}{M:Mx.Mat}(h:∀l∈M,∀x∈l,x.natAbs<=X):Mx.Bd X M:=fun i j=>by
 rcases at_mem M i j with h1|⟨r,hr,hz⟩
 ·rw[h1];exact Nat.zero_le _
 ·exact h r hr _ hz
structure Mk(n:Nat)(M:Mx.Mat)(z:Int):Prop where
 n0:0<n
 n5:n<=5
 len:M.length<=64
 rc:Mx.Rc n M
 bd:Mx.Bd (2^600) M
 z0:0<z
 zb:z.natAbs<=2^600
theorem Mk.red{n:Nat}{M:Mx.Mat}{z:Int}(h:Mk n M z):Mx.Bd (2^(600*11^n)) (Mx.red n 0 (0,M)).2:=by
 have:=Mx.rT (n:=n) (e:=600) (by omega) n 0 0 M h.rc (by rw[Nat.pow_zero,Nat.mul_one];exact h.bd);rw[Nat.zero_add]at this;exact this
theorem pw(a b:Nat)(h:a<=b):2^a<=2^b:=Nat.pow_le_pow_right (by decide) h
theorem pmul{x y a b c:Nat}(h1:x<=2^a)(h2:y<=2^b)(h:a+b<=c):x*y<=2^c:=Nat.le_trans (Nat.mul_le_mul h1 h2) (by rw[<-Nat.pow_add];exact pw _ _ h)
theorem oz{p q:Int}{a b c:Nat}(h1:p.natAbs<=2^a)(h2:q.natAbs<=2^b)(h:a+b<=c):(p*q).natAbs<=2^c:=by
 rw[Int.natAbs_mul];exact pmul h1 h2 h
set_option maxRecDepth 20000
set_option maxHeartbeats 2000000
theorem CS(dim den:Int)(m R:Mx.Mat)(d:Int)(WD:Fn Tryz.prog 23 [dM m] (dW m))(OF:Fn Tryz.prog 81 [zI den] (.nm den))(BS:Fn Tryz.prog 158 [dW m,.nm den,zI dim] (.tp [dW R,.nm d])):Fn Tryz.prog 105 [dL dim m den] (.tp [dW R,.nm d]):=by
 refine aP Tryz.func105 aa rfl rfl rfl fun X0=>?_;simp only[aD]
 (repeat(first|refine gk fun K hK=>?_|refine zs2 ?_));(refine gar ?_;refine gA ?_;refine zs3 ?_;(refine dK (k:=3) (z:=(.agg #[.bool false,.slice none 0 0])) (d:=(.nm 0)) rfl rfl rfl rfl rfl aa ae ae cE ae ae bD ?_);refine af ?_);(repeat(first|refine gk fun K hK=>?_|refine zs2 ?_));(refine rz ?_;refine Hh ?_;refine ct ?_;refine vt ?_;refine Hg ?_;refine ct ?_;refine vt ?_;refine Hi ?_;refine ct ?_;refine He ?_;refine lf ?_;refine lf ?_;refine AA ?_;refine mS ?_;refine mR ?_);(repeat(first|refine gk fun K hK=>?_|refine zs2 ?_))
 exact⟨_,aF (k:=3) aZ bB bA,.two (.tmp 2) (.cell 3 62) _ _ rfl (.tmp 2 rfl) (.cell 3 _ _ rfl rfl aa aa)⟩
theorem CU{n:Nat}{m:Mx.Mat}{den:Int}(hc:lck n m den=0)(hn:n<=5):Fn Tryz.prog 105 [dL n m den] (.tp [dW (nR n m den),.nm (den/nG n m den)]):=by
 obtain⟨k1,k2,k3⟩:=gI hc;have hR:=iJ hc;have WD:=Cd m (by omega) (fun l hl=>by have:=hR l hl;omega) (fun l hl z hz=>Du hc l hl z hz);exact CS n den m _ _ WD (wJ den (by omega)) (Fw n den m hc hn)
theorem wR{n:Nat}{r:List Int}{N:Mx.Mat}(h:Mx.Rc n N):∀k,k<=N.length->mulR n r N k=(List.range n).map fun j=>eE r N j k
 |0,_=>by
  show List.replicate n 0=(List.range n).map fun _=>(0:Int);rw[List.map_const',List.length_range]
 |k+1,hk=>by
  show Mx.dw (r.getD k 0) (mulR n r N k) (Mx.rw N k)=_;rw[wR h k (by omega)];refine List.ext_getElem? fun j=>?_;have hl:(Mx.rw N k).length=n:=h.rw (by omega);by_cases hj:j<n
  ·rw[xO (x:=eE r N j k) (y:=Mx.at' N k j) (by rw[List.getElem?_map,List.getElem?_range hj];rfl) (jF h (by omega) hj),List.getElem?_map,List.getElem?_range hj];rfl
  ·rw[List.getElem?_eq_none,List.getElem?_eq_none]
   ·simp;omega
   ·have:=Mx.ij (r.getD k 0) ((List.range n).map fun j=>eE r N j k) (Mx.rw N k) (by simp[hl]);rw[this];simp;omega
theorem ze{n:Nat}{M N:Mx.Mat}(h:Mx.Rc n N):mulM n M N=tim M N n:=by
 unfold mulM tim eV;exact List.map_congr_left fun r _=>wR h _ (Nat.le_refl _)
theorem uj{row:List Int}{B:Mx.Mat}{k X L:Nat}(hl:row.length<=L)(h:∀j,(row.getD j 0*Mx.at' B j k).natAbs<=X):∀j,(eE row B k j).natAbs<=min j L*X
 |0=>by simp[eE]
 |j+1=>by
  have h1:=uj hl h j;have h2:=h j;show(eE row B k j+row.getD j 0*Mx.at' B j k).natAbs<=_;by_cases hj:j<L
  ·rw[Nat.min_eq_left (by omega)]at h1;rw[Nat.min_eq_left (by omega),Nat.succ_mul];omega
  ·rw[List.getD_eq_getElem?_getD,List.getElem?_eq_none (by omega)];rw[Nat.min_eq_right (by omega)]at h1⊢;simpa using h1
theorem zG{f:Mx.Mat}(hf:chk f=0):Mx.Bd (2^50) f:=nW fun l hl x hx=>Nat.le_trans ((xN hf).2.2.2 l hl x hx) (by decide)
theorem DS{n:Nat}{m:Mx.Mat}{den:Int}(hc:lck n m den=0)(hn:n<=5){row:List Int}(hr:row∈nR n m den)(j:Nat):(row.getD j 0).natAbs<=2^520:=by
 rw[List.getD_eq_getElem?_getD]
 cases hg:row[j]? with
 |none=>exact Nat.zero_le _
 |some x=>exact zd hc hn row hr x (List.mem_of_getElem? hg)
theorem JB{n:Nat}{m f:Mx.Mat}{den:Int}(hc:lck n m den=0)(hn:n<=5)(hf:chk f=0){row:List Int}(hr:row∈nR n m den)(k j:Nat):(eE row f k j).natAbs<=2^573:=by
 have hd:=(gI hc).1;have hnn:=Mx.lp (iJ hc) (show 0<den by omega);have h1:=uj (row:=row) (B:=f) (k:=k) (X:=2^570) (L:=5) (by have:=hnn.2.2.2.1 row hr;omega) (fun j=>oz (a:=520) (b:=50) (c:=570) (DS hc hn hr j) (zG hf j k) (by decide)) j;refine Nat.le_trans h1 ?_;exact pmul (a:=3) (b:=570) (c:=573) (Nat.le_trans (Nat.min_le_right j 5) (show 5<=2^3 by decide)) (Nat.le_refl _) (by decide)
end DW
end
section
open Go.RowKit Go.BigFrame
attribute [local go_sem ↓] Go.wp_at_zero Go.wp_at_succ
def eY(dim:Int)(m:List (List Int))(den:Int)(f:List (List Int)):Int:=if lck dim m den≠0 then lck dim m den else if chk f≠0 then chk f else if(f.length:Int)=dim/\(wid f:Int)=dim then 0 else 9
set_option maxRecDepth 10000 in
set_option maxHeartbeats 4000000 in
theorem Bw(dim den:Int)(m f:List (List Int))(v vf:Value)(hd:I64 dim)(hd2:I64 den)(hm:m.length<=1000000000)(hr:∀r∈m,r.length<=1000000000)(hf:f.length<=1000000000)(hfr:∀r∈f,r.length<=1000000000)(w:World)(h:ZM w v m)(h2:ZM w vf f):
  Calls Tryz.prog 93 #[.agg #[.int .i64 dim,v,.int .i64 den],vf] w fun e w'=>e= .returned (.int .i64 (eY dim m den f))/\Below w.heap.size w w':=by
 have CK:=Lib.hid (fun w h=>Bn dim den m v hd hd2 hm hr w h);have CM:=Lib.hid (fun w h=>Ek f vf hf hfr w h);have WI:=Lib.hid (fun w h=>uz f vf hf w h);have H:=Lib.hid h;have HF:=Lib.hid h2;have E1:=Lib.hid (fun h:lck dim m den≠0=>(show eY dim m den f=lck dim m den by unfold eY;rw[if_pos h]));have E2:=Lib.hid (fun (h:¬lck dim m den≠0) (h2:chk f≠0)=>(show eY dim m den f=chk f by unfold eY;rw[if_neg h,if_pos h2]));have E3:=Lib.hid (fun (h:¬lck dim m den≠0) (h2:¬chk f≠0) (h3:(f.length:Int)=dim/\(wid f:Int)=dim)=>(show eY dim m den f=0 by unfold eY;rw[if_neg h,if_neg h2,if_pos h3]));have E4:=Lib.hid (fun (h:¬lck dim m den≠0) (h2:¬chk f≠0) (h3:¬((f.length:Int)=dim/\(wid f:Int)=dim))=>(show eY dim m den f=9 by unfold eY;rw[if_neg h,if_neg h2,if_neg h3]));obtain⟨a,cap,rfl,_⟩:=h;obtain⟨a2,cap2,rfl,_⟩:=h2;clear hm hr hfr hd2;generalize eY dim m den f=R at*;generalize lck dim m den=c1 at*;generalize chk f=c2 at*;generalize wid f=W at*;generalize m.length=q at*;generalize f.length=p at*;unfold I64 at hd;by_cases h1:c1=0
 ·subst h1;by_cases h2:c2=0
  ·subst h2;by_cases h3:(p:Int)=dim
   ·by_cases h4:(W:Int)=dim
    ·have d3:decide ((p:Int)=dim)=true:=by rw[decide_eq_true_iff];exact h3
     have d4:decide ((W:Int)=dim)=true:=by rw[decide_eq_true_iff];exact h4
     have E:Hid (R=0):=E3.out (by simp) (by simp) ⟨h3,h4⟩;clear E1 E2 E3 E4
     go_enter Tryz.func93,Tryz.ntmps93
     go_upto_region 7 with(first|(go_at_call 33;((with_reducible refine(CK.out _ ?_).mono ?_);(exact H.out.below (B:=w.heap.size) ah (Nat.le_refl _));rintro e w1 ⟨rfl,hb1⟩;obtain⟨g1,rfl⟩:=mob hb1;clear hb1))|(go_at_call 40;((with_reducible refine(CM.out _ ?_).mono ?_);(exact HF.out.below (B:=w.heap.size) ah (Nat.le_refl _));rintro e w2 ⟨rfl,hb2⟩;obtain⟨g2,rfl⟩:=mob hb2;clear hb2)))
     have hB0:Below w.heap.size w (more (more (w.alloc (.cells #[.int .i64 dim,.slice a q cap,.int .i64 den] 48)) g1) g2):=by exact bel
     have q0:(more (more (w.alloc (.cells #[.int .i64 dim,.slice a q cap,.int .i64 den] 48)) g1) g2).cell? ⟨w.heap.size,0,none⟩=some (.int .i64 dim):=by go_simp
     have hs0:w.heap.size<(more (more (w.alloc (.cells #[.int .i64 dim,.slice a q cap,.int .i64 den] 48)) g1) g2).heap.size:=by simp;omega
     have HF0:=Lib.hid (HF.out.below hB0 (Nat.le_refl _));have HB0:=Lib.hid hB0;clear hB0;generalize(more (more (w.alloc (.cells #[.int .i64 dim,.slice a q cap,.int .i64 den] 48)) g1) g2)=W0 at*
     (refine wp_region_quiet (C:=Ext _) aa aa (Ext.start _) ?_;simp only[];(repeat(first|go_big_quiet_skip|(go_big_quiet_want;go_big_quiet_op;first|go_big_quiet_on|(apply Exists.intro;refine⟨fun w' hw'=>?_,?_⟩;(focus(first|with_reducible exact rfl|(go_at_call 111;with_reducible exact Ext.call hw' (WI.out _ (HF0.out.below (Ext.below hw') (Nat.le_refl _))))|(obtain⟨gx,rfl⟩:=mob (Ext.below hw');go_simp;exact rfl)));go_big_quiet_on))));refine wpQuiet_nil ?_;intro w7 hw7;have hb7:=Ext.below hw7;clear hw7;obtain⟨g7,rfl⟩:=mob hb7;clear hb7)
     have hb7:Below W0.heap.size W0 (more W0 g7):=by exact bel
     go_wp2_with fail
     go_ret
     exact⟨by rw[E.out];rfl,HB0.out.trans (hb7.mono (by omega))⟩
    ·have d3:decide ((p:Int)=dim)=true:=by rw[decide_eq_true_iff];exact h3
     have d4:decide ((W:Int)=dim)=false:=by rw[decide_eq_false_iff_not];exact h4
     have E:Hid (R=9):=E4.out (by simp) (by simp) (fun h=>h4 h.2);clear E1 E2 E3 E4
     go_enter Tryz.func93,Tryz.ntmps93
     go_upto_region 7 with(first|(go_at_call 33;((with_reducible refine(CK.out _ ?_).mono ?_);(exact H.out.below (B:=w.heap.size) ah (Nat.le_refl _));rintro e w1 ⟨rfl,hb1⟩;obtain⟨g1,rfl⟩:=mob hb1;clear hb1))|(go_at_call 40;((with_reducible refine(CM.out _ ?_).mono ?_);(exact HF.out.below (B:=w.heap.size) ah (Nat.le_refl _));rintro e w2 ⟨rfl,hb2⟩;obtain⟨g2,rfl⟩:=mob hb2;clear hb2)))
     have hB0:Below w.heap.size w (more (more (w.alloc (.cells #[.int .i64 dim,.slice a q cap,.int .i64 den] 48)) g1) g2):=by exact bel
     have q0:(more (more (w.alloc (.cells #[.int .i64 dim,.slice a q cap,.int .i64 den] 48)) g1) g2).cell? ⟨w.heap.size,0,none⟩=some (.int .i64 dim):=by go_simp
     have hs0:w.heap.size<(more (more (w.alloc (.cells #[.int .i64 dim,.slice a q cap,.int .i64 den] 48)) g1) g2).heap.size:=by simp;omega
     have HF0:=Lib.hid (HF.out.below hB0 (Nat.le_refl _));have HB0:=Lib.hid hB0;clear hB0;generalize(more (more (w.alloc (.cells #[.int .i64 dim,.slice a q cap,.int .i64 den] 48)) g1) g2)=W0 at*
     (refine wp_region_quiet (C:=Ext _) aa aa (Ext.start _) ?_;simp only[];(repeat(first|go_big_quiet_skip|(go_big_quiet_want;go_big_quiet_op;first|go_big_quiet_on|(apply Exists.intro;refine⟨fun w' hw'=>?_,?_⟩;(focus(first|with_reducible exact rfl|(go_at_call 111;with_reducible exact Ext.call hw' (WI.out _ (HF0.out.below (Ext.below hw') (Nat.le_refl _))))|(obtain⟨gx,rfl⟩:=mob (Ext.below hw');go_simp;exact rfl)));go_big_quiet_on))));refine wpQuiet_nil ?_;intro w7 hw7;have hb7:=Ext.below hw7;clear hw7;obtain⟨g7,rfl⟩:=mob hb7;clear hb7)
     have hb7:Below W0.heap.size W0 (more W0 g7):=by exact bel
     go_wp2_with fail
     go_ret
     exact⟨by rw[E.out];rfl,HB0.out.trans (hb7.mono (by omega))⟩
   ·have d5:((p:Int)==dim)=false:=by simp[h3]
    have d6:((p:Int) !=dim)=true:=by simp[h3]
    have d3:decide ((p:Int)=dim)=false:=by rw[decide_eq_false_iff_not];exact h3
    have E:Hid (R=9):=E4.out (by simp) (by simp) (fun h=>h3 h.1);clear E1 E2 E3 E4
    go_enter Tryz.func93,Tryz.ntmps93
    go_upto_region 7 with(first|(go_at_call 33;((with_reducible refine(CK.out _ ?_).mono ?_);(exact H.out.below (B:=w.heap.size) ah (Nat.le_refl _));rintro e w1 ⟨rfl,hb1⟩;obtain⟨g1,rfl⟩:=mob hb1;clear hb1))|(go_at_call 40;((with_reducible refine(CM.out _ ?_).mono ?_);(exact HF.out.below (B:=w.heap.size) ah (Nat.le_refl _));rintro e w2 ⟨rfl,hb2⟩;obtain⟨g2,rfl⟩:=mob hb2;clear hb2)))
    have hB0:Below w.heap.size w (more (more (w.alloc (.cells #[.int .i64 dim,.slice a q cap,.int .i64 den] 48)) g1) g2):=by exact bel
    have q0:(more (more (w.alloc (.cells #[.int .i64 dim,.slice a q cap,.int .i64 den] 48)) g1) g2).cell? ⟨w.heap.size,0,none⟩=some (.int .i64 dim):=by go_simp
    have hs0:w.heap.size<(more (more (w.alloc (.cells #[.int .i64 dim,.slice a q cap,.int .i64 den] 48)) g1) g2).heap.size:=by simp;omega
    have HF0:=Lib.hid (HF.out.below hB0 (Nat.le_refl _));have HB0:=Lib.hid hB0;clear hB0;generalize(more (more (w.alloc (.cells #[.int .i64 dim,.slice a q cap,.int .i64 den] 48)) g1) g2)=W0 at*
    (refine wp_region_quiet (C:=Ext _) aa aa (Ext.start _) ?_;simp only[];(repeat(first|go_big_quiet_skip|(go_big_quiet_want;go_big_quiet_op;first|go_big_quiet_on|(apply Exists.intro;refine⟨fun w' hw'=>?_,?_⟩;(focus(first|with_reducible exact rfl|(go_at_call 111;with_reducible exact Ext.call hw' (WI.out _ (HF0.out.below (Ext.below hw') (Nat.le_refl _))))|(obtain⟨gx,rfl⟩:=mob (Ext.below hw');go_simp;exact rfl)));go_big_quiet_on))));refine wpQuiet_nil ?_;intro w7 hw7;have hb7:=Ext.below hw7;clear hw7;obtain⟨g7,rfl⟩:=mob hb7;clear hb7)
    have hb7:Below W0.heap.size W0 (more W0 g7):=by exact bel
    go_wp2_with fail
    go_ret
    exact⟨by rw[E.out];rfl,HB0.out.trans (hb7.mono (by omega))⟩
  ·have E:Hid (R=c2):=E2.out (by simp) h2;clear E1 E2 E3 E4
   go_enter Tryz.func93,Tryz.ntmps93
   go_wp2_with (first|(go_at_call 33;((with_reducible refine(CK.out _ ?_).mono ?_);(exact H.out.below (B:=w.heap.size) ah (Nat.le_refl _));rintro e w1 ⟨rfl,hb1⟩;obtain⟨g1,rfl⟩:=mob hb1;clear hb1))|(go_at_call 40;((with_reducible refine(CM.out _ ?_).mono ?_);(exact HF.out.below (B:=w.heap.size) ah (Nat.le_refl _));rintro e w2 ⟨rfl,hb2⟩;obtain⟨g2,rfl⟩:=mob hb2;clear hb2)))
   go_ret
   exact⟨by rw[E.out];rfl,by exact bel⟩
 ·have E:Hid (R=c1):=E1.out h1;clear E1 E2 E3 E4
  go_enter Tryz.func93,Tryz.ntmps93
  go_wp2_with (go_at_call 33;((with_reducible refine(CK.out _ ?_).mono ?_);(exact H.out.below (B:=w.heap.size) ah (Nat.le_refl _));rintro e w1 ⟨rfl,hb1⟩;obtain⟨g1,rfl⟩:=mob hb1;clear hb1))
  go_ret
  exact⟨by rw[E.out];rfl,by exact bel⟩
end
section
namespace Mx
def trM(n:Nat)(M:Mat):Mat:=(List.range n).map fun j=>M.map fun r=>r.getD j 0
theorem pD(n:Nat)(M:Mat):(trM n M).length=n:=by simp[trM]
theorem Kl(n:Nat)(M:Mat):Rc M.length (trM n M):=fun r hr=>by
 obtain⟨k,_,rfl⟩:=List.mem_map.1 hr;simp
theorem tE{n k:Nat}(M:Mat)(h:k<n):(trM n M)[k]?=some (M.map fun r=>r.getD k 0):=by
 unfold trM;rw[List.getElem?_map,List.getElem?_range h];rfl
theorem Kk{n k:Nat}(M:Mat)(h:k<n):rw (trM n M) k=M.map fun r=>r.getD k 0:=by
 unfold rw;rw[List.getD_eq_getElem?_getD,tE M h];rfl
theorem mC(M:Mat)(k i:Nat):(M.map fun r=>r.getD k 0).getD i 0=at' M i k:=by
 unfold at' rw;rw[List.getD_eq_getElem?_getD,List.getElem?_map,List.getD_eq_getElem?_getD (l:=M)]
 cases M[i]? with
 |none=>simp
 |some r=>simp
theorem Kn{n i j:Nat}(M:Mat)(h:i<n):at' (trM n M) i j=at' M j i:=by
 have:=mC M i j;rw[<-Kk M h]at this;exact this
theorem Km{n X:Nat}{M:Mat}(h:Bd X M):Bd X (trM n M):=fun i j=>by
 by_cases hi:i<n
 ·rw[Kn M hi];exact h j i
 ·rw[mJ (by rw[pD];omega)];simp
end Mx
end
section
open Go.RowKit Go.BigFrame
attribute [local go_sem ↓] Go.wp_at_zero Go.wp_at_succ
structure jX(w w':World)(base:Nat)(v v':Value)(l:List IV)(x:IV):Prop where
 own:dh w' base v' (l++[x])
 by':w.grownBy w' v.ownBlock
 at':v'.ownBlock=v.ownBlock\/v'.ownBlock=some w.heap.size
theorem tT{w:World}{base:Nat}{ty:TypeId}{v:Value}{l:List IV}{x:IV}(t:TypeId)(ht:Tryz.prog.underlying t=some (.slice 62))(hown:dh w base v l)(hl:l.length<=1000000000)(hbase:base<=w.heap.size)(b c:Nat)
  (h0:w.cell? ⟨b,0,none⟩=some (.bool x.s)) (h1:w.cell? ⟨b,1,none⟩=some (.slice x.a x.n x.cap)):
  ∃v' w',(Builtin.append_ #[t,t] ty #[v,.slice (some ⟨b,0,none⟩) 1 c]).run Tryz.prog w= .ok v' w'/\jX w w' base v v' l x:=by
 obtain⟨i0,hi0,hz0,hz1,hz2⟩:=eh qS;obtain⟨v',w',hr,h2,h3,_,h5⟩:=run_append_own_at (P:=Tryz.prog) (w:=w) base t ty 62 i0 _ 2 32 ht hi0 hz0 hz1 hz2 rfl (by omega) v l.length (cZ l) hown ⟨b,0,none⟩ 1 c (cZ [x]) rfl
  (fun j u hu=>by
   rw[ad0]
   match j with
   |0=>simp[cZ]at hu;subst hu;exact h0
   |1=>simp[cZ]at hu;subst hu;exact h1
   |j+2=>simp[cZ]at hu)
  (fun u hu=>by simp[cZ]at hu;rcases hu with rfl|rfl<;>rfl) oh (by omega) hbase
 exact⟨v',w',hr,by unfold dh;rw[List.length_append,qp];exact h2,h3,h5⟩
theorem rK{ops:Array Oper}{o:Oper}{a:Act}{w:World}{K:Act->World->Prop}{Q:Exit->Act->World->Prop}{E:Prop}{base:Nat}(t:TypeId)(ht:Tryz.prog.underlying t=some (.slice 62))
  (hgd:o.guard=none) (s y:Operand) (ho:o.op= .call {callee:=.builtin .append,args:=#[s,y],argTypes:=#[t,t]}) {v:Value} {l:List IV} {x:IV} {b c:Nat} (hs:a.eval s=v) (hx:a.eval y= .slice (some ⟨b,0,none⟩) 1 c)
  (hown:dh w base v l) (hl:l.length<=1000000000) (hbase:base<=w.heap.size) (h0:w.cell? ⟨b,0,none⟩=some (.bool x.s)) (h1:w.cell? ⟨b,1,none⟩=some (.slice x.a x.n x.cap))
  (hK:∀v' w',jX w w' base v v' l x->K (a.put o.dst v') w'):if Region.wanted o (yielded ops a.tmps)=true then Oper.wp Tryz.prog o a w K Q else E:=by
 obtain⟨v',w',hr,hg⟩:=tT (ty:=o.type) t ht hown hl hbase b c h0 h1;exact rJ hgd s y t t ho v' (by rw[hs,hx];exact hr) (hK v' w' hg)
theorem jX.shape{w w':World}{base:Nat}{v v':Value}{l:List IV}{x:IV}(h:jX w w' base v v' l x):∃g c,v'= .slice (some ⟨g,0,none⟩) (l.length+1) c/\base<=g/\g<w'.heap.size:=by
 obtain⟨_,h⟩:=h.own;rw[List.length_append,List.length_singleton]at h;rcases h with⟨_,hn⟩|⟨g,cap,cur,rfl,hb,hg,_⟩
 ·omega
 ·exact⟨g,cap,rfl,hb,(Array.getElem?_eq_some_iff.1 hg).1⟩
theorem jX.chg{w w':World}{base:Nat}{v v':Value}{l:List IV}{x:IV}(h:jX w w' base v v' l x)(hown:dh w base v l):∀b,b<base->b<w.heap.size->w'.heap[b]?=w.heap[b]?:=fun b hb hs=>
 h.by'.block b hs (fun e=>by
  have:=(World.ownsRow.lt hown b e.symm).1;omega)
theorem MB.row{w w':World}{B gm L:Nat}{gs cs:Nat->Nat}{n:Nat}{M:Mx.Mat}(h:MB w B gm L gs cs n M){g c:Nat}{b:Option Addr}{zs:List Int}(k:Chg gm w w')(hL:M.length<L)(hz:zs.length=n)(hc:n<=c)(hA:AD b)
  (hcell:∀i,i≠M.length->w'.cell? ⟨gm,i,none⟩=w.cell? ⟨gm,i,none⟩) (hnew:w'.cell? ⟨gm,M.length,none⟩=some (.slice b n c)) (hfr:∀i,w'.frozen? ⟨gm,i,none⟩=false)
  (hr:0<n->b=some ⟨g,0,none⟩/\RO w' g zs/\B<=g/\g≠gm/\∀i,i<M.length->gs i≠g):
  MB w' B gm L (fun i=>if i=M.length then g else gs i) (fun i=>if i=M.length then c else cs i) n (M++[zs]):=by
 refine⟨h.b,Nat.lt_of_lt_of_le h.lt k.size,hfr,fun l hl=>?_,fun m e=>?_,by simp;omega,fun r hr=>?_,fun l hl=>?_,fun h0 a b ha hb hab=>?_⟩
 ·by_cases e:l=M.length
  ·exact⟨_,by rw[e];exact hnew⟩
  ·rw[hcell l e];exact h.hl l hl
 ·by_cases e2:0=M.length
  ·rw[<-e2]at hnew;rw[hnew]at e;cases e
  ·rw[hcell 0 e2]at e;exact h.nw m e
 ·rcases List.mem_append.1 hr with h1|h1
  ·exact h.rc r h1
  ·rw[List.mem_singleton.1 h1];exact hz
 ·simp only[List.length_append,List.length_singleton]at hl;rw[tQ];by_cases e:l=M.length
  ·subst e;rw[hnew,if_pos rfl,if_pos rfl,if_pos rfl];exact⟨b,rfl,hc,hA,fun h0=>⟨(hr h0).1,(hr h0).2.2.1,(hr h0).2.2.2.1,(hr h0).2.1⟩⟩
  ·obtain⟨b',h1,h2,hA',h3⟩:=h.hc l (by omega);rw[hcell l e,h1,if_neg e,if_neg e,if_neg e];exact⟨b',rfl,h2,hA',fun h0=>⟨(h3 h0).1,(h3 h0).2.1,(h3 h0).2.2.1,(h3 h0).2.2.2.chg k h.nw (h3 h0).2.2.1⟩⟩
 ·simp only[List.length_append,List.length_singleton]at ha hb;by_cases a1:a=M.length
  ·rw[if_pos a1,if_neg (by omega)];exact fun e=>(hr h0).2.2.2.2 b (by omega) e.symm
  ·rw[if_neg a1];by_cases b1:b=M.length
   ·rw[if_pos b1];exact(hr h0).2.2.2.2 a (by omega)
   ·rw[if_neg b1];exact h.dj h0 a b (by omega) (by omega) hab
theorem jX.iz{w w':World}{base:Nat}{v v':Value}{l:List IV}{x:IV}(h:jX w w' base v v' l x)(hown:dh w base v l)(h0:l=[]->v= .slice none 0 0){y:IV}{z:Int}(hy:IZ w y z):IZ w' y z:=by
 cases hv:v.ownBlock with
 |none=>exact hy.below (B:=w.heap.size) ⟨h.by'.os,h.by'.tape,h.by'.output,h.by'.size,fun k hk=>h.by'.block k hk (by rw[hv];simp)⟩ (Nat.le_refl _)
 |some b=>
  refine hy.chg (g:=b) ⟨h.by'.os,h.by'.tape,h.by'.output,h.by'.size,fun k hk hkb=>h.by'.block k hk (by rw[hv];simp only[ne_eq,Option.some.injEq];exact hkb)⟩ fun n e=>?_;obtain⟨_,hown⟩:=hown
  match l,h0,hown with
  |[],h0,_=>rw[h0 rfl]at hv;cases hv
  |y::l,_,hown=>
   rcases hown with⟨_,hn⟩|⟨g,cap,cur,rfl,_,hg,hle,hm,hsz,htk⟩
   ·simp at hn
   ·have:g=b:=by simpa[Value.ownBlock]using hv
    subst this;rw[cell_of_row w g _ cur _ (0,0) hg]at e;have h1:(cZ (y::l))[0]?=some (.int .u32 n):=by
     rw[<-htk,List.getElem?_take_of_lt (by simp),Array.getElem?_toList];exact e
    simp[cZ]at h1
structure yg(W1 w:World)(gm k:Nat)(zs:List Int)(j:Nat)(v:Value):Prop where
 c:Chg gm W1 w
 o:∀i,i≠k->w.cell? ⟨gm,i,none⟩=W1.cell? ⟨gm,i,none⟩
 h:w.cell? ⟨gm,k,none⟩=some v
 f:∀i,w.frozen? ⟨gm,i,none⟩=false
 nw:NW w gm
 v0:∀n,v≠ .int .u32 n
 r:∃l:List IV,l.length=j/\dh w W1.heap.size v l/\(l=[]->v= .slice none 0 0)/\∀(t:Nat) (x:IV) (z:Int),l[t]?=some x->zs[t]?=some z->IZ w x z
theorem yg.step{W1 wr W w6:World}{gm k j:Nat}{zs:List Int}{v v':Value}{l:List IV}{x:IV}{z:Int}(h:yg W1 wr gm k zs j v)(hgm:gm<W1.heap.size)(hl:l.length=j)(hl0:l=[]->v= .slice none 0 0)(hiz:∀(t:Nat) (x:IV) (z:Int),l[t]?=some x->zs[t]?=some z->IZ wr x z)
  (hb:Below wr.heap.size wr W) (hown:dh W W1.heap.size v l) (hg:jX W w6 W1.heap.size v v' l x) (hz:zs[j]?=some z) (hx:IZ wr x z):yg W1 (w6.setCell ⟨gm,k,none⟩ v') gm k zs (j+1) v':=by
 have hs1:W1.heap.size<=wr.heap.size:=h.c.size;have hgr:gm<wr.heap.size:=by omega
 have hgW:gm<W.heap.size:=Nat.lt_of_lt_of_le hgr hb.size;have e6:∀b,b<W1.heap.size->w6.heap[b]?=wr.heap[b]?:=fun b hbl=>(hg.chg hown b hbl (Nat.lt_of_lt_of_le (Nat.lt_of_lt_of_le hbl hs1) hb.size)).trans (hb.block b (by omega));have ec:∀i,w6.cell? ⟨gm,i,none⟩=wr.cell? ⟨gm,i,none⟩:=fun i=>World.cell?_of_block (e6 gm hgm);have ef:∀i,w6.frozen? ⟨gm,i,none⟩=wr.frozen? ⟨gm,i,none⟩:=fun i=>frozen?_of_block (e6 gm hgm);have nw6:NW w6 gm:=h.nw.jZ (ec 0);have kc:Chg gm W1 w6:=⟨hg.by'.os.trans (hb.os.trans h.c.os),hg.by'.tape.trans (hb.tape.trans h.c.tape),hg.by'.output.trans (hb.output.trans h.c.output),Nat.le_trans hs1 (Nat.le_trans hb.size hg.by'.size),fun b hbl hne=>(e6 b hbl).trans (h.c.block b hbl hne)⟩;have k6:Chg gm w6 (w6.setCell ⟨gm,k,none⟩ v'):=(Chg.refl gm w6).set gm _ _ (.inl rfl);obtain⟨g',c',hv',hb',hlt'⟩:=hg.shape;have hv0:∀n,v'≠ .int .u32 n:=fun n e=>by rw[hv']at e;cases e
 have cell:∀i u,w6.cell? ⟨gm,i,none⟩=some u->(w6.setCell ⟨gm,k,none⟩ v').cell? ⟨gm,i,none⟩=some (if i=k then v' else u):=fun i u hu=>by
  by_cases e:i=k
  ·rw[if_pos e,<-e];exact cw _ _ _ _ _ hu
  ·rw[if_neg e,bN _ _ _ _ _ e];exact hu
 refine⟨kc.trans k6,fun i hi=>?_,?_,fun i=>?_,fun n e=>?_,hv0,l++[x],by simp[hl],?_,fun e=>by simp at e,fun t y z' ht hz'=>?_⟩
 ·rw[bN _ _ _ _ _ hi,ec];exact h.o i hi
 ·exact(cell k v ((ec k).trans h.h)).trans (by rw[if_pos rfl])
 ·rw[World.frozen?_setCell,ef];exact h.f i
 ·by_cases e0:0=k
  ·subst e0;have h1:=cell 0 v ((ec 0).trans h.h);rw[if_pos rfl]at h1;rw[h1]at e;exact hv0 n jr
  ·rw[bN _ _ _ _ _ e0]at e;exact nw6 n e
 ·exact World.ownsRow.kept (row:=some gm) hg.own ⟨k6.os,k6.tape,k6.output,k6.size,fun b hbl hne=>k6.block b hbl (fun e=>hne (by rw[e]))⟩ (.inr (by rw[hv'];simp[Value.ownBlock];omega))
 ·have hy : IZ wr y z' := by
   by_cases e:t<l.length
   ·rw[List.getElem?_append_left e]at ht;exact hiz t y z' ht hz'
   ·have e2 : t = l.length := by
     have:=(List.getElem?_eq_some_iff.1 ht).1;simp at this;omega
    rw[e2,List.getElem?_append_right (Nat.le_refl _),Nat.sub_self]at ht;simp at ht;rw[e2,hl,hz]at hz';cases hz';rw[<-ht];exact hx
  exact((hg.iz hown hl0 (hy.below hb (Nat.le_refl _))).chg k6 nw6)
set_option maxRecDepth 10000 in
set_option maxHeartbeats 8000000 in
theorem tD(M:Mx.Mat)(n:Nat)(v:Value)(h0:M≠[])(hm:M.length<=1000000)(hn:n<=1000000)(w:World)(h:MR w v n M):
  Calls Tryz.prog 98 #[v] w (lL w M.length (Mx.trM n M)):=by
 obtain⟨a,cap,rfl,_,hr,h4⟩:=h.row;have HM0:0<M.length:=List.length_pos_iff.2 h0;have RC:Hid (Mx.Rc n M):=hr;rcases h4 with h4|⟨gq,om,rfl,hgl,hcc⟩
 ·exact absurd h4 h0
 have HCC:Hid _:=hcc;obtain⟨b0,c0,k0,_⟩:=hcc 0 HM0;have hmk:=lx n (by omega);have hm2:¬M.length=0:=by omega
 have hm1:¬(M.length:Int)=0:=by omega
 have TL:=Lib.hid (Mx.pD n M);generalize hml:M.length=q at*;have HQ:=Lib.hid hml;clear hml h0 hcc h hr;have hq0:(0:Int)<(q:Int):=by omega
 have hm3:((q:Int)==0)=false:=by rw[beq_eq_false_iff_ne];exact hm1
 rw[Nat.add_zero]at k0
 go_enter Tryz.func98,Tryz.ntmps98
 go_wp2_with fail
 have hgm0:w.heap.size<(w.alloc (.cells (madeCells #[.slice none 0 0] n) 147)).heap.size:=by simp
 go_loopw [17] (fun i wr=>∃(k:Nat) (gs cs:Nat->Nat),k<=n/\i= .int .i64 ((k:Int))/\Hid (Below w.heap.size w wr)/\w.heap.size<wr.heap.size/\Hid (MB wr w.heap.size w.heap.size n gs cs q ((Mx.trM n M).take k))/\Hid (∀i,k<=i->i<n->wr.cell? ⟨w.heap.size,i,none⟩=some (.slice none 0 0))) (fun i _=>n-(intOf i).toNat)
 case atStart=>
  refine⟨0,id,id,by omega,rfl,by show Below _ _ _;exact bel,by simp,MB.made w w.heap.size n q id id (Nat.le_refl _),fun i _ hi=>?_⟩;rw[cell_of_row _ w.heap.size _ _ _ (0,0) (heap_alloc_new w _)];exact si n i hi
 case round=>
  obtain⟨k,gs,cs,hk,rfl,HB,hlt,HR,HN⟩:=hrel;by_cases hkn:k<n
  ·have hkn2:(k:Int)<(n:Int):=by omega
   obtain⟨W1,hW1⟩:∃W,W=wr:=⟨wr,rfl⟩;have hkl:((Mx.trM n M).take k).length=k:=by rw[List.length_take,TL.out];omega
   have HKL:=Lib.hid hkl;have hcs:yg W1 wr w.heap.size k (M.map fun r=>r.getD k 0) 0 (.slice none 0 0):=by
    subst hW1;exact⟨Chg.refl _ _,fun i _=>rfl,HN.out k (Nat.le_refl _) hkn,HR.out.fr,HR.out.nw,(fun n e=>by cases e),[],rfl,dh.nil _ _,fun _=>rfl,fun t x z ht=>by simp at ht⟩
   have HCS:=Lib.hid hcs;have hlt1:w.heap.size<W1.heap.size:=by rw[hW1];exact hlt
   have HB1:Hid (Below w.heap.size w W1):=by subst hW1;exact HB.out
   have HR1:Hid (MB W1 w.heap.size w.heap.size n gs cs q ((Mx.trM n M).take k)):=by subst hW1;exact HR.out
   have HN1:Hid (∀i,k<=i->i<n->W1.cell? ⟨w.heap.size,i,none⟩=some (.slice none 0 0)):=by subst hW1;exact HN.out
   clear hcs hkl HB HR HN hlt
   go_wp2_with fail
   go_loopw [22] (fun i wx=>∃(j:Nat) (v:Value),j<=q/\i= .int .i64 ((j:Int))/\Hid (yg W1 wx w.heap.size k (M.map fun r=>r.getD k 0) j v)) (fun i _=>q-(intOf i).toNat)
   case atStart=>exact⟨0,_,by omega,rfl,HCS.out⟩
   case round=>
    obtain⟨j,vj,hj,rfl,HC⟩:=hrel;have hs1:W1.heap.size<=wr.heap.size:=HC.out.c.size;have hgr:w.heap.size<wr.heap.size:=by omega
    by_cases hjq:j<q
    ·have hjq2:(j:Int)<(q:Int):=by omega
     have hbx:Below w.heap.size w wr:=HC.out.c.below HB1.out (Nat.le_refl _) (Nat.le_of_lt hlt1);obtain⟨b,c,cz,hza⟩:=HCC.out j hjq;obtain⟨b',c',e',hc5,hl5,hA5,hz5⟩:=hza;cases e';have cz2:=(hbx.cell (p:=⟨gq,om+j,none⟩) hgl).trans cz;obtain⟨g,o,rfl,hra⟩:∃g o,b=some ⟨g,o,none⟩/\RA wr g o (Mx.rw M j):=by
      rcases hz5 with h|⟨g,o,e,h5⟩
      ·omega
      ·exact⟨g,o,e,h5.below hbx (Nat.le_refl _)⟩
     have hrl:(Mx.rw M j).length=n:=RC.out.rw (by rw[HQ.out];exact hjq);obtain⟨x,x0,x1,xz⟩:=hra.c k _ (getD_some (by rw[hrl];exact hkn));have HX:Hid (IZ wr x (Mx.at' M j k)):=xz;have HZJ:Hid ((M.map fun r=>r.getD k 0)[j]?=some (Mx.at' M j k)):=by
      have:=getD_some (l:=M.map fun r=>r.getD k 0) (k:=j) (by rw[List.length_map,HQ.out];exact hjq);rw[Mx.mC]at this;exact this
     have hg2:g<wr.heap.size:=hra.lt;obtain⟨l,hll,hown,hl0,hiz⟩:=HC.out.r;have h5:=HC.out.h;have f5:=HC.out.f k;have HO:=Lib.hid hown;have HL0:=Lib.hid hl0;have HIZ:Hid _:=hiz;have HLL:=Lib.hid hll;have hll2:l.length<=1000000000:=by omega
     have HLB:=Lib.hid hll2;obtain⟨xs,xa,xn,xc⟩:=x;simp only[]at x0 x1;clear cz hz5 hra hrl xz hown hl0 hiz hll hll2 hbx
     go_upto_region 10 with fail
     go_region_law (refine rK (x:=⟨xs,xa,xn,xc⟩) (b:=wr.heap.size) (c:=1) (l:=l) (v:=vj) (base:=W1.heap.size) 147 Tryz.underlying147 rfl (.tmp 31) (.tmp 36) rfl rfl rfl ?_ HLB.out ?_ ?_ ?_ ?_;(exact HO.out.low ah);(focus(first|omega|(simp;omega)));(focus(go_simp));(focus(go_simp));intro v6 w6 hg6;have hc6:w6.cell? ⟨w.heap.size,k,none⟩=some vj:=((World.cell?_of_block ((hg6.chg (HO.out.low ah) w.heap.size hlt1 bH).trans ((show Below wr.heap.size wr (wr.alloc (.cells #[.bool xs,.slice xa xn xc] 62)) by exact bel).block _ hgr))).trans h5);have hf6:w6.frozen? ⟨w.heap.size,k,none⟩=false:=((frozen?_of_block ((hg6.chg (HO.out.low ah) w.heap.size hlt1 bH).trans ((show Below wr.heap.size wr (wr.alloc (.cells #[.bool xs,.slice xa xn xc] 62)) by exact bel).block _ hgr))).trans f5);have HS6:=Lib.hid (HC.out.step hlt1 HLL.out HL0.out HIZ.out ah (HO.out.low ah) hg6 HZJ.out HX.out);obtain⟨g6,c6,rfl,_⟩:=hg6.shape;clear hg6)
     all_goals(go_wp2_with fail)
     all_goals go_roundw
     all_goals(first|(exact⟨j+1,_,by omega,by go_num,HS6.out⟩)|(simp[intOf];omega))
    ·obtain rfl:j=q:=by omega
     have hjq2:¬(j:Int)<(j:Int):=by omega
     go_wp2_with fail
     go_roundw
     case rel=>
      obtain⟨l,hll,hown,_,hiz⟩:=HC.out.r;obtain⟨b,g,c,hv,hc,hro⟩:=hown.ro (zs:=M.map fun r=>r.getD k 0) (by rw[List.length_map,HQ.out,hll]) hiz;rw[List.length_map,HQ.out]at hv hc hro;obtain⟨rfl,hgb,hro⟩:=hro (by omega);have hnew:=HC.out.h;rw[hv]at hnew;have hp:=HR1.out.row (g:=g) (c:=c) (zs:=M.map fun r=>r.getD k 0) HC.out.c (by rw[HKL.out];exact hkn) (by rw[List.length_map,HQ.out]) hc (AD.some _ _) (by rw[HKL.out];exact HC.out.o) (by rw[HKL.out];exact hnew) HC.out.f (fun h0=>⟨rfl,hro,by omega,by omega,fun i hi=>by
       obtain⟨b2,_,_,_,h6⟩:=HR1.out.hc i hi;have:=(h6 h0).2.2.2.lt;omega⟩)
      rw[<-lh (Mx.tE M hkn)]at hp;exact⟨k+1,_,_,by omega,by go_num,HC.out.c.below HB1.out (Nat.le_refl _) (Nat.le_of_lt hlt1),hgr,hp,fun i hi hi2=>(HC.out.o i (by omega)).trans (HN1.out i (by omega) hi2)⟩
     case measure=>simp[intOf];omega
  ·obtain rfl:k=n:=by omega
   have hkn2:¬(k:Int)<(k:Int):=by omega
   go_wp2_with fail
   have hp:=HR.out;rw[List.take_of_length_le (by rw[TL.out];exact Nat.le_refl _)]at hp;have hb:=HB.out
   go_ret
   exact⟨⟨w.heap.size,gs,cs,k,by rw[TL.out];rfl,by rw[TL.out];exact Nat.le_refl _,by rw[TL.out];exact hp⟩,hb⟩
end
end Go.Proofs.YtcgjmdpcplhanaaGreat
