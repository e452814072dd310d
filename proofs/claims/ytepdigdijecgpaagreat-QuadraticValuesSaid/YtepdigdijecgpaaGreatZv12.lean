/- Lemmas for the law: F12 LJ -/
import Derived.Test.YtepdigdijecgpaaGreatRows
import Derived.JoinedOf
import Derived.WalkKit
import Derived.Test.YtepdigdijecgpaaGreatZv11
namespace Go.Proofs.YtepdigdijecgpaaGreat
section
theorem yN{p q:Prop}(h:q)(f:Wq q->p:=by(intro hW;((first|(refine aLs rfl rfl rfl rfl ?_ ?_;(focus(apply bH;(conv=>lhs;whnf);(first|done|exact rfl|(apply bB;(first|(apply au;omega)|(apply aw;omega)|assumption|(simp;done)))))))|refine aLw rfl rfl rfl rfl cO yV ?_));exact hW.out)):p:=f ⟨h⟩
theorem yO{p q:Prop}(h:q)(f:Wq q->p:=by(intro hW;((first|(refine aLs rfl rfl rfl rfl ?_ ?_;(focus(apply bH;(conv=>lhs;whnf);(first|done|exact rfl|(apply bB;(first|(apply au;omega)|(apply aw;omega)|assumption|(simp;done)))))))|refine aLw rfl rfl rfl rfl cO yT ?_));exact hW.out)):p:=f ⟨h⟩
theorem Ed{p q:Prop}(h:q)(f:Wq q->p:=by(intro hW;((first|(refine aLs rfl rfl rfl rfl ?_ ?_;(focus(apply bH;(conv=>lhs;whnf);(first|done|exact rfl|(apply bB;(first|(apply au;omega)|(apply aw;omega)|assumption|(simp;done)))))))|refine aLw rfl rfl rfl rfl cO zb20 ?_));exact hW.out)):p:=f ⟨h⟩
theorem Di{p q:Prop}(h:q)(f:Wq q->p:=by(intro hW;(refine bD ?_;refine zs75 ?_;refine dE ?_;refine Ed ?_;refine iq ?_;refine dE ?_;refine Ed ?_;refine iq ?_;refine dE ?_;refine mi ?_;refine yO ?_;refine yN ?_;refine iq ?_;refine dE ?_;refine mi ?_;refine yO ?_;refine yN ?_;refine iq ?_;refine dE ?_;refine mi ?_;refine yO ?_;refine yN ?_;refine iq ?_;refine aJ ?_);exact hW.out)):p:=f ⟨h⟩
theorem zs98{p q:Prop}(h:q)(f:Wq q->p:=by(intro hW;(refine aL1 rfl rfl rfl (by(apply Ga;(exact rfl);(assumption);(exact rfl))) ?_);exact hW.out)):p:=f ⟨h⟩
theorem yE{p q:Prop}(h:q)(f:Wq q->p:=by(intro hW;(refine gar ?_;refine zs98 ?_;refine iV ?_;refine aJ ?_);exact hW.out)):p:=f ⟨h⟩
theorem yD{p q:Prop}(h:q)(f:Wq q->p:=by(intro hW;(refine gar ?_;refine ed ?_;refine dZ ?_;refine iV ?_;refine dE ?_;refine zs83 ?_;refine uI ?_;refine iq ?_;refine aJ ?_);exact hW.out)):p:=f ⟨h⟩
theorem yn{p q:Prop}(h:q)(f:Wq q->p:=by(intro hW;(refine aL1 rfl rfl rfl (by(apply wE;(exact rfl);(focus((apply ao;(conv=>lhs;whnf);(first|done|exact rfl))));(exact rfl))) ?_);exact hW.out)):p:=f ⟨h⟩
theorem yC{p q:Prop}(h:q)(f:Wq q->p:=by(intro hW;(refine gar ?_;refine ed ?_;refine dZ ?_;refine dZ ?_;refine zs3 ?_;refine yn ?_;refine yn ?_;refine zs8 ?_;refine cM ?_);exact hW.out)):p:=f ⟨h⟩
theorem zs160{p q:Prop}(h:q)(f:Wq q->p:=by(intro hW;(refine gar ?_;refine ed ?_;refine dZ ?_;refine zs3 ?_;refine dZ ?_;refine jY ?_;refine zs3 ?_;refine yn ?_;refine yn ?_;refine zs8 ?_;refine cM ?_);exact hW.out)):p:=f ⟨h⟩
theorem yB{p q:Prop}(h:q)(f:Wq q->p:=by(intro hW;(refine oH ?_;refine yE ?_;refine aQ ?_;refine yD ?_;refine aQ ?_;refine zs160 ?_;refine zs1 ?_;refine yC ?_;refine zs1 ?_;refine yC ?_;refine zs1 ?_;refine yC ?_;refine zs1 ?_;refine ud ?_;refine zs1 ?_;refine oJ ?_);exact hW.out)):p:=f ⟨h⟩
theorem Df{p q:Prop}(h:q)(f:Wq q->p:=by(intro hW;(refine yB ?_;refine aQ ?_;refine Di ?_;refine aQ ?_;refine qH ?_;refine aQ ?_;refine bD ?_;refine uK ?_;refine yr ?_;refine iV ?_;refine aJ ?_);exact hW.out)):p:=f ⟨h⟩
theorem qJ{p q:Prop}(h:q)(f:Wq q->p:=by(intro hW;((first|(refine aLs rfl rfl rfl rfl ?_ ?_;(focus(apply bH;(conv=>lhs;whnf);(first|done|exact rfl|(apply bB;(first|(apply au;omega)|(apply aw;omega)|assumption|(simp;done)))))))|refine aLw rfl rfl rfl rfl cO zb21 ?_));exact hW.out)):p:=f ⟨h⟩
theorem Dh{p q:Prop}(h:q)(f:Wq q->p:=by(intro hW;(refine bD ?_;refine yy ?_;refine dE ?_;refine qJ ?_;refine zs7 ?_;refine cM ?_);exact hW.out)):p:=f ⟨h⟩
end
section
open Go.RowKit
namespace DW
set_option maxRecDepth 20000
set_option maxHeartbeats 2000000
theorem Cz(N:Int)(g:Mx.Mat)(x:List Int)(h:sm6 g=false\/6<x.length):Fn Tryz.prog 14 [qF N g,dI x] (.sc (.bool true)):=by
 have AW:=qC;have SM:=vu N g
 cases hs:sm6 g with
 |false=>
  rw[hs]at SM;refine aH Tryz.func14 ak rfl rfl rfl fun X0=>?_;simp only[az];refine oH ?_;refine yE ?_;refine aQ ?_;refine yD ?_;refine oG ?_;exact⟨_,Sh.refl,.one (.tmp 4) _ rfl (.tmp 4 rfl)⟩
 |true=>
  rw[hs]at SM;have h6:6<x.length:=by
   rcases h with h|h
   ·rw[h]at hs;cases hs
   ·exact h
  refine aH Tryz.func14 ak rfl rfl rfl fun X0=>?_;simp only[az];refine oH ?_;refine yE ?_;refine aQ ?_;refine yD ?_;refine oG ?_;exact⟨_,Sh.refl,.one (.tmp 4) _ rfl (.tmp 4 rfl)⟩
theorem FF(N C:Int)(g:Mx.Mat)(x:List Int)(hC:C≠0)(hx:x.length<=6)(SM:Fn Tryz.prog 46 [qF N g] (.sc (.bool true)))(CP:Fn Tryz.prog 48 [qF N g] (qF N g))(PC:Fn Tryz.prog 47 [qF N g] (zI C))(RC:Fn Tryz.prog 49 [qF N g] (zI C)):Fn Tryz.prog 14 [qF N g,dI x] (.sc (.bool true)):=by
 have AW:=qC;have CX:=nu x aa;have PV:=GZ N C g x hC PC;have PD:=G5 N C g hC PC;have PL:=G4 N C g hC PC;have PN:=G6 N C g hC PC;have h6:decide ((x.length:Int)>6)=false:=aw aa;have hCd:(!decide (C=0))=true:=by rw[aw hC];rfl
 clear PC;refine aH Tryz.func14 ak rfl rfl rfl fun X0=>?_;simp only[az];refine yB ?_;refine bP ?_;refine cN ?_;refine zs57 ?_;refine dE ?_;refine zs5 ?_;refine uH ?_;refine zs7 ?_;refine dE ?_;refine zs5 ?_;refine uH ?_;refine zs7 ?_;refine dE ?_;refine zs5 ?_;refine uH ?_;refine zs7 ?_;refine dE ?_;refine qJ ?_;refine zs7 ?_;refine dE ?_;refine qJ ?_;refine zs7 ?_;refine dE ?_;refine qJ ?_;refine zs7 ?_;refine dE ?_;refine qJ ?_;refine zs7 ?_;refine cA ?_;exact⟨_,Sh.refl,.one (.tmp 4) _ rfl (.tmp 4 rfl)⟩
theorem sY(N D L C v e:Int)(g:Mx.Mat)(x:List Int)(hx:x.length<=6)(SM:Fn Tryz.prog 46 [qF N g] (.sc (.bool true)))(CP:Fn Tryz.prog 48 [qF N g] (qF N g))(RC:Fn Tryz.prog 49 [qF N g] (zI 0))
  (PD:Fn Tryz.prog 80 [qF N g] (.tp [zI D,zI 0])) (PL:Fn Tryz.prog 81 [qF N g] (.tp [zI L,zI 0])) (PN:Fn Tryz.prog 82 [qF N g] (.tp [zI C,zI 0]))
  (RD:Fn Tryz.prog 83 [qF N g] (zI D)) (RL:Fn Tryz.prog 84 [qF N g] (zI L)) (RN:Fn Tryz.prog 85 [qF N g] (zI C))
  (PV:Fn Tryz.prog 78 [qF N g,dI x] (.tp [zI v,zI e]))
  (h:((x.length:Int)≠N/\v=0/\e=9)\/((x.length:Int)=N/\Fn Tryz.prog 86 [.ls 1 [dI x],zI 1000000] (.sc (.bool false))/\v=0/\e=2)\/((x.length:Int)=N/\Fn Tryz.prog 86 [.ls 1 [dI x],zI 1000000] (.sc (.bool true))/\e=0/\Fn Tryz.prog 87 [qF N g,dI x] (zI v))):
  Fn Tryz.prog 14 [qF N g,dI x] (.sc (.bool true)):=by
 have AW:=qC;have CX:=nu x aa;have h6:decide ((x.length:Int)>6)=false:=aw aa;have h00:(!decide ((0:Int)=0))=false:=rfl;have hDD:(!decide (D=D))=false:=by rw[au rfl];rfl
 have hLL:(!decide (L=L))=false:=by rw[au rfl];rfl
 have hCC:(!decide (C=C))=false:=by rw[au rfl];rfl
 rcases h with⟨hxN,rfl,rfl⟩|⟨hxN,SZ,rfl,rfl⟩|⟨hxN,SZ,rfl,RV⟩
 ·have hd:(!decide ((x.length:Int)=N))=true:=by rw[aw hxN];rfl
  refine aH Tryz.func14 ak rfl rfl rfl fun X0=>?_;simp only[az];refine yB ?_;refine aQ ?_;refine Di ?_;refine aQ ?_;refine qH ?_;refine bP ?_;refine Dh ?_;refine zs1 ?_;exact⟨_,Sh.refl,.one (.tmp 4) _ rfl (.tmp 4 rfl)⟩
 ·have hd:(!decide ((x.length:Int)=N))=false:=by rw[au hxN];rfl
  refine aH Tryz.func14 ak rfl rfl rfl fun X0=>?_;simp only[az];refine Df ?_;refine bP ?_;refine Dh ?_;refine zs1 ?_;exact⟨_,Sh.refl,.one (.tmp 4) _ rfl (.tmp 4 rfl)⟩
 ·have hd:(!decide ((x.length:Int)=N))=false:=by rw[au hxN];rfl
  refine aH Tryz.func14 ak rfl rfl rfl fun X0=>?_;simp only[az];refine Df ?_;refine aQ ?_;refine bD ?_;refine yy ?_;refine dE ?_;refine mi ?_;refine zs5 ?_;refine yu ?_;refine uH ?_;refine zs7 ?_;refine cA ?_;have EC:decide (v=v)=true:=au rfl;rw[<-EC];exact⟨_,Sh.refl,.one (.tmp 4) _ rfl (.tmp 4 rfl)⟩
theorem zJ(N:Int)(g:Mx.Mat)(x:List Int):Fn Tryz.prog 14 [qF N g,dI x] (.sc (.bool true)):=by
 by_cases h0:sm6 g=false\/6<x.length
 ·exact Cz N g x h0
 ·have hs : sm6 g = true := by
   cases hb:sm6 g with
   |true=>rfl
   |false=>exact absurd (.inl hb) h0
  have hx:x.length<=6:=by
   by_cases h:x.length<=6
   ·exact h
   ·exact absurd (.inr aa) h0
  obtain⟨hg,hr⟩:=GK hs;have hg':g.length<=1000000:=by omega
  have hr':∀l∈g,l.length<=1000000:=fun l hl=>by have:=hr l hl;omega
  have SM:=vu N g;rw[hs]at SM;have CP:=C2 N g hg' hr';obtain⟨C,_,_,PC,RC,hC⟩:=E7 g hg' hr' N;by_cases hc:C=0
  ·subst hc;obtain⟨n,rfl,hl,h2,h4,hR,hb,hq⟩:=hC rfl;have hB:Mx.Bd 1000 g:=px (m:=1000) hb (ah _);have hB2:Mx.Bd 20000 g:=px (m:=1000) hb aa;obtain⟨d,hd⟩:∃d:Nat,Mx.D n (Mx.at' g)=(d:Int):=⟨(Mx.D n (Mx.at' g)).toNat,by have:=hq.2.2 n aa (ah n);omega⟩;have hd0:0<d:=by have:=hq.2.2 n aa (ah n);omega
   have DT:=nX n g h4 hl hR hB2;have RD:=A4 hl hR hB2 h4;rw[hd]at DT RD;have RN:=GR hl hR hB h4;rw[Gi hq.1]at RN;have hsz:fX 1000000 [x]= !(x.any fun z=> !inb 1000000 z):=by unfold fX;simp
   have SZ:=qc [x] aY (fun r hr=>by rw[bq.1 hr];omega) 1000000 aa aa;rw[hsz]at SZ;have IR:=Bn x aa;by_cases hxn:(x.length:Int)=n
   ·cases hv:x.any fun z=> !inb 1000000 z with
    |true=>
     rw[hv]at SZ IR;exact sY n d (lvl d g n:Nat) (cnt g n:Nat) 0 2 g x hx SM CP RC (vK n d g PC DT) (vJ hl hR hB h4 hd hd0 PC) (vL hl hR hB h4 PC) RD (vF hl hR hB h4 hd hd0) RN (GW n g x hxn PC IR) (.inr (.inl ⟨hxn,SZ,rfl,rfl⟩))
    |false=>
     rw[hv]at SZ IR;have vx:=vb_of hv;have PP:=G7 hl hR hB h4 aa aa vx vx (x:=x) (y:=x);have RP:=E1 hl hR hB h4 aa aa vx vx (x:=x) (y:=x);exact sY n d (lvl d g n:Nat) (cnt g n:Nat) _ 0 g x hx SM CP RC (vK n d g PC DT) (vJ hl hR hB h4 hd hd0 PC) (vL hl hR hB h4 PC) RD (vF hl hR hB h4 hd hd0) RN (GY n _ g x hxn PC IR PP) (.inr (.inr ⟨hxn,SZ,rfl,GN n _ g x RP⟩))
   ·exact sY n d (lvl d g n:Nat) (cnt g n:Nat) 0 9 g x hx SM CP RC (vK n d g PC DT) (vJ hl hR hB h4 hd hd0 PC) (vL hl hR hB h4 PC) RD (vF hl hR hB h4 hd hd0) RN (GV n g x hxn PC) (.inl ⟨hxn,rfl,rfl⟩)
  ·exact FF N C g x hc hx SM CP PC RC
end DW
theorem xj(v0 v1:Value)(N:Int)(g:List (List Int))(l:List Int)(w:World)(h0:DW.AR (fun _=>False) w (DW.qF N g) v0)(h1:DW.AR (fun _=>False) w (DW.dI l) v1):Calls Tryz.prog 14 #[v0,v1] w fun e w'=>e= .returned (.bool true)/\Below w.heap.size w w':=by
 refine((DW.zJ N g l).2 (fun _=>False) w #[v0,v1] (fun _ h=>h.elim) (by simp only[DW.ATp];exact⟨v0,_,rfl,h0,v1,_,rfl,h1,rfl⟩)).mono fun e w' ⟨u,h1,h2,h3⟩=>⟨?_,h3⟩;simp only[DW.AR]at h2;rw[h1,h2.1]
end
section
set_option maxRecDepth 100000
theorem Ht:laidOutB Tryz.prog=true:=by kernel_rfl
theorem Hr:mapsRowed Tryz.prog=true:=by kernel_rfl
theorem FH:Tryz.prog.plainKeys=true:=by kernel_rfl
theorem FL:Tryz.prog.stopsHeard=true:=by kernel_rfl
theorem FG:Tryz.prog.stops=[]/\Tryz.prog.stopKnobs=[]:=⟨by kernel_rfl,by kernel_rfl⟩
theorem FK:Tryz.prog.laysLater=false:=by kernel_rfl
theorem Hq:Tryz.prog.bearsReflect=false:=by kernel_rfl
theorem Hv:Tryz.prog.doorFits []=true:=by kernel_rfl
def td(l:List (List Char)):Bool:=match l with
 | a :: b :: c :: _ => a == "harness".toList && isSumSigns b && c == "cut".toList
 |_=>false
theorem Hu:td (wordsSigns Tryz.prog.initOrder.toList)=true:=by kernel_rfl
theorem Ii {l : List (List Char)} (h : td l = true) : ∃ r, behindMainWord l = "cut".toList :: r := by
 unfold td at h;split at h
 ·next a b c r=>
  rw[bV,bV]at h;obtain⟨⟨h1,h2⟩,h3⟩:=h;refine⟨r,?_⟩
  show (if ((a == "harness".toList || a == "ownmain".toList) && isSumSigns b) = true then c :: r else a :: b :: c :: r) = _
  rw[h1,h2,eq_of_beq h3];rfl
 ·cases h
theorem uD : ∃ r, behindMainWord (wordsSigns Tryz.prog.initOrder.toList) = "cut".toList :: r := Ii Hu
theorem tD (r : List (List Char)) : stripLifts liftWords ("cut".toList :: r) = ([], "cut".toList :: r) := by kernel_rfl
theorem FJ:Tryz.prog.headLifts=[]:=by
 obtain⟨r,h⟩:=uD;unfold Program.headLifts;rw[h,tD]
 kernel_rfl
theorem FM:Tryz.prog.liftsFinal=false:=by
 obtain⟨r,h⟩:=uD;unfold Program.liftsFinal;rw[h,FJ]
 kernel_rfl
theorem Hs:Tryz.prog.make=some .cut:=by
 obtain⟨r,h⟩:=uD;unfold Program.make;rw[h]
 kernel_rfl
theorem FN:Tryz.prog.mayEnter=true:=by
 obtain⟨r,h⟩:=uD;unfold Program.mayEnter;rw[h];simp only[tD,FK,Hq,Hv]
 kernel_rfl
theorem and_t{a b:Bool}(h:a=true)(k:b=true):(a&&b)=true:=by rw[h,k];rfl
theorem Bi{P:Program}{f:FuncId}{fn:Func}{s:ChangeSpec}{c:OpenClaim}(k2:laidOutB P=true)(k3:mapsRowed P=true)(k7:P.stops=[]/\P.stopKnobs=[])
  (k10:(c.inPlace==P.inPlace f)=true) (k11:(c.unfollowed==P.unfollowed f)=true) (k12:(c.recurses==P.recurses f)=true) (k13:(c.named==P.varsNamed f)=true)
  (k23:P.plainKeys=true) (k25:P.stopsHeard=true) (k26:P.mayEnter=true) (k27:P.liftsFinal=false) (k28:P.make=some .cut)
  (k:(c.wf (OpenSpec.ofChange s)&&fn.params.all (P.readableRec ·)&&namedTie P c.named s.vars&&(c.stops==[])&&(c.knobs==[])&&
   (c.maps==(fn.params.toList++s.plain.varTypes P).any (P.mapsRec ·))&&(c.ifaces==(fn.params.toList++s.plain.varTypes P).any (P.ifacesRec ·))&&(c.mapsOut==P.mapsAmong fn.resultTypes.toList)&&
   (c.loops==(fn.params.toList++s.plain.varTypes P).any (P.loopsFrom ·))&&(c.wideKeys==(fn.params.toList++s.plain.varTypes P++fn.resultTypes.toList).any (P.wideKeysFrom ·))&&
   s.vars.all (P.varReadable ·)&&fn.resultTypes.all (fun t=>P.readableRec t&&decide (t<P.types.size))&&(c.ifacesOut==fn.resultTypes.toList.any (P.ifacesRec ·))&&(c.loopsOut==fn.resultTypes.toList.any (P.loopsFrom ·))&&(c.plainKeys==true)&&c.shortTexts.isNone&&(c.lifted==false)&&(some Make.cut==some c.make)&&
   (c.kinds==(if c.domain.isEmpty then []else fn.params.toList.map fun t=>match P.underlying t with|some (.int k)=>some k|_=>none))&&(c.pinned==c.pinnedBy)&&
   (c.veiled==(fn.params.toList++s.plain.varTypes P++fn.resultTypes.toList).any (P.veiledRec ·))&&c.veiledFits P fn.params.toList (fn.params.toList++s.plain.varTypes P++fn.resultTypes.toList))=true):
  joinedFacts P f fn s c=true:=by
 simp only[bV]at k;obtain⟨⟨⟨⟨⟨⟨⟨⟨⟨⟨⟨⟨⟨⟨⟨⟨⟨⟨⟨⟨⟨a1,a2⟩,a3⟩,a4⟩,a5⟩,a6⟩,a7⟩,a8⟩,a9⟩,a10⟩,a11⟩,a12⟩,a13⟩,a14⟩,a15⟩,a16⟩,a17⟩,a18⟩,a19⟩,a20⟩,a21⟩,a22⟩:=k;have b7:(P.stops==[])=true:=by rw[k7.1];rfl
 have b9:(P.stopKnobs==[])=true:=by rw[k7.2];rfl
 have b23:(c.plainKeys==P.plainKeys)=true:=by rw[k23];exact a15
 have b27:(c.lifted==P.liftsFinal)=true:=by rw[k27];exact a17
 have b28:(P.make==some c.make)=true:=by rw[k28];exact a18
 unfold joinedFacts
 with_reducible repeat' refine and_t ?_ ?_
 all_goals first
  |with_reducible assumption
  |exact a19
end
end Go.Proofs.YtepdigdijecgpaaGreat
