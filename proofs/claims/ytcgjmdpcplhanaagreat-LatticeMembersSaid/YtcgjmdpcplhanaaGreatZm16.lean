/- Lemmas for the law: E46 -/
import Derived.Test.YtcgjmdpcplhanaaGreatZm15
namespace Go.Proofs.YtcgjmdpcplhanaaGreat
section
theorem kv{p q:Prop}(h:q)(f:Wq q→p:=by(intro hW;((refine gar ?_;refine aJ ?_;refine aJ ?_;refine fJ ?_;refine zs6 ?_;refine ae ?_));exact hW.out)):p:=f ⟨h⟩
theorem ku{p q:Prop}(h:q)(f:Wq q→p:=by(intro hW;((refine gar ?_;refine cK ?_;refine cK ?_;refine zs3 ?_;refine fX ?_;refine ae ?_));exact hW.out)):p:=f ⟨h⟩
theorem xW{p q:Prop}(h:q)(f:Wq q→p:=by(intro hW;((first|(refine aLs rfl rfl rfl rfl ?_ ?_;(focus(apply aK;(conv=>lhs;whnf);(first|done|exact rfl|(apply aG;(first|(apply decide_eq_true;omega)|(apply decide_eq_false;omega)|assumption|(simp;done)))))))|refine aLw rfl rfl rfl rfl bj zb12 ?_));exact hW.out)):p:=f ⟨h⟩
theorem xF{p q:Prop}(h:q)(f:Wq q→p:=by(intro hW;((refine gar ?_;refine cK ?_;refine cK ?_;refine jj ?_;refine fX ?_;refine ae ?_));exact hW.out)):p:=f ⟨h⟩
theorem Ef{p q:Prop}(h:q)(f:Wq q→p:=by(intro hW;((first|refine cw rfl rfl rfl aa tP aa aa ?_|((try refine aD ?_);refine aL1 rfl rfl rfl tP ?_)));exact hW.out)):p:=f ⟨h⟩
theorem sU{p q:Prop}(h:q)(f:Wq q→p:=by(intro hW;((refine xC ?_;refine bq ?_;refine lV ?_;refine bq ?_;refine gG ?_;refine a8 ?_;refine Ef ?_;refine Ef ?_;refine jL ?_;refine jL ?_;refine cV ?_));exact hW.out)):p:=f ⟨h⟩
theorem Dh{p q:Prop}(h:q)(f:Wq q→p:=by(intro hW;((refine gar ?_;refine zs4 ?_;refine jk ?_;refine bL ?_;refine zs4 ?_;refine eQ ?_;refine eQ ?_;refine zs6 ?_;refine zs6 ?_;refine ae ?_));exact hW.out)):p:=f ⟨h⟩
theorem Dk{p q:Prop}(h:q)(f:Wq q→p:=by(intro hW;((refine gar ?_;refine zs4 ?_;refine jk ?_;refine Eg ?_;refine zs4 ?_;refine eQ ?_;refine eQ ?_;refine zs6 ?_;refine zs6 ?_;refine ae ?_));exact hW.out)):p:=f ⟨h⟩
theorem nT{p q:Prop}(h:q)(f:Wq q→p:=by(intro hW;((refine gar ?_;refine cK ?_;refine cK ?_;refine jj ?_;refine ae ?_));exact hW.out)):p:=f ⟨h⟩
theorem xE{p q:Prop}(h:q)(f:Wq q→p:=by(intro hW;((refine gar ?_;refine zs4 ?_;refine oT ?_;refine ae ?_));exact hW.out)):p:=f ⟨h⟩
theorem zb57{p:Prop}(h:p:=by(apply GG;(focus(exact rfl));(focus(assumption));(focus(exact rfl)))):p:=h
theorem Ee{p q:Prop}(h:q)(f:Wq q→p:=by(intro hW;((first|(refine aLs rfl rfl rfl rfl ?_ ?_;(focus(apply aK;(conv=>lhs;whnf);(first|done|exact rfl|(apply aG;(first|(apply decide_eq_true;omega)|(apply decide_eq_false;omega)|assumption|(simp;done)))))))|refine aLw rfl rfl rfl rfl bj zb57 ?_));exact hW.out)):p:=f ⟨h⟩
theorem De{p q:Prop}(h:q)(f:Wq q→p:=by(intro hW;((refine gar ?_;refine zs4 ?_;refine zs4 ?_;refine zs76 ?_;refine zs4 ?_;refine zs8 ?_;refine zs8 ?_;refine xW ?_;refine gJ ?_;refine zs4 ?_;refine zs8 ?_;refine xv ?_;refine gJ ?_;refine zs4 ?_;refine zs8 ?_;refine oS ?_;refine xZ ?_;refine gJ ?_;refine zs4 ?_;refine Ee ?_;refine gJ ?_;refine zs6 ?_;refine ae ?_));exact hW.out)):p:=f ⟨h⟩
theorem Df{p q:Prop}(h:q)(f:Wq q→p:=by(intro hW;((refine gar ?_;(refine aL1 rfl rfl rfl zb57 ?_);refine zs6 ?_;refine ae ?_));exact hW.out)):p:=f ⟨h⟩
theorem gH{p q:Prop}(h:q)(f:Wq q→p:=by(intro hW;((refine gar ?_;refine aJ ?_;refine aJ ?_;refine fJ ?_;refine zs4 ?_;refine eQ ?_;refine eQ ?_;refine zs6 ?_;refine zs6 ?_;refine ae ?_));exact hW.out)):p:=f ⟨h⟩
theorem zs144{p q:Prop}(h:q)(f:Wq q→p:=by(intro hW;(refine aL1 rfl rfl rfl (by(first|(apply ig;(focus(exact rfl));(focus((apply ao;(conv=>lhs;whnf);(first|done|exact rfl))));(focus(exact bu));(focus(kernel_rfl));(focus(kernel_rfl));(focus(omega));(focus((first|(apply uI;(focus assumption);(focus assumption))|(apply get_map;assumption)|(apply get_own;assumption)))))|(apply eE;(focus(exact rfl));(focus((apply ao;(conv=>lhs;whnf);(first|done|exact rfl))));(focus(exact bu));(focus((repeat(first|exact List.mem_cons_self|refine List.mem_cons_of_mem _ ?_))));(focus(kernel_rfl));(focus(kernel_rfl));(focus(first|omega|(simp;omega)));(focus(first|(apply iG;assumption)|exact rfl))))) ?_);exact hW.out)):p:=f ⟨h⟩
theorem Di{p q:Prop}(h:q)(f:Wq q→p:=by(intro hW;((refine gar ?_;refine zs4 ?_;refine zs144 ?_;refine tE ?_;refine zs6 ?_;refine fX ?_;refine ae ?_));exact hW.out)):p:=f ⟨h⟩
theorem Ed{p q:Prop}(h:q)(f:Wq q→p:=by(intro hW;((first|(refine aLs rfl rfl rfl rfl ?_ ?_;(focus(apply aK;(conv=>lhs;whnf);(first|done|exact rfl|(apply aG;(first|(apply decide_eq_true;omega)|(apply decide_eq_false;omega)|assumption|(simp;done)))))))|refine aLw rfl rfl rfl rfl bj m9 ?_));exact hW.out)):p:=f ⟨h⟩
theorem sT{p q:Prop}(h:q)(f:Wq q→p:=by(intro hW;((refine gar ?_;refine zs3 ?_;refine fX ?_;refine ae ?_));exact hW.out)):p:=f ⟨h⟩
theorem pL{p q:Prop}(h:q)(f:Wq q→p:=by(intro hW;((refine gar ?_;refine aJ ?_;refine bL ?_;refine fW ?_;refine zs4 ?_;refine xX ?_;refine iy ?_;refine oS ?_;refine lU ?_;refine gE ?_;refine ae ?_));exact hW.out)):p:=f ⟨h⟩
end
section
open Go.RowKit
namespace DW
set_option maxRecDepth 20000
set_option maxHeartbeats 2000000
theorem Cq:Fn Tryz.prog 74 [dW [[]],zI 1000000000000000] (.tp [dM [[]],.sc (.bool true)]):=by
 have h0:([[]]:List (List Int))[0]?=some []:=rfl
 obtain⟨M,hM⟩:∃M:List (List Int),M=[[]]:=⟨_,rfl⟩
 rw[←hM]at h0⊢
 have hl:M.length=1:=by rw[hM];rfl
 refine aF Tryz.func74 af rfl rfl rfl fun X0=>?_
 simp only[aA]
 (repeat(first|refine gk fun K hK=>?_|refine zs2 ?_));refine nW ?_;(repeat(first|refine gk fun K hK=>?_|refine zs2 ?_));refine bK ?_;(repeat(first|refine gk fun K hK=>?_|refine zs2 ?_))
 refine aq (b7 (t:=6) (k:=6) (T:=40) (wd:=1) b9 rfl rfl bB) ?_
 (repeat(first|refine gk fun K hK=>?_|refine zs2 ?_));refine nV ?_;(repeat(first|refine gk fun K hK=>?_|refine zs2 ?_))
 (refine aq (ai (sl':=[(6,.own 6),(14,dW M),(15,zI M.length),(16,zI 0)]) (ow':=[(6,⟨40,1,[]⟩)]) au aw) ?_)
 refine aH (fun r s=>∃k,k≤1∧r=1-k∧s=⟨[(6,.own 6),(14,dW M),(15,zI M.length),(16,zI (k:Nat))],[(6,⟨40,1,(M.take k).map fun l=>dI l⟩)]⟩) (m:=1) ⟨0,Nat.zero_le _,rfl,rfl⟩ fun r s hs=>?_
 obtain⟨k,hk,rfl,rfl⟩:=hs
 by_cases hk0:k<1
 ·obtain rfl:k=0:=by omega
  have hsn:M.take (0+1)=M.take 0++[[]]:=bc h0
  have hfl:(M.take 0).length≤1000000:=by simp
  obtain⟨F,hF⟩:∃F,F=M.take 0:=⟨_,rfl⟩
  rw[←hF]at hsn hfl
  rw[←hF]
  clear hF hM
  have hc0:(0:Int)=((0:Nat):Int):=rfl
  obtain⟨E,hE⟩:∃E:List Int,E=[]:=⟨_,rfl⟩
  rw[←hE]at h0 hsn
  have hEl:E.length=0:=by rw[hE];rfl
  have hrep:(List.replicate E.length (zI 0))=E.map zI:=by rw[hE];rfl
  (repeat(first|refine gk fun K hK=>?_|refine zs2 ?_));refine dR ?_;(repeat(first|refine gk fun K hK=>?_|refine zs2 ?_))
  refine av ?_
  (repeat(first|refine gk fun K hK=>?_|refine zs2 ?_));(refine gar ?_;refine xw ?_;refine tE ?_;refine zs6 ?_;refine ae ?_);(repeat(first|refine gk fun K hK=>?_|refine zs2 ?_))
  (refine aq (ai (sl':=[(6,.own 6),(14,dW M),(15,zI M.length),(16,zI ((0:Nat):Int)),(8,dZ E)]) (ow':=[(6,⟨40,1,F.map fun l=>dI l⟩)]) au aw) ?_)
  (repeat(first|refine gk fun K hK=>?_|refine zs2 ?_));(refine gar ?_;refine zs4 ?_;refine zs5 ?_;(refine aL1 rfl rfl rfl (by(apply(Bi (zv:=(.int .i64 0)) (d0:=(.sc (.int .i64 0))) (wd:=1));(focus(exact rfl));(focus((apply ao;(conv=>lhs;whnf);(first|done|exact rfl))));(focus((apply ao;(conv=>lhs;whnf);(first|done|exact rfl))));(focus(kernel_rfl));(focus(kernel_rfl));(focus(exact rfl));(focus(exact rfl));(focus(exact rfl));(focus(exact rfl));(focus(exact rfl));(focus(omega));(focus(first|exact Int.toNat_natCast _|exact rfl)))) ?_);refine zs6 ?_;refine ae ?_);(repeat(first|refine gk fun K hK=>?_|refine zs2 ?_));refine nV ?_;(repeat(first|refine gk fun K hK=>?_|refine zs2 ?_))
  (refine aq (ai (sl':=[(6,.own 6),(14,dW M),(15,zI M.length),(16,zI ((0:Nat):Int)),(9,.ls 1 (List.replicate E.length (zI 0))),(23,dZ E),(24,zI E.length),(25,zI 0)]) (ow':=[(6,⟨40,1,F.map fun l=>dI l⟩)]) au aw) ?_)
  rw[hrep]
  refine aH (fun r s=>r=0∧s=⟨[(6,.own 6),(14,dW M),(15,zI M.length),(16,zI ((0:Nat):Int)),(9,dI E),(23,dZ E),(24,zI E.length),(25,zI 0)],[(6,⟨40,1,F.map fun l=>dI l⟩)]⟩) (m:=0) ⟨rfl,rfl⟩ fun r s hs=>?_
  obtain⟨rfl,rfl⟩:=hs
  (repeat(first|refine gk fun K hK=>?_|refine zs2 ?_));refine dR ?_;(repeat(first|refine gk fun K hK=>?_|refine zs2 ?_))
  refine ay ?_
  (repeat(first|refine gk fun K hK=>?_|refine zs2 ?_));refine pP ?_;(repeat(first|refine gk fun K hK=>?_|refine zs2 ?_));refine nU ?_;(repeat(first|refine gk fun K hK=>?_|refine zs2 ?_))
  simp only[nx,inB]
  exact⟨0,_,by omega,(ai (sl':=[(6,.own 6),(14,dW M),(15,zI M.length),(16,zI ((0+1:Nat):Int))]) (ow':=[(6,⟨40,1,(F.map fun l=>dI l)++[dI E]⟩)]) au aw),0+1,by omega,rfl,by rw[hsn,List.map_append];rfl⟩
 ·obtain rfl:k=1:=by omega
  rw[List.take_of_length_le (by omega)]
  (repeat(first|refine gk fun K hK=>?_|refine zs2 ?_));refine dR ?_;(repeat(first|refine gk fun K hK=>?_|refine zs2 ?_))
  refine ay ?_
  (repeat(first|refine gk fun K hK=>?_|refine zs2 ?_))
  refine aq (aE (k:=6) aU bs br) ?_
  (repeat(first|refine gk fun K hK=>?_|refine zs2 ?_));refine sZ ?_;(repeat(first|refine gk fun K hK=>?_|refine zs2 ?_))
  exact⟨_,Sh.refl,.two (.tmp 4) (.tmp 5) _ _ rfl (.tmp 4 rfl) (.tmp 5 rfl)⟩
def jt(o:List Int)(b:Bool):D:=if b=true then(if o.all (inb 1000000000000000)=true then .tp [dI o,zI 0]else .tp [dI [],zI 8])else .tp [dI [],zI 12]
def onD(o:List Int):D:=if o.all (inb 1000000000000000)=true then .tp [dM [o],.sc (.bool true)]else .tp [dM [],.sc (.bool false)]
theorem Cm(o:List Int)(hl:o.length≤1000000)(hf:∀z∈o,Fit z):Fn Tryz.prog 74 [dW [o],zI 1000000000000000] (onD o):=by
  unfold onD
  by_cases h0:o=[]
  · subst h0
    rw[if_pos (show([]:List Int).all (inb 1000000000000000)=true from rfl)]
    exact Cq
  · have := Cr [o] o.length 1000000000000000 (by simp) (List.length_pos_iff.2 h0) hl (by omega) (fun l hl => by rw [List.mem_singleton.1 hl]) (fun i j => by
      rcases at_mem [o] i j with h|⟨r,hr,hz⟩
      · rw[h];exact aZ (e:=0) (by simp) (by omega)
      · rw[List.mem_singleton.1 hr]at hz
        exact hf _ hz)
    unfold smM at this
    rw[show([o]:Mx.Mat).all (fun l=>l.all (inb ((1000000000000000:Nat):Int)))=o.all (inb 1000000000000000) by simp]at this
    exact this
theorem Ao(o:List Int)(hl:o.length≤1000000)(hf:∀z∈o,(hd z.natAbs).length≤199999999):Fn Tryz.prog 77 [dW [o]] (onD o):=by
 have:=Cp [o] (by simp) (fun l h=>by rw[List.mem_singleton.1 h];exact hl) (fun l h z hz=>by rw[List.mem_singleton.1 h]at hz;exact hf z hz)
 unfold nrw at this
 rw[show([o]:Mx.Mat).all (fun l=>l.all (inb 1000000000000000))=o.all (inb 1000000000000000) by simp]at this
 exact this
theorem Hx(dim den d C:Int)(m:Mx.Mat)(l:List Int)(hC:C≠0)(CK:Fn Tryz.prog 33 [dL dim m den] (zI C)):Fn Tryz.prog 50 [dL dim m den,dV l d] (.tp [.sc (.bool false),zI C]):=by
 refine aF Tryz.func50 af rfl rfl rfl fun X0=>?_
 simp only[aA]
 (repeat(first|refine gk fun K hK=>?_|refine zs2 ?_));refine xF ?_;(repeat(first|refine gk fun K hK=>?_|refine zs2 ?_));refine fA ?_;(repeat(first|refine gk fun K hK=>?_|refine zs2 ?_));refine cB ?_;(repeat(first|refine gk fun K hK=>?_|refine zs2 ?_))
 refine av ?_
 (repeat(first|refine gk fun K hK=>?_|refine zs2 ?_));(refine gar ?_;refine zs4 ?_;refine jj ?_;refine zs6 ?_;refine ae ?_);(repeat(first|refine gk fun K hK=>?_|refine zs2 ?_))
 exact⟨_,Sh.refl,.two (.tmp 4) (.tmp 5) _ _ rfl (.tmp 4 rfl) (.tmp 5 rfl)⟩
theorem Hv(dim den d C:Int)(m:Mx.Mat)(l:List Int)(hC:C≠0)(CK:Fn Tryz.prog 33 [dL dim m den] (zI 0))(CV:Fn Tryz.prog 125 [dL dim m den,dV l d] (zI C)):Fn Tryz.prog 50 [dL dim m den,dV l d] (.tp [.sc (.bool false),zI C]):=by
 refine aF Tryz.func50 af rfl rfl rfl fun X0=>?_
 simp only[aA]
 (repeat(first|refine gk fun K hK=>?_|refine zs2 ?_));refine xF ?_;(repeat(first|refine gk fun K hK=>?_|refine zs2 ?_));refine fA ?_;(repeat(first|refine gk fun K hK=>?_|refine zs2 ?_));refine cB ?_;(repeat(first|refine gk fun K hK=>?_|refine zs2 ?_))
 refine ay ?_
 (repeat(first|refine gk fun K hK=>?_|refine zs2 ?_));refine kv ?_;(repeat(first|refine gk fun K hK=>?_|refine zs2 ?_));refine cB ?_;(repeat(first|refine gk fun K hK=>?_|refine zs2 ?_))
 refine av ?_
 (repeat(first|refine gk fun K hK=>?_|refine zs2 ?_));(refine gar ?_;refine zs4 ?_;refine jj ?_;refine zs6 ?_;refine ae ?_);(repeat(first|refine gk fun K hK=>?_|refine zs2 ?_))
 exact⟨_,Sh.refl,.two (.tmp 4) (.tmp 5) _ _ rfl (.tmp 4 rfl) (.tmp 5 rfl)⟩
theorem Hw(dim den d dl:Int)(m R:Mx.Mat)(l o:List Int)(b:Bool)(CK:Fn Tryz.prog 33 [dL dim m den] (zI 0))(CV:Fn Tryz.prog 125 [dL dim m den,dV l d] (zI 0))(RD:Fn Tryz.prog 87 [dL dim m den] (js dim R dl))(CO:Fn Tryz.prog 126 [js dim R dl,dV l d] (.tp [dZ o,.sc (.bool b)])):Fn Tryz.prog 50 [dL dim m den,dV l d] (.tp [.sc (.bool b),zI 0]):=by
 refine aF Tryz.func50 af rfl rfl rfl fun X0=>?_
 simp only[aA]
 (repeat(first|refine gk fun K hK=>?_|refine zs2 ?_));refine xF ?_;(repeat(first|refine gk fun K hK=>?_|refine zs2 ?_));refine fA ?_;(repeat(first|refine gk fun K hK=>?_|refine zs2 ?_));refine cB ?_;(repeat(first|refine gk fun K hK=>?_|refine zs2 ?_))
 refine ay ?_
 (repeat(first|refine gk fun K hK=>?_|refine zs2 ?_));refine kv ?_;(repeat(first|refine gk fun K hK=>?_|refine zs2 ?_));refine cB ?_;(repeat(first|refine gk fun K hK=>?_|refine zs2 ?_))
 refine ay ?_
 (repeat(first|refine gk fun K hK=>?_|refine zs2 ?_));refine sU ?_;(repeat(first|refine gk fun K hK=>?_|refine zs2 ?_));(refine gar ?_;refine zs4 ?_;refine zs6 ?_;refine fX ?_;refine ae ?_);(repeat(first|refine gk fun K hK=>?_|refine zs2 ?_))
 exact⟨_,Sh.refl,.two (.tmp 4) (.tmp 5) _ _ rfl (.tmp 4 rfl) (.tmp 5 rfl)⟩
theorem Hu(dim den d C:Int)(m:Mx.Mat)(l:List Int)(hC:C≠0)(CK:Fn Tryz.prog 33 [dL dim m den] (zI C)):Fn Tryz.prog 51 [dL dim m den,dV l d] (.tp [dI [],zI C]):=by
 refine aF Tryz.func51 af rfl rfl rfl fun X0=>?_
 simp only[aA]
 (repeat(first|refine gk fun K hK=>?_|refine zs2 ?_));refine ku ?_;(repeat(first|refine gk fun K hK=>?_|refine zs2 ?_));refine fA ?_;(repeat(first|refine gk fun K hK=>?_|refine zs2 ?_));refine cB ?_;(repeat(first|refine gk fun K hK=>?_|refine zs2 ?_))
 refine av ?_
 (repeat(first|refine gk fun K hK=>?_|refine zs2 ?_));(refine gar ?_;refine zs4 ?_;refine zs3 ?_;refine zs6 ?_;refine ae ?_);(repeat(first|refine gk fun K hK=>?_|refine zs2 ?_))
 exact⟨_,ir (t:=4) (wd:=1) b9,.two (.tmp 4) (.tmp 5) _ _ rfl (.tmp 4 rfl) (.tmp 5 rfl)⟩
theorem Hs(dim den d C:Int)(m:Mx.Mat)(l:List Int)(hC:C≠0)(CK:Fn Tryz.prog 33 [dL dim m den] (zI 0))(CV:Fn Tryz.prog 125 [dL dim m den,dV l d] (zI C)):Fn Tryz.prog 51 [dL dim m den,dV l d] (.tp [dI [],zI C]):=by
 refine aF Tryz.func51 af rfl rfl rfl fun X0=>?_
 simp only[aA]
 (repeat(first|refine gk fun K hK=>?_|refine zs2 ?_));refine ku ?_;(repeat(first|refine gk fun K hK=>?_|refine zs2 ?_));refine fA ?_;(repeat(first|refine gk fun K hK=>?_|refine zs2 ?_));refine cB ?_;(repeat(first|refine gk fun K hK=>?_|refine zs2 ?_))
 refine ay ?_
 (repeat(first|refine gk fun K hK=>?_|refine zs2 ?_));refine kv ?_;(repeat(first|refine gk fun K hK=>?_|refine zs2 ?_));refine cB ?_;(repeat(first|refine gk fun K hK=>?_|refine zs2 ?_))
 refine av ?_
 (repeat(first|refine gk fun K hK=>?_|refine zs2 ?_));(refine gar ?_;refine zs4 ?_;refine zs3 ?_;refine zs6 ?_;refine ae ?_);(repeat(first|refine gk fun K hK=>?_|refine zs2 ?_))
 exact⟨_,ir (t:=4) (wd:=1) b9,.two (.tmp 4) (.tmp 5) _ _ rfl (.tmp 4 rfl) (.tmp 5 rfl)⟩
theorem Ht(dim den d dl:Int)(m R:Mx.Mat)(l o:List Int)(b:Bool)(CK:Fn Tryz.prog 33 [dL dim m den] (zI 0))(CV:Fn Tryz.prog 125 [dL dim m den,dV l d] (zI 0))(RD:Fn Tryz.prog 87 [dL dim m den] (js dim R dl))(CO:Fn Tryz.prog 126 [js dim R dl,dV l d] (.tp [dZ o,.sc (.bool b)]))(SM:Fn Tryz.prog 74 [dW [o],zI 1000000000000000] (onD o)):Fn Tryz.prog 51 [dL dim m den,dV l d] (jt o b):=by
 have hc0:(0:Int)=((0:Nat):Int):=rfl
 cases b with
 |false=>
  refine aF Tryz.func51 af rfl rfl rfl fun X0=>?_
  simp only[aA]
  (repeat(first|refine gk fun K hK=>?_|refine zs2 ?_));refine ku ?_;(repeat(first|refine gk fun K hK=>?_|refine zs2 ?_));refine fA ?_;(repeat(first|refine gk fun K hK=>?_|refine zs2 ?_));refine cB ?_;(repeat(first|refine gk fun K hK=>?_|refine zs2 ?_))
  refine ay ?_
  (repeat(first|refine gk fun K hK=>?_|refine zs2 ?_));refine kv ?_;(repeat(first|refine gk fun K hK=>?_|refine zs2 ?_));refine cB ?_;(repeat(first|refine gk fun K hK=>?_|refine zs2 ?_))
  refine ay ?_
  (repeat(first|refine gk fun K hK=>?_|refine zs2 ?_));refine sU ?_;(repeat(first|refine gk fun K hK=>?_|refine zs2 ?_));refine dA ?_;(repeat(first|refine gk fun K hK=>?_|refine zs2 ?_))
  refine av ?_
  (repeat(first|refine gk fun K hK=>?_|refine zs2 ?_));refine sT ?_;(repeat(first|refine gk fun K hK=>?_|refine zs2 ?_))
  exact⟨_,ir (t:=4) (wd:=1) b9,.two (.tmp 4) (.tmp 5) _ _ rfl (.tmp 4 rfl) (.tmp 5 rfl)⟩
 |true=>
  unfold onD at SM
  by_cases h:o.all (inb 1000000000000000)=true
  ·rw[if_pos h]at SM
   have EC:jt o true= .tp [dI o,zI 0]:=by unfold jt;rw[if_pos rfl,if_pos h]
   obtain⟨N,g0,SM⟩:∃N:Mx.Mat,N[0]?=some o∧Fn Tryz.prog 74 [dW [o],zI 1000000000000000] (.tp [dM N,.sc (.bool true)]):=⟨[o],rfl,SM⟩
   refine aF Tryz.func51 af rfl rfl rfl fun X0=>?_
   simp only[aA]
   (repeat(first|refine gk fun K hK=>?_|refine zs2 ?_));refine ku ?_;(repeat(first|refine gk fun K hK=>?_|refine zs2 ?_));refine fA ?_;(repeat(first|refine gk fun K hK=>?_|refine zs2 ?_));refine cB ?_;(repeat(first|refine gk fun K hK=>?_|refine zs2 ?_))
   refine ay ?_
   (repeat(first|refine gk fun K hK=>?_|refine zs2 ?_));refine kv ?_;(repeat(first|refine gk fun K hK=>?_|refine zs2 ?_));refine cB ?_;(repeat(first|refine gk fun K hK=>?_|refine zs2 ?_))
   refine ay ?_
   (repeat(first|refine gk fun K hK=>?_|refine zs2 ?_));refine sU ?_;(repeat(first|refine gk fun K hK=>?_|refine zs2 ?_));refine dA ?_;(repeat(first|refine gk fun K hK=>?_|refine zs2 ?_))
   refine ay ?_
   (repeat(first|refine gk fun K hK=>?_|refine zs2 ?_));refine Dk ?_;(repeat(first|refine gk fun K hK=>?_|refine zs2 ?_));refine dA ?_;(repeat(first|refine gk fun K hK=>?_|refine zs2 ?_))
   refine ay ?_
   (repeat(first|refine gk fun K hK=>?_|refine zs2 ?_));refine Di ?_;(repeat(first|refine gk fun K hK=>?_|refine zs2 ?_))
   rw[EC]
   exact⟨_,Sh.refl,.two (.tmp 4) (.tmp 5) _ _ rfl (.tmp 4 rfl) (.tmp 5 rfl)⟩
  ·rw[if_neg h]at SM
   have EC:jt o true= .tp [dI [],zI 8]:=by unfold jt;rw[if_pos rfl,if_neg h]
   refine aF Tryz.func51 af rfl rfl rfl fun X0=>?_
   simp only[aA]
   (repeat(first|refine gk fun K hK=>?_|refine zs2 ?_));refine ku ?_;(repeat(first|refine gk fun K hK=>?_|refine zs2 ?_));refine fA ?_;(repeat(first|refine gk fun K hK=>?_|refine zs2 ?_));refine cB ?_;(repeat(first|refine gk fun K hK=>?_|refine zs2 ?_))
   refine ay ?_
   (repeat(first|refine gk fun K hK=>?_|refine zs2 ?_));refine kv ?_;(repeat(first|refine gk fun K hK=>?_|refine zs2 ?_));refine cB ?_;(repeat(first|refine gk fun K hK=>?_|refine zs2 ?_))
   refine ay ?_
   (repeat(first|refine gk fun K hK=>?_|refine zs2 ?_));refine sU ?_;(repeat(first|refine gk fun K hK=>?_|refine zs2 ?_));refine dA ?_;(repeat(first|refine gk fun K hK=>?_|refine zs2 ?_))
   refine ay ?_
   (repeat(first|refine gk fun K hK=>?_|refine zs2 ?_));refine Dk ?_;(repeat(first|refine gk fun K hK=>?_|refine zs2 ?_));refine dA ?_;(repeat(first|refine gk fun K hK=>?_|refine zs2 ?_))
   refine av ?_
   (repeat(first|refine gk fun K hK=>?_|refine zs2 ?_));refine sT ?_;(repeat(first|refine gk fun K hK=>?_|refine zs2 ?_))
   rw[EC]
   exact⟨_,ir (t:=4) (wd:=1) b9,.two (.tmp 4) (.tmp 5) _ _ rfl (.tmp 4 rfl) (.tmp 5 rfl)⟩
theorem Ho(dim den d:Int)(m:Mx.Mat)(l o:List Int)(b:Bool)(IN:Fn Tryz.prog 127 [dL dim m den,dV l d] (.tp [dZ o,.sc (.bool b)])):Fn Tryz.prog 54 [dL dim m den,dV l d] (.sc (.bool b)):=by
 refine aF Tryz.func54 af rfl rfl rfl fun X0=>?_
 simp only[aA]
 (repeat(first|refine gk fun K hK=>?_|refine zs2 ?_));refine nT ?_;(repeat(first|refine gk fun K hK=>?_|refine zs2 ?_));refine gH ?_;(repeat(first|refine gk fun K hK=>?_|refine zs2 ?_));refine dT ?_;(repeat(first|refine gk fun K hK=>?_|refine zs2 ?_))
 exact⟨_,Sh.refl,.one (.tmp 4) _ rfl (.tmp 4 rfl)⟩
theorem Hn(dim den d:Int)(m:Mx.Mat)(l o:List Int)(b:Bool)(IN:Fn Tryz.prog 127 [dL dim m den,dV l d] (.tp [dZ o,.sc (.bool b)]))(NW:Fn Tryz.prog 77 [dW [o]] (onD o)):Fn Tryz.prog 53 [dL dim m den,dV l d] (jt o b):=by
 have hc0:(0:Int)=((0:Nat):Int):=rfl
 cases b with
 |false=>
  refine aF Tryz.func53 af rfl rfl rfl fun X0=>?_
  simp only[aA]
  (repeat(first|refine gk fun K hK=>?_|refine zs2 ?_));refine ku ?_;(repeat(first|refine gk fun K hK=>?_|refine zs2 ?_));refine gH ?_;(repeat(first|refine gk fun K hK=>?_|refine zs2 ?_));refine dA ?_;(repeat(first|refine gk fun K hK=>?_|refine zs2 ?_))
  refine av ?_
  (repeat(first|refine gk fun K hK=>?_|refine zs2 ?_));refine sT ?_;(repeat(first|refine gk fun K hK=>?_|refine zs2 ?_))
  exact⟨_,ir (t:=4) (wd:=1) b9,.two (.tmp 4) (.tmp 5) _ _ rfl (.tmp 4 rfl) (.tmp 5 rfl)⟩
 |true=>
  unfold onD at NW
  by_cases h:o.all (inb 1000000000000000)=true
  ·rw[if_pos h]at NW
   have EC:jt o true= .tp [dI o,zI 0]:=by unfold jt;rw[if_pos rfl,if_pos h]
   obtain⟨N,g0,NW⟩:∃N:Mx.Mat,N[0]?=some o∧Fn Tryz.prog 77 [dW [o]] (.tp [dM N,.sc (.bool true)]):=⟨[o],rfl,NW⟩
   refine aF Tryz.func53 af rfl rfl rfl fun X0=>?_
   simp only[aA]
   (repeat(first|refine gk fun K hK=>?_|refine zs2 ?_));refine ku ?_;(repeat(first|refine gk fun K hK=>?_|refine zs2 ?_));refine gH ?_;(repeat(first|refine gk fun K hK=>?_|refine zs2 ?_));refine dA ?_;(repeat(first|refine gk fun K hK=>?_|refine zs2 ?_))
   refine ay ?_
   (repeat(first|refine gk fun K hK=>?_|refine zs2 ?_));refine Dh ?_;(repeat(first|refine gk fun K hK=>?_|refine zs2 ?_));refine dA ?_;(repeat(first|refine gk fun K hK=>?_|refine zs2 ?_))
   refine ay ?_
   (repeat(first|refine gk fun K hK=>?_|refine zs2 ?_));refine Di ?_;(repeat(first|refine gk fun K hK=>?_|refine zs2 ?_))
   rw[EC]
   exact⟨_,Sh.refl,.two (.tmp 4) (.tmp 5) _ _ rfl (.tmp 4 rfl) (.tmp 5 rfl)⟩
  ·rw[if_neg h]at NW
   have EC:jt o true= .tp [dI [],zI 8]:=by unfold jt;rw[if_pos rfl,if_neg h]
   refine aF Tryz.func53 af rfl rfl rfl fun X0=>?_
   simp only[aA]
   (repeat(first|refine gk fun K hK=>?_|refine zs2 ?_));refine ku ?_;(repeat(first|refine gk fun K hK=>?_|refine zs2 ?_));refine gH ?_;(repeat(first|refine gk fun K hK=>?_|refine zs2 ?_));refine dA ?_;(repeat(first|refine gk fun K hK=>?_|refine zs2 ?_))
   refine ay ?_
   (repeat(first|refine gk fun K hK=>?_|refine zs2 ?_));refine Dh ?_;(repeat(first|refine gk fun K hK=>?_|refine zs2 ?_));refine dA ?_;(repeat(first|refine gk fun K hK=>?_|refine zs2 ?_))
   refine av ?_
   (repeat(first|refine gk fun K hK=>?_|refine zs2 ?_));refine sT ?_;(repeat(first|refine gk fun K hK=>?_|refine zs2 ?_))
   rw[EC]
   exact⟨_,ir (t:=4) (wd:=1) b9,.two (.tmp 4) (.tmp 5) _ _ rfl (.tmp 4 rfl) (.tmp 5 rfl)⟩
theorem sS(dim den d:Int)(m:Mx.Mat)(l:List Int)(a:Bool)(h:a=false∨10<l.length)(LT:Fn Tryz.prog 30 [dL dim m den] (.sc (.bool a))):Fn Tryz.prog 10 [dL dim m den,dV l d] (.sc (.bool true)):=by
 have AW:=rV
 cases a with
 |false=>
  refine aF Tryz.func10 af rfl rfl rfl fun X0=>?_
  simp only[aA]
  (repeat(first|refine gk fun K hK=>?_|refine zs2 ?_));refine nT ?_;(repeat(first|refine gk fun K hK=>?_|refine zs2 ?_));refine pL ?_;(repeat(first|refine gk fun K hK=>?_|refine zs2 ?_))
  refine av ?_
  (repeat(first|refine gk fun K hK=>?_|refine zs2 ?_));refine Df ?_;(repeat(first|refine gk fun K hK=>?_|refine zs2 ?_))
  exact⟨_,Sh.refl,.one (.tmp 4) _ rfl (.tmp 4 rfl)⟩
 |true=>
  have hl:10<l.length:=h.resolve_left (by simp)
  have hd:decide ((l.length:Int)>10)=true:=decide_eq_true (by omega)
  refine aF Tryz.func10 af rfl rfl rfl fun X0=>?_
  simp only[aA]
  (repeat(first|refine gk fun K hK=>?_|refine zs2 ?_));refine nT ?_;(repeat(first|refine gk fun K hK=>?_|refine zs2 ?_));refine pL ?_;(repeat(first|refine gk fun K hK=>?_|refine zs2 ?_))
  refine av ?_
  (repeat(first|refine gk fun K hK=>?_|refine zs2 ?_));refine Df ?_;(repeat(first|refine gk fun K hK=>?_|refine zs2 ?_))
  exact⟨_,Sh.refl,.one (.tmp 4) _ rfl (.tmp 4 rfl)⟩
theorem nB(dim den d C:Int)(m:Mx.Mat)(l:List Int)(hC:C≠0)(hl:l.length≤10)(LT:Fn Tryz.prog 30 [dL dim m den] (.sc (.bool true)))(PC:Fn Tryz.prog 50 [dL dim m den,dV l d] (.tp [.sc (.bool false),zI C]))(PO:Fn Tryz.prog 51 [dL dim m den,dV l d] (.tp [dI [],zI C]))(RC:Fn Tryz.prog 32 [dL dim m den] (zI C)∨(Fn Tryz.prog 32 [dL dim m den] (zI 0)∧Fn Tryz.prog 52 [dL dim m den,dV l d] (zI C))):Fn Tryz.prog 10 [dL dim m den,dV l d] (.sc (.bool true)):=by
 have AW:=rV
 have hd:decide ((l.length:Int)>10)=false:=decide_eq_false (by omega)
 have h0:(([]:List Int).length:Int)=0:=rfl
 generalize([]:List Int)=E at*
 rcases RC with RC|⟨RC,RV⟩
 ·refine aF Tryz.func10 af rfl rfl rfl fun X0=>?_
  simp only[aA]
  (repeat(first|refine gk fun K hK=>?_|refine zs2 ?_));refine nT ?_;(repeat(first|refine gk fun K hK=>?_|refine zs2 ?_));refine pL ?_;(repeat(first|refine gk fun K hK=>?_|refine zs2 ?_))
  refine ay ?_
  (repeat(first|refine gk fun K hK=>?_|refine zs2 ?_));refine gH ?_;(repeat(first|refine gk fun K hK=>?_|refine zs2 ?_));refine gH ?_;(repeat(first|refine gk fun K hK=>?_|refine zs2 ?_));refine fA ?_;(repeat(first|refine gk fun K hK=>?_|refine zs2 ?_));refine xE ?_;(repeat(first|refine gk fun K hK=>?_|refine zs2 ?_))
  refine ay ?_
  (repeat(first|refine gk fun K hK=>?_|refine zs2 ?_));refine cB ?_;(repeat(first|refine gk fun K hK=>?_|refine zs2 ?_))
  refine av ?_
  (repeat(first|refine gk fun K hK=>?_|refine zs2 ?_));refine De ?_;(repeat(first|refine gk fun K hK=>?_|refine zs2 ?_))
  exact⟨_,Sh.refl,.one (.tmp 4) _ rfl (.tmp 4 rfl)⟩
 ·refine aF Tryz.func10 af rfl rfl rfl fun X0=>?_
  simp only[aA]
  (repeat(first|refine gk fun K hK=>?_|refine zs2 ?_));refine nT ?_;(repeat(first|refine gk fun K hK=>?_|refine zs2 ?_));refine pL ?_;(repeat(first|refine gk fun K hK=>?_|refine zs2 ?_))
  refine ay ?_
  (repeat(first|refine gk fun K hK=>?_|refine zs2 ?_));refine gH ?_;(repeat(first|refine gk fun K hK=>?_|refine zs2 ?_));refine gH ?_;(repeat(first|refine gk fun K hK=>?_|refine zs2 ?_));refine fA ?_;(repeat(first|refine gk fun K hK=>?_|refine zs2 ?_));refine xE ?_;(repeat(first|refine gk fun K hK=>?_|refine zs2 ?_))
  refine av ?_
  (repeat(first|refine gk fun K hK=>?_|refine zs2 ?_));refine kv ?_;(repeat(first|refine gk fun K hK=>?_|refine zs2 ?_));refine cB ?_;(repeat(first|refine gk fun K hK=>?_|refine zs2 ?_))
  refine av ?_
  (repeat(first|refine gk fun K hK=>?_|refine zs2 ?_));refine De ?_;(repeat(first|refine gk fun K hK=>?_|refine zs2 ?_))
  exact⟨_,Sh.refl,.one (.tmp 4) _ rfl (.tmp 4 rfl)⟩
theorem uO(dim den d F:Int)(m:Mx.Mat)(l o:List Int)(b:Bool)(hl:l.length≤10)(LT:Fn Tryz.prog 30 [dL dim m den] (.sc (.bool true)))(PC:Fn Tryz.prog 50 [dL dim m den,dV l d] (.tp [.sc (.bool b),zI 0]))(PO:Fn Tryz.prog 51 [dL dim m den,dV l d] (.tp [dI o,zI F]))(RC:Fn Tryz.prog 32 [dL dim m den] (zI 0))(RV:Fn Tryz.prog 52 [dL dim m den,dV l d] (zI 0))(RO:Fn Tryz.prog 53 [dL dim m den,dV l d] (.tp [dI o,zI F]))(RN:Fn Tryz.prog 54 [dL dim m den,dV l d] (.sc (.bool b)))(IN:Fn Tryz.prog 55 [dI o,dI o] (.sc (.bool true))):Fn Tryz.prog 10 [dL dim m den,dV l d] (.sc (.bool true)):=by
 have AW:=rV
 have hd:decide ((l.length:Int)>10)=false:=decide_eq_false (by omega)
 cases b
 all_goals
  refine aF Tryz.func10 af rfl rfl rfl fun X0=>?_
  simp only[aA]
  (repeat(first|refine gk fun K hK=>?_|refine zs2 ?_));refine nT ?_;(repeat(first|refine gk fun K hK=>?_|refine zs2 ?_));refine pL ?_;(repeat(first|refine gk fun K hK=>?_|refine zs2 ?_))
  refine ay ?_
  (repeat(first|refine gk fun K hK=>?_|refine zs2 ?_));refine gH ?_;(repeat(first|refine gk fun K hK=>?_|refine zs2 ?_));refine gH ?_;(repeat(first|refine gk fun K hK=>?_|refine zs2 ?_));refine fA ?_;(repeat(first|refine gk fun K hK=>?_|refine zs2 ?_));refine xE ?_;(repeat(first|refine gk fun K hK=>?_|refine zs2 ?_))
  refine av ?_
  (repeat(first|refine gk fun K hK=>?_|refine zs2 ?_));refine kv ?_;(repeat(first|refine gk fun K hK=>?_|refine zs2 ?_));refine cB ?_;(repeat(first|refine gk fun K hK=>?_|refine zs2 ?_))
  refine ay ?_
  (repeat(first|refine gk fun K hK=>?_|refine zs2 ?_));refine gH ?_;(repeat(first|refine gk fun K hK=>?_|refine zs2 ?_));(refine gar ?_;refine zs4 ?_;refine oT ?_;refine zs4 ?_;refine zs8 ?_;refine iy ?_;refine iy ?_;refine Ed ?_;refine xW ?_;refine gJ ?_;refine zs4 ?_;refine zs8 ?_;refine zs8 ?_;refine xW ?_;refine gJ ?_;refine zs4 ?_;refine zs8 ?_;refine zs8 ?_;refine Ed ?_;refine gJ ?_;refine zs4 ?_;refine Ee ?_;refine gJ ?_;refine zs6 ?_;refine ae ?_);(repeat(first|refine gk fun K hK=>?_|refine zs2 ?_))
  exact⟨_,Sh.refl,.one (.tmp 4) _ rfl (.tmp 4 rfl)⟩
theorem EP{n:Nat}{m:Mx.Mat}{den:Int}(hR:Mx.Rc n m)(hd:0<den):∀r∈nR n m den,r.all (fun z=>decide (z=0))=false:=fun r hr=>by
 have hnn:=Mx.kI hR hd
 have h:=Mx.ET hnn.2.2.2.1
 rw[hnn.1]at h
 exact h r hr
theorem Bj{f:Nat}{d:Int}(hf:f=520)(hd:d.natAbs≤2^50):∀(R:List (List Int)) (left:List Int) (a:Nat),(∀r∈R,∀x∈r,x.natAbs≤2^f)→(∀z∈left,z.natAbs≤2^a)→∀x,crd d R left=some x→x.1.length=R.length∧∀z∈x.1,z.natAbs≤2^(a+571*R.length)
 |[],left,a,_,_,x,h=>by
  cases h
  exact⟨rfl,fun z hz=>by cases hz⟩
 |r::rs,left,a,hr,hl,x,h=>by
  rw[vx]at h
  split at h
  ·obtain⟨y,h1,rfl⟩:=Option.map_eq_some_iff.1 h
   have hz:(left.getD (pl0 r) 0).natAbs≤2^a:=by
    rw[List.getD_eq_getElem?_getD]
    cases hg:left[pl0 r]? with
    |none=>exact Nat.zero_le _
    |some x=>exact hl x (List.mem_of_getElem? hg)
   have CB:=zf (D:=d*r.getD (pl0 r) 0) hf hl hz hd (hr r List.mem_cons_self)
   obtain⟨i1,i2⟩:=Bj hf hd rs _ (a+571) (fun r hr'=>hr r (List.mem_cons_of_mem _ hr')) CB.q4 y h1
   refine⟨by simp[i1],fun z hz=>?_⟩
   rcases List.mem_cons.1 hz with rfl|hz
   ·exact Nat.le_trans CB.q1 (Nat.pow_le_pow_right (by decide) (by simp only[List.length_cons];omega))
   ·have:=i2 z hz
    rwa[show a+571+571*rs.length=a+571*(r::rs).length by simp only[List.length_cons];omega]at this
  ·cases h
theorem uP(dim den d:Int)(m:List (List Int))(l:List Int)(hd:I64 dim)(hd2:I64 den)(hdv:I64 d):Fn Tryz.prog 10 [dL dim m den,dV l d] (.sc (.bool true)):=by
  have LT:=Gq dim den m
  by_cases hs:lgt dim m=true∧l.length≤10
  · obtain⟨hs,hl⟩:=hs
    rw[hs]at LT
    obtain⟨b1,b2,b3⟩:=Ig hs
    have CK:=CD dim den m hd hd2 (by omega) (fun r hr=>by have:=b3 r hr;omega)
    have RC:=Cd dim den m (by omega)
    have CV:=Hq dim den d m l (by omega)
    have RV:=Hc dim den d m l (by omega)
    by_cases hc:lck dim m den=0
    · rw[hc]at CK RC
      by_cases hv:vck dim l d=0
      · rw[hv]at CV RV
        obtain⟨k1,k2,k3⟩:=gY hc
        obtain⟨n,rfl⟩:∃n:Nat,dim=n:=⟨dim.toNat,by omega⟩
        have hn:n≤5:=by omega
        have hR:=jh hc
        have hnn:=Mx.kI hR (show 0<den by omega)
        have hvk:(l.length:Int)=n∧1≤d∧d≤1000000000000000∧l.any big=false:=by
          unfold vck at hv
          split at hv
          · next h1=>
            split at hv
            · cases hv
            · next h2=>
              refine⟨h1,by omega,by omega,?_⟩
              cases hb:l.any big with
              |false=>rfl
              |true=>exact absurd (.inr (.inr hb)) h2
          · cases hv
        have hlz:∀z∈l,I64 z∧z.natAbs≤2^50:=fun z hz=>by
          have h1:=List.any_eq_false.1 hvk.2.2.2 z hz
          unfold big at h1
          have h2:inb 1000000000000000 z=true:=by simpa using h1
          exact⟨by have:=iM.1 h2;unfold I64;omega,e15 (iM.1 h2)⟩
        have RD:=Hm n den m n (by unfold I64;omega) (by omega) (by omega) (by omega) hR (qv hc) (AJ hc)
        have PX:=Ci n (den/nG n m den) d (nR n m den) l n (by omega) (by omega) hnn.2.2.2.1 (uD hc) (EP hR (by omega)) 520 rfl (rM hc hn) (vk hc) (by omega) hdv (e15 ⟨by omega,hvk.2.2.1⟩) hlz _ rfl
        have RX:=rin_d n den (den/nG n m den) d m (nR n m den) l (by omega) (by omega) hnn.2.2.2.1 (uD hc) (EP hR (by omega)) 520 rfl (rM hc hn) (vk hc) (by omega) hdv (e15 ⟨by omega,hvk.2.2.1⟩) hlz _ rfl (Ad hc hn)
        have hcb:=Bj (f:=520) (d:=d) rfl (e15 ⟨by omega,hvk.2.2.1⟩) (nR n m den) (l.map fun z=>z*(den/nG n m den)) 100 (rM hc hn) (fun z hz=>by
          obtain⟨y,hy,rfl⟩:=List.mem_map.1 hz
          exact mB (a:=50) (b:=50) (hlz y hy).2 (vk hc))
        have hrl:=uD hc
        obtain⟨E,hE⟩:∃E,E=100+571*64:=⟨_,rfl⟩
        obtain⟨o,b,e,ho1,ho2⟩:∃o b,pF (crd d (nR n m den) (l.map fun z=>z*(den/nG n m den)))= .tp [dZ o, .sc (.bool b)]∧o.length≤64∧∀z∈o,z.natAbs≤2^E:=by
          cases hx:crd d (nR n m den) (l.map fun z=>z*(den/nG n m den))with
          |none=>exact⟨[],false,rfl,by simp,fun z hz=>by cases hz⟩
          |some x=>
            obtain⟨i1,i2⟩:=hcb x hx
            exact⟨x.1,_,rfl,by omega,fun z hz=>Nat.le_trans (i2 z hz) (Nat.pow_le_pow_right (by decide) (by omega))⟩
        rw[e]at PX RX
        have SM:=Cm o (by omega) (fun z hz=>aZ (ho2 z hz) (by omega))
        have NW:=Ao o (by omega) (fun z hz=>oD (ho2 z hz) (by omega))
        have PC:=Hw n den d _ m _ l o b CK CV RD PX
        have PO:=Ht n den d _ m _ l o b CK CV RD PX SM
        have RN:=Ho n den d m l o b RX
        have RO:=Hn n den d m l o b RX NW
        obtain⟨o2,F,e2,ho3⟩:∃o2 F,jt o b= .tp [dI o2,zI F]∧o2.length≤64:=by
          unfold jt
          split
          · split
            · exact⟨_,_,rfl,ho1⟩
            · exact⟨_,_,rfl,by simp⟩
          · exact⟨_,_,rfl,by simp⟩
        rw[e2]at PO RO
        have IN:=Il o2 o2 (by omega)
        rw[decide_eq_true rfl]at IN
        exact uO n den d F m l o2 b hl LT PC PO RC RV RO RN IN
      · exact nB dim den d _ m l hv hl LT (Hv dim den d _ m l hv CK CV) (Hs dim den d _ m l hv CK CV) (.inr ⟨RC,RV⟩)
    · exact nB dim den d _ m l hc hl LT (Hx dim den d _ m l hc CK) (Hu dim den d _ m l hc CK) (.inl RC)
  · refine sS dim den d m l _ ?_ LT
    by_cases h:lgt dim m=true
    · exact .inr (by have : ¬ l.length ≤ 10 := fun h2 => hs ⟨h, h2⟩
                     omega)
    · exact .inl (by simpa using h)
end DW
theorem vU(v vv:Value)(dim den d:Int)(m:List (List Int))(l:List Int)(hd:I64 dim)(hd2:I64 den)(hdv:I64 d)(w:World)(h:DW.AR (fun _=>False) w (DW.dL dim m den) v)(hv:DW.AR (fun _=>False) w (DW.dV l d) vv):Calls Tryz.prog 10 #[v,vv] w fun e w'=>e= .returned (.bool true)∧Below w.heap.size w w':=by
 refine((DW.uP dim den d m l hd hd2 hdv).2 (fun _=>False) w #[v,vv] (fun _ h=>h.elim) (by simp only[DW.ATp];exact⟨v,_,rfl,h,vv,_,rfl,hv,rfl⟩)).mono fun e w' ⟨u,h1,h2,h3⟩=>⟨?_,h3⟩
 simp only[DW.AR]at h2
 rw[h1,h2.1]
end
end Go.Proofs.YtcgjmdpcplhanaaGreat
