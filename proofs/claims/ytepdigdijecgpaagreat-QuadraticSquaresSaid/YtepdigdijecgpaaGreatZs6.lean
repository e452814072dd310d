/- Lemmas for the law: F22 M30 M31 M32 M33 M34 M35 E17 -/
import Derived.Test.YtepdigdijecgpaaGreatZs5
namespace Go.Proofs.YtepdigdijecgpaaGreat
section
theorem zs49{p q:Prop}(h:q)(f:Wq q->p:=by(intro hW;((first|(apply cG 9;(focus kernel_rfl);(decide+kernel))|(apply cG 8;(focus kernel_rfl);(decide+kernel))|(apply cG 7;(focus kernel_rfl);(decide+kernel))|(apply cG 6;(focus kernel_rfl);(decide+kernel))|(apply cG 5;(focus kernel_rfl);(decide+kernel))|(apply cG 4;(focus kernel_rfl);(decide+kernel))|(apply cG 3;(focus kernel_rfl);(decide+kernel))|(apply cG 2;(focus kernel_rfl);(decide+kernel)));simp only[rD,lu,rC,iX]);exact hW.out)):p:=f ⟨h⟩
theorem uP{p:Prop}(h:p:=by(apply za;(exact rfl);(focus((apply aw;(conv=>lhs;whnf);(first|done|exact rfl)))))):p:=h
theorem zs51{p q:Prop}(h:q)(f:Wq q->p:=by(intro hW;((first|refine nS rfl rfl rfl bW uP bW bW ?_|((try refine dZ ?_);refine aL1 rfl rfl rfl uP ?_)));exact hW.out)):p:=f ⟨h⟩
theorem zs50{p q:Prop}(h:q)(f:Wq q->p:=by(intro hW;((first|refine nS rfl rfl rfl bW uQ bW bW ?_|((try refine dZ ?_);refine aL1 rfl rfl rfl uQ ?_)));exact hW.out)):p:=f ⟨h⟩
theorem zs99{p q:Prop}(h:q)(f:Wq q->p:=by(intro hW;(refine zs49 ?_;refine mn ?_;refine mn ?_;refine zs50 ?_;refine zs51 ?_;refine zs33 ?_);exact hW.out)):p:=f ⟨h⟩
theorem zs46{p q:Prop}(h:q)(f:Wq q->p:=by(intro hW;(refine aL1 rfl rfl rfl (by(first|(apply vO;(exact rfl);(exact bD);(focus((apply aw;(conv=>lhs;whnf);(first|done|exact rfl))));(omega))|(apply bZ;(exact rfl);(exact bD);(focus((apply aw;(conv=>lhs;whnf);(first|done|exact rfl))));(exact rfl)))) ?_);exact hW.out)):p:=f ⟨h⟩
theorem zs96{p q:Prop}(h:q)(f:Wq q->p:=by(intro hW;(refine cZ ?_;refine zs46 ?_;refine np ?_;refine fQ ?_);exact hW.out)):p:=f ⟨h⟩
theorem zs45{p q:Prop}(h:q)(f:Wq q->p:=by(intro hW;(refine aL1 rfl rfl rfl (by(first|(apply(xK (c:=4));(exact rfl);(focus((apply aw;(conv=>lhs;whnf);(first|done|exact rfl))));(exact bD);(exact rfl);(exact rfl))|(apply d_remP;(exact rfl);(focus((apply aw;(conv=>lhs;whnf);(first|done|exact rfl))));(exact bD);(omega))|(apply sP;(exact rfl);(focus((apply aw;(conv=>lhs;whnf);(first|done|exact rfl))));(exact bD);(focus(first|omega|decide))))) ?_);exact hW.out)):p:=f ⟨h⟩
theorem qX{p q:Prop}(h:q)(f:Wq q->p:=by(intro hW;(refine bN ?_;refine zs45 ?_;refine uE ?_;refine aS ?_);exact hW.out)):p:=f ⟨h⟩
theorem zs44{p q:Prop}(h:q)(f:Wq q->p:=by(intro hW;(refine aL1 rfl rfl rfl (by(first|(apply xK;(exact rfl);(focus((apply aw;(conv=>lhs;whnf);(first|done|exact rfl))));(focus((apply aw;(conv=>lhs;whnf);(first|done|exact rfl))));(exact rfl);(exact rfl))|(apply d_remP;(exact rfl);(focus((apply aw;(conv=>lhs;whnf);(first|done|exact rfl))));(focus((apply aw;(conv=>lhs;whnf);(first|done|exact rfl))));(omega))|(apply sP;(exact rfl);(focus((apply aw;(conv=>lhs;whnf);(first|done|exact rfl))));(focus((apply aw;(conv=>lhs;whnf);(first|done|exact rfl))));(focus(first|omega|decide))))) ?_);exact hW.out)):p:=f ⟨h⟩
theorem zs93{p q:Prop}(h:q)(f:Wq q->p:=by(intro hW;(refine cZ ?_;refine zs44 ?_;refine qY ?_;refine aS ?_);exact hW.out)):p:=f ⟨h⟩
theorem qG{p q:Prop}(h:q)(f:Wq q->p:=by(intro hW;(refine gL ?_;refine aX ?_;refine zs93 ?_;refine aM ?_;refine qX ?_);exact hW.out)):p:=f ⟨h⟩
theorem uv{p q:Prop}(h:q)(f:Wq q->p:=by(intro hW;(refine bN ?_;refine zs45 ?_;refine qY ?_;refine aS ?_);exact hW.out)):p:=f ⟨h⟩
theorem zs48{p q:Prop}(h:q)(f:Wq q->p:=by(intro hW;((first|refine nS rfl rfl rfl bW zb4 bW bW ?_|((try refine dZ ?_);refine aL1 rfl rfl rfl zb4 ?_)));exact hW.out)):p:=f ⟨h⟩
theorem zs98{p q:Prop}(h:q)(f:Wq q->p:=by(intro hW;(refine zs28 ?_;refine mn ?_;refine mn ?_;refine zs48 ?_;refine zs33 ?_);exact hW.out)):p:=f ⟨h⟩
theorem zs47{p q:Prop}(h:q)(f:Wq q->p:=by(intro hW;(refine aL1 rfl rfl rfl zb4 ?_);exact hW.out)):p:=f ⟨h⟩
theorem uu{p q:Prop}(h:q)(f:Wq q->p:=by(intro hW;(refine bN ?_;refine uD ?_;refine zs3 ?_;refine uD ?_;refine zs47 ?_;refine aS ?_);exact hW.out)):p:=f ⟨h⟩
end
section
open Go.RowKit
namespace DW
def jt(n:Nat):Nat->Int
 |0=>0
 |j+1=>if n%(j+1)=0 then(if(j+1)%4=1 then jt n j+4 else if(j+1)%4=3 then jt n j-4 else jt n j)else jt n j
def jf(n:Nat):Nat->Nat
 |0=>0
 |j+1=>if n%(j+1)=0 then(if(j+1)%4=0 then jf n j else jf n j+8*(j+1))else jf n j
theorem jt_b(n:Nat):∀j,(jt n j).natAbs<=4*j
 |0=>ai _
 |j+1=>by
  have:=jt_b n j;unfold jt;split
  ·split
   ·omega
   ·split<;>omega
  ·omega
theorem jf_b(n:Nat):∀j,j<=1500->jf n j<=12000*j
 |0,_=>ai _
 |j+1,h=>by
  have h1:=jf_b n j aa;have h2:jf n (j+1)=if n%(j+1)=0 then(if(j+1)%4=0 then jf n j else jf n j+8*(j+1))else jf n j:=rfl
  rw[h2];generalize jf n j=X at*;clear h2;have h3:(if n%(j+1)=0 then(if(j+1)%4=0 then X else X+8*(j+1))else X)<=X+8*(j+1):=by
   split
   ·split
    ·exact Nat.le_add_right ..
    ·exact ai _
   ·exact Nat.le_add_right ..
  omega
def jac(k:Int)(n:Nat):Int:=if k=2 then jt n n else(jf n n:Int)
set_option maxRecDepth 20000
set_option maxHeartbeats 1000000
theorem yS(k:Int)(n:Nat)(hn:n<=1500):Fn Tryz.prog 59 [zI k,zI n] (zI (jac k n)):=by
 unfold jac;refine cR Tryz.func59 aD rfl rfl rfl fun X0=>?_;simp only[bC];refine zs1 ?_;refine cB ?_;refine uz ?_;refine zs1 ?_;refine cB ?_
 (refine eP (bn (sl':=[(0,zI k),(1,zI n),(5,zI 0),(6,zI 0),(7,zI 1)]) (ow':=[]) zb5 bR) ?_)
 refine dA (fun r s=>∃j:Nat,j<=n/\r=n-j/\s=⟨[(0,zI k),(1,zI n),(5,zI (jt n j)),(6,zI (jf n j:Nat)),(7,zI ((j+1:Nat):Int))],[]⟩) (m:=n) ⟨0,aZ _,rfl,rfl⟩ fun r s hs=>?_;obtain⟨j,hj,rfl,rfl⟩:=hs;by_cases hjl:j<n
 ·have hA0:jt n (j+1)=if n%(j+1)=0 then(if(j+1)%4=1 then jt n j+4 else if(j+1)%4=3 then jt n j-4 else jt n j)else jt n j:=rfl
  have hF0:jf n (j+1)=if n%(j+1)=0 then(if(j+1)%4=0 then jf n j else jf n j+8*(j+1))else jf n j:=rfl
  have bA:=jt_b n j;have bB:=jf_b n j aa;have hmod:(n:Int)%((j+1:Nat):Int)=((n%(j+1):Nat):Int):=rfl;obtain⟨A,hAe⟩:∃A,A=jt n j:=⟨_,rfl⟩;obtain⟨B,hBe⟩:∃B,B=jf n j:=⟨_,rfl⟩;rw[<-hAe]at hA0 bA;rw[<-hBe]at hF0 bB;rw[<-hAe,<-hBe];have hB:(B:Int)+8*((j+1:Nat):Int)=((B+8*(j+1):Nat):Int):=by omega
  clear hAe hBe;by_cases hdv:n%(j+1)=0
  ·rw[aB hdv]at hA0 hF0;have hd:(!decide ((n:Int)%((j+1:Nat):Int)=0))=false:=by rw[hmod,hdv];rfl
   clear hdv hmod;have h4:(j+1)%4=0\/(j+1)%4=1\/(j+1)%4=2\/(j+1)%4=3:=by omega
   rcases h4 with h4|h4|h4|h4
   ·have hA:jt n (j+1)=A:=by rw[hA0];simp[h4]
    have hF:jf n (j+1)=B:=by rw[hF0];simp[h4]
    clear hA0 hF0;refine qG ?_;refine aM ?_;refine qX ?_;refine aM ?_;refine uv ?_;refine aM ?_;refine cL ?_;simp only[nx];exact⟨n-(j+1),_,by omega,(bn (sl':=[(0,zI k),(1,zI n),(5,zI A),(6,zI (B:Nat)),(7,zI ((j+1+1:Nat):Int))]) (ow':=[]) zb5 bR),j+1,by omega,rfl,by rw[hA,hF]⟩
   ·have hA:jt n (j+1)=A+4:=by rw[hA0];simp[h4]
    have hF:jf n (j+1)=B+8*(j+1):=by rw[hF0];simp[h4]
    clear hA0 hF0;refine qG ?_;refine aX ?_;refine cL ?_;refine qX ?_;refine aM ?_;refine uv ?_;refine aX ?_;refine zs96 ?_;refine zs1 ?_;rw[hB];refine zs1 ?_;refine cL ?_;simp only[nx];exact⟨n-(j+1),_,by omega,(bn (sl':=[(0,zI k),(1,zI n),(5,zI (A+4)),(6,zI ((B+8*(j+1):Nat):Int)),(7,zI ((j+1+1:Nat):Int))]) (ow':=[]) zb5 bR),j+1,by omega,rfl,by rw[hA,hF]⟩
   ·have hA:jt n (j+1)=A:=by rw[hA0];simp[h4]
    have hF:jf n (j+1)=B+8*(j+1):=by rw[hF0];simp[h4]
    clear hA0 hF0;refine qG ?_;refine aM ?_;refine qX ?_;refine aM ?_;refine uv ?_;refine aX ?_;refine zs96 ?_;refine zs1 ?_;rw[hB];refine zs1 ?_;refine cL ?_;simp only[nx];exact⟨n-(j+1),_,by omega,(bn (sl':=[(0,zI k),(1,zI n),(5,zI A),(6,zI ((B+8*(j+1):Nat):Int)),(7,zI ((j+1+1:Nat):Int))]) (ow':=[]) zb5 bR),j+1,by omega,rfl,by rw[hA,hF]⟩
   ·have hA:jt n (j+1)=A-4:=by rw[hA0];simp[h4]
    have hF:jf n (j+1)=B+8*(j+1):=by rw[hF0];simp[h4]
    clear hA0 hF0;refine qG ?_;refine aM ?_;refine qX ?_;refine aX ?_;refine bN ?_;refine zs22 ?_;refine da ?_;refine uv ?_;refine aX ?_;refine zs96 ?_;refine zs1 ?_;rw[hB];refine zs1 ?_;refine cL ?_;simp only[nx];exact⟨n-(j+1),_,by omega,(bn (sl':=[(0,zI k),(1,zI n),(5,zI (A-4)),(6,zI ((B+8*(j+1):Nat):Int)),(7,zI ((j+1+1:Nat):Int))]) (ow':=[]) zb5 bR),j+1,by omega,rfl,by rw[hA,hF]⟩
  ·rw[an hdv]at hA0 hF0;have hA:=hA0;have hF:=hF0;have hd:(!decide ((n:Int)%((j+1:Nat):Int)=0))=true:=by rw[hmod,aN aa];rfl
   clear hdv hmod hA0 hF0;refine gL ?_;refine aX ?_;refine zs93 ?_;refine aX ?_;refine cL ?_;simp only[nx];exact⟨n-(j+1),_,by omega,(bn (sl':=[(0,zI k),(1,zI n),(5,zI A),(6,zI (B:Nat)),(7,zI ((j+1+1:Nat):Int))]) (ow':=[]) zb5 bR),j+1,by omega,rfl,by rw[hA,hF]⟩
 ·obtain rfl:j=n:=by omega
  have bB:=jf_b j j hn;generalize jt j j=A at*;generalize jf j j=B at*;by_cases hk:k=2
  ·have hkd:decide (k=2)=true:=aF hk;rw[aB hk];refine gL ?_;refine aM ?_;refine nj ?_;refine aX ?_;refine kd ?_;refine zs1 ?_;exact⟨_,Sh.refl,.one (.tmp 4) _ rfl (.tmp 4 rfl)⟩
  ·have hkd:decide (k=2)=false:=aN hk;rw[an hk];refine gL ?_;refine aM ?_;refine nj ?_;refine aM ?_;refine kd ?_;refine zs1 ?_;exact⟨_,Sh.refl,.one (.tmp 4) _ rfl (.tmp 4 rfl)⟩
end DW
end
section
namespace Mx
def ss:List Nat->Nat
 |[]=>0
 |a::l=>a*a+ss l
theorem pM:∀{k n m:Nat} {l:List Nat},l∈sqs k n m->ss l=n/\(∀a∈l,a<=m)/\l.Pairwise (fun a b=>b<=a)
 |0,n,m,l,h=>by
  unfold sqs at h;split at h
  ·next e=>
   rw[cD.1 h];exact⟨e.symm,by simp,List.Pairwise.nil⟩
  ·cases h
 |k+1,n,m,l,h=>by
  obtain⟨x,h1,h2⟩:=kQ h;obtain⟨y,hy,rfl⟩:=im.1 h2;obtain⟨k1,k2,k3⟩:=pM hy;have hx:x<=isq n:=by omega
  have hxx:=aE (bF hx hx) (dm n);refine⟨?_,fun a ha=>?_,List.Pairwise.cons (fun a ha=>k2 a ha) k3⟩
  ·show x*x+ss y=n;rw[k1];omega
  ·rcases bj.1 ha with e|e
   ·omega
   ·have:=k2 a e;omega
theorem zy:∀{l:List Nat} {x:Nat},(∀a∈l,a<=x)->ss l<=l.length*(x*x)
 |[],_,_=>aZ _
 |a::l,x,h=>by
  have h1:=zy (l:=l) (x:=x) fun b hb=>h b (bh _ hb);have h2:=h a ba;have h3:=bF h2 h2;show a*a+ss l<=_;rw[eu,lg];omega
theorem Aj{k n x:Nat}(h:(k+1)*(x*x)<n)(hx:x*x<=n):(sqs k (n-x*x) x).map (x::·)=[]:=by
 rw[List.map_eq_nil_iff,List.eq_nil_iff_forall_not_mem];intro l hl;obtain⟨k1,k2,_⟩:=pM hl;have h1:=zy k2;rw[k1,iB hl]at h1;rw[lg]at h;omega
theorem kP{α:Type}{f:Nat->List α}:∀{n:Nat},(∀x,x<n->f x=[])->down f n=[]
 |0,_=>rfl
 |n+1,h=>by
  unfold down;rw[h n (od n),kP fun x hx=>h x aa];rfl
theorem yn{k n x:Nat}(h:(k+1)*(x*x)<n):down (fun x=>(sqs k (n-x*x) x).map (x::·)) (x+1)=[]:=kP fun y hy=>by
 have h1:y*y<=x*x:=bF aa aa;have h2:(k+1)*(y*y)<=(k+1)*(x*x):=fi _ h1;have h3:x*x<=(k+1)*(x*x):=Nat.le_mul_of_pos_left _ (Nat.succ_pos k);exact Aj aa aa
theorem Ai(n m:Nat):sqs 1 n m=if isq n*isq n=n/\isq n<=m then [[isq n]]else []:=by
 have h0:∀x,x<=isq n->x*x≠n->(sqs 0 (n-x*x) x).map (x::·)=[]:=fun x hx hn=>by
  have h1:=aE (bF hx hx) (dm n);unfold sqs;rw[an aa];rfl
 have hlt:∀x,x<isq n->x*x≠n:=fun x hx e=>by
  have:=lP (n:=n) (r:=x+1-1) (by simpa using Nat.le_of_eq e);have h2:=dm n;have h3:(x+1)*(x+1)<=isq n*isq n:=bF hx hx;have h4:(x+1)*(x+1)=x*x+x+x+1:=by simp only[aU,cw];omega
  omega
 show down (fun x=>(sqs 0 (n-x*x) x).map (x::·)) (min m (isq n)+1)=_;by_cases hm:isq n<=m
 ·rw[fV hm];show(sqs 0 (n-isq n*isq n) (isq n)).map (isq n::·)++down _ (isq n)=_;rw[kP fun x hx=>h0 x aa (hlt x hx),fX];by_cases he:isq n*isq n=n
  ·rw[aB ⟨he,hm⟩];unfold sqs;rw[aB aa];rfl
  ·rw[an fun h=>he h.1];exact h0 _ (ai _) he
 ·rw[an fun h=>hm h.2];exact kP fun x hx=>h0 x aa (hlt x aa)
end Mx
end
section
namespace Mx
def sw(B:Nat):List (Nat×Nat)->Nat
 |[]=>0
 |p::l=>p.1*B^p.2+sw B l
def wtt:List (Nat×Nat)->Nat
 |[]=>0
 |p::l=>p.1+wtt l
def cf(n:Nat):List (Nat×Nat)->Nat
 |[]=>0
 |p::l=>if p.2=n then p.1+cf n l else cf n l
theorem oE(B:Nat):∀l m,sw B (l++m)=sw B l+sw B m
 |[],m=>(bU _).symm
 |p::l,m=>by
  show p.1*B^p.2+sw B (l++m)=p.1*B^p.2+sw B l+sw B m;rw[oE B l m,ep]
theorem tH:∀l m,wtt (l++m)=wtt l+wtt m
 |[],m=>(bU _).symm
 |p::l,m=>by
  show p.1+wtt (l++m)=p.1+wtt l+wtt m;rw[tH l m,ep]
theorem lZ(n:Nat):∀l m,cf n (l++m)=cf n l+cf n m
 |[],m=>(bU _).symm
 |p::l,m=>by
  show(if p.2=n then p.1+cf n (l++m)else cf n (l++m))=(if p.2=n then p.1+cf n l else cf n l)+cf n m;rw[lZ n l m];split
  ·rw[ep]
  ·rfl
theorem rP(B n:Nat)(hB:0<B):∀l:List (Nat×Nat),∃lo hi wl:Nat,sw B l=lo+cf n l*B^n+hi*B^(n+1)/\lo*B<=wl*B^n/\wl+cf n l<=wtt l
 |[]=>⟨0,0,0,by simp[sw,cf],by simp,ai _⟩
 |p::l=>by
  obtain⟨lo,hi,wl,h1,h2,h3⟩:=rP B n hB l;have e1:sw B (p::l)=p.1*B^p.2+sw B l:=rfl;have e2:wtt (p::l)=p.1+wtt l:=rfl;have e3:cf n (p::l)=if p.2=n then p.1+cf n l else cf n l:=rfl
  rcases iY p.2 n with h|h|h
  ·refine⟨p.1*B^p.2+lo,hi,p.1+wl,?_,?_,?_⟩
   ·rw[e1,e3,an aa,h1];omega
   ·have h4:B^p.2*B<=B^n:=by rw[<-bT];exact cv hB h
    rw[aU,aU,br];have:=fi p.1 h4;omega
   ·rw[e2,e3,an aa];omega
  ·refine⟨lo,hi,wl,?_,h2,?_⟩
   ·rw[e1,e3,aB h,h1,h,aU];omega
   ·rw[e2,e3,aB h];omega
  ·obtain⟨d,hd⟩:=ru (show n+1<=p.2 from h);refine⟨lo,p.1*B^d+hi,wl,?_,h2,?_⟩
   ·have h4:p.1*B^p.2=p.1*B^d*B^(n+1):=by rw[hd,ja,aK (B^(n+1)),br]
    rw[e1,e3,an aa,h1,h4,aU];omega
   ·rw[e2,e3,an aa];omega
theorem digit{B:Nat}{l:List (Nat×Nat)}(h:wtt l<B)(n:Nat):sw B l/B^n%B=cf n l:=by
 have hB:0<B:=by omega
 obtain⟨lo,hi,wl,h1,h2,h3⟩:=rP B n hB l;have hp:0<B^n:=ff hB;have hlo:lo<B^n:=by
  by_cases e:lo<B^n
  ·exact e
  ·have k1:B^n*B<=lo*B:=cE _ aa;have k2:wl*B^n<B*B^n:=Nat.mul_lt_mul_of_pos_right aa hp;rw[aK B]at k2;omega
 have h4:sw B l=lo+(cf n l+hi*B)*B^n:=by
  rw[h1,aU,bT,aK (B^n) B,<-br,ep]
 rw[h4,Nat.add_mul_div_right _ _ hp,qI hlo,bU,uR,ik aa]
end Mx
end
section
namespace Mx
def dl:Nat->Nat->List (List Nat)
 |0,_=>[[]]
 |k+1,M=>down (fun x=>(dl k (x+1)).map (x::·)) M
def prs(g:List Nat->Nat)(L:List (List Nat)):List (Nat×Nat):=L.map fun l=>(g l,ss l)
theorem tS(g:List Nat->Nat)(L K:List (List Nat)):prs g (L++K)=prs g L++prs g K:=gT ..
theorem uh(g:List Nat->Nat)(n x:Nat):∀L:List (List Nat),cf n (prs g (L.map (x::·)))=if x*x<=n then cf (n-x*x) (prs (fun l=>g (x::l)) L)else 0
 |[]=>by split<;>rfl
 |l::L=>by
  have ih:=uh g n x L;show(if x*x+ss l=n then g (x::l)+cf n (prs g (L.map (x::·)))else cf n (prs g (L.map (x::·))))=_;rw[ih];by_cases h:x*x<=n
  ·rw[aB h,aB h];show _=(if ss l=n-x*x then g (x::l)+cf (n-x*x) (prs (fun l=>g (x::l)) L)else cf (n-x*x) (prs (fun l=>g (x::l)) L));by_cases e:x*x+ss l=n
   ·rw[aB e,aB aa]
   ·rw[an e,an aa]
  ·rw[an h,an h,an aa]
theorem vQ:∀(k:Nat) (g:List Nat->Nat) (n m:Nat),cf n (prs g (dl k (m+1)))=((sqs k n m).map g).sum
 |0,g,n,m=>by
  show(if 0=n then g []+0 else 0)=(((if n=0 then [[]]else []:List (List Nat))).map g).sum;by_cases h:n=0
  ·rw[aB h,aB h.symm];rfl
  ·rw[an h,an fun e=>h e.symm];rfl
 |k+1,g,n,m=>by
  have key:∀M,cf n (prs g (down (fun x=>(dl k (x+1)).map (x::·)) M))=((down (fun x=>(sqs k (n-x*x) x).map (x::·)) (min M (isq n+1))).map g).sum:=fun M=>by
   induction M with
   |zero=>rw[Nat.zero_min];rfl
   |succ M ih=>
    show cf n (prs g ((dl k (M+1)).map (M::·)++down (fun x=>(dl k (x+1)).map (x::·)) M))=_;rw[tS,lZ,ih,uh];by_cases h:M*M<=n
    ·have hM:=lP h;rw[aB h,dn (by omega:M+1<=isq n+1),dn (by omega:M<=isq n+1),vQ k (fun l=>g (M::l)) (n-M*M) M];show _=(((sqs k (n-M*M) M).map (M::·)++down _ M).map g).sum;rw[gT,List.sum_append,List.map_map];rfl
    ·have hM : isq n + 1 <= M := by
      by_cases e:M<=isq n
      ·exact absurd (aE (bF e e) (dm n)) h
      ·omega
     rw[an h,bU,fV hM,fV (by omega:isq n+1<=M+1)]
  show cf n (prs g (down (fun x=>(dl k (x+1)).map (x::·)) (m+1)))=_;rw[key (m+1),show min (m+1) (isq n+1)=min m (isq n)+1 by omega];rfl
end Mx
end
section
namespace Mx
open DW (arL arr eqs arS)
def wz(x:Nat):Nat:=if x=0 then 1 else 2
def Sg(B:Nat)(g:List Nat->Nat)(k M:Nat):Nat:=sw B (prs g (dl k M))
theorem tM(B x:Nat)(g:List Nat->Nat):∀L:List (List Nat),sw B (prs g (L.map (x::·)))=B^(x*x)*sw B (prs (fun l=>g (x::l)) L)
 |[]=>by show 0=B^(x*x)*0;rw[eL]
 |l::L=>by
  show g (x::l)*B^(x*x+ss l)+sw B (prs g (L.map (x::·)))=B^(x*x)*(g (x::l)*B^ss l+sw B (prs (fun l=>g (x::l)) L));rw[tM B x g L,cw,ja,iZ]
theorem mF(B:Nat)(g:List Nat->Nat)(M:Nat):Sg B g 0 M=g []:=by
 show g []*B^0+0=_;rw[Nat.pow_zero,en,bS]
theorem eF(B:Nat)(g:List Nat->Nat)(k M:Nat):Sg B g (k+1) (M+1)=B^(M*M)*Sg B (fun l=>g (M::l)) k (M+1)+Sg B g (k+1) M:=by
 show sw B (prs g ((dl k (M+1)).map (M::·)++dl (k+1) M))=_;rw[tS,oE,tM];rfl
theorem xI:∀{k M:Nat} {l:List Nat},l∈dl k M->l.length=k/\(∀a∈l,a<M)/\l.Pairwise (fun a b=>b<=a)
 |0,M,l,h=>by
  rw[cD.1 h];exact⟨rfl,by simp,List.Pairwise.nil⟩
 |k+1,M,l,h=>by
  obtain⟨x,h1,h2⟩:=kQ h;obtain⟨y,hy,rfl⟩:=im.1 h2;obtain⟨k1,k2,k3⟩:=xI hy;refine⟨by rw[eu,k1],fun a ha=>?_,List.Pairwise.cons (fun a ha=>by have:=k2 a ha;omega) k3⟩;rcases bj.1 ha with e|e
  ·omega
  ·have:=k2 a e;omega
theorem rO(B c:Nat){g h:List Nat->Nat}:∀{L:List (List Nat)},(∀l∈L,g l=c*h l)->sw B (prs g L)=c*sw B (prs h L)
 |[],_=>by show 0=c*0;rw[eL]
 |l::L,H=>by
  show g l*B^ss l+sw B (prs g L)=c*(h l*B^ss l+sw B (prs h L));rw[rO B c fun x hx=>H x (bh _ hx),H l ba,cw,br]
theorem gE{B c k M:Nat}{g h:List Nat->Nat}(H:∀l,l.length=k->(∀a∈l,a<M)->l.Pairwise (fun a b=>b<=a)->g l=c*h l):Sg B g k M=c*Sg B h k M:=
 rO B c fun l hl=>by
  obtain⟨k1,k2,k3⟩:=xI hl;exact H l k1 k2 k3
theorem ar1(M:Nat):arL [M]=wz M:=by
 by_cases h:M=0
 ·subst h;rfl
 ·simp[arL,arr,eqs,wz,h]
theorem ar2(M:Nat):arL [M,M]=wz M*wz M:=by
 by_cases h:M=0
 ·subst h;rfl
 ·simp[arL,arr,eqs,wz,h]
theorem ar3(M:Nat):arL [M,M,M]=wz M*wz M*wz M:=by
 by_cases h:M=0
 ·subst h;rfl
 ·simp[arL,arr,eqs,wz,h]
theorem ar4(M:Nat):arL [M,M,M,M]=wz M*wz M*wz M*wz M:=by
 by_cases h:M=0
 ·subst h;rfl
 ·simp[arL,arr,eqs,wz,h]
theorem ar11{M a:Nat}(h:a<M):arL [M,a]=(wz M+wz M)*arL [a]:=by
 have h0:M≠0:=by omega
 have h1:¬M=a:=by omega
 by_cases e:a=0;all_goals simp_all [arL,arr,eqs,wz]
theorem ar21{M a:Nat}(h:a<M):arL [M,M,a]=(wz M*wz M+wz M*wz M+wz M*wz M)*arL [a]:=by
 have h0:M≠0:=by omega
 have h1:¬M=a:=by omega
 by_cases e:a=0;all_goals simp_all [arL,arr,eqs,wz]
theorem ar31{M a:Nat}(h:a<M):arL [M,M,M,a]=(wz M*wz M*wz M+wz M*wz M*wz M+wz M*wz M*wz M+wz M*wz M*wz M)*arL [a]:=by
 have h0:M≠0:=by omega
 have h1:¬M=a:=by omega
 by_cases e:a=0;all_goals simp_all [arL,arr,eqs,wz]
theorem ar12{M a b:Nat}(h:a<M)(hb:b<=a):arL [M,a,b]=(wz M+wz M+wz M)*arL [a,b]:=by
 have h0:M≠0:=by omega
 have h1:¬M=a:=by omega
 have h2:¬M=b:=by omega
 have h3:¬a=b->a≠0:=by omega
 by_cases e1:a=b<;>by_cases e:b=0;all_goals simp_all [arL,arr,eqs,wz]
theorem ar22{M a b:Nat}(h:a<M)(hb:b<=a):arL [M,M,a,b]=(wz M*wz M+wz M*wz M+wz M*wz M+(wz M*wz M+wz M*wz M+wz M*wz M))*arL [a,b]:=by
 have h0:M≠0:=by omega
 have h1:¬M=a:=by omega
 have h2:¬M=b:=by omega
 have h3:¬a=b->a≠0:=by omega
 by_cases e1:a=b<;>by_cases e:b=0;all_goals simp_all [arL,arr,eqs,wz]
theorem ar13{M a b c:Nat}(h:a<M)(hb:b<=a)(hc:c<=b):arL [M,a,b,c]=(wz M+wz M+wz M+wz M)*arL [a,b,c]:=by
 have h0:M≠0:=by omega
 have h1:¬M=a:=by omega
 have h2:¬M=b:=by omega
 have h4:¬M=c:=by omega
 have h3:¬a=b->a≠0/\¬a=c:=by omega
 have h5:¬b=c->a≠0/\b≠0/\¬a=c:=by omega
 by_cases e1:a=b<;>by_cases e2:b=c<;>by_cases e:c=0;all_goals simp_all [arL,arr,eqs,wz]
theorem sq_2(b W T:Nat):b*(b*(W*W)+(W+W)*T)+T*T=(b*W+T)*(b*W+T):=by
 simp only[cw,aK,iZ,ep,fe,Nat.add_left_comm]
theorem sq_3(b W T:Nat):b*(b*(b*(W*W*W)+(W*W+W*W+W*W)*T)+(W+W+W)*(T*T))+T*T*T=(b*W+T)*(b*W+T)*(b*W+T):=by
 simp only[cw,aK,iZ,ep,fe,Nat.add_left_comm]
theorem sq_4(b W T:Nat):b*(b*(b*(b*(W*W*W*W)+(W*W*W+W*W*W+W*W*W+W*W*W)*T)+(W*W+W*W+W*W+(W*W+W*W+W*W))*(T*T))+(W+W+W+W)*(T*T*T))+T*T*T*T=(b*W+T)*(b*W+T)*(b*W+T)*(b*W+T):=by
 simp only[cw,aK,iZ,ep,fe,Nat.add_left_comm]
def th(B:Nat):Nat->Nat
 |0=>0
 |M+1=>B^(M*M)*wz M+th B M
theorem len1{P:List Nat->Prop}{M:Nat}(H:∀a,a<M->P [a]):∀l:List Nat,l.length=1->(∀a∈l,a<M)->l.Pairwise (fun a b=>b<=a)->P l
 |[a],_,h,_=>H a (h a ba)
theorem len2{P:List Nat->Prop}{M:Nat}(H:∀a b,a<M->b<=a->P [a,b]):∀l:List Nat,l.length=2->(∀a∈l,a<M)->l.Pairwise (fun a b=>b<=a)->P l
 |[a,b],_,h,hp=>H a b (h a ba) (by simp at hp;exact hp)
theorem len3{P:List Nat->Prop}{M:Nat}(H:∀a b c,a<M->b<=a->c<=b->P [a,b,c]):∀l:List Nat,l.length=3->(∀a∈l,a<M)->l.Pairwise (fun a b=>b<=a)->P l
 |[a,b,c],_,h,hp=>H a b c (h a ba) (by simp at hp;omega) (by simp at hp;omega)
theorem lE(B:Nat):∀M,Sg B arL 1 M=th B M/\Sg B arL 2 M=th B M*th B M/\Sg B arL 3 M=th B M*th B M*th B M/\Sg B arL 4 M=th B M*th B M*th B M*th B M
 |0=>⟨rfl,rfl,rfl,rfl⟩
 |M+1=>by
  obtain⟨i1,i2,i3,i4⟩:=lE B M;have et:th B (M+1)=B^(M*M)*wz M+th B M:=rfl;rw[et];refine⟨?_,?_,?_,?_⟩
  ·rw[eF,mF,ar1,i1]
  ·rw[eF,eF,mF,ar2,gE (B:=B) (c:=wz M+wz M) (k:=1) (M:=M) (g:=fun l=>arL (M::l)) (h:=arL) (len1 fun a ha=>ar11 ha),i1,i2];exact sq_2 ..
  ·rw [eF, eF, eF, mF, ar3,
    gE (B:=B) (c:=wz M*wz M+wz M*wz M+wz M*wz M) (k:=1) (M:=M) (g:=fun l=>arL (M::M::l)) (h:=arL) (len1 fun a ha=>ar21 ha),
    gE (B:=B) (c:=wz M+wz M+wz M) (k:=2) (M:=M) (g:=fun l=>arL (M::l)) (h:=arL) (len2 fun a b ha hb=>ar12 ha hb),i1,i2,i3]
   exact sq_3 ..
  ·rw [eF, eF, eF, eF, mF, ar4,
    gE (B:=B) (c:=wz M*wz M*wz M+wz M*wz M*wz M+wz M*wz M*wz M+wz M*wz M*wz M) (k:=1) (M:=M) (g:=fun l=>arL (M::M::M::l)) (h:=arL) (len1 fun a ha=>ar31 ha),
    gE (B:=B) (c:=wz M*wz M+wz M*wz M+wz M*wz M+(wz M*wz M+wz M*wz M+wz M*wz M)) (k:=2) (M:=M) (g:=fun l=>arL (M::M::l)) (h:=arL) (len2 fun a b ha hb=>ar22 ha hb),
    gE (B:=B) (c:=wz M+wz M+wz M+wz M) (k:=3) (M:=M) (g:=fun l=>arL (M::l)) (h:=arL) (len3 fun a b c ha hb hc=>ar13 ha hb hc),i1,i2,i3,i4]
   exact sq_4 ..
end Mx
end
section
namespace Mx
def rs(h:Nat->Nat)(a:Nat):Nat->Nat
 |0=>0
 |n+1=>rs h a n+h (a+n)
theorem wU(h:Nat->Nat)(a n:Nat):∀m,rs h a (n+m)=rs h a n+rs h (a+n) m
 |0=>rfl
 |m+1=>by
  show rs h a (n+m)+h (a+(n+m))=rs h a n+(rs h (a+n) m+h (a+n+m));rw[wU h a n m,<-ep a,ep]
theorem pP{h g:Nat->Nat}{a:Nat}:∀{n:Nat},(∀i,i<n->h (a+i)=g (a+i))->rs h a n=rs g a n
 |0,_=>rfl
 |n+1,H=>by
  show rs h a n+h (a+n)=rs g a n+g (a+n);rw[pP fun i hi=>H i aa,H n (od n)]
theorem vt{h:Nat->Nat}{a K:Nat}:∀{n:Nat},(∀i,i<n->h (a+i)<=K)->rs h a n<=n*K
 |0,_=>aZ _
 |n+1,H=>by
  show rs h a n+h (a+n)<=(n+1)*K;rw[lg];exact Nat.add_le_add (vt fun i hi=>H i aa) (H n (od n))
def ks(h:Nat->Nat):Nat:=Nat.rec (motive:=fun _=>Nat) 0 (fun q ih=>Nat.add ih (Nat.rec (motive:=fun _=>Nat) 0 (fun r ih2=>Nat.add ih2 (h (Nat.succ (Nat.add (Nat.mul 50 q) r)))) 50)) 30
theorem zB(h:Nat->Nat)(a:Nat):∀n,Nat.rec (motive:=fun _=>Nat) 0 (fun r ih2=>Nat.add ih2 (h (Nat.succ (Nat.add a r)))) n=rs h (1+a) n
 |0=>rfl
 |n+1=>by
  show Nat.rec (motive:=fun _=>Nat) 0 (fun r ih2=>Nat.add ih2 (h (Nat.succ (Nat.add a r)))) n+h (Nat.succ (a+n))=rs h (1+a) n+h (1+a+n);rw[zB h a n,show Nat.succ (a+n)=1+a+n by omega]
theorem xt(h:Nat->Nat):∀n,Nat.rec (motive:=fun _=>Nat) 0 (fun q ih=>Nat.add ih (Nat.rec (motive:=fun _=>Nat) 0 (fun r ih2=>Nat.add ih2 (h (Nat.succ (Nat.add (Nat.mul 50 q) r)))) 50)) n=rs h 1 (50*n)
 |0=>rfl
 |n+1=>by
  show Nat.rec (motive:=fun _=>Nat) 0 (fun q ih=>Nat.add ih (Nat.rec (motive:=fun _=>Nat) 0 (fun r ih2=>Nat.add ih2 (h (Nat.succ (Nat.add (Nat.mul 50 q) r)))) 50)) n+Nat.rec (motive:=fun _=>Nat) 0 (fun r ih2=>Nat.add ih2 (h (Nat.succ (Nat.add (Nat.mul 50 n) r)))) 50=_;rw[xt h n,zB h (Nat.mul 50 n) 50,Nat.mul_succ,wU];rfl
theorem ks_rs(h:Nat->Nat):ks h=rs h 1 1500:=xt h 30
theorem wT(y:Nat):∀K,rs (fun m=>(y+1)^m) 1 K*y+(y+1)=(y+1)^(K+1)
 |0=>by show 0*y+(y+1)=(y+1)^1;rw[jb,bU,Nat.pow_one]
 |K+1=>by
  show(rs (fun m=>(y+1)^m) 1 K+(y+1)^(1+K))*y+(y+1)=_;have:=wT y K;rw[fe 1 K,bT (n:=y+1) (m:=K+1),aU,cw,en];omega
def geo(B d:Nat):Nat:=Nat.div (Nat.mul (Nat.pow B d) (Nat.sub (Nat.pow B (Nat.mul d (Nat.div 1500 d))) 1)) (Nat.sub (Nat.pow B d) 1)
theorem Cg{B d:Nat}(hB:2<=B)(hd:0<d):geo B d=rs (fun m=>B^(d*m)) 1 (1500/d):=by
 have hx:2<=B^d:=aE hB (Nat.le_self_pow aa B);obtain⟨y,hy⟩:∃y,B^d=y+1:=⟨B^d-1,by omega⟩;show B^d*(B^(d*(1500/d))-1)/(B^d-1)=_;have h1:∀m,B^(d*m)=(y+1)^m:=fun m=>by rw[Nat.pow_mul,hy]
 rw[pP (g:=fun m=>(y+1)^m) fun i _=>h1 (1+i),h1,hy];have h2:=wT y (1500/d);rw[bT,aK _ (y+1)]at h2;rw[Nat.mul_sub,en,<-h2,mz,mz,rF _ aa]
def flat{α:Type}(f:Nat->List α)(a:Nat):Nat->List α
 |0=>[]
 |n+1=>flat f a n++f (a+n)
theorem mD(B:Nat)(f:Nat->List (Nat×Nat))(a:Nat):∀n,sw B (flat f a n)=rs (fun i=>sw B (f i)) a n
 |0=>rfl
 |n+1=>by show sw B (flat f a n++f (a+n))=_;rw[oE,mD B f a n];rfl
theorem ug(x:Nat)(f:Nat->List (Nat×Nat))(a:Nat):∀n,cf x (flat f a n)=rs (fun i=>cf x (f i)) a n
 |0=>rfl
 |n+1=>by show cf x (flat f a n++f (a+n))=_;rw[lZ,ug x f a n];rfl
theorem oz:∀l,wtt l=sw 1 l
 |[]=>rfl
 |p::l=>by show p.1+wtt l=p.1*1^p.2+sw 1 l;rw[oz l,Nat.one_pow,en]
def mlt(c d:Nat):List (Nat×Nat):=flat (fun m=>[(c,d*m)]) 1 (1500/d)
def jl(c:Nat->Nat):List (Nat×Nat):=flat (fun d=>mlt (c d) d) 1 1500
theorem xn(c d n:Nat)(hd:0<d)(hn:0<n):∀K,cf n (flat (fun m=>[(c,d*m)]) 1 K)=if n%d=0/\n/d<=K then c else 0
 |0=>by
  rw[an]
  ·rfl
  ·intro⟨h1,h2⟩;have:=gO n d;rw[Nat.le_zero.1 h2,h1]at this;simp at this;omega
 |K+1=>by
  show cf n (flat (fun m=>[(c,d*m)]) 1 K++[(c,d*(1+K))])=_;rw[lZ,xn c d n hd hn K];show(if n%d=0/\n/d<=K then c else 0)+(if d*(1+K)=n then c+0 else 0)=_;by_cases e:d*(1+K)=n
  ·have h1:n%d=0:=by rw[<-e];exact Nat.mul_mod_right ..
   have h2:n/d=1+K:=by rw[<-e];exact Nat.mul_div_cancel_left _ hd
   rw[aB e,an aa,aB aa];omega
  ·rw[an e];by_cases h:n%d=0/\n/d<=K
   ·rw[aB h,aB ⟨h.1,by omega⟩,bS]
   ·rw[an h,an];intro⟨h1,h2⟩;have h3:=gO n d;rw[h1,show n/d=1+K by omega]at h3;omega
def js(c:Nat->Nat)(n:Nat):Nat->Nat
 |0=>0
 |j+1=>if n%(j+1)=0 then js c n j+c (j+1)else js c n j
theorem zE(c:Nat->Nat)(n:Nat)(h0:0<n)(hn:n<=1500):∀j,rs (fun d=>cf n (mlt (c d) d)) 1 j=js c n j
 |0=>rfl
 |j+1=>by
  show rs (fun d=>cf n (mlt (c d) d)) 1 j+cf n (mlt (c (1+j)) (1+j))=if n%(j+1)=0 then js c n j+c (j+1)else js c n j
  rw[zE c n h0 hn j,fe 1 j];unfold mlt;rw[xn _ _ _ (Nat.succ_pos j) h0];by_cases e:n%(j+1)=0
  ·rw[aB e,aB ⟨e,Nat.div_le_div_right hn⟩]
  ·rw[an e,an fun h=>e h.1];rfl
theorem xv(c:Nat->Nat){n:Nat}(hn:0<n):∀j,js c n (n+j)=js c n n
 |0=>rfl
 |j+1=>by
  show(if n%(n+j+1)=0 then js c n (n+j)+c (n+j+1)else js c n (n+j))=_;rw[an (by rw[ik aa];omega),xv c hn j]
theorem vG(c:Nat->Nat){n:Nat}(h0:0<n)(hn:n<=1500):cf n (jl c)=js c n n:=by
 unfold jl;rw[ug,zE c n h0 hn];have:=xv c h0 (1500-n);rwa[show n+(1500-n)=1500 by omega]at this
def c4(d:Nat):Nat:=if d%4=0 then 0 else 8*d
def c1(d:Nat):Nat:=if d%4=1 then 4 else 0
def c3(d:Nat):Nat:=if d%4=3 then 4 else 0
theorem zF(n:Nat):∀j,DW.jf n j=js c4 n j
 |0=>rfl
 |j+1=>by
  show(if n%(j+1)=0 then(if(j+1)%4=0 then DW.jf n j else DW.jf n j+8*(j+1))else DW.jf n j)=if n%(j+1)=0 then js c4 n j+(if(j+1)%4=0 then 0 else 8*(j+1))else js c4 n j
  rw[zF n j];split
  ·split<;>rfl
  ·rfl
theorem zD(n:Nat):∀j,DW.jt n j=(js c1 n j:Int)-js c3 n j
 |0=>rfl
 |j+1=>by
  show(if n%(j+1)=0 then(if(j+1)%4=1 then DW.jt n j+4 else if(j+1)%4=3 then DW.jt n j-4 else DW.jt n j)else DW.jt n j)=(((if n%(j+1)=0 then js c1 n j+(if(j+1)%4=1 then 4 else 0)else js c1 n j):Nat):Int)-((if n%(j+1)=0 then js c3 n j+(if(j+1)%4=3 then 4 else 0)else js c3 n j:Nat):Int);rw[zD n j];generalize js c1 n j=X;generalize js c3 n j=Y;split
  ·split
   ·rw[an aa];omega
   ·split<;>omega
  ·rfl
def jv(B:Nat)(c:Nat->Nat):Nat:=ks fun d=>Nat.mul (c d) (geo B d)
theorem wS(c:Nat)(h:Nat->Nat)(a:Nat):∀n,rs (fun i=>c*h i) a n=c*rs h a n
 |0=>rfl
 |n+1=>by
  show rs (fun i=>c*h i) a n+c*h (a+n)=c*(rs h a n+h (a+n));rw[wS c h a n,cw]
theorem xm(B c d:Nat):sw B (mlt c d)=c*rs (fun m=>B^(d*m)) 1 (1500/d):=by
 unfold mlt;rw[mD,<-wS];rfl
theorem vF{B:Nat}(hB:2<=B)(c:Nat->Nat):sw B (jl c)=jv B c:=by
 unfold jl jv;rw[mD,ks_rs];refine pP fun i hi=>?_;show sw B (mlt (c (1+i)) (1+i))=c (1+i)*geo B (1+i);rw[Cg hB aa,xm]
theorem sB(c:Nat->Nat)(hc:∀d,0<d->c d*(1500/d)<=12000):wtt (jl c)<=18000000:=by
 rw[oz];unfold jl;rw[mD];refine vt (n:=1500) (K:=12000) fun i _=>?_;show sw 1 (mlt (c (1+i)) (1+i))<=12000;rw[xm];refine aE (fi _ (?_:_<=1500/(1+i))) (hc (1+i) aa);refine aE (vt (K:=1) fun j _=>?_) (Nat.le_of_eq (en _));rw[Nat.one_pow];exact ai _
theorem Cr(d:Nat)(_:0<d):c4 d*(1500/d)<=12000:=by
 have h:=Nat.mul_div_le 1500 d;unfold c4;split
 ·omega
 ·rw[br];omega
theorem Ct(d:Nat)(_:0<d):c1 d*(1500/d)<=12000:=by
 have h:=fG 1500 d;unfold c1;split<;>omega
theorem Cs(d:Nat)(_:0<d):c3 d*(1500/d)<=12000:=by
 have h:=fG 1500 d;unfold c3;split<;>omega
def k4(d:Nat):Nat:=cond (Nat.beq (Nat.mod d 4) 0) 0 (Nat.mul 8 d)
def k1(d:Nat):Nat:=cond (Nat.beq (Nat.mod d 4) 1) 4 0
def k3(d:Nat):Nat:=cond (Nat.beq (Nat.mod d 4) 3) 4 0
theorem nP(a b x y:Nat):cond (Nat.beq a b) x y=if a=b then x else y:=by
 by_cases h:a=b
 ·rw[aB h,h,de];rfl
 ·rw[an h]
  cases e:Nat.beq a b with
  |true=>exact absurd (dX e) h
  |false=>rfl
theorem k4_eq:c4=k4:=funext fun d=>(nP (d%4) 0 0 (8*d)).symm
theorem k1_eq:c1=k1:=funext fun d=>(nP (d%4) 1 4 0).symm
theorem k3_eq:c3=k3:=funext fun d=>(nP (d%4) 3 4 0).symm
end Mx
end
section
namespace Mx
open DW (arL arS)
def bB:Nat:=1099511627776
def tv(B:Nat):Nat:=Nat.rec (motive:=fun _=>Nat) 0 (fun x ih=>Nat.add (Nat.mul (Nat.pow B (Nat.mul x x)) (cond (Nat.beq x 0) 1 2)) ih) 39
theorem wE(B:Nat):∀M,Nat.rec (motive:=fun _=>Nat) 0 (fun x ih=>Nat.add (Nat.mul (Nat.pow B (Nat.mul x x)) (cond (Nat.beq x 0) 1 2)) ih) M=th B M
 |0=>rfl
 |M+1=>by
  show B^(M*M)*cond (Nat.beq M 0) 1 2+Nat.rec (motive:=fun _=>Nat) 0 (fun x ih=>Nat.add (Nat.mul (Nat.pow B (Nat.mul x x)) (cond (Nat.beq x 0) 1 2)) ih) M=B^(M*M)*wz M+th B M;rw[wE B M];congr 2;cases M<;>rfl
theorem vn(B:Nat):th B 39=tv B:=by unfold tv;exact(wE B 39).symm
theorem tG(l:List (Nat×Nat)):wtt ((1,0)::l)=1+wtt l:=rfl
theorem wH(B:Nat)(l:List (Nat×Nat)):sw B ((1,0)::l)=1+sw B l:=by
 show 1*B^0+sw B l=_;rw[Nat.pow_zero,en]
theorem xP{n:Nat}(h:0<n)(l:List (Nat×Nat)):cf n ((1,0)::l)=cf n l:=an (by show¬0=n;omega)
theorem wF:th 1 39=77:=by rw[vn];kernel_rfl
set_option maxRecDepth 20000 in
theorem Ck:Nat.beq (Nat.mod (Nat.mul (Nat.mul (Nat.mul (tv bB) (tv bB)) (tv bB)) (tv bB)) (Nat.pow bB 1501)) (Nat.mod (Nat.add 1 (jv bB k4)) (Nat.pow bB 1501))=true:=by kernel_rfl
set_option maxRecDepth 20000 in
theorem two_k:Nat.beq (Nat.mod (Nat.add (Nat.mul (tv bB) (tv bB)) (jv bB k3)) (Nat.pow bB 1501)) (Nat.mod (Nat.add 1 (jv bB k1)) (Nat.pow bB 1501))=true:=by kernel_rfl
theorem qC{X Y B n N:Nat}(hB:0<B)(hn:n<N)(h:X%B^N=Y%B^N):X/B^n%B=Y/B^n%B:=by
 have key:∀X,X/B^n%B=X%B^N/B^n%B:=fun X=>by
  obtain⟨d,rfl⟩:=Nat.exists_eq_add_of_lt hn;have e:B^(n+d+1)=B^n*(B^d*B):=by rw[bT,ja,br]
  have e2:X=X%B^(n+d+1)+B^n*(B*(B^d*(X/B^(n+d+1)))):=by
   have:=(Nat.mod_add_div X (B^(n+d+1))).symm;rw[show B^n*(B*(B^d*(X/B^(n+d+1))))=B^(n+d+1)*(X/B^(n+d+1)) by rw[e];simp only[br,iZ,aK]];exact this
  have e3:X/B^n=X%B^(n+d+1)/B^n+B*(B^d*(X/B^(n+d+1))):=by
   conv=>lhs;rw[e2]
   exact Nat.add_mul_div_left _ _ (ff hB)
  rw[e3,Nat.add_mul_mod_self_left]
 rw[key X,key Y,h]
theorem Cj{n:Nat}(hn:n<1501):tv bB*tv bB*tv bB*tv bB/bB^n%bB=(1+jv bB c4)/bB^n%bB:=by
 have h:=Ck;have hB:0<bB:=by decide
 rw[k4_eq];generalize tv bB=t at*;generalize jv bB k4=j at*;generalize bB=B at*;generalize 1501=N at*;exact qC hB hn (dX h)
theorem two_q{n:Nat}(hn:n<1501):(tv bB*tv bB+jv bB c3)/bB^n%bB=(1+jv bB c1)/bB^n%bB:=by
 have h:=two_k;have hB:0<bB:=by decide
 rw[k3_eq,k1_eq];generalize tv bB=t at*;generalize jv bB k3=i at*;generalize jv bB k1=j at*;generalize bB=B at*;generalize 1501=N at*;exact qC hB hn (dX h)
theorem yT{n:Nat}(h0:0<n)(hn:n<=1500)(M:Nat)(hM:isq n<=M):arS (sqs 4 n M)=DW.jf n n:=by
 have hs:isq n<=38:=by
  have a:=dm n;by_cases e:39<=isq n
  ·have:=bF e e;omega
  ·omega
 have g1:=(lE 1 39).2.2.2;have g2:=(lE bB 39).2.2.2;have hb:bB=1099511627776:=rfl;have j2:=vF (B:=bB) aA c4;have j1:=sB c4 Cr;rw[wF]at g1;rw[vn]at g2;have d1:wtt (prs arL (dl 4 39))<bB:=by
  rw[oz,show sw 1 (prs arL (dl 4 39))=Sg 1 arL 4 39 from rfl,g1,hb];decide
 have d2:wtt ((1,0)::jl c4)<bB:=by
  rw[tG,hb];omega
 have e1:=digit d1 n;have e2:=digit d2 n;rw[show sw bB (prs arL (dl 4 39))=Sg bB arL 4 39 from rfl,g2]at e1;rw[wH,j2]at e2;rw[Cj aa]at e1;have e3:cf n ((1,0)::jl c4)=cf n (jl c4):=xP h0 _;have e4:=e1.symm.trans (e2.trans (e3.trans (vG c4 h0 hn)));rw[vQ 4 arL n 38]at e4;have e5:sqs 4 n 38=sqs 4 n M:=by
  show down _ (min 38 (isq n)+1)=down _ (min M (isq n)+1);rw[fV hs,fV hM]
 rw[<-e5,zF];exact e4
theorem AO{n:Nat}(h0:0<n)(hn:n<=1500)(M:Nat)(hM:isq n<=M):((arS (sqs 2 n M):Nat):Int)=DW.jt n n:=by
 have hs:isq n<=38:=by
  have a:=dm n;by_cases e:39<=isq n
  ·have:=bF e e;omega
  ·omega
 have g1:=(lE 1 39).2.1;have g2:=(lE bB 39).2.1;have hb:bB=1099511627776:=rfl;have i1:=sB c3 Cs;have i2:=vF (B:=bB) aA c3;have j1:=sB c1 Ct;have j2:=vF (B:=bB) aA c1;rw[wF]at g1;rw[vn]at g2;have d1:wtt (prs arL (dl 2 39)++jl c3)<bB:=by
  rw[tH,oz (prs arL (dl 2 39)),show sw 1 (prs arL (dl 2 39))=Sg 1 arL 2 39 from rfl,g1,hb];omega
 have d2:wtt ((1,0)::jl c1)<bB:=by
  rw[tG,hb];omega
 have e1:=digit d1 n;have e2:=digit d2 n;rw[oE,show sw bB (prs arL (dl 2 39))=Sg bB arL 2 39 from rfl,g2,i2,lZ,vG c3 h0 hn]at e1;rw[wH,j2]at e2;rw[two_q aa]at e1;have e3:cf n ((1,0)::jl c1)=cf n (jl c1):=xP h0 _;have e4:=e1.symm.trans (e2.trans (e3.trans (vG c1 h0 hn)));rw[vQ 2 arL n 38]at e4;have e5:sqs 2 n 38=sqs 2 n M:=by
  show down _ (min 38 (isq n)+1)=down _ (min M (isq n)+1);rw[fV hs,fV hM]
 rw[<-e5,zD];have e6:arS (sqs 2 n 38)+js c3 n n=js c1 n n:=e4;omega
end Mx
end
section
open Go.RowKit
namespace DW
theorem mZ{α:Type}{a b:List α}(hl:a.length=b.length)(h:a.take a.length=b.take a.length):a=b:=by
 rw[il]at h;rw[h,hl,il]
set_option maxRecDepth 20000
set_option maxHeartbeats 1000000
theorem Cc(a b:List Int)(ha:a.length<=1000000000):Fn Tryz.prog 38 [dI a,dI b] (.sc (.bool (decide (a=b)))):=by
 refine cR Tryz.func38 aD rfl rfl rfl fun X0=>?_;simp only[bC];by_cases hl:a.length=b.length
 ·refine ij ?_;refine uu ?_;refine aM ?_;refine cB ?_
  (refine eP (bn (sl':=[(0,dI a),(1,dI b),(5,zI 0)]) (ow':=[]) zb5 bR) ?_)
  refine dA (fun r s=>∃k,k<=a.length/\r=a.length-k/\a.take k=b.take k/\s=⟨[(0,dI a),(1,dI b),(5,zI (k:Nat))],[]⟩) (m:=a.length) ⟨0,aZ _,rfl,rfl,rfl⟩ fun r s hs=>?_;obtain⟨k,hk,rfl,he,rfl⟩:=hs;by_cases hkl:k<a.length
  ·obtain⟨x,hx⟩:=get_some hkl;obtain⟨y,hy⟩:=get_some (m:=b) (k:=k) aa;by_cases hxy:x=y
   ·refine ke ?_;refine zs98 ?_;refine aM ?_;refine cL ?_;simp only[nx,inB];exact⟨a.length-(k+1),_,by omega,(bn (sl':=[(0,dI a),(1,dI b),(5,zI ((k+1:Nat):Int))]) (ow':=[]) zb5 bR),k+1,by omega,rfl,by rw[eR hx,eR hy,he,hxy],rfl⟩
   ·have EC:decide (a=b)=false:=aN fun e=>hxy (by rw[e,hy]at hx;cases hx;rfl);refine ke ?_;refine zs98 ?_;refine aX ?_;refine lf ?_;refine zs1 ?_;rw[EC];exact⟨_,Sh.refl,.one (.tmp 4) _ rfl (.tmp 4 rfl)⟩
  ·obtain rfl:k=a.length:=by omega
   have EC:decide (a=b)=true:=aF (mZ hl he);refine zs1 ?_;refine pw ?_;refine aM ?_;refine lf ?_;refine zs1 ?_;rw[EC];exact⟨_,Sh.refl,.one (.tmp 4) _ rfl (.tmp 4 rfl)⟩
 ·have EC:decide (a=b)=false:=aN fun e=>hl (by rw[e]);refine ij ?_;refine uu ?_;refine aX ?_;refine lf ?_;refine zs1 ?_;rw[EC];exact⟨_,Sh.refl,.one (.tmp 4) _ rfl (.tmp 4 rfl)⟩
theorem AJ(a b:List (List Int))(ha:a.length<=1000000000)(ha2:∀l∈a,l.length<=1000000000):Fn Tryz.prog 35 [dM a,dM b] (.sc (.bool (decide (a=b)))):=by
 refine cR Tryz.func35 aD rfl rfl rfl fun X0=>?_;simp only[bC];by_cases hl:a.length=b.length
 ·refine ij ?_;refine uu ?_;refine aM ?_;refine cB ?_
  (refine eP (bn (sl':=[(0,dM a),(1,dM b),(5,zI 0)]) (ow':=[]) zb5 bR) ?_)
  refine dA (fun r s=>∃k,k<=a.length/\r=a.length-k/\a.take k=b.take k/\s=⟨[(0,dM a),(1,dM b),(5,zI (k:Nat))],[]⟩) (m:=a.length) ⟨0,aZ _,rfl,rfl,rfl⟩ fun r s hs=>?_;obtain⟨k,hk,rfl,he,rfl⟩:=hs;by_cases hkl:k<a.length
  ·obtain⟨x,hx⟩:=get_some hkl;obtain⟨y,hy⟩:=get_some (m:=b) (k:=k) aa;have IN:=Cc x y (ha2 x (eN hx));by_cases hxy:x=y
   ·rw[aF hxy]at IN;refine ke ?_;refine zs99 ?_;refine aM ?_;refine cL ?_;simp only[nx,inB];exact⟨a.length-(k+1),_,by omega,(bn (sl':=[(0,dM a),(1,dM b),(5,zI ((k+1:Nat):Int))]) (ow':=[]) zb5 bR),k+1,by omega,rfl,by rw[eR hx,eR hy,he,hxy],rfl⟩
   ·rw[aN hxy]at IN;have EC:decide (a=b)=false:=aN fun e=>hxy (by rw[e,hy]at hx;cases hx;rfl);refine ke ?_;refine zs99 ?_;refine aX ?_;refine lf ?_;refine zs1 ?_;rw[EC];exact⟨_,Sh.refl,.one (.tmp 4) _ rfl (.tmp 4 rfl)⟩
  ·obtain rfl:k=a.length:=by omega
   have EC:decide (a=b)=true:=aF (mZ hl he);refine zs1 ?_;refine pw ?_;refine aM ?_;refine lf ?_;refine zs1 ?_;rw[EC];exact⟨_,Sh.refl,.one (.tmp 4) _ rfl (.tmp 4 rfl)⟩
 ·have EC:decide (a=b)=false:=aN fun e=>hl (by rw[e]);refine ij ?_;refine uu ?_;refine aX ?_;refine lf ?_;refine zs1 ?_;rw[EC];exact⟨_,Sh.refl,.one (.tmp 4) _ rfl (.tmp 4 rfl)⟩
end DW
end
end Go.Proofs.YtepdigdijecgpaaGreat
