/-
  Lemmas for NeighbourMembers.
-/
import Derived.Test.YtdobfmlmenaajaaGreatDoorN14
namespace Go.Proofs.YtdobfmlmenaajaaGreatDoor
open Go.RowKit
open _root_.Int renaming le_of_lt→cA,mul_nonneg→cY,mul_comm→cZ,eq_of_mul_eq_mul_left→dS,natCast_nonneg→dV,pow_succ→fN,dvd_refl→fO,dvd_mul_of_dvd_right→fP,natAbs_mul→fV,mul_assoc→gL,natCast_add→jg,dvd_zero→jO,mul_eq_zero→kO,dvd_mul_of_dvd_left→lc,zero_mul→n0,mul_zero→n9,mul_neg→pG,dvd_add→pH
open _root_.List renaming range→cf
open _root_.Nat renaming le_refl→ah,lt_or_ge→aE,mul_comm→aO,mul_le_mul_left→aY,eq_zero_or_pos→bO,le_trans→bW,mul_le_mul→ci,mod_lt→en,mul_assoc→fL,div_add_mod→gj,add_sub_cancel→gS,one_mul→jG,pos_of_ne_zero→kU
open _root_.Ne renaming symm→ak
set_option maxHeartbeats 6400000
set_option maxRecDepth 4096
set_option linter.all false
theorem oi(n:Nat)(f:Nat->Int):aD (n+1) f=f 0+aD n (fun j=>f (j+1)):=by
 induction n with
 | zero=>simp[aD]
 | succ n ih=>rw[aD,ih];simp only[aD];omega
theorem lq{n:Nat}{f:Nat->Int}{h:Int}(hf:∀i,i<n->h∣f i):h∣aD n f:=by
 induction n with
 | zero=>exact jO _
 | succ n ih=>simp only[aD];exact pH (ih fun i hi=>hf i om) (hf n om)
theorem ln(n:Nat)(f g:Nat->Int):aD n (fun i=>f i-g i)=aD n f-aD n g:=by
 induction n with
 | zero=>rfl
 | succ n ih=>simp only[aD];rw[ih];omega
theorem xj(n:Nat)(f:Nat->Int):aD n (fun i=>- f i)=- aD n f:=by
 induction n with
 | zero=>rfl
 | succ n ih=>simp only[aD];rw[ih];omega
theorem An(n:Nat)(c:Int):aD n (fun _=>c)=n*c:=by
 induction n with
 | zero=>simp[aD]
 | succ n ih=>simp only[aD];rw[ih];grind
def kQ(d:Nat)(c:Nat->Int)(x:Int):Int:=aD d (fun i=>c i*x^i)
theorem Du{d N:Nat}{c:Nat->Int}(h:∀i,d<=i->c i=0)(hN:d<=N)(x:Int):kQ N c x=kQ d c x:=by
 induction N with
 | zero=>rw[show d=0 by omega]
 | succ N ih =>
  by_cases e:d=N+1
  ·rw[e]
  ·simp only[kQ,aD];rw[h N om];simp only[kQ]at ih;rw[ih om];omega
theorem pe(d:Nat)(c:Nat->Int)(x:Int):kQ (d+1) c x=c 0+x*kQ d (fun i=>c (i+1)) x:=by
 simp only[kQ];rw[oi,<-dF];congr 1
 ·simp
 ·exact aP fun i _=>by rw[fN];grind
theorem pw:∀(d:Nat) (c:Nat->Int),(∀x:Int,1<=x->kQ d c x=0)->∀i,i<d->c i=0
 | 0,_,_,_,hi=>by omega
 | d+1,c,h,i,hi=>by
  have h0:c 0=0:=by
   have h1:=h ((c 0).natAbs+1) om;rw[pe]at h1;have h2:(((c 0).natAbs:Int)+1)∣c 0:=⟨- kQ d (fun i=>c (i+1)) ((c 0).natAbs+1),by rw[pG];omega⟩
   have h3:=Int.natAbs_dvd_natAbs.2 h2;rcases bO (c 0).natAbs with e|e
   ·omega
   ·have h4:=Nat.le_of_dvd e h3;omega
  have h1:∀x:Int,1<=x->kQ d (fun i=>c (i+1)) x=0:=by
   intro x hx;have h1:=h x hx;rw[pe,h0,Int.zero_add]at h1;rcases kO.1 h1 with e|e
   ·omega
   ·exact e
  match i,hi with
  | 0,_=>exact h0
  | i+1,hi=>exact pw d (fun i=>c (i+1)) h1 i om
theorem Dr(d:Nat)(c e:Nat->Int)(x:Int):kQ d (fun i=>c i-e i) x=kQ d c x-kQ d e x:=by
 simp only[kQ];rw[<-ln];exact aP fun i _=>by rw[Int.sub_mul]
theorem Iw(d:Nat)(c e:Nat->Int)(x:Int):kQ d (fun i=>c i+e i) x=kQ d c x+kQ d e x:=by
 simp only[kQ];rw[<-eX];exact aP fun i _=>by rw[Int.add_mul]
theorem Dt(d:Nat)(a:Int)(c:Nat->Int)(x:Int):kQ d (fun i=>a*c i) x=a*kQ d c x:=by
 simp only[kQ];rw[<-dF];exact aP fun i _=>by rw[gL]
theorem AA{d:Nat}{c e:Nat->Int}(h:∀x,kQ d c x=kQ d e x){i:Nat}(hi:i<d):c i=e i:=by
 have:=pw d (fun i=>c i-e i) (fun x _=>by rw[Dr,h x];omega) i hi
 omega
theorem Dq(d n:Nat)(c:Nat->Nat->Int)(x:Int):kQ d (fun i=>aD n (fun j=>c j i)) x=aD n (fun j=>kQ d (c j) x):=by
 simp only[kQ];rw[nf];refine aP fun i _=>?_;rw[cZ,<-dF];exact aP fun j _=>by rw[cZ]
def LU(c:Nat->Int):Nat->Int
 | 0=>0
 | i+1=>c i
theorem Ds(d:Nat)(c:Nat->Int)(x:Int):kQ (d+1) (LU c) x=x*kQ d c x:=by
 rw[pe];show 0+x*kQ d c x=_;omega
def pm(d:Nat)(f:Int->Int):Prop:=∃c:Nat->Int,(∀i,d<=i->c i=0)/\∀x,f x=kQ d c x
theorem pm.mono{d e:Nat}{f:Int->Int}(h:pm d f)(hd:d<=e):pm e f:=by
 obtain⟨c,h1,h2⟩:=h;exact⟨c,fun i hi=>h1 i om,fun x=>by rw[h2 x,Du h1 hd]⟩
theorem pm.add{d:Nat}{f g:Int->Int}(h:pm d f)(k:pm d g):pm d (fun x=>f x+g x):=by
 obtain⟨c,h1,h2⟩:=h;obtain⟨e,k1,k2⟩:=k;exact⟨fun i=>c i+e i,fun i hi=>by simp only;rw[h1 i hi,k1 i hi];rfl,fun x=>by rw[Iw,<-h2 x,<-k2 x]⟩
theorem pm.smul{d:Nat}{f:Int->Int}(h:pm d f)(a:Int):pm d (fun x=>a*f x):=by
 obtain⟨c,h1,h2⟩:=h;exact⟨fun i=>a*c i,fun i hi=>by simp only;rw[h1 i hi,n9],fun x=>by rw[Dt,<-h2 x]⟩
theorem pm.xmul{d:Nat}{f:Int->Int}(h:pm d f):pm (d+1) (fun x=>x*f x):=by
 obtain⟨c,h1,h2⟩:=h;refine⟨LU c,fun i hi=>?_,fun x=>by rw[Ds,<-h2 x]⟩
 match i,hi with
 | i+1,hi=>exact h1 i om
theorem pm.zero(d:Nat):pm d (fun _=>0):=⟨fun _=>0,fun _ _=>rfl,fun x=>by
 simp only[kQ];rw[ic];intro i _;rw[n0]⟩
theorem pm.sum{d:Nat}:∀{n:Nat} {f:Nat->Int->Int},(∀j,j<n->pm d (f j))->pm d (fun x=>aD n (fun j=>f j x))
 | 0,_,_=>by simp only[aD];exact pm.zero d
 | n+1,f,h=>by simp only[aD];exact(pm.sum fun j hj=>h j om).add (h n om)
theorem pm.congr{d:Nat}{f g:Int->Int}(h:pm d f)(e:∀x,g x=f x):pm d g:=by
 obtain⟨c,h1,h2⟩:=h;exact⟨c,h1,fun x=>(e x).trans (h2 x)⟩
theorem pm.lin{d:Nat}{f:Int->Int}(h:pm d f)(a b:Int):pm (d+1) (fun x=>(a+b*x)*f x) :=
 (((h.smul a).mono om).add (h.xmul.smul b)).congr fun x=>by grind
def Ho:Nat->(Nat->Bool)->Nat
 | 0,_=>0
 | n+1,R=>(if R 0 then 0 else 1)+Ho n (fun i=>R (i+1))
theorem yY:∀(n:Nat) (R:Nat->Bool) (a b:aU),(∀i,R i=true->∀j,b i j=0)->pm (1+Ho n R) (fun x=>det n (fun i j=>a i j+b i j*x))
 | 0,R,a,b,_=>⟨fun i=>if i=0 then 1 else 0,fun i hi=>by simp only[Ho]at hi;exact if_neg om,fun x=>by simp[det,Ho,kQ,aD]⟩
 | n+1,R,a,b,h=>by
  simp only[det,Ho];refine pm.sum fun j _=>?_;have ih:=yY n (fun i=>R (i+1)) (iR a j) (iR b j) (fun i hi k=>h (i+1) hi _);have e:∀x:Int,iR (fun i j=>a i j+b i j*x) j=fun i k=>iR a j i k+iR b j i k*x:=fun x=>rfl
  cases hr:R 0 with
  | true =>
   refine((ih.smul (sw j*a 0 j)).congr fun x=>?_).mono (by simp)
   rw[e x,h 0 hr j];grind
  | false =>
   refine((ih.lin (sw j*a 0 j) (sw j*b 0 j)).congr fun x=>?_).mono (by simp;omega)
   rw[e x];grind
theorem DH:∀(n:Nat) (R:Nat->Bool),Ho n R<=n
 | 0,_=>ah _
 | n+1,R=>by have:=DH n (fun i=>R (i+1));simp only[Ho];split<;>omega
theorem yW:∀(n:Nat) (R:Nat->Bool) (i:Nat),i<n->R i=true->Ho n R+1<=n
 | n+1,R,0,_,h=>by have:=DH n (fun i=>R (i+1));simp only[Ho,h,if_true];omega
 | n+1,R,i+1,hi,h=>by have:=yW n (fun i=>R (i+1)) i om h;simp only[Ho];split<;>omega
def cm(M:aU)(x:Int):aU:=fun i j=>- M i j+(if i=j then 1 else 0)*x
theorem Ba:∀(n:Nat) (M:aU),pm n (fun x=>det n (cm M x)-x^n)
 | 0,M=>⟨fun _=>0,fun _ _=>rfl,fun x=>by simp[det,kQ,aD]⟩
 | n+1,M=>by
  have ih:=Ba n (fun i j=>M (i+1) (j+1));have hx:pm (n+1) (fun x=>x^n):=⟨fun i=>if i=n then 1 else 0,fun i hi=>if_neg om,fun x=>by
   simp only[kQ];rw[cN n om (fun i _ hi=>by rw[if_neg hi,n0])];simp⟩
  have hj:∀j,j<n->pm (n+1) (fun x=>sw (j+1)*cm M x 0 (j+1)*det n (iR (cm M x) (j+1))):=by
   intro j hj;have h1:=yY n (fun i=>decide (i=j)) (iR (fun i j=>- M i j) (j+1)) (iR (fun i j=>if i=j then 1 else 0) (j+1)) (fun i hi k=>by
    simp only[decide_eq_true_eq]at hi;subst hi;simp only[iR];exact if_neg (by unfold skip;split<;>omega))
   have h2:=yW n (fun i=>decide (i=j)) j hj (by simp)
   refine((h1.smul (sw (j+1)*- M 0 (j+1))).mono om).congr fun x=>?_;have e0:cm M x 0 (j+1)=- M 0 (j+1):=by simp[cm]
   rw[e0];rfl
  have hs:=pm.sum hj;refine(((ih.lin (- M 0 0) 1).add (hx.smul (- M 0 0))).add hs).congr fun x=>?_;simp only[det];rw[oi];have e1:iR (cm M x) 0=cm (fun i j=>M (i+1) (j+1)) x:=by
   funext i k;simp[iR,cm,skip]
  have e2:cm M x 0 0=- M 0 0+x:=by simp[cm]
  rw[e1,e2,t9,fN]
  grind
theorem K8{n:Nat}(M:aU){i:Nat}(hi:i<n)(j:Nat):pm n (fun x=>pW n (cm M x) i j):=by
 have h1:=yY n (fun k=>decide (k=i)) (setRow (fun i j=>- M i j) i (iC j)) (fun a b=>if a=i then 0 else if a=b then 1 else 0) (fun k hk b=>by
  simp only[decide_eq_true_eq]at hk;simp[hk])
 have h2:=yW n (fun k=>decide (k=i)) i hi (by simp)
 refine(h1.mono om).congr fun x=>?_;unfold pW;congr 1;funext a b;simp only[setRow,cm];by_cases e:a=i
 ·simp[e]
 ·simp[e]
theorem qI{h:Int}:∀(n:Nat) (B C:aU),(∀i j,h∣B i j-C i j)->h∣det n B-det n C
 | 0,_,_,_=>by simp[det]
 | n+1,B,C,hd=>by
  simp only[det];rw[<-ln];refine lq fun j _=>?_;obtain⟨u,hu⟩:=qI n (iR B j) (iR C j) (fun i k=>hd _ _);obtain⟨v,hv⟩:=hd 0 j;refine⟨sw j*(B 0 j*u+v*det n (iR C j)),?_⟩;have e1:det n (iR B j)=det n (iR C j)+h*u:=by omega
  have e2:B 0 j=C 0 j+h*v:=by omega
  rw[e1,e2];grind
def dg(A:aU)(h:Int)(m:Nat):aU:=fun i j=>A i j+(if i<m/\i=j then h else 0)
theorem GI(n:Nat)(A:aU)(h:Int):∀m,m<=n->h*h∣det n (dg A h m)-det n A-h*aD m (fun i=>pW n A i i)
 | 0,_=>by
  have:dg A h 0=A:=by funext i j;simp[dg]
  rw[this];simp[aD]
 | m+1,hm=>by
  obtain⟨q,hq⟩:=GI n A h m om;have e1:dg A h (m+1)=setRow (dg A h m) m (fun j=>dg A h m m j+h*iC m j):=by
   funext i j;simp only[dg,setRow,iC];by_cases e:i=m
   ·subst e;by_cases e2:i=j
    ·subst e2;simp
    ·simp[e2,ak e2]
   ·simp only[e,if_false];congr 1;by_cases e2:i<m
    ·simp[e2,show i<m+1 by omega]
    ·simp[e2,show ¬i<m+1 by omega]
  have e2:det n (dg A h (m+1))=det n (dg A h m)+h*pW n (dg A h m) m m:=by
   rw[e1,iI _ om,oH _ om,iD];rfl
  obtain⟨u,hu⟩:=qI (h:=h) n (setRow (dg A h m) m (iC m)) (setRow A m (iC m)) (fun i j=>by
   simp only[setRow,dg];split
   ·simp
   ·split
    ·exact⟨1,by omega⟩
    ·exact⟨0,by omega⟩)
  refine⟨q+u,?_⟩;have e3:pW n (dg A h m) m m=pW n A m m+h*u:=by unfold pW;omega
  rw[e2,e3];simp only[aD];have:det n (dg A h m)=det n A+h*aD m (fun i=>pW n A i i)+h*h*q:=by omega
  rw[this];grind
theorem Dk(x h:Int):∀i:Nat,h*h∣(x+h)^i-x^i-h*(i*x^(i-1))
 | 0=>by simp
 | i+1=>by
  obtain⟨q,hq⟩:=Dk x h i;refine⟨(x+h)*q+i*x^(i-1),?_⟩;have e:(x+h)^i=x^i+h*(i*x^(i-1))+h*h*q:=by omega
  rw[fN,e,fN];have e2:(i:Int)*x^i=i*x^(i-1)*x:=by
   match i with
   | 0=>simp
   | i+1=>simp only[gS];rw[fN,gL]
  simp only[gS,jg,Int.natCast_one]
  grind
def L4(c:Nat->Int):Nat->Int:=fun i=>(i+1)*c (i+1)
theorem Iv(d:Nat)(c:Nat->Int)(x h:Int):h*h∣kQ (d+1) c (x+h)-kQ (d+1) c x-h*kQ d (L4 c) x:=by
 have e:kQ d (L4 c) x=aD (d+1) (fun i=>c i*(i*x^(i-1))):=by
  rw[oi];simp only[kQ,L4];rw[show c 0*(((0:Nat):Int)*x^(0-1))=0 by simp,Int.zero_add]
  refine aP fun i _=>?_;simp only[gS,jg,Int.natCast_one];grind
 rw[e,<-dF];simp only[kQ];rw[<-ln,<-ln];refine lq fun i _=>?_;obtain⟨q,hq⟩:=Dk x h i;exact⟨c i*q,by
  have e:(x+h)^i=x^i+h*(i*x^(i-1))+h*h*q:=by omega
  rw[e];grind⟩
theorem Jd{z:Int}(h:∀k:Int,1<=k->k∣z):z=0:=by
 have h3:=Int.natAbs_dvd_natAbs.2 (h (z.natAbs+1) om);rcases bO z.natAbs with e|e
 ·omega
 ·have h4:=Nat.le_of_dvd e h3;omega
def mm(n:Nat)(A B:aU):aU:=fun i j=>aD n (fun k=>A i k*B k j)
def tr(n:Nat)(A:aU):Int:=aD n (fun i=>A i i)
def oF(n:Nat)(M:aU):Nat->aU
 | 0=>fun i j=>if i=j then 1 else 0
 | k+1=>fun i j=>mm n M (oF n M k) i j+(if i=j then tr n (mm n M (oF n M k))/(-((k+1:Nat):Int))else 0)
theorem IM{n:Nat}(hn:1<=n)(M:aU):∃(a:Nat->Nat->Nat->Int) (χ:Nat->Int),χ n=1/\(∀i j,i<n->j<n->a i j n=0)
 /\(∀i r k,i<n->r<n->k<=n->LU (a i r) k-aD n (fun j=>M r j*a i j k)=if i=r then χ k else 0)
 /\(∀k,k<n->aD n (fun i=>a i i k)=(k+1)*χ (k+1))
 /\(∀i j,i<n->j<n->a i j 0=pW n (cm M 0) i j):=by
 have hc:∀i j,∃c:Nat->Int,i<n->((∀k,n<=k->c k=0)/\∀x,pW n (cm M x) i j=kQ n c x):=fun i j=>by
  by_cases hi:i<n
  ·obtain⟨c,h⟩:=K8 M hi j;exact⟨c,fun _=>h⟩
  ·exact⟨fun _=>0,fun h=>absurd h hi⟩
 obtain⟨a,ha⟩:∃a:Nat->Nat->Nat->Int,∀i j,i<n->((∀k,n<=k->a i j k=0)/\∀x,pW n (cm M x) i j=kQ n (a i j) x) :=
  ⟨fun i j=>(hc i j).choose,fun i j=>(hc i j).choose_spec⟩
 obtain⟨e,he1,he2⟩:=Ba n M;have hχ:∀x,det n (cm M x)=kQ (n+1) (fun k=>if k=n then 1 else e k) x:=by
  intro x;have h1:=he2 x;simp only[kQ,aD]at h1 ⊢;rw[aP (g:=fun i=>e i*x^i) (fun i hi=>by rw[if_neg om]),<-h1];simp
 refine⟨a,fun k=>if k=n then 1 else e k,by simp,fun i j hi _=>(ha i j hi).1 n (ah _),fun i r k hi hr hk=>?_,fun k hk=>?_,fun i j hi hj=>?_⟩
 ·have key:∀x,kQ (n+1) (fun k=>LU (a i r) k-aD n (fun j=>M r j*a i j k)) x=kQ (n+1) (fun k=>if i=r then(if k=n then 1 else e k)else 0) x:=by
   intro x;have h1:=yK (cm M x) hi hr;rw[Dr,Ds,Dq (n+1) n (fun j k=>M r j*a i j k)];rw[aP (g:=fun j=>M r j*pW n (cm M x) i j) (fun j hj=>by rw[Dt,Du (ha i j hi).1 om,<-(ha i j hi).2 x])]
   rw[<-(ha i r hi).2 x];have h2:aD n (fun j=>cm M x r j*pW n (cm M x) i j)=x*pW n (cm M x) i r-aD n (fun j=>M r j*pW n (cm M x) i j):=by
    rw[aP (g:=fun j=>(if r=j then x*pW n (cm M x) i j else 0)-M r j*pW n (cm M x) i j) (fun j _=>by simp only[cm];split<;>grind),ln]
    rw[cN r hr (fun j _ hj=>by rw[if_neg (ak hj)])];simp
   rw[<-h2,h1];split
   ·rw[hχ x]
   ·simp only[kQ];rw[ic];intro k _;rw[n0]
  exact AA key om
 ·have key:∀x,kQ n (fun k=>aD n (fun i=>a i i k)) x=kQ n (L4 (fun k=>if k=n then 1 else e k)) x:=by
   intro x;rw[Dq n n (fun i k=>a i i k)];rw[aP (g:=fun i=>pW n (cm M x) i i) (fun i hi=>by rw[<-(ha i i hi).2 x])]
   have:∀k:Int,1<=k->k∣aD n (fun i=>pW n (cm M x) i i)-kQ n (L4 (fun k=>if k=n then 1 else e k)) x:=by
    intro h hh;obtain⟨u,hu⟩:=GI n (cm M x) h n (ah _);obtain⟨v,hv⟩:=Iv n (fun k=>if k=n then 1 else e k) x h
    have e1:det n (dg (cm M x) h n)=det n (cm M (x+h)):=bS fun i j hi hj=>by
     simp only[dg,cm];by_cases e:i=j
     ·subst e;simp[hi];omega
     ·simp[e]
    rw[e1,hχ,hχ]at hu;refine⟨v-u,?_⟩;have h3:h*(aD n (fun i=>pW n (cm M x) i i)-kQ n (L4 (fun k=>if k=n then 1 else e k)) x)=h*(h*(v-u)):=by
     grind
    exact dS om h3
   have:=Jd this;omega
  exact AA key hk
 ·rw[(ha i j hi).2 0];obtain⟨m,rfl⟩:∃m,n=m+1:=⟨n-1,by omega⟩
  rw[pe];omega
theorem lr{n i:Nat}(hi:i<n)(f:Nat->Int):aD n (fun j=>(if i=j then 1 else 0)*f j)=f i:=by
 rw[cN i hi (fun j _ hj=>by rw[if_neg (ak hj),n0])];simp
theorem IL{n:Nat}(hn:1<=n)(M:aU):∀i j,i<n->j<n->oF n M (n-1) j i=pW n (cm M 0) i j:=by
 obtain⟨a,χ,h1,h2,h3,h4,h5⟩:=IM hn M;have key:∀k,k<n->∀i j,i<n->j<n->oF n M k j i=a i j (n-1-k):=by
  intro k
  induction k with
  | zero =>
   intro _ i j hi hj;have h6:=h3 i j n hi hj (ah _);rw[ic (fun k hk=>by rw[h2 i k hi hk,n9]),h1]at h6
   obtain⟨m,rfl⟩:∃m,n=m+1:=⟨n-1,by omega⟩
   simp only[LU]at h6;simp only[oF,gS,Nat.sub_zero];rw[show(if j=i then(1:Int)else 0)=if i=j then 1 else 0 by split<;>split<;>omega]
   omega
  | succ k ih =>
   intro hk i j hi hj;have ih:=ih om;obtain⟨K,hK⟩:∃K,n-1-k=K+1:=⟨n-2-k,by omega⟩
   have hKK:n-1-(k+1)=K:=by omega
   rw[hKK];rw[hK]at ih;have e1:∀i r,i<n->r<n->mm n M (oF n M k) r i=a i r K-(if i=r then χ (K+1)else 0):=by
    intro i r hi hr;have h6:=h3 i r (K+1) hi hr om;simp only[LU]at h6;simp only[mm];rw[aP (g:=fun j=>M r j*a i j (K+1)) (fun j hj=>by rw[ih i j hi hj])]
    omega
   have e2:tr n (mm n M (oF n M k))=-((k+1:Nat):Int)*χ (K+1):=by
    simp only[tr];rw[aP (g:=fun i=>a i i K - χ (K+1)) (fun i hi=>by rw[e1 i i hi hi,if_pos rfl]),ln,h4 K om,An]
    have:(n:Int)=K+1+(k+1):=by omega
    rw[this];simp only[jg,Int.natCast_one];grind
   simp only[oF];rw[e1 i j hi hj,e2,Int.mul_ediv_cancel_left _ om];by_cases e:i=j
   ·subst e;simp
   ·rw[if_neg e,if_neg (ak e)];omega
 intro i j hi hj;rw[key (n-1) om i j hi hj,Nat.sub_self,h5 i j hi hj]
def lj(n:Nat)(M:aU):aU:=fun i j=>if n%2=0 then-oF n M (n-1) i j else oF n M (n-1) i j
theorem Iz(n:Nat):(-1:Int)^n=if n%2=0 then 1 else -1:=by
 induction n with
 | zero=>rfl
 | succ n ih=>rw[fN,ih];split<;>split<;>omega
theorem G0{n:Nat}(hn:1<=n)(M:aU){i j:Nat}(hi:i<n)(hj:j<n):lj n M j i=pW n M i j:=by
 have e1:pW n (cm M 0) i j=(-1)^n*(-1*pW n M i j):=by
  unfold pW;rw[<-oH M hi,<-sH];congr 1;funext a b;simp only[setRow,cm,iC];split<;>grind
 simp only[lj];rw[IL hn M i j hi hj,e1,Iz];split<;>grind
theorem qv(n:Nat)(A B C:aU)(i j:Nat):mm n (mm n A B) C i j=mm n A (mm n B C) i j:=by
 simp only[mm];rw[aP (g:=fun k=>aD n (fun l=>A i l*B l k*C k j)) (fun k _=>by rw[cZ,<-dF];exact aP fun l _=>by grind)]
 rw[nf];exact aP fun l _=>by rw[<-dF];exact aP fun k _=>by grind
theorem uH{n:Nat}{A A' B B':aU}{i j:Nat}(h:∀k,k<n->A i k=A' i k)(h':∀k,k<n->B k j=B' k j):mm n A B i j=mm n A' B' i j :=
 aP fun k hk=>by rw[h k hk,h' k hk]
theorem AM(n:Nat)(M:aU):∀k i j,i<n->j<n->mm n (oF n M k) M i j=mm n M (oF n M k) i j
 | 0,i,j,hi,hj=>by
  simp only[mm,oF];rw[lr hi (fun k=>M k j),cN j hj (fun k _ hk=>by rw[if_neg hk,n9])];simp
 | k+1,i,j,hi,hj=>by
  have e1:mm n (oF n M (k+1)) M i j=mm n (mm n M (oF n M k)) M i j+(tr n (mm n M (oF n M k))/(-((k+1:Nat):Int)))*M i j:=by
   simp only[mm,oF];rw[<-lr hi (fun l=>(tr n (mm n M (oF n M k))/(-((k+1:Nat):Int)))*M l j),<-eX];exact aP fun l _=>by split<;>grind
  have e2:mm n M (oF n M (k+1)) i j=mm n M (mm n M (oF n M k)) i j+(tr n (mm n M (oF n M k))/(-((k+1:Nat):Int)))*M i j:=by
   simp only[mm,oF];rw[<-lr hj (fun l=>(tr n (mm n M (oF n M k))/(-((k+1:Nat):Int)))*M i l),<-eX];refine aP fun l _=>?_;by_cases e:l=j
   ·subst e;simp;grind
   ·rw[if_neg e,if_neg (ak e)];grind
  rw[e1,e2,qv];congr 1;exact uH (fun _ _=>rfl) (fun l hl=>AM n M k l j hl hj)
theorem pi{n:Nat}(hn:1<=n)(M:aU){i j:Nat}(hi:i<n)(hj:j<n):mm n (lj n M) M i j=if i=j then det n M else 0:=by
 have e1:mm n (lj n M) M i j=mm n M (lj n M) i j:=by
  have h:=AM n M (n-1) i j hi hj;simp only[mm,lj]at h ⊢;by_cases e:n%2=0
  ·simp only[e,if_true];rw[aP (g:=fun k=>- (oF n M (n-1) i k*M k j)) (fun k _=>by grind),xj,h,<-xj]
   exact aP fun k _=>by grind
  ·simp only[e,if_false];exact h
 rw[e1];simp only[mm];rw[aP (g:=fun k=>M i k*pW n M j k) (fun k hk=>by rw[G0 hn M hj hk]),yK M hj hi]
 split<;>split<;>omega
def lV(M:Int)(k:Nat):kX:=fun r=>if r=k then M else 0
structure TL(N:Nat)(L:kX->Prop)(d M:Nat->Int):Prop where
 lat:Hz N L
 pos:∀i,i<N->0<d i
 step:∀i,i<N->M i=d i*M (i+1)
 last:M N=1
 dvd:∀x,L x->∀i,i<N->(∀r,r<i->x r=0)->d i∣x i
 unit:∀i k,i<=k->k<N->L (lV (M i) k)
 col:∀i,i<N->∃x,L x/\(∀r,r<i->x r=0)/\x i=d i
theorem D8{N:Nat}{H:aU}(hT:Fr N N H){x c:kX}(hc:∀r,r<N->x r=aD N (fun j=>H r j*c j)):∀i,i<=N->(∀r,r<i->x r=0)->∀j,j<i->c j=0:=by
 intro i
 induction i with
 | zero=>intro _ _ j hj;omega
 | succ i ih =>
  intro hi h0 j hj;have ih':=ih om (fun r hr=>h0 r om);by_cases e:j=i
  ·subst e;have h1:=hc j om;rw[h0 j om,cN j om (fun k hk hkj=>by
    rcases aE k j with h2|h2
    ·rw[ih' k h2];simp
    ·rw[(hT j om).1 k om hk];simp)]at h1
   rcases kO.1 h1.symm with h2|h2
   ·have:=(hT j om).2;omega
   ·exact h2
  ·exact ih' j om
theorem FK{N:Nat}{H:aU}(hT:Fr N N H){x c:kX}(hc:∀r,r<N->x r=aD N (fun j=>H r j*c j)){i:Nat}(hi:i<N)(h0:∀r,r<i->x r=0):x i=H i i*c i:=by
 have h1:=D8 hT hc i om h0;rw[hc i hi,cN i hi (fun k hk hkj=>by
  rcases aE k i with h2|h2
  ·rw[h1 k h2];simp
  ·rw[(hT i hi).1 k om hk];simp)]
def C8(H:aU)(N i:Nat):Int:=lF (N-i) (fun r=>H (i+r) (i+r))
theorem t4(H:aU){N i:Nat}(hi:i<N):C8 H N i=H i i*C8 H N (i+1):=by
 unfold C8;rw[show N-i=(N-(i+1))+1 by omega]
 simp only[lF,Nat.add_zero];congr 2;funext r;rw[show i+(r+1)=i+1+r by omega]
theorem yp(H:aU){N:Nat}:∀(m i:Nat),i+m<=N->C8 H N (i+m)∣C8 H N i
 | 0,i,_=>fO _
 | m+1,i,h=>by
  have h1:=yp H (N:=N) m (i+1) om;rw[t4 H (show i<N by omega),show i+(m+1)=i+1+m by omega]
  exact fP h1
theorem Aj{N:Nat}{H:aU}(hT:Fr N N H):∀(m k:Nat),k<N->N-k<=m->ik N N H (lV (C8 H N k) k)
 | 0,k,hk,hm=>by omega
 | m+1,k,hk,hm=>by
  have hL:=ik.lat N N H;have hu:∀r,k<r->r<N->ik N N H (lV (C8 H N (k+1)) r):=by
   intro r h1 h2;obtain⟨q,hq⟩:=yp H (N:=N) (r-(k+1)) (k+1) om;rw[show k+1+(r-(k+1))=r by omega]at hq
   refine hL.ext _ _ (hL.smul (Aj hT m r h2 om) q) (fun i _=>?_);simp only[lV];split
   ·rw[hq,cZ]
   ·simp
  have h1:=hL.sum (fun r=>if k<r then lV (C8 H N (k+1)) r else fun _=>0) (fun r=>- H r k) N (fun r hr=>by
   split
   ·rename_i h;exact hu r h hr
   ·exact hL.zero)
  refine hL.ext _ _ (hL.comb _ _ (ik.col (j:=k) hk) h1 (C8 H N (k+1)) 1) (fun i hi=>?_);have h2:aD N (fun j=>(if k<j then lV (C8 H N (k+1)) j else fun _=>0) i*- H j k)=if k<i then C8 H N (k+1)*- H i k else 0:=by
   rw[cN i hi (fun j hj hji=>by
    by_cases h3:k<j
    ·simp[h3,lV,ak hji]
    ·simp[h3])]
   by_cases h3:k<i
   ·simp[h3,lV]
   ·simp[h3]
  simp only[h2,lV];by_cases h3:i=k
  ·subst h3;rw[if_neg om,if_pos rfl,t4 H hi];grind
  ·rw[if_neg h3];by_cases h4:k<i
   ·rw[if_pos h4];grind
   ·rw[if_neg h4,(hT i hi).1 k om hk];simp
theorem TL.of_tri{N:Nat}{H:aU}(hT:Fr N N H):TL N (ik N N H) (fun i=>H i i) (C8 H N):=by
 refine⟨ik.lat N N H,fun i hi=>(hT i hi).2,fun i hi=>t4 H hi,by simp[C8,lF],?_,fun i k hik hk=>?_,fun i hi=>⟨_,ik.col hi,fun r hr=>(hT r om).1 i hr hi,rfl⟩⟩
 ·rintro x ⟨c,hc⟩ i hi h0;exact⟨c i,FK hT hc hi h0⟩
 ·obtain⟨q,hq⟩:=yp H (N:=N) (k-i) i om;rw[show i+(k-i)=k by omega]at hq
  refine(ik.lat N N H).ext _ _ ((ik.lat N N H).smul (Aj hT (N-k) k hk (ah _)) q) (fun r _=>?_);simp only[lV];split
  ·rw[hq,cZ]
  ·simp
theorem TL.congr{N:Nat}{L L':kX->Prop}{d M:Nat->Int}(h:TL N L d M)(hL:Hz N L')(e:∀x,L' x↔L x):TL N L' d M :=
 ⟨hL,h.pos,h.step,h.last,fun x hx=>h.dvd x ((e x).1 hx),fun i k h1 h2=>(e _).2 (h.unit i k h1 h2),fun i hi=>by obtain⟨x,h1,h2⟩:=h.col i hi;exact⟨x,(e x).2 h1,h2⟩⟩
theorem TL.of_det{N:Nat}{w:aU}(hd:det N w≠0):∃d M,TL N (ik N N w) d M/\M 0=((det N w).natAbs:Int):=by
 obtain⟨H,h1,h2⟩:=BS w hd;refine⟨_,_,(TL.of_tri h2).congr (ik.lat N N w) h1.1,?_⟩;rw[FJ h1 h2];simp[C8]
theorem TL.M_pos{N:Nat}{L:kX->Prop}{d M:Nat->Int}(h:TL N L d M):∀m i,N-i<=m->i<=N->0<M i
 | 0,i,h1,h2=>by rw[show i=N by omega,h.last];omega
 | m+1,i,h1,h2=>by
  by_cases e:i=N
  ·rw[e,h.last];omega
  ·rw[h.step i om];exact Int.mul_pos (h.pos i om) (h.M_pos m (i+1) om om)
structure HI(N:Nat)(L:kX->Prop)(d M:Nat->Int)(i:Nat)(C:Nat->kX):Prop where
 mem:∀j,j<N->L (C j)
 zero:∀j,i<=j->j<N->∀r,r<i->C j r=0
 gen:∀x,L x->(∀r,r<i->x r=0)->∃t z:kX,∀r,i<=r->r<N->x r=aD N (fun j=>if i<=j then C j r*t j else 0)+M i*z r
 done:∀j,j<i->(∀r,r<j->C j r=0)/\C j j=d j/\∀r,j<r->r<i->0<=C j r/\C j r<d r
theorem HI.init{N:Nat}{w:aU}{d M:Nat->Int}:HI N (ik N N w) d M 0 (fun j r=>w r j):=by
 refine⟨fun j hj=>ik.col hj,fun j _ _ r hr=>by omega,fun x hx _=>?_,fun j hj=>by omega⟩
 obtain⟨c,hc⟩:=hx;exact⟨c,fun _=>0,fun r _ hr=>by rw[hc r hr];simp⟩
theorem HI.red{N:Nat}{L:kX->Prop}{d M:Nat->Int}(hL:TL N L d M){i:Nat}{C C':Nat->kX}(h:HI N L d M i C)(hi:i<=N)(q:Nat->kX)(he:∀j r,j<N->r<N->C' j r=C j r+(if i<=r then M i*q j r else 0)):HI N L d M i C':=by
 have lo:∀j r,j<N->r<i->C' j r=C j r:=fun j r hj hr=>by rw[he j r hj om,if_neg om];omega
 refine⟨fun j hj=>?_,fun j h1 h2 r hr=>by rw[lo j r h2 hr];exact h.zero j h1 h2 r hr,fun x hx h0=>?_,fun j hj=>?_⟩
 ·have h1:=hL.lat.sum (fun r=>if i<=r then lV (M i) r else fun _=>0) (q j) N (fun r hr=>by
   split
   ·rename_i h3;exact hL.unit i r h3 hr
   ·exact hL.lat.zero)
  refine hL.lat.ext _ _ (hL.lat.add (h.mem j hj) h1) (fun r hr=>?_);rw[he j r hj hr,cN r hr (fun k hk hkr=>by
   by_cases h3:i<=k
   ·simp[h3,lV,ak hkr]
   ·simp[h3])]
  by_cases h3:i<=r
  ·simp[h3,lV]
  ·simp[h3]
 ·obtain⟨t,z,htz⟩:=h.gen x hx h0;refine⟨t,fun r=>z r-aD N (fun j=>if i<=j then q j r*t j else 0),fun r hr hrN=>?_⟩
  rw[htz r hr hrN];have e:aD N (fun j=>if i<=j then C' j r*t j else 0)=aD N (fun j=>if i<=j then C j r*t j else 0)+M i*aD N (fun j=>if i<=j then q j r*t j else 0):=by
   rw[<-dF,<-eX];refine aP fun j hj=>?_;split
   ·rw[he j r hj hrN,if_pos hr];grind
   ·simp
  rw[e];grind
 ·obtain⟨h1,h2,h3⟩:=h.done j hj;refine⟨fun r hr=>by rw[lo j r om om];exact h1 r hr,by rw[lo j j om hj];exact h2,fun r hr1 hr2=>by rw[lo j r om hr2];exact h3 r hr1 hr2⟩
theorem t6{n:Nat}{f:Nat->Int}{i j:Nat}(hi:i<n)(hj:j<n)(hij:i≠j)(h:∀k,k<n->k≠i->k≠j->f k=0):aD n f=f i+f j:=by
 have e:aD n f=aD n (fun k=>(if k=i then f i else 0)+(if k=j then f j else 0)):=aP fun k hk=>by
  by_cases h1:k=i
  ·subst h1;simp[hij]
  ·by_cases h2:k=j
   ·subst h2;simp[h1]
   ·simp[h1,h2,h k hk h1 h2]
 rw[e,eX,cN i hi (fun k _ hk=>by simp[hk]),cN j hj (fun k _ hk=>by simp[hk])]
 simp
theorem HI.comb{N:Nat}{L:kX->Prop}{d M:Nat->Int}(hL:TL N L d M){i j:Nat}{C C':Nat->kX}(h:HI N L d M i C)(hij:i<j)(hj:j<N){a b x y:Int}(hu:a*x+b*y=1)
  (h1:∀r,r<N->C' i r=a*C i r+b*C j r) (h2:∀r,r<N->C' j r=x*C j r-y*C i r) (h3:∀k r,k<N->r<N->k≠i->k≠j->C' k r=C k r):HI N L d M i C':=by
 have hiN:i<N:=by omega
 refine⟨fun k hk=>?_,fun k hk1 hk2 r hr=>?_,fun v hv h0=>?_,fun k hk=>?_⟩
 ·by_cases e1:k=i
  ·subst e1;exact hL.lat.ext _ _ (hL.lat.comb _ _ (h.mem k hk) (h.mem j hj) a b) (fun r hr=>(h1 r hr).symm)
  ·by_cases e2:k=j
   ·subst e2;exact hL.lat.ext _ _ (hL.lat.comb _ _ (h.mem k hk) (h.mem i hiN) x (-y)) (fun r hr=>by rw[h2 r hr];grind)
   ·exact hL.lat.ext _ _ (h.mem k hk) (fun r hr=>(h3 k r hk hr e1 e2).symm)
 ·have z1:=h.zero i (ah _) hiN r hr;have z2:=h.zero j om hj r hr;by_cases e1:k=i
  ·subst e1;rw[h1 r om,z1,z2];simp
  ·by_cases e2:k=j
   ·subst e2;rw[h2 r om,z1,z2];simp
   ·rw[h3 k r hk2 om e1 e2];exact h.zero k hk1 hk2 r hr
 ·obtain⟨t,z,htz⟩:=h.gen v hv h0;refine⟨fun k=>if k=i then x*t i+y*t j else if k=j then a*t j-b*t i else t k,z,fun r hr hrN=>?_⟩
  rw[htz r hr hrN];congr 1;have e:aD N (fun k=>(if i<=k then C' k r*(if k=i then x*t i+y*t j else if k=j then a*t j-b*t i else t k)else 0)+(-1)*(if i<=k then C k r*t k else 0))=0:=by
   rw[t6 hiN hj om (fun k hk e1 e2=>by
    simp only[e1,e2,if_false];split
    ·rw[h3 k r hk hrN e1 e2];omega
    ·simp)]
   simp only[ah,if_true,show i<=j by omega,show j≠i by omega,if_false]
   rw[h1 r hrN,h2 r hrN];have:C i r*t i=(a*x+b*y)*(C i r*t i):=by rw[hu];omega
   have:C j r*t j=(a*x+b*y)*(C j r*t j):=by rw[hu];omega
   grind
  rw[eX,dF]at e;show _=aD N (fun k=>if i<=k then C' k r*(if k=i then x*t i+y*t j else if k=j then a*t j-b*t i else t k)else 0)
  omega
 ·obtain⟨g1,g2,g3⟩:=h.done k hk;have e:∀r,r<N->C' k r=C k r:=fun r hr=>h3 k r om hr om om;exact⟨fun r hr=>by rw[e r om];exact g1 r hr,by rw[e k om];exact g2,fun r hr1 hr2=>by rw[e r om];exact g3 r hr1 hr2⟩
theorem HI.pivot_eq{N:Nat}{L:kX->Prop}{d M:Nat->Int}(hL:TL N L d M){i:Nat}{C:Nat->kX}(h:HI N L d M i C)(hi:i<N)(hc:∀j,i<j->j<N->C j i=0){p a b:Int}(hp:0<p)(h1:p=a*C i i+b*M i)(h2:p∣C i i)(h3:p∣M i):p=d i:=by
 have h4:d i∣p:=by
  rw[h1];exact pH (fP (hL.dvd _ (h.mem i hi) i hi (h.zero i (ah _) hi))) (fP ⟨M (i+1),hL.step i hi⟩)
 have h5:p∣d i:=by
  obtain⟨x,x1,x2,x3⟩:=hL.col i hi;obtain⟨t,z,htz⟩:=h.gen x x1 x2;have h6:=htz i (ah _) hi;rw[x3,cN i hi (fun j hj hji=>by
   split
   ·rw[hc j om hj];simp
   ·rfl)]at h6
  simp only[ah,if_true]at h6;rw[h6];exact pH (lc h2) (lc h3)
 exact Int.dvd_antisymm (cA hp) (cA (hL.pos i hi)) h5 h4
theorem HI.pivot{N:Nat}{L:kX->Prop}{d M:Nat->Int}(hL:TL N L d M){i:Nat}{C C':Nat->kX}(h:HI N L d M i C)(hi:i<N)(hc:∀j,i<j->j<N->C j i=0){p a b:Int}(hp:0<p)(h1:p=a*C i i+b*M i)(h2:p∣C i i)(h3:p∣M i)(q:kX)
  (e1:∀r,r<N->C' i r=if r=i then p else a*C i r) (e2:∀j r,j<i->r<N->C' j r=C j r-q j*C' i r) (e3:∀j r,i<j->j<N->r<N->C' j r=C j r) (hq:∀j,j<i->0<=C' j i/\C' j i<p) :
  HI N L d M (i+1) C':=by
 have hpd:=h.pivot_eq hL hi hc hp h1 h2 h3;have hz:=h.zero i (ah _) hi;have hz':∀r,r<i->C' i r=0:=fun r hr=>by rw[e1 r om,if_neg om,hz r hr];simp
 have hmi:L (C' i):=hL.lat.ext _ _ (hL.lat.comb _ _ (h.mem i hi) (hL.unit i i (ah _) hi) a b) (fun r hr=>by
  rw[e1 r hr];simp only[lV];by_cases e:r=i
  ·subst e;simp[h1]
  ·simp[e])
 refine⟨fun j hj=>?_,fun j hj1 hj2 r hr=>?_,fun x hx h0=>?_,fun j hj=>?_⟩
 ·rcases aE j i with h4|h4
  ·exact hL.lat.ext _ _ (hL.lat.comb _ _ (h.mem j hj) hmi 1 (- q j)) (fun r hr=>by rw[e2 j r h4 hr];grind)
  ·by_cases e:j=i
   ·subst e;exact hmi
   ·exact hL.lat.ext _ _ (h.mem j hj) (fun r hr=>(e3 j r om hj hr).symm)
 ·rw[e3 j r om hj2 om];by_cases e:r=i
  ·subst e;exact hc j om hj2
  ·exact h.zero j om hj2 r om
 ·obtain⟨t,z,htz⟩:=h.gen x hx (fun r hr=>h0 r om);have h6:=htz i (ah _) hi;rw[h0 i om,cN i hi (fun j hj hji=>by
   split
   ·rw[hc j om hj];simp
   ·rfl)]at h6
  simp only[ah,if_true]at h6;obtain⟨u,hu⟩:=h2;have hM:=hL.step i hi;rw[<-hpd]at hM;have hab:a*u+b*M (i+1)=1:=by
   rw[hu,hM]at h1;refine dS (show p≠0 by omega) ?_
   grind
  have h7:u*t i+M (i+1)*z i=0:=by
   rw[hu,hM]at h6;refine dS (show p≠0 by omega) ?_
   grind
  have h8:t i=M (i+1)*(b*t i-a*z i):=by
   have:t i=(a*u+b*M (i+1))*t i:=by rw[hab];omega
   have:a*(u*t i+M (i+1)*z i)=0:=by rw[h7];omega
   grind
  refine⟨t,fun r=>C i r*(b*t i-a*z i)+p*z r,fun r hr hrN=>?_⟩;rw[htz r om hrN,hM];have e:aD N (fun j=>(if i<=j then C j r*t j else 0)+(-1)*(if i+1<=j then C' j r*t j else 0))=C i r*t i:=by
   rw[cN i hi (fun j hj hji=>?_)]
   ·rw[if_pos (ah _),if_neg om];omega
   ·by_cases h9:i<=j
    ·rw[if_pos h9,if_pos om,e3 j r om hj hrN];omega
    ·rw[if_neg h9,if_neg om];omega
  rw[eX,dF]at e;have h10:C i r*t i=M (i+1)*(C i r*(b*t i-a*z i)):=by
   have:C i r*t i=C i r*(M (i+1)*(b*t i-a*z i)):=by rw[<-h8]
   grind
  grind
 ·by_cases e:j=i
  ·subst e;exact⟨hz',by rw[e1 j hi,if_pos rfl,hpd],fun r hr1 hr2=>by omega⟩
  ·obtain⟨g1,g2,g3⟩:=h.done j om;refine⟨fun r hr=>by rw[e2 j r om om,g1 r hr,hz' r om];simp,by rw[e2 j j om om,g2,hz' j om];simp,fun r hr1 hr2=>?_⟩
   by_cases e':r=i
   ·subst e';rw[<-hpd];exact hq j om
   ·rw[e2 j r om om,hz' r om];have:=g3 r hr1 om;simpa using this
theorem HI.span{N:Nat}{L:kX->Prop}{d M:Nat->Int}(hL:TL N L d M){C:Nat->kX}(h:HI N L d M N C)(x:kX):ik N N (fun r j=>C j r) x↔L x:=by
 constructor
 ·exact ik.sub hL.lat (fun j hj=>hL.lat.ext _ _ (h.mem j hj) (fun _ _=>rfl))
 ·intro hx;have hC:=ik.lat N N (fun r j=>C j r);have key:∀i,i<=N->∃y,ik N N (fun r j=>C j r) y/\∀r,r<i->y r=x r:=by
   intro i
   induction i with
   | zero=>intro _;exact⟨_,hC.zero,fun r hr=>by omega⟩
   | succ i ih =>
    intro hi;obtain⟨y,hy1,hy2⟩:=ih om;have hyL:L y:=ik.sub hL.lat (fun j hj=>hL.lat.ext _ _ (h.mem j hj) (fun _ _=>rfl)) hy1;obtain⟨q,hq⟩:=hL.dvd (fun r=>1*x r+(-1)*y r) (hL.lat.comb _ _ hx hyL 1 (-1)) i om (fun r hr=>by simp only[hy2 r hr];omega)
    refine⟨fun r=>1*y r+q*C i r,hC.comb _ _ hy1 (ik.col (j:=i) om) 1 q,fun r hr=>?_⟩;obtain⟨g1,g2,_⟩:=h.done i om;by_cases e:r=i
    ·subst e;simp only;rw[g2];grind
    ·simp only;rw[g1 r om,hy2 r om];omega
  obtain⟨y,hy1,hy2⟩:=key N (ah _);exact hC.ext _ _ hy1 hy2
def gM(p:Int)(piv:Nat)(q:Nat->Int):aU:=fun i j=>if j=piv then(if i=piv then p*p else 0)else if i=j then p else if i=piv then-(p*q j)else 0
def zU(n:Nat)(p:Int)(piv:Nat)(q x:Nat->Int):aU:=fun i j=>if j<n then gM p piv q i j else x i
theorem Ig{n:Nat}{p:Int}{piv:Nat}{q:Nat->Int}(w:Nat->Int)(hpiv:piv<n){j:Nat}(hj:j<n):aD n (fun i=>w i*gM p piv q i j)=if j=piv then w piv*(p*p)else w j*p-w piv*(p*q j):=by
 by_cases e:j=piv
 ·subst e;rw[cN j hj (fun i _ hi=>by simp[gM,hi])];simp[gM]
 ·rw[t6 hj hpiv e (fun i _ h1 h2=>by simp[gM,e,h1,h2]),if_neg e]
  simp[gM,e,ak e];grind
theorem If{p:Int}{piv:Nat}{q:Nat->Int}(i j:Nat):p∣gM p piv q i j:=by
 unfold gM;split
 ·split
  ·exact⟨p,rfl⟩
  ·exact jO _
 ·split
  ·exact fO _
  ·split
   ·exact⟨- q j,by grind⟩
   ·exact jO _
theorem tf{n:Nat}{p:Int}{piv:Nat}{q x:Nat->Int}(i:Nat)(c:Nat->Int):aD (n+1) (fun j=>zU n p piv q x i j*c j)=aD n (fun j=>gM p piv q i j*c j)+x i*c n:=by
 simp only[aD];rw[aP (g:=fun j=>gM p piv q i j*c j) (fun j hj=>by simp[zU,hj])]
 simp[zU]
theorem Cc{n:Nat}{p:Int}(hp:p≠0){piv k0:Nat}(hpiv:piv<n)(hk0:k0<n){w v x q:Nat->Int}{inv:Int}(hinv:p∣inv*w piv-1)(hq:∀j,j<n->j≠piv->p∣q j*w piv-w j)
  (hx:∀i,i<n->p∣x i-v i) (hv:v k0=1) (hiso:p∣aD n (fun i=>w i*v i)) (a:kX):ik n (n+1) (zU n p piv q x) (fun i=>p*a i)↔p∣aD n (fun i=>w i*a i):=by
 constructor
 ·rintro⟨c,hc⟩;have h1:p∣c n:=by
   have h2:=hc k0 hk0;rw[tf]at h2;have h3:p∣aD n (fun j=>gM p piv q k0 j*c j):=lq fun j _=>lc (If _ _);obtain⟨u,hu⟩:=h3;obtain⟨t,ht⟩:=hx k0 hk0;rw[hv]at ht;refine⟨a k0-u-t*c n,?_⟩;rw[hu,show x k0=1+p*t by omega]at h2
   grind
  obtain⟨c',hc'⟩:=h1;have e1:aD n (fun i=>w i*(p*a i))=aD n (fun j=>c j*aD n (fun i=>w i*gM p piv q i j))+c n*aD n (fun i=>w i*x i):=by
   rw[aP (g:=fun i=>aD n (fun j=>c j*(w i*gM p piv q i j))+c n*(w i*x i)) (fun i hi=>by
    have h9:=hc i hi;simp only at h9;rw[h9,tf,Int.mul_add,<-dF];congr 1
    ·exact aP fun j _=>by grind
    ·grind),eX,nf,dF]
   congr 1;exact aP fun j _=>by rw[dF]
  have d1:p*p∣aD n (fun j=>c j*aD n (fun i=>w i*gM p piv q i j)):=lq fun j hj=>by
   refine fP ?_;rw[Ig w hpiv hj];split
   ·exact⟨w piv,by grind⟩
   ·rename_i e;obtain⟨t,ht⟩:=hq j hj e;exact⟨- t,by
     have:w j=q j*w piv-p*t:=by omega
     rw[this];grind⟩
  have d2:p∣aD n (fun i=>w i*x i):=by
   have e:aD n (fun i=>w i*x i)=aD n (fun i=>w i*v i)+aD n (fun i=>w i*(x i-v i)):=by
    rw[<-eX];exact aP fun i _=>by grind
   rw[e];exact pH hiso (lq fun i hi=>fP (hx i hi))
  obtain⟨u,hu⟩:=d1;obtain⟨t,ht⟩:=d2;have e2:aD n (fun i=>w i*(p*a i))=p*aD n (fun i=>w i*a i):=by
   rw[<-dF];exact aP fun i _=>by grind
  rw[e2,hu,ht,hc']at e1;refine⟨u+c'*t,?_⟩;refine dS hp (e1.trans ?_)
  grind
 ·rintro⟨s,hs⟩;obtain⟨Q,hQ⟩:∃Q,Q=aD n (fun j=>if j=piv then 0 else q j*a j):=⟨_,rfl⟩
  have h1:p∣w piv*(a piv+Q):=by
   have e:w piv*(a piv+Q)=aD n (fun i=>w i*a i)+aD n (fun j=>if j=piv then 0 else(q j*w piv-w j)*a j):=by
    rw[hQ,Int.mul_add,<-dF,<-eX];have e3:w piv*a piv=aD n (fun j=>if j=piv then w j*a j else 0):=by
     rw[cN piv hpiv (fun i _ hi=>by rw[if_neg hi])];simp
    rw[e3,<-eX];exact aP fun j _=>by
     by_cases e:j=piv
     ·simp[e]
     ·simp[e];grind
   rw[e,hs];refine pH ⟨s,rfl⟩ (lq fun j hj=>?_);split
   ·exact jO _
   ·exact lc (hq j hj (by assumption))
  obtain⟨r,hr⟩:p∣a piv+Q:=by
   obtain⟨u,hu⟩:=h1;obtain⟨t,ht⟩:=hinv;refine⟨inv*u-t*(a piv+Q),?_⟩;have e:inv*(w piv*(a piv+Q))=inv*(p*u):=by rw[hu]
   have e2:inv*w piv=1+p*t:=by omega
   grind
  refine⟨fun j=>if j=n then 0 else if j=piv then r else a j,fun i hi=>?_⟩
  rw[tf];simp only[if_true,n9,Int.add_zero];by_cases e:i=piv
  ·subst e;rw[aP (g:=fun j=>(if j=i then p*p*r else 0)+(- p)*(if j=i then 0 else q j*a j)) (fun j hj=>by
    have:j≠n:=by omega
    by_cases e:j=i
    ·subst e;simp[gM,this]
    ·simp[gM,e,ak e,this];grind),eX,dF,<-hQ,cN i hi (fun j _ hj=>by rw[if_neg hj])]
   simp only[if_true];have:Q=p*r-a i:=by omega
   rw[this];grind
  ·rw[cN i hi (fun j hj hji=>by
    have:j≠n:=by omega
    by_cases e2:j=piv
    ·simp[gM,e2,e]
    ·simp[gM,e2,e,ak hji])]
   have:i≠n:=by omega
   simp[gM,e,this]
def gA:Nat->(Nat->Nat)->Nat
 | 0,_=>1
 | n+1,f=>f 0*gA n (fun i=>f (i+1))
theorem pP{n:Nat}{f g:Nat->Nat}(h:∀i,i<n->f i<=g i):gA n f<=gA n g:=by
 induction n generalizing f g with
 | zero=>exact ah _
 | succ n ih=>simp only[gA];exact ci (h 0 om) (ih fun i hi=>h (i+1) om)
theorem vD{n:Nat}(f:Nat->Int){j:Nat}(hj:j<n+1):cO n (fun k=>f (skip j k))+(f j).natAbs=cO (n+1) f:=by
 induction n with
 | zero=>rw[show j=0 by omega];simp[cO]
 | succ n ih =>
  by_cases e:j=n+1
  ·subst e;rw[show cO (n+1) (fun k=>f (skip (n+1) k))=cO (n+1) f from ?_]
   ·simp only[cO]
   ·have key:∀m,m<=n+1->cO m (fun k=>f (skip (n+1) k))=cO m f:=by
     intro m
     induction m with
     | zero=>intro _;rfl
     | succ m ih2=>intro hm;simp only[cO];rw[ih2 om];simp[skip,show m<n+1 by omega]
    exact key _ (ah _)
  ·have:=ih om;simp only[cO]at this ⊢;rw[show skip j n=n+1 by simp[skip];omega]
   omega
theorem zd:∀(n:Nat) (A:aU),(det n A).natAbs<=gA n (fun i=>cO n (A i))
 | 0,_=>by simp[det,gA]
 | n+1,A=>by
  simp only[det,gA];have key:∀m,m<=n+1->(aD m (fun j=>sw j*A 0 j*det n (iR A j))).natAbs<=cO m (A 0)*gA n (fun i=>cO (n+1) (A (i+1))):=by
   intro m
   induction m with
   | zero=>intro _;simp[aD]
   | succ m ih =>
    intro hm;have h1:=ih om;rw[show cO (m+1) (A 0)=cO m (A 0)+(A 0 m).natAbs from rfl];simp only[aD];rw[Nat.add_mul];have h2:(sw m*A 0 m*det n (iR A m)).natAbs=(A 0 m).natAbs*(det n (iR A m)).natAbs:=by
     rw[fV,fV];have:(sw m).natAbs=1:=by unfold sw;split<;>rfl
     rw[this,jG]
    have h3:=zd n (iR A m);have h4:gA n (fun i=>cO n (iR A m i))<=gA n (fun i=>cO (n+1) (A (i+1))):=pP fun i _=>by
     have:=vD (A (i+1)) (show m<n+1 by omega)
     show cO n (fun k=>A (i+1) (skip m k))<=_;omega
    have h5:=aY (A 0 m).natAbs (bW h3 h4);omega
  exact key _ (ah _)
theorem yw{A:aU}{n k:Nat}(hk:k<n)(hd:∀j,j<=k->det j A≠0)(h0:∀j,j<n-k->cI A k 0 j=0):det n A=0:=by
 have h1:=o6 hd (n-k-1) id id;have h4:det (n-k-1+1) (fun i j=>cI A k (id i) (id j))=0:=AY _ (fun j hj=>h0 j om);rw[h4,show k+(n-k-1)+1=n by omega]at h1
 have h2:det k A^(n-k-1)≠0:=Int.pow_ne_zero (hd k (ah _));have h3:det n (fun i j=>A (up k id i) (up k id j))=det n A:=bS fun i j _ _=>by
  have e:∀i,up k id i=i:=fun i=>by unfold up;split<;>simp;omega
  rw[e,e]
 rw[h3]at h1;rcases kO.1 h1.symm with h|h
 ·exact absurd h h2
 ·exact h
theorem Kx{k p:Nat}(hp:k<=p)(i a:Nat):dB k p (up k (fun _=>i) a)=up k (fun _=>dB 0 (p-k) i) a:=by
 unfold up dB;by_cases h:a<k
 ·simp only[h,if_true];rw[if_neg om,if_neg om]
 ·simp only[h,if_false];by_cases h1:i=0
  ·rw[if_pos om,if_pos h1];omega
  ·by_cases h2:i=p-k
   ·rw[if_neg om,if_pos om,if_neg h1,if_pos h2];omega
   ·rw[if_neg om,if_neg om,if_neg h1,if_neg h2]
theorem Am{k p:Nat}(A:aU)(hp:k<=p)(i j:Nat):cI (fun a b=>A a (dB k p b)) k i j=cI A k i (dB 0 (p-k) j):=by
 unfold cI;refine bS fun a b ha hb=>?_;show A _ (dB k p (up k (fun _=>j) b))=_;rw[Kx hp]
theorem kL{n:Nat}{f g:Nat->Int}(h:∀i,i<n->f i=g i):cO n f=cO n g:=by
 induction n with
 | zero=>rfl
 | succ n ih=>simp only[cO];rw[ih (fun i hi=>h i om),h n om]
theorem G2{n m:Nat}(f:Nat->Int)(h:n<=m):cO n f<=cO m f:=by
 induction m with
 | zero=>rw[show n=0 by omega];exact ah _
 | succ m ih =>
  rcases aE n (m+1)with h1|h1
  ·have:=ih om;simp only[cO];omega
  ·rw[show n=m+1 by omega];exact ah _
theorem ig{n:Nat}(f:Nat->Int){j:Nat}(hj:j<n):cO n (fun b=>if b=j then 0 else f b)+(f j).natAbs=cO n f:=by
 induction n with
 | zero=>omega
 | succ n ih =>
  simp only[cO];rcases aE j n with h|h
  ·have:=ih h;rw[if_neg (show ¬n=j by omega)];omega
  ·rw[show j=n by omega,if_pos rfl,kL (g:=f) (fun i hi=>if_neg om)];simp
theorem E3{n:Nat}(f:Nat->Int){i k:Nat}(hi:i<n)(hk:k<n):cO n (fun b=>f (dB i k b))=cO n f:=by
 by_cases e:i=k
 ·subst e;exact kL fun b _=>by unfold dB;split<;>simp_all
 ·have h1:=ig f hi;have h2:=ig (fun b=>if b=i then 0 else f b) hk
  have h3:=ig (fun b=>f (dB i k b)) hi;have h4:=ig (fun b=>if b=i then 0 else f (dB i k b)) hk
  simp only[if_neg (ak e)]at h2 h4;have h5:cO n (fun b=>if b=k then 0 else if b=i then 0 else f (dB i k b))=cO n (fun b=>if b=k then 0 else if b=i then 0 else f b):=kL fun b _=>by
   by_cases c1:b=k
   ·simp[c1]
   ·by_cases c2:b=i
    ·simp[c2]
    ·simp[c1,c2,dB]
  have e1:dB i k i=k:=by simp[dB]
  have e2:dB i k k=i:=by simp[dB]
  rw[e1]at h3;rw[e2]at h4;omega
theorem Bk{N k j:Nat}(g:Nat->Int)(h:k+j<N):cO (k+1) (fun b=>g (up k (fun _=>j) b))<=cO N g:=by
 have h1:=ig g h;have h2:cO k (fun b=>g (up k (fun _=>j) b))=cO k (fun b=>if b=k+j then 0 else g b):=kL fun b hb=>by
  simp only[up,hb,if_true];rw[if_neg om]
 have h3:=G2 (fun b=>if b=k+j then 0 else g b) (show k<=N by omega)
 simp only[cO];rw[h2,show up k (fun _=>j) k=k+j by simp[up]]
 omega
structure jT(A:aU)(N:Nat)(σ:Nat->Nat)(k:Nat):Prop where
 lead:∀j,j<=k->det j (fun a b=>A a (σ b))≠0
 abs:∀B:aU,(det N (fun a b=>B a (σ b))).natAbs=(det N B).natAbs
 sum:∀f:Nat->Int,cO N (fun b=>f (σ b))=cO N f
theorem jT.init(A:aU)(N:Nat):jT A N id 0:=⟨fun j hj=>by rw[show j=0 by omega];simp[det],fun _=>rfl,fun _=>rfl⟩
theorem jT.swap{A:aU}{N:Nat}{σ:Nat->Nat}{k p:Nat}(h:jT A N σ k)(hk:k<=p)(hp:p<N):jT A N (fun a=>σ (dB k p a)) k:=by
 refine⟨fun j hj=>?_,fun B=>?_,fun f=>?_⟩
 ·have e:det j (fun a b=>A a (σ (dB k p b)))=det j (fun a b=>A a (σ b)):=bS fun a b _ hb=>by rw[show dB k p b=b by unfold dB;rw[if_neg om,if_neg om]]
  rw[e];exact h.lead j hj
 ·by_cases e:k=p
  ·subst e;rw[show(fun a b=>B a (σ (dB k k b)))=fun a b=>B a (σ b) by funext a b;rw[show dB k k b=b by unfold dB;split<;>simp_all]]
   exact h.abs B
  ·have:=oh (fun a b=>B a (σ b)) (show k<N by omega) hp e
   rw[this,Int.natAbs_neg];exact h.abs B
 ·rw[E3 (fun b=>f (σ b)) (show k<N by omega) hp];exact h.sum f
theorem jT.step{A:aU}{N:Nat}{σ:Nat->Nat}{k:Nat}(h:jT A N σ k)(h0:cI (fun a b=>A a (σ b)) k 0 0≠0):jT A N σ (k+1) :=
 ⟨fun j hj=>by
  rcases aE j (k+1)with h1|h1
  ·exact h.lead j om
  ·rw[show j=k+1 by omega,<-cP];exact h0,h.abs,h.sum⟩
def qb(n R i:Nat):Nat:=if i<n then i else R
theorem KC{n R a:Nat}(hR:n<=R):up n (fun _=>R-n) a=qb n R a:=by simp only[up,qb];split<;>omega
theorem Is{A:aU}{n R:Nat}(hR:n<=R):cI A n (R-n) 0=det (n+1) (fun a b=>A (qb n R a) b):=by
 unfold cI;refine bS fun a b _ hb=>?_;rw[KC hR,mG _ _ hb]
theorem jT.found{A:aU}{n R:Nat}{σ:Nat->Nat}{k:Nat}(h:jT A (n+1) σ k)(hk:k<n)(hd:det (n+1) (fun a b=>A (qb n R a) b)≠0):¬∀j,j<n+1-k->cI (fun a b=>A a (σ b)) k 0 j=0:=by
 intro h0;have e:∀m,m<=n->∀B:aU,det m (fun a b=>B (qb n R a) b)=det m B:=fun m hm B=>bS fun a b ha _=>by rw[show qb n R a=a by unfold qb;rw[if_pos om]]
 have h1:=yw (A:=fun a b=>A (qb n R a) (σ b)) (show k<n+1 by omega) (fun j hj=>by rw[e j om (fun a b=>A a (σ b))];exact h.lead j hj) (fun j hj=>by
  rw[<-h0 j hj];unfold cI;refine bS fun a b ha _=>?_;rw[mG _ _ ha];simp only[qb];rw[if_pos (show a<n by omega)])
 have h2:=h.abs (fun a b=>A (qb n R a) b);rw[h1]at h2;exact hd om
theorem jT.last{A:aU}{n R:Nat}{σ:Nat->Nat}{k:Nat}(h:jT A (n+1) σ k)(hR:n<=R):(cI (fun a b=>A a (σ b)) n (R-n) 0).natAbs=(det (n+1) (fun a b=>A (qb n R a) b)).natAbs:=by
 rw[Is (A:=fun a b=>A a (σ b)) hR];exact h.abs (fun a b=>A (qb n R a) b)
theorem GH:∀(n:Nat) (A:aU),(∀i j,i<n->j<n->A i j=if j=i then 1 else 0)->det n A=1
 | 0,_,_=>rfl
 | n+1,A,h=>by
  rw[rS A (fun i hi=>by rw[h _ _ om om,if_neg om]),h 0 0 om om,GH n _ (fun i j hi hj=>by
   rw[h _ _ om om];by_cases e:j=i
   ·simp[e]
   ·rw[if_neg e,if_neg om])]
  simp
theorem wC{n:Nat}(A:aU)(h:∀i,i<n->∀c:Nat->Int,(∀r,r<n->aD n (fun j=>(if r<i then iC r j else A r j)*c j)=0)->c i=0):det n A≠0:=by
 have key:∀m i,i+m=n->det n (fun r j=>if r<i then iC r j else A r j)≠0:=by
  intro m
  induction m with
  | zero =>
   intro i hi;rw[GH n _ (fun a b ha hb=>by rw[if_pos om];rfl)];decide
  | succ m ih =>
   intro i hi hz;have h1:=ih (i+1) om;refine h1 ?_;have h2:=h i om (fun j=>pW n (fun r j=>if r<i then iC r j else A r j) i j) (fun r hr=>by
    refine(yK (fun r j=>if r<i then iC r j else A r j) (show i<n by omega) hr).trans ?_
    rw[hz];simp)
   rw[<-h2];unfold pW;refine bS fun a b _ _=>?_;unfold setRow;by_cases e:a=i
   ·simp[e]
   ·by_cases e2:a<i
    ·simp[e,e2,show a<i+1 by omega]
    ·simp[e,e2,show ¬a<i+1 by omega]
 have:=key n 0 om;simpa using this
def dp(n:Nat)(M:aU):aU:=fun r j=>if r<n then M r j else if r=n+j then 1 else 0
theorem Ah{n:Nat}(c:Nat->Int){r:Nat}(hr:r<n):aD n (fun j=>iC r j*c j)=c r:=by
 rw[cN r hr (fun i _ hi=>by simp[iC,hi])];simp[iC]
theorem AE{n:Nat}{p:Int}(hp:p≠0){piv:Nat}(hpiv:piv<n)(q x:Nat->Int):det (n+1) (fun a b=>dp n (zU n p piv q x) (qb n (n+n) a) b)≠0:=by
 refine wC _ fun i hi c hc=>?_;have rowU:∀r,r<n+1->r<i->c r=0:=fun r hr hri=>by
  have:=hc r hr;rw[aP (g:=fun j=>iC r j*c j) (fun j _=>by rw[if_pos hri]),Ah c hr]at this
  exact this
 have hcn:c n=0:=by
  by_cases h:n<i
  ·exact rowU n om h
  ·have:=hc n om;rw[aP (g:=fun j=>iC n j*c j) (fun j _=>by
    rw[if_neg h];simp only[qb,dp,iC];by_cases e:j=n
    ·simp[e,show ¬n+n<n by omega]
    ·simp[e,show ¬n+n<n by omega,ak e]),Ah c om]at this
   exact this
 have rowM:∀r,r<n->¬r<i->aD n (fun j=>gM p piv q r j*c j)=0:=fun r hr hri=>by
  have:=hc r om;rw[aP (g:=fun j=>zU n p piv q x r j*c j) (fun j _=>by rw[if_neg hri];simp[qb,dp,hr]),tf,hcn]at this
  omega
 have hoth:∀r,r<n->r≠piv->c r=0:=fun r hr hne=>by
  by_cases h:r<i
  ·exact rowU r om h
  ·have:=rowM r hr h;rw[cN r hr (fun j _ hj=>by
    simp only[gM];by_cases e:j=piv
    ·simp[e,hne]
    ·simp[e,hne,ak hj])]at this
   simp[gM,hne]at this;rcases kO.1 this with h|h
   ·exact absurd h hp
   ·exact h
 have hpv:c piv=0:=by
  by_cases h:piv<i
  ·exact rowU piv om h
  ·have:=rowM piv hpiv h;rw[cN piv hpiv (fun j hj hne=>by rw[hoth j hj hne];simp)]at this
   simp[gM]at this;rcases kO.1 this with h|h
   ·rcases kO.1 h with h|h<;>exact absurd h hp
   ·exact h
 rcases aE i n with h|h
 ·by_cases e:i=piv
  ·rw[e];exact hpv
  ·exact hoth i h e
 ·rw[show i=n by omega];exact hcn
def wj(n piv r:Nat):Nat:=if r<n then(if r=piv then 1665 else 33)else 1
theorem rX{n:Nat}{f:Nat->Int}{k:Nat}(hk:k<n)(h:∀i,i<n->i≠k->f i=0):cO n f=(f k).natAbs:=by
 have h1:=ig f hk;have h2:cO n (fun b=>if b=k then 0 else f b)=0:=by
  have:∀m,m<=n->cO m (fun b=>if b=k then 0 else f b)=0:=by
   intro m
   induction m with
   | zero=>intro _;rfl
   | succ m ih =>
    intro hm;simp only[cO];rw[ih om];by_cases e:m=k
    ·simp[e]
    ·simp[e,h m om e]
  exact this n (ah _)
 omega
theorem CI{n:Nat}{f:Nat->Int}{B:Nat}(h:∀i,i<n->(f i).natAbs<=B):cO n f<=n*B:=by
 induction n with
 | zero=>simp[cO]
 | succ n ih=>have:=ih (fun i hi=>h i om);have:=h n om;simp only[cO];rw[Nat.succ_mul];omega
theorem KM{n:Nat}{p:Int}{piv:Nat}{q x:Nat->Int}(hn:n<=5)(hp:0<p)(hp2:p<=17)(hpiv:piv<n)(hq:∀j,j<n->0<=q j/\q j<=16)(hx:∀i,i<n->i≠piv->(x i).natAbs<=16)(hxp:(x piv).natAbs<=288)(r:Nat) :
  cO (n+1) (dp n (zU n p piv q x) r)<=wj n piv r:=by
 unfold wj;split
 ·rename_i hr;have e1:cO (n+1) (dp n (zU n p piv q x) r)=cO n (gM p piv q r)+(x r).natAbs:=by
   simp only[cO];rw[kL (g:=gM p piv q r) (fun j hj=>by simp[dp,hr,zU,hj])]
   simp[dp,hr,zU]
  rw[e1];split
  ·rename_i e;subst e;have h1:=ig (gM p r q r) hr;have h2:cO n (fun b=>if b=r then 0 else gM p r q r b)<=4*272:=by
    have h3:∀b,b<n->(if b=r then 0 else gM p r q r b).natAbs<=272:=fun b hb=>by
     by_cases e:b=r
     ·simp[e]
     ·have hqb:=hq b hb;simp only[nn e,if_false,gM,if_true];have:(p*q b).natAbs<=17*16:=by rw[fV];exact ci om om
      omega
    have h4:=ig (fun b=>if b=r then 0 else gM p r q r b) hr
    have h5:=vD (n:=n-1) (fun b=>if b=r then 0 else gM p r q r b) (j:=r) om
    have h6:=CI (n:=n-1) (f:=fun k=>(fun b=>if b=r then 0 else gM p r q r b) (skip r k)) (B:=272) (fun i hi=>h3 _ (by have:=qj (j:=r) hi;omega))
    have h7:(n-1)*272<=4*272:=Nat.mul_le_mul_right _ om;rw[show n-1+1=n by omega]at h5
    simp only[if_true,Int.natAbs_zero]at h5 h6;omega
   have h8:(gM p r q r r).natAbs<=17*17:=by
    simp only[gM,if_true];rw[fV];exact ci om om
   omega
  ·rename_i e;rw[rX hr (fun j _ hj=>by
    simp only[gM];by_cases e2:j=piv
    ·simp[e2,e]
    ·simp[e2,e,ak hj])]
   have:=hx r hr e;simp only[gM,e,if_true,if_false];omega
 ·rename_i hr;rcases aE r (n+n+1)with h|h
  ·rw[rX (k:=r-n) om (fun j _ hj=>by simp only[dp,hr,if_false];rw[if_neg om])]
   simp only[dp,hr,if_false];split<;>simp
  ·rw[rX (k:=0) om (fun j hj _=>by simp only[dp,hr,if_false];rw[if_neg om])]
   simp only[dp,hr,if_false];split<;>simp
def upOk:Bool:=(cf 6).all fun n=>(cf 6).all fun piv=>(cf 6).all fun k=>(cf 12).all fun r=>decide (n<k)||decide (r<k)||decide (gA (k+1) (fun a=>wj n piv (if a<k then a else r))<=1974558465)
def cofOk:Bool:=(cf 6).all fun n=>(cf 6).all fun piv=>(cf 6).all fun i=>decide (n<=i)||decide (n<=piv)||decide (gA (n+1) (fun a=>if a=i then 1 else wj n piv (qb n n a))<=59835105)
theorem D7:upOk=true:=by decide +kernel
theorem K7:cofOk=true:=by decide +kernel
theorem Dg{n piv k r:Nat}(hn:n<6)(hp:piv<6)(hk:k<=n)(hr:k<=r)(hr2:r<12):gA (k+1) (fun a=>wj n piv (if a<k then a else r))<=1974558465:=by
 have h:=D7;unfold upOk at h;simp only[List.all_eq_true,List.mem_range]at h;have:=h n hn piv hp k om r hr2;simp only[Bool.or_eq_true,decide_eq_true_eq]at this;omega
def bz(x y:Nat):Int×Int×Int :=
 if h:y=0 then(x,1,0)else
  have:x%y<y:=en _ (kU h)
  ((bz y (x%y)).1,(bz y (x%y)).2.2,(bz y (x%y)).2.1-((x/y:Nat):Int)*(bz y (x%y)).2.2)
termination_by y
theorem l9(x:Nat):bz x 0=((x:Int),1,0):=by rw[bz];simp
theorem qM(x:Nat){y:Nat}(h:y≠0):bz x y=((bz y (x%y)).1,(bz y (x%y)).2.2,(bz y (x%y)).2.1-((x/y:Nat):Int)*(bz y (x%y)).2.2):=by
 rw[bz];simp[h]
theorem GS:∀(n x y:Nat),y<=n->(bz x y).1=(bz x y).2.1*x+(bz x y).2.2*y:=by
 intro n
 induction n with
 | zero=>intro x y h;rw[show y=0 by omega,l9];simp
 | succ n ih =>
  intro x y h;by_cases h0:y=0
  ·rw[h0,l9];simp
  ·have h1:=ih y (x%y) (by have:=en x (kU h0);omega)
   rw[qM x h0];simp only;rw[h1];have e:(x:Int)=((x/y:Nat):Int)*y+((x%y:Nat):Int):=by
    have:=gj x y;rw[aO]at this
    exact_mod_cast this.symm
   generalize ((x/y:Nat):Int)=q at *;generalize ((x%y:Nat):Int)=r at *;rw[e];grind
theorem GT:∀(n x y:Nat),y<=n->(bz x y).1∣(x:Int)/\(bz x y).1∣(y:Int):=by
 intro n
 induction n with
 | zero=>intro x y h;rw[show y=0 by omega,l9];exact⟨fO _,jO _⟩
 | succ n ih =>
  intro x y h;by_cases h0:y=0
  ·rw[h0,l9];exact⟨fO _,jO _⟩
  ·have h1:=ih y (x%y) (by have:=en x (kU h0);omega)
   rw[qM x h0];refine⟨?_,h1.1⟩;have e:(x:Int)=(y:Int)*((x/y:Nat):Int)+((x%y:Nat):Int):=by exact_mod_cast (gj x y).symm
   rw[e];exact pH (lc h1.1) h1.2
theorem CB:∀(n x y:Nat),y<=n->(0<x∨0<y)->0<(bz x y).1/\(bz x y).1<=max x y:=by
 intro n
 induction n with
 | zero=>intro x y h h';rw[show y=0 by omega,l9];simp only;omega
 | succ n ih =>
  intro x y h h';by_cases h0:y=0
  ·rw[h0,l9];simp only;omega
  ·have hm:=en x (kU h0);have h1:=ih y (x%y) om om;rw[qM x h0];simp only;omega
theorem GU:∀(n x y:Nat),y<=n->0<y->((bz x y).2.1).natAbs<=y/\((bz x y).2.2).natAbs<=max 1 x:=by
 intro n
 induction n with
 | zero=>intro x y h h';omega
 | succ n ih =>
  intro x y h h';have hm:=en x h';rw[qM x om];simp only;by_cases h0:x%y=0
  ·rw[h0,l9];simp only;omega
  ·have h1:=ih y (x%y) om om;have e:=gj x y;have hq:(((x/y:Nat):Int)*(bz y (x%y)).2.2).natAbs<=x/y*y:=by
    rw[fV,Int.natAbs_natCast];exact aY _ om
   rw[aO]at e;omega
structure JJ(x0 y0 x y:Nat)(a b na nb:Int):Prop where
 fa:a*(bz x y).2.1+na*(bz x y).2.2=(bz x0 y0).2.1
 fb:b*(bz x y).2.1+nb*(bz x y).2.2=(bz x0 y0).2.2
 fd:(bz x y).1=(bz x0 y0).1
 pos:0<x∨0<y
 sa:na.natAbs*x+a.natAbs*y=y0
 sb:nb.natAbs*x+b.natAbs*y=x0
 ga:(0<=a/\na<=0)∨(a<=0/\0<=na)
 gb:(0<=b/\nb<=0)∨(b<=0/\0<=nb)
 la:a.natAbs<=max 1 y0
 lb:b.natAbs<=max 1 x0
 lna:na.natAbs<=max 1 y0
 lnb:nb.natAbs<=max 1 x0
 lx:x<=max x0 y0
 ly:y<=max x0 y0
theorem JJ.init{x0 y0:Nat}(h:0<x0∨0<y0):JJ x0 y0 x0 y0 1 0 0 1:=by
 refine⟨by simp,by simp,rfl,h,by simp,by simp,by simp,by simp,by simp;omega,by simp,by simp,by simp;omega,by omega,by omega⟩
theorem uE{a q b:Int}(hq:0<=q)(h:(0<=a/\b<=0)∨(a<=0/\0<=b)):(a-q*b).natAbs=a.natAbs+q.natAbs*b.natAbs/\((0<=b/\a-q*b<=0)∨(b<=0/\0<=a-q*b)):=by
 rcases h with⟨h1,h2⟩|⟨h1,h2⟩
 ·have h3:0<=q*(-b):=cY hq om;rw[pG]at h3;rw[<-fV];omega
 ·have h3:0<=q*b:=cY hq h2;rw[<-fV];omega
theorem JJ.step{x0 y0 x y:Nat}{a b na nb:Int}(h:JJ x0 y0 x y a b na nb)(hy:y≠0):JJ x0 y0 y (x%y) na nb (a-((x/y:Nat):Int)*na) (b-((x/y:Nat):Int)*nb):=by
 have e:=gj x y;have hs:=qM x hy;have ha:=uE (q:=((x/y:Nat):Int)) (dV _) h.ga;have hb:=uE (q:=((x/y:Nat):Int)) (dV _) h.gb;rw[Int.natAbs_natCast]at ha hb;have sa:(a-((x/y:Nat):Int)*na).natAbs*y+na.natAbs*(x%y)=y0:=by
  rw[ha.1];have:=h.sa;generalize x/y=q at *;generalize x%y=r at *;subst e;rw[<-this];grind
 have sb:(b-((x/y:Nat):Int)*nb).natAbs*y+nb.natAbs*(x%y)=x0:=by
  rw[hb.1];have:=h.sb;generalize x/y=q at *;generalize x%y=r at *;subst e;rw[<-this];grind
 have l1:∀c d:Nat,c*y+d=y0->c<=y0:=fun c d h=>by
  have:c*1<=c*y:=aY _ om;omega
 have l2:∀c d:Nat,c*y+d=x0->c<=x0:=fun c d h=>by
  have:c*1<=c*y:=aY _ om;omega
 refine⟨?_,?_,?_,Or.inl om,sa,sb,ha.2,hb.2,h.lna,h.lnb,by have:=l1 _ _ sa;omega,by have:=l2 _ _ sb;omega,h.ly,by have:=h.ly;have:=en x (kU hy);omega⟩
 ·have:=h.fa;rw[hs]at this;simp only at this;rw[<-this];grind
 ·have:=h.fb;rw[hs]at this;simp only at this;rw[<-this];grind
 ·have:=h.fd;rw[hs]at this;exact this
theorem JJ.fin{x0 y0 x:Nat}{a b na nb:Int}(h:JJ x0 y0 x 0 a b na nb):bz x0 y0=((x:Int),a,b):=by
 have h1:=h.fa;have h2:=h.fb;have h3:=h.fd;rw[l9]at h1 h2 h3;simp only at h1 h2 h3;ext<;>simp only<;>omega
theorem Gt{n:Nat}{w H M:aU}(hw:∀i j,i<n->j<n+1->w i j=M i j)(hH:∀x,ik (n+1) (n+1) H x↔ik (n+1) (n+1) w x)(hz:∀i,i<n->H i n=0)(y:kX):ik n n H y↔ik n (n+1) M y:=by
 constructor
 ·rintro⟨c,hc⟩;obtain⟨d,hd⟩:=(hH (fun i=>aD (n+1) (fun j=>H i j*(if j<n then c j else 0)))).1 ⟨_,fun _ _=>rfl⟩
  refine⟨d,fun i hi=>?_⟩;have h1:(aD (n+1) fun j=>H i j*(if j<n then c j else 0))=aD (n+1) fun j=>w i j*d j:=hd i om
  simp only[aD]at h1;rw[aP (g:=fun j=>H i j*c j) (fun j hj=>by rw[if_pos hj]),<-hc i hi,if_neg (Nat.lt_irrefl n)]at h1
  simp only[aD];rw[aP (g:=fun j=>w i j*d j) (fun j hj=>by rw[hw i j hi om]),<-hw i n hi om]
  omega
 ·rintro⟨d,hd⟩;obtain⟨c,hc⟩:=(hH (fun i=>aD (n+1) (fun j=>w i j*d j))).2 ⟨d,fun _ _=>rfl⟩;refine⟨c,fun i hi=>?_⟩;have h1:(aD (n+1) fun j=>w i j*d j)=aD (n+1) fun j=>H i j*c j:=hc i om;rw[hd i hi];rw[aP (g:=fun j=>M i j*d j) (fun j hj=>by rw[hw i j hi hj])]at h1
  rw[h1];simp only[aD];rw[hz i hi];simp
theorem Ex{N:Nat}{w H:aU}(hN:1<=N)(hH:∀j,j<N->ik N N w (fun i=>H i j)) :
  ∃U:aU,(∀i j,i<N->j<N->mm N w U i j=H i j)/\∀i j,i<N->j<N->mm N (lj N w) H i j=det N w*U i j:=by
 have hc:∃U:aU,∀i j,i<N->j<N->mm N w U i j=H i j:=by
  have h1:∀j,∃c:kX,j<N->∀i,i<N->H i j=aD N (fun k=>w i k*c k):=fun j=>by
   by_cases hj:j<N
   ·obtain⟨c,hc⟩:=hH j hj;exact⟨c,fun _=>hc⟩
   ·exact⟨fun _=>0,fun h=>absurd h hj⟩
  refine⟨fun k j=>Classical.choose (h1 j) k,fun i j hi hj=>?_⟩;exact(Classical.choose_spec (h1 j) hj i hi).symm
 obtain⟨U,hU⟩:=hc;refine⟨U,hU,fun i j hi hj=>?_⟩;rw[uH (A':=lj N w) (B':=mm N w U) (fun _ _=>rfl) (fun k hk=>(hU k j hk hj).symm),<-qv];unfold mm;rw[cN i hi (fun k hk hki=>by
  have:=pi hN w hi hk;unfold mm at this;rw[this,if_neg (ak hki)];simp)]
 have:=pi hN w hi hi;unfold mm at this;rw[this,if_pos rfl]
theorem kH:∀{n:Nat} {f g:Nat->Nat},(∀i,i<n->f i=g i)->gA n f=gA n g
 | 0,_,_,_=>rfl
 | n+1,f,g,h=>by
  simp only[gA];rw[h 0 om,kH (n:=n) fun i hi=>h (i+1) om]
theorem xD:∀{n:Nat} {f:Nat->Nat} {i:Nat},i<n->gA n f=f i*gA n (fun t=>if t=i then 1 else f t)
 | n+1,f,0,_=>by
  simp only[gA,if_pos];rw[jG,kH (n:=n) (f:=fun i=>if i+1=0 then 1 else f (i+1)) (g:=fun i=>f (i+1)) fun j _=>by rw[if_neg om]]
 | n+1,f,i+1,h=>by
  simp only[gA];rw[if_neg om,xD (n:=n) (f:=fun i=>f (i+1)) (i:=i) om];rw[kH (n:=n) (f:=fun i_1=>if i_1+1=i+1 then 1 else f (i_1+1)) (g:=fun t=>if t=i then 1 else f (t+1)) fun j _=>by
   by_cases e:j=i
   ·rw[if_pos e,if_pos om]
   ·rw[if_neg e,if_neg om]]
  rw[<-fL,<-fL,aO (f 0)]
theorem rJ:∀{n:Nat} {f:Nat->Nat},(∀i,i<n->1<=f i)->1<=gA n f
 | 0,_,_=>by simp[gA]
 | n+1,f,h=>by
  simp only[gA];exact Nat.mul_pos (h 0 om) (rJ fun i hi=>h (i+1) om)
theorem xE:∀{m N:Nat} {f:Nat->Nat} {O:Nat->Nat},(∀i,i<N->1<=f i)->(∀a,a<m->O a<N)->(∀a b,a<m->b<m->O a=O b->a=b)->gA m (fun a=>f (O a))<=gA N f
 | 0,_,_,_,h,_,_=>by simp only[gA];exact rJ h
 | m+1,N,f,O,h,ht,hi=>by
  rw[xD (ht 0 om)];simp only[gA];refine aY _ ?_;have:=xE (m:=m) (N:=N) (f:=fun t=>if t=O 0 then 1 else f t) (O:=fun a=>O (a+1)) (fun i hiN=>by
   split
   ·exact ah _
   ·exact h i hiN) (fun a ha=>ht (a+1) om) (fun a b ha hb e=>by
   have:=hi (a+1) (b+1) om om e;omega)
  refine bW (Nat.le_of_eq (kH fun a ha=>?_)) this;rw[if_neg fun e=>by have:=hi (a+1) 0 om om e;omega]
theorem t8{A:aU}{N:Nat}{f:Nat->Nat}(hA:∀r,cO N (A r)<=f r){k i j:Nat}(hj:k+j<N){σ:Nat->Nat}(hs:∀g:Nat->Int,cO N (fun b=>g (σ b))=cO N g) :
  (cI (fun x y=>A x (σ y)) k i j).natAbs<=gA (k+1) (fun a=>f (if a<k then a else k+i)):=by
 unfold cI;refine bW (zd _ _) (pP fun a _=>?_);refine bW (Bk (fun y=>A (up k (fun _=>i) a) (σ y)) hj) ?_;rw[hs (A (up k (fun _=>i) a))];exact hA _
theorem wg{B:aU}{N:Nat}{f:Nat->Nat}(hB:∀r,r<N->cO N (B r)<=f r)(h1:∀r,r<N->1<=f r){k i j:Nat}(hi:k+i<N)(hj:k+j<N){σ:Nat->Nat}(hs:∀a,a<N->σ a<N) :
  (cI (fun a b=>B (σ a) b) k i j).natAbs<=gA N f:=by
 unfold cI;have hu:∀a,a<k+1->up k (fun _=>i) a<N:=fun a ha=>by unfold up;split<;>omega
 by_cases hinj:∀a b,a<k+1->b<k+1->σ (up k (fun _=>i) a)=σ (up k (fun _=>i) b)->a=b
 ·refine bW (zd _ _) (bW (pP fun a ha=>?_) (xE (m:=k+1) (N:=N) (f:=f) (O:=fun a=>σ (up k (fun _=>i) a)) h1 (fun a ha=>hs _ (hu a ha)) hinj));exact bW (Bk (fun y=>B (σ (up k (fun _=>i) a)) y) hj) (hB _ (hs _ (hu a ha)))
 ·have:∃a b,a<b/\b<k+1/\σ (up k (fun _=>i) a)=σ (up k (fun _=>i) b):=by
   refine Classical.byContradiction fun hno=>hinj fun a b ha hb e=>?_;rcases Nat.lt_trichotomy a b with h|h|h
   ·exact(hno ⟨a,b,h,hb,e⟩).elim
   ·exact h
   ·exact(hno ⟨b,a,h,ha,e.symm⟩).elim
  obtain⟨a,b,hab,hb,e⟩:=this;rw[kJ _ hab hb (fun c _=>by show B (σ (up k (fun _=>i) a)) _=B (σ (up k (fun _=>i) b)) _;rw[e])]
  have:=rJ h1;simp
end Go.Proofs.YtdobfmlmenaajaaGreatDoor
