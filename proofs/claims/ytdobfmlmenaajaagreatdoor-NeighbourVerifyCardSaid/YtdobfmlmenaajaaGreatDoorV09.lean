/-
  Lemmas for NeighbourVerify.
-/
import Derived.Test.YtdobfmlmenaajaaGreatDoorV08
namespace Go.Proofs.YtdobfmlmenaajaaGreatDoor
open Go.RowKit Tryz
set_option maxHeartbeats 6400000
set_option maxRecDepth 4096
set_option linter.all false
variable{a b h prev q u v x z:Int}{f:Int->Int}{d i j j' k m n p t:Nat}{c:Nat->Int}{g σ:Nat->Nat}{A B H:aH}
def jK(A:aH)(i:Nat):setRow A i (A i)=A:=by funext a b;simp only[setRow];split<;>simp_all
def ky(A:aH)(i:Nat):cb A i (fun a=>A a i)=A:=by funext a b;simp only[cb];split<;>simp_all
def ji(A:aH){i k:Nat}(h:i≠k)(r s:Nat->Int):setRow (setRow A i r) k s=setRow (setRow A k s) i r:=by
 funext a b;simp only[setRow];grind
def DU(A:aH)(b:i+1<n)(r s:Nat->Int):det n (setRow (setRow A i r) (i+1) s)=- det n (setRow (setRow A i s) (i+1) r):=by
 have a:∀t:Nat->Int,det n (setRow (setRow A i t) (i+1) t)=0:=fun t =>
  J4 _ b (fun j _=>by simp[setRow])
 have c:=a (fun j=>r j+s j);rw[kD _ om,ji _ om,ji A (k:=i+1) (s:=s) om,kD _ om,kD _ om]at c;rw[ji _ om s r,ji _ om r s];have d:=a r;have e:=a s;rw[ji _ om]at d e;omega
def mW(A:aH)(c:i<k)(a:k<n)(h:∀j,j<n->A i j=A k j):det n A=0:=by
 induction k generalizing A with
 | zero=>omega
 | succ k ih =>
  by_cases e:i=k
  .subst e;exact J4 A a h
  .have b:=DU A a (A k) (A (k+1));have d:setRow (setRow A k (A k)) (k+1) (A (k+1))=A:=by rw[jK,jK]
   rw[d]at b;rw[b,ih (setRow (setRow A k (A (k+1))) (k+1) (A k)) om om (fun j f=>?_)];· rfl
   have:=h j f;simp only[setRow];rw[af om,af om,af om,ah trivial];exact this
def pc(A:aH)(b:i<n)(c:k<n)(a:i≠k):det n (setRow A i (A k))=0:=by
 rcases nf a with h|h
 .exact mW _ h c (fun j _=>by simp only[setRow];rw[ah trivial,af om])
 .exact mW _ h b (fun j _=>by simp only[setRow];rw[af om,ah trivial])
def lU(A:aH)(b:i<n)(d:k<n)(a:i≠k)(x c:Int):det n (setRow A i (fun j=>x*A i j+c*A k j))=x*det n A:=by
 rw[qz A b x c (A i) (A k),pc A b d a,jK];omega
def N7(A:aH)(b:i<n)(d:k<n)(a:i≠k):det n (setRow (setRow A i (A k)) k (A i))=- det n A:=by
 have c:∀t:Nat->Int,det n (setRow (setRow A i t) k t)=0:=fun t=>by
  rcases nf a with h|h
  .exact mW _ h d (fun j _=>by simp only[setRow];grind)
  .exact mW _ h b (fun j _=>by simp only[setRow];grind)
 have e:=c (fun j=>A i j+A k j);rw[kD _ d,ji _ a,ji A a (s:=A k),kD _ b,kD _ b]at e;have f:=c (A i);have g:=c (A k);rw[ji _ a]at f g;have l:setRow (setRow A k (A k)) i (A i)=A:=by rw[jK,jK]
 rw[l]at e;rw[ji _ a];omega
def du(j:Nat):Nat->Int:=fun k=>if k=j then 1 else 0
def qa(n:Nat)(A:aH)(i j:Nat):Int:=det n (setRow A i (du j))
def FX(A:aH)(c:i<n)(m:Nat)(r:Nat->Int) :
  det n (setRow A i (fun k=>if k<m then r k else 0))=aq m (fun j=>r j*qa n A i j):=by
 induction m with
 | zero =>
  have h:=oS A c 0 (fun _=>0);rw[bI (B:=setRow A i (fun j=>0*(fun _=>0) j)) (fun a b _ _=>by simp[setRow]),h];simp[aq]
 | succ m ih =>
  simp only[aq];rw[<-ih];have h:=qz A c 1 (r m) (fun k=>if k<m then r k else 0) (du m)
  rw[bI (B:=setRow A i (fun j=>1*(fun k=>if k<m then r k else 0) j+r m*du m j)) (fun a b _ _=>?_),h]
  .show _=_+r m*det n _;omega
  .simp only[setRow,du];split
   .by_cases e:b=m
    .subst e;simp
    .by_cases d:b<m
     .simp[e,d];omega
     .have:¬b<m+1:=om
      simp[e,d,this]
   .rfl
def Ay(A:aH)(c:i<n)(r:Nat->Int):aq n (fun j=>r j*qa n A i j)=det n (setRow A i r):=by
 rw[<-FX A c n r];exact bI fun a b _ d=>by simp only[setRow];split<;>simp_all
def uB(A:aH)(a:i<n)(b:k<n):aq n (fun j=>A k j*qa n A i j)=if i=k then det n A else 0:=by
 rw[Ay A a];split
 .rename_i e;subst e;rw[jK]
 .rename_i e;exact pc A a b e
def uR(A:aH)(a:0<n)(h:∀i,i<n->A i 0=0):det n A=0:=by
 induction n generalizing A with
 | zero=>omega
 | succ n ih =>
  simp only[det];refine iP fun j b=>?_
  cases j with
  | zero=>rw[h 0 om];omega
  | succ j=>rw[ih (cut A (j+1)) om (fun i c=>by
    show A (i+1) (skip (j+1) 0)=0;rw[show skip (j+1) 0=0 from rfl];exact h _ om)];omega
def sh(A:aH)(h:∀i,i<n->A (i+1) 0=0):det (n+1) A=A 0 0*det n (fun i j=>A (i+1) (j+1)):=by
 rw[det,cJ 0 om]
 .rw[zN,dG];rfl
 .intro j c a
  cases j with
  | zero=>omega
  | succ j=>rw[uR (cut A (j+1)) om (fun i b=>by
    show A (i+1) (skip (j+1) 0)=0;rw[show skip (j+1) 0=0 from rfl];exact h _ b)];omega
def kf(A:aH)(m:Nat):aH:=fun i j=>if 0<i/\i<=m then A 0 0*A i j-A i 0*A 0 j else A i j
def BD(A:aH)(n m:Nat)(a:m<=n):det (n+1) (kf A m)=A 0 0^m*det (n+1) A:=by
 induction m with
 | zero=>rw[bI (B:=A) (fun i j _ _=>by unfold kf;rw[af om])];simp
 | succ m ih =>
  have e:∀i j,kf A (m+1) i j=setRow (kf A m) (m+1) (fun j=>A 0 0*kf A m (m+1) j+(- A (m+1) 0)*kf A m 0 j) i j:=by
   intro i j;simp only[setRow];split
   .rename_i e;subst e;simp only[kf];rw[ah om,af om,af om];grind
   .simp only[kf];by_cases h:0<i/\i<=m
    .rw[ah om,ah h]
    .rw[af om,af h]
  rw[bI (fun i j _ _=>e i j),lU _ om om om,ih om,gC]
  grind
def F6(A:aH):aH:=fun i j=>A 0 0*A (i+1) (j+1)-A (i+1) 0*A 0 (j+1)
def Ob(A:aH)(n:Nat):A 0 0*det n (F6 A)=A 0 0^n*det (n+1) A:=by
 rw[<-BD A n n (ae _),sh]
 .congr 1;exact bI fun i j a b=>by simp only[kf,F6];rw[ah om]
 .intro i a;simp only[kf];rw[ah om];grind
def pe(A:aH){c j:Nat}(r:Nat->Int)(h:c<j):cut (cb A c r) j=cb (cut A j) c (fun a=>r (a+1)):=by
 funext a b;simp only[cut,cb,skip];grind
def pg(A:aH){c j:Nat}(r:Nat->Int)(h:j<c):cut (cb A c r) j=cb (cut A j) (c-1) (fun a=>r (a+1)):=by
 funext a b;simp only[cut,cb,skip];grind
def ph(A:aH)(c:Nat)(r:Nat->Int):cut (cb A c r) c=cut A c:=by
 funext a b;simp only[cut,cb,skip];grind
def si{c:Nat}(A:aH)(a:c<n)(x y:Int)(r s:Nat->Int) :
  det n (cb A c (fun j=>x*r j+y*s j))=x*det n (cb A c r)+y*det n (cb A c s):=by
 induction n generalizing A c r s with
 | zero=>omega
 | succ n ih =>
  simp only[det];rw[<-pE];refine aB fun j b=>?_;rcases dS c j with h|h|h
  .rw[pe _ _ h,pe _ _ h,pe _ _ h,ih _ om];simp only[cb];rw[af om,af om,af om];grind
  .subst h;rw[ph,ph,ph];simp only[cb,aK];grind
  .rw[pg _ _ h,pg _ _ h,pg _ _ h,ih _ om];simp only[cb];rw[af om,af om,af om];grind
def xR{c:Nat}(A:aH)(f:c+1<n)(h:∀i,i<n->A i c=A i (c+1)):det n A=0:=by
 induction n generalizing A c with
 | zero=>omega
 | succ n ih =>
  simp only[det];rw[Cb c f]
  .have e:det n (cut A c)=det n (cut A (c+1)):=bI fun i k b m=>by
    simp only[cut,skip];by_cases a:k<c
    .rw[ah a,ah om]
    .by_cases d:k=c
     .subst d;rw[af om,ah om];exact(h _ om).symm
     .rw[af a,af om]
   rw[e,Fn,h 0 om];grind
  .intro j o a d;rcases nf a with g|l
   .rw[ih (cut A j) (c:=c-1) om (fun i b=>by
     simp only[cut,skip];rw[af om,af om];rw[(om:c-1+1=c)];exact h _ om)];omega
   .rw[ih (cut A j) (c:=c) om (fun i b=>by
     simp only[cut,skip];rw[ah om,ah om];exact h _ om)];omega
def jk(A:aH){i k:Nat}(h:i≠k)(r s:Nat->Int):cb (cb A i r) k s=cb (cb A k s) i r:=by
 funext a b;simp only[cb];grind
def lI(A:aH)(c:i<n)(r s:Nat->Int):det n (cb A i (fun j=>r j+s j))=det n (cb A i r)+det n (cb A i s):=by
 have h:=si A c 1 1 r s;rw[bI (B:=cb A i (fun j=>1*r j+1*s j)) (fun a b _ _=>by simp[cb]),h];omega
def wJ(A:aH)(b:i+1<n)(r s:Nat->Int):det n (cb (cb A i r) (i+1) s)=- det n (cb (cb A i s) (i+1) r):=by
 have a:∀t:Nat->Int,det n (cb (cb A i t) (i+1) t)=0:=fun t =>
  xR _ b (fun j _=>by simp[cb])
 have c:=a (fun j=>r j+s j);rw[lI _ om,jk _ om,jk A (k:=i+1) (s:=s) om,lI _ om,lI _ om]at c;rw[jk _ om s r,jk _ om r s];have d:=a r;have e:=a s;rw[jk _ om]at d e;omega
def mX(A:aH)(d:i<k)(b:k<n)(h:∀j,j<n->A j i=A j k):det n A=0:=by
 induction k generalizing A with
 | zero=>omega
 | succ k ih =>
  by_cases e:i=k
  .subst e;exact xR A b h
  .have c:=wJ A b (fun a=>A a k) (fun a=>A a (k+1));have f:cb (cb A k (fun a=>A a k)) (k+1) (fun a=>A a (k+1))=A:=by rw[ky,ky]
   rw[f]at c;rw[c,ih (cb (cb A k (fun a=>A a (k+1))) (k+1) (fun a=>A a k)) om om (fun j g=>?_)];· rfl
   have:=h j g;simp only[cb];rw[af om,af om,af om,ah trivial];exact this
def qA(A:aH)(b:i<n)(d:k<n)(a:i≠k)(x c:Int):det n (cb A i (fun j=>x*A j i+c*A j k))=x*det n A:=by
 rw[si A b x c (fun j=>A j i) (fun j=>A j k),ky];have:det n (cb A i (fun j=>A j k))=0:=by
  rcases nf a with h|h
  .exact mX _ h d (fun j _=>by simp only[cb];rw[ah trivial,af om])
  .exact mX _ h b (fun j _=>by simp only[cb];rw[af om,ah trivial])
 rw[this];omega
def DW(A:aH)(c:i<n)(e:k<n)(b:i≠k):det n (cb (cb A i (fun a=>A a k)) k (fun a=>A a i))=- det n A:=by
 have d:∀t:Nat->Int,det n (cb (cb A i t) k t)=0:=fun t=>by
  rcases nf b with h|h
  .exact mX _ h e (fun j _=>by simp only[cb];grind)
  .exact mX _ h c (fun j _=>by simp only[cb];grind)
 have f:=d (fun j=>A j i+A j k);rw[lI _ e,jk _ b,jk A b (s:=fun j=>A j k),lI _ c,lI _ c]at f;have g:=d (fun j=>A j i);have l:=d (fun j=>A j k);rw[jk _ b]at g l;have m:cb (cb A k (fun j=>A j k)) i (fun j=>A j i)=A:=by rw[ky,ky]
 rw[m]at f;rw[jk _ b];omega

def J1(A:aH):det 1 A=A 0 0:=by simp[det,aq,nF]
def J0(A:aH):det 2 A=A 0 0*A 1 1-A 1 0*A 0 1:=by simp[det,aq,nF,cut,skip];grind
def rI(n:Nat)(c:Int)(A:aH):det n (fun i j=>c*A i j)=c^n*det n A:=by
 induction n generalizing A with
 | zero=>simp[det]
 | succ n ih =>
  simp only[det];rw[<-df];refine aB fun j _=>?_;rw[show cut (fun i j=>c*A i j) j=fun i k=>c*cut A j i k from rfl,ih,gC];grind
def bar(prev:Int)(A:aH):aH:=fun i j=>F6 A i j/prev
def RC(prev:Int)(A:aH):Prop:=∀(l:Nat) (ρ γ:Nat->Nat),prev^l∣det (l+1) (fun i j=>A (ρ i) (γ j))
def lQ(ρ:Nat->Nat):Nat->Nat
 | 0=>0
 | i+1=>ρ i+1
def RC.exact(h:RC prev A)(i j:Nat):prev*bar prev A i j=F6 A i j:=by
 have a:=h 1 (lQ fun _=>i) (lQ fun _=>j);rw[J0,gC,Int.pow_zero,dG]at a;exact gW a
def LE(h:RC prev A)(b:A 0 0≠0)(l:Nat)(ρ γ:Nat->Nat) :
  prev^(l+1)*det (l+1) (fun i j=>bar prev A (ρ i) (γ j))=A 0 0^l*det (l+2) (fun i j=>A (lQ ρ i) (lQ γ j)):=by
 have a:=Ob (fun i j=>A (lQ ρ i) (lQ γ j)) (l+1);rw[<-rI,bI (B:=F6 (fun i j=>A (lQ ρ i) (lQ γ j))) (fun i j _ _=>by
  show prev*bar prev A (ρ i) (γ j)=_;rw[h.exact];rfl)]
 simp only[lQ]at a;rw[gC,ck (A 0 0^l),fK]at a;exact cL b a

def up(k:Nat)(ρ:Nat->Nat)(i:Nat):Nat:=if i<k then i else k+ρ (i-k)
def cX(A:aH)(k:Nat):aH:=fun i j=>det (k+1) (fun a b=>A (up k (fun _=>i) a) (up k (fun _=>j) b))
def Jh(ρ:Nat->Nat)(i:Nat):up 0 ρ i=ρ i:=by simp[up]
def yA(k:Nat)(ρ:Nat->Nat)(i:Nat):up k (lQ ρ) i=up (k+1) ρ i:=by
 unfold up;by_cases h:i<k
 .rw[ah h,ah om]
 .rw[af h];by_cases a:i<k+1
  .rw[ah a,(om:i-k=0)];simp[lQ];omega
  .rw[af a,(om:i-k=(i-(k+1))+1)];simp only[lQ];omega
def pC(k i:Nat)(h:i<k+1):up k (fun _=>0) i=i:=by
 unfold up;split
 .rfl
 .show k+0=i;omega
def gZ(A:aH)(i j:Nat):cX A 0 i j=A i j:=by
 unfold cX;rw[J1];simp[up]
def dd(A:aH)(k:Nat):cX A k 0 0=det (k+1) A:=by
 unfold cX;exact bI fun a b c d=>by rw[pC k a c,pC k b d]
def xC(h:∀(l:Nat) (ρ γ:Nat->Nat),det (l+1) (fun i j=>cX A k (ρ i) (γ j))=det k A^l*det (k+l+1) (fun i j=>A (up k ρ i) (up k γ j)))(i j:Nat) :
  F6 (cX A k) i j=det k A*cX A (k+1) i j:=by
 have c:=h 1 (lQ fun _=>i) (lQ fun _=>j);rw[J0,gC,Int.pow_zero,dG]at c;simp only[lQ]at c;simp only[F6];rw[c];unfold cX;congr 1;exact bI fun a b _ _=>by rw[yA,yA]
theorem rX{A:aH}:∀{k:Nat},(∀j,j<=k->det j A≠0)->∀(l:Nat) (ρ γ:Nat->Nat),
  det (l+1) (fun i j=>cX A k (ρ i) (γ j))=det k A^l*det (k+l+1) (fun i j=>A (up k ρ i) (up k γ j))
 | 0,_,l,ρ,γ=>by
  rw[show det 0 A=1 from rfl,Int.one_pow,dG,az];exact bI fun i j _ _=>by rw[gZ,Jh,Jh]
 | k+1,a,l,ρ,γ=>by
  have ih:=rX (k:=k) (fun j n=>a j om);have d:=a k om;have b:=a (k+1) (ae _);have f:RC (det k A) (cX A k):=fun l ρ γ=>⟨_,ih l ρ γ⟩;have c:cX A k 0 0≠0:=by rw[dd];exact b
  have g:∀i j,bar (det k A) (cX A k) i j=cX A (k+1) i j:=fun i j=>by
   unfold bar;rw[xC ih,di _ d]
  have e:=LE f c l ρ γ;rw[bI (B:=fun i j=>cX A (k+1) (ρ i) (γ j)) (fun i j _ _=>g _ _),ih (l+1) (lQ ρ) (lQ γ),dd]at e;have h:det k A^(l+1)≠0:=Kl d;refine cL h ?_;have m:det (k+(l+1)+1) (fun i j=>A (up k (lQ ρ) i) (up k (lQ γ) j))=det (k+1+l+1) (fun i j=>A (up (k+1) ρ i) (up (k+1) γ j)):=by
   rw[(om:k+(l+1)+1=k+1+l+1)]
   exact bI fun i j _ _=>by rw[yA,yA]
  rw[e,m,Vm]
def MS(a:∀j,j<=k->det j A≠0)(i j:Nat):F6 (cX A k) i j=det k A*cX A (k+1) i j:=xC (rX a) i j
def jh(a:∀j,j<=k->det j A≠0)(i j:Nat):cX A k 0 0*cX A k (i+1) (j+1)-cX A k (i+1) 0*cX A k 0 (j+1)=det k A*cX A (k+1) i j:=MS a i j
def MQ(l:k<n)(b:∀j,j<=k->det j A≠0)(c:∀i,i<n-k->cX A k i 0=0):det n A=0:=by
 have a:=rX b (n-k-1) id id;have d:det (n-k-1+1) (fun i j=>cX A k (id i) (id j))=0:=uR _ om (fun i m=>c i om);rw[d,(om:k+(n-k-1)+1=n)]at a
 have f:det k A^(n-k-1)≠0:=Kl (b k (ae _));have g:det n (fun i j=>A (up k id i) (up k id j))=det n A:=bI fun i j _ _=>by
  have e:∀i,up k id i=i:=fun i=>by unfold up;split<;>simp;omega
  rw[e,e]
 rw[g]at a;rcases fZ.1 a.symm with h|h
 .exact absurd h f
 .exact h
def dX(i j a:Nat):Nat:=if a=i then j else if a=j then i else a
def Dd(A:aH)(f:i<n)(g:k<n)(c:i≠k):det n (fun a b=>A (dX i k a) b)=- det n A:=by
 rw[<-N7 A f g c];refine bI fun a b _ _=>?_;simp only[dX,setRow];by_cases d:a=i
 .subst d;simp[c]
 .by_cases e:a=k
  .subst e;simp[d]
  .simp[d,e]
def oK(A:aH)(f:i<n)(g:k<n)(c:i≠k):det n (fun a b=>A a (dX i k b))=- det n A:=by
 rw[<-DW A f g c];refine bI fun a b _ _=>?_;simp only[dX,cb];by_cases d:b=i
 .subst d;simp[c]
 .by_cases e:b=k
  .subst e;simp[d]
  .simp[d,e]
def zI(A:aH)(c:n<=i)(d:n<=k):det n (fun a b=>A (dX i k a) b)=det n A :=
 bI fun a b e _=>by rw[show dX i k a=a by unfold dX;rw[af om,af om]]
def yB(A:aH)(f:k<=p)(i j:Nat):cX (fun a b=>A (dX k p a) b) k i j=cX A k (dX 0 (p-k) i) j:=by
 unfold cX;refine bI fun a b g l=>?_;have e:dX k p (up k (fun _=>i) a)=up k (fun _=>dX 0 (p-k) i) a:=by
  unfold up dX;by_cases h:a<k
  .simp only[h,aK];rw[af om,af om]
  .simp only[h,aM];by_cases c:i=0
   .rw[ah om,ah c];omega
   .by_cases d:i=p-k
    .rw[af om,ah om,af c,ah d];omega
    .rw[af om,af om,af c,af d]
 show A (dX k p (up k (fun _=>i) a)) _=_;rw[e]
structure oG(A:aH)(n:Nat)(σ:Nat->Nat)(neg:Bool)(k:Nat):Prop where
 lead:∀j,j<=k->det j (fun a b=>A (σ a) b)≠0
 sign:det n (fun a b=>A (σ a) b)=if neg then-det n A else det n A
 row:∀i,i<n->σ i<n
def oG.init(A:aH)(n:Nat):oG A n id false 0:=⟨fun j a=>by rw[(om:j=0)];simp[det],sm,fun i h=>h⟩
def oG.swap{neg:Bool}(h:oG A n σ neg k)(e:k<p)(c:p<n):oG A n (fun a=>σ (dX k p a)) (!neg) k:=by
 refine⟨fun j d=>?_,?_,fun i f=>h.row _ (by unfold dX;split<;>(try split)<;>omega)⟩
 .rw[zI (fun a b=>A (σ a) b) om om];exact h.lead j d
 .rw[Dd (fun a b=>A (σ a) b) om c om,h.sign]
  cases neg<;>simp
def oG.step{neg:Bool}(h:oG A n σ neg k)(c:cX (fun a b=>A (σ a) b) k 0 0≠0):oG A n σ neg (k+1) :=
 ⟨fun j e=>by
  rcases aF j (k+1)with d|d
  .exact h.lead j om
  .rw[(om:j=k+1),<-dd];exact c,h.sign,h.row⟩
def oG.zero{neg:Bool}(h:oG A n σ neg k)(d:k<n)(e:∀i,i<n-k->cX (fun a b=>A (σ a) b) k i 0=0):det n A=0:=by
 have c:=MQ d h.lead e;rw[h.sign]at c
 cases neg<;>simp at c<;>omega

structure Pd(A:aH)(n:Nat):Prop where
 sym:∀a b,a<n->b<n->A a b=A b a
 pos:∀k,k<=n->0<det k A
def Pd.ne(h:Pd A n){k:Nat}(a:k<=n):∀j,j<=k->det j A≠0:=fun j b=>by have:=h.pos j om;omega
def Pd.stg_sym(h:Pd A n):∀(k i j:Nat),k+i<n->k+j<n->cX A k i j=cX A k j i
 | 0,i,j,b,c=>by rw[gZ,gZ];exact h.sym i j om om
 | k+1,i,j,b,c=>by
  have ih:=h.stg_sym k;have a:=jh (h.ne (k:=k) om) i j;have d:=jh (h.ne (k:=k) om) j i;rw[ih (i+1) (j+1) om om,ih (i+1) 0 om om,ih 0 (j+1) om om]at a;have e:=h.pos k om;refine cL (om:det k A≠0) ?_
  rw[<-a,<-d];grind
def Pd.stg_rec(h:Pd A n){k i:Nat}(a:k+i+1<n):det (k+1) A*cX A k (i+1) (i+1)=det k A*cX A (k+1) i i+cX A k (i+1) 0*cX A k (i+1) 0:=by
 have e:=jh (h.ne (k:=k) om) i i;rw[h.stg_sym k 0 (i+1) om om,dd]at e;omega
def Pd.stg_rec2(h:Pd A n){k i j:Nat}(a:k+i+1<n)(b:k+j+1<n):det (k+1) A*cX A k (i+1) (j+1)=det k A*cX A (k+1) i j+cX A k (i+1) 0*cX A k (j+1) 0:=by
 have e:=jh (h.ne (k:=k) om) i j;rw[h.stg_sym k 0 (j+1) om om,dd]at e;omega
def lH(x:Int):0<=x*x:=by
 rcases Int.le_total 0 x with h|h
 .exact dr h h
 .have:=dr (om:0<=-x) (om:0<=-x);rw[qc]at this;exact this
def qm(d:0<a)(h:0<a*b):0<b:=by
 rcases l9 0 b with c|c
 .exact c
 .have:=ca c (cC d);omega
def Pd.stg_pos(h:Pd A n):∀(i k:Nat),k+i<n->0<cX A k i i
 | 0,k,a=>by rw[dd];exact h.pos _ om
 | i+1,k,a=>by
  have e:=h.stg_rec (k:=k) (i:=i) om;have b:=h.stg_pos i (k+1) om;have d:=lM (h.pos k om) b;have f:=lH (cX A k (i+1) 0);have c:0<det (k+1) A*cX A k (i+1) (i+1):=om
  exact qm (h.pos (k+1) om) c
def Pd.stg_up(h:Pd A n):∀(k i:Nat),k+i<n->cX A k i i<=det k A*A (k+i) (k+i)
 | 0,i,a=>by rw[gZ];simp[det]
 | k+1,i,a=>by
  have e:=h.stg_rec (k:=k) (i:=i) om;have ih:=h.stg_up k (i+1) om;have b:=h.pos k om;have c:=h.pos (k+1) om;have d:=lH (cX A k (i+1) 0);have f:=ca ih (cC c);refine jM ?_ b;rw[(om:k+1+i=k+(i+1))]
  have g:det (k+1) A*(det k A*A (k+(i+1)) (k+(i+1)))=det k A*(det (k+1) A*A (k+(i+1)) (k+(i+1))):=by grind
  omega
def Pd.lam_sq(h:Pd A n){k i:Nat}(a:k+i+1<n):cX A k (i+1) 0*cX A k (i+1) 0<=det (k+1) A*cX A k (i+1) (i+1):=by
 have e:=h.stg_rec (k:=k) (i:=i) om;have b:=lM (h.pos k om) (h.stg_pos i (k+1) om);omega
def Pd.hadamard(h:Pd A n){k:Nat}(a:k<n):det (k+1) A<=det k A*A k k:=by
 have:=h.stg_up k 0 om
 rwa [dd,cN]at this
def Oc{m:Int}(c:0<a)(d:m*m<=a*b):0<=a*(v*v)+b*(u*u)-2*(m*(u*v)):=by
 have e:a*(a*(v*v)+b*(u*u)-2*(m*(u*v)))=(a*v-m*u)*(a*v-m*u)+(a*b-m*m)*(u*u):=by grind
 have f:=lH (a*v-m*u);have g:=dr (om:0<=a*b-m*m) (lH u)
 exact Int.nonneg_of_mul_nonneg_right om c
def QQ{d m:Int}(c:0<=d)(e:0<a)(f:m*m<=a*b):(d*m+u*v)*(d*m+u*v)<=(d*a+u*u)*(d*b+v*v):=by
 have g:=Oc (u:=u) (v:=v) e f;have h:=dr c g;have i:=dr (dr c c) (om:0<=a*b-m*m)
 have j:(d*a+u*u)*(d*b+v*v)-(d*m+u*v)*(d*m+u*v)=d*d*(a*b-m*m)+d*(a*(v*v)+b*(u*u)-2*(m*(u*v))):=by grind
 omega
def Pd.cs(h:Pd A n):∀(i j k:Nat),k+i<n->k+j<n->cX A k i j*cX A k i j<=cX A k i i*cX A k j j
 | 0,0,k,_,_=>sF _
 | 0,j+1,k,_,b=>by
  rw[h.stg_sym k 0 (j+1) om om,dd];exact h.lam_sq om
 | i+1,0,k,c,_=>by
  rw[dd,ck (cX A k (i+1) (i+1))];exact h.lam_sq om
 | i+1,j+1,k,c,b=>by
  have ih:=h.cs i j (k+1) om om;have d:=h.stg_rec (k:=k) (i:=i) om;have e:=h.stg_rec (k:=k) (i:=j) om;have f:=h.stg_rec2 (k:=k) (i:=i) (j:=j) om om;have g:=h.pos k om;have a:=h.pos (k+1) om;have l:=QQ (u:=cX A k (i+1) 0) (v:=cX A k (j+1) 0) (cC g) (h.stg_pos i (k+1) om) ih;rw[<-d,<-e,<-f]at l;have m:0<det (k+1) A*det (k+1) A:=lM a a;refine jM ?_ m;have o:det (k+1) A*det (k+1) A*(cX A k (i+1) (j+1)*cX A k (i+1) (j+1))=det (k+1) A*cX A k (i+1) (j+1)*(det (k+1) A*cX A k (i+1) (j+1)):=by grind
  have p:det (k+1) A*det (k+1) A*(cX A k (i+1) (i+1)*cX A k (j+1) (j+1))=det (k+1) A*cX A k (i+1) (i+1)*(det (k+1) A*cX A k (j+1) (j+1)):=by grind
  omega
def Pd.cs0(h:Pd A n){i j:Nat}(a:i<n)(b:j<n):A i j*A i j<=A i i*A j j:=by
 have:=h.cs i j 0 om om;simpa only[gZ]using this
def Pd.diag(h:Pd A n){i:Nat}(a:i<n):0<A i i:=by
 have:=h.stg_pos i 0 om
 rwa [gZ]at this
def kZ(A:aH)(i j:Nat):Int:=cX A j (i-j) 0
def iR(A:aH)(i j:Nat):Prop:=2*(kZ A i j).natAbs<=det (j+1) A
def iH(A:aH)(i:Nat):Prop:=3*(det i A*det i A)<=4*(det (i-1) A*det (i+1) A+kZ A i (i-1)*kZ A i (i-1))
def P3{d:Int}(h:2*(x.natAbs:Int)<=d):x*x<=d*d:=by
 have a:((x.natAbs:Nat):Int)*x.natAbs=x*x:=by rw[<-bF,mg]
 rw[<-a];exact da om om om om
def sR{d:Int}(h:2*(x.natAbs:Int)<=d):4*(x*x)<=d*d:=by
 have a:((x.natAbs:Nat):Int)*x.natAbs=x*x:=by rw[<-bF,mg]
 have b:(2*(x.natAbs:Int))*(2*x.natAbs)<=d*d:=da h h om om;have c:(2*(x.natAbs:Int))*(2*x.natAbs)=4*((x.natAbs:Int)*x.natAbs):=by grind
 omega
def Pd.sized_up(h:Pd A n){D:Int}{r:Nat}(f:r<n)(a:∀k,k<=r->det (k+1) A<=D)(c:∀j,j<r->iR A r j):∀(i k:Nat),k+i=r->4*cX A k i i<=det k A*((i+4:Nat)*D)
 | 0,k,g=>by
  rw[dd];have b:=a k om;have l:=h.pos k om;have m:=h.pos (k+1) om;have o:=cB (om:1<=det k A) (om:0<=D)
  have p:det k A*(((0+4:Nat):Int)*D)=4*(det k A*D):=by
   rw[show((0+4:Nat):Int)=4 from rfl];grind
  omega
 | i+1,k,g=>by
  have e:=h.stg_rec (k:=k) (i:=i) om;have ih:=h.sized_up f a c i (k+1) om;have q:=h.pos k om;have b:=h.pos (k+1) om;have d:=sR (c k om);unfold kZ at d;rw[(om:r-k=i+1)]at d
  have l:=a k om;have m:=ca ih (cC q);refine jM ?_ b;have o:det k A*(det (k+1) A*((i+4:Nat)*D))+det (k+1) A*det (k+1) A<=det (k+1) A*(det k A*((i+1+4:Nat)*D)):=by
   have p:det (k+1) A*(det k A*((i+1+4:Nat)*D))=det k A*(det (k+1) A*((i+4:Nat)*D))+det (k+1) A*(det k A*D):=by
    rw[show((i+1+4:Nat):Int)=((i+4:Nat):Int)+1 by omega];grind
   have s:det (k+1) A*det (k+1) A<=det (k+1) A*(det k A*D):=by
    refine ca ?_ (cC b);have t:=cB (om:1<=det k A) (om:0<=D)
    omega
   omega
  have u:det k A*(4*cX A (k+1) i i)=4*(det k A*cX A (k+1) i i):=by grind
  have v:det (k+1) A*(4*cX A k (i+1) (i+1))=4*(det (k+1) A*cX A k (i+1) (i+1)):=by grind
  omega
def Pd.sized_norm4(h:Pd A n){D:Int}{r:Nat}(a:r<n)(b:∀k,k<=r->det (k+1) A<=D)(c:∀j,j<r->iR A r j):4*A r r<=(r+4:Nat)*D:=by
 have:=h.sized_up a b c r 0 om;rw[gZ]at this;simpa [det]using this
def Pd.sized_norm(h:Pd A n){D:Int}{r:Nat}(b:r<n)(a:∀k,k<=r->det (k+1) A<=D)(c:∀j,j<r->iR A r j):A r r<=(r+1:Nat)*D:=by
 have d:=h.sized_norm4 b a c;have e:det 1 A<=D:=a 0 om;have f:=h.pos 1 om;have g:((r+4:Nat):Int)*D<=((4*(r+1):Nat):Int)*D:=cB om om;have i:((4*(r+1):Nat):Int)*D=4*(((r+1:Nat):Int)*D):=by
  rw[bF];grind
 omega

def qS(k c i:Nat):up k (fun _=>c) i=if i<k then i else k+c:=rfl
def mA(A:aH)(i j:Nat)(q:Int):aH:=fun a b=>A a b+(if a=i then q*A j b else 0)+(if b=i then q*A a j else 0)+(if a=i/\b=i then q*q*A j j else 0)
def rO(A:aH){i j a b:Nat}{q:Int}(c:a≠i)(d:b≠i):mA A i j q a b=A a b:=by simp[mA,c,d]
def Ge(A:aH){i j b:Nat}{q:Int}(a:b≠i):mA A i j q i b=A i b+q*A j b:=by simp[mA,a]
def kO(l:j<i)(k:Nat):det k (mA A i j q)=det k A:=by
 rcases aF i k with c|c
 .have e:=lU A (n:=k) (i:=i) (k:=j) c om om 1 q;have d:=qA (setRow A i (fun b=>1*A i b+q*A j b)) (n:=k) (i:=i) (k:=j) c om om 1 q;rw[e]at d;rw[dG,dG]at d;rw[<-d];refine bI fun a b _ _=>?_;simp only[mA,cb,setRow];have f:j≠i:=om
  by_cases g:a=i<;>by_cases h:b=i<;>simp[g,h]<;>grind
 .exact bI fun a b m o=>rO A om om
def xW{i':Nat}(d:i'<i)(c:j'<=i'):kZ (mA A i j q) i' j'=kZ A i' j':=by
 unfold kZ cX;refine bI fun a b e f=>?_;exact rO A (by rw[qS];split<;>omega) (by rw[qS];split<;>omega)
def Gf(l:j<j')(g:j'<i):kZ (mA A i j q) i j'=kZ A i j':=by
 have f:=lU (fun a b=>A (up j' (fun _=>i-j') a) (up j' (fun _=>0) b)) (n:=j'+1) (i:=j') (k:=j) om om om 1 q;rw[dG]at f;unfold kZ cX;rw[<-f];refine bI fun a b m o=>?_;simp only[setRow];have c:up j' (fun _=>0) b≠i:=by rw[qS];split<;>omega
 by_cases e:a=j'
 .subst e;have d:up a (fun _=>i-a) a=i:=by rw[qS];rw[af om];omega
  have h:up a (fun _=>i-a) j=j:=by rw[qS];rw[ah om]
  rw[d,h,Ge A c];simp
 .have d:up j' (fun _=>i-j') a=a:=by rw[qS];rw[ah om]
  rw[d,rO A om c,af e]
def Gg(m:j<i):kZ (mA A i j q) i j=kZ A i j+q*det (j+1) A:=by
 have g:=qz (fun a b=>A (up j (fun _=>i-j) a) (up j (fun _=>0) b)) (n:=j+1) (i:=j) om 1 q (fun b=>A i (up j (fun _=>0) b)) (fun b=>A j (up j (fun _=>0) b));unfold kZ cX;have k:det (j+1) (setRow (fun a b=>A (up j (fun _=>i-j) a) (up j (fun _=>0) b)) j (fun b=>A i (up j (fun _=>0) b)))=det (j+1) (fun a b=>A (up j (fun _=>i-j) a) (up j (fun _=>0) b)):=by
  refine bI fun a b h d=>?_;simp only[setRow];by_cases e:a=j
  .subst e;rw[ah rfl];congr 1;rw[qS];rw[af om];omega
  .rw[af e]
 have l:det (j+1) (setRow (fun a b=>A (up j (fun _=>i-j) a) (up j (fun _=>0) b)) j (fun b=>A j (up j (fun _=>0) b)))=det (j+1) A:=by
  refine bI fun a b h d=>?_;simp only[setRow];rw[pC j b d];by_cases e:a=j
  .subst e;rw[ah rfl]
  .rw[af e];congr 1;rw[qS];rw[ah om]
 rw[k,l,dG]at g;rw[<-g];refine bI fun a b h d=>?_;simp only[setRow];have c:up j (fun _=>0) b≠i:=by rw[qS];split<;>omega
 by_cases e:a=j
 .subst e;have f:up a (fun _=>i-a) a=i:=by rw[qS];rw[af om];omega
  rw[f,Ge A c,ah rfl];simp
 .have f:up j (fun _=>i-j) a=a:=by rw[qS];rw[ah om]
  rw[f,rO A om c,af e]
def EH(A:aH)(i:Nat):aH:=fun a b=>A (dX (i-1) i a) (dX (i-1) i b)
def oL(j:0<i)(l:k≠i):det k (EH A i)=det k A:=by
 rcases aF i k with h|h
 .have d:=Dd (fun a b=>A a (dX (i-1) i b)) (n:=k) (i:=i-1) (k:=i) om h om;have f:=oK A (n:=k) (i:=i-1) (k:=i) om h om;show det k (fun a b=>(fun a b=>A a (dX (i-1) i b)) (dX (i-1) i a) b)=_;rw[d,f];omega
 .refine bI fun a b c g=>?_;have e:∀a,a<k->dX (i-1) i a=a:=fun a c=>by unfold dX;rw[af om,af om]
  simp only[EH];rw[e a c,e b g]
def xB(f:0<i):det i (EH A i)=cX A (i-1) 1 1:=by
 unfold cX;rw[(om:i-1+1=i)]
 refine bI fun a b c d=>?_;have e:∀a,a<i->dX (i-1) i a=up (i-1) (fun _=>1) a:=fun a c=>by
  rw[qS];unfold dX;by_cases h:a=i-1
  .rw[ah h,af om];omega
  .rw[af h,af om,ah om]
 simp only[EH];rw[e a c,e b d]
def Pd.swap_lead(h:Pd A n){i:Nat}(a:0<i)(b:i<n):det i A*det i (EH A i)=det (i-1) A*det (i+1) A+kZ A i (i-1)*kZ A i (i-1):=by
 have e:=h.stg_rec (k:=i-1) (i:=0) om;rw[xB a];unfold kZ;rw[(om:i-(i-1)=1)]
 rw[(om:i-1+1=i),az,dd]at e
 exact e
def Pd.add(h:Pd A n){i j:Nat}{q:Int}(e:j<i)(m:i<n):Pd (mA A i j q) n:=by
 refine⟨fun a b c d=>?_,fun k f=>by rw[kO e];exact h.pos k f⟩
 have o:=h.sym a b c d;have p:=h.sym j a om c;have r:=h.sym j b om d;simp only[mA];by_cases g:a=i<;>by_cases l:b=i<;>simp[g,l]<;>grind
def Pd.swap(h:Pd A n){i:Nat}(c:0<i)(l:i<n):Pd (EH A i) n:=by
 have d:∀a,a<n->dX (i-1) i a<n:=fun a f=>by unfold dX;split<;>(try split)<;>omega
 refine⟨fun a b f g=>h.sym _ _ (d a f) (d b g),fun k j=>?_⟩;by_cases e:k=i
 .subst e;rw[xB c];exact h.stg_pos 1 (k-1) om
 .rw[oL c e];exact h.pos k j
def B9(h:Pd A n){i:Nat}(b:0<i)(c:i<n)(a:¬iH A i):4*det i (EH A i)<3*det i A:=by
 unfold iH at a;rw[<-h.swap_lead b c]at a;have d:=h.pos i om;have e:det i A*(4*det i (EH A i))<det i A*(3*det i A):=by
  have f:det i A*(4*det i (EH A i))=4*(det i A*det i (EH A i)):=by grind
  have g:det i A*(3*det i A)=3*(det i A*det i A):=by grind
  omega
 exact Int.lt_of_mul_lt_mul_left e (cC d)
open Classical in
noncomputable def pa(p:Nat->Prop):Nat->Nat
 | 0=>0
 | w+1=>if (∀c,c<=w->p c)then w+1 else pa p w
theorem Cx(p:Nat->Prop):∀w,pa p w<=w
 | 0=>by simp[pa]
 | w+1=>by have:=Cx p w;simp only[pa];split<;>omega
theorem wC{p:Nat->Prop}{k:Nat}(h:∀c,c<k->p c):∀w,k<=w->k<=pa p w
 | 0,a=>om
 | w+1,a=>by
  simp only[pa];split
  .exact a
  .rename_i d;rcases aF w k with b|b
   .exact absurd (fun c e=>h c om) d
   .exact wC h w b
theorem tH{p:Nat->Prop}{k:Nat}(h:¬p k):∀w,pa p w<=k
 | 0=>by simp[pa]
 | w+1=>by
  simp only[pa];split
  .rename_i b;rcases aF w k with a|a
   .omega
   .exact absurd (b k a) h
  .exact tH h w
def chk(A:aH)(n c:Nat):Prop:=(c%(n+1)<c/(n+1)->iR A (c/(n+1)) (c/(n+1)-1-c%(n+1)))/\(c%(n+1)=c/(n+1)->0<c/(n+1)->iH A (c/(n+1)))
def Og(a:t<n+1):(i*(n+1)+t)/(n+1)=i:=by
 rw[aA,k9 om,eY a];omega
def Of(a:t<n+1):(i*(n+1)+t)%(n+1)=t:=by
 rw[aA,m9,ef a]
def F5(a:t<n+1):chk A n (i*(n+1)+t)↔(t<i->iR A i (i-1-t))/\(t=i->0<i->iH A i):=by
 unfold chk;rw[Og a,Of a]
def kh(A:aH)(i:Nat):Prop:=(∀r,r<i->∀j,j<r->iR A r j)/\∀r,0<r->r<i->iH A r
def CE(d:kh A i)(f:∀j,i<j+1+t->j<i->iR A i j)(g:t<=i)(k:i<n){c:Nat}(l:c<i*(n+1)+t):chk A n c:=by
 have m:c/(n+1)<=i:=by
  rcases aF i (c/(n+1))with h|h
  .have b:=Nat.div_mul_le_self c (n+1);have a:(i+1)*(n+1)<=c/(n+1)*(n+1):=aD _ h;rw[dl]at a;omega
  .exact h
 rcases aF (c/(n+1)) i with h|h
 .refine⟨fun b=>d.1 _ h _ om,fun b a=>d.2 _ a h⟩
 .have e:c/(n+1)=i:=om
  have b:c%(n+1)<t:=by
   have:=dz c (n+1);rw[e,aA]at this;omega
  unfold chk;rw[e];exact⟨fun a=>f _ om om,fun a=>om⟩

def oi:Nat->(Nat->Nat)->Nat
 | 0,_=>1
 | n+1,f=>oi n f*f n
def uq{f:Nat->Nat}(h:∀i,i<n->f i=g i):oi n f=oi n g:=by
 induction n with
 | zero=>rfl
 | succ n ih=>simp only[oi];rw[ih fun i a=>h i om,h n om]
def Hl{f:Nat->Nat}(h:∀i,i<n->0<f i):0<oi n f:=by
 induction n with
 | zero=>simp[oi]
 | succ n ih=>simp only[oi];exact IR (ih fun i a=>h i om) (h n om)
def Fs{f:Nat->Nat}(d:i<n)(h:∀k,k<n->k≠i->g k=f k)(b:4*g i<=3*f i):4*oi n g<=3*oi n f:=by
 induction n with
 | zero=>omega
 | succ n ih =>
  simp only[oi];rcases aF i n with a|a
  .rw[h n om om,<-bB,<-bB];exact aD _ (ih a fun k c=>h k om)
  .obtain rfl:i=n:=om
   rw[uq (f:=g) (g:=f) fun k c=>h k om om,Vl,Vl 3];exact aL _ b
def PR(A:aH)(n:Nat):Nat:=oi n (fun k=>(det k A).toNat)
noncomputable def lP(A:aH)(n:Nat):Nat:=pa (chk A n) (n*(n+1))
noncomputable def wx(A:aH)(n:Nat):Nat:=PR A n*(n*(n+1)+1)+(n*(n+1)-lP A n)
def zV(A:aH)(n:Nat):lP A n<=n*(n+1):=Cx _ _
def Pd.pot_pos(h:Pd A n):0<PR A n:=Hl fun k a=>by have:=h.pos k om;omega
def PQ(a:j<i):PR (mA A i j q) n=PR A n:=uq fun k _=>by rw[kO a]
def Nd(h:Pd A n)(a:0<i)(b:i<n)(c:¬iH A i):4*PR (EH A i) n<=3*PR A n:=by
 refine Fs b (fun k _ d=>by rw[oL a d]) ?_
 have e:=B9 h a b c;have f:=(h.swap a b).pos i om;omega
def KX(b:j<i)(g:i<n)(k:kh A i)(m:∀j',j<j'->j'<i->iR A i j')(o:¬iR A i j)(p:2*((kZ A i j+q*det (j+1) A).natAbs:Int)<=det (j+1) A) :
  lP A n<lP (mA A i j q) n:=by
 have v:lP A n<=i*(n+1)+(i-1-j):=by
  refine tH ?_ _;rw[F5 om];intro h;have:=h.1 om;rw[(om:i-1-(i-1-j)=j)]at this
  exact o this
 have w:i*(n+1)+(i-1-j)+1<=n*(n+1):=by
  have:(i+1)*(n+1)<=n*(n+1):=aD _ g;rw[dl]at this;omega
 have d:kh (mA A i j q) i:=by
  refine⟨fun r a s e=>?_,fun r t a=>?_⟩
  .have:=k.1 r a s e;unfold iR at *;rw[xW a om,kO b];exact this
  .have:=k.2 r t a;unfold iH at *;rw[xW a om,kO b,kO b,kO b];exact this
 have x:i*(n+1)+(i-j)<=lP (mA A i j q) n:=by
  refine wC (fun c u=>CE d (fun j' y l=>?_) om g u) _ om;unfold iR;rw[kO b];rcases aF j j' with f|f
  .rw[Gf f l];exact m j' f l
  .obtain rfl:j'=j:=om
   rw[Gg b];exact p
 omega
def Nu(a:j<i)(b:lP A n<lP (mA A i j q) n):wx (mA A i j q) n<wx A n:=by
 unfold wx;rw[PQ a];have c:=zV (mA A i j q) n;omega
def K9(h:Pd A n)(a:0<i)(b:i<n)(c:¬iH A i):wx (EH A i) n<wx A n:=by
 unfold wx;have e:=Nd h a b c;have f:=h.pot_pos;have d:(PR (EH A i) n+1)*(n*(n+1)+1)<=PR A n*(n*(n+1)+1):=aD _ om;rw[dl]at d;omega

def iY{a b:Nat}(h:a<=b):(2:Int)^a<=2^b:=by
 have:=cu (n:=2) om h;have c:((2^a:Nat):Int)<=((2^b:Nat):Int):=l7.2 this;simpa using c

structure Kg(H:aH)(n:Nat):Prop where
 pd:Pd H n
 rows:kh H n
 lead:∀k,k<=n->det k H<=59049
def Kg.diag(h:Kg H n)(c:n<=5){i:Nat}(a:i<n):H i i<=118098:=by
 have d:=h.pd.sized_norm4 (D:=59049) a (fun k e=>h.lead (k+1) om) (fun j b=>h.rows.1 i a j b);omega
def wb{B:Int}(b:0<=B)(h:x*x<=B*B):x.natAbs<=B:=by
 rcases l9 B x.natAbs with a|a
 .exfalso;have c:(B+1)*(B+1)<=(x.natAbs:Int)*x.natAbs:=da om om om om;have d:((x.natAbs:Nat):Int)*x.natAbs=x*x:=by rw[<-bF,mg]
  have e:(B+1)*(B+1)=B*B+2*B+1:=by grind
  omega
 .exact a
def Kg.entry(h:Kg H n)(b:n<=5){i j:Nat}(c:i<n)(a:j<n):((H i j).natAbs:Int)<=118098:=by
 have f:=h.pd.cs0 c a;have d:=h.diag b c;have e:=h.diag b a;have g:=da d e (cC (h.pd.diag a)) om;exact wb om om
def JM{l d:Int}(b:0<d):2*((l+-((2*l+d)/(2*d))*d).natAbs:Int)<=d:=by
 have c:=aT (2*l+d) (om:2*d≠0)
 have e:=aP (2*l+d) (om:0<2*d)
 have f:=eB (2*l+d) (2*d);generalize hq:(2*l+d)/(2*d)=q at *;have g:2*d*q=2*(q*d):=by grind
 have a:-q*d=-(q*d):=by grind
 rw[a];omega

abbrev ig:=Nat->Int
variable{L:ig->Prop}
def fC(n m:Nat)(B:aH)(x:ig):Prop:=∃c:ig,∀i,i<n->x i=aq m (fun j=>B i j*c j)
structure O8(n:Nat)(L:ig->Prop):Prop where
 zero:L (fun _=>0)
 comb:∀x y:ig,L x->L y->∀a b:Int,L (fun i=>a*x i+b*y i)
 ext:∀x y:ig,L x->(∀i,i<n->x i=y i)->L y
def O8.smul(h:O8 n L){x:ig}(b:L x)(a:Int):L (fun i=>a*x i) :=
 h.ext _ _ (h.comb x x b b a 0) (fun i _=>by simp)
def O8.add(h:O8 n L){x y:ig}(a:L x)(b:L y):L (fun i=>x i+y i) :=
 h.ext _ _ (h.comb x y a b 1 1) (fun i _=>by simp)
def O8.sum(h:O8 n L)(C:Nat->ig)(c:ig):∀m,(∀j,j<m->L (C j))->L (fun i=>aq m (fun j=>C j i*c j))
 | 0,_=>h.ext _ _ h.zero (fun i _=>by simp[aq])
 | m+1,a=>h.ext _ _ (h.comb _ _ (h.sum C c m fun j b=>a j om) (a m om) 1 (c m)) (fun i _=>by simp only[aq];grind)
def KK(m:Nat)(a b:Int)(B:Nat->Int)(c d:ig):aq m (fun j=>B j*(a*c j+b*d j))=a*aq m (fun j=>B j*c j)+b*aq m (fun j=>B j*d j):=by
 rw[<-pE];exact aB fun j _=>by grind
def fC.lat(n m:Nat)(B:aH):O8 n (fC n m B):=by
 refine⟨⟨fun _=>0,fun i _=>(iP fun j _=>by simp).symm⟩,?_,?_⟩
 .rintro x y ⟨c,f⟩ ⟨d,g⟩ a b;exact⟨fun j=>a*c j+b*d j,fun i e=>by show a*x i+b*y i=_;rw[f i e,g i e,KK]⟩
 .rintro x y ⟨c,f⟩ h;exact⟨c,fun i e=>by rw[<-h i e];exact f i e⟩
def fC.col(a:j<m):fC n m B (fun i=>B i j) :=
 ⟨du j,fun i _=>by
  rw[cJ j a (fun k _ b=>by simp[du,b])];simp[du]⟩
def fC.sub(a:O8 n L)(h:∀j,j<m->L (fun i=>B i j)){x:ig}(b:fC n m B x):L x:=by
 obtain⟨c,d⟩:=b;exact a.ext _ _ (a.sum (fun j i=>B i j) c m h) (fun i e=>(d i e).symm)
def lj(n:Nat)(A B:aH):Prop:=(∀x,fC n n A x↔fC n n B x)/\(det n A).natAbs=(det n B).natAbs
def lj.refl(n:Nat)(A:aH):lj n A A:=⟨fun _=>Iff.rfl,rfl⟩
def lj.trans{C:aH}(h:lj n A B)(k:lj n B C):lj n A C:=⟨fun x=>(h.1 x).trans (k.1 x),h.2.trans k.2⟩
def lj.of(a:∀j,j<n->fC n n A (fun i=>B i j))(b:∀j,j<n->fC n n B (fun i=>A i j))(c:(det n A).natAbs=(det n B).natAbs):lj n A B :=
 ⟨fun _=>⟨fC.sub (fC.lat n n B) b,fC.sub (fC.lat n n A) a⟩,c⟩
def KU(A:aH){i k:Nat}(f:i<n)(d:k<n)(a:i≠k)(c:Int):lj n A (cb A i (fun r=>A r i+c*A r k)):=by
 refine lj.of (fun j b=>?_) (fun j b=>?_) ?_
 .by_cases e:j=i
  .subst e;exact(fC.lat n n A).ext _ _ ((fC.lat n n A).comb _ _ (fC.col b) (fC.col d) 1 c) (fun r _=>by simp[cb])
  .exact(fC.lat n n A).ext _ _ (fC.col b) (fun r _=>by simp[cb,e])
 .by_cases e:j=i
  .subst e;refine(fC.lat n n _).ext _ _ ((fC.lat n n _).comb _ _ (fC.col (j:=j) b) (fC.col (j:=k) d) 1 (-c)) (fun r _=>?_);simp only[cb,aK,af (aj a)];grind
  .exact(fC.lat n n _).ext _ _ (fC.col (j:=j) b) (fun r _=>by simp[cb,e])
 .have h:=qA A f d a 1 c;rw[dG]at h;rw[<-h];simp only[dG]
def Hg(A:aH){i k:Nat}(g:i<n)(h:k<n)(d:i≠k):lj n A (fun a b=>A a (dX i k b)):=by
 have f:∀j,j<n->dX i k j<n:=fun j c=>by unfold dX;split<;>(try split)<;>omega
 have e:∀j,dX i k (dX i k j)=j:=fun j=>by unfold dX;grind
 refine lj.of (fun j c=>fC.col (f j c)) (fun j c=>?_) ?_
 .have:=fC.col (n:=n) (B:=fun a b=>A a (dX i k b)) (f j c);simpa only[e]using this
 .rw[oK A g h d];omega
def KV(A:aH){i:Nat}(b:i<n):lj n A (cb A i (fun r=>- A r i)):=by
 refine lj.of (fun j a=>?_) (fun j a=>?_) ?_
 .by_cases e:j=i
  .subst e;exact(fC.lat n n A).ext _ _ ((fC.lat n n A).smul (fC.col a) (-1)) (fun r _=>by simp[cb])
  .exact(fC.lat n n A).ext _ _ (fC.col a) (fun r _=>by simp[cb,e])
 .by_cases e:j=i
  .subst e;exact(fC.lat n n _).ext _ _ ((fC.lat n n _).smul (fC.col (j:=j) a) (-1)) (fun r _=>by simp[cb])
  .exact(fC.lat n n _).ext _ _ (fC.col (j:=j) a) (fun r _=>by simp[cb,e])
 .have h:=si A b (-1) 0 (fun r=>A r i) (fun r=>A r i);have e:cb A i (fun r=>-1*A r i+0*A r i)=cb A i (fun r=>- A r i):=by congr 1;funext r;omega
  rw[e,ky]at h;omega
def BC(A:aH)(h:∀j,0<j->j<n+1->A 0 j=0):det (n+1) A=A 0 0*det n (fun i j=>A (i+1) (j+1)):=by
 simp only[det];rw[cJ 0 om (fun j a b=>by rw[h j om a];simp)]
 simp only[zN,dG];congr 1
 all_goals (first|rfl|(exact bI fun i j _ _=>by simp[cut,skip]))
def gF:Nat->(Nat->Int)->Int
 | 0,_=>1
 | n+1,f=>f 0*gF n (fun i=>f (i+1))
def wU(n i:Nat)(A:aH):Prop:=∀r,r<i->(∀j,r<j->j<n->A r j=0)/\0<A r r
theorem qy{n:Nat}:∀(i:Nat) (A:aH),wU (n+i) i A->det (n+i) A=gF i (fun r=>A r r)*det n (fun r j=>A (r+i) (j+i))
 | 0,A,_=>by simp[gF]
 | i+1,A,h=>by
  rw[<-lk,BC A (fun j a b=>(h 0 om).1 j a om),qy i (fun r j=>A (r+1) (j+1)) (fun r c=>⟨fun j d e=>(h (r+1) om).1 (j+1) om om,(h (r+1) om).2⟩)];simp only[gF];rw[fK];rfl
def wt{f:Nat->Int}(h:∀i,i<n->0<f i):0<gF n f:=by
 induction n generalizing f with
 | zero=>simp[gF]
 | succ n ih=>simp only[gF];exact lM (h 0 om) (ih fun i a=>h (i+1) om)
def dN:Nat->(Nat->Int)->Nat
 | 0,_=>0
 | n+1,f=>dN n f+(f n).natAbs
def Oy{f g:Nat->Int}(b:k<n)(h:∀j,j<n->j≠k->f j=g j)(c:(f k).natAbs<(g k).natAbs):dN n f<dN n g:=by
 induction n with
 | zero=>omega
 | succ n ih =>
  simp only[dN];by_cases e:k=n
  .subst e;have:dN k f=dN k g:=by
    have key:∀m,m<=k->dN m f=dN m g:=by
     intro m
     induction m with
     | zero=>intro _;rfl
     | succ m a=>intro d;simp only[dN];rw[a om,h m om om]
    exact key k (ae _)
   omega
  .rw[h n om (aj e)];have:=ih om (fun j i=>h j om);omega
def FY(A:aH)(h:∀j,j<n+1->A 0 j=0):det (n+1) A=0:=by
 simp only[det];exact iP fun j a=>by rw[h j a];simp
def Pr(G:i<n):∀(m:Nat) (A:aH),dN n (fun j=>if i<=j then A i j else 0)=m->wU n i A->det n A≠0->∃B,lj n A B/\wU n (i+1) B:=by
 intro m
 induction m using Nat.strongRecOn with
 | ind m ih =>
  intro A K q L;by_cases z:∃d a,i<=d/\d<n/\i<=a/\a<n/\d≠a/\A i d≠0/\(A i d).natAbs<=(A i a).natAbs
  .obtain⟨d,a,C,u,v,s,t,w,y⟩:=z;have H:=KU A s u (aj t) (-(A i a/A i d));have D:(A i a+-(A i a/A i d)*A i d).natAbs<(A i a).natAbs:=by
    have e:A i a+-(A i a/A i d)*A i d=A i a%A i d:=by
     rw[SD];grind
    rw[e];have M:=aT (A i a) w;have N:=UY (A i a) w;omega
   have E:wU n i (cb A a (fun r=>A r a+-(A i a/A i d)*A r d)):=by
    refine fun r o=>⟨fun j g b=>?_,?_⟩
    .by_cases e:j=a
     .subst e;simp only[cb,aK];rw[(q r o).1 j g b,(q r o).1 d om u];simp
     .simp only[cb,e,aM];exact(q r o).1 j g b
    .simp only[cb];rw[af om];exact(q r o).2
   obtain⟨B,p,f⟩:=ih (dN n (fun j=>if i<=j then cb A a (fun r=>A r a+-(A i a/A i d)*A r d) i j else 0)) (by
     rw[<-K];refine Oy s (fun j _ g=>?_) ?_
     .simp[cb,g]
     .simp only[v,aK,cb];exact D) _ rfl E (by
     have:=H.2;intro l;rw[l]at this;omega)
   exact⟨B,H.trans p,f⟩
  .have F:∃c,i<=c/\c<n/\A i c≠0:=by
    rcases jq (∃c,i<=c/\c<n/\A i c≠0)with h|h
    .exact h
    .exfalso;refine L ?_;obtain⟨k,rfl⟩:∃k,n=k+1+i:=⟨n-i-1,om⟩
     rw[qy i A q,FY (n:=k) _ (fun j g=>?_),jZ];rcases jq (A (0+i) (j+i)=0)with l|l
     .exact l
     .exact absurd ⟨j+i,om,om,by rw[az]at l;exact l⟩ h
   obtain⟨c,C,u,v⟩:=F;have I:∀j,i<=j->j<n->j≠c->A i j=0:=by
    intro j s t w;rcases jq (A i j=0)with l|l
    .exact l
    .exfalso;rcases Nat.le_total (A i j).natAbs (A i c).natAbs with y|y
     .exact z ⟨j,c,s,t,C,u,w,l,y⟩
     .exact z ⟨c,j,C,u,s,t,aj w,v,y⟩
   have s:∃B,lj n A B/\wU n i B/\B i i≠0/\∀j,i<j->j<n->B i j=0:=by
    by_cases e:i=c
    .subst e;exact⟨A,lj.refl n A,q,v,fun j g b=>I j om b om⟩
    .refine⟨_,Hg A G u e,fun r o=>⟨fun j g b=>?_,?_⟩,?_,fun j g b=>?_⟩
     .have:r<dX i c j/\dX i c j<n:=by unfold dX;split<;>(try split)<;>omega
      exact(q r o).1 _ this.1 this.2
     .have:dX i c r=r:=by unfold dX;rw[af om,af om]
      show 0<A r (dX i c r);rw[this];exact(q r o).2
     .show A i (dX i c i)≠0;have:dX i c i=c:=by simp[dX]
      rw[this];exact v
     .show A i (dX i c j)=0;refine I _ ?_ ?_ ?_<;>(unfold dX;split<;>(try split)<;>omega)
   obtain⟨B,p,f,O,x⟩:=s;rcases l9 0 (B i i)with t|t
   .refine⟨B,p,fun r o=>?_⟩;by_cases e:r=i
    .subst e;exact⟨x,t⟩
    .exact f r om
   .refine⟨_,p.trans (KV B G),fun r o=>⟨fun j g b=>?_,?_⟩⟩
    .simp only[cb];by_cases e:r=i
     .subst e;rw[af om];exact x j g b
     .by_cases J:j=i
      .subst J;rw[ah rfl,(f r om).1 j g b];rfl
      .rw[af J];exact(f r om).1 j g b
    .simp only[cb];by_cases e:r=i
     .subst e;rw[ah rfl];omega
     .rw[af e];exact(f r om).2
def G6(A:aH)(f:det n A≠0):∃B,lj n A B/\wU n n B:=by
 have key:∀i,i<=n->∃B,lj n A B/\wU n i B:=by
  intro i
  induction i with
  | zero=>intro _;exact⟨A,lj.refl n A,fun r g=>om⟩
  | succ i ih =>
   intro h;obtain⟨B,a,b⟩:=ih om;obtain⟨C,c,d⟩:=Pr om _ B rfl b (by have:=a.2;intro e;rw[e]at this;omega)
   exact⟨C,a.trans c,d⟩
 exact key n (ae _)
def MJ(h:lj n A B)(b:wU n n B):((det n A).natAbs:Int)=gF n (fun r=>B r r):=by
 have a:=qy (n:=0) n B (by rw[az];exact b)
 rw[az]at a;simp only[det,iN]at a;have d:=wt (n:=n) (f:=fun r=>B r r) (fun r c=>(b r c).2);rw[h.2,a];omega





def lG(n:Nat)(f:Nat->Int):aq (n+1) f=f 0+aq n (fun j=>f (j+1)):=by
 induction n with
 | zero=>simp[aq]
 | succ n ih=>rw[aq,ih];simp only[aq];omega
def jg{f:Nat->Int}(a:∀i,i<n->h∣f i):h∣aq n f:=by
 induction n with
 | zero=>exact jp _
 | succ n ih=>simp only[aq];exact iO (ih fun i b=>a i om) (a n om)
def lF(n:Nat)(f g:Nat->Int):aq n (fun i=>f i-g i)=aq n f-aq n g:=by
 induction n with
 | zero=>rfl
 | succ n ih=>simp only[aq];rw[ih];omega
def wa(n:Nat)(f:Nat->Int):aq n (fun i=>- f i)=- aq n f:=by
 induction n with
 | zero=>rfl
 | succ n ih=>simp only[aq];rw[ih];omega
def Ff(n:Nat)(c:Int):aq n (fun _=>c)=n*c:=by
 induction n with
 | zero=>simp[aq]
 | succ n ih=>simp only[aq];rw[ih];grind
def nk(d:Nat)(c:Nat->Int)(x:Int):Int:=aq d (fun i=>c i*x^i)
def JH{N:Nat}(h:∀i,d<=i->c i=0)(a:d<=N)(x:Int):nk N c x=nk d c x:=by
 induction N with
 | zero=>rw[(om:d=0)]
 | succ N ih =>
  by_cases e:d=N+1
  .rw[e]
  .simp only[nk,aq];rw[h N om];simp only[nk]at ih;rw[ih om];omega
def r8(d:Nat)(c:Nat->Int)(x:Int):nk (d+1) c x=c 0+x*nk d (fun i=>c (i+1)) x:=by
 simp only[nk];rw[lG,<-df];congr 1
 .simp
 .exact aB fun i _=>by rw[gC];grind
theorem sP:∀(d:Nat) (c:Nat->Int),(∀x:Int,1<=x->nk d c x=0)->∀i,i<d->c i=0
 | 0,_,_,_,b=>om
 | d+1,c,h,i,b=>by
  have f:c 0=0:=by
   have a:=h ((c 0).natAbs+1) om;rw[r8]at a;have g:(((c 0).natAbs:Int)+1)∣c 0:=⟨- nk d (fun i=>c (i+1)) ((c 0).natAbs+1),by rw[nB];omega⟩
   have j:=oI.2 g;rcases bn (c 0).natAbs with e|e
   .omega
   .have l:=BM e j;omega
  have a:∀x:Int,1<=x->nk d (fun i=>c (i+1)) x=0:=by
   intro x k;have a:=h x k;rw[r8,f,EK]at a;rcases fZ.1 a with e|e
   .omega
   .exact e
  match i,b with
  | 0,_=>exact f
  | i+1,b=>exact sP d (fun i=>c (i+1)) a i om
def JE(d:Nat)(c e:Nat->Int)(x:Int):nk d (fun i=>c i-e i) x=nk d c x-nk d e x:=by
 simp only[nk];rw[<-lF];exact aB fun i _=>by rw[Int.sub_mul]
def PT(d:Nat)(c e:Nat->Int)(x:Int):nk d (fun i=>c i+e i) x=nk d c x+nk d e x:=by
 simp only[nk];rw[<-eE];exact aB fun i _=>by rw[yX]
def JG(d:Nat)(a:Int)(c:Nat->Int)(x:Int):nk d (fun i=>a*c i) x=a*nk d c x:=by
 simp only[nk];rw[<-df];exact aB fun i _=>by rw[fK]
def Ft{e:Nat->Int}(h:∀x,nk d c x=nk d e x){i:Nat}(a:i<d):c i=e i:=by
 have:=sP d (fun i=>c i-e i) (fun x _=>by rw[JE,h x];omega) i a
 omega
def JD(d n:Nat)(c:Nat->Nat->Int)(x:Int):nk d (fun i=>aq n (fun j=>c j i)) x=aq n (fun j=>nk d (c j) x):=by
 simp only[nk];rw[qi];refine aB fun i _=>?_;rw[ck,<-df];exact aB fun j _=>by rw[ck]
def UA(c:Nat->Int):Nat->Int
 | 0=>0
 | i+1=>c i
def JF(d:Nat)(c:Nat->Int)(x:Int):nk (d+1) (UA c) x=x*nk d c x:=by
 rw[r8];show 0+x*nk d c x=_;omega
def sD(d:Nat)(f:Int->Int):Prop:=∃c:Nat->Int,(∀i,d<=i->c i=0)/\∀x,f x=nk d c x
def sD.mono{e:Nat}(h:sD d f)(b:d<=e):sD e f:=by
 obtain⟨c,a,g⟩:=h;exact⟨c,fun i j=>a i om,fun x=>by rw[g x,JH a b]⟩
def sD.add{g:Int->Int}(h:sD d f)(k:sD d g):sD d (fun x=>f x+g x):=by
 obtain⟨c,b,j⟩:=h;obtain⟨e,l,m⟩:=k;exact⟨fun i=>c i+e i,fun i a=>by simp only;rw[b i a,l i a];rfl,fun x=>by rw[PT,<-j x,<-m x]⟩
def sD.smul(h:sD d f)(a:Int):sD d (fun x=>a*f x):=by
 obtain⟨c,b,e⟩:=h;exact⟨fun i=>a*c i,fun i g=>by simp only;rw[b i g,jZ],fun x=>by rw[JG,<-e x]⟩
def sD.xmul(h:sD d f):sD (d+1) (fun x=>x*f x):=by
 obtain⟨c,b,e⟩:=h;refine⟨UA c,fun i a=>?_,fun x=>by rw[JF,<-e x]⟩
 match i,a with
 | i+1,a=>exact b i om
def sD.zero(d:Nat):sD d (fun _=>0):=⟨fun _=>0,fun _ _=>rfl,fun x=>by
 simp only[nk];rw[iP];intro i _;rw[kU]⟩
theorem sD.sum{d:Nat}:∀{n:Nat} {f:Nat->Int->Int},(∀j,j<n->sD d (f j))->sD d (fun x=>aq n (fun j=>f j x))
 | 0,_,_=>by simp only[aq];exact sD.zero d
 | n+1,f,h=>by simp only[aq];exact(sD.sum fun j a=>h j om).add (h n om)
def sD.congr{g:Int->Int}(h:sD d f)(e:∀x,g x=f x):sD d g:=by
 obtain⟨c,a,b⟩:=h;exact⟨c,a,fun x=>(e x).trans (b x)⟩
def sD.lin(h:sD d f)(a b:Int):sD (d+1) (fun x=>(a+b*x)*f x) :=
 (((h.smul a).mono om).add (h.xmul.smul b)).congr fun x=>by grind
def O1:Nat->(Nat->Bool)->Nat
 | 0,_=>0
 | n+1,R=>(if R 0 then 0 else 1)+O1 n (fun i=>R (i+1))
theorem DV:∀(n:Nat) (R:Nat->Bool) (a b:aH),(∀i,R i=true->∀j,b i j=0)->sD (1+O1 n R) (fun x=>det n (fun i j=>a i j+b i j*x))
 | 0,R,a,b,_=>⟨fun i=>if i=0 then 1 else 0,fun i c=>by simp only[O1]at c;exact af om,fun x=>by simp[det,O1,nk,aq]⟩
 | n+1,R,a,b,h=>by
  simp only[det,O1];refine sD.sum fun j _=>?_;have ih:=DV n (fun i=>R (i+1)) (cut a j) (cut b j) (fun i c k=>h (i+1) c _);have e:∀x:Int,cut (fun i j=>a i j+b i j*x) j=fun i k=>cut a j i k+cut b j i k*x:=fun x=>rfl
  cases d:R 0 with
  | true =>
   refine((ih.smul (nF j*a 0 j)).congr fun x=>?_).mono sm
   rw[e x,h 0 d j];grind
  | false =>
   refine((ih.lin (nF j*a 0 j) (nF j*b 0 j)).congr fun x=>?_).mono (by simp;omega)
   rw[e x];grind
theorem JZ:∀(n:Nat) (R:Nat->Bool),O1 n R<=n
 | 0,_=>ae _
 | n+1,R=>by have:=JZ n (fun i=>R (i+1));simp only[O1];split<;>omega
theorem DR:∀(n:Nat) (R:Nat->Bool) (i:Nat),i<n->R i=true->O1 n R+1<=n
 | n+1,R,0,_,h=>by have:=JZ n (fun i=>R (i+1));simp only[O1,h,aK];omega
 | n+1,R,i+1,a,h=>by have:=DR n (fun i=>R (i+1)) i om h;simp only[O1];split<;>omega
def cm(M:aH)(x:Int):aH:=fun i j=>- M i j+(if i=j then 1 else 0)*x
theorem F3:∀(n:Nat) (M:aH),sD n (fun x=>det n (cm M x)-x^n)
 | 0,M=>⟨fun _=>0,fun _ _=>rfl,fun x=>by simp[det,nk,aq]⟩
 | n+1,M=>by
  have ih:=F3 n (fun i j=>M (i+1) (j+1));have c:sD (n+1) (fun x=>x^n):=⟨fun i=>if i=n then 1 else 0,fun i a=>af om,fun x=>by
   simp only[nk];rw[cJ n om (fun i _ a=>by rw[af a,kU])];simp⟩
  have b:∀j,j<n->sD (n+1) (fun x=>nF (j+1)*cm M x 0 (j+1)*det n (cut (cm M x) (j+1))):=by
   intro j b;have d:=DV n (fun i=>decide (i=j)) (cut (fun i j=>- M i j) (j+1)) (cut (fun i j=>if i=j then 1 else 0) (j+1)) (fun i a k=>by
    simp only[dj]at a;subst a;simp only[cut];exact af (by unfold skip;split<;>omega))
   have l:=DR n (fun i=>decide (i=j)) j b sm
   refine((d.smul (nF (j+1)*- M 0 (j+1))).mono om).congr fun x=>?_;have e:cm M x 0 (j+1)=- M 0 (j+1):=by simp[cm]
   rw[e];rfl
  have f:=sD.sum b;refine(((ih.lin (- M 0 0) 1).add (c.smul (- M 0 0))).add f).congr fun x=>?_;simp only[det];rw[lG];have g:cut (cm M x) 0=cm (fun i j=>M (i+1) (j+1)) x:=by
   funext i k;simp[cut,cm,skip]
  have h:cm M x 0 0=- M 0 0+x:=by simp[cm]
  rw[g,h,zN,gC]
  grind
def TG(M:aH){i:Nat}(d:i<n)(j:Nat):sD n (fun x=>qa n (cm M x) i j):=by
 have f:=DV n (fun k=>decide (k=i)) (setRow (fun i j=>- M i j) i (du j)) (fun a b=>if a=i then 0 else if a=b then 1 else 0) (fun k c b=>by
  simp only[dj]at c;simp[c])
 have g:=DR n (fun k=>decide (k=i)) i d sm
 refine(f.mono om).congr fun x=>?_;unfold qa;congr 1;funext a b;simp only[setRow,cm];by_cases e:a=i
 .simp[e]
 .simp[e]
theorem uQ{h:Int}:∀(n:Nat) (B C:aH),(∀i j,h∣B i j-C i j)->h∣det n B-det n C
 | 0,_,_,_=>by simp[det]
 | n+1,B,C,a=>by
  simp only[det];rw[<-lF];refine jg fun j _=>?_;obtain⟨u,d⟩:=uQ n (cut B j) (cut C j) (fun i k=>a _ _);obtain⟨v,e⟩:=a 0 j;refine⟨nF j*(B 0 j*u+v*det n (cut C j)),?_⟩;have b:det n (cut B j)=det n (cut C j)+h*u:=om
  have c:B 0 j=C 0 j+h*v:=om
  rw[b,c];grind
def dg(A:aH)(h:Int)(m:Nat):aH:=fun i j=>A i j+(if i<m/\i=j then h else 0)
theorem Oa(n:Nat)(A:aH)(h:Int):∀m,m<=n->h*h∣det n (dg A h m)-det n A-h*aq m (fun i=>qa n A i i)
 | 0,_=>by
  have:dg A h 0=A:=by funext i j;simp[dg]
  rw[this];simp[aq]
 | m+1,d=>by
  obtain⟨q,f⟩:=Oa n A h m om;have b:dg A h (m+1)=setRow (dg A h m) m (fun j=>dg A h m m j+h*du m j):=by
   funext i j;simp only[dg,setRow,du];by_cases e:i=m
   .subst e;by_cases a:i=j
    .subst a;simp
    .simp[a,aj a]
   .simp only[e,aM];congr 1;by_cases a:i<m
    .simp[a,(om:i<m+1)]
    .simp[a,(om:¬i<m+1)]
  have a:det n (dg A h (m+1))=det n (dg A h m)+h*qa n (dg A h m) m m:=by
   rw[b,kD _ om,oS _ om,jK];rfl
  obtain⟨u,g⟩:=uQ (h:=h) n (setRow (dg A h m) m (du m)) (setRow A m (du m)) (fun i j=>by
   simp only[setRow,dg];split
   .simp
   .split
    .exact⟨1,om⟩
    .exact⟨0,om⟩)
  refine⟨q+u,?_⟩;have c:qa n (dg A h m) m m=qa n A m m+h*u:=by unfold qa;omega
  rw[a,c];simp only[aq];have:det n (dg A h m)=det n A+h*aq m (fun i=>qa n A i i)+h*h*q:=om
  rw[this];grind
theorem Jz(x h:Int):∀i:Nat,h*h∣(x+h)^i-x^i-h*(i*x^(i-1))
 | 0=>by simp
 | i+1=>by
  obtain⟨q,a⟩:=Jz x h i;refine⟨(x+h)*q+i*x^(i-1),?_⟩;have e:(x+h)^i=x^i+h*(i*x^(i-1))+h*h*q:=om
  rw[gC,e,gC];have b:(i:Int)*x^i=i*x^(i-1)*x:=by
   match i with
   | 0=>simp
   | i+1=>simp only[eT];rw[gC,fK]
  simp only[eT,eM,xh]
  grind
def UJ(c:Nat->Int):Nat->Int:=fun i=>(i+1)*c (i+1)
def PS(d:Nat)(c:Nat->Int)(x h:Int):h*h∣nk (d+1) c (x+h)-nk (d+1) c x-h*nk d (UJ c) x:=by
 have e:nk d (UJ c) x=aq (d+1) (fun i=>c i*(i*x^(i-1))):=by
  rw[lG];simp only[nk,UJ];rw[show c 0*(((0:Nat):Int)*x^(0-1))=0 by simp,EK]
  refine aB fun i _=>?_;simp only[eT,eM,xh];grind
 rw[e,<-df];simp only[nk];rw[<-lF,<-lF];refine jg fun i _=>?_;obtain⟨q,a⟩:=Jz x h i;exact⟨c i*q,by
  have e:(x+h)^i=x^i+h*(i*x^(i-1))+h*h*q:=om
  rw[e];grind⟩
def QP(h:∀k:Int,1<=k->k∣z):z=0:=by
 have a:=oI.2 (h (z.natAbs+1) om);rcases bn z.natAbs with e|e
 .omega
 .have b:=BM e a;omega
def mm(n:Nat)(A B:aH):aH:=fun i j=>aq n (fun k=>A i k*B k j)
def tr(n:Nat)(A:aH):Int:=aq n (fun i=>A i i)
def rG(n:Nat)(M:aH):Nat->aH
 | 0=>fun i j=>if i=j then 1 else 0
 | k+1=>fun i j=>mm n M (rG n M k) i j+(if i=j then tr n (mm n M (rG n M k))/(-((k+1:Nat):Int))else 0)
def Ql(B:1<=n)(M:aH):∃(a:Nat->Nat->Nat->Int) (χ:Nat->Int),χ n=1/\(∀i j,i<n->j<n->a i j n=0)
 /\(∀i r k,i<n->r<n->k<=n->UA (a i r) k-aq n (fun j=>M r j*a i j k)=if i=r then χ k else 0)
 /\(∀k,k<n->aq n (fun i=>a i i k)=(k+1)*χ (k+1))
 /\(∀i j,i<n->j<n->a i j 0=qa n (cm M 0) i j):=by
 have p:∀i j,∃c:Nat->Int,i<n->((∀k,n<=k->c k=0)/\∀x,qa n (cm M x) i j=nk n c x):=fun i j=>by
  by_cases b:i<n
  .obtain⟨c,h⟩:=TG M b j;exact⟨c,fun _=>h⟩
  .exact⟨fun _=>0,fun h=>absurd h b⟩
 obtain⟨a,d⟩:∃a:Nat->Nat->Nat->Int,∀i j,i<n->((∀k,n<=k->a i j k=0)/\∀x,qa n (cm M x) i j=nk n (a i j) x) :=
  ⟨fun i j=>(p i j).choose,fun i j=>(p i j).choose_spec⟩
 obtain⟨e,t,o⟩:=F3 n M;have hχ:∀x,det n (cm M x)=nk (n+1) (fun k=>if k=n then 1 else e k) x:=by
  intro x;have f:=o x;simp only[nk,aq]at f ⊢;rw[aB (g:=fun i=>e i*x^i) (fun i b=>by rw[af om]),<-f];simp
 refine⟨a,fun k=>if k=n then 1 else e k,sm,fun i j b _=>(d i j b).1 n (ae _),fun i r k b q s=>?_,fun k s=>?_,fun i j b l=>?_⟩
 .have key:∀x,nk (n+1) (fun k=>UA (a i r) k-aq n (fun j=>M r j*a i j k)) x=nk (n+1) (fun k=>if i=r then(if k=n then 1 else e k)else 0) x:=by
   intro x;have f:=uB (cm M x) b q;rw[JE,JF,JD (n+1) n (fun j k=>M r j*a i j k)];rw[aB (g:=fun j=>M r j*qa n (cm M x) i j) (fun j l=>by rw[JG,JH (d i j b).1 om,<-(d i j b).2 x])]
   rw[<-(d i r b).2 x];have w:aq n (fun j=>cm M x r j*qa n (cm M x) i j)=x*qa n (cm M x) i r-aq n (fun j=>M r j*qa n (cm M x) i j):=by
    rw[aB (g:=fun j=>(if r=j then x*qa n (cm M x) i j else 0)-M r j*qa n (cm M x) i j) (fun j _=>by simp only[cm];split<;>grind),lF]
    rw[cJ r q (fun j _ l=>by rw[af (aj l)])];simp
   rw[<-w,f];split
   .rw[hχ x]
   .simp only[nk];rw[iP];intro k _;rw[kU]
  exact Ft key om
 .have key:∀x,nk n (fun k=>aq n (fun i=>a i i k)) x=nk n (UJ (fun k=>if k=n then 1 else e k)) x:=by
   intro x;rw[JD n n (fun i k=>a i i k)];rw[aB (g:=fun i=>qa n (cm M x) i i) (fun i b=>by rw[<-(d i i b).2 x])]
   have:∀k:Int,1<=k->k∣aq n (fun i=>qa n (cm M x) i i)-nk n (UJ (fun k=>if k=n then 1 else e k)) x:=by
    intro h C;obtain⟨u,y⟩:=Oa n (cm M x) h n (ae _);obtain⟨v,D⟩:=PS n (fun k=>if k=n then 1 else e k) x h
    have z:det n (dg (cm M x) h n)=det n (cm M (x+h)):=bI fun i j b l=>by
     simp only[dg,cm];by_cases e:i=j
     .subst e;simp[b];omega
     .simp[e]
    rw[z,hχ,hχ]at y;refine⟨v-u,?_⟩;have A:h*(aq n (fun i=>qa n (cm M x) i i)-nk n (UJ (fun k=>if k=n then 1 else e k)) x)=h*(h*(v-u)):=by
     grind
    exact cL om A
   have:=QP this;omega
  exact Ft key s
 .rw[(d i j b).2 0];obtain⟨m,rfl⟩:∃m,n=m+1:=⟨n-1,om⟩
  rw[r8];omega
def nV(a:i<n)(f:Nat->Int):aq n (fun j=>(if i=j then 1 else 0)*f j)=f i:=by
 rw[cJ i a (fun j _ b=>by rw[af (aj b),kU])];simp
def Qk(p:1<=n)(M:aH):∀i j,i<n->j<n->rG n M (n-1) j i=qa n (cm M 0) i j:=by
 obtain⟨a,χ,q,s,h,t,u⟩:=Ql p M;have key:∀k,k<n->∀i j,i<n->j<n->rG n M k j i=a i j (n-1-k):=by
  intro k
  induction k with
  | zero =>
   intro _ i j b c;have d:=h i j n b c (ae _);rw[iP (fun k l=>by rw[s i k b l,jZ]),q]at d
   obtain⟨m,rfl⟩:∃m,n=m+1:=⟨n-1,om⟩
   simp only[UA]at d;simp only[rG,eT,d6];rw[show(if j=i then(1:Int)else 0)=if i=j then 1 else 0 by split<;>split<;>omega]
   omega
  | succ k ih =>
   intro l i j b c;have ih:=ih om;obtain⟨K,v⟩:∃K,n-1-k=K+1:=⟨n-2-k,om⟩
   have f:n-1-(k+1)=K:=om
   rw[f];rw[v]at ih;have o:∀i r,i<n->r<n->mm n M (rG n M k) r i=a i r K-(if i=r then χ (K+1)else 0):=by
    intro i r b w;have d:=h i r (K+1) b w om;simp only[UA]at d;simp only[mm];rw[aB (g:=fun j=>M r j*a i j (K+1)) (fun j c=>by rw[ih i j b c])]
    omega
   have x:tr n (mm n M (rG n M k))=-((k+1:Nat):Int)*χ (K+1):=by
    simp only[tr];rw[aB (g:=fun i=>a i i K - χ (K+1)) (fun i b=>by rw[o i i b b,ah rfl]),lF,t K om,Ff]
    have:(n:Int)=K+1+(k+1):=om
    rw[this];simp only[eM,xh];grind
   simp only[rG];rw[o i j b c,x,di _ om];by_cases e:i=j
   .subst e;simp
   .rw[af e,af (aj e)];omega
 intro i j b c;rw[key (n-1) om i j b c,cq,u i j b c]
def ke(n:Nat)(M:aH):aH:=fun i j=>if n%2=0 then-rG n M (n-1) i j else rG n M (n-1) i j
def PX(n:Nat):(-1:Int)^n=if n%2=0 then 1 else -1:=by
 induction n with
 | zero=>rfl
 | succ n ih=>rw[gC,ih];split<;>split<;>omega
def AK(d:1<=n)(M:aH){i j:Nat}(c:i<n)(e:j<n):ke n M j i=qa n M i j:=by
 have f:qa n (cm M 0) i j=(-1)^n*(-1*qa n M i j):=by
  unfold qa;rw[<-oS M c,<-rI];congr 1;funext a b;simp only[setRow,cm,du];split<;>grind
 simp only[ke];rw[Qk d M i j c e,f,PX];split<;>grind
def ou(n:Nat)(A B C:aH)(i j:Nat):mm n (mm n A B) C i j=mm n A (mm n B C) i j:=by
 simp only[mm];rw[aB (g:=fun k=>aq n (fun l=>A i l*B l k*C k j)) (fun k _=>by rw[ck,<-df];exact aB fun l _=>by grind)]
 rw[qi];exact aB fun l _=>by rw[<-df];exact aB fun k _=>by grind
def rB{A' B':aH}(h:∀k,k<n->A i k=A' i k)(h':∀k,k<n->B k j=B' k j):mm n A B i j=mm n A' B' i j :=
 aB fun k a=>by rw[h k a,h' k a]
theorem FJ(n:Nat)(M:aH):∀k i j,i<n->j<n->mm n (rG n M k) M i j=mm n M (rG n M k) i j
 | 0,i,j,b,a=>by
  simp only[mm,rG];rw[nV b (fun k=>M k j),cJ j a (fun k _ c=>by rw[af c,jZ])];simp
 | k+1,i,j,b,a=>by
  have d:mm n (rG n M (k+1)) M i j=mm n (mm n M (rG n M k)) M i j+(tr n (mm n M (rG n M k))/(-((k+1:Nat):Int)))*M i j:=by
   simp only[mm,rG];rw[<-nV b (fun l=>(tr n (mm n M (rG n M k))/(-((k+1:Nat):Int)))*M l j),<-eE];exact aB fun l _=>by split<;>grind
  have f:mm n M (rG n M (k+1)) i j=mm n M (mm n M (rG n M k)) i j+(tr n (mm n M (rG n M k))/(-((k+1:Nat):Int)))*M i j:=by
   simp only[mm,rG];rw[<-nV a (fun l=>(tr n (mm n M (rG n M k))/(-((k+1:Nat):Int)))*M i l),<-eE];refine aB fun l _=>?_;by_cases e:l=j
   .subst e;simp;grind
   .rw[af e,af (aj e)];grind
  rw[d,f,ou];congr 1;exact rB (fun _ _=>rfl) (fun l g=>FJ n M k l j g a)
def so(c:1<=n)(M:aH){i j:Nat}(b:i<n)(a:j<n):mm n (ke n M) M i j=if i=j then det n M else 0:=by
 have d:mm n (ke n M) M i j=mm n M (ke n M) i j:=by
  have h:=FJ n M (n-1) i j b a;simp only[mm,ke]at h ⊢;by_cases e:n%2=0
  .simp only[e,aK];rw[aB (g:=fun k=>- (rG n M (n-1) i k*M k j)) (fun k _=>by grind),wa,h,<-wa]
   exact aB fun k _=>by grind
  .simp only[e,aM];exact h
 rw[d];simp only[mm];rw[aB (g:=fun k=>M i k*qa n M j k) (fun k f=>by rw[AK c M a f]),uB M a b]
 split<;>split<;>omega

end Go.Proofs.YtdobfmlmenaajaaGreatDoor
