/-
  Lemmas for NeighbourRaw.
-/
import Derived.Test.YtdobfmlmenaajaaGreatDoorH09
namespace Go.Proofs.YtdobfmlmenaajaaGreatDoor
open Go.RowKit Tryz
set_option maxHeartbeats 6400000
set_option maxRecDepth 4096
set_option linter.all false
variable{β:Bool}{a b h na q u v x z:Int}{f:Int->Int}{d i j j' k m n p t x0 y0:Nat}{c:Nat->Int}{g σ:Nat->Nat}{A B H:aI}
def up(k:Nat)(ρ:Nat->Nat)(i:Nat):Nat:=if i<k then i else k+ρ (i-k)
def cQ(A:aI)(k:Nat):aI:=fun i j=>det (k+1) (fun a b=>A (up k (fun _=>i) a) (up k (fun _=>j) b))
def Jg(ρ:Nat->Nat)(i:Nat):up 0 ρ i=ρ i:=by simp[up]
def yr(k:Nat)(ρ:Nat->Nat)(i:Nat):up k (lC ρ) i=up (k+1) ρ i:=by
 unfold up;by_cases h:i<k
 .rw[ai h,ai om]
 .rw[af h];by_cases a:i<k+1
  .rw[ai a,(om:i-k=0)];simp[lC];omega
  .rw[af a,(om:i-k=(i-(k+1))+1)];simp only[lC];omega
def pa(k i:Nat)(h:i<k+1):up k (fun _=>0) i=i:=by
 unfold up;split
 .rfl
 .show k+0=i;omega
def iz(A:aI)(i j:Nat):cQ A 0 i j=A i j:=by
 unfold cQ;rw[Qv];simp[up]
def df(A:aI)(k:Nat):cQ A k 0 0=det (k+1) A:=by
 unfold cQ;exact cD fun a b c d=>by rw[pa k a c,pa k b d]
def xi(h:∀(l:Nat) (ρ γ:Nat->Nat),det (l+1) (fun i j=>cQ A k (ρ i) (γ j))=det k A^l*det (k+l+1) (fun i j=>A (up k ρ i) (up k γ j)))(i j:Nat) :
  F7 (cQ A k) i j=det k A*cQ A (k+1) i j:=by
 have c:=h 1 (lC fun _=>i) (lC fun _=>j);rw[JX,fE,Int.pow_zero,fA]at c;simp only[lC]at c;simp only[F7];rw[c];unfold cQ;congr 1;exact cD fun a b _ _=>by rw[yr,yr]
theorem rL{A:aI}:∀{k:Nat},(∀j,j<=k->det j A≠0)->∀(l:Nat) (ρ γ:Nat->Nat),
  det (l+1) (fun i j=>cQ A k (ρ i) (γ j))=det k A^l*det (k+l+1) (fun i j=>A (up k ρ i) (up k γ j))
 | 0,_,l,ρ,γ=>by
  rw[show det 0 A=1 from rfl,Int.one_pow,fA,aD];exact cD fun i j _ _=>by rw[iz,Jg,Jg]
 | k+1,a,l,ρ,γ=>by
  have ih:=rL (k:=k) (fun j n=>a j om);have d:=a k om;have b:=a (k+1) (ae _);have f:Rg (det k A) (cQ A k):=fun l ρ γ=>⟨_,ih l ρ γ⟩;have c:cQ A k 0 0≠0:=by rw[df];exact b
  have g:∀i j,bar (det k A) (cQ A k) i j=cQ A (k+1) i j:=fun i j=>by
   unfold bar;rw[xi ih,dh _ d]
  have e:=Lt f c l ρ γ;rw[cD (B:=fun i j=>cQ A (k+1) (ρ i) (γ j)) (fun i j _ _=>g _ _),ih (l+1) (lC ρ) (lC γ),df]at e;have h:det k A^(l+1)≠0:=Kb d;refine dN h ?_;have m:det (k+(l+1)+1) (fun i j=>A (up k (lC ρ) i) (up k (lC γ) j))=det (k+1+l+1) (fun i j=>A (up (k+1) ρ i) (up (k+1) γ j)):=by
   rw[(om:k+(l+1)+1=k+1+l+1)]
   exact cD fun i j _ _=>by rw[yr,yr]
  rw[e,m,UV]
def MH(a:∀j,j<=k->det j A≠0)(i j:Nat):F7 (cQ A k) i j=det k A*cQ A (k+1) i j:=xi (rL a) i j
def ju(a:∀j,j<=k->det j A≠0)(i j:Nat):cQ A k 0 0*cQ A k (i+1) (j+1)-cQ A k (i+1) 0*cQ A k 0 (j+1)=det k A*cQ A (k+1) i j:=MH a i j
def MG(l:k<n)(b:∀j,j<=k->det j A≠0)(c:∀i,i<n-k->cQ A k i 0=0):det n A=0:=by
 have a:=rL b (n-k-1) id id;have d:det (n-k-1+1) (fun i j=>cQ A k (id i) (id j))=0:=ut _ om (fun i m=>c i om);rw[d,(om:k+(n-k-1)+1=n)]at a
 have f:det k A^(n-k-1)≠0:=Kb (b k (ae _));have g:det n (fun i j=>A (up k id i) (up k id j))=det n A:=cD fun i j _ _=>by
  have e:∀i,up k id i=i:=fun i=>by unfold up;split<;>simp;omega
  rw[e,e]
 rw[g]at a;rcases jI.1 a.symm with h|h
 .exact absurd h f
 .exact h
def dO(i j a:Nat):Nat:=if a=i then j else if a=j then i else a
def Dd(A:aI)(f:i<n)(g:k<n)(c:i≠k):det n (fun a b=>A (dO i k a) b)=- det n A:=by
 rw[<-NM A f g c];refine cD fun a b _ _=>?_;simp only[dO,setRow];by_cases d:a=i
 .subst d;simp[c]
 .by_cases e:a=k
  .subst e;simp[d]
  .simp[d,e]
def og(A:aI)(f:i<n)(g:k<n)(c:i≠k):det n (fun a b=>A a (dO i k b))=- det n A:=by
 rw[<-DW A f g c];refine cD fun a b _ _=>?_;simp only[dO,cE];by_cases d:b=i
 .subst d;simp[c]
 .by_cases e:b=k
  .subst e;simp[d]
  .simp[d,e]
def zC(A:aI)(c:n<=i)(d:n<=k):det n (fun a b=>A (dO i k a) b)=det n A :=
 cD fun a b e _=>by rw[show dO i k a=a by unfold dO;rw[af om,af om]]
def yu(A:aI)(f:k<=p)(i j:Nat):cQ (fun a b=>A (dO k p a) b) k i j=cQ A k (dO 0 (p-k) i) j:=by
 unfold cQ;refine cD fun a b g l=>?_;have e:dO k p (up k (fun _=>i) a)=up k (fun _=>dO 0 (p-k) i) a:=by
  unfold up dO;by_cases h:a<k
  .simp only[h,aQ];rw[af om,af om]
  .simp only[h,aS];by_cases c:i=0
   .rw[ai om,ai c];omega
   .by_cases d:i=p-k
    .rw[af om,ai om,af c,ai d];omega
    .rw[af om,af om,af c,af d]
 show A (dO k p (up k (fun _=>i) a)) _=_;rw[e]
structure od(A:aI)(n:Nat)(σ:Nat->Nat)(neg:Bool)(k:Nat):Prop where
 lead:∀j,j<=k->det j (fun a b=>A (σ a) b)≠0
 sign:det n (fun a b=>A (σ a) b)=if neg then-det n A else det n A
 row:∀i,i<n->σ i<n
def od.init(A:aI)(n:Nat):od A n id false 0:=⟨fun j a=>by rw[(om:j=0)];simp[det],sm,fun i h=>h⟩
def od.swap{neg:Bool}(h:od A n σ neg k)(e:k<p)(c:p<n):od A n (fun a=>σ (dO k p a)) (!neg) k:=by
 refine⟨fun j d=>?_,?_,fun i f=>h.row _ (by unfold dO;split<;>(try split)<;>omega)⟩
 .rw[zC (fun a b=>A (σ a) b) om om];exact h.lead j d
 .rw[Dd (fun a b=>A (σ a) b) om c om,h.sign]
  cases neg<;>simp
def od.step{neg:Bool}(h:od A n σ neg k)(c:cQ (fun a b=>A (σ a) b) k 0 0≠0):od A n σ neg (k+1) :=
 ⟨fun j e=>by
  rcases aC j (k+1)with d|d
  .exact h.lead j om
  .rw[(om:j=k+1),<-df];exact c,h.sign,h.row⟩
def od.zero{neg:Bool}(h:od A n σ neg k)(d:k<n)(e:∀i,i<n-k->cQ (fun a b=>A (σ a) b) k i 0=0):det n A=0:=by
 have c:=MG d h.lead e;rw[h.sign]at c
 cases neg<;>simp at c<;>omega

structure Pd(A:aI)(n:Nat):Prop where
 sym:∀a b,a<n->b<n->A a b=A b a
 pos:∀k,k<=n->0<det k A
def Pd.ne(h:Pd A n){k:Nat}(a:k<=n):∀j,j<=k->det j A≠0:=fun j b=>by have:=h.pos j om;omega
def Pd.stg_sym(h:Pd A n):∀(k i j:Nat),k+i<n->k+j<n->cQ A k i j=cQ A k j i
 | 0,i,j,b,c=>by rw[iz,iz];exact h.sym i j om om
 | k+1,i,j,b,c=>by
  have ih:=h.stg_sym k;have a:=ju (h.ne (k:=k) om) i j;have d:=ju (h.ne (k:=k) om) j i;rw[ih (i+1) (j+1) om om,ih (i+1) 0 om om,ih 0 (j+1) om om]at a;have e:=h.pos k om;refine dN (om:det k A≠0) ?_
  rw[<-a,<-d];grind
def Pd.stg_rec(h:Pd A n){k i:Nat}(a:k+i+1<n):det (k+1) A*cQ A k (i+1) (i+1)=det k A*cQ A (k+1) i i+cQ A k (i+1) 0*cQ A k (i+1) 0:=by
 have e:=ju (h.ne (k:=k) om) i i;rw[h.stg_sym k 0 (i+1) om om,df]at e;omega
def Pd.stg_rec2(h:Pd A n){k i j:Nat}(a:k+i+1<n)(b:k+j+1<n):det (k+1) A*cQ A k (i+1) (j+1)=det k A*cQ A (k+1) i j+cQ A k (i+1) 0*cQ A k (j+1) 0:=by
 have e:=ju (h.ne (k:=k) om) i j;rw[h.stg_sym k 0 (j+1) om om,df]at e;omega
def kw(x:Int):0<=x*x:=by
 rcases Int.le_total 0 x with h|h
 .exact cK h h
 .have:=cK (om:0<=-x) (om:0<=-x);rw[pL]at this;exact this
def zR(d:0<a)(h:0<a*b):0<b:=by
 rcases qF 0 b with c|c
 .exact c
 .have:=bV c (ck d);omega
def Pd.stg_pos(h:Pd A n):∀(i k:Nat),k+i<n->0<cQ A k i i
 | 0,k,a=>by rw[df];exact h.pos _ om
 | i+1,k,a=>by
  have e:=h.stg_rec (k:=k) (i:=i) om;have b:=h.stg_pos i (k+1) om;have d:=o0 (h.pos k om) b;have f:=kw (cQ A k (i+1) 0);have c:0<det (k+1) A*cQ A k (i+1) (i+1):=om
  exact zR (h.pos (k+1) om) c
def Pd.stg_up(h:Pd A n):∀(k i:Nat),k+i<n->cQ A k i i<=det k A*A (k+i) (k+i)
 | 0,i,a=>by rw[iz];simp[det]
 | k+1,i,a=>by
  have e:=h.stg_rec (k:=k) (i:=i) om;have ih:=h.stg_up k (i+1) om;have b:=h.pos k om;have c:=h.pos (k+1) om;have d:=kw (cQ A k (i+1) 0);have f:=bV ih (ck c);refine ix ?_ b;rw[(om:k+1+i=k+(i+1))]
  have g:det (k+1) A*(det k A*A (k+(i+1)) (k+(i+1)))=det k A*(det (k+1) A*A (k+(i+1)) (k+(i+1))):=by grind
  omega
def Pd.lam_sq(h:Pd A n){k i:Nat}(a:k+i+1<n):cQ A k (i+1) 0*cQ A k (i+1) 0<=det (k+1) A*cQ A k (i+1) (i+1):=by
 have e:=h.stg_rec (k:=k) (i:=i) om;have b:=o0 (h.pos k om) (h.stg_pos i (k+1) om);omega
def Pd.hadamard(h:Pd A n){k:Nat}(a:k<n):det (k+1) A<=det k A*A k k:=by
 have:=h.stg_up k 0 om
 rwa [df,cF]at this
def NR{m:Int}(c:0<a)(d:m*m<=a*b):0<=a*(v*v)+b*(u*u)-2*(m*(u*v)):=by
 have e:a*(a*(v*v)+b*(u*u)-2*(m*(u*v)))=(a*v-m*u)*(a*v-m*u)+(a*b-m*m)*(u*u):=by grind
 have f:=kw (a*v-m*u);have g:=cK (om:0<=a*b-m*m) (kw u)
 exact Int.nonneg_of_mul_nonneg_right om c
def Qw{d m:Int}(c:0<=d)(e:0<a)(f:m*m<=a*b):(d*m+u*v)*(d*m+u*v)<=(d*a+u*u)*(d*b+v*v):=by
 have g:=NR (u:=u) (v:=v) e f;have h:=cK c g;have i:=cK (cK c c) (om:0<=a*b-m*m)
 have j:(d*a+u*u)*(d*b+v*v)-(d*m+u*v)*(d*m+u*v)=d*d*(a*b-m*m)+d*(a*(v*v)+b*(u*u)-2*(m*(u*v))):=by grind
 omega
def Pd.cs(h:Pd A n):∀(i j k:Nat),k+i<n->k+j<n->cQ A k i j*cQ A k i j<=cQ A k i i*cQ A k j j
 | 0,0,k,_,_=>o5 _
 | 0,j+1,k,_,b=>by
  rw[h.stg_sym k 0 (j+1) om om,df];exact h.lam_sq om
 | i+1,0,k,c,_=>by
  rw[df,cX (cQ A k (i+1) (i+1))];exact h.lam_sq om
 | i+1,j+1,k,c,b=>by
  have ih:=h.cs i j (k+1) om om;have d:=h.stg_rec (k:=k) (i:=i) om;have e:=h.stg_rec (k:=k) (i:=j) om;have f:=h.stg_rec2 (k:=k) (i:=i) (j:=j) om om;have g:=h.pos k om;have a:=h.pos (k+1) om;have l:=Qw (u:=cQ A k (i+1) 0) (v:=cQ A k (j+1) 0) (ck g) (h.stg_pos i (k+1) om) ih;rw[<-d,<-e,<-f]at l;have m:0<det (k+1) A*det (k+1) A:=o0 a a;refine ix ?_ m;have o:det (k+1) A*det (k+1) A*(cQ A k (i+1) (j+1)*cQ A k (i+1) (j+1))=det (k+1) A*cQ A k (i+1) (j+1)*(det (k+1) A*cQ A k (i+1) (j+1)):=by grind
  have p:det (k+1) A*det (k+1) A*(cQ A k (i+1) (i+1)*cQ A k (j+1) (j+1))=det (k+1) A*cQ A k (i+1) (i+1)*(det (k+1) A*cQ A k (j+1) (j+1)):=by grind
  omega
def Pd.cs0(h:Pd A n){i j:Nat}(a:i<n)(b:j<n):A i j*A i j<=A i i*A j j:=by
 have:=h.cs i j 0 om om;simpa only[iz]using this
def Pd.diag(h:Pd A n){i:Nat}(a:i<n):0<A i i:=by
 have:=h.stg_pos i 0 om
 rwa [iz]at this
def kK(A:aI)(i j:Nat):Int:=cQ A j (i-j) 0
def iF(A:aI)(i j:Nat):Prop:=2*(kK A i j).natAbs<=det (j+1) A
def iC(A:aI)(i:Nat):Prop:=3*(det i A*det i A)<=4*(det (i-1) A*det (i+1) A+kK A i (i-1)*kK A i (i-1))
def PJ{d:Int}(h:2*(x.natAbs:Int)<=d):x*x<=d*d:=by
 have a:((x.natAbs:Nat):Int)*x.natAbs=x*x:=by rw[<-bD,lY]
 rw[<-a];exact cN om om om om
def sw{d:Int}(h:2*(x.natAbs:Int)<=d):4*(x*x)<=d*d:=by
 have a:((x.natAbs:Nat):Int)*x.natAbs=x*x:=by rw[<-bD,lY]
 have b:(2*(x.natAbs:Int))*(2*x.natAbs)<=d*d:=cN h h om om;have c:(2*(x.natAbs:Int))*(2*x.natAbs)=4*((x.natAbs:Int)*x.natAbs):=by grind
 omega
def Pd.sized_up(h:Pd A n){D:Int}{r:Nat}(f:r<n)(a:∀k,k<=r->det (k+1) A<=D)(c:∀j,j<r->iF A r j):∀(i k:Nat),k+i=r->4*cQ A k i i<=det k A*((i+4:Nat)*D)
 | 0,k,g=>by
  rw[df];have b:=a k om;have l:=h.pos k om;have m:=h.pos (k+1) om;have o:=ca (om:1<=det k A) (om:0<=D)
  have p:det k A*(((0+4:Nat):Int)*D)=4*(det k A*D):=by
   rw[show((0+4:Nat):Int)=4 from rfl];grind
  omega
 | i+1,k,g=>by
  have e:=h.stg_rec (k:=k) (i:=i) om;have ih:=h.sized_up f a c i (k+1) om;have q:=h.pos k om;have b:=h.pos (k+1) om;have d:=sw (c k om);unfold kK at d;rw[(om:r-k=i+1)]at d
  have l:=a k om;have m:=bV ih (ck q);refine ix ?_ b;have o:det k A*(det (k+1) A*((i+4:Nat)*D))+det (k+1) A*det (k+1) A<=det (k+1) A*(det k A*((i+1+4:Nat)*D)):=by
   have p:det (k+1) A*(det k A*((i+1+4:Nat)*D))=det k A*(det (k+1) A*((i+4:Nat)*D))+det (k+1) A*(det k A*D):=by
    rw[show((i+1+4:Nat):Int)=((i+4:Nat):Int)+1 by omega];grind
   have s:det (k+1) A*det (k+1) A<=det (k+1) A*(det k A*D):=by
    refine bV ?_ (ck b);have t:=ca (om:1<=det k A) (om:0<=D)
    omega
   omega
  have u:det k A*(4*cQ A (k+1) i i)=4*(det k A*cQ A (k+1) i i):=by grind
  have v:det (k+1) A*(4*cQ A k (i+1) (i+1))=4*(det (k+1) A*cQ A k (i+1) (i+1)):=by grind
  omega
def Pd.sized_norm4(h:Pd A n){D:Int}{r:Nat}(a:r<n)(b:∀k,k<=r->det (k+1) A<=D)(c:∀j,j<r->iF A r j):4*A r r<=(r+4:Nat)*D:=by
 have:=h.sized_up a b c r 0 om;rw[iz]at this;simpa [det]using this
def Pd.sized_norm(h:Pd A n){D:Int}{r:Nat}(b:r<n)(a:∀k,k<=r->det (k+1) A<=D)(c:∀j,j<r->iF A r j):A r r<=(r+1:Nat)*D:=by
 have d:=h.sized_norm4 b a c;have e:det 1 A<=D:=a 0 om;have f:=h.pos 1 om;have g:((r+4:Nat):Int)*D<=((4*(r+1):Nat):Int)*D:=ca om om;have i:((4*(r+1):Nat):Int)*D=4*(((r+1:Nat):Int)*D):=by
  rw[bD];grind
 omega

def qG(k c i:Nat):up k (fun _=>c) i=if i<k then i else k+c:=rfl
def mc(A:aI)(i j:Nat)(q:Int):aI:=fun a b=>A a b+(if a=i then q*A j b else 0)+(if b=i then q*A a j else 0)+(if a=i/\b=i then q*q*A j j else 0)
def rB(A:aI){i j a b:Nat}{q:Int}(c:a≠i)(d:b≠i):mc A i j q a b=A a b:=by simp[mc,c,d]
def Ge(A:aI){i j b:Nat}{q:Int}(a:b≠i):mc A i j q i b=A i b+q*A j b:=by simp[mc,a]
def kB(l:j<i)(k:Nat):det k (mc A i j q)=det k A:=by
 rcases aC i k with c|c
 .have e:=nj A (n:=k) (i:=i) (k:=j) c om om 1 q;have d:=qd (setRow A i (fun b=>1*A i b+q*A j b)) (n:=k) (i:=i) (k:=j) c om om 1 q;rw[e]at d;rw[fA,fA]at d;rw[<-d];refine cD fun a b _ _=>?_;simp only[mc,cE,setRow];have f:j≠i:=om
  by_cases g:a=i<;>by_cases h:b=i<;>simp[g,h]<;>grind
 .exact cD fun a b m o=>rB A om om
def xL{i':Nat}(d:i'<i)(c:j'<=i'):kK (mc A i j q) i' j'=kK A i' j':=by
 unfold kK cQ;refine cD fun a b e f=>?_;exact rB A (by rw[qG];split<;>omega) (by rw[qG];split<;>omega)
def Gf(l:j<j')(g:j'<i):kK (mc A i j q) i j'=kK A i j':=by
 have f:=nj (fun a b=>A (up j' (fun _=>i-j') a) (up j' (fun _=>0) b)) (n:=j'+1) (i:=j') (k:=j) om om om 1 q;rw[fA]at f;unfold kK cQ;rw[<-f];refine cD fun a b m o=>?_;simp only[setRow];have c:up j' (fun _=>0) b≠i:=by rw[qG];split<;>omega
 by_cases e:a=j'
 .subst e;have d:up a (fun _=>i-a) a=i:=by rw[qG];rw[af om];omega
  have h:up a (fun _=>i-a) j=j:=by rw[qG];rw[ai om]
  rw[d,h,Ge A c];simp
 .have d:up j' (fun _=>i-j') a=a:=by rw[qG];rw[ai om]
  rw[d,rB A om c,af e]
def Gg(m:j<i):kK (mc A i j q) i j=kK A i j+q*det (j+1) A:=by
 have g:=uj (fun a b=>A (up j (fun _=>i-j) a) (up j (fun _=>0) b)) (n:=j+1) (i:=j) om 1 q (fun b=>A i (up j (fun _=>0) b)) (fun b=>A j (up j (fun _=>0) b));unfold kK cQ;have k:det (j+1) (setRow (fun a b=>A (up j (fun _=>i-j) a) (up j (fun _=>0) b)) j (fun b=>A i (up j (fun _=>0) b)))=det (j+1) (fun a b=>A (up j (fun _=>i-j) a) (up j (fun _=>0) b)):=by
  refine cD fun a b h d=>?_;simp only[setRow];by_cases e:a=j
  .subst e;rw[ai rfl];congr 1;rw[qG];rw[af om];omega
  .rw[af e]
 have l:det (j+1) (setRow (fun a b=>A (up j (fun _=>i-j) a) (up j (fun _=>0) b)) j (fun b=>A j (up j (fun _=>0) b)))=det (j+1) A:=by
  refine cD fun a b h d=>?_;simp only[setRow];rw[pa j b d];by_cases e:a=j
  .subst e;rw[ai rfl]
  .rw[af e];congr 1;rw[qG];rw[ai om]
 rw[k,l,fA]at g;rw[<-g];refine cD fun a b h d=>?_;simp only[setRow];have c:up j (fun _=>0) b≠i:=by rw[qG];split<;>omega
 by_cases e:a=j
 .subst e;have f:up a (fun _=>i-a) a=i:=by rw[qG];rw[af om];omega
  rw[f,Ge A c,ai rfl];simp
 .have f:up j (fun _=>i-j) a=a:=by rw[qG];rw[ai om]
  rw[f,rB A om c,af e]
def EF(A:aI)(i:Nat):aI:=fun a b=>A (dO (i-1) i a) (dO (i-1) i b)
def oh(j:0<i)(l:k≠i):det k (EF A i)=det k A:=by
 rcases aC i k with h|h
 .have d:=Dd (fun a b=>A a (dO (i-1) i b)) (n:=k) (i:=i-1) (k:=i) om h om;have f:=og A (n:=k) (i:=i-1) (k:=i) om h om;show det k (fun a b=>(fun a b=>A a (dO (i-1) i b)) (dO (i-1) i a) b)=_;rw[d,f];omega
 .refine cD fun a b c g=>?_;have e:∀a,a<k->dO (i-1) i a=a:=fun a c=>by unfold dO;rw[af om,af om]
  simp only[EF];rw[e a c,e b g]
def xh(f:0<i):det i (EF A i)=cQ A (i-1) 1 1:=by
 unfold cQ;rw[(om:i-1+1=i)]
 refine cD fun a b c d=>?_;have e:∀a,a<i->dO (i-1) i a=up (i-1) (fun _=>1) a:=fun a c=>by
  rw[qG];unfold dO;by_cases h:a=i-1
  .rw[ai h,af om];omega
  .rw[af h,af om,ai om]
 simp only[EF];rw[e a c,e b d]
def Pd.swap_lead(h:Pd A n){i:Nat}(a:0<i)(b:i<n):det i A*det i (EF A i)=det (i-1) A*det (i+1) A+kK A i (i-1)*kK A i (i-1):=by
 have e:=h.stg_rec (k:=i-1) (i:=0) om;rw[xh a];unfold kK;rw[(om:i-(i-1)=1)]
 rw[(om:i-1+1=i),aD,df]at e
 exact e
def Pd.add(h:Pd A n){i j:Nat}{q:Int}(e:j<i)(m:i<n):Pd (mc A i j q) n:=by
 refine⟨fun a b c d=>?_,fun k f=>by rw[kB e];exact h.pos k f⟩
 have o:=h.sym a b c d;have p:=h.sym j a om c;have r:=h.sym j b om d;simp only[mc];by_cases g:a=i<;>by_cases l:b=i<;>simp[g,l]<;>grind
def Pd.swap(h:Pd A n){i:Nat}(c:0<i)(l:i<n):Pd (EF A i) n:=by
 have d:∀a,a<n->dO (i-1) i a<n:=fun a f=>by unfold dO;split<;>(try split)<;>omega
 refine⟨fun a b f g=>h.sym _ _ (d a f) (d b g),fun k j=>?_⟩;by_cases e:k=i
 .subst e;rw[xh c];exact h.stg_pos 1 (k-1) om
 .rw[oh c e];exact h.pos k j
def B6(h:Pd A n){i:Nat}(b:0<i)(c:i<n)(a:¬iC A i):4*det i (EF A i)<3*det i A:=by
 unfold iC at a;rw[<-h.swap_lead b c]at a;have d:=h.pos i om;have e:det i A*(4*det i (EF A i))<det i A*(3*det i A):=by
  have f:det i A*(4*det i (EF A i))=4*(det i A*det i (EF A i)):=by grind
  have g:det i A*(3*det i A)=3*(det i A*det i A):=by grind
  omega
 exact Int.lt_of_mul_lt_mul_left e (ck d)
open Classical in
noncomputable def oQ(p:Nat->Prop):Nat->Nat
 | 0=>0
 | w+1=>if (∀c,c<=w->p c)then w+1 else oQ p w
theorem Cw(p:Nat->Prop):∀w,oQ p w<=w
 | 0=>by simp[oQ]
 | w+1=>by have:=Cw p w;simp only[oQ];split<;>omega
theorem wj{p:Nat->Prop}{k:Nat}(h:∀c,c<k->p c):∀w,k<=w->k<=oQ p w
 | 0,a=>om
 | w+1,a=>by
  simp only[oQ];split
  .exact a
  .rename_i d;rcases aC w k with b|b
   .exact absurd (fun c e=>h c om) d
   .exact wj h w b
theorem tb{p:Nat->Prop}{k:Nat}(h:¬p k):∀w,oQ p w<=k
 | 0=>by simp[oQ]
 | w+1=>by
  simp only[oQ];split
  .rename_i b;rcases aC w k with a|a
   .omega
   .exact absurd (b k a) h
  .exact tb h w
def chk(A:aI)(n c:Nat):Prop:=(c%(n+1)<c/(n+1)->iF A (c/(n+1)) (c/(n+1)-1-c%(n+1)))/\(c%(n+1)=c/(n+1)->0<c/(n+1)->iC A (c/(n+1)))
def NU(a:t<n+1):(i*(n+1)+t)/(n+1)=i:=by
 rw[aA,kO om,eO a];omega
def NT(a:t<n+1):(i*(n+1)+t)%(n+1)=t:=by
 rw[aA,mK,dX a]
def F6(a:t<n+1):chk A n (i*(n+1)+t)↔(t<i->iF A i (i-1-t))/\(t=i->0<i->iC A i):=by
 unfold chk;rw[NU a,NT a]
def jX(A:aI)(i:Nat):Prop:=(∀r,r<i->∀j,j<r->iF A r j)/\∀r,0<r->r<i->iC A r
def CE(d:jX A i)(f:∀j,i<j+1+t->j<i->iF A i j)(g:t<=i)(k:i<n){c:Nat}(l:c<i*(n+1)+t):chk A n c:=by
 have m:c/(n+1)<=i:=by
  rcases aC i (c/(n+1))with h|h
  .have b:=Nat.div_mul_le_self c (n+1);have a:(i+1)*(n+1)<=c/(n+1)*(n+1):=aB _ h;rw[cW]at a;omega
  .exact h
 rcases aC (c/(n+1)) i with h|h
 .refine⟨fun b=>d.1 _ h _ om,fun b a=>d.2 _ a h⟩
 .have e:c/(n+1)=i:=om
  have b:c%(n+1)<t:=by
   have:=dd c (n+1);rw[e,aA]at this;omega
  unfold chk;rw[e];exact⟨fun a=>f _ om om,fun a=>om⟩

def nS:Nat->(Nat->Nat)->Nat
 | 0,_=>1
 | n+1,f=>nS n f*f n
def tS{f:Nat->Nat}(h:∀i,i<n->f i=g i):nS n f=nS n g:=by
 induction n with
 | zero=>rfl
 | succ n ih=>simp only[nS];rw[ih fun i a=>h i om,h n om]
def Hm{f:Nat->Nat}(h:∀i,i<n->0<f i):0<nS n f:=by
 induction n with
 | zero=>simp[nS]
 | succ n ih=>simp only[nS];exact IS (ih fun i a=>h i om) (h n om)
def Fs{f:Nat->Nat}(d:i<n)(h:∀k,k<n->k≠i->g k=f k)(b:4*g i<=3*f i):4*nS n g<=3*nS n f:=by
 induction n with
 | zero=>omega
 | succ n ih =>
  simp only[nS];rcases aC i n with a|a
  .rw[h n om om,<-bC,<-bC];exact aB _ (ih a fun k c=>h k om)
  .obtain rfl:i=n:=om
   rw[tS (f:=g) (g:=f) fun k c=>h k om om,UU,UU 3];exact aM _ b
def Pv(A:aI)(n:Nat):Nat:=nS n (fun k=>(det k A).toNat)
noncomputable def lT(A:aI)(n:Nat):Nat:=oQ (chk A n) (n*(n+1))
noncomputable def wc(A:aI)(n:Nat):Nat:=Pv A n*(n*(n+1)+1)+(n*(n+1)-lT A n)
def Fu(A:aI)(n:Nat):lT A n<=n*(n+1):=Cw _ _
def Pd.pot_pos(h:Pd A n):0<Pv A n:=Hm fun k a=>by have:=h.pos k om;omega
def Pu(a:j<i):Pv (mc A i j q) n=Pv A n:=tS fun k _=>by rw[kB a]
def MZ(h:Pd A n)(a:0<i)(b:i<n)(c:¬iC A i):4*Pv (EF A i) n<=3*Pv A n:=by
 refine Fs b (fun k _ d=>by rw[oh a d]) ?_
 have e:=B6 h a b c;have f:=(h.swap a b).pos i om;omega
def KN(b:j<i)(g:i<n)(k:jX A i)(m:∀j',j<j'->j'<i->iF A i j')(o:¬iF A i j)(p:2*((kK A i j+q*det (j+1) A).natAbs:Int)<=det (j+1) A) :
  lT A n<lT (mc A i j q) n:=by
 have v:lT A n<=i*(n+1)+(i-1-j):=by
  refine tb ?_ _;rw[F6 om];intro h;have:=h.1 om;rw[(om:i-1-(i-1-j)=j)]at this
  exact o this
 have w:i*(n+1)+(i-1-j)+1<=n*(n+1):=by
  have:(i+1)*(n+1)<=n*(n+1):=aB _ g;rw[cW]at this;omega
 have d:jX (mc A i j q) i:=by
  refine⟨fun r a s e=>?_,fun r t a=>?_⟩
  .have:=k.1 r a s e;unfold iF at *;rw[xL a om,kB b];exact this
  .have:=k.2 r t a;unfold iC at *;rw[xL a om,kB b,kB b,kB b];exact this
 have x:i*(n+1)+(i-j)<=lT (mc A i j q) n:=by
  refine wj (fun c u=>CE d (fun j' y l=>?_) om g u) _ om;unfold iF;rw[kB b];rcases aC j j' with f|f
  .rw[Gf f l];exact m j' f l
  .obtain rfl:j'=j:=om
   rw[Gg b];exact p
 omega
def Nf(a:j<i)(b:lT A n<lT (mc A i j q) n):wc (mc A i j q) n<wc A n:=by
 unfold wc;rw[Pu a];have c:=Fu (mc A i j q) n;omega
def KU(h:Pd A n)(a:0<i)(b:i<n)(c:¬iC A i):wc (EF A i) n<wc A n:=by
 unfold wc;have e:=MZ h a b c;have f:=h.pot_pos;have d:(Pv (EF A i) n+1)*(n*(n+1)+1)<=Pv A n*(n*(n+1)+1):=aB _ om;rw[cW]at d;omega

def iT{a b:Nat}(h:a<=b):(2:Int)^a<=2^b:=by
 have:=cp (n:=2) om h;have c:((2^a:Nat):Int)<=((2^b:Nat):Int):=kH.2 this;simpa using c

structure GK(H:aI)(n:Nat):Prop where
 pd:Pd H n
 rows:jX H n
 lead:∀k,k<=n->det k H<=64000
def GK.diag(h:GK H n)(c:n<=8){i:Nat}(a:i<n):H i i<=176000:=by
 have d:=h.pd.sized_norm4 (D:=64000) a (fun k e=>h.lead (k+1) om) (fun j b=>h.rows.1 i a j b);omega
def vM{B:Int}(b:0<=B)(h:x*x<=B*B):x.natAbs<=B:=by
 rcases qF B x.natAbs with a|a
 .exfalso;have c:(B+1)*(B+1)<=(x.natAbs:Int)*x.natAbs:=cN om om om om;have d:((x.natAbs:Nat):Int)*x.natAbs=x*x:=by rw[<-bD,lY]
  have e:(B+1)*(B+1)=B*B+2*B+1:=by grind
  omega
 .exact a
def GK.entry(h:GK H n)(b:n<=8){i j:Nat}(c:i<n)(a:j<n):((H i j).natAbs:Int)<=176000:=by
 have f:=h.pd.cs0 c a;have d:=h.diag b c;have e:=h.diag b a;have g:=cN d e (ck (h.pd.diag a)) om;exact vM om om
def JG{l d:Int}(b:0<d):2*((l+-((2*l+d)/(2*d))*d).natAbs:Int)<=d:=by
 have c:=aW (2*l+d) (om:2*d≠0)
 have e:=aV (2*l+d) (om:0<2*d)
 have f:=dC (2*l+d) (2*d);generalize hq:(2*l+d)/(2*d)=q at *;have g:2*d*q=2*(q*d):=by grind
 have a:-q*d=-(q*d):=by grind
 rw[a];omega

abbrev iB:=Nat->Int
variable{L:iB->Prop}
def fy(n m:Nat)(B:aI)(x:iB):Prop:=∃c:iB,∀i,i<n->x i=ay m (fun j=>B i j*c j)
structure ON(n:Nat)(L:iB->Prop):Prop where
 zero:L (fun _=>0)
 comb:∀x y:iB,L x->L y->∀a b:Int,L (fun i=>a*x i+b*y i)
 ext:∀x y:iB,L x->(∀i,i<n->x i=y i)->L y
def ON.smul(h:ON n L){x:iB}(b:L x)(a:Int):L (fun i=>a*x i) :=
 h.ext _ _ (h.comb x x b b a 0) (fun i _=>by simp)
def ON.add(h:ON n L){x y:iB}(a:L x)(b:L y):L (fun i=>x i+y i) :=
 h.ext _ _ (h.comb x y a b 1 1) (fun i _=>by simp)
def ON.sum(h:ON n L)(C:Nat->iB)(c:iB):∀m,(∀j,j<m->L (C j))->L (fun i=>ay m (fun j=>C j i*c j))
 | 0,_=>h.ext _ _ h.zero (fun i _=>by simp[ay])
 | m+1,a=>h.ext _ _ (h.comb _ _ (h.sum C c m fun j b=>a j om) (a m om) 1 (c m)) (fun i _=>by simp only[ay];grind)
def Kz(m:Nat)(a b:Int)(B:Nat->Int)(c d:iB):ay m (fun j=>B j*(a*c j+b*d j))=a*ay m (fun j=>B j*c j)+b*ay m (fun j=>B j*d j):=by
 rw[<-pg];exact aE fun j _=>by grind
def fy.lat(n m:Nat)(B:aI):ON n (fy n m B):=by
 refine⟨⟨fun _=>0,fun i _=>(jh fun j _=>by simp).symm⟩,?_,?_⟩
 .rintro x y ⟨c,f⟩ ⟨d,g⟩ a b;exact⟨fun j=>a*c j+b*d j,fun i e=>by show a*x i+b*y i=_;rw[f i e,g i e,Kz]⟩
 .rintro x y ⟨c,f⟩ h;exact⟨c,fun i e=>by rw[<-h i e];exact f i e⟩
def fy.col(a:j<m):fy n m B (fun i=>B i j) :=
 ⟨gU j,fun i _=>by
  rw[dr j a (fun k _ b=>by simp[gU,b])];simp[gU]⟩
def fy.sub(a:ON n L)(h:∀j,j<m->L (fun i=>B i j)){x:iB}(b:fy n m B x):L x:=by
 obtain⟨c,d⟩:=b;exact a.ext _ _ (a.sum (fun j i=>B i j) c m h) (fun i e=>(d i e).symm)
def kV(n:Nat)(A B:aI):Prop:=(∀x,fy n n A x↔fy n n B x)/\(det n A).natAbs=(det n B).natAbs
def kV.refl(n:Nat)(A:aI):kV n A A:=⟨fun _=>Iff.rfl,rfl⟩
def kV.trans{C:aI}(h:kV n A B)(k:kV n B C):kV n A C:=⟨fun x=>(h.1 x).trans (k.1 x),h.2.trans k.2⟩
def kV.of(a:∀j,j<n->fy n n A (fun i=>B i j))(b:∀j,j<n->fy n n B (fun i=>A i j))(c:(det n A).natAbs=(det n B).natAbs):kV n A B :=
 ⟨fun _=>⟨fy.sub (fy.lat n n B) b,fy.sub (fy.lat n n A) a⟩,c⟩
def KI(A:aI){i k:Nat}(f:i<n)(d:k<n)(a:i≠k)(c:Int):kV n A (cE A i (fun r=>A r i+c*A r k)):=by
 refine kV.of (fun j b=>?_) (fun j b=>?_) ?_
 .by_cases e:j=i
  .subst e;exact(fy.lat n n A).ext _ _ ((fy.lat n n A).comb _ _ (fy.col b) (fy.col d) 1 c) (fun r _=>by simp[cE])
  .exact(fy.lat n n A).ext _ _ (fy.col b) (fun r _=>by simp[cE,e])
 .by_cases e:j=i
  .subst e;refine(fy.lat n n _).ext _ _ ((fy.lat n n _).comb _ _ (fy.col (j:=j) b) (fy.col (j:=k) d) 1 (-c)) (fun r _=>?_);simp only[cE,aQ,af (aj a)];grind
  .exact(fy.lat n n _).ext _ _ (fy.col (j:=j) b) (fun r _=>by simp[cE,e])
 .have h:=qd A f d a 1 c;rw[fA]at h;rw[<-h];simp only[fA]
def Hg(A:aI){i k:Nat}(g:i<n)(h:k<n)(d:i≠k):kV n A (fun a b=>A a (dO i k b)):=by
 have f:∀j,j<n->dO i k j<n:=fun j c=>by unfold dO;split<;>(try split)<;>omega
 have e:∀j,dO i k (dO i k j)=j:=fun j=>by unfold dO;grind
 refine kV.of (fun j c=>fy.col (f j c)) (fun j c=>?_) ?_
 .have:=fy.col (n:=n) (B:=fun a b=>A a (dO i k b)) (f j c);simpa only[e]using this
 .rw[og A g h d];omega
def KJ(A:aI){i:Nat}(b:i<n):kV n A (cE A i (fun r=>- A r i)):=by
 refine kV.of (fun j a=>?_) (fun j a=>?_) ?_
 .by_cases e:j=i
  .subst e;exact(fy.lat n n A).ext _ _ ((fy.lat n n A).smul (fy.col a) (-1)) (fun r _=>by simp[cE])
  .exact(fy.lat n n A).ext _ _ (fy.col a) (fun r _=>by simp[cE,e])
 .by_cases e:j=i
  .subst e;exact(fy.lat n n _).ext _ _ ((fy.lat n n _).smul (fy.col (j:=j) a) (-1)) (fun r _=>by simp[cE])
  .exact(fy.lat n n _).ext _ _ (fy.col (j:=j) a) (fun r _=>by simp[cE,e])
 .have h:=DX A b (-1) 0 (fun r=>A r i) (fun r=>A r i);have e:cE A i (fun r=>-1*A r i+0*A r i)=cE A i (fun r=>- A r i):=by congr 1;funext r;omega
  rw[e,ln]at h;omega
def Bz(A:aI)(h:∀j,0<j->j<n+1->A 0 j=0):det (n+1) A=A 0 0*det n (fun i j=>A (i+1) (j+1)):=by
 simp only[det];rw[dr 0 om (fun j a b=>by rw[h j om a];simp)]
 simp only[zI,fA];congr 1
 all_goals (first|rfl|(exact cD fun i j _ _=>by simp[cut,skip]))
def nR:Nat->(Nat->Int)->Int
 | 0,_=>1
 | n+1,f=>f 0*nR n (fun i=>f (i+1))
def xO(n i:Nat)(A:aI):Prop:=∀r,r<i->(∀j,r<j->j<n->A r j=0)/\0<A r r
theorem yJ{n:Nat}:∀(i:Nat) (A:aI),xO (n+i) i A->det (n+i) A=nR i (fun r=>A r r)*det n (fun r j=>A (r+i) (j+i))
 | 0,A,_=>by simp[nR]
 | i+1,A,h=>by
  rw[<-kW,Bz A (fun j a b=>(h 0 om).1 j a om),yJ i (fun r j=>A (r+1) (j+1)) (fun r c=>⟨fun j d e=>(h (r+1) om).1 (j+1) om om,(h (r+1) om).2⟩)];simp only[nR];rw[jn];rfl
def vW{f:Nat->Int}(h:∀i,i<n->0<f i):0<nR n f:=by
 induction n generalizing f with
 | zero=>simp[nR]
 | succ n ih=>simp only[nR];exact o0 (h 0 om) (ih fun i a=>h (i+1) om)
def dU:Nat->(Nat->Int)->Nat
 | 0,_=>0
 | n+1,f=>dU n f+(f n).natAbs
def N8{f g:Nat->Int}(b:k<n)(h:∀j,j<n->j≠k->f j=g j)(c:(f k).natAbs<(g k).natAbs):dU n f<dU n g:=by
 induction n with
 | zero=>omega
 | succ n ih =>
  simp only[dU];by_cases e:k=n
  .subst e;have:dU k f=dU k g:=by
    have key:∀m,m<=k->dU m f=dU m g:=by
     intro m
     induction m with
     | zero=>intro _;rfl
     | succ m a=>intro d;simp only[dU];rw[a om,h m om om]
    exact key k (ae _)
   omega
  .rw[h n om (aj e)];have:=ih om (fun j i=>h j om);omega
def FZ(A:aI)(h:∀j,j<n+1->A 0 j=0):det (n+1) A=0:=by
 simp only[det];exact jh fun j a=>by rw[h j a];simp
def O5(G:i<n):∀(m:Nat) (A:aI),dU n (fun j=>if i<=j then A i j else 0)=m->xO n i A->det n A≠0->∃B,kV n A B/\xO n (i+1) B:=by
 intro m
 induction m using Nat.strongRecOn with
 | ind m ih =>
  intro A K q L;by_cases z:∃d a,i<=d/\d<n/\i<=a/\a<n/\d≠a/\A i d≠0/\(A i d).natAbs<=(A i a).natAbs
  .obtain⟨d,a,C,u,v,s,t,w,y⟩:=z;have H:=KI A s u (aj t) (-(A i a/A i d));have D:(A i a+-(A i a/A i d)*A i d).natAbs<(A i a).natAbs:=by
    have e:A i a+-(A i a/A i d)*A i d=A i a%A i d:=by
     rw[Sf];grind
    rw[e];have M:=aW (A i a) w;have N:=UC (A i a) w;omega
   have E:xO n i (cE A a (fun r=>A r a+-(A i a/A i d)*A r d)):=by
    refine fun r o=>⟨fun j g b=>?_,?_⟩
    .by_cases e:j=a
     .subst e;simp only[cE,aQ];rw[(q r o).1 j g b,(q r o).1 d om u];simp
     .simp only[cE,e,aS];exact(q r o).1 j g b
    .simp only[cE];rw[af om];exact(q r o).2
   obtain⟨B,p,f⟩:=ih (dU n (fun j=>if i<=j then cE A a (fun r=>A r a+-(A i a/A i d)*A r d) i j else 0)) (by
     rw[<-K];refine N8 s (fun j _ g=>?_) ?_
     .simp[cE,g]
     .simp only[v,aQ,cE];exact D) _ rfl E (by
     have:=H.2;intro l;rw[l]at this;omega)
   exact⟨B,H.trans p,f⟩
  .have F:∃c,i<=c/\c<n/\A i c≠0:=by
    rcases iJ (∃c,i<=c/\c<n/\A i c≠0)with h|h
    .exact h
    .exfalso;refine L ?_;obtain⟨k,rfl⟩:∃k,n=k+1+i:=⟨n-i-1,om⟩
     rw[yJ i A q,FZ (n:=k) _ (fun j g=>?_),vD];rcases iJ (A (0+i) (j+i)=0)with l|l
     .exact l
     .exact absurd ⟨j+i,om,om,by rw[aD]at l;exact l⟩ h
   obtain⟨c,C,u,v⟩:=F;have I:∀j,i<=j->j<n->j≠c->A i j=0:=by
    intro j s t w;rcases iJ (A i j=0)with l|l
    .exact l
    .exfalso;rcases Nat.le_total (A i j).natAbs (A i c).natAbs with y|y
     .exact z ⟨j,c,s,t,C,u,w,l,y⟩
     .exact z ⟨c,j,C,u,s,t,aj w,v,y⟩
   have s:∃B,kV n A B/\xO n i B/\B i i≠0/\∀j,i<j->j<n->B i j=0:=by
    by_cases e:i=c
    .subst e;exact⟨A,kV.refl n A,q,v,fun j g b=>I j om b om⟩
    .refine⟨_,Hg A G u e,fun r o=>⟨fun j g b=>?_,?_⟩,?_,fun j g b=>?_⟩
     .have:r<dO i c j/\dO i c j<n:=by unfold dO;split<;>(try split)<;>omega
      exact(q r o).1 _ this.1 this.2
     .have:dO i c r=r:=by unfold dO;rw[af om,af om]
      show 0<A r (dO i c r);rw[this];exact(q r o).2
     .show A i (dO i c i)≠0;have:dO i c i=c:=by simp[dO]
      rw[this];exact v
     .show A i (dO i c j)=0;refine I _ ?_ ?_ ?_<;>(unfold dO;split<;>(try split)<;>omega)
   obtain⟨B,p,f,O,x⟩:=s;rcases qF 0 (B i i)with t|t
   .refine⟨B,p,fun r o=>?_⟩;by_cases e:r=i
    .subst e;exact⟨x,t⟩
    .exact f r om
   .refine⟨_,p.trans (KJ B G),fun r o=>⟨fun j g b=>?_,?_⟩⟩
    .simp only[cE];by_cases e:r=i
     .subst e;rw[af om];exact x j g b
     .by_cases J:j=i
      .subst J;rw[ai rfl,(f r om).1 j g b];rfl
      .rw[af J];exact(f r om).1 j g b
    .simp only[cE];by_cases e:r=i
     .subst e;rw[ai rfl];omega
     .rw[af e];exact(f r om).2
def G6(A:aI)(f:det n A≠0):∃B,kV n A B/\xO n n B:=by
 have key:∀i,i<=n->∃B,kV n A B/\xO n i B:=by
  intro i
  induction i with
  | zero=>intro _;exact⟨A,kV.refl n A,fun r g=>om⟩
  | succ i ih =>
   intro h;obtain⟨B,a,b⟩:=ih om;obtain⟨C,c,d⟩:=O5 om _ B rfl b (by have:=a.2;intro e;rw[e]at this;omega)
   exact⟨C,a.trans c,d⟩
 exact key n (ae _)
def My(h:kV n A B)(b:xO n n B):((det n A).natAbs:Int)=nR n (fun r=>B r r):=by
 have a:=yJ (n:=0) n B (by rw[aD];exact b)
 rw[aD]at a;simp only[det,sf]at a;have d:=vW (n:=n) (f:=fun r=>B r r) (fun r c=>(b r c).2);rw[h.2,a];omega

def bz(x y:Nat):Int×Int×Int :=
 if h:y=0 then(x,1,0)else
  have:x%y<y:=dj _ (gO h)
  ((bz y (x%y)).1,(bz y (x%y)).2.2,(bz y (x%y)).2.1-((x/y:Nat):Int)*(bz y (x%y)).2.2)
termination_by y
def nk(x:Nat):bz x 0=((x:Int),1,0):=by rw[bz];simp
def rW(x:Nat){y:Nat}(h:y≠0):bz x y=((bz y (x%y)).1,(bz y (x%y)).2.2,(bz y (x%y)).2.1-((x/y:Nat):Int)*(bz y (x%y)).2.2):=by
 rw[bz];simp[h]
def D3:∀(n x y:Nat),y<=n->(bz x y).1=(bz x y).2.1*x+(bz x y).2.2*y:=by
 intro n
 induction n with
 | zero=>intro x y h;rw[(om:y=0),nk];simp
 | succ n ih =>
  intro x y h;by_cases a:y=0
  .rw[a,nk];simp
  .have b:=ih y (x%y) (by have:=dj x (gO a);omega)
   rw[rW x a];simp only;rw[b];have e:(x:Int)=((x/y:Nat):Int)*y+((x%y:Nat):Int):=by
    have:=dd x y;rw[aA]at this
    exact_mod_cast this.symm
   generalize ((x/y:Nat):Int)=q at *;generalize ((x%y:Nat):Int)=r at *;rw[e];grind
def D4:∀(n x y:Nat),y<=n->(bz x y).1∣(x:Int)/\(bz x y).1∣(y:Int):=by
 intro n
 induction n with
 | zero=>intro x y h;rw[(om:y=0),nk];exact⟨jf _,je _⟩
 | succ n ih =>
  intro x y h;by_cases a:y=0
  .rw[a,nk];exact⟨jf _,je _⟩
  .have b:=ih y (x%y) (by have:=dj x (gO a);omega)
   rw[rW x a];refine⟨?_,b.1⟩;have e:(x:Int)=(y:Int)*((x/y:Nat):Int)+((x%y:Nat):Int):=by exact_mod_cast (dd x y).symm
   rw[e];exact jP (eQ b.1) b.2
def AA:∀(n x y:Nat),y<=n->(0<x∨0<y)->0<(bz x y).1/\(bz x y).1<=max x y:=by
 intro n
 induction n with
 | zero=>intro x y h h';rw[(om:y=0),nk];simp only;omega
 | succ n ih =>
  intro x y h h';by_cases a:y=0
  .rw[a,nk];simp only;omega
  .have b:=dj x (gO a);have c:=ih y (x%y) om om;rw[rW x a];simp only;omega
def NY:∀(n x y:Nat),y<=n->0<y->((bz x y).2.1).natAbs<=y/\((bz x y).2.2).natAbs<=max 1 x:=by
 intro n
 induction n with
 | zero=>intro x y h h';omega
 | succ n ih =>
  intro x y h h';have b:=dj x h';rw[rW x om];simp only;by_cases a:x%y=0
  .rw[a,nk];simp only;omega
  .have c:=ih y (x%y) om om;have e:=dd x y;have d:(((x/y:Nat):Int)*(bz y (x%y)).2.2).natAbs<=x/y*y:=by
    rw[cJ,fN];exact aM _ om
   rw[aA]at e;omega
structure L2(x0 y0 x y:Nat)(a b na nb:Int):Prop where
 fa:a*(bz x y).2.1+na*(bz x y).2.2=(bz x0 y0).2.1
 fb:b*(bz x y).2.1+nb*(bz x y).2.2=(bz x0 y0).2.2
 fd:(bz x y).1=(bz x0 y0).1
 pos:0<x∨0<y
 sa:na.natAbs*x+a.natAbs*y=y0
 sb:nb.natAbs*x+b.natAbs*y=x0
 ga:(0<=a/\na<=0)∨(a<=0/\0<=na)
 gb:(0<=b/\nb<=0)∨(b<=0/\0<=nb)
 la:a.natAbs<=max 1 y0
 lb:b.natAbs<=max 1 x0
 lna:na.natAbs<=max 1 y0
 lnb:nb.natAbs<=max 1 x0
 lx:x<=max x0 y0
 ly:y<=max x0 y0
def L2.init(h:0<x0∨0<y0):L2 x0 y0 x0 y0 1 0 0 1:=by
 refine⟨sm,sm,rfl,h,sm,sm,sm,sm,by simp;omega,sm,sm,by simp;omega,om,om⟩
def pZ(c:0<=q)(h:(0<=a/\b<=0)∨(a<=0/\0<=b)):(a-q*b).natAbs=a.natAbs+q.natAbs*b.natAbs/\((0<=b/\a-q*b<=0)∨(b<=0/\0<=a-q*b)):=by
 rcases h with⟨f,d⟩|⟨f,d⟩
 .have e:0<=q*(-b):=cK c om;rw[m9]at e;rw[<-cJ];omega
 .have e:0<=q*b:=cK c d;rw[<-cJ];omega
def L2.step{x y:Nat}{nb:Int}(h:L2 x0 y0 x y a b na nb)(j:y≠0):L2 x0 y0 y (x%y) na nb (a-((x/y:Nat):Int)*na) (b-((x/y:Nat):Int)*nb):=by
 have e:=dd x y;have f:=rW x j;have g:=pZ (q:=((x/y:Nat):Int)) (cA _) h.ga;have i:=pZ (q:=((x/y:Nat):Int)) (cA _) h.gb;rw[fN]at g i;have sa:(a-((x/y:Nat):Int)*na).natAbs*y+na.natAbs*(x%y)=y0:=by
  rw[g.1];have:=h.sa;generalize x/y=q at *;generalize x%y=r at *;subst e;rw[<-this];grind
 have sb:(b-((x/y:Nat):Int)*nb).natAbs*y+nb.natAbs*(x%y)=x0:=by
  rw[i.1];have:=h.sb;generalize x/y=q at *;generalize x%y=r at *;subst e;rw[<-this];grind
 have k:∀c d:Nat,c*y+d=y0->c<=y0:=fun c d h=>by
  have:c*1<=c*y:=aM _ om;omega
 have l:∀c d:Nat,c*y+d=x0->c<=x0:=fun c d h=>by
  have:c*1<=c*y:=aM _ om;omega
 refine⟨?_,?_,?_,bF om,sa,sb,g.2,i.2,h.lna,h.lnb,by have:=k _ _ sa;omega,by have:=l _ _ sb;omega,h.ly,by have:=h.ly;have:=dj x (gO j);omega⟩
 .have:=h.fa;rw[f]at this;simp only at this;rw[<-this];grind
 .have:=h.fb;rw[f]at this;simp only at this;rw[<-this];grind
 .have:=h.fd;rw[f]at this;exact this
def L2.fin{x:Nat}{nb:Int}(h:L2 x0 y0 x 0 a b na nb):bz x0 y0=((x:Int),a,b):=by
 have c:=h.fa;have d:=h.fb;have e:=h.fd;rw[nk]at c d e;simp only at c d e;ext<;>simp only<;>omega

def gR(P:Prop):∃β:Bool,(β=true↔P):=by
 rcases iJ P with h|h
 .exact⟨true,by simp[h]⟩
 .exact⟨false,by simp[h]⟩
def cL{P:Prop}(h:β=true↔P)(a:¬P):β=false:=by
 cases β with
 | false=>rfl
 | true=>exact absurd (h.1 rfl) a
def tt(p:Nat):Prop:=2<=p/\∀d,2<=d->d*d<=p->¬p%d=0
def tt.div(a:tt p)(h:d∣p):d=1∨d=p:=by
 obtain⟨e,rfl⟩:=h;have g:=a.1;rcases (om:d=0∨d=1∨2<=d)with rfl|rfl|c
 .omega
 .exact bF rfl
 .rcases (om:e=0∨e=1∨2<=e)with rfl|rfl|f
  .omega
  .exact bH om
  .exfalso;rcases Nat.le_total d e with b|b
   .exact a.2 d c (aM d b) (Nat.mul_mod_right d e)
   .exact a.2 e f (aB e b) (Nat.mul_mod_left d e)
def tt.gcd{a:Nat}(c:tt p)(h:¬p∣a):(bz p a).1=1:=by
 obtain⟨g,i⟩:=D4 a p a (ae a);have d:=(AA a p a (ae a) (bF (by have:=c.1;omega))).1
 have e:=jz.2 g;have b:=jz.2 i;rw[fN]at e b;rcases c.div e with f|f
 .omega
 .rw[f]at b;exact absurd b h
def rf(p a:Int):Int:=(bz p.toNat (a%p).toNat).2.2%p
def tt.gcd'(b:tt p)(h:¬(p:Int)∣a):(bz (p:Int).toNat (a%p).toNat).1=1:=by
 have g:=b.1;have c:=aW a (show(p:Int)≠0 by omega)
 have d:(((a%p).toNat:Nat):Int)=a%p:=cY c;rw[cC];exact b.gcd (a:=(a%p).toNat) (fun e=>h (eg (by
  have:=Int.natCast_dvd_natCast.2 e;rw[d]at this;have f:=dw this
  rwa [Int.emod_emod]at f)))
def tt.inv(b:tt p)(h:¬(p:Int)∣a):(p:Int)∣a*rf p a-1:=by
 have j:=b.1;have d:=aW a (show(p:Int)≠0 by omega)
 have e:(((a%p).toNat:Nat):Int)=a%p:=cY d;have c:=b.gcd' h;rw[cC]at c;have f:=D3 (a%p).toNat p (a%p).toNat (ae _);rw[c,e]at f;unfold rf;rw[cC];generalize (bz p (a%p).toNat).2.1=u at *;generalize (bz p (a%p).toNat).2.2=w at *;have g:=dC a p;have i:=dC w p;refine⟨a/p*(w%p)-(a%p)*(w/p)-u,?_⟩;generalize a%(p:Int)=r at *;generalize a/(p:Int)=q at *;generalize w%(p:Int)=s at *;generalize w/(p:Int)=t at *;subst g;subst i
 grind
def tt.inv1(b:tt p)(h:¬(p:Int)∣a):(a%p*rf p a)%p=1:=by
 obtain⟨c,d⟩:=b.inv h;have e:=b.1;rw[fX,Int.emod_emod,<-fX,(om:a*rf p a=1+p*c),qR]
 exact dZ om om
def tt.mul(g:tt p)(a b:Int)(h:(p:Int)∣a*b):(p:Int)∣a∨(p:Int)∣b:=by
 by_cases e:(p:Int)∣a
 .exact bF e
 .obtain⟨c,k⟩:=g.inv e;obtain⟨d,i⟩:=h;refine bH ⟨rf p a*d-c*b,?_⟩;generalize rf p a=u at *;have j:a*u*b=b+p*c*b:=by rw[(om:a*u=1+p*c)];grind
  have f:a*u*b=u*(a*b):=by grind
  rw[i]at f;rw[j]at f;rw[se];have l:u*(↑p*d)=↑p*(u*d):=by grind
  have m:↑p*(c*b)=↑p*c*b:=by grind
  omega
def zS{p:Int}(b:0<p)(a:Int):0<=rf p a/\rf p a<p:=⟨aW _ om,aV _ om⟩
def sH(p:Nat):Prop:=tt p/\3<=p/\p<=9973
def sH.odd(h:sH p):p%2=1:=by
 have b:=h.2.1;rcases aC p 4 with a|a
 .omega
 .have:=h.1.2 2 om om;omega





def iE(n:Nat)(f:Nat->Int):ay (n+1) f=f 0+ay n (fun j=>f (j+1)):=by
 induction n with
 | zero=>simp[ay]
 | succ n ih=>rw[ay,ih];simp only[ay];omega
def jt{f:Nat->Int}(a:∀i,i<n->h∣f i):h∣ay n f:=by
 induction n with
 | zero=>exact je _
 | succ n ih=>simp only[ay];exact jP (ih fun i b=>a i om) (a n om)
def lm(n:Nat)(f g:Nat->Int):ay n (fun i=>f i-g i)=ay n f-ay n g:=by
 induction n with
 | zero=>rfl
 | succ n ih=>simp only[ay];rw[ih];omega
def Ca(n:Nat)(f:Nat->Int):ay n (fun i=>- f i)=- ay n f:=by
 induction n with
 | zero=>rfl
 | succ n ih=>simp only[ay];rw[ih];omega
def Fg(n:Nat)(c:Int):ay n (fun _=>c)=n*c:=by
 induction n with
 | zero=>simp[ay]
 | succ n ih=>simp only[ay];rw[ih];grind
def mP(d:Nat)(c:Nat->Int)(x:Int):Int:=ay d (fun i=>c i*x^i)
def JD{N:Nat}(h:∀i,d<=i->c i=0)(a:d<=N)(x:Int):mP N c x=mP d c x:=by
 induction N with
 | zero=>rw[(om:d=0)]
 | succ N ih =>
  by_cases e:d=N+1
  .rw[e]
  .simp only[mP,ay];rw[h N om];simp only[mP]at ih;rw[ih om];omega
def rQ(d:Nat)(c:Nat->Int)(x:Int):mP (d+1) c x=c 0+x*mP d (fun i=>c (i+1)) x:=by
 simp only[mP];rw[iE,<-cR];congr 1
 .simp
 .exact aE fun i _=>by rw[fE];grind
theorem su:∀(d:Nat) (c:Nat->Int),(∀x:Int,1<=x->mP d c x=0)->∀i,i<d->c i=0
 | 0,_,_,_,b=>om
 | d+1,c,h,i,b=>by
  have f:c 0=0:=by
   have a:=h ((c 0).natAbs+1) om;rw[rQ]at a;have g:(((c 0).natAbs:Int)+1)∣c 0:=⟨- mP d (fun i=>c (i+1)) ((c 0).natAbs+1),by rw[m9];omega⟩
   have j:=jz.2 g;rcases a6 (c 0).natAbs with e|e
   .omega
   .have l:=BK e j;omega
  have a:∀x:Int,1<=x->mP d (fun i=>c (i+1)) x=0:=by
   intro x k;have a:=h x k;rw[rQ,f,Sb]at a;rcases jI.1 a with e|e
   .omega
   .exact e
  match i,b with
  | 0,_=>exact f
  | i+1,b=>exact su d (fun i=>c (i+1)) a i om
def JA(d:Nat)(c e:Nat->Int)(x:Int):mP d (fun i=>c i-e i) x=mP d c x-mP d e x:=by
 simp only[mP];rw[<-lm];exact aE fun i _=>by rw[Int.sub_mul]
def Px(d:Nat)(c e:Nat->Int)(x:Int):mP d (fun i=>c i+e i) x=mP d c x+mP d e x:=by
 simp only[mP];rw[<-eD];exact aE fun i _=>by rw[yS]
def JC(d:Nat)(a:Int)(c:Nat->Int)(x:Int):mP d (fun i=>a*c i) x=a*mP d c x:=by
 simp only[mP];rw[<-cR];exact aE fun i _=>by rw[jn]
def Fv{e:Nat->Int}(h:∀x,mP d c x=mP d e x){i:Nat}(a:i<d):c i=e i:=by
 have:=su d (fun i=>c i-e i) (fun x _=>by rw[JA,h x];omega) i a
 omega
def Jz(d n:Nat)(c:Nat->Nat->Int)(x:Int):mP d (fun i=>ay n (fun j=>c j i)) x=ay n (fun j=>mP d (c j) x):=by
 simp only[mP];rw[pR];refine aE fun i _=>?_;rw[cX,<-cR];exact aE fun j _=>by rw[cX]
def Uj(c:Nat->Int):Nat->Int
 | 0=>0
 | i+1=>c i
def JB(d:Nat)(c:Nat->Int)(x:Int):mP (d+1) (Uj c) x=x*mP d c x:=by
 rw[rQ];show 0+x*mP d c x=_;omega
def sc(d:Nat)(f:Int->Int):Prop:=∃c:Nat->Int,(∀i,d<=i->c i=0)/\∀x,f x=mP d c x
def sc.mono{e:Nat}(h:sc d f)(b:d<=e):sc e f:=by
 obtain⟨c,a,g⟩:=h;exact⟨c,fun i j=>a i om,fun x=>by rw[g x,JD a b]⟩
def sc.add{g:Int->Int}(h:sc d f)(k:sc d g):sc d (fun x=>f x+g x):=by
 obtain⟨c,b,j⟩:=h;obtain⟨e,l,m⟩:=k;exact⟨fun i=>c i+e i,fun i a=>by simp only;rw[b i a,l i a];rfl,fun x=>by rw[Px,<-j x,<-m x]⟩
def sc.smul(h:sc d f)(a:Int):sc d (fun x=>a*f x):=by
 obtain⟨c,b,e⟩:=h;exact⟨fun i=>a*c i,fun i g=>by simp only;rw[b i g,vD],fun x=>by rw[JC,<-e x]⟩
def sc.xmul(h:sc d f):sc (d+1) (fun x=>x*f x):=by
 obtain⟨c,b,e⟩:=h;refine⟨Uj c,fun i a=>?_,fun x=>by rw[JB,<-e x]⟩
 match i,a with
 | i+1,a=>exact b i om
def sc.zero(d:Nat):sc d (fun _=>0):=⟨fun _=>0,fun _ _=>rfl,fun x=>by
 simp only[mP];rw[jh];intro i _;rw[vC]⟩
theorem sc.sum{d:Nat}:∀{n:Nat} {f:Nat->Int->Int},(∀j,j<n->sc d (f j))->sc d (fun x=>ay n (fun j=>f j x))
 | 0,_,_=>by simp only[ay];exact sc.zero d
 | n+1,f,h=>by simp only[ay];exact(sc.sum fun j a=>h j om).add (h n om)
def sc.congr{g:Int->Int}(h:sc d f)(e:∀x,g x=f x):sc d g:=by
 obtain⟨c,a,b⟩:=h;exact⟨c,a,fun x=>(e x).trans (b x)⟩
def sc.lin(h:sc d f)(a b:Int):sc (d+1) (fun x=>(a+b*x)*f x) :=
 (((h.smul a).mono om).add (h.xmul.smul b)).congr fun x=>by grind
def OG:Nat->(Nat->Bool)->Nat
 | 0,_=>0
 | n+1,R=>(if R 0 then 0 else 1)+OG n (fun i=>R (i+1))
theorem DV:∀(n:Nat) (R:Nat->Bool) (a b:aI),(∀i,R i=true->∀j,b i j=0)->sc (1+OG n R) (fun x=>det n (fun i j=>a i j+b i j*x))
 | 0,R,a,b,_=>⟨fun i=>if i=0 then 1 else 0,fun i c=>by simp only[OG]at c;exact af om,fun x=>by simp[det,OG,mP,ay]⟩
 | n+1,R,a,b,h=>by
  simp only[det,OG];refine sc.sum fun j _=>?_;have ih:=DV n (fun i=>R (i+1)) (cut a j) (cut b j) (fun i c k=>h (i+1) c _);have e:∀x:Int,cut (fun i j=>a i j+b i j*x) j=fun i k=>cut a j i k+cut b j i k*x:=fun x=>rfl
  cases d:R 0 with
  | true =>
   refine((ih.smul (xq j*a 0 j)).congr fun x=>?_).mono sm
   rw[e x,h 0 d j];grind
  | false =>
   refine((ih.lin (xq j*a 0 j) (xq j*b 0 j)).congr fun x=>?_).mono (by simp;omega)
   rw[e x];grind
theorem JW:∀(n:Nat) (R:Nat->Bool),OG n R<=n
 | 0,_=>ae _
 | n+1,R=>by have:=JW n (fun i=>R (i+1));simp only[OG];split<;>omega
theorem DT:∀(n:Nat) (R:Nat->Bool) (i:Nat),i<n->R i=true->OG n R+1<=n
 | n+1,R,0,_,h=>by have:=JW n (fun i=>R (i+1));simp only[OG,h,aQ];omega
 | n+1,R,i+1,a,h=>by have:=DT n (fun i=>R (i+1)) i om h;simp only[OG];split<;>omega
def cm(M:aI)(x:Int):aI:=fun i j=>- M i j+(if i=j then 1 else 0)*x
theorem F4:∀(n:Nat) (M:aI),sc n (fun x=>det n (cm M x)-x^n)
 | 0,M=>⟨fun _=>0,fun _ _=>rfl,fun x=>by simp[det,mP,ay]⟩
 | n+1,M=>by
  have ih:=F4 n (fun i j=>M (i+1) (j+1));have c:sc (n+1) (fun x=>x^n):=⟨fun i=>if i=n then 1 else 0,fun i a=>af om,fun x=>by
   simp only[mP];rw[dr n om (fun i _ a=>by rw[af a,vC])];simp⟩
  have b:∀j,j<n->sc (n+1) (fun x=>xq (j+1)*cm M x 0 (j+1)*det n (cut (cm M x) (j+1))):=by
   intro j b;have d:=DV n (fun i=>decide (i=j)) (cut (fun i j=>- M i j) (j+1)) (cut (fun i j=>if i=j then 1 else 0) (j+1)) (fun i a k=>by
    simp only[gE]at a;subst a;simp only[cut];exact af (by unfold skip;split<;>omega))
   have l:=DT n (fun i=>decide (i=j)) j b sm
   refine((d.smul (xq (j+1)*- M 0 (j+1))).mono om).congr fun x=>?_;have e:cm M x 0 (j+1)=- M 0 (j+1):=by simp[cm]
   rw[e];rfl
  have f:=sc.sum b;refine(((ih.lin (- M 0 0) 1).add (c.smul (- M 0 0))).add f).congr fun x=>?_;simp only[det];rw[iE];have g:cut (cm M x) 0=cm (fun i j=>M (i+1) (j+1)) x:=by
   funext i k;simp[cut,cm,skip]
  have h:cm M x 0 0=- M 0 0+x:=by simp[cm]
  rw[g,h,zI,fE]
  grind
def Ti(M:aI){i:Nat}(d:i<n)(j:Nat):sc n (fun x=>td n (cm M x) i j):=by
 have f:=DV n (fun k=>decide (k=i)) (setRow (fun i j=>- M i j) i (gU j)) (fun a b=>if a=i then 0 else if a=b then 1 else 0) (fun k c b=>by
  simp only[gE]at c;simp[c])
 have g:=DT n (fun k=>decide (k=i)) i d sm
 refine(f.mono om).congr fun x=>?_;unfold td;congr 1;funext a b;simp only[setRow,cm];by_cases e:a=i
 .simp[e]
 .simp[e]
theorem uq{h:Int}:∀(n:Nat) (B C:aI),(∀i j,h∣B i j-C i j)->h∣det n B-det n C
 | 0,_,_,_=>by simp[det]
 | n+1,B,C,a=>by
  simp only[det];rw[<-lm];refine jt fun j _=>?_;obtain⟨u,d⟩:=uq n (cut B j) (cut C j) (fun i k=>a _ _);obtain⟨v,e⟩:=a 0 j;refine⟨xq j*(B 0 j*u+v*det n (cut C j)),?_⟩;have b:det n (cut B j)=det n (cut C j)+h*u:=om
  have c:B 0 j=C 0 j+h*v:=om
  rw[b,c];grind
def dg(A:aI)(h:Int)(m:Nat):aI:=fun i j=>A i j+(if i<m/\i=j then h else 0)
theorem NP(n:Nat)(A:aI)(h:Int):∀m,m<=n->h*h∣det n (dg A h m)-det n A-h*ay m (fun i=>td n A i i)
 | 0,_=>by
  have:dg A h 0=A:=by funext i j;simp[dg]
  rw[this];simp[ay]
 | m+1,d=>by
  obtain⟨q,f⟩:=NP n A h m om;have b:dg A h (m+1)=setRow (dg A h m) m (fun j=>dg A h m m j+h*gU m j):=by
   funext i j;simp only[dg,setRow,gU];by_cases e:i=m
   .subst e;by_cases a:i=j
    .subst a;simp
    .simp[a,aj a]
   .simp only[e,aS];congr 1;by_cases a:i<m
    .simp[a,(om:i<m+1)]
    .simp[a,(om:¬i<m+1)]
  have a:det n (dg A h (m+1))=det n (dg A h m)+h*td n (dg A h m) m m:=by
   rw[b,kl _ om,rn _ om,ke];rfl
  obtain⟨u,g⟩:=uq (h:=h) n (setRow (dg A h m) m (gU m)) (setRow A m (gU m)) (fun i j=>by
   simp only[setRow,dg];split
   .simp
   .split
    .exact⟨1,om⟩
    .exact⟨0,om⟩)
  refine⟨q+u,?_⟩;have c:td n (dg A h m) m m=td n A m m+h*u:=by unfold td;omega
  rw[a,c];simp only[ay];have:det n (dg A h m)=det n A+h*ay m (fun i=>td n A i i)+h*h*q:=om
  rw[this];grind
theorem Jv(x h:Int):∀i:Nat,h*h∣(x+h)^i-x^i-h*(i*x^(i-1))
 | 0=>by simp
 | i+1=>by
  obtain⟨q,a⟩:=Jv x h i;refine⟨(x+h)*q+i*x^(i-1),?_⟩;have e:(x+h)^i=x^i+h*(i*x^(i-1))+h*h*q:=om
  rw[fE,e,fE];have b:(i:Int)*x^i=i*x^(i-1)*x:=by
   match i with
   | 0=>simp
   | i+1=>simp only[fK];rw[fE,jn]
  simp only[fK,eB,wT]
  grind
def Ur(c:Nat->Int):Nat->Int:=fun i=>(i+1)*c (i+1)
def Pw(d:Nat)(c:Nat->Int)(x h:Int):h*h∣mP (d+1) c (x+h)-mP (d+1) c x-h*mP d (Ur c) x:=by
 have e:mP d (Ur c) x=ay (d+1) (fun i=>c i*(i*x^(i-1))):=by
  rw[iE];simp only[mP,Ur];rw[show c 0*(((0:Nat):Int)*x^(0-1))=0 by simp,Sb]
  refine aE fun i _=>?_;simp only[fK,eB,wT];grind
 rw[e,<-cR];simp only[mP];rw[<-lm,<-lm];refine jt fun i _=>?_;obtain⟨q,a⟩:=Jv x h i;exact⟨c i*q,by
  have e:(x+h)^i=x^i+h*(i*x^(i-1))+h*h*q:=om
  rw[e];grind⟩
def Qu(h:∀k:Int,1<=k->k∣z):z=0:=by
 have a:=jz.2 (h (z.natAbs+1) om);rcases a6 z.natAbs with e|e
 .omega
 .have b:=BK e a;omega
def mm(n:Nat)(A B:aI):aI:=fun i j=>ay n (fun k=>A i k*B k j)
def tr(n:Nat)(A:aI):Int:=ay n (fun i=>A i i)
def rm(n:Nat)(M:aI):Nat->aI
 | 0=>fun i j=>if i=j then 1 else 0
 | k+1=>fun i j=>mm n M (rm n M k) i j+(if i=j then tr n (mm n M (rm n M k))/(-((k+1:Nat):Int))else 0)
def PZ(B:1<=n)(M:aI):∃(a:Nat->Nat->Nat->Int) (χ:Nat->Int),χ n=1/\(∀i j,i<n->j<n->a i j n=0)
 /\(∀i r k,i<n->r<n->k<=n->Uj (a i r) k-ay n (fun j=>M r j*a i j k)=if i=r then χ k else 0)
 /\(∀k,k<n->ay n (fun i=>a i i k)=(k+1)*χ (k+1))
 /\(∀i j,i<n->j<n->a i j 0=td n (cm M 0) i j):=by
 have p:∀i j,∃c:Nat->Int,i<n->((∀k,n<=k->c k=0)/\∀x,td n (cm M x) i j=mP n c x):=fun i j=>by
  by_cases b:i<n
  .obtain⟨c,h⟩:=Ti M b j;exact⟨c,fun _=>h⟩
  .exact⟨fun _=>0,fun h=>absurd h b⟩
 obtain⟨a,d⟩:∃a:Nat->Nat->Nat->Int,∀i j,i<n->((∀k,n<=k->a i j k=0)/\∀x,td n (cm M x) i j=mP n (a i j) x) :=
  ⟨fun i j=>(p i j).choose,fun i j=>(p i j).choose_spec⟩
 obtain⟨e,t,o⟩:=F4 n M;have hχ:∀x,det n (cm M x)=mP (n+1) (fun k=>if k=n then 1 else e k) x:=by
  intro x;have f:=o x;simp only[mP,ay]at f ⊢;rw[aE (g:=fun i=>e i*x^i) (fun i b=>by rw[af om]),<-f];simp
 refine⟨a,fun k=>if k=n then 1 else e k,sm,fun i j b _=>(d i j b).1 n (ae _),fun i r k b q s=>?_,fun k s=>?_,fun i j b l=>?_⟩
 .have key:∀x,mP (n+1) (fun k=>Uj (a i r) k-ay n (fun j=>M r j*a i j k)) x=mP (n+1) (fun k=>if i=r then(if k=n then 1 else e k)else 0) x:=by
   intro x;have f:=DB (cm M x) b q;rw[JA,JB,Jz (n+1) n (fun j k=>M r j*a i j k)];rw[aE (g:=fun j=>M r j*td n (cm M x) i j) (fun j l=>by rw[JC,JD (d i j b).1 om,<-(d i j b).2 x])]
   rw[<-(d i r b).2 x];have w:ay n (fun j=>cm M x r j*td n (cm M x) i j)=x*td n (cm M x) i r-ay n (fun j=>M r j*td n (cm M x) i j):=by
    rw[aE (g:=fun j=>(if r=j then x*td n (cm M x) i j else 0)-M r j*td n (cm M x) i j) (fun j _=>by simp only[cm];split<;>grind),lm]
    rw[dr r q (fun j _ l=>by rw[af (aj l)])];simp
   rw[<-w,f];split
   .rw[hχ x]
   .simp only[mP];rw[jh];intro k _;rw[vC]
  exact Fv key om
 .have key:∀x,mP n (fun k=>ay n (fun i=>a i i k)) x=mP n (Ur (fun k=>if k=n then 1 else e k)) x:=by
   intro x;rw[Jz n n (fun i k=>a i i k)];rw[aE (g:=fun i=>td n (cm M x) i i) (fun i b=>by rw[<-(d i i b).2 x])]
   have:∀k:Int,1<=k->k∣ay n (fun i=>td n (cm M x) i i)-mP n (Ur (fun k=>if k=n then 1 else e k)) x:=by
    intro h C;obtain⟨u,y⟩:=NP n (cm M x) h n (ae _);obtain⟨v,D⟩:=Pw n (fun k=>if k=n then 1 else e k) x h
    have z:det n (dg (cm M x) h n)=det n (cm M (x+h)):=cD fun i j b l=>by
     simp only[dg,cm];by_cases e:i=j
     .subst e;simp[b];omega
     .simp[e]
    rw[z,hχ,hχ]at y;refine⟨v-u,?_⟩;have A:h*(ay n (fun i=>td n (cm M x) i i)-mP n (Ur (fun k=>if k=n then 1 else e k)) x)=h*(h*(v-u)):=by
     grind
    exact dN om A
   have:=Qu this;omega
  exact Fv key s
 .rw[(d i j b).2 0];obtain⟨m,rfl⟩:∃m,n=m+1:=⟨n-1,om⟩
  rw[rQ];omega
def nE(a:i<n)(f:Nat->Int):ay n (fun j=>(if i=j then 1 else 0)*f j)=f i:=by
 rw[dr i a (fun j _ b=>by rw[af (aj b),vC])];simp
def PY(p:1<=n)(M:aI):∀i j,i<n->j<n->rm n M (n-1) j i=td n (cm M 0) i j:=by
 obtain⟨a,χ,q,s,h,t,u⟩:=PZ p M;have key:∀k,k<n->∀i j,i<n->j<n->rm n M k j i=a i j (n-1-k):=by
  intro k
  induction k with
  | zero =>
   intro _ i j b c;have d:=h i j n b c (ae _);rw[jh (fun k l=>by rw[s i k b l,vD]),q]at d
   obtain⟨m,rfl⟩:∃m,n=m+1:=⟨n-1,om⟩
   simp only[Uj]at d;simp only[rm,fK,fq];rw[show(if j=i then(1:Int)else 0)=if i=j then 1 else 0 by split<;>split<;>omega]
   omega
  | succ k ih =>
   intro l i j b c;have ih:=ih om;obtain⟨K,v⟩:∃K,n-1-k=K+1:=⟨n-2-k,om⟩
   have f:n-1-(k+1)=K:=om
   rw[f];rw[v]at ih;have o:∀i r,i<n->r<n->mm n M (rm n M k) r i=a i r K-(if i=r then χ (K+1)else 0):=by
    intro i r b w;have d:=h i r (K+1) b w om;simp only[Uj]at d;simp only[mm];rw[aE (g:=fun j=>M r j*a i j (K+1)) (fun j c=>by rw[ih i j b c])]
    omega
   have x:tr n (mm n M (rm n M k))=-((k+1:Nat):Int)*χ (K+1):=by
    simp only[tr];rw[aE (g:=fun i=>a i i K - χ (K+1)) (fun i b=>by rw[o i i b b,ai rfl]),lm,t K om,Fg]
    have:(n:Int)=K+1+(k+1):=om
    rw[this];simp only[eB,wT];grind
   simp only[rm];rw[o i j b c,x,dh _ om];by_cases e:i=j
   .subst e;simp
   .rw[af e,af (aj e)];omega
 intro i j b c;rw[key (n-1) om i j b c,ct,u i j b c]
def np(n:Nat)(M:aI):aI:=fun i j=>if n%2=0 then-rm n M (n-1) i j else rm n M (n-1) i j
def PG(n:Nat):(-1:Int)^n=if n%2=0 then 1 else -1:=by
 induction n with
 | zero=>rfl
 | succ n ih=>rw[fE,ih];split<;>split<;>omega
def N7(d:1<=n)(M:aI){i j:Nat}(c:i<n)(e:j<n):np n M j i=td n M i j:=by
 have f:td n (cm M 0) i j=(-1)^n*(-1*td n M i j):=by
  unfold td;rw[<-rn M c,<-xG];congr 1;funext a b;simp only[setRow,cm,gU];split<;>grind
 simp only[np];rw[PY d M i j c e,f,PG];split<;>grind
def nU(n:Nat)(A B C:aI)(i j:Nat):mm n (mm n A B) C i j=mm n A (mm n B C) i j:=by
 simp only[mm];rw[aE (g:=fun k=>ay n (fun l=>A i l*B l k*C k j)) (fun k _=>by rw[cX,<-cR];exact aE fun l _=>by grind)]
 rw[pR];exact aE fun l _=>by rw[<-cR];exact aE fun k _=>by grind
def rj{A' B':aI}(h:∀k,k<n->A i k=A' i k)(h':∀k,k<n->B k j=B' k j):mm n A B i j=mm n A' B' i j :=
 aE fun k a=>by rw[h k a,h' k a]
theorem FL(n:Nat)(M:aI):∀k i j,i<n->j<n->mm n (rm n M k) M i j=mm n M (rm n M k) i j
 | 0,i,j,b,a=>by
  simp only[mm,rm];rw[nE b (fun k=>M k j),dr j a (fun k _ c=>by rw[af c,vD])];simp
 | k+1,i,j,b,a=>by
  have d:mm n (rm n M (k+1)) M i j=mm n (mm n M (rm n M k)) M i j+(tr n (mm n M (rm n M k))/(-((k+1:Nat):Int)))*M i j:=by
   simp only[mm,rm];rw[<-nE b (fun l=>(tr n (mm n M (rm n M k))/(-((k+1:Nat):Int)))*M l j),<-eD];exact aE fun l _=>by split<;>grind
  have f:mm n M (rm n M (k+1)) i j=mm n M (mm n M (rm n M k)) i j+(tr n (mm n M (rm n M k))/(-((k+1:Nat):Int)))*M i j:=by
   simp only[mm,rm];rw[<-nE a (fun l=>(tr n (mm n M (rm n M k))/(-((k+1:Nat):Int)))*M i l),<-eD];refine aE fun l _=>?_;by_cases e:l=j
   .subst e;simp;grind
   .rw[af e,af (aj e)];grind
  rw[d,f,nU];congr 1;exact rj (fun _ _=>rfl) (fun l g=>FL n M k l j g a)
def rX(c:1<=n)(M:aI){i j:Nat}(b:i<n)(a:j<n):mm n (np n M) M i j=if i=j then det n M else 0:=by
 have d:mm n (np n M) M i j=mm n M (np n M) i j:=by
  have h:=FL n M (n-1) i j b a;simp only[mm,np]at h ⊢;by_cases e:n%2=0
  .simp only[e,aQ];rw[aE (g:=fun k=>- (rm n M (n-1) i k*M k j)) (fun k _=>by grind),Ca,h,<-Ca]
   exact aE fun k _=>by grind
  .simp only[e,aS];exact h
 rw[d];simp only[mm];rw[aE (g:=fun k=>M i k*td n M j k) (fun k f=>by rw[N7 c M a f]),DB M a b]
 split<;>split<;>omega

end Go.Proofs.YtdobfmlmenaajaaGreatDoor
