/-
  Lemmas for NeighbourForm.
-/
import Derived.Test.YtdobfmlmenaajaaGreatDoorK03
namespace Go.Proofs.YtdobfmlmenaajaaGreatDoor
open Go.RowKit Tryz
open _root_.Classical renaming choose→fN
set_option maxHeartbeats 6400000
set_option maxRecDepth 4096
set_option linter.all false
variable{β:Bool}{a a0 b f0 f1 h l na p q x y z:Int}{N R U V c d i i' j j' k m n r t u0 u1 u2 ul v0 v1 vl x0 y0:Nat}{M f:Nat->Int}{g u v w w' σ:Nat->Nat}{A A' B H Q T:az}
def up(k:Nat)(ρ:Nat->Nat)(i:Nat):Nat:=if i<k then i else k+ρ (i-k)
def ci(A:az)(k:Nat):az:=fun i j=>det (k+1) (fun a b=>A (up k (fun _=>i) a) (up k (fun _=>j) b))
def IB(ρ:Nat->Nat)(i:Nat):up 0 ρ i=ρ i:=by simp[up]
def yu(k:Nat)(ρ:Nat->Nat)(i:Nat):up k (lz ρ) i=up (k+1) ρ i:=by
 unfold up;by_cases h:i<k
 .rw[aj h,aj om]
 .rw[ah h];by_cases a:i<k+1
  .rw[aj a,(om:i-k=0)];simp[lz];omega
  .rw[ah a,(om:i-k=(i-(k+1))+1)];simp only[lz];omega
def lT(k i:Nat)(h:i<k+1):up k (fun _=>0) i=i:=by
 unfold up;split
 .rfl
 .show k+0=i;omega
def eQ(A:az)(i j:Nat):ci A 0 i j=A i j:=by
 unfold ci;rw[Jk];simp[up]
def cG(A:az)(k:Nat):ci A k 0 0=det (k+1) A:=by
 unfold ci;exact aZ fun a b c d=>by rw[lT k a c,lT k b d]
def xq(h:∀(l:Nat) (ρ γ:Nat->Nat),det (l+1) (fun i j=>ci A k (ρ i) (γ j))=det k A^l*det (k+l+1) (fun i j=>A (up k ρ i) (up k γ j)))(i j:Nat) :
  FI (ci A k) i j=det k A*ci A (k+1) i j:=by
 have c:=h 1 (lz fun _=>i) (lz fun _=>j);rw[uE,eC,Int.pow_zero,cL]at c;simp only[lz]at c;simp only[FI];rw[c];unfold ci;congr 1;exact aZ fun a b _ _=>by rw[yu,yu]
theorem rS{A:az}:∀{k:Nat},(∀j,j<=k->det j A≠0)->∀(l:Nat) (ρ γ:Nat->Nat),
  det (l+1) (fun i j=>ci A k (ρ i) (γ j))=det k A^l*det (k+l+1) (fun i j=>A (up k ρ i) (up k γ j))
 | 0,_,l,ρ,γ=>by
  rw[show det 0 A=1 from rfl,Int.one_pow,cL,aJ];exact aZ fun i j _ _=>by rw[eQ,IB,IB]
 | k+1,a,l,ρ,γ=>by
  have ih:=rS (k:=k) (fun j n=>a j om);have d:=a k om;have b:=a (k+1) (ag _);have f:PT (det k A) (ci A k):=fun l ρ γ=>⟨_,ih l ρ γ⟩;have c:ci A k 0 0≠0:=by rw[cG];exact b
  have g:∀i j,bar (det k A) (ci A k) i j=ci A (k+1) i j:=fun i j=>by
   unfold bar;rw[xq ih,cj _ d]
  have e:=KC f c l ρ γ;rw[aZ (B:=fun i j=>ci A (k+1) (ρ i) (γ j)) (fun i j _ _=>g _ _),ih (l+1) (lz ρ) (lz γ),cG]at e;have h:det k A^(l+1)≠0:=Jy d;refine cH h ?_;have m:det (k+(l+1)+1) (fun i j=>A (up k (lz ρ) i) (up k (lz γ) j))=det (k+1+l+1) (fun i j=>A (up (k+1) ρ i) (up (k+1) γ j)):=by
   rw[(om:k+(l+1)+1=k+1+l+1)]
   exact aZ fun i j _ _=>by rw[yu,yu]
  rw[e,m,S8]
def LG(a:∀j,j<=k->det j A≠0)(i j:Nat):FI (ci A k) i j=det k A*ci A (k+1) i j:=xq (rS a) i j
def ij(a:∀j,j<=k->det j A≠0)(i j:Nat):ci A k 0 0*ci A k (i+1) (j+1)-ci A k (i+1) 0*ci A k 0 (j+1)=det k A*ci A (k+1) i j:=LG a i j
def LE(l:k<n)(b:∀j,j<=k->det j A≠0)(c:∀i,i<n-k->ci A k i 0=0):det n A=0:=by
 have a:=rS b (n-k-1) id id;have d:det (n-k-1+1) (fun i j=>ci A k (id i) (id j))=0:=uG _ om (fun i m=>c i om);rw[d,(om:k+(n-k-1)+1=n)]at a
 have f:det k A^(n-k-1)≠0:=Jy (b k (ag _));have g:det n (fun i j=>A (up k id i) (up k id j))=det n A:=aZ fun i j _ _=>by
  have e:∀i,up k id i=i:=fun i=>by unfold up;split<;>simp;omega
  rw[e,e]
 rw[g]at a;rcases fH.1 a.symm with h|h
 .exact absurd h f
 .exact h
def c8(i j a:Nat):Nat:=if a=i then j else if a=j then i else a
def yv(A:az)(f:i<n)(g:k<n)(c:i≠k):det n (fun a b=>A (c8 i k a) b)=- det n A:=by
 rw[<-MG A f g c];refine aZ fun a b _ _=>?_;simp only[c8,setRow];by_cases d:a=i
 .subst d;simp[c]
 .by_cases e:a=k
  .subst e;simp[d]
  .simp[d,e]
def lk(A:az)(f:i<n)(g:k<n)(c:i≠k):det n (fun a b=>A a (c8 i k b))=- det n A:=by
 rw[<-uH A f g c];refine aZ fun a b _ _=>?_;simp only[c8,aT];by_cases d:b=i
 .subst d;simp[c]
 .by_cases e:b=k
  .subst e;simp[d]
  .simp[d,e]
def tL(A:az)(c:n<=i)(d:n<=k):det n (fun a b=>A (c8 i k a) b)=det n A :=
 aZ fun a b e _=>by rw[show c8 i k a=a by unfold c8;rw[ah om,ah om]]
def tK{p:Nat}(A:az)(f:k<=p)(i j:Nat):ci (fun a b=>A (c8 k p a) b) k i j=ci A k (c8 0 (p-k) i) j:=by
 unfold ci;refine aZ fun a b g l=>?_;have e:c8 k p (up k (fun _=>i) a)=up k (fun _=>c8 0 (p-k) i) a:=by
  unfold up c8;by_cases h:a<k
  .simp only[h,aE];rw[ah om,ah om]
  .simp only[h,aH];by_cases c:i=0
   .rw[aj om,aj c];omega
   .by_cases d:i=p-k
    .rw[ah om,aj om,ah c,aj d];omega
    .rw[ah om,ah om,ah c,ah d]
 show A (c8 k p (up k (fun _=>i) a)) _=_;rw[e]
structure l7(A:az)(n:Nat)(σ:Nat->Nat)(neg:Bool)(k:Nat):Prop where
 lead:∀j,j<=k->det j (fun a b=>A (σ a) b)≠0
 sign:det n (fun a b=>A (σ a) b)=if neg then-det n A else det n A
 row:∀i,i<n->σ i<n
def l7.init(A:az)(n:Nat):l7 A n id false 0:=⟨fun j a=>by rw[(om:j=0)];simp[det],sm,fun i h=>h⟩
def l7.swap{neg:Bool}{p:Nat}(h:l7 A n σ neg k)(e:k<p)(c:p<n):l7 A n (fun a=>σ (c8 k p a)) (!neg) k:=by
 refine⟨fun j d=>?_,?_,fun i f=>h.row _ (by unfold c8;split<;>(try split)<;>omega)⟩
 .rw[tL (fun a b=>A (σ a) b) om om];exact h.lead j d
 .rw[yv (fun a b=>A (σ a) b) om c om,h.sign]
  cases neg<;>simp
def l7.step{neg:Bool}(h:l7 A n σ neg k)(c:ci (fun a b=>A (σ a) b) k 0 0≠0):l7 A n σ neg (k+1) :=
 ⟨fun j e=>by
  rcases aB j (k+1)with d|d
  .exact h.lead j om
  .rw[(om:j=k+1),<-cG];exact c,h.sign,h.row⟩
def l7.zero{neg:Bool}(h:l7 A n σ neg k)(d:k<n)(e:∀i,i<n-k->ci (fun a b=>A (σ a) b) k i 0=0):det n A=0:=by
 have c:=LE d h.lead e;rw[h.sign]at c
 cases neg<;>simp at c<;>omega

structure Pd(A:az)(n:Nat):Prop where
 sym:∀a b,a<n->b<n->A a b=A b a
 pos:∀k,k<=n->0<det k A
def Pd.ne(h:Pd A n){k:Nat}(a:k<=n):∀j,j<=k->det j A≠0:=fun j b=>by have:=h.pos j om;omega
def Pd.stg_sym(h:Pd A n):∀(k i j:Nat),k+i<n->k+j<n->ci A k i j=ci A k j i
 | 0,i,j,b,c=>by rw[eQ,eQ];exact h.sym i j om om
 | k+1,i,j,b,c=>by
  have ih:=h.stg_sym k;have a:=ij (h.ne (k:=k) om) i j;have d:=ij (h.ne (k:=k) om) j i;rw[ih (i+1) (j+1) om om,ih (i+1) 0 om om,ih 0 (j+1) om om]at a;have e:=h.pos k om;refine cH (om:det k A≠0) ?_
  rw[<-a,<-d];grind
def Pd.stg_rec(h:Pd A n){k i:Nat}(a:k+i+1<n):det (k+1) A*ci A k (i+1) (i+1)=det k A*ci A (k+1) i i+ci A k (i+1) 0*ci A k (i+1) 0:=by
 have e:=ij (h.ne (k:=k) om) i i;rw[h.stg_sym k 0 (i+1) om om,cG]at e;omega
def Pd.stg_rec2(h:Pd A n){k i j:Nat}(a:k+i+1<n)(b:k+j+1<n):det (k+1) A*ci A k (i+1) (j+1)=det k A*ci A (k+1) i j+ci A k (i+1) 0*ci A k (j+1) 0:=by
 have e:=ij (h.ne (k:=k) om) i j;rw[h.stg_sym k 0 (j+1) om om,cG]at e;omega
def iK(x:Int):0<=x*x:=by
 rcases Int.le_total 0 x with h|h
 .exact cD h h
 .have:=cD (om:0<=-x) (om:0<=-x);rw[pR]at this;exact this
def qh(d:0<a)(h:0<a*b):0<b:=by
 rcases iI 0 b with c|c
 .exact c
 .have:=aW c (bn d);omega
def Pd.stg_pos(h:Pd A n):∀(i k:Nat),k+i<n->0<ci A k i i
 | 0,k,a=>by rw[cG];exact h.pos _ om
 | i+1,k,a=>by
  have e:=h.stg_rec (k:=k) (i:=i) om;have b:=h.stg_pos i (k+1) om;have d:=jM (h.pos k om) b;have f:=iK (ci A k (i+1) 0);have c:0<det (k+1) A*ci A k (i+1) (i+1):=om
  exact qh (h.pos (k+1) om) c
def Pd.stg_up(h:Pd A n):∀(k i:Nat),k+i<n->ci A k i i<=det k A*A (k+i) (k+i)
 | 0,i,a=>by rw[eQ];simp[det]
 | k+1,i,a=>by
  have e:=h.stg_rec (k:=k) (i:=i) om;have ih:=h.stg_up k (i+1) om;have b:=h.pos k om;have c:=h.pos (k+1) om;have d:=iK (ci A k (i+1) 0);have f:=aW ih (bn c);refine iy ?_ b;rw[(om:k+1+i=k+(i+1))]
  have g:det (k+1) A*(det k A*A (k+(i+1)) (k+(i+1)))=det k A*(det (k+1) A*A (k+(i+1)) (k+(i+1))):=by grind
  omega
def Pd.lam_sq(h:Pd A n){k i:Nat}(a:k+i+1<n):ci A k (i+1) 0*ci A k (i+1) 0<=det (k+1) A*ci A k (i+1) (i+1):=by
 have e:=h.stg_rec (k:=k) (i:=i) om;have b:=jM (h.pos k om) (h.stg_pos i (k+1) om);omega
def Pd.hadamard(h:Pd A n){k:Nat}(a:k<n):det (k+1) A<=det k A*A k k:=by
 have:=h.stg_up k 0 om
 rwa [cG,cu]at this
def ML{m u v:Int}(c:0<a)(d:m*m<=a*b):0<=a*(v*v)+b*(u*u)-2*(m*(u*v)):=by
 have e:a*(a*(v*v)+b*(u*u)-2*(m*(u*v)))=(a*v-m*u)*(a*v-m*u)+(a*b-m*m)*(u*u):=by grind
 have f:=iK (a*v-m*u);have g:=cD (om:0<=a*b-m*m) (iK u)
 exact Int.nonneg_of_mul_nonneg_right om c
def Pa{d m u v:Int}(c:0<=d)(e:0<a)(f:m*m<=a*b):(d*m+u*v)*(d*m+u*v)<=(d*a+u*u)*(d*b+v*v):=by
 have g:=ML (u:=u) (v:=v) e f;have h:=cD c g;have i:=cD (cD c c) (om:0<=a*b-m*m)
 have j:(d*a+u*u)*(d*b+v*v)-(d*m+u*v)*(d*m+u*v)=d*d*(a*b-m*m)+d*(a*(v*v)+b*(u*u)-2*(m*(u*v))):=by grind
 omega
def Pd.cs(h:Pd A n):∀(i j k:Nat),k+i<n->k+j<n->ci A k i j*ci A k i j<=ci A k i i*ci A k j j
 | 0,0,k,_,_=>mS _
 | 0,j+1,k,_,b=>by
  rw[h.stg_sym k 0 (j+1) om om,cG];exact h.lam_sq om
 | i+1,0,k,c,_=>by
  rw[cG,bU (ci A k (i+1) (i+1))];exact h.lam_sq om
 | i+1,j+1,k,c,b=>by
  have ih:=h.cs i j (k+1) om om;have d:=h.stg_rec (k:=k) (i:=i) om;have e:=h.stg_rec (k:=k) (i:=j) om;have f:=h.stg_rec2 (k:=k) (i:=i) (j:=j) om om;have g:=h.pos k om;have a:=h.pos (k+1) om;have l:=Pa (u:=ci A k (i+1) 0) (v:=ci A k (j+1) 0) (bn g) (h.stg_pos i (k+1) om) ih;rw[<-d,<-e,<-f]at l;have m:0<det (k+1) A*det (k+1) A:=jM a a;refine iy ?_ m;have o:det (k+1) A*det (k+1) A*(ci A k (i+1) (j+1)*ci A k (i+1) (j+1))=det (k+1) A*ci A k (i+1) (j+1)*(det (k+1) A*ci A k (i+1) (j+1)):=by grind
  have p:det (k+1) A*det (k+1) A*(ci A k (i+1) (i+1)*ci A k (j+1) (j+1))=det (k+1) A*ci A k (i+1) (i+1)*(det (k+1) A*ci A k (j+1) (j+1)):=by grind
  omega
def Pd.cs0(h:Pd A n){i j:Nat}(a:i<n)(b:j<n):A i j*A i j<=A i i*A j j:=by
 have:=h.cs i j 0 om om;simpa only[eQ]using this
def Pd.diag(h:Pd A n){i:Nat}(a:i<n):0<A i i:=by
 have:=h.stg_pos i 0 om
 rwa [eQ]at this
def eZ(A:az)(i j:Nat):Int:=ci A j (i-j) 0
def gI(A:az)(i j:Nat):Prop:=2*(eZ A i j).natAbs<=det (j+1) A
def gA(A:az)(i:Nat):Prop:=3*(det i A*det i A)<=4*(det (i-1) A*det (i+1) A+eZ A i (i-1)*eZ A i (i-1))
def Oo{d:Int}(h:2*(x.natAbs:Int)<=d):x*x<=d*d:=by
 have a:((x.natAbs:Nat):Int)*x.natAbs=x*x:=by rw[<-aX,kd]
 rw[<-a];exact cw om om om om
def oL{d:Int}(h:2*(x.natAbs:Int)<=d):4*(x*x)<=d*d:=by
 have a:((x.natAbs:Nat):Int)*x.natAbs=x*x:=by rw[<-aX,kd]
 have b:(2*(x.natAbs:Int))*(2*x.natAbs)<=d*d:=cw h h om om;have c:(2*(x.natAbs:Int))*(2*x.natAbs)=4*((x.natAbs:Int)*x.natAbs):=by grind
 omega
def Pd.sized_up(h:Pd A n){D:Int}{r:Nat}(f:r<n)(a:∀k,k<=r->det (k+1) A<=D)(c:∀j,j<r->gI A r j):∀(i k:Nat),k+i=r->4*ci A k i i<=det k A*((i+4:Nat)*D)
 | 0,k,g=>by
  rw[cG];have b:=a k om;have l:=h.pos k om;have m:=h.pos (k+1) om;have o:=bK (om:1<=det k A) (om:0<=D)
  have p:det k A*(((0+4:Nat):Int)*D)=4*(det k A*D):=by
   rw[show((0+4:Nat):Int)=4 from rfl];grind
  omega
 | i+1,k,g=>by
  have e:=h.stg_rec (k:=k) (i:=i) om;have ih:=h.sized_up f a c i (k+1) om;have q:=h.pos k om;have b:=h.pos (k+1) om;have d:=oL (c k om);unfold eZ at d;rw[(om:r-k=i+1)]at d
  have l:=a k om;have m:=aW ih (bn q);refine iy ?_ b;have o:det k A*(det (k+1) A*((i+4:Nat)*D))+det (k+1) A*det (k+1) A<=det (k+1) A*(det k A*((i+1+4:Nat)*D)):=by
   have p:det (k+1) A*(det k A*((i+1+4:Nat)*D))=det k A*(det (k+1) A*((i+4:Nat)*D))+det (k+1) A*(det k A*D):=by
    rw[show((i+1+4:Nat):Int)=((i+4:Nat):Int)+1 by omega];grind
   have s:det (k+1) A*det (k+1) A<=det (k+1) A*(det k A*D):=by
    refine aW ?_ (bn b);have t:=bK (om:1<=det k A) (om:0<=D)
    omega
   omega
  have u:det k A*(4*ci A (k+1) i i)=4*(det k A*ci A (k+1) i i):=by grind
  have v:det (k+1) A*(4*ci A k (i+1) (i+1))=4*(det (k+1) A*ci A k (i+1) (i+1)):=by grind
  omega
def Pd.sized_norm4(h:Pd A n){D:Int}{r:Nat}(a:r<n)(b:∀k,k<=r->det (k+1) A<=D)(c:∀j,j<r->gI A r j):4*A r r<=(r+4:Nat)*D:=by
 have:=h.sized_up a b c r 0 om;rw[eQ]at this;simpa [det]using this
def Pd.sized_norm(h:Pd A n){D:Int}{r:Nat}(b:r<n)(a:∀k,k<=r->det (k+1) A<=D)(c:∀j,j<r->gI A r j):A r r<=(r+1:Nat)*D:=by
 have d:=h.sized_norm4 b a c;have e:det 1 A<=D:=a 0 om;have f:=h.pos 1 om;have g:((r+4:Nat):Int)*D<=((4*(r+1):Nat):Int)*D:=bK om om;have i:((4*(r+1):Nat):Int)*D=4*(((r+1:Nat):Int)*D):=by
  rw[aX];grind
 omega

def kf(k c i:Nat):up k (fun _=>c) i=if i<k then i else k+c:=rfl
def j8(A:az)(i j:Nat)(q:Int):az:=fun a b=>A a b+(if a=i then q*A j b else 0)+(if b=i then q*A a j else 0)+(if a=i/\b=i then q*q*A j j else 0)
def lG(A:az){i j a b:Nat}{q:Int}(c:a≠i)(d:b≠i):j8 A i j q a b=A a b:=by simp[j8,c,d]
def uN(A:az){i j b:Nat}{q:Int}(a:b≠i):j8 A i j q i b=A i b+q*A j b:=by simp[j8,a]
def fo(l:j<i)(k:Nat):det k (j8 A i j q)=det k A:=by
 rcases aB i k with c|c
 .have e:=kA A (n:=k) (i:=i) (k:=j) c om om 1 q;have d:=kB (setRow A i (fun b=>1*A i b+q*A j b)) (n:=k) (i:=i) (k:=j) c om om 1 q;rw[e]at d;rw[cL,cL]at d;rw[<-d];refine aZ fun a b _ _=>?_;simp only[j8,aT,setRow];have f:j≠i:=om
  by_cases g:a=i<;>by_cases h:b=i<;>simp[g,h]<;>grind
 .exact aZ fun a b m o=>lG A om om
def my(d:i'<i)(c:j'<=i'):eZ (j8 A i j q) i' j'=eZ A i' j':=by
 unfold eZ ci;refine aZ fun a b e f=>?_;exact lG A (by rw[kf];split<;>omega) (by rw[kf];split<;>omega)
def rF(l:j<j')(g:j'<i):eZ (j8 A i j q) i j'=eZ A i j':=by
 have f:=kA (fun a b=>A (up j' (fun _=>i-j') a) (up j' (fun _=>0) b)) (n:=j'+1) (i:=j') (k:=j) om om om 1 q;rw[cL]at f;unfold eZ ci;rw[<-f];refine aZ fun a b m o=>?_;simp only[setRow];have c:up j' (fun _=>0) b≠i:=by rw[kf];split<;>omega
 by_cases e:a=j'
 .subst e;have d:up a (fun _=>i-a) a=i:=by rw[kf];rw[ah om];omega
  have h:up a (fun _=>i-a) j=j:=by rw[kf];rw[aj om]
  rw[d,h,uN A c];simp
 .have d:up j' (fun _=>i-j') a=a:=by rw[kf];rw[aj om]
  rw[d,lG A om c,ah e]
def mz(m:j<i):eZ (j8 A i j q) i j=eZ A i j+q*det (j+1) A:=by
 have g:=ow (fun a b=>A (up j (fun _=>i-j) a) (up j (fun _=>0) b)) (n:=j+1) (i:=j) om 1 q (fun b=>A i (up j (fun _=>0) b)) (fun b=>A j (up j (fun _=>0) b));unfold eZ ci;have k:det (j+1) (setRow (fun a b=>A (up j (fun _=>i-j) a) (up j (fun _=>0) b)) j (fun b=>A i (up j (fun _=>0) b)))=det (j+1) (fun a b=>A (up j (fun _=>i-j) a) (up j (fun _=>0) b)):=by
  refine aZ fun a b h d=>?_;simp only[setRow];by_cases e:a=j
  .subst e;rw[aj rfl];congr 1;rw[kf];rw[ah om];omega
  .rw[ah e]
 have l:det (j+1) (setRow (fun a b=>A (up j (fun _=>i-j) a) (up j (fun _=>0) b)) j (fun b=>A j (up j (fun _=>0) b)))=det (j+1) A:=by
  refine aZ fun a b h d=>?_;simp only[setRow];rw[lT j b d];by_cases e:a=j
  .subst e;rw[aj rfl]
  .rw[ah e];congr 1;rw[kf];rw[aj om]
 rw[k,l,cL]at g;rw[<-g];refine aZ fun a b h d=>?_;simp only[setRow];have c:up j (fun _=>0) b≠i:=by rw[kf];split<;>omega
 by_cases e:a=j
 .subst e;have f:up a (fun _=>i-a) a=i:=by rw[kf];rw[ah om];omega
  rw[f,uN A c,aj rfl];simp
 .have f:up j (fun _=>i-j) a=a:=by rw[kf];rw[aj om]
  rw[f,lG A om c,ah e]
def xn(A:az)(i:Nat):az:=fun a b=>A (c8 (i-1) i a) (c8 (i-1) i b)
def ml(j:0<i)(l:k≠i):det k (xn A i)=det k A:=by
 rcases aB i k with h|h
 .have d:=yv (fun a b=>A a (c8 (i-1) i b)) (n:=k) (i:=i-1) (k:=i) om h om;have f:=lk A (n:=k) (i:=i-1) (k:=i) om h om;show det k (fun a b=>(fun a b=>A a (c8 (i-1) i b)) (c8 (i-1) i a) b)=_;rw[d,f];omega
 .refine aZ fun a b c g=>?_;have e:∀a,a<k->c8 (i-1) i a=a:=fun a c=>by unfold c8;rw[ah om,ah om]
  simp only[xn];rw[e a c,e b g]
def mn(f:0<i):det i (xn A i)=ci A (i-1) 1 1:=by
 unfold ci;rw[(om:i-1+1=i)]
 refine aZ fun a b c d=>?_;have e:∀a,a<i->c8 (i-1) i a=up (i-1) (fun _=>1) a:=fun a c=>by
  rw[kf];unfold c8;by_cases h:a=i-1
  .rw[aj h,ah om];omega
  .rw[ah h,ah om,aj om]
 simp only[xn];rw[e a c,e b d]
def Pd.swap_lead(h:Pd A n){i:Nat}(a:0<i)(b:i<n):det i A*det i (xn A i)=det (i-1) A*det (i+1) A+eZ A i (i-1)*eZ A i (i-1):=by
 have e:=h.stg_rec (k:=i-1) (i:=0) om;rw[mn a];unfold eZ;rw[(om:i-(i-1)=1)]
 rw[(om:i-1+1=i),aJ,cG]at e
 exact e
def Pd.add(h:Pd A n){i j:Nat}{q:Int}(e:j<i)(m:i<n):Pd (j8 A i j q) n:=by
 refine⟨fun a b c d=>?_,fun k f=>by rw[fo e];exact h.pos k f⟩
 have o:=h.sym a b c d;have p:=h.sym j a om c;have r:=h.sym j b om d;simp only[j8];by_cases g:a=i<;>by_cases l:b=i<;>simp[g,l]<;>grind
def Pd.swap(h:Pd A n){i:Nat}(c:0<i)(l:i<n):Pd (xn A i) n:=by
 have d:∀a,a<n->c8 (i-1) i a<n:=fun a f=>by unfold c8;split<;>(try split)<;>omega
 refine⟨fun a b f g=>h.sym _ _ (d a f) (d b g),fun k j=>?_⟩;by_cases e:k=i
 .subst e;rw[mn c];exact h.stg_pos 1 (k-1) om
 .rw[ml c e];exact h.pos k j
def BX(h:Pd A n){i:Nat}(b:0<i)(c:i<n)(a:¬gA A i):4*det i (xn A i)<3*det i A:=by
 unfold gA at a;rw[<-h.swap_lead b c]at a;have d:=h.pos i om;have e:det i A*(4*det i (xn A i))<det i A*(3*det i A):=by
  have f:det i A*(4*det i (xn A i))=4*(det i A*det i (xn A i)):=by grind
  have g:det i A*(3*det i A)=3*(det i A*det i A):=by grind
  omega
 exact Int.lt_of_mul_lt_mul_left e (bn d)
open Classical in
noncomputable def oN(p:Nat->Prop):Nat->Nat
 | 0=>0
 | w+1=>if (∀c,c<=w->p c)then w+1 else oN p w
theorem Cl(p:Nat->Prop):∀w,oN p w<=w
 | 0=>by simp[oN]
 | w+1=>by have:=Cl p w;simp only[oN];split<;>omega
theorem wx{p:Nat->Prop}{k:Nat}(h:∀c,c<k->p c):∀w,k<=w->k<=oN p w
 | 0,a=>om
 | w+1,a=>by
  simp only[oN];split
  .exact a
  .rename_i d;rcases aB w k with b|b
   .exact absurd (fun c e=>h c om) d
   .exact wx h w b
theorem tf{p:Nat->Prop}{k:Nat}(h:¬p k):∀w,oN p w<=k
 | 0=>by simp[oN]
 | w+1=>by
  simp only[oN];split
  .rename_i b;rcases aB w k with a|a
   .omega
   .exact absurd (b k a) h
  .exact tf h w
def chk(A:az)(n c:Nat):Prop:=(c%(n+1)<c/(n+1)->gI A (c/(n+1)) (c/(n+1)-1-c%(n+1)))/\(c%(n+1)=c/(n+1)->0<c/(n+1)->gA A (c/(n+1)))
def MP(a:t<n+1):(i*(n+1)+t)/(n+1)=i:=by
 rw[aA,jH om,ed a];omega
def MO(a:t<n+1):(i*(n+1)+t)%(n+1)=t:=by
 rw[aA,kM,dR a]
def FH(a:t<n+1):chk A n (i*(n+1)+t)↔(t<i->gI A i (i-1-t))/\(t=i->0<i->gA A i):=by
 unfold chk;rw[MP a,MO a]
def jt(A:az)(i:Nat):Prop:=(∀r,r<i->∀j,j<r->gI A r j)/\∀r,0<r->r<i->gA A r
def Cs(d:jt A i)(f:∀j,i<j+1+t->j<i->gI A i j)(g:t<=i)(k:i<n){c:Nat}(l:c<i*(n+1)+t):chk A n c:=by
 have m:c/(n+1)<=i:=by
  rcases aB i (c/(n+1))with h|h
  .have b:=Nat.div_mul_le_self c (n+1);have a:(i+1)*(n+1)<=c/(n+1)*(n+1):=aq _ h;rw[cg]at a;omega
  .exact h
 rcases aB (c/(n+1)) i with h|h
 .refine⟨fun b=>d.1 _ h _ om,fun b a=>d.2 _ a h⟩
 .have e:c/(n+1)=i:=om
  have b:c%(n+1)<t:=by
   have:=cV c (n+1);rw[e,aA]at this;omega
  unfold chk;rw[e];exact⟨fun a=>f _ om om,fun a=>om⟩

def nO:Nat->(Nat->Nat)->Nat
 | 0,_=>1
 | n+1,f=>nO n f*f n
def qf{f:Nat->Nat}(h:∀i,i<n->f i=g i):nO n f=nO n g:=by
 induction n with
 | zero=>rfl
 | succ n ih=>simp only[nO];rw[ih fun i a=>h i om,h n om]
def GK{f:Nat->Nat}(h:∀i,i<n->0<f i):0<nO n f:=by
 induction n with
 | zero=>simp[nO]
 | succ n ih=>simp only[nO];exact yN (ih fun i a=>h i om) (h n om)
def xD{f:Nat->Nat}(d:i<n)(h:∀k,k<n->k≠i->g k=f k)(b:4*g i<=3*f i):4*nO n g<=3*nO n f:=by
 induction n with
 | zero=>omega
 | succ n ih =>
  simp only[nO];rcases aB i n with a|a
  .rw[h n om om,<-bI,<-bI];exact aq _ (ih a fun k c=>h k om)
  .obtain rfl:i=n:=om
   rw[qf (f:=g) (g:=f) fun k c=>h k om om,SZ,SZ 3];exact aM _ b
def Gh(A:az)(n:Nat):Nat:=nO n (fun k=>(det k A).toNat)
noncomputable def lN(A:az)(n:Nat):Nat:=oN (chk A n) (n*(n+1))
noncomputable def wt(A:az)(n:Nat):Nat:=Gh A n*(n*(n+1)+1)+(n*(n+1)-lN A n)
def E5(A:az)(n:Nat):lN A n<=n*(n+1):=Cl _ _
def Pd.pot_pos(h:Pd A n):0<Gh A n:=GK fun k a=>by have:=h.pos k om;omega
def Oc(a:j<i):Gh (j8 A i j q) n=Gh A n:=qf fun k _=>by rw[fo a]
def LV(h:Pd A n)(a:0<i)(b:i<n)(c:¬gA A i):4*Gh (xn A i) n<=3*Gh A n:=by
 refine xD b (fun k _ d=>by rw[ml a d]) ?_
 have e:=BX h a b c;have f:=(h.swap a b).pos i om;omega
def JU(b:j<i)(g:i<n)(k:jt A i)(m:∀j',j<j'->j'<i->gI A i j')(o:¬gI A i j)(p:2*((eZ A i j+q*det (j+1) A).natAbs:Int)<=det (j+1) A) :
  lN A n<lN (j8 A i j q) n:=by
 have v:lN A n<=i*(n+1)+(i-1-j):=by
  refine tf ?_ _;rw[FH om];intro h;have:=h.1 om;rw[(om:i-1-(i-1-j)=j)]at this
  exact o this
 have w:i*(n+1)+(i-1-j)+1<=n*(n+1):=by
  have:(i+1)*(n+1)<=n*(n+1):=aq _ g;rw[cg]at this;omega
 have d:jt (j8 A i j q) i:=by
  refine⟨fun r a s e=>?_,fun r t a=>?_⟩
  .have:=k.1 r a s e;unfold gI at *;rw[my a om,fo b];exact this
  .have:=k.2 r t a;unfold gA at *;rw[my a om,fo b,fo b,fo b];exact this
 have x:i*(n+1)+(i-j)<=lN (j8 A i j q) n:=by
  refine wx (fun c u=>Cs d (fun j' y l=>?_) om g u) _ om;unfold gI;rw[fo b];rcases aB j j' with f|f
  .rw[rF f l];exact m j' f l
  .obtain rfl:j'=j:=om
   rw[mz b];exact p
 omega
def L6(a:j<i)(b:lN A n<lN (j8 A i j q) n):wt (j8 A i j q) n<wt A n:=by
 unfold wt;rw[Oc a];have c:=E5 (j8 A i j q) n;omega
def J1(h:Pd A n)(a:0<i)(b:i<n)(c:¬gA A i):wt (xn A i) n<wt A n:=by
 unfold wt;have e:=LV h a b c;have f:=h.pot_pos;have d:(Gh (xn A i) n+1)*(n*(n+1)+1)<=Gh A n*(n*(n+1)+1):=aq _ om;rw[cg]at d;omega
def QN{d:Int}(h:2*(x.natAbs:Int)<=d):4*(x*x)<=d*d:=by
 have a:((x.natAbs:Nat):Int)*x.natAbs=x*x:=by rw[<-aX,kd]
 have b:(2*(x.natAbs:Int))*(2*x.natAbs)<=d*d:=cw h h om om;have c:(2*(x.natAbs:Int))*(2*x.natAbs)=4*((x.natAbs:Int)*x.natAbs):=by grind
 omega

def dY{a b:Nat}(h:a<=b):(2:Int)^a<=2^b:=by
 have:=cp (n:=2) om h;have c:((2^a:Nat):Int)<=((2^b:Nat):Int):=kG.2 this;simpa using c

structure Eb(H:az)(n:Nat):Prop where
 pd:Pd H n
 rows:jt H n
 lead:∀k,k<=n->det k H<=64000
def Eb.diag(h:Eb H n)(c:n<=8){i:Nat}(a:i<n):H i i<=176000:=by
 have d:=h.pd.sized_norm4 (D:=64000) a (fun k e=>h.lead (k+1) om) (fun j b=>h.rows.1 i a j b);omega
def rU{B:Int}(b:0<=B)(h:x*x<=B*B):x.natAbs<=B:=by
 rcases iI B x.natAbs with a|a
 .exfalso;have c:(B+1)*(B+1)<=(x.natAbs:Int)*x.natAbs:=cw om om om om;have d:((x.natAbs:Nat):Int)*x.natAbs=x*x:=by rw[<-aX,kd]
  have e:(B+1)*(B+1)=B*B+2*B+1:=by grind
  omega
 .exact a
def Eb.entry(h:Eb H n)(b:n<=8){i j:Nat}(c:i<n)(a:j<n):((H i j).natAbs:Int)<=176000:=by
 have f:=h.pd.cs0 c a;have d:=h.diag b c;have e:=h.diag b a;have g:=cw d e (bn (h.pd.diag a)) om;exact rU om om
def I4{d:Int}(b:0<d):2*((l+-((2*l+d)/(2*d))*d).natAbs:Int)<=d:=by
 have c:=aV (2*l+d) (om:2*d≠0)
 have e:=aU (2*l+d) (om:0<2*d)
 have f:=dx (2*l+d) (2*d);generalize hq:(2*l+d)/(2*d)=q at *;have g:2*d*q=2*(q*d):=by grind
 have a:-q*d=-(q*d):=by grind
 rw[a];omega

abbrev gS:=Nat->Int
variable{L L':gS->Prop}
def eP(n m:Nat)(B:az)(x:gS):Prop:=∃c:gS,∀i,i<n->x i=ap m (fun j=>B i j*c j)
structure NH(n:Nat)(L:gS->Prop):Prop where
 zero:L (fun _=>0)
 comb:∀x y:gS,L x->L y->∀a b:Int,L (fun i=>a*x i+b*y i)
 ext:∀x y:gS,L x->(∀i,i<n->x i=y i)->L y
def NH.smul(h:NH n L){x:gS}(b:L x)(a:Int):L (fun i=>a*x i) :=
 h.ext _ _ (h.comb x x b b a 0) (fun i _=>by simp)
def NH.add(h:NH n L){x y:gS}(a:L x)(b:L y):L (fun i=>x i+y i) :=
 h.ext _ _ (h.comb x y a b 1 1) (fun i _=>by simp)
def NH.sum(h:NH n L)(C:Nat->gS)(c:gS):∀m,(∀j,j<m->L (C j))->L (fun i=>ap m (fun j=>C j i*c j))
 | 0,_=>h.ext _ _ h.zero (fun i _=>by simp[ap])
 | m+1,a=>h.ext _ _ (h.comb _ _ (h.sum C c m fun j b=>a j om) (a m om) 1 (c m)) (fun i _=>by simp only[ap];grind)
def JI(m:Nat)(a b:Int)(B:Nat->Int)(c d:gS):ap m (fun j=>B j*(a*c j+b*d j))=a*ap m (fun j=>B j*c j)+b*ap m (fun j=>B j*d j):=by
 rw[<-o9];exact ay fun j _=>by grind
def eP.lat(n m:Nat)(B:az):NH n (eP n m B):=by
 refine⟨⟨fun _=>0,fun i _=>(iN fun j _=>by simp).symm⟩,?_,?_⟩
 .rintro x y ⟨c,f⟩ ⟨d,g⟩ a b;exact⟨fun j=>a*c j+b*d j,fun i e=>by show a*x i+b*y i=_;rw[f i e,g i e,JI]⟩
 .rintro x y ⟨c,f⟩ h;exact⟨c,fun i e=>by rw[<-h i e];exact f i e⟩
def eP.col(a:j<m):eP n m B (fun i=>B i j) :=
 ⟨dW j,fun i _=>by
  rw[cI j a (fun k _ b=>by simp[dW,b])];simp[dW]⟩
def eP.sub(a:NH n L)(h:∀j,j<m->L (fun i=>B i j)){x:gS}(b:eP n m B x):L x:=by
 obtain⟨c,d⟩:=b;exact a.ext _ _ (a.sum (fun j i=>B i j) c m h) (fun i e=>(d i e).symm)
def kS(n:Nat)(A B:az):Prop:=(∀x,eP n n A x↔eP n n B x)/\(det n A).natAbs=(det n B).natAbs
def kS.refl(n:Nat)(A:az):kS n A A:=⟨fun _=>Iff.rfl,rfl⟩
def kS.trans{C:az}(h:kS n A B)(k:kS n B C):kS n A C:=⟨fun x=>(h.1 x).trans (k.1 x),h.2.trans k.2⟩
def kS.of(a:∀j,j<n->eP n n A (fun i=>B i j))(b:∀j,j<n->eP n n B (fun i=>A i j))(c:(det n A).natAbs=(det n B).natAbs):kS n A B :=
 ⟨fun _=>⟨eP.sub (eP.lat n n B) b,eP.sub (eP.lat n n A) a⟩,c⟩
def JP(A:az){i k:Nat}(f:i<n)(d:k<n)(a:i≠k)(c:Int):kS n A (aT A i (fun r=>A r i+c*A r k)):=by
 refine kS.of (fun j b=>?_) (fun j b=>?_) ?_
 .by_cases e:j=i
  .subst e;exact(eP.lat n n A).ext _ _ ((eP.lat n n A).comb _ _ (eP.col b) (eP.col d) 1 c) (fun r _=>by simp[aT])
  .exact(eP.lat n n A).ext _ _ (eP.col b) (fun r _=>by simp[aT,e])
 .by_cases e:j=i
  .subst e;refine(eP.lat n n _).ext _ _ ((eP.lat n n _).comb _ _ (eP.col (j:=j) b) (eP.col (j:=k) d) 1 (-c)) (fun r _=>?_);simp only[aT,aE,ah (ai a)];grind
  .exact(eP.lat n n _).ext _ _ (eP.col (j:=j) b) (fun r _=>by simp[aT,e])
 .have h:=kB A f d a 1 c;rw[cL]at h;rw[<-h];simp only[cL]
def GF(A:az){i k:Nat}(g:i<n)(h:k<n)(d:i≠k):kS n A (fun a b=>A a (c8 i k b)):=by
 have f:∀j,j<n->c8 i k j<n:=fun j c=>by unfold c8;split<;>(try split)<;>omega
 have e:∀j,c8 i k (c8 i k j)=j:=fun j=>by unfold c8;grind
 refine kS.of (fun j c=>eP.col (f j c)) (fun j c=>?_) ?_
 .have:=eP.col (n:=n) (B:=fun a b=>A a (c8 i k b)) (f j c);simpa only[e]using this
 .rw[lk A g h d];omega
def JQ(A:az){i:Nat}(b:i<n):kS n A (aT A i (fun r=>- A r i)):=by
 refine kS.of (fun j a=>?_) (fun j a=>?_) ?_
 .by_cases e:j=i
  .subst e;exact(eP.lat n n A).ext _ _ ((eP.lat n n A).smul (eP.col a) (-1)) (fun r _=>by simp[aT])
  .exact(eP.lat n n A).ext _ _ (eP.col a) (fun r _=>by simp[aT,e])
 .by_cases e:j=i
  .subst e;exact(eP.lat n n _).ext _ _ ((eP.lat n n _).smul (eP.col (j:=j) a) (-1)) (fun r _=>by simp[aT])
  .exact(eP.lat n n _).ext _ _ (eP.col (j:=j) a) (fun r _=>by simp[aT,e])
 .have h:=me A b (-1) 0 (fun r=>A r i) (fun r=>A r i);have e:aT A i (fun r=>-1*A r i+0*A r i)=aT A i (fun r=>- A r i):=by congr 1;funext r;omega
  rw[e,gJ]at h;omega
def Bw(A:az)(h:∀j,0<j->j<n+1->A 0 j=0):det (n+1) A=A 0 0*det n (fun i j=>A (i+1) (j+1)):=by
 simp only[det];rw[cI 0 om (fun j a b=>by rw[h j om a];simp)]
 simp only[zy,cL];congr 1
 all_goals (first|rfl|(exact aZ fun i j _ _=>by simp[cut,skip]))
def fQ:Nat->(Nat->Int)->Int
 | 0,_=>1
 | n+1,f=>f 0*fQ n (fun i=>f (i+1))
def sM(n i:Nat)(A:az):Prop:=∀r,r<i->(∀j,r<j->j<n->A r j=0)/\0<A r r
theorem mX{n:Nat}:∀(i:Nat) (A:az),sM (n+i) i A->det (n+i) A=fQ i (fun r=>A r r)*det n (fun r j=>A (r+i) (j+i))
 | 0,A,_=>by simp[fQ]
 | i+1,A,h=>by
  rw[<-kU,Bw A (fun j a b=>(h 0 om).1 j a om),mX i (fun r j=>A (r+1) (j+1)) (fun r c=>⟨fun j d e=>(h (r+1) om).1 (j+1) om om,(h (r+1) om).2⟩)];simp only[fQ];rw[et];rfl
def wg(h:∀i,i<n->0<f i):0<fQ n f:=by
 induction n generalizing f with
 | zero=>simp[fQ]
 | succ n ih=>simp only[fQ];exact jM (h 0 om) (ih fun i a=>h (i+1) om)
def dK:Nat->(Nat->Int)->Nat
 | 0,_=>0
 | n+1,f=>dK n f+(f n).natAbs
def FQ{g:Nat->Int}(b:k<n)(h:∀j,j<n->j≠k->f j=g j)(c:(f k).natAbs<(g k).natAbs):dK n f<dK n g:=by
 induction n with
 | zero=>omega
 | succ n ih =>
  simp only[dK];by_cases e:k=n
  .subst e;have:dK k f=dK k g:=by
    have key:∀m,m<=k->dK m f=dK m g:=by
     intro m
     induction m with
     | zero=>intro _;rfl
     | succ m a=>intro d;simp only[dK];rw[a om,h m om om]
    exact key k (ag _)
   omega
  .rw[h n om (ai e)];have:=ih om (fun j i=>h j om);omega
def Ao(A:az)(h:∀j,j<n+1->A 0 j=0):det (n+1) A=0:=by
 simp only[det];exact iN fun j a=>by rw[h j a];simp
def NS(G:i<n):∀(m:Nat) (A:az),dK n (fun j=>if i<=j then A i j else 0)=m->sM n i A->det n A≠0->∃B,kS n A B/\sM n (i+1) B:=by
 intro m
 induction m using Nat.strongRecOn with
 | ind m ih =>
  intro A K q L;by_cases z:∃d a,i<=d/\d<n/\i<=a/\a<n/\d≠a/\A i d≠0/\(A i d).natAbs<=(A i a).natAbs
  .obtain⟨d,a,C,u,v,s,t,w,y⟩:=z;have H:=JP A s u (ai t) (-(A i a/A i d));have D:(A i a+-(A i a/A i d)*A i d).natAbs<(A i a).natAbs:=by
    have e:A i a+-(A i a/A i d)*A i d=A i a%A i d:=by
     rw[Ey];grind
    rw[e];have M:=aV (A i a) w;have N:=Il (A i a) w;omega
   have E:sM n i (aT A a (fun r=>A r a+-(A i a/A i d)*A r d)):=by
    refine fun r o=>⟨fun j g b=>?_,?_⟩
    .by_cases e:j=a
     .subst e;simp only[aT,aE];rw[(q r o).1 j g b,(q r o).1 d om u];simp
     .simp only[aT,e,aH];exact(q r o).1 j g b
    .simp only[aT];rw[ah om];exact(q r o).2
   obtain⟨B,p,f⟩:=ih (dK n (fun j=>if i<=j then aT A a (fun r=>A r a+-(A i a/A i d)*A r d) i j else 0)) (by
     rw[<-K];refine FQ s (fun j _ g=>?_) ?_
     .simp[aT,g]
     .simp only[v,aE,aT];exact D) _ rfl E (by
     have:=H.2;intro l;rw[l]at this;omega)
   exact⟨B,H.trans p,f⟩
  .have F:∃c,i<=c/\c<n/\A i c≠0:=by
    rcases fL (∃c,i<=c/\c<n/\A i c≠0)with h|h
    .exact h
    .exfalso;refine L ?_;obtain⟨k,rfl⟩:∃k,n=k+1+i:=⟨n-i-1,om⟩
     rw[mX i A q,Ao (n:=k) _ (fun j g=>?_),kH];rcases fL (A (0+i) (j+i)=0)with l|l
     .exact l
     .exact absurd ⟨j+i,om,om,by rw[aJ]at l;exact l⟩ h
   obtain⟨c,C,u,v⟩:=F;have I:∀j,i<=j->j<n->j≠c->A i j=0:=by
    intro j s t w;rcases fL (A i j=0)with l|l
    .exact l
    .exfalso;rcases Nat.le_total (A i j).natAbs (A i c).natAbs with y|y
     .exact z ⟨j,c,s,t,C,u,w,l,y⟩
     .exact z ⟨c,j,C,u,s,t,ai w,v,y⟩
   have s:∃B,kS n A B/\sM n i B/\B i i≠0/\∀j,i<j->j<n->B i j=0:=by
    by_cases e:i=c
    .subst e;exact⟨A,kS.refl n A,q,v,fun j g b=>I j om b om⟩
    .refine⟨_,GF A G u e,fun r o=>⟨fun j g b=>?_,?_⟩,?_,fun j g b=>?_⟩
     .have:r<c8 i c j/\c8 i c j<n:=by unfold c8;split<;>(try split)<;>omega
      exact(q r o).1 _ this.1 this.2
     .have:c8 i c r=r:=by unfold c8;rw[ah om,ah om]
      show 0<A r (c8 i c r);rw[this];exact(q r o).2
     .show A i (c8 i c i)≠0;have:c8 i c i=c:=by simp[c8]
      rw[this];exact v
     .show A i (c8 i c j)=0;refine I _ ?_ ?_ ?_<;>(unfold c8;split<;>(try split)<;>omega)
   obtain⟨B,p,f,O,x⟩:=s;rcases iI 0 (B i i)with t|t
   .refine⟨B,p,fun r o=>?_⟩;by_cases e:r=i
    .subst e;exact⟨x,t⟩
    .exact f r om
   .refine⟨_,p.trans (JQ B G),fun r o=>⟨fun j g b=>?_,?_⟩⟩
    .simp only[aT];by_cases e:r=i
     .subst e;rw[ah om];exact x j g b
     .by_cases J:j=i
      .subst J;rw[aj rfl,(f r om).1 j g b];rfl
      .rw[ah J];exact(f r om).1 j g b
    .simp only[aT];by_cases e:r=i
     .subst e;rw[aj rfl];omega
     .rw[ah e];exact(f r om).2
def Gt(A:az)(f:det n A≠0):∃B,kS n A B/\sM n n B:=by
 have key:∀i,i<=n->∃B,kS n A B/\sM n i B:=by
  intro i
  induction i with
  | zero=>intro _;exact⟨A,kS.refl n A,fun r g=>om⟩
  | succ i ih =>
   intro h;obtain⟨B,a,b⟩:=ih om;obtain⟨C,c,d⟩:=NS om _ B rfl b (by have:=a.2;intro e;rw[e]at this;omega)
   exact⟨C,a.trans c,d⟩
 exact key n (ag _)
def Lw(h:kS n A B)(b:sM n n B):((det n A).natAbs:Int)=fQ n (fun r=>B r r):=by
 have a:=mX (n:=0) n B (by rw[aJ];exact b)
 rw[aJ]at a;simp only[det,ir]at a;have d:=wg (n:=n) (f:=fun r=>B r r) (fun r c=>(b r c).2);rw[h.2,a];omega

def bz(x y:Nat):Int×Int×Int :=
 if h:y=0 then(x,1,0)else
  have:x%y<y:=di _ (gK h)
  ((bz y (x%y)).1,(bz y (x%y)).2.2,(bz y (x%y)).2.1-((x/y:Nat):Int)*(bz y (x%y)).2.2)
termination_by y
def mY(x:Nat):bz x 0=((x:Int),1,0):=by rw[bz];simp
def sd(x:Nat){y:Nat}(h:y≠0):bz x y=((bz y (x%y)).1,(bz y (x%y)).2.2,(bz y (x%y)).2.1-((x/y:Nat):Int)*(bz y (x%y)).2.2):=by
 rw[bz];simp[h]
def DR:∀(n x y:Nat),y<=n->(bz x y).1=(bz x y).2.1*x+(bz x y).2.2*y:=by
 intro n
 induction n with
 | zero=>intro x y h;rw[(om:y=0),mY];simp
 | succ n ih =>
  intro x y h;by_cases a:y=0
  .rw[a,mY];simp
  .have b:=ih y (x%y) (by have:=di x (gK a);omega)
   rw[sd x a];simp only;rw[b];have e:(x:Int)=((x/y:Nat):Int)*y+((x%y:Nat):Int):=by
    have:=cV x y;rw[aA]at this
    exact_mod_cast this.symm
   generalize ((x/y:Nat):Int)=q at *;generalize ((x%y:Nat):Int)=r at *;rw[e];grind
def DS:∀(n x y:Nat),y<=n->(bz x y).1∣(x:Int)/\(bz x y).1∣(y:Int):=by
 intro n
 induction n with
 | zero=>intro x y h;rw[(om:y=0),mY];exact⟨iJ _,jm _⟩
 | succ n ih =>
  intro x y h;by_cases a:y=0
  .rw[a,mY];exact⟨iJ _,jm _⟩
  .have b:=ih y (x%y) (by have:=di x (gK a);omega)
   rw[sd x a];refine⟨?_,b.1⟩;have e:(x:Int)=(y:Int)*((x/y:Nat):Int)+((x%y:Nat):Int):=by exact_mod_cast (cV x y).symm
   rw[e];exact gQ (eF b.1) b.2
def Ax:∀(n x y:Nat),y<=n->(0<x∨0<y)->0<(bz x y).1/\(bz x y).1<=max x y:=by
 intro n
 induction n with
 | zero=>intro x y h h';rw[(om:y=0),mY];simp only;omega
 | succ n ih =>
  intro x y h h';by_cases a:y=0
  .rw[a,mY];simp only;omega
  .have b:=di x (gK a);have c:=ih y (x%y) om om;rw[sd x a];simp only;omega
def MS:∀(n x y:Nat),y<=n->0<y->((bz x y).2.1).natAbs<=y/\((bz x y).2.2).natAbs<=max 1 x:=by
 intro n
 induction n with
 | zero=>intro x y h h';omega
 | succ n ih =>
  intro x y h h';have b:=di x h';rw[sd x om];simp only;by_cases a:x%y=0
  .rw[a,mY];simp only;omega
  .have c:=ih y (x%y) om om;have e:=cV x y;have d:(((x/y:Nat):Int)*(bz y (x%y)).2.2).natAbs<=x/y*y:=by
    rw[cN,fE];exact aM _ om
   rw[aA]at e;omega
structure Le(x0 y0 x y:Nat)(a b na nb:Int):Prop where
 fa:a*(bz x y).2.1+na*(bz x y).2.2=(bz x0 y0).2.1
 fb:b*(bz x y).2.1+nb*(bz x y).2.2=(bz x0 y0).2.2
 fd:(bz x y).1=(bz x0 y0).1
 pos:0<x∨0<y
 sa:na.natAbs*x+a.natAbs*y=y0
 sb:nb.natAbs*x+b.natAbs*y=x0
 ga:(0<=a/\na<=0)∨(a<=0/\0<=na)
 gb:(0<=b/\nb<=0)∨(b<=0/\0<=nb)
 la:a.natAbs<=max 1 y0
 lb:b.natAbs<=max 1 x0
 lna:na.natAbs<=max 1 y0
 lnb:nb.natAbs<=max 1 x0
 lx:x<=max x0 y0
 ly:y<=max x0 y0
def Le.init(h:0<x0∨0<y0):Le x0 y0 x0 y0 1 0 0 1:=by
 refine⟨sm,sm,rfl,h,sm,sm,sm,sm,by simp;omega,sm,sm,by simp;omega,om,om⟩
def qk(c:0<=q)(h:(0<=a/\b<=0)∨(a<=0/\0<=b)):(a-q*b).natAbs=a.natAbs+q.natAbs*b.natAbs/\((0<=b/\a-q*b<=0)∨(b<=0/\0<=a-q*b)):=by
 rcases h with⟨f,d⟩|⟨f,d⟩
 .have e:0<=q*(-b):=cD c om;rw[mR]at e;rw[<-cN];omega
 .have e:0<=q*b:=cD c d;rw[<-cN];omega
def Le.step{x y:Nat}{nb:Int}(h:Le x0 y0 x y a b na nb)(j:y≠0):Le x0 y0 y (x%y) na nb (a-((x/y:Nat):Int)*na) (b-((x/y:Nat):Int)*nb):=by
 have e:=cV x y;have f:=sd x j;have g:=qk (q:=((x/y:Nat):Int)) (cM _) h.ga;have i:=qk (q:=((x/y:Nat):Int)) (cM _) h.gb;rw[fE]at g i;have sa:(a-((x/y:Nat):Int)*na).natAbs*y+na.natAbs*(x%y)=y0:=by
  rw[g.1];have:=h.sa;generalize x/y=q at *;generalize x%y=r at *;subst e;rw[<-this];grind
 have sb:(b-((x/y:Nat):Int)*nb).natAbs*y+nb.natAbs*(x%y)=x0:=by
  rw[i.1];have:=h.sb;generalize x/y=q at *;generalize x%y=r at *;subst e;rw[<-this];grind
 have k:∀c d:Nat,c*y+d=y0->c<=y0:=fun c d h=>by
  have:c*1<=c*y:=aM _ om;omega
 have l:∀c d:Nat,c*y+d=x0->c<=x0:=fun c d h=>by
  have:c*1<=c*y:=aM _ om;omega
 refine⟨?_,?_,?_,a9 om,sa,sb,g.2,i.2,h.lna,h.lnb,by have:=k _ _ sa;omega,by have:=l _ _ sb;omega,h.ly,by have:=h.ly;have:=di x (gK j);omega⟩
 .have:=h.fa;rw[f]at this;simp only at this;rw[<-this];grind
 .have:=h.fb;rw[f]at this;simp only at this;rw[<-this];grind
 .have:=h.fd;rw[f]at this;exact this
def Le.fin{x:Nat}{nb:Int}(h:Le x0 y0 x 0 a b na nb):bz x0 y0=((x:Int),a,b):=by
 have c:=h.fa;have d:=h.fb;have e:=h.fd;rw[mY]at c d e;simp only at c d e;ext<;>simp only<;>omega

def jp(P:Prop):∃β:Bool,(β=true↔P):=by
 rcases fL P with h|h
 .exact⟨true,by simp[h]⟩
 .exact⟨false,by simp[h]⟩
def cP{P:Prop}(h:β=true↔P)(a:¬P):β=false:=by
 cases β with
 | false=>rfl
 | true=>exact absurd (h.1 rfl) a
def tB(p:Nat):Prop:=2<=p/\∀d,2<=d->d*d<=p->¬p%d=0
def tB.div{p:Nat}(a:tB p)(h:d∣p):d=1∨d=p:=by
 obtain⟨e,rfl⟩:=h;have g:=a.1;rcases (om:d=0∨d=1∨2<=d)with rfl|rfl|c
 .omega
 .exact a9 rfl
 .rcases (om:e=0∨e=1∨2<=e)with rfl|rfl|f
  .omega
  .exact aR om
  .exfalso;rcases Nat.le_total d e with b|b
   .exact a.2 d c (aM d b) (Nat.mul_mod_right d e)
   .exact a.2 e f (aq e b) (Nat.mul_mod_left d e)
def tB.gcd{p a:Nat}(c:tB p)(h:¬p∣a):(bz p a).1=1:=by
 obtain⟨g,i⟩:=DS a p a (ag a);have d:=(Ax a p a (ag a) (a9 (by have:=c.1;omega))).1
 have e:=jy.2 g;have b:=jy.2 i;rw[fE]at e b;rcases c.div e with f|f
 .omega
 .rw[f]at b;exact absurd b h
def qM(p a:Int):Int:=(bz p.toNat (a%p).toNat).2.2%p
def tB.gcd'{p:Nat}(b:tB p)(h:¬(p:Int)∣a):(bz (p:Int).toNat (a%p).toNat).1=1:=by
 have g:=b.1;have c:=aV a (show(p:Int)≠0 by omega)
 have d:(((a%p).toNat:Nat):Int)=a%p:=c9 c;rw[cQ];exact b.gcd (a:=(a%p).toNat) (fun e=>h (dF (by
  have:=Int.natCast_dvd_natCast.2 e;rw[d]at this;have f:=cS this
  rwa [Int.emod_emod]at f)))
def tB.inv{p:Nat}(b:tB p)(h:¬(p:Int)∣a):(p:Int)∣a*qM p a-1:=by
 have j:=b.1;have d:=aV a (show(p:Int)≠0 by omega)
 have e:(((a%p).toNat:Nat):Int)=a%p:=c9 d;have c:=b.gcd' h;rw[cQ]at c;have f:=DR (a%p).toNat p (a%p).toNat (ag _);rw[c,e]at f;unfold qM;rw[cQ];generalize (bz p (a%p).toNat).2.1=u at *;generalize (bz p (a%p).toNat).2.2=w at *;have g:=dx a p;have i:=dx w p;refine⟨a/p*(w%p)-(a%p)*(w/p)-u,?_⟩;generalize a%(p:Int)=r at *;generalize a/(p:Int)=q at *;generalize w%(p:Int)=s at *;generalize w/(p:Int)=t at *;subst g;subst i
 grind
def tB.inv1{p:Nat}(b:tB p)(h:¬(p:Int)∣a):(a%p*qM p a)%p=1:=by
 obtain⟨c,d⟩:=b.inv h;have e:=b.1;rw[eY,Int.emod_emod,<-eY,(om:a*qM p a=1+p*c),qS]
 exact dz om om
def tB.mul{p:Nat}(g:tB p)(a b:Int)(h:(p:Int)∣a*b):(p:Int)∣a∨(p:Int)∣b:=by
 by_cases e:(p:Int)∣a
 .exact a9 e
 .obtain⟨c,k⟩:=g.inv e;obtain⟨d,i⟩:=h;refine aR ⟨qM p a*d-c*b,?_⟩;generalize qM p a=u at *;have j:a*u*b=b+p*c*b:=by rw[(om:a*u=1+p*c)];grind
  have f:a*u*b=u*(a*b):=by grind
  rw[i]at f;rw[j]at f;rw[mQ];have l:u*(↑p*d)=↑p*(u*d):=by grind
  have m:↑p*(c*b)=↑p*c*b:=by grind
  omega
def zK(b:0<p)(a:Int):0<=qM p a/\qM p a<p:=⟨aV _ om,aU _ om⟩
def oW(p:Nat):Prop:=tB p/\3<=p/\p<=9973
def oW.odd{p:Nat}(h:oW p):p%2=1:=by
 have b:=h.2.1;rcases aB p 4 with a|a
 .omega
 .have:=h.1.2 2 om om;omega

def C2{p:Nat}(l:∀a b,a<c->b<c->A' a b=A a b)(m:∀a,a<c->A' a (c+j)=A a (c+j))
  (o:∀b,b<c->A' (c+i) b=x*A (c+p) b+y*A (c+r) b) (q:A' (c+i) (c+j)=x*A (c+p) (c+j)+y*A (c+r) (c+j)):ci A' c i j=x*ci A c p j+y*ci A c r j:=by
 have d:∀(z b:Nat),b<c->up c (fun _=>z) b=b:=fun z b g=>by rw[kf,aj g]
 have f:∀z,up c (fun _=>z) c=c+z:=fun z=>by rw[kf,ah om]
 have h:=ow (fun a b=>A (up c (fun _=>p) a) (up c (fun _=>j) b)) (n:=c+1) (i:=c) om x y (fun b=>A (c+p) (up c (fun _=>j) b)) (fun b=>A (c+r) (up c (fun _=>j) b));have e:∀(z:Nat),det (c+1) (setRow (fun a b=>A (up c (fun _=>p) a) (up c (fun _=>j) b)) c (fun b=>A (c+z) (up c (fun _=>j) b)))=ci A c z j:=fun z=>by
  unfold ci;refine aZ fun a b s g=>?_;simp only[setRow];by_cases e:a=c
  .subst e;rw[aj rfl,f]
  .rw[ah e,d _ a om,d _ a om]
 rw[e,e]at h;rw[<-h];unfold ci;refine aZ fun a b s g=>?_;simp only[setRow];by_cases e:a=c
 .subst e;rw[aj rfl,f];by_cases k:b=a
  .subst k;rw[f];exact q
  .rw[d _ b om];exact o b om
 .rw[ah e,d _ a om,d _ a om];by_cases k:b=c
  .subst k;rw[f];exact m a om
  .rw[d _ b om];exact l a b om om
def IH{p:Nat}(l:∀a b,a<c->b<c->A' a b=A a b)(m:∀b,b<c->A' (c+i) b=A (c+i) b)
  (o:∀a,a<c->A' a (c+j)=x*A a (c+p)+y*A a (c+r)) (q:A' (c+i) (c+j)=x*A (c+i) (c+p)+y*A (c+i) (c+r)):ci A' c i j=x*ci A c i p+y*ci A c i r:=by
 have d:∀(z b:Nat),b<c->up c (fun _=>z) b=b:=fun z b g=>by rw[kf,aj g]
 have f:∀z,up c (fun _=>z) c=c+z:=fun z=>by rw[kf,ah om]
 have h:=me (fun a b=>A (up c (fun _=>i) a) (up c (fun _=>p) b)) (n:=c+1) (c:=c) om x y (fun a=>A (up c (fun _=>i) a) (c+p)) (fun a=>A (up c (fun _=>i) a) (c+r));have e:∀(z:Nat),det (c+1) (aT (fun a b=>A (up c (fun _=>i) a) (up c (fun _=>p) b)) c (fun a=>A (up c (fun _=>i) a) (c+z)))=ci A c i z:=fun z=>by
  unfold ci;refine aZ fun a b s g=>?_;simp only[aT];by_cases e:b=c
  .subst e;rw[aj rfl,f z]
  .rw[ah e,d _ b om,d _ b om]
 rw[e,e]at h;rw[<-h];unfold ci;refine aZ fun a b s g=>?_;simp only[aT];by_cases e:b=c
 .subst e;rw[aj rfl,f];by_cases k:a=b
  .subst k;rw[f];exact q
  .rw[d _ a om];exact o a om
 .rw[ah e,d _ b om,d _ b om];by_cases k:a=c
  .subst k;rw[f];exact m b om
  .rw[d _ a om];exact l a b om om
def DZ(f:j<i)(g:c<j):eZ (j8 A i j q) i c=eZ A i c+q*eZ A j c:=by
 unfold eZ;have h:=C2 (A:=A) (A':=j8 A i j q) (c:=c) (i:=i-c) (j:=0) (p:=i-c) (r:=j-c) (x:=1) (y:=q) (fun a b d e=>lG A om om) (fun a d=>lG A om om)
  (fun b e=>by rw[(om:c+(i-c)=i),(om:c+(j-c)=j),uN A om,cL])
  (by rw[(om:c+(i-c)=i),(om:c+(j-c)=j),uN A om,cL])
 rw[h,cL]
def xO(w:j<i)(x:i<i')(y:c<i'):eZ (j8 A i j q) i' c=eZ A i' c:=by
 have p:∀(z b:Nat),b<c->up c (fun _=>z) b=b:=fun z b g=>by rw[kf,aj g]
 have l:∀z,up c (fun _=>z) c=c+z:=fun z=>by rw[kf,ah om]
 have d:∀b,b<c+1->up c (fun _=>0) b=b:=fun b g=>lT c b g;unfold eZ ci;rcases dp c i with h|h|h
 .refine aZ fun a b o g=>?_;rw[d b g];refine lG A ?_ om;by_cases e:a=c
  .subst e;rw[l];omega
  .rw[p _ a om];omega
 .subst h;have m:=kB (fun a b=>A (up c (fun _=>i'-c) a) (up c (fun _=>0) b)) (n:=c+1) (i:=c) (k:=j) om om om 1 q;rw[cL]at m;rw[<-m];refine aZ fun a b o g=>?_;have f:up c (fun _=>i'-c) a≠c:=by
   by_cases e:a=c
   .subst e;rw[l];omega
   .rw[p _ a om];exact e
  simp only[aT];by_cases e:b=c
  .subst e;rw[aj rfl,d b om,d j om];simp[j8,f]
  .rw[ah e,d b g];exact lG A f e
 .have t:=kA (fun a b=>A (up c (fun _=>i'-c) a) (up c (fun _=>0) b)) (n:=c+1) (i:=i) (k:=j) om om om 1 q;have m:=kB (setRow (fun a b=>A (up c (fun _=>i'-c) a) (up c (fun _=>0) b)) i (fun b=>1*A (up c (fun _=>i'-c) i) (up c (fun _=>0) b)+q*A (up c (fun _=>i'-c) j) (up c (fun _=>0) b))) (n:=c+1) (i:=i) (k:=j) om om om 1 q;rw[t]at m;rw[cL,cL]at m;rw[<-m];refine aZ fun a b o g=>?_;have f:∀a,a<c->up c (fun _=>i'-c) a=a:=fun a o=>p _ a o;simp only[aT,setRow];rw[d b g,d i om,d j om,f i om,f j om];have u:j≠i:=om
  by_cases e:a=i
  .subst e;rw[f a om];by_cases r:b=a<;>simp[j8,r]<;>grind
  .have s:up c (fun _=>i'-c) a≠i:=by
    by_cases v:a=c
    .subst v;rw[l];omega
    .rw[f a om];exact e
   by_cases r:b=i<;>simp[j8,r,s,e]<;>grind
def Gw(p:0<k)(q:k<c)(r:c<i):eZ (xn A k) i c=eZ A i c:=by
 have d:∀b,b<c+1->up c (fun _=>0) b=b:=fun b f=>lT c b f;unfold eZ ci;have j:=yv (fun a b=>A (up c (fun _=>i-c) a) (c8 (k-1) k b)) (n:=c+1) (i:=k-1) (k:=k) om om om;have l:=lk (fun a b=>A (up c (fun _=>i-c) a) b) (n:=c+1) (i:=k-1) (k:=k) om om om;rw[l,yQ]at j;have m:det (c+1) (fun a b=>A (up c (fun _=>i-c) a) (up c (fun _=>0) b))=det (c+1) (fun a b=>A (up c (fun _=>i-c) a) b):=aZ fun a b o f=>by rw[d b f]
 rw[m,<-j];refine aZ fun a b o f=>?_;simp only[xn];rw[d b f];congr 1;by_cases e:a=c
 .subst e;have g:up a (fun _=>i-a) a=i:=by rw[kf,ah om];omega
  have h:c8 (k-1) k a=a:=by unfold c8;rw[ah om,ah om]
  rw[h,g];unfold c8;rw[ah om,ah om]
 .have g:up c (fun _=>i-c) a=a:=by rw[kf,aj om]
  have h:c8 (k-1) k a<c:=by unfold c8;split<;>(try split)<;>omega
  rw[g,kf,aj h]
def im(A:az)(k:Nat)(f0 f1 s0 s1:Int):az:=fun a b=>if a=k-1 then f0*A (k-1) b+f1*A k b else if a=k then s0*A (k-1) b+s1*A k b else A a b
def jc(A:az)(k:Nat)(f0 f1 s0 s1:Int):az:=fun a b=>im (fun b a=>im A k f0 f1 s0 s1 a b) k f0 f1 s0 s1 b a
def py:jc A k 1 0 0 1=A:=by
 funext a b;simp only[jc,im]
 grind
def kR(A:az){k a b:Nat}{f0 f1 s0 s1:Int}(c:a≠k-1)(d:a≠k)(e:b≠k-1)(f:b≠k):jc A k f0 f1 s0 s1 a b=A a b:=by simp[jc,im,c,d,e,f]
def px{s0 s1:Int}(h:0<k):xn (jc A k f0 f1 s0 s1) k=jc A k s0 s1 f0 f1:=by
 funext a b;have c:k≠k-1:=om
 simp only[xn,jc,im,c8];by_cases d:a=k-1<;>by_cases e:a=k<;>by_cases f:b=k-1<;>by_cases g:b=k<;>simp[d,e,f,g,c,ai c]<;>first|omega|grind
def MU{s0 s1:Int}(h:0<k):j8 (jc A k f0 f1 s0 s1) k (k-1) q=jc A k f0 f1 (s0+q*f0) (s1+q*f1):=by
 funext a b;have c:k≠k-1:=om
 simp only[j8,jc,im];by_cases d:a=k-1<;>by_cases e:a=k<;>by_cases f:b=k-1<;>by_cases g:b=k<;>simp[d,e,f,g,c,ai c]<;>first|omega|grind

def FK{s0 s1:Int}(h:c<k-1):eZ (jc A k f0 f1 s0 s1) (k-1) c=f0*eZ A (k-1) c+f1*eZ A k c:=by
 unfold eZ;have f:k≠k-1:=om
 have d:∀b,b<k-1->jc A k f0 f1 s0 s1 (k-1) b=f0*A (k-1) b+f1*A k b:=fun b e=>by
  simp[jc,im,(om:b≠k-1),(om:b≠k)]
 refine C2 (A:=A) (fun a b g e=>kR A om om om om) (fun a g=>kR A om om om om) (fun b e=>?_) ?_
 .rw[(om:c+(k-1-c)=k-1),(om:c+(k-c)=k)];exact d b om
 .rw[(om:c+(k-1-c)=k-1),(om:c+(k-c)=k)];exact d (c+0) om
def FJ{s0 s1:Int}(h:c<k-1):eZ (jc A k f0 f1 s0 s1) k c=s0*eZ A (k-1) c+s1*eZ A k c:=by
 unfold eZ;have d:k≠k-1:=om
 have e:∀b,b<k-1->jc A k f0 f1 s0 s1 k b=s0*A (k-1) b+s1*A k b:=fun b f=>by
  simp[jc,im,(om:b≠k-1),(om:b≠k),d]
 refine C2 (A:=A) (fun a b g f=>kR A om om om om) (fun a g=>kR A om om om om) (fun b f=>?_) ?_
 .rw[(om:c+(k-1-c)=k-1),(om:c+(k-c)=k)];exact e b om
 .rw[(om:c+(k-1-c)=k-1),(om:c+(k-c)=k)];exact e (c+0) om
def RB{s0 s1:Int}(l:0<k)(m:k<i) :
  ci (jc A k f0 f1 s0 s1) (k-1) (i-(k-1)) 0=f0*ci A (k-1) (i-(k-1)) 0+f1*ci A (k-1) (i-(k-1)) 1 /\
  ci (jc A k f0 f1 s0 s1) (k-1) (i-(k-1)) 1=s0*ci A (k-1) (i-(k-1)) 0+s1*ci A (k-1) (i-(k-1)) 1:=by
 have e:k≠k-1:=om
 have c:∀a,a≠k-1->a≠k->jc A k f0 f1 s0 s1 a (k-1)=f0*A a (k-1)+f1*A a k:=fun a f g=>by
  simp[jc,im,f,g]
 have d:∀a,a≠k-1->a≠k->jc A k f0 f1 s0 s1 a k=s0*A a (k-1)+s1*A a k:=fun a f g=>by
  simp[jc,im,f,g,e]
 constructor
 .refine IH (A:=A) (fun a b h j=>kR A om om om om) (fun b j=>kR A om om om om) (fun a h=>?_) ?_
  .rw[(om:k-1+1=k),cu];exact c a om om
  .rw[(om:k-1+1=k),cu];exact c _ om om
 .refine IH (A:=A) (fun a b h j=>kR A om om om om) (fun b j=>kR A om om om om) (fun a h=>?_) ?_
  .rw[(om:k-1+1=k),cu];exact d a om om
  .rw[(om:k-1+1=k),cu];exact d _ om om
def Pd.lam_up(h:Pd A n){k i:Nat}(b:0<k)(c:k<i)(d:i<n) :
  det (k-1) A*eZ A i k=det k A*ci A (k-1) (i-(k-1)) 1-ci A (k-1) (i-(k-1)) 0*eZ A k (k-1):=by
 have e:=ij (A:=A) (k:=k-1) (h.ne om) (i-k) 0;have a:=h.stg_sym (k-1) 0 1 om om;rw[cG,(om:k-1+1=k),aJ,(om:i-k+1=i-(k-1)),a]at e
 unfold eZ;rw[(om:k-(k-1)=1)]
 exact e.symm
structure pI(A:az)(n k:Nat)(f0 f1 s0 s1 a b c:Int):Prop where
 pd:Pd (jc A k f0 f1 s0 s1) n
 pa:det k (jc A k f0 f1 s0 s1)=a
 pb:eZ (jc A k f0 f1 s0 s1) k (k-1)=b
 pc:ci (jc A k f0 f1 s0 s1) (k-1) 1 1=c
 pu:(f0*s1-f1*s0)*(f0*s1-f1*s0)=1
 lead:∀m,m≠k->det m (jc A k f0 f1 s0 s1)=det m A
 up:∀i j,k<j->j<i->eZ (jc A k f0 f1 s0 s1) i j=eZ A i j
 ac:a*c-b*b=det (k-1) A*det (k+1) A
def pI.init(h:Pd A n)(a:0<k)(b:k<n):pI A n k 1 0 0 1 (det k A) (eZ A k (k-1)) (ci A (k-1) 1 1):=by
 have e:=h.swap_lead a b;rw[mn a]at e;refine⟨by rw[py];exact h,by rw[py],by rw[py],by rw[py],om,fun m _=>by rw[py],fun i c _ _=>by rw[py],om⟩
def JG(h:Pd A n)(r:0<k)(s:k<n):eZ (xn A k) k (k-1)=eZ A k (k-1)/\ci (xn A k) (k-1) 1 1=det k A:=by
 have d:∀a,a<k-1->c8 (k-1) k a=a:=fun a f=>by unfold c8;rw[ah om,ah om]
 have l:c8 (k-1) k (k-1)=k:=by unfold c8;rw[aj rfl]
 have m:c8 (k-1) k k=k-1:=by unfold c8;rw[ah om,aj rfl]
 have g:∀(z a:Nat),z<=1->a<k->c8 (k-1) k (up (k-1) (fun _=>z) a)=up (k-1) (fun _=>1-z) a:=fun z a t f=>by
  by_cases e:a=k-1
  .subst e;rw[kf,ah om,kf,ah om];rcases (om:z=0∨z=1)with rfl|rfl
   .rw[cu,l];omega
   .rw[(om:k-1+1=k),m];omega
  .rw[kf,aj om,kf,aj om];exact d a om
 have c:∀i j,i<=1->j<=1->ci (xn A k) (k-1) i j=ci A (k-1) (1-i) (1-j):=fun i j o p=>by
  unfold ci;refine aZ fun a b f u=>?_;simp only[xn];rw[g i a o om,g j b p om]
 have q:=h.stg_sym (k-1) 0 1 om om;unfold eZ;rw[(om:k-(k-1)=1),c 1 0 om om,c 1 1 om om]
 refine⟨q,?_⟩;rw[bQ,cG,(om:k-1+1=k)]
def pI.swap{s0 s1 c:Int}(h:pI A n k f0 f1 s0 s1 a b c)(d:0<k)(f:k<n):pI A n k s0 s1 f0 f1 c b a:=by
 have e:=JG h.pd d f;rw[px d]at e;have g:=mn (A:=jc A k f0 f1 s0 s1) d;rw[px d]at g;have j:=h.pd.swap d f;rw[px d]at j;refine⟨j,g.trans h.pc,e.1.trans h.pb,e.2.trans h.pa,?_,fun m l=>?_,fun i c o p=>?_,?_⟩
 .have:=h.pu;grind
 .rw[<-px d,ml d l];exact h.lead m l
 .rw[<-px d,Gw d o p];exact h.up i c o p
 .have:=h.ac;grind
def Hy(h:Pd A n)(a:0<k)(b:k<n):ci (j8 A k (k-1) q) (k-1) 1 1=ci A (k-1) 1 1+2*(q*eZ A k (k-1))+q*q*det k A:=by
 have f:=h.stg_sym (k-1) 0 1 om om;have g:=h.pos (k-1) om;have d:=h.pos k om;have e:=h.swap_lead a b;have c:=(h.add (q:=q) (om:k-1<k) b).swap_lead a b
 rw[mn a]at e c;rw[fo om,fo om,fo om,mz om,(om:k-1+1=k)]at c
 refine cH (om:det k A≠0) ?_
 rw[c]
 grind
def pI.sub{s0 s1 c:Int}(h:pI A n k f0 f1 s0 s1 a b c)(q:Int)(g:0<k)(l:k<n):pI A n k f0 f1 (s0-q*f0) (s1-q*f1) a (b-q*a) (c-q*(b+(b-q*a))):=by
 have d:j8 (jc A k f0 f1 s0 s1) k (k-1) (-q)=jc A k f0 f1 (s0-q*f0) (s1-q*f1):=by
  rw[MU g];congr 1<;>grind
 have f:=mz (A:=jc A k f0 f1 s0 s1) (i:=k) (j:=k-1) (q:=-q) om;have e:=Hy (q:=-q) h.pd g l;rw[d]at f e;rw[(om:k-1+1=k),h.pb,h.pa]at f
 rw[h.pc,h.pb,h.pa]at e;refine⟨?_,?_,by rw[f];grind,by rw[e];grind,?_,fun m p=>?_,fun i c e o=>?_,?_⟩
 .rw[<-d];exact h.pd.add om l
 .rw[<-d,fo om];exact h.pa
 .have:=h.pu;grind
 .rw[<-d,fo om];exact h.lead m p
 .rw[<-d,xO om om o];exact h.up i c e o
 .have:=h.ac;grind

def iD(n:Nat)(f:Nat->Int):ap (n+1) f=f 0+ap n (fun j=>f (j+1)):=by
 induction n with
 | zero=>simp[ap]
 | succ n ih=>rw[ap,ih];simp only[ap];omega
def jd(a:∀i,i<n->h∣f i):h∣ap n f:=by
 induction n with
 | zero=>exact jm _
 | succ n ih=>simp only[ap];exact gQ (ih fun i b=>a i om) (a n om)
def ll(n:Nat)(f g:Nat->Int):ap n (fun i=>f i-g i)=ap n f-ap n g:=by
 induction n with
 | zero=>rfl
 | succ n ih=>simp only[ap];rw[ih];omega
def rR(n:Nat)(f:Nat->Int):ap n (fun i=>- f i)=- ap n f:=by
 induction n with
 | zero=>rfl
 | succ n ih=>simp only[ap];rw[ih];omega
def EJ(n:Nat)(c:Int):ap n (fun _=>c)=n*c:=by
 induction n with
 | zero=>simp[ap]
 | succ n ih=>simp only[ap];rw[ih];grind
def mF(d:Nat)(c:Nat->Int)(x:Int):Int:=ap d (fun i=>c i*x^i)
def I1{c:Nat->Int}(h:∀i,d<=i->c i=0)(a:d<=N)(x:Int):mF N c x=mF d c x:=by
 induction N with
 | zero=>rw[(om:d=0)]
 | succ N ih =>
  by_cases e:d=N+1
  .rw[e]
  .simp only[mF,ap];rw[h N om];simp only[mF]at ih;rw[ih om];omega
def rX(d:Nat)(c:Nat->Int)(x:Int):mF (d+1) c x=c 0+x*mF d (fun i=>c (i+1)) x:=by
 simp only[mF];rw[iD,<-cF];congr 1
 .simp
 .exact ay fun i _=>by rw[eC];grind
theorem sI:∀(d:Nat) (c:Nat->Int),(∀x:Int,1<=x->mF d c x=0)->∀i,i<d->c i=0
 | 0,_,_,_,b=>om
 | d+1,c,h,i,b=>by
  have f:c 0=0:=by
   have a:=h ((c 0).natAbs+1) om;rw[rX]at a;have g:(((c 0).natAbs:Int)+1)∣c 0:=⟨- mF d (fun i=>c (i+1)) ((c 0).natAbs+1),by rw[mR];omega⟩
   have j:=jy.2 g;rcases bD (c 0).natAbs with e|e
   .omega
   .have l:=BI e j;omega
  have a:∀x:Int,1<=x->mF d (fun i=>c (i+1)) x=0:=by
   intro x k;have a:=h x k;rw[rX,f,Int.zero_add]at a;rcases fH.1 a with e|e
   .omega
   .exact e
  match i,b with
  | 0,_=>exact f
  | i+1,b=>exact sI d (fun i=>c (i+1)) a i om
def IY(d:Nat)(c e:Nat->Int)(x:Int):mF d (fun i=>c i-e i) x=mF d c x-mF d e x:=by
 simp only[mF];rw[<-ll];exact ay fun i _=>by rw[Int.sub_mul]
def Oe(d:Nat)(c e:Nat->Int)(x:Int):mF d (fun i=>c i+e i) x=mF d c x+mF d e x:=by
 simp only[mF];rw[<-dD];exact ay fun i _=>by rw[sA]
def I0(d:Nat)(a:Int)(c:Nat->Int)(x:Int):mF d (fun i=>a*c i) x=a*mF d c x:=by
 simp only[mF];rw[<-cF];exact ay fun i _=>by rw[et]
def E6{c e:Nat->Int}(h:∀x,mF d c x=mF d e x){i:Nat}(a:i<d):c i=e i:=by
 have:=sI d (fun i=>c i-e i) (fun x _=>by rw[IY,h x];omega) i a
 omega
def IX(d n:Nat)(c:Nat->Nat->Int)(x:Int):mF d (fun i=>ap n (fun j=>c j i)) x=ap n (fun j=>mF d (c j) x):=by
 simp only[mF];rw[p9];refine ay fun i _=>?_;rw[bU,<-cF];exact ay fun j _=>by rw[bU]
def Sn(c:Nat->Int):Nat->Int
 | 0=>0
 | i+1=>c i
def IZ(d:Nat)(c:Nat->Int)(x:Int):mF (d+1) (Sn c) x=x*mF d c x:=by
 rw[rX];show 0+x*mF d c x=_;omega
def sv(d:Nat)(f:Int->Int):Prop:=∃c:Nat->Int,(∀i,d<=i->c i=0)/\∀x,f x=mF d c x
def sv.mono{e:Nat}{f:Int->Int}(h:sv d f)(b:d<=e):sv e f:=by
 obtain⟨c,a,g⟩:=h;exact⟨c,fun i j=>a i om,fun x=>by rw[g x,I1 a b]⟩
def sv.add{f g:Int->Int}(h:sv d f)(k:sv d g):sv d (fun x=>f x+g x):=by
 obtain⟨c,b,j⟩:=h;obtain⟨e,l,m⟩:=k;exact⟨fun i=>c i+e i,fun i a=>by simp only;rw[b i a,l i a];rfl,fun x=>by rw[Oe,<-j x,<-m x]⟩
def sv.smul{f:Int->Int}(h:sv d f)(a:Int):sv d (fun x=>a*f x):=by
 obtain⟨c,b,e⟩:=h;exact⟨fun i=>a*c i,fun i g=>by simp only;rw[b i g,kH],fun x=>by rw[I0,<-e x]⟩
def sv.xmul{f:Int->Int}(h:sv d f):sv (d+1) (fun x=>x*f x):=by
 obtain⟨c,b,e⟩:=h;refine⟨Sn c,fun i a=>?_,fun x=>by rw[IZ,<-e x]⟩
 match i,a with
 | i+1,a=>exact b i om
def sv.zero(d:Nat):sv d (fun _=>0):=⟨fun _=>0,fun _ _=>rfl,fun x=>by
 simp only[mF];rw[iN];intro i _;rw[lJ]⟩
theorem sv.sum{d:Nat}:∀{n:Nat} {f:Nat->Int->Int},(∀j,j<n->sv d (f j))->sv d (fun x=>ap n (fun j=>f j x))
 | 0,_,_=>by simp only[ap];exact sv.zero d
 | n+1,f,h=>by simp only[ap];exact(sv.sum fun j a=>h j om).add (h n om)
def sv.congr{f g:Int->Int}(h:sv d f)(e:∀x,g x=f x):sv d g:=by
 obtain⟨c,a,b⟩:=h;exact⟨c,a,fun x=>(e x).trans (b x)⟩
def sv.lin{f:Int->Int}(h:sv d f)(a b:Int):sv (d+1) (fun x=>(a+b*x)*f x) :=
 (((h.smul a).mono om).add (h.xmul.smul b)).congr fun x=>by grind
def NA:Nat->(Nat->Bool)->Nat
 | 0,_=>0
 | n+1,R=>(if R 0 then 0 else 1)+NA n (fun i=>R (i+1))
theorem DO:∀(n:Nat) (R:Nat->Bool) (a b:az),(∀i,R i=true->∀j,b i j=0)->sv (1+NA n R) (fun x=>det n (fun i j=>a i j+b i j*x))
 | 0,R,a,b,_=>⟨fun i=>if i=0 then 1 else 0,fun i c=>by simp only[NA]at c;exact ah om,fun x=>by simp[det,NA,mF,ap]⟩
 | n+1,R,a,b,h=>by
  simp only[det,NA];refine sv.sum fun j _=>?_;have ih:=DO n (fun i=>R (i+1)) (cut a j) (cut b j) (fun i c k=>h (i+1) c _);have e:∀x:Int,cut (fun i j=>a i j+b i j*x) j=fun i k=>cut a j i k+cut b j i k*x:=fun x=>rfl
  cases d:R 0 with
  | true =>
   refine((ih.smul (xu j*a 0 j)).congr fun x=>?_).mono sm
   rw[e x,h 0 d j];grind
  | false =>
   refine((ih.lin (xu j*a 0 j) (xu j*b 0 j)).congr fun x=>?_).mono (by simp;omega)
   rw[e x];grind
theorem Jj:∀(n:Nat) (R:Nat->Bool),NA n R<=n
 | 0,_=>ag _
 | n+1,R=>by have:=Jj n (fun i=>R (i+1));simp only[NA];split<;>omega
theorem DH:∀(n:Nat) (R:Nat->Bool) (i:Nat),i<n->R i=true->NA n R+1<=n
 | n+1,R,0,_,h=>by have:=Jj n (fun i=>R (i+1));simp only[NA,h,aE];omega
 | n+1,R,i+1,a,h=>by have:=DH n (fun i=>R (i+1)) i om h;simp only[NA];split<;>omega
def cm(M:az)(x:Int):az:=fun i j=>- M i j+(if i=j then 1 else 0)*x
theorem FF:∀(n:Nat) (M:az),sv n (fun x=>det n (cm M x)-x^n)
 | 0,M=>⟨fun _=>0,fun _ _=>rfl,fun x=>by simp[det,mF,ap]⟩
 | n+1,M=>by
  have ih:=FF n (fun i j=>M (i+1) (j+1));have c:sv (n+1) (fun x=>x^n):=⟨fun i=>if i=n then 1 else 0,fun i a=>ah om,fun x=>by
   simp only[mF];rw[cI n om (fun i _ a=>by rw[ah a,lJ])];simp⟩
  have b:∀j,j<n->sv (n+1) (fun x=>xu (j+1)*cm M x 0 (j+1)*det n (cut (cm M x) (j+1))):=by
   intro j b;have d:=DO n (fun i=>decide (i=j)) (cut (fun i j=>- M i j) (j+1)) (cut (fun i j=>if i=j then 1 else 0) (j+1)) (fun i a k=>by
    simp only[jK]at a;subst a;simp only[cut];exact ah (by unfold skip;split<;>omega))
   have l:=DH n (fun i=>decide (i=j)) j b sm
   refine((d.smul (xu (j+1)*- M 0 (j+1))).mono om).congr fun x=>?_;have e:cm M x 0 (j+1)=- M 0 (j+1):=by simp[cm]
   rw[e];rfl
  have f:=sv.sum b;refine(((ih.lin (- M 0 0) 1).add (c.smul (- M 0 0))).add f).congr fun x=>?_;simp only[det];rw[iD];have g:cut (cm M x) 0=cm (fun i j=>M (i+1) (j+1)) x:=by
   funext i k;simp[cut,cm,skip]
  have h:cm M x 0 0=- M 0 0+x:=by simp[cm]
  rw[g,h,zy,eC]
  grind
def Ru(M:az){i:Nat}(d:i<n)(j:Nat):sv n (fun x=>qo n (cm M x) i j):=by
 have f:=DO n (fun k=>decide (k=i)) (setRow (fun i j=>- M i j) i (dW j)) (fun a b=>if a=i then 0 else if a=b then 1 else 0) (fun k c b=>by
  simp only[jK]at c;simp[c])
 have g:=DH n (fun k=>decide (k=i)) i d sm
 refine(f.mono om).congr fun x=>?_;unfold qo;congr 1;funext a b;simp only[setRow,cm];by_cases e:a=i
 .simp[e]
 .simp[e]
theorem uF{h:Int}:∀(n:Nat) (B C:az),(∀i j,h∣B i j-C i j)->h∣det n B-det n C
 | 0,_,_,_=>by simp[det]
 | n+1,B,C,a=>by
  simp only[det];rw[<-ll];refine jd fun j _=>?_;obtain⟨u,d⟩:=uF n (cut B j) (cut C j) (fun i k=>a _ _);obtain⟨v,e⟩:=a 0 j;refine⟨xu j*(B 0 j*u+v*det n (cut C j)),?_⟩;have b:det n (cut B j)=det n (cut C j)+h*u:=om
  have c:B 0 j=C 0 j+h*v:=om
  rw[b,c];grind
def dg(A:az)(h:Int)(m:Nat):az:=fun i j=>A i j+(if i<m/\i=j then h else 0)
theorem MI(n:Nat)(A:az)(h:Int):∀m,m<=n->h*h∣det n (dg A h m)-det n A-h*ap m (fun i=>qo n A i i)
 | 0,_=>by
  have:dg A h 0=A:=by funext i j;simp[dg]
  rw[this];simp[ap]
 | m+1,d=>by
  obtain⟨q,f⟩:=MI n A h m om;have b:dg A h (m+1)=setRow (dg A h m) m (fun j=>dg A h m m j+h*dW m j):=by
   funext i j;simp only[dg,setRow,dW];by_cases e:i=m
   .subst e;by_cases a:i=j
    .subst a;simp
    .simp[a,ai a]
   .simp only[e,aH];congr 1;by_cases a:i<m
    .simp[a,(om:i<m+1)]
    .simp[a,(om:¬i<m+1)]
  have a:det n (dg A h (m+1))=det n (dg A h m)+h*qo n (dg A h m) m m:=by
   rw[b,kq _ om,rn _ om,jC];rfl
  obtain⟨u,g⟩:=uF (h:=h) n (setRow (dg A h m) m (dW m)) (setRow A m (dW m)) (fun i j=>by
   simp only[setRow,dg];split
   .simp
   .split
    .exact⟨1,om⟩
    .exact⟨0,om⟩)
  refine⟨q+u,?_⟩;have c:qo n (dg A h m) m m=qo n A m m+h*u:=by unfold qo;omega
  rw[a,c];simp only[ap];have:det n (dg A h m)=det n A+h*ap m (fun i=>qo n A i i)+h*h*q:=om
  rw[this];grind
theorem IS(x h:Int):∀i:Nat,h*h∣(x+h)^i-x^i-h*(i*x^(i-1))
 | 0=>by simp
 | i+1=>by
  obtain⟨q,a⟩:=IS x h i;refine⟨(x+h)*q+i*x^(i-1),?_⟩;have e:(x+h)^i=x^i+h*(i*x^(i-1))+h*h*q:=om
  rw[eC,e,eC];have b:(i:Int)*x^i=i*x^(i-1)*x:=by
   match i with
   | 0=>simp
   | i+1=>simp only[fA];rw[eC,et]
  simp only[fA,eD,wY]
  grind
def Sx(c:Nat->Int):Nat->Int:=fun i=>(i+1)*c (i+1)
def Od(d:Nat)(c:Nat->Int)(x h:Int):h*h∣mF (d+1) c (x+h)-mF (d+1) c x-h*mF d (Sx c) x:=by
 have e:mF d (Sx c) x=ap (d+1) (fun i=>c i*(i*x^(i-1))):=by
  rw[iD];simp only[mF,Sx];rw[show c 0*(((0:Nat):Int)*x^(0-1))=0 by simp,Int.zero_add]
  refine ay fun i _=>?_;simp only[fA,eD,wY];grind
 rw[e,<-cF];simp only[mF];rw[<-ll,<-ll];refine jd fun i _=>?_;obtain⟨q,a⟩:=IS x h i;exact⟨c i*q,by
  have e:(x+h)^i=x^i+h*(i*x^(i-1))+h*h*q:=om
  rw[e];grind⟩
def O9(h:∀k:Int,1<=k->k∣z):z=0:=by
 have a:=jy.2 (h (z.natAbs+1) om);rcases bD z.natAbs with e|e
 .omega
 .have b:=BI e a;omega
def mm(n:Nat)(A B:az):az:=fun i j=>ap n (fun k=>A i k*B k j)
def tr(n:Nat)(A:az):Int:=ap n (fun i=>A i i)
def rm(n:Nat)(M:az):Nat->az
 | 0=>fun i j=>if i=j then 1 else 0
 | k+1=>fun i j=>mm n M (rm n M k) i j+(if i=j then tr n (mm n M (rm n M k))/(-((k+1:Nat):Int))else 0)
def OL(B:1<=n)(M:az):∃(a:Nat->Nat->Nat->Int) (χ:Nat->Int),χ n=1/\(∀i j,i<n->j<n->a i j n=0)
 /\(∀i r k,i<n->r<n->k<=n->Sn (a i r) k-ap n (fun j=>M r j*a i j k)=if i=r then χ k else 0)
 /\(∀k,k<n->ap n (fun i=>a i i k)=(k+1)*χ (k+1))
 /\(∀i j,i<n->j<n->a i j 0=qo n (cm M 0) i j):=by
 have p:∀i j,∃c:Nat->Int,i<n->((∀k,n<=k->c k=0)/\∀x,qo n (cm M x) i j=mF n c x):=fun i j=>by
  by_cases b:i<n
  .obtain⟨c,h⟩:=Ru M b j;exact⟨c,fun _=>h⟩
  .exact⟨fun _=>0,fun h=>absurd h b⟩
 obtain⟨a,d⟩:∃a:Nat->Nat->Nat->Int,∀i j,i<n->((∀k,n<=k->a i j k=0)/\∀x,qo n (cm M x) i j=mF n (a i j) x) :=
  ⟨fun i j=>(p i j).choose,fun i j=>(p i j).choose_spec⟩
 obtain⟨e,t,o⟩:=FF n M;have hχ:∀x,det n (cm M x)=mF (n+1) (fun k=>if k=n then 1 else e k) x:=by
  intro x;have f:=o x;simp only[mF,ap]at f ⊢;rw[ay (g:=fun i=>e i*x^i) (fun i b=>by rw[ah om]),<-f];simp
 refine⟨a,fun k=>if k=n then 1 else e k,sm,fun i j b _=>(d i j b).1 n (ag _),fun i r k b q s=>?_,fun k s=>?_,fun i j b l=>?_⟩
 .have key:∀x,mF (n+1) (fun k=>Sn (a i r) k-ap n (fun j=>M r j*a i j k)) x=mF (n+1) (fun k=>if i=r then(if k=n then 1 else e k)else 0) x:=by
   intro x;have f:=tY (cm M x) b q;rw[IY,IZ,IX (n+1) n (fun j k=>M r j*a i j k)];rw[ay (g:=fun j=>M r j*qo n (cm M x) i j) (fun j l=>by rw[I0,I1 (d i j b).1 om,<-(d i j b).2 x])]
   rw[<-(d i r b).2 x];have w:ap n (fun j=>cm M x r j*qo n (cm M x) i j)=x*qo n (cm M x) i r-ap n (fun j=>M r j*qo n (cm M x) i j):=by
    rw[ay (g:=fun j=>(if r=j then x*qo n (cm M x) i j else 0)-M r j*qo n (cm M x) i j) (fun j _=>by simp only[cm];split<;>grind),ll]
    rw[cI r q (fun j _ l=>by rw[ah (ai l)])];simp
   rw[<-w,f];split
   .rw[hχ x]
   .simp only[mF];rw[iN];intro k _;rw[lJ]
  exact E6 key om
 .have key:∀x,mF n (fun k=>ap n (fun i=>a i i k)) x=mF n (Sx (fun k=>if k=n then 1 else e k)) x:=by
   intro x;rw[IX n n (fun i k=>a i i k)];rw[ay (g:=fun i=>qo n (cm M x) i i) (fun i b=>by rw[<-(d i i b).2 x])]
   have:∀k:Int,1<=k->k∣ap n (fun i=>qo n (cm M x) i i)-mF n (Sx (fun k=>if k=n then 1 else e k)) x:=by
    intro h C;obtain⟨u,y⟩:=MI n (cm M x) h n (ag _);obtain⟨v,D⟩:=Od n (fun k=>if k=n then 1 else e k) x h
    have z:det n (dg (cm M x) h n)=det n (cm M (x+h)):=aZ fun i j b l=>by
     simp only[dg,cm];by_cases e:i=j
     .subst e;simp[b];omega
     .simp[e]
    rw[z,hχ,hχ]at y;refine⟨v-u,?_⟩;have A:h*(ap n (fun i=>qo n (cm M x) i i)-mF n (Sx (fun k=>if k=n then 1 else e k)) x)=h*(h*(v-u)):=by
     grind
    exact cH om A
   have:=O9 this;omega
  exact E6 key s
 .rw[(d i j b).2 0];obtain⟨m,rfl⟩:∃m,n=m+1:=⟨n-1,om⟩
  rw[rX];omega
def nj(a:i<n)(f:Nat->Int):ap n (fun j=>(if i=j then 1 else 0)*f j)=f i:=by
 rw[cI i a (fun j _ b=>by rw[ah (ai b),lJ])];simp
def OK(p:1<=n)(M:az):∀i j,i<n->j<n->rm n M (n-1) j i=qo n (cm M 0) i j:=by
 obtain⟨a,χ,q,s,h,t,u⟩:=OL p M;have key:∀k,k<n->∀i j,i<n->j<n->rm n M k j i=a i j (n-1-k):=by
  intro k
  induction k with
  | zero =>
   intro _ i j b c;have d:=h i j n b c (ag _);rw[iN (fun k l=>by rw[s i k b l,kH]),q]at d
   obtain⟨m,rfl⟩:∃m,n=m+1:=⟨n-1,om⟩
   simp only[Sn]at d;simp only[rm,fA,dC];rw[show(if j=i then(1:Int)else 0)=if i=j then 1 else 0 by split<;>split<;>omega]
   omega
  | succ k ih =>
   intro l i j b c;have ih:=ih om;obtain⟨K,v⟩:∃K,n-1-k=K+1:=⟨n-2-k,om⟩
   have f:n-1-(k+1)=K:=om
   rw[f];rw[v]at ih;have o:∀i r,i<n->r<n->mm n M (rm n M k) r i=a i r K-(if i=r then χ (K+1)else 0):=by
    intro i r b w;have d:=h i r (K+1) b w om;simp only[Sn]at d;simp only[mm];rw[ay (g:=fun j=>M r j*a i j (K+1)) (fun j c=>by rw[ih i j b c])]
    omega
   have x:tr n (mm n M (rm n M k))=-((k+1:Nat):Int)*χ (K+1):=by
    simp only[tr];rw[ay (g:=fun i=>a i i K - χ (K+1)) (fun i b=>by rw[o i i b b,aj rfl]),ll,t K om,EJ]
    have:(n:Int)=K+1+(k+1):=om
    rw[this];simp only[eD,wY];grind
   simp only[rm];rw[o i j b c,x,cj _ om];by_cases e:i=j
   .subst e;simp
   .rw[ah e,ah (ai e)];omega
 intro i j b c;rw[key (n-1) om i j b c,bQ,u i j b c]
def jV(n:Nat)(M:az):az:=fun i j=>if n%2=0 then-rm n M (n-1) i j else rm n M (n-1) i j
def Ok(n:Nat):(-1:Int)^n=if n%2=0 then 1 else -1:=by
 induction n with
 | zero=>rfl
 | succ n ih=>rw[eC,ih];split<;>split<;>omega
def AC(d:1<=n)(M:az){i j:Nat}(c:i<n)(e:j<n):jV n M j i=qo n M i j:=by
 have f:qo n (cm M 0) i j=(-1)^n*(-1*qo n M i j):=by
  unfold qo;rw[<-rn M c,<-ro];congr 1;funext a b;simp only[setRow,cm,dW];split<;>grind
 simp only[jV];rw[OK d M i j c e,f,Ok];split<;>grind
def nS(n:Nat)(A B C:az)(i j:Nat):mm n (mm n A B) C i j=mm n A (mm n B C) i j:=by
 simp only[mm];rw[ay (g:=fun k=>ap n (fun l=>A i l*B l k*C k j)) (fun k _=>by rw[bU,<-cF];exact ay fun l _=>by grind)]
 rw[p9];exact ay fun l _=>by rw[<-cF];exact ay fun k _=>by grind
def ri{B':az}(h:∀k,k<n->A i k=A' i k)(h':∀k,k<n->B k j=B' k j):mm n A B i j=mm n A' B' i j :=
 ay fun k a=>by rw[h k a,h' k a]
theorem Fo(n:Nat)(M:az):∀k i j,i<n->j<n->mm n (rm n M k) M i j=mm n M (rm n M k) i j
 | 0,i,j,b,a=>by
  simp only[mm,rm];rw[nj b (fun k=>M k j),cI j a (fun k _ c=>by rw[ah c,kH])];simp
 | k+1,i,j,b,a=>by
  have d:mm n (rm n M (k+1)) M i j=mm n (mm n M (rm n M k)) M i j+(tr n (mm n M (rm n M k))/(-((k+1:Nat):Int)))*M i j:=by
   simp only[mm,rm];rw[<-nj b (fun l=>(tr n (mm n M (rm n M k))/(-((k+1:Nat):Int)))*M l j),<-dD];exact ay fun l _=>by split<;>grind
  have f:mm n M (rm n M (k+1)) i j=mm n M (mm n M (rm n M k)) i j+(tr n (mm n M (rm n M k))/(-((k+1:Nat):Int)))*M i j:=by
   simp only[mm,rm];rw[<-nj a (fun l=>(tr n (mm n M (rm n M k))/(-((k+1:Nat):Int)))*M i l),<-dD];refine ay fun l _=>?_;by_cases e:l=j
   .subst e;simp;grind
   .rw[ah e,ah (ai e)];grind
  rw[d,f,nS];congr 1;exact ri (fun _ _=>rfl) (fun l g=>Fo n M k l j g a)
def pD(c:1<=n)(M:az){i j:Nat}(b:i<n)(a:j<n):mm n (jV n M) M i j=if i=j then det n M else 0:=by
 have d:mm n (jV n M) M i j=mm n M (jV n M) i j:=by
  have h:=Fo n M (n-1) i j b a;simp only[mm,jV]at h ⊢;by_cases e:n%2=0
  .simp only[e,aE];rw[ay (g:=fun k=>- (rm n M (n-1) i k*M k j)) (fun k _=>by grind),rR,h,<-rR]
   exact ay fun k _=>by grind
  .simp only[e,aH];exact h
 rw[d];simp only[mm];rw[ay (g:=fun k=>M i k*qo n M j k) (fun k f=>by rw[AC c M a f]),tY M a b]
 split<;>split<;>omega

def gH(M:Int)(k:Nat):gS:=fun r=>if r=k then M else 0
structure TL(N:Nat)(L:gS->Prop)(d M:Nat->Int):Prop where
 lat:NH N L
 pos:∀i,i<N->0<d i
 step:∀i,i<N->M i=d i*M (i+1)
 last:M N=1
 dvd:∀x,L x->∀i,i<N->(∀r,r<i->x r=0)->d i∣x i
 unit:∀i k,i<=k->k<N->L (gH (M i) k)
 col:∀i,i<N->∃x,L x/\(∀r,r<i->x r=0)/\x i=d i
def JE(b:sM N N H){x c:gS}(g:∀r,r<N->x r=ap N (fun j=>H r j*c j)):∀i,i<=N->(∀r,r<i->x r=0)->∀j,j<i->c j=0:=by
 intro i
 induction i with
 | zero=>intro _ _ j h;omega
 | succ i ih =>
  intro n d j h;have ih':=ih om (fun r o=>d r om);by_cases e:j=i
  .subst e;have f:=g j om;rw[d j om,cI j om (fun k l m=>by
    rcases aB k j with a|a
    .rw[ih' k a];simp
    .rw[(b j om).1 k om l];simp)]at f
   rcases fH.1 f.symm with a|a
   .have:=(b j om).2;omega
   .exact a
  .exact ih' j om
def Lx(b:sM N N H){x c:gS}(d:∀r,r<N->x r=ap N (fun j=>H r j*c j)){i:Nat}(a:i<N)(f:∀r,r<i->x r=0):x i=H i i*c i:=by
 have g:=JE b d i om f;rw[d i a,cI i a (fun k h l=>by
  rcases aB k i with e|e
  .rw[g k e];simp
  .rw[(b i a).1 k om h];simp)]
def EG(H:az)(N i:Nat):Int:=fQ (N-i) (fun r=>H (i+r) (i+r))
def zp(H:az){N i:Nat}(a:i<N):EG H N i=H i i*EG H N (i+1):=by
 unfold EG;rw[(om:N-i=(N-(i+1))+1)]
 simp only[fQ,cu];congr 2;funext r;rw[(om:i+(r+1)=i+1+r)]
theorem CZ(H:az){N:Nat}:∀(m i:Nat),i+m<=N->EG H N (i+m)∣EG H N i
 | 0,i,_=>iJ _
 | m+1,i,h=>by
  have a:=CZ H (N:=N) m (i+1) om;rw[zp H (om:i<N),(om:i+(m+1)=i+1+m)]
  exact ck a
theorem EE{N:Nat}{H:az}(g:sM N N H):∀(m k:Nat),k<N->N-k<=m->eP N N H (gH (EG H N k) k)
 | 0,k,c,p=>om
 | m+1,k,c,p=>by
  have b:=eP.lat N N H;have s:∀r,k<r->r<N->eP N N H (gH (EG H N (k+1)) r):=by
   intro r l d;obtain⟨q,n⟩:=CZ H (N:=N) (r-(k+1)) (k+1) om;rw[(om:k+1+(r-(k+1))=r)]at n
   refine b.ext _ _ (b.smul (EE g m r d om) q) (fun i _=>?_);simp only[gH];split
   .rw[n,bU]
   .simp
  have l:=b.sum (fun r=>if k<r then gH (EG H N (k+1)) r else fun _=>0) (fun r=>- H r k) N (fun r t=>by
   split
   .rename_i h;exact s r h t
   .exact b.zero)
  refine b.ext _ _ (b.comb _ _ (eP.col (j:=k) c) l (EG H N (k+1)) 1) (fun i e=>?_);have d:ap N (fun j=>(if k<j then gH (EG H N (k+1)) j else fun _=>0) i*- H j k)=if k<i then EG H N (k+1)*- H i k else 0:=by
   rw[cI i e (fun j u f=>by
    by_cases a:k<j
    .simp[a,gH,ai f]
    .simp[a])]
   by_cases a:k<i
   .simp[a,gH]
   .simp[a]
  simp only[d,gH];by_cases a:i=k
  .subst a;rw[ah om,aj rfl,zp H e];grind
  .rw[ah a];by_cases o:k<i
   .rw[aj o];grind
   .rw[ah o,(g i e).1 k om c];simp
def TL.of_tri(b:sM N N H):TL N (eP N N H) (fun i=>H i i) (EG H N):=by
 refine⟨eP.lat N N H,fun i a=>(b i a).2,fun i a=>zp H a,by simp[EG,fQ],?_,fun i k e f=>?_,fun i a=>⟨_,eP.col a,fun r g=>(b r om).1 i g a,rfl⟩⟩
 .rintro x ⟨c,h⟩ i a j;exact⟨c i,Lx b h a j⟩
 .obtain⟨q,d⟩:=CZ H (N:=N) (k-i) i om;rw[(om:i+(k-i)=k)]at d
  refine(eP.lat N N H).ext _ _ ((eP.lat N N H).smul (EE b (N-k) k f (ag _)) q) (fun r _=>?_);simp only[gH];split
  .rw[d,bU]
  .simp
def TL.congr{d:Nat->Int}(h:TL N L d M)(c:NH N L')(e:∀x,L' x↔L x):TL N L' d M :=
 ⟨c,h.pos,h.step,h.last,fun x f=>h.dvd x ((e x).1 f),fun i k a b=>(e _).2 (h.unit i k a b),fun i g=>by obtain⟨x,a,b⟩:=h.col i g;exact⟨x,(e x).2 a,b⟩⟩
def TL.of_det{w:az}(c:det N w≠0):∃d M,TL N (eP N N w) d M/\M 0=((det N w).natAbs:Int):=by
 obtain⟨H,a,b⟩:=Gt w c;refine⟨_,_,(TL.of_tri b).congr (eP.lat N N w) a.1,?_⟩;rw[Lw a b];simp[EG]
def TL.M_pos{d:Nat->Int}(h:TL N L d M):∀m i,N-i<=m->i<=N->0<M i
 | 0,i,a,b=>by rw[(om:i=N),h.last];omega
 | m+1,i,a,b=>by
  by_cases e:i=N
  .rw[e,h.last];omega
  .rw[h.step i om];exact jM (h.pos i om) (h.M_pos m (i+1) om om)
structure HI(N:Nat)(L:gS->Prop)(d M:Nat->Int)(i:Nat)(C:Nat->gS):Prop where
 mem:∀j,j<N->L (C j)
 zero:∀j,i<=j->j<N->∀r,r<i->C j r=0
 gen:∀x,L x->(∀r,r<i->x r=0)->∃t z:gS,∀r,i<=r->r<N->x r=ap N (fun j=>if i<=j then C j r*t j else 0)+M i*z r
 done:∀j,j<i->(∀r,r<j->C j r=0)/\C j j=d j/\∀r,j<r->r<i->0<=C j r/\C j r<d r
def HI.init{w:az}{d:Nat->Int}:HI N (eP N N w) d M 0 (fun j r=>w r j):=by
 refine⟨fun j a=>eP.col a,fun j _ _ r b=>om,fun x e _=>?_,fun j a=>om⟩
 obtain⟨c,f⟩:=e;exact⟨c,fun _=>0,fun r _ b=>by rw[f r b];simp⟩
def HI.red{d:Nat->Int}(f:TL N L d M){i:Nat}{C C':Nat->gS}(h:HI N L d M i C)(y:i<=N)(q:Nat->gS)(o:∀j r,j<N->r<N->C' j r=C j r+(if i<=r then M i*q j r else 0)):HI N L d M i C':=by
 have lo:∀j r,j<N->r<i->C' j r=C j r:=fun j r b a=>by rw[o j r b om,ah om];omega
 refine⟨fun j b=>?_,fun j g n r a=>by rw[lo j r n a];exact h.zero j g n r a,fun x v w=>?_,fun j b=>?_⟩
 .have g:=f.lat.sum (fun r=>if i<=r then gH (M i) r else fun _=>0) (q j) N (fun r a=>by
   split
   .rename_i c;exact f.unit i r c a
   .exact f.lat.zero)
  refine f.lat.ext _ _ (f.lat.add (h.mem j b) g) (fun r a=>?_);rw[o j r b a,cI r a (fun k A p=>by
   by_cases c:i<=k
   .simp[c,gH,ai p]
   .simp[c])]
  by_cases c:i<=r
  .simp[c,gH]
  .simp[c]
 .obtain⟨t,z,s⟩:=h.gen x v w;refine⟨t,fun r=>z r-ap N (fun j=>if i<=j then q j r*t j else 0),fun r a l=>?_⟩
  rw[s r a l];have e:ap N (fun j=>if i<=j then C' j r*t j else 0)=ap N (fun j=>if i<=j then C j r*t j else 0)+M i*ap N (fun j=>if i<=j then q j r*t j else 0):=by
   rw[<-cF,<-dD];refine ay fun j b=>?_;split
   .rw[o j r b l,aj a];grind
   .simp
  rw[e];grind
 .obtain⟨g,n,c⟩:=h.done j b;refine⟨fun r a=>by rw[lo j r om om];exact g r a,by rw[lo j j om b];exact n,fun r u m=>by rw[lo j r om m];exact c r u m⟩
def sQ(g:i<n)(l:j<n)(c:i≠j)(h:∀k,k<n->k≠i->k≠j->f k=0):ap n f=f i+f j:=by
 have e:ap n f=ap n (fun k=>(if k=i then f i else 0)+(if k=j then f j else 0)):=ay fun k a=>by
  by_cases b:k=i
  .subst b;simp[c]
  .by_cases d:k=j
   .subst d;simp[b]
   .simp[b,d,h k a b d]
 rw[e,dD,cI i g (fun k _ a=>by simp[a]),cI j l (fun k _ a=>by simp[a])]
 simp
def HI.comb{d:Nat->Int}(o:TL N L d M){i j:Nat}{C C':Nat->gS}(h:HI N L d M i C)(H:i<j)(s:j<N){a b x y:Int}(F:a*x+b*y=1)
  (u:∀r,r<N->C' i r=a*C i r+b*C j r) (w:∀r,r<N->C' j r=x*C j r-y*C i r) (q:∀k r,k<N->r<N->k≠i->k≠j->C' k r=C k r):HI N L d M i C':=by
 have n:i<N:=om
 refine⟨fun k g=>?_,fun k A p r c=>?_,fun v I J=>?_,fun k g=>?_⟩
 .by_cases l:k=i
  .subst l;exact o.lat.ext _ _ (o.lat.comb _ _ (h.mem k g) (h.mem j s) a b) (fun r c=>(u r c).symm)
  .by_cases m:k=j
   .subst m;exact o.lat.ext _ _ (o.lat.comb _ _ (h.mem k g) (h.mem i n) x (-y)) (fun r c=>by rw[w r c];grind)
   .exact o.lat.ext _ _ (h.mem k g) (fun r c=>(q k r g c l m).symm)
 .have G:=h.zero i (ag _) n r c;have z2:=h.zero j om s r c;by_cases l:k=i
  .subst l;rw[u r om,G,z2];simp
  .by_cases m:k=j
   .subst m;rw[w r om,G,z2];simp
   .rw[q k r p om l m];exact h.zero k A p r c
 .obtain⟨t,z,B⟩:=h.gen v I J;refine⟨fun k=>if k=i then x*t i+y*t j else if k=j then a*t j-b*t i else t k,z,fun r c f=>?_⟩
  rw[B r c f];congr 1;have e:ap N (fun k=>(if i<=k then C' k r*(if k=i then x*t i+y*t j else if k=j then a*t j-b*t i else t k)else 0)+(-1)*(if i<=k then C k r*t k else 0))=0:=by
   rw[sQ n s om (fun k g l m=>by
    simp only[l,m,aH];split
    .rw[q k r g f l m];omega
    .simp)]
   simp only[ag,aE,(om:i<=j),(om:j≠i),aH]
   rw[u r f,w r f];have:C i r*t i=(a*x+b*y)*(C i r*t i):=by rw[F];omega
   have:C j r*t j=(a*x+b*y)*(C j r*t j):=by rw[F];omega
   grind
  rw[dD,cF]at e;show _=ap N (fun k=>if i<=k then C' k r*(if k=i then x*t i+y*t j else if k=j then a*t j-b*t i else t k)else 0)
  omega
 .obtain⟨K,O,P⟩:=h.done k g;have e:∀r,r<N->C' k r=C k r:=fun r c=>q k r om c om om;exact⟨fun r c=>by rw[e r om];exact K r c,by rw[e k om];exact O,fun r D E=>by rw[e r om];exact P r D E⟩
def HI.pivot_eq{d:Nat->Int}(e:TL N L d M){i:Nat}{C:Nat->gS}(h:HI N L d M i C)(c:i<N)(k:∀j,i<j->j<N->C j i=0){p a b:Int}(l:0<p)(m:p=a*C i i+b*M i)(n:p∣C i i)(o:p∣M i):p=d i:=by
 have q:d i∣p:=by
  rw[m];exact gQ (ck (e.dvd _ (h.mem i c) i c (h.zero i (ag _) c))) (ck ⟨M (i+1),e.step i c⟩)
 have r:p∣d i:=by
  obtain⟨x,s,u,v⟩:=e.col i c;obtain⟨t,z,f⟩:=h.gen x s u;have g:=f i (ag _) c;rw[v,cI i c (fun j w y=>by
   split
   .rw[k j om w];simp
   .rfl)]at g
  simp only[ag,aE]at g;rw[g];exact gQ (eF n) (eF o)
 exact Tj (bn l) (bn (e.pos i c)) r q
def HI.pivot{d:Nat->Int}(k:TL N L d M){i:Nat}{C C':Nat->gS}(h:HI N L d M i C)(f:i<N)(B:∀j,i<j->j<N->C j i=0){p a b:Int}(S:0<p)(D:p=a*C i i+b*M i)(K:p∣C i i)(T:p∣M i)(q:gS)
  (E:∀r,r<N->C' i r=if r=i then p else a*C i r) (y:∀j r,j<i->r<N->C' j r=C j r-q j*C' i r) (F:∀j r,i<j->j<N->r<N->C' j r=C j r) (U:∀j,j<i->0<=C' j i/\C' j i<p) :
  HI N L d M (i+1) C':=by
 have m:=h.pivot_eq k f B S D K T;have V:=h.zero i (ag _) f;have g:∀r,r<i->C' i r=0:=fun r c=>by rw[E r om,ah om,V r c];simp
 have o:L (C' i):=k.lat.ext _ _ (k.lat.comb _ _ (h.mem i f) (k.unit i i (ag _) f) a b) (fun r c=>by
  rw[E r c];simp only[gH];by_cases e:r=i
  .subst e;simp[D]
  .simp[e])
 refine⟨fun j l=>?_,fun j W n r c=>?_,fun x X O=>?_,fun j l=>?_⟩
 .rcases aB j i with P|P
  .exact k.lat.ext _ _ (k.lat.comb _ _ (h.mem j l) o 1 (- q j)) (fun r c=>by rw[y j r P c];grind)
  .by_cases e:j=i
   .subst e;exact o
   .exact k.lat.ext _ _ (h.mem j l) (fun r c=>(F j r om l c).symm)
 .rw[F j r om n om];by_cases e:r=i
  .subst e;exact B j om n
  .exact h.zero j om n r om
 .obtain⟨t,z,s⟩:=h.gen x X (fun r c=>O r om);have G:=s i (ag _) f;rw[O i om,cI i f (fun j l H=>by
   split
   .rw[B j om l];simp
   .rfl)]at G
  simp only[ag,aE]at G;obtain⟨u,Q⟩:=K;have A:=k.step i f;rw[<-m]at A;have I:a*u+b*M (i+1)=1:=by
   rw[Q,A]at D;refine cH (om:p≠0) ?_
   grind
  have Y:u*t i+M (i+1)*z i=0:=by
   rw[Q,A]at G;refine cH (om:p≠0) ?_
   grind
  have Z:t i=M (i+1)*(b*t i-a*z i):=by
   have:t i=(a*u+b*M (i+1))*t i:=by rw[I];omega
   have:a*(u*t i+M (i+1)*z i)=0:=by rw[Y];omega
   grind
  refine⟨t,fun r=>C i r*(b*t i-a*z i)+p*z r,fun r c v=>?_⟩;rw[s r om v,A];have e:ap N (fun j=>(if i<=j then C j r*t j else 0)+(-1)*(if i+1<=j then C' j r*t j else 0))=C i r*t i:=by
   rw[cI i f (fun j l H=>?_)]
   .rw[aj (ag _),ah om];omega
   .by_cases R:i<=j
    .rw[aj R,aj om,F j r om l v];omega
    .rw[ah R,ah om];omega
  rw[dD,cF]at e;have h10:C i r*t i=M (i+1)*(C i r*(b*t i-a*z i)):=by
   have:C i r*t i=C i r*(M (i+1)*(b*t i-a*z i)):=by rw[<-Z]
   grind
  grind
 .by_cases e:j=i
  .subst e;exact⟨g,by rw[E j f,aj rfl,m],fun r w J=>om⟩
  .obtain⟨g1,g2,g3⟩:=h.done j om;refine⟨fun r c=>by rw[y j r om om,g1 r c,g r om];simp,by rw[y j j om om,g2,g j om];simp,fun r w J=>?_⟩
   by_cases e':r=i
   .subst e';rw[<-m];exact U j om
   .rw[y j r om om,g r om];have:=g3 r w om;simpa using this
def HI.span{d:Nat->Int}(c:TL N L d M){C:Nat->gS}(h:HI N L d M N C)(x:gS):eP N N (fun r j=>C j r) x↔L x:=by
 constructor
 .exact eP.sub c.lat (fun j f=>c.lat.ext _ _ (h.mem j f) (fun _ _=>rfl))
 .intro m;have g:=eP.lat N N (fun r j=>C j r);have key:∀i,i<=N->∃y,eP N N (fun r j=>C j r) y/\∀r,r<i->y r=x r:=by
   intro i
   induction i with
   | zero=>intro _;exact⟨_,g.zero,fun r k=>om⟩
   | succ i ih =>
    intro p;obtain⟨y,a,b⟩:=ih om;have l:L y:=eP.sub c.lat (fun j f=>c.lat.ext _ _ (h.mem j f) (fun _ _=>rfl)) a;obtain⟨q,s⟩:=c.dvd (fun r=>1*x r+(-1)*y r) (c.lat.comb _ _ m l 1 (-1)) i om (fun r k=>by simp only[b r k];omega)
    refine⟨fun r=>1*y r+q*C i r,g.comb _ _ a (eP.col (j:=i) om) 1 q,fun r k=>?_⟩;obtain⟨n,o,_⟩:=h.done i om;by_cases e:r=i
    .subst e;simp only;rw[o];grind
    .simp only;rw[n r om,b r om];omega
  obtain⟨y,a,b⟩:=key N (ag _);exact g.ext _ _ a b

def jg(p:Int)(piv:Nat)(q:Nat->Int):az:=fun i j=>if j=piv then(if i=piv then p*p else 0)else if i=j then p else if i=piv then-(p*q j)else 0
def yg(n:Nat)(p:Int)(piv:Nat)(q x:Nat->Int):az:=fun i j=>if j<n then jg p piv q i j else x i
def NY{piv:Nat}{q:Nat->Int}(w:Nat->Int)(a:piv<n){j:Nat}(b:j<n):ap n (fun i=>w i*jg p piv q i j)=if j=piv then w piv*(p*p)else w j*p-w piv*(p*q j):=by
 by_cases e:j=piv
 .subst e;rw[cI j b (fun i _ c=>by simp[jg,c])];simp[jg]
 .rw[sQ b a e (fun i _ d f=>by simp[jg,e,d,f]),ah e]
  simp[jg,e,ai e];grind
def NW{piv:Nat}{q:Nat->Int}(i j:Nat):p∣jg p piv q i j:=by
 unfold jg;split
 .split
  .exact⟨p,rfl⟩
  .exact jm _
 .split
  .exact iJ _
  .split
   .exact⟨- q j,by grind⟩
   .exact jm _
def Do{piv:Nat}{q x:Nat->Int}(i:Nat)(c:Nat->Int):ap (n+1) (fun j=>yg n p piv q x i j*c j)=ap n (fun j=>jg p piv q i j*c j)+x i*c n:=by
 simp only[ap];rw[ay (g:=fun j=>jg p piv q i j*c j) (fun j a=>by simp[yg,a])]
 simp[yg]
def ja:Nat->(Nat->Nat)->Nat
 | 0,_=>1
 | n+1,f=>f 0*ja n (fun i=>f (i+1))
def sV{f:Nat->Nat}(h:∀i,i<n->f i<=g i):ja n f<=ja n g:=by
 induction n generalizing f g with
 | zero=>exact ag _
 | succ n ih=>simp only[ja];exact bB (h 0 om) (ih fun i a=>h (i+1) om)
def vW(n:Nat)(f:Nat->Int):(ap n f).natAbs<=dK n f:=by
 induction n with
 | zero=>simp[ap,dK]
 | succ n ih=>simp only[ap,dK];omega
def Hz(f:Nat->Int){j:Nat}(b:j<n+1):dK n (fun k=>f (skip j k))+(f j).natAbs=dK (n+1) f:=by
 induction n with
 | zero=>rw[(om:j=0)];simp[dK]
 | succ n ih =>
  by_cases e:j=n+1
  .subst e;rw[show dK (n+1) (fun k=>f (skip (n+1) k))=dK (n+1) f from ?_]
   .simp only[dK]
   .have key:∀m,m<=n+1->dK m (fun k=>f (skip (n+1) k))=dK m f:=by
     intro m
     induction m with
     | zero=>intro _;rfl
     | succ m a=>intro c;simp only[dK];rw[a om];simp[skip,(om:m<n+1)]
    exact key _ (ag _)
  .have:=ih om;simp only[dK]at this ⊢;rw[show skip j n=n+1 by simp[skip];omega]
   omega
theorem DP:∀(n:Nat) (A:az),(det n A).natAbs<=ja n (fun i=>dK n (A i))
 | 0,_=>by simp[det,ja]
 | n+1,A=>by
  simp only[det,ja];have key:∀m,m<=n+1->(ap m (fun j=>xu j*A 0 j*det n (cut A j))).natAbs<=dK m (A 0)*ja n (fun i=>dK (n+1) (A (i+1))):=by
   intro m
   induction m with
   | zero=>intro _;simp[ap]
   | succ m ih =>
    intro c;have d:=ih om;rw[show dK (m+1) (A 0)=dK m (A 0)+(A 0 m).natAbs from rfl];simp only[ap];rw[dJ];have e:(xu m*A 0 m*det n (cut A m)).natAbs=(A 0 m).natAbs*(det n (cut A m)).natAbs:=by
     rw[cN,cN];have:(xu m).natAbs=1:=by unfold xu;split<;>rfl
     rw[this,mM]
    have a:=DP n (cut A m);have b:ja n (fun i=>dK n (cut A m i))<=ja n (fun i=>dK (n+1) (A (i+1))):=sV fun i _=>by
     have:=Hz (A (i+1)) (om:m<n+1)
     show dK n (fun k=>A (i+1) (skip m k))<=_;omega
    have f:=aM (A 0 m).natAbs (bO a b);omega
  exact key _ (ag _)

theorem TL.uniq{N:Nat}{L:gS->Prop}{d M d' M':Nat->Int}(h:TL N L d M)(h':TL N L d' M'):∀m i,N-i<=m->i<=N->M i=M' i
 | 0,i,j,k=>by rw[(om:i=N),h.last,h'.last]
 | m+1,i,j,k=>by
  by_cases e:i=N
  .rw[e,h.last,h'.last]
  .rw[h.step i om,h'.step i om,TL.uniq h h' m (i+1) om om];have a:d i∣d' i:=by
    obtain⟨x,c,f,g⟩:=h'.col i om;rw[<-g];exact h.dvd x c i om f
   have b:d' i∣d i:=by
    obtain⟨x,c,f,g⟩:=h.col i om;rw[<-g];exact h'.dvd x c i om f
   rw[Tj (bn (h.pos i om)) (bn (h'.pos i om)) a b]
def DI(A:az)(d:c<n)(h:∀i,i<n->A i c=0):det n A=0:=by
 have f:=me A d 0 0 (fun _=>0) (fun _=>0);rw[aZ (B:=aT A c (fun j=>0*(fun _=>0) j+0*(fun _=>0) j)) (fun a b g _=>by
  simp only[aT];split
  .rename_i e;rw[e,h a g];simp
  .rfl),f]
 simp
def DK(A:az)(q:k<n)(h:∀j,j<n->A k j=dW k j):det n A=det n (aT A k (dW k)):=by
 have key:∀m,m<=n->det n (fun a b=>if a<m/\a≠k/\b=k then 0 else A a b)=det n A:=by
  intro m
  induction m with
  | zero=>intro _;exact aZ fun a b _ _=>by simp
  | succ m ih =>
   intro r;rw[<-ih om];by_cases e:m=k
   .subst e;exact aZ fun a b _ _=>by
     by_cases e:a=m
     .simp[e]
     .by_cases c:a<m
      .simp[c,(om:a<m+1)]
      .simp[c,(om:¬a<m+1)]
   .have f:=kA (fun a b=>if a<m/\a≠k/\b=k then 0 else A a b) (i:=m) (k:=k) om q e 1 (- A m k)
    rw[cL]at f;rw[<-f];refine aZ fun a b _ g=>?_;simp only[setRow];have d:=h b g;unfold dW at d;by_cases l:a=m
    .subst l;by_cases o:b=k
     .subst o;simp[e,d];omega
     .simp[o,d]
    .rw[ah l];by_cases c:a<m
     .simp[c,(om:a<m+1)]
     .simp[c,(om:¬a<m+1)]
 rw[<-key n (ag _)];refine aZ fun a b p g=>?_;simp only[aT,dW];by_cases e:b=k
 .subst e;by_cases c:a=b
  .subst c;rw[h a p];simp[dW]
  .simp[p,c]
 .simp[e]
def Km{piv:Nat}(c:piv<n)(r s:Nat->Int)(k:∀i,i<n->0<s i):det n (fun i j=>if i=piv then r j else if i=j then s i else 0)=r piv*fQ n (fun i=>if i=piv then 1 else s i):=by
 have h:=Aq (fun i j=>if i=piv then r j else if i=j then s i else 0) c r
 rw[aZ (B:=setRow (fun i j=>if i=piv then r j else if i=j then s i else 0) piv r) (fun a b _ _=>by simp only[setRow];split<;>rfl),<-h]
 rw[cI piv c (fun j m d=>by
  unfold qo;rw[DI _ c (fun i o=>?_),kH];simp only[setRow,dW];by_cases e:i=piv
  .rw[aj e,ah (ai d)]
  .rw[ah e,ah e,ah e])]
 congr 1;unfold qo;have f:=mX (n:=0) n (fun i j=>if i=j then(if i=piv then 1 else s i)else 0) (by
  rw[aJ];refine fun r l=>⟨fun j h f=>ah om,?_⟩;show(0:Int)<(if r=r then(if r=piv then 1 else s r)else 0)
  rw[aj rfl];split
  .decide
  .exact k r l)
 rw[aJ]at f;rw[aZ (B:=fun i j=>if i=j then(if i=piv then 1 else s i)else 0) (fun a b _ _=>by
  simp only[setRow,dW];by_cases e:a=piv
  .subst e;by_cases g:b=a
   .simp[g]
   .simp[g,ai g]
  .simp[e]),f]
 simp only[aE,det,ir]
def rf{g:Nat->Int}(h:∀i,i<n->f i=g i):fQ n f=fQ n g:=by
 induction n generalizing f g with
 | zero=>rfl
 | succ n ih=>simp only[fQ];rw[h 0 om,ih fun i a=>h (i+1) om]
def zI{a:Nat}(b:a<n)(f:Nat->Int):fQ n (fun i=>if i=a then 1 else f i)*f a=fQ n f:=by
 induction n generalizing a f with
 | zero=>omega
 | succ n ih =>
  simp only[fQ]
  cases a with
  | zero =>
   rw[aj rfl,rf (g:=fun i=>f (i+1)) (fun i _=>ah om),cL,bU]
  | succ a =>
   have:=ih (a:=a) om (fun i=>f (i+1));rw[ah om,rf (g:=fun i=>if i=a then 1 else f (i+1)) (fun i _=>by
    by_cases e:i=a
    .simp[e]
    .simp[e]),et,this]
def E3(n:Nat)(p:Int):fQ n (fun _=>p)=p^n:=by
 induction n with
 | zero=>simp[fQ]
 | succ n ih=>simp only[fQ];rw[ih,eC,bU]
def EL(A:p≠0){piv:Nat}(d:piv<n){w q:Nat->Int}{inv:Int}(h:p∣inv*w piv-1)(o:∀j,j<n->j≠piv->p∣q j*w piv-w j)(y:gS) :
  eP n n (jg p piv q) y↔∃a:gS,(∀i,i<n->y i=p*a i)/\p∣ap n (fun i=>w i*a i):=by
 constructor
 .rintro⟨c,v⟩;have x:∀i,i<n->y i=p*(y i/p):=fun i b=>by
   rw[iM];rw[v i b];exact jd fun j _=>eF (NW _ _)
  refine⟨fun i=>y i/p,x,?_⟩;have B:p*ap n (fun i=>w i*(y i/p))=ap n (fun j=>c j*ap n (fun i=>w i*jg p piv q i j)):=by
   rw[<-cF,ay (g:=fun i=>ap n (fun j=>c j*(w i*jg p piv q i j))) (fun i b=>by
    have C:=x i b;rw[show p*(w i*(y i/p))=w i*(p*(y i/p)) by grind,<-C,v i b,<-cF]
    exact ay fun j _=>by grind),p9]
   exact ay fun j _=>by rw[cF]
  have D:p*p∣ap n (fun j=>c j*ap n (fun i=>w i*jg p piv q i j)):=jd fun j f=>by
   refine ck ?_;rw[NY w d f];split
   .exact⟨w piv,by grind⟩
   .rename_i e;obtain⟨t,E⟩:=o j f e;exact⟨- t,by
     have:w j=q j*w piv-p*t:=om
     rw[this];grind⟩
  obtain⟨u,k⟩:=D;exact⟨u,cH A (by rw[B,k,et])⟩
 .rintro⟨a,F,s,G⟩;obtain⟨Q,z⟩:∃Q,Q=ap n (fun j=>if j=piv then 0 else q j*a j):=⟨_,rfl⟩
  have H:p∣w piv*(a piv+Q):=by
   have e:w piv*(a piv+Q)=ap n (fun i=>w i*a i)+ap n (fun j=>if j=piv then 0 else(q j*w piv-w j)*a j):=by
    rw[z,yR,<-cF,<-dD];have I:w piv*a piv=ap n (fun j=>if j=piv then w j*a j else 0):=by
     rw[cI piv d (fun i _ b=>by rw[ah b])];simp
    rw[I,<-dD];exact ay fun j _=>by
     by_cases e:j=piv
     .simp[e]
     .simp[e];grind
   rw[e,G];refine gQ ⟨s,rfl⟩ (jd fun j f=>?_);split
   .exact jm _
   .exact eF (o j f (by assumption))
  obtain⟨r,J⟩:p∣a piv+Q:=by
   obtain⟨u,k⟩:=H;obtain⟨t,E⟩:=h;refine⟨inv*u-t*(a piv+Q),?_⟩;have e:inv*(w piv*(a piv+Q))=inv*(p*u):=by rw[k]
   have l:inv*w piv=1+p*t:=om
   grind
  refine⟨fun j=>if j=piv then r else a j,fun i b=>?_⟩
  rw[F i b];by_cases e:i=piv
  .subst e;rw[ay (g:=fun j=>(if j=i then p*p*r else 0)+(- p)*(if j=i then 0 else q j*a j)) (fun j f=>by
    by_cases e:j=i
    .subst e;simp[jg]
    .simp[jg,e,ai e];grind),dD,cF,<-z,cI i b (fun j _ f=>by rw[ah f])]
   simp only[aE];have:Q=p*r-a i:=om
   rw[this];grind
  .rw[cI i b (fun j f m=>by
    by_cases l:j=piv
    .simp[jg,l,e]
    .simp[jg,l,e,ai m])]
   simp[jg,e]
def BK(n:Nat)(p:Int)(w x y:gS):Prop:=∃(c:Int) (a:gS),(∀i,i<n->y i=c*x i+p*a i)/\p∣ap n (fun i=>w i*a i)
def Dn(o:p≠0){piv:Nat}(b:piv<n){w x q:Nat->Int}{inv:Int}(e:p∣inv*w piv-1)(r:∀j,j<n->j≠piv->p∣q j*w piv-w j)(y:gS) :
  eP n (n+1) (yg n p piv q x) y↔BK n p w x y:=by
 have m:=EL o b e r;constructor
 .rintro⟨c,s⟩;obtain⟨a,h,k⟩:=(m (fun i=>ap n fun j=>jg p piv q i j*c j)).1 ⟨c,fun _ _=>rfl⟩;exact⟨c n,a,fun i f=>by rw[s i f,Do,h i f];grind,k⟩
 .rintro⟨c,a,h,k⟩;obtain⟨d,t⟩:=(m (fun i=>p*a i)).2 ⟨a,fun _ _=>rfl,k⟩;refine⟨fun j=>if j=n then c else d j,fun i f=>?_⟩
  have g:=t i f;dsimp only at g;have l:ap n (fun j=>jg p piv q i j*(if j=n then c else d j))=ap n (fun j=>jg p piv q i j*d j):=ay fun j u=>by rw[ah om]
  rw[Do,h i f,g,l];simp only[aE];grind
def tM(w a b:gS)(k:Int):ap n (fun i=>w i*(a i+k*b i))=ap n (fun i=>w i*a i)+k*ap n (fun i=>w i*b i):=by
 rw[<-cF,<-dD];exact ay fun i _=>by grind
def BK.change{w x a:gS}(d:p∣ap n (fun i=>w i*a i)){y:gS}(h:BK n p w x y):BK n p w (fun i=>x i+p*a i) y:=by
 obtain⟨c,b,e,f⟩:=h;refine⟨c,fun i=>b i+(-c)*a i,fun i g=>by rw[e i g];grind,?_⟩
 rw[tM];exact gQ f (ck d)
def BK.change_iff{w x a:gS}(d:p∣ap n (fun i=>w i*a i))(y:gS):BK n p w x y↔BK n p w (fun i=>x i+p*a i) y:=by
 refine⟨BK.change d,fun h=>?_⟩;have e:p∣ap n (fun i=>w i*(- a i)):=by
  rw[ay (g:=fun i=>(-1)*(w i*a i)) (fun i _=>by grind),cF]
  exact ck d
 obtain⟨c,b,f,j⟩:=BK.change e h;exact⟨c,b,fun i k=>by rw[f i k];grind,j⟩
def L5(s:p≠0){piv b:Nat}(f:piv<n)(l:b<n)(m:b≠piv){w x q:Nat->Int}{inv:Int}(k:p∣inv*w piv-1)(u:∀j,j<n->j≠piv->p∣q j*w piv-w j)
  (A:x b=1) (o:p∣ap n (fun i=>w i*x i)) (y:gS):eP n n (aT (jg p piv q) b x) y↔BK n p w x y:=by
 constructor
 .intro h;rw[<-Dn s f k u];refine eP.sub (eP.lat n (n+1) (yg n p piv q x)) (fun j r=>?_) h;by_cases e:j=b
  .exact(eP.lat n (n+1) _).ext _ _ (eP.col (j:=n) om) fun i _=>by simp[yg,aT,e]
  .exact(eP.lat n (n+1) _).ext _ _ (eP.col (j:=j) om) fun i _=>by simp[yg,aT,e,r]
 .rintro⟨c,a,B,C⟩;have D:p∣ap n (fun i=>w i*(a i+(- a b)*x i)):=by
   rw[tM];exact gQ C (ck o)
  obtain⟨d,v⟩:=(EL s f k u (fun i=>p*(a i+(- a b)*x i))).2 ⟨_,fun _ _=>rfl,D⟩;have E:d b=0:=by
   have t:=v b l;simp only at t;rw[cI b l (fun j _ r=>by simp[jg,m,ai r])]at t
   simp only[jg,ah m,aE,A]at t;have F:p*d b=0:=by grind
   rcases fH.1 F with h|h
   .exact absurd h s
   .exact h
  refine⟨fun j=>if j=b then c+p*a b else d j,fun i z=>?_⟩
  rw[ay (g:=fun j=>(if j=b then x i*(c+p*a b)else 0)+jg p piv q i j*d j) (fun j _=>by
   by_cases e:j=b
   .simp[aT,e,E]
   .simp[aT,e]),dD,<-v i z,cI b l (fun j _ r=>by rw[ah r]),B i z]
  simp only[aE];grind
def NX(r:0<p){piv b:Nat}(c:piv<n)(h:b<n)(a:b≠piv){x q:Nat->Int}(o:x b=1):det n (aT (jg p piv q) b x)=p^n:=by
 rw[DK _ h (fun j _=>by
  simp only[aT,dW];by_cases e:j=b
  .simp[e,o]
  .simp[e,jg,a,ai e])]
 rw[aZ (B:=fun i j=>if i=piv then(fun j=>if j=b then 0 else if j=piv then p*p else-(p*q j)) j else if i=j then(fun i=>if i=b then 1 else p) i else 0) (fun i j _ _=>by
  simp only[aT,dW,jg];by_cases e:j=b
  .subst e;by_cases d:i=piv
   .simp[d,ai a]
   .by_cases k:i=j
    .simp[k,a]
    .simp[d,k]
  .by_cases d:i=piv
   .subst d;by_cases f:j=i
    .simp[f,ai a]
    .simp[e,f,ai f]
   .by_cases k:i=j
    .subst k;simp[e,d]
    .by_cases f:j=piv
     .simp[d,f,ai a]
     .simp[e,d,k,f]),Km c _ _ (fun i _=>by split<;>omega)]
 rw[ah (ai a),aj rfl];have l:=zI c (fun _=>p);have m:=zI h (fun i=>if i=piv then 1 else p)
 rw[ah a]at m;rw[E3]at l;rw[<-l,<-m,rf (g:=fun i=>if i=b then 1 else if i=piv then 1 else p) (fun i _=>by
  by_cases e:i=piv
  .simp[e]
  .simp[e])]
 grind
def On(o:0<p){piv a:Nat}(b:piv<n)(e:a<n)(c:a≠piv){w x:Nat->Int}{inv t:Int}(f:p∣inv*w piv-1)(r:x a=1+p*t)(g:p∣ap n (fun i=>w i*x i))
  {B:az} (s:sM n n B) (A:∀y,eP n n B y↔BK n p w x y):det n B=p^n:=by
 obtain⟨u,C⟩:=f;have v:p∣ap n (fun i=>w i*(fun i=>if i=a then-t else if i=piv then t*w a*inv else 0) i):=by
  rw[sQ e b c (fun k _ h l=>by simp[h,l])]
  simp only[aE,ah (ai c)];exact⟨t*w a*u,by
   have:inv*w piv=1+p*u:=om
   grind⟩
 have D:∀j,j<n->j≠piv->p∣inv*w j*w piv-w j:=fun j _ _=>⟨u*w j,by
  have:inv*w piv=1+p*u:=om
  grind⟩
 have E:=L5 (x:=fun i=>x i+p*(fun i=>if i=a then-t else if i=piv then t*w a*inv else 0) i) (q:=fun j=>inv*w j) om b e c ⟨u,C⟩ D (by simp only[aE,r];grind) (by
  rw[tM];exact gQ g (ck v))
 have z:=NX (q:=fun j=>inv*w j) o b e c (x:=fun i=>x i+p*(fun i=>if i=a then-t else if i=piv then t*w a*inv else 0) i) (by simp only[aE,r];grind)
 have F:(0:Int)<p^n:=Ik o;obtain⟨d,M,G,m⟩:=TL.of_det (N:=n) (w:=aT (jg p piv (fun j=>inv*w j)) a (fun i=>x i+p*(fun i=>if i=a then-t else if i=piv then t*w a*inv else 0) i)) (by rw[z];omega)
 have h:=(TL.of_tri s).uniq (G.congr (eP.lat n n B) fun y=>by rw[A,E,BK.change_iff v]) n 0 om om
 rw[m,z]at h;have l:=mX (n:=0) n B (by rw[aJ];exact s)
 rw[aJ]at l;rw[l];simp only[EG,dC,aJ,det,ir]at h ⊢;rw[h];omega
theorem xK{n m:Nat}(C:az)(d:m<n)(x:Int)(c:Nat->Int):∀K,K<=n->det n (aT C m (fun a=>x*C a m+ap K (fun k=>if m<k then c k*C a k else 0)))=x*det n C
 | 0,_=>by
  have h:=me C d x 0 (fun a=>C a m) (fun a=>C a m);rw[gJ]at h;rw[aZ (B:=aT C m (fun a=>x*C a m+0*C a m)) (fun a b _ _=>by simp[aT,ap]),h];omega
 | K+1,g=>by
  have ih:=xK C d x c K om;by_cases e:m<K
  .have h:=me C d 1 (c K) (fun a=>x*C a m+ap K (fun k=>if m<k then c k*C a k else 0)) (fun a=>C a K)
   have f:det n (aT C m (fun a=>C a K))=0:=ks _ e om (fun j _=>by simp only[aT];rw[aj trivial,ah om])
   rw[aZ (B:=aT C m (fun a=>1*(x*C a m+ap K (fun k=>if m<k then c k*C a k else 0))+c K*C a K)) (fun a b _ _=>by simp only[aT,ap,aj e];split<;>grind),h,ih,f];omega
  .rw[aZ (B:=aT C m (fun a=>x*C a m+ap K (fun k=>if m<k then c k*C a k else 0))) (fun a b _ _=>by simp only[aT,ap,ah e];split<;>grind),ih]
def Ap(A B:az)(p:∀r c,r<c->c<n->B r c=0):det n (mm n A B)=fQ n (fun i=>B i i)*det n A:=by
 have key:∀m,m<=n->det n (fun a b=>if b<m then mm n A B a b else A a b)=fQ m (fun i=>B i i)*det n A:=by
  intro m
  induction m with
  | zero=>intro _;simp[fQ]
  | succ m ih =>
   intro t;have l:=xK (fun a b=>if b<m then mm n A B a b else A a b) (om:m<n) (B m m) (fun k=>B k m) n (ag _)
   rw[ih om]at l;have g:∀(k:Nat) (f:Nat->Int),fQ (k+1) f=f k*fQ k f:=by
    intro k
    induction k with
    | zero=>intro f;simp[fQ]
    | succ k ih=>intro f;rw[fQ,ih (fun i=>f (i+1))];simp only[fQ];grind
   rw[g,et,<-l];refine aZ fun a b _ d=>?_;simp only[aT];by_cases e:b=m
   .subst e;rw[aj rfl,aj om];simp only[cB,aH];unfold mm;have q:B b b*A a b=ap n (fun k=>if k=b then A a k*B k b else 0):=by
     rw[cI b d (fun j _ s=>by rw[ah s])];simp[bU]
    rw[q,<-dD];refine ay fun k u=>?_;rcases dp k b with h|h|h
    .rw[p k b h d,ah om,ah om];simp
    .rw[aj h,ah om];omega
    .rw[ah om,aj h,ah om,bU];omega
   .rw[ah e];by_cases o:b<m
    .rw[aj o,aj om]
    .rw[ah o,ah om]
 rw[<-key n (ag _)];exact aZ fun a b _ d=>by rw[aj d]
theorem xJ{n m:Nat}(C:az)(d:m<n)(x:Int)(c:Nat->Int):∀K,K<=n->det n (setRow C m (fun a=>x*C m a+ap K (fun k=>if m<k then c k*C k a else 0)))=x*det n C
 | 0,_=>by
  have h:=ow C d x 0 (fun a=>C m a) (fun a=>C m a);rw[show setRow C m (fun a=>C m a)=C from jC C m]at h;rw[aZ (B:=setRow C m (fun a=>x*C m a+0*C m a)) (fun a b _ _=>by simp[setRow,ap]),h];omega
 | K+1,g=>by
  have ih:=xJ C d x c K om;by_cases e:m<K
  .have h:=ow C d 1 (c K) (fun a=>x*C m a+ap K (fun k=>if m<k then c k*C k a else 0)) (fun a=>C K a)
   have f:det n (setRow C m (fun a=>C K a))=0:=oO C d om om;rw[aZ (B:=setRow C m (fun a=>1*(x*C m a+ap K (fun k=>if m<k then c k*C k a else 0))+c K*C K a)) (fun a b _ _=>by simp only[setRow,ap,aj e];split<;>grind),h,ih,f];omega
  .rw[aZ (B:=setRow C m (fun a=>x*C m a+ap K (fun k=>if m<k then c k*C k a else 0))) (fun a b _ _=>by simp only[setRow,ap,ah e];split<;>grind),ih]
def Hj(A B:az)(p:∀r c,r<c->c<n->B r c=0):det n (mm n (fun i j=>B j i) A)=fQ n (fun i=>B i i)*det n A:=by
 have key:∀m,m<=n->det n (fun a b=>if a<m then mm n (fun i j=>B j i) A a b else A a b)=fQ m (fun i=>B i i)*det n A:=by
  intro m
  induction m with
  | zero=>intro _;simp[fQ]
  | succ m ih =>
   intro t;have l:=xJ (fun a b=>if a<m then mm n (fun i j=>B j i) A a b else A a b) (om:m<n) (B m m) (fun k=>B k m) n (ag _)
   rw[ih om]at l;have g:∀(k:Nat) (f:Nat->Int),fQ (k+1) f=f k*fQ k f:=by
    intro k
    induction k with
    | zero=>intro f;simp[fQ]
    | succ k ih=>intro f;rw[fQ,ih (fun i=>f (i+1))];simp only[fQ];grind
   rw[g,et,<-l];refine aZ fun a b d _=>?_;simp only[setRow];by_cases e:a=m
   .subst e;rw[aj rfl,aj om];simp only[cB,aH];unfold mm;have q:B a a*A a b=ap n (fun k=>if k=a then B k a*A k b else 0):=by
     rw[cI a d (fun j _ s=>by rw[ah s])];simp
    rw[q,<-dD];refine ay fun k u=>?_;dsimp only;rcases dp k a with h|h|h
    .rw[p k a h d,ah om,ah om];simp
    .rw[aj h,ah om];omega
    .rw[ah om,aj h,ah om];omega
   .rw[ah e];by_cases o:a<m
    .rw[aj o,aj om]
    .rw[ah o,ah om]
 rw[<-key n (ag _)];exact aZ fun a b d _=>by rw[aj d]
def je(n:Nat)(H:az)(u v:gS):Int:=ap n fun i=>(ap n fun j=>H i j*v j)*u i
def lE(H:az)(c d:Int)(u u' v:gS):je n H (fun i=>c*u i+d*u' i) v=c*je n H u v+d*je n H u' v:=by
 unfold je;rw[<-o9];exact ay fun i _=>by grind
def jl(c:∀a b,a<n->b<n->H a b=H b a)(u v:gS):je n H u v=je n H v u:=by
 unfold je;rw[ay (g:=fun i=>ap n fun j=>H i j*v j*u i) (fun i _=>by rw[bU,<-cF];exact ay fun j _=>by grind),p9]
 refine ay fun j d=>?_;rw[bU _ (v j),<-cF];exact ay fun i e=>by rw[c i j e d];grind
def se{u u' v v':gS}(h:∀i,i<n->u i=u' i)(k:∀i,i<n->v i=v' i):je n H u v=je n H u' v' :=
 ay fun i a=>by rw[h i a,ay fun j b=>by rw[k j b]]
def Jr{w x:gS}(b:∀i,i<n->p∣(ap n fun j=>H i j*x j)-w i){a:gS}(c:p∣ap n (fun i=>w i*a i)):p∣je n H a x:=by
 have e:je n H a x=ap n (fun i=>w i*a i)+ap n (fun i=>((ap n fun j=>H i j*x j)-w i)*a i):=by
  rw[<-dD];exact ay fun i _=>by grind
 rw[e];exact gQ c (jd fun i d=>eF (b i d))
def Fl(e:∀a b,a<n->b<n->H a b=H b a){p:Int}{w x:gS}(f:∀i,i<n->p∣(ap n fun j=>H i j*x j)-w i)(g:p*p∣je n H x x){y z:gS}(h:BK n p w x y)(k:BK n p w x z):p*p∣je n H y z:=by
 obtain⟨c,a,l,m⟩:=h;obtain⟨d,b,o,q⟩:=k;rw[se l o,lE,jl e x,jl e a,lE,lE,jl e x a];obtain⟨r,u⟩:=g;obtain⟨s,v⟩:=Jr f m;obtain⟨t,A⟩:=Jr f q;rw[u,v,A];exact⟨c*d*r+c*t+d*s+je n H b a,by grind⟩
def ug(n:Nat)(H B:az)(i j:Nat):mm n (mm n (fun i j=>B j i) H) B i j=je n H (fun r=>B r i) (fun r=>B r j):=by
 rw[nS];unfold mm je;exact ay fun k _=>by rw[bU]
def Mu{G:az}(g:0<p)(f:∀r c,r<c->c<n->B r c=0)(b:∀r,r<n->0<B r r)(h:det n B=p^n)(k:∀i j,i<n->j<n->mm n (mm n (fun i j=>B j i) H) B i j=p*p*G i j):det n G=det n H:=by
 have a:=Ap (mm n (fun i j=>B j i) H) B f;rw[Hj H B f,aZ k,ro]at a;have d:=mX (n:=0) n B (by rw[aJ];exact fun r l=>⟨fun j a d=>f r j a d,b r l⟩)
 rw[aJ]at d;simp only[det,ir]at d;rw[<-d,h]at a;have m:(p*p)^n=p^n*p^n:=Int.mul_pow ..;rw[m]at a;have e:(0:Int)<p^n:=Ik g;have o:p^n*p^n≠0:=by have:=jM e e;omega
 exact cH o (by rw[a,et])
def Az{piv:Nat}(a:piv<n)(v:gS):je n H (dW piv) v=ap n fun j=>H piv j*v j:=by
 unfold je;rw[cI piv a (fun i _ b=>by simp[dW,b])];simp[dW]
def Ci{piv:Nat}(f:∀a b,a<n->b<n->H a b=H b a)(e:piv<n){p:Int}(I:0<p){v:gS}{sl iv N t:Int}(l:(ap n fun j=>H piv j*v j)%p=sl)(o:(2*sl%p*iv)%p=1)(u:je n H v v%(p*p)=N)(A:je n H v v%p=0)(B:(p-N/p)*iv%p=t) :
  p*p∣je n H (fun k=>if k=piv then v k+p*t else v k) (fun k=>if k=piv then v k+p*t else v k):=by
 have ex:∀k,(if k=piv then v k+p*t else v k)=1*v k+(p*t)*dW piv k:=fun k=>by
  unfold dW;split<;>simp
 rw[se (fun k _=>ex k) (fun k _=>ex k),lE,jl f v,jl f (dW piv) (fun i=>1*v i+p*t*dW piv i),lE,lE,jl f v (dW piv),Az e v];generalize je n H (dW piv) (dW piv)=h;generalize je n H v v=b at *;generalize (ap n fun j=>H piv j*v j)=z at *;have q:=dx b (p*p);have w:=dx z p;have C:=dx (2*sl) p;have x:=dx (2*sl%p*iv) p;have D:=dx ((p-N/p)*iv) p;have E:p*(N/p)=N:=iM (by
  have:p∣b:=dF A;obtain⟨c,J⟩:=this;exact⟨c-p*(b/(p*p)),by rw[u]at q;grind⟩)
 rw[u]at q;rw[l]at w;rw[o]at x;rw[B]at D;generalize b/(p*p)=r at *;generalize z/p=s at *;generalize 2*sl/p=a at *;generalize 2*sl%p=y at *;generalize y*iv/p=d at *;generalize N/p=k at *;generalize (p-k)*iv/p=c at *;refine⟨r+(1+(p-k)*d+a*((p-k)*iv)-2*sl*c)+2*t*s+t*t*h,?_⟩;have f1:2*sl*t=- k+p*(1+(p-k)*d+a*((p-k)*iv)-2*sl*c):=by
  have F:t=(p-k)*iv-p*c:=om
  have G:2*sl*((p-k)*iv)=(p-k)*(y*iv)+p*(a*((p-k)*iv)):=by rw[<-C];grind
  rw[F,mQ,G,<-x];grind
 have g:p*k+p*(2*sl*t)=p*(p*(1+(p-k)*d+a*((p-k)*iv)-2*sl*c)):=by rw[f1];grind
 rw[<-w,<-q,<-E];generalize 1+(p-k)*d+a*((p-k)*iv)-2*sl*c=m at *
 grind

structure l6(a0 b0 c0 f0 f1 s0 s1 a b c:Int):Prop where
 qa:f0*f0*a0+2*(f0*f1*b0)+f1*f1*c0=a
 qb:f0*s0*a0+(f0*s1+f1*s0)*b0+f1*s1*c0=b
 qc:s0*s0*a0+2*(s0*s1*b0)+s1*s1*c0=c
def l6.init(a b c:Int):l6 a b c 1 0 0 1 a b c:=⟨by grind,by grind,by grind⟩
def l6.swap{b0 c0 s0 s1 c:Int}(h:l6 a0 b0 c0 f0 f1 s0 s1 a b c):l6 a0 b0 c0 s0 s1 f0 f1 c b a:=by
 obtain⟨d,f,e⟩:=h;exact⟨e,by grind,d⟩
def l6.sub{b0 c0 s0 s1 c:Int}(h:l6 a0 b0 c0 f0 f1 s0 s1 a b c)(q:Int):l6 a0 b0 c0 f0 f1 (s0-q*f0) (s1-q*f1) a (b-q*a) (c-q*(b+(b-q*a))):=by
 obtain⟨d,e,f⟩:=h;exact⟨d,by grind,by grind⟩
def l6.le{b0 c0 d E:Int}(h:f0*f0*a0+2*(f0*f1*b0)+f1*f1*c0=a)(i:a0*c0-b0*b0=d)(f:1<=d)(j:0<a0)(k:0<c0)(c:a0<=E)(e:c0<=E)(b:a<=E)(g:0<a):f0*f0<=E*E/\f1*f1<=E*E:=by
 have l:a0*a=(f0*a0+f1*b0)*(f0*a0+f1*b0)+f1*f1*d:=by grind
 have m:c0*a=(f1*c0+f0*b0)*(f1*c0+f0*b0)+f0*f0*d:=by grind
 have s1:=iK (f0*a0+f1*b0);have n:=iK (f1*c0+f0*b0);have o:=aW f (iK f1);have p:=aW f (iK f0);have q:=cw c b (bn g) om;have r:=cw e b (bn g) om;omega
def yf(A:az)(n k:Nat)(x:gS):Int:=ap (n-k) fun i=>(ap (n-k) fun j=>ci A k i j*x (k+j))*x (k+i)
def Pd.qSt_step(h:Pd A n)(u:n=k+(m+1))(x:gS):det k A*yf A n (k+1) x<=det (k+1) A*yf A n k x:=by
 have e:∀i j,i<m->j<m->det (k+1) A*ci A k (i+1) (j+1)=det k A*ci A (k+1) i j+ci A k (i+1) 0*ci A k (j+1) 0:=fun i j c a=>h.stg_rec2 om om;have f:∀j,j<m->ci A k 0 (j+1)=ci A k (j+1) 0:=fun j a=>h.stg_sym k 0 (j+1) om om;have g:n-k=m+1:=om
 have l:n-(k+1)=m:=om
 obtain⟨L,b⟩:∃L,L=ap m (fun j=>ci A k (j+1) 0*x (k+(j+1))):=⟨_,rfl⟩;obtain⟨Q,d⟩:∃Q,Q=ap m (fun i=>(ap m fun j=>ci A k (i+1) (j+1)*x (k+(j+1)))*x (k+(i+1))):=⟨_,rfl⟩;have o:yf A n k x=det (k+1) A*x k*x k+L*x k+(x k*L+Q):=by
  unfold yf;rw[g,iD];have p:(ap (m+1) fun j=>ci A k 0 j*x (k+j))=det (k+1) A*x k+L:=by
   rw[iD,cG,b];congr 1;exact ay fun j a=>by rw[f j a]
  have q:ap m (fun i=>(ap (m+1) fun j=>ci A k (i+1) j*x (k+j))*x (k+(i+1)))=x k*L+Q:=by
   rw[b,d,<-cF,<-dD];refine ay fun i _=>?_;rw[iD,cu]
   grind
  rw[p,q,sA];rfl
 have r:det (k+1) A*Q=det k A*yf A n (k+1) x+L*L:=by
  unfold yf;rw[l,d,<-cF,<-cF];have s:L*L=ap m (fun i=>L*(ci A k (i+1) 0*x (k+(i+1)))):=by rw[cF,<-b]
  rw[s,<-dD];refine ay fun i c=>?_;have v:det (k+1) A*(ap m fun j=>ci A k (i+1) (j+1)*x (k+(j+1)))=det k A*(ap m fun j=>ci A (k+1) i j*x (k+1+j))+ci A k (i+1) 0*L:=by
   rw[b,<-cF,<-cF,<-cF,<-dD];refine ay fun j a=>?_;have:=e i j c a;rw[(om:k+1+j=k+(j+1))]
   grind
  rw[(om:k+1+i=k+(i+1))]
  grind
 have t:=iK (det (k+1) A*x k+L);have w:det (k+1) A*yf A n k x=(det (k+1) A*x k+L)*(det (k+1) A*x k+L)+det k A*yf A n (k+1) x:=by
  rw[o];grind
 omega
def Pd.qSt_le(h:Pd A n)(x:gS):∀k,k<n->yf A n k x<=det k A*yf A n 0 x
 | 0,_=>by simp[det]
 | k+1,d=>by
  have ih:=h.qSt_le x k om;have f:=h.qSt_step (k:=k) (m:=n-k-1) om x;have c:=h.pos k om;have b:=h.pos (k+1) om;have g:=aW ih (bn b);refine iy (a:=det k A) ?_ c;have e:det k A*(det (k+1) A*yf A n 0 x)=det (k+1) A*(det k A*yf A n 0 x):=by grind
  omega
def zG(A:az)(n:Nat)(x:gS):yf A n 0 x=je n A x x:=by
 unfold yf je;simp only[eQ,aJ,dC]
def Pd.last_sq(h:Pd A (n+1))(x:gS):x n*x n<=det n A*je (n+1) A x x:=by
 have a:=h.qSt_le x n om;rw[zG]at a;have e:yf A (n+1) n x=det (n+1) A*x n*x n:=by
  unfold yf;rw[(om:n+1-n=1)]
  simp[ap,cG]
 rw[e]at a;have b:=h.pos (n+1) om;have:=bK (om:1<=det (n+1) A) (iK (x n))
 have c:det (n+1) A*x n*x n=det (n+1) A*(x n*x n):=by grind
 omega
def Pd.det_le(h:Pd A n){E:Int}(a:∀i,i<n->A i i<=E):∀k,k<=n->det k A<=E^k
 | 0,_=>by simp[det]
 | k+1,c=>by
  have d:=h.hadamard (k:=k) om;have b:=a k om;have e:=cw (h.det_le a k om) b (bn (h.diag om)) (by have:=h.pos k om;have:=h.det_le a k om;omega)
  rw[eC];omega
def B3(b:i+1<n)(f:Nat->Int):ap n (fun a=>f (c8 i (i+1) a))=ap n f:=by
 have h:=BZ (n:=n) (f:=fun a=>f (c8 i (i+1) a)-f a) i b (fun a _ c d=>by
  have:c8 i (i+1) a=a:=by unfold c8;rw[ah c,ah d]
  rw[this];omega)
 rw[ll]at h;have e:c8 i (i+1) i=i+1:=by unfold c8;rw[aj rfl]
 have g:c8 i (i+1) (i+1)=i:=by unfold c8;rw[ah om,aj rfl]
 rw[e,g]at h;omega
theorem Pd.coord{n:Nat}{E:Int}:∀(m:Nat) {A:az} (x:gS) (j:Nat),Pd A (n+1)->(∀i,i<n+1->A i i<=E)->j+m=n->x j*x j<=E^n*je (n+1) A x x
 | 0,A,x,j,h,d,k=>by
  obtain rfl:j=n:=om
  have c:=h.last_sq x;have l:=h.det_le d j om;have o:0<=je (j+1) A x x:=by
   have p:=h.pos j om;have:=iK (x j);rcases iI (je (j+1) A x x) 0 with e|e
   .have:=Int.mul_neg_of_pos_of_neg p e;omega
   .exact e
  have:=bK l o;omega
 | m+1,A,x,j,h,d,k=>by
  have q:=h.swap (i:=j+1) om om;have f:∀a,a<n+1->c8 j (j+1) a<n+1:=fun a u=>by unfold c8;split<;>(try split)<;>omega
  have c:=Pd.coord m (A:=xn A (j+1)) (fun a=>x (c8 j (j+1) a)) (j+1) q (fun i r=>d _ (f i r)) om;have s:c8 j (j+1) (j+1)=j:=by unfold c8;rw[ah om,aj rfl]
  have t:je (n+1) (xn A (j+1)) (fun a=>x (c8 j (j+1) a)) (fun a=>x (c8 j (j+1) a))=je (n+1) A x x:=by
   unfold je;have g:∀a,ap (n+1) (fun b=>xn A (j+1) a b*x (c8 j (j+1) b))=ap (n+1) (fun b=>A (c8 j (j+1) a) b*x b):=fun a=>B3 om (fun b=>A (c8 j (j+1) a) b*x b);rw[ay fun a _=>by rw[g a]]
   exact B3 om (fun a=>ap (n+1) (fun b=>A a b*x b)*x a)
  rw[t]at c;simp only[s]at c;exact c
def Pd.lam_le(h:Pd A n){D W:Int}(a:∀k,k<=n->det k A<=D){i c:Nat}(o:c<i)(d:i<n)(e:A i i<=W):eZ A i c*eZ A i c<=D*(D*W):=by
 have f:=h.lam_sq (k:=c) (i:=i-c-1) om;rw[(om:i-c-1+1=i-c)]at f
 have b:=h.stg_up c (i-c) om;rw[(om:c+(i-c)=i)]at b
 have g:=h.pos (c+1) om;have p:=h.pos c om;have j:=h.diag d;have l:ci A c (i-c) (i-c)<=D*W:=cX b (cw (a c om) e (bn j) (by have:=a c om;omega))
 have m:=h.stg_pos (i-c) c om;have q:=cw (a (c+1) om) l (bn m) (by have:=a c om;omega)
 unfold eZ;omega

def gT(Q:az)(n:Nat)(T:az):az:=fun a b=>je n Q (T a) (T b)
def nL(T:az)(k j:Nat)(q:Int):az:=fun a b=>if a=k then T k b-q*T j b else T a b
def pB(e:∀a b,a<n->b<n->H a b=H b a)(c d:Int)(u v v':gS):je n H u (fun i=>c*v i+d*v' i)=c*je n H u v+d*je n H u v':=by
 rw[jl e,lE,jl e v,jl e v']
def wy(f:∀a b,a<n->b<n->Q a b=Q b a):gT Q n (nL T k j q)=j8 (gT Q n T) k j (-q):=by
 have g:nL T k j q k=fun i=>1*T k i+(-q)*T j i:=by
  funext b;simp only[nL,aE];grind
 have e:∀a,a≠k->nL T k j q a=T a:=fun a c=>by funext b;simp[nL,c]
 funext a b;simp only[gT,j8];by_cases c:a=k
 .subst c;by_cases d:b=a
  .subst d;rw[g,lE,pB f,pB f];simp only[aE,Sz];grind
  .rw[g,e b d,lE];simp only[d,aE,aH,Tc];grind
 .by_cases d:b=k
  .subst d;rw[g,e a c,pB f];simp only[c,aE,aH,false_and];grind
  .rw[e a c,e b d];simp[c,d]
def DB{s0 s1:Int}(e:∀a b,a<n->b<n->Q a b=Q b a)(p:0<k):gT Q n (im T k f0 f1 s0 s1)=jc (gT Q n T) k f0 f1 s0 s1:=by
 have d:k≠k-1:=om
 have l:im T k f0 f1 s0 s1 (k-1)=fun i=>f0*T (k-1) i+f1*T k i:=by funext b;simp[im]
 have m:im T k f0 f1 s0 s1 k=fun i=>s0*T (k-1) i+s1*T k i:=by funext b;simp[im,d]
 have h:∀a,a≠k-1->a≠k->im T k f0 f1 s0 s1 a=T a:=fun a f g=>by funext b;simp[im,f,g]
 have o:∀a:Nat,a=k-1∨a=k∨(a≠k-1/\a≠k):=fun a=>om
 funext a b;simp only[gT,jc];rcases o a with rfl|rfl|⟨f,g⟩<;>rcases o b with c|c|⟨c,j⟩
 .rw[c,l,lE,pB e,pB e];simp only[im,gT,aE];grind
 .rw[c,l,m,lE,pB e,pB e];simp only[im,gT,aE,d,aH];grind
 .rw[l,h b c j,lE];simp only[im,gT,aE,c,j,aH]
 .rw[c,l,m,lE,pB e,pB e];simp only[im,gT,aE,d,aH];grind
 .rw[c,m,lE,pB e,pB e];simp only[im,gT,aE,d,aH];grind
 .rw[m,h b c j,lE];simp only[im,gT,aE,c,j,d,aH]
 .rw[c,l,h a f g,pB e];simp only[im,gT,aE,f,g,aH]
 .rw[c,m,h a f g,pB e];simp only[im,gT,aE,f,g,d,aH]
 .rw[h a f g,h b c j];simp only[im,gT,f,g,c,j,aH]
def o8(T:az):az:=fun i j=>T j i
def MH(d:k<n)(e:j<n)(c:k≠j):det n (o8 (nL T k j q))=det n (o8 T):=by
 have h:=kB (n:=n) (i:=k) (k:=j) (o8 T) d e c 1 (-q);rw[cL]at h;rw[<-h];congr 1;funext a b;simp only[nL,o8,aT];split<;>grind
def sK(A:az)(c:i<n)(d:k<n)(b:i≠k):det n (aT A i (fun a=>A a k))=0:=by
 rcases aB i k with h|h
 .exact ks _ h d fun j _=>by simp[aT,ai b]
 .exact ks _ (om:k<i) c fun j _=>by simp[aT,ai b]
def MK{s0 s1:Int}(m:0<k)(d:k<n):det n (o8 (im T k f0 f1 s0 s1))=(f0*s1-f1*s0)*det n (o8 T):=by
 have c:k-1≠k:=om
 have e:o8 (im T k f0 f1 s0 s1)=aT (aT (o8 T) k (fun b=>s0*o8 T b (k-1)+s1*o8 T b k)) (k-1) (fun b=>f0*o8 T b (k-1)+f1*o8 T b k):=by
  funext a b;simp only[im,o8,aT]
 generalize o8 T=A at *;have f:∀X:Nat->Int,det n (aT (aT A k (fun b=>s0*A b (k-1)+s1*A b k)) (k-1) X)=s0*det n (aT (aT A (k-1) X) k (fun b=>A b (k-1)))+s1*det n (aT (aT A (k-1) X) k (fun b=>A b k)):=fun X=>by
  rw[ik A (i:=k) (k:=k-1) om,me _ d]
 have g:det n (aT (aT A (k-1) (fun b=>A b (k-1))) k (fun b=>A b (k-1)))=0:=by
  rw[gJ];exact sK A d om om
 have z2:det n (aT (aT A (k-1) (fun b=>A b (k-1))) k (fun b=>A b k))=det n A:=by rw[gJ,gJ]
 have z3:det n (aT (aT A (k-1) (fun b=>A b k)) k (fun b=>A b (k-1)))=- det n A:=uH A om d c;have h:det n (aT (aT A (k-1) (fun b=>A b k)) k (fun b=>A b k))=0:=by
  have j:=sK A (i:=k-1) (k:=k) om d c;have l:aT (aT A (k-1) (fun b=>A b k)) k (fun b=>A b k)=aT A (k-1) (fun b=>A b k):=by
   rw[ik A c,gJ]
  rw[l];exact j
 rw[e,me _ om,f,f,g,z2,z3,h]
 grind
def zj{m:Int}(c:0<a)(d:m*m<=a*b)(x y:Int):x*x*a+2*(x*y*m)+y*y*b<=2*(x*x*a+y*y*b):=by
 have:=ML c d (u:=y) (v:=x)
 grind
def fY(l d:Int):Int:=(l+l+d)/(d+d)
def zS{d:Int}(a:0<d):2*((l-fY l d*d).natAbs:Int)<=d:=by
 have h:=I4 (l:=l) a;rw[show l+-((2*l+d)/(2*d))*d=l-fY l d*d by
  unfold fY;rw[(om:l+l+d=2*l+d),(om:d+d=2*d)]
  grind]at h
 exact h
def E7{d:Int}(e:0<d):fY l d*fY l d<=4*(l*l)+4:=by
 have h:=zS (l:=l) e;generalize fY l d=q at *;have f:2*((q*d).natAbs:Int)<=2*(l.natAbs:Int)+d:=om
 rw[cN]at f;have i:((q.natAbs*d.natAbs:Nat):Int)=(q.natAbs:Int)*d:=by rw[aX];congr 1;omega
 rw[i]at f;have g:(q.natAbs:Int)<=(l.natAbs:Int)+1:=by
  rcases iI ((l.natAbs:Int)+1) q.natAbs with b|b
  .exfalso;have a:=bK (show(l.natAbs:Int)+2<=q.natAbs by omega) (bn e)
   rw[sA]at a;have j:=aW (show(1:Int)<=d by omega) (show(0:Int)<=(l.natAbs:Int) by omega)
   omega
  .exact b
 have b:(q.natAbs:Int)*q.natAbs=q*q:=by rw[<-aX,kd]
 have a:(l.natAbs:Int)*l.natAbs=l*l:=by rw[<-aX,kd]
 have j:=cw g g om om;have k:((l.natAbs:Int)+1)*((l.natAbs:Int)+1)=l*l+2*(l.natAbs:Int)+1:=by rw[<-a];grind
 have m:(l.natAbs:Int)<=l*l:=by
  rw[<-a];rcases bD l.natAbs with c|c
  .rw[c];simp
  .have:=aW (show(1:Int)<=l.natAbs by omega) (show(0:Int)<=l.natAbs by omega)
   omega
 have c:=iK l;omega
def qi(a:Nat):(0:Int)<2^a:=Ik om
def nQ(a b:Nat):(2:Int)^(a+b)=2^a*2^b:=Int.pow_add ..
def sW{a b:Nat}(c:0<=y)(d:x<=2^a)(e:y<=2^b):x*y<=2^(a+b):=by
 rw[nQ];exact cw d e c (bn (qi a))
def GP(a:Nat):(1:Int)<=2^a:=qi a
def rh{a:Nat}(h:x*x<=2^(2*a)):(x.natAbs:Int)<=2^a:=by
 refine rU (bn (qi a)) ?_;rw[<-nQ,(om:a+a=2*a)];exact h
def oi{a b:Nat}(h:(x.natAbs:Int)<=2^a)(d:a<b):x.natAbs<2^b:=by
 have c:=dY (om:a+1<=b)
 have e:=qi a;have f:((2^b:Nat):Int)=(2:Int)^b:=by simp
 rw[eC]at c;omega
structure LS(Q:az)(n d:Nat)(w:Nat->Nat)(T:az):Prop where
 pd:Pd (gT Q n T) n
 lead:∀k,k<=n->det k (gT Q n T)<=2^d
 uni:det n (o8 T)*det n (o8 T)=1
 dg:∀i,i<n->gT Q n T i i<=2^(w i)
def LS.weak(h:LS Q n d w T)(a:∀i,i<n->gT Q n T i i<=2^(w' i)):LS Q n d w' T:=⟨h.pd,h.lead,h.uni,a⟩
def LS.lamB(h:LS Q n d w T){i c:Nat}(b:c<i)(a:i<n):eZ (gT Q n T) i c*eZ (gT Q n T) i c<=2^(d+(d+w i)):=by
 have e:=h.pd.lam_le h.lead b a (h.dg i a);rw[nQ,nQ];exact e
def LS.coord{e:Nat}(h:LS Q (n+1) d w T)(c:Pd Q (n+1))(f:∀i,i<n+1->Q i i<=2^e)(g:e*n<=d){i j:Nat}(a:i<n+1)(p:j<n+1):T i j*T i j<=2^(d+w i):=by
 have k:=c.coord (n-j) (T i) j f om;have l:=h.dg i a;have m:((2:Int)^e)^n<=2^d:=by rw[<-SI];exact dY g
 have o:=h.pd.diag a;have b:=cw m l (bn o) (bn (qi d));rw[<-nQ]at b;exact cX k b
def LS.sub(h:LS Q n d w T)(t:∀a b,a<n->b<n->Q a b=Q b a){k j:Nat}(m:j<k)(o:k<n)(p:w j<=d+3) :
  LS Q n d (fun i=>if i=k then w k+(3*d+8)else w i) (nL T k j (fY (eZ (gT Q n T) k j) (det (j+1) (gT Q n T)))):=by
 have u:=h.pd.pos (j+1) om;have D:=E7 (l:=eZ (gT Q n T) k j) u;have E:=h.lamB m o;generalize fY (eZ (gT Q n T) k j) (det (j+1) (gT Q n T))=q at *;have e:=wy (T:=T) (k:=k) (j:=j) (q:=q) t;have v:Pd (gT Q n (nL T k j q)) n:=by rw[e];exact h.pd.add m o
 refine⟨v,fun c x=>by rw[e,fo m];exact h.lead c x,by rw[MH o om om];exact h.uni,fun i g=>?_⟩
 rw[e];by_cases f:i=k
 .subst f
  try dsimp only
  rw[aj rfl];have y:j8 (gT Q n T) i j (-q) i i=1*1*gT Q n T i i+2*(1*(-q)*gT Q n T i j)+(-q)*(-q)*gT Q n T j j:=by
   simp only[j8,aE,Sz];have:=h.pd.sym i j g om
   grind
  rw[y];have z:=zj (h.pd.diag g) (h.pd.cs0 g (om:j<n)) 1 (-q)
  have F:=h.dg i g;have A:=h.dg j om;have r:=h.pd.diag (om:j<n)
  have B:=dY p;have s:(-q)*(-q)=q*q:=by grind
  rw[s]at z ⊢;have C:q*q<=2^(d+(d+w i)+3):=by
   have:=GP (d+(d+w i));rw[nQ];omega
  have G:=sW (bn r) C (cX A B);have H:=dY (om:w i<=d+(d+w i)+3+(d+3))
  have I:=dY (om:d+(d+w i)+3+(d+3)+2<=w i+(3*d+8))
  have J:=nQ (d+(d+w i)+3+(d+3)) 2;omega
 .try dsimp only
  rw[ah f,lG _ f f];exact h.dg i g
def LS.row(h:LS Q n d w T)(e:n<=8){k:Nat}(a:k<n)(b:∀j,j<k->gI (gT Q n T) k j):gT Q n T k k<=2^(d+3):=by
 have f:=h.pd.sized_norm (D:=2^d) a (fun c g=>h.lead (c+1) om) b;have i:=bK (show((k+1:Nat):Int)<=8 by omega) (bn (qi d))
 rw[nQ];omega
structure PL where
 a:Int
 b:Int
 c:Int
 f0:Int
 f1:Int
 s0:Int
 s1:Int
def PL.nx(p:PL):PL:=⟨p.c,p.b-fY p.b p.c*p.c,p.a-fY p.b p.c*(p.b+(p.b-fY p.b p.c*p.c)),p.s0,p.s1,p.f0-fY p.b p.c*p.s0,p.f1-fY p.b p.c*p.s1⟩
def sk:Nat->PL->PL
 | 0,p=>p
 | m+1,p=>if 4*p.c<3*p.a then sk m p.nx else p
def mE(A:az)(k:Nat):PL:=⟨det k A,eZ A k (k-1),ci A (k-1) 1 1,1,0,0,1⟩
structure AR(A:az)(n k e:Nat)(p:PL):Prop where
 pl:pI A n k p.f0 p.f1 p.s0 p.s1 p.a p.b p.c
 q:l6 (det k A) (eZ A k (k-1)) (ci A (k-1) 1 1) p.f0 p.f1 p.s0 p.s1 p.a p.b p.c
 a:p.a<=2^e
 c:p.c<=2^e
def AR.pos{e:Nat}{p:PL}(h:AR A n k e p)(f:0<k)(g:k<n):0<p.a/\0<p.c:=by
 have b:=h.pl.pd.pos k om;have d:=h.pl.pd.stg_pos 1 (k-1) om;rw[h.pl.pa]at b;rw[h.pl.pc]at d;exact⟨b,d⟩
def AR.nx{e:Nat}{p:PL}(z:Pd A n)(h:AR A n k e p)(g:0<k)(i:k<n)(B:det (k-1) A*det (k+1) A+1<=2^e)(C:4*p.c<3*p.a):AR A n k e p.nx/\p.nx.a<p.a:=by
 obtain⟨t,d⟩:=h.pos g i;have f:=(h.pl.swap g i).sub (fY p.b p.c) g i;have u:=h.q.swap.sub (fY p.b p.c);have j:=zS (l:=p.b) d;have m:=f.ac;refine⟨⟨f,u,h.c,?_⟩,by show p.c<p.a;omega⟩
 show p.a-fY p.b p.c*(p.b+(p.b-fY p.b p.c*p.c))<=2^e;have v:=QN j;have w:=h.c;have D:=h.a;generalize p.a-fY p.b p.c*(p.b+(p.b-fY p.b p.c*p.c))=c' at *;generalize p.b-fY p.b p.c*p.c=b' at *;rcases iI (2^e) c' with o|o
 .exfalso;have r:=aW (show(2:Int)^e+1<=c' by omega) (bn d)
  rw[yR,ir]at r;have E:=aW w (bn d);have F:=bK (show(1:Int)<=p.c by omega) (bn (qi e))
  rcases iI p.c 2 with s|s
  .have x:p.c=1:=om
   rw[x]at m v r;omega
  .have y:=bK s (bn (qi e));omega
 .exact o
theorem De{A:az}{n k e:Nat}(f:Pd A n)(b:0<k)(d:k<n)(g:det (k-1) A*det (k+1) A+1<=2^e):∀(m:Nat) (p:PL),AR A n k e p->p.a<=m->AR A n k e (sk m p)/\¬4*(sk m p).c<3*(sk m p).a/\(sk m p).a<=p.a
 | 0,p,h,i=>by have:=h.pos b d;omega
 | m+1,p,h,i=>by
  unfold sk;split
  .rename_i j;obtain⟨l,r⟩:=h.nx f b d g j;obtain⟨o,q,s⟩:=De f b d g m p.nx l om;exact⟨o,q,om⟩
  .exact⟨h,‹_›,om⟩
def AR.sq{e:Nat}{p:PL}(d:Pd A n)(h:AR A n k e p)(o:0<k)(r:k<n)(s:det k A<=2^e)(t:ci A (k-1) 1 1<=2^e):p.b*p.b<=2^(2*e)/\p.f0*p.f0<=2^(2*e)/\p.f1*p.f1<=2^(2*e)/\p.s0*p.s0<=2^(2*e)/\p.s1*p.s1<=2^(2*e):=by
 obtain⟨j,f⟩:=h.pos o r;have l:=d.pos (k-1) om;have m:=d.pos (k+1) om;have g:=d.pos k om;have u:=d.stg_pos 1 (k-1) om;have v:=(pI.init d o r).ac;have y:=h.pl.ac;have i:1<=det (k-1) A*det (k+1) A:=by have:=jM l m;omega
 have w:=l6.le h.q.qa v i g u s t h.a j;have x:=l6.le h.q.qc v i g u s t h.c f;have z:(2:Int)^(2*e)=2^e*2^e:=by rw[(om:2*e=e+e),nQ]
 have B:=cw h.a h.c (bn f) (bn (qi e));rw[z];exact⟨om,w.1,w.2,x.1,x.2⟩
def AR.init{e:Nat}(a:Pd A n)(b:0<k)(c:k<n)(d:det k A<=2^e)(f:ci A (k-1) 1 1<=2^e):AR A n k e (mE A k):=⟨pI.init a b c,l6.init _ _ _,d,f⟩
def LS.plane(h:LS Q n d w T){k:Nat}(q:0<k)(b:k<n)(e:w k<=d+3) :
  det k (gT Q n T)<=2^(2*d+4)/\ci (gT Q n T) (k-1) 1 1<=2^(2*d+4)/\det (k-1) (gT Q n T)*det (k+1) (gT Q n T)+1<=2^(2*d+4):=by
 have r:=h.lead k om;have c:=h.lead (k-1) om;have f:=h.lead (k+1) om;have g:=h.dg k b;have i:=dY e;have j:=h.pd.stg_up (k-1) 1 om;rw[(om:k-1+1=k)]at j
 have l:=h.pd.diag b;have m:=h.pd.pos (k+1) om;have s:=sW (bn l) c (cX g i);have t:=sW (bn m) c f;have u:=dY (om:d<=2*d+4)
 have o:=dY (om:d+(d+3)<=2*d+4)
 have a:=dY (om:d+d+1<=2*d+4)
 rw[eC]at a;have p:=GP (d+d);exact⟨om,om,om⟩
def LS.blk(h:LS Q n d w T)(D:∀a b,a<n->b<n->Q a b=Q b a){k:Nat}(o:0<k)(f:k<n)(B:w k<=d+3)(q:w (k-1)<=d+3){p:PL}(j:AR (gT Q n T) n k (2*d+4) p)(E:p.a<=det k (gT Q n T)) :
  LS Q n d (fun i=>if i=k∨i=k-1 then 5*d+13 else w i) (im T k p.f0 p.f1 p.s0 p.s1):=by
 have e:=DB (T:=T) (k:=k) (f0:=p.f0) (f1:=p.f1) (s0:=p.s0) (s1:=p.s1) D o;obtain⟨r,s,F⟩:=h.plane o f B;obtain⟨_,G,H,I,J⟩:=j.sq h.pd o f r s;have v:k≠k-1:=om
 have z:Pd (gT Q n (im T k p.f0 p.f1 p.s0 p.s1)) n:=by rw[e];exact j.pl.pd
 have hnorm:∀x y:Int,x*x<=2^(2*(2*d+4))->y*y<=2^(2*(2*d+4))->x*x*gT Q n T (k-1) (k-1)+2*(x*y*gT Q n T (k-1) k)+y*y*gT Q n T k k<=2^(5*d+13):=fun x y K L=>by
  have l:=zj (h.pd.diag (om:k-1<n)) (h.pd.cs0 (om:k-1<n) f) x y
  have M:=h.pd.diag (om:k-1<n)
  have N:=h.pd.diag f;have g:=sW (bn M) K (cX (h.dg (k-1) om) (dY q));have P:=sW (bn N) L (cX (h.dg k f) (dY B));have R:=dY (om:2*(2*d+4)+(d+3)+2<=5*d+13)
  have S:=nQ (2*(2*d+4)+(d+3)) 2;omega
 refine⟨z,fun c C=>?_,?_,fun i O=>?_⟩
 .rw[e];by_cases m:c=k
  .subst m;rw[j.pl.pa];exact cX E (h.lead c C)
  .rw[j.pl.lead c m];exact h.lead c C
 .rw[MK o f];have:=j.pl.pu;have g:=h.uni;generalize p.f0*p.s1-p.f1*p.s0=u at *;generalize det n (o8 T)=t at *;have:u*t*(u*t)=(u*u)*(t*t):=by grind
  rw[this,‹u*u=1›,g];rfl
 .rw[e]
  try dsimp only
  have U:=h.pd.sym (k-1) k om f;by_cases l:i=k
  .rw[aj (a9 l),l];have A:jc (gT Q n T) k p.f0 p.f1 p.s0 p.s1 k k=p.s0*p.s0*gT Q n T (k-1) (k-1)+2*(p.s0*p.s1*gT Q n T (k-1) k)+p.s1*p.s1*gT Q n T k k:=by
    simp only[jc,im,v,aH,aE];grind
   rw[A];exact hnorm _ _ I J
  .by_cases g:i=k-1
   .rw[aj (aR g),g];have A:jc (gT Q n T) k p.f0 p.f1 p.s0 p.s1 (k-1) (k-1)=p.f0*p.f0*gT Q n T (k-1) (k-1)+2*(p.f0*p.f1*gT Q n T (k-1) k)+p.f1*p.f1*gT Q n T k k:=by
     simp only[jc,im,aE];grind
    rw[A];exact hnorm _ _ G H
   .rw[ah om,kR _ g l g l];exact h.dg i O

def N3(Q:az)(n k j:Nat)(T:az):az:=if 2*((eZ (gT Q n T) k j).natAbs:Int)<=det (j+1) (gT Q n T)then T else nL T k j (fY (eZ (gT Q n T) k j) (det (j+1) (gT Q n T)))
def nK(Q:az)(n k:Nat):Nat->az->az
 | 0,T=>T
 | j+1,T=>nK Q n k j (N3 Q n k j T)
def wR(d k m i:Nat):Nat:=if i=k then 5*d+13+m*(3*d+8)else if i<k then d+3 else 5*d+13
def NQ{m':Nat}(h:m<=m'):wR d k m i<=wR d k m' i:=by
 unfold wR;by_cases e:i=k
 .rw[aj e,aj e];have:=aq (3*d+8) h;omega
 .rw[ah e,ah e];exact ag _
def NP:(if i=k then wR d k m k+(3*d+8)else wR d k m i)<=wR d k (m+1) i:=by
 unfold wR;by_cases e:i=k
 .rw[aj e,aj e,aj rfl];have a:(m+1)*(3*d+8)=m*(3*d+8)+(3*d+8):=cg m (3*d+8);omega
 .rw[ah e,ah e,ah e];exact ag _
structure Ea(Q:az)(n d k j:Nat)(T:az):Prop where
 ls:LS Q n d (wR d k (k-j)) T
 ok:jt (gT Q n T) k
 sz:∀c,j<=c->c<k->gI (gT Q n T) k c
def ES(d:∀a b,a<n->b<n->Q a b=Q b a)(e:j<k)(c:Nat):det c (gT Q n (N3 Q n k j T))=det c (gT Q n T):=by
 unfold N3;split
 .rfl
 .rw[wy d,fo e]
theorem zB{Q:az}{n k:Nat}(d:∀a b,a<n->b<n->Q a b=Q b a):∀(j:Nat) (T:az),j<=k->∀c,det c (gT Q n (nK Q n k j T))=det c (gT Q n T)
 | 0,T,_,c=>rfl
 | j+1,T,e,c=>by
  rw[nK,zB d j _ om,ES d e]
def Ea.step(h:Ea Q n d k (j+1) T)(v:∀a b,a<n->b<n->Q a b=Q b a)(g:j<k)(w:k<n):Ea Q n d k j (N3 Q n k j T):=by
 have x:k-j=k-(j+1)+1:=om
 unfold N3;split
 .rename_i y;refine⟨h.ls.weak fun i s=>?_,h.ok,fun c t f=>?_⟩
  .exact cX (h.ls.dg i s) (dY (NQ om))
  .rcases aB c (j+1)with o|o
   .obtain rfl:c=j:=om
    exact y
   .exact h.sz c o f
 .have m:=h.ls.sub v g w (by unfold wR;rw[ah om,aj g];exact ag _)
  have u:=zS (l:=eZ (gT Q n T) k j) (h.ls.pd.pos (j+1) om);generalize fY (eZ (gT Q n T) k j) (det (j+1) (gT Q n T))=q at *;have e:=wy (T:=T) (k:=k) (j:=j) (q:=q) v;refine⟨m.weak fun i s=>?_,?_,fun c t f=>?_⟩
  .rw[x];exact cX (m.dg i s) (dY NP)
  .rw[e];refine⟨fun r p c t=>?_,fun r z p=>?_⟩
   .have:=h.ok.1 r p c t;unfold gI at this ⊢;rw[my p om,fo g];exact this
   .have:=h.ok.2 r z p;unfold gA at this ⊢;rw[my p om,fo g,fo g,fo g];exact this
  .rw[e];unfold gI;rw[fo g];rcases aB c (j+1)with o|o
   .obtain rfl:c=j:=om
    rw[mz g];have A:eZ (gT Q n T) k c+-q*det (c+1) (gT Q n T)=eZ (gT Q n T) k c-q*det (c+1) (gT Q n T):=by grind
    rw[A];exact u
   .rw[rF o f];exact h.sz c o f
theorem EW{Q:az}{n d k:Nat}(c:∀a b,a<n->b<n->Q a b=Q b a)(e:k<n):∀(j:Nat) (T:az),j<=k->Ea Q n d k j T->Ea Q n d k 0 (nK Q n k j T)
 | 0,T,_,h=>h
 | j+1,T,f,h=>EW c e j _ om (h.step c f e)
def LS.rowI(h:LS Q n d (fun _=>5*d+13) T)(e:n<=8)(g:k<n)(b:jt (gT Q n T) k):Ea Q n d k k T:=by
 refine⟨h.weak fun i a=>?_,b,fun c l m=>om⟩
 unfold wR;split
 .exact cX (h.dg i a) (dY om)
 .split
  .exact h.row e a fun j f=>b.1 i ‹_› j f
  .exact h.dg i a
def Ea.fin(h:Ea Q n d k 0 T)(c:n<=8)(f:k<n):LS Q n d (fun i=>if i<=k then d+3 else 5*d+13) T:=by
 refine h.ls.weak fun i g=>?_;have a:=h.ls.dg i g;unfold wR at a
 try dsimp only
 by_cases e:i=k
 .subst e;rw[aj (ag _)];exact h.ls.row c f fun j l=>h.sz j om l
 .rw[ah e]at a;by_cases b:i<k
  .rw[aj b]at a;rw[aj om];exact a
  .rw[ah b]at a;rw[ah om];exact a
def Q0(Q:az)(n k:Nat)(T:az):Nat:=if 4*(mE (gT Q n T) k).c<3*(mE (gT Q n T) k).a then max 1 (k-1)else k+1
def Df(A:az)(k:Nat):PL:=sk (mE A k).a.toNat (mE A k)
def QZ(Q:az)(n k:Nat)(T:az):az:=if 4*(mE (gT Q n T) k).c<3*(mE (gT Q n T) k).a then im T k (Df (gT Q n T) k).f0 (Df (gT Q n T) k).f1 (Df (gT Q n T) k).s0 (Df (gT Q n T) k).s1 else T
def Fb(Q:az)(n:Nat):Nat->Nat->az->az
 | 0,_,T=>T
 | m+1,k,T=>if k<n then Fb Q n m (Q0 Q n k (nK Q n k k T)) (QZ Q n k (nK Q n k k T))else T
structure wJ(Q:az)(n d k:Nat)(T:az):Prop where
 k1:1<=k
 kn:k<=n
 ls:LS Q n d (fun _=>5*d+13) T
 ok:jt (gT Q n T) k
 dn:det n (gT Q n T)=det n Q
def Nz(Q:az)(n k:Nat)(T:az):Nat:=Gh (gT Q n T) n*(n+1)+(n-k)
def oB{s0 s1:Int}(h:c<k-1)(j:i≠k-1)(f:i≠k)(g:c<i):eZ (jc A k f0 f1 s0 s1) i c=eZ A i c:=by
 unfold eZ ci;refine aZ fun a b l m=>?_;have d:up c (fun _=>i-c) a≠k-1/\up c (fun _=>i-c) a≠k:=by rw[kf];split<;>omega
 have e:up c (fun _=>0) b≠k-1/\up c (fun _=>0) b≠k:=by rw[kf];split<;>omega
 exact kR A d.1 d.2 e.1 e.2
def LX(h:LS Q n d w T)(b:0<k)(e:k<n)(g:w k<=d+3):AR (gT Q n T) n k (2*d+4) (Df (gT Q n T) k)/\¬4*(Df (gT Q n T) k).c<3*(Df (gT Q n T) k).a/\(Df (gT Q n T) k).a<=det k (gT Q n T):=by
 obtain⟨i,j,l⟩:=h.plane b e g;have f:=AR.init h.pd b e i j;exact De h.pd b e l _ _ f (by have:=(f.pos b e).1;omega)
def GM{e:Nat}(g:Pd A n)(b:0<k)(d:k<n)(i:det (k-1) A*det (k+1) A+1<=2^e){m:Nat}{p:PL}(h:AR A n k e p)(f:p.a<=m)(j:4*p.c<3*p.a):4*(sk m p).a<=3*p.a:=by
 match m,f with
 | 0,f=>have:=(h.pos b d).1;omega
 | m+1,f =>
  unfold sk;rw[aj j];obtain⟨l,o⟩:=h.nx g b d i j;have:=(De g b d i m p.nx l om).2.2;have e:p.nx.a=p.c:=rfl;omega
def wJ.step(h:wJ Q n d k T)(C:∀a b,a<n->b<n->Q a b=Q b a)(u:n<=8)(j:k<n):wJ Q n d (Q0 Q n k (nK Q n k k T)) (QZ Q n k (nK Q n k k T))/\Nz Q n (Q0 Q n k (nK Q n k k T)) (QZ Q n k (nK Q n k k T))<Nz Q n k T:=by
 have t:=EW C j k T (ag _) (h.ls.rowI u j h.ok);have E:=zB C k T (ag k);have m:Gh (gT Q n (nK Q n k k T)) n=Gh (gT Q n T) n:=qf fun c _=>by rw[E]
 generalize nK Q n k k T=T1 at *;have l:=t.fin u j;have f:=h.k1;unfold Q0 QZ;have o:(if k<=k then d+3 else 5*d+13)<=d+3:=by rw[aj (ag _)];exact ag _
 have v:(if k-1<=k then d+3 else 5*d+13)<=d+3:=by rw[aj om];exact ag _
 have w:∀i,(if i<=k then d+3 else 5*d+13)<=5*d+13:=fun i=>by split<;>omega
 split
 .rename_i F;obtain⟨G,_,H⟩:=LX l f j o;obtain⟨K,L,N⟩:=l.plane f j o;have hfirst:4*(Df (gT Q n T1) k).a<=3*(mE (gT Q n T1) k).a:=GM l.pd f j N (AR.init l.pd f j K L) (by have:=((AR.init l.pd f j K L).pos f j).1;omega) F
  have S:(mE (gT Q n T1) k).a=det k (gT Q n T1):=rfl;have M:=l.blk C f j o v G H;generalize hpf:Df (gT Q n T1) k=p at *;have e:=DB (T:=T1) (k:=k) (f0:=p.f0) (f1:=p.f1) (s0:=p.s0) (s1:=p.s1) C f;have g:=G.pl;have q:1<=max 1 (k-1)/\max 1 (k-1)<=k/\(∀r,0<r->r<max 1 (k-1)->r<k-1):=⟨om,om,fun r _ _=>om⟩
  refine⟨⟨q.1,om,M.weak fun i I=>?_,⟨fun r z c s=>?_,fun r D z=>?_⟩,?_⟩,?_⟩
  .refine cX (M.dg i I) (dY ?_)
   try dsimp only
   split
   .exact ag _
   .exact w i
  .have J:=q.2.2 r om z;have A:=t.ok.1 r om c s;rw[e];unfold gI at A ⊢;rw[oB om om om s,g.lead _ om];exact A
  .have J:=q.2.2 r D z;have A:=t.ok.2 r D om;rw[e];unfold gA at A ⊢;rw[oB om om om om,g.lead _ om,g.lead _ om,g.lead _ om];exact A
  .rw[e,g.lead n om,E];exact h.dn
  .have U:4*Gh (gT Q n (im T1 k p.f0 p.f1 p.s0 p.s1)) n<=3*Gh (gT Q n T1) n:=by
    rw[e];refine xD j (fun c _ s=>by rw[g.lead c s]) ?_
    have V:=g.pa;have:=(G.pos f j).1;omega
   have W:=l.pd.pot_pos;unfold Nz;rw[<-m];generalize Gh (gT Q n (im T1 k p.f0 p.f1 p.s0 p.s1)) n=x at *;generalize Gh (gT Q n T1) n=y at *;have O:(x+1)*(n+1)<=y*(n+1):=aq _ om;rw[cg]at O;omega
 .rename_i F;have P:=(pI.init l.pd f j).ac;have B:=l.pd.pos k om;refine⟨⟨om,om,l.weak fun i I=>cX (l.dg i I) (dY (w i)),⟨fun r z c s=>?_,fun r D z=>?_⟩,by rw[E];exact h.dn⟩,?_⟩
  .by_cases e:r=k
   .subst e;exact t.sz c om s
   .exact t.ok.1 r om c s
  .by_cases e:r=k
   .subst e;unfold gA;have R:¬4*ci (gT Q n T1) (r-1) 1 1<3*det r (gT Q n T1):=F;have X:=aW (om:3*det r (gT Q n T1)<=4*ci (gT Q n T1) (r-1) 1 1) (bn B)
    have Y:det r (gT Q n T1)*(3*det r (gT Q n T1))=3*(det r (gT Q n T1)*det r (gT Q n T1)):=by grind
    have Z:det r (gT Q n T1)*(4*ci (gT Q n T1) (r-1) 1 1)=4*(det r (gT Q n T1)*ci (gT Q n T1) (r-1) 1 1):=by grind
    omega
   .exact t.ok.2 r D om
  .unfold Nz;rw[m];omega
def I8(a:k<n):0<Nz Q n k T:=by unfold Nz;omega
theorem I9{Q:az}{n d:Nat}(g:∀a b,a<n->b<n->Q a b=Q b a)(c:n<=8):∀(m k:Nat) (T:az),wJ Q n d k T->Nz Q n k T<=m->wJ Q n d n (Fb Q n m k T)
 | 0,k,T,h,i=>by
  have e:=h.kn;rcases aB k n with f|f
  .have:=I8 (Q:=Q) (T:=T) f;omega
  .obtain rfl:k=n:=om
   exact h
 | m+1,k,T,h,i=>by
  unfold Fb;split
  .rename_i j;obtain⟨e,f⟩:=h.step g c j;exact I9 g c m _ _ e om
  .have e:=h.kn;obtain rfl:k=n:=om
   exact h
def CX:Nat->Nat
 | 0=>1
 | k+1=>CX k*2^(k+1)
theorem FE{D:Nat->Nat}{n:Nat}(a:D 0=1)(b:∀k,k<=n->0<D k)(d:∀k,0<k->k<n->D k*D k<=2*(D (k-1)*D (k+1))):∀k,k<n->D k^(k+1)<=CX k*D (k+1)^k
 | 0,_=>by simp[a,CX]
 | k+1,f=>by
  have ih:=FE a b d k om;have e:=d (k+1) om f;rw[fA]at e;have g:=Bg e (k+1);rw[SG,SG,SG]at g;have j:2^(k+1)*(D k^(k+1)*D (k+1+1)^(k+1))<=2^(k+1)*(CX k*D (k+1)^k*D (k+1+1)^(k+1)):=aM _ (aq _ ih);have h:0<D (k+1)^k:=iL (b (k+1) om);refine Nj (c:=D (k+1)^k) ?_ h;have i:D (k+1)^k*D (k+1)^(k+1+1)=D (k+1)^(k+1)*D (k+1)^(k+1):=by
   rw[<-fz,<-fz];congr 1;omega
  have l:2^(k+1)*(CX k*D (k+1)^k*D (k+1+1)^(k+1))=D (k+1)^k*(CX (k+1)*D (k+1+1)^(k+1)):=by
   rw[CX];generalize D (k+1)^k=x;generalize D (k+1+1)^(k+1)=y;generalize (2:Nat)^(k+1)=z
   grind
  rw[i];omega
def EZ:List Nat:=[1,10000,10000,10000,25600,57243,64000,35777,10000]
def JS:∀k,k<8->CX k*EZ.getD (k+1) 0^k<(EZ.getD k 0+1)^(k+1):=by decide +kernel
def EY:∀k,k<9->EZ.getD k 0<=64000/\(0<k->10000<=EZ.getD k 0)/\1<=EZ.getD k 0:=by decide
theorem Jo{D:Nat->Nat}{n:Nat}(c:D 0=1)(d:∀k,k<=n->0<D k)(f:∀k,0<k->k<n->D k*D k<=2*(D (k-1)*D (k+1)))(a:n<=8)(h:D n<=10000):∀m k,k+m=n->D k<=EZ.getD k 0
 | 0,k,i=>by
  rw[(om:k=n)]
  obtain⟨_,g,j⟩:=EY n om;rcases bD n with e|e
  .subst e;omega
  .have:=g e;omega
 | m+1,k,i=>by
  have l:=Jo c d f a h m (k+1) om;have g:=FE c d f k om;have j:=JS k om;rcases aB (EZ.getD k 0) (D k)with b|b
  .exfalso;have o:=Bg l k;have p:=aM (CX k) o;have q:=Bg (show EZ.getD k 0+1<=D k from b) (k+1);omega
  .exact b
def JR(h:Pd A n)(a:jt A n){k:Nat}(c:0<k)(b:k<n):det k A*det k A<=2*(det (k-1) A*det (k+1) A):=by
 have d:=a.2 k c b;have e:=oL (a.1 k b (k-1) om);unfold gA at d;rw[(om:k-1+1=k)]at e
 omega
def Eb.of(h:Pd A n)(b:jt A n)(d:n<=8)(f:det n A<=10000):Eb A n:=by
 refine⟨h,b,fun k a=>?_⟩;have g:=Jo (D:=fun k=>(det k A).toNat) (n:=n) (by simp[det]) (fun k a=>by have:=h.pos k a;omega) (fun k e a=>?_) d om (n-k) k om
 .have:=h.pos k a;have c:=(EY k om).1;omega
 .have c:=JR h b e a;have i:=h.pos k om;have j:=h.pos (k-1) om;have l:=h.pos (k+1) om;refine kG.1 ?_;simp only[aX];rw[c9 om,c9 om,c9 om];exact c

structure sn(A:az)(n:Nat):Prop where
 pos:∀k,k<=n->0<det k A
 dt:det n A<=10000
 rows:jt A n
structure yi(A:az)(n k:Nat):Prop where
 pos:∀j,j<=k->0<det j A
 lt:∀j,j<=k->det j A<65536
 sz:∀i j,j<k->j<i->i<n->gI A i j
 lo:∀i,0<i->i<=k->gA A i
def PG(A:az)(n k:Nat):Prop:=∀i j,k+i<n->k+j<n->((ci A k i j).natAbs:Int)<=det k A*(262144+k*16384)
def yi.ne(h:yi A n k):∀j,j<=k->det j A≠0:=fun j a=>by have:=h.pos j a;omega
def yi.init:yi A n 0 :=
 ⟨fun j a=>by rw[(om:j=0)];simp[det],fun j a=>by rw[(om:j=0)];simp[det],fun i j a=>om,fun i b c=>om⟩
def PG.init(h:∀i j,i<n->j<n->-262144<A i j/\A i j<262144):PG A n 0:=fun i j a b=>by
 have:=h i j om om;rw[eQ];simp[det];omega
theorem EN{A:az}{n:Nat}(e:∀i j,i<n->j<n->A i j=A j i):∀(k i j:Nat),(∀c,c<=k->det c A≠0)->k+i<n->k+j<n->ci A k i j=ci A k j i
 | 0,i,j,_,h,l=>by rw[eQ,eQ];exact e i j om om
 | k+1,i,j,d,h,l=>by
  have ih:=fun a b=>EN e k a b (fun c f=>d c om);have g:=ij (A:=A) (k:=k) (fun c f=>d c om) i j;have m:=ij (A:=A) (k:=k) (fun c f=>d c om) j i;rw[ih (i+1) (j+1) om om,ih (i+1) 0 om om,ih 0 (j+1) om om]at g;refine cH (d k om) ?_;rw[<-g,<-m];grind
def vX(A:az)(m:Nat):Prop:=0<A 0 0/\A 0 0<65536/\∀i,1<=i->i<m->2*A i 0<=A 0 0/\-2*A i 0<=A 0 0
def PG.step(h:PG A n k)(c:yi A n k)(g:∀i j,i<n->j<n->A i j=A j i)(l:vX (ci A k) (n-k)):PG A n (k+1):=fun i j u v=>by
 obtain⟨m,o,f⟩:=l;rw[cG]at m o f;have e:=ij (A:=A) (k:=k) c.ne i j;rw[cG,EN g k 0 (j+1) c.ne om om]at e;have b:=h (i+1) (j+1) om om;have w:=f (i+1) om om;have B:=f (j+1) om om;have dk:=c.pos k (ag k);generalize det k A=d at *;generalize det (k+1) A=D at *;generalize ci A k (i+1) (j+1)=s at *;generalize ci A k (i+1) 0=x at *;generalize ci A k (j+1) 0=y at *;generalize ci A (k+1) i j=z at *;have C:d*(z.natAbs:Int)<=D*(s.natAbs:Int)+(x.natAbs:Int)*(y.natAbs:Int):=by
  have p:((d*z).natAbs:Int)=d*(z.natAbs:Int):=by rw[cN];push_cast;congr 1;omega
  have q:((D*s).natAbs:Int)=D*(s.natAbs:Int):=by rw[cN];push_cast;congr 1;omega
  have r:((x*y).natAbs:Int)=(x.natAbs:Int)*(y.natAbs:Int):=by rw[cN];push_cast;rfl
  rw[<-p,<-q,<-r,<-e];omega
 have E:(2*(x.natAbs:Int))*(2*(y.natAbs:Int))<=D*D:=cw om om om om;have F:(2*(x.natAbs:Int))*(2*(y.natAbs:Int))=4*((x.natAbs:Int)*(y.natAbs:Int)):=by grind
 have G:D*D<=D*65536:=aW om om;have H:D*16384<=d*(D*16384):=by
  have:=bK (om:1<=d) (om:0<=D*16384)
  omega
 have I:=aW b (om:0<=D)
 have t:d*(D*(262144+((k+1:Nat):Int)*16384))=D*(d*(262144+k*16384))+d*(D*16384):=by push_cast;grind
 refine iy (a:=d) ?_ dk;rw[t];omega
def yi.step(a:yi A n k)(h:vX (ci A k) (n-k))(l:gA A (k+1)):yi A n (k+1):=by
 obtain⟨c,d,f⟩:=h;rw[cG]at c d f;refine⟨fun j g=>?_,fun j g=>?_,fun i j g b m=>?_,fun i o p=>?_⟩
 .by_cases e:j=k+1
  .rw[e];exact c
  .exact a.pos j om
 .by_cases e:j=k+1
  .rw[e];exact d
  .exact a.lt j om
 .by_cases e:j=k
  .subst e;have:=f (i-j) om om;unfold gI eZ;omega
  .exact a.sz i j om b m
 .by_cases e:i=k+1
  .rw[e];exact l
  .exact a.lo i o om
def sn.red(h:sn A n)(a:∀i j,i<n->j<n->A i j=A j i)(b:n<=8):Eb A n:=Eb.of ⟨a,h.pos⟩ h.rows b (by have:=h.dt;omega)
def sn.short(h:sn A n)(b:∀i j,i<n->j<n->A i j=A j i)(c:n<=8)(a:k<n):vX (ci A k) (n-k):=by
 have d:=h.pos (k+1) a;have f:=(h.red b c).lead (k+1) a;unfold vX;rw[cG];refine⟨d,om,fun i g e=>?_⟩
 have:=h.rows.1 (k+i) om k om;unfold gI eZ at this;rw[(om:k+i-k=i)]at this
 omega
def yi.redB(a:yi A n k)(h:k+1=n)(c:0<det n A)(d:det n A<=10000):sn A n:=by
 refine⟨fun j b=>?_,d,fun r f j b=>a.sz r j om b f,fun r g i=>a.lo r g om⟩;by_cases e:j=n
 .rw[e];exact c
 .exact a.pos j om
def PG.num(h:PG A n k)(c:0<det k A/\det k A<65536)(d:n<=8)(a:k+i<n)(b:k+j<n):-24696061952<=ci A k i j/\ci A k i j<=24696061952:=by
 have e:=h i j a b;have f:=cw (om:det k A<=65536) (show(262144+k*16384:Int)<=376832 by omega) om om
 omega

def C3(l:k<n)(b:∀j,j<=k->det j A≠0)(c:∀j,j<n-k->ci A k 0 j=0):det n A=0:=by
 have a:=rS b (n-k-1) id id;have d:det (n-k-1+1) (fun i j=>ci A k (id i) (id j))=0:=Ao _ (fun j m=>c j om);rw[d,(om:k+(n-k-1)+1=n)]at a
 have f:det k A^(n-k-1)≠0:=Jy (b k (ag _));have g:det n (fun i j=>A (up k id i) (up k id j))=det n A:=aZ fun i j _ _=>by
  have e:∀i,up k id i=i:=fun i=>by unfold up;split<;>simp;omega
  rw[e,e]
 rw[g]at a;rcases fH.1 a.symm with h|h
 .exact absurd h f
 .exact h
def QK{p:Nat}(d:k<=p)(i a:Nat):c8 k p (up k (fun _=>i) a)=up k (fun _=>c8 0 (p-k) i) a:=by
 unfold up c8;by_cases h:a<k
 .simp only[h,aE];rw[ah om,ah om]
 .simp only[h,aH];by_cases b:i=0
  .rw[aj om,aj b];omega
  .by_cases c:i=p-k
   .rw[ah om,aj om,ah b,aj c];omega
   .rw[ah om,ah om,ah b,ah c]
def EI{p:Nat}(A:az)(c:k<=p)(i j:Nat):ci (fun a b=>A a (c8 k p b)) k i j=ci A k i (c8 0 (p-k) j):=by
 unfold ci;refine aZ fun a b d e=>?_;show A _ (c8 k p (up k (fun _=>j) b))=_;rw[QK c]
def oD{g:Nat->Int}(h:∀i,i<n->f i=g i):dK n f=dK n g:=by
 induction n with
 | zero=>rfl
 | succ n ih=>simp only[dK];rw[ih (fun i a=>h i om),h n om]
def M3(f:Nat->Int)(h:n<=m):dK n f<=dK m f:=by
 induction m with
 | zero=>rw[(om:n=0)];exact ag _
 | succ m ih =>
  rcases aB n (m+1)with a|a
  .have:=ih om;simp only[dK];omega
  .rw[(om:n=m+1)];exact ag _
def l5(f:Nat->Int){j:Nat}(a:j<n):dK n (fun b=>if b=j then 0 else f b)+(f j).natAbs=dK n f:=by
 induction n with
 | zero=>omega
 | succ n ih =>
  simp only[dK];rcases aB j n with h|h
  .have:=ih h;rw[ah (om:¬n=j)];omega
  .rw[(om:j=n),aj rfl,oD (g:=f) (fun i c=>ah om)];simp
def KN(f:Nat->Int){i k:Nat}(a:i<n)(c:k<n):dK n (fun b=>f (c8 i k b))=dK n f:=by
 by_cases e:i=k
 .subst e;exact oD fun b _=>by unfold c8;split<;>simp_all
 .have p:=l5 f a;have j:=l5 (fun b=>if b=i then 0 else f b) c
  have l:=l5 (fun b=>f (c8 i k b)) a;have d:=l5 (fun b=>if b=i then 0 else f (c8 i k b)) c
  simp only[ah (ai e)]at j d;have q:dK n (fun b=>if b=k then 0 else if b=i then 0 else f (c8 i k b))=dK n (fun b=>if b=k then 0 else if b=i then 0 else f b):=oD fun b _=>by
   by_cases g:b=k
   .simp[g]
   .by_cases h:b=i
    .simp[h]
    .simp[g,h,c8]
  have m:c8 i k i=k:=by simp[c8]
  have o:c8 i k k=i:=by simp[c8]
  rw[m]at l;rw[o]at d;omega
def FP(g:Nat->Int)(h:k+j<N):dK (k+1) (fun b=>g (up k (fun _=>j) b))<=dK N g:=by
 have d:=l5 g h;have a:dK k (fun b=>g (up k (fun _=>j) b))=dK k (fun b=>if b=k+j then 0 else g b):=oD fun b c=>by
  simp only[up,c,aE];rw[ah om]
 have e:=M3 (fun b=>if b=k+j then 0 else g b) (om:k<=N)
 simp only[dK];rw[a,show up k (fun _=>j) k=k+j by simp[up]]
 omega
structure lR(A:az)(N:Nat)(σ:Nat->Nat)(k:Nat):Prop where
 lead:∀j,j<=k->det j (fun a b=>A a (σ b))≠0
 abs:∀B:az,(det N (fun a b=>B a (σ b))).natAbs=(det N B).natAbs
 sum:∀f:Nat->Int,dK N (fun b=>f (σ b))=dK N f
def lR.init(A:az)(N:Nat):lR A N id 0:=⟨fun j a=>by rw[(om:j=0)];simp[det],fun _=>rfl,fun _=>rfl⟩
def lR.swap{p:Nat}(h:lR A N σ k)(g:k<=p)(c:p<N):lR A N (fun a=>σ (c8 k p a)) k:=by
 refine⟨fun j d=>?_,fun B=>?_,fun f=>?_⟩
 .have e:det j (fun a b=>A a (σ (c8 k p b)))=det j (fun a b=>A a (σ b)):=aZ fun a b _ i=>by rw[show c8 k p b=b by unfold c8;rw[ah om,ah om]]
  rw[e];exact h.lead j d
 .by_cases e:k=p
  .subst e;rw[show(fun a b=>B a (σ (c8 k k b)))=fun a b=>B a (σ b) by funext a b;rw[show c8 k k b=b by unfold c8;split<;>simp_all]]
   exact h.abs B
  .have:=lk (fun a b=>B a (σ b)) (om:k<N) c e
   rw[this,TC];exact h.abs B
 .rw[KN (fun b=>f (σ b)) (om:k<N) c];exact h.sum f
def lR.step(h:lR A N σ k)(c:ci (fun a b=>A a (σ b)) k 0 0≠0):lR A N σ (k+1) :=
 ⟨fun j e=>by
  rcases aB j (k+1)with d|d
  .exact h.lead j om
  .rw[(om:j=k+1),<-cG];exact c,h.abs,h.sum⟩
def vK(n R i:Nat):Nat:=if i<n then i else R
def QQ{a:Nat}(b:n<=R):up n (fun _=>R-n) a=vK n R a:=by simp only[up,vK];split<;>omega
def N8(c:n<=R):ci A n (R-n) 0=det (n+1) (fun a b=>A (vK n R a) b):=by
 unfold ci;refine aZ fun a b _ d=>?_;rw[QQ c,lT _ _ d]
def lR.found(h:lR A (n+1) σ k)(o:k<n)(f:det (n+1) (fun a b=>A (vK n R a) b)≠0):¬∀j,j<n+1-k->ci (fun a b=>A a (σ b)) k 0 j=0:=by
 intro g;have e:∀m,m<=n->∀B:az,det m (fun a b=>B (vK n R a) b)=det m B:=fun m p B=>aZ fun a b d _=>by rw[show vK n R a=a by unfold vK;rw[aj om]]
 have i:=C3 (A:=fun a b=>A (vK n R a) (σ b)) (om:k<n+1) (fun j c=>by rw[e j om (fun a b=>A a (σ b))];exact h.lead j c) (fun j c=>by
  rw[<-g j c];unfold ci;refine aZ fun a b d _=>?_;rw[lT _ _ d];simp only[vK];rw[aj (om:a<n)])
 have l:=h.abs (fun a b=>A (vK n R a) b);rw[i]at l;exact f om
def lR.last(h:lR A (n+1) σ k)(c:n<=R):(ci (fun a b=>A a (σ b)) n (R-n) 0).natAbs=(det (n+1) (fun a b=>A (vK n R a) b)).natAbs:=by
 rw[N8 (A:=fun a b=>A a (σ b)) c];exact h.abs (fun a b=>A (vK n R a) b)
theorem Hk:∀(n:Nat) (A:az),(∀i j,i<n->j<n->A i j=if j=i then 1 else 0)->det n A=1
 | 0,_,_=>rfl
 | n+1,A,h=>by
  rw[r9 A (fun i a=>by rw[h _ _ om om,ah om]),h 0 0 om om,Hk n _ (fun i j a b=>by
   rw[h _ _ om om];by_cases e:j=i
   .simp[e]
   .rw[ah e,ah om])]
  simp
def Bv(A:az)(h:∀i,i<n->∀c:Nat->Int,(∀r,r<n->ap n (fun j=>(if r<i then dW r j else A r j)*c j)=0)->c i=0):det n A≠0:=by
 have key:∀m i,i+m=n->det n (fun r j=>if r<i then dW r j else A r j)≠0:=by
  intro m
  induction m with
  | zero =>
   intro i f;rw[Hk n _ (fun a b p q=>by rw[aj om];rfl)];decide
  | succ m ih =>
   intro i f g;have k:=ih (i+1) om;refine k ?_;have l:=h i om (fun j=>qo n (fun r j=>if r<i then dW r j else A r j) i j) (fun r o=>by
    refine(tY (fun r j=>if r<i then dW r j else A r j) (om:i<n) o).trans ?_
    rw[g];simp)
   rw[<-l];unfold qo;refine aZ fun a b _ _=>?_;unfold setRow;by_cases e:a=i
   .simp[e]
   .by_cases d:a<i
    .simp[e,d,(om:a<i+1)]
    .simp[e,d,(om:¬a<i+1)]
 have:=key n 0 om;simpa using this

def fv(n:Nat)(M:az):az:=fun r j=>if r<n then M r j else if r=n+j then 1 else 0
def ED(c:Nat->Int){r:Nat}(a:r<n):ap n (fun j=>dW r j*c j)=c r:=by
 rw[cI r a (fun i _ b=>by simp[dW,b])];simp[dW]
def E9(v:p≠0){piv:Nat}(f:piv<n)(q x:Nat->Int):det (n+1) (fun a b=>fv n (yg n p piv q x) (vK n (n+n) a) b)≠0:=by
 refine Bv _ fun i w c s=>?_;have rowU:∀r,r<n+1->r<i->c r=0:=fun r l m=>by
  have:=s r l;rw[ay (g:=fun j=>dW r j*c j) (fun j _=>by rw[aj m]),ED c l]at this
  exact this
 have o:c n=0:=by
  by_cases h:n<i
  .exact rowU n om h
  .have:=s n om;rw[ay (g:=fun j=>dW n j*c j) (fun j _=>by
    rw[ah h];simp only[vK,fv,dW];by_cases e:j=n
    .simp[e,(om:¬n+n<n)]
    .simp[e,(om:¬n+n<n),ai e]),ED c om]at this
   exact this
 have rowM:∀r,r<n->¬r<i->ap n (fun j=>jg p piv q r j*c j)=0:=fun r l m=>by
  have:=s r om;rw[ay (g:=fun j=>yg n p piv q x r j*c j) (fun j _=>by rw[ah m];simp[vK,fv,l]),Do,o]at this
  omega
 have k:∀r,r<n->r≠piv->c r=0:=fun r l d=>by
  by_cases h:r<i
  .exact rowU r om h
  .have:=rowM r l h;rw[cI r l (fun j _ t=>by
    simp only[jg];by_cases e:j=piv
    .simp[e,d]
    .simp[e,d,ai t])]at this
   simp[jg,d]at this;rcases fH.1 this with h|h
   .exact absurd h v
   .exact h
 have u:c piv=0:=by
  by_cases h:piv<i
  .exact rowU piv om h
  .have:=rowM piv f h;rw[cI piv f (fun j t d=>by rw[k j t d];simp)]at this
   simp[jg]at this;rcases fH.1 this with h|h
   .rcases fH.1 h with h|h<;>exact absurd h v
   .exact h
 rcases aB i n with h|h
 .by_cases e:i=piv
  .rw[e];exact u
  .exact k i h e
 .rw[(om:i=n)];exact o
def qu{B:Nat}(h:∀i,i<n->(f i).natAbs<=B):dK n f<=n*B:=by
 induction n with
 | zero=>simp[dK]
 | succ n ih=>have:=ih (fun i a=>h i om);have:=h n om;simp only[dK];rw[cg];omega
def LY{M:az}(c:n<=8)(a:∀i j,i<n->j<n+1->(M i j).natAbs<=100000000)(r:Nat):dK (n+1) (fv n M r)<=2^30:=by
 have h:=qu (n:=n+1) (f:=fv n M r) (B:=100000000) (fun j b=>by
  unfold fv;split
  .rename_i h;exact a r j h b
  .split<;>simp)
 have d:(n+1)*100000000<=9*100000000:=aq _ om;omega
def Dp{piv:Nat}{q x:Nat->Int}(b:0<=p)(a:p<=9973)(d:∀j,j<n->0<=q j/\q j<=9972)(e:∀i,i<n->(x i).natAbs<=100000000)(i j:Nat)(f:i<n)(k:j<n+1):(yg n p piv q x i j).natAbs<=100000000:=by
 unfold yg;split
 .rename_i h;obtain⟨c,g⟩:=d j h;have l:=cw a a b om;have m:=cw a g c om;have o:=cD b b;have r:=cD b c;unfold jg;split
  .split<;>omega
  .split
   .omega
   .split<;>omega
 .exact e i f
theorem xE(c:Nat):∀k,ja k (fun _=>c)=c^k
 | 0=>rfl
 | k+1=>by simp only[ja];rw[xE c k,bV,aA]
def E4(k:Nat):ja k (fun _=>2^30)=2^(30*k):=by rw[xE,<-Nat.pow_mul]

def Mr{w M:az}(f:∀i j,i<n->j<n+1->w i j=M i j)(l:∀x,eP (n+1) (n+1) H x↔eP (n+1) (n+1) w x)(m:∀i,i<n->H i n=0)(y:gS):eP n n H y↔eP n (n+1) M y:=by
 constructor
 .rintro⟨c,h⟩;obtain⟨d,k⟩:=(l (fun i=>ap (n+1) (fun j=>H i j*(if j<n then c j else 0)))).1 ⟨_,fun _ _=>rfl⟩
  refine⟨d,fun i a=>?_⟩;have b:(ap (n+1) fun j=>H i j*(if j<n then c j else 0))=ap (n+1) fun j=>w i j*d j:=k i om
  simp only[ap]at b;rw[ay (g:=fun j=>H i j*c j) (fun j e=>by rw[aj e]),<-h i a,ah (cB n)]at b
  simp only[ap];rw[ay (g:=fun j=>w i j*d j) (fun j e=>by rw[f i j a om]),<-f i n a om]
  omega
 .rintro⟨d,k⟩;obtain⟨c,h⟩:=(l (fun i=>ap (n+1) (fun j=>w i j*d j))).2 ⟨d,fun _ _=>rfl⟩;refine⟨c,fun i a=>?_⟩;have b:(ap (n+1) fun j=>w i j*d j)=ap (n+1) fun j=>H i j*c j:=h i om;rw[k i a];rw[ay (g:=fun j=>M i j*d j) (fun j e=>by rw[f i j a e])]at b
  rw[b];simp only[ap];rw[m i a];simp
def Kc{w:az}(g:1<=N)(n:∀j,j<N->eP N N w (fun i=>H i j)) :
  ∃U:az,(∀i j,i<N->j<N->mm N w U i j=H i j)/\∀i j,i<N->j<N->mm N (jV N w) H i j=det N w*U i j:=by
 have d:∃U:az,∀i j,i<N->j<N->mm N w U i j=H i j:=by
  have l:∀j,∃c:gS,j<N->∀i,i<N->H i j=ap N (fun k=>w i k*c k):=fun j=>by
   by_cases a:j<N
   .obtain⟨c,d⟩:=n j a;exact⟨c,fun _=>d⟩
   .exact⟨fun _=>0,fun h=>absurd h a⟩
  refine⟨fun k j=>fN (l j) k,fun i j b a=>?_⟩;exact(dj (l j) a i b).symm
 obtain⟨U,m⟩:=d;refine⟨U,m,fun i j b a=>?_⟩;rw[ri (A':=jV N w) (B':=mm N w U) (fun _ _=>rfl) (fun k e=>(m k j e a).symm),<-nS];unfold mm;rw[cI i b (fun k e f=>by
  have:=pD g w b e;unfold mm at this;rw[this,ah (ai f)];simp)]
 have:=pD g w b b;unfold mm at this;rw[this,aj rfl]

def vF:Nat->(Nat->Nat)->Nat
 | 0,_=>0
 | n+1,f=>vF n f+f n*4294967296^n
def jO{f:Nat->Nat}(h:∀i,i<n->f i=g i):vF n f=vF n g:=by
 induction n with
 | zero=>rfl
 | succ n ih=>simp only[vF];rw[ih fun i a=>h i om,h n om]
def tG{f:Nat->Nat}(h:∀i,i<n->f i<4294967296):vF n f<4294967296^n:=by
 induction n with
 | zero=>simp[vF]
 | succ n ih =>
  have b:=ih fun i c=>h i om;have a:=aq (4294967296^n) (show f n+1<=4294967296 by have:=h n om;omega)
  simp only[vF,bV];rw[cg]at a;omega
def EC(n:Nat)(f:Nat->Nat):vF (n+1) f=f 0+4294967296*vF n (fun i=>f (i+1)):=by
 induction n with
 | zero=>simp[vF]
 | succ n ih =>
  rw[show vF (n+1+1) f=vF (n+1) f+f (n+1)*4294967296^(n+1)from rfl,ih];simp only[vF,bV];generalize vF n (fun i=>f (i+1))=a;generalize 4294967296^n=p;rw[bW,show 4294967296*(f (n+1)*p)=f (n+1)*(p*4294967296) by rw[<-bI,aA 4294967296,bI,aA 4294967296]]
  omega
theorem Ls:∀(l:List Nat),bC l=vF l.length (fun i=>l.getD i 0)
 | []=>rfl
 | x::l=>by
  rw[cK,EC,bC,Ls l];rfl
def qX(m k:Nat)(f:Nat->Nat):vF (m+k) f=vF m f+4294967296^m*vF k (fun i=>f (m+i)):=by
 induction k with
 | zero=>simp[vF]
 | succ k ih =>
  rw[<-kU];simp only[vF];rw[ih,bW,fz,<-bI,aA (f (m+k)),bI,aA (f (m+k)),<-bI];omega
def Oy{P g:Nat}(j:U=ul+(u2*18446744073709551616+u1*4294967296+u0)*P)(c:ul<P)(d:V=vl+(v1*4294967296+v0)*P)
  (e:g*v1+r=u2*4294967296+u1) (h:r*4294967296+u0<g*v0):U<g*V:=by
 have f:u2*18446744073709551616+u1*4294967296+u0+1<=g*(v1*4294967296+v0):=by
  rw[bW,<-bI];generalize g*v1=a at *;generalize g*v0=b at *;omega
 have i:=aq P f;rw[cg]at i;have k:g*V=g*vl+g*(v1*4294967296+v0)*P:=by rw[d,bW,bI]
 omega
def Mc{P g:Nat}(l:U=ul+(u2*18446744073709551616+u1*4294967296+u0)*P)(d:V=vl+(v1*4294967296+v0)*P)(c:vl<P)(f:0<v1)
  (e:g*v1+r=u2*4294967296+u1) (i:g<4294967296) (h:g*v0<=r*4294967296+u0):g*V<U+V:=by
 have j:g*(v1*4294967296+v0)<=u2*18446744073709551616+u1*4294967296+u0:=by
  rw[bW,<-bI];generalize g*v1=a at *;generalize g*v0=b at *;omega
 have m:=aq P j;have n:g*V=g*vl+g*(v1*4294967296+v0)*P:=by rw[d,bW,bI]
 have o:g*vl<=g*P:=aM g (dq c);have p:=aq P (om:4294967296<=v1*4294967296+v0)
 have k:=aq P (show g+1<=4294967296 from i);rw[dJ g 1 P,mM]at k;omega
def kn_q{g:Nat}(h:g*V<U+V)(b:U<(g+1)*V):(g*V<=U/\U/V=g/\U%V=U-g*V)∨(U<g*V/\0<g/\U/V=g-1/\U%V=U+V-g*V):=by
 have c:0<V:=by
  rcases bD V with h|h
  .subst h;simp at b
  .exact h
 rw[cg]at b;rcases aB U (g*V)with a|a
 .refine aR ⟨a,?_⟩
  cases g with
  | zero=>simp at a
  | succ g =>
   rw[cg]at *;have e:U=V*g+(U-g*V):=by rw[aA];omega
   refine⟨om,?_,?_⟩
   .rw[e,jH c,ed om];rfl
   .rw[e,kM,dR om,aA V g];omega
 .refine a9 ⟨a,?_,?_⟩
  .have e:U=V*g+(U-g*V):=by rw[aA];omega
   rw[e,jH c,ed om];rfl
  .have e:U=V*g+(U-g*V):=by rw[aA];omega
   rw[e,kM,dR om,aA V g];omega
def Mf(b:∀i,i<k+2->v i<4294967296)(h:vF (k+3) u<vF (k+2) v*4294967296):u (k+2)<=v (k+1):=by
 have g:=tG (n:=k+1) (f:=v) fun i j=>b i om;have c:vF (k+2) v=vF (k+1) v+v (k+1)*4294967296^(k+1):=rfl;have d:vF (k+3) u=vF (k+2) u+u (k+2)*4294967296^(k+2):=rfl;rw[c,d,bV]at h;generalize 4294967296^(k+1)=p at *;rcases aB (v (k+1)) (u (k+2))with a|a
 .have e:=aq p (show v (k+1)+1<=u (k+2)from a);rw[cg]at e;have l:u (k+2)*(p*4294967296)=u (k+2)*p*4294967296:=(bI _ _ _).symm;omega
 .exact a
def tc(k:Nat)(u:Nat->Nat):vF (k+3) u=vF k u+(u (k+2)*18446744073709551616+u (k+1)*4294967296+u k)*4294967296^k:=by
 simp only[vF,bV];generalize 4294967296^k=p;rw[dJ,dJ,show u (k+1)*(p*4294967296)=u (k+1)*4294967296*p by rw[aA p,bI],show u (k+2)*(p*4294967296*4294967296)=u (k+2)*18446744073709551616*p by rw[bI p,show(4294967296:Nat)*4294967296=18446744073709551616 from rfl,aA p,<-bI]]
 omega
def tb(k:Nat)(v:Nat->Nat):vF (k+2) v=vF k v+(v (k+1)*4294967296+v k)*4294967296^k:=by
 simp only[vF,bV];generalize 4294967296^k=p;rw[dJ,show v (k+1)*(p*4294967296)=v (k+1)*4294967296*p by rw[aA p,bI]]
 omega
structure KG(k:Nat)(u v:Nat->Nat)(g r:Nat):Prop where
 eq:g*v (k+1)+r=u (k+2)*4294967296+u (k+1)
 le:vF (k+3) u<(g+1)*vF (k+2) v
def KG.init(c:0<v (k+1))(b:∀i,i<k+3->u i<4294967296):KG k u v ((u (k+2)*4294967296+u (k+1))/v (k+1)) ((u (k+2)*4294967296+u (k+1))%v (k+1)):=by
 have e:=cV (u (k+2)*4294967296+u (k+1)) (v (k+1));have j:=di (u (k+2)*4294967296+u (k+1)) c;rw[aA]at e;refine⟨e,?_⟩;generalize (u (k+2)*4294967296+u (k+1))/v (k+1)=q at *;generalize (u (k+2)*4294967296+u (k+1))%v (k+1)=r at *;rw[tc,tb];have l:=tG (n:=k) (f:=u) fun i m=>b i om;have o:=b k om;generalize 4294967296^k=p at *;have d:u (k+2)*18446744073709551616+u (k+1)*4294967296+u k+1<=(q+1)*(v (k+1)*4294967296+v k):=by
  have g:(q+1)*(v (k+1)*4294967296)=(q*v (k+1)+v (k+1))*4294967296:=by rw[<-bI,cg]
  rw[bW,g];generalize q*v (k+1)=a at *;have:=lu ((q+1)*v k);omega
 have h:=aq p d;rw[cg]at h;rw[bW,<-bI];omega
def KG.step{g:Nat}(h:KG k u v g r)(c:∀i,i<k+3->u i<4294967296)(d:vF (k+3) u<vF (k+2) v*4294967296)(a:4294967296<=g∨r*4294967296+u k<g*v k):0<g/\KG k u v (g-1) (r+v (k+1)):=by
 have b:vF (k+3) u<g*vF (k+2) v:=by
  rcases a with a|a
  .have:=aq (vF (k+2) v) a;rw[aA]at d;omega
  .exact Oy (tc k u) (tG fun i e=>c i om) (tb k v) h.eq a
 cases g with
 | zero=>simp at b
 | succ g =>
  refine⟨om,⟨?_,by simpa using b⟩⟩
  have:=h.eq;rw[cg]at this;simp only[fA];omega
def KG.g_lt{g:Nat}(h:KG k u v g r)(b:u (k+2)<=v (k+1))(c:u (k+1)<4294967296)(d:4294967296<=r):g<4294967296:=by
 rcases aB g 4294967296 with a|a
 .exact a
 .have e:=aq (v (k+1)) a;have:=h.eq;omega
def KG.last{g:Nat}(h:KG k u v g r)(a:∀i,i<k+2->v i<4294967296)(b:0<v (k+1))(c:g<4294967296)(d:g*v k<=r*4294967296+u k):g*vF (k+2) v<vF (k+3) u+vF (k+2) v :=
 Mc (tc k u) (tb k v) (tG fun i e=>a i om) b h.eq c d
def KG.big{g uk:Nat}(b:v k<4294967296)(c:g<4294967296)(a:4294967296<=r):g*v k<=r*4294967296+uk:=by
 have d:=bB (om:g<=4294967296) (om:v k<=4294967296)
 have e:=aq 4294967296 a;omega

end Go.Proofs.YtdobfmlmenaajaaGreatDoor
