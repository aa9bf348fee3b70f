/-
  Lemmas for NeighbourBack.
-/
import Derived.Test.YtdobfmlmenaajaaGreatDoorB03
namespace Go.Proofs.YtdobfmlmenaajaaGreatDoor
open Go.RowKit Tryz
open _root_.Classical renaming choose→fP
set_option maxHeartbeats 6400000
set_option maxRecDepth 4096
set_option linter.all false
variable{β:Bool}{a a0 b f0 f1 h l na p q x y z:Int}{N R U V c d i i' j j' k m n r t u0 u1 u2 ul v0 v1 vl x0 y0:Nat}{M f:Nat->Int}{g u v w w' σ:Nat->Nat}{A A' B H Q T:az}
def up(k:Nat)(ρ:Nat->Nat)(i:Nat):Nat:=if i<k then i else k+ρ (i-k)
def cl(A:az)(k:Nat):az:=fun i j=>det (k+1) (fun a b=>A (up k (fun _=>i) a) (up k (fun _=>j) b))
def Ix(ρ:Nat->Nat)(i:Nat):up 0 ρ i=ρ i:=by simp[up]
def yG(k:Nat)(ρ:Nat->Nat)(i:Nat):up k (lA ρ) i=up (k+1) ρ i:=by
 unfold up;by_cases h:i<k
 .rw[aj h,aj om]
 .rw[ah h];by_cases a:i<k+1
  .rw[aj a,(om:i-k=0)];simp[lA];omega
  .rw[ah a,(om:i-k=(i-(k+1))+1)];simp only[lA];omega
def lV(k i:Nat)(h:i<k+1):up k (fun _=>0) i=i:=by
 unfold up;split
 .rfl
 .show k+0=i;omega
def eV(A:az)(i j:Nat):cl A 0 i j=A i j:=by
 unfold cl;rw[DP];simp[up]
def cH(A:az)(k:Nat):cl A k 0 0=det (k+1) A:=by
 unfold cl;exact aZ fun a b c d=>by rw[lV k a c,lV k b d]
def xH(h:∀(l:Nat) (ρ γ:Nat->Nat),det (l+1) (fun i j=>cl A k (ρ i) (γ j))=det k A^l*det (k+l+1) (fun i j=>A (up k ρ i) (up k γ j)))(i j:Nat) :
  FF (cl A k) i j=det k A*cl A (k+1) i j:=by
 have c:=h 1 (lA fun _=>i) (lA fun _=>j);rw[uL,eH,Int.pow_zero,cU]at c;simp only[lA]at c;simp only[FF];rw[c];unfold cl;congr 1;exact aZ fun a b _ _=>by rw[yG,yG]
theorem rV{A:az}:∀{k:Nat},(∀j,j<=k->det j A≠0)->∀(l:Nat) (ρ γ:Nat->Nat),
  det (l+1) (fun i j=>cl A k (ρ i) (γ j))=det k A^l*det (k+l+1) (fun i j=>A (up k ρ i) (up k γ j))
 | 0,_,l,ρ,γ=>by
  rw[show det 0 A=1 from rfl,Int.one_pow,cU,aM];exact aZ fun i j _ _=>by rw[eV,Ix,Ix]
 | k+1,a,l,ρ,γ=>by
  have ih:=rV (k:=k) (fun j n=>a j om);have d:=a k om;have b:=a (k+1) (ag _);have f:PX (det k A) (cl A k):=fun l ρ γ=>⟨_,ih l ρ γ⟩;have c:cl A k 0 0≠0:=by rw[cH];exact b
  have g:∀i j,bar (det k A) (cl A k) i j=cl A (k+1) i j:=fun i j=>by
   unfold bar;rw[xH ih,cn _ d]
  have e:=Kz f c l ρ γ;rw[aZ (B:=fun i j=>cl A (k+1) (ρ i) (γ j)) (fun i j _ _=>g _ _),ih (l+1) (lA ρ) (lA γ),cH]at e;have h:det k A^(l+1)≠0:=qe d;refine cJ h ?_;have m:det (k+(l+1)+1) (fun i j=>A (up k (lA ρ) i) (up k (lA γ) j))=det (k+1+l+1) (fun i j=>A (up (k+1) ρ i) (up (k+1) γ j)):=by
   rw[(om:k+(l+1)+1=k+1+l+1)]
   exact aZ fun i j _ _=>by rw[yG,yG]
  rw[e,m,Tf]
def Lz(a:∀j,j<=k->det j A≠0)(i j:Nat):FF (cl A k) i j=det k A*cl A (k+1) i j:=xH (rV a) i j
def ie(a:∀j,j<=k->det j A≠0)(i j:Nat):cl A k 0 0*cl A k (i+1) (j+1)-cl A k (i+1) 0*cl A k 0 (j+1)=det k A*cl A (k+1) i j:=Lz a i j
def Ly(l:k<n)(b:∀j,j<=k->det j A≠0)(c:∀i,i<n-k->cl A k i 0=0):det n A=0:=by
 have a:=rV b (n-k-1) id id;have d:det (n-k-1+1) (fun i j=>cl A k (id i) (id j))=0:=uN _ om (fun i m=>c i om);rw[d,(om:k+(n-k-1)+1=n)]at a
 have f:det k A^(n-k-1)≠0:=qe (b k (ag _));have g:det n (fun i j=>A (up k id i) (up k id j))=det n A:=aZ fun i j _ _=>by
  have e:∀i,up k id i=i:=fun i=>by unfold up;split<;>simp;omega
  rw[e,e]
 rw[g]at a;rcases fK.1 a.symm with h|h
 .exact absurd h f
 .exact h
def dq(i j a:Nat):Nat:=if a=i then j else if a=j then i else a
def yH(A:az)(f:i<n)(g:k<n)(c:i≠k):det n (fun a b=>A (dq i k a) b)=- det n A:=by
 rw[<-MA A f g c];refine aZ fun a b _ _=>?_;simp only[dq,setRow];by_cases d:a=i
 .subst d;simp[c]
 .by_cases e:a=k
  .subst e;simp[d]
  .simp[d,e]
def mo(A:az)(f:i<n)(g:k<n)(c:i≠k):det n (fun a b=>A a (dq i k b))=- det n A:=by
 rw[<-uO A f g c];refine aZ fun a b _ _=>?_;simp only[dq,a9];by_cases d:b=i
 .subst d;simp[c]
 .by_cases e:b=k
  .subst e;simp[d]
  .simp[d,e]
def tR(A:az)(c:n<=i)(d:n<=k):det n (fun a b=>A (dq i k a) b)=det n A :=
 aZ fun a b e _=>by rw[show dq i k a=a by unfold dq;rw[ah om,ah om]]
def tQ{p:Nat}(A:az)(f:k<=p)(i j:Nat):cl (fun a b=>A (dq k p a) b) k i j=cl A k (dq 0 (p-k) i) j:=by
 unfold cl;refine aZ fun a b g l=>?_;have e:dq k p (up k (fun _=>i) a)=up k (fun _=>dq 0 (p-k) i) a:=by
  unfold up dq;by_cases h:a<k
  .simp only[h,aH];rw[ah om,ah om]
  .simp only[h,aI];by_cases c:i=0
   .rw[aj om,aj c];omega
   .by_cases d:i=p-k
    .rw[ah om,aj om,ah c,aj d];omega
    .rw[ah om,ah om,ah c,ah d]
 show A (dq k p (up k (fun _=>i) a)) _=_;rw[e]
structure ma(A:az)(n:Nat)(σ:Nat->Nat)(neg:Bool)(k:Nat):Prop where
 lead:∀j,j<=k->det j (fun a b=>A (σ a) b)≠0
 sign:det n (fun a b=>A (σ a) b)=if neg then-det n A else det n A
 row:∀i,i<n->σ i<n
def ma.init(A:az)(n:Nat):ma A n id false 0:=⟨fun j a=>by rw[(om:j=0)];simp[det],sm,fun i h=>h⟩
def ma.swap{neg:Bool}{p:Nat}(h:ma A n σ neg k)(e:k<p)(c:p<n):ma A n (fun a=>σ (dq k p a)) (!neg) k:=by
 refine⟨fun j d=>?_,?_,fun i f=>h.row _ (by unfold dq;split<;>(try split)<;>omega)⟩
 .rw[tR (fun a b=>A (σ a) b) om om];exact h.lead j d
 .rw[yH (fun a b=>A (σ a) b) om c om,h.sign]
  cases neg<;>simp
def ma.step{neg:Bool}(h:ma A n σ neg k)(c:cl (fun a b=>A (σ a) b) k 0 0≠0):ma A n σ neg (k+1) :=
 ⟨fun j e=>by
  rcases aB j (k+1)with d|d
  .exact h.lead j om
  .rw[(om:j=k+1),<-cH];exact c,h.sign,h.row⟩
def ma.zero{neg:Bool}(h:ma A n σ neg k)(d:k<n)(e:∀i,i<n-k->cl (fun a b=>A (σ a) b) k i 0=0):det n A=0:=by
 have c:=Ly d h.lead e;rw[h.sign]at c
 cases neg<;>simp at c<;>omega

structure Pd(A:az)(n:Nat):Prop where
 sym:∀a b,a<n->b<n->A a b=A b a
 pos:∀k,k<=n->0<det k A
def Pd.ne(h:Pd A n){k:Nat}(a:k<=n):∀j,j<=k->det j A≠0:=fun j b=>by have:=h.pos j om;omega
def Pd.stg_sym(h:Pd A n):∀(k i j:Nat),k+i<n->k+j<n->cl A k i j=cl A k j i
 | 0,i,j,b,c=>by rw[eV,eV];exact h.sym i j om om
 | k+1,i,j,b,c=>by
  have ih:=h.stg_sym k;have a:=ie (h.ne (k:=k) om) i j;have d:=ie (h.ne (k:=k) om) j i;rw[ih (i+1) (j+1) om om,ih (i+1) 0 om om,ih 0 (j+1) om om]at a;have e:=h.pos k om;refine cJ (om:det k A≠0) ?_
  rw[<-a,<-d];grind
def Pd.stg_rec(h:Pd A n){k i:Nat}(a:k+i+1<n):det (k+1) A*cl A k (i+1) (i+1)=det k A*cl A (k+1) i i+cl A k (i+1) 0*cl A k (i+1) 0:=by
 have e:=ie (h.ne (k:=k) om) i i;rw[h.stg_sym k 0 (i+1) om om,cH]at e;omega
def Pd.stg_rec2(h:Pd A n){k i j:Nat}(a:k+i+1<n)(b:k+j+1<n):det (k+1) A*cl A k (i+1) (j+1)=det k A*cl A (k+1) i j+cl A k (i+1) 0*cl A k (j+1) 0:=by
 have e:=ie (h.ne (k:=k) om) i j;rw[h.stg_sym k 0 (j+1) om om,cH]at e;omega
def iN(x:Int):0<=x*x:=by
 rcases Int.le_total 0 x with h|h
 .exact cC h h
 .have:=cC (om:0<=-x) (om:0<=-x);rw[qf]at this;exact this
def qv(d:0<a)(h:0<a*b):0<b:=by
 rcases jo 0 b with c|c
 .exact c
 .have:=aT c (a8 d);omega
def Pd.stg_pos(h:Pd A n):∀(i k:Nat),k+i<n->0<cl A k i i
 | 0,k,a=>by rw[cH];exact h.pos _ om
 | i+1,k,a=>by
  have e:=h.stg_rec (k:=k) (i:=i) om;have b:=h.stg_pos i (k+1) om;have d:=jN (h.pos k om) b;have f:=iN (cl A k (i+1) 0);have c:0<det (k+1) A*cl A k (i+1) (i+1):=om
  exact qv (h.pos (k+1) om) c
def Pd.stg_up(h:Pd A n):∀(k i:Nat),k+i<n->cl A k i i<=det k A*A (k+i) (k+i)
 | 0,i,a=>by rw[eV];simp[det]
 | k+1,i,a=>by
  have e:=h.stg_rec (k:=k) (i:=i) om;have ih:=h.stg_up k (i+1) om;have b:=h.pos k om;have c:=h.pos (k+1) om;have d:=iN (cl A k (i+1) 0);have f:=aT ih (a8 c);refine iB ?_ b;rw[(om:k+1+i=k+(i+1))]
  have g:det (k+1) A*(det k A*A (k+(i+1)) (k+(i+1)))=det k A*(det (k+1) A*A (k+(i+1)) (k+(i+1))):=by grind
  omega
def Pd.lam_sq(h:Pd A n){k i:Nat}(a:k+i+1<n):cl A k (i+1) 0*cl A k (i+1) 0<=det (k+1) A*cl A k (i+1) (i+1):=by
 have e:=h.stg_rec (k:=k) (i:=i) om;have b:=jN (h.pos k om) (h.stg_pos i (k+1) om);omega
def Pd.hadamard(h:Pd A n){k:Nat}(a:k<n):det (k+1) A<=det k A*A k k:=by
 have:=h.stg_up k 0 om
 rwa [cH,cB]at this
def MH{m u v:Int}(c:0<a)(d:m*m<=a*b):0<=a*(v*v)+b*(u*u)-2*(m*(u*v)):=by
 have e:a*(a*(v*v)+b*(u*u)-2*(m*(u*v)))=(a*v-m*u)*(a*v-m*u)+(a*b-m*m)*(u*u):=by grind
 have f:=iN (a*v-m*u);have g:=cC (om:0<=a*b-m*m) (iN u)
 exact Int.nonneg_of_mul_nonneg_right om c
def O9{d m u v:Int}(c:0<=d)(e:0<a)(f:m*m<=a*b):(d*m+u*v)*(d*m+u*v)<=(d*a+u*u)*(d*b+v*v):=by
 have g:=MH (u:=u) (v:=v) e f;have h:=cC c g;have i:=cC (cC c c) (om:0<=a*b-m*m)
 have j:(d*a+u*u)*(d*b+v*v)-(d*m+u*v)*(d*m+u*v)=d*d*(a*b-m*m)+d*(a*(v*v)+b*(u*u)-2*(m*(u*v))):=by grind
 omega
def Pd.cs(h:Pd A n):∀(i j k:Nat),k+i<n->k+j<n->cl A k i j*cl A k i j<=cl A k i i*cl A k j j
 | 0,0,k,_,_=>mV _
 | 0,j+1,k,_,b=>by
  rw[h.stg_sym k 0 (j+1) om om,cH];exact h.lam_sq om
 | i+1,0,k,c,_=>by
  rw[cH,bU (cl A k (i+1) (i+1))];exact h.lam_sq om
 | i+1,j+1,k,c,b=>by
  have ih:=h.cs i j (k+1) om om;have d:=h.stg_rec (k:=k) (i:=i) om;have e:=h.stg_rec (k:=k) (i:=j) om;have f:=h.stg_rec2 (k:=k) (i:=i) (j:=j) om om;have g:=h.pos k om;have a:=h.pos (k+1) om;have l:=O9 (u:=cl A k (i+1) 0) (v:=cl A k (j+1) 0) (a8 g) (h.stg_pos i (k+1) om) ih;rw[<-d,<-e,<-f]at l;have m:0<det (k+1) A*det (k+1) A:=jN a a;refine iB ?_ m;have o:det (k+1) A*det (k+1) A*(cl A k (i+1) (j+1)*cl A k (i+1) (j+1))=det (k+1) A*cl A k (i+1) (j+1)*(det (k+1) A*cl A k (i+1) (j+1)):=by grind
  have p:det (k+1) A*det (k+1) A*(cl A k (i+1) (i+1)*cl A k (j+1) (j+1))=det (k+1) A*cl A k (i+1) (i+1)*(det (k+1) A*cl A k (j+1) (j+1)):=by grind
  omega
def Pd.cs0(h:Pd A n){i j:Nat}(a:i<n)(b:j<n):A i j*A i j<=A i i*A j j:=by
 have:=h.cs i j 0 om om;simpa only[eV]using this
def Pd.diag(h:Pd A n){i:Nat}(a:i<n):0<A i i:=by
 have:=h.stg_pos i 0 om
 rwa [eV]at this
def fq(A:az)(i j:Nat):Int:=cl A j (i-j) 0
def ig(A:az)(i j:Nat):Prop:=2*(fq A i j).natAbs<=det (j+1) A
def gS(A:az)(i:Nat):Prop:=3*(det i A*det i A)<=4*(det (i-1) A*det (i+1) A+fq A i (i-1)*fq A i (i-1))
def Om{d:Int}(h:2*(x.natAbs:Int)<=d):x*x<=d*d:=by
 have a:((x.natAbs:Nat):Int)*x.natAbs=x*x:=by rw[<-aV,kd]
 rw[<-a];exact ck om om om om
def oX{d:Int}(h:2*(x.natAbs:Int)<=d):4*(x*x)<=d*d:=by
 have a:((x.natAbs:Nat):Int)*x.natAbs=x*x:=by rw[<-aV,kd]
 have b:(2*(x.natAbs:Int))*(2*x.natAbs)<=d*d:=ck h h om om;have c:(2*(x.natAbs:Int))*(2*x.natAbs)=4*((x.natAbs:Int)*x.natAbs):=by grind
 omega
def Pd.sized_up(h:Pd A n){D:Int}{r:Nat}(f:r<n)(a:∀k,k<=r->det (k+1) A<=D)(c:∀j,j<r->ig A r j):∀(i k:Nat),k+i=r->4*cl A k i i<=det k A*((i+4:Nat)*D)
 | 0,k,g=>by
  rw[cH];have b:=a k om;have l:=h.pos k om;have m:=h.pos (k+1) om;have o:=bK (om:1<=det k A) (om:0<=D)
  have p:det k A*(((0+4:Nat):Int)*D)=4*(det k A*D):=by
   rw[show((0+4:Nat):Int)=4 from rfl];grind
  omega
 | i+1,k,g=>by
  have e:=h.stg_rec (k:=k) (i:=i) om;have ih:=h.sized_up f a c i (k+1) om;have q:=h.pos k om;have b:=h.pos (k+1) om;have d:=oX (c k om);unfold fq at d;rw[(om:r-k=i+1)]at d
  have l:=a k om;have m:=aT ih (a8 q);refine iB ?_ b;have o:det k A*(det (k+1) A*((i+4:Nat)*D))+det (k+1) A*det (k+1) A<=det (k+1) A*(det k A*((i+1+4:Nat)*D)):=by
   have p:det (k+1) A*(det k A*((i+1+4:Nat)*D))=det k A*(det (k+1) A*((i+4:Nat)*D))+det (k+1) A*(det k A*D):=by
    rw[show((i+1+4:Nat):Int)=((i+4:Nat):Int)+1 by omega];grind
   have s:det (k+1) A*det (k+1) A<=det (k+1) A*(det k A*D):=by
    refine aT ?_ (a8 b);have t:=bK (om:1<=det k A) (om:0<=D)
    omega
   omega
  have u:det k A*(4*cl A (k+1) i i)=4*(det k A*cl A (k+1) i i):=by grind
  have v:det (k+1) A*(4*cl A k (i+1) (i+1))=4*(det (k+1) A*cl A k (i+1) (i+1)):=by grind
  omega
def Pd.sized_norm4(h:Pd A n){D:Int}{r:Nat}(a:r<n)(b:∀k,k<=r->det (k+1) A<=D)(c:∀j,j<r->ig A r j):4*A r r<=(r+4:Nat)*D:=by
 have:=h.sized_up a b c r 0 om;rw[eV]at this;simpa [det]using this
def Pd.sized_norm(h:Pd A n){D:Int}{r:Nat}(b:r<n)(a:∀k,k<=r->det (k+1) A<=D)(c:∀j,j<r->ig A r j):A r r<=(r+1:Nat)*D:=by
 have d:=h.sized_norm4 b a c;have e:det 1 A<=D:=a 0 om;have f:=h.pos 1 om;have g:((r+4:Nat):Int)*D<=((4*(r+1):Nat):Int)*D:=bK om om;have i:((4*(r+1):Nat):Int)*D=4*(((r+1:Nat):Int)*D):=by
  rw[aV];grind
 omega

def kf(k c i:Nat):up k (fun _=>c) i=if i<k then i else k+c:=rfl
def j8(A:az)(i j:Nat)(q:Int):az:=fun a b=>A a b+(if a=i then q*A j b else 0)+(if b=i then q*A a j else 0)+(if a=i/\b=i then q*q*A j j else 0)
def lI(A:az){i j a b:Nat}{q:Int}(c:a≠i)(d:b≠i):j8 A i j q a b=A a b:=by simp[j8,c,d]
def uU(A:az){i j b:Nat}{q:Int}(a:b≠i):j8 A i j q i b=A i b+q*A j b:=by simp[j8,a]
def fo(l:j<i)(k:Nat):det k (j8 A i j q)=det k A:=by
 rcases aB i k with c|c
 .have e:=kB A (n:=k) (i:=i) (k:=j) c om om 1 q;have d:=lD (setRow A i (fun b=>1*A i b+q*A j b)) (n:=k) (i:=i) (k:=j) c om om 1 q;rw[e]at d;rw[cU,cU]at d;rw[<-d];refine aZ fun a b _ _=>?_;simp only[j8,a9,setRow];have f:j≠i:=om
  by_cases g:a=i<;>by_cases h:b=i<;>simp[g,h]<;>grind
 .exact aZ fun a b m o=>lI A om om
def mA(d:i'<i)(c:j'<=i'):fq (j8 A i j q) i' j'=fq A i' j':=by
 unfold fq cl;refine aZ fun a b e f=>?_;exact lI A (by rw[kf];split<;>omega) (by rw[kf];split<;>omega)
def rI(l:j<j')(g:j'<i):fq (j8 A i j q) i j'=fq A i j':=by
 have f:=kB (fun a b=>A (up j' (fun _=>i-j') a) (up j' (fun _=>0) b)) (n:=j'+1) (i:=j') (k:=j) om om om 1 q;rw[cU]at f;unfold fq cl;rw[<-f];refine aZ fun a b m o=>?_;simp only[setRow];have c:up j' (fun _=>0) b≠i:=by rw[kf];split<;>omega
 by_cases e:a=j'
 .subst e;have d:up a (fun _=>i-a) a=i:=by rw[kf];rw[ah om];omega
  have h:up a (fun _=>i-a) j=j:=by rw[kf];rw[aj om]
  rw[d,h,uU A c];simp
 .have d:up j' (fun _=>i-j') a=a:=by rw[kf];rw[aj om]
  rw[d,lI A om c,ah e]
def mB(m:j<i):fq (j8 A i j q) i j=fq A i j+q*det (j+1) A:=by
 have g:=oK (fun a b=>A (up j (fun _=>i-j) a) (up j (fun _=>0) b)) (n:=j+1) (i:=j) om 1 q (fun b=>A i (up j (fun _=>0) b)) (fun b=>A j (up j (fun _=>0) b));unfold fq cl;have k:det (j+1) (setRow (fun a b=>A (up j (fun _=>i-j) a) (up j (fun _=>0) b)) j (fun b=>A i (up j (fun _=>0) b)))=det (j+1) (fun a b=>A (up j (fun _=>i-j) a) (up j (fun _=>0) b)):=by
  refine aZ fun a b h d=>?_;simp only[setRow];by_cases e:a=j
  .subst e;rw[aj rfl];congr 1;rw[kf];rw[ah om];omega
  .rw[ah e]
 have l:det (j+1) (setRow (fun a b=>A (up j (fun _=>i-j) a) (up j (fun _=>0) b)) j (fun b=>A j (up j (fun _=>0) b)))=det (j+1) A:=by
  refine aZ fun a b h d=>?_;simp only[setRow];rw[lV j b d];by_cases e:a=j
  .subst e;rw[aj rfl]
  .rw[ah e];congr 1;rw[kf];rw[aj om]
 rw[k,l,cU]at g;rw[<-g];refine aZ fun a b h d=>?_;simp only[setRow];have c:up j (fun _=>0) b≠i:=by rw[kf];split<;>omega
 by_cases e:a=j
 .subst e;have f:up a (fun _=>i-a) a=i:=by rw[kf];rw[ah om];omega
  rw[f,uU A c,aj rfl];simp
 .have f:up j (fun _=>i-j) a=a:=by rw[kf];rw[aj om]
  rw[f,lI A om c,ah e]
def xG(A:az)(i:Nat):az:=fun a b=>A (dq (i-1) i a) (dq (i-1) i b)
def mp(j:0<i)(l:k≠i):det k (xG A i)=det k A:=by
 rcases aB i k with h|h
 .have d:=yH (fun a b=>A a (dq (i-1) i b)) (n:=k) (i:=i-1) (k:=i) om h om;have f:=mo A (n:=k) (i:=i-1) (k:=i) om h om;show det k (fun a b=>(fun a b=>A a (dq (i-1) i b)) (dq (i-1) i a) b)=_;rw[d,f];omega
 .refine aZ fun a b c g=>?_;have e:∀a,a<k->dq (i-1) i a=a:=fun a c=>by unfold dq;rw[ah om,ah om]
  simp only[xG];rw[e a c,e b g]
def mq(f:0<i):det i (xG A i)=cl A (i-1) 1 1:=by
 unfold cl;rw[(om:i-1+1=i)]
 refine aZ fun a b c d=>?_;have e:∀a,a<i->dq (i-1) i a=up (i-1) (fun _=>1) a:=fun a c=>by
  rw[kf];unfold dq;by_cases h:a=i-1
  .rw[aj h,ah om];omega
  .rw[ah h,ah om,aj om]
 simp only[xG];rw[e a c,e b d]
def Pd.swap_lead(h:Pd A n){i:Nat}(a:0<i)(b:i<n):det i A*det i (xG A i)=det (i-1) A*det (i+1) A+fq A i (i-1)*fq A i (i-1):=by
 have e:=h.stg_rec (k:=i-1) (i:=0) om;rw[mq a];unfold fq;rw[(om:i-(i-1)=1)]
 rw[(om:i-1+1=i),aM,cH]at e
 exact e
def Pd.add(h:Pd A n){i j:Nat}{q:Int}(e:j<i)(m:i<n):Pd (j8 A i j q) n:=by
 refine⟨fun a b c d=>?_,fun k f=>by rw[fo e];exact h.pos k f⟩
 have o:=h.sym a b c d;have p:=h.sym j a om c;have r:=h.sym j b om d;simp only[j8];by_cases g:a=i<;>by_cases l:b=i<;>simp[g,l]<;>grind
def Pd.swap(h:Pd A n){i:Nat}(c:0<i)(l:i<n):Pd (xG A i) n:=by
 have d:∀a,a<n->dq (i-1) i a<n:=fun a f=>by unfold dq;split<;>(try split)<;>omega
 refine⟨fun a b f g=>h.sym _ _ (d a f) (d b g),fun k j=>?_⟩;by_cases e:k=i
 .subst e;rw[mq c];exact h.stg_pos 1 (k-1) om
 .rw[mp c e];exact h.pos k j
def BW(h:Pd A n){i:Nat}(b:0<i)(c:i<n)(a:¬gS A i):4*det i (xG A i)<3*det i A:=by
 unfold gS at a;rw[<-h.swap_lead b c]at a;have d:=h.pos i om;have e:det i A*(4*det i (xG A i))<det i A*(3*det i A):=by
  have f:det i A*(4*det i (xG A i))=4*(det i A*det i (xG A i)):=by grind
  have g:det i A*(3*det i A)=3*(det i A*det i A):=by grind
  omega
 exact Int.lt_of_mul_lt_mul_left e (a8 d)
open Classical in
noncomputable def oZ(p:Nat->Prop):Nat->Nat
 | 0=>0
 | w+1=>if (∀c,c<=w->p c)then w+1 else oZ p w
theorem Cj(p:Nat->Prop):∀w,oZ p w<=w
 | 0=>by simp[oZ]
 | w+1=>by have:=Cj p w;simp only[oZ];split<;>omega
theorem wI{p:Nat->Prop}{k:Nat}(h:∀c,c<k->p c):∀w,k<=w->k<=oZ p w
 | 0,a=>om
 | w+1,a=>by
  simp only[oZ];split
  .exact a
  .rename_i d;rcases aB w k with b|b
   .exact absurd (fun c e=>h c om) d
   .exact wI h w b
theorem tp{p:Nat->Prop}{k:Nat}(h:¬p k):∀w,oZ p w<=k
 | 0=>by simp[oZ]
 | w+1=>by
  simp only[oZ];split
  .rename_i b;rcases aB w k with a|a
   .omega
   .exact absurd (b k a) h
  .exact tp h w
def chk(A:az)(n c:Nat):Prop:=(c%(n+1)<c/(n+1)->ig A (c/(n+1)) (c/(n+1)-1-c%(n+1)))/\(c%(n+1)=c/(n+1)->0<c/(n+1)->gS A (c/(n+1)))
def ML(a:t<n+1):(i*(n+1)+t)/(n+1)=i:=by
 rw[aA,jH om,ee a];omega
def MK(a:t<n+1):(i*(n+1)+t)%(n+1)=t:=by
 rw[aA,kL,dT a]
def FE(a:t<n+1):chk A n (i*(n+1)+t)↔(t<i->ig A i (i-1-t))/\(t=i->0<i->gS A i):=by
 unfold chk;rw[ML a,MK a]
def kh(A:az)(i:Nat):Prop:=(∀r,r<i->∀j,j<r->ig A r j)/\∀r,0<r->r<i->gS A r
def Cq(d:kh A i)(f:∀j,i<j+1+t->j<i->ig A i j)(g:t<=i)(k:i<n){c:Nat}(l:c<i*(n+1)+t):chk A n c:=by
 have m:c/(n+1)<=i:=by
  rcases aB i (c/(n+1))with h|h
  .have b:=Nat.div_mul_le_self c (n+1);have a:(i+1)*(n+1)<=c/(n+1)*(n+1):=aq _ h;rw[cj]at a;omega
  .exact h
 rcases aB (c/(n+1)) i with h|h
 .refine⟨fun b=>d.1 _ h _ om,fun b a=>d.2 _ a h⟩
 .have e:c/(n+1)=i:=om
  have b:c%(n+1)<t:=by
   have:=cW c (n+1);rw[e,aA]at this;omega
  unfold chk;rw[e];exact⟨fun a=>f _ om om,fun a=>om⟩

def nZ:Nat->(Nat->Nat)->Nat
 | 0,_=>1
 | n+1,f=>nZ n f*f n
def qu{f:Nat->Nat}(h:∀i,i<n->f i=g i):nZ n f=nZ n g:=by
 induction n with
 | zero=>rfl
 | succ n ih=>simp only[nZ];rw[ih fun i a=>h i om,h n om]
def GI{f:Nat->Nat}(h:∀i,i<n->0<f i):0<nZ n f:=by
 induction n with
 | zero=>simp[nZ]
 | succ n ih=>simp only[nZ];exact yW (ih fun i a=>h i om) (h n om)
def xO{f:Nat->Nat}(d:i<n)(h:∀k,k<n->k≠i->g k=f k)(b:4*g i<=3*f i):4*nZ n g<=3*nZ n f:=by
 induction n with
 | zero=>omega
 | succ n ih =>
  simp only[nZ];rcases aB i n with a|a
  .rw[h n om om,<-bH,<-bH];exact aq _ (ih a fun k c=>h k om)
  .obtain rfl:i=n:=om
   rw[qu (f:=g) (g:=f) fun k c=>h k om om,Te,Te 3];exact aO _ b
def Ge(A:az)(n:Nat):Nat:=nZ n (fun k=>(det k A).toNat)
noncomputable def lP(A:az)(n:Nat):Nat:=oZ (chk A n) (n*(n+1))
noncomputable def wE(A:az)(n:Nat):Nat:=Ge A n*(n*(n+1)+1)+(n*(n+1)-lP A n)
def E3(A:az)(n:Nat):lP A n<=n*(n+1):=Cj _ _
def Pd.pot_pos(h:Pd A n):0<Ge A n:=GI fun k a=>by have:=h.pos k om;omega
def Oa(a:j<i):Ge (j8 A i j q) n=Ge A n:=qu fun k _=>by rw[fo a]
def LP(h:Pd A n)(a:0<i)(b:i<n)(c:¬gS A i):4*Ge (xG A i) n<=3*Ge A n:=by
 refine xO b (fun k _ d=>by rw[mp a d]) ?_
 have e:=BW h a b c;have f:=(h.swap a b).pos i om;omega
def JS(b:j<i)(g:i<n)(k:kh A i)(m:∀j',j<j'->j'<i->ig A i j')(o:¬ig A i j)(p:2*((fq A i j+q*det (j+1) A).natAbs:Int)<=det (j+1) A) :
  lP A n<lP (j8 A i j q) n:=by
 have v:lP A n<=i*(n+1)+(i-1-j):=by
  refine tp ?_ _;rw[FE om];intro h;have:=h.1 om;rw[(om:i-1-(i-1-j)=j)]at this
  exact o this
 have w:i*(n+1)+(i-1-j)+1<=n*(n+1):=by
  have:(i+1)*(n+1)<=n*(n+1):=aq _ g;rw[cj]at this;omega
 have d:kh (j8 A i j q) i:=by
  refine⟨fun r a s e=>?_,fun r t a=>?_⟩
  .have:=k.1 r a s e;unfold ig at *;rw[mA a om,fo b];exact this
  .have:=k.2 r t a;unfold gS at *;rw[mA a om,fo b,fo b,fo b];exact this
 have x:i*(n+1)+(i-j)<=lP (j8 A i j q) n:=by
  refine wI (fun c u=>Cq d (fun j' y l=>?_) om g u) _ om;unfold ig;rw[fo b];rcases aB j j' with f|f
  .rw[rI f l];exact m j' f l
  .obtain rfl:j'=j:=om
   rw[mB b];exact p
 omega
def L3(a:j<i)(b:lP A n<lP (j8 A i j q) n):wE (j8 A i j q) n<wE A n:=by
 unfold wE;rw[Oa a];have c:=E3 (j8 A i j q) n;omega
def J0(h:Pd A n)(a:0<i)(b:i<n)(c:¬gS A i):wE (xG A i) n<wE A n:=by
 unfold wE;have e:=LP h a b c;have f:=h.pot_pos;have d:(Ge (xG A i) n+1)*(n*(n+1)+1)<=Ge A n*(n*(n+1)+1):=aq _ om;rw[cj]at d;omega
def QS{d:Int}(h:2*(x.natAbs:Int)<=d):4*(x*x)<=d*d:=by
 have a:((x.natAbs:Nat):Int)*x.natAbs=x*x:=by rw[<-aV,kd]
 have b:(2*(x.natAbs:Int))*(2*x.natAbs)<=d*d:=ck h h om om;have c:(2*(x.natAbs:Int))*(2*x.natAbs)=4*((x.natAbs:Int)*x.natAbs):=by grind
 omega

def d9{a b:Nat}(h:a<=b):(2:Int)^a<=2^b:=by
 have:=cu (n:=2) om h;have c:((2^a:Nat):Int)<=((2^b:Nat):Int):=kG.2 this;simpa using c

structure Ed(H:az)(n:Nat):Prop where
 pd:Pd H n
 rows:kh H n
 lead:∀k,k<=n->det k H<=64000
def Ed.diag(h:Ed H n)(c:n<=8){i:Nat}(a:i<n):H i i<=176000:=by
 have d:=h.pd.sized_norm4 (D:=64000) a (fun k e=>h.lead (k+1) om) (fun j b=>h.rows.1 i a j b);omega
def rY{B:Int}(b:0<=B)(h:x*x<=B*B):x.natAbs<=B:=by
 rcases jo B x.natAbs with a|a
 .exfalso;have c:(B+1)*(B+1)<=(x.natAbs:Int)*x.natAbs:=ck om om om om;have d:((x.natAbs:Nat):Int)*x.natAbs=x*x:=by rw[<-aV,kd]
  have e:(B+1)*(B+1)=B*B+2*B+1:=by grind
  omega
 .exact a
def Ed.entry(h:Ed H n)(b:n<=8){i j:Nat}(c:i<n)(a:j<n):((H i j).natAbs:Int)<=176000:=by
 have f:=h.pd.cs0 c a;have d:=h.diag b c;have e:=h.diag b a;have g:=ck d e (a8 (h.pd.diag a)) om;exact rY om om
def I3{d:Int}(b:0<d):2*((l+-((2*l+d)/(2*d))*d).natAbs:Int)<=d:=by
 have c:=aW (2*l+d) (om:2*d≠0)
 have e:=aS (2*l+d) (om:0<2*d)
 have f:=dz (2*l+d) (2*d);generalize hq:(2*l+d)/(2*d)=q at *;have g:2*d*q=2*(q*d):=by grind
 have a:-q*d=-(q*d):=by grind
 rw[a];omega

abbrev gP:=Nat->Int
variable{L L':gP->Prop}
def eU(n m:Nat)(B:az)(x:gP):Prop:=∃c:gP,∀i,i<n->x i=ap m (fun j=>B i j*c j)
structure NH(n:Nat)(L:gP->Prop):Prop where
 zero:L (fun _=>0)
 comb:∀x y:gP,L x->L y->∀a b:Int,L (fun i=>a*x i+b*y i)
 ext:∀x y:gP,L x->(∀i,i<n->x i=y i)->L y
def NH.smul(h:NH n L){x:gP}(b:L x)(a:Int):L (fun i=>a*x i) :=
 h.ext _ _ (h.comb x x b b a 0) (fun i _=>by simp)
def NH.add(h:NH n L){x y:gP}(a:L x)(b:L y):L (fun i=>x i+y i) :=
 h.ext _ _ (h.comb x y a b 1 1) (fun i _=>by simp)
def NH.sum(h:NH n L)(C:Nat->gP)(c:gP):∀m,(∀j,j<m->L (C j))->L (fun i=>ap m (fun j=>C j i*c j))
 | 0,_=>h.ext _ _ h.zero (fun i _=>by simp[ap])
 | m+1,a=>h.ext _ _ (h.comb _ _ (h.sum C c m fun j b=>a j om) (a m om) 1 (c m)) (fun i _=>by simp only[ap];grind)
def JJ(m:Nat)(a b:Int)(B:Nat->Int)(c d:gP):ap m (fun j=>B j*(a*c j+b*d j))=a*ap m (fun j=>B j*c j)+b*ap m (fun j=>B j*d j):=by
 rw[<-pq];exact ay fun j _=>by grind
def eU.lat(n m:Nat)(B:az):NH n (eU n m B):=by
 refine⟨⟨fun _=>0,fun i _=>(iQ fun j _=>by simp).symm⟩,?_,?_⟩
 .rintro x y ⟨c,f⟩ ⟨d,g⟩ a b;exact⟨fun j=>a*c j+b*d j,fun i e=>by show a*x i+b*y i=_;rw[f i e,g i e,JJ]⟩
 .rintro x y ⟨c,f⟩ h;exact⟨c,fun i e=>by rw[<-h i e];exact f i e⟩
def eU.col(a:j<m):eU n m B (fun i=>B i j) :=
 ⟨dp j,fun i _=>by
  rw[cF j a (fun k _ b=>by simp[dp,b])];simp[dp]⟩
def eU.sub(a:NH n L)(h:∀j,j<m->L (fun i=>B i j)){x:gP}(b:eU n m B x):L x:=by
 obtain⟨c,d⟩:=b;exact a.ext _ _ (a.sum (fun j i=>B i j) c m h) (fun i e=>(d i e).symm)
def kR(n:Nat)(A B:az):Prop:=(∀x,eU n n A x↔eU n n B x)/\(det n A).natAbs=(det n B).natAbs
def kR.refl(n:Nat)(A:az):kR n A A:=⟨fun _=>Iff.rfl,rfl⟩
def kR.trans{C:az}(h:kR n A B)(k:kR n B C):kR n A C:=⟨fun x=>(h.1 x).trans (k.1 x),h.2.trans k.2⟩
def kR.of(a:∀j,j<n->eU n n A (fun i=>B i j))(b:∀j,j<n->eU n n B (fun i=>A i j))(c:(det n A).natAbs=(det n B).natAbs):kR n A B :=
 ⟨fun _=>⟨eU.sub (eU.lat n n B) b,eU.sub (eU.lat n n A) a⟩,c⟩
def JN(A:az){i k:Nat}(f:i<n)(d:k<n)(a:i≠k)(c:Int):kR n A (a9 A i (fun r=>A r i+c*A r k)):=by
 refine kR.of (fun j b=>?_) (fun j b=>?_) ?_
 .by_cases e:j=i
  .subst e;exact(eU.lat n n A).ext _ _ ((eU.lat n n A).comb _ _ (eU.col b) (eU.col d) 1 c) (fun r _=>by simp[a9])
  .exact(eU.lat n n A).ext _ _ (eU.col b) (fun r _=>by simp[a9,e])
 .by_cases e:j=i
  .subst e;refine(eU.lat n n _).ext _ _ ((eU.lat n n _).comb _ _ (eU.col (j:=j) b) (eU.col (j:=k) d) 1 (-c)) (fun r _=>?_);simp only[a9,aH,ah (ai a)];grind
  .exact(eU.lat n n _).ext _ _ (eU.col (j:=j) b) (fun r _=>by simp[a9,e])
 .have h:=lD A f d a 1 c;rw[cU]at h;rw[<-h];simp only[cU]
def GD(A:az){i k:Nat}(g:i<n)(h:k<n)(d:i≠k):kR n A (fun a b=>A a (dq i k b)):=by
 have f:∀j,j<n->dq i k j<n:=fun j c=>by unfold dq;split<;>(try split)<;>omega
 have e:∀j,dq i k (dq i k j)=j:=fun j=>by unfold dq;grind
 refine kR.of (fun j c=>eU.col (f j c)) (fun j c=>?_) ?_
 .have:=eU.col (n:=n) (B:=fun a b=>A a (dq i k b)) (f j c);simpa only[e]using this
 .rw[mo A g h d];omega
def JO(A:az){i:Nat}(b:i<n):kR n A (a9 A i (fun r=>- A r i)):=by
 refine kR.of (fun j a=>?_) (fun j a=>?_) ?_
 .by_cases e:j=i
  .subst e;exact(eU.lat n n A).ext _ _ ((eU.lat n n A).smul (eU.col a) (-1)) (fun r _=>by simp[a9])
  .exact(eU.lat n n A).ext _ _ (eU.col a) (fun r _=>by simp[a9,e])
 .by_cases e:j=i
  .subst e;exact(eU.lat n n _).ext _ _ ((eU.lat n n _).smul (eU.col (j:=j) a) (-1)) (fun r _=>by simp[a9])
  .exact(eU.lat n n _).ext _ _ (eU.col (j:=j) a) (fun r _=>by simp[a9,e])
 .have h:=m9 A b (-1) 0 (fun r=>A r i) (fun r=>A r i);have e:a9 A i (fun r=>-1*A r i+0*A r i)=a9 A i (fun r=>- A r i):=by congr 1;funext r;omega
  rw[e,ij]at h;omega
def Bu(A:az)(h:∀j,0<j->j<n+1->A 0 j=0):det (n+1) A=A 0 0*det n (fun i j=>A (i+1) (j+1)):=by
 simp only[det];rw[cF 0 om (fun j a b=>by rw[h j om a];simp)]
 simp only[zI,cU];congr 1
 all_goals (first|rfl|(exact aZ fun i j _ _=>by simp[cut,skip]))
def fT:Nat->(Nat->Int)->Int
 | 0,_=>1
 | n+1,f=>f 0*fT n (fun i=>f (i+1))
def wW(n i:Nat)(A:az):Prop:=∀r,r<i->(∀j,r<j->j<n->A r j=0)/\0<A r r
theorem qA{n:Nat}:∀(i:Nat) (A:az),wW (n+i) i A->det (n+i) A=fT i (fun r=>A r r)*det n (fun r j=>A (r+i) (j+i))
 | 0,A,_=>by simp[fT]
 | i+1,A,h=>by
  rw[<-kS,Bu A (fun j a b=>(h 0 om).1 j a om),qA i (fun r j=>A (r+1) (j+1)) (fun r c=>⟨fun j d e=>(h (r+1) om).1 (j+1) om om,(h (r+1) om).2⟩)];simp only[fT];rw[fu];rfl
def wB(h:∀i,i<n->0<f i):0<fT n f:=by
 induction n generalizing f with
 | zero=>simp[fT]
 | succ n ih=>simp only[fT];exact jN (h 0 om) (ih fun i a=>h (i+1) om)
def dR:Nat->(Nat->Int)->Nat
 | 0,_=>0
 | n+1,f=>dR n f+(f n).natAbs
def M3{g:Nat->Int}(b:k<n)(h:∀j,j<n->j≠k->f j=g j)(c:(f k).natAbs<(g k).natAbs):dR n f<dR n g:=by
 induction n with
 | zero=>omega
 | succ n ih =>
  simp only[dR];by_cases e:k=n
  .subst e;have:dR k f=dR k g:=by
    have key:∀m,m<=k->dR m f=dR m g:=by
     intro m
     induction m with
     | zero=>intro _;rfl
     | succ m a=>intro d;simp only[dR];rw[a om,h m om om]
    exact key k (ag _)
   omega
  .rw[h n om (ai e)];have:=ih om (fun j i=>h j om);omega
def Fx(A:az)(h:∀j,j<n+1->A 0 j=0):det (n+1) A=0:=by
 simp only[det];exact iQ fun j a=>by rw[h j a];simp
def NS(G:i<n):∀(m:Nat) (A:az),dR n (fun j=>if i<=j then A i j else 0)=m->wW n i A->det n A≠0->∃B,kR n A B/\wW n (i+1) B:=by
 intro m
 induction m using Nat.strongRecOn with
 | ind m ih =>
  intro A K q L;by_cases z:∃d a,i<=d/\d<n/\i<=a/\a<n/\d≠a/\A i d≠0/\(A i d).natAbs<=(A i a).natAbs
  .obtain⟨d,a,C,u,v,s,t,w,y⟩:=z;have H:=JN A s u (ai t) (-(A i a/A i d));have D:(A i a+-(A i a/A i d)*A i d).natAbs<(A i a).natAbs:=by
    have e:A i a+-(A i a/A i d)*A i d=A i a%A i d:=by
     rw[QJ];grind
    rw[e];have M:=aW (A i a) w;have N:=SN (A i a) w;omega
   have E:wW n i (a9 A a (fun r=>A r a+-(A i a/A i d)*A r d)):=by
    refine fun r o=>⟨fun j g b=>?_,?_⟩
    .by_cases e:j=a
     .subst e;simp only[a9,aH];rw[(q r o).1 j g b,(q r o).1 d om u];simp
     .simp only[a9,e,aI];exact(q r o).1 j g b
    .simp only[a9];rw[ah om];exact(q r o).2
   obtain⟨B,p,f⟩:=ih (dR n (fun j=>if i<=j then a9 A a (fun r=>A r a+-(A i a/A i d)*A r d) i j else 0)) (by
     rw[<-K];refine M3 s (fun j _ g=>?_) ?_
     .simp[a9,g]
     .simp only[v,aH,a9];exact D) _ rfl E (by
     have:=H.2;intro l;rw[l]at this;omega)
   exact⟨B,H.trans p,f⟩
  .have F:∃c,i<=c/\c<n/\A i c≠0:=by
    rcases iM (∃c,i<=c/\c<n/\A i c≠0)with h|h
    .exact h
    .exfalso;refine L ?_;obtain⟨k,rfl⟩:∃k,n=k+1+i:=⟨n-i-1,om⟩
     rw[qA i A q,Fx (n:=k) _ (fun j g=>?_),kH];rcases iM (A (0+i) (j+i)=0)with l|l
     .exact l
     .exact absurd ⟨j+i,om,om,by rw[aM]at l;exact l⟩ h
   obtain⟨c,C,u,v⟩:=F;have I:∀j,i<=j->j<n->j≠c->A i j=0:=by
    intro j s t w;rcases iM (A i j=0)with l|l
    .exact l
    .exfalso;rcases Nat.le_total (A i j).natAbs (A i c).natAbs with y|y
     .exact z ⟨j,c,s,t,C,u,w,l,y⟩
     .exact z ⟨c,j,C,u,s,t,ai w,v,y⟩
   have s:∃B,kR n A B/\wW n i B/\B i i≠0/\∀j,i<j->j<n->B i j=0:=by
    by_cases e:i=c
    .subst e;exact⟨A,kR.refl n A,q,v,fun j g b=>I j om b om⟩
    .refine⟨_,GD A G u e,fun r o=>⟨fun j g b=>?_,?_⟩,?_,fun j g b=>?_⟩
     .have:r<dq i c j/\dq i c j<n:=by unfold dq;split<;>(try split)<;>omega
      exact(q r o).1 _ this.1 this.2
     .have:dq i c r=r:=by unfold dq;rw[ah om,ah om]
      show 0<A r (dq i c r);rw[this];exact(q r o).2
     .show A i (dq i c i)≠0;have:dq i c i=c:=by simp[dq]
      rw[this];exact v
     .show A i (dq i c j)=0;refine I _ ?_ ?_ ?_<;>(unfold dq;split<;>(try split)<;>omega)
   obtain⟨B,p,f,O,x⟩:=s;rcases jo 0 (B i i)with t|t
   .refine⟨B,p,fun r o=>?_⟩;by_cases e:r=i
    .subst e;exact⟨x,t⟩
    .exact f r om
   .refine⟨_,p.trans (JO B G),fun r o=>⟨fun j g b=>?_,?_⟩⟩
    .simp only[a9];by_cases e:r=i
     .subst e;rw[ah om];exact x j g b
     .by_cases J:j=i
      .subst J;rw[aj rfl,(f r om).1 j g b];rfl
      .rw[ah J];exact(f r om).1 j g b
    .simp only[a9];by_cases e:r=i
     .subst e;rw[aj rfl];omega
     .rw[ah e];exact(f r om).2
def Gr(A:az)(f:det n A≠0):∃B,kR n A B/\wW n n B:=by
 have key:∀i,i<=n->∃B,kR n A B/\wW n i B:=by
  intro i
  induction i with
  | zero=>intro _;exact⟨A,kR.refl n A,fun r g=>om⟩
  | succ i ih =>
   intro h;obtain⟨B,a,b⟩:=ih om;obtain⟨C,c,d⟩:=NS om _ B rfl b (by have:=a.2;intro e;rw[e]at this;omega)
   exact⟨C,a.trans c,d⟩
 exact key n (ag _)
def Lr(h:kR n A B)(b:wW n n B):((det n A).natAbs:Int)=fT n (fun r=>B r r):=by
 have a:=qA (n:=0) n B (by rw[aM];exact b)
 rw[aM]at a;simp only[det,iw]at a;have d:=wB (n:=n) (f:=fun r=>B r r) (fun r c=>(b r c).2);rw[h.2,a];omega

def bz(x y:Nat):Int×Int×Int :=
 if h:y=0 then(x,1,0)else
  have:x%y<y:=di _ (gI h)
  ((bz y (x%y)).1,(bz y (x%y)).2.2,(bz y (x%y)).2.1-((x/y:Nat):Int)*(bz y (x%y)).2.2)
termination_by y
def nd(x:Nat):bz x 0=((x:Int),1,0):=by rw[bz];simp
def sk(x:Nat){y:Nat}(h:y≠0):bz x y=((bz y (x%y)).1,(bz y (x%y)).2.2,(bz y (x%y)).2.1-((x/y:Nat):Int)*(bz y (x%y)).2.2):=by
 rw[bz];simp[h]
def DS:∀(n x y:Nat),y<=n->(bz x y).1=(bz x y).2.1*x+(bz x y).2.2*y:=by
 intro n
 induction n with
 | zero=>intro x y h;rw[(om:y=0),nd];simp
 | succ n ih =>
  intro x y h;by_cases a:y=0
  .rw[a,nd];simp
  .have b:=ih y (x%y) (by have:=di x (gI a);omega)
   rw[sk x a];simp only;rw[b];have e:(x:Int)=((x/y:Nat):Int)*y+((x%y:Nat):Int):=by
    have:=cW x y;rw[aA]at this
    exact_mod_cast this.symm
   generalize ((x/y:Nat):Int)=q at *;generalize ((x%y:Nat):Int)=r at *;rw[e];grind
def DT:∀(n x y:Nat),y<=n->(bz x y).1∣(x:Int)/\(bz x y).1∣(y:Int):=by
 intro n
 induction n with
 | zero=>intro x y h;rw[(om:y=0),nd];exact⟨iL _,jp _⟩
 | succ n ih =>
  intro x y h;by_cases a:y=0
  .rw[a,nd];exact⟨iL _,jp _⟩
  .have b:=ih y (x%y) (by have:=di x (gI a);omega)
   rw[sk x a];refine⟨?_,b.1⟩;have e:(x:Int)=(y:Int)*((x/y:Nat):Int)+((x%y:Nat):Int):=by exact_mod_cast (cW x y).symm
   rw[e];exact gO (eJ b.1) b.2
def AC:∀(n x y:Nat),y<=n->(0<x∨0<y)->0<(bz x y).1/\(bz x y).1<=max x y:=by
 intro n
 induction n with
 | zero=>intro x y h h';rw[(om:y=0),nd];simp only;omega
 | succ n ih =>
  intro x y h h';by_cases a:y=0
  .rw[a,nd];simp only;omega
  .have b:=di x (gI a);have c:=ih y (x%y) om om;rw[sk x a];simp only;omega
def MQ:∀(n x y:Nat),y<=n->0<y->((bz x y).2.1).natAbs<=y/\((bz x y).2.2).natAbs<=max 1 x:=by
 intro n
 induction n with
 | zero=>intro x y h h';omega
 | succ n ih =>
  intro x y h h';have b:=di x h';rw[sk x om];simp only;by_cases a:x%y=0
  .rw[a,nd];simp only;omega
  .have c:=ih y (x%y) om om;have e:=cW x y;have d:(((x/y:Nat):Int)*(bz y (x%y)).2.2).natAbs<=x/y*y:=by
    rw[cP,fH];exact aO _ om
   rw[aA]at e;omega
structure K8(x0 y0 x y:Nat)(a b na nb:Int):Prop where
 fa:a*(bz x y).2.1+na*(bz x y).2.2=(bz x0 y0).2.1
 fb:b*(bz x y).2.1+nb*(bz x y).2.2=(bz x0 y0).2.2
 fd:(bz x y).1=(bz x0 y0).1
 pos:0<x∨0<y
 sa:na.natAbs*x+a.natAbs*y=y0
 sb:nb.natAbs*x+b.natAbs*y=x0
 ga:(0<=a/\na<=0)∨(a<=0/\0<=na)
 gb:(0<=b/\nb<=0)∨(b<=0/\0<=nb)
 la:a.natAbs<=max 1 y0
 lb:b.natAbs<=max 1 x0
 lna:na.natAbs<=max 1 y0
 lnb:nb.natAbs<=max 1 x0
 lx:x<=max x0 y0
 ly:y<=max x0 y0
def K8.init(h:0<x0∨0<y0):K8 x0 y0 x0 y0 1 0 0 1:=by
 refine⟨sm,sm,rfl,h,sm,sm,sm,sm,by simp;omega,sm,sm,by simp;omega,om,om⟩
def qx(c:0<=q)(h:(0<=a/\b<=0)∨(a<=0/\0<=b)):(a-q*b).natAbs=a.natAbs+q.natAbs*b.natAbs/\((0<=b/\a-q*b<=0)∨(b<=0/\0<=a-q*b)):=by
 rcases h with⟨f,d⟩|⟨f,d⟩
 .have e:0<=q*(-b):=cC c om;rw[mU]at e;rw[<-cP];omega
 .have e:0<=q*b:=cC c d;rw[<-cP];omega
def K8.step{x y:Nat}{nb:Int}(h:K8 x0 y0 x y a b na nb)(j:y≠0):K8 x0 y0 y (x%y) na nb (a-((x/y:Nat):Int)*na) (b-((x/y:Nat):Int)*nb):=by
 have e:=cW x y;have f:=sk x j;have g:=qx (q:=((x/y:Nat):Int)) (cO _) h.ga;have i:=qx (q:=((x/y:Nat):Int)) (cO _) h.gb;rw[fH]at g i;have sa:(a-((x/y:Nat):Int)*na).natAbs*y+na.natAbs*(x%y)=y0:=by
  rw[g.1];have:=h.sa;generalize x/y=q at *;generalize x%y=r at *;subst e;rw[<-this];grind
 have sb:(b-((x/y:Nat):Int)*nb).natAbs*y+nb.natAbs*(x%y)=x0:=by
  rw[i.1];have:=h.sb;generalize x/y=q at *;generalize x%y=r at *;subst e;rw[<-this];grind
 have k:∀c d:Nat,c*y+d=y0->c<=y0:=fun c d h=>by
  have:c*1<=c*y:=aO _ om;omega
 have l:∀c d:Nat,c*y+d=x0->c<=x0:=fun c d h=>by
  have:c*1<=c*y:=aO _ om;omega
 refine⟨?_,?_,?_,a6 om,sa,sb,g.2,i.2,h.lna,h.lnb,by have:=k _ _ sa;omega,by have:=l _ _ sb;omega,h.ly,by have:=h.ly;have:=di x (gI j);omega⟩
 .have:=h.fa;rw[f]at this;simp only at this;rw[<-this];grind
 .have:=h.fb;rw[f]at this;simp only at this;rw[<-this];grind
 .have:=h.fd;rw[f]at this;exact this
def K8.fin{x:Nat}{nb:Int}(h:K8 x0 y0 x 0 a b na nb):bz x0 y0=((x:Int),a,b):=by
 have c:=h.fa;have d:=h.fb;have e:=h.fd;rw[nd]at c d e;simp only at c d e;ext<;>simp only<;>omega

def oM(P:Prop):∃β:Bool,(β=true↔P):=by
 rcases iM P with h|h
 .exact⟨true,by simp[h]⟩
 .exact⟨false,by simp[h]⟩
def dC{P:Prop}(h:β=true↔P)(a:¬P):β=false:=by
 cases β with
 | false=>rfl
 | true=>exact absurd (h.1 rfl) a
def tH(p:Nat):Prop:=2<=p/\∀d,2<=d->d*d<=p->¬p%d=0
def tH.div{p:Nat}(a:tH p)(h:d∣p):d=1∨d=p:=by
 obtain⟨e,rfl⟩:=h;have g:=a.1;rcases (om:d=0∨d=1∨2<=d)with rfl|rfl|c
 .omega
 .exact a6 rfl
 .rcases (om:e=0∨e=1∨2<=e)with rfl|rfl|f
  .omega
  .exact aQ om
  .exfalso;rcases Nat.le_total d e with b|b
   .exact a.2 d c (aO d b) (Nat.mul_mod_right d e)
   .exact a.2 e f (aq e b) (Nat.mul_mod_left d e)
def tH.gcd{p a:Nat}(c:tH p)(h:¬p∣a):(bz p a).1=1:=by
 obtain⟨g,i⟩:=DT a p a (ag a);have d:=(AC a p a (ag a) (a6 (by have:=c.1;omega))).1
 have e:=jA.2 g;have b:=jA.2 i;rw[fH]at e b;rcases c.div e with f|f
 .omega
 .rw[f]at b;exact absurd b h
def lp(p a:Int):Int:=(bz p.toNat (a%p).toNat).2.2%p
def tH.gcd'{p:Nat}(b:tH p)(h:¬(p:Int)∣a):(bz (p:Int).toNat (a%p).toNat).1=1:=by
 have g:=b.1;have c:=aW a (show(p:Int)≠0 by omega)
 have d:(((a%p).toNat:Nat):Int)=a%p:=c9 c;rw[cR];exact b.gcd (a:=(a%p).toNat) (fun e=>h (dF (by
  have:=Int.natCast_dvd_natCast.2 e;rw[d]at this;have f:=cM this
  rwa [Int.emod_emod]at f)))
def tH.inv{p:Nat}(b:tH p)(h:¬(p:Int)∣a):(p:Int)∣a*lp p a-1:=by
 have j:=b.1;have d:=aW a (show(p:Int)≠0 by omega)
 have e:(((a%p).toNat:Nat):Int)=a%p:=c9 d;have c:=b.gcd' h;rw[cR]at c;have f:=DS (a%p).toNat p (a%p).toNat (ag _);rw[c,e]at f;unfold lp;rw[cR];generalize (bz p (a%p).toNat).2.1=u at *;generalize (bz p (a%p).toNat).2.2=w at *;have g:=dz a p;have i:=dz w p;refine⟨a/p*(w%p)-(a%p)*(w/p)-u,?_⟩;generalize a%(p:Int)=r at *;generalize a/(p:Int)=q at *;generalize w%(p:Int)=s at *;generalize w/(p:Int)=t at *;subst g;subst i
 grind
def tH.inv1{p:Nat}(b:tH p)(h:¬(p:Int)∣a):(a%p*lp p a)%p=1:=by
 obtain⟨c,d⟩:=b.inv h;have e:=b.1;rw[eZ,Int.emod_emod,<-eZ,(om:a*lp p a=1+p*c),qW]
 exact dv om om
def tH.mul{p:Nat}(g:tH p)(a b:Int)(h:(p:Int)∣a*b):(p:Int)∣a∨(p:Int)∣b:=by
 by_cases e:(p:Int)∣a
 .exact a6 e
 .obtain⟨c,k⟩:=g.inv e;obtain⟨d,i⟩:=h;refine aQ ⟨lp p a*d-c*b,?_⟩;generalize lp p a=u at *;have j:a*u*b=b+p*c*b:=by rw[(om:a*u=1+p*c)];grind
  have f:a*u*b=u*(a*b):=by grind
  rw[i]at f;rw[j]at f;rw[mT];have l:u*(↑p*d)=↑p*(u*d):=by grind
  have m:↑p*(c*b)=↑p*c*b:=by grind
  omega
def pB(b:0<p)(a:Int):0<=lp p a/\lp p a<p:=⟨aW _ om,aS _ om⟩
def nI(p:Nat):Prop:=tH p/\3<=p/\p<=9973
def nI.odd{p:Nat}(h:nI p):p%2=1:=by
 have b:=h.2.1;rcases aB p 4 with a|a
 .omega
 .have:=h.1.2 2 om om;omega

def C2{p:Nat}(l:∀a b,a<c->b<c->A' a b=A a b)(m:∀a,a<c->A' a (c+j)=A a (c+j))
  (o:∀b,b<c->A' (c+i) b=x*A (c+p) b+y*A (c+r) b) (q:A' (c+i) (c+j)=x*A (c+p) (c+j)+y*A (c+r) (c+j)):cl A' c i j=x*cl A c p j+y*cl A c r j:=by
 have d:∀(z b:Nat),b<c->up c (fun _=>z) b=b:=fun z b g=>by rw[kf,aj g]
 have f:∀z,up c (fun _=>z) c=c+z:=fun z=>by rw[kf,ah om]
 have h:=oK (fun a b=>A (up c (fun _=>p) a) (up c (fun _=>j) b)) (n:=c+1) (i:=c) om x y (fun b=>A (c+p) (up c (fun _=>j) b)) (fun b=>A (c+r) (up c (fun _=>j) b));have e:∀(z:Nat),det (c+1) (setRow (fun a b=>A (up c (fun _=>p) a) (up c (fun _=>j) b)) c (fun b=>A (c+z) (up c (fun _=>j) b)))=cl A c z j:=fun z=>by
  unfold cl;refine aZ fun a b s g=>?_;simp only[setRow];by_cases e:a=c
  .subst e;rw[aj rfl,f]
  .rw[ah e,d _ a om,d _ a om]
 rw[e,e]at h;rw[<-h];unfold cl;refine aZ fun a b s g=>?_;simp only[setRow];by_cases e:a=c
 .subst e;rw[aj rfl,f];by_cases k:b=a
  .subst k;rw[f];exact q
  .rw[d _ b om];exact o b om
 .rw[ah e,d _ a om,d _ a om];by_cases k:b=c
  .subst k;rw[f];exact m a om
  .rw[d _ b om];exact l a b om om
def IC{p:Nat}(l:∀a b,a<c->b<c->A' a b=A a b)(m:∀b,b<c->A' (c+i) b=A (c+i) b)
  (o:∀a,a<c->A' a (c+j)=x*A a (c+p)+y*A a (c+r)) (q:A' (c+i) (c+j)=x*A (c+i) (c+p)+y*A (c+i) (c+r)):cl A' c i j=x*cl A c i p+y*cl A c i r:=by
 have d:∀(z b:Nat),b<c->up c (fun _=>z) b=b:=fun z b g=>by rw[kf,aj g]
 have f:∀z,up c (fun _=>z) c=c+z:=fun z=>by rw[kf,ah om]
 have h:=m9 (fun a b=>A (up c (fun _=>i) a) (up c (fun _=>p) b)) (n:=c+1) (c:=c) om x y (fun a=>A (up c (fun _=>i) a) (c+p)) (fun a=>A (up c (fun _=>i) a) (c+r));have e:∀(z:Nat),det (c+1) (a9 (fun a b=>A (up c (fun _=>i) a) (up c (fun _=>p) b)) c (fun a=>A (up c (fun _=>i) a) (c+z)))=cl A c i z:=fun z=>by
  unfold cl;refine aZ fun a b s g=>?_;simp only[a9];by_cases e:b=c
  .subst e;rw[aj rfl,f z]
  .rw[ah e,d _ b om,d _ b om]
 rw[e,e]at h;rw[<-h];unfold cl;refine aZ fun a b s g=>?_;simp only[a9];by_cases e:b=c
 .subst e;rw[aj rfl,f];by_cases k:a=b
  .subst k;rw[f];exact q
  .rw[d _ a om];exact o a om
 .rw[ah e,d _ b om,d _ b om];by_cases k:a=c
  .subst k;rw[f];exact m b om
  .rw[d _ a om];exact l a b om om
def D0(f:j<i)(g:c<j):fq (j8 A i j q) i c=fq A i c+q*fq A j c:=by
 unfold fq;have h:=C2 (A:=A) (A':=j8 A i j q) (c:=c) (i:=i-c) (j:=0) (p:=i-c) (r:=j-c) (x:=1) (y:=q) (fun a b d e=>lI A om om) (fun a d=>lI A om om)
  (fun b e=>by rw[(om:c+(i-c)=i),(om:c+(j-c)=j),uU A om,cU])
  (by rw[(om:c+(i-c)=i),(om:c+(j-c)=j),uU A om,cU])
 rw[h,cU]
def ya(w:j<i)(x:i<i')(y:c<i'):fq (j8 A i j q) i' c=fq A i' c:=by
 have p:∀(z b:Nat),b<c->up c (fun _=>z) b=b:=fun z b g=>by rw[kf,aj g]
 have l:∀z,up c (fun _=>z) c=c+z:=fun z=>by rw[kf,ah om]
 have d:∀b,b<c+1->up c (fun _=>0) b=b:=fun b g=>lV c b g;unfold fq cl;rcases c8 c i with h|h|h
 .refine aZ fun a b o g=>?_;rw[d b g];refine lI A ?_ om;by_cases e:a=c
  .subst e;rw[l];omega
  .rw[p _ a om];omega
 .subst h;have m:=lD (fun a b=>A (up c (fun _=>i'-c) a) (up c (fun _=>0) b)) (n:=c+1) (i:=c) (k:=j) om om om 1 q;rw[cU]at m;rw[<-m];refine aZ fun a b o g=>?_;have f:up c (fun _=>i'-c) a≠c:=by
   by_cases e:a=c
   .subst e;rw[l];omega
   .rw[p _ a om];exact e
  simp only[a9];by_cases e:b=c
  .subst e;rw[aj rfl,d b om,d j om];simp[j8,f]
  .rw[ah e,d b g];exact lI A f e
 .have t:=kB (fun a b=>A (up c (fun _=>i'-c) a) (up c (fun _=>0) b)) (n:=c+1) (i:=i) (k:=j) om om om 1 q;have m:=lD (setRow (fun a b=>A (up c (fun _=>i'-c) a) (up c (fun _=>0) b)) i (fun b=>1*A (up c (fun _=>i'-c) i) (up c (fun _=>0) b)+q*A (up c (fun _=>i'-c) j) (up c (fun _=>0) b))) (n:=c+1) (i:=i) (k:=j) om om om 1 q;rw[t]at m;rw[cU,cU]at m;rw[<-m];refine aZ fun a b o g=>?_;have f:∀a,a<c->up c (fun _=>i'-c) a=a:=fun a o=>p _ a o;simp only[a9,setRow];rw[d b g,d i om,d j om,f i om,f j om];have u:j≠i:=om
  by_cases e:a=i
  .subst e;rw[f a om];by_cases r:b=a<;>simp[j8,r]<;>grind
  .have s:up c (fun _=>i'-c) a≠i:=by
    by_cases v:a=c
    .subst v;rw[l];omega
    .rw[f a om];exact e
   by_cases r:b=i<;>simp[j8,r,s,e]<;>grind
def Gu(p:0<k)(q:k<c)(r:c<i):fq (xG A k) i c=fq A i c:=by
 have d:∀b,b<c+1->up c (fun _=>0) b=b:=fun b f=>lV c b f;unfold fq cl;have j:=yH (fun a b=>A (up c (fun _=>i-c) a) (dq (k-1) k b)) (n:=c+1) (i:=k-1) (k:=k) om om om;have l:=mo (fun a b=>A (up c (fun _=>i-c) a) b) (n:=c+1) (i:=k-1) (k:=k) om om om;rw[l,yZ]at j;have m:det (c+1) (fun a b=>A (up c (fun _=>i-c) a) (up c (fun _=>0) b))=det (c+1) (fun a b=>A (up c (fun _=>i-c) a) b):=aZ fun a b o f=>by rw[d b f]
 rw[m,<-j];refine aZ fun a b o f=>?_;simp only[xG];rw[d b f];congr 1;by_cases e:a=c
 .subst e;have g:up a (fun _=>i-a) a=i:=by rw[kf,ah om];omega
  have h:dq (k-1) k a=a:=by unfold dq;rw[ah om,ah om]
  rw[h,g];unfold dq;rw[ah om,ah om]
 .have g:up c (fun _=>i-c) a=a:=by rw[kf,aj om]
  have h:dq (k-1) k a<c:=by unfold dq;split<;>(try split)<;>omega
  rw[g,kf,aj h]
def ip(A:az)(k:Nat)(f0 f1 s0 s1:Int):az:=fun a b=>if a=k-1 then f0*A (k-1) b+f1*A k b else if a=k then s0*A (k-1) b+s1*A k b else A a b
def je(A:az)(k:Nat)(f0 f1 s0 s1:Int):az:=fun a b=>ip (fun b a=>ip A k f0 f1 s0 s1 a b) k f0 f1 s0 s1 b a
def pK:je A k 1 0 0 1=A:=by
 funext a b;simp only[je,ip]
 grind
def kQ(A:az){k a b:Nat}{f0 f1 s0 s1:Int}(c:a≠k-1)(d:a≠k)(e:b≠k-1)(f:b≠k):je A k f0 f1 s0 s1 a b=A a b:=by simp[je,ip,c,d,e,f]
def pJ{s0 s1:Int}(h:0<k):xG (je A k f0 f1 s0 s1) k=je A k s0 s1 f0 f1:=by
 funext a b;have c:k≠k-1:=om
 simp only[xG,je,ip,dq];by_cases d:a=k-1<;>by_cases e:a=k<;>by_cases f:b=k-1<;>by_cases g:b=k<;>simp[d,e,f,g,c,ai c]<;>first|omega|grind
def MS{s0 s1:Int}(h:0<k):j8 (je A k f0 f1 s0 s1) k (k-1) q=je A k f0 f1 (s0+q*f0) (s1+q*f1):=by
 funext a b;have c:k≠k-1:=om
 simp only[j8,je,ip];by_cases d:a=k-1<;>by_cases e:a=k<;>by_cases f:b=k-1<;>by_cases g:b=k<;>simp[d,e,f,g,c,ai c]<;>first|omega|grind

def FH{s0 s1:Int}(h:c<k-1):fq (je A k f0 f1 s0 s1) (k-1) c=f0*fq A (k-1) c+f1*fq A k c:=by
 unfold fq;have f:k≠k-1:=om
 have d:∀b,b<k-1->je A k f0 f1 s0 s1 (k-1) b=f0*A (k-1) b+f1*A k b:=fun b e=>by
  simp[je,ip,(om:b≠k-1),(om:b≠k)]
 refine C2 (A:=A) (fun a b g e=>kQ A om om om om) (fun a g=>kQ A om om om om) (fun b e=>?_) ?_
 .rw[(om:c+(k-1-c)=k-1),(om:c+(k-c)=k)];exact d b om
 .rw[(om:c+(k-1-c)=k-1),(om:c+(k-c)=k)];exact d (c+0) om
def FG{s0 s1:Int}(h:c<k-1):fq (je A k f0 f1 s0 s1) k c=s0*fq A (k-1) c+s1*fq A k c:=by
 unfold fq;have d:k≠k-1:=om
 have e:∀b,b<k-1->je A k f0 f1 s0 s1 k b=s0*A (k-1) b+s1*A k b:=fun b f=>by
  simp[je,ip,(om:b≠k-1),(om:b≠k),d]
 refine C2 (A:=A) (fun a b g f=>kQ A om om om om) (fun a g=>kQ A om om om om) (fun b f=>?_) ?_
 .rw[(om:c+(k-1-c)=k-1),(om:c+(k-c)=k)];exact e b om
 .rw[(om:c+(k-1-c)=k-1),(om:c+(k-c)=k)];exact e (c+0) om
def RC{s0 s1:Int}(l:0<k)(m:k<i) :
  cl (je A k f0 f1 s0 s1) (k-1) (i-(k-1)) 0=f0*cl A (k-1) (i-(k-1)) 0+f1*cl A (k-1) (i-(k-1)) 1 /\
  cl (je A k f0 f1 s0 s1) (k-1) (i-(k-1)) 1=s0*cl A (k-1) (i-(k-1)) 0+s1*cl A (k-1) (i-(k-1)) 1:=by
 have e:k≠k-1:=om
 have c:∀a,a≠k-1->a≠k->je A k f0 f1 s0 s1 a (k-1)=f0*A a (k-1)+f1*A a k:=fun a f g=>by
  simp[je,ip,f,g]
 have d:∀a,a≠k-1->a≠k->je A k f0 f1 s0 s1 a k=s0*A a (k-1)+s1*A a k:=fun a f g=>by
  simp[je,ip,f,g,e]
 constructor
 .refine IC (A:=A) (fun a b h j=>kQ A om om om om) (fun b j=>kQ A om om om om) (fun a h=>?_) ?_
  .rw[(om:k-1+1=k),cB];exact c a om om
  .rw[(om:k-1+1=k),cB];exact c _ om om
 .refine IC (A:=A) (fun a b h j=>kQ A om om om om) (fun b j=>kQ A om om om om) (fun a h=>?_) ?_
  .rw[(om:k-1+1=k),cB];exact d a om om
  .rw[(om:k-1+1=k),cB];exact d _ om om
def Pd.lam_up(h:Pd A n){k i:Nat}(b:0<k)(c:k<i)(d:i<n) :
  det (k-1) A*fq A i k=det k A*cl A (k-1) (i-(k-1)) 1-cl A (k-1) (i-(k-1)) 0*fq A k (k-1):=by
 have e:=ie (A:=A) (k:=k-1) (h.ne om) (i-k) 0;have a:=h.stg_sym (k-1) 0 1 om om;rw[cH,(om:k-1+1=k),aM,(om:i-k+1=i-(k-1)),a]at e
 unfold fq;rw[(om:k-(k-1)=1)]
 exact e.symm
structure pS(A:az)(n k:Nat)(f0 f1 s0 s1 a b c:Int):Prop where
 pd:Pd (je A k f0 f1 s0 s1) n
 pa:det k (je A k f0 f1 s0 s1)=a
 pb:fq (je A k f0 f1 s0 s1) k (k-1)=b
 pc:cl (je A k f0 f1 s0 s1) (k-1) 1 1=c
 pu:(f0*s1-f1*s0)*(f0*s1-f1*s0)=1
 lead:∀m,m≠k->det m (je A k f0 f1 s0 s1)=det m A
 up:∀i j,k<j->j<i->fq (je A k f0 f1 s0 s1) i j=fq A i j
 ac:a*c-b*b=det (k-1) A*det (k+1) A
def pS.init(h:Pd A n)(a:0<k)(b:k<n):pS A n k 1 0 0 1 (det k A) (fq A k (k-1)) (cl A (k-1) 1 1):=by
 have e:=h.swap_lead a b;rw[mq a]at e;refine⟨by rw[pK];exact h,by rw[pK],by rw[pK],by rw[pK],om,fun m _=>by rw[pK],fun i c _ _=>by rw[pK],om⟩
def JH(h:Pd A n)(r:0<k)(s:k<n):fq (xG A k) k (k-1)=fq A k (k-1)/\cl (xG A k) (k-1) 1 1=det k A:=by
 have d:∀a,a<k-1->dq (k-1) k a=a:=fun a f=>by unfold dq;rw[ah om,ah om]
 have l:dq (k-1) k (k-1)=k:=by unfold dq;rw[aj rfl]
 have m:dq (k-1) k k=k-1:=by unfold dq;rw[ah om,aj rfl]
 have g:∀(z a:Nat),z<=1->a<k->dq (k-1) k (up (k-1) (fun _=>z) a)=up (k-1) (fun _=>1-z) a:=fun z a t f=>by
  by_cases e:a=k-1
  .subst e;rw[kf,ah om,kf,ah om];rcases (om:z=0∨z=1)with rfl|rfl
   .rw[cB,l];omega
   .rw[(om:k-1+1=k),m];omega
  .rw[kf,aj om,kf,aj om];exact d a om
 have c:∀i j,i<=1->j<=1->cl (xG A k) (k-1) i j=cl A (k-1) (1-i) (1-j):=fun i j o p=>by
  unfold cl;refine aZ fun a b f u=>?_;simp only[xG];rw[g i a o om,g j b p om]
 have q:=h.stg_sym (k-1) 0 1 om om;unfold fq;rw[(om:k-(k-1)=1),c 1 0 om om,c 1 1 om om]
 refine⟨q,?_⟩;rw[bR,cH,(om:k-1+1=k)]
def pS.swap{s0 s1 c:Int}(h:pS A n k f0 f1 s0 s1 a b c)(d:0<k)(f:k<n):pS A n k s0 s1 f0 f1 c b a:=by
 have e:=JH h.pd d f;rw[pJ d]at e;have g:=mq (A:=je A k f0 f1 s0 s1) d;rw[pJ d]at g;have j:=h.pd.swap d f;rw[pJ d]at j;refine⟨j,g.trans h.pc,e.1.trans h.pb,e.2.trans h.pa,?_,fun m l=>?_,fun i c o p=>?_,?_⟩
 .have:=h.pu;grind
 .rw[<-pJ d,mp d l];exact h.lead m l
 .rw[<-pJ d,Gu d o p];exact h.up i c o p
 .have:=h.ac;grind
def Hw(h:Pd A n)(a:0<k)(b:k<n):cl (j8 A k (k-1) q) (k-1) 1 1=cl A (k-1) 1 1+2*(q*fq A k (k-1))+q*q*det k A:=by
 have f:=h.stg_sym (k-1) 0 1 om om;have g:=h.pos (k-1) om;have d:=h.pos k om;have e:=h.swap_lead a b;have c:=(h.add (q:=q) (om:k-1<k) b).swap_lead a b
 rw[mq a]at e c;rw[fo om,fo om,fo om,mB om,(om:k-1+1=k)]at c
 refine cJ (om:det k A≠0) ?_
 rw[c]
 grind
def pS.sub{s0 s1 c:Int}(h:pS A n k f0 f1 s0 s1 a b c)(q:Int)(g:0<k)(l:k<n):pS A n k f0 f1 (s0-q*f0) (s1-q*f1) a (b-q*a) (c-q*(b+(b-q*a))):=by
 have d:j8 (je A k f0 f1 s0 s1) k (k-1) (-q)=je A k f0 f1 (s0-q*f0) (s1-q*f1):=by
  rw[MS g];congr 1<;>grind
 have f:=mB (A:=je A k f0 f1 s0 s1) (i:=k) (j:=k-1) (q:=-q) om;have e:=Hw (q:=-q) h.pd g l;rw[d]at f e;rw[(om:k-1+1=k),h.pb,h.pa]at f
 rw[h.pc,h.pb,h.pa]at e;refine⟨?_,?_,by rw[f];grind,by rw[e];grind,?_,fun m p=>?_,fun i c e o=>?_,?_⟩
 .rw[<-d];exact h.pd.add om l
 .rw[<-d,fo om];exact h.pa
 .have:=h.pu;grind
 .rw[<-d,fo om];exact h.lead m p
 .rw[<-d,ya om om o];exact h.up i c e o
 .have:=h.ac;grind

def iG(n:Nat)(f:Nat->Int):ap (n+1) f=f 0+ap n (fun j=>f (j+1)):=by
 induction n with
 | zero=>simp[ap]
 | succ n ih=>rw[ap,ih];simp only[ap];omega
def jf(a:∀i,i<n->h∣f i):h∣ap n f:=by
 induction n with
 | zero=>exact jp _
 | succ n ih=>simp only[ap];exact gO (ih fun i b=>a i om) (a n om)
def lj(n:Nat)(f g:Nat->Int):ap n (fun i=>f i-g i)=ap n f-ap n g:=by
 induction n with
 | zero=>rfl
 | succ n ih=>simp only[ap];rw[ih];omega
def wl(n:Nat)(f:Nat->Int):ap n (fun i=>- f i)=- ap n f:=by
 induction n with
 | zero=>rfl
 | succ n ih=>simp only[ap];rw[ih];omega
def EH(n:Nat)(c:Int):ap n (fun _=>c)=n*c:=by
 induction n with
 | zero=>simp[ap]
 | succ n ih=>simp only[ap];rw[ih];grind
def mJ(d:Nat)(c:Nat->Int)(x:Int):Int:=ap d (fun i=>c i*x^i)
def IZ{c:Nat->Int}(h:∀i,d<=i->c i=0)(a:d<=N)(x:Int):mJ N c x=mJ d c x:=by
 induction N with
 | zero=>rw[(om:d=0)]
 | succ N ih =>
  by_cases e:d=N+1
  .rw[e]
  .simp only[mJ,ap];rw[h N om];simp only[mJ]at ih;rw[ih om];omega
def r9(d:Nat)(c:Nat->Int)(x:Int):mJ (d+1) c x=c 0+x*mJ d (fun i=>c (i+1)) x:=by
 simp only[mJ];rw[iG,<-cG];congr 1
 .simp
 .exact ay fun i _=>by rw[eH];grind
theorem sP:∀(d:Nat) (c:Nat->Int),(∀x:Int,1<=x->mJ d c x=0)->∀i,i<d->c i=0
 | 0,_,_,_,b=>om
 | d+1,c,h,i,b=>by
  have f:c 0=0:=by
   have a:=h ((c 0).natAbs+1) om;rw[r9]at a;have g:(((c 0).natAbs:Int)+1)∣c 0:=⟨- mJ d (fun i=>c (i+1)) ((c 0).natAbs+1),by rw[mU];omega⟩
   have j:=jA.2 g;rcases bD (c 0).natAbs with e|e
   .omega
   .have l:=BG e j;omega
  have a:∀x:Int,1<=x->mJ d (fun i=>c (i+1)) x=0:=by
   intro x k;have a:=h x k;rw[r9,f,QD]at a;rcases fK.1 a with e|e
   .omega
   .exact e
  match i,b with
  | 0,_=>exact f
  | i+1,b=>exact sP d (fun i=>c (i+1)) a i om
def IW(d:Nat)(c e:Nat->Int)(x:Int):mJ d (fun i=>c i-e i) x=mJ d c x-mJ d e x:=by
 simp only[mJ];rw[<-lj];exact ay fun i _=>by rw[Int.sub_mul]
def Od(d:Nat)(c e:Nat->Int)(x:Int):mJ d (fun i=>c i+e i) x=mJ d c x+mJ d e x:=by
 simp only[mJ];rw[<-dH];exact ay fun i _=>by rw[sG]
def IY(d:Nat)(a:Int)(c:Nat->Int)(x:Int):mJ d (fun i=>a*c i) x=a*mJ d c x:=by
 simp only[mJ];rw[<-cG];exact ay fun i _=>by rw[fu]
def E4{c e:Nat->Int}(h:∀x,mJ d c x=mJ d e x){i:Nat}(a:i<d):c i=e i:=by
 have:=sP d (fun i=>c i-e i) (fun x _=>by rw[IW,h x];omega) i a
 omega
def IU(d n:Nat)(c:Nat->Nat->Int)(x:Int):mJ d (fun i=>ap n (fun j=>c j i)) x=ap n (fun j=>mJ d (c j) x):=by
 simp only[mJ];rw[qn];refine ay fun i _=>?_;rw[bU,<-cG];exact ay fun j _=>by rw[bU]
def Su(c:Nat->Int):Nat->Int
 | 0=>0
 | i+1=>c i
def IX(d:Nat)(c:Nat->Int)(x:Int):mJ (d+1) (Su c) x=x*mJ d c x:=by
 rw[r9];show 0+x*mJ d c x=_;omega
def sE(d:Nat)(f:Int->Int):Prop:=∃c:Nat->Int,(∀i,d<=i->c i=0)/\∀x,f x=mJ d c x
def sE.mono{e:Nat}{f:Int->Int}(h:sE d f)(b:d<=e):sE e f:=by
 obtain⟨c,a,g⟩:=h;exact⟨c,fun i j=>a i om,fun x=>by rw[g x,IZ a b]⟩
def sE.add{f g:Int->Int}(h:sE d f)(k:sE d g):sE d (fun x=>f x+g x):=by
 obtain⟨c,b,j⟩:=h;obtain⟨e,l,m⟩:=k;exact⟨fun i=>c i+e i,fun i a=>by simp only;rw[b i a,l i a];rfl,fun x=>by rw[Od,<-j x,<-m x]⟩
def sE.smul{f:Int->Int}(h:sE d f)(a:Int):sE d (fun x=>a*f x):=by
 obtain⟨c,b,e⟩:=h;exact⟨fun i=>a*c i,fun i g=>by simp only;rw[b i g,kH],fun x=>by rw[IY,<-e x]⟩
def sE.xmul{f:Int->Int}(h:sE d f):sE (d+1) (fun x=>x*f x):=by
 obtain⟨c,b,e⟩:=h;refine⟨Su c,fun i a=>?_,fun x=>by rw[IX,<-e x]⟩
 match i,a with
 | i+1,a=>exact b i om
def sE.zero(d:Nat):sE d (fun _=>0):=⟨fun _=>0,fun _ _=>rfl,fun x=>by
 simp only[mJ];rw[iQ];intro i _;rw[lL]⟩
theorem sE.sum{d:Nat}:∀{n:Nat} {f:Nat->Int->Int},(∀j,j<n->sE d (f j))->sE d (fun x=>ap n (fun j=>f j x))
 | 0,_,_=>by simp only[ap];exact sE.zero d
 | n+1,f,h=>by simp only[ap];exact(sE.sum fun j a=>h j om).add (h n om)
def sE.congr{f g:Int->Int}(h:sE d f)(e:∀x,g x=f x):sE d g:=by
 obtain⟨c,a,b⟩:=h;exact⟨c,a,fun x=>(e x).trans (b x)⟩
def sE.lin{f:Int->Int}(h:sE d f)(a b:Int):sE (d+1) (fun x=>(a+b*x)*f x) :=
 (((h.smul a).mono om).add (h.xmul.smul b)).congr fun x=>by grind
def NA:Nat->(Nat->Bool)->Nat
 | 0,_=>0
 | n+1,R=>(if R 0 then 0 else 1)+NA n (fun i=>R (i+1))
theorem DQ:∀(n:Nat) (R:Nat->Bool) (a b:az),(∀i,R i=true->∀j,b i j=0)->sE (1+NA n R) (fun x=>det n (fun i j=>a i j+b i j*x))
 | 0,R,a,b,_=>⟨fun i=>if i=0 then 1 else 0,fun i c=>by simp only[NA]at c;exact ah om,fun x=>by simp[det,NA,mJ,ap]⟩
 | n+1,R,a,b,h=>by
  simp only[det,NA];refine sE.sum fun j _=>?_;have ih:=DQ n (fun i=>R (i+1)) (cut a j) (cut b j) (fun i c k=>h (i+1) c _);have e:∀x:Int,cut (fun i j=>a i j+b i j*x) j=fun i k=>cut a j i k+cut b j i k*x:=fun x=>rfl
  cases d:R 0 with
  | true =>
   refine((ih.smul (mY j*a 0 j)).congr fun x=>?_).mono sm
   rw[e x,h 0 d j];grind
  | false =>
   refine((ih.lin (mY j*a 0 j) (mY j*b 0 j)).congr fun x=>?_).mono (by simp;omega)
   rw[e x];grind
theorem Jk:∀(n:Nat) (R:Nat->Bool),NA n R<=n
 | 0,_=>ag _
 | n+1,R=>by have:=Jk n (fun i=>R (i+1));simp only[NA];split<;>omega
theorem DI:∀(n:Nat) (R:Nat->Bool) (i:Nat),i<n->R i=true->NA n R+1<=n
 | n+1,R,0,_,h=>by have:=Jk n (fun i=>R (i+1));simp only[NA,h,aH];omega
 | n+1,R,i+1,a,h=>by have:=DI n (fun i=>R (i+1)) i om h;simp only[NA];split<;>omega
def cm(M:az)(x:Int):az:=fun i j=>- M i j+(if i=j then 1 else 0)*x
theorem FC:∀(n:Nat) (M:az),sE n (fun x=>det n (cm M x)-x^n)
 | 0,M=>⟨fun _=>0,fun _ _=>rfl,fun x=>by simp[det,mJ,ap]⟩
 | n+1,M=>by
  have ih:=FC n (fun i j=>M (i+1) (j+1));have c:sE (n+1) (fun x=>x^n):=⟨fun i=>if i=n then 1 else 0,fun i a=>ah om,fun x=>by
   simp only[mJ];rw[cF n om (fun i _ a=>by rw[ah a,lL])];simp⟩
  have b:∀j,j<n->sE (n+1) (fun x=>mY (j+1)*cm M x 0 (j+1)*det n (cut (cm M x) (j+1))):=by
   intro j b;have d:=DQ n (fun i=>decide (i=j)) (cut (fun i j=>- M i j) (j+1)) (cut (fun i j=>if i=j then 1 else 0) (j+1)) (fun i a k=>by
    simp only[jK]at a;subst a;simp only[cut];exact ah (by unfold skip;split<;>omega))
   have l:=DI n (fun i=>decide (i=j)) j b sm
   refine((d.smul (mY (j+1)*- M 0 (j+1))).mono om).congr fun x=>?_;have e:cm M x 0 (j+1)=- M 0 (j+1):=by simp[cm]
   rw[e];rfl
  have f:=sE.sum b;refine(((ih.lin (- M 0 0) 1).add (c.smul (- M 0 0))).add f).congr fun x=>?_;simp only[det];rw[iG];have g:cut (cm M x) 0=cm (fun i j=>M (i+1) (j+1)) x:=by
   funext i k;simp[cut,cm,skip]
  have h:cm M x 0 0=- M 0 0+x:=by simp[cm]
  rw[g,h,zI,eH]
  grind
def Rw(M:az){i:Nat}(d:i<n)(j:Nat):sE n (fun x=>pI n (cm M x) i j):=by
 have f:=DQ n (fun k=>decide (k=i)) (setRow (fun i j=>- M i j) i (dp j)) (fun a b=>if a=i then 0 else if a=b then 1 else 0) (fun k c b=>by
  simp only[jK]at c;simp[c])
 have g:=DI n (fun k=>decide (k=i)) i d sm
 refine(f.mono om).congr fun x=>?_;unfold pI;congr 1;funext a b;simp only[setRow,cm];by_cases e:a=i
 .simp[e]
 .simp[e]
theorem uM{h:Int}:∀(n:Nat) (B C:az),(∀i j,h∣B i j-C i j)->h∣det n B-det n C
 | 0,_,_,_=>by simp[det]
 | n+1,B,C,a=>by
  simp only[det];rw[<-lj];refine jf fun j _=>?_;obtain⟨u,d⟩:=uM n (cut B j) (cut C j) (fun i k=>a _ _);obtain⟨v,e⟩:=a 0 j;refine⟨mY j*(B 0 j*u+v*det n (cut C j)),?_⟩;have b:det n (cut B j)=det n (cut C j)+h*u:=om
  have c:B 0 j=C 0 j+h*v:=om
  rw[b,c];grind
def dg(A:az)(h:Int)(m:Nat):az:=fun i j=>A i j+(if i<m/\i=j then h else 0)
theorem MD(n:Nat)(A:az)(h:Int):∀m,m<=n->h*h∣det n (dg A h m)-det n A-h*ap m (fun i=>pI n A i i)
 | 0,_=>by
  have:dg A h 0=A:=by funext i j;simp[dg]
  rw[this];simp[ap]
 | m+1,d=>by
  obtain⟨q,f⟩:=MD n A h m om;have b:dg A h (m+1)=setRow (dg A h m) m (fun j=>dg A h m m j+h*dp m j):=by
   funext i j;simp only[dg,setRow,dp];by_cases e:i=m
   .subst e;by_cases a:i=j
    .subst a;simp
    .simp[a,ai a]
   .simp only[e,aI];congr 1;by_cases a:i<m
    .simp[a,(om:i<m+1)]
    .simp[a,(om:¬i<m+1)]
  have a:det n (dg A h (m+1))=det n (dg A h m)+h*pI n (dg A h m) m m:=by
   rw[b,ks _ om,oJ _ om,jC];rfl
  obtain⟨u,g⟩:=uM (h:=h) n (setRow (dg A h m) m (dp m)) (setRow A m (dp m)) (fun i j=>by
   simp only[setRow,dg];split
   .simp
   .split
    .exact⟨1,om⟩
    .exact⟨0,om⟩)
  refine⟨q+u,?_⟩;have c:pI n (dg A h m) m m=pI n A m m+h*u:=by unfold pI;omega
  rw[a,c];simp only[ap];have:det n (dg A h m)=det n A+h*ap m (fun i=>pI n A i i)+h*h*q:=om
  rw[this];grind
theorem IP(x h:Int):∀i:Nat,h*h∣(x+h)^i-x^i-h*(i*x^(i-1))
 | 0=>by simp
 | i+1=>by
  obtain⟨q,a⟩:=IP x h i;refine⟨(x+h)*q+i*x^(i-1),?_⟩;have e:(x+h)^i=x^i+h*(i*x^(i-1))+h*h*q:=om
  rw[eH,e,eH];have b:(i:Int)*x^i=i*x^(i-1)*x:=by
   match i with
   | 0=>simp
   | i+1=>simp only[eB];rw[eH,fu]
  simp only[eB,ef,xu]
  grind
def SC(c:Nat->Int):Nat->Int:=fun i=>(i+1)*c (i+1)
def Oc(d:Nat)(c:Nat->Int)(x h:Int):h*h∣mJ (d+1) c (x+h)-mJ (d+1) c x-h*mJ d (SC c) x:=by
 have e:mJ d (SC c) x=ap (d+1) (fun i=>c i*(i*x^(i-1))):=by
  rw[iG];simp only[mJ,SC];rw[show c 0*(((0:Nat):Int)*x^(0-1))=0 by simp,QD]
  refine ay fun i _=>?_;simp only[eB,ef,xu];grind
 rw[e,<-cG];simp only[mJ];rw[<-lj,<-lj];refine jf fun i _=>?_;obtain⟨q,a⟩:=IP x h i;exact⟨c i*q,by
  have e:(x+h)^i=x^i+h*(i*x^(i-1))+h*h*q:=om
  rw[e];grind⟩
def O8(h:∀k:Int,1<=k->k∣z):z=0:=by
 have a:=jA.2 (h (z.natAbs+1) om);rcases bD z.natAbs with e|e
 .omega
 .have b:=BG e a;omega
def mm(n:Nat)(A B:az):az:=fun i j=>ap n (fun k=>A i k*B k j)
def tr(n:Nat)(A:az):Int:=ap n (fun i=>A i i)
def ru(n:Nat)(M:az):Nat->az
 | 0=>fun i j=>if i=j then 1 else 0
 | k+1=>fun i j=>mm n M (ru n M k) i j+(if i=j then tr n (mm n M (ru n M k))/(-((k+1:Nat):Int))else 0)
def OK(B:1<=n)(M:az):∃(a:Nat->Nat->Nat->Int) (χ:Nat->Int),χ n=1/\(∀i j,i<n->j<n->a i j n=0)
 /\(∀i r k,i<n->r<n->k<=n->Su (a i r) k-ap n (fun j=>M r j*a i j k)=if i=r then χ k else 0)
 /\(∀k,k<n->ap n (fun i=>a i i k)=(k+1)*χ (k+1))
 /\(∀i j,i<n->j<n->a i j 0=pI n (cm M 0) i j):=by
 have p:∀i j,∃c:Nat->Int,i<n->((∀k,n<=k->c k=0)/\∀x,pI n (cm M x) i j=mJ n c x):=fun i j=>by
  by_cases b:i<n
  .obtain⟨c,h⟩:=Rw M b j;exact⟨c,fun _=>h⟩
  .exact⟨fun _=>0,fun h=>absurd h b⟩
 obtain⟨a,d⟩:∃a:Nat->Nat->Nat->Int,∀i j,i<n->((∀k,n<=k->a i j k=0)/\∀x,pI n (cm M x) i j=mJ n (a i j) x) :=
  ⟨fun i j=>(p i j).choose,fun i j=>(p i j).choose_spec⟩
 obtain⟨e,t,o⟩:=FC n M;have hχ:∀x,det n (cm M x)=mJ (n+1) (fun k=>if k=n then 1 else e k) x:=by
  intro x;have f:=o x;simp only[mJ,ap]at f ⊢;rw[ay (g:=fun i=>e i*x^i) (fun i b=>by rw[ah om]),<-f];simp
 refine⟨a,fun k=>if k=n then 1 else e k,sm,fun i j b _=>(d i j b).1 n (ag _),fun i r k b q s=>?_,fun k s=>?_,fun i j b l=>?_⟩
 .have key:∀x,mJ (n+1) (fun k=>Su (a i r) k-ap n (fun j=>M r j*a i j k)) x=mJ (n+1) (fun k=>if i=r then(if k=n then 1 else e k)else 0) x:=by
   intro x;have f:=t9 (cm M x) b q;rw[IW,IX,IU (n+1) n (fun j k=>M r j*a i j k)];rw[ay (g:=fun j=>M r j*pI n (cm M x) i j) (fun j l=>by rw[IY,IZ (d i j b).1 om,<-(d i j b).2 x])]
   rw[<-(d i r b).2 x];have w:ap n (fun j=>cm M x r j*pI n (cm M x) i j)=x*pI n (cm M x) i r-ap n (fun j=>M r j*pI n (cm M x) i j):=by
    rw[ay (g:=fun j=>(if r=j then x*pI n (cm M x) i j else 0)-M r j*pI n (cm M x) i j) (fun j _=>by simp only[cm];split<;>grind),lj]
    rw[cF r q (fun j _ l=>by rw[ah (ai l)])];simp
   rw[<-w,f];split
   .rw[hχ x]
   .simp only[mJ];rw[iQ];intro k _;rw[lL]
  exact E4 key om
 .have key:∀x,mJ n (fun k=>ap n (fun i=>a i i k)) x=mJ n (SC (fun k=>if k=n then 1 else e k)) x:=by
   intro x;rw[IU n n (fun i k=>a i i k)];rw[ay (g:=fun i=>pI n (cm M x) i i) (fun i b=>by rw[<-(d i i b).2 x])]
   have:∀k:Int,1<=k->k∣ap n (fun i=>pI n (cm M x) i i)-mJ n (SC (fun k=>if k=n then 1 else e k)) x:=by
    intro h C;obtain⟨u,y⟩:=MD n (cm M x) h n (ag _);obtain⟨v,D⟩:=Oc n (fun k=>if k=n then 1 else e k) x h
    have z:det n (dg (cm M x) h n)=det n (cm M (x+h)):=aZ fun i j b l=>by
     simp only[dg,cm];by_cases e:i=j
     .subst e;simp[b];omega
     .simp[e]
    rw[z,hχ,hχ]at y;refine⟨v-u,?_⟩;have A:h*(ap n (fun i=>pI n (cm M x) i i)-mJ n (SC (fun k=>if k=n then 1 else e k)) x)=h*(h*(v-u)):=by
     grind
    exact cJ om A
   have:=O8 this;omega
  exact E4 key s
 .rw[(d i j b).2 0];obtain⟨m,rfl⟩:∃m,n=m+1:=⟨n-1,om⟩
  rw[r9];omega
def nv(a:i<n)(f:Nat->Int):ap n (fun j=>(if i=j then 1 else 0)*f j)=f i:=by
 rw[cF i a (fun j _ b=>by rw[ah (ai b),lL])];simp
def OJ(p:1<=n)(M:az):∀i j,i<n->j<n->ru n M (n-1) j i=pI n (cm M 0) i j:=by
 obtain⟨a,χ,q,s,h,t,u⟩:=OK p M;have key:∀k,k<n->∀i j,i<n->j<n->ru n M k j i=a i j (n-1-k):=by
  intro k
  induction k with
  | zero =>
   intro _ i j b c;have d:=h i j n b c (ag _);rw[iQ (fun k l=>by rw[s i k b l,kH]),q]at d
   obtain⟨m,rfl⟩:∃m,n=m+1:=⟨n-1,om⟩
   simp only[Su]at d;simp only[ru,eB,dD];rw[show(if j=i then(1:Int)else 0)=if i=j then 1 else 0 by split<;>split<;>omega]
   omega
  | succ k ih =>
   intro l i j b c;have ih:=ih om;obtain⟨K,v⟩:∃K,n-1-k=K+1:=⟨n-2-k,om⟩
   have f:n-1-(k+1)=K:=om
   rw[f];rw[v]at ih;have o:∀i r,i<n->r<n->mm n M (ru n M k) r i=a i r K-(if i=r then χ (K+1)else 0):=by
    intro i r b w;have d:=h i r (K+1) b w om;simp only[Su]at d;simp only[mm];rw[ay (g:=fun j=>M r j*a i j (K+1)) (fun j c=>by rw[ih i j b c])]
    omega
   have x:tr n (mm n M (ru n M k))=-((k+1:Nat):Int)*χ (K+1):=by
    simp only[tr];rw[ay (g:=fun i=>a i i K - χ (K+1)) (fun i b=>by rw[o i i b b,aj rfl]),lj,t K om,EH]
    have:(n:Int)=K+1+(k+1):=om
    rw[this];simp only[ef,xu];grind
   simp only[ru];rw[o i j b c,x,cn _ om];by_cases e:i=j
   .subst e;simp
   .rw[ah e,ah (ai e)];omega
 intro i j b c;rw[key (n-1) om i j b c,bR,u i j b c]
def iq(n:Nat)(M:az):az:=fun i j=>if n%2=0 then-ru n M (n-1) i j else ru n M (n-1) i j
def Oi(n:Nat):(-1:Int)^n=if n%2=0 then 1 else -1:=by
 induction n with
 | zero=>rfl
 | succ n ih=>rw[eH,ih];split<;>split<;>omega
def uT(d:1<=n)(M:az){i j:Nat}(c:i<n)(e:j<n):iq n M j i=pI n M i j:=by
 have f:pI n (cm M 0) i j=(-1)^n*(-1*pI n M i j):=by
  unfold pI;rw[<-oJ M c,<-rA];congr 1;funext a b;simp only[setRow,cm,dp];split<;>grind
 simp only[iq];rw[OJ d M i j c e,f,Oi];split<;>grind
def oc(n:Nat)(A B C:az)(i j:Nat):mm n (mm n A B) C i j=mm n A (mm n B C) i j:=by
 simp only[mm];rw[ay (g:=fun k=>ap n (fun l=>A i l*B l k*C k j)) (fun k _=>by rw[bU,<-cG];exact ay fun l _=>by grind)]
 rw[qn];exact ay fun l _=>by rw[<-cG];exact ay fun k _=>by grind
def rk{B':az}(h:∀k,k<n->A i k=A' i k)(h':∀k,k<n->B k j=B' k j):mm n A B i j=mm n A' B' i j :=
 ay fun k a=>by rw[h k a,h' k a]
theorem Fm(n:Nat)(M:az):∀k i j,i<n->j<n->mm n (ru n M k) M i j=mm n M (ru n M k) i j
 | 0,i,j,b,a=>by
  simp only[mm,ru];rw[nv b (fun k=>M k j),cF j a (fun k _ c=>by rw[ah c,kH])];simp
 | k+1,i,j,b,a=>by
  have d:mm n (ru n M (k+1)) M i j=mm n (mm n M (ru n M k)) M i j+(tr n (mm n M (ru n M k))/(-((k+1:Nat):Int)))*M i j:=by
   simp only[mm,ru];rw[<-nv b (fun l=>(tr n (mm n M (ru n M k))/(-((k+1:Nat):Int)))*M l j),<-dH];exact ay fun l _=>by split<;>grind
  have f:mm n M (ru n M (k+1)) i j=mm n M (mm n M (ru n M k)) i j+(tr n (mm n M (ru n M k))/(-((k+1:Nat):Int)))*M i j:=by
   simp only[mm,ru];rw[<-nv a (fun l=>(tr n (mm n M (ru n M k))/(-((k+1:Nat):Int)))*M i l),<-dH];refine ay fun l _=>?_;by_cases e:l=j
   .subst e;simp;grind
   .rw[ah e,ah (ai e)];grind
  rw[d,f,oc];congr 1;exact rk (fun _ _=>rfl) (fun l g=>Fm n M k l j g a)
def su(c:1<=n)(M:az){i j:Nat}(b:i<n)(a:j<n):mm n (iq n M) M i j=if i=j then det n M else 0:=by
 have d:mm n (iq n M) M i j=mm n M (iq n M) i j:=by
  have h:=Fm n M (n-1) i j b a;simp only[mm,iq]at h ⊢;by_cases e:n%2=0
  .simp only[e,aH];rw[ay (g:=fun k=>- (ru n M (n-1) i k*M k j)) (fun k _=>by grind),wl,h,<-wl]
   exact ay fun k _=>by grind
  .simp only[e,aI];exact h
 rw[d];simp only[mm];rw[ay (g:=fun k=>M i k*pI n M j k) (fun k f=>by rw[uT c M a f]),t9 M a b]
 split<;>split<;>omega

def gH(M:Int)(k:Nat):gP:=fun r=>if r=k then M else 0
structure TL(N:Nat)(L:gP->Prop)(d M:Nat->Int):Prop where
 lat:NH N L
 pos:∀i,i<N->0<d i
 step:∀i,i<N->M i=d i*M (i+1)
 last:M N=1
 dvd:∀x,L x->∀i,i<N->(∀r,r<i->x r=0)->d i∣x i
 unit:∀i k,i<=k->k<N->L (gH (M i) k)
 col:∀i,i<N->∃x,L x/\(∀r,r<i->x r=0)/\x i=d i
def JF(b:wW N N H){x c:gP}(g:∀r,r<N->x r=ap N (fun j=>H r j*c j)):∀i,i<=N->(∀r,r<i->x r=0)->∀j,j<i->c j=0:=by
 intro i
 induction i with
 | zero=>intro _ _ j h;omega
 | succ i ih =>
  intro n d j h;have ih':=ih om (fun r o=>d r om);by_cases e:j=i
  .subst e;have f:=g j om;rw[d j om,cF j om (fun k l m=>by
    rcases aB k j with a|a
    .rw[ih' k a];simp
    .rw[(b j om).1 k om l];simp)]at f
   rcases fK.1 f.symm with a|a
   .have:=(b j om).2;omega
   .exact a
  .exact ih' j om
def Ls(b:wW N N H){x c:gP}(d:∀r,r<N->x r=ap N (fun j=>H r j*c j)){i:Nat}(a:i<N)(f:∀r,r<i->x r=0):x i=H i i*c i:=by
 have g:=JF b d i om f;rw[d i a,cF i a (fun k h l=>by
  rcases aB k i with e|e
  .rw[g k e];simp
  .rw[(b i a).1 k om h];simp)]
def EE(H:az)(N i:Nat):Int:=fT (N-i) (fun r=>H (i+r) (i+r))
def zC(H:az){N i:Nat}(a:i<N):EE H N i=H i i*EE H N (i+1):=by
 unfold EE;rw[(om:N-i=(N-(i+1))+1)]
 simp only[fT,cB];congr 2;funext r;rw[(om:i+(r+1)=i+1+r)]
theorem CZ(H:az){N:Nat}:∀(m i:Nat),i+m<=N->EE H N (i+m)∣EE H N i
 | 0,i,_=>iL _
 | m+1,i,h=>by
  have a:=CZ H (N:=N) m (i+1) om;rw[zC H (om:i<N),(om:i+(m+1)=i+1+m)]
  exact co a
theorem EC{N:Nat}{H:az}(g:wW N N H):∀(m k:Nat),k<N->N-k<=m->eU N N H (gH (EE H N k) k)
 | 0,k,c,p=>om
 | m+1,k,c,p=>by
  have b:=eU.lat N N H;have s:∀r,k<r->r<N->eU N N H (gH (EE H N (k+1)) r):=by
   intro r l d;obtain⟨q,n⟩:=CZ H (N:=N) (r-(k+1)) (k+1) om;rw[(om:k+1+(r-(k+1))=r)]at n
   refine b.ext _ _ (b.smul (EC g m r d om) q) (fun i _=>?_);simp only[gH];split
   .rw[n,bU]
   .simp
  have l:=b.sum (fun r=>if k<r then gH (EE H N (k+1)) r else fun _=>0) (fun r=>- H r k) N (fun r t=>by
   split
   .rename_i h;exact s r h t
   .exact b.zero)
  refine b.ext _ _ (b.comb _ _ (eU.col (j:=k) c) l (EE H N (k+1)) 1) (fun i e=>?_);have d:ap N (fun j=>(if k<j then gH (EE H N (k+1)) j else fun _=>0) i*- H j k)=if k<i then EE H N (k+1)*- H i k else 0:=by
   rw[cF i e (fun j u f=>by
    by_cases a:k<j
    .simp[a,gH,ai f]
    .simp[a])]
   by_cases a:k<i
   .simp[a,gH]
   .simp[a]
  simp only[d,gH];by_cases a:i=k
  .subst a;rw[ah om,aj rfl,zC H e];grind
  .rw[ah a];by_cases o:k<i
   .rw[aj o];grind
   .rw[ah o,(g i e).1 k om c];simp
def TL.of_tri(b:wW N N H):TL N (eU N N H) (fun i=>H i i) (EE H N):=by
 refine⟨eU.lat N N H,fun i a=>(b i a).2,fun i a=>zC H a,by simp[EE,fT],?_,fun i k e f=>?_,fun i a=>⟨_,eU.col a,fun r g=>(b r om).1 i g a,rfl⟩⟩
 .rintro x ⟨c,h⟩ i a j;exact⟨c i,Ls b h a j⟩
 .obtain⟨q,d⟩:=CZ H (N:=N) (k-i) i om;rw[(om:i+(k-i)=k)]at d
  refine(eU.lat N N H).ext _ _ ((eU.lat N N H).smul (EC b (N-k) k f (ag _)) q) (fun r _=>?_);simp only[gH];split
  .rw[d,bU]
  .simp
def TL.congr{d:Nat->Int}(h:TL N L d M)(c:NH N L')(e:∀x,L' x↔L x):TL N L' d M :=
 ⟨c,h.pos,h.step,h.last,fun x f=>h.dvd x ((e x).1 f),fun i k a b=>(e _).2 (h.unit i k a b),fun i g=>by obtain⟨x,a,b⟩:=h.col i g;exact⟨x,(e x).2 a,b⟩⟩
def TL.of_det{w:az}(c:det N w≠0):∃d M,TL N (eU N N w) d M/\M 0=((det N w).natAbs:Int):=by
 obtain⟨H,a,b⟩:=Gr w c;refine⟨_,_,(TL.of_tri b).congr (eU.lat N N w) a.1,?_⟩;rw[Lr a b];simp[EE]
def TL.M_pos{d:Nat->Int}(h:TL N L d M):∀m i,N-i<=m->i<=N->0<M i
 | 0,i,a,b=>by rw[(om:i=N),h.last];omega
 | m+1,i,a,b=>by
  by_cases e:i=N
  .rw[e,h.last];omega
  .rw[h.step i om];exact jN (h.pos i om) (h.M_pos m (i+1) om om)
structure HI(N:Nat)(L:gP->Prop)(d M:Nat->Int)(i:Nat)(C:Nat->gP):Prop where
 mem:∀j,j<N->L (C j)
 zero:∀j,i<=j->j<N->∀r,r<i->C j r=0
 gen:∀x,L x->(∀r,r<i->x r=0)->∃t z:gP,∀r,i<=r->r<N->x r=ap N (fun j=>if i<=j then C j r*t j else 0)+M i*z r
 done:∀j,j<i->(∀r,r<j->C j r=0)/\C j j=d j/\∀r,j<r->r<i->0<=C j r/\C j r<d r
def HI.init{w:az}{d:Nat->Int}:HI N (eU N N w) d M 0 (fun j r=>w r j):=by
 refine⟨fun j a=>eU.col a,fun j _ _ r b=>om,fun x e _=>?_,fun j a=>om⟩
 obtain⟨c,f⟩:=e;exact⟨c,fun _=>0,fun r _ b=>by rw[f r b];simp⟩
def HI.red{d:Nat->Int}(f:TL N L d M){i:Nat}{C C':Nat->gP}(h:HI N L d M i C)(y:i<=N)(q:Nat->gP)(o:∀j r,j<N->r<N->C' j r=C j r+(if i<=r then M i*q j r else 0)):HI N L d M i C':=by
 have lo:∀j r,j<N->r<i->C' j r=C j r:=fun j r b a=>by rw[o j r b om,ah om];omega
 refine⟨fun j b=>?_,fun j g n r a=>by rw[lo j r n a];exact h.zero j g n r a,fun x v w=>?_,fun j b=>?_⟩
 .have g:=f.lat.sum (fun r=>if i<=r then gH (M i) r else fun _=>0) (q j) N (fun r a=>by
   split
   .rename_i c;exact f.unit i r c a
   .exact f.lat.zero)
  refine f.lat.ext _ _ (f.lat.add (h.mem j b) g) (fun r a=>?_);rw[o j r b a,cF r a (fun k A p=>by
   by_cases c:i<=k
   .simp[c,gH,ai p]
   .simp[c])]
  by_cases c:i<=r
  .simp[c,gH]
  .simp[c]
 .obtain⟨t,z,s⟩:=h.gen x v w;refine⟨t,fun r=>z r-ap N (fun j=>if i<=j then q j r*t j else 0),fun r a l=>?_⟩
  rw[s r a l];have e:ap N (fun j=>if i<=j then C' j r*t j else 0)=ap N (fun j=>if i<=j then C j r*t j else 0)+M i*ap N (fun j=>if i<=j then q j r*t j else 0):=by
   rw[<-cG,<-dH];refine ay fun j b=>?_;split
   .rw[o j r b l,aj a];grind
   .simp
  rw[e];grind
 .obtain⟨g,n,c⟩:=h.done j b;refine⟨fun r a=>by rw[lo j r om om];exact g r a,by rw[lo j j om b];exact n,fun r u m=>by rw[lo j r om m];exact c r u m⟩
def sW(g:i<n)(l:j<n)(c:i≠j)(h:∀k,k<n->k≠i->k≠j->f k=0):ap n f=f i+f j:=by
 have e:ap n f=ap n (fun k=>(if k=i then f i else 0)+(if k=j then f j else 0)):=ay fun k a=>by
  by_cases b:k=i
  .subst b;simp[c]
  .by_cases d:k=j
   .subst d;simp[b]
   .simp[b,d,h k a b d]
 rw[e,dH,cF i g (fun k _ a=>by simp[a]),cF j l (fun k _ a=>by simp[a])]
 simp
def HI.comb{d:Nat->Int}(o:TL N L d M){i j:Nat}{C C':Nat->gP}(h:HI N L d M i C)(H:i<j)(s:j<N){a b x y:Int}(F:a*x+b*y=1)
  (u:∀r,r<N->C' i r=a*C i r+b*C j r) (w:∀r,r<N->C' j r=x*C j r-y*C i r) (q:∀k r,k<N->r<N->k≠i->k≠j->C' k r=C k r):HI N L d M i C':=by
 have n:i<N:=om
 refine⟨fun k g=>?_,fun k A p r c=>?_,fun v I J=>?_,fun k g=>?_⟩
 .by_cases l:k=i
  .subst l;exact o.lat.ext _ _ (o.lat.comb _ _ (h.mem k g) (h.mem j s) a b) (fun r c=>(u r c).symm)
  .by_cases m:k=j
   .subst m;exact o.lat.ext _ _ (o.lat.comb _ _ (h.mem k g) (h.mem i n) x (-y)) (fun r c=>by rw[w r c];grind)
   .exact o.lat.ext _ _ (h.mem k g) (fun r c=>(q k r g c l m).symm)
 .have G:=h.zero i (ag _) n r c;have z2:=h.zero j om s r c;by_cases l:k=i
  .subst l;rw[u r om,G,z2];simp
  .by_cases m:k=j
   .subst m;rw[w r om,G,z2];simp
   .rw[q k r p om l m];exact h.zero k A p r c
 .obtain⟨t,z,B⟩:=h.gen v I J;refine⟨fun k=>if k=i then x*t i+y*t j else if k=j then a*t j-b*t i else t k,z,fun r c f=>?_⟩
  rw[B r c f];congr 1;have e:ap N (fun k=>(if i<=k then C' k r*(if k=i then x*t i+y*t j else if k=j then a*t j-b*t i else t k)else 0)+(-1)*(if i<=k then C k r*t k else 0))=0:=by
   rw[sW n s om (fun k g l m=>by
    simp only[l,m,aI];split
    .rw[q k r g f l m];omega
    .simp)]
   simp only[ag,aH,(om:i<=j),(om:j≠i),aI]
   rw[u r f,w r f];have:C i r*t i=(a*x+b*y)*(C i r*t i):=by rw[F];omega
   have:C j r*t j=(a*x+b*y)*(C j r*t j):=by rw[F];omega
   grind
  rw[dH,cG]at e;show _=ap N (fun k=>if i<=k then C' k r*(if k=i then x*t i+y*t j else if k=j then a*t j-b*t i else t k)else 0)
  omega
 .obtain⟨K,O,P⟩:=h.done k g;have e:∀r,r<N->C' k r=C k r:=fun r c=>q k r om c om om;exact⟨fun r c=>by rw[e r om];exact K r c,by rw[e k om];exact O,fun r D E=>by rw[e r om];exact P r D E⟩
def HI.pivot_eq{d:Nat->Int}(e:TL N L d M){i:Nat}{C:Nat->gP}(h:HI N L d M i C)(c:i<N)(k:∀j,i<j->j<N->C j i=0){p a b:Int}(l:0<p)(m:p=a*C i i+b*M i)(n:p∣C i i)(o:p∣M i):p=d i:=by
 have q:d i∣p:=by
  rw[m];exact gO (co (e.dvd _ (h.mem i c) i c (h.zero i (ag _) c))) (co ⟨M (i+1),e.step i c⟩)
 have r:p∣d i:=by
  obtain⟨x,s,u,v⟩:=e.col i c;obtain⟨t,z,f⟩:=h.gen x s u;have g:=f i (ag _) c;rw[v,cF i c (fun j w y=>by
   split
   .rw[k j om w];simp
   .rfl)]at g
  simp only[ag,aH]at g;rw[g];exact gO (eJ n) (eJ o)
 exact Tn (a8 l) (a8 (e.pos i c)) r q
def HI.pivot{d:Nat->Int}(k:TL N L d M){i:Nat}{C C':Nat->gP}(h:HI N L d M i C)(f:i<N)(B:∀j,i<j->j<N->C j i=0){p a b:Int}(S:0<p)(D:p=a*C i i+b*M i)(K:p∣C i i)(T:p∣M i)(q:gP)
  (E:∀r,r<N->C' i r=if r=i then p else a*C i r) (y:∀j r,j<i->r<N->C' j r=C j r-q j*C' i r) (F:∀j r,i<j->j<N->r<N->C' j r=C j r) (U:∀j,j<i->0<=C' j i/\C' j i<p) :
  HI N L d M (i+1) C':=by
 have m:=h.pivot_eq k f B S D K T;have V:=h.zero i (ag _) f;have g:∀r,r<i->C' i r=0:=fun r c=>by rw[E r om,ah om,V r c];simp
 have o:L (C' i):=k.lat.ext _ _ (k.lat.comb _ _ (h.mem i f) (k.unit i i (ag _) f) a b) (fun r c=>by
  rw[E r c];simp only[gH];by_cases e:r=i
  .subst e;simp[D]
  .simp[e])
 refine⟨fun j l=>?_,fun j W n r c=>?_,fun x X O=>?_,fun j l=>?_⟩
 .rcases aB j i with P|P
  .exact k.lat.ext _ _ (k.lat.comb _ _ (h.mem j l) o 1 (- q j)) (fun r c=>by rw[y j r P c];grind)
  .by_cases e:j=i
   .subst e;exact o
   .exact k.lat.ext _ _ (h.mem j l) (fun r c=>(F j r om l c).symm)
 .rw[F j r om n om];by_cases e:r=i
  .subst e;exact B j om n
  .exact h.zero j om n r om
 .obtain⟨t,z,s⟩:=h.gen x X (fun r c=>O r om);have G:=s i (ag _) f;rw[O i om,cF i f (fun j l H=>by
   split
   .rw[B j om l];simp
   .rfl)]at G
  simp only[ag,aH]at G;obtain⟨u,Q⟩:=K;have A:=k.step i f;rw[<-m]at A;have I:a*u+b*M (i+1)=1:=by
   rw[Q,A]at D;refine cJ (om:p≠0) ?_
   grind
  have Y:u*t i+M (i+1)*z i=0:=by
   rw[Q,A]at G;refine cJ (om:p≠0) ?_
   grind
  have Z:t i=M (i+1)*(b*t i-a*z i):=by
   have:t i=(a*u+b*M (i+1))*t i:=by rw[I];omega
   have:a*(u*t i+M (i+1)*z i)=0:=by rw[Y];omega
   grind
  refine⟨t,fun r=>C i r*(b*t i-a*z i)+p*z r,fun r c v=>?_⟩;rw[s r om v,A];have e:ap N (fun j=>(if i<=j then C j r*t j else 0)+(-1)*(if i+1<=j then C' j r*t j else 0))=C i r*t i:=by
   rw[cF i f (fun j l H=>?_)]
   .rw[aj (ag _),ah om];omega
   .by_cases R:i<=j
    .rw[aj R,aj om,F j r om l v];omega
    .rw[ah R,ah om];omega
  rw[dH,cG]at e;have h10:C i r*t i=M (i+1)*(C i r*(b*t i-a*z i)):=by
   have:C i r*t i=C i r*(M (i+1)*(b*t i-a*z i)):=by rw[<-Z]
   grind
  grind
 .by_cases e:j=i
  .subst e;exact⟨g,by rw[E j f,aj rfl,m],fun r w J=>om⟩
  .obtain⟨g1,g2,g3⟩:=h.done j om;refine⟨fun r c=>by rw[y j r om om,g1 r c,g r om];simp,by rw[y j j om om,g2,g j om];simp,fun r w J=>?_⟩
   by_cases e':r=i
   .subst e';rw[<-m];exact U j om
   .rw[y j r om om,g r om];have:=g3 r w om;simpa using this
def HI.span{d:Nat->Int}(c:TL N L d M){C:Nat->gP}(h:HI N L d M N C)(x:gP):eU N N (fun r j=>C j r) x↔L x:=by
 constructor
 .exact eU.sub c.lat (fun j f=>c.lat.ext _ _ (h.mem j f) (fun _ _=>rfl))
 .intro m;have g:=eU.lat N N (fun r j=>C j r);have key:∀i,i<=N->∃y,eU N N (fun r j=>C j r) y/\∀r,r<i->y r=x r:=by
   intro i
   induction i with
   | zero=>intro _;exact⟨_,g.zero,fun r k=>om⟩
   | succ i ih =>
    intro p;obtain⟨y,a,b⟩:=ih om;have l:L y:=eU.sub c.lat (fun j f=>c.lat.ext _ _ (h.mem j f) (fun _ _=>rfl)) a;obtain⟨q,s⟩:=c.dvd (fun r=>1*x r+(-1)*y r) (c.lat.comb _ _ m l 1 (-1)) i om (fun r k=>by simp only[b r k];omega)
    refine⟨fun r=>1*y r+q*C i r,g.comb _ _ a (eU.col (j:=i) om) 1 q,fun r k=>?_⟩;obtain⟨n,o,_⟩:=h.done i om;by_cases e:r=i
    .subst e;simp only;rw[o];grind
    .simp only;rw[n r om,b r om];omega
  obtain⟨y,a,b⟩:=key N (ag _);exact g.ext _ _ a b

def jh(p:Int)(piv:Nat)(q:Nat->Int):az:=fun i j=>if j=piv then(if i=piv then p*p else 0)else if i=j then p else if i=piv then-(p*q j)else 0
def yv(n:Nat)(p:Int)(piv:Nat)(q x:Nat->Int):az:=fun i j=>if j<n then jh p piv q i j else x i
def NY{piv:Nat}{q:Nat->Int}(w:Nat->Int)(a:piv<n){j:Nat}(b:j<n):ap n (fun i=>w i*jh p piv q i j)=if j=piv then w piv*(p*p)else w j*p-w piv*(p*q j):=by
 by_cases e:j=piv
 .subst e;rw[cF j b (fun i _ c=>by simp[jh,c])];simp[jh]
 .rw[sW b a e (fun i _ d f=>by simp[jh,e,d,f]),ah e]
  simp[jh,e,ai e];grind
def NW{piv:Nat}{q:Nat->Int}(i j:Nat):p∣jh p piv q i j:=by
 unfold jh;split
 .split
  .exact⟨p,rfl⟩
  .exact jp _
 .split
  .exact iL _
  .split
   .exact⟨- q j,by grind⟩
   .exact jp _
def Dq{piv:Nat}{q x:Nat->Int}(i:Nat)(c:Nat->Int):ap (n+1) (fun j=>yv n p piv q x i j*c j)=ap n (fun j=>jh p piv q i j*c j)+x i*c n:=by
 simp only[ap];rw[ay (g:=fun j=>jh p piv q i j*c j) (fun j a=>by simp[yv,a])]
 simp[yv]
def jc:Nat->(Nat->Nat)->Nat
 | 0,_=>1
 | n+1,f=>f 0*jc n (fun i=>f (i+1))
def tb{f:Nat->Nat}(h:∀i,i<n->f i<=g i):jc n f<=jc n g:=by
 induction n generalizing f g with
 | zero=>exact ag _
 | succ n ih=>simp only[jc];exact aX (h 0 om) (ih fun i a=>h (i+1) om)
def wo(n:Nat)(f:Nat->Int):(ap n f).natAbs<=dR n f:=by
 induction n with
 | zero=>simp[ap,dR]
 | succ n ih=>simp only[ap,dR];omega
def Hx(f:Nat->Int){j:Nat}(b:j<n+1):dR n (fun k=>f (skip j k))+(f j).natAbs=dR (n+1) f:=by
 induction n with
 | zero=>rw[(om:j=0)];simp[dR]
 | succ n ih =>
  by_cases e:j=n+1
  .subst e;rw[show dR (n+1) (fun k=>f (skip (n+1) k))=dR (n+1) f from ?_]
   .simp only[dR]
   .have key:∀m,m<=n+1->dR m (fun k=>f (skip (n+1) k))=dR m f:=by
     intro m
     induction m with
     | zero=>intro _;rfl
     | succ m a=>intro c;simp only[dR];rw[a om];simp[skip,(om:m<n+1)]
    exact key _ (ag _)
  .have:=ih om;simp only[dR]at this ⊢;rw[show skip j n=n+1 by simp[skip];omega]
   omega
theorem DR:∀(n:Nat) (A:az),(det n A).natAbs<=jc n (fun i=>dR n (A i))
 | 0,_=>by simp[det,jc]
 | n+1,A=>by
  simp only[det,jc];have key:∀m,m<=n+1->(ap m (fun j=>mY j*A 0 j*det n (cut A j))).natAbs<=dR m (A 0)*jc n (fun i=>dR (n+1) (A (i+1))):=by
   intro m
   induction m with
   | zero=>intro _;simp[ap]
   | succ m ih =>
    intro c;have d:=ih om;rw[show dR (m+1) (A 0)=dR m (A 0)+(A 0 m).natAbs from rfl];simp only[ap];rw[dK];have e:(mY m*A 0 m*det n (cut A m)).natAbs=(A 0 m).natAbs*(det n (cut A m)).natAbs:=by
     rw[cP,cP];have:(mY m).natAbs=1:=by unfold mY;split<;>rfl
     rw[this,mP]
    have a:=DR n (cut A m);have b:jc n (fun i=>dR n (cut A m i))<=jc n (fun i=>dR (n+1) (A (i+1))):=tb fun i _=>by
     have:=Hx (A (i+1)) (om:m<n+1)
     show dR n (fun k=>A (i+1) (skip m k))<=_;omega
    have f:=aO (A 0 m).natAbs (bQ a b);omega
  exact key _ (ag _)

theorem TL.uniq{N:Nat}{L:gP->Prop}{d M d' M':Nat->Int}(h:TL N L d M)(h':TL N L d' M'):∀m i,N-i<=m->i<=N->M i=M' i
 | 0,i,j,k=>by rw[(om:i=N),h.last,h'.last]
 | m+1,i,j,k=>by
  by_cases e:i=N
  .rw[e,h.last,h'.last]
  .rw[h.step i om,h'.step i om,TL.uniq h h' m (i+1) om om];have a:d i∣d' i:=by
    obtain⟨x,c,f,g⟩:=h'.col i om;rw[<-g];exact h.dvd x c i om f
   have b:d' i∣d i:=by
    obtain⟨x,c,f,g⟩:=h.col i om;rw[<-g];exact h'.dvd x c i om f
   rw[Tn (a8 (h.pos i om)) (a8 (h'.pos i om)) a b]
def DK(A:az)(d:c<n)(h:∀i,i<n->A i c=0):det n A=0:=by
 have f:=m9 A d 0 0 (fun _=>0) (fun _=>0);rw[aZ (B:=a9 A c (fun j=>0*(fun _=>0) j+0*(fun _=>0) j)) (fun a b g _=>by
  simp only[a9];split
  .rename_i e;rw[e,h a g];simp
  .rfl),f]
 simp
def DM(A:az)(q:k<n)(h:∀j,j<n->A k j=dp k j):det n A=det n (a9 A k (dp k)):=by
 have key:∀m,m<=n->det n (fun a b=>if a<m/\a≠k/\b=k then 0 else A a b)=det n A:=by
  intro m
  induction m with
  | zero=>intro _;exact aZ fun a b _ _=>by simp
  | succ m ih =>
   intro r;rw[<-ih om];by_cases e:m=k
   .subst e;exact aZ fun a b _ _=>by
     by_cases e:a=m
     .simp[e]
     .by_cases c:a<m
      .simp[c,(om:a<m+1)]
      .simp[c,(om:¬a<m+1)]
   .have f:=kB (fun a b=>if a<m/\a≠k/\b=k then 0 else A a b) (i:=m) (k:=k) om q e 1 (- A m k)
    rw[cU]at f;rw[<-f];refine aZ fun a b _ g=>?_;simp only[setRow];have d:=h b g;unfold dp at d;by_cases l:a=m
    .subst l;by_cases o:b=k
     .subst o;simp[e,d];omega
     .simp[o,d]
    .rw[ah l];by_cases c:a<m
     .simp[c,(om:a<m+1)]
     .simp[c,(om:¬a<m+1)]
 rw[<-key n (ag _)];refine aZ fun a b p g=>?_;simp only[a9,dp];by_cases e:b=k
 .subst e;by_cases c:a=b
  .subst c;rw[h a p];simp[dp]
  .simp[p,c]
 .simp[e]
def Kk{piv:Nat}(c:piv<n)(r s:Nat->Int)(k:∀i,i<n->0<s i):det n (fun i j=>if i=piv then r j else if i=j then s i else 0)=r piv*fT n (fun i=>if i=piv then 1 else s i):=by
 have h:=Av (fun i j=>if i=piv then r j else if i=j then s i else 0) c r
 rw[aZ (B:=setRow (fun i j=>if i=piv then r j else if i=j then s i else 0) piv r) (fun a b _ _=>by simp only[setRow];split<;>rfl),<-h]
 rw[cF piv c (fun j m d=>by
  unfold pI;rw[DK _ c (fun i o=>?_),kH];simp only[setRow,dp];by_cases e:i=piv
  .rw[aj e,ah (ai d)]
  .rw[ah e,ah e,ah e])]
 congr 1;unfold pI;have f:=qA (n:=0) n (fun i j=>if i=j then(if i=piv then 1 else s i)else 0) (by
  rw[aM];refine fun r l=>⟨fun j h f=>ah om,?_⟩;show(0:Int)<(if r=r then(if r=piv then 1 else s r)else 0)
  rw[aj rfl];split
  .decide
  .exact k r l)
 rw[aM]at f;rw[aZ (B:=fun i j=>if i=j then(if i=piv then 1 else s i)else 0) (fun a b _ _=>by
  simp only[setRow,dp];by_cases e:a=piv
  .subst e;by_cases g:b=a
   .simp[g]
   .simp[g,ai g]
  .simp[e]),f]
 simp only[aH,det,iw]
def ri{g:Nat->Int}(h:∀i,i<n->f i=g i):fT n f=fT n g:=by
 induction n generalizing f g with
 | zero=>rfl
 | succ n ih=>simp only[fT];rw[h 0 om,ih fun i a=>h (i+1) om]
def zR{a:Nat}(b:a<n)(f:Nat->Int):fT n (fun i=>if i=a then 1 else f i)*f a=fT n f:=by
 induction n generalizing a f with
 | zero=>omega
 | succ n ih =>
  simp only[fT]
  cases a with
  | zero =>
   rw[aj rfl,ri (g:=fun i=>f (i+1)) (fun i _=>ah om),cU,bU]
  | succ a =>
   have:=ih (a:=a) om (fun i=>f (i+1));rw[ah om,ri (g:=fun i=>if i=a then 1 else f (i+1)) (fun i _=>by
    by_cases e:i=a
    .simp[e]
    .simp[e]),fu,this]
def EZ(n:Nat)(p:Int):fT n (fun _=>p)=p^n:=by
 induction n with
 | zero=>simp[fT]
 | succ n ih=>simp only[fT];rw[ih,eH,bU]
def EJ(A:p≠0){piv:Nat}(d:piv<n){w q:Nat->Int}{inv:Int}(h:p∣inv*w piv-1)(o:∀j,j<n->j≠piv->p∣q j*w piv-w j)(y:gP) :
  eU n n (jh p piv q) y↔∃a:gP,(∀i,i<n->y i=p*a i)/\p∣ap n (fun i=>w i*a i):=by
 constructor
 .rintro⟨c,v⟩;have x:∀i,i<n->y i=p*(y i/p):=fun i b=>by
   rw[iP];rw[v i b];exact jf fun j _=>eJ (NW _ _)
  refine⟨fun i=>y i/p,x,?_⟩;have B:p*ap n (fun i=>w i*(y i/p))=ap n (fun j=>c j*ap n (fun i=>w i*jh p piv q i j)):=by
   rw[<-cG,ay (g:=fun i=>ap n (fun j=>c j*(w i*jh p piv q i j))) (fun i b=>by
    have C:=x i b;rw[show p*(w i*(y i/p))=w i*(p*(y i/p)) by grind,<-C,v i b,<-cG]
    exact ay fun j _=>by grind),qn]
   exact ay fun j _=>by rw[cG]
  have D:p*p∣ap n (fun j=>c j*ap n (fun i=>w i*jh p piv q i j)):=jf fun j f=>by
   refine co ?_;rw[NY w d f];split
   .exact⟨w piv,by grind⟩
   .rename_i e;obtain⟨t,E⟩:=o j f e;exact⟨- t,by
     have:w j=q j*w piv-p*t:=om
     rw[this];grind⟩
  obtain⟨u,k⟩:=D;exact⟨u,cJ A (by rw[B,k,fu])⟩
 .rintro⟨a,F,s,G⟩;obtain⟨Q,z⟩:∃Q,Q=ap n (fun j=>if j=piv then 0 else q j*a j):=⟨_,rfl⟩
  have H:p∣w piv*(a piv+Q):=by
   have e:w piv*(a piv+Q)=ap n (fun i=>w i*a i)+ap n (fun j=>if j=piv then 0 else(q j*w piv-w j)*a j):=by
    rw[z,zd,<-cG,<-dH];have I:w piv*a piv=ap n (fun j=>if j=piv then w j*a j else 0):=by
     rw[cF piv d (fun i _ b=>by rw[ah b])];simp
    rw[I,<-dH];exact ay fun j _=>by
     by_cases e:j=piv
     .simp[e]
     .simp[e];grind
   rw[e,G];refine gO ⟨s,rfl⟩ (jf fun j f=>?_);split
   .exact jp _
   .exact eJ (o j f (by assumption))
  obtain⟨r,J⟩:p∣a piv+Q:=by
   obtain⟨u,k⟩:=H;obtain⟨t,E⟩:=h;refine⟨inv*u-t*(a piv+Q),?_⟩;have e:inv*(w piv*(a piv+Q))=inv*(p*u):=by rw[k]
   have l:inv*w piv=1+p*t:=om
   grind
  refine⟨fun j=>if j=piv then r else a j,fun i b=>?_⟩
  rw[F i b];by_cases e:i=piv
  .subst e;rw[ay (g:=fun j=>(if j=i then p*p*r else 0)+(- p)*(if j=i then 0 else q j*a j)) (fun j f=>by
    by_cases e:j=i
    .subst e;simp[jh]
    .simp[jh,e,ai e];grind),dH,cG,<-z,cF i b (fun j _ f=>by rw[ah f])]
   simp only[aH];have:Q=p*r-a i:=om
   rw[this];grind
  .rw[cF i b (fun j f m=>by
    by_cases l:j=piv
    .simp[jh,l,e]
    .simp[jh,l,e,ai m])]
   simp[jh,e]
def BI(n:Nat)(p:Int)(w x y:gP):Prop:=∃(c:Int) (a:gP),(∀i,i<n->y i=c*x i+p*a i)/\p∣ap n (fun i=>w i*a i)
def Dp(o:p≠0){piv:Nat}(b:piv<n){w x q:Nat->Int}{inv:Int}(e:p∣inv*w piv-1)(r:∀j,j<n->j≠piv->p∣q j*w piv-w j)(y:gP) :
  eU n (n+1) (yv n p piv q x) y↔BI n p w x y:=by
 have m:=EJ o b e r;constructor
 .rintro⟨c,s⟩;obtain⟨a,h,k⟩:=(m (fun i=>ap n fun j=>jh p piv q i j*c j)).1 ⟨c,fun _ _=>rfl⟩;exact⟨c n,a,fun i f=>by rw[s i f,Dq,h i f];grind,k⟩
 .rintro⟨c,a,h,k⟩;obtain⟨d,t⟩:=(m (fun i=>p*a i)).2 ⟨a,fun _ _=>rfl,k⟩;refine⟨fun j=>if j=n then c else d j,fun i f=>?_⟩
  have g:=t i f;dsimp only at g;have l:ap n (fun j=>jh p piv q i j*(if j=n then c else d j))=ap n (fun j=>jh p piv q i j*d j):=ay fun j u=>by rw[ah om]
  rw[Dq,h i f,g,l];simp only[aH];grind
def tS(w a b:gP)(k:Int):ap n (fun i=>w i*(a i+k*b i))=ap n (fun i=>w i*a i)+k*ap n (fun i=>w i*b i):=by
 rw[<-cG,<-dH];exact ay fun i _=>by grind
def BI.change{w x a:gP}(d:p∣ap n (fun i=>w i*a i)){y:gP}(h:BI n p w x y):BI n p w (fun i=>x i+p*a i) y:=by
 obtain⟨c,b,e,f⟩:=h;refine⟨c,fun i=>b i+(-c)*a i,fun i g=>by rw[e i g];grind,?_⟩
 rw[tS];exact gO f (co d)
def BI.change_iff{w x a:gP}(d:p∣ap n (fun i=>w i*a i))(y:gP):BI n p w x y↔BI n p w (fun i=>x i+p*a i) y:=by
 refine⟨BI.change d,fun h=>?_⟩;have e:p∣ap n (fun i=>w i*(- a i)):=by
  rw[ay (g:=fun i=>(-1)*(w i*a i)) (fun i _=>by grind),cG]
  exact co d
 obtain⟨c,b,f,j⟩:=BI.change e h;exact⟨c,b,fun i k=>by rw[f i k];grind,j⟩
def L0(s:p≠0){piv b:Nat}(f:piv<n)(l:b<n)(m:b≠piv){w x q:Nat->Int}{inv:Int}(k:p∣inv*w piv-1)(u:∀j,j<n->j≠piv->p∣q j*w piv-w j)
  (A:x b=1) (o:p∣ap n (fun i=>w i*x i)) (y:gP):eU n n (a9 (jh p piv q) b x) y↔BI n p w x y:=by
 constructor
 .intro h;rw[<-Dp s f k u];refine eU.sub (eU.lat n (n+1) (yv n p piv q x)) (fun j r=>?_) h;by_cases e:j=b
  .exact(eU.lat n (n+1) _).ext _ _ (eU.col (j:=n) om) fun i _=>by simp[yv,a9,e]
  .exact(eU.lat n (n+1) _).ext _ _ (eU.col (j:=j) om) fun i _=>by simp[yv,a9,e,r]
 .rintro⟨c,a,B,C⟩;have D:p∣ap n (fun i=>w i*(a i+(- a b)*x i)):=by
   rw[tS];exact gO C (co o)
  obtain⟨d,v⟩:=(EJ s f k u (fun i=>p*(a i+(- a b)*x i))).2 ⟨_,fun _ _=>rfl,D⟩;have E:d b=0:=by
   have t:=v b l;simp only at t;rw[cF b l (fun j _ r=>by simp[jh,m,ai r])]at t
   simp only[jh,ah m,aH,A]at t;have F:p*d b=0:=by grind
   rcases fK.1 F with h|h
   .exact absurd h s
   .exact h
  refine⟨fun j=>if j=b then c+p*a b else d j,fun i z=>?_⟩
  rw[ay (g:=fun j=>(if j=b then x i*(c+p*a b)else 0)+jh p piv q i j*d j) (fun j _=>by
   by_cases e:j=b
   .simp[a9,e,E]
   .simp[a9,e]),dH,<-v i z,cF b l (fun j _ r=>by rw[ah r]),B i z]
  simp only[aH];grind
def NX(r:0<p){piv b:Nat}(c:piv<n)(h:b<n)(a:b≠piv){x q:Nat->Int}(o:x b=1):det n (a9 (jh p piv q) b x)=p^n:=by
 rw[DM _ h (fun j _=>by
  simp only[a9,dp];by_cases e:j=b
  .simp[e,o]
  .simp[e,jh,a,ai e])]
 rw[aZ (B:=fun i j=>if i=piv then(fun j=>if j=b then 0 else if j=piv then p*p else-(p*q j)) j else if i=j then(fun i=>if i=b then 1 else p) i else 0) (fun i j _ _=>by
  simp only[a9,dp,jh];by_cases e:j=b
  .subst e;by_cases d:i=piv
   .simp[d,ai a]
   .by_cases k:i=j
    .simp[k,a]
    .simp[d,k]
  .by_cases d:i=piv
   .subst d;by_cases f:j=i
    .simp[f,ai a]
    .simp[e,f,ai f]
   .by_cases k:i=j
    .subst k;simp[e,d]
    .by_cases f:j=piv
     .simp[d,f,ai a]
     .simp[e,d,k,f]),Kk c _ _ (fun i _=>by split<;>omega)]
 rw[ah (ai a),aj rfl];have l:=zR c (fun _=>p);have m:=zR h (fun i=>if i=piv then 1 else p)
 rw[ah a]at m;rw[EZ]at l;rw[<-l,<-m,ri (g:=fun i=>if i=b then 1 else if i=piv then 1 else p) (fun i _=>by
  by_cases e:i=piv
  .simp[e]
  .simp[e])]
 grind
def Ol(o:0<p){piv a:Nat}(b:piv<n)(e:a<n)(c:a≠piv){w x:Nat->Int}{inv t:Int}(f:p∣inv*w piv-1)(r:x a=1+p*t)(g:p∣ap n (fun i=>w i*x i))
  {B:az} (s:wW n n B) (A:∀y,eU n n B y↔BI n p w x y):det n B=p^n:=by
 obtain⟨u,C⟩:=f;have v:p∣ap n (fun i=>w i*(fun i=>if i=a then-t else if i=piv then t*w a*inv else 0) i):=by
  rw[sW e b c (fun k _ h l=>by simp[h,l])]
  simp only[aH,ah (ai c)];exact⟨t*w a*u,by
   have:inv*w piv=1+p*u:=om
   grind⟩
 have D:∀j,j<n->j≠piv->p∣inv*w j*w piv-w j:=fun j _ _=>⟨u*w j,by
  have:inv*w piv=1+p*u:=om
  grind⟩
 have E:=L0 (x:=fun i=>x i+p*(fun i=>if i=a then-t else if i=piv then t*w a*inv else 0) i) (q:=fun j=>inv*w j) om b e c ⟨u,C⟩ D (by simp only[aH,r];grind) (by
  rw[tS];exact gO g (co v))
 have z:=NX (q:=fun j=>inv*w j) o b e c (x:=fun i=>x i+p*(fun i=>if i=a then-t else if i=piv then t*w a*inv else 0) i) (by simp only[aH,r];grind)
 have F:(0:Int)<p^n:=Ii o;obtain⟨d,M,G,m⟩:=TL.of_det (N:=n) (w:=a9 (jh p piv (fun j=>inv*w j)) a (fun i=>x i+p*(fun i=>if i=a then-t else if i=piv then t*w a*inv else 0) i)) (by rw[z];omega)
 have h:=(TL.of_tri s).uniq (G.congr (eU.lat n n B) fun y=>by rw[A,E,BI.change_iff v]) n 0 om om
 rw[m,z]at h;have l:=qA (n:=0) n B (by rw[aM];exact s)
 rw[aM]at l;rw[l];simp only[EE,dD,aM,det,iw]at h ⊢;rw[h];omega
theorem xV{n m:Nat}(C:az)(d:m<n)(x:Int)(c:Nat->Int):∀K,K<=n->det n (a9 C m (fun a=>x*C a m+ap K (fun k=>if m<k then c k*C a k else 0)))=x*det n C
 | 0,_=>by
  have h:=m9 C d x 0 (fun a=>C a m) (fun a=>C a m);rw[ij]at h;rw[aZ (B:=a9 C m (fun a=>x*C a m+0*C a m)) (fun a b _ _=>by simp[a9,ap]),h];omega
 | K+1,g=>by
  have ih:=xV C d x c K om;by_cases e:m<K
  .have h:=m9 C d 1 (c K) (fun a=>x*C a m+ap K (fun k=>if m<k then c k*C a k else 0)) (fun a=>C a K)
   have f:det n (a9 C m (fun a=>C a K))=0:=kt _ e om (fun j _=>by simp only[a9];rw[aj trivial,ah om])
   rw[aZ (B:=a9 C m (fun a=>1*(x*C a m+ap K (fun k=>if m<k then c k*C a k else 0))+c K*C a K)) (fun a b _ _=>by simp only[a9,ap,aj e];split<;>grind),h,ih,f];omega
  .rw[aZ (B:=a9 C m (fun a=>x*C a m+ap K (fun k=>if m<k then c k*C a k else 0))) (fun a b _ _=>by simp only[a9,ap,ah e];split<;>grind),ih]
def Hj(A B:az)(p:∀r c,r<c->c<n->B r c=0):det n (mm n A B)=fT n (fun i=>B i i)*det n A:=by
 have key:∀m,m<=n->det n (fun a b=>if b<m then mm n A B a b else A a b)=fT m (fun i=>B i i)*det n A:=by
  intro m
  induction m with
  | zero=>intro _;simp[fT]
  | succ m ih =>
   intro t;have l:=xV (fun a b=>if b<m then mm n A B a b else A a b) (om:m<n) (B m m) (fun k=>B k m) n (ag _)
   rw[ih om]at l;have g:∀(k:Nat) (f:Nat->Int),fT (k+1) f=f k*fT k f:=by
    intro k
    induction k with
    | zero=>intro f;simp[fT]
    | succ k ih=>intro f;rw[fT,ih (fun i=>f (i+1))];simp only[fT];grind
   rw[g,fu,<-l];refine aZ fun a b _ d=>?_;simp only[a9];by_cases e:b=m
   .subst e;rw[aj rfl,aj om];simp only[cw,aI];unfold mm;have q:B b b*A a b=ap n (fun k=>if k=b then A a k*B k b else 0):=by
     rw[cF b d (fun j _ s=>by rw[ah s])];simp[bU]
    rw[q,<-dH];refine ay fun k u=>?_;rcases c8 k b with h|h|h
    .rw[p k b h d,ah om,ah om];simp
    .rw[aj h,ah om];omega
    .rw[ah om,aj h,ah om,bU];omega
   .rw[ah e];by_cases o:b<m
    .rw[aj o,aj om]
    .rw[ah o,ah om]
 rw[<-key n (ag _)];exact aZ fun a b _ d=>by rw[aj d]
theorem xU{n m:Nat}(C:az)(d:m<n)(x:Int)(c:Nat->Int):∀K,K<=n->det n (setRow C m (fun a=>x*C m a+ap K (fun k=>if m<k then c k*C k a else 0)))=x*det n C
 | 0,_=>by
  have h:=oK C d x 0 (fun a=>C m a) (fun a=>C m a);rw[show setRow C m (fun a=>C m a)=C from jC C m]at h;rw[aZ (B:=setRow C m (fun a=>x*C m a+0*C m a)) (fun a b _ _=>by simp[setRow,ap]),h];omega
 | K+1,g=>by
  have ih:=xU C d x c K om;by_cases e:m<K
  .have h:=oK C d 1 (c K) (fun a=>x*C m a+ap K (fun k=>if m<k then c k*C k a else 0)) (fun a=>C K a)
   have f:det n (setRow C m (fun a=>C K a))=0:=o0 C d om om;rw[aZ (B:=setRow C m (fun a=>1*(x*C m a+ap K (fun k=>if m<k then c k*C k a else 0))+c K*C K a)) (fun a b _ _=>by simp only[setRow,ap,aj e];split<;>grind),h,ih,f];omega
  .rw[aZ (B:=setRow C m (fun a=>x*C m a+ap K (fun k=>if m<k then c k*C k a else 0))) (fun a b _ _=>by simp only[setRow,ap,ah e];split<;>grind),ih]
def Hi(A B:az)(p:∀r c,r<c->c<n->B r c=0):det n (mm n (fun i j=>B j i) A)=fT n (fun i=>B i i)*det n A:=by
 have key:∀m,m<=n->det n (fun a b=>if a<m then mm n (fun i j=>B j i) A a b else A a b)=fT m (fun i=>B i i)*det n A:=by
  intro m
  induction m with
  | zero=>intro _;simp[fT]
  | succ m ih =>
   intro t;have l:=xU (fun a b=>if a<m then mm n (fun i j=>B j i) A a b else A a b) (om:m<n) (B m m) (fun k=>B k m) n (ag _)
   rw[ih om]at l;have g:∀(k:Nat) (f:Nat->Int),fT (k+1) f=f k*fT k f:=by
    intro k
    induction k with
    | zero=>intro f;simp[fT]
    | succ k ih=>intro f;rw[fT,ih (fun i=>f (i+1))];simp only[fT];grind
   rw[g,fu,<-l];refine aZ fun a b d _=>?_;simp only[setRow];by_cases e:a=m
   .subst e;rw[aj rfl,aj om];simp only[cw,aI];unfold mm;have q:B a a*A a b=ap n (fun k=>if k=a then B k a*A k b else 0):=by
     rw[cF a d (fun j _ s=>by rw[ah s])];simp
    rw[q,<-dH];refine ay fun k u=>?_;dsimp only;rcases c8 k a with h|h|h
    .rw[p k a h d,ah om,ah om];simp
    .rw[aj h,ah om];omega
    .rw[ah om,aj h,ah om];omega
   .rw[ah e];by_cases o:a<m
    .rw[aj o,aj om]
    .rw[ah o,ah om]
 rw[<-key n (ag _)];exact aZ fun a b d _=>by rw[aj d]
def jm(n:Nat)(H:az)(u v:gP):Int:=ap n fun i=>(ap n fun j=>H i j*v j)*u i
def lG(H:az)(c d:Int)(u u' v:gP):jm n H (fun i=>c*u i+d*u' i) v=c*jm n H u v+d*jm n H u' v:=by
 unfold jm;rw[<-pq];exact ay fun i _=>by grind
def jl(c:∀a b,a<n->b<n->H a b=H b a)(u v:gP):jm n H u v=jm n H v u:=by
 unfold jm;rw[ay (g:=fun i=>ap n fun j=>H i j*v j*u i) (fun i _=>by rw[bU,<-cG];exact ay fun j _=>by grind),qn]
 refine ay fun j d=>?_;rw[bU _ (v j),<-cG];exact ay fun i e=>by rw[c i j e d];grind
def sn{u u' v v':gP}(h:∀i,i<n->u i=u' i)(k:∀i,i<n->v i=v' i):jm n H u v=jm n H u' v' :=
 ay fun i a=>by rw[h i a,ay fun j b=>by rw[k j b]]
def Jt{w x:gP}(b:∀i,i<n->p∣(ap n fun j=>H i j*x j)-w i){a:gP}(c:p∣ap n (fun i=>w i*a i)):p∣jm n H a x:=by
 have e:jm n H a x=ap n (fun i=>w i*a i)+ap n (fun i=>((ap n fun j=>H i j*x j)-w i)*a i):=by
  rw[<-dH];exact ay fun i _=>by grind
 rw[e];exact gO c (jf fun i d=>eJ (b i d))
def Fk(e:∀a b,a<n->b<n->H a b=H b a){p:Int}{w x:gP}(f:∀i,i<n->p∣(ap n fun j=>H i j*x j)-w i)(g:p*p∣jm n H x x){y z:gP}(h:BI n p w x y)(k:BI n p w x z):p*p∣jm n H y z:=by
 obtain⟨c,a,l,m⟩:=h;obtain⟨d,b,o,q⟩:=k;rw[sn l o,lG,jl e x,jl e a,lG,lG,jl e x a];obtain⟨r,u⟩:=g;obtain⟨s,v⟩:=Jt f m;obtain⟨t,A⟩:=Jt f q;rw[u,v,A];exact⟨c*d*r+c*t+d*s+jm n H b a,by grind⟩
def uB(n:Nat)(H B:az)(i j:Nat):mm n (mm n (fun i j=>B j i) H) B i j=jm n H (fun r=>B r i) (fun r=>B r j):=by
 rw[oc];unfold mm jm;exact ay fun k _=>by rw[bU]
def Mq{G:az}(g:0<p)(f:∀r c,r<c->c<n->B r c=0)(b:∀r,r<n->0<B r r)(h:det n B=p^n)(k:∀i j,i<n->j<n->mm n (mm n (fun i j=>B j i) H) B i j=p*p*G i j):det n G=det n H:=by
 have a:=Hj (mm n (fun i j=>B j i) H) B f;rw[Hi H B f,aZ k,rA]at a;have d:=qA (n:=0) n B (by rw[aM];exact fun r l=>⟨fun j a d=>f r j a d,b r l⟩)
 rw[aM]at d;simp only[det,iw]at d;rw[<-d,h]at a;have m:(p*p)^n=p^n*p^n:=Int.mul_pow ..;rw[m]at a;have e:(0:Int)<p^n:=Ii g;have o:p^n*p^n≠0:=by have:=jN e e;omega
 exact cJ o (by rw[a,fu])
def AE{piv:Nat}(a:piv<n)(v:gP):jm n H (dp piv) v=ap n fun j=>H piv j*v j:=by
 unfold jm;rw[cF piv a (fun i _ b=>by simp[dp,b])];simp[dp]
def Cg{piv:Nat}(f:∀a b,a<n->b<n->H a b=H b a)(e:piv<n){p:Int}(I:0<p){v:gP}{sl iv N t:Int}(l:(ap n fun j=>H piv j*v j)%p=sl)(o:(2*sl%p*iv)%p=1)(u:jm n H v v%(p*p)=N)(A:jm n H v v%p=0)(B:(p-N/p)*iv%p=t) :
  p*p∣jm n H (fun k=>if k=piv then v k+p*t else v k) (fun k=>if k=piv then v k+p*t else v k):=by
 have ex:∀k,(if k=piv then v k+p*t else v k)=1*v k+(p*t)*dp piv k:=fun k=>by
  unfold dp;split<;>simp
 rw[sn (fun k _=>ex k) (fun k _=>ex k),lG,jl f v,jl f (dp piv) (fun i=>1*v i+p*t*dp piv i),lG,lG,jl f v (dp piv),AE e v];generalize jm n H (dp piv) (dp piv)=h;generalize jm n H v v=b at *;generalize (ap n fun j=>H piv j*v j)=z at *;have q:=dz b (p*p);have w:=dz z p;have C:=dz (2*sl) p;have x:=dz (2*sl%p*iv) p;have D:=dz ((p-N/p)*iv) p;have E:p*(N/p)=N:=iP (by
  have:p∣b:=dF A;obtain⟨c,J⟩:=this;exact⟨c-p*(b/(p*p)),by rw[u]at q;grind⟩)
 rw[u]at q;rw[l]at w;rw[o]at x;rw[B]at D;generalize b/(p*p)=r at *;generalize z/p=s at *;generalize 2*sl/p=a at *;generalize 2*sl%p=y at *;generalize y*iv/p=d at *;generalize N/p=k at *;generalize (p-k)*iv/p=c at *;refine⟨r+(1+(p-k)*d+a*((p-k)*iv)-2*sl*c)+2*t*s+t*t*h,?_⟩;have f1:2*sl*t=- k+p*(1+(p-k)*d+a*((p-k)*iv)-2*sl*c):=by
  have F:t=(p-k)*iv-p*c:=om
  have G:2*sl*((p-k)*iv)=(p-k)*(y*iv)+p*(a*((p-k)*iv)):=by rw[<-C];grind
  rw[F,mT,G,<-x];grind
 have g:p*k+p*(2*sl*t)=p*(p*(1+(p-k)*d+a*((p-k)*iv)-2*sl*c)):=by rw[f1];grind
 rw[<-w,<-q,<-E];generalize 1+(p-k)*d+a*((p-k)*iv)-2*sl*c=m at *
 grind

structure l9(a0 b0 c0 f0 f1 s0 s1 a b c:Int):Prop where
 qa:f0*f0*a0+2*(f0*f1*b0)+f1*f1*c0=a
 qb:f0*s0*a0+(f0*s1+f1*s0)*b0+f1*s1*c0=b
 qc:s0*s0*a0+2*(s0*s1*b0)+s1*s1*c0=c
def l9.init(a b c:Int):l9 a b c 1 0 0 1 a b c:=⟨by grind,by grind,by grind⟩
def l9.swap{b0 c0 s0 s1 c:Int}(h:l9 a0 b0 c0 f0 f1 s0 s1 a b c):l9 a0 b0 c0 s0 s1 f0 f1 c b a:=by
 obtain⟨d,f,e⟩:=h;exact⟨e,by grind,d⟩
def l9.sub{b0 c0 s0 s1 c:Int}(h:l9 a0 b0 c0 f0 f1 s0 s1 a b c)(q:Int):l9 a0 b0 c0 f0 f1 (s0-q*f0) (s1-q*f1) a (b-q*a) (c-q*(b+(b-q*a))):=by
 obtain⟨d,e,f⟩:=h;exact⟨d,by grind,by grind⟩
def l9.le{b0 c0 d E:Int}(h:f0*f0*a0+2*(f0*f1*b0)+f1*f1*c0=a)(i:a0*c0-b0*b0=d)(f:1<=d)(j:0<a0)(k:0<c0)(c:a0<=E)(e:c0<=E)(b:a<=E)(g:0<a):f0*f0<=E*E/\f1*f1<=E*E:=by
 have l:a0*a=(f0*a0+f1*b0)*(f0*a0+f1*b0)+f1*f1*d:=by grind
 have m:c0*a=(f1*c0+f0*b0)*(f1*c0+f0*b0)+f0*f0*d:=by grind
 have s1:=iN (f0*a0+f1*b0);have n:=iN (f1*c0+f0*b0);have o:=aT f (iN f1);have p:=aT f (iN f0);have q:=ck c b (a8 g) om;have r:=ck e b (a8 g) om;omega
def yu(A:az)(n k:Nat)(x:gP):Int:=ap (n-k) fun i=>(ap (n-k) fun j=>cl A k i j*x (k+j))*x (k+i)
def Pd.qSt_step(h:Pd A n)(u:n=k+(m+1))(x:gP):det k A*yu A n (k+1) x<=det (k+1) A*yu A n k x:=by
 have e:∀i j,i<m->j<m->det (k+1) A*cl A k (i+1) (j+1)=det k A*cl A (k+1) i j+cl A k (i+1) 0*cl A k (j+1) 0:=fun i j c a=>h.stg_rec2 om om;have f:∀j,j<m->cl A k 0 (j+1)=cl A k (j+1) 0:=fun j a=>h.stg_sym k 0 (j+1) om om;have g:n-k=m+1:=om
 have l:n-(k+1)=m:=om
 obtain⟨L,b⟩:∃L,L=ap m (fun j=>cl A k (j+1) 0*x (k+(j+1))):=⟨_,rfl⟩;obtain⟨Q,d⟩:∃Q,Q=ap m (fun i=>(ap m fun j=>cl A k (i+1) (j+1)*x (k+(j+1)))*x (k+(i+1))):=⟨_,rfl⟩;have o:yu A n k x=det (k+1) A*x k*x k+L*x k+(x k*L+Q):=by
  unfold yu;rw[g,iG];have p:(ap (m+1) fun j=>cl A k 0 j*x (k+j))=det (k+1) A*x k+L:=by
   rw[iG,cH,b];congr 1;exact ay fun j a=>by rw[f j a]
  have q:ap m (fun i=>(ap (m+1) fun j=>cl A k (i+1) j*x (k+j))*x (k+(i+1)))=x k*L+Q:=by
   rw[b,d,<-cG,<-dH];refine ay fun i _=>?_;rw[iG,cB]
   grind
  rw[p,q,sG];rfl
 have r:det (k+1) A*Q=det k A*yu A n (k+1) x+L*L:=by
  unfold yu;rw[l,d,<-cG,<-cG];have s:L*L=ap m (fun i=>L*(cl A k (i+1) 0*x (k+(i+1)))):=by rw[cG,<-b]
  rw[s,<-dH];refine ay fun i c=>?_;have v:det (k+1) A*(ap m fun j=>cl A k (i+1) (j+1)*x (k+(j+1)))=det k A*(ap m fun j=>cl A (k+1) i j*x (k+1+j))+cl A k (i+1) 0*L:=by
   rw[b,<-cG,<-cG,<-cG,<-dH];refine ay fun j a=>?_;have:=e i j c a;rw[(om:k+1+j=k+(j+1))]
   grind
  rw[(om:k+1+i=k+(i+1))]
  grind
 have t:=iN (det (k+1) A*x k+L);have w:det (k+1) A*yu A n k x=(det (k+1) A*x k+L)*(det (k+1) A*x k+L)+det k A*yu A n (k+1) x:=by
  rw[o];grind
 omega
def Pd.qSt_le(h:Pd A n)(x:gP):∀k,k<n->yu A n k x<=det k A*yu A n 0 x
 | 0,_=>by simp[det]
 | k+1,d=>by
  have ih:=h.qSt_le x k om;have f:=h.qSt_step (k:=k) (m:=n-k-1) om x;have c:=h.pos k om;have b:=h.pos (k+1) om;have g:=aT ih (a8 b);refine iB (a:=det k A) ?_ c;have e:det k A*(det (k+1) A*yu A n 0 x)=det (k+1) A*(det k A*yu A n 0 x):=by grind
  omega
def zP(A:az)(n:Nat)(x:gP):yu A n 0 x=jm n A x x:=by
 unfold yu jm;simp only[eV,aM,dD]
def Pd.last_sq(h:Pd A (n+1))(x:gP):x n*x n<=det n A*jm (n+1) A x x:=by
 have a:=h.qSt_le x n om;rw[zP]at a;have e:yu A (n+1) n x=det (n+1) A*x n*x n:=by
  unfold yu;rw[(om:n+1-n=1)]
  simp[ap,cH]
 rw[e]at a;have b:=h.pos (n+1) om;have:=bK (om:1<=det (n+1) A) (iN (x n))
 have c:det (n+1) A*x n*x n=det (n+1) A*(x n*x n):=by grind
 omega
def Pd.det_le(h:Pd A n){E:Int}(a:∀i,i<n->A i i<=E):∀k,k<=n->det k A<=E^k
 | 0,_=>by simp[det]
 | k+1,c=>by
  have d:=h.hadamard (k:=k) om;have b:=a k om;have e:=ck (h.det_le a k om) b (a8 (h.diag om)) (by have:=h.pos k om;have:=h.det_le a k om;omega)
  rw[eH];omega
def BZ(b:i+1<n)(f:Nat->Int):ap n (fun a=>f (dq i (i+1) a))=ap n f:=by
 have h:=BY (n:=n) (f:=fun a=>f (dq i (i+1) a)-f a) i b (fun a _ c d=>by
  have:dq i (i+1) a=a:=by unfold dq;rw[ah c,ah d]
  rw[this];omega)
 rw[lj]at h;have e:dq i (i+1) i=i+1:=by unfold dq;rw[aj rfl]
 have g:dq i (i+1) (i+1)=i:=by unfold dq;rw[ah om,aj rfl]
 rw[e,g]at h;omega
theorem Pd.coord{n:Nat}{E:Int}:∀(m:Nat) {A:az} (x:gP) (j:Nat),Pd A (n+1)->(∀i,i<n+1->A i i<=E)->j+m=n->x j*x j<=E^n*jm (n+1) A x x
 | 0,A,x,j,h,d,k=>by
  obtain rfl:j=n:=om
  have c:=h.last_sq x;have l:=h.det_le d j om;have o:0<=jm (j+1) A x x:=by
   have p:=h.pos j om;have:=iN (x j);rcases jo (jm (j+1) A x x) 0 with e|e
   .have:=Int.mul_neg_of_pos_of_neg p e;omega
   .exact e
  have:=bK l o;omega
 | m+1,A,x,j,h,d,k=>by
  have q:=h.swap (i:=j+1) om om;have f:∀a,a<n+1->dq j (j+1) a<n+1:=fun a u=>by unfold dq;split<;>(try split)<;>omega
  have c:=Pd.coord m (A:=xG A (j+1)) (fun a=>x (dq j (j+1) a)) (j+1) q (fun i r=>d _ (f i r)) om;have s:dq j (j+1) (j+1)=j:=by unfold dq;rw[ah om,aj rfl]
  have t:jm (n+1) (xG A (j+1)) (fun a=>x (dq j (j+1) a)) (fun a=>x (dq j (j+1) a))=jm (n+1) A x x:=by
   unfold jm;have g:∀a,ap (n+1) (fun b=>xG A (j+1) a b*x (dq j (j+1) b))=ap (n+1) (fun b=>A (dq j (j+1) a) b*x b):=fun a=>BZ om (fun b=>A (dq j (j+1) a) b*x b);rw[ay fun a _=>by rw[g a]]
   exact BZ om (fun a=>ap (n+1) (fun b=>A a b*x b)*x a)
  rw[t]at c;simp only[s]at c;exact c
def Pd.lam_le(h:Pd A n){D W:Int}(a:∀k,k<=n->det k A<=D){i c:Nat}(o:c<i)(d:i<n)(e:A i i<=W):fq A i c*fq A i c<=D*(D*W):=by
 have f:=h.lam_sq (k:=c) (i:=i-c-1) om;rw[(om:i-c-1+1=i-c)]at f
 have b:=h.stg_up c (i-c) om;rw[(om:c+(i-c)=i)]at b
 have g:=h.pos (c+1) om;have p:=h.pos c om;have j:=h.diag d;have l:cl A c (i-c) (i-c)<=D*W:=cY b (ck (a c om) e (a8 j) (by have:=a c om;omega))
 have m:=h.stg_pos (i-c) c om;have q:=ck (a (c+1) om) l (a8 m) (by have:=a c om;omega)
 unfold fq;omega

def gT(Q:az)(n:Nat)(T:az):az:=fun a b=>jm n Q (T a) (T b)
def nV(T:az)(k j:Nat)(q:Int):az:=fun a b=>if a=k then T k b-q*T j b else T a b
def pM(e:∀a b,a<n->b<n->H a b=H b a)(c d:Int)(u v v':gP):jm n H u (fun i=>c*v i+d*v' i)=c*jm n H u v+d*jm n H u v':=by
 rw[jl e,lG,jl e v,jl e v']
def wJ(f:∀a b,a<n->b<n->Q a b=Q b a):gT Q n (nV T k j q)=j8 (gT Q n T) k j (-q):=by
 have g:nV T k j q k=fun i=>1*T k i+(-q)*T j i:=by
  funext b;simp only[nV,aH];grind
 have e:∀a,a≠k->nV T k j q a=T a:=fun a c=>by funext b;simp[nV,c]
 funext a b;simp only[gT,j8];by_cases c:a=k
 .subst c;by_cases d:b=a
  .subst d;rw[g,lG,pM f,pM f];simp only[aH,SE];grind
  .rw[g,e b d,lG];simp only[d,aH,aI,Ti];grind
 .by_cases d:b=k
  .subst d;rw[g,e a c,pM f];simp only[c,aH,aI,false_and];grind
  .rw[e a c,e b d];simp[c,d]
def DD{s0 s1:Int}(e:∀a b,a<n->b<n->Q a b=Q b a)(p:0<k):gT Q n (ip T k f0 f1 s0 s1)=je (gT Q n T) k f0 f1 s0 s1:=by
 have d:k≠k-1:=om
 have l:ip T k f0 f1 s0 s1 (k-1)=fun i=>f0*T (k-1) i+f1*T k i:=by funext b;simp[ip]
 have m:ip T k f0 f1 s0 s1 k=fun i=>s0*T (k-1) i+s1*T k i:=by funext b;simp[ip,d]
 have h:∀a,a≠k-1->a≠k->ip T k f0 f1 s0 s1 a=T a:=fun a f g=>by funext b;simp[ip,f,g]
 have o:∀a:Nat,a=k-1∨a=k∨(a≠k-1/\a≠k):=fun a=>om
 funext a b;simp only[gT,je];rcases o a with rfl|rfl|⟨f,g⟩<;>rcases o b with c|c|⟨c,j⟩
 .rw[c,l,lG,pM e,pM e];simp only[ip,gT,aH];grind
 .rw[c,l,m,lG,pM e,pM e];simp only[ip,gT,aH,d,aI];grind
 .rw[l,h b c j,lG];simp only[ip,gT,aH,c,j,aI]
 .rw[c,l,m,lG,pM e,pM e];simp only[ip,gT,aH,d,aI];grind
 .rw[c,m,lG,pM e,pM e];simp only[ip,gT,aH,d,aI];grind
 .rw[m,h b c j,lG];simp only[ip,gT,aH,c,j,d,aI]
 .rw[c,l,h a f g,pM e];simp only[ip,gT,aH,f,g,aI]
 .rw[c,m,h a f g,pM e];simp only[ip,gT,aH,f,g,d,aI]
 .rw[h a f g,h b c j];simp only[ip,gT,f,g,c,j,aI]
def po(T:az):az:=fun i j=>T j i
def MB(d:k<n)(e:j<n)(c:k≠j):det n (po (nV T k j q))=det n (po T):=by
 have h:=lD (n:=n) (i:=k) (k:=j) (po T) d e c 1 (-q);rw[cU]at h;rw[<-h];congr 1;funext a b;simp only[nV,po,a9];split<;>grind
def sR(A:az)(c:i<n)(d:k<n)(b:i≠k):det n (a9 A i (fun a=>A a k))=0:=by
 rcases aB i k with h|h
 .exact kt _ h d fun j _=>by simp[a9,ai b]
 .exact kt _ (om:k<i) c fun j _=>by simp[a9,ai b]
def MG{s0 s1:Int}(m:0<k)(d:k<n):det n (po (ip T k f0 f1 s0 s1))=(f0*s1-f1*s0)*det n (po T):=by
 have c:k-1≠k:=om
 have e:po (ip T k f0 f1 s0 s1)=a9 (a9 (po T) k (fun b=>s0*po T b (k-1)+s1*po T b k)) (k-1) (fun b=>f0*po T b (k-1)+f1*po T b k):=by
  funext a b;simp only[ip,po,a9]
 generalize po T=A at *;have f:∀X:Nat->Int,det n (a9 (a9 A k (fun b=>s0*A b (k-1)+s1*A b k)) (k-1) X)=s0*det n (a9 (a9 A (k-1) X) k (fun b=>A b (k-1)))+s1*det n (a9 (a9 A (k-1) X) k (fun b=>A b k)):=fun X=>by
  rw[ik A (i:=k) (k:=k-1) om,m9 _ d]
 have g:det n (a9 (a9 A (k-1) (fun b=>A b (k-1))) k (fun b=>A b (k-1)))=0:=by
  rw[ij];exact sR A d om om
 have z2:det n (a9 (a9 A (k-1) (fun b=>A b (k-1))) k (fun b=>A b k))=det n A:=by rw[ij,ij]
 have z3:det n (a9 (a9 A (k-1) (fun b=>A b k)) k (fun b=>A b (k-1)))=- det n A:=uO A om d c;have h:det n (a9 (a9 A (k-1) (fun b=>A b k)) k (fun b=>A b k))=0:=by
  have j:=sR A (i:=k-1) (k:=k) om d c;have l:a9 (a9 A (k-1) (fun b=>A b k)) k (fun b=>A b k)=a9 A (k-1) (fun b=>A b k):=by
   rw[ik A c,ij]
  rw[l];exact j
 rw[e,m9 _ om,f,f,g,z2,z3,h]
 grind
def zu{m:Int}(c:0<a)(d:m*m<=a*b)(x y:Int):x*x*a+2*(x*y*m)+y*y*b<=2*(x*x*a+y*y*b):=by
 have:=MH c d (u:=y) (v:=x)
 grind
def gn(l d:Int):Int:=(l+l+d)/(d+d)
def z8{d:Int}(a:0<d):2*((l-gn l d*d).natAbs:Int)<=d:=by
 have h:=I3 (l:=l) a;rw[show l+-((2*l+d)/(2*d))*d=l-gn l d*d by
  unfold gn;rw[(om:l+l+d=2*l+d),(om:d+d=2*d)]
  grind]at h
 exact h
def E5{d:Int}(e:0<d):gn l d*gn l d<=4*(l*l)+4:=by
 have h:=z8 (l:=l) e;generalize gn l d=q at *;have f:2*((q*d).natAbs:Int)<=2*(l.natAbs:Int)+d:=om
 rw[cP]at f;have i:((q.natAbs*d.natAbs:Nat):Int)=(q.natAbs:Int)*d:=by rw[aV];congr 1;omega
 rw[i]at f;have g:(q.natAbs:Int)<=(l.natAbs:Int)+1:=by
  rcases jo ((l.natAbs:Int)+1) q.natAbs with b|b
  .exfalso;have a:=bK (show(l.natAbs:Int)+2<=q.natAbs by omega) (a8 e)
   rw[sG]at a;have j:=aT (show(1:Int)<=d by omega) (show(0:Int)<=(l.natAbs:Int) by omega)
   omega
  .exact b
 have b:(q.natAbs:Int)*q.natAbs=q*q:=by rw[<-aV,kd]
 have a:(l.natAbs:Int)*l.natAbs=l*l:=by rw[<-aV,kd]
 have j:=ck g g om om;have k:((l.natAbs:Int)+1)*((l.natAbs:Int)+1)=l*l+2*(l.natAbs:Int)+1:=by rw[<-a];grind
 have m:(l.natAbs:Int)<=l*l:=by
  rw[<-a];rcases bD l.natAbs with c|c
  .rw[c];simp
  .have:=aT (show(1:Int)<=l.natAbs by omega) (show(0:Int)<=l.natAbs by omega)
   omega
 have c:=iN l;omega
def qw(a:Nat):(0:Int)<2^a:=Ii om
def oa(a b:Nat):(2:Int)^(a+b)=2^a*2^b:=Int.pow_add ..
def tc{a b:Nat}(c:0<=y)(d:x<=2^a)(e:y<=2^b):x*y<=2^(a+b):=by
 rw[oa];exact ck d e c (a8 (qw a))
def GN(a:Nat):(1:Int)<=2^a:=qw a
def rj{a:Nat}(h:x*x<=2^(2*a)):(x.natAbs:Int)<=2^a:=by
 refine rY (a8 (qw a)) ?_;rw[<-oa,(om:a+a=2*a)];exact h
def oE{a b:Nat}(h:(x.natAbs:Int)<=2^a)(d:a<b):x.natAbs<2^b:=by
 have c:=d9 (om:a+1<=b)
 have e:=qw a;have f:((2^b:Nat):Int)=(2:Int)^b:=by simp
 rw[eH]at c;omega
structure LS(Q:az)(n d:Nat)(w:Nat->Nat)(T:az):Prop where
 pd:Pd (gT Q n T) n
 lead:∀k,k<=n->det k (gT Q n T)<=2^d
 uni:det n (po T)*det n (po T)=1
 dg:∀i,i<n->gT Q n T i i<=2^(w i)
def LS.weak(h:LS Q n d w T)(a:∀i,i<n->gT Q n T i i<=2^(w' i)):LS Q n d w' T:=⟨h.pd,h.lead,h.uni,a⟩
def LS.lamB(h:LS Q n d w T){i c:Nat}(b:c<i)(a:i<n):fq (gT Q n T) i c*fq (gT Q n T) i c<=2^(d+(d+w i)):=by
 have e:=h.pd.lam_le h.lead b a (h.dg i a);rw[oa,oa];exact e
def LS.coord{e:Nat}(h:LS Q (n+1) d w T)(c:Pd Q (n+1))(f:∀i,i<n+1->Q i i<=2^e)(g:e*n<=d){i j:Nat}(a:i<n+1)(p:j<n+1):T i j*T i j<=2^(d+w i):=by
 have k:=c.coord (n-j) (T i) j f om;have l:=h.dg i a;have m:((2:Int)^e)^n<=2^d:=by rw[<-SM];exact d9 g
 have o:=h.pd.diag a;have b:=ck m l (a8 o) (a8 (qw d));rw[<-oa]at b;exact cY k b
def LS.sub(h:LS Q n d w T)(t:∀a b,a<n->b<n->Q a b=Q b a){k j:Nat}(m:j<k)(o:k<n)(p:w j<=d+3) :
  LS Q n d (fun i=>if i=k then w k+(3*d+8)else w i) (nV T k j (gn (fq (gT Q n T) k j) (det (j+1) (gT Q n T)))):=by
 have u:=h.pd.pos (j+1) om;have D:=E5 (l:=fq (gT Q n T) k j) u;have E:=h.lamB m o;generalize gn (fq (gT Q n T) k j) (det (j+1) (gT Q n T))=q at *;have e:=wJ (T:=T) (k:=k) (j:=j) (q:=q) t;have v:Pd (gT Q n (nV T k j q)) n:=by rw[e];exact h.pd.add m o
 refine⟨v,fun c x=>by rw[e,fo m];exact h.lead c x,by rw[MB o om om];exact h.uni,fun i g=>?_⟩
 rw[e];by_cases f:i=k
 .subst f
  try dsimp only
  rw[aj rfl];have y:j8 (gT Q n T) i j (-q) i i=1*1*gT Q n T i i+2*(1*(-q)*gT Q n T i j)+(-q)*(-q)*gT Q n T j j:=by
   simp only[j8,aH,SE];have:=h.pd.sym i j g om
   grind
  rw[y];have z:=zu (h.pd.diag g) (h.pd.cs0 g (om:j<n)) 1 (-q)
  have F:=h.dg i g;have A:=h.dg j om;have r:=h.pd.diag (om:j<n)
  have B:=d9 p;have s:(-q)*(-q)=q*q:=by grind
  rw[s]at z ⊢;have C:q*q<=2^(d+(d+w i)+3):=by
   have:=GN (d+(d+w i));rw[oa];omega
  have G:=tc (a8 r) C (cY A B);have H:=d9 (om:w i<=d+(d+w i)+3+(d+3))
  have I:=d9 (om:d+(d+w i)+3+(d+3)+2<=w i+(3*d+8))
  have J:=oa (d+(d+w i)+3+(d+3)) 2;omega
 .try dsimp only
  rw[ah f,lI _ f f];exact h.dg i g
def LS.row(h:LS Q n d w T)(e:n<=8){k:Nat}(a:k<n)(b:∀j,j<k->ig (gT Q n T) k j):gT Q n T k k<=2^(d+3):=by
 have f:=h.pd.sized_norm (D:=2^d) a (fun c g=>h.lead (c+1) om) b;have i:=bK (show((k+1:Nat):Int)<=8 by omega) (a8 (qw d))
 rw[oa];omega
structure PL where
 a:Int
 b:Int
 c:Int
 f0:Int
 f1:Int
 s0:Int
 s1:Int
def PL.nx(p:PL):PL:=⟨p.c,p.b-gn p.b p.c*p.c,p.a-gn p.b p.c*(p.b+(p.b-gn p.b p.c*p.c)),p.s0,p.s1,p.f0-gn p.b p.c*p.s0,p.f1-gn p.b p.c*p.s1⟩
def sB:Nat->PL->PL
 | 0,p=>p
 | m+1,p=>if 4*p.c<3*p.a then sB m p.nx else p
def mI(A:az)(k:Nat):PL:=⟨det k A,fq A k (k-1),cl A (k-1) 1 1,1,0,0,1⟩
structure AT(A:az)(n k e:Nat)(p:PL):Prop where
 pl:pS A n k p.f0 p.f1 p.s0 p.s1 p.a p.b p.c
 q:l9 (det k A) (fq A k (k-1)) (cl A (k-1) 1 1) p.f0 p.f1 p.s0 p.s1 p.a p.b p.c
 a:p.a<=2^e
 c:p.c<=2^e
def AT.pos{e:Nat}{p:PL}(h:AT A n k e p)(f:0<k)(g:k<n):0<p.a/\0<p.c:=by
 have b:=h.pl.pd.pos k om;have d:=h.pl.pd.stg_pos 1 (k-1) om;rw[h.pl.pa]at b;rw[h.pl.pc]at d;exact⟨b,d⟩
def AT.nx{e:Nat}{p:PL}(z:Pd A n)(h:AT A n k e p)(g:0<k)(i:k<n)(B:det (k-1) A*det (k+1) A+1<=2^e)(C:4*p.c<3*p.a):AT A n k e p.nx/\p.nx.a<p.a:=by
 obtain⟨t,d⟩:=h.pos g i;have f:=(h.pl.swap g i).sub (gn p.b p.c) g i;have u:=h.q.swap.sub (gn p.b p.c);have j:=z8 (l:=p.b) d;have m:=f.ac;refine⟨⟨f,u,h.c,?_⟩,by show p.c<p.a;omega⟩
 show p.a-gn p.b p.c*(p.b+(p.b-gn p.b p.c*p.c))<=2^e;have v:=QS j;have w:=h.c;have D:=h.a;generalize p.a-gn p.b p.c*(p.b+(p.b-gn p.b p.c*p.c))=c' at *;generalize p.b-gn p.b p.c*p.c=b' at *;rcases jo (2^e) c' with o|o
 .exfalso;have r:=aT (show(2:Int)^e+1<=c' by omega) (a8 d)
  rw[zd,iw]at r;have E:=aT w (a8 d);have F:=bK (show(1:Int)<=p.c by omega) (a8 (qw e))
  rcases jo p.c 2 with s|s
  .have x:p.c=1:=om
   rw[x]at m v r;omega
  .have y:=bK s (a8 (qw e));omega
 .exact o
theorem Dg{A:az}{n k e:Nat}(f:Pd A n)(b:0<k)(d:k<n)(g:det (k-1) A*det (k+1) A+1<=2^e):∀(m:Nat) (p:PL),AT A n k e p->p.a<=m->AT A n k e (sB m p)/\¬4*(sB m p).c<3*(sB m p).a/\(sB m p).a<=p.a
 | 0,p,h,i=>by have:=h.pos b d;omega
 | m+1,p,h,i=>by
  unfold sB;split
  .rename_i j;obtain⟨l,r⟩:=h.nx f b d g j;obtain⟨o,q,s⟩:=Dg f b d g m p.nx l om;exact⟨o,q,om⟩
  .exact⟨h,‹_›,om⟩
def AT.sq{e:Nat}{p:PL}(d:Pd A n)(h:AT A n k e p)(o:0<k)(r:k<n)(s:det k A<=2^e)(t:cl A (k-1) 1 1<=2^e):p.b*p.b<=2^(2*e)/\p.f0*p.f0<=2^(2*e)/\p.f1*p.f1<=2^(2*e)/\p.s0*p.s0<=2^(2*e)/\p.s1*p.s1<=2^(2*e):=by
 obtain⟨j,f⟩:=h.pos o r;have l:=d.pos (k-1) om;have m:=d.pos (k+1) om;have g:=d.pos k om;have u:=d.stg_pos 1 (k-1) om;have v:=(pS.init d o r).ac;have y:=h.pl.ac;have i:1<=det (k-1) A*det (k+1) A:=by have:=jN l m;omega
 have w:=l9.le h.q.qa v i g u s t h.a j;have x:=l9.le h.q.qc v i g u s t h.c f;have z:(2:Int)^(2*e)=2^e*2^e:=by rw[(om:2*e=e+e),oa]
 have B:=ck h.a h.c (a8 f) (a8 (qw e));rw[z];exact⟨om,w.1,w.2,x.1,x.2⟩
def AT.init{e:Nat}(a:Pd A n)(b:0<k)(c:k<n)(d:det k A<=2^e)(f:cl A (k-1) 1 1<=2^e):AT A n k e (mI A k):=⟨pS.init a b c,l9.init _ _ _,d,f⟩
def LS.plane(h:LS Q n d w T){k:Nat}(q:0<k)(b:k<n)(e:w k<=d+3) :
  det k (gT Q n T)<=2^(2*d+4)/\cl (gT Q n T) (k-1) 1 1<=2^(2*d+4)/\det (k-1) (gT Q n T)*det (k+1) (gT Q n T)+1<=2^(2*d+4):=by
 have r:=h.lead k om;have c:=h.lead (k-1) om;have f:=h.lead (k+1) om;have g:=h.dg k b;have i:=d9 e;have j:=h.pd.stg_up (k-1) 1 om;rw[(om:k-1+1=k)]at j
 have l:=h.pd.diag b;have m:=h.pd.pos (k+1) om;have s:=tc (a8 l) c (cY g i);have t:=tc (a8 m) c f;have u:=d9 (om:d<=2*d+4)
 have o:=d9 (om:d+(d+3)<=2*d+4)
 have a:=d9 (om:d+d+1<=2*d+4)
 rw[eH]at a;have p:=GN (d+d);exact⟨om,om,om⟩
def LS.blk(h:LS Q n d w T)(D:∀a b,a<n->b<n->Q a b=Q b a){k:Nat}(o:0<k)(f:k<n)(B:w k<=d+3)(q:w (k-1)<=d+3){p:PL}(j:AT (gT Q n T) n k (2*d+4) p)(E:p.a<=det k (gT Q n T)) :
  LS Q n d (fun i=>if i=k∨i=k-1 then 5*d+13 else w i) (ip T k p.f0 p.f1 p.s0 p.s1):=by
 have e:=DD (T:=T) (k:=k) (f0:=p.f0) (f1:=p.f1) (s0:=p.s0) (s1:=p.s1) D o;obtain⟨r,s,F⟩:=h.plane o f B;obtain⟨_,G,H,I,J⟩:=j.sq h.pd o f r s;have v:k≠k-1:=om
 have z:Pd (gT Q n (ip T k p.f0 p.f1 p.s0 p.s1)) n:=by rw[e];exact j.pl.pd
 have hnorm:∀x y:Int,x*x<=2^(2*(2*d+4))->y*y<=2^(2*(2*d+4))->x*x*gT Q n T (k-1) (k-1)+2*(x*y*gT Q n T (k-1) k)+y*y*gT Q n T k k<=2^(5*d+13):=fun x y K L=>by
  have l:=zu (h.pd.diag (om:k-1<n)) (h.pd.cs0 (om:k-1<n) f) x y
  have M:=h.pd.diag (om:k-1<n)
  have N:=h.pd.diag f;have g:=tc (a8 M) K (cY (h.dg (k-1) om) (d9 q));have P:=tc (a8 N) L (cY (h.dg k f) (d9 B));have R:=d9 (om:2*(2*d+4)+(d+3)+2<=5*d+13)
  have S:=oa (2*(2*d+4)+(d+3)) 2;omega
 refine⟨z,fun c C=>?_,?_,fun i O=>?_⟩
 .rw[e];by_cases m:c=k
  .subst m;rw[j.pl.pa];exact cY E (h.lead c C)
  .rw[j.pl.lead c m];exact h.lead c C
 .rw[MG o f];have:=j.pl.pu;have g:=h.uni;generalize p.f0*p.s1-p.f1*p.s0=u at *;generalize det n (po T)=t at *;have:u*t*(u*t)=(u*u)*(t*t):=by grind
  rw[this,‹u*u=1›,g];rfl
 .rw[e]
  try dsimp only
  have U:=h.pd.sym (k-1) k om f;by_cases l:i=k
  .rw[aj (a6 l),l];have A:je (gT Q n T) k p.f0 p.f1 p.s0 p.s1 k k=p.s0*p.s0*gT Q n T (k-1) (k-1)+2*(p.s0*p.s1*gT Q n T (k-1) k)+p.s1*p.s1*gT Q n T k k:=by
    simp only[je,ip,v,aI,aH];grind
   rw[A];exact hnorm _ _ I J
  .by_cases g:i=k-1
   .rw[aj (aQ g),g];have A:je (gT Q n T) k p.f0 p.f1 p.s0 p.s1 (k-1) (k-1)=p.f0*p.f0*gT Q n T (k-1) (k-1)+2*(p.f0*p.f1*gT Q n T (k-1) k)+p.f1*p.f1*gT Q n T k k:=by
     simp only[je,ip,aH];grind
    rw[A];exact hnorm _ _ G H
   .rw[ah om,kQ _ g l g l];exact h.dg i O

def N2(Q:az)(n k j:Nat)(T:az):az:=if 2*((fq (gT Q n T) k j).natAbs:Int)<=det (j+1) (gT Q n T)then T else nV T k j (gn (fq (gT Q n T) k j) (det (j+1) (gT Q n T)))
def nU(Q:az)(n k:Nat):Nat->az->az
 | 0,T=>T
 | j+1,T=>nU Q n k j (N2 Q n k j T)
def wR(d k m i:Nat):Nat:=if i=k then 5*d+13+m*(3*d+8)else if i<k then d+3 else 5*d+13
def NQ{m':Nat}(h:m<=m'):wR d k m i<=wR d k m' i:=by
 unfold wR;by_cases e:i=k
 .rw[aj e,aj e];have:=aq (3*d+8) h;omega
 .rw[ah e,ah e];exact ag _
def NP:(if i=k then wR d k m k+(3*d+8)else wR d k m i)<=wR d k (m+1) i:=by
 unfold wR;by_cases e:i=k
 .rw[aj e,aj e,aj rfl];have a:(m+1)*(3*d+8)=m*(3*d+8)+(3*d+8):=cj m (3*d+8);omega
 .rw[ah e,ah e,ah e];exact ag _
structure Eb(Q:az)(n d k j:Nat)(T:az):Prop where
 ls:LS Q n d (wR d k (k-j)) T
 ok:kh (gT Q n T) k
 sz:∀c,j<=c->c<k->ig (gT Q n T) k c
def EQ(d:∀a b,a<n->b<n->Q a b=Q b a)(e:j<k)(c:Nat):det c (gT Q n (N2 Q n k j T))=det c (gT Q n T):=by
 unfold N2;split
 .rfl
 .rw[wJ d,fo e]
theorem zK{Q:az}{n k:Nat}(d:∀a b,a<n->b<n->Q a b=Q b a):∀(j:Nat) (T:az),j<=k->∀c,det c (gT Q n (nU Q n k j T))=det c (gT Q n T)
 | 0,T,_,c=>rfl
 | j+1,T,e,c=>by
  rw[nU,zK d j _ om,EQ d e]
def Eb.step(h:Eb Q n d k (j+1) T)(v:∀a b,a<n->b<n->Q a b=Q b a)(g:j<k)(w:k<n):Eb Q n d k j (N2 Q n k j T):=by
 have x:k-j=k-(j+1)+1:=om
 unfold N2;split
 .rename_i y;refine⟨h.ls.weak fun i s=>?_,h.ok,fun c t f=>?_⟩
  .exact cY (h.ls.dg i s) (d9 (NQ om))
  .rcases aB c (j+1)with o|o
   .obtain rfl:c=j:=om
    exact y
   .exact h.sz c o f
 .have m:=h.ls.sub v g w (by unfold wR;rw[ah om,aj g];exact ag _)
  have u:=z8 (l:=fq (gT Q n T) k j) (h.ls.pd.pos (j+1) om);generalize gn (fq (gT Q n T) k j) (det (j+1) (gT Q n T))=q at *;have e:=wJ (T:=T) (k:=k) (j:=j) (q:=q) v;refine⟨m.weak fun i s=>?_,?_,fun c t f=>?_⟩
  .rw[x];exact cY (m.dg i s) (d9 NP)
  .rw[e];refine⟨fun r p c t=>?_,fun r z p=>?_⟩
   .have:=h.ok.1 r p c t;unfold ig at this ⊢;rw[mA p om,fo g];exact this
   .have:=h.ok.2 r z p;unfold gS at this ⊢;rw[mA p om,fo g,fo g,fo g];exact this
  .rw[e];unfold ig;rw[fo g];rcases aB c (j+1)with o|o
   .obtain rfl:c=j:=om
    rw[mB g];have A:fq (gT Q n T) k c+-q*det (c+1) (gT Q n T)=fq (gT Q n T) k c-q*det (c+1) (gT Q n T):=by grind
    rw[A];exact u
   .rw[rI o f];exact h.sz c o f
theorem ET{Q:az}{n d k:Nat}(c:∀a b,a<n->b<n->Q a b=Q b a)(e:k<n):∀(j:Nat) (T:az),j<=k->Eb Q n d k j T->Eb Q n d k 0 (nU Q n k j T)
 | 0,T,_,h=>h
 | j+1,T,f,h=>ET c e j _ om (h.step c f e)
def LS.rowI(h:LS Q n d (fun _=>5*d+13) T)(e:n<=8)(g:k<n)(b:kh (gT Q n T) k):Eb Q n d k k T:=by
 refine⟨h.weak fun i a=>?_,b,fun c l m=>om⟩
 unfold wR;split
 .exact cY (h.dg i a) (d9 om)
 .split
  .exact h.row e a fun j f=>b.1 i ‹_› j f
  .exact h.dg i a
def Eb.fin(h:Eb Q n d k 0 T)(c:n<=8)(f:k<n):LS Q n d (fun i=>if i<=k then d+3 else 5*d+13) T:=by
 refine h.ls.weak fun i g=>?_;have a:=h.ls.dg i g;unfold wR at a
 try dsimp only
 by_cases e:i=k
 .subst e;rw[aj (ag _)];exact h.ls.row c f fun j l=>h.sz j om l
 .rw[ah e]at a;by_cases b:i<k
  .rw[aj b]at a;rw[aj om];exact a
  .rw[ah b]at a;rw[ah om];exact a
def Q9(Q:az)(n k:Nat)(T:az):Nat:=if 4*(mI (gT Q n T) k).c<3*(mI (gT Q n T) k).a then max 1 (k-1)else k+1
def Dh(A:az)(k:Nat):PL:=sB (mI A k).a.toNat (mI A k)
def Q8(Q:az)(n k:Nat)(T:az):az:=if 4*(mI (gT Q n T) k).c<3*(mI (gT Q n T) k).a then ip T k (Dh (gT Q n T) k).f0 (Dh (gT Q n T) k).f1 (Dh (gT Q n T) k).s0 (Dh (gT Q n T) k).s1 else T
def E9(Q:az)(n:Nat):Nat->Nat->az->az
 | 0,_,T=>T
 | m+1,k,T=>if k<n then E9 Q n m (Q9 Q n k (nU Q n k k T)) (Q8 Q n k (nU Q n k k T))else T
structure wZ(Q:az)(n d k:Nat)(T:az):Prop where
 k1:1<=k
 kn:k<=n
 ls:LS Q n d (fun _=>5*d+13) T
 ok:kh (gT Q n T) k
 dn:det n (gT Q n T)=det n Q
def Nz(Q:az)(n k:Nat)(T:az):Nat:=Ge (gT Q n T) n*(n+1)+(n-k)
def oN{s0 s1:Int}(h:c<k-1)(j:i≠k-1)(f:i≠k)(g:c<i):fq (je A k f0 f1 s0 s1) i c=fq A i c:=by
 unfold fq cl;refine aZ fun a b l m=>?_;have d:up c (fun _=>i-c) a≠k-1/\up c (fun _=>i-c) a≠k:=by rw[kf];split<;>omega
 have e:up c (fun _=>0) b≠k-1/\up c (fun _=>0) b≠k:=by rw[kf];split<;>omega
 exact kQ A d.1 d.2 e.1 e.2
def LR(h:LS Q n d w T)(b:0<k)(e:k<n)(g:w k<=d+3):AT (gT Q n T) n k (2*d+4) (Dh (gT Q n T) k)/\¬4*(Dh (gT Q n T) k).c<3*(Dh (gT Q n T) k).a/\(Dh (gT Q n T) k).a<=det k (gT Q n T):=by
 obtain⟨i,j,l⟩:=h.plane b e g;have f:=AT.init h.pd b e i j;exact Dg h.pd b e l _ _ f (by have:=(f.pos b e).1;omega)
def GK{e:Nat}(g:Pd A n)(b:0<k)(d:k<n)(i:det (k-1) A*det (k+1) A+1<=2^e){m:Nat}{p:PL}(h:AT A n k e p)(f:p.a<=m)(j:4*p.c<3*p.a):4*(sB m p).a<=3*p.a:=by
 match m,f with
 | 0,f=>have:=(h.pos b d).1;omega
 | m+1,f =>
  unfold sB;rw[aj j];obtain⟨l,o⟩:=h.nx g b d i j;have:=(Dg g b d i m p.nx l om).2.2;have e:p.nx.a=p.c:=rfl;omega
def wZ.step(h:wZ Q n d k T)(C:∀a b,a<n->b<n->Q a b=Q b a)(u:n<=8)(j:k<n):wZ Q n d (Q9 Q n k (nU Q n k k T)) (Q8 Q n k (nU Q n k k T))/\Nz Q n (Q9 Q n k (nU Q n k k T)) (Q8 Q n k (nU Q n k k T))<Nz Q n k T:=by
 have t:=ET C j k T (ag _) (h.ls.rowI u j h.ok);have E:=zK C k T (ag k);have m:Ge (gT Q n (nU Q n k k T)) n=Ge (gT Q n T) n:=qu fun c _=>by rw[E]
 generalize nU Q n k k T=T1 at *;have l:=t.fin u j;have f:=h.k1;unfold Q9 Q8;have o:(if k<=k then d+3 else 5*d+13)<=d+3:=by rw[aj (ag _)];exact ag _
 have v:(if k-1<=k then d+3 else 5*d+13)<=d+3:=by rw[aj om];exact ag _
 have w:∀i,(if i<=k then d+3 else 5*d+13)<=5*d+13:=fun i=>by split<;>omega
 split
 .rename_i F;obtain⟨G,_,H⟩:=LR l f j o;obtain⟨K,L,N⟩:=l.plane f j o;have hfirst:4*(Dh (gT Q n T1) k).a<=3*(mI (gT Q n T1) k).a:=GK l.pd f j N (AT.init l.pd f j K L) (by have:=((AT.init l.pd f j K L).pos f j).1;omega) F
  have S:(mI (gT Q n T1) k).a=det k (gT Q n T1):=rfl;have M:=l.blk C f j o v G H;generalize hpf:Dh (gT Q n T1) k=p at *;have e:=DD (T:=T1) (k:=k) (f0:=p.f0) (f1:=p.f1) (s0:=p.s0) (s1:=p.s1) C f;have g:=G.pl;have q:1<=max 1 (k-1)/\max 1 (k-1)<=k/\(∀r,0<r->r<max 1 (k-1)->r<k-1):=⟨om,om,fun r _ _=>om⟩
  refine⟨⟨q.1,om,M.weak fun i I=>?_,⟨fun r z c s=>?_,fun r D z=>?_⟩,?_⟩,?_⟩
  .refine cY (M.dg i I) (d9 ?_)
   try dsimp only
   split
   .exact ag _
   .exact w i
  .have J:=q.2.2 r om z;have A:=t.ok.1 r om c s;rw[e];unfold ig at A ⊢;rw[oN om om om s,g.lead _ om];exact A
  .have J:=q.2.2 r D z;have A:=t.ok.2 r D om;rw[e];unfold gS at A ⊢;rw[oN om om om om,g.lead _ om,g.lead _ om,g.lead _ om];exact A
  .rw[e,g.lead n om,E];exact h.dn
  .have U:4*Ge (gT Q n (ip T1 k p.f0 p.f1 p.s0 p.s1)) n<=3*Ge (gT Q n T1) n:=by
    rw[e];refine xO j (fun c _ s=>by rw[g.lead c s]) ?_
    have V:=g.pa;have:=(G.pos f j).1;omega
   have W:=l.pd.pot_pos;unfold Nz;rw[<-m];generalize Ge (gT Q n (ip T1 k p.f0 p.f1 p.s0 p.s1)) n=x at *;generalize Ge (gT Q n T1) n=y at *;have O:(x+1)*(n+1)<=y*(n+1):=aq _ om;rw[cj]at O;omega
 .rename_i F;have P:=(pS.init l.pd f j).ac;have B:=l.pd.pos k om;refine⟨⟨om,om,l.weak fun i I=>cY (l.dg i I) (d9 (w i)),⟨fun r z c s=>?_,fun r D z=>?_⟩,by rw[E];exact h.dn⟩,?_⟩
  .by_cases e:r=k
   .subst e;exact t.sz c om s
   .exact t.ok.1 r om c s
  .by_cases e:r=k
   .subst e;unfold gS;have R:¬4*cl (gT Q n T1) (r-1) 1 1<3*det r (gT Q n T1):=F;have X:=aT (om:3*det r (gT Q n T1)<=4*cl (gT Q n T1) (r-1) 1 1) (a8 B)
    have Y:det r (gT Q n T1)*(3*det r (gT Q n T1))=3*(det r (gT Q n T1)*det r (gT Q n T1)):=by grind
    have Z:det r (gT Q n T1)*(4*cl (gT Q n T1) (r-1) 1 1)=4*(det r (gT Q n T1)*cl (gT Q n T1) (r-1) 1 1):=by grind
    omega
   .exact t.ok.2 r D om
  .unfold Nz;rw[m];omega
def I9(a:k<n):0<Nz Q n k T:=by unfold Nz;omega
theorem Ja{Q:az}{n d:Nat}(g:∀a b,a<n->b<n->Q a b=Q b a)(c:n<=8):∀(m k:Nat) (T:az),wZ Q n d k T->Nz Q n k T<=m->wZ Q n d n (E9 Q n m k T)
 | 0,k,T,h,i=>by
  have e:=h.kn;rcases aB k n with f|f
  .have:=I9 (Q:=Q) (T:=T) f;omega
  .obtain rfl:k=n:=om
   exact h
 | m+1,k,T,h,i=>by
  unfold E9;split
  .rename_i j;obtain⟨e,f⟩:=h.step g c j;exact Ja g c m _ _ e om
  .have e:=h.kn;obtain rfl:k=n:=om
   exact h
def CX:Nat->Nat
 | 0=>1
 | k+1=>CX k*2^(k+1)
theorem FB{D:Nat->Nat}{n:Nat}(a:D 0=1)(b:∀k,k<=n->0<D k)(d:∀k,0<k->k<n->D k*D k<=2*(D (k-1)*D (k+1))):∀k,k<n->D k^(k+1)<=CX k*D (k+1)^k
 | 0,_=>by simp[a,CX]
 | k+1,f=>by
  have ih:=FB a b d k om;have e:=d (k+1) om f;rw[eB]at e;have g:=Bi e (k+1);rw[SK,SK,SK]at g;have j:2^(k+1)*(D k^(k+1)*D (k+1+1)^(k+1))<=2^(k+1)*(CX k*D (k+1)^k*D (k+1+1)^(k+1)):=aO _ (aq _ ih);have h:0<D (k+1)^k:=iO (b (k+1) om);refine Nj (c:=D (k+1)^k) ?_ h;have i:D (k+1)^k*D (k+1)^(k+1+1)=D (k+1)^(k+1)*D (k+1)^(k+1):=by
   rw[<-fD,<-fD];congr 1;omega
  have l:2^(k+1)*(CX k*D (k+1)^k*D (k+1+1)^(k+1))=D (k+1)^k*(CX (k+1)*D (k+1+1)^(k+1)):=by
   rw[CX];generalize D (k+1)^k=x;generalize D (k+1+1)^(k+1)=y;generalize (2:Nat)^(k+1)=z
   grind
  rw[i];omega
def EX:List Nat:=[1,10000,10000,10000,25600,57243,64000,35777,10000]
def JQ:∀k,k<8->CX k*EX.getD (k+1) 0^k<(EX.getD k 0+1)^(k+1):=by decide +kernel
def EW:∀k,k<9->EX.getD k 0<=64000/\(0<k->10000<=EX.getD k 0)/\1<=EX.getD k 0:=by decide
theorem Jo{D:Nat->Nat}{n:Nat}(c:D 0=1)(d:∀k,k<=n->0<D k)(f:∀k,0<k->k<n->D k*D k<=2*(D (k-1)*D (k+1)))(a:n<=8)(h:D n<=10000):∀m k,k+m=n->D k<=EX.getD k 0
 | 0,k,i=>by
  rw[(om:k=n)]
  obtain⟨_,g,j⟩:=EW n om;rcases bD n with e|e
  .subst e;omega
  .have:=g e;omega
 | m+1,k,i=>by
  have l:=Jo c d f a h m (k+1) om;have g:=FB c d f k om;have j:=JQ k om;rcases aB (EX.getD k 0) (D k)with b|b
  .exfalso;have o:=Bi l k;have p:=aO (CX k) o;have q:=Bi (show EX.getD k 0+1<=D k from b) (k+1);omega
  .exact b
def JP(h:Pd A n)(a:kh A n){k:Nat}(c:0<k)(b:k<n):det k A*det k A<=2*(det (k-1) A*det (k+1) A):=by
 have d:=a.2 k c b;have e:=oX (a.1 k b (k-1) om);unfold gS at d;rw[(om:k-1+1=k)]at e
 omega
def Ed.of(h:Pd A n)(b:kh A n)(d:n<=8)(f:det n A<=10000):Ed A n:=by
 refine⟨h,b,fun k a=>?_⟩;have g:=Jo (D:=fun k=>(det k A).toNat) (n:=n) (by simp[det]) (fun k a=>by have:=h.pos k a;omega) (fun k e a=>?_) d om (n-k) k om
 .have:=h.pos k a;have c:=(EW k om).1;omega
 .have c:=JP h b e a;have i:=h.pos k om;have j:=h.pos (k-1) om;have l:=h.pos (k+1) om;refine kG.1 ?_;simp only[aV];rw[c9 om,c9 om,c9 om];exact c

structure vu(A:az)(n:Nat):Prop where
 pos:∀k,k<=n->0<det k A
 dt:det n A<=10000
 rows:kh A n
structure yx(A:az)(n k:Nat):Prop where
 pos:∀j,j<=k->0<det j A
 lt:∀j,j<=k->det j A<65536
 sz:∀i j,j<k->j<i->i<n->ig A i j
 lo:∀i,0<i->i<=k->gS A i
def PH(A:az)(n k:Nat):Prop:=∀i j,k+i<n->k+j<n->((cl A k i j).natAbs:Int)<=det k A*(262144+k*16384)
def yx.ne(h:yx A n k):∀j,j<=k->det j A≠0:=fun j a=>by have:=h.pos j a;omega
def yx.init:yx A n 0 :=
 ⟨fun j a=>by rw[(om:j=0)];simp[det],fun j a=>by rw[(om:j=0)];simp[det],fun i j a=>om,fun i b c=>om⟩
def PH.init(h:∀i j,i<n->j<n->-262144<A i j/\A i j<262144):PH A n 0:=fun i j a b=>by
 have:=h i j om om;rw[eV];simp[det];omega
theorem EL{A:az}{n:Nat}(e:∀i j,i<n->j<n->A i j=A j i):∀(k i j:Nat),(∀c,c<=k->det c A≠0)->k+i<n->k+j<n->cl A k i j=cl A k j i
 | 0,i,j,_,h,l=>by rw[eV,eV];exact e i j om om
 | k+1,i,j,d,h,l=>by
  have ih:=fun a b=>EL e k a b (fun c f=>d c om);have g:=ie (A:=A) (k:=k) (fun c f=>d c om) i j;have m:=ie (A:=A) (k:=k) (fun c f=>d c om) j i;rw[ih (i+1) (j+1) om om,ih (i+1) 0 om om,ih 0 (j+1) om om]at g;refine cJ (d k om) ?_;rw[<-g,<-m];grind
def wu(A:az)(m:Nat):Prop:=0<A 0 0/\A 0 0<65536/\∀i,1<=i->i<m->2*A i 0<=A 0 0/\-2*A i 0<=A 0 0
def PH.step(h:PH A n k)(c:yx A n k)(g:∀i j,i<n->j<n->A i j=A j i)(l:wu (cl A k) (n-k)):PH A n (k+1):=fun i j u v=>by
 obtain⟨m,o,f⟩:=l;rw[cH]at m o f;have e:=ie (A:=A) (k:=k) c.ne i j;rw[cH,EL g k 0 (j+1) c.ne om om]at e;have b:=h (i+1) (j+1) om om;have w:=f (i+1) om om;have B:=f (j+1) om om;have dk:=c.pos k (ag k);generalize det k A=d at *;generalize det (k+1) A=D at *;generalize cl A k (i+1) (j+1)=s at *;generalize cl A k (i+1) 0=x at *;generalize cl A k (j+1) 0=y at *;generalize cl A (k+1) i j=z at *;have C:d*(z.natAbs:Int)<=D*(s.natAbs:Int)+(x.natAbs:Int)*(y.natAbs:Int):=by
  have p:((d*z).natAbs:Int)=d*(z.natAbs:Int):=by rw[cP];push_cast;congr 1;omega
  have q:((D*s).natAbs:Int)=D*(s.natAbs:Int):=by rw[cP];push_cast;congr 1;omega
  have r:((x*y).natAbs:Int)=(x.natAbs:Int)*(y.natAbs:Int):=by rw[cP];push_cast;rfl
  rw[<-p,<-q,<-r,<-e];omega
 have E:(2*(x.natAbs:Int))*(2*(y.natAbs:Int))<=D*D:=ck om om om om;have F:(2*(x.natAbs:Int))*(2*(y.natAbs:Int))=4*((x.natAbs:Int)*(y.natAbs:Int)):=by grind
 have G:D*D<=D*65536:=aT om om;have H:D*16384<=d*(D*16384):=by
  have:=bK (om:1<=d) (om:0<=D*16384)
  omega
 have I:=aT b (om:0<=D)
 have t:d*(D*(262144+((k+1:Nat):Int)*16384))=D*(d*(262144+k*16384))+d*(D*16384):=by push_cast;grind
 refine iB (a:=d) ?_ dk;rw[t];omega
def yx.step(a:yx A n k)(h:wu (cl A k) (n-k))(l:gS A (k+1)):yx A n (k+1):=by
 obtain⟨c,d,f⟩:=h;rw[cH]at c d f;refine⟨fun j g=>?_,fun j g=>?_,fun i j g b m=>?_,fun i o p=>?_⟩
 .by_cases e:j=k+1
  .rw[e];exact c
  .exact a.pos j om
 .by_cases e:j=k+1
  .rw[e];exact d
  .exact a.lt j om
 .by_cases e:j=k
  .subst e;have:=f (i-j) om om;unfold ig fq;omega
  .exact a.sz i j om b m
 .by_cases e:i=k+1
  .rw[e];exact l
  .exact a.lo i o om
def vu.red(h:vu A n)(a:∀i j,i<n->j<n->A i j=A j i)(b:n<=8):Ed A n:=Ed.of ⟨a,h.pos⟩ h.rows b (by have:=h.dt;omega)
def vu.short(h:vu A n)(b:∀i j,i<n->j<n->A i j=A j i)(c:n<=8)(a:k<n):wu (cl A k) (n-k):=by
 have d:=h.pos (k+1) a;have f:=(h.red b c).lead (k+1) a;unfold wu;rw[cH];refine⟨d,om,fun i g e=>?_⟩
 have:=h.rows.1 (k+i) om k om;unfold ig fq at this;rw[(om:k+i-k=i)]at this
 omega
def yx.redB(a:yx A n k)(h:k+1=n)(c:0<det n A)(d:det n A<=10000):vu A n:=by
 refine⟨fun j b=>?_,d,fun r f j b=>a.sz r j om b f,fun r g i=>a.lo r g om⟩;by_cases e:j=n
 .rw[e];exact c
 .exact a.pos j om
def PH.num(h:PH A n k)(c:0<det k A/\det k A<65536)(d:n<=8)(a:k+i<n)(b:k+j<n):-24696061952<=cl A k i j/\cl A k i j<=24696061952:=by
 have e:=h i j a b;have f:=ck (om:det k A<=65536) (show(262144+k*16384:Int)<=376832 by omega) om om
 omega

def C3(l:k<n)(b:∀j,j<=k->det j A≠0)(c:∀j,j<n-k->cl A k 0 j=0):det n A=0:=by
 have a:=rV b (n-k-1) id id;have d:det (n-k-1+1) (fun i j=>cl A k (id i) (id j))=0:=Fx _ (fun j m=>c j om);rw[d,(om:k+(n-k-1)+1=n)]at a
 have f:det k A^(n-k-1)≠0:=qe (b k (ag _));have g:det n (fun i j=>A (up k id i) (up k id j))=det n A:=aZ fun i j _ _=>by
  have e:∀i,up k id i=i:=fun i=>by unfold up;split<;>simp;omega
  rw[e,e]
 rw[g]at a;rcases fK.1 a.symm with h|h
 .exact absurd h f
 .exact h
def QP{p:Nat}(d:k<=p)(i a:Nat):dq k p (up k (fun _=>i) a)=up k (fun _=>dq 0 (p-k) i) a:=by
 unfold up dq;by_cases h:a<k
 .simp only[h,aH];rw[ah om,ah om]
 .simp only[h,aI];by_cases b:i=0
  .rw[aj om,aj b];omega
  .by_cases c:i=p-k
   .rw[ah om,aj om,ah b,aj c];omega
   .rw[ah om,ah om,ah b,ah c]
def EG{p:Nat}(A:az)(c:k<=p)(i j:Nat):cl (fun a b=>A a (dq k p b)) k i j=cl A k i (dq 0 (p-k) j):=by
 unfold cl;refine aZ fun a b d e=>?_;show A _ (dq k p (up k (fun _=>j) b))=_;rw[QP c]
def oP{g:Nat->Int}(h:∀i,i<n->f i=g i):dR n f=dR n g:=by
 induction n with
 | zero=>rfl
 | succ n ih=>simp only[dR];rw[ih (fun i a=>h i om),h n om]
def M4(f:Nat->Int)(h:n<=m):dR n f<=dR m f:=by
 induction m with
 | zero=>rw[(om:n=0)];exact ag _
 | succ m ih =>
  rcases aB n (m+1)with a|a
  .have:=ih om;simp only[dR];omega
  .rw[(om:n=m+1)];exact ag _
def l7(f:Nat->Int){j:Nat}(a:j<n):dR n (fun b=>if b=j then 0 else f b)+(f j).natAbs=dR n f:=by
 induction n with
 | zero=>omega
 | succ n ih =>
  simp only[dR];rcases aB j n with h|h
  .have:=ih h;rw[ah (om:¬n=j)];omega
  .rw[(om:j=n),aj rfl,oP (g:=f) (fun i c=>ah om)];simp
def KL(f:Nat->Int){i k:Nat}(a:i<n)(c:k<n):dR n (fun b=>f (dq i k b))=dR n f:=by
 by_cases e:i=k
 .subst e;exact oP fun b _=>by unfold dq;split<;>simp_all
 .have p:=l7 f a;have j:=l7 (fun b=>if b=i then 0 else f b) c
  have l:=l7 (fun b=>f (dq i k b)) a;have d:=l7 (fun b=>if b=i then 0 else f (dq i k b)) c
  simp only[ah (ai e)]at j d;have q:dR n (fun b=>if b=k then 0 else if b=i then 0 else f (dq i k b))=dR n (fun b=>if b=k then 0 else if b=i then 0 else f b):=oP fun b _=>by
   by_cases g:b=k
   .simp[g]
   .by_cases h:b=i
    .simp[h]
    .simp[g,h,dq]
  have m:dq i k i=k:=by simp[dq]
  have o:dq i k k=i:=by simp[dq]
  rw[m]at l;rw[o]at d;omega
def FN(g:Nat->Int)(h:k+j<N):dR (k+1) (fun b=>g (up k (fun _=>j) b))<=dR N g:=by
 have d:=l7 g h;have a:dR k (fun b=>g (up k (fun _=>j) b))=dR k (fun b=>if b=k+j then 0 else g b):=oP fun b c=>by
  simp only[up,c,aH];rw[ah om]
 have e:=M4 (fun b=>if b=k+j then 0 else g b) (om:k<=N)
 simp only[dR];rw[a,show up k (fun _=>j) k=k+j by simp[up]]
 omega
structure lT(A:az)(N:Nat)(σ:Nat->Nat)(k:Nat):Prop where
 lead:∀j,j<=k->det j (fun a b=>A a (σ b))≠0
 abs:∀B:az,(det N (fun a b=>B a (σ b))).natAbs=(det N B).natAbs
 sum:∀f:Nat->Int,dR N (fun b=>f (σ b))=dR N f
def lT.init(A:az)(N:Nat):lT A N id 0:=⟨fun j a=>by rw[(om:j=0)];simp[det],fun _=>rfl,fun _=>rfl⟩
def lT.swap{p:Nat}(h:lT A N σ k)(g:k<=p)(c:p<N):lT A N (fun a=>σ (dq k p a)) k:=by
 refine⟨fun j d=>?_,fun B=>?_,fun f=>?_⟩
 .have e:det j (fun a b=>A a (σ (dq k p b)))=det j (fun a b=>A a (σ b)):=aZ fun a b _ i=>by rw[show dq k p b=b by unfold dq;rw[ah om,ah om]]
  rw[e];exact h.lead j d
 .by_cases e:k=p
  .subst e;rw[show(fun a b=>B a (σ (dq k k b)))=fun a b=>B a (σ b) by funext a b;rw[show dq k k b=b by unfold dq;split<;>simp_all]]
   exact h.abs B
  .have:=mo (fun a b=>B a (σ b)) (om:k<N) c e
   rw[this,TG];exact h.abs B
 .rw[KL (fun b=>f (σ b)) (om:k<N) c];exact h.sum f
def lT.step(h:lT A N σ k)(c:cl (fun a b=>A a (σ b)) k 0 0≠0):lT A N σ (k+1) :=
 ⟨fun j e=>by
  rcases aB j (k+1)with d|d
  .exact h.lead j om
  .rw[(om:j=k+1),<-cH];exact c,h.abs,h.sum⟩
def vU(n R i:Nat):Nat:=if i<n then i else R
def QV{a:Nat}(b:n<=R):up n (fun _=>R-n) a=vU n R a:=by simp only[up,vU];split<;>omega
def N7(c:n<=R):cl A n (R-n) 0=det (n+1) (fun a b=>A (vU n R a) b):=by
 unfold cl;refine aZ fun a b _ d=>?_;rw[QV c,lV _ _ d]
def lT.found(h:lT A (n+1) σ k)(o:k<n)(f:det (n+1) (fun a b=>A (vU n R a) b)≠0):¬∀j,j<n+1-k->cl (fun a b=>A a (σ b)) k 0 j=0:=by
 intro g;have e:∀m,m<=n->∀B:az,det m (fun a b=>B (vU n R a) b)=det m B:=fun m p B=>aZ fun a b d _=>by rw[show vU n R a=a by unfold vU;rw[aj om]]
 have i:=C3 (A:=fun a b=>A (vU n R a) (σ b)) (om:k<n+1) (fun j c=>by rw[e j om (fun a b=>A a (σ b))];exact h.lead j c) (fun j c=>by
  rw[<-g j c];unfold cl;refine aZ fun a b d _=>?_;rw[lV _ _ d];simp only[vU];rw[aj (om:a<n)])
 have l:=h.abs (fun a b=>A (vU n R a) b);rw[i]at l;exact f om
def lT.last(h:lT A (n+1) σ k)(c:n<=R):(cl (fun a b=>A a (σ b)) n (R-n) 0).natAbs=(det (n+1) (fun a b=>A (vU n R a) b)).natAbs:=by
 rw[N7 (A:=fun a b=>A a (σ b)) c];exact h.abs (fun a b=>A (vU n R a) b)
theorem MC:∀(n:Nat) (A:az),(∀i j,i<n->j<n->A i j=if j=i then 1 else 0)->det n A=1
 | 0,_,_=>rfl
 | n+1,A,h=>by
  rw[sh A (fun i a=>by rw[h _ _ om om,ah om]),h 0 0 om om,MC n _ (fun i j a b=>by
   rw[h _ _ om om];by_cases e:j=i
   .simp[e]
   .rw[ah e,ah om])]
  simp
def Bt(A:az)(h:∀i,i<n->∀c:Nat->Int,(∀r,r<n->ap n (fun j=>(if r<i then dp r j else A r j)*c j)=0)->c i=0):det n A≠0:=by
 have key:∀m i,i+m=n->det n (fun r j=>if r<i then dp r j else A r j)≠0:=by
  intro m
  induction m with
  | zero =>
   intro i f;rw[MC n _ (fun a b p q=>by rw[aj om];rfl)];decide
  | succ m ih =>
   intro i f g;have k:=ih (i+1) om;refine k ?_;have l:=h i om (fun j=>pI n (fun r j=>if r<i then dp r j else A r j) i j) (fun r o=>by
    refine(t9 (fun r j=>if r<i then dp r j else A r j) (om:i<n) o).trans ?_
    rw[g];simp)
   rw[<-l];unfold pI;refine aZ fun a b _ _=>?_;unfold setRow;by_cases e:a=i
   .simp[e]
   .by_cases d:a<i
    .simp[e,d,(om:a<i+1)]
    .simp[e,d,(om:¬a<i+1)]
 have:=key n 0 om;simpa using this

def fB(n:Nat)(M:az):az:=fun r j=>if r<n then M r j else if r=n+j then 1 else 0
def EB(c:Nat->Int){r:Nat}(a:r<n):ap n (fun j=>dp r j*c j)=c r:=by
 rw[cF r a (fun i _ b=>by simp[dp,b])];simp[dp]
def E7(v:p≠0){piv:Nat}(f:piv<n)(q x:Nat->Int):det (n+1) (fun a b=>fB n (yv n p piv q x) (vU n (n+n) a) b)≠0:=by
 refine Bt _ fun i w c s=>?_;have rowU:∀r,r<n+1->r<i->c r=0:=fun r l m=>by
  have:=s r l;rw[ay (g:=fun j=>dp r j*c j) (fun j _=>by rw[aj m]),EB c l]at this
  exact this
 have o:c n=0:=by
  by_cases h:n<i
  .exact rowU n om h
  .have:=s n om;rw[ay (g:=fun j=>dp n j*c j) (fun j _=>by
    rw[ah h];simp only[vU,fB,dp];by_cases e:j=n
    .simp[e,(om:¬n+n<n)]
    .simp[e,(om:¬n+n<n),ai e]),EB c om]at this
   exact this
 have rowM:∀r,r<n->¬r<i->ap n (fun j=>jh p piv q r j*c j)=0:=fun r l m=>by
  have:=s r om;rw[ay (g:=fun j=>yv n p piv q x r j*c j) (fun j _=>by rw[ah m];simp[vU,fB,l]),Dq,o]at this
  omega
 have k:∀r,r<n->r≠piv->c r=0:=fun r l d=>by
  by_cases h:r<i
  .exact rowU r om h
  .have:=rowM r l h;rw[cF r l (fun j _ t=>by
    simp only[jh];by_cases e:j=piv
    .simp[e,d]
    .simp[e,d,ai t])]at this
   simp[jh,d]at this;rcases fK.1 this with h|h
   .exact absurd h v
   .exact h
 have u:c piv=0:=by
  by_cases h:piv<i
  .exact rowU piv om h
  .have:=rowM piv f h;rw[cF piv f (fun j t d=>by rw[k j t d];simp)]at this
   simp[jh]at this;rcases fK.1 this with h|h
   .rcases fK.1 h with h|h<;>exact absurd h v
   .exact h
 rcases aB i n with h|h
 .by_cases e:i=piv
  .rw[e];exact u
  .exact k i h e
 .rw[(om:i=n)];exact o
def qE{B:Nat}(h:∀i,i<n->(f i).natAbs<=B):dR n f<=n*B:=by
 induction n with
 | zero=>simp[dR]
 | succ n ih=>have:=ih (fun i a=>h i om);have:=h n om;simp only[dR];rw[cj];omega
def LT{M:az}(c:n<=8)(a:∀i j,i<n->j<n+1->(M i j).natAbs<=100000000)(r:Nat):dR (n+1) (fB n M r)<=2^30:=by
 have h:=qE (n:=n+1) (f:=fB n M r) (B:=100000000) (fun j b=>by
  unfold fB;split
  .rename_i h;exact a r j h b
  .split<;>simp)
 have d:(n+1)*100000000<=9*100000000:=aq _ om;omega
def Dr{piv:Nat}{q x:Nat->Int}(b:0<=p)(a:p<=9973)(d:∀j,j<n->0<=q j/\q j<=9972)(e:∀i,i<n->(x i).natAbs<=100000000)(i j:Nat)(f:i<n)(k:j<n+1):(yv n p piv q x i j).natAbs<=100000000:=by
 unfold yv;split
 .rename_i h;obtain⟨c,g⟩:=d j h;have l:=ck a a b om;have m:=ck a g c om;have o:=cC b b;have r:=cC b c;unfold jh;split
  .split<;>omega
  .split
   .omega
   .split<;>omega
 .exact e i f
theorem xP(c:Nat):∀k,jc k (fun _=>c)=c^k
 | 0=>rfl
 | k+1=>by simp only[jc];rw[xP c k,bZ,aA]
def E0(k:Nat):jc k (fun _=>2^30)=2^(30*k):=by rw[xP,<-Nat.pow_mul]

def Mn{w M:az}(f:∀i j,i<n->j<n+1->w i j=M i j)(l:∀x,eU (n+1) (n+1) H x↔eU (n+1) (n+1) w x)(m:∀i,i<n->H i n=0)(y:gP):eU n n H y↔eU n (n+1) M y:=by
 constructor
 .rintro⟨c,h⟩;obtain⟨d,k⟩:=(l (fun i=>ap (n+1) (fun j=>H i j*(if j<n then c j else 0)))).1 ⟨_,fun _ _=>rfl⟩
  refine⟨d,fun i a=>?_⟩;have b:(ap (n+1) fun j=>H i j*(if j<n then c j else 0))=ap (n+1) fun j=>w i j*d j:=k i om
  simp only[ap]at b;rw[ay (g:=fun j=>H i j*c j) (fun j e=>by rw[aj e]),<-h i a,ah (cw n)]at b
  simp only[ap];rw[ay (g:=fun j=>w i j*d j) (fun j e=>by rw[f i j a om]),<-f i n a om]
  omega
 .rintro⟨d,k⟩;obtain⟨c,h⟩:=(l (fun i=>ap (n+1) (fun j=>w i j*d j))).2 ⟨d,fun _ _=>rfl⟩;refine⟨c,fun i a=>?_⟩;have b:(ap (n+1) fun j=>w i j*d j)=ap (n+1) fun j=>H i j*c j:=h i om;rw[k i a];rw[ay (g:=fun j=>M i j*d j) (fun j e=>by rw[f i j a e])]at b
  rw[b];simp only[ap];rw[m i a];simp
def Ka{w:az}(g:1<=N)(n:∀j,j<N->eU N N w (fun i=>H i j)) :
  ∃U:az,(∀i j,i<N->j<N->mm N w U i j=H i j)/\∀i j,i<N->j<N->mm N (iq N w) H i j=det N w*U i j:=by
 have d:∃U:az,∀i j,i<N->j<N->mm N w U i j=H i j:=by
  have l:∀j,∃c:gP,j<N->∀i,i<N->H i j=ap N (fun k=>w i k*c k):=fun j=>by
   by_cases a:j<N
   .obtain⟨c,d⟩:=n j a;exact⟨c,fun _=>d⟩
   .exact⟨fun _=>0,fun h=>absurd h a⟩
  refine⟨fun k j=>fP (l j) k,fun i j b a=>?_⟩;exact(dj (l j) a i b).symm
 obtain⟨U,m⟩:=d;refine⟨U,m,fun i j b a=>?_⟩;rw[rk (A':=iq N w) (B':=mm N w U) (fun _ _=>rfl) (fun k e=>(m k j e a).symm),<-oc];unfold mm;rw[cF i b (fun k e f=>by
  have:=su g w b e;unfold mm at this;rw[this,ah (ai f)];simp)]
 have:=su g w b b;unfold mm at this;rw[this,aj rfl]

def vF:Nat->(Nat->Nat)->Nat
 | 0,_=>0
 | n+1,f=>vF n f+f n*4294967296^n
def jP{f:Nat->Nat}(h:∀i,i<n->f i=g i):vF n f=vF n g:=by
 induction n with
 | zero=>rfl
 | succ n ih=>simp only[vF];rw[ih fun i a=>h i om,h n om]
def tM{f:Nat->Nat}(h:∀i,i<n->f i<4294967296):vF n f<4294967296^n:=by
 induction n with
 | zero=>simp[vF]
 | succ n ih =>
  have b:=ih fun i c=>h i om;have a:=aq (4294967296^n) (show f n+1<=4294967296 by have:=h n om;omega)
  simp only[vF,bZ];rw[cj]at a;omega
def EA(n:Nat)(f:Nat->Nat):vF (n+1) f=f 0+4294967296*vF n (fun i=>f (i+1)):=by
 induction n with
 | zero=>simp[vF]
 | succ n ih =>
  rw[show vF (n+1+1) f=vF (n+1) f+f (n+1)*4294967296^(n+1)from rfl,ih];simp only[vF,bZ];generalize vF n (fun i=>f (i+1))=a;generalize 4294967296^n=p;rw[bV,show 4294967296*(f (n+1)*p)=f (n+1)*(p*4294967296) by rw[<-bH,aA 4294967296,bH,aA 4294967296]]
  omega
theorem Ln:∀(l:List Nat),bC l=vF l.length (fun i=>l.getD i 0)
 | []=>rfl
 | x::l=>by
  rw[cL,EA,bC,Ln l];rfl
def q9(m k:Nat)(f:Nat->Nat):vF (m+k) f=vF m f+4294967296^m*vF k (fun i=>f (m+i)):=by
 induction k with
 | zero=>simp[vF]
 | succ k ih =>
  rw[<-kS];simp only[vF];rw[ih,bV,fD,<-bH,aA (f (m+k)),bH,aA (f (m+k)),<-bH];omega
def Ow{P g:Nat}(j:U=ul+(u2*18446744073709551616+u1*4294967296+u0)*P)(c:ul<P)(d:V=vl+(v1*4294967296+v0)*P)
  (e:g*v1+r=u2*4294967296+u1) (h:r*4294967296+u0<g*v0):U<g*V:=by
 have f:u2*18446744073709551616+u1*4294967296+u0+1<=g*(v1*4294967296+v0):=by
  rw[bV,<-bH];generalize g*v1=a at *;generalize g*v0=b at *;omega
 have i:=aq P f;rw[cj]at i;have k:g*V=g*vl+g*(v1*4294967296+v0)*P:=by rw[d,bV,bH]
 omega
def L9{P g:Nat}(l:U=ul+(u2*18446744073709551616+u1*4294967296+u0)*P)(d:V=vl+(v1*4294967296+v0)*P)(c:vl<P)(f:0<v1)
  (e:g*v1+r=u2*4294967296+u1) (i:g<4294967296) (h:g*v0<=r*4294967296+u0):g*V<U+V:=by
 have j:g*(v1*4294967296+v0)<=u2*18446744073709551616+u1*4294967296+u0:=by
  rw[bV,<-bH];generalize g*v1=a at *;generalize g*v0=b at *;omega
 have m:=aq P j;have n:g*V=g*vl+g*(v1*4294967296+v0)*P:=by rw[d,bV,bH]
 have o:g*vl<=g*P:=aO g (du c);have p:=aq P (om:4294967296<=v1*4294967296+v0)
 have k:=aq P (show g+1<=4294967296 from i);rw[dK g 1 P,mP]at k;omega
def kn_q{g:Nat}(h:g*V<U+V)(b:U<(g+1)*V):(g*V<=U/\U/V=g/\U%V=U-g*V)∨(U<g*V/\0<g/\U/V=g-1/\U%V=U+V-g*V):=by
 have c:0<V:=by
  rcases bD V with h|h
  .subst h;simp at b
  .exact h
 rw[cj]at b;rcases aB U (g*V)with a|a
 .refine aQ ⟨a,?_⟩
  cases g with
  | zero=>simp at a
  | succ g =>
   rw[cj]at *;have e:U=V*g+(U-g*V):=by rw[aA];omega
   refine⟨om,?_,?_⟩
   .rw[e,jH c,ee om];rfl
   .rw[e,kL,dT om,aA V g];omega
 .refine a6 ⟨a,?_,?_⟩
  .have e:U=V*g+(U-g*V):=by rw[aA];omega
   rw[e,jH c,ee om];rfl
  .have e:U=V*g+(U-g*V):=by rw[aA];omega
   rw[e,kL,dT om,aA V g];omega
def Mc(b:∀i,i<k+2->v i<4294967296)(h:vF (k+3) u<vF (k+2) v*4294967296):u (k+2)<=v (k+1):=by
 have g:=tM (n:=k+1) (f:=v) fun i j=>b i om;have c:vF (k+2) v=vF (k+1) v+v (k+1)*4294967296^(k+1):=rfl;have d:vF (k+3) u=vF (k+2) u+u (k+2)*4294967296^(k+2):=rfl;rw[c,d,bZ]at h;generalize 4294967296^(k+1)=p at *;rcases aB (v (k+1)) (u (k+2))with a|a
 .have e:=aq p (show v (k+1)+1<=u (k+2)from a);rw[cj]at e;have l:u (k+2)*(p*4294967296)=u (k+2)*p*4294967296:=(bH _ _ _).symm;omega
 .exact a
def ti(k:Nat)(u:Nat->Nat):vF (k+3) u=vF k u+(u (k+2)*18446744073709551616+u (k+1)*4294967296+u k)*4294967296^k:=by
 simp only[vF,bZ];generalize 4294967296^k=p;rw[dK,dK,show u (k+1)*(p*4294967296)=u (k+1)*4294967296*p by rw[aA p,bH],show u (k+2)*(p*4294967296*4294967296)=u (k+2)*18446744073709551616*p by rw[bH p,show(4294967296:Nat)*4294967296=18446744073709551616 from rfl,aA p,<-bH]]
 omega
def th(k:Nat)(v:Nat->Nat):vF (k+2) v=vF k v+(v (k+1)*4294967296+v k)*4294967296^k:=by
 simp only[vF,bZ];generalize 4294967296^k=p;rw[dK,show v (k+1)*(p*4294967296)=v (k+1)*4294967296*p by rw[aA p,bH]]
 omega
structure KG(k:Nat)(u v:Nat->Nat)(g r:Nat):Prop where
 eq:g*v (k+1)+r=u (k+2)*4294967296+u (k+1)
 le:vF (k+3) u<(g+1)*vF (k+2) v
def KG.init(c:0<v (k+1))(b:∀i,i<k+3->u i<4294967296):KG k u v ((u (k+2)*4294967296+u (k+1))/v (k+1)) ((u (k+2)*4294967296+u (k+1))%v (k+1)):=by
 have e:=cW (u (k+2)*4294967296+u (k+1)) (v (k+1));have j:=di (u (k+2)*4294967296+u (k+1)) c;rw[aA]at e;refine⟨e,?_⟩;generalize (u (k+2)*4294967296+u (k+1))/v (k+1)=q at *;generalize (u (k+2)*4294967296+u (k+1))%v (k+1)=r at *;rw[ti,th];have l:=tM (n:=k) (f:=u) fun i m=>b i om;have o:=b k om;generalize 4294967296^k=p at *;have d:u (k+2)*18446744073709551616+u (k+1)*4294967296+u k+1<=(q+1)*(v (k+1)*4294967296+v k):=by
  have g:(q+1)*(v (k+1)*4294967296)=(q*v (k+1)+v (k+1))*4294967296:=by rw[<-bH,cj]
  rw[bV,g];generalize q*v (k+1)=a at *;have:=lq ((q+1)*v k);omega
 have h:=aq p d;rw[cj]at h;rw[bV,<-bH];omega
def KG.step{g:Nat}(h:KG k u v g r)(c:∀i,i<k+3->u i<4294967296)(d:vF (k+3) u<vF (k+2) v*4294967296)(a:4294967296<=g∨r*4294967296+u k<g*v k):0<g/\KG k u v (g-1) (r+v (k+1)):=by
 have b:vF (k+3) u<g*vF (k+2) v:=by
  rcases a with a|a
  .have:=aq (vF (k+2) v) a;rw[aA]at d;omega
  .exact Ow (ti k u) (tM fun i e=>c i om) (th k v) h.eq a
 cases g with
 | zero=>simp at b
 | succ g =>
  refine⟨om,⟨?_,by simpa using b⟩⟩
  have:=h.eq;rw[cj]at this;simp only[eB];omega
def KG.g_lt{g:Nat}(h:KG k u v g r)(b:u (k+2)<=v (k+1))(c:u (k+1)<4294967296)(d:4294967296<=r):g<4294967296:=by
 rcases aB g 4294967296 with a|a
 .exact a
 .have e:=aq (v (k+1)) a;have:=h.eq;omega
def KG.last{g:Nat}(h:KG k u v g r)(a:∀i,i<k+2->v i<4294967296)(b:0<v (k+1))(c:g<4294967296)(d:g*v k<=r*4294967296+u k):g*vF (k+2) v<vF (k+3) u+vF (k+2) v :=
 L9 (ti k u) (th k v) (tM fun i e=>a i om) b h.eq c d
def KG.big{g uk:Nat}(b:v k<4294967296)(c:g<4294967296)(a:4294967296<=r):g*v k<=r*4294967296+uk:=by
 have d:=aX (om:g<=4294967296) (om:v k<=4294967296)
 have e:=aq 4294967296 a;omega

end Go.Proofs.YtdobfmlmenaajaaGreatDoor
