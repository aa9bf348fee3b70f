/-
  Lemmas for NeighbourGram.
-/
import Derived.Test.YtdobfmlmenaajaaGreatDoorG09
namespace Go.Proofs.YtdobfmlmenaajaaGreatDoor
open Go.RowKit Tryz
set_option maxHeartbeats 6400000
set_option maxRecDepth 4096
set_option linter.all false
variable{β:Bool}{a b h na q u v x z:Int}{f:Int->Int}{d i j j' k m n p t x0 y0:Nat}{c:Nat->Int}{g σ:Nat->Nat}{A B H:aJ}
def up(k:Nat)(ρ:Nat->Nat)(i:Nat):Nat:=if i<k then i else k+ρ (i-k)
def cM(A:aJ)(k:Nat):aJ:=fun i j=>det (k+1) (fun a b=>A (up k (fun _=>i) a) (up k (fun _=>j) b))
def H6(ρ:Nat->Nat)(i:Nat):up 0 ρ i=ρ i:=by simp[up]
def xt(k:Nat)(ρ:Nat->Nat)(i:Nat):up k (lj ρ) i=up (k+1) ρ i:=by
 unfold up;by_cases h:i<k
 .rw[ai h,ai om]
 .rw[af h];by_cases a:i<k+1
  .rw[ai a,(om:i-k=0)];simp[lj];omega
  .rw[af a,(om:i-k=(i-(k+1))+1)];simp only[lj];omega
def oE(k i:Nat)(h:i<k+1):up k (fun _=>0) i=i:=by
 unfold up;split
 .rfl
 .show k+0=i;omega
def ie(A:aJ)(i j:Nat):cM A 0 i j=A i j:=by
 unfold cM;rw[Pc];simp[up]
def c8(A:aJ)(k:Nat):cM A k 0 0=det (k+1) A:=by
 unfold cM;exact ck fun a b c d=>by rw[oE k a c,oE k b d]
def vU(h:∀(l:Nat) (ρ γ:Nat->Nat),det (l+1) (fun i j=>cM A k (ρ i) (γ j))=det k A^l*det (k+l+1) (fun i j=>A (up k ρ i) (up k γ j)))(i j:Nat) :
  Fd (cM A k) i j=det k A*cM A (k+1) i j:=by
 have c:=h 1 (lj fun _=>i) (lj fun _=>j);rw[zq9,fY,Int.pow_zero,eW]at c;simp only[lj]at c;simp only[Fd];rw[c];unfold cM;congr 1;exact ck fun a b _ _=>by rw[xt,xt]
theorem qO{A:aJ}:∀{k:Nat},(∀j,j<=k->det j A≠0)->∀(l:Nat) (ρ γ:Nat->Nat),
  det (l+1) (fun i j=>cM A k (ρ i) (γ j))=det k A^l*det (k+l+1) (fun i j=>A (up k ρ i) (up k γ j))
 | 0,_,l,ρ,γ=>by
  rw[show det 0 A=1 from rfl,Int.one_pow,eW,aB];exact ck fun i j _ _=>by rw[ie,H6,H6]
 | k+1,a,l,ρ,γ=>by
  have ih:=qO (k:=k) (fun j n=>a j om);have d:=a k om;have b:=a (k+1) (ae _);have f:PU (det k A) (cM A k):=fun l ρ γ=>⟨_,ih l ρ γ⟩;have c:cM A k 0 0≠0:=by rw[c8];exact b
  have g:∀i j,bar (det k A) (cM A k) i j=cM A (k+1) i j:=fun i j=>by
   unfold bar;rw[vU ih,cT _ d]
  have e:=J7 f c l ρ γ;rw[ck (B:=fun i j=>cM A (k+1) (ρ i) (γ j)) (fun i j _ _=>g _ _),ih (l+1) (lj ρ) (lj γ),c8]at e;have h:det k A^(l+1)≠0:=I3 d;refine dF h ?_;have m:det (k+(l+1)+1) (fun i j=>A (up k (lj ρ) i) (up k (lj γ) j))=det (k+1+l+1) (fun i j=>A (up (k+1) ρ i) (up (k+1) γ j)):=by
   rw[(om:k+(l+1)+1=k+1+l+1)]
   exact ck fun i j _ _=>by rw[xt,xt]
  rw[e,m,Tk]
def Lt(a:∀j,j<=k->det j A≠0)(i j:Nat):Fd (cM A k) i j=det k A*cM A (k+1) i j:=vU (qO a) i j
def i9(a:∀j,j<=k->det j A≠0)(i j:Nat):cM A k 0 0*cM A k (i+1) (j+1)-cM A k (i+1) 0*cM A k 0 (j+1)=det k A*cM A (k+1) i j:=Lt a i j
def Ls(l:k<n)(b:∀j,j<=k->det j A≠0)(c:∀i,i<n-k->cM A k i 0=0):det n A=0:=by
 have a:=qO b (n-k-1) id id;have d:det (n-k-1+1) (fun i j=>cM A k (id i) (id j))=0:=tt _ om (fun i m=>c i om);rw[d,(om:k+(n-k-1)+1=n)]at a
 have f:det k A^(n-k-1)≠0:=I3 (b k (ae _));have g:det n (fun i j=>A (up k id i) (up k id j))=det n A:=ck fun i j _ _=>by
  have e:∀i,up k id i=i:=fun i=>by unfold up;split<;>simp;omega
  rw[e,e]
 rw[g]at a;rcases jp.1 a.symm with h|h
 .exact absurd h f
 .exact h
def dG(i j a:Nat):Nat:=if a=i then j else if a=j then i else a
def Cp(A:aJ)(f:i<n)(g:k<n)(c:i≠k):det n (fun a b=>A (dG i k a) b)=- det n A:=by
 rw[<-My A f g c];refine ck fun a b _ _=>?_;simp only[dG,setRow];by_cases d:a=i
 .subst d;simp[c]
 .by_cases e:a=k
  .subst e;simp[d]
  .simp[d,e]
def ny(A:aJ)(f:i<n)(g:k<n)(c:i≠k):det n (fun a b=>A a (dG i k b))=- det n A:=by
 rw[<-C4 A f g c];refine ck fun a b _ _=>?_;simp only[dG,cn];by_cases d:b=i
 .subst d;simp[c]
 .by_cases e:b=k
  .subst e;simp[d]
  .simp[d,e]
def yz(A:aJ)(c:n<=i)(d:n<=k):det n (fun a b=>A (dG i k a) b)=det n A :=
 ck fun a b e _=>by rw[show dG i k a=a by unfold dG;rw[af om,af om]]
def xu(A:aJ)(f:k<=p)(i j:Nat):cM (fun a b=>A (dG k p a) b) k i j=cM A k (dG 0 (p-k) i) j:=by
 unfold cM;refine ck fun a b g l=>?_;have e:dG k p (up k (fun _=>i) a)=up k (fun _=>dG 0 (p-k) i) a:=by
  unfold up dG;by_cases h:a<k
  .simp only[h,aO];rw[af om,af om]
  .simp only[h,aP];by_cases c:i=0
   .rw[ai om,ai c];omega
   .by_cases d:i=p-k
    .rw[af om,ai om,af c,ai d];omega
    .rw[af om,af om,af c,af d]
 show A (dG k p (up k (fun _=>i) a)) _=_;rw[e]
structure nv(A:aJ)(n:Nat)(σ:Nat->Nat)(neg:Bool)(k:Nat):Prop where
 lead:∀j,j<=k->det j (fun a b=>A (σ a) b)≠0
 sign:det n (fun a b=>A (σ a) b)=if neg then-det n A else det n A
 row:∀i,i<n->σ i<n
def nv.init(A:aJ)(n:Nat):nv A n id false 0:=⟨fun j a=>by rw[(om:j=0)];simp[det],sm,fun i h=>h⟩
def nv.swap{neg:Bool}(h:nv A n σ neg k)(e:k<p)(c:p<n):nv A n (fun a=>σ (dG k p a)) (!neg) k:=by
 refine⟨fun j d=>?_,?_,fun i f=>h.row _ (by unfold dG;split<;>(try split)<;>omega)⟩
 .rw[yz (fun a b=>A (σ a) b) om om];exact h.lead j d
 .rw[Cp (fun a b=>A (σ a) b) om c om,h.sign]
  cases neg<;>simp
def nv.step{neg:Bool}(h:nv A n σ neg k)(c:cM (fun a b=>A (σ a) b) k 0 0≠0):nv A n σ neg (k+1) :=
 ⟨fun j e=>by
  rcases aA j (k+1)with d|d
  .exact h.lead j om
  .rw[(om:j=k+1),<-c8];exact c,h.sign,h.row⟩
def nv.zero{neg:Bool}(h:nv A n σ neg k)(d:k<n)(e:∀i,i<n-k->cM (fun a b=>A (σ a) b) k i 0=0):det n A=0:=by
 have c:=Ls d h.lead e;rw[h.sign]at c
 cases neg<;>simp at c<;>omega

structure Pd(A:aJ)(n:Nat):Prop where
 sym:∀a b,a<n->b<n->A a b=A b a
 pos:∀k,k<=n->0<det k A
def Pd.ne(h:Pd A n){k:Nat}(a:k<=n):∀j,j<=k->det j A≠0:=fun j b=>by have:=h.pos j om;omega
def Pd.stg_sym(h:Pd A n):∀(k i j:Nat),k+i<n->k+j<n->cM A k i j=cM A k j i
 | 0,i,j,b,c=>by rw[ie,ie];exact h.sym i j om om
 | k+1,i,j,b,c=>by
  have ih:=h.stg_sym k;have a:=i9 (h.ne (k:=k) om) i j;have d:=i9 (h.ne (k:=k) om) j i;rw[ih (i+1) (j+1) om om,ih (i+1) 0 om om,ih 0 (j+1) om om]at a;have e:=h.pos k om;refine dF (om:det k A≠0) ?_
  rw[<-a,<-d];grind
def Pd.stg_rec(h:Pd A n){k i:Nat}(a:k+i+1<n):det (k+1) A*cM A k (i+1) (i+1)=det k A*cM A (k+1) i i+cM A k (i+1) 0*cM A k (i+1) 0:=by
 have e:=i9 (h.ne (k:=k) om) i i;rw[h.stg_sym k 0 (i+1) om om,c8]at e;omega
def Pd.stg_rec2(h:Pd A n){k i j:Nat}(a:k+i+1<n)(b:k+j+1<n):det (k+1) A*cM A k (i+1) (j+1)=det k A*cM A (k+1) i j+cM A k (i+1) 0*cM A k (j+1) 0:=by
 have e:=i9 (h.ne (k:=k) om) i j;rw[h.stg_sym k 0 (j+1) om om,c8]at e;omega
def kV(x:Int):0<=x*x:=by
 rcases Int.le_total 0 x with h|h
 .exact cZ h h
 .have:=cZ (om:0<=-x) (om:0<=-x);rw[vJ]at this;exact this
def yM(d:0<a)(h:0<a*b):0<b:=by
 rcases pU 0 b with c|c
 .exact c
 .have:=cc c (co d);omega
def Pd.stg_pos(h:Pd A n):∀(i k:Nat),k+i<n->0<cM A k i i
 | 0,k,a=>by rw[c8];exact h.pos _ om
 | i+1,k,a=>by
  have e:=h.stg_rec (k:=k) (i:=i) om;have b:=h.stg_pos i (k+1) om;have d:=ou (h.pos k om) b;have f:=kV (cM A k (i+1) 0);have c:0<det (k+1) A*cM A k (i+1) (i+1):=om
  exact yM (h.pos (k+1) om) c
def Pd.stg_up(h:Pd A n):∀(k i:Nat),k+i<n->cM A k i i<=det k A*A (k+i) (k+i)
 | 0,i,a=>by rw[ie];simp[det]
 | k+1,i,a=>by
  have e:=h.stg_rec (k:=k) (i:=i) om;have ih:=h.stg_up k (i+1) om;have b:=h.pos k om;have c:=h.pos (k+1) om;have d:=kV (cM A k (i+1) 0);have f:=cc ih (co c);refine jh ?_ b;rw[(om:k+1+i=k+(i+1))]
  have g:det (k+1) A*(det k A*A (k+(i+1)) (k+(i+1)))=det k A*(det (k+1) A*A (k+(i+1)) (k+(i+1))):=by grind
  omega
def Pd.lam_sq(h:Pd A n){k i:Nat}(a:k+i+1<n):cM A k (i+1) 0*cM A k (i+1) 0<=det (k+1) A*cM A k (i+1) (i+1):=by
 have e:=h.stg_rec (k:=k) (i:=i) om;have b:=ou (h.pos k om) (h.stg_pos i (k+1) om);omega
def Pd.hadamard(h:Pd A n){k:Nat}(a:k<n):det (k+1) A<=det k A*A k k:=by
 have:=h.stg_up k 0 om
 rwa [c8,cu]at this
def MD{m:Int}(c:0<a)(d:m*m<=a*b):0<=a*(v*v)+b*(u*u)-2*(m*(u*v)):=by
 have e:a*(a*(v*v)+b*(u*u)-2*(m*(u*v)))=(a*v-m*u)*(a*v-m*u)+(a*b-m*m)*(u*u):=by grind
 have f:=kV (a*v-m*u);have g:=cZ (om:0<=a*b-m*m) (kV u)
 exact Int.nonneg_of_mul_nonneg_right om c
def Pe{d m:Int}(c:0<=d)(e:0<a)(f:m*m<=a*b):(d*m+u*v)*(d*m+u*v)<=(d*a+u*u)*(d*b+v*v):=by
 have g:=MD (u:=u) (v:=v) e f;have h:=cZ c g;have i:=cZ (cZ c c) (om:0<=a*b-m*m)
 have j:(d*a+u*u)*(d*b+v*v)-(d*m+u*v)*(d*m+u*v)=d*d*(a*b-m*m)+d*(a*(v*v)+b*(u*u)-2*(m*(u*v))):=by grind
 omega
def Pd.cs(h:Pd A n):∀(i j k:Nat),k+i<n->k+j<n->cM A k i j*cM A k i j<=cM A k i i*cM A k j j
 | 0,0,k,_,_=>xV _
 | 0,j+1,k,_,b=>by
  rw[h.stg_sym k 0 (j+1) om om,c8];exact h.lam_sq om
 | i+1,0,k,c,_=>by
  rw[c8,cR (cM A k (i+1) (i+1))];exact h.lam_sq om
 | i+1,j+1,k,c,b=>by
  have ih:=h.cs i j (k+1) om om;have d:=h.stg_rec (k:=k) (i:=i) om;have e:=h.stg_rec (k:=k) (i:=j) om;have f:=h.stg_rec2 (k:=k) (i:=i) (j:=j) om om;have g:=h.pos k om;have a:=h.pos (k+1) om;have l:=Pe (u:=cM A k (i+1) 0) (v:=cM A k (j+1) 0) (co g) (h.stg_pos i (k+1) om) ih;rw[<-d,<-e,<-f]at l;have m:0<det (k+1) A*det (k+1) A:=ou a a;refine jh ?_ m;have o:det (k+1) A*det (k+1) A*(cM A k (i+1) (j+1)*cM A k (i+1) (j+1))=det (k+1) A*cM A k (i+1) (j+1)*(det (k+1) A*cM A k (i+1) (j+1)):=by grind
  have p:det (k+1) A*det (k+1) A*(cM A k (i+1) (i+1)*cM A k (j+1) (j+1))=det (k+1) A*cM A k (i+1) (i+1)*(det (k+1) A*cM A k (j+1) (j+1)):=by grind
  omega
def Pd.cs0(h:Pd A n){i j:Nat}(a:i<n)(b:j<n):A i j*A i j<=A i i*A j j:=by
 have:=h.cs i j 0 om om;simpa only[ie]using this
def Pd.diag(h:Pd A n){i:Nat}(a:i<n):0<A i i:=by
 have:=h.stg_pos i 0 om
 rwa [ie]at this
def kt(A:aJ)(i j:Nat):Int:=cM A j (i-j) 0
def iu(A:aJ)(i j:Nat):Prop:=2*(kt A i j).natAbs<=det (j+1) A
def ij(A:aJ)(i:Nat):Prop:=3*(det i A*det i A)<=4*(det (i-1) A*det (i+1) A+kt A i (i-1)*kt A i (i-1))
def Ou{d:Int}(h:2*(x.natAbs:Int)<=d):x*x<=d*d:=by
 have a:((x.natAbs:Nat):Int)*x.natAbs=x*x:=by rw[<-bL,lH]
 rw[<-a];exact cB om om om om
def rA{d:Int}(h:2*(x.natAbs:Int)<=d):4*(x*x)<=d*d:=by
 have a:((x.natAbs:Nat):Int)*x.natAbs=x*x:=by rw[<-bL,lH]
 have b:(2*(x.natAbs:Int))*(2*x.natAbs)<=d*d:=cB h h om om;have c:(2*(x.natAbs:Int))*(2*x.natAbs)=4*((x.natAbs:Int)*x.natAbs):=by grind
 omega
def Pd.sized_up(h:Pd A n){D:Int}{r:Nat}(f:r<n)(a:∀k,k<=r->det (k+1) A<=D)(c:∀j,j<r->iu A r j):∀(i k:Nat),k+i=r->4*cM A k i i<=det k A*((i+4:Nat)*D)
 | 0,k,g=>by
  rw[c8];have b:=a k om;have l:=h.pos k om;have m:=h.pos (k+1) om;have o:=cq (om:1<=det k A) (om:0<=D)
  have p:det k A*(((0+4:Nat):Int)*D)=4*(det k A*D):=by
   rw[show((0+4:Nat):Int)=4 from rfl];grind
  omega
 | i+1,k,g=>by
  have e:=h.stg_rec (k:=k) (i:=i) om;have ih:=h.sized_up f a c i (k+1) om;have q:=h.pos k om;have b:=h.pos (k+1) om;have d:=rA (c k om);unfold kt at d;rw[(om:r-k=i+1)]at d
  have l:=a k om;have m:=cc ih (co q);refine jh ?_ b;have o:det k A*(det (k+1) A*((i+4:Nat)*D))+det (k+1) A*det (k+1) A<=det (k+1) A*(det k A*((i+1+4:Nat)*D)):=by
   have p:det (k+1) A*(det k A*((i+1+4:Nat)*D))=det k A*(det (k+1) A*((i+4:Nat)*D))+det (k+1) A*(det k A*D):=by
    rw[show((i+1+4:Nat):Int)=((i+4:Nat):Int)+1 by omega];grind
   have s:det (k+1) A*det (k+1) A<=det (k+1) A*(det k A*D):=by
    refine cc ?_ (co b);have t:=cq (om:1<=det k A) (om:0<=D)
    omega
   omega
  have u:det k A*(4*cM A (k+1) i i)=4*(det k A*cM A (k+1) i i):=by grind
  have v:det (k+1) A*(4*cM A k (i+1) (i+1))=4*(det (k+1) A*cM A k (i+1) (i+1)):=by grind
  omega
def Pd.sized_norm4(h:Pd A n){D:Int}{r:Nat}(a:r<n)(b:∀k,k<=r->det (k+1) A<=D)(c:∀j,j<r->iu A r j):4*A r r<=(r+4:Nat)*D:=by
 have:=h.sized_up a b c r 0 om;rw[ie]at this;simpa [det]using this
def Pd.sized_norm(h:Pd A n){D:Int}{r:Nat}(b:r<n)(a:∀k,k<=r->det (k+1) A<=D)(c:∀j,j<r->iu A r j):A r r<=(r+1:Nat)*D:=by
 have d:=h.sized_norm4 b a c;have e:det 1 A<=D:=a 0 om;have f:=h.pos 1 om;have g:((r+4:Nat):Int)*D<=((4*(r+1):Nat):Int)*D:=cq om om;have i:((4*(r+1):Nat):Int)*D=4*(((r+1:Nat):Int)*D):=by
  rw[bL];grind
 omega

def ra(k c i:Nat):up k (fun _=>c) i=if i<k then i else k+c:=rfl
def lR(A:aJ)(i j:Nat)(q:Int):aJ:=fun a b=>A a b+(if a=i then q*A j b else 0)+(if b=i then q*A a j else 0)+(if a=i/\b=i then q*q*A j j else 0)
def qF(A:aJ){i j a b:Nat}{q:Int}(c:a≠i)(d:b≠i):lR A i j q a b=A a b:=by simp[lR,c,d]
def Fj(A:aJ){i j b:Nat}{q:Int}(a:b≠i):lR A i j q i b=A i b+q*A j b:=by simp[lR,a]
def kb(l:j<i)(k:Nat):det k (lR A i j q)=det k A:=by
 rcases aA i k with c|c
 .have e:=mG A (n:=k) (i:=i) (k:=j) c om om 1 q;have d:=px (setRow A i (fun b=>1*A i b+q*A j b)) (n:=k) (i:=i) (k:=j) c om om 1 q;rw[e]at d;rw[eW,eW]at d;rw[<-d];refine ck fun a b _ _=>?_;simp only[lR,cn,setRow];have f:j≠i:=om
  by_cases g:a=i<;>by_cases h:b=i<;>simp[g,h]<;>grind
 .exact ck fun a b m o=>qF A om om
def wy{i':Nat}(d:i'<i)(c:j'<=i'):kt (lR A i j q) i' j'=kt A i' j':=by
 unfold kt cM;refine ck fun a b e f=>?_;exact qF A (by rw[ra];split<;>omega) (by rw[ra];split<;>omega)
def Fk(l:j<j')(g:j'<i):kt (lR A i j q) i j'=kt A i j':=by
 have f:=mG (fun a b=>A (up j' (fun _=>i-j') a) (up j' (fun _=>0) b)) (n:=j'+1) (i:=j') (k:=j) om om om 1 q;rw[eW]at f;unfold kt cM;rw[<-f];refine ck fun a b m o=>?_;simp only[setRow];have c:up j' (fun _=>0) b≠i:=by rw[ra];split<;>omega
 by_cases e:a=j'
 .subst e;have d:up a (fun _=>i-a) a=i:=by rw[ra];rw[af om];omega
  have h:up a (fun _=>i-a) j=j:=by rw[ra];rw[ai om]
  rw[d,h,Fj A c];simp
 .have d:up j' (fun _=>i-j') a=a:=by rw[ra];rw[ai om]
  rw[d,qF A om c,af e]
def Fl(m:j<i):kt (lR A i j q) i j=kt A i j+q*det (j+1) A:=by
 have g:=tp (fun a b=>A (up j (fun _=>i-j) a) (up j (fun _=>0) b)) (n:=j+1) (i:=j) om 1 q (fun b=>A i (up j (fun _=>0) b)) (fun b=>A j (up j (fun _=>0) b));unfold kt cM;have k:det (j+1) (setRow (fun a b=>A (up j (fun _=>i-j) a) (up j (fun _=>0) b)) j (fun b=>A i (up j (fun _=>0) b)))=det (j+1) (fun a b=>A (up j (fun _=>i-j) a) (up j (fun _=>0) b)):=by
  refine ck fun a b h d=>?_;simp only[setRow];by_cases e:a=j
  .subst e;rw[ai rfl];congr 1;rw[ra];rw[af om];omega
  .rw[af e]
 have l:det (j+1) (setRow (fun a b=>A (up j (fun _=>i-j) a) (up j (fun _=>0) b)) j (fun b=>A j (up j (fun _=>0) b)))=det (j+1) A:=by
  refine ck fun a b h d=>?_;simp only[setRow];rw[oE j b d];by_cases e:a=j
  .subst e;rw[ai rfl]
  .rw[af e];congr 1;rw[ra];rw[ai om]
 rw[k,l,eW]at g;rw[<-g];refine ck fun a b h d=>?_;simp only[setRow];have c:up j (fun _=>0) b≠i:=by rw[ra];split<;>omega
 by_cases e:a=j
 .subst e;have f:up a (fun _=>i-a) a=i:=by rw[ra];rw[af om];omega
  rw[f,Fj A c,ai rfl];simp
 .have f:up j (fun _=>i-j) a=a:=by rw[ra];rw[ai om]
  rw[f,qF A om c,af e]
def DE(A:aJ)(i:Nat):aJ:=fun a b=>A (dG (i-1) i a) (dG (i-1) i b)
def nA(j:0<i)(l:k≠i):det k (DE A i)=det k A:=by
 rcases aA i k with h|h
 .have d:=Cp (fun a b=>A a (dG (i-1) i b)) (n:=k) (i:=i-1) (k:=i) om h om;have f:=ny A (n:=k) (i:=i-1) (k:=i) om h om;show det k (fun a b=>(fun a b=>A a (dG (i-1) i b)) (dG (i-1) i a) b)=_;rw[d,f];omega
 .refine ck fun a b c g=>?_;have e:∀a,a<k->dG (i-1) i a=a:=fun a c=>by unfold dG;rw[af om,af om]
  simp only[DE];rw[e a c,e b g]
def vT(f:0<i):det i (DE A i)=cM A (i-1) 1 1:=by
 unfold cM;rw[(om:i-1+1=i)]
 refine ck fun a b c d=>?_;have e:∀a,a<i->dG (i-1) i a=up (i-1) (fun _=>1) a:=fun a c=>by
  rw[ra];unfold dG;by_cases h:a=i-1
  .rw[ai h,af om];omega
  .rw[af h,af om,ai om]
 simp only[DE];rw[e a c,e b d]
def Pd.swap_lead(h:Pd A n){i:Nat}(a:0<i)(b:i<n):det i A*det i (DE A i)=det (i-1) A*det (i+1) A+kt A i (i-1)*kt A i (i-1):=by
 have e:=h.stg_rec (k:=i-1) (i:=0) om;rw[vT a];unfold kt;rw[(om:i-(i-1)=1)]
 rw[(om:i-1+1=i),aB,c8]at e
 exact e
def Pd.add(h:Pd A n){i j:Nat}{q:Int}(e:j<i)(m:i<n):Pd (lR A i j q) n:=by
 refine⟨fun a b c d=>?_,fun k f=>by rw[kb e];exact h.pos k f⟩
 have o:=h.sym a b c d;have p:=h.sym j a om c;have r:=h.sym j b om d;simp only[lR];by_cases g:a=i<;>by_cases l:b=i<;>simp[g,l]<;>grind
def Pd.swap(h:Pd A n){i:Nat}(c:0<i)(l:i<n):Pd (DE A i) n:=by
 have d:∀a,a<n->dG (i-1) i a<n:=fun a f=>by unfold dG;split<;>(try split)<;>omega
 refine⟨fun a b f g=>h.sym _ _ (d a f) (d b g),fun k j=>?_⟩;by_cases e:k=i
 .subst e;rw[vT c];exact h.stg_pos 1 (k-1) om
 .rw[nA c e];exact h.pos k j
def Ba(h:Pd A n){i:Nat}(b:0<i)(c:i<n)(a:¬ij A i):4*det i (DE A i)<3*det i A:=by
 unfold ij at a;rw[<-h.swap_lead b c]at a;have d:=h.pos i om;have e:det i A*(4*det i (DE A i))<det i A*(3*det i A):=by
  have f:det i A*(4*det i (DE A i))=4*(det i A*det i (DE A i)):=by grind
  have g:det i A*(3*det i A)=3*(det i A*det i A):=by grind
  omega
 exact Int.lt_of_mul_lt_mul_left e (co d)
open Classical in
noncomputable def oc(p:Nat->Prop):Nat->Nat
 | 0=>0
 | w+1=>if (∀c,c<=w->p c)then w+1 else oc p w
theorem BD(p:Nat->Prop):∀w,oc p w<=w
 | 0=>by simp[oc]
 | w+1=>by have:=BD p w;simp only[oc];split<;>omega
theorem uU{p:Nat->Prop}{k:Nat}(h:∀c,c<k->p c):∀w,k<=w->k<=oc p w
 | 0,a=>om
 | w+1,a=>by
  simp only[oc];split
  .exact a
  .rename_i d;rcases aA w k with b|b
   .exact absurd (fun c e=>h c om) d
   .exact uU h w b
theorem sd{p:Nat->Prop}{k:Nat}(h:¬p k):∀w,oc p w<=k
 | 0=>by simp[oc]
 | w+1=>by
  simp only[oc];split
  .rename_i b;rcases aA w k with a|a
   .omega
   .exact absurd (b k a) h
  .exact sd h w
def chk(A:aJ)(n c:Nat):Prop:=(c%(n+1)<c/(n+1)->iu A (c/(n+1)) (c/(n+1)-1-c%(n+1)))/\(c%(n+1)=c/(n+1)->0<c/(n+1)->ij A (c/(n+1)))
def MH(a:t<n+1):(i*(n+1)+t)/(n+1)=i:=by
 rw[ay,kv om,eA a];omega
def MG(a:t<n+1):(i*(n+1)+t)%(n+1)=t:=by
 rw[ay,mi,ez a]
def Fc(a:t<n+1):chk A n (i*(n+1)+t)↔(t<i->iu A i (i-1-t))/\(t=i->0<i->ij A i):=by
 unfold chk;rw[MH a,MG a]
def jG(A:aJ)(i:Nat):Prop:=(∀r,r<i->∀j,j<r->iu A r j)/\∀r,0<r->r<i->ij A r
def BN(d:jG A i)(f:∀j,i<j+1+t->j<i->iu A i j)(g:t<=i)(k:i<n){c:Nat}(l:c<i*(n+1)+t):chk A n c:=by
 have m:c/(n+1)<=i:=by
  rcases aA i (c/(n+1))with h|h
  .have b:=Nat.div_mul_le_self c (n+1);have a:(i+1)*(n+1)<=c/(n+1)*(n+1):=aC _ h;rw[cQ]at a;omega
  .exact h
 rcases aA (c/(n+1)) i with h|h
 .refine⟨fun b=>d.1 _ h _ om,fun b a=>d.2 _ a h⟩
 .have e:c/(n+1)=i:=om
  have b:c%(n+1)<t:=by
   have:=dv c (n+1);rw[e,ay]at this;omega
  unfold chk;rw[e];exact⟨fun a=>f _ om om,fun a=>om⟩

def nf:Nat->(Nat->Nat)->Nat
 | 0,_=>1
 | n+1,f=>nf n f*f n
def sU{f:Nat->Nat}(h:∀i,i<n->f i=g i):nf n f=nf n g:=by
 induction n with
 | zero=>rfl
 | succ n ih=>simp only[nf];rw[ih fun i a=>h i om,h n om]
def Gi{f:Nat->Nat}(h:∀i,i<n->0<f i):0<nf n f:=by
 induction n with
 | zero=>simp[nf]
 | succ n ih=>simp only[nf];exact Hf (ih fun i a=>h i om) (h n om)
def Er{f:Nat->Nat}(d:i<n)(h:∀k,k<n->k≠i->g k=f k)(b:4*g i<=3*f i):4*nf n g<=3*nf n f:=by
 induction n with
 | zero=>omega
 | succ n ih =>
  simp only[nf];rcases aA i n with a|a
  .rw[h n om om,<-a6,<-a6];exact aC _ (ih a fun k c=>h k om)
  .obtain rfl:i=n:=om
   rw[sU (f:=g) (g:=f) fun k c=>h k om om,Tj,Tj 3];exact aL _ b
def Of(A:aJ)(n:Nat):Nat:=nf n (fun k=>(det k A).toNat)
noncomputable def lC(A:aJ)(n:Nat):Nat:=oc (chk A n) (n*(n+1))
noncomputable def uR(A:aJ)(n:Nat):Nat:=Of A n*(n*(n+1)+1)+(n*(n+1)-lC A n)
def Et(A:aJ)(n:Nat):lC A n<=n*(n+1):=BD _ _
def Pd.pot_pos(h:Pd A n):0<Of A n:=Gi fun k a=>by have:=h.pos k om;omega
def Oe(a:j<i):Of (lR A i j q) n=Of A n:=sU fun k _=>by rw[kb a]
def LM(h:Pd A n)(a:0<i)(b:i<n)(c:¬ij A i):4*Of (DE A i) n<=3*Of A n:=by
 refine Er b (fun k _ d=>by rw[nA a d]) ?_
 have e:=Ba h a b c;have f:=(h.swap a b).pos i om;omega
def Jz(b:j<i)(g:i<n)(k:jG A i)(m:∀j',j<j'->j'<i->iu A i j')(o:¬iu A i j)(p:2*((kt A i j+q*det (j+1) A).natAbs:Int)<=det (j+1) A) :
  lC A n<lC (lR A i j q) n:=by
 have v:lC A n<=i*(n+1)+(i-1-j):=by
  refine sd ?_ _;rw[Fc om];intro h;have:=h.1 om;rw[(om:i-1-(i-1-j)=j)]at this
  exact o this
 have w:i*(n+1)+(i-1-j)+1<=n*(n+1):=by
  have:(i+1)*(n+1)<=n*(n+1):=aC _ g;rw[cQ]at this;omega
 have d:jG (lR A i j q) i:=by
  refine⟨fun r a s e=>?_,fun r t a=>?_⟩
  .have:=k.1 r a s e;unfold iu at *;rw[wy a om,kb b];exact this
  .have:=k.2 r t a;unfold ij at *;rw[wy a om,kb b,kb b,kb b];exact this
 have x:i*(n+1)+(i-j)<=lC (lR A i j q) n:=by
  refine uU (fun c u=>BN d (fun j' y l=>?_) om g u) _ om;unfold iu;rw[kb b];rcases aA j j' with f|f
  .rw[Fk f l];exact m j' f l
  .obtain rfl:j'=j:=om
   rw[Fl b];exact p
 omega
def L3(a:j<i)(b:lC A n<lC (lR A i j q) n):uR (lR A i j q) n<uR A n:=by
 unfold uR;rw[Oe a];have c:=Et (lR A i j q) n;omega
def JE(h:Pd A n)(a:0<i)(b:i<n)(c:¬ij A i):uR (DE A i) n<uR A n:=by
 unfold uR;have e:=LM h a b c;have f:=h.pot_pos;have d:(Of (DE A i) n+1)*(n*(n+1)+1)<=Of A n*(n*(n+1)+1):=aC _ om;rw[cQ]at d;omega

def iD{a b:Nat}(h:a<=b):(2:Int)^a<=2^b:=by
 have:=bZ (n:=2) om h;have c:((2^a:Nat):Int)<=((2^b:Nat):Int):=kg.2 this;simpa using c

structure KQ(H:aJ)(n:Nat):Prop where
 pd:Pd H n
 rows:jG H n
 lead:∀k,k<=n->det k H<=64000
def KQ.diag(h:KQ H n)(c:n<=8){i:Nat}(a:i<n):H i i<=176000:=by
 have d:=h.pd.sized_norm4 (D:=64000) a (fun k e=>h.lead (k+1) om) (fun j b=>h.rows.1 i a j b);omega
def Bi{B:Int}(b:0<=B)(h:x*x<=B*B):x.natAbs<=B:=by
 rcases pU B x.natAbs with a|a
 .exfalso;have c:(B+1)*(B+1)<=(x.natAbs:Int)*x.natAbs:=cB om om om om;have d:((x.natAbs:Nat):Int)*x.natAbs=x*x:=by rw[<-bL,lH]
  have e:(B+1)*(B+1)=B*B+2*B+1:=by grind
  omega
 .exact a
def KQ.entry(h:KQ H n)(b:n<=8){i j:Nat}(c:i<n)(a:j<n):((H i j).natAbs:Int)<=176000:=by
 have f:=h.pd.cs0 c a;have d:=h.diag b c;have e:=h.diag b a;have g:=cB d e (co (h.pd.diag a)) om;exact Bi om om
def Iv{l d:Int}(b:0<d):2*((l+-((2*l+d)/(2*d))*d).natAbs:Int)<=d:=by
 have c:=aU (2*l+d) (om:2*d≠0)
 have e:=aS (2*l+d) (om:0<2*d)
 have f:=di (2*l+d) (2*d);generalize hq:(2*l+d)/(2*d)=q at *;have g:2*d*q=2*(q*d):=by grind
 have a:-q*d=-(q*d):=by grind
 rw[a];omega

abbrev iz:=Nat->Int
variable{L:iz->Prop}
def eU(n m:Nat)(B:aJ)(x:iz):Prop:=∃c:iz,∀i,i<n->x i=az m (fun j=>B i j*c j)
structure NA(n:Nat)(L:iz->Prop):Prop where
 zero:L (fun _=>0)
 comb:∀x y:iz,L x->L y->∀a b:Int,L (fun i=>a*x i+b*y i)
 ext:∀x y:iz,L x->(∀i,i<n->x i=y i)->L y
def NA.smul(h:NA n L){x:iz}(b:L x)(a:Int):L (fun i=>a*x i) :=
 h.ext _ _ (h.comb x x b b a 0) (fun i _=>by simp)
def NA.add(h:NA n L){x y:iz}(a:L x)(b:L y):L (fun i=>x i+y i) :=
 h.ext _ _ (h.comb x y a b 1 1) (fun i _=>by simp)
def NA.sum(h:NA n L)(C:Nat->iz)(c:iz):∀m,(∀j,j<m->L (C j))->L (fun i=>az m (fun j=>C j i*c j))
 | 0,_=>h.ext _ _ h.zero (fun i _=>by simp[az])
 | m+1,a=>h.ext _ _ (h.comb _ _ (h.sum C c m fun j b=>a j om) (a m om) 1 (c m)) (fun i _=>by simp only[az];grind)
def Jo(m:Nat)(a b:Int)(B:Nat->Int)(c d:iz):az m (fun j=>B j*(a*c j+b*d j))=a*az m (fun j=>B j*c j)+b*az m (fun j=>B j*d j):=by
 rw[<-oH];exact aF fun j _=>by grind
def eU.lat(n m:Nat)(B:aJ):NA n (eU n m B):=by
 refine⟨⟨fun _=>0,fun i _=>(iP fun j _=>by simp).symm⟩,?_,?_⟩
 .rintro x y ⟨c,f⟩ ⟨d,g⟩ a b;exact⟨fun j=>a*c j+b*d j,fun i e=>by show a*x i+b*y i=_;rw[f i e,g i e,Jo]⟩
 .rintro x y ⟨c,f⟩ h;exact⟨c,fun i e=>by rw[<-h i e];exact f i e⟩
def eU.col(a:j<m):eU n m B (fun i=>B i j) :=
 ⟨gD j,fun i _=>by
  rw[da j a (fun k _ b=>by simp[gD,b])];simp[gD]⟩
def eU.sub(a:NA n L)(h:∀j,j<m->L (fun i=>B i j)){x:iz}(b:eU n m B x):L x:=by
 obtain⟨c,d⟩:=b;exact a.ext _ _ (a.sum (fun j i=>B i j) c m h) (fun i e=>(d i e).symm)
def kC(n:Nat)(A B:aJ):Prop:=(∀x,eU n n A x↔eU n n B x)/\(det n A).natAbs=(det n B).natAbs
def kC.refl(n:Nat)(A:aJ):kC n A A:=⟨fun _=>Iff.rfl,rfl⟩
def kC.trans{C:aJ}(h:kC n A B)(k:kC n B C):kC n A C:=⟨fun x=>(h.1 x).trans (k.1 x),h.2.trans k.2⟩
def kC.of(a:∀j,j<n->eU n n A (fun i=>B i j))(b:∀j,j<n->eU n n B (fun i=>A i j))(c:(det n A).natAbs=(det n B).natAbs):kC n A B :=
 ⟨fun _=>⟨eU.sub (eU.lat n n B) b,eU.sub (eU.lat n n A) a⟩,c⟩
def Jv(A:aJ){i k:Nat}(f:i<n)(d:k<n)(a:i≠k)(c:Int):kC n A (cn A i (fun r=>A r i+c*A r k)):=by
 refine kC.of (fun j b=>?_) (fun j b=>?_) ?_
 .by_cases e:j=i
  .subst e;exact(eU.lat n n A).ext _ _ ((eU.lat n n A).comb _ _ (eU.col b) (eU.col d) 1 c) (fun r _=>by simp[cn])
  .exact(eU.lat n n A).ext _ _ (eU.col b) (fun r _=>by simp[cn,e])
 .by_cases e:j=i
  .subst e;refine(eU.lat n n _).ext _ _ ((eU.lat n n _).comb _ _ (eU.col (j:=j) b) (eU.col (j:=k) d) 1 (-c)) (fun r _=>?_);simp only[cn,aO,af (aj a)];grind
  .exact(eU.lat n n _).ext _ _ (eU.col (j:=j) b) (fun r _=>by simp[cn,e])
 .have h:=px A f d a 1 c;rw[eW]at h;rw[<-h];simp only[eW]
def Gd(A:aJ){i k:Nat}(g:i<n)(h:k<n)(d:i≠k):kC n A (fun a b=>A a (dG i k b)):=by
 have f:∀j,j<n->dG i k j<n:=fun j c=>by unfold dG;split<;>(try split)<;>omega
 have e:∀j,dG i k (dG i k j)=j:=fun j=>by unfold dG;grind
 refine kC.of (fun j c=>eU.col (f j c)) (fun j c=>?_) ?_
 .have:=eU.col (n:=n) (B:=fun a b=>A a (dG i k b)) (f j c);simpa only[e]using this
 .rw[ny A g h d];omega
def Jw(A:aJ){i:Nat}(b:i<n):kC n A (cn A i (fun r=>- A r i)):=by
 refine kC.of (fun j a=>?_) (fun j a=>?_) ?_
 .by_cases e:j=i
  .subst e;exact(eU.lat n n A).ext _ _ ((eU.lat n n A).smul (eU.col a) (-1)) (fun r _=>by simp[cn])
  .exact(eU.lat n n A).ext _ _ (eU.col a) (fun r _=>by simp[cn,e])
 .by_cases e:j=i
  .subst e;exact(eU.lat n n _).ext _ _ ((eU.lat n n _).smul (eU.col (j:=j) a) (-1)) (fun r _=>by simp[cn])
  .exact(eU.lat n n _).ext _ _ (eU.col (j:=j) a) (fun r _=>by simp[cn,e])
 .have h:=C5 A b (-1) 0 (fun r=>A r i) (fun r=>A r i);have e:cn A i (fun r=>-1*A r i+0*A r i)=cn A i (fun r=>- A r i):=by congr 1;funext r;omega
  rw[e,kW]at h;omega
def Ay(A:aJ)(h:∀j,0<j->j<n+1->A 0 j=0):det (n+1) A=A 0 0*det n (fun i j=>A (i+1) (j+1)):=by
 simp only[det];rw[da 0 om (fun j a b=>by rw[h j om a];simp)]
 simp only[yE,eW];congr 1
 all_goals (first|rfl|(exact ck fun i j _ _=>by simp[cut,skip]))
def nd:Nat->(Nat->Int)->Int
 | 0,_=>1
 | n+1,f=>f 0*nd n (fun i=>f (i+1))
def wC(n i:Nat)(A:aJ):Prop:=∀r,r<i->(∀j,r<j->j<n->A r j=0)/\0<A r r
theorem xL{n:Nat}:∀(i:Nat) (A:aJ),wC (n+i) i A->det (n+i) A=nd i (fun r=>A r r)*det n (fun r j=>A (r+i) (j+i))
 | 0,A,_=>by simp[nd]
 | i+1,A,h=>by
  rw[<-kD,Ay A (fun j a b=>(h 0 om).1 j a om),xL i (fun r j=>A (r+1) (j+1)) (fun r c=>⟨fun j d e=>(h (r+1) om).1 (j+1) om om,(h (r+1) om).2⟩)];simp only[nd];rw[iT];rfl
def uM{f:Nat->Int}(h:∀i,i<n->0<f i):0<nd n f:=by
 induction n generalizing f with
 | zero=>simp[nd]
 | succ n ih=>simp only[nd];exact ou (h 0 om) (ih fun i a=>h (i+1) om)
def dK:Nat->(Nat->Int)->Nat
 | 0,_=>0
 | n+1,f=>dK n f+(f n).natAbs
def MW{f g:Nat->Int}(b:k<n)(h:∀j,j<n->j≠k->f j=g j)(c:(f k).natAbs<(g k).natAbs):dK n f<dK n g:=by
 induction n with
 | zero=>omega
 | succ n ih =>
  simp only[dK];by_cases e:k=n
  .subst e;have:dK k f=dK k g:=by
    have key:∀m,m<=k->dK m f=dK m g:=by
     intro m
     induction m with
     | zero=>intro _;rfl
     | succ m a=>intro d;simp only[dK];rw[a om,h m om om]
    exact key k (ae _)
   omega
  .rw[h n om (aj e)];have:=ih om (fun j i=>h j om);omega
def E5(A:aJ)(h:∀j,j<n+1->A 0 j=0):det (n+1) A=0:=by
 simp only[det];exact iP fun j a=>by rw[h j a];simp
def NT(G:i<n):∀(m:Nat) (A:aJ),dK n (fun j=>if i<=j then A i j else 0)=m->wC n i A->det n A≠0->∃B,kC n A B/\wC n (i+1) B:=by
 intro m
 induction m using Nat.strongRecOn with
 | ind m ih =>
  intro A K q L;by_cases z:∃d a,i<=d/\d<n/\i<=a/\a<n/\d≠a/\A i d≠0/\(A i d).natAbs<=(A i a).natAbs
  .obtain⟨d,a,C,u,v,s,t,w,y⟩:=z;have H:=Jv A s u (aj t) (-(A i a/A i d));have D:(A i a+-(A i a/A i d)*A i d).natAbs<(A i a).natAbs:=by
    have e:A i a+-(A i a/A i d)*A i d=A i a%A i d:=by
     rw[QN];grind
    rw[e];have M:=aU (A i a) w;have N:=SR (A i a) w;omega
   have E:wC n i (cn A a (fun r=>A r a+-(A i a/A i d)*A r d)):=by
    refine fun r o=>⟨fun j g b=>?_,?_⟩
    .by_cases e:j=a
     .subst e;simp only[cn,aO];rw[(q r o).1 j g b,(q r o).1 d om u];simp
     .simp only[cn,e,aP];exact(q r o).1 j g b
    .simp only[cn];rw[af om];exact(q r o).2
   obtain⟨B,p,f⟩:=ih (dK n (fun j=>if i<=j then cn A a (fun r=>A r a+-(A i a/A i d)*A r d) i j else 0)) (by
     rw[<-K];refine MW s (fun j _ g=>?_) ?_
     .simp[cn,g]
     .simp only[v,aO,cn];exact D) _ rfl E (by
     have:=H.2;intro l;rw[l]at this;omega)
   exact⟨B,H.trans p,f⟩
  .have F:∃c,i<=c/\c<n/\A i c≠0:=by
    rcases io (∃c,i<=c/\c<n/\A i c≠0)with h|h
    .exact h
    .exfalso;refine L ?_;obtain⟨k,rfl⟩:∃k,n=k+1+i:=⟨n-i-1,om⟩
     rw[xL i A q,E5 (n:=k) _ (fun j g=>?_),uh];rcases io (A (0+i) (j+i)=0)with l|l
     .exact l
     .exact absurd ⟨j+i,om,om,by rw[aB]at l;exact l⟩ h
   obtain⟨c,C,u,v⟩:=F;have I:∀j,i<=j->j<n->j≠c->A i j=0:=by
    intro j s t w;rcases io (A i j=0)with l|l
    .exact l
    .exfalso;rcases Nat.le_total (A i j).natAbs (A i c).natAbs with y|y
     .exact z ⟨j,c,s,t,C,u,w,l,y⟩
     .exact z ⟨c,j,C,u,s,t,aj w,v,y⟩
   have s:∃B,kC n A B/\wC n i B/\B i i≠0/\∀j,i<j->j<n->B i j=0:=by
    by_cases e:i=c
    .subst e;exact⟨A,kC.refl n A,q,v,fun j g b=>I j om b om⟩
    .refine⟨_,Gd A G u e,fun r o=>⟨fun j g b=>?_,?_⟩,?_,fun j g b=>?_⟩
     .have:r<dG i c j/\dG i c j<n:=by unfold dG;split<;>(try split)<;>omega
      exact(q r o).1 _ this.1 this.2
     .have:dG i c r=r:=by unfold dG;rw[af om,af om]
      show 0<A r (dG i c r);rw[this];exact(q r o).2
     .show A i (dG i c i)≠0;have:dG i c i=c:=by simp[dG]
      rw[this];exact v
     .show A i (dG i c j)=0;refine I _ ?_ ?_ ?_<;>(unfold dG;split<;>(try split)<;>omega)
   obtain⟨B,p,f,O,x⟩:=s;rcases pU 0 (B i i)with t|t
   .refine⟨B,p,fun r o=>?_⟩;by_cases e:r=i
    .subst e;exact⟨x,t⟩
    .exact f r om
   .refine⟨_,p.trans (Jw B G),fun r o=>⟨fun j g b=>?_,?_⟩⟩
    .simp only[cn];by_cases e:r=i
     .subst e;rw[af om];exact x j g b
     .by_cases J:j=i
      .subst J;rw[ai rfl,(f r om).1 j g b];rfl
      .rw[af J];exact(f r om).1 j g b
    .simp only[cn];by_cases e:r=i
     .subst e;rw[ai rfl];omega
     .rw[af e];exact(f r om).2
def F4(A:aJ)(f:det n A≠0):∃B,kC n A B/\wC n n B:=by
 have key:∀i,i<=n->∃B,kC n A B/\wC n i B:=by
  intro i
  induction i with
  | zero=>intro _;exact⟨A,kC.refl n A,fun r g=>om⟩
  | succ i ih =>
   intro h;obtain⟨B,a,b⟩:=ih om;obtain⟨C,c,d⟩:=NT om _ B rfl b (by have:=a.2;intro e;rw[e]at this;omega)
   exact⟨C,a.trans c,d⟩
 exact key n (ae _)
def Ll(h:kC n A B)(b:wC n n B):((det n A).natAbs:Int)=nd n (fun r=>B r r):=by
 have a:=xL (n:=0) n B (by rw[aB];exact b)
 rw[aB]at a;simp only[det,rh]at a;have d:=uM (n:=n) (f:=fun r=>B r r) (fun r c=>(b r c).2);rw[h.2,a];omega

def bz(x y:Nat):Int×Int×Int :=
 if h:y=0 then(x,1,0)else
  have:x%y<y:=dq _ (gn h)
  ((bz y (x%y)).1,(bz y (x%y)).2.2,(bz y (x%y)).2.1-((x/y:Nat):Int)*(bz y (x%y)).2.2)
termination_by y
def mH(x:Nat):bz x 0=((x:Int),1,0):=by rw[bz];simp
def qY(x:Nat){y:Nat}(h:y≠0):bz x y=((bz y (x%y)).1,(bz y (x%y)).2.2,(bz y (x%y)).2.1-((x/y:Nat):Int)*(bz y (x%y)).2.2):=by
 rw[bz];simp[h]
def C8:∀(n x y:Nat),y<=n->(bz x y).1=(bz x y).2.1*x+(bz x y).2.2*y:=by
 intro n
 induction n with
 | zero=>intro x y h;rw[(om:y=0),mH];simp
 | succ n ih =>
  intro x y h;by_cases a:y=0
  .rw[a,mH];simp
  .have b:=ih y (x%y) (by have:=dq x (gn a);omega)
   rw[qY x a];simp only;rw[b];have e:(x:Int)=((x/y:Nat):Int)*y+((x%y:Nat):Int):=by
    have:=dv x y;rw[ay]at this
    exact_mod_cast this.symm
   generalize ((x/y:Nat):Int)=q at *;generalize ((x%y:Nat):Int)=r at *;rw[e];grind
def C9:∀(n x y:Nat),y<=n->(bz x y).1∣(x:Int)/\(bz x y).1∣(y:Int):=by
 intro n
 induction n with
 | zero=>intro x y h;rw[(om:y=0),mH];exact⟨iN _,iM _⟩
 | succ n ih =>
  intro x y h;by_cases a:y=0
  .rw[a,mH];exact⟨iN _,iM _⟩
  .have b:=ih y (x%y) (by have:=dq x (gn a);omega)
   rw[qY x a];refine⟨?_,b.1⟩;have e:(x:Int)=(y:Int)*((x/y:Nat):Int)+((x%y:Nat):Int):=by exact_mod_cast (dv x y).symm
   rw[e];exact jz (eC b.1) b.2
def zG:∀(n x y:Nat),y<=n->(0<x∨0<y)->0<(bz x y).1/\(bz x y).1<=max x y:=by
 intro n
 induction n with
 | zero=>intro x y h h';rw[(om:y=0),mH];simp only;omega
 | succ n ih =>
  intro x y h h';by_cases a:y=0
  .rw[a,mH];simp only;omega
  .have b:=dq x (gn a);have c:=ih y (x%y) om om;rw[qY x a];simp only;omega
def ML:∀(n x y:Nat),y<=n->0<y->((bz x y).2.1).natAbs<=y/\((bz x y).2.2).natAbs<=max 1 x:=by
 intro n
 induction n with
 | zero=>intro x y h h';omega
 | succ n ih =>
  intro x y h h';have b:=dq x h';rw[qY x om];simp only;by_cases a:x%y=0
  .rw[a,mH];simp only;omega
  .have c:=ih y (x%y) om om;have e:=dv x y;have d:(((x/y:Nat):Int)*(bz y (x%y)).2.2).natAbs<=x/y*y:=by
    rw[cY,fA];exact aL _ om
   rw[ay]at e;omega
structure KJ(x0 y0 x y:Nat)(a b na nb:Int):Prop where
 fa:a*(bz x y).2.1+na*(bz x y).2.2=(bz x0 y0).2.1
 fb:b*(bz x y).2.1+nb*(bz x y).2.2=(bz x0 y0).2.2
 fd:(bz x y).1=(bz x0 y0).1
 pos:0<x∨0<y
 sa:na.natAbs*x+a.natAbs*y=y0
 sb:nb.natAbs*x+b.natAbs*y=x0
 ga:(0<=a/\na<=0)∨(a<=0/\0<=na)
 gb:(0<=b/\nb<=0)∨(b<=0/\0<=nb)
 la:a.natAbs<=max 1 y0
 lb:b.natAbs<=max 1 x0
 lna:na.natAbs<=max 1 y0
 lnb:nb.natAbs<=max 1 x0
 lx:x<=max x0 y0
 ly:y<=max x0 y0
def KJ.init(h:0<x0∨0<y0):KJ x0 y0 x0 y0 1 0 0 1:=by
 refine⟨sm,sm,rfl,h,sm,sm,sm,sm,by simp;omega,sm,sm,by simp;omega,om,om⟩
def pn(c:0<=q)(h:(0<=a/\b<=0)∨(a<=0/\0<=b)):(a-q*b).natAbs=a.natAbs+q.natAbs*b.natAbs/\((0<=b/\a-q*b<=0)∨(b<=0/\0<=a-q*b)):=by
 rcases h with⟨f,d⟩|⟨f,d⟩
 .have e:0<=q*(-b):=cZ c om;rw[ow]at e;rw[<-cY];omega
 .have e:0<=q*b:=cZ c d;rw[<-cY];omega
def KJ.step{x y:Nat}{nb:Int}(h:KJ x0 y0 x y a b na nb)(j:y≠0):KJ x0 y0 y (x%y) na nb (a-((x/y:Nat):Int)*na) (b-((x/y:Nat):Int)*nb):=by
 have e:=dv x y;have f:=qY x j;have g:=pn (q:=((x/y:Nat):Int)) (cJ _) h.ga;have i:=pn (q:=((x/y:Nat):Int)) (cJ _) h.gb;rw[fA]at g i;have sa:(a-((x/y:Nat):Int)*na).natAbs*y+na.natAbs*(x%y)=y0:=by
  rw[g.1];have:=h.sa;generalize x/y=q at *;generalize x%y=r at *;subst e;rw[<-this];grind
 have sb:(b-((x/y:Nat):Int)*nb).natAbs*y+nb.natAbs*(x%y)=x0:=by
  rw[i.1];have:=h.sb;generalize x/y=q at *;generalize x%y=r at *;subst e;rw[<-this];grind
 have k:∀c d:Nat,c*y+d=y0->c<=y0:=fun c d h=>by
  have:c*1<=c*y:=aL _ om;omega
 have l:∀c d:Nat,c*y+d=x0->c<=x0:=fun c d h=>by
  have:c*1<=c*y:=aL _ om;omega
 refine⟨?_,?_,?_,bM om,sa,sb,g.2,i.2,h.lna,h.lnb,by have:=k _ _ sa;omega,by have:=l _ _ sb;omega,h.ly,by have:=h.ly;have:=dq x (gn j);omega⟩
 .have:=h.fa;rw[f]at this;simp only at this;rw[<-this];grind
 .have:=h.fb;rw[f]at this;simp only at this;rw[<-this];grind
 .have:=h.fd;rw[f]at this;exact this
def KJ.fin{x:Nat}{nb:Int}(h:KJ x0 y0 x 0 a b na nb):bz x0 y0=((x:Int),a,b):=by
 have c:=h.fa;have d:=h.fb;have e:=h.fd;rw[mH]at c d e;simp only at c d e;ext<;>simp only<;>omega

def nN(P:Prop):∃β:Bool,(β=true↔P):=by
 rcases io P with h|h
 .exact⟨true,by simp[h]⟩
 .exact⟨false,by simp[h]⟩
def dW{P:Prop}(h:β=true↔P)(a:¬P):β=false:=by
 cases β with
 | false=>rfl
 | true=>exact absurd (h.1 rfl) a
def sA(p:Nat):Prop:=2<=p/\∀d,2<=d->d*d<=p->¬p%d=0
def sA.div(a:sA p)(h:d∣p):d=1∨d=p:=by
 obtain⟨e,rfl⟩:=h;have g:=a.1;rcases (om:d=0∨d=1∨2<=d)with rfl|rfl|c
 .omega
 .exact bM rfl
 .rcases (om:e=0∨e=1∨2<=e)with rfl|rfl|f
  .omega
  .exact bO om
  .exfalso;rcases Nat.le_total d e with b|b
   .exact a.2 d c (aL d b) (Nat.mul_mod_right d e)
   .exact a.2 e f (aC e b) (Nat.mul_mod_left d e)
def sA.gcd{a:Nat}(c:sA p)(h:¬p∣a):(bz p a).1=1:=by
 obtain⟨g,i⟩:=C9 a p a (ae a);have d:=(zG a p a (ae a) (bM (by have:=c.1;omega))).1
 have e:=jd.2 g;have b:=jd.2 i;rw[fA]at e b;rcases c.div e with f|f
 .omega
 .rw[f]at b;exact absurd b h
def qr(p a:Int):Int:=(bz p.toNat (a%p).toNat).2.2%p
def sA.gcd'(b:sA p)(h:¬(p:Int)∣a):(bz (p:Int).toNat (a%p).toNat).1=1:=by
 have g:=b.1;have c:=aU a (show(p:Int)≠0 by omega)
 have d:(((a%p).toNat:Nat):Int)=a%p:=cL c;rw[cj];exact b.gcd (a:=(a%p).toNat) (fun e=>h (dU (by
  have:=Int.natCast_dvd_natCast.2 e;rw[d]at this;have f:=df this
  rwa [Int.emod_emod]at f)))
def sA.inv(b:sA p)(h:¬(p:Int)∣a):(p:Int)∣a*qr p a-1:=by
 have j:=b.1;have d:=aU a (show(p:Int)≠0 by omega)
 have e:(((a%p).toNat:Nat):Int)=a%p:=cL d;have c:=b.gcd' h;rw[cj]at c;have f:=C8 (a%p).toNat p (a%p).toNat (ae _);rw[c,e]at f;unfold qr;rw[cj];generalize (bz p (a%p).toNat).2.1=u at *;generalize (bz p (a%p).toNat).2.2=w at *;have g:=di a p;have i:=di w p;refine⟨a/p*(w%p)-(a%p)*(w/p)-u,?_⟩;generalize a%(p:Int)=r at *;generalize a/(p:Int)=q at *;generalize w%(p:Int)=s at *;generalize w/(p:Int)=t at *;subst g;subst i
 grind
def sA.inv1(b:sA p)(h:¬(p:Int)∣a):(a%p*qr p a)%p=1:=by
 obtain⟨c,d⟩:=b.inv h;have e:=b.1;rw[fJ,Int.emod_emod,<-fJ,(om:a*qr p a=1+p*c),qc]
 exact d6 om om
def sA.mul(g:sA p)(a b:Int)(h:(p:Int)∣a*b):(p:Int)∣a∨(p:Int)∣b:=by
 by_cases e:(p:Int)∣a
 .exact bM e
 .obtain⟨c,k⟩:=g.inv e;obtain⟨d,i⟩:=h;refine bO ⟨qr p a*d-c*b,?_⟩;generalize qr p a=u at *;have j:a*u*b=b+p*c*b:=by rw[(om:a*u=1+p*c)];grind
  have f:a*u*b=u*(a*b):=by grind
  rw[i]at f;rw[j]at f;rw[rf];have l:u*(↑p*d)=↑p*(u*d):=by grind
  have m:↑p*(c*b)=↑p*c*b:=by grind
  omega
def yN{p:Int}(b:0<p)(a:Int):0<=qr p a/\qr p a<p:=⟨aU _ om,aS _ om⟩
def sn(p:Nat):Prop:=sA p/\3<=p/\p<=9973
def sn.odd(h:sn p):p%2=1:=by
 have b:=h.2.1;rcases aA p 4 with a|a
 .omega
 .have:=h.1.2 2 om om;omega





def kU(n:Nat)(f:Nat->Int):az (n+1) f=f 0+az n (fun j=>f (j+1)):=by
 induction n with
 | zero=>simp[az]
 | succ n ih=>rw[az,ih];simp only[az];omega
def i7{f:Nat->Int}(a:∀i,i<n->h∣f i):h∣az n f:=by
 induction n with
 | zero=>exact iM _
 | succ n ih=>simp only[az];exact jz (ih fun i b=>a i om) (a n om)
def kT(n:Nat)(f g:Nat->Int):az n (fun i=>f i-g i)=az n f-az n g:=by
 induction n with
 | zero=>rfl
 | succ n ih=>simp only[az];rw[ih];omega
def Bg(n:Nat)(f:Nat->Int):az n (fun i=>- f i)=- az n f:=by
 induction n with
 | zero=>rfl
 | succ n ih=>simp only[az];rw[ih];omega
def Ee(n:Nat)(c:Int):az n (fun _=>c)=n*c:=by
 induction n with
 | zero=>simp[az]
 | succ n ih=>simp only[az];rw[ih];grind
def mp(d:Nat)(c:Nat->Int)(x:Int):Int:=az d (fun i=>c i*x^i)
def Is{N:Nat}(h:∀i,d<=i->c i=0)(a:d<=N)(x:Int):mp N c x=mp d c x:=by
 induction N with
 | zero=>rw[(om:d=0)]
 | succ N ih =>
  by_cases e:d=N+1
  .rw[e]
  .simp only[mp,az];rw[h N om];simp only[mp]at ih;rw[ih om];omega
def qT(d:Nat)(c:Nat->Int)(x:Int):mp (d+1) c x=c 0+x*mp d (fun i=>c (i+1)) x:=by
 simp only[mp];rw[kU,<-du];congr 1
 .simp
 .exact aF fun i _=>by rw[fY];grind
theorem rt:∀(d:Nat) (c:Nat->Int),(∀x:Int,1<=x->mp d c x=0)->∀i,i<d->c i=0
 | 0,_,_,_,b=>om
 | d+1,c,h,i,b=>by
  have f:c 0=0:=by
   have a:=h ((c 0).natAbs+1) om;rw[qT]at a;have g:(((c 0).natAbs:Int)+1)∣c 0:=⟨- mp d (fun i=>c (i+1)) ((c 0).natAbs+1),by rw[ow];omega⟩
   have j:=jd.2 g;rcases aX (c 0).natAbs with e|e
   .omega
   .have l:=AJ e j;omega
  have a:∀x:Int,1<=x->mp d (fun i=>c (i+1)) x=0:=by
   intro x k;have a:=h x k;rw[qT,f,QJ]at a;rcases jp.1 a with e|e
   .omega
   .exact e
  match i,b with
  | 0,_=>exact f
  | i+1,b=>exact rt d (fun i=>c (i+1)) a i om
def Ip(d:Nat)(c e:Nat->Int)(x:Int):mp d (fun i=>c i-e i) x=mp d c x-mp d e x:=by
 simp only[mp];rw[<-kT];exact aF fun i _=>by rw[Int.sub_mul]
def Oh(d:Nat)(c e:Nat->Int)(x:Int):mp d (fun i=>c i+e i) x=mp d c x+mp d e x:=by
 simp only[mp];rw[<-eP];exact aF fun i _=>by rw[Hk]
def Ir(d:Nat)(a:Int)(c:Nat->Int)(x:Int):mp d (fun i=>a*c i) x=a*mp d c x:=by
 simp only[mp];rw[<-du];exact aF fun i _=>by rw[iT]
def Eu{e:Nat->Int}(h:∀x,mp d c x=mp d e x){i:Nat}(a:i<d):c i=e i:=by
 have:=rt d (fun i=>c i-e i) (fun x _=>by rw[Ip,h x];omega) i a
 omega
def Io(d n:Nat)(c:Nat->Nat->Int)(x:Int):mp d (fun i=>az n (fun j=>c j i)) x=az n (fun j=>mp d (c j) x):=by
 simp only[mp];rw[pc];refine aF fun i _=>?_;rw[cR,<-du];exact aF fun j _=>by rw[cR]
def Sw(c:Nat->Int):Nat->Int
 | 0=>0
 | i+1=>c i
def Iq(d:Nat)(c:Nat->Int)(x:Int):mp (d+1) (Sw c) x=x*mp d c x:=by
 rw[qT];show 0+x*mp d c x=_;omega
def rd(d:Nat)(f:Int->Int):Prop:=∃c:Nat->Int,(∀i,d<=i->c i=0)/\∀x,f x=mp d c x
def rd.mono{e:Nat}(h:rd d f)(b:d<=e):rd e f:=by
 obtain⟨c,a,g⟩:=h;exact⟨c,fun i j=>a i om,fun x=>by rw[g x,Is a b]⟩
def rd.add{g:Int->Int}(h:rd d f)(k:rd d g):rd d (fun x=>f x+g x):=by
 obtain⟨c,b,j⟩:=h;obtain⟨e,l,m⟩:=k;exact⟨fun i=>c i+e i,fun i a=>by simp only;rw[b i a,l i a];rfl,fun x=>by rw[Oh,<-j x,<-m x]⟩
def rd.smul(h:rd d f)(a:Int):rd d (fun x=>a*f x):=by
 obtain⟨c,b,e⟩:=h;exact⟨fun i=>a*c i,fun i g=>by simp only;rw[b i g,uh],fun x=>by rw[Ir,<-e x]⟩
def rd.xmul(h:rd d f):rd (d+1) (fun x=>x*f x):=by
 obtain⟨c,b,e⟩:=h;refine⟨Sw c,fun i a=>?_,fun x=>by rw[Iq,<-e x]⟩
 match i,a with
 | i+1,a=>exact b i om
def rd.zero(d:Nat):rd d (fun _=>0):=⟨fun _=>0,fun _ _=>rfl,fun x=>by
 simp only[mp];rw[iP];intro i _;rw[ug]⟩
theorem rd.sum{d:Nat}:∀{n:Nat} {f:Nat->Int->Int},(∀j,j<n->rd d (f j))->rd d (fun x=>az n (fun j=>f j x))
 | 0,_,_=>by simp only[az];exact rd.zero d
 | n+1,f,h=>by simp only[az];exact(rd.sum fun j a=>h j om).add (h n om)
def rd.congr{g:Int->Int}(h:rd d f)(e:∀x,g x=f x):rd d g:=by
 obtain⟨c,a,b⟩:=h;exact⟨c,a,fun x=>(e x).trans (b x)⟩
def rd.lin(h:rd d f)(a b:Int):rd (d+1) (fun x=>(a+b*x)*f x) :=
 (((h.smul a).mono om).add (h.xmul.smul b)).congr fun x=>by grind
def Ns:Nat->(Nat->Bool)->Nat
 | 0,_=>0
 | n+1,R=>(if R 0 then 0 else 1)+Ns n (fun i=>R (i+1))
theorem C3:∀(n:Nat) (R:Nat->Bool) (a b:aJ),(∀i,R i=true->∀j,b i j=0)->rd (1+Ns n R) (fun x=>det n (fun i j=>a i j+b i j*x))
 | 0,R,a,b,_=>⟨fun i=>if i=0 then 1 else 0,fun i c=>by simp only[Ns]at c;exact af om,fun x=>by simp[det,Ns,mp,az]⟩
 | n+1,R,a,b,h=>by
  simp only[det,Ns];refine rd.sum fun j _=>?_;have ih:=C3 n (fun i=>R (i+1)) (cut a j) (cut b j) (fun i c k=>h (i+1) c _);have e:∀x:Int,cut (fun i j=>a i j+b i j*x) j=fun i k=>cut a j i k+cut b j i k*x:=fun x=>rfl
  cases d:R 0 with
  | true =>
   refine((ih.smul (vX j*a 0 j)).congr fun x=>?_).mono sm
   rw[e x,h 0 d j];grind
  | false =>
   refine((ih.lin (vX j*a 0 j) (vX j*b 0 j)).congr fun x=>?_).mono (by simp;omega)
   rw[e x];grind
theorem IN:∀(n:Nat) (R:Nat->Bool),Ns n R<=n
 | 0,_=>ae _
 | n+1,R=>by have:=IN n (fun i=>R (i+1));simp only[Ns];split<;>omega
theorem C1:∀(n:Nat) (R:Nat->Bool) (i:Nat),i<n->R i=true->Ns n R+1<=n
 | n+1,R,0,_,h=>by have:=IN n (fun i=>R (i+1));simp only[Ns,h,aO];omega
 | n+1,R,i+1,a,h=>by have:=C1 n (fun i=>R (i+1)) i om h;simp only[Ns];split<;>omega
def cm(M:aJ)(x:Int):aJ:=fun i j=>- M i j+(if i=j then 1 else 0)*x
theorem Fa:∀(n:Nat) (M:aJ),rd n (fun x=>det n (cm M x)-x^n)
 | 0,M=>⟨fun _=>0,fun _ _=>rfl,fun x=>by simp[det,mp,az]⟩
 | n+1,M=>by
  have ih:=Fa n (fun i j=>M (i+1) (j+1));have c:rd (n+1) (fun x=>x^n):=⟨fun i=>if i=n then 1 else 0,fun i a=>af om,fun x=>by
   simp only[mp];rw[da n om (fun i _ a=>by rw[af a,ug])];simp⟩
  have b:∀j,j<n->rd (n+1) (fun x=>vX (j+1)*cm M x 0 (j+1)*det n (cut (cm M x) (j+1))):=by
   intro j b;have d:=C3 n (fun i=>decide (i=j)) (cut (fun i j=>- M i j) (j+1)) (cut (fun i j=>if i=j then 1 else 0) (j+1)) (fun i a k=>by
    simp only[fS]at a;subst a;simp only[cut];exact af (by unfold skip;split<;>omega))
   have l:=C1 n (fun i=>decide (i=j)) j b sm
   refine((d.smul (vX (j+1)*- M 0 (j+1))).mono om).congr fun x=>?_;have e:cm M x 0 (j+1)=- M 0 (j+1):=by simp[cm]
   rw[e];rfl
  have f:=rd.sum b;refine(((ih.lin (- M 0 0) 1).add (c.smul (- M 0 0))).add f).congr fun x=>?_;simp only[det];rw[kU];have g:cut (cm M x) 0=cm (fun i j=>M (i+1) (j+1)) x:=by
   funext i k;simp[cut,cm,skip]
  have h:cm M x 0 0=- M 0 0+x:=by simp[cm]
  rw[g,h,yE,fY]
  grind
def RG(M:aJ){i:Nat}(d:i<n)(j:Nat):rd n (fun x=>sf n (cm M x) i j):=by
 have f:=C3 n (fun k=>decide (k=i)) (setRow (fun i j=>- M i j) i (gD j)) (fun a b=>if a=i then 0 else if a=b then 1 else 0) (fun k c b=>by
  simp only[fS]at c;simp[c])
 have g:=C1 n (fun k=>decide (k=i)) i d sm
 refine(f.mono om).congr fun x=>?_;unfold sf;congr 1;funext a b;simp only[setRow,cm];by_cases e:a=i
 .simp[e]
 .simp[e]
theorem tq{h:Int}:∀(n:Nat) (B C:aJ),(∀i j,h∣B i j-C i j)->h∣det n B-det n C
 | 0,_,_,_=>by simp[det]
 | n+1,B,C,a=>by
  simp only[det];rw[<-kT];refine i7 fun j _=>?_;obtain⟨u,d⟩:=tq n (cut B j) (cut C j) (fun i k=>a _ _);obtain⟨v,e⟩:=a 0 j;refine⟨vX j*(B 0 j*u+v*det n (cut C j)),?_⟩;have b:det n (cut B j)=det n (cut C j)+h*u:=om
  have c:B 0 j=C 0 j+h*v:=om
  rw[b,c];grind
def dg(A:aJ)(h:Int)(m:Nat):aJ:=fun i j=>A i j+(if i<m/\i=j then h else 0)
theorem MB(n:Nat)(A:aJ)(h:Int):∀m,m<=n->h*h∣det n (dg A h m)-det n A-h*az m (fun i=>sf n A i i)
 | 0,_=>by
  have:dg A h 0=A:=by funext i j;simp[dg]
  rw[this];simp[az]
 | m+1,d=>by
  obtain⟨q,f⟩:=MB n A h m om;have b:dg A h (m+1)=setRow (dg A h m) m (fun j=>dg A h m m j+h*gD m j):=by
   funext i j;simp only[dg,setRow,gD];by_cases e:i=m
   .subst e;by_cases a:i=j
    .subst a;simp
    .simp[a,aj a]
   .simp only[e,aP];congr 1;by_cases a:i<m
    .simp[a,(om:i<m+1)]
    .simp[a,(om:¬i<m+1)]
  have a:det n (dg A h (m+1))=det n (dg A h m)+h*sf n (dg A h m) m m:=by
   rw[b,jU _ om,qA _ om,jQ];rfl
  obtain⟨u,g⟩:=tq (h:=h) n (setRow (dg A h m) m (gD m)) (setRow A m (gD m)) (fun i j=>by
   simp only[setRow,dg];split
   .simp
   .split
    .exact⟨1,om⟩
    .exact⟨0,om⟩)
  refine⟨q+u,?_⟩;have c:sf n (dg A h m) m m=sf n A m m+h*u:=by unfold sf;omega
  rw[a,c];simp only[az];have:det n (dg A h m)=det n A+h*az m (fun i=>sf n A i i)+h*h*q:=om
  rw[this];grind
theorem Ik(x h:Int):∀i:Nat,h*h∣(x+h)^i-x^i-h*(i*x^(i-1))
 | 0=>by simp
 | i+1=>by
  obtain⟨q,a⟩:=Ik x h i;refine⟨(x+h)*q+i*x^(i-1),?_⟩;have e:(x+h)^i=x^i+h*(i*x^(i-1))+h*h*q:=om
  rw[fY,e,fY];have b:(i:Int)*x^i=i*x^(i-1)*x:=by
   match i with
   | 0=>simp
   | i+1=>simp only[fx];rw[fY,iT]
  simp only[fx,gZ,vK]
  grind
def SE(c:Nat->Int):Nat->Int:=fun i=>(i+1)*c (i+1)
def Og(d:Nat)(c:Nat->Int)(x h:Int):h*h∣mp (d+1) c (x+h)-mp (d+1) c x-h*mp d (SE c) x:=by
 have e:mp d (SE c) x=az (d+1) (fun i=>c i*(i*x^(i-1))):=by
  rw[kU];simp only[mp,SE];rw[show c 0*(((0:Nat):Int)*x^(0-1))=0 by simp,QJ]
  refine aF fun i _=>?_;simp only[fx,gZ,vK];grind
 rw[e,<-du];simp only[mp];rw[<-kT,<-kT];refine i7 fun i _=>?_;obtain⟨q,a⟩:=Ik x h i;exact⟨c i*q,by
  have e:(x+h)^i=x^i+h*(i*x^(i-1))+h*h*q:=om
  rw[e];grind⟩
def Pb(h:∀k:Int,1<=k->k∣z):z=0:=by
 have a:=jd.2 (h (z.natAbs+1) om);rcases aX z.natAbs with e|e
 .omega
 .have b:=AJ e a;omega
def mm(n:Nat)(A B:aJ):aJ:=fun i j=>az n (fun k=>A i k*B k j)
def tr(n:Nat)(A:aJ):Int:=az n (fun i=>A i i)
def qz(n:Nat)(M:aJ):Nat->aJ
 | 0=>fun i j=>if i=j then 1 else 0
 | k+1=>fun i j=>mm n M (qz n M k) i j+(if i=j then tr n (mm n M (qz n M k))/(-((k+1:Nat):Int))else 0)
def OJ(B:1<=n)(M:aJ):∃(a:Nat->Nat->Nat->Int) (χ:Nat->Int),χ n=1/\(∀i j,i<n->j<n->a i j n=0)
 /\(∀i r k,i<n->r<n->k<=n->Sw (a i r) k-az n (fun j=>M r j*a i j k)=if i=r then χ k else 0)
 /\(∀k,k<n->az n (fun i=>a i i k)=(k+1)*χ (k+1))
 /\(∀i j,i<n->j<n->a i j 0=sf n (cm M 0) i j):=by
 have p:∀i j,∃c:Nat->Int,i<n->((∀k,n<=k->c k=0)/\∀x,sf n (cm M x) i j=mp n c x):=fun i j=>by
  by_cases b:i<n
  .obtain⟨c,h⟩:=RG M b j;exact⟨c,fun _=>h⟩
  .exact⟨fun _=>0,fun h=>absurd h b⟩
 obtain⟨a,d⟩:∃a:Nat->Nat->Nat->Int,∀i j,i<n->((∀k,n<=k->a i j k=0)/\∀x,sf n (cm M x) i j=mp n (a i j) x) :=
  ⟨fun i j=>(p i j).choose,fun i j=>(p i j).choose_spec⟩
 obtain⟨e,t,o⟩:=Fa n M;have hχ:∀x,det n (cm M x)=mp (n+1) (fun k=>if k=n then 1 else e k) x:=by
  intro x;have f:=o x;simp only[mp,az]at f ⊢;rw[aF (g:=fun i=>e i*x^i) (fun i b=>by rw[af om]),<-f];simp
 refine⟨a,fun k=>if k=n then 1 else e k,sm,fun i j b _=>(d i j b).1 n (ae _),fun i r k b q s=>?_,fun k s=>?_,fun i j b l=>?_⟩
 .have key:∀x,mp (n+1) (fun k=>Sw (a i r) k-az n (fun j=>M r j*a i j k)) x=mp (n+1) (fun k=>if i=r then(if k=n then 1 else e k)else 0) x:=by
   intro x;have f:=CL (cm M x) b q;rw[Ip,Iq,Io (n+1) n (fun j k=>M r j*a i j k)];rw[aF (g:=fun j=>M r j*sf n (cm M x) i j) (fun j l=>by rw[Ir,Is (d i j b).1 om,<-(d i j b).2 x])]
   rw[<-(d i r b).2 x];have w:az n (fun j=>cm M x r j*sf n (cm M x) i j)=x*sf n (cm M x) i r-az n (fun j=>M r j*sf n (cm M x) i j):=by
    rw[aF (g:=fun j=>(if r=j then x*sf n (cm M x) i j else 0)-M r j*sf n (cm M x) i j) (fun j _=>by simp only[cm];split<;>grind),kT]
    rw[da r q (fun j _ l=>by rw[af (aj l)])];simp
   rw[<-w,f];split
   .rw[hχ x]
   .simp only[mp];rw[iP];intro k _;rw[ug]
  exact Eu key om
 .have key:∀x,mp n (fun k=>az n (fun i=>a i i k)) x=mp n (SE (fun k=>if k=n then 1 else e k)) x:=by
   intro x;rw[Io n n (fun i k=>a i i k)];rw[aF (g:=fun i=>sf n (cm M x) i i) (fun i b=>by rw[<-(d i i b).2 x])]
   have:∀k:Int,1<=k->k∣az n (fun i=>sf n (cm M x) i i)-mp n (SE (fun k=>if k=n then 1 else e k)) x:=by
    intro h C;obtain⟨u,y⟩:=MB n (cm M x) h n (ae _);obtain⟨v,D⟩:=Og n (fun k=>if k=n then 1 else e k) x h
    have z:det n (dg (cm M x) h n)=det n (cm M (x+h)):=ck fun i j b l=>by
     simp only[dg,cm];by_cases e:i=j
     .subst e;simp[b];omega
     .simp[e]
    rw[z,hχ,hχ]at y;refine⟨v-u,?_⟩;have A:h*(az n (fun i=>sf n (cm M x) i i)-mp n (SE (fun k=>if k=n then 1 else e k)) x)=h*(h*(v-u)):=by
     grind
    exact dF om A
   have:=Pb this;omega
  exact Eu key s
 .rw[(d i j b).2 0];obtain⟨m,rfl⟩:∃m,n=m+1:=⟨n-1,om⟩
  rw[qT];omega
def mP(a:i<n)(f:Nat->Int):az n (fun j=>(if i=j then 1 else 0)*f j)=f i:=by
 rw[da i a (fun j _ b=>by rw[af (aj b),ug])];simp
def OI(p:1<=n)(M:aJ):∀i j,i<n->j<n->qz n M (n-1) j i=sf n (cm M 0) i j:=by
 obtain⟨a,χ,q,s,h,t,u⟩:=OJ p M;have key:∀k,k<n->∀i j,i<n->j<n->qz n M k j i=a i j (n-1-k):=by
  intro k
  induction k with
  | zero =>
   intro _ i j b c;have d:=h i j n b c (ae _);rw[iP (fun k l=>by rw[s i k b l,uh]),q]at d
   obtain⟨m,rfl⟩:∃m,n=m+1:=⟨n-1,om⟩
   simp only[Sw]at d;simp only[qz,fx,eO];rw[show(if j=i then(1:Int)else 0)=if i=j then 1 else 0 by split<;>split<;>omega]
   omega
  | succ k ih =>
   intro l i j b c;have ih:=ih om;obtain⟨K,v⟩:∃K,n-1-k=K+1:=⟨n-2-k,om⟩
   have f:n-1-(k+1)=K:=om
   rw[f];rw[v]at ih;have o:∀i r,i<n->r<n->mm n M (qz n M k) r i=a i r K-(if i=r then χ (K+1)else 0):=by
    intro i r b w;have d:=h i r (K+1) b w om;simp only[Sw]at d;simp only[mm];rw[aF (g:=fun j=>M r j*a i j (K+1)) (fun j c=>by rw[ih i j b c])]
    omega
   have x:tr n (mm n M (qz n M k))=-((k+1:Nat):Int)*χ (K+1):=by
    simp only[tr];rw[aF (g:=fun i=>a i i K - χ (K+1)) (fun i b=>by rw[o i i b b,ai rfl]),kT,t K om,Ee]
    have:(n:Int)=K+1+(k+1):=om
    rw[this];simp only[gZ,vK];grind
   simp only[qz];rw[o i j b c,x,cT _ om];by_cases e:i=j
   .subst e;simp
   .rw[af e,af (aj e)];omega
 intro i j b c;rw[key (n-1) om i j b c,cb,u i j b c]
def mJ(n:Nat)(M:aJ):aJ:=fun i j=>if n%2=0 then-qz n M (n-1) i j else qz n M (n-1) i j
def Oo(n:Nat):(-1:Int)^n=if n%2=0 then 1 else -1:=by
 induction n with
 | zero=>rfl
 | succ n ih=>rw[fY,ih];split<;>split<;>omega
def MV(d:1<=n)(M:aJ){i j:Nat}(c:i<n)(e:j<n):mJ n M j i=sf n M i j:=by
 have f:sf n (cm M 0) i j=(-1)^n*(-1*sf n M i j):=by
  unfold sf;rw[<-qA M c,<-wo];congr 1;funext a b;simp only[setRow,cm,gD];split<;>grind
 simp only[mJ];rw[OI d M i j c e,f,Oo];split<;>grind
def oN(n:Nat)(A B C:aJ)(i j:Nat):mm n (mm n A B) C i j=mm n A (mm n B C) i j:=by
 simp only[mm];rw[aF (g:=fun k=>az n (fun l=>A i l*B l k*C k j)) (fun k _=>by rw[cR,<-du];exact aF fun l _=>by grind)]
 rw[pc];exact aF fun l _=>by rw[<-du];exact aF fun k _=>by grind
def qv{A' B':aJ}(h:∀k,k<n->A i k=A' i k)(h':∀k,k<n->B k j=B' k j):mm n A B i j=mm n A' B' i j :=
 aF fun k a=>by rw[h k a,h' k a]
theorem EP(n:Nat)(M:aJ):∀k i j,i<n->j<n->mm n (qz n M k) M i j=mm n M (qz n M k) i j
 | 0,i,j,b,a=>by
  simp only[mm,qz];rw[mP b (fun k=>M k j),da j a (fun k _ c=>by rw[af c,uh])];simp
 | k+1,i,j,b,a=>by
  have d:mm n (qz n M (k+1)) M i j=mm n (mm n M (qz n M k)) M i j+(tr n (mm n M (qz n M k))/(-((k+1:Nat):Int)))*M i j:=by
   simp only[mm,qz];rw[<-mP b (fun l=>(tr n (mm n M (qz n M k))/(-((k+1:Nat):Int)))*M l j),<-eP];exact aF fun l _=>by split<;>grind
  have f:mm n M (qz n M (k+1)) i j=mm n M (mm n M (qz n M k)) i j+(tr n (mm n M (qz n M k))/(-((k+1:Nat):Int)))*M i j:=by
   simp only[mm,qz];rw[<-mP a (fun l=>(tr n (mm n M (qz n M k))/(-((k+1:Nat):Int)))*M i l),<-eP];refine aF fun l _=>?_;by_cases e:l=j
   .subst e;simp;grind
   .rw[af e,af (aj e)];grind
  rw[d,f,oN];congr 1;exact qv (fun _ _=>rfl) (fun l g=>EP n M k l j g a)
def qZ(c:1<=n)(M:aJ){i j:Nat}(b:i<n)(a:j<n):mm n (mJ n M) M i j=if i=j then det n M else 0:=by
 have d:mm n (mJ n M) M i j=mm n M (mJ n M) i j:=by
  have h:=EP n M (n-1) i j b a;simp only[mm,mJ]at h ⊢;by_cases e:n%2=0
  .simp only[e,aO];rw[aF (g:=fun k=>- (qz n M (n-1) i k*M k j)) (fun k _=>by grind),Bg,h,<-Bg]
   exact aF fun k _=>by grind
  .simp only[e,aP];exact h
 rw[d];simp only[mm];rw[aF (g:=fun k=>M i k*sf n M j k) (fun k f=>by rw[MV c M a f]),CL M a b]
 split<;>split<;>omega

end Go.Proofs.YtdobfmlmenaajaaGreatDoor
