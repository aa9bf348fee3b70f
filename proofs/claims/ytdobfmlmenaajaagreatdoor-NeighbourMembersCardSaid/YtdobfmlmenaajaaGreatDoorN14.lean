/-
  Lemmas for NeighbourMembers.
-/
import Derived.Test.YtdobfmlmenaajaaGreatDoorN01
namespace Go.Proofs.YtdobfmlmenaajaaGreatDoor
open Go.RowKit
open _root_.Int renaming emod_nonneg→aT,mul_le_mul_of_nonneg_right→cc,mul_le_mul_of_nonneg_left→cu,le_of_lt→cA,mul_le_mul→cH,mul_nonneg→cY,mul_comm→cZ,natCast_mul→di,eq_of_mul_eq_mul_left→dS,one_mul→et,pow_succ→fN,mul_assoc→gL,mul_one→k9,mul_pos→mX,natAbs_mul_self→nX,le_of_mul_le_mul_left→po,lt_or_le→Bu
open _root_.Nat renaming le_refl→ah,zero_add→aC,lt_or_ge→aE,mul_comm→aO,mul_le_mul_left→aY,mul_le_mul_right→bT,pow_le_pow_right→ca,mul_le_mul→ci,pow_succ→cn,mul_assoc→fL,succ_mul→it,pow_add→jF,pow_pos→kZ,lt_or_gt_of_ne→oT
open _root_.Ne renaming symm→ak
set_option maxHeartbeats 6400000
set_option maxRecDepth 4096
set_option linter.all false
abbrev aU:=Nat->Nat->Int
def aD:Nat->(Nat->Int)->Int
 | 0,_=>0
 | n+1,f=>aD n f+f n
theorem aP{n:Nat}{f g:Nat->Int}(h:∀i,i<n->f i=g i):aD n f=aD n g:=by
 induction n with
 | zero=>rfl
 | succ n ih=>simp only[aD];rw[ih (fun i hi=>h i om),h n om]
theorem ic{n:Nat}{f:Nat->Int}(h:∀i,i<n->f i=0):aD n f=0:=by
 induction n with
 | zero=>rfl
 | succ n ih=>simp only[aD];rw[ih (fun i hi=>h i om),h n om];rfl
theorem eX(n:Nat)(f g:Nat->Int):aD n (fun i=>f i+g i)=aD n f+aD n g:=by
 induction n with
 | zero=>rfl
 | succ n ih=>simp only[aD];rw[ih];omega
theorem dF(n:Nat)(c:Int)(f:Nat->Int):aD n (fun i=>c*f i)=c*aD n f:=by
 induction n with
 | zero=>simp[aD]
 | succ n ih=>simp only[aD];rw[ih,Int.mul_add]
theorem rA(n:Nat)(x y:Int)(f g:Nat->Int):aD n (fun i=>x*f i+y*g i)=x*aD n f+y*aD n g:=by
 rw[eX,dF,dF]
theorem cN{n:Nat}{f:Nat->Int}(k:Nat)(hk:k<n)(h:∀i,i<n->i≠k->f i=0):aD n f=f k:=by
 induction n with
 | zero=>omega
 | succ n ih =>
  simp only[aD];by_cases e:k=n
  ·subst e;rw[ic (fun i hi=>h i om om)];omega
  ·rw[ih om (fun i hi hik=>h i om hik),h n om om];omega
theorem Ea{n:Nat}{f:Nat->Int}(k:Nat)(hk:k+1<n)(h:∀i,i<n->i≠k->i≠k+1->f i=0):aD n f=f k+f (k+1):=by
 induction n with
 | zero=>omega
 | succ n ih =>
  simp only[aD];by_cases e:k+1=n
  ·subst e;rw[cN k om (fun i hi h1=>h i om h1 om)]
  ·rw[ih om (fun i hi h1 h2=>h i om h1 h2),h n om om om];omega
theorem nf(n m:Nat)(f:Nat->Nat->Int):aD n (fun i=>aD m (fun j=>f i j))=aD m (fun j=>aD n (fun i=>f i j)):=by
 induction n with
 | zero=>simp only[aD];rw[ic];intros;rfl
 | succ n ih=>simp only[aD];rw[ih,<-eX]
def sw(j:Nat):Int:=if j%2=0 then 1 else -1
theorem At(j:Nat):sw (j+1)=- sw j:=by unfold sw;split<;>split<;>omega
theorem t9:sw 0=1:=rfl
def skip(j k:Nat):Nat:=if k<j then k else k+1
def iR(A:aU)(j:Nat):aU:=fun i k=>A (i+1) (skip j k)
def det:Nat->aU->Int
 | 0,_=>1
 | n+1,A=>aD (n+1) fun j=>sw j*A 0 j*det n (iR A j)
theorem qj{n j k:Nat}(h:k<n):skip j k<n+1:=by unfold skip;split<;>omega
theorem bS{n:Nat}{A B:aU}(h:∀i j,i<n->j<n->A i j=B i j):det n A=det n B:=by
 induction n generalizing A B with
 | zero=>rfl
 | succ n ih =>
  simp only[det];refine aP fun j hj=>?_;rw[h 0 j om hj,ih (A:=iR A j) (B:=iR B j) (fun i k hi hk=>h _ _ om (qj hk))]
def setRow(A:aU)(i:Nat)(r:Nat->Int):aU:=fun a b=>if a=i then r b else A a b
def bR(A:aU)(i:Nat)(r:Nat->Int):aU:=fun a b=>if b=i then r a else A a b
theorem pV(A:aU)(i j:Nat)(r:Nat->Int):iR (setRow A (i+1) r) j=setRow (iR A j) i (fun k=>r (skip j k)):=by
 funext a b;simp[iR,setRow]
theorem A8(A:aU)(j:Nat)(r:Nat->Int):iR (setRow A 0 r) j=iR A j:=by
 funext a b;simp[iR,setRow]
theorem qH{n i:Nat}(A:aU)(hi:i<n)(x y:Int)(r s:Nat->Int) :
  det n (setRow A i (fun j=>x*r j+y*s j))=x*det n (setRow A i r)+y*det n (setRow A i s):=by
 induction n generalizing A i r s with
 | zero=>omega
 | succ n ih =>
  simp only[det];rw[<-rA];refine aP fun j _=>?_
  cases i with
  | zero=>simp only[A8,setRow,if_true];grind
  | succ i=>rw[pV,ih _ om,pV,pV];simp only[setRow,Nat.reduceEqDiff,if_false];grind
theorem oH{n i:Nat}(A:aU)(hi:i<n)(x:Int)(r:Nat->Int):det n (setRow A i (fun j=>x*r j))=x*det n (setRow A i r):=by
 have h:=qH A hi x 0 r r;rw[bS (B:=setRow A i (fun j=>x*r j+0*r j)) (fun a b _ _=>by simp[setRow]),h];omega
theorem iI{n i:Nat}(A:aU)(hi:i<n)(r s:Nat->Int):det n (setRow A i (fun j=>r j+s j))=det n (setRow A i r)+det n (setRow A i s):=by
 have h:=qH A hi 1 1 r s;rw[bS (B:=setRow A i (fun j=>1*r j+1*s j)) (fun a b _ _=>by simp[setRow]),h];omega
theorem B7(N:Nat)(g:Nat->Nat->Int):aD (N+1) (fun j=>aD N (fun k=>if k<j then g k j else-g j (k+1)))=0:=by
 induction N with
 | zero=>simp[aD]
 | succ N ih =>
  rw[show aD (N+1+1) (fun j=>aD (N+1) (fun k=>if k<j then g k j else-g j (k+1)))
  =aD (N+1) (fun j=>aD (N+1) (fun k=>if k<j then g k j else-g j (k+1)))+aD (N+1) (fun k=>if k<N+1 then g k (N+1)else-g (N+1) (k+1))from rfl]
  have h1:aD (N+1) (fun j=>aD (N+1) (fun k=>if k<j then g k j else-g j (k+1)))
  =aD (N+1) (fun j=>aD N (fun k=>if k<j then g k j else-g j (k+1))+(- g j (N+1))):=by
   refine aP fun j hj=>?_;simp only[aD];rw[if_neg om]
  have h2:aD (N+1) (fun k=>if k<N+1 then g k (N+1)else-g (N+1) (k+1))=aD (N+1) (fun k=>g k (N+1)) :=
   aP fun k hk=>by rw[if_pos hk]
  rw[h1,h2,eX,ih];have h3:aD (N+1) (fun j=>- g j (N+1))=- aD (N+1) (fun j=>g j (N+1)):=by
   have:=dF (N+1) (-1) (fun j=>g j (N+1));rw[aP (g:=fun i=>-1*g i (N+1)) (fun i _=>by omega),this];omega
  rw[h3];omega
theorem yA{j k:Nat}(h:k<j)(c:Nat):skip j (skip k c)=skip k (skip (j-1) c):=by
 unfold skip;split<;>split<;>(try split)<;>(try split)<;>omega
theorem DM{n i:Nat}(A:aU)(hi:i+1<n)(h:∀j,j<n->A i j=A (i+1) j):det n A=0:=by
 induction n generalizing A i with
 | zero=>omega
 | succ n ih =>
  cases i with
  | succ i =>
   simp only[det];exact ic fun j hj=>by rw[ih (iR A j) (i:=i) om (fun k hk=>h _ (qj hk))];omega
  | zero =>
   obtain⟨n,rfl⟩:∃m,n=m+1:=⟨n-1,by omega⟩
   have e:det (n+1+1) A=aD (n+1+1) (fun j=>aD (n+1) (fun k =>
     if k<j then sw k*sw j*A 0 k*A 0 j*det n (iR (iR A j) k)else-(sw j*sw (k+1)*A 0 j*A 0 (k+1)*det n (iR (iR A (k+1)) j)))):=by
    simp only[det];refine aP fun j hj=>?_;rw[<-dF];refine aP fun k hk=>?_;have hc:iR A j 0 k=A 0 (skip j k):=by
     show A 1 (skip j k)=_;exact(h _ (qj hk)).symm
    rw[hc];split
    ·rename_i hkj;rw[show skip j k=k by unfold skip;rw[if_pos hkj]];grind
    ·rename_i hkj;rw[show skip j k=k+1 by unfold skip;rw[if_neg hkj],At]
     have hcc:iR (iR A j) k=iR (iR A (k+1)) j:=by
      funext a b;show A (a+1+1) (skip j (skip k b))=A (a+1+1) (skip (k+1) (skip j b));rw[yA (j:=k+1) (k:=j) om];rfl
     rw[hcc];grind
   rw[e];exact B7 (n+1) (fun k j=>sw k*sw j*A 0 k*A 0 j*det n (iR (iR A j) k))
theorem iD(A:aU)(i:Nat):setRow A i (A i)=A:=by funext a b;simp only[setRow];split<;>simp_all
theorem jp(A:aU)(i:Nat):bR A i (fun a=>A a i)=A:=by funext a b;simp only[bR];split<;>simp_all
theorem gk(A:aU){i k:Nat}(h:i≠k)(r s:Nat->Int):setRow (setRow A i r) k s=setRow (setRow A k s) i r:=by
 funext a b;simp only[setRow];grind
theorem yX{n i:Nat}(A:aU)(hi:i+1<n)(r s:Nat->Int):det n (setRow (setRow A i r) (i+1) s)=- det n (setRow (setRow A i s) (i+1) r):=by
 have hz:∀t:Nat->Int,det n (setRow (setRow A i t) (i+1) t)=0:=fun t =>
  DM _ hi (fun j _=>by simp[setRow])
 have h0:=hz (fun j=>r j+s j);rw[iI _ om,gk _ om,gk A (k:=i+1) (s:=s) om,iI _ om,iI _ om]at h0;rw[gk _ om s r,gk _ om r s];have h1:=hz r;have h2:=hz s;rw[gk _ om]at h1 h2;omega
theorem kJ{n i k:Nat}(A:aU)(hik:i<k)(hk:k<n)(h:∀j,j<n->A i j=A k j):det n A=0:=by
 induction k generalizing A with
 | zero=>omega
 | succ k ih =>
  by_cases e:i=k
  ·subst e;exact DM A hk h
  ·have h1:=yX A hk (A k) (A (k+1));have e1:setRow (setRow A k (A k)) (k+1) (A (k+1))=A:=by rw[iD,iD]
   rw[e1]at h1;rw[h1,ih (setRow (setRow A k (A (k+1))) (k+1) (A k)) om om (fun j hj=>?_)];· rfl
   have:=h j hj;simp only[setRow];rw[if_neg om,if_neg om,if_neg om,if_pos trivial];exact this
theorem pC{n i k:Nat}(A:aU)(hi:i<n)(hk:k<n)(hik:i≠k):det n (setRow A i (A k))=0:=by
 rcases oT hik with h|h
 ·exact kJ _ h hk (fun j _=>by simp only[setRow];rw[if_pos trivial,if_neg om])
 ·exact kJ _ h hi (fun j _=>by simp only[setRow];rw[if_neg om,if_pos trivial])
theorem lh{n i k:Nat}(A:aU)(hi:i<n)(hk:k<n)(hik:i≠k)(x c:Int):det n (setRow A i (fun j=>x*A i j+c*A k j))=x*det n A:=by
 rw[qH A hi x c (A i) (A k),pC A hi hk hik,iD];omega
theorem GG{n i k:Nat}(A:aU)(hi:i<n)(hk:k<n)(hik:i≠k):det n (setRow (setRow A i (A k)) k (A i))=- det n A:=by
 have hz:∀t:Nat->Int,det n (setRow (setRow A i t) k t)=0:=fun t=>by
  rcases oT hik with h|h
  ·exact kJ _ h hk (fun j _=>by simp only[setRow];grind)
  ·exact kJ _ h hi (fun j _=>by simp only[setRow];grind)
 have h0:=hz (fun j=>A i j+A k j);rw[iI _ hk,gk _ hik,gk A hik (s:=A k),iI _ hi,iI _ hi]at h0;have h1:=hz (A i);have h2:=hz (A k);rw[gk _ hik]at h1 h2;have e1:setRow (setRow A k (A k)) i (A i)=A:=by rw[iD,iD]
 rw[e1]at h0;rw[gk _ hik];omega
def iC(j:Nat):Nat->Int:=fun k=>if k=j then 1 else 0
def pW(n:Nat)(A:aU)(i j:Nat):Int:=det n (setRow A i (iC j))
theorem AW{n i:Nat}(A:aU)(hi:i<n)(m:Nat)(r:Nat->Int) :
  det n (setRow A i (fun k=>if k<m then r k else 0))=aD m (fun j=>r j*pW n A i j):=by
 induction m with
 | zero =>
  have h:=oH A hi 0 (fun _=>0);rw[bS (B:=setRow A i (fun j=>0*(fun _=>0) j)) (fun a b _ _=>by simp[setRow]),h];simp[aD]
 | succ m ih =>
  simp only[aD];rw[<-ih];have h:=qH A hi 1 (r m) (fun k=>if k<m then r k else 0) (iC m)
  rw[bS (B:=setRow A i (fun j=>1*(fun k=>if k<m then r k else 0) j+r m*iC m j)) (fun a b _ _=>?_),h]
  ·show _=_+r m*det n _;omega
  ·simp only[setRow,iC];split
   ·by_cases e:b=m
    ·subst e;simp
    ·by_cases e2:b<m
     ·simp[e,e2];omega
     ·have:¬b<m+1:=by omega
      simp[e,e2,this]
   ·rfl
theorem Cw{n i:Nat}(A:aU)(hi:i<n)(r:Nat->Int):aD n (fun j=>r j*pW n A i j)=det n (setRow A i r):=by
 rw[<-AW A hi n r];exact bS fun a b _ hb=>by simp only[setRow];split<;>simp_all
theorem yK{n i k:Nat}(A:aU)(hi:i<n)(hk:k<n):aD n (fun j=>A k j*pW n A i j)=if i=k then det n A else 0:=by
 rw[Cw A hi];split
 ·rename_i e;subst e;rw[iD]
 ·rename_i e;exact pC A hi hk e
theorem qJ{n:Nat}(A:aU)(hn:0<n)(h:∀i,i<n->A i 0=0):det n A=0:=by
 induction n generalizing A with
 | zero=>omega
 | succ n ih =>
  simp only[det];refine ic fun j hj=>?_
  cases j with
  | zero=>rw[h 0 om];omega
  | succ j=>rw[ih (iR A (j+1)) om (fun i hi=>by
    show A (i+1) (skip (j+1) 0)=0;rw[show skip (j+1) 0=0 from rfl];exact h _ om)];omega
theorem rS{n:Nat}(A:aU)(h:∀i,i<n->A (i+1) 0=0):det (n+1) A=A 0 0*det n (fun i j=>A (i+1) (j+1)):=by
 rw[det,cN 0 om]
 ·rw[t9,et];rfl
 ·intro j hj hj0
  cases j with
  | zero=>omega
  | succ j=>rw[qJ (iR A (j+1)) om (fun i hi=>by
    show A (i+1) (skip (j+1) 0)=0;rw[show skip (j+1) 0=0 from rfl];exact h _ hi)];omega
def iw(A:aU)(m:Nat):aU:=fun i j=>if 0<i/\i<=m then A 0 0*A i j-A i 0*A 0 j else A i j
theorem wE(A:aU)(n m:Nat)(hm:m<=n):det (n+1) (iw A m)=A 0 0^m*det (n+1) A:=by
 induction m with
 | zero=>rw[bS (B:=A) (fun i j _ _=>by unfold iw;rw[if_neg om])];simp
 | succ m ih =>
  have e:∀i j,iw A (m+1) i j=setRow (iw A m) (m+1) (fun j=>A 0 0*iw A m (m+1) j+(- A (m+1) 0)*iw A m 0 j) i j:=by
   intro i j;simp only[setRow];split
   ·rename_i e;subst e;simp only[iw];rw[if_pos om,if_neg om,if_neg om];grind
   ·simp only[iw];by_cases h:0<i/\i<=m
    ·rw[if_pos om,if_pos h]
    ·rw[if_neg om,if_neg h]
  rw[bS (fun i j _ _=>e i j),lh _ om om om,ih om,fN]
  grind
def Bd(A:aU):aU:=fun i j=>A 0 0*A (i+1) (j+1)-A (i+1) 0*A 0 (j+1)
theorem GJ(A:aU)(n:Nat):A 0 0*det n (Bd A)=A 0 0^n*det (n+1) A:=by
 rw[<-wE A n n (ah _),rS]
 ·congr 1;exact bS fun i j hi hj=>by simp only[iw,Bd];rw[if_pos om]
 ·intro i hi;simp only[iw];rw[if_pos om];grind
theorem mo(A:aU){c j:Nat}(r:Nat->Int)(h:c<j):iR (bR A c r) j=bR (iR A j) c (fun a=>r (a+1)):=by
 funext a b;simp only[iR,bR,skip];grind
theorem mp(A:aU){c j:Nat}(r:Nat->Int)(h:j<c):iR (bR A c r) j=bR (iR A j) (c-1) (fun a=>r (a+1)):=by
 funext a b;simp only[iR,bR,skip];grind
theorem mq(A:aU)(c:Nat)(r:Nat->Int):iR (bR A c r) c=iR A c:=by
 funext a b;simp only[iR,bR,skip];grind
theorem y5{n c:Nat}(A:aU)(hc:c<n)(x y:Int)(r s:Nat->Int) :
  det n (bR A c (fun j=>x*r j+y*s j))=x*det n (bR A c r)+y*det n (bR A c s):=by
 induction n generalizing A c r s with
 | zero=>omega
 | succ n ih =>
  simp only[det];rw[<-rA];refine aP fun j hj=>?_;rcases Nat.lt_trichotomy c j with h|h|h
  ·rw[mo _ _ h,mo _ _ h,mo _ _ h,ih _ om];simp only[bR];rw[if_neg om,if_neg om,if_neg om];grind
  ·subst h;rw[mq,mq,mq];simp only[bR,if_true];grind
  ·rw[mp _ _ h,mp _ _ h,mp _ _ h,ih _ om];simp only[bR];rw[if_neg om,if_neg om,if_neg om];grind
theorem sI{n c:Nat}(A:aU)(hc:c+1<n)(h:∀i,i<n->A i c=A i (c+1)):det n A=0:=by
 induction n generalizing A c with
 | zero=>omega
 | succ n ih =>
  simp only[det];rw[Ea c hc]
  ·have e:det n (iR A c)=det n (iR A (c+1)):=bS fun i k hi hk=>by
    simp only[iR,skip];by_cases h1:k<c
    ·rw[if_pos h1,if_pos om]
    ·by_cases h2:k=c
     ·subst h2;rw[if_neg om,if_pos om];exact(h _ om).symm
     ·rw[if_neg h1,if_neg om]
   rw[e,At,h 0 om];grind
  ·intro j hj h1 h2;rcases oT h1 with hlt|hgt
   ·rw[ih (iR A j) (c:=c-1) om (fun i hi=>by
     simp only[iR,skip];rw[if_neg om,if_neg om];rw[show c-1+1=c by omega];exact h _ om)];omega
   ·rw[ih (iR A j) (c:=c) om (fun i hi=>by
     simp only[iR,skip];rw[if_pos om,if_pos om];exact h _ om)];omega
theorem gn(A:aU){i k:Nat}(h:i≠k)(r s:Nat->Int):bR (bR A i r) k s=bR (bR A k s) i r:=by
 funext a b;simp only[bR];grind
theorem jq{n i:Nat}(A:aU)(hi:i<n)(r s:Nat->Int):det n (bR A i (fun j=>r j+s j))=det n (bR A i r)+det n (bR A i s):=by
 have h:=y5 A hi 1 1 r s;rw[bS (B:=bR A i (fun j=>1*r j+1*s j)) (fun a b _ _=>by simp[bR]),h];omega
theorem rT{n i:Nat}(A:aU)(hi:i+1<n)(r s:Nat->Int):det n (bR (bR A i r) (i+1) s)=- det n (bR (bR A i s) (i+1) r):=by
 have hz:∀t:Nat->Int,det n (bR (bR A i t) (i+1) t)=0:=fun t =>
  sI _ hi (fun j _=>by simp[bR])
 have h0:=hz (fun j=>r j+s j);rw[jq _ om,gn _ om,gn A (k:=i+1) (s:=s) om,jq _ om,jq _ om]at h0;rw[gn _ om s r,gn _ om r s];have h1:=hz r;have h2:=hz s;rw[gn _ om]at h1 h2;omega
theorem l7{n i k:Nat}(A:aU)(hik:i<k)(hk:k<n)(h:∀j,j<n->A j i=A j k):det n A=0:=by
 induction k generalizing A with
 | zero=>omega
 | succ k ih =>
  by_cases e:i=k
  ·subst e;exact sI A hk h
  ·have h1:=rT A hk (fun a=>A a k) (fun a=>A a (k+1));have e1:bR (bR A k (fun a=>A a k)) (k+1) (fun a=>A a (k+1))=A:=by rw[jp,jp]
   rw[e1]at h1;rw[h1,ih (bR (bR A k (fun a=>A a (k+1))) (k+1) (fun a=>A a k)) om om (fun j hj=>?_)];· rfl
   have:=h j hj;simp only[bR];rw[if_neg om,if_neg om,if_neg om,if_pos trivial];exact this
theorem qK{n i k:Nat}(A:aU)(hi:i<n)(hk:k<n)(hik:i≠k)(x c:Int):det n (bR A i (fun j=>x*A j i+c*A j k))=x*det n A:=by
 rw[y5 A hi x c (fun j=>A j i) (fun j=>A j k),jp];have:det n (bR A i (fun j=>A j k))=0:=by
  rcases oT hik with h|h
  ·exact l7 _ h hk (fun j _=>by simp only[bR];rw[if_pos trivial,if_neg om])
  ·exact l7 _ h hi (fun j _=>by simp only[bR];rw[if_neg om,if_pos trivial])
 rw[this];omega
theorem yZ{n i k:Nat}(A:aU)(hi:i<n)(hk:k<n)(hik:i≠k):det n (bR (bR A i (fun a=>A a k)) k (fun a=>A a i))=- det n A:=by
 have hz:∀t:Nat->Int,det n (bR (bR A i t) k t)=0:=fun t=>by
  rcases oT hik with h|h
  ·exact l7 _ h hk (fun j _=>by simp only[bR];grind)
  ·exact l7 _ h hi (fun j _=>by simp only[bR];grind)
 have h0:=hz (fun j=>A j i+A j k);rw[jq _ hk,gn _ hik,gn A hik (s:=fun j=>A j k),jq _ hi,jq _ hi]at h0;have h1:=hz (fun j=>A j i);have h2:=hz (fun j=>A j k);rw[gn _ hik]at h1 h2;have e1:bR (bR A k (fun j=>A j k)) i (fun j=>A j i)=A:=by rw[jp,jp]
 rw[e1]at h0;rw[gn _ hik];omega
theorem Je(A:aU):det 1 A=A 0 0:=by simp[det,aD,sw]
theorem DI(A:aU):det 2 A=A 0 0*A 1 1-A 1 0*A 0 1:=by simp[det,aD,sw,iR,skip];grind
theorem sH(n:Nat)(c:Int)(A:aU):det n (fun i j=>c*A i j)=c^n*det n A:=by
 induction n generalizing A with
 | zero=>simp[det]
 | succ n ih =>
  simp only[det];rw[<-dF];refine aP fun j _=>?_;rw[show iR (fun i j=>c*A i j) j=fun i k=>c*iR A j i k from rfl,ih,fN];grind
def bar(prev:Int)(A:aU):aU:=fun i j=>Bd A i j/prev
def zL(prev:Int)(A:aU):Prop:=∀(l:Nat) (ρ γ:Nat->Nat),prev^l∣det (l+1) (fun i j=>A (ρ i) (γ j))
theorem zL.one(A:aU):zL 1 A:=fun l ρ γ=>by rw[Int.one_pow];exact Int.one_dvd _
def ja(ρ:Nat->Nat):Nat->Nat
 | 0=>0
 | i+1=>ρ i+1
theorem zL.exact{prev:Int}{A:aU}(h:zL prev A)(i j:Nat):prev*bar prev A i j=Bd A i j:=by
 have h1:=h 1 (ja fun _=>i) (ja fun _=>j);rw[DI,fN,Int.pow_zero,et]at h1;exact Int.mul_ediv_cancel' h1
theorem xT{prev:Int}{A:aU}(h:zL prev A)(ha:A 0 0≠0)(l:Nat)(ρ γ:Nat->Nat) :
  prev^(l+1)*det (l+1) (fun i j=>bar prev A (ρ i) (γ j))=A 0 0^l*det (l+2) (fun i j=>A (ja ρ i) (ja γ j)):=by
 have h1:=GJ (fun i j=>A (ja ρ i) (ja γ j)) (l+1);rw[<-sH,bS (B:=Bd (fun i j=>A (ja ρ i) (ja γ j))) (fun i j _ _=>by
  show prev*bar prev A (ρ i) (γ j)=_;rw[h.exact];rfl)]
 simp only[ja]at h1;rw[fN,cZ (A 0 0^l),gL]at h1;exact dS ha h1
theorem zL.bar{prev:Int}{A:aU}(h:zL prev A)(hp:prev≠0)(ha:A 0 0≠0):zL (A 0 0) (bar prev A):=by
 intro l ρ γ;have h1:=xT h ha l ρ γ;obtain⟨q,hq⟩:=h (l+1) (ja ρ) (ja γ);refine⟨q,?_⟩;rw[hq]at h1;have hp':prev^(l+1)≠0:=Int.pow_ne_zero hp;refine dS hp' ?_;rw[h1];grind
def up(k:Nat)(ρ:Nat->Nat)(i:Nat):Nat:=if i<k then i else k+ρ (i-k)
def cI(A:aU)(k:Nat):aU:=fun i j=>det (k+1) (fun a b=>A (up k (fun _=>i) a) (up k (fun _=>j) b))
theorem C5(ρ:Nat->Nat)(i:Nat):up 0 ρ i=ρ i:=by simp[up]
theorem ta(k:Nat)(ρ:Nat->Nat)(i:Nat):up k (ja ρ) i=up (k+1) ρ i:=by
 unfold up;by_cases h:i<k
 ·rw[if_pos h,if_pos om]
 ·rw[if_neg h];by_cases h2:i<k+1
  ·rw[if_pos h2,show i-k=0 by omega];simp[ja];omega
  ·rw[if_neg h2,show i-k=(i-(k+1))+1 by omega];simp only[ja];omega
theorem mG(k i:Nat)(h:i<k+1):up k (fun _=>0) i=i:=by
 unfold up;split
 ·rfl
 ·show k+0=i;omega
theorem io(A:aU)(i j:Nat):cI A 0 i j=A i j:=by
 unfold cI;rw[Je];simp[up]
theorem cP(A:aU)(k:Nat):cI A k 0 0=det (k+1) A:=by
 unfold cI;exact bS fun a b ha hb=>by rw[mG k a ha,mG k b hb]
theorem so{A:aU}{k:Nat}(h:∀(l:Nat) (ρ γ:Nat->Nat),det (l+1) (fun i j=>cI A k (ρ i) (γ j))=det k A^l*det (k+l+1) (fun i j=>A (up k ρ i) (up k γ j)))(i j:Nat) :
  Bd (cI A k) i j=det k A*cI A (k+1) i j:=by
 have h1:=h 1 (ja fun _=>i) (ja fun _=>j);rw[DI,fN,Int.pow_zero,et]at h1;simp only[ja]at h1;simp only[Bd];rw[h1];unfold cI;congr 1;exact bS fun a b _ _=>by rw[ta,ta]
theorem o6{A:aU}:∀{k:Nat},(∀j,j<=k->det j A≠0)->∀(l:Nat) (ρ γ:Nat->Nat),
  det (l+1) (fun i j=>cI A k (ρ i) (γ j))=det k A^l*det (k+l+1) (fun i j=>A (up k ρ i) (up k γ j))
 | 0,_,l,ρ,γ=>by
  rw[show det 0 A=1 from rfl,Int.one_pow,et,aC];exact bS fun i j _ _=>by rw[io,C5,C5]
 | k+1,hd,l,ρ,γ=>by
  have ih:=o6 (k:=k) (fun j hj=>hd j om);have hk:=hd k om;have hk1:=hd (k+1) (ah _);have hD:zL (det k A) (cI A k):=fun l ρ γ=>⟨_,ih l ρ γ⟩;have h00:cI A k 0 0≠0:=by rw[cP];exact hk1
  have hb:∀i j,bar (det k A) (cI A k) i j=cI A (k+1) i j:=fun i j=>by
   unfold bar;rw[so ih,Int.mul_ediv_cancel_left _ hk]
  have h1:=xT hD h00 l ρ γ;rw[bS (B:=fun i j=>cI A (k+1) (ρ i) (γ j)) (fun i j _ _=>hb _ _),ih (l+1) (ja ρ) (ja γ),cP]at h1;have h2:det k A^(l+1)≠0:=Int.pow_ne_zero hk;refine dS h2 ?_;have h3:det (k+(l+1)+1) (fun i j=>A (up k (ja ρ) i) (up k (ja γ) j))=det (k+1+l+1) (fun i j=>A (up (k+1) ρ i) (up (k+1) γ j)):=by
   rw[show k+(l+1)+1=k+1+l+1 by omega]
   exact bS fun i j _ _=>by rw[ta,ta]
  rw[h1,h3,Int.mul_left_comm]
theorem FT{A:aU}{k:Nat}(hd:∀j,j<=k->det j A≠0)(i j:Nat):Bd (cI A k) i j=det k A*cI A (k+1) i j:=so (o6 hd) i j
theorem iX{A:aU}{k:Nat}(hd:∀j,j<=k->det j A≠0)(i j:Nat):cI A k 0 0*cI A k (i+1) (j+1)-cI A k (i+1) 0*cI A k 0 (j+1)=det k A*cI A (k+1) i j:=FT hd i j
theorem FR{A:aU}{n k:Nat}(hk:k<n)(hd:∀j,j<=k->det j A≠0)(h0:∀i,i<n-k->cI A k i 0=0):det n A=0:=by
 have h1:=o6 hd (n-k-1) id id;have h4:det (n-k-1+1) (fun i j=>cI A k (id i) (id j))=0:=qJ _ om (fun i hi=>h0 i om);rw[h4,show k+(n-k-1)+1=n by omega]at h1
 have h2:det k A^(n-k-1)≠0:=Int.pow_ne_zero (hd k (ah _));have h3:det n (fun i j=>A (up k id i) (up k id j))=det n A:=bS fun i j _ _=>by
  have e:∀i,up k id i=i:=fun i=>by unfold up;split<;>simp;omega
  rw[e,e]
 rw[h3]at h1;rcases Int.mul_eq_zero.1 h1.symm with h|h
 ·exact absurd h h2
 ·exact h
def dB(i j a:Nat):Nat:=if a=i then j else if a=j then i else a
theorem yq{n i k:Nat}(A:aU)(hi:i<n)(hk:k<n)(hik:i≠k):det n (fun a b=>A (dB i k a) b)=- det n A:=by
 rw[<-GG A hi hk hik];refine bS fun a b _ _=>?_;simp only[dB,setRow];by_cases h1:a=i
 ·subst h1;simp[hik]
 ·by_cases h2:a=k
  ·subst h2;simp[h1]
  ·simp[h1,h2]
theorem oh{n i k:Nat}(A:aU)(hi:i<n)(hk:k<n)(hik:i≠k):det n (fun a b=>A a (dB i k b))=- det n A:=by
 rw[<-yZ A hi hk hik];refine bS fun a b _ _=>?_;simp only[dB,bR];by_cases h1:b=i
 ·subst h1;simp[hik]
 ·by_cases h2:b=k
  ·subst h2;simp[h1]
  ·simp[h1,h2]
theorem t5{n i k:Nat}(A:aU)(hi:n<=i)(hk:n<=k):det n (fun a b=>A (dB i k a) b)=det n A :=
 bS fun a b ha _=>by rw[show dB i k a=a by unfold dB;rw[if_neg om,if_neg om]]
theorem tb{k p:Nat}(A:aU)(hp:k<=p)(i j:Nat):cI (fun a b=>A (dB k p a) b) k i j=cI A k (dB 0 (p-k) i) j:=by
 unfold cI;refine bS fun a b ha hb=>?_;have e:dB k p (up k (fun _=>i) a)=up k (fun _=>dB 0 (p-k) i) a:=by
  unfold up dB;by_cases h:a<k
  ·simp only[h,if_true];rw[if_neg om,if_neg om]
  ·simp only[h,if_false];by_cases h1:i=0
   ·rw[if_pos om,if_pos h1];omega
   ·by_cases h2:i=p-k
    ·rw[if_neg om,if_pos om,if_neg h1,if_pos h2];omega
    ·rw[if_neg om,if_neg om,if_neg h1,if_neg h2]
 show A (dB k p (up k (fun _=>i) a)) _=_;rw[e]
structure mz(A:aU)(n:Nat)(σ:Nat->Nat)(neg:Bool)(k:Nat):Prop where
 lead:∀j,j<=k->det j (fun a b=>A (σ a) b)≠0
 sign:det n (fun a b=>A (σ a) b)=if neg then-det n A else det n A
 row:∀i,i<n->σ i<n
theorem mz.init(A:aU)(n:Nat):mz A n id false 0:=⟨fun j hj=>by rw[show j=0 by omega];simp[det],by simp,fun i h=>h⟩
theorem mz.swap{A:aU}{n:Nat}{σ:Nat->Nat}{neg:Bool}{k p:Nat}(h:mz A n σ neg k)(hk:k<p)(hp:p<n):mz A n (fun a=>σ (dB k p a)) (!neg) k:=by
 refine⟨fun j hj=>?_,?_,fun i hi=>h.row _ (by unfold dB;split<;>(try split)<;>omega)⟩
 ·rw[t5 (fun a b=>A (σ a) b) om om];exact h.lead j hj
 ·rw[yq (fun a b=>A (σ a) b) om hp om,h.sign]
  cases neg<;>simp
theorem mz.step{A:aU}{n:Nat}{σ:Nat->Nat}{neg:Bool}{k:Nat}(h:mz A n σ neg k)(h0:cI (fun a b=>A (σ a) b) k 0 0≠0):mz A n σ neg (k+1) :=
 ⟨fun j hj=>by
  rcases aE j (k+1)with h1|h1
  ·exact h.lead j om
  ·rw[show j=k+1 by omega,<-cP];exact h0,h.sign,h.row⟩
theorem mz.zero{A:aU}{n:Nat}{σ:Nat->Nat}{neg:Bool}{k:Nat}(h:mz A n σ neg k)(hk:k<n)(h0:∀i,i<n-k->cI (fun a b=>A (σ a) b) k i 0=0):det n A=0:=by
 have h1:=FR hk h.lead h0;rw[h.sign]at h1
 cases neg<;>simp at h1<;>omega
structure Pd(A:aU)(n:Nat):Prop where
 sym:∀a b,a<n->b<n->A a b=A b a
 pos:∀k,k<=n->0<det k A
theorem Pd.ne{A:aU}{n:Nat}(h:Pd A n){k:Nat}(hk:k<=n):∀j,j<=k->det j A≠0:=fun j hj=>by have:=h.pos j om;omega
theorem Pd.stg_sym{A:aU}{n:Nat}(h:Pd A n):∀(k i j:Nat),k+i<n->k+j<n->cI A k i j=cI A k j i
 | 0,i,j,hi,hj=>by rw[io,io];exact h.sym i j om om
 | k+1,i,j,hi,hj=>by
  have ih:=h.stg_sym k;have e1:=iX (h.ne (k:=k) om) i j;have e2:=iX (h.ne (k:=k) om) j i;rw[ih (i+1) (j+1) om om,ih (i+1) 0 om om,ih 0 (j+1) om om]at e1;have h0:=h.pos k om;refine dS (show det k A≠0 by omega) ?_
  rw[<-e1,<-e2];grind
theorem Pd.stg_rec{A:aU}{n:Nat}(h:Pd A n){k i:Nat}(hi:k+i+1<n):det (k+1) A*cI A k (i+1) (i+1)=det k A*cI A (k+1) i i+cI A k (i+1) 0*cI A k (i+1) 0:=by
 have e:=iX (h.ne (k:=k) om) i i;rw[h.stg_sym k 0 (i+1) om om,cP]at e;omega
theorem Pd.stg_rec2{A:aU}{n:Nat}(h:Pd A n){k i j:Nat}(hi:k+i+1<n)(hj:k+j+1<n):det (k+1) A*cI A k (i+1) (j+1)=det k A*cI A (k+1) i j+cI A k (i+1) 0*cI A k (j+1) 0:=by
 have e:=iX (h.ne (k:=k) om) i j;rw[h.stg_sym k 0 (j+1) om om,cP]at e;omega
theorem jW(x:Int):0<=x*x:=by
 rcases Int.le_total 0 x with h|h
 ·exact cY h h
 ·have:=cY (show 0<=-x by omega) (show 0<=-x by omega);rw[Int.neg_mul_neg]at this;exact this
theorem uk{a b:Int}(ha:0<a)(h:0<a*b):0<b:=by
 rcases Bu 0 b with hb|hb
 ·exact hb
 ·have:=cu hb (cA ha);omega
theorem Pd.stg_pos{A:aU}{n:Nat}(h:Pd A n):∀(i k:Nat),k+i<n->0<cI A k i i
 | 0,k,hk=>by rw[cP];exact h.pos _ om
 | i+1,k,hk=>by
  have e:=h.stg_rec (k:=k) (i:=i) om;have h1:=h.stg_pos i (k+1) om;have h2:=mX (h.pos k om) h1;have h3:=jW (cI A k (i+1) 0);have h4:0<det (k+1) A*cI A k (i+1) (i+1):=by omega
  exact uk (h.pos (k+1) om) h4
theorem Pd.stg_up{A:aU}{n:Nat}(h:Pd A n):∀(k i:Nat),k+i<n->cI A k i i<=det k A*A (k+i) (k+i)
 | 0,i,hi=>by rw[io];simp[det]
 | k+1,i,hi=>by
  have e:=h.stg_rec (k:=k) (i:=i) om;have ih:=h.stg_up k (i+1) om;have h0:=h.pos k om;have h1:=h.pos (k+1) om;have h3:=jW (cI A k (i+1) 0);have h4:=cu ih (cA h1);refine po ?_ h0;rw[show k+1+i=k+(i+1) by omega]
  have h5:det (k+1) A*(det k A*A (k+(i+1)) (k+(i+1)))=det k A*(det (k+1) A*A (k+(i+1)) (k+(i+1))):=by grind
  omega
theorem Pd.lam_sq{A:aU}{n:Nat}(h:Pd A n){k i:Nat}(hi:k+i+1<n):cI A k (i+1) 0*cI A k (i+1) 0<=det (k+1) A*cI A k (i+1) (i+1):=by
 have e:=h.stg_rec (k:=k) (i:=i) om;have h2:=mX (h.pos k om) (h.stg_pos i (k+1) om);omega
theorem Pd.hadamard{A:aU}{n:Nat}(h:Pd A n){k:Nat}(hk:k<n):det (k+1) A<=det k A*A k k:=by
 have:=h.stg_up k 0 om
 rwa [cP,Nat.add_zero]at this
theorem GK{a b m u v:Int}(ha:0<a)(hm:m*m<=a*b):0<=a*(v*v)+b*(u*u)-2*(m*(u*v)):=by
 have h1:a*(a*(v*v)+b*(u*u)-2*(m*(u*v)))=(a*v-m*u)*(a*v-m*u)+(a*b-m*m)*(u*u):=by grind
 have h2:=jW (a*v-m*u);have h3:=cY (show 0<=a*b-m*m by omega) (jW u)
 exact Int.nonneg_of_mul_nonneg_right om ha
theorem Jf{d a b m u v:Int}(hd:0<=d)(ha:0<a)(hm:m*m<=a*b):(d*m+u*v)*(d*m+u*v)<=(d*a+u*u)*(d*b+v*v):=by
 have h1:=GK (u:=u) (v:=v) ha hm;have h2:=cY hd h1;have h3:=cY (cY hd hd) (show 0<=a*b-m*m by omega)
 have h4:(d*a+u*u)*(d*b+v*v)-(d*m+u*v)*(d*m+u*v)=d*d*(a*b-m*m)+d*(a*(v*v)+b*(u*u)-2*(m*(u*v))):=by grind
 omega
theorem Pd.cs{A:aU}{n:Nat}(h:Pd A n):∀(i j k:Nat),k+i<n->k+j<n->cI A k i j*cI A k i j<=cI A k i i*cI A k j j
 | 0,0,k,_,_=>Int.le_refl _
 | 0,j+1,k,_,hj=>by
  rw[h.stg_sym k 0 (j+1) om om,cP];exact h.lam_sq om
 | i+1,0,k,hi,_=>by
  rw[cP,cZ (cI A k (i+1) (i+1))];exact h.lam_sq om
 | i+1,j+1,k,hi,hj=>by
  have ih:=h.cs i j (k+1) om om;have e1:=h.stg_rec (k:=k) (i:=i) om;have e2:=h.stg_rec (k:=k) (i:=j) om;have e3:=h.stg_rec2 (k:=k) (i:=i) (j:=j) om om;have h0:=h.pos k om;have h1:=h.pos (k+1) om;have h2:=Jf (u:=cI A k (i+1) 0) (v:=cI A k (j+1) 0) (cA h0) (h.stg_pos i (k+1) om) ih;rw[<-e1,<-e2,<-e3]at h2;have h3:0<det (k+1) A*det (k+1) A:=mX h1 h1;refine po ?_ h3;have h4:det (k+1) A*det (k+1) A*(cI A k (i+1) (j+1)*cI A k (i+1) (j+1))=det (k+1) A*cI A k (i+1) (j+1)*(det (k+1) A*cI A k (i+1) (j+1)):=by grind
  have h5:det (k+1) A*det (k+1) A*(cI A k (i+1) (i+1)*cI A k (j+1) (j+1))=det (k+1) A*cI A k (i+1) (i+1)*(det (k+1) A*cI A k (j+1) (j+1)):=by grind
  omega
theorem Pd.cs0{A:aU}{n:Nat}(h:Pd A n){i j:Nat}(hi:i<n)(hj:j<n):A i j*A i j<=A i i*A j j:=by
 have:=h.cs i j 0 om om;simpa only[io]using this
theorem Pd.diag{A:aU}{n:Nat}(h:Pd A n){i:Nat}(hi:i<n):0<A i i:=by
 have:=h.stg_pos i 0 om
 rwa [io]at this
def jK(A:aU)(i j:Nat):Int:=cI A j (i-j) 0
def fX(A:aU)(i j:Nat):Prop:=2*(jK A i j).natAbs<=det (j+1) A
def iV(A:aU)(i:Nat):Prop:=3*(det i A*det i A)<=4*(det (i-1) A*det (i+1) A+jK A i (i-1)*jK A i (i-1))
theorem ID{x d:Int}(h:2*(x.natAbs:Int)<=d):x*x<=d*d:=by
 have h1:((x.natAbs:Nat):Int)*x.natAbs=x*x:=by rw[<-di,nX]
 rw[<-h1];exact cH om om om om
theorem wt{x d:Int}(h:2*(x.natAbs:Int)<=d):4*(x*x)<=d*d:=by
 have h1:((x.natAbs:Nat):Int)*x.natAbs=x*x:=by rw[<-di,nX]
 have h2:(2*(x.natAbs:Int))*(2*x.natAbs)<=d*d:=cH h h om om;have h3:(2*(x.natAbs:Int))*(2*x.natAbs)=4*((x.natAbs:Int)*x.natAbs):=by grind
 omega
theorem Pd.sized_up{A:aU}{n:Nat}(h:Pd A n){D:Int}{r:Nat}(hr:r<n)(hD:∀k,k<=r->det (k+1) A<=D)(hs:∀j,j<r->fX A r j):∀(i k:Nat),k+i=r->4*cI A k i i<=det k A*((i+4:Nat)*D)
 | 0,k,hk=>by
  rw[cP];have h1:=hD k om;have h2:=h.pos k om;have h3:=h.pos (k+1) om;have h4:=cc (show 1<=det k A by omega) (show 0<=D by omega)
  have h5:det k A*(((0+4:Nat):Int)*D)=4*(det k A*D):=by
   rw[show((0+4:Nat):Int)=4 from rfl];grind
  omega
 | i+1,k,hk=>by
  have e:=h.stg_rec (k:=k) (i:=i) om;have ih:=h.sized_up hr hD hs i (k+1) om;have h0:=h.pos k om;have h1:=h.pos (k+1) om;have hl:=wt (hs k om);unfold jK at hl;rw[show r-k=i+1 by omega]at hl
  have h2:=hD k om;have h3:=cu ih (cA h0);refine po ?_ h1;have h4:det k A*(det (k+1) A*((i+4:Nat)*D))+det (k+1) A*det (k+1) A<=det (k+1) A*(det k A*((i+1+4:Nat)*D)):=by
   have h5:det (k+1) A*(det k A*((i+1+4:Nat)*D))=det k A*(det (k+1) A*((i+4:Nat)*D))+det (k+1) A*(det k A*D):=by
    rw[show((i+1+4:Nat):Int)=((i+4:Nat):Int)+1 by omega];grind
   have h6:det (k+1) A*det (k+1) A<=det (k+1) A*(det k A*D):=by
    refine cu ?_ (cA h1);have h7:=cc (show 1<=det k A by omega) (show 0<=D by omega)
    omega
   omega
  have h8:det k A*(4*cI A (k+1) i i)=4*(det k A*cI A (k+1) i i):=by grind
  have h9:det (k+1) A*(4*cI A k (i+1) (i+1))=4*(det (k+1) A*cI A k (i+1) (i+1)):=by grind
  omega
theorem Pd.sized_norm4{A:aU}{n:Nat}(h:Pd A n){D:Int}{r:Nat}(hr:r<n)(hD:∀k,k<=r->det (k+1) A<=D)(hs:∀j,j<r->fX A r j):4*A r r<=(r+4:Nat)*D:=by
 have:=h.sized_up hr hD hs r 0 om;rw[io]at this;simpa [det]using this
theorem Pd.sized_norm{A:aU}{n:Nat}(h:Pd A n){D:Int}{r:Nat}(hr:r<n)(hD:∀k,k<=r->det (k+1) A<=D)(hs:∀j,j<r->fX A r j):A r r<=(r+1:Nat)*D:=by
 have h1:=h.sized_norm4 hr hD hs;have h2:det 1 A<=D:=hD 0 om;have h3:=h.pos 1 om;have h4:((r+4:Nat):Int)*D<=((4*(r+1):Nat):Int)*D:=cc om om;have h5:((4*(r+1):Nat):Int)*D=4*(((r+1:Nat):Int)*D):=by
  rw[di];grind
 omega
theorem pl(k c i:Nat):up k (fun _=>c) i=if i<k then i else k+c:=rfl
def jL(A:aU)(i j:Nat)(q:Int):aU:=fun a b=>A a b+(if a=i then q*A j b else 0)+(if b=i then q*A a j else 0)+(if a=i/\b=i then q*q*A j j else 0)
theorem oM(A:aU){i j a b:Nat}{q:Int}(ha:a≠i)(hb:b≠i):jL A i j q a b=A a b:=by simp[jL,ha,hb]
theorem Bh(A:aU){i j b:Nat}{q:Int}(hb:b≠i):jL A i j q i b=A i b+q*A j b:=by simp[jL,hb]
theorem iQ{A:aU}{i j:Nat}{q:Int}(hj:j<i)(k:Nat):det k (jL A i j q)=det k A:=by
 rcases aE i k with hk|hk
 ·have h1:=lh A (n:=k) (i:=i) (k:=j) hk om om 1 q;have h2:=qK (setRow A i (fun b=>1*A i b+q*A j b)) (n:=k) (i:=i) (k:=j) hk om om 1 q;rw[h1]at h2;rw[et,et]at h2;rw[<-h2];refine bS fun a b _ _=>?_;simp only[jL,bR,setRow];have hji:j≠i:=by omega
  by_cases h3:a=i<;>by_cases h4:b=i<;>simp[h3,h4]<;>grind
 ·exact bS fun a b ha hb=>oM A om om
theorem sK{A:aU}{i j:Nat}{q:Int}{i' j':Nat}(hi:i'<i)(hj':j'<=i'):jK (jL A i j q) i' j'=jK A i' j':=by
 unfold jK cI;refine bS fun a b ha hb=>?_;exact oM A (by rw[pl];split<;>omega) (by rw[pl];split<;>omega)
theorem Bi{A:aU}{i j:Nat}{q:Int}{j':Nat}(hj:j<j')(hj':j'<i):jK (jL A i j q) i j'=jK A i j':=by
 have h1:=lh (fun a b=>A (up j' (fun _=>i-j') a) (up j' (fun _=>0) b)) (n:=j'+1) (i:=j') (k:=j) om om om 1 q;rw[et]at h1;unfold jK cI;rw[<-h1];refine bS fun a b ha hb=>?_;simp only[setRow];have hb':up j' (fun _=>0) b≠i:=by rw[pl];split<;>omega
 by_cases e:a=j'
 ·subst e;have h2:up a (fun _=>i-a) a=i:=by rw[pl];rw[if_neg om];omega
  have h3:up a (fun _=>i-a) j=j:=by rw[pl];rw[if_pos om]
  rw[h2,h3,Bh A hb'];simp
 ·have h2:up j' (fun _=>i-j') a=a:=by rw[pl];rw[if_pos om]
  rw[h2,oM A om hb',if_neg e]
theorem Bj{A:aU}{i j:Nat}{q:Int}(hj:j<i):jK (jL A i j q) i j=jK A i j+q*det (j+1) A:=by
 have h1:=qH (fun a b=>A (up j (fun _=>i-j) a) (up j (fun _=>0) b)) (n:=j+1) (i:=j) om 1 q (fun b=>A i (up j (fun _=>0) b)) (fun b=>A j (up j (fun _=>0) b));unfold jK cI;have e1:det (j+1) (setRow (fun a b=>A (up j (fun _=>i-j) a) (up j (fun _=>0) b)) j (fun b=>A i (up j (fun _=>0) b)))=det (j+1) (fun a b=>A (up j (fun _=>i-j) a) (up j (fun _=>0) b)):=by
  refine bS fun a b ha hb=>?_;simp only[setRow];by_cases e:a=j
  ·subst e;rw[if_pos rfl];congr 1;rw[pl];rw[if_neg om];omega
  ·rw[if_neg e]
 have e2:det (j+1) (setRow (fun a b=>A (up j (fun _=>i-j) a) (up j (fun _=>0) b)) j (fun b=>A j (up j (fun _=>0) b)))=det (j+1) A:=by
  refine bS fun a b ha hb=>?_;simp only[setRow];rw[mG j b hb];by_cases e:a=j
  ·subst e;rw[if_pos rfl]
  ·rw[if_neg e];congr 1;rw[pl];rw[if_pos om]
 rw[e1,e2,et]at h1;rw[<-h1];refine bS fun a b ha hb=>?_;simp only[setRow];have hb':up j (fun _=>0) b≠i:=by rw[pl];split<;>omega
 by_cases e:a=j
 ·subst e;have h2:up a (fun _=>i-a) a=i:=by rw[pl];rw[if_neg om];omega
  rw[h2,Bh A hb',if_pos rfl];simp
 ·have h2:up j (fun _=>i-j) a=a:=by rw[pl];rw[if_pos om]
  rw[h2,oM A om hb',if_neg e]
def wd(A:aU)(i:Nat):aU:=fun a b=>A (dB (i-1) i a) (dB (i-1) i b)
theorem lW{A:aU}{i k:Nat}(hi:0<i)(hk:k≠i):det k (wd A i)=det k A:=by
 rcases aE i k with h|h
 ·have h1:=yq (fun a b=>A a (dB (i-1) i b)) (n:=k) (i:=i-1) (k:=i) om h om;have h2:=oh A (n:=k) (i:=i-1) (k:=i) om h om;show det k (fun a b=>(fun a b=>A a (dB (i-1) i b)) (dB (i-1) i a) b)=_;rw[h1,h2];omega
 ·refine bS fun a b ha hb=>?_;have e:∀a,a<k->dB (i-1) i a=a:=fun a ha=>by unfold dB;rw[if_neg om,if_neg om]
  simp only[wd];rw[e a ha,e b hb]
theorem sn{A:aU}{i:Nat}(hi:0<i):det i (wd A i)=cI A (i-1) 1 1:=by
 unfold cI;rw[show i-1+1=i by omega]
 refine bS fun a b ha hb=>?_;have e:∀a,a<i->dB (i-1) i a=up (i-1) (fun _=>1) a:=fun a ha=>by
  rw[pl];unfold dB;by_cases h:a=i-1
  ·rw[if_pos h,if_neg om];omega
  ·rw[if_neg h,if_neg om,if_pos om]
 simp only[wd];rw[e a ha,e b hb]
theorem Pd.swap_lead{A:aU}{n:Nat}(h:Pd A n){i:Nat}(h0:0<i)(hi:i<n):det i A*det i (wd A i)=det (i-1) A*det (i+1) A+jK A i (i-1)*jK A i (i-1):=by
 have e:=h.stg_rec (k:=i-1) (i:=0) om;rw[sn h0];unfold jK;rw[show i-(i-1)=1 by omega]
 rw[show i-1+1=i by omega,aC,cP]at e
 exact e
theorem Pd.add{A:aU}{n:Nat}(h:Pd A n){i j:Nat}{q:Int}(hj:j<i)(hi:i<n):Pd (jL A i j q) n:=by
 refine⟨fun a b ha hb=>?_,fun k hk=>by rw[iQ hj];exact h.pos k hk⟩
 have e1:=h.sym a b ha hb;have e2:=h.sym j a om ha;have e3:=h.sym j b om hb;simp only[jL];by_cases h1:a=i<;>by_cases h2:b=i<;>simp[h1,h2]<;>grind
theorem Pd.swap{A:aU}{n:Nat}(h:Pd A n){i:Nat}(h0:0<i)(hi:i<n):Pd (wd A i) n:=by
 have hs:∀a,a<n->dB (i-1) i a<n:=fun a ha=>by unfold dB;split<;>(try split)<;>omega
 refine⟨fun a b ha hb=>h.sym _ _ (hs a ha) (hs b hb),fun k hk=>?_⟩;by_cases e:k=i
 ·subst e;rw[sn h0];exact h.stg_pos 1 (k-1) om
 ·rw[lW h0 e];exact h.pos k hk
theorem xf{A:aU}{n:Nat}(h:Pd A n){i:Nat}(h0:0<i)(hi:i<n)(hl:¬iV A i):4*det i (wd A i)<3*det i A:=by
 unfold iV at hl;rw[<-h.swap_lead h0 hi]at hl;have hp:=h.pos i om;have h1:det i A*(4*det i (wd A i))<det i A*(3*det i A):=by
  have e1:det i A*(4*det i (wd A i))=4*(det i A*det i (wd A i)):=by grind
  have e2:det i A*(3*det i A)=3*(det i A*det i A):=by grind
  omega
 exact Int.lt_of_mul_lt_mul_left h1 (cA hp)
open Classical in
noncomputable def mn(p:Nat->Prop):Nat->Nat
 | 0=>0
 | w+1=>if (∀c,c<=w->p c)then w+1 else mn p w
theorem xK(p:Nat->Prop):∀w,mn p w<=w
 | 0=>by simp[mn]
 | w+1=>by have:=xK p w;simp only[mn];split<;>omega
theorem xL{p:Nat->Prop}{k:Nat}(h:∀c,c<k->p c):∀w,k<=w->k<=mn p w
 | 0,hk=>by omega
 | w+1,hk=>by
  simp only[mn];split
  ·exact hk
  ·rename_i hn;rcases aE w k with h1|h1
   ·exact absurd (fun c hc=>h c om) hn
   ·exact xL h w h1
theorem uP{p:Nat->Prop}{k:Nat}(h:¬p k):∀w,mn p w<=k
 | 0=>by simp[mn]
 | w+1=>by
  simp only[mn];split
  ·rename_i hn;rcases aE w k with h1|h1
   ·omega
   ·exact absurd (hn k h1) h
  ·exact uP h w
def chk(A:aU)(n c:Nat):Prop:=(c%(n+1)<c/(n+1)->fX A (c/(n+1)) (c/(n+1)-1-c%(n+1)))/\(c%(n+1)=c/(n+1)->0<c/(n+1)->iV A (c/(n+1)))
theorem GN{n i t:Nat}(ht:t<n+1):(i*(n+1)+t)/(n+1)=i:=by
 rw[aO,Nat.mul_add_div om,Nat.div_eq_of_lt ht];omega
theorem GM{n i t:Nat}(ht:t<n+1):(i*(n+1)+t)%(n+1)=t:=by
 rw[aO,Nat.mul_add_mod,Nat.mod_eq_of_lt ht]
theorem GQ{A:aU}{n i t:Nat}(ht:t<n+1):chk A n (i*(n+1)+t)↔(t<i->fX A i (i-1-t))/\(t=i->0<i->iV A i):=by
 unfold chk;rw[GN ht,GM ht]
def lD(A:aU)(i:Nat):Prop:=(∀r,r<i->∀j,j<r->fX A r j)/\∀r,0<r->r<i->iV A r
theorem EG{A:aU}{n i t:Nat}(hr:lD A i)(hs:∀j,i<j+1+t->j<i->fX A i j)(ht:t<=i)(hi:i<n){c:Nat}(hc:c<i*(n+1)+t):chk A n c:=by
 have h1:c/(n+1)<=i:=by
  rcases aE i (c/(n+1))with h|h
  ·have h2:=Nat.div_mul_le_self c (n+1);have h3:(i+1)*(n+1)<=c/(n+1)*(n+1):=bT _ h;rw[it]at h3;omega
  ·exact h
 rcases aE (c/(n+1)) i with h|h
 ·refine⟨fun h2=>hr.1 _ h _ om,fun h2 h3=>hr.2 _ h3 h⟩
 ·have e:c/(n+1)=i:=by omega
  have h2:c%(n+1)<t:=by
   have:=Nat.div_add_mod c (n+1);rw[e,aO]at this;omega
  unfold chk;rw[e];exact⟨fun h3=>hs _ om om,fun h3=>by omega⟩
def jw:Nat->(Nat->Nat)->Nat
 | 0,_=>1
 | n+1,f=>jw n f*f n
theorem qo{n:Nat}{f g:Nat->Nat}(h:∀i,i<n->f i=g i):jw n f=jw n g:=by
 induction n with
 | zero=>rfl
 | succ n ih=>simp only[jw];rw[ih fun i hi=>h i om,h n om]
theorem B6{n:Nat}{f:Nat->Nat}(h:∀i,i<n->0<f i):0<jw n f:=by
 induction n with
 | zero=>simp[jw]
 | succ n ih=>simp only[jw];exact Nat.mul_pos (ih fun i hi=>h i om) (h n om)
theorem Ay{n:Nat}{f g:Nat->Nat}{i:Nat}(hi:i<n)(h:∀k,k<n->k≠i->g k=f k)(hl:4*g i<=3*f i):4*jw n g<=3*jw n f:=by
 induction n with
 | zero=>omega
 | succ n ih =>
  simp only[jw];rcases aE i n with h1|h1
  ·rw[h n om om,<-fL,<-fL];exact bT _ (ih h1 fun k hk=>h k om)
  ·obtain rfl:i=n:=by omega
   rw[qo (f:=g) (g:=f) fun k hk=>h k om om,Nat.mul_left_comm,Nat.mul_left_comm 3];exact aY _ hl
theorem Ej{n B:Nat}{f:Nat->Nat}(h:∀i,i<n->f i<=B):jw n f<=B^n:=by
 induction n with
 | zero=>simp[jw]
 | succ n ih=>simp only[jw,cn];exact ci (ih fun i hi=>h i om) (h n om)
def pot(A:aU)(n:Nat):Nat:=jw n (fun k=>(det k A).toNat)
noncomputable def ip(A:aU)(n:Nat):Nat:=mn (chk A n) (n*(n+1))
noncomputable def yN(A:aU)(n:Nat):Nat:=pot A n*(n*(n+1)+1)+(n*(n+1)-ip A n)
theorem qq(A:aU)(n:Nat):ip A n<=n*(n+1):=xK _ _
theorem Pd.pot_pos{A:aU}{n:Nat}(h:Pd A n):0<pot A n:=B6 fun k hk=>by have:=h.pos k om;omega
theorem Dl{A:aU}{n i j:Nat}{q:Int}(hj:j<i):pot (jL A i j q) n=pot A n:=qo fun k _=>by rw[iQ hj]
theorem Az{A:aU}{n i:Nat}(h:Pd A n)(h0:0<i)(hi:i<n)(hl:¬iV A i):4*pot (wd A i) n<=3*pot A n:=by
 refine Ay hi (fun k _ hk=>by rw[lW h0 hk]) ?_
 have h1:=xf h h0 hi hl;have h2:=(h.swap h0 hi).pos i om;omega
theorem rK{A:aU}{n i j:Nat}{q:Int}(hj:j<i)(hi:i<n)(hr:lD A i)(hs:∀j',j<j'->j'<i->fX A i j')(hb:¬fX A i j)(hq:2*((jK A i j+q*det (j+1) A).natAbs:Int)<=det (j+1) A) :
  ip A n<ip (jL A i j q) n:=by
 have h1:ip A n<=i*(n+1)+(i-1-j):=by
  refine uP ?_ _;rw[GQ om];intro h;have:=h.1 om;rw[show i-1-(i-1-j)=j by omega]at this
  exact hb this
 have hw:i*(n+1)+(i-1-j)+1<=n*(n+1):=by
  have:(i+1)*(n+1)<=n*(n+1):=bT _ hi;rw[it]at this;omega
 have hr':lD (jL A i j q) i:=by
  refine⟨fun r hr1 j1 hj1=>?_,fun r h0 hr1=>?_⟩
  ·have:=hr.1 r hr1 j1 hj1;unfold fX at *;rw[sK hr1 om,iQ hj];exact this
  ·have:=hr.2 r h0 hr1;unfold iV at *;rw[sK hr1 om,iQ hj,iQ hj,iQ hj];exact this
 have h2:i*(n+1)+(i-j)<=ip (jL A i j q) n:=by
  refine xL (fun c hc=>EG hr' (fun j' h3 h4=>?_) om hi hc) _ om;unfold fX;rw[iQ hj];rcases aE j j' with h5|h5
  ·rw[Bi h5 h4];exact hs j' h5 h4
  ·obtain rfl:j'=j:=by omega
   rw[Bj hj];exact hq
 omega
theorem AH{A:aU}{n i j:Nat}{q:Int}(hj:j<i)(hp:ip A n<ip (jL A i j q) n):yN (jL A i j q) n<yN A n:=by
 unfold yN;rw[Dl hj];have h1:=qq (jL A i j q) n;omega
theorem xH{A:aU}{n i:Nat}(h:Pd A n)(h0:0<i)(hi:i<n)(hl:¬iV A i):yN (wd A i) n<yN A n:=by
 unfold yN;have h1:=Az h h0 hi hl;have h2:=h.pot_pos;have h3:(pot (wd A i) n+1)*(n*(n+1)+1)<=pot A n*(n*(n+1)+1):=bT _ om;rw[it]at h3;omega
theorem EX{x y z:Int}(h:x=y+z):x*x<=2*(y*y)+2*(z*z):=by
 subst h;have:=jW (y-z);have e:2*(y*y)+2*(z*z)-(y+z)*(y+z)=(y-z)*(y-z):=by grind
 omega
theorem Kz{x d:Int}(h:2*(x.natAbs:Int)<=d):4*(x*x)<=d*d:=by
 have h1:((x.natAbs:Nat):Int)*x.natAbs=x*x:=by rw[<-di,nX]
 have h2:(2*(x.natAbs:Int))*(2*x.natAbs)<=d*d:=cH h h om om;have h3:(2*(x.natAbs:Int))*(2*x.natAbs)=4*((x.natAbs:Int)*x.natAbs):=by grind
 omega
theorem Pd.q_sq{A:aU}{n:Nat}(h:Pd A n){D:Int}(hD:∀k,k<=n->det k A<=D){i j:Nat}{q:Int}(hj:j<i)(hi:i<n)(hq:2*((jK A i j+q*det (j+1) A).natAbs:Int)<=det (j+1) A):q*q<=3*(D*A i i):=by
 have hd:=h.pos (j+1) om;have hdj:=h.pos j om;have hAi:=h.diag hi;have h1:=h.lam_sq (k:=j) (i:=i-j-1) om;have h2:=h.stg_up j (i-j) om;rw[show i-j-1+1=i-j by omega]at h1
 rw[show j+(i-j)=i by omega]at h2
 have h3:=Kz hq;have h4:=EX (x:=q*det (j+1) A) (y:=jK A i j+q*det (j+1) A) (z:=- jK A i j) om;unfold jK at h3 h4;have h5:det (j+1) A*cI A j (i-j) (i-j)<=det (j+1) A*(det j A*A i i):=cu h2 (cA hd);rw[Int.neg_mul_neg]at h4;have h6:det (j+1) A*(det (j+1) A*(q*q))<=det (j+1) A*(2*(det j A*A i i)+det (j+1) A):=by
  have e1:q*det (j+1) A*(q*det (j+1) A)=det (j+1) A*(det (j+1) A*(q*q)):=by grind
  have h0:=jW (cI A j (i-j) 0+q*det (j+1) A);have e2:det (j+1) A*(2*(det j A*A i i)+det (j+1) A)=2*(det (j+1) A*(det j A*A i i))+det (j+1) A*det (j+1) A:=by grind
  omega
 have h7:=po h6 hd;have h8:q*q<=det (j+1) A*(q*q):=by
  have:=cc (show 1<=det (j+1) A by omega) (jW q)
  omega
 have h9:det j A*A i i<=D*A i i:=cc (hD j om) (cA hAi);have h10:D<=D*A i i:=by
  have hD0:=hD j om;have:=cu (show 1<=A i i by omega) (show 0<=D by omega)
  omega
 have h11:=hD (j+1) om;omega
theorem Pd.add_diag{A:aU}{n:Nat}(h:Pd A n){D:Int}(hD:∀k,k<=n->det k A<=D){i j:Nat}{q:Int}(hj:j<i)(hi:i<n)(hr:lD A i)(hq:2*((jK A i j+q*det (j+1) A).natAbs:Int)<=det (j+1) A) :
  jL A i j q i i<=(2+6*((n:Int)*(D*D)))*A i i:=by
 have h1:=h.q_sq hD hj hi hq;have hAi:=h.diag hi;have hAj:=h.diag (show j<n by omega)
 have h2:=h.sized_norm (D:=D) (r:=j) om (fun k hk=>hD (k+1) om) (fun j' hj'=>hr.1 j om j' hj');have hD1:=hD 0 om;have hD0:0<D:=by simp only[det]at hD1;omega
 have h3:=GK (u:=q) (v:=1) hAi (h.cs0 hi (show j<n by omega))
 have e:jL A i j q i i=A i i+2*(A i j*(q*1))+A j j*(q*q):=by
  have:=h.sym i j hi om;simp only[jL];simp;grind
 have h4:A j j*(q*q)<=A j j*(3*(D*A i i)):=cu h1 (cA hAj);have h5:A j j<=n*D:=by
  have:((j+1:Nat):Int)*D<=n*D:=cc om (cA hD0);omega
 have h6:A j j*(3*(D*A i i))<=(n*D)*(3*(D*A i i)):=cc h5 (by have:=mX hD0 hAi;omega)
 have e2:(2+6*((n:Int)*(D*D)))*A i i=2*A i i+2*((n*D)*(3*(D*A i i))):=by grind
 rw[k9]at h3;omega
structure LI(A:aU)(n s:Nat):Prop where
 pd:Pd A n
 lead:∀k,k<=n->det k A<=59049
 pot:4^s*pot A n<=3^s*65536^n
 diag:∀i,i<n->A i i<=2^(4+40*(31*s+ip A n))
theorem lY{a b:Nat}(h:a<=b):(2:Int)^a<=2^b:=by
 have:=ca (n:=2) om h;have h1:((2^a:Nat):Int)<=((2^b:Nat):Int):=Int.ofNat_le.2 this;simpa using h1
theorem LI.init{A:aU}{n:Nat}(h:Pd A n)(hn:n<=5)(hd:∀i,i<n->A i i<=9):LI A n 0:=by
 have hl:∀k,k<=n->det k A<=9^k:=by
  intro k
  induction k with
  | zero=>intro _;simp[det]
  | succ k ih =>
   intro hk;have h1:=h.hadamard (k:=k) om;have h2:=hd k om;have h3:=cH (ih om) h2 (cA (h.diag om)) (by have:=h.pos k om;have:=ih om;omega)
   rw[fN];omega
 have hl':∀k,k<=n->det k A<=59049:=by
  intro k hk;have h1:=hl k hk;have:(9:Int)^k<=59049:=by
   match k,(show k<=5 by omega)with
   | 0,_=>decide
   | 1,_=>decide
   | 2,_=>decide
   | 3,_=>decide
   | 4,_=>decide
   | 5,_=>decide
  omega
 refine⟨h,hl',?_,fun i hi=>?_⟩
 ·simp only[Nat.pow_zero,Nat.one_mul];exact Ej fun k hk=>by have:=hl' k om;omega
 ·have h1:=hd i hi;have h2:=lY (show 4<=4+40*(31*0+ip A n) by omega)
  have h3:(2:Int)^4=16:=by decide
  omega
theorem LI.s_le{A:aU}{n s:Nat}(h:LI A n s)(hn:n<=5):s<=200:=by
 rcases aE 200 s with h1|h1
 ·exfalso;have h2:=h.pot;have h3:=h.pd.pot_pos;have h4:65536^n<=65536^5:=ca om hn;have h5:4^s<=3^s*65536^5:=by
   calc
    4^s=4^s*1:=by omega
    _<=4^s*Go.Proofs.YtdobfmlmenaajaaGreatDoor.pot A n:=aY _ h3
    _<=3^s*65536^n:=h2
    _<=3^s*65536^5:=aY _ h4
  obtain⟨t,rfl⟩:∃t,s=200+t:=⟨s-200,by omega⟩
  have h6:3^t<=4^t:=Nat.pow_le_pow_left om t;have h7:3^200*65536^5<4^200:=by decide
  have h8:3^200*65536^5*3^t<4^200*4^t:=Nat.lt_of_lt_of_le (Nat.mul_lt_mul_of_pos_right h7 (kZ om)) (aY _ h6);rw[jF,jF]at h5;have h9:3^200*3^t*65536^5=3^200*65536^5*3^t:=by
   rw[fL,aO (3^t),<-fL]
  omega
 ·exact h1
theorem LI.add{A:aU}{n s:Nat}(h:LI A n s)(hn:n<=5){i j:Nat}{q:Int}(hj:j<i)(hi:i<n)(hr:lD A i)(hs:∀j',j<j'->j'<i->fX A i j')(hb:¬fX A i j)(hq:2*((jK A i j+q*det (j+1) A).natAbs:Int)<=det (j+1) A):LI (jL A i j q) n s:=by
 have hp:=rK (n:=n) hj hi hr hs hb hq;refine⟨h.pd.add hj hi,fun k hk=>by rw[iQ hj];exact h.lead k hk,by rw[Dl hj];exact h.pot,fun a ha=>?_⟩
 by_cases e:a=i
 ·subst e;have h1:=h.pd.add_diag h.lead hj hi hr hq;have h2:=h.diag a ha;have h3:=h.pd.diag ha;have h4:(2+6*((n:Int)*(59049*59049)))*A a a<=2^40*A a a:=by
   refine cc ?_ (cA h3);have:(2:Int)^40=1099511627776:=by decide
   omega
  have h5:(2:Int)^40*A a a<=2^40*2^(4+40*(31*s+ip A n)):=cu h2 (by decide)
  rw[<-Int.pow_add]at h5;have h6:=lY (show 40+(4+40*(31*s+ip A n))<=4+40*(31*s+ip (jL A a j q) n) by omega)
  omega
 ·rw[oM A e e];have h1:=h.diag a ha;have h6:=lY (show 4+40*(31*s+ip A n)<=4+40*(31*s+ip (jL A i j q) n) by omega)
  omega
theorem LI.swap{A:aU}{n s:Nat}(h:LI A n s)(hn:n<=5){i:Nat}(h0:0<i)(hi:i<n)(hl:¬iV A i):LI (wd A i) n (s+1):=by
 have hw:ip A n<=30:=by
  have h1:=qq A n;have h2:n*(n+1)<=5*6:=ci hn om;omega
 refine⟨h.pd.swap h0 hi,fun k hk=>?_,?_,fun a ha=>?_⟩
 ·by_cases e:k=i
  ·subst e;have h1:=xf h.pd h0 hi hl;have h2:=h.lead k hk;have h3:=(h.pd.swap h0 hi).pos k hk;omega
  ·rw[lW h0 e];exact h.lead k hk
 ·have h1:=Az h.pd h0 hi hl;have h2:=h.pot;rw[cn,cn]
  calc
   4^s*4*Go.Proofs.YtdobfmlmenaajaaGreatDoor.pot (wd A i) n=4^s*(4*Go.Proofs.YtdobfmlmenaajaaGreatDoor.pot (wd A i) n):=by rw[fL]
   _<=4^s*(3*Go.Proofs.YtdobfmlmenaajaaGreatDoor.pot A n):=aY _ h1
   _=3*(4^s*Go.Proofs.YtdobfmlmenaajaaGreatDoor.pot A n):=by rw[Nat.mul_left_comm]
   _<=3*(3^s*65536^n):=aY _ h2
   _=3^s*3*65536^n:=by rw[<-fL,aO 3]
 ·have hs:dB (i-1) i a<n:=by unfold dB;split<;>(try split)<;>omega
  have h1:=h.diag _ hs;have h6:=lY (show 4+40*(31*s+ip A n)<=4+40*(31*(s+1)+ip (wd A i) n) by omega)
  simp only[wd];omega
theorem LI.entry{A:aU}{n s:Nat}(h:LI A n s)(hn:n<=5){i j:Nat}(hi:i<n)(hj:j<n){N:Nat}(hN:249300<=N):(A i j).natAbs<2^N:=by
 have hs:=h.s_le hn;have hw:ip A n<=30:=by
  have h1:=qq A n;have h2:n*(n+1)<=5*6:=ci hn om;omega
 obtain⟨M,rfl⟩:∃M,N=M+1:=⟨N-1,by omega⟩
 have h6:=lY (show 4+40*(31*s+ip A n)<=M by omega)
 have h1:=h.pd.cs0 hi hj;have h2:=h.diag i hi;have h3:=h.diag j hj;have h4:=cH (show A i i<=2^M by omega) (show A j j<=2^M by omega) (cA (h.pd.diag hj)) (by have:=h.pd.diag hi;omega)
 have hPI:(2:Int)^M=((2^M:Nat):Int):=by simp
 rw[hPI]at h4;rw[Nat.pow_succ'];have hPpos:0<2^M:=kZ om;generalize (2:Nat)^M=P at *;rcases aE (A i j).natAbs (2*P)with h8|h8
 ·exact h8
 ·exfalso;have h9:(2*P)*(2*P)<=(A i j).natAbs*(A i j).natAbs:=ci h8 h8;have h10:(((A i j).natAbs*(A i j).natAbs:Nat):Int)=A i j*A i j:=nX;have h11:(2*P)*(2*P)=4*(P*P):=by rw[Nat.mul_mul_mul_comm]
  have h12:0<P*P:=Nat.mul_pos hPpos hPpos;have h13:((P*P:Nat):Int)=(P:Int)*P:=di P P;omega
structure Lv(H:aU)(n:Nat):Prop where
 pd:Pd H n
 rows:lD H n
 lead:∀k,k<=n->det k H<=59049
theorem Lv.diag{H:aU}{n:Nat}(h:Lv H n)(hn:n<=5){i:Nat}(hi:i<n):H i i<=118098:=by
 have h1:=h.pd.sized_norm4 (D:=59049) hi (fun k hk=>h.lead (k+1) om) (fun j hj=>h.rows.1 i hi j hj);omega
theorem o8{x B:Int}(hB:0<=B)(h:x*x<=B*B):x.natAbs<=B:=by
 rcases Bu B x.natAbs with h1|h1
 ·exfalso;have h2:(B+1)*(B+1)<=(x.natAbs:Int)*x.natAbs:=cH om om om om;have h3:((x.natAbs:Nat):Int)*x.natAbs=x*x:=by rw[<-di,nX]
  have h4:(B+1)*(B+1)=B*B+2*B+1:=by grind
  omega
 ·exact h1
theorem Lv.entry{H:aU}{n:Nat}(h:Lv H n)(hn:n<=5){i j:Nat}(hi:i<n)(hj:j<n):((H i j).natAbs:Int)<=118098:=by
 have h1:=h.pd.cs0 hi hj;have h2:=h.diag hn hi;have h3:=h.diag hn hj;have h4:=cH h2 h3 (cA (h.pd.diag hj)) om;exact o8 om om
theorem IB{l d:Int}(hd:0<d):2*((l+-((2*l+d)/(2*d))*d).natAbs:Int)<=d:=by
 have h1:=aT (2*l+d) (show 2*d≠0 by omega)
 have h2:=Int.emod_lt_of_pos (2*l+d) (show 0<2*d by omega)
 have h3:=Int.emod_add_mul_ediv (2*l+d) (2*d);generalize hq:(2*l+d)/(2*d)=q at *;have h4:2*d*q=2*(q*d):=by grind
 have h5:-q*d=-(q*d):=by grind
 rw[h5];omega
abbrev kX:=Nat->Int
def ik(n m:Nat)(B:aU)(x:kX):Prop:=∃c:kX,∀i,i<n->x i=aD m (fun j=>B i j*c j)
structure Hz(n:Nat)(L:kX->Prop):Prop where
 zero:L (fun _=>0)
 comb:∀x y:kX,L x->L y->∀a b:Int,L (fun i=>a*x i+b*y i)
 ext:∀x y:kX,L x->(∀i,i<n->x i=y i)->L y
theorem Hz.smul{n:Nat}{L:kX->Prop}(h:Hz n L){x:kX}(hx:L x)(a:Int):L (fun i=>a*x i) :=
 h.ext _ _ (h.comb x x hx hx a 0) (fun i _=>by simp)
theorem Hz.add{n:Nat}{L:kX->Prop}(h:Hz n L){x y:kX}(hx:L x)(hy:L y):L (fun i=>x i+y i) :=
 h.ext _ _ (h.comb x y hx hy 1 1) (fun i _=>by simp)
theorem Hz.sum{n:Nat}{L:kX->Prop}(h:Hz n L)(C:Nat->kX)(c:kX):∀m,(∀j,j<m->L (C j))->L (fun i=>aD m (fun j=>C j i*c j))
 | 0,_=>h.ext _ _ h.zero (fun i _=>by simp[aD])
 | m+1,hC=>h.ext _ _ (h.comb _ _ (h.sum C c m fun j hj=>hC j om) (hC m om) 1 (c m)) (fun i _=>by simp only[aD];grind)
theorem Eb(m:Nat)(a b:Int)(B:Nat->Int)(c d:kX):aD m (fun j=>B j*(a*c j+b*d j))=a*aD m (fun j=>B j*c j)+b*aD m (fun j=>B j*d j):=by
 rw[<-rA];exact aP fun j _=>by grind
theorem ik.lat(n m:Nat)(B:aU):Hz n (ik n m B):=by
 refine⟨⟨fun _=>0,fun i _=>(ic fun j _=>by simp).symm⟩,?_,?_⟩
 ·rintro x y ⟨c,hc⟩ ⟨d,hd⟩ a b;exact⟨fun j=>a*c j+b*d j,fun i hi=>by show a*x i+b*y i=_;rw[hc i hi,hd i hi,Eb]⟩
 ·rintro x y ⟨c,hc⟩ h;exact⟨c,fun i hi=>by rw[<-h i hi];exact hc i hi⟩
theorem ik.col{n m:Nat}{B:aU}{j:Nat}(hj:j<m):ik n m B (fun i=>B i j) :=
 ⟨iC j,fun i _=>by
  rw[cN j hj (fun k _ hk=>by simp[iC,hk])];simp[iC]⟩
theorem ik.sub{n m:Nat}{B:aU}{L:kX->Prop}(hL:Hz n L)(h:∀j,j<m->L (fun i=>B i j)){x:kX}(hx:ik n m B x):L x:=by
 obtain⟨c,hc⟩:=hx;exact hL.ext _ _ (hL.sum (fun j i=>B i j) c m h) (fun i hi=>(hc i hi).symm)
def jc(n:Nat)(A B:aU):Prop:=(∀x,ik n n A x↔ik n n B x)/\(det n A).natAbs=(det n B).natAbs
theorem jc.refl(n:Nat)(A:aU):jc n A A:=⟨fun _=>Iff.rfl,rfl⟩
theorem jc.trans{n:Nat}{A B C:aU}(h:jc n A B)(k:jc n B C):jc n A C:=⟨fun x=>(h.1 x).trans (k.1 x),h.2.trans k.2⟩
theorem jc.of{n:Nat}{A B:aU}(h1:∀j,j<n->ik n n A (fun i=>B i j))(h2:∀j,j<n->ik n n B (fun i=>A i j))(hd:(det n A).natAbs=(det n B).natAbs):jc n A B :=
 ⟨fun _=>⟨ik.sub (ik.lat n n B) h2,ik.sub (ik.lat n n A) h1⟩,hd⟩
theorem Eh{n:Nat}(A:aU){i k:Nat}(hi:i<n)(hk:k<n)(hik:i≠k)(c:Int):jc n A (bR A i (fun r=>A r i+c*A r k)):=by
 refine jc.of (fun j hj=>?_) (fun j hj=>?_) ?_
 ·by_cases e:j=i
  ·subst e;exact(ik.lat n n A).ext _ _ ((ik.lat n n A).comb _ _ (ik.col hj) (ik.col hk) 1 c) (fun r _=>by simp[bR])
  ·exact(ik.lat n n A).ext _ _ (ik.col hj) (fun r _=>by simp[bR,e])
 ·by_cases e:j=i
  ·subst e;refine(ik.lat n n _).ext _ _ ((ik.lat n n _).comb _ _ (ik.col (j:=j) hj) (ik.col (j:=k) hk) 1 (-c)) (fun r _=>?_);simp only[bR,if_true,if_neg (ak hik)];grind
  ·exact(ik.lat n n _).ext _ _ (ik.col (j:=j) hj) (fun r _=>by simp[bR,e])
 ·have h:=qK A hi hk hik 1 c;rw[et]at h;rw[<-h];simp only[et]
theorem B1{n:Nat}(A:aU){i k:Nat}(hi:i<n)(hk:k<n)(hik:i≠k):jc n A (fun a b=>A a (dB i k b)):=by
 have hs:∀j,j<n->dB i k j<n:=fun j hj=>by unfold dB;split<;>(try split)<;>omega
 have hss:∀j,dB i k (dB i k j)=j:=fun j=>by unfold dB;grind
 refine jc.of (fun j hj=>ik.col (hs j hj)) (fun j hj=>?_) ?_
 ·have:=ik.col (n:=n) (B:=fun a b=>A a (dB i k b)) (hs j hj);simpa only[hss]using this
 ·rw[oh A hi hk hik];omega
theorem Ei{n:Nat}(A:aU){i:Nat}(hi:i<n):jc n A (bR A i (fun r=>- A r i)):=by
 refine jc.of (fun j hj=>?_) (fun j hj=>?_) ?_
 ·by_cases e:j=i
  ·subst e;exact(ik.lat n n A).ext _ _ ((ik.lat n n A).smul (ik.col hj) (-1)) (fun r _=>by simp[bR])
  ·exact(ik.lat n n A).ext _ _ (ik.col hj) (fun r _=>by simp[bR,e])
 ·by_cases e:j=i
  ·subst e;exact(ik.lat n n _).ext _ _ ((ik.lat n n _).smul (ik.col (j:=j) hj) (-1)) (fun r _=>by simp[bR])
  ·exact(ik.lat n n _).ext _ _ (ik.col (j:=j) hj) (fun r _=>by simp[bR,e])
 ·have h:=y5 A hi (-1) 0 (fun r=>A r i) (fun r=>A r i);have e:bR A i (fun r=>-1*A r i+0*A r i)=bR A i (fun r=>- A r i):=by congr 1;funext r;omega
  rw[e,jp]at h;omega
theorem wD{n:Nat}(A:aU)(h:∀j,0<j->j<n+1->A 0 j=0):det (n+1) A=A 0 0*det n (fun i j=>A (i+1) (j+1)):=by
 simp only[det];rw[cN 0 om (fun j hj h0=>by rw[h j om hj];simp)]
 simp only[t9,et];congr 1
 all_goals (first|rfl|(exact bS fun i j _ _=>by simp[iR,skip]))
def lF:Nat->(Nat->Int)->Int
 | 0,_=>1
 | n+1,f=>f 0*lF n (fun i=>f (i+1))
def Fr(n i:Nat)(A:aU):Prop:=∀r,r<i->(∀j,r<j->j<n->A r j=0)/\0<A r r
theorem tp{n:Nat}:∀(i:Nat) (A:aU),Fr (n+i) i A->det (n+i) A=lF i (fun r=>A r r)*det n (fun r j=>A (r+i) (j+i))
 | 0,A,_=>by simp[lF]
 | i+1,A,h=>by
  rw[<-Nat.add_assoc,wD A (fun j h0 hj=>(h 0 om).1 j h0 om),tp i (fun r j=>A (r+1) (j+1)) (fun r hr=>⟨fun j h1 h2=>(h (r+1) om).1 (j+1) om om,(h (r+1) om).2⟩)];simp only[lF];rw[gL];rfl
theorem rI{n:Nat}{f:Nat->Int}(h:∀i,i<n->0<f i):0<lF n f:=by
 induction n generalizing f with
 | zero=>simp[lF]
 | succ n ih=>simp only[lF];exact mX (h 0 om) (ih fun i hi=>h (i+1) om)
def cO:Nat->(Nat->Int)->Nat
 | 0,_=>0
 | n+1,f=>cO n f+(f n).natAbs
theorem G1{n:Nat}{f g:Nat->Int}{k:Nat}(hk:k<n)(h:∀j,j<n->j≠k->f j=g j)(hl:(f k).natAbs<(g k).natAbs):cO n f<cO n g:=by
 induction n with
 | zero=>omega
 | succ n ih =>
  simp only[cO];by_cases e:k=n
  ·subst e;have:cO k f=cO k g:=by
    have key:∀m,m<=k->cO m f=cO m g:=by
     intro m
     induction m with
     | zero=>intro _;rfl
     | succ m ih2=>intro hm;simp only[cO];rw[ih2 om,h m om om]
    exact key k (ah _)
   omega
  ·rw[h n om (ak e)];have:=ih om (fun j hj=>h j om);omega
theorem AY{n:Nat}(A:aU)(h:∀j,j<n+1->A 0 j=0):det (n+1) A=0:=by
 simp only[det];exact ic fun j hj=>by rw[h j hj];simp
theorem Ic{n i:Nat}(hi:i<n):∀(m:Nat) (A:aU),cO n (fun j=>if i<=j then A i j else 0)=m->Fr n i A->det n A≠0->∃B,jc n A B/\Fr n (i+1) B:=by
 intro m
 induction m using Nat.strongRecOn with
 | ind m ih =>
  intro A hm hT hd;by_cases h2:∃j1 j2,i<=j1/\j1<n/\i<=j2/\j2<n/\j1≠j2/\A i j1≠0/\(A i j1).natAbs<=(A i j2).natAbs
  ·obtain⟨j1,j2,h3,h4,h5,h6,h7,h8,h9⟩:=h2;have hs:=Eh A h6 h4 (ak h7) (-(A i j2/A i j1));have hlt:(A i j2+-(A i j2/A i j1)*A i j1).natAbs<(A i j2).natAbs:=by
    have e:A i j2+-(A i j2/A i j1)*A i j1=A i j2%A i j1:=by
     rw[Int.emod_def];grind
    rw[e];have h10:=aT (A i j2) h8;have h11:=Int.emod_lt (A i j2) h8;omega
   have hT':Fr n i (bR A j2 (fun r=>A r j2+-(A i j2/A i j1)*A r j1)):=by
    refine fun r hr=>⟨fun j hj hjn=>?_,?_⟩
    ·by_cases e:j=j2
     ·subst e;simp only[bR,if_true];rw[(hT r hr).1 j hj hjn,(hT r hr).1 j1 om h4];simp
     ·simp only[bR,e,if_false];exact(hT r hr).1 j hj hjn
    ·simp only[bR];rw[if_neg om];exact(hT r hr).2
   obtain⟨B,hB1,hB2⟩:=ih (cO n (fun j=>if i<=j then bR A j2 (fun r=>A r j2+-(A i j2/A i j1)*A r j1) i j else 0)) (by
     rw[<-hm];refine G1 h6 (fun j _ hj=>?_) ?_
     ·simp[bR,hj]
     ·simp only[h5,if_true,bR];exact hlt) _ rfl hT' (by
     have:=hs.2;intro h0;rw[h0]at this;omega)
   exact⟨B,hs.trans hB1,hB2⟩
  ·have hex:∃j0,i<=j0/\j0<n/\A i j0≠0:=by
    rcases Classical.em (∃j0,i<=j0/\j0<n/\A i j0≠0)with h|h
    ·exact h
    ·exfalso;refine hd ?_;obtain⟨k,rfl⟩:∃k,n=k+1+i:=⟨n-i-1,by omega⟩
     rw[tp i A hT,AY (n:=k) _ (fun j hj=>?_),Int.mul_zero];rcases Classical.em (A (0+i) (j+i)=0)with h0|h0
     ·exact h0
     ·exact absurd ⟨j+i,by omega,by omega,by rw[aC]at h0;exact h0⟩ h
   obtain⟨j0,h3,h4,h5⟩:=hex;have hz:∀j,i<=j->j<n->j≠j0->A i j=0:=by
    intro j h6 h7 h8;rcases Classical.em (A i j=0)with h0|h0
    ·exact h0
    ·exfalso;rcases Nat.le_total (A i j).natAbs (A i j0).natAbs with h9|h9
     ·exact h2 ⟨j,j0,h6,h7,h3,h4,h8,h0,h9⟩
     ·exact h2 ⟨j0,j,h3,h4,h6,h7,ak h8,h5,h9⟩
   have h6:∃B,jc n A B/\Fr n i B/\B i i≠0/\∀j,i<j->j<n->B i j=0:=by
    by_cases e:i=j0
    ·subst e;exact⟨A,jc.refl n A,hT,h5,fun j hj hjn=>hz j om hjn om⟩
    ·refine⟨_,B1 A hi h4 e,fun r hr=>⟨fun j hj hjn=>?_,?_⟩,?_,fun j hj hjn=>?_⟩
     ·have:r<dB i j0 j/\dB i j0 j<n:=by unfold dB;split<;>(try split)<;>omega
      exact(hT r hr).1 _ this.1 this.2
     ·have:dB i j0 r=r:=by unfold dB;rw[if_neg om,if_neg om]
      show 0<A r (dB i j0 r);rw[this];exact(hT r hr).2
     ·show A i (dB i j0 i)≠0;have:dB i j0 i=j0:=by simp[dB]
      rw[this];exact h5
     ·show A i (dB i j0 j)=0;refine hz _ ?_ ?_ ?_<;>(unfold dB;split<;>(try split)<;>omega)
   obtain⟨B,hB1,hB2,hB3,hB4⟩:=h6;rcases Bu 0 (B i i)with h7|h7
   ·refine⟨B,hB1,fun r hr=>?_⟩;by_cases e:r=i
    ·subst e;exact⟨hB4,h7⟩
    ·exact hB2 r om
   ·refine⟨_,hB1.trans (Ei B hi),fun r hr=>⟨fun j hj hjn=>?_,?_⟩⟩
    ·simp only[bR];by_cases e:r=i
     ·subst e;rw[if_neg om];exact hB4 j hj hjn
     ·by_cases e2:j=i
      ·subst e2;rw[if_pos rfl,(hB2 r om).1 j hj hjn];rfl
      ·rw[if_neg e2];exact(hB2 r om).1 j hj hjn
    ·simp only[bR];by_cases e:r=i
     ·subst e;rw[if_pos rfl];omega
     ·rw[if_neg e];exact(hB2 r om).2
theorem BS{n:Nat}(A:aU)(hd:det n A≠0):∃B,jc n A B/\Fr n n B:=by
 have key:∀i,i<=n->∃B,jc n A B/\Fr n i B:=by
  intro i
  induction i with
  | zero=>intro _;exact⟨A,jc.refl n A,fun r hr=>by omega⟩
  | succ i ih =>
   intro hi;obtain⟨B,h1,h2⟩:=ih om;obtain⟨C,h3,h4⟩:=Ic om _ B rfl h2 (by have:=h1.2;intro h0;rw[h0]at this;omega)
   exact⟨C,h1.trans h3,h4⟩
 exact key n (ah _)
theorem FJ{n:Nat}{A B:aU}(h:jc n A B)(hT:Fr n n B):((det n A).natAbs:Int)=lF n (fun r=>B r r):=by
 have h1:=tp (n:=0) n B (by rw[aC];exact hT)
 rw[aC]at h1;simp only[det,k9]at h1;have h2:=rI (n:=n) (f:=fun r=>B r r) (fun r hr=>(hT r hr).2);rw[h.2,h1];omega
end Go.Proofs.YtdobfmlmenaajaaGreatDoor
