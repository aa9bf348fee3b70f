/-
  Lemmas for NeighbourIndex.
-/
import Derived.Test.YtdobfmlmenaajaaGreatDoorJ01
namespace Go.Proofs.YtdobfmlmenaajaaGreatDoor
open Go.RowKit Tryz
open _root_.Classical renaming choose→df,choose_spec→dS,byContradiction→en,em→eH
open _root_.Int renaming emod_nonneg→aY,mul_le_mul_of_nonneg_right→cj,natCast_mul→ck,le_of_lt→cu,mul_comm→cF,dvd_mul_of_dvd_right→cJ,mul_ediv_cancel_left→cV,mul_le_mul_of_nonneg_left→cX,mul_le_mul→cY,eq_of_mul_eq_mul_left→dk,mul_nonneg→du,one_mul→eg,natCast_nonneg→et,pow_succ→eY,natAbs_mul→fJ,mul_assoc→fK,dvd_mul_of_dvd_left→gO,mul_one→ij,mul_ediv_cancel'→iO,dvd_add→iQ,dvd_refl→jt,natCast_add→jH,mul_eq_zero→jI,emod_add_mul_ediv→jS,dvd_zero→kw,mul_pos→lL,natAbs_mul_self→oK,zero_mul→oN,mul_zero→oO,le_of_mul_le_mul_left→qa,mul_neg→qq,lt_or_le→Cl
open _root_.List renaming range→cn
open _root_.Nat renaming le_refl→ah,zero_add→aF,lt_or_ge→aI,mul_comm→aS,mul_le_mul_left→a9,mul_le_mul→bN,eq_zero_or_pos→bU,le_trans→bV,mul_le_mul_right→bY,pow_le_pow_right→cg,pow_succ→ct,lt_irrefl→cA,lt_trichotomy→db,add_zero→dd,sub_zero→eG,mod_lt→eP,mul_assoc→gA,div_add_mod→gS,succ_mul→ia,add_sub_cancel→ip,pow_add→kf,one_mul→kg,pos_of_ne_zero→lE,pow_pos→lJ,lt_or_gt_of_ne→py
open _root_.Ne renaming symm→ao
set_option maxHeartbeats 6400000
set_option maxRecDepth 4096
set_option linter.all false
abbrev aW:=Nat->Nat->Int
def aE:Nat->(Nat->Int)->Int
 | 0,_=>0
 | n+1,f=>aE n f+f n
theorem aK{n:Nat}{f g:Nat->Int}(h:∀i,i<n->f i=g i):aE n f=aE n g:=by
 induction n with
 | zero=>rfl
 | succ n ih=>simp only[aE];rw[ih (fun i hi=>h i om),h n om]
theorem iD{n:Nat}{f:Nat->Int}(h:∀i,i<n->f i=0):aE n f=0:=by
 induction n with
 | zero=>rfl
 | succ n ih=>simp only[aE];rw[ih (fun i hi=>h i om),h n om];rfl
theorem dX(n:Nat)(f g:Nat->Int):aE n (fun i=>f i+g i)=aE n f+aE n g:=by
 induction n with
 | zero=>rfl
 | succ n ih=>simp only[aE];rw[ih];omega
theorem dE(n:Nat)(c:Int)(f:Nat->Int):aE n (fun i=>c*f i)=c*aE n f:=by
 induction n with
 | zero=>simp[aE]
 | succ n ih=>simp only[aE];rw[ih,Int.mul_add]
theorem pH(n:Nat)(x y:Int)(f g:Nat->Int):aE n (fun i=>x*f i+y*g i)=x*aE n f+y*aE n g:=by
 rw[dX,dE,dE]
theorem cp{n:Nat}{f:Nat->Int}(k:Nat)(hk:k<n)(h:∀i,i<n->i≠k->f i=0):aE n f=f k:=by
 induction n with
 | zero=>omega
 | succ n ih =>
  simp only[aE];by_cases e:k=n
  ·subst e;rw[iD (fun i hi=>h i om om)];omega
  ·rw[ih om (fun i hi hik=>h i om hik),h n om om];omega
theorem E6{n:Nat}{f:Nat->Int}(k:Nat)(hk:k+1<n)(h:∀i,i<n->i≠k->i≠k+1->f i=0):aE n f=f k+f (k+1):=by
 induction n with
 | zero=>omega
 | succ n ih =>
  simp only[aE];by_cases e:k+1=n
  ·subst e;rw[cp k om (fun i hi h1=>h i om h1 om)]
  ·rw[ih om (fun i hi h1 h2=>h i om h1 h2),h n om om om];omega
theorem nT(n m:Nat)(f:Nat->Nat->Int):aE n (fun i=>aE m (fun j=>f i j))=aE m (fun j=>aE n (fun i=>f i j)):=by
 induction n with
 | zero=>simp only[aE];rw[iD];intros;rfl
 | succ n ih=>simp only[aE];rw[ih,<-dX]
def tq(j:Nat):Int:=if j%2=0 then 1 else -1
theorem Bq(j:Nat):tq (j+1)=- tq j:=by unfold tq;split<;>split<;>omega
theorem uZ:tq 0=1:=rfl
def skip(j k:Nat):Nat:=if k<j then k else k+1
def jn(A:aW)(j:Nat):aW:=fun i k=>A (i+1) (skip j k)
def det:Nat->aW->Int
 | 0,_=>1
 | n+1,A=>aE (n+1) fun j=>tq j*A 0 j*det n (jn A j)
theorem qW{n j k:Nat}(h:k<n):skip j k<n+1:=by unfold skip;split<;>omega
theorem bF{n:Nat}{A B:aW}(h:∀i j,i<n->j<n->A i j=B i j):det n A=det n B:=by
 induction n generalizing A B with
 | zero=>rfl
 | succ n ih =>
  simp only[det];refine aK fun j hj=>?_;rw[h 0 j om hj,ih (A:=jn A j) (B:=jn B j) (fun i k hi hk=>h _ _ om (qW hk))]
def setRow(A:aW)(i:Nat)(r:Nat->Int):aW:=fun a b=>if a=i then r b else A a b
def bK(A:aW)(i:Nat)(r:Nat->Int):aW:=fun a b=>if b=i then r a else A a b
theorem qG(A:aW)(i j:Nat)(r:Nat->Int):jn (setRow A (i+1) r) j=setRow (jn A j) i (fun k=>r (skip j k)):=by
 funext a b;simp[jn,setRow]
theorem BZ(A:aW)(j:Nat)(r:Nat->Int):jn (setRow A 0 r) j=jn A j:=by
 funext a b;simp[jn,setRow]
theorem od{n i:Nat}(A:aW)(hi:i<n)(x y:Int)(r s:Nat->Int) :
  det n (setRow A i (fun j=>x*r j+y*s j))=x*det n (setRow A i r)+y*det n (setRow A i s):=by
 induction n generalizing A i r s with
 | zero=>omega
 | succ n ih =>
  simp only[det];rw[<-pH];refine aK fun j _=>?_
  cases i with
  | zero=>simp only[BZ,setRow,if_true];grind
  | succ i=>rw[qG,ih _ om,qG,qG];simp only[setRow,Nat.reduceEqDiff,if_false];grind
theorem pi{n i:Nat}(A:aW)(hi:i<n)(x:Int)(r:Nat->Int):det n (setRow A i (fun j=>x*r j))=x*det n (setRow A i r):=by
 have h:=od A hi x 0 r r;rw[bF (B:=setRow A i (fun j=>x*r j+0*r j)) (fun a b _ _=>by simp[setRow]),h];omega
theorem je{n i:Nat}(A:aW)(hi:i<n)(r s:Nat->Int):det n (setRow A i (fun j=>r j+s j))=det n (setRow A i r)+det n (setRow A i s):=by
 have h:=od A hi 1 1 r s;rw[bF (B:=setRow A i (fun j=>1*r j+1*s j)) (fun a b _ _=>by simp[setRow]),h];omega
theorem CX(N:Nat)(g:Nat->Nat->Int):aE (N+1) (fun j=>aE N (fun k=>if k<j then g k j else-g j (k+1)))=0:=by
 induction N with
 | zero=>simp[aE]
 | succ N ih =>
  rw[show aE (N+1+1) (fun j=>aE (N+1) (fun k=>if k<j then g k j else-g j (k+1)))
  =aE (N+1) (fun j=>aE (N+1) (fun k=>if k<j then g k j else-g j (k+1)))+aE (N+1) (fun k=>if k<N+1 then g k (N+1)else-g (N+1) (k+1))from rfl]
  have h1:aE (N+1) (fun j=>aE (N+1) (fun k=>if k<j then g k j else-g j (k+1)))
  =aE (N+1) (fun j=>aE N (fun k=>if k<j then g k j else-g j (k+1))+(- g j (N+1))):=by
   refine aK fun j hj=>?_;simp only[aE];rw[if_neg om]
  have h2:aE (N+1) (fun k=>if k<N+1 then g k (N+1)else-g (N+1) (k+1))=aE (N+1) (fun k=>g k (N+1)) :=
   aK fun k hk=>by rw[if_pos hk]
  rw[h1,h2,dX,ih];have h3:aE (N+1) (fun j=>- g j (N+1))=- aE (N+1) (fun j=>g j (N+1)):=by
   have:=dE (N+1) (-1) (fun j=>g j (N+1));rw[aK (g:=fun i=>-1*g i (N+1)) (fun i _=>om),this];omega
  rw[h3];omega
theorem zC{j k:Nat}(h:k<j)(c:Nat):skip j (skip k c)=skip k (skip (j-1) c):=by
 unfold skip;split<;>split<;>(try split)<;>(try split)<;>omega
theorem EG{n i:Nat}(A:aW)(hi:i+1<n)(h:∀j,j<n->A i j=A (i+1) j):det n A=0:=by
 induction n generalizing A i with
 | zero=>omega
 | succ n ih =>
  cases i with
  | succ i =>
   simp only[det];exact iD fun j hj=>by rw[ih (jn A j) (i:=i) om (fun k hk=>h _ (qW hk))];omega
  | zero =>
   obtain⟨n,rfl⟩:∃m,n=m+1:=⟨n-1,om⟩
   have e:det (n+1+1) A=aE (n+1+1) (fun j=>aE (n+1) (fun k =>
     if k<j then tq k*tq j*A 0 k*A 0 j*det n (jn (jn A j) k)else-(tq j*tq (k+1)*A 0 j*A 0 (k+1)*det n (jn (jn A (k+1)) j)))):=by
    simp only[det];refine aK fun j hj=>?_;rw[<-dE];refine aK fun k hk=>?_;have hc:jn A j 0 k=A 0 (skip j k):=by
     show A 1 (skip j k)=_;exact(h _ (qW hk)).symm
    rw[hc];split
    ·rename_i hkj;rw[show skip j k=k by unfold skip;rw[if_pos hkj]];grind
    ·rename_i hkj;rw[show skip j k=k+1 by unfold skip;rw[if_neg hkj],Bq]
     have hcc:jn (jn A j) k=jn (jn A (k+1)) j:=by
      funext a b;show A (a+1+1) (skip j (skip k b))=A (a+1+1) (skip (k+1) (skip j b));rw[zC (j:=k+1) (k:=j) om];rfl
     rw[hcc];grind
   rw[e];exact CX (n+1) (fun k j=>tq k*tq j*A 0 k*A 0 j*det n (jn (jn A j) k))
theorem iy(A:aW)(i:Nat):setRow A i (A i)=A:=by funext a b;simp only[setRow];split<;>simp_all
theorem i7(A:aW)(i:Nat):bK A i (fun a=>A a i)=A:=by funext a b;simp only[bK];split<;>simp_all
theorem gT(A:aW){i k:Nat}(h:i≠k)(r s:Nat->Int):setRow (setRow A i r) k s=setRow (setRow A k s) i r:=by
 funext a b;simp only[setRow];grind
theorem Aa{n i:Nat}(A:aW)(hi:i+1<n)(r s:Nat->Int):det n (setRow (setRow A i r) (i+1) s)=- det n (setRow (setRow A i s) (i+1) r):=by
 have hz:∀t:Nat->Int,det n (setRow (setRow A i t) (i+1) t)=0:=fun t =>
  EG _ hi (fun j _=>by simp[setRow])
 have h0:=hz (fun j=>r j+s j);rw[je _ om,gT _ om,gT A (k:=i+1) (s:=s) om,je _ om,je _ om]at h0;rw[gT _ om s r,gT _ om r s];have h1:=hz r;have h2:=hz s;rw[gT _ om]at h1 h2;omega
theorem lq{n i k:Nat}(A:aW)(hik:i<k)(hk:k<n)(h:∀j,j<n->A i j=A k j):det n A=0:=by
 induction k generalizing A with
 | zero=>omega
 | succ k ih =>
  by_cases e:i=k
  ·subst e;exact EG A hk h
  ·have h1:=Aa A hk (A k) (A (k+1));have e1:setRow (setRow A k (A k)) (k+1) (A (k+1))=A:=by rw[iy,iy]
   rw[e1]at h1;rw[h1,ih (setRow (setRow A k (A (k+1))) (k+1) (A k)) om om (fun j hj=>?_)];· rfl
   have:=h j hj;simp only[setRow];rw[if_neg om,if_neg om,if_neg om,if_pos trivial];exact this
theorem mT{n i k:Nat}(A:aW)(hi:i<n)(hk:k<n)(hik:i≠k):det n (setRow A i (A k))=0:=by
 rcases py hik with h|h
 ·exact lq _ h hk (fun j _=>by simp only[setRow];rw[if_pos trivial,if_neg om])
 ·exact lq _ h hi (fun j _=>by simp only[setRow];rw[if_neg om,if_pos trivial])
theorem ka{n i k:Nat}(A:aW)(hi:i<n)(hk:k<n)(hik:i≠k)(x c:Int):det n (setRow A i (fun j=>x*A i j+c*A k j))=x*det n A:=by
 rw[od A hi x c (A i) (A k),mT A hi hk hik,iy];omega
theorem Hx{n i k:Nat}(A:aW)(hi:i<n)(hk:k<n)(hik:i≠k):det n (setRow (setRow A i (A k)) k (A i))=- det n A:=by
 have hz:∀t:Nat->Int,det n (setRow (setRow A i t) k t)=0:=fun t=>by
  rcases py hik with h|h
  ·exact lq _ h hk (fun j _=>by simp only[setRow];grind)
  ·exact lq _ h hi (fun j _=>by simp only[setRow];grind)
 have h0:=hz (fun j=>A i j+A k j);rw[je _ hk,gT _ hik,gT A hik (s:=A k),je _ hi,je _ hi]at h0;have h1:=hz (A i);have h2:=hz (A k);rw[gT _ hik]at h1 h2;have e1:setRow (setRow A k (A k)) i (A i)=A:=by rw[iy,iy]
 rw[e1]at h0;rw[gT _ hik];omega
def eW(j:Nat):Nat->Int:=fun k=>if k=j then 1 else 0
def pY(n:Nat)(A:aW)(i j:Nat):Int:=det n (setRow A i (eW j))
theorem BV{n i:Nat}(A:aW)(hi:i<n)(m:Nat)(r:Nat->Int) :
  det n (setRow A i (fun k=>if k<m then r k else 0))=aE m (fun j=>r j*pY n A i j):=by
 induction m with
 | zero =>
  have h:=pi A hi 0 (fun _=>0);rw[bF (B:=setRow A i (fun j=>0*(fun _=>0) j)) (fun a b _ _=>by simp[setRow]),h];simp[aE]
 | succ m ih =>
  simp only[aE];rw[<-ih];have h:=od A hi 1 (r m) (fun k=>if k<m then r k else 0) (eW m)
  rw[bF (B:=setRow A i (fun j=>1*(fun k=>if k<m then r k else 0) j+r m*eW m j)) (fun a b _ _=>?_),h]
  ·show _=_+r m*det n _;omega
  ·simp only[setRow,eW];split
   ·by_cases e:b=m
    ·subst e;simp
    ·by_cases e2:b<m
     ·simp[e,e2];omega
     ·have:¬b<m+1:=om
      simp[e,e2,this]
   ·rfl
theorem wd{n i:Nat}(A:aW)(hi:i<n)(r:Nat->Int):aE n (fun j=>r j*pY n A i j)=det n (setRow A i r):=by
 rw[<-BV A hi n r];exact bF fun a b _ hb=>by simp only[setRow];split<;>simp_all
theorem zP{n i k:Nat}(A:aW)(hi:i<n)(hk:k<n):aE n (fun j=>A k j*pY n A i j)=if i=k then det n A else 0:=by
 rw[wd A hi];split
 ·rename_i e;subst e;rw[iy]
 ·rename_i e;exact mT A hi hk e
theorem ro{n:Nat}(A:aW)(hn:0<n)(h:∀i,i<n->A i 0=0):det n A=0:=by
 induction n generalizing A with
 | zero=>omega
 | succ n ih =>
  simp only[det];refine iD fun j hj=>?_
  cases j with
  | zero=>rw[h 0 om];omega
  | succ j=>rw[ih (jn A (j+1)) om (fun i hi=>by
    show A (i+1) (skip (j+1) 0)=0;rw[show skip (j+1) 0=0 from rfl];exact h _ om)];omega
theorem sN{n:Nat}(A:aW)(h:∀i,i<n->A (i+1) 0=0):det (n+1) A=A 0 0*det n (fun i j=>A (i+1) (j+1)):=by
 rw[det,cp 0 om]
 ·rw[uZ,eg];rfl
 ·intro j hj hj0
  cases j with
  | zero=>omega
  | succ j=>rw[ro (jn A (j+1)) om (fun i hi=>by
    show A (i+1) (skip (j+1) 0)=0;rw[show skip (j+1) 0=0 from rfl];exact h _ hi)];omega
def iS(A:aW)(m:Nat):aW:=fun i j=>if 0<i/\i<=m then A 0 0*A i j-A i 0*A 0 j else A i j
theorem xG(A:aW)(n m:Nat)(hm:m<=n):det (n+1) (iS A m)=A 0 0^m*det (n+1) A:=by
 induction m with
 | zero=>rw[bF (B:=A) (fun i j _ _=>by unfold iS;rw[if_neg om])];simp
 | succ m ih =>
  have e:∀i j,iS A (m+1) i j=setRow (iS A m) (m+1) (fun j=>A 0 0*iS A m (m+1) j+(- A (m+1) 0)*iS A m 0 j) i j:=by
   intro i j;simp only[setRow];split
   ·rename_i e;subst e;simp only[iS];rw[if_pos om,if_neg om,if_neg om];grind
   ·simp only[iS];by_cases h:0<i/\i<=m
    ·rw[if_pos om,if_pos h]
    ·rw[if_neg om,if_neg h]
  rw[bF (fun i j _ _=>e i j),ka _ om om om,ih om,eY]
  grind
def B4(A:aW):aW:=fun i j=>A 0 0*A (i+1) (j+1)-A (i+1) 0*A 0 (j+1)
theorem HE(A:aW)(n:Nat):A 0 0*det n (B4 A)=A 0 0^n*det (n+1) A:=by
 rw[<-xG A n n (ah _),sN]
 ·congr 1;exact bF fun i j hi hj=>by simp only[iS,B4];rw[if_pos om]
 ·intro i hi;simp only[iS];rw[if_pos om];grind
theorem mU(A:aW){c j:Nat}(r:Nat->Int)(h:c<j):jn (bK A c r) j=bK (jn A j) c (fun a=>r (a+1)):=by
 funext a b;simp only[jn,bK,skip];grind
theorem mV(A:aW){c j:Nat}(r:Nat->Int)(h:j<c):jn (bK A c r) j=bK (jn A j) (c-1) (fun a=>r (a+1)):=by
 funext a b;simp only[jn,bK,skip];grind
theorem mW(A:aW)(c:Nat)(r:Nat->Int):jn (bK A c r) c=jn A c:=by
 funext a b;simp only[jn,bK,skip];grind
theorem pT{n c:Nat}(A:aW)(hc:c<n)(x y:Int)(r s:Nat->Int) :
  det n (bK A c (fun j=>x*r j+y*s j))=x*det n (bK A c r)+y*det n (bK A c s):=by
 induction n generalizing A c r s with
 | zero=>omega
 | succ n ih =>
  simp only[det];rw[<-pH];refine aK fun j hj=>?_;rcases db c j with h|h|h
  ·rw[mU _ _ h,mU _ _ h,mU _ _ h,ih _ om];simp only[bK];rw[if_neg om,if_neg om,if_neg om];grind
  ·subst h;rw[mW,mW,mW];simp only[bK,if_true];grind
  ·rw[mV _ _ h,mV _ _ h,mV _ _ h,ih _ om];simp only[bK];rw[if_neg om,if_neg om,if_neg om];grind
theorem tE{n c:Nat}(A:aW)(hc:c+1<n)(h:∀i,i<n->A i c=A i (c+1)):det n A=0:=by
 induction n generalizing A c with
 | zero=>omega
 | succ n ih =>
  simp only[det];rw[E6 c hc]
  ·have e:det n (jn A c)=det n (jn A (c+1)):=bF fun i k hi hk=>by
    simp only[jn,skip];by_cases h1:k<c
    ·rw[if_pos h1,if_pos om]
    ·by_cases h2:k=c
     ·subst h2;rw[if_neg om,if_pos om];exact(h _ om).symm
     ·rw[if_neg h1,if_neg om]
   rw[e,Bq,h 0 om];grind
  ·intro j hj h1 h2;rcases py h1 with hlt|hgt
   ·rw[ih (jn A j) (c:=c-1) om (fun i hi=>by
     simp only[jn,skip];rw[if_neg om,if_neg om];rw[(om:c-1+1=c)];exact h _ om)];omega
   ·rw[ih (jn A j) (c:=c) om (fun i hi=>by
     simp only[jn,skip];rw[if_pos om,if_pos om];exact h _ om)];omega
theorem gU(A:aW){i k:Nat}(h:i≠k)(r s:Nat->Int):bK (bK A i r) k s=bK (bK A k s) i r:=by
 funext a b;simp only[bK];grind
theorem jT{n i:Nat}(A:aW)(hi:i<n)(r s:Nat->Int):det n (bK A i (fun j=>r j+s j))=det n (bK A i r)+det n (bK A i s):=by
 have h:=pT A hi 1 1 r s;rw[bF (B:=bK A i (fun j=>1*r j+1*s j)) (fun a b _ _=>by simp[bK]),h];omega
theorem sO{n i:Nat}(A:aW)(hi:i+1<n)(r s:Nat->Int):det n (bK (bK A i r) (i+1) s)=- det n (bK (bK A i s) (i+1) r):=by
 have hz:∀t:Nat->Int,det n (bK (bK A i t) (i+1) t)=0:=fun t =>
  tE _ hi (fun j _=>by simp[bK])
 have h0:=hz (fun j=>r j+s j);rw[jT _ om,gU _ om,gU A (k:=i+1) (s:=s) om,jT _ om,jT _ om]at h0;rw[gU _ om s r,gU _ om r s];have h1:=hz r;have h2:=hz s;rw[gU _ om]at h1 h2;omega
theorem lr{n i k:Nat}(A:aW)(hik:i<k)(hk:k<n)(h:∀j,j<n->A j i=A j k):det n A=0:=by
 induction k generalizing A with
 | zero=>omega
 | succ k ih =>
  by_cases e:i=k
  ·subst e;exact tE A hk h
  ·have h1:=sO A hk (fun a=>A a k) (fun a=>A a (k+1));have e1:bK (bK A k (fun a=>A a k)) (k+1) (fun a=>A a (k+1))=A:=by rw[i7,i7]
   rw[e1]at h1;rw[h1,ih (bK (bK A k (fun a=>A a (k+1))) (k+1) (fun a=>A a k)) om om (fun j hj=>?_)];· rfl
   have:=h j hj;simp only[bK];rw[if_neg om,if_neg om,if_neg om,if_pos trivial];exact this
theorem rt{n i k:Nat}(A:aW)(hi:i<n)(hk:k<n)(hik:i≠k)(x c:Int):det n (bK A i (fun j=>x*A j i+c*A j k))=x*det n A:=by
 rw[pT A hi x c (fun j=>A j i) (fun j=>A j k),i7];have:det n (bK A i (fun j=>A j k))=0:=by
  rcases py hik with h|h
  ·exact lr _ h hk (fun j _=>by simp only[bK];rw[if_pos trivial,if_neg om])
  ·exact lr _ h hi (fun j _=>by simp only[bK];rw[if_neg om,if_pos trivial])
 rw[this];omega
theorem Ac{n i k:Nat}(A:aW)(hi:i<n)(hk:k<n)(hik:i≠k):det n (bK (bK A i (fun a=>A a k)) k (fun a=>A a i))=- det n A:=by
 have hz:∀t:Nat->Int,det n (bK (bK A i t) k t)=0:=fun t=>by
  rcases py hik with h|h
  ·exact lr _ h hk (fun j _=>by simp only[bK];grind)
  ·exact lr _ h hi (fun j _=>by simp only[bK];grind)
 have h0:=hz (fun j=>A j i+A j k);rw[jT _ hk,gU _ hik,gU A hik (s:=fun j=>A j k),jT _ hi,jT _ hi]at h0;have h1:=hz (fun j=>A j i);have h2:=hz (fun j=>A j k);rw[gU _ hik]at h1 h2;have e1:bK (bK A k (fun j=>A j k)) i (fun j=>A j i)=A:=by rw[i7,i7]
 rw[e1]at h0;rw[gU _ hik];omega
theorem J4(A:aW):det 1 A=A 0 0:=by simp[det,aE,tq]
theorem EE(A:aW):det 2 A=A 0 0*A 1 1-A 1 0*A 0 1:=by simp[det,aE,tq,jn,skip];grind
theorem pj(n:Nat)(c:Int)(A:aW):det n (fun i j=>c*A i j)=c^n*det n A:=by
 induction n generalizing A with
 | zero=>simp[det]
 | succ n ih =>
  simp only[det];rw[<-dE];refine aK fun j _=>?_;rw[show jn (fun i j=>c*A i j) j=fun i k=>c*jn A j i k from rfl,ih,eY];grind
def bar(prev:Int)(A:aW):aW:=fun i j=>B4 A i j/prev
def AE(prev:Int)(A:aW):Prop:=∀(l:Nat) (ρ γ:Nat->Nat),prev^l∣det (l+1) (fun i j=>A (ρ i) (γ j))
theorem AE.one(A:aW):AE 1 A:=fun l ρ γ=>by rw[Int.one_pow];exact Int.one_dvd _
def jB(ρ:Nat->Nat):Nat->Nat
 | 0=>0
 | i+1=>ρ i+1
theorem AE.exact{prev:Int}{A:aW}(h:AE prev A)(i j:Nat):prev*bar prev A i j=B4 A i j:=by
 have h1:=h 1 (jB fun _=>i) (jB fun _=>j);rw[EE,eY,Int.pow_zero,eg]at h1;exact iO h1
theorem yK{prev:Int}{A:aW}(h:AE prev A)(ha:A 0 0≠0)(l:Nat)(ρ γ:Nat->Nat) :
  prev^(l+1)*det (l+1) (fun i j=>bar prev A (ρ i) (γ j))=A 0 0^l*det (l+2) (fun i j=>A (jB ρ i) (jB γ j)):=by
 have h1:=HE (fun i j=>A (jB ρ i) (jB γ j)) (l+1);rw[<-pj,bF (B:=B4 (fun i j=>A (jB ρ i) (jB γ j))) (fun i j _ _=>by
  show prev*bar prev A (ρ i) (γ j)=_;rw[h.exact];rfl)]
 simp only[jB]at h1;rw[eY,cF (A 0 0^l),fK]at h1;exact dk ha h1
theorem AE.bar{prev:Int}{A:aW}(h:AE prev A)(hp:prev≠0)(ha:A 0 0≠0):AE (A 0 0) (bar prev A):=by
 intro l ρ γ;have h1:=yK h ha l ρ γ;obtain⟨q,hq⟩:=h (l+1) (jB ρ) (jB γ);refine⟨q,?_⟩;rw[hq]at h1;have hp':prev^(l+1)≠0:=Int.pow_ne_zero hp;refine dk hp' ?_;rw[h1];grind
def up(k:Nat)(ρ:Nat->Nat)(i:Nat):Nat:=if i<k then i else k+ρ (i-k)
def cP(A:aW)(k:Nat):aW:=fun i j=>det (k+1) (fun a b=>A (up k (fun _=>i) a) (up k (fun _=>j) b))
theorem DV(ρ:Nat->Nat)(i:Nat):up 0 ρ i=ρ i:=by simp[up]
theorem tV(k:Nat)(ρ:Nat->Nat)(i:Nat):up k (jB ρ) i=up (k+1) ρ i:=by
 unfold up;by_cases h:i<k
 ·rw[if_pos h,if_pos om]
 ·rw[if_neg h];by_cases h2:i<k+1
  ·rw[if_pos h2,(om:i-k=0)];simp[jB];omega
  ·rw[if_neg h2,(om:i-k=(i-(k+1))+1)];simp only[jB];omega
theorem nm(k i:Nat)(h:i<k+1):up k (fun _=>0) i=i:=by
 unfold up;split
 ·rfl
 ·show k+0=i;omega
theorem iK(A:aW)(i j:Nat):cP A 0 i j=A i j:=by
 unfold cP;rw[J4];simp[up]
theorem c8(A:aW)(k:Nat):cP A k 0 0=det (k+1) A:=by
 unfold cP;exact bF fun a b ha hb=>by rw[nm k a ha,nm k b hb]
theorem tj{A:aW}{k:Nat}(h:∀(l:Nat) (ρ γ:Nat->Nat),det (l+1) (fun i j=>cP A k (ρ i) (γ j))=det k A^l*det (k+l+1) (fun i j=>A (up k ρ i) (up k γ j)))(i j:Nat) :
  B4 (cP A k) i j=det k A*cP A (k+1) i j:=by
 have h1:=h 1 (jB fun _=>i) (jB fun _=>j);rw[EE,eY,Int.pow_zero,eg]at h1;simp only[jB]at h1;simp only[B4];rw[h1];unfold cP;congr 1;exact bF fun a b _ _=>by rw[tV,tV]
theorem pI{A:aW}:∀{k:Nat},(∀j,j<=k->det j A≠0)->∀(l:Nat) (ρ γ:Nat->Nat),
  det (l+1) (fun i j=>cP A k (ρ i) (γ j))=det k A^l*det (k+l+1) (fun i j=>A (up k ρ i) (up k γ j))
 | 0,_,l,ρ,γ=>by
  rw[show det 0 A=1 from rfl,Int.one_pow,eg,aF];exact bF fun i j _ _=>by rw[iK,DV,DV]
 | k+1,hd,l,ρ,γ=>by
  have ih:=pI (k:=k) (fun j hj=>hd j om);have hk:=hd k om;have hk1:=hd (k+1) (ah _);have hD:AE (det k A) (cP A k):=fun l ρ γ=>⟨_,ih l ρ γ⟩;have h00:cP A k 0 0≠0:=by rw[c8];exact hk1
  have hb:∀i j,bar (det k A) (cP A k) i j=cP A (k+1) i j:=fun i j=>by
   unfold bar;rw[tj ih,cV _ hk]
  have h1:=yK hD h00 l ρ γ;rw[bF (B:=fun i j=>cP A (k+1) (ρ i) (γ j)) (fun i j _ _=>hb _ _),ih (l+1) (jB ρ) (jB γ),c8]at h1;have h2:det k A^(l+1)≠0:=Int.pow_ne_zero hk;refine dk h2 ?_;have h3:det (k+(l+1)+1) (fun i j=>A (up k (jB ρ) i) (up k (jB γ) j))=det (k+1+l+1) (fun i j=>A (up (k+1) ρ i) (up (k+1) γ j)):=by
   rw[(om:k+(l+1)+1=k+1+l+1)]
   exact bF fun i j _ _=>by rw[tV,tV]
  rw[h1,h3,Int.mul_left_comm]
theorem GH{A:aW}{k:Nat}(hd:∀j,j<=k->det j A≠0)(i j:Nat):B4 (cP A k) i j=det k A*cP A (k+1) i j:=tj (pI hd) i j
theorem ju{A:aW}{k:Nat}(hd:∀j,j<=k->det j A≠0)(i j:Nat):cP A k 0 0*cP A k (i+1) (j+1)-cP A k (i+1) 0*cP A k 0 (j+1)=det k A*cP A (k+1) i j:=GH hd i j
theorem GG{A:aW}{n k:Nat}(hk:k<n)(hd:∀j,j<=k->det j A≠0)(h0:∀i,i<n-k->cP A k i 0=0):det n A=0:=by
 have h1:=pI hd (n-k-1) id id;have h4:det (n-k-1+1) (fun i j=>cP A k (id i) (id j))=0:=ro _ om (fun i hi=>h0 i om);rw[h4,(om:k+(n-k-1)+1=n)]at h1
 have h2:det k A^(n-k-1)≠0:=Int.pow_ne_zero (hd k (ah _));have h3:det n (fun i j=>A (up k id i) (up k id j))=det n A:=bF fun i j _ _=>by
  have e:∀i,up k id i=i:=fun i=>by unfold up;split<;>simp;omega
  rw[e,e]
 rw[h3]at h1;rcases jI.1 h1.symm with h|h
 ·exact absurd h h2
 ·exact h
def dU(i j a:Nat):Nat:=if a=i then j else if a=j then i else a
theorem zp{n i k:Nat}(A:aW)(hi:i<n)(hk:k<n)(hik:i≠k):det n (fun a b=>A (dU i k a) b)=- det n A:=by
 rw[<-Hx A hi hk hik];refine bF fun a b _ _=>?_;simp only[dU,setRow];by_cases h1:a=i
 ·subst h1;simp[hik]
 ·by_cases h2:a=k
  ·subst h2;simp[h1]
  ·simp[h1,h2]
theorem oV{n i k:Nat}(A:aW)(hi:i<n)(hk:k<n)(hik:i≠k):det n (fun a b=>A a (dU i k b))=- det n A:=by
 rw[<-Ac A hi hk hik];refine bF fun a b _ _=>?_;simp only[dU,bK];by_cases h1:b=i
 ·subst h1;simp[hik]
 ·by_cases h2:b=k
  ·subst h2;simp[h1]
  ·simp[h1,h2]
theorem uV{n i k:Nat}(A:aW)(hi:n<=i)(hk:n<=k):det n (fun a b=>A (dU i k a) b)=det n A :=
 bF fun a b ha _=>by rw[show dU i k a=a by unfold dU;rw[if_neg om,if_neg om]]
theorem tW{k p:Nat}(A:aW)(hp:k<=p)(i j:Nat):cP (fun a b=>A (dU k p a) b) k i j=cP A k (dU 0 (p-k) i) j:=by
 unfold cP;refine bF fun a b ha hb=>?_;have e:dU k p (up k (fun _=>i) a)=up k (fun _=>dU 0 (p-k) i) a:=by
  unfold up dU;by_cases h:a<k
  ·simp only[h,if_true];rw[if_neg om,if_neg om]
  ·simp only[h,if_false];by_cases h1:i=0
   ·rw[if_pos om,if_pos h1];omega
   ·by_cases h2:i=p-k
    ·rw[if_neg om,if_pos om,if_neg h1,if_pos h2];omega
    ·rw[if_neg om,if_neg om,if_neg h1,if_neg h2]
 show A (dU k p (up k (fun _=>i) a)) _=_;rw[e]
structure mZ(A:aW)(n:Nat)(σ:Nat->Nat)(neg:Bool)(k:Nat):Prop where
 lead:∀j,j<=k->det j (fun a b=>A (σ a) b)≠0
 sign:det n (fun a b=>A (σ a) b)=if neg then-det n A else det n A
 row:∀i,i<n->σ i<n
theorem mZ.init(A:aW)(n:Nat):mZ A n id false 0:=⟨fun j hj=>by rw[(om:j=0)];simp[det],sm,fun i h=>h⟩
theorem mZ.swap{A:aW}{n:Nat}{σ:Nat->Nat}{neg:Bool}{k p:Nat}(h:mZ A n σ neg k)(hk:k<p)(hp:p<n):mZ A n (fun a=>σ (dU k p a)) (!neg) k:=by
 refine⟨fun j hj=>?_,?_,fun i hi=>h.row _ (by unfold dU;split<;>(try split)<;>omega)⟩
 ·rw[uV (fun a b=>A (σ a) b) om om];exact h.lead j hj
 ·rw[zp (fun a b=>A (σ a) b) om hp om,h.sign]
  cases neg<;>simp
theorem mZ.step{A:aW}{n:Nat}{σ:Nat->Nat}{neg:Bool}{k:Nat}(h:mZ A n σ neg k)(h0:cP (fun a b=>A (σ a) b) k 0 0≠0):mZ A n σ neg (k+1) :=
 ⟨fun j hj=>by
  rcases aI j (k+1)with h1|h1
  ·exact h.lead j om
  ·rw[(om:j=k+1),<-c8];exact h0,h.sign,h.row⟩
theorem mZ.zero{A:aW}{n:Nat}{σ:Nat->Nat}{neg:Bool}{k:Nat}(h:mZ A n σ neg k)(hk:k<n)(h0:∀i,i<n-k->cP (fun a b=>A (σ a) b) k i 0=0):det n A=0:=by
 have h1:=GG hk h.lead h0;rw[h.sign]at h1
 cases neg<;>simp at h1<;>omega
structure Pd(A:aW)(n:Nat):Prop where
 sym:∀a b,a<n->b<n->A a b=A b a
 pos:∀k,k<=n->0<det k A
theorem Pd.ne{A:aW}{n:Nat}(h:Pd A n){k:Nat}(hk:k<=n):∀j,j<=k->det j A≠0:=fun j hj=>by have:=h.pos j om;omega
theorem Pd.stg_sym{A:aW}{n:Nat}(h:Pd A n):∀(k i j:Nat),k+i<n->k+j<n->cP A k i j=cP A k j i
 | 0,i,j,hi,hj=>by rw[iK,iK];exact h.sym i j om om
 | k+1,i,j,hi,hj=>by
  have ih:=h.stg_sym k;have e1:=ju (h.ne (k:=k) om) i j;have e2:=ju (h.ne (k:=k) om) j i;rw[ih (i+1) (j+1) om om,ih (i+1) 0 om om,ih 0 (j+1) om om]at e1;have h0:=h.pos k om;refine dk (om:det k A≠0) ?_
  rw[<-e1,<-e2];grind
theorem Pd.stg_rec{A:aW}{n:Nat}(h:Pd A n){k i:Nat}(hi:k+i+1<n):det (k+1) A*cP A k (i+1) (i+1)=det k A*cP A (k+1) i i+cP A k (i+1) 0*cP A k (i+1) 0:=by
 have e:=ju (h.ne (k:=k) om) i i;rw[h.stg_sym k 0 (i+1) om om,c8]at e;omega
theorem Pd.stg_rec2{A:aW}{n:Nat}(h:Pd A n){k i j:Nat}(hi:k+i+1<n)(hj:k+j+1<n):det (k+1) A*cP A k (i+1) (j+1)=det k A*cP A (k+1) i j+cP A k (i+1) 0*cP A k (j+1) 0:=by
 have e:=ju (h.ne (k:=k) om) i j;rw[h.stg_sym k 0 (j+1) om om,c8]at e;omega
theorem kJ(x:Int):0<=x*x:=by
 rcases Int.le_total 0 x with h|h
 ·exact du h h
 ·have:=du (om:0<=-x) (om:0<=-x);rw[Int.neg_mul_neg]at this;exact this
theorem vn{a b:Int}(ha:0<a)(h:0<a*b):0<b:=by
 rcases Cl 0 b with hb|hb
 ·exact hb
 ·have:=cX hb (cu ha);omega
theorem Pd.stg_pos{A:aW}{n:Nat}(h:Pd A n):∀(i k:Nat),k+i<n->0<cP A k i i
 | 0,k,hk=>by rw[c8];exact h.pos _ om
 | i+1,k,hk=>by
  have e:=h.stg_rec (k:=k) (i:=i) om;have h1:=h.stg_pos i (k+1) om;have h2:=lL (h.pos k om) h1;have h3:=kJ (cP A k (i+1) 0);have h4:0<det (k+1) A*cP A k (i+1) (i+1):=om
  exact vn (h.pos (k+1) om) h4
theorem Pd.stg_up{A:aW}{n:Nat}(h:Pd A n):∀(k i:Nat),k+i<n->cP A k i i<=det k A*A (k+i) (k+i)
 | 0,i,hi=>by rw[iK];simp[det]
 | k+1,i,hi=>by
  have e:=h.stg_rec (k:=k) (i:=i) om;have ih:=h.stg_up k (i+1) om;have h0:=h.pos k om;have h1:=h.pos (k+1) om;have h3:=kJ (cP A k (i+1) 0);have h4:=cX ih (cu h1);refine qa ?_ h0;rw[(om:k+1+i=k+(i+1))]
  have h5:det (k+1) A*(det k A*A (k+(i+1)) (k+(i+1)))=det k A*(det (k+1) A*A (k+(i+1)) (k+(i+1))):=by grind
  omega
theorem Pd.lam_sq{A:aW}{n:Nat}(h:Pd A n){k i:Nat}(hi:k+i+1<n):cP A k (i+1) 0*cP A k (i+1) 0<=det (k+1) A*cP A k (i+1) (i+1):=by
 have e:=h.stg_rec (k:=k) (i:=i) om;have h2:=lL (h.pos k om) (h.stg_pos i (k+1) om);omega
theorem Pd.hadamard{A:aW}{n:Nat}(h:Pd A n){k:Nat}(hk:k<n):det (k+1) A<=det k A*A k k:=by
 have:=h.stg_up k 0 om
 rwa [c8,dd]at this
theorem HW{a b m u v:Int}(ha:0<a)(hm:m*m<=a*b):0<=a*(v*v)+b*(u*u)-2*(m*(u*v)):=by
 have h1:a*(a*(v*v)+b*(u*u)-2*(m*(u*v)))=(a*v-m*u)*(a*v-m*u)+(a*b-m*m)*(u*u):=by grind
 have h2:=kJ (a*v-m*u);have h3:=du (om:0<=a*b-m*m) (kJ u)
 exact Int.nonneg_of_mul_nonneg_right om ha
theorem J5{d a b m u v:Int}(hd:0<=d)(ha:0<a)(hm:m*m<=a*b):(d*m+u*v)*(d*m+u*v)<=(d*a+u*u)*(d*b+v*v):=by
 have h1:=HW (u:=u) (v:=v) ha hm;have h2:=du hd h1;have h3:=du (du hd hd) (om:0<=a*b-m*m)
 have h4:(d*a+u*u)*(d*b+v*v)-(d*m+u*v)*(d*m+u*v)=d*d*(a*b-m*m)+d*(a*(v*v)+b*(u*u)-2*(m*(u*v))):=by grind
 omega
theorem Pd.cs{A:aW}{n:Nat}(h:Pd A n):∀(i j k:Nat),k+i<n->k+j<n->cP A k i j*cP A k i j<=cP A k i i*cP A k j j
 | 0,0,k,_,_=>Int.le_refl _
 | 0,j+1,k,_,hj=>by
  rw[h.stg_sym k 0 (j+1) om om,c8];exact h.lam_sq om
 | i+1,0,k,hi,_=>by
  rw[c8,cF (cP A k (i+1) (i+1))];exact h.lam_sq om
 | i+1,j+1,k,hi,hj=>by
  have ih:=h.cs i j (k+1) om om;have e1:=h.stg_rec (k:=k) (i:=i) om;have e2:=h.stg_rec (k:=k) (i:=j) om;have e3:=h.stg_rec2 (k:=k) (i:=i) (j:=j) om om;have h0:=h.pos k om;have h1:=h.pos (k+1) om;have h2:=J5 (u:=cP A k (i+1) 0) (v:=cP A k (j+1) 0) (cu h0) (h.stg_pos i (k+1) om) ih;rw[<-e1,<-e2,<-e3]at h2;have h3:0<det (k+1) A*det (k+1) A:=lL h1 h1;refine qa ?_ h3;have h4:det (k+1) A*det (k+1) A*(cP A k (i+1) (j+1)*cP A k (i+1) (j+1))=det (k+1) A*cP A k (i+1) (j+1)*(det (k+1) A*cP A k (i+1) (j+1)):=by grind
  have h5:det (k+1) A*det (k+1) A*(cP A k (i+1) (i+1)*cP A k (j+1) (j+1))=det (k+1) A*cP A k (i+1) (i+1)*(det (k+1) A*cP A k (j+1) (j+1)):=by grind
  omega
theorem Pd.cs0{A:aW}{n:Nat}(h:Pd A n){i j:Nat}(hi:i<n)(hj:j<n):A i j*A i j<=A i i*A j j:=by
 have:=h.cs i j 0 om om;simpa only[iK]using this
theorem Pd.diag{A:aW}{n:Nat}(h:Pd A n){i:Nat}(hi:i<n):0<A i i:=by
 have:=h.stg_pos i 0 om
 rwa [iK]at this
def jW(A:aW)(i j:Nat):Int:=cP A j (i-j) 0
def gE(A:aW)(i j:Nat):Prop:=2*(jW A i j).natAbs<=det (j+1) A
def jc(A:aW)(i:Nat):Prop:=3*(det i A*det i A)<=4*(det (i-1) A*det (i+1) A+jW A i (i-1)*jW A i (i-1))
theorem Jt{x d:Int}(h:2*(x.natAbs:Int)<=d):x*x<=d*d:=by
 have h1:((x.natAbs:Nat):Int)*x.natAbs=x*x:=by rw[<-ck,oK]
 rw[<-h1];exact cY om om om om
theorem xu{x d:Int}(h:2*(x.natAbs:Int)<=d):4*(x*x)<=d*d:=by
 have h1:((x.natAbs:Nat):Int)*x.natAbs=x*x:=by rw[<-ck,oK]
 have h2:(2*(x.natAbs:Int))*(2*x.natAbs)<=d*d:=cY h h om om;have h3:(2*(x.natAbs:Int))*(2*x.natAbs)=4*((x.natAbs:Int)*x.natAbs):=by grind
 omega
theorem Pd.sized_up{A:aW}{n:Nat}(h:Pd A n){D:Int}{r:Nat}(hr:r<n)(hD:∀k,k<=r->det (k+1) A<=D)(hs:∀j,j<r->gE A r j):∀(i k:Nat),k+i=r->4*cP A k i i<=det k A*((i+4:Nat)*D)
 | 0,k,hk=>by
  rw[c8];have h1:=hD k om;have h2:=h.pos k om;have h3:=h.pos (k+1) om;have h4:=cj (om:1<=det k A) (om:0<=D)
  have h5:det k A*(((0+4:Nat):Int)*D)=4*(det k A*D):=by
   rw[show((0+4:Nat):Int)=4 from rfl];grind
  omega
 | i+1,k,hk=>by
  have e:=h.stg_rec (k:=k) (i:=i) om;have ih:=h.sized_up hr hD hs i (k+1) om;have h0:=h.pos k om;have h1:=h.pos (k+1) om;have hl:=xu (hs k om);unfold jW at hl;rw[(om:r-k=i+1)]at hl
  have h2:=hD k om;have h3:=cX ih (cu h0);refine qa ?_ h1;have h4:det k A*(det (k+1) A*((i+4:Nat)*D))+det (k+1) A*det (k+1) A<=det (k+1) A*(det k A*((i+1+4:Nat)*D)):=by
   have h5:det (k+1) A*(det k A*((i+1+4:Nat)*D))=det k A*(det (k+1) A*((i+4:Nat)*D))+det (k+1) A*(det k A*D):=by
    rw[show((i+1+4:Nat):Int)=((i+4:Nat):Int)+1 by omega];grind
   have h6:det (k+1) A*det (k+1) A<=det (k+1) A*(det k A*D):=by
    refine cX ?_ (cu h1);have h7:=cj (om:1<=det k A) (om:0<=D)
    omega
   omega
  have h8:det k A*(4*cP A (k+1) i i)=4*(det k A*cP A (k+1) i i):=by grind
  have h9:det (k+1) A*(4*cP A k (i+1) (i+1))=4*(det (k+1) A*cP A k (i+1) (i+1)):=by grind
  omega
theorem Pd.sized_norm4{A:aW}{n:Nat}(h:Pd A n){D:Int}{r:Nat}(hr:r<n)(hD:∀k,k<=r->det (k+1) A<=D)(hs:∀j,j<r->gE A r j):4*A r r<=(r+4:Nat)*D:=by
 have:=h.sized_up hr hD hs r 0 om;rw[iK]at this;simpa [det]using this
theorem Pd.sized_norm{A:aW}{n:Nat}(h:Pd A n){D:Int}{r:Nat}(hr:r<n)(hD:∀k,k<=r->det (k+1) A<=D)(hs:∀j,j<r->gE A r j):A r r<=(r+1:Nat)*D:=by
 have h1:=h.sized_norm4 hr hD hs;have h2:det 1 A<=D:=hD 0 om;have h3:=h.pos 1 om;have h4:((r+4:Nat):Int)*D<=((4*(r+1):Nat):Int)*D:=cj om om;have h5:((4*(r+1):Nat):Int)*D=4*(((r+1:Nat):Int)*D):=by
  rw[ck];grind
 omega
theorem pX(k c i:Nat):up k (fun _=>c) i=if i<k then i else k+c:=rfl
def kt(A:aW)(i j:Nat)(q:Int):aW:=fun a b=>A a b+(if a=i then q*A j b else 0)+(if b=i then q*A a j else 0)+(if a=i/\b=i then q*q*A j j else 0)
theorem pp(A:aW){i j a b:Nat}{q:Int}(ha:a≠i)(hb:b≠i):kt A i j q a b=A a b:=by simp[kt,ha,hb]
theorem B8(A:aW){i j b:Nat}{q:Int}(hb:b≠i):kt A i j q i b=A i b+q*A j b:=by simp[kt,hb]
theorem jm{A:aW}{i j:Nat}{q:Int}(hj:j<i)(k:Nat):det k (kt A i j q)=det k A:=by
 rcases aI i k with hk|hk
 ·have h1:=ka A (n:=k) (i:=i) (k:=j) hk om om 1 q;have h2:=rt (setRow A i (fun b=>1*A i b+q*A j b)) (n:=k) (i:=i) (k:=j) hk om om 1 q;rw[h1]at h2;rw[eg,eg]at h2;rw[<-h2];refine bF fun a b _ _=>?_;simp only[kt,bK,setRow];have hji:j≠i:=om
  by_cases h3:a=i<;>by_cases h4:b=i<;>simp[h3,h4]<;>grind
 ·exact bF fun a b ha hb=>pp A om om
theorem tG{A:aW}{i j:Nat}{q:Int}{i' j':Nat}(hi:i'<i)(hj':j'<=i'):jW (kt A i j q) i' j'=jW A i' j':=by
 unfold jW cP;refine bF fun a b ha hb=>?_;exact pp A (by rw[pX];split<;>omega) (by rw[pX];split<;>omega)
theorem B9{A:aW}{i j:Nat}{q:Int}{j':Nat}(hj:j<j')(hj':j'<i):jW (kt A i j q) i j'=jW A i j':=by
 have h1:=ka (fun a b=>A (up j' (fun _=>i-j') a) (up j' (fun _=>0) b)) (n:=j'+1) (i:=j') (k:=j) om om om 1 q;rw[eg]at h1;unfold jW cP;rw[<-h1];refine bF fun a b ha hb=>?_;simp only[setRow];have hb':up j' (fun _=>0) b≠i:=by rw[pX];split<;>omega
 by_cases e:a=j'
 ·subst e;have h2:up a (fun _=>i-a) a=i:=by rw[pX];rw[if_neg om];omega
  have h3:up a (fun _=>i-a) j=j:=by rw[pX];rw[if_pos om]
  rw[h2,h3,B8 A hb'];simp
 ·have h2:up j' (fun _=>i-j') a=a:=by rw[pX];rw[if_pos om]
  rw[h2,pp A om hb',if_neg e]
theorem Ca{A:aW}{i j:Nat}{q:Int}(hj:j<i):jW (kt A i j q) i j=jW A i j+q*det (j+1) A:=by
 have h1:=od (fun a b=>A (up j (fun _=>i-j) a) (up j (fun _=>0) b)) (n:=j+1) (i:=j) om 1 q (fun b=>A i (up j (fun _=>0) b)) (fun b=>A j (up j (fun _=>0) b));unfold jW cP;have e1:det (j+1) (setRow (fun a b=>A (up j (fun _=>i-j) a) (up j (fun _=>0) b)) j (fun b=>A i (up j (fun _=>0) b)))=det (j+1) (fun a b=>A (up j (fun _=>i-j) a) (up j (fun _=>0) b)):=by
  refine bF fun a b ha hb=>?_;simp only[setRow];by_cases e:a=j
  ·subst e;rw[if_pos rfl];congr 1;rw[pX];rw[if_neg om];omega
  ·rw[if_neg e]
 have e2:det (j+1) (setRow (fun a b=>A (up j (fun _=>i-j) a) (up j (fun _=>0) b)) j (fun b=>A j (up j (fun _=>0) b)))=det (j+1) A:=by
  refine bF fun a b ha hb=>?_;simp only[setRow];rw[nm j b hb];by_cases e:a=j
  ·subst e;rw[if_pos rfl]
  ·rw[if_neg e];congr 1;rw[pX];rw[if_pos om]
 rw[e1,e2,eg]at h1;rw[<-h1];refine bF fun a b ha hb=>?_;simp only[setRow];have hb':up j (fun _=>0) b≠i:=by rw[pX];split<;>omega
 by_cases e:a=j
 ·subst e;have h2:up a (fun _=>i-a) a=i:=by rw[pX];rw[if_neg om];omega
  rw[h2,B8 A hb',if_pos rfl];simp
 ·have h2:up j (fun _=>i-j) a=a:=by rw[pX];rw[if_pos om]
  rw[h2,pp A om hb',if_neg e]
def xh(A:aW)(i:Nat):aW:=fun a b=>A (dU (i-1) i a) (dU (i-1) i b)
theorem mw{A:aW}{i k:Nat}(hi:0<i)(hk:k≠i):det k (xh A i)=det k A:=by
 rcases aI i k with h|h
 ·have h1:=zp (fun a b=>A a (dU (i-1) i b)) (n:=k) (i:=i-1) (k:=i) om h om;have h2:=oV A (n:=k) (i:=i-1) (k:=i) om h om;show det k (fun a b=>(fun a b=>A a (dU (i-1) i b)) (dU (i-1) i a) b)=_;rw[h1,h2];omega
 ·refine bF fun a b ha hb=>?_;have e:∀a,a<k->dU (i-1) i a=a:=fun a ha=>by unfold dU;rw[if_neg om,if_neg om]
  simp only[xh];rw[e a ha,e b hb]
theorem ti{A:aW}{i:Nat}(hi:0<i):det i (xh A i)=cP A (i-1) 1 1:=by
 unfold cP;rw[(om:i-1+1=i)]
 refine bF fun a b ha hb=>?_;have e:∀a,a<i->dU (i-1) i a=up (i-1) (fun _=>1) a:=fun a ha=>by
  rw[pX];unfold dU;by_cases h:a=i-1
  ·rw[if_pos h,if_neg om];omega
  ·rw[if_neg h,if_neg om,if_pos om]
 simp only[xh];rw[e a ha,e b hb]
theorem Pd.swap_lead{A:aW}{n:Nat}(h:Pd A n){i:Nat}(h0:0<i)(hi:i<n):det i A*det i (xh A i)=det (i-1) A*det (i+1) A+jW A i (i-1)*jW A i (i-1):=by
 have e:=h.stg_rec (k:=i-1) (i:=0) om;rw[ti h0];unfold jW;rw[(om:i-(i-1)=1)]
 rw[(om:i-1+1=i),aF,c8]at e
 exact e
theorem Pd.add{A:aW}{n:Nat}(h:Pd A n){i j:Nat}{q:Int}(hj:j<i)(hi:i<n):Pd (kt A i j q) n:=by
 refine⟨fun a b ha hb=>?_,fun k hk=>by rw[jm hj];exact h.pos k hk⟩
 have e1:=h.sym a b ha hb;have e2:=h.sym j a om ha;have e3:=h.sym j b om hb;simp only[kt];by_cases h1:a=i<;>by_cases h2:b=i<;>simp[h1,h2]<;>grind
theorem Pd.swap{A:aW}{n:Nat}(h:Pd A n){i:Nat}(h0:0<i)(hi:i<n):Pd (xh A i) n:=by
 have hs:∀a,a<n->dU (i-1) i a<n:=fun a ha=>by unfold dU;split<;>(try split)<;>omega
 refine⟨fun a b ha hb=>h.sym _ _ (hs a ha) (hs b hb),fun k hk=>?_⟩;by_cases e:k=i
 ·subst e;rw[ti h0];exact h.stg_pos 1 (k-1) om
 ·rw[mw h0 e];exact h.pos k hk
theorem yb{A:aW}{n:Nat}(h:Pd A n){i:Nat}(h0:0<i)(hi:i<n)(hl:¬jc A i):4*det i (xh A i)<3*det i A:=by
 unfold jc at hl;rw[<-h.swap_lead h0 hi]at hl;have hp:=h.pos i om;have h1:det i A*(4*det i (xh A i))<det i A*(3*det i A):=by
  have e1:det i A*(4*det i (xh A i))=4*(det i A*det i (xh A i)):=by grind
  have e2:det i A*(3*det i A)=3*(det i A*det i A):=by grind
  omega
 exact Int.lt_of_mul_lt_mul_left h1 (cu hp)
open Classical in
noncomputable def mS(p:Nat->Prop):Nat->Nat
 | 0=>0
 | w+1=>if (∀c,c<=w->p c)then w+1 else mS p w
theorem yB(p:Nat->Prop):∀w,mS p w<=w
 | 0=>by simp[mS]
 | w+1=>by have:=yB p w;simp only[mS];split<;>omega
theorem yC{p:Nat->Prop}{k:Nat}(h:∀c,c<k->p c):∀w,k<=w->k<=mS p w
 | 0,hk=>om
 | w+1,hk=>by
  simp only[mS];split
  ·exact hk
  ·rename_i hn;rcases aI w k with h1|h1
   ·exact absurd (fun c hc=>h c om) hn
   ·exact yC h w h1
theorem vS{p:Nat->Prop}{k:Nat}(h:¬p k):∀w,mS p w<=k
 | 0=>by simp[mS]
 | w+1=>by
  simp only[mS];split
  ·rename_i hn;rcases aI w k with h1|h1
   ·omega
   ·exact absurd (hn k h1) h
  ·exact vS h w
def chk(A:aW)(n c:Nat):Prop:=(c%(n+1)<c/(n+1)->gE A (c/(n+1)) (c/(n+1)-1-c%(n+1)))/\(c%(n+1)=c/(n+1)->0<c/(n+1)->jc A (c/(n+1)))
theorem H3{n i t:Nat}(ht:t<n+1):(i*(n+1)+t)/(n+1)=i:=by
 rw[aS,Nat.mul_add_div om,Nat.div_eq_of_lt ht];omega
theorem H2{n i t:Nat}(ht:t<n+1):(i*(n+1)+t)%(n+1)=t:=by
 rw[aS,Nat.mul_add_mod,Nat.mod_eq_of_lt ht]
theorem H5{A:aW}{n i t:Nat}(ht:t<n+1):chk A n (i*(n+1)+t)↔(t<i->gE A i (i-1-t))/\(t=i->0<i->jc A i):=by
 unfold chk;rw[H3 ht,H2 ht]
def lA(A:aW)(i:Nat):Prop:=(∀r,r<i->∀j,j<r->gE A r j)/\∀r,0<r->r<i->jc A r
theorem Fz{A:aW}{n i t:Nat}(hr:lA A i)(hs:∀j,i<j+1+t->j<i->gE A i j)(ht:t<=i)(hi:i<n){c:Nat}(hc:c<i*(n+1)+t):chk A n c:=by
 have h1:c/(n+1)<=i:=by
  rcases aI i (c/(n+1))with h|h
  ·have h2:=Nat.div_mul_le_self c (n+1);have h3:(i+1)*(n+1)<=c/(n+1)*(n+1):=bY _ h;rw[ia]at h3;omega
  ·exact h
 rcases aI (c/(n+1)) i with h|h
 ·refine⟨fun h2=>hr.1 _ h _ om,fun h2 h3=>hr.2 _ h3 h⟩
 ·have e:c/(n+1)=i:=om
  have h2:c%(n+1)<t:=by
   have:=gS c (n+1);rw[e,aS]at this;omega
  unfold chk;rw[e];exact⟨fun h3=>hs _ om om,fun h3=>om⟩
def jX:Nat->(Nat->Nat)->Nat
 | 0,_=>1
 | n+1,f=>jX n f*f n
theorem q8{n:Nat}{f g:Nat->Nat}(h:∀i,i<n->f i=g i):jX n f=jX n g:=by
 induction n with
 | zero=>rfl
 | succ n ih=>simp only[jX];rw[ih fun i hi=>h i om,h n om]
theorem CW{n:Nat}{f:Nat->Nat}(h:∀i,i<n->0<f i):0<jX n f:=by
 induction n with
 | zero=>simp[jX]
 | succ n ih=>simp only[jX];exact Nat.mul_pos (ih fun i hi=>h i om) (h n om)
theorem Bv{n:Nat}{f g:Nat->Nat}{i:Nat}(hi:i<n)(h:∀k,k<n->k≠i->g k=f k)(hl:4*g i<=3*f i):4*jX n g<=3*jX n f:=by
 induction n with
 | zero=>omega
 | succ n ih =>
  simp only[jX];rcases aI i n with h1|h1
  ·rw[h n om om,<-gA,<-gA];exact bY _ (ih h1 fun k hk=>h k om)
  ·obtain rfl:i=n:=om
   rw[q8 (f:=g) (g:=f) fun k hk=>h k om om,Nat.mul_left_comm,Nat.mul_left_comm 3];exact a9 _ hl
theorem Fe{n B:Nat}{f:Nat->Nat}(h:∀i,i<n->f i<=B):jX n f<=B^n:=by
 induction n with
 | zero=>simp[jX]
 | succ n ih=>simp only[jX,ct];exact bN (ih fun i hi=>h i om) (h n om)
def pot(A:aW)(n:Nat):Nat:=jX n (fun k=>(det k A).toNat)
noncomputable def iL(A:aW)(n:Nat):Nat:=mS (chk A n) (n*(n+1))
noncomputable def zS(A:aW)(n:Nat):Nat:=pot A n*(n*(n+1)+1)+(n*(n+1)-iL A n)
theorem q9(A:aW)(n:Nat):iL A n<=n*(n+1):=yB _ _
theorem Pd.pot_pos{A:aW}{n:Nat}(h:Pd A n):0<pot A n:=CW fun k hk=>by have:=h.pos k om;omega
theorem Ec{A:aW}{n i j:Nat}{q:Int}(hj:j<i):pot (kt A i j q) n=pot A n:=q8 fun k _=>by rw[jm hj]
theorem Bw{A:aW}{n i:Nat}(h:Pd A n)(h0:0<i)(hi:i<n)(hl:¬jc A i):4*pot (xh A i) n<=3*pot A n:=by
 refine Bv hi (fun k _ hk=>by rw[mw h0 hk]) ?_
 have h1:=yb h h0 hi hl;have h2:=(h.swap h0 hi).pos i om;omega
theorem sF{A:aW}{n i j:Nat}{q:Int}(hj:j<i)(hi:i<n)(hr:lA A i)(hs:∀j',j<j'->j'<i->gE A i j')(hb:¬gE A i j)(hq:2*((jW A i j+q*det (j+1) A).natAbs:Int)<=det (j+1) A) :
  iL A n<iL (kt A i j q) n:=by
 have h1:iL A n<=i*(n+1)+(i-1-j):=by
  refine vS ?_ _;rw[H5 om];intro h;have:=h.1 om;rw[(om:i-1-(i-1-j)=j)]at this
  exact hb this
 have hw:i*(n+1)+(i-1-j)+1<=n*(n+1):=by
  have:(i+1)*(n+1)<=n*(n+1):=bY _ hi;rw[ia]at this;omega
 have hr':lA (kt A i j q) i:=by
  refine⟨fun r hr1 j1 hj1=>?_,fun r h0 hr1=>?_⟩
  ·have:=hr.1 r hr1 j1 hj1;unfold gE at *;rw[tG hr1 om,jm hj];exact this
  ·have:=hr.2 r h0 hr1;unfold jc at *;rw[tG hr1 om,jm hj,jm hj,jm hj];exact this
 have h2:i*(n+1)+(i-j)<=iL (kt A i j q) n:=by
  refine yC (fun c hc=>Fz hr' (fun j' h3 h4=>?_) om hi hc) _ om;unfold gE;rw[jm hj];rcases aI j j' with h5|h5
  ·rw[B9 h5 h4];exact hs j' h5 h4
  ·obtain rfl:j'=j:=om
   rw[Ca hj];exact hq
 omega
theorem BD{A:aW}{n i j:Nat}{q:Int}(hj:j<i)(hp:iL A n<iL (kt A i j q) n):zS (kt A i j q) n<zS A n:=by
 unfold zS;rw[Ec hj];have h1:=q9 (kt A i j q) n;omega
theorem yx{A:aW}{n i:Nat}(h:Pd A n)(h0:0<i)(hi:i<n)(hl:¬jc A i):zS (xh A i) n<zS A n:=by
 unfold zS;have h1:=Bw h h0 hi hl;have h2:=h.pot_pos;have h3:(pot (xh A i) n+1)*(n*(n+1)+1)<=pot A n*(n*(n+1)+1):=bY _ om;rw[ia]at h3;omega
theorem FN{x y z:Int}(h:x=y+z):x*x<=2*(y*y)+2*(z*z):=by
 subst h;have:=kJ (y-z);have e:2*(y*y)+2*(z*z)-(y+z)*(y+z)=(y-z)*(y-z):=by grind
 omega
theorem Ly{x d:Int}(h:2*(x.natAbs:Int)<=d):4*(x*x)<=d*d:=by
 have h1:((x.natAbs:Nat):Int)*x.natAbs=x*x:=by rw[<-ck,oK]
 have h2:(2*(x.natAbs:Int))*(2*x.natAbs)<=d*d:=cY h h om om;have h3:(2*(x.natAbs:Int))*(2*x.natAbs)=4*((x.natAbs:Int)*x.natAbs):=by grind
 omega
theorem Pd.q_sq{A:aW}{n:Nat}(h:Pd A n){D:Int}(hD:∀k,k<=n->det k A<=D){i j:Nat}{q:Int}(hj:j<i)(hi:i<n)(hq:2*((jW A i j+q*det (j+1) A).natAbs:Int)<=det (j+1) A):q*q<=3*(D*A i i):=by
 have hd:=h.pos (j+1) om;have hdj:=h.pos j om;have hAi:=h.diag hi;have h1:=h.lam_sq (k:=j) (i:=i-j-1) om;have h2:=h.stg_up j (i-j) om;rw[(om:i-j-1+1=i-j)]at h1
 rw[(om:j+(i-j)=i)]at h2
 have h3:=Ly hq;have h4:=FN (x:=q*det (j+1) A) (y:=jW A i j+q*det (j+1) A) (z:=- jW A i j) om;unfold jW at h3 h4;have h5:det (j+1) A*cP A j (i-j) (i-j)<=det (j+1) A*(det j A*A i i):=cX h2 (cu hd);rw[Int.neg_mul_neg]at h4;have h6:det (j+1) A*(det (j+1) A*(q*q))<=det (j+1) A*(2*(det j A*A i i)+det (j+1) A):=by
  have e1:q*det (j+1) A*(q*det (j+1) A)=det (j+1) A*(det (j+1) A*(q*q)):=by grind
  have h0:=kJ (cP A j (i-j) 0+q*det (j+1) A);have e2:det (j+1) A*(2*(det j A*A i i)+det (j+1) A)=2*(det (j+1) A*(det j A*A i i))+det (j+1) A*det (j+1) A:=by grind
  omega
 have h7:=qa h6 hd;have h8:q*q<=det (j+1) A*(q*q):=by
  have:=cj (om:1<=det (j+1) A) (kJ q)
  omega
 have h9:det j A*A i i<=D*A i i:=cj (hD j om) (cu hAi);have h10:D<=D*A i i:=by
  have hD0:=hD j om;have:=cX (om:1<=A i i) (om:0<=D)
  omega
 have h11:=hD (j+1) om;omega
theorem Pd.add_diag{A:aW}{n:Nat}(h:Pd A n){D:Int}(hD:∀k,k<=n->det k A<=D){i j:Nat}{q:Int}(hj:j<i)(hi:i<n)(hr:lA A i)(hq:2*((jW A i j+q*det (j+1) A).natAbs:Int)<=det (j+1) A) :
  kt A i j q i i<=(2+6*((n:Int)*(D*D)))*A i i:=by
 have h1:=h.q_sq hD hj hi hq;have hAi:=h.diag hi;have hAj:=h.diag (om:j<n)
 have h2:=h.sized_norm (D:=D) (r:=j) om (fun k hk=>hD (k+1) om) (fun j' hj'=>hr.1 j om j' hj');have hD1:=hD 0 om;have hD0:0<D:=by simp only[det]at hD1;omega
 have h3:=HW (u:=q) (v:=1) hAi (h.cs0 hi (om:j<n))
 have e:kt A i j q i i=A i i+2*(A i j*(q*1))+A j j*(q*q):=by
  have:=h.sym i j hi om;simp only[kt];simp;grind
 have h4:A j j*(q*q)<=A j j*(3*(D*A i i)):=cX h1 (cu hAj);have h5:A j j<=n*D:=by
  have:((j+1:Nat):Int)*D<=n*D:=cj om (cu hD0);omega
 have h6:A j j*(3*(D*A i i))<=(n*D)*(3*(D*A i i)):=cj h5 (by have:=lL hD0 hAi;omega)
 have e2:(2+6*((n:Int)*(D*D)))*A i i=2*A i i+2*((n*D)*(3*(D*A i i))):=by grind
 rw[ij]at h3;omega
structure LI(A:aW)(n s:Nat):Prop where
 pd:Pd A n
 lead:∀k,k<=n->det k A<=59049
 pot:4^s*pot A n<=3^s*65536^n
 diag:∀i,i<n->A i i<=2^(4+40*(31*s+iL A n))
theorem mA{a b:Nat}(h:a<=b):(2:Int)^a<=2^b:=by
 have:=cg (n:=2) om h;have h1:((2^a:Nat):Int)<=((2^b:Nat):Int):=Int.ofNat_le.2 this;simpa using h1
theorem LI.init{A:aW}{n:Nat}(h:Pd A n)(hn:n<=5)(hd:∀i,i<n->A i i<=9):LI A n 0:=by
 have hl:∀k,k<=n->det k A<=9^k:=by
  intro k
  induction k with
  | zero=>intro _;simp[det]
  | succ k ih =>
   intro hk;have h1:=h.hadamard (k:=k) om;have h2:=hd k om;have h3:=cY (ih om) h2 (cu (h.diag om)) (by have:=h.pos k om;have:=ih om;omega)
   rw[eY];omega
 have hl':∀k,k<=n->det k A<=59049:=by
  intro k hk;have h1:=hl k hk;have:(9:Int)^k<=59049:=by
   match k,(om:k<=5)with
   | 0,_=>decide
   | 1,_=>decide
   | 2,_=>decide
   | 3,_=>decide
   | 4,_=>decide
   | 5,_=>decide
  omega
 refine⟨h,hl',?_,fun i hi=>?_⟩
 ·simp only[Nat.pow_zero,kg];exact Fe fun k hk=>by have:=hl' k om;omega
 ·have h1:=hd i hi;have h2:=mA (om:4<=4+40*(31*0+iL A n))
  have h3:(2:Int)^4=16:=by decide
  omega
theorem LI.s_le{A:aW}{n s:Nat}(h:LI A n s)(hn:n<=5):s<=200:=by
 rcases aI 200 s with h1|h1
 ·exfalso;have h2:=h.pot;have h3:=h.pd.pot_pos;have h4:65536^n<=65536^5:=cg om hn;have h5:4^s<=3^s*65536^5:=by
   calc
    4^s=4^s*1:=om
    _<=4^s*Go.Proofs.YtdobfmlmenaajaaGreatDoor.pot A n:=a9 _ h3
    _<=3^s*65536^n:=h2
    _<=3^s*65536^5:=a9 _ h4
  obtain⟨t,rfl⟩:∃t,s=200+t:=⟨s-200,om⟩
  have h6:3^t<=4^t:=Nat.pow_le_pow_left om t;have h7:3^200*65536^5<4^200:=by decide
  have h8:3^200*65536^5*3^t<4^200*4^t:=Nat.lt_of_lt_of_le (Nat.mul_lt_mul_of_pos_right h7 (lJ om)) (a9 _ h6);rw[kf,kf]at h5;have h9:3^200*3^t*65536^5=3^200*65536^5*3^t:=by
   rw[gA,aS (3^t),<-gA]
  omega
 ·exact h1
theorem LI.add{A:aW}{n s:Nat}(h:LI A n s)(hn:n<=5){i j:Nat}{q:Int}(hj:j<i)(hi:i<n)(hr:lA A i)(hs:∀j',j<j'->j'<i->gE A i j')(hb:¬gE A i j)(hq:2*((jW A i j+q*det (j+1) A).natAbs:Int)<=det (j+1) A):LI (kt A i j q) n s:=by
 have hp:=sF (n:=n) hj hi hr hs hb hq;refine⟨h.pd.add hj hi,fun k hk=>by rw[jm hj];exact h.lead k hk,by rw[Ec hj];exact h.pot,fun a ha=>?_⟩
 by_cases e:a=i
 ·subst e;have h1:=h.pd.add_diag h.lead hj hi hr hq;have h2:=h.diag a ha;have h3:=h.pd.diag ha;have h4:(2+6*((n:Int)*(59049*59049)))*A a a<=2^40*A a a:=by
   refine cj ?_ (cu h3);have:(2:Int)^40=1099511627776:=by decide
   omega
  have h5:(2:Int)^40*A a a<=2^40*2^(4+40*(31*s+iL A n)):=cX h2 dc
  rw[<-Int.pow_add]at h5;have h6:=mA (om:40+(4+40*(31*s+iL A n))<=4+40*(31*s+iL (kt A a j q) n))
  omega
 ·rw[pp A e e];have h1:=h.diag a ha;have h6:=mA (om:4+40*(31*s+iL A n)<=4+40*(31*s+iL (kt A i j q) n))
  omega
theorem LI.swap{A:aW}{n s:Nat}(h:LI A n s)(hn:n<=5){i:Nat}(h0:0<i)(hi:i<n)(hl:¬jc A i):LI (xh A i) n (s+1):=by
 have hw:iL A n<=30:=by
  have h1:=q9 A n;have h2:n*(n+1)<=5*6:=bN hn om;omega
 refine⟨h.pd.swap h0 hi,fun k hk=>?_,?_,fun a ha=>?_⟩
 ·by_cases e:k=i
  ·subst e;have h1:=yb h.pd h0 hi hl;have h2:=h.lead k hk;have h3:=(h.pd.swap h0 hi).pos k hk;omega
  ·rw[mw h0 e];exact h.lead k hk
 ·have h1:=Bw h.pd h0 hi hl;have h2:=h.pot;rw[ct,ct]
  calc
   4^s*4*Go.Proofs.YtdobfmlmenaajaaGreatDoor.pot (xh A i) n=4^s*(4*Go.Proofs.YtdobfmlmenaajaaGreatDoor.pot (xh A i) n):=by rw[gA]
   _<=4^s*(3*Go.Proofs.YtdobfmlmenaajaaGreatDoor.pot A n):=a9 _ h1
   _=3*(4^s*Go.Proofs.YtdobfmlmenaajaaGreatDoor.pot A n):=by rw[Nat.mul_left_comm]
   _<=3*(3^s*65536^n):=a9 _ h2
   _=3^s*3*65536^n:=by rw[<-gA,aS 3]
 ·have hs:dU (i-1) i a<n:=by unfold dU;split<;>(try split)<;>omega
  have h1:=h.diag _ hs;have h6:=mA (om:4+40*(31*s+iL A n)<=4+40*(31*(s+1)+iL (xh A i) n))
  simp only[xh];omega
theorem LI.entry{A:aW}{n s:Nat}(h:LI A n s)(hn:n<=5){i j:Nat}(hi:i<n)(hj:j<n){N:Nat}(hN:249300<=N):(A i j).natAbs<2^N:=by
 have hs:=h.s_le hn;have hw:iL A n<=30:=by
  have h1:=q9 A n;have h2:n*(n+1)<=5*6:=bN hn om;omega
 obtain⟨M,rfl⟩:∃M,N=M+1:=⟨N-1,om⟩
 have h6:=mA (om:4+40*(31*s+iL A n)<=M)
 have h1:=h.pd.cs0 hi hj;have h2:=h.diag i hi;have h3:=h.diag j hj;have h4:=cY (om:A i i<=2^M) (om:A j j<=2^M) (cu (h.pd.diag hj)) (by have:=h.pd.diag hi;omega)
 have hPI:(2:Int)^M=((2^M:Nat):Int):=by simp
 rw[hPI]at h4;rw[Nat.pow_succ'];have hPpos:0<2^M:=lJ om;generalize (2:Nat)^M=P at *;rcases aI (A i j).natAbs (2*P)with h8|h8
 ·exact h8
 ·exfalso;have h9:(2*P)*(2*P)<=(A i j).natAbs*(A i j).natAbs:=bN h8 h8;have h10:(((A i j).natAbs*(A i j).natAbs:Nat):Int)=A i j*A i j:=oK;have h11:(2*P)*(2*P)=4*(P*P):=by rw[Nat.mul_mul_mul_comm]
  have h12:0<P*P:=Nat.mul_pos hPpos hPpos;have h13:((P*P:Nat):Int)=(P:Int)*P:=ck P P;omega
structure Ms(H:aW)(n:Nat):Prop where
 pd:Pd H n
 rows:lA H n
 lead:∀k,k<=n->det k H<=59049
theorem Ms.diag{H:aW}{n:Nat}(h:Ms H n)(hn:n<=5){i:Nat}(hi:i<n):H i i<=118098:=by
 have h1:=h.pd.sized_norm4 (D:=59049) hi (fun k hk=>h.lead (k+1) om) (fun j hj=>h.rows.1 i hi j hj);omega
theorem pK{x B:Int}(hB:0<=B)(h:x*x<=B*B):x.natAbs<=B:=by
 rcases Cl B x.natAbs with h1|h1
 ·exfalso;have h2:(B+1)*(B+1)<=(x.natAbs:Int)*x.natAbs:=cY om om om om;have h3:((x.natAbs:Nat):Int)*x.natAbs=x*x:=by rw[<-ck,oK]
  have h4:(B+1)*(B+1)=B*B+2*B+1:=by grind
  omega
 ·exact h1
theorem Ms.entry{H:aW}{n:Nat}(h:Ms H n)(hn:n<=5){i j:Nat}(hi:i<n)(hj:j<n):((H i j).natAbs:Int)<=118098:=by
 have h1:=h.pd.cs0 hi hj;have h2:=h.diag hn hi;have h3:=h.diag hn hj;have h4:=cY h2 h3 (cu (h.pd.diag hj)) om;exact pK om om
theorem Jq{l d:Int}(hd:0<d):2*((l+-((2*l+d)/(2*d))*d).natAbs:Int)<=d:=by
 have h1:=aY (2*l+d) (om:2*d≠0)
 have h2:=Int.emod_lt_of_pos (2*l+d) (om:0<2*d)
 have h3:=jS (2*l+d) (2*d);generalize hq:(2*l+d)/(2*d)=q at *;have h4:2*d*q=2*(q*d):=by grind
 have h5:-q*d=-(q*d):=by grind
 rw[h5];omega
abbrev iG:=Nat->Int
def gK(n m:Nat)(B:aW)(x:iG):Prop:=∃c:iG,∀i,i<n->x i=aE m (fun j=>B i j*c j)
structure IK(n:Nat)(L:iG->Prop):Prop where
 zero:L (fun _=>0)
 comb:∀x y:iG,L x->L y->∀a b:Int,L (fun i=>a*x i+b*y i)
 ext:∀x y:iG,L x->(∀i,i<n->x i=y i)->L y
theorem IK.smul{n:Nat}{L:iG->Prop}(h:IK n L){x:iG}(hx:L x)(a:Int):L (fun i=>a*x i) :=
 h.ext _ _ (h.comb x x hx hx a 0) (fun i _=>by simp)
theorem IK.add{n:Nat}{L:iG->Prop}(h:IK n L){x y:iG}(hx:L x)(hy:L y):L (fun i=>x i+y i) :=
 h.ext _ _ (h.comb x y hx hy 1 1) (fun i _=>by simp)
theorem IK.sum{n:Nat}{L:iG->Prop}(h:IK n L)(C:Nat->iG)(c:iG):∀m,(∀j,j<m->L (C j))->L (fun i=>aE m (fun j=>C j i*c j))
 | 0,_=>h.ext _ _ h.zero (fun i _=>by simp[aE])
 | m+1,hC=>h.ext _ _ (h.comb _ _ (h.sum C c m fun j hj=>hC j om) (hC m om) 1 (c m)) (fun i _=>by simp only[aE];grind)
theorem E7(m:Nat)(a b:Int)(B:Nat->Int)(c d:iG):aE m (fun j=>B j*(a*c j+b*d j))=a*aE m (fun j=>B j*c j)+b*aE m (fun j=>B j*d j):=by
 rw[<-pH];exact aK fun j _=>by grind
theorem gK.lat(n m:Nat)(B:aW):IK n (gK n m B):=by
 refine⟨⟨fun _=>0,fun i _=>(iD fun j _=>by simp).symm⟩,?_,?_⟩
 ·rintro x y ⟨c,hc⟩ ⟨d,hd⟩ a b;exact⟨fun j=>a*c j+b*d j,fun i hi=>by show a*x i+b*y i=_;rw[hc i hi,hd i hi,E7]⟩
 ·rintro x y ⟨c,hc⟩ h;exact⟨c,fun i hi=>by rw[<-h i hi];exact hc i hi⟩
theorem gK.col{n m:Nat}{B:aW}{j:Nat}(hj:j<m):gK n m B (fun i=>B i j) :=
 ⟨eW j,fun i _=>by
  rw[cp j hj (fun k _ hk=>by simp[eW,hk])];simp[eW]⟩
theorem gK.sub{n m:Nat}{B:aW}{L:iG->Prop}(hL:IK n L)(h:∀j,j<m->L (fun i=>B i j)){x:iG}(hx:gK n m B x):L x:=by
 obtain⟨c,hc⟩:=hx;exact hL.ext _ _ (hL.sum (fun j i=>B i j) c m h) (fun i hi=>(hc i hi).symm)
def jD(n:Nat)(A B:aW):Prop:=(∀x,gK n n A x↔gK n n B x)/\(det n A).natAbs=(det n B).natAbs
theorem jD.refl(n:Nat)(A:aW):jD n A A:=⟨fun _=>Iff.rfl,rfl⟩
theorem jD.trans{n:Nat}{A B C:aW}(h:jD n A B)(k:jD n B C):jD n A C:=⟨fun x=>(h.1 x).trans (k.1 x),h.2.trans k.2⟩
theorem jD.of{n:Nat}{A B:aW}(h1:∀j,j<n->gK n n A (fun i=>B i j))(h2:∀j,j<n->gK n n B (fun i=>A i j))(hd:(det n A).natAbs=(det n B).natAbs):jD n A B :=
 ⟨fun _=>⟨gK.sub (gK.lat n n B) h2,gK.sub (gK.lat n n A) h1⟩,hd⟩
theorem Fc{n:Nat}(A:aW){i k:Nat}(hi:i<n)(hk:k<n)(hik:i≠k)(c:Int):jD n A (bK A i (fun r=>A r i+c*A r k)):=by
 refine jD.of (fun j hj=>?_) (fun j hj=>?_) ?_
 ·by_cases e:j=i
  ·subst e;exact(gK.lat n n A).ext _ _ ((gK.lat n n A).comb _ _ (gK.col hj) (gK.col hk) 1 c) (fun r _=>by simp[bK])
  ·exact(gK.lat n n A).ext _ _ (gK.col hj) (fun r _=>by simp[bK,e])
 ·by_cases e:j=i
  ·subst e;refine(gK.lat n n _).ext _ _ ((gK.lat n n _).comb _ _ (gK.col (j:=j) hj) (gK.col (j:=k) hk) 1 (-c)) (fun r _=>?_);simp only[bK,if_true,if_neg (ao hik)];grind
  ·exact(gK.lat n n _).ext _ _ (gK.col (j:=j) hj) (fun r _=>by simp[bK,e])
 ·have h:=rt A hi hk hik 1 c;rw[eg]at h;rw[<-h];simp only[eg]
theorem CR{n:Nat}(A:aW){i k:Nat}(hi:i<n)(hk:k<n)(hik:i≠k):jD n A (fun a b=>A a (dU i k b)):=by
 have hs:∀j,j<n->dU i k j<n:=fun j hj=>by unfold dU;split<;>(try split)<;>omega
 have hss:∀j,dU i k (dU i k j)=j:=fun j=>by unfold dU;grind
 refine jD.of (fun j hj=>gK.col (hs j hj)) (fun j hj=>?_) ?_
 ·have:=gK.col (n:=n) (B:=fun a b=>A a (dU i k b)) (hs j hj);simpa only[hss]using this
 ·rw[oV A hi hk hik];omega
theorem Fd{n:Nat}(A:aW){i:Nat}(hi:i<n):jD n A (bK A i (fun r=>- A r i)):=by
 refine jD.of (fun j hj=>?_) (fun j hj=>?_) ?_
 ·by_cases e:j=i
  ·subst e;exact(gK.lat n n A).ext _ _ ((gK.lat n n A).smul (gK.col hj) (-1)) (fun r _=>by simp[bK])
  ·exact(gK.lat n n A).ext _ _ (gK.col hj) (fun r _=>by simp[bK,e])
 ·by_cases e:j=i
  ·subst e;exact(gK.lat n n _).ext _ _ ((gK.lat n n _).smul (gK.col (j:=j) hj) (-1)) (fun r _=>by simp[bK])
  ·exact(gK.lat n n _).ext _ _ (gK.col (j:=j) hj) (fun r _=>by simp[bK,e])
 ·have h:=pT A hi (-1) 0 (fun r=>A r i) (fun r=>A r i);have e:bK A i (fun r=>-1*A r i+0*A r i)=bK A i (fun r=>- A r i):=by congr 1;funext r;omega
  rw[e,i7]at h;omega
theorem xF{n:Nat}(A:aW)(h:∀j,0<j->j<n+1->A 0 j=0):det (n+1) A=A 0 0*det n (fun i j=>A (i+1) (j+1)):=by
 simp only[det];rw[cp 0 om (fun j hj h0=>by rw[h j om hj];simp)]
 simp only[uZ,eg];congr 1
 all_goals (first|rfl|(exact bF fun i j _ _=>by simp[jn,skip]))
def fq:Nat->(Nat->Int)->Int
 | 0,_=>1
 | n+1,f=>f 0*fq n (fun i=>f (i+1))
def EM(n i:Nat)(A:aW):Prop:=∀r,r<i->(∀j,r<j->j<n->A r j=0)/\0<A r r
theorem oc{n:Nat}:∀(i:Nat) (A:aW),EM (n+i) i A->det (n+i) A=fq i (fun r=>A r r)*det n (fun r j=>A (r+i) (j+i))
 | 0,A,_=>by simp[fq]
 | i+1,A,h=>by
  rw[<-Nat.add_assoc,xF A (fun j h0 hj=>(h 0 om).1 j h0 om),oc i (fun r j=>A (r+1) (j+1)) (fun r hr=>⟨fun j h1 h2=>(h (r+1) om).1 (j+1) om om,(h (r+1) om).2⟩)];simp only[fq];rw[fK];rfl
theorem sD{n:Nat}{f:Nat->Int}(h:∀i,i<n->0<f i):0<fq n f:=by
 induction n generalizing f with
 | zero=>simp[fq]
 | succ n ih=>simp only[fq];exact lL (h 0 om) (ih fun i hi=>h (i+1) om)
def cR:Nat->(Nat->Int)->Nat
 | 0,_=>0
 | n+1,f=>cR n f+(f n).natAbs
theorem Ih{n:Nat}{f g:Nat->Int}{k:Nat}(hk:k<n)(h:∀j,j<n->j≠k->f j=g j)(hl:(f k).natAbs<(g k).natAbs):cR n f<cR n g:=by
 induction n with
 | zero=>omega
 | succ n ih =>
  simp only[cR];by_cases e:k=n
  ·subst e;have:cR k f=cR k g:=by
    have key:∀m,m<=k->cR m f=cR m g:=by
     intro m
     induction m with
     | zero=>intro _;rfl
     | succ m ih2=>intro hm;simp only[cR];rw[ih2 om,h m om om]
    exact key k (ah _)
   omega
  ·rw[h n om (ao e)];have:=ih om (fun j hj=>h j om);omega
theorem BW{n:Nat}(A:aW)(h:∀j,j<n+1->A 0 j=0):det (n+1) A=0:=by
 simp only[det];exact iD fun j hj=>by rw[h j hj];simp
theorem I0{n i:Nat}(hi:i<n):∀(m:Nat) (A:aW),cR n (fun j=>if i<=j then A i j else 0)=m->EM n i A->det n A≠0->∃B,jD n A B/\EM n (i+1) B:=by
 intro m
 induction m using Nat.strongRecOn with
 | ind m ih =>
  intro A hm hT hd;by_cases h2:∃j1 j2,i<=j1/\j1<n/\i<=j2/\j2<n/\j1≠j2/\A i j1≠0/\(A i j1).natAbs<=(A i j2).natAbs
  ·obtain⟨j1,j2,h3,h4,h5,h6,h7,h8,h9⟩:=h2;have hs:=Fc A h6 h4 (ao h7) (-(A i j2/A i j1));have hlt:(A i j2+-(A i j2/A i j1)*A i j1).natAbs<(A i j2).natAbs:=by
    have e:A i j2+-(A i j2/A i j1)*A i j1=A i j2%A i j1:=by
     rw[Int.emod_def];grind
    rw[e];have h10:=aY (A i j2) h8;have h11:=Int.emod_lt (A i j2) h8;omega
   have hT':EM n i (bK A j2 (fun r=>A r j2+-(A i j2/A i j1)*A r j1)):=by
    refine fun r hr=>⟨fun j hj hjn=>?_,?_⟩
    ·by_cases e:j=j2
     ·subst e;simp only[bK,if_true];rw[(hT r hr).1 j hj hjn,(hT r hr).1 j1 om h4];simp
     ·simp only[bK,e,if_false];exact(hT r hr).1 j hj hjn
    ·simp only[bK];rw[if_neg om];exact(hT r hr).2
   obtain⟨B,hB1,hB2⟩:=ih (cR n (fun j=>if i<=j then bK A j2 (fun r=>A r j2+-(A i j2/A i j1)*A r j1) i j else 0)) (by
     rw[<-hm];refine Ih h6 (fun j _ hj=>?_) ?_
     ·simp[bK,hj]
     ·simp only[h5,if_true,bK];exact hlt) _ rfl hT' (by
     have:=hs.2;intro h0;rw[h0]at this;omega)
   exact⟨B,hs.trans hB1,hB2⟩
  ·have hex:∃j0,i<=j0/\j0<n/\A i j0≠0:=by
    rcases eH (∃j0,i<=j0/\j0<n/\A i j0≠0)with h|h
    ·exact h
    ·exfalso;refine hd ?_;obtain⟨k,rfl⟩:∃k,n=k+1+i:=⟨n-i-1,om⟩
     rw[oc i A hT,BW (n:=k) _ (fun j hj=>?_),oO];rcases eH (A (0+i) (j+i)=0)with h0|h0
     ·exact h0
     ·exact absurd ⟨j+i,om,om,by rw[aF]at h0;exact h0⟩ h
   obtain⟨j0,h3,h4,h5⟩:=hex;have hz:∀j,i<=j->j<n->j≠j0->A i j=0:=by
    intro j h6 h7 h8;rcases eH (A i j=0)with h0|h0
    ·exact h0
    ·exfalso;rcases Nat.le_total (A i j).natAbs (A i j0).natAbs with h9|h9
     ·exact h2 ⟨j,j0,h6,h7,h3,h4,h8,h0,h9⟩
     ·exact h2 ⟨j0,j,h3,h4,h6,h7,ao h8,h5,h9⟩
   have h6:∃B,jD n A B/\EM n i B/\B i i≠0/\∀j,i<j->j<n->B i j=0:=by
    by_cases e:i=j0
    ·subst e;exact⟨A,jD.refl n A,hT,h5,fun j hj hjn=>hz j om hjn om⟩
    ·refine⟨_,CR A hi h4 e,fun r hr=>⟨fun j hj hjn=>?_,?_⟩,?_,fun j hj hjn=>?_⟩
     ·have:r<dU i j0 j/\dU i j0 j<n:=by unfold dU;split<;>(try split)<;>omega
      exact(hT r hr).1 _ this.1 this.2
     ·have:dU i j0 r=r:=by unfold dU;rw[if_neg om,if_neg om]
      show 0<A r (dU i j0 r);rw[this];exact(hT r hr).2
     ·show A i (dU i j0 i)≠0;have:dU i j0 i=j0:=by simp[dU]
      rw[this];exact h5
     ·show A i (dU i j0 j)=0;refine hz _ ?_ ?_ ?_<;>(unfold dU;split<;>(try split)<;>omega)
   obtain⟨B,hB1,hB2,hB3,hB4⟩:=h6;rcases Cl 0 (B i i)with h7|h7
   ·refine⟨B,hB1,fun r hr=>?_⟩;by_cases e:r=i
    ·subst e;exact⟨hB4,h7⟩
    ·exact hB2 r om
   ·refine⟨_,hB1.trans (Fd B hi),fun r hr=>⟨fun j hj hjn=>?_,?_⟩⟩
    ·simp only[bK];by_cases e:r=i
     ·subst e;rw[if_neg om];exact hB4 j hj hjn
     ·by_cases e2:j=i
      ·subst e2;rw[if_pos rfl,(hB2 r om).1 j hj hjn];rfl
      ·rw[if_neg e2];exact(hB2 r om).1 j hj hjn
    ·simp only[bK];by_cases e:r=i
     ·subst e;rw[if_pos rfl];omega
     ·rw[if_neg e];exact(hB2 r om).2
theorem CI{n:Nat}(A:aW)(hd:det n A≠0):∃B,jD n A B/\EM n n B:=by
 have key:∀i,i<=n->∃B,jD n A B/\EM n i B:=by
  intro i
  induction i with
  | zero=>intro _;exact⟨A,jD.refl n A,fun r hr=>om⟩
  | succ i ih =>
   intro hi;obtain⟨B,h1,h2⟩:=ih om;obtain⟨C,h3,h4⟩:=I0 om _ B rfl h2 (by have:=h1.2;intro h0;rw[h0]at this;omega)
   exact⟨C,h1.trans h3,h4⟩
 exact key n (ah _)
theorem Gy{n:Nat}{A B:aW}(h:jD n A B)(hT:EM n n B):((det n A).natAbs:Int)=fq n (fun r=>B r r):=by
 have h1:=oc (n:=0) n B (by rw[aF];exact hT)
 rw[aF]at h1;simp only[det,ij]at h1;have h2:=sD (n:=n) (f:=fun r=>B r r) (fun r hr=>(hT r hr).2);rw[h.2,h1];omega
theorem oW(n:Nat)(f:Nat->Int):aE (n+1) f=f 0+aE n (fun j=>f (j+1)):=by
 induction n with
 | zero=>simp[aE]
 | succ n ih=>rw[aE,ih];simp only[aE];omega
theorem iR{n:Nat}{f:Nat->Int}{h:Int}(hf:∀i,i<n->h∣f i):h∣aE n f:=by
 induction n with
 | zero=>exact kw _
 | succ n ih=>simp only[aE];exact iQ (ih fun i hi=>hf i om) (hf n om)
theorem kI(n:Nat)(f g:Nat->Int):aE n (fun i=>f i-g i)=aE n f-aE n g:=by
 induction n with
 | zero=>rfl
 | succ n ih=>simp only[aE];rw[ih];omega
theorem ye(n:Nat)(f:Nat->Int):aE n (fun i=>- f i)=- aE n f:=by
 induction n with
 | zero=>rfl
 | succ n ih=>simp only[aE];rw[ih];omega
theorem Bj(n:Nat)(c:Int):aE n (fun _=>c)=n*c:=by
 induction n with
 | zero=>simp[aE]
 | succ n ih=>simp only[aE];rw[ih];grind
def lB(d:Nat)(c:Nat->Int)(x:Int):Int:=aE d (fun i=>c i*x^i)
theorem El{d N:Nat}{c:Nat->Int}(h:∀i,d<=i->c i=0)(hN:d<=N)(x:Int):lB N c x=lB d c x:=by
 induction N with
 | zero=>rw[(om:d=0)]
 | succ N ih =>
  by_cases e:d=N+1
  ·rw[e]
  ·simp only[lB,aE];rw[h N om];simp only[lB]at ih;rw[ih om];omega
theorem pO(d:Nat)(c:Nat->Int)(x:Int):lB (d+1) c x=c 0+x*lB d (fun i=>c (i+1)) x:=by
 simp only[lB];rw[oW,<-dE];congr 1
 ·simp
 ·exact aK fun i _=>by rw[eY];grind
theorem qg:∀(d:Nat) (c:Nat->Int),(∀x:Int,1<=x->lB d c x=0)->∀i,i<d->c i=0
 | 0,_,_,_,hi=>om
 | d+1,c,h,i,hi=>by
  have h0:c 0=0:=by
   have h1:=h ((c 0).natAbs+1) om;rw[pO]at h1;have h2:(((c 0).natAbs:Int)+1)∣c 0:=⟨- lB d (fun i=>c (i+1)) ((c 0).natAbs+1),by rw[qq];omega⟩
   have h3:=Int.natAbs_dvd_natAbs.2 h2;rcases bU (c 0).natAbs with e|e
   ·omega
   ·have h4:=Nat.le_of_dvd e h3;omega
  have h1:∀x:Int,1<=x->lB d (fun i=>c (i+1)) x=0:=by
   intro x hx;have h1:=h x hx;rw[pO,h0,Int.zero_add]at h1;rcases jI.1 h1 with e|e
   ·omega
   ·exact e
  match i,hi with
  | 0,_=>exact h0
  | i+1,hi=>exact qg d (fun i=>c (i+1)) h1 i om
theorem Ei(d:Nat)(c e:Nat->Int)(x:Int):lB d (fun i=>c i-e i) x=lB d c x-lB d e x:=by
 simp only[lB];rw[<-kI];exact aK fun i _=>by rw[Int.sub_mul]
theorem Jl(d:Nat)(c e:Nat->Int)(x:Int):lB d (fun i=>c i+e i) x=lB d c x+lB d e x:=by
 simp only[lB];rw[<-dX];exact aK fun i _=>by rw[Int.add_mul]
theorem Ek(d:Nat)(a:Int)(c:Nat->Int)(x:Int):lB d (fun i=>a*c i) x=a*lB d c x:=by
 simp only[lB];rw[<-dE];exact aK fun i _=>by rw[fK]
theorem Bx{d:Nat}{c e:Nat->Int}(h:∀x,lB d c x=lB d e x){i:Nat}(hi:i<d):c i=e i:=by
 have:=qg d (fun i=>c i-e i) (fun x _=>by rw[Ei,h x];omega) i hi
 omega
theorem Eh(d n:Nat)(c:Nat->Nat->Int)(x:Int):lB d (fun i=>aE n (fun j=>c j i)) x=aE n (fun j=>lB d (c j) x):=by
 simp only[lB];rw[nT];refine aK fun i _=>?_;rw[cF,<-dE];exact aK fun j _=>by rw[cF]
def MQ(c:Nat->Int):Nat->Int
 | 0=>0
 | i+1=>c i
theorem Ej(d:Nat)(c:Nat->Int)(x:Int):lB (d+1) (MQ c) x=x*lB d c x:=by
 rw[pO];show 0+x*lB d c x=_;omega
def pZ(d:Nat)(f:Int->Int):Prop:=∃c:Nat->Int,(∀i,d<=i->c i=0)/\∀x,f x=lB d c x
theorem pZ.mono{d e:Nat}{f:Int->Int}(h:pZ d f)(hd:d<=e):pZ e f:=by
 obtain⟨c,h1,h2⟩:=h;exact⟨c,fun i hi=>h1 i om,fun x=>by rw[h2 x,El h1 hd]⟩
theorem pZ.add{d:Nat}{f g:Int->Int}(h:pZ d f)(k:pZ d g):pZ d (fun x=>f x+g x):=by
 obtain⟨c,h1,h2⟩:=h;obtain⟨e,k1,k2⟩:=k;exact⟨fun i=>c i+e i,fun i hi=>by simp only;rw[h1 i hi,k1 i hi];rfl,fun x=>by rw[Jl,<-h2 x,<-k2 x]⟩
theorem pZ.smul{d:Nat}{f:Int->Int}(h:pZ d f)(a:Int):pZ d (fun x=>a*f x):=by
 obtain⟨c,h1,h2⟩:=h;exact⟨fun i=>a*c i,fun i hi=>by simp only;rw[h1 i hi,oO],fun x=>by rw[Ek,<-h2 x]⟩
theorem pZ.xmul{d:Nat}{f:Int->Int}(h:pZ d f):pZ (d+1) (fun x=>x*f x):=by
 obtain⟨c,h1,h2⟩:=h;refine⟨MQ c,fun i hi=>?_,fun x=>by rw[Ej,<-h2 x]⟩
 match i,hi with
 | i+1,hi=>exact h1 i om
theorem pZ.zero(d:Nat):pZ d (fun _=>0):=⟨fun _=>0,fun _ _=>rfl,fun x=>by
 simp only[lB];rw[iD];intro i _;rw[oN]⟩
theorem pZ.sum{d:Nat}:∀{n:Nat} {f:Nat->Int->Int},(∀j,j<n->pZ d (f j))->pZ d (fun x=>aE n (fun j=>f j x))
 | 0,_,_=>by simp only[aE];exact pZ.zero d
 | n+1,f,h=>by simp only[aE];exact(pZ.sum fun j hj=>h j om).add (h n om)
theorem pZ.congr{d:Nat}{f g:Int->Int}(h:pZ d f)(e:∀x,g x=f x):pZ d g:=by
 obtain⟨c,h1,h2⟩:=h;exact⟨c,h1,fun x=>(e x).trans (h2 x)⟩
theorem pZ.lin{d:Nat}{f:Int->Int}(h:pZ d f)(a b:Int):pZ (d+1) (fun x=>(a+b*x)*f x) :=
 (((h.smul a).mono om).add (h.xmul.smul b)).congr fun x=>by grind
def IC:Nat->(Nat->Bool)->Nat
 | 0,_=>0
 | n+1,R=>(if R 0 then 0 else 1)+IC n (fun i=>R (i+1))
theorem Ab:∀(n:Nat) (R:Nat->Bool) (a b:aW),(∀i,R i=true->∀j,b i j=0)->pZ (1+IC n R) (fun x=>det n (fun i j=>a i j+b i j*x))
 | 0,R,a,b,_=>⟨fun i=>if i=0 then 1 else 0,fun i hi=>by simp only[IC]at hi;exact if_neg om,fun x=>by simp[det,IC,lB,aE]⟩
 | n+1,R,a,b,h=>by
  simp only[det,IC];refine pZ.sum fun j _=>?_;have ih:=Ab n (fun i=>R (i+1)) (jn a j) (jn b j) (fun i hi k=>h (i+1) hi _);have e:∀x:Int,jn (fun i j=>a i j+b i j*x) j=fun i k=>jn a j i k+jn b j i k*x:=fun x=>rfl
  cases hr:R 0 with
  | true =>
   refine((ih.smul (tq j*a 0 j)).congr fun x=>?_).mono sm
   rw[e x,h 0 hr j];grind
  | false =>
   refine((ih.lin (tq j*a 0 j) (tq j*b 0 j)).congr fun x=>?_).mono (by simp;omega)
   rw[e x];grind
theorem ED:∀(n:Nat) (R:Nat->Bool),IC n R<=n
 | 0,_=>ah _
 | n+1,R=>by have:=ED n (fun i=>R (i+1));simp only[IC];split<;>omega
theorem z6:∀(n:Nat) (R:Nat->Bool) (i:Nat),i<n->R i=true->IC n R+1<=n
 | n+1,R,0,_,h=>by have:=ED n (fun i=>R (i+1));simp only[IC,h,if_true];omega
 | n+1,R,i+1,hi,h=>by have:=z6 n (fun i=>R (i+1)) i om h;simp only[IC];split<;>omega
def cm(M:aW)(x:Int):aW:=fun i j=>- M i j+(if i=j then 1 else 0)*x
theorem B2:∀(n:Nat) (M:aW),pZ n (fun x=>det n (cm M x)-x^n)
 | 0,M=>⟨fun _=>0,fun _ _=>rfl,fun x=>by simp[det,lB,aE]⟩
 | n+1,M=>by
  have ih:=B2 n (fun i j=>M (i+1) (j+1));have hx:pZ (n+1) (fun x=>x^n):=⟨fun i=>if i=n then 1 else 0,fun i hi=>if_neg om,fun x=>by
   simp only[lB];rw[cp n om (fun i _ hi=>by rw[if_neg hi,oN])];simp⟩
  have hj:∀j,j<n->pZ (n+1) (fun x=>tq (j+1)*cm M x 0 (j+1)*det n (jn (cm M x) (j+1))):=by
   intro j hj;have h1:=Ab n (fun i=>decide (i=j)) (jn (fun i j=>- M i j) (j+1)) (jn (fun i j=>if i=j then 1 else 0) (j+1)) (fun i hi k=>by
    simp only[decide_eq_true_eq]at hi;subst hi;simp only[jn];exact if_neg (by unfold skip;split<;>omega))
   have h2:=z6 n (fun i=>decide (i=j)) j hj sm
   refine((h1.smul (tq (j+1)*- M 0 (j+1))).mono om).congr fun x=>?_;have e0:cm M x 0 (j+1)=- M 0 (j+1):=by simp[cm]
   rw[e0];rfl
  have hs:=pZ.sum hj;refine(((ih.lin (- M 0 0) 1).add (hx.smul (- M 0 0))).add hs).congr fun x=>?_;simp only[det];rw[oW];have e1:jn (cm M x) 0=cm (fun i j=>M (i+1) (j+1)) x:=by
   funext i k;simp[jn,cm,skip]
  have e2:cm M x 0 0=- M 0 0+x:=by simp[cm]
  rw[e1,e2,uZ,eY]
  grind
theorem L6{n:Nat}(M:aW){i:Nat}(hi:i<n)(j:Nat):pZ n (fun x=>pY n (cm M x) i j):=by
 have h1:=Ab n (fun k=>decide (k=i)) (setRow (fun i j=>- M i j) i (eW j)) (fun a b=>if a=i then 0 else if a=b then 1 else 0) (fun k hk b=>by
  simp only[decide_eq_true_eq]at hk;simp[hk])
 have h2:=z6 n (fun k=>decide (k=i)) i hi sm
 refine(h1.mono om).congr fun x=>?_;unfold pY;congr 1;funext a b;simp only[setRow,cm];by_cases e:a=i
 ·simp[e]
 ·simp[e]
theorem rn{h:Int}:∀(n:Nat) (B C:aW),(∀i j,h∣B i j-C i j)->h∣det n B-det n C
 | 0,_,_,_=>by simp[det]
 | n+1,B,C,hd=>by
  simp only[det];rw[<-kI];refine iR fun j _=>?_;obtain⟨u,hu⟩:=rn n (jn B j) (jn C j) (fun i k=>hd _ _);obtain⟨v,hv⟩:=hd 0 j;refine⟨tq j*(B 0 j*u+v*det n (jn C j)),?_⟩;have e1:det n (jn B j)=det n (jn C j)+h*u:=om
  have e2:B 0 j=C 0 j+h*v:=om
  rw[e1,e2];grind
def dg(A:aW)(h:Int)(m:Nat):aW:=fun i j=>A i j+(if i<m/\i=j then h else 0)
theorem Hz(n:Nat)(A:aW)(h:Int):∀m,m<=n->h*h∣det n (dg A h m)-det n A-h*aE m (fun i=>pY n A i i)
 | 0,_=>by
  have:dg A h 0=A:=by funext i j;simp[dg]
  rw[this];simp[aE]
 | m+1,hm=>by
  obtain⟨q,hq⟩:=Hz n A h m om;have e1:dg A h (m+1)=setRow (dg A h m) m (fun j=>dg A h m m j+h*eW m j):=by
   funext i j;simp only[dg,setRow,eW];by_cases e:i=m
   ·subst e;by_cases e2:i=j
    ·subst e2;simp
    ·simp[e2,ao e2]
   ·simp only[e,if_false];congr 1;by_cases e2:i<m
    ·simp[e2,(om:i<m+1)]
    ·simp[e2,(om:¬i<m+1)]
  have e2:det n (dg A h (m+1))=det n (dg A h m)+h*pY n (dg A h m) m m:=by
   rw[e1,je _ om,pi _ om,iy];rfl
  obtain⟨u,hu⟩:=rn (h:=h) n (setRow (dg A h m) m (eW m)) (setRow A m (eW m)) (fun i j=>by
   simp only[setRow,dg];split
   ·simp
   ·split
    ·exact⟨1,om⟩
    ·exact⟨0,om⟩)
  refine⟨q+u,?_⟩;have e3:pY n (dg A h m) m m=pY n A m m+h*u:=by unfold pY;omega
  rw[e2,e3];simp only[aE];have:det n (dg A h m)=det n A+h*aE m (fun i=>pY n A i i)+h*h*q:=om
  rw[this];grind
theorem Eb(x h:Int):∀i:Nat,h*h∣(x+h)^i-x^i-h*(i*x^(i-1))
 | 0=>by simp
 | i+1=>by
  obtain⟨q,hq⟩:=Eb x h i;refine⟨(x+h)*q+i*x^(i-1),?_⟩;have e:(x+h)^i=x^i+h*(i*x^(i-1))+h*h*q:=om
  rw[eY,e,eY];have e2:(i:Int)*x^i=i*x^(i-1)*x:=by
   match i with
   | 0=>simp
   | i+1=>simp only[ip];rw[eY,fK]
  simp only[ip,jH,Int.natCast_one]
  grind
def M0(c:Nat->Int):Nat->Int:=fun i=>(i+1)*c (i+1)
theorem Jk(d:Nat)(c:Nat->Int)(x h:Int):h*h∣lB (d+1) c (x+h)-lB (d+1) c x-h*lB d (M0 c) x:=by
 have e:lB d (M0 c) x=aE (d+1) (fun i=>c i*(i*x^(i-1))):=by
  rw[oW];simp only[lB,M0];rw[show c 0*(((0:Nat):Int)*x^(0-1))=0 by simp,Int.zero_add]
  refine aK fun i _=>?_;simp only[ip,jH,Int.natCast_one];grind
 rw[e,<-dE];simp only[lB];rw[<-kI,<-kI];refine iR fun i _=>?_;obtain⟨q,hq⟩:=Eb x h i;exact⟨c i*q,by
  have e:(x+h)^i=x^i+h*(i*x^(i-1))+h*h*q:=om
  rw[e];grind⟩
theorem J3{z:Int}(h:∀k:Int,1<=k->k∣z):z=0:=by
 have h3:=Int.natAbs_dvd_natAbs.2 (h (z.natAbs+1) om);rcases bU z.natAbs with e|e
 ·omega
 ·have h4:=Nat.le_of_dvd e h3;omega
def mm(n:Nat)(A B:aW):aW:=fun i j=>aE n (fun k=>A i k*B k j)
def tr(n:Nat)(A:aW):Int:=aE n (fun i=>A i i)
def pg(n:Nat)(M:aW):Nat->aW
 | 0=>fun i j=>if i=j then 1 else 0
 | k+1=>fun i j=>mm n M (pg n M k) i j+(if i=j then tr n (mm n M (pg n M k))/(-((k+1:Nat):Int))else 0)
theorem JE{n:Nat}(hn:1<=n)(M:aW):∃(a:Nat->Nat->Nat->Int) (χ:Nat->Int),χ n=1/\(∀i j,i<n->j<n->a i j n=0)
 /\(∀i r k,i<n->r<n->k<=n->MQ (a i r) k-aE n (fun j=>M r j*a i j k)=if i=r then χ k else 0)
 /\(∀k,k<n->aE n (fun i=>a i i k)=(k+1)*χ (k+1))
 /\(∀i j,i<n->j<n->a i j 0=pY n (cm M 0) i j):=by
 have hc:∀i j,∃c:Nat->Int,i<n->((∀k,n<=k->c k=0)/\∀x,pY n (cm M x) i j=lB n c x):=fun i j=>by
  by_cases hi:i<n
  ·obtain⟨c,h⟩:=L6 M hi j;exact⟨c,fun _=>h⟩
  ·exact⟨fun _=>0,fun h=>absurd h hi⟩
 obtain⟨a,ha⟩:∃a:Nat->Nat->Nat->Int,∀i j,i<n->((∀k,n<=k->a i j k=0)/\∀x,pY n (cm M x) i j=lB n (a i j) x) :=
  ⟨fun i j=>(hc i j).choose,fun i j=>(hc i j).choose_spec⟩
 obtain⟨e,he1,he2⟩:=B2 n M;have hχ:∀x,det n (cm M x)=lB (n+1) (fun k=>if k=n then 1 else e k) x:=by
  intro x;have h1:=he2 x;simp only[lB,aE]at h1 ⊢;rw[aK (g:=fun i=>e i*x^i) (fun i hi=>by rw[if_neg om]),<-h1];simp
 refine⟨a,fun k=>if k=n then 1 else e k,sm,fun i j hi _=>(ha i j hi).1 n (ah _),fun i r k hi hr hk=>?_,fun k hk=>?_,fun i j hi hj=>?_⟩
 ·have key:∀x,lB (n+1) (fun k=>MQ (a i r) k-aE n (fun j=>M r j*a i j k)) x=lB (n+1) (fun k=>if i=r then(if k=n then 1 else e k)else 0) x:=by
   intro x;have h1:=zP (cm M x) hi hr;rw[Ei,Ej,Eh (n+1) n (fun j k=>M r j*a i j k)];rw[aK (g:=fun j=>M r j*pY n (cm M x) i j) (fun j hj=>by rw[Ek,El (ha i j hi).1 om,<-(ha i j hi).2 x])]
   rw[<-(ha i r hi).2 x];have h2:aE n (fun j=>cm M x r j*pY n (cm M x) i j)=x*pY n (cm M x) i r-aE n (fun j=>M r j*pY n (cm M x) i j):=by
    rw[aK (g:=fun j=>(if r=j then x*pY n (cm M x) i j else 0)-M r j*pY n (cm M x) i j) (fun j _=>by simp only[cm];split<;>grind),kI]
    rw[cp r hr (fun j _ hj=>by rw[if_neg (ao hj)])];simp
   rw[<-h2,h1];split
   ·rw[hχ x]
   ·simp only[lB];rw[iD];intro k _;rw[oN]
  exact Bx key om
 ·have key:∀x,lB n (fun k=>aE n (fun i=>a i i k)) x=lB n (M0 (fun k=>if k=n then 1 else e k)) x:=by
   intro x;rw[Eh n n (fun i k=>a i i k)];rw[aK (g:=fun i=>pY n (cm M x) i i) (fun i hi=>by rw[<-(ha i i hi).2 x])]
   have:∀k:Int,1<=k->k∣aE n (fun i=>pY n (cm M x) i i)-lB n (M0 (fun k=>if k=n then 1 else e k)) x:=by
    intro h hh;obtain⟨u,hu⟩:=Hz n (cm M x) h n (ah _);obtain⟨v,hv⟩:=Jk n (fun k=>if k=n then 1 else e k) x h
    have e1:det n (dg (cm M x) h n)=det n (cm M (x+h)):=bF fun i j hi hj=>by
     simp only[dg,cm];by_cases e:i=j
     ·subst e;simp[hi];omega
     ·simp[e]
    rw[e1,hχ,hχ]at hu;refine⟨v-u,?_⟩;have h3:h*(aE n (fun i=>pY n (cm M x) i i)-lB n (M0 (fun k=>if k=n then 1 else e k)) x)=h*(h*(v-u)):=by
     grind
    exact dk om h3
   have:=J3 this;omega
  exact Bx key hk
 ·rw[(ha i j hi).2 0];obtain⟨m,rfl⟩:∃m,n=m+1:=⟨n-1,om⟩
  rw[pO];omega
theorem lV{n i:Nat}(hi:i<n)(f:Nat->Int):aE n (fun j=>(if i=j then 1 else 0)*f j)=f i:=by
 rw[cp i hi (fun j _ hj=>by rw[if_neg (ao hj),oN])];simp
theorem JD{n:Nat}(hn:1<=n)(M:aW):∀i j,i<n->j<n->pg n M (n-1) j i=pY n (cm M 0) i j:=by
 obtain⟨a,χ,h1,h2,h3,h4,h5⟩:=JE hn M;have key:∀k,k<n->∀i j,i<n->j<n->pg n M k j i=a i j (n-1-k):=by
  intro k
  induction k with
  | zero =>
   intro _ i j hi hj;have h6:=h3 i j n hi hj (ah _);rw[iD (fun k hk=>by rw[h2 i k hi hk,oO]),h1]at h6
   obtain⟨m,rfl⟩:∃m,n=m+1:=⟨n-1,om⟩
   simp only[MQ]at h6;simp only[pg,ip,eG];rw[show(if j=i then(1:Int)else 0)=if i=j then 1 else 0 by split<;>split<;>omega]
   omega
  | succ k ih =>
   intro hk i j hi hj;have ih:=ih om;obtain⟨K,hK⟩:∃K,n-1-k=K+1:=⟨n-2-k,om⟩
   have hKK:n-1-(k+1)=K:=om
   rw[hKK];rw[hK]at ih;have e1:∀i r,i<n->r<n->mm n M (pg n M k) r i=a i r K-(if i=r then χ (K+1)else 0):=by
    intro i r hi hr;have h6:=h3 i r (K+1) hi hr om;simp only[MQ]at h6;simp only[mm];rw[aK (g:=fun j=>M r j*a i j (K+1)) (fun j hj=>by rw[ih i j hi hj])]
    omega
   have e2:tr n (mm n M (pg n M k))=-((k+1:Nat):Int)*χ (K+1):=by
    simp only[tr];rw[aK (g:=fun i=>a i i K - χ (K+1)) (fun i hi=>by rw[e1 i i hi hi,if_pos rfl]),kI,h4 K om,Bj]
    have:(n:Int)=K+1+(k+1):=om
    rw[this];simp only[jH,Int.natCast_one];grind
   simp only[pg];rw[e1 i j hi hj,e2,cV _ om];by_cases e:i=j
   ·subst e;simp
   ·rw[if_neg e,if_neg (ao e)];omega
 intro i j hi hj;rw[key (n-1) om i j hi hj,Nat.sub_self,h5 i j hi hj]
def lQ(n:Nat)(M:aW):aW:=fun i j=>if n%2=0 then-pg n M (n-1) i j else pg n M (n-1) i j
theorem Jo(n:Nat):(-1:Int)^n=if n%2=0 then 1 else -1:=by
 induction n with
 | zero=>rfl
 | succ n ih=>rw[eY,ih];split<;>split<;>omega
theorem Ig{n:Nat}(hn:1<=n)(M:aW){i j:Nat}(hi:i<n)(hj:j<n):lQ n M j i=pY n M i j:=by
 have e1:pY n (cm M 0) i j=(-1)^n*(-1*pY n M i j):=by
  unfold pY;rw[<-pi M hi,<-pj];congr 1;funext a b;simp only[setRow,cm,eW];split<;>grind
 simp only[lQ];rw[JD hn M i j hi hj,e1,Jo];split<;>grind
theorem o9(n:Nat)(A B C:aW)(i j:Nat):mm n (mm n A B) C i j=mm n A (mm n B C) i j:=by
 simp only[mm];rw[aK (g:=fun k=>aE n (fun l=>A i l*B l k*C k j)) (fun k _=>by rw[cF,<-dE];exact aK fun l _=>by grind)]
 rw[nT];exact aK fun l _=>by rw[<-dE];exact aK fun k _=>by grind
theorem vK{n:Nat}{A A' B B':aW}{i j:Nat}(h:∀k,k<n->A i k=A' i k)(h':∀k,k<n->B k j=B' k j):mm n A B i j=mm n A' B' i j :=
 aK fun k hk=>by rw[h k hk,h' k hk]
theorem BM(n:Nat)(M:aW):∀k i j,i<n->j<n->mm n (pg n M k) M i j=mm n M (pg n M k) i j
 | 0,i,j,hi,hj=>by
  simp only[mm,pg];rw[lV hi (fun k=>M k j),cp j hj (fun k _ hk=>by rw[if_neg hk,oO])];simp
 | k+1,i,j,hi,hj=>by
  have e1:mm n (pg n M (k+1)) M i j=mm n (mm n M (pg n M k)) M i j+(tr n (mm n M (pg n M k))/(-((k+1:Nat):Int)))*M i j:=by
   simp only[mm,pg];rw[<-lV hi (fun l=>(tr n (mm n M (pg n M k))/(-((k+1:Nat):Int)))*M l j),<-dX];exact aK fun l _=>by split<;>grind
  have e2:mm n M (pg n M (k+1)) i j=mm n M (mm n M (pg n M k)) i j+(tr n (mm n M (pg n M k))/(-((k+1:Nat):Int)))*M i j:=by
   simp only[mm,pg];rw[<-lV hj (fun l=>(tr n (mm n M (pg n M k))/(-((k+1:Nat):Int)))*M i l),<-dX];refine aK fun l _=>?_;by_cases e:l=j
   ·subst e;simp;grind
   ·rw[if_neg e,if_neg (ao e)];grind
  rw[e1,e2,o9];congr 1;exact vK (fun _ _=>rfl) (fun l hl=>BM n M k l j hl hj)
theorem pU{n:Nat}(hn:1<=n)(M:aW){i j:Nat}(hi:i<n)(hj:j<n):mm n (lQ n M) M i j=if i=j then det n M else 0:=by
 have e1:mm n (lQ n M) M i j=mm n M (lQ n M) i j:=by
  have h:=BM n M (n-1) i j hi hj;simp only[mm,lQ]at h ⊢;by_cases e:n%2=0
  ·simp only[e,if_true];rw[aK (g:=fun k=>- (pg n M (n-1) i k*M k j)) (fun k _=>by grind),ye,h,<-ye]
   exact aK fun k _=>by grind
  ·simp only[e,if_false];exact h
 rw[e1];simp only[mm];rw[aK (g:=fun k=>M i k*pY n M j k) (fun k hk=>by rw[Ig hn M hj hk]),zP M hj hi]
 split<;>split<;>omega
def iV(M:Int)(k:Nat):iG:=fun r=>if r=k then M else 0
structure TL(N:Nat)(L:iG->Prop)(d M:Nat->Int):Prop where
 lat:IK N L
 pos:∀i,i<N->0<d i
 step:∀i,i<N->M i=d i*M (i+1)
 last:M N=1
 dvd:∀x,L x->∀i,i<N->(∀r,r<i->x r=0)->d i∣x i
 unit:∀i k,i<=k->k<N->L (iV (M i) k)
 col:∀i,i<N->∃x,L x/\(∀r,r<i->x r=0)/\x i=d i
theorem E4{N:Nat}{H:aW}(hT:EM N N H){x c:iG}(hc:∀r,r<N->x r=aE N (fun j=>H r j*c j)):∀i,i<=N->(∀r,r<i->x r=0)->∀j,j<i->c j=0:=by
 intro i
 induction i with
 | zero=>intro _ _ j hj;omega
 | succ i ih =>
  intro hi h0 j hj;have ih':=ih om (fun r hr=>h0 r om);by_cases e:j=i
  ·subst e;have h1:=hc j om;rw[h0 j om,cp j om (fun k hk hkj=>by
    rcases aI k j with h2|h2
    ·rw[ih' k h2];simp
    ·rw[(hT j om).1 k om hk];simp)]at h1
   rcases jI.1 h1.symm with h2|h2
   ·have:=(hT j om).2;omega
   ·exact h2
  ·exact ih' j om
theorem Gz{N:Nat}{H:aW}(hT:EM N N H){x c:iG}(hc:∀r,r<N->x r=aE N (fun j=>H r j*c j)){i:Nat}(hi:i<N)(h0:∀r,r<i->x r=0):x i=H i i*c i:=by
 have h1:=E4 hT hc i om h0;rw[hc i hi,cp i hi (fun k hk hkj=>by
  rcases aI k i with h2|h2
  ·rw[h1 k h2];simp
  ·rw[(hT i hi).1 k om hk];simp)]
def CJ(H:aW)(N i:Nat):Int:=fq (N-i) (fun r=>H (i+r) (i+r))
theorem uU(H:aW){N i:Nat}(hi:i<N):CJ H N i=H i i*CJ H N (i+1):=by
 unfold CJ;rw[(om:N-i=(N-(i+1))+1)]
 simp only[fq,dd];congr 2;funext r;rw[(om:i+(r+1)=i+1+r)]
theorem zo(H:aW){N:Nat}:∀(m i:Nat),i+m<=N->CJ H N (i+m)∣CJ H N i
 | 0,i,_=>jt _
 | m+1,i,h=>by
  have h1:=zo H (N:=N) m (i+1) om;rw[uU H (om:i<N),(om:i+(m+1)=i+1+m)]
  exact cJ h1
theorem Bf{N:Nat}{H:aW}(hT:EM N N H):∀(m k:Nat),k<N->N-k<=m->gK N N H (iV (CJ H N k) k)
 | 0,k,hk,hm=>om
 | m+1,k,hk,hm=>by
  have hL:=gK.lat N N H;have hu:∀r,k<r->r<N->gK N N H (iV (CJ H N (k+1)) r):=by
   intro r h1 h2;obtain⟨q,hq⟩:=zo H (N:=N) (r-(k+1)) (k+1) om;rw[(om:k+1+(r-(k+1))=r)]at hq
   refine hL.ext _ _ (hL.smul (Bf hT m r h2 om) q) (fun i _=>?_);simp only[iV];split
   ·rw[hq,cF]
   ·simp
  have h1:=hL.sum (fun r=>if k<r then iV (CJ H N (k+1)) r else fun _=>0) (fun r=>- H r k) N (fun r hr=>by
   split
   ·rename_i h;exact hu r h hr
   ·exact hL.zero)
  refine hL.ext _ _ (hL.comb _ _ (gK.col (j:=k) hk) h1 (CJ H N (k+1)) 1) (fun i hi=>?_);have h2:aE N (fun j=>(if k<j then iV (CJ H N (k+1)) j else fun _=>0) i*- H j k)=if k<i then CJ H N (k+1)*- H i k else 0:=by
   rw[cp i hi (fun j hj hji=>by
    by_cases h3:k<j
    ·simp[h3,iV,ao hji]
    ·simp[h3])]
   by_cases h3:k<i
   ·simp[h3,iV]
   ·simp[h3]
  simp only[h2,iV];by_cases h3:i=k
  ·subst h3;rw[if_neg om,if_pos rfl,uU H hi];grind
  ·rw[if_neg h3];by_cases h4:k<i
   ·rw[if_pos h4];grind
   ·rw[if_neg h4,(hT i hi).1 k om hk];simp
theorem TL.of_tri{N:Nat}{H:aW}(hT:EM N N H):TL N (gK N N H) (fun i=>H i i) (CJ H N):=by
 refine⟨gK.lat N N H,fun i hi=>(hT i hi).2,fun i hi=>uU H hi,by simp[CJ,fq],?_,fun i k hik hk=>?_,fun i hi=>⟨_,gK.col hi,fun r hr=>(hT r om).1 i hr hi,rfl⟩⟩
 ·rintro x ⟨c,hc⟩ i hi h0;exact⟨c i,Gz hT hc hi h0⟩
 ·obtain⟨q,hq⟩:=zo H (N:=N) (k-i) i om;rw[(om:i+(k-i)=k)]at hq
  refine(gK.lat N N H).ext _ _ ((gK.lat N N H).smul (Bf hT (N-k) k hk (ah _)) q) (fun r _=>?_);simp only[iV];split
  ·rw[hq,cF]
  ·simp
theorem TL.congr{N:Nat}{L L':iG->Prop}{d M:Nat->Int}(h:TL N L d M)(hL:IK N L')(e:∀x,L' x↔L x):TL N L' d M :=
 ⟨hL,h.pos,h.step,h.last,fun x hx=>h.dvd x ((e x).1 hx),fun i k h1 h2=>(e _).2 (h.unit i k h1 h2),fun i hi=>by obtain⟨x,h1,h2⟩:=h.col i hi;exact⟨x,(e x).2 h1,h2⟩⟩
theorem TL.of_det{N:Nat}{w:aW}(hd:det N w≠0):∃d M,TL N (gK N N w) d M/\M 0=((det N w).natAbs:Int):=by
 obtain⟨H,h1,h2⟩:=CI w hd;refine⟨_,_,(TL.of_tri h2).congr (gK.lat N N w) h1.1,?_⟩;rw[Gy h1 h2];simp[CJ]
theorem TL.M_pos{N:Nat}{L:iG->Prop}{d M:Nat->Int}(h:TL N L d M):∀m i,N-i<=m->i<=N->0<M i
 | 0,i,h1,h2=>by rw[(om:i=N),h.last];omega
 | m+1,i,h1,h2=>by
  by_cases e:i=N
  ·rw[e,h.last];omega
  ·rw[h.step i om];exact lL (h.pos i om) (h.M_pos m (i+1) om om)
structure HI(N:Nat)(L:iG->Prop)(d M:Nat->Int)(i:Nat)(C:Nat->iG):Prop where
 mem:∀j,j<N->L (C j)
 zero:∀j,i<=j->j<N->∀r,r<i->C j r=0
 gen:∀x,L x->(∀r,r<i->x r=0)->∃t z:iG,∀r,i<=r->r<N->x r=aE N (fun j=>if i<=j then C j r*t j else 0)+M i*z r
 done:∀j,j<i->(∀r,r<j->C j r=0)/\C j j=d j/\∀r,j<r->r<i->0<=C j r/\C j r<d r
theorem HI.init{N:Nat}{w:aW}{d M:Nat->Int}:HI N (gK N N w) d M 0 (fun j r=>w r j):=by
 refine⟨fun j hj=>gK.col hj,fun j _ _ r hr=>om,fun x hx _=>?_,fun j hj=>om⟩
 obtain⟨c,hc⟩:=hx;exact⟨c,fun _=>0,fun r _ hr=>by rw[hc r hr];simp⟩
theorem HI.red{N:Nat}{L:iG->Prop}{d M:Nat->Int}(hL:TL N L d M){i:Nat}{C C':Nat->iG}(h:HI N L d M i C)(hi:i<=N)(q:Nat->iG)(he:∀j r,j<N->r<N->C' j r=C j r+(if i<=r then M i*q j r else 0)):HI N L d M i C':=by
 have lo:∀j r,j<N->r<i->C' j r=C j r:=fun j r hj hr=>by rw[he j r hj om,if_neg om];omega
 refine⟨fun j hj=>?_,fun j h1 h2 r hr=>by rw[lo j r h2 hr];exact h.zero j h1 h2 r hr,fun x hx h0=>?_,fun j hj=>?_⟩
 ·have h1:=hL.lat.sum (fun r=>if i<=r then iV (M i) r else fun _=>0) (q j) N (fun r hr=>by
   split
   ·rename_i h3;exact hL.unit i r h3 hr
   ·exact hL.lat.zero)
  refine hL.lat.ext _ _ (hL.lat.add (h.mem j hj) h1) (fun r hr=>?_);rw[he j r hj hr,cp r hr (fun k hk hkr=>by
   by_cases h3:i<=k
   ·simp[h3,iV,ao hkr]
   ·simp[h3])]
  by_cases h3:i<=r
  ·simp[h3,iV]
  ·simp[h3]
 ·obtain⟨t,z,htz⟩:=h.gen x hx h0;refine⟨t,fun r=>z r-aE N (fun j=>if i<=j then q j r*t j else 0),fun r hr hrN=>?_⟩
  rw[htz r hr hrN];have e:aE N (fun j=>if i<=j then C' j r*t j else 0)=aE N (fun j=>if i<=j then C j r*t j else 0)+M i*aE N (fun j=>if i<=j then q j r*t j else 0):=by
   rw[<-dE,<-dX];refine aK fun j hj=>?_;split
   ·rw[he j r hj hrN,if_pos hr];grind
   ·simp
  rw[e];grind
 ·obtain⟨h1,h2,h3⟩:=h.done j hj;refine⟨fun r hr=>by rw[lo j r om om];exact h1 r hr,by rw[lo j j om hj];exact h2,fun r hr1 hr2=>by rw[lo j r om hr2];exact h3 r hr1 hr2⟩
theorem qx{n:Nat}{f:Nat->Int}{i j:Nat}(hi:i<n)(hj:j<n)(hij:i≠j)(h:∀k,k<n->k≠i->k≠j->f k=0):aE n f=f i+f j:=by
 have e:aE n f=aE n (fun k=>(if k=i then f i else 0)+(if k=j then f j else 0)):=aK fun k hk=>by
  by_cases h1:k=i
  ·subst h1;simp[hij]
  ·by_cases h2:k=j
   ·subst h2;simp[h1]
   ·simp[h1,h2,h k hk h1 h2]
 rw[e,dX,cp i hi (fun k _ hk=>by simp[hk]),cp j hj (fun k _ hk=>by simp[hk])]
 simp
theorem HI.comb{N:Nat}{L:iG->Prop}{d M:Nat->Int}(hL:TL N L d M){i j:Nat}{C C':Nat->iG}(h:HI N L d M i C)(hij:i<j)(hj:j<N){a b x y:Int}(hu:a*x+b*y=1)
  (h1:∀r,r<N->C' i r=a*C i r+b*C j r) (h2:∀r,r<N->C' j r=x*C j r-y*C i r) (h3:∀k r,k<N->r<N->k≠i->k≠j->C' k r=C k r):HI N L d M i C':=by
 have hiN:i<N:=om
 refine⟨fun k hk=>?_,fun k hk1 hk2 r hr=>?_,fun v hv h0=>?_,fun k hk=>?_⟩
 ·by_cases e1:k=i
  ·subst e1;exact hL.lat.ext _ _ (hL.lat.comb _ _ (h.mem k hk) (h.mem j hj) a b) (fun r hr=>(h1 r hr).symm)
  ·by_cases e2:k=j
   ·subst e2;exact hL.lat.ext _ _ (hL.lat.comb _ _ (h.mem k hk) (h.mem i hiN) x (-y)) (fun r hr=>by rw[h2 r hr];grind)
   ·exact hL.lat.ext _ _ (h.mem k hk) (fun r hr=>(h3 k r hk hr e1 e2).symm)
 ·have z1:=h.zero i (ah _) hiN r hr;have z2:=h.zero j om hj r hr;by_cases e1:k=i
  ·subst e1;rw[h1 r om,z1,z2];simp
  ·by_cases e2:k=j
   ·subst e2;rw[h2 r om,z1,z2];simp
   ·rw[h3 k r hk2 om e1 e2];exact h.zero k hk1 hk2 r hr
 ·obtain⟨t,z,htz⟩:=h.gen v hv h0;refine⟨fun k=>if k=i then x*t i+y*t j else if k=j then a*t j-b*t i else t k,z,fun r hr hrN=>?_⟩
  rw[htz r hr hrN];congr 1;have e:aE N (fun k=>(if i<=k then C' k r*(if k=i then x*t i+y*t j else if k=j then a*t j-b*t i else t k)else 0)+(-1)*(if i<=k then C k r*t k else 0))=0:=by
   rw[qx hiN hj om (fun k hk e1 e2=>by
    simp only[e1,e2,if_false];split
    ·rw[h3 k r hk hrN e1 e2];omega
    ·simp)]
   simp only[ah,if_true,(om:i<=j),(om:j≠i),if_false]
   rw[h1 r hrN,h2 r hrN];have:C i r*t i=(a*x+b*y)*(C i r*t i):=by rw[hu];omega
   have:C j r*t j=(a*x+b*y)*(C j r*t j):=by rw[hu];omega
   grind
  rw[dX,dE]at e;show _=aE N (fun k=>if i<=k then C' k r*(if k=i then x*t i+y*t j else if k=j then a*t j-b*t i else t k)else 0)
  omega
 ·obtain⟨g1,g2,g3⟩:=h.done k hk;have e:∀r,r<N->C' k r=C k r:=fun r hr=>h3 k r om hr om om;exact⟨fun r hr=>by rw[e r om];exact g1 r hr,by rw[e k om];exact g2,fun r hr1 hr2=>by rw[e r om];exact g3 r hr1 hr2⟩
theorem HI.pivot_eq{N:Nat}{L:iG->Prop}{d M:Nat->Int}(hL:TL N L d M){i:Nat}{C:Nat->iG}(h:HI N L d M i C)(hi:i<N)(hc:∀j,i<j->j<N->C j i=0){p a b:Int}(hp:0<p)(h1:p=a*C i i+b*M i)(h2:p∣C i i)(h3:p∣M i):p=d i:=by
 have h4:d i∣p:=by
  rw[h1];exact iQ (cJ (hL.dvd _ (h.mem i hi) i hi (h.zero i (ah _) hi))) (cJ ⟨M (i+1),hL.step i hi⟩)
 have h5:p∣d i:=by
  obtain⟨x,x1,x2,x3⟩:=hL.col i hi;obtain⟨t,z,htz⟩:=h.gen x x1 x2;have h6:=htz i (ah _) hi;rw[x3,cp i hi (fun j hj hji=>by
   split
   ·rw[hc j om hj];simp
   ·rfl)]at h6
  simp only[ah,if_true]at h6;rw[h6];exact iQ (gO h2) (gO h3)
 exact Int.dvd_antisymm (cu hp) (cu (hL.pos i hi)) h5 h4
theorem HI.pivot{N:Nat}{L:iG->Prop}{d M:Nat->Int}(hL:TL N L d M){i:Nat}{C C':Nat->iG}(h:HI N L d M i C)(hi:i<N)(hc:∀j,i<j->j<N->C j i=0){p a b:Int}(hp:0<p)(h1:p=a*C i i+b*M i)(h2:p∣C i i)(h3:p∣M i)(q:iG)
  (e1:∀r,r<N->C' i r=if r=i then p else a*C i r) (e2:∀j r,j<i->r<N->C' j r=C j r-q j*C' i r) (e3:∀j r,i<j->j<N->r<N->C' j r=C j r) (hq:∀j,j<i->0<=C' j i/\C' j i<p) :
  HI N L d M (i+1) C':=by
 have hpd:=h.pivot_eq hL hi hc hp h1 h2 h3;have hz:=h.zero i (ah _) hi;have hz':∀r,r<i->C' i r=0:=fun r hr=>by rw[e1 r om,if_neg om,hz r hr];simp
 have hmi:L (C' i):=hL.lat.ext _ _ (hL.lat.comb _ _ (h.mem i hi) (hL.unit i i (ah _) hi) a b) (fun r hr=>by
  rw[e1 r hr];simp only[iV];by_cases e:r=i
  ·subst e;simp[h1]
  ·simp[e])
 refine⟨fun j hj=>?_,fun j hj1 hj2 r hr=>?_,fun x hx h0=>?_,fun j hj=>?_⟩
 ·rcases aI j i with h4|h4
  ·exact hL.lat.ext _ _ (hL.lat.comb _ _ (h.mem j hj) hmi 1 (- q j)) (fun r hr=>by rw[e2 j r h4 hr];grind)
  ·by_cases e:j=i
   ·subst e;exact hmi
   ·exact hL.lat.ext _ _ (h.mem j hj) (fun r hr=>(e3 j r om hj hr).symm)
 ·rw[e3 j r om hj2 om];by_cases e:r=i
  ·subst e;exact hc j om hj2
  ·exact h.zero j om hj2 r om
 ·obtain⟨t,z,htz⟩:=h.gen x hx (fun r hr=>h0 r om);have h6:=htz i (ah _) hi;rw[h0 i om,cp i hi (fun j hj hji=>by
   split
   ·rw[hc j om hj];simp
   ·rfl)]at h6
  simp only[ah,if_true]at h6;obtain⟨u,hu⟩:=h2;have hM:=hL.step i hi;rw[<-hpd]at hM;have hab:a*u+b*M (i+1)=1:=by
   rw[hu,hM]at h1;refine dk (om:p≠0) ?_
   grind
  have h7:u*t i+M (i+1)*z i=0:=by
   rw[hu,hM]at h6;refine dk (om:p≠0) ?_
   grind
  have h8:t i=M (i+1)*(b*t i-a*z i):=by
   have:t i=(a*u+b*M (i+1))*t i:=by rw[hab];omega
   have:a*(u*t i+M (i+1)*z i)=0:=by rw[h7];omega
   grind
  refine⟨t,fun r=>C i r*(b*t i-a*z i)+p*z r,fun r hr hrN=>?_⟩;rw[htz r om hrN,hM];have e:aE N (fun j=>(if i<=j then C j r*t j else 0)+(-1)*(if i+1<=j then C' j r*t j else 0))=C i r*t i:=by
   rw[cp i hi (fun j hj hji=>?_)]
   ·rw[if_pos (ah _),if_neg om];omega
   ·by_cases h9:i<=j
    ·rw[if_pos h9,if_pos om,e3 j r om hj hrN];omega
    ·rw[if_neg h9,if_neg om];omega
  rw[dX,dE]at e;have h10:C i r*t i=M (i+1)*(C i r*(b*t i-a*z i)):=by
   have:C i r*t i=C i r*(M (i+1)*(b*t i-a*z i)):=by rw[<-h8]
   grind
  grind
 ·by_cases e:j=i
  ·subst e;exact⟨hz',by rw[e1 j hi,if_pos rfl,hpd],fun r hr1 hr2=>om⟩
  ·obtain⟨g1,g2,g3⟩:=h.done j om;refine⟨fun r hr=>by rw[e2 j r om om,g1 r hr,hz' r om];simp,by rw[e2 j j om om,g2,hz' j om];simp,fun r hr1 hr2=>?_⟩
   by_cases e':r=i
   ·subst e';rw[<-hpd];exact hq j om
   ·rw[e2 j r om om,hz' r om];have:=g3 r hr1 om;simpa using this
theorem HI.span{N:Nat}{L:iG->Prop}{d M:Nat->Int}(hL:TL N L d M){C:Nat->iG}(h:HI N L d M N C)(x:iG):gK N N (fun r j=>C j r) x↔L x:=by
 constructor
 ·exact gK.sub hL.lat (fun j hj=>hL.lat.ext _ _ (h.mem j hj) (fun _ _=>rfl))
 ·intro hx;have hC:=gK.lat N N (fun r j=>C j r);have key:∀i,i<=N->∃y,gK N N (fun r j=>C j r) y/\∀r,r<i->y r=x r:=by
   intro i
   induction i with
   | zero=>intro _;exact⟨_,hC.zero,fun r hr=>om⟩
   | succ i ih =>
    intro hi;obtain⟨y,hy1,hy2⟩:=ih om;have hyL:L y:=gK.sub hL.lat (fun j hj=>hL.lat.ext _ _ (h.mem j hj) (fun _ _=>rfl)) hy1;obtain⟨q,hq⟩:=hL.dvd (fun r=>1*x r+(-1)*y r) (hL.lat.comb _ _ hx hyL 1 (-1)) i om (fun r hr=>by simp only[hy2 r hr];omega)
    refine⟨fun r=>1*y r+q*C i r,hC.comb _ _ hy1 (gK.col (j:=i) om) 1 q,fun r hr=>?_⟩;obtain⟨g1,g2,_⟩:=h.done i om;by_cases e:r=i
    ·subst e;simp only;rw[g2];grind
    ·simp only;rw[g1 r om,hy2 r om];omega
  obtain⟨y,hy1,hy2⟩:=key N (ah _);exact hC.ext _ _ hy1 hy2
def fT(p:Int)(piv:Nat)(q:Nat->Int):aW:=fun i j=>if j=piv then(if i=piv then p*p else 0)else if i=j then p else if i=piv then-(p*q j)else 0
def xt(n:Nat)(p:Int)(piv:Nat)(q x:Nat->Int):aW:=fun i j=>if j<n then fT p piv q i j else x i
theorem I5{n:Nat}{p:Int}{piv:Nat}{q:Nat->Int}(w:Nat->Int)(hpiv:piv<n){j:Nat}(hj:j<n):aE n (fun i=>w i*fT p piv q i j)=if j=piv then w piv*(p*p)else w j*p-w piv*(p*q j):=by
 by_cases e:j=piv
 ·subst e;rw[cp j hj (fun i _ hi=>by simp[fT,hi])];simp[fT]
 ·rw[qx hj hpiv e (fun i _ h1 h2=>by simp[fT,e,h1,h2]),if_neg e]
  simp[fT,e,ao e];grind
theorem I3{p:Int}{piv:Nat}{q:Nat->Int}(i j:Nat):p∣fT p piv q i j:=by
 unfold fT;split
 ·split
  ·exact⟨p,rfl⟩
  ·exact kw _
 ·split
  ·exact jt _
  ·split
   ·exact⟨- q j,by grind⟩
   ·exact kw _
theorem zO{n:Nat}{p:Int}{piv:Nat}{q x:Nat->Int}(i:Nat)(c:Nat->Int):aE (n+1) (fun j=>xt n p piv q x i j*c j)=aE n (fun j=>fT p piv q i j*c j)+x i*c n:=by
 simp only[aE];rw[aK (g:=fun j=>fT p piv q i j*c j) (fun j hj=>by simp[xt,hj])]
 simp[xt]
def gV:Nat->(Nat->Nat)->Nat
 | 0,_=>1
 | n+1,f=>f 0*gV n (fun i=>f (i+1))
theorem qB{n:Nat}{f g:Nat->Nat}(h:∀i,i<n->f i<=g i):gV n f<=gV n g:=by
 induction n generalizing f g with
 | zero=>exact ah _
 | succ n ih=>simp only[gV];exact bN (h 0 om) (ih fun i hi=>h (i+1) om)
theorem yf(n:Nat)(f:Nat->Int):(aE n f).natAbs<=cR n f:=by
 induction n with
 | zero=>simp[aE,cR]
 | succ n ih=>simp only[aE,cR];omega
theorem wy{n:Nat}(f:Nat->Int){j:Nat}(hj:j<n+1):cR n (fun k=>f (skip j k))+(f j).natAbs=cR (n+1) f:=by
 induction n with
 | zero=>rw[(om:j=0)];simp[cR]
 | succ n ih =>
  by_cases e:j=n+1
  ·subst e;rw[show cR (n+1) (fun k=>f (skip (n+1) k))=cR (n+1) f from ?_]
   ·simp only[cR]
   ·have key:∀m,m<=n+1->cR m (fun k=>f (skip (n+1) k))=cR m f:=by
     intro m
     induction m with
     | zero=>intro _;rfl
     | succ m ih2=>intro hm;simp only[cR];rw[ih2 om];simp[skip,(om:m<n+1)]
    exact key _ (ah _)
  ·have:=ih om;simp only[cR]at this ⊢;rw[show skip j n=n+1 by simp[skip];omega]
   omega
theorem Ad:∀(n:Nat) (A:aW),(det n A).natAbs<=gV n (fun i=>cR n (A i))
 | 0,_=>by simp[det,gV]
 | n+1,A=>by
  simp only[det,gV];have key:∀m,m<=n+1->(aE m (fun j=>tq j*A 0 j*det n (jn A j))).natAbs<=cR m (A 0)*gV n (fun i=>cR (n+1) (A (i+1))):=by
   intro m
   induction m with
   | zero=>intro _;simp[aE]
   | succ m ih =>
    intro hm;have h1:=ih om;rw[show cR (m+1) (A 0)=cR m (A 0)+(A 0 m).natAbs from rfl];simp only[aE];rw[Nat.add_mul];have h2:(tq m*A 0 m*det n (jn A m)).natAbs=(A 0 m).natAbs*(det n (jn A m)).natAbs:=by
     rw[fJ,fJ];have:(tq m).natAbs=1:=by unfold tq;split<;>rfl
     rw[this,kg]
    have h3:=Ad n (jn A m);have h4:gV n (fun i=>cR n (jn A m i))<=gV n (fun i=>cR (n+1) (A (i+1))):=qB fun i _=>by
     have:=wy (A (i+1)) (om:m<n+1)
     show cR n (fun k=>A (i+1) (skip m k))<=_;omega
    have h5:=a9 (A 0 m).natAbs (bV h3 h4);omega
  exact key _ (ah _)
theorem zw{A:aW}{n k:Nat}(hk:k<n)(hd:∀j,j<=k->det j A≠0)(h0:∀j,j<n-k->cP A k 0 j=0):det n A=0:=by
 have h1:=pI hd (n-k-1) id id;have h4:det (n-k-1+1) (fun i j=>cP A k (id i) (id j))=0:=BW _ (fun j hj=>h0 j om);rw[h4,(om:k+(n-k-1)+1=n)]at h1
 have h2:det k A^(n-k-1)≠0:=Int.pow_ne_zero (hd k (ah _));have h3:det n (fun i j=>A (up k id i) (up k id j))=det n A:=bF fun i j _ _=>by
  have e:∀i,up k id i=i:=fun i=>by unfold up;split<;>simp;omega
  rw[e,e]
 rw[h3]at h1;rcases jI.1 h1.symm with h|h
 ·exact absurd h h2
 ·exact h
theorem Lw{k p:Nat}(hp:k<=p)(i a:Nat):dU k p (up k (fun _=>i) a)=up k (fun _=>dU 0 (p-k) i) a:=by
 unfold up dU;by_cases h:a<k
 ·simp only[h,if_true];rw[if_neg om,if_neg om]
 ·simp only[h,if_false];by_cases h1:i=0
  ·rw[if_pos om,if_pos h1];omega
  ·by_cases h2:i=p-k
   ·rw[if_neg om,if_pos om,if_neg h1,if_pos h2];omega
   ·rw[if_neg om,if_neg om,if_neg h1,if_neg h2]
theorem Bi{k p:Nat}(A:aW)(hp:k<=p)(i j:Nat):cP (fun a b=>A a (dU k p b)) k i j=cP A k i (dU 0 (p-k) j):=by
 unfold cP;refine bF fun a b ha hb=>?_;show A _ (dU k p (up k (fun _=>j) b))=_;rw[Lw hp]
theorem lv{n:Nat}{f g:Nat->Int}(h:∀i,i<n->f i=g i):cR n f=cR n g:=by
 induction n with
 | zero=>rfl
 | succ n ih=>simp only[cR];rw[ih (fun i hi=>h i om),h n om]
theorem Ii{n m:Nat}(f:Nat->Int)(h:n<=m):cR n f<=cR m f:=by
 induction m with
 | zero=>rw[(om:n=0)];exact ah _
 | succ m ih =>
  rcases aI n (m+1)with h1|h1
  ·have:=ih om;simp only[cR];omega
  ·rw[(om:n=m+1)];exact ah _
theorem iF{n:Nat}(f:Nat->Int){j:Nat}(hj:j<n):cR n (fun b=>if b=j then 0 else f b)+(f j).natAbs=cR n f:=by
 induction n with
 | zero=>omega
 | succ n ih =>
  simp only[cR];rcases aI j n with h|h
  ·have:=ih h;rw[if_neg (om:¬n=j)];omega
  ·rw[(om:j=n),if_pos rfl,lv (g:=f) (fun i hi=>if_neg om)];simp
theorem FR{n:Nat}(f:Nat->Int){i k:Nat}(hi:i<n)(hk:k<n):cR n (fun b=>f (dU i k b))=cR n f:=by
 by_cases e:i=k
 ·subst e;exact lv fun b _=>by unfold dU;split<;>simp_all
 ·have h1:=iF f hi;have h2:=iF (fun b=>if b=i then 0 else f b) hk
  have h3:=iF (fun b=>f (dU i k b)) hi;have h4:=iF (fun b=>if b=i then 0 else f (dU i k b)) hk
  simp only[if_neg (ao e)]at h2 h4;have h5:cR n (fun b=>if b=k then 0 else if b=i then 0 else f (dU i k b))=cR n (fun b=>if b=k then 0 else if b=i then 0 else f b):=lv fun b _=>by
   by_cases c1:b=k
   ·simp[c1]
   ·by_cases c2:b=i
    ·simp[c2]
    ·simp[c1,c2,dU]
  have e1:dU i k i=k:=by simp[dU]
  have e2:dU i k k=i:=by simp[dU]
  rw[e1]at h3;rw[e2]at h4;omega
theorem Cb{N k j:Nat}(g:Nat->Int)(h:k+j<N):cR (k+1) (fun b=>g (up k (fun _=>j) b))<=cR N g:=by
 have h1:=iF g h;have h2:cR k (fun b=>g (up k (fun _=>j) b))=cR k (fun b=>if b=k+j then 0 else g b):=lv fun b hb=>by
  simp only[up,hb,if_true];rw[if_neg om]
 have h3:=Ii (fun b=>if b=k+j then 0 else g b) (om:k<=N)
 simp only[cR];rw[h2,show up k (fun _=>j) k=k+j by simp[up]]
 omega
structure kF(A:aW)(N:Nat)(σ:Nat->Nat)(k:Nat):Prop where
 lead:∀j,j<=k->det j (fun a b=>A a (σ b))≠0
 abs:∀B:aW,(det N (fun a b=>B a (σ b))).natAbs=(det N B).natAbs
 sum:∀f:Nat->Int,cR N (fun b=>f (σ b))=cR N f
theorem kF.init(A:aW)(N:Nat):kF A N id 0:=⟨fun j hj=>by rw[(om:j=0)];simp[det],fun _=>rfl,fun _=>rfl⟩
theorem kF.swap{A:aW}{N:Nat}{σ:Nat->Nat}{k p:Nat}(h:kF A N σ k)(hk:k<=p)(hp:p<N):kF A N (fun a=>σ (dU k p a)) k:=by
 refine⟨fun j hj=>?_,fun B=>?_,fun f=>?_⟩
 ·have e:det j (fun a b=>A a (σ (dU k p b)))=det j (fun a b=>A a (σ b)):=bF fun a b _ hb=>by rw[show dU k p b=b by unfold dU;rw[if_neg om,if_neg om]]
  rw[e];exact h.lead j hj
 ·by_cases e:k=p
  ·subst e;rw[show(fun a b=>B a (σ (dU k k b)))=fun a b=>B a (σ b) by funext a b;rw[show dU k k b=b by unfold dU;split<;>simp_all]]
   exact h.abs B
  ·have:=oV (fun a b=>B a (σ b)) (om:k<N) hp e
   rw[this,Int.natAbs_neg];exact h.abs B
 ·rw[FR (fun b=>f (σ b)) (om:k<N) hp];exact h.sum f
theorem kF.step{A:aW}{N:Nat}{σ:Nat->Nat}{k:Nat}(h:kF A N σ k)(h0:cP (fun a b=>A a (σ b)) k 0 0≠0):kF A N σ (k+1) :=
 ⟨fun j hj=>by
  rcases aI j (k+1)with h1|h1
  ·exact h.lead j om
  ·rw[(om:j=k+1),<-c8];exact h0,h.abs,h.sum⟩
def qN(n R i:Nat):Nat:=if i<n then i else R
theorem LC{n R a:Nat}(hR:n<=R):up n (fun _=>R-n) a=qN n R a:=by simp only[up,qN];split<;>omega
theorem Jh{A:aW}{n R:Nat}(hR:n<=R):cP A n (R-n) 0=det (n+1) (fun a b=>A (qN n R a) b):=by
 unfold cP;refine bF fun a b _ hb=>?_;rw[LC hR,nm _ _ hb]
theorem kF.found{A:aW}{n R:Nat}{σ:Nat->Nat}{k:Nat}(h:kF A (n+1) σ k)(hk:k<n)(hd:det (n+1) (fun a b=>A (qN n R a) b)≠0):¬∀j,j<n+1-k->cP (fun a b=>A a (σ b)) k 0 j=0:=by
 intro h0;have e:∀m,m<=n->∀B:aW,det m (fun a b=>B (qN n R a) b)=det m B:=fun m hm B=>bF fun a b ha _=>by rw[show qN n R a=a by unfold qN;rw[if_pos om]]
 have h1:=zw (A:=fun a b=>A (qN n R a) (σ b)) (om:k<n+1) (fun j hj=>by rw[e j om (fun a b=>A a (σ b))];exact h.lead j hj) (fun j hj=>by
  rw[<-h0 j hj];unfold cP;refine bF fun a b ha _=>?_;rw[nm _ _ ha];simp only[qN];rw[if_pos (om:a<n)])
 have h2:=h.abs (fun a b=>A (qN n R a) b);rw[h1]at h2;exact hd om
theorem kF.last{A:aW}{n R:Nat}{σ:Nat->Nat}{k:Nat}(h:kF A (n+1) σ k)(hR:n<=R):(cP (fun a b=>A a (σ b)) n (R-n) 0).natAbs=(det (n+1) (fun a b=>A (qN n R a) b)).natAbs:=by
 rw[Jh (A:=fun a b=>A a (σ b)) hR];exact h.abs (fun a b=>A (qN n R a) b)
theorem Hy:∀(n:Nat) (A:aW),(∀i j,i<n->j<n->A i j=if j=i then 1 else 0)->det n A=1
 | 0,_,_=>rfl
 | n+1,A,h=>by
  rw[sN A (fun i hi=>by rw[h _ _ om om,if_neg om]),h 0 0 om om,Hy n _ (fun i j hi hj=>by
   rw[h _ _ om om];by_cases e:j=i
   ·simp[e]
   ·rw[if_neg e,if_neg om])]
  simp
theorem xE{n:Nat}(A:aW)(h:∀i,i<n->∀c:Nat->Int,(∀r,r<n->aE n (fun j=>(if r<i then eW r j else A r j)*c j)=0)->c i=0):det n A≠0:=by
 have key:∀m i,i+m=n->det n (fun r j=>if r<i then eW r j else A r j)≠0:=by
  intro m
  induction m with
  | zero =>
   intro i hi;rw[Hy n _ (fun a b ha hb=>by rw[if_pos om];rfl)];decide
  | succ m ih =>
   intro i hi hz;have h1:=ih (i+1) om;refine h1 ?_;have h2:=h i om (fun j=>pY n (fun r j=>if r<i then eW r j else A r j) i j) (fun r hr=>by
    refine(zP (fun r j=>if r<i then eW r j else A r j) (om:i<n) hr).trans ?_
    rw[hz];simp)
   rw[<-h2];unfold pY;refine bF fun a b _ _=>?_;unfold setRow;by_cases e:a=i
   ·simp[e]
   ·by_cases e2:a<i
    ·simp[e,e2,(om:a<i+1)]
    ·simp[e,e2,(om:¬a<i+1)]
 have:=key n 0 om;simpa using this
def dJ(n:Nat)(M:aW):aW:=fun r j=>if r<n then M r j else if r=n+j then 1 else 0
theorem Bd{n:Nat}(c:Nat->Int){r:Nat}(hr:r<n):aE n (fun j=>eW r j*c j)=c r:=by
 rw[cp r hr (fun i _ hi=>by simp[eW,hi])];simp[eW]
theorem BB{n:Nat}{p:Int}(hp:p≠0){piv:Nat}(hpiv:piv<n)(q x:Nat->Int):det (n+1) (fun a b=>dJ n (xt n p piv q x) (qN n (n+n) a) b)≠0:=by
 refine xE _ fun i hi c hc=>?_;have rowU:∀r,r<n+1->r<i->c r=0:=fun r hr hri=>by
  have:=hc r hr;rw[aK (g:=fun j=>eW r j*c j) (fun j _=>by rw[if_pos hri]),Bd c hr]at this
  exact this
 have hcn:c n=0:=by
  by_cases h:n<i
  ·exact rowU n om h
  ·have:=hc n om;rw[aK (g:=fun j=>eW n j*c j) (fun j _=>by
    rw[if_neg h];simp only[qN,dJ,eW];by_cases e:j=n
    ·simp[e,(om:¬n+n<n)]
    ·simp[e,(om:¬n+n<n),ao e]),Bd c om]at this
   exact this
 have rowM:∀r,r<n->¬r<i->aE n (fun j=>fT p piv q r j*c j)=0:=fun r hr hri=>by
  have:=hc r om;rw[aK (g:=fun j=>xt n p piv q x r j*c j) (fun j _=>by rw[if_neg hri];simp[qN,dJ,hr]),zO,hcn]at this
  omega
 have hoth:∀r,r<n->r≠piv->c r=0:=fun r hr hne=>by
  by_cases h:r<i
  ·exact rowU r om h
  ·have:=rowM r hr h;rw[cp r hr (fun j _ hj=>by
    simp only[fT];by_cases e:j=piv
    ·simp[e,hne]
    ·simp[e,hne,ao hj])]at this
   simp[fT,hne]at this;rcases jI.1 this with h|h
   ·exact absurd h hp
   ·exact h
 have hpv:c piv=0:=by
  by_cases h:piv<i
  ·exact rowU piv om h
  ·have:=rowM piv hpiv h;rw[cp piv hpiv (fun j hj hne=>by rw[hoth j hj hne];simp)]at this
   simp[fT]at this;rcases jI.1 this with h|h
   ·rcases jI.1 h with h|h<;>exact absurd h hp
   ·exact h
 rcases aI i n with h|h
 ·by_cases e:i=piv
  ·rw[e];exact hpv
  ·exact hoth i h e
 ·rw[(om:i=n)];exact hcn
def xq(n piv r:Nat):Nat:=if r<n then(if r=piv then 1665 else 33)else 1
theorem sU{n:Nat}{f:Nat->Int}{k:Nat}(hk:k<n)(h:∀i,i<n->i≠k->f i=0):cR n f=(f k).natAbs:=by
 have h1:=iF f hk;have h2:cR n (fun b=>if b=k then 0 else f b)=0:=by
  have:∀m,m<=n->cR m (fun b=>if b=k then 0 else f b)=0:=by
   intro m
   induction m with
   | zero=>intro _;rfl
   | succ m ih =>
    intro hm;simp only[cR];rw[ih om];by_cases e:m=k
    ·simp[e]
    ·simp[e,h m om e]
  exact this n (ah _)
 omega
theorem qH{n:Nat}{f:Nat->Int}{B:Nat}(h:∀i,i<n->(f i).natAbs<=B):cR n f<=n*B:=by
 induction n with
 | zero=>simp[cR]
 | succ n ih=>have:=ih (fun i hi=>h i om);have:=h n om;simp only[cR];rw[ia];omega
theorem LN{n:Nat}{p:Int}{piv:Nat}{q x:Nat->Int}(hn:n<=5)(hp:0<p)(hp2:p<=17)(hpiv:piv<n)(hq:∀j,j<n->0<=q j/\q j<=16)(hx:∀i,i<n->i≠piv->(x i).natAbs<=16)(hxp:(x piv).natAbs<=288)(r:Nat) :
  cR (n+1) (dJ n (xt n p piv q x) r)<=xq n piv r:=by
 unfold xq;split
 ·rename_i hr;have e1:cR (n+1) (dJ n (xt n p piv q x) r)=cR n (fT p piv q r)+(x r).natAbs:=by
   simp only[cR];rw[lv (g:=fT p piv q r) (fun j hj=>by simp[dJ,hr,xt,hj])]
   simp[dJ,hr,xt]
  rw[e1];split
  ·rename_i e;subst e;have h1:=iF (fT p r q r) hr;have h2:cR n (fun b=>if b=r then 0 else fT p r q r b)<=4*272:=by
    have h3:∀b,b<n->(if b=r then 0 else fT p r q r b).natAbs<=272:=fun b hb=>by
     by_cases e:b=r
     ·simp[e]
     ·have hqb:=hq b hb;simp only[nn e,if_false,fT,if_true];have:(p*q b).natAbs<=17*16:=by rw[fJ];exact bN om om
      omega
    have h4:=iF (fun b=>if b=r then 0 else fT p r q r b) hr
    have h5:=wy (n:=n-1) (fun b=>if b=r then 0 else fT p r q r b) (j:=r) om
    have h6:=qH (n:=n-1) (f:=fun k=>(fun b=>if b=r then 0 else fT p r q r b) (skip r k)) (B:=272) (fun i hi=>h3 _ (by have:=qW (j:=r) hi;omega))
    have h7:(n-1)*272<=4*272:=bY _ om;rw[(om:n-1+1=n)]at h5
    simp only[if_true,Int.natAbs_zero]at h5 h6;omega
   have h8:(fT p r q r r).natAbs<=17*17:=by
    simp only[fT,if_true];rw[fJ];exact bN om om
   omega
  ·rename_i e;rw[sU hr (fun j _ hj=>by
    simp only[fT];by_cases e2:j=piv
    ·simp[e2,e]
    ·simp[e2,e,ao hj])]
   have:=hx r hr e;simp only[fT,e,if_true,if_false];omega
 ·rename_i hr;rcases aI r (n+n+1)with h|h
  ·rw[sU (k:=r-n) om (fun j _ hj=>by simp only[dJ,hr,if_false];rw[if_neg om])]
   simp only[dJ,hr,if_false];split<;>simp
  ·rw[sU (k:=0) om (fun j hj _=>by simp only[dJ,hr,if_false];rw[if_neg om])]
   simp only[dJ,hr,if_false];split<;>simp
def upOk:Bool:=(cn 6).all fun n=>(cn 6).all fun piv=>(cn 6).all fun k=>(cn 12).all fun r=>decide (n<k)||decide (r<k)||decide (gV (k+1) (fun a=>xq n piv (if a<k then a else r))<=1974558465)
def cofOk:Bool:=(cn 6).all fun n=>(cn 6).all fun piv=>(cn 6).all fun i=>decide (n<=i)||decide (n<=piv)||decide (gV (n+1) (fun a=>if a=i then 1 else xq n piv (qN n n a))<=59835105)
theorem E3:upOk=true:=by decide +kernel
theorem L5:cofOk=true:=by decide +kernel
theorem D7{n piv k r:Nat}(hn:n<6)(hp:piv<6)(hk:k<=n)(hr:k<=r)(hr2:r<12):gV (k+1) (fun a=>xq n piv (if a<k then a else r))<=1974558465:=by
 have h:=E3;unfold upOk at h;simp only[List.all_eq_true,List.mem_range]at h;have:=h n hn piv hp k om r hr2;simp only[Bool.or_eq_true,decide_eq_true_eq]at this;omega
def bz(x y:Nat):Int×Int×Int :=
 if h:y=0 then(x,1,0)else
  have:x%y<y:=eP _ (lE h)
  ((bz y (x%y)).1,(bz y (x%y)).2.2,(bz y (x%y)).2.1-((x/y:Nat):Int)*(bz y (x%y)).2.2)
termination_by y
theorem mF(x:Nat):bz x 0=((x:Int),1,0):=by rw[bz];simp
theorem rA(x:Nat){y:Nat}(h:y≠0):bz x y=((bz y (x%y)).1,(bz y (x%y)).2.2,(bz y (x%y)).2.1-((x/y:Nat):Int)*(bz y (x%y)).2.2):=by
 rw[bz];simp[h]
theorem H7:∀(n x y:Nat),y<=n->(bz x y).1=(bz x y).2.1*x+(bz x y).2.2*y:=by
 intro n
 induction n with
 | zero=>intro x y h;rw[(om:y=0),mF];simp
 | succ n ih =>
  intro x y h;by_cases h0:y=0
  ·rw[h0,mF];simp
  ·have h1:=ih y (x%y) (by have:=eP x (lE h0);omega)
   rw[rA x h0];simp only;rw[h1];have e:(x:Int)=((x/y:Nat):Int)*y+((x%y:Nat):Int):=by
    have:=gS x y;rw[aS]at this
    exact_mod_cast this.symm
   generalize ((x/y:Nat):Int)=q at *;generalize ((x%y:Nat):Int)=r at *;rw[e];grind
theorem H8:∀(n x y:Nat),y<=n->(bz x y).1∣(x:Int)/\(bz x y).1∣(y:Int):=by
 intro n
 induction n with
 | zero=>intro x y h;rw[(om:y=0),mF];exact⟨jt _,kw _⟩
 | succ n ih =>
  intro x y h;by_cases h0:y=0
  ·rw[h0,mF];exact⟨jt _,kw _⟩
  ·have h1:=ih y (x%y) (by have:=eP x (lE h0);omega)
   rw[rA x h0];refine⟨?_,h1.1⟩;have e:(x:Int)=(y:Int)*((x/y:Nat):Int)+((x%y:Nat):Int):=by exact_mod_cast (gS x y).symm
   rw[e];exact iQ (gO h1.1) h1.2
theorem Dq:∀(n x y:Nat),y<=n->(0<x∨0<y)->0<(bz x y).1/\(bz x y).1<=max x y:=by
 intro n
 induction n with
 | zero=>intro x y h h';rw[(om:y=0),mF];simp only;omega
 | succ n ih =>
  intro x y h h';by_cases h0:y=0
  ·rw[h0,mF];simp only;omega
  ·have hm:=eP x (lE h0);have h1:=ih y (x%y) om om;rw[rA x h0];simp only;omega
theorem H9:∀(n x y:Nat),y<=n->0<y->((bz x y).2.1).natAbs<=y/\((bz x y).2.2).natAbs<=max 1 x:=by
 intro n
 induction n with
 | zero=>intro x y h h';omega
 | succ n ih =>
  intro x y h h';have hm:=eP x h';rw[rA x om];simp only;by_cases h0:x%y=0
  ·rw[h0,mF];simp only;omega
  ·have h1:=ih y (x%y) om om;have e:=gS x y;have hq:(((x/y:Nat):Int)*(bz y (x%y)).2.2).natAbs<=x/y*y:=by
    rw[fJ,Int.natAbs_natCast];exact a9 _ om
   rw[aS]at e;omega
structure KC(x0 y0 x y:Nat)(a b na nb:Int):Prop where
 fa:a*(bz x y).2.1+na*(bz x y).2.2=(bz x0 y0).2.1
 fb:b*(bz x y).2.1+nb*(bz x y).2.2=(bz x0 y0).2.2
 fd:(bz x y).1=(bz x0 y0).1
 pos:0<x∨0<y
 sa:na.natAbs*x+a.natAbs*y=y0
 sb:nb.natAbs*x+b.natAbs*y=x0
 ga:(0<=a/\na<=0)∨(a<=0/\0<=na)
 gb:(0<=b/\nb<=0)∨(b<=0/\0<=nb)
 la:a.natAbs<=max 1 y0
 lb:b.natAbs<=max 1 x0
 lna:na.natAbs<=max 1 y0
 lnb:nb.natAbs<=max 1 x0
 lx:x<=max x0 y0
 ly:y<=max x0 y0
theorem KC.init{x0 y0:Nat}(h:0<x0∨0<y0):KC x0 y0 x0 y0 1 0 0 1:=by
 refine⟨sm,sm,rfl,h,sm,sm,sm,sm,by simp;omega,sm,sm,by simp;omega,om,om⟩
theorem vI{a q b:Int}(hq:0<=q)(h:(0<=a/\b<=0)∨(a<=0/\0<=b)):(a-q*b).natAbs=a.natAbs+q.natAbs*b.natAbs/\((0<=b/\a-q*b<=0)∨(b<=0/\0<=a-q*b)):=by
 rcases h with⟨h1,h2⟩|⟨h1,h2⟩
 ·have h3:0<=q*(-b):=du hq om;rw[qq]at h3;rw[<-fJ];omega
 ·have h3:0<=q*b:=du hq h2;rw[<-fJ];omega
theorem KC.step{x0 y0 x y:Nat}{a b na nb:Int}(h:KC x0 y0 x y a b na nb)(hy:y≠0):KC x0 y0 y (x%y) na nb (a-((x/y:Nat):Int)*na) (b-((x/y:Nat):Int)*nb):=by
 have e:=gS x y;have hs:=rA x hy;have ha:=vI (q:=((x/y:Nat):Int)) (et _) h.ga;have hb:=vI (q:=((x/y:Nat):Int)) (et _) h.gb;rw[Int.natAbs_natCast]at ha hb;have sa:(a-((x/y:Nat):Int)*na).natAbs*y+na.natAbs*(x%y)=y0:=by
  rw[ha.1];have:=h.sa;generalize x/y=q at *;generalize x%y=r at *;subst e;rw[<-this];grind
 have sb:(b-((x/y:Nat):Int)*nb).natAbs*y+nb.natAbs*(x%y)=x0:=by
  rw[hb.1];have:=h.sb;generalize x/y=q at *;generalize x%y=r at *;subst e;rw[<-this];grind
 have l1:∀c d:Nat,c*y+d=y0->c<=y0:=fun c d h=>by
  have:c*1<=c*y:=a9 _ om;omega
 have l2:∀c d:Nat,c*y+d=x0->c<=x0:=fun c d h=>by
  have:c*1<=c*y:=a9 _ om;omega
 refine⟨?_,?_,?_,Or.inl om,sa,sb,ha.2,hb.2,h.lna,h.lnb,by have:=l1 _ _ sa;omega,by have:=l2 _ _ sb;omega,h.ly,by have:=h.ly;have:=eP x (lE hy);omega⟩
 ·have:=h.fa;rw[hs]at this;simp only at this;rw[<-this];grind
 ·have:=h.fb;rw[hs]at this;simp only at this;rw[<-this];grind
 ·have:=h.fd;rw[hs]at this;exact this
theorem KC.fin{x0 y0 x:Nat}{a b na nb:Int}(h:KC x0 y0 x 0 a b na nb):bz x0 y0=((x:Int),a,b):=by
 have h1:=h.fa;have h2:=h.fb;have h3:=h.fd;rw[mF]at h1 h2 h3;simp only at h1 h2 h3;ext<;>simp only<;>omega
theorem Hf{n:Nat}{w H M:aW}(hw:∀i j,i<n->j<n+1->w i j=M i j)(hH:∀x,gK (n+1) (n+1) H x↔gK (n+1) (n+1) w x)(hz:∀i,i<n->H i n=0)(y:iG):gK n n H y↔gK n (n+1) M y:=by
 constructor
 ·rintro⟨c,hc⟩;obtain⟨d,hd⟩:=(hH (fun i=>aE (n+1) (fun j=>H i j*(if j<n then c j else 0)))).1 ⟨_,fun _ _=>rfl⟩
  refine⟨d,fun i hi=>?_⟩;have h1:(aE (n+1) fun j=>H i j*(if j<n then c j else 0))=aE (n+1) fun j=>w i j*d j:=hd i om
  simp only[aE]at h1;rw[aK (g:=fun j=>H i j*c j) (fun j hj=>by rw[if_pos hj]),<-hc i hi,if_neg (cA n)]at h1
  simp only[aE];rw[aK (g:=fun j=>w i j*d j) (fun j hj=>by rw[hw i j hi om]),<-hw i n hi om]
  omega
 ·rintro⟨d,hd⟩;obtain⟨c,hc⟩:=(hH (fun i=>aE (n+1) (fun j=>w i j*d j))).2 ⟨d,fun _ _=>rfl⟩;refine⟨c,fun i hi=>?_⟩;have h1:(aE (n+1) fun j=>w i j*d j)=aE (n+1) fun j=>H i j*c j:=hc i om;rw[hd i hi];rw[aK (g:=fun j=>M i j*d j) (fun j hj=>by rw[hw i j hi hj])]at h1
  rw[h1];simp only[aE];rw[hz i hi];simp
theorem Fr{N:Nat}{w H:aW}(hN:1<=N)(hH:∀j,j<N->gK N N w (fun i=>H i j)) :
  ∃U:aW,(∀i j,i<N->j<N->mm N w U i j=H i j)/\∀i j,i<N->j<N->mm N (lQ N w) H i j=det N w*U i j:=by
 have hc:∃U:aW,∀i j,i<N->j<N->mm N w U i j=H i j:=by
  have h1:∀j,∃c:iG,j<N->∀i,i<N->H i j=aE N (fun k=>w i k*c k):=fun j=>by
   by_cases hj:j<N
   ·obtain⟨c,hc⟩:=hH j hj;exact⟨c,fun _=>hc⟩
   ·exact⟨fun _=>0,fun h=>absurd h hj⟩
  refine⟨fun k j=>df (h1 j) k,fun i j hi hj=>?_⟩;exact(dS (h1 j) hj i hi).symm
 obtain⟨U,hU⟩:=hc;refine⟨U,hU,fun i j hi hj=>?_⟩;rw[vK (A':=lQ N w) (B':=mm N w U) (fun _ _=>rfl) (fun k hk=>(hU k j hk hj).symm),<-o9];unfold mm;rw[cp i hi (fun k hk hki=>by
  have:=pU hN w hi hk;unfold mm at this;rw[this,if_neg (ao hki)];simp)]
 have:=pU hN w hi hi;unfold mm at this;rw[this,if_pos rfl]
theorem TL.uniq{N:Nat}{L:iG->Prop}{d M d' M':Nat->Int}(h:TL N L d M)(h':TL N L d' M'):∀m i,N-i<=m->i<=N->M i=M' i
 | 0,i,h1,h2=>by rw[(om:i=N),h.last,h'.last]
 | m+1,i,h1,h2=>by
  by_cases e:i=N
  ·rw[e,h.last,h'.last]
  ·rw[h.step i om,h'.step i om,TL.uniq h h' m (i+1) om om];have a:d i∣d' i:=by
    obtain⟨x,hx,hz,he⟩:=h'.col i om;rw[<-he];exact h.dvd x hx i om hz
   have b:d' i∣d i:=by
    obtain⟨x,hx,hz,he⟩:=h.col i om;rw[<-he];exact h'.dvd x hx i om hz
   rw[Int.dvd_antisymm (cu (h.pos i om)) (cu (h'.pos i om)) a b]
theorem z8{n c:Nat}(A:aW)(hc:c<n)(h:∀i,i<n->A i c=0):det n A=0:=by
 have h1:=pT A hc 0 0 (fun _=>0) (fun _=>0);rw[bF (B:=bK A c (fun j=>0*(fun _=>0) j+0*(fun _=>0) j)) (fun a b ha _=>by
  simp only[bK];split
  ·rename_i e;rw[e,h a ha];simp
  ·rfl),h1]
 simp
theorem z9{n k:Nat}(A:aW)(hk:k<n)(h:∀j,j<n->A k j=eW k j):det n A=det n (bK A k (eW k)):=by
 have key:∀m,m<=n->det n (fun a b=>if a<m/\a≠k/\b=k then 0 else A a b)=det n A:=by
  intro m
  induction m with
  | zero=>intro _;exact bF fun a b _ _=>by simp
  | succ m ih =>
   intro hm;rw[<-ih om];by_cases e:m=k
   ·subst e;exact bF fun a b _ _=>by
     by_cases e:a=m
     ·simp[e]
     ·by_cases e2:a<m
      ·simp[e2,(om:a<m+1)]
      ·simp[e2,(om:¬a<m+1)]
   ·have h1:=ka (fun a b=>if a<m/\a≠k/\b=k then 0 else A a b) (i:=m) (k:=k) om hk e 1 (- A m k)
    rw[eg]at h1;rw[<-h1];refine bF fun a b _ hb=>?_;simp only[setRow];have h2:=h b hb;unfold eW at h2;by_cases e1:a=m
    ·subst e1;by_cases e3:b=k
     ·subst e3;simp[e,h2];omega
     ·simp[e3,h2]
    ·rw[if_neg e1];by_cases e2:a<m
     ·simp[e2,(om:a<m+1)]
     ·simp[e2,(om:¬a<m+1)]
 rw[<-key n (ah _)];refine bF fun a b ha hb=>?_;simp only[bK,eW];by_cases e:b=k
 ·subst e;by_cases e2:a=b
  ·subst e2;rw[h a ha];simp[eW]
  ·simp[ha,e2]
 ·simp[e]
theorem Fw{n piv:Nat}(hp:piv<n)(r s:Nat->Int)(hs:∀i,i<n->0<s i):det n (fun i j=>if i=piv then r j else if i=j then s i else 0)=r piv*fq n (fun i=>if i=piv then 1 else s i):=by
 have h1:=wd (fun i j=>if i=piv then r j else if i=j then s i else 0) hp r
 rw[bF (B:=setRow (fun i j=>if i=piv then r j else if i=j then s i else 0) piv r) (fun a b _ _=>by simp only[setRow];split<;>rfl),<-h1]
 rw[cp piv hp (fun j hj hne=>by
  unfold pY;rw[z8 _ hp (fun i hi=>?_),oO];simp only[setRow,eW];by_cases e:i=piv
  ·rw[if_pos e,if_neg (ao hne)]
  ·rw[if_neg e,if_neg e,if_neg e])]
 congr 1;unfold pY;have h2:=oc (n:=0) n (fun i j=>if i=j then(if i=piv then 1 else s i)else 0) (by
  rw[aF];refine fun r hr=>⟨fun j h1 h2=>if_neg om,?_⟩;show(0:Int)<(if r=r then(if r=piv then 1 else s r)else 0)
  rw[if_pos rfl];split
  ·decide
  ·exact hs r hr)
 rw[aF]at h2;rw[bF (B:=fun i j=>if i=j then(if i=piv then 1 else s i)else 0) (fun a b _ _=>by
  simp only[setRow,eW];by_cases e:a=piv
  ·subst e;by_cases e2:b=a
   ·simp[e2]
   ·simp[e2,ao e2]
  ·simp[e]),h2]
 simp only[if_true,det,ij]
theorem o5{n:Nat}{f g:Nat->Int}(h:∀i,i<n->f i=g i):fq n f=fq n g:=by
 induction n generalizing f g with
 | zero=>rfl
 | succ n ih=>simp only[fq];rw[h 0 om,ih fun i hi=>h (i+1) om]
theorem vj{n a:Nat}(ha:a<n)(f:Nat->Int):fq n (fun i=>if i=a then 1 else f i)*f a=fq n f:=by
 induction n generalizing a f with
 | zero=>omega
 | succ n ih =>
  simp only[fq]
  cases a with
  | zero =>
   rw[if_pos rfl,o5 (g:=fun i=>f (i+1)) (fun i _=>if_neg om),eg,cF]
  | succ a =>
   have:=ih (a:=a) om (fun i=>f (i+1));rw[if_neg om,o5 (g:=fun i=>if i=a then 1 else f (i+1)) (fun i _=>by
    by_cases e:i=a
    ·simp[e]
    ·simp[e]),fK,this]
theorem Bu(n:Nat)(p:Int):fq n (fun _=>p)=p^n:=by
 induction n with
 | zero=>simp[fq]
 | succ n ih=>simp only[fq];rw[ih,eY,cF]
theorem Bl{n:Nat}{p:Int}(hp:p≠0){piv:Nat}(hpiv:piv<n){w q:Nat->Int}{inv:Int}(hinv:p∣inv*w piv-1)(hq:∀j,j<n->j≠piv->p∣q j*w piv-w j)(y:iG) :
  gK n n (fT p piv q) y↔∃a:iG,(∀i,i<n->y i=p*a i)/\p∣aE n (fun i=>w i*a i):=by
 constructor
 ·rintro⟨c,hc⟩;have hd:∀i,i<n->y i=p*(y i/p):=fun i hi=>by
   rw[iO];rw[hc i hi];exact iR fun j _=>gO (I3 _ _)
  refine⟨fun i=>y i/p,hd,?_⟩;have e1:p*aE n (fun i=>w i*(y i/p))=aE n (fun j=>c j*aE n (fun i=>w i*fT p piv q i j)):=by
   rw[<-dE,aK (g:=fun i=>aE n (fun j=>c j*(w i*fT p piv q i j))) (fun i hi=>by
    have h9:=hd i hi;rw[show p*(w i*(y i/p))=w i*(p*(y i/p)) by grind,<-h9,hc i hi,<-dE]
    exact aK fun j _=>by grind),nT]
   exact aK fun j _=>by rw[dE]
  have d1:p*p∣aE n (fun j=>c j*aE n (fun i=>w i*fT p piv q i j)):=iR fun j hj=>by
   refine cJ ?_;rw[I5 w hpiv hj];split
   ·exact⟨w piv,by grind⟩
   ·rename_i e;obtain⟨t,ht⟩:=hq j hj e;exact⟨- t,by
     have:w j=q j*w piv-p*t:=om
     rw[this];grind⟩
  obtain⟨u,hu⟩:=d1;exact⟨u,dk hp (by rw[e1,hu,fK])⟩
 ·rintro⟨a,ha,s,hs⟩;obtain⟨Q,hQ⟩:∃Q,Q=aE n (fun j=>if j=piv then 0 else q j*a j):=⟨_,rfl⟩
  have h1:p∣w piv*(a piv+Q):=by
   have e:w piv*(a piv+Q)=aE n (fun i=>w i*a i)+aE n (fun j=>if j=piv then 0 else(q j*w piv-w j)*a j):=by
    rw[hQ,Int.mul_add,<-dE,<-dX];have e3:w piv*a piv=aE n (fun j=>if j=piv then w j*a j else 0):=by
     rw[cp piv hpiv (fun i _ hi=>by rw[if_neg hi])];simp
    rw[e3,<-dX];exact aK fun j _=>by
     by_cases e:j=piv
     ·simp[e]
     ·simp[e];grind
   rw[e,hs];refine iQ ⟨s,rfl⟩ (iR fun j hj=>?_);split
   ·exact kw _
   ·exact gO (hq j hj (by assumption))
  obtain⟨r,hr⟩:p∣a piv+Q:=by
   obtain⟨u,hu⟩:=h1;obtain⟨t,ht⟩:=hinv;refine⟨inv*u-t*(a piv+Q),?_⟩;have e:inv*(w piv*(a piv+Q))=inv*(p*u):=by rw[hu]
   have e2:inv*w piv=1+p*t:=om
   grind
  refine⟨fun j=>if j=piv then r else a j,fun i hi=>?_⟩
  rw[ha i hi];by_cases e:i=piv
  ·subst e;rw[aK (g:=fun j=>(if j=i then p*p*r else 0)+(- p)*(if j=i then 0 else q j*a j)) (fun j hj=>by
    by_cases e:j=i
    ·subst e;simp[fT]
    ·simp[fT,e,ao e];grind),dX,dE,<-hQ,cp i hi (fun j _ hj=>by rw[if_neg hj])]
   simp only[if_true];have:Q=p*r-a i:=om
   rw[this];grind
  ·rw[cp i hi (fun j hj hji=>by
    by_cases e2:j=piv
    ·simp[fT,e2,e]
    ·simp[fT,e2,e,ao hji])]
   simp[fT,e]
def DI(n:Nat)(p:Int)(w x y:iG):Prop:=∃(c:Int) (a:iG),(∀i,i<n->y i=c*x i+p*a i)/\p∣aE n (fun i=>w i*a i)
theorem Es{n:Nat}{p:Int}(hp:p≠0){piv:Nat}(hpiv:piv<n){w x q:Nat->Int}{inv:Int}(hinv:p∣inv*w piv-1)(hq:∀j,j<n->j≠piv->p∣q j*w piv-w j)(y:iG) :
  gK n (n+1) (xt n p piv q x) y↔DI n p w x y:=by
 have hs:=Bl hp hpiv hinv hq;constructor
 ·rintro⟨c,hc⟩;obtain⟨a,ha,hw⟩:=(hs (fun i=>aE n fun j=>fT p piv q i j*c j)).1 ⟨c,fun _ _=>rfl⟩;exact⟨c n,a,fun i hi=>by rw[hc i hi,zO,ha i hi];grind,hw⟩
 ·rintro⟨c,a,ha,hw⟩;obtain⟨d,hd⟩:=(hs (fun i=>p*a i)).2 ⟨a,fun _ _=>rfl,hw⟩;refine⟨fun j=>if j=n then c else d j,fun i hi=>?_⟩
  have hdi:=hd i hi;dsimp only at hdi;have hs2:aE n (fun j=>fT p piv q i j*(if j=n then c else d j))=aE n (fun j=>fT p piv q i j*d j):=aK fun j hj=>by rw[if_neg om]
  rw[zO,ha i hi,hdi,hs2];simp only[if_true];grind
theorem uW{n:Nat}(w a b:iG)(k:Int):aE n (fun i=>w i*(a i+k*b i))=aE n (fun i=>w i*a i)+k*aE n (fun i=>w i*b i):=by
 rw[<-dE,<-dX];exact aK fun i _=>by grind
theorem DI.change{n:Nat}{p:Int}{w x a:iG}(ha:p∣aE n (fun i=>w i*a i)){y:iG}(h:DI n p w x y):DI n p w (fun i=>x i+p*a i) y:=by
 obtain⟨c,b,h1,h2⟩:=h;refine⟨c,fun i=>b i+(-c)*a i,fun i hi=>by rw[h1 i hi];grind,?_⟩
 rw[uW];exact iQ h2 (cJ ha)
theorem DI.change_iff{n:Nat}{p:Int}{w x a:iG}(ha:p∣aE n (fun i=>w i*a i))(y:iG):DI n p w x y↔DI n p w (fun i=>x i+p*a i) y:=by
 refine⟨DI.change ha,fun h=>?_⟩;have h1:p∣aE n (fun i=>w i*(- a i)):=by
  rw[aK (g:=fun i=>(-1)*(w i*a i)) (fun i _=>by grind),dE]
  exact cJ ha
 obtain⟨c,b,h2,h3⟩:=DI.change h1 h;exact⟨c,b,fun i hi=>by rw[h2 i hi];grind,h3⟩
theorem G1{n:Nat}{p:Int}(hp:p≠0){piv k0:Nat}(hpiv:piv<n)(hk0:k0<n)(hne:k0≠piv){w x q:Nat->Int}{inv:Int}(hinv:p∣inv*w piv-1)(hq:∀j,j<n->j≠piv->p∣q j*w piv-w j)
  (hx:x k0=1) (hiso:p∣aE n (fun i=>w i*x i)) (y:iG):gK n n (bK (fT p piv q) k0 x) y↔DI n p w x y:=by
 constructor
 ·intro h;rw[<-Es hp hpiv hinv hq];refine gK.sub (gK.lat n (n+1) (xt n p piv q x)) (fun j hj=>?_) h;by_cases e:j=k0
  ·exact(gK.lat n (n+1) _).ext _ _ (gK.col (j:=n) om) fun i _=>by simp[xt,bK,e]
  ·exact(gK.lat n (n+1) _).ext _ _ (gK.col (j:=j) om) fun i _=>by simp[xt,bK,e,hj]
 ·rintro⟨c,a,ha,hw⟩;have h1:p∣aE n (fun i=>w i*(a i+(- a k0)*x i)):=by
   rw[uW];exact iQ hw (cJ hiso)
  obtain⟨d,hd⟩:=(Bl hp hpiv hinv hq (fun i=>p*(a i+(- a k0)*x i))).2 ⟨_,fun _ _=>rfl,h1⟩;have h0:d k0=0:=by
   have h2:=hd k0 hk0;simp only at h2;rw[cp k0 hk0 (fun j _ hj=>by simp[fT,hne,ao hj])]at h2
   simp only[fT,if_neg hne,if_true,hx]at h2;have h3:p*d k0=0:=by grind
   rcases jI.1 h3 with h|h
   ·exact absurd h hp
   ·exact h
  refine⟨fun j=>if j=k0 then c+p*a k0 else d j,fun i hi=>?_⟩
  rw[aK (g:=fun j=>(if j=k0 then x i*(c+p*a k0)else 0)+fT p piv q i j*d j) (fun j _=>by
   by_cases e:j=k0
   ·simp[bK,e,h0]
   ·simp[bK,e]),dX,<-hd i hi,cp k0 hk0 (fun j _ hj=>by rw[if_neg hj]),ha i hi]
  simp only[if_true];grind
theorem I4{n:Nat}{p:Int}(hp:0<p){piv k0:Nat}(hpiv:piv<n)(hk0:k0<n)(hne:k0≠piv){x q:Nat->Int}(hx:x k0=1):det n (bK (fT p piv q) k0 x)=p^n:=by
 rw[z9 _ hk0 (fun j _=>by
  simp only[bK,eW];by_cases e:j=k0
  ·simp[e,hx]
  ·simp[e,fT,hne,ao e])]
 rw[bF (B:=fun i j=>if i=piv then(fun j=>if j=k0 then 0 else if j=piv then p*p else-(p*q j)) j else if i=j then(fun i=>if i=k0 then 1 else p) i else 0) (fun i j _ _=>by
  simp only[bK,eW,fT];by_cases e:j=k0
  ·subst e;by_cases e2:i=piv
   ·simp[e2,ao hne]
   ·by_cases e3:i=j
    ·simp[e3,hne]
    ·simp[e2,e3]
  ·by_cases e2:i=piv
   ·subst e2;by_cases e4:j=i
    ·simp[e4,ao hne]
    ·simp[e,e4,ao e4]
   ·by_cases e3:i=j
    ·subst e3;simp[e,e2]
    ·by_cases e4:j=piv
     ·simp[e2,e4,ao hne]
     ·simp[e,e2,e3,e4]),Fw hpiv _ _ (fun i _=>by split<;>omega)]
 rw[if_neg (ao hne),if_pos rfl];have h1:=vj hpiv (fun _=>p);have h2:=vj hk0 (fun i=>if i=piv then 1 else p)
 rw[if_neg hne]at h2;rw[Bu]at h1;rw[<-h1,<-h2,o5 (g:=fun i=>if i=k0 then 1 else if i=piv then 1 else p) (fun i _=>by
  by_cases e:i=piv
  ·simp[e]
  ·simp[e])]
 grind
theorem Js{n:Nat}{p:Int}(hp:0<p){piv k0:Nat}(hpiv:piv<n)(hk0:k0<n)(hne:k0≠piv){w x:Nat->Int}{inv t:Int}(hinv:p∣inv*w piv-1)(hx:x k0=1+p*t)(hiso:p∣aE n (fun i=>w i*x i))
  {B:aW} (hT:EM n n B) (hB:∀y,gK n n B y↔DI n p w x y):det n B=p^n:=by
 obtain⟨u,hu⟩:=hinv;have ha:p∣aE n (fun i=>w i*(fun i=>if i=k0 then-t else if i=piv then t*w k0*inv else 0) i):=by
  rw[qx hk0 hpiv hne (fun k _ h1 h2=>by simp[h1,h2])]
  simp only[if_true,if_neg (ao hne)];exact⟨t*w k0*u,by
   have:inv*w piv=1+p*u:=om
   grind⟩
 have hq:∀j,j<n->j≠piv->p∣inv*w j*w piv-w j:=fun j _ _=>⟨u*w j,by
  have:inv*w piv=1+p*u:=om
  grind⟩
 have hb:=G1 (x:=fun i=>x i+p*(fun i=>if i=k0 then-t else if i=piv then t*w k0*inv else 0) i) (q:=fun j=>inv*w j) om hpiv hk0 hne ⟨u,hu⟩ hq (by simp only[if_true,hx];grind) (by
  rw[uW];exact iQ hiso (cJ ha))
 have hd:=I4 (q:=fun j=>inv*w j) hp hpiv hk0 hne (x:=fun i=>x i+p*(fun i=>if i=k0 then-t else if i=piv then t*w k0*inv else 0) i) (by simp only[if_true,hx];grind)
 have hpn:(0:Int)<p^n:=Int.pow_pos hp;obtain⟨d,M,hM,hM0⟩:=TL.of_det (N:=n) (w:=bK (fT p piv (fun j=>inv*w j)) k0 (fun i=>x i+p*(fun i=>if i=k0 then-t else if i=piv then t*w k0*inv else 0) i)) (by rw[hd];omega)
 have h1:=(TL.of_tri hT).uniq (hM.congr (gK.lat n n B) fun y=>by rw[hB,hb,DI.change_iff ha]) n 0 om om
 rw[hM0,hd]at h1;have h2:=oc (n:=0) n B (by rw[aF];exact hT)
 rw[aF]at h2;rw[h2];simp only[CJ,eG,aF,det,ij]at h1 ⊢;rw[h1];omega
theorem tD{n m:Nat}(C:aW)(hm:m<n)(x:Int)(c:Nat->Int):∀K,K<=n->det n (bK C m (fun a=>x*C a m+aE K (fun k=>if m<k then c k*C a k else 0)))=x*det n C
 | 0,_=>by
  have h:=pT C hm x 0 (fun a=>C a m) (fun a=>C a m);rw[i7]at h;rw[bF (B:=bK C m (fun a=>x*C a m+0*C a m)) (fun a b _ _=>by simp[bK,aE]),h];omega
 | K+1,hK=>by
  have ih:=tD C hm x c K om;by_cases e:m<K
  ·have h:=pT C hm 1 (c K) (fun a=>x*C a m+aE K (fun k=>if m<k then c k*C a k else 0)) (fun a=>C a K)
   have h0:det n (bK C m (fun a=>C a K))=0:=lr _ e om (fun j _=>by simp only[bK];rw[if_pos trivial,if_neg om])
   rw[bF (B:=bK C m (fun a=>1*(x*C a m+aE K (fun k=>if m<k then c k*C a k else 0))+c K*C a K)) (fun a b _ _=>by simp only[bK,aE,if_pos e];split<;>grind),h,ih,h0];omega
  ·rw[bF (B:=bK C m (fun a=>x*C a m+aE K (fun k=>if m<k then c k*C a k else 0))) (fun a b _ _=>by simp only[bK,aE,if_neg e];split<;>grind),ih]
theorem Dl{n:Nat}(A B:aW)(hB:∀r c,r<c->c<n->B r c=0):det n (mm n A B)=fq n (fun i=>B i i)*det n A:=by
 have key:∀m,m<=n->det n (fun a b=>if b<m then mm n A B a b else A a b)=fq m (fun i=>B i i)*det n A:=by
  intro m
  induction m with
  | zero=>intro _;simp[fq]
  | succ m ih =>
   intro hm;have h1:=tD (fun a b=>if b<m then mm n A B a b else A a b) (om:m<n) (B m m) (fun k=>B k m) n (ah _)
   rw[ih om]at h1;have hpr:∀(k:Nat) (f:Nat->Int),fq (k+1) f=f k*fq k f:=by
    intro k
    induction k with
    | zero=>intro f;simp[fq]
    | succ k ih=>intro f;rw[fq,ih (fun i=>f (i+1))];simp only[fq];grind
   rw[hpr,fK,<-h1];refine bF fun a b _ hb=>?_;simp only[bK];by_cases e:b=m
   ·subst e;rw[if_pos rfl,if_pos om];simp only[cA,if_false];unfold mm;have h2:B b b*A a b=aE n (fun k=>if k=b then A a k*B k b else 0):=by
     rw[cp b hb (fun j _ hj=>by rw[if_neg hj])];simp[cF]
    rw[h2,<-dX];refine aK fun k hk=>?_;rcases db k b with h|h|h
    ·rw[hB k b h hb,if_neg om,if_neg om];simp
    ·rw[if_pos h,if_neg om];omega
    ·rw[if_neg om,if_pos h,if_neg om,cF];omega
   ·rw[if_neg e];by_cases e2:b<m
    ·rw[if_pos e2,if_pos om]
    ·rw[if_neg e2,if_neg om]
 rw[<-key n (ah _)];exact bF fun a b _ hb=>by rw[if_pos hb]
theorem tC{n m:Nat}(C:aW)(hm:m<n)(x:Int)(c:Nat->Int):∀K,K<=n->det n (setRow C m (fun a=>x*C m a+aE K (fun k=>if m<k then c k*C k a else 0)))=x*det n C
 | 0,_=>by
  have h:=od C hm x 0 (fun a=>C m a) (fun a=>C m a);rw[show setRow C m (fun a=>C m a)=C from iy C m]at h;rw[bF (B:=setRow C m (fun a=>x*C m a+0*C m a)) (fun a b _ _=>by simp[setRow,aE]),h];omega
 | K+1,hK=>by
  have ih:=tC C hm x c K om;by_cases e:m<K
  ·have h:=od C hm 1 (c K) (fun a=>x*C m a+aE K (fun k=>if m<k then c k*C k a else 0)) (fun a=>C K a)
   have h0:det n (setRow C m (fun a=>C K a))=0:=mT C hm om om;rw[bF (B:=setRow C m (fun a=>1*(x*C m a+aE K (fun k=>if m<k then c k*C k a else 0))+c K*C K a)) (fun a b _ _=>by simp only[setRow,aE,if_pos e];split<;>grind),h,ih,h0];omega
  ·rw[bF (B:=setRow C m (fun a=>x*C m a+aE K (fun k=>if m<k then c k*C k a else 0))) (fun a b _ _=>by simp only[setRow,aE,if_neg e];split<;>grind),ih]
theorem Dk{n:Nat}(A B:aW)(hB:∀r c,r<c->c<n->B r c=0):det n (mm n (fun i j=>B j i) A)=fq n (fun i=>B i i)*det n A:=by
 have key:∀m,m<=n->det n (fun a b=>if a<m then mm n (fun i j=>B j i) A a b else A a b)=fq m (fun i=>B i i)*det n A:=by
  intro m
  induction m with
  | zero=>intro _;simp[fq]
  | succ m ih =>
   intro hm;have h1:=tC (fun a b=>if a<m then mm n (fun i j=>B j i) A a b else A a b) (om:m<n) (B m m) (fun k=>B k m) n (ah _)
   rw[ih om]at h1;have hpr:∀(k:Nat) (f:Nat->Int),fq (k+1) f=f k*fq k f:=by
    intro k
    induction k with
    | zero=>intro f;simp[fq]
    | succ k ih=>intro f;rw[fq,ih (fun i=>f (i+1))];simp only[fq];grind
   rw[hpr,fK,<-h1];refine bF fun a b ha _=>?_;simp only[setRow];by_cases e:a=m
   ·subst e;rw[if_pos rfl,if_pos om];simp only[cA,if_false];unfold mm;have h2:B a a*A a b=aE n (fun k=>if k=a then B k a*A k b else 0):=by
     rw[cp a ha (fun j _ hj=>by rw[if_neg hj])];simp
    rw[h2,<-dX];refine aK fun k hk=>?_;dsimp only;rcases db k a with h|h|h
    ·rw[hB k a h ha,if_neg om,if_neg om];simp
    ·rw[if_pos h,if_neg om];omega
    ·rw[if_neg om,if_pos h,if_neg om];omega
   ·rw[if_neg e];by_cases e2:a<m
    ·rw[if_pos e2,if_pos om]
    ·rw[if_neg e2,if_neg om]
 rw[<-key n (ah _)];exact bF fun a b ha _=>by rw[if_pos ha]
def oQ(n:Nat)(H:aW)(u v:iG):Int:=aE n fun i=>(aE n fun j=>H i j*v j)*u i
theorem rB{n:Nat}(H:aW)(c d:Int)(u u' v:iG):oQ n H (fun i=>c*u i+d*u' i) v=c*oQ n H u v+d*oQ n H u' v:=by
 unfold oQ;rw[<-pH];exact aK fun i _=>by grind
theorem lO{n:Nat}{H:aW}(hS:∀a b,a<n->b<n->H a b=H b a)(u v:iG):oQ n H u v=oQ n H v u:=by
 unfold oQ;rw[aK (g:=fun i=>aE n fun j=>H i j*v j*u i) (fun i _=>by rw[cF,<-dE];exact aK fun j _=>by grind),nT]
 refine aK fun j hj=>?_;rw[cF _ (v j),<-dE];exact aK fun i hi=>by rw[hS i j hi hj];grind
theorem sR{n:Nat}{H:aW}{u u' v v':iG}(h:∀i,i<n->u i=u' i)(k:∀i,i<n->v i=v' i):oQ n H u v=oQ n H u' v' :=
 aK fun i hi=>by rw[h i hi,aK fun j hj=>by rw[k j hj]]
theorem EI{n:Nat}{H:aW}{p:Int}{w x:iG}(hw:∀i,i<n->p∣(aE n fun j=>H i j*x j)-w i){a:iG}(ha:p∣aE n (fun i=>w i*a i)):p∣oQ n H a x:=by
 have e:oQ n H a x=aE n (fun i=>w i*a i)+aE n (fun i=>((aE n fun j=>H i j*x j)-w i)*a i):=by
  rw[<-dX];exact aK fun i _=>by grind
 rw[e];exact iQ ha (iR fun i hi=>gO (hw i hi))
theorem Hh{n:Nat}{H:aW}(hS:∀a b,a<n->b<n->H a b=H b a){p:Int}{w x:iG}(hw:∀i,i<n->p∣(aE n fun j=>H i j*x j)-w i)(hx:p*p∣oQ n H x x){y z:iG}(hy:DI n p w x y)(hz:DI n p w x z):p*p∣oQ n H y z:=by
 obtain⟨c,a,h1,h2⟩:=hy;obtain⟨d,b,h3,h4⟩:=hz;rw[sR h1 h3,rB,lO hS x,lO hS a,rB,rB,lO hS x a];obtain⟨r,hr⟩:=hx;obtain⟨s,hs⟩:=EI hw h2;obtain⟨t,ht⟩:=EI hw h4;rw[hr,hs,ht];exact⟨c*d*r+c*t+d*s+oQ n H b a,by grind⟩
theorem Ez(n:Nat)(H B:aW)(i j:Nat):mm n (mm n (fun i j=>B j i) H) B i j=oQ n H (fun r=>B r i) (fun r=>B r j):=by
 rw[o9];unfold mm oQ;exact aK fun k _=>by rw[cF]
theorem Hi{n:Nat}{H B G:aW}{p:Int}(hp:0<p)(hB:∀r c,r<c->c<n->B r c=0)(hpos:∀r,r<n->0<B r r)(hd:det n B=p^n)(hG:∀i j,i<n->j<n->mm n (mm n (fun i j=>B j i) H) B i j=p*p*G i j):det n G=det n H:=by
 have h1:=Dl (mm n (fun i j=>B j i) H) B hB;rw[Dk H B hB,bF hG,pj]at h1;have h2:=oc (n:=0) n B (by rw[aF];exact fun r hr=>⟨fun j h1 h2=>hB r j h1 h2,hpos r hr⟩)
 rw[aF]at h2;simp only[det,ij]at h2;rw[<-h2,hd]at h1;have h3:(p*p)^n=p^n*p^n:=Int.mul_pow ..;rw[h3]at h1;have hpn:(0:Int)<p^n:=Int.pow_pos hp;have h4:p^n*p^n≠0:=by have:=lL hpn hpn;omega
 exact dk h4 (by rw[h1,fK])
theorem Ib{n:Nat}{H:aW}{piv:Nat}(hpiv:piv<n)(v:iG):oQ n H (eW piv) v=aE n fun j=>H piv j*v j:=by
 unfold oQ;rw[cp piv hpiv (fun i _ hi=>by simp[eW,hi])];simp[eW]
theorem yz{n piv:Nat}{H:aW}(hS:∀a b,a<n->b<n->H a b=H b a)(hpiv:piv<n){p:Int}(hp:0<p){v:iG}{sl iv N t:Int}(hsl:(aE n fun j=>H piv j*v j)%p=sl)(hiv:(2*sl%p*iv)%p=1)(hN:oQ n H v v%(p*p)=N)(h0:oQ n H v v%p=0)(ht:(p-N/p)*iv%p=t) :
  p*p∣oQ n H (fun k=>if k=piv then v k+p*t else v k) (fun k=>if k=piv then v k+p*t else v k):=by
 have ex:∀k,(if k=piv then v k+p*t else v k)=1*v k+(p*t)*eW piv k:=fun k=>by
  unfold eW;split<;>simp
 rw[sR (fun k _=>ex k) (fun k _=>ex k),rB,lO hS v,lO hS (eW piv) (fun i=>1*v i+p*t*eW piv i),rB,rB,lO hS v (eW piv),Ib hpiv v];generalize oQ n H (eW piv) (eW piv)=h;generalize oQ n H v v=b at *;generalize (aE n fun j=>H piv j*v j)=z at *;have e1:=jS b (p*p);have e2:=jS z p;have e3:=jS (2*sl) p;have e4:=jS (2*sl%p*iv) p;have e5:=jS ((p-N/p)*iv) p;have e6:p*(N/p)=N:=iO (by
  have:p∣b:=Int.dvd_of_emod_eq_zero h0;obtain⟨c,hc⟩:=this;exact⟨c-p*(b/(p*p)),by rw[hN]at e1;grind⟩)
 rw[hN]at e1;rw[hsl]at e2;rw[hiv]at e4;rw[ht]at e5;generalize b/(p*p)=r at *;generalize z/p=s at *;generalize 2*sl/p=a at *;generalize 2*sl%p=y at *;generalize y*iv/p=d at *;generalize N/p=k at *;generalize (p-k)*iv/p=c at *;refine⟨r+(1+(p-k)*d+a*((p-k)*iv)-2*sl*c)+2*t*s+t*t*h,?_⟩;have f1:2*sl*t=- k+p*(1+(p-k)*d+a*((p-k)*iv)-2*sl*c):=by
  have g1:t=(p-k)*iv-p*c:=om
  have g2:2*sl*((p-k)*iv)=(p-k)*(y*iv)+p*(a*((p-k)*iv)):=by rw[<-e3];grind
  rw[g1,Int.mul_sub,g2,<-e4];grind
 have g:p*k+p*(2*sl*t)=p*(p*(1+(p-k)*d+a*((p-k)*iv)-2*sl*c)):=by rw[f1];grind
 rw[<-e2,<-e1,<-e6];generalize 1+(p-k)*d+a*((p-k)*iv)-2*sl*c=m at *
 grind
theorem ln:∀{n:Nat} {f g:Nat->Nat},(∀i,i<n->f i=g i)->gV n f=gV n g
 | 0,_,_,_=>rfl
 | n+1,f,g,h=>by
  simp only[gV];rw[h 0 om,ln (n:=n) fun i hi=>h (i+1) om]
theorem yr:∀{n:Nat} {f:Nat->Nat} {i:Nat},i<n->gV n f=f i*gV n (fun t=>if t=i then 1 else f t)
 | n+1,f,0,_=>by
  simp only[gV,if_pos];rw[kg,ln (n:=n) (f:=fun i=>if i+1=0 then 1 else f (i+1)) (g:=fun i=>f (i+1)) fun j _=>by rw[if_neg om]]
 | n+1,f,i+1,h=>by
  simp only[gV];rw[if_neg om,yr (n:=n) (f:=fun i=>f (i+1)) (i:=i) om];rw[ln (n:=n) (f:=fun i_1=>if i_1+1=i+1 then 1 else f (i_1+1)) (g:=fun t=>if t=i then 1 else f (t+1)) fun j _=>by
   by_cases e:j=i
   ·rw[if_pos e,if_pos om]
   ·rw[if_neg e,if_neg om]]
  rw[<-gA,<-gA,aS (f 0)]
theorem sE:∀{n:Nat} {f:Nat->Nat},(∀i,i<n->1<=f i)->1<=gV n f
 | 0,_,_=>by simp[gV]
 | n+1,f,h=>by
  simp only[gV];exact Nat.mul_pos (h 0 om) (sE fun i hi=>h (i+1) om)
theorem yt:∀{m N:Nat} {f:Nat->Nat} {O:Nat->Nat},(∀i,i<N->1<=f i)->(∀a,a<m->O a<N)->(∀a b,a<m->b<m->O a=O b->a=b)->gV m (fun a=>f (O a))<=gV N f
 | 0,_,_,_,h,_,_=>by simp only[gV];exact sE h
 | m+1,N,f,O,h,ht,hi=>by
  rw[yr (ht 0 om)];simp only[gV];refine a9 _ ?_;have:=yt (m:=m) (N:=N) (f:=fun t=>if t=O 0 then 1 else f t) (O:=fun a=>O (a+1)) (fun i hiN=>by
   split
   ·exact ah _
   ·exact h i hiN) (fun a ha=>ht (a+1) om) (fun a b ha hb e=>by
   have:=hi (a+1) (b+1) om om e;omega)
  refine bV (Nat.le_of_eq (ln fun a ha=>?_)) this;rw[if_neg fun e=>by have:=hi (a+1) 0 om om e;omega]
theorem uY{A:aW}{N:Nat}{f:Nat->Nat}(hA:∀r,cR N (A r)<=f r){k i j:Nat}(hj:k+j<N){σ:Nat->Nat}(hs:∀g:Nat->Int,cR N (fun b=>g (σ b))=cR N g) :
  (cP (fun x y=>A x (σ y)) k i j).natAbs<=gV (k+1) (fun a=>f (if a<k then a else k+i)):=by
 unfold cP;refine bV (Ad _ _) (qB fun a _=>?_);refine bV (Cb (fun y=>A (up k (fun _=>i) a) (σ y)) hj) ?_;rw[hs (A (up k (fun _=>i) a))];exact hA _
theorem xj{B:aW}{N:Nat}{f:Nat->Nat}(hB:∀r,r<N->cR N (B r)<=f r)(h1:∀r,r<N->1<=f r){k i j:Nat}(hi:k+i<N)(hj:k+j<N){σ:Nat->Nat}(hs:∀a,a<N->σ a<N) :
  (cP (fun a b=>B (σ a) b) k i j).natAbs<=gV N f:=by
 unfold cP;have hu:∀a,a<k+1->up k (fun _=>i) a<N:=fun a ha=>by unfold up;split<;>omega
 by_cases hinj:∀a b,a<k+1->b<k+1->σ (up k (fun _=>i) a)=σ (up k (fun _=>i) b)->a=b
 ·refine bV (Ad _ _) (bV (qB fun a ha=>?_) (yt (m:=k+1) (N:=N) (f:=f) (O:=fun a=>σ (up k (fun _=>i) a)) h1 (fun a ha=>hs _ (hu a ha)) hinj));exact bV (Cb (fun y=>B (σ (up k (fun _=>i) a)) y) hj) (hB _ (hs _ (hu a ha)))
 ·have:∃a b,a<b/\b<k+1/\σ (up k (fun _=>i) a)=σ (up k (fun _=>i) b):=by
   refine en fun hno=>hinj fun a b ha hb e=>?_;rcases db a b with h|h|h
   ·exact(hno ⟨a,b,h,hb,e⟩).elim
   ·exact h
   ·exact(hno ⟨b,a,h,ha,e.symm⟩).elim
  obtain⟨a,b,hab,hb,e⟩:=this;rw[lq _ hab hb (fun c _=>by show B (σ (up k (fun _=>i) a)) _=B (σ (up k (fun _=>i) b)) _;rw[e])]
  have:=sE h1;simp
end Go.Proofs.YtdobfmlmenaajaaGreatDoor
