/-
  Lemmas for NeighbourKeeps.
-/
import Derived.Test.YtdobfmlmenaajaaGreatDoorL01
namespace Go.Proofs.YtdobfmlmenaajaaGreatDoor
open Go.RowKit Tryz
open _root_.Classical renaming em→eP
open _root_.Int renaming le_of_lt→aS,mul_le_mul_of_nonneg_left→a8,emod_nonneg→a9,mul_le_mul_of_nonneg_right→bE,natCast_mul→bO,mul_le_mul→bW,mul_comm→bZ,eq_of_mul_eq_mul_left→cB,one_mul→cF,mul_nonneg→dA,pow_succ→eO,mul_assoc→eY,lt_or_le→gW,mul_one→ie,mul_pos→iH,natAbs_mul_self→ju,le_of_mul_le_mul_left→ll,neg_mul_neg→uX
open _root_.Nat renaming le_refl→af,mul_comm→av,mul_le_mul_right→ay,lt_or_ge→az,zero_add→aJ,mul_le_mul_left→aQ,mul_assoc→aZ,mul_le_mul→bK,pow_succ→bM,pow_le_pow_right→cf,succ_mul→ck,pow_add→fE,pow_pos→jQ,lt_or_gt_of_ne→qv,mul_pos→ym
open _root_.Ne renaming symm→ai
set_option maxHeartbeats 6400000
set_option maxRecDepth 4096
set_option linter.all false
variable{neg:Bool}{a b d prev q u v x:Int}{c i j j' k m n p s t:Nat}{f g:Nat->Int}{σ:Nat->Nat}
abbrev aB:=Nat->Nat->Int
variable{A B H:aB}
def aq:Nat->(Nat->Int)->Int
 | 0,_=>0
 | n+1,f=>aq n f+f n
theorem aA(h:∀i,i<n->f i=g i):aq n f=aq n g:=by
 induction n with
 | zero=>rfl
 | succ n ih=>simp only[aq];rw[ih (fun i a=>h i om),h n om]
theorem iC(h:∀i,i<n->f i=0):aq n f=0:=by
 induction n with
 | zero=>rfl
 | succ n ih=>simp only[aq];rw[ih (fun i a=>h i om),h n om];rfl
theorem dI(n:Nat)(f g:Nat->Int):aq n (fun i=>f i+g i)=aq n f+aq n g:=by
 induction n with
 | zero=>rfl
 | succ n ih=>simp only[aq];rw[ih];omega
theorem cO(n:Nat)(c:Int)(f:Nat->Int):aq n (fun i=>c*f i)=c*aq n f:=by
 induction n with
 | zero=>simp[aq]
 | succ n ih=>simp only[aq];rw[ih,Int.mul_add]
theorem mB(n:Nat)(x y:Int)(f g:Nat->Int):aq n (fun i=>x*f i+y*g i)=x*aq n f+y*aq n g:=by
 rw[dI,cO,cO]
theorem cp(k:Nat)(c:k<n)(h:∀i,i<n->i≠k->f i=0):aq n f=f k:=by
 induction n with
 | zero=>omega
 | succ n ih =>
  simp only[aq];by_cases e:k=n
  ·subst e;rw[iC (fun i b=>h i om om)];omega
  ·rw[ih om (fun i b a=>h i om a),h n om om];omega
theorem zq(k:Nat)(d:k+1<n)(h:∀i,i<n->i≠k->i≠k+1->f i=0):aq n f=f k+f (k+1):=by
 induction n with
 | zero=>omega
 | succ n ih =>
  simp only[aq];by_cases e:k+1=n
  ·subst e;rw[cp k om (fun i b a=>h i om a om)]
  ·rw[ih om (fun i b a c=>h i om a c),h n om om om];omega
theorem oP(n m:Nat)(f:Nat->Nat->Int):aq n (fun i=>aq m (fun j=>f i j))=aq m (fun j=>aq n (fun i=>f i j)):=by
 induction n with
 | zero=>simp only[aq];rw[iC];intros;rfl
 | succ n ih=>simp only[aq];rw[ih,<-dI]
def uE(j:Nat):Int:=if j%2=0 then 1 else -1
theorem Ce(j:Nat):uE (j+1)=- uE j:=by unfold uE;split<;>split<;>omega
theorem wK:uE 0=1:=rfl
def skip(j k:Nat):Nat:=if k<j then k else k+1
def cut(A:aB)(j:Nat):aB:=fun i k=>A (i+1) (skip j k)
def det:Nat->aB->Int
 | 0,_=>1
 | n+1,A=>aq (n+1) fun j=>uE j*A 0 j*det n (cut A j)
theorem sj(h:k<n):skip j k<n+1:=by unfold skip;split<;>omega
theorem aT(h:∀i j,i<n->j<n->A i j=B i j):det n A=det n B:=by
 induction n generalizing A B with
 | zero=>rfl
 | succ n ih =>
  simp only[det];refine aA fun j a=>?_;rw[h 0 j om a,ih (A:=cut A j) (B:=cut B j) (fun i k c b=>h _ _ om (sj b))]
def setRow(A:aB)(i:Nat)(r:Nat->Int):aB:=fun a b=>if a=i then r b else A a b
def aW(A:aB)(i:Nat)(r:Nat->Int):aB:=fun a b=>if b=i then r a else A a b
theorem rO(A:aB)(i j:Nat)(r:Nat->Int):cut (setRow A (i+1) r) j=setRow (cut A j) i (fun k=>r (skip j k)):=by
 funext a b;simp[cut,setRow]
theorem CO(A:aB)(j:Nat)(r:Nat->Int):cut (setRow A 0 r) j=cut A j:=by
 funext a b;simp[cut,setRow]
theorem nd(A:aB)(a:i<n)(x y:Int)(r s:Nat->Int) :
  det n (setRow A i (fun j=>x*r j+y*s j))=x*det n (setRow A i r)+y*det n (setRow A i s):=by
 induction n generalizing A i r s with
 | zero=>omega
 | succ n ih =>
  simp only[det];rw[<-mB];refine aA fun j _=>?_
  cases i with
  | zero=>simp only[CO,setRow,if_true];grind
  | succ i=>rw[rO,ih _ om,rO,rO];simp only[setRow,Nat.reduceEqDiff,if_false];grind
theorem pV(A:aB)(c:i<n)(x:Int)(r:Nat->Int):det n (setRow A i (fun j=>x*r j))=x*det n (setRow A i r):=by
 have h:=nd A c x 0 r r;rw[aT (B:=setRow A i (fun j=>x*r j+0*r j)) (fun a b _ _=>by simp[setRow]),h];omega
theorem jB(A:aB)(c:i<n)(r s:Nat->Int):det n (setRow A i (fun j=>r j+s j))=det n (setRow A i r)+det n (setRow A i s):=by
 have h:=nd A c 1 1 r s;rw[aT (B:=setRow A i (fun j=>1*r j+1*s j)) (fun a b _ _=>by simp[setRow]),h];omega
theorem DH(N:Nat)(g:Nat->Nat->Int):aq (N+1) (fun j=>aq N (fun k=>if k<j then g k j else-g j (k+1)))=0:=by
 induction N with
 | zero=>simp[aq]
 | succ N ih =>
  rw[show aq (N+1+1) (fun j=>aq (N+1) (fun k=>if k<j then g k j else-g j (k+1)))
  =aq (N+1) (fun j=>aq (N+1) (fun k=>if k<j then g k j else-g j (k+1)))+aq (N+1) (fun k=>if k<N+1 then g k (N+1)else-g (N+1) (k+1))from rfl]
  have a:aq (N+1) (fun j=>aq (N+1) (fun k=>if k<j then g k j else-g j (k+1)))
  =aq (N+1) (fun j=>aq N (fun k=>if k<j then g k j else-g j (k+1))+(- g j (N+1))):=by
   refine aA fun j e=>?_;simp only[aq];rw[if_neg om]
  have b:aq (N+1) (fun k=>if k<N+1 then g k (N+1)else-g (N+1) (k+1))=aq (N+1) (fun k=>g k (N+1)) :=
   aA fun k c=>by rw[if_pos c]
  rw[a,b,dI,ih];have d:aq (N+1) (fun j=>- g j (N+1))=- aq (N+1) (fun j=>g j (N+1)):=by
   have:=cO (N+1) (-1) (fun j=>g j (N+1));rw[aA (g:=fun i=>-1*g i (N+1)) (fun i _=>om),this];omega
  rw[d];omega
theorem Ay(h:k<j)(c:Nat):skip j (skip k c)=skip k (skip (j-1) c):=by
 unfold skip;split<;>split<;>(try split)<;>(try split)<;>omega
theorem Fy(A:aB)(o:i+1<n)(h:∀j,j<n->A i j=A (i+1) j):det n A=0:=by
 induction n generalizing A i with
 | zero=>omega
 | succ n ih =>
  cases i with
  | succ i =>
   simp only[det];exact iC fun j g=>by rw[ih (cut A j) (i:=i) om (fun k d=>h _ (sj d))];omega
  | zero =>
   obtain⟨n,rfl⟩:∃m,n=m+1:=⟨n-1,om⟩
   have e:det (n+1+1) A=aq (n+1+1) (fun j=>aq (n+1) (fun k =>
     if k<j then uE k*uE j*A 0 k*A 0 j*det n (cut (cut A j) k)else-(uE j*uE (k+1)*A 0 j*A 0 (k+1)*det n (cut (cut A (k+1)) j)))):=by
    simp only[det];refine aA fun j g=>?_;rw[<-cO];refine aA fun k d=>?_;have l:cut A j 0 k=A 0 (skip j k):=by
     show A 1 (skip j k)=_;exact(h _ (sj d)).symm
    rw[l];split
    ·rename_i c;rw[show skip j k=k by unfold skip;rw[if_pos c]];grind
    ·rename_i c;rw[show skip j k=k+1 by unfold skip;rw[if_neg c],Ce]
     have f:cut (cut A j) k=cut (cut A (k+1)) j:=by
      funext a b;show A (a+1+1) (skip j (skip k b))=A (a+1+1) (skip (k+1) (skip j b));rw[Ay (j:=k+1) (k:=j) om];rfl
     rw[f];grind
   rw[e];exact DH (n+1) (fun k j=>uE k*uE j*A 0 k*A 0 j*det n (cut (cut A j) k))

theorem iS(A:aB)(i:Nat):setRow A i (A i)=A:=by funext a b;simp only[setRow];split<;>simp_all
theorem gz(A:aB)(i:Nat):aW A i (fun a=>A a i)=A:=by funext a b;simp only[aW];split<;>simp_all
theorem iy(A:aB){i k:Nat}(h:i≠k)(r s:Nat->Int):setRow (setRow A i r) k s=setRow (setRow A k s) i r:=by
 funext a b;simp only[setRow];grind
theorem Bi(A:aB)(b:i+1<n)(r s:Nat->Int):det n (setRow (setRow A i r) (i+1) s)=- det n (setRow (setRow A i s) (i+1) r):=by
 have a:∀t:Nat->Int,det n (setRow (setRow A i t) (i+1) t)=0:=fun t =>
  Fy _ b (fun j _=>by simp[setRow])
 have c:=a (fun j=>r j+s j);rw[jB _ om,iy _ om,iy A (k:=i+1) (s:=s) om,jB _ om,jB _ om]at c;rw[iy _ om s r,iy _ om r s];have d:=a r;have e:=a s;rw[iy _ om]at d e;omega
theorem lW(A:aB)(c:i<k)(a:k<n)(h:∀j,j<n->A i j=A k j):det n A=0:=by
 induction k generalizing A with
 | zero=>omega
 | succ k ih =>
  by_cases e:i=k
  ·subst e;exact Fy A a h
  ·have b:=Bi A a (A k) (A (k+1));have d:setRow (setRow A k (A k)) (k+1) (A (k+1))=A:=by rw[iS,iS]
   rw[d]at b;rw[b,ih (setRow (setRow A k (A (k+1))) (k+1) (A k)) om om (fun j f=>?_)];· rfl
   have:=h j f;simp only[setRow];rw[if_neg om,if_neg om,if_neg om,if_pos trivial];exact this
theorem nJ(A:aB)(b:i<n)(c:k<n)(a:i≠k):det n (setRow A i (A k))=0:=by
 rcases qv a with h|h
 ·exact lW _ h c (fun j _=>by simp only[setRow];rw[if_pos trivial,if_neg om])
 ·exact lW _ h b (fun j _=>by simp only[setRow];rw[if_neg om,if_pos trivial])
theorem jN(A:aB)(b:i<n)(d:k<n)(a:i≠k)(x c:Int):det n (setRow A i (fun j=>x*A i j+c*A k j))=x*det n A:=by
 rw[nd A b x c (A i) (A k),nJ A b d a,iS];omega
theorem ID(A:aB)(b:i<n)(d:k<n)(a:i≠k):det n (setRow (setRow A i (A k)) k (A i))=- det n A:=by
 have c:∀t:Nat->Int,det n (setRow (setRow A i t) k t)=0:=fun t=>by
  rcases qv a with h|h
  ·exact lW _ h d (fun j _=>by simp only[setRow];grind)
  ·exact lW _ h b (fun j _=>by simp only[setRow];grind)
 have e:=c (fun j=>A i j+A k j);rw[jB _ d,iy _ a,iy A a (s:=A k),jB _ b,jB _ b]at e;have f:=c (A i);have g:=c (A k);rw[iy _ a]at f g;have l:setRow (setRow A k (A k)) i (A i)=A:=by rw[iS,iS]
 rw[l]at e;rw[iy _ a];omega
def dC(j:Nat):Nat->Int:=fun k=>if k=j then 1 else 0
def o6(n:Nat)(A:aB)(i j:Nat):Int:=det n (setRow A i (dC j))
theorem CK(A:aB)(c:i<n)(m:Nat)(r:Nat->Int) :
  det n (setRow A i (fun k=>if k<m then r k else 0))=aq m (fun j=>r j*o6 n A i j):=by
 induction m with
 | zero =>
  have h:=pV A c 0 (fun _=>0);rw[aT (B:=setRow A i (fun j=>0*(fun _=>0) j)) (fun a b _ _=>by simp[setRow]),h];simp[aq]
 | succ m ih =>
  simp only[aq];rw[<-ih];have h:=nd A c 1 (r m) (fun k=>if k<m then r k else 0) (dC m)
  rw[aT (B:=setRow A i (fun j=>1*(fun k=>if k<m then r k else 0) j+r m*dC m j)) (fun a b _ _=>?_),h]
  ·show _=_+r m*det n _;omega
  ·simp only[setRow,dC];split
   ·by_cases e:b=m
    ·subst e;simp
    ·by_cases d:b<m
     ·simp[e,d];omega
     ·have:¬b<m+1:=om
      simp[e,d,this]
   ·rfl
theorem xM(A:aB)(c:i<n)(r:Nat->Int):aq n (fun j=>r j*o6 n A i j)=det n (setRow A i r):=by
 rw[<-CK A c n r];exact aT fun a b _ d=>by simp only[setRow];split<;>simp_all
theorem sC(A:aB)(a:i<n)(b:k<n):aq n (fun j=>A k j*o6 n A i j)=if i=k then det n A else 0:=by
 rw[xM A a];split
 ·rename_i e;subst e;rw[iS]
 ·rename_i e;exact nJ A a b e
theorem sQ(A:aB)(a:0<n)(h:∀i,i<n->A i 0=0):det n A=0:=by
 induction n generalizing A with
 | zero=>omega
 | succ n ih =>
  simp only[det];refine iC fun j b=>?_
  cases j with
  | zero=>rw[h 0 om];omega
  | succ j=>rw[ih (cut A (j+1)) om (fun i c=>by
    show A (i+1) (skip (j+1) 0)=0;rw[show skip (j+1) 0=0 from rfl];exact h _ om)];omega
theorem qP(A:aB)(h:∀i,i<n->A (i+1) 0=0):det (n+1) A=A 0 0*det n (fun i j=>A (i+1) (j+1)):=by
 rw[det,cp 0 om]
 ·rw[wK,cF];rfl
 ·intro j c a
  cases j with
  | zero=>omega
  | succ j=>rw[sQ (cut A (j+1)) om (fun i b=>by
    show A (i+1) (skip (j+1) 0)=0;rw[show skip (j+1) 0=0 from rfl];exact h _ b)];omega
def jm(A:aB)(m:Nat):aB:=fun i j=>if 0<i/\i<=m then A 0 0*A i j-A i 0*A 0 j else A i j
theorem yR(A:aB)(n m:Nat)(a:m<=n):det (n+1) (jm A m)=A 0 0^m*det (n+1) A:=by
 induction m with
 | zero=>rw[aT (B:=A) (fun i j _ _=>by unfold jm;rw[if_neg om])];simp
 | succ m ih =>
  have e:∀i j,jm A (m+1) i j=setRow (jm A m) (m+1) (fun j=>A 0 0*jm A m (m+1) j+(- A (m+1) 0)*jm A m 0 j) i j:=by
   intro i j;simp only[setRow];split
   ·rename_i e;subst e;simp only[jm];rw[if_pos om,if_neg om,if_neg om];grind
   ·simp only[jm];by_cases h:0<i/\i<=m
    ·rw[if_pos om,if_pos h]
    ·rw[if_neg om,if_neg h]
  rw[aT (fun i j _ _=>e i j),jN _ om om om,ih om,eO]
  grind
def CU(A:aB):aB:=fun i j=>A 0 0*A (i+1) (j+1)-A (i+1) 0*A 0 (j+1)
theorem II(A:aB)(n:Nat):A 0 0*det n (CU A)=A 0 0^n*det (n+1) A:=by
 rw[<-yR A n n (af _),qP]
 ·congr 1;exact aT fun i j a b=>by simp only[jm,CU];rw[if_pos om]
 ·intro i a;simp only[jm];rw[if_pos om];grind
theorem nK(A:aB){c j:Nat}(r:Nat->Int)(h:c<j):cut (aW A c r) j=aW (cut A j) c (fun a=>r (a+1)):=by
 funext a b;simp only[cut,aW,skip];grind
theorem nL(A:aB){c j:Nat}(r:Nat->Int)(h:j<c):cut (aW A c r) j=aW (cut A j) (c-1) (fun a=>r (a+1)):=by
 funext a b;simp only[cut,aW,skip];grind
theorem nN(A:aB)(c:Nat)(r:Nat->Int):cut (aW A c r) c=cut A c:=by
 funext a b;simp only[cut,aW,skip];grind
theorem ms(A:aB)(a:c<n)(x y:Int)(r s:Nat->Int) :
  det n (aW A c (fun j=>x*r j+y*s j))=x*det n (aW A c r)+y*det n (aW A c s):=by
 induction n generalizing A c r s with
 | zero=>omega
 | succ n ih =>
  simp only[det];rw[<-mB];refine aA fun j b=>?_;rcases Nat.lt_trichotomy c j with h|h|h
  ·rw[nK _ _ h,nK _ _ h,nK _ _ h,ih _ om];simp only[aW];rw[if_neg om,if_neg om,if_neg om];grind
  ·subst h;rw[nN,nN,nN];simp only[aW,if_true];grind
  ·rw[nL _ _ h,nL _ _ h,nL _ _ h,ih _ om];simp only[aW];rw[if_neg om,if_neg om,if_neg om];grind
theorem uP(A:aB)(f:c+1<n)(h:∀i,i<n->A i c=A i (c+1)):det n A=0:=by
 induction n generalizing A c with
 | zero=>omega
 | succ n ih =>
  simp only[det];rw[zq c f]
  ·have e:det n (cut A c)=det n (cut A (c+1)):=aT fun i k b m=>by
    simp only[cut,skip];by_cases a:k<c
    ·rw[if_pos a,if_pos om]
    ·by_cases d:k=c
     ·subst d;rw[if_neg om,if_pos om];exact(h _ om).symm
     ·rw[if_neg a,if_neg om]
   rw[e,Ce,h 0 om];grind
  ·intro j o a d;rcases qv a with g|l
   ·rw[ih (cut A j) (c:=c-1) om (fun i b=>by
     simp only[cut,skip];rw[if_neg om,if_neg om];rw[(om:c-1+1=c)];exact h _ om)];omega
   ·rw[ih (cut A j) (c:=c) om (fun i b=>by
     simp only[cut,skip];rw[if_pos om,if_pos om];exact h _ om)];omega
theorem gA(A:aB){i k:Nat}(h:i≠k)(r s:Nat->Int):aW (aW A i r) k s=aW (aW A k s) i r:=by
 funext a b;simp only[aW];grind
theorem kz(A:aB)(c:i<n)(r s:Nat->Int):det n (aW A i (fun j=>r j+s j))=det n (aW A i r)+det n (aW A i s):=by
 have h:=ms A c 1 1 r s;rw[aT (B:=aW A i (fun j=>1*r j+1*s j)) (fun a b _ _=>by simp[aW]),h];omega
theorem tV(A:aB)(b:i+1<n)(r s:Nat->Int):det n (aW (aW A i r) (i+1) s)=- det n (aW (aW A i s) (i+1) r):=by
 have a:∀t:Nat->Int,det n (aW (aW A i t) (i+1) t)=0:=fun t =>
  uP _ b (fun j _=>by simp[aW])
 have c:=a (fun j=>r j+s j);rw[kz _ om,gA _ om,gA A (k:=i+1) (s:=s) om,kz _ om,kz _ om]at c;rw[gA _ om s r,gA _ om r s];have d:=a r;have e:=a s;rw[gA _ om]at d e;omega
theorem jC(A:aB)(d:i<k)(b:k<n)(h:∀j,j<n->A j i=A j k):det n A=0:=by
 induction k generalizing A with
 | zero=>omega
 | succ k ih =>
  by_cases e:i=k
  ·subst e;exact uP A b h
  ·have c:=tV A b (fun a=>A a k) (fun a=>A a (k+1));have f:aW (aW A k (fun a=>A a k)) (k+1) (fun a=>A a (k+1))=A:=by rw[gz,gz]
   rw[f]at c;rw[c,ih (aW (aW A k (fun a=>A a (k+1))) (k+1) (fun a=>A a k)) om om (fun j g=>?_)];· rfl
   have:=h j g;simp only[aW];rw[if_neg om,if_neg om,if_neg om,if_pos trivial];exact this
theorem kK(A:aB)(b:i<n)(d:k<n)(a:i≠k)(x c:Int):det n (aW A i (fun j=>x*A j i+c*A j k))=x*det n A:=by
 rw[ms A b x c (fun j=>A j i) (fun j=>A j k),gz];have:det n (aW A i (fun j=>A j k))=0:=by
  rcases qv a with h|h
  ·exact jC _ h d (fun j _=>by simp only[aW];rw[if_pos trivial,if_neg om])
  ·exact jC _ h b (fun j _=>by simp only[aW];rw[if_neg om,if_pos trivial])
 rw[this];omega
theorem sR(A:aB)(c:i<n)(e:k<n)(b:i≠k):det n (aW (aW A i (fun a=>A a k)) k (fun a=>A a i))=- det n A:=by
 have d:∀t:Nat->Int,det n (aW (aW A i t) k t)=0:=fun t=>by
  rcases qv b with h|h
  ·exact jC _ h e (fun j _=>by simp only[aW];grind)
  ·exact jC _ h c (fun j _=>by simp only[aW];grind)
 have f:=d (fun j=>A j i+A j k);rw[kz _ e,gA _ b,gA A b (s:=fun j=>A j k),kz _ c,kz _ c]at f;have g:=d (fun j=>A j i);have l:=d (fun j=>A j k);rw[gA _ b]at g l;have m:aW (aW A k (fun j=>A j k)) i (fun j=>A j i)=A:=by rw[gz,gz]
 rw[m]at f;rw[gA _ b];omega

theorem Fv(A:aB):det 1 A=A 0 0:=by simp[det,aq,uE]
theorem sO(A:aB):det 2 A=A 0 0*A 1 1-A 1 0*A 0 1:=by simp[det,aq,uE,cut,skip];grind
theorem pW(n:Nat)(c:Int)(A:aB):det n (fun i j=>c*A i j)=c^n*det n A:=by
 induction n generalizing A with
 | zero=>simp[det]
 | succ n ih =>
  simp only[det];rw[<-cO];refine aA fun j _=>?_;rw[show cut (fun i j=>c*A i j) j=fun i k=>c*cut A j i k from rfl,ih,eO];grind
def bar(prev:Int)(A:aB):aB:=fun i j=>CU A i j/prev
def Lm(prev:Int)(A:aB):Prop:=∀(l:Nat) (ρ γ:Nat->Nat),prev^l∣det (l+1) (fun i j=>A (ρ i) (γ j))
def kH(ρ:Nat->Nat):Nat->Nat
 | 0=>0
 | i+1=>ρ i+1
theorem Lm.exact(h:Lm prev A)(i j:Nat):prev*bar prev A i j=CU A i j:=by
 have a:=h 1 (kH fun _=>i) (kH fun _=>j);rw[sO,eO,Int.pow_zero,cF]at a;exact Int.mul_ediv_cancel' a
theorem Gs(h:Lm prev A)(b:A 0 0≠0)(l:Nat)(ρ γ:Nat->Nat) :
  prev^(l+1)*det (l+1) (fun i j=>bar prev A (ρ i) (γ j))=A 0 0^l*det (l+2) (fun i j=>A (kH ρ i) (kH γ j)):=by
 have a:=II (fun i j=>A (kH ρ i) (kH γ j)) (l+1);rw[<-pW,aT (B:=CU (fun i j=>A (kH ρ i) (kH γ j))) (fun i j _ _=>by
  show prev*bar prev A (ρ i) (γ j)=_;rw[h.exact];rfl)]
 simp only[kH]at a;rw[eO,bZ (A 0 0^l),eY]at a;exact cB b a

def up(k:Nat)(ρ:Nat->Nat)(i:Nat):Nat:=if i<k then i else k+ρ (i-k)
def ca(A:aB)(k:Nat):aB:=fun i j=>det (k+1) (fun a b=>A (up k (fun _=>i) a) (up k (fun _=>j) b))
theorem EN(ρ:Nat->Nat)(i:Nat):up 0 ρ i=ρ i:=by simp[up]
theorem vL(k:Nat)(ρ:Nat->Nat)(i:Nat):up k (kH ρ) i=up (k+1) ρ i:=by
 unfold up;by_cases h:i<k
 ·rw[if_pos h,if_pos om]
 ·rw[if_neg h];by_cases a:i<k+1
  ·rw[if_pos a,(om:i-k=0)];simp[kH];omega
  ·rw[if_neg a,(om:i-k=(i-(k+1))+1)];simp only[kH];omega
theorem lq(k i:Nat)(h:i<k+1):up k (fun _=>0) i=i:=by
 unfold up;split
 ·rfl
 ·show k+0=i;omega
theorem eS(A:aB)(i j:Nat):ca A 0 i j=A i j:=by
 unfold ca;rw[Fv];simp[up]
theorem cA(A:aB)(k:Nat):ca A k 0 0=det (k+1) A:=by
 unfold ca;exact aT fun a b c d=>by rw[lq k a c,lq k b d]
theorem uB(h:∀(l:Nat) (ρ γ:Nat->Nat),det (l+1) (fun i j=>ca A k (ρ i) (γ j))=det k A^l*det (k+l+1) (fun i j=>A (up k ρ i) (up k γ j)))(i j:Nat) :
  CU (ca A k) i j=det k A*ca A (k+1) i j:=by
 have c:=h 1 (kH fun _=>i) (kH fun _=>j);rw[sO,eO,Int.pow_zero,cF]at c;simp only[kH]at c;simp only[CU];rw[c];unfold ca;congr 1;exact aT fun a b _ _=>by rw[vL,vL]
theorem qD{A:aB}:∀{k:Nat},(∀j,j<=k->det j A≠0)->∀(l:Nat) (ρ γ:Nat->Nat),
  det (l+1) (fun i j=>ca A k (ρ i) (γ j))=det k A^l*det (k+l+1) (fun i j=>A (up k ρ i) (up k γ j))
 | 0,_,l,ρ,γ=>by
  rw[show det 0 A=1 from rfl,Int.one_pow,cF,aJ];exact aT fun i j _ _=>by rw[eS,EN,EN]
 | k+1,a,l,ρ,γ=>by
  have ih:=qD (k:=k) (fun j n=>a j om);have d:=a k om;have b:=a (k+1) (af _);have f:Lm (det k A) (ca A k):=fun l ρ γ=>⟨_,ih l ρ γ⟩;have c:ca A k 0 0≠0:=by rw[cA];exact b
  have g:∀i j,bar (det k A) (ca A k) i j=ca A (k+1) i j:=fun i j=>by
   unfold bar;rw[uB ih,Int.mul_ediv_cancel_left _ d]
  have e:=Gs f c l ρ γ;rw[aT (B:=fun i j=>ca A (k+1) (ρ i) (γ j)) (fun i j _ _=>g _ _),ih (l+1) (kH ρ) (kH γ),cA]at e;have h:det k A^(l+1)≠0:=Int.pow_ne_zero d;refine cB h ?_;have m:det (k+(l+1)+1) (fun i j=>A (up k (kH ρ) i) (up k (kH γ) j))=det (k+1+l+1) (fun i j=>A (up (k+1) ρ i) (up (k+1) γ j)):=by
   rw[(om:k+(l+1)+1=k+1+l+1)]
   exact aT fun i j _ _=>by rw[vL,vL]
  rw[e,m,Int.mul_left_comm]
theorem Hh(a:∀j,j<=k->det j A≠0)(i j:Nat):CU (ca A k) i j=det k A*ca A (k+1) i j:=uB (qD a) i j
theorem ix(a:∀j,j<=k->det j A≠0)(i j:Nat):ca A k 0 0*ca A k (i+1) (j+1)-ca A k (i+1) 0*ca A k 0 (j+1)=det k A*ca A (k+1) i j:=Hh a i j
theorem Hg(l:k<n)(b:∀j,j<=k->det j A≠0)(c:∀i,i<n-k->ca A k i 0=0):det n A=0:=by
 have a:=qD b (n-k-1) id id;have d:det (n-k-1+1) (fun i j=>ca A k (id i) (id j))=0:=sQ _ om (fun i m=>c i om);rw[d,(om:k+(n-k-1)+1=n)]at a
 have f:det k A^(n-k-1)≠0:=Int.pow_ne_zero (b k (af _));have g:det n (fun i j=>A (up k id i) (up k id j))=det n A:=aT fun i j _ _=>by
  have e:∀i,up k id i=i:=fun i=>by unfold up;split<;>simp;omega
  rw[e,e]
 rw[g]at a;rcases Int.mul_eq_zero.1 a.symm with h|h
 ·exact absurd h f
 ·exact h
def cV(i j a:Nat):Nat:=if a=i then j else if a=j then i else a
theorem vM(A:aB)(f:i<n)(g:k<n)(c:i≠k):det n (fun a b=>A (cV i k a) b)=- det n A:=by
 rw[<-ID A f g c];refine aT fun a b _ _=>?_;simp only[cV,setRow];by_cases d:a=i
 ·subst d;simp[c]
 ·by_cases e:a=k
  ·subst e;simp[d]
  ·simp[d,e]
theorem mW(A:aB)(f:i<n)(g:k<n)(c:i≠k):det n (fun a b=>A a (cV i k b))=- det n A:=by
 rw[<-sR A f g c];refine aT fun a b _ _=>?_;simp only[cV,aW];by_cases d:b=i
 ·subst d;simp[c]
 ·by_cases e:b=k
  ·subst e;simp[d]
  ·simp[d,e]
theorem sh(A:aB)(c:n<=i)(d:n<=k):det n (fun a b=>A (cV i k a) b)=det n A :=
 aT fun a b e _=>by rw[show cV i k a=a by unfold cV;rw[if_neg om,if_neg om]]
theorem sf(A:aB)(f:k<=p)(i j:Nat):ca (fun a b=>A (cV k p a) b) k i j=ca A k (cV 0 (p-k) i) j:=by
 unfold ca;refine aT fun a b g l=>?_;have e:cV k p (up k (fun _=>i) a)=up k (fun _=>cV 0 (p-k) i) a:=by
  unfold up cV;by_cases h:a<k
  ·simp only[h,if_true];rw[if_neg om,if_neg om]
  ·simp only[h,if_false];by_cases c:i=0
   ·rw[if_pos om,if_pos c];omega
   ·by_cases d:i=p-k
    ·rw[if_neg om,if_pos om,if_neg c,if_pos d];omega
    ·rw[if_neg om,if_neg om,if_neg c,if_neg d]
 show A (cV k p (up k (fun _=>i) a)) _=_;rw[e]
structure l9(A:aB)(n:Nat)(σ:Nat->Nat)(neg:Bool)(k:Nat):Prop where
 lead:∀j,j<=k->det j (fun a b=>A (σ a) b)≠0
 sign:det n (fun a b=>A (σ a) b)=if neg then-det n A else det n A
 row:∀i,i<n->σ i<n
theorem l9.init(A:aB)(n:Nat):l9 A n id false 0:=⟨fun j a=>by rw[(om:j=0)];simp[det],sm,fun i h=>h⟩
theorem l9.swap(h:l9 A n σ neg k)(e:k<p)(c:p<n):l9 A n (fun a=>σ (cV k p a)) (!neg) k:=by
 refine⟨fun j d=>?_,?_,fun i f=>h.row _ (by unfold cV;split<;>(try split)<;>omega)⟩
 ·rw[sh (fun a b=>A (σ a) b) om om];exact h.lead j d
 ·rw[vM (fun a b=>A (σ a) b) om c om,h.sign]
  cases neg<;>simp
theorem l9.step(h:l9 A n σ neg k)(c:ca (fun a b=>A (σ a) b) k 0 0≠0):l9 A n σ neg (k+1) :=
 ⟨fun j e=>by
  rcases az j (k+1)with d|d
  ·exact h.lead j om
  ·rw[(om:j=k+1),<-cA];exact c,h.sign,h.row⟩
theorem l9.zero(h:l9 A n σ neg k)(d:k<n)(e:∀i,i<n-k->ca (fun a b=>A (σ a) b) k i 0=0):det n A=0:=by
 have c:=Hg d h.lead e;rw[h.sign]at c
 cases neg<;>simp at c<;>omega

structure Pd(A:aB)(n:Nat):Prop where
 sym:∀a b,a<n->b<n->A a b=A b a
 pos:∀k,k<=n->0<det k A
theorem Pd.ne(h:Pd A n){k:Nat}(a:k<=n):∀j,j<=k->det j A≠0:=fun j b=>by have:=h.pos j om;omega
theorem Pd.stg_sym(h:Pd A n):∀(k i j:Nat),k+i<n->k+j<n->ca A k i j=ca A k j i
 | 0,i,j,b,c=>by rw[eS,eS];exact h.sym i j om om
 | k+1,i,j,b,c=>by
  have ih:=h.stg_sym k;have a:=ix (h.ne (k:=k) om) i j;have d:=ix (h.ne (k:=k) om) j i;rw[ih (i+1) (j+1) om om,ih (i+1) 0 om om,ih 0 (j+1) om om]at a;have e:=h.pos k om;refine cB (om:det k A≠0) ?_
  rw[<-a,<-d];grind
theorem Pd.stg_rec(h:Pd A n){k i:Nat}(a:k+i+1<n):det (k+1) A*ca A k (i+1) (i+1)=det k A*ca A (k+1) i i+ca A k (i+1) 0*ca A k (i+1) 0:=by
 have e:=ix (h.ne (k:=k) om) i i;rw[h.stg_sym k 0 (i+1) om om,cA]at e;omega
theorem Pd.stg_rec2(h:Pd A n){k i j:Nat}(a:k+i+1<n)(b:k+j+1<n):det (k+1) A*ca A k (i+1) (j+1)=det k A*ca A (k+1) i j+ca A k (i+1) 0*ca A k (j+1) 0:=by
 have e:=ix (h.ne (k:=k) om) i j;rw[h.stg_sym k 0 (j+1) om om,cA]at e;omega
theorem fT(x:Int):0<=x*x:=by
 rcases Int.le_total 0 x with h|h
 ·exact dA h h
 ·have:=dA (om:0<=-x) (om:0<=-x);rw[uX]at this;exact this
theorem oU(d:0<a)(h:0<a*b):0<b:=by
 rcases gW 0 b with c|c
 ·exact c
 ·have:=a8 c (aS d);omega
theorem Pd.stg_pos(h:Pd A n):∀(i k:Nat),k+i<n->0<ca A k i i
 | 0,k,a=>by rw[cA];exact h.pos _ om
 | i+1,k,a=>by
  have e:=h.stg_rec (k:=k) (i:=i) om;have b:=h.stg_pos i (k+1) om;have d:=iH (h.pos k om) b;have f:=fT (ca A k (i+1) 0);have c:0<det (k+1) A*ca A k (i+1) (i+1):=om
  exact oU (h.pos (k+1) om) c
theorem Pd.stg_up(h:Pd A n):∀(k i:Nat),k+i<n->ca A k i i<=det k A*A (k+i) (k+i)
 | 0,i,a=>by rw[eS];simp[det]
 | k+1,i,a=>by
  have e:=h.stg_rec (k:=k) (i:=i) om;have ih:=h.stg_up k (i+1) om;have b:=h.pos k om;have c:=h.pos (k+1) om;have d:=fT (ca A k (i+1) 0);have f:=a8 ih (aS c);refine ll ?_ b;rw[(om:k+1+i=k+(i+1))]
  have g:det (k+1) A*(det k A*A (k+(i+1)) (k+(i+1)))=det k A*(det (k+1) A*A (k+(i+1)) (k+(i+1))):=by grind
  omega
theorem Pd.lam_sq(h:Pd A n){k i:Nat}(a:k+i+1<n):ca A k (i+1) 0*ca A k (i+1) 0<=det (k+1) A*ca A k (i+1) (i+1):=by
 have e:=h.stg_rec (k:=k) (i:=i) om;have b:=iH (h.pos k om) (h.stg_pos i (k+1) om);omega
theorem Pd.hadamard(h:Pd A n){k:Nat}(a:k<n):det (k+1) A<=det k A*A k k:=by
 have:=h.stg_up k 0 om
 rwa [cA,Nat.add_zero]at this
theorem Ed{m:Int}(c:0<a)(d:m*m<=a*b):0<=a*(v*v)+b*(u*u)-2*(m*(u*v)):=by
 have e:a*(a*(v*v)+b*(u*u)-2*(m*(u*v)))=(a*v-m*u)*(a*v-m*u)+(a*b-m*m)*(u*u):=by grind
 have f:=fT (a*v-m*u);have g:=dA (om:0<=a*b-m*m) (fT u)
 exact Int.nonneg_of_mul_nonneg_right om c
theorem KI{m:Int}(c:0<=d)(e:0<a)(f:m*m<=a*b):(d*m+u*v)*(d*m+u*v)<=(d*a+u*u)*(d*b+v*v):=by
 have g:=Ed (u:=u) (v:=v) e f;have h:=dA c g;have i:=dA (dA c c) (om:0<=a*b-m*m)
 have j:(d*a+u*u)*(d*b+v*v)-(d*m+u*v)*(d*m+u*v)=d*d*(a*b-m*m)+d*(a*(v*v)+b*(u*u)-2*(m*(u*v))):=by grind
 omega
theorem Pd.cs(h:Pd A n):∀(i j k:Nat),k+i<n->k+j<n->ca A k i j*ca A k i j<=ca A k i i*ca A k j j
 | 0,0,k,_,_=>Int.le_refl _
 | 0,j+1,k,_,b=>by
  rw[h.stg_sym k 0 (j+1) om om,cA];exact h.lam_sq om
 | i+1,0,k,c,_=>by
  rw[cA,bZ (ca A k (i+1) (i+1))];exact h.lam_sq om
 | i+1,j+1,k,c,b=>by
  have ih:=h.cs i j (k+1) om om;have d:=h.stg_rec (k:=k) (i:=i) om;have e:=h.stg_rec (k:=k) (i:=j) om;have f:=h.stg_rec2 (k:=k) (i:=i) (j:=j) om om;have g:=h.pos k om;have a:=h.pos (k+1) om;have l:=KI (u:=ca A k (i+1) 0) (v:=ca A k (j+1) 0) (aS g) (h.stg_pos i (k+1) om) ih;rw[<-d,<-e,<-f]at l;have m:0<det (k+1) A*det (k+1) A:=iH a a;refine ll ?_ m;have o:det (k+1) A*det (k+1) A*(ca A k (i+1) (j+1)*ca A k (i+1) (j+1))=det (k+1) A*ca A k (i+1) (j+1)*(det (k+1) A*ca A k (i+1) (j+1)):=by grind
  have p:det (k+1) A*det (k+1) A*(ca A k (i+1) (i+1)*ca A k (j+1) (j+1))=det (k+1) A*ca A k (i+1) (i+1)*(det (k+1) A*ca A k (j+1) (j+1)):=by grind
  omega
theorem Pd.cs0(h:Pd A n){i j:Nat}(a:i<n)(b:j<n):A i j*A i j<=A i i*A j j:=by
 have:=h.cs i j 0 om om;simpa only[eS]using this
theorem Pd.diag(h:Pd A n){i:Nat}(a:i<n):0<A i i:=by
 have:=h.stg_pos i 0 om
 rwa [eS]at this
def eB(A:aB)(i j:Nat):Int:=ca A j (i-j) 0
def fM(A:aB)(i j:Nat):Prop:=2*(eB A i j).natAbs<=det (j+1) A
def gZ(A:aB)(i:Nat):Prop:=3*(det i A*det i A)<=4*(det (i-1) A*det (i+1) A+eB A i (i-1)*eB A i (i-1))
theorem J1(h:2*(x.natAbs:Int)<=d):x*x<=d*d:=by
 have a:((x.natAbs:Nat):Int)*x.natAbs=x*x:=by rw[<-bO,ju]
 rw[<-a];exact bW om om om om
theorem nH(h:2*(x.natAbs:Int)<=d):4*(x*x)<=d*d:=by
 have a:((x.natAbs:Nat):Int)*x.natAbs=x*x:=by rw[<-bO,ju]
 have b:(2*(x.natAbs:Int))*(2*x.natAbs)<=d*d:=bW h h om om;have c:(2*(x.natAbs:Int))*(2*x.natAbs)=4*((x.natAbs:Int)*x.natAbs):=by grind
 omega
theorem Pd.sized_up(h:Pd A n){D:Int}{r:Nat}(f:r<n)(a:∀k,k<=r->det (k+1) A<=D)(c:∀j,j<r->fM A r j):∀(i k:Nat),k+i=r->4*ca A k i i<=det k A*((i+4:Nat)*D)
 | 0,k,g=>by
  rw[cA];have b:=a k om;have l:=h.pos k om;have m:=h.pos (k+1) om;have o:=bE (om:1<=det k A) (om:0<=D)
  have p:det k A*(((0+4:Nat):Int)*D)=4*(det k A*D):=by
   rw[show((0+4:Nat):Int)=4 from rfl];grind
  omega
 | i+1,k,g=>by
  have e:=h.stg_rec (k:=k) (i:=i) om;have ih:=h.sized_up f a c i (k+1) om;have q:=h.pos k om;have b:=h.pos (k+1) om;have d:=nH (c k om);unfold eB at d;rw[(om:r-k=i+1)]at d
  have l:=a k om;have m:=a8 ih (aS q);refine ll ?_ b;have o:det k A*(det (k+1) A*((i+4:Nat)*D))+det (k+1) A*det (k+1) A<=det (k+1) A*(det k A*((i+1+4:Nat)*D)):=by
   have p:det (k+1) A*(det k A*((i+1+4:Nat)*D))=det k A*(det (k+1) A*((i+4:Nat)*D))+det (k+1) A*(det k A*D):=by
    rw[show((i+1+4:Nat):Int)=((i+4:Nat):Int)+1 by omega];grind
   have s:det (k+1) A*det (k+1) A<=det (k+1) A*(det k A*D):=by
    refine a8 ?_ (aS b);have t:=bE (om:1<=det k A) (om:0<=D)
    omega
   omega
  have u:det k A*(4*ca A (k+1) i i)=4*(det k A*ca A (k+1) i i):=by grind
  have v:det (k+1) A*(4*ca A k (i+1) (i+1))=4*(det (k+1) A*ca A k (i+1) (i+1)):=by grind
  omega
theorem Pd.sized_norm4(h:Pd A n){D:Int}{r:Nat}(a:r<n)(b:∀k,k<=r->det (k+1) A<=D)(c:∀j,j<r->fM A r j):4*A r r<=(r+4:Nat)*D:=by
 have:=h.sized_up a b c r 0 om;rw[eS]at this;simpa [det]using this
theorem Pd.sized_norm(h:Pd A n){D:Int}{r:Nat}(b:r<n)(a:∀k,k<=r->det (k+1) A<=D)(c:∀j,j<r->fM A r j):A r r<=(r+1:Nat)*D:=by
 have d:=h.sized_norm4 b a c;have e:det 1 A<=D:=a 0 om;have f:=h.pos 1 om;have g:((r+4:Nat):Int)*D<=((4*(r+1):Nat):Int)*D:=bE om om;have i:((4*(r+1):Nat):Int)*D=4*(((r+1:Nat):Int)*D):=by
  rw[bO];grind
 omega

theorem jw(k c i:Nat):up k (fun _=>c) i=if i<k then i else k+c:=rfl
def iI(A:aB)(i j:Nat)(q:Int):aB:=fun a b=>A a b+(if a=i then q*A j b else 0)+(if b=i then q*A a j else 0)+(if a=i/\b=i then q*q*A j j else 0)
theorem kc(A:aB){i j a b:Nat}{q:Int}(c:a≠i)(d:b≠i):iI A i j q a b=A a b:=by simp[iI,c,d]
theorem sW(A:aB){i j b:Nat}{q:Int}(a:b≠i):iI A i j q i b=A i b+q*A j b:=by simp[iI,a]
theorem eo(l:j<i)(k:Nat):det k (iI A i j q)=det k A:=by
 rcases az i k with c|c
 ·have e:=jN A (n:=k) (i:=i) (k:=j) c om om 1 q;have d:=kK (setRow A i (fun b=>1*A i b+q*A j b)) (n:=k) (i:=i) (k:=j) c om om 1 q;rw[e]at d;rw[cF,cF]at d;rw[<-d];refine aT fun a b _ _=>?_;simp only[iI,aW,setRow];have f:j≠i:=om
  by_cases g:a=i<;>by_cases h:b=i<;>simp[g,h]<;>grind
 ·exact aT fun a b m o=>kc A om om
theorem lY{i':Nat}(d:i'<i)(c:j'<=i'):eB (iI A i j q) i' j'=eB A i' j':=by
 unfold eB ca;refine aT fun a b e f=>?_;exact kc A (by rw[jw];split<;>omega) (by rw[jw];split<;>omega)
theorem ql(l:j<j')(g:j'<i):eB (iI A i j q) i j'=eB A i j':=by
 have f:=jN (fun a b=>A (up j' (fun _=>i-j') a) (up j' (fun _=>0) b)) (n:=j'+1) (i:=j') (k:=j) om om om 1 q;rw[cF]at f;unfold eB ca;rw[<-f];refine aT fun a b m o=>?_;simp only[setRow];have c:up j' (fun _=>0) b≠i:=by rw[jw];split<;>omega
 by_cases e:a=j'
 ·subst e;have d:up a (fun _=>i-a) a=i:=by rw[jw];rw[if_neg om];omega
  have h:up a (fun _=>i-a) j=j:=by rw[jw];rw[if_pos om]
  rw[d,h,sW A c];simp
 ·have d:up j' (fun _=>i-j') a=a:=by rw[jw];rw[if_pos om]
  rw[d,kc A om c,if_neg e]
theorem lZ(m:j<i):eB (iI A i j q) i j=eB A i j+q*det (j+1) A:=by
 have g:=nd (fun a b=>A (up j (fun _=>i-j) a) (up j (fun _=>0) b)) (n:=j+1) (i:=j) om 1 q (fun b=>A i (up j (fun _=>0) b)) (fun b=>A j (up j (fun _=>0) b));unfold eB ca;have k:det (j+1) (setRow (fun a b=>A (up j (fun _=>i-j) a) (up j (fun _=>0) b)) j (fun b=>A i (up j (fun _=>0) b)))=det (j+1) (fun a b=>A (up j (fun _=>i-j) a) (up j (fun _=>0) b)):=by
  refine aT fun a b h d=>?_;simp only[setRow];by_cases e:a=j
  ·subst e;rw[if_pos rfl];congr 1;rw[jw];rw[if_neg om];omega
  ·rw[if_neg e]
 have l:det (j+1) (setRow (fun a b=>A (up j (fun _=>i-j) a) (up j (fun _=>0) b)) j (fun b=>A j (up j (fun _=>0) b)))=det (j+1) A:=by
  refine aT fun a b h d=>?_;simp only[setRow];rw[lq j b d];by_cases e:a=j
  ·subst e;rw[if_pos rfl]
  ·rw[if_neg e];congr 1;rw[jw];rw[if_pos om]
 rw[k,l,cF]at g;rw[<-g];refine aT fun a b h d=>?_;simp only[setRow];have c:up j (fun _=>0) b≠i:=by rw[jw];split<;>omega
 by_cases e:a=j
 ·subst e;have f:up a (fun _=>i-a) a=i:=by rw[jw];rw[if_neg om];omega
  rw[f,sW A c,if_pos rfl];simp
 ·have f:up j (fun _=>i-j) a=a:=by rw[jw];rw[if_pos om]
  rw[f,kc A om c,if_neg e]
def q9(A:aB)(i:Nat):aB:=fun a b=>A (cV (i-1) i a) (cV (i-1) i b)
theorem lO(j:0<i)(l:k≠i):det k (q9 A i)=det k A:=by
 rcases az i k with h|h
 ·have d:=vM (fun a b=>A a (cV (i-1) i b)) (n:=k) (i:=i-1) (k:=i) om h om;have f:=mW A (n:=k) (i:=i-1) (k:=i) om h om;show det k (fun a b=>(fun a b=>A a (cV (i-1) i b)) (cV (i-1) i a) b)=_;rw[d,f];omega
 ·refine aT fun a b c g=>?_;have e:∀a,a<k->cV (i-1) i a=a:=fun a c=>by unfold cV;rw[if_neg om,if_neg om]
  simp only[q9];rw[e a c,e b g]
theorem lP(f:0<i):det i (q9 A i)=ca A (i-1) 1 1:=by
 unfold ca;rw[(om:i-1+1=i)]
 refine aT fun a b c d=>?_;have e:∀a,a<i->cV (i-1) i a=up (i-1) (fun _=>1) a:=fun a c=>by
  rw[jw];unfold cV;by_cases h:a=i-1
  ·rw[if_pos h,if_neg om];omega
  ·rw[if_neg h,if_neg om,if_pos om]
 simp only[q9];rw[e a c,e b d]
theorem Pd.swap_lead(h:Pd A n){i:Nat}(a:0<i)(b:i<n):det i A*det i (q9 A i)=det (i-1) A*det (i+1) A+eB A i (i-1)*eB A i (i-1):=by
 have e:=h.stg_rec (k:=i-1) (i:=0) om;rw[lP a];unfold eB;rw[(om:i-(i-1)=1)]
 rw[(om:i-1+1=i),aJ,cA]at e
 exact e
theorem Pd.add(h:Pd A n){i j:Nat}{q:Int}(e:j<i)(m:i<n):Pd (iI A i j q) n:=by
 refine⟨fun a b c d=>?_,fun k f=>by rw[eo e];exact h.pos k f⟩
 have o:=h.sym a b c d;have p:=h.sym j a om c;have r:=h.sym j b om d;simp only[iI];by_cases g:a=i<;>by_cases l:b=i<;>simp[g,l]<;>grind
theorem Pd.swap(h:Pd A n){i:Nat}(c:0<i)(l:i<n):Pd (q9 A i) n:=by
 have d:∀a,a<n->cV (i-1) i a<n:=fun a f=>by unfold cV;split<;>(try split)<;>omega
 refine⟨fun a b f g=>h.sym _ _ (d a f) (d b g),fun k j=>?_⟩;by_cases e:k=i
 ·subst e;rw[lP c];exact h.stg_pos 1 (k-1) om
 ·rw[lO c e];exact h.pos k j
theorem zn(h:Pd A n){i:Nat}(b:0<i)(c:i<n)(a:¬gZ A i):4*det i (q9 A i)<3*det i A:=by
 unfold gZ at a;rw[<-h.swap_lead b c]at a;have d:=h.pos i om;have e:det i A*(4*det i (q9 A i))<det i A*(3*det i A):=by
  have f:det i A*(4*det i (q9 A i))=4*(det i A*det i (q9 A i)):=by grind
  have g:det i A*(3*det i A)=3*(det i A*det i A):=by grind
  omega
 exact Int.lt_of_mul_lt_mul_left e (aS d)
open Classical in
noncomputable def nI(p:Nat->Prop):Nat->Nat
 | 0=>0
 | w+1=>if (∀c,c<=w->p c)then w+1 else nI p w
theorem zJ(p:Nat->Prop):∀w,nI p w<=w
 | 0=>by simp[nI]
 | w+1=>by have:=zJ p w;simp only[nI];split<;>omega
theorem zK{p:Nat->Prop}{k:Nat}(h:∀c,c<k->p c):∀w,k<=w->k<=nI p w
 | 0,a=>om
 | w+1,a=>by
  simp only[nI];split
  ·exact a
  ·rename_i d;rcases az w k with b|b
   ·exact absurd (fun c e=>h c om) d
   ·exact zK h w b
theorem xv{p:Nat->Prop}{k:Nat}(h:¬p k):∀w,nI p w<=k
 | 0=>by simp[nI]
 | w+1=>by
  simp only[nI];split
  ·rename_i b;rcases az w k with a|a
   ·omega
   ·exact absurd (b k a) h
  ·exact xv h w
def chk(A:aB)(n c:Nat):Prop:=(c%(n+1)<c/(n+1)->fM A (c/(n+1)) (c/(n+1)-1-c%(n+1)))/\(c%(n+1)=c/(n+1)->0<c/(n+1)->gZ A (c/(n+1)))
theorem IN(a:t<n+1):(i*(n+1)+t)/(n+1)=i:=by
 rw[av,Nat.mul_add_div om,Nat.div_eq_of_lt a];omega
theorem IM(a:t<n+1):(i*(n+1)+t)%(n+1)=t:=by
 rw[av,Nat.mul_add_mod,Nat.mod_eq_of_lt a]
theorem zq9(a:t<n+1):chk A n (i*(n+1)+t)↔(t<i->fM A i (i-1-t))/\(t=i->0<i->gZ A i):=by
 unfold chk;rw[IN a,IM a]
def jy(A:aB)(i:Nat):Prop:=(∀r,r<i->∀j,j<r->fM A r j)/\∀r,0<r->r<i->gZ A r
theorem Gn(d:jy A i)(f:∀j,i<j+1+t->j<i->fM A i j)(g:t<=i)(k:i<n){c:Nat}(l:c<i*(n+1)+t):chk A n c:=by
 have m:c/(n+1)<=i:=by
  rcases az i (c/(n+1))with h|h
  ·have b:=Nat.div_mul_le_self c (n+1);have a:(i+1)*(n+1)<=c/(n+1)*(n+1):=ay _ h;rw[ck]at a;omega
  ·exact h
 rcases az (c/(n+1)) i with h|h
 ·refine⟨fun b=>d.1 _ h _ om,fun b a=>d.2 _ a h⟩
 ·have e:c/(n+1)=i:=om
  have b:c%(n+1)<t:=by
   have:=Nat.div_add_mod c (n+1);rw[e,av]at this;omega
  unfold chk;rw[e];exact⟨fun a=>f _ om om,fun a=>om⟩

def kF:Nat->(Nat->Nat)->Nat
 | 0,_=>1
 | n+1,f=>kF n f*f n
theorem oS{f g:Nat->Nat}(h:∀i,i<n->f i=g i):kF n f=kF n g:=by
 induction n with
 | zero=>rfl
 | succ n ih=>simp only[kF];rw[ih fun i a=>h i om,h n om]
theorem DE{f:Nat->Nat}(h:∀i,i<n->0<f i):0<kF n f:=by
 induction n with
 | zero=>simp[kF]
 | succ n ih=>simp only[kF];exact ym (ih fun i a=>h i om) (h n om)
theorem uL{f g:Nat->Nat}(d:i<n)(h:∀k,k<n->k≠i->g k=f k)(b:4*g i<=3*f i):4*kF n g<=3*kF n f:=by
 induction n with
 | zero=>omega
 | succ n ih =>
  simp only[kF];rcases az i n with a|a
  ·rw[h n om om,<-aZ,<-aZ];exact ay _ (ih a fun k c=>h k om)
  ·obtain rfl:i=n:=om
   rw[oS (f:=g) (g:=f) fun k c=>h k om om,Nat.mul_left_comm,Nat.mul_left_comm 3];exact aQ _ b
theorem FU{B:Nat}{f:Nat->Nat}(h:∀i,i<n->f i<=B):kF n f<=B^n:=by
 induction n with
 | zero=>simp[kF]
 | succ n ih=>simp only[kF,bM];exact bK (ih fun i a=>h i om) (h n om)
def pot(A:aB)(n:Nat):Nat:=kF n (fun k=>(det k A).toNat)
noncomputable def jg(A:aB)(n:Nat):Nat:=nI (chk A n) (n*(n+1))
noncomputable def AR(A:aB)(n:Nat):Nat:=pot A n*(n*(n+1)+1)+(n*(n+1)-jg A n)
theorem sA(A:aB)(n:Nat):jg A n<=n*(n+1):=zJ _ _
theorem Pd.pot_pos(h:Pd A n):0<pot A n:=DE fun k a=>by have:=h.pos k om;omega
theorem E6(a:j<i):pot (iI A i j q) n=pot A n:=oS fun k _=>by rw[eo a]
theorem Ck(h:Pd A n)(a:0<i)(b:i<n)(c:¬gZ A i):4*pot (q9 A i) n<=3*pot A n:=by
 refine uL b (fun k _ d=>by rw[lO a d]) ?_
 have e:=zn h a b c;have f:=(h.swap a b).pos i om;omega
theorem tR(b:j<i)(g:i<n)(k:jy A i)(m:∀j',j<j'->j'<i->fM A i j')(o:¬fM A i j)(p:2*((eB A i j+q*det (j+1) A).natAbs:Int)<=det (j+1) A) :
  jg A n<jg (iI A i j q) n:=by
 have v:jg A n<=i*(n+1)+(i-1-j):=by
  refine xv ?_ _;rw[zq9 om];intro h;have:=h.1 om;rw[(om:i-1-(i-1-j)=j)]at this
  exact o this
 have w:i*(n+1)+(i-1-j)+1<=n*(n+1):=by
  have:(i+1)*(n+1)<=n*(n+1):=ay _ g;rw[ck]at this;omega
 have d:jy (iI A i j q) i:=by
  refine⟨fun r a s e=>?_,fun r t a=>?_⟩
  ·have:=k.1 r a s e;unfold fM at *;rw[lY a om,eo b];exact this
  ·have:=k.2 r t a;unfold gZ at *;rw[lY a om,eo b,eo b,eo b];exact this
 have x:i*(n+1)+(i-j)<=jg (iI A i j q) n:=by
  refine zK (fun c u=>Gn d (fun j' y l=>?_) om g u) _ om;unfold fM;rw[eo b];rcases az j j' with f|f
  ·rw[ql f l];exact m j' f l
  ·obtain rfl:j'=j:=om
   rw[lZ b];exact p
 omega
theorem Cr(a:j<i)(b:jg A n<jg (iI A i j q) n):AR (iI A i j q) n<AR A n:=by
 unfold AR;rw[E6 a];have c:=sA (iI A i j q) n;omega
theorem zG(h:Pd A n)(a:0<i)(b:i<n)(c:¬gZ A i):AR (q9 A i) n<AR A n:=by
 unfold AR;have e:=Ck h a b c;have f:=h.pot_pos;have d:(pot (q9 A i) n+1)*(n*(n+1)+1)<=pot A n*(n*(n+1)+1):=ay _ om;rw[ck]at d;omega
theorem GA{y z:Int}(h:x=y+z):x*x<=2*(y*y)+2*(z*z):=by
 subst h;have:=fT (y-z);have e:2*(y*y)+2*(z*z)-(y+z)*(y+z)=(y-z)*(y-z):=by grind
 omega
theorem Hj(h:2*(x.natAbs:Int)<=d):4*(x*x)<=d*d:=by
 have a:((x.natAbs:Nat):Int)*x.natAbs=x*x:=by rw[<-bO,ju]
 have b:(2*(x.natAbs:Int))*(2*x.natAbs)<=d*d:=bW h h om om;have c:(2*(x.natAbs:Int))*(2*x.natAbs)=4*((x.natAbs:Int)*x.natAbs):=by grind
 omega
theorem Pd.q_sq(h:Pd A n){D:Int}(a:∀k,k<=n->det k A<=D){i j:Nat}{q:Int}(u:j<i)(f:i<n)(g:2*((eB A i j+q*det (j+1) A).natAbs:Int)<=det (j+1) A):q*q<=3*(D*A i i):=by
 have c:=h.pos (j+1) om;have l:=h.pos j om;have b:=h.diag f;have m:=h.lam_sq (k:=j) (i:=i-j-1) om;have d:=h.stg_up j (i-j) om;rw[(om:i-j-1+1=i-j)]at m
 rw[(om:j+(i-j)=i)]at d
 have o:=Hj g;have e:=GA (x:=q*det (j+1) A) (y:=eB A i j+q*det (j+1) A) (z:=- eB A i j) om;unfold eB at o e;have v:det (j+1) A*ca A j (i-j) (i-j)<=det (j+1) A*(det j A*A i i):=a8 d (aS c);rw[uX]at e;have p:det (j+1) A*(det (j+1) A*(q*q))<=det (j+1) A*(2*(det j A*A i i)+det (j+1) A):=by
  have w:q*det (j+1) A*(q*det (j+1) A)=det (j+1) A*(det (j+1) A*(q*q)):=by grind
  have B:=fT (ca A j (i-j) 0+q*det (j+1) A);have C:det (j+1) A*(2*(det j A*A i i)+det (j+1) A)=2*(det (j+1) A*(det j A*A i i))+det (j+1) A*det (j+1) A:=by grind
  omega
 have E:=ll p c;have F:q*q<=det (j+1) A*(q*q):=by
  have:=bE (om:1<=det (j+1) A) (fT q)
  omega
 have G:det j A*A i i<=D*A i i:=bE (a j om) (aS b);have r:D<=D*A i i:=by
  have s:=a j om;have:=a8 (om:1<=A i i) (om:0<=D)
  omega
 have t:=a (j+1) om;omega
theorem Pd.add_diag(h:Pd A n){D:Int}(d:∀k,k<=n->det k A<=D){i j:Nat}{q:Int}(m:j<i)(c:i<n)(o:jy A i)(p:2*((eB A i j+q*det (j+1) A).natAbs:Int)<=det (j+1) A) :
  iI A i j q i i<=(2+6*((n:Int)*(D*D)))*A i i:=by
 have s:=h.q_sq d m c p;have a:=h.diag c;have f:=h.diag (om:j<n)
 have x:=h.sized_norm (D:=D) (r:=j) om (fun k y=>d (k+1) om) (fun j' g=>o.1 j om j' g);have l:=d 0 om;have b:0<D:=by simp only[det]at l;omega
 have t:=Ed (u:=q) (v:=1) a (h.cs0 c (om:j<n))
 have e:iI A i j q i i=A i i+2*(A i j*(q*1))+A j j*(q*q):=by
  have:=h.sym i j c om;simp only[iI];simp;grind
 have z:A j j*(q*q)<=A j j*(3*(D*A i i)):=a8 s (aS f);have w:A j j<=n*D:=by
  have:((j+1:Nat):Int)*D<=n*D:=bE om (aS b);omega
 have B:A j j*(3*(D*A i i))<=(n*D)*(3*(D*A i i)):=bE w (by have:=iH b a;omega)
 have C:(2+6*((n:Int)*(D*D)))*A i i=2*A i i+2*((n*D)*(3*(D*A i i))):=by grind
 rw[ie]at t;omega

structure LI(A:aB)(n s:Nat):Prop where
 pd:Pd A n
 lead:∀k,k<=n->det k A<=59049
 pot:4^s*pot A n<=3^s*65536^n
 diag:∀i,i<n->A i i<=2^(4+40*(31*s+jg A n))
theorem dU{a b:Nat}(h:a<=b):(2:Int)^a<=2^b:=by
 have:=cf (n:=2) om h;have c:((2^a:Nat):Int)<=((2^b:Nat):Int):=Int.ofNat_le.2 this;simpa using c
theorem LI.init(h:Pd A n)(l:n<=5)(c:∀i,i<n->A i i<=9):LI A n 0:=by
 have f:∀k,k<=n->det k A<=9^k:=by
  intro k
  induction k with
  | zero=>intro _;simp[det]
  | succ k ih =>
   intro b;have d:=h.hadamard (k:=k) om;have e:=c k om;have g:=bW (ih om) e (aS (h.diag om)) (by have:=h.pos k om;have:=ih om;omega)
   rw[eO];omega
 have a:∀k,k<=n->det k A<=59049:=by
  intro k b;have d:=f k b;have:(9:Int)^k<=59049:=by
   match k,(om:k<=5)with
   | 0,_=>decide
   | 1,_=>decide
   | 2,_=>decide
   | 3,_=>decide
   | 4,_=>decide
   | 5,_=>decide
  omega
 refine⟨h,a,?_,fun i j=>?_⟩
 ·simp only[Nat.pow_zero,Nat.one_mul];exact FU fun k b=>by have:=a k om;omega
 ·have d:=c i j;have e:=dU (om:4<=4+40*(31*0+jg A n))
  have g:(2:Int)^4=16:=by decide
  omega
theorem LI.s_le(h:LI A n s)(b:n<=5):s<=200:=by
 rcases az 200 s with a|a
 ·exfalso;have c:=h.pot;have d:=h.pd.pot_pos;have e:65536^n<=65536^5:=cf om b;have f:4^s<=3^s*65536^5:=by
   calc
    4^s=4^s*1:=om
    _<=4^s*Go.Proofs.YtdobfmlmenaajaaGreatDoor.pot A n:=aQ _ d
    _<=3^s*65536^n:=c
    _<=3^s*65536^5:=aQ _ e
  obtain⟨t,rfl⟩:∃t,s=200+t:=⟨s-200,om⟩
  have g:3^t<=4^t:=Nat.pow_le_pow_left om t;have i:3^200*65536^5<4^200:=by decide
  have j:3^200*65536^5*3^t<4^200*4^t:=Nat.lt_of_lt_of_le (Nat.mul_lt_mul_of_pos_right i (jQ om)) (aQ _ g);rw[fE,fE]at f;have k:3^200*3^t*65536^5=3^200*65536^5*3^t:=by
   rw[aZ,av (3^t),<-aZ]
  omega
 ·exact a
theorem LI.add(h:LI A n s)(w:n<=5){i j:Nat}{q:Int}(b:j<i)(c:i<n)(f:jy A i)(l:∀j',j<j'->j'<i->fM A i j')(m:¬fM A i j)(g:2*((eB A i j+q*det (j+1) A).natAbs:Int)<=det (j+1) A):LI (iI A i j q) n s:=by
 have x:=tR (n:=n) b c f l m g;refine⟨h.pd.add b c,fun k o=>by rw[eo b];exact h.lead k o,by rw[E6 b];exact h.pot,fun a d=>?_⟩
 by_cases e:a=i
 ·subst e;have p:=h.pd.add_diag h.lead b c f g;have r:=h.diag a d;have t:=h.pd.diag d;have y:(2+6*((n:Int)*(59049*59049)))*A a a<=2^40*A a a:=by
   refine bE ?_ (aS t);have:(2:Int)^40=1099511627776:=by decide
   omega
  have u:(2:Int)^40*A a a<=2^40*2^(4+40*(31*s+jg A n)):=a8 r dc
  rw[<-Int.pow_add]at u;have v:=dU (om:40+(4+40*(31*s+jg A n))<=4+40*(31*s+jg (iI A a j q) n))
  omega
 ·rw[kc A e e];have p:=h.diag a d;have v:=dU (om:4+40*(31*s+jg A n)<=4+40*(31*s+jg (iI A i j q) n))
  omega
theorem LI.swap(h:LI A n s)(l:n<=5){i:Nat}(b:0<i)(c:i<n)(j:¬gZ A i):LI (q9 A i) n (s+1):=by
 have o:jg A n<=30:=by
  have d:=sA A n;have f:n*(n+1)<=5*6:=bK l om;omega
 refine⟨h.pd.swap b c,fun k g=>?_,?_,fun a p=>?_⟩
 ·by_cases e:k=i
  ·subst e;have d:=zn h.pd b c j;have f:=h.lead k g;have q:=(h.pd.swap b c).pos k g;omega
  ·rw[lO b e];exact h.lead k g
 ·have d:=Ck h.pd b c j;have f:=h.pot;rw[bM,bM]
  calc
   4^s*4*Go.Proofs.YtdobfmlmenaajaaGreatDoor.pot (q9 A i) n=4^s*(4*Go.Proofs.YtdobfmlmenaajaaGreatDoor.pot (q9 A i) n):=by rw[aZ]
   _<=4^s*(3*Go.Proofs.YtdobfmlmenaajaaGreatDoor.pot A n):=aQ _ d
   _=3*(4^s*Go.Proofs.YtdobfmlmenaajaaGreatDoor.pot A n):=by rw[Nat.mul_left_comm]
   _<=3*(3^s*65536^n):=aQ _ f
   _=3^s*3*65536^n:=by rw[<-aZ,av 3]
 ·have m:cV (i-1) i a<n:=by unfold cV;split<;>(try split)<;>omega
  have d:=h.diag _ m;have r:=dU (om:4+40*(31*s+jg A n)<=4+40*(31*(s+1)+jg (q9 A i) n))
  simp only[q9];omega
theorem LI.entry(h:LI A n s)(e:n<=5){i j:Nat}(b:i<n)(c:j<n){N:Nat}(q:249300<=N):(A i j).natAbs<2^N:=by
 have r:=h.s_le e;have t:jg A n<=30:=by
  have f:=sA A n;have g:n*(n+1)<=5*6:=bK e om;omega
 obtain⟨M,rfl⟩:∃M,N=M+1:=⟨N-1,om⟩
 have u:=dU (om:4+40*(31*s+jg A n)<=M)
 have f:=h.pd.cs0 b c;have g:=h.diag i b;have v:=h.diag j c;have k:=bW (om:A i i<=2^M) (om:A j j<=2^M) (aS (h.pd.diag c)) (by have:=h.pd.diag b;omega)
 have d:(2:Int)^M=((2^M:Nat):Int):=by simp
 rw[d]at k;rw[Nat.pow_succ'];have hPpos:0<2^M:=jQ om;generalize (2:Nat)^M=P at *;rcases az (A i j).natAbs (2*P)with a|a
 ·exact a
 ·exfalso;have w:(2*P)*(2*P)<=(A i j).natAbs*(A i j).natAbs:=bK a a;have l:(((A i j).natAbs*(A i j).natAbs:Nat):Int)=A i j*A i j:=ju;have m:(2*P)*(2*P)=4*(P*P):=by rw[Nat.mul_mul_mul_comm]
  have o:0<P*P:=ym hPpos hPpos;have p:((P*P:Nat):Int)=(P:Int)*P:=bO P P;omega

structure G3(H:aB)(n:Nat):Prop where
 pd:Pd H n
 rows:jy H n
 lead:∀k,k<=n->det k H<=59049
theorem G3.diag(h:G3 H n)(c:n<=5){i:Nat}(a:i<n):H i i<=118098:=by
 have d:=h.pd.sized_norm4 (D:=59049) a (fun k e=>h.lead (k+1) om) (fun j b=>h.rows.1 i a j b);omega
theorem mD{B:Int}(b:0<=B)(h:x*x<=B*B):x.natAbs<=B:=by
 rcases gW B x.natAbs with a|a
 ·exfalso;have c:(B+1)*(B+1)<=(x.natAbs:Int)*x.natAbs:=bW om om om om;have d:((x.natAbs:Nat):Int)*x.natAbs=x*x:=by rw[<-bO,ju]
  have e:(B+1)*(B+1)=B*B+2*B+1:=by grind
  omega
 ·exact a
theorem G3.entry(h:G3 H n)(b:n<=5){i j:Nat}(c:i<n)(a:j<n):((H i j).natAbs:Int)<=118098:=by
 have f:=h.pd.cs0 c a;have d:=h.diag b c;have e:=h.diag b a;have g:=bW d e (aS (h.pd.diag a)) om;exact mD om om
theorem Fj{l:Int}(b:0<d):2*((l+-((2*l+d)/(2*d))*d).natAbs:Int)<=d:=by
 have c:=a9 (2*l+d) (om:2*d≠0)
 have e:=Int.emod_lt_of_pos (2*l+d) (om:0<2*d)
 have f:=Int.emod_add_mul_ediv (2*l+d) (2*d);generalize hq:(2*l+d)/(2*d)=q at *;have g:2*d*q=2*(q*d):=by grind
 have a:-q*d=-(q*d):=by grind
 rw[a];omega

abbrev ik:=Nat->Int
variable{L:ik->Prop}
def gO(n m:Nat)(B:aB)(x:ik):Prop:=∃c:ik,∀i,i<n->x i=aq m (fun j=>B i j*c j)
structure Jv(n:Nat)(L:ik->Prop):Prop where
 zero:L (fun _=>0)
 comb:∀x y:ik,L x->L y->∀a b:Int,L (fun i=>a*x i+b*y i)
 ext:∀x y:ik,L x->(∀i,i<n->x i=y i)->L y
theorem Jv.smul(h:Jv n L){x:ik}(b:L x)(a:Int):L (fun i=>a*x i) :=
 h.ext _ _ (h.comb x x b b a 0) (fun i _=>by simp)
theorem Jv.add(h:Jv n L){x y:ik}(a:L x)(b:L y):L (fun i=>x i+y i) :=
 h.ext _ _ (h.comb x y a b 1 1) (fun i _=>by simp)
theorem Jv.sum(h:Jv n L)(C:Nat->ik)(c:ik):∀m,(∀j,j<m->L (C j))->L (fun i=>aq m (fun j=>C j i*c j))
 | 0,_=>h.ext _ _ h.zero (fun i _=>by simp[aq])
 | m+1,a=>h.ext _ _ (h.comb _ _ (h.sum C c m fun j b=>a j om) (a m om) 1 (c m)) (fun i _=>by simp only[aq];grind)
theorem FN(m:Nat)(a b:Int)(B:Nat->Int)(c d:ik):aq m (fun j=>B j*(a*c j+b*d j))=a*aq m (fun j=>B j*c j)+b*aq m (fun j=>B j*d j):=by
 rw[<-mB];exact aA fun j _=>by grind
theorem gO.lat(n m:Nat)(B:aB):Jv n (gO n m B):=by
 refine⟨⟨fun _=>0,fun i _=>(iC fun j _=>by simp).symm⟩,?_,?_⟩
 ·rintro x y ⟨c,f⟩ ⟨d,g⟩ a b;exact⟨fun j=>a*c j+b*d j,fun i e=>by show a*x i+b*y i=_;rw[f i e,g i e,FN]⟩
 ·rintro x y ⟨c,f⟩ h;exact⟨c,fun i e=>by rw[<-h i e];exact f i e⟩
theorem gO.col(a:j<m):gO n m B (fun i=>B i j) :=
 ⟨dC j,fun i _=>by
  rw[cp j a (fun k _ b=>by simp[dC,b])];simp[dC]⟩
theorem gO.sub(a:Jv n L)(h:∀j,j<m->L (fun i=>B i j)){x:ik}(b:gO n m B x):L x:=by
 obtain⟨c,d⟩:=b;exact a.ext _ _ (a.sum (fun j i=>B i j) c m h) (fun i e=>(d i e).symm)
def kd(n:Nat)(A B:aB):Prop:=(∀x,gO n n A x↔gO n n B x)/\(det n A).natAbs=(det n B).natAbs
theorem kd.refl(n:Nat)(A:aB):kd n A A:=⟨fun _=>Iff.rfl,rfl⟩
theorem kd.trans{C:aB}(h:kd n A B)(k:kd n B C):kd n A C:=⟨fun x=>(h.1 x).trans (k.1 x),h.2.trans k.2⟩
theorem kd.of(a:∀j,j<n->gO n n A (fun i=>B i j))(b:∀j,j<n->gO n n B (fun i=>A i j))(c:(det n A).natAbs=(det n B).natAbs):kd n A B :=
 ⟨fun _=>⟨gO.sub (gO.lat n n B) b,gO.sub (gO.lat n n A) a⟩,c⟩
theorem FQ(A:aB){i k:Nat}(f:i<n)(d:k<n)(a:i≠k)(c:Int):kd n A (aW A i (fun r=>A r i+c*A r k)):=by
 refine kd.of (fun j b=>?_) (fun j b=>?_) ?_
 ·by_cases e:j=i
  ·subst e;exact(gO.lat n n A).ext _ _ ((gO.lat n n A).comb _ _ (gO.col b) (gO.col d) 1 c) (fun r _=>by simp[aW])
  ·exact(gO.lat n n A).ext _ _ (gO.col b) (fun r _=>by simp[aW,e])
 ·by_cases e:j=i
  ·subst e;refine(gO.lat n n _).ext _ _ ((gO.lat n n _).comb _ _ (gO.col (j:=j) b) (gO.col (j:=k) d) 1 (-c)) (fun r _=>?_);simp only[aW,if_true,if_neg (ai a)];grind
  ·exact(gO.lat n n _).ext _ _ (gO.col (j:=j) b) (fun r _=>by simp[aW,e])
 ·have h:=kK A f d a 1 c;rw[cF]at h;rw[<-h];simp only[cF]
theorem Dz(A:aB){i k:Nat}(g:i<n)(h:k<n)(d:i≠k):kd n A (fun a b=>A a (cV i k b)):=by
 have f:∀j,j<n->cV i k j<n:=fun j c=>by unfold cV;split<;>(try split)<;>omega
 have e:∀j,cV i k (cV i k j)=j:=fun j=>by unfold cV;grind
 refine kd.of (fun j c=>gO.col (f j c)) (fun j c=>?_) ?_
 ·have:=gO.col (n:=n) (B:=fun a b=>A a (cV i k b)) (f j c);simpa only[e]using this
 ·rw[mW A g h d];omega
theorem FR(A:aB){i:Nat}(b:i<n):kd n A (aW A i (fun r=>- A r i)):=by
 refine kd.of (fun j a=>?_) (fun j a=>?_) ?_
 ·by_cases e:j=i
  ·subst e;exact(gO.lat n n A).ext _ _ ((gO.lat n n A).smul (gO.col a) (-1)) (fun r _=>by simp[aW])
  ·exact(gO.lat n n A).ext _ _ (gO.col a) (fun r _=>by simp[aW,e])
 ·by_cases e:j=i
  ·subst e;exact(gO.lat n n _).ext _ _ ((gO.lat n n _).smul (gO.col (j:=j) a) (-1)) (fun r _=>by simp[aW])
  ·exact(gO.lat n n _).ext _ _ (gO.col (j:=j) a) (fun r _=>by simp[aW,e])
 ·have h:=ms A b (-1) 0 (fun r=>A r i) (fun r=>A r i);have e:aW A i (fun r=>-1*A r i+0*A r i)=aW A i (fun r=>- A r i):=by congr 1;funext r;omega
  rw[e,gz]at h;omega
theorem yQ(A:aB)(h:∀j,0<j->j<n+1->A 0 j=0):det (n+1) A=A 0 0*det n (fun i j=>A (i+1) (j+1)):=by
 simp only[det];rw[cp 0 om (fun j a b=>by rw[h j om a];simp)]
 simp only[wK,cF];congr 1
 all_goals (first|rfl|(exact aT fun i j _ _=>by simp[cut,skip]))
def fv:Nat->(Nat->Int)->Int
 | 0,_=>1
 | n+1,f=>f 0*fv n (fun i=>f (i+1))
def Dk(n i:Nat)(A:aB):Prop:=∀r,r<i->(∀j,r<j->j<n->A r j=0)/\0<A r r
theorem o5{n:Nat}:∀(i:Nat) (A:aB),Dk (n+i) i A->det (n+i) A=fv i (fun r=>A r r)*det n (fun r j=>A (r+i) (j+i))
 | 0,A,_=>by simp[fv]
 | i+1,A,h=>by
  rw[<-Nat.add_assoc,yQ A (fun j a b=>(h 0 om).1 j a om),o5 i (fun r j=>A (r+1) (j+1)) (fun r c=>⟨fun j d e=>(h (r+1) om).1 (j+1) om om,(h (r+1) om).2⟩)];simp only[fv];rw[eY];rfl
theorem tP(h:∀i,i<n->0<f i):0<fv n f:=by
 induction n generalizing f with
 | zero=>simp[fv]
 | succ n ih=>simp only[fv];exact iH (h 0 om) (ih fun i a=>h (i+1) om)
def cW:Nat->(Nat->Int)->Nat
 | 0,_=>0
 | n+1,f=>cW n f+(f n).natAbs
theorem I4(b:k<n)(h:∀j,j<n->j≠k->f j=g j)(c:(f k).natAbs<(g k).natAbs):cW n f<cW n g:=by
 induction n with
 | zero=>omega
 | succ n ih =>
  simp only[cW];by_cases e:k=n
  ·subst e;have:cW k f=cW k g:=by
    have key:∀m,m<=k->cW m f=cW m g:=by
     intro m
     induction m with
     | zero=>intro _;rfl
     | succ m a=>intro d;simp only[cW];rw[a om,h m om om]
    exact key k (af _)
   omega
  ·rw[h n om (ai e)];have:=ih om (fun j i=>h j om);omega
theorem CL(A:aB)(h:∀j,j<n+1->A 0 j=0):det (n+1) A=0:=by
 simp only[det];exact iC fun j a=>by rw[h j a];simp
theorem JB(G:i<n):∀(m:Nat) (A:aB),cW n (fun j=>if i<=j then A i j else 0)=m->Dk n i A->det n A≠0->∃B,kd n A B/\Dk n (i+1) B:=by
 intro m
 induction m using Nat.strongRecOn with
 | ind m ih =>
  intro A K q L;by_cases z:∃d a,i<=d/\d<n/\i<=a/\a<n/\d≠a/\A i d≠0/\(A i d).natAbs<=(A i a).natAbs
  ·obtain⟨d,a,C,u,v,s,t,w,y⟩:=z;have H:=FQ A s u (ai t) (-(A i a/A i d));have D:(A i a+-(A i a/A i d)*A i d).natAbs<(A i a).natAbs:=by
    have e:A i a+-(A i a/A i d)*A i d=A i a%A i d:=by
     rw[Int.emod_def];grind
    rw[e];have M:=a9 (A i a) w;have N:=Int.emod_lt (A i a) w;omega
   have E:Dk n i (aW A a (fun r=>A r a+-(A i a/A i d)*A r d)):=by
    refine fun r o=>⟨fun j g b=>?_,?_⟩
    ·by_cases e:j=a
     ·subst e;simp only[aW,if_true];rw[(q r o).1 j g b,(q r o).1 d om u];simp
     ·simp only[aW,e,if_false];exact(q r o).1 j g b
    ·simp only[aW];rw[if_neg om];exact(q r o).2
   obtain⟨B,p,f⟩:=ih (cW n (fun j=>if i<=j then aW A a (fun r=>A r a+-(A i a/A i d)*A r d) i j else 0)) (by
     rw[<-K];refine I4 s (fun j _ g=>?_) ?_
     ·simp[aW,g]
     ·simp only[v,if_true,aW];exact D) _ rfl E (by
     have:=H.2;intro l;rw[l]at this;omega)
   exact⟨B,H.trans p,f⟩
  ·have F:∃c,i<=c/\c<n/\A i c≠0:=by
    rcases eP (∃c,i<=c/\c<n/\A i c≠0)with h|h
    ·exact h
    ·exfalso;refine L ?_;obtain⟨k,rfl⟩:∃k,n=k+1+i:=⟨n-i-1,om⟩
     rw[o5 i A q,CL (n:=k) _ (fun j g=>?_),Int.mul_zero];rcases eP (A (0+i) (j+i)=0)with l|l
     ·exact l
     ·exact absurd ⟨j+i,om,om,by rw[aJ]at l;exact l⟩ h
   obtain⟨c,C,u,v⟩:=F;have I:∀j,i<=j->j<n->j≠c->A i j=0:=by
    intro j s t w;rcases eP (A i j=0)with l|l
    ·exact l
    ·exfalso;rcases Nat.le_total (A i j).natAbs (A i c).natAbs with y|y
     ·exact z ⟨j,c,s,t,C,u,w,l,y⟩
     ·exact z ⟨c,j,C,u,s,t,ai w,v,y⟩
   have s:∃B,kd n A B/\Dk n i B/\B i i≠0/\∀j,i<j->j<n->B i j=0:=by
    by_cases e:i=c
    ·subst e;exact⟨A,kd.refl n A,q,v,fun j g b=>I j om b om⟩
    ·refine⟨_,Dz A G u e,fun r o=>⟨fun j g b=>?_,?_⟩,?_,fun j g b=>?_⟩
     ·have:r<cV i c j/\cV i c j<n:=by unfold cV;split<;>(try split)<;>omega
      exact(q r o).1 _ this.1 this.2
     ·have:cV i c r=r:=by unfold cV;rw[if_neg om,if_neg om]
      show 0<A r (cV i c r);rw[this];exact(q r o).2
     ·show A i (cV i c i)≠0;have:cV i c i=c:=by simp[cV]
      rw[this];exact v
     ·show A i (cV i c j)=0;refine I _ ?_ ?_ ?_<;>(unfold cV;split<;>(try split)<;>omega)
   obtain⟨B,p,f,O,x⟩:=s;rcases gW 0 (B i i)with t|t
   ·refine⟨B,p,fun r o=>?_⟩;by_cases e:r=i
    ·subst e;exact⟨x,t⟩
    ·exact f r om
   ·refine⟨_,p.trans (FR B G),fun r o=>⟨fun j g b=>?_,?_⟩⟩
    ·simp only[aW];by_cases e:r=i
     ·subst e;rw[if_neg om];exact x j g b
     ·by_cases J:j=i
      ·subst J;rw[if_pos rfl,(f r om).1 j g b];rfl
      ·rw[if_neg J];exact(f r om).1 j g b
    ·simp only[aW];by_cases e:r=i
     ·subst e;rw[if_pos rfl];omega
     ·rw[if_neg e];exact(f r om).2
theorem Dp(A:aB)(f:det n A≠0):∃B,kd n A B/\Dk n n B:=by
 have key:∀i,i<=n->∃B,kd n A B/\Dk n i B:=by
  intro i
  induction i with
  | zero=>intro _;exact⟨A,kd.refl n A,fun r g=>om⟩
  | succ i ih =>
   intro h;obtain⟨B,a,b⟩:=ih om;obtain⟨C,c,d⟩:=JB om _ B rfl b (by have:=a.2;intro e;rw[e]at this;omega)
   exact⟨C,a.trans c,d⟩
 exact key n (af _)
theorem G8(h:kd n A B)(b:Dk n n B):((det n A).natAbs:Int)=fv n (fun r=>B r r):=by
 have a:=o5 (n:=0) n B (by rw[aJ];exact b)
 rw[aJ]at a;simp only[det,ie]at a;have d:=tP (n:=n) (f:=fun r=>B r r) (fun r c=>(b r c).2);rw[h.2,a];omega

end Go.Proofs.YtdobfmlmenaajaaGreatDoor
