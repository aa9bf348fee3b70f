/-
  Lemmas for NeighbourKeeps.
-/
import Derived.Test.YtdobfmlmenaajaaGreatDoorL14
namespace Go.Proofs.YtdobfmlmenaajaaGreatDoor
open Go.RowKit Tryz
open _root_.Int renaming le_of_lt→aS,mul_le_mul_of_nonneg_left→a8,mul_le_mul_of_nonneg_right→bE,natCast_mul→bO,mul_le_mul→bW,mul_comm→bZ,eq_of_mul_eq_mul_left→cB,one_mul→cF,dvd_mul_of_dvd_right→cP,le_trans→dq,toNat_of_nonneg→eM,pow_succ→eO,mul_assoc→eY,lt_or_le→gW,mul_one→ie,dvd_mul_of_dvd_left→im,mul_pos→iH,mul_ediv_cancel'→ji,dvd_add→jk,natAbs_mul_self→ju,emod_add_mul_ediv→ku
open _root_.Nat renaming le_refl→af,mul_le_mul_right→ay,lt_or_ge→az,zero_add→aJ,succ_mul→ck,add_zero→cn,lt_irrefl→co,sub_zero→c9,lt_trichotomy→da,pow_add→fE,pow_pos→jQ
open _root_.Ne renaming symm→ai
set_option maxHeartbeats 6400000
set_option maxRecDepth 4096
set_option linter.all false
variable{a0 b b0 c0 f0 f1 l p q s0 s1 x y:Int}{a c d e i j k m n piv r:Nat}{f g:Nat->Int}{w w':Nat->Nat}{A A' H Q T:aB}
theorem Ar{p:Nat}(l:∀a b,a<c->b<c->A' a b=A a b)(m:∀a,a<c->A' a (c+j)=A a (c+j))
  (o:∀b,b<c->A' (c+i) b=x*A (c+p) b+y*A (c+r) b) (q:A' (c+i) (c+j)=x*A (c+p) (c+j)+y*A (c+r) (c+j)):ca A' c i j=x*ca A c p j+y*ca A c r j:=by
 have d:∀(z b:Nat),b<c->up c (fun _=>z) b=b:=fun z b g=>by rw[jw,if_pos g]
 have f:∀z,up c (fun _=>z) c=c+z:=fun z=>by rw[jw,if_neg om]
 have h:=nd (fun a b=>A (up c (fun _=>p) a) (up c (fun _=>j) b)) (n:=c+1) (i:=c) om x y (fun b=>A (c+p) (up c (fun _=>j) b)) (fun b=>A (c+r) (up c (fun _=>j) b));have e:∀(z:Nat),det (c+1) (setRow (fun a b=>A (up c (fun _=>p) a) (up c (fun _=>j) b)) c (fun b=>A (c+z) (up c (fun _=>j) b)))=ca A c z j:=fun z=>by
  unfold ca;refine aT fun a b s g=>?_;simp only[setRow];by_cases e:a=c
  ·subst e;rw[if_pos rfl,f]
  ·rw[if_neg e,d _ a om,d _ a om]
 rw[e,e]at h;rw[<-h];unfold ca;refine aT fun a b s g=>?_;simp only[setRow];by_cases e:a=c
 ·subst e;rw[if_pos rfl,f];by_cases k:b=a
  ·subst k;rw[f];exact q
  ·rw[d _ b om];exact o b om
 ·rw[if_neg e,d _ a om,d _ a om];by_cases k:b=c
  ·subst k;rw[f];exact m a om
  ·rw[d _ b om];exact l a b om om
theorem ES{p:Nat}(l:∀a b,a<c->b<c->A' a b=A a b)(m:∀b,b<c->A' (c+i) b=A (c+i) b)
  (o:∀a,a<c->A' a (c+j)=x*A a (c+p)+y*A a (c+r)) (q:A' (c+i) (c+j)=x*A (c+i) (c+p)+y*A (c+i) (c+r)):ca A' c i j=x*ca A c i p+y*ca A c i r:=by
 have d:∀(z b:Nat),b<c->up c (fun _=>z) b=b:=fun z b g=>by rw[jw,if_pos g]
 have f:∀z,up c (fun _=>z) c=c+z:=fun z=>by rw[jw,if_neg om]
 have h:=ms (fun a b=>A (up c (fun _=>i) a) (up c (fun _=>p) b)) (n:=c+1) (c:=c) om x y (fun a=>A (up c (fun _=>i) a) (c+p)) (fun a=>A (up c (fun _=>i) a) (c+r));have e:∀(z:Nat),det (c+1) (aW (fun a b=>A (up c (fun _=>i) a) (up c (fun _=>p) b)) c (fun a=>A (up c (fun _=>i) a) (c+z)))=ca A c i z:=fun z=>by
  unfold ca;refine aT fun a b s g=>?_;simp only[aW];by_cases e:b=c
  ·subst e;rw[if_pos rfl,f z]
  ·rw[if_neg e,d _ b om,d _ b om]
 rw[e,e]at h;rw[<-h];unfold ca;refine aT fun a b s g=>?_;simp only[aW];by_cases e:b=c
 ·subst e;rw[if_pos rfl,f];by_cases k:a=b
  ·subst k;rw[f];exact q
  ·rw[d _ a om];exact o a om
 ·rw[if_neg e,d _ b om,d _ b om];by_cases k:a=c
  ·subst k;rw[f];exact m b om
  ·rw[d _ a om];exact l a b om om
theorem Bt(f:j<i)(g:c<j):eB (iI A i j q) i c=eB A i c+q*eB A j c:=by
 unfold eB;have h:=Ar (A:=A) (A':=iI A i j q) (c:=c) (i:=i-c) (j:=0) (p:=i-c) (r:=j-c) (x:=1) (y:=q) (fun a b d e=>kc A om om) (fun a d=>kc A om om)
  (fun b e=>by rw[(om:c+(i-c)=i),(om:c+(j-c)=j),sW A om,cF])
  (by rw[(om:c+(i-c)=i),(om:c+(j-c)=j),sW A om,cF])
 rw[h,cF]
theorem uQ{i':Nat}(w:j<i)(x:i<i')(y:c<i'):eB (iI A i j q) i' c=eB A i' c:=by
 have p:∀(z b:Nat),b<c->up c (fun _=>z) b=b:=fun z b g=>by rw[jw,if_pos g]
 have l:∀z,up c (fun _=>z) c=c+z:=fun z=>by rw[jw,if_neg om]
 have d:∀b,b<c+1->up c (fun _=>0) b=b:=fun b g=>lq c b g;unfold eB ca;rcases da c i with h|h|h
 ·refine aT fun a b o g=>?_;rw[d b g];refine kc A ?_ om;by_cases e:a=c
  ·subst e;rw[l];omega
  ·rw[p _ a om];omega
 ·subst h;have m:=kK (fun a b=>A (up c (fun _=>i'-c) a) (up c (fun _=>0) b)) (n:=c+1) (i:=c) (k:=j) om om om 1 q;rw[cF]at m;rw[<-m];refine aT fun a b o g=>?_;have f:up c (fun _=>i'-c) a≠c:=by
   by_cases e:a=c
   ·subst e;rw[l];omega
   ·rw[p _ a om];exact e
  simp only[aW];by_cases e:b=c
  ·subst e;rw[if_pos rfl,d b om,d j om];simp[iI,f]
  ·rw[if_neg e,d b g];exact kc A f e
 ·have t:=jN (fun a b=>A (up c (fun _=>i'-c) a) (up c (fun _=>0) b)) (n:=c+1) (i:=i) (k:=j) om om om 1 q;have m:=kK (setRow (fun a b=>A (up c (fun _=>i'-c) a) (up c (fun _=>0) b)) i (fun b=>1*A (up c (fun _=>i'-c) i) (up c (fun _=>0) b)+q*A (up c (fun _=>i'-c) j) (up c (fun _=>0) b))) (n:=c+1) (i:=i) (k:=j) om om om 1 q;rw[t]at m;rw[cF,cF]at m;rw[<-m];refine aT fun a b o g=>?_;have f:∀a,a<c->up c (fun _=>i'-c) a=a:=fun a o=>p _ a o;simp only[aW,setRow];rw[d b g,d i om,d j om,f i om,f j om];have u:j≠i:=om
  by_cases e:a=i
  ·subst e;rw[f a om];by_cases r:b=a<;>simp[iI,r]<;>grind
  ·have s:up c (fun _=>i'-c) a≠i:=by
    by_cases v:a=c
    ·subst v;rw[l];omega
    ·rw[f a om];exact e
   by_cases r:b=i<;>simp[iI,r,s,e]<;>grind
theorem Dr(p:0<k)(q:k<c)(r:c<i):eB (q9 A k) i c=eB A i c:=by
 have d:∀b,b<c+1->up c (fun _=>0) b=b:=fun b f=>lq c b f;unfold eB ca;have j:=vM (fun a b=>A (up c (fun _=>i-c) a) (cV (k-1) k b)) (n:=c+1) (i:=k-1) (k:=k) om om om;have l:=mW (fun a b=>A (up c (fun _=>i-c) a) b) (n:=c+1) (i:=k-1) (k:=k) om om om;rw[l,Int.neg_neg]at j;have m:det (c+1) (fun a b=>A (up c (fun _=>i-c) a) (up c (fun _=>0) b))=det (c+1) (fun a b=>A (up c (fun _=>i-c) a) b):=aT fun a b o f=>by rw[d b f]
 rw[m,<-j];refine aT fun a b o f=>?_;simp only[q9];rw[d b f];congr 1;by_cases e:a=c
 ·subst e;have g:up a (fun _=>i-a) a=i:=by rw[jw,if_neg om];omega
  have h:cV (k-1) k a=a:=by unfold cV;rw[if_neg om,if_neg om]
  rw[h,g];unfold cV;rw[if_neg om,if_neg om]
 ·have g:up c (fun _=>i-c) a=a:=by rw[jw,if_pos om]
  have h:cV (k-1) k a<c:=by unfold cV;split<;>(try split)<;>omega
  rw[g,jw,if_pos h]
def gJ(A:aB)(k:Nat)(f0 f1 s0 s1:Int):aB:=fun a b=>if a=k-1 then f0*A (k-1) b+f1*A k b else if a=k then s0*A (k-1) b+s1*A k b else A a b
def iq(A:aB)(k:Nat)(f0 f1 s0 s1:Int):aB:=fun a b=>gJ (fun b a=>gJ A k f0 f1 s0 s1 a b) k f0 f1 s0 s1 b a
theorem ot:iq A k 1 0 0 1=A:=by
 funext a b;simp only[iq,gJ]
 grind
theorem kb(A:aB){k a b:Nat}{f0 f1 s0 s1:Int}(c:a≠k-1)(d:a≠k)(e:b≠k-1)(f:b≠k):iq A k f0 f1 s0 s1 a b=A a b:=by simp[iq,gJ,c,d,e,f]
theorem oq(h:0<k):q9 (iq A k f0 f1 s0 s1) k=iq A k s0 s1 f0 f1:=by
 funext a b;have c:k≠k-1:=om
 simp only[q9,iq,gJ,cV];by_cases d:a=k-1<;>by_cases e:a=k<;>by_cases f:b=k-1<;>by_cases g:b=k<;>simp[d,e,f,g,c,ai c]<;>first|omega|grind
theorem IW(h:0<k):iI (iq A k f0 f1 s0 s1) k (k-1) q=iq A k f0 f1 (s0+q*f0) (s1+q*f1):=by
 funext a b;have c:k≠k-1:=om
 simp only[iI,iq,gJ];by_cases d:a=k-1<;>by_cases e:a=k<;>by_cases f:b=k-1<;>by_cases g:b=k<;>simp[d,e,f,g,c,ai c]<;>first|omega|grind

theorem CW(h:c<k-1):eB (iq A k f0 f1 s0 s1) (k-1) c=f0*eB A (k-1) c+f1*eB A k c:=by
 unfold eB;have f:k≠k-1:=om
 have d:∀b,b<k-1->iq A k f0 f1 s0 s1 (k-1) b=f0*A (k-1) b+f1*A k b:=fun b e=>by
  simp[iq,gJ,(om:b≠k-1),(om:b≠k)]
 refine Ar (A:=A) (fun a b g e=>kb A om om om om) (fun a g=>kb A om om om om) (fun b e=>?_) ?_
 ·rw[(om:c+(k-1-c)=k-1),(om:c+(k-c)=k)];exact d b om
 ·rw[(om:c+(k-1-c)=k-1),(om:c+(k-c)=k)];exact d (c+0) om
theorem CV(h:c<k-1):eB (iq A k f0 f1 s0 s1) k c=s0*eB A (k-1) c+s1*eB A k c:=by
 unfold eB;have d:k≠k-1:=om
 have e:∀b,b<k-1->iq A k f0 f1 s0 s1 k b=s0*A (k-1) b+s1*A k b:=fun b f=>by
  simp[iq,gJ,(om:b≠k-1),(om:b≠k),d]
 refine Ar (A:=A) (fun a b g f=>kb A om om om om) (fun a g=>kb A om om om om) (fun b f=>?_) ?_
 ·rw[(om:c+(k-1-c)=k-1),(om:c+(k-c)=k)];exact e b om
 ·rw[(om:c+(k-1-c)=k-1),(om:c+(k-c)=k)];exact e (c+0) om
theorem MJ(l:0<k)(m:k<i) :
  ca (iq A k f0 f1 s0 s1) (k-1) (i-(k-1)) 0=f0*ca A (k-1) (i-(k-1)) 0+f1*ca A (k-1) (i-(k-1)) 1 /\
  ca (iq A k f0 f1 s0 s1) (k-1) (i-(k-1)) 1=s0*ca A (k-1) (i-(k-1)) 0+s1*ca A (k-1) (i-(k-1)) 1:=by
 have e:k≠k-1:=om
 have c:∀a,a≠k-1->a≠k->iq A k f0 f1 s0 s1 a (k-1)=f0*A a (k-1)+f1*A a k:=fun a f g=>by
  simp[iq,gJ,f,g]
 have d:∀a,a≠k-1->a≠k->iq A k f0 f1 s0 s1 a k=s0*A a (k-1)+s1*A a k:=fun a f g=>by
  simp[iq,gJ,f,g,e]
 constructor
 ·refine ES (A:=A) (fun a b h j=>kb A om om om om) (fun b j=>kb A om om om om) (fun a h=>?_) ?_
  ·rw[(om:k-1+1=k),cn];exact c a om om
  ·rw[(om:k-1+1=k),cn];exact c _ om om
 ·refine ES (A:=A) (fun a b h j=>kb A om om om om) (fun b j=>kb A om om om om) (fun a h=>?_) ?_
  ·rw[(om:k-1+1=k),cn];exact d a om om
  ·rw[(om:k-1+1=k),cn];exact d _ om om
theorem Pd.lam_up(h:Pd A n){k i:Nat}(b:0<k)(c:k<i)(d:i<n) :
  det (k-1) A*eB A i k=det k A*ca A (k-1) (i-(k-1)) 1-ca A (k-1) (i-(k-1)) 0*eB A k (k-1):=by
 have e:=ix (A:=A) (k:=k-1) (h.ne om) (i-k) 0;have a:=h.stg_sym (k-1) 0 1 om om;rw[cA,(om:k-1+1=k),aJ,(om:i-k+1=i-(k-1)),a]at e
 unfold eB;rw[(om:k-(k-1)=1)]
 exact e.symm
structure oG(A:aB)(n k:Nat)(f0 f1 s0 s1 a b c:Int):Prop where
 pd:Pd (iq A k f0 f1 s0 s1) n
 pa:det k (iq A k f0 f1 s0 s1)=a
 pb:eB (iq A k f0 f1 s0 s1) k (k-1)=b
 pc:ca (iq A k f0 f1 s0 s1) (k-1) 1 1=c
 pu:(f0*s1-f1*s0)*(f0*s1-f1*s0)=1
 lead:∀m,m≠k->det m (iq A k f0 f1 s0 s1)=det m A
 up:∀i j,k<j->j<i->eB (iq A k f0 f1 s0 s1) i j=eB A i j
 ac:a*c-b*b=det (k-1) A*det (k+1) A
theorem oG.init(h:Pd A n)(a:0<k)(b:k<n):oG A n k 1 0 0 1 (det k A) (eB A k (k-1)) (ca A (k-1) 1 1):=by
 have e:=h.swap_lead a b;rw[lP a]at e;refine⟨by rw[ot];exact h,by rw[ot],by rw[ot],by rw[ot],om,fun m _=>by rw[ot],fun i c _ _=>by rw[ot],om⟩
theorem FL(h:Pd A n)(r:0<k)(s:k<n):eB (q9 A k) k (k-1)=eB A k (k-1)/\ca (q9 A k) (k-1) 1 1=det k A:=by
 have d:∀a,a<k-1->cV (k-1) k a=a:=fun a f=>by unfold cV;rw[if_neg om,if_neg om]
 have l:cV (k-1) k (k-1)=k:=by unfold cV;rw[if_pos rfl]
 have m:cV (k-1) k k=k-1:=by unfold cV;rw[if_neg om,if_pos rfl]
 have g:∀(z a:Nat),z<=1->a<k->cV (k-1) k (up (k-1) (fun _=>z) a)=up (k-1) (fun _=>1-z) a:=fun z a t f=>by
  by_cases e:a=k-1
  ·subst e;rw[jw,if_neg om,jw,if_neg om];rcases (om:z=0∨z=1)with rfl|rfl
   ·rw[cn,l];omega
   ·rw[(om:k-1+1=k),m];omega
  ·rw[jw,if_pos om,jw,if_pos om];exact d a om
 have c:∀i j,i<=1->j<=1->ca (q9 A k) (k-1) i j=ca A (k-1) (1-i) (1-j):=fun i j o p=>by
  unfold ca;refine aT fun a b f u=>?_;simp only[q9];rw[g i a o om,g j b p om]
 have q:=h.stg_sym (k-1) 0 1 om om;unfold eB;rw[(om:k-(k-1)=1),c 1 0 om om,c 1 1 om om]
 refine⟨q,?_⟩;rw[Nat.sub_self,cA,(om:k-1+1=k)]
theorem oG.swap{a c:Int}(h:oG A n k f0 f1 s0 s1 a b c)(d:0<k)(f:k<n):oG A n k s0 s1 f0 f1 c b a:=by
 have e:=FL h.pd d f;rw[oq d]at e;have g:=lP (A:=iq A k f0 f1 s0 s1) d;rw[oq d]at g;have j:=h.pd.swap d f;rw[oq d]at j;refine⟨j,g.trans h.pc,e.1.trans h.pb,e.2.trans h.pa,?_,fun m l=>?_,fun i c o p=>?_,?_⟩
 ·have:=h.pu;grind
 ·rw[<-oq d,lO d l];exact h.lead m l
 ·rw[<-oq d,Dr d o p];exact h.up i c o p
 ·have:=h.ac;grind
theorem Eo(h:Pd A n)(a:0<k)(b:k<n):ca (iI A k (k-1) q) (k-1) 1 1=ca A (k-1) 1 1+2*(q*eB A k (k-1))+q*q*det k A:=by
 have f:=h.stg_sym (k-1) 0 1 om om;have g:=h.pos (k-1) om;have d:=h.pos k om;have e:=h.swap_lead a b;have c:=(h.add (q:=q) (om:k-1<k) b).swap_lead a b
 rw[lP a]at e c;rw[eo om,eo om,eo om,lZ om,(om:k-1+1=k)]at c
 refine cB (om:det k A≠0) ?_
 rw[c]
 grind
theorem oG.sub{a c:Int}(h:oG A n k f0 f1 s0 s1 a b c)(q:Int)(g:0<k)(l:k<n):oG A n k f0 f1 (s0-q*f0) (s1-q*f1) a (b-q*a) (c-q*(b+(b-q*a))):=by
 have d:iI (iq A k f0 f1 s0 s1) k (k-1) (-q)=iq A k f0 f1 (s0-q*f0) (s1-q*f1):=by
  rw[IW g];congr 1<;>grind
 have f:=lZ (A:=iq A k f0 f1 s0 s1) (i:=k) (j:=k-1) (q:=-q) om;have e:=Eo (q:=-q) h.pd g l;rw[d]at f e;rw[(om:k-1+1=k),h.pb,h.pa]at f
 rw[h.pc,h.pb,h.pa]at e;refine⟨?_,?_,by rw[f];grind,by rw[e];grind,?_,fun m p=>?_,fun i c e o=>?_,?_⟩
 ·rw[<-d];exact h.pd.add om l
 ·rw[<-d,eo om];exact h.pa
 ·have:=h.pu;grind
 ·rw[<-d,eo om];exact h.lead m p
 ·rw[<-d,uQ om om o];exact h.up i c e o
 ·have:=h.ac;grind

theorem TL.uniq{N:Nat}{L:ik->Prop}{d M d' M':Nat->Int}(h:TL N L d M)(h':TL N L d' M'):∀m i,N-i<=m->i<=N->M i=M' i
 | 0,i,j,k=>by rw[(om:i=N),h.last,h'.last]
 | m+1,i,j,k=>by
  by_cases e:i=N
  ·rw[e,h.last,h'.last]
  ·rw[h.step i om,h'.step i om,TL.uniq h h' m (i+1) om om];have a:d i∣d' i:=by
    obtain⟨x,c,f,g⟩:=h'.col i om;rw[<-g];exact h.dvd x c i om f
   have b:d' i∣d i:=by
    obtain⟨x,c,f,g⟩:=h.col i om;rw[<-g];exact h'.dvd x c i om f
   rw[Int.dvd_antisymm (aS (h.pos i om)) (aS (h'.pos i om)) a b]
theorem Bg(A:aB)(d:c<n)(h:∀i,i<n->A i c=0):det n A=0:=by
 have f:=ms A d 0 0 (fun _=>0) (fun _=>0);rw[aT (B:=aW A c (fun j=>0*(fun _=>0) j+0*(fun _=>0) j)) (fun a b g _=>by
  simp only[aW];split
  ·rename_i e;rw[e,h a g];simp
  ·rfl),f]
 simp
theorem Bh(A:aB)(q:k<n)(h:∀j,j<n->A k j=dC k j):det n A=det n (aW A k (dC k)):=by
 have key:∀m,m<=n->det n (fun a b=>if a<m/\a≠k/\b=k then 0 else A a b)=det n A:=by
  intro m
  induction m with
  | zero=>intro _;exact aT fun a b _ _=>by simp
  | succ m ih =>
   intro r;rw[<-ih om];by_cases e:m=k
   ·subst e;exact aT fun a b _ _=>by
     by_cases e:a=m
     ·simp[e]
     ·by_cases c:a<m
      ·simp[c,(om:a<m+1)]
      ·simp[c,(om:¬a<m+1)]
   ·have f:=jN (fun a b=>if a<m/\a≠k/\b=k then 0 else A a b) (i:=m) (k:=k) om q e 1 (- A m k)
    rw[cF]at f;rw[<-f];refine aT fun a b _ g=>?_;simp only[setRow];have d:=h b g;unfold dC at d;by_cases l:a=m
    ·subst l;by_cases o:b=k
     ·subst o;simp[e,d];omega
     ·simp[o,d]
    ·rw[if_neg l];by_cases c:a<m
     ·simp[c,(om:a<m+1)]
     ·simp[c,(om:¬a<m+1)]
 rw[<-key n (af _)];refine aT fun a b p g=>?_;simp only[aW,dC];by_cases e:b=k
 ·subst e;by_cases c:a=b
  ·subst c;rw[h a p];simp[dC]
  ·simp[p,c]
 ·simp[e]
theorem Gk(c:piv<n)(r s:Nat->Int)(k:∀i,i<n->0<s i):det n (fun i j=>if i=piv then r j else if i=j then s i else 0)=r piv*fv n (fun i=>if i=piv then 1 else s i):=by
 have h:=xM (fun i j=>if i=piv then r j else if i=j then s i else 0) c r
 rw[aT (B:=setRow (fun i j=>if i=piv then r j else if i=j then s i else 0) piv r) (fun a b _ _=>by simp only[setRow];split<;>rfl),<-h]
 rw[cp piv c (fun j m d=>by
  unfold o6;rw[Bg _ c (fun i o=>?_),Int.mul_zero];simp only[setRow,dC];by_cases e:i=piv
  ·rw[if_pos e,if_neg (ai d)]
  ·rw[if_neg e,if_neg e,if_neg e])]
 congr 1;unfold o6;have f:=o5 (n:=0) n (fun i j=>if i=j then(if i=piv then 1 else s i)else 0) (by
  rw[aJ];refine fun r l=>⟨fun j h f=>if_neg om,?_⟩;show(0:Int)<(if r=r then(if r=piv then 1 else s r)else 0)
  rw[if_pos rfl];split
  ·decide
  ·exact k r l)
 rw[aJ]at f;rw[aT (B:=fun i j=>if i=j then(if i=piv then 1 else s i)else 0) (fun a b _ _=>by
  simp only[setRow,dC];by_cases e:a=piv
  ·subst e;by_cases g:b=a
   ·simp[g]
   ·simp[g,ai g]
  ·simp[e]),f]
 simp only[if_true,det,ie]
theorem pK(h:∀i,i<n->f i=g i):fv n f=fv n g:=by
 induction n generalizing f g with
 | zero=>rfl
 | succ n ih=>simp only[fv];rw[h 0 om,ih fun i a=>h (i+1) om]
theorem wU(b:a<n)(f:Nat->Int):fv n (fun i=>if i=a then 1 else f i)*f a=fv n f:=by
 induction n generalizing a f with
 | zero=>omega
 | succ n ih =>
  simp only[fv]
  cases a with
  | zero =>
   rw[if_pos rfl,pK (g:=fun i=>f (i+1)) (fun i _=>if_neg om),cF,bZ]
  | succ a =>
   have:=ih (a:=a) om (fun i=>f (i+1));rw[if_neg om,pK (g:=fun i=>if i=a then 1 else f (i+1)) (fun i _=>by
    by_cases e:i=a
    ·simp[e]
    ·simp[e]),eY,this]
theorem Cj(n:Nat)(p:Int):fv n (fun _=>p)=p^n:=by
 induction n with
 | zero=>simp[fv]
 | succ n ih=>simp only[fv];rw[ih,eO,bZ]
theorem B6(A:p≠0){piv:Nat}(d:piv<n){w q:Nat->Int}{inv:Int}(h:p∣inv*w piv-1)(o:∀j,j<n->j≠piv->p∣q j*w piv-w j)(y:ik) :
  gO n n (gn p piv q) y↔∃a:ik,(∀i,i<n->y i=p*a i)/\p∣aq n (fun i=>w i*a i):=by
 constructor
 ·rintro⟨c,v⟩;have x:∀i,i<n->y i=p*(y i/p):=fun i b=>by
   rw[ji];rw[v i b];exact jl fun j _=>im (JE _ _)
  refine⟨fun i=>y i/p,x,?_⟩;have B:p*aq n (fun i=>w i*(y i/p))=aq n (fun j=>c j*aq n (fun i=>w i*gn p piv q i j)):=by
   rw[<-cO,aA (g:=fun i=>aq n (fun j=>c j*(w i*gn p piv q i j))) (fun i b=>by
    have C:=x i b;rw[show p*(w i*(y i/p))=w i*(p*(y i/p)) by grind,<-C,v i b,<-cO]
    exact aA fun j _=>by grind),oP]
   exact aA fun j _=>by rw[cO]
  have D:p*p∣aq n (fun j=>c j*aq n (fun i=>w i*gn p piv q i j)):=jl fun j f=>by
   refine cP ?_;rw[JG w d f];split
   ·exact⟨w piv,by grind⟩
   ·rename_i e;obtain⟨t,E⟩:=o j f e;exact⟨- t,by
     have:w j=q j*w piv-p*t:=om
     rw[this];grind⟩
  obtain⟨u,k⟩:=D;exact⟨u,cB A (by rw[B,k,eY])⟩
 ·rintro⟨a,F,s,G⟩;obtain⟨Q,z⟩:∃Q,Q=aq n (fun j=>if j=piv then 0 else q j*a j):=⟨_,rfl⟩
  have H:p∣w piv*(a piv+Q):=by
   have e:w piv*(a piv+Q)=aq n (fun i=>w i*a i)+aq n (fun j=>if j=piv then 0 else(q j*w piv-w j)*a j):=by
    rw[z,Int.mul_add,<-cO,<-dI];have I:w piv*a piv=aq n (fun j=>if j=piv then w j*a j else 0):=by
     rw[cp piv d (fun i _ b=>by rw[if_neg b])];simp
    rw[I,<-dI];exact aA fun j _=>by
     by_cases e:j=piv
     ·simp[e]
     ·simp[e];grind
   rw[e,G];refine jk ⟨s,rfl⟩ (jl fun j f=>?_);split
   ·exact Int.dvd_zero _
   ·exact im (o j f (by assumption))
  obtain⟨r,J⟩:p∣a piv+Q:=by
   obtain⟨u,k⟩:=H;obtain⟨t,E⟩:=h;refine⟨inv*u-t*(a piv+Q),?_⟩;have e:inv*(w piv*(a piv+Q))=inv*(p*u):=by rw[k]
   have l:inv*w piv=1+p*t:=om
   grind
  refine⟨fun j=>if j=piv then r else a j,fun i b=>?_⟩
  rw[F i b];by_cases e:i=piv
  ·subst e;rw[aA (g:=fun j=>(if j=i then p*p*r else 0)+(- p)*(if j=i then 0 else q j*a j)) (fun j f=>by
    by_cases e:j=i
    ·subst e;simp[gn]
    ·simp[gn,e,ai e];grind),dI,cO,<-z,cp i b (fun j _ f=>by rw[if_neg f])]
   simp only[if_true];have:Q=p*r-a i:=om
   rw[this];grind
  ·rw[cp i b (fun j f m=>by
    by_cases l:j=piv
    ·simp[gn,l,e]
    ·simp[gn,l,e,ai m])]
   simp[gn,e]
def ED(n:Nat)(p:Int)(w x y:ik):Prop:=∃(c:Int) (a:ik),(∀i,i<n->y i=c*x i+p*a i)/\p∣aq n (fun i=>w i*a i)
theorem Fl(o:p≠0){piv:Nat}(b:piv<n){w x q:Nat->Int}{inv:Int}(e:p∣inv*w piv-1)(r:∀j,j<n->j≠piv->p∣q j*w piv-w j)(y:ik) :
  gO n (n+1) (yI n p piv q x) y↔ED n p w x y:=by
 have m:=B6 o b e r;constructor
 ·rintro⟨c,s⟩;obtain⟨a,h,k⟩:=(m (fun i=>aq n fun j=>gn p piv q i j*c j)).1 ⟨c,fun _ _=>rfl⟩;exact⟨c n,a,fun i f=>by rw[s i f,AN,h i f];grind,k⟩
 ·rintro⟨c,a,h,k⟩;obtain⟨d,t⟩:=(m (fun i=>p*a i)).2 ⟨a,fun _ _=>rfl,k⟩;refine⟨fun j=>if j=n then c else d j,fun i f=>?_⟩
  have g:=t i f;dsimp only at g;have l:aq n (fun j=>gn p piv q i j*(if j=n then c else d j))=aq n (fun j=>gn p piv q i j*d j):=aA fun j u=>by rw[if_neg om]
  rw[AN,h i f,g,l];simp only[if_true];grind
theorem wH(w a b:ik)(k:Int):aq n (fun i=>w i*(a i+k*b i))=aq n (fun i=>w i*a i)+k*aq n (fun i=>w i*b i):=by
 rw[<-cO,<-dI];exact aA fun i _=>by grind
theorem ED.change{w x a:ik}(d:p∣aq n (fun i=>w i*a i)){y:ik}(h:ED n p w x y):ED n p w (fun i=>x i+p*a i) y:=by
 obtain⟨c,b,e,f⟩:=h;refine⟨c,fun i=>b i+(-c)*a i,fun i g=>by rw[e i g];grind,?_⟩
 rw[wH];exact jk f (cP d)
theorem ED.change_iff{w x a:ik}(d:p∣aq n (fun i=>w i*a i))(y:ik):ED n p w x y↔ED n p w (fun i=>x i+p*a i) y:=by
 refine⟨ED.change d,fun h=>?_⟩;have e:p∣aq n (fun i=>w i*(- a i)):=by
  rw[aA (g:=fun i=>(-1)*(w i*a i)) (fun i _=>by grind),cO]
  exact cP d
 obtain⟨c,b,f,j⟩:=ED.change e h;exact⟨c,b,fun i k=>by rw[f i k];grind,j⟩
theorem H8(s:p≠0){piv b:Nat}(f:piv<n)(l:b<n)(m:b≠piv){w x q:Nat->Int}{inv:Int}(k:p∣inv*w piv-1)(u:∀j,j<n->j≠piv->p∣q j*w piv-w j)
  (A:x b=1) (o:p∣aq n (fun i=>w i*x i)) (y:ik):gO n n (aW (gn p piv q) b x) y↔ED n p w x y:=by
 constructor
 ·intro h;rw[<-Fl s f k u];refine gO.sub (gO.lat n (n+1) (yI n p piv q x)) (fun j r=>?_) h;by_cases e:j=b
  ·exact(gO.lat n (n+1) _).ext _ _ (gO.col (j:=n) om) fun i _=>by simp[yI,aW,e]
  ·exact(gO.lat n (n+1) _).ext _ _ (gO.col (j:=j) om) fun i _=>by simp[yI,aW,e,r]
 ·rintro⟨c,a,B,C⟩;have D:p∣aq n (fun i=>w i*(a i+(- a b)*x i)):=by
   rw[wH];exact jk C (cP o)
  obtain⟨d,v⟩:=(B6 s f k u (fun i=>p*(a i+(- a b)*x i))).2 ⟨_,fun _ _=>rfl,D⟩;have E:d b=0:=by
   have t:=v b l;simp only at t;rw[cp b l (fun j _ r=>by simp[gn,m,ai r])]at t
   simp only[gn,if_neg m,if_true,A]at t;have F:p*d b=0:=by grind
   rcases Int.mul_eq_zero.1 F with h|h
   ·exact absurd h s
   ·exact h
  refine⟨fun j=>if j=b then c+p*a b else d j,fun i z=>?_⟩
  rw[aA (g:=fun j=>(if j=b then x i*(c+p*a b)else 0)+gn p piv q i j*d j) (fun j _=>by
   by_cases e:j=b
   ·simp[aW,e,E]
   ·simp[aW,e]),dI,<-v i z,cp b l (fun j _ r=>by rw[if_neg r]),B i z]
  simp only[if_true];grind
theorem JF(r:0<p){piv b:Nat}(c:piv<n)(h:b<n)(a:b≠piv){x q:Nat->Int}(o:x b=1):det n (aW (gn p piv q) b x)=p^n:=by
 rw[Bh _ h (fun j _=>by
  simp only[aW,dC];by_cases e:j=b
  ·simp[e,o]
  ·simp[e,gn,a,ai e])]
 rw[aT (B:=fun i j=>if i=piv then(fun j=>if j=b then 0 else if j=piv then p*p else-(p*q j)) j else if i=j then(fun i=>if i=b then 1 else p) i else 0) (fun i j _ _=>by
  simp only[aW,dC,gn];by_cases e:j=b
  ·subst e;by_cases d:i=piv
   ·simp[d,ai a]
   ·by_cases k:i=j
    ·simp[k,a]
    ·simp[d,k]
  ·by_cases d:i=piv
   ·subst d;by_cases f:j=i
    ·simp[f,ai a]
    ·simp[e,f,ai f]
   ·by_cases k:i=j
    ·subst k;simp[e,d]
    ·by_cases f:j=piv
     ·simp[d,f,ai a]
     ·simp[e,d,k,f]),Gk c _ _ (fun i _=>by split<;>omega)]
 rw[if_neg (ai a),if_pos rfl];have l:=wU c (fun _=>p);have m:=wU h (fun i=>if i=piv then 1 else p)
 rw[if_neg a]at m;rw[Cj]at l;rw[<-l,<-m,pK (g:=fun i=>if i=b then 1 else if i=piv then 1 else p) (fun i _=>by
  by_cases e:i=piv
  ·simp[e]
  ·simp[e])]
 grind
theorem J0(o:0<p){piv a:Nat}(b:piv<n)(e:a<n)(c:a≠piv){w x:Nat->Int}{inv t:Int}(f:p∣inv*w piv-1)(r:x a=1+p*t)(g:p∣aq n (fun i=>w i*x i))
  {B:aB} (s:Dk n n B) (A:∀y,gO n n B y↔ED n p w x y):det n B=p^n:=by
 obtain⟨u,C⟩:=f;have v:p∣aq n (fun i=>w i*(fun i=>if i=a then-t else if i=piv then t*w a*inv else 0) i):=by
  rw[rt e b c (fun k _ h l=>by simp[h,l])]
  simp only[if_true,if_neg (ai c)];exact⟨t*w a*u,by
   have:inv*w piv=1+p*u:=om
   grind⟩
 have D:∀j,j<n->j≠piv->p∣inv*w j*w piv-w j:=fun j _ _=>⟨u*w j,by
  have:inv*w piv=1+p*u:=om
  grind⟩
 have E:=H8 (x:=fun i=>x i+p*(fun i=>if i=a then-t else if i=piv then t*w a*inv else 0) i) (q:=fun j=>inv*w j) om b e c ⟨u,C⟩ D (by simp only[if_true,r];grind) (by
  rw[wH];exact jk g (cP v))
 have z:=JF (q:=fun j=>inv*w j) o b e c (x:=fun i=>x i+p*(fun i=>if i=a then-t else if i=piv then t*w a*inv else 0) i) (by simp only[if_true,r];grind)
 have F:(0:Int)<p^n:=Int.pow_pos o;obtain⟨d,M,G,m⟩:=TL.of_det (N:=n) (w:=aW (gn p piv (fun j=>inv*w j)) a (fun i=>x i+p*(fun i=>if i=a then-t else if i=piv then t*w a*inv else 0) i)) (by rw[z];omega)
 have h:=(TL.of_tri s).uniq (G.congr (gO.lat n n B) fun y=>by rw[A,E,ED.change_iff v]) n 0 om om
 rw[m,z]at h;have l:=o5 (n:=0) n B (by rw[aJ];exact s)
 rw[aJ]at l;rw[l];simp only[BY,c9,aJ,det,ie]at h ⊢;rw[h];omega
theorem uO{n m:Nat}(C:aB)(d:m<n)(x:Int)(c:Nat->Int):∀K,K<=n->det n (aW C m (fun a=>x*C a m+aq K (fun k=>if m<k then c k*C a k else 0)))=x*det n C
 | 0,_=>by
  have h:=ms C d x 0 (fun a=>C a m) (fun a=>C a m);rw[gz]at h;rw[aT (B:=aW C m (fun a=>x*C a m+0*C a m)) (fun a b _ _=>by simp[aW,aq]),h];omega
 | K+1,g=>by
  have ih:=uO C d x c K om;by_cases e:m<K
  ·have h:=ms C d 1 (c K) (fun a=>x*C a m+aq K (fun k=>if m<k then c k*C a k else 0)) (fun a=>C a K)
   have f:det n (aW C m (fun a=>C a K))=0:=jC _ e om (fun j _=>by simp only[aW];rw[if_pos trivial,if_neg om])
   rw[aT (B:=aW C m (fun a=>1*(x*C a m+aq K (fun k=>if m<k then c k*C a k else 0))+c K*C a K)) (fun a b _ _=>by simp only[aW,aq,if_pos e];split<;>grind),h,ih,f];omega
  ·rw[aT (B:=aW C m (fun a=>x*C a m+aq K (fun k=>if m<k then c k*C a k else 0))) (fun a b _ _=>by simp only[aW,aq,if_neg e];split<;>grind),ih]
theorem Ec(A B:aB)(p:∀r c,r<c->c<n->B r c=0):det n (mm n A B)=fv n (fun i=>B i i)*det n A:=by
 have key:∀m,m<=n->det n (fun a b=>if b<m then mm n A B a b else A a b)=fv m (fun i=>B i i)*det n A:=by
  intro m
  induction m with
  | zero=>intro _;simp[fv]
  | succ m ih =>
   intro t;have l:=uO (fun a b=>if b<m then mm n A B a b else A a b) (om:m<n) (B m m) (fun k=>B k m) n (af _)
   rw[ih om]at l;have g:∀(k:Nat) (f:Nat->Int),fv (k+1) f=f k*fv k f:=by
    intro k
    induction k with
    | zero=>intro f;simp[fv]
    | succ k ih=>intro f;rw[fv,ih (fun i=>f (i+1))];simp only[fv];grind
   rw[g,eY,<-l];refine aT fun a b _ d=>?_;simp only[aW];by_cases e:b=m
   ·subst e;rw[if_pos rfl,if_pos om];simp only[co,if_false];unfold mm;have q:B b b*A a b=aq n (fun k=>if k=b then A a k*B k b else 0):=by
     rw[cp b d (fun j _ s=>by rw[if_neg s])];simp[bZ]
    rw[q,<-dI];refine aA fun k u=>?_;rcases da k b with h|h|h
    ·rw[p k b h d,if_neg om,if_neg om];simp
    ·rw[if_pos h,if_neg om];omega
    ·rw[if_neg om,if_pos h,if_neg om,bZ];omega
   ·rw[if_neg e];by_cases o:b<m
    ·rw[if_pos o,if_pos om]
    ·rw[if_neg o,if_neg om]
 rw[<-key n (af _)];exact aT fun a b _ d=>by rw[if_pos d]
theorem uN{n m:Nat}(C:aB)(d:m<n)(x:Int)(c:Nat->Int):∀K,K<=n->det n (setRow C m (fun a=>x*C m a+aq K (fun k=>if m<k then c k*C k a else 0)))=x*det n C
 | 0,_=>by
  have h:=nd C d x 0 (fun a=>C m a) (fun a=>C m a);rw[show setRow C m (fun a=>C m a)=C from iS C m]at h;rw[aT (B:=setRow C m (fun a=>x*C m a+0*C m a)) (fun a b _ _=>by simp[setRow,aq]),h];omega
 | K+1,g=>by
  have ih:=uN C d x c K om;by_cases e:m<K
  ·have h:=nd C d 1 (c K) (fun a=>x*C m a+aq K (fun k=>if m<k then c k*C k a else 0)) (fun a=>C K a)
   have f:det n (setRow C m (fun a=>C K a))=0:=nJ C d om om;rw[aT (B:=setRow C m (fun a=>1*(x*C m a+aq K (fun k=>if m<k then c k*C k a else 0))+c K*C K a)) (fun a b _ _=>by simp only[setRow,aq,if_pos e];split<;>grind),h,ih,f];omega
  ·rw[aT (B:=setRow C m (fun a=>x*C m a+aq K (fun k=>if m<k then c k*C k a else 0))) (fun a b _ _=>by simp only[setRow,aq,if_neg e];split<;>grind),ih]
theorem Eb(A B:aB)(p:∀r c,r<c->c<n->B r c=0):det n (mm n (fun i j=>B j i) A)=fv n (fun i=>B i i)*det n A:=by
 have key:∀m,m<=n->det n (fun a b=>if a<m then mm n (fun i j=>B j i) A a b else A a b)=fv m (fun i=>B i i)*det n A:=by
  intro m
  induction m with
  | zero=>intro _;simp[fv]
  | succ m ih =>
   intro t;have l:=uN (fun a b=>if a<m then mm n (fun i j=>B j i) A a b else A a b) (om:m<n) (B m m) (fun k=>B k m) n (af _)
   rw[ih om]at l;have g:∀(k:Nat) (f:Nat->Int),fv (k+1) f=f k*fv k f:=by
    intro k
    induction k with
    | zero=>intro f;simp[fv]
    | succ k ih=>intro f;rw[fv,ih (fun i=>f (i+1))];simp only[fv];grind
   rw[g,eY,<-l];refine aT fun a b d _=>?_;simp only[setRow];by_cases e:a=m
   ·subst e;rw[if_pos rfl,if_pos om];simp only[co,if_false];unfold mm;have q:B a a*A a b=aq n (fun k=>if k=a then B k a*A k b else 0):=by
     rw[cp a d (fun j _ s=>by rw[if_neg s])];simp
    rw[q,<-dI];refine aA fun k u=>?_;dsimp only;rcases da k a with h|h|h
    ·rw[p k a h d,if_neg om,if_neg om];simp
    ·rw[if_pos h,if_neg om];omega
    ·rw[if_neg om,if_pos h,if_neg om];omega
   ·rw[if_neg e];by_cases o:a<m
    ·rw[if_pos o,if_pos om]
    ·rw[if_neg o,if_neg om]
 rw[<-key n (af _)];exact aT fun a b d _=>by rw[if_pos d]
def jn(n:Nat)(H:aB)(u v:ik):Int:=aq n fun i=>(aq n fun j=>H i j*v j)*u i
theorem kO(H:aB)(c d:Int)(u u' v:ik):jn n H (fun i=>c*u i+d*u' i) v=c*jn n H u v+d*jn n H u' v:=by
 unfold jn;rw[<-mB];exact aA fun i _=>by grind
theorem iW(c:∀a b,a<n->b<n->H a b=H b a)(u v:ik):jn n H u v=jn n H v u:=by
 unfold jn;rw[aA (g:=fun i=>aq n fun j=>H i j*v j*u i) (fun i _=>by rw[bZ,<-cO];exact aA fun j _=>by grind),oP]
 refine aA fun j d=>?_;rw[bZ _ (v j),<-cO];exact aA fun i e=>by rw[c i j e d];grind
theorem qR{u u' v v':ik}(h:∀i,i<n->u i=u' i)(k:∀i,i<n->v i=v' i):jn n H u v=jn n H u' v' :=
 aA fun i a=>by rw[h i a,aA fun j b=>by rw[k j b]]
theorem FB{w x:ik}(b:∀i,i<n->p∣(aq n fun j=>H i j*x j)-w i){a:ik}(c:p∣aq n (fun i=>w i*a i)):p∣jn n H a x:=by
 have e:jn n H a x=aq n (fun i=>w i*a i)+aq n (fun i=>((aq n fun j=>H i j*x j)-w i)*a i):=by
  rw[<-dI];exact aA fun i _=>by grind
 rw[e];exact jk c (jl fun i d=>im (b i d))
theorem It(e:∀a b,a<n->b<n->H a b=H b a){p:Int}{w x:ik}(f:∀i,i<n->p∣(aq n fun j=>H i j*x j)-w i)(g:p*p∣jn n H x x){y z:ik}(h:ED n p w x y)(k:ED n p w x z):p*p∣jn n H y z:=by
 obtain⟨c,a,l,m⟩:=h;obtain⟨d,b,o,q⟩:=k;rw[qR l o,kO,iW e x,iW e a,kO,kO,iW e x a];obtain⟨r,u⟩:=g;obtain⟨s,v⟩:=FB f m;obtain⟨t,A⟩:=FB f q;rw[u,v,A];exact⟨c*d*r+c*t+d*s+jn n H b a,by grind⟩
theorem AZ(n:Nat)(H B:aB)(i j:Nat):mm n (mm n (fun i j=>B j i) H) B i j=jn n H (fun r=>B r i) (fun r=>B r j):=by
 rw[pN];unfold mm jn;exact aA fun k _=>by rw[bZ]
theorem Cy{B G:aB}(g:0<p)(f:∀r c,r<c->c<n->B r c=0)(b:∀r,r<n->0<B r r)(h:det n B=p^n)(k:∀i j,i<n->j<n->mm n (mm n (fun i j=>B j i) H) B i j=p*p*G i j):det n G=det n H:=by
 have a:=Ec (mm n (fun i j=>B j i) H) B f;rw[Eb H B f,aT k,pW]at a;have d:=o5 (n:=0) n B (by rw[aJ];exact fun r l=>⟨fun j a d=>f r j a d,b r l⟩)
 rw[aJ]at d;simp only[det,ie]at d;rw[<-d,h]at a;have m:(p*p)^n=p^n*p^n:=Int.mul_pow ..;rw[m]at a;have e:(0:Int)<p^n:=Int.pow_pos g;have o:p^n*p^n≠0:=by have:=iH e e;omega
 exact cB o (by rw[a,eY])
theorem xS(a:piv<n)(v:ik):jn n H (dC piv) v=aq n fun j=>H piv j*v j:=by
 unfold jn;rw[cp piv a (fun i _ b=>by simp[dC,b])];simp[dC]
theorem F6(f:∀a b,a<n->b<n->H a b=H b a)(e:piv<n){p:Int}(I:0<p){v:ik}{sl iv N t:Int}(l:(aq n fun j=>H piv j*v j)%p=sl)(o:(2*sl%p*iv)%p=1)(u:jn n H v v%(p*p)=N)(A:jn n H v v%p=0)(B:(p-N/p)*iv%p=t) :
  p*p∣jn n H (fun k=>if k=piv then v k+p*t else v k) (fun k=>if k=piv then v k+p*t else v k):=by
 have ex:∀k,(if k=piv then v k+p*t else v k)=1*v k+(p*t)*dC piv k:=fun k=>by
  unfold dC;split<;>simp
 rw[qR (fun k _=>ex k) (fun k _=>ex k),kO,iW f v,iW f (dC piv) (fun i=>1*v i+p*t*dC piv i),kO,kO,iW f v (dC piv),xS e v];generalize jn n H (dC piv) (dC piv)=h;generalize jn n H v v=b at *;generalize (aq n fun j=>H piv j*v j)=z at *;have q:=ku b (p*p);have w:=ku z p;have C:=ku (2*sl) p;have x:=ku (2*sl%p*iv) p;have D:=ku ((p-N/p)*iv) p;have E:p*(N/p)=N:=ji (by
  have:p∣b:=Int.dvd_of_emod_eq_zero A;obtain⟨c,J⟩:=this;exact⟨c-p*(b/(p*p)),by rw[u]at q;grind⟩)
 rw[u]at q;rw[l]at w;rw[o]at x;rw[B]at D;generalize b/(p*p)=r at *;generalize z/p=s at *;generalize 2*sl/p=a at *;generalize 2*sl%p=y at *;generalize y*iv/p=d at *;generalize N/p=k at *;generalize (p-k)*iv/p=c at *;refine⟨r+(1+(p-k)*d+a*((p-k)*iv)-2*sl*c)+2*t*s+t*t*h,?_⟩;have f1:2*sl*t=- k+p*(1+(p-k)*d+a*((p-k)*iv)-2*sl*c):=by
  have F:t=(p-k)*iv-p*c:=om
  have G:2*sl*((p-k)*iv)=(p-k)*(y*iv)+p*(a*((p-k)*iv)):=by rw[<-C];grind
  rw[F,Int.mul_sub,G,<-x];grind
 have g:p*k+p*(2*sl*t)=p*(p*(1+(p-k)*d+a*((p-k)*iv)-2*sl*c)):=by rw[f1];grind
 rw[<-w,<-q,<-E];generalize 1+(p-k)*d+a*((p-k)*iv)-2*sl*c=m at *
 grind

structure lE(a0 b0 c0 f0 f1 s0 s1 a b c:Int):Prop where
 qa:f0*f0*a0+2*(f0*f1*b0)+f1*f1*c0=a
 qb:f0*s0*a0+(f0*s1+f1*s0)*b0+f1*s1*c0=b
 qc:s0*s0*a0+2*(s0*s1*b0)+s1*s1*c0=c
theorem lE.init(a b c:Int):lE a b c 1 0 0 1 a b c:=⟨by grind,by grind,by grind⟩
theorem lE.swap{a c:Int}(h:lE a0 b0 c0 f0 f1 s0 s1 a b c):lE a0 b0 c0 s0 s1 f0 f1 c b a:=by
 obtain⟨d,f,e⟩:=h;exact⟨e,by grind,d⟩
theorem lE.sub{a c:Int}(h:lE a0 b0 c0 f0 f1 s0 s1 a b c)(q:Int):lE a0 b0 c0 f0 f1 (s0-q*f0) (s1-q*f1) a (b-q*a) (c-q*(b+(b-q*a))):=by
 obtain⟨d,e,f⟩:=h;exact⟨d,by grind,by grind⟩
theorem lE.le{a d E:Int}(h:f0*f0*a0+2*(f0*f1*b0)+f1*f1*c0=a)(i:a0*c0-b0*b0=d)(f:1<=d)(j:0<a0)(k:0<c0)(c:a0<=E)(e:c0<=E)(b:a<=E)(g:0<a):f0*f0<=E*E/\f1*f1<=E*E:=by
 have l:a0*a=(f0*a0+f1*b0)*(f0*a0+f1*b0)+f1*f1*d:=by grind
 have m:c0*a=(f1*c0+f0*b0)*(f1*c0+f0*b0)+f0*f0*d:=by grind
 have s1:=fT (f0*a0+f1*b0);have n:=fT (f1*c0+f0*b0);have o:=a8 f (fT f1);have p:=a8 f (fT f0);have q:=bW c b (aS g) om;have r:=bW e b (aS g) om;omega
def Dj(A:aB)(n k:Nat)(x:ik):Int:=aq (n-k) fun i=>(aq (n-k) fun j=>ca A k i j*x (k+j))*x (k+i)
theorem Pd.qSt_step(h:Pd A n)(u:n=k+(m+1))(x:ik):det k A*Dj A n (k+1) x<=det (k+1) A*Dj A n k x:=by
 have e:∀i j,i<m->j<m->det (k+1) A*ca A k (i+1) (j+1)=det k A*ca A (k+1) i j+ca A k (i+1) 0*ca A k (j+1) 0:=fun i j c a=>h.stg_rec2 om om;have f:∀j,j<m->ca A k 0 (j+1)=ca A k (j+1) 0:=fun j a=>h.stg_sym k 0 (j+1) om om;have g:n-k=m+1:=om
 have l:n-(k+1)=m:=om
 obtain⟨L,b⟩:∃L,L=aq m (fun j=>ca A k (j+1) 0*x (k+(j+1))):=⟨_,rfl⟩;obtain⟨Q,d⟩:∃Q,Q=aq m (fun i=>(aq m fun j=>ca A k (i+1) (j+1)*x (k+(j+1)))*x (k+(i+1))):=⟨_,rfl⟩;have o:Dj A n k x=det (k+1) A*x k*x k+L*x k+(x k*L+Q):=by
  unfold Dj;rw[g,ky];have p:(aq (m+1) fun j=>ca A k 0 j*x (k+j))=det (k+1) A*x k+L:=by
   rw[ky,cA,b];congr 1;exact aA fun j a=>by rw[f j a]
  have q:aq m (fun i=>(aq (m+1) fun j=>ca A k (i+1) j*x (k+j))*x (k+(i+1)))=x k*L+Q:=by
   rw[b,d,<-cO,<-dI];refine aA fun i _=>?_;rw[ky,cn]
   grind
  rw[p,q,Int.add_mul];rfl
 have r:det (k+1) A*Q=det k A*Dj A n (k+1) x+L*L:=by
  unfold Dj;rw[l,d,<-cO,<-cO];have s:L*L=aq m (fun i=>L*(ca A k (i+1) 0*x (k+(i+1)))):=by rw[cO,<-b]
  rw[s,<-dI];refine aA fun i c=>?_;have v:det (k+1) A*(aq m fun j=>ca A k (i+1) (j+1)*x (k+(j+1)))=det k A*(aq m fun j=>ca A (k+1) i j*x (k+1+j))+ca A k (i+1) 0*L:=by
   rw[b,<-cO,<-cO,<-cO,<-dI];refine aA fun j a=>?_;have:=e i j c a;rw[(om:k+1+j=k+(j+1))]
   grind
  rw[(om:k+1+i=k+(i+1))]
  grind
 have t:=fT (det (k+1) A*x k+L);have w:det (k+1) A*Dj A n k x=(det (k+1) A*x k+L)*(det (k+1) A*x k+L)+det k A*Dj A n (k+1) x:=by
  rw[o];grind
 omega
theorem Pd.qSt_le(h:Pd A n)(x:ik):∀k,k<n->Dj A n k x<=det k A*Dj A n 0 x
 | 0,_=>by simp[det]
 | k+1,d=>by
  have ih:=h.qSt_le x k om;have f:=h.qSt_step (k:=k) (m:=n-k-1) om x;have c:=h.pos k om;have b:=h.pos (k+1) om;have g:=a8 ih (aS b);refine Int.le_of_mul_le_mul_left (a:=det k A) ?_ c;have e:det k A*(det (k+1) A*Dj A n 0 x)=det (k+1) A*(det k A*Dj A n 0 x):=by grind
  omega
theorem Hx(A:aB)(n:Nat)(x:ik):Dj A n 0 x=jn n A x x:=by
 unfold Dj jn;simp only[eS,aJ,c9]
theorem Pd.last_sq(h:Pd A (n+1))(x:ik):x n*x n<=det n A*jn (n+1) A x x:=by
 have a:=h.qSt_le x n om;rw[Hx]at a;have e:Dj A (n+1) n x=det (n+1) A*x n*x n:=by
  unfold Dj;rw[(om:n+1-n=1)]
  simp[aq,cA]
 rw[e]at a;have b:=h.pos (n+1) om;have:=bE (om:1<=det (n+1) A) (fT (x n))
 have c:det (n+1) A*x n*x n=det (n+1) A*(x n*x n):=by grind
 omega
theorem Pd.det_le(h:Pd A n){E:Int}(a:∀i,i<n->A i i<=E):∀k,k<=n->det k A<=E^k
 | 0,_=>by simp[det]
 | k+1,c=>by
  have d:=h.hadamard (k:=k) om;have b:=a k om;have e:=bW (h.det_le a k om) b (aS (h.diag om)) (by have:=h.pos k om;have:=h.det_le a k om;omega)
  rw[eO];omega
theorem zr(b:i+1<n)(f:Nat->Int):aq n (fun a=>f (cV i (i+1) a))=aq n f:=by
 have h:=zq (n:=n) (f:=fun a=>f (cV i (i+1) a)-f a) i b (fun a _ c d=>by
  have:cV i (i+1) a=a:=by unfold cV;rw[if_neg c,if_neg d]
  rw[this];omega)
 rw[kw]at h;have e:cV i (i+1) i=i+1:=by unfold cV;rw[if_pos rfl]
 have g:cV i (i+1) (i+1)=i:=by unfold cV;rw[if_neg om,if_pos rfl]
 rw[e,g]at h;omega
theorem Pd.coord{n:Nat}{E:Int}:∀(m:Nat) {A:aB} (x:ik) (j:Nat),Pd A (n+1)->(∀i,i<n+1->A i i<=E)->j+m=n->x j*x j<=E^n*jn (n+1) A x x
 | 0,A,x,j,h,d,k=>by
  obtain rfl:j=n:=om
  have c:=h.last_sq x;have l:=h.det_le d j om;have o:0<=jn (j+1) A x x:=by
   have p:=h.pos j om;have:=fT (x j);rcases gW (jn (j+1) A x x) 0 with e|e
   ·have:=Int.mul_neg_of_pos_of_neg p e;omega
   ·exact e
  have:=bE l o;omega
 | m+1,A,x,j,h,d,k=>by
  have q:=h.swap (i:=j+1) om om;have f:∀a,a<n+1->cV j (j+1) a<n+1:=fun a u=>by unfold cV;split<;>(try split)<;>omega
  have c:=Pd.coord m (A:=q9 A (j+1)) (fun a=>x (cV j (j+1) a)) (j+1) q (fun i r=>d _ (f i r)) om;have s:cV j (j+1) (j+1)=j:=by unfold cV;rw[if_neg om,if_pos rfl]
  have t:jn (n+1) (q9 A (j+1)) (fun a=>x (cV j (j+1) a)) (fun a=>x (cV j (j+1) a))=jn (n+1) A x x:=by
   unfold jn;have g:∀a,aq (n+1) (fun b=>q9 A (j+1) a b*x (cV j (j+1) b))=aq (n+1) (fun b=>A (cV j (j+1) a) b*x b):=fun a=>zr om (fun b=>A (cV j (j+1) a) b*x b);rw[aA fun a _=>by rw[g a]]
   exact zr om (fun a=>aq (n+1) (fun b=>A a b*x b)*x a)
  rw[t]at c;simp only[s]at c;exact c
theorem Pd.lam_le(h:Pd A n){D W:Int}(a:∀k,k<=n->det k A<=D){i c:Nat}(o:c<i)(d:i<n)(e:A i i<=W):eB A i c*eB A i c<=D*(D*W):=by
 have f:=h.lam_sq (k:=c) (i:=i-c-1) om;rw[(om:i-c-1+1=i-c)]at f
 have b:=h.stg_up c (i-c) om;rw[(om:c+(i-c)=i)]at b
 have g:=h.pos (c+1) om;have p:=h.pos c om;have j:=h.diag d;have l:ca A c (i-c) (i-c)<=D*W:=dq b (bW (a c om) e (aS j) (by have:=a c om;omega))
 have m:=h.stg_pos (i-c) c om;have q:=bW (a (c+1) om) l (aS m) (by have:=a c om;omega)
 unfold eB;omega

def gT(Q:aB)(n:Nat)(T:aB):aB:=fun a b=>jn n Q (T a) (T b)
def rC(T:aB)(k j:Nat)(q:Int):aB:=fun a b=>if a=k then T k b-q*T j b else T a b
theorem ow(e:∀a b,a<n->b<n->H a b=H b a)(c d:Int)(u v v':ik):jn n H u (fun i=>c*v i+d*v' i)=c*jn n H u v+d*jn n H u v':=by
 rw[iW e,kO,iW e v,iW e v']
theorem A8(f:∀a b,a<n->b<n->Q a b=Q b a):gT Q n (rC T k j q)=iI (gT Q n T) k j (-q):=by
 have g:rC T k j q k=fun i=>1*T k i+(-q)*T j i:=by
  funext b;simp only[rC,if_true];grind
 have e:∀a,a≠k->rC T k j q a=T a:=fun a c=>by funext b;simp[rC,c]
 funext a b;simp only[gT,iI];by_cases c:a=k
 ·subst c;by_cases d:b=a
  ·subst d;rw[g,kO,ow f,ow f];simp only[if_true,and_self];grind
  ·rw[g,e b d,kO];simp only[d,if_true,if_false,and_false];grind
 ·by_cases d:b=k
  ·subst d;rw[g,e a c,ow f];simp only[c,if_true,if_false,false_and];grind
  ·rw[e a c,e b d];simp[c,d]
theorem A0(e:∀a b,a<n->b<n->Q a b=Q b a)(p:0<k):gT Q n (gJ T k f0 f1 s0 s1)=iq (gT Q n T) k f0 f1 s0 s1:=by
 have d:k≠k-1:=om
 have l:gJ T k f0 f1 s0 s1 (k-1)=fun i=>f0*T (k-1) i+f1*T k i:=by funext b;simp[gJ]
 have m:gJ T k f0 f1 s0 s1 k=fun i=>s0*T (k-1) i+s1*T k i:=by funext b;simp[gJ,d]
 have h:∀a,a≠k-1->a≠k->gJ T k f0 f1 s0 s1 a=T a:=fun a f g=>by funext b;simp[gJ,f,g]
 have o:∀a:Nat,a=k-1∨a=k∨(a≠k-1/\a≠k):=fun a=>om
 funext a b;simp only[gT,iq];rcases o a with rfl|rfl|⟨f,g⟩<;>rcases o b with c|c|⟨c,j⟩
 ·rw[c,l,kO,ow e,ow e];simp only[gJ,gT,if_true];grind
 ·rw[c,l,m,kO,ow e,ow e];simp only[gJ,gT,if_true,d,if_false];grind
 ·rw[l,h b c j,kO];simp only[gJ,gT,if_true,c,j,if_false]
 ·rw[c,l,m,kO,ow e,ow e];simp only[gJ,gT,if_true,d,if_false];grind
 ·rw[c,m,kO,ow e,ow e];simp only[gJ,gT,if_true,d,if_false];grind
 ·rw[m,h b c j,kO];simp only[gJ,gT,if_true,c,j,d,if_false]
 ·rw[c,l,h a f g,ow e];simp only[gJ,gT,if_true,f,g,if_false]
 ·rw[c,m,h a f g,ow e];simp only[gJ,gT,if_true,f,g,d,if_false]
 ·rw[h a f g,h b c j];simp only[gJ,gT,f,g,c,j,if_false]
def vf(T:aB):aB:=fun i j=>T j i
theorem IF(d:k<n)(e:j<n)(c:k≠j):det n (vf (rC T k j q))=det n (vf T):=by
 have h:=kK (n:=n) (i:=k) (k:=j) (vf T) d e c 1 (-q);rw[cF]at h;rw[<-h];congr 1;funext a b;simp only[rC,vf,aW];split<;>grind
theorem rj(A:aB)(c:i<n)(d:k<n)(b:i≠k):det n (aW A i (fun a=>A a k))=0:=by
 rcases az i k with h|h
 ·exact jC _ h d fun j _=>by simp[aW,ai b]
 ·exact jC _ (om:k<i) c fun j _=>by simp[aW,ai b]
theorem IJ(m:0<k)(d:k<n):det n (vf (gJ T k f0 f1 s0 s1))=(f0*s1-f1*s0)*det n (vf T):=by
 have c:k-1≠k:=om
 have e:vf (gJ T k f0 f1 s0 s1)=aW (aW (vf T) k (fun b=>s0*vf T b (k-1)+s1*vf T b k)) (k-1) (fun b=>f0*vf T b (k-1)+f1*vf T b k):=by
  funext a b;simp only[gJ,vf,aW]
 generalize vf T=A at *;have f:∀X:Nat->Int,det n (aW (aW A k (fun b=>s0*A b (k-1)+s1*A b k)) (k-1) X)=s0*det n (aW (aW A (k-1) X) k (fun b=>A b (k-1)))+s1*det n (aW (aW A (k-1) X) k (fun b=>A b k)):=fun X=>by
  rw[gA A (i:=k) (k:=k-1) om,ms _ d]
 have g:det n (aW (aW A (k-1) (fun b=>A b (k-1))) k (fun b=>A b (k-1)))=0:=by
  rw[gz];exact rj A d om om
 have z2:det n (aW (aW A (k-1) (fun b=>A b (k-1))) k (fun b=>A b k))=det n A:=by rw[gz,gz]
 have z3:det n (aW (aW A (k-1) (fun b=>A b k)) k (fun b=>A b (k-1)))=- det n A:=sR A om d c;have h:det n (aW (aW A (k-1) (fun b=>A b k)) k (fun b=>A b k))=0:=by
  have j:=rj A (i:=k-1) (k:=k) om d c;have l:aW (aW A (k-1) (fun b=>A b k)) k (fun b=>A b k)=aW A (k-1) (fun b=>A b k):=by
   rw[gA A c,gz]
  rw[l];exact j
 rw[e,ms _ om,f,f,g,z2,z3,h]
 grind
theorem wA{a m:Int}(c:0<a)(d:m*m<=a*b)(x y:Int):x*x*a+2*(x*y*m)+y*y*b<=2*(x*x*a+y*y*b):=by
 have:=Ed c d (u:=y) (v:=x)
 grind
def fN(l d:Int):Int:=(l+l+d)/(d+d)
theorem xg{d:Int}(a:0<d):2*((l-fN l d*d).natAbs:Int)<=d:=by
 have h:=Fj (l:=l) a;rw[show l+-((2*l+d)/(2*d))*d=l-fN l d*d by
  unfold fN;rw[(om:l+l+d=2*l+d),(om:d+d=2*d)]
  grind]at h
 exact h
theorem H7{d:Int}(e:0<d):fN l d*fN l d<=4*(l*l)+4:=by
 have h:=xg (l:=l) e;generalize fN l d=q at *;have f:2*((q*d).natAbs:Int)<=2*(l.natAbs:Int)+d:=om
 rw[Int.natAbs_mul]at f;have i:((q.natAbs*d.natAbs:Nat):Int)=(q.natAbs:Int)*d:=by rw[bO];congr 1;omega
 rw[i]at f;have g:(q.natAbs:Int)<=(l.natAbs:Int)+1:=by
  rcases gW ((l.natAbs:Int)+1) q.natAbs with b|b
  ·exfalso;have a:=bE (show(l.natAbs:Int)+2<=q.natAbs by omega) (aS e)
   rw[Int.add_mul]at a;have j:=a8 (show(1:Int)<=d by omega) (show(0:Int)<=(l.natAbs:Int) by omega)
   omega
  ·exact b
 have b:(q.natAbs:Int)*q.natAbs=q*q:=by rw[<-bO,ju]
 have a:(l.natAbs:Int)*l.natAbs=l*l:=by rw[<-bO,ju]
 have j:=bW g g om om;have k:((l.natAbs:Int)+1)*((l.natAbs:Int)+1)=l*l+2*(l.natAbs:Int)+1:=by rw[<-a];grind
 have m:(l.natAbs:Int)<=l*l:=by
  rw[<-a];rcases Nat.eq_zero_or_pos l.natAbs with c|c
  ·rw[c];simp
  ·have:=a8 (show(1:Int)<=l.natAbs by omega) (show(0:Int)<=l.natAbs by omega)
   omega
 have c:=fT l;omega
theorem oV(a:Nat):(0:Int)<2^a:=Int.pow_pos om
theorem nF(a b:Nat):(2:Int)^(a+b)=2^a*2^b:=Int.pow_add ..
theorem rF{b:Nat}(c:0<=y)(d:x<=2^a)(e:y<=2^b):x*y<=2^(a+b):=by
 rw[nF];exact bW d e c (aS (oV a))
theorem H2(a:Nat):(1:Int)<=2^a:=oV a
theorem sB(h:x*x<=2^(2*a)):(x.natAbs:Int)<=2^a:=by
 refine mD (aS (oV a)) ?_;rw[<-nF,(om:a+a=2*a)];exact h
theorem pq{b:Nat}(h:(x.natAbs:Int)<=2^a)(d:a<b):x.natAbs<2^b:=by
 have c:=dU (om:a+1<=b)
 have e:=oV a;have f:((2^b:Nat):Int)=(2:Int)^b:=by simp
 rw[eO]at c;omega
structure LS(Q:aB)(n d:Nat)(w:Nat->Nat)(T:aB):Prop where
 pd:Pd (gT Q n T) n
 lead:∀k,k<=n->det k (gT Q n T)<=2^d
 uni:det n (vf T)*det n (vf T)=1
 dg:∀i,i<n->gT Q n T i i<=2^(w i)
theorem LS.weak(h:LS Q n d w T)(a:∀i,i<n->gT Q n T i i<=2^(w' i)):LS Q n d w' T:=⟨h.pd,h.lead,h.uni,a⟩
theorem LS.lamB(h:LS Q n d w T){i c:Nat}(b:c<i)(a:i<n):eB (gT Q n T) i c*eB (gT Q n T) i c<=2^(d+(d+w i)):=by
 have e:=h.pd.lam_le h.lead b a (h.dg i a);rw[nF,nF];exact e
theorem LS.coord(h:LS Q (n+1) d w T)(c:Pd Q (n+1))(f:∀i,i<n+1->Q i i<=2^e)(g:e*n<=d){i j:Nat}(a:i<n+1)(p:j<n+1):T i j*T i j<=2^(d+w i):=by
 have k:=c.coord (n-j) (T i) j f om;have l:=h.dg i a;have m:((2:Int)^e)^n<=2^d:=by rw[<-Int.pow_mul];exact dU g
 have o:=h.pd.diag a;have b:=bW m l (aS o) (aS (oV d));rw[<-nF]at b;exact dq k b
theorem LS.sub(h:LS Q n d w T)(t:∀a b,a<n->b<n->Q a b=Q b a){k j:Nat}(m:j<k)(o:k<n)(p:w j<=d+3) :
  LS Q n d (fun i=>if i=k then w k+(3*d+8)else w i) (rC T k j (fN (eB (gT Q n T) k j) (det (j+1) (gT Q n T)))):=by
 have u:=h.pd.pos (j+1) om;have D:=H7 (l:=eB (gT Q n T) k j) u;have E:=h.lamB m o;generalize fN (eB (gT Q n T) k j) (det (j+1) (gT Q n T))=q at *;have e:=A8 (T:=T) (k:=k) (j:=j) (q:=q) t;have v:Pd (gT Q n (rC T k j q)) n:=by rw[e];exact h.pd.add m o
 refine⟨v,fun c x=>by rw[e,eo m];exact h.lead c x,by rw[IF o om om];exact h.uni,fun i g=>?_⟩
 rw[e];by_cases f:i=k
 ·subst f
  try dsimp only
  rw[if_pos rfl];have y:iI (gT Q n T) i j (-q) i i=1*1*gT Q n T i i+2*(1*(-q)*gT Q n T i j)+(-q)*(-q)*gT Q n T j j:=by
   simp only[iI,if_true,and_self];have:=h.pd.sym i j g om
   grind
  rw[y];have z:=wA (h.pd.diag g) (h.pd.cs0 g (om:j<n)) 1 (-q)
  have F:=h.dg i g;have A:=h.dg j om;have r:=h.pd.diag (om:j<n)
  have B:=dU p;have s:(-q)*(-q)=q*q:=by grind
  rw[s]at z ⊢;have C:q*q<=2^(d+(d+w i)+3):=by
   have:=H2 (d+(d+w i));rw[nF];omega
  have G:=rF (aS r) C (dq A B);have H:=dU (om:w i<=d+(d+w i)+3+(d+3))
  have I:=dU (om:d+(d+w i)+3+(d+3)+2<=w i+(3*d+8))
  have J:=nF (d+(d+w i)+3+(d+3)) 2;omega
 ·try dsimp only
  rw[if_neg f,kc _ f f];exact h.dg i g
theorem LS.row(h:LS Q n d w T)(e:n<=8){k:Nat}(a:k<n)(b:∀j,j<k->fM (gT Q n T) k j):gT Q n T k k<=2^(d+3):=by
 have f:=h.pd.sized_norm (D:=2^d) a (fun c g=>h.lead (c+1) om) b;have i:=bE (show((k+1:Nat):Int)<=8 by omega) (aS (oV d))
 rw[nF];omega
structure PL where
 a:Int
 b:Int
 c:Int
 f0:Int
 f1:Int
 s0:Int
 s1:Int
def PL.nx(p:PL):PL:=⟨p.c,p.b-fN p.b p.c*p.c,p.a-fN p.b p.c*(p.b+(p.b-fN p.b p.c*p.c)),p.s0,p.s1,p.f0-fN p.b p.c*p.s0,p.f1-fN p.b p.c*p.s1⟩
def qX:Nat->PL->PL
 | 0,p=>p
 | m+1,p=>if 4*p.c<3*p.a then qX m p.nx else p
def mg(A:aB)(k:Nat):PL:=⟨det k A,eB A k (k-1),ca A (k-1) 1 1,1,0,0,1⟩
structure yj(A:aB)(n k e:Nat)(p:PL):Prop where
 pl:oG A n k p.f0 p.f1 p.s0 p.s1 p.a p.b p.c
 q:lE (det k A) (eB A k (k-1)) (ca A (k-1) 1 1) p.f0 p.f1 p.s0 p.s1 p.a p.b p.c
 a:p.a<=2^e
 c:p.c<=2^e
theorem yj.pos{p:PL}(h:yj A n k e p)(f:0<k)(g:k<n):0<p.a/\0<p.c:=by
 have b:=h.pl.pd.pos k om;have d:=h.pl.pd.stg_pos 1 (k-1) om;rw[h.pl.pa]at b;rw[h.pl.pc]at d;exact⟨b,d⟩
theorem yj.nx{p:PL}(z:Pd A n)(h:yj A n k e p)(g:0<k)(i:k<n)(B:det (k-1) A*det (k+1) A+1<=2^e)(C:4*p.c<3*p.a):yj A n k e p.nx/\p.nx.a<p.a:=by
 obtain⟨t,d⟩:=h.pos g i;have f:=(h.pl.swap g i).sub (fN p.b p.c) g i;have u:=h.q.swap.sub (fN p.b p.c);have j:=xg (l:=p.b) d;have m:=f.ac;refine⟨⟨f,u,h.c,?_⟩,by show p.c<p.a;omega⟩
 show p.a-fN p.b p.c*(p.b+(p.b-fN p.b p.c*p.c))<=2^e;have v:=Hj j;have w:=h.c;have D:=h.a;generalize p.a-fN p.b p.c*(p.b+(p.b-fN p.b p.c*p.c))=c' at *;generalize p.b-fN p.b p.c*p.c=b' at *;rcases gW (2^e) c' with o|o
 ·exfalso;have r:=a8 (show(2:Int)^e+1<=c' by omega) (aS d)
  rw[Int.mul_add,ie]at r;have E:=a8 w (aS d);have F:=bE (show(1:Int)<=p.c by omega) (aS (oV e))
  rcases gW p.c 2 with s|s
  ·have x:p.c=1:=om
   rw[x]at m v r;omega
  ·have y:=bE s (aS (oV e));omega
 ·exact o
theorem AH{A:aB}{n k e:Nat}(f:Pd A n)(b:0<k)(d:k<n)(g:det (k-1) A*det (k+1) A+1<=2^e):∀(m:Nat) (p:PL),yj A n k e p->p.a<=m->yj A n k e (qX m p)/\¬4*(qX m p).c<3*(qX m p).a/\(qX m p).a<=p.a
 | 0,p,h,i=>by have:=h.pos b d;omega
 | m+1,p,h,i=>by
  unfold qX;split
  ·rename_i j;obtain⟨l,r⟩:=h.nx f b d g j;obtain⟨o,q,s⟩:=AH f b d g m p.nx l om;exact⟨o,q,om⟩
  ·exact⟨h,‹_›,om⟩
theorem yj.sq{p:PL}(d:Pd A n)(h:yj A n k e p)(o:0<k)(r:k<n)(s:det k A<=2^e)(t:ca A (k-1) 1 1<=2^e):p.b*p.b<=2^(2*e)/\p.f0*p.f0<=2^(2*e)/\p.f1*p.f1<=2^(2*e)/\p.s0*p.s0<=2^(2*e)/\p.s1*p.s1<=2^(2*e):=by
 obtain⟨j,f⟩:=h.pos o r;have l:=d.pos (k-1) om;have m:=d.pos (k+1) om;have g:=d.pos k om;have u:=d.stg_pos 1 (k-1) om;have v:=(oG.init d o r).ac;have y:=h.pl.ac;have i:1<=det (k-1) A*det (k+1) A:=by have:=iH l m;omega
 have w:=lE.le h.q.qa v i g u s t h.a j;have x:=lE.le h.q.qc v i g u s t h.c f;have z:(2:Int)^(2*e)=2^e*2^e:=by rw[(om:2*e=e+e),nF]
 have B:=bW h.a h.c (aS f) (aS (oV e));rw[z];exact⟨om,w.1,w.2,x.1,x.2⟩
theorem yj.init(a:Pd A n)(b:0<k)(c:k<n)(d:det k A<=2^e)(f:ca A (k-1) 1 1<=2^e):yj A n k e (mg A k):=⟨oG.init a b c,lE.init _ _ _,d,f⟩
theorem LS.plane(h:LS Q n d w T){k:Nat}(q:0<k)(b:k<n)(e:w k<=d+3) :
  det k (gT Q n T)<=2^(2*d+4)/\ca (gT Q n T) (k-1) 1 1<=2^(2*d+4)/\det (k-1) (gT Q n T)*det (k+1) (gT Q n T)+1<=2^(2*d+4):=by
 have r:=h.lead k om;have c:=h.lead (k-1) om;have f:=h.lead (k+1) om;have g:=h.dg k b;have i:=dU e;have j:=h.pd.stg_up (k-1) 1 om;rw[(om:k-1+1=k)]at j
 have l:=h.pd.diag b;have m:=h.pd.pos (k+1) om;have s:=rF (aS l) c (dq g i);have t:=rF (aS m) c f;have u:=dU (om:d<=2*d+4)
 have o:=dU (om:d+(d+3)<=2*d+4)
 have a:=dU (om:d+d+1<=2*d+4)
 rw[eO]at a;have p:=H2 (d+d);exact⟨om,om,om⟩
theorem LS.blk(h:LS Q n d w T)(D:∀a b,a<n->b<n->Q a b=Q b a){k:Nat}(o:0<k)(f:k<n)(B:w k<=d+3)(q:w (k-1)<=d+3){p:PL}(j:yj (gT Q n T) n k (2*d+4) p)(E:p.a<=det k (gT Q n T)) :
  LS Q n d (fun i=>if i=k∨i=k-1 then 5*d+13 else w i) (gJ T k p.f0 p.f1 p.s0 p.s1):=by
 have e:=A0 (T:=T) (k:=k) (f0:=p.f0) (f1:=p.f1) (s0:=p.s0) (s1:=p.s1) D o;obtain⟨r,s,F⟩:=h.plane o f B;obtain⟨_,G,H,I,J⟩:=j.sq h.pd o f r s;have v:k≠k-1:=om
 have z:Pd (gT Q n (gJ T k p.f0 p.f1 p.s0 p.s1)) n:=by rw[e];exact j.pl.pd
 have hnorm:∀x y:Int,x*x<=2^(2*(2*d+4))->y*y<=2^(2*(2*d+4))->x*x*gT Q n T (k-1) (k-1)+2*(x*y*gT Q n T (k-1) k)+y*y*gT Q n T k k<=2^(5*d+13):=fun x y K L=>by
  have l:=wA (h.pd.diag (om:k-1<n)) (h.pd.cs0 (om:k-1<n) f) x y
  have M:=h.pd.diag (om:k-1<n)
  have N:=h.pd.diag f;have g:=rF (aS M) K (dq (h.dg (k-1) om) (dU q));have P:=rF (aS N) L (dq (h.dg k f) (dU B));have R:=dU (om:2*(2*d+4)+(d+3)+2<=5*d+13)
  have S:=nF (2*(2*d+4)+(d+3)) 2;omega
 refine⟨z,fun c C=>?_,?_,fun i O=>?_⟩
 ·rw[e];by_cases m:c=k
  ·subst m;rw[j.pl.pa];exact dq E (h.lead c C)
  ·rw[j.pl.lead c m];exact h.lead c C
 ·rw[IJ o f];have:=j.pl.pu;have g:=h.uni;generalize p.f0*p.s1-p.f1*p.s0=u at *;generalize det n (vf T)=t at *;have:u*t*(u*t)=(u*u)*(t*t):=by grind
  rw[this,‹u*u=1›,g];rfl
 ·rw[e]
  try dsimp only
  have U:=h.pd.sym (k-1) k om f;by_cases l:i=k
  ·rw[if_pos (Or.inl l),l];have A:iq (gT Q n T) k p.f0 p.f1 p.s0 p.s1 k k=p.s0*p.s0*gT Q n T (k-1) (k-1)+2*(p.s0*p.s1*gT Q n T (k-1) k)+p.s1*p.s1*gT Q n T k k:=by
    simp only[iq,gJ,v,if_false,if_true];grind
   rw[A];exact hnorm _ _ I J
  ·by_cases g:i=k-1
   ·rw[if_pos (Or.inr g),g];have A:iq (gT Q n T) k p.f0 p.f1 p.s0 p.s1 (k-1) (k-1)=p.f0*p.f0*gT Q n T (k-1) (k-1)+2*(p.f0*p.f1*gT Q n T (k-1) k)+p.f1*p.f1*gT Q n T k k:=by
     simp only[iq,gJ,if_true];grind
    rw[A];exact hnorm _ _ G H
   ·rw[if_neg om,kb _ g l g l];exact h.dg i O

def JN(Q:aB)(n k j:Nat)(T:aB):aB:=if 2*((eB (gT Q n T) k j).natAbs:Int)<=det (j+1) (gT Q n T)then T else rC T k j (fN (eB (gT Q n T) k j) (det (j+1) (gT Q n T)))
def mM(Q:aB)(n k:Nat):Nat->aB->aB
 | 0,T=>T
 | j+1,T=>mM Q n k j (JN Q n k j T)
def wR(d k m i:Nat):Nat:=if i=k then 5*d+13+m*(3*d+8)else if i<k then d+3 else 5*d+13
theorem Jy{m':Nat}(h:m<=m'):wR d k m i<=wR d k m' i:=by
 unfold wR;by_cases e:i=k
 ·rw[if_pos e,if_pos e];have:=ay (3*d+8) h;omega
 ·rw[if_neg e,if_neg e];exact af _
theorem Jx:(if i=k then wR d k m k+(3*d+8)else wR d k m i)<=wR d k (m+1) i:=by
 unfold wR;by_cases e:i=k
 ·rw[if_pos e,if_pos e,if_pos rfl];have a:(m+1)*(3*d+8)=m*(3*d+8)+(3*d+8):=ck m (3*d+8);omega
 ·rw[if_neg e,if_neg e,if_neg e];exact af _
structure BB(Q:aB)(n d k j:Nat)(T:aB):Prop where
 ls:LS Q n d (wR d k (k-j)) T
 ok:jy (gT Q n T) k
 sz:∀c,j<=c->c<k->fM (gT Q n T) k c
theorem Cd(d:∀a b,a<n->b<n->Q a b=Q b a)(e:j<k)(c:Nat):det c (gT Q n (JN Q n k j T))=det c (gT Q n T):=by
 unfold JN;split
 ·rfl
 ·rw[A8 d,eo e]
theorem wN{Q:aB}{n k:Nat}(d:∀a b,a<n->b<n->Q a b=Q b a):∀(j:Nat) (T:aB),j<=k->∀c,det c (gT Q n (mM Q n k j T))=det c (gT Q n T)
 | 0,T,_,c=>rfl
 | j+1,T,e,c=>by
  rw[mM,wN d j _ om,Cd d e]
theorem BB.step(h:BB Q n d k (j+1) T)(v:∀a b,a<n->b<n->Q a b=Q b a)(g:j<k)(w:k<n):BB Q n d k j (JN Q n k j T):=by
 have x:k-j=k-(j+1)+1:=om
 unfold JN;split
 ·rename_i y;refine⟨h.ls.weak fun i s=>?_,h.ok,fun c t f=>?_⟩
  ·exact dq (h.ls.dg i s) (dU (Jy om))
  ·rcases az c (j+1)with o|o
   ·obtain rfl:c=j:=om
    exact y
   ·exact h.sz c o f
 ·have m:=h.ls.sub v g w (by unfold wR;rw[if_neg om,if_pos g];exact af _)
  have u:=xg (l:=eB (gT Q n T) k j) (h.ls.pd.pos (j+1) om);generalize fN (eB (gT Q n T) k j) (det (j+1) (gT Q n T))=q at *;have e:=A8 (T:=T) (k:=k) (j:=j) (q:=q) v;refine⟨m.weak fun i s=>?_,?_,fun c t f=>?_⟩
  ·rw[x];exact dq (m.dg i s) (dU Jx)
  ·rw[e];refine⟨fun r p c t=>?_,fun r z p=>?_⟩
   ·have:=h.ok.1 r p c t;unfold fM at this ⊢;rw[lY p om,eo g];exact this
   ·have:=h.ok.2 r z p;unfold gZ at this ⊢;rw[lY p om,eo g,eo g,eo g];exact this
  ·rw[e];unfold fM;rw[eo g];rcases az c (j+1)with o|o
   ·obtain rfl:c=j:=om
    rw[lZ g];have A:eB (gT Q n T) k c+-q*det (c+1) (gT Q n T)=eB (gT Q n T) k c-q*det (c+1) (gT Q n T):=by grind
    rw[A];exact u
   ·rw[ql o f];exact h.sz c o f
theorem Cg{Q:aB}{n d k:Nat}(c:∀a b,a<n->b<n->Q a b=Q b a)(e:k<n):∀(j:Nat) (T:aB),j<=k->BB Q n d k j T->BB Q n d k 0 (mM Q n k j T)
 | 0,T,_,h=>h
 | j+1,T,f,h=>Cg c e j _ om (h.step c f e)
theorem LS.rowI(h:LS Q n d (fun _=>5*d+13) T)(e:n<=8)(g:k<n)(b:jy (gT Q n T) k):BB Q n d k k T:=by
 refine⟨h.weak fun i a=>?_,b,fun c l m=>om⟩
 unfold wR;split
 ·exact dq (h.dg i a) (dU om)
 ·split
  ·exact h.row e a fun j f=>b.1 i ‹_› j f
  ·exact h.dg i a
theorem BB.fin(h:BB Q n d k 0 T)(c:n<=8)(f:k<n):LS Q n d (fun i=>if i<=k then d+3 else 5*d+13) T:=by
 refine h.ls.weak fun i g=>?_;have a:=h.ls.dg i g;unfold wR at a
 try dsimp only
 by_cases e:i=k
 ·subst e;rw[if_pos (af _)];exact h.ls.row c f fun j l=>h.sz j om l
 ·rw[if_neg e]at a;by_cases b:i<k
  ·rw[if_pos b]at a;rw[if_pos om];exact a
  ·rw[if_neg b]at a;rw[if_neg om];exact a
def Mh(Q:aB)(n k:Nat)(T:aB):Nat:=if 4*(mg (gT Q n T) k).c<3*(mg (gT Q n T) k).a then max 1 (k-1)else k+1
def AI(A:aB)(k:Nat):PL:=qX (mg A k).a.toNat (mg A k)
def Mg(Q:aB)(n k:Nat)(T:aB):aB:=if 4*(mg (gT Q n T) k).c<3*(mg (gT Q n T) k).a then gJ T k (AI (gT Q n T) k).f0 (AI (gT Q n T) k).f1 (AI (gT Q n T) k).s0 (AI (gT Q n T) k).s1 else T
def Cs(Q:aB)(n:Nat):Nat->Nat->aB->aB
 | 0,_,T=>T
 | m+1,k,T=>if k<n then Cs Q n m (Mh Q n k (mM Q n k k T)) (Mg Q n k (mM Q n k k T))else T
structure vD(Q:aB)(n d k:Nat)(T:aB):Prop where
 k1:1<=k
 kn:k<=n
 ls:LS Q n d (fun _=>5*d+13) T
 ok:jy (gT Q n T) k
 dn:det n (gT Q n T)=det n Q
def Jn(Q:aB)(n k:Nat)(T:aB):Nat:=pot (gT Q n T) n*(n+1)+(n-k)
theorem nj(h:c<k-1)(j:i≠k-1)(f:i≠k)(g:c<i):eB (iq A k f0 f1 s0 s1) i c=eB A i c:=by
 unfold eB ca;refine aT fun a b l m=>?_;have d:up c (fun _=>i-c) a≠k-1/\up c (fun _=>i-c) a≠k:=by rw[jw];split<;>omega
 have e:up c (fun _=>0) b≠k-1/\up c (fun _=>0) b≠k:=by rw[jw];split<;>omega
 exact kb A d.1 d.2 e.1 e.2
theorem H1(h:LS Q n d w T)(b:0<k)(e:k<n)(g:w k<=d+3):yj (gT Q n T) n k (2*d+4) (AI (gT Q n T) k)/\¬4*(AI (gT Q n T) k).c<3*(AI (gT Q n T) k).a/\(AI (gT Q n T) k).a<=det k (gT Q n T):=by
 obtain⟨i,j,l⟩:=h.plane b e g;have f:=yj.init h.pd b e i j;exact AH h.pd b e l _ _ f (by have:=(f.pos b e).1;omega)
theorem DG(g:Pd A n)(b:0<k)(d:k<n)(i:det (k-1) A*det (k+1) A+1<=2^e){m:Nat}{p:PL}(h:yj A n k e p)(f:p.a<=m)(j:4*p.c<3*p.a):4*(qX m p).a<=3*p.a:=by
 match m,f with
 | 0,f=>have:=(h.pos b d).1;omega
 | m+1,f =>
  unfold qX;rw[if_pos j];obtain⟨l,o⟩:=h.nx g b d i j;have:=(AH g b d i m p.nx l om).2.2;have e:p.nx.a=p.c:=rfl;omega
theorem vD.step(h:vD Q n d k T)(C:∀a b,a<n->b<n->Q a b=Q b a)(u:n<=8)(j:k<n):vD Q n d (Mh Q n k (mM Q n k k T)) (Mg Q n k (mM Q n k k T))/\Jn Q n (Mh Q n k (mM Q n k k T)) (Mg Q n k (mM Q n k k T))<Jn Q n k T:=by
 have t:=Cg C j k T (af _) (h.ls.rowI u j h.ok);have E:=wN C k T (af k);have m:pot (gT Q n (mM Q n k k T)) n=pot (gT Q n T) n:=oS fun c _=>by rw[E]
 generalize mM Q n k k T=T1 at *;have l:=t.fin u j;have f:=h.k1;unfold Mh Mg;have o:(if k<=k then d+3 else 5*d+13)<=d+3:=by rw[if_pos (af _)];exact af _
 have v:(if k-1<=k then d+3 else 5*d+13)<=d+3:=by rw[if_pos om];exact af _
 have w:∀i,(if i<=k then d+3 else 5*d+13)<=5*d+13:=fun i=>by split<;>omega
 split
 ·rename_i F;obtain⟨G,_,H⟩:=H1 l f j o;obtain⟨K,L,N⟩:=l.plane f j o;have hfirst:4*(AI (gT Q n T1) k).a<=3*(mg (gT Q n T1) k).a:=DG l.pd f j N (yj.init l.pd f j K L) (by have:=((yj.init l.pd f j K L).pos f j).1;omega) F
  have S:(mg (gT Q n T1) k).a=det k (gT Q n T1):=rfl;have M:=l.blk C f j o v G H;generalize hpf:AI (gT Q n T1) k=p at *;have e:=A0 (T:=T1) (k:=k) (f0:=p.f0) (f1:=p.f1) (s0:=p.s0) (s1:=p.s1) C f;have g:=G.pl;have q:1<=max 1 (k-1)/\max 1 (k-1)<=k/\(∀r,0<r->r<max 1 (k-1)->r<k-1):=⟨om,om,fun r _ _=>om⟩
  refine⟨⟨q.1,om,M.weak fun i I=>?_,⟨fun r z c s=>?_,fun r D z=>?_⟩,?_⟩,?_⟩
  ·refine dq (M.dg i I) (dU ?_)
   try dsimp only
   split
   ·exact af _
   ·exact w i
  ·have J:=q.2.2 r om z;have A:=t.ok.1 r om c s;rw[e];unfold fM at A ⊢;rw[nj om om om s,g.lead _ om];exact A
  ·have J:=q.2.2 r D z;have A:=t.ok.2 r D om;rw[e];unfold gZ at A ⊢;rw[nj om om om om,g.lead _ om,g.lead _ om,g.lead _ om];exact A
  ·rw[e,g.lead n om,E];exact h.dn
  ·have U:4*pot (gT Q n (gJ T1 k p.f0 p.f1 p.s0 p.s1)) n<=3*pot (gT Q n T1) n:=by
    rw[e];refine uL j (fun c _ s=>by rw[g.lead c s]) ?_
    have V:=g.pa;have:=(G.pos f j).1;omega
   have W:=l.pd.pot_pos;unfold Jn;rw[<-m];generalize pot (gT Q n (gJ T1 k p.f0 p.f1 p.s0 p.s1)) n=x at *;generalize pot (gT Q n T1) n=y at *;have O:(x+1)*(n+1)<=y*(n+1):=ay _ om;rw[ck]at O;omega
 ·rename_i F;have P:=(oG.init l.pd f j).ac;have B:=l.pd.pos k om;refine⟨⟨om,om,l.weak fun i I=>dq (l.dg i I) (dU (w i)),⟨fun r z c s=>?_,fun r D z=>?_⟩,by rw[E];exact h.dn⟩,?_⟩
  ·by_cases e:r=k
   ·subst e;exact t.sz c om s
   ·exact t.ok.1 r om c s
  ·by_cases e:r=k
   ·subst e;unfold gZ;have R:¬4*ca (gT Q n T1) (r-1) 1 1<3*det r (gT Q n T1):=F;have X:=a8 (om:3*det r (gT Q n T1)<=4*ca (gT Q n T1) (r-1) 1 1) (aS B)
    have Y:det r (gT Q n T1)*(3*det r (gT Q n T1))=3*(det r (gT Q n T1)*det r (gT Q n T1)):=by grind
    have Z:det r (gT Q n T1)*(4*ca (gT Q n T1) (r-1) 1 1)=4*(det r (gT Q n T1)*ca (gT Q n T1) (r-1) 1 1):=by grind
    omega
   ·exact t.ok.2 r D om
  ·unfold Jn;rw[m];omega
theorem Fn(a:k<n):0<Jn Q n k T:=by unfold Jn;omega
theorem Fo{Q:aB}{n d:Nat}(g:∀a b,a<n->b<n->Q a b=Q b a)(c:n<=8):∀(m k:Nat) (T:aB),vD Q n d k T->Jn Q n k T<=m->vD Q n d n (Cs Q n m k T)
 | 0,k,T,h,i=>by
  have e:=h.kn;rcases az k n with f|f
  ·have:=Fn (Q:=Q) (T:=T) f;omega
  ·obtain rfl:k=n:=om
   exact h
 | m+1,k,T,h,i=>by
  unfold Cs;split
  ·rename_i j;obtain⟨e,f⟩:=h.step g c j;exact Fo g c m _ _ e om
  ·have e:=h.kn;obtain rfl:k=n:=om
   exact h
def An:Nat->Nat
 | 0=>1
 | k+1=>An k*2^(k+1)
theorem CR{D:Nat->Nat}{n:Nat}(a:D 0=1)(b:∀k,k<=n->0<D k)(d:∀k,0<k->k<n->D k*D k<=2*(D (k-1)*D (k+1))):∀k,k<n->D k^(k+1)<=An k*D (k+1)^k
 | 0,_=>by simp[a,An]
 | k+1,f=>by
  have ih:=CR a b d k om;have e:=d (k+1) om f;rw[Nat.add_sub_cancel]at e;have g:=Nat.pow_le_pow_left e (k+1);rw[Nat.mul_pow,Nat.mul_pow,Nat.mul_pow]at g;have j:2^(k+1)*(D k^(k+1)*D (k+1+1)^(k+1))<=2^(k+1)*(An k*D (k+1)^k*D (k+1+1)^(k+1)):=Nat.mul_le_mul_left _ (ay _ ih);have h:0<D (k+1)^k:=jQ (b (k+1) om);refine Nat.le_of_mul_le_mul_left (c:=D (k+1)^k) ?_ h;have i:D (k+1)^k*D (k+1)^(k+1+1)=D (k+1)^(k+1)*D (k+1)^(k+1):=by
   rw[<-fE,<-fE];congr 1;omega
  have l:2^(k+1)*(An k*D (k+1)^k*D (k+1+1)^(k+1))=D (k+1)^k*(An (k+1)*D (k+1+1)^(k+1)):=by
   rw[An];generalize D (k+1)^k=x;generalize D (k+1+1)^(k+1)=y;generalize (2:Nat)^(k+1)=z
   grind
  rw[i];omega
theorem Fz{D:Nat->Nat}{n M:Nat}(b:D 0=1)(c:∀k,k<=n->0<D k)(d:∀k,0<k->k<n->D k*D k<=2*(D (k-1)*D (k+1)))(e:∀k,k<n->An k<=M)(f:D n<=M):∀m k,k+m=n->D k<=M
 | 0,k,g=>by rw[(om:k=n)];exact f
 | m+1,k,g=>by
  have o:=Fz b c d e f m (k+1) om;have h:=CR b c d k om;have i:=e k om;rcases az M (D k)with a|a
  ·exfalso;have j:D (k+1)^k<=D k^k:=Nat.pow_le_pow_left om k;have p:An k*D (k+1)^k<=M*D k^k:=Nat.mul_le_mul i j;have l:0<D k^k:=jQ om;have q:M*D k^k<D k*D k^k:=Nat.mul_lt_mul_of_pos_right a l;rw[Nat.pow_succ,Nat.mul_comm]at h;omega
  ·exact a
theorem FT(h:Pd A n)(a:jy A n){k:Nat}(c:0<k)(b:k<n):det k A*det k A<=2*(det (k-1) A*det (k+1) A):=by
 have d:=a.2 k c b;have e:=nH (a.1 k b (k-1) om);unfold gZ at d;rw[(om:k-1+1=k)]at e
 omega
theorem G3.of(h:Pd A n)(b:jy A n)(e:n<=5)(f:det n A<=59049):G3 A n:=by
 refine⟨h,b,fun k a=>?_⟩;have g:=Fz (D:=fun k=>(det k A).toNat) (n:=n) (M:=59049) (by simp[det]) (fun k a=>by have:=h.pos k a;omega) (fun k c a=>?_) (fun k a=>?_) om (n-k) k om
 ·have:=h.pos k a;omega
 ·have d:=FT h b c a;have i:=h.pos k om;have j:=h.pos (k-1) om;have l:=h.pos (k+1) om;refine Int.ofNat_le.1 ?_;simp only[bO];rw[eM om,eM om,eM om];exact d
 ·match k,(om:k<=4)with
  | 0,_=>decide
  | 1,_=>decide
  | 2,_=>decide
  | 3,_=>decide
  | 4,_=>decide

end Go.Proofs.YtdobfmlmenaajaaGreatDoor
