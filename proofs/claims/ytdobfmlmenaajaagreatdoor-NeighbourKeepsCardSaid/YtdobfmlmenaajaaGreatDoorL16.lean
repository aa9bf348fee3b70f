/-
  Lemmas for NeighbourKeeps.
-/
import Derived.Test.YtdobfmlmenaajaaGreatDoorL15
namespace Go.Proofs.YtdobfmlmenaajaaGreatDoor
open Go.RowKit Tryz
open _root_.Classical renaming byContradiction→cU
open _root_.Int renaming mul_comm→bZ,mul_ediv_cancel_left→cc,one_mul→cF,le_trans→dq
open _root_.Nat renaming le_refl→af,mul_le_mul_left→aQ,mul_assoc→aZ,le_trans→bI
set_option maxHeartbeats 6400000
set_option maxRecDepth 4096
set_option linter.all false
variable{d:Int}{K N e i k n:Nat}{f w:Nat->Nat}{p:PL}{A B H Q:aB}
def vB(k:Nat)(a0 b0:Int)(m:Nat->Int)(L:aB)(i:Nat):Int:=(m (k-1)*L i k+L i (k-1)*b0)/a0
def rL(k:Nat)(p:PL)(a0 b0:Int)(m:Nat->Int)(L:aB)(i:Nat):Int:=p.f0*L i (k-1)+p.f1*vB k a0 b0 m L i
def xu(k:Nat)(p:PL)(a0 b0:Int)(m:Nat->Int)(L:aB)(i:Nat):Int:=p.s0*L i (k-1)+p.s1*vB k a0 b0 m L i
def Kg(k:Nat)(p:PL)(a0 b0:Int)(m:Nat->Int)(L:aB)(i:Nat):Int:=(p.a*xu k p a0 b0 m L i-p.b*rL k p a0 b0 m L i)/m (k-1)
def rM(k:Nat)(p:PL)(a0 b0:Int)(m:Nat->Int)(L:aB):aB:=fun i c =>
 if i=k-1 then p.f0*L (k-1) c+p.f1*L k c
 else if i=k then(if c=k-1 then p.b else p.s0*L (k-1) c+p.s1*L k c)
 else if k<i then(if c=k-1 then rL k p a0 b0 m L i else if c=k then Kg k p a0 b0 m L i else L i c)
 else L i c
theorem Kf(b:Pd A n)(d:0<k)(f:k<i)(a:i<n):vB k (det k A) (eB A k (k-1)) (fun c=>det c A) (eB A) i=ca A (k-1) (i-(k-1)) 1:=by
 have h:=b.lam_up d f a;unfold vB;have e:det (k-1) A*eB A i k+eB A i (k-1)*eB A k (k-1)=det k A*ca A (k-1) (i-(k-1)) 1:=by
  rw[h];unfold eB;grind
 rw[e,cc _ (b.ne (k:=k) om k (af _))]
theorem Kh(r:Pd A n)(h:yj A n k e p)(l:0<k)(B:k<n){i j:Nat}(m:j<i)(s:i<n):rM k p (det k A) (eB A k (k-1)) (fun c=>det c A) (eB A) i j=eB (iq A k p.f0 p.f1 p.s0 p.s1) i j:=by
 unfold rM;by_cases f:i=k-1
 ·rw[if_pos f,f,CW om]
 rw[if_neg f];by_cases g:i=k
 ·rw[if_pos g,g];by_cases d:j=k-1
  ·rw[if_pos d,d];exact h.pl.pb.symm
  ·rw[if_neg d,CV om]
 rw[if_neg g];by_cases d:k<i
 ·rw[if_pos d];have t:=Kf r l d s;obtain⟨w,x⟩:=MJ (A:=A) (f0:=p.f0) (f1:=p.f1) (s0:=p.s0) (s1:=p.s1) l d;have u:rL k p (det k A) (eB A k (k-1)) (fun c=>det c A) (eB A) i=eB (iq A k p.f0 p.f1 p.s0 p.s1) i (k-1):=by
   unfold rL;rw[t];exact w.symm
  have y:xu k p (det k A) (eB A k (k-1)) (fun c=>det c A) (eB A) i=ca (iq A k p.f0 p.f1 p.s0 p.s1) (k-1) (i-(k-1)) 1:=by
   unfold xu;rw[t];exact x.symm
  by_cases o:j=k-1
  ·rw[if_pos o,u,o]
  rw[if_neg o];by_cases q:j=k
  ·rw[if_pos q,q];have v:=h.pl.pd.lam_up l d s;rw[h.pl.lead (k-1) om,h.pl.pa,h.pl.pb]at v;unfold Kg;rw[u,y];have e:p.a*ca (iq A k p.f0 p.f1 p.s0 p.s1) (k-1) (i-(k-1)) 1-p.b*eB (iq A k p.f0 p.f1 p.s0 p.s1) i (k-1)=det (k-1) A*eB (iq A k p.f0 p.f1 p.s0 p.s1) i k:=by
    rw[v];unfold eB;grind
   rw[e,cc _ (r.ne (k:=k) om (k-1) om)]
  ·rw[if_neg q];rcases Nat.lt_or_ge j k with z|z
   ·rw[nj om f g m]
   ·rw[h.pl.up i j om m]
 ·rw[if_neg d,nj om f g m]
structure LSb(Q:aB)(n K:Nat)(T:aB):Prop where
 dt:∀k,k<n+1->(det k (gT Q n T)).natAbs<2^K
 lm:∀i c,i<n->c<i->(eB (gT Q n T) i c).natAbs<2^K
 tt:∀i j,i<n->j<n->(T i j).natAbs<2^K
theorem LS.bits{T:aB}{d W:Nat}(h:LS Q n d w T)(q:Pd Q n)(v:1<=n)(r:∀i,i<n->Q i i<=2^e)(s:e*n<=d)(l:∀i,i<n->w i<=W)(o:d+W<K):LSb Q n K T:=by
 obtain⟨m,rfl⟩:∃m,n=m+1:=⟨n-1,om⟩
 have g:e*m<=d:=bI (aQ e om) s;refine⟨fun k x=>?_,fun i c b t=>?_,fun i j b u=>?_⟩
 ·have f:=h.lead k om;have p:=h.pd.pos k om;exact pq (a:=d) om om
 ·have f:=h.lamB t b;have p:=l i b;exact pq (sB (a:=d+W) (dq f (dU om))) o
 ·have f:=h.coord q r g b u;have p:=l i b;exact pq (sB (a:=d+W) (dq f (dU om))) o
theorem wR_le{d m:Nat}(a:m<=n):wR d k m i<=5*d+13+n*(3*d+8):=by
 unfold wR;have:=Nat.mul_le_mul_right (3*d+8) a;split
 ·omega
 ·split<;>omega
theorem yj.bits(i:Pd A n)(h:yj A n k e p)(f:0<k)(g:k<n)(j:det k A<=2^e)(l:ca A (k-1) 1 1<=2^e)(d:e<K):p.a.natAbs<2^K/\p.b.natAbs<2^K/\p.c.natAbs<2^K/\p.f0.natAbs<2^K/\p.f1.natAbs<2^K/\p.s0.natAbs<2^K/\p.s1.natAbs<2^K:=by
 obtain⟨m,o,q,r,s⟩:=h.sq i f g j l;obtain⟨t,u⟩:=h.pos f g;have v:=h.a;have w:=h.c;exact⟨pq (a:=e) om d,pq (sB m) d,pq (a:=e) om d,pq (sB o) d,pq (sB q) d,pq (sB r) d,pq (sB s) d⟩

theorem lS:∀{n:Nat} {f g:Nat->Nat},(∀i,i<n->f i=g i)->iz n f=iz n g
 | 0,_,_,_=>rfl
 | n+1,f,g,h=>by
  simp only[iz];rw[h 0 om,lS (n:=n) fun i a=>h (i+1) om]
theorem zE:∀{n:Nat} {f:Nat->Nat} {i:Nat},i<n->iz n f=f i*iz n (fun t=>if t=i then 1 else f t)
 | n+1,f,0,_=>by
  simp only[iz,if_pos];rw[Nat.one_mul,lS (n:=n) (f:=fun i=>if i+1=0 then 1 else f (i+1)) (g:=fun i=>f (i+1)) fun j _=>by rw[if_neg om]]
 | n+1,f,i+1,h=>by
  simp only[iz];rw[if_neg om,zE (n:=n) (f:=fun i=>f (i+1)) (i:=i) om];rw[lS (n:=n) (f:=fun i_1=>if i_1+1=i+1 then 1 else f (i_1+1)) (g:=fun t=>if t=i then 1 else f (t+1)) fun j _=>by
   by_cases e:j=i
   ·rw[if_pos e,if_pos om]
   ·rw[if_neg e,if_neg om]]
  rw[<-aZ,<-aZ,Nat.mul_comm (f 0)]
theorem tQ:∀{n:Nat} {f:Nat->Nat},(∀i,i<n->1<=f i)->1<=iz n f
 | 0,_,_=>by simp[iz]
 | n+1,f,h=>by
  simp only[iz];exact Nat.mul_pos (h 0 om) (tQ fun i a=>h (i+1) om)
theorem zF:∀{m N:Nat} {f:Nat->Nat} {O:Nat->Nat},(∀i,i<N->1<=f i)->(∀a,a<m->O a<N)->(∀a b,a<m->b<m->O a=O b->a=b)->iz m (fun a=>f (O a))<=iz N f
 | 0,_,_,_,h,_,_=>by simp only[iz];exact tQ h
 | m+1,N,f,O,h,d,g=>by
  rw[zE (d 0 om)];simp only[iz];refine aQ _ ?_;have:=zF (m:=m) (N:=N) (f:=fun t=>if t=O 0 then 1 else f t) (O:=fun a=>O (a+1)) (fun i c=>by
   split
   ·exact af _
   ·exact h i c) (fun a j=>d (a+1) om) (fun a b j k e=>by
   have:=g (a+1) (b+1) om om e;omega)
  refine bI (Nat.le_of_eq (lS fun a j=>?_)) this;rw[if_neg fun e=>by have:=g (a+1) 0 om om e;omega]
theorem wI(c:∀r,cW N (A r)<=f r){k i j:Nat}(d:k+j<N){σ:Nat->Nat}(e:∀g:Nat->Int,cW N (fun b=>g (σ b))=cW N g) :
  (ca (fun x y=>A x (σ y)) k i j).natAbs<=iz (k+1) (fun a=>f (if a<k then a else k+i)):=by
 unfold ca;refine bI (Bk _ _) (rE fun a _=>?_);refine bI (C2 (fun y=>A (up k (fun _=>i) a) (σ y)) d) ?_;rw[e (A (up k (fun _=>i) a))];exact c _
theorem yC(t:∀r,r<N->cW N (B r)<=f r)(p:∀r,r<N->1<=f r){k i j:Nat}(v:k+i<N)(u:k+j<N){σ:Nat->Nat}(q:∀a,a<N->σ a<N) :
  (ca (fun a b=>B (σ a) b) k i j).natAbs<=iz N f:=by
 unfold ca;have s:∀a,a<k+1->up k (fun _=>i) a<N:=fun a g=>by unfold up;split<;>omega
 by_cases d:∀a b,a<k+1->b<k+1->σ (up k (fun _=>i) a)=σ (up k (fun _=>i) b)->a=b
 ·refine bI (Bk _ _) (bI (rE fun a g=>?_) (zF (m:=k+1) (N:=N) (f:=f) (O:=fun a=>σ (up k (fun _=>i) a)) p (fun a g=>q _ (s a g)) d));exact bI (C2 (fun y=>B (σ (up k (fun _=>i) a)) y) u) (t _ (q _ (s a g)))
 ·have:∃a b,a<b/\b<k+1/\σ (up k (fun _=>i) a)=σ (up k (fun _=>i) b):=by
   refine cU fun l=>d fun a b g n e=>?_;rcases Nat.lt_trichotomy a b with h|h|h
   ·exact(l ⟨a,b,h,n,e⟩).elim
   ·exact h
   ·exact(l ⟨b,a,h,g,e.symm⟩).elim
  obtain⟨a,b,o,n,e⟩:=this;rw[lW _ o n (fun c _=>by show B (σ (up k (fun _=>i) a)) _=B (σ (up k (fun _=>i) b)) _;rw[e])]
  have:=tQ p;simp

theorem IX(n:Nat)(H:aB)(v:ik):jn n H (fun _=>0) v=0:=iC fun i _=>by simp
theorem sU(n:Nat)(H:aB)(c:Nat->Int)(u:Nat->ik)(v:ik):∀m,jn n H (fun i=>aq m (fun a=>c a*u a i)) v=aq m (fun a=>c a*jn n H (u a) v)
 | 0=>IX n H v
 | m+1=>by
  have e:(fun i=>aq (m+1) (fun a=>c a*u a i))=fun i=>1*aq m (fun a=>c a*u a i)+c m*u m i:=by
   funext i;rw[cF];rfl
  rw[e,kO,sU n H c u v m,cF];rfl
theorem CY(d:∀a b,a<n->b<n->H a b=H b a)(c:Nat->Int)(u:Nat->ik)(v:ik)(m:Nat):jn n H v (fun i=>aq m (fun a=>c a*u a i))=aq m (fun a=>c a*jn n H v (u a)):=by
 rw[iW d,sU];exact aA fun a _=>by rw[iW d]
theorem Gq{j:Nat}(b:i<n)(c:j<n):jn n Q (dC i) (dC j)=Q i j:=by
 rw[xS b,cp j c (fun k _ a=>by simp[dC,a])]
 simp[dC]
theorem Il{U W:aB}(o:∀a b,a<n->b<n->Q a b=Q b a)(d:∀i j,i<n->j<n->mm n U W i j=if i=j then 1 else 0)(p:∀i j,i<n->j<n->A i j=jn n Q (fun r=>U r i) (fun r=>U r j)){i j:Nat}(e:i<n)(f:j<n) :
  jn n A (fun a=>W a i) (fun a=>W a j)=Q i j:=by
 have m:∀k,k<n->∀l,l<n->aq n (fun a=>W a k*U l a)=dC k l:=fun k q l c=>by
  have:=d l k c q;unfold mm at this;rw[aA (g:=fun a=>U l a*W a k) fun a _=>bZ _ _,this];simp[dC]
 have s:jn n A (fun a=>W a i) (fun a=>W a j)=aq n (fun a=>W a i*jn n Q (fun r=>U r a) (fun l=>aq n (fun b=>W b j*U l b))):=by
  unfold jn;refine aA fun a t=>?_;have h:=CY o (fun b=>W b j) (fun b r=>U r b) (fun r=>U r a) n;unfold jn at h;rw[h,bZ];congr 1;refine aA fun b u=>?_;rw[p a b t u,bZ];rfl
 rw[s,<-sU n Q (fun a=>W a i) (fun a r=>U r a),<-Gq (Q:=Q) e f];exact qR (fun l c=>m i e l c) (fun l c=>m j f l c)
theorem Hi(h:d*d=1):d=1∨d=-1:=by
 have a:(d-1)*(d+1)=0:=by grind
 rcases Int.mul_eq_zero.1 a with b|b<;>omega
def Gb(n:Nat)(U:aB):aB:=fun i j=>if det n U=1 then jF n U i j else-jF n U i j
theorem DX(d:1<=n){U:aB}(h:det n U*det n U=1){i j:Nat}(f:i<n)(c:j<n):mm n U (Gb n U) i j=if i=j then 1 else 0:=by
 have e:mm n U (jF n U) i j=if j=i then det n U else 0:=by
  rw[<-sC U c f];exact aA fun k g=>by rw[xU d U c g]
 unfold Gb;rcases Hi h with a|a
 ·have b:mm n U (fun i j=>if det n U=1 then jF n U i j else-jF n U i j) i j=mm n U (jF n U) i j:=aA fun k _=>by dsimp only;rw[if_pos a]
  rw[b,e,a];split<;>split<;>first|rfl|omega
 ·have b:mm n U (fun i j=>if det n U=1 then jF n U i j else-jF n U i j) i j=- mm n U (jF n U) i j:=by
   unfold mm;rw[<-tK];exact aA fun k _=>by dsimp only;rw[if_neg om];grind
  rw[b,e,a];split<;>split<;>first|rfl|omega

end Go.Proofs.YtdobfmlmenaajaaGreatDoor
