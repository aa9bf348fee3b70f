/-
  Lemmas for NeighbourRaw.
-/
import Derived.Test.YtdobfmlmenaajaaGreatDoorH10
namespace Go.Proofs.YtdobfmlmenaajaaGreatDoor
open Go.RowKit Tryz
open _root_.Classical renaming choose→dq
set_option maxHeartbeats 6400000
set_option maxRecDepth 4096
set_option linter.all false
variable{l p x:Int}{B N R U V a b g i j k m n r u0 u1 u2 ul v0 v1 vl:Nat}{M d f q:Nat->Int}{u v w w' σ:Nat->Nat}{A H Q T:aI}{L L':iB->Prop}
def gN(M:Int)(k:Nat):iB:=fun r=>if r=k then M else 0
structure TL(N:Nat)(L:iB->Prop)(d M:Nat->Int):Prop where
 lat:ON N L
 pos:∀i,i<N->0<d i
 step:∀i,i<N->M i=d i*M (i+1)
 last:M N=1
 dvd:∀x,L x->∀i,i<N->(∀r,r<i->x r=0)->d i∣x i
 unit:∀i k,i<=k->k<N->L (gN (M i) k)
 col:∀i,i<N->∃x,L x/\(∀r,r<i->x r=0)/\x i=d i
def Kw(b:xO N N H){x c:iB}(g:∀r,r<N->x r=ay N (fun j=>H r j*c j)):∀i,i<=N->(∀r,r<i->x r=0)->∀j,j<i->c j=0:=by
 intro i
 induction i with
 | zero=>intro _ _ j h;omega
 | succ i ih =>
  intro n d j h;have ih':=ih om (fun r o=>d r om);by_cases e:j=i
  .subst e;have f:=g j om;rw[d j om,dr j om (fun k l m=>by
    rcases aC k j with a|a
    .rw[ih' k a];simp
    .rw[(b j om).1 k om l];simp)]at f
   rcases jI.1 f.symm with a|a
   .have:=(b j om).2;omega
   .exact a
  .exact ih' j om
def Mz(b:xO N N H){x c:iB}(d:∀r,r<N->x r=ay N (fun j=>H r j*c j)){i:Nat}(a:i<N)(f:∀r,r<i->x r=0):x i=H i i*c i:=by
 have g:=Kw b d i om f;rw[d i a,dr i a (fun k h l=>by
  rcases aC k i with e|e
  .rw[g k e];simp
  .rw[(b i a).1 k om h];simp)]
def GH(H:aI)(N i:Nat):Int:=nR (N-i) (fun r=>H (i+r) (i+r))
def zB(H:aI){N i:Nat}(a:i<N):GH H N i=H i i*GH H N (i+1):=by
 unfold GH;rw[(om:N-i=(N-(i+1))+1)]
 simp only[nR,cF];congr 2;funext r;rw[(om:i+(r+1)=i+1+r)]
theorem Dc(H:aI){N:Nat}:∀(m i:Nat),i+m<=N->GH H N (i+m)∣GH H N i
 | 0,i,_=>jf _
 | m+1,i,h=>by
  have a:=Dc H (N:=N) m (i+1) om;rw[zB H (om:i<N),(om:i+(m+1)=i+1+m)]
  exact di a
theorem Fc{N:Nat}{H:aI}(g:xO N N H):∀(m k:Nat),k<N->N-k<=m->fy N N H (gN (GH H N k) k)
 | 0,k,c,p=>om
 | m+1,k,c,p=>by
  have b:=fy.lat N N H;have s:∀r,k<r->r<N->fy N N H (gN (GH H N (k+1)) r):=by
   intro r l d;obtain⟨q,n⟩:=Dc H (N:=N) (r-(k+1)) (k+1) om;rw[(om:k+1+(r-(k+1))=r)]at n
   refine b.ext _ _ (b.smul (Fc g m r d om) q) (fun i _=>?_);simp only[gN];split
   .rw[n,cX]
   .simp
  have l:=b.sum (fun r=>if k<r then gN (GH H N (k+1)) r else fun _=>0) (fun r=>- H r k) N (fun r t=>by
   split
   .rename_i h;exact s r h t
   .exact b.zero)
  refine b.ext _ _ (b.comb _ _ (fy.col (j:=k) c) l (GH H N (k+1)) 1) (fun i e=>?_);have d:ay N (fun j=>(if k<j then gN (GH H N (k+1)) j else fun _=>0) i*- H j k)=if k<i then GH H N (k+1)*- H i k else 0:=by
   rw[dr i e (fun j u f=>by
    by_cases a:k<j
    .simp[a,gN,aj f]
    .simp[a])]
   by_cases a:k<i
   .simp[a,gN]
   .simp[a]
  simp only[d,gN];by_cases a:i=k
  .subst a;rw[af om,ai rfl,zB H e];grind
  .rw[af a];by_cases o:k<i
   .rw[ai o];grind
   .rw[af o,(g i e).1 k om c];simp
def TL.of_tri(b:xO N N H):TL N (fy N N H) (fun i=>H i i) (GH H N):=by
 refine⟨fy.lat N N H,fun i a=>(b i a).2,fun i a=>zB H a,by simp[GH,nR],?_,fun i k e f=>?_,fun i a=>⟨_,fy.col a,fun r g=>(b r om).1 i g a,rfl⟩⟩
 .rintro x ⟨c,h⟩ i a j;exact⟨c i,Mz b h a j⟩
 .obtain⟨q,d⟩:=Dc H (N:=N) (k-i) i om;rw[(om:i+(k-i)=k)]at d
  refine(fy.lat N N H).ext _ _ ((fy.lat N N H).smul (Fc b (N-k) k f (ae _)) q) (fun r _=>?_);simp only[gN];split
  .rw[d,cX]
  .simp
def TL.congr(h:TL N L d M)(c:ON N L')(e:∀x,L' x↔L x):TL N L' d M :=
 ⟨c,h.pos,h.step,h.last,fun x f=>h.dvd x ((e x).1 f),fun i k a b=>(e _).2 (h.unit i k a b),fun i g=>by obtain⟨x,a,b⟩:=h.col i g;exact⟨x,(e x).2 a,b⟩⟩
def TL.of_det{w:aI}(c:det N w≠0):∃d M,TL N (fy N N w) d M/\M 0=((det N w).natAbs:Int):=by
 obtain⟨H,a,b⟩:=G6 w c;refine⟨_,_,(TL.of_tri b).congr (fy.lat N N w) a.1,?_⟩;rw[My a b];simp[GH]
def TL.M_pos(h:TL N L d M):∀m i,N-i<=m->i<=N->0<M i
 | 0,i,a,b=>by rw[(om:i=N),h.last];omega
 | m+1,i,a,b=>by
  by_cases e:i=N
  .rw[e,h.last];omega
  .rw[h.step i om];exact o0 (h.pos i om) (h.M_pos m (i+1) om om)
structure HI(N:Nat)(L:iB->Prop)(d M:Nat->Int)(i:Nat)(C:Nat->iB):Prop where
 mem:∀j,j<N->L (C j)
 zero:∀j,i<=j->j<N->∀r,r<i->C j r=0
 gen:∀x,L x->(∀r,r<i->x r=0)->∃t z:iB,∀r,i<=r->r<N->x r=ay N (fun j=>if i<=j then C j r*t j else 0)+M i*z r
 done:∀j,j<i->(∀r,r<j->C j r=0)/\C j j=d j/\∀r,j<r->r<i->0<=C j r/\C j r<d r
def HI.init{w:aI}:HI N (fy N N w) d M 0 (fun j r=>w r j):=by
 refine⟨fun j a=>fy.col a,fun j _ _ r b=>om,fun x e _=>?_,fun j a=>om⟩
 obtain⟨c,f⟩:=e;exact⟨c,fun _=>0,fun r _ b=>by rw[f r b];simp⟩
def HI.red(f:TL N L d M){i:Nat}{C C':Nat->iB}(h:HI N L d M i C)(y:i<=N)(q:Nat->iB)(o:∀j r,j<N->r<N->C' j r=C j r+(if i<=r then M i*q j r else 0)):HI N L d M i C':=by
 have lo:∀j r,j<N->r<i->C' j r=C j r:=fun j r b a=>by rw[o j r b om,af om];omega
 refine⟨fun j b=>?_,fun j g n r a=>by rw[lo j r n a];exact h.zero j g n r a,fun x v w=>?_,fun j b=>?_⟩
 .have g:=f.lat.sum (fun r=>if i<=r then gN (M i) r else fun _=>0) (q j) N (fun r a=>by
   split
   .rename_i c;exact f.unit i r c a
   .exact f.lat.zero)
  refine f.lat.ext _ _ (f.lat.add (h.mem j b) g) (fun r a=>?_);rw[o j r b a,dr r a (fun k A p=>by
   by_cases c:i<=k
   .simp[c,gN,aj p]
   .simp[c])]
  by_cases c:i<=r
  .simp[c,gN]
  .simp[c]
 .obtain⟨t,z,s⟩:=h.gen x v w;refine⟨t,fun r=>z r-ay N (fun j=>if i<=j then q j r*t j else 0),fun r a l=>?_⟩
  rw[s r a l];have e:ay N (fun j=>if i<=j then C' j r*t j else 0)=ay N (fun j=>if i<=j then C j r*t j else 0)+M i*ay N (fun j=>if i<=j then q j r*t j else 0):=by
   rw[<-cR,<-eD];refine aE fun j b=>?_;split
   .rw[o j r b l,ai a];grind
   .simp
  rw[e];grind
 .obtain⟨g,n,c⟩:=h.done j b;refine⟨fun r a=>by rw[lo j r om om];exact g r a,by rw[lo j j om b];exact n,fun r u m=>by rw[lo j r om m];exact c r u m⟩
def zD(g:i<n)(l:j<n)(c:i≠j)(h:∀k,k<n->k≠i->k≠j->f k=0):ay n f=f i+f j:=by
 have e:ay n f=ay n (fun k=>(if k=i then f i else 0)+(if k=j then f j else 0)):=aE fun k a=>by
  by_cases b:k=i
  .subst b;simp[c]
  .by_cases d:k=j
   .subst d;simp[b]
   .simp[b,d,h k a b d]
 rw[e,eD,dr i g (fun k _ a=>by simp[a]),dr j l (fun k _ a=>by simp[a])]
 simp
def HI.comb(o:TL N L d M){i j:Nat}{C C':Nat->iB}(h:HI N L d M i C)(H:i<j)(s:j<N){a b x y:Int}(F:a*x+b*y=1)
  (u:∀r,r<N->C' i r=a*C i r+b*C j r) (w:∀r,r<N->C' j r=x*C j r-y*C i r) (q:∀k r,k<N->r<N->k≠i->k≠j->C' k r=C k r):HI N L d M i C':=by
 have n:i<N:=om
 refine⟨fun k g=>?_,fun k A p r c=>?_,fun v I J=>?_,fun k g=>?_⟩
 .by_cases l:k=i
  .subst l;exact o.lat.ext _ _ (o.lat.comb _ _ (h.mem k g) (h.mem j s) a b) (fun r c=>(u r c).symm)
  .by_cases m:k=j
   .subst m;exact o.lat.ext _ _ (o.lat.comb _ _ (h.mem k g) (h.mem i n) x (-y)) (fun r c=>by rw[w r c];grind)
   .exact o.lat.ext _ _ (h.mem k g) (fun r c=>(q k r g c l m).symm)
 .have G:=h.zero i (ae _) n r c;have z2:=h.zero j om s r c;by_cases l:k=i
  .subst l;rw[u r om,G,z2];simp
  .by_cases m:k=j
   .subst m;rw[w r om,G,z2];simp
   .rw[q k r p om l m];exact h.zero k A p r c
 .obtain⟨t,z,B⟩:=h.gen v I J;refine⟨fun k=>if k=i then x*t i+y*t j else if k=j then a*t j-b*t i else t k,z,fun r c f=>?_⟩
  rw[B r c f];congr 1;have e:ay N (fun k=>(if i<=k then C' k r*(if k=i then x*t i+y*t j else if k=j then a*t j-b*t i else t k)else 0)+(-1)*(if i<=k then C k r*t k else 0))=0:=by
   rw[zD n s om (fun k g l m=>by
    simp only[l,m,aS];split
    .rw[q k r g f l m];omega
    .simp)]
   simp only[ae,aQ,(om:i<=j),(om:j≠i),aS]
   rw[u r f,w r f];have:C i r*t i=(a*x+b*y)*(C i r*t i):=by rw[F];omega
   have:C j r*t j=(a*x+b*y)*(C j r*t j):=by rw[F];omega
   grind
  rw[eD,cR]at e;show _=ay N (fun k=>if i<=k then C' k r*(if k=i then x*t i+y*t j else if k=j then a*t j-b*t i else t k)else 0)
  omega
 .obtain⟨K,O,P⟩:=h.done k g;have e:∀r,r<N->C' k r=C k r:=fun r c=>q k r om c om om;exact⟨fun r c=>by rw[e r om];exact K r c,by rw[e k om];exact O,fun r D E=>by rw[e r om];exact P r D E⟩
def HI.pivot_eq(e:TL N L d M){i:Nat}{C:Nat->iB}(h:HI N L d M i C)(c:i<N)(k:∀j,i<j->j<N->C j i=0){p a b:Int}(l:0<p)(m:p=a*C i i+b*M i)(n:p∣C i i)(o:p∣M i):p=d i:=by
 have q:d i∣p:=by
  rw[m];exact jP (di (e.dvd _ (h.mem i c) i c (h.zero i (ae _) c))) (di ⟨M (i+1),e.step i c⟩)
 have r:p∣d i:=by
  obtain⟨x,s,u,v⟩:=e.col i c;obtain⟨t,z,f⟩:=h.gen x s u;have g:=f i (ae _) c;rw[v,dr i c (fun j w y=>by
   split
   .rw[k j om w];simp
   .rfl)]at g
  simp only[ae,aQ]at g;rw[g];exact jP (eQ n) (eQ o)
 exact U8 (ck l) (ck (e.pos i c)) r q
def HI.pivot(k:TL N L d M){i:Nat}{C C':Nat->iB}(h:HI N L d M i C)(f:i<N)(B:∀j,i<j->j<N->C j i=0){p a b:Int}(S:0<p)(D:p=a*C i i+b*M i)(K:p∣C i i)(T:p∣M i)(q:iB)
  (E:∀r,r<N->C' i r=if r=i then p else a*C i r) (y:∀j r,j<i->r<N->C' j r=C j r-q j*C' i r) (F:∀j r,i<j->j<N->r<N->C' j r=C j r) (U:∀j,j<i->0<=C' j i/\C' j i<p) :
  HI N L d M (i+1) C':=by
 have m:=h.pivot_eq k f B S D K T;have V:=h.zero i (ae _) f;have g:∀r,r<i->C' i r=0:=fun r c=>by rw[E r om,af om,V r c];simp
 have o:L (C' i):=k.lat.ext _ _ (k.lat.comb _ _ (h.mem i f) (k.unit i i (ae _) f) a b) (fun r c=>by
  rw[E r c];simp only[gN];by_cases e:r=i
  .subst e;simp[D]
  .simp[e])
 refine⟨fun j l=>?_,fun j W n r c=>?_,fun x X O=>?_,fun j l=>?_⟩
 .rcases aC j i with P|P
  .exact k.lat.ext _ _ (k.lat.comb _ _ (h.mem j l) o 1 (- q j)) (fun r c=>by rw[y j r P c];grind)
  .by_cases e:j=i
   .subst e;exact o
   .exact k.lat.ext _ _ (h.mem j l) (fun r c=>(F j r om l c).symm)
 .rw[F j r om n om];by_cases e:r=i
  .subst e;exact B j om n
  .exact h.zero j om n r om
 .obtain⟨t,z,s⟩:=h.gen x X (fun r c=>O r om);have G:=s i (ae _) f;rw[O i om,dr i f (fun j l H=>by
   split
   .rw[B j om l];simp
   .rfl)]at G
  simp only[ae,aQ]at G;obtain⟨u,Q⟩:=K;have A:=k.step i f;rw[<-m]at A;have I:a*u+b*M (i+1)=1:=by
   rw[Q,A]at D;refine dN (om:p≠0) ?_
   grind
  have Y:u*t i+M (i+1)*z i=0:=by
   rw[Q,A]at G;refine dN (om:p≠0) ?_
   grind
  have Z:t i=M (i+1)*(b*t i-a*z i):=by
   have:t i=(a*u+b*M (i+1))*t i:=by rw[I];omega
   have:a*(u*t i+M (i+1)*z i)=0:=by rw[Y];omega
   grind
  refine⟨t,fun r=>C i r*(b*t i-a*z i)+p*z r,fun r c v=>?_⟩;rw[s r om v,A];have e:ay N (fun j=>(if i<=j then C j r*t j else 0)+(-1)*(if i+1<=j then C' j r*t j else 0))=C i r*t i:=by
   rw[dr i f (fun j l H=>?_)]
   .rw[ai (ae _),af om];omega
   .by_cases R:i<=j
    .rw[ai R,ai om,F j r om l v];omega
    .rw[af R,af om];omega
  rw[eD,cR]at e;have h10:C i r*t i=M (i+1)*(C i r*(b*t i-a*z i)):=by
   have:C i r*t i=C i r*(M (i+1)*(b*t i-a*z i)):=by rw[<-Z]
   grind
  grind
 .by_cases e:j=i
  .subst e;exact⟨g,by rw[E j f,ai rfl,m],fun r w J=>om⟩
  .obtain⟨g1,g2,g3⟩:=h.done j om;refine⟨fun r c=>by rw[y j r om om,g1 r c,g r om];simp,by rw[y j j om om,g2,g j om];simp,fun r w J=>?_⟩
   by_cases e':r=i
   .subst e';rw[<-m];exact U j om
   .rw[y j r om om,g r om];have:=g3 r w om;simpa using this
def HI.span(c:TL N L d M){C:Nat->iB}(h:HI N L d M N C)(x:iB):fy N N (fun r j=>C j r) x↔L x:=by
 constructor
 .exact fy.sub c.lat (fun j f=>c.lat.ext _ _ (h.mem j f) (fun _ _=>rfl))
 .intro m;have g:=fy.lat N N (fun r j=>C j r);have key:∀i,i<=N->∃y,fy N N (fun r j=>C j r) y/\∀r,r<i->y r=x r:=by
   intro i
   induction i with
   | zero=>intro _;exact⟨_,g.zero,fun r k=>om⟩
   | succ i ih =>
    intro p;obtain⟨y,a,b⟩:=ih om;have l:L y:=fy.sub c.lat (fun j f=>c.lat.ext _ _ (h.mem j f) (fun _ _=>rfl)) a;obtain⟨q,s⟩:=c.dvd (fun r=>1*x r+(-1)*y r) (c.lat.comb _ _ m l 1 (-1)) i om (fun r k=>by simp only[b r k];omega)
    refine⟨fun r=>1*y r+q*C i r,g.comb _ _ a (fy.col (j:=i) om) 1 q,fun r k=>?_⟩;obtain⟨n,o,_⟩:=h.done i om;by_cases e:r=i
    .subst e;simp only;rw[o];grind
    .simp only;rw[n r om,b r om];omega
  obtain⟨y,a,b⟩:=key N (ae _);exact g.ext _ _ a b

def ka(p:Int)(piv:Nat)(q:Nat->Int):aI:=fun i j=>if j=piv then(if i=piv then p*p else 0)else if i=j then p else if i=piv then-(p*q j)else 0
def Bg(n:Nat)(p:Int)(piv:Nat)(q x:Nat->Int):aI:=fun i j=>if j<n then ka p piv q i j else x i
def O9{piv:Nat}(w:Nat->Int)(a:piv<n){j:Nat}(b:j<n):ay n (fun i=>w i*ka p piv q i j)=if j=piv then w piv*(p*p)else w j*p-w piv*(p*q j):=by
 by_cases e:j=piv
 .subst e;rw[dr j b (fun i _ c=>by simp[ka,c])];simp[ka]
 .rw[zD b a e (fun i _ d f=>by simp[ka,e,d,f]),af e]
  simp[ka,e,aj e];grind
def O8{piv:Nat}(i j:Nat):p∣ka p piv q i j:=by
 unfold ka;split
 .split
  .exact⟨p,rfl⟩
  .exact je _
 .split
  .exact jf _
  .split
   .exact⟨- q j,by grind⟩
   .exact je _
def Dz{piv:Nat}{x:Nat->Int}(i:Nat)(c:Nat->Int):ay (n+1) (fun j=>Bg n p piv q x i j*c j)=ay n (fun j=>ka p piv q i j*c j)+x i*c n:=by
 simp only[ay];rw[aE (g:=fun j=>ka p piv q i j*c j) (fun j a=>by simp[Bg,a])]
 simp[Bg]
def iX:Nat->(Nat->Nat)->Nat
 | 0,_=>1
 | n+1,f=>f 0*iX n (fun i=>f (i+1))
def sU{f g:Nat->Nat}(h:∀i,i<n->f i<=g i):iX n f<=iX n g:=by
 induction n generalizing f g with
 | zero=>exact ae _
 | succ n ih=>simp only[iX];exact a9 (h 0 om) (ih fun i a=>h (i+1) om)
def vL(n:Nat)(f:Nat->Int):(ay n f).natAbs<=dU n f:=by
 induction n with
 | zero=>simp[ay,dU]
 | succ n ih=>simp only[ay,dU];omega
def ID(f:Nat->Int){j:Nat}(b:j<n+1):dU n (fun k=>f (skip j k))+(f j).natAbs=dU (n+1) f:=by
 induction n with
 | zero=>rw[(om:j=0)];simp[dU]
 | succ n ih =>
  by_cases e:j=n+1
  .subst e;rw[show dU (n+1) (fun k=>f (skip (n+1) k))=dU (n+1) f from ?_]
   .simp only[dU]
   .have key:∀m,m<=n+1->dU m (fun k=>f (skip (n+1) k))=dU m f:=by
     intro m
     induction m with
     | zero=>intro _;rfl
     | succ m a=>intro c;simp only[dU];rw[a om];simp[skip,(om:m<n+1)]
    exact key _ (ae _)
  .have:=ih om;simp only[dU]at this ⊢;rw[show skip j n=n+1 by simp[skip];omega]
   omega
theorem DY:∀(n:Nat) (A:aI),(det n A).natAbs<=iX n (fun i=>dU n (A i))
 | 0,_=>by simp[det,iX]
 | n+1,A=>by
  simp only[det,iX];have key:∀m,m<=n+1->(ay m (fun j=>xq j*A 0 j*det n (cut A j))).natAbs<=dU m (A 0)*iX n (fun i=>dU (n+1) (A (i+1))):=by
   intro m
   induction m with
   | zero=>intro _;simp[ay]
   | succ m ih =>
    intro c;have d:=ih om;rw[show dU (m+1) (A 0)=dU m (A 0)+(A 0 m).natAbs from rfl];simp only[ay];rw[dM];have e:(xq m*A 0 m*det n (cut A m)).natAbs=(A 0 m).natAbs*(det n (cut A m)).natAbs:=by
     rw[cJ,cJ];have:(xq m).natAbs=1:=by unfold xq;split<;>rfl
     rw[this,mW]
    have a:=DY n (cut A m);have b:iX n (fun i=>dU n (cut A m i))<=iX n (fun i=>dU (n+1) (A (i+1))):=sU fun i _=>by
     have:=ID (A (i+1)) (om:m<n+1)
     show dU n (fun k=>A (i+1) (skip m k))<=_;omega
    have f:=aM (A 0 m).natAbs (bQ a b);omega
  exact key _ (ae _)

theorem TL.uniq{N:Nat}{L:iB->Prop}{d M d' M':Nat->Int}(h:TL N L d M)(h':TL N L d' M'):∀m i,N-i<=m->i<=N->M i=M' i
 | 0,i,j,k=>by rw[(om:i=N),h.last,h'.last]
 | m+1,i,j,k=>by
  by_cases e:i=N
  .rw[e,h.last,h'.last]
  .rw[h.step i om,h'.step i om,TL.uniq h h' m (i+1) om om];have a:d i∣d' i:=by
    obtain⟨x,c,f,g⟩:=h'.col i om;rw[<-g];exact h.dvd x c i om f
   have b:d' i∣d i:=by
    obtain⟨x,c,f,g⟩:=h.col i om;rw[<-g];exact h'.dvd x c i om f
   rw[U8 (ck (h.pos i om)) (ck (h'.pos i om)) a b]
def ME(A:p≠0){piv:Nat}(d:piv<n){w q:Nat->Int}{inv:Int}(h:p∣inv*w piv-1)(o:∀j,j<n->j≠piv->p∣q j*w piv-w j)(y:iB) :
  fy n n (ka p piv q) y↔∃a:iB,(∀i,i<n->y i=p*a i)/\p∣ay n (fun i=>w i*a i):=by
 constructor
 .rintro⟨c,v⟩;have x:∀i,i<n->y i=p*(y i/p):=fun i b=>by
   rw[iL];rw[v i b];exact jt fun j _=>eQ (O8 _ _)
  refine⟨fun i=>y i/p,x,?_⟩;have B:p*ay n (fun i=>w i*(y i/p))=ay n (fun j=>c j*ay n (fun i=>w i*ka p piv q i j)):=by
   rw[<-cR,aE (g:=fun i=>ay n (fun j=>c j*(w i*ka p piv q i j))) (fun i b=>by
    have C:=x i b;rw[show p*(w i*(y i/p))=w i*(p*(y i/p)) by grind,<-C,v i b,<-cR]
    exact aE fun j _=>by grind),pR]
   exact aE fun j _=>by rw[cR]
  have D:p*p∣ay n (fun j=>c j*ay n (fun i=>w i*ka p piv q i j)):=jt fun j f=>by
   refine di ?_;rw[O9 w d f];split
   .exact⟨w piv,by grind⟩
   .rename_i e;obtain⟨t,E⟩:=o j f e;exact⟨- t,by
     have:w j=q j*w piv-p*t:=om
     rw[this];grind⟩
  obtain⟨u,k⟩:=D;exact⟨u,dN A (by rw[B,k,jn])⟩
 .rintro⟨a,F,s,G⟩;obtain⟨Q,z⟩:∃Q,Q=ay n (fun j=>if j=piv then 0 else q j*a j):=⟨_,rfl⟩
  have H:p∣w piv*(a piv+Q):=by
   have e:w piv*(a piv+Q)=ay n (fun i=>w i*a i)+ay n (fun j=>if j=piv then 0 else(q j*w piv-w j)*a j):=by
    rw[z,IX,<-cR,<-eD];have I:w piv*a piv=ay n (fun j=>if j=piv then w j*a j else 0):=by
     rw[dr piv d (fun i _ b=>by rw[af b])];simp
    rw[I,<-eD];exact aE fun j _=>by
     by_cases e:j=piv
     .simp[e]
     .simp[e];grind
   rw[e,G];refine jP ⟨s,rfl⟩ (jt fun j f=>?_);split
   .exact je _
   .exact eQ (o j f (by assumption))
  obtain⟨r,J⟩:p∣a piv+Q:=by
   obtain⟨u,k⟩:=H;obtain⟨t,E⟩:=h;refine⟨inv*u-t*(a piv+Q),?_⟩;have e:inv*(w piv*(a piv+Q))=inv*(p*u):=by rw[k]
   have l:inv*w piv=1+p*t:=om
   grind
  refine⟨fun j=>if j=piv then r else a j,fun i b=>?_⟩
  rw[F i b];by_cases e:i=piv
  .subst e;rw[aE (g:=fun j=>(if j=i then p*p*r else 0)+(- p)*(if j=i then 0 else q j*a j)) (fun j f=>by
    by_cases e:j=i
    .subst e;simp[ka]
    .simp[ka,e,aj e];grind),eD,cR,<-z,dr i b (fun j _ f=>by rw[af f])]
   simp only[aQ];have:Q=p*r-a i:=om
   rw[this];grind
  .rw[dr i b (fun j f m=>by
    by_cases l:j=piv
    .simp[ka,l,e]
    .simp[ka,l,e,aj m])]
   simp[ka,e]
def OQ(n:Nat)(p:Int)(w x y:iB):Prop:=∃(c:Int) (a:iB),(∀i,i<n->y i=c*x i+p*a i)/\p∣ay n (fun i=>w i*a i)
def JI(o:p≠0){piv:Nat}(b:piv<n){w x q:Nat->Int}{inv:Int}(e:p∣inv*w piv-1)(r:∀j,j<n->j≠piv->p∣q j*w piv-w j)(y:iB) :
  fy n (n+1) (Bg n p piv q x) y↔OQ n p w x y:=by
 have m:=ME o b e r;constructor
 .rintro⟨c,s⟩;obtain⟨a,h,k⟩:=(m (fun i=>ay n fun j=>ka p piv q i j*c j)).1 ⟨c,fun _ _=>rfl⟩;exact⟨c n,a,fun i f=>by rw[s i f,Dz,h i f];grind,k⟩
 .rintro⟨c,a,h,k⟩;obtain⟨d,t⟩:=(m (fun i=>p*a i)).2 ⟨a,fun _ _=>rfl,k⟩;refine⟨fun j=>if j=n then c else d j,fun i f=>?_⟩
  have g:=t i f;dsimp only at g;have l:ay n (fun j=>ka p piv q i j*(if j=n then c else d j))=ay n (fun j=>ka p piv q i j*d j):=aE fun j u=>by rw[af om]
  rw[Dz,h i f,g,l];simp only[aQ];grind
def MD(w a b:iB)(k:Int):ay n (fun i=>w i*(a i+k*b i))=ay n (fun i=>w i*a i)+k*ay n (fun i=>w i*b i):=by
 rw[<-cR,<-eD];exact aE fun i _=>by grind
def lv(n:Nat)(H:aI)(u v:iB):Int:=ay n fun i=>(ay n fun j=>H i j*v j)*u i
def qz(H:aI)(c d:Int)(u u' v:iB):lv n H (fun i=>c*u i+d*u' i) v=c*lv n H u v+d*lv n H u' v:=by
 unfold lv;rw[<-pg];exact aE fun i _=>by grind
def j9(c:∀a b,a<n->b<n->H a b=H b a)(u v:iB):lv n H u v=lv n H v u:=by
 unfold lv;rw[aE (g:=fun i=>ay n fun j=>H i j*v j*u i) (fun i _=>by rw[cX,<-cR];exact aE fun j _=>by grind),pR]
 refine aE fun j d=>?_;rw[cX _ (v j),<-cR];exact aE fun i e=>by rw[c i j e d];grind
def wA{u u' v v':iB}(h:∀i,i<n->u i=u' i)(k:∀i,i<n->v i=v' i):lv n H u v=lv n H u' v' :=
 aE fun i a=>by rw[h i a,aE fun j b=>by rw[k j b]]
def J4{w x:iB}(b:∀i,i<n->p∣(ay n fun j=>H i j*x j)-w i){a:iB}(c:p∣ay n (fun i=>w i*a i)):p∣lv n H a x:=by
 have e:lv n H a x=ay n (fun i=>w i*a i)+ay n (fun i=>((ay n fun j=>H i j*x j)-w i)*a i):=by
  rw[<-eD];exact aE fun i _=>by grind
 rw[e];exact jP c (jt fun i d=>eQ (b i d))
def FJ(e:∀a b,a<n->b<n->H a b=H b a){p:Int}{w x:iB}(f:∀i,i<n->p∣(ay n fun j=>H i j*x j)-w i)(g:p*p∣lv n H x x){y z:iB}(h:OQ n p w x y)(k:OQ n p w x z):p*p∣lv n H y z:=by
 obtain⟨c,a,l,m⟩:=h;obtain⟨d,b,o,q⟩:=k;rw[wA l o,qz,j9 e x,j9 e a,qz,qz,j9 e x a];obtain⟨r,u⟩:=g;obtain⟨s,v⟩:=J4 f m;obtain⟨t,A⟩:=J4 f q;rw[u,v,A];exact⟨c*d*r+c*t+d*s+lv n H b a,by grind⟩
def yI(n:Nat)(H B:aI)(i j:Nat):mm n (mm n (fun i j=>B j i) H) B i j=lv n H (fun r=>B r i) (fun r=>B r j):=by
 rw[nU];unfold mm lv;exact aE fun k _=>by rw[cX]
def Ga{piv:Nat}(a:piv<n)(v:iB):lv n H (gU piv) v=ay n fun j=>H piv j*v j:=by
 unfold lv;rw[dr piv a (fun i _ b=>by simp[gU,b])];simp[gU]
def Ct{piv:Nat}(f:∀a b,a<n->b<n->H a b=H b a)(e:piv<n){p:Int}(J:0<p){v:iB}{sl iv N t:Int}(l:(ay n fun j=>H piv j*v j)%p=sl)(o:(2*sl%p*iv)%p=1)(u:lv n H v v%(p*p)=N)(A:lv n H v v%p=0)(B:(p-N/p)*iv%p=t) :
  p*p∣lv n H (fun k=>if k=piv then v k+p*t else v k) (fun k=>if k=piv then v k+p*t else v k):=by
 have ex:∀k,(if k=piv then v k+p*t else v k)=1*v k+(p*t)*gU piv k:=fun k=>by
  unfold gU;split<;>simp
 rw[wA (fun k _=>ex k) (fun k _=>ex k),qz,j9 f v,j9 f (gU piv) (fun i=>1*v i+p*t*gU piv i),qz,qz,j9 f v (gU piv),Ga e v];generalize lv n H (gU piv) (gU piv)=h;generalize lv n H v v=b at *;generalize (ay n fun j=>H piv j*v j)=z at *;have q:=dC b (p*p);have w:=dC z p;have C:=dC (2*sl) p;have x:=dC (2*sl%p*iv) p;have D:=dC ((p-N/p)*iv) p;have E:p*(N/p)=N:=iL (by
  have:p∣b:=eg A;obtain⟨c,K⟩:=this;exact⟨c-p*(b/(p*p)),by rw[u]at q;grind⟩)
 rw[u]at q;rw[l]at w;rw[o]at x;rw[B]at D;generalize b/(p*p)=r at *;generalize z/p=s at *;generalize 2*sl/p=a at *;generalize 2*sl%p=y at *;generalize y*iv/p=d at *;generalize N/p=k at *;generalize (p-k)*iv/p=c at *;refine⟨r+(1+(p-k)*d+a*((p-k)*iv)-2*sl*c)+2*t*s+t*t*h,?_⟩;have F:2*sl*t=- k+p*(1+(p-k)*d+a*((p-k)*iv)-2*sl*c):=by
  have G:t=(p-k)*iv-p*c:=om
  have I:2*sl*((p-k)*iv)=(p-k)*(y*iv)+p*(a*((p-k)*iv)):=by rw[<-C];grind
  rw[G,se,I,<-x];grind
 have g:p*k+p*(2*sl*t)=p*(p*(1+(p-k)*d+a*((p-k)*iv)-2*sl*c)):=by rw[F];grind
 rw[<-w,<-q,<-E];generalize 1+(p-k)*d+a*((p-k)*iv)-2*sl*c=m at *
 grind

def yg(A:aI)(n k:Nat)(x:iB):Int:=ay (n-k) fun i=>(ay (n-k) fun j=>cQ A k i j*x (k+j))*x (k+i)
def Pd.qSt_step(h:Pd A n)(u:n=k+(m+1))(x:iB):det k A*yg A n (k+1) x<=det (k+1) A*yg A n k x:=by
 have e:∀i j,i<m->j<m->det (k+1) A*cQ A k (i+1) (j+1)=det k A*cQ A (k+1) i j+cQ A k (i+1) 0*cQ A k (j+1) 0:=fun i j c a=>h.stg_rec2 om om;have f:∀j,j<m->cQ A k 0 (j+1)=cQ A k (j+1) 0:=fun j a=>h.stg_sym k 0 (j+1) om om;have g:n-k=m+1:=om
 have l:n-(k+1)=m:=om
 obtain⟨L,b⟩:∃L,L=ay m (fun j=>cQ A k (j+1) 0*x (k+(j+1))):=⟨_,rfl⟩;obtain⟨Q,d⟩:∃Q,Q=ay m (fun i=>(ay m fun j=>cQ A k (i+1) (j+1)*x (k+(j+1)))*x (k+(i+1))):=⟨_,rfl⟩;have o:yg A n k x=det (k+1) A*x k*x k+L*x k+(x k*L+Q):=by
  unfold yg;rw[g,iE];have p:(ay (m+1) fun j=>cQ A k 0 j*x (k+j))=det (k+1) A*x k+L:=by
   rw[iE,df,b];congr 1;exact aE fun j a=>by rw[f j a]
  have q:ay m (fun i=>(ay (m+1) fun j=>cQ A k (i+1) j*x (k+j))*x (k+(i+1)))=x k*L+Q:=by
   rw[b,d,<-cR,<-eD];refine aE fun i _=>?_;rw[iE,cF]
   grind
  rw[p,q,yS];rfl
 have r:det (k+1) A*Q=det k A*yg A n (k+1) x+L*L:=by
  unfold yg;rw[l,d,<-cR,<-cR];have s:L*L=ay m (fun i=>L*(cQ A k (i+1) 0*x (k+(i+1)))):=by rw[cR,<-b]
  rw[s,<-eD];refine aE fun i c=>?_;have v:det (k+1) A*(ay m fun j=>cQ A k (i+1) (j+1)*x (k+(j+1)))=det k A*(ay m fun j=>cQ A (k+1) i j*x (k+1+j))+cQ A k (i+1) 0*L:=by
   rw[b,<-cR,<-cR,<-cR,<-eD];refine aE fun j a=>?_;have:=e i j c a;rw[(om:k+1+j=k+(j+1))]
   grind
  rw[(om:k+1+i=k+(i+1))]
  grind
 have t:=kw (det (k+1) A*x k+L);have w:det (k+1) A*yg A n k x=(det (k+1) A*x k+L)*(det (k+1) A*x k+L)+det k A*yg A n (k+1) x:=by
  rw[o];grind
 omega
def Pd.qSt_le(h:Pd A n)(x:iB):∀k,k<n->yg A n k x<=det k A*yg A n 0 x
 | 0,_=>by simp[det]
 | k+1,d=>by
  have ih:=h.qSt_le x k om;have f:=h.qSt_step (k:=k) (m:=n-k-1) om x;have c:=h.pos k om;have b:=h.pos (k+1) om;have g:=bV ih (ck b);refine ix (a:=det k A) ?_ c;have e:det k A*(det (k+1) A*yg A n 0 x)=det (k+1) A*(det k A*yg A n 0 x):=by grind
  omega
def zO(A:aI)(n:Nat)(x:iB):yg A n 0 x=lv n A x x:=by
 unfold yg lv;simp only[iz,aD,fq]
def Pd.last_sq(h:Pd A (n+1))(x:iB):x n*x n<=det n A*lv (n+1) A x x:=by
 have a:=h.qSt_le x n om;rw[zO]at a;have e:yg A (n+1) n x=det (n+1) A*x n*x n:=by
  unfold yg;rw[(om:n+1-n=1)]
  simp[ay,df]
 rw[e]at a;have b:=h.pos (n+1) om;have:=ca (om:1<=det (n+1) A) (kw (x n))
 have c:det (n+1) A*x n*x n=det (n+1) A*(x n*x n):=by grind
 omega
def Pd.det_le(h:Pd A n){E:Int}(a:∀i,i<n->A i i<=E):∀k,k<=n->det k A<=E^k
 | 0,_=>by simp[det]
 | k+1,c=>by
  have d:=h.hadamard (k:=k) om;have b:=a k om;have e:=cN (h.det_le a k om) b (ck (h.diag om)) (by have:=h.pos k om;have:=h.det_le a k om;omega)
  rw[fE];omega
def B9(b:i+1<n)(f:Nat->Int):ay n (fun a=>f (dO i (i+1) a))=ay n f:=by
 have h:=B8 (n:=n) (f:=fun a=>f (dO i (i+1) a)-f a) i b (fun a _ c d=>by
  have:dO i (i+1) a=a:=by unfold dO;rw[af c,af d]
  rw[this];omega)
 rw[lm]at h;have e:dO i (i+1) i=i+1:=by unfold dO;rw[ai rfl]
 have g:dO i (i+1) (i+1)=i:=by unfold dO;rw[af om,ai rfl]
 rw[e,g]at h;omega
theorem Pd.coord{n:Nat}{E:Int}:∀(m:Nat) {A:aI} (x:iB) (j:Nat),Pd A (n+1)->(∀i,i<n+1->A i i<=E)->j+m=n->x j*x j<=E^n*lv (n+1) A x x
 | 0,A,x,j,h,d,k=>by
  obtain rfl:j=n:=om
  have c:=h.last_sq x;have l:=h.det_le d j om;have o:0<=lv (j+1) A x x:=by
   have p:=h.pos j om;have:=kw (x j);rcases qF (lv (j+1) A x x) 0 with e|e
   .have:=Int.mul_neg_of_pos_of_neg p e;omega
   .exact e
  have:=ca l o;omega
 | m+1,A,x,j,h,d,k=>by
  have q:=h.swap (i:=j+1) om om;have f:∀a,a<n+1->dO j (j+1) a<n+1:=fun a u=>by unfold dO;split<;>(try split)<;>omega
  have c:=Pd.coord m (A:=EF A (j+1)) (fun a=>x (dO j (j+1) a)) (j+1) q (fun i r=>d _ (f i r)) om;have s:dO j (j+1) (j+1)=j:=by unfold dO;rw[af om,ai rfl]
  have t:lv (n+1) (EF A (j+1)) (fun a=>x (dO j (j+1) a)) (fun a=>x (dO j (j+1) a))=lv (n+1) A x x:=by
   unfold lv;have g:∀a,ay (n+1) (fun b=>EF A (j+1) a b*x (dO j (j+1) b))=ay (n+1) (fun b=>A (dO j (j+1) a) b*x b):=fun a=>B9 om (fun b=>A (dO j (j+1) a) b*x b);rw[aE fun a _=>by rw[g a]]
   exact B9 om (fun a=>ay (n+1) (fun b=>A a b*x b)*x a)
  rw[t]at c;simp only[s]at c;exact c
def Pd.lam_le(h:Pd A n){D W:Int}(a:∀k,k<=n->det k A<=D){i c:Nat}(o:c<i)(d:i<n)(e:A i i<=W):kK A i c*kK A i c<=D*(D*W):=by
 have f:=h.lam_sq (k:=c) (i:=i-c-1) om;rw[(om:i-c-1+1=i-c)]at f
 have b:=h.stg_up c (i-c) om;rw[(om:c+(i-c)=i)]at b
 have g:=h.pos (c+1) om;have p:=h.pos c om;have j:=h.diag d;have l:cQ A c (i-c) (i-c)<=D*W:=gL b (cN (a c om) e (ck j) (by have:=a c om;omega))
 have m:=h.stg_pos (i-c) c om;have q:=cN (a (c+1) om) l (ck m) (by have:=a c om;omega)
 unfold kK;omega

def gT(Q:aI)(n:Nat)(T:aI):aI:=fun a b=>lv n Q (T a) (T b)
def q9(T:aI)(k j:Nat)(q:Int):aI:=fun a b=>if a=k then T k b-q*T j b else T a b
def N0(e:∀a b,a<n->b<n->H a b=H b a)(c d:Int)(u v v':iB):lv n H u (fun i=>c*v i+d*v' i)=c*lv n H u v+d*lv n H u v':=by
 rw[j9 e,qz,j9 e v,j9 e v']
def Ik{q:Int}(f:∀a b,a<n->b<n->Q a b=Q b a):gT Q n (q9 T k j q)=mc (gT Q n T) k j (-q):=by
 have g:q9 T k j q k=fun i=>1*T k i+(-q)*T j i:=by
  funext b;simp only[q9,aQ];grind
 have e:∀a,a≠k->q9 T k j q a=T a:=fun a c=>by funext b;simp[q9,c]
 funext a b;simp only[gT,mc];by_cases c:a=k
 .subst c;by_cases d:b=a
  .subst d;rw[g,qz,N0 f,N0 f];simp only[aQ,Ut];grind
  .rw[g,e b d,qz];simp only[d,aQ,aS,UY];grind
 .by_cases d:b=k
  .subst d;rw[g,e a c,N0 f];simp only[c,aQ,aS,false_and];grind
  .rw[e a c,e b d];simp[c,d]
def vk(T:aI):aI:=fun i j=>T j i
def NN{q:Int}(d:k<n)(e:j<n)(c:k≠j):det n (vk (q9 T k j q))=det n (vk T):=by
 have h:=qd (n:=n) (i:=k) (k:=j) (vk T) d e c 1 (-q);rw[fA]at h;rw[<-h];congr 1;funext a b;simp only[q9,vk,cE];split<;>grind
def G5{a b m:Int}(c:0<a)(d:m*m<=a*b)(x y:Int):x*x*a+2*(x*y*m)+y*y*b<=2*(x*x*a+y*y*b):=by
 have:=NR c d (u:=y) (v:=x)
 grind
def sv(l d:Int):Int:=(l+l+d)/(d+d)
def Nb{d:Int}(a:0<d):2*((l-sv l d*d).natAbs:Int)<=d:=by
 have h:=JG (l:=l) a;rw[show l+-((2*l+d)/(2*d))*d=l-sv l d*d by
  unfold sv;rw[(om:l+l+d=2*l+d),(om:d+d=2*d)]
  grind]at h
 exact h
def Fy{d:Int}(e:0<d):sv l d*sv l d<=4*(l*l)+4:=by
 have h:=Nb (l:=l) e;generalize sv l d=q at *;have f:2*((q*d).natAbs:Int)<=2*(l.natAbs:Int)+d:=om
 rw[cJ]at f;have i:((q.natAbs*d.natAbs:Nat):Int)=(q.natAbs:Int)*d:=by rw[bD];congr 1;omega
 rw[i]at f;have g:(q.natAbs:Int)<=(l.natAbs:Int)+1:=by
  rcases qF ((l.natAbs:Int)+1) q.natAbs with b|b
  .exfalso;have a:=ca (show(l.natAbs:Int)+2<=q.natAbs by omega) (ck e)
   rw[yS]at a;have j:=bV (show(1:Int)<=d by omega) (show(0:Int)<=(l.natAbs:Int) by omega)
   omega
  .exact b
 have b:(q.natAbs:Int)*q.natAbs=q*q:=by rw[<-bD,lY]
 have a:(l.natAbs:Int)*l.natAbs=l*l:=by rw[<-bD,lY]
 have j:=cN g g om om;have k:((l.natAbs:Int)+1)*((l.natAbs:Int)+1)=l*l+2*(l.natAbs:Int)+1:=by rw[<-a];grind
 have m:(l.natAbs:Int)<=l*l:=by
  rw[<-a];rcases a6 l.natAbs with c|c
  .rw[c];simp
  .have:=bV (show(1:Int)<=l.natAbs by omega) (show(0:Int)<=l.natAbs by omega)
   omega
 have c:=kw l;omega
def vY(a:Nat):(0:Int)<2^a:=Int.pow_pos om
def pU(a b:Nat):(2:Int)^(a+b)=2^a*2^b:=Int.pow_add ..
def M4{y:Int}(c:0<=y)(d:x<=2^a)(e:y<=2^b):x*y<=2^(a+b):=by
 rw[pU];exact cN d e c (ck (vY a))
def M3(a:Nat):(1:Int)<=2^a:=vY a
def M2(h:x*x<=2^(2*a)):(x.natAbs:Int)<=2^a:=by
 refine vM (ck (vY a)) ?_;rw[<-pU,(om:a+a=2*a)];exact h
def M5(h:(x.natAbs:Int)<=2^a)(d:a<b):x.natAbs<2^b:=by
 have c:=iT (om:a+1<=b)
 have e:=vY a;have f:((2^b:Nat):Int)=(2:Int)^b:=by simp
 rw[fE]at c;omega
structure LS(Q:aI)(n d:Nat)(w:Nat->Nat)(T:aI):Prop where
 pd:Pd (gT Q n T) n
 lead:∀k,k<=n->det k (gT Q n T)<=2^d
 uni:det n (vk T)*det n (vk T)=1
 dg:∀i,i<n->gT Q n T i i<=2^(w i)
def LS.weak{d:Nat}(h:LS Q n d w T)(a:∀i,i<n->gT Q n T i i<=2^(w' i)):LS Q n d w' T:=⟨h.pd,h.lead,h.uni,a⟩
def LS.lamB{d:Nat}(h:LS Q n d w T){i c:Nat}(b:c<i)(a:i<n):kK (gT Q n T) i c*kK (gT Q n T) i c<=2^(d+(d+w i)):=by
 have e:=h.pd.lam_le h.lead b a (h.dg i a);rw[pU,pU];exact e
def LS.coord{d e:Nat}(h:LS Q (n+1) d w T)(c:Pd Q (n+1))(f:∀i,i<n+1->Q i i<=2^e)(g:e*n<=d){i j:Nat}(a:i<n+1)(p:j<n+1):T i j*T i j<=2^(d+w i):=by
 have k:=c.coord (n-j) (T i) j f om;have l:=h.dg i a;have m:((2:Int)^e)^n<=2^d:=by rw[<-Int.pow_mul];exact iT g
 have o:=h.pd.diag a;have b:=cN m l (ck o) (ck (vY d));rw[<-pU]at b;exact gL k b
def LS.sub{d:Nat}(h:LS Q n d w T)(t:∀a b,a<n->b<n->Q a b=Q b a){k j:Nat}(m:j<k)(o:k<n)(p:w j<=d+3) :
  LS Q n d (fun i=>if i=k then w k+(3*d+8)else w i) (q9 T k j (sv (kK (gT Q n T) k j) (det (j+1) (gT Q n T)))):=by
 have u:=h.pd.pos (j+1) om;have D:=Fy (l:=kK (gT Q n T) k j) u;have E:=h.lamB m o;generalize sv (kK (gT Q n T) k j) (det (j+1) (gT Q n T))=q at *;have e:=Ik (T:=T) (k:=k) (j:=j) (q:=q) t;have v:Pd (gT Q n (q9 T k j q)) n:=by rw[e];exact h.pd.add m o
 refine⟨v,fun c x=>by rw[e,kB m];exact h.lead c x,by rw[NN o om om];exact h.uni,fun i g=>?_⟩
 rw[e];by_cases f:i=k
 .subst f
  try dsimp only
  rw[ai rfl];have y:mc (gT Q n T) i j (-q) i i=1*1*gT Q n T i i+2*(1*(-q)*gT Q n T i j)+(-q)*(-q)*gT Q n T j j:=by
   simp only[mc,aQ,Ut];have:=h.pd.sym i j g om
   grind
  rw[y];have z:=G5 (h.pd.diag g) (h.pd.cs0 g (om:j<n)) 1 (-q)
  have F:=h.dg i g;have A:=h.dg j om;have r:=h.pd.diag (om:j<n)
  have B:=iT p;have s:(-q)*(-q)=q*q:=by grind
  rw[s]at z ⊢;have C:q*q<=2^(d+(d+w i)+3):=by
   have:=M3 (d+(d+w i));rw[pU];omega
  have G:=M4 (ck r) C (gL A B);have H:=iT (om:w i<=d+(d+w i)+3+(d+3))
  have I:=iT (om:d+(d+w i)+3+(d+3)+2<=w i+(3*d+8))
  have J:=pU (d+(d+w i)+3+(d+3)) 2;omega
 .try dsimp only
  rw[af f,rB _ f f];exact h.dg i g
def LS.row{d:Nat}(h:LS Q n d w T)(e:n<=8){k:Nat}(a:k<n)(b:∀j,j<k->iF (gT Q n T) k j):gT Q n T k k<=2^(d+3):=by
 have f:=h.pd.sized_norm (D:=2^d) a (fun c g=>h.lead (c+1) om) b;have i:=ca (show((k+1:Nat):Int)<=8 by omega) (ck (vY d))
 rw[pU];omega
structure PL where
 a:Int
 b:Int
 c:Int
 f0:Int
 f1:Int
 s0:Int
 s1:Int

structure TO(Q:aI)(n d k:Nat)(T:aI):Prop where
 k1:1<=k
 kn:k<=n
 ls:LS Q n d (fun _=>5*d+13) T
 ok:jX (gT Q n T) k
 dn:det n (gT Q n T)=det n Q
def Da:Nat->Nat
 | 0=>1
 | k+1=>Da k*2^(k+1)
theorem F3{D:Nat->Nat}{n:Nat}(a:D 0=1)(b:∀k,k<=n->0<D k)(d:∀k,0<k->k<n->D k*D k<=2*(D (k-1)*D (k+1))):∀k,k<n->D k^(k+1)<=Da k*D (k+1)^k
 | 0,_=>by simp[a,Da]
 | k+1,f=>by
  have ih:=F3 a b d k om;have e:=d (k+1) om f;rw[fK]at e;have g:=Bh e (k+1);rw[UA,UA,UA]at g;have j:2^(k+1)*(D k^(k+1)*D (k+1+1)^(k+1))<=2^(k+1)*(Da k*D (k+1)^k*D (k+1+1)^(k+1)):=aM _ (aB _ ih);have h:0<D (k+1)^k:=iK (b (k+1) om);refine Ol (c:=D (k+1)^k) ?_ h;have i:D (k+1)^k*D (k+1)^(k+1+1)=D (k+1)^(k+1)*D (k+1)^(k+1):=by
   rw[<-fJ,<-fJ];congr 1;omega
  have l:2^(k+1)*(Da k*D (k+1)^k*D (k+1+1)^(k+1))=D (k+1)^k*(Da (k+1)*D (k+1+1)^(k+1)):=by
   rw[Da];generalize D (k+1)^k=x;generalize D (k+1+1)^(k+1)=y;generalize (2:Nat)^(k+1)=z
   grind
  rw[i];omega
def Fq:List Nat:=[1,10000,10000,10000,25600,57243,64000,35777,10000]
def KL:∀k,k<8->Da k*Fq.getD (k+1) 0^k<(Fq.getD k 0+1)^(k+1):=by decide +kernel
def Fp:∀k,k<9->Fq.getD k 0<=64000/\(0<k->10000<=Fq.getD k 0)/\1<=Fq.getD k 0:=by decide
theorem J1{D:Nat->Nat}{n:Nat}(c:D 0=1)(d:∀k,k<=n->0<D k)(f:∀k,0<k->k<n->D k*D k<=2*(D (k-1)*D (k+1)))(a:n<=8)(h:D n<=10000):∀m k,k+m=n->D k<=Fq.getD k 0
 | 0,k,i=>by
  rw[(om:k=n)]
  obtain⟨_,g,j⟩:=Fp n om;rcases a6 n with e|e
  .subst e;omega
  .have:=g e;omega
 | m+1,k,i=>by
  have l:=J1 c d f a h m (k+1) om;have g:=F3 c d f k om;have j:=KL k om;rcases aC (Fq.getD k 0) (D k)with b|b
  .exfalso;have o:=Bh l k;have p:=aM (Da k) o;have q:=Bh (show Fq.getD k 0+1<=D k from b) (k+1);omega
  .exact b
def KK(h:Pd A n)(a:jX A n){k:Nat}(c:0<k)(b:k<n):det k A*det k A<=2*(det (k-1) A*det (k+1) A):=by
 have d:=a.2 k c b;have e:=sw (a.1 k b (k-1) om);unfold iC at d;rw[(om:k-1+1=k)]at e
 omega
def GK.of(h:Pd A n)(b:jX A n)(d:n<=8)(f:det n A<=10000):GK A n:=by
 refine⟨h,b,fun k a=>?_⟩;have g:=J1 (D:=fun k=>(det k A).toNat) (n:=n) (by simp[det]) (fun k a=>by have:=h.pos k a;omega) (fun k e a=>?_) d om (n-k) k om
 .have:=h.pos k a;have c:=(Fp k om).1;omega
 .have c:=KK h b e a;have i:=h.pos k om;have j:=h.pos (k-1) om;have l:=h.pos (k+1) om;refine kH.1 ?_;simp only[bD];rw[cY om,cY om,cY om];exact c

structure ti(A:aI)(n:Nat):Prop where
 pos:∀k,k<=n->0<det k A
 dt:det n A<=10000
 rows:jX A n
structure yj(A:aI)(n k:Nat):Prop where
 pos:∀j,j<=k->0<det j A
 lt:∀j,j<=k->det j A<65536
 sz:∀i j,j<k->j<i->i<n->iF A i j
 lo:∀i,0<i->i<=k->iC A i
def Q5(A:aI)(n k:Nat):Prop:=∀i j,k+i<n->k+j<n->((cQ A k i j).natAbs:Int)<=det k A*(262144+k*16384)
def yj.ne(h:yj A n k):∀j,j<=k->det j A≠0:=fun j a=>by have:=h.pos j a;omega
def yj.init:yj A n 0 :=
 ⟨fun j a=>by rw[(om:j=0)];simp[det],fun j a=>by rw[(om:j=0)];simp[det],fun i j a=>om,fun i b c=>om⟩
def Q5.init(h:∀i j,i<n->j<n->-262144<A i j/\A i j<262144):Q5 A n 0:=fun i j a b=>by
 have:=h i j om om;rw[iz];simp[det];omega
theorem Fi{A:aI}{n:Nat}(e:∀i j,i<n->j<n->A i j=A j i):∀(k i j:Nat),(∀c,c<=k->det c A≠0)->k+i<n->k+j<n->cQ A k i j=cQ A k j i
 | 0,i,j,_,h,l=>by rw[iz,iz];exact e i j om om
 | k+1,i,j,d,h,l=>by
  have ih:=fun a b=>Fi e k a b (fun c f=>d c om);have g:=ju (A:=A) (k:=k) (fun c f=>d c om) i j;have m:=ju (A:=A) (k:=k) (fun c f=>d c om) j i;rw[ih (i+1) (j+1) om om,ih (i+1) 0 om om,ih 0 (j+1) om om]at g;refine dN (d k om) ?_;rw[<-g,<-m];grind
def vN(A:aI)(m:Nat):Prop:=0<A 0 0/\A 0 0<65536/\∀i,1<=i->i<m->2*A i 0<=A 0 0/\-2*A i 0<=A 0 0
def Q5.step(h:Q5 A n k)(c:yj A n k)(g:∀i j,i<n->j<n->A i j=A j i)(l:vN (cQ A k) (n-k)):Q5 A n (k+1):=fun i j u v=>by
 obtain⟨m,o,f⟩:=l;rw[df]at m o f;have e:=ju (A:=A) (k:=k) c.ne i j;rw[df,Fi g k 0 (j+1) c.ne om om]at e;have b:=h (i+1) (j+1) om om;have w:=f (i+1) om om;have B:=f (j+1) om om;have dk:=c.pos k (ae k);generalize det k A=d at *;generalize det (k+1) A=D at *;generalize cQ A k (i+1) (j+1)=s at *;generalize cQ A k (i+1) 0=x at *;generalize cQ A k (j+1) 0=y at *;generalize cQ A (k+1) i j=z at *;have C:d*(z.natAbs:Int)<=D*(s.natAbs:Int)+(x.natAbs:Int)*(y.natAbs:Int):=by
  have p:((d*z).natAbs:Int)=d*(z.natAbs:Int):=by rw[cJ];push_cast;congr 1;omega
  have q:((D*s).natAbs:Int)=D*(s.natAbs:Int):=by rw[cJ];push_cast;congr 1;omega
  have r:((x*y).natAbs:Int)=(x.natAbs:Int)*(y.natAbs:Int):=by rw[cJ];push_cast;rfl
  rw[<-p,<-q,<-r,<-e];omega
 have E:(2*(x.natAbs:Int))*(2*(y.natAbs:Int))<=D*D:=cN om om om om;have F:(2*(x.natAbs:Int))*(2*(y.natAbs:Int))=4*((x.natAbs:Int)*(y.natAbs:Int)):=by grind
 have G:D*D<=D*65536:=bV om om;have H:D*16384<=d*(D*16384):=by
  have:=ca (om:1<=d) (om:0<=D*16384)
  omega
 have I:=bV b (om:0<=D)
 have t:d*(D*(262144+((k+1:Nat):Int)*16384))=D*(d*(262144+k*16384))+d*(D*16384):=by push_cast;grind
 refine ix (a:=d) ?_ dk;rw[t];omega
def yj.step(a:yj A n k)(h:vN (cQ A k) (n-k))(l:iC A (k+1)):yj A n (k+1):=by
 obtain⟨c,d,f⟩:=h;rw[df]at c d f;refine⟨fun j g=>?_,fun j g=>?_,fun i j g b m=>?_,fun i o p=>?_⟩
 .by_cases e:j=k+1
  .rw[e];exact c
  .exact a.pos j om
 .by_cases e:j=k+1
  .rw[e];exact d
  .exact a.lt j om
 .by_cases e:j=k
  .subst e;have:=f (i-j) om om;unfold iF kK;omega
  .exact a.sz i j om b m
 .by_cases e:i=k+1
  .rw[e];exact l
  .exact a.lo i o om
def ti.red(h:ti A n)(a:∀i j,i<n->j<n->A i j=A j i)(b:n<=8):GK A n:=GK.of ⟨a,h.pos⟩ h.rows b (by have:=h.dt;omega)
def ti.short(h:ti A n)(b:∀i j,i<n->j<n->A i j=A j i)(c:n<=8)(a:k<n):vN (cQ A k) (n-k):=by
 have d:=h.pos (k+1) a;have f:=(h.red b c).lead (k+1) a;unfold vN;rw[df];refine⟨d,om,fun i g e=>?_⟩
 have:=h.rows.1 (k+i) om k om;unfold iF kK at this;rw[(om:k+i-k=i)]at this
 omega
def yj.redB(a:yj A n k)(h:k+1=n)(c:0<det n A)(d:det n A<=10000):ti A n:=by
 refine⟨fun j b=>?_,d,fun r f j b=>a.sz r j om b f,fun r g i=>a.lo r g om⟩;by_cases e:j=n
 .rw[e];exact c
 .exact a.pos j om
def Q5.num(h:Q5 A n k)(c:0<det k A/\det k A<65536)(d:n<=8)(a:k+i<n)(b:k+j<n):-24696061952<=cQ A k i j/\cQ A k i j<=24696061952:=by
 have e:=h i j a b;have f:=cN (om:det k A<=65536) (show(262144+k*16384:Int)<=376832 by omega) om om
 omega

def Di(l:k<n)(b:∀j,j<=k->det j A≠0)(c:∀j,j<n-k->cQ A k 0 j=0):det n A=0:=by
 have a:=rL b (n-k-1) id id;have d:det (n-k-1+1) (fun i j=>cQ A k (id i) (id j))=0:=FZ _ (fun j m=>c j om);rw[d,(om:k+(n-k-1)+1=n)]at a
 have f:det k A^(n-k-1)≠0:=Kb (b k (ae _));have g:det n (fun i j=>A (up k id i) (up k id j))=det n A:=cD fun i j _ _=>by
  have e:∀i,up k id i=i:=fun i=>by unfold up;split<;>simp;omega
  rw[e,e]
 rw[g]at a;rcases jI.1 a.symm with h|h
 .exact absurd h f
 .exact h
def Sx{p:Nat}(d:k<=p)(i a:Nat):dO k p (up k (fun _=>i) a)=up k (fun _=>dO 0 (p-k) i) a:=by
 unfold up dO;by_cases h:a<k
 .simp only[h,aQ];rw[af om,af om]
 .simp only[h,aS];by_cases b:i=0
  .rw[ai om,ai b];omega
  .by_cases c:i=p-k
   .rw[af om,ai om,af b,ai c];omega
   .rw[af om,af om,af b,af c]
def Ff{p:Nat}(A:aI)(c:k<=p)(i j:Nat):cQ (fun a b=>A a (dO k p b)) k i j=cQ A k i (dO 0 (p-k) j):=by
 unfold cQ;refine cD fun a b d e=>?_;show A _ (dO k p (up k (fun _=>j) b))=_;rw[Sx c]
def oF{g:Nat->Int}(h:∀i,i<n->f i=g i):dU n f=dU n g:=by
 induction n with
 | zero=>rfl
 | succ n ih=>simp only[dU];rw[ih (fun i a=>h i om),h n om]
def N9(f:Nat->Int)(h:n<=m):dU n f<=dU m f:=by
 induction m with
 | zero=>rw[(om:n=0)];exact ae _
 | succ m ih =>
  rcases aC n (m+1)with a|a
  .have:=ih om;simp only[dU];omega
  .rw[(om:n=m+1)];exact ae _
def md(f:Nat->Int){j:Nat}(a:j<n):dU n (fun b=>if b=j then 0 else f b)+(f j).natAbs=dU n f:=by
 induction n with
 | zero=>omega
 | succ n ih =>
  simp only[dU];rcases aC j n with h|h
  .have:=ih h;rw[af (om:¬n=j)];omega
  .rw[(om:j=n),ai rfl,oF (g:=f) (fun i c=>af om)];simp
def LI(f:Nat->Int){i k:Nat}(a:i<n)(c:k<n):dU n (fun b=>f (dO i k b))=dU n f:=by
 by_cases e:i=k
 .subst e;exact oF fun b _=>by unfold dO;split<;>simp_all
 .have p:=md f a;have j:=md (fun b=>if b=i then 0 else f b) c
  have l:=md (fun b=>f (dO i k b)) a;have d:=md (fun b=>if b=i then 0 else f (dO i k b)) c
  simp only[af (aj e)]at j d;have q:dU n (fun b=>if b=k then 0 else if b=i then 0 else f (dO i k b))=dU n (fun b=>if b=k then 0 else if b=i then 0 else f b):=oF fun b _=>by
   by_cases g:b=k
   .simp[g]
   .by_cases h:b=i
    .simp[h]
    .simp[g,h,dO]
  have m:dO i k i=k:=by simp[dO]
  have o:dO i k k=i:=by simp[dO]
  rw[m]at l;rw[o]at d;omega
def Gh(g:Nat->Int)(h:k+j<N):dU (k+1) (fun b=>g (up k (fun _=>j) b))<=dU N g:=by
 have d:=md g h;have a:dU k (fun b=>g (up k (fun _=>j) b))=dU k (fun b=>if b=k+j then 0 else g b):=oF fun b c=>by
  simp only[up,c,aQ];rw[af om]
 have e:=N9 (fun b=>if b=k+j then 0 else g b) (om:k<=N)
 simp only[dU];rw[a,show up k (fun _=>j) k=k+j by simp[up]]
 omega
structure lZ(A:aI)(N:Nat)(σ:Nat->Nat)(k:Nat):Prop where
 lead:∀j,j<=k->det j (fun a b=>A a (σ b))≠0
 abs:∀B:aI,(det N (fun a b=>B a (σ b))).natAbs=(det N B).natAbs
 sum:∀f:Nat->Int,dU N (fun b=>f (σ b))=dU N f
def lZ.init(A:aI)(N:Nat):lZ A N id 0:=⟨fun j a=>by rw[(om:j=0)];simp[det],fun _=>rfl,fun _=>rfl⟩
def lZ.swap{p:Nat}(h:lZ A N σ k)(g:k<=p)(c:p<N):lZ A N (fun a=>σ (dO k p a)) k:=by
 refine⟨fun j d=>?_,fun B=>?_,fun f=>?_⟩
 .have e:det j (fun a b=>A a (σ (dO k p b)))=det j (fun a b=>A a (σ b)):=cD fun a b _ i=>by rw[show dO k p b=b by unfold dO;rw[af om,af om]]
  rw[e];exact h.lead j d
 .by_cases e:k=p
  .subst e;rw[show(fun a b=>B a (σ (dO k k b)))=fun a b=>B a (σ b) by funext a b;rw[show dO k k b=b by unfold dO;split<;>simp_all]]
   exact h.abs B
  .have:=og (fun a b=>B a (σ b)) (om:k<N) c e
   rw[this,Vo];exact h.abs B
 .rw[LI (fun b=>f (σ b)) (om:k<N) c];exact h.sum f
def lZ.step(h:lZ A N σ k)(c:cQ (fun a b=>A a (σ b)) k 0 0≠0):lZ A N σ (k+1) :=
 ⟨fun j e=>by
  rcases aC j (k+1)with d|d
  .exact h.lead j om
  .rw[(om:j=k+1),<-df];exact c,h.abs,h.sum⟩
def vn(n R i:Nat):Nat:=if i<n then i else R
def SA(b:n<=R):up n (fun _=>R-n) a=vn n R a:=by simp only[up,vn];split<;>omega
def Po(c:n<=R):cQ A n (R-n) 0=det (n+1) (fun a b=>A (vn n R a) b):=by
 unfold cQ;refine cD fun a b _ d=>?_;rw[SA c,pa _ _ d]
def lZ.found(h:lZ A (n+1) σ k)(o:k<n)(f:det (n+1) (fun a b=>A (vn n R a) b)≠0):¬∀j,j<n+1-k->cQ (fun a b=>A a (σ b)) k 0 j=0:=by
 intro g;have e:∀m,m<=n->∀B:aI,det m (fun a b=>B (vn n R a) b)=det m B:=fun m p B=>cD fun a b d _=>by rw[show vn n R a=a by unfold vn;rw[ai om]]
 have i:=Di (A:=fun a b=>A (vn n R a) (σ b)) (om:k<n+1) (fun j c=>by rw[e j om (fun a b=>A a (σ b))];exact h.lead j c) (fun j c=>by
  rw[<-g j c];unfold cQ;refine cD fun a b d _=>?_;rw[pa _ _ d];simp only[vn];rw[ai (om:a<n)])
 have l:=h.abs (fun a b=>A (vn n R a) b);rw[i]at l;exact f om
def lZ.last(h:lZ A (n+1) σ k)(c:n<=R):(cQ (fun a b=>A a (σ b)) n (R-n) 0).natAbs=(det (n+1) (fun a b=>A (vn n R a) b)).natAbs:=by
 rw[Po (A:=fun a b=>A a (σ b)) c];exact h.abs (fun a b=>A (vn n R a) b)
theorem NO:∀(n:Nat) (A:aI),(∀i j,i<n->j<n->A i j=if j=i then 1 else 0)->det n A=1
 | 0,_,_=>rfl
 | n+1,A,h=>by
  rw[rU A (fun i a=>by rw[h _ _ om om,af om]),h 0 0 om om,NO n _ (fun i j a b=>by
   rw[h _ _ om om];by_cases e:j=i
   .simp[e]
   .rw[af e,af om])]
  simp
def By(A:aI)(h:∀i,i<n->∀c:Nat->Int,(∀r,r<n->ay n (fun j=>(if r<i then gU r j else A r j)*c j)=0)->c i=0):det n A≠0:=by
 have key:∀m i,i+m=n->det n (fun r j=>if r<i then gU r j else A r j)≠0:=by
  intro m
  induction m with
  | zero =>
   intro i f;rw[NO n _ (fun a b p q=>by rw[ai om];rfl)];decide
  | succ m ih =>
   intro i f g;have k:=ih (i+1) om;refine k ?_;have l:=h i om (fun j=>td n (fun r j=>if r<i then gU r j else A r j) i j) (fun r o=>by
    refine(DB (fun r j=>if r<i then gU r j else A r j) (om:i<n) o).trans ?_
    rw[g];simp)
   rw[<-l];unfold td;refine cD fun a b _ _=>?_;unfold setRow;by_cases e:a=i
   .simp[e]
   .by_cases d:a<i
    .simp[e,d,(om:a<i+1)]
    .simp[e,d,(om:¬a<i+1)]
 have:=key n 0 om;simpa using this

def fG(n:Nat)(M:aI):aI:=fun r j=>if r<n then M r j else if r=n+j then 1 else 0
def Fb(c:Nat->Int){r:Nat}(a:r<n):ay n (fun j=>gU r j*c j)=c r:=by
 rw[dr r a (fun i _ b=>by simp[gU,b])];simp[gU]
def FA(v:p≠0){piv:Nat}(f:piv<n)(q x:Nat->Int):det (n+1) (fun a b=>fG n (Bg n p piv q x) (vn n (n+n) a) b)≠0:=by
 refine By _ fun i w c s=>?_;have rowU:∀r,r<n+1->r<i->c r=0:=fun r l m=>by
  have:=s r l;rw[aE (g:=fun j=>gU r j*c j) (fun j _=>by rw[ai m]),Fb c l]at this
  exact this
 have o:c n=0:=by
  by_cases h:n<i
  .exact rowU n om h
  .have:=s n om;rw[aE (g:=fun j=>gU n j*c j) (fun j _=>by
    rw[af h];simp only[vn,fG,gU];by_cases e:j=n
    .simp[e,(om:¬n+n<n)]
    .simp[e,(om:¬n+n<n),aj e]),Fb c om]at this
   exact this
 have rowM:∀r,r<n->¬r<i->ay n (fun j=>ka p piv q r j*c j)=0:=fun r l m=>by
  have:=s r om;rw[aE (g:=fun j=>Bg n p piv q x r j*c j) (fun j _=>by rw[af m];simp[vn,fG,l]),Dz,o]at this
  omega
 have k:∀r,r<n->r≠piv->c r=0:=fun r l d=>by
  by_cases h:r<i
  .exact rowU r om h
  .have:=rowM r l h;rw[dr r l (fun j _ t=>by
    simp only[ka];by_cases e:j=piv
    .simp[e,d]
    .simp[e,d,aj t])]at this
   simp[ka,d]at this;rcases jI.1 this with h|h
   .exact absurd h v
   .exact h
 have u:c piv=0:=by
  by_cases h:piv<i
  .exact rowU piv om h
  .have:=rowM piv f h;rw[dr piv f (fun j t d=>by rw[k j t d];simp)]at this
   simp[ka]at this;rcases jI.1 this with h|h
   .rcases jI.1 h with h|h<;>exact absurd h v
   .exact h
 rcases aC i n with h|h
 .by_cases e:i=piv
  .rw[e];exact u
  .exact k i h e
 .rw[(om:i=n)];exact o
def qg(h:∀i,i<n->(f i).natAbs<=B):dU n f<=n*B:=by
 induction n with
 | zero=>simp[dU]
 | succ n ih=>have:=ih (fun i a=>h i om);have:=h n om;simp only[dU];rw[cW];omega
def M1{M:aI}(c:n<=8)(a:∀i j,i<n->j<n+1->(M i j).natAbs<=100000000)(r:Nat):dU (n+1) (fG n M r)<=2^30:=by
 have h:=qg (n:=n+1) (f:=fG n M r) (B:=100000000) (fun j b=>by
  unfold fG;split
  .rename_i h;exact a r j h b
  .split<;>simp)
 have d:(n+1)*100000000<=9*100000000:=aB _ om;omega
def DA{piv:Nat}{x:Nat->Int}(b:0<=p)(a:p<=9973)(d:∀j,j<n->0<=q j/\q j<=9972)(e:∀i,i<n->(x i).natAbs<=100000000)(i j:Nat)(f:i<n)(k:j<n+1):(Bg n p piv q x i j).natAbs<=100000000:=by
 unfold Bg;split
 .rename_i h;obtain⟨c,g⟩:=d j h;have l:=cN a a b om;have m:=cN a g c om;have o:=cK b b;have r:=cK b c;unfold ka;split
  .split<;>omega
  .split
   .omega
   .split<;>omega
 .exact e i f
theorem xB(c:Nat):∀k,iX k (fun _=>c)=c^k
 | 0=>rfl
 | k+1=>by simp only[iX];rw[xB c k,cb,aA]
def Ft(k:Nat):iX k (fun _=>2^30)=2^(30*k):=by rw[xB,<-Nat.pow_mul]

def Ny{w M:aI}(f:∀i j,i<n->j<n+1->w i j=M i j)(l:∀x,fy (n+1) (n+1) H x↔fy (n+1) (n+1) w x)(m:∀i,i<n->H i n=0)(y:iB):fy n n H y↔fy n (n+1) M y:=by
 constructor
 .rintro⟨c,h⟩;obtain⟨d,k⟩:=(l (fun i=>ay (n+1) (fun j=>H i j*(if j<n then c j else 0)))).1 ⟨_,fun _ _=>rfl⟩
  refine⟨d,fun i a=>?_⟩;have b:(ay (n+1) fun j=>H i j*(if j<n then c j else 0))=ay (n+1) fun j=>w i j*d j:=k i om
  simp only[ay]at b;rw[aE (g:=fun j=>H i j*c j) (fun j e=>by rw[ai e]),<-h i a,af (cZ n)]at b
  simp only[ay];rw[aE (g:=fun j=>w i j*d j) (fun j e=>by rw[f i j a om]),<-f i n a om]
  omega
 .rintro⟨d,k⟩;obtain⟨c,h⟩:=(l (fun i=>ay (n+1) (fun j=>w i j*d j))).2 ⟨d,fun _ _=>rfl⟩;refine⟨c,fun i a=>?_⟩;have b:(ay (n+1) fun j=>w i j*d j)=ay (n+1) fun j=>H i j*c j:=h i om;rw[k i a];rw[aE (g:=fun j=>M i j*d j) (fun j e=>by rw[f i j a e])]at b
  rw[b];simp only[ay];rw[m i a];simp
def K7{w:aI}(g:1<=N)(n:∀j,j<N->fy N N w (fun i=>H i j)) :
  ∃U:aI,(∀i j,i<N->j<N->mm N w U i j=H i j)/\∀i j,i<N->j<N->mm N (np N w) H i j=det N w*U i j:=by
 have d:∃U:aI,∀i j,i<N->j<N->mm N w U i j=H i j:=by
  have l:∀j,∃c:iB,j<N->∀i,i<N->H i j=ay N (fun k=>w i k*c k):=fun j=>by
   by_cases a:j<N
   .obtain⟨c,d⟩:=n j a;exact⟨c,fun _=>d⟩
   .exact⟨fun _=>0,fun h=>absurd h a⟩
  refine⟨fun k j=>dq (l j) k,fun i j b a=>?_⟩;exact(de (l j) a i b).symm
 obtain⟨U,m⟩:=d;refine⟨U,m,fun i j b a=>?_⟩;rw[rj (A':=np N w) (B':=mm N w U) (fun _ _=>rfl) (fun k e=>(m k j e a).symm),<-nU];unfold mm;rw[dr i b (fun k e f=>by
  have:=rX g w b e;unfold mm at this;rw[this,af (aj f)];simp)]
 have:=rX g w b b;unfold mm at this;rw[this,ai rfl]

def vF:Nat->(Nat->Nat)->Nat
 | 0,_=>0
 | n+1,f=>vF n f+f n*4294967296^n
def jQ{f g:Nat->Nat}(h:∀i,i<n->f i=g i):vF n f=vF n g:=by
 induction n with
 | zero=>rfl
 | succ n ih=>simp only[vF];rw[ih fun i a=>h i om,h n om]
def tF{f:Nat->Nat}(h:∀i,i<n->f i<4294967296):vF n f<4294967296^n:=by
 induction n with
 | zero=>simp[vF]
 | succ n ih =>
  have b:=ih fun i c=>h i om;have a:=aB (4294967296^n) (show f n+1<=4294967296 by have:=h n om;omega)
  simp only[vF,cb];rw[cW]at a;omega
def Fa(n:Nat)(f:Nat->Nat):vF (n+1) f=f 0+4294967296*vF n (fun i=>f (i+1)):=by
 induction n with
 | zero=>simp[vF]
 | succ n ih =>
  rw[show vF (n+1+1) f=vF (n+1) f+f (n+1)*4294967296^(n+1)from rfl,ih];simp only[vF,cb];generalize vF n (fun i=>f (i+1))=a;generalize 4294967296^n=p;rw[cg,show 4294967296*(f (n+1)*p)=f (n+1)*(p*4294967296) by rw[<-bC,aA 4294967296,bC,aA 4294967296]]
  omega
theorem Mu:∀(l:List Nat),aZ l=vF l.length (fun i=>l.getD i 0)
 | []=>rfl
 | x::l=>by
  rw[cq,Fa,aZ,Mu l];rfl
def qW(m k:Nat)(f:Nat->Nat):vF (m+k) f=vF m f+4294967296^m*vF k (fun i=>f (m+i)):=by
 induction k with
 | zero=>simp[vF]
 | succ k ih =>
  rw[<-kW];simp only[vF];rw[ih,cg,fJ,<-bC,aA (f (m+k)),bC,aA (f (m+k)),<-bC];omega
def PR{P:Nat}(j:U=ul+(u2*18446744073709551616+u1*4294967296+u0)*P)(c:ul<P)(d:V=vl+(v1*4294967296+v0)*P)
  (e:g*v1+r=u2*4294967296+u1) (h:r*4294967296+u0<g*v0):U<g*V:=by
 have f:u2*18446744073709551616+u1*4294967296+u0+1<=g*(v1*4294967296+v0):=by
  rw[cg,<-bC];generalize g*v1=a at *;generalize g*v0=b at *;omega
 have i:=aB P f;rw[cW]at i;have k:g*V=g*vl+g*(v1*4294967296+v0)*P:=by rw[d,cg,bC]
 omega
def Nm{P:Nat}(l:U=ul+(u2*18446744073709551616+u1*4294967296+u0)*P)(d:V=vl+(v1*4294967296+v0)*P)(c:vl<P)(f:0<v1)
  (e:g*v1+r=u2*4294967296+u1) (i:g<4294967296) (h:g*v0<=r*4294967296+u0):g*V<U+V:=by
 have j:g*(v1*4294967296+v0)<=u2*18446744073709551616+u1*4294967296+u0:=by
  rw[cg,<-bC];generalize g*v1=a at *;generalize g*v0=b at *;omega
 have m:=aB P j;have n:g*V=g*vl+g*(v1*4294967296+v0)*P:=by rw[d,cg,bC]
 have o:g*vl<=g*P:=aM g (dB c);have p:=aB P (om:4294967296<=v1*4294967296+v0)
 have k:=aB P (show g+1<=4294967296 from i);rw[dM g 1 P,mW]at k;omega
def kn_q(h:g*V<U+V)(b:U<(g+1)*V):(g*V<=U/\U/V=g/\U%V=U-g*V)∨(U<g*V/\0<g/\U/V=g-1/\U%V=U+V-g*V):=by
 have c:0<V:=by
  rcases a6 V with h|h
  .subst h;simp at b
  .exact h
 rw[cW]at b;rcases aC U (g*V)with a|a
 .refine bH ⟨a,?_⟩
  cases g with
  | zero=>simp at a
  | succ g =>
   rw[cW]at *;have e:U=V*g+(U-g*V):=by rw[aA];omega
   refine⟨om,?_,?_⟩
   .rw[e,kO c,eO om];rfl
   .rw[e,mK,dX om,aA V g];omega
 .refine bF ⟨a,?_,?_⟩
  .have e:U=V*g+(U-g*V):=by rw[aA];omega
   rw[e,kO c,eO om];rfl
  .have e:U=V*g+(U-g*V):=by rw[aA];omega
   rw[e,mK,dX om,aA V g];omega
def Np(b:∀i,i<k+2->v i<4294967296)(h:vF (k+3) u<vF (k+2) v*4294967296):u (k+2)<=v (k+1):=by
 have g:=tF (n:=k+1) (f:=v) fun i j=>b i om;have c:vF (k+2) v=vF (k+1) v+v (k+1)*4294967296^(k+1):=rfl;have d:vF (k+3) u=vF (k+2) u+u (k+2)*4294967296^(k+2):=rfl;rw[c,d,cb]at h;generalize 4294967296^(k+1)=p at *;rcases aC (v (k+1)) (u (k+2))with a|a
 .have e:=aB p (show v (k+1)+1<=u (k+2)from a);rw[cW]at e;have l:u (k+2)*(p*4294967296)=u (k+2)*p*4294967296:=(bC _ _ _).symm;omega
 .exact a
def ta(k:Nat)(u:Nat->Nat):vF (k+3) u=vF k u+(u (k+2)*18446744073709551616+u (k+1)*4294967296+u k)*4294967296^k:=by
 simp only[vF,cb];generalize 4294967296^k=p;rw[dM,dM,show u (k+1)*(p*4294967296)=u (k+1)*4294967296*p by rw[aA p,bC],show u (k+2)*(p*4294967296*4294967296)=u (k+2)*18446744073709551616*p by rw[bC p,show(4294967296:Nat)*4294967296=18446744073709551616 from rfl,aA p,<-bC]]
 omega
def sZ(k:Nat)(v:Nat->Nat):vF (k+2) v=vF k v+(v (k+1)*4294967296+v k)*4294967296^k:=by
 simp only[vF,cb];generalize 4294967296^k=p;rw[dM,show v (k+1)*(p*4294967296)=v (k+1)*4294967296*p by rw[aA p,bC]]
 omega
structure KG(k:Nat)(u v:Nat->Nat)(g r:Nat):Prop where
 eq:g*v (k+1)+r=u (k+2)*4294967296+u (k+1)
 le:vF (k+3) u<(g+1)*vF (k+2) v
def KG.init(c:0<v (k+1))(b:∀i,i<k+3->u i<4294967296):KG k u v ((u (k+2)*4294967296+u (k+1))/v (k+1)) ((u (k+2)*4294967296+u (k+1))%v (k+1)):=by
 have e:=dd (u (k+2)*4294967296+u (k+1)) (v (k+1));have j:=dj (u (k+2)*4294967296+u (k+1)) c;rw[aA]at e;refine⟨e,?_⟩;generalize (u (k+2)*4294967296+u (k+1))/v (k+1)=q at *;generalize (u (k+2)*4294967296+u (k+1))%v (k+1)=r at *;rw[ta,sZ];have l:=tF (n:=k) (f:=u) fun i m=>b i om;have o:=b k om;generalize 4294967296^k=p at *;have d:u (k+2)*18446744073709551616+u (k+1)*4294967296+u k+1<=(q+1)*(v (k+1)*4294967296+v k):=by
  have g:(q+1)*(v (k+1)*4294967296)=(q*v (k+1)+v (k+1))*4294967296:=by rw[<-bC,cW]
  rw[cg,g];generalize q*v (k+1)=a at *;have:=jM ((q+1)*v k);omega
 have h:=aB p d;rw[cW]at h;rw[cg,<-bC];omega
def KG.step(h:KG k u v g r)(c:∀i,i<k+3->u i<4294967296)(d:vF (k+3) u<vF (k+2) v*4294967296)(a:4294967296<=g∨r*4294967296+u k<g*v k):0<g/\KG k u v (g-1) (r+v (k+1)):=by
 have b:vF (k+3) u<g*vF (k+2) v:=by
  rcases a with a|a
  .have:=aB (vF (k+2) v) a;rw[aA]at d;omega
  .exact PR (ta k u) (tF fun i e=>c i om) (sZ k v) h.eq a
 cases g with
 | zero=>simp at b
 | succ g =>
  refine⟨om,⟨?_,by simpa using b⟩⟩
  have:=h.eq;rw[cW]at this;simp only[fK];omega
def KG.g_lt(h:KG k u v g r)(b:u (k+2)<=v (k+1))(c:u (k+1)<4294967296)(d:4294967296<=r):g<4294967296:=by
 rcases aC g 4294967296 with a|a
 .exact a
 .have e:=aB (v (k+1)) a;have:=h.eq;omega
def KG.last(h:KG k u v g r)(a:∀i,i<k+2->v i<4294967296)(b:0<v (k+1))(c:g<4294967296)(d:g*v k<=r*4294967296+u k):g*vF (k+2) v<vF (k+3) u+vF (k+2) v :=
 Nm (ta k u) (sZ k v) (tF fun i e=>a i om) b h.eq c d
def KG.big{uk:Nat}(b:v k<4294967296)(c:g<4294967296)(a:4294967296<=r):g*v k<=r*4294967296+uk:=by
 have d:=a9 (om:g<=4294967296) (om:v k<=4294967296)
 have e:=aB 4294967296 a;omega

end Go.Proofs.YtdobfmlmenaajaaGreatDoor
