/-
  Lemmas for NeighbourGram.
-/
import Derived.Test.YtdobfmlmenaajaaGreatDoorG10
namespace Go.Proofs.YtdobfmlmenaajaaGreatDoor
open Go.RowKit Tryz
open _root_.Classical renaming choose→c9
set_option maxHeartbeats 6400000
set_option maxRecDepth 4096
set_option linter.all false
variable{l p x:Int}{B N R U V a b g i j k m n r u0 u1 u2 ul v0 v1 vl:Nat}{M d f q:Nat->Int}{u v w w' σ:Nat->Nat}{A H Q T:aJ}{L L':iz->Prop}
def gk(M:Int)(k:Nat):iz:=fun r=>if r=k then M else 0
structure TL(N:Nat)(L:iz->Prop)(d M:Nat->Int):Prop where
 lat:NA N L
 pos:∀i,i<N->0<d i
 step:∀i,i<N->M i=d i*M (i+1)
 last:M N=1
 dvd:∀x,L x->∀i,i<N->(∀r,r<i->x r=0)->d i∣x i
 unit:∀i k,i<=k->k<N->L (gk (M i) k)
 col:∀i,i<N->∃x,L x/\(∀r,r<i->x r=0)/\x i=d i
def Jl(b:wC N N H){x c:iz}(g:∀r,r<N->x r=az N (fun j=>H r j*c j)):∀i,i<=N->(∀r,r<i->x r=0)->∀j,j<i->c j=0:=by
 intro i
 induction i with
 | zero=>intro _ _ j h;omega
 | succ i ih =>
  intro n d j h;have ih':=ih om (fun r o=>d r om);by_cases e:j=i
  .subst e;have f:=g j om;rw[d j om,da j om (fun k l m=>by
    rcases aA k j with a|a
    .rw[ih' k a];simp
    .rw[(b j om).1 k om l];simp)]at f
   rcases jp.1 f.symm with a|a
   .have:=(b j om).2;omega
   .exact a
  .exact ih' j om
def Lm(b:wC N N H){x c:iz}(d:∀r,r<N->x r=az N (fun j=>H r j*c j)){i:Nat}(a:i<N)(f:∀r,r<i->x r=0):x i=H i i*c i:=by
 have g:=Jl b d i om f;rw[d i a,da i a (fun k h l=>by
  rcases aA k i with e|e
  .rw[g k e];simp
  .rw[(b i a).1 k om h];simp)]
def FH(H:aJ)(N i:Nat):Int:=nd (N-i) (fun r=>H (i+r) (i+r))
def yy(H:aJ){N i:Nat}(a:i<N):FH H N i=H i i*FH H N (i+1):=by
 unfold FH;rw[(om:N-i=(N-(i+1))+1)]
 simp only[nd,cu];congr 2;funext r;rw[(om:i+(r+1)=i+1+r)]
theorem Co(H:aJ){N:Nat}:∀(m i:Nat),i+m<=N->FH H N (i+m)∣FH H N i
 | 0,i,_=>iN _
 | m+1,i,h=>by
  have a:=Co H (N:=N) m (i+1) om;rw[yy H (om:i<N),(om:i+(m+1)=i+1+m)]
  exact cU a
theorem Ea{N:Nat}{H:aJ}(g:wC N N H):∀(m k:Nat),k<N->N-k<=m->eU N N H (gk (FH H N k) k)
 | 0,k,c,p=>om
 | m+1,k,c,p=>by
  have b:=eU.lat N N H;have s:∀r,k<r->r<N->eU N N H (gk (FH H N (k+1)) r):=by
   intro r l d;obtain⟨q,n⟩:=Co H (N:=N) (r-(k+1)) (k+1) om;rw[(om:k+1+(r-(k+1))=r)]at n
   refine b.ext _ _ (b.smul (Ea g m r d om) q) (fun i _=>?_);simp only[gk];split
   .rw[n,cR]
   .simp
  have l:=b.sum (fun r=>if k<r then gk (FH H N (k+1)) r else fun _=>0) (fun r=>- H r k) N (fun r t=>by
   split
   .rename_i h;exact s r h t
   .exact b.zero)
  refine b.ext _ _ (b.comb _ _ (eU.col (j:=k) c) l (FH H N (k+1)) 1) (fun i e=>?_);have d:az N (fun j=>(if k<j then gk (FH H N (k+1)) j else fun _=>0) i*- H j k)=if k<i then FH H N (k+1)*- H i k else 0:=by
   rw[da i e (fun j u f=>by
    by_cases a:k<j
    .simp[a,gk,aj f]
    .simp[a])]
   by_cases a:k<i
   .simp[a,gk]
   .simp[a]
  simp only[d,gk];by_cases a:i=k
  .subst a;rw[af om,ai rfl,yy H e];grind
  .rw[af a];by_cases o:k<i
   .rw[ai o];grind
   .rw[af o,(g i e).1 k om c];simp
def TL.of_tri(b:wC N N H):TL N (eU N N H) (fun i=>H i i) (FH H N):=by
 refine⟨eU.lat N N H,fun i a=>(b i a).2,fun i a=>yy H a,by simp[FH,nd],?_,fun i k e f=>?_,fun i a=>⟨_,eU.col a,fun r g=>(b r om).1 i g a,rfl⟩⟩
 .rintro x ⟨c,h⟩ i a j;exact⟨c i,Lm b h a j⟩
 .obtain⟨q,d⟩:=Co H (N:=N) (k-i) i om;rw[(om:i+(k-i)=k)]at d
  refine(eU.lat N N H).ext _ _ ((eU.lat N N H).smul (Ea b (N-k) k f (ae _)) q) (fun r _=>?_);simp only[gk];split
  .rw[d,cR]
  .simp
def TL.congr(h:TL N L d M)(c:NA N L')(e:∀x,L' x↔L x):TL N L' d M :=
 ⟨c,h.pos,h.step,h.last,fun x f=>h.dvd x ((e x).1 f),fun i k a b=>(e _).2 (h.unit i k a b),fun i g=>by obtain⟨x,a,b⟩:=h.col i g;exact⟨x,(e x).2 a,b⟩⟩
def TL.of_det{w:aJ}(c:det N w≠0):∃d M,TL N (eU N N w) d M/\M 0=((det N w).natAbs:Int):=by
 obtain⟨H,a,b⟩:=F4 w c;refine⟨_,_,(TL.of_tri b).congr (eU.lat N N w) a.1,?_⟩;rw[Ll a b];simp[FH]
def TL.M_pos(h:TL N L d M):∀m i,N-i<=m->i<=N->0<M i
 | 0,i,a,b=>by rw[(om:i=N),h.last];omega
 | m+1,i,a,b=>by
  by_cases e:i=N
  .rw[e,h.last];omega
  .rw[h.step i om];exact ou (h.pos i om) (h.M_pos m (i+1) om om)
structure HI(N:Nat)(L:iz->Prop)(d M:Nat->Int)(i:Nat)(C:Nat->iz):Prop where
 mem:∀j,j<N->L (C j)
 zero:∀j,i<=j->j<N->∀r,r<i->C j r=0
 gen:∀x,L x->(∀r,r<i->x r=0)->∃t z:iz,∀r,i<=r->r<N->x r=az N (fun j=>if i<=j then C j r*t j else 0)+M i*z r
 done:∀j,j<i->(∀r,r<j->C j r=0)/\C j j=d j/\∀r,j<r->r<i->0<=C j r/\C j r<d r
def HI.init{w:aJ}:HI N (eU N N w) d M 0 (fun j r=>w r j):=by
 refine⟨fun j a=>eU.col a,fun j _ _ r b=>om,fun x e _=>?_,fun j a=>om⟩
 obtain⟨c,f⟩:=e;exact⟨c,fun _=>0,fun r _ b=>by rw[f r b];simp⟩
def HI.red(f:TL N L d M){i:Nat}{C C':Nat->iz}(h:HI N L d M i C)(y:i<=N)(q:Nat->iz)(o:∀j r,j<N->r<N->C' j r=C j r+(if i<=r then M i*q j r else 0)):HI N L d M i C':=by
 have lo:∀j r,j<N->r<i->C' j r=C j r:=fun j r b a=>by rw[o j r b om,af om];omega
 refine⟨fun j b=>?_,fun j g n r a=>by rw[lo j r n a];exact h.zero j g n r a,fun x v w=>?_,fun j b=>?_⟩
 .have g:=f.lat.sum (fun r=>if i<=r then gk (M i) r else fun _=>0) (q j) N (fun r a=>by
   split
   .rename_i c;exact f.unit i r c a
   .exact f.lat.zero)
  refine f.lat.ext _ _ (f.lat.add (h.mem j b) g) (fun r a=>?_);rw[o j r b a,da r a (fun k A p=>by
   by_cases c:i<=k
   .simp[c,gk,aj p]
   .simp[c])]
  by_cases c:i<=r
  .simp[c,gk]
  .simp[c]
 .obtain⟨t,z,s⟩:=h.gen x v w;refine⟨t,fun r=>z r-az N (fun j=>if i<=j then q j r*t j else 0),fun r a l=>?_⟩
  rw[s r a l];have e:az N (fun j=>if i<=j then C' j r*t j else 0)=az N (fun j=>if i<=j then C j r*t j else 0)+M i*az N (fun j=>if i<=j then q j r*t j else 0):=by
   rw[<-du,<-eP];refine aF fun j b=>?_;split
   .rw[o j r b l,ai a];grind
   .simp
  rw[e];grind
 .obtain⟨g,n,c⟩:=h.done j b;refine⟨fun r a=>by rw[lo j r om om];exact g r a,by rw[lo j j om b];exact n,fun r u m=>by rw[lo j r om m];exact c r u m⟩
def yA(g:i<n)(l:j<n)(c:i≠j)(h:∀k,k<n->k≠i->k≠j->f k=0):az n f=f i+f j:=by
 have e:az n f=az n (fun k=>(if k=i then f i else 0)+(if k=j then f j else 0)):=aF fun k a=>by
  by_cases b:k=i
  .subst b;simp[c]
  .by_cases d:k=j
   .subst d;simp[b]
   .simp[b,d,h k a b d]
 rw[e,eP,da i g (fun k _ a=>by simp[a]),da j l (fun k _ a=>by simp[a])]
 simp
def HI.comb(o:TL N L d M){i j:Nat}{C C':Nat->iz}(h:HI N L d M i C)(H:i<j)(s:j<N){a b x y:Int}(F:a*x+b*y=1)
  (u:∀r,r<N->C' i r=a*C i r+b*C j r) (w:∀r,r<N->C' j r=x*C j r-y*C i r) (q:∀k r,k<N->r<N->k≠i->k≠j->C' k r=C k r):HI N L d M i C':=by
 have n:i<N:=om
 refine⟨fun k g=>?_,fun k A p r c=>?_,fun v I J=>?_,fun k g=>?_⟩
 .by_cases l:k=i
  .subst l;exact o.lat.ext _ _ (o.lat.comb _ _ (h.mem k g) (h.mem j s) a b) (fun r c=>(u r c).symm)
  .by_cases m:k=j
   .subst m;exact o.lat.ext _ _ (o.lat.comb _ _ (h.mem k g) (h.mem i n) x (-y)) (fun r c=>by rw[w r c];grind)
   .exact o.lat.ext _ _ (h.mem k g) (fun r c=>(q k r g c l m).symm)
 .have G:=h.zero i (ae _) n r c;have z2:=h.zero j om s r c;by_cases l:k=i
  .subst l;rw[u r om,G,z2];simp
  .by_cases m:k=j
   .subst m;rw[w r om,G,z2];simp
   .rw[q k r p om l m];exact h.zero k A p r c
 .obtain⟨t,z,B⟩:=h.gen v I J;refine⟨fun k=>if k=i then x*t i+y*t j else if k=j then a*t j-b*t i else t k,z,fun r c f=>?_⟩
  rw[B r c f];congr 1;have e:az N (fun k=>(if i<=k then C' k r*(if k=i then x*t i+y*t j else if k=j then a*t j-b*t i else t k)else 0)+(-1)*(if i<=k then C k r*t k else 0))=0:=by
   rw[yA n s om (fun k g l m=>by
    simp only[l,m,aP];split
    .rw[q k r g f l m];omega
    .simp)]
   simp only[ae,aO,(om:i<=j),(om:j≠i),aP]
   rw[u r f,w r f];have:C i r*t i=(a*x+b*y)*(C i r*t i):=by rw[F];omega
   have:C j r*t j=(a*x+b*y)*(C j r*t j):=by rw[F];omega
   grind
  rw[eP,du]at e;show _=az N (fun k=>if i<=k then C' k r*(if k=i then x*t i+y*t j else if k=j then a*t j-b*t i else t k)else 0)
  omega
 .obtain⟨K,O,P⟩:=h.done k g;have e:∀r,r<N->C' k r=C k r:=fun r c=>q k r om c om om;exact⟨fun r c=>by rw[e r om];exact K r c,by rw[e k om];exact O,fun r D E=>by rw[e r om];exact P r D E⟩
def HI.pivot_eq(e:TL N L d M){i:Nat}{C:Nat->iz}(h:HI N L d M i C)(c:i<N)(k:∀j,i<j->j<N->C j i=0){p a b:Int}(l:0<p)(m:p=a*C i i+b*M i)(n:p∣C i i)(o:p∣M i):p=d i:=by
 have q:d i∣p:=by
  rw[m];exact jz (cU (e.dvd _ (h.mem i c) i c (h.zero i (ae _) c))) (cU ⟨M (i+1),e.step i c⟩)
 have r:p∣d i:=by
  obtain⟨x,s,u,v⟩:=e.col i c;obtain⟨t,z,f⟩:=h.gen x s u;have g:=f i (ae _) c;rw[v,da i c (fun j w y=>by
   split
   .rw[k j om w];simp
   .rfl)]at g
  simp only[ae,aO]at g;rw[g];exact jz (eC n) (eC o)
 exact Tu (co l) (co (e.pos i c)) r q
def HI.pivot(k:TL N L d M){i:Nat}{C C':Nat->iz}(h:HI N L d M i C)(f:i<N)(B:∀j,i<j->j<N->C j i=0){p a b:Int}(S:0<p)(D:p=a*C i i+b*M i)(K:p∣C i i)(T:p∣M i)(q:iz)
  (E:∀r,r<N->C' i r=if r=i then p else a*C i r) (y:∀j r,j<i->r<N->C' j r=C j r-q j*C' i r) (F:∀j r,i<j->j<N->r<N->C' j r=C j r) (U:∀j,j<i->0<=C' j i/\C' j i<p) :
  HI N L d M (i+1) C':=by
 have m:=h.pivot_eq k f B S D K T;have V:=h.zero i (ae _) f;have g:∀r,r<i->C' i r=0:=fun r c=>by rw[E r om,af om,V r c];simp
 have o:L (C' i):=k.lat.ext _ _ (k.lat.comb _ _ (h.mem i f) (k.unit i i (ae _) f) a b) (fun r c=>by
  rw[E r c];simp only[gk];by_cases e:r=i
  .subst e;simp[D]
  .simp[e])
 refine⟨fun j l=>?_,fun j W n r c=>?_,fun x X O=>?_,fun j l=>?_⟩
 .rcases aA j i with P|P
  .exact k.lat.ext _ _ (k.lat.comb _ _ (h.mem j l) o 1 (- q j)) (fun r c=>by rw[y j r P c];grind)
  .by_cases e:j=i
   .subst e;exact o
   .exact k.lat.ext _ _ (h.mem j l) (fun r c=>(F j r om l c).symm)
 .rw[F j r om n om];by_cases e:r=i
  .subst e;exact B j om n
  .exact h.zero j om n r om
 .obtain⟨t,z,s⟩:=h.gen x X (fun r c=>O r om);have G:=s i (ae _) f;rw[O i om,da i f (fun j l H=>by
   split
   .rw[B j om l];simp
   .rfl)]at G
  simp only[ae,aO]at G;obtain⟨u,Q⟩:=K;have A:=k.step i f;rw[<-m]at A;have I:a*u+b*M (i+1)=1:=by
   rw[Q,A]at D;refine dF (om:p≠0) ?_
   grind
  have Y:u*t i+M (i+1)*z i=0:=by
   rw[Q,A]at G;refine dF (om:p≠0) ?_
   grind
  have Z:t i=M (i+1)*(b*t i-a*z i):=by
   have:t i=(a*u+b*M (i+1))*t i:=by rw[I];omega
   have:a*(u*t i+M (i+1)*z i)=0:=by rw[Y];omega
   grind
  refine⟨t,fun r=>C i r*(b*t i-a*z i)+p*z r,fun r c v=>?_⟩;rw[s r om v,A];have e:az N (fun j=>(if i<=j then C j r*t j else 0)+(-1)*(if i+1<=j then C' j r*t j else 0))=C i r*t i:=by
   rw[da i f (fun j l H=>?_)]
   .rw[ai (ae _),af om];omega
   .by_cases R:i<=j
    .rw[ai R,ai om,F j r om l v];omega
    .rw[af R,af om];omega
  rw[eP,du]at e;have h10:C i r*t i=M (i+1)*(C i r*(b*t i-a*z i)):=by
   have:C i r*t i=C i r*(M (i+1)*(b*t i-a*z i)):=by rw[<-Z]
   grind
  grind
 .by_cases e:j=i
  .subst e;exact⟨g,by rw[E j f,ai rfl,m],fun r w J=>om⟩
  .obtain⟨g1,g2,g3⟩:=h.done j om;refine⟨fun r c=>by rw[y j r om om,g1 r c,g r om];simp,by rw[y j j om om,g2,g j om];simp,fun r w J=>?_⟩
   by_cases e':r=i
   .subst e';rw[<-m];exact U j om
   .rw[y j r om om,g r om];have:=g3 r w om;simpa using this
def HI.span(c:TL N L d M){C:Nat->iz}(h:HI N L d M N C)(x:iz):eU N N (fun r j=>C j r) x↔L x:=by
 constructor
 .exact eU.sub c.lat (fun j f=>c.lat.ext _ _ (h.mem j f) (fun _ _=>rfl))
 .intro m;have g:=eU.lat N N (fun r j=>C j r);have key:∀i,i<=N->∃y,eU N N (fun r j=>C j r) y/\∀r,r<i->y r=x r:=by
   intro i
   induction i with
   | zero=>intro _;exact⟨_,g.zero,fun r k=>om⟩
   | succ i ih =>
    intro p;obtain⟨y,a,b⟩:=ih om;have l:L y:=eU.sub c.lat (fun j f=>c.lat.ext _ _ (h.mem j f) (fun _ _=>rfl)) a;obtain⟨q,s⟩:=c.dvd (fun r=>1*x r+(-1)*y r) (c.lat.comb _ _ m l 1 (-1)) i om (fun r k=>by simp only[b r k];omega)
    refine⟨fun r=>1*y r+q*C i r,g.comb _ _ a (eU.col (j:=i) om) 1 q,fun r k=>?_⟩;obtain⟨n,o,_⟩:=h.done i om;by_cases e:r=i
    .subst e;simp only;rw[o];grind
    .simp only;rw[n r om,b r om];omega
  obtain⟨y,a,b⟩:=key N (ae _);exact g.ext _ _ a b

def jM(p:Int)(piv:Nat)(q:Nat->Int):aJ:=fun i j=>if j=piv then(if i=piv then p*p else 0)else if i=j then p else if i=piv then-(p*q j)else 0
def Ae(n:Nat)(p:Int)(piv:Nat)(q x:Nat->Int):aJ:=fun i j=>if j<n then jM p piv q i j else x i
def NX{piv:Nat}(w:Nat->Int)(a:piv<n){j:Nat}(b:j<n):az n (fun i=>w i*jM p piv q i j)=if j=piv then w piv*(p*p)else w j*p-w piv*(p*q j):=by
 by_cases e:j=piv
 .subst e;rw[da j b (fun i _ c=>by simp[jM,c])];simp[jM]
 .rw[yA b a e (fun i _ d f=>by simp[jM,e,d,f]),af e]
  simp[jM,e,aj e];grind
def NW{piv:Nat}(i j:Nat):p∣jM p piv q i j:=by
 unfold jM;split
 .split
  .exact⟨p,rfl⟩
  .exact iM _
 .split
  .exact iN _
  .split
   .exact⟨- q j,by grind⟩
   .exact iM _
def CJ{piv:Nat}{x:Nat->Int}(i:Nat)(c:Nat->Int):az (n+1) (fun j=>Ae n p piv q x i j*c j)=az n (fun j=>jM p piv q i j*c j)+x i*c n:=by
 simp only[az];rw[aF (g:=fun j=>jM p piv q i j*c j) (fun j a=>by simp[Ae,a])]
 simp[Ae]
def iH:Nat->(Nat->Nat)->Nat
 | 0,_=>1
 | n+1,f=>f 0*iH n (fun i=>f (i+1))
def rW{f g:Nat->Nat}(h:∀i,i<n->f i<=g i):iH n f<=iH n g:=by
 induction n generalizing f g with
 | zero=>exact ae _
 | succ n ih=>simp only[iH];exact bs (h 0 om) (ih fun i a=>h (i+1) om)
def Bh(n:Nat)(f:Nat->Int):(az n f).natAbs<=dK n f:=by
 induction n with
 | zero=>simp[az,dK]
 | succ n ih=>simp only[az,dK];omega
def G1(f:Nat->Int){j:Nat}(b:j<n+1):dK n (fun k=>f (skip j k))+(f j).natAbs=dK (n+1) f:=by
 induction n with
 | zero=>rw[(om:j=0)];simp[dK]
 | succ n ih =>
  by_cases e:j=n+1
  .subst e;rw[show dK (n+1) (fun k=>f (skip (n+1) k))=dK (n+1) f from ?_]
   .simp only[dK]
   .have key:∀m,m<=n+1->dK m (fun k=>f (skip (n+1) k))=dK m f:=by
     intro m
     induction m with
     | zero=>intro _;rfl
     | succ m a=>intro c;simp only[dK];rw[a om];simp[skip,(om:m<n+1)]
    exact key _ (ae _)
  .have:=ih om;simp only[dK]at this ⊢;rw[show skip j n=n+1 by simp[skip];omega]
   omega
theorem C6:∀(n:Nat) (A:aJ),(det n A).natAbs<=iH n (fun i=>dK n (A i))
 | 0,_=>by simp[det,iH]
 | n+1,A=>by
  simp only[det,iH];have key:∀m,m<=n+1->(az m (fun j=>vX j*A 0 j*det n (cut A j))).natAbs<=dK m (A 0)*iH n (fun i=>dK (n+1) (A (i+1))):=by
   intro m
   induction m with
   | zero=>intro _;simp[az]
   | succ m ih =>
    intro c;have d:=ih om;rw[show dK (m+1) (A 0)=dK m (A 0)+(A 0 m).natAbs from rfl];simp only[az];rw[dE];have e:(vX m*A 0 m*det n (cut A m)).natAbs=(A 0 m).natAbs*(det n (cut A m)).natAbs:=by
     rw[cY,cY];have:(vX m).natAbs=1:=by unfold vX;split<;>rfl
     rw[this,mA]
    have a:=C6 n (cut A m);have b:iH n (fun i=>dK n (cut A m i))<=iH n (fun i=>dK (n+1) (A (i+1))):=rW fun i _=>by
     have:=G1 (A (i+1)) (om:m<n+1)
     show dK n (fun k=>A (i+1) (skip m k))<=_;omega
    have f:=aL (A 0 m).natAbs (bU a b);omega
  exact key _ (ae _)

theorem TL.uniq{N:Nat}{L:iz->Prop}{d M d' M':Nat->Int}(h:TL N L d M)(h':TL N L d' M'):∀m i,N-i<=m->i<=N->M i=M' i
 | 0,i,j,k=>by rw[(om:i=N),h.last,h'.last]
 | m+1,i,j,k=>by
  by_cases e:i=N
  .rw[e,h.last,h'.last]
  .rw[h.step i om,h'.step i om,TL.uniq h h' m (i+1) om om];have a:d i∣d' i:=by
    obtain⟨x,c,f,g⟩:=h'.col i om;rw[<-g];exact h.dvd x c i om f
   have b:d' i∣d i:=by
    obtain⟨x,c,f,g⟩:=h.col i om;rw[<-g];exact h'.dvd x c i om f
   rw[Tu (co (h.pos i om)) (co (h'.pos i om)) a b]
def Lr(A:p≠0){piv:Nat}(d:piv<n){w q:Nat->Int}{inv:Int}(h:p∣inv*w piv-1)(o:∀j,j<n->j≠piv->p∣q j*w piv-w j)(y:iz) :
  eU n n (jM p piv q) y↔∃a:iz,(∀i,i<n->y i=p*a i)/\p∣az n (fun i=>w i*a i):=by
 constructor
 .rintro⟨c,v⟩;have x:∀i,i<n->y i=p*(y i/p):=fun i b=>by
   rw[ir];rw[v i b];exact i7 fun j _=>eC (NW _ _)
  refine⟨fun i=>y i/p,x,?_⟩;have B:p*az n (fun i=>w i*(y i/p))=az n (fun j=>c j*az n (fun i=>w i*jM p piv q i j)):=by
   rw[<-du,aF (g:=fun i=>az n (fun j=>c j*(w i*jM p piv q i j))) (fun i b=>by
    have C:=x i b;rw[show p*(w i*(y i/p))=w i*(p*(y i/p)) by grind,<-C,v i b,<-du]
    exact aF fun j _=>by grind),pc]
   exact aF fun j _=>by rw[du]
  have D:p*p∣az n (fun j=>c j*az n (fun i=>w i*jM p piv q i j)):=i7 fun j f=>by
   refine cU ?_;rw[NX w d f];split
   .exact⟨w piv,by grind⟩
   .rename_i e;obtain⟨t,E⟩:=o j f e;exact⟨- t,by
     have:w j=q j*w piv-p*t:=om
     rw[this];grind⟩
  obtain⟨u,k⟩:=D;exact⟨u,dF A (by rw[B,k,iT])⟩
 .rintro⟨a,F,s,G⟩;obtain⟨Q,z⟩:∃Q,Q=az n (fun j=>if j=piv then 0 else q j*a j):=⟨_,rfl⟩
  have H:p∣w piv*(a piv+Q):=by
   have e:w piv*(a piv+Q)=az n (fun i=>w i*a i)+az n (fun j=>if j=piv then 0 else(q j*w piv-w j)*a j):=by
    rw[z,SQ,<-du,<-eP];have I:w piv*a piv=az n (fun j=>if j=piv then w j*a j else 0):=by
     rw[da piv d (fun i _ b=>by rw[af b])];simp
    rw[I,<-eP];exact aF fun j _=>by
     by_cases e:j=piv
     .simp[e]
     .simp[e];grind
   rw[e,G];refine jz ⟨s,rfl⟩ (i7 fun j f=>?_);split
   .exact iM _
   .exact eC (o j f (by assumption))
  obtain⟨r,J⟩:p∣a piv+Q:=by
   obtain⟨u,k⟩:=H;obtain⟨t,E⟩:=h;refine⟨inv*u-t*(a piv+Q),?_⟩;have e:inv*(w piv*(a piv+Q))=inv*(p*u):=by rw[k]
   have l:inv*w piv=1+p*t:=om
   grind
  refine⟨fun j=>if j=piv then r else a j,fun i b=>?_⟩
  rw[F i b];by_cases e:i=piv
  .subst e;rw[aF (g:=fun j=>(if j=i then p*p*r else 0)+(- p)*(if j=i then 0 else q j*a j)) (fun j f=>by
    by_cases e:j=i
    .subst e;simp[jM]
    .simp[jM,e,aj e];grind),eP,du,<-z,da i b (fun j _ f=>by rw[af f])]
   simp only[aO];have:Q=p*r-a i:=om
   rw[this];grind
  .rw[da i b (fun j f m=>by
    by_cases l:j=piv
    .simp[jM,l,e]
    .simp[jM,l,e,aj m])]
   simp[jM,e]
def ND(n:Nat)(p:Int)(w x y:iz):Prop:=∃(c:Int) (a:iz),(∀i,i<n->y i=c*x i+p*a i)/\p∣az n (fun i=>w i*a i)
def Iy(o:p≠0){piv:Nat}(b:piv<n){w x q:Nat->Int}{inv:Int}(e:p∣inv*w piv-1)(r:∀j,j<n->j≠piv->p∣q j*w piv-w j)(y:iz) :
  eU n (n+1) (Ae n p piv q x) y↔ND n p w x y:=by
 have m:=Lr o b e r;constructor
 .rintro⟨c,s⟩;obtain⟨a,h,k⟩:=(m (fun i=>az n fun j=>jM p piv q i j*c j)).1 ⟨c,fun _ _=>rfl⟩;exact⟨c n,a,fun i f=>by rw[s i f,CJ,h i f];grind,k⟩
 .rintro⟨c,a,h,k⟩;obtain⟨d,t⟩:=(m (fun i=>p*a i)).2 ⟨a,fun _ _=>rfl,k⟩;refine⟨fun j=>if j=n then c else d j,fun i f=>?_⟩
  have g:=t i f;dsimp only at g;have l:az n (fun j=>jM p piv q i j*(if j=n then c else d j))=az n (fun j=>jM p piv q i j*d j):=aF fun j u=>by rw[af om]
  rw[CJ,h i f,g,l];simp only[aO];grind
def Lq(w a b:iz)(k:Int):az n (fun i=>w i*(a i+k*b i))=az n (fun i=>w i*a i)+k*az n (fun i=>w i*b i):=by
 rw[<-du,<-eP];exact aF fun i _=>by grind
def mg(n:Nat)(H:aJ)(u v:iz):Int:=az n fun i=>(az n fun j=>H i j*v j)*u i
def pR(H:aJ)(c d:Int)(u u' v:iz):mg n H (fun i=>c*u i+d*u' i) v=c*mg n H u v+d*mg n H u' v:=by
 unfold mg;rw[<-oH];exact aF fun i _=>by grind
def kK(c:∀a b,a<n->b<n->H a b=H b a)(u v:iz):mg n H u v=mg n H v u:=by
 unfold mg;rw[aF (g:=fun i=>az n fun j=>H i j*v j*u i) (fun i _=>by rw[cR,<-du];exact aF fun j _=>by grind),pc]
 refine aF fun j d=>?_;rw[cR _ (v j),<-du];exact aF fun i e=>by rw[c i j e d];grind
def vg{u u' v v':iz}(h:∀i,i<n->u i=u' i)(k:∀i,i<n->v i=v' i):mg n H u v=mg n H u' v' :=
 aF fun i a=>by rw[h i a,aF fun j b=>by rw[k j b]]
def IX{w x:iz}(b:∀i,i<n->p∣(az n fun j=>H i j*x j)-w i){a:iz}(c:p∣az n (fun i=>w i*a i)):p∣mg n H a x:=by
 have e:mg n H a x=az n (fun i=>w i*a i)+az n (fun i=>((az n fun j=>H i j*x j)-w i)*a i):=by
  rw[<-eP];exact aF fun i _=>by grind
 rw[e];exact jz c (i7 fun i d=>eC (b i d))
def EM(e:∀a b,a<n->b<n->H a b=H b a){p:Int}{w x:iz}(f:∀i,i<n->p∣(az n fun j=>H i j*x j)-w i)(g:p*p∣mg n H x x){y z:iz}(h:ND n p w x y)(k:ND n p w x z):p*p∣mg n H y z:=by
 obtain⟨c,a,l,m⟩:=h;obtain⟨d,b,o,q⟩:=k;rw[vg l o,pR,kK e x,kK e a,pR,pR,kK e x a];obtain⟨r,u⟩:=g;obtain⟨s,v⟩:=IX f m;obtain⟨t,A⟩:=IX f q;rw[u,v,A];exact⟨c*d*r+c*t+d*s+mg n H b a,by grind⟩
def CV(n:Nat)(H B:aJ)(i j:Nat):mm n (mm n (fun i j=>B j i) H) B i j=mg n H (fun r=>B r i) (fun r=>B r j):=by
 rw[oN];unfold mm mg;exact aF fun k _=>by rw[cR]
def Ff{piv:Nat}(a:piv<n)(v:iz):mg n H (gD piv) v=az n fun j=>H piv j*v j:=by
 unfold mg;rw[da piv a (fun i _ b=>by simp[gD,b])];simp[gD]
def BB{piv:Nat}(f:∀a b,a<n->b<n->H a b=H b a)(e:piv<n){p:Int}(J:0<p){v:iz}{sl iv N t:Int}(l:(az n fun j=>H piv j*v j)%p=sl)(o:(2*sl%p*iv)%p=1)(u:mg n H v v%(p*p)=N)(A:mg n H v v%p=0)(B:(p-N/p)*iv%p=t) :
  p*p∣mg n H (fun k=>if k=piv then v k+p*t else v k) (fun k=>if k=piv then v k+p*t else v k):=by
 have ex:∀k,(if k=piv then v k+p*t else v k)=1*v k+(p*t)*gD piv k:=fun k=>by
  unfold gD;split<;>simp
 rw[vg (fun k _=>ex k) (fun k _=>ex k),pR,kK f v,kK f (gD piv) (fun i=>1*v i+p*t*gD piv i),pR,pR,kK f v (gD piv),Ff e v];generalize mg n H (gD piv) (gD piv)=h;generalize mg n H v v=b at *;generalize (az n fun j=>H piv j*v j)=z at *;have q:=di b (p*p);have w:=di z p;have C:=di (2*sl) p;have x:=di (2*sl%p*iv) p;have D:=di ((p-N/p)*iv) p;have E:p*(N/p)=N:=ir (by
  have:p∣b:=dU A;obtain⟨c,K⟩:=this;exact⟨c-p*(b/(p*p)),by rw[u]at q;grind⟩)
 rw[u]at q;rw[l]at w;rw[o]at x;rw[B]at D;generalize b/(p*p)=r at *;generalize z/p=s at *;generalize 2*sl/p=a at *;generalize 2*sl%p=y at *;generalize y*iv/p=d at *;generalize N/p=k at *;generalize (p-k)*iv/p=c at *;refine⟨r+(1+(p-k)*d+a*((p-k)*iv)-2*sl*c)+2*t*s+t*t*h,?_⟩;have F:2*sl*t=- k+p*(1+(p-k)*d+a*((p-k)*iv)-2*sl*c):=by
  have G:t=(p-k)*iv-p*c:=om
  have I:2*sl*((p-k)*iv)=(p-k)*(y*iv)+p*(a*((p-k)*iv)):=by rw[<-C];grind
  rw[G,rf,I,<-x];grind
 have g:p*k+p*(2*sl*t)=p*(p*(1+(p-k)*d+a*((p-k)*iv)-2*sl*c)):=by rw[F];grind
 rw[<-w,<-q,<-E];generalize 1+(p-k)*d+a*((p-k)*iv)-2*sl*c=m at *
 grind

def FI(A:aJ)(n k:Nat)(x:iz):Int:=az (n-k) fun i=>(az (n-k) fun j=>cM A k i j*x (k+j))*x (k+i)
def Pd.qSt_step(h:Pd A n)(u:n=k+(m+1))(x:iz):det k A*FI A n (k+1) x<=det (k+1) A*FI A n k x:=by
 have e:∀i j,i<m->j<m->det (k+1) A*cM A k (i+1) (j+1)=det k A*cM A (k+1) i j+cM A k (i+1) 0*cM A k (j+1) 0:=fun i j c a=>h.stg_rec2 om om;have f:∀j,j<m->cM A k 0 (j+1)=cM A k (j+1) 0:=fun j a=>h.stg_sym k 0 (j+1) om om;have g:n-k=m+1:=om
 have l:n-(k+1)=m:=om
 obtain⟨L,b⟩:∃L,L=az m (fun j=>cM A k (j+1) 0*x (k+(j+1))):=⟨_,rfl⟩;obtain⟨Q,d⟩:∃Q,Q=az m (fun i=>(az m fun j=>cM A k (i+1) (j+1)*x (k+(j+1)))*x (k+(i+1))):=⟨_,rfl⟩;have o:FI A n k x=det (k+1) A*x k*x k+L*x k+(x k*L+Q):=by
  unfold FI;rw[g,kU];have p:(az (m+1) fun j=>cM A k 0 j*x (k+j))=det (k+1) A*x k+L:=by
   rw[kU,c8,b];congr 1;exact aF fun j a=>by rw[f j a]
  have q:az m (fun i=>(az (m+1) fun j=>cM A k (i+1) j*x (k+j))*x (k+(i+1)))=x k*L+Q:=by
   rw[b,d,<-du,<-eP];refine aF fun i _=>?_;rw[kU,cu]
   grind
  rw[p,q,Hk];rfl
 have r:det (k+1) A*Q=det k A*FI A n (k+1) x+L*L:=by
  unfold FI;rw[l,d,<-du,<-du];have s:L*L=az m (fun i=>L*(cM A k (i+1) 0*x (k+(i+1)))):=by rw[du,<-b]
  rw[s,<-eP];refine aF fun i c=>?_;have v:det (k+1) A*(az m fun j=>cM A k (i+1) (j+1)*x (k+(j+1)))=det k A*(az m fun j=>cM A (k+1) i j*x (k+1+j))+cM A k (i+1) 0*L:=by
   rw[b,<-du,<-du,<-du,<-eP];refine aF fun j a=>?_;have:=e i j c a;rw[(om:k+1+j=k+(j+1))]
   grind
  rw[(om:k+1+i=k+(i+1))]
  grind
 have t:=kV (det (k+1) A*x k+L);have w:det (k+1) A*FI A n k x=(det (k+1) A*x k+L)*(det (k+1) A*x k+L)+det k A*FI A n (k+1) x:=by
  rw[o];grind
 omega
def Pd.qSt_le(h:Pd A n)(x:iz):∀k,k<n->FI A n k x<=det k A*FI A n 0 x
 | 0,_=>by simp[det]
 | k+1,d=>by
  have ih:=h.qSt_le x k om;have f:=h.qSt_step (k:=k) (m:=n-k-1) om x;have c:=h.pos k om;have b:=h.pos (k+1) om;have g:=cc ih (co b);refine jh (a:=det k A) ?_ c;have e:det k A*(det (k+1) A*FI A n 0 x)=det (k+1) A*(det k A*FI A n 0 x):=by grind
  omega
def LE(A:aJ)(n:Nat)(x:iz):FI A n 0 x=mg n A x x:=by
 unfold FI mg;simp only[ie,aB,eO]
def Pd.last_sq(h:Pd A (n+1))(x:iz):x n*x n<=det n A*mg (n+1) A x x:=by
 have a:=h.qSt_le x n om;rw[LE]at a;have e:FI A (n+1) n x=det (n+1) A*x n*x n:=by
  unfold FI;rw[(om:n+1-n=1)]
  simp[az,c8]
 rw[e]at a;have b:=h.pos (n+1) om;have:=cq (om:1<=det (n+1) A) (kV (x n))
 have c:det (n+1) A*x n*x n=det (n+1) A*(x n*x n):=by grind
 omega
def Pd.det_le(h:Pd A n){E:Int}(a:∀i,i<n->A i i<=E):∀k,k<=n->det k A<=E^k
 | 0,_=>by simp[det]
 | k+1,c=>by
  have d:=h.hadamard (k:=k) om;have b:=a k om;have e:=cB (h.det_le a k om) b (co (h.diag om)) (by have:=h.pos k om;have:=h.det_le a k om;omega)
  rw[fY];omega
def Bf(b:i+1<n)(f:Nat->Int):az n (fun a=>f (dG i (i+1) a))=az n f:=by
 have h:=Be (n:=n) (f:=fun a=>f (dG i (i+1) a)-f a) i b (fun a _ c d=>by
  have:dG i (i+1) a=a:=by unfold dG;rw[af c,af d]
  rw[this];omega)
 rw[kT]at h;have e:dG i (i+1) i=i+1:=by unfold dG;rw[ai rfl]
 have g:dG i (i+1) (i+1)=i:=by unfold dG;rw[af om,ai rfl]
 rw[e,g]at h;omega
theorem Pd.coord{n:Nat}{E:Int}:∀(m:Nat) {A:aJ} (x:iz) (j:Nat),Pd A (n+1)->(∀i,i<n+1->A i i<=E)->j+m=n->x j*x j<=E^n*mg (n+1) A x x
 | 0,A,x,j,h,d,k=>by
  obtain rfl:j=n:=om
  have c:=h.last_sq x;have l:=h.det_le d j om;have o:0<=mg (j+1) A x x:=by
   have p:=h.pos j om;have:=kV (x j);rcases pU (mg (j+1) A x x) 0 with e|e
   .have:=Int.mul_neg_of_pos_of_neg p e;omega
   .exact e
  have:=cq l o;omega
 | m+1,A,x,j,h,d,k=>by
  have q:=h.swap (i:=j+1) om om;have f:∀a,a<n+1->dG j (j+1) a<n+1:=fun a u=>by unfold dG;split<;>(try split)<;>omega
  have c:=Pd.coord m (A:=DE A (j+1)) (fun a=>x (dG j (j+1) a)) (j+1) q (fun i r=>d _ (f i r)) om;have s:dG j (j+1) (j+1)=j:=by unfold dG;rw[af om,ai rfl]
  have t:mg (n+1) (DE A (j+1)) (fun a=>x (dG j (j+1) a)) (fun a=>x (dG j (j+1) a))=mg (n+1) A x x:=by
   unfold mg;have g:∀a,az (n+1) (fun b=>DE A (j+1) a b*x (dG j (j+1) b))=az (n+1) (fun b=>A (dG j (j+1) a) b*x b):=fun a=>Bf om (fun b=>A (dG j (j+1) a) b*x b);rw[aF fun a _=>by rw[g a]]
   exact Bf om (fun a=>az (n+1) (fun b=>A a b*x b)*x a)
  rw[t]at c;simp only[s]at c;exact c
def Pd.lam_le(h:Pd A n){D W:Int}(a:∀k,k<=n->det k A<=D){i c:Nat}(o:c<i)(d:i<n)(e:A i i<=W):kt A i c*kt A i c<=D*(D*W):=by
 have f:=h.lam_sq (k:=c) (i:=i-c-1) om;rw[(om:i-c-1+1=i-c)]at f
 have b:=h.stg_up c (i-c) om;rw[(om:c+(i-c)=i)]at b
 have g:=h.pos (c+1) om;have p:=h.pos c om;have j:=h.diag d;have l:cM A c (i-c) (i-c)<=D*W:=fZ b (cB (a c om) e (co j) (by have:=a c om;omega))
 have m:=h.stg_pos (i-c) c om;have q:=cB (a (c+1) om) l (co m) (by have:=a c om;omega)
 unfold kt;omega

def gT(Q:aJ)(n:Nat)(T:aJ):aJ:=fun a b=>mg n Q (T a) (T b)
def ql(T:aJ)(k j:Nat)(q:Int):aJ:=fun a b=>if a=k then T k b-q*T j b else T a b
def MN(e:∀a b,a<n->b<n->H a b=H b a)(c d:Int)(u v v':iz):mg n H u (fun i=>c*v i+d*v' i)=c*mg n H u v+d*mg n H u v':=by
 rw[kK e,pR,kK e v,kK e v']
def GH{q:Int}(f:∀a b,a<n->b<n->Q a b=Q b a):gT Q n (ql T k j q)=lR (gT Q n T) k j (-q):=by
 have g:ql T k j q k=fun i=>1*T k i+(-q)*T j i:=by
  funext b;simp only[ql,aO];grind
 have e:∀a,a≠k->ql T k j q a=T a:=fun a c=>by funext b;simp[ql,c]
 funext a b;simp only[gT,lR];by_cases c:a=k
 .subst c;by_cases d:b=a
  .subst d;rw[g,pR,MN f,MN f];simp only[aO,SG];grind
  .rw[g,e b d,pR];simp only[d,aO,aP,and_false];grind
 .by_cases d:b=k
  .subst d;rw[g,e a c,MN f];simp only[c,aO,aP,false_and];grind
  .rw[e a c,e b d];simp[c,d]
def t9(T:aJ):aJ:=fun i j=>T j i
def Mz{q:Int}(d:k<n)(e:j<n)(c:k≠j):det n (t9 (ql T k j q))=det n (t9 T):=by
 have h:=px (n:=n) (i:=k) (k:=j) (t9 T) d e c 1 (-q);rw[eW]at h;rw[<-h];congr 1;funext a b;simp only[ql,t9,cn];split<;>grind
def F3{a b m:Int}(c:0<a)(d:m*m<=a*b)(x y:Int):x*x*a+2*(x*y*m)+y*y*b<=2*(x*x*a+y*y*b):=by
 have:=MD c d (u:=y) (v:=x)
 grind
def ru(l d:Int):Int:=(l+l+d)/(d+d)
def LZ{d:Int}(a:0<d):2*((l-ru l d*d).natAbs:Int)<=d:=by
 have h:=Iv (l:=l) a;rw[show l+-((2*l+d)/(2*d))*d=l-ru l d*d by
  unfold ru;rw[(om:l+l+d=2*l+d),(om:d+d=2*d)]
  grind]at h
 exact h
def Ey{d:Int}(e:0<d):ru l d*ru l d<=4*(l*l)+4:=by
 have h:=LZ (l:=l) e;generalize ru l d=q at *;have f:2*((q*d).natAbs:Int)<=2*(l.natAbs:Int)+d:=om
 rw[cY]at f;have i:((q.natAbs*d.natAbs:Nat):Int)=(q.natAbs:Int)*d:=by rw[bL];congr 1;omega
 rw[i]at f;have g:(q.natAbs:Int)<=(l.natAbs:Int)+1:=by
  rcases pU ((l.natAbs:Int)+1) q.natAbs with b|b
  .exfalso;have a:=cq (show(l.natAbs:Int)+2<=q.natAbs by omega) (co e)
   rw[Hk]at a;have j:=cc (show(1:Int)<=d by omega) (show(0:Int)<=(l.natAbs:Int) by omega)
   omega
  .exact b
 have b:(q.natAbs:Int)*q.natAbs=q*q:=by rw[<-bL,lH]
 have a:(l.natAbs:Int)*l.natAbs=l*l:=by rw[<-bL,lH]
 have j:=cB g g om om;have k:((l.natAbs:Int)+1)*((l.natAbs:Int)+1)=l*l+2*(l.natAbs:Int)+1:=by rw[<-a];grind
 have m:(l.natAbs:Int)<=l*l:=by
  rw[<-a];rcases aX l.natAbs with c|c
  .rw[c];simp
  .have:=cc (show(1:Int)<=l.natAbs by omega) (show(0:Int)<=l.natAbs by omega)
   omega
 have c:=kV l;omega
def uO(a:Nat):(0:Int)<2^a:=Int.pow_pos om
def pj(a b:Nat):(2:Int)^(a+b)=2^a*2^b:=Int.pow_add ..
def LR{y:Int}(c:0<=y)(d:x<=2^a)(e:y<=2^b):x*y<=2^(a+b):=by
 rw[pj];exact cB d e c (co (uO a))
def LQ(a:Nat):(1:Int)<=2^a:=uO a
def LP(h:x*x<=2^(2*a)):(x.natAbs:Int)<=2^a:=by
 refine Bi (co (uO a)) ?_;rw[<-pj,(om:a+a=2*a)];exact h
def LT(h:(x.natAbs:Int)<=2^a)(d:a<b):x.natAbs<2^b:=by
 have c:=iD (om:a+1<=b)
 have e:=uO a;have f:((2^b:Nat):Int)=(2:Int)^b:=by simp
 rw[fY]at c;omega
structure LS(Q:aJ)(n d:Nat)(w:Nat->Nat)(T:aJ):Prop where
 pd:Pd (gT Q n T) n
 lead:∀k,k<=n->det k (gT Q n T)<=2^d
 uni:det n (t9 T)*det n (t9 T)=1
 dg:∀i,i<n->gT Q n T i i<=2^(w i)
def LS.weak{d:Nat}(h:LS Q n d w T)(a:∀i,i<n->gT Q n T i i<=2^(w' i)):LS Q n d w' T:=⟨h.pd,h.lead,h.uni,a⟩
def LS.lamB{d:Nat}(h:LS Q n d w T){i c:Nat}(b:c<i)(a:i<n):kt (gT Q n T) i c*kt (gT Q n T) i c<=2^(d+(d+w i)):=by
 have e:=h.pd.lam_le h.lead b a (h.dg i a);rw[pj,pj];exact e
def LS.coord{d e:Nat}(h:LS Q (n+1) d w T)(c:Pd Q (n+1))(f:∀i,i<n+1->Q i i<=2^e)(g:e*n<=d){i j:Nat}(a:i<n+1)(p:j<n+1):T i j*T i j<=2^(d+w i):=by
 have k:=c.coord (n-j) (T i) j f om;have l:=h.dg i a;have m:((2:Int)^e)^n<=2^d:=by rw[<-Int.pow_mul];exact iD g
 have o:=h.pd.diag a;have b:=cB m l (co o) (co (uO d));rw[<-pj]at b;exact fZ k b
def LS.sub{d:Nat}(h:LS Q n d w T)(t:∀a b,a<n->b<n->Q a b=Q b a){k j:Nat}(m:j<k)(o:k<n)(p:w j<=d+3) :
  LS Q n d (fun i=>if i=k then w k+(3*d+8)else w i) (ql T k j (ru (kt (gT Q n T) k j) (det (j+1) (gT Q n T)))):=by
 have u:=h.pd.pos (j+1) om;have D:=Ey (l:=kt (gT Q n T) k j) u;have E:=h.lamB m o;generalize ru (kt (gT Q n T) k j) (det (j+1) (gT Q n T))=q at *;have e:=GH (T:=T) (k:=k) (j:=j) (q:=q) t;have v:Pd (gT Q n (ql T k j q)) n:=by rw[e];exact h.pd.add m o
 refine⟨v,fun c x=>by rw[e,kb m];exact h.lead c x,by rw[Mz o om om];exact h.uni,fun i g=>?_⟩
 rw[e];by_cases f:i=k
 .subst f
  try dsimp only
  rw[ai rfl];have y:lR (gT Q n T) i j (-q) i i=1*1*gT Q n T i i+2*(1*(-q)*gT Q n T i j)+(-q)*(-q)*gT Q n T j j:=by
   simp only[lR,aO,SG];have:=h.pd.sym i j g om
   grind
  rw[y];have z:=F3 (h.pd.diag g) (h.pd.cs0 g (om:j<n)) 1 (-q)
  have F:=h.dg i g;have A:=h.dg j om;have r:=h.pd.diag (om:j<n)
  have B:=iD p;have s:(-q)*(-q)=q*q:=by grind
  rw[s]at z ⊢;have C:q*q<=2^(d+(d+w i)+3):=by
   have:=LQ (d+(d+w i));rw[pj];omega
  have G:=LR (co r) C (fZ A B);have H:=iD (om:w i<=d+(d+w i)+3+(d+3))
  have I:=iD (om:d+(d+w i)+3+(d+3)+2<=w i+(3*d+8))
  have J:=pj (d+(d+w i)+3+(d+3)) 2;omega
 .try dsimp only
  rw[af f,qF _ f f];exact h.dg i g
def LS.row{d:Nat}(h:LS Q n d w T)(e:n<=8){k:Nat}(a:k<n)(b:∀j,j<k->iu (gT Q n T) k j):gT Q n T k k<=2^(d+3):=by
 have f:=h.pd.sized_norm (D:=2^d) a (fun c g=>h.lead (c+1) om) b;have i:=cq (show((k+1:Nat):Int)<=8 by omega) (co (uO d))
 rw[pj];omega
structure PL where
 a:Int
 b:Int
 c:Int
 f0:Int
 f1:Int
 s0:Int
 s1:Int

structure R5(Q:aJ)(n d k:Nat)(T:aJ):Prop where
 k1:1<=k
 kn:k<=n
 ls:LS Q n d (fun _=>5*d+13) T
 ok:jG (gT Q n T) k
 dn:det n (gT Q n T)=det n Q
def Cm:Nat->Nat
 | 0=>1
 | k+1=>Cm k*2^(k+1)
theorem E9{D:Nat->Nat}{n:Nat}(a:D 0=1)(b:∀k,k<=n->0<D k)(d:∀k,0<k->k<n->D k*D k<=2*(D (k-1)*D (k+1))):∀k,k<n->D k^(k+1)<=Cm k*D (k+1)^k
 | 0,_=>by simp[a,Cm]
 | k+1,f=>by
  have ih:=E9 a b d k om;have e:=d (k+1) om f;rw[fx]at e;have g:=Af e (k+1);rw[SO,SO,SO]at g;have j:2^(k+1)*(D k^(k+1)*D (k+1+1)^(k+1))<=2^(k+1)*(Cm k*D (k+1)^k*D (k+1+1)^(k+1)):=aL _ (aC _ ih);have h:0<D (k+1)^k:=iq (b (k+1) om);refine M8 (c:=D (k+1)^k) ?_ h;have i:D (k+1)^k*D (k+1)^(k+1+1)=D (k+1)^(k+1)*D (k+1)^(k+1):=by
   rw[<-fv,<-fv];congr 1;omega
  have l:2^(k+1)*(Cm k*D (k+1)^k*D (k+1+1)^(k+1))=D (k+1)^k*(Cm (k+1)*D (k+1+1)^(k+1)):=by
   rw[Cm];generalize D (k+1)^k=x;generalize D (k+1+1)^(k+1)=y;generalize (2:Nat)^(k+1)=z
   grind
  rw[i];omega
def Eo:List Nat:=[1,10000,10000,10000,25600,57243,64000,35777,10000]
def Jy:∀k,k<8->Cm k*Eo.getD (k+1) 0^k<(Eo.getD k 0+1)^(k+1):=by decide +kernel
def En:∀k,k<9->Eo.getD k 0<=64000/\(0<k->10000<=Eo.getD k 0)/\1<=Eo.getD k 0:=by decide
theorem IT{D:Nat->Nat}{n:Nat}(c:D 0=1)(d:∀k,k<=n->0<D k)(f:∀k,0<k->k<n->D k*D k<=2*(D (k-1)*D (k+1)))(a:n<=8)(h:D n<=10000):∀m k,k+m=n->D k<=Eo.getD k 0
 | 0,k,i=>by
  rw[(om:k=n)]
  obtain⟨_,g,j⟩:=En n om;rcases aX n with e|e
  .subst e;omega
  .have:=g e;omega
 | m+1,k,i=>by
  have l:=IT c d f a h m (k+1) om;have g:=E9 c d f k om;have j:=Jy k om;rcases aA (Eo.getD k 0) (D k)with b|b
  .exfalso;have o:=Af l k;have p:=aL (Cm k) o;have q:=Af (show Eo.getD k 0+1<=D k from b) (k+1);omega
  .exact b
def Jx(h:Pd A n)(a:jG A n){k:Nat}(c:0<k)(b:k<n):det k A*det k A<=2*(det (k-1) A*det (k+1) A):=by
 have d:=a.2 k c b;have e:=rA (a.1 k b (k-1) om);unfold ij at d;rw[(om:k-1+1=k)]at e
 omega
def KQ.of(h:Pd A n)(b:jG A n)(d:n<=8)(f:det n A<=10000):KQ A n:=by
 refine⟨h,b,fun k a=>?_⟩;have g:=IT (D:=fun k=>(det k A).toNat) (n:=n) (by simp[det]) (fun k a=>by have:=h.pos k a;omega) (fun k e a=>?_) d om (n-k) k om
 .have:=h.pos k a;have c:=(En k om).1;omega
 .have c:=Jx h b e a;have i:=h.pos k om;have j:=h.pos (k-1) om;have l:=h.pos (k+1) om;refine kg.1 ?_;simp only[bL];rw[cL om,cL om,cL om];exact c

structure AG(A:aJ)(n:Nat):Prop where
 pos:∀k,k<=n->0<det k A
 dt:det n A<=10000
 rows:jG A n
structure wZ(A:aJ)(n k:Nat):Prop where
 pos:∀j,j<=k->0<det j A
 lt:∀j,j<=k->det j A<65536
 sz:∀i j,j<k->j<i->i<n->iu A i j
 lo:∀i,0<i->i<=k->ij A i
def PJ(A:aJ)(n k:Nat):Prop:=∀i j,k+i<n->k+j<n->((cM A k i j).natAbs:Int)<=det k A*(262144+k*16384)
def wZ.ne(h:wZ A n k):∀j,j<=k->det j A≠0:=fun j a=>by have:=h.pos j a;omega
def wZ.init:wZ A n 0 :=
 ⟨fun j a=>by rw[(om:j=0)];simp[det],fun j a=>by rw[(om:j=0)];simp[det],fun i j a=>om,fun i b c=>om⟩
def PJ.init(h:∀i j,i<n->j<n->-262144<A i j/\A i j<262144):PJ A n 0:=fun i j a b=>by
 have:=h i j om om;rw[ie];simp[det];omega
theorem Eg{A:aJ}{n:Nat}(e:∀i j,i<n->j<n->A i j=A j i):∀(k i j:Nat),(∀c,c<=k->det c A≠0)->k+i<n->k+j<n->cM A k i j=cM A k j i
 | 0,i,j,_,h,l=>by rw[ie,ie];exact e i j om om
 | k+1,i,j,d,h,l=>by
  have ih:=fun a b=>Eg e k a b (fun c f=>d c om);have g:=i9 (A:=A) (k:=k) (fun c f=>d c om) i j;have m:=i9 (A:=A) (k:=k) (fun c f=>d c om) j i;rw[ih (i+1) (j+1) om om,ih (i+1) 0 om om,ih 0 (j+1) om om]at g;refine dF (d k om) ?_;rw[<-g,<-m];grind
def uE(A:aJ)(m:Nat):Prop:=0<A 0 0/\A 0 0<65536/\∀i,1<=i->i<m->2*A i 0<=A 0 0/\-2*A i 0<=A 0 0
def PJ.step(h:PJ A n k)(c:wZ A n k)(g:∀i j,i<n->j<n->A i j=A j i)(l:uE (cM A k) (n-k)):PJ A n (k+1):=fun i j u v=>by
 obtain⟨m,o,f⟩:=l;rw[c8]at m o f;have e:=i9 (A:=A) (k:=k) c.ne i j;rw[c8,Eg g k 0 (j+1) c.ne om om]at e;have b:=h (i+1) (j+1) om om;have w:=f (i+1) om om;have B:=f (j+1) om om;have dk:=c.pos k (ae k);generalize det k A=d at *;generalize det (k+1) A=D at *;generalize cM A k (i+1) (j+1)=s at *;generalize cM A k (i+1) 0=x at *;generalize cM A k (j+1) 0=y at *;generalize cM A (k+1) i j=z at *;have C:d*(z.natAbs:Int)<=D*(s.natAbs:Int)+(x.natAbs:Int)*(y.natAbs:Int):=by
  have p:((d*z).natAbs:Int)=d*(z.natAbs:Int):=by rw[cY];push_cast;congr 1;omega
  have q:((D*s).natAbs:Int)=D*(s.natAbs:Int):=by rw[cY];push_cast;congr 1;omega
  have r:((x*y).natAbs:Int)=(x.natAbs:Int)*(y.natAbs:Int):=by rw[cY];push_cast;rfl
  rw[<-p,<-q,<-r,<-e];omega
 have E:(2*(x.natAbs:Int))*(2*(y.natAbs:Int))<=D*D:=cB om om om om;have F:(2*(x.natAbs:Int))*(2*(y.natAbs:Int))=4*((x.natAbs:Int)*(y.natAbs:Int)):=by grind
 have G:D*D<=D*65536:=cc om om;have H:D*16384<=d*(D*16384):=by
  have:=cq (om:1<=d) (om:0<=D*16384)
  omega
 have I:=cc b (om:0<=D)
 have t:d*(D*(262144+((k+1:Nat):Int)*16384))=D*(d*(262144+k*16384))+d*(D*16384):=by push_cast;grind
 refine jh (a:=d) ?_ dk;rw[t];omega
def wZ.step(a:wZ A n k)(h:uE (cM A k) (n-k))(l:ij A (k+1)):wZ A n (k+1):=by
 obtain⟨c,d,f⟩:=h;rw[c8]at c d f;refine⟨fun j g=>?_,fun j g=>?_,fun i j g b m=>?_,fun i o p=>?_⟩
 .by_cases e:j=k+1
  .rw[e];exact c
  .exact a.pos j om
 .by_cases e:j=k+1
  .rw[e];exact d
  .exact a.lt j om
 .by_cases e:j=k
  .subst e;have:=f (i-j) om om;unfold iu kt;omega
  .exact a.sz i j om b m
 .by_cases e:i=k+1
  .rw[e];exact l
  .exact a.lo i o om
def AG.red(h:AG A n)(a:∀i j,i<n->j<n->A i j=A j i)(b:n<=8):KQ A n:=KQ.of ⟨a,h.pos⟩ h.rows b (by have:=h.dt;omega)
def AG.short(h:AG A n)(b:∀i j,i<n->j<n->A i j=A j i)(c:n<=8)(a:k<n):uE (cM A k) (n-k):=by
 have d:=h.pos (k+1) a;have f:=(h.red b c).lead (k+1) a;unfold uE;rw[c8];refine⟨d,om,fun i g e=>?_⟩
 have:=h.rows.1 (k+i) om k om;unfold iu kt at this;rw[(om:k+i-k=i)]at this
 omega
def wZ.redB(a:wZ A n k)(h:k+1=n)(c:0<det n A)(d:det n A<=10000):AG A n:=by
 refine⟨fun j b=>?_,d,fun r f j b=>a.sz r j om b f,fun r g i=>a.lo r g om⟩;by_cases e:j=n
 .rw[e];exact c
 .exact a.pos j om
def PJ.num(h:PJ A n k)(c:0<det k A/\det k A<65536)(d:n<=8)(a:k+i<n)(b:k+j<n):-24696061952<=cM A k i j/\cM A k i j<=24696061952:=by
 have e:=h i j a b;have f:=cB (om:det k A<=65536) (show(262144+k*16384:Int)<=376832 by omega) om om
 omega

def Ct(l:k<n)(b:∀j,j<=k->det j A≠0)(c:∀j,j<n-k->cM A k 0 j=0):det n A=0:=by
 have a:=qO b (n-k-1) id id;have d:det (n-k-1+1) (fun i j=>cM A k (id i) (id j))=0:=E5 _ (fun j m=>c j om);rw[d,(om:k+(n-k-1)+1=n)]at a
 have f:det k A^(n-k-1)≠0:=I3 (b k (ae _));have g:det n (fun i j=>A (up k id i) (up k id j))=det n A:=ck fun i j _ _=>by
  have e:∀i,up k id i=i:=fun i=>by unfold up;split<;>simp;omega
  rw[e,e]
 rw[g]at a;rcases jp.1 a.symm with h|h
 .exact absurd h f
 .exact h
def Q5{p:Nat}(d:k<=p)(i a:Nat):dG k p (up k (fun _=>i) a)=up k (fun _=>dG 0 (p-k) i) a:=by
 unfold up dG;by_cases h:a<k
 .simp only[h,aO];rw[af om,af om]
 .simp only[h,aP];by_cases b:i=0
  .rw[ai om,ai b];omega
  .by_cases c:i=p-k
   .rw[af om,ai om,af b,ai c];omega
   .rw[af om,af om,af b,af c]
def Ed{p:Nat}(A:aJ)(c:k<=p)(i j:Nat):cM (fun a b=>A a (dG k p b)) k i j=cM A k i (dG 0 (p-k) j):=by
 unfold cM;refine ck fun a b d e=>?_;show A _ (dG k p (up k (fun _=>j) b))=_;rw[Q5 c]
def nQ{g:Nat->Int}(h:∀i,i<n->f i=g i):dK n f=dK n g:=by
 induction n with
 | zero=>rfl
 | succ n ih=>simp only[dK];rw[ih (fun i a=>h i om),h n om]
def MX(f:Nat->Int)(h:n<=m):dK n f<=dK m f:=by
 induction m with
 | zero=>rw[(om:n=0)];exact ae _
 | succ m ih =>
  rcases aA n (m+1)with a|a
  .have:=ih om;simp only[dK];omega
  .rw[(om:n=m+1)];exact ae _
def lS(f:Nat->Int){j:Nat}(a:j<n):dK n (fun b=>if b=j then 0 else f b)+(f j).natAbs=dK n f:=by
 induction n with
 | zero=>omega
 | succ n ih =>
  simp only[dK];rcases aA j n with h|h
  .have:=ih h;rw[af (om:¬n=j)];omega
  .rw[(om:j=n),ai rfl,nQ (g:=f) (fun i c=>af om)];simp
def Ko(f:Nat->Int){i k:Nat}(a:i<n)(c:k<n):dK n (fun b=>f (dG i k b))=dK n f:=by
 by_cases e:i=k
 .subst e;exact nQ fun b _=>by unfold dG;split<;>simp_all
 .have p:=lS f a;have j:=lS (fun b=>if b=i then 0 else f b) c
  have l:=lS (fun b=>f (dG i k b)) a;have d:=lS (fun b=>if b=i then 0 else f (dG i k b)) c
  simp only[af (aj e)]at j d;have q:dK n (fun b=>if b=k then 0 else if b=i then 0 else f (dG i k b))=dK n (fun b=>if b=k then 0 else if b=i then 0 else f b):=nQ fun b _=>by
   by_cases g:b=k
   .simp[g]
   .by_cases h:b=i
    .simp[h]
    .simp[g,h,dG]
  have m:dG i k i=k:=by simp[dG]
  have o:dG i k k=i:=by simp[dG]
  rw[m]at l;rw[o]at d;omega
def Fm(g:Nat->Int)(h:k+j<N):dK (k+1) (fun b=>g (up k (fun _=>j) b))<=dK N g:=by
 have d:=lS g h;have a:dK k (fun b=>g (up k (fun _=>j) b))=dK k (fun b=>if b=k+j then 0 else g b):=nQ fun b c=>by
  simp only[up,c,aO];rw[af om]
 have e:=MX (fun b=>if b=k+j then 0 else g b) (om:k<=N)
 simp only[dK];rw[a,show up k (fun _=>j) k=k+j by simp[up]]
 omega
structure lI(A:aJ)(N:Nat)(σ:Nat->Nat)(k:Nat):Prop where
 lead:∀j,j<=k->det j (fun a b=>A a (σ b))≠0
 abs:∀B:aJ,(det N (fun a b=>B a (σ b))).natAbs=(det N B).natAbs
 sum:∀f:Nat->Int,dK N (fun b=>f (σ b))=dK N f
def lI.init(A:aJ)(N:Nat):lI A N id 0:=⟨fun j a=>by rw[(om:j=0)];simp[det],fun _=>rfl,fun _=>rfl⟩
def lI.swap{p:Nat}(h:lI A N σ k)(g:k<=p)(c:p<N):lI A N (fun a=>σ (dG k p a)) k:=by
 refine⟨fun j d=>?_,fun B=>?_,fun f=>?_⟩
 .have e:det j (fun a b=>A a (σ (dG k p b)))=det j (fun a b=>A a (σ b)):=ck fun a b _ i=>by rw[show dG k p b=b by unfold dG;rw[af om,af om]]
  rw[e];exact h.lead j d
 .by_cases e:k=p
  .subst e;rw[show(fun a b=>B a (σ (dG k k b)))=fun a b=>B a (σ b) by funext a b;rw[show dG k k b=b by unfold dG;split<;>simp_all]]
   exact h.abs B
  .have:=ny (fun a b=>B a (σ b)) (om:k<N) c e
   rw[this,TN];exact h.abs B
 .rw[Ko (fun b=>f (σ b)) (om:k<N) c];exact h.sum f
def lI.step(h:lI A N σ k)(c:cM (fun a b=>A a (σ b)) k 0 0≠0):lI A N σ (k+1) :=
 ⟨fun j e=>by
  rcases aA j (k+1)with d|d
  .exact h.lead j om
  .rw[(om:j=k+1),<-c8];exact c,h.abs,h.sum⟩
def ua(n R i:Nat):Nat:=if i<n then i else R
def Q8(b:n<=R):up n (fun _=>R-n) a=ua n R a:=by simp only[up,ua];split<;>omega
def Oa(c:n<=R):cM A n (R-n) 0=det (n+1) (fun a b=>A (ua n R a) b):=by
 unfold cM;refine ck fun a b _ d=>?_;rw[Q8 c,oE _ _ d]
def lI.found(h:lI A (n+1) σ k)(o:k<n)(f:det (n+1) (fun a b=>A (ua n R a) b)≠0):¬∀j,j<n+1-k->cM (fun a b=>A a (σ b)) k 0 j=0:=by
 intro g;have e:∀m,m<=n->∀B:aJ,det m (fun a b=>B (ua n R a) b)=det m B:=fun m p B=>ck fun a b d _=>by rw[show ua n R a=a by unfold ua;rw[ai om]]
 have i:=Ct (A:=fun a b=>A (ua n R a) (σ b)) (om:k<n+1) (fun j c=>by rw[e j om (fun a b=>A a (σ b))];exact h.lead j c) (fun j c=>by
  rw[<-g j c];unfold cM;refine ck fun a b d _=>?_;rw[oE _ _ d];simp only[ua];rw[ai (om:a<n)])
 have l:=h.abs (fun a b=>A (ua n R a) b);rw[i]at l;exact f om
def lI.last(h:lI A (n+1) σ k)(c:n<=R):(cM (fun a b=>A a (σ b)) n (R-n) 0).natAbs=(det (n+1) (fun a b=>A (ua n R a) b)).natAbs:=by
 rw[Oa (A:=fun a b=>A a (σ b)) c];exact h.abs (fun a b=>A (ua n R a) b)
theorem MA:∀(n:Nat) (A:aJ),(∀i j,i<n->j<n->A i j=if j=i then 1 else 0)->det n A=1
 | 0,_,_=>rfl
 | n+1,A,h=>by
  rw[qX A (fun i a=>by rw[h _ _ om om,af om]),h 0 0 om om,MA n _ (fun i j a b=>by
   rw[h _ _ om om];by_cases e:j=i
   .simp[e]
   .rw[af e,af om])]
  simp
def Ax(A:aJ)(h:∀i,i<n->∀c:Nat->Int,(∀r,r<n->az n (fun j=>(if r<i then gD r j else A r j)*c j)=0)->c i=0):det n A≠0:=by
 have key:∀m i,i+m=n->det n (fun r j=>if r<i then gD r j else A r j)≠0:=by
  intro m
  induction m with
  | zero =>
   intro i f;rw[MA n _ (fun a b p q=>by rw[ai om];rfl)];decide
  | succ m ih =>
   intro i f g;have k:=ih (i+1) om;refine k ?_;have l:=h i om (fun j=>sf n (fun r j=>if r<i then gD r j else A r j) i j) (fun r o=>by
    refine(CL (fun r j=>if r<i then gD r j else A r j) (om:i<n) o).trans ?_
    rw[g];simp)
   rw[<-l];unfold sf;refine ck fun a b _ _=>?_;unfold setRow;by_cases e:a=i
   .simp[e]
   .by_cases d:a<i
    .simp[e,d,(om:a<i+1)]
    .simp[e,d,(om:¬a<i+1)]
 have:=key n 0 om;simpa using this

def fo(n:Nat)(M:aJ):aJ:=fun r j=>if r<n then M r j else if r=n+j then 1 else 0
def D9(c:Nat->Int){r:Nat}(a:r<n):az n (fun j=>gD r j*c j)=c r:=by
 rw[da r a (fun i _ b=>by simp[gD,b])];simp[gD]
def EA(v:p≠0){piv:Nat}(f:piv<n)(q x:Nat->Int):det (n+1) (fun a b=>fo n (Ae n p piv q x) (ua n (n+n) a) b)≠0:=by
 refine Ax _ fun i w c s=>?_;have rowU:∀r,r<n+1->r<i->c r=0:=fun r l m=>by
  have:=s r l;rw[aF (g:=fun j=>gD r j*c j) (fun j _=>by rw[ai m]),D9 c l]at this
  exact this
 have o:c n=0:=by
  by_cases h:n<i
  .exact rowU n om h
  .have:=s n om;rw[aF (g:=fun j=>gD n j*c j) (fun j _=>by
    rw[af h];simp only[ua,fo,gD];by_cases e:j=n
    .simp[e,(om:¬n+n<n)]
    .simp[e,(om:¬n+n<n),aj e]),D9 c om]at this
   exact this
 have rowM:∀r,r<n->¬r<i->az n (fun j=>jM p piv q r j*c j)=0:=fun r l m=>by
  have:=s r om;rw[aF (g:=fun j=>Ae n p piv q x r j*c j) (fun j _=>by rw[af m];simp[ua,fo,l]),CJ,o]at this
  omega
 have k:∀r,r<n->r≠piv->c r=0:=fun r l d=>by
  by_cases h:r<i
  .exact rowU r om h
  .have:=rowM r l h;rw[da r l (fun j _ t=>by
    simp only[jM];by_cases e:j=piv
    .simp[e,d]
    .simp[e,d,aj t])]at this
   simp[jM,d]at this;rcases jp.1 this with h|h
   .exact absurd h v
   .exact h
 have u:c piv=0:=by
  by_cases h:piv<i
  .exact rowU piv om h
  .have:=rowM piv f h;rw[da piv f (fun j t d=>by rw[k j t d];simp)]at this
   simp[jM]at this;rcases jp.1 this with h|h
   .rcases jp.1 h with h|h<;>exact absurd h v
   .exact h
 rcases aA i n with h|h
 .by_cases e:i=piv
  .rw[e];exact u
  .exact k i h e
 .rw[(om:i=n)];exact o
def sh(h:∀i,i<n->(f i).natAbs<=B):dK n f<=n*B:=by
 induction n with
 | zero=>simp[dK]
 | succ n ih=>have:=ih (fun i a=>h i om);have:=h n om;simp only[dK];rw[cQ];omega
def LO{M:aJ}(c:n<=8)(a:∀i j,i<n->j<n+1->(M i j).natAbs<=100000000)(r:Nat):dK (n+1) (fo n M r)<=2^30:=by
 have h:=sh (n:=n+1) (f:=fo n M r) (B:=100000000) (fun j b=>by
  unfold fo;split
  .rename_i h;exact a r j h b
  .split<;>simp)
 have d:(n+1)*100000000<=9*100000000:=aC _ om;omega
def CK{piv:Nat}{x:Nat->Int}(b:0<=p)(a:p<=9973)(d:∀j,j<n->0<=q j/\q j<=9972)(e:∀i,i<n->(x i).natAbs<=100000000)(i j:Nat)(f:i<n)(k:j<n+1):(Ae n p piv q x i j).natAbs<=100000000:=by
 unfold Ae;split
 .rename_i h;obtain⟨c,g⟩:=d j h;have l:=cB a a b om;have m:=cB a g c om;have o:=cZ b b;have r:=cZ b c;unfold jM;split
  .split<;>omega
  .split
   .omega
   .split<;>omega
 .exact e i f
theorem we(c:Nat):∀k,iH k (fun _=>c)=c^k
 | 0=>rfl
 | k+1=>by simp only[iH];rw[we c k,bQ,ay]
def Es(k:Nat):iH k (fun _=>2^30)=2^(30*k):=by rw[we,<-Nat.pow_mul]

def Ml{w M:aJ}(f:∀i j,i<n->j<n+1->w i j=M i j)(l:∀x,eU (n+1) (n+1) H x↔eU (n+1) (n+1) w x)(m:∀i,i<n->H i n=0)(y:iz):eU n n H y↔eU n (n+1) M y:=by
 constructor
 .rintro⟨c,h⟩;obtain⟨d,k⟩:=(l (fun i=>az (n+1) (fun j=>H i j*(if j<n then c j else 0)))).1 ⟨_,fun _ _=>rfl⟩
  refine⟨d,fun i a=>?_⟩;have b:(az (n+1) fun j=>H i j*(if j<n then c j else 0))=az (n+1) fun j=>w i j*d j:=k i om
  simp only[az]at b;rw[aF (g:=fun j=>H i j*c j) (fun j e=>by rw[ai e]),<-h i a,af (cN n)]at b
  simp only[az];rw[aF (g:=fun j=>w i j*d j) (fun j e=>by rw[f i j a om]),<-f i n a om]
  omega
 .rintro⟨d,k⟩;obtain⟨c,h⟩:=(l (fun i=>az (n+1) (fun j=>w i j*d j))).2 ⟨d,fun _ _=>rfl⟩;refine⟨c,fun i a=>?_⟩;have b:(az (n+1) fun j=>w i j*d j)=az (n+1) fun j=>H i j*c j:=h i om;rw[k i a];rw[aF (g:=fun j=>M i j*d j) (fun j e=>by rw[f i j a e])]at b
  rw[b];simp only[az];rw[m i a];simp
def JP{w:aJ}(g:1<=N)(n:∀j,j<N->eU N N w (fun i=>H i j)) :
  ∃U:aJ,(∀i j,i<N->j<N->mm N w U i j=H i j)/\∀i j,i<N->j<N->mm N (mJ N w) H i j=det N w*U i j:=by
 have d:∃U:aJ,∀i j,i<N->j<N->mm N w U i j=H i j:=by
  have l:∀j,∃c:iz,j<N->∀i,i<N->H i j=az N (fun k=>w i k*c k):=fun j=>by
   by_cases a:j<N
   .obtain⟨c,d⟩:=n j a;exact⟨c,fun _=>d⟩
   .exact⟨fun _=>0,fun h=>absurd h a⟩
  refine⟨fun k j=>c9 (l j) k,fun i j b a=>?_⟩;exact(cS (l j) a i b).symm
 obtain⟨U,m⟩:=d;refine⟨U,m,fun i j b a=>?_⟩;rw[qv (A':=mJ N w) (B':=mm N w U) (fun _ _=>rfl) (fun k e=>(m k j e a).symm),<-oN];unfold mm;rw[da i b (fun k e f=>by
  have:=qZ g w b e;unfold mm at this;rw[this,af (aj f)];simp)]
 have:=qZ g w b b;unfold mm at this;rw[this,ai rfl]

def vF:Nat->(Nat->Nat)->Nat
 | 0,_=>0
 | n+1,f=>vF n f+f n*4294967296^n
def jA{f g:Nat->Nat}(h:∀i,i<n->f i=g i):vF n f=vF n g:=by
 induction n with
 | zero=>rfl
 | succ n ih=>simp only[vF];rw[ih fun i a=>h i om,h n om]
def sJ{f:Nat->Nat}(h:∀i,i<n->f i<4294967296):vF n f<4294967296^n:=by
 induction n with
 | zero=>simp[vF]
 | succ n ih =>
  have b:=ih fun i c=>h i om;have a:=aC (4294967296^n) (show f n+1<=4294967296 by have:=h n om;omega)
  simp only[vF,bQ];rw[cQ]at a;omega
def D8(n:Nat)(f:Nat->Nat):vF (n+1) f=f 0+4294967296*vF n (fun i=>f (i+1)):=by
 induction n with
 | zero=>simp[vF]
 | succ n ih =>
  rw[show vF (n+1+1) f=vF (n+1) f+f (n+1)*4294967296^(n+1)from rfl,ih];simp only[vF,bQ];generalize vF n (fun i=>f (i+1))=a;generalize 4294967296^n=p;rw[bS,show 4294967296*(f (n+1)*p)=f (n+1)*(p*4294967296) by rw[<-a6,ay 4294967296,a6,ay 4294967296]]
  omega
theorem Lh:∀(l:List Nat),aZ l=vF l.length (fun i=>l.getD i 0)
 | []=>rfl
 | x::l=>by
  rw[cA,D8,aZ,Lh l];rfl
def qh(m k:Nat)(f:Nat->Nat):vF (m+k) f=vF m f+4294967296^m*vF k (fun i=>f (m+i)):=by
 induction k with
 | zero=>simp[vF]
 | succ k ih =>
  rw[<-kD];simp only[vF];rw[ih,bS,fv,<-a6,ay (f (m+k)),a6,ay (f (m+k)),<-a6];omega
def OB{P:Nat}(j:U=ul+(u2*18446744073709551616+u1*4294967296+u0)*P)(c:ul<P)(d:V=vl+(v1*4294967296+v0)*P)
  (e:g*v1+r=u2*4294967296+u1) (h:r*4294967296+u0<g*v0):U<g*V:=by
 have f:u2*18446744073709551616+u1*4294967296+u0+1<=g*(v1*4294967296+v0):=by
  rw[bS,<-a6];generalize g*v1=a at *;generalize g*v0=b at *;omega
 have i:=aC P f;rw[cQ]at i;have k:g*V=g*vl+g*(v1*4294967296+v0)*P:=by rw[d,bS,a6]
 omega
def Ma{P:Nat}(l:U=ul+(u2*18446744073709551616+u1*4294967296+u0)*P)(d:V=vl+(v1*4294967296+v0)*P)(c:vl<P)(f:0<v1)
  (e:g*v1+r=u2*4294967296+u1) (i:g<4294967296) (h:g*v0<=r*4294967296+u0):g*V<U+V:=by
 have j:g*(v1*4294967296+v0)<=u2*18446744073709551616+u1*4294967296+u0:=by
  rw[bS,<-a6];generalize g*v1=a at *;generalize g*v0=b at *;omega
 have m:=aC P j;have n:g*V=g*vl+g*(v1*4294967296+v0)*P:=by rw[d,bS,a6]
 have o:g*vl<=g*P:=aL g (dw c);have p:=aC P (om:4294967296<=v1*4294967296+v0)
 have k:=aC P (show g+1<=4294967296 from i);rw[dE g 1 P,mA]at k;omega
def kn_q(h:g*V<U+V)(b:U<(g+1)*V):(g*V<=U/\U/V=g/\U%V=U-g*V)∨(U<g*V/\0<g/\U/V=g-1/\U%V=U+V-g*V):=by
 have c:0<V:=by
  rcases aX V with h|h
  .subst h;simp at b
  .exact h
 rw[cQ]at b;rcases aA U (g*V)with a|a
 .refine bO ⟨a,?_⟩
  cases g with
  | zero=>simp at a
  | succ g =>
   rw[cQ]at *;have e:U=V*g+(U-g*V):=by rw[ay];omega
   refine⟨om,?_,?_⟩
   .rw[e,kv c,eA om];rfl
   .rw[e,mi,ez om,ay V g];omega
 .refine bM ⟨a,?_,?_⟩
  .have e:U=V*g+(U-g*V):=by rw[ay];omega
   rw[e,kv c,eA om];rfl
  .have e:U=V*g+(U-g*V):=by rw[ay];omega
   rw[e,mi,ez om,ay V g];omega
def Md(b:∀i,i<k+2->v i<4294967296)(h:vF (k+3) u<vF (k+2) v*4294967296):u (k+2)<=v (k+1):=by
 have g:=sJ (n:=k+1) (f:=v) fun i j=>b i om;have c:vF (k+2) v=vF (k+1) v+v (k+1)*4294967296^(k+1):=rfl;have d:vF (k+3) u=vF (k+2) u+u (k+2)*4294967296^(k+2):=rfl;rw[c,d,bQ]at h;generalize 4294967296^(k+1)=p at *;rcases aA (v (k+1)) (u (k+2))with a|a
 .have e:=aC p (show v (k+1)+1<=u (k+2)from a);rw[cQ]at e;have l:u (k+2)*(p*4294967296)=u (k+2)*p*4294967296:=(a6 _ _ _).symm;omega
 .exact a
def sc(k:Nat)(u:Nat->Nat):vF (k+3) u=vF k u+(u (k+2)*18446744073709551616+u (k+1)*4294967296+u k)*4294967296^k:=by
 simp only[vF,bQ];generalize 4294967296^k=p;rw[dE,dE,show u (k+1)*(p*4294967296)=u (k+1)*4294967296*p by rw[ay p,a6],show u (k+2)*(p*4294967296*4294967296)=u (k+2)*18446744073709551616*p by rw[a6 p,show(4294967296:Nat)*4294967296=18446744073709551616 from rfl,ay p,<-a6]]
 omega
def r9(k:Nat)(v:Nat->Nat):vF (k+2) v=vF k v+(v (k+1)*4294967296+v k)*4294967296^k:=by
 simp only[vF,bQ];generalize 4294967296^k=p;rw[dE,show v (k+1)*(p*4294967296)=v (k+1)*4294967296*p by rw[ay p,a6]]
 omega
structure KG(k:Nat)(u v:Nat->Nat)(g r:Nat):Prop where
 eq:g*v (k+1)+r=u (k+2)*4294967296+u (k+1)
 le:vF (k+3) u<(g+1)*vF (k+2) v
def KG.init(c:0<v (k+1))(b:∀i,i<k+3->u i<4294967296):KG k u v ((u (k+2)*4294967296+u (k+1))/v (k+1)) ((u (k+2)*4294967296+u (k+1))%v (k+1)):=by
 have e:=dv (u (k+2)*4294967296+u (k+1)) (v (k+1));have j:=dq (u (k+2)*4294967296+u (k+1)) c;rw[ay]at e;refine⟨e,?_⟩;generalize (u (k+2)*4294967296+u (k+1))/v (k+1)=q at *;generalize (u (k+2)*4294967296+u (k+1))%v (k+1)=r at *;rw[sc,r9];have l:=sJ (n:=k) (f:=u) fun i m=>b i om;have o:=b k om;generalize 4294967296^k=p at *;have d:u (k+2)*18446744073709551616+u (k+1)*4294967296+u k+1<=(q+1)*(v (k+1)*4294967296+v k):=by
  have g:(q+1)*(v (k+1)*4294967296)=(q*v (k+1)+v (k+1))*4294967296:=by rw[<-a6,cQ]
  rw[bS,g];generalize q*v (k+1)=a at *;have:=jw ((q+1)*v k);omega
 have h:=aC p d;rw[cQ]at h;rw[bS,<-a6];omega
def KG.step(h:KG k u v g r)(c:∀i,i<k+3->u i<4294967296)(d:vF (k+3) u<vF (k+2) v*4294967296)(a:4294967296<=g∨r*4294967296+u k<g*v k):0<g/\KG k u v (g-1) (r+v (k+1)):=by
 have b:vF (k+3) u<g*vF (k+2) v:=by
  rcases a with a|a
  .have:=aC (vF (k+2) v) a;rw[ay]at d;omega
  .exact OB (sc k u) (sJ fun i e=>c i om) (r9 k v) h.eq a
 cases g with
 | zero=>simp at b
 | succ g =>
  refine⟨om,⟨?_,by simpa using b⟩⟩
  have:=h.eq;rw[cQ]at this;simp only[fx];omega
def KG.g_lt(h:KG k u v g r)(b:u (k+2)<=v (k+1))(c:u (k+1)<4294967296)(d:4294967296<=r):g<4294967296:=by
 rcases aA g 4294967296 with a|a
 .exact a
 .have e:=aC (v (k+1)) a;have:=h.eq;omega
def KG.last(h:KG k u v g r)(a:∀i,i<k+2->v i<4294967296)(b:0<v (k+1))(c:g<4294967296)(d:g*v k<=r*4294967296+u k):g*vF (k+2) v<vF (k+3) u+vF (k+2) v :=
 Ma (sc k u) (r9 k v) (sJ fun i e=>a i om) b h.eq c d
def KG.big{uk:Nat}(b:v k<4294967296)(c:g<4294967296)(a:4294967296<=r):g*v k<=r*4294967296+uk:=by
 have d:=bs (om:g<=4294967296) (om:v k<=4294967296)
 have e:=aC 4294967296 a;omega

end Go.Proofs.YtdobfmlmenaajaaGreatDoor
