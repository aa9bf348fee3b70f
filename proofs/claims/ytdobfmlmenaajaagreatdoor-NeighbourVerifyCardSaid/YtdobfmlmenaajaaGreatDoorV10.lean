/-
  Lemmas for NeighbourVerify.
-/
import Derived.Test.YtdobfmlmenaajaaGreatDoorV09
namespace Go.Proofs.YtdobfmlmenaajaaGreatDoor
open Go.RowKit Tryz
set_option maxHeartbeats 6400000
set_option maxRecDepth 4096
set_option linter.all false
variable{β:Bool}{l p x:Int}{N a b i j k n:Nat}{M d f q:Nat->Int}{g w w':Nat->Nat}{P:Prop}{A H Q T:aH}{L L':ig->Prop}
def gR(M:Int)(k:Nat):ig:=fun r=>if r=k then M else 0
structure TL(N:Nat)(L:ig->Prop)(d M:Nat->Int):Prop where
 lat:O8 N L
 pos:∀i,i<N->0<d i
 step:∀i,i<N->M i=d i*M (i+1)
 last:M N=1
 dvd:∀x,L x->∀i,i<N->(∀r,r<i->x r=0)->d i∣x i
 unit:∀i k,i<=k->k<N->L (gR (M i) k)
 col:∀i,i<N->∃x,L x/\(∀r,r<i->x r=0)/\x i=d i
def KF(b:wU N N H){x c:ig}(g:∀r,r<N->x r=aq N (fun j=>H r j*c j)):∀i,i<=N->(∀r,r<i->x r=0)->∀j,j<i->c j=0:=by
 intro i
 induction i with
 | zero=>intro _ _ j h;omega
 | succ i ih =>
  intro n d j h;have ih':=ih om (fun r o=>d r om);by_cases e:j=i
  .subst e;have f:=g j om;rw[d j om,cJ j om (fun k l m=>by
    rcases aF k j with a|a
    .rw[ih' k a];simp
    .rw[(b j om).1 k om l];simp)]at f
   rcases fZ.1 f.symm with a|a
   .have:=(b j om).2;omega
   .exact a
  .exact ih' j om
def MK(b:wU N N H){x c:ig}(d:∀r,r<N->x r=aq N (fun j=>H r j*c j)){i:Nat}(a:i<N)(f:∀r,r<i->x r=0):x i=H i i*c i:=by
 have g:=KF b d i om f;rw[d i a,cJ i a (fun k h l=>by
  rcases aF k i with e|e
  .rw[g k e];simp
  .rw[(b i a).1 k om h];simp)]
def Fc(H:aH)(N i:Nat):Int:=gF (N-i) (fun r=>H (i+r) (i+r))
def zH(H:aH){N i:Nat}(a:i<N):Fc H N i=H i i*Fc H N (i+1):=by
 unfold Fc;rw[(om:N-i=(N-(i+1))+1)]
 simp only[gF,cN];congr 2;funext r;rw[(om:i+(r+1)=i+1+r)]
theorem Dc(H:aH){N:Nat}:∀(m i:Nat),i+m<=N->Fc H N (i+m)∣Fc H N i
 | 0,i,_=>iL _
 | m+1,i,h=>by
  have a:=Dc H (N:=N) m (i+1) om;rw[zH H (om:i<N),(om:i+(m+1)=i+1+m)]
  exact cD a
theorem Fa{N:Nat}{H:aH}(g:wU N N H):∀(m k:Nat),k<N->N-k<=m->fC N N H (gR (Fc H N k) k)
 | 0,k,c,p=>om
 | m+1,k,c,p=>by
  have b:=fC.lat N N H;have s:∀r,k<r->r<N->fC N N H (gR (Fc H N (k+1)) r):=by
   intro r l d;obtain⟨q,n⟩:=Dc H (N:=N) (r-(k+1)) (k+1) om;rw[(om:k+1+(r-(k+1))=r)]at n
   refine b.ext _ _ (b.smul (Fa g m r d om) q) (fun i _=>?_);simp only[gR];split
   .rw[n,ck]
   .simp
  have l:=b.sum (fun r=>if k<r then gR (Fc H N (k+1)) r else fun _=>0) (fun r=>- H r k) N (fun r t=>by
   split
   .rename_i h;exact s r h t
   .exact b.zero)
  refine b.ext _ _ (b.comb _ _ (fC.col (j:=k) c) l (Fc H N (k+1)) 1) (fun i e=>?_);have d:aq N (fun j=>(if k<j then gR (Fc H N (k+1)) j else fun _=>0) i*- H j k)=if k<i then Fc H N (k+1)*- H i k else 0:=by
   rw[cJ i e (fun j u f=>by
    by_cases a:k<j
    .simp[a,gR,aj f]
    .simp[a])]
   by_cases a:k<i
   .simp[a,gR]
   .simp[a]
  simp only[d,gR];by_cases a:i=k
  .subst a;rw[af om,ah rfl,zH H e];grind
  .rw[af a];by_cases o:k<i
   .rw[ah o];grind
   .rw[af o,(g i e).1 k om c];simp
def TL.of_tri(b:wU N N H):TL N (fC N N H) (fun i=>H i i) (Fc H N):=by
 refine⟨fC.lat N N H,fun i a=>(b i a).2,fun i a=>zH H a,by simp[Fc,gF],?_,fun i k e f=>?_,fun i a=>⟨_,fC.col a,fun r g=>(b r om).1 i g a,rfl⟩⟩
 .rintro x ⟨c,h⟩ i a j;exact⟨c i,MK b h a j⟩
 .obtain⟨q,d⟩:=Dc H (N:=N) (k-i) i om;rw[(om:i+(k-i)=k)]at d
  refine(fC.lat N N H).ext _ _ ((fC.lat N N H).smul (Fa b (N-k) k f (ae _)) q) (fun r _=>?_);simp only[gR];split
  .rw[d,ck]
  .simp
def TL.congr(h:TL N L d M)(c:O8 N L')(e:∀x,L' x↔L x):TL N L' d M :=
 ⟨c,h.pos,h.step,h.last,fun x f=>h.dvd x ((e x).1 f),fun i k a b=>(e _).2 (h.unit i k a b),fun i g=>by obtain⟨x,a,b⟩:=h.col i g;exact⟨x,(e x).2 a,b⟩⟩
def TL.of_det{w:aH}(c:det N w≠0):∃d M,TL N (fC N N w) d M/\M 0=((det N w).natAbs:Int):=by
 obtain⟨H,a,b⟩:=G6 w c;refine⟨_,_,(TL.of_tri b).congr (fC.lat N N w) a.1,?_⟩;rw[MJ a b];simp[Fc]
def TL.M_pos(h:TL N L d M):∀m i,N-i<=m->i<=N->0<M i
 | 0,i,a,b=>by rw[(om:i=N),h.last];omega
 | m+1,i,a,b=>by
  by_cases e:i=N
  .rw[e,h.last];omega
  .rw[h.step i om];exact lM (h.pos i om) (h.M_pos m (i+1) om om)
structure HI(N:Nat)(L:ig->Prop)(d M:Nat->Int)(i:Nat)(C:Nat->ig):Prop where
 mem:∀j,j<N->L (C j)
 zero:∀j,i<=j->j<N->∀r,r<i->C j r=0
 gen:∀x,L x->(∀r,r<i->x r=0)->∃t z:ig,∀r,i<=r->r<N->x r=aq N (fun j=>if i<=j then C j r*t j else 0)+M i*z r
 done:∀j,j<i->(∀r,r<j->C j r=0)/\C j j=d j/\∀r,j<r->r<i->0<=C j r/\C j r<d r
def HI.init{w:aH}:HI N (fC N N w) d M 0 (fun j r=>w r j):=by
 refine⟨fun j a=>fC.col a,fun j _ _ r b=>om,fun x e _=>?_,fun j a=>om⟩
 obtain⟨c,f⟩:=e;exact⟨c,fun _=>0,fun r _ b=>by rw[f r b];simp⟩
def HI.red(f:TL N L d M){i:Nat}{C C':Nat->ig}(h:HI N L d M i C)(y:i<=N)(q:Nat->ig)(o:∀j r,j<N->r<N->C' j r=C j r+(if i<=r then M i*q j r else 0)):HI N L d M i C':=by
 have lo:∀j r,j<N->r<i->C' j r=C j r:=fun j r b a=>by rw[o j r b om,af om];omega
 refine⟨fun j b=>?_,fun j g n r a=>by rw[lo j r n a];exact h.zero j g n r a,fun x v w=>?_,fun j b=>?_⟩
 .have g:=f.lat.sum (fun r=>if i<=r then gR (M i) r else fun _=>0) (q j) N (fun r a=>by
   split
   .rename_i c;exact f.unit i r c a
   .exact f.lat.zero)
  refine f.lat.ext _ _ (f.lat.add (h.mem j b) g) (fun r a=>?_);rw[o j r b a,cJ r a (fun k A p=>by
   by_cases c:i<=k
   .simp[c,gR,aj p]
   .simp[c])]
  by_cases c:i<=r
  .simp[c,gR]
  .simp[c]
 .obtain⟨t,z,s⟩:=h.gen x v w;refine⟨t,fun r=>z r-aq N (fun j=>if i<=j then q j r*t j else 0),fun r a l=>?_⟩
  rw[s r a l];have e:aq N (fun j=>if i<=j then C' j r*t j else 0)=aq N (fun j=>if i<=j then C j r*t j else 0)+M i*aq N (fun j=>if i<=j then q j r*t j else 0):=by
   rw[<-df,<-eE];refine aB fun j b=>?_;split
   .rw[o j r b l,ah a];grind
   .simp
  rw[e];grind
 .obtain⟨g,n,c⟩:=h.done j b;refine⟨fun r a=>by rw[lo j r om om];exact g r a,by rw[lo j j om b];exact n,fun r u m=>by rw[lo j r om m];exact c r u m⟩
def tp(g:i<n)(l:j<n)(c:i≠j)(h:∀k,k<n->k≠i->k≠j->f k=0):aq n f=f i+f j:=by
 have e:aq n f=aq n (fun k=>(if k=i then f i else 0)+(if k=j then f j else 0)):=aB fun k a=>by
  by_cases b:k=i
  .subst b;simp[c]
  .by_cases d:k=j
   .subst d;simp[b]
   .simp[b,d,h k a b d]
 rw[e,eE,cJ i g (fun k _ a=>by simp[a]),cJ j l (fun k _ a=>by simp[a])]
 simp
def HI.comb(o:TL N L d M){i j:Nat}{C C':Nat->ig}(h:HI N L d M i C)(H:i<j)(s:j<N){a b x y:Int}(F:a*x+b*y=1)
  (u:∀r,r<N->C' i r=a*C i r+b*C j r) (w:∀r,r<N->C' j r=x*C j r-y*C i r) (q:∀k r,k<N->r<N->k≠i->k≠j->C' k r=C k r):HI N L d M i C':=by
 have n:i<N:=om
 refine⟨fun k g=>?_,fun k A p r c=>?_,fun v I J=>?_,fun k g=>?_⟩
 .by_cases l:k=i
  .subst l;exact o.lat.ext _ _ (o.lat.comb _ _ (h.mem k g) (h.mem j s) a b) (fun r c=>(u r c).symm)
  .by_cases m:k=j
   .subst m;exact o.lat.ext _ _ (o.lat.comb _ _ (h.mem k g) (h.mem i n) x (-y)) (fun r c=>by rw[w r c];grind)
   .exact o.lat.ext _ _ (h.mem k g) (fun r c=>(q k r g c l m).symm)
 .have G:=h.zero i (ae _) n r c;have z2:=h.zero j om s r c;by_cases l:k=i
  .subst l;rw[u r om,G,z2];simp
  .by_cases m:k=j
   .subst m;rw[w r om,G,z2];simp
   .rw[q k r p om l m];exact h.zero k A p r c
 .obtain⟨t,z,B⟩:=h.gen v I J;refine⟨fun k=>if k=i then x*t i+y*t j else if k=j then a*t j-b*t i else t k,z,fun r c f=>?_⟩
  rw[B r c f];congr 1;have e:aq N (fun k=>(if i<=k then C' k r*(if k=i then x*t i+y*t j else if k=j then a*t j-b*t i else t k)else 0)+(-1)*(if i<=k then C k r*t k else 0))=0:=by
   rw[tp n s om (fun k g l m=>by
    simp only[l,m,aM];split
    .rw[q k r g f l m];omega
    .simp)]
   simp only[ae,aK,(om:i<=j),(om:j≠i),aM]
   rw[u r f,w r f];have:C i r*t i=(a*x+b*y)*(C i r*t i):=by rw[F];omega
   have:C j r*t j=(a*x+b*y)*(C j r*t j):=by rw[F];omega
   grind
  rw[eE,df]at e;show _=aq N (fun k=>if i<=k then C' k r*(if k=i then x*t i+y*t j else if k=j then a*t j-b*t i else t k)else 0)
  omega
 .obtain⟨K,O,P⟩:=h.done k g;have e:∀r,r<N->C' k r=C k r:=fun r c=>q k r om c om om;exact⟨fun r c=>by rw[e r om];exact K r c,by rw[e k om];exact O,fun r D E=>by rw[e r om];exact P r D E⟩
def HI.pivot_eq(e:TL N L d M){i:Nat}{C:Nat->ig}(h:HI N L d M i C)(c:i<N)(k:∀j,i<j->j<N->C j i=0){p a b:Int}(l:0<p)(m:p=a*C i i+b*M i)(n:p∣C i i)(o:p∣M i):p=d i:=by
 have q:d i∣p:=by
  rw[m];exact iO (cD (e.dvd _ (h.mem i c) i c (h.zero i (ae _) c))) (cD ⟨M (i+1),e.step i c⟩)
 have r:p∣d i:=by
  obtain⟨x,s,u,v⟩:=e.col i c;obtain⟨t,z,f⟩:=h.gen x s u;have g:=f i (ae _) c;rw[v,cJ i c (fun j w y=>by
   split
   .rw[k j om w];simp
   .rfl)]at g
  simp only[ae,aK]at g;rw[g];exact iO (gX n) (gX o)
 exact Vv (cC l) (cC (e.pos i c)) r q
def HI.pivot(k:TL N L d M){i:Nat}{C C':Nat->ig}(h:HI N L d M i C)(f:i<N)(B:∀j,i<j->j<N->C j i=0){p a b:Int}(S:0<p)(D:p=a*C i i+b*M i)(K:p∣C i i)(T:p∣M i)(q:ig)
  (E:∀r,r<N->C' i r=if r=i then p else a*C i r) (y:∀j r,j<i->r<N->C' j r=C j r-q j*C' i r) (F:∀j r,i<j->j<N->r<N->C' j r=C j r) (U:∀j,j<i->0<=C' j i/\C' j i<p) :
  HI N L d M (i+1) C':=by
 have m:=h.pivot_eq k f B S D K T;have V:=h.zero i (ae _) f;have g:∀r,r<i->C' i r=0:=fun r c=>by rw[E r om,af om,V r c];simp
 have o:L (C' i):=k.lat.ext _ _ (k.lat.comb _ _ (h.mem i f) (k.unit i i (ae _) f) a b) (fun r c=>by
  rw[E r c];simp only[gR];by_cases e:r=i
  .subst e;simp[D]
  .simp[e])
 refine⟨fun j l=>?_,fun j W n r c=>?_,fun x X O=>?_,fun j l=>?_⟩
 .rcases aF j i with P|P
  .exact k.lat.ext _ _ (k.lat.comb _ _ (h.mem j l) o 1 (- q j)) (fun r c=>by rw[y j r P c];grind)
  .by_cases e:j=i
   .subst e;exact o
   .exact k.lat.ext _ _ (h.mem j l) (fun r c=>(F j r om l c).symm)
 .rw[F j r om n om];by_cases e:r=i
  .subst e;exact B j om n
  .exact h.zero j om n r om
 .obtain⟨t,z,s⟩:=h.gen x X (fun r c=>O r om);have G:=s i (ae _) f;rw[O i om,cJ i f (fun j l H=>by
   split
   .rw[B j om l];simp
   .rfl)]at G
  simp only[ae,aK]at G;obtain⟨u,Q⟩:=K;have A:=k.step i f;rw[<-m]at A;have I:a*u+b*M (i+1)=1:=by
   rw[Q,A]at D;refine cL (om:p≠0) ?_
   grind
  have Y:u*t i+M (i+1)*z i=0:=by
   rw[Q,A]at G;refine cL (om:p≠0) ?_
   grind
  have Z:t i=M (i+1)*(b*t i-a*z i):=by
   have:t i=(a*u+b*M (i+1))*t i:=by rw[I];omega
   have:a*(u*t i+M (i+1)*z i)=0:=by rw[Y];omega
   grind
  refine⟨t,fun r=>C i r*(b*t i-a*z i)+p*z r,fun r c v=>?_⟩;rw[s r om v,A];have e:aq N (fun j=>(if i<=j then C j r*t j else 0)+(-1)*(if i+1<=j then C' j r*t j else 0))=C i r*t i:=by
   rw[cJ i f (fun j l H=>?_)]
   .rw[ah (ae _),af om];omega
   .by_cases R:i<=j
    .rw[ah R,ah om,F j r om l v];omega
    .rw[af R,af om];omega
  rw[eE,df]at e;have h10:C i r*t i=M (i+1)*(C i r*(b*t i-a*z i)):=by
   have:C i r*t i=C i r*(M (i+1)*(b*t i-a*z i)):=by rw[<-Z]
   grind
  grind
 .by_cases e:j=i
  .subst e;exact⟨g,by rw[E j f,ah rfl,m],fun r w J=>om⟩
  .obtain⟨g1,g2,g3⟩:=h.done j om;refine⟨fun r c=>by rw[y j r om om,g1 r c,g r om];simp,by rw[y j j om om,g2,g j om];simp,fun r w J=>?_⟩
   by_cases e':r=i
   .subst e';rw[<-m];exact U j om
   .rw[y j r om om,g r om];have:=g3 r w om;simpa using this
def HI.span(c:TL N L d M){C:Nat->ig}(h:HI N L d M N C)(x:ig):fC N N (fun r j=>C j r) x↔L x:=by
 constructor
 .exact fC.sub c.lat (fun j f=>c.lat.ext _ _ (h.mem j f) (fun _ _=>rfl))
 .intro m;have g:=fC.lat N N (fun r j=>C j r);have key:∀i,i<=N->∃y,fC N N (fun r j=>C j r) y/\∀r,r<i->y r=x r:=by
   intro i
   induction i with
   | zero=>intro _;exact⟨_,g.zero,fun r k=>om⟩
   | succ i ih =>
    intro p;obtain⟨y,a,b⟩:=ih om;have l:L y:=fC.sub c.lat (fun j f=>c.lat.ext _ _ (h.mem j f) (fun _ _=>rfl)) a;obtain⟨q,s⟩:=c.dvd (fun r=>1*x r+(-1)*y r) (c.lat.comb _ _ m l 1 (-1)) i om (fun r k=>by simp only[b r k];omega)
    refine⟨fun r=>1*y r+q*C i r,g.comb _ _ a (fC.col (j:=i) om) 1 q,fun r k=>?_⟩;obtain⟨n,o,_⟩:=h.done i om;by_cases e:r=i
    .subst e;simp only;rw[o];grind
    .simp only;rw[n r om,b r om];omega
  obtain⟨y,a,b⟩:=key N (ae _);exact g.ext _ _ a b

def gU(p:Int)(piv:Nat)(q:Nat->Int):aH:=fun i j=>if j=piv then(if i=piv then p*p else 0)else if i=j then p else if i=piv then-(p*q j)else 0
def tB(n:Nat)(p:Int)(piv:Nat)(q x:Nat->Int):aH:=fun i j=>if j<n then gU p piv q i j else x i
def Pw{piv:Nat}(w:Nat->Int)(a:piv<n){j:Nat}(b:j<n):aq n (fun i=>w i*gU p piv q i j)=if j=piv then w piv*(p*p)else w j*p-w piv*(p*q j):=by
 by_cases e:j=piv
 .subst e;rw[cJ j b (fun i _ c=>by simp[gU,c])];simp[gU]
 .rw[tp b a e (fun i _ d f=>by simp[gU,e,d,f]),af e]
  simp[gU,e,aj e];grind
def Pu{piv:Nat}(i j:Nat):p∣gU p piv q i j:=by
 unfold gU;split
 .split
  .exact⟨p,rfl⟩
  .exact jp _
 .split
  .exact iL _
  .split
   .exact⟨- q j,by grind⟩
   .exact jp _
def Dy{piv:Nat}{x:Nat->Int}(i:Nat)(c:Nat->Int):aq (n+1) (fun j=>tB n p piv q x i j*c j)=aq n (fun j=>gU p piv q i j*c j)+x i*c n:=by
 simp only[aq];rw[aB (g:=fun j=>gU p piv q i j*c j) (fun j a=>by simp[tB,a])]
 simp[tB]
def ju:Nat->(Nat->Nat)->Nat
 | 0,_=>1
 | n+1,f=>f 0*ju n (fun i=>f (i+1))
def tw{f:Nat->Nat}(h:∀i,i<n->f i<=g i):ju n f<=ju n g:=by
 induction n generalizing f g with
 | zero=>exact ae _
 | succ n ih=>simp only[ju];exact aV (h 0 om) (ih fun i a=>h (i+1) om)
def pF(n:Nat)(f:Nat->Int):(aq n f).natAbs<=dN n f:=by
 induction n with
 | zero=>simp[aq,dN]
 | succ n ih=>simp only[aq,dN];omega
def AN(f:Nat->Int){j:Nat}(b:j<n+1):dN n (fun k=>f (skip j k))+(f j).natAbs=dN (n+1) f:=by
 induction n with
 | zero=>rw[(om:j=0)];simp[dN]
 | succ n ih =>
  by_cases e:j=n+1
  .subst e;rw[show dN (n+1) (fun k=>f (skip (n+1) k))=dN (n+1) f from ?_]
   .simp only[dN]
   .have key:∀m,m<=n+1->dN m (fun k=>f (skip (n+1) k))=dN m f:=by
     intro m
     induction m with
     | zero=>intro _;rfl
     | succ m a=>intro c;simp only[dN];rw[a om];simp[skip,(om:m<n+1)]
    exact key _ (ae _)
  .have:=ih om;simp only[dN]at this ⊢;rw[show skip j n=n+1 by simp[skip];omega]
   omega
theorem DX:∀(n:Nat) (A:aH),(det n A).natAbs<=ju n (fun i=>dN n (A i))
 | 0,_=>by simp[det,ju]
 | n+1,A=>by
  simp only[det,ju];have key:∀m,m<=n+1->(aq m (fun j=>nF j*A 0 j*det n (cut A j))).natAbs<=dN m (A 0)*ju n (fun i=>dN (n+1) (A (i+1))):=by
   intro m
   induction m with
   | zero=>intro _;simp[aq]
   | succ m ih =>
    intro c;have d:=ih om;rw[show dN (m+1) (A 0)=dN m (A 0)+(A 0 m).natAbs from rfl];simp only[aq];rw[dV];have e:(nF m*A 0 m*det n (cut A m)).natAbs=(A 0 m).natAbs*(det n (cut A m)).natAbs:=by
     rw[cH,cH];have:(nF m).natAbs=1:=by unfold nF;split<;>rfl
     rw[this,kQ]
    have a:=DX n (cut A m);have b:ju n (fun i=>dN n (cut A m i))<=ju n (fun i=>dN (n+1) (A (i+1))):=tw fun i _=>by
     have:=AN (A (i+1)) (om:m<n+1)
     show dN n (fun k=>A (i+1) (skip m k))<=_;omega
    have f:=aL (A 0 m).natAbs (a9 a b);omega
  exact key _ (ae _)

theorem TL.uniq{N:Nat}{L:ig->Prop}{d M d' M':Nat->Int}(h:TL N L d M)(h':TL N L d' M'):∀m i,N-i<=m->i<=N->M i=M' i
 | 0,i,j,k=>by rw[(om:i=N),h.last,h'.last]
 | m+1,i,j,k=>by
  by_cases e:i=N
  .rw[e,h.last,h'.last]
  .rw[h.step i om,h'.step i om,TL.uniq h h' m (i+1) om om];have a:d i∣d' i:=by
    obtain⟨x,c,f,g⟩:=h'.col i om;rw[<-g];exact h.dvd x c i om f
   have b:d' i∣d i:=by
    obtain⟨x,c,f,g⟩:=h.col i om;rw[<-g];exact h'.dvd x c i om f
   rw[Vv (cC (h.pos i om)) (cC (h'.pos i om)) a b]
def DS{c:Nat}(A:aH)(d:c<n)(h:∀i,i<n->A i c=0):det n A=0:=by
 have f:=si A d 0 0 (fun _=>0) (fun _=>0);rw[bI (B:=cb A c (fun j=>0*(fun _=>0) j+0*(fun _=>0) j)) (fun a b g _=>by
  simp only[cb];split
  .rename_i e;rw[e,h a g];simp
  .rfl),f]
 simp
def DT(A:aH)(q:k<n)(h:∀j,j<n->A k j=du k j):det n A=det n (cb A k (du k)):=by
 have key:∀m,m<=n->det n (fun a b=>if a<m/\a≠k/\b=k then 0 else A a b)=det n A:=by
  intro m
  induction m with
  | zero=>intro _;exact bI fun a b _ _=>by simp
  | succ m ih =>
   intro r;rw[<-ih om];by_cases e:m=k
   .subst e;exact bI fun a b _ _=>by
     by_cases e:a=m
     .simp[e]
     .by_cases c:a<m
      .simp[c,(om:a<m+1)]
      .simp[c,(om:¬a<m+1)]
   .have f:=lU (fun a b=>if a<m/\a≠k/\b=k then 0 else A a b) (i:=m) (k:=k) om q e 1 (- A m k)
    rw[dG]at f;rw[<-f];refine bI fun a b _ g=>?_;simp only[setRow];have d:=h b g;unfold du at d;by_cases l:a=m
    .subst l;by_cases o:b=k
     .subst o;simp[e,d];omega
     .simp[o,d]
    .rw[af l];by_cases c:a<m
     .simp[c,(om:a<m+1)]
     .simp[c,(om:¬a<m+1)]
 rw[<-key n (ae _)];refine bI fun a b p g=>?_;simp only[cb,du];by_cases e:b=k
 .subst e;by_cases c:a=b
  .subst c;rw[h a p];simp[du]
  .simp[p,c]
 .simp[e]
def Lp{piv:Nat}(c:piv<n)(r s:Nat->Int)(k:∀i,i<n->0<s i):det n (fun i j=>if i=piv then r j else if i=j then s i else 0)=r piv*gF n (fun i=>if i=piv then 1 else s i):=by
 have h:=Ay (fun i j=>if i=piv then r j else if i=j then s i else 0) c r
 rw[bI (B:=setRow (fun i j=>if i=piv then r j else if i=j then s i else 0) piv r) (fun a b _ _=>by simp only[setRow];split<;>rfl),<-h]
 rw[cJ piv c (fun j m d=>by
  unfold qa;rw[DS _ c (fun i o=>?_),jZ];simp only[setRow,du];by_cases e:i=piv
  .rw[ah e,af (aj d)]
  .rw[af e,af e,af e])]
 congr 1;unfold qa;have f:=qy (n:=0) n (fun i j=>if i=j then(if i=piv then 1 else s i)else 0) (by
  rw[az];refine fun r l=>⟨fun j h f=>af om,?_⟩;show(0:Int)<(if r=r then(if r=piv then 1 else s r)else 0)
  rw[ah rfl];split
  .decide
  .exact k r l)
 rw[az]at f;rw[bI (B:=fun i j=>if i=j then(if i=piv then 1 else s i)else 0) (fun a b _ _=>by
  simp only[setRow,du];by_cases e:a=piv
  .subst e;by_cases g:b=a
   .simp[g]
   .simp[g,aj g]
  .simp[e]),f]
 simp only[aK,det,iN]
def rt{g:Nat->Int}(h:∀i,i<n->f i=g i):gF n f=gF n g:=by
 induction n generalizing f g with
 | zero=>rfl
 | succ n ih=>simp only[gF];rw[h 0 om,ih fun i a=>h (i+1) om]
def zT(b:a<n)(f:Nat->Int):gF n (fun i=>if i=a then 1 else f i)*f a=gF n f:=by
 induction n generalizing a f with
 | zero=>omega
 | succ n ih =>
  simp only[gF]
  cases a with
  | zero =>
   rw[ah rfl,rt (g:=fun i=>f (i+1)) (fun i _=>af om),dG,ck]
  | succ a =>
   have:=ih (a:=a) om (fun i=>f (i+1));rw[af om,rt (g:=fun i=>if i=a then 1 else f (i+1)) (fun i _=>by
    by_cases e:i=a
    .simp[e]
    .simp[e]),fK,this]
def Fr(n:Nat)(p:Int):gF n (fun _=>p)=p^n:=by
 induction n with
 | zero=>simp[gF]
 | succ n ih=>simp only[gF];rw[ih,gC,ck]
def Fh(A:p≠0){piv:Nat}(d:piv<n){w q:Nat->Int}{inv:Int}(h:p∣inv*w piv-1)(o:∀j,j<n->j≠piv->p∣q j*w piv-w j)(y:ig) :
  fC n n (gU p piv q) y↔∃a:ig,(∀i,i<n->y i=p*a i)/\p∣aq n (fun i=>w i*a i):=by
 constructor
 .rintro⟨c,v⟩;have x:∀i,i<n->y i=p*(y i/p):=fun i b=>by
   rw[gW];rw[v i b];exact jg fun j _=>gX (Pu _ _)
  refine⟨fun i=>y i/p,x,?_⟩;have B:p*aq n (fun i=>w i*(y i/p))=aq n (fun j=>c j*aq n (fun i=>w i*gU p piv q i j)):=by
   rw[<-df,aB (g:=fun i=>aq n (fun j=>c j*(w i*gU p piv q i j))) (fun i b=>by
    have C:=x i b;rw[show p*(w i*(y i/p))=w i*(p*(y i/p)) by grind,<-C,v i b,<-df]
    exact aB fun j _=>by grind),qi]
   exact aB fun j _=>by rw[df]
  have D:p*p∣aq n (fun j=>c j*aq n (fun i=>w i*gU p piv q i j)):=jg fun j f=>by
   refine cD ?_;rw[Pw w d f];split
   .exact⟨w piv,by grind⟩
   .rename_i e;obtain⟨t,E⟩:=o j f e;exact⟨- t,by
     have:w j=q j*w piv-p*t:=om
     rw[this];grind⟩
  obtain⟨u,k⟩:=D;exact⟨u,cL A (by rw[B,k,fK])⟩
 .rintro⟨a,F,s,G⟩;obtain⟨Q,z⟩:∃Q,Q=aq n (fun j=>if j=piv then 0 else q j*a j):=⟨_,rfl⟩
  have H:p∣w piv*(a piv+Q):=by
   have e:w piv*(a piv+Q)=aq n (fun i=>w i*a i)+aq n (fun j=>if j=piv then 0 else(q j*w piv-w j)*a j):=by
    rw[z,UX,<-df,<-eE];have I:w piv*a piv=aq n (fun j=>if j=piv then w j*a j else 0):=by
     rw[cJ piv d (fun i _ b=>by rw[af b])];simp
    rw[I,<-eE];exact aB fun j _=>by
     by_cases e:j=piv
     .simp[e]
     .simp[e];grind
   rw[e,G];refine iO ⟨s,rfl⟩ (jg fun j f=>?_);split
   .exact jp _
   .exact gX (o j f (by assumption))
  obtain⟨r,J⟩:p∣a piv+Q:=by
   obtain⟨u,k⟩:=H;obtain⟨t,E⟩:=h;refine⟨inv*u-t*(a piv+Q),?_⟩;have e:inv*(w piv*(a piv+Q))=inv*(p*u):=by rw[k]
   have l:inv*w piv=1+p*t:=om
   grind
  refine⟨fun j=>if j=piv then r else a j,fun i b=>?_⟩
  rw[F i b];by_cases e:i=piv
  .subst e;rw[aB (g:=fun j=>(if j=i then p*p*r else 0)+(- p)*(if j=i then 0 else q j*a j)) (fun j f=>by
    by_cases e:j=i
    .subst e;simp[gU]
    .simp[gU,e,aj e];grind),eE,df,<-z,cJ i b (fun j _ f=>by rw[af f])]
   simp only[aK];have:Q=p*r-a i:=om
   rw[this];grind
  .rw[cJ i b (fun j f m=>by
    by_cases l:j=piv
    .simp[gU,l,e]
    .simp[gU,l,e,aj m])]
   simp[gU,e]
def BO(n:Nat)(p:Int)(w x y:ig):Prop:=∃(c:Int) (a:ig),(∀i,i<n->y i=c*x i+p*a i)/\p∣aq n (fun i=>w i*a i)
def Dx(o:p≠0){piv:Nat}(b:piv<n){w x q:Nat->Int}{inv:Int}(e:p∣inv*w piv-1)(r:∀j,j<n->j≠piv->p∣q j*w piv-w j)(y:ig) :
  fC n (n+1) (tB n p piv q x) y↔BO n p w x y:=by
 have m:=Fh o b e r;constructor
 .rintro⟨c,s⟩;obtain⟨a,h,k⟩:=(m (fun i=>aq n fun j=>gU p piv q i j*c j)).1 ⟨c,fun _ _=>rfl⟩;exact⟨c n,a,fun i f=>by rw[s i f,Dy,h i f];grind,k⟩
 .rintro⟨c,a,h,k⟩;obtain⟨d,t⟩:=(m (fun i=>p*a i)).2 ⟨a,fun _ _=>rfl,k⟩;refine⟨fun j=>if j=n then c else d j,fun i f=>?_⟩
  have g:=t i f;dsimp only at g;have l:aq n (fun j=>gU p piv q i j*(if j=n then c else d j))=aq n (fun j=>gU p piv q i j*d j):=aB fun j u=>by rw[af om]
  rw[Dy,h i f,g,l];simp only[aK];grind
def tY(w a b:ig)(k:Int):aq n (fun i=>w i*(a i+k*b i))=aq n (fun i=>w i*a i)+k*aq n (fun i=>w i*b i):=by
 rw[<-df,<-eE];exact aB fun i _=>by grind
def BO.change{w x a:ig}(d:p∣aq n (fun i=>w i*a i)){y:ig}(h:BO n p w x y):BO n p w (fun i=>x i+p*a i) y:=by
 obtain⟨c,b,e,f⟩:=h;refine⟨c,fun i=>b i+(-c)*a i,fun i g=>by rw[e i g];grind,?_⟩
 rw[tY];exact iO f (cD d)
def BO.change_iff{w x a:ig}(d:p∣aq n (fun i=>w i*a i))(y:ig):BO n p w x y↔BO n p w (fun i=>x i+p*a i) y:=by
 refine⟨BO.change d,fun h=>?_⟩;have e:p∣aq n (fun i=>w i*(- a i)):=by
  rw[aB (g:=fun i=>(-1)*(w i*a i)) (fun i _=>by grind),df]
  exact cD d
 obtain⟨c,b,f,j⟩:=BO.change e h;exact⟨c,b,fun i k=>by rw[f i k];grind,j⟩
def Ns(s:p≠0){piv b:Nat}(f:piv<n)(l:b<n)(m:b≠piv){w x q:Nat->Int}{inv:Int}(k:p∣inv*w piv-1)(u:∀j,j<n->j≠piv->p∣q j*w piv-w j)
  (A:x b=1) (o:p∣aq n (fun i=>w i*x i)) (y:ig):fC n n (cb (gU p piv q) b x) y↔BO n p w x y:=by
 constructor
 .intro h;rw[<-Dx s f k u];refine fC.sub (fC.lat n (n+1) (tB n p piv q x)) (fun j r=>?_) h;by_cases e:j=b
  .exact(fC.lat n (n+1) _).ext _ _ (fC.col (j:=n) om) fun i _=>by simp[tB,cb,e]
  .exact(fC.lat n (n+1) _).ext _ _ (fC.col (j:=j) om) fun i _=>by simp[tB,cb,e,r]
 .rintro⟨c,a,B,C⟩;have D:p∣aq n (fun i=>w i*(a i+(- a b)*x i)):=by
   rw[tY];exact iO C (cD o)
  obtain⟨d,v⟩:=(Fh s f k u (fun i=>p*(a i+(- a b)*x i))).2 ⟨_,fun _ _=>rfl,D⟩;have E:d b=0:=by
   have t:=v b l;simp only at t;rw[cJ b l (fun j _ r=>by simp[gU,m,aj r])]at t
   simp only[gU,af m,aK,A]at t;have F:p*d b=0:=by grind
   rcases fZ.1 F with h|h
   .exact absurd h s
   .exact h
  refine⟨fun j=>if j=b then c+p*a b else d j,fun i z=>?_⟩
  rw[aB (g:=fun j=>(if j=b then x i*(c+p*a b)else 0)+gU p piv q i j*d j) (fun j _=>by
   by_cases e:j=b
   .simp[cb,e,E]
   .simp[cb,e]),eE,<-v i z,cJ b l (fun j _ r=>by rw[af r]),B i z]
  simp only[aK];grind
def Pv(r:0<p){piv b:Nat}(c:piv<n)(h:b<n)(a:b≠piv){x q:Nat->Int}(o:x b=1):det n (cb (gU p piv q) b x)=p^n:=by
 rw[DT _ h (fun j _=>by
  simp only[cb,du];by_cases e:j=b
  .simp[e,o]
  .simp[e,gU,a,aj e])]
 rw[bI (B:=fun i j=>if i=piv then(fun j=>if j=b then 0 else if j=piv then p*p else-(p*q j)) j else if i=j then(fun i=>if i=b then 1 else p) i else 0) (fun i j _ _=>by
  simp only[cb,du,gU];by_cases e:j=b
  .subst e;by_cases d:i=piv
   .simp[d,aj a]
   .by_cases k:i=j
    .simp[k,a]
    .simp[d,k]
  .by_cases d:i=piv
   .subst d;by_cases f:j=i
    .simp[f,aj a]
    .simp[e,f,aj f]
   .by_cases k:i=j
    .subst k;simp[e,d]
    .by_cases f:j=piv
     .simp[d,f,aj a]
     .simp[e,d,k,f]),Lp c _ _ (fun i _=>by split<;>omega)]
 rw[af (aj a),ah rfl];have l:=zT c (fun _=>p);have m:=zT h (fun i=>if i=piv then 1 else p)
 rw[af a]at m;rw[Fr]at l;rw[<-l,<-m,rt (g:=fun i=>if i=b then 1 else if i=piv then 1 else p) (fun i _=>by
  by_cases e:i=piv
  .simp[e]
  .simp[e])]
 grind
def P2(o:0<p){piv a:Nat}(b:piv<n)(e:a<n)(c:a≠piv){w x:Nat->Int}{inv t:Int}(f:p∣inv*w piv-1)(r:x a=1+p*t)(g:p∣aq n (fun i=>w i*x i))
  {B:aH} (s:wU n n B) (A:∀y,fC n n B y↔BO n p w x y):det n B=p^n:=by
 obtain⟨u,C⟩:=f;have v:p∣aq n (fun i=>w i*(fun i=>if i=a then-t else if i=piv then t*w a*inv else 0) i):=by
  rw[tp e b c (fun k _ h l=>by simp[h,l])]
  simp only[aK,af (aj c)];exact⟨t*w a*u,by
   have:inv*w piv=1+p*u:=om
   grind⟩
 have D:∀j,j<n->j≠piv->p∣inv*w j*w piv-w j:=fun j _ _=>⟨u*w j,by
  have:inv*w piv=1+p*u:=om
  grind⟩
 have E:=Ns (x:=fun i=>x i+p*(fun i=>if i=a then-t else if i=piv then t*w a*inv else 0) i) (q:=fun j=>inv*w j) om b e c ⟨u,C⟩ D (by simp only[aK,r];grind) (by
  rw[tY];exact iO g (cD v))
 have z:=Pv (q:=fun j=>inv*w j) o b e c (x:=fun i=>x i+p*(fun i=>if i=a then-t else if i=piv then t*w a*inv else 0) i) (by simp only[aK,r];grind)
 have F:(0:Int)<p^n:=IW o;obtain⟨d,M,G,m⟩:=TL.of_det (N:=n) (w:=cb (gU p piv (fun j=>inv*w j)) a (fun i=>x i+p*(fun i=>if i=a then-t else if i=piv then t*w a*inv else 0) i)) (by rw[z];omega)
 have h:=(TL.of_tri s).uniq (G.congr (fC.lat n n B) fun y=>by rw[A,E,BO.change_iff v]) n 0 om om
 rw[m,z]at h;have l:=qy (n:=0) n B (by rw[az];exact s)
 rw[az]at l;rw[l];simp only[Fc,d6,az,det,iN]at h ⊢;rw[h];omega
theorem xQ{n m:Nat}(C:aH)(d:m<n)(x:Int)(c:Nat->Int):∀K,K<=n->det n (cb C m (fun a=>x*C a m+aq K (fun k=>if m<k then c k*C a k else 0)))=x*det n C
 | 0,_=>by
  have h:=si C d x 0 (fun a=>C a m) (fun a=>C a m);rw[ky]at h;rw[bI (B:=cb C m (fun a=>x*C a m+0*C a m)) (fun a b _ _=>by simp[cb,aq]),h];omega
 | K+1,g=>by
  have ih:=xQ C d x c K om;by_cases e:m<K
  .have h:=si C d 1 (c K) (fun a=>x*C a m+aq K (fun k=>if m<k then c k*C a k else 0)) (fun a=>C a K)
   have f:det n (cb C m (fun a=>C a K))=0:=mX _ e om (fun j _=>by simp only[cb];rw[ah trivial,af om])
   rw[bI (B:=cb C m (fun a=>1*(x*C a m+aq K (fun k=>if m<k then c k*C a k else 0))+c K*C a K)) (fun a b _ _=>by simp only[cb,aq,ah e];split<;>grind),h,ih,f];omega
  .rw[bI (B:=cb C m (fun a=>x*C a m+aq K (fun k=>if m<k then c k*C a k else 0))) (fun a b _ _=>by simp only[cb,aq,af e];split<;>grind),ih]
def Iq(A B:aH)(p:∀r c,r<c->c<n->B r c=0):det n (mm n A B)=gF n (fun i=>B i i)*det n A:=by
 have key:∀m,m<=n->det n (fun a b=>if b<m then mm n A B a b else A a b)=gF m (fun i=>B i i)*det n A:=by
  intro m
  induction m with
  | zero=>intro _;simp[gF]
  | succ m ih =>
   intro t;have l:=xQ (fun a b=>if b<m then mm n A B a b else A a b) (om:m<n) (B m m) (fun k=>B k m) n (ae _)
   rw[ih om]at l;have g:∀(k:Nat) (f:Nat->Int),gF (k+1) f=f k*gF k f:=by
    intro k
    induction k with
    | zero=>intro f;simp[gF]
    | succ k ih=>intro f;rw[gF,ih (fun i=>f (i+1))];simp only[gF];grind
   rw[g,fK,<-l];refine bI fun a b _ d=>?_;simp only[cb];by_cases e:b=m
   .subst e;rw[ah rfl,ah om];simp only[cT,aM];unfold mm;have q:B b b*A a b=aq n (fun k=>if k=b then A a k*B k b else 0):=by
     rw[cJ b d (fun j _ s=>by rw[af s])];simp[ck]
    rw[q,<-eE];refine aB fun k u=>?_;rcases dS k b with h|h|h
    .rw[p k b h d,af om,af om];simp
    .rw[ah h,af om];omega
    .rw[af om,ah h,af om,ck];omega
   .rw[af e];by_cases o:b<m
    .rw[ah o,ah om]
    .rw[af o,af om]
 rw[<-key n (ae _)];exact bI fun a b _ d=>by rw[ah d]
theorem xP{n m:Nat}(C:aH)(d:m<n)(x:Int)(c:Nat->Int):∀K,K<=n->det n (setRow C m (fun a=>x*C m a+aq K (fun k=>if m<k then c k*C k a else 0)))=x*det n C
 | 0,_=>by
  have h:=qz C d x 0 (fun a=>C m a) (fun a=>C m a);rw[show setRow C m (fun a=>C m a)=C from jK C m]at h;rw[bI (B:=setRow C m (fun a=>x*C m a+0*C m a)) (fun a b _ _=>by simp[setRow,aq]),h];omega
 | K+1,g=>by
  have ih:=xP C d x c K om;by_cases e:m<K
  .have h:=qz C d 1 (c K) (fun a=>x*C m a+aq K (fun k=>if m<k then c k*C k a else 0)) (fun a=>C K a)
   have f:det n (setRow C m (fun a=>C K a))=0:=pc C d om om;rw[bI (B:=setRow C m (fun a=>1*(x*C m a+aq K (fun k=>if m<k then c k*C k a else 0))+c K*C K a)) (fun a b _ _=>by simp only[setRow,aq,ah e];split<;>grind),h,ih,f];omega
  .rw[bI (B:=setRow C m (fun a=>x*C m a+aq K (fun k=>if m<k then c k*C k a else 0))) (fun a b _ _=>by simp only[setRow,aq,af e];split<;>grind),ih]
def Ip(A B:aH)(p:∀r c,r<c->c<n->B r c=0):det n (mm n (fun i j=>B j i) A)=gF n (fun i=>B i i)*det n A:=by
 have key:∀m,m<=n->det n (fun a b=>if a<m then mm n (fun i j=>B j i) A a b else A a b)=gF m (fun i=>B i i)*det n A:=by
  intro m
  induction m with
  | zero=>intro _;simp[gF]
  | succ m ih =>
   intro t;have l:=xP (fun a b=>if a<m then mm n (fun i j=>B j i) A a b else A a b) (om:m<n) (B m m) (fun k=>B k m) n (ae _)
   rw[ih om]at l;have g:∀(k:Nat) (f:Nat->Int),gF (k+1) f=f k*gF k f:=by
    intro k
    induction k with
    | zero=>intro f;simp[gF]
    | succ k ih=>intro f;rw[gF,ih (fun i=>f (i+1))];simp only[gF];grind
   rw[g,fK,<-l];refine bI fun a b d _=>?_;simp only[setRow];by_cases e:a=m
   .subst e;rw[ah rfl,ah om];simp only[cT,aM];unfold mm;have q:B a a*A a b=aq n (fun k=>if k=a then B k a*A k b else 0):=by
     rw[cJ a d (fun j _ s=>by rw[af s])];simp
    rw[q,<-eE];refine aB fun k u=>?_;dsimp only;rcases dS k a with h|h|h
    .rw[p k a h d,af om,af om];simp
    .rw[ah h,af om];omega
    .rw[af om,ah h,af om];omega
   .rw[af e];by_cases o:a<m
    .rw[ah o,ah om]
    .rw[af o,af om]
 rw[<-key n (ae _)];exact bI fun a b d _=>by rw[ah d]
def jy(n:Nat)(H:aH)(u v:ig):Int:=aq n fun i=>(aq n fun j=>H i j*v j)*u i
def pR(H:aH)(c d:Int)(u u' v:ig):jy n H (fun i=>c*u i+d*u' i) v=c*jy n H u v+d*jy n H u' v:=by
 unfold jy;rw[<-pE];exact aB fun i _=>by grind
def jn(c:∀a b,a<n->b<n->H a b=H b a)(u v:ig):jy n H u v=jy n H v u:=by
 unfold jy;rw[aB (g:=fun i=>aq n fun j=>H i j*v j*u i) (fun i _=>by rw[ck,<-df];exact aB fun j _=>by grind),qi]
 refine aB fun j d=>?_;rw[ck _ (v j),<-df];exact aB fun i e=>by rw[c i j e d];grind
def sn{u u' v v':ig}(h:∀i,i<n->u i=u' i)(k:∀i,i<n->v i=v' i):jy n H u v=jy n H u' v' :=
 aB fun i a=>by rw[h i a,aB fun j b=>by rw[k j b]]
def J9{w x:ig}(b:∀i,i<n->p∣(aq n fun j=>H i j*x j)-w i){a:ig}(c:p∣aq n (fun i=>w i*a i)):p∣jy n H a x:=by
 have e:jy n H a x=aq n (fun i=>w i*a i)+aq n (fun i=>((aq n fun j=>H i j*x j)-w i)*a i):=by
  rw[<-eE];exact aB fun i _=>by grind
 rw[e];exact iO c (jg fun i d=>gX (b i d))
def FH(e:∀a b,a<n->b<n->H a b=H b a){p:Int}{w x:ig}(f:∀i,i<n->p∣(aq n fun j=>H i j*x j)-w i)(g:p*p∣jy n H x x){y z:ig}(h:BO n p w x y)(k:BO n p w x z):p*p∣jy n H y z:=by
 obtain⟨c,a,l,m⟩:=h;obtain⟨d,b,o,q⟩:=k;rw[sn l o,pR,jn e x,jn e a,pR,pR,jn e x a];obtain⟨r,u⟩:=g;obtain⟨s,v⟩:=J9 f m;obtain⟨t,A⟩:=J9 f q;rw[u,v,A];exact⟨c*d*r+c*t+d*s+jy n H b a,by grind⟩
def qv(n:Nat)(H B:aH)(i j:Nat):mm n (mm n (fun i j=>B j i) H) B i j=jy n H (fun r=>B r i) (fun r=>B r j):=by
 rw[ou];unfold mm jy;exact aB fun k _=>by rw[ck]
def NS{B G:aH}(g:0<p)(f:∀r c,r<c->c<n->B r c=0)(b:∀r,r<n->0<B r r)(h:det n B=p^n)(k:∀i j,i<n->j<n->mm n (mm n (fun i j=>B j i) H) B i j=p*p*G i j):det n G=det n H:=by
 have a:=Iq (mm n (fun i j=>B j i) H) B f;rw[Ip H B f,bI k,rI]at a;have d:=qy (n:=0) n B (by rw[az];exact fun r l=>⟨fun j a d=>f r j a d,b r l⟩)
 rw[az]at d;simp only[det,iN]at d;rw[<-d,h]at a;have m:(p*p)^n=p^n*p^n:=Int.mul_pow ..;rw[m]at a;have e:(0:Int)<p^n:=IW g;have o:p^n*p^n≠0:=by have:=lM e e;omega
 exact cL o (by rw[a,fK])
def AH{piv:Nat}(a:piv<n)(v:ig):jy n H (du piv) v=aq n fun j=>H piv j*v j:=by
 unfold jy;rw[cJ piv a (fun i _ b=>by simp[du,b])];simp[du]
def Ct{piv:Nat}(f:∀a b,a<n->b<n->H a b=H b a)(e:piv<n){p:Int}(J:0<p){v:ig}{sl iv N t:Int}(l:(aq n fun j=>H piv j*v j)%p=sl)(o:(2*sl%p*iv)%p=1)(u:jy n H v v%(p*p)=N)(A:jy n H v v%p=0)(B:(p-N/p)*iv%p=t) :
  p*p∣jy n H (fun k=>if k=piv then v k+p*t else v k) (fun k=>if k=piv then v k+p*t else v k):=by
 have ex:∀k,(if k=piv then v k+p*t else v k)=1*v k+(p*t)*du piv k:=fun k=>by
  unfold du;split<;>simp
 rw[sn (fun k _=>ex k) (fun k _=>ex k),pR,jn f v,jn f (du piv) (fun i=>1*v i+p*t*du piv i),pR,pR,jn f v (du piv),AH e v];generalize jy n H (du piv) (du piv)=h;generalize jy n H v v=b at *;generalize (aq n fun j=>H piv j*v j)=z at *;have q:=eB b (p*p);have w:=eB z p;have C:=eB (2*sl) p;have x:=eB (2*sl%p*iv) p;have D:=eB ((p-N/p)*iv) p;have E:p*(N/p)=N:=gW (by
  have:p∣b:=cR A;obtain⟨c,K⟩:=this;exact⟨c-p*(b/(p*p)),by rw[u]at q;grind⟩)
 rw[u]at q;rw[l]at w;rw[o]at x;rw[B]at D;generalize b/(p*p)=r at *;generalize z/p=s at *;generalize 2*sl/p=a at *;generalize 2*sl%p=y at *;generalize y*iv/p=d at *;generalize N/p=k at *;generalize (p-k)*iv/p=c at *;refine⟨r+(1+(p-k)*d+a*((p-k)*iv)-2*sl*c)+2*t*s+t*t*h,?_⟩;have F:2*sl*t=- k+p*(1+(p-k)*d+a*((p-k)*iv)-2*sl*c):=by
  have G:t=(p-k)*iv-p*c:=om
  have I:2*sl*((p-k)*iv)=(p-k)*(y*iv)+p*(a*((p-k)*iv)):=by rw[<-C];grind
  rw[G,pw,I,<-x];grind
 have g:p*k+p*(2*sl*t)=p*(p*(1+(p-k)*d+a*((p-k)*iv)-2*sl*c)):=by rw[F];grind
 rw[<-w,<-q,<-E];generalize 1+(p-k)*d+a*((p-k)*iv)-2*sl*c=m at *
 grind

def GI(A:aH)(n k:Nat)(x:ig):Int:=aq (n-k) fun i=>(aq (n-k) fun j=>cX A k i j*x (k+j))*x (k+i)
def Pd.qSt_step{m:Nat}(h:Pd A n)(u:n=k+(m+1))(x:ig):det k A*GI A n (k+1) x<=det (k+1) A*GI A n k x:=by
 have e:∀i j,i<m->j<m->det (k+1) A*cX A k (i+1) (j+1)=det k A*cX A (k+1) i j+cX A k (i+1) 0*cX A k (j+1) 0:=fun i j c a=>h.stg_rec2 om om;have f:∀j,j<m->cX A k 0 (j+1)=cX A k (j+1) 0:=fun j a=>h.stg_sym k 0 (j+1) om om;have g:n-k=m+1:=om
 have l:n-(k+1)=m:=om
 obtain⟨L,b⟩:∃L,L=aq m (fun j=>cX A k (j+1) 0*x (k+(j+1))):=⟨_,rfl⟩;obtain⟨Q,d⟩:∃Q,Q=aq m (fun i=>(aq m fun j=>cX A k (i+1) (j+1)*x (k+(j+1)))*x (k+(i+1))):=⟨_,rfl⟩;have o:GI A n k x=det (k+1) A*x k*x k+L*x k+(x k*L+Q):=by
  unfold GI;rw[g,lG];have p:(aq (m+1) fun j=>cX A k 0 j*x (k+j))=det (k+1) A*x k+L:=by
   rw[lG,dd,b];congr 1;exact aB fun j a=>by rw[f j a]
  have q:aq m (fun i=>(aq (m+1) fun j=>cX A k (i+1) j*x (k+j))*x (k+(i+1)))=x k*L+Q:=by
   rw[b,d,<-df,<-eE];refine aB fun i _=>?_;rw[lG,cN]
   grind
  rw[p,q,yX];rfl
 have r:det (k+1) A*Q=det k A*GI A n (k+1) x+L*L:=by
  unfold GI;rw[l,d,<-df,<-df];have s:L*L=aq m (fun i=>L*(cX A k (i+1) 0*x (k+(i+1)))):=by rw[df,<-b]
  rw[s,<-eE];refine aB fun i c=>?_;have v:det (k+1) A*(aq m fun j=>cX A k (i+1) (j+1)*x (k+(j+1)))=det k A*(aq m fun j=>cX A (k+1) i j*x (k+1+j))+cX A k (i+1) 0*L:=by
   rw[b,<-df,<-df,<-df,<-eE];refine aB fun j a=>?_;have:=e i j c a;rw[(om:k+1+j=k+(j+1))]
   grind
  rw[(om:k+1+i=k+(i+1))]
  grind
 have t:=lH (det (k+1) A*x k+L);have w:det (k+1) A*GI A n k x=(det (k+1) A*x k+L)*(det (k+1) A*x k+L)+det k A*GI A n (k+1) x:=by
  rw[o];grind
 omega
def Pd.qSt_le(h:Pd A n)(x:ig):∀k,k<n->GI A n k x<=det k A*GI A n 0 x
 | 0,_=>by simp[det]
 | k+1,d=>by
  have ih:=h.qSt_le x k om;have f:=h.qSt_step (k:=k) (m:=n-k-1) om x;have c:=h.pos k om;have b:=h.pos (k+1) om;have g:=ca ih (cC b);refine jM (a:=det k A) ?_ c;have e:det k A*(det (k+1) A*GI A n 0 x)=det (k+1) A*(det k A*GI A n 0 x):=by grind
  omega
def M6(A:aH)(n:Nat)(x:ig):GI A n 0 x=jy n A x x:=by
 unfold GI jy;simp only[gZ,az,d6]
def Pd.last_sq(h:Pd A (n+1))(x:ig):x n*x n<=det n A*jy (n+1) A x x:=by
 have a:=h.qSt_le x n om;rw[M6]at a;have e:GI A (n+1) n x=det (n+1) A*x n*x n:=by
  unfold GI;rw[(om:n+1-n=1)]
  simp[aq,dd]
 rw[e]at a;have b:=h.pos (n+1) om;have:=cB (om:1<=det (n+1) A) (lH (x n))
 have c:det (n+1) A*x n*x n=det (n+1) A*(x n*x n):=by grind
 omega
def Pd.det_le(h:Pd A n){E:Int}(a:∀i,i<n->A i i<=E):∀k,k<=n->det k A<=E^k
 | 0,_=>by simp[det]
 | k+1,c=>by
  have d:=h.hadamard (k:=k) om;have b:=a k om;have e:=da (h.det_le a k om) b (cC (h.diag om)) (by have:=h.pos k om;have:=h.det_le a k om;omega)
  rw[gC];omega
def Cc(b:i+1<n)(f:Nat->Int):aq n (fun a=>f (dX i (i+1) a))=aq n f:=by
 have h:=Cb (n:=n) (f:=fun a=>f (dX i (i+1) a)-f a) i b (fun a _ c d=>by
  have:dX i (i+1) a=a:=by unfold dX;rw[af c,af d]
  rw[this];omega)
 rw[lF]at h;have e:dX i (i+1) i=i+1:=by unfold dX;rw[ah rfl]
 have g:dX i (i+1) (i+1)=i:=by unfold dX;rw[af om,ah rfl]
 rw[e,g]at h;omega
theorem Pd.coord{n:Nat}{E:Int}:∀(m:Nat) {A:aH} (x:ig) (j:Nat),Pd A (n+1)->(∀i,i<n+1->A i i<=E)->j+m=n->x j*x j<=E^n*jy (n+1) A x x
 | 0,A,x,j,h,d,k=>by
  obtain rfl:j=n:=om
  have c:=h.last_sq x;have l:=h.det_le d j om;have o:0<=jy (j+1) A x x:=by
   have p:=h.pos j om;have:=lH (x j);rcases l9 (jy (j+1) A x x) 0 with e|e
   .have:=Int.mul_neg_of_pos_of_neg p e;omega
   .exact e
  have:=cB l o;omega
 | m+1,A,x,j,h,d,k=>by
  have q:=h.swap (i:=j+1) om om;have f:∀a,a<n+1->dX j (j+1) a<n+1:=fun a u=>by unfold dX;split<;>(try split)<;>omega
  have c:=Pd.coord m (A:=EH A (j+1)) (fun a=>x (dX j (j+1) a)) (j+1) q (fun i r=>d _ (f i r)) om;have s:dX j (j+1) (j+1)=j:=by unfold dX;rw[af om,ah rfl]
  have t:jy (n+1) (EH A (j+1)) (fun a=>x (dX j (j+1) a)) (fun a=>x (dX j (j+1) a))=jy (n+1) A x x:=by
   unfold jy;have g:∀a,aq (n+1) (fun b=>EH A (j+1) a b*x (dX j (j+1) b))=aq (n+1) (fun b=>A (dX j (j+1) a) b*x b):=fun a=>Cc om (fun b=>A (dX j (j+1) a) b*x b);rw[aB fun a _=>by rw[g a]]
   exact Cc om (fun a=>aq (n+1) (fun b=>A a b*x b)*x a)
  rw[t]at c;simp only[s]at c;exact c
def Pd.lam_le(h:Pd A n){D W:Int}(a:∀k,k<=n->det k A<=D){i c:Nat}(o:c<i)(d:i<n)(e:A i i<=W):kZ A i c*kZ A i c<=D*(D*W):=by
 have f:=h.lam_sq (k:=c) (i:=i-c-1) om;rw[(om:i-c-1+1=i-c)]at f
 have b:=h.stg_up c (i-c) om;rw[(om:c+(i-c)=i)]at b
 have g:=h.pos (c+1) om;have p:=h.pos c om;have j:=h.diag d;have l:cX A c (i-c) (i-c)<=D*W:=gD b (da (a c om) e (cC j) (by have:=a c om;omega))
 have m:=h.stg_pos (i-c) c om;have q:=da (a (c+1) om) l (cC m) (by have:=a c om;omega)
 unfold kZ;omega

def gT(Q:aH)(n:Nat)(T:aH):aH:=fun a b=>jy n Q (T a) (T b)
def rl(T:aH)(k j:Nat)(q:Int):aH:=fun a b=>if a=k then T k b-q*T j b else T a b
def On(e:∀a b,a<n->b<n->H a b=H b a)(c d:Int)(u v v':ig):jy n H u (fun i=>c*v i+d*v' i)=c*jy n H u v+d*jy n H u v':=by
 rw[jn e,pR,jn e v,jn e v']
def Ih{q:Int}(f:∀a b,a<n->b<n->Q a b=Q b a):gT Q n (rl T k j q)=mA (gT Q n T) k j (-q):=by
 have g:rl T k j q k=fun i=>1*T k i+(-q)*T j i:=by
  funext b;simp only[rl,aK];grind
 have e:∀a,a≠k->rl T k j q a=T a:=fun a c=>by funext b;simp[rl,c]
 funext a b;simp only[gT,mA];by_cases c:a=k
 .subst c;by_cases d:b=a
  .subst d;rw[g,pR,On f,On f];simp only[aK,UL];grind
  .rw[g,e b d,pR];simp only[d,aK,aM,Q8];grind
 .by_cases d:b=k
  .subst d;rw[g,e a c,On f];simp only[c,aK,aM,false_and];grind
  .rw[e a c,e b d];simp[c,d]
def sJ(T:aH):aH:=fun i j=>T j i
def N8{q:Int}(d:k<n)(e:j<n)(c:k≠j):det n (sJ (rl T k j q))=det n (sJ T):=by
 have h:=qA (n:=n) (i:=k) (k:=j) (sJ T) d e c 1 (-q);rw[dG]at h;rw[<-h];congr 1;funext a b;simp only[rl,sJ,cb];split<;>grind
def G5{a b m:Int}(c:0<a)(d:m*m<=a*b)(x y:Int):x*x*a+2*(x*y*m)+y*y*b<=2*(x*x*a+y*y*b):=by
 have:=Oc c d (u:=y) (v:=x)
 grind
def sQ(l d:Int):Int:=(l+l+d)/(d+d)
def Np{d:Int}(a:0<d):2*((l-sQ l d*d).natAbs:Int)<=d:=by
 have h:=JM (l:=l) a;rw[show l+-((2*l+d)/(2*d))*d=l-sQ l d*d by
  unfold sQ;rw[(om:l+l+d=2*l+d),(om:d+d=2*d)]
  grind]at h
 exact h
def Fw{d:Int}(e:0<d):sQ l d*sQ l d<=4*(l*l)+4:=by
 have h:=Np (l:=l) e;generalize sQ l d=q at *;have f:2*((q*d).natAbs:Int)<=2*(l.natAbs:Int)+d:=om
 rw[cH]at f;have i:((q.natAbs*d.natAbs:Nat):Int)=(q.natAbs:Int)*d:=by rw[bF];congr 1;omega
 rw[i]at f;have g:(q.natAbs:Int)<=(l.natAbs:Int)+1:=by
  rcases l9 ((l.natAbs:Int)+1) q.natAbs with b|b
  .exfalso;have a:=cB (show(l.natAbs:Int)+2<=q.natAbs by omega) (cC e)
   rw[yX]at a;have j:=ca (show(1:Int)<=d by omega) (show(0:Int)<=(l.natAbs:Int) by omega)
   omega
  .exact b
 have b:(q.natAbs:Int)*q.natAbs=q*q:=by rw[<-bF,mg]
 have a:(l.natAbs:Int)*l.natAbs=l*l:=by rw[<-bF,mg]
 have j:=da g g om om;have k:((l.natAbs:Int)+1)*((l.natAbs:Int)+1)=l*l+2*(l.natAbs:Int)+1:=by rw[<-a];grind
 have m:(l.natAbs:Int)<=l*l:=by
  rw[<-a];rcases bn l.natAbs with c|c
  .rw[c];simp
  .have:=ca (show(1:Int)<=l.natAbs by omega) (show(0:Int)<=l.natAbs by omega)
   omega
 have c:=lH l;omega
def wv(a:Nat):(0:Int)<2^a:=IW om
def qn(a b:Nat):(2:Int)^(a+b)=2^a*2^b:=Int.pow_add ..
def Ni{y:Int}(c:0<=y)(d:x<=2^a)(e:y<=2^b):x*y<=2^(a+b):=by
 rw[qn];exact da d e c (cC (wv a))
def Nh(a:Nat):(1:Int)<=2^a:=wv a
def Ng(h:x*x<=2^(2*a)):(x.natAbs:Int)<=2^a:=by
 refine wb (cC (wv a)) ?_;rw[<-qn,(om:a+a=2*a)];exact h
def Nj(h:(x.natAbs:Int)<=2^a)(d:a<b):x.natAbs<2^b:=by
 have c:=iY (om:a+1<=b)
 have e:=wv a;have f:((2^b:Nat):Int)=(2:Int)^b:=by simp
 rw[gC]at c;omega
structure LS(Q:aH)(n d:Nat)(w:Nat->Nat)(T:aH):Prop where
 pd:Pd (gT Q n T) n
 lead:∀k,k<=n->det k (gT Q n T)<=2^d
 uni:det n (sJ T)*det n (sJ T)=1
 dg:∀i,i<n->gT Q n T i i<=2^(w i)
def LS.weak{d:Nat}(h:LS Q n d w T)(a:∀i,i<n->gT Q n T i i<=2^(w' i)):LS Q n d w' T:=⟨h.pd,h.lead,h.uni,a⟩
def LS.lamB{d:Nat}(h:LS Q n d w T){i c:Nat}(b:c<i)(a:i<n):kZ (gT Q n T) i c*kZ (gT Q n T) i c<=2^(d+(d+w i)):=by
 have e:=h.pd.lam_le h.lead b a (h.dg i a);rw[qn,qn];exact e
def LS.coord{d e:Nat}(h:LS Q (n+1) d w T)(c:Pd Q (n+1))(f:∀i,i<n+1->Q i i<=2^e)(g:e*n<=d){i j:Nat}(a:i<n+1)(p:j<n+1):T i j*T i j<=2^(d+w i):=by
 have k:=c.coord (n-j) (T i) j f om;have l:=h.dg i a;have m:((2:Int)^e)^n<=2^d:=by rw[<-Int.pow_mul];exact iY g
 have o:=h.pd.diag a;have b:=da m l (cC o) (cC (wv d));rw[<-qn]at b;exact gD k b
def LS.sub{d:Nat}(h:LS Q n d w T)(t:∀a b,a<n->b<n->Q a b=Q b a){k j:Nat}(m:j<k)(o:k<n)(p:w j<=d+3) :
  LS Q n d (fun i=>if i=k then w k+(3*d+8)else w i) (rl T k j (sQ (kZ (gT Q n T) k j) (det (j+1) (gT Q n T)))):=by
 have u:=h.pd.pos (j+1) om;have D:=Fw (l:=kZ (gT Q n T) k j) u;have E:=h.lamB m o;generalize sQ (kZ (gT Q n T) k j) (det (j+1) (gT Q n T))=q at *;have e:=Ih (T:=T) (k:=k) (j:=j) (q:=q) t;have v:Pd (gT Q n (rl T k j q)) n:=by rw[e];exact h.pd.add m o
 refine⟨v,fun c x=>by rw[e,kO m];exact h.lead c x,by rw[N8 o om om];exact h.uni,fun i g=>?_⟩
 rw[e];by_cases f:i=k
 .subst f
  try dsimp only
  rw[ah rfl];have y:mA (gT Q n T) i j (-q) i i=1*1*gT Q n T i i+2*(1*(-q)*gT Q n T i j)+(-q)*(-q)*gT Q n T j j:=by
   simp only[mA,aK,UL];have:=h.pd.sym i j g om
   grind
  rw[y];have z:=G5 (h.pd.diag g) (h.pd.cs0 g (om:j<n)) 1 (-q)
  have F:=h.dg i g;have A:=h.dg j om;have r:=h.pd.diag (om:j<n)
  have B:=iY p;have s:(-q)*(-q)=q*q:=by grind
  rw[s]at z ⊢;have C:q*q<=2^(d+(d+w i)+3):=by
   have:=Nh (d+(d+w i));rw[qn];omega
  have G:=Ni (cC r) C (gD A B);have H:=iY (om:w i<=d+(d+w i)+3+(d+3))
  have I:=iY (om:d+(d+w i)+3+(d+3)+2<=w i+(3*d+8))
  have J:=qn (d+(d+w i)+3+(d+3)) 2;omega
 .try dsimp only
  rw[af f,rO _ f f];exact h.dg i g
def LS.row{d:Nat}(h:LS Q n d w T)(e:n<=8){k:Nat}(a:k<n)(b:∀j,j<k->iR (gT Q n T) k j):gT Q n T k k<=2^(d+3):=by
 have f:=h.pd.sized_norm (D:=2^d) a (fun c g=>h.lead (c+1) om) b;have i:=cB (show((k+1:Nat):Int)<=8 by omega) (cC (wv d))
 rw[qn];omega
structure PL where
 a:Int
 b:Int
 c:Int
 f0:Int
 f1:Int
 s0:Int
 s1:Int

structure Ub(Q:aH)(n d k:Nat)(T:aH):Prop where
 k1:1<=k
 kn:k<=n
 ls:LS Q n d (fun _=>5*d+13) T
 ok:kh (gT Q n T) k
 dn:det n (gT Q n T)=det n Q
def C9:Nat->Nat
 | 0=>1
 | k+1=>C9 k*2^(k+1)
theorem F2{D:Nat->Nat}{n:Nat}(a:D 0=1)(b:∀k,k<=n->0<D k)(d:∀k,0<k->k<n->D k*D k<=2*(D (k-1)*D (k+1))):∀k,k<n->D k^(k+1)<=C9 k*D (k+1)^k
 | 0,_=>by simp[a,C9]
 | k+1,f=>by
  have ih:=F2 a b d k om;have e:=d (k+1) om f;rw[eT]at e;have g:=U5 e (k+1);rw[UV,UV,UV]at g;have j:2^(k+1)*(D k^(k+1)*D (k+1+1)^(k+1))<=2^(k+1)*(C9 k*D (k+1)^k*D (k+1+1)^(k+1)):=aL _ (aD _ ih);have h:0<D (k+1)^k:=jX (b (k+1) om);refine sv (c:=D (k+1)^k) ?_ h;have i:D (k+1)^k*D (k+1)^(k+1+1)=D (k+1)^(k+1)*D (k+1)^(k+1):=by
   rw[<-fR,<-fR];congr 1;omega
  have l:2^(k+1)*(C9 k*D (k+1)^k*D (k+1+1)^(k+1))=D (k+1)^k*(C9 (k+1)*D (k+1+1)^(k+1)):=by
   rw[C9];generalize D (k+1)^k=x;generalize D (k+1+1)^(k+1)=y;generalize (2:Nat)^(k+1)=z
   grind
  rw[i];omega
theorem J5{D:Nat->Nat}{n M:Nat}(b:D 0=1)(c:∀k,k<=n->0<D k)(d:∀k,0<k->k<n->D k*D k<=2*(D (k-1)*D (k+1)))(e:∀k,k<n->C9 k<=M)(f:D n<=M):∀m k,k+m=n->D k<=M
 | 0,k,g=>by rw[(om:k=n)];exact f
 | m+1,k,g=>by
  have o:=J5 b c d e f m (k+1) om;have h:=F2 b c d k om;have i:=e k om;rcases aF M (D k)with a|a
  .exfalso;have j:D (k+1)^k<=D k^k:=U5 om k;have p:C9 k*D (k+1)^k<=M*D k^k:=aV i j;have l:0<D k^k:=jX om;have q:M*D k^k<D k*D k^k:=lC a l;rw[cf,aA]at h;omega
  .exact a
def KW(h:Pd A n)(a:kh A n){k:Nat}(c:0<k)(b:k<n):det k A*det k A<=2*(det (k-1) A*det (k+1) A):=by
 have d:=a.2 k c b;have e:=sR (a.1 k b (k-1) om);unfold iH at d;rw[(om:k-1+1=k)]at e
 omega
def Kg.of(h:Pd A n)(b:kh A n)(e:n<=5)(f:det n A<=59049):Kg A n:=by
 refine⟨h,b,fun k a=>?_⟩;have g:=J5 (D:=fun k=>(det k A).toNat) (n:=n) (M:=59049) (by simp[det]) (fun k a=>by have:=h.pos k a;omega) (fun k c a=>?_) (fun k a=>?_) om (n-k) k om
 .have:=h.pos k a;omega
 .have d:=KW h b c a;have i:=h.pos k om;have j:=h.pos (k-1) om;have l:=h.pos (k+1) om;refine l7.1 ?_;simp only[bF];rw[dO om,dO om,dO om];exact d
 .match k,(om:k<=4)with
  | 0,_=>decide
  | 1,_=>decide
  | 2,_=>decide
  | 3,_=>decide
  | 4,_=>decide

def jB(P:Prop):∃β:Bool,(β=true↔P):=by
 rcases jq P with h|h
 .exact⟨true,by simp[h]⟩
 .exact⟨false,by simp[h]⟩
def dD(h:β=true↔P)(a:¬P):β=false:=by
 cases β with
 | false=>rfl
 | true=>exact absurd (h.1 rfl) a
structure vA(A:aH)(n:Nat):Prop where
 pos:∀k,k<=n->0<det k A
 dt:det n A<=10000
 rows:kh A n
structure yp(A:aH)(n k:Nat):Prop where
 pos:∀j,j<=k->0<det j A
 lt:∀j,j<=k->det j A<65536
 sz:∀i j,j<k->j<i->i<n->iR A i j
 lo:∀i,0<i->i<=k->iH A i
def Rp(A:aH)(n k:Nat):Prop:=∀i j,k+i<n->k+j<n->((cX A k i j).natAbs:Int)<=det k A*(262144+k*16384)
def yp.ne(h:yp A n k):∀j,j<=k->det j A≠0:=fun j a=>by have:=h.pos j a;omega
def yp.init:yp A n 0 :=
 ⟨fun j a=>by rw[(om:j=0)];simp[det],fun j a=>by rw[(om:j=0)];simp[det],fun i j a=>om,fun i b c=>om⟩
def Rp.init(h:∀i j,i<n->j<n->-262144<A i j/\A i j<262144):Rp A n 0:=fun i j a b=>by
 have:=h i j om om;rw[gZ];simp[det];omega
theorem Fj{A:aH}{n:Nat}(e:∀i j,i<n->j<n->A i j=A j i):∀(k i j:Nat),(∀c,c<=k->det c A≠0)->k+i<n->k+j<n->cX A k i j=cX A k j i
 | 0,i,j,_,h,l=>by rw[gZ,gZ];exact e i j om om
 | k+1,i,j,d,h,l=>by
  have ih:=fun a b=>Fj e k a b (fun c f=>d c om);have g:=jh (A:=A) (k:=k) (fun c f=>d c om) i j;have m:=jh (A:=A) (k:=k) (fun c f=>d c om) j i;rw[ih (i+1) (j+1) om om,ih (i+1) 0 om om,ih 0 (j+1) om om]at g;refine cL (d k om) ?_;rw[<-g,<-m];grind
def wc(A:aH)(m:Nat):Prop:=0<A 0 0/\A 0 0<65536/\∀i,1<=i->i<m->2*A i 0<=A 0 0/\-2*A i 0<=A 0 0
def Rp.step(h:Rp A n k)(c:yp A n k)(g:∀i j,i<n->j<n->A i j=A j i)(l:wc (cX A k) (n-k)):Rp A n (k+1):=fun i j u v=>by
 obtain⟨m,o,f⟩:=l;rw[dd]at m o f;have e:=jh (A:=A) (k:=k) c.ne i j;rw[dd,Fj g k 0 (j+1) c.ne om om]at e;have b:=h (i+1) (j+1) om om;have w:=f (i+1) om om;have B:=f (j+1) om om;have dk:=c.pos k (ae k);generalize det k A=d at *;generalize det (k+1) A=D at *;generalize cX A k (i+1) (j+1)=s at *;generalize cX A k (i+1) 0=x at *;generalize cX A k (j+1) 0=y at *;generalize cX A (k+1) i j=z at *;have C:d*(z.natAbs:Int)<=D*(s.natAbs:Int)+(x.natAbs:Int)*(y.natAbs:Int):=by
  have p:((d*z).natAbs:Int)=d*(z.natAbs:Int):=by rw[cH];push_cast;congr 1;omega
  have q:((D*s).natAbs:Int)=D*(s.natAbs:Int):=by rw[cH];push_cast;congr 1;omega
  have r:((x*y).natAbs:Int)=(x.natAbs:Int)*(y.natAbs:Int):=by rw[cH];push_cast;rfl
  rw[<-p,<-q,<-r,<-e];omega
 have E:(2*(x.natAbs:Int))*(2*(y.natAbs:Int))<=D*D:=da om om om om;have F:(2*(x.natAbs:Int))*(2*(y.natAbs:Int))=4*((x.natAbs:Int)*(y.natAbs:Int)):=by grind
 have G:D*D<=D*65536:=ca om om;have H:D*16384<=d*(D*16384):=by
  have:=cB (om:1<=d) (om:0<=D*16384)
  omega
 have I:=ca b (om:0<=D)
 have t:d*(D*(262144+((k+1:Nat):Int)*16384))=D*(d*(262144+k*16384))+d*(D*16384):=by push_cast;grind
 refine jM (a:=d) ?_ dk;rw[t];omega
def yp.step(a:yp A n k)(h:wc (cX A k) (n-k))(l:iH A (k+1)):yp A n (k+1):=by
 obtain⟨c,d,f⟩:=h;rw[dd]at c d f;refine⟨fun j g=>?_,fun j g=>?_,fun i j g b m=>?_,fun i o p=>?_⟩
 .by_cases e:j=k+1
  .rw[e];exact c
  .exact a.pos j om
 .by_cases e:j=k+1
  .rw[e];exact d
  .exact a.lt j om
 .by_cases e:j=k
  .subst e;have:=f (i-j) om om;unfold iR kZ;omega
  .exact a.sz i j om b m
 .by_cases e:i=k+1
  .rw[e];exact l
  .exact a.lo i o om
def vA.red(h:vA A n)(a:∀i j,i<n->j<n->A i j=A j i)(b:n<=5):Kg A n:=Kg.of ⟨a,h.pos⟩ h.rows b (by have:=h.dt;omega)
def vA.short(h:vA A n)(b:∀i j,i<n->j<n->A i j=A j i)(c:n<=5)(a:k<n):wc (cX A k) (n-k):=by
 have d:=h.pos (k+1) a;have f:=(h.red b c).lead (k+1) a;unfold wc;rw[dd];refine⟨d,om,fun i g e=>?_⟩
 have:=h.rows.1 (k+i) om k om;unfold iR kZ at this;rw[(om:k+i-k=i)]at this
 omega
def yp.redB(a:yp A n k)(h:k+1=n)(c:0<det n A)(d:det n A<=10000):vA A n:=by
 refine⟨fun j b=>?_,d,fun r f j b=>a.sz r j om b f,fun r g i=>a.lo r g om⟩;by_cases e:j=n
 .rw[e];exact c
 .exact a.pos j om
def Rp.num(h:Rp A n k)(c:0<det k A/\det k A<65536)(d:n<=5)(a:k+i<n)(b:k+j<n):-21474836480<=cX A k i j/\cX A k i j<=21474836480:=by
 have e:=h i j a b;have f:=da (om:det k A<=65536) (show(262144+k*16384:Int)<=327680 by omega) om om
 omega

end Go.Proofs.YtdobfmlmenaajaaGreatDoor
