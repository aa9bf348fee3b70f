/-
  Lemmas for NeighbourVerify.
-/
import Derived.Test.YtdobfmlmenaajaaGreatDoorV26
namespace Go.Proofs.YtdobfmlmenaajaaGreatDoor
open Go.RowKit Tryz
open _root_.Int renaming tmod→eI
open _root_.Option renaming none→ab
set_option maxHeartbeats 6400000
set_option maxRecDepth 4096
set_option linter.all false
attribute [local go_sem] Nat.reduceAdd Nat.reduceEqDiff Nat.reduceLeDiff Nat.reduceLT reduceCtorEq Int.ofNat_lt decide_true decide_false Int.zero_le_ofNat
attribute [local go_sem ↓] reduceIte
variable{x:AV}{K:AV->St->Prop}{d:Int}{N R b b11 b2 b3 b5 b8 bw es k k0 n p t top:Nat}{g0 g1 gb z:Nat->AV}{L:Nat->Bool}{g ls σ:Nat->Nat}{E:Nat->Nat->AV}{S S' S0:St}{O:Tm}{A B M W:aH}{X:ft}
def IB{c:Nat}{gc:Nat->AV}(d:S b=some ⟨50,2,n,gb⟩)(f:S c=some ⟨50,2,N,gc⟩)(a:c≠b)(g:0<N)(h:n+N<=1048576)(i:∀j,j<N->eO 2 (gc j))
  (k:∀b',(b'=b∨S b'=ab)->K (.sl 2 b' 0 (n+N)) ((S.del b).upd b' ⟨50,2,n+N,nL gb n N (fun j=>gc (0+j))⟩)):AU 59 59 (.sl 2 b 0 n) (.sl 2 c 0 N) S K:=by
 unfold AU gP;rw[show dY 59=some 50 from rfl];refine⟨rfl,rfl,?_⟩;have l:Bj S (.sl 2 c 0 N)=some (2,N,fun j=>gc (0+j),some c):=by simp[Bj,f]
 rw[l];refine⟨rfl,g,fun j m=>by show eO 2 (gc (0+j));rw[az];exact i j m,?_⟩
 simp only[d];exact⟨trivial,trivial,trivial,trivial,trivial,h,fun e=>a (by cases e;rfl),k⟩
structure vD(S0 S:St)(b:Nat)(g:Nat->Nat)(n N t:Nat)(M:aH):Prop where
 ext:fM S0 S
 new:S0 b=ab
 outer:bG S b 59 1 N (fun a=>.sl 2 (g a) 0 (if a<t then n+N else n))
 row:∀a,a<N->jx S (g a) (if a<t then n+N else n) (fun r=>fq n M r a)
 rnew:∀a,a<N->S0 (g a)=ab
 inj:∀a c,a<N->c<N->g a=g c->a=c
def vD.upd(h:vD S0 S b g n N t M){e:Nat}(d:S0 e=ab)(f:b≠e)(i:∀a,a<N->g a≠e)(X:ft):vD S0 (S.upd e X) b g n N t M :=
 ⟨h.ext.upd d _,h.new,h.outer.upd f _,fun a c=>(h.row a c).upd (i a c) _,h.rnew,h.inj⟩
def pP(h:k≠b):S.del b k=S k:=by simp[St.del,h]
def vD.app(h:vD S0 S b g n N t M)(p:t<N){gb gc go:Nat->AV}(E:S (g t)=some ⟨50,2,n,gb⟩)(x:∀j,j<N->gc j=.big (if j=t then 1 else 0)){b':Nat}(i:b'=g t∨S b'=ab)(F:S b=some ⟨59,1,N,go⟩) :
  vD S0 (((S.del (g t)).upd b' ⟨50,2,n+N,nL gb n N gc⟩).upd b ⟨59,1,N,bR go t (.sl 2 b' 0 (n+N))⟩) b (fun a=>if a=t then b' else g a) n N (t+1) M:=by
 have q:∀a,a<N->b≠g a:=fun a f=>bG.ne h.outer (h.row a f) dc
 have y:b≠b':=by
  rcases i with e|e
  .rw[e];exact q t p
  .exact bG.fresh h.outer e
 have l:∀a,a<N->a≠t->g a≠b':=fun a f z=>by
  rcases i with e|e
  .rw[e];exact fun d=>z (h.inj a t f p d)
  .exact bG.fresh (h.row a f) e
 have s:S0 b'=ab:=by
  rcases i with e|e
  .rw[e];exact h.rnew t p
  .exact h.ext.none e
 refine⟨fun k X m=>?_,h.new,bG.here fun a f=>?_,fun a f=>?_,fun a f=>?_,fun a c f C o=>?_⟩
 .have G:k≠b:=by rintro rfl;rw[h.new]at m;cases m
  have H:k≠b':=by rintro rfl;rw[s]at m;cases m
  have I:k≠g t:=by rintro rfl;rw[h.rnew t p]at m;cases m
  rw[aO G,aO H,pP I];exact h.ext k X m
 .obtain⟨go',D,J⟩:=h.outer;rw[F]at D;cases D;simp only[bR];by_cases e:a=t
  .simp[e]
  .simp only[e,aM];rw[J a f];by_cases d:a<t
   .simp[d,(om:a<t+1)]
   .simp[d,(om:¬a<t+1)]
 .by_cases e:a=t
  .subst e;simp only[aK,Vt];refine bG.upd (bG.here fun r K=>?_) (aj y) _;have u:=h.row a f;rw[af (cT _)]at u;obtain⟨gb',v,A⟩:=u;rw[E]at v;cases v;by_cases d:r<n
   .rw[D7 d];exact A r d
   .rw[yP om om,x _ om];simp only[fq,d,aM];congr 1;by_cases w:r-n=a
    .rw[ah w,ah om]
    .rw[af w,af om]
  .simp only[e,aM];have w:(if a<t+1 then n+N else n)=if a<t then n+N else n:=by
    by_cases d:a<t
    .rw[ah d,ah om]
    .rw[af d,af om]
   rw[w];have B:g a≠g t:=fun d=>e (h.inj a t f p d);obtain⟨ga,v,A⟩:=h.row a f;refine bG.upd (bG.upd ⟨ga,by rw[pP B];exact v,A⟩ (l a f e) _) (aj (q a f)) _
 .by_cases e:a=t
  .simp only[e,aK];exact s
  .simp only[e,aM];exact h.rnew a f
 .by_cases e:a=t
  .by_cases d:c=t
   .omega
   .rw[ah e,af d]at o;exact absurd o.symm (l c C d)
  .by_cases d:c=t
   .rw[af e,ah d]at o;exact absurd o (l a f e)
   .rw[af e,af d]at o;exact h.inj a c f C o
structure NPI(S0 S:St)(b b2 b3:Nat)(g:Nat->Nat)(n N t:Nat)(M:aH):Prop where
 pb:vD S0 S b g n N t M
 h2:bG S b2 218 1 2 (fun j=>if j=0 then .nil else .int .i64 0)
 h3:bG S b3 218 1 2 (fun j=>if j=0 then .sl 1 b 0 N else .int .i64 n)
 n2:S0 b2=ab
 n3:S0 b3=ab
def Du(S0:St)(n N:Nat)(M:aH)(h1:1<=n)(h2:n<=16)(h3:1<=N)(h4:N<=16) :
  cZ 232 [aU n N M] S0 (fun r S'=>∃b g,r=.agg [.sl 1 b 0 N,.int .i64 n]/\je S0 S' b g N (n+N) (fun j r=>fq n M r j)):=by
 refine jI func232 ntmps232 results232 ?_;have hp0:0<n:=om
 have D:(0:Int)<(n:Int):=om
 simp -dsimp only[go_sem,aa,aU,bC];refine aG.intro fun i E=>?_
 try simp -dsimp only[go_sem]
 refine(uS n N M h1 h2 h4 _ _ (cY _ _)).mono ?_;rintro _ S1 ⟨b,g,rfl,o,F,R,U⟩;simp only[go_sem,aa];refine aG.intro fun m p=>?_;simp only[go_sem,ja,a8,aR,cG,cP,bS,cq];have k:fM S0 S1:=((fM.refl S0).upd E _).trans F;have G:bG S1 i 218 1 2 (fun j=>if j=0 then .nil else .int .i64 0):=F.has (bG.here fun _ _=>rfl)
 have v:vD S0 S1 b g n N 0 M:=⟨k,(ag R).2,o.outer.congr fun a _=>by simp,fun a f=>by
  simp only[Kh,aM];exact(o.row a f).congr fun r hr=>by simp[fq,hr],fun a f=>(ag (U a f)).2,o.inj⟩
 have w:i≠m:=bG.fresh G p;refine aI (fun O S=>∃t:Nat,t<=N/\O 0=aU n N M/\O 2=.ptr 1 i 0/\O 3=.ptr 1 m 0/\O 13=.sl 1 b 0 N/\O 14=.int .i64 N/\O 15=.int .i64 t/\∃g,NPI S0 S b i m g n N t M) (fun O S=>N-co (O 15)) ?_ ?_
 .simp only[go_sem,aU,bC];refine⟨0,om,rfl,g,?_,?_,?_,E,k.none p⟩
  .repeat' first|exact v|refine vD.upd ?_ (k.none p) (bG.fresh o.outer p) (fun a f=>bG.fresh (o.row a f) p) _
  .exact(G.upd w _).upd w _
  .exact bG.here fun j B=>by
    match j,B with
    | 0,_=>simp[ja]
    | 1,_=>simp[ja]
 clear F R U o v G k p E;rintro O S ⟨t,ht,e0,e2,e3,H,I,J,g,c⟩;by_cases h:t<N
 .obtain⟨V,C,K⟩:=id c.pb.outer;have W:V t=.sl 2 (g t) 0 n:=(K t h).trans sm
  simp -dsimp only[go_sem,aa,e0,e2,e3,H,I,J,h,C,W,aU,bC,D]
  repeat refine an ?_
  refine aG.intro fun q s=>?_;simp -dsimp only[go_sem];refine(ld dc dc).call ?_
  simp -dsimp only[go_sem,aa,h];have X:S0 q=ab:=c.pb.ext.none s;have Y:b≠q:=bG.fresh c.pb.outer s;have L:∀a,a<N->g a≠q:=fun a f=>bG.fresh (c.pb.row a f) s;have z2:i≠q:=bG.fresh c.h2 s;have z3:m≠q:=bG.fresh c.h3 s;refine o5 (fun T=>NPI S0 T b i m g n N t M/\∃gc,T q=some ⟨50,2,N,gc⟩/\∀j,j<N->gc j=.big (if j=t then 1 else 0)) ?_ ?_
  .refine⟨⟨(c.pb.upd X Y L _).upd X Y L _,(c.h2.upd z2 _).upd z2 _,(c.h3.upd z3 _).upd z3 _,c.n2,c.n3⟩,_,cp,fun j B=>?_⟩;simp only[bR];by_cases e:j=t
   .simp[e]
   .simp[e]
  clear c C K W s;rintro T ⟨c,gc,u6,y⟩;obtain⟨V,C,K⟩:=id c.pb.outer;have d:=c.pb.row t h;rw[af (cT _)]at d;obtain⟨gb,ub,vb⟩:=id d;obtain⟨z,Z,A⟩:=id c.h3;have x3:z 0=.sl 1 b 0 N:=A 0 om;refine fQ 5 [[0,1,2],[],[]] kr ?_
  simp -dsimp only[*,go_sem,aa];refine IB ub u6 (aj (L t h)) om om (fun j B=>by rw[y j B];trivial) ?_
  intro b' l;have P:m≠g t:=bG.ne c.h3 d dc
  have p2:i≠g t:=bG.ne c.h2 d dc
  have p1:b≠g t:=bG.ne c.pb.outer d dc
  have q3:m≠b':=by rcases l with e|e;exact e▸P;exact bG.fresh c.h3 e
  have q2:i≠b':=by rcases l with e|e;exact e▸p2;exact bG.fresh c.h2 e
  have q1:b≠b':=by rcases l with e|e;exact e▸p1;exact bG.fresh c.pb.outer e
  simp only[*,go_sem,aa,pP P,pP p1,aS (om:t<1000000),co]
  refine⟨⟨t+1,om,rfl,rfl,_,c.pb.app h ub (gc:=fun j=>gc j) y l C,?_,?_,c.n2,c.n3⟩,om⟩
  .obtain⟨x,l1,l2⟩:=c.h2;exact bG.upd (bG.upd ⟨x,by rw[pP p2];exact l1,l2⟩ q2 _) (bG.ne c.h2 c.pb.outer dc) _
  .exact bG.upd (bG.upd ⟨z,by rw[pP P];exact Z,A⟩ q3 _) (bG.ne c.h3 c.pb.outer dc) _
 have Q:N=t:=om
 subst Q;obtain⟨z,Z,A⟩:=id c.h3;obtain⟨g2,u2,v2⟩:=id c.h2;have x3:z 0=.sl 1 b 0 N:=A 0 om;have x4:z 1=.int .i64 n:=A 1 om;simp only[*,go_sem,aa,cT,ja,eG,a8,aR,cG,cP,bS,bH,d6,cq];have y2:∀a,a<N->g a≠i:=fun a f=>bG.ne (c.pb.row a f) c.h2 dc
 have w2:b≠i:=bG.ne c.pb.outer c.h2 dc
 have u:=c.pb.upd (e:=i) c.n2 w2 y2 ⟨218,1,2,ja g2 0 [.sl 1 b 0 N,.int .i64 n]⟩;refine⟨b,rfl,g,⟨u.outer.congr fun a f=>by simp[f],fun a f=>?_,u.inj⟩,u.ext,u.new,u.rnew⟩
 have:=u.row a f;rw[ah f]at this;exact this

structure IQ(A:aH)(N R k:Nat)(σ:Nat->Nat)(W:aH):Prop where
 el:mh A N σ k
 q:∀a r,k<=a->a<N->k<=r->r<R->W a r=cX (fun x y=>A x (σ y)) k (r-k) (a-k)
 z:∀a r,k<=a->a<N->r<k->W a r=0
 b:∀a r,a<N->r<R->nb (W a r) 31
structure IE(A:aH)(N R k j:Nat)(σ:Nat->Nat)(W:aH):Prop where
 el:mh A N σ k
 p:∀r,k<=r->r<R->W k r=cX (fun x y=>A x (σ y)) k (r-k) 0
 pz:∀r,r<k->W k r=0
 n:∀a r,k<a->a<j->a<N->k+1<=r->r<R->W a r=cX (fun x y=>A x (σ y)) (k+1) (r-(k+1)) (a-(k+1))
 nz:∀a r,k<a->a<j->a<N->r<=k->W a r=0
 o:∀a r,j<=a->a<N->k<=r->r<R->W a r=cX (fun x y=>A x (σ y)) k (r-k) (a-k)
 oz:∀a r,j<=a->a<N->r<k->W a r=0
 b:∀a r,a<N->r<R->nb (W a r) 31
def IQ.swap(h:IQ A N R k σ W)(m:k<=p)(s:p<N):IQ A N R k (fun a=>σ (dX k p a)) (fun a=>W (dX k p a)):=by
 have g:∀a,a<N->dX k p a<N:=fun a f=>by unfold dX;split<;>(try split)<;>omega
 have n:∀a,k<=a->k<=dX k p a:=fun a f=>by unfold dX;split<;>(try split)<;>omega
 have t:∀a,k<=a->dX k p a-k=dX 0 (p-k) (a-k):=fun a f=>by
  unfold dX;by_cases e:a=k
  .rw[ah e,ah om]
  .rw[af e,af (om:¬a-k=0)]
   by_cases o:a=p
   .rw[ah o,ah om];omega
   .rw[af o,af om]
 refine⟨h.el.swap m s,fun a r c d i j=>?_,fun a r c d l=>h.z _ r (n a c) (g a d) l,fun a r f l=>h.b _ r (g a f) l⟩;rw[h.q _ r (n a c) (g a d) i j,t a c];exact(Fe (fun x y=>A x (σ y)) m (r-k) (a-k)).symm
def IQ.start(h:IQ A N R k σ W)(e:k<N):IE A N R k (k+1) σ W :=
 ⟨h.el,fun r d c=>by rw[h.q k r (ae _) e d c,cq],fun r f=>h.z k r (ae _) e f,fun a r d c=>om,fun a r d c=>om,fun a r d c=>h.q a r om c,fun a r d c=>h.z a r om c,h.b⟩
def IE.step{j:Nat}(h:IE A N R k j σ W)(w:k<j)(g:j<N)(q:k<R)(t:∀i c,k+1+c<N->k+1+i<R->nb (cX (fun x y=>A x (σ y)) (k+1) i c) 31) :
  IE A N R k (j+1) σ (fun a r=>if a=j then(W k k*W j r-W j k*W k r)/det k (fun x y=>A x (σ y))else W a r):=by
 have u:=h.el.lead k (ae _);have key:∀r,k+1<=r->r<R->(W k k*W j r-W j k*W k r)/det k (fun x y=>A x (σ y))=cX (fun x y=>A x (σ y)) (k+1) (r-(k+1)) (j-(k+1)):=by
  intro r f d;rw[h.p k (ae _) q,h.o j r (ae _) g om d,h.o j k (ae _) g (ae _) q,h.p r om d,cq];have e:=jh h.el.lead (r-(k+1)) (j-(k+1));rw[(om:r-(k+1)+1=r-k),(om:j-(k+1)+1=j-k)]at e
  rw[ck (cX _ k 0 (j-k)),e];exact di _ u
 have keyz:∀r,r<=k->(W k k*W j r-W j k*W k r)/det k (fun x y=>A x (σ y))=0:=by
  intro r z;have:W k k*W j r-W j k*W k r=0:=by
   by_cases e:r=k
   .rw[e,ck];omega
   .rw[h.oz j r (ae _) g om,h.pz r om];simp
  rw[this];simp
 refine⟨h.el,fun r f d=>?_,fun r f=>?_,fun a r f d l m s=>?_,fun a r f d l m=>?_,fun a r f d l m=>?_,fun a r f d l=>?_,fun a r f d=>?_⟩
 .rw[af om];exact h.p r f d
 .rw[af om];exact h.pz r f
 .by_cases e:a=j
  .rw[ah e,e];exact key r m s
  .rw[af e];exact h.n a r f om l m s
 .by_cases e:a=j
  .rw[ah e];exact keyz r m
  .rw[af e];exact h.nz a r f om l m
 .rw[af om];exact h.o a r om d l m
 .rw[af om];exact h.oz a r om d l
 .by_cases e:a=j
  .rw[ah e];by_cases v:k+1<=r
   .rw[key r v d];exact t _ _ om om
   .rw[keyz r om];exact nb.zero 31
  .rw[af e];exact h.b a r f d
def IE.done(h:IE A N R k N σ W)(e:cX (fun x y=>A x (σ y)) k 0 0≠0):IQ A N R (k+1) σ W :=
 ⟨h.el.step e,fun a r f c d g=>h.n a r om c c d g,fun a r f c d=>h.nz a r om c c om,h.b⟩
def IQ.init(b:∀a r,a<N->r<R->nb (A r a) 31):IQ A N R 0 id (fun a r=>A r a) :=
 ⟨mh.init A N,fun a r _ _ _ _=>by rw[gZ];rfl,fun a r _ _ h=>om,b⟩

def Nc(b N top:Nat):Nat->AV:=fun j=>if j=0 then .sl 1 b 0 N else .int .i64 top
structure vU(T:St)(b1 b N top:Nat)(L:Nat->Bool)(O:Tm)(S:St):Prop where
 base:O 1=.ptr 1 b1 0
 p0:L 0=true->O 10=.ptr 1 b1 0
 p1:L 1=true->O 11=.sl 1 b 0 N
 p2:L 2=true->O 12=.int .i64 N
 p4:L 4=true->O 14=.ptr 1 b1 1
 p5:L 5=true->O 15=.int .i64 top
 ext:fM T S
 ex:∃bw b3,(L 3=true->O 13=.sl 1 bw 0 N/\bG S bw 59 1 N (fun _=>.nil)/\T bw=ab)/\(L 6=true->L 3=true/\O 16=.agg [.sl 1 bw 0 N,.int .i64 top])/\(L 7=true->O 3=.ptr 1 b3 0/\T b3=ab/\∃g,S b3=some ⟨218,1,2,g⟩)/\(L 8=true->L 6=true/\L 7=true/\bG S b3 218 1 2 (Nc bw N top))
def pt{d:Nat}{z:AV}(h:t≠d):(O.put (some d) z) t=O t:=by rw[Tm.put_eq];exact af h
def pd{d:Nat}{z:AV}:(O.put (some d) z) d=z:=by rw[Tm.put_eq];exact ah rfl
def kc{i:Nat}(h:(if k=i then true else L k)=true)(a:k≠i):L k=true:=by rwa [af a]at h
section
variable {T:St} {b1 b N top:Nat} {L:Nat->Bool} {O:Tm} {S:St}
def vU.s0(h:vU T b1 b N top L O S):vU T b1 b N top (fun k=>if k=0 then true else L k) (O.put (some 10) (.ptr 1 b1 0)) S :=
 ⟨by rw[pt dc];exact h.base,fun _=>pd,fun a=>by rw[pt dc];exact h.p1 (kc a dc),fun a=>by rw[pt dc];exact h.p2 (kc a dc),fun a=>by rw[pt dc];exact h.p4 (kc a dc),fun a=>by rw[pt dc];exact h.p5 (kc a dc),h.ext,by
  obtain⟨bw,d,e,c,f,g⟩:=h.ex;refine⟨bw,d,fun a=>?_,fun a=>?_,fun a=>?_,fun a=>?_⟩
  .rw[pt dc];exact e (kc a dc)
  .rw[pt dc];exact⟨by simpa using (c (kc a dc)).1,(c (kc a dc)).2⟩
  .rw[pt dc];exact f (kc a dc)
  .have:=g (kc a dc);exact⟨by simpa using this.1,by simpa using this.2.1,this.2.2⟩⟩
def vU.s1(h:vU T b1 b N top L O S):vU T b1 b N top (fun k=>if k=1 then true else L k) (O.put (some 11) (.sl 1 b 0 N)) S :=
 ⟨by rw[pt dc];exact h.base,fun a=>by rw[pt dc];exact h.p0 (kc a dc),fun _=>pd,fun a=>by rw[pt dc];exact h.p2 (kc a dc),fun a=>by rw[pt dc];exact h.p4 (kc a dc),fun a=>by rw[pt dc];exact h.p5 (kc a dc),h.ext,by
  obtain⟨bw,d,e,c,f,g⟩:=h.ex;refine⟨bw,d,fun a=>?_,fun a=>?_,fun a=>?_,fun a=>?_⟩
  .rw[pt dc];exact e (kc a dc)
  .rw[pt dc];exact⟨by simpa using (c (kc a dc)).1,(c (kc a dc)).2⟩
  .rw[pt dc];exact f (kc a dc)
  .have:=g (kc a dc);exact⟨by simpa using this.1,by simpa using this.2.1,this.2.2⟩⟩
def vU.s2(h:vU T b1 b N top L O S):vU T b1 b N top (fun k=>if k=2 then true else L k) (O.put (some 12) (.int .i64 N)) S :=
 ⟨by rw[pt dc];exact h.base,fun a=>by rw[pt dc];exact h.p0 (kc a dc),fun a=>by rw[pt dc];exact h.p1 (kc a dc),fun _=>pd,fun a=>by rw[pt dc];exact h.p4 (kc a dc),fun a=>by rw[pt dc];exact h.p5 (kc a dc),h.ext,by
  obtain⟨bw,d,e,c,f,g⟩:=h.ex;refine⟨bw,d,fun a=>?_,fun a=>?_,fun a=>?_,fun a=>?_⟩
  .rw[pt dc];exact e (kc a dc)
  .rw[pt dc];exact⟨by simpa using (c (kc a dc)).1,(c (kc a dc)).2⟩
  .rw[pt dc];exact f (kc a dc)
  .have:=g (kc a dc);exact⟨by simpa using this.1,by simpa using this.2.1,this.2.2⟩⟩
def vU.s4(h:vU T b1 b N top L O S):vU T b1 b N top (fun k=>if k=4 then true else L k) (O.put (some 14) (.ptr 1 b1 1)) S :=
 ⟨by rw[pt dc];exact h.base,fun a=>by rw[pt dc];exact h.p0 (kc a dc),fun a=>by rw[pt dc];exact h.p1 (kc a dc),fun a=>by rw[pt dc];exact h.p2 (kc a dc),fun _=>pd,fun a=>by rw[pt dc];exact h.p5 (kc a dc),h.ext,by
  obtain⟨bw,d,e,c,f,g⟩:=h.ex;refine⟨bw,d,fun a=>?_,fun a=>?_,fun a=>?_,fun a=>?_⟩
  .rw[pt dc];exact e (kc a dc)
  .rw[pt dc];exact⟨by simpa using (c (kc a dc)).1,(c (kc a dc)).2⟩
  .rw[pt dc];exact f (kc a dc)
  .have:=g (kc a dc);exact⟨by simpa using this.1,by simpa using this.2.1,this.2.2⟩⟩
def vU.s5(h:vU T b1 b N top L O S):vU T b1 b N top (fun k=>if k=5 then true else L k) (O.put (some 15) (.int .i64 top)) S :=
 ⟨by rw[pt dc];exact h.base,fun a=>by rw[pt dc];exact h.p0 (kc a dc),fun a=>by rw[pt dc];exact h.p1 (kc a dc),fun a=>by rw[pt dc];exact h.p2 (kc a dc),fun a=>by rw[pt dc];exact h.p4 (kc a dc),fun _=>pd,h.ext,by
  obtain⟨bw,d,e,c,f,g⟩:=h.ex;refine⟨bw,d,fun a=>?_,fun a=>?_,fun a=>?_,fun a=>?_⟩
  .rw[pt dc];exact e (kc a dc)
  .rw[pt dc];exact⟨by simpa using (c (kc a dc)).1,(c (kc a dc)).2⟩
  .rw[pt dc];exact f (kc a dc)
  .have:=g (kc a dc);exact⟨by simpa using this.1,by simpa using this.2.1,this.2.2⟩⟩
def vU.s3(h:vU T b1 b N top L O S)(f:L 3=false){c:Nat}(j:S c=ab)(z:Nat->AV)(m:∀i,i<N->z i=.nil):vU T b1 b N top (fun k=>if k=3 then true else L k) (O.put (some 13) (.sl 1 c 0 N)) (S.upd c ⟨59,1,N,z⟩):=by
 have l:=h.ext.none j;refine⟨by rw[pt dc];exact h.base,fun a=>by rw[pt dc];exact h.p0 (kc a dc),fun a=>by rw[pt dc];exact h.p1 (kc a dc),fun a=>by rw[pt dc];exact h.p2 (kc a dc),fun a=>by rw[pt dc];exact h.p4 (kc a dc),fun a=>by rw[pt dc];exact h.p5 (kc a dc),h.ext.upd l _,?_⟩
 obtain⟨bw,n,t,o,p,q⟩:=h.ex;have d:L 6=true->False:=fun d=>by rw[(o d).1]at f;cases f
 refine⟨c,n,fun _=>⟨pd,bG.here m,l⟩,fun a=>(d (kc a dc)).elim,fun a=>?_,fun a=>(d (q (kc a dc)).1).elim⟩
 rw[pt dc]
 obtain⟨r,s,g,e⟩:=p (kc a dc)
 refine⟨r,s,g,?_⟩;rw[aO];exact e;rintro rfl;rw[j]at e;cases e
def vU.s6(h:vU T b1 b N top L O S)(c:L 3=true):∃bw,O 13=.sl 1 bw 0 N/\vU T b1 b N top (fun k=>if k=6 then true else L k) (O.put (some 16) (.agg [.sl 1 bw 0 N,.int .i64 top])) S:=by
 obtain⟨bw,e,d,i,f,g⟩:=h.ex;refine⟨bw,(d c).1,⟨by rw[pt dc];exact h.base,fun a=>by rw[pt dc];exact h.p0 (kc a dc),fun a=>by rw[pt dc];exact h.p1 (kc a dc),fun a=>by rw[pt dc];exact h.p2 (kc a dc),fun a=>by rw[pt dc];exact h.p4 (kc a dc),fun a=>by rw[pt dc];exact h.p5 (kc a dc),h.ext,bw,e,fun a=>?_,fun _=>⟨by simpa using c,pd⟩,fun a=>?_,fun a=>?_⟩⟩
 .rw[pt dc];exact d c
 .rw[pt dc];exact f (kc a dc)
 .have:=g (kc a dc);exact⟨sm,by simpa using this.2.1,this.2.2⟩
def vU.s7(h:vU T b1 b N top L O S)(d:L 7=false){c:Nat}(e:S c=ab)(z:Nat->AV):vU T b1 b N top (fun k=>if k=7 then true else L k) (O.put (some 3) (.ptr 1 c 0)) (S.upd c ⟨218,1,2,z⟩):=by
 have f:=h.ext.none e;refine⟨by rw[pt dc];exact h.base,fun a=>by rw[pt dc];exact h.p0 (kc a dc),fun a=>by rw[pt dc];exact h.p1 (kc a dc),fun a=>by rw[pt dc];exact h.p2 (kc a dc),fun a=>by rw[pt dc];exact h.p4 (kc a dc),fun a=>by rw[pt dc];exact h.p5 (kc a dc),h.ext.upd f _,?_⟩
 obtain⟨bw,o,j,g,p,l⟩:=h.ex;refine⟨bw,c,fun a=>?_,fun a=>?_,fun _=>⟨pd,f,z,cp⟩,fun a=>?_⟩
 .rw[pt dc]
  obtain⟨m,i,n⟩:=j (kc a dc)
  exact⟨m,i.upd (bG.fresh i e) _,n⟩
 .rw[pt dc];exact⟨by simpa using (g (kc a dc)).1,(g (kc a dc)).2⟩
 .have:=(l (kc a dc)).2.1;rw[this]at d;cases d
def vU.s8(h:vU T b1 b N top L O S)(e:L 6=true)(f:L 7=true):∃bw c g,O 16=.agg [.sl 1 bw 0 N,.int .i64 top]/\O 3=.ptr 1 c 0/\S c=some ⟨218,1,2,g⟩/\∀z,(∀j,j<2->z j=Nc bw N top j)->vU T b1 b N top (fun k=>if k=8 then true else L k) O (S.upd c ⟨218,1,2,z⟩):=by
 obtain⟨bw,c,o,d,p,t⟩:=h.ex;obtain⟨i,l,g,m⟩:=p f;refine⟨bw,c,g,(d e).2,i,m,fun z q=>⟨h.base,fun a=>h.p0 (kc a dc),fun a=>h.p1 (kc a dc),fun a=>h.p2 (kc a dc),fun a=>h.p4 (kc a dc),fun a=>h.p5 (kc a dc),h.ext.upd l _,bw,c,fun a=>?_,fun a=>?_,fun _=>⟨i,l,z,cp⟩,fun _=>⟨by simpa using e,by simpa using f,bG.here q⟩⟩⟩
 .obtain⟨r,n,s⟩:=o (kc a dc)
  exact⟨r,n.upd (bG.ne n (bG.of m) dc) _,s⟩
 .exact⟨by simpa using (d (kc a dc)).1,(d (kc a dc)).2⟩
end
structure GO(S0 S:St)(b3 b5 bw:Nat)(x:AV)(N R kk top:Nat)(W:aH)(d:Int)(ls:Nat->Nat):Prop where
 cols:∃c,rV S bw c N R W
 pair:bG S b3 218 1 2 (Nc bw N top)
 var:en S b5 50 2 (.big d)
 list:c8 3 1 S0 S x kk (fun i=>.int .i64 (ls i))
 nw:S0 bw=ab
 n3:S0 b3=ab
 n5:S0 b5=ab
def GO.keep{kk:Nat}{W':aH}(h:GO S0 S b3 b5 bw x N R kk top W d ls)(b:iW bw S S'){c:Nat->Nat}(n:rV S' bw c N R W'):GO S0 S' b3 b5 bw x N R kk top W' d ls:=by
 obtain⟨p,a⟩:=h.cols;have o:fM S0 S':=fun k X g=>b k X (h.list.1 k X g) (fun e=>by rw[e,h.nw]at g;cases g)
 refine⟨⟨c,n⟩,b.has h.pair (bG.ne h.pair a.outer dc),b.var h.var ?_,h.list.step o fun d i=>?_,h.nw,h.n3,h.n5⟩
 .obtain⟨y,f,_⟩:=h.var;obtain⟨y',l,_⟩:=a.outer;rintro rfl;rw[f]at l;cases l
 .rcases h.list.2 with⟨_,j⟩|⟨e,_,j,m⟩
  .obtain⟨_,_,_,e⟩:=i;rw[j]at e;cases e
  .rw[j]at i;rw[eH.1 i];obtain⟨y,f,_⟩:=id m;rw[f];exact b _ _ f (bG.ne m a.outer dc)
def GO.setVar{kk:Nat}{z:Int}(h:GO S0 S b3 b5 bw x N R kk top W d ls){g:Nat->AV}(c:S b5=some ⟨50,2,1,g⟩)(k:R≠1):GO S0 (S.upd b5 ⟨50,2,1,bR g 0 (.big z)⟩) b3 b5 bw x N R kk top W z ls:=by
 obtain⟨l,b⟩:=h.cols;have f:bG S b5 50 2 1 g:=bG.of c;refine⟨⟨l,b.outer.upd (bG.ne b.outer f dc) _,fun a i=>(b.row a i).upd ?_ _⟩,h.pair.upd (bG.ne h.pair f dc) _,en.set,h.list.upd h.n5 (fun d m e=>h.list.other c dc (e▸m)) _,h.nw,h.n3,h.n5⟩
 rintro e;obtain⟨y,j,_⟩:=b.row a i;rw[e,c]at j;cases j;exact k rfl
def GO.other{kk:Nat}(h:GO S0 S b3 b5 bw x N R kk top W d ls){e:Nat}(c:S e=ab)(X:ft):GO S0 (S.upd e X) b3 b5 bw x N R kk top W d ls:=by
 obtain⟨g,b⟩:=h.cols;exact⟨⟨g,b.outer.upd (bG.fresh b.outer c) _,fun a f=>(b.row a f).upd (bG.fresh (b.row a f) c) _⟩,h.pair.upd (bG.fresh h.pair c) _,h.var.upd (h.var.fresh c) _,h.list.upd (h.list.1.none c) (h.list.fresh c) _,h.nw,h.n3,h.n5⟩
def GO.app{kk:Nat}(h:GO S0 S b3 b5 bw x N R kk top W d ls){e k' row:Nat}(l:c8 3 1 S0 S' (.sl 1 e 0 k') k' (fun i=>if i=kk then .int .i64 row else .int .i64 (ls i)))(k:∀d X,S d=some X->¬eC x d->S' d=some X) :
  GO S0 S' b3 b5 bw (.sl 1 e 0 k') N R k' top W d (fun i=>if i=kk then row else ls i):=by
 obtain⟨m,c⟩:=h.cols;have kp:∀{b ty es n:Nat} {g:Nat->AV},bG S b ty es n g->ty≠3->bG S' b ty es n g:=fun o p=>by
  obtain⟨y,f,j⟩:=o;exact⟨y,k _ _ f (h.list.other f p),j⟩
 refine⟨⟨m,kp c.outer dc,fun a q=>kp (c.row a q) dc⟩,kp h.pair dc,?_,l.congr fun i _=>by split<;>rfl,h.nw,h.n3,h.n5⟩
 obtain⟨y,f,j⟩:=h.var;exact⟨y,k _ _ f (h.list.other f dc),j⟩
def EV(S0 S:St)(b3 b5 bw:Nat)(x:AV)(N R kk top:Nat)(d:Int)(ls:Nat->Nat)(A:aH)(t:Nat)(σ:Nat->Nat)(row:Nat):Prop:=∃W,GO S0 S b3 b5 bw x N R kk top W d ls/\IE A N R kk t σ W/\W kk row≠0
def IV(S0 S:St)(b3 b5 bw:Nat)(x:AV)(n N R top:Nat)(A:aH)(row:Nat):Prop:=∃kk W d ls,GO S0 S b3 b5 bw x N R kk top W d ls /\
 ((∃σ,kk=min row n/\row<=n+n/\IQ A N R kk σ W/\d=det kk (fun x y=>A x (σ y))/\(∀r,n<=r->r<row->W n r=0)/\∀i,i<kk->ls i=i) ∨
   (kk=N/\∃Rr,n<=Rr/\Rr<=n+n/\det (n+1) (fun a b=>A (t9 n Rr a) b)≠0/\∀i,i<N->ls i=t9 n Rr i))
def wA(S0:St)(b:Nat)(c:Nat->Nat)(n N R top:Nat)(A:aH)(hn:n<=5)(h1:1<=n)(hN:N=n+1)(hR:R=n+n+1)(hO:rV S0 b c N R (fun a r=>A r a))
  (hB:∀σ k,mh A N σ k->∀k' i j,k'+j<N->k'+i<R->nb (cX (fun x y=>A x (σ y)) k' i j) 31) (hdet:det (n+1) (fun a b=>A (t9 n (n+n) a) b)≠0) :
  cZ 259 [.agg [.sl 1 b 0 N,.int .i64 top]] S0 (fun r S'=>∃e Rr,r=.sl 1 e 0 N/\n<=Rr/\Rr<=n+n/\det (n+1) (fun a b=>A (t9 n Rr a) b)≠0/\bG S' e 3 1 N (fun i=>.int .i64 (t9 n Rr i))/\fM S0 S'):=by
 refine jI func259 ntmps259 results259 ?_;simp -dsimp only[go_sem,a8,aR,cG,cP];refine aG.intro fun b1 f1=>?_;refine o5 (fun T=>bG T b1 218 1 2 (Nc b N top)/\fM S0 T) ?_ ?_
 .refine⟨bG.here fun j hj=>?_,(fM.refl S0).upd f1 _⟩
  match j,hj with
  | 0,_=>rfl
  | 1,_=>rfl
 rintro T ⟨hT1,hET⟩;refine CH (vU T b1 b N top) kr ?_ ?_ ?_
 .exact⟨by simp only[go_sem],(fun h=>by cases h),(fun h=>by cases h),(fun h=>by cases h),(fun h=>by cases h),(fun h=>by cases h),fM.refl T,0,0,(fun h=>by cases h),(fun h=>by cases h),(fun h=>by cases h),(fun h=>by cases h)⟩
 .refine⟨?_,?_,?_,?_,?_,?_,?_,?_,?_,trivial⟩
  .intro L O S f D l;have al:∀k,_->L k=true:=aE.1 l;refine ee rfl ?_;simp only[go_sem,f.base];exact f.s0
  .intro L O S f D l;have al:∀k,_->L k=true:=aE.1 l;refine ee rfl ?_;obtain⟨g1,u1,v1⟩:=id (f.ext.has hT1);simp only[go_sem,aa,f.p0 (al 0 dc),u1,show g1 0=.sl 1 b 0 N from v1 0 om]
   exact f.s1
  .intro L O S f D l;have al:∀k,_->L k=true:=aE.1 l;refine ee rfl ?_;simp only[go_sem,f.p1 (al 1 dc)]
   exact f.s2
  .intro L O S f D l;have al:∀k,_->L k=true:=aE.1 l;refine ee rfl ?_;simp -dsimp only[go_sem,f.p2 (al 2 dc)]
   repeat refine an ?_
   refine aG.intro fun bw fw=>?_;exact f.s3 D fw _ (fun _ _=>rfl)
  .intro L O S f D l;have al:∀k,_->L k=true:=aE.1 l;refine ee rfl ?_;simp only[go_sem,f.base];exact f.s4
  .intro L O S f D l;have al:∀k,_->L k=true:=aE.1 l;refine ee rfl ?_;obtain⟨g1,u1,v1⟩:=id (f.ext.has hT1);simp only[go_sem,aa,f.p4 (al 4 dc),u1,show g1 1=.int .i64 top from v1 1 om]
   exact f.s5
  .intro L O S f D l;have al:∀k,_->L k=true:=aE.1 l;refine ee rfl ?_;obtain⟨bw,q1,q2⟩:=f.s6 (al 3 dc)
   simp only[go_sem,q1,f.p5 (al 5 dc)]
   exact q2
  .intro L O S f D l;have al:∀k,_->L k=true:=aE.1 l;refine ee rfl ?_;simp only[go_sem];refine aG.intro fun bw fw=>?_;exact f.s7 D fw _
  .intro L O S f D l;have al:∀k,_->L k=true:=aE.1 l;refine ee rfl ?_;obtain⟨bw,P,g,q1,q2,q3,q4⟩:=f.s8 (al 6 dc) (al 7 dc)
   simp only[go_sem,aa,q1,q2,q3,a8,aR,cG,cP];refine q4 _ (fun j hj=>?_)
   match j,hj with
   | 0,_=>simp[ja,Nc]
   | 1,_=>simp[ja,Nc]
 intro L O S f D;obtain⟨bw,P,m3,m6,m7,m8⟩:=f.ex;obtain⟨a1,a2,a3⟩:=m3 (D 3 dc)
 obtain⟨c1,c2,_⟩:=m7 (D 7 dc)
 have d3:=(m8 (D 8 dc)).2.2
 have hE:=hET.trans f.ext;have nw:=hET.none a3;have n3:=hET.none c2;have Q:=hO.ext hE;have e1:=f.base;have E:=f.ext.has hT1;clear f D m3 m6 m7 m8 a3 c2 hT1 hET a1;obtain⟨g1,u1,v1⟩:=id E;obtain⟨g3,u,H⟩:=id d3;obtain⟨gw,uw,vw⟩:=id a2;obtain⟨gb,ub,vb⟩:=id Q.outer;simp -dsimp only[go_sem,aa,e1,c1,u1,u,show g1 0=.sl 1 b 0 N from v1 0 om,show g3 0=.sl 1 bw 0 N from H 0 om];refine F1 (e:=59) uw ub rfl rfl om (fun a l=>by rw[vb a l];trivial) ?_
 simp -dsimp only[go_sem,aa,show g1 0=.sl 1 b 0 N from v1 0 om,show g3 0=.sl 1 bw 0 N from H 0 om];refine(ld dc dc).call ?_
 simp -dsimp only[go_sem];refine aG.intro fun M f5=>?_
 try simp only[go_sem]
 have hb5:bw≠M:=fun e=>by rw[e]at f5;rw[cp]at f5;cases f5
 have s5:S M=ab:=by rw[aO (aj hb5)]at f5;exact f5
 have h3w:P≠bw:=bG.ne d3 a2 dc
 have h35:P≠M:=bG.fresh d3 s5;have n5:=hE.none s5;have hInit:∀X Y,X=(fun j=>if 0<=j/\j<N then gb (j-0)else gw j)->Y 0=AV.big 1->GO S0 ((S.upd bw ⟨59,1,N,X⟩).upd M ⟨50,2,1,Y⟩) P M bw .nil N R 0 top (fun a r=>A r a) 1 (fun i=>i):=by
  intro X Y hX hY;refine⟨⟨c,bG.upd (bG.here fun a l=>?_) hb5 _,fun a l=>?_⟩,(d3.upd h3w _).upd h35 _,en.new hY,c8.nil ((hE.upd nw _).upd n5 _) _,nw,n3,n5⟩
  .rw[hX];simp only[jW,kv,l,aK,d6];exact vb a l
  .exact((Q.row a l).upd (bG.ne (Q.row a l) a2 dc) _).upd (bG.fresh (Q.row a l) s5) _
 have hIQ:IQ A N R 0 id (fun a r=>A r a):=IQ.init fun a r l hr=>by
  have:=hB id 0 (mh.init A N) 0 r a om om
  rwa [gZ]at this
 refine aI (fun O S=>∃row:Nat,row<=n+n+1/\O 3=.ptr 1 P 0/\O 5=.ptr 2 M 0/\O 6=.int .i64 row/\IV S0 S P M bw (O 4) n N R top A row) (fun O S=>n+n+2-co (O 6)) ?_ ?_
 .simp only[go_sem,c1];rw[mD];exact⟨0,om,rfl,0,_,1,_,hInit _ _ rfl (by simp[bR]),bW ⟨id,om,om,hIQ,by simp[det],fun r h1 h2=>om,fun i h=>om⟩⟩
 clear hIQ hInit e1 c1 u1 v1 u H uw vw ub vb Q E d3 a2 hE f5 s5 h35 h3w f1;rintro O S ⟨row,hrow,B,I,w,kk,W,d,ls,J,hV⟩;obtain⟨g3,u,H⟩:=id J.pair;have F:g3 0=.sl 1 bw 0 N:=H 0 om;by_cases G:kk<N
 .obtain⟨σ,k1,k2,hQ,hd,hz,hls⟩:=hV.resolve_right (fun h=>om)
  apply yO (fun O' S'=>O' 3=.ptr 1 P 0/\O' 4=O 4/\O' 5=.ptr 2 M 0/\O' 6=.int .i64 row/\O' 7=.int .i64 kk/\O' 8=.int .i64 kk/\S'=S)
  .intro key;rcases J.list.2 with⟨h0,hx⟩|⟨e,_,hx,_⟩
   .subst h0;have hN0:(0:Int)<(N:Int):=om
    simp only[go_sem,aa,B,w,hx,u,F,hN0];refine key _ _ ?_;simp only[go_sem,B,I,w,hx];exact⟨rfl,rfl⟩
   .simp only[go_sem,aa,B,w,hx,u,F,G];refine key _ _ ?_;simp only[*,go_sem]
  generalize O 4=x at *;rintro O' S' ⟨e3',e4',e5',e6',e7',e8',rfl⟩;refine aI (fun O S=>∃j:Nat,kk<=j/\j<=N/\O 3=.ptr 1 P 0/\O 4=x/\O 5=.ptr 2 M 0/\O 6=.int .i64 row/\O 7=.int .i64 kk/\O 8=.int .i64 j/\GO S0 S P M bw x N R kk top W d ls/\∀a,kk<=a->a<j->W a row=0) (fun O S=>N-co (O 8)) ?_ ?_
  .exact⟨kk,om,om,e3',e4',e5',e6',e7',e8',J,fun a h1 h2=>om⟩
  clear e3' e4' e5' e6' e7' e8' B I w u H F J;rintro O S ⟨j,hj1,hj2,B,U,I,w,e7,e8,J,hzz⟩;obtain⟨g3,u,H⟩:=id J.pair;have F:g3 0=.sl 1 bw 0 N:=H 0 om;obtain⟨c,hC⟩:=J.cols;obtain⟨gw,uw,vw⟩:=id hC.outer;have C:row<R:=om
  by_cases o:j<N
  .obtain⟨gc,uc,vc⟩:=id (hC.row j o);have xw:gw j=.sl 2 (c j) 0 R:=vw j o;have xc:gc row=.big (W j row):=vc row C;have nW:=hQ.b j row o C;simp -dsimp only[go_sem,aa,B,w,e8,u,F,o,uw,xw,uc,xc,C];refine(lp nW om).call ?_;by_cases V:W j row=0
   .simp only[go_sem,aa,B,U,I,w,e7,e8,u,F,o,xw,xc,V,show(Int.sign 0==0)=true from rfl,aS (om:j<1000000),co]
    exact⟨⟨j+1,om,om,rfl,J,fun a h1 h2=>by
     by_cases e:a=j
     .rw[e];exact V
     .exact hzz a h1 om⟩,om⟩
   .have hs:((W j row).sign==0)=false:=by
     rw[it];intro h;exact V (mb.1 h)
    have hjne:((j:Int)==(N:Int))=false:=by rw[it];omega
    simp -dsimp only[go_sem,aa,B,U,I,w,e7,e8,u,F,o,xw,xc,hs,hjne];refine(BA S bw c N R kk j W G o hC).mono ?_;rintro _ S1 ⟨⟨c',hC'⟩,hK⟩;have E:=J.keep hK hC';have hQ1:=hQ.swap hj1 o;have Z:det kk (fun x y=>A x (σ (dX kk j y)))=d:=by
     rw[hd];exact bI fun a y _ hy=>by rw[show dX kk j y=y by unfold dX;rw[af om,af om]]
    have s:W (dX kk j kk) row≠0:=by unfold dX;rw[ah rfl];exact V
    obtain⟨W1,hW1⟩:∃W1:aH,W1=fun a=>W (dX kk j a):=⟨_,rfl⟩;obtain⟨σ1,hσ1⟩:∃σ1:Nat->Nat,σ1=fun a=>σ (dX kk j a):=⟨_,rfl⟩;rw[<-hW1]at E hQ1;rw[<-hσ1]at hQ1
    replace Z:det kk (fun x y=>A x (σ1 y))=d:=by rw[hσ1];exact Z
    replace s:W1 kk row≠0:=by rw[hW1];exact s
    clear hW1 hσ1;have m:=hQ1.start G;have hd0:d≠0:=by rw[<-Z];exact m.el.lead kk (ae _)
    have ndd:nb d 31:=by
     rw[<-Z];by_cases e:kk=0
     .rw[e];simp only[det];exact nb.one om
     .have:=hB σ1 kk m.el (kk-1) 0 0 om om;rw[dd,(om:kk-1+1=kk)]at this
      exact this
    clear u H F uw vw xw uc vc xc J hC hK hC';obtain⟨g3,u,H⟩:=id E.pair;have F:g3 0=.sl 1 bw 0 N:=H 0 om;simp only[go_sem,e7,e8,aS (om:kk<1000000)]
    refine aI (fun O S=>∃t:Nat,kk+1<=t/\t<=N/\O 3=.ptr 1 P 0/\O 4=x/\O 5=.ptr 2 M 0/\O 6=.int .i64 row/\O 7=.int .i64 kk/\O 9=.int .i64 t/\EV S0 S P M bw x N R kk top d ls A t σ1 row) (fun O S=>N-co (O 9)) ?_ ?_
    .simp only[go_sem,B,U,I,w,e7];exact⟨kk+1,om,om,rfl,W1,E,m,s⟩
    clear B U I w e7 e8 E m hQ1 u H F s hzz V hs hjne nW hQ hd;rintro O S ⟨t,ht1,ht2,B,U,I,w,e7,e9,W2,K,m,s⟩;obtain⟨g3,u,H⟩:=id K.pair;have F:g3 0=.sl 1 bw 0 N:=H 0 om;obtain⟨g5,u5,x5⟩:=id K.var;by_cases htt:t<N
    .have hrk:row=kk:=om
     obtain⟨c2,hC2⟩:=K.cols;simp -dsimp only[go_sem,aa,B,U,I,w,e7,e9,u,F,u5,x5,htt];refine(uP S bw c2 N R kk t row W2 d G htt C om hd0 ndd m.b hC2).mono ?_;rintro _ S3 ⟨⟨c3,hC3⟩,hK3⟩;have hst:=m.step om htt om (fun i c h1 h2=>hB σ1 kk m.el (kk+1) i c h1 h2);rw[Z]at hst;rw[hrk]at hC3;simp only[go_sem,B,U,I,w,e7,e9,aS (om:t<1000000),co]
     exact⟨⟨t+1,om,om,rfl,_,K.keep hK3 hC3,hst,by rw[af om];exact s⟩,om⟩
    have htN:N=t:=om
    obtain⟨c2,hC2⟩:=K.cols;obtain⟨gw,uw,vw⟩:=id hC2.outer;obtain⟨gc,uc,vc⟩:=id (hC2.row kk G);have xw:gw kk=.sl 2 (c2 kk) 0 R:=vw kk G;have xc:gc row=.big (W2 kk row):=vc row C;simp -dsimp only[go_sem,aa,B,U,I,w,e7,e9,u,F,u5,x5,htt,uw,xw,uc,xc,G,C];have hS5:=K.setVar (z:=W2 kk row) (g:=g5) u5 om;refine aG.intro fun b9 f9=>?_;have hxb:=hS5.list.fresh f9;have hS6:=hS5.other f9 ⟨3,1,1,fun j=>[AV.int .i64 row].getD j .any⟩
    try simp -dsimp only[go_sem,U,w]
    refine c8.app3 (v:=.int .i64 row) hS6.list (om:kk<1000000) (by simp[eO]) (bQ ⟨_,_,_,rfl,cp,rfl,fun h=>hxb _ h rfl⟩) ?_
    intro e S7 hX' hk1 _;have hS7:=hS6.app hX' hk1;simp only[go_sem,B,U,I,w,aS (om:row<1000000),co]
    refine⟨⟨row+1,om,rfl,kk+1,W2,W2 kk row,_,hS7,?_⟩,om⟩
    subst htN;by_cases hkn:kk<n
    .have hrk:row=kk:=om
     have hp:=m.p kk (ae _) om;rw[cq]at hp;rw[hrk]at s ⊢;refine bW ⟨σ1,om,om,m.done (by rw[<-hp];exact s),by rw[hp,dd],fun r h1 h2=>om,fun i hi=>?_⟩
     by_cases e:i=kk
     .rw[ah e];exact e.symm
     .rw[af e];exact hls i om
    .have hkn':kk=n:=om
     have hp:=m.p row om C;subst hkn';have hl:=m.el;rw[hN]at hl;have:=hl.last (R:=row) om;refine bQ ⟨om,row,om,om,fun h0=>?_,fun i hi=>?_⟩
     .rw[h0,<-hp]at this;exact s om
     .unfold t9;by_cases e:i=kk
      .rw[ah e,af om]
      .rw[af e,ah om];exact hls i om
  .have hjN':N=j:=om
   have hjeq:((j:Int)==(N:Int))=true:=by rw[oU];omega
   simp only[go_sem,aa,B,U,I,w,e7,e8,u,F,o,hjeq,aS (om:row<1000000),co]
   have hl:=hQ.el;rw[hN]at hl;have hkn:kk=n:=by
    refine Ki om (Nat.le_of_not_lt fun hlt=>?_);refine hl.found (R:=n+n) hlt hdet fun a l=>?_;have hrk:row=kk:=om
    have:=hQ.q (kk+a) kk om om (ae _) om;rw[cq,(om:kk+a-kk=a)]at this
    rw[<-this,<-hrk];exact hzz _ om om
   have hw:=hzz n om om;have hq:=hQ.q n row om om om C;have hlast:=hl.last (R:=row) om;subst hkn;rw[cq]at hq;refine⟨⟨row+1,om,rfl,kk,W,d,ls,J,bW ⟨σ,om,?_,hQ,hd,fun r h1 h2=>?_,hls⟩⟩,om⟩
   .refine Vb k2 fun e=>hdet ?_;rw[<-e];rw[<-hq,hw]at hlast;simp only[VD]at hlast;omega
   .by_cases e:r=row
    .rw[e];exact hw
    .exact hz r h1 om
 obtain⟨hkN,Rr,r1,r2,r3,r4⟩:=hV.resolve_left (fun⟨σ,h,_⟩=>om)
 subst hkN;rcases J.list.2 with⟨h0,hx⟩|⟨e,he,hx,hh⟩
 .omega
 simp only[go_sem,aa,B,w,hx,u,F,cT];exact⟨e,rfl,Rr,r1,r2,r3,hh.congr fun i hi=>by rw[r4 i hi],J.list.1⟩

def Od{e ty:Nat}(a:S b=some ⟨ty,es,N,g0⟩)(c:dY t=some e)(d:es=cg e)(f:0<N)(g:∀j,j<N->eO es (g1 j))
  (h:K (.int .i64 N) (S.upd b ⟨ty,es,N,fun j=>if 0<=j/\j<0+N then g1 (j-0)else g0 j⟩)):AR t (.sl es b 0 N) (.lst es N g1) S K:=by
 unfold AR sX;rw[c];simp only[a,Bj];exact⟨d,trivial,trivial,om,trivial,f,g,h⟩
def fL.setRow{o e:Nat}{S1:St}{m:Nat}(h:fL o e es S1 S b g n m k E)(d:o≠e){i:Nat}(f:i<k){z z':Nat->AV}(p:∀j,j<m->z j=z' j):fL o e es S1 (S.upd (g i) ⟨e,es,m,z⟩) b g n m k (fun a c=>if a=i then z' c else E a c):=by
 refine⟨h.ext.upd (h.rnew i f) _,h.new,h.outer.upd (h.ne d f) _,fun a l=>?_,h.rnew,h.inj⟩;by_cases e:a=i
 .subst e;simp only[aK];exact bG.here p
 .simp only[e,aM];exact(h.row a l).upd (fun q=>e (h.inj a i l f q)) _
def DJ(A:aH)(n b b2 b8 b11:Nat)(S:St)(k:Nat)(neg:Bool)(i j:Nat):Prop:=∃(g σ:Nat->Nat) (B:aH),oG A n σ neg k/\dE S b g n n B/\(∀i,i<n->g i≠b2/\g i≠b8/\g i≠b11)/\en S b2 50 2 (.big 0)/\en S b8 50 2 (.big (det k (fun a c=>A (σ a) c)))/\en S b11 50 2 (.big (cX (fun a c=>A (σ a) c) k 0 0))/\b8≠b2/\b11≠b2/\b11≠b8/\IK A n k i j σ B
def DJ.of{neg:Bool}(D:oG A n σ neg k)(m:k<p)(E:k<n)(F:p<n)(G:dE (S.upd b X) b (fun i=>g (dX k p i)) n n (fun i j=>B (dX k p i) j))(w:∀i,i<n->g i≠b2/\g i≠b8)
  (V2:en S b2 50 2 (.big 0)) (V5:en S b8 50 2 (.big (det k (fun a c=>A (σ a) c)))) (o:b≠b2) (q:b≠b8) (r:b2≠b8) (d:S b11=ab) (x:dE S b g n n B) (H:OF A n k σ B) (h:B p k=cX (fun a c=>A (σ a) c) k (p-k) 0) (I:B p k≠0) (J:z 0=.big (B p k):=by rfl) :
  DJ A n b b2 b8 b11 ((S.upd b X).upd b11 ⟨50,2,1,z⟩) k (!neg) (k+1) (k+1):=by
 have l:∀i,i<n->dX k p i<n:=fun i f=>by unfold dX;split<;>(try split)<;>omega
 have K:b≠b11:=bG.fresh x.outer d;have y:b2≠b11:=V2.fresh d;have C:b8≠b11:=V5.fresh d;have ng:∀i,i<n->g i≠b11:=fun i f=>bG.fresh (x.row i f) d;have s:=yB (k:=k) (p:=p) (fun a c=>A (σ a) c) om 0 0;rw[show dX 0 (p-k) 0=p-k by simp[dX],<-h]at s
 refine⟨_,fun a=>σ (dX k p a),_,D.swap m F,G.upd K (fun i f=>ng _ (l i f)) _,fun i f=>⟨(w _ (l i f)).1,(w _ (l i f)).2,ng _ (l i f)⟩,(V2.upd (aj o) _).upd y _,?_,?_,aj r,aj y,aj C,?_,fun a c L t u v=>?_⟩
 .have e:=zI (n:=k) (fun a c=>A (σ a) c) (i:=k) (k:=p) om om;rw[e];exact(V5.upd (aj q) _).upd C _
 .rw[s];exact en.new J
 .rw[s];exact I
 .rw[af om];have e:=yB (k:=k) (p:=p) (fun a c=>A (σ a) c) om (a-k) (c-k);show B (dX k p a) c=_;rw[e,H (dX k p a) c (by unfold dX;split<;>(try split)<;>omega) (l a t) u v]
  congr 1;unfold dX;split<;>(try split)<;>(try split)<;>(try split)<;>omega
def DJ.of0{neg:Bool}(v:oG A n σ neg k)(e:k<n)(h:dE S b g n n B)(r:∀i,i<n->g i≠b2/\g i≠b8)
  (V2:en S b2 50 2 (.big 0)) (V5:en S b8 50 2 (.big (det k (fun a c=>A (σ a) c)))) (j:b2≠b8) (d:S b11=ab) (s:OF A n k σ B) (w:B k k≠0) (x:z 0=.big (B k k):=by rfl) :
  DJ A n b b2 b8 b11 (S.upd b11 ⟨50,2,1,z⟩) k neg (k+1) (k+1):=by
 have y:b≠b11:=bG.fresh h.outer d;have t:b2≠b11:=V2.fresh d;have u:b8≠b11:=V5.fresh d;have ng:∀i,i<n->g i≠b11:=fun i f=>bG.fresh (h.row i f) d;have l:=s k k (ae _) e (ae _) e;rw[cq]at l;refine⟨g,σ,B,v,h.upd y ng _,fun i f=>⟨(r i f).1,(r i f).2,ng i f⟩,V2.upd t _,V5.upd u _,?_,aj j,aj t,aj u,?_,fun a c m o p q=>?_⟩
 .rw[<-l];exact en.new x
 .rw[<-l];exact w
 .rw[af om];exact s a c m o p q
def Ax(n K:Nat)(A:aH)(h1:1<=n)(h2:n<=16)(hK1:1<=K)(hK:K<=1000000)(hB:∀σ neg k,oG A n σ neg k->∀k' i j,k'+i<n->k'+j<n->nb (cX (fun a b=>A (σ a) b) k' i j) K):PF 130 [aU n n A] (.big (det n A)):=by
 refine jo func130 ntmps130 results130 ?_;simp -dsimp only[go_sem,aU,bC];refine aG.intro fun w f2=>?_;simp -dsimp only[go_sem]
 repeat refine an ?_
 refine aG.intro fun bb fb=>?_;have nb_2:=(ag fb).1;simp only[go_sem];have hn2:bb≠w:=nb_2;refine aI (fun O S=>∃i:Nat,i<=n/\O 2=.ptr 2 w 0/\O 3=.int .i64 n/\O 4=.sl 1 bb 0 n/\O 19=aU n n A/\O 20=.int .i64 n/\O 21=.int .i64 i/\∃g',fL 59 50 2 (St.none.upd w ⟨50,2,1,fun _=>.big 0⟩) S bb g' n n i (fun a c=>.big (A a c))) (fun O S=>n-co (O 21)) ?_ ?_
 .simp only[go_sem,aU,bC];exact⟨0,om,rfl,fun _=>0,fL.init fb (fun _ _=>rfl) _ _⟩
 rintro O S ⟨i,s,o,t,q,e19,e20,e21,g',hR⟩;by_cases h:i<n
 .obtain⟨g4,u4,v4⟩:=id hR.outer;simp -dsimp only[*,go_sem,aa,aU,bC]
  repeat refine an ?_
  refine aG.intro fun bd fd=>?_;have hdc:bb≠bd:=bG.fresh hR.outer fd;simp -dsimp only[*,go_sem,fE];have hR1:=hR.push dc fd u4 (fun _=>.big 0)
  generalize hgg:(fun a=>if a=i then bd else g' a)=gg at hR1
  have hgi:gg i=bd:=by rw[<-hgg];simp
  refine Od (e:=50) (by rw[aO (aj hdc)];exact cp) rfl rfl om (fun j _=>trivial) ?_
  simp only[*,go_sem,aU,bC,aS (om:i<1000000),co]
  have hR2:=fun(z:Nat->AV) hz=>hR1.setRow dc (om:i<i+1) (z:=z) (z':=fun j=>.big (A i j)) hz
  simp only[hgi]at hR2;refine⟨⟨i+1,om,rfl,gg,(hR2 _ ?_).congr fun a c _ _=>?_⟩,om⟩
  .intro j X;simp[X]
  .by_cases e:a=i
   .simp[e]
   .simp[e]
 have hni:n=i:=om
 subst hni;have l:=hR.mat (A:=A) (fun _ _ _ _=>rfl);simp -dsimp only[*,go_sem,aa,cT];refine(ld dc dc).call ?_
 simp -dsimp only[go_sem];refine aG.intro fun H f8=>?_
 try simp only[go_sem,t]
 have hb2:bb≠w:=nb_2;have hg2:∀i,i<n->g' i≠w:=fun i s e=>by have:=l.2.2.2 i s;rw[e,cp]at this;cases this
 have Y:w≠H:=fun e=>by have:=l.2.1 w _ cp;rw[e,f8]at this;cases this
 have Z:bb≠H:=bG.fresh l.1.outer f8;have hg8:∀i,i<n->g' i≠H:=fun i s=>bG.fresh (l.1.row i s) f8;refine aI (fun O S=>∃(k:Nat) (neg:Bool),k<=n/\O 2=.ptr 2 w 0/\O 3=.int .i64 n/\O 4=.sl 1 bb 0 n/\O 7=.bool neg/\O 8=.ptr 2 H 0/\O 39=.int .i64 n/\O 40=.int .i64 k/\BQ A n bb w H S k neg (OF A n k)) (fun O S=>n-co (O 40)) ?_ ?_
 .simp only[*,go_sem];refine⟨0,om,false,rfl,rfl,g',id,A,oG.init A n,(l.1.upd Z hg8 _).upd Z hg8 _,fun i s=>⟨hg2 i s,hg8 i s⟩,?_,en.set,fun i j _ _ _ _=>by rw[gZ];rfl⟩
  exact(en.upd ⟨_,l.2.1 w _ cp,rfl⟩ Y _).upd Y _
 clear l hR o t q e19 e20 e21 f8 hg2 hg8;rintro O S ⟨k,neg,hkn,o,t,q,u,x,d,f,G⟩;by_cases h:k<n
 .simp only[*,go_sem,aa];refine aI (fun O S=>∃p:Nat,k<=p/\p<=n/\O 2=.ptr 2 w 0/\O 3=.int .i64 n/\O 4=.sl 1 bb 0 n/\O 7=.bool neg/\O 8=.ptr 2 H 0/\O 9=.int .i64 k/\O 10=.int .i64 p/\O 39=.int .i64 n/\O 40=.int .i64 k/\BQ A n bb w H S k neg (StgP A n k p)) (fun O S=>n-co (O 10)) ?_ ?_
  .simp only[*,go_sem];obtain⟨g,σ,B,r,l,D,V2,V5,hBq⟩:=G;exact⟨k,om,om,rfl,g,σ,B,r,l,D,V2,V5,hBq,fun i h1 h2=>om⟩
  clear G o t q u x d f;rintro O S ⟨p,hkp,hpn,o,t,q,u,x,v,I,d,f,g,σ,B,r,l,D,V2,V5,hQ,hZ⟩;by_cases P:p<n
  case neg =>
   obtain rfl:p=n:=om
   have E:((p:Int)==p)=true:=by simp
   have hz:det p A=0:=r.zero h fun i s=>by
    have:=hQ (k+i) k om om (ae _) h;rw[cq,(om:k+i-k=i)]at this
    rw[<-this];exact hZ _ om om
   obtain⟨gz,uz,xz⟩:=id V2;simp only[go_sem,aa,o,t,q,u,x,v,I,d,f,P,E,uz];rw[hz];exact VR.mf rfl
  obtain⟨g1,W,v1⟩:=l.outer;obtain⟨g2,L,v2⟩:=l.row p P;have v1':g1 p=.sl 2 (g p) 0 n:=v1 p P;have M:g2 k=.big (B p k):=v2 k h;have hbp:=hB σ neg k r k (p-k) 0 om om;have J:=hQ p k hkp P (ae _) h;rw[cq]at J;rw[<-J]at hbp;simp -dsimp only[go_sem,aa,t,q,v,I,P,h,W,L,v1',M];refine(lp hbp om).call ?_;by_cases h0:B p k=0
  .simp -dsimp only[go_sem,aa,o,t,q,u,x,v,I,d,f,P,h,h0,tf,aS (om:p<1000000),co]
   refine⟨⟨p+1,om,om,rfl,g,σ,B,r,l,D,V2,V5,hQ,fun i h1 h2=>?_⟩,om⟩
   by_cases e:i=p
   .rw[e];exact h0
   .exact hZ i h1 om
  have hs0:((B p k).sign==0)=false:=by
   simp only[it,Bu];rw[mb];exact h0
  have E:((p:Int)==n)=false:=by simp;omega
  apply yO (fun O S=>∃(neg:Bool) (m:Nat),O 2=.ptr 2 w 0/\O 3=.int .i64 n/\O 4=.sl 1 bb 0 n/\O 7=.bool neg/\O 8=.ptr 2 H 0/\O 9=.int .i64 k/\O 11=.ptr 2 m 0/\O 12=.int .i64 ((k+1:Nat):Int)/\O 39=.int .i64 n/\O 40=.int .i64 k/\DJ A n bb w H m S k neg (k+1) (k+1))
  .intro key;by_cases hkp':k<p
   .have v3':g1 k=.sl 2 (g k) 0 n:=v1 k h;have hne:((p:Int) != (k:Int))=true:=by simp;omega
    simp -dsimp only[go_sem,aa,o,t,q,u,x,v,I,d,f,P,h,hs0,E,hne];refine ie 13 kr ?_
    have y1:bR (bR g1 k (.sl 2 (g p) 0 n)) p (.sl 2 (g k) 0 n) k=.sl 2 (g p) 0 n:=by simp[bR,(om:¬k=p)]
    have hgp:g p≠bb:=aj (l.outer_ne P);simp -dsimp only[go_sem,aa,q,u,v,I,P,h,W,v1',v3',y1,hgp,L,M];refine aG.intro fun m f11=>?_;simp only[go_sem,aa,q,u,v,M];refine key _ _ ?_;simp only[go_sem,o,t,q,x,v,d,f,aS (om:k<1000000)]
    refine⟨!neg,rfl,m,rfl,?_⟩;rw[mD,mD];have f11':S m=ab:=by rw[mD]at f11;exact(ag f11).2
    have hs:∀i,i<n->dX k p i<n:=fun i s=>by unfold dX;split<;>(try split)<;>omega
    have hsw:∀i,dX p k i=dX k p i:=fun i=>by unfold dX;split<;>(try split)<;>(try split)<;>omega
    have G:=l.swap h P om W;simp only[hsw]at G;exact DJ.of r hkp' h P G D V2 V5 hb2 Z Y f11' l hQ J h0
   have hpk:p=k:=om
   subst hpk;have hne:((p:Int) != (p:Int))=false:=by simp
   simp -dsimp only[go_sem,aa,o,t,q,u,x,v,I,d,f,P,hs0,E,hne,W,v1',L,M,aS (om:p<1000000)]
   refine aG.intro fun m f11=>?_;simp only[go_sem,aa,q,v,M];refine key _ _ ?_;simp only[go_sem,o,t,q,u,x,v,d,f,aS (om:p<1000000)]
   refine⟨neg,rfl,m,rfl,?_⟩;rw[mD];exact DJ.of0 r h l D V2 V5 Y f11 hQ h0
  clear o t q u x v I d f hZ hQ V2 V5 D l W v1 L v2 v1' M hbp J h0 hs0 E r;rintro O S ⟨neg,m,o,t,q,u,x,v,y,C,d,f,G⟩;refine aI (fun O S=>∃i:Nat,k+1<=i/\i<=n/\O 2=.ptr 2 w 0/\O 3=.int .i64 n/\O 4=.sl 1 bb 0 n/\O 7=.bool neg/\O 8=.ptr 2 H 0/\O 9=.int .i64 k/\O 11=.ptr 2 m 0/\O 12=.int .i64 i/\O 39=.int .i64 n/\O 40=.int .i64 k/\DJ A n bb w H m S k neg i (k+1)) (fun O S=>n-co (O 12)) ?_ ?_
  .exact⟨k+1,om,om,o,t,q,u,x,v,y,C,d,f,G⟩
  clear o t q u x v y C d f G;rintro O S ⟨i,hki,hin,o,t,q,u,x,v,y,C,d,f,G⟩;by_cases s:i<n
  .simp only[*,go_sem,aa,aS (om:k<1000000)]
   refine aI (fun O S=>∃j:Nat,k+1<=j/\j<=n/\O 2=.ptr 2 w 0/\O 3=.int .i64 n/\O 4=.sl 1 bb 0 n/\O 7=.bool neg/\O 8=.ptr 2 H 0/\O 9=.int .i64 k/\O 11=.ptr 2 m 0/\O 12=.int .i64 i/\O 13=.int .i64 j/\O 39=.int .i64 n/\O 40=.int .i64 k/\DJ A n bb w H m S k neg i j) (fun O S=>n-co (O 13)) ?_ ?_
   .simp only[*,go_sem];exact⟨k+1,om,om,rfl,G⟩
   clear o t q u x v y C d f G;rintro O S ⟨j,hkj,hjn,o,t,q,u,x,v,y,C,e13,d,f,G⟩;by_cases X:j<n
   .obtain⟨g,σ,B,r,l,D,V2,V5,V11,n1,n2,n3,Q,F⟩:=G;obtain⟨g1,W,v1⟩:=l.outer;obtain⟨g2,L,v2⟩:=l.row i s;obtain⟨g3,u3,v3⟩:=l.row k h;obtain⟨gp,up',vp⟩:=id V11;have w1:g1 i=.sl 2 (g i) 0 n:=v1 i s;have w2:g1 k=.sl 2 (g k) 0 n:=v1 k h;have w3:g2 j=.big (B i j):=v2 j X;have w4:g2 k=.big (B i k):=v2 k h;have w5:g3 j=.big (B k j):=v3 j X;have c1:=F i j om s om X;have c2:=F i k om s (ae _) h;have c3:=F k j (ae _) h om X;rw[af om]at c1 c2 c3;rw[cq]at c2 c3;have m1:=hB σ neg k r k (i-k) (j-k) om om;have m2:=hB σ neg k r k (i-k) 0 om om;have m3:=hB σ neg k r k 0 (j-k) om om;have m4:=hB σ neg k r k 0 0 om om;rw[<-c1]at m1;rw[<-c2]at m2;rw[<-c3]at m3;have m5:nb (det k (fun a c=>A (σ a) c)) K:=by
     by_cases e:k=0
     .rw[e];simp only[det];exact nb.one om
     .have:=hB σ neg k r (k-1) 0 0 om om;rw[dd,(om:k-1+1=k)]at this
      exact this
    have hst:=jh r.lead (i-k-1) (j-k-1);rw[(om:i-k-1+1=i-k),(om:j-k-1+1=j-k),<-c1,<-c2,<-c3]at hst
    have hd0:=r.lead k (ae _);generalize hpv:cX (fun a c=>A (σ a) c) k 0 0=pv at *;have hq:(pv*B i j-B i k*B k j)/det k (fun a c=>A (σ a) c)=cX (fun a c=>A (σ a) c) (k+1) (i-k-1) (j-k-1):=by
     rw[hst,di _ hd0]
    simp -dsimp only[*,go_sem,aa];refine bD 26 kr ?_
    simp -dsimp only[go_sem,aa,q,v,y,C,e13,s,X,h,W,w1,w2,L,u3,w3,w4,w5,up',vp];refine⟨_,(qr m4 m1 om).pure',_,(qr m2 m3 om).pure',_,(Df (m4.mul m1) (m2.mul m3) om).pure',?_⟩;refine aG.intro fun N R=>?_
    try simp -dsimp only[go_sem]
    have q1:bb≠N:=bG.fresh l.outer R;have q2:∀a,a<n->g a≠N:=fun a ha=>bG.fresh (l.row a ha) R;have q3:w≠N:=V2.fresh R;have q4:H≠N:=V5.fresh R;have q5:m≠N:=V11.fresh R;refine o5 (fun T=>dE T bb g n n B/\en T w 50 2 (.big 0)/\en T H 50 2 (.big (det k (fun a c=>A (σ a) c)))/\en T m 50 2 (.big pv)/\en T N 50 2 (.big (pv*B i j-B i k*B k j))) ?_ ?_
    .refine⟨(l.upd q1 q2 _).upd q1 q2 _,(V2.upd q3 _).upd q3 _,(V5.upd q4 _).upd q4 _,(V11.upd q5 _).upd q5 _,?_⟩;simp only[en.at_hit,bR,aK]
    clear l V2 V5 V11 W v1 L v2 u3 v3 up' vp w1 w2 w3 w4 w5;rintro T ⟨l,V2,V5,V11,V14⟩;obtain⟨g1,W,v1⟩:=l.outer;obtain⟨g2,L,v2⟩:=l.row i s;obtain⟨g8,u8,x8⟩:=id V5;obtain⟨g14,u14,x14⟩:=id V14;have w1:g1 i=.sl 2 (g i) 0 n:=v1 i s;refine fQ 13 [[10,11]] kr ?_
    simp only[go_sem,aa,o,t,q,u,x,v,y,C,e13,d,f,s,X,W,w1,L,u8,x8,u14,x14];refine⟨_,(Il (k:=K+K+1) ((m4.mul m1).sub (m2.mul m3)) (m5.mono om) om hd0).pure',?_⟩;rw[hq];simp only[go_sem,aS (om:j<1000000),co]
    refine⟨⟨j+1,om,om,rfl,g,σ,_,r,l.set s L,D,en.upd V2 (aj (D i s).1) _,en.upd V5 (aj (D i s).2.1) _,by rw[hpv];exact en.upd V11 (aj (D i s).2.2) _,n1,n2,n3,by rw[hpv];exact Q,fun a c ha1 U hc1 V=>?_⟩,om⟩
    have h3:=F a c ha1 U hc1 V;simp only[eQ];by_cases e1:a=i/\c=j
    .obtain⟨rfl,rfl⟩:=e1;rw[ah ⟨rfl,rfl⟩,ah om,sC,sC]
    .rw[af e1,h3];by_cases o:k<a/\k<c/\(a<i∨a=i/\c<j)
     .rw[ah o,ah om]
     .rw[af o,af om]
   have hnj:n=j:=om
   obtain⟨g,σ,B,r,l,D,V2,V5,V11,n1,n2,n3,Q,F⟩:=G;simp only[go_sem,aa,o,t,q,u,x,v,y,C,e13,d,f,X,aS (om:i<1000000),co]
   refine⟨⟨i+1,om,om,rfl,g,σ,B,r,l,D,V2,V5,V11,n1,n2,n3,Q,fun a c ha1 U hc1 V=>?_⟩,om⟩
   rw[F a c ha1 U hc1 V];by_cases o:k<a/\k<c/\(a<i∨a=i/\c<j)
   .rw[ah o,ah om]
   .rw[af o,af om]
  have hni:n=i:=om
  obtain⟨g,σ,B,r,l,D,V2,V5,V11,n1,n2,n3,Q,F⟩:=G;obtain⟨g8,u8,x8⟩:=id V5;obtain⟨gp,up',vp⟩:=id V11;simp only[go_sem,aa,o,t,q,u,x,v,y,C,d,f,s,u8,up',vp,aS (om:k<1000000),co]
  refine⟨⟨k+1,om,neg,rfl,rfl,g,σ,B,r.step Q,l.upd Z (fun a ha=>(D a ha).2.1) _,fun a ha=>⟨(D a ha).1,(D a ha).2.1⟩,V2.upd (aj n1) _,by rw[<-dd];exact en.set,fun a c ha1 U hc1 V=>?_⟩,om⟩
  rw[F a c om U om V,ah om]
 have hnk:n=k:=om
 subst hnk;obtain⟨g,σ,B,r,l,D,V2,V5,hQ⟩:=G;obtain⟨g2,L,x2⟩:=id V2;obtain⟨g8,u8,x8⟩:=id V5;have m5:nb (det n (fun a c=>A (σ a) c)) K:=by
  have:=hB σ neg n r (n-1) 0 0 om om;rw[dd,(om:n-1+1=n)]at this
  exact this
 have hdet:=r.sign
 cases neg with
 | true =>
  simp -dsimp only[go_sem,aa,u,x,d,f,cT,u8,x8];refine(tA m5 om).call ?_;simp only[go_sem,aa,o,L,x8];have e:-det n (fun a c=>A (σ a) c)=det n A:=by rw[hdet];simp
  simp only[bR,aK];rw[e];exact VR.mf rfl
 | false =>
  simp -dsimp only[go_sem,aa,u,x,d,f,cT,u8,x8];refine(sd m5 om).call ?_;simp only[go_sem,aa,o,L,x8];have e:det n (fun a c=>A (σ a) c)=det n A:=by rw[hdet];simp
  simp only[bR,aK];rw[e];exact VR.mf rfl
def Tg(d:n<=16)(c:∀i j,i<n->j<n->nb (A i j) k0)(k i j:Nat)(e:k+i<n)(f:k+j<n):nb (cX A k i j) (17*(k0+10)):=by
 unfold cX;refine(oq (k:=k0) (k+1) _ om fun a b g h=>c _ _ ?_ ?_).mono ?_
 .rw[qS];split<;>omega
 .rw[qS];split<;>omega
 .have:=aD (k0+10) (om:k+1<=16)
  omega
def QN(e:n<=16)(f:∀i j,i<n->j<n->nb (A i j) k0)(σ:Nat->Nat)(neg:Bool)(k:Nat)(g:oG A n σ neg k)(k' i j:Nat)(c:k'+i<n)(d:k'+j<n):nb (cX (fun a b=>A (σ a) b) k' i j) (17*(k0+10)) :=
 Tg e (fun i j c d=>f _ j (g.row i c) d) k' i j c d
def GA(n K:Nat)(A:aH)(c:1<=n)(d:n<=16)(e:1<=K)(f:K<=1000000)(g:∀σ neg k,oG A n σ neg k->∀k' i j,k'+i<n->k'+j<n->nb (cX (fun a b=>A (σ a) b) k' i j) K):PF 79 [aU n n A] (.tup [.big (det n A),.bool true]):=by
 refine jo func79 ntmps79 results79 ?_;simp -dsimp only[go_sem,aU,bC];refine aG.intro fun h m=>?_
 try simp -dsimp only[go_sem]
 refine(lz n n A c d c d).call ?_;simp -dsimp only[go_sem,aa,show((n:Int) != n)=false by simp]
 refine(Ax n K A c d e f g).call ?_;simp only[go_sem,aa,bR];exact VR.tup (l:=[.big (det n A),.bool true]) (by simp[qZ])
def OR(n K:Nat)(A:aH)(d:1<=n)(e:n<=16)(c:1<=K)(f:K<=1000000)(_hd:det n A≠0)(g:∀σ neg k,oG A n σ neg k->∀k' i j,k'+i<n->k'+j<n->nb (cX (fun a b=>A (σ a) b) k' i j) K):PF 79 [aU n n A] (.tup [.big (det n A),.bool true]):=GA n K A d e c f g

def jm(k0:Nat):Nat->Nat
 | 0=>k0
 | k+1=>jm k0 k+jm k0 k+60
theorem pQ(a:Nat):∀k,a<=jm a k
 | 0=>ae _
 | k+1=>by have:=pQ a k;simp only[jm];omega
def yN(b:Nat)(c:b<=100):∀k,k<=8->jm b k<=50000:=by
 intro k a
 match k,a with
 | 0,_=>simp only[jm];omega
 | 1,_=>simp only[jm];omega
 | 2,_=>simp only[jm];omega
 | 3,_=>simp only[jm];omega
 | 4,_=>simp only[jm];omega
 | 5,_=>simp only[jm];omega
 | 6,_=>simp only[jm];omega
 | 7,_=>simp only[jm];omega
 | 8,_=>simp only[jm];omega
def JO(h:n<=8)(c:∀i j,i<n->j<n->nb (A i j) k)(d:∀i j,i<n->j<n->nb (B i j) k){i j:Nat}(e:i<n)(g:j<n):nb (mm n A B i j) (k+k+8):=by
 have:=se (f:=fun a=>A i a*B a j) (k:=k+k) n (fun a b=>(c i a e b).mul (d a j b g));exact this.mono om
def ML(c:n<=8)(b:∀i j,i<n->j<n->nb (A i j) k):∀t,t<=n->nb (aq t (fun a=>A a a)) (k+8):=fun t d =>
 (se (f:=fun a=>A a a) (k:=k) t (fun a e=>b a a om om)).mono om
def DP{a b:Int}(c:nb a k):nb (a/b) (k+1):=by
 have h:(a/b).natAbs<=a.natAbs:=jL a b;exact(nb.of_le h c).mono om
theorem Am{n k0:Nat}{M:aH}(c:n<=8)(d:1<=k0)(e:∀i j,i<n->j<n->nb (M i j) k0):∀k i j,i<n->j<n->nb (rG n M k i j) (jm k0 k)
 | 0,i,j,_,_=>by
  simp only[rG,jm];split
  .exact nb.one d
  .exact nb.zero _
 | k+1,i,j,a,b=>by
  have ih:=Am c d e k;have g:=pQ k0 k;have f:∀i j,i<n->j<n->nb (mm n M (rG n M k) i j) (jm k0 k+jm k0 k+8):=fun i j a b=>JO c (fun i j a b=>(e i j a b).mono g) ih a b;simp only[rG,jm];have h:nb (if i=j then tr n (mm n M (rG n M k))/(-((k+1:Nat):Int))else 0) (jm k0 k+jm k0 k+17):=by
   split
   .exact DP (ML c f n (ae _))
   .exact nb.zero _
  exact(((f i j a b).mono om).add h).mono om
def Gc(n m:Nat)(M:aH)(t:1<=n)(u:n<=8)(v:1<=m)(hk:m<=100)(L:∀i j,i<n->j<n->nb (M i j) m):MF 129 [aU n n M] n n (ke n M):=by
 refine MF.of ?_;refine jI func129 ntmps129 results129 ?_;simp -dsimp only[go_sem,aa,aU,bC];refine(ld dc dc).call ?_
 simp -dsimp only[go_sem,aa];refine(KT n 1 1 om (nb.one om) om _ _ (cY _ _)).mono ?_;rintro _ S1 ⟨b,g,rfl,f,_⟩;simp only[go_sem];refine aI (fun O S=>∃k:Nat,1<=k/\k<=n/\O 0=aU n n M/\O 3=.int .i64 n/\O 5=.int .i64 k/\∃b,O 4=.sl 1 b 0 n/\∃g,dE S b g n n (rG n M (k-1))) (fun O S=>n-co (O 5)) ?_ ?_
 .simp only[go_sem,aU,bC];exact⟨1,om,t,rfl,b,rfl,g,f⟩
 clear f;rintro O S ⟨k,hk2,hkn,w,r,s,b,x,g,f⟩;by_cases hlt:k<n
 .have N:=yN m hk (k-1) om;have P:=pQ m (k-1);have G:=Am u v L (k-1);have y:∀i j,i<n->j<n->nb (M i j) (jm m (k-1)):=fun i j z Q=>(L i j z Q).mono P;have H:∀i j,i<n->j<n->nb (mm n M (rG n M (k-1)) i j) (jm m (k-1)+jm m (k-1)+8):=fun i j z Q=>JO u y G z Q;simp -dsimp only[*,go_sem,aa,aU,bC];refine(vE n n n (jm m (k-1)) M (rG n M (k-1)) t om t om t om y G om _ _ (fH.two (VA.refl _ _) f.vr.va)).mono ?_;rintro _ S2 ⟨bc,g',rfl,l,_⟩;generalize R:mm n M (rG n M (k-1))=X at *;simp -dsimp only[*,go_sem];refine aG.intro fun I T=>?_
  try simp only[go_sem,r]
  have U:bc≠I:=bG.fresh l.outer T;have V:∀a,a<n->g' a≠I:=fun a o=>bG.fresh (l.row a o) T;refine aI (fun O S=>∃i:Nat,i<=n/\O 0=aU n n M/\O 3=.int .i64 n/\O 4=.sl 1 bc 0 n/\O 5=.int .i64 k/\O 6=.ptr 2 I 0/\O 29=.int .i64 n/\O 30=.int .i64 i/\dE S bc g' n n X/\en S I 50 2 (.big (aq i fun a=>X a a))) (fun O S=>n-co (O 30)) ?_ ?_
  .simp only[*,go_sem];exact⟨0,om,rfl,(l.upd U V _).upd U V _,en.set⟩
  clear l w r x s T f;rintro O S ⟨i,z,w,r,x,s,e6,B,C,f,V6⟩;obtain⟨g6,u6,x6⟩:=id V6;by_cases d:i<n
  .obtain⟨W,u1,Y⟩:=f.outer;obtain⟨Z,u2,v2⟩:=f.row i d;have x1:W i=.sl 2 (g' i) 0 n:=Y i d;have x2:Z i=.big (X i i):=v2 i d;simp -dsimp only[*,go_sem];refine bD 9 kr ?_
   simp only[*,go_sem,aa,aS (om:i<1000000),co]
   exact⟨_,(wO (ML u H i om) ((H i i d d).mono om) om).pure',trivial,⟨i+1,om,rfl,f.upd U V _,en.set⟩,om⟩
  have p:n=i:=om
  simp -dsimp only[go_sem,B,C,d];have wk:IntKind.i64.wrap (0-(k:Int))=-(k:Int):=by rw[vT];exact i64_in om om
  refine pS 11 [[7,8],[8],[]] kr ?_
  simp -dsimp only[go_sem,aa,s,e6,u6,x6,wk];have nt:=ML u H n (ae _);subst p;refine⟨_,(ld om om).pure',_,(qx nt (b:=-(k:Int)) (by unfold nb;omega) om om).pure',?_⟩
  simp -dsimp only[go_sem];refine aG.intro fun J f8=>?_
  try simp -dsimp only[go_sem]
  refine aG.intro fun b9 K=>?_;have n9_8:=(ag K).1;simp only[*,go_sem,aj n9_8];have r1:bc≠J:=bG.fresh f.outer f8;have r2:∀a,a<n->g' a≠J:=fun a o=>bG.fresh (f.row a o) f8;have r3:bc≠b9:=bG.fresh f.outer (ag K).2;have r4:∀a,a<n->g' a≠b9:=fun a o=>bG.fresh (f.row a o) (ag K).2;generalize hq:(aq n fun a=>X a a) / -(k:Int)=q at *;have nq:nb q (jm m (k-1)+jm m (k-1)+17):=by rw[<-hq];exact DP nt
  refine aI (fun O S=>∃i:Nat,i<=n/\O 0=aU n n M/\O 3=.int .i64 n/\O 4=.sl 1 bc 0 n/\O 5=.int .i64 k/\O 8=.ptr 2 J 0/\O 52=.int .i64 n/\O 53=.int .i64 i/\dE S bc g' n n (fun a c=>X a c+if a=c/\a<i then q else 0)/\en S J 50 2 (.big q)) (fun O S=>n-co (O 53)) ?_ ?_
  .simp only[*,go_sem];refine⟨0,om,rfl,rfl,dE.congr (A:=X) ?_ (fun a c _ _=>by simp),?_⟩
   .repeat' first|exact f|refine dE.upd ?_ (by assumption) (by assumption) _
   .simp only[en.at_hit,en.at_miss,Bu,i7,bR,aK,aj n9_8]
  clear f w r x s e6 B C f8 K d V6 u6 x6;rintro O S ⟨i,z,w,r,x,s,e8,e52,e53,f,V8⟩;obtain⟨g8,u8,x8⟩:=id V8;by_cases d:i<n
  .obtain⟨W,u1,Y⟩:=f.outer;obtain⟨Z,u2,v2⟩:=f.row i d;have x1:W i=.sl 2 (g' i) 0 n:=Y i d;have x2:Z i=.big (X i i):=(v2 i d).trans sm
   simp -dsimp only[*,go_sem];refine bD 15 kr ?_
   simp only[go_sem,aa,w,r,x,s,e8,e52,e53,d,u1,x1,u2,x2,u8,x8,aS (om:i<1000000),co]
   refine⟨_,(wO ((H i i d d).mono om) nq om).pure',trivial,⟨i+1,om,rfl,(f.set d u2).congr fun a c _ _=>?_,V8.upd (aj (r2 i d)) _⟩,om⟩
   simp only[eQ];by_cases e:a=i/\c=i
   .obtain⟨rfl,rfl⟩:=e;simp
   .rw[af e];by_cases e2:a=c/\a<i
    .rw[ah e2,ah ⟨e2.1,om⟩]
    .rw[af e2,af om]
  have p:n=i:=om
  subst p;simp only[*,go_sem,cT,aS (om:k<1000000),co]
  refine⟨⟨k+1,om,om,rfl,rfl,bc,rfl,g',f.congr fun a c o _=>?_⟩,om⟩
  rw[(om:k+1-1=(k-1)+1)]
  simp only[rG,R];congr 1;by_cases e:a=c
  .rw[ah ⟨e,o⟩,ah e,<-hq,show((k-1+1:Nat):Int)=(k:Int) by omega];rfl
  .rw[af (fun h=>e h.1),af e]
 have D:n=k:=om
 subst D;have G:=Am u v L (n-1);have N:=yN m hk (n-1) om;by_cases E:n%2=0
 .have F:(eI (n:Int) 2==0)=true:=by rw[aN om,oU];omega
  simp -dsimp only[*,go_sem,aa,cT,show ¬((2:Int)=0) by decide]
  refine(Hv n n _ (rG n M (n-1)) t om om G om _ _ (fH.one f.vr.va)).mono ?_;rintro _ S2 ⟨c,g',rfl,l,_⟩;simp only[go_sem];exact⟨c,rfl,g',l.congr fun a c _ _=>by simp[ke,E]⟩
 .have F:(eI (n:Int) 2==0)=false:=by rw[aN om,it];omega
  simp only[*,go_sem,aa,cT,show ¬((2:Int)=0) by decide]
  exact⟨b,rfl,g,f.congr fun a c _ _=>by simp[ke,E]⟩
def EF(n a:Nat)(M:aH)(c:1<=n)(e:n<=8)(d:1<=a)(f:a<=100)(h:∀i j,i<n->j<n->nb (M i j) a):CQ 78 [aU n n M] n n (ke n M):=by
 refine CQ.of ?_;refine jI func78 ntmps78 results78 ?_;simp -dsimp only[go_sem,aa,aU,bC];refine(lz n n M c om c om).call ?_;simp -dsimp only[go_sem,aa,show((n:Int) != n)=false by simp]
 refine(Gc n a M c e d f h _ _ (cY _ _)).mono ?_;rintro _ S1 ⟨b,g,rfl,k,_⟩;simp only[go_sem];exact⟨b,rfl,g,k⟩

end Go.Proofs.YtdobfmlmenaajaaGreatDoor
