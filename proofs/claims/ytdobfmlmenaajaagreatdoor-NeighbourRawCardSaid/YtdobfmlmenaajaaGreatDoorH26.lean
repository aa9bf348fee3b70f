/-
  Lemmas for NeighbourRaw.
-/
import Derived.Test.YtdobfmlmenaajaaGreatDoorH25
namespace Go.Proofs.YtdobfmlmenaajaaGreatDoor
open Go.RowKit Tryz
open _root_.Int renaming tmod→fo
open _root_.Option renaming none→ab
set_option maxHeartbeats 6400000
set_option maxRecDepth 4096
set_option linter.all false
attribute [local go_sem] Nat.reduceAdd Nat.reduceEqDiff Nat.reduceLeDiff Nat.reduceLT reduceCtorEq Int.ofNat_lt decide_true decide_false Int.zero_le_ofNat
attribute [local go_sem ↓] reduceIte
variable{x:AV}{K:AV->St->Prop}{d:Int}{N R b b11 b2 b3 b5 b8 bw es k k0 kk n p t top:Nat}{g0 g1 gb z:Nat->AV}{L:Nat->Bool}{g ls σ:Nat->Nat}{E:Nat->Nat->AV}{S S' S0:St}{O:Tm}{A B M W:aI}{X:eS}
def IB{c:Nat}{gc:Nat->AV}(d:S b=some ⟨50,2,n,gb⟩)(f:S c=some ⟨50,2,N,gc⟩)(a:c≠b)(g:0<N)(h:n+N<=1048576)(i:∀j,j<N->eF 2 (gc j))
  (k:∀b',(b'=b∨S b'=ab)->K (.sl 2 b' 0 (n+N)) ((S.del b).upd b' ⟨50,2,n+N,nm gb n N (fun j=>gc (0+j))⟩)):AN 59 59 (.sl 2 b 0 n) (.sl 2 c 0 N) S K:=by
 unfold AN fU;rw[show dJ 59=some 50 from rfl];refine⟨rfl,rfl,?_⟩;have l:Bx S (.sl 2 c 0 N)=some (2,N,fun j=>gc (0+j),some c):=by simp[Bx,f]
 rw[l];refine⟨rfl,g,fun j m=>by show eF 2 (gc (0+j));rw[aD];exact i j m,?_⟩
 simp only[d];exact⟨trivial,trivial,trivial,trivial,trivial,h,fun e=>a (by cases e;rfl),k⟩
structure uS(S0 S:St)(b:Nat)(g:Nat->Nat)(n N t:Nat)(M:aI):Prop where
 ext:ft S0 S
 new:S0 b=ab
 outer:bM S b 59 1 N (fun a=>.sl 2 (g a) 0 (if a<t then n+N else n))
 row:∀a,a<N->jp S (g a) (if a<t then n+N else n) (fun r=>fG n M r a)
 rnew:∀a,a<N->S0 (g a)=ab
 inj:∀a c,a<N->c<N->g a=g c->a=c
def uS.upd(h:uS S0 S b g n N t M){e:Nat}(d:S0 e=ab)(f:b≠e)(i:∀a,a<N->g a≠e)(X:eS):uS S0 (S.upd e X) b g n N t M :=
 ⟨h.ext.upd d _,h.new,h.outer.upd f _,fun a c=>(h.row a c).upd (i a c) _,h.rnew,h.inj⟩
def py(h:k≠b):S.del b k=S k:=by simp[St.del,h]
def uS.app(h:uS S0 S b g n N t M)(p:t<N){gb gc go:Nat->AV}(E:S (g t)=some ⟨50,2,n,gb⟩)(x:∀j,j<N->gc j=.big (if j=t then 1 else 0)){b':Nat}(i:b'=g t∨S b'=ab)(F:S b=some ⟨59,1,N,go⟩) :
  uS S0 (((S.del (g t)).upd b' ⟨50,2,n+N,nm gb n N gc⟩).upd b ⟨59,1,N,bW go t (.sl 2 b' 0 (n+N))⟩) b (fun a=>if a=t then b' else g a) n N (t+1) M:=by
 have q:∀a,a<N->b≠g a:=fun a f=>bM.ne h.outer (h.row a f) dc
 have y:b≠b':=by
  rcases i with e|e
  .rw[e];exact q t p
  .exact bM.fresh h.outer e
 have l:∀a,a<N->a≠t->g a≠b':=fun a f z=>by
  rcases i with e|e
  .rw[e];exact fun d=>z (h.inj a t f p d)
  .exact bM.fresh (h.row a f) e
 have s:S0 b'=ab:=by
  rcases i with e|e
  .rw[e];exact h.rnew t p
  .exact h.ext.none e
 refine⟨fun k X m=>?_,h.new,bM.here fun a f=>?_,fun a f=>?_,fun a f=>?_,fun a c f C o=>?_⟩
 .have G:k≠b:=by rintro rfl;rw[h.new]at m;cases m
  have H:k≠b':=by rintro rfl;rw[s]at m;cases m
  have I:k≠g t:=by rintro rfl;rw[h.rnew t p]at m;cases m
  rw[aO G,aO H,py I];exact h.ext k X m
 .obtain⟨go',D,J⟩:=h.outer;rw[F]at D;cases D;simp only[bW];by_cases e:a=t
  .simp[e]
  .simp only[e,aS];rw[J a f];by_cases d:a<t
   .simp[d,(om:a<t+1)]
   .simp[d,(om:¬a<t+1)]
 .by_cases e:a=t
  .subst e;simp only[aQ,U6];refine bM.upd (bM.here fun r K=>?_) (aj y) _;have u:=h.row a f;rw[af (cZ _)]at u;obtain⟨gb',v,A⟩:=u;rw[E]at v;cases v;by_cases d:r<n
   .rw[D9 d];exact A r d
   .rw[yM om om,x _ om];simp only[fG,d,aS];congr 1;by_cases w:r-n=a
    .rw[ai w,ai om]
    .rw[af w,af om]
  .simp only[e,aS];have w:(if a<t+1 then n+N else n)=if a<t then n+N else n:=by
    by_cases d:a<t
    .rw[ai d,ai om]
    .rw[af d,af om]
   rw[w];have B:g a≠g t:=fun d=>e (h.inj a t f p d);obtain⟨ga,v,A⟩:=h.row a f;refine bM.upd (bM.upd ⟨ga,by rw[py B];exact v,A⟩ (l a f e) _) (aj (q a f)) _
 .by_cases e:a=t
  .simp only[e,aQ];exact s
  .simp only[e,aS];exact h.rnew a f
 .by_cases e:a=t
  .by_cases d:c=t
   .omega
   .rw[ai e,af d]at o;exact absurd o.symm (l c C d)
  .by_cases d:c=t
   .rw[af e,ai d]at o;exact absurd o (l a f e)
   .rw[af e,af d]at o;exact h.inj a c f C o
structure NPI(S0 S:St)(b b2 b3:Nat)(g:Nat->Nat)(n N t:Nat)(M:aI):Prop where
 pb:uS S0 S b g n N t M
 h2:bM S b2 218 1 2 (fun j=>if j=0 then .nil else .int .i64 0)
 h3:bM S b3 218 1 2 (fun j=>if j=0 then .sl 1 b 0 N else .int .i64 n)
 n2:S0 b2=ab
 n3:S0 b3=ab
def Dv(S0:St)(n N:Nat)(M:aI)(h1:1<=n)(h2:n<=16)(h3:1<=N)(h4:N<=16) :
  cP 232 [aR n N M] S0 (fun r S'=>∃b g,r=.agg [.sl 1 b 0 N,.int .i64 n]/\iR S0 S' b g N (n+N) (fun j r=>fG n M r j)):=by
 refine i9 func232 ntmps232 results232 ?_;have hp0:0<n:=om
 have D:(0:Int)<(n:Int):=om
 simp -dsimp only[go_sem,aa,aR,bB];refine aF.intro fun i E=>?_
 try simp -dsimp only[go_sem]
 refine(uA n N M h1 h2 h4 _ _ (cS _ _)).mono ?_;rintro _ S1 ⟨b,g,rfl,o,F,R,U⟩;simp only[go_sem,aa];refine aF.intro fun m p=>?_;simp only[go_sem,iW,bn,bS,cB,cM,bO,ct];have k:ft S0 S1:=((ft.refl S0).upd E _).trans F;have G:bM S1 i 218 1 2 (fun j=>if j=0 then .nil else .int .i64 0):=F.has (bM.here fun _ _=>rfl)
 have v:uS S0 S1 b g n N 0 M:=⟨k,(ag R).2,o.outer.congr fun a _=>by simp,fun a f=>by
  simp only[J8,aS];exact(o.row a f).congr fun r hr=>by simp[fG,hr],fun a f=>(ag (U a f)).2,o.inj⟩
 have w:i≠m:=bM.fresh G p;refine aH (fun O S=>∃t:Nat,t<=N/\O 0=aR n N M/\O 2=.ptr 1 i 0/\O 3=.ptr 1 m 0/\O 13=.sl 1 b 0 N/\O 14=.int .i64 N/\O 15=.int .i64 t/\∃g,NPI S0 S b i m g n N t M) (fun O S=>N-cj (O 15)) ?_ ?_
 .simp only[go_sem,aR,bB];refine⟨0,om,rfl,g,?_,?_,?_,E,k.none p⟩
  .repeat' first|exact v|refine uS.upd ?_ (k.none p) (bM.fresh o.outer p) (fun a f=>bM.fresh (o.row a f) p) _
  .exact(G.upd w _).upd w _
  .exact bM.here fun j B=>by
    match j,B with
    | 0,_=>simp[iW]
    | 1,_=>simp[iW]
 clear F R U o v G k p E;rintro O S ⟨t,ht,e0,e2,e3,H,I,J,g,c⟩;by_cases h:t<N
 .obtain⟨V,C,K⟩:=id c.pb.outer;have W:V t=.sl 2 (g t) 0 n:=(K t h).trans sm
  simp -dsimp only[go_sem,aa,e0,e2,e3,H,I,J,h,C,W,aR,bB,D]
  repeat refine an ?_
  refine aF.intro fun q s=>?_;simp -dsimp only[go_sem];refine(kQ dc dc).call ?_
  simp -dsimp only[go_sem,aa,h];have X:S0 q=ab:=c.pb.ext.none s;have Y:b≠q:=bM.fresh c.pb.outer s;have L:∀a,a<N->g a≠q:=fun a f=>bM.fresh (c.pb.row a f) s;have z2:i≠q:=bM.fresh c.h2 s;have z3:m≠q:=bM.fresh c.h3 s;refine oK (fun T=>NPI S0 T b i m g n N t M/\∃gc,T q=some ⟨50,2,N,gc⟩/\∀j,j<N->gc j=.big (if j=t then 1 else 0)) ?_ ?_
  .refine⟨⟨(c.pb.upd X Y L _).upd X Y L _,(c.h2.upd z2 _).upd z2 _,(c.h3.upd z3 _).upd z3 _,c.n2,c.n3⟩,_,cn,fun j B=>?_⟩;simp only[bW];by_cases e:j=t
   .simp[e]
   .simp[e]
  clear c C K W s;rintro T ⟨c,gc,u6,y⟩;obtain⟨V,C,K⟩:=id c.pb.outer;have d:=c.pb.row t h;rw[af (cZ _)]at d;obtain⟨gb,ub,vb⟩:=id d;obtain⟨z,Z,A⟩:=id c.h3;have x3:z 0=.sl 1 b 0 N:=A 0 om;refine fH 5 [[0,1,2],[],[]] kr ?_
  simp -dsimp only[*,go_sem,aa];refine IB ub u6 (aj (L t h)) om om (fun j B=>by rw[y j B];trivial) ?_
  intro b' l;have P:m≠g t:=bM.ne c.h3 d dc
  have p2:i≠g t:=bM.ne c.h2 d dc
  have p1:b≠g t:=bM.ne c.pb.outer d dc
  have q3:m≠b':=by rcases l with e|e;exact e▸P;exact bM.fresh c.h3 e
  have q2:i≠b':=by rcases l with e|e;exact e▸p2;exact bM.fresh c.h2 e
  have q1:b≠b':=by rcases l with e|e;exact e▸p1;exact bM.fresh c.pb.outer e
  simp only[*,go_sem,aa,py P,py p1,aP (om:t<1000000),cj]
  refine⟨⟨t+1,om,rfl,rfl,_,c.pb.app h ub (gc:=fun j=>gc j) y l C,?_,?_,c.n2,c.n3⟩,om⟩
  .obtain⟨x,l1,l2⟩:=c.h2;exact bM.upd (bM.upd ⟨x,by rw[py p2];exact l1,l2⟩ q2 _) (bM.ne c.h2 c.pb.outer dc) _
  .exact bM.upd (bM.upd ⟨z,by rw[py P];exact Z,A⟩ q3 _) (bM.ne c.h3 c.pb.outer dc) _
 have Q:N=t:=om
 subst Q;obtain⟨z,Z,A⟩:=id c.h3;obtain⟨g2,u2,v2⟩:=id c.h2;have x3:z 0=.sl 1 b 0 N:=A 0 om;have x4:z 1=.int .i64 n:=A 1 om;simp only[*,go_sem,aa,cZ,iW,eA,bn,bS,cB,cM,bO,bG,fq,ct];have y2:∀a,a<N->g a≠i:=fun a f=>bM.ne (c.pb.row a f) c.h2 dc
 have w2:b≠i:=bM.ne c.pb.outer c.h2 dc
 have u:=c.pb.upd (e:=i) c.n2 w2 y2 ⟨218,1,2,iW g2 0 [.sl 1 b 0 N,.int .i64 n]⟩;refine⟨b,rfl,g,⟨u.outer.congr fun a f=>by simp[f],fun a f=>?_,u.inj⟩,u.ext,u.new,u.rnew⟩
 have:=u.row a f;rw[ai f]at this;exact this

structure IQ(A:aI)(N R k:Nat)(σ:Nat->Nat)(W:aI):Prop where
 el:lZ A N σ k
 q:∀a r,k<=a->a<N->k<=r->r<R->W a r=cQ (fun x y=>A x (σ y)) k (r-k) (a-k)
 z:∀a r,k<=a->a<N->r<k->W a r=0
 b:∀a r,a<N->r<R->nb (W a r) KB
structure IE(A:aI)(N R k j:Nat)(σ:Nat->Nat)(W:aI):Prop where
 el:lZ A N σ k
 p:∀r,k<=r->r<R->W k r=cQ (fun x y=>A x (σ y)) k (r-k) 0
 pz:∀r,r<k->W k r=0
 n:∀a r,k<a->a<j->a<N->k+1<=r->r<R->W a r=cQ (fun x y=>A x (σ y)) (k+1) (r-(k+1)) (a-(k+1))
 nz:∀a r,k<a->a<j->a<N->r<=k->W a r=0
 o:∀a r,j<=a->a<N->k<=r->r<R->W a r=cQ (fun x y=>A x (σ y)) k (r-k) (a-k)
 oz:∀a r,j<=a->a<N->r<k->W a r=0
 b:∀a r,a<N->r<R->nb (W a r) KB
def IQ.swap(h:IQ A N R k σ W)(m:k<=p)(s:p<N):IQ A N R k (fun a=>σ (dO k p a)) (fun a=>W (dO k p a)):=by
 have g:∀a,a<N->dO k p a<N:=fun a f=>by unfold dO;split<;>(try split)<;>omega
 have n:∀a,k<=a->k<=dO k p a:=fun a f=>by unfold dO;split<;>(try split)<;>omega
 have t:∀a,k<=a->dO k p a-k=dO 0 (p-k) (a-k):=fun a f=>by
  unfold dO;by_cases e:a=k
  .rw[ai e,ai om]
  .rw[af e,af (om:¬a-k=0)]
   by_cases o:a=p
   .rw[ai o,ai om];omega
   .rw[af o,af om]
 refine⟨h.el.swap m s,fun a r c d i j=>?_,fun a r c d l=>h.z _ r (n a c) (g a d) l,fun a r f l=>h.b _ r (g a f) l⟩;rw[h.q _ r (n a c) (g a d) i j,t a c];exact(Ff (fun x y=>A x (σ y)) m (r-k) (a-k)).symm
def IQ.start(h:IQ A N R k σ W)(e:k<N):IE A N R k (k+1) σ W :=
 ⟨h.el,fun r d c=>by rw[h.q k r (ae _) e d c,ct],fun r f=>h.z k r (ae _) e f,fun a r d c=>om,fun a r d c=>om,fun a r d c=>h.q a r om c,fun a r d c=>h.z a r om c,h.b⟩
def IE.step{j:Nat}(h:IE A N R k j σ W)(w:k<j)(g:j<N)(q:k<R)(t:∀i c,k+1+c<N->k+1+i<R->nb (cQ (fun x y=>A x (σ y)) (k+1) i c) KB) :
  IE A N R k (j+1) σ (fun a r=>if a=j then(W k k*W j r-W j k*W k r)/det k (fun x y=>A x (σ y))else W a r):=by
 have u:=h.el.lead k (ae _);have key:∀r,k+1<=r->r<R->(W k k*W j r-W j k*W k r)/det k (fun x y=>A x (σ y))=cQ (fun x y=>A x (σ y)) (k+1) (r-(k+1)) (j-(k+1)):=by
  intro r f d;rw[h.p k (ae _) q,h.o j r (ae _) g om d,h.o j k (ae _) g (ae _) q,h.p r om d,ct];have e:=ju h.el.lead (r-(k+1)) (j-(k+1));rw[(om:r-(k+1)+1=r-k),(om:j-(k+1)+1=j-k)]at e
  rw[cX (cQ _ k 0 (j-k)),e];exact dh _ u
 have keyz:∀r,r<=k->(W k k*W j r-W j k*W k r)/det k (fun x y=>A x (σ y))=0:=by
  intro r z;have:W k k*W j r-W j k*W k r=0:=by
   by_cases e:r=k
   .rw[e,cX];omega
   .rw[h.oz j r (ae _) g om,h.pz r om];simp
  rw[this];simp
 refine⟨h.el,fun r f d=>?_,fun r f=>?_,fun a r f d l m s=>?_,fun a r f d l m=>?_,fun a r f d l m=>?_,fun a r f d l=>?_,fun a r f d=>?_⟩
 .rw[af om];exact h.p r f d
 .rw[af om];exact h.pz r f
 .by_cases e:a=j
  .rw[ai e,e];exact key r m s
  .rw[af e];exact h.n a r f om l m s
 .by_cases e:a=j
  .rw[ai e];exact keyz r m
  .rw[af e];exact h.nz a r f om l m
 .rw[af om];exact h.o a r om d l m
 .rw[af om];exact h.oz a r om d l
 .by_cases e:a=j
  .rw[ai e];by_cases v:k+1<=r
   .rw[key r v d];exact t _ _ om om
   .rw[keyz r om];exact nb.zero KB
  .rw[af e];exact h.b a r f d
def IE.done(h:IE A N R k N σ W)(e:cQ (fun x y=>A x (σ y)) k 0 0≠0):IQ A N R (k+1) σ W :=
 ⟨h.el.step e,fun a r f c d g=>h.n a r om c c d g,fun a r f c d=>h.nz a r om c c om,h.b⟩
def IQ.init(b:∀a r,a<N->r<R->nb (A r a) KB):IQ A N R 0 id (fun a r=>A r a) :=
 ⟨lZ.init A N,fun a r _ _ _ _=>by rw[iz];rfl,fun a r _ _ h=>om,b⟩

def MY(b N top:Nat):Nat->AV:=fun j=>if j=0 then .sl 1 b 0 N else .int .i64 top
structure vE(T:St)(b1 b N top:Nat)(L:Nat->Bool)(O:Tm)(S:St):Prop where
 base:O 1=.ptr 1 b1 0
 p0:L 0=true->O 10=.ptr 1 b1 0
 p1:L 1=true->O 11=.sl 1 b 0 N
 p2:L 2=true->O 12=.int .i64 N
 p4:L 4=true->O 14=.ptr 1 b1 1
 p5:L 5=true->O 15=.int .i64 top
 ext:ft T S
 ex:∃bw b3,(L 3=true->O 13=.sl 1 bw 0 N/\bM S bw 59 1 N (fun _=>.nil)/\T bw=ab)/\(L 6=true->L 3=true/\O 16=.agg [.sl 1 bw 0 N,.int .i64 top])/\(L 7=true->O 3=.ptr 1 b3 0/\T b3=ab/\∃g,S b3=some ⟨218,1,2,g⟩)/\(L 8=true->L 6=true/\L 7=true/\bM S b3 218 1 2 (MY bw N top))
def pt{d:Nat}{z:AV}(h:t≠d):(O.put (some d) z) t=O t:=by rw[Tm.put_eq];exact af h
def pd{d:Nat}{z:AV}:(O.put (some d) z) d=z:=by rw[Tm.put_eq];exact ai rfl
def jT{i:Nat}(h:(if k=i then true else L k)=true)(a:k≠i):L k=true:=by rwa [af a]at h
section
variable {T:St} {b1 b N top:Nat} {L:Nat->Bool} {O:Tm} {S:St}
def vE.s0(h:vE T b1 b N top L O S):vE T b1 b N top (fun k=>if k=0 then true else L k) (O.put (some 10) (.ptr 1 b1 0)) S :=
 ⟨by rw[pt dc];exact h.base,fun _=>pd,fun a=>by rw[pt dc];exact h.p1 (jT a dc),fun a=>by rw[pt dc];exact h.p2 (jT a dc),fun a=>by rw[pt dc];exact h.p4 (jT a dc),fun a=>by rw[pt dc];exact h.p5 (jT a dc),h.ext,by
  obtain⟨bw,d,e,c,f,g⟩:=h.ex;refine⟨bw,d,fun a=>?_,fun a=>?_,fun a=>?_,fun a=>?_⟩
  .rw[pt dc];exact e (jT a dc)
  .rw[pt dc];exact⟨by simpa using (c (jT a dc)).1,(c (jT a dc)).2⟩
  .rw[pt dc];exact f (jT a dc)
  .have:=g (jT a dc);exact⟨by simpa using this.1,by simpa using this.2.1,this.2.2⟩⟩
def vE.s1(h:vE T b1 b N top L O S):vE T b1 b N top (fun k=>if k=1 then true else L k) (O.put (some 11) (.sl 1 b 0 N)) S :=
 ⟨by rw[pt dc];exact h.base,fun a=>by rw[pt dc];exact h.p0 (jT a dc),fun _=>pd,fun a=>by rw[pt dc];exact h.p2 (jT a dc),fun a=>by rw[pt dc];exact h.p4 (jT a dc),fun a=>by rw[pt dc];exact h.p5 (jT a dc),h.ext,by
  obtain⟨bw,d,e,c,f,g⟩:=h.ex;refine⟨bw,d,fun a=>?_,fun a=>?_,fun a=>?_,fun a=>?_⟩
  .rw[pt dc];exact e (jT a dc)
  .rw[pt dc];exact⟨by simpa using (c (jT a dc)).1,(c (jT a dc)).2⟩
  .rw[pt dc];exact f (jT a dc)
  .have:=g (jT a dc);exact⟨by simpa using this.1,by simpa using this.2.1,this.2.2⟩⟩
def vE.s2(h:vE T b1 b N top L O S):vE T b1 b N top (fun k=>if k=2 then true else L k) (O.put (some 12) (.int .i64 N)) S :=
 ⟨by rw[pt dc];exact h.base,fun a=>by rw[pt dc];exact h.p0 (jT a dc),fun a=>by rw[pt dc];exact h.p1 (jT a dc),fun _=>pd,fun a=>by rw[pt dc];exact h.p4 (jT a dc),fun a=>by rw[pt dc];exact h.p5 (jT a dc),h.ext,by
  obtain⟨bw,d,e,c,f,g⟩:=h.ex;refine⟨bw,d,fun a=>?_,fun a=>?_,fun a=>?_,fun a=>?_⟩
  .rw[pt dc];exact e (jT a dc)
  .rw[pt dc];exact⟨by simpa using (c (jT a dc)).1,(c (jT a dc)).2⟩
  .rw[pt dc];exact f (jT a dc)
  .have:=g (jT a dc);exact⟨by simpa using this.1,by simpa using this.2.1,this.2.2⟩⟩
def vE.s4(h:vE T b1 b N top L O S):vE T b1 b N top (fun k=>if k=4 then true else L k) (O.put (some 14) (.ptr 1 b1 1)) S :=
 ⟨by rw[pt dc];exact h.base,fun a=>by rw[pt dc];exact h.p0 (jT a dc),fun a=>by rw[pt dc];exact h.p1 (jT a dc),fun a=>by rw[pt dc];exact h.p2 (jT a dc),fun _=>pd,fun a=>by rw[pt dc];exact h.p5 (jT a dc),h.ext,by
  obtain⟨bw,d,e,c,f,g⟩:=h.ex;refine⟨bw,d,fun a=>?_,fun a=>?_,fun a=>?_,fun a=>?_⟩
  .rw[pt dc];exact e (jT a dc)
  .rw[pt dc];exact⟨by simpa using (c (jT a dc)).1,(c (jT a dc)).2⟩
  .rw[pt dc];exact f (jT a dc)
  .have:=g (jT a dc);exact⟨by simpa using this.1,by simpa using this.2.1,this.2.2⟩⟩
def vE.s5(h:vE T b1 b N top L O S):vE T b1 b N top (fun k=>if k=5 then true else L k) (O.put (some 15) (.int .i64 top)) S :=
 ⟨by rw[pt dc];exact h.base,fun a=>by rw[pt dc];exact h.p0 (jT a dc),fun a=>by rw[pt dc];exact h.p1 (jT a dc),fun a=>by rw[pt dc];exact h.p2 (jT a dc),fun a=>by rw[pt dc];exact h.p4 (jT a dc),fun _=>pd,h.ext,by
  obtain⟨bw,d,e,c,f,g⟩:=h.ex;refine⟨bw,d,fun a=>?_,fun a=>?_,fun a=>?_,fun a=>?_⟩
  .rw[pt dc];exact e (jT a dc)
  .rw[pt dc];exact⟨by simpa using (c (jT a dc)).1,(c (jT a dc)).2⟩
  .rw[pt dc];exact f (jT a dc)
  .have:=g (jT a dc);exact⟨by simpa using this.1,by simpa using this.2.1,this.2.2⟩⟩
def vE.s3(h:vE T b1 b N top L O S)(f:L 3=false){c:Nat}(j:S c=ab)(z:Nat->AV)(m:∀i,i<N->z i=.nil):vE T b1 b N top (fun k=>if k=3 then true else L k) (O.put (some 13) (.sl 1 c 0 N)) (S.upd c ⟨59,1,N,z⟩):=by
 have l:=h.ext.none j;refine⟨by rw[pt dc];exact h.base,fun a=>by rw[pt dc];exact h.p0 (jT a dc),fun a=>by rw[pt dc];exact h.p1 (jT a dc),fun a=>by rw[pt dc];exact h.p2 (jT a dc),fun a=>by rw[pt dc];exact h.p4 (jT a dc),fun a=>by rw[pt dc];exact h.p5 (jT a dc),h.ext.upd l _,?_⟩
 obtain⟨bw,n,t,o,p,q⟩:=h.ex;have d:L 6=true->False:=fun d=>by rw[(o d).1]at f;cases f
 refine⟨c,n,fun _=>⟨pd,bM.here m,l⟩,fun a=>(d (jT a dc)).elim,fun a=>?_,fun a=>(d (q (jT a dc)).1).elim⟩
 rw[pt dc]
 obtain⟨r,s,g,e⟩:=p (jT a dc)
 refine⟨r,s,g,?_⟩;rw[aO];exact e;rintro rfl;rw[j]at e;cases e
def vE.s6(h:vE T b1 b N top L O S)(c:L 3=true):∃bw,O 13=.sl 1 bw 0 N/\vE T b1 b N top (fun k=>if k=6 then true else L k) (O.put (some 16) (.agg [.sl 1 bw 0 N,.int .i64 top])) S:=by
 obtain⟨bw,e,d,i,f,g⟩:=h.ex;refine⟨bw,(d c).1,⟨by rw[pt dc];exact h.base,fun a=>by rw[pt dc];exact h.p0 (jT a dc),fun a=>by rw[pt dc];exact h.p1 (jT a dc),fun a=>by rw[pt dc];exact h.p2 (jT a dc),fun a=>by rw[pt dc];exact h.p4 (jT a dc),fun a=>by rw[pt dc];exact h.p5 (jT a dc),h.ext,bw,e,fun a=>?_,fun _=>⟨by simpa using c,pd⟩,fun a=>?_,fun a=>?_⟩⟩
 .rw[pt dc];exact d c
 .rw[pt dc];exact f (jT a dc)
 .have:=g (jT a dc);exact⟨sm,by simpa using this.2.1,this.2.2⟩
def vE.s7(h:vE T b1 b N top L O S)(d:L 7=false){c:Nat}(e:S c=ab)(z:Nat->AV):vE T b1 b N top (fun k=>if k=7 then true else L k) (O.put (some 3) (.ptr 1 c 0)) (S.upd c ⟨218,1,2,z⟩):=by
 have f:=h.ext.none e;refine⟨by rw[pt dc];exact h.base,fun a=>by rw[pt dc];exact h.p0 (jT a dc),fun a=>by rw[pt dc];exact h.p1 (jT a dc),fun a=>by rw[pt dc];exact h.p2 (jT a dc),fun a=>by rw[pt dc];exact h.p4 (jT a dc),fun a=>by rw[pt dc];exact h.p5 (jT a dc),h.ext.upd f _,?_⟩
 obtain⟨bw,o,j,g,p,l⟩:=h.ex;refine⟨bw,c,fun a=>?_,fun a=>?_,fun _=>⟨pd,f,z,cn⟩,fun a=>?_⟩
 .rw[pt dc]
  obtain⟨m,i,n⟩:=j (jT a dc)
  exact⟨m,i.upd (bM.fresh i e) _,n⟩
 .rw[pt dc];exact⟨by simpa using (g (jT a dc)).1,(g (jT a dc)).2⟩
 .have:=(l (jT a dc)).2.1;rw[this]at d;cases d
def vE.s8(h:vE T b1 b N top L O S)(e:L 6=true)(f:L 7=true):∃bw c g,O 16=.agg [.sl 1 bw 0 N,.int .i64 top]/\O 3=.ptr 1 c 0/\S c=some ⟨218,1,2,g⟩/\∀z,(∀j,j<2->z j=MY bw N top j)->vE T b1 b N top (fun k=>if k=8 then true else L k) O (S.upd c ⟨218,1,2,z⟩):=by
 obtain⟨bw,c,o,d,p,t⟩:=h.ex;obtain⟨i,l,g,m⟩:=p f;refine⟨bw,c,g,(d e).2,i,m,fun z q=>⟨h.base,fun a=>h.p0 (jT a dc),fun a=>h.p1 (jT a dc),fun a=>h.p2 (jT a dc),fun a=>h.p4 (jT a dc),fun a=>h.p5 (jT a dc),h.ext.upd l _,bw,c,fun a=>?_,fun a=>?_,fun _=>⟨i,l,z,cn⟩,fun _=>⟨by simpa using e,by simpa using f,bM.here q⟩⟩⟩
 .obtain⟨r,n,s⟩:=o (jT a dc)
  exact⟨r,n.upd (bM.ne n (bM.of m) dc) _,s⟩
 .exact⟨by simpa using (d (jT a dc)).1,(d (jT a dc)).2⟩
end
structure GQ(S0 S:St)(b3 b5 bw:Nat)(x:AV)(N R kk top:Nat)(W:aI)(d:Int)(ls:Nat->Nat):Prop where
 cols:∃c,rJ S bw c N R W
 pair:bM S b3 218 1 2 (MY bw N top)
 var:ed S b5 50 2 (.big d)
 list:da 3 1 S0 S x kk (fun i=>.int .i64 (ls i))
 nw:S0 bw=ab
 n3:S0 b3=ab
 n5:S0 b5=ab
def GQ.keep{W':aI}(h:GQ S0 S b3 b5 bw x N R kk top W d ls)(b:iS bw S S'){c:Nat->Nat}(n:rJ S' bw c N R W'):GQ S0 S' b3 b5 bw x N R kk top W' d ls:=by
 obtain⟨p,a⟩:=h.cols;have o:ft S0 S':=fun k X g=>b k X (h.list.1 k X g) (fun e=>by rw[e,h.nw]at g;cases g)
 refine⟨⟨c,n⟩,b.has h.pair (bM.ne h.pair a.outer dc),b.var h.var ?_,h.list.step o fun d i=>?_,h.nw,h.n3,h.n5⟩
 .obtain⟨y,f,_⟩:=h.var;obtain⟨y',l,_⟩:=a.outer;rintro rfl;rw[f]at l;cases l
 .rcases h.list.2 with⟨_,j⟩|⟨e,_,j,m⟩
  .obtain⟨_,_,_,e⟩:=i;rw[j]at e;cases e
  .rw[j]at i;rw[ep.1 i];obtain⟨y,f,_⟩:=id m;rw[f];exact b _ _ f (bM.ne m a.outer dc)
def GQ.setVar{z:Int}(h:GQ S0 S b3 b5 bw x N R kk top W d ls){g:Nat->AV}(c:S b5=some ⟨50,2,1,g⟩)(k:R≠1):GQ S0 (S.upd b5 ⟨50,2,1,bW g 0 (.big z)⟩) b3 b5 bw x N R kk top W z ls:=by
 obtain⟨l,b⟩:=h.cols;have f:bM S b5 50 2 1 g:=bM.of c;refine⟨⟨l,b.outer.upd (bM.ne b.outer f dc) _,fun a i=>(b.row a i).upd ?_ _⟩,h.pair.upd (bM.ne h.pair f dc) _,ed.set,h.list.upd h.n5 (fun d m e=>h.list.other c dc (e▸m)) _,h.nw,h.n3,h.n5⟩
 rintro e;obtain⟨y,j,_⟩:=b.row a i;rw[e,c]at j;cases j;exact k rfl
def GQ.other(h:GQ S0 S b3 b5 bw x N R kk top W d ls){e:Nat}(c:S e=ab)(X:eS):GQ S0 (S.upd e X) b3 b5 bw x N R kk top W d ls:=by
 obtain⟨g,b⟩:=h.cols;exact⟨⟨g,b.outer.upd (bM.fresh b.outer c) _,fun a f=>(b.row a f).upd (bM.fresh (b.row a f) c) _⟩,h.pair.upd (bM.fresh h.pair c) _,h.var.upd (h.var.fresh c) _,h.list.upd (h.list.1.none c) (h.list.fresh c) _,h.nw,h.n3,h.n5⟩
def GQ.app(h:GQ S0 S b3 b5 bw x N R kk top W d ls){e k' row:Nat}(l:da 3 1 S0 S' (.sl 1 e 0 k') k' (fun i=>if i=kk then .int .i64 row else .int .i64 (ls i)))(k:∀d X,S d=some X->¬eh x d->S' d=some X) :
  GQ S0 S' b3 b5 bw (.sl 1 e 0 k') N R k' top W d (fun i=>if i=kk then row else ls i):=by
 obtain⟨m,c⟩:=h.cols;have kp:∀{b ty es n:Nat} {g:Nat->AV},bM S b ty es n g->ty≠3->bM S' b ty es n g:=fun o p=>by
  obtain⟨y,f,j⟩:=o;exact⟨y,k _ _ f (h.list.other f p),j⟩
 refine⟨⟨m,kp c.outer dc,fun a q=>kp (c.row a q) dc⟩,kp h.pair dc,?_,l.congr fun i _=>by split<;>rfl,h.nw,h.n3,h.n5⟩
 obtain⟨y,f,j⟩:=h.var;exact⟨y,k _ _ f (h.list.other f dc),j⟩
def EV(S0 S:St)(b3 b5 bw:Nat)(x:AV)(N R kk top:Nat)(d:Int)(ls:Nat->Nat)(A:aI)(t:Nat)(σ:Nat->Nat)(row:Nat):Prop:=∃W,GQ S0 S b3 b5 bw x N R kk top W d ls/\IE A N R kk t σ W/\W kk row≠0
def IV(S0 S:St)(b3 b5 bw:Nat)(x:AV)(n N R top:Nat)(A:aI)(row:Nat):Prop:=∃kk W d ls,GQ S0 S b3 b5 bw x N R kk top W d ls /\
 ((∃σ,kk=min row n/\row<=n+n/\IQ A N R kk σ W/\d=det kk (fun x y=>A x (σ y))/\(∀r,n<=r->r<row->W n r=0)/\∀i,i<kk->ls i=i) ∨
   (kk=N/\∃Rr,n<=Rr/\Rr<=n+n/\det (n+1) (fun a b=>A (vn n Rr a) b)≠0/\∀i,i<N->ls i=vn n Rr i))
def wg(S0:St)(b:Nat)(c:Nat->Nat)(n N R top:Nat)(A:aI)(hn:n<=8)(h1:1<=n)(hN:N=n+1)(hR:R=n+n+1)(hO:rJ S0 b c N R (fun a r=>A r a))
  (hB:∀σ k,lZ A N σ k->∀k' i j,k'+j<N->k'+i<R->nb (cQ (fun x y=>A x (σ y)) k' i j) KB) (hdet:det (n+1) (fun a b=>A (vn n (n+n) a) b)≠0) :
  cP 259 [.agg [.sl 1 b 0 N,.int .i64 top]] S0 (fun r S'=>∃e Rr,r=.sl 1 e 0 N/\n<=Rr/\Rr<=n+n/\det (n+1) (fun a b=>A (vn n Rr a) b)≠0/\bM S' e 3 1 N (fun i=>.int .i64 (vn n Rr i))/\ft S0 S'):=by
 have hKB:=mY;refine i9 func259 ntmps259 results259 ?_;simp -dsimp only[go_sem,bn,bS,cB,cM];refine aF.intro fun b1 f1=>?_;refine oK (fun T=>bM T b1 218 1 2 (MY b N top)/\ft S0 T) ?_ ?_
 .refine⟨bM.here fun j hj=>?_,(ft.refl S0).upd f1 _⟩
  match j,hj with
  | 0,_=>rfl
  | 1,_=>rfl
 rintro T ⟨hT1,hET⟩;refine CH (vE T b1 b N top) kr ?_ ?_ ?_
 .exact⟨by simp -dsimp only[go_sem],(fun h=>by cases h),(fun h=>by cases h),(fun h=>by cases h),(fun h=>by cases h),(fun h=>by cases h),ft.refl T,0,0,(fun h=>by cases h),(fun h=>by cases h),(fun h=>by cases h),(fun h=>by cases h)⟩
 .refine⟨?_,?_,?_,?_,?_,?_,?_,?_,?_,trivial⟩
  .intro L O S f D l;have al:∀k,_->L k=true:=aG.1 l;refine dV rfl ?_;simp -dsimp only[go_sem,f.base];exact f.s0
  .intro L O S f D l;have al:∀k,_->L k=true:=aG.1 l;refine dV rfl ?_;obtain⟨g1,u1,v1⟩:=id (f.ext.has hT1);simp -dsimp only[go_sem,aa,f.p0 (al 0 dc),u1,show g1 0=.sl 1 b 0 N from v1 0 om]
   exact f.s1
  .intro L O S f D l;have al:∀k,_->L k=true:=aG.1 l;refine dV rfl ?_;simp -dsimp only[go_sem,f.p1 (al 1 dc)]
   exact f.s2
  .intro L O S f D l;have al:∀k,_->L k=true:=aG.1 l;refine dV rfl ?_;simp -dsimp only[go_sem,f.p2 (al 2 dc)]
   repeat refine an ?_
   refine aF.intro fun bw fw=>?_;exact f.s3 D fw _ (fun _ _=>rfl)
  .intro L O S f D l;have al:∀k,_->L k=true:=aG.1 l;refine dV rfl ?_;simp -dsimp only[go_sem,f.base];exact f.s4
  .intro L O S f D l;have al:∀k,_->L k=true:=aG.1 l;refine dV rfl ?_;obtain⟨g1,u1,v1⟩:=id (f.ext.has hT1);simp -dsimp only[go_sem,aa,f.p4 (al 4 dc),u1,show g1 1=.int .i64 top from v1 1 om]
   exact f.s5
  .intro L O S f D l;have al:∀k,_->L k=true:=aG.1 l;refine dV rfl ?_;obtain⟨bw,q1,q2⟩:=f.s6 (al 3 dc)
   simp -dsimp only[go_sem,q1,f.p5 (al 5 dc)]
   exact q2
  .intro L O S f D l;have al:∀k,_->L k=true:=aG.1 l;refine dV rfl ?_;simp -dsimp only[go_sem];refine aF.intro fun bw fw=>?_;exact f.s7 D fw _
  .intro L O S f D l;have al:∀k,_->L k=true:=aG.1 l;refine dV rfl ?_;obtain⟨bw,P,g,q1,q2,q3,q4⟩:=f.s8 (al 6 dc) (al 7 dc)
   simp -dsimp only[go_sem,aa,q1,q2,q3,bn,bS,cB,cM];refine q4 _ (fun j hj=>?_)
   match j,hj with
   | 0,_=>simp[iW,MY]
   | 1,_=>simp[iW,MY]
 intro L O S f D;obtain⟨bw,P,m3,m6,m7,m8⟩:=f.ex;obtain⟨a1,a2,a3⟩:=m3 (D 3 dc)
 obtain⟨c1,c2,_⟩:=m7 (D 7 dc)
 have d3:=(m8 (D 8 dc)).2.2
 have hE:=hET.trans f.ext;have nw:=hET.none a3;have n3:=hET.none c2;have Q:=hO.ext hE;have e1:=f.base;have E:=f.ext.has hT1;clear f D m3 m6 m7 m8 a3 c2 hT1 hET a1;obtain⟨g1,u1,v1⟩:=id E;obtain⟨g3,w,H⟩:=id d3;obtain⟨gw,uw,vw⟩:=id a2;obtain⟨gb,ub,vb⟩:=id Q.outer;simp -dsimp only[go_sem,aa,e1,c1,u1,w,show g1 0=.sl 1 b 0 N from v1 0 om,show g3 0=.sl 1 bw 0 N from H 0 om];refine F2 (e:=59) uw ub rfl rfl om (fun a l=>by rw[vb a l];trivial) ?_
 simp -dsimp only[go_sem,aa,show g1 0=.sl 1 b 0 N from v1 0 om,show g3 0=.sl 1 bw 0 N from H 0 om];refine(kQ dc dc).call ?_
 simp -dsimp only[go_sem];refine aF.intro fun M f5=>?_
 try simp -dsimp only[go_sem]
 have hb5:bw≠M:=fun e=>by rw[e]at f5;rw[cn]at f5;cases f5
 have s5:S M=ab:=by rw[aO (aj hb5)]at f5;exact f5
 have h3w:P≠bw:=bM.ne d3 a2 dc
 have h35:P≠M:=bM.fresh d3 s5;have n5:=hE.none s5;have hInit:∀X Y,X=(fun j=>if 0<=j/\j<N then gb (j-0)else gw j)->Y 0=AV.big 1->GQ S0 ((S.upd bw ⟨59,1,N,X⟩).upd M ⟨50,2,1,Y⟩) P M bw .nil N R 0 top (fun a r=>A r a) 1 (fun i=>i):=by
  intro X Y hX hY;refine⟨⟨c,bM.upd (bM.here fun a l=>?_) hb5 _,fun a l=>?_⟩,(d3.upd h3w _).upd h35 _,ed.new hY,da.nil ((hE.upd nw _).upd n5 _) _,nw,n3,n5⟩
  .rw[hX];simp only[jM,kc,l,aQ,fq];exact vb a l
  .exact((Q.row a l).upd (bM.ne (Q.row a l) a2 dc) _).upd (bM.fresh (Q.row a l) s5) _
 have hIQ:IQ A N R 0 id (fun a r=>A r a):=IQ.init fun a r l hr=>by
  have:=hB id 0 (lZ.init A N) 0 r a om om
  rwa [iz]at this
 refine aH (fun O S=>∃row:Nat,row<=n+n+1/\O 3=.ptr 1 P 0/\O 5=.ptr 2 M 0/\O 6=.int .i64 row/\IV S0 S P M bw (O 4) n N R top A row) (fun O S=>n+n+2-cj (O 6)) ?_ ?_
 .simp -dsimp only[go_sem,c1];rw[mh];exact⟨0,om,rfl,0,_,1,_,hInit _ _ rfl (by simp[bW]),bF ⟨id,om,om,hIQ,by simp[det],fun r h1 h2=>om,fun i h=>om⟩⟩
 clear hIQ hInit e1 c1 u1 v1 w H uw vw ub vb Q E d3 a2 hE f5 s5 h35 h3w f1;rintro O S ⟨row,hrow,B,I,o,kk,W,d,ls,J,hV⟩;obtain⟨g3,w,H⟩:=id J.pair;have F:g3 0=.sl 1 bw 0 N:=H 0 om;by_cases G:kk<N
 .obtain⟨σ,k1,k2,hQ,hd,hz,hls⟩:=hV.resolve_right (fun h=>om)
  apply yL (fun O' S'=>O' 3=.ptr 1 P 0/\O' 4=O 4/\O' 5=.ptr 2 M 0/\O' 6=.int .i64 row/\O' 7=.int .i64 kk/\O' 8=.int .i64 kk/\S'=S)
  .intro key;rcases J.list.2 with⟨h0,hx⟩|⟨e,_,hx,_⟩
   .subst h0;have hN0:(0:Int)<(N:Int):=om
    simp -dsimp only[go_sem,aa,B,o,hx,w,F,hN0];refine key _ _ ?_;simp -dsimp only[go_sem,B,I,o,hx];exact⟨rfl,rfl⟩
   .simp -dsimp only[go_sem,aa,B,o,hx,w,F,G];refine key _ _ ?_;simp -dsimp only[go_sem,B,I,o,hx]
  generalize O 4=x at *;rintro O' S' ⟨e3',e4',e5',e6',e7',e8',rfl⟩;refine aH (fun O S=>∃j:Nat,kk<=j/\j<=N/\O 3=.ptr 1 P 0/\O 4=x/\O 5=.ptr 2 M 0/\O 6=.int .i64 row/\O 7=.int .i64 kk/\O 8=.int .i64 j/\GQ S0 S P M bw x N R kk top W d ls/\∀a,kk<=a->a<j->W a row=0) (fun O S=>N-cj (O 8)) ?_ ?_
  .exact⟨kk,om,om,e3',e4',e5',e6',e7',e8',J,fun a h1 h2=>om⟩
  clear e3' e4' e5' e6' e7' e8' B I o w H F J;rintro O S ⟨j,hj1,hj2,B,U,I,o,e7,e8,J,hzz⟩;obtain⟨g3,w,H⟩:=id J.pair;have F:g3 0=.sl 1 bw 0 N:=H 0 om;obtain⟨c,hC⟩:=J.cols;obtain⟨gw,uw,vw⟩:=id hC.outer;have C:row<R:=om
  by_cases s:j<N
  .obtain⟨gc,uc,vc⟩:=id (hC.row j s);have xw:gw j=.sl 2 (c j) 0 R:=vw j s;have xc:gc row=.big (W j row):=vc row C;have nW:=hQ.b j row s C;simp -dsimp only[go_sem,aa,B,o,e8,w,F,s,uw,xw,uc,xc,C];refine(kY nW om).call ?_;by_cases V:W j row=0
   .simp -dsimp only[go_sem,aa,B,U,I,o,e7,e8,w,F,s,xw,xc,V,show(Int.sign 0==0)=true from rfl,aP (om:j<1000000),cj]
    exact⟨⟨j+1,om,om,rfl,J,fun a h1 h2=>by
     by_cases e:a=j
     .rw[e];exact V
     .exact hzz a h1 om⟩,om⟩
   .have hs:((W j row).sign==0)=false:=by
     rw[il];intro h;exact V (lS.1 h)
    have hjne:((j:Int)==(N:Int))=false:=by rw[il];omega
    simp -dsimp only[go_sem,aa,B,U,I,o,e7,e8,w,F,s,xw,xc,hs,hjne];refine(Bw S bw c N R kk j W G s hC).mono ?_;rintro _ S1 ⟨⟨c',hC'⟩,hK⟩;have E:=J.keep hK hC';have hQ1:=hQ.swap hj1 s;have Z:det kk (fun x y=>A x (σ (dO kk j y)))=d:=by
     rw[hd];exact cD fun a y _ hy=>by rw[show dO kk j y=y by unfold dO;rw[af om,af om]]
    have u:W (dO kk j kk) row≠0:=by unfold dO;rw[ai rfl];exact V
    obtain⟨W1,hW1⟩:∃W1:aI,W1=fun a=>W (dO kk j a):=⟨_,rfl⟩;obtain⟨σ1,hσ1⟩:∃σ1:Nat->Nat,σ1=fun a=>σ (dO kk j a):=⟨_,rfl⟩;rw[<-hW1]at E hQ1;rw[<-hσ1]at hQ1
    replace Z:det kk (fun x y=>A x (σ1 y))=d:=by rw[hσ1];exact Z
    replace u:W1 kk row≠0:=by rw[hW1];exact u
    clear hW1 hσ1;have m:=hQ1.start G;have hd0:d≠0:=by rw[<-Z];exact m.el.lead kk (ae _)
    have ndd:nb d KB:=by
     rw[<-Z];by_cases e:kk=0
     .rw[e];simp only[det];exact nb.one om
     .have:=hB σ1 kk m.el (kk-1) 0 0 om om;rw[df,(om:kk-1+1=kk)]at this
      exact this
    clear w H F uw vw xw uc vc xc J hC hK hC';obtain⟨g3,w,H⟩:=id E.pair;have F:g3 0=.sl 1 bw 0 N:=H 0 om;simp -dsimp only[go_sem,e7,e8,aP (om:kk<1000000)]
    refine aH (fun O S=>∃t:Nat,kk+1<=t/\t<=N/\O 3=.ptr 1 P 0/\O 4=x/\O 5=.ptr 2 M 0/\O 6=.int .i64 row/\O 7=.int .i64 kk/\O 9=.int .i64 t/\EV S0 S P M bw x N R kk top d ls A t σ1 row) (fun O S=>N-cj (O 9)) ?_ ?_
    .simp -dsimp only[go_sem,B,U,I,o,e7];exact⟨kk+1,om,om,rfl,W1,E,m,u⟩
    clear B U I o e7 e8 E m hQ1 w H F u hzz V hs hjne nW hQ hd;rintro O S ⟨t,ht1,ht2,B,U,I,o,e7,e9,W2,K,m,u⟩;obtain⟨g3,w,H⟩:=id K.pair;have F:g3 0=.sl 1 bw 0 N:=H 0 om;obtain⟨g5,u5,x5⟩:=id K.var;by_cases htt:t<N
    .have hrk:row=kk:=om
     obtain⟨c2,hC2⟩:=K.cols;simp -dsimp only[go_sem,aa,B,U,I,o,e7,e9,w,F,u5,x5,htt];refine(uh S bw c2 N R kk t row W2 d G htt C om hd0 ndd m.b hC2).mono ?_;rintro _ S3 ⟨⟨c3,hC3⟩,hK3⟩;have hst:=m.step om htt om (fun i c h1 h2=>hB σ1 kk m.el (kk+1) i c h1 h2);rw[Z]at hst;rw[hrk]at hC3;simp -dsimp only[go_sem,B,U,I,o,e7,e9,aP (om:t<1000000),cj]
     exact⟨⟨t+1,om,om,rfl,_,K.keep hK3 hC3,hst,by rw[af om];exact u⟩,om⟩
    have htN:N=t:=om
    obtain⟨c2,hC2⟩:=K.cols;obtain⟨gw,uw,vw⟩:=id hC2.outer;obtain⟨gc,uc,vc⟩:=id (hC2.row kk G);have xw:gw kk=.sl 2 (c2 kk) 0 R:=vw kk G;have xc:gc row=.big (W2 kk row):=vc row C;simp -dsimp only[go_sem,aa,B,U,I,o,e7,e9,w,F,u5,x5,htt,uw,xw,uc,xc,G,C];have hS5:=K.setVar (z:=W2 kk row) (g:=g5) u5 om;refine aF.intro fun b9 f9=>?_;have hxb:=hS5.list.fresh f9;have hS6:=hS5.other f9 ⟨3,1,1,fun j=>[AV.int .i64 row].getD j .any⟩
    try simp -dsimp only[go_sem,U,o]
    refine da.app3 (v:=.int .i64 row) hS6.list (om:kk<1000000) (by simp[eF]) (bH ⟨_,_,_,rfl,cn,rfl,fun h=>hxb _ h rfl⟩) ?_
    intro e S7 hX' hk1 _;have hS7:=hS6.app hX' hk1;simp -dsimp only[go_sem,B,U,I,o,aP (om:row<1000000),cj]
    refine⟨⟨row+1,om,rfl,kk+1,W2,W2 kk row,_,hS7,?_⟩,om⟩
    subst htN;by_cases hkn:kk<n
    .have hrk:row=kk:=om
     have hp:=m.p kk (ae _) om;rw[ct]at hp;rw[hrk]at u ⊢;refine bF ⟨σ1,om,om,m.done (by rw[<-hp];exact u),by rw[hp,df],fun r h1 h2=>om,fun i hi=>?_⟩
     by_cases e:i=kk
     .rw[ai e];exact e.symm
     .rw[af e];exact hls i om
    .have hkn':kk=n:=om
     have hp:=m.p row om C;subst hkn';have hl:=m.el;rw[hN]at hl;have:=hl.last (R:=row) om;refine bH ⟨om,row,om,om,fun h0=>?_,fun i hi=>?_⟩
     .rw[h0,<-hp]at this;exact u om
     .unfold vn;by_cases e:i=kk
      .rw[ai e,af om]
      .rw[af e,ai om];exact hls i om
  .have hjN':N=j:=om
   have hjeq:((j:Int)==(N:Int))=true:=by rw[vu];omega
   simp -dsimp only[go_sem,aa,B,U,I,o,e7,e8,w,F,s,hjeq,aP (om:row<1000000),cj]
   have hl:=hQ.el;rw[hN]at hl;have hkn:kk=n:=by
    refine J9 om (Nat.le_of_not_lt fun hlt=>?_);refine hl.found (R:=n+n) hlt hdet fun a l=>?_;have hrk:row=kk:=om
    have:=hQ.q (kk+a) kk om om (ae _) om;rw[ct,(om:kk+a-kk=a)]at this
    rw[<-this,<-hrk];exact hzz _ om om
   have hw:=hzz n om om;have hq:=hQ.q n row om om om C;have hlast:=hl.last (R:=row) om;subst hkn;rw[ct]at hq;refine⟨⟨row+1,om,rfl,kk,W,d,ls,J,bF ⟨σ,om,?_,hQ,hd,fun r h1 h2=>?_,hls⟩⟩,om⟩
   .refine Nat.lt_of_le_of_ne k2 fun e=>hdet ?_;rw[<-e];rw[<-hq,hw]at hlast;simp only[Int.natAbs_zero]at hlast;omega
   .by_cases e:r=row
    .rw[e];exact hw
    .exact hz r h1 om
 obtain⟨hkN,Rr,r1,r2,r3,r4⟩:=hV.resolve_left (fun⟨σ,h,_⟩=>om)
 subst hkN;rcases J.list.2 with⟨h0,hx⟩|⟨e,he,hx,hh⟩
 .omega
 simp -dsimp only[go_sem,aa,B,o,hx,w,F,cZ];exact⟨e,rfl,Rr,r1,r2,r3,hh.congr fun i hi=>by rw[r4 i hi],J.list.1⟩

def NS{e ty:Nat}(a:S b=some ⟨ty,es,N,g0⟩)(c:dJ t=some e)(d:es=bZ e)(f:0<N)(g:∀j,j<N->eF es (g1 j))
  (h:K (.int .i64 N) (S.upd b ⟨ty,es,N,fun j=>if 0<=j/\j<0+N then g1 (j-0)else g0 j⟩)):AK t (.sl es b 0 N) (.lst es N g1) S K:=by
 unfold AK sG;rw[c];simp only[a,Bx];exact⟨d,trivial,trivial,om,trivial,f,g,h⟩
def fz.setRow{o e:Nat}{S1:St}{m:Nat}(h:fz o e es S1 S b g n m k E)(d:o≠e){i:Nat}(f:i<k){z z':Nat->AV}(p:∀j,j<m->z j=z' j):fz o e es S1 (S.upd (g i) ⟨e,es,m,z⟩) b g n m k (fun a c=>if a=i then z' c else E a c):=by
 refine⟨h.ext.upd (h.rnew i f) _,h.new,h.outer.upd (h.ne d f) _,fun a l=>?_,h.rnew,h.inj⟩;by_cases e:a=i
 .subst e;simp only[aQ];exact bM.here p
 .simp only[e,aS];exact(h.row a l).upd (fun q=>e (h.inj a i l f q)) _
def DJ(A:aI)(n b b2 b8 b11:Nat)(S:St)(k:Nat)(neg:Bool)(i j:Nat):Prop:=∃(g σ:Nat->Nat) (B:aI),od A n σ neg k/\dH S b g n n B/\(∀i,i<n->g i≠b2/\g i≠b8/\g i≠b11)/\ed S b2 50 2 (.big 0)/\ed S b8 50 2 (.big (det k (fun a c=>A (σ a) c)))/\ed S b11 50 2 (.big (cQ (fun a c=>A (σ a) c) k 0 0))/\b8≠b2/\b11≠b2/\b11≠b8/\IL A n k i j σ B
def DJ.of{neg:Bool}(D:od A n σ neg k)(m:k<p)(E:k<n)(F:p<n)(G:dH (S.upd b X) b (fun i=>g (dO k p i)) n n (fun i j=>B (dO k p i) j))(w:∀i,i<n->g i≠b2/\g i≠b8)
  (V2:ed S b2 50 2 (.big 0)) (V5:ed S b8 50 2 (.big (det k (fun a c=>A (σ a) c)))) (o:b≠b2) (q:b≠b8) (r:b2≠b8) (d:S b11=ab) (x:dH S b g n n B) (H:Og A n k σ B) (h:B p k=cQ (fun a c=>A (σ a) c) k (p-k) 0) (I:B p k≠0) (J:z 0=.big (B p k):=by rfl) :
  DJ A n b b2 b8 b11 ((S.upd b X).upd b11 ⟨50,2,1,z⟩) k (!neg) (k+1) (k+1):=by
 have l:∀i,i<n->dO k p i<n:=fun i f=>by unfold dO;split<;>(try split)<;>omega
 have K:b≠b11:=bM.fresh x.outer d;have y:b2≠b11:=V2.fresh d;have C:b8≠b11:=V5.fresh d;have ng:∀i,i<n->g i≠b11:=fun i f=>bM.fresh (x.row i f) d;have s:=yu (k:=k) (p:=p) (fun a c=>A (σ a) c) om 0 0;rw[show dO 0 (p-k) 0=p-k by simp[dO],<-h]at s
 refine⟨_,fun a=>σ (dO k p a),_,D.swap m F,G.upd K (fun i f=>ng _ (l i f)) _,fun i f=>⟨(w _ (l i f)).1,(w _ (l i f)).2,ng _ (l i f)⟩,(V2.upd (aj o) _).upd y _,?_,?_,aj r,aj y,aj C,?_,fun a c L t u v=>?_⟩
 .have e:=zC (n:=k) (fun a c=>A (σ a) c) (i:=k) (k:=p) om om;rw[e];exact(V5.upd (aj q) _).upd C _
 .rw[s];exact ed.new J
 .rw[s];exact I
 .rw[af om];have e:=yu (k:=k) (p:=p) (fun a c=>A (σ a) c) om (a-k) (c-k);show B (dO k p a) c=_;rw[e,H (dO k p a) c (by unfold dO;split<;>(try split)<;>omega) (l a t) u v]
  congr 1;unfold dO;split<;>(try split)<;>(try split)<;>(try split)<;>omega
def DJ.of0{neg:Bool}(v:od A n σ neg k)(e:k<n)(h:dH S b g n n B)(r:∀i,i<n->g i≠b2/\g i≠b8)
  (V2:ed S b2 50 2 (.big 0)) (V5:ed S b8 50 2 (.big (det k (fun a c=>A (σ a) c)))) (j:b2≠b8) (d:S b11=ab) (s:Og A n k σ B) (w:B k k≠0) (x:z 0=.big (B k k):=by rfl) :
  DJ A n b b2 b8 b11 (S.upd b11 ⟨50,2,1,z⟩) k neg (k+1) (k+1):=by
 have y:b≠b11:=bM.fresh h.outer d;have t:b2≠b11:=V2.fresh d;have u:b8≠b11:=V5.fresh d;have ng:∀i,i<n->g i≠b11:=fun i f=>bM.fresh (h.row i f) d;have l:=s k k (ae _) e (ae _) e;rw[ct]at l;refine⟨g,σ,B,v,h.upd y ng _,fun i f=>⟨(r i f).1,(r i f).2,ng i f⟩,V2.upd t _,V5.upd u _,?_,aj j,aj t,aj u,?_,fun a c m o p q=>?_⟩
 .rw[<-l];exact ed.new x
 .rw[<-l];exact w
 .rw[af om];exact s a c m o p q
def As(n K:Nat)(A:aI)(h1:1<=n)(h2:n<=16)(hK1:1<=K)(hK:K<=1000000)(hB:∀σ neg k,od A n σ neg k->∀k' i j,k'+i<n->k'+j<n->nb (cQ (fun a b=>A (σ a) b) k' i j) K):PF 130 [aR n n A] (.big (det n A)):=by
 refine iH func130 ntmps130 results130 ?_;simp -dsimp only[go_sem,aR,bB];refine aF.intro fun w f2=>?_;simp -dsimp only[go_sem]
 repeat refine an ?_
 refine aF.intro fun bb fb=>?_;have nb_2:=(ag fb).1;simp only[go_sem];have hn2:bb≠w:=nb_2;refine aH (fun O S=>∃i:Nat,i<=n/\O 2=.ptr 2 w 0/\O 3=.int .i64 n/\O 4=.sl 1 bb 0 n/\O 19=aR n n A/\O 20=.int .i64 n/\O 21=.int .i64 i/\∃g',fz 59 50 2 (St.none.upd w ⟨50,2,1,fun _=>.big 0⟩) S bb g' n n i (fun a c=>.big (A a c))) (fun O S=>n-cj (O 21)) ?_ ?_
 .simp only[go_sem,aR,bB];exact⟨0,om,rfl,fun _=>0,fz.init fb (fun _ _=>rfl) _ _⟩
 rintro O S ⟨i,s,o,t,q,e19,e20,e21,g',hR⟩;by_cases h:i<n
 .obtain⟨g4,u4,v4⟩:=id hR.outer;simp -dsimp only[*,go_sem,aa,aR,bB]
  repeat refine an ?_
  refine aF.intro fun bd fd=>?_;have hdc:bb≠bd:=bM.fresh hR.outer fd;simp -dsimp only[*,go_sem,eZ];have hR1:=hR.push dc fd u4 (fun _=>.big 0)
  generalize hgg:(fun a=>if a=i then bd else g' a)=gg at hR1
  have hgi:gg i=bd:=by rw[<-hgg];simp
  refine NS (e:=50) (by rw[aO (aj hdc)];exact cn) rfl rfl om (fun j _=>trivial) ?_
  simp only[*,go_sem,aR,bB,aP (om:i<1000000),cj]
  have hR2:=fun(z:Nat->AV) hz=>hR1.setRow dc (om:i<i+1) (z:=z) (z':=fun j=>.big (A i j)) hz
  simp only[hgi]at hR2;refine⟨⟨i+1,om,rfl,gg,(hR2 _ ?_).congr fun a c _ _=>?_⟩,om⟩
  .intro j X;simp[X]
  .by_cases e:a=i
   .simp[e]
   .simp[e]
 have hni:n=i:=om
 subst hni;have l:=hR.mat (A:=A) (fun _ _ _ _=>rfl);simp -dsimp only[*,go_sem,aa,cZ];refine(kQ dc dc).call ?_
 simp -dsimp only[go_sem];refine aF.intro fun H f8=>?_
 try simp only[go_sem,t]
 have hb2:bb≠w:=nb_2;have hg2:∀i,i<n->g' i≠w:=fun i s e=>by have:=l.2.2.2 i s;rw[e,cn]at this;cases this
 have Y:w≠H:=fun e=>by have:=l.2.1 w _ cn;rw[e,f8]at this;cases this
 have Z:bb≠H:=bM.fresh l.1.outer f8;have hg8:∀i,i<n->g' i≠H:=fun i s=>bM.fresh (l.1.row i s) f8;refine aH (fun O S=>∃(k:Nat) (neg:Bool),k<=n/\O 2=.ptr 2 w 0/\O 3=.int .i64 n/\O 4=.sl 1 bb 0 n/\O 7=.bool neg/\O 8=.ptr 2 H 0/\O 39=.int .i64 n/\O 40=.int .i64 k/\BN A n bb w H S k neg (Og A n k)) (fun O S=>n-cj (O 40)) ?_ ?_
 .simp only[*,go_sem];refine⟨0,om,false,rfl,rfl,g',id,A,od.init A n,(l.1.upd Z hg8 _).upd Z hg8 _,fun i s=>⟨hg2 i s,hg8 i s⟩,?_,ed.set,fun i j _ _ _ _=>by rw[iz];rfl⟩
  exact(ed.upd ⟨_,l.2.1 w _ cn,rfl⟩ Y _).upd Y _
 clear l hR o t q e19 e20 e21 f8 hg2 hg8;rintro O S ⟨k,neg,hkn,o,t,q,u,x,d,f,G⟩;by_cases h:k<n
 .simp only[*,go_sem,aa];refine aH (fun O S=>∃p:Nat,k<=p/\p<=n/\O 2=.ptr 2 w 0/\O 3=.int .i64 n/\O 4=.sl 1 bb 0 n/\O 7=.bool neg/\O 8=.ptr 2 H 0/\O 9=.int .i64 k/\O 10=.int .i64 p/\O 39=.int .i64 n/\O 40=.int .i64 k/\BN A n bb w H S k neg (StgP A n k p)) (fun O S=>n-cj (O 10)) ?_ ?_
  .simp only[*,go_sem];obtain⟨g,σ,B,r,l,D,V2,V5,hBq⟩:=G;exact⟨k,om,om,rfl,g,σ,B,r,l,D,V2,V5,hBq,fun i h1 h2=>om⟩
  clear G o t q u x d f;rintro O S ⟨p,hkp,hpn,o,t,q,u,x,v,I,d,f,g,σ,B,r,l,D,V2,V5,hQ,hZ⟩;by_cases P:p<n
  case neg =>
   obtain rfl:p=n:=om
   have E:((p:Int)==p)=true:=by simp
   have hz:det p A=0:=r.zero h fun i s=>by
    have:=hQ (k+i) k om om (ae _) h;rw[ct,(om:k+i-k=i)]at this
    rw[<-this];exact hZ _ om om
   obtain⟨gz,uz,xz⟩:=id V2;simp only[go_sem,aa,o,t,q,u,x,v,I,d,f,P,E,uz];rw[hz];exact VR.mf rfl
  obtain⟨g1,W,v1⟩:=l.outer;obtain⟨g2,L,v2⟩:=l.row p P;have v1':g1 p=.sl 2 (g p) 0 n:=v1 p P;have M:g2 k=.big (B p k):=v2 k h;have hbp:=hB σ neg k r k (p-k) 0 om om;have J:=hQ p k hkp P (ae _) h;rw[ct]at J;rw[<-J]at hbp;simp -dsimp only[go_sem,aa,t,q,v,I,P,h,W,L,v1',M];refine(kY hbp om).call ?_;by_cases h0:B p k=0
  .simp -dsimp only[go_sem,aa,o,t,q,u,x,v,I,d,f,P,h,h0,sK,aP (om:p<1000000),cj]
   refine⟨⟨p+1,om,om,rfl,g,σ,B,r,l,D,V2,V5,hQ,fun i h1 h2=>?_⟩,om⟩
   by_cases e:i=p
   .rw[e];exact h0
   .exact hZ i h1 om
  have hs0:((B p k).sign==0)=false:=by
   simp only[il,EG];rw[lS];exact h0
  have E:((p:Int)==n)=false:=by simp;omega
  apply yL (fun O S=>∃(neg:Bool) (m:Nat),O 2=.ptr 2 w 0/\O 3=.int .i64 n/\O 4=.sl 1 bb 0 n/\O 7=.bool neg/\O 8=.ptr 2 H 0/\O 9=.int .i64 k/\O 11=.ptr 2 m 0/\O 12=.int .i64 ((k+1:Nat):Int)/\O 39=.int .i64 n/\O 40=.int .i64 k/\DJ A n bb w H m S k neg (k+1) (k+1))
  .intro key;by_cases hkp':k<p
   .have v3':g1 k=.sl 2 (g k) 0 n:=v1 k h;have hne:((p:Int) != (k:Int))=true:=by simp;omega
    simp -dsimp only[go_sem,aa,o,t,q,u,x,v,I,d,f,P,h,hs0,E,hne];refine g9 13 kr ?_
    have y1:bW (bW g1 k (.sl 2 (g p) 0 n)) p (.sl 2 (g k) 0 n) k=.sl 2 (g p) 0 n:=by simp[bW,(om:¬k=p)]
    have hgp:g p≠bb:=aj (l.outer_ne P);simp -dsimp only[go_sem,aa,q,u,v,I,P,h,W,v1',v3',y1,hgp,L,M];refine aF.intro fun m f11=>?_;simp only[go_sem,aa,q,u,v,M];refine key _ _ ?_;simp only[go_sem,o,t,q,x,v,d,f,aP (om:k<1000000)]
    refine⟨!neg,rfl,m,rfl,?_⟩;rw[mh,mh];have f11':S m=ab:=by rw[mh]at f11;exact(ag f11).2
    have hs:∀i,i<n->dO k p i<n:=fun i s=>by unfold dO;split<;>(try split)<;>omega
    have hsw:∀i,dO p k i=dO k p i:=fun i=>by unfold dO;split<;>(try split)<;>(try split)<;>omega
    have G:=l.swap h P om W;simp only[hsw]at G;exact DJ.of r hkp' h P G D V2 V5 hb2 Z Y f11' l hQ J h0
   have hpk:p=k:=om
   subst hpk;have hne:((p:Int) != (p:Int))=false:=by simp
   simp -dsimp only[go_sem,aa,o,t,q,u,x,v,I,d,f,P,hs0,E,hne,W,v1',L,M,aP (om:p<1000000)]
   refine aF.intro fun m f11=>?_;simp only[go_sem,aa,q,v,M];refine key _ _ ?_;simp only[go_sem,o,t,q,u,x,v,d,f,aP (om:p<1000000)]
   refine⟨neg,rfl,m,rfl,?_⟩;rw[mh];exact DJ.of0 r h l D V2 V5 Y f11 hQ h0
  clear o t q u x v I d f hZ hQ V2 V5 D l W v1 L v2 v1' M hbp J h0 hs0 E r;rintro O S ⟨neg,m,o,t,q,u,x,v,y,C,d,f,G⟩;refine aH (fun O S=>∃i:Nat,k+1<=i/\i<=n/\O 2=.ptr 2 w 0/\O 3=.int .i64 n/\O 4=.sl 1 bb 0 n/\O 7=.bool neg/\O 8=.ptr 2 H 0/\O 9=.int .i64 k/\O 11=.ptr 2 m 0/\O 12=.int .i64 i/\O 39=.int .i64 n/\O 40=.int .i64 k/\DJ A n bb w H m S k neg i (k+1)) (fun O S=>n-cj (O 12)) ?_ ?_
  .exact⟨k+1,om,om,o,t,q,u,x,v,y,C,d,f,G⟩
  clear o t q u x v y C d f G;rintro O S ⟨i,hki,hin,o,t,q,u,x,v,y,C,d,f,G⟩;by_cases s:i<n
  .simp only[*,go_sem,aa,aP (om:k<1000000)]
   refine aH (fun O S=>∃j:Nat,k+1<=j/\j<=n/\O 2=.ptr 2 w 0/\O 3=.int .i64 n/\O 4=.sl 1 bb 0 n/\O 7=.bool neg/\O 8=.ptr 2 H 0/\O 9=.int .i64 k/\O 11=.ptr 2 m 0/\O 12=.int .i64 i/\O 13=.int .i64 j/\O 39=.int .i64 n/\O 40=.int .i64 k/\DJ A n bb w H m S k neg i j) (fun O S=>n-cj (O 13)) ?_ ?_
   .simp only[*,go_sem];exact⟨k+1,om,om,rfl,G⟩
   clear o t q u x v y C d f G;rintro O S ⟨j,hkj,hjn,o,t,q,u,x,v,y,C,e13,d,f,G⟩;by_cases X:j<n
   .obtain⟨g,σ,B,r,l,D,V2,V5,V11,n1,n2,n3,Q,F⟩:=G;obtain⟨g1,W,v1⟩:=l.outer;obtain⟨g2,L,v2⟩:=l.row i s;obtain⟨g3,u3,v3⟩:=l.row k h;obtain⟨gp,up',vp⟩:=id V11;have w1:g1 i=.sl 2 (g i) 0 n:=v1 i s;have w2:g1 k=.sl 2 (g k) 0 n:=v1 k h;have w3:g2 j=.big (B i j):=v2 j X;have w4:g2 k=.big (B i k):=v2 k h;have w5:g3 j=.big (B k j):=v3 j X;have c1:=F i j om s om X;have c2:=F i k om s (ae _) h;have c3:=F k j (ae _) h om X;rw[af om]at c1 c2 c3;rw[ct]at c2 c3;have m1:=hB σ neg k r k (i-k) (j-k) om om;have m2:=hB σ neg k r k (i-k) 0 om om;have m3:=hB σ neg k r k 0 (j-k) om om;have m4:=hB σ neg k r k 0 0 om om;rw[<-c1]at m1;rw[<-c2]at m2;rw[<-c3]at m3;have m5:nb (det k (fun a c=>A (σ a) c)) K:=by
     by_cases e:k=0
     .rw[e];simp only[det];exact nb.one om
     .have:=hB σ neg k r (k-1) 0 0 om om;rw[df,(om:k-1+1=k)]at this
      exact this
    have hst:=ju r.lead (i-k-1) (j-k-1);rw[(om:i-k-1+1=i-k),(om:j-k-1+1=j-k),<-c1,<-c2,<-c3]at hst
    have hd0:=r.lead k (ae _);generalize hpv:cQ (fun a c=>A (σ a) c) k 0 0=pv at *;have hq:(pv*B i j-B i k*B k j)/det k (fun a c=>A (σ a) c)=cQ (fun a c=>A (σ a) c) (k+1) (i-k-1) (j-k-1):=by
     rw[hst,dh _ hd0]
    simp -dsimp only[*,go_sem,aa];refine bE 26 kr ?_
    simp -dsimp only[go_sem,aa,q,v,y,C,e13,s,X,h,W,w1,w2,L,u3,w3,w4,w5,up',vp];refine⟨_,(p9 m4 m1 om).pure',_,(p9 m2 m3 om).pure',_,(Dg (m4.mul m1) (m2.mul m3) om).pure',?_⟩;refine aF.intro fun N R=>?_
    try simp -dsimp only[go_sem]
    have q1:bb≠N:=bM.fresh l.outer R;have q2:∀a,a<n->g a≠N:=fun a ha=>bM.fresh (l.row a ha) R;have q3:w≠N:=V2.fresh R;have q4:H≠N:=V5.fresh R;have q5:m≠N:=V11.fresh R;refine oK (fun T=>dH T bb g n n B/\ed T w 50 2 (.big 0)/\ed T H 50 2 (.big (det k (fun a c=>A (σ a) c)))/\ed T m 50 2 (.big pv)/\ed T N 50 2 (.big (pv*B i j-B i k*B k j))) ?_ ?_
    .refine⟨(l.upd q1 q2 _).upd q1 q2 _,(V2.upd q3 _).upd q3 _,(V5.upd q4 _).upd q4 _,(V11.upd q5 _).upd q5 _,?_⟩;simp only[ed.at_hit,bW,aQ]
    clear l V2 V5 V11 W v1 L v2 u3 v3 up' vp w1 w2 w3 w4 w5;rintro T ⟨l,V2,V5,V11,V14⟩;obtain⟨g1,W,v1⟩:=l.outer;obtain⟨g2,L,v2⟩:=l.row i s;obtain⟨g8,u8,x8⟩:=id V5;obtain⟨g14,u14,x14⟩:=id V14;have w1:g1 i=.sl 2 (g i) 0 n:=v1 i s;refine fH 13 [[10,11]] kr ?_
    simp only[go_sem,aa,o,t,q,u,x,v,y,C,e13,d,f,s,X,W,w1,L,u8,x8,u14,x14];refine⟨_,(jl (k:=K+K+1) ((m4.mul m1).sub (m2.mul m3)) (m5.mono om) om hd0).pure',?_⟩;rw[hq];simp only[go_sem,aP (om:j<1000000),cj]
    refine⟨⟨j+1,om,om,rfl,g,σ,_,r,l.set s L,D,ed.upd V2 (aj (D i s).1) _,ed.upd V5 (aj (D i s).2.1) _,by rw[hpv];exact ed.upd V11 (aj (D i s).2.2) _,n1,n2,n3,by rw[hpv];exact Q,fun a c ha1 U hc1 V=>?_⟩,om⟩
    have h3:=F a c ha1 U hc1 V;simp only[fu];by_cases e1:a=i/\c=j
    .obtain⟨rfl,rfl⟩:=e1;rw[ai ⟨rfl,rfl⟩,ai om,r8,r8]
    .rw[af e1,h3];by_cases o:k<a/\k<c/\(a<i∨a=i/\c<j)
     .rw[ai o,ai om]
     .rw[af o,af om]
   have hnj:n=j:=om
   obtain⟨g,σ,B,r,l,D,V2,V5,V11,n1,n2,n3,Q,F⟩:=G;simp only[go_sem,aa,o,t,q,u,x,v,y,C,e13,d,f,X,aP (om:i<1000000),cj]
   refine⟨⟨i+1,om,om,rfl,g,σ,B,r,l,D,V2,V5,V11,n1,n2,n3,Q,fun a c ha1 U hc1 V=>?_⟩,om⟩
   rw[F a c ha1 U hc1 V];by_cases o:k<a/\k<c/\(a<i∨a=i/\c<j)
   .rw[ai o,ai om]
   .rw[af o,af om]
  have hni:n=i:=om
  obtain⟨g,σ,B,r,l,D,V2,V5,V11,n1,n2,n3,Q,F⟩:=G;obtain⟨g8,u8,x8⟩:=id V5;obtain⟨gp,up',vp⟩:=id V11;simp only[go_sem,aa,o,t,q,u,x,v,y,C,d,f,s,u8,up',vp,aP (om:k<1000000),cj]
  refine⟨⟨k+1,om,neg,rfl,rfl,g,σ,B,r.step Q,l.upd Z (fun a ha=>(D a ha).2.1) _,fun a ha=>⟨(D a ha).1,(D a ha).2.1⟩,V2.upd (aj n1) _,by rw[<-df];exact ed.set,fun a c ha1 U hc1 V=>?_⟩,om⟩
  rw[F a c om U om V,ai om]
 have hnk:n=k:=om
 subst hnk;obtain⟨g,σ,B,r,l,D,V2,V5,hQ⟩:=G;obtain⟨g2,L,x2⟩:=id V2;obtain⟨g8,u8,x8⟩:=id V5;have m5:nb (det n (fun a c=>A (σ a) c)) K:=by
  have:=hB σ neg n r (n-1) 0 0 om om;rw[df,(om:n-1+1=n)]at this
  exact this
 have hdet:=r.sign
 cases neg with
 | true =>
  simp -dsimp only[go_sem,aa,u,x,d,f,cZ,u8,x8];refine(sW m5 om).call ?_;simp only[go_sem,aa,o,L,x8];have e:-det n (fun a c=>A (σ a) c)=det n A:=by rw[hdet];simp
  simp only[bW,aQ];rw[e];exact VR.mf rfl
 | false =>
  simp -dsimp only[go_sem,aa,u,x,d,f,cZ,u8,x8];refine(rS m5 om).call ?_;simp only[go_sem,aa,o,L,x8];have e:det n (fun a c=>A (σ a) c)=det n A:=by rw[hdet];simp
  simp only[bW,aQ];rw[e];exact VR.mf rfl
def SK(d:n<=16)(c:∀i j,i<n->j<n->nb (A i j) k0)(k i j:Nat)(e:k+i<n)(f:k+j<n):nb (cQ A k i j) (17*(k0+10)):=by
 unfold cQ;refine(oO (k:=k0) (k+1) _ om fun a b g h=>c _ _ ?_ ?_).mono ?_
 .rw[qG];split<;>omega
 .rw[qG];split<;>omega
 .have:=aB (k0+10) (om:k+1<=16)
  omega
def Qs(e:n<=16)(f:∀i j,i<n->j<n->nb (A i j) k0)(σ:Nat->Nat)(neg:Bool)(k:Nat)(g:od A n σ neg k)(k' i j:Nat)(c:k'+i<n)(d:k'+j<n):nb (cQ (fun a b=>A (σ a) b) k' i j) (17*(k0+10)) :=
 SK e (fun i j c d=>f _ j (g.row i c) d) k' i j c d
def Gz(n K:Nat)(A:aI)(c:1<=n)(d:n<=16)(e:1<=K)(f:K<=1000000)(g:∀σ neg k,od A n σ neg k->∀k' i j,k'+i<n->k'+j<n->nb (cQ (fun a b=>A (σ a) b) k' i j) K):PF 79 [aR n n A] (.tup [.big (det n A),.bool true]):=by
 refine iH func79 ntmps79 results79 ?_;simp -dsimp only[go_sem,aR,bB];refine aF.intro fun h m=>?_
 try simp -dsimp only[go_sem]
 refine(lh n n A c d c d).call ?_;simp -dsimp only[go_sem,aa,show((n:Int) != n)=false by simp]
 refine(As n K A c d e f g).call ?_;simp only[go_sem,aa,bW];exact VR.tup (l:=[.big (det n A),.bool true]) (by simp[pI])
def Oy(n K:Nat)(A:aI)(d:1<=n)(e:n<=16)(c:1<=K)(f:K<=1000000)(_hd:det n A≠0)(g:∀σ neg k,od A n σ neg k->∀k' i j,k'+i<n->k'+j<n->nb (cQ (fun a b=>A (σ a) b) k' i j) K):PF 79 [aR n n A] (.tup [.big (det n A),.bool true]):=Gz n K A d e c f g

def jc(k0:Nat):Nat->Nat
 | 0=>k0
 | k+1=>jc k0 k+jc k0 k+60
theorem pA(a:Nat):∀k,a<=jc a k
 | 0=>ae _
 | k+1=>by have:=pA a k;simp only[jc];omega
def yK(b:Nat)(c:b<=300):∀k,k<=8->jc b k<=100000:=by
 intro k a
 match k,a with
 | 0,_=>simp only[jc];omega
 | 1,_=>simp only[jc];omega
 | 2,_=>simp only[jc];omega
 | 3,_=>simp only[jc];omega
 | 4,_=>simp only[jc];omega
 | 5,_=>simp only[jc];omega
 | 6,_=>simp only[jc];omega
 | 7,_=>simp only[jc];omega
 | 8,_=>simp only[jc];omega
def JJ(h:n<=9)(c:∀i j,i<n->j<n->nb (A i j) k)(d:∀i j,i<n->j<n->nb (B i j) k){i j:Nat}(e:i<n)(g:j<n):nb (mm n A B i j) (k+k+9):=by
 have:=pW (f:=fun a=>A i a*B a j) (k:=k+k) n (fun a b=>(c i a e b).mul (d a j b g));exact this.mono om
def MA(c:n<=9)(b:∀i j,i<n->j<n->nb (A i j) k):∀t,t<=n->nb (ay t (fun a=>A a a)) (k+9):=fun t d =>
 (pW (f:=fun a=>A a a) (k:=k) t (fun a e=>b a a om om)).mono om
def DR{a b:Int}(c:nb a k):nb (a/b) (k+1):=by
 have h:(a/b).natAbs<=a.natAbs:=jD a b;exact(nb.of_le h c).mono om
theorem Aj{n k0:Nat}{M:aI}(c:n<=9)(d:1<=k0)(e:∀i j,i<n->j<n->nb (M i j) k0):∀k i j,i<n->j<n->nb (rm n M k i j) (jc k0 k)
 | 0,i,j,_,_=>by
  simp only[rm,jc];split
  .exact nb.one d
  .exact nb.zero _
 | k+1,i,j,a,b=>by
  have ih:=Aj c d e k;have g:=pA k0 k;have f:∀i j,i<n->j<n->nb (mm n M (rm n M k) i j) (jc k0 k+jc k0 k+9):=fun i j a b=>JJ c (fun i j a b=>(e i j a b).mono g) ih a b;simp only[rm,jc];have h:nb (if i=j then tr n (mm n M (rm n M k))/(-((k+1:Nat):Int))else 0) (jc k0 k+jc k0 k+19):=by
   split
   .exact DR (MA c f n (ae _))
   .exact nb.zero _
  exact(((f i j a b).mono om).add h).mono om
def Gd(n s:Nat)(M:aI)(B:1<=n)(C:n<=9)(D:1<=s)(hk:s<=300)(Q:∀i j,i<n->j<n->nb (M i j) s):MF 129 [aR n n M] n n (np n M):=by
 refine MF.of ?_;refine i9 func129 ntmps129 results129 ?_;simp -dsimp only[go_sem,aa,aR,bB];refine(kQ dc dc).call ?_
 simp -dsimp only[go_sem,aa];refine(KH n 1 1 om (nb.one om) om _ _ (cS _ _)).mono ?_;rintro _ S1 ⟨b,g,rfl,f,_⟩;simp -dsimp only[go_sem];refine aH (fun O S=>∃k:Nat,1<=k/\k<=n/\O 0=aR n n M/\O 3=.int .i64 n/\O 5=.int .i64 k/\∃b,O 4=.sl 1 b 0 n/\∃g,dH S b g n n (rm n M (k-1))) (fun O S=>n-cj (O 5)) ?_ ?_
 .simp -dsimp only[go_sem,aR,bB];exact⟨1,om,B,rfl,b,rfl,g,f⟩
 clear f;rintro O S ⟨k,hk2,hkn,m,l,o,b,p,g,f⟩;by_cases R:k<n
 .have T:=yK s hk (k-1) om;have U:=pA s (k-1);have I:=Aj C D Q (k-1);have E:∀i j,i<n->j<n->nb (M i j) (jc s (k-1)):=fun i j F V=>(Q i j F V).mono U;have J:∀i j,i<n->j<n->nb (mm n M (rm n M (k-1)) i j) (jc s (k-1)+jc s (k-1)+9):=fun i j F V=>JJ C E I F V;simp -dsimp only[go_sem,aa,m,l,p,o,R,aR,bB];refine(uU n n n (jc s (k-1)) M (rm n M (k-1)) B om B om B om E I om _ _ (fI.two (VA.refl _ _) f.vr.va)).mono ?_;rintro _ S2 ⟨bc,g',rfl,r,_⟩;generalize W:mm n M (rm n M (k-1))=X at *;simp -dsimp only[go_sem,m,p];refine aF.intro fun K Y=>?_
  try simp -dsimp only[go_sem,l]
  have Z:bc≠K:=bM.fresh r.outer Y;have q2:∀a,a<n->g' a≠K:=fun a w=>bM.fresh (r.row a w) Y;refine aH (fun O S=>∃i:Nat,i<=n/\O 0=aR n n M/\O 3=.int .i64 n/\O 4=.sl 1 bc 0 n/\O 5=.int .i64 k/\O 6=.ptr 2 K 0/\O 29=.int .i64 n/\O 30=.int .i64 i/\dH S bc g' n n X/\ed S K 50 2 (.big (ay i fun a=>X a a))) (fun O S=>n-cj (O 30)) ?_ ?_
  .simp -dsimp only[go_sem,m,l,o];exact⟨0,om,rfl,(r.upd Z q2 _).upd Z q2 _,ed.set⟩
  clear r m l p o Y f;rintro O S ⟨i,F,m,l,p,o,e6,u,v,f,V6⟩;obtain⟨g6,u6,x6⟩:=id V6;by_cases d:i<n
  .obtain⟨g1,u1,v1⟩:=f.outer;obtain⟨g2,L,v2⟩:=f.row i d;have x1:g1 i=.sl 2 (g' i) 0 n:=v1 i d;have x2:g2 i=.big (X i i):=v2 i d;simp -dsimp only[go_sem,u,v,d];refine bE 9 kr ?_
   simp -dsimp only[go_sem,aa,m,l,p,o,e6,u,v,d,u1,x1,L,x2,u6,x6,aP (om:i<1000000),cj]
   exact⟨_,(wC (MA C J i om) ((J i i d d).mono om) om).pure',trivial,⟨i+1,om,rfl,f.upd Z q2 _,ed.set⟩,om⟩
  have x:n=i:=om
  simp -dsimp only[go_sem,u,v,d];have wk:IntKind.i64.wrap (0-(k:Int))=-(k:Int):=by rw[EN];exact i64_in om om
  refine pB 11 [[7,8],[8],[]] kr ?_
  simp -dsimp only[go_sem,aa,o,e6,u6,x6,wk];have nt:=MA C J n (ae _);subst x;refine⟨_,(kQ om om).pure',_,(jl nt (b:=-(k:Int)) ((show nb (-(k:Int)) 4 by unfold nb;omega).mono om) om om).pure',?_⟩
  simp -dsimp only[go_sem];refine aF.intro fun N f8=>?_
  try simp -dsimp only[go_sem]
  refine aF.intro fun b9 P=>?_;have n9_8:=(ag P).1;simp -dsimp only[go_sem,l,nn n9_8];have r1:bc≠N:=bM.fresh f.outer f8;have r2:∀a,a<n->g' a≠N:=fun a w=>bM.fresh (f.row a w) f8;have r3:bc≠b9:=bM.fresh f.outer (ag P).2;have r4:∀a,a<n->g' a≠b9:=fun a w=>bM.fresh (f.row a w) (ag P).2;generalize hq:(ay n fun a=>X a a) / -(k:Int)=q at *;have nq:nb q (jc s (k-1)+jc s (k-1)+19):=by rw[<-hq];exact DR nt
  refine aH (fun O S=>∃i:Nat,i<=n/\O 0=aR n n M/\O 3=.int .i64 n/\O 4=.sl 1 bc 0 n/\O 5=.int .i64 k/\O 8=.ptr 2 N 0/\O 52=.int .i64 n/\O 53=.int .i64 i/\dH S bc g' n n (fun a c=>X a c+if a=c/\a<i then q else 0)/\ed S N 50 2 (.big q)) (fun O S=>n-cj (O 53)) ?_ ?_
  .simp -dsimp only[go_sem,m,l,p,o];refine⟨0,om,rfl,rfl,dH.congr (A:=X) ?_ (fun a c _ _=>by simp),?_⟩
   .repeat' first|exact f|refine dH.upd ?_ (by assumption) (by assumption) _
   .simp only[ed.at_hit,ed.at_miss,EG,iV,bW,aQ,aj n9_8]
  clear f m l p o e6 u v f8 P d V6 u6 x6;rintro O S ⟨i,F,m,l,p,o,e8,y,z,f,V8⟩;obtain⟨g8,u8,x8⟩:=id V8;by_cases d:i<n
  .obtain⟨g1,u1,v1⟩:=f.outer;obtain⟨g2,L,v2⟩:=f.row i d;have x1:g1 i=.sl 2 (g' i) 0 n:=v1 i d;have x2:g2 i=.big (X i i):=(v2 i d).trans sm
   simp -dsimp only[go_sem,m,l,p,o,y,z,d];refine bE 15 kr ?_
   simp -dsimp only[go_sem,aa,m,l,p,o,e8,y,z,d,u1,x1,L,x2,u8,x8,aP (om:i<1000000),cj]
   refine⟨_,(wC ((J i i d d).mono om) nq om).pure',trivial,⟨i+1,om,rfl,(f.set d L).congr fun a c _ _=>?_,V8.upd (aj (r2 i d)) _⟩,om⟩
   simp only[fu];by_cases e:a=i/\c=i
   .obtain⟨rfl,rfl⟩:=e;simp
   .rw[af e];by_cases e2:a=c/\a<i
    .rw[ai e2,ai ⟨e2.1,om⟩]
    .rw[af e2,af om]
  have x:n=i:=om
  subst x;simp -dsimp only[go_sem,m,l,p,o,y,z,cZ,aP (om:k<1000000),cj]
  refine⟨⟨k+1,om,om,rfl,rfl,bc,rfl,g',f.congr fun a c w _=>?_⟩,om⟩
  rw[(om:k+1-1=(k-1)+1)]
  simp only[rm,W];congr 1;by_cases e:a=c
  .rw[ai ⟨e,w⟩,ai e,<-hq,show((k-1+1:Nat):Int)=(k:Int) by omega];rfl
  .rw[af (fun h=>e h.1),af e]
 have G:n=k:=om
 subst G;have I:=Aj C D Q (n-1);have T:=yK s hk (n-1) om;by_cases H:n%2=0
 .have t:(fo (n:Int) 2==0)=true:=by rw[aL om,vu];omega
  simp -dsimp only[go_sem,aa,m,l,p,o,cZ,t,show ¬((2:Int)=0) by decide]
  refine(Hx n n _ (rm n M (n-1)) B om om I om _ _ (fI.one f.vr.va)).mono ?_;rintro _ S2 ⟨c,g',rfl,r,_⟩;simp -dsimp only[go_sem];exact⟨c,rfl,g',r.congr fun a c _ _=>by simp[np,H]⟩
 .have t:(fo (n:Int) 2==0)=false:=by rw[aL om,il];omega
  simp -dsimp only[go_sem,aa,m,l,p,o,cZ,t,show ¬((2:Int)=0) by decide]
  exact⟨b,rfl,g,f.congr fun a c _ _=>by simp[np,H]⟩
def ED(n a:Nat)(M:aI)(c:1<=n)(e:n<=9)(d:1<=a)(f:a<=300)(h:∀i j,i<n->j<n->nb (M i j) a):EK 78 [aR n n M] n n (np n M):=by
 refine EK.of ?_;refine i9 func78 ntmps78 results78 ?_;simp -dsimp only[go_sem,aa,aR,bB];refine(lh n n M c om c om).call ?_;simp -dsimp only[go_sem,aa,show((n:Int) != n)=false by simp]
 refine(Gd n a M c e d f h _ _ (cS _ _)).mono ?_;rintro _ S1 ⟨b,g,rfl,k,_⟩;simp -dsimp only[go_sem];exact⟨b,rfl,g,k⟩

end Go.Proofs.YtdobfmlmenaajaaGreatDoor
