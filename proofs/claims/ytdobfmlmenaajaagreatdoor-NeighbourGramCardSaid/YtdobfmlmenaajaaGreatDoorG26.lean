/-
  Lemmas for NeighbourGram.
-/
import Derived.Test.YtdobfmlmenaajaaGreatDoorG25
namespace Go.Proofs.YtdobfmlmenaajaaGreatDoor
open Go.RowKit Tryz
open _root_.Option renaming none→ab
set_option maxHeartbeats 6400000
set_option maxRecDepth 4096
set_option linter.all false
attribute [local go_sem] Nat.reduceAdd Nat.reduceEqDiff Nat.reduceLeDiff Nat.reduceLT reduceCtorEq Int.ofNat_lt decide_true decide_false Int.zero_le_ofNat
attribute [local go_sem ↓] reduceIte
variable{x:AV}{K:AV->St->Prop}{d:Int}{N R b b11 b2 b3 b5 b8 bw es k kk n p t top:Nat}{g0 g1 gb z:Nat->AV}{L:Nat->Bool}{g ls σ:Nat->Nat}{E:Nat->Nat->AV}{S S' S0:St}{O:Tm}{A B M W:aJ}{X:eE}
def GZ{c:Nat}{gc:Nat->AV}(d:S b=some ⟨50,2,n,gb⟩)(f:S c=some ⟨50,2,N,gc⟩)(a:c≠b)(g:0<N)(h:n+N<=1048576)(i:∀j,j<N->eg 2 (gc j))
  (k:∀b',(b'=b∨S b'=ab)->K (.sl 2 b' 0 (n+N)) ((S.del b).upd b' ⟨50,2,n+N,mI gb n N (fun j=>gc (0+j))⟩)):zT 59 59 (.sl 2 b 0 n) (.sl 2 c 0 N) S K:=by
 unfold zT fG;rw[show dB 59=some 50 from rfl];refine⟨rfl,rfl,?_⟩;have l:Av S (.sl 2 c 0 N)=some (2,N,fun j=>gc (0+j),some c):=by simp[Av,f]
 rw[l];refine⟨rfl,g,fun j m=>by show eg 2 (gc (0+j));rw[aB];exact i j m,?_⟩
 simp only[d];exact⟨trivial,trivial,trivial,trivial,trivial,h,fun e=>a (by cases e;rfl),k⟩
structure tO(S0 S:St)(b:Nat)(g:Nat->Nat)(n N t:Nat)(M:aJ):Prop where
 ext:eQ S0 S
 new:S0 b=ab
 outer:bJ S b 59 1 N (fun a=>.sl 2 (g a) 0 (if a<t then n+N else n))
 row:∀a,a<N->iW S (g a) (if a<t then n+N else n) (fun r=>fo n M r a)
 rnew:∀a,a<N->S0 (g a)=ab
 inj:∀a c,a<N->c<N->g a=g c->a=c
def tO.upd(h:tO S0 S b g n N t M){e:Nat}(d:S0 e=ab)(f:b≠e)(i:∀a,a<N->g a≠e)(X:eE):tO S0 (S.upd e X) b g n N t M :=
 ⟨h.ext.upd d _,h.new,h.outer.upd f _,fun a c=>(h.row a c).upd (i a c) _,h.rnew,h.inj⟩
def oR(h:k≠b):S.del b k=S k:=by simp[St.del,h]
def tO.app(h:tO S0 S b g n N t M)(p:t<N){gb gc go:Nat->AV}(E:S (g t)=some ⟨50,2,n,gb⟩)(x:∀j,j<N->gc j=.big (if j=t then 1 else 0)){b':Nat}(i:b'=g t∨S b'=ab)(F:S b=some ⟨59,1,N,go⟩) :
  tO S0 (((S.del (g t)).upd b' ⟨50,2,n+N,mI gb n N gc⟩).upd b ⟨59,1,N,bR go t (.sl 2 b' 0 (n+N))⟩) b (fun a=>if a=t then b' else g a) n N (t+1) M:=by
 have q:∀a,a<N->b≠g a:=fun a f=>bJ.ne h.outer (h.row a f) dc
 have y:b≠b':=by
  rcases i with e|e
  .rw[e];exact q t p
  .exact bJ.fresh h.outer e
 have l:∀a,a<N->a≠t->g a≠b':=fun a f z=>by
  rcases i with e|e
  .rw[e];exact fun d=>z (h.inj a t f p d)
  .exact bJ.fresh (h.row a f) e
 have s:S0 b'=ab:=by
  rcases i with e|e
  .rw[e];exact h.rnew t p
  .exact h.ext.none e
 refine⟨fun k X m=>?_,h.new,bJ.here fun a f=>?_,fun a f=>?_,fun a f=>?_,fun a c f C o=>?_⟩
 .have G:k≠b:=by rintro rfl;rw[h.new]at m;cases m
  have H:k≠b':=by rintro rfl;rw[s]at m;cases m
  have I:k≠g t:=by rintro rfl;rw[h.rnew t p]at m;cases m
  rw[aN G,aN H,oR I];exact h.ext k X m
 .obtain⟨go',D,J⟩:=h.outer;rw[F]at D;cases D;simp only[bR];by_cases e:a=t
  .simp[e]
  .simp only[e,aP];rw[J a f];by_cases d:a<t
   .simp[d,(om:a<t+1)]
   .simp[d,(om:¬a<t+1)]
 .by_cases e:a=t
  .subst e;simp only[aO,Ts];refine bJ.upd (bJ.here fun r K=>?_) (aj y) _;have u:=h.row a f;rw[af (cN _)]at u;obtain⟨gb',v,A⟩:=u;rw[E]at v;cases v;by_cases d:r<n
   .rw[Dc d];exact A r d
   .rw[xO om om,x _ om];simp only[fo,d,aP];congr 1;by_cases w:r-n=a
    .rw[ai w,ai om]
    .rw[af w,af om]
  .simp only[e,aP];have w:(if a<t+1 then n+N else n)=if a<t then n+N else n:=by
    by_cases d:a<t
    .rw[ai d,ai om]
    .rw[af d,af om]
   rw[w];have B:g a≠g t:=fun d=>e (h.inj a t f p d);obtain⟨ga,v,A⟩:=h.row a f;refine bJ.upd (bJ.upd ⟨ga,by rw[oR B];exact v,A⟩ (l a f e) _) (aj (q a f)) _
 .by_cases e:a=t
  .simp only[e,aO];exact s
  .simp only[e,aP];exact h.rnew a f
 .by_cases e:a=t
  .by_cases d:c=t
   .omega
   .rw[ai e,af d]at o;exact absurd o.symm (l c C d)
  .by_cases d:c=t
   .rw[af e,ai d]at o;exact absurd o (l a f e)
   .rw[af e,af d]at o;exact h.inj a c f C o
structure NPI(S0 S:St)(b b2 b3:Nat)(g:Nat->Nat)(n N t:Nat)(M:aJ):Prop where
 pb:tO S0 S b g n N t M
 h2:bJ S b2 218 1 2 (fun j=>if j=0 then .nil else .int .i64 0)
 h3:bJ S b3 218 1 2 (fun j=>if j=0 then .sl 1 b 0 N else .int .i64 n)
 n2:S0 b2=ab
 n3:S0 b3=ab
def CG(S0:St)(n N:Nat)(M:aJ)(h1:1<=n)(h2:n<=16)(h3:1<=N)(h4:N<=16) :
  cE 232 [aQ n N M] S0 (fun r S'=>∃b g,r=.agg [.sl 1 b 0 N,.int .i64 n]/\iB S0 S' b g N (n+N) (fun j r=>fo n M r j)):=by
 refine jr func232 ntmps232 results232 ?_;have hp0:0<n:=om
 have D:(0:Int)<(n:Int):=om
 simp -dsimp only[go_sem,aa,aQ,a8];refine aG.intro fun i E=>?_
 try simp -dsimp only[go_sem]
 refine(tu n N M h1 h2 h4 _ _ (cI _ _)).mono ?_;rintro _ S1 ⟨b,g,rfl,o,F,R,U⟩;simp only[go_sem,aa];refine aG.intro fun m p=>?_;simp only[go_sem,iU,bH,bW,cC,cW,bI,cb];have k:eQ S0 S1:=((eQ.refl S0).upd E _).trans F;have G:bJ S1 i 218 1 2 (fun j=>if j=0 then .nil else .int .i64 0):=F.has (bJ.here fun _ _=>rfl)
 have v:tO S0 S1 b g n N 0 M:=⟨k,(ag R).2,o.outer.congr fun a _=>by simp,fun a f=>by
  simp only[I0,aP];exact(o.row a f).congr fun r hr=>by simp[fo,hr],fun a f=>(ag (U a f)).2,o.inj⟩
 have w:i≠m:=bJ.fresh G p;refine aH (fun O S=>∃t:Nat,t<=N/\O 0=aQ n N M/\O 2=.ptr 1 i 0/\O 3=.ptr 1 m 0/\O 13=.sl 1 b 0 N/\O 14=.int .i64 N/\O 15=.int .i64 t/\∃g,NPI S0 S b i m g n N t M) (fun O S=>N-ca (O 15)) ?_ ?_
 .simp only[go_sem,aQ,a8];refine⟨0,om,rfl,g,?_,?_,?_,E,k.none p⟩
  .repeat' first|exact v|refine tO.upd ?_ (k.none p) (bJ.fresh o.outer p) (fun a f=>bJ.fresh (o.row a f) p) _
  .exact(G.upd w _).upd w _
  .exact bJ.here fun j B=>by
    match j,B with
    | 0,_=>simp[iU]
    | 1,_=>simp[iU]
 clear F R U o v G k p E;rintro O S ⟨t,ht,e0,e2,e3,H,I,J,g,c⟩;by_cases h:t<N
 .obtain⟨V,C,K⟩:=id c.pb.outer;have W:V t=.sl 2 (g t) 0 n:=(K t h).trans sm
  simp -dsimp only[go_sem,aa,e0,e2,e3,H,I,J,h,C,W,aQ,a8,D]
  repeat refine an ?_
  refine aG.intro fun q s=>?_;simp -dsimp only[go_sem];refine(ky dc dc).call ?_
  simp -dsimp only[go_sem,aa,h];have X:S0 q=ab:=c.pb.ext.none s;have Y:b≠q:=bJ.fresh c.pb.outer s;have L:∀a,a<N->g a≠q:=fun a f=>bJ.fresh (c.pb.row a f) s;have z2:i≠q:=bJ.fresh c.h2 s;have z3:m≠q:=bJ.fresh c.h3 s;refine nY (fun T=>NPI S0 T b i m g n N t M/\∃gc,T q=some ⟨50,2,N,gc⟩/\∀j,j<N->gc j=.big (if j=t then 1 else 0)) ?_ ?_
  .refine⟨⟨(c.pb.upd X Y L _).upd X Y L _,(c.h2.upd z2 _).upd z2 _,(c.h3.upd z3 _).upd z3 _,c.n2,c.n3⟩,_,ci,fun j B=>?_⟩;simp only[bR];by_cases e:j=t
   .simp[e]
   .simp[e]
  clear c C K W s;rintro T ⟨c,gc,u6,y⟩;obtain⟨V,C,K⟩:=id c.pb.outer;have d:=c.pb.row t h;rw[af (cN _)]at d;obtain⟨gb,ub,vb⟩:=id d;obtain⟨z,Z,A⟩:=id c.h3;have x3:z 0=.sl 1 b 0 N:=A 0 om;refine fu 5 [[0,1,2],[],[]] kr ?_
  simp -dsimp only[*,go_sem,aa];refine GZ ub u6 (aj (L t h)) om om (fun j B=>by rw[y j B];trivial) ?_
  intro b' l;have P:m≠g t:=bJ.ne c.h3 d dc
  have p2:i≠g t:=bJ.ne c.h2 d dc
  have p1:b≠g t:=bJ.ne c.pb.outer d dc
  have q3:m≠b':=by rcases l with e|e;exact e▸P;exact bJ.fresh c.h3 e
  have q2:i≠b':=by rcases l with e|e;exact e▸p2;exact bJ.fresh c.h2 e
  have q1:b≠b':=by rcases l with e|e;exact e▸p1;exact bJ.fresh c.pb.outer e
  simp only[*,go_sem,aa,oR P,oR p1,aT (om:t<1000000),ca]
  refine⟨⟨t+1,om,rfl,rfl,_,c.pb.app h ub (gc:=fun j=>gc j) y l C,?_,?_,c.n2,c.n3⟩,om⟩
  .obtain⟨x,l1,l2⟩:=c.h2;exact bJ.upd (bJ.upd ⟨x,by rw[oR p2];exact l1,l2⟩ q2 _) (bJ.ne c.h2 c.pb.outer dc) _
  .exact bJ.upd (bJ.upd ⟨z,by rw[oR P];exact Z,A⟩ q3 _) (bJ.ne c.h3 c.pb.outer dc) _
 have Q:N=t:=om
 subst Q;obtain⟨z,Z,A⟩:=id c.h3;obtain⟨g2,u2,v2⟩:=id c.h2;have x3:z 0=.sl 1 b 0 N:=A 0 om;have x4:z 1=.int .i64 n:=A 1 om;simp only[*,go_sem,aa,cN,iU,ee,bH,bW,cC,cW,bI,bB,eO,cb];have y2:∀a,a<N->g a≠i:=fun a f=>bJ.ne (c.pb.row a f) c.h2 dc
 have w2:b≠i:=bJ.ne c.pb.outer c.h2 dc
 have u:=c.pb.upd (e:=i) c.n2 w2 y2 ⟨218,1,2,iU g2 0 [.sl 1 b 0 N,.int .i64 n]⟩;refine⟨b,rfl,g,⟨u.outer.congr fun a f=>by simp[f],fun a f=>?_,u.inj⟩,u.ext,u.new,u.rnew⟩
 have:=u.row a f;rw[ai f]at this;exact this

structure IQ(A:aJ)(N R k:Nat)(σ:Nat->Nat)(W:aJ):Prop where
 el:lI A N σ k
 q:∀a r,k<=a->a<N->k<=r->r<R->W a r=cM (fun x y=>A x (σ y)) k (r-k) (a-k)
 z:∀a r,k<=a->a<N->r<k->W a r=0
 b:∀a r,a<N->r<R->nb (W a r) KB
structure IE(A:aJ)(N R k j:Nat)(σ:Nat->Nat)(W:aJ):Prop where
 el:lI A N σ k
 p:∀r,k<=r->r<R->W k r=cM (fun x y=>A x (σ y)) k (r-k) 0
 pz:∀r,r<k->W k r=0
 n:∀a r,k<a->a<j->a<N->k+1<=r->r<R->W a r=cM (fun x y=>A x (σ y)) (k+1) (r-(k+1)) (a-(k+1))
 nz:∀a r,k<a->a<j->a<N->r<=k->W a r=0
 o:∀a r,j<=a->a<N->k<=r->r<R->W a r=cM (fun x y=>A x (σ y)) k (r-k) (a-k)
 oz:∀a r,j<=a->a<N->r<k->W a r=0
 b:∀a r,a<N->r<R->nb (W a r) KB
def IQ.swap(h:IQ A N R k σ W)(m:k<=p)(s:p<N):IQ A N R k (fun a=>σ (dG k p a)) (fun a=>W (dG k p a)):=by
 have g:∀a,a<N->dG k p a<N:=fun a f=>by unfold dG;split<;>(try split)<;>omega
 have n:∀a,k<=a->k<=dG k p a:=fun a f=>by unfold dG;split<;>(try split)<;>omega
 have t:∀a,k<=a->dG k p a-k=dG 0 (p-k) (a-k):=fun a f=>by
  unfold dG;by_cases e:a=k
  .rw[ai e,ai om]
  .rw[af e,af (om:¬a-k=0)]
   by_cases o:a=p
   .rw[ai o,ai om];omega
   .rw[af o,af om]
 refine⟨h.el.swap m s,fun a r c d i j=>?_,fun a r c d l=>h.z _ r (n a c) (g a d) l,fun a r f l=>h.b _ r (g a f) l⟩;rw[h.q _ r (n a c) (g a d) i j,t a c];exact(Ed (fun x y=>A x (σ y)) m (r-k) (a-k)).symm
def IQ.start(h:IQ A N R k σ W)(e:k<N):IE A N R k (k+1) σ W :=
 ⟨h.el,fun r d c=>by rw[h.q k r (ae _) e d c,cb],fun r f=>h.z k r (ae _) e f,fun a r d c=>om,fun a r d c=>om,fun a r d c=>h.q a r om c,fun a r d c=>h.z a r om c,h.b⟩
def IE.step{j:Nat}(h:IE A N R k j σ W)(w:k<j)(g:j<N)(q:k<R)(t:∀i c,k+1+c<N->k+1+i<R->nb (cM (fun x y=>A x (σ y)) (k+1) i c) KB) :
  IE A N R k (j+1) σ (fun a r=>if a=j then(W k k*W j r-W j k*W k r)/det k (fun x y=>A x (σ y))else W a r):=by
 have u:=h.el.lead k (ae _);have key:∀r,k+1<=r->r<R->(W k k*W j r-W j k*W k r)/det k (fun x y=>A x (σ y))=cM (fun x y=>A x (σ y)) (k+1) (r-(k+1)) (j-(k+1)):=by
  intro r f d;rw[h.p k (ae _) q,h.o j r (ae _) g om d,h.o j k (ae _) g (ae _) q,h.p r om d,cb];have e:=i9 h.el.lead (r-(k+1)) (j-(k+1));rw[(om:r-(k+1)+1=r-k),(om:j-(k+1)+1=j-k)]at e
  rw[cR (cM _ k 0 (j-k)),e];exact cT _ u
 have keyz:∀r,r<=k->(W k k*W j r-W j k*W k r)/det k (fun x y=>A x (σ y))=0:=by
  intro r z;have:W k k*W j r-W j k*W k r=0:=by
   by_cases e:r=k
   .rw[e,cR];omega
   .rw[h.oz j r (ae _) g om,h.pz r om];simp
  rw[this];simp
 refine⟨h.el,fun r f d=>?_,fun r f=>?_,fun a r f d l m s=>?_,fun a r f d l m=>?_,fun a r f d l m=>?_,fun a r f d l=>?_,fun a r f d=>?_⟩
 .rw[af om];exact h.p r f d
 .rw[af om];exact h.pz r f
 .by_cases e:a=j
  .rw[ai e,e];exact key r m s
  .rw[af e];exact h.n a r f om l m s
 .by_cases e:a=j
  .rw[ai e];exact keyz r m
  .rw[af e];exact h.nz a r f om l m
 .rw[af om];exact h.o a r om d l m
 .rw[af om];exact h.oz a r om d l
 .by_cases e:a=j
  .rw[ai e];by_cases v:k+1<=r
   .rw[key r v d];exact t _ _ om om
   .rw[keyz r om];exact nb.zero KB
  .rw[af e];exact h.b a r f d
def IE.done(h:IE A N R k N σ W)(e:cM (fun x y=>A x (σ y)) k 0 0≠0):IQ A N R (k+1) σ W :=
 ⟨h.el.step e,fun a r f c d g=>h.n a r om c c d g,fun a r f c d=>h.nz a r om c c om,h.b⟩
def IQ.init(b:∀a r,a<N->r<R->nb (A r a) KB):IQ A N R 0 id (fun a r=>A r a) :=
 ⟨lI.init A N,fun a r _ _ _ _=>by rw[ie];rfl,fun a r _ _ h=>om,b⟩

def LL(b N top:Nat):Nat->AV:=fun j=>if j=0 then .sl 1 b 0 N else .int .i64 top
structure uj(T:St)(b1 b N top:Nat)(L:Nat->Bool)(O:Tm)(S:St):Prop where
 base:O 1=.ptr 1 b1 0
 p0:L 0=true->O 10=.ptr 1 b1 0
 p1:L 1=true->O 11=.sl 1 b 0 N
 p2:L 2=true->O 12=.int .i64 N
 p4:L 4=true->O 14=.ptr 1 b1 1
 p5:L 5=true->O 15=.int .i64 top
 ext:eQ T S
 ex:∃bw b3,(L 3=true->O 13=.sl 1 bw 0 N/\bJ S bw 59 1 N (fun _=>.nil)/\T bw=ab)/\(L 6=true->L 3=true/\O 16=.agg [.sl 1 bw 0 N,.int .i64 top])/\(L 7=true->O 3=.ptr 1 b3 0/\T b3=ab/\∃g,S b3=some ⟨218,1,2,g⟩)/\(L 8=true->L 6=true/\L 7=true/\bJ S b3 218 1 2 (LL bw N top))
def pt{d:Nat}{z:AV}(h:t≠d):(O.put (some d) z) t=O t:=by rw[Tm.put_eq];exact af h
def pd{d:Nat}{z:AV}:(O.put (some d) z) d=z:=by rw[Tm.put_eq];exact ai rfl
def jC{i:Nat}(h:(if k=i then true else L k)=true)(a:k≠i):L k=true:=by rwa [af a]at h
section
variable {T:St} {b1 b N top:Nat} {L:Nat->Bool} {O:Tm} {S:St}
def uj.s0(h:uj T b1 b N top L O S):uj T b1 b N top (fun k=>if k=0 then true else L k) (O.put (some 10) (.ptr 1 b1 0)) S :=
 ⟨by rw[pt dc];exact h.base,fun _=>pd,fun a=>by rw[pt dc];exact h.p1 (jC a dc),fun a=>by rw[pt dc];exact h.p2 (jC a dc),fun a=>by rw[pt dc];exact h.p4 (jC a dc),fun a=>by rw[pt dc];exact h.p5 (jC a dc),h.ext,by
  obtain⟨bw,d,e,c,f,g⟩:=h.ex;refine⟨bw,d,fun a=>?_,fun a=>?_,fun a=>?_,fun a=>?_⟩
  .rw[pt dc];exact e (jC a dc)
  .rw[pt dc];exact⟨by simpa using (c (jC a dc)).1,(c (jC a dc)).2⟩
  .rw[pt dc];exact f (jC a dc)
  .have:=g (jC a dc);exact⟨by simpa using this.1,by simpa using this.2.1,this.2.2⟩⟩
def uj.s1(h:uj T b1 b N top L O S):uj T b1 b N top (fun k=>if k=1 then true else L k) (O.put (some 11) (.sl 1 b 0 N)) S :=
 ⟨by rw[pt dc];exact h.base,fun a=>by rw[pt dc];exact h.p0 (jC a dc),fun _=>pd,fun a=>by rw[pt dc];exact h.p2 (jC a dc),fun a=>by rw[pt dc];exact h.p4 (jC a dc),fun a=>by rw[pt dc];exact h.p5 (jC a dc),h.ext,by
  obtain⟨bw,d,e,c,f,g⟩:=h.ex;refine⟨bw,d,fun a=>?_,fun a=>?_,fun a=>?_,fun a=>?_⟩
  .rw[pt dc];exact e (jC a dc)
  .rw[pt dc];exact⟨by simpa using (c (jC a dc)).1,(c (jC a dc)).2⟩
  .rw[pt dc];exact f (jC a dc)
  .have:=g (jC a dc);exact⟨by simpa using this.1,by simpa using this.2.1,this.2.2⟩⟩
def uj.s2(h:uj T b1 b N top L O S):uj T b1 b N top (fun k=>if k=2 then true else L k) (O.put (some 12) (.int .i64 N)) S :=
 ⟨by rw[pt dc];exact h.base,fun a=>by rw[pt dc];exact h.p0 (jC a dc),fun a=>by rw[pt dc];exact h.p1 (jC a dc),fun _=>pd,fun a=>by rw[pt dc];exact h.p4 (jC a dc),fun a=>by rw[pt dc];exact h.p5 (jC a dc),h.ext,by
  obtain⟨bw,d,e,c,f,g⟩:=h.ex;refine⟨bw,d,fun a=>?_,fun a=>?_,fun a=>?_,fun a=>?_⟩
  .rw[pt dc];exact e (jC a dc)
  .rw[pt dc];exact⟨by simpa using (c (jC a dc)).1,(c (jC a dc)).2⟩
  .rw[pt dc];exact f (jC a dc)
  .have:=g (jC a dc);exact⟨by simpa using this.1,by simpa using this.2.1,this.2.2⟩⟩
def uj.s4(h:uj T b1 b N top L O S):uj T b1 b N top (fun k=>if k=4 then true else L k) (O.put (some 14) (.ptr 1 b1 1)) S :=
 ⟨by rw[pt dc];exact h.base,fun a=>by rw[pt dc];exact h.p0 (jC a dc),fun a=>by rw[pt dc];exact h.p1 (jC a dc),fun a=>by rw[pt dc];exact h.p2 (jC a dc),fun _=>pd,fun a=>by rw[pt dc];exact h.p5 (jC a dc),h.ext,by
  obtain⟨bw,d,e,c,f,g⟩:=h.ex;refine⟨bw,d,fun a=>?_,fun a=>?_,fun a=>?_,fun a=>?_⟩
  .rw[pt dc];exact e (jC a dc)
  .rw[pt dc];exact⟨by simpa using (c (jC a dc)).1,(c (jC a dc)).2⟩
  .rw[pt dc];exact f (jC a dc)
  .have:=g (jC a dc);exact⟨by simpa using this.1,by simpa using this.2.1,this.2.2⟩⟩
def uj.s5(h:uj T b1 b N top L O S):uj T b1 b N top (fun k=>if k=5 then true else L k) (O.put (some 15) (.int .i64 top)) S :=
 ⟨by rw[pt dc];exact h.base,fun a=>by rw[pt dc];exact h.p0 (jC a dc),fun a=>by rw[pt dc];exact h.p1 (jC a dc),fun a=>by rw[pt dc];exact h.p2 (jC a dc),fun a=>by rw[pt dc];exact h.p4 (jC a dc),fun _=>pd,h.ext,by
  obtain⟨bw,d,e,c,f,g⟩:=h.ex;refine⟨bw,d,fun a=>?_,fun a=>?_,fun a=>?_,fun a=>?_⟩
  .rw[pt dc];exact e (jC a dc)
  .rw[pt dc];exact⟨by simpa using (c (jC a dc)).1,(c (jC a dc)).2⟩
  .rw[pt dc];exact f (jC a dc)
  .have:=g (jC a dc);exact⟨by simpa using this.1,by simpa using this.2.1,this.2.2⟩⟩
def uj.s3(h:uj T b1 b N top L O S)(f:L 3=false){c:Nat}(j:S c=ab)(z:Nat->AV)(m:∀i,i<N->z i=.nil):uj T b1 b N top (fun k=>if k=3 then true else L k) (O.put (some 13) (.sl 1 c 0 N)) (S.upd c ⟨59,1,N,z⟩):=by
 have l:=h.ext.none j;refine⟨by rw[pt dc];exact h.base,fun a=>by rw[pt dc];exact h.p0 (jC a dc),fun a=>by rw[pt dc];exact h.p1 (jC a dc),fun a=>by rw[pt dc];exact h.p2 (jC a dc),fun a=>by rw[pt dc];exact h.p4 (jC a dc),fun a=>by rw[pt dc];exact h.p5 (jC a dc),h.ext.upd l _,?_⟩
 obtain⟨bw,n,t,o,p,q⟩:=h.ex;have d:L 6=true->False:=fun d=>by rw[(o d).1]at f;cases f
 refine⟨c,n,fun _=>⟨pd,bJ.here m,l⟩,fun a=>(d (jC a dc)).elim,fun a=>?_,fun a=>(d (q (jC a dc)).1).elim⟩
 rw[pt dc]
 obtain⟨r,s,g,e⟩:=p (jC a dc)
 refine⟨r,s,g,?_⟩;rw[aN];exact e;rintro rfl;rw[j]at e;cases e
def uj.s6(h:uj T b1 b N top L O S)(c:L 3=true):∃bw,O 13=.sl 1 bw 0 N/\uj T b1 b N top (fun k=>if k=6 then true else L k) (O.put (some 16) (.agg [.sl 1 bw 0 N,.int .i64 top])) S:=by
 obtain⟨bw,e,d,i,f,g⟩:=h.ex;refine⟨bw,(d c).1,⟨by rw[pt dc];exact h.base,fun a=>by rw[pt dc];exact h.p0 (jC a dc),fun a=>by rw[pt dc];exact h.p1 (jC a dc),fun a=>by rw[pt dc];exact h.p2 (jC a dc),fun a=>by rw[pt dc];exact h.p4 (jC a dc),fun a=>by rw[pt dc];exact h.p5 (jC a dc),h.ext,bw,e,fun a=>?_,fun _=>⟨by simpa using c,pd⟩,fun a=>?_,fun a=>?_⟩⟩
 .rw[pt dc];exact d c
 .rw[pt dc];exact f (jC a dc)
 .have:=g (jC a dc);exact⟨sm,by simpa using this.2.1,this.2.2⟩
def uj.s7(h:uj T b1 b N top L O S)(d:L 7=false){c:Nat}(e:S c=ab)(z:Nat->AV):uj T b1 b N top (fun k=>if k=7 then true else L k) (O.put (some 3) (.ptr 1 c 0)) (S.upd c ⟨218,1,2,z⟩):=by
 have f:=h.ext.none e;refine⟨by rw[pt dc];exact h.base,fun a=>by rw[pt dc];exact h.p0 (jC a dc),fun a=>by rw[pt dc];exact h.p1 (jC a dc),fun a=>by rw[pt dc];exact h.p2 (jC a dc),fun a=>by rw[pt dc];exact h.p4 (jC a dc),fun a=>by rw[pt dc];exact h.p5 (jC a dc),h.ext.upd f _,?_⟩
 obtain⟨bw,o,j,g,p,l⟩:=h.ex;refine⟨bw,c,fun a=>?_,fun a=>?_,fun _=>⟨pd,f,z,ci⟩,fun a=>?_⟩
 .rw[pt dc]
  obtain⟨m,i,n⟩:=j (jC a dc)
  exact⟨m,i.upd (bJ.fresh i e) _,n⟩
 .rw[pt dc];exact⟨by simpa using (g (jC a dc)).1,(g (jC a dc)).2⟩
 .have:=(l (jC a dc)).2.1;rw[this]at d;cases d
def uj.s8(h:uj T b1 b N top L O S)(e:L 6=true)(f:L 7=true):∃bw c g,O 16=.agg [.sl 1 bw 0 N,.int .i64 top]/\O 3=.ptr 1 c 0/\S c=some ⟨218,1,2,g⟩/\∀z,(∀j,j<2->z j=LL bw N top j)->uj T b1 b N top (fun k=>if k=8 then true else L k) O (S.upd c ⟨218,1,2,z⟩):=by
 obtain⟨bw,c,o,d,p,t⟩:=h.ex;obtain⟨i,l,g,m⟩:=p f;refine⟨bw,c,g,(d e).2,i,m,fun z q=>⟨h.base,fun a=>h.p0 (jC a dc),fun a=>h.p1 (jC a dc),fun a=>h.p2 (jC a dc),fun a=>h.p4 (jC a dc),fun a=>h.p5 (jC a dc),h.ext.upd l _,bw,c,fun a=>?_,fun a=>?_,fun _=>⟨i,l,z,ci⟩,fun _=>⟨by simpa using e,by simpa using f,bJ.here q⟩⟩⟩
 .obtain⟨r,n,s⟩:=o (jC a dc)
  exact⟨r,n.upd (bJ.ne n (bJ.of m) dc) _,s⟩
 .exact⟨by simpa using (d (jC a dc)).1,(d (jC a dc)).2⟩
end
structure FO(S0 S:St)(b3 b5 bw:Nat)(x:AV)(N R kk top:Nat)(W:aJ)(d:Int)(ls:Nat->Nat):Prop where
 cols:∃c,qM S bw c N R W
 pair:bJ S b3 218 1 2 (LL bw N top)
 var:dT S b5 50 2 (.big d)
 list:cV 3 1 S0 S x kk (fun i=>.int .i64 (ls i))
 nw:S0 bw=ab
 n3:S0 b3=ab
 n5:S0 b5=ab
def FO.keep{W':aJ}(h:FO S0 S b3 b5 bw x N R kk top W d ls)(b:iC bw S S'){c:Nat->Nat}(n:qM S' bw c N R W'):FO S0 S' b3 b5 bw x N R kk top W' d ls:=by
 obtain⟨p,a⟩:=h.cols;have o:eQ S0 S':=fun k X g=>b k X (h.list.1 k X g) (fun e=>by rw[e,h.nw]at g;cases g)
 refine⟨⟨c,n⟩,b.has h.pair (bJ.ne h.pair a.outer dc),b.var h.var ?_,h.list.step o fun d i=>?_,h.nw,h.n3,h.n5⟩
 .obtain⟨y,f,_⟩:=h.var;obtain⟨y',l,_⟩:=a.outer;rintro rfl;rw[f]at l;cases l
 .rcases h.list.2 with⟨_,j⟩|⟨e,_,j,m⟩
  .obtain⟨_,_,_,e⟩:=i;rw[j]at e;cases e
  .rw[j]at i;rw[eR.1 i];obtain⟨y,f,_⟩:=id m;rw[f];exact b _ _ f (bJ.ne m a.outer dc)
def FO.setVar{z:Int}(h:FO S0 S b3 b5 bw x N R kk top W d ls){g:Nat->AV}(c:S b5=some ⟨50,2,1,g⟩)(k:R≠1):FO S0 (S.upd b5 ⟨50,2,1,bR g 0 (.big z)⟩) b3 b5 bw x N R kk top W z ls:=by
 obtain⟨l,b⟩:=h.cols;have f:bJ S b5 50 2 1 g:=bJ.of c;refine⟨⟨l,b.outer.upd (bJ.ne b.outer f dc) _,fun a i=>(b.row a i).upd ?_ _⟩,h.pair.upd (bJ.ne h.pair f dc) _,dT.set,h.list.upd h.n5 (fun d m e=>h.list.other c dc (e▸m)) _,h.nw,h.n3,h.n5⟩
 rintro e;obtain⟨y,j,_⟩:=b.row a i;rw[e,c]at j;cases j;exact k rfl
def FO.other(h:FO S0 S b3 b5 bw x N R kk top W d ls){e:Nat}(c:S e=ab)(X:eE):FO S0 (S.upd e X) b3 b5 bw x N R kk top W d ls:=by
 obtain⟨g,b⟩:=h.cols;exact⟨⟨g,b.outer.upd (bJ.fresh b.outer c) _,fun a f=>(b.row a f).upd (bJ.fresh (b.row a f) c) _⟩,h.pair.upd (bJ.fresh h.pair c) _,h.var.upd (h.var.fresh c) _,h.list.upd (h.list.1.none c) (h.list.fresh c) _,h.nw,h.n3,h.n5⟩
def FO.app(h:FO S0 S b3 b5 bw x N R kk top W d ls){e k' row:Nat}(l:cV 3 1 S0 S' (.sl 1 e 0 k') k' (fun i=>if i=kk then .int .i64 row else .int .i64 (ls i)))(k:∀d X,S d=some X->¬d5 x d->S' d=some X) :
  FO S0 S' b3 b5 bw (.sl 1 e 0 k') N R k' top W d (fun i=>if i=kk then row else ls i):=by
 obtain⟨m,c⟩:=h.cols;have kp:∀{b ty es n:Nat} {g:Nat->AV},bJ S b ty es n g->ty≠3->bJ S' b ty es n g:=fun o p=>by
  obtain⟨y,f,j⟩:=o;exact⟨y,k _ _ f (h.list.other f p),j⟩
 refine⟨⟨m,kp c.outer dc,fun a q=>kp (c.row a q) dc⟩,kp h.pair dc,?_,l.congr fun i _=>by split<;>rfl,h.nw,h.n3,h.n5⟩
 obtain⟨y,f,j⟩:=h.var;exact⟨y,k _ _ f (h.list.other f dc),j⟩
def EV(S0 S:St)(b3 b5 bw:Nat)(x:AV)(N R kk top:Nat)(d:Int)(ls:Nat->Nat)(A:aJ)(t:Nat)(σ:Nat->Nat)(row:Nat):Prop:=∃W,FO S0 S b3 b5 bw x N R kk top W d ls/\IE A N R kk t σ W/\W kk row≠0
def IV(S0 S:St)(b3 b5 bw:Nat)(x:AV)(n N R top:Nat)(A:aJ)(row:Nat):Prop:=∃kk W d ls,FO S0 S b3 b5 bw x N R kk top W d ls /\
 ((∃σ,kk=min row n/\row<=n+n/\IQ A N R kk σ W/\d=det kk (fun x y=>A x (σ y))/\(∀r,n<=r->r<row->W n r=0)/\∀i,i<kk->ls i=i) ∨
   (kk=N/\∃Rr,n<=Rr/\Rr<=n+n/\det (n+1) (fun a b=>A (ua n Rr a) b)≠0/\∀i,i<N->ls i=ua n Rr i))
def uT(S0:St)(b:Nat)(c:Nat->Nat)(n N R top:Nat)(A:aJ)(hn:n<=8)(h1:1<=n)(hN:N=n+1)(hR:R=n+n+1)(hO:qM S0 b c N R (fun a r=>A r a))
  (hB:∀σ k,lI A N σ k->∀k' i j,k'+j<N->k'+i<R->nb (cM (fun x y=>A x (σ y)) k' i j) KB) (hdet:det (n+1) (fun a b=>A (ua n (n+n) a) b)≠0) :
  cE 259 [.agg [.sl 1 b 0 N,.int .i64 top]] S0 (fun r S'=>∃e Rr,r=.sl 1 e 0 N/\n<=Rr/\Rr<=n+n/\det (n+1) (fun a b=>A (ua n Rr a) b)≠0/\bJ S' e 3 1 N (fun i=>.int .i64 (ua n Rr i))/\eQ S0 S'):=by
 have hKB:=mC;refine jr func259 ntmps259 results259 ?_;simp -dsimp only[go_sem,bH,bW,cC,cW];refine aG.intro fun b1 f1=>?_;refine nY (fun T=>bJ T b1 218 1 2 (LL b N top)/\eQ S0 T) ?_ ?_
 .refine⟨bJ.here fun j hj=>?_,(eQ.refl S0).upd f1 _⟩
  match j,hj with
  | 0,_=>rfl
  | 1,_=>rfl
 rintro T ⟨hT1,hET⟩;refine BR (uj T b1 b N top) kr ?_ ?_ ?_
 .exact⟨by simp -dsimp only[go_sem],(fun h=>by cases h),(fun h=>by cases h),(fun h=>by cases h),(fun h=>by cases h),(fun h=>by cases h),eQ.refl T,0,0,(fun h=>by cases h),(fun h=>by cases h),(fun h=>by cases h),(fun h=>by cases h)⟩
 .refine⟨?_,?_,?_,?_,?_,?_,?_,?_,?_,trivial⟩
  .intro L O S f D l;have al:∀k,_->L k=true:=aE.1 l;refine dL rfl ?_;simp -dsimp only[go_sem,f.base];exact f.s0
  .intro L O S f D l;have al:∀k,_->L k=true:=aE.1 l;refine dL rfl ?_;obtain⟨g1,u1,v1⟩:=id (f.ext.has hT1);simp -dsimp only[go_sem,aa,f.p0 (al 0 dc),u1,show g1 0=.sl 1 b 0 N from v1 0 om]
   exact f.s1
  .intro L O S f D l;have al:∀k,_->L k=true:=aE.1 l;refine dL rfl ?_;simp -dsimp only[go_sem,f.p1 (al 1 dc)]
   exact f.s2
  .intro L O S f D l;have al:∀k,_->L k=true:=aE.1 l;refine dL rfl ?_;simp -dsimp only[go_sem,f.p2 (al 2 dc)]
   repeat refine an ?_
   refine aG.intro fun bw fw=>?_;exact f.s3 D fw _ (fun _ _=>rfl)
  .intro L O S f D l;have al:∀k,_->L k=true:=aE.1 l;refine dL rfl ?_;simp -dsimp only[go_sem,f.base];exact f.s4
  .intro L O S f D l;have al:∀k,_->L k=true:=aE.1 l;refine dL rfl ?_;obtain⟨g1,u1,v1⟩:=id (f.ext.has hT1);simp -dsimp only[go_sem,aa,f.p4 (al 4 dc),u1,show g1 1=.int .i64 top from v1 1 om]
   exact f.s5
  .intro L O S f D l;have al:∀k,_->L k=true:=aE.1 l;refine dL rfl ?_;obtain⟨bw,q1,q2⟩:=f.s6 (al 3 dc)
   simp -dsimp only[go_sem,q1,f.p5 (al 5 dc)]
   exact q2
  .intro L O S f D l;have al:∀k,_->L k=true:=aE.1 l;refine dL rfl ?_;simp -dsimp only[go_sem];refine aG.intro fun bw fw=>?_;exact f.s7 D fw _
  .intro L O S f D l;have al:∀k,_->L k=true:=aE.1 l;refine dL rfl ?_;obtain⟨bw,P,g,q1,q2,q3,q4⟩:=f.s8 (al 6 dc) (al 7 dc)
   simp -dsimp only[go_sem,aa,q1,q2,q3,bH,bW,cC,cW];refine q4 _ (fun j hj=>?_)
   match j,hj with
   | 0,_=>simp[iU,LL]
   | 1,_=>simp[iU,LL]
 intro L O S f D;obtain⟨bw,P,m3,m6,m7,m8⟩:=f.ex;obtain⟨a1,a2,a3⟩:=m3 (D 3 dc)
 obtain⟨c1,c2,_⟩:=m7 (D 7 dc)
 have d3:=(m8 (D 8 dc)).2.2
 have hE:=hET.trans f.ext;have nw:=hET.none a3;have n3:=hET.none c2;have Q:=hO.ext hE;have e1:=f.base;have E:=f.ext.has hT1;clear f D m3 m6 m7 m8 a3 c2 hT1 hET a1;obtain⟨g1,u1,v1⟩:=id E;obtain⟨g3,w,H⟩:=id d3;obtain⟨gw,uw,vw⟩:=id a2;obtain⟨gb,ub,vb⟩:=id Q.outer;simp -dsimp only[go_sem,aa,e1,c1,u1,w,show g1 0=.sl 1 b 0 N from v1 0 om,show g3 0=.sl 1 bw 0 N from H 0 om];refine E8 (e:=59) uw ub rfl rfl om (fun a l=>by rw[vb a l];trivial) ?_
 simp -dsimp only[go_sem,aa,show g1 0=.sl 1 b 0 N from v1 0 om,show g3 0=.sl 1 bw 0 N from H 0 om];refine(ky dc dc).call ?_
 simp -dsimp only[go_sem];refine aG.intro fun M f5=>?_
 try simp -dsimp only[go_sem]
 have hb5:bw≠M:=fun e=>by rw[e]at f5;rw[ci]at f5;cases f5
 have s5:S M=ab:=by rw[aN (aj hb5)]at f5;exact f5
 have h3w:P≠bw:=bJ.ne d3 a2 dc
 have h35:P≠M:=bJ.fresh d3 s5;have n5:=hE.none s5;have hInit:∀X Y,X=(fun j=>if 0<=j/\j<N then gb (j-0)else gw j)->Y 0=AV.big 1->FO S0 ((S.upd bw ⟨59,1,N,X⟩).upd M ⟨50,2,1,Y⟩) P M bw .nil N R 0 top (fun a r=>A r a) 1 (fun i=>i):=by
  intro X Y hX hY;refine⟨⟨c,bJ.upd (bJ.here fun a l=>?_) hb5 _,fun a l=>?_⟩,(d3.upd h3w _).upd h35 _,dT.new hY,cV.nil ((hE.upd nw _).upd n5 _) _,nw,n3,n5⟩
  .rw[hX];simp only[jw,jO,l,aO,eO];exact vb a l
  .exact((Q.row a l).upd (bJ.ne (Q.row a l) a2 dc) _).upd (bJ.fresh (Q.row a l) s5) _
 have hIQ:IQ A N R 0 id (fun a r=>A r a):=IQ.init fun a r l hr=>by
  have:=hB id 0 (lI.init A N) 0 r a om om
  rwa [ie]at this
 refine aH (fun O S=>∃row:Nat,row<=n+n+1/\O 3=.ptr 1 P 0/\O 5=.ptr 2 M 0/\O 6=.int .i64 row/\IV S0 S P M bw (O 4) n N R top A row) (fun O S=>n+n+2-ca (O 6)) ?_ ?_
 .simp -dsimp only[go_sem,c1];rw[lU];exact⟨0,om,rfl,0,_,1,_,hInit _ _ rfl (by simp[bR]),bM ⟨id,om,om,hIQ,by simp[det],fun r h1 h2=>om,fun i h=>om⟩⟩
 clear hIQ hInit e1 c1 u1 v1 w H uw vw ub vb Q E d3 a2 hE f5 s5 h35 h3w f1;rintro O S ⟨row,hrow,B,I,o,kk,W,d,ls,J,hV⟩;obtain⟨g3,w,H⟩:=id J.pair;have F:g3 0=.sl 1 bw 0 N:=H 0 om;by_cases G:kk<N
 .obtain⟨σ,k1,k2,hQ,hd,hz,hls⟩:=hV.resolve_right (fun h=>om)
  apply xN (fun O' S'=>O' 3=.ptr 1 P 0/\O' 4=O 4/\O' 5=.ptr 2 M 0/\O' 6=.int .i64 row/\O' 7=.int .i64 kk/\O' 8=.int .i64 kk/\S'=S)
  .intro key;rcases J.list.2 with⟨h0,hx⟩|⟨e,_,hx,_⟩
   .subst h0;have hN0:(0:Int)<(N:Int):=om
    simp -dsimp only[go_sem,aa,B,o,hx,w,F,hN0];refine key _ _ ?_;simp -dsimp only[go_sem,B,I,o,hx];exact⟨rfl,rfl⟩
   .simp -dsimp only[go_sem,aa,B,o,hx,w,F,G];refine key _ _ ?_;simp -dsimp only[go_sem,B,I,o,hx]
  generalize O 4=x at *;rintro O' S' ⟨e3',e4',e5',e6',e7',e8',rfl⟩;refine aH (fun O S=>∃j:Nat,kk<=j/\j<=N/\O 3=.ptr 1 P 0/\O 4=x/\O 5=.ptr 2 M 0/\O 6=.int .i64 row/\O 7=.int .i64 kk/\O 8=.int .i64 j/\FO S0 S P M bw x N R kk top W d ls/\∀a,kk<=a->a<j->W a row=0) (fun O S=>N-ca (O 8)) ?_ ?_
  .exact⟨kk,om,om,e3',e4',e5',e6',e7',e8',J,fun a h1 h2=>om⟩
  clear e3' e4' e5' e6' e7' e8' B I o w H F J;rintro O S ⟨j,hj1,hj2,B,U,I,o,e7,e8,J,hzz⟩;obtain⟨g3,w,H⟩:=id J.pair;have F:g3 0=.sl 1 bw 0 N:=H 0 om;obtain⟨c,hC⟩:=J.cols;obtain⟨gw,uw,vw⟩:=id hC.outer;have C:row<R:=om
  by_cases s:j<N
  .obtain⟨gc,uc,vc⟩:=id (hC.row j s);have xw:gw j=.sl 2 (c j) 0 R:=vw j s;have xc:gc row=.big (W j row):=vc row C;have nW:=hQ.b j row s C;simp -dsimp only[go_sem,aa,B,o,e8,w,F,s,uw,xw,uc,xc,C];refine(kG nW om).call ?_;by_cases V:W j row=0
   .simp -dsimp only[go_sem,aa,B,U,I,o,e7,e8,w,F,s,xw,xc,V,show(Int.sign 0==0)=true from rfl,aT (om:j<1000000),ca]
    exact⟨⟨j+1,om,om,rfl,J,fun a h1 h2=>by
     by_cases e:a=j
     .rw[e];exact V
     .exact hzz a h1 om⟩,om⟩
   .have hs:((W j row).sign==0)=false:=by
     rw[gS];intro h;exact V (lB.1 h)
    have hjne:((j:Int)==(N:Int))=false:=by rw[gS];omega
    simp -dsimp only[go_sem,aa,B,U,I,o,e7,e8,w,F,s,xw,xc,hs,hjne];refine(Au S bw c N R kk j W G s hC).mono ?_;rintro _ S1 ⟨⟨c',hC'⟩,hK⟩;have E:=J.keep hK hC';have hQ1:=hQ.swap hj1 s;have Z:det kk (fun x y=>A x (σ (dG kk j y)))=d:=by
     rw[hd];exact ck fun a y _ hy=>by rw[show dG kk j y=y by unfold dG;rw[af om,af om]]
    have u:W (dG kk j kk) row≠0:=by unfold dG;rw[ai rfl];exact V
    obtain⟨W1,hW1⟩:∃W1:aJ,W1=fun a=>W (dG kk j a):=⟨_,rfl⟩;obtain⟨σ1,hσ1⟩:∃σ1:Nat->Nat,σ1=fun a=>σ (dG kk j a):=⟨_,rfl⟩;rw[<-hW1]at E hQ1;rw[<-hσ1]at hQ1
    replace Z:det kk (fun x y=>A x (σ1 y))=d:=by rw[hσ1];exact Z
    replace u:W1 kk row≠0:=by rw[hW1];exact u
    clear hW1 hσ1;have m:=hQ1.start G;have hd0:d≠0:=by rw[<-Z];exact m.el.lead kk (ae _)
    have ndd:nb d KB:=by
     rw[<-Z];by_cases e:kk=0
     .rw[e];simp only[det];exact nb.one om
     .have:=hB σ1 kk m.el (kk-1) 0 0 om om;rw[c8,(om:kk-1+1=kk)]at this
      exact this
    clear w H F uw vw xw uc vc xc J hC hK hC';obtain⟨g3,w,H⟩:=id E.pair;have F:g3 0=.sl 1 bw 0 N:=H 0 om;simp -dsimp only[go_sem,e7,e8,aT (om:kk<1000000)]
    refine aH (fun O S=>∃t:Nat,kk+1<=t/\t<=N/\O 3=.ptr 1 P 0/\O 4=x/\O 5=.ptr 2 M 0/\O 6=.int .i64 row/\O 7=.int .i64 kk/\O 9=.int .i64 t/\EV S0 S P M bw x N R kk top d ls A t σ1 row) (fun O S=>N-ca (O 9)) ?_ ?_
    .simp -dsimp only[go_sem,B,U,I,o,e7];exact⟨kk+1,om,om,rfl,W1,E,m,u⟩
    clear B U I o e7 e8 E m hQ1 w H F u hzz V hs hjne nW hQ hd;rintro O S ⟨t,ht1,ht2,B,U,I,o,e7,e9,W2,K,m,u⟩;obtain⟨g3,w,H⟩:=id K.pair;have F:g3 0=.sl 1 bw 0 N:=H 0 om;obtain⟨g5,u5,x5⟩:=id K.var;by_cases htt:t<N
    .have hrk:row=kk:=om
     obtain⟨c2,hC2⟩:=K.cols;simp -dsimp only[go_sem,aa,B,U,I,o,e7,e9,w,F,u5,x5,htt];refine(tn S bw c2 N R kk t row W2 d G htt C om hd0 ndd m.b hC2).mono ?_;rintro _ S3 ⟨⟨c3,hC3⟩,hK3⟩;have hst:=m.step om htt om (fun i c h1 h2=>hB σ1 kk m.el (kk+1) i c h1 h2);rw[Z]at hst;rw[hrk]at hC3;simp -dsimp only[go_sem,B,U,I,o,e7,e9,aT (om:t<1000000),ca]
     exact⟨⟨t+1,om,om,rfl,_,K.keep hK3 hC3,hst,by rw[af om];exact u⟩,om⟩
    have htN:N=t:=om
    obtain⟨c2,hC2⟩:=K.cols;obtain⟨gw,uw,vw⟩:=id hC2.outer;obtain⟨gc,uc,vc⟩:=id (hC2.row kk G);have xw:gw kk=.sl 2 (c2 kk) 0 R:=vw kk G;have xc:gc row=.big (W2 kk row):=vc row C;simp -dsimp only[go_sem,aa,B,U,I,o,e7,e9,w,F,u5,x5,htt,uw,xw,uc,xc,G,C];have hS5:=K.setVar (z:=W2 kk row) (g:=g5) u5 om;refine aG.intro fun b9 f9=>?_;have hxb:=hS5.list.fresh f9;have hS6:=hS5.other f9 ⟨3,1,1,fun j=>[AV.int .i64 row].getD j .any⟩
    try simp -dsimp only[go_sem,U,o]
    refine cV.app3 (v:=.int .i64 row) hS6.list (om:kk<1000000) (by simp[eg]) (bO ⟨_,_,_,rfl,ci,rfl,fun h=>hxb _ h rfl⟩) ?_
    intro e S7 hX' hk1 _;have hS7:=hS6.app hX' hk1;simp -dsimp only[go_sem,B,U,I,o,aT (om:row<1000000),ca]
    refine⟨⟨row+1,om,rfl,kk+1,W2,W2 kk row,_,hS7,?_⟩,om⟩
    subst htN;by_cases hkn:kk<n
    .have hrk:row=kk:=om
     have hp:=m.p kk (ae _) om;rw[cb]at hp;rw[hrk]at u ⊢;refine bM ⟨σ1,om,om,m.done (by rw[<-hp];exact u),by rw[hp,c8],fun r h1 h2=>om,fun i hi=>?_⟩
     by_cases e:i=kk
     .rw[ai e];exact e.symm
     .rw[af e];exact hls i om
    .have hkn':kk=n:=om
     have hp:=m.p row om C;subst hkn';have hl:=m.el;rw[hN]at hl;have:=hl.last (R:=row) om;refine bO ⟨om,row,om,om,fun h0=>?_,fun i hi=>?_⟩
     .rw[h0,<-hp]at this;exact u om
     .unfold ua;by_cases e:i=kk
      .rw[ai e,af om]
      .rw[af e,ai om];exact hls i om
  .have hjN':N=j:=om
   have hjeq:((j:Int)==(N:Int))=true:=by rw[ue];omega
   simp -dsimp only[go_sem,aa,B,U,I,o,e7,e8,w,F,s,hjeq,aT (om:row<1000000),ca]
   have hl:=hQ.el;rw[hN]at hl;have hkn:kk=n:=by
    refine I1 om (Nat.le_of_not_lt fun hlt=>?_);refine hl.found (R:=n+n) hlt hdet fun a l=>?_;have hrk:row=kk:=om
    have:=hQ.q (kk+a) kk om om (ae _) om;rw[cb,(om:kk+a-kk=a)]at this
    rw[<-this,<-hrk];exact hzz _ om om
   have hw:=hzz n om om;have hq:=hQ.q n row om om om C;have hlast:=hl.last (R:=row) om;subst hkn;rw[cb]at hq;refine⟨⟨row+1,om,rfl,kk,W,d,ls,J,bM ⟨σ,om,?_,hQ,hd,fun r h1 h2=>?_,hls⟩⟩,om⟩
   .refine Nat.lt_of_le_of_ne k2 fun e=>hdet ?_;rw[<-e];rw[<-hq,hw]at hlast;simp only[Int.natAbs_zero]at hlast;omega
   .by_cases e:r=row
    .rw[e];exact hw
    .exact hz r h1 om
 obtain⟨hkN,Rr,r1,r2,r3,r4⟩:=hV.resolve_left (fun⟨σ,h,_⟩=>om)
 subst hkN;rcases J.list.2 with⟨h0,hx⟩|⟨e,he,hx,hh⟩
 .omega
 simp -dsimp only[go_sem,aa,B,o,hx,w,F,cN];exact⟨e,rfl,Rr,r1,r2,r3,hh.congr fun i hi=>by rw[r4 i hi],J.list.1⟩

def ME{e ty:Nat}(a:S b=some ⟨ty,es,N,g0⟩)(c:dB t=some e)(d:es=bP e)(f:0<N)(g:∀j,j<N->eg es (g1 j))
  (h:K (.int .i64 N) (S.upd b ⟨ty,es,N,fun j=>if 0<=j/\j<0+N then g1 (j-0)else g0 j⟩)):zQ t (.sl es b 0 N) (.lst es N g1) S K:=by
 unfold zQ rH;rw[c];simp only[a,Av];exact⟨d,trivial,trivial,om,trivial,f,g,h⟩
def ft.setRow{o e:Nat}{S1:St}{m:Nat}(h:ft o e es S1 S b g n m k E)(d:o≠e){i:Nat}(f:i<k){z z':Nat->AV}(p:∀j,j<m->z j=z' j):ft o e es S1 (S.upd (g i) ⟨e,es,m,z⟩) b g n m k (fun a c=>if a=i then z' c else E a c):=by
 refine⟨h.ext.upd (h.rnew i f) _,h.new,h.outer.upd (h.ne d f) _,fun a l=>?_,h.rnew,h.inj⟩;by_cases e:a=i
 .subst e;simp only[aO];exact bJ.here p
 .simp only[e,aP];exact(h.row a l).upd (fun q=>e (h.inj a i l f q)) _
def DJ(A:aJ)(n b b2 b8 b11:Nat)(S:St)(k:Nat)(neg:Bool)(i j:Nat):Prop:=∃(g σ:Nat->Nat) (B:aJ),nv A n σ neg k/\dA S b g n n B/\(∀i,i<n->g i≠b2/\g i≠b8/\g i≠b11)/\dT S b2 50 2 (.big 0)/\dT S b8 50 2 (.big (det k (fun a c=>A (σ a) c)))/\dT S b11 50 2 (.big (cM (fun a c=>A (σ a) c) k 0 0))/\b8≠b2/\b11≠b2/\b11≠b8/\G8 A n k i j σ B
def DJ.of{neg:Bool}(D:nv A n σ neg k)(m:k<p)(E:k<n)(F:p<n)(G:dA (S.upd b X) b (fun i=>g (dG k p i)) n n (fun i j=>B (dG k p i) j))(w:∀i,i<n->g i≠b2/\g i≠b8)
  (V2:dT S b2 50 2 (.big 0)) (V5:dT S b8 50 2 (.big (det k (fun a c=>A (σ a) c)))) (o:b≠b2) (q:b≠b8) (r:b2≠b8) (d:S b11=ab) (x:dA S b g n n B) (H:M3 A n k σ B) (h:B p k=cM (fun a c=>A (σ a) c) k (p-k) 0) (I:B p k≠0) (J:z 0=.big (B p k):=by rfl) :
  DJ A n b b2 b8 b11 ((S.upd b X).upd b11 ⟨50,2,1,z⟩) k (!neg) (k+1) (k+1):=by
 have l:∀i,i<n->dG k p i<n:=fun i f=>by unfold dG;split<;>(try split)<;>omega
 have K:b≠b11:=bJ.fresh x.outer d;have y:b2≠b11:=V2.fresh d;have C:b8≠b11:=V5.fresh d;have ng:∀i,i<n->g i≠b11:=fun i f=>bJ.fresh (x.row i f) d;have s:=xu (k:=k) (p:=p) (fun a c=>A (σ a) c) om 0 0;rw[show dG 0 (p-k) 0=p-k by simp[dG],<-h]at s
 refine⟨_,fun a=>σ (dG k p a),_,D.swap m F,G.upd K (fun i f=>ng _ (l i f)) _,fun i f=>⟨(w _ (l i f)).1,(w _ (l i f)).2,ng _ (l i f)⟩,(V2.upd (aj o) _).upd y _,?_,?_,aj r,aj y,aj C,?_,fun a c L t u v=>?_⟩
 .have e:=yz (n:=k) (fun a c=>A (σ a) c) (i:=k) (k:=p) om om;rw[e];exact(V5.upd (aj q) _).upd C _
 .rw[s];exact dT.new J
 .rw[s];exact I
 .rw[af om];have e:=xu (k:=k) (p:=p) (fun a c=>A (σ a) c) om (a-k) (c-k);show B (dG k p a) c=_;rw[e,H (dG k p a) c (by unfold dG;split<;>(try split)<;>omega) (l a t) u v]
  congr 1;unfold dG;split<;>(try split)<;>(try split)<;>(try split)<;>omega
def DJ.of0{neg:Bool}(v:nv A n σ neg k)(e:k<n)(h:dA S b g n n B)(r:∀i,i<n->g i≠b2/\g i≠b8)
  (V2:dT S b2 50 2 (.big 0)) (V5:dT S b8 50 2 (.big (det k (fun a c=>A (σ a) c)))) (j:b2≠b8) (d:S b11=ab) (s:M3 A n k σ B) (w:B k k≠0) (x:z 0=.big (B k k):=by rfl) :
  DJ A n b b2 b8 b11 (S.upd b11 ⟨50,2,1,z⟩) k neg (k+1) (k+1):=by
 have y:b≠b11:=bJ.fresh h.outer d;have t:b2≠b11:=V2.fresh d;have u:b8≠b11:=V5.fresh d;have ng:∀i,i<n->g i≠b11:=fun i f=>bJ.fresh (h.row i f) d;have l:=s k k (ae _) e (ae _) e;rw[cb]at l;refine⟨g,σ,B,v,h.upd y ng _,fun i f=>⟨(r i f).1,(r i f).2,ng i f⟩,V2.upd t _,V5.upd u _,?_,aj j,aj t,aj u,?_,fun a c m o p q=>?_⟩
 .rw[<-l];exact dT.new x
 .rw[<-l];exact w
 .rw[af om];exact s a c m o p q
def zw(n K:Nat)(A:aJ)(h1:1<=n)(h2:n<=16)(hK1:1<=K)(hK:K<=1000000)(hB:∀σ neg k,nv A n σ neg k->∀k' i j,k'+i<n->k'+j<n->nb (cM (fun a b=>A (σ a) b) k' i j) K):PF 130 [aQ n n A] (.big (det n A)):=by
 refine iQ func130 ntmps130 results130 ?_;simp -dsimp only[go_sem,aQ,a8];refine aG.intro fun w f2=>?_;simp -dsimp only[go_sem]
 repeat refine an ?_
 refine aG.intro fun bb fb=>?_;have nb_2:=(ag fb).1;simp only[go_sem];have hn2:bb≠w:=nb_2;refine aH (fun O S=>∃i:Nat,i<=n/\O 2=.ptr 2 w 0/\O 3=.int .i64 n/\O 4=.sl 1 bb 0 n/\O 19=aQ n n A/\O 20=.int .i64 n/\O 21=.int .i64 i/\∃g',ft 59 50 2 (St.none.upd w ⟨50,2,1,fun _=>.big 0⟩) S bb g' n n i (fun a c=>.big (A a c))) (fun O S=>n-ca (O 21)) ?_ ?_
 .simp only[go_sem,aQ,a8];exact⟨0,om,rfl,fun _=>0,ft.init fb (fun _ _=>rfl) _ _⟩
 rintro O S ⟨i,s,o,t,q,e19,e20,e21,g',hR⟩;by_cases h:i<n
 .obtain⟨g4,u4,v4⟩:=id hR.outer;simp -dsimp only[*,go_sem,aa,aQ,a8]
  repeat refine an ?_
  refine aG.intro fun bd fd=>?_;have hdc:bb≠bd:=bJ.fresh hR.outer fd;simp -dsimp only[*,go_sem,eL];have hR1:=hR.push dc fd u4 (fun _=>.big 0)
  generalize hgg:(fun a=>if a=i then bd else g' a)=gg at hR1
  have hgi:gg i=bd:=by rw[<-hgg];simp
  refine ME (e:=50) (by rw[aN (aj hdc)];exact ci) rfl rfl om (fun j _=>trivial) ?_
  simp only[*,go_sem,aQ,a8,aT (om:i<1000000),ca]
  have hR2:=fun(z:Nat->AV) hz=>hR1.setRow dc (om:i<i+1) (z:=z) (z':=fun j=>.big (A i j)) hz
  simp only[hgi]at hR2;refine⟨⟨i+1,om,rfl,gg,(hR2 _ ?_).congr fun a c _ _=>?_⟩,om⟩
  .intro j X;simp[X]
  .by_cases e:a=i
   .simp[e]
   .simp[e]
 have hni:n=i:=om
 subst hni;have l:=hR.mat (A:=A) (fun _ _ _ _=>rfl);simp -dsimp only[*,go_sem,aa,cN];refine(ky dc dc).call ?_
 simp -dsimp only[go_sem];refine aG.intro fun H f8=>?_
 try simp only[go_sem,t]
 have hb2:bb≠w:=nb_2;have hg2:∀i,i<n->g' i≠w:=fun i s e=>by have:=l.2.2.2 i s;rw[e,ci]at this;cases this
 have Y:w≠H:=fun e=>by have:=l.2.1 w _ ci;rw[e,f8]at this;cases this
 have Z:bb≠H:=bJ.fresh l.1.outer f8;have hg8:∀i,i<n->g' i≠H:=fun i s=>bJ.fresh (l.1.row i s) f8;refine aH (fun O S=>∃(k:Nat) (neg:Bool),k<=n/\O 2=.ptr 2 w 0/\O 3=.int .i64 n/\O 4=.sl 1 bb 0 n/\O 7=.bool neg/\O 8=.ptr 2 H 0/\O 39=.int .i64 n/\O 40=.int .i64 k/\AL A n bb w H S k neg (M3 A n k)) (fun O S=>n-ca (O 40)) ?_ ?_
 .simp only[*,go_sem];refine⟨0,om,false,rfl,rfl,g',id,A,nv.init A n,(l.1.upd Z hg8 _).upd Z hg8 _,fun i s=>⟨hg2 i s,hg8 i s⟩,?_,dT.set,fun i j _ _ _ _=>by rw[ie];rfl⟩
  exact(dT.upd ⟨_,l.2.1 w _ ci,rfl⟩ Y _).upd Y _
 clear l hR o t q e19 e20 e21 f8 hg2 hg8;rintro O S ⟨k,neg,hkn,o,t,q,u,x,d,f,G⟩;by_cases h:k<n
 .simp only[*,go_sem,aa];refine aH (fun O S=>∃p:Nat,k<=p/\p<=n/\O 2=.ptr 2 w 0/\O 3=.int .i64 n/\O 4=.sl 1 bb 0 n/\O 7=.bool neg/\O 8=.ptr 2 H 0/\O 9=.int .i64 k/\O 10=.int .i64 p/\O 39=.int .i64 n/\O 40=.int .i64 k/\AL A n bb w H S k neg (StgP A n k p)) (fun O S=>n-ca (O 10)) ?_ ?_
  .simp only[*,go_sem];obtain⟨g,σ,B,r,l,D,V2,V5,hBq⟩:=G;exact⟨k,om,om,rfl,g,σ,B,r,l,D,V2,V5,hBq,fun i h1 h2=>om⟩
  clear G o t q u x d f;rintro O S ⟨p,hkp,hpn,o,t,q,u,x,v,I,d,f,g,σ,B,r,l,D,V2,V5,hQ,hZ⟩;by_cases P:p<n
  case neg =>
   obtain rfl:p=n:=om
   have E:((p:Int)==p)=true:=by simp
   have hz:det p A=0:=r.zero h fun i s=>by
    have:=hQ (k+i) k om om (ae _) h;rw[cb,(om:k+i-k=i)]at this
    rw[<-this];exact hZ _ om om
   obtain⟨gz,uz,xz⟩:=id V2;simp only[go_sem,aa,o,t,q,u,x,v,I,d,f,P,E,uz];rw[hz];exact VR.mf rfl
  obtain⟨g1,W,v1⟩:=l.outer;obtain⟨g2,L,v2⟩:=l.row p P;have v1':g1 p=.sl 2 (g p) 0 n:=v1 p P;have M:g2 k=.big (B p k):=v2 k h;have hbp:=hB σ neg k r k (p-k) 0 om om;have J:=hQ p k hkp P (ae _) h;rw[cb]at J;rw[<-J]at hbp;simp -dsimp only[go_sem,aa,t,q,v,I,P,h,W,L,v1',M];refine(kG hbp om).call ?_;by_cases h0:B p k=0
  .simp -dsimp only[go_sem,aa,o,t,q,u,x,v,I,d,f,P,h,h0,rK,aT (om:p<1000000),ca]
   refine⟨⟨p+1,om,om,rfl,g,σ,B,r,l,D,V2,V5,hQ,fun i h1 h2=>?_⟩,om⟩
   by_cases e:i=p
   .rw[e];exact h0
   .exact hZ i h1 om
  have hs0:((B p k).sign==0)=false:=by
   simp only[gS,DF];rw[lB];exact h0
  have E:((p:Int)==n)=false:=by simp;omega
  apply xN (fun O S=>∃(neg:Bool) (m:Nat),O 2=.ptr 2 w 0/\O 3=.int .i64 n/\O 4=.sl 1 bb 0 n/\O 7=.bool neg/\O 8=.ptr 2 H 0/\O 9=.int .i64 k/\O 11=.ptr 2 m 0/\O 12=.int .i64 ((k+1:Nat):Int)/\O 39=.int .i64 n/\O 40=.int .i64 k/\DJ A n bb w H m S k neg (k+1) (k+1))
  .intro key;by_cases hkp':k<p
   .have v3':g1 k=.sl 2 (g k) 0 n:=v1 k h;have hne:((p:Int) != (k:Int))=true:=by simp;omega
    simp -dsimp only[go_sem,aa,o,t,q,u,x,v,I,d,f,P,h,hs0,E,hne];refine ip 13 kr ?_
    have y1:bR (bR g1 k (.sl 2 (g p) 0 n)) p (.sl 2 (g k) 0 n) k=.sl 2 (g p) 0 n:=by simp[bR,(om:¬k=p)]
    have hgp:g p≠bb:=aj (l.outer_ne P);simp -dsimp only[go_sem,aa,q,u,v,I,P,h,W,v1',v3',y1,hgp,L,M];refine aG.intro fun m f11=>?_;simp only[go_sem,aa,q,u,v,M];refine key _ _ ?_;simp only[go_sem,o,t,q,x,v,d,f,aT (om:k<1000000)]
    refine⟨!neg,rfl,m,rfl,?_⟩;rw[lU,lU];have f11':S m=ab:=by rw[lU]at f11;exact(ag f11).2
    have hs:∀i,i<n->dG k p i<n:=fun i s=>by unfold dG;split<;>(try split)<;>omega
    have hsw:∀i,dG p k i=dG k p i:=fun i=>by unfold dG;split<;>(try split)<;>(try split)<;>omega
    have G:=l.swap h P om W;simp only[hsw]at G;exact DJ.of r hkp' h P G D V2 V5 hb2 Z Y f11' l hQ J h0
   have hpk:p=k:=om
   subst hpk;have hne:((p:Int) != (p:Int))=false:=by simp
   simp -dsimp only[go_sem,aa,o,t,q,u,x,v,I,d,f,P,hs0,E,hne,W,v1',L,M,aT (om:p<1000000)]
   refine aG.intro fun m f11=>?_;simp only[go_sem,aa,q,v,M];refine key _ _ ?_;simp only[go_sem,o,t,q,u,x,v,d,f,aT (om:p<1000000)]
   refine⟨neg,rfl,m,rfl,?_⟩;rw[lU];exact DJ.of0 r h l D V2 V5 Y f11 hQ h0
  clear o t q u x v I d f hZ hQ V2 V5 D l W v1 L v2 v1' M hbp J h0 hs0 E r;rintro O S ⟨neg,m,o,t,q,u,x,v,y,C,d,f,G⟩;refine aH (fun O S=>∃i:Nat,k+1<=i/\i<=n/\O 2=.ptr 2 w 0/\O 3=.int .i64 n/\O 4=.sl 1 bb 0 n/\O 7=.bool neg/\O 8=.ptr 2 H 0/\O 9=.int .i64 k/\O 11=.ptr 2 m 0/\O 12=.int .i64 i/\O 39=.int .i64 n/\O 40=.int .i64 k/\DJ A n bb w H m S k neg i (k+1)) (fun O S=>n-ca (O 12)) ?_ ?_
  .exact⟨k+1,om,om,o,t,q,u,x,v,y,C,d,f,G⟩
  clear o t q u x v y C d f G;rintro O S ⟨i,hki,hin,o,t,q,u,x,v,y,C,d,f,G⟩;by_cases s:i<n
  .simp only[*,go_sem,aa,aT (om:k<1000000)]
   refine aH (fun O S=>∃j:Nat,k+1<=j/\j<=n/\O 2=.ptr 2 w 0/\O 3=.int .i64 n/\O 4=.sl 1 bb 0 n/\O 7=.bool neg/\O 8=.ptr 2 H 0/\O 9=.int .i64 k/\O 11=.ptr 2 m 0/\O 12=.int .i64 i/\O 13=.int .i64 j/\O 39=.int .i64 n/\O 40=.int .i64 k/\DJ A n bb w H m S k neg i j) (fun O S=>n-ca (O 13)) ?_ ?_
   .simp only[*,go_sem];exact⟨k+1,om,om,rfl,G⟩
   clear o t q u x v y C d f G;rintro O S ⟨j,hkj,hjn,o,t,q,u,x,v,y,C,e13,d,f,G⟩;by_cases X:j<n
   .obtain⟨g,σ,B,r,l,D,V2,V5,V11,n1,n2,n3,Q,F⟩:=G;obtain⟨g1,W,v1⟩:=l.outer;obtain⟨g2,L,v2⟩:=l.row i s;obtain⟨g3,u3,v3⟩:=l.row k h;obtain⟨gp,up',vp⟩:=id V11;have w1:g1 i=.sl 2 (g i) 0 n:=v1 i s;have w2:g1 k=.sl 2 (g k) 0 n:=v1 k h;have w3:g2 j=.big (B i j):=v2 j X;have w4:g2 k=.big (B i k):=v2 k h;have w5:g3 j=.big (B k j):=v3 j X;have c1:=F i j om s om X;have c2:=F i k om s (ae _) h;have c3:=F k j (ae _) h om X;rw[af om]at c1 c2 c3;rw[cb]at c2 c3;have m1:=hB σ neg k r k (i-k) (j-k) om om;have m2:=hB σ neg k r k (i-k) 0 om om;have m3:=hB σ neg k r k 0 (j-k) om om;have m4:=hB σ neg k r k 0 0 om om;rw[<-c1]at m1;rw[<-c2]at m2;rw[<-c3]at m3;have m5:nb (det k (fun a c=>A (σ a) c)) K:=by
     by_cases e:k=0
     .rw[e];simp only[det];exact nb.one om
     .have:=hB σ neg k r (k-1) 0 0 om om;rw[c8,(om:k-1+1=k)]at this
      exact this
    have hst:=i9 r.lead (i-k-1) (j-k-1);rw[(om:i-k-1+1=i-k),(om:j-k-1+1=j-k),<-c1,<-c2,<-c3]at hst
    have hd0:=r.lead k (ae _);generalize hpv:cM (fun a c=>A (σ a) c) k 0 0=pv at *;have hq:(pv*B i j-B i k*B k j)/det k (fun a c=>A (σ a) c)=cM (fun a c=>A (σ a) c) (k+1) (i-k-1) (j-k-1):=by
     rw[hst,cT _ hd0]
    simp -dsimp only[*,go_sem,aa];refine bF 26 kr ?_
    simp -dsimp only[go_sem,aa,q,v,y,C,e13,s,X,h,W,w1,w2,L,u3,w3,w4,w5,up',vp];refine⟨_,(po m4 m1 om).pure',_,(po m2 m3 om).pure',_,(Cr (m4.mul m1) (m2.mul m3) om).pure',?_⟩;refine aG.intro fun N R=>?_
    try simp -dsimp only[go_sem]
    have q1:bb≠N:=bJ.fresh l.outer R;have q2:∀a,a<n->g a≠N:=fun a ha=>bJ.fresh (l.row a ha) R;have q3:w≠N:=V2.fresh R;have q4:H≠N:=V5.fresh R;have q5:m≠N:=V11.fresh R;refine nY (fun T=>dA T bb g n n B/\dT T w 50 2 (.big 0)/\dT T H 50 2 (.big (det k (fun a c=>A (σ a) c)))/\dT T m 50 2 (.big pv)/\dT T N 50 2 (.big (pv*B i j-B i k*B k j))) ?_ ?_
    .refine⟨(l.upd q1 q2 _).upd q1 q2 _,(V2.upd q3 _).upd q3 _,(V5.upd q4 _).upd q4 _,(V11.upd q5 _).upd q5 _,?_⟩;simp only[dT.at_hit,bR,aO]
    clear l V2 V5 V11 W v1 L v2 u3 v3 up' vp w1 w2 w3 w4 w5;rintro T ⟨l,V2,V5,V11,V14⟩;obtain⟨g1,W,v1⟩:=l.outer;obtain⟨g2,L,v2⟩:=l.row i s;obtain⟨g8,u8,x8⟩:=id V5;obtain⟨g14,u14,x14⟩:=id V14;have w1:g1 i=.sl 2 (g i) 0 n:=v1 i s;refine fu 13 [[10,11]] kr ?_
    simp only[go_sem,aa,o,t,q,u,x,v,y,C,e13,d,f,s,X,W,w1,L,u8,x8,u14,x14];refine⟨_,(iR (k:=K+K+1) ((m4.mul m1).sub (m2.mul m3)) (m5.mono om) om hd0).pure',?_⟩;rw[hq];simp only[go_sem,aT (om:j<1000000),ca]
    refine⟨⟨j+1,om,om,rfl,g,σ,_,r,l.set s L,D,dT.upd V2 (aj (D i s).1) _,dT.upd V5 (aj (D i s).2.1) _,by rw[hpv];exact dT.upd V11 (aj (D i s).2.2) _,n1,n2,n3,by rw[hpv];exact Q,fun a c ha1 U hc1 V=>?_⟩,om⟩
    have h3:=F a c ha1 U hc1 V;simp only[eV];by_cases e1:a=i/\c=j
    .obtain⟨rfl,rfl⟩:=e1;rw[ai ⟨rfl,rfl⟩,ai om,rb,rb]
    .rw[af e1,h3];by_cases o:k<a/\k<c/\(a<i∨a=i/\c<j)
     .rw[ai o,ai om]
     .rw[af o,af om]
   have hnj:n=j:=om
   obtain⟨g,σ,B,r,l,D,V2,V5,V11,n1,n2,n3,Q,F⟩:=G;simp only[go_sem,aa,o,t,q,u,x,v,y,C,e13,d,f,X,aT (om:i<1000000),ca]
   refine⟨⟨i+1,om,om,rfl,g,σ,B,r,l,D,V2,V5,V11,n1,n2,n3,Q,fun a c ha1 U hc1 V=>?_⟩,om⟩
   rw[F a c ha1 U hc1 V];by_cases o:k<a/\k<c/\(a<i∨a=i/\c<j)
   .rw[ai o,ai om]
   .rw[af o,af om]
  have hni:n=i:=om
  obtain⟨g,σ,B,r,l,D,V2,V5,V11,n1,n2,n3,Q,F⟩:=G;obtain⟨g8,u8,x8⟩:=id V5;obtain⟨gp,up',vp⟩:=id V11;simp only[go_sem,aa,o,t,q,u,x,v,y,C,d,f,s,u8,up',vp,aT (om:k<1000000),ca]
  refine⟨⟨k+1,om,neg,rfl,rfl,g,σ,B,r.step Q,l.upd Z (fun a ha=>(D a ha).2.1) _,fun a ha=>⟨(D a ha).1,(D a ha).2.1⟩,V2.upd (aj n1) _,by rw[<-c8];exact dT.set,fun a c ha1 U hc1 V=>?_⟩,om⟩
  rw[F a c om U om V,ai om]
 have hnk:n=k:=om
 subst hnk;obtain⟨g,σ,B,r,l,D,V2,V5,hQ⟩:=G;obtain⟨g2,L,x2⟩:=id V2;obtain⟨g8,u8,x8⟩:=id V5;have m5:nb (det n (fun a c=>A (σ a) c)) K:=by
  have:=hB σ neg n r (n-1) 0 0 om om;rw[c8,(om:n-1+1=n)]at this
  exact this
 have hdet:=r.sign
 cases neg with
 | true =>
  simp -dsimp only[go_sem,aa,u,x,d,f,cN,u8,x8];refine(rY m5 om).call ?_;simp only[go_sem,aa,o,L,x8];have e:-det n (fun a c=>A (σ a) c)=det n A:=by rw[hdet];simp
  simp only[bR,aO];rw[e];exact VR.mf rfl
 | false =>
  simp -dsimp only[go_sem,aa,u,x,d,f,cN,u8,x8];refine(qV m5 om).call ?_;simp only[go_sem,aa,o,L,x8];have e:det n (fun a c=>A (σ a) c)=det n A:=by rw[hdet];simp
  simp only[bR,aO];rw[e];exact VR.mf rfl
def Ni(n K:Nat)(A:aJ)(c:1<=n)(d:n<=16)(e:1<=K)(f:K<=1000000)(g:∀σ neg k,nv A n σ neg k->∀k' i j,k'+i<n->k'+j<n->nb (cM (fun a b=>A (σ a) b) k' i j) K):PF 79 [aQ n n A] (.tup [.big (det n A),.bool true]):=by
 refine iQ func79 ntmps79 results79 ?_;simp -dsimp only[go_sem,aQ,a8];refine aG.intro fun h m=>?_
 try simp -dsimp only[go_sem]
 refine(kN n n A c d c d).call ?_;simp -dsimp only[go_sem,aa,show((n:Int) != n)=false by simp]
 refine(zw n K A c d e f g).call ?_;simp only[go_sem,aa,bR];exact VR.tup (l:=[.big (det n A),.bool true]) (by simp[pq])
def Nj(n K:Nat)(A:aJ)(d:1<=n)(e:n<=16)(c:1<=K)(f:K<=1000000)(_hd:det n A≠0)(g:∀σ neg k,nv A n σ neg k->∀k' i j,k'+i<n->k'+j<n->nb (cM (fun a b=>A (σ a) b) k' i j) K):PF 79 [aQ n n A] (.tup [.big (det n A),.bool true]):=Ni n K A d e c f g

end Go.Proofs.YtdobfmlmenaajaaGreatDoor
