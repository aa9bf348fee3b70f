/-
  Lemmas for NeighbourRaw.
-/
import Derived.Test.YtdobfmlmenaajaaGreatDoorH18
namespace Go.Proofs.YtdobfmlmenaajaaGreatDoor
open Go.RowKit Tryz
open _root_.Int renaming tmod→fo,reduceBEq→CU
open _root_.Option renaming none→ab
set_option maxHeartbeats 6400000
set_option maxRecDepth 4096
set_option linter.all false
attribute [local go_sem] Nat.reduceAdd Nat.reduceEqDiff Nat.reduceLeDiff Nat.reduceLT reduceCtorEq Int.ofNat_lt decide_true decide_false Int.zero_le_ofNat
attribute [local go_sem ↓] reduceIte
variable{Q:AX->Tm->St->Prop}{D a m q z:Int}{args:List AV}{N b bt c i n p:Nat}{g2:Nat->AV}{f:Nat->Int}{g:Nat->Nat}{S S' S0:St}{O:Tm}{A H R:aI}
def iQ(S:St)(bt N:Nat):Prop:=∃(L:Nat) (nums:Nat->Int) (k:Nat) (g:Nat->AV),S bt=some ⟨107,1,2,g⟩/\g 0=.lst 1 L (fun i=>.int .i8 (nums i))/\g 1=.int .i64 k/\k<=N/\∀i,i<L->-128<=nums i/\nums i<=127
def iQ.upd(h:iQ S bt N)(a:bt≠c)(X:eS):iQ (S.upd c X) bt N:=by
 obtain⟨L,nums,k,g,b,d⟩:=h;exact⟨L,nums,k,g,by rw[aO a];exact b,d⟩
def iQ.step(h:iQ S bt N)(a:S' bt=S bt):iQ S' bt N:=by
 obtain⟨L,nums,k,g,b,c⟩:=h;exact⟨L,nums,k,g,by rw[a];exact b,c⟩
def iQ.mono{M:Nat}(h:iQ S bt N)(e:N<=M):iQ S bt M:=by
 obtain⟨L,nums,k,g,a,b,c,f,d⟩:=h;exact⟨L,nums,k,g,a,b,c,om,d⟩
def iQ.ne{ty es:Nat}{g:Nat->AV}(h:iQ S bt N)(a:S b=some ⟨ty,es,n,g⟩)(c:ty≠107):bt≠b:=by
 obtain⟨_,_,_,_,d,_⟩:=h;rintro rfl;rw[d]at a;cases a;exact c rfl
def iQ.fresh(h:iQ S bt N)(a:S c=ab):bt≠c:=by
 obtain⟨_,_,_,_,b,_⟩:=h;rintro rfl;rw[b]at a;cases a
def wI(S:St)(bt N:Nat)(h:iQ S bt N)(m:N<=1000):cP 77 [.ptr 1 bt 0] S (fun r S'=>∃z:Int,(-128<=z/\z<=127)/\r=.int .i64 z/\iQ S' bt (N+1)/\∀d,d≠bt->S' d=S d):=by
 refine i9 func77 ntmps77 results77 ?_;obtain⟨L,nums,k,g,e,c,f,n,a⟩:=h;simp -dsimp only[go_sem];refine bE 10 kr ?_
 by_cases i:L<=k
 .simp only[*,go_sem,aa,kH];exact⟨0,om,om,rfl,⟨L,nums,k,g,e,c,f,om,a⟩,fun _ _=>trivial⟩
 .simp -dsimp only[*,go_sem,aa,kH,aP (om:k<1000000)]
  refine bE 13 kr ?_
  have o:IntKind.i64.wrap (((k+1:Nat):Int)-1)=(k:Nat):=dW om om;have b:k<L:=om
  have p:=a k b;have j:IntKind.i64.wrap (nums k)=nums k:=i64_in om om;simp only[*,go_sem,aa,bW];refine⟨nums k,om,om,rfl,⟨L,nums,k+1,_,cn,?_,?_,om,a⟩,fun d l=>aO l⟩
  .simp[bW,c]
  .simp[bW]
def tn(S:St)(bt N m:Nat)(h:iQ S bt N)(c:N<=1000)(j:1<=m)(e:m<=100):cP 150 [.ptr 1 bt 0,.int .i64 m] S (fun r S'=>∃z:Nat,z<m/\r=.int .i64 z/\iQ S' bt (N+1)/\∀d,d≠bt->S' d=S d):=by
 refine i9 func150 ntmps150 results150 ?_;simp -dsimp only[go_sem,aa];refine(wI S bt N h c).mono ?_;rintro r S' ⟨z,k,rfl,f,g⟩;have a:∃y:Nat,y<256/\IntKind.u8.wrap z=y:=by
  rw[IntKind.wrap_u8];exact⟨(z%256).toNat,om,om⟩
 obtain⟨y,l,a⟩:=a;have i:IntKind.i64.wrap (y:Int)=y:=i64_in om om;have b:¬((m:Int)=0):=om
 simp only[go_sem,a,i,b];refine⟨y%m,dj _ om,?_,f,g⟩;rw[qQ]
def Ou(S0 S:St)(bt:Nat):Prop:=∀d X,S0 d=some X->d≠bt->S d=some X
def CY(n most:Nat)(A:aI):Prop:=∀i,i<n->(1<=A i i/\A i i<=most)/\∀j,j<n->j≠i->A i j=0
def DgI(S0 S:St)(b bt N n most i:Nat):Prop:=∃(g:Nat->Nat) (A:aI),bM S b 29 1 n (fun a=>if a<i then .sl 1 (g a) 0 n else .nil)/\(∀a,a<i->qr S (g a) n (A a)/\S0 (g a)=ab)/\(∀a c,a<i->c<i->g a=g c->a=c) /\
 iQ S bt (N+i)/\Ou S0 S bt/\S0 b=ab/\∀a,a<i->(1<=A a a/\A a a<=most)/\∀j,j<n->j≠a->A a j=0
def Ou.upd(h:Ou S0 S bt)(b:S0 c=ab)(X:eS):Ou S0 (S.upd c X) bt:=fun d Y a e=>by
 have:d≠c:=by rintro rfl;rw[b]at a;cases a
 rw[aO this];exact h d Y a e
def Ou.none(h:Ou S0 S bt)(a:S c=ab)(b:bt≠c):S0 c=ab:=by
 cases e:S0 c with
 | none=>rfl
 | some X=>rw[h c X e (aj b)]at a;cases a
def Ou.step(h:Ou S0 S bt)(b:∀d,d≠bt->S' d=S d):Ou S0 S' bt:=fun d X c a=>by rw[b d a];exact h d X c a
def ms(S0:St)(bt N n most:Nat)(P:iQ S0 bt N)(hN:N+n<=900)(U:1<=most)(y:most<=100):cP 151 [.ptr 1 bt 0,.int .i64 n,.int .i64 most] S0 (fun r S'=>∃b g A,r=.sl 1 b 0 n/\eI S' b g n n A/\iQ S' bt (N+n)/\Ou S0 S' bt/\CY n most A/\S0 b=ab/\∀a,a<n->S0 (g a)=ab):=by
 refine i9 func151 ntmps151 results151 ?_;simp -dsimp only[go_sem]
 repeat refine an ?_
 refine aF.intro fun o B=>?_;simp only[go_sem];have C:=P.fresh B;refine aH (fun O S=>∃i:Nat,i<=n/\O 0=.ptr 1 bt 0/\O 1=.int .i64 n/\O 2=.int .i64 most/\O 7=.sl 1 o 0 n/\O 12=.int .i64 n/\O 13=.int .i64 i/\DgI S0 S o bt N n most i) (fun O S=>n-cj (O 13)) ?_ ?_
 .simp only[go_sem];exact⟨0,om,rfl,fun _=>0,fun _ _=>0,bM.here fun _ _=>by simp,fun a k=>om,fun a c k=>om,P.upd C _,(fun d X D _=>by rw[aO (fun e=>by rw[e,B]at D;cases D)];exact D),B,fun a k=>om⟩
 .rintro O S ⟨i,hi,e0,V,e2,W,E,F,g,A,Q,v,Y,m,s,t,R⟩;by_cases G:i<n
  .simp -dsimp only[*,go_sem,aa]
   repeat refine an ?_
   refine aF.intro fun f l=>?_;obtain⟨T,H,Z⟩:=Q;have p:o≠f:=fun e=>by rw[<-e,H]at l;cases l
   have q:bt≠o:=m.ne H om;have h:bt≠f:=m.fresh l;have u:S0 f=ab:=s.none l h;simp -dsimp only[*,go_sem];refine fH 7 [[0,1,2,3,4]] kr ?_
   simp -dsimp only[*,go_sem,aa,bW];have I:iQ ((S.upd f ⟨2,1,n,fun _=>.int .i64 0⟩).upd o ⟨29,1,n,bW T i (.sl 1 f 0 n)⟩) bt (N+i):=(m.upd h _).upd q _;refine(tn _ bt (N+i) most I om U y).mono ?_;rintro r S2 ⟨z,hz,rfl,J,w⟩;have k7:S2 o=some ⟨29,1,n,bW T i (.sl 1 f 0 n)⟩:=by rw[w o (aj q)];exact cn
   have k18:S2 f=some ⟨2,1,n,fun _=>.int .i64 0⟩:=by rw[w f (aj h),aO (aj p)];exact cn
   have hw:IntKind.i64.wrap (1+(z:Int))=((z+1:Nat):Int):=dW om om;simp only[*,go_sem,aa,bW,aP (om:i<1000000),cj]
   refine⟨⟨i+1,om,rfl,fun a=>if a=i then f else g a,fun a c=>if a=i then(if c=i then((z+1:Nat):Int)else 0)else A a c,(bM.of k7).upd p _ |>.congr fun a k=>?_,fun a k=>?_,fun a c k hc e=>?_,J.upd h _,(((s.upd u _).upd t _).step w).upd u _,t,fun a k=>?_⟩,om⟩
   .have:=Z a k;simp only[bW];grind
   .by_cases e:a=i
    .subst e;simp only[aQ];refine⟨bM.here fun c hc=>?_,u⟩;simp only[bW];split<;>rfl
    .simp only[e,aS];obtain⟨x,r2⟩:=v a om;have K:g a≠f:=bM.fresh x l;have q2:g a≠o:=bM.ne x (bM.of H) om;have q3:g a≠bt:=by obtain⟨gg,L,_⟩:=x;exact aj (m.ne L om)
     refine⟨(x.via fun X hX=>?_).upd K _,r2⟩;rw[w _ q3,aO q2,aO K];exact hX
   .have K:∀a,a<i->g a≠f:=fun a k=>bM.fresh (v a k).1 l
    grind
   .by_cases e:a=i
    .subst e;refine⟨by simp only[aQ];omega,fun j hj M=>by simp[M]⟩
    .simp only[e,aS];exact R a om
  .obtain rfl:i=n:=om
   simp only[go_sem,aa,V,W,E,F,G];exact⟨o,rfl,g,A,⟨Q.congr fun a k=>by simp[k],fun a k=>(v a k).1,Y⟩,m,s,R,t,fun a k=>(v a k).2⟩

structure TI(n most:Nat)(A:aI):Prop where
 sym:∀a c,a<n->c<n->A a c=A c a
 diag:∀a,a<n->1<=A a a/\A a a<=most
 small:∀a c,a<n->c<n->-9<=A a c/\A a c<=9
def TU(S0 S:St)(b bt N n:Nat)(Q:aI->Prop):Prop:=∃(g:Nat->Nat) (A:aI),eI S b g n n A/\iQ S bt N/\Ou S0 S bt/\S0 b=ab/\(∀a,a<n->S0 (g a)=ab)/\Q A
def tmod3(z:Int):-2<=z.tmod 3/\z.tmod 3<=2:=by
 have c:=tH (a:=z) (b:=3) om;omega
def DP(S0:St)(bt N n:Nat)(hT:iQ S0 bt N)(Z:n<=8)(hN:N<=500):cP 148 [.ptr 1 bt 0,.int .i64 n] S0 (fun r S'=>∃b,r=.sl 1 b 0 n/\TU S0 S' b bt (N+n+n*n) n (TI n 6)):=by
 refine i9 func148 ntmps148 results148 ?_;have hnn:n*n<=64:=a9 Z Z;simp -dsimp only[go_sem,aa];refine(ms S0 bt N n 6 hT om om om).mono ?_;rintro r S1 ⟨b,g,A,rfl,o,l,p,x,q,m⟩;simp only[go_sem];refine aH (fun O S=>∃i:Nat,i<=n/\O 0=.ptr 1 bt 0/\O 5=.sl 1 b 0 n/\O 12=.int .i64 n/\O 13=.int .i64 i/\TU S0 S b bt (N+n+i*n) n (TI n 6)) (fun O S=>n-cj (O 13)) ?_ ?_
 .simp only[go_sem];refine⟨0,om,rfl,g,A,o,l.mono om,p,q,m,fun a c h u=>?_,fun a h=>(x a h).1,fun a c h u=>?_⟩
  .by_cases e:a=c
   .rw[e]
   .rw[(x a h).2 c u (aj e),(x c u).2 a h e]
  .by_cases e:c=a
   .have:=(x a h).1;rw[e];omega
   .rw[(x a h).2 c u e];omega
 .clear o l p x q m;rintro O S ⟨i,hi,e0,H,y,B,I⟩;by_cases d:i<n
  .have hin:i*n+n<=n*n:=by rw[<-cW];exact aB _ d
   simp only[*,go_sem];refine aH (fun O S=>∃k:Nat,k<=i/\O 0=.ptr 1 bt 0/\O 5=.sl 1 b 0 n/\O 6=.int .i64 i/\O 7=.int .i64 k/\O 12=.int .i64 n/\O 13=.int .i64 i/\TU S0 S b bt (N+n+i*n+k) n (TI n 6)) (fun O S=>i-cj (O 7)) ?_ ?_
   .simp only[*,go_sem];exact⟨0,om,rfl,I⟩
   .clear I;rintro O S ⟨k,hk,e0,H,e6,e7,y,B,g,A,o,l,p,q,m,G⟩;by_cases hki:k<i
    .have f:k<n:=om
     obtain⟨C,J,D⟩:=o.outer;obtain⟨gi,ui,vi⟩:=o.row i d;have w1:C i=.sl 1 (g i) 0 n:=D i d;have w2:C k=.sl 1 (g k) 0 n:=D k f;simp -dsimp only[*,go_sem];refine fH 6 [[0,1,2,3,4]] kr ?_
     simp -dsimp only[*,go_sem,aa];refine(wI S bt _ l om).mono ?_;rintro r S2 ⟨z,hz,rfl,K,v⟩;have L:bt≠b:=l.ne J om;have w:∀a,a<n->g a≠bt:=fun a h=>by obtain⟨gg,M,_⟩:=o.row a h;exact aj (l.ne M om)
     have s:eI S2 b g n n A:=⟨o.outer.via fun X P=>by rw[v b (aj L)];exact P,fun a h=>(o.row a h).via fun X P=>by rw[v _ (w a h)];exact P,o.inj⟩
     obtain⟨C,J,D⟩:=s.outer;obtain⟨gi,ui,vi⟩:=s.row i d;have w1:C i=.sl 1 (g i) 0 n:=D i d;have w2:C k=.sl 1 (g k) 0 n:=D k f;have hz3:=tmod3 z;simp -dsimp only[go_sem,aa,H,e6,e7,d,f,J,w1,ui,show ¬((3:Int)=0) by decide]
     have t:=s.set (j:=k) (z:=z.tmod 3) d ui;have hMi:=s.outer_ne d;obtain⟨E,Q,F⟩:=t.outer;obtain⟨gi',ui',vi'⟩:=t.row i d;obtain⟨gk',uk',vk'⟩:=t.row k f;have R:E i=.sl 1 (g i) 0 n:=F i d;have T:E k=.sl 1 (g k) 0 n:=F k f;have U:gi' k=.int .i64 (z.tmod 3):=by rw[vi' k f];simp[fu]
     have hki':g i≠g k:=fun e=>by have:=o.inj i k d f e;omega
     have V:=K.upd (aj (w i d)) ⟨2,1,n,bW gi k (.int .i64 (z.tmod 3))⟩;have W:=(p.step v).upd (m i d) ⟨2,1,n,bW gi k (.int .i64 (z.tmod 3))⟩;generalize S2.upd (g i) ⟨2,1,n,bW gi k (.int .i64 (z.tmod 3))⟩=S3 at *;simp -dsimp only[*,go_sem];refine bE 13 kr ?_
     simp only[go_sem,aa,e0,H,e6,e7,y,B,d,f,Q,R,T,ui',U,uk',aP (om:k<1000000),cj]
     have Y:=t.set (j:=i) (z:=z.tmod 3) f uk';refine⟨⟨k+1,om,rfl,g,_,Y,V.upd (aj (w k f)) _,W.upd (m k f) _,q,m,fun a c h u=>?_,fun a h=>?_,fun a c h u=>?_⟩,om⟩
     .have:=G.sym a c h u;simp only[fu];grind
     .have:=G.diag a h;simp only[fu];rw[af om,af om];exact this
     .have:=G.small a c h u;simp only[fu];split
      .omega
      .split
       .omega
       .exact this
    .simp only[*,go_sem,aP (om:i<1000000),cj]
     exact⟨⟨i+1,om,rfl,g,A,o,l.mono (by rw[cW];omega),p,q,m,G⟩,om⟩
  .obtain rfl:i=n:=om
   simp only[*,go_sem];exact⟨b,rfl,I⟩

structure El(S:St)(b:Nat)(g:Nat->Nat)(n i:Nat)(A:aI):Prop where
 outer:bM S b 29 1 n (fun a=>if a<i then .sl 1 (g a) 0 n else .nil)
 row:∀a,a<i->qr S (g a) n (A a)
 inj:∀a c,a<i->c<i->g a=g c->a=c
def El.outer_ne(h:El S b g n i A){a:Nat}(c:a<i):b≠g a:=bM.ne h.outer (h.row a c) om
def El.set(h:El S b g n i A){a j:Nat}{z:Int}{g':Nat->AV}(k:a<i)(m:S (g a)=some ⟨2,1,n,g'⟩):El (S.upd (g a) ⟨2,1,n,bW g' j (.int .i64 z)⟩) b g n i (fu A a j z):=by
 refine⟨h.outer.upd (h.outer_ne k) _,fun c d=>?_,h.inj⟩;by_cases e:c=a
 .subst e;obtain⟨r,l,o⟩:=h.row c d;rw[m]at l;cases l;refine bM.here fun t p=>?_;have:=o t p;simp only[bW,fu]
  grind
 .have f:g c≠g a:=fun q=>e (h.inj c a d k q);refine((h.row c d).upd f _).congr fun t _=>?_;simp[fu,e]
def El.new(h:El S b g n i A){c:Nat}(v:i<n)(k:S c=ab){m:Nat->AV}(o:S b=some ⟨29,1,n,m⟩)(s:∀j,j<n->A i j=0) :
  El ((S.upd c ⟨2,1,n,fun _=>.int .i64 0⟩).upd b ⟨29,1,n,bW m i (.sl 1 c 0 n)⟩) b (fun a=>if a=i then c else g a) n (i+1) A:=by
 have l:b≠c:=fun e=>by rw[<-e,o]at k;cases k
 obtain⟨w,p,t⟩:=h.outer;rw[o]at p;cases p;refine⟨bM.here fun a f=>?_,fun a f=>?_,fun a d f x e=>?_⟩
 .have:=t a f;simp only[bW];grind
 .by_cases e:a=i
  .subst e;simp only[aQ];exact(bM.here fun j u=>by rw[s j u]).upd (aj l) _
  .simp only[e,aS];have r:=h.row a om;exact(r.upd (bM.fresh r k) _).upd (aj (h.outer_ne om)) _
 .have q:∀a,a<i->g a≠c:=fun a f=>bM.fresh (h.row a f) k;have:=h.inj
  grind
structure TZ(n i:Nat)(A:aI):Prop where
 sym:∀a c,A a c=A c a
 out:∀a c,i<=a∨i<=c->A a c=0
 diag:∀a,a<i->A a a=2
 small:∀a c,-9<=A a c/\A a c<=9
def ChI(S0 S:St)(b n i:Nat):Prop:=∃(g:Nat->Nat) (A:aI),El S b g n i A/\TZ n i A/\ft S0 S/\S0 b=ab/\∀a,a<i->S0 (g a)=ab
def TZ.next0(h:TZ n i A):TZ n (i+1) (fu A i i 2):=by
 refine⟨fun a c=>?_,fun a c b=>?_,fun a d=>?_,fun a c=>?_⟩
 .have:=h.sym a c;simp only[fu];grind
 .simp only[fu];rw[af om];exact h.out a c om
 .simp only[fu];by_cases e:a=i
  .simp[e]
  .rw[af om];exact h.diag a om
 .have:=h.small a c;simp only[fu];split
  .omega
  .exact this
def TZ.next{m:Nat}(h:TZ n i A)(f:m<i):TZ n (i+1) (fu (fu (fu A i i 2) i m (-1)) m i (-1)):=by
 have b:=h.next0;refine⟨fun a c=>?_,fun a c d=>?_,fun a e=>?_,fun a c=>?_⟩
 .have:=b.sym a c;simp only[fu]at this ⊢;grind
 .have:=b.out a c d;simp only[fu]at this ⊢;grind
 .have:=b.diag a e;simp only[fu]at this ⊢;grind
 .have:=b.small a c;simp only[fu]at this ⊢;grind
def Ax(S0:St)(n:Nat)(fork:Bool)(hn:n<=8):cP 149 [.int .i64 n,.bool fork] S0 (fun r S'=>∃b,r=.sl 1 b 0 n/\ChI S0 S' b n n):=by
 refine i9 func149 ntmps149 results149 ?_;simp -dsimp only[go_sem]
 repeat refine an ?_
 refine aF.intro fun N f5=>?_;simp only[go_sem];refine aH (fun O S=>∃i:Nat,i<=n/\O 0=.int .i64 n/\O 1=.bool fork/\O 5=.sl 1 N 0 n/\O 11=.int .i64 n/\O 12=.int .i64 i/\ChI S0 S N n i) (fun O S=>n-cj (O 12)) ?_ ?_
 .simp only[go_sem];exact⟨0,om,rfl,fun _=>0,fun _ _=>0,⟨bM.here fun _ _=>by simp,fun a X=>om,fun a c X=>om⟩,⟨fun _ _=>rfl,fun _ _ _=>rfl,fun a X=>om,fun _ _=>om⟩,(ft.refl S0).upd f5 _,f5,fun a X=>om⟩
 .rintro O S ⟨i,hi,Y,T,Z,I,J,g,A,y,K,L,v,G⟩;by_cases p:i<n
  .obtain⟨U,M,v1⟩:=y.outer;simp -dsimp only[*,go_sem,aa]
   repeat refine an ?_
   refine aF.intro fun B o=>?_;have k:N≠B:=fun e=>by rw[<-e,M]at o;cases o
   have hM1:=y.new p o M (fun j _=>K.out i j om);have hE1:=(L.upd (L.none o) ⟨2,1,n,fun _=>.int .i64 0⟩).upd v ⟨29,1,n,bW U i (.sl 1 B 0 n)⟩;have hw1:IntKind.i64.wrap ((i:Int)-1)=(i:Int)-1:=i64_in om om;have hw2:IntKind.i64.wrap ((i:Int)-2)=(i:Int)-2:=i64_in om om;have C:IntKind.i64.wrap ((n:Int)-1)=(n:Int)-1:=i64_in om om;have D:∀a,a<i+1->S0 ((fun a=>if a=i then B else g a) a)=ab:=fun a X=>by
    by_cases e:a=i
    .simp only[e,aQ];exact L.none o
    .simp only[e,aS];exact G a om
   have w:=hM1.set (a:=i) (j:=i) (z:=2) (g':=fun _=>.int .i64 0) om (by simp only[aQ];rw[aO (aj k)];exact cn)
   simp only[aQ]at w;have E:=hE1.upd (L.none o) ⟨2,1,n,bW (fun _=>.int .i64 0) i (.int .i64 2)⟩;by_cases hB:fork=true/\i+1=n/\3<n
   .obtain⟨rfl,V,h3⟩:=hB;obtain⟨m,hm⟩:∃m,i=m+2:=⟨i-2,om⟩
    have P:((i:Int)==(n:Int)-1)=true:=by simp;omega
    have q2:(3:Int)<(n:Int):=om
    have H:IntKind.i64.wrap ((i:Int)-2)=(m:Nat):=dW om om;simp -dsimp only[go_sem,p,nn k,M,bW,C,hw1,P,q2,H];have q:m<n:=om
    have l:=w.set (a:=i) (j:=m) (z:=-1) (g':=bW (fun _=>.int .i64 0) i (.int .i64 2)) om (by simp only[aQ];exact cn)
    simp only[aQ]at l;obtain⟨gm,um,vm⟩:=l.row m om;have d:m≠i:=om
    simp only[d,aS]at um vm;have s:=l.set (a:=m) (j:=i) (z:=-1) (g':=gm) om (by simp only[d,aS];exact um)
    simp only[d,aS]at s;have wm:U m=.sl 1 (g m) 0 n:=by rw[v1 m q];simp only[];rw[ai om]
    have f:g m≠B:=bM.fresh (y.row m om) o;have t:g m≠N:=aj (y.outer_ne om);obtain⟨F,u,Q⟩:=y.row m om;obtain rfl:F=gm:=by
     rw[aO f,aO f,aO t,aO f,u]at um;cases um;rfl
    refine g9 11 kr ?_
    simp only[go_sem,aa,Y,T,Z,I,J,p,k,bW,q,wm,f,t,u,d,aP (om:i<1000000),cj]
    exact⟨⟨i+1,om,rfl,_,_,s,K.next om,(E.upd (L.none o) _).upd (G m om) _,v,D⟩,om⟩
   .cases R:fork with
    | false =>
     rw[R]at T;rcases a6 i with x|x
     .have H:IntKind.i64.wrap ((i:Int)-1)=-1:=by rw[x];decide
      have W:¬((0:Int)<=-1):=by decide
      simp only[go_sem,p,nn k,M,bW,C,H,W,aP (om:i<1000000),cj]
      exact⟨⟨i+1,om,rfl,_,_,w,K.next0,E,v,D⟩,om⟩
     .obtain⟨m,hm⟩:∃m,i=m+1:=⟨i-1,om⟩
      have H:IntKind.i64.wrap ((i:Int)-1)=(m:Nat):=dW om om;simp -dsimp only[go_sem,p,nn k,M,bW,C,H];have q:m<n:=om
      have l:=w.set (a:=i) (j:=m) (z:=-1) (g':=bW (fun _=>.int .i64 0) i (.int .i64 2)) om (by simp only[aQ];exact cn)
      simp only[aQ]at l;obtain⟨gm,um,vm⟩:=l.row m om;have d:m≠i:=om
      simp only[d,aS]at um vm;have s:=l.set (a:=m) (j:=i) (z:=-1) (g':=gm) om (by simp only[d,aS];exact um)
      simp only[d,aS]at s;have wm:U m=.sl 1 (g m) 0 n:=by rw[v1 m q];simp only[];rw[ai om]
      have f:g m≠B:=bM.fresh (y.row m om) o;have t:g m≠N:=aj (y.outer_ne om);obtain⟨F,u,Q⟩:=y.row m om;obtain rfl:F=gm:=by
       rw[aO f,aO f,aO t,aO f,u]at um;cases um;rfl
      refine g9 11 kr ?_
      simp only[go_sem,aa,Y,T,Z,I,J,p,k,bW,q,wm,f,t,u,d,aP (om:i<1000000),cj]
      exact⟨⟨i+1,om,rfl,_,_,s,K.next om,(E.upd (L.none o) _).upd (G m om) _,v,D⟩,om⟩
    | true =>
     rw[R]at T;by_cases V:i+1=n
     .have P:((i:Int)==(n:Int)-1)=true:=by simp;omega
      have h3:¬3<n:=fun h=>hB ⟨R,V,h⟩;have q2:¬(3:Int)<(n:Int):=om
      rcases a6 i with x|x
      .have H:IntKind.i64.wrap ((i:Int)-1)=-1:=by rw[x];decide
       have W:¬((0:Int)<=-1):=by decide
       simp only[go_sem,p,nn k,M,bW,C,P,q2,H,W,aP (om:i<1000000),cj]
       exact⟨⟨i+1,om,rfl,_,_,w,K.next0,E,v,D⟩,om⟩
      .obtain⟨m,hm⟩:∃m,i=m+1:=⟨i-1,om⟩
       have H:IntKind.i64.wrap ((i:Int)-1)=(m:Nat):=dW om om;simp -dsimp only[go_sem,p,nn k,M,bW,C,P,q2,H];have q:m<n:=om
       have l:=w.set (a:=i) (j:=m) (z:=-1) (g':=bW (fun _=>.int .i64 0) i (.int .i64 2)) om (by simp only[aQ];exact cn)
       simp only[aQ]at l;obtain⟨gm,um,vm⟩:=l.row m om;have d:m≠i:=om
       simp only[d,aS]at um vm;have s:=l.set (a:=m) (j:=i) (z:=-1) (g':=gm) om (by simp only[d,aS];exact um)
       simp only[d,aS]at s;have wm:U m=.sl 1 (g m) 0 n:=by rw[v1 m q];simp only[];rw[ai om]
       have f:g m≠B:=bM.fresh (y.row m om) o;have t:g m≠N:=aj (y.outer_ne om);obtain⟨F,u,Q⟩:=y.row m om;obtain rfl:F=gm:=by
        rw[aO f,aO f,aO t,aO f,u]at um;cases um;rfl
       refine g9 11 kr ?_
       simp only[go_sem,aa,Y,T,Z,I,J,p,k,bW,q,wm,f,t,u,d,aP (om:i<1000000),cj]
       exact⟨⟨i+1,om,rfl,_,_,s,K.next om,(E.upd (L.none o) _).upd (G m om) _,v,D⟩,om⟩
     .have P:((i:Int)==(n:Int)-1)=false:=by simp;omega
      rcases a6 i with x|x
      .have H:IntKind.i64.wrap ((i:Int)-1)=-1:=by rw[x];decide
       have W:¬((0:Int)<=-1):=by decide
       simp only[go_sem,p,nn k,M,bW,C,P,H,W,aP (om:i<1000000),cj]
       exact⟨⟨i+1,om,rfl,_,_,w,K.next0,E,v,D⟩,om⟩
      .obtain⟨m,hm⟩:∃m,i=m+1:=⟨i-1,om⟩
       have H:IntKind.i64.wrap ((i:Int)-1)=(m:Nat):=dW om om;simp -dsimp only[go_sem,p,nn k,M,bW,C,P,H];have q:m<n:=om
       have l:=w.set (a:=i) (j:=m) (z:=-1) (g':=bW (fun _=>.int .i64 0) i (.int .i64 2)) om (by simp only[aQ];exact cn)
       simp only[aQ]at l;obtain⟨gm,um,vm⟩:=l.row m om;have d:m≠i:=om
       simp only[d,aS]at um vm;have s:=l.set (a:=m) (j:=i) (z:=-1) (g':=gm) om (by simp only[d,aS];exact um)
       simp only[d,aS]at s;have wm:U m=.sl 1 (g m) 0 n:=by rw[v1 m q];simp only[];rw[ai om]
       have f:g m≠B:=bM.fresh (y.row m om) o;have t:g m≠N:=aj (y.outer_ne om);obtain⟨F,u,Q⟩:=y.row m om;obtain rfl:F=gm:=by
        rw[aO f,aO f,aO t,aO f,u]at um;cases um;rfl
       refine g9 11 kr ?_
       simp only[go_sem,aa,Y,T,Z,I,J,p,k,bW,q,wm,f,t,u,d,aP (om:i<1000000),cj]
       exact⟨⟨i+1,om,rfl,_,_,s,K.next om,(E.upd (L.none o) _).upd (G m om) _,v,D⟩,om⟩
  .obtain rfl:i=n:=om
   simp only[*,go_sem,aa];exact⟨N,rfl,g,A,y,K,L,v,G⟩

def nb9(h:-9<=z/\z<=9):nb z 4:=by unfold nb;omega
def Rs(h:-9<=z/\z<=9):qN z:=by unfold qN;omega
def JR(n:Nat)(A:aI)(d:1<=n)(l:n<=8)(m:∀a c,a<n->c<n->A a c=A c a)(o:∀a c,a<n->c<n->-9<=A a c/\A a c<=9)(β:Bool)(hβ:β=true↔(∀k,k<=n->0<det k A)/\det n A<=10000):PF 152 [az n n A] (.bool β):=by
 refine iH func152 ntmps152 results152 ?_;have b:∀i j,i<n->j<n->nb (A i j) 4:=fun i j f g=>nb9 (o i j f g);have p:=ou (k:=n) (n:=n) om b (ae _);have q:nb 10000 (17*(4+10)):=dF (by decide:10000<2^14) (cp om om)
 simp -dsimp only[go_sem,aa];refine(uT n n A d om d om (fun i j f g=>Rs (o i j f g))).call ?_;simp -dsimp only[go_sem,aa];rcases iJ (∀k,k<=n->0<det k A)with e|e
 .refine(oG n A 4 d l b om m true (by simp;exact e)).call ?_
  simp -dsimp only[go_sem,aa,show((0:Int)==0)=true from rfl];refine(jA n A 4 d om b om).call ?_;simp -dsimp only[go_sem,aa,show((0:Int)==0)=true from rfl];refine(gJ dc dc).call ?_
  simp -dsimp only[go_sem,aa,show((0:Int)==0)=true from rfl];refine(ni p q om).call ?_;simp only[go_sem,show((0:Int)==0)=true from rfl,D0];have:β=decide (det n A<=10000):=by
   cases β with
   | true=>have:=(hβ.1 rfl).2;simp[this]
   | false =>
    by_cases h:det n A<=10000
    .exact absurd (hβ.2 ⟨e,h⟩) sm
    .simp[h]
  rw[this];exact VR.mf rfl
 .refine(oG n A 4 d l b om m false (by simp only[bJ,UX];exact e)).call ?_
  simp only[go_sem,show((5:Int)==0)=false from rfl];have:β=false:=by
   cases β with
   | false=>rfl
   | true=>exact absurd (hβ.1 rfl).1 e
  rw[this];exact VR.mf rfl
structure Sj(n:Nat)(A:aI):Prop where
 one:1<=n
 five:n<=5
 sym:∀a c,a<n->c<n->A a c=A c a
 pos:∀k,k<=n->0<det k A
 small:det n A<=10000
 diag:∀i,i<n->A i i<=9
 ent:∀a c,a<n->c<n->-9<=A a c/\A a c<=9
def MX(h:∀i,i<n->0<f i/\f i<=2):nR n f<=2^n:=by
 induction n generalizing f with
 | zero=>simp[nR]
 | succ n ih =>
  simp only[nR];have a:=ih (f:=fun i=>f (i+1)) (fun i b=>h (i+1) om);have c:=vW (n:=n) (f:=fun i=>f (i+1)) (fun i b=>(h (i+1) om).1);have d:=cN (h 0 om).2 a (ck c) om;rw[fE];omega
def CY.det{most:Nat}(h:CY n most A){k:Nat}(c:k<=n):det k A=nR k (fun r=>A r r):=by
 have a:=yJ (n:=0) k A (by rw[aD];exact fun r d=>⟨fun j e b=>(h r om).2 j om om,by have:=(h r om).1.1;omega⟩)
 rw[aD]at a;rw[a,show Go.Proofs.YtdobfmlmenaajaaGreatDoor.det 0 _=1 from rfl,sf]
def CY.good(h:CY n 2 A)(l:1<=n)(j:n<=5):Sj n A:=by
 have m:∀k,k<=n->0<Go.Proofs.YtdobfmlmenaajaaGreatDoor.det k A:=fun k o=>by
  rw[h.det o];exact vW fun i d=>by have:=(h i om).1.1;omega
 refine⟨l,j,fun a c b g=>?_,m,?_,fun i d=>by have:=(h i d).1.2;omega,fun a c b g=>?_⟩
 .by_cases e:a=c
  .rw[e]
  .rw[(h a b).2 c g (aj e),(h c g).2 a b e]
 .rw[h.det (ae _)];have p:=MX (n:=n) (f:=fun r=>A r r) (fun i d=>by have:=(h i d).1;constructor<;>omega)
  have q:=iT j;have s:(2:Int)^5=32:=by decide
  omega
 .by_cases e:c=a
  .have:=(h a b).1;rw[e];omega
  .rw[(h a b).2 c g e];omega
def PO(d k L:Nat)(nums:Nat->Int)(Lb:Nat)(base:Nat->AV):AV:=.agg [.int .u8 d,.int .u8 k,.lst 1 L (fun i=>.int .i8 (nums i)),.lst 1 Lb base]
def EIM(f:Nat)(args:List AV)(P:Nat->aI->Prop):Prop:=∀S args',fI S args' args->cP f args' S (fun r S'=>∃b g n A,P n A/\r=.sl 1 b 0 n/\jd S S' b g n n A)
def EIM.of{f:Nat}{P:Nat->aI->Prop}(h:cP f args St.none (fun r S'=>∃b g n A,P n A/\r=.sl 1 b 0 n/\eI S' b g n n A)):EIM f args P:=fun S args' d=>by
 have i:cP f args St.none (fun r S'=>∃b g n A,P n A/\r=.sl 1 b 0 n/\eI S' b g n n A/\Kg S'):=h.less fun r S' ⟨b,g,n,A,c,e,a⟩=>⟨gQ S' b g n,ji S' b g n,b,g,n,A,c,e,a.only.1,a.only.2⟩;refine(i.frame d ?_).mono ?_
 .rintro r S1 ⟨b,g,n,A,_,rfl,_,j⟩;exact⟨rfl,j⟩
 .rintro r S' ⟨S1,⟨b,g,n,A,c,rfl,a,_⟩,k,rfl⟩;exact⟨b,g,n,A,c,rfl,a.join k⟩
def N3{a b c d e r:Code}(P:Tm->St->Prop)(h:∀r' Q',Q'=Q->(∀O S,P O S->Aw r' Q' O S)->Aw (.seq a (.seq b (.seq c (.seq d (.seq e r'))))) Q' O S)(f:∀O S,P O S->Aw r Q O S) :
  Aw (.seq a (.seq b (.seq c (.seq d (.seq e r))))) Q O S:=h r Q rfl f
def DrawI(n:Nat)(O:Tm)(S:St):Prop:=∃(b5 b ps:Nat) (g:Nat->Nat) (A:aI),O 5=.ptr 1 b5 0/\O 6=.int .i64 n/\O 7=.sl 1 b 0 n/\eI S b g n n A/\iQ S b5 ps/\ps<=100/\(∀a c,a<n->c<n->A a c=A c a)/\∀a c,a<n->c<n->-9<=A a c/\A a c<=9
def xJ{z:Nat}{b5 ps:Nat}(e:p<n)(k:z<=3)(f:eI S b g n n A)(h:iQ S b5 ps)(d:g p≠b5)(u:S (g p)=some ⟨2,1,n,g2⟩)(i:∀a c,A a c=A c a)(j:∀a c,-9<=A a c/\A a c<=9) :
  eI (S.upd (g p) ⟨2,1,n,bW g2 p (.int .i64 ((2+z:Nat):Int))⟩) b g n n (fu A p p ((2+z:Nat):Int))/\iQ (S.upd (g p) ⟨2,1,n,bW g2 p (.int .i64 ((2+z:Nat):Int))⟩) b5 ps/\(∀a c,a<n->c<n->fu A p p ((2+z:Nat):Int) a c=fu A p p ((2+z:Nat):Int) c a)/\∀a c,a<n->c<n->-9<=fu A p p ((2+z:Nat):Int) a c/\fu A p p ((2+z:Nat):Int) a c<=9:=by
 refine⟨f.set e u,h.upd (aj d) _,fun a c _ _=>?_,fun a c _ _=>?_⟩
 .have:=i a c;simp only[fu];grind
 .have:=j a c;simp only[fu];split
  .omega
  .exact this
def Oq(M d k L:Nat)(nums:Nat->Int)(Lb:Nat)(base:Nat->AV)(h:1<=M)(hM5:M<=5)(hd:d<256)(hk:k<256)(hnums:∀i,i<L->-128<=nums i/\nums i<=127):EIM 89 [PO d k L nums Lb base,.int .i64 M] (fun n A=>Sj n A/\n<=M):=by
 refine EIM.of ?_;refine i9 func89 ntmps89 results89 ?_;obtain⟨n,hn,hnd⟩:∃n,n=1+d%M/\1+d%M=n:=⟨_,rfl,rfl⟩;have hml:=dj d (om:0<M)
 have V:n<=M:=om
 have W:n<=5:=om
 have hnn:n*n<=25:=a9 W W;have R:IntKind.i64.wrap (d:Int)=(d:Nat):=i64_in om om;have T:fo (d:Int) (M:Int)=((d%M:Nat):Int):=by rw[qQ]
 have U:IntKind.i64.wrap (1+((d%M:Nat):Int))=(n:Nat):=dW om om;have hMz:¬((M:Int)=0):=om
 have w4:fo (k:Int) 8=((k%8:Nat):Int):=by rw[qQ]<;>rfl
 refine N3 (DrawI n) (fun r' Q' _ key=>?_) ?_
 .simp -dsimp only[go_sem,aa,PO,bn,bS,cB,cM];refine aF.intro fun b2 f2=>?_;simp -dsimp only[go_sem,bO,bG];refine aF.intro fun l f5=>?_;have n5_2:=(ag f5).1;have y:iQ ((St.none.upd b2 ⟨24,1,4,fun j=>[AV.int .u8 d,.int .u8 k,.lst 1 L (fun i=>.int .i8 (nums i)),.lst 1 Lb base].getD j .any⟩).upd l ⟨107,1,2,fun j=>[AV.lst 1 L (fun i=>.int .i8 (nums i)),.int .i64 0].getD j .any⟩) l 0:=⟨L,nums,0,_,cn,rfl,rfl,ae _,hnums⟩;obtain⟨q,hq,hq8⟩:∃q:Int,q=((k%8:Nat):Int)/\((q=0∨q=1∨q=2∨q=3)∨q=4∨q=5∨q=6∨q=7):=⟨_,rfl,om⟩
  rw[<-hq]at w4;simp -dsimp only[go_sem,aj n5_2,bO,bG,R,T,U,w4,hMz,show ¬((8:Int)=0) by decide]
  clear hq w4;have Y:∀{A:aI} {m:Nat},m<=9->CY n m A->(∀a c,a<n->c<n->A a c=A c a)/\∀a c,a<n->c<n->-9<=A a c/\A a c<=9:=by
   intro A m hm G;refine⟨fun a c o hc=>?_,fun a c o hc=>?_⟩
   .by_cases e:a=c
    .rw[e]
    .rw[(G a o).2 c hc (aj e),(G c hc).2 a o e]
   .by_cases e:c=a
    .have:=(G a o).1;rw[e];omega
    .rw[(G a o).2 c hc e];omega
  rcases hq8 with (rfl|rfl|rfl|rfl)|rfl|rfl|rfl|rfl
  case inl.inl|inl.inr.inl|inl.inr.inr.inl|inl.inr.inr.inr =>
   simp -dsimp only[go_sem,CU];refine(DP _ l 0 n y om om).mono ?_;rintro r S1 ⟨b,rfl,g,A,D,u,Z,E,F,hP⟩;simp only[go_sem,R,T,U];refine key _ _ ?_;exact⟨l,b,_,g,A,by simp only[go_sem],by simp only[go_sem],by simp only[go_sem],D,u,om,hP.sym,hP.small⟩
  case inr.inl =>
   simp -dsimp only[go_sem,CU];refine(Ax _ n false om).mono ?_;rintro r S1 ⟨b,rfl,g,A,v,H,hE,E,F⟩;have h:eI S1 b g n n A:=⟨v.outer.congr fun a o=>by simp[o],v.row,v.inj⟩
   have w:iQ S1 l 0:=y.step ((hE _ _ cn).trans cn.symm);have t:(0:Nat)<n:=om
   obtain⟨g1,I,v1⟩:=h.outer;obtain⟨g2,u2,v2⟩:=h.row 0 t;have x1:g1 0=.sl 1 (g 0) 0 n:=v1 0 t;have x2:g2 0=.int .i64 2:=by rw[v2 0 t];simp only[H.diag 0 t]
   simp -dsimp only[go_sem,R,T,U];refine fH 6 [[0,1,2,3,4],[0,1],[]] kr ?_
   simp -dsimp only[go_sem,aa,I,u2,x1,x2,show((0:Int)<(n:Int)) by omega,kd]
   repeat refine an ?_
   refine(tn _ l 0 3 w om om om).mono ?_;rintro r S2 ⟨z,hz,rfl,J,s⟩;have B:l≠b:=w.ne I om;have x:∀a,a<n->g a≠l:=fun a o=>by obtain⟨gg,K,_⟩:=h.row a o;exact aj (w.ne K om)
   have N:eI S2 b g n n A:=⟨h.outer.via fun X P=>by rw[s b (aj B)];exact P,fun a o=>(h.row a o).via fun X P=>by rw[s _ (x a o)];exact P,h.inj⟩
   have Q:S2 b=some ⟨29,1,n,g1⟩:=by rw[s b (aj B)];exact I
   have C:S2 (g 0)=some ⟨2,1,n,g2⟩:=by rw[s _ (x 0 t)];exact u2
   have wz:IntKind.i64.wrap (2+(z:Int))=((2+z:Nat):Int):=dW om om;simp only[go_sem,aa,Q,C,x1,x2,wz,show((0:Int)<(n:Int)) by omega,kd]
   repeat refine an ?_
   obtain⟨k1,k2,k3⟩:=xJ (z:=z) t om N J (x 0 t) C H.sym H.small;refine key _ _ ?_;exact⟨l,b,_,g,_,by simp only[go_sem],by simp only[go_sem],by simp only[go_sem],k1,k2,om,k3⟩
  case inr.inr.inl =>
   simp -dsimp only[go_sem,CU];refine(Ax _ n true om).mono ?_;rintro r S1 ⟨b,rfl,g,A,v,H,hE,E,F⟩;have h:eI S1 b g n n A:=⟨v.outer.congr fun a o=>by simp[o],v.row,v.inj⟩
   have w:iQ S1 l 0:=y.step ((hE _ _ cn).trans cn.symm);obtain⟨p,hpn⟩:∃p,n=p+1:=⟨n-1,om⟩
   have t:p<n:=om
   have wp:IntKind.i64.wrap ((n:Int)-1)=(p:Nat):=dW om om;obtain⟨g1,I,v1⟩:=h.outer;obtain⟨g2,u2,v2⟩:=h.row p t;have x1:g1 p=.sl 1 (g p) 0 n:=v1 p t;have x2:g2 p=.int .i64 2:=by rw[v2 p t];simp only[H.diag p t]
   simp -dsimp only[go_sem,R,T,U];refine fH 10 [[0,1,2,3,4,5,6,7,8],[0,1,2,3,5],[]] kr ?_
   simp -dsimp only[go_sem,aa,I,u2,x1,x2,wp,t];refine(tn _ l 0 2 w om om om).mono ?_;rintro r S2 ⟨z,hz,rfl,J,s⟩;have B:l≠b:=w.ne I om;have x:∀a,a<n->g a≠l:=fun a o=>by obtain⟨gg,K,_⟩:=h.row a o;exact aj (w.ne K om)
   have N:eI S2 b g n n A:=⟨h.outer.via fun X P=>by rw[s b (aj B)];exact P,fun a o=>(h.row a o).via fun X P=>by rw[s _ (x a o)];exact P,h.inj⟩
   have Q:S2 b=some ⟨29,1,n,g1⟩:=by rw[s b (aj B)];exact I
   have C:S2 (g p)=some ⟨2,1,n,g2⟩:=by rw[s _ (x p t)];exact u2
   have wz:IntKind.i64.wrap (2+(z:Int))=((2+z:Nat):Int):=dW om om;simp only[go_sem,aa,Q,C,x1,x2,wz,wp,t];obtain⟨k1,k2,k3⟩:=xJ (z:=z) t om N J (x p t) C H.sym H.small;refine key _ _ ?_;exact⟨l,b,_,g,_,by simp only[go_sem],by simp only[go_sem],by simp only[go_sem],k1,k2,om,k3⟩
  case inr.inr.inr.inl =>
   simp -dsimp only[go_sem,CU];refine(ms _ l 0 n 9 y om om om).mono ?_;rintro r S1 ⟨b,g,A,rfl,D,u,Z,G,E,F⟩;have f:=Y om G;simp only[go_sem,R,T,U];refine key _ _ ?_;exact⟨l,b,_,g,A,by simp only[go_sem],by simp only[go_sem],by simp only[go_sem],D,u,om,f⟩
  case inr.inr.inr.inr =>
   simp -dsimp only[go_sem,CU];refine(ms _ l 0 n 1 y om om om).mono ?_;rintro r S1 ⟨b,g,A,rfl,D,u,Z,G,E,F⟩;have f:=Y om G;simp only[go_sem,R,T,U];refine key _ _ ?_;exact⟨l,b,_,g,A,by simp only[go_sem],by simp only[go_sem],by simp only[go_sem],D,u,om,f⟩
 rintro O S ⟨l,b,ps,g,A,e5,e6,e7,D,u,hps,f⟩;simp -dsimp only[go_sem,aa,e7];rcases iJ ((∀k,k<=n->0<det k A)/\det n A<=10000)with hg|hg
 .refine(JR n A om om f.1 f.2 true (by simp only[true_iff];exact hg)).spec (fI.cons D.vr.va fI.nil) ?_
  simp only[go_sem,aa,e5,e6,e7];exact⟨b,g,n,A,⟨om,om,f.1,hg.1,hg.2,fun i hi=>(f.2 i i hi hi).2,f.2⟩,V,rfl,D⟩
 .refine(JR n A om om f.1 f.2 false (by simp only[bJ,UX];exact hg)).spec (fI.cons D.vr.va fI.nil) ?_
  simp -dsimp only[go_sem,aa,e5,e6,e7];refine(ms _ l _ n 2 u om om om).mono ?_;rintro r S9 ⟨b',g',A',rfl,hM',hTp',hFr',hD',_,_⟩;simp only[go_sem];exact⟨b',g',n,A',hD'.good om om,V,rfl,hM'⟩

def Lc(c:0<m):a%m=if a.tmod m<0 then a.tmod m+m else a.tmod m:=by
 have e:=xV a m;have h:=tH (a:=a) (b:=m) om;split
 .refine(px (a:=a) (b:=m) (q:=a.tdiv m-1) (r:=a.tmod m+m) ?_ om om).2;rw[se,sf];omega
 .exact(px (a:=a) (b:=m) (q:=a.tdiv m) (r:=a.tmod m) om om om).2
def Em(d:0<m)(e:m<=1000000000000):PF 35 [.int .i64 a,.int .i64 m] (.int .i64 (a%m)):=by
 refine iH func35 ntmps35 results35 ?_;rw[Lc d];have h:=tH (a:=a) (b:=m) om;by_cases c:a.tmod m<0
 .have f:IntKind.i64.wrap (a.tmod m+m)=a.tmod m+m:=i64_in om om;simp -dsimp only[go_sem,(om:¬(m=0)),c,f]
  exact VR.mf rfl
 .simp -dsimp only[go_sem,(om:¬(m=0)),c]
  exact VR.mf rfl
def pQ{a m:Nat}:fo (a:Int) (m:Int)=((a%m:Nat):Int):=by rw[qQ]
def Is_pf(p:Nat)(t:2<=p)(o:p<=9973)(β:Bool)(hβ:β=true↔∀d,2<=d->d*d<=p->¬p%d=0):PF 240 [.int .i64 p] (.bool β):=by
 refine iH func240 ntmps240 results240 ?_;simp -dsimp only[go_sem,(om:¬((p:Int)<2)),(om:¬((2147483647:Int)<p))]
 refine aH (fun O S=>∃d:Nat,2<=d/\d<=100/\O 0=.int .i64 p/\O 3=.int .i64 d/\∀e,2<=e->e<d->¬p%e=0) (fun O S=>101-cj (O 3)) ?_ ?_
 .simp -dsimp only[go_sem];exact⟨2,om,om,rfl,fun e g n=>om⟩
 .rintro O S ⟨d,q,c,i,j,b⟩;have r:d*d<=100*100:=a9 c c;have k:IntKind.i64.wrap ((d:Int)*d)=((d*d:Nat):Int):=dW (by rw[bD]) om
  have f:¬((d:Int)=0):=om
  by_cases a:d*d<=p
  .have s:d<100:=by
    rcases aC d 100 with h|h
    .exact h
    .have:100*100<=d*d:=a9 h h;omega
   by_cases l:p%d=0
   .simp -dsimp only[go_sem,aa,i,j,k,kH,a,f,pQ,l,show((((0:Nat)):Int)==0)=true from rfl];have:β=false:=by
     cases β with
     | false=>rfl
     | true=>exact absurd l (hβ.1 rfl d q a)
    rw[this];exact VR.mf rfl
   .have m:(((p%d:Nat):Int)==0)=false:=by simp;omega
    simp -dsimp only[go_sem,aa,i,j,k,kH,a,f,pQ,m,aP (om:d<1000000),cj]
    refine⟨⟨d+1,om,om,rfl,fun e g n=>?_⟩,om⟩
    by_cases e':e=d
    .rw[e'];exact l
    .exact b e g om
  .simp -dsimp only[go_sem,aa,i,j,k,kH,a];have:β=true:=hβ.2 fun e g n=>b e g (by
    rcases aC e d with h|h
    .exact h
    .have:=a9 h h;omega)
   rw[this];exact VR.mf rfl
def qL(p:Int):Prop:=3<=p/\p<=9973/\tt p.toNat
def qL.of(h:sH p):qL p:=⟨by have:=h.2.1;omega,by have:=h.2.2;omega,h.1⟩
def qL.nat{p:Int}(h:qL p):∃q:Nat,p=q/\sH q:=⟨p.toNat,by have:=h.1;omega,h.2.2,by have:=h.1;omega,by have:=h.2.1;omega⟩
def LU(p:Int)(a:p<=9973)(β:Bool)(hβ:β=true↔2<=p/\tt p.toNat):PF 240 [.int .i64 p] (.bool β):=by
 by_cases b:p<2
 .refine iH func240 ntmps240 results240 ?_;simp -dsimp only[go_sem,show decide (p<2)=true by simpa using b]
  rw[cL hβ fun h=>om]
  exact VR.mf rfl
 .obtain⟨q,rfl⟩:∃q:Nat,p=q:=⟨p.toNat,om⟩
  exact Is_pf q om om β (by rw[hβ,cC];exact⟨fun h=>h.2.2,fun h=>⟨om,om,h⟩⟩)
def Oj(p:Int)(β:Bool)(hβ:β=true↔qL p):PF 153 [.int .i64 p] (.bool β):=by
 refine iH func153 ntmps153 results153 ?_;by_cases b:p=2
 .subst b;simp -dsimp only[go_sem,aa,show((2:Int) != 2)=false from rfl];rw[cL hβ fun h=>by have:=h.1;omega]
  exact VR.mf rfl
 have c:(p != 2)=true:=by simpa using b
 simp -dsimp only[go_sem,aa,c];refine PF.call (z:=.bool β) (PF.of_spec (Cb func202 rfl 9 ntmps202 kr sm (by simp[results202]) ?_)) ?_
 .rw[lA,results202];by_cases a:p<=9973
  .simp -dsimp only[go_sem,aa,show decide (p<=9973)=true by simpa using a]
   refine(LU p a β (by rw[hβ];unfold qL;constructor<;>intro h<;>(refine⟨om,?_⟩;first|exact h.2.2|exact⟨a,h.2⟩))).call ?_
   simp -dsimp only[go_sem,show decide (p<=9973)=true by simpa using a]
   exact VR.mf rfl
  .simp -dsimp only[go_sem,aa,show decide (p<=9973)=false by simpa using a]
   rw[cL hβ fun h=>a h.2.1];exact VR.mf rfl
 simp -dsimp only[go_sem,c];exact VR.mf rfl
def I2(n:Nat)(H:aI):Prop:=∀i j,i<n->j<n->((H i j).natAbs:Int)<=176000
def I2.nb(h:I2 n H){i j:Nat}(a:i<n)(b:j<n):nb (H i j) 18:=by
 have:=h i j a b;unfold Go.Proofs.YtdobfmlmenaajaaGreatDoor.nb;omega
def I2.r64(h:I2 n H){i j:Nat}(a:i<n)(b:j<n):qN (H i j):=by
 have:=h i j a b;unfold qN;omega
def Oz(n:Nat)(H:aI)(a:1<=n)(e:n<=8)(d:I2 n H)(f:0<det n H/\det n H<=10000):PF 31 [az n n H] (.int .i64 (det n H)):=by
 refine iH func31 ntmps31 results31 ?_;simp -dsimp only[go_sem,aa];refine(uT n n H a om a om (fun i j b c=>d.r64 b c)).call ?_;simp -dsimp only[go_sem,aa];refine(jA n H 18 a om (fun i j b c=>d.nb b c) om).call ?_;simp -dsimp only[go_sem,aa];refine(Cj (by unfold jk;omega)).call ?_
 simp -dsimp only[go_sem];exact VR.mf rfl
def Ep(n:Nat)(p:Int)(H:aI)(b:1<=n)(c:n<=8)(d:I2 n H)(e:0<det n H/\det n H<=10000)(β:Bool)(hβ:β=true↔qL p/\¬det n H%p=0):PF 90 [az n n H,.int .i64 p] (.bool β):=by
 refine iH func90 ntmps90 results90 ?_;simp -dsimp only[go_sem,aa];rcases iJ (qL p)with a|a
 .refine(Oj p true (by simp[a])).call ?_
  have i:=a.1;simp -dsimp only[go_sem,aa];refine(Oz n H b c d e).call ?_;have f:(det n H).tmod p=det n H%p:=aL om;have g:β=(det n H%p != 0):=by
   by_cases h:det n H%p=0
   .rw[h];exact cL hβ fun h'=>h'.2 h
   .rw[hβ.2 ⟨a,h⟩];simp[h]
  simp -dsimp only[go_sem,(om:¬(p=0)),f]
  rw[g];exact VR.mf rfl
 .refine(Oj p false (by simp[a])).call ?_
  simp -dsimp only[go_sem];rw[cL hβ fun h=>a h.1];exact VR.mf rfl
def LN(n p:Nat)(m:n<=8)(k:1<=p)(c:p<=900):PF 91 [.int .i64 n,.int .i64 p] (.bool (decide (p^n<=65536))):=by
 refine iH func91 ntmps91 results91 ?_;simp -dsimp only[go_sem];refine aH (fun O S=>∃i:Nat,i<=n/\p^i<=65536/\O 0=.int .i64 n/\O 1=.int .i64 p/\O 5=.int .i64 ((p^i:Nat):Int)/\O 6=.int .i64 i) (fun O S=>n-cj (O 6)) ?_ ?_
 .simp -dsimp only[go_sem];exact⟨0,om,sm,sm,rfl⟩
 .rintro O S ⟨i,o,b,d,e,f,g⟩;by_cases a:i<n
  .have q:p^i*p<=65536*900:=a9 b c;have j:IntKind.i64.wrap (((p^i:Nat):Int)*p)=((p^(i+1):Nat):Int):=dW (by rw[cb,bD]) (by rw[cb];omega)
   by_cases l:p^(i+1)<=65536
   .simp -dsimp only[go_sem,d,e,f,g,a,j,(om:¬((65536:Int)<((p^(i+1):Nat):Int))),aP (om:i<1000000),cj]
    exact⟨⟨i+1,om,l,rfl,rfl⟩,om⟩
   .simp -dsimp only[go_sem,d,e,f,g,a,j,show((65536:Int)<((p^(i+1):Nat):Int)) by omega]
    have:p^(i+1)<=p^n:=cp k a;have h:decide (p^n<=65536)=false:=by simp;omega
    rw[h];exact VR.mf rfl
  .obtain rfl:i=n:=om
   simp -dsimp only[go_sem,d,e,f,g,a];have h:decide (p^i<=65536)=true:=by simp;exact b
   rw[h];exact VR.mf rfl
def AF{s b:Int}:(s%m+(a%m)*(b%m)%m)%m=(s+a*b)%m:=by
 rw[Sg s,fX a b]
def Af(n m:Nat)(H:aI)(v:Nat->Int)(N:n<=8)(P:1<=m)(C:m<=2147483647):PF 60 [az n n H,aK n v,.int .i64 m] (aK n (fun i=>(ay n fun j=>H i j*v j)%m)):=by
 refine iH func60 ntmps60 results60 ?_;have w:¬((m:Int)=0):=om
 simp -dsimp only[go_sem,az,aK];refine aH (fun O S=>∃(i:Nat) (x:AV),i<=n/\O 1=aK n v/\O 2=.int .i64 m/\O 7=x/\O 13=az n n H/\O 14=.int .i64 n/\O 15=.int .i64 i/\da 2 1 St.none S x i (fun i=>.int .i64 ((ay n fun j=>H i j*v j)%m))) (fun O S=>n-cj (O 15)) ?_ ?_
 .simp -dsimp only[go_sem,az,aK];exact⟨0,om,rfl,da.nil (ft.noneS _) _⟩
 .rintro O S ⟨i,x,Q,t,u,g,b,d,e,y⟩;by_cases r:i<n
  .simp -dsimp only[go_sem,az,aK,g,b,d,e,r];refine aH (fun O S'=>∃j:Nat,j<=n/\O 1=aK n v/\O 2=.int .i64 m/\O 7=x/\O 10=.int .i64 ((ay j fun j=>H i j*v j)%m)/\O 13=az n n H/\O 14=.int .i64 n/\O 15=.int .i64 i/\O 19=aK n (H i)/\O 20=.int .i64 n/\O 21=.int .i64 j/\S'=S) (fun O S=>n-cj (O 21)) ?_ ?_
   .simp -dsimp only[go_sem,az,aK,t,u,g,b,d,e];exact⟨0,om,by simp[ay],rfl⟩
   .rintro O S' ⟨j,R,t,u,g,f,b,d,e,k,l,o,rfl⟩;by_cases p:j<n
    .have q:(0:Int)<m:=om
     have D:=aW (H i j) (show(m:Int)≠0 by omega)
     have T:=aV (H i j) q;have B:=aW (v j) (show(m:Int)≠0 by omega)
     have U:=aV (v j) q;have E:=cK D B;have V:H i j%m*(v j%m)<=2147483647*2147483647:=cN om om B om;have F:IntKind.i64.wrap (H i j%m*(v j%m))=H i j%m*(v j%m):=i64_in om om;have G:fo (H i j%m*(v j%m)) m=(H i j%m*(v j%m))%m:=aL E;have W:=aW (ay j fun j=>H i j*v j) (show(m:Int)≠0 by omega)
     have X:=aV (ay j fun j=>H i j*v j) q;have Y:=aW (H i j%m*(v j%m)) (show(m:Int)≠0 by omega)
     have Z:=aV (H i j%m*(v j%m)) q;have I:IntKind.i64.wrap ((ay j fun j=>H i j*v j)%m+(H i j%m*(v j%m))%m)=(ay j fun j=>H i j*v j)%m+(H i j%m*(v j%m))%m:=i64_in om om;have J:fo ((ay j fun j=>H i j*v j)%m+(H i j%m*(v j%m))%m) m=(ay (j+1) fun j=>H i j*v j)%m:=by
      rw[aL om,AF];rfl
     simp -dsimp only[go_sem,az,aK,g,f,k,l,o,p];refine bE 16 kr ?_
     simp -dsimp only[go_sem,aa,az,aK,t,u,g,f,b,d,e,k,l,o,p];refine⟨_,(Em q om).pure',_,(Em q om).pure',?_⟩;simp -dsimp only[go_sem,w,F,G,I,J,aP (om:j<1000000),cj]
     exact⟨⟨j+1,om,rfl,rfl⟩,om⟩
    .obtain rfl:j=n:=om
     simp -dsimp only[go_sem,az,aK,g,f,k,l,o,p];refine aF.intro fun K z=>?_;simp -dsimp only[go_sem,g,f];have s:=y.fresh z;refine da.app2 (y.upd (by rfl) s _) om (show eF 1 (.int .i64 ((ay j fun j=>H i j*v j)%m)) by simp[eF]) (bH ⟨_,_,_,rfl,cn,rfl,fun h=>s _ h rfl⟩) ?_
     intro c S2 A L M;simp -dsimp only[go_sem,az,aK,t,u,g,f,b,d,e,aP (om:i<1000000),cj]
     exact⟨⟨i+1,om,rfl,A.congr fun a ha=>by grind⟩,om⟩
  .obtain rfl:i=n:=om
   simp -dsimp only[go_sem,az,aK,g,b,d,e,r];exact y.vr fun a _=>VR.mf rfl

def RJ(Q:aI)(n:Nat)(Rf R:aI)(S0 S:St)(x:AV):Prop:=∃(b:Nat) (g:Nat->Nat),IN Q n R Rf/\GL Q n 190 193 R/\x=.sl 1 b 0 n/\dH S b g n n (vk R)/\ft S0 S
def Mx{j a:Nat}(d:j<i)(e:i<n)(g:a<n)(b:c<n):kg n (vk R) (fu kD j i q) a c=vk (q9 R i j (-q)) a c:=by
 have h:=vK (n:=n) (i:=i) (j:=j) (a:=c) (q:=q) (f:=fun t=>R t a) om om b;rw[show kg n (vk R) (fu kD j i q) a c=ay n (fun t=>fu kD j i q t c*R t a)from aE fun t _=>cX _ _,h];simp only[vk,q9];split
 .grind
 .grind
def Mw{a:Nat}(d:0<i)(e:i<n)(j:a<n)(g:c<n):kg n (vk R) (fun a b=>kD (dO (i-1) i a) b) a c=vk (fun a b=>R (dO (i-1) i a) b) a c:=by
 have h:=vJ (n:=n) (p:=i) (a:=c) (f:=fun t=>R t a) d e g;rw[show kg n (vk R) (fun a b=>kD (dO (i-1) i a) b) a c=ay n (fun t=>kD (dO (i-1) i t) c*R t a)from aE fun t _=>cX _ _,h];rfl
structure RedR(Q:aI)(n:Nat)(R:aI):Prop where
 inv:GL Q n 190 193 R
 red:GK (gT Q n R) n
def BG(n:Nat)(Q:aI)(u:QF n Q):∃R,RedR Q n R/\∀S,cP 53 [aR n n Q] S (fun r S'=>∃b g c gc S1,r=.tup [.sl 1 b 0 n,.sl 1 c 0 n,.int .i64 0]/\jd S1 S' b g n n (gT Q n R)/\dH S' c gc n n (vk R)/\ft S S1):=by
 have l:=u.one;have h2:=u.five;have K:=u.pd.sym;have X:=u.dt;have L:∀i j,i<n->j<n->nb (Q i j) 39:=fun i j M N=>by have:=u.ent i j M N;unfold nb;omega
 obtain⟨Rf,Y,v,P⟩:=Pm (Q:=Q) (n:=n) (d:=190) (E:=193) K om om _ kD u.init (ae _);have w:GK (gT Q n Rf) n:=GK.of v.ls.pd P om (by rw[v.dn];omega)
 refine⟨Rf,⟨v,w⟩,fun S0=>?_⟩;refine i9 func53 ntmps53 results53 ?_;simp -dsimp only[go_sem,aa];refine(oG n Q 39 l om L om K true (by simp;exact u.pd.pos)).call ?_
 simp -dsimp only[go_sem,aa,show((0:Int) != 0)=false from rfl];refine(Cc n Q 39 l om L om).call ?_;simp -dsimp only[go_sem,aa,X];refine((yT n n Q 39 om l om L om).congr (B:=gT Q n kD) (fun a c f h=>(wl f h).symm)).pf.call ?_;simp -dsimp only[go_sem,aa,aR];refine(rI n l om _ _ (cS _ _)).mono ?_;rintro r S1 ⟨b,g,rfl,C⟩;simp -dsimp only[go_sem];refine aH (fun O S=>∃R:aI,O 6=aR n n (gT Q n R)/\RJ Q n Rf R S0 S (O 7)) (fun O S=>wc (matOf (O 6)) n) ?_ ?_
 .simp -dsimp only[go_sem,aR,bB];exact⟨kD,rfl,b,g,Y,u.init,rfl,C.1.congr fun a c _ _=>by simp only[vk,kD];by_cases e:a=c<;>simp[e,eq_comm],C.2.1⟩
 .rintro O S ⟨R,q,b,g,D,v,F,C,T⟩;obtain⟨bA,bT,bq⟩:=v.bits u;have m:∀i j,i<n->j<n->nb (gT Q n R i j) 17540:=bA;have s:∀k,k<=n->0<det k (gT Q n R):=fun k Z=>v.ls.pd.pos k Z
  cases D with
  | done t =>
   simp -dsimp only[go_sem,aa,q];refine(Dj n (gT Q n Rf) 17540 l om m om s .done t).call ?_;simp -dsimp only[go_sem,aa,q,evV];have G:∀i j,i<n->j<n->jk (gT Q n Rf i j):=fun i j M N=>P2 (w.entry om M N);refine(wG n n (gT Q n Rf) l om l om G _ _ (cS _ _)).mono ?_;rintro r S2 ⟨H,I,rfl,o⟩;simp -dsimp only[go_sem,q,F];exact⟨H,I,b,rfl,g,S,o,C.ext o.2.1,T⟩
  | size t p =>
   rename_i i j;obtain⟨x,y,U,V,W⟩:=t;have t:wU (gT Q n R) n (.size i j):=⟨x,y,U,V,W⟩;have J:∀a c,a<n->c<n->nb (RG (gT Q n R) (.size i j) a c) 17940:=fun a c _ _=>by
    simp only[RG,fu];split
    .exact bq i j y x
    .exact Nx a c _ om
   obtain⟨z,A⟩:=v.add K om om t;have e0:gT Q n (q9 R i j (-JU (gT Q n R) i j))=mc (gT Q n R) i j (JU (gT Q n R) i j):=by rw[Ik K,IW]
   simp -dsimp only[go_sem,aa,q];refine(Dj n (gT Q n R) 17540 l om m om s (.size i j) t).call ?_;simp -dsimp only[go_sem,aa,q,evV];refine((vf n (gT Q n R) (RG (gT Q n R) (.size i j)) 17940 l om (fun a c f h=>(m a c f h).mono om) (fun a c f h=>J a c f h) om).congr (B:=gT Q n (q9 R i j (-JU (gT Q n R) i j))) (fun a c f h=>by rw[e0];exact Iu x y f h)).pf.call ?_
   simp -dsimp only[go_sem,aa,q,F];refine(ku n n n (vk R) (RG (gT Q n R) (.size i j)) 17940 l om l om l om (fun a c f h=>nb.mono (bT c a h f) om) (fun a c f h=>J a c f h) om _ _ (fI.mat C (cS _ _))).mono ?_;rintro r S2 ⟨H,I,rfl,o⟩;simp -dsimp only[go_sem,q,F];exact⟨⟨_,rfl,H,I,p,z,rfl,o.1.congr fun a c f h=>Mx x y f h,T.trans o.2.1⟩,A⟩
  | swap t p =>
   rename_i i;obtain⟨x,y,U,V,W⟩:=t;have t:wU (gT Q n R) n (.swap i):=⟨x,y,U,V,W⟩;have J:∀a c,a<n->c<n->nb (RG (gT Q n R) (.swap i) a c) 17940:=fun a c _ _=>Nx _ c _ om;obtain⟨z,A⟩:=v.swap om om t;simp -dsimp only[go_sem,aa,q];refine(Dj n (gT Q n R) 17540 l om m om s (.swap i) t).call ?_;simp -dsimp only[go_sem,aa,q,evV];refine((vf n (gT Q n R) (RG (gT Q n R) (.swap i)) 17940 l om (fun a c f h=>(m a c f h).mono om) (fun a c f h=>J a c f h) om).congr (B:=gT Q n (fun a b=>R (dO (i-1) i a) b)) (fun a c f h=>It x y f h)).pf.call ?_;simp -dsimp only[go_sem,aa,q,F];refine(ku n n n (vk R) (RG (gT Q n R) (.swap i)) 17940 l om l om l om (fun a c f h=>nb.mono (bT c a h f) om) (fun a c f h=>J a c f h) om _ _ (fI.mat C (cS _ _))).mono ?_;rintro r S2 ⟨H,I,rfl,o⟩;simp -dsimp only[go_sem,q,F];exact⟨⟨_,rfl,H,I,p,z,rfl,o.1.congr fun a c f h=>Mw x y f h,T.trans o.2.1⟩,A⟩
def Gr(n:Nat)(Q:aI)(a:QF n Q):∃R,RedR Q n R/\PF 53 [aR n n Q] (.tup [az n n (gT Q n R),aR n n (vk R),.int .i64 0]):=by
 obtain⟨R,d,h⟩:=BG n Q a;refine⟨R,d,PF.of_spec ((h St.none).mono ?_)⟩;rintro _ S' ⟨b,g,c,gc,S1,rfl,e,f,_⟩;exact VR.tup3 e.1.vr f.vr (VR.mf rfl)

structure gk(n:Nat)(H:aI):Prop where
 one:1<=n
 eight:n<=8
 red:GK H n
 small:det n H<=10000
def gk.redB(h:gk n H):(∀i j,i<n->j<n->H i j=H j i)/\ti H n:=⟨h.red.pd.sym,⟨h.red.pd.pos,h.small,h.red.rows⟩⟩
def LY(S:St)(M d k L:Nat)(nums:Nat->Int)(Lb:Nat)(base:Nat->AV)(c:1<=M)(e:M<=5)(q:d<256)(s:k<256)(hnums:∀i,i<L->-128<=nums i/\nums i<=127) :
  cP 38 [PO d k L nums Lb base,.int .i64 M] S (fun r S'=>∃n H,gk n H/\n<=M/\r=az n n H/\ft S S'):=by
 refine i9 func38 ntmps38 results38 ?_;simp -dsimp only[go_sem,aa,PO,eA,bn,bS,cB,cM];refine aF.intro fun u t=>?_;simp -dsimp only[go_sem,bO,bG];refine(Oq M d k L nums Lb base c e q s hnums _ _ (cS _ _)).mono ?_;rintro r S1 ⟨b,g,n,A,⟨a,f⟩,rfl,o⟩;obtain⟨R,p,h⟩:=Gr n A ⟨⟨a.sym,a.pos⟩,a.one,a.five,fun i j l m=>by have:=a.ent i j l m;omega,a.small⟩
 simp -dsimp only[go_sem,aa];refine(uT n n A a.one (by have:=a.five;omega) a.one (by have:=a.five;omega) (fun i j l m=>Rs (a.ent i j l m))).spec (fI.cons o.1.vr.va fI.nil) ?_
 simp -dsimp only[go_sem,aa];refine h.call ?_;simp -dsimp only[go_sem];exact⟨n,gT A n R,⟨a.one,by have:=a.five;omega,p.red,by rw[p.inv.dn];exact a.small⟩,f,rfl,((ft.refl S).upd t _).trans o.2.1⟩
def pe(n:Nat)(f g:Nat->Int)(m:Int)(h:∀i,i<n->f i%m=g i%m):ay n f%m=ay n g%m:=by
 induction n with
 | zero=>rfl
 | succ n ih =>
  simp only[ay];rw[Sg,ih (fun i a=>h i om),h n om,<-Sg]
def eX(n:Nat)(H:aI)(v:Nat->Int)(i:Nat):Int:=ay i fun i=>(ay n fun j=>H i j*v j)*v i
def Cq(n m:Nat)(H:aI)(v:Nat->Int)(w:n<=8)(x:1<=m)(f:m<=2147483647):PF 76 [az n n H,aK n v,.int .i64 m] (.int .i64 (eX n H v n%m)):=by
 refine iH func76 ntmps76 results76 ?_;have g:¬((m:Int)=0):=om
 simp -dsimp only[go_sem,aa];refine(Af n m H v w x f).call ?_;simp -dsimp only[go_sem,aK];refine aH (fun O S=>∃i:Nat,i<=n/\O 1=aK n v/\O 2=.int .i64 m/\O 7=.int .i64 (eX n H v i%m)/\O 13=aK n (fun i=>(ay n fun j=>H i j*v j)%m)/\O 14=.int .i64 n/\O 15=.int .i64 i) (fun O S=>n-cj (O 15)) ?_ ?_
 .simp -dsimp only[go_sem,aK];exact⟨0,om,by simp[eX,ay],rfl⟩
 .rintro O S ⟨i,A,h,k,l,a,b,c⟩;by_cases d:i<n
  .have e:(0:Int)<m:=om
   obtain⟨s,o⟩:∃s,s=ay n fun j=>H i j*v j:=⟨_,rfl⟩;have y:=aW s (show(m:Int)≠0 by omega)
   have B:=aV s e;have p:=aW (v i) (show(m:Int)≠0 by omega)
   have C:=aV (v i) e;have z:=cK y p;have D:s%m*(v i%m)<=2147483647*2147483647:=cN om om p om;have q:IntKind.i64.wrap (s%m*(v i%m))=s%m*(v i%m):=i64_in om om;have r:fo (s%m*(v i%m)) m=(s%m*(v i%m))%m:=aL z;have E:=aW (eX n H v i) (show(m:Int)≠0 by omega)
   have F:=aV (eX n H v i) e;have G:=aW (s%m*(v i%m)) (show(m:Int)≠0 by omega)
   have I:=aV (s%m*(v i%m)) e;have t:IntKind.i64.wrap (eX n H v i%m+(s%m*(v i%m))%m)=eX n H v i%m+(s%m*(v i%m))%m:=i64_in om om;have u:fo (eX n H v i%m+(s%m*(v i%m))%m) m=eX n H v (i+1)%m:=by
    rw[aL om,AF];simp only[eX,ay,o]
   simp -dsimp only[go_sem,aa,aK,h,k,l,a,b,c,d];refine(Em e om).call ?_;rw[o]at q r t u;simp -dsimp only[go_sem,aK,h,k,l,a,b,c,g,q,r,t,u,aP (om:i<1000000),cj]
   exact⟨⟨i+1,om,rfl,rfl⟩,om⟩
  .obtain rfl:i=n:=om
   simp -dsimp only[go_sem,aa,aK,h,k,l,a,b,c,d];exact VR.mf rfl
def iO(v:Nat->Int):Nat->Int
 | 0=>0
 | j+1=>if iO v j=0 then v j else iO v j
def AW(n p:Nat)(H:aI)(v:Nat->Int):Prop:=(∀i,i<n->0<=v i/\v i<p)/\iO v n=1/\eX n H v n%p=0
def rb(n m:Nat)(H:aI)(v:Nat->Int)(β:Bool)(y:n<=8)(z:1<=m)(u:m<=2147483647)(hβ:β=true↔AW n m H v):PF 75 [az n n H,.int .i64 m,aK n v] (.bool β):=by
 refine iH func75 ntmps75 results75 ?_;simp -dsimp only[go_sem,aK,az,show((n:Int) != n)=false by simp]
 refine aH (fun O S=>∃i:Nat,i<=n/\(∀k,k<i->0<=v k/\v k<m)/\O 0=az n n H/\O 1=.int .i64 m/\O 2=aK n v/\O 7=.int .i64 (iO v i)/\O 15=aK n v/\O 16=.int .i64 n/\O 17=.int .i64 i) (fun O S=>n-cj (O 17)) ?_ ?_
 .simp -dsimp only[go_sem,aK,az];exact⟨0,om,fun k A=>om,rfl,rfl⟩
 .rintro O S ⟨i,B,r,g,j,l,o,b,c,d⟩;by_cases a:i<n
  .by_cases s:v i<0
   .simp -dsimp only[go_sem,aa,aK,az,g,j,l,o,b,c,d,a,s];rw[cL hβ fun h=>by have:=h.1 i a;omega]
    exact VR.mf rfl
   by_cases w:(m:Int)<=v i
   .simp -dsimp only[go_sem,aa,aK,az,g,j,l,o,b,c,d,a,s,w];rw[cL hβ fun h=>by have:=h.1 i a;omega]
    exact VR.mf rfl
   have p:∀k,k<i+1->0<=v k/\v k<m:=fun k A=>by
    by_cases e:k=i
    .rw[e];omega
    .exact r k om
   by_cases f:iO v i=0
   .have x:iO v (i+1)=v i:=by simp[iO,f]
    simp -dsimp only[go_sem,aa,aK,az,g,j,l,o,b,c,d,a,s,w,f,show((0:Int)==0)=true from rfl,aP (om:i<1000000),cj]
    exact⟨⟨i+1,om,p,by rw[x],rfl⟩,om⟩
   .have x:iO v (i+1)=iO v i:=by simp[iO,f]
    have q:(iO v i==0)=false:=by simp[f]
    simp -dsimp only[go_sem,aa,aK,az,g,j,l,o,b,c,d,a,s,w,q,aP (om:i<1000000),cj]
    exact⟨⟨i+1,om,p,by rw[x],rfl⟩,om⟩
  .obtain rfl:i=n:=om
   by_cases f:iO v i=1
   .simp -dsimp only[go_sem,aa,aK,az,g,j,l,o,b,c,d,a,f,show((1:Int)==1)=true from rfl];refine(Cq i m H v y z u).call ?_;by_cases t:eX i H v i%(m:Int)=0
    .simp -dsimp only[go_sem,aK,az,g,j,l,o,f,t,show((1:Int)==1)=true from rfl,show((0:Int)==0)=true from rfl];rw[hβ.2 ⟨r,f,t⟩];exact VR.mf rfl
    .simp -dsimp only[go_sem,aK,az,g,j,l,o,f,show(eX i H v i%(m:Int)==0)=false by simpa using t,show((1:Int)==1)=true from rfl]
     rw[cL hβ fun h=>t h.2.2];exact VR.mf rfl
   .have q:(iO v i==1)=false:=by simp[f]
    simp -dsimp only[go_sem,aK,az,g,j,l,o,b,c,d,a,q];rw[cL hβ fun h=>f h.2.1];exact VR.mf rfl
def zK(n l m:Nat)(H:aI)(v:Nat->Int)(β:Bool)(b:n<=8)(c:1<=m)(a:m<=2147483647)(hβ:β=true↔l=n/\AW n m H v):PF 75 [az n n H,.int .i64 m,aK l v] (.bool β):=by
 by_cases e:l=n
 .subst e;exact rb l m H v β b c a (hβ.trans ⟨fun h=>h.2,fun h=>⟨rfl,h⟩⟩)
 .refine iH func75 ntmps75 results75 ?_;simp -dsimp only[go_sem,aK,az,show((l:Int) != n)=true by simp;omega]
  rw[cL hβ fun h=>e h.1];exact VR.mf rfl
def sn(n m:Nat)(H:aI)(v:Nat->Int)(b:n<=8)(c:1<=m)(a:m<=2147483647)(d:∀i,i<n->0<=v i/\v i<m):PF 75 [az n n H,.int .i64 m,aK n v] (.bool (iO v n==1&&eX n H v n%m==0)) :=
 rb n m H v _ b c a (by rw[au,vu,vu];exact⟨fun h=>⟨d,h⟩,fun h=>h.2⟩)

def nF(e:2<=p)(f:p<25)(a:¬p%2=0∨p<4)(b:¬p%3=0∨p<9)(c:¬p%4=0∨p<16):tt p:=by
 refine⟨e,fun d g i=>?_⟩;have:d<5:=by
  rcases aC d 5 with h|h
  .exact h
  .have:5*5<=d*d:=a9 h h;omega
 have:d=2∨d=3∨d=4:=om
 rcases this with rfl|rfl|rfl<;>omega
def lp(D:Int)(p:Nat):Prop:=3<=p/\p%2=1/\tt p/\¬D%p=0
def lp.pr(h:lp D p)(a:p<=9973):sH p:=⟨h.2.2.1,h.1,a⟩
open Classical in
noncomputable def gc(D:Int):Nat->Nat
 | 0=>0
 | p+1=>gc D p+if lp D p then 1 else 0
open Classical in
def Cx(D:Int)(q:Nat)(f:Nat)(h:tt q/\3<=q/\q%2=1){k:Nat}(c:k<=gc D q)(a:f=if D%q=0 then 0 else 1):k+f<=gc D (q+1):=by
 simp only[gc,lp,a];by_cases b:D%(q:Int)=0<;>simp[b,h.1,h.2.1,h.2.2]<;>omega
def ue(D:Int){p q:Nat}(h:p<=q){k:Nat}(a:k<=gc D p):k<=gc D q:=by
 induction q with
 | zero=>rw[show(0:Nat)=p by omega];exact a
 | succ q ih =>
  by_cases e:p=q+1
  .rw[<-e];exact a
  .exact bQ (ih om) (by simp only[gc];omega)
def Ul(p:0<D)(q:D<=10000)(a b c d e:Nat)(f:Nat.Coprime a b)(g:Nat.Coprime (a*b) c)(i:Nat.Coprime (a*b*c) d)(j:Nat.Coprime (a*b*c*d) e)(r:10000<a*b*c*d*e) :
  ¬(D%(a:Int)=0/\D%(b:Int)=0/\D%(c:Int)=0/\D%(d:Int)=0/\D%(e:Int)=0):=by
 rintro⟨k,l,m,n,o⟩;have t:∀{x:Nat},D%(x:Int)=0->x∣D.natAbs:=fun h=>Int.ofNat_dvd_left.1 (eg h);have s:=BK om (j.mul_dvd_of_dvd_of_dvd (i.mul_dvd_of_dvd_of_dvd (g.mul_dvd_of_dvd_of_dvd (f.mul_dvd_of_dvd_of_dvd (t k) (t l)) (t m)) (t n)) (t o));omega
open Classical in
def Pi{a b c d e f:Prop}(m:¬(a/\b/\c/\d/\e))(n:¬(a/\b/\c/\d/\f))(o:¬(a/\b/\c/\e/\f))(p:¬(a/\b/\d/\e/\f))(q:¬(a/\c/\d/\e/\f))(r:¬(b/\c/\d/\e/\f)){g h i j k l:Nat}
  (s:a∨1<=g) (t:b∨1<=h) (u:c∨1<=i) (v:d∨1<=j) (w:e∨1<=k) (x:f∨1<=l):2<=0+g+h+i+j+k+l:=by
 by_cases a<;>by_cases b<;>by_cases c<;>by_cases d<;>by_cases e<;>by_cases f<;>simp_all<;>omega
def S8(a:0<D)(b:D<=10000):2<=gc D 18:=by
 have j:tt 3:=nF om om om om om;have k:tt 5:=nF om om om om om;have l:tt 7:=nF om om om om om;have c:tt 11:=nF om om om om om;have d:tt 13:=nF om om om om om;have e:tt 17:=nF om om om om om;have m:=Cx D 3 _ ⟨j,om,om⟩ (jM _) rfl
 have n:=Cx D 5 _ ⟨k,om,om⟩ (ue D (om:3+1<=5) m) rfl
 have o:=Cx D 7 _ ⟨l,om,om⟩ (ue D (om:5+1<=7) n) rfl
 have f:=Cx D 11 _ ⟨c,om,om⟩ (ue D (om:7+1<=11) o) rfl
 have g:=Cx D 13 _ ⟨d,om,om⟩ (ue D (om:11+1<=13) f) rfl
 have i:=Cx D 17 _ ⟨e,om,om⟩ (ue D (om:13+1<=17) g) rfl
 refine bQ ?_ i;have t:∀q:Nat,D%(q:Int)=0∨1<=(if D%(q:Int)=0 then 0 else 1:Nat):=fun q=>by
  by_cases h:D%(q:Int)=0
  .exact bF h
  .right;simp[h]
 exact Pi (Ul a b 3 5 7 11 13 dc dc dc dc dc) (Ul a b 3 5 7 11 17 dc dc dc dc dc)
  (Ul a b 3 5 7 13 17 dc dc dc dc dc) (Ul a b 3 5 11 13 17 dc dc dc dc dc)
  (Ul a b 3 7 11 13 17 dc dc dc dc dc) (Ul a b 5 7 11 13 17 dc dc dc dc dc)
  (t 3) (t 5) (t 7) (t 11) (t 13) (t 17)
def JT(a:p%2=1):gc D (p+2)=gc D (p+1):=by
 have:¬lp D (p+1):=fun h=>by have:=h.2.1;omega
 simp[gc,this]
def gk.ent(h:gk n H):I2 n H:=fun i j a b=>by
 have:=h.red.entry h.eight a b;omega
def gk.det(h:gk n H):0<det n H/\det n H<=10000:=⟨h.red.pd.2 n (ae _),h.small⟩
def gpI(D:Int)(p s:Nat):Prop:=3<=p/\p<=17/\p%2=1/\gc D p+s<=1
def A8(S:St)(n:Nat)(H:aI)(k:Nat)(b:gk n H)(v:k<256):cP 39 [az n n H,.int .u8 k] S (fun r S'=>∃p:Nat,lp (det n H) p/\p<=17/\r=.int .i64 p/\S'=S):=by
 refine i9 func39 ntmps39 results39 ?_;have m:=b.eight;have o:fo (k:Int) 2=((k%2:Nat):Int):=by rw[qQ]<;>rfl
 have q:IntKind.i64.wrap ((k%2:Nat):Int)=((k%2:Nat):Int):=i64_in om om;simp -dsimp only[go_sem,o,q,show ¬((2:Int)=0) by decide]
 have w:=S8 b.det.1 b.det.2;refine aH (fun O S'=>∃p s:Nat,gpI (det n H) p s/\O 0=az n n H/\O 5=.int .i64 s/\O 6=.int .i64 p/\S'=S) (fun O S=>18-cj (O 6)) ?_ ?_
 .simp -dsimp only[go_sem];refine⟨3,k%2,⟨om,om,om,?_⟩,rfl,rfl⟩
  have:gc (det n H) 3=0:=by simp[gc,lp]
  omega
 .rintro O S' ⟨p,s,⟨j,e,c,t⟩,f,l,g,rfl⟩;have wp:IntKind.i64.wrap ((p:Int)+2)=((p+2:Nat):Int):=dW om om;rcases iJ (lp (det n H) p)with d|d
  .simp -dsimp only[go_sem,aa,f,g];refine(Ep n p H b.one om b.ent b.det true (by simp only[true_iff];exact⟨qL.of (d.pr om),d.2.2.2⟩)).call ?_
   have a:gc (det n H) (p+1)=gc (det n H) p+1:=by simp[gc,d]
   by_cases u:s=0
   .subst u;simp -dsimp only[go_sem,f,l,g,show((((0:Nat)):Int)==0)=true from rfl];exact⟨p,d,e,rfl⟩
   .obtain rfl:s=1:=om
    have i:p+2<=17:=by
     rcases aC p 16 with h|h
     .omega
     .obtain rfl:p=17:=om
      rw[show(17:Nat)+1=18 from rfl]at a;omega
    simp -dsimp only[go_sem,f,l,g,show((((1:Nat)):Int)==0)=false from rfl,wp,show IntKind.i64.wrap ((((1:Nat)):Int)-1)=((0:Nat):Int)from dW om om,cj];exact⟨⟨p+2,0,⟨om,om,om,by rw[JT c,a];omega⟩,rfl,rfl⟩,om⟩
  .simp -dsimp only[go_sem,aa,f,g];refine(Ep n p H b.one om b.ent b.det false (by simp only[bJ,UX];exact fun h=>d ⟨j,c,h.1.2.2,h.2⟩)).call ?_
   have a:gc (det n H) (p+1)=gc (det n H) p:=by simp[gc,d]
   have i:p+2<=17:=by
    rcases aC p 16 with h|h
    .omega
    .obtain rfl:p=17:=om
     rw[show(17:Nat)+1=18 from rfl]at a;omega
   simp -dsimp only[go_sem,f,l,g,wp,cj];exact⟨⟨p+2,s,⟨om,om,om,by rw[JT c,a];omega⟩,rfl,rfl⟩,om⟩

end Go.Proofs.YtdobfmlmenaajaaGreatDoor
