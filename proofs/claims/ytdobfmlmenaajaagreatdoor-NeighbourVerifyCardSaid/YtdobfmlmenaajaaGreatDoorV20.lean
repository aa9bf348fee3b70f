/-
  Lemmas for NeighbourVerify.
-/
import Derived.Test.YtdobfmlmenaajaaGreatDoorV19
namespace Go.Proofs.YtdobfmlmenaajaaGreatDoor
open Go.RowKit Tryz
open _root_.Int renaming tmod→eI,reduceBEq→iM
open _root_.Option renaming none→ab
set_option maxHeartbeats 6400000
set_option maxRecDepth 4096
set_option linter.all false
attribute [local go_sem] Nat.reduceAdd Nat.reduceEqDiff Nat.reduceLeDiff Nat.reduceLT reduceCtorEq Int.ofNat_lt decide_true decide_false Int.zero_le_ofNat
attribute [local go_sem ↓] reduceIte
variable{Q:AX->Tm->St->Prop}{D a m q z:Int}{args:List AV}{N b bt c i n p:Nat}{g2:Nat->AV}{f:Nat->Int}{g:Nat->Nat}{P:Nat->aH->Prop}{S S' S0:St}{O:Tm}{A H R:aH}
def iV(S:St)(bt N:Nat):Prop:=∃(L:Nat) (nums:Nat->Int) (k:Nat) (g:Nat->AV),S bt=some ⟨107,1,2,g⟩/\g 0=.lst 1 L (fun i=>.int .i8 (nums i))/\g 1=.int .i64 k/\k<=N/\∀i,i<L->-128<=nums i/\nums i<=127
def iV.upd(h:iV S bt N)(a:bt≠c)(X:ft):iV (S.upd c X) bt N:=by
 obtain⟨L,nums,k,g,b,d⟩:=h;exact⟨L,nums,k,g,by rw[aO a];exact b,d⟩
def iV.step(h:iV S bt N)(a:S' bt=S bt):iV S' bt N:=by
 obtain⟨L,nums,k,g,b,c⟩:=h;exact⟨L,nums,k,g,by rw[a];exact b,c⟩
def iV.mono{M:Nat}(h:iV S bt N)(e:N<=M):iV S bt M:=by
 obtain⟨L,nums,k,g,a,b,c,f,d⟩:=h;exact⟨L,nums,k,g,a,b,c,om,d⟩
def iV.ne{ty es:Nat}{g:Nat->AV}(h:iV S bt N)(a:S b=some ⟨ty,es,n,g⟩)(c:ty≠107):bt≠b:=by
 obtain⟨_,_,_,_,d,_⟩:=h;rintro rfl;rw[d]at a;cases a;exact c rfl
def iV.fresh(h:iV S bt N)(a:S c=ab):bt≠c:=by
 obtain⟨_,_,_,_,b,_⟩:=h;rintro rfl;rw[b]at a;cases a
def wX(S:St)(bt N:Nat)(h:iV S bt N)(m:N<=1000):cZ 77 [.ptr 1 bt 0] S (fun r S'=>∃z:Int,(-128<=z/\z<=127)/\r=.int .i64 z/\iV S' bt (N+1)/\∀d,d≠bt->S' d=S d):=by
 refine jI func77 ntmps77 results77 ?_;obtain⟨L,nums,k,g,e,c,f,n,a⟩:=h;simp -dsimp only[go_sem];refine bD 10 kr ?_
 by_cases i:L<=k
 .simp only[*,go_sem,aa,l7];exact⟨0,om,om,rfl,⟨L,nums,k,g,e,c,f,om,a⟩,fun _ _=>trivial⟩
 .simp -dsimp only[*,go_sem,aa,l7,aS (om:k<1000000)]
  refine bD 13 kr ?_
  have o:IntKind.i64.wrap (((k+1:Nat):Int)-1)=(k:Nat):=eF om om;have b:k<L:=om
  have p:=a k b;have j:IntKind.i64.wrap (nums k)=nums k:=i64_in om om;simp only[*,go_sem,aa,bR];refine⟨nums k,om,om,rfl,⟨L,nums,k+1,_,cp,?_,?_,om,a⟩,fun d l=>aO l⟩
  .simp[bR,c]
  .simp[bR]
def tL(S:St)(bt N m:Nat)(h:iV S bt N)(c:N<=1000)(j:1<=m)(e:m<=100):cZ 150 [.ptr 1 bt 0,.int .i64 m] S (fun r S'=>∃z:Nat,z<m/\r=.int .i64 z/\iV S' bt (N+1)/\∀d,d≠bt->S' d=S d):=by
 refine jI func150 ntmps150 results150 ?_;simp -dsimp only[go_sem,aa];refine(wX S bt N h c).mono ?_;rintro r S' ⟨z,k,rfl,f,g⟩;have a:∃y:Nat,y<256/\IntKind.u8.wrap z=y:=by
  rw[IntKind.wrap_u8];exact⟨(z%256).toNat,om,om⟩
 obtain⟨y,l,a⟩:=a;have i:IntKind.i64.wrap (y:Int)=y:=i64_in om om;have b:¬((m:Int)=0):=om
 simp only[go_sem,a,i,b];refine⟨y%m,dh _ om,?_,f,g⟩;rw[jC]
def ON(S0 S:St)(bt:Nat):Prop:=∀d X,S0 d=some X->d≠bt->S d=some X
def CW(n most:Nat)(A:aH):Prop:=∀i,i<n->(1<=A i i/\A i i<=most)/\∀j,j<n->j≠i->A i j=0
def DgI(S0 S:St)(b bt N n most i:Nat):Prop:=∃(g:Nat->Nat) (A:aH),bG S b 29 1 n (fun a=>if a<i then .sl 1 (g a) 0 n else .nil)/\(∀a,a<i->ku S (g a) n (A a)/\S0 (g a)=ab)/\(∀a c,a<i->c<i->g a=g c->a=c) /\
 iV S bt (N+i)/\ON S0 S bt/\S0 b=ab/\∀a,a<i->(1<=A a a/\A a a<=most)/\∀j,j<n->j≠a->A a j=0
def ON.upd(h:ON S0 S bt)(b:S0 c=ab)(X:ft):ON S0 (S.upd c X) bt:=fun d Y a e=>by
 have:d≠c:=by rintro rfl;rw[b]at a;cases a
 rw[aO this];exact h d Y a e
def ON.none(h:ON S0 S bt)(a:S c=ab)(b:bt≠c):S0 c=ab:=by
 cases e:S0 c with
 | none=>rfl
 | some X=>rw[h c X e (aj b)]at a;cases a
def ON.step(h:ON S0 S bt)(b:∀d,d≠bt->S' d=S d):ON S0 S' bt:=fun d X c a=>by rw[b d a];exact h d X c a
def mL(S0:St)(bt N n most:Nat)(P:iV S0 bt N)(hN:N+n<=900)(U:1<=most)(y:most<=100):cZ 151 [.ptr 1 bt 0,.int .i64 n,.int .i64 most] S0 (fun r S'=>∃b g A,r=.sl 1 b 0 n/\dZ S' b g n n A/\iV S' bt (N+n)/\ON S0 S' bt/\CW n most A/\S0 b=ab/\∀a,a<n->S0 (g a)=ab):=by
 refine jI func151 ntmps151 results151 ?_;simp -dsimp only[go_sem]
 repeat refine an ?_
 refine aG.intro fun o B=>?_;simp only[go_sem];have C:=P.fresh B;refine aI (fun O S=>∃i:Nat,i<=n/\O 0=.ptr 1 bt 0/\O 1=.int .i64 n/\O 2=.int .i64 most/\O 7=.sl 1 o 0 n/\O 12=.int .i64 n/\O 13=.int .i64 i/\DgI S0 S o bt N n most i) (fun O S=>n-co (O 13)) ?_ ?_
 .simp only[go_sem];exact⟨0,om,rfl,fun _=>0,fun _ _=>0,bG.here fun _ _=>by simp,fun a k=>om,fun a c k=>om,P.upd C _,(fun d X D _=>by rw[aO (fun e=>by rw[e,B]at D;cases D)];exact D),B,fun a k=>om⟩
 .rintro O S ⟨i,hi,e0,V,e2,W,E,F,g,A,Q,v,Y,m,s,t,R⟩;by_cases G:i<n
  .simp -dsimp only[*,go_sem,aa]
   repeat refine an ?_
   refine aG.intro fun f l=>?_;obtain⟨T,H,Z⟩:=Q;have p:o≠f:=fun e=>by rw[<-e,H]at l;cases l
   have q:bt≠o:=m.ne H om;have h:bt≠f:=m.fresh l;have u:S0 f=ab:=s.none l h;simp -dsimp only[*,go_sem];refine fQ 7 [[0,1,2,3,4]] kr ?_
   simp -dsimp only[*,go_sem,aa,bR];have I:iV ((S.upd f ⟨2,1,n,fun _=>.int .i64 0⟩).upd o ⟨29,1,n,bR T i (.sl 1 f 0 n)⟩) bt (N+i):=(m.upd h _).upd q _;refine(tL _ bt (N+i) most I om U y).mono ?_;rintro r S2 ⟨z,hz,rfl,J,w⟩;have k7:S2 o=some ⟨29,1,n,bR T i (.sl 1 f 0 n)⟩:=by rw[w o (aj q)];exact cp
   have k18:S2 f=some ⟨2,1,n,fun _=>.int .i64 0⟩:=by rw[w f (aj h),aO (aj p)];exact cp
   have hw:IntKind.i64.wrap (1+(z:Int))=((z+1:Nat):Int):=eF om om;simp only[*,go_sem,aa,bR,aS (om:i<1000000),co]
   refine⟨⟨i+1,om,rfl,fun a=>if a=i then f else g a,fun a c=>if a=i then(if c=i then((z+1:Nat):Int)else 0)else A a c,(bG.of k7).upd p _ |>.congr fun a k=>?_,fun a k=>?_,fun a c k hc e=>?_,J.upd h _,(((s.upd u _).upd t _).step w).upd u _,t,fun a k=>?_⟩,om⟩
   .have:=Z a k;simp only[bR];grind
   .by_cases e:a=i
    .subst e;simp only[aK];refine⟨bG.here fun c hc=>?_,u⟩;simp only[bR];split<;>rfl
    .simp only[e,aM];obtain⟨x,r2⟩:=v a om;have K:g a≠f:=bG.fresh x l;have q2:g a≠o:=bG.ne x (bG.of H) om;have q3:g a≠bt:=by obtain⟨gg,L,_⟩:=x;exact aj (m.ne L om)
     refine⟨(x.via fun X hX=>?_).upd K _,r2⟩;rw[w _ q3,aO q2,aO K];exact hX
   .have K:∀a,a<i->g a≠f:=fun a k=>bG.fresh (v a k).1 l
    grind
   .by_cases e:a=i
    .subst e;refine⟨by simp only[aK];omega,fun j hj M=>by simp[M]⟩
    .simp only[e,aM];exact R a om
  .obtain rfl:i=n:=om
   simp only[go_sem,aa,V,W,E,F,G];exact⟨o,rfl,g,A,⟨Q.congr fun a k=>by simp[k],fun a k=>(v a k).1,Y⟩,m,s,R,t,fun a k=>(v a k).2⟩

structure T9(n most:Nat)(A:aH):Prop where
 sym:∀a c,a<n->c<n->A a c=A c a
 diag:∀a,a<n->1<=A a a/\A a a<=most
 small:∀a c,a<n->c<n->-9<=A a c/\A a c<=9
def Ug(S0 S:St)(b bt N n:Nat)(Q:aH->Prop):Prop:=∃(g:Nat->Nat) (A:aH),dZ S b g n n A/\iV S bt N/\ON S0 S bt/\S0 b=ab/\(∀a,a<n->S0 (g a)=ab)/\Q A
def tmod3(z:Int):-2<=z.tmod 3/\z.tmod 3<=2:=by
 have c:=tW (a:=z) (b:=3) om;omega
def DK(S0:St)(bt N n:Nat)(hT:iV S0 bt N)(Z:n<=8)(hN:N<=500):cZ 148 [.ptr 1 bt 0,.int .i64 n] S0 (fun r S'=>∃b,r=.sl 1 b 0 n/\Ug S0 S' b bt (N+n+n*n) n (T9 n 6)):=by
 refine jI func148 ntmps148 results148 ?_;have hnn:n*n<=64:=aV Z Z;simp -dsimp only[go_sem,aa];refine(mL S0 bt N n 6 hT om om om).mono ?_;rintro r S1 ⟨b,g,A,rfl,o,l,p,x,q,m⟩;simp only[go_sem];refine aI (fun O S=>∃i:Nat,i<=n/\O 0=.ptr 1 bt 0/\O 5=.sl 1 b 0 n/\O 12=.int .i64 n/\O 13=.int .i64 i/\Ug S0 S b bt (N+n+i*n) n (T9 n 6)) (fun O S=>n-co (O 13)) ?_ ?_
 .simp only[go_sem];refine⟨0,om,rfl,g,A,o,l.mono om,p,q,m,fun a c h u=>?_,fun a h=>(x a h).1,fun a c h u=>?_⟩
  .by_cases e:a=c
   .rw[e]
   .rw[(x a h).2 c u (aj e),(x c u).2 a h e]
  .by_cases e:c=a
   .have:=(x a h).1;rw[e];omega
   .rw[(x a h).2 c u e];omega
 .clear o l p x q m;rintro O S ⟨i,hi,e0,H,y,B,I⟩;by_cases d:i<n
  .have hin:i*n+n<=n*n:=by rw[<-dl];exact aD _ d
   simp only[*,go_sem];refine aI (fun O S=>∃k:Nat,k<=i/\O 0=.ptr 1 bt 0/\O 5=.sl 1 b 0 n/\O 6=.int .i64 i/\O 7=.int .i64 k/\O 12=.int .i64 n/\O 13=.int .i64 i/\Ug S0 S b bt (N+n+i*n+k) n (T9 n 6)) (fun O S=>i-co (O 7)) ?_ ?_
   .simp only[*,go_sem];exact⟨0,om,rfl,I⟩
   .clear I;rintro O S ⟨k,hk,e0,H,e6,e7,y,B,g,A,o,l,p,q,m,G⟩;by_cases hki:k<i
    .have f:k<n:=om
     obtain⟨C,J,D⟩:=o.outer;obtain⟨gi,ui,vi⟩:=o.row i d;have w1:C i=.sl 1 (g i) 0 n:=D i d;have w2:C k=.sl 1 (g k) 0 n:=D k f;simp -dsimp only[*,go_sem];refine fQ 6 [[0,1,2,3,4]] kr ?_
     simp -dsimp only[*,go_sem,aa];refine(wX S bt _ l om).mono ?_;rintro r S2 ⟨z,hz,rfl,K,v⟩;have L:bt≠b:=l.ne J om;have w:∀a,a<n->g a≠bt:=fun a h=>by obtain⟨gg,M,_⟩:=o.row a h;exact aj (l.ne M om)
     have s:dZ S2 b g n n A:=⟨o.outer.via fun X P=>by rw[v b (aj L)];exact P,fun a h=>(o.row a h).via fun X P=>by rw[v _ (w a h)];exact P,o.inj⟩
     obtain⟨C,J,D⟩:=s.outer;obtain⟨gi,ui,vi⟩:=s.row i d;have w1:C i=.sl 1 (g i) 0 n:=D i d;have w2:C k=.sl 1 (g k) 0 n:=D k f;have hz3:=tmod3 z;simp -dsimp only[go_sem,aa,H,e6,e7,d,f,J,w1,ui,show ¬((3:Int)=0) by decide]
     have t:=s.set (j:=k) (z:=z.tmod 3) d ui;have hMi:=s.outer_ne d;obtain⟨E,Q,F⟩:=t.outer;obtain⟨gi',ui',vi'⟩:=t.row i d;obtain⟨gk',uk',vk'⟩:=t.row k f;have R:E i=.sl 1 (g i) 0 n:=F i d;have T:E k=.sl 1 (g k) 0 n:=F k f;have U:gi' k=.int .i64 (z.tmod 3):=by rw[vi' k f];simp[eQ]
     have hki':g i≠g k:=fun e=>by have:=o.inj i k d f e;omega
     have V:=K.upd (aj (w i d)) ⟨2,1,n,bR gi k (.int .i64 (z.tmod 3))⟩;have W:=(p.step v).upd (m i d) ⟨2,1,n,bR gi k (.int .i64 (z.tmod 3))⟩;generalize S2.upd (g i) ⟨2,1,n,bR gi k (.int .i64 (z.tmod 3))⟩=S3 at *;simp -dsimp only[*,go_sem];refine bD 13 kr ?_
     simp only[go_sem,aa,e0,H,e6,e7,y,B,d,f,Q,R,T,ui',U,uk',aS (om:k<1000000),co]
     have Y:=t.set (j:=i) (z:=z.tmod 3) f uk';refine⟨⟨k+1,om,rfl,g,_,Y,V.upd (aj (w k f)) _,W.upd (m k f) _,q,m,fun a c h u=>?_,fun a h=>?_,fun a c h u=>?_⟩,om⟩
     .have:=G.sym a c h u;simp only[eQ];grind
     .have:=G.diag a h;simp only[eQ];rw[af om,af om];exact this
     .have:=G.small a c h u;simp only[eQ];split
      .omega
      .split
       .omega
       .exact this
    .simp only[*,go_sem,aS (om:i<1000000),co]
     exact⟨⟨i+1,om,rfl,g,A,o,l.mono (by rw[dl];omega),p,q,m,G⟩,om⟩
  .obtain rfl:i=n:=om
   simp only[*,go_sem];exact⟨b,rfl,I⟩

structure Eo(S:St)(b:Nat)(g:Nat->Nat)(n i:Nat)(A:aH):Prop where
 outer:bG S b 29 1 n (fun a=>if a<i then .sl 1 (g a) 0 n else .nil)
 row:∀a,a<i->ku S (g a) n (A a)
 inj:∀a c,a<i->c<i->g a=g c->a=c
def Eo.outer_ne(h:Eo S b g n i A){a:Nat}(c:a<i):b≠g a:=bG.ne h.outer (h.row a c) om
def Eo.set(h:Eo S b g n i A){a j:Nat}{z:Int}{g':Nat->AV}(k:a<i)(m:S (g a)=some ⟨2,1,n,g'⟩):Eo (S.upd (g a) ⟨2,1,n,bR g' j (.int .i64 z)⟩) b g n i (eQ A a j z):=by
 refine⟨h.outer.upd (h.outer_ne k) _,fun c d=>?_,h.inj⟩;by_cases e:c=a
 .subst e;obtain⟨r,l,o⟩:=h.row c d;rw[m]at l;cases l;refine bG.here fun t p=>?_;have:=o t p;simp only[bR,eQ]
  grind
 .have f:g c≠g a:=fun q=>e (h.inj c a d k q);refine((h.row c d).upd f _).congr fun t _=>?_;simp[eQ,e]
def Eo.new(h:Eo S b g n i A){c:Nat}(v:i<n)(k:S c=ab){m:Nat->AV}(o:S b=some ⟨29,1,n,m⟩)(s:∀j,j<n->A i j=0) :
  Eo ((S.upd c ⟨2,1,n,fun _=>.int .i64 0⟩).upd b ⟨29,1,n,bR m i (.sl 1 c 0 n)⟩) b (fun a=>if a=i then c else g a) n (i+1) A:=by
 have l:b≠c:=fun e=>by rw[<-e,o]at k;cases k
 obtain⟨w,p,t⟩:=h.outer;rw[o]at p;cases p;refine⟨bG.here fun a f=>?_,fun a f=>?_,fun a d f x e=>?_⟩
 .have:=t a f;simp only[bR];grind
 .by_cases e:a=i
  .subst e;simp only[aK];exact(bG.here fun j u=>by rw[s j u]).upd (aj l) _
  .simp only[e,aM];have r:=h.row a om;exact(r.upd (bG.fresh r k) _).upd (aj (h.outer_ne om)) _
 .have q:∀a,a<i->g a≠c:=fun a f=>bG.fresh (h.row a f) k;have:=h.inj
  grind
structure Uj(n i:Nat)(A:aH):Prop where
 sym:∀a c,A a c=A c a
 out:∀a c,i<=a∨i<=c->A a c=0
 diag:∀a,a<i->A a a=2
 small:∀a c,-9<=A a c/\A a c<=9
def ChI(S0 S:St)(b n i:Nat):Prop:=∃(g:Nat->Nat) (A:aH),Eo S b g n i A/\Uj n i A/\fM S0 S/\S0 b=ab/\∀a,a<i->S0 (g a)=ab
def Uj.next0(h:Uj n i A):Uj n (i+1) (eQ A i i 2):=by
 refine⟨fun a c=>?_,fun a c b=>?_,fun a d=>?_,fun a c=>?_⟩
 .have:=h.sym a c;simp only[eQ];grind
 .simp only[eQ];rw[af om];exact h.out a c om
 .simp only[eQ];by_cases e:a=i
  .simp[e]
  .rw[af om];exact h.diag a om
 .have:=h.small a c;simp only[eQ];split
  .omega
  .exact this
def Uj.next{m:Nat}(h:Uj n i A)(f:m<i):Uj n (i+1) (eQ (eQ (eQ A i i 2) i m (-1)) m i (-1)):=by
 have b:=h.next0;refine⟨fun a c=>?_,fun a c d=>?_,fun a e=>?_,fun a c=>?_⟩
 .have:=b.sym a c;simp only[eQ]at this ⊢;grind
 .have:=b.out a c d;simp only[eQ]at this ⊢;grind
 .have:=b.diag a e;simp only[eQ]at this ⊢;grind
 .have:=b.small a c;simp only[eQ]at this ⊢;grind
def AD(S0:St)(n:Nat)(fork:Bool)(hn:n<=8):cZ 149 [.int .i64 n,.bool fork] S0 (fun r S'=>∃b,r=.sl 1 b 0 n/\ChI S0 S' b n n):=by
 refine jI func149 ntmps149 results149 ?_;simp -dsimp only[go_sem]
 repeat refine an ?_
 refine aG.intro fun N f5=>?_;simp only[go_sem];refine aI (fun O S=>∃i:Nat,i<=n/\O 0=.int .i64 n/\O 1=.bool fork/\O 5=.sl 1 N 0 n/\O 11=.int .i64 n/\O 12=.int .i64 i/\ChI S0 S N n i) (fun O S=>n-co (O 12)) ?_ ?_
 .simp only[go_sem];exact⟨0,om,rfl,fun _=>0,fun _ _=>0,⟨bG.here fun _ _=>by simp,fun a X=>om,fun a c X=>om⟩,⟨fun _ _=>rfl,fun _ _ _=>rfl,fun a X=>om,fun _ _=>om⟩,(fM.refl S0).upd f5 _,f5,fun a X=>om⟩
 .rintro O S ⟨i,hi,Y,T,Z,I,J,g,A,y,K,L,v,G⟩;by_cases p:i<n
  .obtain⟨U,M,v1⟩:=y.outer;simp -dsimp only[*,go_sem,aa]
   repeat refine an ?_
   refine aG.intro fun B o=>?_;have k:N≠B:=fun e=>by rw[<-e,M]at o;cases o
   have hM1:=y.new p o M (fun j _=>K.out i j om);have hE1:=(L.upd (L.none o) ⟨2,1,n,fun _=>.int .i64 0⟩).upd v ⟨29,1,n,bR U i (.sl 1 B 0 n)⟩;have hw1:IntKind.i64.wrap ((i:Int)-1)=(i:Int)-1:=i64_in om om;have hw2:IntKind.i64.wrap ((i:Int)-2)=(i:Int)-2:=i64_in om om;have C:IntKind.i64.wrap ((n:Int)-1)=(n:Int)-1:=i64_in om om;have D:∀a,a<i+1->S0 ((fun a=>if a=i then B else g a) a)=ab:=fun a X=>by
    by_cases e:a=i
    .simp only[e,aK];exact L.none o
    .simp only[e,aM];exact G a om
   have w:=hM1.set (a:=i) (j:=i) (z:=2) (g':=fun _=>.int .i64 0) om (by simp only[aK];rw[aO (aj k)];exact cp)
   simp only[aK]at w;have E:=hE1.upd (L.none o) ⟨2,1,n,bR (fun _=>.int .i64 0) i (.int .i64 2)⟩;by_cases hB:fork=true/\i+1=n/\3<n
   .obtain⟨rfl,V,h3⟩:=hB;obtain⟨m,hm⟩:∃m,i=m+2:=⟨i-2,om⟩
    have P:((i:Int)==(n:Int)-1)=true:=by simp;omega
    have q2:(3:Int)<(n:Int):=om
    have H:IntKind.i64.wrap ((i:Int)-2)=(m:Nat):=eF om om;simp -dsimp only[go_sem,p,nn k,M,bR,C,hw1,P,q2,H];have q:m<n:=om
    have l:=w.set (a:=i) (j:=m) (z:=-1) (g':=bR (fun _=>.int .i64 0) i (.int .i64 2)) om (by simp only[aK];exact cp)
    simp only[aK]at l;obtain⟨gm,um,vm⟩:=l.row m om;have d:m≠i:=om
    simp only[d,aM]at um vm;have s:=l.set (a:=m) (j:=i) (z:=-1) (g':=gm) om (by simp only[d,aM];exact um)
    simp only[d,aM]at s;have wm:U m=.sl 1 (g m) 0 n:=by rw[v1 m q];simp only[];rw[ah om]
    have f:g m≠B:=bG.fresh (y.row m om) o;have t:g m≠N:=aj (y.outer_ne om);obtain⟨F,u,Q⟩:=y.row m om;obtain rfl:F=gm:=by
     rw[aO f,aO f,aO t,aO f,u]at um;cases um;rfl
    refine ie 11 kr ?_
    simp only[go_sem,aa,Y,T,Z,I,J,p,k,bR,q,wm,f,t,u,d,aS (om:i<1000000),co]
    exact⟨⟨i+1,om,rfl,_,_,s,K.next om,(E.upd (L.none o) _).upd (G m om) _,v,D⟩,om⟩
   .cases R:fork with
    | false =>
     rw[R]at T;rcases bn i with x|x
     .have H:IntKind.i64.wrap ((i:Int)-1)=-1:=by rw[x];decide
      have W:¬((0:Int)<=-1):=by decide
      simp only[go_sem,p,nn k,M,bR,C,H,W,aS (om:i<1000000),co]
      exact⟨⟨i+1,om,rfl,_,_,w,K.next0,E,v,D⟩,om⟩
     .obtain⟨m,hm⟩:∃m,i=m+1:=⟨i-1,om⟩
      have H:IntKind.i64.wrap ((i:Int)-1)=(m:Nat):=eF om om;simp -dsimp only[go_sem,p,nn k,M,bR,C,H];have q:m<n:=om
      have l:=w.set (a:=i) (j:=m) (z:=-1) (g':=bR (fun _=>.int .i64 0) i (.int .i64 2)) om (by simp only[aK];exact cp)
      simp only[aK]at l;obtain⟨gm,um,vm⟩:=l.row m om;have d:m≠i:=om
      simp only[d,aM]at um vm;have s:=l.set (a:=m) (j:=i) (z:=-1) (g':=gm) om (by simp only[d,aM];exact um)
      simp only[d,aM]at s;have wm:U m=.sl 1 (g m) 0 n:=by rw[v1 m q];simp only[];rw[ah om]
      have f:g m≠B:=bG.fresh (y.row m om) o;have t:g m≠N:=aj (y.outer_ne om);obtain⟨F,u,Q⟩:=y.row m om;obtain rfl:F=gm:=by
       rw[aO f,aO f,aO t,aO f,u]at um;cases um;rfl
      refine ie 11 kr ?_
      simp only[go_sem,aa,Y,T,Z,I,J,p,k,bR,q,wm,f,t,u,d,aS (om:i<1000000),co]
      exact⟨⟨i+1,om,rfl,_,_,s,K.next om,(E.upd (L.none o) _).upd (G m om) _,v,D⟩,om⟩
    | true =>
     rw[R]at T;by_cases V:i+1=n
     .have P:((i:Int)==(n:Int)-1)=true:=by simp;omega
      have h3:¬3<n:=fun h=>hB ⟨R,V,h⟩;have q2:¬(3:Int)<(n:Int):=om
      rcases bn i with x|x
      .have H:IntKind.i64.wrap ((i:Int)-1)=-1:=by rw[x];decide
       have W:¬((0:Int)<=-1):=by decide
       simp only[go_sem,p,nn k,M,bR,C,P,q2,H,W,aS (om:i<1000000),co]
       exact⟨⟨i+1,om,rfl,_,_,w,K.next0,E,v,D⟩,om⟩
      .obtain⟨m,hm⟩:∃m,i=m+1:=⟨i-1,om⟩
       have H:IntKind.i64.wrap ((i:Int)-1)=(m:Nat):=eF om om;simp -dsimp only[go_sem,p,nn k,M,bR,C,P,q2,H];have q:m<n:=om
       have l:=w.set (a:=i) (j:=m) (z:=-1) (g':=bR (fun _=>.int .i64 0) i (.int .i64 2)) om (by simp only[aK];exact cp)
       simp only[aK]at l;obtain⟨gm,um,vm⟩:=l.row m om;have d:m≠i:=om
       simp only[d,aM]at um vm;have s:=l.set (a:=m) (j:=i) (z:=-1) (g':=gm) om (by simp only[d,aM];exact um)
       simp only[d,aM]at s;have wm:U m=.sl 1 (g m) 0 n:=by rw[v1 m q];simp only[];rw[ah om]
       have f:g m≠B:=bG.fresh (y.row m om) o;have t:g m≠N:=aj (y.outer_ne om);obtain⟨F,u,Q⟩:=y.row m om;obtain rfl:F=gm:=by
        rw[aO f,aO f,aO t,aO f,u]at um;cases um;rfl
       refine ie 11 kr ?_
       simp only[go_sem,aa,Y,T,Z,I,J,p,k,bR,q,wm,f,t,u,d,aS (om:i<1000000),co]
       exact⟨⟨i+1,om,rfl,_,_,s,K.next om,(E.upd (L.none o) _).upd (G m om) _,v,D⟩,om⟩
     .have P:((i:Int)==(n:Int)-1)=false:=by simp;omega
      rcases bn i with x|x
      .have H:IntKind.i64.wrap ((i:Int)-1)=-1:=by rw[x];decide
       have W:¬((0:Int)<=-1):=by decide
       simp only[go_sem,p,nn k,M,bR,C,P,H,W,aS (om:i<1000000),co]
       exact⟨⟨i+1,om,rfl,_,_,w,K.next0,E,v,D⟩,om⟩
      .obtain⟨m,hm⟩:∃m,i=m+1:=⟨i-1,om⟩
       have H:IntKind.i64.wrap ((i:Int)-1)=(m:Nat):=eF om om;simp -dsimp only[go_sem,p,nn k,M,bR,C,P,H];have q:m<n:=om
       have l:=w.set (a:=i) (j:=m) (z:=-1) (g':=bR (fun _=>.int .i64 0) i (.int .i64 2)) om (by simp only[aK];exact cp)
       simp only[aK]at l;obtain⟨gm,um,vm⟩:=l.row m om;have d:m≠i:=om
       simp only[d,aM]at um vm;have s:=l.set (a:=m) (j:=i) (z:=-1) (g':=gm) om (by simp only[d,aM];exact um)
       simp only[d,aM]at s;have wm:U m=.sl 1 (g m) 0 n:=by rw[v1 m q];simp only[];rw[ah om]
       have f:g m≠B:=bG.fresh (y.row m om) o;have t:g m≠N:=aj (y.outer_ne om);obtain⟨F,u,Q⟩:=y.row m om;obtain rfl:F=gm:=by
        rw[aO f,aO f,aO t,aO f,u]at um;cases um;rfl
       refine ie 11 kr ?_
       simp only[go_sem,aa,Y,T,Z,I,J,p,k,bR,q,wm,f,t,u,d,aS (om:i<1000000),co]
       exact⟨⟨i+1,om,rfl,_,_,s,K.next om,(E.upd (L.none o) _).upd (G m om) _,v,D⟩,om⟩
  .obtain rfl:i=n:=om
   simp only[*,go_sem,aa];exact⟨N,rfl,g,A,y,K,L,v,G⟩

def nb9(h:-9<=z/\z<=9):nb z 4:=by unfold nb;omega
def RQ(h:-9<=z/\z<=9):ta z:=by unfold ta;omega
def JU(n:Nat)(A:aH)(d:1<=n)(l:n<=8)(m:∀a c,a<n->c<n->A a c=A c a)(o:∀a c,a<n->c<n->-9<=A a c/\A a c<=9)(β:Bool)(hβ:β=true↔(∀k,k<=n->0<det k A)/\det n A<=10000):PF 152 [aC n n A] (.bool β):=by
 refine jo func152 ntmps152 results152 ?_;have b:∀i j,i<n->j<n->nb (A i j) 4:=fun i j f g=>nb9 (o i j f g);have p:=oO (k:=n) (n:=n) om b (ae _);have q:nb 10000 (17*(4+10)):=dK (by decide:10000<2^14) (cu om om)
 simp -dsimp only[go_sem,aa];refine(tc n n A d om d om (fun i j f g=>RQ (o i j f g))).call ?_;simp -dsimp only[go_sem,aa];rcases jq (∀k,k<=n->0<det k A)with e|e
 .refine(oW n A 4 d l b om m true (by simp;exact e)).call ?_
  simp -dsimp only[go_sem,aa,show((0:Int)==0)=true from rfl];refine(iu n A 4 d om b om).call ?_;simp -dsimp only[go_sem,aa,show((0:Int)==0)=true from rfl];refine(gQ dc dc).call ?_
  simp -dsimp only[go_sem,aa,show((0:Int)==0)=true from rfl];refine(nI p q om).call ?_;simp only[go_sem,show((0:Int)==0)=true from rfl,DZ];have:β=decide (det n A<=10000):=by
   cases β with
   | true=>have:=(hβ.1 rfl).2;simp[this]
   | false =>
    by_cases h:det n A<=10000
    .exact absurd (hβ.2 ⟨e,h⟩) sm
    .simp[h]
  rw[this];exact VR.mf rfl
 .refine(oW n A 4 d l b om m false (by simp only[bK,Vp];exact e)).call ?_
  simp only[go_sem,show((5:Int)==0)=false from rfl];have:β=false:=by
   cases β with
   | false=>rfl
   | true=>exact absurd (hβ.1 rfl).1 e
  rw[this];exact VR.mf rfl
structure SH(n:Nat)(A:aH):Prop where
 one:1<=n
 five:n<=5
 sym:∀a c,a<n->c<n->A a c=A c a
 pos:∀k,k<=n->0<det k A
 small:det n A<=10000
 diag:∀i,i<n->A i i<=9
 ent:∀a c,a<n->c<n->-9<=A a c/\A a c<=9
def Nb(h:∀i,i<n->0<f i/\f i<=2):gF n f<=2^n:=by
 induction n generalizing f with
 | zero=>simp[gF]
 | succ n ih =>
  simp only[gF];have a:=ih (f:=fun i=>f (i+1)) (fun i b=>h (i+1) om);have c:=wt (n:=n) (f:=fun i=>f (i+1)) (fun i b=>(h (i+1) om).1);have d:=da (h 0 om).2 a (cC c) om;rw[gC];omega
def CW.det{most:Nat}(h:CW n most A){k:Nat}(c:k<=n):det k A=gF k (fun r=>A r r):=by
 have a:=qy (n:=0) k A (by rw[az];exact fun r d=>⟨fun j e b=>(h r om).2 j om om,by have:=(h r om).1.1;omega⟩)
 rw[az]at a;rw[a,show Go.Proofs.YtdobfmlmenaajaaGreatDoor.det 0 _=1 from rfl,iN]
def CW.good(h:CW n 2 A)(l:1<=n)(j:n<=5):SH n A:=by
 have m:∀k,k<=n->0<Go.Proofs.YtdobfmlmenaajaaGreatDoor.det k A:=fun k o=>by
  rw[h.det o];exact wt fun i d=>by have:=(h i om).1.1;omega
 refine⟨l,j,fun a c b g=>?_,m,?_,fun i d=>by have:=(h i d).1.2;omega,fun a c b g=>?_⟩
 .by_cases e:a=c
  .rw[e]
  .rw[(h a b).2 c g (aj e),(h c g).2 a b e]
 .rw[h.det (ae _)];have p:=Nb (n:=n) (f:=fun r=>A r r) (fun i d=>by have:=(h i d).1;constructor<;>omega)
  have q:=iY j;have s:(2:Int)^5=32:=by decide
  omega
 .by_cases e:c=a
  .have:=(h a b).1;rw[e];omega
  .rw[(h a b).2 c g e];omega
def P8(d k L:Nat)(nums:Nat->Int)(Lb:Nat)(base:Nat->AV):AV:=.agg [.int .u8 d,.int .u8 k,.lst 1 L (fun i=>.int .i8 (nums i)),.lst 1 Lb base]
def EIM(f:Nat)(args:List AV)(P:Nat->aH->Prop):Prop:=∀S args',fH S args' args->cZ f args' S (fun r S'=>∃b g n A,P n A/\r=.sl 1 b 0 n/\qL S S' b g n n A)
def EIM.of{f:Nat}(h:cZ f args St.none (fun r S'=>∃b g n A,P n A/\r=.sl 1 b 0 n/\dZ S' b g n n A)):EIM f args P:=fun S args' d=>by
 have i:cZ f args St.none (fun r S'=>∃b g n A,P n A/\r=.sl 1 b 0 n/\dZ S' b g n n A/\Kq S'):=h.less fun r S' ⟨b,g,n,A,c,e,a⟩=>⟨ik S' b g n,jQ S' b g n,b,g,n,A,c,e,a.only.1,a.only.2⟩;refine(i.frame d ?_).mono ?_
 .rintro r S1 ⟨b,g,n,A,_,rfl,_,j⟩;exact⟨rfl,j⟩
 .rintro r S' ⟨S1,⟨b,g,n,A,c,rfl,a,_⟩,k,rfl⟩;exact⟨b,g,n,A,c,rfl,a.join k⟩
def Ou{a b c d e r:Code}(P:Tm->St->Prop)(h:∀r' Q',Q'=Q->(∀O S,P O S->Aw r' Q' O S)->Aw (.seq a (.seq b (.seq c (.seq d (.seq e r'))))) Q' O S)(f:∀O S,P O S->Aw r Q O S) :
  Aw (.seq a (.seq b (.seq c (.seq d (.seq e r))))) Q O S:=h r Q rfl f
def DrawI(n:Nat)(O:Tm)(S:St):Prop:=∃(b5 b ps:Nat) (g:Nat->Nat) (A:aH),O 5=.ptr 1 b5 0/\O 6=.int .i64 n/\O 7=.sl 1 b 0 n/\dZ S b g n n A/\iV S b5 ps/\ps<=100/\(∀a c,a<n->c<n->A a c=A c a)/\∀a c,a<n->c<n->-9<=A a c/\A a c<=9
def xU{z:Nat}{b5 ps:Nat}(e:p<n)(k:z<=3)(f:dZ S b g n n A)(h:iV S b5 ps)(d:g p≠b5)(u:S (g p)=some ⟨2,1,n,g2⟩)(i:∀a c,A a c=A c a)(j:∀a c,-9<=A a c/\A a c<=9) :
  dZ (S.upd (g p) ⟨2,1,n,bR g2 p (.int .i64 ((2+z:Nat):Int))⟩) b g n n (eQ A p p ((2+z:Nat):Int))/\iV (S.upd (g p) ⟨2,1,n,bR g2 p (.int .i64 ((2+z:Nat):Int))⟩) b5 ps/\(∀a c,a<n->c<n->eQ A p p ((2+z:Nat):Int) a c=eQ A p p ((2+z:Nat):Int) c a)/\∀a c,a<n->c<n->-9<=eQ A p p ((2+z:Nat):Int) a c/\eQ A p p ((2+z:Nat):Int) a c<=9:=by
 refine⟨f.set e u,h.upd (aj d) _,fun a c _ _=>?_,fun a c _ _=>?_⟩
 .have:=i a c;simp only[eQ];grind
 .have:=j a c;simp only[eQ];split
  .omega
  .exact this
def OM(M d k L:Nat)(nums:Nat->Int)(Lb:Nat)(base:Nat->AV)(h:1<=M)(hM5:M<=5)(hd:d<256)(hk:k<256)(hnums:∀i,i<L->-128<=nums i/\nums i<=127):EIM 89 [P8 d k L nums Lb base,.int .i64 M] (fun n A=>SH n A/\n<=M):=by
 refine EIM.of ?_;refine jI func89 ntmps89 results89 ?_;obtain⟨n,hn,hnd⟩:∃n,n=1+d%M/\1+d%M=n:=⟨_,rfl,rfl⟩;have hml:=dh d (om:0<M)
 have V:n<=M:=om
 have W:n<=5:=om
 have hnn:n*n<=25:=aV W W;have R:IntKind.i64.wrap (d:Int)=(d:Nat):=i64_in om om;have T:eI (d:Int) (M:Int)=((d%M:Nat):Int):=by rw[jC]
 have U:IntKind.i64.wrap (1+((d%M:Nat):Int))=(n:Nat):=eF om om;have hMz:¬((M:Int)=0):=om
 have w4:eI (k:Int) 8=((k%8:Nat):Int):=by rw[jC]<;>rfl
 refine Ou (DrawI n) (fun r' Q' _ key=>?_) ?_
 .simp -dsimp only[go_sem,aa,P8,a8,aR,cG,cP];refine aG.intro fun b2 f2=>?_;simp -dsimp only[go_sem,bS,bH];refine aG.intro fun l f5=>?_;have n5_2:=(ag f5).1;have y:iV ((St.none.upd b2 ⟨24,1,4,fun j=>[AV.int .u8 d,.int .u8 k,.lst 1 L (fun i=>.int .i8 (nums i)),.lst 1 Lb base].getD j .any⟩).upd l ⟨107,1,2,fun j=>[AV.lst 1 L (fun i=>.int .i8 (nums i)),.int .i64 0].getD j .any⟩) l 0:=⟨L,nums,0,_,cp,rfl,rfl,ae _,hnums⟩;obtain⟨q,hq,hq8⟩:∃q:Int,q=((k%8:Nat):Int)/\((q=0∨q=1∨q=2∨q=3)∨q=4∨q=5∨q=6∨q=7):=⟨_,rfl,om⟩
  rw[<-hq]at w4;simp -dsimp only[go_sem,aj n5_2,bS,bH,R,T,U,w4,hMz,show ¬((8:Int)=0) by decide]
  clear hq w4;have Y:∀{A:aH} {m:Nat},m<=9->CW n m A->(∀a c,a<n->c<n->A a c=A c a)/\∀a c,a<n->c<n->-9<=A a c/\A a c<=9:=by
   intro A m hm G;refine⟨fun a c o hc=>?_,fun a c o hc=>?_⟩
   .by_cases e:a=c
    .rw[e]
    .rw[(G a o).2 c hc (aj e),(G c hc).2 a o e]
   .by_cases e:c=a
    .have:=(G a o).1;rw[e];omega
    .rw[(G a o).2 c hc e];omega
  rcases hq8 with (rfl|rfl|rfl|rfl)|rfl|rfl|rfl|rfl
  case inl.inl|inl.inr.inl|inl.inr.inr.inl|inl.inr.inr.inr =>
   simp -dsimp only[go_sem,iM];refine(DK _ l 0 n y om om).mono ?_;rintro r S1 ⟨b,rfl,g,A,D,u,Z,E,F,hP⟩;simp only[go_sem,R,T,U];refine key _ _ ?_;exact⟨l,b,_,g,A,by simp only[go_sem],by simp only[go_sem],by simp only[go_sem],D,u,om,hP.sym,hP.small⟩
  case inr.inl =>
   simp -dsimp only[go_sem,iM];refine(AD _ n false om).mono ?_;rintro r S1 ⟨b,rfl,g,A,v,H,hE,E,F⟩;have h:dZ S1 b g n n A:=⟨v.outer.congr fun a o=>by simp[o],v.row,v.inj⟩
   have w:iV S1 l 0:=y.step ((hE _ _ cp).trans cp.symm);have t:(0:Nat)<n:=om
   obtain⟨g1,I,v1⟩:=h.outer;obtain⟨g2,u2,v2⟩:=h.row 0 t;have x1:g1 0=.sl 1 (g 0) 0 n:=v1 0 t;have x2:g2 0=.int .i64 2:=by rw[v2 0 t];simp only[H.diag 0 t]
   simp -dsimp only[go_sem,R,T,U];refine fQ 6 [[0,1,2,3,4],[0,1],[]] kr ?_
   simp -dsimp only[go_sem,aa,I,u2,x1,x2,show((0:Int)<(n:Int)) by omega,oa]
   repeat refine an ?_
   refine(tL _ l 0 3 w om om om).mono ?_;rintro r S2 ⟨z,hz,rfl,J,s⟩;have B:l≠b:=w.ne I om;have x:∀a,a<n->g a≠l:=fun a o=>by obtain⟨gg,K,_⟩:=h.row a o;exact aj (w.ne K om)
   have N:dZ S2 b g n n A:=⟨h.outer.via fun X P=>by rw[s b (aj B)];exact P,fun a o=>(h.row a o).via fun X P=>by rw[s _ (x a o)];exact P,h.inj⟩
   have Q:S2 b=some ⟨29,1,n,g1⟩:=by rw[s b (aj B)];exact I
   have C:S2 (g 0)=some ⟨2,1,n,g2⟩:=by rw[s _ (x 0 t)];exact u2
   have wz:IntKind.i64.wrap (2+(z:Int))=((2+z:Nat):Int):=eF om om;simp only[go_sem,aa,Q,C,x1,x2,wz,show((0:Int)<(n:Int)) by omega,oa]
   repeat refine an ?_
   obtain⟨k1,k2,k3⟩:=xU (z:=z) t om N J (x 0 t) C H.sym H.small;refine key _ _ ?_;exact⟨l,b,_,g,_,by simp only[go_sem],by simp only[go_sem],by simp only[go_sem],k1,k2,om,k3⟩
  case inr.inr.inl =>
   simp -dsimp only[go_sem,iM];refine(AD _ n true om).mono ?_;rintro r S1 ⟨b,rfl,g,A,v,H,hE,E,F⟩;have h:dZ S1 b g n n A:=⟨v.outer.congr fun a o=>by simp[o],v.row,v.inj⟩
   have w:iV S1 l 0:=y.step ((hE _ _ cp).trans cp.symm);obtain⟨p,hpn⟩:∃p,n=p+1:=⟨n-1,om⟩
   have t:p<n:=om
   have wp:IntKind.i64.wrap ((n:Int)-1)=(p:Nat):=eF om om;obtain⟨g1,I,v1⟩:=h.outer;obtain⟨g2,u2,v2⟩:=h.row p t;have x1:g1 p=.sl 1 (g p) 0 n:=v1 p t;have x2:g2 p=.int .i64 2:=by rw[v2 p t];simp only[H.diag p t]
   simp -dsimp only[go_sem,R,T,U];refine fQ 10 [[0,1,2,3,4,5,6,7,8],[0,1,2,3,5],[]] kr ?_
   simp -dsimp only[go_sem,aa,I,u2,x1,x2,wp,t];refine(tL _ l 0 2 w om om om).mono ?_;rintro r S2 ⟨z,hz,rfl,J,s⟩;have B:l≠b:=w.ne I om;have x:∀a,a<n->g a≠l:=fun a o=>by obtain⟨gg,K,_⟩:=h.row a o;exact aj (w.ne K om)
   have N:dZ S2 b g n n A:=⟨h.outer.via fun X P=>by rw[s b (aj B)];exact P,fun a o=>(h.row a o).via fun X P=>by rw[s _ (x a o)];exact P,h.inj⟩
   have Q:S2 b=some ⟨29,1,n,g1⟩:=by rw[s b (aj B)];exact I
   have C:S2 (g p)=some ⟨2,1,n,g2⟩:=by rw[s _ (x p t)];exact u2
   have wz:IntKind.i64.wrap (2+(z:Int))=((2+z:Nat):Int):=eF om om;simp only[go_sem,aa,Q,C,x1,x2,wz,wp,t];obtain⟨k1,k2,k3⟩:=xU (z:=z) t om N J (x p t) C H.sym H.small;refine key _ _ ?_;exact⟨l,b,_,g,_,by simp only[go_sem],by simp only[go_sem],by simp only[go_sem],k1,k2,om,k3⟩
  case inr.inr.inr.inl =>
   simp -dsimp only[go_sem,iM];refine(mL _ l 0 n 9 y om om om).mono ?_;rintro r S1 ⟨b,g,A,rfl,D,u,Z,G,E,F⟩;have f:=Y om G;simp only[go_sem,R,T,U];refine key _ _ ?_;exact⟨l,b,_,g,A,by simp only[go_sem],by simp only[go_sem],by simp only[go_sem],D,u,om,f⟩
  case inr.inr.inr.inr =>
   simp -dsimp only[go_sem,iM];refine(mL _ l 0 n 1 y om om om).mono ?_;rintro r S1 ⟨b,g,A,rfl,D,u,Z,G,E,F⟩;have f:=Y om G;simp only[go_sem,R,T,U];refine key _ _ ?_;exact⟨l,b,_,g,A,by simp only[go_sem],by simp only[go_sem],by simp only[go_sem],D,u,om,f⟩
 rintro O S ⟨l,b,ps,g,A,e5,e6,e7,D,u,hps,f⟩;simp -dsimp only[go_sem,aa,e7];rcases jq ((∀k,k<=n->0<det k A)/\det n A<=10000)with hg|hg
 .refine(JU n A om om f.1 f.2 true (by simp only[true_iff];exact hg)).spec (fH.cons D.vr.va fH.nil) ?_
  simp only[go_sem,aa,e5,e6,e7];exact⟨b,g,n,A,⟨om,om,f.1,hg.1,hg.2,fun i hi=>(f.2 i i hi hi).2,f.2⟩,V,rfl,D⟩
 .refine(JU n A om om f.1 f.2 false (by simp only[bK,Vp];exact hg)).spec (fH.cons D.vr.va fH.nil) ?_
  simp -dsimp only[go_sem,aa,e5,e6,e7];refine(mL _ l _ n 2 u om om om).mono ?_;rintro r S9 ⟨b',g',A',rfl,hM',hTp',hFr',hD',_,_⟩;simp only[go_sem];exact⟨b',g',n,A',hD'.good om om,V,rfl,hM'⟩

def Lm(c:0<m):a%m=if a.tmod m<0 then a.tmod m+m else a.tmod m:=by
 have e:=ye a m;have h:=tW (a:=a) (b:=m) om;split
 .refine(pO (a:=a) (b:=m) (q:=a.tdiv m-1) (r:=a.tmod m+m) ?_ om om).2;rw[pw,iN];omega
 .exact(pO (a:=a) (b:=m) (q:=a.tdiv m) (r:=a.tmod m) om om om).2
def Ep(c:0<m)(d:m<=1000000000000):PF 35 [.int .i64 a,.int .i64 m] (.int .i64 (a%m)):=by
 refine jo func35 ntmps35 results35 ?_;rw[Lm c];have h:=tW (a:=a) (b:=m) om;by_cases e:a.tmod m<0
 .have f:IntKind.i64.wrap (a.tmod m+m)=a.tmod m+m:=i64_in om om;simp only[*,go_sem,(om:¬(m=0))]
  exact VR.mf rfl
 .simp only[go_sem,(om:¬(m=0)),e]
  exact VR.mf rfl
def Db{a m:Nat}:eI (a:Int) (m:Int)=((a%m:Nat):Int):=by rw[jC]
def Is_pf(p:Nat)(q:2<=p)(j:p<=900)(β:Bool)(hβ:β=true↔∀d,2<=d->d*d<=p->¬p%d=0):PF 240 [.int .i64 p] (.bool β):=by
 refine jo func240 ntmps240 results240 ?_;simp only[go_sem,(om:¬((p:Int)<2)),(om:¬((2147483647:Int)<p))]
 refine aI (fun O S=>∃d:Nat,2<=d/\d<=31/\O 0=.int .i64 p/\O 3=.int .i64 d/\∀e,2<=e->e<d->¬p%e=0) (fun O S=>32-co (O 3)) ?_ ?_
 .simp only[go_sem];exact⟨2,om,om,rfl,fun e c g=>om⟩
 .rintro O S ⟨d,k,b,r,s,a⟩;have l:d*d<=31*31:=aV b b;have t:IntKind.i64.wrap ((d:Int)*d)=((d*d:Nat):Int):=eF (by rw[bF]) om
  have m:¬((d:Int)=0):=om
  by_cases f:d*d<=p
  .have n:d<31:=by
    rcases aF d 31 with h|h
    .exact h
    .have:31*31<=d*d:=aV h h;omega
   by_cases i:p%d=0
   .simp only[*,go_sem,aa,l7,Db,show((((0:Nat)):Int)==0)=true from rfl];have:β=false:=by
     cases β with
     | false=>rfl
     | true=>exact absurd i (hβ.1 rfl d k f)
    rw[this];exact VR.mf rfl
   .have o:(((p%d:Nat):Int)==0)=false:=by simp;omega
    simp only[*,go_sem,aa,l7,Db,aS (om:d<1000000),co]
    refine⟨⟨d+1,om,om,rfl,fun e c g=>?_⟩,om⟩
    by_cases e':e=d
    .rw[e'];exact i
    .exact a e c om
  .simp only[*,go_sem,aa,l7];have:β=true:=hβ.2 fun e c g=>a e c (by
    rcases aF e d with h|h
    .exact h
    .have:=aV h h;omega)
   rw[this];exact VR.mf rfl
def Jy(p:Nat):Prop:=2<=p/\∀d,2<=d->d*d<=p->¬p%d=0
def IL(p:Nat)(b:2<=p)(a:p<=900)(β:Bool)(hβ:β=true↔Jy p):PF 202 [.int .i64 p] (.bool β):=by
 refine jo func202 ntmps202 results202 ?_;simp -dsimp only[go_sem,aa,show(p:Int)<=9973 by omega]
 refine(Is_pf p b a β (by rw[hβ];unfold Jy;simp[b])).call ?_
 simp only[go_sem,show(p:Int)<=9973 by omega]
 exact VR.mf rfl
def OH(p:Nat)(c:3<=p)(a:p<=900)(β:Bool)(hβ:β=true↔Jy p):PF 153 [.int .i64 p] (.bool β):=by
 refine jo func153 ntmps153 results153 ?_;have b:((p:Int) != 2)=true:=by simp;omega
 simp -dsimp only[go_sem,aa,b];refine(IL p om a β hβ).call ?_;simp only[go_sem,b];exact VR.mf rfl
def I2(n:Nat)(H:aH):Prop:=∀i j,i<n->j<n->((H i j).natAbs:Int)<=118098
def I2.nb(h:I2 n H){i j:Nat}(a:i<n)(b:j<n):nb (H i j) 17:=by
 have:=h i j a b;unfold Go.Proofs.YtdobfmlmenaajaaGreatDoor.nb;omega
def I2.r64(h:I2 n H){i j:Nat}(a:i<n)(b:j<n):ta (H i j):=by
 have:=h i j a b;unfold ta;omega
def OS(n:Nat)(H:aH)(a:1<=n)(e:n<=8)(d:I2 n H)(f:0<det n H/\det n H<=10000):PF 31 [aC n n H] (.int .i64 (det n H)):=by
 refine jo func31 ntmps31 results31 ?_;simp -dsimp only[go_sem,aa];refine(tc n n H a om a om (fun i j b c=>d.r64 b c)).call ?_;simp -dsimp only[go_sem,aa];refine(iu n H 17 a om (fun i j b c=>d.nb b c) om).call ?_;simp -dsimp only[go_sem,aa];refine(Ck (by unfold iT;omega)).call ?_
 simp only[go_sem];exact VR.mf rfl
def Et(n p:Nat)(H:aH)(d:1<=n)(e:n<=8)(f:I2 n H)(g:0<det n H/\det n H<=10000)(c:3<=p)(b:p<=900)(β:Bool)(hβ:β=true↔Jy p/\¬det n H%p=0):PF 90 [aC n n H,.int .i64 p] (.bool β):=by
 refine jo func90 ntmps90 results90 ?_;simp -dsimp only[go_sem,aa];rcases jq (Jy p)with a|a
 .refine(OH p c b true (by simp[a])).call ?_
  simp -dsimp only[go_sem,aa];refine(OS n H d e f g).call ?_;have i:(det n H).tmod (p:Int)=det n H%p:=aN om;have j:β=(det n H%(p:Int) != 0):=by
   cases β with
   | true=>have:=(hβ.1 rfl).2;simp[this]
   | false =>
    by_cases h:det n H%(p:Int)=0
    .simp[h]
    .exact absurd (hβ.2 ⟨a,h⟩) sm
  simp only[go_sem,(om:¬((p:Int)=0)),i]
  rw[j];exact VR.mf rfl
 .refine(OH p c b false (by simp[a])).call ?_
  simp only[go_sem];have:β=false:=by
   cases β with
   | false=>rfl
   | true=>exact absurd (hβ.1 rfl).1 a
  rw[this];exact VR.mf rfl
def LX(n p:Nat)(l:n<=8)(e:1<=p)(c:p<=900):PF 91 [.int .i64 n,.int .i64 p] (.bool (decide (p^n<=65536))):=by
 refine jo func91 ntmps91 results91 ?_;simp only[go_sem];refine aI (fun O S=>∃i:Nat,i<=n/\p^i<=65536/\O 0=.int .i64 n/\O 1=.int .i64 p/\O 5=.int .i64 ((p^i:Nat):Int)/\O 6=.int .i64 i) (fun O S=>n-co (O 6)) ?_ ?_
 .simp only[go_sem];exact⟨0,om,sm,sm,rfl⟩
 .rintro O S ⟨i,m,a,f,g,h,j⟩;by_cases b:i<n
  .have o:p^i*p<=65536*900:=aV a c;have q:IntKind.i64.wrap (((p^i:Nat):Int)*p)=((p^(i+1):Nat):Int):=eF (by rw[cf,bF]) (by rw[cf];omega)
   by_cases k:p^(i+1)<=65536
   .simp only[*,go_sem,(om:¬((65536:Int)<((p^(i+1):Nat):Int))),aS (om:i<1000000),co]
    exact⟨⟨i+1,om,k,rfl,rfl⟩,om⟩
   .simp only[*,go_sem,show((65536:Int)<((p^(i+1):Nat):Int)) by omega]
    have:p^(i+1)<=p^n:=cu e b;have d:decide (p^n<=65536)=false:=by simp;omega
    rw[d];exact VR.mf rfl
  .obtain rfl:i=n:=om
   simp only[go_sem,f,g,h,j,b];have d:decide (p^i<=65536)=true:=by simp;exact a
   rw[d];exact VR.mf rfl
def AL{s b:Int}:(s%m+(a%m)*(b%m)%m)%m=(s+a*b)%m:=by
 rw[SE s,fP a b]
def Aj(n m:Nat)(H:aH)(v:Nat->Int)(J:n<=8)(K:1<=m)(q:m<=100000):PF 60 [aC n n H,aW n v,.int .i64 m] (aW n (fun i=>(aq n fun j=>H i j*v j)%m)):=by
 refine jo func60 ntmps60 results60 ?_;have r:¬((m:Int)=0):=om
 simp only[go_sem,aC,aW];refine aI (fun O S=>∃(i:Nat) (x:AV),i<=n/\O 1=aW n v/\O 2=.int .i64 m/\O 7=x/\O 13=aC n n H/\O 14=.int .i64 n/\O 15=.int .i64 i/\c8 2 1 St.none S x i (fun i=>.int .i64 ((aq n fun j=>H i j*v j)%m))) (fun O S=>n-co (O 15)) ?_ ?_
 .simp only[go_sem,aC,aW];exact⟨0,om,rfl,c8.nil (fM.noneS _) _⟩
 .rintro O S ⟨i,x,L,s,t,u,e,f,g,k⟩;by_cases w:i<n
  .simp only[*,go_sem,aC,aW];refine aI (fun O S'=>∃j:Nat,j<=n/\O 1=aW n v/\O 2=.int .i64 m/\O 7=x/\O 10=.int .i64 ((aq j fun j=>H i j*v j)%m)/\O 13=aC n n H/\O 14=.int .i64 n/\O 15=.int .i64 i/\O 19=aW n (H i)/\O 20=.int .i64 n/\O 21=.int .i64 j/\S'=S) (fun O S=>n-co (O 21)) ?_ ?_
   .simp only[*,go_sem,aC,aW];exact⟨0,om,by simp[aq],rfl⟩
   .rintro O S' ⟨j,M,s,t,u,y,e,f,g,z,A,B,rfl⟩;by_cases C:j<n
    .have b:(0:Int)<m:=om
     have D:=aT (H i j) (show(m:Int)≠0 by omega)
     have N:=aP (H i j) b;have p:=aT (v j) (show(m:Int)≠0 by omega)
     have P:=aP (v j) b;have E:=dr D p;have Q:H i j%m*(v j%m)<=100000*100000:=da om om p om;have R:IntKind.i64.wrap (H i j%m*(v j%m))=H i j%m*(v j%m):=i64_in om om;have T:eI (H i j%m*(v j%m)) m=(H i j%m*(v j%m))%m:=aN E;have U:=aT (aq j fun j=>H i j*v j) (show(m:Int)≠0 by omega)
     have V:=aP (aq j fun j=>H i j*v j) b;have W:=aT (H i j%m*(v j%m)) (show(m:Int)≠0 by omega)
     have X:=aP (H i j%m*(v j%m)) b;have Y:IntKind.i64.wrap ((aq j fun j=>H i j*v j)%m+(H i j%m*(v j%m))%m)=(aq j fun j=>H i j*v j)%m+(H i j%m*(v j%m))%m:=i64_in om om;have Z:eI ((aq j fun j=>H i j*v j)%m+(H i j%m*(v j%m))%m) m=(aq (j+1) fun j=>H i j*v j)%m:=by
      rw[aN om,AL];rfl
     simp -dsimp only[*,go_sem,aC,aW];refine bD 16 kr ?_
     simp only[*,go_sem,aa,aC,aW];refine⟨_,(Ep b om).pure',_,(Ep b om).pure',?_⟩;simp only[*,go_sem,aS (om:j<1000000),co]
     exact⟨⟨j+1,om,rfl,rfl⟩,om⟩
    .obtain rfl:j=n:=om
     simp -dsimp only[*,go_sem,aC,aW];refine aG.intro fun F l=>?_;simp -dsimp only[*,go_sem];have d:=k.fresh l;refine c8.app2 (k.upd (by rfl) d _) om (show eO 1 (.int .i64 ((aq j fun j=>H i j*v j)%m)) by simp[eO]) (bQ ⟨_,_,_,rfl,cp,rfl,fun h=>d _ h rfl⟩) ?_
     intro c S2 o G I;simp only[*,go_sem,aC,aW,aS (om:i<1000000),co]
     exact⟨⟨i+1,om,rfl,o.congr fun a ha=>by grind⟩,om⟩
  .obtain rfl:i=n:=om
   simp only[*,go_sem,aC,aW];exact k.vr fun a _=>VR.mf rfl

def RJ(Q:aH)(n:Nat)(Rf R:aH)(S0 S:St)(x:AV):Prop:=∃(b:Nat) (g:Nat->Nat),IN Q n R Rf/\GK Q n 190 193 R/\x=.sl 1 b 0 n/\dE S b g n n (sJ R)/\fM S0 S
def MI{j a:Nat}(d:j<i)(e:i<n)(g:a<n)(b:c<n):kB n (sJ R) (eQ kR j i q) a c=sJ (rl R i j (-q)) a c:=by
 have h:=vZ (n:=n) (i:=i) (j:=j) (a:=c) (q:=q) (f:=fun t=>R t a) om om b;rw[show kB n (sJ R) (eQ kR j i q) a c=aq n (fun t=>eQ kR j i q t c*R t a)from aB fun t _=>ck _ _,h];simp only[sJ,rl];split
 .grind
 .grind
def MH{a:Nat}(d:0<i)(e:i<n)(j:a<n)(g:c<n):kB n (sJ R) (fun a b=>kR (dX (i-1) i a) b) a c=sJ (fun a b=>R (dX (i-1) i a) b) a c:=by
 have h:=vY (n:=n) (p:=i) (a:=c) (f:=fun t=>R t a) d e g;rw[show kB n (sJ R) (fun a b=>kR (dX (i-1) i a) b) a c=aq n (fun t=>kR (dX (i-1) i t) c*R t a)from aB fun t _=>ck _ _,h];rfl
structure Em(Q:aH)(n:Nat)(R:aH):Prop where
 inv:GK Q n 190 193 R
 red:Kg (gT Q n R) n
def sZ(n:Nat)(Q:aH)(t:QF n Q):∃R,Em Q n R/\∀S,cZ 53 [aU n n Q] S (fun r S'=>∃b g c gc S1,r=.tup [.sl 1 b 0 n,.sl 1 c 0 n,.int .i64 0]/\qL S1 S' b g n n (gT Q n R)/\dE S' c gc n n (sJ R)/\fM S S1):=by
 have l:=t.one;have W:=t.five;have J:=t.pd.sym;have X:=t.dt;have K:∀i j,i<n->j<n->nb (Q i j) 39:=fun i j L M=>by have:=t.ent i j L M;unfold nb;omega
 obtain⟨Rf,Y,u,N⟩:=PJ (Q:=Q) (n:=n) (d:=190) (E:=193) J om om _ kR t.init (ae _);have v:Kg (gT Q n Rf) n:=Kg.of u.ls.pd N W (by rw[u.dn];omega)
 refine⟨Rf,⟨u,v⟩,fun S0=>?_⟩;refine jI func53 ntmps53 results53 ?_;simp -dsimp only[go_sem,aa];refine(oW n Q 39 l om K om J true (by simp;exact t.pd.pos)).call ?_
 simp -dsimp only[go_sem,aa,show((0:Int) != 0)=false from rfl];refine(Cd n Q 39 l om K om).call ?_;simp -dsimp only[go_sem,aa,X];refine((yY n n Q 39 om l om K om).congr (B:=gT Q n kR) (fun a c f h=>(wD f h).symm)).pf.call ?_;simp -dsimp only[go_sem,aa,aU];refine(rU n l om _ _ (cY _ _)).mono ?_;rintro r S1 ⟨b,g,rfl,C⟩;simp only[go_sem];refine aI (fun O S=>∃R:aH,O 6=aU n n (gT Q n R)/\RJ Q n Rf R S0 S (O 7)) (fun O S=>wx (matOf (O 6)) n) ?_ ?_
 .simp only[go_sem,aU,bC];exact⟨kR,rfl,b,g,Y,t.init,rfl,C.1.congr fun a c _ _=>by simp only[sJ,kR];by_cases e:a=c<;>simp[e,eq_comm],C.2.1⟩
 .rintro O S ⟨R,y,b,g,D,u,Z,C,P⟩;obtain⟨bA,bT,bq⟩:=u.bits t;have m:∀i j,i<n->j<n->nb (gT Q n R i j) 17540:=bA;have q:∀k,k<=n->0<det k (gT Q n R):=fun k hk=>u.ls.pd.pos k hk
  cases D with
  | done s =>
   simp -dsimp only[go_sem,aa,y];refine(Di n (gT Q n Rf) 17540 l om m om q .done s).call ?_;simp -dsimp only[go_sem,aa,y,evV];have F:∀i j,i<n->j<n->iT (gT Q n Rf i j):=fun i j L M=>Qm (v.entry W L M);refine(su n n (gT Q n Rf) l om l om F _ _ (cY _ _)).mono ?_;rintro r S2 ⟨G,H,rfl,o⟩;simp only[*,go_sem];exact⟨G,H,b,rfl,g,S,o,C.ext o.2.1,P⟩
  | size s p =>
   rename_i i j;obtain⟨w,x,T,U,V⟩:=s;have s:xi (gT Q n R) n (.size i j):=⟨w,x,T,U,V⟩;have I:∀a c,a<n->c<n->nb (R9 (gT Q n R) (.size i j) a c) 17940:=fun a c _ _=>by
    simp only[R9,eQ];split
    .exact bq i j x w
    .exact NP a c _ om
   obtain⟨z,A⟩:=u.add J om om s;have e0:gT Q n (rl R i j (-JW (gT Q n R) i j))=mA (gT Q n R) i j (JW (gT Q n R) i j):=by rw[Ih J,IX]
   simp -dsimp only[go_sem,aa,y];refine(Di n (gT Q n R) 17540 l om m om q (.size i j) s).call ?_;simp -dsimp only[go_sem,aa,y,evV];refine((vO n (gT Q n R) (R9 (gT Q n R) (.size i j)) 17940 l om (fun a c f h=>(m a c f h).mono om) (fun a c f h=>I a c f h) om).congr (B:=gT Q n (rl R i j (-JW (gT Q n R) i j))) (fun a c f h=>by rw[e0];exact Is w x f h)).pf.call ?_
   simp -dsimp only[*,go_sem,aa];refine(kJ n n n (sJ R) (R9 (gT Q n R) (.size i j)) 17940 l om l om l om (fun a c f h=>nb.mono (bT c a h f) om) (fun a c f h=>I a c f h) om _ _ (fH.mat C (cY _ _))).mono ?_;rintro r S2 ⟨G,H,rfl,o⟩;simp only[go_sem,y,Z];exact⟨⟨_,rfl,G,H,p,z,rfl,o.1.congr fun a c f h=>MI w x f h,P.trans o.2.1⟩,A⟩
  | swap s p =>
   rename_i i;obtain⟨w,x,T,U,V⟩:=s;have s:xi (gT Q n R) n (.swap i):=⟨w,x,T,U,V⟩;have I:∀a c,a<n->c<n->nb (R9 (gT Q n R) (.swap i) a c) 17940:=fun a c _ _=>NP _ c _ om;obtain⟨z,A⟩:=u.swap om om s;simp -dsimp only[go_sem,aa,y];refine(Di n (gT Q n R) 17540 l om m om q (.swap i) s).call ?_;simp -dsimp only[go_sem,aa,y,evV];refine((vO n (gT Q n R) (R9 (gT Q n R) (.swap i)) 17940 l om (fun a c f h=>(m a c f h).mono om) (fun a c f h=>I a c f h) om).congr (B:=gT Q n (fun a b=>R (dX (i-1) i a) b)) (fun a c f h=>Ir w x f h)).pf.call ?_;simp -dsimp only[*,go_sem,aa];refine(kJ n n n (sJ R) (R9 (gT Q n R) (.swap i)) 17940 l om l om l om (fun a c f h=>nb.mono (bT c a h f) om) (fun a c f h=>I a c f h) om _ _ (fH.mat C (cY _ _))).mono ?_;rintro r S2 ⟨G,H,rfl,o⟩;simp only[*,go_sem];exact⟨⟨_,rfl,G,H,p,z,rfl,o.1.congr fun a c f h=>MH w x f h,P.trans o.2.1⟩,A⟩
def Gs(n:Nat)(Q:aH)(a:QF n Q):∃R,Em Q n R/\PF 53 [aU n n Q] (.tup [aC n n (gT Q n R),aU n n (sJ R),.int .i64 0]):=by
 obtain⟨R,d,h⟩:=sZ n Q a;refine⟨R,d,PF.of_spec ((h St.none).mono ?_)⟩;rintro _ S' ⟨b,g,c,gc,S1,rfl,e,f,_⟩;exact VR.tup3 e.1.vr f.vr (VR.mf rfl)

structure ge(n:Nat)(H:aH):Prop where
 one:1<=n
 five:n<=5
 red:Kg H n
 small:det n H<=10000
def ge.redB(h:ge n H):(∀i j,i<n->j<n->H i j=H j i)/\vA H n:=⟨h.red.pd.sym,⟨h.red.pd.pos,h.small,h.red.rows⟩⟩
def L9(S:St)(M d k L:Nat)(nums:Nat->Int)(Lb:Nat)(base:Nat->AV)(c:1<=M)(e:M<=5)(q:d<256)(s:k<256)(hnums:∀i,i<L->-128<=nums i/\nums i<=127) :
  cZ 38 [P8 d k L nums Lb base,.int .i64 M] S (fun r S'=>∃n H,ge n H/\n<=M/\r=aC n n H/\fM S S'):=by
 refine jI func38 ntmps38 results38 ?_;simp -dsimp only[go_sem,aa,P8,eG,a8,aR,cG,cP];refine aG.intro fun u t=>?_;simp -dsimp only[go_sem,bS,bH];refine(OM M d k L nums Lb base c e q s hnums _ _ (cY _ _)).mono ?_;rintro r S1 ⟨b,g,n,A,⟨a,f⟩,rfl,o⟩;obtain⟨R,p,h⟩:=Gs n A ⟨⟨a.sym,a.pos⟩,a.one,a.five,fun i j l m=>by have:=a.ent i j l m;omega,a.small⟩
 simp -dsimp only[go_sem,aa];refine(tc n n A a.one (by have:=a.five;omega) a.one (by have:=a.five;omega) (fun i j l m=>RQ (a.ent i j l m))).spec (fH.cons o.1.vr.va fH.nil) ?_
 simp -dsimp only[go_sem,aa];refine h.call ?_;simp only[go_sem];exact⟨n,gT A n R,⟨a.one,a.five,p.red,by rw[p.inv.dn];exact a.small⟩,f,rfl,((fM.refl S).upd t _).trans o.2.1⟩
def nU(n:Nat)(f g:Nat->Int)(m:Int)(h:∀i,i<n->f i%m=g i%m):aq n f%m=aq n g%m:=by
 induction n with
 | zero=>rfl
 | succ n ih =>
  simp only[aq];rw[SE,ih (fun i a=>h i om),h n om,<-SE]
def fB(n:Nat)(H:aH)(v:Nat->Int)(i:Nat):Int:=aq i fun i=>(aq n fun j=>H i j*v j)*v i
def Cr(n m:Nat)(H:aH)(v:Nat->Int)(e:n<=8)(f:1<=m)(b:m<=100000):PF 76 [aC n n H,aW n v,.int .i64 m] (.int .i64 (fB n H v n%m)):=by
 refine jo func76 ntmps76 results76 ?_;have g:¬((m:Int)=0):=om
 simp -dsimp only[go_sem,aa];refine(Aj n m H v e f b).call ?_;simp only[go_sem,aW];refine aI (fun O S=>∃i:Nat,i<=n/\O 1=aW n v/\O 2=.int .i64 m/\O 7=.int .i64 (fB n H v i%m)/\O 13=aW n (fun i=>(aq n fun j=>H i j*v j)%m)/\O 14=.int .i64 n/\O 15=.int .i64 i) (fun O S=>n-co (O 15)) ?_ ?_
 .simp only[go_sem,aW];exact⟨0,om,by simp[fB,aq],rfl⟩
 .rintro O S ⟨i,x,y,z,A,h,k,l⟩;by_cases o:i<n
  .have a:(0:Int)<m:=om
   obtain⟨s,c⟩:∃s,s=aq n fun j=>H i j*v j:=⟨_,rfl⟩;have p:=aT s (show(m:Int)≠0 by omega)
   have B:=aP s a;have d:=aT (v i) (show(m:Int)≠0 by omega)
   have C:=aP (v i) a;have q:=dr p d;have D:s%m*(v i%m)<=100000*100000:=da om om d om;have r:IntKind.i64.wrap (s%m*(v i%m))=s%m*(v i%m):=i64_in om om;have t:eI (s%m*(v i%m)) m=(s%m*(v i%m))%m:=aN q;have E:=aT (fB n H v i) (show(m:Int)≠0 by omega)
   have F:=aP (fB n H v i) a;have G:=aT (s%m*(v i%m)) (show(m:Int)≠0 by omega)
   have I:=aP (s%m*(v i%m)) a;have u:IntKind.i64.wrap (fB n H v i%m+(s%m*(v i%m))%m)=fB n H v i%m+(s%m*(v i%m))%m:=i64_in om om;have w:eI (fB n H v i%m+(s%m*(v i%m))%m) m=fB n H v (i+1)%m:=by
    rw[aN om,AL];simp only[fB,aq,c]
   simp -dsimp only[*,go_sem,aa,aW];refine(Ep a om).call ?_;rw[c]at r t u w;simp only[*,go_sem,aW,aS (om:i<1000000),co]
   exact⟨⟨i+1,om,rfl,rfl⟩,om⟩
  .obtain rfl:i=n:=om
   simp only[*,go_sem,aa,aW];exact VR.mf rfl
def iq(v:Nat->Int):Nat->Int
 | 0=>0
 | j+1=>if iq v j=0 then v j else iq v j
def oF(n p:Nat)(H:aH)(v:Nat->Int):Prop:=(∀i,i<n->0<=v i/\v i<p)/\iq v n=1/\fB n H v n%p=0
def rn(n m:Nat)(H:aH)(v:Nat->Int)(β:Bool)(o:n<=8)(p:1<=m)(f:m<=100000)(hβ:β=true↔oF n m H v):PF 75 [aC n n H,.int .i64 m,aW n v] (.bool β):=by
 refine jo func75 ntmps75 results75 ?_;simp only[go_sem,aW,aC,show((n:Int) != n)=false by simp]
 refine aI (fun O S=>∃i:Nat,i<=n/\(∀k,k<i->0<=v k/\v k<m)/\O 0=aC n n H/\O 1=.int .i64 m/\O 2=aW n v/\O 7=.int .i64 (iq v i)/\O 15=aW n v/\O 16=.int .i64 n/\O 17=.int .i64 i) (fun O S=>n-co (O 17)) ?_ ?_
 .simp only[go_sem,aW,aC];exact⟨0,om,fun k q=>om,rfl,rfl⟩
 .rintro O S ⟨i,u,c,w,x,y,z,r,s,t⟩;by_cases d:i<n
  .by_cases A:v i<0
   .simp only[*,go_sem,aa,aW,aC];rw[dD hβ fun h=>by have:=h.1 i d;omega]
    exact VR.mf rfl
   by_cases B:(m:Int)<=v i
   .simp only[*,go_sem,aa,aW,aC];rw[dD hβ fun h=>by have:=h.1 i d;omega]
    exact VR.mf rfl
   have a:∀k,k<i+1->0<=v k/\v k<m:=fun k q=>by
    by_cases e:k=i
    .rw[e];omega
    .exact c k om
   by_cases b:iq v i=0
   .have g:iq v (i+1)=v i:=by simp[iq,b]
    simp only[*,go_sem,aa,aW,aC,show((0:Int)==0)=true from rfl,aS (om:i<1000000),co]
    exact⟨⟨i+1,om,a,by rw[g],rfl⟩,om⟩
   .have g:iq v (i+1)=iq v i:=by simp[iq,b]
    have j:(iq v i==0)=false:=by simp[b]
    simp only[*,go_sem,aa,aW,aC,aS (om:i<1000000),co]
    exact⟨⟨i+1,om,a,by rw[g],rfl⟩,om⟩
  .obtain rfl:i=n:=om
   by_cases b:iq v i=1
   .simp -dsimp only[*,go_sem,aa,aW,aC,show((1:Int)==1)=true from rfl];refine(Cr i m H v o p f).call ?_;by_cases l:fB i H v i%(m:Int)=0
    .simp only[*,go_sem,aW,aC,show((1:Int)==1)=true from rfl,show((0:Int)==0)=true from rfl];rw[hβ.2 ⟨c,b,l⟩];exact VR.mf rfl
    .simp only[*,go_sem,aW,aC,show(fB i H v i%(m:Int)==0)=false by simpa using l,show((1:Int)==1)=true from rfl]
     rw[dD hβ fun h=>l h.2.2];exact VR.mf rfl
   .have j:(iq v i==1)=false:=by simp[b]
    simp only[*,go_sem,aW,aC];rw[dD hβ fun h=>b h.2.1];exact VR.mf rfl
def sN(n m:Nat)(H:aH)(v:Nat->Int)(b:n<=8)(c:1<=m)(a:m<=100000)(d:∀i,i<n->0<=v i/\v i<m):PF 75 [aC n n H,.int .i64 m,aW n v] (.bool (iq v n==1&&fB n H v n%m==0)) :=
 rn n m H v _ b c a (by rw[ay,oU,oU];exact⟨fun h=>⟨d,h⟩,fun h=>h.2⟩)

def nY(e:2<=p)(f:p<25)(a:¬p%2=0∨p<4)(b:¬p%3=0∨p<9)(c:¬p%4=0∨p<16):Jy p:=by
 refine⟨e,fun d g i=>?_⟩;have:d<5:=by
  rcases aF d 5 with h|h
  .exact h
  .have:5*5<=d*d:=aV h h;omega
 have:d=2∨d=3∨d=4:=om
 rcases this with rfl|rfl|rfl<;>omega
def jb(D:Int)(p:Nat):Prop:=3<=p/\p%2=1/\Jy p/\¬D%p=0
open Classical in
noncomputable def gc(D:Int):Nat->Nat
 | 0=>0
 | p+1=>gc D p+if jb D p then 1 else 0
open Classical in
def Cy(D:Int)(q:Nat)(f:Nat)(h:Jy q/\3<=q/\q%2=1){k:Nat}(c:k<=gc D q)(a:f=if D%q=0 then 0 else 1):k+f<=gc D (q+1):=by
 simp only[gc,jb,a];by_cases b:D%(q:Int)=0<;>simp[b,h.1,h.2.1,h.2.2]<;>omega
def uM(D:Int){p q:Nat}(h:p<=q){k:Nat}(a:k<=gc D p):k<=gc D q:=by
 induction q with
 | zero=>rw[show(0:Nat)=p by omega];exact a
 | succ q ih =>
  by_cases e:p=q+1
  .rw[<-e];exact a
  .exact a9 (ih om) (by simp only[gc];omega)
def UC(p:0<D)(q:D<=10000)(a b c d e:Nat)(f:Nat.Coprime a b)(g:Nat.Coprime (a*b) c)(i:Nat.Coprime (a*b*c) d)(j:Nat.Coprime (a*b*c*d) e)(r:10000<a*b*c*d*e) :
  ¬(D%(a:Int)=0/\D%(b:Int)=0/\D%(c:Int)=0/\D%(d:Int)=0/\D%(e:Int)=0):=by
 rintro⟨k,l,m,n,o⟩;have t:∀{x:Nat},D%(x:Int)=0->x∣D.natAbs:=fun h=>Int.ofNat_dvd_left.1 (cR h);have s:=BM om (j.mul_dvd_of_dvd_of_dvd (i.mul_dvd_of_dvd_of_dvd (g.mul_dvd_of_dvd_of_dvd (f.mul_dvd_of_dvd_of_dvd (t k) (t l)) (t m)) (t n)) (t o));omega
open Classical in
def PD{a b c d e f:Prop}(m:¬(a/\b/\c/\d/\e))(n:¬(a/\b/\c/\d/\f))(o:¬(a/\b/\c/\e/\f))(p:¬(a/\b/\d/\e/\f))(q:¬(a/\c/\d/\e/\f))(r:¬(b/\c/\d/\e/\f)){g h i j k l:Nat}
  (s:a∨1<=g) (t:b∨1<=h) (u:c∨1<=i) (v:d∨1<=j) (w:e∨1<=k) (x:f∨1<=l):2<=0+g+h+i+j+k+l:=by
 by_cases a<;>by_cases b<;>by_cases c<;>by_cases d<;>by_cases e<;>by_cases f<;>simp_all<;>omega
def Tw(a:0<D)(b:D<=10000):2<=gc D 18:=by
 have j:Jy 3:=nY om om om om om;have k:Jy 5:=nY om om om om om;have l:Jy 7:=nY om om om om om;have c:Jy 11:=nY om om om om om;have d:Jy 13:=nY om om om om om;have e:Jy 17:=nY om om om om om;have m:=Cy D 3 _ ⟨j,om,om⟩ (jW _) rfl
 have n:=Cy D 5 _ ⟨k,om,om⟩ (uM D (om:3+1<=5) m) rfl
 have o:=Cy D 7 _ ⟨l,om,om⟩ (uM D (om:5+1<=7) n) rfl
 have f:=Cy D 11 _ ⟨c,om,om⟩ (uM D (om:7+1<=11) o) rfl
 have g:=Cy D 13 _ ⟨d,om,om⟩ (uM D (om:11+1<=13) f) rfl
 have i:=Cy D 17 _ ⟨e,om,om⟩ (uM D (om:13+1<=17) g) rfl
 refine a9 ?_ i;have t:∀q:Nat,D%(q:Int)=0∨1<=(if D%(q:Int)=0 then 0 else 1:Nat):=fun q=>by
  by_cases h:D%(q:Int)=0
  .exact bW h
  .right;simp[h]
 exact PD (UC a b 3 5 7 11 13 dc dc dc dc dc) (UC a b 3 5 7 11 17 dc dc dc dc dc)
  (UC a b 3 5 7 13 17 dc dc dc dc dc) (UC a b 3 5 11 13 17 dc dc dc dc dc)
  (UC a b 3 7 11 13 17 dc dc dc dc dc) (UC a b 5 7 11 13 17 dc dc dc dc dc)
  (t 3) (t 5) (t 7) (t 11) (t 13) (t 17)
def JV(a:p%2=1):gc D (p+2)=gc D (p+1):=by
 have:¬jb D (p+1):=fun h=>by have:=h.2.1;omega
 simp[gc,this]
def ge.ent(h:ge n H):I2 n H:=fun i j a b=>by
 have:=h.red.entry h.five a b;omega
def ge.det(h:ge n H):0<det n H/\det n H<=10000:=⟨h.red.pd.2 n (ae _),h.small⟩
def gpI(D:Int)(p s:Nat):Prop:=3<=p/\p<=17/\p%2=1/\gc D p+s<=1
def Bc(S:St)(n:Nat)(H:aH)(k:Nat)(b:ge n H)(m:k<256):cZ 39 [aC n n H,.int .u8 k] S (fun r S'=>∃p:Nat,jb (det n H) p/\p<=17/\r=.int .i64 p/\S'=S):=by
 refine jI func39 ntmps39 results39 ?_;have i:=b.five;have o:eI (k:Int) 2=((k%2:Nat):Int):=by rw[jC]<;>rfl
 have q:IntKind.i64.wrap ((k%2:Nat):Int)=((k%2:Nat):Int):=i64_in om om;simp only[*,go_sem,show ¬((2:Int)=0) by decide]
 have t:=Tw b.det.1 b.det.2;refine aI (fun O S'=>∃p s:Nat,gpI (det n H) p s/\O 0=aC n n H/\O 5=.int .i64 s/\O 6=.int .i64 p/\S'=S) (fun O S=>18-co (O 6)) ?_ ?_
 .simp only[go_sem];refine⟨3,k%2,⟨om,om,om,?_⟩,rfl,rfl⟩
  have:gc (det n H) 3=0:=by simp[gc,jb]
  omega
 .rintro O S' ⟨p,s,⟨c,f,d,j⟩,u,v,w,rfl⟩;have wp:IntKind.i64.wrap ((p:Int)+2)=((p+2:Nat):Int):=eF om om;rcases jq (jb (det n H) p)with e|e
  .simp -dsimp only[*,go_sem,aa];refine(Et n p H b.one om b.ent b.det c om true (by simp only[true_iff];exact e.2.2)).call ?_
   have a:gc (det n H) (p+1)=gc (det n H) p+1:=by simp[gc,e]
   by_cases l:s=0
   .subst l;simp only[*,go_sem,show((((0:Nat)):Int)==0)=true from rfl];exact⟨p,e,f,rfl⟩
   .obtain rfl:s=1:=om
    have g:p+2<=17:=by
     rcases aF p 16 with h|h
     .omega
     .obtain rfl:p=17:=om
      rw[show(17:Nat)+1=18 from rfl]at a;omega
    simp only[*,go_sem,show((((1:Nat)):Int)==0)=false from rfl,show IntKind.i64.wrap ((((1:Nat)):Int)-1)=((0:Nat):Int)from eF om om,co];exact⟨⟨p+2,0,⟨om,om,om,by rw[JV d,a];omega⟩,rfl,rfl⟩,om⟩
  .simp -dsimp only[*,go_sem,aa];refine(Et n p H b.one om b.ent b.det c om false (by simp only[bK,Vp];exact fun h=>e ⟨c,d,h.1,h.2⟩)).call ?_
   have a:gc (det n H) (p+1)=gc (det n H) p:=by simp[gc,e]
   have g:p+2<=17:=by
    rcases aF p 16 with h|h
    .omega
    .obtain rfl:p=17:=om
     rw[show(17:Nat)+1=18 from rfl]at a;omega
   simp only[*,go_sem,co];exact⟨⟨p+2,s,⟨om,om,om,by rw[JV d,a];omega⟩,rfl,rfl⟩,om⟩

end Go.Proofs.YtdobfmlmenaajaaGreatDoor
