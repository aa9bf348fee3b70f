/-
  Lemmas for NeighbourVerify.
-/
import Derived.Test.YtdobfmlmenaajaaGreatDoorV16
namespace Go.Proofs.YtdobfmlmenaajaaGreatDoor
open Go.RowKit Tryz
open _root_.Int renaming gcd→nh
open _root_.Option renaming none→ab
set_option maxHeartbeats 6400000
set_option maxRecDepth 4096
set_option linter.all false
attribute [local go_sem] Nat.reduceAdd Nat.reduceEqDiff Nat.reduceLeDiff Nat.reduceLT reduceCtorEq Int.ofNat_lt decide_true decide_false Int.zero_le_ofNat
attribute [local go_sem ↓] reduceIte
variable{v x y:AV}{K:AV->St->Prop}{a b c d z:Int}{l r:List AV}{es j k k0 m n:Nat}{g g':Nat->AV}{σ:Nat->Nat}{A:Nat->Nat->Int}{S S' S0:St}
def c8(e es:Nat)(S0 S:St)(x:AV)(j:Nat)(g:Nat->AV):Prop:=fM S0 S/\((j=0/\x=.nil)∨∃c,S0 c=ab/\x=.sl es c 0 j/\bG S c e es j g)
def eC(x:AV)(d:Nat):Prop:=∃es off len,x=.sl es d off len
def c8.nil{e:Nat}(h:fM S0 S)(g:Nat->AV):c8 e es S0 S .nil 0 g:=⟨h,bW ⟨rfl,rfl⟩⟩
def c8.congr{e:Nat}(h:c8 e es S0 S x j g)(a:∀i,i<j->g i=g' i):c8 e es S0 S x j g':=by
 refine⟨h.1,h.2.imp id ?_⟩;rintro⟨c,b,d,f⟩;exact⟨c,b,d,f.congr a⟩
def c8.step{e:Nat}(h:c8 e es S0 S x j g)(b:fM S0 S')(f:∀d,eC x d->S' d=S d):c8 e es S0 S' x j g:=by
 refine⟨b,h.2.imp id ?_⟩;rintro⟨c,i,a,g',k,l⟩;exact⟨c,i,a,g',by rw[f c ⟨_,_,_,a⟩];exact k,l⟩
def c8.upd{e:Nat}(h:c8 e es S0 S x j g){b:Nat}(a:S0 b=ab)(c:∀d,eC x d->d≠b)(X:ft):c8 e es S0 (S.upd b X) x j g :=
 h.step (h.1.upd a X) (fun d f=>aO (c d f))
def c8.fresh{e:Nat}(h:c8 e es S0 S x j g){b:Nat}(i:S b=ab):∀d,eC x d->d≠b:=by
 rintro d ⟨es',off,len,a⟩ rfl;rcases h.2 with⟨_,f⟩|⟨c,_,f,k⟩
 .rw[f]at a;cases a
 .rw[f]at a;cases a;exact bG.fresh k i rfl
def c8.app{t e:Nat}(I:dY t=some e)(J:(gM e).isSome=true)(u:es=cg e)(h:c8 e es S0 S x j g)(O:j<1000000)(L:eO es v)
  (M:(∃h,y=.lst es 1 h/\h 0=v)∨∃b gb ty,y=.sl es b 0 1/\S b=some ⟨ty,es,1,gb⟩/\gb 0=v/\¬eC x b)
  (G:∀c S',c8 e es S0 S' (.sl es c 0 (j+1)) (j+1) (fun i=>if i=j then v else g i)->(∀d X,S d=some X->¬eC x d->S' d=some X)->(eC x c∨S c=ab)->K (.sl es c 0 (j+1)) S'):gP t t x y S K:=by
 unfold gP;rw[I];refine⟨rfl,J,?_⟩;have l:∃w o,Bj S y=some (es,1,w,o)/\w 0=v/\(∀d,eC x d->o≠some d):=by
  rcases M with⟨h,rfl,N⟩|⟨b,gb,ty,rfl,z,m,A⟩
  .exact⟨_,_,rfl,N,fun d _=>by simp⟩
  .refine⟨fun j=>gb (0+j),some b,by simp[Bj,z],m,fun d f e=>?_⟩
   cases e;exact A f
 obtain⟨w,o,z,m,A⟩:=l;rw[z];refine⟨u,om,fun i H=>by rw[(om:i=0),m];exact L,?_⟩
 rcases h.2 with⟨rfl,rfl⟩|⟨c,n,rfl,g',B,C⟩
 .refine⟨om,fun b r=>G _ _ ⟨h.1.upd (h.1.none r) _,bQ ⟨b,h.1.none r,rfl,bG.here fun i H=>?_⟩⟩ (fun d X f _=>?_) (bQ r)⟩
  .obtain rfl:i=0:=om
   simp[m]
  .rw[aO];exact f;rintro rfl;rw[r]at f;cases f
 .simp only[B];refine⟨trivial,trivial,trivial,trivial,trivial,om,A c ⟨_,_,_,rfl⟩,fun b' a=>G _ _ ⟨?_,bQ ⟨b',?_,rfl,bG.here fun i H=>?_⟩⟩ (fun d X f D=>?_) ?_⟩
  .intro k X s;have p:k≠c:=by rintro rfl;rw[n]at s;cases s
   have E:k≠b':=by
    rintro rfl;rcases a with rfl|a
    .exact p rfl
    .rw[h.1 k X s]at a;cases a
   rw[aO E];simp only[St.del];rw[af p];exact h.1 k X s
  .rcases a with rfl|a
   .exact n
   .exact h.1.none a
  .by_cases e:i=j
   .subst e;rw[yP (ae _) om,cq,m,ah rfl]
   .rw[D7 om,af e];exact C i om
  .have q:d≠c:=fun e=>D (by rw[e];exact⟨_,_,_,rfl⟩)
   have F:d≠b':=by
    rintro rfl;rcases a with rfl|a
    .exact q rfl
    .rw[f]at a;cases a
   rw[aO F];simp only[St.del];rw[af q];exact f
  .rcases a with rfl|a
   .exact bW ⟨_,_,_,rfl⟩
   .exact bQ a
def c8.app50(h:c8 50 2 S0 S x j g)(a:j<1000000)(e:eO 2 v)(f:(∃h,y=.lst 2 1 h/\h 0=v)∨∃b gb ty,y=.sl 2 b 0 1/\S b=some ⟨ty,2,1,gb⟩/\gb 0=v/\¬eC x b)
  (k:∀c S',c8 50 2 S0 S' (.sl 2 c 0 (j+1)) (j+1) (fun i=>if i=j then v else g i)->(∀d X,S d=some X->¬eC x d->S' d=some X)->(eC x c∨S c=ab)->K (.sl 2 c 0 (j+1)) S'):gP 59 59 x y S K:=c8.app rfl rfl rfl h a e f k
def c8.app2(h:c8 2 1 S0 S x j g)(a:j<1000000)(e:eO 1 v)(f:(∃h,y=.lst 1 1 h/\h 0=v)∨∃b gb ty,y=.sl 1 b 0 1/\S b=some ⟨ty,1,1,gb⟩/\gb 0=v/\¬eC x b)
  (k:∀c S',c8 2 1 S0 S' (.sl 1 c 0 (j+1)) (j+1) (fun i=>if i=j then v else g i)->(∀d X,S d=some X->¬eC x d->S' d=some X)->(eC x c∨S c=ab)->K (.sl 1 c 0 (j+1)) S'):gP 29 29 x y S K:=c8.app rfl rfl rfl h a e f k
def c8.app3(h:c8 3 1 S0 S x j g)(a:j<1000000)(e:eO 1 v)(f:(∃h,y=.lst 1 1 h/\h 0=v)∨∃b gb ty,y=.sl 1 b 0 1/\S b=some ⟨ty,1,1,gb⟩/\gb 0=v/\¬eC x b)
  (k:∀c S',c8 3 1 S0 S' (.sl 1 c 0 (j+1)) (j+1) (fun i=>if i=j then v else g i)->(∀d X,S d=some X->¬eC x d->S' d=some X)->(eC x c∨S c=ab)->K (.sl 1 c 0 (j+1)) S'):gP 146 146 x y S K:=c8.app rfl rfl rfl h a e f k
def c8.app59(h:c8 59 1 S0 S x j g)(a:j<1000000)(e:eO 1 v)(f:(∃h,y=.lst 1 1 h/\h 0=v)∨∃b gb ty,y=.sl 1 b 0 1/\S b=some ⟨ty,1,1,gb⟩/\gb 0=v/\¬eC x b)
  (k:∀c S',c8 59 1 S0 S' (.sl 1 c 0 (j+1)) (j+1) (fun i=>if i=j then v else g i)->(∀d X,S d=some X->¬eC x d->S' d=some X)->(eC x c∨S c=ab)->K (.sl 1 c 0 (j+1)) S'):gP 52 52 x y S K:=c8.app rfl rfl rfl h a e f k
def c8.app29(h:c8 29 1 S0 S x j g)(a:j<1000000)(e:eO 1 v)(f:(∃h,y=.lst 1 1 h/\h 0=v)∨∃b gb ty,y=.sl 1 b 0 1/\S b=some ⟨ty,1,1,gb⟩/\gb 0=v/\¬eC x b)
  (k:∀c S',c8 29 1 S0 S' (.sl 1 c 0 (j+1)) (j+1) (fun i=>if i=j then v else g i)->(∀d X,S d=some X->¬eC x d->S' d=some X)->(eC x c∨S c=ab)->K (.sl 1 c 0 (j+1)) S'):gP 28 28 x y S K:=c8.app rfl rfl rfl h a e f k
def c8.other{e:Nat}(h:c8 e es S0 S x j g){b ty es' n:Nat}{g':Nat->AV}(f:S b=some ⟨ty,es',n,g'⟩)(i:ty≠e):¬eC x b:=by
 rintro⟨_,_,_,a⟩;rcases h.2 with⟨_,d⟩|⟨c,_,d,k⟩
 .rw[d]at a;cases a
 .rw[d]at a;cases a;exact bG.ne k (bG.of f) (aj i) rfl
def bG.via{b ty:Nat}(h:bG S b ty es n g)(a:∀X,S b=some X->S' b=some X):bG S' b ty es n g:=by
 obtain⟨g',c,d⟩:=h;exact⟨g',a _ c,d⟩
def eH{b off len d:Nat}:eC (.sl es b off len) d↔d=b:=⟨fun⟨_,_,_,e⟩=>by cases e;rfl,fun e=>by rw[e];exact⟨_,_,_,rfl⟩⟩
def yY(n m:Nat)(A:Nat->Nat->Int)(k:Nat)(h2:n<=1000)(h3:1<=m)(h4:m<=1000)(Q:∀i j,i<n->j<m->nb (A i j) k)(R:k<=8589934592):MF 63 [aU n m A] n m A:=by
 refine MF.of ?_;refine jI func63 ntmps63 results63 ?_;simp -dsimp only[go_sem,aU,bC]
 repeat refine an ?_
 refine aG.intro fun l f3=>?_;simp only[go_sem];refine aI (fun O S=>∃(i:Nat) (g:Nat->Nat),i<=n/\O 0=aU n m A/\O 3=.sl 1 l 0 n/\O 11=.int .i64 n/\O 12=.int .i64 i /\
  bG S l 59 1 n (fun a=>if a<i then .sl 2 (g a) 0 m else .nil)/\(∀a,a<i->jx S (g a) m (A a))/\∀a c,a<i->c<i->g a=g c->a=c) (fun O S=>n-co (O 12)) ?_ ?_
 .simp only[go_sem,aU,bC];exact⟨0,om,rfl,fun _=>0,bG.here fun _ _=>by simp,fun a b=>om,fun a c b=>om⟩
 .rintro O S ⟨i,g,hi,T,L,B,C,s,q,U⟩;by_cases o:i<n
  .simp only[*,go_sem,aU,bC];refine aI (fun O S'=>∃(j:Nat) (x:AV),j<=m/\O 0=aU n m A/\O 3=.sl 1 l 0 n/\O 4=.int .i64 i/\O 11=.int .i64 n/\O 12=.int .i64 i/\O 18=bC m (A i)/\O 19=.int .i64 m/\O 20=.int .i64 j /\
    bG S' l 59 1 n (fun a=>if a<i then .sl 2 (g a) 0 m else if a=i then x else .nil)/\(∀a,a<i->jx S' (g a) m (A a)/\¬eC x (g a))/\c8 50 2 St.none S' x j (fun c=>.big (A i c))) (fun O S=>m-co (O 20)) ?_ ?_
   .simp only[*,go_sem,aU,bC];exact⟨0,om,rfl,.nil,s.congr fun a _=>by grind,fun a b=>⟨q a b,by rintro⟨_,_,_,e⟩;cases e⟩,c8.nil (fun k X h=>by cases h) _⟩
   .rintro O S' ⟨j,x,hj,T,L,V,B,C,W,Y,Z,s,q,r⟩;by_cases D:j<m
    .simp -dsimp only[*,go_sem,aU,bC];refine aG.intro fun E F=>?_;obtain⟨g1,t,M⟩:=s;have G:g1 i=x:=by rw[M i o];simp
     have p:l≠E:=bG.fresh (bG.of t) F;simp -dsimp only[go_sem];refine ie 9 kr ?_
     simp -dsimp only[go_sem,L,V,o,p,t,G,bR]
     repeat refine an ?_
     refine⟨_,(Fp (Q i j o D) R).pure',?_⟩;simp -dsimp only[go_sem];have u:∀d,eC x d->d≠E:=r.fresh F;have H:=r.other t om;refine c8.app50 ((r.upd (by rfl) u _).upd (by rfl) u _) om (show eO 2 (.big (A i j))from trivial) (bW ⟨_,rfl,rfl⟩) ?_
     intro c S2 v w y;have I:=w l _ (by rw[aO p,aO p];exact t) H
     simp only[*,go_sem,aU,bC,aS (om:j<1000000),co]
     repeat refine an ?_
     refine⟨⟨j+1,om,rfl,.sl 2 c 0 (j+1),bG.here fun a b=>?_,fun a b=>?_,?_⟩,om⟩
     .have:=M a b;grind [bR]
     .obtain⟨z,N⟩:=q a b;have f:g a≠E:=bG.fresh z F;have J:g a≠l:=bG.ne z (bG.of t) om;refine⟨(z.via fun X r=>w _ _ (by rw[aO f,aO f];exact r) N).upd J _,fun P=>?_⟩
      rw[eH]at P;rw[<-P]at y;rcases y with h|h
      .exact N h
      .rw[aO f,aO f]at h;exact bG.fresh z h rfl
     .refine(v.upd (by rfl) (fun d K e=>?_) _).congr (fun a b=>by grind)
      rw[e]at K;exact v.other I om K
    .simp only[*,go_sem,aU,bC,aS (om:i<1000000),co]
     obtain rfl:j=m:=om
     rcases r.2 with⟨h0,_⟩|⟨c,_,rfl,hC⟩
     .omega
     refine⟨⟨i+1,om,rfl,fun a=>if a=i then c else g a,s.congr fun a b=>by grind,fun a b=>?_,fun a d b K e=>?_⟩,om⟩
     .by_cases e:a=i
      .subst e;simp only[aK];exact hC
      .simp only[e,aM];exact(q a om).1
     .have k1:=fun a b=>(q a b).2;simp only[eH]at k1
      grind
  .simp only[*,go_sem,aU,bC];obtain rfl:i=n:=om
   exact⟨l,rfl,g,s.congr fun a b=>by simp[b],q,U⟩

def fM.noneS(S:St):fM St.none S:=fun k X h=>by cases h
def wV(n m p q:Nat)(A:Nat->Nat->Int)(ρ γ:Nat->Nat)(v:1<=p)(E:p<=1000)(h3:1<=q)(h4:q<=1000)(hρ:∀i,i<p->ρ i<n)(hγ:∀i,i<q->γ i<m):MF 143 [aU n m A,aW p (fun i=>ρ i),aW q (fun i=>γ i)] p q (fun i j=>A (ρ i) (γ j)):=by
 refine MF.of ?_;refine jI func143 ntmps143 results143 ?_;simp only[go_sem,aU,bC,aW];refine aI (fun O S=>∃(i:Nat) (x:AV) (g:Nat->Nat),i<=p/\O 0=aU n m A/\O 2=aW q (fun i=>γ i)/\O 7=x/\O 13=aW p (fun i=>ρ i)/\O 14=.int .i64 p/\O 15=.int .i64 i /\
  c8 59 1 St.none S x i (fun a=>.sl 2 (g a) 0 q)/\(∀a,a<i->jx S (g a) q (fun j=>A (ρ a) (γ j)))/\∀a c,a<i->c<i->g a=g c->a=c) (fun O S=>p-co (O 15)) ?_ ?_
 .simp only[go_sem,aU,bC,aW];exact⟨0,om,rfl,fun _=>0,c8.nil (fM.noneS _) _,fun a f=>om,fun a c f=>om⟩
 .rintro O S ⟨i,x,g,hi,Z,L,M,r,s,t,b,w,hI⟩;by_cases z:i<p
  .have hρi:=hρ i z;simp only[go_sem,aU,bC,aW,L,M,r,s,t,z];refine aI (fun O S'=>∃(j:Nat) (y:AV),j<=q/\O 0=aU n m A/\O 2=aW q (fun i=>γ i)/\O 7=x/\O 9=.int .i64 (ρ i)/\O 10=y/\O 13=aW p (fun i=>ρ i)/\O 14=.int .i64 p/\O 15=.int .i64 i/\O 19=aW q (fun i=>γ i)/\O 20=.int .i64 q/\O 21=.int .i64 j /\
    c8 59 1 St.none S' x i (fun a=>.sl 2 (g a) 0 q)/\(∀a,a<i->jx S' (g a) q (fun j=>A (ρ a) (γ j))/\¬eC y (g a))/\c8 50 2 St.none S' y j (fun c=>.big (A (ρ i) (γ c)))/\∀d,eC x d->¬eC y d) (fun O S=>q-co (O 21)) ?_ ?_
   .simp only[go_sem,aU,bC,aW,Z,L,M,r,s,t];exact⟨0,om,rfl,b,fun a f=>⟨w a f,by rintro⟨_,_,_,e⟩;cases e⟩,c8.nil (fM.noneS _) _,fun d _=>by rintro⟨_,_,_,e⟩;cases e⟩
   .rintro O S' ⟨j,y,hj,Z,L,M,e9,e10,r,s,t,e19,e20,e21,b,w,P,B⟩;by_cases Q:j<q
    .have hγj:=hγ j Q;simp -dsimp only[*,go_sem,aU,bC,aW];refine aG.intro fun G C=>?_;simp -dsimp only[*,go_sem,aU,bC];have H:=P.fresh C;have k:=b.fresh C;refine c8.app50 (P.upd (by rfl) H _) om (show eO 2 (.big (A (ρ i) (γ j)))from trivial) (bQ ⟨_,_,_,rfl,cp,rfl,fun h=>H _ h rfl⟩) ?_
     intro c S2 R l u;simp only[*,go_sem,aU,bC,aW,aS (om:j<1000000),co]
     have kx:∀d,eC x d->d≠G/\¬eC y d:=fun d o=>⟨k d o,B d o⟩;refine⟨⟨j+1,om,rfl,?_,fun a f=>?_,R.congr fun a f=>by grind,fun d o he=>?_⟩,om⟩
     .refine b.step (fM.noneS _) (fun d o=>?_)
      cases hS:S' d with
      | none =>
       exfalso;obtain⟨_,_,_,e⟩:=o;rcases b.2 with⟨_,v⟩|⟨c,_,v,g',E,_⟩
       .rw[v]at e;cases e
       .rw[v]at e;cases e;rw[hS]at E;cases E
      | some X=>exact l d X (by rw[aO (kx d o).1];exact hS) (kx d o).2
     .obtain⟨F,r2⟩:=w a f;have I:g a≠G:=bG.fresh F C;refine⟨F.via fun X b=>l _ _ (by rw[aO I];exact b) r2,fun hb=>?_⟩
      rw[eH]at hb;rw[<-hb]at u;rcases u with h|h
      .exact r2 h
      .rw[aO I]at h;exact bG.fresh F h rfl
     .rw[eH]at he;subst he;rcases u with h|h
      .exact B d o h
      .rw[aO (k d o)]at h;obtain⟨_,_,_,e⟩:=o;rcases b.2 with⟨_,v⟩|⟨c,_,v,g',E,_⟩
       .rw[v]at e;cases e
       .rw[v]at e;cases e;rw[h]at E;cases E
    .obtain rfl:j=q:=om
     rcases P.2 with⟨h0,_⟩|⟨c,_,rfl,N⟩
     .omega
     simp -dsimp only[*,go_sem,aU,bC,aW];refine aG.intro fun J D=>?_;simp -dsimp only[*,go_sem];have k:=b.fresh D;refine c8.app59 (b.upd (by rfl) k _) om (show eO 1 (.sl 2 c 0 j)from trivial) (bQ ⟨_,_,_,rfl,cp,rfl,fun h=>k _ h rfl⟩) ?_
     intro d S2 T l u;have K:c≠J:=bG.fresh N D;have U:¬eC x c:=fun h=>B c h (eH.2 rfl);simp only[*,go_sem,aU,bC,aW,aS (om:i<1000000),co]
     refine⟨⟨i+1,om,rfl,fun a=>if a=i then c else g a,T.congr fun a f=>by grind,fun a f=>?_,fun a d f o e=>?_⟩,om⟩
     .by_cases e:a=i
      .subst e;simp only[aK];exact N.via fun X b=>l _ _ (by rw[aO K];exact b) U
      .simp only[e,aM];have F:=(w a om).1;have V:g a≠J:=bG.fresh F D;obtain⟨gg,W,_⟩:=F;exact(w a om).1.via fun X Y=>l _ _ (by rw[aO V];exact Y) (b.other W om)
     .have k1:=fun a f=>(w a f).2;simp only[eH]at k1
      grind
  .simp only[go_sem,aU,bC,aW,L,M,r,s,t,z];obtain rfl:i=p:=om
   rcases b.2 with⟨h0,_⟩|⟨c,_,rfl,N⟩
   .omega
   exact⟨c,rfl,g,N,w,hI⟩

theorem oq{k:Nat}:∀(m:Nat) (M:aH),m<=16->(∀a b,a<m->b<m->nb (M a b) k)->nb (det m M) (m*(k+10)+1)
 | 0,M,_,_=>by simp only[det];exact nb.one om
 | m+1,M,l,h=>by
  simp only[det];have d:∀j,j<m+1->nb (nF j*M 0 j*det m (cut M j)) (k+(m*(k+10)+1)):=by
   intro j e;have f:=oq m (cut M j) om (fun a b n g=>h _ _ om (lN g));have c:=(h 0 j om e).mul f;unfold nb at c ⊢;have:(nF j*M 0 j*det m (cut M j)).natAbs=(M 0 j*det m (cut M j)).natAbs:=by
    unfold nF;split
    .rw[dG]
    .rw[fK];simp
   rw[this];exact c
  have i:=Dw d om (m+1) (ae _);refine i.mono ?_;rw[dl];omega
def mD{b:Nat}{X Y:ft}:(S.upd b X).upd b Y=S.upd b Y:=by
 funext k;simp only[St.upd];split<;>rfl
def dE.upd{b:Nat}{g:Nat->Nat}(h:dE S b g n m A){c:Nat}(d:b≠c)(e:∀i,i<n->g i≠c)(X:ft):dE (S.upd c X) b g n m A :=
 ⟨h.outer.upd d X,fun i a=>(h.row i a).upd (e i a) X,h.inj⟩
def dE.swap{b:Nat}{g:Nat->Nat}(h:dE S b g n m A){p k:Nat}(v:p<n)(w:k<n)(r:p≠k){f:Nat->AV}(l:S b=some ⟨59,1,n,f⟩) :
  dE (S.upd b ⟨59,1,n,bR (bR f p (.sl 2 (g k) 0 m)) k (.sl 2 (g p) 0 m)⟩) b (fun i=>g (dX k p i)) n m (fun i j=>A (dX k p i) j):=by
 obtain⟨g',o,s⟩:=h.outer;rw[l]at o;cases o;have c:∀i,i<n->dX k p i<n:=fun i a=>by unfold dX;split<;>(try split)<;>omega
 refine⟨bG.here fun i a=>?_,fun i a=>(h.row _ (c i a)).upd (fun e=>?_) _,fun i j a t e=>?_⟩
 .have:=s i a;simp only[bR,dX];by_cases d:i=k
  .subst d;simp
  .by_cases q:i=p
   .subst q;simp[d]
   .simp[d,q,this]
 .exact bG.ne (bG.of l) (h.row _ (c i a)) om e.symm
 .have u:=h.inj _ _ (c i a) (c j t) e;unfold dX at u
  grind
def jU{A:aH}{neg:Bool}(e:n<=16)(c:∀i j,i<n->j<n->nb (A i j) k0)(d:oG A n σ neg k){i j:Nat}(f:k+i<n)(g:k+j<n):nb (cX (fun a b=>A (σ a) b) k i j) (17*(k0+10)):=by
 refine(oq (k+1) _ om (fun a b h l=>c _ _ (d.row _ ?_) ?_)).mono ?_
 .rw[qS];split<;>omega
 .rw[qS];split<;>omega
 .have:(k+1)*(k0+10)<=16*(k0+10):=aD _ om;omega
def BQ(A:aH)(n b b2 b5:Nat)(S:St)(k:Nat)(neg:Bool)(Q:(Nat->Nat)->(Nat->Nat->Int)->Prop):Prop:=∃(g σ:Nat->Nat) (B:Nat->Nat->Int),oG A n σ neg k/\dE S b g n n B/\(∀i,i<n->g i≠b2/\g i≠b5)/\en S b2 50 2 (.big 0)/\en S b5 50 2 (.big (det k (fun a c=>A (σ a) c)))/\Q σ B
def OF(A:aH)(n k:Nat)(σ:Nat->Nat)(B:Nat->Nat->Int):Prop:=∀i j,k<=i->i<n->k<=j->j<n->B i j=cX (fun a c=>A (σ a) c) k (i-k) (j-k)
def StgP(A:aH)(n k p:Nat)(σ:Nat->Nat)(B:Nat->Nat->Int):Prop:=OF A n k σ B/\∀i,k<=i->i<p->B i k=0
def IK(A:aH)(n k i j:Nat)(σ:Nat->Nat)(B:Nat->Nat->Int):Prop:=cX (fun a c=>A (σ a) c) k 0 0≠0/\∀a c,k<=a->a<n->k<=c->c<n->B a c=if k<a/\k<c/\(a<i∨(a=i/\c<j))then cX (fun a c=>A (σ a) c) (k+1) (a-(k+1)) (c-(k+1))else cX (fun a c=>A (σ a) c) k (a-k) (c-k)
def iu(n:Nat)(A:aH)(E:Nat)(h1:1<=n)(M:n<=16)(N:∀i j,i<n->j<n->nb (A i j) E)(hk:E<=10000000):PF 26 [aU n n A] (.big (det n A)):=by
 refine jo func26 ntmps26 results26 ?_;simp -dsimp only[go_sem];refine aG.intro fun y f2=>?_;simp -dsimp only[go_sem];refine(yY n n A E om h1 om N om _ _ (cY _ _)).mono ?_;rintro r S1 ⟨b,g0,rfl,H⟩;simp -dsimp only[go_sem];refine(gQ dc dc).call ?_
 simp -dsimp only[go_sem];refine aG.intro fun z f5=>?_;simp only[go_sem];have hb2:y≠b:=fun e=>by have:=H.2.2.1;rw[<-e,cp]at this;cases this
 have hg2:∀i,i<n->g0 i≠y:=fun i h e=>by have:=H.2.2.2 i h;rw[e,cp]at this;cases this
 have Y:y≠z:=fun e=>by have:=H.2.1 y _ cp;rw[e,f5]at this;cases this
 have Q:b≠z:=bG.fresh H.1.outer f5;have hg5:∀i,i<n->g0 i≠z:=fun i h=>bG.fresh (H.1.row i h) f5;refine aI (fun O S=>∃(k:Nat) (neg:Bool),k<=n/\O 2=.ptr 2 y 0/\O 3=.sl 1 b 0 n/\O 4=.int .i64 n/\O 5=.ptr 2 z 0/\O 6=.bool neg/\O 7=.int .i64 k/\BQ A n b y z S k neg (OF A n k)) (fun O S=>n-co (O 7)) ?_ ?_
 .simp only[go_sem];refine⟨0,om,false,rfl,rfl,g0,id,A,oG.init A n,(H.1.upd Q hg5 _).upd Q hg5 _,fun i h=>⟨hg2 i h,hg5 i h⟩,?_,en.set,fun i j _ _ _ _=>by rw[gZ];rfl⟩
  exact(en.upd ⟨_,H.2.1 y _ cp,rfl⟩ Y _).upd Y _
 .rintro O S ⟨k,neg,hkn,s,I,F,J,G,C,x⟩;by_cases d:k<n
  .simp only[*,go_sem,aa];refine aI (fun O S=>∃p:Nat,k<=p/\p<=n/\O 2=.ptr 2 y 0/\O 3=.sl 1 b 0 n/\O 4=.int .i64 n/\O 5=.ptr 2 z 0/\O 6=.bool neg/\O 7=.int .i64 k/\O 8=.int .i64 p/\BQ A n b y z S k neg (StgP A n k p)) (fun O S=>n-co (O 8)) ?_ ?_
   .simp only[*,go_sem];obtain⟨g,σ,B,f,l,t,V2,V5,m⟩:=x;exact⟨k,om,om,rfl,g,σ,B,f,l,t,V2,V5,m,fun i h1 M=>om⟩
   .clear x;rintro O S ⟨p,hkp,hpn,s,I,F,J,G,C,e8,x⟩;by_cases Z:p<n
    .obtain⟨g,σ,B,f,l,t,V2,V5,m,hZ⟩:=x;obtain⟨g1,P,L⟩:=l.outer;obtain⟨g2,u2,v2⟩:=l.row p Z;have v1':=L p Z;have v2':=v2 k d;have hbp:=jU M N f (i:=p-k) (j:=0) om om;have D:=m p k hkp Z (ae _) d;rw[cq]at D;rw[<-D]at hbp;simp -dsimp only[go_sem,aa,I,F,C,e8,Z,d,P,u2,v1',v2'];refine(ka hbp om).call ?_;by_cases h0:B p k=0
     .simp -dsimp only[go_sem,aa,s,I,F,J,G,C,e8,Z,h0,tf,aS (om:p<1000000),co]
      refine⟨⟨p+1,om,om,rfl,g,σ,B,f,l,t,V2,V5,m,fun i h1 M=>?_⟩,om⟩
      by_cases e:i=p
      .rw[e];exact h0
      .exact hZ i h1 om
     .have hs0:((B p k).sign==0)=false:=by
       simp only[it,Bu];rw[mb];exact h0
      have hpn':((p:Int)==n)=false:=by simp;omega
      simp -dsimp only[go_sem,aa,s,I,F,J,G,C,e8,Z,hs0,hpn'];by_cases R:k<p
      .obtain⟨g3,u3,X⟩:=l.row k d;have v3':=L k d;have v1'':g1 p=.sl 2 (g p) 0 n:=v1';have v3'':g1 k=.sl 2 (g k) 0 n:=v3';simp -dsimp only[go_sem,R];refine ie 13 kr ?_
       simp only[go_sem,aa,I,G,C,e8,Z,d,P,v1'',v3'',aS (om:k<1000000)]
       have T:BQ A n b y z ((S.upd b ⟨59,1,n,bR g1 p (.sl 2 (g k) 0 n)⟩).upd b ⟨59,1,n,bR (bR g1 p (.sl 2 (g k) 0 n)) k (.sl 2 (g p) 0 n)⟩) k (!neg) (IK A n k (k+1) (k+1)):=by
        rw[mD];have hs:∀i,i<n->dX k p i<n:=fun i h=>by unfold dX;split<;>(try split)<;>omega
        refine⟨_,fun a=>σ (dX k p a),_,f.swap R Z,l.swap Z d om P,fun i h=>t _ (hs i h),V2.upd hb2 _,?_,?_,fun a c v o u q=>?_⟩
        .have e:=zI (n:=k) (fun a c=>A (σ a) c) (i:=k) (k:=p) om om;rw[e];exact V5.upd (aj Q) _
        .have e:=yB (k:=k) (p:=p) (fun a c=>A (σ a) c) hkp 0 0;rw[e,show dX 0 (p-k) 0=p-k by simp[dX],<-D];exact h0
        .rw[af om];have e:=yB (k:=k) (p:=p) (fun a c=>A (σ a) c) hkp (a-k) (c-k);show B (dX k p a) c=_;rw[e,m (dX k p a) c (by unfold dX;split<;>(try split)<;>omega) (hs a o) u q]
         congr 1;unfold dX;split<;>(try split)<;>(try split)<;>(try split)<;>omega
       refine aI (fun O S=>∃i:Nat,k+1<=i/\i<=n/\O 2=.ptr 2 y 0/\O 3=.sl 1 b 0 n/\O 4=.int .i64 n/\O 5=.ptr 2 z 0/\O 6=.bool (!neg)/\O 7=.int .i64 k/\O 9=.int .i64 i/\BQ A n b y z S k (!neg) (IK A n k i (k+1))) (fun O S=>n-co (O 9)) ?_ ?_
       .simp only[*,go_sem];exact⟨k+1,om,om,rfl,T⟩
       .clear T s I F J G C e8 P u2 L v2 v1' v2' l V2 V5 t f;rintro O S ⟨i,hki,hin,s,I,F,J,G,C,e9,x⟩;by_cases h:i<n
        .simp only[*,go_sem,aa,aS (om:k<1000000)]
         refine aI (fun O S=>∃j:Nat,k+1<=j/\j<=n/\O 2=.ptr 2 y 0/\O 3=.sl 1 b 0 n/\O 4=.int .i64 n/\O 5=.ptr 2 z 0/\O 6=.bool (!neg)/\O 7=.int .i64 k/\O 9=.int .i64 i/\O 10=.int .i64 j/\BQ A n b y z S k (!neg) (IK A n k i j)) (fun O S=>n-co (O 10)) ?_ ?_
         .simp only[*,go_sem];exact⟨k+1,om,om,rfl,x⟩
         .clear x;rintro O S ⟨j,hkj,hjn,s,I,F,J,G,C,e9,e10,x⟩;by_cases U:j<n
          .obtain⟨g,σ,B,f,l,t,V2,V5,w,m⟩:=x;obtain⟨g1,P,L⟩:=l.outer;obtain⟨g2,u2,v2⟩:=l.row i h;obtain⟨g3,u3,X⟩:=l.row k d;have w1:=L i h;have w2:=L k d;have w3:=v2 j U;have w4:=v2 k d;have w5:=X j U;have w6:=X k d;obtain⟨gw,uw,vw⟩:=V5;have c1:=m i j om h om U;have c2:=m i k om h (ae _) d;have c3:=m k j (ae _) d om U;have K:=m k k (ae _) d (ae _) d;rw[af om]at c1 c2 c3 K;rw[cq]at c2 c3 K;have n1:=jU M N f (i:=i-k) (j:=j-k) om om;have n2:=jU M N f (i:=i-k) (j:=0) om om;have n3:=jU M N f (i:=0) (j:=j-k) om om;have n4:=jU M N f (i:=0) (j:=0) om om;rw[<-c1]at n1;rw[<-c2]at n2;rw[<-c3]at n3;rw[<-K]at n4;have n5:nb (det k (fun a c=>A (σ a) c)) (17*(E+10)):=(oq k _ om (fun a c ha hc=>N _ _ (f.row a om) om)).mono (by have:k*(E+10)<=16*(E+10):=aD _ om;omega)
           have V:=jh f.lead (i-k-1) (j-k-1);rw[(om:i-k-1+1=i-k),(om:j-k-1+1=j-k),<-c1,<-c2,<-c3,<-K]at V
           have W:=f.lead k (ae _);have hq:(B k k*B i j-B i k*B k j)/det k (fun a c=>A (σ a) c)=cX (fun a c=>A (σ a) c) (k+1) (i-k-1) (j-k-1):=by
            rw[V,di _ W]
           simp -dsimp only[*,go_sem,aa];refine bD 39 kr ?_
           simp only[go_sem,aa,s,I,F,J,G,C,e9,e10,h,U,d,P,u2,u3,w1,w2,w3,w4,w5,w6,uw,vw];refine⟨_,(jl n4 n1 om).pure',_,(jl n2 n3 om).pure',_,(t7 (n4.mul n1) (n2.mul n3) om).pure',_,(oM (k:=17*(E+10)+17*(E+10)+1) ((n4.mul n1).sub (n2.mul n3)) (n5.mono om) om W).pure',?_⟩;simp only[go_sem,aS (om:j<1000000),co]
           rw[hq];refine⟨⟨j+1,om,om,rfl,g,σ,_,f,l.set h u2,t,en.upd V2 (aj (t i h).1) _,en.upd ⟨gw,uw,vw⟩ (aj (t i h).2) _,w,fun a c v o u q=>?_⟩,om⟩
           have h3:=m a c v o u q;simp only[eQ];by_cases e1:a=i/\c=j
           .obtain⟨rfl,rfl⟩:=e1;rw[ah ⟨rfl,rfl⟩,ah om,sC,sC]
           .rw[af e1,h3];by_cases s:k<a/\k<c/\(a<i∨a=i/\c<j)
            .rw[ah s,ah om]
            .rw[af s,af om]
          .obtain rfl:j=n:=om
           obtain⟨g,σ,B,f,l,t,V2,V5,w,m⟩:=x;simp only[*,go_sem,aa,aS (om:i<1000000),co]
           refine⟨⟨i+1,om,om,rfl,g,σ,B,f,l,t,V2,V5,w,fun a c v o u q=>?_⟩,om⟩
           rw[m a c v o u q];by_cases s:k<a/\k<c/\(a<i∨a=i/\c<j)
           .rw[ah s,ah om]
           .rw[af s,af om]
        .obtain rfl:i=n:=om
         obtain⟨g,σ,B,f,l,t,V2,V5,w,m⟩:=x;obtain⟨g1,P,L⟩:=l.outer;obtain⟨g3,u3,X⟩:=l.row k d;have w2:=L k d;have w6:=X k d;obtain⟨gw,uw,vw⟩:=V5;have K:=m k k (ae _) d (ae _) d;rw[af om,cq,dd]at K;simp only[go_sem,aa,s,I,F,J,G,C,e9,h,d,P,u3,w2,w6,uw,aS (om:k<1000000),co]
         refine⟨⟨k+1,om,(!neg),rfl,rfl,g,σ,B,f.step w,l.upd Q (fun i h=>(t i h).2) _,t,V2.upd Y _,?_,fun a c v o u q=>?_⟩,om⟩
         .rw[<-K];exact en.set
         .rw[m a c om o om q,ah om]
      .obtain rfl:k=p:=om
       simp only[go_sem,aS (om:k<1000000),R]
       have T:BQ A n b y z S k neg (IK A n k (k+1) (k+1)):=by
        refine⟨g,σ,B,f,l,t,V2,V5,?_,fun a c v o u q=>?_⟩
        .rw[cq]at D;rw[<-D];exact h0
        .rw[af om];exact m a c v o u q
       refine aI (fun O S=>∃i:Nat,k+1<=i/\i<=n/\O 2=.ptr 2 y 0/\O 3=.sl 1 b 0 n/\O 4=.int .i64 n/\O 5=.ptr 2 z 0/\O 6=.bool neg/\O 7=.int .i64 k/\O 9=.int .i64 i/\BQ A n b y z S k neg (IK A n k i (k+1))) (fun O S=>n-co (O 9)) ?_ ?_
       .simp only[*,go_sem];exact⟨k+1,om,om,rfl,T⟩
       .clear T s I F J G C e8 P u2 L v2 v1' v2' l V2 V5 t f;rintro O S ⟨i,hki,hin,s,I,F,J,G,C,e9,x⟩;by_cases h:i<n
        .simp only[*,go_sem,aa,aS (om:k<1000000)]
         refine aI (fun O S=>∃j:Nat,k+1<=j/\j<=n/\O 2=.ptr 2 y 0/\O 3=.sl 1 b 0 n/\O 4=.int .i64 n/\O 5=.ptr 2 z 0/\O 6=.bool neg/\O 7=.int .i64 k/\O 9=.int .i64 i/\O 10=.int .i64 j/\BQ A n b y z S k neg (IK A n k i j)) (fun O S=>n-co (O 10)) ?_ ?_
         .simp only[*,go_sem];exact⟨k+1,om,om,rfl,x⟩
         .clear x;rintro O S ⟨j,hkj,hjn,s,I,F,J,G,C,e9,e10,x⟩;by_cases U:j<n
          .obtain⟨g,σ,B,f,l,t,V2,V5,w,m⟩:=x;obtain⟨g1,P,L⟩:=l.outer;obtain⟨g2,u2,v2⟩:=l.row i h;obtain⟨g3,u3,X⟩:=l.row k d;have w1:=L i h;have w2:=L k d;have w3:=v2 j U;have w4:=v2 k d;have w5:=X j U;have w6:=X k d;obtain⟨gw,uw,vw⟩:=V5;have c1:=m i j om h om U;have c2:=m i k om h (ae _) d;have c3:=m k j (ae _) d om U;have K:=m k k (ae _) d (ae _) d;rw[af om]at c1 c2 c3 K;rw[cq]at c2 c3 K;have n1:=jU M N f (i:=i-k) (j:=j-k) om om;have n2:=jU M N f (i:=i-k) (j:=0) om om;have n3:=jU M N f (i:=0) (j:=j-k) om om;have n4:=jU M N f (i:=0) (j:=0) om om;rw[<-c1]at n1;rw[<-c2]at n2;rw[<-c3]at n3;rw[<-K]at n4;have n5:nb (det k (fun a c=>A (σ a) c)) (17*(E+10)):=(oq k _ om (fun a c ha hc=>N _ _ (f.row a om) om)).mono (by have:k*(E+10)<=16*(E+10):=aD _ om;omega)
           have V:=jh f.lead (i-k-1) (j-k-1);rw[(om:i-k-1+1=i-k),(om:j-k-1+1=j-k),<-c1,<-c2,<-c3,<-K]at V
           have W:=f.lead k (ae _);have hq:(B k k*B i j-B i k*B k j)/det k (fun a c=>A (σ a) c)=cX (fun a c=>A (σ a) c) (k+1) (i-k-1) (j-k-1):=by
            rw[V,di _ W]
           simp -dsimp only[*,go_sem,aa];refine bD 39 kr ?_
           simp only[go_sem,aa,s,I,F,J,G,C,e9,e10,h,U,d,P,u2,u3,w1,w2,w3,w4,w5,w6,uw,vw];refine⟨_,(jl n4 n1 om).pure',_,(jl n2 n3 om).pure',_,(t7 (n4.mul n1) (n2.mul n3) om).pure',_,(oM (k:=17*(E+10)+17*(E+10)+1) ((n4.mul n1).sub (n2.mul n3)) (n5.mono om) om W).pure',?_⟩;simp only[go_sem,aS (om:j<1000000),co]
           rw[hq];refine⟨⟨j+1,om,om,rfl,g,σ,_,f,l.set h u2,t,en.upd V2 (aj (t i h).1) _,en.upd ⟨gw,uw,vw⟩ (aj (t i h).2) _,w,fun a c v o u q=>?_⟩,om⟩
           have h3:=m a c v o u q;simp only[eQ];by_cases e1:a=i/\c=j
           .obtain⟨rfl,rfl⟩:=e1;rw[ah ⟨rfl,rfl⟩,ah om,sC,sC]
           .rw[af e1,h3];by_cases s:k<a/\k<c/\(a<i∨a=i/\c<j)
            .rw[ah s,ah om]
            .rw[af s,af om]
          .obtain rfl:j=n:=om
           obtain⟨g,σ,B,f,l,t,V2,V5,w,m⟩:=x;simp only[*,go_sem,aa,aS (om:i<1000000),co]
           refine⟨⟨i+1,om,om,rfl,g,σ,B,f,l,t,V2,V5,w,fun a c v o u q=>?_⟩,om⟩
           rw[m a c v o u q];by_cases s:k<a/\k<c/\(a<i∨a=i/\c<j)
           .rw[ah s,ah om]
           .rw[af s,af om]
        .obtain rfl:i=n:=om
         obtain⟨g,σ,B,f,l,t,V2,V5,w,m⟩:=x;obtain⟨g1,P,L⟩:=l.outer;obtain⟨g3,u3,X⟩:=l.row k d;have w2:=L k d;have w6:=X k d;obtain⟨gw,uw,vw⟩:=V5;have K:=m k k (ae _) d (ae _) d;rw[af om,cq,dd]at K;simp only[go_sem,aa,s,I,F,J,G,C,e9,h,d,P,u3,w2,w6,uw,aS (om:k<1000000),co]
         refine⟨⟨k+1,om,neg,rfl,rfl,g,σ,B,f.step w,l.upd Q (fun i h=>(t i h).2) _,t,V2.upd Y _,?_,fun a c v o u q=>?_⟩,om⟩
         .rw[<-K];exact en.set
         .rw[m a c om o om q,ah om]
    .obtain rfl:p=n:=om
     have hpn':((p:Int)==p)=true:=by simp
     obtain⟨g,σ,B,f,l,t,V2,V5,m,hZ⟩:=x;obtain⟨gv,uv,vv⟩:=V2;simp only[*,go_sem,aa];have hz:det p A=0:=f.zero d (fun i h=>by
      have h3:=m (k+i) k om om (ae _) d;rw[hZ (k+i) om om,cq,(om:k+i-k=i)]at h3
      exact h3.symm)
     rw[hz];exact VR.mf rfl
  .obtain rfl:k=n:=om
   obtain⟨g,σ,B,f,l,t,V2,V5,m⟩:=x;obtain⟨gv,uv,vv⟩:=V2;obtain⟨gw,uw,vw⟩:=V5;have hs:=f.sign;have hbd:nb (det k (fun a c=>A (σ a) c)) (17*(E+10)):=(oq k _ M (fun a c ha hc=>N _ _ (f.row a ha) hc)).mono (by have:k*(E+10)<=16*(E+10):=aD _ M;omega)
   cases neg
   .simp only[bK,aM]at hs;simp only[go_sem,aa,s,F,J,G,C,d,uv,uw,vw,bR];rw[<-hs];exact VR.mf rfl
   .simp only[aK]at hs;simp -dsimp only[go_sem,aa,s,F,J,G,C,d,uv,uw,vw];refine(t8 hbd om).call ?_;simp only[go_sem,aa,s,uv,vw,bR];rw[hs,IX];exact VR.mf rfl

def c8.vr{e:Nat}(h:c8 e es S0 S x j g)(a:∀i,i<j->VR S (g i) (g' i)):VR S x (.lst es j g'):=by
 rcases h.2 with⟨rfl,rfl⟩|⟨c,_,rfl,b⟩
 .exact VR.nil
 .exact VR.sl b om (fun i d=>by rw[az];exact a i d)
def fst(k m i:Nat):Nat:=if i<k then i else m
def FL(k m:Nat)(s:k<=1000)(t:m<=1000):PF 173 [.int .i64 k,.int .i64 m] (aW (k+1) (fun i=>(fst k m i:Nat))):=by
 refine jo func173 ntmps173 results173 ?_;simp only[go_sem];refine aI (fun O S=>∃(i:Nat) (x:AV),i<=k/\O 0=.int .i64 k/\O 1=.int .i64 m/\O 5=x/\O 6=.int .i64 i/\c8 3 1 St.none S x i (fun a=>.int .i64 a)) (fun O S=>k-co (O 6)) ?_ ?_
 .simp only[go_sem];exact⟨0,om,rfl,c8.nil (fM.noneS _) _⟩
 .rintro O S ⟨i,x,u,v,w,y,z,f⟩;by_cases o:i<k
  .simp -dsimp only[*,go_sem];refine aG.intro fun p g=>?_;simp -dsimp only[*,go_sem];have b:=f.fresh g;refine c8.app3 (f.upd (by rfl) b _) om (show eO 1 (.int .i64 (i:Int)) by simp[eO]) (bQ ⟨_,_,_,rfl,cp,rfl,fun h=>b _ h rfl⟩) ?_
   intro c S2 d j l;simp only[*,go_sem,aS (om:i<1000000),co]
   exact⟨⟨i+1,om,rfl,d.congr fun a q=>by grind⟩,om⟩
  .obtain rfl:i=k:=om
   simp -dsimp only[*,go_sem];refine aG.intro fun r n=>?_;simp -dsimp only[*,go_sem];have b:=f.fresh n;refine c8.app3 (f.upd (by rfl) b _) om (show eO 1 (.int .i64 (m:Int)) by simp[eO]) (bQ ⟨_,_,_,rfl,cp,rfl,fun h=>b _ h rfl⟩) ?_
   intro c S2 d j l;simp only[*,go_sem];refine d.vr (fun a q=>?_);have:(if a=i then AV.int .i64 (m:Int)else .int .i64 (a:Int))=.int .i64 ((fst i m a:Nat):Int):=by
    unfold fst;by_cases e:a=i
    .subst e;simp
    .rw[af e,ah om]
   rw[this];exact VR.mf rfl
def J3(A:aH)(k i j:Nat):det (k+1) (fun a b=>A (fst k (k+i) a) (fst k (k+j) b))=cX A k i j:=by
 unfold cX;exact bI fun a b _ _=>rfl
def tD(n:Nat)(A:aH)(f:Nat)(p:1<=n)(q:n<=16)(r:∀i j,i<n->j<n->nb (A i j) f)(s:f<=10000000):PF 118 [aU n n A] (.tup [bC n (fun k=>det (k+1) A),.bool true]):=by
 refine jo func118 ntmps118 results118 ?_;simp -dsimp only[go_sem,aa];refine(pI n A p q).call ?_;simp only[go_sem];refine aI (fun O S=>∃(i:Nat) (x:AV),i<=n/\O 0=aU n n A/\O 4=.int .i64 n/\O 6=x/\O 7=.int .i64 i/\c8 50 2 St.none S x i (fun a=>.big (det (a+1) A))) (fun O S=>n-co (O 7)) ?_ ?_
 .simp only[go_sem];exact⟨0,om,rfl,c8.nil (fM.noneS _) _⟩
 .rintro O S ⟨i,x,B,C,D,E,F,g⟩;by_cases t:i<n
  .have e:∀a,a<i+1->fst i i a<n:=fun a l=>by unfold fst;split<;>omega
   simp -dsimp only[*,go_sem,aa];refine(FL i i om om).call ?_;simp -dsimp only[*,go_sem,aa];refine(FL i i om om).call ?_;simp -dsimp only[*,go_sem,aa];refine(wV n n (i+1) (i+1) A (fst i i) (fst i i) om om om om e e).pf.call ?_;simp -dsimp only[*,go_sem,aa];refine(iu (i+1) _ f om om (fun a b l u=>r _ _ (e a l) (e b u)) s).call ?_;simp -dsimp only[*,go_sem];refine aG.intro fun v m=>?_;simp -dsimp only[*,go_sem];have d:=g.fresh m;have w:det (i+1) (fun a b=>A (fst i i a) (fst i i b))=det (i+1) A:=by
    have:=J3 A i 0 0;rw[cN,dd]at this;exact this
   refine c8.app50 (g.upd (by rfl) d _) om (show eO 2 (.big (det (i+1) A))from trivial) (bQ ⟨_,_,_,rfl,cp,by rw[w];rfl,fun h=>d _ h rfl⟩) ?_
   intro c S2 o y z;simp only[*,go_sem,aS (om:i<1000000),co]
   exact⟨⟨i+1,om,rfl,o.congr fun a l=>by grind⟩,om⟩
  .obtain rfl:i=n:=om
   simp only[*,go_sem,aa];exact VR.tup2 (g.vr fun a _=>VR.mf rfl) (VR.mf rfl)
def sj(a:Int):lV a a=0:=by unfold lV;simp
def tX(n:Nat)(A:aH)(e:Nat)(r:n<=16)(f:∀i j,i<n->j<n->nb (A i j) e)(s:e<=10000000)(l:∀a b,a<n->b<n->A a b=A b a):PF 116 [aU n n A] (.bool true):=by
 refine jo func116 ntmps116 results116 ?_;simp only[go_sem,aU,bC];refine aI (fun O S=>∃i:Nat,i<=n/\O 0=aU n n A/\O 6=.int .i64 n/\O 7=.int .i64 i) (fun O S=>n-co (O 7)) ?_ ?_
 .simp only[go_sem,aU,bC];exact⟨0,om,rfl⟩
 .rintro O S ⟨i,t,g,h,k⟩;by_cases c:i<n
  .simp only[*,go_sem,aU,bC];refine aI (fun O S=>∃j:Nat,j<=i/\O 0=aU n n A/\O 3=.int .i64 i/\O 4=.int .i64 j/\O 6=.int .i64 n/\O 7=.int .i64 i) (fun O S=>i-co (O 4)) ?_ ?_
   .simp only[*,go_sem,aU,bC];exact⟨0,om,rfl⟩
   .rintro O S ⟨j,u,g,m,o,h,k⟩;by_cases p:j<i
    .have d:j<n:=om
     simp -dsimp only[*,go_sem,aU,bC];refine bD 16 kr ?_
     simp only[go_sem,aa,aU,bC,g,m,o,h,k,c,d];have q:lV (A i j) (A j i)=0:=by rw[l i j c d];exact sj _
     refine⟨_,(nI (f i j c d) (f j i d c) om).pure',?_⟩;rw[q];simp only[go_sem,aS (om:j<1000000),co]
     exact⟨⟨j+1,om,rfl⟩,om⟩
    .simp only[*,go_sem,aU,bC,aS (om:i<1000000),co]
     exact⟨⟨i+1,om,rfl⟩,om⟩
  .simp only[*,go_sem,aU,bC];exact VR.mf rfl

def VR.agg(h:∀x∈l,qZ x=true):VR S (.agg l) (.agg l):=by
 intro w v d a;simp only[bM]at a ⊢;obtain⟨vs,b,c⟩:=a;exact⟨vs,b,DB l vs h c⟩
def rN(a b:Int):Int:=a/(nh a b:Int)
def rD(a b:Int):Int:=b/(nh a b:Int)
def uL(h:0<b):0<(nh a b:Int):=by
 have:=Int.gcd_pos_of_ne_zero_right a (om:b≠0);omega
def M5:(nh a b:Int)*rN a b=a:=gW (Int.gcd_dvd_left ..)
def Hj:(nh a b:Int)*rD a b=b:=gW (Int.gcd_dvd_right ..)
def ql(h:0<b):0<rD a b:=by
 have c:=Hj (a:=a) (b:=b);exact qm (uL (a:=a) h) (by rw[c];exact h)
def Jv:rN a b*b=a*rD a b:=by
 have c:=M5 (a:=a) (b:=b);have d:=Hj (a:=a) (b:=b);have e:(nh a b:Int)*(rN a b*rD a b)=a*rD a b:=by rw[<-fK,c]
 have f:(nh a b:Int)*(rN a b*rD a b)=rN a b*b:=by rw[Vm,d]
 rw[<-e,f]
def sS{g x y:Int}(h:g*x=y)(a:0<g):x.natAbs<=y.natAbs:=by
 rw[<-h,cH];exact Nat.le_mul_of_pos_left _ om
def zQ(h:0<b)(c:nb a k):nb (rN a b) k:=nb.of_le (sS M5 (uL h)) c
def zR(h:0<b)(c:nb b k):nb (rD a b) k:=nb.of_le (sS Hj (uL h)) c
def oR(e:0<b)(f:0<d)(h:a*d=c*b):a/b=c/d:=by
 rw[<-Ko a b f,h,ck b d,Ko c d e]
def Cg(h:0<a):a.sign=1:=dq h
def OI(f:nb a k)(c:nb b k)(l:k<=500000000)(d:0<b):PF 254 [.big a,.big b] (.tup [.agg [.big (rN a b),.big (rD a b)],.bool true]):=by
 refine jo func254 ntmps254 results254 ?_;have i:=uL (a:=a) d;have g:nb (nh a b:Int) k:=nb.of_le (by have:=Int.gcd_le_natAbs_right a (om:b≠0);simp;exact this) c
 try simp -dsimp only[go_sem]
 refine aG.intro fun m n=>?_
 try simp -dsimp only[go_sem]
 refine aG.intro fun o j=>?_;have n3_2:=(ag j).1
 try simp -dsimp only[go_sem]
 refine aG.intro fun p h=>?_;have n4_3:=(ag h).1;have n4_2:=(ag (ag h).2).1;simp -dsimp only[go_sem,aa,aj n4_3];refine(ka c om).call ?_;rw[Cg d];simp -dsimp only[go_sem,aa,aj n4_3,show((1:Int)==0)=false from rfl];refine(ka c om).call ?_;rw[Cg d];simp -dsimp only[go_sem,aa,aj n3_2,aj n4_2,aj n4_3,show ¬((1:Int)<0) by decide]
 refine(PN f c om).call ?_;simp -dsimp only[go_sem];refine aG.intro fun q e=>?_;have n6_4:=(ag e).1;have n6_3:=(ag (ag e).2).1;have n6_2:=(ag (ag (ag e).2).2).1;simp -dsimp only[go_sem,aa];refine bD 7 kr ?_
 simp only[go_sem,aa,aj n3_2,aj n4_2,aj n4_3,aj n6_2,aj n6_3,aj n6_4,bR];refine⟨_,(oM f g om om).pure',_,(oM c g om om).pure',?_⟩;simp only[go_sem,ja,eG,a8,aR,cG,cP,bS,bH,d6,cq];exact VR.tup2 (VR.agg (by simp[qZ])) (VR.mf rfl)
def nQ(d:nb a k)(e:nb b k)(f:k<=500000000)(g:0<b):PF 220 [.agg [.big a,.big b]] (.agg [.big (rN a b),.big (rD a b)]):=by
 refine jo func220 ntmps220 results220 ?_;simp -dsimp only[go_sem,a8,aR,cG,cP];refine aG.intro fun i j=>?_
 try simp -dsimp only[go_sem]
 refine aG.intro fun l h=>?_;have n2_1:=(ag h).1;simp -dsimp only[go_sem,aa,aj n2_1,bS,bH];refine(OI d e f g).call ?_;simp -dsimp only[go_sem,bS,bH];refine aG.intro fun m c=>?_;have n3_2:=(ag c).1;have n3_1:=(ag (ag c).2).1;simp only[go_sem,aa,aj n3_2,ja,eG,a8,aR,cG,cP,bS,bH,d6,cq];exact VR.agg (by simp[qZ])
def RA:PF 219 [] (.agg [.big 1,.big 2]):=by
 refine jo func219 ntmps219 results219 ?_
 try simp -dsimp only[go_sem]
 refine aG.intro fun a b=>?_;simp -dsimp only[go_sem,aa];refine(gQ dc dc).call ?_
 simp -dsimp only[go_sem,aa];refine(gQ dc dc).call ?_
 simp only[go_sem,aa,ja,eG,a8,aR,cG,cP,bS,bH,d6,cq];exact VR.agg (by simp[qZ])
def OO(d:nb a k)(e:nb b k)(g:k<=500000000)(c:0<b):PF 217 [.agg [.big a,.big b]] (.big (a/b)):=by
 refine jo func217 ntmps217 results217 ?_;simp -dsimp only[go_sem,a8,aR,cG,cP];refine aG.intro fun j l=>?_
 try simp -dsimp only[go_sem]
 refine aG.intro fun m h=>?_;have n2_1:=(ag h).1;simp -dsimp only[go_sem,aa,aj n2_1,eG,bS,bH];refine(nQ d e g c).call ?_;simp -dsimp only[go_sem];refine aG.intro fun n f=>?_;have n3_2:=(ag f).1;have n3_1:=(ag (ag f).2).1;simp -dsimp only[go_sem,aa,ja,eG,a8,aR,cG,cP,bS,bH,d6,cq];have i:=ql (a:=a) c;refine(oM (zQ c d) (zR c e) om om).call ?_;simp only[go_sem,aa,aj n3_2,bR,ja,bS,bH,d6,cq];rw[oR i c Jv];exact VR.mf rfl
def Gt(d:nb a k)(e:nb b k)(f:k<=500000000)(g:0<b):PF 170 [.big a,.big b] (.agg [.big (rN a b),.big (rD a b)]):=by
 refine jo func170 ntmps170 results170 ?_
 try simp -dsimp only[go_sem]
 refine aG.intro fun i j=>?_
 try simp -dsimp only[go_sem]
 refine aG.intro fun l h=>?_;have n3_2:=(ag h).1
 try simp -dsimp only[go_sem]
 refine aG.intro fun m c=>?_;have n4_3:=(ag c).1;have n4_2:=(ag (ag c).2).1;simp -dsimp only[go_sem,aa,aj n3_2,aj n4_2,aj n4_3];refine(nQ d e f g).call ?_;simp only[go_sem,aa,ja,eG,a8,aR,cG,cP,bS,bH,d6,cq];exact VR.agg (by simp[qZ])
def Ul(o:nb a k)(p:nb b k)(q:nb c k)(r:nb d k)(w:k<=100000000)(h:0<b)(i:0<d) :
  PF 218 [.agg [.big a,.big b],.agg [.big c,.big d]] (.agg [.big (rN (rN a b*rD c d+rN c d*rD a b) (rD a b*rD c d)),.big (rD (rN a b*rD c d+rN c d*rD a b) (rD a b*rD c d))]):=by
 refine jo func218 ntmps218 results218 ?_;have t:=ql (a:=a) h;have u:=ql (a:=c) i;have l:=zQ h o;have e:=zR (a:=a) h p;have m:=zQ i q;have f:=zR (a:=c) i r;simp -dsimp only[go_sem,a8,aR,cG,cP];refine aG.intro fun x y=>?_
 try simp -dsimp only[go_sem]
 refine aG.intro fun z v=>?_;have n3_2:=(ag v).1
 try simp -dsimp only[go_sem]
 refine aG.intro fun A s=>?_;have n4_3:=(ag s).1;have n4_2:=(ag (ag s).2).1;simp -dsimp only[go_sem];refine bD 6 kr ?_
 simp -dsimp only[go_sem,aa,aj n3_2,aj n4_2,aj n4_3,eG,bS,bH];refine⟨_,(nQ o p om h).pure',_,(nQ q r om i).pure',?_⟩;refine aG.intro fun B n=>?_;have n5_4:=(ag n).1;have n5_3:=(ag (ag n).2).1;have n5_2:=(ag (ag (ag n).2).2).1
 try simp -dsimp only[go_sem]
 refine aG.intro fun C j=>?_;have n6_5:=(ag j).1;have n6_4:=(ag (ag j).2).1;have n6_3:=(ag (ag (ag j).2).2).1;have n6_2:=(ag (ag (ag (ag j).2).2).2).1;simp -dsimp only[go_sem,nn n6_5,a8,aR,cG,cP];refine pS 21 [[19]] kr ?_
 simp -dsimp only[go_sem,aa,aj n6_5,ja,eG,a8,aR,cG,cP,bS,bH,d6,cq];refine⟨_,(jl l f om).pure',_,(jl m e om).pure',_,(ug (l.mul f) (m.mul e) om).pure',_,(jl e f om).pure',_,(OI (k:=k+k+1) ((l.mul f).add (m.mul e)) ((e.mul f).mono om) om (lM t u)).pure',?_⟩;simp -dsimp only[go_sem];refine aG.intro fun D g=>?_;have n7_6:=(ag g).1;have n7_5:=(ag (ag g).2).1;have n7_4:=(ag (ag (ag g).2).2).1;have n7_3:=(ag (ag (ag (ag g).2).2).2).1;have n7_2:=(ag (ag (ag (ag (ag g).2).2).2).2).1;simp only[go_sem,aj n5_4,aj n6_4,aj n7_2,ja,a8,aR,cG,cP,bS,bH,d6,cq];exact VR.agg (by simp[qZ])
def PZ(c:0<b):(rN a b*rD 1 2+rN 1 2*rD a b)/(rD a b*rD 1 2)=(2*a+b)/(2*b):=by
 have d:rN 1 2=1:=by decide
 have e:rD 1 2=2:=by decide
 have f:=ql (a:=a) c;have g:=Jv (a:=a) (b:=b);rw[d,e];refine oR om om ?_
 grind
def IP(e:nb a k)(f:nb b k)(t:k<=10000000)(l:4<=k)(d:0<b):PF 169 [.agg [.big a,.big b]] (.big ((2*a+b)/(2*b))):=by
 refine jo func169 ntmps169 results169 ?_;have g:nb 1 k:=nb.one om;have h:nb 2 k:=dK (by decide:2<2^2) (cu om om)
 have m:=ql (a:=a) d;have n:0<rD 1 2:=by decide
 have o:=zQ d e;have i:=zR (a:=a) d f;have p:nb (rN 1 2) k:=zQ dc g
 have j:nb (rD 1 2) k:=zR dc h
 have q:=((o.mul j).add (p.mul i));have r:=((i.mul j).mono (om:k+k<=k+k+1))
 have c:=lM m n;simp -dsimp only[go_sem,a8,aR,cG,cP];refine aG.intro fun u v=>?_
 try simp -dsimp only[go_sem]
 refine aG.intro fun w s=>?_;have n2_1:=(ag s).1;simp -dsimp only[go_sem];refine bD 4 kr ?_
 simp only[go_sem,aa,aj n2_1,bR,eG,bS,bH];refine⟨_,RA.pure',_,(Ul e f g h om d dc).pure',_,(OO (k:=k+k+1) (zQ c q) (zR c r) om (ql c)).pure',?_⟩
 simp only[go_sem];rw[oR (ql c) c Jv,PZ d];exact VR.mf rfl

def fH.cons(h:VA S x y)(a:fH S l r):fH S (x::l) (y::r):=⟨h,a⟩
def c8.blk{e:Nat}(h:c8 e es S0 S x j g){d:Nat}(f:eC x d):∃X,S d=some X:=by
 obtain⟨_,_,_,a⟩:=f;rcases h.2 with⟨_,b⟩|⟨c,_,b,g',i,_⟩
 .rw[b]at a;cases a
 .rw[b]at a;cases a;exact⟨_,i⟩
def c8.keep{e:Nat}(h:c8 e es S0 S y j g)(c:fM S0 S')(f:∀d X,S d=some X->¬eC x d->S' d=some X)(i:∀d,eC y d->¬eC x d):c8 e es S0 S' y j g :=
 h.step c (fun d a=>by obtain⟨X,b⟩:=h.blk a;rw[b];exact f d X b (i d a))
def xf(n i j:Nat)(A:aH)(W:Nat)(h1:j<=i)(h2:i<n)(h3:n<=16)(hA:∀i j,i<n->j<n->nb (A i j) W)(hk:W<=10000000):PF 171 [aU n n A,.int .i64 i,.int .i64 j] (.big (kZ A i j)):=by
 refine jo func171 ntmps171 results171 ?_
 try simp -dsimp only[go_sem]
 refine aG.intro fun D f6=>?_;simp only[go_sem];refine aI (fun O S=>∃(a:Nat) (x y:AV),a<=j/\O 0=aU n n A/\O 1=.int .i64 i/\O 2=.int .i64 j/\O 6=.ptr 2 D 0/\O 7=x/\O 8=y/\O 9=.int .i64 a/\en S D 50 2 (.big 0)/\c8 3 1 St.none S x a (fun a=>.int .i64 a)/\c8 3 1 St.none S y a (fun a=>.int .i64 a)/\∀d,eC x d->¬eC y d) (fun O S=>j-co (O 9)) ?_ ?_
 .simp only[go_sem];exact⟨0,om,rfl,en.new rfl,c8.nil (fM.noneS _) _,c8.nil (fM.noneS _) _,fun d h=>by obtain⟨_,_,_,e⟩:=h;cases e⟩
 .rintro O S ⟨a,x,y,Z,e0,e1,e2,e6,e7,e8,e9,V6,P,H,E⟩;obtain⟨g6,N,v6⟩:=V6;have Q:=P.other N om;have R:=H.other N om;by_cases hlt:a<j
  .simp -dsimp only[*,go_sem];refine aG.intro fun I f=>?_;simp -dsimp only[*,go_sem];have r:=P.fresh f;have s:=H.fresh f;have t:D≠I:=fun e=>by rw[<-e,N]at f;cases f
   refine c8.app3 (P.upd (by rfl) r _) om (show eO 1 (.int .i64 (a:Int)) by simp[eO]) (bQ ⟨_,_,_,rfl,cp,rfl,fun h=>r _ h rfl⟩) ?_
   intro c S2 o u J;have v:=u D _ (by rw[aO t];exact N) Q
   have w:c8 3 1 St.none S2 y a (fun a=>.int .i64 a):=(H.upd (by rfl) s _).keep (fM.noneS _) u (fun d l b=>E d b l)
   have F:¬eC y c:=by
    intro G;rcases J with h|h
    .exact E c h G
    .obtain⟨X,z⟩:=H.blk G;rw[aO (s c G),z]at h;cases h
   simp -dsimp only[*,go_sem];refine aG.intro fun K g=>?_;simp -dsimp only[*,go_sem];have m:=o.fresh g;have k:=w.fresh g;have B:D≠K:=fun e=>by rw[<-e,v]at g;cases g
   refine c8.app3 (w.upd (by rfl) k _) om (show eO 1 (.int .i64 (a:Int)) by simp[eO]) (bQ ⟨_,_,_,rfl,cp,rfl,fun h=>k _ h rfl⟩) ?_
   intro c2 S3 L C T;have U:=C D _ (by rw[aO B];exact v) R
   have M:=(o.upd (by rfl) m _).keep (fM.noneS _) C (fun d l b=>by rw[eH]at l;rw[l]at b;exact F b)
   simp only[*,go_sem,aS (om:a<1000000),co]
   refine⟨⟨a+1,om,rfl,⟨g6,U,v6⟩,M.congr fun a Z=>by grind,L.congr fun a Z=>by grind,fun d l b=>?_⟩,om⟩
   rw[eH]at l b;subst l;subst b;rcases T with h|h
   .exact F h
   .obtain⟨X,z⟩:=o.blk (eH.2 rfl);rw[aO (m _ (eH.2 rfl)),z]at h;cases h
  .obtain rfl:a=j:=om
   simp -dsimp only[*,go_sem];refine aG.intro fun I f=>?_;simp -dsimp only[*,go_sem];have r:=P.fresh f;have s:=H.fresh f;have t:D≠I:=fun e=>by rw[<-e,N]at f;cases f
   refine c8.app3 (P.upd (by rfl) r _) om (show eO 1 (.int .i64 (i:Int)) by simp[eO]) (bQ ⟨_,_,_,rfl,cp,rfl,fun h=>r _ h rfl⟩) ?_
   intro c S2 o u J;have v:=u D _ (by rw[aO t];exact N) Q
   have w:c8 3 1 St.none S2 y a (fun a=>.int .i64 a):=(H.upd (by rfl) s _).keep (fM.noneS _) u (fun d l b=>E d b l)
   have F:¬eC y c:=by
    intro G;rcases J with h|h
    .exact E c h G
    .obtain⟨X,z⟩:=H.blk G;rw[aO (s c G),z]at h;cases h
   simp -dsimp only[*,go_sem];refine aG.intro fun K g=>?_;simp -dsimp only[*,go_sem];have m:=o.fresh g;have k:=w.fresh g;have B:D≠K:=fun e=>by rw[<-e,v]at g;cases g
   refine c8.app3 (w.upd (by rfl) k _) om (show eO 1 (.int .i64 (a:Int)) by simp[eO]) (bQ ⟨_,_,_,rfl,cp,rfl,fun h=>k _ h rfl⟩) ?_
   intro c2 S3 L C T;have U:=C D _ (by rw[aO B];exact v) R
   have M:=(o.upd (by rfl) m _).keep (fM.noneS _) C (fun d l b=>by rw[eH]at l;rw[l]at b;exact F b)
   simp -dsimp only[*,go_sem,aa];have hF:∀c,c<a+1->fst a i c<n:=fun c G=>by unfold fst;split<;>omega
   have V:∀c,c<a+1->fst a a c<n:=fun c G=>by unfold fst;split<;>omega
   have vx:VR S3 (.sl 1 c 0 (a+1)) (aW (a+1) (fun q=>(fst a i q:Nat))):=M.vr (fun q Y=>by
    have:(if q=a then AV.int .i64 (i:Int)else .int .i64 (q:Int))=.int .i64 ((fst a i q:Nat):Int):=by
     unfold fst;by_cases e:q=a
     .subst e;simp
     .rw[af e,ah om]
    rw[this];exact VR.mf rfl)
   have vy:VR S3 (.sl 1 c2 0 (a+1)) (aW (a+1) (fun q=>(fst a a q:Nat))):=L.vr (fun q Y=>by
    have:(if q=a then AV.int .i64 (a:Int)else .int .i64 (q:Int))=.int .i64 ((fst a a q:Nat):Int):=by
     unfold fst;by_cases e:q=a
     .subst e;simp
     .rw[af e,ah om]
    rw[this];exact VR.mf rfl)
   refine(wV n n (a+1) (a+1) A (fst a i) (fst a a) om om om om hF V).pf.spec (fH.same (fH.cons vx.va (fH.cons vy.va fH.nil))) ?_;simp -dsimp only[*,go_sem,aa];refine(iu (a+1) _ W om om (fun p q hp Y=>hA _ _ (hF p hp) (V q Y)) hk).call ?_;simp only[*,go_sem,aa,bR];have l:=J3 A a (i-a) 0;simp only[(om:a+(i-a)=i),cN]at l
   rw[l];exact VR.mf rfl
def pL(n k:Nat)(A:aH)(b:n<=16)(c:k<=n):PF 172 [bC n (fun k=>det (k+1) A),.int .i64 k] (.big (det k A)):=by
 refine jo func172 ntmps172 results172 ?_
 try simp -dsimp only[go_sem]
 refine aG.intro fun d e=>?_;by_cases a:k=0
 .subst a;simp -dsimp only[go_sem,aa,show((0:Nat):Int)=0 from rfl,dw];refine(gQ dc dc).call ?_
  simp only[go_sem,aa,bR];exact VR.mf rfl
 .obtain⟨m,rfl⟩:∃m,k=m+1:=⟨k-1,om⟩
  have f:(((m+1:Nat):Int)==0)=false:=by simp;omega
  have g:IntKind.i64.wrap (((m+1:Nat):Int)-1)=(m:Nat):=eF om om;simp only[*,go_sem,aa,bC,(om:m<n),bR]
  exact VR.mf rfl
def DZ:decide (lV a b<=0)=decide (a<=b):=by
 unfold lV;rcases fy a b with h|h|h
 .rw[ah h];simp;omega
 .subst h;simp
 .rw[af om,ah h];simp;omega
def QR:decide (0<=lV a b)=decide (b<=a):=by
 unfold lV;rcases fy a b with h|h|h
 .rw[ah h];simp;omega
 .subst h;simp
 .rw[af om,ah h];simp;omega
def oO{A:aH}(d:n<=16)(c:∀i j,i<n->j<n->nb (A i j) k0)(e:k<=n):nb (det k A) (17*(k0+10)) :=
 (oq k A om (fun a b f g=>c a b om om)).mono (by have:k*(k0+10)<=16*(k0+10):=aD _ om;omega)
def Hx{A:aH}{i:Nat}(d:n<=16)(c:∀i j,i<n->j<n->nb (A i j) k0)(e:j<=i)(f:i<n):nb (kZ A i j) (17*(k0+10)):=by
 unfold kZ;refine(oq (j+1) _ om (fun a b g h=>c _ _ ?_ ?_)).mono (by have:(j+1)*(k0+10)<=16*(k0+10):=aD _ om;omega)
 .rw[qS];split<;>omega
 .rw[qS];split<;>omega
def Gr(n i j:Nat)(A:aH)(a:Nat)(f:j<i)(g:i<n)(d:n<=16)(e:∀i j,i<n->j<n->nb (A i j) a)(l:a<=10000000):PF 119 [aU n n A,bC n (fun k=>det (k+1) A),.int .i64 i,.int .i64 j] (.bool (decide (2*((kZ A i j).natAbs:Int)<=det (j+1) A))):=by
 refine jo func119 ntmps119 results119 ?_;have h:=Hx d e (dp f) g;have b:nb ((kZ A i j).natAbs:Int) (17*(a+10)):=nb.of_le sm h
 have m:=oO (k:=j+1) d e om;have c:nb 2 (17*(a+10)):=dK (by decide:2<2^2) (cu om om)
 simp -dsimp only[go_sem,aa];refine(gQ dc dc).call ?_
 simp -dsimp only[go_sem,aa];refine(xf n i j A a (dp f) g d e l).call ?_;simp -dsimp only[go_sem,aa];refine(uh h om).call ?_;simp -dsimp only[go_sem,aa];refine(jl c b om).call ?_;simp -dsimp only[go_sem,aa,aS (om:j<1000000)]
 refine(pL n (j+1) A d om).call ?_;simp -dsimp only[go_sem,aa];refine(nI (c.mul b) (m.mono om) om).call ?_;simp only[go_sem,DZ];exact VR.mf rfl
def Cd(n:Nat)(A:aH)(a:Nat)(d:1<=n)(b:n<=16)(c:∀i j,i<n->j<n->nb (A i j) a)(e:a<=10000000):PF 57 [aU n n A] (.bool (decide (det n A<=10000))):=by
 refine jo func57 ntmps57 results57 ?_;have f:=oO (k:=n) b c (ae _);have g:nb 10000 (17*(a+10)):=dK (by decide:10000<2^14) (cu om om)
 simp -dsimp only[go_sem,aa];refine(iu n A a d b c e).call ?_;simp -dsimp only[go_sem,aa];refine(gQ dc dc).call ?_
 simp -dsimp only[go_sem,aa];refine(nI f g om).call ?_;simp only[go_sem,DZ];exact VR.mf rfl
def vO(n:Nat)(A T:aH)(k:Nat)(a:1<=n)(c:n<=16)(h:∀i j,i<n->j<n->nb (A i j) k)(f:∀i j,i<n->j<n->nb (T i j) k)(p:k<=100000000):MF 113 [aU n n A,aU n n T] n n (kB n (kB n (fun i j=>T j i) A) T):=by
 refine MF.of (jI func113 ntmps113 results113 ?_);have m:∀i j,i<n->j<n->nb (kB n (fun i j=>T j i) A i j) (k+k+10):=fun i j d e=>Dw (fun q l=>(f q i l d).mul (h q j l e)) om n (ae _);simp -dsimp only[go_sem,aa];refine(nN n n T k a c a c f om).pf.call ?_;simp -dsimp only[go_sem,aa];refine(kJ n n n (fun i j=>T j i) A k a c a c a c (fun i j d e=>f j i e d) h om).pf.call ?_;simp -dsimp only[go_sem,aa];refine(kJ n n n _ T (k+k+10) a c a c a c m (fun i j d e=>(f i j d e).mono om) om _ _ (cY _ _)).mono ?_;rintro r S1 ⟨b,g,rfl,o⟩;simp only[go_sem];exact⟨b,rfl,g,o.1⟩

def Fx(h:z.natAbs<16)(a:4<=k):nb z k:=dK h (by have:=cu (n:=2) om a;omega)
def CR(n i:Nat)(A:aH)(b:Nat)(t:0<i)(l:i<n)(a:n<=16)(e:∀i j,i<n->j<n->nb (A i j) b)(r:b<=10000000):PF 120 [aU n n A,bC n (fun k=>det (k+1) A),.int .i64 i] (.bool (decide (3*(det i A*det i A)<=4*(det (i-1) A*det (i+1) A+kZ A i (i-1)*kZ A i (i-1))))):=by
 refine jo func120 ntmps120 results120 ?_;obtain⟨m,rfl⟩:∃m,i=m+1:=⟨i-1,om⟩
 rw[eT];have f:IntKind.i64.wrap (((m+1:Nat):Int)-1)=(m:Nat):=eF om om;have c:=Hx (i:=m+1) (j:=m) a e om l;have g:=oO (k:=m) a e om;have d:=oO (k:=m+1) a e om;have h:=oO (k:=m+1+1) a e om;have o:nb 4 (17*(b+10)+17*(b+10)+1):=Fx dc om
 have p:nb 3 (17*(b+10)+17*(b+10)):=Fx dc om
 have q:=(g.mul h).add (c.mul c);simp -dsimp only[go_sem,aa,f];refine(xf n (m+1) m A b om l a e r).call ?_;simp -dsimp only[go_sem];refine aG.intro fun u v=>?_;simp -dsimp only[go_sem,aa,f];refine bD 16 kr ?_
 simp -dsimp only[go_sem,aa,f,aS (om:m+1<1000000),bR]
 refine⟨_,(gQ dc dc).pure',_,(pL n m A a om).pure',_,(pL n (m+1+1) A a om).pure',_,(jl g h om).pure',_,(jl c c om).pure',_,(ug (g.mul h) (c.mul c) om).pure',_,(jl o q om).pure',?_⟩
 refine aG.intro fun w s=>?_;have n8_7:=(ag s).1;simp -dsimp only[go_sem];refine bD 13 kr ?_
 simp only[go_sem,aa,bR];refine⟨_,(gQ dc dc).pure',_,(pL n (m+1) A a om).pure',_,(pL n (m+1) A a om).pure',_,(jl d d om).pure',_,(jl p (d.mul d) om).pure',_,(nI (o.mul q) ((p.mul (d.mul d)).mono om) om).pure',?_⟩
 simp only[go_sem,QR];exact VR.mf rfl
def Jq:decide (a.sign<=0)=decide (a<=0):=by
 rcases fy a 0 with h|h|h
 .rw[eZ h];simp;omega
 .subst h;simp
 .rw[dq h];simp;omega
def GC(n:Nat)(A:aH)(c:Nat)(l:1<=n)(f:n<=16)(g:∀i j,i<n->j<n->nb (A i j) c)(d:c<=10000000)(m:∀a b,a<n->b<n->A a b=A b a)(β:Bool)(hβ:β=true↔∀k,k<=n->0<det k A):PF 117 [aU n n A] (.bool β):=by
 refine jo func117 ntmps117 results117 ?_;simp -dsimp only[go_sem,aa];refine(tD n A c l f g d).call ?_;simp -dsimp only[go_sem,aa,bC];refine(tX n A c f g d m).call ?_;simp only[go_sem];refine aI (fun O S=>∃i:Nat,i<=n/\O 19=bC n (fun k=>det (k+1) A)/\O 20=.int .i64 n/\O 21=.int .i64 i/\∀k,k<=i->0<det k A) (fun O S=>n-co (O 21)) ?_ ?_
 .simp only[go_sem,bC];exact⟨0,om,rfl,fun k d=>by rw[(om:k=0)];simp[det]⟩
 .rintro O S ⟨i,t,o,p,q,h⟩;by_cases r:i<n
  .have s:=oO (k:=i+1) f g om;simp -dsimp only[*,go_sem,bC];refine aG.intro fun u v=>?_;simp -dsimp only[go_sem,aa,bR];refine(ka s om).call ?_;by_cases w:det (i+1) A<=0
   .simp only[*,go_sem,bC,Jq];have:β=false:=by
     cases β with
     | false=>rfl
     | true=>have:=hβ.1 rfl (i+1) om;omega
    rw[this];exact VR.mf rfl
   .simp only[*,go_sem,bC,Jq,aS (om:i<1000000),co]
    refine⟨⟨i+1,om,rfl,fun k d=>?_⟩,om⟩
    by_cases e:k=i+1
    .rw[e];omega
    .exact h k om
  .obtain rfl:i=n:=om
   simp only[*,go_sem,bC];have:β=true:=hβ.2 h;rw[this];exact VR.mf rfl
def oW(n:Nat)(A:aH)(c:Nat)(d:1<=n)(h:n<=8)(e:∀i j,i<n->j<n->nb (A i j) c)(f:c<=10000000)(g:∀a b,a<n->b<n->A a b=A b a)(β:Bool)(hβ:β=true↔∀k,k<=n->0<det k A):PF 56 [aU n n A] (.int .i64 (if β then 0 else 5)):=by
 refine jo func56 ntmps56 results56 ?_;simp -dsimp only[go_sem,aa];refine(pI n A d om).call ?_;simp -dsimp only[go_sem,aa,(om:¬((8:Int)<n))]
 refine(tX n A c om e f g).call ?_;simp -dsimp only[go_sem,aa];refine(GC n A c d om e f g β hβ).call ?_
 cases β
 .simp only[go_sem];exact VR.mf rfl
 .simp only[go_sem];exact VR.mf rfl

end Go.Proofs.YtdobfmlmenaajaaGreatDoor
