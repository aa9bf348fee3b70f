/-
  Lemmas for NeighbourKeeps.
-/
import Derived.Test.YtdobfmlmenaajaaGreatDoorL22
namespace Go.Proofs.YtdobfmlmenaajaaGreatDoor
open Go.RowKit Tryz
open _root_.Int renaming tmod_eq_emod_of_nonneg→aN,le_of_lt→aS,emod_lt_of_pos→aU,emod_nonneg→a9,mul_le_mul→bW,dvd_of_emod_eq_zero→de,emod_eq_of_lt→dS,tmod→eF,mul_assoc→eY,tdiv_eq_ediv_of_nonneg→gG,tdiv→iQ,mul_ediv_add_emod→vI
open _root_.Nat renaming add_one_le_iff→aa
open _root_.Ne renaming symm→ai
open _root_.Option renaming none→ae
set_option maxHeartbeats 6400000
set_option maxRecDepth 4096
set_option linter.all false
attribute [local go_sem] Nat.reduceAdd Nat.reduceEqDiff Nat.reduceLeDiff Nat.reduceLT reduceCtorEq Int.ofNat_lt decide_true decide_false Int.zero_le_ofNat
attribute [local go_sem ↓] reduceIte
variable{x:Int}{b c m n:Nat}{g:Nat->Nat}{A:Nat->Nat->Int}{S S':St}{H R:aB}
def Bc:Nat->Int->Int->Int->Int->Int
 | 0,_,_,u,_=>u
 | f+1,a,b,u,v=>if b=0 then u else Bc f b (a-iQ a b*b) v (u-iQ a b*v)
def smi(x:Int):Bool:=decide (-1000000<=x/\x<=1000000)
def pU:Nat->Int->Int->Int->Int->Bool
 | 0,_,_,_,_=>false
 | f+1,a,b,u,v=>if b=0 then a==1 else decide (0<=a-iQ a b*b/\a-iQ a b*b<b)&&smi a&&smi b&&smi u&&smi v&&smi (iQ a b)&&smi (iQ a b*b)&&smi (iQ a b*v)&&pU f b (a-iQ a b*b) v (u-iQ a b*v)
theorem Hl(h:smi x=true):IntKind.i64.wrap x=x:=by
 simp only[smi,decide_eq_true_eq]at h;exact i64_in om om
theorem Hk{y:Int}(h:smi x=true)(h':smi y=true):IntKind.i64.wrap (x-y)=x-y:=by
 simp only[smi,decide_eq_true_eq]at h h';exact i64_in om om
theorem yG(F:Nat)(x m:Int)(t:1<=m)(g:m<=2147483647)(h:pU F m x 0 1=true):PF 229 [.int .i64 x,.int .i64 m] (.tup [.int .i64 (Bc F m x 0 1%m),.bool true]):=by
 refine PF.of_spec (ak func229 rfl 39 ntmps229 kr sm (by simp[results229]) ?_)
 rw[aF,results229];have i:¬(m=0):=om
 simp -dsimp only[go_sem];refine aI (fun O S=>∃(a b u v:Int),O 1=.int .i64 m/\O 6=.int .i64 a/\O 7=.int .i64 b/\O 8=.int .i64 u/\O 9=.int .i64 v/\∃f,pU f a b u v=true/\Bc f a b u v=Bc F m x 0 1) (fun O S=>match O 7 with|.int _ b=>b.toNat|_=>0) ?_ ?_
 ·simp -dsimp only[go_sem];exact⟨m,rfl,x,rfl,0,rfl,1,rfl,F,h,rfl⟩
 ·rintro O S ⟨a,b,u,v,k,l,n,j,o,f,c,e⟩
  cases f with
  | zero=>simp[pU]at c
  | succ f =>
   by_cases d:b=0
   ·subst d;simp only[pU,if_true]at c;simp only[Bc,if_true]at e;obtain⟨p,q⟩:=BX (x:=u) t g;rw[e]at p q j;simp -dsimp only[go_sem,k,l,n,j,o,i,p,q,c,show((0:Int) != 0)=false by simp]
    exact VR.mf rfl
   ·simp only[pU,if_neg d,Bool.and_eq_true,decide_eq_true_eq]at c;simp only[Bc,if_neg d]at e;obtain⟨⟨⟨⟨⟨⟨⟨⟨H,w⟩,I⟩,y⟩,J⟩,z⟩,r⟩,s⟩,A⟩:=c;have B:=Hl z;have C:=Hl r;have D:=Hl s;have E:=Hk w r;have G:=Hk y s;simp -dsimp only[go_sem,k,l,n,j,o,d,show(b != 0)=true by simp[d],B,C,D,E,G]
    exact⟨⟨b,rfl,_,rfl,v,rfl,_,rfl,f,A,e⟩,om⟩
def Dg(b:Nat)(S S':St):Prop:=∀c,c≠b->S' c=S c
theorem Dg.refl(b:Nat)(S:St):Dg b S S:=fun _ _=>rfl
theorem Dg.upd(h:Dg b S S')(X:dH):Dg b S (S'.upd b X):=fun c a=>by simp only[St.upd,a,if_false];exact h c a
theorem Dg.has(h:Dg b S S')(a:c≠b){t es n:Nat}{g:Nat->AV}(d:aR S c t es n g):aR S' c t es n g:=by
 obtain⟨g',e,f⟩:=d;exact⟨g',(h c a).trans e,f⟩
theorem Dg.var(h:Dg b S S')(a:c≠b){t es:Nat}{z:AV}(d:cE S c t es z):cE S' c t es z:=by
 obtain⟨g',e,f⟩:=d;exact⟨g',(h c a).trans e,f⟩
theorem Dx(n b:Nat)(v:Nat->Int)(f m:Int)(S:St)(F:n<=16)(G:1<=m)(t:m<=1000000)(H:0<=f/\f<m)(u:∀j,j<n->0<=v j/\v j<m)(w:aR S b 2 1 n (fun j=>.int .i64 (v j))) :
  cL 230 [.sl 1 b 0 n,.int .i64 f,.int .i64 m] S (fun _ S'=>Dg b S S'/\aR S' b 2 1 n (fun j=>.int .i64 (v j*f%m))):=by
 refine gL func230 rfl 24 ntmps230 kr sm ?_
 rw[aF,results230];have g:¬(m=0):=om
 simp -dsimp only[go_sem];refine aI (fun O S'=>∃i:Nat,i<=n/\O 0=.sl 1 b 0 n/\O 1=.int .i64 f/\O 2=.int .i64 m/\O 8=.sl 1 b 0 n/\O 9=.int .i64 n/\O 10=.int .i64 i/\Dg b S S'/\aR S' b 2 1 n (fun j=>.int .i64 (if j<i then v j*f%m else v j))) (fun O S=>n-bT (O 10)) ?_ ?_
 ·simp -dsimp only[go_sem];exact⟨0,om,rfl,Dg.refl b S,w.congr fun j _=>by simp⟩
 ·rintro O S' ⟨i,I,k,l,c,o,p,d,q,r⟩;by_cases a:i<n
  ·obtain⟨x,y,s⟩:=id r;have z:x i=.int .i64 (v i):=(s i a).trans sm
   have J:=u i a;have C:=mZ (A:=1000000) (B:=1000000) (om:0<=v i/\v i<=1000000) (om:0<=f/\f<=1000000)
   have D:IntKind.i64.wrap (v i*f)=v i*f:=i64_in om om;have E:eF (v i*f) m=v i*f%m:=aN C.1;simp -dsimp only[go_sem,aa,k,l,c,o,p,d,a,y,z,g,D,E,aM (om:i<1000000),bT]
   refine⟨⟨i+1,om,rfl,q.upd _,aR.here fun j h=>?_⟩,om⟩
   by_cases e:j=i
   ·subst e;simp[aL]
   ·simp only[aL,e,if_false];rw[s j h];by_cases c:j<i
    ·simp[c,(om:j<i+1)]
    ·simp[c,(om:¬j<i+1)]
  ·obtain rfl:i=n:=om
   simp -dsimp only[go_sem,k,l,c,o,p,d,a];exact⟨q,r.congr fun j h=>by simp[h]⟩
theorem xE(n bt br bm:Nat)(x y:Nat->Int)(q m:Int)(S:St)(T:n<=16)(U:1<=m)(v:m<=1000000)(V:0<=q/\q<m)(w:∀j,j<n->0<=x j/\x j<m)(z:∀j,j<n->0<=y j/\y j<m)(h:br≠bt)(d:bm≠bt)
  (k:aR S bt 2 1 n (fun j=>.int .i64 (x j))) (l:aR S br 2 1 n (fun j=>.int .i64 (y j))) (o:cE S bm 2 1 (.int .i64 m)) :
  cL 257 [.sl 1 bt 0 n,.sl 1 br 0 n,.int .i64 q,.ptr 1 bm 0] S (fun _ S'=>Dg bt S S'/\aR S' bt 2 1 n (fun j=>.int .i64 ((x j-q*y j)%m))):=by
 refine gL func257 rfl 32 ntmps257 kr sm ?_
 rw[aF,results257];have p:¬(m=0):=om
 simp -dsimp only[go_sem];refine aI (fun O S'=>∃i:Nat,i<=n/\O 0=.sl 1 bt 0 n/\O 2=.int .i64 q/\O 3=.ptr 1 bm 0/\O 9=.sl 1 br 0 n/\O 10=.int .i64 n/\O 11=.int .i64 i/\Dg bt S S'/\aR S' bt 2 1 n (fun j=>.int .i64 (if j<i then(x j-q*y j)%m else x j))) (fun O S=>n-bT (O 11)) ?_ ?_
 ·simp -dsimp only[go_sem];exact⟨0,om,rfl,Dg.refl bt S,k.congr fun j _=>by simp⟩
 ·rintro O S' ⟨i,W,C,f,D,r,b,c,g,t⟩;by_cases a:i<n
  ·obtain⟨E,F,u⟩:=id t;obtain⟨G,H,I⟩:=id (g.has h l);obtain⟨X,J,K⟩:=id (g.var d o);have L:E i=.int .i64 (x i):=(u i a).trans sm
   have M:G i=.int .i64 (y i):=I i a;have Y:=w i a;have Z:=z i a;have k2:=mZ (A:=1000000) (B:=1000000) (om:0<=m-q/\m-q<=1000000) (om:0<=y i/\y i<=1000000)
   have N:IntKind.i64.wrap (m-q)=m-q:=i64_in om om;have P:IntKind.i64.wrap ((m-q)*y i)=(m-q)*y i:=i64_in om om;have Q:IntKind.i64.wrap (x i+(m-q)*y i)=x i+(m-q)*y i:=i64_in om om;have R:eF (x i+(m-q)*y i) m=(x i-q*y i)%m:=by
    rw[aN om,show x i+(m-q)*y i=x i-q*y i+m*y i by grind,Int.add_mul_emod_self_left]
   simp -dsimp only[go_sem,aa,r,b,c,a,H,M];refine aP 15 kr ?_
   simp -dsimp only[go_sem,aa,C,f,D,r,b,c,a,F,L,J,K,p,N,P,Q,R,aM (om:i<1000000),bT]
   refine⟨⟨i+1,om,rfl,g.upd _,aR.here fun j s=>?_⟩,om⟩
   by_cases e:j=i
   ·subst e;simp[aL]
   ·simp only[aL,e,if_false];rw[u j s];by_cases f:j<i
    ·simp[f,(om:j<i+1)]
    ·simp[f,(om:¬j<i+1)]
  ·obtain rfl:i=n:=om
   simp -dsimp only[go_sem,r,b,c,a];exact⟨g,t.congr fun j s=>by simp[s]⟩
theorem mi(m:Int)(S:St):cL 228 [.int .i64 m] S (fun r S'=>∃b,S b=ae/\r=.fn 257 [.ptr 1 b 0]/\cY S S'/\cE S' b 2 1 (.int .i64 m)):=by
 refine ak func228 rfl 4 ntmps228 kr sm (by simp[results228]) ?_
 rw[aF,results228];simp -dsimp only[go_sem];refine au.intro fun bc fc=>?_
 try simp -dsimp only[go_sem]
 exact⟨bc,fc,rfl,(cY.refl S).upd fc _,cE.new rfl⟩

theorem IA{m q:Int}{i:Nat}(e:c<n)(f:i<n)(d:c≠i)(h:¬m∣det n R):¬m∣det n (fun a j=>setRow R c (fun j=>(R c j-q*R i j)%m) (cV i c a) j):=by
 have l:=vM (setRow R c (fun j=>(R c j-q*R i j)%m)) f e (ai d);have o:=jN R e f d 1 (-q);have g:=sP (h:=m) n (setRow R c (fun j=>(R c j-q*R i j)%m)) (setRow R c (fun j=>1*R c j+(-q)*R i j)) (fun a b=>by
  simp only[setRow];split
  ·rw[show(R c b-q*R i b)%m-(1*R c b+-q*R i b)=(R c b-q*R i b)%m-(R c b-q*R i b) by grind]
   have:=vI (R c b-q*R i b) m;exact⟨-((R c b-q*R i b)/m),by grind⟩
  ·simp)
 rw[o,Int.one_mul]at g;intro p;have r:m∣- det n (setRow R c (fun j=>(R c j-q*R i j)%m)):=by rw[<-l];exact p
 have s:=(Int.dvd_neg).1 r;have k:=Int.dvd_sub s g;rw[show ∀x y:Int,x-(x-y)=y from fun x y=>om]at k
 exact h k
theorem CM:∀(n:Nat) (A:aB),(∀i j,j<i->i<n->A i j=0)->∀i,i<n->A i i∣det n A
 | 0,_,_,i,c=>om
 | n+1,A,h,i,c=>by
  rw[qP A (fun a d=>h (a+1) 0 om om)]
  cases i with
  | zero=>exact Int.dvd_mul_right _ _
  | succ i=>exact Int.dvd_mul_of_dvd_right (CM n (fun i j=>A (i+1) (j+1)) (fun a b e f=>h _ _ om om) i om)
theorem cT.swap(h:cT S b g n m A){p k:Nat}(v:p<n)(w:k<n)(r:p≠k){f:Nat->AV}(l:S b=some ⟨29,1,n,f⟩) :
  cT (S.upd b ⟨29,1,n,aL (aL f p (.sl 1 (g k) 0 m)) k (.sl 1 (g p) 0 m)⟩) b (fun i=>g (cV k p i)) n m (fun i j=>A (cV k p i) j):=by
 obtain⟨g',o,s⟩:=h.outer;rw[l]at o;cases o;have c:∀i,i<n->cV k p i<n:=fun i a=>by unfold cV;split<;>(try split)<;>omega
 refine⟨aR.here fun i a=>?_,fun i a=>(h.row _ (c i a)).upd (fun e=>?_) _,fun i j a t e=>?_⟩
 ·have:=s i a;simp only[aL,cV];by_cases d:i=k
  ·subst d;simp
  ·by_cases q:i=p
   ·subst q;simp[d]
   ·simp[d,q,this]
 ·exact aR.ne (aR.of l) (h.row _ (c i a)) om e.symm
 ·have u:=h.inj _ _ (c i a) (c j t) e;unfold cV at u
  grind
structure K8(n b bm:Nat)(m:Int)(S:St)(g:Nat->Nat)(R:aB):Prop where
 mat:cT S b g n n R
 rng:∀i j,i<n->j<n->0<=R i j/\R i j<m
 ndet:¬m∣det n R
 var:cE S bm 2 1 (.int .i64 m)
 ne:b≠bm
 gne:∀a,a<n->g a≠bm
def Lk(n c:Nat)(R:aB):Prop:=∀a d,d<c->d<a->a<n->R a d=0
def cellN(S:St)(b i c:Nat):Nat:=match S b with
 | some X=>(match X.g i with
  | .sl _ b' _ _=>(match S b' with
   | some Y=>(match Y.g c with
    | .int _ z=>z.toNat
    | _=>0)
   | ae=>0)
  | _=>0)
 | ae=>0
theorem cT.cellN{A:aB}(h:cT S b g n m A){i c:Nat}(a:i<n)(f:c<m):cellN S b i c=(A i c).toNat:=by
 obtain⟨p,j,k⟩:=h.outer;obtain⟨q,l,o⟩:=h.row i a;have d:=k i a;have e:=o c f;simp only at d e;simp[YtdobfmlmenaajaaGreatDoor.cellN,j,d,l,e]
theorem vg(n b:Nat)(g:Nat->Nat)(R:aB)(m:Int)(S:St)(hn:n<=16)(hm:1<=m)(hm2:m<=1000000)(hM:cT S b g n n R)(hr:∀i j,i<n->j<n->0<=R i j/\R i j<m)(hd:¬m∣det n R) :
  cL 227 [.sl 1 b 0 n,.int .i64 m] S (fun r S'=>∃(s:Int) (g':Nat->Nat) (R':aB),r=.int .i64 s/\(s=1∨s=-1)/\cT S' b g' n n R'/\(∀i j,i<n->j<n->0<=R' i j/\R' i j<m)/\(¬m∣det n R')/\Lk n n R'):=by
 refine ak func227 rfl 75 ntmps227 kr sm (by simp[results227]) ?_
 rw[aF,results227];simp -dsimp only[go_sem,aa];refine(mi m S).mono ?_;rintro _ S1 ⟨bm,H,rfl,hE,hV⟩;simp -dsimp only[go_sem];refine aI (fun O S'=>∃c:Nat,c<=n/\O 0=.sl 1 b 0 n/\O 5=.fn 257 [.ptr 1 bm 0]/\O 12=.int .i64 n/\O 13=.int .i64 c/\∃(s:Int) (g':Nat->Nat) (R':aB),O 6=.int .i64 s/\(s=1∨s=-1)/\K8 n b bm m S' g' R'/\Lk n c R') (fun O S=>n-bT (O 13)) ?_ ?_
 ·simp -dsimp only[go_sem];exact⟨0,om,rfl,1,rfl,Or.inl rfl,g,R,⟨hM.ext hE,hr,hd,hV,aR.fresh hM.outer H,fun a z=>aR.fresh (hM.row a z) H⟩,fun a d h=>om⟩
 ·rintro O S' ⟨c,hc,w,x,o,p,s,g',R',u,A,l,v⟩;by_cases f:c<n
  ·simp -dsimp only[go_sem,u,o,p,f,aM (om:c<1000000)]
   refine aI (fun O S'=>∃i:Nat,i<=n/\O 0=.sl 1 b 0 n/\O 5=.fn 257 [.ptr 1 bm 0]/\O 7=.int .i64 c/\O 8=.int .i64 i/\O 12=.int .i64 n/\O 13=.int .i64 c/\∃(s:Int) (g':Nat->Nat) (R':aB),O 6=.int .i64 s/\(s=1∨s=-1)/\K8 n b bm m S' g' R'/\Lk n c R'/\c<i/\∀a,c<a->a<i->R' a c=0) (fun O S=>n-bT (O 8)) ?_ ?_
   ·simp -dsimp only[go_sem,w,x,u,o,p];exact⟨c+1,om,rfl,s,rfl,A,g',R',l,v,om,fun a t C=>om⟩
   ·clear w x u o p A l v;rintro O S' ⟨i,hi,w,x,E,B,o,p,s,g',R',u,A,l,v,I,G⟩;by_cases k:i<n
    ·simp -dsimp only[go_sem,w,x,u,B,o,p,k];refine aI (fun O S'=>O 0=.sl 1 b 0 n/\O 5=.fn 257 [.ptr 1 bm 0]/\O 7=.int .i64 c/\O 8=.int .i64 i/\O 12=.int .i64 n/\O 13=.int .i64 c/\∃(s:Int) (g':Nat->Nat) (R':aB),O 6=.int .i64 s/\(s=1∨s=-1)/\K8 n b bm m S' g' R'/\Lk n c R'/\c<i/\∀a,c<a->a<i->R' a c=0) (fun O S=>cellN S b i c) ?_ ?_
     ·simp -dsimp only[go_sem,w,x,u,E,B,o,p];exact⟨s,rfl,A,g',R',l,v,I,G⟩
     ·clear w x u E B o p A l v G;rintro O S' ⟨w,x,E,B,o,p,s,g',R',u,A,l,v,_,G⟩;obtain⟨V,W,v1⟩:=id l.mat.outer;obtain⟨g2,u2,v2⟩:=id (l.mat.row i k);obtain⟨g3,u3,v3⟩:=id (l.mat.row c f);have X:V i=.sl 1 (g' i) 0 n:=v1 i k;have y1:V c=.sl 1 (g' c) 0 n:=v1 c f;have x2:g2 c=.int .i64 (R' i c):=v2 c f;have x3:g3 c=.int .i64 (R' c c):=v3 c f;have r1:=l.rng i c k f;have Y:=l.rng c c f f;by_cases J:R' i c=0
      ·simp -dsimp only[go_sem,aa,w,x,u,E,B,o,p,k,f,W,u2,X,x2,J,show((0:Int) != 0)=false by simp,aM (om:i<1000000),bT]
       refine⟨⟨i+1,om,rfl,s,rfl,A,g',R',l,v,om,fun a t C=>?_⟩,om⟩
       by_cases e:a=i
       ·rw[e];exact J
       ·exact G a t om
      ·have hq0:=Int.tdiv_nonneg Y.1 r1.1;have hq1:iQ (R' c c) (R' i c)<=R' c c:=by
        rw[gG Y.1];exact Int.ediv_le_self _ Y.1
       have w1:IntKind.i64.wrap (iQ (R' c c) (R' i c))=iQ (R' c c) (R' i c):=i64_in om om;generalize hq:iQ (R' c c) (R' i c)=q at *;simp -dsimp only[go_sem,aa,w,x,u,E,B,o,p,k,f,W,u2,X,x2,show(R' i c != 0)=true by simp[J]]
       refine aP 24 kr ?_
       simp -dsimp only[go_sem,aa,w,x,E,B,k,f,W,u2,u3,X,y1,x2,x3,J,hq,w1];have K:g' i≠g' c:=fun e=>absurd (l.mat.inj i c k f e) om;refine(xE n (g' c) (g' i) bm (R' c) (R' i) q m S' hn hm hm2 om (fun j L=>l.rng c j f L) (fun j L=>l.rng i j k L) K (ai (l.gne c f)) (l.mat.row c f) (l.mat.row i k) l.var).mono ?_;rintro _ S2 ⟨Z,hH⟩;have M:b≠g' c:=l.mat.outer_ne f;have N:S2 b=some ⟨29,1,n,V⟩:=(Z b M).trans W;have hM2:cT S2 b g' n n (setRow R' c (fun j=>(R' c j-q*R' i j)%m)):=by
        refine⟨Z.has M l.mat.outer,fun a z=>?_,l.mat.inj⟩;by_cases e:a=c
        ·subst e;exact hH.congr fun j _=>by simp[setRow]
        ·refine(Z.has (fun F=>e (l.mat.inj a c z f F)) (l.mat.row a z)).congr fun j _=>by simp[setRow,e]
       have hM3:=hM2.swap f k om N;simp -dsimp only[go_sem];refine eR 13 kr ?_
       have ws:IntKind.i64.wrap (0-s)=-s:=by rw[Int.zero_sub];exact i64_in om om
       have y:c≠i:=om
       simp -dsimp only[go_sem,aa,w,x,u,E,B,o,p,k,f,N,X,y1,ws];have key:(R' c c-q*R' i c)%m=R' c c-q*R' i c/\0<=R' c c-q*R' i c/\R' c c-q*R' i c<R' i c:=by
        have t:=gG (b:=R' i c) Y.1;have C:=a9 (R' c c) J;have h3:=aU (R' c c) (om:0<R' i c)
        have h4:=Int.emod_def (R' c c) (R' i c);rw[hq]at t;rw[<-t,Int.mul_comm]at h4;exact⟨dS om om,om,om⟩
       have D:K8 n b bm m (S2.upd b ⟨29,1,n,aL (aL V c (.sl 1 (g' i) 0 n)) i (.sl 1 (g' c) 0 n)⟩) (fun a=>g' (cV i c a)) (fun a j=>setRow R' c (fun j=>(R' c j-q*R' i j)%m) (cV i c a) j):=by
        have P:∀a,a<n->cV i c a<n:=fun a z=>by unfold cV;split<;>(try split)<;>omega
        refine⟨hM3,fun a j z L=>?_,IA f k y l.ndet,(Z.var (ai (l.gne c f)) l.var).upd (ai l.ne) _,l.ne,fun a z=>l.gne _ (P a z)⟩;simp only[setRow];split
        ·exact⟨a9 _ om,aU _ om⟩
        ·exact l.rng _ _ (P a z) L
       have ev:∀a d,(fun a j=>setRow R' c (fun j=>(R' c j-q*R' i j)%m) (cV i c a) j) a d=if a=i then(R' c d-q*R' i d)%m else if a=c then R' i d else R' a d:=fun a d=>by
        simp only[setRow,cV];by_cases Q:a=i
        ·simp[Q]
        ·by_cases F:a=c
         ·simp[F,y,ai y]
         ·simp[Q,F]
       rw[kE];refine⟨⟨-s,rfl,om,_,_,D,fun a d t C h3=>?_,I,fun a t C=>?_⟩,?_⟩
       ·refine(ev a d).trans ?_;by_cases Q:a=i
        ·rw[if_pos Q,v c d t t f,v i d t om k];simp
        ·rw[if_neg Q];by_cases F:a=c
         ·rw[if_pos F,v i d t om k]
         ·rw[if_neg F];exact v a d t C h3
       ·refine(ev a c).trans ?_;rw[if_neg om,if_neg om];exact G a t C
       ·have T:=D.mat.cellN k f;have e9:=l.mat.cellN k f;have U:=(ev i c).trans ((if_pos rfl).trans key.1);simp only at T U;rw[U]at T;omega
    ·simp -dsimp only[go_sem,w,x,u,B,o,p,k,aM (om:c<1000000),bT]
     refine⟨⟨c+1,om,rfl,s,rfl,A,g',R',l,fun a d t C h3=>?_⟩,om⟩
     by_cases e:d=c
     ·rw[e];exact G a om om
     ·exact v a d om C h3
  ·obtain rfl:c=n:=om
   simp -dsimp only[go_sem,u,o,p,f];exact⟨s,rfl,A,g',R',l.mat,l.rng,l.ndet,v⟩
theorem De(n:Nat)(H:aB)(m:Int)(v:1<=n)(M:n<=8)(N:2<=m)(w:m<=1000000)(z:∀a b:Int,m∣a*b->m∣a∨m∣b)(P:¬m∣det n H) :
  cL 222 [ax n n H,.int .i64 m] St.none (fun r S'=>∃d:Int,d≠0/\r=.tup [.int .i64 d,.int .i64 0]):=by
 refine ak func222 rfl 46 ntmps222 kr sm (by simp[results222]) ?_
 rw[aF,results222];have e:¬(m=0):=om
 simp -dsimp only[go_sem,aa];refine(uC n H v M).call ?_;simp -dsimp only[go_sem,aa];refine(kq m N om).call ?_;simp -dsimp only[go_sem,aa];refine(lR n n H m om om om om _ _ (cD _ _)).mono ?_;rintro _ S1 ⟨b,g,rfl,Q⟩;simp -dsimp only[go_sem,aa];have C:¬m∣det n (kW H m):=fun h=>by
  have T:=sP (h:=m) n (kW H m) H (fun a b=>by
   have:=vI (H a b) m;exact⟨-(H a b/m),by simp only[kW];grind⟩)
  have u:=Int.dvd_sub h T;rw[show ∀x y:Int,x-(x-y)=y from fun x y=>om]at u
  exact P u
 refine(vg n b g (kW H m) m S1 om om w Q.1 (fun i j _ _=>pI om i j) C).mono ?_;rintro _ S2 ⟨s,g',R,rfl,U,p,V,f,W⟩;have ws:IntKind.i64.wrap (s+m)=s+m:=i64_in om om;have D:∀i,i<n->¬m∣R i i:=fun i I h=>f (Int.dvd_trans h (CM n R (fun a d v X=>W a d om v X) i I));simp -dsimp only[go_sem,ws];refine aI (fun O S'=>∃i:Nat,i<=n/\O 1=.int .i64 m/\O 27=.sl 1 b 0 n/\O 28=.int .i64 n/\O 29=.int .i64 i/\∃d:Int,O 8=.int .i64 d/\¬m∣d/\0<=d/\cT S' b g' n n R) (fun O S=>n-bT (O 29)) ?_ ?_
 ·simp -dsimp only[go_sem];refine⟨0,om,rfl,s+m,rfl,fun h=>?_,om,p⟩
  obtain⟨t,J⟩:=h;have K:s=m*(t-1):=by rw[Int.mul_sub];omega
  have E:m∣1:=by
   rcases U with rfl|rfl
   ·exact⟨_,K⟩
   ·exact⟨-(t-1),by rw[Int.mul_neg,<-K];rfl⟩
  have:=Int.le_of_dvd om E;omega
 ·rintro O S' ⟨i,I,Y,k,l,o,d,F,f,G,p⟩;by_cases c:i<n
  ·obtain⟨Z,u1,v1⟩:=id p.outer;obtain⟨g2,u2,v2⟩:=id (p.row i c);have x1:Z i=.sl 1 (g' i) 0 n:=v1 i c;have x2:g2 i=.int .i64 (R i i):=v2 i c;have r1:=V i i c c;have q0:eF d m=d%m:=aN G;have L:0<=d%m/\d%m<m:=⟨a9 _ e,aU _ om⟩;have r3:=mZ (A:=1000000) (B:=1000000) (om:0<=d%m/\d%m<=1000000) (om:0<=R i i/\R i i<=1000000)
   have q1:IntKind.i64.wrap (d%m*R i i)=d%m*R i i:=i64_in om om;have q2:eF (d%m*R i i) m=d%m*R i i%m:=aN r3.1;simp -dsimp only[go_sem,aa,F,k,l,o,c,u1,x1];refine aP 10 kr ?_
   simp -dsimp only[go_sem,aa,Y,F,k,l,o,c,u2,x2,e,q0,q1,q2,aM (om:i<1000000),bT]
   refine⟨⟨i+1,om,rfl,d%m*R i i%m,rfl,fun h=>?_,a9 _ e,p⟩,om⟩
   have u:m∣d%m*R i i:=de (by
    obtain⟨t,J⟩:=h;have:=aU (d%m*R i i) (om:0<m)
    have q:=a9 (d%m*R i i) e;have:=dS q this;rw[<-this,J];exact Int.mul_emod_right _ _)
   rcases z _ _ u with q|q
   ·exact f (de (by
     have:=dS L.1 L.2;rw[<-this];exact Int.emod_eq_zero_of_dvd q))
   ·exact D i c q
  ·simp -dsimp only[go_sem,F,k,l,o,c];exact⟨d,fun h=>f (by rw[h];exact Int.dvd_zero _),rfl⟩

theorem gH.stgb(h:gH n H){k i j:Nat}(d:k+i<n)(b:k+j<n):-6973568802<=ca H k i j/\ca H k i j<=6973568802:=by
 have e:∀a,k+a<n->ca H k a a<=6973568802:=fun a c=>by
  have f:=h.red.pd.stg_up k a c;have g:=h.red.lead k om;have l:=h.red.diag h.five c;have m:=bW g l (aS (h.red.pd.diag c)) om;omega
 have f:=h.red.pd.cs i j k d b;have m:=bW (e i d) (e j b) (aS (h.red.pd.stg_pos j k b)) om;have o:=mD (x:=ca H k i j) (B:=6973568802) om om;omega
def MZ(n:Nat)(H:aB)(k:Nat)(S:St)(x:AV):Prop:=x=ax (n-k) (n-k) (ca H k)∨∃b g,x=.sl 1 b 0 (n-k)/\cT S b g (n-k) (n-k) (ca H k)
theorem lJ{a b A B:Int}(d:-A<=a/\a<=A)(e:-B<=b/\b<=B):-(A*B)<=a*b/\a*b<=A*B:=by
 have h:(a*b).natAbs<=A.natAbs*B.natAbs:=by rw[Int.natAbs_mul];exact Nat.mul_le_mul om om
 have c:(A.natAbs:Int)*B.natAbs=A*B:=by rw[show(A.natAbs:Int)=A by omega,show(B.natAbs:Int)=B by omega]
 have f:((A.natAbs*B.natAbs:Nat):Int)=A*B:=by rw[Int.natCast_mul,c]
 omega
theorem Gc(n:Nat)(H:aB):ax n n H=ax (n-0) (n-0) (ca H 0):=by
 simp only[ax,aX,Nat.sub_zero,eS]
theorem pk(n:Nat)(H:aB)(l:gH n H):PF 48 [ax n n H] (.bool true):=by
 have hn1:=l.one;have hn5:=l.five;have hsym:=l.red.pd.sym;refine PF.of_spec (ak func48 rfl 118 ntmps48 kr sm (by simp[results48]) ?_)
 rw[aF,results48];simp -dsimp only[go_sem,aa,ax,aX];refine(DW n H hn1 om (fun i j hi hj=>hsym i j hi hj) (fun i j hi hj=>by have:=l.red.entry hn5 hi hj;omega)).call ?_
 simp -dsimp only[go_sem];refine aI (fun O S=>∃(k:Nat) (x:AV),k<n/\MZ n H k S x/\O 3=x/\O 4=.int .i64 (det k H)) (fun O S=>match O 3 with|.lst _ m _=>m|.sl _ _ _ m=>m|_=>0) ?_ ?_
 ·simp -dsimp only[go_sem];exact⟨0,om,_,Or.inl (Gc n H),rfl,by simp[det]⟩
 ·rintro O S ⟨k,x,hk,hSt,o,s⟩;have d0:=l.red.pd.pos k om;have d1:=l.red.pd.pos (k+1) om;have d2:=l.red.lead k om;have d3:=l.red.lead (k+1) om;have F:ca H k 0 0=det (k+1) H:=cA H k;have h:0<n-k:=om
  have u:(0:Int)<((n-k:Nat):Int):=om
  by_cases I:1<n-k
  ·have q:(1:Int)<((n-k:Nat):Int):=om
   have wsub:IntKind.i64.wrap (((n-k:Nat):Int)-1)=((n-(k+1):Nat):Int):=dV om om;rcases hSt with rfl|⟨b,g,rfl,G⟩
   ·simp -dsimp only[go_sem,aa,ax,aX,o,q,u,F];refine(pQ (n-k) (ca H k) h om (by rw[cA];exact d1) (by rw[cA];omega) (fun i h1 h2=>?_)).spec (dT.cons (VA.refl _ _) dT.nil) ?_
    ·have t:=l.red.rows.1 (k+i) om k om;unfold fM eB at t;rw[(om:k+i-k=i)]at t
     rw[cA];omega
    simp -dsimp only[go_sem,ax,aX,o,wsub]
    repeat refine an ?_
    refine au.intro fun bc fc=>?_;simp -dsimp only[go_sem];refine aI (fun O S'=>∃i:Nat,i<=n-(k+1)/\O 3=ax (n-k) (n-k) (ca H k)/\O 4=.int .i64 (det k H)/\O 5=.int .i64 (det (k+1) H)/\O 6=.sl 1 bc 0 (n-(k+1))/\O 31=.int .i64 ((n-(k+1):Nat):Int)/\O 32=.int .i64 i/\∃g',eQ 29 2 1 S S' bc g' (n-(k+1)) (n-(k+1)) i (fun a j=>.int .i64 (ca H (k+1) a j))) (fun O S=>n-bT (O 32)) ?_ ?_
    ·simp -dsimp only[go_sem,ax,aX,o,s];exact⟨0,om,rfl,fun _=>0,eQ.init fc (fun _ _=>rfl) _ _⟩
    ·clear o s;rintro O S' ⟨i,hi,o,s,v,w,d,f,g',p⟩;by_cases r:i<n-(k+1)
     ·have J:i+1<n-k:=om
      obtain⟨Q,y,K⟩:=id p.outer;simp -dsimp only[go_sem,aa,ax,aX,o,s,v,w,d,f,r,J,aM (om:i<1000000),y]
      repeat refine an ?_
      refine au.intro fun bd fd=>?_;have U:bc≠bd:=aR.fresh p.outer fd;simp -dsimp only[go_sem,r,y,U];have z:=p.push dc fd y (fun _=>.int .i64 0)
      generalize V:(fun a=>if a=i then bd else g' a)=gg at z
      refine aI (fun O S'=>∃j:Nat,j<=n-(k+1)/\O 3=ax (n-k) (n-k) (ca H k)/\O 4=.int .i64 (det k H)/\O 5=.int .i64 (det (k+1) H)/\O 6=.sl 1 bc 0 (n-(k+1))/\O 7=.int .i64 i/\O 8=aX (n-k) (ca H k (i+1))/\O 31=.int .i64 ((n-(k+1):Nat):Int)/\O 32=.int .i64 i/\O 47=.int .i64 ((n-(k+1):Nat):Int)/\O 48=.int .i64 j/\eQ 29 2 1 S S' bc gg (n-(k+1)) (n-(k+1)) (i+1) (fun a c=>.int .i64 (if a=i/\j<=c then 0 else ca H (k+1) a c))) (fun O S=>n-bT (O 48)) ?_ ?_
      ·simp -dsimp only[go_sem,ax,aX,o,s,v,w,d,f];refine⟨0,om,rfl,z.congr fun a c _ _=>?_⟩
       by_cases e:a=i
       ·simp[e]
       ·simp[e]
      ·clear o s v w d f p z y K V;rintro O S' ⟨j,hj,o,s,v,w,e7,e8,d,f,C,D,p⟩;by_cases E:j<n-(k+1)
       ·have L:j+1<n-k:=om
        obtain⟨Q,y,K⟩:=id p.outer;obtain⟨g5,R,v5⟩:=id (p.row i om);have W:Q i=.sl 1 (gg i) 0 (n-(k+1)):=(K i r).trans (if_pos om);have b1:=l.stgb (k:=k) (i:=i+1) (j:=j+1) om om;have b2:=l.stgb (k:=k) (i:=i+1) (j:=0) om om;have b3:=l.stgb (k:=k) (i:=0) (j:=j+1) om om;have X:2*((ca H k (i+1) 0).natAbs:Int)<=det (k+1) H:=by
         have t:=l.red.rows.1 (k+(i+1)) om k om;unfold fM eB at t;rw[(om:k+(i+1)-k=i+1)]at t
         exact t
        have hstep:=ix (l.red.pd.ne (om:k<=n)) i j
        rw[cA]at hstep;have p1:=lJ (A:=59049) (B:=6973568802) (om:-59049<=det (k+1) H/\det (k+1) H<=59049) b1
        have p2:=lJ (A:=59049) (B:=6973568802) (om:-59049<=ca H k (i+1) 0/\ca H k (i+1) 0<=59049) b3
        have Y:IntKind.i64.wrap (det (k+1) H*ca H k (i+1) (j+1))=det (k+1) H*ca H k (i+1) (j+1):=i64_in om om;have Z:IntKind.i64.wrap (ca H k (i+1) 0*ca H k 0 (j+1))=ca H k (i+1) 0*ca H k 0 (j+1):=i64_in om om;have q3:IntKind.i64.wrap (det (k+1) H*ca H k (i+1) (j+1)-ca H k (i+1) 0*ca H k 0 (j+1))=det k H*ca H (k+1) i j:=by rw[<-hstep];exact i64_in om om
        have b4:=l.stgb (k:=k+1) (i:=i) (j:=j) om om;have q4:iQ (det k H*ca H (k+1) i j) (det k H)=ca H (k+1) i j:=Int.mul_tdiv_cancel_left _ om;have q5:IntKind.i64.wrap (ca H (k+1) i j)=ca H (k+1) i j:=i64_in om om;have q6:¬(det k H=0):=om
        have hjn:j+1<n:=om
        have hin:i+1<n:=om
        have hpn:0<n:=om
        have hpnz:(0:Int)<(n:Int):=om
        simp -dsimp only[go_sem,ax,aX,o,s,v,w,d,f,C,D,E,aM (om:i<1000000)]
        refine aP 27 kr ?_
        simp -dsimp only[go_sem,aa,ax,aX,o,s,v,w,e7,e8,d,f,C,D,r,E,L,u,aM (om:j<1000000),y,W,R,Y,Z,q3,q4,q5,q6,bT]
        refine⟨⟨j+1,om,rfl,(p.put dc (om:i<i+1) R j (.int .i64 (ca H (k+1) i j))).congr fun a c _ _=>?_⟩,om⟩
        by_cases e:a=i/\c=j
        ·obtain⟨rfl,rfl⟩:=e;rw[if_pos ⟨rfl,rfl⟩,if_neg om]
        ·rw[if_neg e];congr 1;by_cases e2:a=i/\j<=c
         ·rw[if_pos e2,if_pos om]
         ·rw[if_neg e2,if_neg om]
       ·simp -dsimp only[go_sem,ax,aX,o,s,v,w,d,f,C,D,E,aM (om:i<1000000),bT]
        exact⟨⟨i+1,om,rfl,gg,p.congr fun a c _ hc=>by rw[if_neg om]⟩,om⟩
     ·obtain rfl:i=n-(k+1):=om
      have hN:=p.imat (A:=ca H (k+1)) (fun _ _ _ _=>rfl);obtain⟨Q,y,K⟩:=id hN.1.outer;obtain⟨g5,R,v5⟩:=id (hN.1.row 0 om);have W:Q 0=.sl 1 (g' 0) 0 (n-(k+1)):=K 0 om;have x5:g5 0=.int .i64 (det (k+2) H):=(v5 0 om).trans (by simp only[cA])
      have hq0:0<n-(k+1):=om
      have hqz:(0:Int)<((n-(k+1):Nat):Int):=om
      have hl:=l.red.rows.2 (k+1) om om;unfold gZ eB at hl;rw[(om:k+1-1=k),(om:k+1-k=1),show k+1+1=k+2 from rfl]at hl
      have X:2*((ca H k 1 0).natAbs:Int)<=det (k+1) H:=by
       have t:=l.red.rows.1 (k+1) om k om;unfold fM eB at t;rw[(om:k+1-k=1)]at t
       exact t
      have d4:=l.red.pd.pos (k+2) om;have d5:=l.red.lead (k+2) om;have p1:=lJ (A:=59049) (B:=59049) (om:-59049<=det k H/\det k H<=59049) (om:-59049<=det (k+2) H/\det (k+2) H<=59049)
      have p2:=lJ (A:=59049) (B:=59049) (om:-59049<=ca H k 1 0/\ca H k 1 0<=59049) (om:-59049<=ca H k 1 0/\ca H k 1 0<=59049)
      have p3:=lJ (A:=59049) (B:=59049) (om:-59049<=det (k+1) H/\det (k+1) H<=59049) (om:-59049<=det (k+1) H/\det (k+1) H<=59049)
      have Y:IntKind.i64.wrap (det k H*det (k+2) H)=det k H*det (k+2) H:=i64_in om om;have Z:IntKind.i64.wrap (ca H k 1 0*ca H k 1 0)=ca H k 1 0*ca H k 1 0:=i64_in om om;have q3:IntKind.i64.wrap (det k H*det (k+2) H+ca H k 1 0*ca H k 1 0)=det k H*det (k+2) H+ca H k 1 0*ca H k 1 0:=i64_in om om;have q4:IntKind.i64.wrap (4*(det k H*det (k+2) H+ca H k 1 0*ca H k 1 0))=4*(det k H*det (k+2) H+ca H k 1 0*ca H k 1 0):=i64_in om om;have q5:IntKind.i64.wrap (3*det (k+1) H)=3*det (k+1) H:=i64_in om om;have q6:IntKind.i64.wrap (3*det (k+1) H*det (k+1) H)=3*(det (k+1) H*det (k+1) H):=by rw[eY];exact i64_in om om
      have q7:¬(4*(det k H*det (k+2) H+ca H k 1 0*ca H k 1 0)<3*(det (k+1) H*det (k+1) H)):=om
      have hpn:0<n:=om
      have hpnz:(0:Int)<(n:Int):=om
      have hln:1<n:=om
      have hlnz:(1:Int)<(n:Int):=om
      simp -dsimp only[go_sem,aa,ax,aX,o,s,v,w,d,f,r,u,q,hq0,hqz,y,W,R,x5,Y,Z,q3,q4,q5,q6,q7,show Int.toNat 1=1 from rfl];refine⟨⟨k+1,om,.sl 1 bc 0 (n-(k+1)),Or.inr ⟨bc,g',rfl,hN.1⟩,rfl,rfl⟩,om⟩
   ·obtain⟨T,P,M⟩:=id G.outer;obtain⟨g2,u2,v2⟩:=id (G.row 0 h);obtain⟨g3,u3,v3⟩:=id (G.row 1 I);have x1:T 0=.sl 1 (g 0) 0 (n-k):=M 0 h;have x2:g2 0=.int .i64 (ca H k 0 0):=v2 0 h;have y1:T 1=.sl 1 (g 1) 0 (n-k):=M 1 I;have y2:g3 0=.int .i64 (ca H k 1 0):=v3 0 h;simp -dsimp only[go_sem,aa,o,q,h,u,P,u2,x1,x2,F];refine(pQ (n-k) (ca H k) h om (by rw[cA];exact d1) (by rw[cA];omega) (fun i h1 h2=>?_)).spec (dT.cons G.vr.va dT.nil) ?_
    ·have t:=l.red.rows.1 (k+i) om k om;unfold fM eB at t;rw[(om:k+i-k=i)]at t
     rw[cA];omega
    simp -dsimp only[go_sem,o,wsub]
    repeat refine an ?_
    refine au.intro fun bc fc=>?_;simp -dsimp only[go_sem];refine aI (fun O S'=>∃i:Nat,i<=n-(k+1)/\O 3=.sl 1 b 0 (n-k)/\O 4=.int .i64 (det k H)/\O 5=.int .i64 (det (k+1) H)/\O 6=.sl 1 bc 0 (n-(k+1))/\O 31=.int .i64 ((n-(k+1):Nat):Int)/\O 32=.int .i64 i/\∃g',eQ 29 2 1 S S' bc g' (n-(k+1)) (n-(k+1)) i (fun a j=>.int .i64 (ca H (k+1) a j))) (fun O S=>n-bT (O 32)) ?_ ?_
    ·simp -dsimp only[go_sem,o,s];exact⟨0,om,rfl,fun _=>0,eQ.init fc (fun _ _=>rfl) _ _⟩
    ·clear o s;rintro O S' ⟨i,hi,o,s,v,w,d,f,g',p⟩;by_cases r:i<n-(k+1)
     ·have J:i+1<n-k:=om
      obtain⟨T,P,M⟩:=id (p.ext.has G.outer);have x1:T (i+1)=.sl 1 (g (i+1)) 0 (n-k):=M (i+1) J;have hbc:b≠bc:=aR.fresh G.outer fc;obtain⟨Q,y,K⟩:=id p.outer;simp -dsimp only[go_sem,aa,o,s,v,w,d,f,r,J,P,x1,aM (om:i<1000000),y]
      repeat refine an ?_
      refine au.intro fun bd fd=>?_;have U:bc≠bd:=aR.fresh p.outer fd;simp -dsimp only[go_sem,r,y,U];have z:=p.push dc fd y (fun _=>.int .i64 0)
      generalize V:(fun a=>if a=i then bd else g' a)=gg at z
      refine aI (fun O S'=>∃j:Nat,j<=n-(k+1)/\O 3=.sl 1 b 0 (n-k)/\O 4=.int .i64 (det k H)/\O 5=.int .i64 (det (k+1) H)/\O 6=.sl 1 bc 0 (n-(k+1))/\O 7=.int .i64 i/\O 8=.sl 1 (g (i+1)) 0 (n-k)/\O 31=.int .i64 ((n-(k+1):Nat):Int)/\O 32=.int .i64 i/\O 47=.int .i64 ((n-(k+1):Nat):Int)/\O 48=.int .i64 j/\eQ 29 2 1 S S' bc gg (n-(k+1)) (n-(k+1)) (i+1) (fun a c=>.int .i64 (if a=i/\j<=c then 0 else ca H (k+1) a c))) (fun O S=>n-bT (O 48)) ?_ ?_
      ·simp -dsimp only[go_sem,o,s,v,w,d,f];refine⟨0,om,rfl,z.congr fun a c _ _=>?_⟩
       by_cases e:a=i
       ·simp[e]
       ·simp[e]
      ·clear o s v w d f p z y K V P M x1;rintro O S' ⟨j,hj,o,s,v,w,e7,e8,d,f,C,D,p⟩;by_cases E:j<n-(k+1)
       ·have L:j+1<n-k:=om
        obtain⟨Q,y,K⟩:=id p.outer;obtain⟨g5,R,v5⟩:=id (p.row i om);have W:Q i=.sl 1 (gg i) 0 (n-(k+1)):=(K i r).trans (if_pos om);have b1:=l.stgb (k:=k) (i:=i+1) (j:=j+1) om om;have b2:=l.stgb (k:=k) (i:=i+1) (j:=0) om om;have b3:=l.stgb (k:=k) (i:=0) (j:=j+1) om om;have X:2*((ca H k (i+1) 0).natAbs:Int)<=det (k+1) H:=by
         have t:=l.red.rows.1 (k+(i+1)) om k om;unfold fM eB at t;rw[(om:k+(i+1)-k=i+1)]at t
         exact t
        have hstep:=ix (l.red.pd.ne (om:k<=n)) i j
        rw[cA]at hstep;have p1:=lJ (A:=59049) (B:=6973568802) (om:-59049<=det (k+1) H/\det (k+1) H<=59049) b1
        have p2:=lJ (A:=59049) (B:=6973568802) (om:-59049<=ca H k (i+1) 0/\ca H k (i+1) 0<=59049) b3
        have Y:IntKind.i64.wrap (det (k+1) H*ca H k (i+1) (j+1))=det (k+1) H*ca H k (i+1) (j+1):=i64_in om om;have Z:IntKind.i64.wrap (ca H k (i+1) 0*ca H k 0 (j+1))=ca H k (i+1) 0*ca H k 0 (j+1):=i64_in om om;have q3:IntKind.i64.wrap (det (k+1) H*ca H k (i+1) (j+1)-ca H k (i+1) 0*ca H k 0 (j+1))=det k H*ca H (k+1) i j:=by rw[<-hstep];exact i64_in om om
        have b4:=l.stgb (k:=k+1) (i:=i) (j:=j) om om;have q4:iQ (det k H*ca H (k+1) i j) (det k H)=ca H (k+1) i j:=Int.mul_tdiv_cancel_left _ om;have q5:IntKind.i64.wrap (ca H (k+1) i j)=ca H (k+1) i j:=i64_in om om;have q6:¬(det k H=0):=om
        obtain⟨T,P,M⟩:=id (p.ext.has G.outer);obtain⟨g2,u2,v2⟩:=id (p.ext.has (G.row 0 h));obtain⟨g3,u3,v3⟩:=id (p.ext.has (G.row (i+1) J));have x1:T 0=.sl 1 (g 0) 0 (n-k):=M 0 h;have x2:g2 (j+1)=.int .i64 (ca H k 0 (j+1)):=v2 (j+1) L;have x3:g3 (j+1)=.int .i64 (ca H k (i+1) (j+1)):=v3 (j+1) L;have x5:g3 0=.int .i64 (ca H k (i+1) 0):=v3 0 h;simp -dsimp only[go_sem,o,s,v,w,d,f,C,D,E,aM (om:i<1000000)]
        refine aP 27 kr ?_
        simp -dsimp only[go_sem,aa,o,s,v,w,e7,e8,d,f,C,D,r,E,L,h,u,P,u2,u3,x1,x2,x3,x5,aM (om:j<1000000),y,W,R,Y,Z,q3,q4,q5,q6,bT]
        refine⟨⟨j+1,om,rfl,(p.put dc (om:i<i+1) R j (.int .i64 (ca H (k+1) i j))).congr fun a c _ _=>?_⟩,om⟩
        by_cases e:a=i/\c=j
        ·obtain⟨rfl,rfl⟩:=e;rw[if_pos ⟨rfl,rfl⟩,if_neg om]
        ·rw[if_neg e];congr 1;by_cases e2:a=i/\j<=c
         ·rw[if_pos e2,if_pos om]
         ·rw[if_neg e2,if_neg om]
       ·simp -dsimp only[go_sem,o,s,v,w,d,f,C,D,E,aM (om:i<1000000),bT]
        exact⟨⟨i+1,om,rfl,gg,p.congr fun a c _ hc=>by rw[if_neg om]⟩,om⟩
     ·obtain rfl:i=n-(k+1):=om
      have hN:=p.imat (A:=ca H (k+1)) (fun _ _ _ _=>rfl);obtain⟨Q,y,K⟩:=id hN.1.outer;obtain⟨g5,R,v5⟩:=id (hN.1.row 0 om);have W:Q 0=.sl 1 (g' 0) 0 (n-(k+1)):=K 0 om;have x5:g5 0=.int .i64 (det (k+2) H):=(v5 0 om).trans (by simp only[cA])
      have hq0:0<n-(k+1):=om
      have hqz:(0:Int)<((n-(k+1):Nat):Int):=om
      have hl:=l.red.rows.2 (k+1) om om;unfold gZ eB at hl;rw[(om:k+1-1=k),(om:k+1-k=1),show k+1+1=k+2 from rfl]at hl
      have X:2*((ca H k 1 0).natAbs:Int)<=det (k+1) H:=by
       have t:=l.red.rows.1 (k+1) om k om;unfold fM eB at t;rw[(om:k+1-k=1)]at t
       exact t
      have d4:=l.red.pd.pos (k+2) om;have d5:=l.red.lead (k+2) om;have p1:=lJ (A:=59049) (B:=59049) (om:-59049<=det k H/\det k H<=59049) (om:-59049<=det (k+2) H/\det (k+2) H<=59049)
      have p2:=lJ (A:=59049) (B:=59049) (om:-59049<=ca H k 1 0/\ca H k 1 0<=59049) (om:-59049<=ca H k 1 0/\ca H k 1 0<=59049)
      have p3:=lJ (A:=59049) (B:=59049) (om:-59049<=det (k+1) H/\det (k+1) H<=59049) (om:-59049<=det (k+1) H/\det (k+1) H<=59049)
      have Y:IntKind.i64.wrap (det k H*det (k+2) H)=det k H*det (k+2) H:=i64_in om om;have Z:IntKind.i64.wrap (ca H k 1 0*ca H k 1 0)=ca H k 1 0*ca H k 1 0:=i64_in om om;have q3:IntKind.i64.wrap (det k H*det (k+2) H+ca H k 1 0*ca H k 1 0)=det k H*det (k+2) H+ca H k 1 0*ca H k 1 0:=i64_in om om;have q4:IntKind.i64.wrap (4*(det k H*det (k+2) H+ca H k 1 0*ca H k 1 0))=4*(det k H*det (k+2) H+ca H k 1 0*ca H k 1 0):=i64_in om om;have q5:IntKind.i64.wrap (3*det (k+1) H)=3*det (k+1) H:=i64_in om om;have q6:IntKind.i64.wrap (3*det (k+1) H*det (k+1) H)=3*(det (k+1) H*det (k+1) H):=by rw[eY];exact i64_in om om
      have q7:¬(4*(det k H*det (k+2) H+ca H k 1 0*ca H k 1 0)<3*(det (k+1) H*det (k+1) H)):=om
      obtain⟨T,P,M⟩:=id (p.ext.has G.outer);obtain⟨g3,u3,v3⟩:=id (p.ext.has (G.row 1 I));have y1:T 1=.sl 1 (g 1) 0 (n-k):=M 1 I;have y2:g3 0=.int .i64 (ca H k 1 0):=v3 0 h;simp -dsimp only[go_sem,aa,o,s,v,w,d,f,r,h,u,I,q,hq0,hqz,P,u3,y1,y2,y,W,R,x5,Y,Z,q3,q4,q5,q6,q7,show Int.toNat 1=1 from rfl];refine⟨⟨k+1,om,.sl 1 bc 0 (n-(k+1)),Or.inr ⟨bc,g',rfl,hN.1⟩,rfl,rfl⟩,om⟩
  ·have q:¬((1:Int)<((n-k:Nat):Int)):=om
   have hkn:k+1=n:=om
   have N:=l.det;rw[<-hkn]at N;rcases hSt with rfl|⟨b,g,rfl,G⟩
   ·simp -dsimp only[go_sem,aa,ax,aX,o,q,u,F,N.1,N.2];exact VR.mf rfl
   ·obtain⟨T,P,M⟩:=G.outer;obtain⟨g2,u2,v2⟩:=G.row 0 om;have w1:=M 0 h;have w2:=v2 0 h;simp -dsimp only[go_sem,aa,o,q,h,u,P,u2,w1,w2,F,N.1,N.2];exact VR.mf rfl

end Go.Proofs.YtdobfmlmenaajaaGreatDoor
