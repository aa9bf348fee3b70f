/-
  Lemmas for NeighbourRaw.
-/
import Derived.Test.YtdobfmlmenaajaaGreatDoorH29
namespace Go.Proofs.YtdobfmlmenaajaaGreatDoor
open Go.RowKit Tryz
open _root_.Classical renaming choose→dq
open _root_.Option renaming none→ab
set_option maxHeartbeats 6400000
set_option maxRecDepth 4096
set_option linter.all false
attribute [local go_sem] Nat.reduceAdd Nat.reduceEqDiff Nat.reduceLeDiff Nat.reduceLT reduceCtorEq Int.ofNat_lt decide_true decide_false Int.zero_le_ofNat
attribute [local go_sem ↓] reduceIte
variable{h v x y z:AV}{K:AV->St->Prop}{Q:AX->Tm->St->Prop}{B a b c q u:Int}{args:List AV}{f i m n p r s:Nat}{g g':Nat->AV}{M:Nat->Prop}{S:St}{O:Tm}{G:Type}{w:World}{A H U:aI}{l:iB}
def Nj{p:Nat->Prop}(h:∃n,p n):∃n,p n/\∀m,p m->n<=m:=by
 obtain⟨n,c⟩:=h
 induction n using Nat.strongRecOn with
 | _ n ih =>
  by_cases b:∃m,m<n/\p m
  .obtain⟨m,a,d⟩:=b;exact ih m a d
  .exact⟨n,c,fun m h=>by
    rcases aC m n with a|a
    .exact absurd ⟨m,a,h⟩ b
    .exact a⟩
def N4{c:Code}(I:G->Tm->St->Prop)(m:G->Nat)(l:∃g,I g O S)
  (n:∀Q',Q'=Q->∀g O S,I g O S->∀R:Tm->St->Prop,(∀g' O' S',I g' O' S'->m g'<m g->R O' S')->Aw c (AX.seq R Q') O S):Aw (.loop c) Q O S:=by
 classical
 have d:∀O S,(∃g,I g O S)->∃k,(∃g,I g O S/\m g=k)/\∀j,(∃g,I g O S/\m g=j)->k<=j:=fun O S ⟨g,e⟩=>Nj ⟨m g,g,e,rfl⟩;refine aH (fun O S=>∃g,I g O S) (fun O S=>if h:∃g,I g O S then dq (d O S h)else 0) l ?_
 intro O S i;obtain⟨⟨g,e,o⟩,_⟩:=de (d O S i);refine n Q rfl g O S e _ ?_;intro g' O' S' b f;have a:∃g,I g O' S':=⟨g',b⟩;refine⟨a,?_⟩;rw[UT i,UT a,<-o];exact ee ((de (d O' S' a)).2 _ ⟨g',b,rfl⟩) f
def qy(n:Nat)(H U:aI):aI:=fun r k=>if r<n then H r k else U (r-n) k
def gY(h:r<n)(k:Nat):qy n H U r k=H r k:=ai h
def Th{row c j:Nat}(h:row<n):qy n (B7 (kv H c j (H row c/H row j)) c j) (B7 (kv U c j (H row c/H row j)) c j)=L7 (qy n H U) row c j:=by
 funext r k;simp only[qy,L7,B7,kv,h,aQ];split<;>rfl
def Qz{c:Nat}:qy n (l8 H c) (l8 U c)=l8 (qy n H U) c:=by
 funext r k;simp only[qy,l8];split<;>rfl
def Qy:qy n (kv H s p q) (kv U s p q)=kv (qy n H U) s p q:=by
 funext r k;simp only[qy,kv];split<;>rfl
def Bd.hn{K:Nat}(h:Bd (n+m) m K (qy n H U)){i j:Nat}(b:i<n)(c:j<m):nb (H i j) (K+1):=by
 have d:=h i j om c;rw[gY b]at d;unfold nb;rw[cb];have:=iK (a:=2) (n:=K) om;omega
def Bd.un{K:Nat}(h:Bd (n+m) m K (qy n H U)){i j:Nat}(d:i<m)(c:j<m):nb (U i j) (K+1):=by
 have b:=h (n+i) j om c;unfold qy at b;rw[af om,(om:n+i-n=i)]at b
 unfold nb;rw[cb];have:=iK (a:=2) (n:=K) om;omega
def GaM(S:St)(bp bh:Nat)(gh:Nat->Nat)(bu:Nat)(gu:Nat->Nat)(n m K b row c j:Nat)(A0:aI):Prop :=
 ∃H1 U1,jx S bp bh gh bu gu n m H1 U1/\Mc n m row c j A0 (qy n H1 U1)/\Bd (n+m) m K (qy n H1 U1)/\∀k,c<=k->k<m->(qy n H1 U1 row k).natAbs<=2^b
def GaR(S:St)(bp bh:Nat)(gh:Nat->Nat)(bu:Nat)(gu:Nat->Nat)(n m K b row c:Nat)(A0:aI):Prop :=
 ∃H1 U1,jx S bp bh gh bu gu n m H1 U1/\Mc n m row c m A0 (qy n H1 U1)/\Bd (n+m) m K (qy n H1 U1)/\(H1 row c).natAbs<=2^b/\0<=H1 row c
def Jo:decide (a.sign<0)=decide (a<0):=by
 rcases fF a 0 with h|h|h
 .rw[eP h];simp;omega
 .subst h;simp
 .rw[dl h];simp;omega
def zG:(a.sign != 0)=(a != 0):=by
 rcases fF a 0 with h|h|h
 .rw[eP h];simp;omega
 .subst h;simp
 .rw[dl h];simp;omega
def Ai(S0:St)(bp bh bu n m K b row c:Nat)(gh gu:Nat->Nat)(A0:aI)(T:n<=8)(U:m<=9)(a:row<n)(f:c<m)(C:b+1<=536870912)(hK:K+(m-1-c)*(b+4)<=3000000000)(e:GaM S0 bp bh gh bu gu n m K b row c (c+1) A0) :
  cP 187 [.ptr 1 bp 0,.int .i64 row,.int .i64 c] S0 (fun _ S'=>GaR S' bp bh gh bu gu n m (K+(m-1-c)*(b+4)) b row c A0):=by
 refine iw func187 rfl 74 ntmps187 kr sm ?_
 rw[lA,results187];simp -dsimp only[go_sem,aP (om:c<1000000)]
 refine aH (fun O S=>∃j:Nat,(c<j/\j<=m)/\GaM S bp bh gh bu gu n m (K+(j-1-c)*(b+4)) b row c j A0/\O 0=.ptr 1 bp 0/\O 1=.int .i64 row/\O 2=.int .i64 c/\O 6=.int .i64 j) (fun O S=>m-cj (O 6)) ?_ ?_
 .simp -dsimp only[go_sem];exact⟨c+1,om,om,by rw[(om:c+1-1-c=0),qA];exact e,rfl⟩
 .clear e;rintro O S ⟨j,⟨V,hj2⟩,hG,l,o,p,q⟩;obtain⟨H1,U1,e,H,u,I⟩:=id hG;obtain⟨g,z,D,J⟩:=e.pair;have hk1:=aB (b+4) (om:j-1-c<=m-1-c)
  by_cases d:j<m
  .have W:=aB (b+4) (om:j-1-c+1<=m-1-c)
   rw[cW]at W;simp -dsimp only[go_sem,aa,l,o,p,q,z,J,d];generalize X:(j-1-c)*(b+4)=Kj at *;refine N4 (G:=aI×aI) (fun x O S'=>jx S' bp bh gh bu gu n m x.1 x.2/\Re n m (n+m) (K+Kj) b row c j A0 (qy n x.1 x.2)/\O 0=.ptr 1 bp 0/\O 1=.int .i64 row/\O 2=.int .i64 c/\O 6=.int .i64 j) (fun x=>(x.1 row j).natAbs) ?_ ?_
   .refine⟨(H1,U1),e,H.eu u I f om d,?_⟩;simp -dsimp only[go_sem,l,o,p,q]
   .clear e H u I hG z D J l o p q;rintro Q' Y ⟨H2,U2⟩ O S' ⟨e,A,l,o,p,q⟩ R hR;dsimp only at e A hR;obtain⟨g,z,D,J⟩:=e.pair;obtain⟨Z,L,v1⟩:=e.h.outer;obtain⟨M,N,P⟩:=e.h.row row a;have Q:Z row=.sl 2 (gh row) 0 m:=v1 row a;have x2:M c=.big (H2 row c):=P c f;have x3:M j=.big (H2 row j):=P j d;have r:=A.bd;simp -dsimp only[go_sem,aa,l,o,q,z,D,L,Q,N,x3,d,a];refine(jR (r.hn a d) om).call ?_;by_cases t:H2 row j=0
    .have hs:(H2 row j != 0)=false:=by simpa using t
     obtain⟨f1,f2⟩:=A.fin (by rw[gY a];exact t)
     simp -dsimp only[go_sem,zG,hs];rw[Y];simp -dsimp only[go_sem,l,o,p,q,aP (om:j<1000000),cj]
     refine⟨⟨j+1,om,om,⟨H2,U2,e,f1,?_,A.rw⟩,rfl⟩,om⟩
     rw[(om:j+1-1-c=j-1-c+1),cW,X,(om:K+(Kj+(b+4))=K+Kj+b+4)];exact f2
    .have hs:(H2 row j != 0)=true:=by simpa using t
     simp -dsimp only[go_sem,zG,hs,l,o,q];refine bE 24 kr ?_
     simp -dsimp only[go_sem,aa,l,o,p,q,z,D,L,Q,N,x2,x3,d,a,f];have E:∀k,c<=k->k<m->nb (H2 row k) (b+1):=fun k h1 h2=>by
      have:=A.rw k h1 h2;rw[gY a]at this;exact ee this (jO om om)
     refine⟨_,(oi (E c (ae _) f) (E j om d) C t).pure',?_⟩
     try simp -dsimp only[go_sem]
     have hq:nb (H2 row c/H2 row j) (K+Kj+b+4+1):=nb.of_le (jD ..) (r.hn a f);refine(ph S' bp bh bu n m c j gh gu H2 U2 _ (K+Kj+b+4+1) T U f d om hq (fun i k v w=>r.hn v w) (fun i k v w=>r.un v w) e).mono ?_;intro _ S2 y;simp -dsimp only[go_sem,aa,l,p,q];refine(De S2 bp bh bu n m c j gh gu _ _ T U f d om y).mono ?_;intro _ S3 hP3;simp -dsimp only[go_sem];obtain⟨F,B⟩:=A.step V d (by rw[gY a];exact t)
     rw[<-Th a]at F B;rw[gY a,gY a]at B;refine hR (_,_) _ _ ⟨hP3,F,?_⟩ B;simp -dsimp only[go_sem,l,o,p,q]
  .obtain rfl:j=m:=om
   obtain⟨Z,L,v1⟩:=e.h.outer;obtain⟨M,N,P⟩:=e.h.row row a;have Q:Z row=.sl 2 (gh row) 0 j:=v1 row a;have x2:M c=.big (H1 row c):=P c f;simp -dsimp only[go_sem,aa,l,o,p,q,z,D,J,L,Q,N,x2,d,a,f];refine(jR (u.hn a f) om).call ?_;by_cases t:H1 row c<0
   .simp -dsimp only[go_sem,aa,l,o,p,Jo,t];refine(zZ S bp bh bu n j c gh gu H1 U1 (K+(j-1-c)*(b+4)+1) T U f om (fun i k v w=>u.hn v w) (fun i k v w=>u.un v w) e).mono ?_;intro _ S2 y;simp -dsimp only[go_sem];obtain⟨F,B⟩:=H.neg u f;rw[<-Qz]at F B;have s:=I c (ae _) f;rw[gY a]at s;exact⟨_,_,y,F,B,by simp only[l8,aQ];omega,by simp only[l8,aQ];omega⟩
   .simp -dsimp only[go_sem,aa,l,o,p,Jo,t];have s:=I c (ae _) f;rw[gY a]at s;exact⟨H1,U1,e,H,u,s,om⟩

def FoM(S:St)(bp bh:Nat)(gh:Nat->Nat)(bu:Nat)(gu:Nat->Nat)(n m K i:Nat)(A0:aI):Prop :=
 ∃H1 U1,jx S bp bh gh bu gu n m H1 U1/\Kf n m (n+m) K i A0 (qy n H1 U1)
def ReM(S:St)(bp bh:Nat)(gh:Nat->Nat)(bu:Nat)(gu:Nat->Nat)(n m K b i s:Nat)(A0:aI):Prop :=
 ∃H1 U1,jx S bp bh gh bu gu n m H1 U1/\Q7 n m (n+m) K b i s A0 (qy n H1 U1)
def FormQ(S:St)(n m K:Nat)(A0:aI)(r:AV):Prop:=∃(bh:Nat) (gh:Nat->Nat) (bu:Nat) (H1 U1:aI),r=.tup [.sl 1 bh 0 n,.sl 1 bu 0 m,.bool true]/\dH S bh gh n m H1/\Kf n m (n+m) K n A0 (qy n H1 U1)
def Q7.bdd{N K b:Nat}{A0:aI}(h:Q7 n m N K b i s A0 A):Bd N m (2*K+4) A:=fun r k a c=>by
 have d:=h.bd r k a c;have e:=pn (om:K<=2*K+4)
 split at d<;>omega
def u9(n m K:Nat)(A:aI)(h1:1<=n)(hn:n<=8)(hnm:n<=m)(hm:m<=9)(hK:gg K m n<=3000000000)(C:∀i,i<n->gg K m i+1<=536870912)(hb:Bd (n+m) m K (qy n A kD))(hf:∀i,i<n->∃M,M≠0/\fy n m (qy n A kD) (gN M i)):cP 125 [aR n m A] St.none (fun r S'=>FormQ S' n m K (qy n A kD) r):=by
 refine i9 func125 ntmps125 results125 ?_;have hK0:K<=3000000000:=bQ (JS (K:=K) (m:=m) (om:0<=n)) hK
 simp -dsimp only[go_sem,aa];refine(mE n m A h1 om om om).call ?_;simp -dsimp only[go_sem,aa];refine(rI m om om _ _ (cS _ _)).mono ?_;rintro r S1 ⟨bu,gu,rfl,hu⟩;simp -dsimp only[go_sem,aa];refine(yT n m A (K+1) om om om (fun i j D hj=>hb.hn D hj) om _ _ (cS _ _)).mono ?_;rintro r S2 ⟨bh,gh,rfl,P⟩;simp -dsimp only[go_sem,bn,bS,cB,cM];refine aF.intro fun l p=>?_;have Q:FoM (S2.upd l ⟨183,1,2,fun j=>[AV.sl 1 bh 0 n,.sl 1 bu 0 m].getD j .any⟩) l bh gh bu gu n m K 0 (qy n A kD):=by
  have F:dH S2 bu gu m m kD:=hu.1.ext P.2.1;refine⟨A,kD,⟨⟨_,cn,rfl,rfl⟩,P.1.stp (aO (bM.fresh P.1.outer p)) fun i D=>aO (bM.fresh (P.1.row i D) p),F.stp (aO (bM.fresh F.outer p)) fun i D=>aO (bM.fresh (F.row i D) p),fun i j D hj e=>?_⟩,Kf.init hb⟩;have e1:=P.2.2.2 i D;obtain⟨_,e2,_⟩:=hu.1.row j hj;rw[e,e2]at e1;cases e1
 generalize S2.upd l ⟨183,1,2,fun j=>[AV.sl 1 bh 0 n,.sl 1 bu 0 m].getD j .any⟩=S3 at Q ⊢;clear hu P p;refine aH (fun O S=>∃i:Nat,i<=n/\FoM S l bh gh bu gu n m K i (qy n A kD)/\O 0=aR n m A/\O 6=.int .i64 m/\O 10=.ptr 1 l 0/\O 11=.int .i64 i/\O 12=.int .i64 i) (fun O S=>n-cj (O 11)) ?_ ?_
 .simp -dsimp only[go_sem];exact⟨0,om,Q,rfl,rfl⟩
 .clear Q;rintro O S ⟨i,D,Q,x,E,c,d,f⟩;by_cases b:i<n
  .have o:i<m:=om
   obtain⟨H1,U1,q,G⟩:=Q;have hK3:gg K m (i+1)<=3000000000:=bQ (JS b) hK;have H:(if i=0 then 1 else 2)*(gg K m i+(m-1-i)*(gg K m i+4))+4<=gg K m (i+1):=ae _
   have hK4:gg K m i+(m-1-i)*(gg K m i+4)<=3000000000:=by
    have:=H;split at this<;>omega
   simp -dsimp only[go_sem,aa,aR,x,E,c,d,f,b,o];refine(Ai S l bh bu n m (gg K m i) (gg K m i) i i gh gu (qy n H1 U1) hn hm b o (C i b) hK4 ⟨H1,U1,q,G.ga,G.bd,fun k _ T=>G.bd i k om T⟩).mono ?_;rintro r S' ⟨H2,U2,t,hg,I,U,h0⟩;have hR:=G.re om hg I (by rw[gY b];exact U) b hnm (hf i b) (by rw[gY b];exact h0)
   have u:0<H2 i i:=by have:=(hR.tri i om).2;rwa [gY b]at this
   generalize hKd:gg K m i+(m-1-i)*(gg K m i+4)=Kd at *;obtain⟨g,R,J,p3⟩:=t.pair;obtain⟨g1,u1,v1⟩:=t.h.outer;obtain⟨g2,u2,V⟩:=t.h.row i b;have W:g1 i=.sl 2 (gh i) 0 m:=v1 i b;have X:g2 i=.big (H2 i i):=V i o;simp -dsimp only[go_sem,aa,c,d,f,b,o,R,J,u1,W,u2,X];refine(jR (I.hn b o) om).call ?_;simp -dsimp only[go_sem,aR,x,E,c,d,f,J,W,X,dl u,show((1:Int)==0)=false from rfl];have y:ReM S' l bh gh bu gu n m Kd (gg K m i) i 0 (qy n A kD):=⟨H2,U2,t,hR⟩;clear u1 v1 u2 V W X R J p3 t hR u I hg h0 U q G;refine aH (fun O S=>∃s:Nat,s<=i/\ReM S l bh gh bu gu n m Kd (gg K m i) i s (qy n A kD)/\O 0=aR n m A/\O 6=.int .i64 m/\O 10=.ptr 1 l 0/\O 11=.int .i64 i/\O 12=.int .i64 i/\O 13=.int .i64 s) (fun O S=>i-cj (O 13)) ?_ ?_
   .simp -dsimp only[go_sem,aR,x,E,c,d,f];exact⟨0,om,y,rfl⟩
   .clear y x E c d f;rintro O S ⟨s,hs,y,x,E,c,d,f,z⟩;obtain⟨H3,U3,v,w⟩:=id y;have L:=w.bdd;by_cases N:s<i
    .obtain⟨g,R,J,p3⟩:=v.pair;obtain⟨g1,u1,v1⟩:=v.h.outer;obtain⟨g2,u2,V⟩:=v.h.row i b;have B:s<m:=om
     have W:g1 i=.sl 2 (gh i) 0 m:=v1 i b;have X:g2 i=.big (H3 i i):=V i o;have x3:g2 s=.big (H3 i s):=V s B;have u:0<H3 i i:=by have:=(w.tri i om).2;rwa [gY b]at this
     have hq:nb (H3 i s/H3 i i) (2*Kd+4+1):=nb.of_le (jD ..) (L.hn b B);simp -dsimp only[go_sem,aR,x,E,c,d,f,z,N];refine bE 24 kr ?_
     simp -dsimp only[go_sem,aa,c,d,f,z,b,R,J,u1,W,u2,X,x3,B,o];have Y:∀k,s<=k->k<=i->nb (H3 i k) (gg K m i+1):=fun k h1 h2=>by
      have:=w.rw k h1 h2;rw[gY b]at this;exact ee this (jO om om)
     refine⟨_,(oi (Y s (ae _) om) (Y i om (ae _)) (C i b) om).pure',?_⟩
     try simp -dsimp only[go_sem]
     have hKd2:2*Kd+4<=3000000000:=by
      have:=H;rw[af om]at this;omega
     refine(ph S l bh bu n m s i gh gu H3 U3 _ (2*Kd+4+1) hn hm B o om hq (fun a k ha T=>L.hn ha T) (fun a k ha T=>L.un ha T) v).mono ?_;intro r S4 hP4;have Z:=w.step N o om;rw[gY b,gY b,<-Qy]at Z;simp -dsimp only[go_sem,aR,x,E,c,d,f,z,aP (om:s<1000000),cj]
     exact⟨⟨s+1,om,⟨_,_,hP4,Z⟩,rfl⟩,om⟩
    .obtain rfl:s=i:=om
     simp -dsimp only[go_sem,aR,x,E,c,d,f,z,N,aP (om:s<1000000),cj]
     exact⟨⟨s+1,om,⟨H3,U3,v,w.fin H⟩,rfl,rfl⟩,om⟩
  .obtain rfl:i=n:=om
   obtain⟨H1,U1,q,G⟩:=Q;obtain⟨g,R,J,p3⟩:=q.pair;simp -dsimp only[go_sem,aa,aR,x,c,d,f,b];refine bE 11 kr ?_
   simp -dsimp only[go_sem,aa,c,R,J,p3];exact⟨bh,gh,bu,H1,U1,rfl,q.h,G⟩
def Kx(n m c k:Nat)(H:aI)(r:n<=8)(s:k<=8000000000)(h:c<m)(l:∀i j,i<n->j<m->nb (H i j) k)(o:∀i,i<n->i<c->H i c=0)(p:c<n->H c c≠0):PF 73 [aR n m H,.int .i64 c] (.int .i64 ((min c n:Nat):Int)):=by
 refine iH func73 ntmps73 results73 ?_;simp -dsimp only[go_sem,aR];refine aH (fun O S=>∃i:Nat,i<=min c n/\O 0=aR n m H/\O 1=.int .i64 c/\O 7=.int .i64 n/\O 8=.int .i64 i) (fun O S=>n-cj (O 8)) ?_ ?_
 .simp -dsimp only[go_sem,aR];exact⟨0,om,rfl⟩
 .rintro O S ⟨i,t,b,d,f,g⟩;by_cases a:i<n
  .simp -dsimp only[go_sem,aa,aR,bB,b,d,f,g,a,h];refine(jR (l i c a h) om).call ?_;by_cases e:i=c
   .subst e;have q:(H i i != 0)=true:=by simpa using p a
    simp -dsimp only[go_sem,aR,bB,b,d,f,g,zG,q];rw[(om:min i n=i)]
    exact VR.mf rfl
   .simp -dsimp only[go_sem,aR,bB,b,d,f,g,o i a om,sK,show((0:Int) != 0)=false from rfl,aP (om:i<1000000),cj]
    exact⟨⟨i+1,om,rfl⟩,om⟩
  .simp -dsimp only[go_sem,aa,aR,b,d,f,g,a];rw[(om:min c n=n)]
   exact VR.mf rfl
def KD{b:Nat}{K:AV->Prop}(a:n<=m)(h:K (.sl 2 b 0 n)):lj 59 (.sl 2 b 0 m) ab (some (.int .i64 n)) ab K:=by
 refine⟨rfl,0,n,?_⟩;simp;exact⟨a,h⟩
structure CutM(S:St)(b:Nat)(g:Nat->Nat)(n m i:Nat)(A:aI):Prop where
 outer:bM S b 59 1 n (fun r=>.sl 2 (g r) 0 (if r<i then n else m))
 row:∀r,r<n->bM S (g r) 50 2 m (fun k=>.big (A r k))
def yE(x:iB):fy n m (qy n A U) x↔fy n m A x:=by
 have e:∀i,i<n->∀c:iB,ay m (fun j=>qy n A U i j*c j)=ay m (fun j=>A i j*c j):=fun i a c=>aE fun j _=>by rw[gY a]
 exact⟨fun⟨c,b⟩=>⟨c,fun i a=>by rw[b i a,e i a]⟩,fun⟨c,b⟩=>⟨c,fun i a=>by rw[b i a,e i a]⟩⟩
def I6(n K:Nat)(A B:aI)(h1:1<=n)(T:n<=8)(V:gg K (n+1) n<=3000000000)(q:∀i,i<n->gg K (n+1) i+1<=536870912)(W:Bd (n+(n+1)) (n+1) K (qy n A kD))(X:∀i,i<n->∃M,M≠0/\fy n (n+1) A (gN M i))
  (hT:xO n n B) (b:∀c j,c<n->j<c->0<=B c j/\B c j<B c c) (Y:∀y,fy n n B y↔fy n (n+1) A y):PF 62 [aR n (n+1) A] (.tup [aR n n B,.bool true]):=by
 refine iH func62 ntmps62 results62 ?_;have G:gg K (n+1) n+1<=8000000000:=om
 simp -dsimp only[go_sem,aa];refine(u9 n (n+1) K A h1 T om om V q W fun i d=>by
  obtain⟨M,h,h'⟩:=X i d;exact⟨M,h,(yE _).2 h'⟩).mono ?_
 rintro r S1 ⟨bh,gh,bu,H,U,rfl,l,v⟩;simp -dsimp only[go_sem];have x:xO n n H:=fun r b=>⟨fun j I Z=>by have:=(v.tri r b).1 j I om;rwa [gY b]at this,by have:=(v.tri r b).2;rwa [gY b]at this⟩
 have hz:∀r c,r<n->r<c->c<n+1->H r c=0:=fun r c b I Z=>by have:=(v.tri r b).1 c I Z;rwa [gY b]at this
 have J:∀i j,i<n->j<n->H i j=B i j:=by
  refine Cu x hT (fun c j s L=>by have:=v.red c j s L;rwa [gY s,gY s]at this) b fun y=>?_
  rw[Y y,<-yE (A:=A) (U:=kD) y,<-v.cut y];have e:∀i,i<n->∀c:iB,ay n (fun j=>qy n H U i j*c j)=ay n (fun j=>H i j*c j):=fun i d c=>aE fun j _=>by rw[gY d]
  exact⟨fun⟨c,s⟩=>⟨c,fun i d=>by rw[s i d,e i d]⟩,fun⟨c,s⟩=>⟨c,fun i d=>by rw[s i d,e i d]⟩⟩
 have N:∀i j,i<n->j<n+1->nb (H i j) (gg K (n+1) n+1):=fun i j d L=>v.bd.hn d L;generalize gg K (n+1) n+1=Kn at *;clear v W X Y b V q;have m:0<n:=om
 refine aH (fun O S=>∃c:Nat,c<=n/\dH S bh gh n (n+1) H/\O 4=.sl 1 bh 0 n/\O 7=.int .i64 c) (fun O S=>n-cj (O 7)) ?_ ?_
 .simp -dsimp only[go_sem];exact⟨0,om,l,rfl⟩
 .clear l;rintro O S ⟨c,s,l,o,p⟩;obtain⟨P,z,C⟩:=id l.outer;obtain⟨g2,u2,v2⟩:=id (l.row 0 m);have w:P 0=.sl 2 (gh 0) 0 (n+1):=C 0 m;have f:c<n+1:=om
  have t:=Kx n (n+1) c Kn H T G f N (fun i d Q=>hz i c d Q f) (fun h=>by have:=(x c h).2;omega)
  by_cases g:c<n
  .simp -dsimp only[go_sem,aa,o,p,z,w,f,m,show((0:Int)<(n:Int)) by omega,kd]
   refine t.spec (fI.mat l (fI.same fI.nil)) ?_;rw[(om:min c n=c)]
   simp -dsimp only[go_sem,o,p,w,g,f,aP (om:c<1000000),cj]
   exact⟨⟨c+1,om,l,rfl⟩,om⟩
  .obtain rfl:c=n:=om
   simp -dsimp only[go_sem,aa,o,p,z,w,f,m,show((0:Int)<(c:Int)) by omega,kd]
   refine t.spec (fI.mat l (fI.same fI.nil)) ?_;rw[(om:min c c=c)]
   simp -dsimp only[go_sem,o,p,w,f,kd,OP,show(((c:Nat):Int)==0)=false by simp;omega]
   have u:CutM S bh gh c (c+1) 0 H:=⟨l.outer.congr fun r _=>by simp,l.row⟩
   have R:∀r,r<c->bh≠gh r:=fun r b=>l.outer_ne b;clear l z C u2 v2 w;refine aH (fun O S=>∃i:Nat,i<=c/\CutM S bh gh c (c+1) i H/\O 4=.sl 1 bh 0 c/\O 7=.int .i64 c/\O 36=.int .i64 c/\O 37=.int .i64 i) (fun O S=>c-cj (O 37)) ?_ ?_
   .simp -dsimp only[go_sem,o,p];exact⟨0,om,u,rfl⟩
   .clear u o p;rintro O S ⟨i,d,u,o,p,D,E⟩;obtain⟨P,z,C⟩:=id u.outer;by_cases g:i<c
    .have w:P i=.sl 2 (gh i) 0 (c+1):=(C i g).trans sm
     obtain⟨g2,u2,v2⟩:=id (u.row i g);simp -dsimp only[go_sem,aa,o,p,D,E,g,z,w,aP (om:i<1000000),cj,iq,du]
     refine KD om ?_;simp -dsimp only[go_sem];refine⟨⟨i+1,om,⟨bM.here fun a F=>?_,fun a F=>bM.upd (u.row a F) (aj (R a F)) _⟩,rfl⟩,om⟩
     simp only[bW];by_cases e:a=i
     .rw[ai e,e,ai om]
     .rw[af e,C a F];dsimp only;by_cases e2:a<i
      .rw[ai e2,ai om]
      .rw[af e2,af om]
    .obtain rfl:i=c:=om
     simp -dsimp only[go_sem,aa,o,p,D,E,g];refine VR.tup2 (VR.sl (u.outer.congr (g':=fun r=>.sl 2 (gh r) 0 i) fun r b=>by simp[b]) om fun r b=>?_) (VR.mf rfl)
     rw[aD];refine VR.sl ((u.row r b).congr (g':=fun k=>.big (if k<i then B r k else H r k)) fun k _=>by
      by_cases e:k<i
      .simp only[e,aQ];rw[J r k b e]
      .simp only[e,aS]) om fun k hk=>?_
     rw[aD,ai hk];exact VR.mf rfl

def I7(n K:Nat)(A:aI)(l:1<=n)(m:n<=8)(o:gg K (n+1) n<=3000000000)(d:∀i,i<n->gg K (n+1) i+1<=536870912)(p:Bd (n+(n+1)) (n+1) K (qy n A kD))(q:∀i,i<n->∃M,M≠0/\fy n (n+1) A (gN M i)) :
  (∃B,xO n n B/\(∀c j,c<n->j<c->0<=B c j/\B c j<B c c)/\∀y,fy n n B y↔fy n (n+1) A y)∨cP 62 [aR n (n+1) A] St.none (fun _ _=>False):=by
 by_cases k:∃B,xO n n B/\(∀c j,c<n->j<c->0<=B c j/\B c j<B c c)/\∀y,fy n n B y↔fy n (n+1) A y
 .exact bF k
 refine bH (i9 func62 ntmps62 results62 ?_);simp -dsimp only[go_sem,aa];refine(u9 n (n+1) K A l m om om o d p fun i a=>by
  obtain⟨M,h,h'⟩:=q i a;exact⟨M,h,(yE _).2 h'⟩).mono ?_
 rintro r S1 ⟨bh,gh,bu,H,U,rfl,u,f⟩;refine absurd ⟨H,fun r g=>⟨fun j s v=>?_,?_⟩,fun c j b t=>?_,fun y=>?_⟩ k
 .have:=(f.tri r g).1 j s om;rwa [gY g]at this
 .have:=(f.tri r g).2;rwa [gY g]at this
 .have:=f.red c j b t;rwa [gY b,gY b]at this
 .rw[<-yE (A:=A) (U:=kD) y,<-f.cut y];have e:∀i,i<n->∀c:iB,ay n (fun j=>qy n H U i j*c j)=ay n (fun j=>H i j*c j):=fun i a c=>aE fun j _=>by rw[gY a]
  exact⟨fun⟨c,b⟩=>⟨c,fun i a=>by rw[b i a,e i a]⟩,fun⟨c,b⟩=>⟨c,fun i a=>by rw[b i a,e i a]⟩⟩
def J2{a:Nat}(f:sH p)(c:0<a)(j:a<p):(bz a p).1=1:=by
 obtain⟨g,i⟩:=D4 p a p (ae p);have d:=(AA p a p (ae p) (bF c)).1;have b:=jz.2 g;have e:=jz.2 i;rw[fN]at b e;rcases f.1.div e with h|h
 .omega
 .rw[h]at b;have:=BK c b;omega
def yl(a p:Nat)(k:sH p)(l:0<a)(A:a<p):PF 61 [.int .i64 a,.int .i64 p] (.tup [.int .i64 ((bz a p).2.1%p),.bool true]):=by
 have n:=p6 k;refine iH func61 ntmps61 results61 ?_;simp -dsimp only[go_sem,aa];refine(K8 a p om om).call ?_;rw[J2 k l A];simp -dsimp only[go_sem,show((1:Int) != 1)=false from rfl];refine aH (fun O S=>∃(x y:Nat) (u na b nb:Int),L2 a p x y u b na nb/\O 1=.int .i64 p/\O 6=.int .i64 x/\O 7=.int .i64 y/\O 8=.int .i64 u/\O 9=.int .i64 na) (fun O S=>cj (O 7)) ?_ ?_
 .simp -dsimp only[go_sem];exact⟨a,p,1,0,0,1,L2.init (bF l),rfl,rfl,rfl,rfl⟩
 .rintro O S ⟨x,y,u,na,b,nb,c,o,r,s,t,v⟩;have B:=c.lx;have C:=c.ly;have D:=c.la;have w:=c.lna;by_cases e:y=0
  .subst e;have E:=c.fin;simp -dsimp only[go_sem,aa,o,r,s,t,v,show(((0:Nat):Int) != 0)=false from rfl];refine(Em (a:=u) (m:=(p:Int)) om om).call ?_;simp -dsimp only[go_sem];rw[E];exact VR.tup2 (VR.mf rfl) (VR.mf rfl)
  .have z:=c.step e;have f:(((y:Nat):Int) != 0)=true:=by simp;omega
   have d:¬(((y:Nat):Int)=0):=om
   have F:Int.tdiv (x:Int) (y:Int)=((x/y:Nat):Int):=(Vn x y).symm;have g:=dj x (gO e);have G:=gK x y;have h:=dd x y;have H:=z.lna;have i:=(pZ (q:=((x/y:Nat):Int)) (cA _) c.ga).1;rw[fN]at i;have I:(((x/y:Nat):Int)*na).natAbs=x/y*na.natAbs:=by rw[cJ,fN]
   have J:IntKind.i64.wrap ((x/y:Nat):Int)=((x/y:Nat):Int):=by
    have K:(0:Int)<=((x/y:Nat):Int):=cA _;have L:((x/y:Nat):Int)<=x:=kH.2 G;generalize ((x/y:Nat):Int)=zz at *;exact i64_in om om
   have j:((x/y:Nat):Int)*(y:Int)=((x:Nat):Int)-((x%y:Nat):Int):=by
    have M:((y*(x/y)+x%y:Nat):Int)=(x:Int):=by rw[h]
    rw[eB,bD,cX]at M;omega
   have N:IntKind.i64.wrap (((x/y:Nat):Int)*(y:Int))=((x:Nat):Int)-((x%y:Nat):Int):=by rw[j];exact i64_in om om
   have P:IntKind.i64.wrap (((x:Nat):Int)-(((x:Nat):Int)-((x%y:Nat):Int)))=((x%y:Nat):Int):=by
    rw[show((x:Nat):Int)-(((x:Nat):Int)-((x%y:Nat):Int))=((x%y:Nat):Int) by omega];exact i64_in om om
   have Q:IntKind.i64.wrap (((x/y:Nat):Int)*na)=((x/y:Nat):Int)*na:=i64_in om om;have R:IntKind.i64.wrap (u-((x/y:Nat):Int)*na)=u-((x/y:Nat):Int)*na:=i64_in om om;simp -dsimp only[go_sem,aa,o,r,s,t,v,f,d,F,J,N,P,Q,R,cj];exact⟨⟨y,x%y,na,u-((x/y:Nat):Int)*na,nb,_,z,rfl,rfl,rfl,rfl⟩,g⟩
def Tl{a:Nat}(b:sH p)(c:0<a)(d:a<p):(p:Int)∣(bz a p).2.1%p*a-1:=by
 have e:=D3 p a p (ae p);rw[J2 b c d]at e;have f:=dC (bz a p).2.1 p;generalize (bz a p).2.1=u at *;generalize (bz a p).2.2=w at *;refine⟨-(u/p)*a-w,?_⟩;generalize u/(p:Int)=q at *;generalize u%(p:Int)=r at *;subst f
 grind

def DZ(h:a≠b):(lG a b != 0)=true:=by
 unfold lG;split
 .simp
 .split
  .simp
  .exfalso;omega
def Bl(n:Nat)(A:aI)(u:Nat)(β:Bool)(p:n<=16)(v:∀i j,i<n->j<n->nb (A i j) u)(x:u<=10000000)(hβ:β=true↔∀a b,a<n->b<n->A a b=A b a):PF 116 [aR n n A] (.bool β):=by
 refine iH func116 ntmps116 results116 ?_;simp -dsimp only[go_sem,aR,bB];refine aH (fun O S=>∃i:Nat,i<=n/\(∀a b,a<i->b<a->A a b=A b a)/\O 0=aR n n A/\O 6=.int .i64 n/\O 7=.int .i64 i) (fun O S=>n-cj (O 7)) ?_ ?_
 .simp -dsimp only[go_sem,aR,bB];exact⟨0,om,fun a b q p=>om,rfl⟩
 .rintro O S ⟨i,y,g,m,k,l⟩;by_cases c:i<n
  .simp -dsimp only[go_sem,aR,bB,k,l,c];refine aH (fun O S=>∃j:Nat,j<=i/\(∀b,b<j->A i b=A b i)/\O 0=aR n n A/\O 3=.int .i64 i/\O 4=.int .i64 j/\O 6=.int .i64 n/\O 7=.int .i64 i) (fun O S=>i-cj (O 4)) ?_ ?_
   .simp -dsimp only[go_sem,aR,bB,m,k,l];exact⟨0,om,fun b q=>om,rfl⟩
   .rintro O S ⟨j,z,f,m,s,t,k,l⟩;by_cases o:j<i
    .have d:j<n:=om
     simp -dsimp only[go_sem,aR,bB,m,s,t,k,l,o];refine bE 16 kr ?_
     simp -dsimp only[go_sem,aa,aR,bB,m,s,t,k,l,c,d];refine⟨_,(ni (v i j c d) (v j i d c) om).pure',?_⟩;by_cases r:A i j=A j i
     .have w:lG (A i j) (A j i)=0:=by rw[r];exact rV _
      rw[w];simp -dsimp only[go_sem,aP (om:j<1000000),cj]
      refine⟨⟨j+1,om,fun b q=>?_,rfl⟩,om⟩
      by_cases e:b=j
      .rw[e];exact r
      .exact f b om
     .simp -dsimp only[go_sem,DZ r];rw[cL hβ fun h=>r (h i j c d)];exact VR.mf rfl
    .simp -dsimp only[go_sem,aR,bB,m,s,t,k,l,o,aP (om:i<1000000),cj]
     refine⟨⟨i+1,om,fun a b q p=>?_,rfl⟩,om⟩
     by_cases e:a=i
     .rw[e];exact f b om
     .exact g a b om p
  .simp -dsimp only[go_sem,aR,bB,k,l,c];rw[hβ.2 fun a b q p=>by
    rcases dY a b with h|h|h
    .exact(g b a om h).symm
    .rw[h]
    .exact g a b om h]
   exact VR.mf rfl
def Gl(n:Nat)(A:aI)(c:Nat)(d:1<=n)(h:n<=8)(e:∀i j,i<n->j<n->nb (A i j) c)(f:c<=10000000)(g:¬∀a b,a<n->b<n->A a b=A b a):PF 56 [aR n n A] (.int .i64 4):=by
 refine iH func56 ntmps56 U4 ?_;simp -dsimp only[go_sem,aa];refine(pj n A d om).call ?_;simp -dsimp only[go_sem,aa,(om:¬((8:Int)<n))]
 refine(Bl n A c false om e f (by simpa using g)).call ?_
 simp -dsimp only[go_sem,aa];exact VR.mf rfl
def Bp(n:Nat)(A:aI)(v:Nat)(β:Bool)(B:1<=n)(G:n<=8)(C:∀i j,i<n->j<n->nb (A i j) v)(H:v<=500000)(hβ:β=true↔jX A n):PF 58 [aR n n A] (.bool β):=by
 refine iH func58 ntmps58 results58 ?_;simp -dsimp only[go_sem,aa];refine(sX n A v B om C om).call ?_;simp -dsimp only[go_sem,aR];refine aH (fun O S=>∃i:Nat,i<=n/\jX A i/\O 0=aR n n A/\O 3=bB n (fun k=>det (k+1) A)/\O 13=.int .i64 n/\O 14=.int .i64 i) (fun O S=>n-cj (O 14)) ?_ ?_
 .simp -dsimp only[go_sem,aR,bB];exact⟨0,om,⟨fun r D=>om,fun r _ D=>om⟩,rfl⟩
 .rintro O S ⟨i,I,p,g,l,a,c⟩;by_cases d:i<n
  .simp -dsimp only[go_sem,a,c,d];refine aH (fun O S=>∃j:Nat,j<=i/\(∀b,b<j->iF A i b)/\O 0=aR n n A/\O 3=bB n (fun k=>det (k+1) A)/\O 5=.int .i64 i/\O 6=.int .i64 j/\O 13=.int .i64 n/\O 14=.int .i64 i) (fun O S=>n-cj (O 6)) ?_ ?_
   .simp -dsimp only[go_sem,g,l,a,c];exact⟨0,om,fun b B=>om,rfl⟩
   .clear g l a c;rintro O S ⟨j,J,o,g,l,q,w,a,c⟩;by_cases m:j<i
    .simp -dsimp only[go_sem,aa,g,l,q,w,a,c,m];refine(Gq n i j A v m d om C om).call ?_;by_cases z:iF A i j
     .have s:decide (2*((kK A i j).natAbs:Int)<=det (j+1) A)=true:=by simpa [iF]using z
      rw[s];simp -dsimp only[go_sem,g,l,q,w,a,c,aP (om:j<1000000),cj]
      refine⟨⟨j+1,om,fun b B=>?_,rfl⟩,om⟩
      by_cases e:b=j
      .rw[e];exact z
      .exact o b om
     .have s:decide (2*((kK A i j).natAbs:Int)<=det (j+1) A)=false:=by simpa [iF]using z
      rw[s];simp -dsimp only[go_sem,g,l,q,w,a,c];rw[cL hβ fun h=>z (h.1 i d j m)];exact VR.mf rfl
    .have E:∀b,b<i->iF A i b:=fun b F=>o b om;have x:(0<i->iC A i)->jX A (i+1):=fun u=>⟨fun r D b F=>by
      by_cases e:r=i
      .subst e;exact E b F
      .exact p.1 r om b F,fun r y D=>by
      by_cases e:r=i
      .subst e;exact u y
      .exact p.2 r y om⟩
     by_cases y:0<i
     .have f:(0:Int)<(i:Int):=om
      simp -dsimp only[go_sem,aa,g,l,q,w,m,f];refine(CR n i A v y d om C om).call ?_;by_cases u:iC A i
      .have t:decide (3*(det i A*det i A)<=4*(det (i-1) A*det (i+1) A+kK A i (i-1)*kK A i (i-1)))=true:=by simpa [iC]using u
       rw[t];simp -dsimp only[go_sem,g,l,q,a,c,f,aP (om:i<1000000),cj]
       exact⟨⟨i+1,om,x fun _=>u,rfl⟩,om⟩
      .have t:decide (3*(det i A*det i A)<=4*(det (i-1) A*det (i+1) A+kK A i (i-1)*kK A i (i-1)))=false:=by simpa [iC]using u
       rw[t];simp -dsimp only[go_sem,g,l,q,a,c,f];rw[cL hβ fun h=>u (h.2 i y d)];exact VR.mf rfl
     .obtain rfl:i=0:=om
      simp -dsimp only[go_sem,aa,g,l,q,w,a,c,show((0:Nat):Int)=0 from rfl,OP,show IntKind.i64.wrap ((0:Int)+1)=1 from rfl,cj];exact⟨⟨1,om,x (fun h=>om),rfl⟩,by simp;omega⟩
  .obtain rfl:i=n:=om
   simp -dsimp only[go_sem,a,c,d];rw[hβ.2 p];exact VR.mf rfl
def qD(n:Nat)(H:aI)(β:Bool)(a:1<=n)(p:n<=8)(o:∀i j,i<n->j<n->-9223372036854775808<=H i j/\H i j<=9223372036854775807)(hβ:β=true↔(∀i j,i<n->j<n->H i j=H j i)/\ti H n):PF 21 [az n n H] (.bool β):=by
 have c:∀i j,i<n->j<n->nb (H i j) 64:=fun i j l m=>by have:=o i j l m;unfold nb;omega
 refine iH func21 ntmps21 results21 ?_;simp -dsimp only[go_sem,aa];refine(qt _ n n H a om a om (fun i j l m=>by have:=o i j l m;unfold qN;omega)).mono ?_
 rintro _ S1 ⟨b,g,rfl,d⟩;simp -dsimp only[go_sem,aa];by_cases e:∀i j,i<n->j<n->H i j=H j i
 .obtain⟨β1,hβ1⟩:=gR (∀k,k<=n->0<det k H);refine(oG n H 64 a om c om e β1 hβ1).spec (fI.cons d.vr.va fI.nil) ?_
  cases β1 with
  | false =>
   simp -dsimp only[go_sem,aa];rw[cL hβ fun h=>by have:=hβ1.2 h.2.pos;cases this]
   exact VR.mf rfl
  | true =>
  simp -dsimp only[go_sem,aa];refine(Cc n H 64 a om c om).spec (fI.cons d.vr.va fI.nil) ?_;by_cases f:det n H<=10000
  .rw[show decide (det n H<=10000)=true by simpa using f]
   simp -dsimp only[go_sem,aa];obtain⟨β2,hβ2⟩:=gR (jX H n);refine(Bp n H 64 β2 a om c om hβ2).spec (fI.cons d.vr.va fI.nil) ?_;simp -dsimp only[go_sem];rw[show β=β2 by
    cases β2 with
    | false=>exact cL hβ fun h=>by have:=hβ2.2 h.2.rows;cases this
    | true=>exact hβ.2 ⟨e,hβ1.1 rfl,f,hβ2.1 rfl⟩]
   exact VR.mf rfl
  .rw[show decide (det n H<=10000)=false by simpa using f]
   simp -dsimp only[go_sem,aa];rw[cL hβ fun h=>f h.2.dt];exact VR.mf rfl
 .refine(Gl n H 64 a om c om e).spec (fI.cons d.vr.va fI.nil) ?_;simp -dsimp only[go_sem,aa];rw[cL hβ fun h=>e h.1];exact VR.mf rfl

def AE(n:Nat)(p:Int)(H:aI)(b:1<=n)(c:n<=8)(d:∀i j,i<n->j<n->-9223372036854775808<=H i j/\H i j<=9223372036854775807):PF 74 [az n n H,.int .i64 p,.bool false] (.int .i64 (qw n H p)):=by
 refine iH func74 ntmps74 results74 ?_;obtain⟨β,hβ⟩:=gR (gk n H);simp -dsimp only[go_sem,aa];refine(qD n H β b c d (hβ.trans (gk.iff b c))).call ?_
 cases β with
 | false =>
  simp -dsimp only[go_sem,aa];rw[JQ fun h=>by have:=hβ.2 h;cases this]
  exact VR.mf rfl
 | true =>
 have a:=hβ.1 rfl;obtain⟨γ,hγ⟩:=gR (qL p/\¬det n H%p=0);simp -dsimp only[go_sem,aa];refine(Ep n p H b c a.ent a.det γ hγ).call ?_
 cases γ with
 | false =>
  simp -dsimp only[go_sem];rw[Ag a fun h=>by have:=hγ.2 h;cases this]
  exact VR.mf rfl
 | true =>
  simp -dsimp only[go_sem];rw[yG a (hγ.1 rfl)];exact VR.mf rfl
def LB{v:Nat->Int}(a:0<n)(d:n<=1000)
  (c:∀b,S b=ab->K (.sl 1 b 0 n) (S.upd b ⟨2,1,n,fun i=>.int .i64 (v i)⟩)):fU 29 29 .nil (.lst 1 n (fun i=>.int .i64 (v i))) S K:=by
 unfold fU;rw[show dJ 29=some 2 from rfl];exact⟨rfl,rfl,rfl,a,fun j e=>by simp[eF],om,c⟩
def SN(S:St)(c i:Nat)(B:Int):Nat:=match S c with
 | some X=>match X.g i with
  | .int _ z=>(B-z).toNat
  | _=>0
 | ab=>0
def JK{c:Nat}{w:Nat->Int}(h:bM S c 2 1 n (fun k=>.int .i64 (w k)))(a:i<n):SN S c i B=(B-w i).toNat:=by
 obtain⟨g,b,d⟩:=h;unfold SN;rw[b];show(match g i with|.int _ z=>(B-z).toNat|_=>0)=_
 rw[d i a]
def Gt(S:St)(n p:Nat)(H:aI)(v:Nat->Nat)(B:gk n H)(X:lp (det n H) p)(M:sH p)(C:lX n p H v) :
  cP 33 [az n n H,.int .i64 p,aK n (fun k=>v k)] S (fun r S'=>∃(c:Nat) (l:iB),r=.tup [.sl 1 c 0 n,.int .i64 0]/\bM S' c 2 1 n (fun k=>.int .i64 (l k))/\(∀i,i<n->(p:Int)∣l i-(v i:Nat))/\(∀i,i<n->0<=l i/\l i<=100000000)/\(p:Int)*p∣lv n H l l/\ft S S'):=by
 have Y:=B.one;have hn:=B.eight;have f:=M.2;have hpp:(p:Int)*p<=99460729/\9<=(p:Int)*p:=by
  rw[<-bD];have a:=a9 f.2 f.2;have b:=a9 f.1 f.1;omega
 have wpp:IntKind.i64.wrap ((p:Int)*p)=((p*p:Nat):Int):=by rw[bD];exact i64_in om om
 obtain⟨piv,G,I,P⟩:=Hn B X M C;obtain⟨t,Q,ht1,R⟩:=PN B M C G I;have T:∀i,i<n->(0:Int)<=(v i:Nat)/\((v i:Nat):Int)<=9972:=fun i D=>by have:=C.lt i D;omega
 refine i9 func33 ntmps33 U5 ?_;simp -dsimp only[go_sem,aa];refine(AE n p H Y hn (fun i j D hj=>by have:=B.ent i j D hj;omega)).call ?_
 rw[yG B ⟨qL.of M,X.2.2.2⟩];simp -dsimp only[go_sem,aa];refine(sn n p H (fun k=>v k) om om om (fun i D=>by have:=C.lt i D;omega)).call ?_
 have hb:(iO (fun k=>(v k:Int)) n==1&&eX n H (fun k=>(v k:Int)) n%(p:Int)==0)=true:=by simp only[C.lead,C.norm];rfl
 simp -dsimp only[go_sem,hb];refine dI (fun O S'=>∃i:Nat,i<=piv/\S=S'/\O 0=az n n H/\O 1=.int .i64 p/\O 2=aK n (fun k=>v k)/\O 9=.int .i64 i) (fun O S=>n-cj (O 9)) ?_ ?_
 .simp -dsimp only[go_sem];exact⟨0,om,rfl⟩
 rintro Q' J O _ ⟨i,D,rfl,m,o,E,s⟩;have d:i<n:=om
 simp -dsimp only[go_sem,aa,m,o,E,s];refine(Af n p H (fun k=>v k) om om om).call ?_;by_cases U:i<piv
 .have x:=P i U;unfold qH at x;simp -dsimp only[go_sem,m,o,E,s,aK,d,x,dp,aP (om:i<1000000),cj]
  exact⟨⟨i+1,om,rfl⟩,om⟩
 obtain rfl:i=piv:=om
 have V:((ay n fun j=>H i j*((v j:Nat):Int))%(p:Int)==0)=false:=by
  have:=I;unfold qH at this;simpa using this
 simp -dsimp only[go_sem,m,o,E,s,aK,d,V];rw[J];simp -dsimp only[go_sem,E];refine LB om om ?_;intro c Z;simp -dsimp only[go_sem,E];have hlv:∀(j:Int) k,k<n->iI v p i j k=if k=i then((v k:Nat):Int)+p*j else v k:=fun j k _=>rfl
 have y:∀j:Int,0<=j->j<=t->∀k,k<n->0<=iI v p i j k/\iI v p i j k<=99470701:=fun j h0 Y k F=>by
  have a:0<=(p:Int)*j/\(p:Int)*j<=99460729:=by
   have:=cN (show(p:Int)<=9973 by omega) (om:j<=9973) h0 om
   exact⟨cK om h0,om⟩
  have:=T k F;unfold iI;split<;>omega
 refine dI (fun O S'=>∃j:Int,0<=j/\j<=t/\O 0=az n n H/\O 1=.int .i64 p/\O 9=.int .i64 i/\O 10=.sl 1 c 0 n/\bM S' c 2 1 n (fun k=>.int .i64 (iI v p i j k))/\ft S S') (fun _ S'=>SN S' c i (v i+p*t)) ?_ ?_
 .simp -dsimp only[go_sem,m,o,s];exact⟨0,om,Q,bM.here fun k F=>by unfold iI;simp,(ft.refl S).upd Z _⟩
 clear m o E s J;rintro Q2 W O S' ⟨j,K,z,m,o,s,q,N,hE⟩;simp -dsimp only[go_sem,aa,m,o,q,wpp];refine(Cq n (p*p) H (iI v p i j) om om om).spec (fI.three (VA.refl _ _) (qr.vr (show qr S' c n (iI v p i j)from N)).va (VA.refl _ _)) ?_;by_cases x:eX n H (iI v p i j) n%((p*p:Nat):Int)=0
 .have A:(eX n H (iI v p i j) n%((p*p:Nat):Int) != 0)=false:=by simpa using x
  simp -dsimp only[go_sem,aa,m,o,s,q,A];rw[W];simp -dsimp only[go_sem,q];refine⟨c,rfl,iI v p i j,N,fun k _=>we k,fun k F=>by have:=y j K z k F;omega,?_,hE⟩
  have:=eg x
  rwa [bD]at this
 .have A:(eX n H (iI v p i j) n%((p*p:Nat):Int) != 0)=true:=by simpa using x
  have hjt:j<t:=by
   rcases UQ z with h|h
   .exact h
   .subst h;rw[bD]at x;exact absurd (dw R) x
  obtain⟨g,u,w⟩:=id N;have x1:g i=.int .i64 (iI v p i j i):=w i d;have hb1:=y j K z i d;have wz:IntKind.i64.wrap (iI v p i j i+p)=iI v p i j i+p:=i64_in om om;simp -dsimp only[go_sem,aa,m,o,s,q,A,u,x1,d,wz];have L:bM (S'.upd c ⟨2,1,n,bW g i (.int .i64 (iI v p i j i+p))⟩) c 2 1 n (fun k=>.int .i64 (iI v p i (j+1) k)):=bM.here fun k F=>by
   simp only[bW];by_cases e:k=i
   .subst e;rw[ai rfl];show AV.int IntKind.i64 (iI v p k j k+p)=AV.int IntKind.i64 (iI v p k (j+1) k);unfold iI;rw[ai rfl,ai rfl];congr 1;grind
   .rw[af e,w k F];show AV.int IntKind.i64 (iI v p i j k)=AV.int IntKind.i64 (iI v p i (j+1) k);unfold iI;rw[af e,af e]
  refine⟨⟨j+1,om,om,L,hE.upd Z _⟩,?_⟩
  rw[JK L d,JK N d];unfold iI;rw[ai rfl,ai rfl];have:=bV (om:j+1<=t) (show(0:Int)<=p by omega)
  have e5:(p:Int)*(j+1)=p*j+p:=by grind
  omega

def Nd{piv:Nat}{w:iB}(c:0<p)(a:piv<n)(b:(p:Int)∣u*w piv-1)(y:iB):fy n (n+1) (Bg n p piv (fun j=>w j*u%p) l) y↔OQ n p w l y:=by
 refine JI (p:=(p:Int)) om a b (fun j _ _=>?_) y;have e:=dC (w j*u) p;obtain⟨t,d⟩:=b;generalize w j*u%(p:Int)=r at *;generalize hk:w j*u/(p:Int)=k at *;refine⟨w j*t-k*w piv,?_⟩;have:r=w j*u-p*k:=om
 subst this
 grind
def Nc{w:iB}(i:Nat):OQ n p w l (gN ((p:Int)*p) i):=by
 refine⟨0,gN p i,fun k _=>?_,?_⟩
 .unfold gN;split<;>simp
 .refine jt fun k _=>di ?_;unfold gN;split
  .exact jf _
  .exact je _
def Ii(n p piv:Nat)(q l:iB)(j:Nat):aI:=fun a c=>if c=n then l a else if c<j then ka p piv q a c else 0
def NB{piv:Nat}{q:iB}{a c:Nat}(b:c<n+1):Ii n p piv q l n a c=Bg n p piv q l a c:=by
 unfold Ii Bg;by_cases e:c=n
 .rw[ai e,af om]
 .rw[af e,ai om,ai om]
def SZ:∀j,j<9->gg 27 (j+1) j<=3000000000/\∀i,i<j->gg 27 (j+1) i+1<=536870912:=by decide +kernel
def Ey(S:St)(n p:Nat)(H:aI)(v:Nat->Nat)(hF:gk n H)(hg:lp (det n H) p)(W:sH p)(hL:lX n p H v) :
  cP 24 [az n n H,.int .i64 p,aK n (fun k=>v k)] S (fun r S'=>∃b g B S1,r=.tup [.sl 1 b 0 n,.int .i64 0]/\EJ n p H v B/\ft S S1/\jd S1 S' b g n n B):=by
 have h1:=hF.one;have hn8:=hF.eight;have hp17:=p6 W;have hpp:=p6z W;obtain⟨piv,T,hs0,hsz⟩:=Hn hF hg W hL;refine i9 func24 ntmps24 results24 ?_;simp -dsimp only[go_sem,aa];refine(Gt S n p H v hF hg W hL).mono ?_;rintro _ S1 ⟨c,l,rfl,hC,hl,hlb,hln,hE1⟩;simp -dsimp only[go_sem,aa,aY];refine(Af n p H (fun k=>v k) om om om).call ?_;have X:∀i,(ay n fun j=>H i j*((v j:Nat):Int))%(p:Int)=wL n H p v i:=fun i=>(C6 n H p (fun k=>v k) i).symm;have I:wL n H p v piv≠0:=by rw[<-X];exact hs0
 have U:∀i,i<piv->wL n H p v i=0:=fun i hi=>by rw[<-X];exact hsz i hi
 have t:∀i,0<=wL n H p v i/\wL n H p v i<p:=fun i=>tC (n:=n) (H:=H) (p:=(p:Int)) (v:=fun k=>((v k:Nat):Int)) om i;simp only[X];have Y:=Nd (n:=n) (p:=p) (piv:=piv) (w:=wL n H p v) (l:=l) (u:=(bz (wL n H p v piv).toNat p).2.1%p) om T (by
  have h2:=Tl W (a:=(wL n H p v piv).toNat) (by have:=t piv;omega) (by have:=t piv;omega)
  rwa [cY (t piv).1]at h2)
 have hNB:∀B,xO n n B->(∀c j,c<n->j<c->0<=B c j/\B c j<B c c)->(∀y,fy n n B y↔OQ n p (wL n H p v) l y)->EJ n p H v B:=fun B b1 b2 b3=>⟨b1,b2,⟨piv,T,I⟩,l,hl,hln,b3⟩;generalize wL n H p v=w at I U t Y hNB ⊢;have hrec:PF 61 [.int .i64 (w piv),.int .i64 p] (.tup [.int .i64 ((bz (w piv).toNat p).2.1%p),.bool true]):=by
  have h2:=yl (w piv).toNat p W (by have:=t piv;omega) (by have:=t piv;omega)
  rwa [cY (t piv).1]at h2
 have hur:0<=(bz (w piv).toNat p).2.1%(p:Int)/\(bz (w piv).toNat p).2.1%(p:Int)<p:=⟨aW _ om,aV _ om⟩;generalize hu:(bz (w piv).toNat p).2.1%(p:Int)=u at *;have hqr:∀j,0<=w j*u%(p:Int)/\w j*u%(p:Int)<p:=fun j=>⟨aW _ om,aV _ om⟩;simp -dsimp only[go_sem];refine aH (fun O S'=>∃i:Nat,i<=piv/\S1=S'/\O 1=.int .i64 p/\O 8=.sl 1 c 0 n/\O 10=.int .i64 n/\O 11=aK n w/\O 12=.int .i64 i) (fun O S=>n-cj (O 12)) ?_ ?_
 .simp -dsimp only[go_sem,aK];exact⟨0,om,rfl⟩
 rintro O _ ⟨i,hi,rfl,D,Z,d,f,m⟩;have o:i<n:=om
 by_cases hip:i<piv
 .simp -dsimp only[go_sem,aa,aK,D,Z,d,f,m,o,U i hip,dp,aP (om:i<1000000),cj]
  exact⟨⟨i+1,om,rfl⟩,om⟩
 obtain rfl:i=piv:=om
 simp -dsimp only[go_sem,aa,aK,D,Z,d,f,m,o,show(w i==0)=false by simpa using I]
 refine hrec.call ?_;simp -dsimp only[go_sem,aK,D,d,f,m]
 repeat refine an ?_
 refine aF.intro fun bb fb=>?_;simp -dsimp only[go_sem];refine aH (fun O S'=>∃a:Nat,a<=n/\O 1=.int .i64 p/\O 8=.sl 1 c 0 n/\O 10=.int .i64 n/\O 11=aK n w/\O 12=.int .i64 i/\O 13=.int .i64 u/\O 15=.sl 1 bb 0 n/\O 57=.int .i64 n/\O 58=.int .i64 a/\∃g',fz 29 2 1 S1 S' bb g' n (n+1) a (fun r k=>.int .i64 (Ii n p i (fun j=>w j*u%p) l 0 r k))) (fun O S=>n-cj (O 58)) ?_ ?_
 .simp -dsimp only[go_sem,aK,D,Z,d,f,m];exact⟨0,om,rfl,fun _=>0,fz.init fb (fun _ _=>rfl) _ _⟩
 clear D Z d f m;rintro O S' ⟨a,ha,D,Z,d,f,m,x,q,K,L,g',E⟩;by_cases C:a<n
 .obtain⟨g4,u4,v4⟩:=id E.outer;have wn:IntKind.i64.wrap ((n:Int)+1)=((n+1:Nat):Int):=dW om om;simp -dsimp only[go_sem,aa,d,q,K,L,C,wn]
  repeat refine an ?_
  refine aF.intro fun bd fd=>?_;have hdb:bb≠bd:=bM.fresh E.outer fd;simp -dsimp only[go_sem,C,u4,hdb];have F:=E.push dc fd u4 (fun _=>.int .i64 0)
  generalize hgg:(fun r=>if r=a then bd else g' r)=gg at F
  generalize (S'.upd bd ⟨2,1,n+1,fun _=>.int .i64 0⟩).upd bb ⟨29,1,n,bW g4 a (.sl 1 bd 0 (n+1))⟩=S2 at F ⊢;clear E u4 v4 fd hdb hgg;obtain⟨g5,u5,v5⟩:=id F.outer;obtain⟨g6,N,v6⟩:=id (F.row a om);obtain⟨g7,u7,v7⟩:=id (F.ext.has hC);have x5:g5 a=.sl 1 (gg a) 0 (n+1):=(v5 a C).trans (ai om);have x7:g7 a=.int .i64 (l a):=v7 a C;refine bE 10 kr ?_
  simp -dsimp only[go_sem,aa,D,Z,d,f,m,x,q,K,L,C,u5,x5,N,u7,x7,aP (om:a<1000000),cj]
  repeat refine an ?_
  refine⟨⟨a+1,om,rfl,gg,(F.put dc (om:a<a+1) N n (.int .i64 (l a))).congr fun r k _ _=>?_⟩,om⟩
  unfold Ii;by_cases e:r=a/\k=n
  .rw[ai e,ai e.2,e.1]
  .rw[af e];by_cases z:r=a
   .rw[ai z,af (fun h=>e ⟨z,h⟩),af om]
   .rw[af z]
 obtain rfl:a=n:=om
 have hwpp:IntKind.i64.wrap ((p:Int)*p)=(p:Int)*p:=i64_in om om;have hwn:IntKind.i64.wrap (0-(p:Int))=-(p:Int):=by rw[EN];exact i64_in om om
 have hp0:¬((p:Int)=0):=om
 simp -dsimp only[go_sem,aa,d,q,K,L,C];refine aH (fun O S'=>∃j:Nat,j<=a/\O 1=.int .i64 p/\O 10=.int .i64 a/\O 11=aK a w/\O 12=.int .i64 i/\O 13=.int .i64 u/\O 15=.sl 1 bb 0 a/\O 17=.int .i64 j/\∃g',fz 29 2 1 S1 S' bb g' a (a+1) a (fun r k=>.int .i64 (Ii a p i (fun j=>w j*u%p) l j r k))) (fun O S=>a-cj (O 17)) ?_ ?_
 .simp -dsimp only[go_sem,D,d,f,m,x,q];exact⟨0,om,rfl,g',E⟩
 clear D Z d f m x q K L E C;clear g' S' O;rintro O S' ⟨j,hj,D,d,f,m,x,q,P,g',E⟩;by_cases s:j<a
 .obtain⟨g5,u5,v5⟩:=id E.outer;obtain⟨g6,N,v6⟩:=id (E.row i o);have x5:g5 i=.sl 1 (g' i) 0 (a+1):=(v5 i o).trans (ai o);by_cases J:j=i
  .subst J;simp -dsimp only[go_sem,aa,D,d,f,m,x,q,P,s,dp,u5,x5,N,hwpp,(om:j<a+1),aP (om:j<1000000),cj]
   refine⟨⟨j+1,om,rfl,g',(E.put dc s N j (.int .i64 ((p:Int)*p))).congr fun r k _ _=>?_⟩,om⟩
   unfold Ii ka;by_cases e:r=j/\k=j
   .rw[ai e,af (om:¬k=a),ai (om:k<j+1),ai e.2,ai e.1]
   .rw[af e];by_cases z:k=a
    .rw[ai z,ai z]
    .rw[af z,af z];by_cases e3:k<j
     .rw[ai e3,ai (om:k<j+1)]
     .rw[af e3];by_cases e4:k=j
      .rw[ai (om:k<j+1),ai e4,af (fun h=>e ⟨h,e4⟩)]
      .rw[af (om:¬k<j+1)]
  .obtain⟨g8,u8,v8⟩:=id (E.row j s);have x8:g5 j=.sl 1 (g' j) 0 (a+1):=(v5 j s).trans (ai s);simp -dsimp only[go_sem,aa,D,d,f,m,x,q,P,s,show(((j:Nat):Int)==((i:Nat):Int))=false by simp;omega,u5,x8,u8,(om:j<a+1)]
   have Q:=E.put dc s u8 j (.int .i64 (p:Int))
   generalize S'.upd (g' j) ⟨2,1,a+1,bW g8 j (.int .i64 (p:Int))⟩=S2 at Q ⊢;clear u5 v5 N v6 x5 u8 v8 x8;obtain⟨g5,u5,v5⟩:=id Q.outer;obtain⟨g6,N,v6⟩:=id (Q.row i o);have x5:g5 i=.sl 1 (g' i) 0 (a+1):=(v5 i o).trans (ai o);have hwj:=t j;have hm1:=kZ (a:=w j) (b:=u) (A:=9973) (B:=9973) om om;have hm0:0<=w j*u:=cK hwj.1 hur.1;have w1:IntKind.i64.wrap (w j*u)=w j*u:=i64_in om om;have w2:Int.tmod (w j*u) (p:Int)=w j*u%(p:Int):=aL hm0;have hq:=hqr j;have w3:IntKind.i64.wrap (w j*u%(p:Int))=w j*u%(p:Int):=i64_in om om;have hm2:=kZ (a:=-(p:Int)) (b:=w j*u%(p:Int)) (A:=9973) (B:=9973) om om;have w4:IntKind.i64.wrap (-(p:Int)*(w j*u%(p:Int)))=-(p:Int)*(w j*u%(p:Int)):=i64_in om om;refine bE 17 kr ?_
   simp -dsimp only[go_sem,aa,D,d,f,m,x,q,P,aK,s,o,u5,x5,N,hwn,hp0,w1,w2,w4,(om:j<a+1),aP (om:j<1000000),cj]
   refine⟨⟨j+1,om,rfl,g',(Q.put dc o N j (.int .i64 (-(p:Int)*(w j*u%(p:Int))))).congr fun r k _ _=>?_⟩,om⟩
   unfold Ii ka;by_cases z:k=a
   .rw[af (om:¬(r=i/\k=j)),af (om:¬(r=j/\k=j)),ai z,ai z]
   .by_cases e4:k=j
    .subst e4;by_cases e5:r=i
     .have e7:¬i=k:=fun h=>J h.symm;simp[z,J,e5,e7,sd]
     .by_cases e6:r=k
      .simp[z,J,e6]
      .simp[z,J,e5,e6]
    .rw[af (fun h=>e4 h.2),af (fun h=>e4 h.2),af z,af z];by_cases e3:k<j
     .rw[ai e3,ai (om:k<j+1)]
     .rw[af e3,af (om:¬k<j+1)]
 .obtain rfl:j=a:=om
  have hN:=E.imat (A:=Bg j p i (fun j=>w j*u%p) l) (fun r k _ R=>by rw[NB R])
  have hsm:∀r k,r<j->k<j+1->(Bg j p i (fun j=>w j*u%p) l r k).natAbs<=100000000:=fun r k hr R=>DA om om (fun j _=>by have:=hqr j;omega) (fun a ha=>by have:=hlb a ha;omega) r k hr R
  generalize Bg j p i (fun j=>w j*u%p) l=G at *;simp -dsimp only[go_sem,aa,D,d,f,m,x,q,P,s];refine(Of_mf j (j+1) G h1 om om om (fun r k hr R=>by have:=hsm r k hr R;unfold qN;omega)).pf.spec (fI.one hN.1.vr.va) ?_
  simp -dsimp only[go_sem,aa];obtain⟨hK,V⟩:=SZ j om;have hb:Bd (j+(j+1)) (j+1) 27 (qy j G kD):=fun r k hr R=>by
   unfold qy;split
   .rename_i hr2;have:=hsm r k hr2 R;show(G r k).natAbs<=2^27;omega
   .unfold kD;split<;>simp
  have hf:∀r,r<j->∃M,M≠0/\fy j (j+1) G (gN M r):=fun r _=>⟨(p:Int)*p,om,(Y _).2 (Nc r)⟩
  rcases I7 j 27 G h1 om hK V hb hf with⟨B,b1,b2,b3⟩|hno
  .have hNb:=hNB B b1 b2 fun y=>(b3 y).trans (Y y);refine(I6 j 27 G B h1 om hK V hb hf b1 b2 b3).call ?_;simp -dsimp only[go_sem,aa];refine(wG j j B h1 om h1 om (fun r k hr R=>by have:=hNb.ent W hr R;unfold jk;omega) _ _ (cS _ _)).mono ?_
   rintro _ S3 ⟨b3,g3,rfl,hM3⟩;simp -dsimp only[go_sem];exact⟨b3,rfl,g3,B,hNb,_,hE1.trans hN.2.1,hM3⟩
  .refine(hno.frame (cS _ _) (fun _ _ h=>h.elim)).mono ?_;rintro _ _ ⟨_,h,_⟩;exact h.elim

def NW:decide (0<lG a b)=decide (b<a):=by
 unfold lG;split
 .simp;omega
 .split<;>simp[*]
def yz{k:Nat}{B:aI}(f:n<=16)(b:∀i j,i<n->j<n->nb (H i j) k)(c:∀i j,i<n->j<n->nb (B i j) k){i j:Nat}(d:i<n)(e:j<n):nb (kg n H B i j) (k+k+10):=Dx (fun t a=>(b i t d a).mul (c t j a e)) om n (ae n)
def Gw(n p:Nat)(H B G:aI)(q:1<=n)(hn:n<=8)(K:1<=p)(y:p<=9973)(L:∀i j,i<n->j<n->(H i j).natAbs<=176000)(E:∀i j,i<n->j<n->(B i j).natAbs<=100000000)(Q:∀i j,i<n->j<n->mm n (fun i j=>B j i) (mm n H B) i j/((p:Int)*p)=G i j):MF 44 [az n n H,.int .i64 p,az n n B] n n G:=by
 have C:∀i j,i<n->j<n->nb (H i j) 27:=fun i j d f=>by have:=L i j d f;unfold nb;omega
 have s:∀i j,i<n->j<n->nb (B i j) 27:=fun i j d f=>by have:=E i j d f;unfold nb;omega
 have M:∀i j,i<n->j<n->nb (kg n H B i j) 100:=fun i j d f=>(yz om C s d f).mono om;have R:∀i j,i<n->j<n->nb (kg n (fun i j=>B j i) (kg n H B) i j) 300:=fun i j d f=>(yz (k:=100) (H:=fun i j=>B j i) om (fun a b T U=>(s b a U T).mono om) M d f).mono om;have V:1<=(p:Int)*p/\(p:Int)*p<=99460729:=by
  rw[<-bD];have a:=a9 K K;have b:=a9 y y;omega
 have F:IntKind.i64.wrap ((p:Int)*p)=(p:Int)*p:=i64_in om om;refine MF.of (i9 func44 ntmps44 results44 ?_);simp -dsimp only[go_sem,aa];refine(uT n n B q om q om (fun i j d f=>by have:=E i j d f;unfold qN;omega)).call ?_
 simp -dsimp only[go_sem,aa];refine(nr n n B 27 q om q om s om).pf.call ?_;simp -dsimp only[go_sem,aa];refine(uT n n H q om q om (fun i j d f=>by have:=L i j d f;unfold qN;omega)).call ?_
 simp -dsimp only[go_sem,aa];refine(uT n n B q om q om (fun i j d f=>by have:=E i j d f;unfold qN;omega)).call ?_
 simp -dsimp only[go_sem,aa];refine(ku n n n H B 27 q om q om q om C s om).pf.call ?_;simp -dsimp only[go_sem,aa];refine(ku n n n (fun i j=>B j i) (kg n H B) 100 q om q om q om (fun i j d f=>(s j i f d).mono om) M om).pf.call ?_;simp -dsimp only[go_sem,aa,az];refine(AO _ n n om om).mono ?_;rintro _ S1 ⟨b,g,rfl,r⟩;have r:=r.1;generalize W:kg n (fun i j=>B j i) (kg n H B)=A at *;have I:∀i j,i<n->j<n->A i j/((p:Int)*p)=G i j:=fun i j d f=>by rw[<-W];exact Q i j d f
 simp -dsimp only[go_sem,aR];refine aH (fun O S=>∃i:Nat,i<=n/\dH S b g n n (rd i (fun _ _=>0) G)/\O 1=.int .i64 p/\O 9=aR n n A/\O 10=.sl 1 b 0 n/\O 32=.int .i64 n/\O 33=.int .i64 i) (fun O S=>n-cj (O 33)) ?_ ?_
 .simp -dsimp only[go_sem,aR];exact⟨0,om,by rw[mG];exact r,rfl⟩
 clear r;rintro O S ⟨i,d,r,x,u,h,l,m⟩;by_cases o:i<n
 .simp -dsimp only[go_sem,aR,u,h,l,m,o];refine aH (fun O S=>∃j:Nat,j<=n/\dH S b g n n (fun a c=>if a=i then(if c<j then G a c else 0)else rd i (fun _ _=>0) G a c)/\O 1=.int .i64 p/\O 9=aR n n A/\O 10=.sl 1 b 0 n/\O 11=.int .i64 i/\O 32=.int .i64 n/\O 33=.int .i64 i/\O 37=.int .i64 n/\O 38=.int .i64 j) (fun O S=>n-cj (O 38)) ?_ ?_
  .simp -dsimp only[go_sem,aR,x,u,h,l,m];refine⟨0,om,r.congr fun a c _ _=>?_,rfl⟩
   by_cases e:a=i
   .subst e;simp[rd]
   .simp[e]
  clear x u h l m r;rintro O S ⟨j,f,r,x,u,h,J,l,m,v,w⟩;by_cases t:j<n
  .obtain⟨X,Y,Z⟩:=r.outer;obtain⟨g2,N,v2⟩:=r.row i o;have x1:X i=.sl 2 (g i) 0 n:=Z i o;simp -dsimp only[go_sem,aR,bB,x,u,h,l,m,v,w,t];refine bE 18 kr ?_
   simp -dsimp only[go_sem,aa,aR,bB,x,u,h,J,l,m,v,w,o,t,Y,x1,N,F];refine⟨_,(gJ (a:=(p:Int)*p) om om).pure',_,(oi (k:=300) (R i j o t) (show nb ((p:Int)*p) 300 by exact nb.mono (k:=27) (by unfold nb;omega) om) om om).pure',?_⟩
   rw[I i j o t];simp -dsimp only[go_sem,aP (om:j<1000000),cj]
   refine⟨⟨j+1,om,(r.set (j:=j) (z:=G i j) o N).congr fun a c _ _=>?_,rfl⟩,om⟩
   simp only[fu];by_cases e:a=i
   .subst e;by_cases P:c=j
    .subst P;simp
    .simp only[P,UY,aS,aQ];by_cases D:c<j
     .rw[ai D,ai om]
     .rw[af D,af om]
   .simp[e]
  .simp -dsimp only[go_sem,aR,x,u,h,l,m,v,w,t,aP (om:i<1000000),cj]
   refine⟨⟨i+1,om,r.congr fun a c _ hc=>?_,rfl⟩,om⟩
   by_cases e:a=i
   .subst e;simp[rd];omega
   .simp only[e,aS,rd];by_cases D:a<i
    .rw[ai D,ai om]
    .rw[af D,af om]
 .obtain rfl:i=n:=om
  simp -dsimp only[go_sem,u,h,l,m,o];exact⟨b,rfl,g,oq r⟩
def xZ(S:St)(n p:Nat)(H:aI)(v:Nat->Nat)(w:gk n H)(K:lp (det n H) p)(x:sH p)(L:lX n p H v) :
  cP 15 [az n n H,.int .i64 p,aK n (fun k=>v k)] S (fun r S'=>∃b g B S1,r=.tup [.sl 1 b 0 n,.int .i64 0]/\EJ n p H v B/\ft S S1/\jd S1 S' b g n n (EH n p H B)):=by
 have C:=w.one;have J:=p6 x;refine i9 func15 ntmps15 results15 ?_;simp -dsimp only[go_sem,aa];refine(Ey S n p H v w K x L).mono ?_;rintro _ S1 ⟨b,g,B,S0,rfl,D,E,y⟩;have M:=w.eight;have N:=y.1;have P:=E.trans y.2.1;simp -dsimp only[go_sem,aa,aY];have z:∀i j,i<n->j<n->(EH n p H B i j).natAbs<=1120325651456000:=fun i j l m=>D.gent w x l m;refine(Gw n p H B (EH n p H B) C om om om (fun i j l m=>by have:=w.ent i j l m;omega) (fun i j l m=>by have:=D.ent x l m;have:=p6z x;omega) (fun i j l m=>by
  rw[<-nU];unfold EH;rw[ai ⟨l,m⟩])).pf.spec (fI.three (VA.refl _ _) (VA.refl _ _) N.vr.va) ?_
 generalize R:EH n p H B=Q at *;simp -dsimp only[go_sem,aR];refine aH (fun O S'=>∃i:Nat,i<=n/\ft S1 S'/\O 10=aR n n Q/\O 31=aR n n Q/\O 32=.int .i64 n/\O 33=.int .i64 i) (fun O S=>n-cj (O 33)) ?_ ?_
 .simp -dsimp only[go_sem,aR];exact⟨0,om,ft.refl _,rfl⟩
 rintro O S2 ⟨i,l,c,d,e,f,h⟩;by_cases o:i<n
 .simp -dsimp only[go_sem,aa,aR,d,e,f,h,o];refine aH (fun O S'=>∃j:Nat,j<=n/\ft S1 S'/\O 10=aR n n Q/\O 31=aR n n Q/\O 32=.int .i64 n/\O 33=.int .i64 i/\O 37=bB n (Q i)/\O 38=.int .i64 n/\O 39=.int .i64 j) (fun O S=>n-cj (O 39)) ?_ ?_
  .simp -dsimp only[go_sem,aR,bB,d,e,f,h];exact⟨0,om,c,rfl⟩
  clear c d e f h;rintro O S2 ⟨j,m,c,d,e,f,h,q,s,t⟩;by_cases u:j<n
  .have W:=z i j o u;have F:nb (Q i j) 64:=by unfold nb;omega
   simp -dsimp only[go_sem,aR,bB,d,e,f,h,q,s,t,u];refine aF.intro fun T A=>?_;simp -dsimp only[go_sem,aa,bW];have G:=(c.upd (c.none A) ⟨50,2,1,fun _=>.big 0⟩).upd (c.none A) ⟨50,2,1,bW (fun _=>.big 0) 0 (.big (Q i j))⟩;refine(tQ F om).call ?_;simp -dsimp only[go_sem,aa,bW];refine(gJ (a:=4611686018427387904) om om).call ?_;simp -dsimp only[go_sem,aa,bW];refine(ni (k:=64) (a:=((Q i j).natAbs:Int)) (b:=4611686018427387904) (by unfold nb at *;omega) (by unfold nb;omega) om).call ?_
   simp -dsimp only[go_sem,aR,bB,d,e,f,h,q,s,t,NW,(om:¬((4611686018427387904:Int)<((Q i j).natAbs:Int))),aP (om:j<1000000),cj]
   exact⟨⟨j+1,om,G,rfl⟩,om⟩
  .simp -dsimp only[go_sem,aR,bB,d,e,f,h,q,s,t,u,aP (om:i<1000000),cj]
   exact⟨⟨i+1,om,c,rfl⟩,om⟩
 .simp -dsimp only[go_sem,aa,aR,d,e,f,h,o];refine(wG n n Q C om C om (fun i j l m=>by have:=z i j l m;unfold jk;omega) _ _ (cS _ _)).mono ?_
  rintro _ S3 ⟨U,V,rfl,I⟩;simp -dsimp only[go_sem];exact⟨U,rfl,V,B,D,_,P.trans c,by rw[R];exact I⟩

def bs.lst_congr{es:Nat}(h:∀i,i<n->g i=g' i){v:Value}(a:bs w M (.lst es n g) v):bs w M (.lst es n g') v:=by
 simp only[bs]at a ⊢;obtain⟨A,c,e,f,k⟩:=a;refine⟨A,c,e,f,fun l=>?_⟩;obtain⟨b,off,m,o,p,q⟩:=k l;exact⟨b,off,m,o,p,fun j d=>by rw[<-h j d];exact q j d⟩
def aT.third{z':AV}(h:∀v,bs w M z v->bs w M z' v){vs:List Value}(d:aT w M [x,y,z] vs):aT w M [x,y,z'] vs:=by
 match vs,d with
 | [a,b,c],d =>
  simp only[aT]at d ⊢;exact⟨d.1,d.2.1,h c d.2.2.1,trivial⟩
def cP.frz{P:AV->Prop}(h:cP f args S (fun r S'=>∃z,(∀w v,eM w S'->bs w S'.dom r v->bs w S.dom z v)/\ft S S'/\P z)):cP f args S (fun r S'=>P r/\S'=S):=by
 intro w vs b c;refine(h w vs b c).mono ?_;rintro e w' ⟨v,r,S1,rfl,⟨z,d,g,i⟩,j,a,k⟩;obtain⟨l,m⟩:=a.less g;exact⟨v,z,S,rfl,⟨i,rfl⟩,d w' v a j,l,k.weaken m⟩
def VR.frz{S' So:St}{r:AV}(h:VR So r z)(c:∀b X,So b=some X->S' b=some X)(d:∀b,So b≠ab->S b=ab)(w:World)(v:Value)(e:eM w S')(f:bs w S'.dom r v):bs w S.dom z v:=by
 obtain⟨g,i⟩:=e.less c;exact bs.turn (fun k _ a j=>a (d k j)) _ _ (h w v g (bs.turn (fun k _ a=>i k a) _ _ f))
def jd.freeze{P:AV->Prop}(h:cP f args S (fun r S'=>∃b g n B S1,r=.tup [.sl 1 b 0 n,.int .i64 0]/\ft S S1/\jd S1 S' b g n n B/\P (.tup [az n n B,.int .i64 0]))):cP f args S (fun r S'=>P r/\S'=S):=by
 refine cP.frz (h.mono ?_);rintro _ S' ⟨b,g,n,B,S1,rfl,j,a,l⟩;have m:S b=ab:=j.none a.2.2.1;have o:∀i,i<n->S (g i)=ab:=fun i k=>j.none (a.2.2.2 i k);refine⟨_,VR.frz (VR.tup2 a.1.only.1.vr (VR.mf rfl)) (ji S' b g n) fun c d=>?_,j.trans a.2.1,l⟩;unfold gQ at d;split at d
 .rename_i e;rw[e];exact m
 .split at d
  .rename_i e;obtain⟨i,k,e⟩:=e;rw[e];exact o i k
  .exact absurd rfl d

def BS(f:Nat)(args:List AV)(c:Int):Prop:=∀S,lL S->cP f args S (fun r S'=>r=.tup [.nil,.int .i64 c]/\ft S S')
def CT{p:Int}(a:c≠0)(b:∀S,lL S->cP 174 [h,.int .i64 p] S (fun r S'=>r=.int .i64 c/\ft S S')):BS 121 [h,.int .i64 p,v] c:=fun S d=>by
 refine i9 RY Vl UI ?_;simp -dsimp only[go_sem,aa];refine(b S d).mono ?_;rintro _ S1 ⟨rfl,e⟩;simp -dsimp only[go_sem,aa,show(c != 0)=true by simpa using a]
 exact e
def LT{p:Int}(a:∀S,lL S->cP 174 [h,.int .i64 p] S (fun r S'=>r=.int .i64 0/\ft S S'))(b:PF 175 [h,.int .i64 p,v] (.bool false)):BS 121 [h,.int .i64 p,v] 26:=fun S c=>by
 refine i9 RY Vl UI ?_;simp -dsimp only[go_sem,aa];refine(a S c).mono ?_;rintro _ S1 ⟨rfl,d⟩;simp -dsimp only[go_sem,aa,aY];refine b.call ?_;simp -dsimp only[go_sem,aa];exact d
def Ls(a:c≠0)(h:BS 121 [x,y,z] c):BS 59 [x,y,z] c:=fun S b=>by
 refine i9 func59 ntmps59 results59 ?_;simp -dsimp only[go_sem,aa];refine(h S b).mono ?_;rintro _ S1 ⟨rfl,d⟩;simp -dsimp only[go_sem,aa,show(c != 0)=true by simpa using a]
 exact d
def SL(a:c≠0)(h:BS 59 [x,y,z] c)(S:St)(b:lL S):cP 41 [x,y,z] S (fun r S'=>r=.tup [.nil,.nil,.int .i64 c]/\ft S S'):=by
 refine i9 func41 ntmps41 results41 ?_;simp -dsimp only[go_sem,aa];refine(h S b).mono ?_;rintro _ S1 ⟨rfl,d⟩;simp -dsimp only[go_sem,aa,show(c != 0)=true by simpa using a]
 exact d
def Ot(a:c≠0)(h:BS 59 [x,y,z] c):BS 25 [x,y,z] c:=fun S b=>by
 refine i9 func25 ntmps25 results25 ?_;simp -dsimp only[go_sem,aa];refine(SL a h S b).mono ?_;rintro _ S1 ⟨rfl,d⟩;simp -dsimp only[go_sem,aa,show(c != 0)=true by simpa using a]
 exact d
def xU{p:Int}(a:c≠0)(b:PF 74 [h,.int .i64 p,.bool false] (.int .i64 c)):PF 33 [h,.int .i64 p,v] (.tup [.nil,.int .i64 c]):=by
 refine iH func33 ntmps33 U5 ?_;simp -dsimp only[go_sem,aa];refine b.call ?_;simp -dsimp only[go_sem,aa,show(c != 0)=true by simpa using a]
 exact VR.mf rfl
def Gu{p:Int}(a:PF 74 [h,.int .i64 p,.bool false] (.int .i64 0))(b:PF 75 [h,.int .i64 p,v] (.bool false)):PF 33 [h,.int .i64 p,v] (.tup [.nil,.int .i64 26]):=by
 refine iH func33 ntmps33 U5 ?_;simp -dsimp only[go_sem,aa];refine a.call ?_;simp -dsimp only[go_sem,aa,aY];refine b.call ?_;simp -dsimp only[go_sem,aa];exact VR.mf rfl
def GD(a:c≠0)(h:PF 33 [x,y,z] (.tup [.nil,.int .i64 c])):PF 24 [x,y,z] (.tup [.nil,.int .i64 c]):=by
 refine iH func24 ntmps24 results24 ?_;simp -dsimp only[go_sem,aa];refine h.call ?_;simp -dsimp only[go_sem,aa,show(c != 0)=true by simpa using a]
 exact VR.mf rfl
def I1(a:c≠0)(h:PF 24 [x,y,z] (.tup [.nil,.int .i64 c])):PF 15 [x,y,z] (.tup [.nil,.int .i64 c]):=by
 refine iH func15 ntmps15 results15 ?_;simp -dsimp only[go_sem,aa];refine h.call ?_;simp -dsimp only[go_sem,aa,show(c != 0)=true by simpa using a]
 exact VR.mf rfl

end Go.Proofs.YtdobfmlmenaajaaGreatDoor
