/-
  Lemmas for NeighbourVerify.
-/
import Derived.Test.YtdobfmlmenaajaaGreatDoorV25
namespace Go.Proofs.YtdobfmlmenaajaaGreatDoor
open Go.RowKit Tryz
open _root_.Option renaming none→ab
set_option maxHeartbeats 6400000
set_option maxRecDepth 4096
set_option linter.all false
attribute [local go_sem] Nat.reduceAdd Nat.reduceEqDiff Nat.reduceLeDiff Nat.reduceLT reduceCtorEq Int.ofNat_lt decide_true decide_false Int.zero_le_ofNat
attribute [local go_sem ↓] reduceIte
variable{Q:AX->Tm->St->Prop}{ops:Array Oper}{c:Code}{p z:Int}{BL:List (Nat×AV)}{args:List AV}{N b b11 b7 es f i m ty:Nat}{g0 g1:Nat->AV}{M d v1 v2:Nat->Int}{g g':Nat->Nat}{o:Oper}{G:Prop}{S S' T:St}{O:Tm}{K:Tm->St->Prop}{C C' w:aH}{P:aH->Prop}{L:ig->Prop}
def pi(A:aH)(i j:Nat)(a b x y:Int):aH:=fun c r=>if c=i then a*A i r+b*A j r else if c=j then x*A j r+-y*A i r else A c r
def Hi(A:aH)(j f:Nat)(M:Int):aH:=fun c r=>if c=j/\f<=r then A c r%M else A c r
def BF(A:aH)(i j:Nat)(M:Int):aH:=if A j i=0 then A else
 Hi (Hi (pi A i j (bz (A i i).toNat (A j i).toNat).2.1 (bz (A i i).toNat (A j i).toNat).2.2 (A i i/(bz (A i i).toNat (A j i).toNat).1) (A j i/(bz (A i i).toNat (A j i).toNat).1)) i i M) j i M
def kA(h:0<=z/\z<2147483648):nb z 31:=by unfold nb;omega
def AI{x y:Int}(a:0<=x/\x<4294967296)(b:0<=y/\y<4294967296)(c:x≠0∨y≠0):PF 268 [.big x,.big y] (.tup [.big (bz x.toNat y.toNat).1,.big (bz x.toNat y.toNat).2.1,.big (bz x.toNat y.toNat).2.2]):=by
 have:=LD x.toNat y.toNat om om om;rw[dO a.1,dO b.1]at this;exact this
structure xm(T:St)(b:Nat)(g:Nat->Nat)(N m i j:Nat)(v1 v2:Nat->Int)(PL:List (Nat×Nat×AV))(BL:List (Nat×AV))(L:Nat->Bool)(O:Tm)(S:St):Prop where
 base:∀e∈BL,O e.1=e.2
 pure:∀e∈PL,L e.1=true->O e.2.1=e.2.2
 mem:∃c1 c2,(L 9=true->O 60=.sl 2 c1 0 m/\jx S c1 m v1/\T c1=ab)/\(L 16=true->O 67=.sl 2 c2 0 m/\jx S c2 m v2/\T c2=ab/\c1≠c2)/\bG S b 59 1 N (fun k=>.sl 2 (if L 18=true/\k=i then c1 else if L 20=true/\k=j then c2 else g k) 0 m)
 keep:iW b T S
 ord:(L 15=true->L 9=true)/\(L 16=true->L 15=true)/\(L 18=true->L 16=true)/\(L 20=true->L 18=true)
def xm.put{j:Nat}{PL:List (Nat×Nat×AV)}{L:Nat->Bool}(h:xm T b g N m i j v1 v2 PL BL L O S){k d:Nat}{z:AV}
  (s:∀e∈PL,e.1=k->e.2.2=z) (u:∀e∈PL,e.1≠k->e.2.1≠d) (p:∀e∈PL,e.1=k->e.2.1=d) (v:∀e∈BL,e.1≠d) (q:d≠60/\d≠67) (a:k≠9/\k≠16/\k≠18/\k≠20) (w:k=15->L 9=true) :
  xm T b g N m i j v1 v2 PL BL (fun c=>if c=k then true else L c) (O.put (some d) z) S:=by
 have l:∀t,t≠d->(O.put (some d) z) t=O t:=fun t x=>by rw[Tm.put_eq];exact af x
 have y:(O.put (some d) z) d=z:=by rw[Tm.put_eq];exact ah rfl
 refine⟨fun e f=>by rw[l _ (v e f)];exact h.base e f,fun e f r=>?_,?_,h.keep,?_⟩
 .by_cases n:e.1=k
  .rw[p e f n,y,s e f n]
  .rw[l _ (u e f n)];simp only[n,aM]at r;exact h.pure e f r
 .obtain⟨A,B,C,D,E⟩:=h.mem;refine⟨A,B,?_,?_,?_⟩
  .rw[af (aj a.1),l _ (aj q.1)];exact C
  .rw[af (aj a.2.1),l _ (aj q.2)];exact D
  .rw[af (aj a.2.2.1),af (aj a.2.2.2)];exact E
 .obtain⟨F,G,H,I⟩:=h.ord;rw[af (aj a.1),af (aj a.2.1),af (aj a.2.2.1),af (aj a.2.2.2)];refine⟨fun o=>?_,fun o=>?_,H,I⟩
  .by_cases e:15=k
   .exact w e.symm
   .rw[af e]at o;exact F o
  .by_cases e:15=k
   .rw[ah e]
   .rw[af e];exact G o
structure OU(S0 S:St)(b b7 b8 b9 b11 b12:Nat)(g:Nat->Nat)(N m:Nat)(A:aH)(M x y a b':Int):Prop where
 mat:dE S b g N m A
 cols:nR S0 S b g g N
 v7:en S b7 50 2 (.big M)
 v8:en S b8 50 2 (.big x)
 v9:en S b9 50 2 (.big y)
 v11:en S b11 50 2 (.big a)
 v12:en S b12 50 2 (.big b')
 n7:S0 b7=ab
section
variable {S0 T:St} {b b7 b8 b9 b11 b12:Nat} {g:Nat->Nat} {N m i j:Nat} {A:aH} {M x y a b':Int} {v1 v2:Nat->Int} {PL:List (Nat×Nat×AV)} {BL:List (Nat×AV)} {L:Nat->Bool} {O:Tm} {S:St}
def iW.fresh(h:iW b T S)(d:S b≠ab){c:Nat}(a:S c=ab):T c=ab:=by
 cases e:T c with
 | none=>rfl
 | some X =>
  have:c≠b:=fun f=>d (f▸a);rw[h c X e this]at a;cases a
def xm.off(h:xm T b g N m i j v1 v2 PL BL L O S)(c:L 16=false):L 18=false/\L 20=false:=by
 obtain⟨k,l,d,f⟩:=h.ord;have a:L 18=false:=by cases e:L 18 with
  | false=>rfl
  | true=>rw[d e]at c;cases c
 refine⟨a,?_⟩
 cases e:L 20 with
 | false=>rfl
 | true=>rw[f e]at a;cases a
def xm.colS(d:OU S0 T b b7 b8 b9 b11 b12 g N m A M x y a b')(h:xm T b g N m i j v1 v2 PL BL L O S)(c:L 16=false):rV S b g N m A:=by
 obtain⟨o,p,q,r,f⟩:=h.mem;obtain⟨l,n⟩:=h.off c;exact⟨f.congr fun k _=>by simp[l,n],fun k e=>h.keep.has (d.mat.row k e) (aj (d.mat.outer_ne e))⟩
def xm.call9(D:OU S0 T b b7 b8 b9 b11 b12 g N m A M x y a b')(h:xm T b g N m i j (fun r=>a*A i r+b'*A j r) v2 PL BL L O S)(q:L 9=false)(E:i<j)(F:j<N)(G:m<=100)(H:∀c r,c<N->r<m->0<=A c r/\A c r<2147483648)(na:nb a 31)(nb':nb b' 31)
  (s:∀e∈PL,e.1≠9/\e.2.1≠60) (I:∀e∈BL,e.1≠60) :
  cZ 269 [.sl 1 b 0 N,.int .i64 i,.big a,.int .i64 j,.big b'] S (fun z S'=>xm T b g N m i j (fun r=>a*A i r+b'*A j r) v2 PL BL (fun k=>if k=9 then true else L k) (O.put (some 60) z) S'):=by
 obtain⟨J,K,Y,Z⟩:=h.ord;have l:L 15=false:=by cases e:L 15 with
  | false=>rfl
  | true=>rw[J e]at q;cases q
 have f:L 16=false:=by cases e:L 16 with
  | false=>rfl
  | true=>rw[K e]at l;cases l
 obtain⟨u,v⟩:=h.off f;have d:=xm.colS D h f;refine(oB N m 31 i j A a b' om F G (fun c r P Q=>kA (H c r P Q)) na nb' om _ _ (fH.first d.vr.va)).mono ?_
 rintro _ S1 ⟨o,rfl,R,w,U⟩;have B:∀t,t≠60->(O.put (some 60) (.sl 2 o 0 m)) t=O t:=fun t V=>by rw[Tm.put_eq];exact af V
 have W:(O.put (some 60) (.sl 2 o 0 m)) 60=.sl 2 o 0 m:=by rw[Tm.put_eq];exact ah rfl
 have p:S b≠ab:=by obtain⟨z,k,_⟩:=d.outer;rw[k];simp
 refine⟨fun e n=>by rw[B _ (I e n)];exact h.base e n,fun e n C=>?_,⟨o,0,fun _=>⟨W,R,h.keep.fresh p U⟩,fun X=>?_,?_⟩,h.keep.trans (iW.ext w),?_⟩
 .rw[B _ (s e n).2];simp only[(s e n).1,aM]at C;exact h.pure e n C
 .simp[f]at X
 .refine(w.has d.outer).congr fun k _=>?_;simp[u,v]
 .simp[l,f,u,v]
def xm.call16(F:OU S0 T b b7 b8 b9 b11 b12 g N m A M x y a b')(h:xm T b g N m i j v1 (fun r=>x*A j r+-y*A i r) PL BL L O S)(s:L 16=false)(f:L 15=true)(G:i<j)(H:j<N)(I:m<=100)(J:∀c r,c<N->r<m->0<=A c r/\A c r<2147483648)(na:nb x 31)(nb':nb y 31)
  (u:∀e∈PL,e.1≠16/\e.2.1≠67) (K:∀e∈BL,e.1≠67) :
  cZ 269 [.sl 1 b 0 N,.int .i64 j,.big x,.int .i64 i,.big (-y)] S (fun z S'=>xm T b g N m i j v1 (fun r=>x*A j r+-y*A i r) PL BL (fun k=>if k=16 then true else L k) (O.put (some 67) z) S'):=by
 obtain⟨v,o2,o3,o4⟩:=h.ord;obtain⟨w,B⟩:=h.off s;have d:=xm.colS F h s;refine(oB N m 31 j i A x (-y) H om I (fun c r P Q=>kA (J c r P Q)) na nb'.neg om _ _ (fH.first d.vr.va)).mono ?_
 rintro _ S1 ⟨n,rfl,R,o,C⟩;have p:∀t,t≠67->(O.put (some 67) (.sl 2 n 0 m)) t=O t:=fun t U=>by rw[Tm.put_eq];exact af U
 have V:(O.put (some 67) (.sl 2 n 0 m)) 67=.sl 2 n 0 m:=by rw[Tm.put_eq];exact ah rfl
 have q:S b≠ab:=by obtain⟨z,k,_⟩:=d.outer;rw[k];simp
 obtain⟨W,_,X,_,_⟩:=h.mem;obtain⟨Y,D,Z⟩:=X (v f);refine⟨fun e l=>by rw[p _ (K e l)];exact h.base e l,fun e l E=>?_,⟨W,n,fun _=>⟨by rw[p _ dc];exact Y,o.has D,Z⟩,fun _=>⟨V,R,h.keep.fresh q C,bG.fresh D C⟩,?_⟩,h.keep.trans (iW.ext o),?_⟩
 .rw[p _ (u e l).2];simp only[(u e l).1,aM]at E;exact h.pure e l E
 .refine(o.has d.outer).congr fun k _=>?_;simp[w,B]
 .simp[f,v f,w,B]
def xm.st18(h:xm T b g N m i j v1 v2 PL BL L O S)(n:L 9=true)(a:L 16=true)(o:L 18=false)(v:i<j)(K:j<N)(w:∀e∈PL,e.1≠18) :
  ∃c f,O 60=.sl 2 c 0 m/\S b=some ⟨59,1,N,f⟩/\xm T b g N m i j v1 v2 PL BL (fun k=>if k=18 then true else L k) O (S.upd b ⟨59,1,N,bR f i (.sl 2 c 0 m)⟩):=by
 obtain⟨M,x,P,y⟩:=h.ord;have d:L 20=false:=by cases e:L 20 with
  | false=>rfl
  | true=>rw[y e]at o;cases o
 obtain⟨c,p,z,A,l⟩:=h.mem;obtain⟨q,r,B⟩:=z n;obtain⟨C,s,D,E⟩:=A a;obtain⟨f,F,G⟩:=id l;have H:c≠b:=aj (bG.ne l r dc)
 have I:p≠b:=aj (bG.ne l s dc)
 refine⟨c,f,q,F,h.base,fun e t u=>?_,⟨c,p,fun _=>⟨q,r.upd H _,B⟩,fun _=>⟨C,s.upd I _,D,E⟩,bG.here fun k J=>?_⟩,h.keep.upd (bW rfl) _,?_⟩
 .simp only[w e t,aM]at u;exact h.pure e t u
 .have:=G k J;simp only[bR];by_cases e:k=i
  .simp[e]
  .rw[af e,this];simp[e,d]
 .simp[n,a,d,x a]
def xm.st20(h:xm T b g N m i j v1 v2 PL BL L O S)(a:L 16=true)(c:L 18=true)(I:L 20=false)(v:i<j)(J:j<N)(w:∀e∈PL,e.1≠20) :
  ∃d f,O 67=.sl 2 d 0 m/\S b=some ⟨59,1,N,f⟩/\xm T b g N m i j v1 v2 PL BL (fun k=>if k=20 then true else L k) O (S.upd b ⟨59,1,N,bR f j (.sl 2 d 0 m)⟩):=by
 obtain⟨o,l,K,M⟩:=h.ord;obtain⟨p,d,x,y,n⟩:=h.mem;obtain⟨z,q,A⟩:=x (o (l a));obtain⟨r,s,B,C⟩:=y a;obtain⟨f,D,E⟩:=id n;have F:p≠b:=aj (bG.ne n q dc)
 have G:d≠b:=aj (bG.ne n s dc)
 refine⟨d,f,r,D,h.base,fun e t u=>?_,⟨p,d,fun _=>⟨z,q.upd F _,A⟩,fun _=>⟨r,s.upd G _,B,C⟩,bG.here fun k H=>?_⟩,h.keep.upd (bW rfl) _,?_⟩
 .simp only[w e t,aM]at u;exact h.pure e t u
 .have:=E k H;simp only[bR];by_cases e:k=j
  .have:¬j=i:=om
   simp[e,c,this]
  .rw[af e,this];simp[e,c]
 .simp[a,c,l a,o (l a)]
def xm.fin(s:OU S0 T b b7 b8 b9 b11 b12 g N m A M x y a b')(h:xm T b g N m i j (fun r=>a*A i r+b'*A j r) (fun r=>x*A j r+-y*A i r) PL BL L O S)(t:∀k,k<21->L k=true)(H:i<j):∃g',dE S b g' N m (pi A i j a b' x y)/\nR T S b g g' N:=by
 obtain⟨B,C,I,J,K⟩:=h.mem;obtain⟨U,P,D⟩:=I (t 9 om);obtain⟨V,Q,E,F⟩:=J (t 16 om);have G:∀k,k<N->T (g k)≠ab:=fun k c=>by obtain⟨z,e,_⟩:=s.mat.row k c;rw[e];simp
 refine⟨fun k=>if k=i then B else if k=j then C else g k,⟨K.congr fun k _=>by simp[t 18 om,t 20 om],fun k c=>?_,fun k l c u e=>?_⟩,fun k X R c _=>h.keep k X R c,fun k c=>?_⟩
 .by_cases v:k=i
  .simp only[v,aK];exact P.congr fun r _=>by simp[pi]
  .by_cases w:k=j
   .simp only[w,aK,(om:¬j=i),aM]
    exact Q.congr fun r _=>by simp[pi,(om:¬j=i)]
   .simp only[v,w,aM];exact(h.keep.has (s.mat.row k c) (aj (s.mat.outer_ne c))).congr fun r _=>by simp[pi,v,w]
 .have p:∀k,k<N->g k≠B:=fun k c e=>G k c (e▸D);have q:∀k,k<N->g k≠C:=fun k c e=>G k c (e▸E);by_cases d:k=i
  .by_cases f:l=i
   .omega
   .by_cases o:l=j
    .rw[ah d,af f,ah o]at e;exact absurd e F
    .rw[ah d,af f,af o]at e;exact absurd e.symm (p l u)
  .by_cases n:k=j
   .by_cases f:l=i
    .rw[af d,ah n,ah f]at e;exact absurd e.symm F
    .by_cases o:l=j
     .omega
     .rw[af d,ah n,af f,af o]at e;exact absurd e.symm (q l u)
   .by_cases f:l=i
    .rw[af d,af n,ah f]at e;exact absurd e (p k c)
    .by_cases o:l=j
     .rw[af d,af n,af f,ah o]at e;exact absurd e (q k c)
     .rw[af d,af n,af f,af o]at e;exact s.mat.inj k l c u e
 .by_cases d:k=i
  .simp only[d,aK];exact bQ D
  .by_cases n:k=j
   .simp only[n,aK,(om:¬j=i),aM];exact bQ E
   .simp only[d,n,aM];exact bW ⟨k,c,rfl⟩
end
def o5(P:St->Prop)(a:P S)(h:∀T,P T->GF ops O T K):GF ops O S K:=h S a
def ee(h:o.guard=ab)(k:OZ o O S (fun z S'=>K (O.put o.dst z) S')):Bl ops o O S K:=by unfold Bl;rw[h];exact k
def It(S0:St)(b:Nat)(g:Nat->Nat)(N m i j:Nat)(A:aH)(M:Int)(v:i<j)(t:j<N)(hi:i<m)(hm:m<=100)(hM:0<M)(Q:nb M 31)(z:∀c r,c<N->r<m->0<=A c r/\A c r<2147483648)(q:dE S0 b g N m A) :
  cZ 267 [.sl 1 b 0 N,.int .i64 i,.int .i64 j,.big M] S0 (fun _ S'=>∃g',dE S' b g' N m (BF A i j M)/\nR S0 S' b g g' N):=by
 refine iC func267 rfl 80 ntmps267 kr sm ?_
 rw[ml,results267];have n:i<N:=om
 simp -dsimp only[go_sem];refine aG.intro fun b7 f7=>?_;have B:=q.ext ((fM.refl S0).upd f7 ⟨50,2,1,fun _=>.big M⟩);obtain⟨g1,u1,v1⟩:=id B.outer;obtain⟨g2,u2,v2⟩:=id (B.row i n);obtain⟨g3,u3,v3⟩:=id (B.row j t);have x1:g1 i=.sl 2 (g i) 0 m:=v1 i n;have x2:g1 j=.sl 2 (g j) 0 m:=v1 j t;have x3:g2 i=.big (A i i):=v2 i hi;have x4:g3 i=.big (A j i):=v3 i hi;refine pS 16 [[7,8,9,10,11,12,13],[]] kr ?_
 simp -dsimp only[*,go_sem,aa];refine aG.intro fun b8 f8=>?_;have n8_7:=(ag f8).1
 try simp -dsimp only[go_sem]
 refine aG.intro fun b9 f9=>?_;have n9_8:=(ag f9).1;have n9_7:=(ag (ag f9).2).1;have s8:S0 b8=ab:=(ag f8).2;have s9:S0 b9=ab:=(ag (ag f9).2).2;have w7:b≠b7:=bG.fresh q.outer f7;have w8:b≠b8:=bG.fresh q.outer s8;have w9:b≠b9:=bG.fresh q.outer s9;have y7:∀a,a<N->g a≠b7:=fun a f=>bG.fresh (q.row a f) f7;have y8:∀a,a<N->g a≠b8:=fun a f=>bG.fresh (q.row a f) s8;have y9:∀a,a<N->g a≠b9:=fun a f=>bG.fresh (q.row a f) s9;have w8i:=y8 i n;have w8j:=y8 j t;have w9i:=y9 i n;have w9j:=y9 j t;simp -dsimp only[*,go_sem,bR,aj n9_8];have ki:=z i i n hi;have kj:=z j i t hi;refine(lp (kA kj) om).call ?_;by_cases hz:A j i=0
 .simp only[go_sem,hz,show(Int.sign 0==0)=true from rfl];refine⟨g,?_,?_⟩
  .rw[BF,ah hz]
   repeat' first|exact q|refine dE.upd ?_ (by assumption) (by assumption) _
  .repeat' first|exact nR.refl S0 b g N|refine nR.upd ?_ (bQ (bQ (by assumption))) _
 .have hs:((A j i).sign==0)=false:=by
   have:(A j i).sign=1:=dq om;rw[this];rfl
  simp -dsimp only[go_sem,aa,hs,aj n9_8,fE];refine(AI om om (bQ hz)).call ?_;generalize C:bz (A i i).toNat (A j i).toNat=D at *;simp -dsimp only[go_sem,fE];refine aG.intro fun E s=>?_;have n10_9:=(ag s).1;have n10_8:=(ag (ag s).2).1;have n10_9:=(ag (ag (ag s).2).2).1;have n10_8:=(ag (ag (ag (ag s).2).2).2).1;have n10_7:=(ag (ag (ag (ag (ag s).2).2).2).2).1;simp -dsimp only[go_sem];refine aG.intro fun b11 p=>?_;have n11_10:=(ag p).1;have n11_9:=(ag (ag p).2).1;have n11_8:=(ag (ag (ag p).2).2).1;have n11_9:=(ag (ag (ag (ag p).2).2).2).1;have n11_8:=(ag (ag (ag (ag (ag p).2).2).2).2).1;have n11_7:=(ag (ag (ag (ag (ag (ag p).2).2).2).2).2).1;simp -dsimp only[go_sem];refine aG.intro fun b12 o=>?_;have n12_11:=(ag o).1;have n12_10:=(ag (ag o).2).1;have n12_9:=(ag (ag (ag o).2).2).1;have n12_8:=(ag (ag (ag (ag o).2).2).2).1;have n12_9:=(ag (ag (ag (ag (ag o).2).2).2).2).1;have n12_8:=(ag (ag (ag (ag (ag (ag o).2).2).2).2).2).1;have n12_7:=(ag (ag (ag (ag (ag (ag (ag o).2).2).2).2).2).2).1;simp -dsimp only[*,go_sem,aa,aj n9_8,aj n10_8,aj n11_8,aj n11_10,aj n12_8,aj n12_10,aj n12_11,fE];have R:S0 E=ab:=(ag (ag (ag (ag (ag s).2).2).2).2).2;have U:S0 b11=ab:=(ag (ag (ag (ag (ag (ag p).2).2).2).2).2).2;have V:S0 b12=ab:=(ag (ag (ag (ag (ag (ag (ag o).2).2).2).2).2).2).2;have w10:b≠E:=bG.fresh q.outer R;have w11:b≠b11:=bG.fresh q.outer U;have w12:b≠b12:=bG.fresh q.outer V;have y10:∀a,a<N->g a≠E:=fun a f=>bG.fresh (q.row a f) R;have y11:∀a,a<N->g a≠b11:=fun a f=>bG.fresh (q.row a f) U;have y12:∀a,a<N->g a≠b12:=fun a f=>bG.fresh (q.row a f) V;have F:=D0 (A j i).toNat (A i i).toNat (A j i).toNat om (bQ om);have hD2:=Ok (A j i).toNat (A i i).toNat (A j i).toNat om om;rw[C]at F hD2;have nD1:nb D.1 31:=by unfold nb;omega
  have nD2:nb D.2.1 31:=by unfold nb;omega
  have nD3:nb D.2.2 31:=by unfold nb;omega
  refine(mt (kA ki) nD1 om om (bQ ((kA ki).mono om))).call ?_;simp -dsimp only[*,go_sem,aa,aj n9_8,aj n10_8,aj n10_9,aj n11_8,aj n11_9,aj n11_10,aj n12_8,aj n12_9,aj n12_10,fE];refine(mt (kA kj) nD1 om om (bQ ((kA kj).mono om))).call ?_;simp -dsimp only[go_sem,aa,n9_8,aj n10_9,aj n11_9,aj n12_9,fE];have W:nb (A i i/D.1) 31:=by
   have:=o0 D.1 ki.1;have:=nd ki.1 (cC F.1);unfold nb;omega
  have G:nb (A j i/D.1) 31:=by
   have:=o0 D.1 kj.1;have:=nd kj.1 (cC F.1);unfold nb;omega
  refine o5 (fun T=>OU S0 T b b7 b8 b9 b11 b12 g N m A M (A i i/D.1) (A j i/D.1) D.2.1 D.2.2) ?_ ?_
  .constructor
   .repeat' first|exact q|refine dE.upd ?_ (by assumption) (by assumption) _
   .repeat' first|exact nR.refl S0 b g N|refine nR.upd ?_ (bQ (bQ (by assumption))) _
   all_goals first|exact f7|simp only[en.at_hit,en.at_miss,Bu,i7,bR,aK,n11_8,n11_9,n12_8,n12_9,aj n8_7,aj n9_7,aj n9_8,aj n10_7,aj n11_7,aj n12_7,aj n12_11]
  intro T u;generalize hxx:A i i/D.1=x' at *;generalize hyy:A j i/D.1=y' at *;refine CH (xm T b g N m i j (fun r=>D.2.1*A i r+D.2.2*A j r) (fun r=>x'*A j r+-y'*A i r) [(0,51,.sl 1 b 0 N),(1,52,.int .i64 i),(2,53,.sl 1 b 0 N),(3,54,.int .i64 j),(4,55,.sl 1 b 0 N),(5,56,.int .i64 i),(6,57,.big D.2.1),(7,58,.int .i64 j),(8,59,.big D.2.2),(10,61,.sl 1 b 0 N),(11,62,.int .i64 j),(12,63,.big x'),(13,64,.int .i64 i),(14,65,.big y'),(15,66,.big (-y')),(17,68,.ptr 1 b i),(19,69,.ptr 1 b j)] [(0,.sl 1 b 0 N),(1,.int .i64 i),(2,.int .i64 j),(7,.ptr 2 b7 0),(8,.ptr 2 b8 0),(9,.ptr 2 b9 0),(11,.ptr 2 b11 0),(12,.ptr 2 b12 0)]) kr ?_ ?_ ?_
  .refine⟨?_,(fun e _ h=>by cases h),⟨0,0,(fun h=>by cases h),(fun h=>by cases h),u.mat.outer.congr fun k _=>by simp⟩,iW.refl _ _,sm⟩
   simp only[a8,aR,cG,cP,yQ];simp only[go_sem]
  .clear f8 f9 s p o C;refine⟨?_,?_,?_,?_,?_,?_,?_,?_,?_,?_,?_,?_,?_,?_,?_,?_,?_,?_,?_,?_,?_,trivial⟩
   .intro L O S d l f;have al:∀k,_->L k=true:=aE.1 f;refine ee rfl ?_;have w:O 0=.sl 1 b 0 N:=d.base (0,.sl 1 b 0 N) sm
    simp only[go_sem,w];exact d.put sm sm sm sm dc dc (by intro h;cases h)
   .intro L O S d l f;have al:∀k,_->L k=true:=aE.1 f;refine ee rfl ?_;have H:O 1=.int .i64 i:=d.base (1,.int .i64 i) sm
    simp only[go_sem,H];exact d.put sm sm sm sm dc dc (by intro h;cases h)
   .intro L O S d l f;have al:∀k,_->L k=true:=aE.1 f;refine ee rfl ?_;have w:O 0=.sl 1 b 0 N:=d.base (0,.sl 1 b 0 N) sm
    simp only[go_sem,w];exact d.put sm sm sm sm dc dc (by intro h;cases h)
   .intro L O S d l f;have al:∀k,_->L k=true:=aE.1 f;refine ee rfl ?_;have I:O 2=.int .i64 j:=d.base (2,.int .i64 j) sm
    simp only[go_sem,I];exact d.put sm sm sm sm dc dc (by intro h;cases h)
   .intro L O S d l f;have al:∀k,_->L k=true:=aE.1 f;refine ee rfl ?_;have w:O 0=.sl 1 b 0 N:=d.base (0,.sl 1 b 0 N) sm
    simp only[go_sem,w];exact d.put sm sm sm sm dc dc (by intro h;cases h)
   .intro L O S d l f;have al:∀k,_->L k=true:=aE.1 f;refine ee rfl ?_;have H:O 1=.int .i64 i:=d.base (1,.int .i64 i) sm
    simp only[go_sem,H];exact d.put sm sm sm sm dc dc (by intro h;cases h)
   .intro L O S d l f;have al:∀k,_->L k=true:=aE.1 f;refine ee rfl ?_;have e11:O 11=.ptr 2 b11 0:=d.base (11,.ptr 2 b11 0) sm
    obtain⟨gg,uu,xx⟩:=d.keep.var u.v11 (aj w11);simp only[*,go_sem];exact d.put sm sm sm sm dc dc (by intro h;cases h)
   .intro L O S d l f;have al:∀k,_->L k=true:=aE.1 f;refine ee rfl ?_;have I:O 2=.int .i64 j:=d.base (2,.int .i64 j) sm
    simp only[go_sem,I];exact d.put sm sm sm sm dc dc (by intro h;cases h)
   .intro L O S d l f;have al:∀k,_->L k=true:=aE.1 f;refine ee rfl ?_;have e12:O 12=.ptr 2 b12 0:=d.base (12,.ptr 2 b12 0) sm
    obtain⟨gg,uu,xx⟩:=d.keep.var u.v12 (aj w12);simp only[*,go_sem];exact d.put sm sm sm sm dc dc (by intro h;cases h)
   .intro L O S d l f;have al:∀k,_->L k=true:=aE.1 f;refine ee rfl ?_;have p4:O 55=.sl 1 b 0 N:=d.pure (4,55,.sl 1 b 0 N) sm (al 4 dc)
    have p5:O 56=.int .i64 i:=d.pure (5,56,.int .i64 i) sm (al 5 dc)
    have p6:O 57=.big D.2.1:=d.pure (6,57,.big D.2.1) sm (al 6 dc)
    have p7:O 58=.int .i64 j:=d.pure (7,58,.int .i64 j) sm (al 7 dc)
    have p8:O 59=.big D.2.2:=d.pure (8,59,.big D.2.2) sm (al 8 dc)
    simp -dsimp only[go_sem,p4,p5,p6,p7,p8];exact xm.call9 u d l v t hm z nD2 nD3 sm sm
   .intro L O S d l f;have al:∀k,_->L k=true:=aE.1 f;refine ee rfl ?_;have w:O 0=.sl 1 b 0 N:=d.base (0,.sl 1 b 0 N) sm
    simp only[go_sem,w];exact d.put sm sm sm sm dc dc (by intro h;cases h)
   .intro L O S d l f;have al:∀k,_->L k=true:=aE.1 f;refine ee rfl ?_;have I:O 2=.int .i64 j:=d.base (2,.int .i64 j) sm
    simp only[go_sem,I];exact d.put sm sm sm sm dc dc (by intro h;cases h)
   .intro L O S d l f;have al:∀k,_->L k=true:=aE.1 f;refine ee rfl ?_;have e8:O 8=.ptr 2 b8 0:=d.base (8,.ptr 2 b8 0) sm
    obtain⟨gg,uu,xx⟩:=d.keep.var u.v8 (aj w8);simp only[*,go_sem];exact d.put sm sm sm sm dc dc (by intro h;cases h)
   .intro L O S d l f;have al:∀k,_->L k=true:=aE.1 f;refine ee rfl ?_;have H:O 1=.int .i64 i:=d.base (1,.int .i64 i) sm
    simp only[go_sem,H];exact d.put sm sm sm sm dc dc (by intro h;cases h)
   .intro L O S d l f;have al:∀k,_->L k=true:=aE.1 f;refine ee rfl ?_;have e9:O 9=.ptr 2 b9 0:=d.base (9,.ptr 2 b9 0) sm
    obtain⟨gg,uu,xx⟩:=d.keep.var u.v9 (aj w9);simp only[*,go_sem];exact d.put sm sm sm sm dc dc (by intro h;cases h)
   .intro L O S d l f;have al:∀k,_->L k=true:=aE.1 f;refine ee rfl ?_;have p14:O 65=.big y':=d.pure (14,65,.big y') sm (al 14 dc)
    simp -dsimp only[go_sem,p14];refine(tA G om).call ?_;simp only[go_sem];exact d.put sm sm sm sm dc dc (fun _=>al 9 dc)
   .intro L O S d l f;have al:∀k,_->L k=true:=aE.1 f;refine ee rfl ?_;have p10:O 61=.sl 1 b 0 N:=d.pure (10,61,.sl 1 b 0 N) sm (al 10 dc)
    have p11:O 62=.int .i64 j:=d.pure (11,62,.int .i64 j) sm (al 11 dc)
    have p12:O 63=.big x':=d.pure (12,63,.big x') sm (al 12 dc)
    have p13:O 64=.int .i64 i:=d.pure (13,64,.int .i64 i) sm (al 13 dc)
    have p15:O 66=.big (-y'):=d.pure (15,66,.big (-y')) sm (al 15 dc)
    simp -dsimp only[go_sem,p10,p11,p12,p13,p15];exact xm.call16 u d l (al 15 dc) v t hm z W G sm sm
   .intro L O S d l f;have al:∀k,_->L k=true:=aE.1 f;refine ee rfl ?_;have p0:O 51=.sl 1 b 0 N:=d.pure (0,51,.sl 1 b 0 N) sm (al 0 dc)
    have p1:O 52=.int .i64 i:=d.pure (1,52,.int .i64 i) sm (al 1 dc)
    simp only[*,go_sem];exact d.put sm sm sm sm dc dc (by intro h;cases h)
   .intro L O S d l f;have al:∀k,_->L k=true:=aE.1 f;refine ee rfl ?_;have p17:O 68=.ptr 1 b i:=d.pure (17,68,.ptr 1 b i) sm (al 17 dc)
    obtain⟨c1,g1,K,P,q3⟩:=d.st18 (al 9 dc) (al 16 dc) l v t sm
    simp only[go_sem,aa,p17,K,P,n];exact q3
   .intro L O S d l f;have al:∀k,_->L k=true:=aE.1 f;refine ee rfl ?_;have p2:O 53=.sl 1 b 0 N:=d.pure (2,53,.sl 1 b 0 N) sm (al 2 dc)
    have p3:O 54=.int .i64 j:=d.pure (3,54,.int .i64 j) sm (al 3 dc)
    simp only[*,go_sem];exact d.put sm sm sm sm dc dc (by intro h;cases h)
   .intro L O S d l f;have al:∀k,_->L k=true:=aE.1 f;refine ee rfl ?_;have p19:O 69=.ptr 1 b j:=d.pure (19,69,.ptr 1 b j) sm (al 19 dc)
    obtain⟨c2,g1,K,P,q3⟩:=d.st20 (al 16 dc) (al 18 dc) l v t sm
    simp only[go_sem,aa,p19,K,P,t];exact q3
  .intro L O S d l;obtain⟨g',X,Y⟩:=xm.fin u d l v;have w:O 0=.sl 1 b 0 N:=d.base (0,.sl 1 b 0 N) sm
   have H:O 1=.int .i64 i:=d.base (1,.int .i64 i) sm
   have I:O 2=.int .i64 j:=d.base (2,.int .i64 j) sm
   have e7:O 7=.ptr 2 b7 0:=d.base (7,.ptr 2 b7 0) sm
   obtain⟨gg,uu,xx⟩:=d.keep.var u.v7 (aj w7);simp -dsimp only[*,go_sem,aa];have nC:∀c r,c<N->r<m->nb (pi A i j D.2.1 D.2.2 x' y' c r) 63:=fun c r hc J=>by
    have K:=kA (z i r n J);have P:=kA (z j r t J);unfold pi;split
    .exact(nD2.mul K).add (nD3.mul P)
    .split
     .exact(W.mul P).add (G.neg.mul K)
     .exact(kA (z c r hc J)).mono om
   obtain⟨z7,k7,_⟩:=id u.v7;have g7:∀a,a<N->g' a≠b7:=Y.ne k7 y7;refine(oN S b g' N m i i _ M n hm om hM (Q.mono om) 63 om (fun r J=>nC i r n J) X).mono ?_;rintro _ S1 ⟨x,y⟩;obtain⟨g3,u3,x3⟩:=y.var ⟨gg,uu,xx⟩ (aj w7) g7;simp -dsimp only[go_sem,aa,w,H,I,e7,u3,x3];refine(oN S1 b g' N m j i _ M t hm om hM (Q.mono om) 63 om (fun r J=>?_) x).mono ?_
   .rw[af om];exact nC j r t J
   rintro _ S2 ⟨Z,hC2'⟩;simp only[go_sem];refine⟨g',?_,(u.cols.trans (Y.trans (y.trans hC2' x.some) X.some) u.mat.some)⟩;have e:BF A i j M=Hi (Hi (pi A i j D.2.1 D.2.2 x' y') i i M) j i M:=by
    rw[BF,af hz,C,hxx,hyy]
   rw[e];exact Z

def TL.M_le(h:TL N L d M):∀i,i<=N->M i<=M 0
 | 0,_=>sF _
 | i+1,a=>by
  have b:=h.M_le i om;have c:=h.step i om;have e:=h.pos i om;have f:=h.M_pos N (i+1) om a;have g:1*M (i+1)<=d i*M (i+1):=cB om om;omega
def TL.d_le(h:TL N L d M){i:Nat}(a:i<N):d i<=M 0:=by
 have b:=h.M_le i om;have c:=h.step i a;have e:=h.pos i a;have f:=h.M_pos N (i+1) om om;have g:d i*1<=d i*M (i+1):=ca om om;omega
def HI.rng(a:TL N L d M){i:Nat}{C:Nat->ig}(h:HI N L d M i C)(k:i<=N)(l:∀c r,c<N->i<=r->r<N->0<=C c r/\C c r<M i){c r:Nat}(j:c<N)(f:r<N):0<=C c r/\C c r<=M 0:=by
 have p:=a.M_le i k;rcases aF r i with e|e
 .rcases aF c i with g|g
  .obtain⟨m,n,o⟩:=h.done c g;rcases dS r c with b|b|b
   .rw[m r b];have:=a.M_pos N 0 om om;omega
   .rw[b,n];have:=a.pos c om;have:=a.d_le (i:=c) om;omega
   .have:=o r b e;have:=a.d_le (i:=r) om;omega
  .rw[h.zero c g j r e];have:=a.M_pos N 0 om om;omega
 .have:=l c r j e f;omega
def uO(x M:Int):x%M=x+M*(-(x/M)):=by
 have:=oJ x M;rw[nB];omega
def TH(m:TL N L d M){i j:Nat}{C:aH}(h:HI N L d M i C)(n:i<j)(u:j<N)(l:∀c r,c<N->i<=r->r<N->0<=C c r/\C c r<M i) :
  HI N L d M i (BF C i j (M i))/\(∀c r,c<N->i<=r->r<N->0<=BF C i j (M i) c r/\BF C i j (M i) c r<M i)/\BF C i j (M i) j i=0/\∀c r,c≠i->c≠j->BF C i j (M i) c r=C c r:=by
 have f:i<N:=om
 have o:=m.M_pos N i om om;unfold BF;by_cases v:C j i=0
 .simp only[v,aK];exact⟨h,l,trivial,fun _ _ _ _=>trivial⟩
 .have ki:=l i i f (ae _) f;have kj:=l j i u (ae _) f;have w:=Iv (C j i).toNat (C i i).toNat (C j i).toNat (ae _);have p:=Iw (C j i).toNat (C i i).toNat (C j i).toNat (ae _);have F:=D0 (C j i).toNat (C i i).toNat (C j i).toNat (ae _) (bQ om);rw[af v];generalize bz (C i i).toNat (C j i).toNat=D at *;rw[dO ki.1,dO kj.1]at w p;obtain⟨x,q⟩:=p.1;obtain⟨y,s⟩:=p.2;have ex:C i i/D.1=x:=by rw[q];exact di _ om
  have ey:C j i/D.1=y:=by rw[s];exact di _ om
  rw[ex,ey];have B:D.2.1*x+D.2.2*y=1:=by
   rw[q,s]at w;refine cL (om:D.1≠0) ?_
   grind
  have E:HI N L d M i (pi C i j D.2.1 D.2.2 x y):=h.comb m n u B (fun r _=>by simp[pi]) (fun r _=>by simp only[pi,(om:¬j=i),aM,aK];grind) (fun c r _ _ a b=>by simp[pi,a,b])
  have t:pi C i j D.2.1 D.2.2 x y j i=0:=by
   simp only[pi,(om:¬j=i),aM,aK];rw[q,s];grind
  have red:∀c r,Hi (Hi (pi C i j D.2.1 D.2.2 x y) i i (M i)) j i (M i) c r=if (c=i∨c=j)/\i<=r then pi C i j D.2.1 D.2.2 x y c r%M i else pi C i j D.2.1 D.2.2 x y c r:=by
   intro c r;unfold Hi;by_cases a:c=i
   .have:¬c=j:=om
    by_cases b:i<=r
    .simp[a,b,(om:¬i=j)]
    .simp[b]
   .by_cases z:c=j
    .by_cases b:i<=r
     .simp[z,b,(om:¬j=i)]
     .simp[b]
    .simp[a,z]
  refine⟨E.red m om (fun c r=>if c=i∨c=j then -(pi C i j D.2.1 D.2.2 x y c r/M i)else 0) (fun c r A g=>?_),fun c r A k g=>?_,?_,fun c r a b=>?_⟩
  .rw[red];by_cases a:c=i∨c=j
   .by_cases b:i<=r
    .rw[ah ⟨a,b⟩,ah b];simp only[a,aK];exact uO _ _
    .rw[af (fun e=>b e.2),af b];omega
   .rw[af (fun e=>a e.1)];simp[a]
  .rw[red];by_cases a:c=i∨c=j
   .rw[ah ⟨a,k⟩];exact⟨aT _ om,aP _ o⟩
   .rw[af (fun e=>a e.1)];have:pi C i j D.2.1 D.2.2 x y c r=C c r:=by
     simp only[pi];rw[af (fun e=>a (bW e)),af (fun e=>a (bQ e))]
    rw[this];exact l c r A k g
  .rw[red,ah ⟨bQ rfl,ae _⟩,t];simp
  .rw[red,af (fun e=>by rcases e.1 with e|e<;>contradiction)]
   simp[pi,a,b]
def HI.first(a:TL N (fC N N w) d M):HI N (fC N N w) d M 0 (fun c r=>w r c%M 0) :=
 HI.init.red a om (fun c r=>-(w r c/M 0)) (fun c r _ _=>by simp only[jW,aK];exact uO _ _)
def pK(C:aH)(i t:Nat)(p a:Int):aH:=fun c r=>if c=i then(if r=i then p else a*C i r)else if c<t then C c r-C c i/p*(if r=i then p else a*C i r)else C c r
def Ta(g:TL N L d M){i:Nat}{C:aH}(h:HI N L d M i C)(k:i<N)(n:∀j,i<j->j<N->C j i=0){p a b:Int}(l:0<p)(o:p=a*C i i+b*M i)(q:p∣C i i)(s:p∣M i) :
  HI N L d M (i+1) (pK C i i p a)/\M i/p=M (i+1):=by
 have m:=h.pivot_eq g k n l o q s;refine⟨h.pivot g k n l o q s (fun c=>C c i/p) (fun r _=>by simp[pK]) (fun c r f _=>?_) (fun c r t _ _=>?_) (fun c f=>?_),?_⟩
 .simp only[pK,(om:¬c=i),f,aM,aK]
 .simp only[pK,(om:¬c=i),(om:¬c<i),aM]
 .simp only[pK,(om:¬c=i),f,aM,aK]
  have:=uO (C c i) p;have e:C c i-C c i/p*p=C c i%p:=by rw[this,nB,ck];omega
  rw[e];exact⟨aT _ om,aP _ l⟩
 .rw[g.step i k,<-m];exact di _ om
def SY(a:TL N L d M){i:Nat}{C:aH}(h:HI N L d M i C)(b:i<=N):HI N L d M i (fun c r=>if i<=r then C c r%M i else C c r) :=
 h.red a b (fun c r=>-(C c r/M i)) (fun c r _ _=>by
  by_cases e:i<=r
  .rw[ah e,ah e];exact uO _ _
  .rw[af e,af e];omega)

def yC(N m K k:Nat)(A:aH)(ρ:Nat->Nat)(H:N<=100)(I:K<=100)(hρ:∀i,i<K->ρ i<m)(B:∀c r,c<N->r<m->nb (A c r) k)(J:k<=1000000):MF 234 [aU N m A,aW K (fun i=>ρ i)] K N (fun i j=>A j (ρ i)):=by
 refine MF.of ?_;refine jI func234 ntmps234 results234 ?_;simp -dsimp only[go_sem,aU,bC,aW]
 repeat refine an ?_
 refine aG.intro fun bc fc=>?_;simp only[go_sem];refine aI (fun O S'=>∃j:Nat,j<=K/\O 0=aU N m A/\O 5=.sl 1 bc 0 K/\O 12=aW K (fun i=>ρ i)/\O 13=.int .i64 K/\O 14=.int .i64 j/\∃g',fL 59 50 2 St.none S' bc g' K N j (fun a i=>.big (A i (ρ a)))) (fun O S=>K-co (O 14)) ?_ ?_
 .simp only[go_sem,aU,bC,aW];exact⟨0,om,rfl,fun _=>0,fL.init fc (fun _ _=>rfl) _ _⟩
 .rintro O S' ⟨j,L,p,q,d,f,g,g',b⟩;by_cases h:j<K
  .obtain⟨w,o,s⟩:=id b.outer;simp -dsimp only[*,go_sem,aa,aU,bC,aW]
   repeat refine an ?_
   refine aG.intro fun bd fd=>?_;have C:bc≠bd:=bG.fresh b.outer fd;simp only[*,go_sem];have l:=b.push dc fd o (fun _=>.big 0)
   generalize t:(fun a=>if a=j then bd else g' a)=gg at l
   refine aI (fun O S'=>∃i:Nat,i<=N/\O 0=aU N m A/\O 5=.sl 1 bc 0 K/\O 6=.int .i64 j/\O 7=.int .i64 (ρ j)/\O 12=aW K (fun i=>ρ i)/\O 13=.int .i64 K/\O 14=.int .i64 j/\O 26=.int .i64 N/\O 27=.int .i64 i/\fL 59 50 2 St.none S' bc gg K N (j+1) (fun a c=>.big (if a=j/\i<=c then 0 else A c (ρ a)))) (fun O S=>N-co (O 27)) ?_ ?_
   .simp only[*,go_sem,aU,bC,aW];refine⟨0,om,rfl,l.congr fun a c _ _=>?_⟩
    by_cases e:a=j
    .simp[e]
    .simp[e]
   .clear p q d f g b l o s t;rintro O S' ⟨i,M,p,q,D,E,d,f,g,u,v,b⟩;by_cases n:i<N
    .obtain⟨w,o,s⟩:=id b.outer;obtain⟨P,x,Q⟩:=id (b.row j om);have F:w j=.sl 2 (gg j) 0 N:=(s j h).trans (ah om);have y:=hρ j h;simp -dsimp only[*,go_sem,aU,bC,aW];refine bD 14 kr ?_
     simp only[go_sem,aa,p,q,D,E,d,f,g,u,v,h,n,o,F,x,aU,bC,y,aW,aS (om:i<1000000),co]
     refine⟨_,(sd (B i (ρ j) n y) om).pure',trivial,⟨i+1,om,rfl,(b.put dc (om:j<j+1) x i (.big (A i (ρ j)))).congr fun a c _ _=>?_⟩,om⟩
     by_cases e:a=j/\c=i
     .obtain⟨rfl,rfl⟩:=e;rw[ah ⟨rfl,rfl⟩,af om]
     .rw[af e];congr 1;by_cases z:a=j/\i<=c
      .rw[ah z,ah om]
      .rw[af z,af om]
    .simp only[*,go_sem,aS (om:j<1000000),co]
     exact⟨⟨j+1,om,rfl,rfl,rfl,gg,b.congr fun a c _ R=>by rw[af om]⟩,om⟩
  .obtain rfl:j=K:=om
   have G:=b.mat (A:=fun i j=>A j (ρ i)) (fun _ _ _ _=>rfl);simp only[*,go_sem,aa];exact⟨bc,rfl,g',G.1⟩

def MFE(f:Nat)(args:List AV)(n m:Nat)(P:aH->Prop):Prop:=∀S args',fH S args' args->cZ f args' S (fun r S'=>∃b g A,r=.sl 1 b 0 n/\P A/\je S S' b g n m A)
def MFE.of{n:Nat}(h:cZ f args St.none (fun r S'=>∃b g A,r=.sl 1 b 0 n/\P A/\dE S' b g n m A)):MFE f args n m P:=fun S args' d=>by
 have i:cZ f args St.none (fun r S'=>∃b g A,r=.sl 1 b 0 n/\P A/\dE S' b g n m A/\Kq S'):=h.less fun r S' ⟨b,g,A,e,c,a⟩=>⟨ik S' b g n,jQ S' b g n,b,g,A,e,c,a.only.1,a.only.2⟩;refine(i.frame d ?_).mono ?_
 .rintro r S1 ⟨b,g,A,rfl,_,_,j⟩;exact⟨rfl,j⟩
 .rintro r S' ⟨S1,⟨b,g,A,rfl,c,a,_⟩,k,rfl⟩;exact⟨b,g,A,rfl,c,a.join k⟩
def fH.two{x x' y y':AV}(h:VA S x x')(a:VA S y y'):fH S [x,y] [x',y']:=⟨h,a,trivial⟩
def yO(P:Tm->St->Prop)(a:(∀O S,P O S->Aw c Q O S)->G)(b:∀O S,P O S->Aw c Q O S):G:=a b
structure pj(S:St)(b b7 N:Nat)(z:Int)(C:aH):Prop where
 ex:∃g,dE S b g N N C/\∀a,a<N->g a≠b7
 var:en S b7 50 2 (.big z)
def pj.ne(h:pj S b b7 N z C):b7≠b:=by
 obtain⟨g,a,_⟩:=h.ex;obtain⟨x,k,_⟩:=h.var;obtain⟨y,l,_⟩:=a.outer;rintro rfl;rw[k]at l;cases l
def pj.next(h:pj S b b7 N z C)(c:∀a,a<N->g a≠b7)(e:dE S' b g' N N C')(d:nR S S' b g g' N):pj S' b b7 N z C':=by
 obtain⟨x,k,_⟩:=id h.var;exact⟨⟨g',e,d.ne k c⟩,d.var h.var h.ne c⟩
def pj.congr(h:pj S b b7 N z C)(a:∀c r,c<N->r<N->C c r=C' c r):pj S b b7 N z C':=by
 obtain⟨g,d,e⟩:=h.ex;exact⟨⟨g,d.congr a,e⟩,h.var⟩
def Rng(N i:Nat)(z:Int)(C:aH):Prop:=∀c r,c<N->i<=r->r<N->0<=C c r/\C c r<z
def T2(S:St)(b b7 N:Nat)(L:ig->Prop)(d M:Nat->Int)(i:Nat):Prop:=∃C,pj S b b7 N (M i) C/\HI N L d M i C/\Rng N i (M i) C
def T3(S:St)(b b7 N:Nat)(L:ig->Prop)(d M:Nat->Int)(i j:Nat):Prop:=∃C,pj S b b7 N (M i) C/\HI N L d M i C/\Rng N i (M i) C/\∀k,i<k->k<j->C k i=0
def pj.other(h:pj S b b7 N z C){e:Nat}(c:S e=ab)(X:ft):pj (S.upd e X) b b7 N z C:=by
 obtain⟨g,d,f⟩:=h.ex;exact⟨⟨g,d.upd (bG.fresh d.outer c) (fun a i=>bG.fresh (d.row a i) c) _,f⟩,h.var.upd (h.var.fresh c) _⟩
def pj.upd3(h:pj S b b7 N z C){e n:Nat}{x:Nat->AV}(c:bG S e 3 1 n x)(X:ft):pj (S.upd e X) b b7 N z C:=by
 obtain⟨g,d,f⟩:=h.ex;refine⟨⟨g,d.upd (bG.ne d.outer c dc) (fun a i=>bG.ne (d.row a i) c dc) _,f⟩,h.var.upd ?_ _⟩
 obtain⟨y,k,_⟩:=h.var;obtain⟨y',l,_⟩:=c;rintro rfl;rw[k]at l;cases l
def Gp{K:AV->St->Prop}(P:St->Prop)(a:P S)(h:∀T,P T->cZ f args T K):cZ f args S K:=h S a
structure qX(S:St)(b b7 b11 N:Nat)(z p:Int)(g:Nat->Nat)(C:aH):Prop where
 mat:dE S b g N N C
 h7:∀a,a<N->g a≠b7
 h11:∀a,a<N->g a≠b11
 v7:en S b7 50 2 (.big z)
 v11:en S b11 50 2 (.big p)
def en.ext{z:AV}(h:en S b ty es z)(a:fM S S'):en S' b ty es z:=by
 obtain⟨x,c,d⟩:=h;exact⟨x,a _ _ c,d⟩
def qX.n7(h:qX S b b7 b11 N z p g C):b7≠b/\b11≠b:=by
 obtain⟨x,k,_⟩:=h.v7;obtain⟨x',k',_⟩:=h.v11;obtain⟨y,l,_⟩:=h.mat.outer;refine⟨?_,?_⟩<;>rintro rfl
 .rw[k]at l;cases l
 .rw[k']at l;cases l
def qX.repl{S1:St}(h:qX S b b7 b11 N z p g C){j c:Nat}{v:Nat->Int}(f:fM S S1)(i:S c=ab)(l:jx S1 c N v){k:Nat->AV}(m:S1 b=some ⟨59,1,N,k⟩) :
  qX (S1.upd b ⟨59,1,N,bR k j (.sl 2 c 0 N)⟩) b b7 b11 N z p (fun a=>if a=j then c else g a) (fun a r=>if a=j then v r else C a r):=by
 have n:=h.mat.ext f;refine⟨n.repl l (fun a d=>bG.fresh (h.mat.row a d) i) m,fun a d=>?_,fun a d=>?_,(h.v7.ext f).upd h.n7.1 _,(h.v11.ext f).upd h.n7.2 _⟩
 .by_cases e:a=j
  .simp only[e,aK];exact aj (h.v7.fresh i)
  .simp only[e,aM];exact h.h7 a d
 .by_cases e:a=j
  .simp only[e,aK];exact aj (h.v11.fresh i)
  .simp only[e,aM];exact h.h11 a d
def qX.set(h:qX S b b7 b11 N z p g C){i j:Nat}{q:Int}{g':Nat->AV}(a:i<N)(c:S (g i)=some ⟨50,2,N,g'⟩):qX (S.upd (g i) ⟨50,2,N,bR g' j (.big q)⟩) b b7 b11 N z p g (eQ C i j q) :=
 ⟨h.mat.set a c,h.h7,h.h11,h.v7.upd (aj (h.h7 i a)) _,h.v11.upd (aj (h.h11 i a)) _⟩
def qX.congr(h:qX S b b7 b11 N z p g C)(a:∀c r,c<N->r<N->C c r=C' c r):qX S b b7 b11 N z p g C':=⟨h.mat.congr a,h.h7,h.h11,h.v7,h.v11⟩
def T4(S:St)(b b7 b11 N:Nat)(z p:Int)(C:aH):Prop:=∃g,qX S b b7 b11 N z p g C
def qX.upd(h:qX S b b7 b11 N z p g C){e:Nat}(c:b≠e)(d:∀a,a<N->g a≠e)(f:b7≠e)(i:b11≠e)(X:ft):qX (S.upd e X) b b7 b11 N z p g C :=
 ⟨h.mat.upd c d _,h.h7,h.h11,h.v7.upd f _,h.v11.upd i _⟩
def JA{a:Int}(b:∀c r,c<N->r<N->0<=C c r/\C c r<2147483648)(j:nb p 31)(l:nb a 31)(g:i<N)(d:0<=p)(t:Nat):∀c r,c<N->r<N->nb (pK C i t p a c r) 100:=by
 intro c r e f;have h:nb (if r=i then p else a*C i r) 62:=by
  split
  .exact j.mono om
  .exact l.mul (kA (b i r g f))
 unfold pK;split
 .exact h.mono om
 .split
  .have k:=b c i e g;have nq:nb (C c i/p) 31:=by
    have:=o0 p k.1;have:=nd k.1 d;unfold nb;omega
   have:=((kA (b c r e f)).mono (om:31<=93)).sub (nq.mul h)
   exact this.mono om
  .exact(kA (b c r e f)).mono om
def zF(N:Nat)(w:aH)(h1:1<=N)(hN:N<=16)(hw:∀i j,i<N->j<N->nb (w i j) 1000)(hd:det N w≠0)(hdb:(det N w).natAbs<2147483648) :
  MFE 260 [aU N N w,.big (det N w)] N N (fun H=>∃d M,TL N (fC N N w) d M/\M 0=((det N w).natAbs:Int)/\HI N (fC N N w) d M N (fun j r=>H r j)):=by
 obtain⟨d,M,L,hM0⟩:=TL.of_det hd;generalize det N w=D at *;refine MFE.of ?_;refine jI func260 ntmps260 results260 ?_;have hp0:0<N:=om
 have hpz:(0:Int)<(N:Int):=om
 simp -dsimp only[go_sem,aa,aU,bC];refine aG.intro fun b3 f3=>?_;refine(uS N N w h1 hN hN _ _ (cY _ _)).mono ?_;rintro _ S1 ⟨b,g,rfl,s,hE,hb,hg⟩;have hv3:en S1 b3 50 2 (.big D):=by
  obtain⟨x,k1,k2⟩:=en.new (S:=St.none) (b:=b3) (ty:=50) (es:=2) (g:=fun _=>AV.big D) rfl;exact⟨x,hE _ _ k1,k2⟩
 obtain⟨g3,u3,v3⟩:=id hv3;simp -dsimp only[go_sem,aa,u3];refine aG.intro fun l f7=>?_;have n37:b3≠l:=hv3.fresh f7;have nb7:b≠l:=bG.fresh s.outer f7;have ng7:∀a,a<N->g a≠l:=fun a G=>bG.fresh (s.row a G) f7;have nD:nb D 32:=by unfold nb;omega
 simp -dsimp only[*,go_sem,aa];refine(lp nD om).call ?_;apply yO (fun O S=>O 5=.int .i64 N/\O 6=.sl 1 b 0 N/\O 7=.ptr 2 l 0/\O 31=.int .i64 N/\O 32=.int .i64 0/\pj S b l N (M 0) (fun c r=>w r c))
 .intro key;by_cases hneg:D<0
  .simp -dsimp only[*,go_sem,aa,show decide (D.sign<0)=true by rw[eZ hneg];rfl]
   refine(tA nD om).call ?_;simp only[go_sem,aa,v3];refine key _ _ ?_;simp only[go_sem];refine⟨⟨g,?_,ng7⟩,?_⟩
   .repeat' first|exact s|refine dE.upd ?_ (by assumption) (by assumption) _
   .rw[(om:M 0=-D)]
    simp only[en.at_hit,bR,aK]
  .simp only[*,go_sem,aa,show decide (D.sign<0)=false by rw[dq om];rfl]
   refine key _ _ ?_;simp only[go_sem];refine⟨⟨g,?_,ng7⟩,?_⟩
   .repeat' first|exact s|refine dE.upd ?_ (by assumption) (by assumption) _
   .rw[(om:M 0=D)]
    simp only[en.at_hit,bR,aK]
 clear u3 v3 hv3 n37 nb7 ng7 s hE hb hg;have hM0p:=L.M_pos N 0 om om;have nM:∀i,i<=N->nb (M i) 31:=fun i hi=>by
  have:=L.M_le i hi;have:=L.M_pos N i om hi;unfold nb;omega
 rintro O S ⟨A,m,z,P,Q,h⟩;refine aI (fun O S=>∃j:Nat,j<=N/\O 5=.int .i64 N/\O 6=.sl 1 b 0 N/\O 7=.ptr 2 l 0/\O 31=.int .i64 N/\O 32=.int .i64 j/\pj S b l N (M 0) (fun c r=>if c<j then w r c%M 0 else w r c)) (fun O S=>N-co (O 32)) ?_ ?_
 .exact⟨0,om,A,m,z,P,Q,h.congr fun c r _ _=>by simp⟩
 clear A m z P Q h;rintro O S ⟨j,hj,A,m,z,P,Q,h⟩;by_cases f:j<N
 .obtain⟨g7,U,V⟩:=id h.var;obtain⟨g,s,hg⟩:=h.ex;simp -dsimp only[go_sem,aa,A,m,z,P,Q,f,U,V];refine(oN S b g N N j 0 _ (M 0) f om om hM0p ((nM 0 om).mono om) 1000 om (fun r W=>?_) s).mono ?_
  .rw[af om];exact hw r j W f
  rintro _ S1 ⟨I,X⟩;simp only[go_sem,A,m,z,P,Q,aS (om:j<1000000),co]
  refine⟨⟨j+1,om,rfl,(h.next hg I X).congr fun c r _ _=>?_⟩,om⟩
  by_cases e:c=j
  .simp[e]
  .by_cases E:c<j
   .simp[e,E,(om:c<j+1)]
   .simp[e,E,(om:¬c<j+1)]
 obtain rfl:j=N:=om
 simp only[*,go_sem,aa];have B:T2 S b l j (fC j j w) d M 0:=⟨_,h.congr (C':=fun c r=>w r c%M 0) fun c r Y _=>by simp[Y],HI.first L,fun c r _ _ _=>⟨aT _ om,aP _ hM0p⟩⟩
 refine aI (fun O S=>∃i:Nat,i<=j/\O 5=.int .i64 j/\O 6=.sl 1 b 0 j/\O 7=.ptr 2 l 0/\O 40=.int .i64 j/\O 41=.int .i64 i/\T2 S b l j (fC j j w) d M i) (fun O S=>j-co (O 41)) ?_ ?_
 .simp only[*,go_sem];exact⟨0,om,rfl,B⟩
 clear A m z P Q h B f hj hw;generalize hNN:j=N at *;clear hNN;rintro O S ⟨i,hi,A,m,z,o,p,B⟩;by_cases f:i<N
 .simp only[*,go_sem,aS (om:i<1000000)]
  have hMi:=L.M_pos N i om hi;refine aI (fun O S=>∃j:Nat,i+1<=j/\j<=N/\O 5=.int .i64 N/\O 6=.sl 1 b 0 N/\O 7=.ptr 2 l 0/\O 9=.int .i64 i/\O 10=.int .i64 j/\O 40=.int .i64 N/\O 41=.int .i64 i/\T3 S b l N (fC N N w) d M i j) (fun O S=>N-co (O 10)) ?_ ?_
  .simp only[*,go_sem];obtain⟨C,c1,c2,c3⟩:=B;exact⟨i+1,om,om,rfl,C,c1,c2,c3,fun k _ _=>om⟩
  clear A m z o p B;rintro O S ⟨j,hj1,hj2,A,m,z,K,e10,o,p,C,h,hH,hR,hZ⟩;have u:∀c r,c<N->r<N->0<=C c r/\C c r<2147483648:=fun c r Y W=>by
   have:=hH.rng L hi hR Y W;omega
  obtain⟨g7,U,V⟩:=id h.var;obtain⟨g,s,hg⟩:=h.ex;by_cases J:j<N
  .simp -dsimp only[*,go_sem,aa];refine(It S b g N N i j C (M i) om J f om hMi (nM i hi) u s).mono ?_;rintro _ S1 ⟨g',I,X⟩;have hcl:=TH L hH (om:i<j) J hR
   simp only[*,go_sem,aS (om:j<1000000),co]
   refine⟨⟨j+1,om,om,rfl,_,h.next hg I X,hcl.1,hcl.2.1,fun k hk1 hk2=>?_⟩,om⟩
   by_cases e:k=j
   .rw[e];exact hcl.2.2.1
   .rw[hcl.2.2.2 k i om e];exact hZ k hk1 om
  have hNj:N=j:=om
  subst hNj;clear J hj1 hj2;simp -dsimp only[*,go_sem,aa,cT];obtain⟨g1,u1,v1⟩:=id s.outer;obtain⟨g2,u2,v2⟩:=id (s.row i f);have x1:g1 i=.sl 2 (g i) 0 N:=v1 i f;have x2:g2 i=.big (C i i):=v2 i f;have kii:=hR i i f (ae _) f;have nMi:=nM i hi;have hMi2:M i<2147483648:=by have:=L.M_le i hi;omega
  have hbz:=AI (x:=C i i) (y:=M i) om om (bQ om);have b1:=Iv (M i).toNat (C i i).toNat (M i).toNat (ae _);have b2:=Iw (M i).toNat (C i i).toNat (M i).toNat (ae _);have b3:=D0 (M i).toNat (C i i).toNat (M i).toNat (ae _) (bQ om);have b4:=Ok (M i).toNat (C i i).toNat (M i).toNat (ae _) om;generalize bz (C i i).toNat (M i).toNat=D at *;rw[dO kii.1,dO (cC hMi)]at b1 b2;have nD1:nb D.1 31:=by unfold nb;omega
  have nD2:nb D.2.1 31:=by unfold nb;omega
  refine pS 16 [[11,12],[12],[]] kr ?_
  simp -dsimp only[*,go_sem,aa];refine⟨_,hbz.pure',?_⟩;simp -dsimp only[go_sem];refine aG.intro fun v f11=>?_
  try simp -dsimp only[go_sem]
  refine aG.intro fun b12 f12=>?_;have n12_11:=(ag f12).1
  try simp -dsimp only[go_sem]
  refine aG.intro fun b13 f13=>?_;have n13_12:=(ag f13).1;have n13_11:=(ag (ag f13).2).1;have s12:=(ag f12).2;have s13:=(ag (ag f13).2).2;have w11:b≠v:=bG.fresh s.outer f11;have w12:b≠b12:=bG.fresh s.outer s12;have w13:b≠b13:=bG.fresh s.outer s13;have y11:∀a,a<N->g a≠v:=fun a G=>bG.fresh (s.row a G) f11;have y12:∀a,a<N->g a≠b12:=fun a G=>bG.fresh (s.row a G) s12;have y13:∀a,a<N->g a≠b13:=fun a G=>bG.fresh (s.row a G) s13;have z11:l≠v:=h.var.fresh f11;have z12:l≠b12:=h.var.fresh s12;have z13:l≠b13:=h.var.fresh s13;simp -dsimp only[go_sem,m,K,nn n12_11,nn n13_11,nn n13_12,bR];refine Gp (fun T=>qX T b l v N (M i) D.1 g C/\en T b12 50 2 (.big D.2.1)) ?_ ?_
  .refine⟨⟨?_,hg,y11,?_,?_⟩,?_⟩
   .repeat' first|exact s|refine dE.upd ?_ (by assumption) (by assumption) _
   all_goals simp only[en.at_hit,en.at_miss,Bu,i7,bR,aK,z11,z12,z13,aj n12_11,aj n13_11,aj n13_12]
   exact h.var
  rintro T ⟨B,hT12⟩;refine(oB N N 31 i i C D.2.1 0 f f om (fun c r Y W=>kA (u c r Y W)) nD2 (nb.zero 31) om _ _ (fH.first B.mat.vr.va)).mono ?_
  rintro _ S1 ⟨c,rfl,hI,hE,hn⟩;have I:=B.mat.ext hE;obtain⟨g4,u4,v4⟩:=id I.outer;obtain⟨g5,u5,v5⟩:=id hI;have hcg:∀a,a<N->g a≠c:=fun a G=>bG.fresh (B.mat.row a G) hn;have hcb:c≠b:=aj (bG.fresh B.mat.outer hn);simp -dsimp only[go_sem,aa,m,K,u4,f,fE];obtain⟨g6,u6,x6⟩:=id (B.v11.ext hE);have n11c:v≠c:=B.v11.fresh hn;refine bD 7 kr ?_
  simp only[go_sem,aa,m,K,u5,u6,x6,B.n7.2,hcb,f,fE];have hV1:=B.repl (j:=i) hE hn hI u4;have hV2:=hV1.set (i:=i) (j:=i) (q:=D.1) f (g':=g5) (by simp only[aK];rw[aO hcb];exact u5)
  simp only[aK]at hV2;have hV3:=hV2.congr (C':=pK C i 0 D.1 D.2.1) (fun a r _ _=>by
   simp only[eQ,pK,Kh,aM];by_cases e:a=i
   .by_cases E:r=i
    .simp[e,E]
    .simp[e,E]
   .simp[e])
  have hV4:T4 ((S1.upd b { ty:=59,es:=1,n:=N,g:=bR g4 i (AV.sl 2 c 0 N) }).upd c { ty:=50,es:=2,n:=N,g:=bR g5 i (AV.big D.1) }) b l v N (M i) D.1 (pK C i 0 D.1 D.2.1):=⟨_,hV3⟩;refine aI (fun O S=>∃t:Nat,t<=i/\O 5=.int .i64 N/\O 6=.sl 1 b 0 N/\O 7=.ptr 2 l 0/\O 9=.int .i64 i/\O 11=.ptr 2 v 0/\O 40=.int .i64 N/\O 41=.int .i64 i/\O 85=.int .i64 i/\O 86=.int .i64 t/\T4 S b l v N (M i) D.1 (pK C i t D.1 D.2.1)) (fun O S=>i-co (O 86)) ?_ ?_
  .simp only[go_sem,A,m,z,K,o,p];exact⟨0,om,rfl,hV4⟩
  clear hV1 hV2 hV3 hV4 u4 u5 u6 x6 n11c I hcg hcb v4 v5 hI hE hn B hT12 u1 u2 x1 x2 U V A m z K e10 o p s hg h;clear f11 f12 f13 s12 s13 w11 w12 w13 y11 y12 y13 z11 z12 z13 n12_11 n13_12 n13_11;rintro O S2 ⟨t,ht,A,m,z,K,Z,o,p,e85,e86,g',F⟩;by_cases htt:t<i
  .obtain⟨g1,u1,v1⟩:=id F.mat.outer;have R:t<N:=om
   obtain⟨g2,u2,v2⟩:=id (F.mat.row t R);obtain⟨g6,u6,x6⟩:=id F.v11;have x1:g1 t=.sl 2 (g' t) 0 N:=v1 t R;have x2:g2 i=.big (C t i):=(v2 i f).trans (by simp[pK,(om:¬t=i)])
   have kti:=u t i R f;simp -dsimp only[go_sem,aa,z,Z,e85,e86,htt];refine pS 15 [[11,12],[12],[]] kr ?_
   simp -dsimp only[go_sem,aa,m,K,Z,u1,x1,u2,x2,u6,x6,f,R];refine⟨_,(mt (kA kti) nD1 om om (bQ ((kA kti).mono om))).pure',?_⟩;simp -dsimp only[go_sem];refine aG.intro fun b15 f15=>?_
   try simp -dsimp only[go_sem]
   refine aG.intro fun b16 f16=>?_;have n16_15:=(ag f16).1;simp -dsimp only[go_sem,nn n16_15];refine o5 (fun T=>qX T b l v N (M i) D.1 g' (pK C i t D.1 D.2.1)/\en T b15 50 2 (.big (C t i/D.1))) ?_ ?_
   .have s16:=(ag f16).2;have w15:b≠b15:=bG.fresh F.mat.outer f15;have w16:b≠b16:=bG.fresh F.mat.outer s16;have y15:∀a,a<N->g' a≠b15:=fun a G=>bG.fresh (F.mat.row a G) f15;have y16:∀a,a<N->g' a≠b16:=fun a G=>bG.fresh (F.mat.row a G) s16;have z1:l≠b15:=F.v7.fresh f15;have z2:l≠b16:=F.v7.fresh s16;have z3:v≠b15:=F.v11.fresh f15;have z4:v≠b16:=F.v11.fresh s16;refine⟨?_,?_⟩
    .repeat' first|exact F|refine qX.upd ?_ (by assumption) (by assumption) (by assumption) (by assumption) _
    .simp only[en.at_hit,en.at_miss,Bu,i7,bR,aK,aj n16_15]
   rintro T ⟨B,hT15⟩;obtain⟨g7,U,V⟩:=id hT15;refine fQ 8 [[0,1],[],[]] kr ?_
   simp -dsimp only[go_sem,aa,m,K,U,V];have nq:nb (C t i/D.1) 31:=by
    have:=o0 D.1 kti.1;have:=nd kti.1 (cC b3.1);unfold nb;omega
   have nP:=JA u nD1 nD2 f (cC b3.1) t;refine⟨_,(ld dc dc).pure',_,(tA nq om).pure',?_⟩
   refine(oB N N 100 t i _ 1 (-(C t i/D.1)) R f om nP (nb.one om) (nq.neg.mono om) om _ _ (fH.first B.mat.vr.va)).mono ?_
   rintro _ S3 ⟨c,rfl,hI,hE,hn⟩;obtain⟨g8,u8,v8⟩:=id (B.mat.ext hE).outer;simp only[go_sem,aa,A,m,z,K,Z,o,p,e85,e86,u8,R,aS (om:t<1000000),co]
   refine⟨⟨t+1,om,rfl,_,(B.repl (j:=t) hE hn hI u8).congr fun a r _ _=>?_⟩,om⟩
   by_cases e:a=t
   .subst e;simp only[aK,pK,(om:¬a=i),cT,Vt,aM]
    rw[dG,sE];rfl
   .simp only[e,aM,pK];by_cases E:a=i
    .simp[E]
    .by_cases e3:a<t
     .simp[E,e3,(om:a<t+1)]
     .simp[E,e3,(om:¬a<t+1)]
  have hti:t=i:=om
  subst hti;obtain⟨hP1,hP2⟩:=Ta L hH f hZ b3.1 b1 b2.1 b2.2;obtain⟨g7,U,V⟩:=id F.v7;obtain⟨g8,u8,x8⟩:=id F.v11;have nP:=JA u nD1 nD2 f (cC b3.1) t;simp -dsimp only[go_sem,aa,z,Z,e85,e86,cT,U,V,u8,x8];refine(mt nMi nD1 om om (bQ (nMi.mono om))).call ?_;rw[hP2];simp only[go_sem,aa,A,z,U,V,x8];have hM1:=L.M_pos N (t+1) om om;have hT5:pj (S2.upd l ⟨50,2,1,bR g7 0 (.big (M (t+1)))⟩) b l N (M (t+1)) (pK C t t D.1 D.2.1):=⟨⟨g',F.mat.upd (aj F.n7.1) F.h7 _,F.h7⟩,en.set⟩;refine aI (fun O S=>∃j:Nat,j<=N/\O 5=.int .i64 N/\O 6=.sl 1 b 0 N/\O 7=.ptr 2 l 0/\O 9=.int .i64 t/\O 40=.int .i64 N/\O 41=.int .i64 t/\O 120=.int .i64 N/\O 121=.int .i64 j/\pj S b l N (M (t+1)) (fun c r=>if c<j/\t+1<=r then pK C t t D.1 D.2.1 c r%M (t+1)else pK C t t D.1 D.2.1 c r)) (fun O S=>N-co (O 121)) ?_ ?_
  .simp only[go_sem,A,m,z,K,o,p];exact⟨0,om,rfl,hT5.congr fun c r _ _=>by simp⟩
  clear hT5 U V u8 x8 F A m z K Z o p e85 e86;rintro O S3 ⟨j,hj,A,m,z,K,o,p,e120,e121,h⟩;by_cases J:j<N
  .obtain⟨g7,U,V⟩:=id h.var;obtain⟨g,s,hg⟩:=h.ex;simp -dsimp only[go_sem,aa,A,m,z,K,o,p,e120,e121,J,U,V,aS (om:t<1000000)]
   refine(oN S3 b g N N j (t+1) _ (M (t+1)) J om om hM1 ((nM (t+1) om).mono om) 100 om (fun r W=>?_) s).mono ?_
   .rw[af om];exact nP j r J W
   rintro _ S4 ⟨I,X⟩;simp only[go_sem,A,m,z,K,o,p,e120,e121,aS (om:j<1000000),co]
   refine⟨⟨j+1,om,rfl,(h.next hg I X).congr fun c r _ _=>?_⟩,om⟩
   by_cases E:t+1<=r
   .by_cases e:c=j
    .rw[ah ⟨e,E⟩,af om,ah om]
    .by_cases e3:c<j
     .rw[af om,ah ⟨e3,E⟩,ah om]
     .rw[af om,af om,af om]
   .rw[af om,af om,af om]
  have hNj:N=j:=om
  subst hNj;simp only[*,go_sem,aa,cT,aS (om:t<1000000),co]
  refine⟨⟨t+1,om,rfl,_,h.congr (C':=fun c r=>if t+1<=r then pK C t t D.1 D.2.1 c r%M (t+1)else pK C t t D.1 D.2.1 c r) fun c r Y _=>by
   by_cases E:t+1<=r
   .rw[ah ⟨Y,E⟩,ah E]
   .rw[af om,af E],SY L hP1 om,fun c r _ h1 _=>?_⟩,om⟩
  dsimp only;rw[ah h1];exact⟨aT _ om,aP _ hM1⟩
 .have hNi:N=i:=om
  subst hNi;obtain⟨C,h,hH,hR⟩:=B;simp -dsimp only[*,go_sem,cT]
  repeat refine an ?_
  refine aG.intro fun b19 f19=>?_;simp only[go_sem];have u:∀c r,c<N->r<N->0<=C c r/\C c r<2147483648:=fun c r Y W=>by
   have:=hH.rng L (ae _) hR Y W;omega
  refine aI (fun O S=>∃k:Nat,k<=N/\O 6=.sl 1 b 0 N/\O 19=.sl 1 b19 0 N/\O 135=.int .i64 N/\O 136=.int .i64 k/\pj S b l N (M N) C/\bG S b19 3 1 N (fun a=>.int .i64 (if a<k then(a:Int)else 0))) (fun O S=>N-co (O 136)) ?_ ?_
  .simp only[go_sem,m];exact⟨0,om,rfl,h.other f19 _,bG.here fun a _=>by simp⟩
  clear A m z o p h f19;rintro O S ⟨k,hk,m,e19,e135,e136,h,hH19⟩;by_cases hkt:k<N
  .obtain⟨g1,u1,v1⟩:=id hH19;simp only[*,go_sem,aa,aS (om:k<1000000),co]
   refine⟨⟨k+1,om,rfl,h.upd3 hH19 _,bG.here fun a G=>?_⟩,om⟩
   simp only[bR];by_cases e:a=k
   .simp[e]
   .rw[af e,v1 a G];by_cases E:a<k
    .simp[E,(om:a<k+1)]
    .simp[E,(om:¬a<k+1)]
  have hNk:N=k:=om
  subst hNk;obtain⟨g,s,hg⟩:=h.ex;simp -dsimp only[*,go_sem,aa,cT];refine(yC N N N 31 C (fun i=>i) om om (fun i hi=>hi) (fun c r Y W=>kA (u c r Y W)) om _ _ (fH.two s.vr.va (VR.sl hH19 om (fun a G=>by rw[az,ah G];exact VR.mf rfl)).va)).mono ?_
  rintro _ S5 ⟨b',g',rfl,hN'⟩;simp only[go_sem];exact⟨b',rfl,g',_,⟨d,M,L,hM0,hH⟩,hN'.1⟩

def lK(N:Nat)(C U:aH):aH:=fun j r=>aq N fun a=>C a r*U a j
def Fd(N:Nat)(C U:aH)(j r t:Nat):Nat->Nat->AV:=fun a c=>.big (if a=j/\r<=c then(if c=r then aq t (fun k=>C k r*U k j)else 0)else lK N C U a c)
def F1{c t e ty':Nat}{K:AV->St->Prop}(a:S b=some ⟨ty,es,N,g0⟩)(d:S c=some ⟨ty',es,N,g1⟩)(f:dY t=some e)(g:es=cg e)(h:0<N)(i:∀j,j<N->eO es (g1 j))
  (k:K (.int .i64 N) (S.upd b ⟨ty,es,N,fun j=>if 0<=j/\j<0+N then g1 (0+(j-0))else g0 j⟩)):AR t (.sl es b 0 N) (.sl es c 0 N) S K:=by
 unfold AR sX;rw[f];have l:Bj S (.sl es c 0 N)=some (es,N,fun j=>g1 (0+j),some c):=by simp[Bj,d]
 rw[l];simp only[a];exact⟨g,trivial,trivial,om,trivial,h,fun j m=>by rw[az];exact i j m,k⟩
def G8(S0:St)(b bu:Nat)(g gu:Nat->Nat)(N R k:Nat)(C U:aH)(h1:1<=N)(hN:N<=16)(hR:R<=100)(Y:∀a r,a<N->r<R->nb (C a r) k)(Z:∀a r,a<N->r<N->nb (U a r) k)(hk:k<=1000000)(y:dE S0 b g N R C)(z:dE S0 bu gu N N U) :
  cZ 261 [.sl 1 b 0 N,.sl 1 bu 0 N] S0 (fun _ S'=>(∃g',dE S' b g' N R (lK N C U))/\iW b S0 S'):=by
 refine iC func261 rfl 75 ntmps261 kr sm ?_
 rw[ml,results261];simp -dsimp only[go_sem]
 repeat refine an ?_
 refine aG.intro fun bc fc=>?_;simp only[go_sem];refine aI (fun O S'=>∃j:Nat,j<=N/\O 0=.sl 1 b 0 N/\O 1=.sl 1 bu 0 N/\O 4=.sl 1 bc 0 N/\O 13=.int .i64 N/\O 14=.int .i64 j/\∃g',fL 59 50 2 S0 S' bc g' N R j (fun a r=>.big (lK N C U a r))) (fun O S=>N-co (O 14)) ?_ ?_
 .simp only[go_sem];exact⟨0,om,rfl,fun _=>0,fL.init fc (fun _ _=>rfl) _ _⟩
 rintro O S' ⟨j,hj,A,B,D,n,o,g',d⟩;have q:fM S0 S':=d.ext;obtain⟨gg4,u,E⟩:=id d.outer;by_cases i:j<N
 .obtain⟨I,J,F⟩:=id (q.has y.outer);have x0:I j=.sl 2 (g j) 0 R:=F j i;simp -dsimp only[*,go_sem,aa]
  repeat refine an ?_
  refine aG.intro fun bd fd=>?_;have hdc:bc≠bd:=bG.fresh d.outer fd;simp only[*,go_sem,fE];have v:=d.push dc fd u (fun _=>.big 0)
  generalize hgg:(fun a=>if a=j then bd else g' a)=gg at v
  have hgj:gg j=bd:=by rw[<-hgg];simp
  refine aI (fun O S'=>∃r:Nat,r<=R/\O 0=.sl 1 b 0 N/\O 1=.sl 1 bu 0 N/\O 4=.sl 1 bc 0 N/\O 5=.int .i64 j/\O 13=.int .i64 N/\O 14=.int .i64 j/\O 30=.int .i64 R/\O 31=.int .i64 r/\fL 59 50 2 S0 S' bc gg N R (j+1) (Fd N C U j r 0)) (fun O S=>R-co (O 31)) ?_ ?_
  .simp only[*,go_sem];refine⟨0,om,rfl,v.congr fun a c _ _=>?_⟩
   unfold Fd;by_cases e:a=j
   .simp[e,aq]
   .simp[e]
  clear v d q u E J F x0 A B D n o;rintro O S' ⟨r,hr,A,B,D,K,n,o,w,x,d⟩;by_cases p:r<R
  .simp only[*,go_sem];refine aI (fun O S'=>∃t:Nat,t<=N/\O 0=.sl 1 b 0 N/\O 1=.sl 1 bu 0 N/\O 4=.sl 1 bc 0 N/\O 5=.int .i64 j/\O 6=.int .i64 r/\O 13=.int .i64 N/\O 14=.int .i64 j/\O 30=.int .i64 R/\O 31=.int .i64 r/\O 35=.int .i64 N/\O 36=.int .i64 t/\fL 59 50 2 S0 S' bc gg N R (j+1) (Fd N C U j r t)) (fun O S=>N-co (O 36)) ?_ ?_
   .simp only[*,go_sem];exact⟨0,om,rfl,d⟩
   clear d A B D K n o w x;rintro O S' ⟨t,ht,A,B,D,K,e6,n,o,w,x,L,M,d⟩;by_cases l:t<N
   .have q:fM S0 S':=d.ext;obtain⟨I,J,F⟩:=id (q.has y.outer);obtain⟨g1,u1,v1⟩:=id (q.has (y.row t l));obtain⟨g2,u2,v2⟩:=id (q.has z.outer);obtain⟨g3,u3,v3⟩:=id (q.has (z.row t l));have x0:I t=.sl 2 (g t) 0 R:=F t l;have x1:g1 r=.big (C t r):=v1 r p;have x2:g2 t=.sl 2 (gu t) 0 N:=v2 t l;have x3:g3 j=.big (U t j):=v3 j i;have n1:=Y t r l p;have n2:=Z t j l i;simp -dsimp only[*,go_sem];refine bD 16 kr ?_
    simp -dsimp only[*,go_sem,aa];refine⟨_,(qr n1 n2 om).pure',?_⟩;refine aG.intro fun G P=>?_
    try simp -dsimp only[go_sem]
    refine o5 (fun T=>fL 59 50 2 S0 T bc gg N R (j+1) (Fd N C U j r t)/\en T G 50 2 (.big (C t r*U t j))/\(∀a,a<j+1->gg a≠G)/\bc≠G) ?_ ?_
    .have s8:=q.none P;have z1:bc≠G:=bG.fresh d.outer P;have z2:∀a,a<j+1->gg a≠G:=fun a m=>bG.fresh (d.row a m) P;refine⟨?_,?_,z2,z1⟩
     .repeat' first|exact d|refine fL.upd ?_ (by assumption) (by assumption) (by assumption) _
     .simp only[en.at_hit,bR,aK]
    rintro T ⟨Q,V,hn8,hc8⟩;obtain⟨g4,u4,E⟩:=id Q.outer;obtain⟨g5,u5,v5⟩:=id (Q.row j om);obtain⟨g6,u6,x6⟩:=id V;have x4:g4 j=.sl 2 (gg j) 0 R:=(E j i).trans (ah om);have x5:g5 r=.big (aq t (fun k=>C k r*U k j)):=(v5 r p).trans (by simp[Fd])
    refine bD 15 kr ?_
    simp only[go_sem,aa,A,B,D,K,e6,n,o,w,x,L,M,i,p,u4,x4,u5,x5,u6,x6,aS (om:t<1000000),co]
    have hs:=se (f:=fun a=>C a r*U a j) (k:=k+k) t (fun a m=>(Y a r om p).mul (Z a j om i));have hp:=(n1.mul n2).mono (om:k+k<=k+k+t)
    refine⟨_,(wO hs hp om).pure',trivial,⟨t+1,om,rfl,(Q.put dc (om:j<j+1) u5 r (.big (aq (t+1) (fun k=>C k r*U k j)))).congr fun a c _ _=>?_⟩,om⟩
    unfold Fd;by_cases e:a=j/\c=r
    .obtain⟨rfl,rfl⟩:=e;simp
    .rw[af e];by_cases s:a=j/\r<=c
     .rw[ah s,ah s,af (fun h=>e ⟨s.1,h⟩),af (fun h=>e ⟨s.1,h⟩)]
     .rw[af s,af s]
   have W:N=t:=om
   subst W;simp only[*,go_sem,cT,aS (om:r<1000000),co]
   refine⟨⟨r+1,om,rfl,d.congr fun a c _ hc=>?_⟩,om⟩
   unfold Fd;by_cases e:a=j/\r<=c
   .by_cases s:c=r
    .obtain⟨rfl,_⟩:=e;subst s;simp[lK];intro h;omega
    .rw[ah e,af s,ah ⟨e.1,om⟩];simp[aq]
   .rw[af e,af om]
  have H:R=r:=om
  subst H;simp only[*,go_sem,cT,aS (om:j<1000000),co]
  refine⟨⟨j+1,om,rfl,gg,d.congr fun a c _ hc=>?_⟩,om⟩
  unfold Fd;rw[af om]
 have X:N=j:=om
 subst X;obtain⟨I,J,F⟩:=id (q.has y.outer);simp -dsimp only[*,go_sem,aa,cT];refine F1 (e:=59) J u rfl rfl om (fun a m=>by rw[E a m];dsimp only;rw[ah m];trivial) ?_
 simp only[go_sem];refine⟨⟨g',bG.here fun a m=>?_,fun a m=>?_,d.inj⟩,(iW.ext q).upd (bW rfl) _⟩
 .simp only[jW,kv,m,aK,d6];rw[E a m];dsimp only;rw[ah m]
 .exact(d.row a m).upd (fun e=>by have:=d.rnew a m;rw[e]at this;exact y.some this) _

end Go.Proofs.YtdobfmlmenaajaaGreatDoor
