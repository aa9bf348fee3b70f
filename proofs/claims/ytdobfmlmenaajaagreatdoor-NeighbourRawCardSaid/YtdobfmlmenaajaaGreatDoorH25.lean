/-
  Lemmas for NeighbourRaw.
-/
import Derived.Test.YtdobfmlmenaajaaGreatDoorH24
namespace Go.Proofs.YtdobfmlmenaajaaGreatDoor
open Go.RowKit Tryz
open _root_.Option renaming none→ab
set_option maxHeartbeats 6400000
set_option maxRecDepth 4096
set_option linter.all false
attribute [local go_sem] Nat.reduceAdd Nat.reduceEqDiff Nat.reduceLeDiff Nat.reduceLT reduceCtorEq Int.ofNat_lt decide_true decide_false Int.zero_le_ofNat
attribute [local go_sem ↓] reduceIte
variable{Q:AX->Tm->St->Prop}{ops:Array Oper}{c:Code}{p z:Int}{BL:List (Nat×AV)}{args:List AV}{N b b11 b7 es f i m ty:Nat}{g0 g1:Nat->AV}{M d v1 v2:Nat->Int}{g g':Nat->Nat}{o:Oper}{G:Prop}{S S' T:St}{O:Tm}{K:Tm->St->Prop}{C C' w:aI}{L:iB->Prop}
def oU(A:aI)(i j:Nat)(a b x y:Int):aI:=fun c r=>if c=i then a*A i r+b*A j r else if c=j then x*A j r+-y*A i r else A c r
def Hi(A:aI)(j f:Nat)(M:Int):aI:=fun c r=>if c=j/\f<=r then A c r%M else A c r
def BC(A:aI)(i j:Nat)(M:Int):aI:=if A j i=0 then A else
 Hi (Hi (oU A i j (bz (A i i).toNat (A j i).toNat).2.1 (bz (A i i).toNat (A j i).toNat).2.2 (A i i/(bz (A i i).toNat (A j i).toNat).1) (A j i/(bz (A i i).toNat (A j i).toNat).1)) i i M) j i M
def lB(h:0<=z/\z<PB):nb z KB:=GI ⟨om,h.2⟩
def AC{x y:Int}(a:0<=x/\x<PB)(b:0<=y/\y<PB)(d:x≠0∨y≠0):PF 268 [.big x,.big y] (.tup [.big (bz x.toNat y.toNat).1,.big (bz x.toNat y.toNat).2.1,.big (bz x.toNat y.toNat).2.2]):=by
 have c:=mY;have:=Lr x.toNat y.toNat KB om om (R5 a) (R5 b) om;rw[cY a.1,cY b.1]at this;exact this
structure wW(T:St)(b:Nat)(g:Nat->Nat)(N m i j:Nat)(v1 v2:Nat->Int)(PL:List (Nat×Nat×AV))(BL:List (Nat×AV))(L:Nat->Bool)(O:Tm)(S:St):Prop where
 base:∀e∈BL,O e.1=e.2
 pure:∀e∈PL,L e.1=true->O e.2.1=e.2.2
 mem:∃c1 c2,(L 9=true->O 60=.sl 2 c1 0 m/\jp S c1 m v1/\T c1=ab)/\(L 16=true->O 67=.sl 2 c2 0 m/\jp S c2 m v2/\T c2=ab/\c1≠c2)/\bM S b 59 1 N (fun k=>.sl 2 (if L 18=true/\k=i then c1 else if L 20=true/\k=j then c2 else g k) 0 m)
 keep:iS b T S
 ord:(L 15=true->L 9=true)/\(L 16=true->L 15=true)/\(L 18=true->L 16=true)/\(L 20=true->L 18=true)
def wW.put{j:Nat}{PL:List (Nat×Nat×AV)}{L:Nat->Bool}(h:wW T b g N m i j v1 v2 PL BL L O S){k d:Nat}{z:AV}
  (s:∀e∈PL,e.1=k->e.2.2=z) (u:∀e∈PL,e.1≠k->e.2.1≠d) (p:∀e∈PL,e.1=k->e.2.1=d) (v:∀e∈BL,e.1≠d) (q:d≠60/\d≠67) (a:k≠9/\k≠16/\k≠18/\k≠20) (w:k=15->L 9=true) :
  wW T b g N m i j v1 v2 PL BL (fun c=>if c=k then true else L c) (O.put (some d) z) S:=by
 have l:∀t,t≠d->(O.put (some d) z) t=O t:=fun t x=>by rw[Tm.put_eq];exact af x
 have y:(O.put (some d) z) d=z:=by rw[Tm.put_eq];exact ai rfl
 refine⟨fun e f=>by rw[l _ (v e f)];exact h.base e f,fun e f r=>?_,?_,h.keep,?_⟩
 .by_cases n:e.1=k
  .rw[p e f n,y,s e f n]
  .rw[l _ (u e f n)];simp only[n,aS]at r;exact h.pure e f r
 .obtain⟨A,B,C,D,E⟩:=h.mem;refine⟨A,B,?_,?_,?_⟩
  .rw[af (aj a.1),l _ (aj q.1)];exact C
  .rw[af (aj a.2.1),l _ (aj q.2)];exact D
  .rw[af (aj a.2.2.1),af (aj a.2.2.2)];exact E
 .obtain⟨F,G,H,I⟩:=h.ord;rw[af (aj a.1),af (aj a.2.1),af (aj a.2.2.1),af (aj a.2.2.2)];refine⟨fun o=>?_,fun o=>?_,H,I⟩
  .by_cases e:15=k
   .exact w e.symm
   .rw[af e]at o;exact F o
  .by_cases e:15=k
   .rw[ai e]
   .rw[af e];exact G o
structure OB(S0 S:St)(b b7 b8 b9 b11 b12:Nat)(g:Nat->Nat)(N m:Nat)(A:aI)(M x y a b':Int):Prop where
 mat:dH S b g N m A
 cols:ny S0 S b g g N
 v7:ed S b7 50 2 (.big M)
 v8:ed S b8 50 2 (.big x)
 v9:ed S b9 50 2 (.big y)
 v11:ed S b11 50 2 (.big a)
 v12:ed S b12 50 2 (.big b')
 n7:S0 b7=ab
section
variable {S0 T:St} {b b7 b8 b9 b11 b12:Nat} {g:Nat->Nat} {N m i j:Nat} {A:aI} {M x y a b':Int} {v1 v2:Nat->Int} {PL:List (Nat×Nat×AV)} {BL:List (Nat×AV)} {L:Nat->Bool} {O:Tm} {S:St}
def iS.fresh(h:iS b T S)(d:S b≠ab){c:Nat}(a:S c=ab):T c=ab:=by
 cases e:T c with
 | none=>rfl
 | some X =>
  have:c≠b:=fun f=>d (f▸a);rw[h c X e this]at a;cases a
def wW.off(h:wW T b g N m i j v1 v2 PL BL L O S)(c:L 16=false):L 18=false/\L 20=false:=by
 obtain⟨k,l,d,f⟩:=h.ord;have a:L 18=false:=by cases e:L 18 with
  | false=>rfl
  | true=>rw[d e]at c;cases c
 refine⟨a,?_⟩
 cases e:L 20 with
 | false=>rfl
 | true=>rw[f e]at a;cases a
def wW.colS(d:OB S0 T b b7 b8 b9 b11 b12 g N m A M x y a b')(h:wW T b g N m i j v1 v2 PL BL L O S)(c:L 16=false):rJ S b g N m A:=by
 obtain⟨o,p,q,r,f⟩:=h.mem;obtain⟨l,n⟩:=h.off c;exact⟨f.congr fun k _=>by simp[l,n],fun k e=>h.keep.has (d.mat.row k e) (aj (d.mat.outer_ne e))⟩
def wW.call9(D:OB S0 T b b7 b8 b9 b11 b12 g N m A M x y a b')(h:wW T b g N m i j (fun r=>a*A i r+b'*A j r) v2 PL BL L O S)(q:L 9=false)(E:i<j)(F:j<N)(G:m<=100)(H:∀c r,c<N->r<m->0<=A c r/\A c r<PB)(na:nb a KB)(nb':nb b' KB)
  (s:∀e∈PL,e.1≠9/\e.2.1≠60) (I:∀e∈BL,e.1≠60) :
  cP 269 [.sl 1 b 0 N,.int .i64 i,.big a,.int .i64 j,.big b'] S (fun z S'=>wW T b g N m i j (fun r=>a*A i r+b'*A j r) v2 PL BL (fun k=>if k=9 then true else L k) (O.put (some 60) z) S'):=by
 have J:=mY;obtain⟨K,P,Z,o4⟩:=h.ord;have l:L 15=false:=by cases e:L 15 with
  | false=>rfl
  | true=>rw[K e]at q;cases q
 have f:L 16=false:=by cases e:L 16 with
  | false=>rfl
  | true=>rw[P e]at l;cases l
 obtain⟨u,v⟩:=h.off f;have d:=wW.colS D h f;refine(nZ N m KB i j A a b' om F G (fun c r Q R=>lB (H c r Q R)) na nb' om _ _ (fI.first d.vr.va)).mono ?_
 rintro _ S1 ⟨o,rfl,U,w,V⟩;have B:∀t,t≠60->(O.put (some 60) (.sl 2 o 0 m)) t=O t:=fun t W=>by rw[Tm.put_eq];exact af W
 have X:(O.put (some 60) (.sl 2 o 0 m)) 60=.sl 2 o 0 m:=by rw[Tm.put_eq];exact ai rfl
 have p:S b≠ab:=by obtain⟨z,k,_⟩:=d.outer;rw[k];simp
 refine⟨fun e n=>by rw[B _ (I e n)];exact h.base e n,fun e n C=>?_,⟨o,0,fun _=>⟨X,U,h.keep.fresh p V⟩,fun Y=>?_,?_⟩,h.keep.trans (iS.ext w),?_⟩
 .rw[B _ (s e n).2];simp only[(s e n).1,aS]at C;exact h.pure e n C
 .simp[f]at Y
 .refine(w.has d.outer).congr fun k _=>?_;simp[u,v]
 .simp[l,f,u,v]
def wW.call16(F:OB S0 T b b7 b8 b9 b11 b12 g N m A M x y a b')(h:wW T b g N m i j v1 (fun r=>x*A j r+-y*A i r) PL BL L O S)(s:L 16=false)(f:L 15=true)(G:i<j)(H:j<N)(I:m<=100)(J:∀c r,c<N->r<m->0<=A c r/\A c r<PB)(na:nb x KB)(nb':nb y KB)
  (u:∀e∈PL,e.1≠16/\e.2.1≠67) (K:∀e∈BL,e.1≠67) :
  cP 269 [.sl 1 b 0 N,.int .i64 j,.big x,.int .i64 i,.big (-y)] S (fun z S'=>wW T b g N m i j v1 (fun r=>x*A j r+-y*A i r) PL BL (fun k=>if k=16 then true else L k) (O.put (some 67) z) S'):=by
 have P:=mY;obtain⟨v,o2,o3,o4⟩:=h.ord;obtain⟨w,B⟩:=h.off s;have d:=wW.colS F h s;refine(nZ N m KB j i A x (-y) H om I (fun c r Q R=>lB (J c r Q R)) na nb'.neg om _ _ (fI.first d.vr.va)).mono ?_
 rintro _ S1 ⟨n,rfl,U,o,C⟩;have p:∀t,t≠67->(O.put (some 67) (.sl 2 n 0 m)) t=O t:=fun t V=>by rw[Tm.put_eq];exact af V
 have W:(O.put (some 67) (.sl 2 n 0 m)) 67=.sl 2 n 0 m:=by rw[Tm.put_eq];exact ai rfl
 have q:S b≠ab:=by obtain⟨z,k,_⟩:=d.outer;rw[k];simp
 obtain⟨X,_,Y,_,_⟩:=h.mem;obtain⟨Z,D,q3⟩:=Y (v f);refine⟨fun e l=>by rw[p _ (K e l)];exact h.base e l,fun e l E=>?_,⟨X,n,fun _=>⟨by rw[p _ dc];exact Z,o.has D,q3⟩,fun _=>⟨W,U,h.keep.fresh q C,bM.fresh D C⟩,?_⟩,h.keep.trans (iS.ext o),?_⟩
 .rw[p _ (u e l).2];simp only[(u e l).1,aS]at E;exact h.pure e l E
 .refine(o.has d.outer).congr fun k _=>?_;simp[w,B]
 .simp[f,v f,w,B]
def wW.st18(h:wW T b g N m i j v1 v2 PL BL L O S)(n:L 9=true)(a:L 16=true)(o:L 18=false)(v:i<j)(K:j<N)(w:∀e∈PL,e.1≠18) :
  ∃c f,O 60=.sl 2 c 0 m/\S b=some ⟨59,1,N,f⟩/\wW T b g N m i j v1 v2 PL BL (fun k=>if k=18 then true else L k) O (S.upd b ⟨59,1,N,bW f i (.sl 2 c 0 m)⟩):=by
 obtain⟨M,x,P,y⟩:=h.ord;have d:L 20=false:=by cases e:L 20 with
  | false=>rfl
  | true=>rw[y e]at o;cases o
 obtain⟨c,p,z,A,l⟩:=h.mem;obtain⟨q,r,B⟩:=z n;obtain⟨C,s,D,E⟩:=A a;obtain⟨f,F,G⟩:=id l;have H:c≠b:=aj (bM.ne l r dc)
 have I:p≠b:=aj (bM.ne l s dc)
 refine⟨c,f,q,F,h.base,fun e t u=>?_,⟨c,p,fun _=>⟨q,r.upd H _,B⟩,fun _=>⟨C,s.upd I _,D,E⟩,bM.here fun k J=>?_⟩,h.keep.upd (bF rfl) _,?_⟩
 .simp only[w e t,aS]at u;exact h.pure e t u
 .have:=G k J;simp only[bW];by_cases e:k=i
  .simp[e]
  .rw[af e,this];simp[e,d]
 .simp[n,a,d,x a]
def wW.st20(h:wW T b g N m i j v1 v2 PL BL L O S)(a:L 16=true)(c:L 18=true)(I:L 20=false)(v:i<j)(J:j<N)(w:∀e∈PL,e.1≠20) :
  ∃d f,O 67=.sl 2 d 0 m/\S b=some ⟨59,1,N,f⟩/\wW T b g N m i j v1 v2 PL BL (fun k=>if k=20 then true else L k) O (S.upd b ⟨59,1,N,bW f j (.sl 2 d 0 m)⟩):=by
 obtain⟨o,l,K,M⟩:=h.ord;obtain⟨p,d,x,y,n⟩:=h.mem;obtain⟨z,q,A⟩:=x (o (l a));obtain⟨r,s,B,C⟩:=y a;obtain⟨f,D,E⟩:=id n;have F:p≠b:=aj (bM.ne n q dc)
 have G:d≠b:=aj (bM.ne n s dc)
 refine⟨d,f,r,D,h.base,fun e t u=>?_,⟨p,d,fun _=>⟨z,q.upd F _,A⟩,fun _=>⟨r,s.upd G _,B,C⟩,bM.here fun k H=>?_⟩,h.keep.upd (bF rfl) _,?_⟩
 .simp only[w e t,aS]at u;exact h.pure e t u
 .have:=E k H;simp only[bW];by_cases e:k=j
  .have:¬j=i:=om
   simp[e,c,this]
  .rw[af e,this];simp[e,c]
 .simp[a,c,l a,o (l a)]
def wW.fin(s:OB S0 T b b7 b8 b9 b11 b12 g N m A M x y a b')(h:wW T b g N m i j (fun r=>a*A i r+b'*A j r) (fun r=>x*A j r+-y*A i r) PL BL L O S)(t:∀k,k<21->L k=true)(H:i<j):∃g',dH S b g' N m (oU A i j a b' x y)/\ny T S b g g' N:=by
 obtain⟨B,C,I,J,K⟩:=h.mem;obtain⟨U,P,D⟩:=I (t 9 om);obtain⟨V,Q,E,F⟩:=J (t 16 om);have G:∀k,k<N->T (g k)≠ab:=fun k c=>by obtain⟨z,e,_⟩:=s.mat.row k c;rw[e];simp
 refine⟨fun k=>if k=i then B else if k=j then C else g k,⟨K.congr fun k _=>by simp[t 18 om,t 20 om],fun k c=>?_,fun k l c u e=>?_⟩,fun k X R c _=>h.keep k X R c,fun k c=>?_⟩
 .by_cases v:k=i
  .simp only[v,aQ];exact P.congr fun r _=>by simp[oU]
  .by_cases w:k=j
   .simp only[w,aQ,(om:¬j=i),aS]
    exact Q.congr fun r _=>by simp[oU,(om:¬j=i)]
   .simp only[v,w,aS];exact(h.keep.has (s.mat.row k c) (aj (s.mat.outer_ne c))).congr fun r _=>by simp[oU,v,w]
 .have p:∀k,k<N->g k≠B:=fun k c e=>G k c (e▸D);have q:∀k,k<N->g k≠C:=fun k c e=>G k c (e▸E);by_cases d:k=i
  .by_cases f:l=i
   .omega
   .by_cases o:l=j
    .rw[ai d,af f,ai o]at e;exact absurd e F
    .rw[ai d,af f,af o]at e;exact absurd e.symm (p l u)
  .by_cases n:k=j
   .by_cases f:l=i
    .rw[af d,ai n,ai f]at e;exact absurd e.symm F
    .by_cases o:l=j
     .omega
     .rw[af d,ai n,af f,af o]at e;exact absurd e.symm (q l u)
   .by_cases f:l=i
    .rw[af d,af n,ai f]at e;exact absurd e (p k c)
    .by_cases o:l=j
     .rw[af d,af n,af f,ai o]at e;exact absurd e (q k c)
     .rw[af d,af n,af f,af o]at e;exact s.mat.inj k l c u e
 .by_cases d:k=i
  .simp only[d,aQ];exact bH D
  .by_cases n:k=j
   .simp only[n,aQ,(om:¬j=i),aS];exact bH E
   .simp only[d,n,aS];exact bF ⟨k,c,rfl⟩
end
def oK(P:St->Prop)(a:P S)(h:∀T,P T->L3 ops O T K):L3 ops O S K:=h S a
def dV(h:o.guard=ab)(k:OE o O S (fun z S'=>K (O.put o.dst z) S')):Bj ops o O S K:=by unfold Bj;rw[h];exact k
def Iv(S0:St)(b:Nat)(g:Nat->Nat)(N m i j:Nat)(A:aI)(M:Int)(v:i<j)(q:j<N)(K:i<m)(hm:m<=100)(hM:0<M)(R:nb M KB)(B:∀c r,c<N->r<m->0<=A c r/\A c r<PB)(s:dH S0 b g N m A) :
  cP 267 [.sl 1 b 0 N,.int .i64 i,.int .i64 j,.big M] S0 (fun _ S'=>∃g',dH S' b g' N m (BC A i j M)/\ny S0 S' b g g' N):=by
 have hKB:=mY;refine iw func267 rfl 80 ntmps267 kr sm ?_
 rw[lA,results267];have n:i<N:=om
 simp -dsimp only[go_sem];refine aF.intro fun b7 f7=>?_;have C:=s.ext ((ft.refl S0).upd f7 ⟨50,2,1,fun _=>.big M⟩);obtain⟨g1,u1,v1⟩:=id C.outer;obtain⟨g2,u2,v2⟩:=id (C.row i n);obtain⟨g3,u3,v3⟩:=id (C.row j q);have x1:g1 i=.sl 2 (g i) 0 m:=v1 i n;have x2:g1 j=.sl 2 (g j) 0 m:=v1 j q;have x3:g2 i=.big (A i i):=v2 i K;have x4:g3 i=.big (A j i):=v3 i K;refine pB 16 [[7,8,9,10,11,12,13],[]] kr ?_
 simp -dsimp only[go_sem,aa,u1,x1,x2,u2,x3,u3,x4,n,q,K];refine aF.intro fun b8 f8=>?_;have n8_7:=(ag f8).1
 try simp -dsimp only[go_sem]
 refine aF.intro fun b9 f9=>?_;have n9_8:=(ag f9).1;have n9_7:=(ag (ag f9).2).1;have s8:S0 b8=ab:=(ag f8).2;have s9:S0 b9=ab:=(ag (ag f9).2).2;have w7:b≠b7:=bM.fresh s.outer f7;have w8:b≠b8:=bM.fresh s.outer s8;have w9:b≠b9:=bM.fresh s.outer s9;have y7:∀a,a<N->g a≠b7:=fun a f=>bM.fresh (s.row a f) f7;have y8:∀a,a<N->g a≠b8:=fun a f=>bM.fresh (s.row a f) s8;have y9:∀a,a<N->g a≠b9:=fun a f=>bM.fresh (s.row a f) s9;have w8i:=y8 i n;have w8j:=y8 j q;have w9i:=y9 i n;have w9j:=y9 j q;simp -dsimp only[go_sem,u1,x2,u3,x4,q,K,bW,w8,w8j,w9,w9j,nn n9_8];have ki:=B i i n K;have kj:=B j i q K;refine(kY (lB kj) om).call ?_;by_cases hz:A j i=0
 .simp -dsimp only[go_sem,hz,show(Int.sign 0==0)=true from rfl];refine⟨g,?_,?_⟩
  .rw[BC,ai hz]
   repeat' first|exact s|refine dH.upd ?_ (by assumption) (by assumption) _
  .repeat' first|exact ny.refl S0 b g N|refine ny.upd ?_ (bH (bH (by assumption))) _
 .have hs:((A j i).sign==0)=false:=by
   have:(A j i).sign=1:=dl om;rw[this];rfl
  simp -dsimp only[go_sem,aa,hs,aj n9_8,eZ];refine(AC om om (bH hz)).call ?_;generalize E:bz (A i i).toNat (A j i).toNat=D at *;simp -dsimp only[go_sem,eZ];refine aF.intro fun F t=>?_;have n10_9:=(ag t).1;have n10_8:=(ag (ag t).2).1;have n10_9:=(ag (ag (ag t).2).2).1;have n10_8:=(ag (ag (ag (ag t).2).2).2).1;have n10_7:=(ag (ag (ag (ag (ag t).2).2).2).2).1;simp -dsimp only[go_sem];refine aF.intro fun b11 p=>?_;have n11_10:=(ag p).1;have n11_9:=(ag (ag p).2).1;have n11_8:=(ag (ag (ag p).2).2).1;have n11_9:=(ag (ag (ag (ag p).2).2).2).1;have n11_8:=(ag (ag (ag (ag (ag p).2).2).2).2).1;have n11_7:=(ag (ag (ag (ag (ag (ag p).2).2).2).2).2).1;simp -dsimp only[go_sem];refine aF.intro fun b12 o=>?_;have n12_11:=(ag o).1;have n12_10:=(ag (ag o).2).1;have n12_9:=(ag (ag (ag o).2).2).1;have n12_8:=(ag (ag (ag (ag o).2).2).2).1;have n12_9:=(ag (ag (ag (ag (ag o).2).2).2).2).1;have n12_8:=(ag (ag (ag (ag (ag (ag o).2).2).2).2).2).1;have n12_7:=(ag (ag (ag (ag (ag (ag (ag o).2).2).2).2).2).2).1;simp -dsimp only[go_sem,aa,nn n11_10,nn n12_10,nn n12_11,aj n9_8,aj n10_8,aj n11_8,aj n12_8,eZ];have U:S0 F=ab:=(ag (ag (ag (ag (ag t).2).2).2).2).2;have V:S0 b11=ab:=(ag (ag (ag (ag (ag (ag p).2).2).2).2).2).2;have W:S0 b12=ab:=(ag (ag (ag (ag (ag (ag (ag o).2).2).2).2).2).2).2;have w10:b≠F:=bM.fresh s.outer U;have w11:b≠b11:=bM.fresh s.outer V;have w12:b≠b12:=bM.fresh s.outer W;have y10:∀a,a<N->g a≠F:=fun a f=>bM.fresh (s.row a f) U;have y11:∀a,a<N->g a≠b11:=fun a f=>bM.fresh (s.row a f) V;have y12:∀a,a<N->g a≠b12:=fun a f=>bM.fresh (s.row a f) W;have G:=AA (A j i).toNat (A i i).toNat (A j i).toNat om (bH om);have hD2:=NY (A j i).toNat (A i i).toNat (A j i).toNat om om;rw[E]at G hD2;have nD1:nb D.1 KB:=GI om;have nD2:nb D.2.1 KB:=GI om;have nD3:nb D.2.2 KB:=GI om;refine(jl (lB ki) nD1 om om).call ?_;simp -dsimp only[go_sem,aa,nn n9_8,nn n10_8,aj n10_9,aj n11_8,aj n11_9,aj n11_10,aj n12_8,aj n12_9,aj n12_10,eZ];refine(jl (lB kj) nD1 om om).call ?_;simp -dsimp only[go_sem,aa,n9_8,aj n10_9,aj n11_9,aj n12_9,eZ];have X:nb (A i i/D.1) KB:=by
   have:=oJ D.1 ki.1;have:=mL ki.1 (ck G.1);exact GI om
  have H:nb (A j i/D.1) KB:=by
   have:=oJ D.1 kj.1;have:=mL kj.1 (ck G.1);exact GI om
  refine oK (fun T=>OB S0 T b b7 b8 b9 b11 b12 g N m A M (A i i/D.1) (A j i/D.1) D.2.1 D.2.2) ?_ ?_
  .constructor
   .repeat' first|exact s|refine dH.upd ?_ (by assumption) (by assumption) _
   .repeat' first|exact ny.refl S0 b g N|refine ny.upd ?_ (bH (bH (by assumption))) _
   all_goals first|exact f7|simp only[ed.at_hit,ed.at_miss,EG,iV,bW,aQ,n11_8,n11_9,n12_8,n12_9,aj n8_7,aj n9_7,aj n9_8,aj n10_7,aj n11_7,aj n12_7,aj n12_11]
  intro T u;generalize hxx:A i i/D.1=x' at *;generalize hyy:A j i/D.1=y' at *;refine CH (wW T b g N m i j (fun r=>D.2.1*A i r+D.2.2*A j r) (fun r=>x'*A j r+-y'*A i r) [(0,51,.sl 1 b 0 N),(1,52,.int .i64 i),(2,53,.sl 1 b 0 N),(3,54,.int .i64 j),(4,55,.sl 1 b 0 N),(5,56,.int .i64 i),(6,57,.big D.2.1),(7,58,.int .i64 j),(8,59,.big D.2.2),(10,61,.sl 1 b 0 N),(11,62,.int .i64 j),(12,63,.big x'),(13,64,.int .i64 i),(14,65,.big y'),(15,66,.big (-y')),(17,68,.ptr 1 b i),(19,69,.ptr 1 b j)] [(0,.sl 1 b 0 N),(1,.int .i64 i),(2,.int .i64 j),(7,.ptr 2 b7 0),(8,.ptr 2 b8 0),(9,.ptr 2 b9 0),(11,.ptr 2 b11 0),(12,.ptr 2 b12 0)]) kr ?_ ?_ ?_
  .refine⟨?_,(fun e _ h=>by cases h),⟨0,0,(fun h=>by cases h),(fun h=>by cases h),u.mat.outer.congr fun k _=>by simp⟩,iS.refl _ _,sm⟩
   simp only[bn,bS,cB,cM,yN];simp -dsimp only[go_sem]
  .clear f8 f9 t p o E;refine⟨?_,?_,?_,?_,?_,?_,?_,?_,?_,?_,?_,?_,?_,?_,?_,?_,?_,?_,?_,?_,?_,trivial⟩
   .intro L O S d l f;have al:∀k,_->L k=true:=aG.1 f;refine dV rfl ?_;have w:O 0=.sl 1 b 0 N:=d.base (0,.sl 1 b 0 N) sm
    simp -dsimp only[go_sem,w];exact d.put sm sm sm sm dc dc (by intro h;cases h)
   .intro L O S d l f;have al:∀k,_->L k=true:=aG.1 f;refine dV rfl ?_;have x:O 1=.int .i64 i:=d.base (1,.int .i64 i) sm
    simp -dsimp only[go_sem,x];exact d.put sm sm sm sm dc dc (by intro h;cases h)
   .intro L O S d l f;have al:∀k,_->L k=true:=aG.1 f;refine dV rfl ?_;have w:O 0=.sl 1 b 0 N:=d.base (0,.sl 1 b 0 N) sm
    simp -dsimp only[go_sem,w];exact d.put sm sm sm sm dc dc (by intro h;cases h)
   .intro L O S d l f;have al:∀k,_->L k=true:=aG.1 f;refine dV rfl ?_;have I:O 2=.int .i64 j:=d.base (2,.int .i64 j) sm
    simp -dsimp only[go_sem,I];exact d.put sm sm sm sm dc dc (by intro h;cases h)
   .intro L O S d l f;have al:∀k,_->L k=true:=aG.1 f;refine dV rfl ?_;have w:O 0=.sl 1 b 0 N:=d.base (0,.sl 1 b 0 N) sm
    simp -dsimp only[go_sem,w];exact d.put sm sm sm sm dc dc (by intro h;cases h)
   .intro L O S d l f;have al:∀k,_->L k=true:=aG.1 f;refine dV rfl ?_;have x:O 1=.int .i64 i:=d.base (1,.int .i64 i) sm
    simp -dsimp only[go_sem,x];exact d.put sm sm sm sm dc dc (by intro h;cases h)
   .intro L O S d l f;have al:∀k,_->L k=true:=aG.1 f;refine dV rfl ?_;have e11:O 11=.ptr 2 b11 0:=d.base (11,.ptr 2 b11 0) sm
    obtain⟨gg,uu,xx⟩:=d.keep.var u.v11 (aj w11);simp -dsimp only[go_sem,e11,uu,xx];exact d.put sm sm sm sm dc dc (by intro h;cases h)
   .intro L O S d l f;have al:∀k,_->L k=true:=aG.1 f;refine dV rfl ?_;have I:O 2=.int .i64 j:=d.base (2,.int .i64 j) sm
    simp -dsimp only[go_sem,I];exact d.put sm sm sm sm dc dc (by intro h;cases h)
   .intro L O S d l f;have al:∀k,_->L k=true:=aG.1 f;refine dV rfl ?_;have e12:O 12=.ptr 2 b12 0:=d.base (12,.ptr 2 b12 0) sm
    obtain⟨gg,uu,xx⟩:=d.keep.var u.v12 (aj w12);simp -dsimp only[go_sem,e12,uu,xx];exact d.put sm sm sm sm dc dc (by intro h;cases h)
   .intro L O S d l f;have al:∀k,_->L k=true:=aG.1 f;refine dV rfl ?_;have p4:O 55=.sl 1 b 0 N:=d.pure (4,55,.sl 1 b 0 N) sm (al 4 dc)
    have p5:O 56=.int .i64 i:=d.pure (5,56,.int .i64 i) sm (al 5 dc)
    have p6:O 57=.big D.2.1:=d.pure (6,57,.big D.2.1) sm (al 6 dc)
    have p7:O 58=.int .i64 j:=d.pure (7,58,.int .i64 j) sm (al 7 dc)
    have p8:O 59=.big D.2.2:=d.pure (8,59,.big D.2.2) sm (al 8 dc)
    simp -dsimp only[go_sem,p4,p5,p6,p7,p8];exact wW.call9 u d l v q hm B nD2 nD3 sm sm
   .intro L O S d l f;have al:∀k,_->L k=true:=aG.1 f;refine dV rfl ?_;have w:O 0=.sl 1 b 0 N:=d.base (0,.sl 1 b 0 N) sm
    simp -dsimp only[go_sem,w];exact d.put sm sm sm sm dc dc (by intro h;cases h)
   .intro L O S d l f;have al:∀k,_->L k=true:=aG.1 f;refine dV rfl ?_;have I:O 2=.int .i64 j:=d.base (2,.int .i64 j) sm
    simp -dsimp only[go_sem,I];exact d.put sm sm sm sm dc dc (by intro h;cases h)
   .intro L O S d l f;have al:∀k,_->L k=true:=aG.1 f;refine dV rfl ?_;have e8:O 8=.ptr 2 b8 0:=d.base (8,.ptr 2 b8 0) sm
    obtain⟨gg,uu,xx⟩:=d.keep.var u.v8 (aj w8);simp -dsimp only[go_sem,e8,uu,xx];exact d.put sm sm sm sm dc dc (by intro h;cases h)
   .intro L O S d l f;have al:∀k,_->L k=true:=aG.1 f;refine dV rfl ?_;have x:O 1=.int .i64 i:=d.base (1,.int .i64 i) sm
    simp -dsimp only[go_sem,x];exact d.put sm sm sm sm dc dc (by intro h;cases h)
   .intro L O S d l f;have al:∀k,_->L k=true:=aG.1 f;refine dV rfl ?_;have e9:O 9=.ptr 2 b9 0:=d.base (9,.ptr 2 b9 0) sm
    obtain⟨gg,uu,xx⟩:=d.keep.var u.v9 (aj w9);simp -dsimp only[go_sem,e9,uu,xx];exact d.put sm sm sm sm dc dc (by intro h;cases h)
   .intro L O S d l f;have al:∀k,_->L k=true:=aG.1 f;refine dV rfl ?_;have p14:O 65=.big y':=d.pure (14,65,.big y') sm (al 14 dc)
    simp -dsimp only[go_sem,p14];refine(sW H om).call ?_;simp -dsimp only[go_sem];exact d.put sm sm sm sm dc dc (fun _=>al 9 dc)
   .intro L O S d l f;have al:∀k,_->L k=true:=aG.1 f;refine dV rfl ?_;have p10:O 61=.sl 1 b 0 N:=d.pure (10,61,.sl 1 b 0 N) sm (al 10 dc)
    have p11:O 62=.int .i64 j:=d.pure (11,62,.int .i64 j) sm (al 11 dc)
    have p12:O 63=.big x':=d.pure (12,63,.big x') sm (al 12 dc)
    have p13:O 64=.int .i64 i:=d.pure (13,64,.int .i64 i) sm (al 13 dc)
    have p15:O 66=.big (-y'):=d.pure (15,66,.big (-y')) sm (al 15 dc)
    simp -dsimp only[go_sem,p10,p11,p12,p13,p15];exact wW.call16 u d l (al 15 dc) v q hm B X H sm sm
   .intro L O S d l f;have al:∀k,_->L k=true:=aG.1 f;refine dV rfl ?_;have p0:O 51=.sl 1 b 0 N:=d.pure (0,51,.sl 1 b 0 N) sm (al 0 dc)
    have p1:O 52=.int .i64 i:=d.pure (1,52,.int .i64 i) sm (al 1 dc)
    simp -dsimp only[go_sem,p0,p1,n];exact d.put sm sm sm sm dc dc (by intro h;cases h)
   .intro L O S d l f;have al:∀k,_->L k=true:=aG.1 f;refine dV rfl ?_;have p17:O 68=.ptr 1 b i:=d.pure (17,68,.ptr 1 b i) sm (al 17 dc)
    obtain⟨c1,g1,P,Q,q3⟩:=d.st18 (al 9 dc) (al 16 dc) l v q sm
    simp -dsimp only[go_sem,aa,p17,P,Q,n];exact q3
   .intro L O S d l f;have al:∀k,_->L k=true:=aG.1 f;refine dV rfl ?_;have p2:O 53=.sl 1 b 0 N:=d.pure (2,53,.sl 1 b 0 N) sm (al 2 dc)
    have p3:O 54=.int .i64 j:=d.pure (3,54,.int .i64 j) sm (al 3 dc)
    simp -dsimp only[go_sem,p2,p3,q];exact d.put sm sm sm sm dc dc (by intro h;cases h)
   .intro L O S d l f;have al:∀k,_->L k=true:=aG.1 f;refine dV rfl ?_;have p19:O 69=.ptr 1 b j:=d.pure (19,69,.ptr 1 b j) sm (al 19 dc)
    obtain⟨c2,g1,P,Q,q3⟩:=d.st20 (al 16 dc) (al 18 dc) l v q sm
    simp -dsimp only[go_sem,aa,p19,P,Q,q];exact q3
  .intro L O S d l;obtain⟨g',Y,Z⟩:=wW.fin u d l v;have w:O 0=.sl 1 b 0 N:=d.base (0,.sl 1 b 0 N) sm
   have x:O 1=.int .i64 i:=d.base (1,.int .i64 i) sm
   have I:O 2=.int .i64 j:=d.base (2,.int .i64 j) sm
   have e7:O 7=.ptr 2 b7 0:=d.base (7,.ptr 2 b7 0) sm
   obtain⟨gg,uu,xx⟩:=d.keep.var u.v7 (aj w7);simp -dsimp only[go_sem,aa,w,x,e7,uu,xx];have nC:∀c r,c<N->r<m->nb (oU A i j D.2.1 D.2.2 x' y' c r) (KB+KB+1):=fun c r hc J=>by
    have P:=lB (B i r n J);have Q:=lB (B j r q J);unfold oU;split
    .exact(nD2.mul P).add (nD3.mul Q)
    .split
     .exact(X.mul Q).add (H.neg.mul P)
     .exact(lB (B c r hc J)).mono om
   obtain⟨z7,k7,_⟩:=id u.v7;have g7:∀a,a<N->g' a≠b7:=Z.ne k7 y7;refine(oo S b g' N m i i _ M n hm om hM (KB+KB+1) (R.mono om) om (fun r J=>nC i r n J) Y).mono ?_;rintro _ S1 ⟨y,z⟩;obtain⟨g3,u3,x3⟩:=z.var ⟨gg,uu,xx⟩ (aj w7) g7;simp -dsimp only[go_sem,aa,w,x,I,e7,u3,x3];refine(oo S1 b g' N m j i _ M q hm om hM (KB+KB+1) (R.mono om) om (fun r J=>?_) y).mono ?_
   .rw[af om];exact nC j r q J
   rintro _ S2 ⟨hO2',hC2'⟩;simp -dsimp only[go_sem];refine⟨g',?_,(u.cols.trans (Z.trans (z.trans hC2' y.some) Y.some) u.mat.some)⟩;have e:BC A i j M=Hi (Hi (oU A i j D.2.1 D.2.2 x' y') i i M) j i M:=by
    rw[BC,af hz,E,hxx,hyy]
   rw[e];exact hO2'

def TL.M_le(h:TL N L d M):∀i,i<=N->M i<=M 0
 | 0,_=>o5 _
 | i+1,a=>by
  have b:=h.M_le i om;have c:=h.step i om;have e:=h.pos i om;have f:=h.M_pos N (i+1) om a;have g:1*M (i+1)<=d i*M (i+1):=ca om om;omega
def TL.d_le(h:TL N L d M){i:Nat}(a:i<N):d i<=M 0:=by
 have b:=h.M_le i om;have c:=h.step i a;have e:=h.pos i a;have f:=h.M_pos N (i+1) om om;have g:d i*1<=d i*M (i+1):=bV om om;omega
def HI.rng(a:TL N L d M){i:Nat}{C:Nat->iB}(h:HI N L d M i C)(k:i<=N)(l:∀c r,c<N->i<=r->r<N->0<=C c r/\C c r<M i){c r:Nat}(j:c<N)(f:r<N):0<=C c r/\C c r<=M 0:=by
 have p:=a.M_le i k;rcases aC r i with e|e
 .rcases aC c i with g|g
  .obtain⟨m,n,o⟩:=h.done c g;rcases dY r c with b|b|b
   .rw[m r b];have:=a.M_pos N 0 om om;omega
   .rw[b,n];have:=a.pos c om;have:=a.d_le (i:=c) om;omega
   .have:=o r b e;have:=a.d_le (i:=r) om;omega
  .rw[h.zero c g j r e];have:=a.M_pos N 0 om om;omega
 .have:=l c r j e f;omega
def ug(x M:Int):x%M=x+M*(-(x/M)):=by
 have:=xW x M;rw[m9];omega
def Tj(m:TL N L d M){i j:Nat}{C:aI}(h:HI N L d M i C)(n:i<j)(u:j<N)(l:∀c r,c<N->i<=r->r<N->0<=C c r/\C c r<M i) :
  HI N L d M i (BC C i j (M i))/\(∀c r,c<N->i<=r->r<N->0<=BC C i j (M i) c r/\BC C i j (M i) c r<M i)/\BC C i j (M i) j i=0/\∀c r,c≠i->c≠j->BC C i j (M i) c r=C c r:=by
 have f:i<N:=om
 have o:=m.M_pos N i om om;unfold BC;by_cases v:C j i=0
 .simp only[v,aQ];exact⟨h,l,trivial,fun _ _ _ _=>trivial⟩
 .have ki:=l i i f (ae _) f;have kj:=l j i u (ae _) f;have w:=D3 (C j i).toNat (C i i).toNat (C j i).toNat (ae _);have p:=D4 (C j i).toNat (C i i).toNat (C j i).toNat (ae _);have F:=AA (C j i).toNat (C i i).toNat (C j i).toNat (ae _) (bH om);rw[af v];generalize bz (C i i).toNat (C j i).toNat=D at *;rw[cY ki.1,cY kj.1]at w p;obtain⟨x,q⟩:=p.1;obtain⟨y,s⟩:=p.2;have ex:C i i/D.1=x:=by rw[q];exact dh _ om
  have ey:C j i/D.1=y:=by rw[s];exact dh _ om
  rw[ex,ey];have B:D.2.1*x+D.2.2*y=1:=by
   rw[q,s]at w;refine dN (om:D.1≠0) ?_
   grind
  have E:HI N L d M i (oU C i j D.2.1 D.2.2 x y):=h.comb m n u B (fun r _=>by simp[oU]) (fun r _=>by simp only[oU,(om:¬j=i),aS,aQ];grind) (fun c r _ _ a b=>by simp[oU,a,b])
  have t:oU C i j D.2.1 D.2.2 x y j i=0:=by
   simp only[oU,(om:¬j=i),aS,aQ];rw[q,s];grind
  have red:∀c r,Hi (Hi (oU C i j D.2.1 D.2.2 x y) i i (M i)) j i (M i) c r=if (c=i∨c=j)/\i<=r then oU C i j D.2.1 D.2.2 x y c r%M i else oU C i j D.2.1 D.2.2 x y c r:=by
   intro c r;unfold Hi;by_cases a:c=i
   .have:¬c=j:=om
    by_cases b:i<=r
    .simp[a,b,(om:¬i=j)]
    .simp[b]
   .by_cases z:c=j
    .by_cases b:i<=r
     .simp[z,b,(om:¬j=i)]
     .simp[b]
    .simp[a,z]
  refine⟨E.red m om (fun c r=>if c=i∨c=j then -(oU C i j D.2.1 D.2.2 x y c r/M i)else 0) (fun c r A g=>?_),fun c r A k g=>?_,?_,fun c r a b=>?_⟩
  .rw[red];by_cases a:c=i∨c=j
   .by_cases b:i<=r
    .rw[ai ⟨a,b⟩,ai b];simp only[a,aQ];exact ug _ _
    .rw[af (fun e=>b e.2),af b];omega
   .rw[af (fun e=>a e.1)];simp[a]
  .rw[red];by_cases a:c=i∨c=j
   .rw[ai ⟨a,k⟩];exact⟨aW _ om,aV _ o⟩
   .rw[af (fun e=>a e.1)];have:oU C i j D.2.1 D.2.2 x y c r=C c r:=by
     simp only[oU];rw[af (fun e=>a (bF e)),af (fun e=>a (bH e))]
    rw[this];exact l c r A k g
  .rw[red,ai ⟨bH rfl,ae _⟩,t];simp
  .rw[red,af (fun e=>by rcases e.1 with e|e<;>contradiction)]
   simp[oU,a,b]
def HI.first(a:TL N (fy N N w) d M):HI N (fy N N w) d M 0 (fun c r=>w r c%M 0) :=
 HI.init.red a om (fun c r=>-(w r c/M 0)) (fun c r _ _=>by simp only[jM,aQ];exact ug _ _)
def pm(C:aI)(i t:Nat)(p a:Int):aI:=fun c r=>if c=i then(if r=i then p else a*C i r)else if c<t then C c r-C c i/p*(if r=i then p else a*C i r)else C c r
def SE(g:TL N L d M){i:Nat}{C:aI}(h:HI N L d M i C)(k:i<N)(n:∀j,i<j->j<N->C j i=0){p a b:Int}(l:0<p)(o:p=a*C i i+b*M i)(q:p∣C i i)(s:p∣M i) :
  HI N L d M (i+1) (pm C i i p a)/\M i/p=M (i+1):=by
 have m:=h.pivot_eq g k n l o q s;refine⟨h.pivot g k n l o q s (fun c=>C c i/p) (fun r _=>by simp[pm]) (fun c r f _=>?_) (fun c r t _ _=>?_) (fun c f=>?_),?_⟩
 .simp only[pm,(om:¬c=i),f,aS,aQ]
 .simp only[pm,(om:¬c=i),(om:¬c<i),aS]
 .simp only[pm,(om:¬c=i),f,aS,aQ]
  have:=ug (C c i) p;have e:C c i-C c i/p*p=C c i%p:=by rw[this,m9,cX];omega
  rw[e];exact⟨aW _ om,aV _ l⟩
 .rw[g.step i k,<-m];exact dh _ om
def SB(a:TL N L d M){i:Nat}{C:aI}(h:HI N L d M i C)(b:i<=N):HI N L d M i (fun c r=>if i<=r then C c r%M i else C c r) :=
 h.red a b (fun c r=>-(C c r/M i)) (fun c r _ _=>by
  by_cases e:i<=r
  .rw[ai e,ai e];exact ug _ _
  .rw[af e,af e];omega)

def yw(N m K k:Nat)(A:aI)(ρ:Nat->Nat)(H:N<=100)(I:K<=100)(hρ:∀i,i<K->ρ i<m)(B:∀c r,c<N->r<m->nb (A c r) k)(J:k<=1000000):MF 234 [aR N m A,aK K (fun i=>ρ i)] K N (fun i j=>A j (ρ i)):=by
 refine MF.of ?_;refine i9 func234 ntmps234 results234 ?_;simp -dsimp only[go_sem,aR,bB,aK]
 repeat refine an ?_
 refine aF.intro fun bc fc=>?_;simp only[go_sem];refine aH (fun O S'=>∃j:Nat,j<=K/\O 0=aR N m A/\O 5=.sl 1 bc 0 K/\O 12=aK K (fun i=>ρ i)/\O 13=.int .i64 K/\O 14=.int .i64 j/\∃g',fz 59 50 2 St.none S' bc g' K N j (fun a i=>.big (A i (ρ a)))) (fun O S=>K-cj (O 14)) ?_ ?_
 .simp only[go_sem,aR,bB,aK];exact⟨0,om,rfl,fun _=>0,fz.init fc (fun _ _=>rfl) _ _⟩
 .rintro O S' ⟨j,L,p,q,d,f,g,g',b⟩;by_cases h:j<K
  .obtain⟨w,o,s⟩:=id b.outer;simp -dsimp only[*,go_sem,aa,aR,bB,aK]
   repeat refine an ?_
   refine aF.intro fun bd fd=>?_;have C:bc≠bd:=bM.fresh b.outer fd;simp only[*,go_sem];have l:=b.push dc fd o (fun _=>.big 0)
   generalize t:(fun a=>if a=j then bd else g' a)=gg at l
   refine aH (fun O S'=>∃i:Nat,i<=N/\O 0=aR N m A/\O 5=.sl 1 bc 0 K/\O 6=.int .i64 j/\O 7=.int .i64 (ρ j)/\O 12=aK K (fun i=>ρ i)/\O 13=.int .i64 K/\O 14=.int .i64 j/\O 26=.int .i64 N/\O 27=.int .i64 i/\fz 59 50 2 St.none S' bc gg K N (j+1) (fun a c=>.big (if a=j/\i<=c then 0 else A c (ρ a)))) (fun O S=>N-cj (O 27)) ?_ ?_
   .simp only[*,go_sem,aR,bB,aK];refine⟨0,om,rfl,l.congr fun a c _ _=>?_⟩
    by_cases e:a=j
    .simp[e]
    .simp[e]
   .clear p q d f g b l o s t;rintro O S' ⟨i,M,p,q,D,E,d,f,g,u,v,b⟩;by_cases n:i<N
    .obtain⟨w,o,s⟩:=id b.outer;obtain⟨P,x,Q⟩:=id (b.row j om);have F:w j=.sl 2 (gg j) 0 N:=(s j h).trans (ai om);have y:=hρ j h;simp -dsimp only[*,go_sem,aR,bB,aK];refine bE 14 kr ?_
     simp only[go_sem,aa,p,q,D,E,d,f,g,u,v,h,n,o,F,x,aR,bB,y,aK,aP (om:i<1000000),cj]
     refine⟨_,(rS (B i (ρ j) n y) om).pure',trivial,⟨i+1,om,rfl,(b.put dc (om:j<j+1) x i (.big (A i (ρ j)))).congr fun a c _ _=>?_⟩,om⟩
     by_cases e:a=j/\c=i
     .obtain⟨rfl,rfl⟩:=e;rw[ai ⟨rfl,rfl⟩,af om]
     .rw[af e];congr 1;by_cases z:a=j/\i<=c
      .rw[ai z,ai om]
      .rw[af z,af om]
    .simp only[*,go_sem,aP (om:j<1000000),cj]
     exact⟨⟨j+1,om,rfl,rfl,rfl,gg,b.congr fun a c _ R=>by rw[af om]⟩,om⟩
  .obtain rfl:j=K:=om
   have G:=b.mat (A:=fun i j=>A j (ρ i)) (fun _ _ _ _=>rfl);simp only[*,go_sem,aa];exact⟨bc,rfl,g',G.1⟩

def MFE(f:Nat)(args:List AV)(n m:Nat)(P:aI->Prop):Prop:=∀S args',fI S args' args->cP f args' S (fun r S'=>∃b g A,r=.sl 1 b 0 n/\P A/\iR S S' b g n m A)
def MFE.of{n:Nat}{P:aI->Prop}(h:cP f args St.none (fun r S'=>∃b g A,r=.sl 1 b 0 n/\P A/\dH S' b g n m A)):MFE f args n m P:=fun S args' d=>by
 have i:cP f args St.none (fun r S'=>∃b g A,r=.sl 1 b 0 n/\P A/\dH S' b g n m A/\Kg S'):=h.less fun r S' ⟨b,g,A,e,c,a⟩=>⟨gQ S' b g n,ji S' b g n,b,g,A,e,c,a.only.1,a.only.2⟩;refine(i.frame d ?_).mono ?_
 .rintro r S1 ⟨b,g,A,rfl,_,_,j⟩;exact⟨rfl,j⟩
 .rintro r S' ⟨S1,⟨b,g,A,rfl,c,a,_⟩,k,rfl⟩;exact⟨b,g,A,rfl,c,a.join k⟩
def fI.two{x x' y y':AV}(h:VA S x x')(a:VA S y y'):fI S [x,y] [x',y']:=⟨h,a,trivial⟩
def yL(P:Tm->St->Prop)(a:(∀O S,P O S->Aw c Q O S)->G)(b:∀O S,P O S->Aw c Q O S):G:=a b
structure oV(S:St)(b b7 N:Nat)(z:Int)(C:aI):Prop where
 ex:∃g,dH S b g N N C/\∀a,a<N->g a≠b7
 var:ed S b7 50 2 (.big z)
def oV.ne(h:oV S b b7 N z C):b7≠b:=by
 obtain⟨g,a,_⟩:=h.ex;obtain⟨x,k,_⟩:=h.var;obtain⟨y,l,_⟩:=a.outer;rintro rfl;rw[k]at l;cases l
def oV.next(h:oV S b b7 N z C)(c:∀a,a<N->g a≠b7)(e:dH S' b g' N N C')(d:ny S S' b g g' N):oV S' b b7 N z C':=by
 obtain⟨x,k,_⟩:=id h.var;exact⟨⟨g',e,d.ne k c⟩,d.var h.var h.ne c⟩
def oV.congr(h:oV S b b7 N z C)(a:∀c r,c<N->r<N->C c r=C' c r):oV S b b7 N z C':=by
 obtain⟨g,d,e⟩:=h.ex;exact⟨⟨g,d.congr a,e⟩,h.var⟩
def Rng(N i:Nat)(z:Int)(C:aI):Prop:=∀c r,c<N->i<=r->r<N->0<=C c r/\C c r<z
def T2(S:St)(b b7 N:Nat)(L:iB->Prop)(d M:Nat->Int)(i:Nat):Prop:=∃C,oV S b b7 N (M i) C/\HI N L d M i C/\Rng N i (M i) C
def T3(S:St)(b b7 N:Nat)(L:iB->Prop)(d M:Nat->Int)(i j:Nat):Prop:=∃C,oV S b b7 N (M i) C/\HI N L d M i C/\Rng N i (M i) C/\∀k,i<k->k<j->C k i=0
def oV.other(h:oV S b b7 N z C){e:Nat}(c:S e=ab)(X:eS):oV (S.upd e X) b b7 N z C:=by
 obtain⟨g,d,f⟩:=h.ex;exact⟨⟨g,d.upd (bM.fresh d.outer c) (fun a i=>bM.fresh (d.row a i) c) _,f⟩,h.var.upd (h.var.fresh c) _⟩
def oV.upd3(h:oV S b b7 N z C){e n:Nat}{x:Nat->AV}(c:bM S e 3 1 n x)(X:eS):oV (S.upd e X) b b7 N z C:=by
 obtain⟨g,d,f⟩:=h.ex;refine⟨⟨g,d.upd (bM.ne d.outer c dc) (fun a i=>bM.ne (d.row a i) c dc) _,f⟩,h.var.upd ?_ _⟩
 obtain⟨y,k,_⟩:=h.var;obtain⟨y',l,_⟩:=c;rintro rfl;rw[k]at l;cases l
def Gn{K:AV->St->Prop}(P:St->Prop)(a:P S)(h:∀T,P T->cP f args T K):cP f args S K:=h S a
structure qK(S:St)(b b7 b11 N:Nat)(z p:Int)(g:Nat->Nat)(C:aI):Prop where
 mat:dH S b g N N C
 h7:∀a,a<N->g a≠b7
 h11:∀a,a<N->g a≠b11
 v7:ed S b7 50 2 (.big z)
 v11:ed S b11 50 2 (.big p)
def ed.ext{z:AV}(h:ed S b ty es z)(a:ft S S'):ed S' b ty es z:=by
 obtain⟨x,c,d⟩:=h;exact⟨x,a _ _ c,d⟩
def qK.n7(h:qK S b b7 b11 N z p g C):b7≠b/\b11≠b:=by
 obtain⟨x,k,_⟩:=h.v7;obtain⟨x',k',_⟩:=h.v11;obtain⟨y,l,_⟩:=h.mat.outer;refine⟨?_,?_⟩<;>rintro rfl
 .rw[k]at l;cases l
 .rw[k']at l;cases l
def qK.repl{S1:St}(h:qK S b b7 b11 N z p g C){j c:Nat}{v:Nat->Int}(f:ft S S1)(i:S c=ab)(l:jp S1 c N v){k:Nat->AV}(m:S1 b=some ⟨59,1,N,k⟩) :
  qK (S1.upd b ⟨59,1,N,bW k j (.sl 2 c 0 N)⟩) b b7 b11 N z p (fun a=>if a=j then c else g a) (fun a r=>if a=j then v r else C a r):=by
 have n:=h.mat.ext f;refine⟨n.repl l (fun a d=>bM.fresh (h.mat.row a d) i) m,fun a d=>?_,fun a d=>?_,(h.v7.ext f).upd h.n7.1 _,(h.v11.ext f).upd h.n7.2 _⟩
 .by_cases e:a=j
  .simp only[e,aQ];exact aj (h.v7.fresh i)
  .simp only[e,aS];exact h.h7 a d
 .by_cases e:a=j
  .simp only[e,aQ];exact aj (h.v11.fresh i)
  .simp only[e,aS];exact h.h11 a d
def qK.set(h:qK S b b7 b11 N z p g C){i j:Nat}{q:Int}{g':Nat->AV}(a:i<N)(c:S (g i)=some ⟨50,2,N,g'⟩):qK (S.upd (g i) ⟨50,2,N,bW g' j (.big q)⟩) b b7 b11 N z p g (fu C i j q) :=
 ⟨h.mat.set a c,h.h7,h.h11,h.v7.upd (aj (h.h7 i a)) _,h.v11.upd (aj (h.h11 i a)) _⟩
def qK.congr(h:qK S b b7 b11 N z p g C)(a:∀c r,c<N->r<N->C c r=C' c r):qK S b b7 b11 N z p g C':=⟨h.mat.congr a,h.h7,h.h11,h.v7,h.v11⟩
def T4(S:St)(b b7 b11 N:Nat)(z p:Int)(C:aI):Prop:=∃g,qK S b b7 b11 N z p g C
def qK.upd(h:qK S b b7 b11 N z p g C){e:Nat}(c:b≠e)(d:∀a,a<N->g a≠e)(f:b7≠e)(i:b11≠e)(X:eS):qK (S.upd e X) b b7 b11 N z p g C :=
 ⟨h.mat.upd c d _,h.h7,h.h11,h.v7.upd f _,h.v11.upd i _⟩
def Jw{a:Int}(b:∀c r,c<N->r<N->0<=C c r/\C c r<PB)(j:nb p KB)(l:nb a KB)(g:i<N)(d:0<=p)(t:Nat):∀c r,c<N->r<N->nb (pm C i t p a c r) (3*KB+1):=by
 have m:=mY;intro c r e f;have h:nb (if r=i then p else a*C i r) (KB+KB):=by
  split
  .exact j.mono om
  .exact l.mul (lB (b i r g f))
 unfold pm;split
 .exact h.mono om
 .split
  .have k:=b c i e g;have nq:nb (C c i/p) KB:=by
    have:=oJ p k.1;have:=mL k.1 d;exact GI om
   have:=((lB (b c r e f)).mono (om:KB<=KB+(KB+KB))).sub (nq.mul h)
   exact this.mono om
  .exact(lB (b c r e f)).mono om
def zw(N:Nat)(w:aI)(h1:1<=N)(hN:N<=16)(hw:∀i j,i<N->j<N->nb (w i j) 1000)(hd:det N w≠0)(hdb:(det N w).natAbs<PB) :
  MFE 260 [aR N N w,.big (det N w)] N N (fun H=>∃d M,TL N (fy N N w) d M/\M 0=((det N w).natAbs:Int)/\HI N (fy N N w) d M N (fun j r=>H r j)):=by
 have hKB:=mY;obtain⟨d,M,Q,hM0⟩:=TL.of_det hd;generalize det N w=D at *;refine MFE.of ?_;refine i9 func260 ntmps260 results260 ?_;have hp0:0<N:=om
 have hpz:(0:Int)<(N:Int):=om
 simp -dsimp only[go_sem,aa,aR,bB];refine aF.intro fun b3 f3=>?_;refine(uA N N w h1 hN hN _ _ (cS _ _)).mono ?_;rintro _ S1 ⟨b,g,rfl,v,hE,hb,hg⟩;have hv3:ed S1 b3 50 2 (.big D):=by
  obtain⟨x,k1,k2⟩:=ed.new (S:=St.none) (b:=b3) (ty:=50) (es:=2) (g:=fun _=>AV.big D) rfl;exact⟨x,hE _ _ k1,k2⟩
 obtain⟨g3,u3,v3⟩:=id hv3;simp -dsimp only[go_sem,aa,u3];refine aF.intro fun u f7=>?_;have n37:b3≠u:=hv3.fresh f7;have nb7:b≠u:=bM.fresh v.outer f7;have ng7:∀a,a<N->g a≠u:=fun a I=>bM.fresh (v.row a I) f7;have nD:nb D KB:=GI om;simp -dsimp only[go_sem,aa,u3,v3,n37];refine(kY nD om).call ?_;apply yL (fun O S=>O 5=.int .i64 N/\O 6=.sl 1 b 0 N/\O 7=.ptr 2 u 0/\O 31=.int .i64 N/\O 32=.int .i64 0/\oV S b u N (M 0) (fun c r=>w r c))
 .intro key;by_cases hneg:D<0
  .simp -dsimp only[go_sem,aa,u3,v3,n37,show decide (D.sign<0)=true by rw[eP hneg];rfl]
   refine(sW nD om).call ?_;simp -dsimp only[go_sem,aa,v3];refine key _ _ ?_;simp -dsimp only[go_sem];refine⟨⟨g,?_,ng7⟩,?_⟩
   .repeat' first|exact v|refine dH.upd ?_ (by assumption) (by assumption) _
   .rw[(om:M 0=-D)]
    simp only[ed.at_hit,bW,aQ]
  .simp -dsimp only[go_sem,aa,u3,v3,n37,show decide (D.sign<0)=false by rw[dl om];rfl]
   refine key _ _ ?_;simp -dsimp only[go_sem];refine⟨⟨g,?_,ng7⟩,?_⟩
   .repeat' first|exact v|refine dH.upd ?_ (by assumption) (by assumption) _
   .rw[(om:M 0=D)]
    simp only[ed.at_hit,bW,aQ]
 clear u3 v3 hv3 n37 nb7 ng7 v hE hb hg;have hM0p:=Q.M_pos N 0 om om;have nM:∀i,i<=N->nb (M i) KB:=fun i hi=>by
  have:=Q.M_le i hi;have:=Q.M_pos N i om hi;exact GI om
 rintro O S ⟨p,h,o,L,P,s⟩;refine aH (fun O S=>∃j:Nat,j<=N/\O 5=.int .i64 N/\O 6=.sl 1 b 0 N/\O 7=.ptr 2 u 0/\O 31=.int .i64 N/\O 32=.int .i64 j/\oV S b u N (M 0) (fun c r=>if c<j then w r c%M 0 else w r c)) (fun O S=>N-cj (O 32)) ?_ ?_
 .exact⟨0,om,p,h,o,L,P,s.congr fun c r _ _=>by simp⟩
 clear p h o L P s;rintro O S ⟨j,hj,p,h,o,L,P,s⟩;by_cases f:j<N
 .obtain⟨g7,R,U⟩:=id s.var;obtain⟨g,v,hg⟩:=s.ex;simp -dsimp only[go_sem,aa,p,h,o,L,P,f,R,U];refine(oo S b g N N j 0 _ (M 0) f om om hM0p 1000 ((nM 0 om).mono om) om (fun r W=>?_) v).mono ?_
  .rw[af om];exact hw r j W f
  rintro _ S1 ⟨J,X⟩;simp -dsimp only[go_sem,p,h,o,L,P,aP (om:j<1000000),cj]
  refine⟨⟨j+1,om,rfl,(s.next hg J X).congr fun c r _ _=>?_⟩,om⟩
  by_cases e:c=j
  .simp[e]
  .by_cases E:c<j
   .simp[e,E,(om:c<j+1)]
   .simp[e,E,(om:¬c<j+1)]
 obtain rfl:j=N:=om
 simp -dsimp only[go_sem,aa,p,h,o,L,P,f];have B:T2 S b u j (fy j j w) d M 0:=⟨_,s.congr (C':=fun c r=>w r c%M 0) fun c r Y _=>by simp[Y],HI.first Q,fun c r _ _ _=>⟨aW _ om,aV _ hM0p⟩⟩
 refine aH (fun O S=>∃i:Nat,i<=j/\O 5=.int .i64 j/\O 6=.sl 1 b 0 j/\O 7=.ptr 2 u 0/\O 40=.int .i64 j/\O 41=.int .i64 i/\T2 S b u j (fy j j w) d M i) (fun O S=>j-cj (O 41)) ?_ ?_
 .simp -dsimp only[go_sem,p,h,o];exact⟨0,om,rfl,B⟩
 clear p h o L P s B f hj hw;generalize hNN:j=N at *;clear hNN;rintro O S ⟨i,hi,p,h,o,l,m,B⟩;by_cases f:i<N
 .simp -dsimp only[go_sem,p,l,m,f,aP (om:i<1000000)]
  have hMi:=Q.M_pos N i om hi;refine aH (fun O S=>∃j:Nat,i+1<=j/\j<=N/\O 5=.int .i64 N/\O 6=.sl 1 b 0 N/\O 7=.ptr 2 u 0/\O 9=.int .i64 i/\O 10=.int .i64 j/\O 40=.int .i64 N/\O 41=.int .i64 i/\T3 S b u N (fy N N w) d M i j) (fun O S=>N-cj (O 10)) ?_ ?_
  .simp -dsimp only[go_sem,p,h,o,l,m];obtain⟨C,c1,c2,c3⟩:=B;exact⟨i+1,om,om,rfl,C,c1,c2,c3,fun k _ _=>om⟩
  clear p h o l m B;rintro O S ⟨j,hj1,hj2,p,h,o,F,e10,l,m,C,s,hH,hR,hZ⟩;have z:∀c r,c<N->r<N->0<=C c r/\C c r<PB:=fun c r Y W=>by
   have:=hH.rng Q hi hR Y W;omega
  obtain⟨g7,R,U⟩:=id s.var;obtain⟨g,v,hg⟩:=s.ex;by_cases K:j<N
  .simp -dsimp only[go_sem,aa,p,h,o,F,e10,K,R,U];refine(Iv S b g N N i j C (M i) om K f om hMi (nM i hi) z v).mono ?_;rintro _ S1 ⟨g',J,X⟩;have hcl:=Tj Q hH (om:i<j) K hR
   simp -dsimp only[go_sem,p,h,o,F,e10,l,m,aP (om:j<1000000),cj]
   refine⟨⟨j+1,om,om,rfl,_,s.next hg J X,hcl.1,hcl.2.1,fun k hk1 hk2=>?_⟩,om⟩
   by_cases e:k=j
   .rw[e];exact hcl.2.2.1
   .rw[hcl.2.2.2 k i om e];exact hZ k hk1 om
  have hNj:N=j:=om
  subst hNj;clear K hj1 hj2;simp -dsimp only[go_sem,aa,p,h,o,F,e10,cZ];obtain⟨g1,u1,v1⟩:=id v.outer;obtain⟨g2,u2,v2⟩:=id (v.row i f);have x1:g1 i=.sl 2 (g i) 0 N:=v1 i f;have x2:g2 i=.big (C i i):=v2 i f;have kii:=hR i i f (ae _) f;have nMi:=nM i hi;have hMi2:M i<PB:=by have:=Q.M_le i hi;omega
  have hbz:=AC (x:=C i i) (y:=M i) om om (bH om);have b1:=D3 (M i).toNat (C i i).toNat (M i).toNat (ae _);have b2:=D4 (M i).toNat (C i i).toNat (M i).toNat (ae _);have b3:=AA (M i).toNat (C i i).toNat (M i).toNat (ae _) (bH om);have b4:=NY (M i).toNat (C i i).toNat (M i).toNat (ae _) om;generalize bz (C i i).toNat (M i).toNat=D at *;rw[cY kii.1,cY (ck hMi)]at b1 b2;have nD1:nb D.1 KB:=GI om;have nD2:nb D.2.1 KB:=GI om;refine pB 16 [[11,12],[12],[]] kr ?_
  simp -dsimp only[go_sem,aa,h,o,F,u1,x1,u2,x2,R,U,f];refine⟨_,hbz.pure',?_⟩;simp -dsimp only[go_sem];refine aF.intro fun A f11=>?_
  try simp -dsimp only[go_sem]
  refine aF.intro fun b12 f12=>?_;have n12_11:=(ag f12).1
  try simp -dsimp only[go_sem]
  refine aF.intro fun b13 f13=>?_;have n13_12:=(ag f13).1;have n13_11:=(ag (ag f13).2).1;have s12:=(ag f12).2;have s13:=(ag (ag f13).2).2;have w11:b≠A:=bM.fresh v.outer f11;have w12:b≠b12:=bM.fresh v.outer s12;have w13:b≠b13:=bM.fresh v.outer s13;have y11:∀a,a<N->g a≠A:=fun a I=>bM.fresh (v.row a I) f11;have y12:∀a,a<N->g a≠b12:=fun a I=>bM.fresh (v.row a I) s12;have y13:∀a,a<N->g a≠b13:=fun a I=>bM.fresh (v.row a I) s13;have z11:u≠A:=s.var.fresh f11;have z12:u≠b12:=s.var.fresh s12;have z13:u≠b13:=s.var.fresh s13;simp -dsimp only[go_sem,h,F,nn n12_11,nn n13_11,nn n13_12,bW];refine Gn (fun T=>qK T b u A N (M i) D.1 g C/\ed T b12 50 2 (.big D.2.1)) ?_ ?_
  .refine⟨⟨?_,hg,y11,?_,?_⟩,?_⟩
   .repeat' first|exact v|refine dH.upd ?_ (by assumption) (by assumption) _
   all_goals simp only[ed.at_hit,ed.at_miss,EG,iV,bW,aQ,z11,z12,z13,aj n12_11,aj n13_11,aj n13_12]
   exact s.var
  rintro T ⟨B,hT12⟩;refine(nZ N N KB i i C D.2.1 0 f f om (fun c r Y W=>lB (z c r Y W)) nD2 (nb.zero KB) om _ _ (fI.first B.mat.vr.va)).mono ?_
  rintro _ S1 ⟨c,rfl,hI,hE,hn⟩;have J:=B.mat.ext hE;obtain⟨g4,u4,v4⟩:=id J.outer;obtain⟨g5,u5,v5⟩:=id hI;have hcg:∀a,a<N->g a≠c:=fun a I=>bM.fresh (B.mat.row a I) hn;have hcb:c≠b:=aj (bM.fresh B.mat.outer hn);simp -dsimp only[go_sem,aa,h,F,u4,f,eZ];obtain⟨g6,u6,x6⟩:=id (B.v11.ext hE);have n11c:A≠c:=B.v11.fresh hn;refine bE 7 kr ?_
  simp -dsimp only[go_sem,aa,h,F,u5,u6,x6,B.n7.2,hcb,f,eZ];have hV1:=B.repl (j:=i) hE hn hI u4;have hV2:=hV1.set (i:=i) (j:=i) (q:=D.1) f (g':=g5) (by simp only[aQ];rw[aO hcb];exact u5)
  simp only[aQ]at hV2;have hV3:=hV2.congr (C':=pm C i 0 D.1 D.2.1) (fun a r _ _=>by
   simp only[fu,pm,J8,aS];by_cases e:a=i
   .by_cases E:r=i
    .simp[e,E]
    .simp[e,E]
   .simp[e])
  have hV4:T4 ((S1.upd b { ty:=59,es:=1,n:=N,g:=bW g4 i (AV.sl 2 c 0 N) }).upd c { ty:=50,es:=2,n:=N,g:=bW g5 i (AV.big D.1) }) b u A N (M i) D.1 (pm C i 0 D.1 D.2.1):=⟨_,hV3⟩;refine aH (fun O S=>∃t:Nat,t<=i/\O 5=.int .i64 N/\O 6=.sl 1 b 0 N/\O 7=.ptr 2 u 0/\O 9=.int .i64 i/\O 11=.ptr 2 A 0/\O 40=.int .i64 N/\O 41=.int .i64 i/\O 85=.int .i64 i/\O 86=.int .i64 t/\T4 S b u A N (M i) D.1 (pm C i t D.1 D.2.1)) (fun O S=>i-cj (O 86)) ?_ ?_
  .simp -dsimp only[go_sem,p,h,o,F,l,m];exact⟨0,om,rfl,hV4⟩
  clear hV1 hV2 hV3 hV4 u4 u5 u6 x6 n11c J hcg hcb v4 v5 hI hE hn B hT12 u1 u2 x1 x2 R U p h o F e10 l m v hg s;clear f11 f12 f13 s12 s13 w11 w12 w13 y11 y12 y13 z11 z12 z13 n12_11 n13_12 n13_11;rintro O S2 ⟨t,ht,p,h,o,F,Z,l,m,e85,e86,g',G⟩;by_cases htt:t<i
  .obtain⟨g1,u1,v1⟩:=id G.mat.outer;have V:t<N:=om
   obtain⟨g2,u2,v2⟩:=id (G.mat.row t V);obtain⟨g6,u6,x6⟩:=id G.v11;have x1:g1 t=.sl 2 (g' t) 0 N:=v1 t V;have x2:g2 i=.big (C t i):=(v2 i f).trans (by simp[pm,(om:¬t=i)])
   have kti:=z t i V f;simp -dsimp only[go_sem,aa,o,Z,e85,e86,htt];refine pB 15 [[11,12],[12],[]] kr ?_
   simp -dsimp only[go_sem,aa,h,F,Z,u1,x1,u2,x2,u6,x6,f,V];refine⟨_,(jl (lB kti) nD1 om om).pure',?_⟩;simp -dsimp only[go_sem];refine aF.intro fun b15 f15=>?_
   try simp -dsimp only[go_sem]
   refine aF.intro fun b16 f16=>?_;have n16_15:=(ag f16).1;simp -dsimp only[go_sem,nn n16_15];refine oK (fun T=>qK T b u A N (M i) D.1 g' (pm C i t D.1 D.2.1)/\ed T b15 50 2 (.big (C t i/D.1))) ?_ ?_
   .have s16:=(ag f16).2;have w15:b≠b15:=bM.fresh G.mat.outer f15;have w16:b≠b16:=bM.fresh G.mat.outer s16;have y15:∀a,a<N->g' a≠b15:=fun a I=>bM.fresh (G.mat.row a I) f15;have y16:∀a,a<N->g' a≠b16:=fun a I=>bM.fresh (G.mat.row a I) s16;have z1:u≠b15:=G.v7.fresh f15;have z2:u≠b16:=G.v7.fresh s16;have z3:A≠b15:=G.v11.fresh f15;have z4:A≠b16:=G.v11.fresh s16;refine⟨?_,?_⟩
    .repeat' first|exact G|refine qK.upd ?_ (by assumption) (by assumption) (by assumption) (by assumption) _
    .simp only[ed.at_hit,ed.at_miss,EG,iV,bW,aQ,aj n16_15]
   rintro T ⟨B,hT15⟩;obtain⟨g7,R,U⟩:=id hT15;refine fH 8 [[0,1],[],[]] kr ?_
   simp -dsimp only[go_sem,aa,h,F,R,U];have nq:nb (C t i/D.1) KB:=by
    have:=oJ D.1 kti.1;have:=mL kti.1 (ck b3.1);exact GI om
   have nP:=Jw z nD1 nD2 f (ck b3.1) t;refine⟨_,(kQ dc dc).pure',_,(sW nq om).pure',?_⟩
   refine(nZ N N (3*KB+1) t i _ 1 (-(C t i/D.1)) V f om nP (nb.one om) (nq.neg.mono om) om _ _ (fI.first B.mat.vr.va)).mono ?_
   rintro _ S3 ⟨c,rfl,hI,hE,hn⟩;obtain⟨g8,u8,v8⟩:=id (B.mat.ext hE).outer;simp -dsimp only[go_sem,aa,p,h,o,F,Z,l,m,e85,e86,u8,V,aP (om:t<1000000),cj]
   refine⟨⟨t+1,om,rfl,_,(B.repl (j:=t) hE hn hI u8).congr fun a r _ _=>?_⟩,om⟩
   by_cases e:a=t
   .subst e;simp only[aQ,pm,(om:¬a=i),cZ,U6,aS]
    rw[fA,sd];rfl
   .simp only[e,aS,pm];by_cases E:a=i
    .simp[E]
    .by_cases e3:a<t
     .simp[E,e3,(om:a<t+1)]
     .simp[E,e3,(om:¬a<t+1)]
  have hti:t=i:=om
  subst hti;obtain⟨hP1,hP2⟩:=SE Q hH f hZ b3.1 b1 b2.1 b2.2;obtain⟨g7,R,U⟩:=id G.v7;obtain⟨g8,u8,x8⟩:=id G.v11;have nP:=Jw z nD1 nD2 f (ck b3.1) t;simp -dsimp only[go_sem,aa,o,Z,e85,e86,cZ,R,U,u8,x8];refine(jl nMi nD1 om om).call ?_;rw[hP2];simp -dsimp only[go_sem,aa,p,o,R,U,x8];have hM1:=Q.M_pos N (t+1) om om;have hT5:oV (S2.upd u ⟨50,2,1,bW g7 0 (.big (M (t+1)))⟩) b u N (M (t+1)) (pm C t t D.1 D.2.1):=⟨⟨g',G.mat.upd (aj G.n7.1) G.h7 _,G.h7⟩,ed.set⟩;refine aH (fun O S=>∃j:Nat,j<=N/\O 5=.int .i64 N/\O 6=.sl 1 b 0 N/\O 7=.ptr 2 u 0/\O 9=.int .i64 t/\O 40=.int .i64 N/\O 41=.int .i64 t/\O 120=.int .i64 N/\O 121=.int .i64 j/\oV S b u N (M (t+1)) (fun c r=>if c<j/\t+1<=r then pm C t t D.1 D.2.1 c r%M (t+1)else pm C t t D.1 D.2.1 c r)) (fun O S=>N-cj (O 121)) ?_ ?_
  .simp -dsimp only[go_sem,p,h,o,F,l,m];exact⟨0,om,rfl,hT5.congr fun c r _ _=>by simp⟩
  clear hT5 R U u8 x8 G p h o F Z l m e85 e86;rintro O S3 ⟨j,hj,p,h,o,F,l,m,e120,e121,s⟩;by_cases K:j<N
  .obtain⟨g7,R,U⟩:=id s.var;obtain⟨g,v,hg⟩:=s.ex;simp -dsimp only[go_sem,aa,p,h,o,F,l,m,e120,e121,K,R,U,aP (om:t<1000000)]
   refine(oo S3 b g N N j (t+1) _ (M (t+1)) K om om hM1 (3*KB+1) ((nM (t+1) om).mono om) om (fun r W=>?_) v).mono ?_
   .rw[af om];exact nP j r K W
   rintro _ S4 ⟨J,X⟩;simp -dsimp only[go_sem,p,h,o,F,l,m,e120,e121,aP (om:j<1000000),cj]
   refine⟨⟨j+1,om,rfl,(s.next hg J X).congr fun c r _ _=>?_⟩,om⟩
   by_cases E:t+1<=r
   .by_cases e:c=j
    .rw[ai ⟨e,E⟩,af om,ai om]
    .by_cases e3:c<j
     .rw[af om,ai ⟨e3,E⟩,ai om]
     .rw[af om,af om,af om]
   .rw[af om,af om,af om]
  have hNj:N=j:=om
  subst hNj;simp -dsimp only[go_sem,aa,p,h,o,F,l,m,e120,e121,cZ,aP (om:t<1000000),cj]
  refine⟨⟨t+1,om,rfl,_,s.congr (C':=fun c r=>if t+1<=r then pm C t t D.1 D.2.1 c r%M (t+1)else pm C t t D.1 D.2.1 c r) fun c r Y _=>by
   by_cases E:t+1<=r
   .rw[ai ⟨Y,E⟩,ai E]
   .rw[af om,af E],SB Q hP1 om,fun c r _ h1 _=>?_⟩,om⟩
  dsimp only;rw[ai h1];exact⟨aW _ om,aV _ hM1⟩
 .have hNi:N=i:=om
  subst hNi;obtain⟨C,s,hH,hR⟩:=B;simp -dsimp only[go_sem,p,l,m,cZ]
  repeat refine an ?_
  refine aF.intro fun b19 f19=>?_;simp -dsimp only[go_sem];have z:∀c r,c<N->r<N->0<=C c r/\C c r<PB:=fun c r Y W=>by
   have:=hH.rng Q (ae _) hR Y W;omega
  refine aH (fun O S=>∃k:Nat,k<=N/\O 6=.sl 1 b 0 N/\O 19=.sl 1 b19 0 N/\O 135=.int .i64 N/\O 136=.int .i64 k/\oV S b u N (M N) C/\bM S b19 3 1 N (fun a=>.int .i64 (if a<k then(a:Int)else 0))) (fun O S=>N-cj (O 136)) ?_ ?_
  .simp -dsimp only[go_sem,h];exact⟨0,om,rfl,s.other f19 _,bM.here fun a _=>by simp⟩
  clear p h o l m s f19;rintro O S ⟨k,hk,h,e19,e135,e136,s,hH19⟩;by_cases hkt:k<N
  .obtain⟨g1,u1,v1⟩:=id hH19;simp -dsimp only[go_sem,aa,h,e19,e135,e136,hkt,u1,aP (om:k<1000000),cj]
   refine⟨⟨k+1,om,rfl,s.upd3 hH19 _,bM.here fun a I=>?_⟩,om⟩
   simp only[bW];by_cases e:a=k
   .simp[e]
   .rw[af e,v1 a I];by_cases E:a<k
    .simp[E,(om:a<k+1)]
    .simp[E,(om:¬a<k+1)]
  have hNk:N=k:=om
  subst hNk;obtain⟨g,v,hg⟩:=s.ex;simp -dsimp only[go_sem,aa,h,e19,e135,e136,cZ];refine(yw N N N KB C (fun i=>i) om om (fun i hi=>hi) (fun c r Y W=>lB (z c r Y W)) om _ _ (fI.two v.vr.va (VR.sl hH19 om (fun a I=>by rw[aD,ai I];exact VR.mf rfl)).va)).mono ?_
  rintro _ S5 ⟨b',g',rfl,hN'⟩;simp -dsimp only[go_sem];exact⟨b',rfl,g',_,⟨d,M,Q,hM0,hH⟩,hN'.1⟩

def lu(N:Nat)(C U:aI):aI:=fun j r=>ay N fun a=>C a r*U a j
def Fe(N:Nat)(C U:aI)(j r t:Nat):Nat->Nat->AV:=fun a c=>.big (if a=j/\r<=c then(if c=r then ay t (fun k=>C k r*U k j)else 0)else lu N C U a c)
def F2{c t e ty':Nat}{K:AV->St->Prop}(a:S b=some ⟨ty,es,N,g0⟩)(d:S c=some ⟨ty',es,N,g1⟩)(f:dJ t=some e)(g:es=bZ e)(h:0<N)(i:∀j,j<N->eF es (g1 j))
  (k:K (.int .i64 N) (S.upd b ⟨ty,es,N,fun j=>if 0<=j/\j<0+N then g1 (0+(j-0))else g0 j⟩)):AK t (.sl es b 0 N) (.sl es c 0 N) S K:=by
 unfold AK sG;rw[f];have l:Bx S (.sl es c 0 N)=some (es,N,fun j=>g1 (0+j),some c):=by simp[Bx,d]
 rw[l];simp only[a];exact⟨g,trivial,trivial,om,trivial,h,fun j m=>by rw[aD];exact i j m,k⟩
def G8(S0:St)(b bu:Nat)(g gu:Nat->Nat)(N R k:Nat)(C U:aI)(h1:1<=N)(hN:N<=16)(hR:R<=100)(Y:∀a r,a<N->r<R->nb (C a r) k)(Z:∀a r,a<N->r<N->nb (U a r) k)(hk:k<=1000000)(y:dH S0 b g N R C)(z:dH S0 bu gu N N U) :
  cP 261 [.sl 1 b 0 N,.sl 1 bu 0 N] S0 (fun _ S'=>(∃g',dH S' b g' N R (lu N C U))/\iS b S0 S'):=by
 refine iw func261 rfl 75 ntmps261 kr sm ?_
 rw[lA,results261];simp -dsimp only[go_sem]
 repeat refine an ?_
 refine aF.intro fun bc fc=>?_;simp only[go_sem];refine aH (fun O S'=>∃j:Nat,j<=N/\O 0=.sl 1 b 0 N/\O 1=.sl 1 bu 0 N/\O 4=.sl 1 bc 0 N/\O 13=.int .i64 N/\O 14=.int .i64 j/\∃g',fz 59 50 2 S0 S' bc g' N R j (fun a r=>.big (lu N C U a r))) (fun O S=>N-cj (O 14)) ?_ ?_
 .simp only[go_sem];exact⟨0,om,rfl,fun _=>0,fz.init fc (fun _ _=>rfl) _ _⟩
 rintro O S' ⟨j,hj,A,B,D,n,o,g',d⟩;have q:ft S0 S':=d.ext;obtain⟨gg4,u,E⟩:=id d.outer;by_cases i:j<N
 .obtain⟨I,J,F⟩:=id (q.has y.outer);have x0:I j=.sl 2 (g j) 0 R:=F j i;simp -dsimp only[*,go_sem,aa]
  repeat refine an ?_
  refine aF.intro fun bd fd=>?_;have hdc:bc≠bd:=bM.fresh d.outer fd;simp only[*,go_sem,eZ];have v:=d.push dc fd u (fun _=>.big 0)
  generalize hgg:(fun a=>if a=j then bd else g' a)=gg at v
  have hgj:gg j=bd:=by rw[<-hgg];simp
  refine aH (fun O S'=>∃r:Nat,r<=R/\O 0=.sl 1 b 0 N/\O 1=.sl 1 bu 0 N/\O 4=.sl 1 bc 0 N/\O 5=.int .i64 j/\O 13=.int .i64 N/\O 14=.int .i64 j/\O 30=.int .i64 R/\O 31=.int .i64 r/\fz 59 50 2 S0 S' bc gg N R (j+1) (Fe N C U j r 0)) (fun O S=>R-cj (O 31)) ?_ ?_
  .simp only[*,go_sem];refine⟨0,om,rfl,v.congr fun a c _ _=>?_⟩
   unfold Fe;by_cases e:a=j
   .simp[e,ay]
   .simp[e]
  clear v d q u E J F x0 A B D n o;rintro O S' ⟨r,hr,A,B,D,K,n,o,w,x,d⟩;by_cases p:r<R
  .simp only[*,go_sem];refine aH (fun O S'=>∃t:Nat,t<=N/\O 0=.sl 1 b 0 N/\O 1=.sl 1 bu 0 N/\O 4=.sl 1 bc 0 N/\O 5=.int .i64 j/\O 6=.int .i64 r/\O 13=.int .i64 N/\O 14=.int .i64 j/\O 30=.int .i64 R/\O 31=.int .i64 r/\O 35=.int .i64 N/\O 36=.int .i64 t/\fz 59 50 2 S0 S' bc gg N R (j+1) (Fe N C U j r t)) (fun O S=>N-cj (O 36)) ?_ ?_
   .simp only[*,go_sem];exact⟨0,om,rfl,d⟩
   clear d A B D K n o w x;rintro O S' ⟨t,ht,A,B,D,K,e6,n,o,w,x,L,M,d⟩;by_cases l:t<N
   .have q:ft S0 S':=d.ext;obtain⟨I,J,F⟩:=id (q.has y.outer);obtain⟨g1,u1,v1⟩:=id (q.has (y.row t l));obtain⟨g2,u2,v2⟩:=id (q.has z.outer);obtain⟨g3,u3,v3⟩:=id (q.has (z.row t l));have x0:I t=.sl 2 (g t) 0 R:=F t l;have x1:g1 r=.big (C t r):=v1 r p;have x2:g2 t=.sl 2 (gu t) 0 N:=v2 t l;have x3:g3 j=.big (U t j):=v3 j i;have n1:=Y t r l p;have n2:=Z t j l i;simp -dsimp only[*,go_sem];refine bE 16 kr ?_
    simp -dsimp only[*,go_sem,aa];refine⟨_,(p9 n1 n2 om).pure',?_⟩;refine aF.intro fun G P=>?_
    try simp -dsimp only[go_sem]
    refine oK (fun T=>fz 59 50 2 S0 T bc gg N R (j+1) (Fe N C U j r t)/\ed T G 50 2 (.big (C t r*U t j))/\(∀a,a<j+1->gg a≠G)/\bc≠G) ?_ ?_
    .have s8:=q.none P;have z1:bc≠G:=bM.fresh d.outer P;have z2:∀a,a<j+1->gg a≠G:=fun a m=>bM.fresh (d.row a m) P;refine⟨?_,?_,z2,z1⟩
     .repeat' first|exact d|refine fz.upd ?_ (by assumption) (by assumption) (by assumption) _
     .simp only[ed.at_hit,bW,aQ]
    rintro T ⟨Q,V,hn8,hc8⟩;obtain⟨g4,u4,E⟩:=id Q.outer;obtain⟨g5,u5,v5⟩:=id (Q.row j om);obtain⟨g6,u6,x6⟩:=id V;have x4:g4 j=.sl 2 (gg j) 0 R:=(E j i).trans (ai om);have x5:g5 r=.big (ay t (fun k=>C k r*U k j)):=(v5 r p).trans (by simp[Fe])
    refine bE 15 kr ?_
    simp only[go_sem,aa,A,B,D,K,e6,n,o,w,x,L,M,i,p,u4,x4,u5,x5,u6,x6,aP (om:t<1000000),cj]
    have hs:=pW (f:=fun a=>C a r*U a j) (k:=k+k) t (fun a m=>(Y a r om p).mul (Z a j om i));have hp:=(n1.mul n2).mono (om:k+k<=k+k+t)
    refine⟨_,(wC hs hp om).pure',trivial,⟨t+1,om,rfl,(Q.put dc (om:j<j+1) u5 r (.big (ay (t+1) (fun k=>C k r*U k j)))).congr fun a c _ _=>?_⟩,om⟩
    unfold Fe;by_cases e:a=j/\c=r
    .obtain⟨rfl,rfl⟩:=e;simp
    .rw[af e];by_cases s:a=j/\r<=c
     .rw[ai s,ai s,af (fun h=>e ⟨s.1,h⟩),af (fun h=>e ⟨s.1,h⟩)]
     .rw[af s,af s]
   have W:N=t:=om
   subst W;simp only[*,go_sem,cZ,aP (om:r<1000000),cj]
   refine⟨⟨r+1,om,rfl,d.congr fun a c _ hc=>?_⟩,om⟩
   unfold Fe;by_cases e:a=j/\r<=c
   .by_cases s:c=r
    .obtain⟨rfl,_⟩:=e;subst s;simp[lu];intro h;omega
    .rw[ai e,af s,ai ⟨e.1,om⟩];simp[ay]
   .rw[af e,af om]
  have H:R=r:=om
  subst H;simp only[*,go_sem,cZ,aP (om:j<1000000),cj]
  refine⟨⟨j+1,om,rfl,gg,d.congr fun a c _ hc=>?_⟩,om⟩
  unfold Fe;rw[af om]
 have X:N=j:=om
 subst X;obtain⟨I,J,F⟩:=id (q.has y.outer);simp -dsimp only[*,go_sem,aa,cZ];refine F2 (e:=59) J u rfl rfl om (fun a m=>by rw[E a m];dsimp only;rw[ai m];trivial) ?_
 simp only[go_sem];refine⟨⟨g',bM.here fun a m=>?_,fun a m=>?_,d.inj⟩,(iS.ext q).upd (bF rfl) _⟩
 .simp only[jM,kc,m,aQ,fq];rw[E a m];dsimp only;rw[ai m]
 .exact(d.row a m).upd (fun e=>by have:=d.rnew a m;rw[e]at this;exact y.some this) _

end Go.Proofs.YtdobfmlmenaajaaGreatDoor
