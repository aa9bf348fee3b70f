/-
  Lemmas for NeighbourKeeps.
-/
import Derived.Test.YtdobfmlmenaajaaGreatDoorL30
namespace Go.Proofs.YtdobfmlmenaajaaGreatDoor
open Go.RowKit Tryz
open _root_.List renaming not_mem_nil→aG,forall_mem_cons→aO
open _root_.Nat renaming add_one_le_iff→aa,le_refl→af,lt_irrefl→co,lt_of_lt_of_le→cH
open _root_.Ne renaming symm→ai
open _root_.Option renaming none→ae
set_option maxHeartbeats 6400000
set_option maxRecDepth 4096
set_option linter.all false
attribute [local go_sem] Nat.reduceAdd Nat.reduceEqDiff Nat.reduceLeDiff Nat.reduceLT reduceCtorEq Int.ofNat_lt decide_true decide_false Int.zero_le_ofNat
attribute [local go_sem ↓] reduceIte
variable{a0 b0:Int}{b5 b6 b7 i j k n:Nat}{m m':Nat->Int}{p:PL}{S S' S0:St}{A L Q T:aB}{M:oC}
structure yp(S0 S:St)(M:oC)(n:Nat)(m:Nat->Int)(L T:aB)(b5 b6 b7:Nat)(p:PL)(a0 b0:Int):Prop where
 st:kR S M n m L T
 pl:qZ S b5 p
 v6:cE S b6 50 2 (.big a0)
 v7:cE S b7 50 2 (.big b0)
 n5:¬mH M n b5
 n6:¬mH M n b6
 n7:¬mH M n b7
 fr:mJ M n S0 S
theorem yp.mod{L' T':aB}(h:yp S0 S M n m L T b5 b6 b7 p a0 b0)(b:kR S' M n m' L' T')(a:mJ M n S S'):yp S0 S' M n m' L' T' b5 b6 b7 p a0 b0:=by
 obtain⟨c,d,e⟩:=h.pl;obtain⟨f,g,i⟩:=h.v6;obtain⟨j,k,l⟩:=h.v7;exact⟨b,⟨c,a _ _ h.n5 d,e⟩,⟨f,a _ _ h.n6 g,i⟩,⟨j,a _ _ h.n7 k,l⟩,h.n5,h.n6,h.n7,h.fr.trans a⟩
theorem yp.ext(h:yp S0 S M n m L T b5 b6 b7 p a0 b0)(a:cY S S'):yp S0 S' M n m L T b5 b6 b7 p a0 b0:=h.mod (h.st.ext a) ((mJ.refl M n S).ext a)
theorem yp.none(h:yp S0 S M n m L T b5 b6 b7 p a0 b0){c:Nat}(a:S c=ae):S0 c=ae:=by
 cases e:S0 c with
 | none=>rfl
 | some X=>have:=h.fr c X (h.st.inn a) e;rw[a]at this;cases this
theorem yp.var(h:yp S0 S M n m L T b5 b6 b7 p a0 b0){c:Nat}(b:¬mH M n c)(f:b5≠c)(g:b6≠c)(i:b7≠c)(j:S0 c=ae)(X:dH):yp S0 (S.upd c X) M n m L T b5 b6 b7 p a0 b0 :=
 ⟨h.st.upd b X,h.pl.upd f X,h.v6.upd g X,h.v7.upd i X,h.n5,h.n6,h.n7,fun d Y k a=>by
  have e:d≠c:=by rintro rfl;rw[j]at a;cases a
  rw[aH e];exact h.fr d Y k a⟩
def plV(p:PL):AV:=.agg [.big p.a,.big p.b,.big p.c,.big p.f0,.big p.f1,.big p.s0,.big p.s1]
structure PLb(p:PL)(K:Nat):Prop where
 a:nb p.a K
 b:nb p.b K
 f0:nb p.f0 K
 f1:nb p.f1 K
 s0:nb p.s0 K
 s1:nb p.s1 K
theorem AU(S:St)(M:oC)(n k K:Nat)(m:Nat->Int)(L T:aB)(f p:PL)(h:kR S M n m L T)(hk:0<k)(y:k<n)(hn2:n<=16)(hK:K<=100000)
  (hm:∀c,c<n+1->nb (m c) K) (hL:∀a c,a<n->c<a->nb (L a c) K) (hT:∀a c,a<n->c<n->nb (T a c) K) (Y:PLb p K) (ha0:nb f.a K) (hb0:nb f.b K) (h0:0<f.a) (h1:0<m (k-1))
  (hpl:∀S bp,qZ S bp f->cL 248 [.ptr 2 bp 0] S (fun _ S'=>qZ S' bp p/\Dc bp S S')) :
  cL 209 [.ptr 1 M.bs 0,.int .i64 k,plV f] S (fun _ S'=>kR S' M n (fun j=>if j=k then p.a else m j) (rM k p f.a f.b m L) (gJ T k p.f0 p.f1 p.s0 p.s1)/\mJ M n S S'):=by
 refine gL func209 rfl 263 ntmps209 kr sm ?_
 rw[aF,results209];have w1:IntKind.i64.wrap ((k:Int)-1)=((k-1:Nat):Int):=by rw[Int.ofNat_sub hk];exact i64_in om om
 have w2:=aM (om:k<1000000)
 simp -dsimp only[go_sem,plV,aO,aG,false_implies,implies_true];refine au.intro fun G f5=>?_;have i5:=h.inn f5;refine ig (fun O V=>O 0=.ptr 1 M.bs 0/\O 1=.int .i64 k/\O 5=.ptr 2 G 0/\kR V M n m L T/\qZ V G f/\mJ M n S V) ⟨by simp -dsimp only[go_sem],by simp -dsimp only[go_sem],by simp -dsimp only[go_sem],h.upd i5 _,qZ.of bR rfl rfl rfl rfl rfl rfl rfl,mJ.ofExt ((cY.refl S).upd f5 _)⟩ ?_
 clear h;rintro O V ⟨l,o,r,h,hP,hF⟩;obtain⟨g,u,x0,x1,x2,x3,x4,x5,x6⟩:=hP.get;refine iw 6 [[2,3],[]] kr ?_
 simp -dsimp only[go_sem,aa,r,u,x0,x1];refine au.intro fun A f6=>?_
 try simp -dsimp only[go_sem]
 refine au.intro fun B f7=>?_;have n7_6:=(ag f7).1;have i6:=h.inn f6;have f7':=(ag f7).2;have i7:=h.inn f7';have n56:=hP.fresh f6;have n57:=hP.fresh f7';simp -dsimp only[go_sem,r,u,x1,nn n7_6,n56,n57];have hE7:cY V ((((V.upd A ⟨50,2,1,fun _=>.big 0⟩).upd B ⟨50,2,1,fun _=>.big 0⟩).upd A ⟨50,2,1,aL (fun _=>.big 0) 0 (.big f.a)⟩).upd B ⟨50,2,1,aL (fun _=>.big 0) 0 (.big f.b)⟩):=((((cY.refl V).upd f6 _).upd f7' _).upd f6 _).upd f7' _;refine(hpl _ G (hP.ext hE7)).mono ?_;rintro _ V2 ⟨hP2,hB⟩;have i:yp S V2 M n m L T G A B p f.a f.b:=by
  have v6:cE ((((V.upd A ⟨50,2,1,fun _=>.big 0⟩).upd B ⟨50,2,1,fun _=>.big 0⟩).upd A ⟨50,2,1,aL (fun _=>.big 0) 0 (.big f.a)⟩).upd B ⟨50,2,1,aL (fun _=>.big 0) 0 (.big f.b)⟩) A 50 2 (.big f.a):=cE.set.upd (ai n7_6) _;have v7:cE ((((V.upd A ⟨50,2,1,fun _=>.big 0⟩).upd B ⟨50,2,1,fun _=>.big 0⟩).upd A ⟨50,2,1,aL (fun _=>.big 0) 0 (.big f.a)⟩).upd B ⟨50,2,1,aL (fun _=>.big 0) 0 (.big f.b)⟩) B 50 2 (.big f.b):=cE.set;obtain⟨g6,u6,y6⟩:=v6;obtain⟨g7,u7,y7⟩:=v7;refine⟨(h.ext hE7).frm i5 hB,hP2,⟨g6,hB _ _ (ai n56) u6,y6⟩,⟨g7,hB _ _ (ai n57) u7,y7⟩,i5,i6,i7,fun d X hd hX=>?_⟩;by_cases e:d=G
  ·rw[e,f5]at hX;cases hX
  ·exact hB d X e (hE7 d X (hF d X hd hX))
 clear hP2 hB hE7 hF h hP u x0 x1 x2 x3 x4 x5 x6 f6 f7 f7' n56 n57;obtain⟨g,u,U,F,H,y3⟩:=i.st.c0;simp -dsimp only[go_sem,aa,l,u,H];refine cg (fun O V=>∃c:Nat,c<=n/\O 0=.ptr 1 M.bs 0/\O 1=.int .i64 k/\O 5=.ptr 2 G 0/\O 6=.ptr 2 A 0/\O 7=.ptr 2 B 0/\O 27=.int .i64 n/\O 28=.int .i64 c/\yp S V M n m L (fun a x=>if x<c then gJ T k p.f0 p.f1 p.s0 p.s1 a x else T a x) G A B p f.a f.b) (fun O V=>n-bT (O 28)) ?_ ?_
 ·simp -dsimp only[go_sem,l,o,r];exact⟨0,om,rfl,i.mod (i.st.congr (fun _ _=>rfl) (fun a x _ _=>by simp) (fun a x _ _=>by simp)) (mJ.refl _ _ _)⟩
 clear l o r i u U F H y3;clear g;rintro Q' hQ' O V ⟨c,hcb,l,o,r,t,v,en,ec,i⟩;by_cases s:c<n
 ·obtain⟨g,u,U,F,H,y3⟩:=i.st.c0;obtain⟨gb,ub,vb⟩:=i.st.b0;obtain⟨gp,up,vp⟩:=i.st.b1 (om:k-1<n)
  obtain⟨gk,uk,vk⟩:=i.st.b1 y;have Z:gb (k-1)=.sl 2 (M.gb (k-1)) 0 n:=vb (k-1) om;have I:gb k=.sl 2 (M.gb k) 0 n:=vb k y;have xp:gp c=.big (T (k-1) c):=by have:=vp c s;rw[if_neg om]at this;exact this
  have xk:gk c=.big (T k c):=by have:=vk c s;rw[if_neg om]at this;exact this
  simp -dsimp only[go_sem,en,ec,s];refine iw 23 [[11,12,13,14,15,16,17,18,19,20],[]] kr ?_
  simp -dsimp only[go_sem,aa,l,o,s,u,H,ub,Z,I,up,uk,xp,xk,w1,y,(om:k-1<n)]
  refine au.intro fun b9 f9=>?_
  try simp -dsimp only[go_sem]
  refine au.intro fun b10 f10=>?_;have n10_9:=(ag f10).1;have j1:=i.st.inn f9;have C:=(ag f10).2;have j2:=i.st.inn C;obtain⟨p1,p2,p3,p4,p5,p6⟩:=mH.ne j1;obtain⟨q1,q2,q3,q4,q5,q6⟩:=mH.ne j2;have r1:=p6 k y;have r2:=q6 k y;have r3:=p6 (k-1) om;have r4:=q6 (k-1) om;simp -dsimp only[go_sem,l,o,s,u,H,ub,I,uk,xk,y,p1,p4,q1,q4,r1,r2,nn n10_9];have hE:cY V ((((V.upd b9 ⟨50,2,1,fun _=>.big 0⟩).upd b10 ⟨50,2,1,fun _=>.big 0⟩).upd b9 ⟨50,2,1,aL (fun _=>.big 0) 0 (.big (T (k-1) c))⟩).upd b10 ⟨50,2,1,aL (fun _=>.big 0) 0 (.big (T k c))⟩):=((((cY.refl V).upd f9 _).upd C _).upd f9 _).upd C _;refine ig (fun O V=>O 0=.ptr 1 M.bs 0/\O 1=.int .i64 k/\O 5=.ptr 2 G 0/\O 6=.ptr 2 A 0/\O 7=.ptr 2 B 0/\O 8=.int .i64 c/\O 9=.ptr 2 b9 0/\O 10=.ptr 2 b10 0/\O 27=.int .i64 n/\O 28=.int .i64 c/\cE V b9 50 2 (.big (T (k-1) c))/\cE V b10 50 2 (.big (T k c))/\yp S V M n m L (fun a x=>if x<c then gJ T k p.f0 p.f1 p.s0 p.s1 a x else T a x) G A B p f.a f.b) ⟨by simp -dsimp only[go_sem,l],by simp -dsimp only[go_sem,o],by simp -dsimp only[go_sem,r],by simp -dsimp only[go_sem,t],by simp -dsimp only[go_sem,v],by simp -dsimp only[go_sem],by simp -dsimp only[go_sem],by simp -dsimp only[go_sem],by simp -dsimp only[go_sem,en],by simp -dsimp only[go_sem,ec],cE.set.upd (ai n10_9) _,cE.set,i.ext hE⟩ ?_
  clear l o r t v en ec i u U F H y3 ub vb up vp uk vk Z I xp xk hE f9 f10 C p1 p2 p3 p4 p5 p6 q1 q2 q3 q4 q5 q6 r1 r2 r3 r4 j1 j2;clear O V g gb gp gk;rintro O V ⟨l,o,r,t,v,ev,e9,e10,en,ec,h9,h10,i⟩;obtain⟨g,u,U,F,H,y3⟩:=i.st.c0;obtain⟨gb,ub,vb⟩:=i.st.b0;obtain⟨gp,up,vp⟩:=i.st.b1 (om:k-1<n)
  obtain⟨gk,uk,vk⟩:=i.st.b1 y;have Z:gb (k-1)=.sl 2 (M.gb (k-1)) 0 n:=vb (k-1) om;have I:gb k=.sl 2 (M.gb k) 0 n:=vb k y;obtain⟨g5,u5,x0,x1,x2,x3,x4,x5,x6⟩:=i.pl.get;obtain⟨g9,u9,y9⟩:=id h9;obtain⟨g10,u10,y10⟩:=id h10;have hne:M.gb (k-1)≠M.gb k:=fun e=>by have:=i.st.bas.inj (k-1) k om y e;omega
  refine eR 28 kr ?_
  simp -dsimp only[go_sem,aa,l,o,r,t,v,ev,e9,e10,en,ec,s,u,H,ub,Z,I,up,uk,u5,x3,x4,x5,x6,u9,y9,u10,y10,ai hne,w1,y,(om:k-1<n),dD]
  refine⟨_,(lz p.f0 p.f1 (T (k-1) c) (T k c) K Y.f0 Y.f1 (hT (k-1) c om om) (hT k c om om) om).pure',_,(lz p.s0 p.s1 (T (k-1) c) (T k c) K Y.s0 Y.s1 (hT (k-1) c om om) (hT k c om om) om).pure',?_⟩;simp -dsimp only[go_sem,aM (om:c<1000000),bT]
  have s1:=i.st.setT (c:=c) (z:=p.f0*T (k-1) c+p.f1*T k c) (om:k-1<n) up
  have s2:=s1.setT (c:=c) (z:=p.s0*T (k-1) c+p.s1*T k c) y ((aH (ai hne)).trans uk);refine⟨⟨c+1,om,rfl,i.mod (s2.congr (fun _ _=>rfl) ?_ ?_) (((mJ.refl _ _ _).upd (mH.gb om) _).upd (mH.gb y) _)⟩,om⟩
  ·exact fun _ _ _ _=>rfl
  ·intro a x _ _;simp only[dK,gJ];grind
 have hcc:n=c:=om
 rw[<-hcc]at i ec;have hnn:¬n<n:=co n;simp -dsimp only[go_sem,en,ec,co];rw[hQ']
 replace i:=i.mod (i.st.congr (T':=gJ T k p.f0 p.f1 p.s0 p.s1) (fun _ _=>rfl) (fun _ _ _ _=>rfl) (fun a x _ hx=>by rw[if_pos hx])) (mJ.refl _ _ _)
 clear hQ' Q' hcb s en ec;obtain⟨g,u,U,F,H,y3⟩:=i.st.c0;simp -dsimp only[go_sem,o];refine cg (fun O V=>∃c:Nat,c<=(k-1:Nat)/\O 0=.ptr 1 M.bs 0/\O 1=.int .i64 k/\O 5=.ptr 2 G 0/\O 6=.ptr 2 A 0/\O 7=.ptr 2 B 0/\O 83=.int .i64 ((k-1:Nat):Int)/\O 84=.int .i64 c/\yp S V M n m (fun a x=>if (a=k-1∨a=k)/\x<c then rM k p f.a f.b m L a x else L a x) (gJ T k p.f0 p.f1 p.s0 p.s1) G A B p f.a f.b) (fun O V=>(k-1:Nat)-bT (O 84)) ?_ ?_
 ·simp -dsimp only[go_sem,l,o,r,t,v,w1];exact⟨0,om,rfl,i.mod (i.st.congr (fun _ _=>rfl) (fun a x _ _=>by simp) (fun a x _ _=>by simp)) (mJ.refl _ _ _)⟩
 clear l o r t v i u U F H y3;clear g;rintro Q' hQ' O V ⟨c,hcb,l,o,r,t,v,en,ec,i⟩;by_cases s:c<k-1
 ·obtain⟨g,u,U,F,H,y3⟩:=i.st.c0;obtain⟨gb,ub,vb⟩:=i.st.l0;obtain⟨gp,up,vp⟩:=i.st.l1 (om:k-1<n)
  obtain⟨gk,uk,vk⟩:=i.st.l1 y;have Z:gb (k-1)=.sl 2 (M.gl (k-1)) 0 (k-1):=vb (k-1) om;have I:gb k=.sl 2 (M.gl k) 0 k:=vb k y;have xp:gp c=.big (L (k-1) c):=by have:=vp c om;rw[if_neg om]at this;exact this
  have xk:gk c=.big (L k c):=by have:=vk c om;rw[if_neg om]at this;exact this
  simp -dsimp only[go_sem,en,ec,s];refine iw 23 [[11,12,13,14,15,16,17,18,19,20],[]] kr ?_
  simp -dsimp only[go_sem,aa,l,o,s,u,F,ub,Z,I,up,uk,xp,xk,w1,y,(om:k-1<n),(om:c<k)]
  refine au.intro fun b12 f12=>?_
  try simp -dsimp only[go_sem]
  refine au.intro fun b13 f13=>?_;have n13_12:=(ag f13).1;have j1:=i.st.inn f12;have C:=(ag f13).2;have j2:=i.st.inn C;obtain⟨p1,p2,p3,p4,p5,p6⟩:=mH.ne j1;obtain⟨q1,q2,q3,q4,q5,q6⟩:=mH.ne j2;have r1:=p5 k y;have r2:=q5 k y;have r3:=p5 (k-1) om;have r4:=q5 (k-1) om;simp -dsimp only[go_sem,l,o,u,F,ub,I,uk,xk,y,(om:c<k),p1,p3,q1,q3,r1,r2,nn n13_12]
  have hE:cY V ((((V.upd b12 ⟨50,2,1,fun _=>.big 0⟩).upd b13 ⟨50,2,1,fun _=>.big 0⟩).upd b12 ⟨50,2,1,aL (fun _=>.big 0) 0 (.big (L (k-1) c))⟩).upd b13 ⟨50,2,1,aL (fun _=>.big 0) 0 (.big (L k c))⟩):=((((cY.refl V).upd f12 _).upd C _).upd f12 _).upd C _;refine ig (fun O V=>O 0=.ptr 1 M.bs 0/\O 1=.int .i64 k/\O 5=.ptr 2 G 0/\O 6=.ptr 2 A 0/\O 7=.ptr 2 B 0/\O 11=.int .i64 c/\O 12=.ptr 2 b12 0/\O 13=.ptr 2 b13 0/\O 83=.int .i64 ((k-1:Nat):Int)/\O 84=.int .i64 c/\cE V b12 50 2 (.big (L (k-1) c))/\cE V b13 50 2 (.big (L k c))/\yp S V M n m (fun a x=>if (a=k-1∨a=k)/\x<c then rM k p f.a f.b m L a x else L a x) (gJ T k p.f0 p.f1 p.s0 p.s1) G A B p f.a f.b) ⟨by simp -dsimp only[go_sem,l],by simp -dsimp only[go_sem,o],by simp -dsimp only[go_sem,r],by simp -dsimp only[go_sem,t],by simp -dsimp only[go_sem,v],by simp -dsimp only[go_sem],by simp -dsimp only[go_sem],by simp -dsimp only[go_sem],by simp -dsimp only[go_sem,en],by simp -dsimp only[go_sem,ec],cE.set.upd (ai n13_12) _,cE.set,i.ext hE⟩ ?_
  clear l o r t v en ec i u U F H y3 ub vb up vp uk vk Z I xp xk hE f12 f13 C p1 p2 p3 p4 p5 p6 q1 q2 q3 q4 q5 q6 r1 r2 r3 r4 j1 j2;clear O V g gb gp gk;rintro O V ⟨l,o,r,t,v,ev,e9,e10,en,ec,h9,h10,i⟩;obtain⟨g,u,U,F,H,y3⟩:=i.st.c0;obtain⟨gb,ub,vb⟩:=i.st.l0;obtain⟨gp,up,vp⟩:=i.st.l1 (om:k-1<n)
  obtain⟨gk,uk,vk⟩:=i.st.l1 y;have Z:gb (k-1)=.sl 2 (M.gl (k-1)) 0 (k-1):=vb (k-1) om;have I:gb k=.sl 2 (M.gl k) 0 k:=vb k y;obtain⟨g5,u5,x0,x1,x2,x3,x4,x5,x6⟩:=i.pl.get;obtain⟨g9,u9,y9⟩:=id h9;obtain⟨g10,u10,y10⟩:=id h10;have hne:M.gl (k-1)≠M.gl k:=fun e=>by have:=i.st.n4 (k-1) k om y e;omega
  refine eR 28 kr ?_
  simp -dsimp only[go_sem,aa,l,o,r,t,v,ev,e9,e10,en,ec,s,u,F,ub,Z,I,up,uk,u5,x3,x4,x5,x6,u9,y9,u10,y10,ai hne,w1,y,(om:k-1<n),(om:c<k),dD]
  refine⟨_,(lz p.f0 p.f1 (L (k-1) c) (L k c) K Y.f0 Y.f1 (hL (k-1) c om om) (hL k c om om) om).pure',_,(lz p.s0 p.s1 (L (k-1) c) (L k c) K Y.s0 Y.s1 (hL (k-1) c om om) (hL k c om om) om).pure',?_⟩;simp -dsimp only[go_sem,aM (om:c<1000000),bT]
  have s1:=i.st.setL (c:=c) (z:=p.f0*L (k-1) c+p.f1*L k c) (om:k-1<n) up
  have s2:=s1.setL (c:=c) (z:=p.s0*L (k-1) c+p.s1*L k c) y ((aH (ai hne)).trans uk);refine⟨⟨c+1,om,rfl,i.mod (s2.congr (fun _ _=>rfl) ?_ ?_) (((mJ.refl _ _ _).upd (mH.gl om) _).upd (mH.gl y) _)⟩,om⟩
  ·intro a x _ _;simp only[dK,rM];grind
  ·exact fun _ _ _ _=>rfl
 have hcc:k-1=c:=om
 rw[<-hcc]at i ec;simp -dsimp only[go_sem,en,ec,co];rw[hQ'];clear hQ' Q' hcb s en ec hcc;clear c;obtain⟨g,u,U,F,H,y3⟩:=i.st.c0;obtain⟨gm,um,vm⟩:=i.st.m0;obtain⟨gl,ul,vl⟩:=i.st.l0;obtain⟨gk,uk,vk⟩:=i.st.l1 y;obtain⟨g5,u5,x0,x1,x2,x3,x4,x5,x6⟩:=i.pl.get;have xl:gl k=.sl 2 (M.gl k) 0 k:=vl k y;have hnm:M.gl k≠M.bm:=i.st.n1 k y;simp -dsimp only[go_sem];refine ej 19 [[12,13],[]] kr ?_
 simp -dsimp only[go_sem,aa,l,o,r,u,U,F,um,ul,xl,uk,u5,x0,x1,hnm,w1,y,(om:k<n+1)]
 repeat refine an ?_
 have s1:=i.st.setM (k:=k) (z:=p.a) um;have s2:=s1.setL (c:=k-1) (z:=p.b) y ((aH hnm).trans uk);have hI2:yp S ((V.upd M.bm ⟨50,2,n+1,aL gm k (.big p.a)⟩).upd (M.gl k) ⟨50,2,k,aL gk (k-1) (.big p.b)⟩) M n (fun j=>if j=k then p.a else m j) (fun a x=>if a<k+1 then rM k p f.a f.b m L a x else L a x) (gJ T k p.f0 p.f1 p.s0 p.s1) G A B p f.a f.b :=
  i.mod (s2.congr (fun _ _=>rfl) (fun a x _ hx=>by simp only[dK,rM];grind) (fun _ _ _ _=>rfl)) (((mJ.refl _ _ _).upd mH.bm _).upd (mH.gl y) _)
 clear i s1 s2;clear u U F H y3 um vm ul vl uk vk u5 x0 x1 x2 x3 x4 x5 x6 xl hnm;refine cg (fun O V=>∃c:Nat,k+1<=c/\c<=n/\O 0=.ptr 1 M.bs 0/\O 1=.int .i64 k/\O 5=.ptr 2 G 0/\O 6=.ptr 2 A 0/\O 7=.ptr 2 B 0/\O 14=.int .i64 c/\yp S V M n (fun j=>if j=k then p.a else m j) (fun a x=>if a<c then rM k p f.a f.b m L a x else L a x) (gJ T k p.f0 p.f1 p.s0 p.s1) G A B p f.a f.b) (fun O V=>n-bT (O 14)) ?_ ?_
 ·simp -dsimp only[go_sem,l,o,r,t,v,w2];exact⟨k+1,om,om,rfl,hI2⟩
 clear l o r t v hI2;clear O V g gm gl gk g5;rintro Q' hQ' O V ⟨c,hkc,hcb,l,o,r,t,v,q,i⟩;obtain⟨g,u,U,F,H,y3⟩:=i.st.c0;by_cases s:c<n
 ·obtain⟨gl,ul,vl⟩:=i.st.l0;obtain⟨gc,uc,vc⟩:=i.st.l1 s;have xl:gl c=.sl 2 (M.gl c) 0 c:=vl c s;have xc:gc (k-1)=.big (L c (k-1)):=by have:=vc (k-1) om;rw[if_neg om]at this;exact this
  have wc:=aM (om:c<1000000)
  simp -dsimp only[go_sem,aa,l,o,q,s,u,F,H,ul,xl,uc,w1,(om:k-1<c)]
  refine au.intro fun J f15=>?_;have j15:=i.st.inn f15;have n515:=i.pl.fresh f15;have n615:=i.v6.fresh f15;have n715:=i.v7.fresh f15;have s15:=i.none f15;have hE:cY V ((V.upd J ⟨50,2,1,fun _=>.big 0⟩).upd J ⟨50,2,1,aL (fun _=>.big 0) 0 (.big (L c (k-1)))⟩):=((cY.refl V).upd f15 _).upd f15 _;simp -dsimp only[go_sem,aa,l,o,q,F,xl,xc,w1];refine ig (fun O V=>O 0=.ptr 1 M.bs 0/\O 1=.int .i64 k/\O 5=.ptr 2 G 0/\O 6=.ptr 2 A 0/\O 7=.ptr 2 B 0/\O 14=.int .i64 c/\O 15=.ptr 2 J 0/\cE V J 50 2 (.big (L c (k-1)))/\yp S V M n (fun j=>if j=k then p.a else m j) (fun a x=>if a<c then rM k p f.a f.b m L a x else L a x) (gJ T k p.f0 p.f1 p.s0 p.s1) G A B p f.a f.b) ⟨by simp -dsimp only[go_sem,l],by simp -dsimp only[go_sem,o],by simp -dsimp only[go_sem,r],by simp -dsimp only[go_sem,t],by simp -dsimp only[go_sem,v],by simp -dsimp only[go_sem,q],by simp -dsimp only[go_sem],cE.set,i.ext hE⟩ ?_
  clear l o r t v q i u U F H y3 ul vl uc vc xl xc hE f15;clear O V g gl gc;rintro O V ⟨l,o,r,t,v,q,D,E,i⟩;obtain⟨g,u,U,F,H,y3⟩:=i.st.c0;obtain⟨gm,um,vm⟩:=i.st.m0;obtain⟨gl,ul,vl⟩:=i.st.l0;obtain⟨gc,uc,vc⟩:=i.st.l1 s;obtain⟨g15,P,Q⟩:=id E;obtain⟨g7,u7,z7⟩:=id i.v7;obtain⟨g6,u6,z6⟩:=id i.v6;have xl:gl c=.sl 2 (M.gl c) 0 c:=vl c s;have xck:gc k=.big (L c k):=by have:=vc k om;rw[if_neg om]at this;exact this
  have xm:gm (k-1)=.big (m (k-1)):=by have:=vm (k-1) om;rw[if_neg om]at this;exact this
  refine aP 24 kr ?_
  simp -dsimp only[go_sem,aa,l,o,v,q,D,s,u,U,F,um,xm,ul,xl,uc,xck,P,Q,u7,z7,w1,(om:k-1<n+1),(om:k<c)]
  have k1:=(hm (k-1) om).mul (hL c k s om);have k2:=(hL c (k-1) s om).mul hb0;refine⟨_,(fV (hm (k-1) om) (hL c k s om) om).pure',_,(fV (hL c (k-1) s om) hb0 om).pure',_,(lC k1 k2 om).pure',?_⟩;refine au.intro fun w W=>?_;have j16:=i.st.inn W;have n1516:=E.fresh W;have n616:=i.v6.fresh W;have n716:=i.v7.fresh W;simp -dsimp only[go_sem,t,n616,u6,z6,aL];have kN:=k1.add k2;have hyy:(m (k-1)*L c k+L c (k-1)*f.b)/f.a=vB k f.a f.b m L c:=rfl;generalize m (k-1)*L c k+L c (k-1)*f.b=N at *;refine(lw (k:=K+K+1) kN (ha0.mono om) om om).call ?_;rw[hyy];have kY:nb (vB k f.a f.b m L c) (K+K+1):=by
   rw[<-hyy];exact nb.of_le (sN h0) kN
  have hE:cY V ((V.upd w ⟨50,2,1,fun _=>.big 0⟩).upd w ⟨50,2,1,aL (fun _=>.big 0) 0 (.big N)⟩):=((cY.refl V).upd W _).upd W _;have R:cE ((V.upd w ⟨50,2,1,fun _=>.big 0⟩).upd w ⟨50,2,1,aL (fun _=>.big 0) 0 (.big N)⟩) w 50 2 (.big N):=cE.set;have hI':=i.ext hE;have h15':=E.ext hE;generalize (V.upd w ⟨50,2,1,fun _=>.big 0⟩).upd w ⟨50,2,1,aL (fun _=>.big 0) 0 (.big N)⟩=V2 at *;obtain⟨g16,u16,z16⟩:=id R;simp -dsimp only[go_sem,aa,u16,aL];have n516:=i.pl.fresh W;have s16:=i.none W;have hI3:=hI'.var (c:=w) j16 (i.pl.fresh W) n616 n716 s16 ⟨50,2,1,aL g16 0 (.big (vB k f.a f.b m L c))⟩;refine ig (fun O V=>O 0=.ptr 1 M.bs 0/\O 1=.int .i64 k/\O 5=.ptr 2 G 0/\O 6=.ptr 2 A 0/\O 7=.ptr 2 B 0/\O 14=.int .i64 c/\O 15=.ptr 2 J 0/\O 16=.ptr 2 w 0/\cE V J 50 2 (.big (L c (k-1)))/\cE V w 50 2 (.big (vB k f.a f.b m L c))/\yp S V M n (fun j=>if j=k then p.a else m j) (fun a x=>if a<c then rM k p f.a f.b m L a x else L a x) (gJ T k p.f0 p.f1 p.s0 p.s1) G A B p f.a f.b) ⟨by simp -dsimp only[go_sem,l],by simp -dsimp only[go_sem,o],by simp -dsimp only[go_sem,r],by simp -dsimp only[go_sem,t],by simp -dsimp only[go_sem,v],by simp -dsimp only[go_sem,q],by simp -dsimp only[go_sem,D],by simp -dsimp only[go_sem],h15'.upd n1516 _,cE.set,hI3⟩ ?_
  clear l o r t v q D i hI' hI3 E h15' R u U F H y3 um vm ul vl uc vc xl xck xm P Q u7 z7 u6 z6 u16 z16 hE W;clear O V V2 g gm gl gc g15 g7 g6 g16;rintro O V ⟨l,o,r,t,v,q,D,e16,E,R,i⟩;obtain⟨g5,u5,x0,x1,x2,x3,x4,x5,x6⟩:=i.pl.get;obtain⟨g15,P,Q⟩:=id E;obtain⟨g16,u16,z16⟩:=id R;refine aP 10 kr ?_
  simp -dsimp only[go_sem,aa,r,D,e16,u5,x3,x4,x5,x6,P,Q,u16,z16,ai n1516,dD];have hx:nb (L c (k-1)) (K+K+1):=(hL c (k-1) s om).mono om;refine⟨_,(lz p.f0 p.f1 (L c (k-1)) (vB k f.a f.b m L c) (K+K+1) (Y.f0.mono om) (Y.f1.mono om) hx kY om).pure',_,(lz p.s0 p.s1 (L c (k-1)) (vB k f.a f.b m L c) (K+K+1) (Y.s0.mono om) (Y.s1.mono om) hx kY om).pure',?_⟩;rw[show p.f0*L c (k-1)+p.f1*vB k f.a f.b m L c=rL k p f.a f.b m L c from rfl,show p.s0*L c (k-1)+p.s1*vB k f.a f.b m L c=xu k p f.a f.b m L c from rfl];have kX:nb (rL k p f.a f.b m L c) (4*K+3):=(((Y.f0.mono (om:K<=K+K+1)).mul hx).add ((Y.f1.mono (om:K<=K+K+1)).mul kY)).mono om
  have kZ:nb (xu k p f.a f.b m L c) (4*K+3):=(((Y.s0.mono (om:K<=K+K+1)).mul hx).add ((Y.s1.mono (om:K<=K+K+1)).mul kY)).mono om
  simp -dsimp only[go_sem];have hI2:=(i.var (c:=J) j15 n515 n615 n715 s15 ⟨50,2,1,aL g15 0 (.big (rL k p f.a f.b m L c))⟩).var (c:=w) j16 n516 n616 n716 s16 ⟨50,2,1,aL g16 0 (.big (xu k p f.a f.b m L c))⟩;refine ig (fun O V=>O 0=.ptr 1 M.bs 0/\O 1=.int .i64 k/\O 5=.ptr 2 G 0/\O 6=.ptr 2 A 0/\O 7=.ptr 2 B 0/\O 14=.int .i64 c/\O 15=.ptr 2 J 0/\O 16=.ptr 2 w 0/\cE V J 50 2 (.big (rL k p f.a f.b m L c))/\cE V w 50 2 (.big (xu k p f.a f.b m L c))/\yp S V M n (fun j=>if j=k then p.a else m j) (fun a x=>if a<c then rM k p f.a f.b m L a x else L a x) (gJ T k p.f0 p.f1 p.s0 p.s1) G A B p f.a f.b) ⟨by simp -dsimp only[go_sem,l],by simp -dsimp only[go_sem,o],by simp -dsimp only[go_sem,r],by simp -dsimp only[go_sem,t],by simp -dsimp only[go_sem,v],by simp -dsimp only[go_sem,q],by simp -dsimp only[go_sem,D],by simp -dsimp only[go_sem,e16],cE.set.upd n1516 _,cE.set,hI2⟩ ?_
  clear l o r t v q D e16 i hI2 E R u5 x0 x1 x2 x3 x4 x5 x6 P Q u16 z16;clear O V g5 g15 g16;rintro O V ⟨l,o,r,t,v,q,D,e16,E,R,i⟩;obtain⟨g,u,U,F,H,y3⟩:=i.st.c0;obtain⟨gl,ul,vl⟩:=i.st.l0;obtain⟨gc,uc,vc⟩:=i.st.l1 s;obtain⟨g15,P,Q⟩:=id E;have xl:gl c=.sl 2 (M.gl c) 0 c:=vl c s;have r15:=(mH.ne j15).2.2.2.2.1 c s;have r16:=(mH.ne j16).2.2.2.2.1 c s;refine aP 11 kr ?_
  simp -dsimp only[go_sem,aa,l,o,q,D,s,u,F,ul,xl,uc,P,Q,w1,(om:k-1<c)]
  have s1:=i.st.setL (c:=k-1) (z:=rL k p f.a f.b m L c) s uc;have hI2:=i.mod s1 ((mJ.refl _ _ _).upd (mH.gl s) _);refine ig (fun O V=>O 0=.ptr 1 M.bs 0/\O 1=.int .i64 k/\O 5=.ptr 2 G 0/\O 6=.ptr 2 A 0/\O 7=.ptr 2 B 0/\O 14=.int .i64 c/\O 15=.ptr 2 J 0/\O 16=.ptr 2 w 0/\cE V J 50 2 (.big (rL k p f.a f.b m L c))/\cE V w 50 2 (.big (xu k p f.a f.b m L c))/\yp S V M n (fun j=>if j=k then p.a else m j) (dK (fun a x=>if a<c then rM k p f.a f.b m L a x else L a x) c (k-1) (rL k p f.a f.b m L c)) (gJ T k p.f0 p.f1 p.s0 p.s1) G A B p f.a f.b) ⟨by simp -dsimp only[go_sem,l],by simp -dsimp only[go_sem,o],by simp -dsimp only[go_sem,r],by simp -dsimp only[go_sem,t],by simp -dsimp only[go_sem,v],by simp -dsimp only[go_sem,q],by simp -dsimp only[go_sem,D],by simp -dsimp only[go_sem,e16],E.upd (ai r15) _,R.upd (ai r16) _,hI2⟩ ?_
  clear l o r t v q D e16 i hI2 E R u U F H y3 ul vl uc vc xl P Q s1;clear O V g gl gc g15;rintro O V ⟨l,o,r,t,v,q,D,e16,E,R,i⟩;obtain⟨g5,u5,x0,x1,x2,x3,x4,x5,x6⟩:=i.pl.get;obtain⟨g15,P,Q⟩:=id E;obtain⟨g16,u16,z16⟩:=id R;refine aP 10 kr ?_
  simp -dsimp only[go_sem,aa,r,D,e16,u5,x0,x1,P,Q,u16,z16];have k3:=(Y.a.mono (om:K<=4*K+3)).mul kZ
  have k4:=(Y.b.mono (om:K<=4*K+3)).mul kX
  refine⟨_,(fV (Y.a.mono (om:K<=4*K+3)) kZ om).pure',_,(fV (Y.b.mono (om:K<=4*K+3)) kX om).pure',_,(me k3 k4 om).pure',?_⟩
  refine au.intro fun b17 f17=>?_;have j17:=i.st.inn f17;simp -dsimp only[go_sem];have hE:cY V ((V.upd b17 ⟨50,2,1,fun _=>.big 0⟩).upd b17 ⟨50,2,1,aL (fun _=>.big 0) 0 (.big (p.a*xu k p f.a f.b m L c-p.b*rL k p f.a f.b m L c))⟩):=((cY.refl V).upd f17 _).upd f17 _;refine ig (fun O V=>O 0=.ptr 1 M.bs 0/\O 1=.int .i64 k/\O 5=.ptr 2 G 0/\O 6=.ptr 2 A 0/\O 7=.ptr 2 B 0/\O 14=.int .i64 c/\O 17=.ptr 2 b17 0/\cE V b17 50 2 (.big (p.a*xu k p f.a f.b m L c-p.b*rL k p f.a f.b m L c))/\yp S V M n (fun j=>if j=k then p.a else m j) (dK (fun a x=>if a<c then rM k p f.a f.b m L a x else L a x) c (k-1) (rL k p f.a f.b m L c)) (gJ T k p.f0 p.f1 p.s0 p.s1) G A B p f.a f.b) ⟨by simp -dsimp only[go_sem,l],by simp -dsimp only[go_sem,o],by simp -dsimp only[go_sem,r],by simp -dsimp only[go_sem,t],by simp -dsimp only[go_sem,v],by simp -dsimp only[go_sem,q],by simp -dsimp only[go_sem],cE.set,i.ext hE⟩ ?_
  clear l o r t v q D e16 i E R u5 x0 x1 x2 x3 x4 x5 x6 P Q u16 z16 hE f17;clear O V g5 g15 g16;rintro O V ⟨l,o,r,t,v,q,e17,h17,i⟩;obtain⟨g,u,U,F,H,y3⟩:=i.st.c0;obtain⟨gm,um,vm⟩:=i.st.m0;obtain⟨gl,ul,vl⟩:=i.st.l0;obtain⟨gc,uc,vc⟩:=i.st.l1 s;obtain⟨g17,u17,z17⟩:=id h17;have xl:gl c=.sl 2 (M.gl c) 0 c:=vl c s;have xm:gm (k-1)=.big (m (k-1)):=by have:=vm (k-1) om;rw[if_neg om]at this;exact this
  refine ej 23 [[20,21]] kr ?_
  simp -dsimp only[go_sem,aa,l,o,r,t,v,q,e17,s,u,U,F,um,xm,ul,xl,uc,u17,z17,w1,(om:k-1<n+1),(om:k<c)]
  refine⟨_,(lw (k:=8*K+7) ((k3.sub k4).mono om) ((hm (k-1) om).mono om) om om).pure',?_⟩;rw[show(p.a*xu k p f.a f.b m L c-p.b*rL k p f.a f.b m L c)/m (k-1)=Kg k p f.a f.b m L c from rfl];simp -dsimp only[go_sem,wc,bT];refine⟨⟨c+1,om,om,rfl,i.mod ((i.st.setL (c:=k) (z:=Kg k p f.a f.b m L c) s uc).congr (fun _ _=>rfl) ?_ (fun _ _ _ _=>rfl)) ((mJ.refl _ _ _).upd (mH.gl s) _)⟩,om⟩
  intro a x _ hx;simp only[dK,rM];grind
 have hcn:c=n:=om
 simp -dsimp only[go_sem,aa,l,o,q,s,u,H];rw[hQ'];simp -dsimp only[go_sem];exact⟨i.st.congr (fun _ _=>rfl) (fun a x ha _=>by rw[if_pos om]) (fun _ _ _ _=>rfl),i.fr⟩

theorem L3(l:∀a b,a<n->b<n->Q a b=Q b a)(f:j<i){a c:Nat}(g:c<a):Nq (fun k=>det k (gT Q n T)) (eB (gT Q n T)) i j a c=eB (gT Q n (JN Q n i j T)) a c:=by
 unfold Nq JN;by_cases h:2*((eB (gT Q n T) i j).natAbs:Int)<=det (j+1) (gT Q n T)
 ·rw[if_pos h,if_pos h]
 ·rw[if_neg h,if_neg h,A8 l];dsimp only;generalize fN (eB (gT Q n T) i j) (det (j+1) (gT Q n T))=q;by_cases e:a=i
  ·subst e;by_cases d:c<j
   ·rw[if_pos ⟨rfl,d⟩,Bt f d];grind
   ·rw[if_neg om];by_cases m:c=j
    ·subst m;rw[if_pos ⟨rfl,rfl⟩,lZ f];grind
    ·rw[if_neg om,ql om g]
  ·rw[if_neg om,if_neg om];rcases Nat.lt_or_ge a i with d|d
   ·rw[lY d om]
   ·rw[uQ f om g]
theorem J4(c:i<n)(d:j<i):eB (gT Q n ma) i j=eB Q i j:=by
 unfold eB ca;refine aT fun a b e f=>xA ?_ ?_
 ·rw[jw];split<;>omega
 ·rw[jw];split<;>omega
def I9(S:St)(M:oC)(n:Nat)(Q T:aB):Prop:=kR S M n (fun k=>det k (gT Q n T)) (eB (gT Q n T)) T
theorem I9.short(d:∀a b,a<n->b<n->Q a b=Q b a)(e:j<k)(h:kR S M n (fun c=>det c (gT Q n T)) (Nq (fun c=>det c (gT Q n T)) (eB (gT Q n T)) k j) (shV (fun c=>det c (gT Q n T)) (eB (gT Q n T)) T k j)):I9 S M n Q (JN Q n k j T) :=
 h.congr (fun c _=>(Cd d e c).symm) (fun a c _ f=>L3 d e f) (fun _ _ _ _=>rfl)
def cntP:AV->Nat
 | .int _ z=>(z+1).toNat
 | _=>0
theorem Ma(h:Pd A n)(a:0<k)(b:k<n):(det (k-1) A*det (k+1) A+eB A k (k-1)*eB A k (k-1))/det k A=ca A (k-1) 1 1:=by
 have e:=(oG.init h a b).ac;rw[(om:det (k-1) A*det (k+1) A+eB A k (k-1)*eB A k (k-1)=det k A*ca A (k-1) 1 1),Int.mul_ediv_cancel_left _ (h.ne (k:=k) om k (af _))]
theorem Hu(Q:aB)(n d e:Nat)(y:Pd Q n)(A:1<=n)(hn:n<=8)(hE:∀i,i<n->Q i i<=2^e)(he:e*n<=d)(hd:d<=1000)(S:St)(M:oC)(h:I9 S M n Q ma) :
  cL 161 [.ptr 1 M.bs 0] S (fun _ S'=>I9 S' M n Q (lT Q n)/\mJ M n S S'):=by
 refine gL func161 rfl 39 ntmps161 kr sm ?_
 rw[aF,results161];obtain⟨K,hKl,hKu⟩:∃K:Nat,35000<=K/\K<=40000:=⟨40000,om,om⟩
 simp -dsimp only[go_sem];refine C0 (G:=Nat×Nat×aB) (fun x O V=>O 0=.ptr 1 M.bs 0/\O 2=.int .i64 x.2.1/\vD Q n d x.2.1 x.2.2/\Jn Q n x.2.1 x.2.2<=x.1/\Cs Q n x.1 x.2.1 x.2.2=lT Q n/\I9 V M n Q x.2.2/\mJ M n S V) (fun x=>x.1) ?_ ?_
 ·exact⟨(Jn Q n 1 ma,1,ma),by simp -dsimp only[go_sem],by simp -dsimp only[go_sem];rfl,vD.init y A hE he,af _,rfl,h,mJ.refl _ _ _⟩
 clear h;rintro Q' hQ' ⟨mm,k,T⟩ O V ⟨o,p,F,hm,hl,h,q⟩ R J;dsimp only at p F hm hl h;have b:=F.k1;have hkn:=F.kn;obtain⟨g,u,y0,y1,L,y3⟩:=kR.c0 h;by_cases f:k<n
 ·have w1:IntKind.i64.wrap ((k:Int)-1)=(k:Int)-1:=i64_in om om;simp -dsimp only[go_sem,aa,o,p,u,L,f,w1];refine cg (fun O V=>∃(j:Nat) (T':aB),j<=k/\O 0=.ptr 1 M.bs 0/\O 2=.int .i64 k/\O 3=.int .i64 ((j:Int)-1)/\BB Q n d k j T'/\mM Q n k j T'=mM Q n k k T/\I9 V M n Q T'/\mJ M n S V) (fun O V=>cntP (O 3)) ?_ ?_
  ·refine⟨k,T,af _,by simp -dsimp only[go_sem,o],by simp -dsimp only[go_sem,p],by simp -dsimp only[go_sem],F.ls.rowI hn f F.ok,rfl,h,q⟩
  clear h q u y0 y1 L y3 o p;clear O V g;rintro Q2 hQ2 O V ⟨j,T',hj,o,p,N,P,z,h,q⟩;obtain⟨g,u,y0,y1,L,y3⟩:=kR.c0 h;by_cases hj0:0<j
  ·obtain⟨j',rfl⟩:∃j',j=j'+1:=⟨j-1,om⟩
   rw[show((j'+1:Nat):Int)-1=(j':Int) by omega]at N
   have r:=P.ls.bits (W:=5*d+13+n*(3*d+8)) (K:=K) y A hE he (fun i _=>wR_le om) (by
    have:=Nat.mul_le_mul_right (3*d+8) hn;omega)
   have wj:IntKind.i64.wrap ((j':Int)-1)=(j':Int)-1:=i64_in om om;simp -dsimp only[go_sem,aa,o,p,N,u,y3,show(0:Int)<=(j':Int) by omega]
   refine(Dv V M n k j' K _ _ _ h om f om om om (r.dt (j'+1) om) (P.ls.pd.pos (j'+1) om) r.lm r.tt).mono ?_;rintro _ V1 ⟨h1,hF1⟩;simp -dsimp only[go_sem,o,p,N,wj,cntP];refine⟨⟨j',om,rfl,JN Q n k j' T',P.step y.sym om f,?_,I9.short y.sym om h1,q.trans hF1⟩,om⟩
   rw[<-z];rfl
  ·obtain rfl:j=0:=om
   rw[show((0:Nat):Int)-1=-1 by omega]at N
   simp -dsimp only[go_sem,aa,o,p,N,(om:¬((0:Int)<=-1))]
   rw[hQ2];simp -dsimp only[go_sem,aa,o,p];have hT:T'=mM Q n k k T:=z;have B:=P.fin hn f;have l:=P.ls.pd;have r:=B.bits (W:=5*d+13) (K:=K) y A hE he (fun i _=>by split<;>omega) om
   have hc:=Ma l b f;obtain⟨q1,q2,q3⟩:=B.plane b f (by rw[if_pos (af _)];exact af _)
   have U:=yj.init l b f q1 q2;obtain⟨z1,z2,z3,z4,z5,z6,z7⟩:=U.bits l b f q1 q2 (om:2*d+4<K)
   have Y:(mg (gT Q n T') k).a<=((mg (gT Q n T') k).a.toNat:Int):=Int.self_le_toNat _;have hstep:=F.step y.sym hn f;rw[<-hT]at hstep;obtain⟨m',rfl⟩:∃m',mm=m'+1:=⟨mm-1,by have:=Fn (Q:=Q) (T:=T) f;omega⟩
   have s:Cs Q n m' (Mh Q n k T') (Mg Q n k T')=lT Q n:=by
    rw[<-hl,Cs,if_pos f,<-hT]
   refine(AG V M n k K _ _ _ h b f om om r.dt (r.lm k (k-1) f om) (by have:=l.pos k om;omega)).mono ?_
   rintro _ V1 ⟨rfl,C⟩;rw[hc]
   replace h:I9 V1 M n Q T':=kR.ext h C
   replace q:=q.ext C
   clear C u y0 y1 L y3;clear g;simp -dsimp only[go_sem,aa,o,p,aO,aG,false_implies,implies_true];refine au.intro fun t Z=>?_;have i4:=kR.inn h Z;have s4:S t=ae:=by
    cases e:S t with
    | none=>rfl
    | some X=>have:=q t X i4 e;rw[Z]at this;cases this
   simp -dsimp only[go_sem];have H:qZ ((V1.upd t ⟨197,2,7,fun _=>.big 0⟩).upd t ⟨197,2,7,eJ (fun _=>.big 0) 0 [.big (det k (gT Q n T')),.big (eB (gT Q n T') k (k-1)),.big (ca (gT Q n T') (k-1) 1 1),.big 1,.big 0,.big 0,.big 1]⟩) t (mg (gT Q n T') k):=qZ.here (by simp[eJ,mg]) (by simp[eJ,mg]) (by simp[eJ,mg]) (by simp[eJ,mg]) (by simp[eJ,mg]) (by simp[eJ,mg]) (by simp[eJ,mg])
   have D:cY V1 ((V1.upd t ⟨197,2,7,fun _=>.big 0⟩).upd t ⟨197,2,7,eJ (fun _=>.big 0) 0 [.big (det k (gT Q n T')),.big (eB (gT Q n T') k (k-1)),.big (ca (gT Q n T') (k-1) 1 1),.big 1,.big 0,.big 0,.big 1]⟩):=((cY.refl V1).upd Z _).upd Z _;refine(wv _ t (mg (gT Q n T') k) K H z1 z3 om om).mono ?_;rintro _ V2 ⟨rfl,v⟩
   replace h:I9 V2 M n Q T':=kR.ext (kR.ext h D) v
   replace q:=(q.ext D).ext v
   replace H:=H.ext v
   clear D v;clear Z V1 V;by_cases I:4*(mg (gT Q n T') k).c<3*(mg (gT Q n T') k).a
   ·obtain⟨g,u,x0,x1,x2,x3,x4,x5,x6⟩:=H.get;simp -dsimp only[go_sem,aa,o,p,I,u,x0,x1,x2,x3,x4,x5,x6,dD];obtain⟨w,_,_⟩:=H1 B b f (by rw[if_pos (af _)];exact af _)
    obtain⟨v1,v2,v3,v4,v5,v6,v7⟩:=w.bits l b f q1 q2 (om:2*d+4<K)
    refine(AU V2 M n k K _ _ _ (mg (gT Q n T') k) (AI (gT Q n T') k) h b f om om r.dt r.lm r.tt ⟨v1,v2,v4,v5,v6,v7⟩ z1 z2 (l.pos k om) (l.pos (k-1) om) (fun S bp H=>DF l b f q1 q2 q3 om S bp (mg (gT Q n T') k).a.toNat (mg (gT Q n T') k) U H Y)).mono ?_;rintro _ V3 ⟨h3,hF3⟩;have eK:Mh Q n k T'=max 1 (k-1):=if_pos I;have eT:Mg Q n k T'=gJ T' k (AI (gT Q n T') k).f0 (AI (gT Q n T') k).f1 (AI (gT Q n T') k).s0 (AI (gT Q n T') k).s1:=if_pos I;rw[eK,eT]at hstep;rw[eK,eT]at s;have hB:I9 V3 M n Q (gJ T' k (AI (gT Q n T') k).f0 (AI (gT Q n T') k).f1 (AI (gT Q n T') k).s0 (AI (gT Q n T') k).s1):=by
     refine h3.congr (fun j _=>?_) (fun i j hi hj=>?_) (fun _ _ _ _=>rfl)
     ·rw[A0 y.sym b];by_cases e:j=k
      ·rw[if_pos e,e];exact w.pl.pa.symm
      ·rw[if_neg e];exact(w.pl.lead j e).symm
     ·rw[A0 y.sym b];exact Kh l w b f hj hi
    have hmx:(if (k:Int)-1 > 1 then(k:Int)-1 else 1)=((max 1 (k-1):Nat):Int):=by split<;>omega
    simp -dsimp only[go_sem,o,p,w1];refine⟨rfl,?_⟩;rw[hmx];have E:=Nat.le_of_lt_succ (cH hstep.2 hm);exact J (m',max 1 (k-1),_) _ _ ⟨by simp -dsimp only[go_sem,o],by simp -dsimp only[go_sem],hstep.1,E,s,hB,q.trans hF3⟩ (by show m'<m'+1;omega)
   ·have eK:Mh Q n k T'=k+1:=if_neg I;have eT:Mg Q n k T'=T':=if_neg I;rw[eK,eT]at hstep;rw[eK,eT]at s;simp -dsimp only[go_sem,aa,o,p,I,aM (om:k<1000000)]
    have E:=Nat.le_of_lt_succ (cH hstep.2 hm);exact J (m',k+1,T') _ _ ⟨by simp -dsimp only[go_sem,o],by simp -dsimp only[go_sem],hstep.1,E,s,h,q⟩ (by show m'<m'+1;omega)
 ·simp -dsimp only[go_sem,aa,o,p,u,L,f];rw[hQ'];simp -dsimp only[go_sem];have hkn':k=n:=om
  have hTl:T=lT Q n:=by
   rw[<-hl]
   cases mm with
   | zero=>rfl
   | succ m=>unfold Cs;rw[if_neg f]
  rw[<-hTl];exact⟨h,q⟩

end Go.Proofs.YtdobfmlmenaajaaGreatDoor
