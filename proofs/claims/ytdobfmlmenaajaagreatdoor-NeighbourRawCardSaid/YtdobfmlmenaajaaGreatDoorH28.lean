/-
  Lemmas for NeighbourRaw.
-/
import Derived.Test.YtdobfmlmenaajaaGreatDoorH27
namespace Go.Proofs.YtdobfmlmenaajaaGreatDoor
open Go.RowKit Tryz
open _root_.Int renaming tdiv→pG
open _root_.Option renaming none→ab
set_option maxHeartbeats 6400000
set_option maxRecDepth 4096
set_option linter.all false
attribute [local go_sem] Nat.reduceAdd Nat.reduceEqDiff Nat.reduceLeDiff Nat.reduceLT reduceCtorEq Int.ofNat_lt decide_true decide_false Int.zero_le_ofNat
attribute [local go_sem ↓] reduceIte
variable{K post:AV->St->Prop}{ops:Array Oper}{p:Int}{args:List AV}{l:List Oper}{b d f i n:Nat}{g g0:Nat->AV}{v:Nat->Int}{S:St}{O:Tm}{H:aI}
def Db(n m:Nat)(A:aI)(i j:Nat)(S:St)(b a:Nat)(f:i<n)(g:j<m)(c:jk (A i j))(d:ed S b 52 1 (aR n m A))(e:ed S a 4 1 (.bool true)) :
  cP 99 [.int .i64 i,.int .i64 j,.ptr 1 b 0,.ptr 1 a 0] S (fun r S'=>r=.int .i64 (A i j)/\GC a S S'/\ed S' a 4 1 (.bool true)):=by
 refine i9 func99 ntmps99 results99 ?_;obtain⟨h,k,l⟩:=id d;obtain⟨o,p,q⟩:=id e;simp -dsimp only[*,go_sem,aa,aR,bB];refine(t8 c).call ?_;simp only[*,go_sem,aa,aR,bB];exact⟨(GC.refl a S).upd _,ed.set⟩
def D5(n m:Nat)(A:aI)(S0:St)(t h:Nat)(hn:n<=16)(hm:m<=16)(hA:∀i j:Nat,i<n->j<m->jk (A i j))(o:ed S0 t 52 1 (aR n m A))(d:ed S0 h 4 1 (.bool true)) :
  cP 98 [.int .i64 n,.int .i64 m,.fn 99 [.ptr 1 t 0,.ptr 1 h 0]] S0 (fun r S'=>∃b g,r=.sl 1 b 0 n/\eI S' b g n m A/\ed S' h 4 1 (.bool true)):=by
 refine i9 func98 ntmps98 results98 ?_;simp -dsimp only[go_sem]
 repeat refine an ?_
 refine aF.intro fun bc fc=>?_;simp only[go_sem];have n1c:t≠bc:=o.fresh fc;have n6c:h≠bc:=d.fresh fc;refine aH (fun O S'=>∃i:Nat,i<=n/\O 1=.int .i64 m/\O 2=.fn 99 [.ptr 1 t 0,.ptr 1 h 0]/\O 7=.sl 1 bc 0 n/\O 13=.int .i64 n/\O 14=.int .i64 i/\ed S' t 52 1 (aR n m A)/\ed S' h 4 1 (.bool true)/\∃g',fz 29 2 1 St.none S' bc g' n m i (fun a j=>.int .i64 (A a j))) (fun O S=>n-cj (O 14)) ?_ ?_
 .simp only[go_sem];refine⟨0,om,rfl,o.upd n1c _,d.upd n6c _,fun _=>0,(fz.init (S1:=St.none) (b:=bc) (z:=fun _=>.nil) rfl (fun _ _=>rfl) _ _).other fun k X M=>?_⟩
  simp only[St.upd]at M ⊢;split at M
  .rename_i e;rw[ai e];exact M
  .cases M
 .clear o d n1c n6c;rintro O S' ⟨i,hi,G,v,D,p,q,o,d,g',f⟩;by_cases s:i<n
  .obtain⟨H,C,Q⟩:=id f.outer;simp -dsimp only[*,go_sem,aa]
   repeat refine an ?_
   refine aF.intro fun bd fd=>?_;have hdc:bc≠bd:=bM.fresh f.outer fd;have Y:bW H i (.sl 1 bd 0 m) i=.sl 1 bd 0 m:=by simp[bW]
   simp only[*,go_sem];have E:=f.push dc fd C (fun _=>.int .i64 0)
   have N:t≠bc:=by obtain⟨x,k,_⟩:=o;rintro rfl;rw[C]at k;cases k
   have I:h≠bc:=by obtain⟨x,k,_⟩:=d;rintro rfl;rw[C]at k;cases k
   have u:=(o.upd (o.fresh fd) ⟨2,1,m,fun _=>.int .i64 0⟩).upd N ⟨29,1,n,bW H i (.sl 1 bd 0 m)⟩;have w:=(d.upd (d.fresh fd) ⟨2,1,m,fun _=>.int .i64 0⟩).upd I ⟨29,1,n,bW H i (.sl 1 bd 0 m)⟩;generalize R:(fun a=>if a=i then bd else g' a)=gg at E
   refine aH (fun O S'=>∃j:Nat,j<=m/\O 1=.int .i64 m/\O 2=.fn 99 [.ptr 1 t 0,.ptr 1 h 0]/\O 7=.sl 1 bc 0 n/\O 8=.int .i64 i/\O 13=.int .i64 n/\O 14=.int .i64 i/\O 26=.int .i64 m/\O 27=.int .i64 j/\ed S' t 52 1 (aR n m A)/\ed S' h 4 1 (.bool true)/\fz 29 2 1 St.none S' bc gg n m (i+1) (fun a c=>.int .i64 (if a=i/\j<=c then 0 else A a c))) (fun O S=>m-cj (O 27)) ?_ ?_
   .simp only[go_sem,G,v,D,p,q];refine⟨0,om,rfl,u,w,E.congr fun a c _ _=>?_⟩
    by_cases e:a=i
    .simp[e]
    .simp[e]
   .clear G v D p q f E C Q R u w o d N I;rintro O S' ⟨j,hj,G,v,D,Z,p,q,J,K,o,d,f⟩;by_cases B:j<m
    .obtain⟨H,C,Q⟩:=id f.outer;obtain⟨g5,u5,v5⟩:=id (f.row i om);have x4:H i=.sl 1 (gg i) 0 m:=(Q i s).trans (ai om);have I:bc≠h:=by obtain⟨x,k,_⟩:=d;rintro rfl;rw[C]at k;cases k
     have k6g:∀a,a<i+1->gg a≠h:=fun a P=>by
      obtain⟨x,k,_⟩:=d;obtain⟨y,l,_⟩:=f.row a P;intro e;rw[e,k]at l;cases l
     have N:t≠h:=by obtain⟨x,k,_⟩:=d;obtain⟨y,l,_⟩:=o;rintro rfl;rw[k]at l;cases l
     simp -dsimp only[*,go_sem];refine fH 8 [[0,1,2,3,4],[],[]] kr ?_
     simp -dsimp only[go_sem,aa,v,D,Z,s,C,x4];refine(Db n m A i j S' t h s B (hA i j s B) o d).mono ?_;rintro _ S2 ⟨rfl,L,w⟩;have T:=(L bc I).trans C;have F:=(L (gg i) (k6g i om)).trans u5;have U:fz 29 2 1 St.none S2 bc gg n m (i+1) (fun a c=>.int .i64 (if a=i/\j<=c then 0 else A a c)):=⟨ft.noneS _,f.new,L.has I f.outer,fun a P=>L.has (k6g a P) (f.row a P),f.rnew,f.inj⟩
     have u:=L.var N o;have V:t≠gg i:=by obtain⟨x,k,_⟩:=u;rintro rfl;rw[F]at k;cases k
     have W:h≠gg i:=fun e=>k6g i om e.symm;simp only[go_sem,aa,G,v,D,Z,p,q,J,K,s,B,T,x4,F,aP (om:j<1000000),cj]
     refine⟨⟨j+1,om,rfl,u.upd V _,w.upd W _,(U.put dc (om:i<i+1) F j (.int .i64 (A i j))).congr fun a c _ _=>?_⟩,om⟩
     by_cases e:a=i/\c=j
     .obtain⟨rfl,rfl⟩:=e;rw[ai ⟨rfl,rfl⟩,af om]
     .rw[af e];congr 1;by_cases v:a=i/\j<=c
      .rw[ai v,ai om]
      .rw[af v,af om]
    .simp only[go_sem,G,v,D,p,q,J,K,B,aP (om:i<1000000),cj]
     exact⟨⟨i+1,om,rfl,o,d,gg,f.congr fun a c _ hc=>by rw[af om]⟩,om⟩
  .obtain rfl:i=n:=om
   have hN:=f.imat (A:=A) (fun _ _ _ _=>rfl);simp only[go_sem,aa,G,D,p,q,s];exact⟨bc,rfl,g',hN.1,d⟩
def Ek(n m:Nat)(A:aI)(h:1<=n)(a:n<=16)(k:1<=m)(c:m<=16)(l:∀i j:Nat,i<n->j<m->jk (A i j)):LX 43 [aR n m A] n m A:=by
 refine LX.of ?_;refine i9 func43 ntmps43 results43 ?_;simp -dsimp only[go_sem,aa,aR,bB];refine aF.intro fun d r=>?_
 try simp -dsimp only[go_sem]
 refine(lh n m A h a k c).call ?_;simp -dsimp only[go_sem];refine aF.intro fun e o=>?_;have n6_1:=(ag o).1;have f:d≠e:=n6_1.symm;simp -dsimp only[go_sem,aa,eZ];refine(D5 n m A _ d e a c l ?_ ?_).mono ?_
 .refine ed.upd (ed.upd (ed.new ?_) f _) f _;rfl
 .exact ed.set
 rintro _ S2 ⟨b,g,rfl,p,q⟩;obtain⟨s,t,u⟩:=id q;simp only[*,go_sem,aa];exact⟨b,rfl,g,p⟩

def vI(b:Nat)(m:Int)(S:St):cP 227 [.sl 1 b 0 1,.int .i64 m] S (fun r S'=>r=.int .i64 1/\ft S S'):=by
 refine i9 func227 ntmps227 results227 ?_;simp -dsimp only[go_sem,aa];refine(mS m S).mono ?_;rintro _ S1 ⟨bm,i,rfl,j,n⟩;simp -dsimp only[go_sem];refine dI (fun O S'=>∃c:Nat,c<=1/\S'=S1/\O 0=.sl 1 b 0 1/\O 6=.int .i64 1/\O 12=.int .i64 ((1:Nat):Int)/\O 13=.int .i64 c) (fun O S=>1-cj (O 13)) ?_ ?_
 .simp -dsimp only[go_sem];exact⟨0,om,rfl⟩
 rintro Q' h O S' ⟨c,o,rfl,e,f,a,d⟩;by_cases g:c<1
 .obtain rfl:c=0:=om
  simp -dsimp only[go_sem,a,d,g];refine dI (fun O S=>S=S'/\O 0=.sl 1 b 0 1/\O 6=.int .i64 1/\O 8=.int .i64 1/\O 12=.int .i64 ((1:Nat):Int)/\O 13=.int .i64 ((0:Nat):Int)) (fun O S=>0) ?_ ?_
  .simp -dsimp only[go_sem,e,f,a,d];rw[aP (k:=0) om];rfl
  clear e f a d;rintro Q'' hQ'' O S ⟨rfl,e,f,l,a,d⟩;simp -dsimp only[go_sem,e,l,show decide ((1:Int)<((1:Nat):Int))=false by rfl]
  rw[hQ''];simp -dsimp only[go_sem,e,f,a,d,cj];rw[aP (k:=0) om];exact⟨⟨1,om,rfl⟩,sm⟩
 .simp -dsimp only[go_sem,a,d,g];rw[h];simp -dsimp only[go_sem,f];exact j
def appZ1(a:S b=some ⟨2,1,1,g⟩)(c:∀b',(b'=b∨S b'=ab)->K (.sl 1 b' 0 2) ((S.del b).upd b' ⟨2,1,2,nm g 1 1 (fun _=>.int .i64 0)⟩)):ob 29 (.sl 1 b 0 1) (.int .i64 1) S K:=by
 show(match dJ 29,S b with
  | some e,some X=>(match gG e with
   | some (es',z,_)=>es'=1/\1=bZ e/\0=0/\X.ty=e/\X.es=1/\X.n=1/\1<=1/\1+1<=1048576 /\
    ∀b',(b'=b∨S b'=ab)->K (.sl 1 b' 0 (1+1)) ((S.del b).upd b' ⟨e,1,1+1,nm X.g 1 1 (fun _=>z)⟩)
   | ab=>False)
  | _,_=>False)
 rw[a];exact⟨rfl,rfl,rfl,rfl,rfl,rfl,om,om,c⟩
def N5{off len:Nat}(d:S b=some ⟨2,1,n,g⟩)(c:∀j,j<len->g (off+j)=.int .i64 (v j))(e:0<len)(f:off+len<=n)(p:len<=1000)
  (i:∀b' h,S b'=ab->(∀j,j<len->h j=.int .i64 (v j))->K (.sl 1 b' 0 len) (S.upd b' ⟨2,1,len,h⟩)):fU 29 29 .nil (.sl 1 b off len) S K:=by
 have l:Bx S (.sl 1 b off len)=some (1,len,fun j=>g (off+j),some b):=by simp[Bx,d,f]
 unfold fU;rw[show dJ 29=some 2 from rfl,l];refine⟨rfl,rfl,rfl,e,fun j m=>?_,om,fun b' a=>i b' _ a fun k o=>c k o⟩
 show eF 1 (g (off+j));rw[c j m];simp[eF]
def Fj{K:AV->Prop}(h:K (.sl 1 b 1 1)):lj 29 (.sl 1 b 0 2) (some (.int .i64 1)) ab ab K :=
 ⟨rfl,1,2,rfl,rfl,trivial,om,om,h⟩
def OC{K:Tm->St->Prop}(P:St->Prop)(a:P S)(h:∀T,P T->EC ops l O T K):EC ops l O S K:=h S a
def Tk:((1:Nat):Int)=1:=om
def c0i:((0:Nat):Int)=0:=om
def L6(a p:Int):Nat->Int:=fun j=>if j=0 then a%p else 1
def uX(a p:Int)(Y:2<=p)(J:p<=1000000)(Z:(bz p.toNat (a%p).toNat).1=1):Gv 179 [az 1 1 (fun _ _=>a),.int .i64 p] 1 1 (fun _ _=>rf p a):=by
 refine Gv.of ?_;refine i9 func179 ntmps179 results179 ?_;have F:0<=a%p/\a%p<p:=⟨aW _ om,aV _ om⟩;generalize K:rf p a=f;have C:0<=f/\f<p:=by rw[<-K];exact zS om a
 simp -dsimp only[go_sem,aa,az,aK];refine(xl 1 (fun _ _=>a) om om).call ?_;simp -dsimp only[go_sem,aa];refine(k9 p Y om).call ?_;simp -dsimp only[go_sem,aa];refine(mF 1 1 (fun _ _=>a) p om om om om _ _ (cS _ _)).mono ?_;rintro _ S1 ⟨b,g,rfl,L,_⟩;have G:=L.outer;have H:=L.row 0 om;simp -dsimp only[go_sem];refine dI (fun O S=>∃i:Nat,i<=1/\O 1=.int .i64 p/\O 7=.int .i64 ((1:Nat):Int)/\O 8=.sl 1 b 0 1/\O 30=.int .i64 ((1:Nat):Int)/\O 31=.int .i64 i/\∃c,bM S b 29 1 1 (fun _=>.sl 1 c 0 (1+i))/\bM S c 2 1 (1+i) (fun j=>.int .i64 (L6 a p j))) (fun O S=>1-cj (O 31)) ?_ ?_
 .simp -dsimp only[go_sem];refine⟨0,om,rfl,g 0,G.congr fun j x=>?_,H.congr fun j x=>?_⟩
  .obtain rfl:j=0:=om
   rfl
  .obtain rfl:j=0:=om
   simp[L6,lR]
 clear L G H;rintro Q' y O S ⟨i,hi,r,q,d,z,A,c,e,l⟩;by_cases o:i<1
 .obtain rfl:i=0:=om
  have s:b≠c:=bM.ne e l dc
  obtain⟨gb,ub,vb⟩:=id e;obtain⟨gc,uc,vc⟩:=id l;have xb:gb 0=.sl 1 c 0 1:=vb 0 om;have xc:gc 0=.int .i64 (a%p):=(vc 0 om).trans (by simp[L6])
  simp -dsimp only[go_sem,aa,q,d,z,A,o,ub,xb,Tk,c0i]
  repeat refine an ?_
  refine appZ1 uc ?_;intro b' B;have w:b≠b':=by
   rcases B with rfl|h
   .exact s
   .exact bM.fresh e h
  refine OC (fun T=>bM T b 29 1 1 (fun _=>.sl 1 c 0 1)/\bM T b' 2 1 2 (fun j=>.int .i64 (if j=0 then a%p else 0))) ?_ ?_
  .refine⟨⟨gb,?_,vb⟩,bM.here fun j x=>?_⟩
   .rw[aO w];unfold St.del;rw[af s];exact ub
   .match j,x with
    | 0,_=>simp[nm,bW,xc]
    | 1,_=>simp[nm,bW]
  clear e l ub uc vb vc xb xc s B;rintro T ⟨e,l⟩;obtain⟨gb,ub,vb⟩:=id e;obtain⟨gc,uc,vc⟩:=id l;have I:b'≠b:=w.symm;have M:IntKind.i64.wrap (1+0)=1:=dW (n:=1) om om;have N:IntKind.i64.wrap (0+1)=1:=dW (n:=1) om om;simp -dsimp only[go_sem,aa,r,q,d,z,A,o,ub,uc,Tk,c0i,I,eZ,M,N,cj]
  repeat refine an ?_
  refine⟨⟨1,om,rfl,b',?_,?_⟩,om⟩
  .refine bM.upd (bM.here fun j x=>?_) w _;obtain rfl:j=0:=om
   simp[bW]
  .refine bM.here fun j x=>?_
   match j,x with
   | 0,_=>simp[bW,vc 0 om,L6]
   | 1,_=>simp[bW,L6]
 obtain rfl:i=1:=om
 simp -dsimp only[go_sem,aa,q,d,z,A,o];rw[y];simp -dsimp only[go_sem,aa,r,d];refine(vI b p S).mono ?_;rintro _ S2 ⟨rfl,D⟩
 replace e:=D.has e
 replace l:=D.has l
 simp -dsimp only[go_sem,aa,r,d];refine(mS p S2).mono ?_;rintro _ S3 ⟨bm,_,rfl,E,_⟩
 replace e:=E.has e
 replace l:=E.has l
 have w0:IntKind.i64.wrap (1-1)=0:=dW (n:=0) om om;simp -dsimp only[go_sem,r,q,Tk,w0];clear D E y o;refine dI (fun O S=>∃k:Nat,k<=1/\O 1=.int .i64 p/\O 7=.int .i64 1/\O 8=.sl 1 b 0 1/\O 11=.int .i64 ((k:Int)-1)/\bM S b 29 1 1 (fun _=>.sl 1 c 0 2)/\bM S c 2 1 2 (fun j=>.int .i64 (if k=0 then L6 a p j*f%p else L6 a p j))) (fun O S=>Lg (O 11)) ?_ ?_
 .simp -dsimp only[go_sem,r,q,d,Tk];exact⟨1,om,rfl,e,l.congr fun j _=>by simp⟩
 clear e l r q d z A;rintro Q' y O S ⟨k,hk,r,q,d,m,e,l⟩;have s:b≠c:=bM.ne e l dc
 by_cases P:k=0
 .subst P;have Q:decide ((0:Int)<=((0:Nat):Int)-1)=false:=by simp
  simp -dsimp only[go_sem,aa,r,d,m,Q];rw[y];simp -dsimp only[go_sem,d];refine dI (fun O S=>∃i:Nat,i<=1/\O 7=.int .i64 1/\O 8=.sl 1 b 0 1/\O 107=.int .i64 ((1:Nat):Int)/\O 108=.int .i64 i/\∃c,bM S b 29 1 1 (fun _=>.sl 1 c 0 (2-i))/\bM S c 2 1 (2-i) (fun j=>.int .i64 (if i=0 then L6 a p j*f%p else f))) (fun O S=>1-cj (O 108)) ?_ ?_
  .simp -dsimp only[go_sem,q,d];exact⟨0,om,rfl,c,e,l⟩
  clear e l r q d m s;rintro Q'' hQ'' O S ⟨i,hi,q,d,t,u,c,e,l⟩;have s:b≠c:=bM.ne e l dc
  by_cases o:i<1
  .obtain rfl:i=0:=om
   obtain⟨gb,ub,vb⟩:=id e;obtain⟨gc,uc,vc⟩:=id l;have xb:gb 0=.sl 1 c 0 2:=vb 0 om;simp -dsimp only[go_sem,aa,q,d,t,u,o,ub,xb,Tk,c0i,du,iq]
   repeat refine an ?_
   refine Fj ?_
   try simp -dsimp only[go_sem,q,d,t,u,o,ub,xb,Tk,c0i]
   refine N5 (v:=fun _=>f) uc (fun j x=>?_) om om om ?_
   .obtain rfl:j=0:=om
    rw[vc 1 om];simp only[L6];rw[ai trivial,af om,fA,dZ C.1 C.2]
   intro b' h B hh;have w:b≠b':=bM.fresh e B;have M:IntKind.i64.wrap (0+1)=1:=dW (n:=1) om om;simp -dsimp only[go_sem,aa,q,d,t,u,o,ub,Tk,c0i,w,M,cj]
   repeat refine an ?_
   refine⟨⟨1,om,rfl,b',?_,?_⟩,om⟩
   .refine bM.here fun j x=>?_;obtain rfl:j=0:=om
    simp[bW]
   .refine bM.upd (bM.here fun j x=>?_) w.symm _;rw[hh j x];simp
  obtain rfl:i=1:=om
  simp -dsimp only[go_sem,aa,q,d,t,u,o];rw[hQ''];simp -dsimp only[go_sem,d];refine⟨b,rfl,fun _=>c,e,fun i _=>l.congr fun j _=>by simp,fun i j h1 h2 _=>om⟩
 obtain rfl:k=1:=om
 obtain⟨gb,ub,vb⟩:=id e;obtain⟨gc,uc,vc⟩:=id l;have xb:gb 0=.sl 1 c 0 2:=vb 0 om;have xc:gc 0=.int .i64 (a%p):=(vc 0 om).trans (by simp[L6])
 have Q:decide ((0:Int)<=((1:Nat):Int)-1)=true:=by simp
 have w2:((1:Nat):Int)-1=((0:Nat):Int):=om
 rw[w2]at m Q;simp -dsimp only[go_sem,aa,r,d,m,ub,uc,xb,xc];refine(Bq (a%p) p om om F.1 F.2).call ?_;unfold rf at K;rw[K,Z,dp];simp -dsimp only[go_sem,aa,r,d,m,ub,xb,xc];refine(He 2 c (L6 a p) f p S om om J C (fun j x=>?_) (l.congr fun j _=>by simp)).mono ?_
 .unfold L6;split<;>omega
 rintro _ S4 ⟨R,U⟩;have V:=R.has s e;simp -dsimp only[go_sem,r,d,m];refine dI (fun O S=>S=S4/\O 1=.int .i64 p/\O 7=.int .i64 1/\O 8=.sl 1 b 0 1/\O 11=.int .i64 ((0:Nat):Int)/\O 84=.int .i64 ((0:Nat):Int)/\O 85=.int .i64 0) (fun O S=>0) ?_ ?_
 .simp -dsimp only[go_sem,r,q,d,m]
 clear r q d m;rintro Q'' hQ'' O S ⟨rfl,r,q,d,m,W,X⟩;simp -dsimp only[go_sem,W,X,show decide ((0:Int)<((0:Nat):Int))=false by simp]
 rw[hQ''];have w3:IntKind.i64.wrap (((0:Nat):Int)-1)=((0:Nat):Int)-1:=i64_in om om;simp -dsimp only[go_sem,r,q,d,m,w3,Lg];refine⟨⟨0,om,rfl,V,U.congr fun j _=>by simp⟩,sm⟩
def vS(a p:Int)(m:2<=p)(d:p<=1000000)(n:(bz p.toNat (a%p).toNat).1=1):PF 142 [.int .i64 a,.int .i64 p] (.int .i64 (rf p a)):=by
 refine iH func142 ntmps142 results142 ?_;simp -dsimp only[go_sem];refine aF.intro fun e o=>?_;simp -dsimp only[go_sem];refine aF.intro fun c f=>?_;have n10_9:=(ag f).1
 try simp -dsimp only[go_sem]
 have h:eI ((St.none.upd e ⟨2,1,1,fun j=>[AV.int .i64 a].getD j .any⟩).upd c ⟨29,1,1,fun j=>[AV.sl 1 e 0 1].getD j .any⟩) c (fun _=>e) 1 1 (fun _ _=>a):=by
  refine⟨bM.here fun j q=>?_,fun j _=>bM.upd (bM.here fun k r=>?_) n10_9.symm _,fun i j s t _=>om⟩
  .obtain rfl:j=0:=om
   rfl
  .obtain rfl:k=0:=om
   rfl
 refine(uX a p m d n _ _ (fI.two h.vr.va (VA.refl _ _))).mono ?_;rintro _ S1 ⟨b,g,rfl,l,_⟩;obtain⟨gb,ub,vb⟩:=id l.outer;obtain⟨gc,uc,vc⟩:=id (l.row 0 om);have xb:gb 0=.sl 1 (g 0) 0 1:=vb 0 om;have xc:gc 0=.int .i64 (rf p a):=vc 0 om;simp -dsimp only[go_sem,aa,ub,uc,xb,xc]
 repeat refine an ?_
 exact VR.mf rfl

def io(n:Nat)(H:aI)(p:Int)(v:Nat->Int):Nat->Int:=fun i=>kT (lR H p) (lR (fun i _=>v i) p) n p i 0
def tC(a:2<=p)(i:Nat):0<=io n H p v i/\io n H p v i<p:=⟨aW _ om,aV _ om⟩
def Bm(n piv:Nat)(H:aI)(p:Int)(v:Nat->Int)(inv:Int)(h1:1<=n)(hn:n<=8)(hp:2<=p)(N:p<=10000)(g:piv<n)(hw0:io n H p v piv≠0)(hwz:∀i,i<piv->io n H p v i=0)(he:(bz p.toNat (io n H p v piv%p).toNat).1=1)(J:inv=rf p (io n H p v piv)) :
  Si 122 [az n n H,.int .i64 p,aK n v] n n (fun j i=>ka p piv (fun j=>io n H p v j*inv%p) i j):=by
 refine Si.of ?_;refine i9 func122 ntmps122 results122 ?_;have P:0<=inv/\inv<p:=by rw[J];exact zS om _
 simp -dsimp only[go_sem,aK]
 repeat refine an ?_
 refine aF.intro fun b7 f7=>?_;simp -dsimp only[go_sem];refine aH (fun O S=>∃i:Nat,i<=n/\O 0=az n n H/\O 1=.int .i64 p/\O 2=aK n v/\O 7=.sl 1 b7 0 n/\O 19=aK n v/\O 20=.int .i64 n/\O 21=.int .i64 i/\∃g',fz 29 2 1 St.none S b7 g' n 1 i (fun a _=>.int .i64 (v a))) (fun O S=>n-cj (O 21)) ?_ ?_
 .simp -dsimp only[go_sem,aK];exact⟨0,om,rfl,fun _=>0,fz.init f7 (fun _ _=>rfl) _ _⟩
 rintro O S ⟨i,hi,Q,m,w,R,x,y,z,g',o⟩;by_cases M:i<n
 .obtain⟨g4,K,v4⟩:=id o.outer;simp -dsimp only[go_sem,aa,aK,Q,m,R,x,y,z,M];refine aF.intro fun b29 U=>?_;have hne:b7≠b29:=bM.fresh o.outer U;simp -dsimp only[go_sem,aa,aK,Q,m,w,R,x,y,z,M,K,hne,aP (om:i<1000000),cj]
  refine⟨⟨i+1,om,rfl,_,(o.push dc U K (fun j=>[AV.int .i64 (v i)].getD j .any)).congr fun a c ha hc=>?_⟩,om⟩
  obtain rfl:c=0:=om
  by_cases e:a=i
  .subst e;simp
  .rw[af e]
 have hin:i=n:=om
 subst hin;have hN:=o.imat (A:=fun i _=>v i) (fun _ _ _ _=>rfl);simp -dsimp only[go_sem,aa,aK,Q,m,R,x,y,z,M];refine(LP i i 1 H (fun i _=>v i) p h1 om h1 om om om hp om S _ (fI.three (VA.refl _ _) hN.1.vr.va (VA.refl _ _))).mono ?_;rintro _ S1 ⟨bw,gw,rfl,Y,_,_,_⟩;simp -dsimp only[go_sem,aa,Q,m,R];have V:∀k,kT (lR H p) (lR (fun i _=>v i) p) i p k 0=io i H p v k:=fun _=>rfl;refine(Eo i 1 piv _ om om g (by rw[V];exact hw0) (fun k hk=>by rw[V];exact hwz k hk)).spec (fI.two Y.vr.va (VA.refl _ _)) ?_
 obtain⟨go,uo,vo⟩:=id Y.outer;obtain⟨gp,up,vp⟩:=id (Y.row piv g);have xo:go piv=.sl 1 (gw piv) 0 1:=vo piv g;have xp:gp 0=.int .i64 (io i H p v piv):=vp 0 om;simp -dsimp only[go_sem,aa,m,g,uo,up,xo,xp]
 repeat refine an ?_
 refine(vS (io i H p v piv) p hp om he).call ?_;rw[<-J];simp -dsimp only[go_sem,aK,m,w]
 repeat refine an ?_
 refine aF.intro fun l f14=>?_;simp -dsimp only[go_sem];have hq:∀k,0<=io i H p v k*inv%p/\io i H p v k*inv%p<p:=fun k=>⟨aW _ om,aV _ om⟩;have hpp:p*p<=100000000:=by have:=cN N N om om;omega
 have hpp0:0<=p*p:=cK om om;have L:∀a b:Int,0<=a->a<p->0<=b->b<p->0<=a*b/\a*b<=100000000:=fun a b a0 a1 b0 b1=>by
  have h1:=cN (om:a<=p) (om:b<=p) b0 om
  exact⟨cK a0 b0,om⟩
 clear uo up vo vp xo xp;refine dI (fun O S=>∃j:Nat,j<=i/\O 1=.int .i64 p/\O 2=aK i v/\O 10=.sl 1 bw 0 i/\O 12=.int .i64 piv/\O 13=.int .i64 inv/\O 14=.sl 1 l 0 i/\O 53=.int .i64 i/\O 54=.int .i64 j/\∃g',fz 29 2 1 S1 S l g' i i j (fun a c=>.int .i64 (ka p piv (fun j=>io i H p v j*inv%p) c a))) (fun O S=>i-cj (O 54)) ?_ ?_
 .simp -dsimp only[go_sem,m,w,aK];exact⟨0,om,rfl,fun _=>0,fz.init f14 (fun _ _=>rfl) _ _⟩
 clear Q m w R x y z;rintro Q' hQ' O S ⟨j,hj,m,w,B,C,D,t,E,F,g',o⟩;by_cases d:j<i
 .obtain⟨g4,K,v4⟩:=id o.outer;by_cases W:j=piv
  .subst W;simp -dsimp only[go_sem,aa,aK,m,w,B,C,D,t,E,F,d,dp]
   repeat refine an ?_
   refine aF.intro fun f u=>?_;have q:l≠f:=bM.fresh o.outer u;have r:f≠l:=q.symm;have G:=o.push dc u K (fun _=>.int .i64 0)
   have wpp:IntKind.i64.wrap (p*p)=p*p:=i64_in om om;simp -dsimp only[go_sem,d,K,q,r,eZ,wpp,aP (om:j<1000000),cj]
   have s:=G.put dc (om:j<j+1) (g':=fun _=>.int .i64 0) (by rw[ai rfl,aO r,cn]) j (.int .i64 (p*p))
   rw[show(if j=j then f else g' j)=f from ai rfl]at s
   refine⟨⟨j+1,om,rfl,_,s.congr fun a c ha hc=>?_⟩,om⟩
   by_cases ea:a=j
   .subst ea;simp only[kc,aQ,ka];by_cases ec:c=a
    .rw[ai ec,ai ec]
    .rw[af ec,af ec]
   .rw[af (fun h=>ea h.1),af ea]
  .have hjb:((j:Int)==(piv:Int))=false:=by simp;omega
   simp -dsimp only[go_sem,aa,aK,m,w,B,C,D,t,E,F,d,hjb]
   repeat refine an ?_
   refine aF.intro fun f u=>?_;have q:l≠f:=bM.fresh o.outer u;have r:f≠l:=q.symm;have G:=o.push dc u K (fun _=>.int .i64 0)
   simp -dsimp only[go_sem,d,K,q,r,eZ];have s:=G.put dc (om:j<j+1) (g':=fun _=>.int .i64 0) (by rw[ai rfl,aO r,cn]) j (.int .i64 p)
   rw[show(if j=j then f else g' j)=f from ai rfl]at s
   refine oK (fun T=>∃gg,fz 29 2 1 S1 T l gg i i (j+1) (fun a c=>if a=j then .int .i64 (if c=j then p else 0)else .int .i64 (ka p piv (fun j=>io i H p v j*inv%p) c a))) ⟨_,s.congr fun a c ha hc=>?_⟩ ?_
   .by_cases ea:a=j
    .subst ea;simp only[kc,aQ];by_cases ec:c=a
     .rw[ai ec,ai ec]
     .rw[af ec,af ec]
    .rw[af (fun h=>ea h.1),af ea,af ea]
   clear o G s K v4 q r;rintro T ⟨gg,Z⟩;obtain⟨go,uo,vo⟩:=id Z.outer;obtain⟨gr,ur,vr⟩:=id (Z.row j om);have X:=Y.ext Z.ext;obtain⟨gx,ux,vx⟩:=id X.outer;obtain⟨gy,uy,vy⟩:=id (X.row j d);have xo:go j=.sl 1 (gg j) 0 i:=(vo j d).trans (ai om);have xx:gx j=.sl 1 (gw j) 0 1:=vx j d;have xy:gy 0=.int .i64 (io i H p v j):=vy 0 om;obtain⟨w0,w1⟩:=tC (n:=i) (H:=H) (v:=v) hp j;obtain⟨m0,m1⟩:=L _ _ w0 w1 P.1 P.2;obtain⟨q0,q1⟩:=hq j;obtain⟨r0,r1⟩:=L (p-1) _ om om q0 q1;have k1:IntKind.i64.wrap (0-p)=-p:=by rw[EN];exact i64_in om om
   have k2:IntKind.i64.wrap (io i H p v j*inv)=io i H p v j*inv:=i64_in om om;have k3:(io i H p v j*inv).tmod p=io i H p v j*inv%p:=aL m0;have k4:IntKind.i64.wrap (-p*(io i H p v j*inv%p))=-p*(io i H p v j*inv%p):=by
    rw[Int.sub_mul,fA]at r0 r1;rw[sd];exact i64_in om om
   have hp0:¬p=0:=om
   refine bE 19 kr ?_
   simp -dsimp only[go_sem,aa,aK,m,w,B,C,D,t,E,F,d,uo,ur,ux,uy,xo,xx,xy,g,k1,k2,k3,k4,hp0,aP (om:j<1000000),cj]
   repeat refine an ?_
   refine⟨⟨j+1,om,rfl,gg,(Z.put dc (om:j<j+1) ur piv (.int .i64 (-p*(io i H p v j*inv%p)))).congr fun a c ha hc=>?_⟩,om⟩
   by_cases ea:a=j
   .subst ea;simp only[kc,aQ,ka];rw[af W];by_cases ec:c=piv
    .rw[ai ec,af om,ai ec,sd]
    .rw[af ec];by_cases I:c=a
     .rw[ai I,ai I]
     .rw[af I,af I,af ec]
   .rw[af (fun h=>ea h.1),af ea]
 have hji:j=i:=om
 rw[hji]at o;have hN2:=o.imat (A:=fun j i'=>ka p piv (fun j=>io i H p v j*inv%p) i' j) (fun _ _ _ _=>rfl);simp -dsimp only[go_sem,aa,m,w,B,C,D,t,E,F,d];rw[hQ'];simp -dsimp only[go_sem,t];exact⟨l,rfl,g',hN2.1⟩

def TJ(n:Nat)(H:aI)(k:Nat)(S:St)(x:AV):Prop:=x=az (n-k) (n-k) (cQ H k)∨∃b g,x=.sl 1 b 0 (n-k)/\eI S b g (n-k) (n-k) (cQ H k)
def kZ{a b A B:Int}(d:-A<=a/\a<=A)(e:-B<=b/\b<=B):-(A*B)<=a*b/\a*b<=A*B:=by
 have h:(a*b).natAbs<=A.natAbs*B.natAbs:=by rw[cJ];exact a9 om om
 have c:(A.natAbs:Int)*B.natAbs=A*B:=by rw[show(A.natAbs:Int)=A by omega,show(B.natAbs:Int)=B by omega]
 have f:((A.natAbs*B.natAbs:Nat):Int)=A*B:=by rw[bD,c]
 omega
def K5(n:Nat)(H:aI):az n n H=az (n-0) (n-0) (cQ H 0):=by
 simp only[az,aK,fq,iz]

def qv(m:Nat)(A:aI)(β:Bool)(j:1<=m)(w:m<=8)(u:∀i,i<m->-24696061952<=A i 0/\A i 0<=24696061952)(hβ:β=true↔vN A m):PF 108 [az m m A] (.bool β):=by
 refine iH func108 ntmps108 results108 ?_;have v:0<m:=om
 have b:(0:Int)<(m:Int):=om
 by_cases n:A 0 0<=0
 .simp -dsimp only[go_sem,aK,az,b,n,iq,du];rw[cL hβ fun h=>by have:=h.1;omega]
  exact VR.mf rfl
 by_cases q:(65536:Int)<=A 0 0
 .simp -dsimp only[go_sem,aK,az,b,n,q,iq,du];rw[cL hβ fun h=>by have:=h.2.1;omega]
  exact VR.mf rfl
 simp -dsimp only[go_sem,aK,az,b,n,q,iq,du];refine Hb 1 rfl rfl rfl om ?_;simp -dsimp only[go_sem];refine aH (fun O S=>∃i:Nat,i<=m-1/\(∀a,1<=a->a<1+i->2*A a 0<=A 0 0/\-2*A a 0<=A 0 0)/\O 3=.int .i64 (A 0 0)/\O 18=.lst 1 (m-1) (fun i=>aK m (A (1+i)))/\O 19=.int .i64 ((m-1:Nat):Int)/\O 20=.int .i64 i) (fun O S=>m-cj (O 20)) ?_ ?_
 .simp -dsimp only[go_sem,aK];exact⟨0,om,fun a j r=>om,rfl⟩
 .rintro O S ⟨i,x,k,l,c,d,f⟩;by_cases g:i<m-1
  .obtain⟨y,z⟩:=u (1+i) om;have o:IntKind.i64.wrap (2*A (1+i) 0)=2*A (1+i) 0:=i64_in om om;have s:IntKind.i64.wrap (-2*A (1+i) 0)=-2*A (1+i) 0:=i64_in om om;by_cases p:A 0 0<2*A (1+i) 0
   .simp -dsimp only[go_sem,aa,aK,l,c,d,f,b,g,o,p];rw[cL hβ fun h=>by have:=h.2.2 (1+i) om om;omega]
    exact VR.mf rfl
   by_cases t:A 0 0 < -2*A (1+i) 0
   .simp -dsimp only[go_sem,aa,aK,l,c,d,f,b,g,o,s,p,t];rw[cL hβ fun h=>by have:=h.2.2 (1+i) om om;omega]
    exact VR.mf rfl
   simp -dsimp only[go_sem,aa,aK,l,c,d,f,b,g,o,s,p,t,aP (om:i<1000000),cj]
   refine⟨⟨i+1,om,fun a j r=>?_,rfl⟩,om⟩
   by_cases e:a=1+i
   .rw[e];omega
   .exact k a j om
  .simp -dsimp only[go_sem,aa,aK,l,c,d,f,g];rw[hβ.2 ⟨om,om,fun a j r=>k a j om⟩]
   exact VR.mf rfl
def FE(n:Nat)(A:aI)(β:Bool)(v:1<=n)(E:n<=8)(hβ:β=true↔∀i j,i<n->j<n->A i j=A j i/\-262144<A i j/\A i j<262144):PF 107 [az n n A] (.bool β):=by
 refine iH func107 ntmps107 results107 ?_;simp -dsimp only[go_sem,aK,az,(om:¬((n:Int)<1)),(om:¬((8:Int)<(n:Int)))]
 refine aH (fun O S=>∃i:Nat,i<=n/\O 0=az n n A/\O 3=.int .i64 n/\O 18=az n n A/\O 19=.int .i64 n/\O 20=.int .i64 i) (fun O S=>n-cj (O 20)) ?_ ?_
 .simp -dsimp only[go_sem,aK,az];exact⟨0,om,rfl⟩
 .rintro O S ⟨i,D,l,z,r,s,t⟩;by_cases c:i<n
  .simp -dsimp only[go_sem,aK,az,l,z,r,s,t,c,show((n:Int) != n)=false by simp,aP (om:i<1000000),cj]
   exact⟨⟨i+1,om,rfl⟩,om⟩
  .simp -dsimp only[go_sem,aK,az,l,z,r,s,t,c];clear z r s t;refine aH (fun O S=>∃i:Nat,i<=n/\(∀a b,a<i->b<n->A a b=A b a/\-262144<A a b/\A a b<262144)/\O 0=az n n A/\O 29=az n n A/\O 30=.int .i64 n/\O 31=.int .i64 i) (fun O S=>n-cj (O 31)) ?_ ?_
   .simp -dsimp only[go_sem,aK,az,l];exact⟨0,om,fun a b v y=>om,rfl⟩
   .clear l;rintro O S ⟨i,D,w,l,d,f,g⟩;by_cases c:i<n
    .simp -dsimp only[go_sem,aK,az,d,f,g,c];refine aH (fun O S=>∃j:Nat,j<=n/\(∀b,b<j->A i b=A b i/\-262144<A i b/\A i b<262144)/\O 0=az n n A/\O 6=.int .i64 i/\O 29=az n n A/\O 30=.int .i64 n/\O 31=.int .i64 i/\O 36=aK n (A i)/\O 37=.int .i64 n/\O 38=.int .i64 j) (fun O S=>n-cj (O 38)) ?_ ?_
     .simp -dsimp only[go_sem,aK,az,l,d,f,g];exact⟨0,om,fun b v=>om,rfl⟩
     .clear l d f g;rintro O S ⟨j,F,q,l,x,d,f,g,m,o,p⟩;by_cases k:j<n
      .by_cases u:A i j=A j i
       .by_cases B:A i j<=-262144
        .simp -dsimp only[go_sem,aK,az,l,x,d,f,g,m,o,p,c,k,show(A i j != A j i)=false by rw[u];simp,B]
         rw[cL hβ fun h=>by have:=h i j c k;omega]
         exact VR.mf rfl
        by_cases C:262144<=A i j
        .simp -dsimp only[go_sem,aK,az,l,x,d,f,g,m,o,p,c,k,show(A i j != A j i)=false by rw[u];simp,B,C]
         rw[cL hβ fun h=>by have:=h i j c k;omega]
         exact VR.mf rfl
        simp -dsimp only[go_sem,aK,az,l,x,d,f,g,m,o,p,c,k,show(A i j != A j i)=false by rw[u];simp,B,C,aP (om:j<1000000),cj]
        refine⟨⟨j+1,om,fun b v=>?_,rfl⟩,om⟩
        by_cases e:b=j
        .rw[e];exact⟨u,om,om⟩
        .exact q b om
       .simp -dsimp only[go_sem,aK,az,l,x,d,f,g,m,o,p,c,k,show(A i j != A j i)=true by simpa using u]
        rw[cL hβ fun h=>u (h i j c k).1];exact VR.mf rfl
      .simp -dsimp only[go_sem,aK,az,l,x,d,f,g,m,o,p,c,k,aP (om:i<1000000),cj]
       refine⟨⟨i+1,om,fun a b v y=>?_,rfl⟩,om⟩
       by_cases e:a=i
       .rw[e];exact q b om
       .exact w a b om y
    .simp -dsimp only[go_sem,aK,az,d,f,g,c];rw[hβ.2 fun a b v y=>w a b om y];exact VR.mf rfl

def mZ(n:Nat)(H:aI)(β:Bool)(hn1:1<=n)(q:n<=8)(hβ:β=true↔(∀i j,i<n->j<n->H i j=H j i)/\ti H n):PF 48 [az n n H] (.bool β):=by
 obtain⟨βs,hβs⟩:=gR (∀i j,i<n->j<n->H i j=H j i/\-262144<H i j/\H i j<262144);refine iH func48 ntmps48 results48 ?_;simp -dsimp only[go_sem,aa,az,aK];refine(FE n H βs hn1 om hβs).call ?_
 cases βs with
 | false =>
  simp -dsimp only[go_sem];rw[cL hβ fun h=>by
   have:=hβs.2 fun i j hi hj=>⟨h.1 i j hi hj,by have:=(h.2.red h.1 q).entry q hi hj;omega⟩
   cases this]
  exact VR.mf rfl
 | true =>
 have I:∀i j,i<n->j<n->H i j=H j i:=fun i j hi hj=>(hβs.1 rfl i j hi hj).1;have hA:∀i j,i<n->j<n->-262144<H i j/\H i j<262144:=fun i j hi hj=>(hβs.1 rfl i j hi hj).2;have T:¬ti H n->β=false:=fun h=>cL hβ fun hh=>h hh.2;simp -dsimp only[go_sem];refine aH (fun O S=>∃(k:Nat) (x:AV),k<n/\yj H n k/\Q5 H n k/\TJ n H k S x/\O 3=x/\O 4=.int .i64 (det k H)) (fun O S=>match O 3 with|.lst _ m _=>m|.sl _ _ _ m=>m|_=>0) ?_ ?_
 .simp -dsimp only[go_sem];exact⟨0,om,yj.init,Q5.init hA,_,bF (K5 n H),rfl,by simp[det]⟩
 .rintro O S ⟨k,x,hk,D,y,hSt,p,w⟩;have d0:=D.pos k om;have d2:=D.lt k om;have b0:=y.num (i:=0) (j:=0) ⟨d0,d2⟩ q om om;rw[df]at b0;obtain⟨βk,hβk⟩:=gR (vN (cQ H k) (n-k));have r:cQ H k 0 0=det (k+1) H:=df H k;have d:0<n-k:=om
  have t:(0:Int)<((n-k:Nat):Int):=om
  by_cases U:1<n-k
  .have f:(1:Int)<((n-k:Nat):Int):=om
   have wsub:IntKind.i64.wrap (((n-k:Nat):Int)-1)=((n-(k+1):Nat):Int):=dW om om;rcases hSt with rfl|⟨b,g,rfl,C⟩
   .simp -dsimp only[go_sem,aa,az,aK,p,f,t,r];refine(qv (n-k) (cQ H k) βk d om (fun i hi=>y.num ⟨d0,d2⟩ q om om) hβk).spec (fI.cons (VA.refl _ _) fI.nil) ?_
    cases βk with
    | false =>
     simp -dsimp only[go_sem,az,aK,p,wsub];rw[T fun h=>by have:=hβk.2 (h.short I q hk);cases this]
     exact VR.mf rfl
    | true =>
    have J:=hβk.1 rfl;obtain⟨d1,d3,K⟩:=id J;rw[df]at d1 d3 K;have z:=y.step D I J;simp -dsimp only[go_sem,az,aK,p,wsub]
    repeat refine an ?_
    refine aF.intro fun bc fc=>?_;simp -dsimp only[go_sem];refine aH (fun O S'=>∃i:Nat,i<=n-(k+1)/\O 3=az (n-k) (n-k) (cQ H k)/\O 4=.int .i64 (det k H)/\O 5=.int .i64 (det (k+1) H)/\O 6=.sl 1 bc 0 (n-(k+1))/\O 31=.int .i64 ((n-(k+1):Nat):Int)/\O 32=.int .i64 i/\∃g',fz 29 2 1 S S' bc g' (n-(k+1)) (n-(k+1)) i (fun a j=>.int .i64 (cQ H (k+1) a j))) (fun O S=>n-cj (O 32)) ?_ ?_
    .simp -dsimp only[go_sem,az,aK,p,w];exact⟨0,om,rfl,fun _=>0,fz.init fc (fun _ _=>rfl) _ _⟩
    .clear p w;rintro O S' ⟨i,hi,p,w,E,F,l,o,g',u⟩;by_cases v:i<n-(k+1)
     .have V:i+1<n-k:=om
      obtain⟨g4,G,W⟩:=id u.outer;simp -dsimp only[go_sem,aa,az,aK,p,w,E,F,l,o,v,V,aP (om:i<1000000),G]
      repeat refine an ?_
      refine aF.intro fun bd fd=>?_;have hdc:bc≠bd:=bM.fresh u.outer fd;simp -dsimp only[go_sem,v,G,hdc];have L:=u.push dc fd G (fun _=>.int .i64 0)
      generalize hgg:(fun a=>if a=i then bd else g' a)=gg at L
      refine aH (fun O S'=>∃j:Nat,j<=n-(k+1)/\O 3=az (n-k) (n-k) (cQ H k)/\O 4=.int .i64 (det k H)/\O 5=.int .i64 (det (k+1) H)/\O 6=.sl 1 bc 0 (n-(k+1))/\O 7=.int .i64 i/\O 8=aK (n-k) (cQ H k (i+1))/\O 31=.int .i64 ((n-(k+1):Nat):Int)/\O 32=.int .i64 i/\O 47=.int .i64 ((n-(k+1):Nat):Int)/\O 48=.int .i64 j/\fz 29 2 1 S S' bc gg (n-(k+1)) (n-(k+1)) (i+1) (fun a c=>.int .i64 (if a=i/\j<=c then 0 else cQ H (k+1) a c))) (fun O S=>n-cj (O 48)) ?_ ?_
      .simp -dsimp only[go_sem,az,aK,p,w,E,F,l,o];refine⟨0,om,rfl,L.congr fun a c _ _=>?_⟩
       by_cases e:a=i
       .simp[e]
       .simp[e]
      .clear p w E F l o u L G W hgg;rintro O S' ⟨j,hj,p,w,E,F,e7,e8,l,o,M,N,u⟩;by_cases P:j<n-(k+1)
       .have X:j+1<n-k:=om
        obtain⟨g4,G,W⟩:=id u.outer;obtain⟨g5,Y,v5⟩:=id (u.row i om);have x4:g4 i=.sl 1 (gg i) 0 (n-(k+1)):=(W i v).trans (ai om);have b1:=y.num (i:=i+1) (j:=j+1) ⟨d0,d2⟩ q om om;have b2:=y.num (i:=i+1) (j:=0) ⟨d0,d2⟩ q om om;have b3:=y.num (i:=0) (j:=j+1) ⟨d0,d2⟩ q om om;have hs2:2*((cQ H k (i+1) 0).natAbs:Int)<=det (k+1) H:=by
         have h3:=K (i+1) om om;omega
        have hstep:=ju D.ne i j;rw[df]at hstep;have p1:=kZ (A:=65536) (B:=24696061952) (om:-65536<=det (k+1) H/\det (k+1) H<=65536) b1
        have p2:=kZ (A:=65536) (B:=24696061952) (om:-65536<=cQ H k (i+1) 0/\cQ H k (i+1) 0<=65536) b3
        have q1:IntKind.i64.wrap (det (k+1) H*cQ H k (i+1) (j+1))=det (k+1) H*cQ H k (i+1) (j+1):=i64_in om om;have q2:IntKind.i64.wrap (cQ H k (i+1) 0*cQ H k 0 (j+1))=cQ H k (i+1) 0*cQ H k 0 (j+1):=i64_in om om;have q3:IntKind.i64.wrap (det (k+1) H*cQ H k (i+1) (j+1)-cQ H k (i+1) 0*cQ H k 0 (j+1))=det k H*cQ H (k+1) i j:=by rw[<-hstep];exact i64_in om om
        have b4:=z.num (i:=i) (j:=j) ⟨d1,d3⟩ q om om;have q4:pG (det k H*cQ H (k+1) i j) (det k H)=cQ H (k+1) i j:=OO _ om;have q5:IntKind.i64.wrap (cQ H (k+1) i j)=cQ H (k+1) i j:=i64_in om om;have q6:¬(det k H=0):=om
        have hjn:j+1<n:=om
        have hin:i+1<n:=om
        have hpn:0<n:=om
        have hpnz:(0:Int)<(n:Int):=om
        simp -dsimp only[go_sem,az,aK,p,w,E,F,l,o,M,N,P,aP (om:i<1000000)]
        refine bE 27 kr ?_
        simp -dsimp only[go_sem,aa,az,aK,p,w,E,F,e7,e8,l,o,M,N,v,P,X,t,aP (om:j<1000000),G,x4,Y,q1,q2,q3,q4,q5,q6,cj]
        refine⟨⟨j+1,om,rfl,(u.put dc (om:i<i+1) Y j (.int .i64 (cQ H (k+1) i j))).congr fun a c _ _=>?_⟩,om⟩
        by_cases e:a=i/\c=j
        .obtain⟨rfl,rfl⟩:=e;rw[ai ⟨rfl,rfl⟩,af om]
        .rw[af e];congr 1;by_cases e2:a=i/\j<=c
         .rw[ai e2,ai om]
         .rw[af e2,af om]
       .simp -dsimp only[go_sem,az,aK,p,w,E,F,l,o,M,N,P,aP (om:i<1000000),cj]
        exact⟨⟨i+1,om,rfl,gg,u.congr fun a c _ hc=>by rw[af om]⟩,om⟩
     .obtain rfl:i=n-(k+1):=om
      have hN:=u.imat (A:=cQ H (k+1)) (fun _ _ _ _=>rfl);obtain⟨g4,G,W⟩:=id hN.1.outer;obtain⟨g5,Y,v5⟩:=id (hN.1.row 0 om);have x4:g4 0=.sl 1 (g' 0) 0 (n-(k+1)):=W 0 om;have x5:g5 0=.int .i64 (det (k+2) H):=(v5 0 om).trans (by simp only[df])
      have Z:0<n-(k+1):=om
      have hqz:(0:Int)<((n-(k+1):Nat):Int):=om
      have hle:iC H (k+1)↔3*(det (k+1) H*det (k+1) H)<=4*(det k H*det (k+2) H+cQ H k 1 0*cQ H k 1 0):=by
       unfold iC kK;rw[(om:k+1-1=k),(om:k+1-k=1),show k+1+1=k+2 from rfl]
      have hs2:2*((cQ H k 1 0).natAbs:Int)<=det (k+1) H:=by
       have h3:=K 1 om om;omega
      have d4:=z.num (i:=0) (j:=0) ⟨d1,d3⟩ q om om;rw[df,show k+1+1=k+2 from rfl]at d4;have p1:=kZ (A:=65536) (B:=24696061952) (om:-65536<=det k H/\det k H<=65536) d4
      have p2:=kZ (A:=65536) (B:=65536) (om:-65536<=cQ H k 1 0/\cQ H k 1 0<=65536) (om:-65536<=cQ H k 1 0/\cQ H k 1 0<=65536)
      have p3:=kZ (A:=65536) (B:=65536) (om:-65536<=det (k+1) H/\det (k+1) H<=65536) (om:-65536<=det (k+1) H/\det (k+1) H<=65536)
      have q1:IntKind.i64.wrap (det k H*det (k+2) H)=det k H*det (k+2) H:=i64_in om om;have q2:IntKind.i64.wrap (cQ H k 1 0*cQ H k 1 0)=cQ H k 1 0*cQ H k 1 0:=i64_in om om;have q3:IntKind.i64.wrap (det k H*det (k+2) H+cQ H k 1 0*cQ H k 1 0)=det k H*det (k+2) H+cQ H k 1 0*cQ H k 1 0:=i64_in om om;have q4:IntKind.i64.wrap (4*(det k H*det (k+2) H+cQ H k 1 0*cQ H k 1 0))=4*(det k H*det (k+2) H+cQ H k 1 0*cQ H k 1 0):=i64_in om om;have q5:IntKind.i64.wrap (3*det (k+1) H)=3*det (k+1) H:=i64_in om om;have q6:IntKind.i64.wrap (3*det (k+1) H*det (k+1) H)=3*(det (k+1) H*det (k+1) H):=by rw[jn];exact i64_in om om
      have hk1n:k+1<n:=om
      have hpn:0<n:=om
      have hpnz:(0:Int)<(n:Int):=om
      have hln:1<n:=om
      have hlnz:(1:Int)<(n:Int):=om
      by_cases q7:4*(det k H*det (k+2) H+cQ H k 1 0*cQ H k 1 0)<3*(det (k+1) H*det (k+1) H)
      .simp -dsimp only[go_sem,aa,az,aK,p,w,E,F,l,o,v,t,f,Z,hqz,G,x4,Y,x5,q1,q2,q3,q4,q5,q6,q7,show Int.toNat 1=1 from rfl];rw[T fun h=>by have:=hle.1 (h.rows.2 (k+1) om hk1n);omega]
       exact VR.mf rfl
      .simp -dsimp only[go_sem,aa,az,aK,p,w,E,F,l,o,v,t,f,Z,hqz,G,x4,Y,x5,q1,q2,q3,q4,q5,q6,q7,show Int.toNat 1=1 from rfl];have hU1:=D.step J (hle.2 om);refine⟨⟨k+1,om,hU1,z,.sl 1 bc 0 (n-(k+1)),bH ⟨bc,g',rfl,hN.1⟩,rfl,rfl⟩,om⟩
   .obtain⟨g1,Q,R⟩:=id C.outer;obtain⟨g2,u2,v2⟩:=id (C.row 0 d);obtain⟨g3,u3,v3⟩:=id (C.row 1 U);have x1:g1 0=.sl 1 (g 0) 0 (n-k):=R 0 d;have x2:g2 0=.int .i64 (cQ H k 0 0):=v2 0 d;have y1:g1 1=.sl 1 (g 1) 0 (n-k):=R 1 U;have y2:g3 0=.int .i64 (cQ H k 1 0):=v3 0 d;simp -dsimp only[go_sem,aa,p,f,d,t,Q,u2,x1,x2,r];refine(qv (n-k) (cQ H k) βk d om (fun i hi=>y.num ⟨d0,d2⟩ q om om) hβk).spec (fI.cons C.vr.va fI.nil) ?_
    cases βk with
    | false =>
     simp -dsimp only[go_sem,p,wsub];rw[T fun h=>by have:=hβk.2 (h.short I q hk);cases this]
     exact VR.mf rfl
    | true =>
    have J:=hβk.1 rfl;obtain⟨d1,d3,K⟩:=id J;rw[df]at d1 d3 K;have z:=y.step D I J;simp -dsimp only[go_sem,p,wsub]
    repeat refine an ?_
    refine aF.intro fun bc fc=>?_;simp -dsimp only[go_sem];refine aH (fun O S'=>∃i:Nat,i<=n-(k+1)/\O 3=.sl 1 b 0 (n-k)/\O 4=.int .i64 (det k H)/\O 5=.int .i64 (det (k+1) H)/\O 6=.sl 1 bc 0 (n-(k+1))/\O 31=.int .i64 ((n-(k+1):Nat):Int)/\O 32=.int .i64 i/\∃g',fz 29 2 1 S S' bc g' (n-(k+1)) (n-(k+1)) i (fun a j=>.int .i64 (cQ H (k+1) a j))) (fun O S=>n-cj (O 32)) ?_ ?_
    .simp -dsimp only[go_sem,p,w];exact⟨0,om,rfl,fun _=>0,fz.init fc (fun _ _=>rfl) _ _⟩
    .clear p w;rintro O S' ⟨i,hi,p,w,E,F,l,o,g',u⟩;by_cases v:i<n-(k+1)
     .have V:i+1<n-k:=om
      obtain⟨g1,Q,R⟩:=id (u.ext.has C.outer);have x1:g1 (i+1)=.sl 1 (g (i+1)) 0 (n-k):=R (i+1) V;have hbc:b≠bc:=bM.fresh C.outer fc;obtain⟨g4,G,W⟩:=id u.outer;simp -dsimp only[go_sem,aa,p,w,E,F,l,o,v,V,Q,x1,aP (om:i<1000000),G]
      repeat refine an ?_
      refine aF.intro fun bd fd=>?_;have hdc:bc≠bd:=bM.fresh u.outer fd;simp -dsimp only[go_sem,v,G,hdc];have L:=u.push dc fd G (fun _=>.int .i64 0)
      generalize hgg:(fun a=>if a=i then bd else g' a)=gg at L
      refine aH (fun O S'=>∃j:Nat,j<=n-(k+1)/\O 3=.sl 1 b 0 (n-k)/\O 4=.int .i64 (det k H)/\O 5=.int .i64 (det (k+1) H)/\O 6=.sl 1 bc 0 (n-(k+1))/\O 7=.int .i64 i/\O 8=.sl 1 (g (i+1)) 0 (n-k)/\O 31=.int .i64 ((n-(k+1):Nat):Int)/\O 32=.int .i64 i/\O 47=.int .i64 ((n-(k+1):Nat):Int)/\O 48=.int .i64 j/\fz 29 2 1 S S' bc gg (n-(k+1)) (n-(k+1)) (i+1) (fun a c=>.int .i64 (if a=i/\j<=c then 0 else cQ H (k+1) a c))) (fun O S=>n-cj (O 48)) ?_ ?_
      .simp -dsimp only[go_sem,p,w,E,F,l,o];refine⟨0,om,rfl,L.congr fun a c _ _=>?_⟩
       by_cases e:a=i
       .simp[e]
       .simp[e]
      .clear p w E F l o u L G W hgg Q R x1;rintro O S' ⟨j,hj,p,w,E,F,e7,e8,l,o,M,N,u⟩;by_cases P:j<n-(k+1)
       .have X:j+1<n-k:=om
        obtain⟨g4,G,W⟩:=id u.outer;obtain⟨g5,Y,v5⟩:=id (u.row i om);have x4:g4 i=.sl 1 (gg i) 0 (n-(k+1)):=(W i v).trans (ai om);have b1:=y.num (i:=i+1) (j:=j+1) ⟨d0,d2⟩ q om om;have b2:=y.num (i:=i+1) (j:=0) ⟨d0,d2⟩ q om om;have b3:=y.num (i:=0) (j:=j+1) ⟨d0,d2⟩ q om om;have hs2:2*((cQ H k (i+1) 0).natAbs:Int)<=det (k+1) H:=by
         have h3:=K (i+1) om om;omega
        have hstep:=ju D.ne i j;rw[df]at hstep;have p1:=kZ (A:=65536) (B:=24696061952) (om:-65536<=det (k+1) H/\det (k+1) H<=65536) b1
        have p2:=kZ (A:=65536) (B:=24696061952) (om:-65536<=cQ H k (i+1) 0/\cQ H k (i+1) 0<=65536) b3
        have q1:IntKind.i64.wrap (det (k+1) H*cQ H k (i+1) (j+1))=det (k+1) H*cQ H k (i+1) (j+1):=i64_in om om;have q2:IntKind.i64.wrap (cQ H k (i+1) 0*cQ H k 0 (j+1))=cQ H k (i+1) 0*cQ H k 0 (j+1):=i64_in om om;have q3:IntKind.i64.wrap (det (k+1) H*cQ H k (i+1) (j+1)-cQ H k (i+1) 0*cQ H k 0 (j+1))=det k H*cQ H (k+1) i j:=by rw[<-hstep];exact i64_in om om
        have b4:=z.num (i:=i) (j:=j) ⟨d1,d3⟩ q om om;have q4:pG (det k H*cQ H (k+1) i j) (det k H)=cQ H (k+1) i j:=OO _ om;have q5:IntKind.i64.wrap (cQ H (k+1) i j)=cQ H (k+1) i j:=i64_in om om;have q6:¬(det k H=0):=om
        obtain⟨g1,Q,R⟩:=id (u.ext.has C.outer);obtain⟨g2,u2,v2⟩:=id (u.ext.has (C.row 0 d));obtain⟨g3,u3,v3⟩:=id (u.ext.has (C.row (i+1) V));have x1:g1 0=.sl 1 (g 0) 0 (n-k):=R 0 d;have x2:g2 (j+1)=.int .i64 (cQ H k 0 (j+1)):=v2 (j+1) X;have x3:g3 (j+1)=.int .i64 (cQ H k (i+1) (j+1)):=v3 (j+1) X;have x5:g3 0=.int .i64 (cQ H k (i+1) 0):=v3 0 d;simp -dsimp only[go_sem,p,w,E,F,l,o,M,N,P,aP (om:i<1000000)]
        refine bE 27 kr ?_
        simp -dsimp only[go_sem,aa,p,w,E,F,e7,e8,l,o,M,N,v,P,X,d,t,Q,u2,u3,x1,x2,x3,x5,aP (om:j<1000000),G,x4,Y,q1,q2,q3,q4,q5,q6,cj]
        refine⟨⟨j+1,om,rfl,(u.put dc (om:i<i+1) Y j (.int .i64 (cQ H (k+1) i j))).congr fun a c _ _=>?_⟩,om⟩
        by_cases e:a=i/\c=j
        .obtain⟨rfl,rfl⟩:=e;rw[ai ⟨rfl,rfl⟩,af om]
        .rw[af e];congr 1;by_cases e2:a=i/\j<=c
         .rw[ai e2,ai om]
         .rw[af e2,af om]
       .simp -dsimp only[go_sem,p,w,E,F,l,o,M,N,P,aP (om:i<1000000),cj]
        exact⟨⟨i+1,om,rfl,gg,u.congr fun a c _ hc=>by rw[af om]⟩,om⟩
     .obtain rfl:i=n-(k+1):=om
      have hN:=u.imat (A:=cQ H (k+1)) (fun _ _ _ _=>rfl);obtain⟨g4,G,W⟩:=id hN.1.outer;obtain⟨g5,Y,v5⟩:=id (hN.1.row 0 om);have x4:g4 0=.sl 1 (g' 0) 0 (n-(k+1)):=W 0 om;have x5:g5 0=.int .i64 (det (k+2) H):=(v5 0 om).trans (by simp only[df])
      have Z:0<n-(k+1):=om
      have hqz:(0:Int)<((n-(k+1):Nat):Int):=om
      have hle:iC H (k+1)↔3*(det (k+1) H*det (k+1) H)<=4*(det k H*det (k+2) H+cQ H k 1 0*cQ H k 1 0):=by
       unfold iC kK;rw[(om:k+1-1=k),(om:k+1-k=1),show k+1+1=k+2 from rfl]
      have hs2:2*((cQ H k 1 0).natAbs:Int)<=det (k+1) H:=by
       have h3:=K 1 om om;omega
      have d4:=z.num (i:=0) (j:=0) ⟨d1,d3⟩ q om om;rw[df,show k+1+1=k+2 from rfl]at d4;have p1:=kZ (A:=65536) (B:=24696061952) (om:-65536<=det k H/\det k H<=65536) d4
      have p2:=kZ (A:=65536) (B:=65536) (om:-65536<=cQ H k 1 0/\cQ H k 1 0<=65536) (om:-65536<=cQ H k 1 0/\cQ H k 1 0<=65536)
      have p3:=kZ (A:=65536) (B:=65536) (om:-65536<=det (k+1) H/\det (k+1) H<=65536) (om:-65536<=det (k+1) H/\det (k+1) H<=65536)
      have q1:IntKind.i64.wrap (det k H*det (k+2) H)=det k H*det (k+2) H:=i64_in om om;have q2:IntKind.i64.wrap (cQ H k 1 0*cQ H k 1 0)=cQ H k 1 0*cQ H k 1 0:=i64_in om om;have q3:IntKind.i64.wrap (det k H*det (k+2) H+cQ H k 1 0*cQ H k 1 0)=det k H*det (k+2) H+cQ H k 1 0*cQ H k 1 0:=i64_in om om;have q4:IntKind.i64.wrap (4*(det k H*det (k+2) H+cQ H k 1 0*cQ H k 1 0))=4*(det k H*det (k+2) H+cQ H k 1 0*cQ H k 1 0):=i64_in om om;have q5:IntKind.i64.wrap (3*det (k+1) H)=3*det (k+1) H:=i64_in om om;have q6:IntKind.i64.wrap (3*det (k+1) H*det (k+1) H)=3*(det (k+1) H*det (k+1) H):=by rw[jn];exact i64_in om om
      have hk1n:k+1<n:=om
      obtain⟨g1,Q,R⟩:=id (u.ext.has C.outer);obtain⟨g3,u3,v3⟩:=id (u.ext.has (C.row 1 U));have y1:g1 1=.sl 1 (g 1) 0 (n-k):=R 1 U;have y2:g3 0=.int .i64 (cQ H k 1 0):=v3 0 d;by_cases q7:4*(det k H*det (k+2) H+cQ H k 1 0*cQ H k 1 0)<3*(det (k+1) H*det (k+1) H)
      .simp -dsimp only[go_sem,aa,p,w,E,F,l,o,v,d,t,U,f,Z,hqz,Q,u3,y1,y2,G,x4,Y,x5,q1,q2,q3,q4,q5,q6,q7,show Int.toNat 1=1 from rfl];rw[T fun h=>by have:=hle.1 (h.rows.2 (k+1) om hk1n);omega]
       exact VR.mf rfl
      .simp -dsimp only[go_sem,aa,p,w,E,F,l,o,v,d,t,U,f,Z,hqz,Q,u3,y1,y2,G,x4,Y,x5,q1,q2,q3,q4,q5,q6,q7,show Int.toNat 1=1 from rfl];have hU1:=D.step J (hle.2 om);refine⟨⟨k+1,om,hU1,z,.sl 1 bc 0 (n-(k+1)),bH ⟨bc,g',rfl,hN.1⟩,rfl,rfl⟩,om⟩
  .have f:¬((1:Int)<((n-k:Nat):Int)):=om
   have hkn:k+1=n:=om
   have b1:=b0;rw[hkn]at b1 r;by_cases z1:0<det n H
   .by_cases z2:det n H<=10000
    .have hβt:β=true:=hβ.2 ⟨I,D.redB hkn z1 z2⟩;rw[hβt];rcases hSt with rfl|⟨b,g,rfl,C⟩
     .simp -dsimp only[go_sem,aa,az,aK,p,f,t,r,z1,z2];exact VR.mf rfl
     .obtain⟨g1,Q,R⟩:=C.outer;obtain⟨g2,u2,v2⟩:=C.row 0 om;have w1:=R 0 d;have w2:=v2 0 d;simp -dsimp only[go_sem,aa,p,f,d,t,Q,u2,w1,w2,r,z1,z2];exact VR.mf rfl
    .rw[T fun h=>z2 h.dt];rcases hSt with rfl|⟨b,g,rfl,C⟩
     .simp -dsimp only[go_sem,aa,az,aK,p,f,t,r,z1,z2];exact VR.mf rfl
     .obtain⟨g1,Q,R⟩:=C.outer;obtain⟨g2,u2,v2⟩:=C.row 0 om;have w1:=R 0 d;have w2:=v2 0 d;simp -dsimp only[go_sem,aa,p,f,d,t,Q,u2,w1,w2,r,z1,z2];exact VR.mf rfl
   .rw[T fun h=>z1 (h.pos n (ae n))];rcases hSt with rfl|⟨b,g,rfl,C⟩
    .simp -dsimp only[go_sem,aa,az,aK,p,f,t,r,z1];exact VR.mf rfl
    .obtain⟨g1,Q,R⟩:=C.outer;obtain⟨g2,u2,v2⟩:=C.row 0 om;have w1:=R 0 d;have w2:=v2 0 d;simp -dsimp only[go_sem,aa,p,f,d,t,Q,u2,w1,w2,r,z1];exact VR.mf rfl

def KR:List AV:=[.int .i64 7,.int .i64 11,.int .i64 13,.int .i64 17,.int .i64 19,.int .i64 23,.int .i64 29,.int .i64 31]
def lL(_:St):Prop:=True
def lL.ext{S':St}(_:lL S)(_:ft S S'):lL S':=trivial
def cP.s0(h:S 0=ab->cP f args S post):cP f args S post:=fun w vs a b=>h a.z w vs a b
def dvL:List Int:=[2,3,5]
def dvA:List AV:=[.int .i64 2,.int .i64 3,.int .i64 5]
def Td(a:i<3):dvA.getD i .any=.int .i64 (dvL.getD i 0)/\dvL.getD i 0≠0:=by
 rcases (om:i=0∨i=1∨i=2)with rfl|rfl|rfl<;>exact⟨rfl,by decide⟩
def Nw(a:i<3)(K:AV->Prop):Ee 238 (.agg [.int .i64 2,.int .i64 3,.int .i64 5]) (.int .i64 i) K=K (.int .i64 (dvL.getD i 0)):=by
 rw[<-(Td a).1];unfold Ee;apply propext;constructor
 .rintro (⟨h,_⟩|⟨_,_,_,h⟩)
  .exact absurd h dc
  .rwa [cC]at h
 .intro h;exact bH ⟨bF ⟨rfl,rfl⟩,by simp[eF],⟨om,by simp;omega⟩,by rwa [cC]⟩
def zU:List Nat:=[7,11,13,17,19,23,29,31,37]
def If(a:i<8)(K:AV->Prop):Ee 239 (.agg KR) (.int .i64 i) K=K (.int .i64 ((zU.getD i 0:Nat):Int)):=by
 have e:KR.getD i .any=.int .i64 ((zU.getD i 0:Nat):Int):=by
  rcases (om:i=0∨i=1∨i=2∨i=3∨i=4∨i=5∨i=6∨i=7)with rfl|rfl|rfl|rfl|rfl|rfl|rfl|rfl<;>rfl
 rw[<-e];unfold Ee;apply propext;constructor
 .rintro (⟨h,_⟩|⟨_,_,_,h⟩)
  .exact absurd h dc
  .rwa [cC]at h
 .intro h;exact bH ⟨bH ⟨rfl,rfl⟩,by simp[eF,KR],⟨om,by simp[KR];omega⟩,by rwa [cC]⟩
def PA:(wa.map fun z=>AV.int .i64 z)=KR:=rfl
def dvN:List Nat:=[2,3,5]
def prm5(h:d=2∨d=3∨d=5):tt d:=⟨om,fun e b c=>by
 rcases aC e 3 with a|a
 .obtain rfl:e=2:=om
  omega
 .have:=a9 a a;omega⟩
def JP{p:Nat}(b:2<=d)(h:p%d=0):d=p∨¬tt p:=by
 rcases iJ (tt p)with a|a
 .rcases a.div (Nat.dvd_of_mod_eq_zero h)with e|e
  .omega
  .exact bF e
 .exact bH a
def PC:∀i,i<8->7<=zU.getD i 0/\zU.getD i 0<=31/\∀x,x<37->zU.getD i 0<x->x<zU.getD (i+1) 0->x%2=0∨x%3=0∨x%5=0:=by decide
def Hv{p e:Nat}(h:¬p%d=0)(a:e%d=0):¬p%e=0:=fun b=>h (Nat.mod_eq_zero_of_dvd (Nat.dvd_trans (Nat.dvd_of_mod_eq_zero a) (Nat.dvd_of_mod_eq_zero b)))
def LstQ(p:Nat)(r:AV):Prop:=∃d:Nat,r=.int .i64 d/\(d=p↔tt p)
def KX(S:St)(p:Nat)(R:2<=p)(T:p<=9973)(hG:lL S) :
  cP 256 [.int .i64 p] S (fun r S'=>LstQ p r/\S'=S):=by
 refine cP.s0 fun H=>?_;refine i9 func256 ntmps256 results256 ?_;simp -dsimp only[go_sem];refine dI (fun O S'=>∃i:Nat,i<=3/\(∀j,j<i->¬p%dvN.getD j 0=0)/\S'=S/\O 0=.int .i64 p/\O 10=.agg [.int .i64 2,.int .i64 3,.int .i64 5]/\O 11=.int .i64 i) (fun O S=>3-cj (O 11)) ?_ ?_
 .simp -dsimp only[go_sem];exact⟨0,om,fun j U=>om,rfl⟩
 rintro Q' b O S' ⟨i,V,c,rfl,n,f,g⟩;by_cases a:i<3
 .have F:decide ((i:Int)<3)=true:=by simp;omega
  obtain⟨q,M,I⟩:∃q:Nat,q=dvN.getD i 0/\(q=2∨q=3∨q=5):=by
   rcases (om:i=0∨i=1∨i=2)with rfl|rfl|rfl<;>exact⟨_,rfl,by decide⟩
  have y:dvL.getD i 0=(q:Int):=by
   rw[M];rcases (om:i=0∨i=1∨i=2)with rfl|rfl|rfl<;>rfl
  have z:¬(q:Int)=0:=om
  by_cases s:p%q=0
  .simp -dsimp only[go_sem,n,f,g,F,Nw a,y,z,pQ,s,show(((0:Nat):Int)==0)=true from rfl];rw[b];simp -dsimp only[go_sem];exact⟨q,rfl,fun h=>by rw[<-h];exact prm5 I,fun h=>(JP om s).resolve_right (fun w=>w h)⟩
  .have t:(((p%q:Nat):Int)==0)=false:=by simp;omega
   simp -dsimp only[go_sem,n,f,g,F,Nw a,y,z,pQ,t,aP (om:i<1000000),cj]
   refine⟨⟨i+1,om,fun j U=>?_,rfl⟩,om⟩
   by_cases e:j=i
   .rw[e,<-M];exact s
   .exact c j om
 obtain rfl:i=3:=om
 have W:¬p%2=0:=c 0 om;have X:¬p%3=0:=c 1 om;have Y:¬p%5=0:=c 2 om;have F:decide (((3:Nat):Int)<3)=false:=by decide
 simp -dsimp only[go_sem,n,f,g,F];rw[b];simp -dsimp only[go_sem,n];refine dI (fun O S1=>∃k:Nat,k<=3/\(∀e,2<=e->e<30*k+7->¬p%e=0)/\S1=S'/\O 0=.int .i64 p/\O 5=.int .i64 p/\O 6=.int .i64 ((30*k:Nat):Int)) (fun O S=>200-cj (O 6)) ?_ ?_
 .simp -dsimp only[go_sem,n];refine⟨0,om,fun e G w Z=>?_,rfl⟩
  rcases (om:e=2∨e=3∨e=4∨e=5∨e=6)with rfl|rfl|rfl|rfl|rfl<;>omega
 clear n f g b;rintro Q' b O S1 ⟨k,hk,A,rfl,n,e5,N⟩;simp -dsimp only[go_sem,aa,H,PA];refine dI (fun O S2=>∃i:Nat,i<=8/\(∀e,2<=e->e<30*k+zU.getD i 0->¬p%e=0)/\(i=8->k<=2)/\S2=S1/\O 0=.int .i64 p/\O 5=.int .i64 p/\O 6=.int .i64 ((30*k:Nat):Int)/\O 23=.agg KR/\O 24=.int .i64 i) (fun O S=>8-cj (O 24)) ?_ ?_
 .simp -dsimp only[go_sem,n,e5,N];exact⟨0,om,A,fun h=>om,rfl⟩
 rintro Q2 u O2 S2 ⟨i,V,v,h8,rfl,B,x,C,l,m⟩;by_cases a:i<8
 .have J:decide ((i:Int)<8)=true:=by simp;omega
  obtain⟨g1,g2,g3⟩:=PC i a;obtain⟨d,hd⟩:∃d,d=30*k+zU.getD i 0:=⟨_,rfl⟩;have wd:IntKind.i64.wrap (((30*k:Nat):Int)+((zU.getD i 0:Nat):Int))=(d:Int):=dW om om;have hdd:d*d<=121*121:=a9 om om;have wdd:IntKind.i64.wrap ((d:Int)*d)=((d*d:Nat):Int):=dW (by rw[bD]) om
  have D:¬((d:Int)=0):=om
  by_cases K:p<d*d
  .simp -dsimp only[go_sem,B,x,C,l,m,J,If a,wd,wdd,K];rw[u];simp -dsimp only[go_sem];rw[b];simp -dsimp only[go_sem,x];refine⟨p,rfl,fun _=>⟨R,fun e w Z=>v e w ?_⟩,fun _=>rfl⟩;rw[<-hd];rcases aC e d with o|o
   .exact o
   .have:=a9 o o;omega
  .by_cases s:p%d=0
   .simp -dsimp only[go_sem,B,x,C,l,m,J,If a,wd,wdd,K,D,pQ,s,show(((0:Nat):Int)==0)=true from rfl];rw[u];simp -dsimp only[go_sem];rw[b];simp -dsimp only[go_sem];have E:d≠p:=fun e=>by
     have:2*d<=d*d:=aB d om;omega
    exact⟨d,rfl,fun h=>absurd h E,fun h=>absurd h ((JP om s).resolve_left E)⟩
   .have t:(((p%d:Nat):Int)==0)=false:=by simp;omega
    have P:d<=99:=by
     rcases aC 99 d with h|h
     .have:100*100<=d*d:=a9 h h;omega
     .exact h
    simp -dsimp only[go_sem,B,x,C,l,m,J,If a,wd,wdd,K,D,pQ,t,aP (om:i<1000000),cj]
    refine⟨⟨i+1,om,fun e G w=>?_,fun h=>?_,rfl⟩,om⟩
    .rcases dY e d with o|o|o
     .exact v e G om
     .rw[o];exact s
     .have h37:zU.getD (i+1) 0<=37:=by
       rcases (om:i=0∨i=1∨i=2∨i=3∨i=4∨i=5∨i=6∨i=7)with rfl|rfl|rfl|rfl|rfl|rfl|rfl|rfl<;>decide
      have:=g3 (e-30*k) om om om;rcases this with Q|Q|Q
      .exact Hv W om
      .exact Hv X om
      .exact Hv Y om
    .have:zU.getD i 0=31:=by rw[(om:i=7)]<;>rfl
     omega
 .obtain rfl:i=8:=om
  have hk2:=h8 rfl;simp -dsimp only[go_sem,B,x,C,l,m,show decide (((8:Nat):Int)<8)=false by decide]
  rw[u];have L:IntKind.i64.wrap (((30*k:Nat):Int)+30)=((30*(k+1):Nat):Int):=dW om om;simp -dsimp only[go_sem,B,x,C,N,L,cj];exact⟨⟨k+1,om,fun e G w=>v e G (by show e<30*k+37;omega),rfl⟩,om⟩
def IU(S:St)(p:Int)(g:p<=9973)(β:Bool)(hβ:β=true↔2<=p/\tt p.toNat)(i:lL S):cP 221 [.int .i64 p] S (fun r S'=>r=.bool β/\S'=S):=by
 refine i9 func221 ntmps221 results221 ?_;have b:decide (p<=2147483647)=true:=by simp;omega
 by_cases c:2<=p
 .obtain⟨q,rfl⟩:∃q:Nat,p=q:=⟨p.toNat,om⟩
  have a:decide ((2:Int)<=(q:Int))=true:=by simp;omega
  simp -dsimp only[go_sem,aa,a,b];refine(KX S q om om i).mono ?_;rintro _ S' ⟨⟨d,rfl,f⟩,rfl⟩;have j:β=((d:Int)==(q:Int)):=by
   by_cases e:d=q
   .rw[hβ.2 ⟨c,f.1 e⟩,e];simp
   .rw[cL hβ fun h=>e (f.2 h.2)];simp;omega
  simp -dsimp only[go_sem,a,b,j]
 .have a:decide (2<=p)=false:=by simpa using c
  simp -dsimp only[go_sem,aa,a,b];rw[cL hβ fun h=>c h.1]
open Classical in
noncomputable def qw(n:Nat)(H:aI)(p:Int):Int:=if gk n H then(if qL p/\¬det n H%p=0 then 0 else 20)else 6
def JQ(h:¬gk n H):qw n H p=6:=by unfold qw;rw[af h]
def Ag(h:gk n H)(a:¬(qL p/\¬det n H%p=0)):qw n H p=20:=by unfold qw;rw[ai h,af a]
def yG(h:gk n H)(a:qL p/\¬det n H%p=0):qw n H p=0:=by unfold qw;rw[ai h,ai a]
def gk.iff(c:1<=n)(a:n<=8):gk n H↔(∀i j,i<n->j<n->H i j=H j i)/\ti H n:=⟨gk.redB,fun⟨d,b⟩=>⟨c,a,b.red d a,b.dt⟩⟩
def CF(S:St)(n:Nat)(H:aI)(p:Int)(g:1<=n)(i:n<=8)(t:lL S):cP 174 [az n n H,.int .i64 p] S (fun r S'=>r=.int .i64 (qw n H p)/\ft S S'):=by
 refine i9 func174 ntmps174 results174 ?_;obtain⟨β,hβ⟩:=gR (gk n H);simp -dsimp only[go_sem,aa];refine(mZ n H β g i (hβ.trans (gk.iff g i))).call ?_
 cases β with
 | false =>
  simp -dsimp only[go_sem,aa];rw[JQ fun h=>by have:=hβ.2 h;cases this]
  exact⟨rfl,ft.refl S⟩
 | true =>
 have j:=hβ.1 rfl;have no:¬qL p->qw n H p=20:=fun h=>Ag j fun u=>h u.1;by_cases o:p=2
 .simp -dsimp only[go_sem,aa,show(p==2)=true by simpa using o]
  rw[no fun h=>by have:=h.1;omega]
  exact⟨rfl,ft.refl S⟩
 have e:(p==2)=false:=by simpa using o
 by_cases q:9973<p
 .simp -dsimp only[go_sem,aa,e,show decide (9973<p)=true by simpa using q]
  rw[no fun h=>by have:=h.2.1;omega]
  exact⟨rfl,ft.refl S⟩
 have k:decide (9973<p)=false:=by simpa using q
 obtain⟨βp,l⟩:=gR (2<=p/\tt p.toNat);simp -dsimp only[go_sem,aa,e,k];refine(IU S p om βp l t).mono ?_;rintro _ S' ⟨rfl,rfl⟩
 cases βp with
 | false =>
  simp -dsimp only[go_sem,aa,e,k];rw[no fun h=>by have:=l.2 ⟨by have:=h.1;omega,h.2.2⟩;cases this]
  exact⟨rfl,ft.refl _⟩
 | true =>
 obtain⟨x,c⟩:=l.1 rfl;have v:qL p:=⟨om,om,c⟩
 simp -dsimp only[go_sem,aa,e,k];have w:=((GA n H p g i om om (fun a b h=>by have:=c.mul a b;rw[cY om]at this;exact this h)).less (post':=fun r S'=>(∃d:Int,(d=0↔p∣det n H)/\r=.tup [.int .i64 d,.int .i64 0])/\S'=St.none) fun r S' h=>⟨St.none,(fun b X m=>by simp[St.none]at m),h,rfl⟩).frame (cS S' _) (by rintro r S1 ⟨⟨d,_,rfl⟩,rfl⟩;exact⟨rfl,fun b X m=>by simp[St.none]at m⟩)
 refine w.mono ?_;rintro _ S2 ⟨S1,⟨⟨d,s,rfl⟩,rfl⟩,_,rfl⟩;by_cases f:d=0
 .simp -dsimp only[go_sem,show(d==0)=true by simpa using f,aY]
  rw[Ag j fun h=>h.2 (dw (s.1 f))];exact⟨rfl,pq _ _⟩
 .simp -dsimp only[go_sem,show(d==0)=false by simpa using f,aY]
  rw[yG j ⟨v,fun h=>f (s.2 (eg h))⟩];exact⟨rfl,pq _ _⟩

def Lz(c:S b=some ⟨2,1,0,g0⟩)(d:0<n)(k:n<=1000)
  (f:∀b' h,(b'=b∨S b'=ab)->(∀j,j<n->h j=.int .i64 (v j))->K (.sl 1 b' 0 n) ((S.del b).upd b' ⟨2,1,n,h⟩)):fU 29 29 (.sl 1 b 0 0) (.lst 1 n (fun j=>.int .i64 (v j))) S K:=by
 have g:Bx S (.lst 1 n (fun j=>.int .i64 (v j)))=some (1,n,fun j=>.int .i64 (v j),ab):=rfl;unfold fU;rw[show dJ 29=some 2 from rfl,g];refine⟨rfl,rfl,rfl,d,fun j i=>by simp[eF],?_⟩
 .simp only[c];refine⟨trivial,trivial,trivial,trivial,trivial,om,(fun e=>by cases e),fun b' a=>?_⟩
  rw[aD];refine f b' _ a fun j i=>?_;unfold nm;split
  .have:j=0:=om
   subst this;simp only[bW,aQ,aD]
  .simp only[J8,aS,fq]
def Tn:dG 29 0 [] S K=aF S (fun b=>K (.sl 1 b 0 0) (S.upd b ⟨2,1,0,fun j=>([]:List AV).getD j .any⟩)):=by
 simp only[dG,dJ,bZ];simp[eT,gG,aF]
def BO(S:St)(n:Nat)(v:Nat->Int)(f:0<n)(m:n<=1000) :
  cP 177 [aK n v] S (fun r S'=>∃b,r=.sl 1 b 0 n/\bM S' b 2 1 n (fun j=>.int .i64 (v j))/\ft S S'/\S b=ab):=by
 refine i9 func177 ntmps177 results177 ?_;simp -dsimp only[go_sem,Tn,aK];refine⟨f,aF.intro fun g c=>?_⟩
 try simp -dsimp only[go_sem]
 refine Lz cn f m ?_;intro b' h d o;have i:S b'=ab:=by
  rcases d with rfl|h
  .exact c
  .by_cases e:b'=g
   .rw[e];exact c
   .rw[aO e]at h;exact h
 simp -dsimp only[go_sem];refine⟨b',rfl,bM.here o,fun k X a=>?_,i⟩;have p:k≠b':=fun e=>by rw[e,i]at a;cases a
 have l:k≠g:=fun e=>by rw[e,c]at a;cases a
 rw[aO p];unfold St.del;rw[af l,aO l];exact a
def zW(n:Nat)(H:aI)(v:Nat->Int)(m:Int):eX n (lR H m) v n%m=eX n H v n%m:=by
 unfold eX;refine pe n _ _ m fun i _=>?_;rw[fX,pe n (fun j=>lR H m i j*v j) (fun j=>H i j*v j) m fun j _=>?_,<-fX];show(H i j%m*v j)%m=_;rw[fX,lz _ (jf m),<-fX]
def Ad(n p:Nat)(H:aI)(v:Nat->Int)(β:Bool)(E:1<=n)(G:n<=8)(N:2<=p)(I:p<=9973)(hβ:β=true↔AW n p H v):PF 175 [az n n H,.int .i64 p,aK n v] (.bool β):=by
 refine iH func175 ntmps175 results175 ?_;simp -dsimp only[go_sem,az,aK,aY];refine dI (fun O S=>∃i:Nat,i<=n/\(∀k,k<i->0<=v k/\v k<p)/\O 0=az n n H/\O 1=.int .i64 p/\O 2=aK n v/\O 7=.int .i64 (iO v i)/\O 17=aK n v/\O 18=.int .i64 n/\O 19=.int .i64 i) (fun O S=>n-cj (O 19)) ?_ ?_
 .simp -dsimp only[go_sem,az,aK];exact⟨0,om,fun k J=>om,rfl,rfl⟩
 rintro Q' x O S ⟨i,F,r,t,o,u,q,d,f,l⟩;by_cases c:i<n
 .by_cases y:v i<0
  .simp -dsimp only[go_sem,az,aK,t,o,u,q,d,f,l,c,y];rw[x];simp -dsimp only[go_sem];rw[cL hβ fun h=>by have:=h.1 i c;omega]
   exact VR.mf rfl
  by_cases C:(p:Int)<=v i
  .simp -dsimp only[go_sem,az,aK,t,o,u,q,d,f,l,c,y,C];rw[x];simp -dsimp only[go_sem];rw[cL hβ fun h=>by have:=h.1 i c;omega]
   exact VR.mf rfl
  have w:∀k,k<i+1->0<=v k/\v k<p:=fun k J=>by
   by_cases e:k=i
   .rw[e];omega
   .exact r k om
  by_cases z:iO v i=0
  .simp -dsimp only[go_sem,az,aK,t,o,u,q,d,f,l,c,y,C,z,dp,aP (om:i<1000000),cj]
   refine⟨⟨i+1,om,w,?_,rfl⟩,om⟩
   simp only[iO,z,aQ]
  .have K:(iO v i==0)=false:=by simpa using z
   simp -dsimp only[go_sem,az,aK,t,o,u,q,d,f,l,c,y,C,K,aP (om:i<1000000),cj]
   refine⟨⟨i+1,om,w,?_,rfl⟩,om⟩
   simp only[iO,z,aS]
 have D:i=n:=om
 rw[D]at q r;simp -dsimp only[go_sem,aa,t,o,u,q,d,f,l,c];rw[x];simp -dsimp only[go_sem,aa,t,o];refine(xR n n H p E om E om om om S _ (cS _ _)).mono ?_;rintro _ S1 ⟨b,g,rfl,L,_⟩;by_cases s:iO v n=1
 .have a:(iO v n==1)=true:=by rw[s]<;>rfl
  simp -dsimp only[go_sem,aa,t,o,u,q,a];have M:=ra (A:=H) (m:=(p:Int)) om;refine(zX n p (lR H p) v G om om (fun i j _ _=>by have:=M i j;omega) (fun i F=>by have:=r i F;omega)).spec (fI.three L.vr.va (VA.refl _ _) (VA.refl _ _)) ?_
  rw[zW];by_cases B:eX n H v n%(p:Int)=0
  .rw[B,hβ.2 ⟨r,s,B⟩];simp -dsimp only[go_sem,o,u,q,a,dp];exact VR.mf rfl
  .rw[cL hβ fun h=>B h.2.2];simp -dsimp only[go_sem,o,u,q,a,show(eX n H v n%(p:Int)==0)=false by simpa using B]
   exact VR.mf rfl
 .have a:(iO v n==1)=false:=by simpa using s
  simp -dsimp only[go_sem,t,o,q,a];rw[cL hβ fun h=>s h.2.1];exact VR.mf rfl
def Ie(n l p:Nat)(H:aI)(v:Nat->Int)(β:Bool)(b:1<=n)(c:n<=8)(d:2<=p)(a:p<=9973)(hβ:β=true↔l=n/\AW n p H v):PF 175 [az n n H,.int .i64 p,aK l v] (.bool β):=by
 by_cases e:l=n
 .subst e;exact Ad l p H v β b c d a (hβ.trans ⟨fun h=>h.2,fun h=>⟨rfl,h⟩⟩)
 .refine iH func175 ntmps175 results175 ?_;simp -dsimp only[go_sem,az,aK,show((l:Int) != n)=true by simp;omega]
  rw[cL hβ fun h=>e h.1];exact VR.mf rfl
def K0(n p:Nat)(H:aI)(v:Nat->Nat)(c:1<=n)(d:n<=8)(e:2<=p)(a:p<=9973)(b:lX n p H v):PF 175 [az n n H,.int .i64 p,aK n (fun k=>v k)] (.bool true) :=
 Ad n p H _ true c d e a ⟨fun _=>⟨fun i f=>by have:=b.lt i f;dsimp only;omega,b.lead,b.norm⟩,fun _=>rfl⟩

end Go.Proofs.YtdobfmlmenaajaaGreatDoor
