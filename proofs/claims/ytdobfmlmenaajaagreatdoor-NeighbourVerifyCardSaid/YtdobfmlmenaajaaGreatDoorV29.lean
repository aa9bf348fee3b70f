/-
  Lemmas for NeighbourVerify.
-/
import Derived.Test.YtdobfmlmenaajaaGreatDoorV28
namespace Go.Proofs.YtdobfmlmenaajaaGreatDoor
open Go.RowKit Tryz
open _root_.Option renaming none→ab
set_option maxHeartbeats 6400000
set_option maxRecDepth 4096
set_option linter.all false
attribute [local go_sem] Nat.reduceAdd Nat.reduceEqDiff Nat.reduceLeDiff Nat.reduceLT reduceCtorEq Int.ofNat_lt decide_true decide_false Int.zero_le_ofNat
attribute [local go_sem ↓] reduceIte
variable{K:AV->St->Prop}{ops:Array Oper}{p:Int}{l:List Oper}{b n:Nat}{g:Nat->AV}{v:Nat->Int}{S:St}{O:Tm}{H:aH}
def Da(n m:Nat)(A:aH)(i j:Nat)(S:St)(b a:Nat)(f:i<n)(g:j<m)(c:iT (A i j))(d:en S b 52 1 (aU n m A))(e:en S a 4 1 (.bool true)) :
  cZ 99 [.int .i64 i,.int .i64 j,.ptr 1 b 0,.ptr 1 a 0] S (fun r S'=>r=.int .i64 (A i j)/\GD a S S'/\en S' a 4 1 (.bool true)):=by
 refine jI func99 ntmps99 results99 ?_;obtain⟨h,k,l⟩:=id d;obtain⟨o,p,q⟩:=id e;simp -dsimp only[*,go_sem,aa,aU,bC];refine(uJ c).call ?_;simp only[*,go_sem,aa,aU,bC];exact⟨(GD.refl a S).upd _,en.set⟩
def D3(n m:Nat)(A:aH)(S0:St)(t h:Nat)(hn:n<=16)(hm:m<=16)(hA:∀i j:Nat,i<n->j<m->iT (A i j))(o:en S0 t 52 1 (aU n m A))(d:en S0 h 4 1 (.bool true)) :
  cZ 98 [.int .i64 n,.int .i64 m,.fn 99 [.ptr 1 t 0,.ptr 1 h 0]] S0 (fun r S'=>∃b g,r=.sl 1 b 0 n/\dZ S' b g n m A/\en S' h 4 1 (.bool true)):=by
 refine jI func98 ntmps98 results98 ?_;simp -dsimp only[go_sem]
 repeat refine an ?_
 refine aG.intro fun bc fc=>?_;simp only[go_sem];have n1c:t≠bc:=o.fresh fc;have n6c:h≠bc:=d.fresh fc;refine aI (fun O S'=>∃i:Nat,i<=n/\O 1=.int .i64 m/\O 2=.fn 99 [.ptr 1 t 0,.ptr 1 h 0]/\O 7=.sl 1 bc 0 n/\O 13=.int .i64 n/\O 14=.int .i64 i/\en S' t 52 1 (aU n m A)/\en S' h 4 1 (.bool true)/\∃g',fL 29 2 1 St.none S' bc g' n m i (fun a j=>.int .i64 (A a j))) (fun O S=>n-co (O 14)) ?_ ?_
 .simp only[go_sem];refine⟨0,om,rfl,o.upd n1c _,d.upd n6c _,fun _=>0,(fL.init (S1:=St.none) (b:=bc) (z:=fun _=>.nil) rfl (fun _ _=>rfl) _ _).other fun k X M=>?_⟩
  simp only[St.upd]at M ⊢;split at M
  .rename_i e;rw[ah e];exact M
  .cases M
 .clear o d n1c n6c;rintro O S' ⟨i,hi,G,v,D,p,q,o,d,g',f⟩;by_cases s:i<n
  .obtain⟨H,C,Q⟩:=id f.outer;simp -dsimp only[*,go_sem,aa]
   repeat refine an ?_
   refine aG.intro fun bd fd=>?_;have hdc:bc≠bd:=bG.fresh f.outer fd;have Y:bR H i (.sl 1 bd 0 m) i=.sl 1 bd 0 m:=by simp[bR]
   simp only[*,go_sem];have E:=f.push dc fd C (fun _=>.int .i64 0)
   have N:t≠bc:=by obtain⟨x,k,_⟩:=o;rintro rfl;rw[C]at k;cases k
   have I:h≠bc:=by obtain⟨x,k,_⟩:=d;rintro rfl;rw[C]at k;cases k
   have u:=(o.upd (o.fresh fd) ⟨2,1,m,fun _=>.int .i64 0⟩).upd N ⟨29,1,n,bR H i (.sl 1 bd 0 m)⟩;have w:=(d.upd (d.fresh fd) ⟨2,1,m,fun _=>.int .i64 0⟩).upd I ⟨29,1,n,bR H i (.sl 1 bd 0 m)⟩;generalize R:(fun a=>if a=i then bd else g' a)=gg at E
   refine aI (fun O S'=>∃j:Nat,j<=m/\O 1=.int .i64 m/\O 2=.fn 99 [.ptr 1 t 0,.ptr 1 h 0]/\O 7=.sl 1 bc 0 n/\O 8=.int .i64 i/\O 13=.int .i64 n/\O 14=.int .i64 i/\O 26=.int .i64 m/\O 27=.int .i64 j/\en S' t 52 1 (aU n m A)/\en S' h 4 1 (.bool true)/\fL 29 2 1 St.none S' bc gg n m (i+1) (fun a c=>.int .i64 (if a=i/\j<=c then 0 else A a c))) (fun O S=>m-co (O 27)) ?_ ?_
   .simp only[go_sem,G,v,D,p,q];refine⟨0,om,rfl,u,w,E.congr fun a c _ _=>?_⟩
    by_cases e:a=i
    .simp[e]
    .simp[e]
   .clear G v D p q f E C Q R u w o d N I;rintro O S' ⟨j,hj,G,v,D,Z,p,q,J,K,o,d,f⟩;by_cases B:j<m
    .obtain⟨H,C,Q⟩:=id f.outer;obtain⟨g5,u5,v5⟩:=id (f.row i om);have x4:H i=.sl 1 (gg i) 0 m:=(Q i s).trans (ah om);have I:bc≠h:=by obtain⟨x,k,_⟩:=d;rintro rfl;rw[C]at k;cases k
     have k6g:∀a,a<i+1->gg a≠h:=fun a P=>by
      obtain⟨x,k,_⟩:=d;obtain⟨y,l,_⟩:=f.row a P;intro e;rw[e,k]at l;cases l
     have N:t≠h:=by obtain⟨x,k,_⟩:=d;obtain⟨y,l,_⟩:=o;rintro rfl;rw[k]at l;cases l
     simp -dsimp only[*,go_sem];refine fQ 8 [[0,1,2,3,4],[],[]] kr ?_
     simp -dsimp only[go_sem,aa,v,D,Z,s,C,x4];refine(Da n m A i j S' t h s B (hA i j s B) o d).mono ?_;rintro _ S2 ⟨rfl,L,w⟩;have T:=(L bc I).trans C;have F:=(L (gg i) (k6g i om)).trans u5;have U:fL 29 2 1 St.none S2 bc gg n m (i+1) (fun a c=>.int .i64 (if a=i/\j<=c then 0 else A a c)):=⟨fM.noneS _,f.new,L.has I f.outer,fun a P=>L.has (k6g a P) (f.row a P),f.rnew,f.inj⟩
     have u:=L.var N o;have V:t≠gg i:=by obtain⟨x,k,_⟩:=u;rintro rfl;rw[F]at k;cases k
     have W:h≠gg i:=fun e=>k6g i om e.symm;simp only[go_sem,aa,G,v,D,Z,p,q,J,K,s,B,T,x4,F,aS (om:j<1000000),co]
     refine⟨⟨j+1,om,rfl,u.upd V _,w.upd W _,(U.put dc (om:i<i+1) F j (.int .i64 (A i j))).congr fun a c _ _=>?_⟩,om⟩
     by_cases e:a=i/\c=j
     .obtain⟨rfl,rfl⟩:=e;rw[ah ⟨rfl,rfl⟩,af om]
     .rw[af e];congr 1;by_cases v:a=i/\j<=c
      .rw[ah v,ah om]
      .rw[af v,af om]
    .simp only[go_sem,G,v,D,p,q,J,K,B,aS (om:i<1000000),co]
     exact⟨⟨i+1,om,rfl,o,d,gg,f.congr fun a c _ hc=>by rw[af om]⟩,om⟩
  .obtain rfl:i=n:=om
   have hN:=f.imat (A:=A) (fun _ _ _ _=>rfl);simp only[go_sem,aa,G,D,p,q,s];exact⟨bc,rfl,g',hN.1,d⟩
def Ek(n m:Nat)(A:aH)(h:1<=n)(a:n<=16)(k:1<=m)(c:m<=16)(l:∀i j:Nat,i<n->j<m->iT (A i j)):L6 43 [aU n m A] n m A:=by
 refine L6.of ?_;refine jI func43 ntmps43 results43 ?_;simp -dsimp only[go_sem,aa,aU,bC];refine aG.intro fun d r=>?_
 try simp -dsimp only[go_sem]
 refine(lz n m A h a k c).call ?_;simp -dsimp only[go_sem];refine aG.intro fun e o=>?_;have n6_1:=(ag o).1;have f:d≠e:=n6_1.symm;simp -dsimp only[go_sem,aa,fE];refine(D3 n m A _ d e a c l ?_ ?_).mono ?_
 .refine en.upd (en.upd (en.new ?_) f _) f _;rfl
 .exact en.set
 rintro _ S2 ⟨b,g,rfl,p,q⟩;obtain⟨s,t,u⟩:=id q;simp only[*,go_sem,aa];exact⟨b,rfl,g,p⟩

def vX(b:Nat)(m:Int)(S:St):cZ 227 [.sl 1 b 0 1,.int .i64 m] S (fun r S'=>r=.int .i64 1/\fM S S'):=by
 refine jI func227 ntmps227 results227 ?_;simp -dsimp only[go_sem,aa];refine(np m S).mono ?_;rintro _ S1 ⟨bm,i,rfl,j,n⟩;simp only[go_sem];refine dA (fun O S'=>∃c:Nat,c<=1/\S'=S1/\O 0=.sl 1 b 0 1/\O 6=.int .i64 1/\O 12=.int .i64 ((1:Nat):Int)/\O 13=.int .i64 c) (fun O S=>1-co (O 13)) ?_ ?_
 .simp only[go_sem];exact⟨0,om,rfl⟩
 rintro Q' f O S' ⟨c,o,rfl,g,h,a,d⟩;by_cases e:c<1
 .obtain rfl:c=0:=om
  simp only[go_sem,a,d,e];refine dA (fun O S=>S=S'/\O 0=.sl 1 b 0 1/\O 6=.int .i64 1/\O 8=.int .i64 1/\O 12=.int .i64 ((1:Nat):Int)/\O 13=.int .i64 ((0:Nat):Int)) (fun O S=>0) ?_ ?_
  .simp only[*,go_sem];rw[aS (k:=0) om];rfl
  clear g h a d;rintro Q'' hQ'' O S ⟨rfl,g,h,l,a,d⟩;simp only[go_sem,g,l,show decide ((1:Int)<((1:Nat):Int))=false by rfl]
  rw[hQ''];simp only[*,go_sem,co];rw[aS (k:=0) om];exact⟨⟨1,om,rfl⟩,sm⟩
 .simp only[go_sem,a,d,e];rw[f];simp only[go_sem,h];exact j
def appZ1(a:S b=some ⟨2,1,1,g⟩)(c:∀b',(b'=b∨S b'=ab)->K (.sl 1 b' 0 2) ((S.del b).upd b' ⟨2,1,2,nL g 1 1 (fun _=>.int .i64 0)⟩)):oE 29 (.sl 1 b 0 1) (.int .i64 1) S K:=by
 show(match dY 29,S b with
  | some e,some X=>(match gM e with
   | some (es',z,_)=>es'=1/\1=cg e/\0=0/\X.ty=e/\X.es=1/\X.n=1/\1<=1/\1+1<=1048576 /\
    ∀b',(b'=b∨S b'=ab)->K (.sl 1 b' 0 (1+1)) ((S.del b).upd b' ⟨e,1,1+1,nL X.g 1 1 (fun _=>z)⟩)
   | ab=>False)
  | _,_=>False)
 rw[a];exact⟨rfl,rfl,rfl,rfl,rfl,rfl,om,om,c⟩
def Ow{off len:Nat}(d:S b=some ⟨2,1,n,g⟩)(c:∀j,j<len->g (off+j)=.int .i64 (v j))(e:0<len)(f:off+len<=n)(p:len<=1000)
  (i:∀b' h,S b'=ab->(∀j,j<len->h j=.int .i64 (v j))->K (.sl 1 b' 0 len) (S.upd b' ⟨2,1,len,h⟩)):gP 29 29 .nil (.sl 1 b off len) S K:=by
 have l:Bj S (.sl 1 b off len)=some (1,len,fun j=>g (off+j),some b):=by simp[Bj,d,f]
 unfold gP;rw[show dY 29=some 2 from rfl,l];refine⟨rfl,rfl,rfl,e,fun j m=>?_,om,fun b' a=>i b' _ a fun k o=>c k o⟩
 show eO 1 (g (off+j));rw[c j m];simp[eO]
def Fk{K:AV->Prop}(h:K (.sl 1 b 1 1)):kG 29 (.sl 1 b 0 2) (some (.int .i64 1)) ab ab K :=
 ⟨rfl,1,2,rfl,rfl,trivial,om,om,h⟩
def OW{K:Tm->St->Prop}(P:St->Prop)(a:P S)(h:∀T,P T->EE ops l O T K):EE ops l O S K:=h S a
def TI:((1:Nat):Int)=1:=om
def c0i:((0:Nat):Int)=0:=om
def Mf(a p:Int):Nat->Int:=fun j=>if j=0 then a%p else 1
def vJ(F:Nat)(a p:Int)(W:2<=p)(I:p<=1000000)(X:rH F p (a%p) 0 1=true):Gv 179 [aC 1 1 (fun _ _=>a),.int .i64 p] 1 1 (fun _ _=>DO F p (a%p) 0 1%p):=by
 refine Gv.of ?_;refine jI func179 ntmps179 results179 ?_;have Y:0<=a%p/\a%p<p:=⟨aT _ om,aP _ om⟩;generalize U:DO F p (a%p) 0 1%p=f;have A:0<=f/\f<p:=by rw[<-U];exact⟨aT _ om,aP _ om⟩
 simp -dsimp only[go_sem,aa,aC,aW];refine(xD 1 (fun _ _=>a) om om).call ?_;simp -dsimp only[go_sem,aa];refine(lu p W om).call ?_;simp -dsimp only[go_sem,aa];refine(mS 1 1 (fun _ _=>a) p om om om om _ _ (cY _ _)).mono ?_;rintro _ S1 ⟨b,g,rfl,J,_⟩;have G:=J.outer;have H:=J.row 0 om;simp only[go_sem];refine dA (fun O S=>∃i:Nat,i<=1/\O 1=.int .i64 p/\O 7=.int .i64 ((1:Nat):Int)/\O 8=.sl 1 b 0 1/\O 30=.int .i64 ((1:Nat):Int)/\O 31=.int .i64 i/\∃c,bG S b 29 1 1 (fun _=>.sl 1 c 0 (1+i))/\bG S c 2 1 (1+i) (fun j=>.int .i64 (Mf a p j))) (fun O S=>1-co (O 31)) ?_ ?_
 .simp only[go_sem];refine⟨0,om,rfl,g 0,G.congr fun j s=>?_,H.congr fun j s=>?_⟩
  .obtain rfl:j=0:=om
   rfl
  .obtain rfl:j=0:=om
   simp[Mf,ma]
 clear J G H;rintro Q' y O S ⟨i,Z,t,r,l,B,C,c,d,e⟩;by_cases o:i<1
 .obtain rfl:i=0:=om
  have q:b≠c:=bG.ne d e dc
  obtain⟨gb,ub,vb⟩:=id d;obtain⟨gc,uc,vc⟩:=id e;have xb:gb 0=.sl 1 c 0 1:=vb 0 om;have xc:gc 0=.int .i64 (a%p):=(vc 0 om).trans (by simp[Mf])
  simp -dsimp only[go_sem,aa,r,l,B,C,o,ub,xb,TI,c0i]
  repeat refine an ?_
  refine appZ1 uc ?_;intro b' z;have u:b≠b':=by
   rcases z with rfl|h
   .exact q
   .exact bG.fresh d h
  refine OW (fun T=>bG T b 29 1 1 (fun _=>.sl 1 c 0 1)/\bG T b' 2 1 2 (fun j=>.int .i64 (if j=0 then a%p else 0))) ?_ ?_
  .refine⟨⟨gb,?_,vb⟩,bG.here fun j s=>?_⟩
   .rw[aO u];unfold St.del;rw[af q];exact ub
   .match j,s with
    | 0,_=>simp[nL,bR,xc]
    | 1,_=>simp[nL,bR]
  clear d e ub uc vb vc xb xc q z;rintro T ⟨d,e⟩;obtain⟨gb,ub,vb⟩:=id d;obtain⟨gc,uc,vc⟩:=id e;have V:b'≠b:=u.symm;have w1:IntKind.i64.wrap (1+0)=1:=eF (n:=1) om om;have w01:IntKind.i64.wrap (0+1)=1:=eF (n:=1) om om;simp only[*,go_sem,aa,TI,c0i,fE,co]
  repeat refine an ?_
  refine⟨⟨1,om,rfl,b',?_,?_⟩,om⟩
  .refine bG.upd (bG.here fun j s=>?_) u _;obtain rfl:j=0:=om
   simp[bR]
  .refine bG.here fun j s=>?_
   match j,s with
   | 0,_=>simp[bR,vc 0 om,Mf]
   | 1,_=>simp[bR,Mf]
 obtain rfl:i=1:=om
 simp only[go_sem,aa,r,l,B,C,o];rw[y];simp -dsimp only[*,go_sem,aa];refine(vX b p S).mono ?_;rintro _ S2 ⟨rfl,D⟩
 replace d:=D.has d
 replace e:=D.has e
 simp -dsimp only[*,go_sem,aa];refine(np p S2).mono ?_;rintro _ S3 ⟨bm,_,rfl,E,_⟩
 replace d:=E.has d
 replace e:=E.has e
 have w0:IntKind.i64.wrap (1-1)=0:=eF (n:=0) om om;simp only[*,go_sem,TI];clear D E y o;refine dA (fun O S=>∃k:Nat,k<=1/\O 1=.int .i64 p/\O 7=.int .i64 1/\O 8=.sl 1 b 0 1/\O 11=.int .i64 ((k:Int)-1)/\bG S b 29 1 1 (fun _=>.sl 1 c 0 2)/\bG S c 2 1 2 (fun j=>.int .i64 (if k=0 then Mf a p j*f%p else Mf a p j))) (fun O S=>Lq (O 11)) ?_ ?_
 .simp only[go_sem,t,r,l,TI];exact⟨1,om,rfl,d,e.congr fun j _=>by simp⟩
 clear d e t r l B C;rintro Q' y O S ⟨k,hk,t,r,l,m,d,e⟩;have q:b≠c:=bG.ne d e dc
 by_cases K:k=0
 .subst K;have L:decide ((0:Int)<=((0:Nat):Int)-1)=false:=by simp
  simp only[go_sem,aa,t,l,m,L];rw[y];simp only[go_sem,l];refine dA (fun O S=>∃i:Nat,i<=1/\O 7=.int .i64 1/\O 8=.sl 1 b 0 1/\O 107=.int .i64 ((1:Nat):Int)/\O 108=.int .i64 i/\∃c,bG S b 29 1 1 (fun _=>.sl 1 c 0 (2-i))/\bG S c 2 1 (2-i) (fun j=>.int .i64 (if i=0 then Mf a p j*f%p else f))) (fun O S=>1-co (O 108)) ?_ ?_
  .simp only[*,go_sem];exact⟨0,om,rfl,c,d,e⟩
  clear d e t r l m q;rintro Q'' hQ'' O S ⟨i,Z,r,l,w,x,c,d,e⟩;have q:b≠c:=bG.ne d e dc
  by_cases o:i<1
  .obtain rfl:i=0:=om
   obtain⟨gb,ub,vb⟩:=id d;obtain⟨gc,uc,vc⟩:=id e;have xb:gb 0=.sl 1 c 0 2:=vb 0 om;simp -dsimp only[go_sem,aa,r,l,w,x,o,ub,xb,TI,c0i,cV,fX]
   repeat refine an ?_
   refine Fk ?_
   try simp -dsimp only[go_sem,r,l,w,x,o,ub,xb,TI,c0i]
   refine Ow (v:=fun _=>f) uc (fun j s=>?_) om om om ?_
   .obtain rfl:j=0:=om
    rw[vc 1 om];simp only[Mf];rw[ah trivial,af om,dG,dH A.1 A.2]
   intro b' h z hh;have u:b≠b':=bG.fresh d z;have w1:IntKind.i64.wrap (0+1)=1:=eF (n:=1) om om;simp only[*,go_sem,aa,TI,c0i,co]
   repeat refine an ?_
   refine⟨⟨1,om,rfl,b',?_,?_⟩,om⟩
   .refine bG.here fun j s=>?_;obtain rfl:j=0:=om
    simp[bR]
   .refine bG.upd (bG.here fun j s=>?_) u.symm _;rw[hh j s];simp
  obtain rfl:i=1:=om
  simp only[go_sem,aa,r,l,w,x,o];rw[hQ''];simp only[go_sem,l];refine⟨b,rfl,fun _=>c,d,fun i _=>e.congr fun j _=>by simp,fun i j h1 h2 _=>om⟩
 obtain rfl:k=1:=om
 obtain⟨gb,ub,vb⟩:=id d;obtain⟨gc,uc,vc⟩:=id e;have xb:gb 0=.sl 1 c 0 2:=vb 0 om;have xc:gc 0=.int .i64 (a%p):=(vc 0 om).trans (by simp[Mf])
 have L:decide ((0:Int)<=((1:Nat):Int)-1)=true:=by simp
 have w2:((1:Nat):Int)-1=((0:Nat):Int):=om
 rw[w2]at m L;simp -dsimp only[go_sem,aa,t,l,m,ub,uc,xb,xc];refine(Bt F (a%p) p om om X).call ?_;rw[U];simp -dsimp only[go_sem,aa,t,l,m,ub,xb,xc];refine(He 2 c (Mf a p) f p S om om I A (fun j s=>?_) (e.congr fun j _=>by simp)).mono ?_
 .unfold Mf;split<;>omega
 rintro _ S4 ⟨M,N⟩;have P:=M.has q d;simp only[go_sem,t,l,m];refine dA (fun O S=>S=S4/\O 1=.int .i64 p/\O 7=.int .i64 1/\O 8=.sl 1 b 0 1/\O 11=.int .i64 ((0:Nat):Int)/\O 84=.int .i64 ((0:Nat):Int)/\O 85=.int .i64 0) (fun O S=>0) ?_ ?_
 .simp only[*,go_sem]
 clear t r l m;rintro Q'' hQ'' O S ⟨rfl,t,r,l,m,Q,R⟩;simp only[go_sem,Q,R,show decide ((0:Int)<((0:Nat):Int))=false by simp]
 rw[hQ''];have w3:IntKind.i64.wrap (((0:Nat):Int)-1)=((0:Nat):Int)-1:=i64_in om om;simp only[go_sem,t,r,l,m,w3,Lq];refine⟨⟨0,om,rfl,P,N.congr fun j _=>by simp⟩,sm⟩
def wh(F:Nat)(a p:Int)(m:2<=p)(d:p<=1000000)(n:rH F p (a%p) 0 1=true):PF 142 [.int .i64 a,.int .i64 p] (.int .i64 (DO F p (a%p) 0 1%p)):=by
 refine jo func142 ntmps142 results142 ?_;simp -dsimp only[go_sem];refine aG.intro fun e o=>?_;simp -dsimp only[go_sem];refine aG.intro fun c f=>?_;have n10_9:=(ag f).1
 try simp -dsimp only[go_sem]
 have h:dZ ((St.none.upd e ⟨2,1,1,fun j=>[AV.int .i64 a].getD j .any⟩).upd c ⟨29,1,1,fun j=>[AV.sl 1 e 0 1].getD j .any⟩) c (fun _=>e) 1 1 (fun _ _=>a):=by
  refine⟨bG.here fun j q=>?_,fun j _=>bG.upd (bG.here fun k r=>?_) n10_9.symm _,fun i j s t _=>om⟩
  .obtain rfl:j=0:=om
   rfl
  .obtain rfl:k=0:=om
   rfl
 refine(vJ F a p m d n _ _ (fH.two h.vr.va (VA.refl _ _))).mono ?_;rintro _ S1 ⟨b,g,rfl,l,_⟩;obtain⟨gb,ub,vb⟩:=id l.outer;obtain⟨gc,uc,vc⟩:=id (l.row 0 om);have xb:gb 0=.sl 1 (g 0) 0 1:=vb 0 om;have xc:gc 0=.int .i64 (DO F p (a%p) 0 1%p):=vc 0 om;simp only[*,go_sem,aa]
 repeat refine an ?_
 exact VR.mf rfl

def gY(n:Nat)(H:aH)(p:Int)(v:Nat->Int):Nat->Int:=fun i=>lh (ma H p) (ma (fun i _=>v i) p) n p i 0
def rf(a:2<=p)(i:Nat):0<=gY n H p v i/\gY n H p v i<p:=⟨aT _ om,aP _ om⟩
def Bp(F n piv:Nat)(H:aH)(p:Int)(v:Nat->Int)(inv:Int)(h1:1<=n)(hn:n<=8)(hp:2<=p)(N:p<=1000)(f:piv<n)(hw0:gY n H p v piv≠0)(hwz:∀i,i<piv->gY n H p v i=0)(he:rH F p (gY n H p v piv%p) 0 1=true)(E:inv=DO F p (gY n H p v piv%p) 0 1%p) :
  SG 122 [aC n n H,.int .i64 p,aW n v] n n (fun j i=>gU p piv (fun j=>gY n H p v j*inv%p) i j):=by
 refine SG.of ?_;refine jI func122 ntmps122 results122 ?_;have P:0<=inv/\inv<p:=by rw[E];exact⟨aT _ om,aP _ om⟩
 simp -dsimp only[go_sem,aW]
 repeat refine an ?_
 refine aG.intro fun b7 f7=>?_;simp only[go_sem];refine aI (fun O S=>∃i:Nat,i<=n/\O 0=aC n n H/\O 1=.int .i64 p/\O 2=aW n v/\O 7=.sl 1 b7 0 n/\O 19=aW n v/\O 20=.int .i64 n/\O 21=.int .i64 i/\∃g',fL 29 2 1 St.none S b7 g' n 1 i (fun a _=>.int .i64 (v a))) (fun O S=>n-co (O 21)) ?_ ?_
 .simp only[go_sem,aW];exact⟨0,om,rfl,fun _=>0,fL.init f7 (fun _ _=>rfl) _ _⟩
 rintro O S ⟨i,hi,X,q,G,Y,J,K,L,g',m⟩;by_cases Q:i<n
 .obtain⟨g4,M,v4⟩:=id m.outer;simp -dsimp only[go_sem,aa,aW,X,q,Y,J,K,L,Q];refine aG.intro fun b29 R=>?_;have hne:b7≠b29:=bG.fresh m.outer R;simp only[*,go_sem,aa,aW,aS (om:i<1000000),co]
  refine⟨⟨i+1,om,rfl,_,(m.push dc R M (fun j=>[AV.int .i64 (v i)].getD j .any)).congr fun a c ha hc=>?_⟩,om⟩
  obtain rfl:c=0:=om
  by_cases e:a=i
  .subst e;simp
  .rw[af e]
 have hin:i=n:=om
 subst hin;have hN:=m.imat (A:=fun i _=>v i) (fun _ _ _ _=>rfl);simp -dsimp only[go_sem,aa,aW,X,q,Y,J,K,L,Q];refine(LZ i i 1 H (fun i _=>v i) p h1 om h1 om om om hp om S _ (fH.three (VA.refl _ _) hN.1.vr.va (VA.refl _ _))).mono ?_;rintro _ S1 ⟨bw,gw,rfl,Z,_,_,_⟩;simp -dsimp only[go_sem,aa,X,q,Y];have U:∀k,lh (ma H p) (ma (fun i _=>v i) p) i p k 0=gY i H p v k:=fun _=>rfl;refine(Es i 1 piv _ om om f (by rw[U];exact hw0) (fun k hk=>by rw[U];exact hwz k hk)).spec (fH.two Z.vr.va (VA.refl _ _)) ?_
 obtain⟨go,uo,vo⟩:=id Z.outer;obtain⟨gp,up,vp⟩:=id (Z.row piv f);have xo:go piv=.sl 1 (gw piv) 0 1:=vo piv f;have xp:gp 0=.int .i64 (gY i H p v piv):=vp 0 om;simp -dsimp only[go_sem,aa,q,f,uo,up,xo,xp]
 repeat refine an ?_
 refine(wh F (gY i H p v piv) p hp om he).call ?_;rw[<-E];simp -dsimp only[go_sem,aW,q,G]
 repeat refine an ?_
 refine aG.intro fun g f14=>?_;simp only[go_sem];have hq:∀k,0<=gY i H p v k*inv%p/\gY i H p v k*inv%p<p:=fun k=>⟨aT _ om,aP _ om⟩;have hpp:p*p<=1000000:=by have:=da N N om om;omega
 have hpp0:0<=p*p:=dr om om;have I:∀a b:Int,0<=a->a<p->0<=b->b<p->0<=a*b/\a*b<=1000000:=fun a b a0 a1 b0 b1=>by
  have h1:=da (om:a<=p) (om:b<=p) b0 om
  exact⟨dr a0 b0,om⟩
 clear uo up vo vp xo xp;refine dA (fun O S=>∃j:Nat,j<=i/\O 1=.int .i64 p/\O 2=aW i v/\O 10=.sl 1 bw 0 i/\O 12=.int .i64 piv/\O 13=.int .i64 inv/\O 14=.sl 1 g 0 i/\O 53=.int .i64 i/\O 54=.int .i64 j/\∃g',fL 29 2 1 S1 S g g' i i j (fun a c=>.int .i64 (gU p piv (fun j=>gY i H p v j*inv%p) c a))) (fun O S=>i-co (O 54)) ?_ ?_
 .simp only[go_sem,q,G,aW];exact⟨0,om,rfl,fun _=>0,fL.init f14 (fun _ _=>rfl) _ _⟩
 clear X q G Y J K L;rintro Q' hQ' O S ⟨j,hj,q,G,w,x,y,r,z,B,g',m⟩;by_cases l:j<i
 .obtain⟨g4,M,v4⟩:=id m.outer;by_cases V:j=piv
  .subst V;simp -dsimp only[go_sem,aa,aW,q,G,w,x,y,r,z,B,l,dw]
   repeat refine an ?_
   refine aG.intro fun d s=>?_;have t:g≠d:=bG.fresh m.outer s;have u:d≠g:=t.symm;have C:=m.push dc s M (fun _=>.int .i64 0)
   have wpp:IntKind.i64.wrap (p*p)=p*p:=i64_in om om;simp only[go_sem,l,M,t,u,fE,wpp,aS (om:j<1000000),co]
   have o:=C.put dc (om:j<j+1) (g':=fun _=>.int .i64 0) (by rw[ah rfl,aO u,cp]) j (.int .i64 (p*p))
   rw[show(if j=j then d else g' j)=d from ah rfl]at o
   refine⟨⟨j+1,om,rfl,_,o.congr fun a c ha hc=>?_⟩,om⟩
   by_cases ea:a=j
   .subst ea;simp only[kv,aK,gU];by_cases ec:c=a
    .rw[ah ec,ah ec]
    .rw[af ec,af ec]
   .rw[af (fun h=>ea h.1),af ea]
  .have hjb:((j:Int)==(piv:Int))=false:=by simp;omega
   simp -dsimp only[go_sem,aa,aW,q,G,w,x,y,r,z,B,l,hjb]
   repeat refine an ?_
   refine aG.intro fun d s=>?_;have t:g≠d:=bG.fresh m.outer s;have u:d≠g:=t.symm;have C:=m.push dc s M (fun _=>.int .i64 0)
   simp -dsimp only[*,go_sem,fE];have o:=C.put dc (om:j<j+1) (g':=fun _=>.int .i64 0) (by rw[ah rfl,aO u,cp]) j (.int .i64 p)
   rw[show(if j=j then d else g' j)=d from ah rfl]at o
   refine o5 (fun T=>∃gg,fL 29 2 1 S1 T g gg i i (j+1) (fun a c=>if a=j then .int .i64 (if c=j then p else 0)else .int .i64 (gU p piv (fun j=>gY i H p v j*inv%p) c a))) ⟨_,o.congr fun a c ha hc=>?_⟩ ?_
   .by_cases ea:a=j
    .subst ea;simp only[kv,aK];by_cases ec:c=a
     .rw[ah ec,ah ec]
     .rw[af ec,af ec]
    .rw[af (fun h=>ea h.1),af ea,af ea]
   clear m C o M v4 t u;rintro T ⟨gg,hT⟩;obtain⟨go,uo,vo⟩:=id hT.outer;obtain⟨gr,ur,vr⟩:=id (hT.row j om);have W:=Z.ext hT.ext;obtain⟨gx,ux,vx⟩:=id W.outer;obtain⟨gy,uy,vy⟩:=id (W.row j l);have xo:go j=.sl 1 (gg j) 0 i:=(vo j l).trans (ah om);have xx:gx j=.sl 1 (gw j) 0 1:=vx j l;have xy:gy 0=.int .i64 (gY i H p v j):=vy 0 om;obtain⟨w0,w1⟩:=rf (n:=i) (H:=H) (v:=v) hp j;obtain⟨m0,m1⟩:=I _ _ w0 w1 P.1 P.2;obtain⟨q0,q1⟩:=hq j;obtain⟨r0,r1⟩:=I (p-1) _ om om q0 q1;have k1:IntKind.i64.wrap (0-p)=-p:=by rw[vT];exact i64_in om om
   have k2:IntKind.i64.wrap (gY i H p v j*inv)=gY i H p v j*inv:=i64_in om om;have k3:(gY i H p v j*inv).tmod p=gY i H p v j*inv%p:=aN m0;have k4:IntKind.i64.wrap (-p*(gY i H p v j*inv%p))=-p*(gY i H p v j*inv%p):=by
    rw[Int.sub_mul,dG]at r0 r1;rw[sE];exact i64_in om om
   have hp0:¬p=0:=om
   refine bD 19 kr ?_
   simp only[go_sem,aa,aW,q,G,w,x,y,r,z,B,l,uo,ur,ux,uy,xo,xx,xy,f,k1,k2,k3,k4,hp0,aS (om:j<1000000),co]
   repeat refine an ?_
   refine⟨⟨j+1,om,rfl,gg,(hT.put dc (om:j<j+1) ur piv (.int .i64 (-p*(gY i H p v j*inv%p)))).congr fun a c ha hc=>?_⟩,om⟩
   by_cases ea:a=j
   .subst ea;simp only[kv,aK,gU];rw[af V];by_cases ec:c=piv
    .rw[ah ec,af om,ah ec,sE]
    .rw[af ec];by_cases D:c=a
     .rw[ah D,ah D]
     .rw[af D,af D,af ec]
   .rw[af (fun h=>ea h.1),af ea]
 have hji:j=i:=om
 rw[hji]at m;have hN2:=m.imat (A:=fun j i'=>gU p piv (fun j=>gY i H p v j*inv%p) i' j) (fun _ _ _ _=>rfl);simp only[go_sem,aa,q,G,w,x,y,r,z,B,l];rw[hQ'];simp only[go_sem,r];exact⟨g,rfl,g',hN2.1⟩

end Go.Proofs.YtdobfmlmenaajaaGreatDoor
