/-
  Lemmas for NeighbourRaw.
-/
import Derived.Test.YtdobfmlmenaajaaGreatDoorH32
namespace Go.Proofs.YtdobfmlmenaajaaGreatDoor
open Go.RowKit Tryz
set_option maxHeartbeats 6400000
set_option maxRecDepth 4096
set_option linter.all false
attribute [local go_sem] Nat.reduceAdd Nat.reduceEqDiff Nat.reduceLeDiff Nat.reduceLT reduceCtorEq Int.ofNat_lt decide_true decide_false Int.zero_le_ofNat
attribute [local go_sem ↓] reduceIte
variable{h v x z:AV}{Q:AX->Tm->St->Prop}{β:Bool}{p:Int}{args l l':List AV}{X b es f m n:Nat}{g:Nat->AV}{a:Nat->Int}{M:Nat->Prop}{S:St}{O:Tm}{u:Value}{w:World}{A G H W:aI}
def Ab(m:Nat)(len:Nat->Nat)(A:aI)(β:Bool)(hβ:β=true↔12<m∨∃i,i<m/\12<len i):PF 11 [jb m len A] (.bool β):=by
 refine iH func11 ntmps11 results11 ?_;by_cases j:12<m
 .simp -dsimp only[go_sem,jb,show(12:Int)<(m:Int) by omega]
  rw[hβ.2 (bF j)];exact VR.mf rfl
 simp -dsimp only[go_sem,jb,(om:¬((12:Int)<(m:Int)))]
 refine aH (fun O S=>∃i:Nat,i<=m/\(∀a,a<i->¬12<len a)/\O 8=jb m len A/\O 9=.int .i64 m/\O 10=.int .i64 i) (fun O S=>m-cj (O 10)) ?_ ?_
 .simp -dsimp only[go_sem,jb];exact⟨0,om,fun a l=>om,rfl⟩
 .rintro O S ⟨i,p,d,f,g,c⟩;by_cases b:i<m
  .by_cases k:12<len i
   .simp -dsimp only[go_sem,aK,jb,f,g,c,b,show(12:Int)<((len i:Nat):Int) by omega]
    rw[hβ.2 (bH ⟨i,b,k⟩)];exact VR.mf rfl
   .simp -dsimp only[go_sem,aK,jb,f,g,c,b,(om:¬((12:Int)<((len i:Nat):Int))),aP (om:i<1000000),cj]
    refine⟨⟨i+1,om,fun a l=>?_,rfl⟩,om⟩
    by_cases e:a=i
    .rw[e];exact k
    .exact d a om
  .obtain rfl:i=m:=om
   simp -dsimp only[go_sem,f,g,c,b];rw[cL hβ fun h=>by
    rcases h with h|⟨a,n,o⟩
    .exact j h
    .exact d a n o]
   exact VR.mf rfl
def PE(h:bs w M .nil u):bs w M (.lst es 0 g) u:=by
 simp only[bs]at h ⊢;exact⟨none,0,h,ae _,fun h=>absurd h (cZ _)⟩
def MadeD(r:AV):Prop:=∃(n p l:Nat) (H:aI) (v:Nat->Int) (ok:Bool),gk n H/\r=.tup [az n n H,.int .i64 p,aK l v,.bool ok]

def L8(S:St)(b P:Nat):Prop:=bM S b 202 1 2 (fun j=>if j=0 then .int .u64 ((P/18446744073709551616:Nat):Int)else .int .u64 ((P%18446744073709551616:Nat):Int))
def L8.put{P:Nat}:L8 (S.upd b ⟨202,1,2,iW g 0 [.int .u64 ((P/18446744073709551616:Nat):Int),.int .u64 ((P%18446744073709551616:Nat):Int)]⟩) b P :=
 ⟨_,cn,fun j a=>by
  rcases (om:j=0∨j=1)with rfl|rfl<;>simp[iW]⟩
def L8.get{P:Nat}(h:L8 S b P):∃g,S b=some ⟨202,1,2,g⟩/\eA g 0 2=[.int .u64 ((P/18446744073709551616:Nat):Int),.int .u64 ((P%18446744073709551616:Nat):Int)]:=by
 obtain⟨g,u,w⟩:=h;exact⟨g,u,by simp[eA,w 0 om,w 1 om]⟩
def qX(h:X<9223372036854775808):IntKind.u64.wrap (X:Int)=X:=by rw[cf];omega
def Dw(h:X<9223372036854775808):IntKind.i64.wrap (0-(-(X:Int)))=X:=by rw[show(0-(-(X:Int)))=X by omega];exact i64_in om om
def I4(S:St)(b c i:Nat)(a v:Nat->Int):Prop:=∃P N:Nat,L8 S b P/\L8 S c N/\(P:Int)-N=ay i (fun j=>a j*v j)/\P<=i*10141204801825835211973625643008/\N<=i*10141204801825835211973625643008
def Hy{x:Int}(h:¬0<=x):∃X:Nat,x=-(X:Int)/\0<X:=⟨x.natAbs,om,om⟩
def I4.next{c i Y P N P' N':Nat}{v:Nat->Int}(g:L8 S b P')(k:L8 S c N')(h:(P:Int)-N=ay i (fun j=>a j*v j))(bXY:X*Y<=10141204801825835211973625643008)(bP:P<=i*10141204801825835211973625643008)(bN:N<=i*10141204801825835211973625643008)
  (d:(P'=P+X*Y/\N'=N/\a i*v i=(X:Int)*Y)∨(P'=P/\N'=N+X*Y/\a i*v i=-((X:Int)*Y))):I4 S b c (i+1) a v:=by
 have e:((X*Y:Nat):Int)=(X:Int)*Y:=bD X Y;have eK:=cW i 10141204801825835211973625643008;refine⟨P',N',g,k,?_,?_,?_⟩
 .simp only[ay];rcases d with⟨rfl,rfl,f⟩|⟨rfl,rfl,f⟩<;>rw[f,<-h]<;>generalize (X:Int)*Y=Z at*<;> omega
 .clear h e;rw[eK];generalize 10141204801825835211973625643008=K at *;rcases d with⟨rfl,rfl,_⟩|⟨rfl,rfl,_⟩<;>omega
 .clear h e;rw[eK];generalize 10141204801825835211973625643008=K at *;rcases d with⟨rfl,rfl,_⟩|⟨rfl,rfl,_⟩<;>omega
def QG{a c B:Code}(h:∀B,Aw (.seq a (.seq c B)) Q O S):Aw (.seq a (.seq c B)) Q O S:=h B
def NL(s:Int):AV:=.tup [.int .i64 (if s.natAbs<=4611686018427387904 then s else 0),.bool (decide (s.natAbs<=4611686018427387904))]
def Ld(n:Nat)(a v:Nat->Int)(K:n<=16)(E:∀i,i<n->(a i).natAbs<=1099511627776)(F:∀j,j<n->(v j).natAbs<9223372036854775808) :
  PF 168 [aK n a,aK n v] (NL (ay n (fun j=>a j*v j))):=by
 refine iH func168 ntmps168 results168 ?_;simp only[go_sem,aK];refine aF.intro fun bb fb=>?_
 try simp only[go_sem]
 refine aF.intro fun bc fc=>?_;have nc_b:=(ag fc).1
 try simp only[go_sem]
 refine dI (fun O S=>∃i:Nat,i<=n/\O 1=aK n v/\O 6=.ptr 1 bb 0/\O 7=.ptr 1 bc 0/\O 15=aK n a/\O 16=.int .i64 n/\O 17=.int .i64 i/\I4 S bb bc i a v) (fun O S=>n-cj (O 17)) ?_ ?_
 .simp only[go_sem,aK];exact⟨0,om,rfl,0,0,(bM.here fun j G=>by simp).upd (aj nc_b) _,bM.here fun j G=>by simp,by simp[ay],om,om⟩
 rintro Q' A O S ⟨i,L,z,q,r,m,e,f,P,N,C,D,s,bP,bN⟩;obtain⟨g,u,w⟩:=C.get;obtain⟨g',u',w'⟩:=D.get;have H:¬((2:Nat)=1):=by decide
 have bP':P<=162259276829213363391578010288128:=by
  have:=aB 10141204801825835211973625643008 (om:i<=16)
  omega
 have bN':N<=162259276829213363391578010288128:=by
  have:=aB 10141204801825835211973625643008 (om:i<=16)
  omega
 by_cases b:i<n
 .have I:=E i b;have J:=F i b;have M:=aP (om:i<1000000)
  have o:(a i).natAbs*(v i).natAbs<=10141204801825835211973625643008:=bQ (a9 I (dB J)) dc
  by_cases t:0<=a i
  .obtain⟨X,d⟩:=tz t;have bX:X<9223372036854775808:=om
   have nX:¬((X:Int)<0):=om
   by_cases k:0<=v i
   .obtain⟨Y,c⟩:=tz k;have bY:Y<9223372036854775808:=om
    have bXY:X*Y<=10141204801825835211973625643008:=by have h:=o;rw[d,c]at h;simpa using h
    simp -dsimp only[go_sem,aa,z,q,r,m,e,f,b,aK,d,c,cA,u,u',qX bX,qX bY]
    repeat refine an ?_
    try simp -dsimp only[go_sem,w]
    refine(yp (W:=P) (om:X<18446744073709551616) (om:Y<18446744073709551616) om).call ?_
    simp only[*,go_sem,cj,Rq,cq,fR,bn,bS,cB,cM]
    repeat refine an ?_
    exact⟨⟨i+1,om,rfl,rfl,rfl,I4.next L8.put (D.upd nc_b _) s bXY bP bN (bF ⟨rfl,rfl,by rw[d,c]⟩)⟩,om⟩
   .obtain⟨Y,c,pY⟩:=Hy k;have bY:Y<9223372036854775808:=om
    have bXY:X*Y<=10141204801825835211973625643008:=by have h:=o;rw[d,c]at h;simpa using h
    simp -dsimp only[go_sem,aa,z,q,r,m,e,f,b,aK,d,c,cA,nX,(om:¬((0:Int)<=-(Y:Int))),u,u',qX bX,qX bY,Dw bY]
    repeat refine an ?_
    try simp -dsimp only[go_sem,w']
    refine(yp (W:=N) (om:X<18446744073709551616) (om:Y<18446744073709551616) om).call ?_
    simp only[*,go_sem,cj,Rq,cq,fR,bn,bS,cB,cM]
    repeat refine an ?_
    exact⟨⟨i+1,om,rfl,rfl,rfl,I4.next (C.upd (aj nc_b) _) L8.put s bXY bP bN (bH ⟨rfl,rfl,by rw[d,c];exact m9 _ _⟩)⟩,om⟩
  .obtain⟨X,d,pX⟩:=Hy t;have bX:X<9223372036854775808:=om
   have nX:¬((0:Int)<=-(X:Int)):=om
   have nX':-(X:Int)<0:=om
   by_cases k:0<=v i
   .obtain⟨Y,c⟩:=tz k;have bY:Y<9223372036854775808:=om
    have bXY:X*Y<=10141204801825835211973625643008:=by have h:=o;rw[d,c]at h;simpa using h
    simp -dsimp only[go_sem,aa,z,q,r,m,e,f,b,aK,d,c,cA,nX,nX',(om:¬((Y:Int)<0)),u,u',qX bX,qX bY,Dw bX]
    repeat refine an ?_
    try simp -dsimp only[go_sem,w']
    refine(yp (W:=N) (om:X<18446744073709551616) (om:Y<18446744073709551616) om).call ?_
    simp only[*,go_sem,cj,Rq,cq,fR,bn,bS,cB,cM]
    repeat refine an ?_
    exact⟨⟨i+1,om,rfl,rfl,rfl,I4.next (C.upd (aj nc_b) _) L8.put s bXY bP bN (bH ⟨rfl,rfl,by rw[d,c];exact sd _ _⟩)⟩,om⟩
   .obtain⟨Y,c,pY⟩:=Hy k;have bY:Y<9223372036854775808:=om
    have bXY:X*Y<=10141204801825835211973625643008:=by have h:=o;rw[d,c]at h;simpa using h
    simp -dsimp only[go_sem,aa,z,q,r,m,e,f,b,aK,d,c,nX,nX',(om:-(Y:Int)<0),u,u',qX bX,qX bY,Dw bX,Dw bY]
    repeat refine an ?_
    try simp -dsimp only[go_sem,w]
    refine(yp (W:=P) (om:X<18446744073709551616) (om:Y<18446744073709551616) om).call ?_
    simp only[*,go_sem,cj,Rq,cq,fR,bn,bS,cB,cM]
    repeat refine an ?_
    exact⟨⟨i+1,om,rfl,rfl,rfl,I4.next L8.put (D.upd nc_b _) s bXY bP bN (bF ⟨rfl,rfl,by rw[d,c];exact pL _ _⟩)⟩,om⟩
 have x:i=n:=om
 refine QG fun B=>?_;simp only[go_sem,e,f,b];rw[x]at s;rw[A,<-s];simp -dsimp only[go_sem,aa,q,r,u,u']
 repeat refine an ?_
 try simp -dsimp only[*,go_sem]
 refine(B4 (W:=P) (V:=N) om om).call ?_;by_cases y:N<=P/\P-N<=4611686018427387904
 .rw[ai y,nG y];simp only[go_sem,aa,q,r,u,w,u',w'];have p:((P:Int)-N).natAbs<=4611686018427387904:=om
  unfold NL;rw[ai p,nG p,Int.ofNat_sub y.1];exact VR.mf rfl
 .rw[af y,pJ y];simp -dsimp only[go_sem,aa,q,r,u,w,u',w']
  repeat refine an ?_
  try simp -dsimp only[*,go_sem]
  refine(B4 (W:=N) (V:=P) om om).call ?_;by_cases p:P<=N/\N-P<=4611686018427387904
  .rw[ai p,nG p];simp only[go_sem,show IntKind.i64.wrap (0-((N-P:Nat):Int))=(P:Int)-N by rw[Int.ofNat_sub p.1];rw[(om:0-((N:Int)-P)=(P:Int)-N)];exact i64_in om om]
   have l:((P:Int)-N).natAbs<=4611686018427387904:=om
   unfold NL;rw[ai l,nG l];exact VR.mf rfl
  .rw[af p,pJ p];simp only[go_sem,show IntKind.i64.wrap (0-(0:Int))=0 from rfl];have l:¬((P:Int)-N).natAbs<=4611686018427387904:=om
   unfold NL;rw[af l,pJ l];exact VR.mf rfl

def Gy(n:Nat)(a b:Nat->Int)(β:Bool)(m:n<=16)(hβ:β=true↔∀i,i<n->a i=b i):PF 52 [aK n a,aK n b] (.bool β):=by
 refine iH func52 ntmps52 results52 ?_;simp only[go_sem,aK,aY];refine aH (fun O S=>∃i:Nat,i<=n/\(∀k,k<i->a k=b k)/\O 0=aK n a/\O 1=aK n b/\O 12=.int .i64 n/\O 13=.int .i64 i) (fun O S=>n-cj (O 13)) ?_ ?_
 .simp only[go_sem,aK];exact⟨0,om,fun k g=>om,rfl⟩
 .rintro O S ⟨i,o,c,p,q,j,l⟩;by_cases d:i<n
  .by_cases f:a i=b i
   .simp -dsimp only[*,go_sem,aK];refine bE 9 kr ?_
    simp only[*,go_sem,aa,aK,aY,aP (om:i<1000000),cj]
    refine⟨⟨i+1,om,fun k g=>?_,rfl⟩,om⟩
    by_cases e:k=i
    .rw[e];exact f
    .exact c k om
   .simp -dsimp only[*,go_sem,aK];refine bE 9 kr ?_
    simp only[*,go_sem,aa,aK,show(a i != b i)=true by simpa using f]
    rw[cL hβ fun h=>f (h i d)];exact VR.mf rfl
  .simp only[*,go_sem,aK];rw[hβ.2 fun k g=>c k om];exact VR.mf rfl
def ym(n m:Nat)(A B:aI)(β:Bool)(q:n<=16)(f:m<=16)(hβ:β=true↔∀i j,i<n->j<m->A i j=B i j):PF 51 [az n m A,az n m B,.fn 52 []] (.bool β):=by
 refine iH func51 ntmps51 results51 ?_;simp only[go_sem,az,aK,aY];refine aH (fun O S=>∃i:Nat,i<=n/\(∀k j,k<i->j<m->A k j=B k j)/\O 1=az n m B/\O 2=.fn 52 []/\O 15=az n m A/\O 16=.int .i64 n/\O 17=.int .i64 i) (fun O S=>n-cj (O 17)) ?_ ?_
 .simp only[go_sem,az,aK];exact⟨0,om,fun k j d=>om,rfl⟩
 .rintro O S ⟨i,r,b,s,t,g,l,o⟩;by_cases c:i<n
  .obtain⟨γ,hγ⟩:=gR (∀j,j<m->A i j=B i j);simp -dsimp only[*,go_sem,aa,az];refine(Gy m (A i) (B i) γ f hγ).call ?_
   cases γ with
   | true =>
    have p:=hγ.1 rfl;simp only[*,go_sem,aP (om:i<1000000),cj]
    refine⟨⟨i+1,om,fun k j d a=>?_,rfl,rfl,rfl⟩,om⟩
    by_cases e:k=i
    .rw[e];exact p j a
    .exact b k j om a
   | false =>
    simp only[*,go_sem];rw[cL hβ fun h=>by have:=hγ.2 (fun j a=>h i j c a);cases this]
    exact VR.mf rfl
  .simp only[*,go_sem,aa,az];rw[hβ.2 fun k j d a=>b k j om a];exact VR.mf rfl
def qI(m:Nat)(len:Nat->Nat)(T:aI):AV:=.lst 1 m (fun i=>aK (len i) (T i))
def tJ(n m:Nat)(len:Nat->Nat)(T:aI)(β:Bool)(p:m<=16)(hβ:β=true↔m=n/\∀i,i<m->len i=n):PF 49 [qI m len T,.int .i64 n] (.bool β):=by
 refine iH func49 ntmps49 results49 ?_;simp only[go_sem,qI,aK];refine aH (fun O S=>∃i:Nat,i<=m/\(∀k,k<i->len k=n)/\O 0=qI m len T/\O 1=.int .i64 n/\O 7=qI m len T/\O 8=.int .i64 m/\O 9=.int .i64 i) (fun O S=>m-cj (O 9)) ?_ ?_
 .simp only[go_sem,qI,aK];exact⟨0,om,fun k d=>om,rfl⟩
 .rintro O S ⟨i,q,a,f,g,j,l,o⟩;by_cases b:i<m
  .by_cases c:len i=n
   .simp only[*,go_sem,qI,aK,aY,aP (om:i<1000000),cj]
    refine⟨⟨i+1,om,fun k d=>?_,rfl⟩,om⟩
    by_cases e:k=i
    .rw[e];exact c
    .exact a k om
   .simp only[*,go_sem,qI,aK,show(((len i:Nat):Int) != (n:Int))=true by simp;omega]
    rw[cL hβ fun h=>c (h.2 i b)];exact VR.mf rfl
  .by_cases c:m=n
   .simp only[go_sem,qI,aK,f,g,j,l,o,b,show(((m:Nat):Int)==(n:Int))=true by simp;omega]
    rw[hβ.2 ⟨c,fun k d=>a k om⟩];exact VR.mf rfl
   .simp only[*,go_sem,qI,aK,show(((m:Nat):Int)==(n:Int))=false by simp;omega]
    rw[cL hβ fun h=>c h.1];exact VR.mf rfl
def uO(n m:Nat)(len:Nat->Nat)(T:aI)(β:Bool)(p:m<=16)(hβ:β=true↔m=n/\∀i,i<m->len i=n):PF 22 [qI m len T,.int .i64 n] (.bool β):=by
 refine iH func22 ntmps22 results22 ?_;simp only[go_sem,qI,aK];refine aH (fun O S=>∃i:Nat,i<=m/\(∀k,k<i->len k=n)/\O 0=qI m len T/\O 1=.int .i64 n/\O 7=qI m len T/\O 8=.int .i64 m/\O 9=.int .i64 i) (fun O S=>m-cj (O 9)) ?_ ?_
 .simp only[go_sem,qI,aK];exact⟨0,om,fun k d=>om,rfl⟩
 .rintro O S ⟨i,q,a,f,g,j,l,o⟩;by_cases b:i<m
  .by_cases c:len i=n
   .simp only[*,go_sem,qI,aK,aY,aP (om:i<1000000),cj]
    refine⟨⟨i+1,om,fun k d=>?_,rfl⟩,om⟩
    by_cases e:k=i
    .rw[e];exact c
    .exact a k om
   .simp only[*,go_sem,qI,aK,show(((len i:Nat):Int) != (n:Int))=true by simp;omega]
    rw[cL hβ fun h=>c (h.2 i b)];exact VR.mf rfl
  .by_cases c:m=n
   .simp only[go_sem,qI,aK,f,g,j,l,o,b,show(((m:Nat):Int)==(n:Int))=true by simp;omega]
    rw[hβ.2 ⟨c,fun k d=>a k om⟩];exact VR.mf rfl
   .simp only[*,go_sem,qI,aK,show(((m:Nat):Int)==(n:Int))=false by simp;omega]
    rw[cL hβ fun h=>c h.1];exact VR.mf rfl
def Ae(n:Nat)(a:Nat->Int)(β:Bool)(f:n<=16)(hβ:β=true↔∀i,i<n->(a i).natAbs<=1099511627776):PF 214 [aK n a] (.bool β):=by
 refine iH func214 ntmps214 results214 ?_;simp only[go_sem,aK];refine aH (fun O S=>∃i:Nat,i<=n/\(∀k,k<i->(a k).natAbs<=1099511627776)/\O 5=aK n a/\O 6=.int .i64 n/\O 7=.int .i64 i) (fun O S=>n-cj (O 7)) ?_ ?_
 .simp only[go_sem,aK];exact⟨0,om,fun k d=>om,rfl⟩
 .rintro O S ⟨i,g,b,j,l,m⟩;by_cases c:i<n
  .by_cases o:a i < -1099511627776
   .simp only[*,go_sem,aK];rw[cL hβ fun h=>by have:=h i c;omega]
    exact VR.mf rfl
   by_cases p:1099511627776<a i
   .simp only[*,go_sem,aK];rw[cL hβ fun h=>by have:=h i c;omega]
    exact VR.mf rfl
   simp only[*,go_sem,aK,aP (om:i<1000000),cj]
   refine⟨⟨i+1,om,fun k d=>?_,rfl⟩,om⟩
   by_cases e:k=i
   .rw[e];omega
   .exact b k om
  .simp only[*,go_sem,aK];rw[hβ.2 fun k d=>b k om];exact VR.mf rfl
def FM(n:Nat)(a:Nat->Int)(β:Bool)(b:n<=16)(hβ:β=true↔∀i,i<n->(a i).natAbs<=1099511627776):PF 166 [.int .i64 n,aK n a] (.bool β):=by
 refine iH func166 ntmps166 results166 ?_;simp -dsimp only[go_sem,aa,aK,dp];refine(Ae n a β b hβ).call ?_
 cases β<;>simp only[go_sem,dp]
 .exact VR.mf rfl
 .exact VR.mf rfl

def pu(n:Nat)(A B:aI)(i j:Nat):Int:=ay n fun k=>B j k*ay n (fun l=>A k l*B i l)
def sD(n:Nat)(A B:aI)(i j:Nat):Int:=if j<=i then pu n A B i j else pu n A B j i
def GrR(S:St)(b m k:Nat)(E:aI):Prop:=∃g,fz 29 2 1 St.none S b g m m k (fun a c=>.int .i64 (E a c))
def I0(n m:Nat)(A B:aI):Prop:=(∀i k,i<m->k<n->(B i k).natAbs<=1099511627776)/\∀i j,i<m->j<i+1->(pu n A B i j).natAbs<=4611686018427387904
def xX(n m:Nat)(A B:aI)(β:Bool)(r:AV)(S':St):Prop:=(β=true/\∃b g,r=.tup [.sl 1 b 0 m,.bool true]/\eI S' b g m m (sD n A B))∨(β=false/\r=.tup [.nil,.bool false])
def xX.lift{B:aI}(h:cP f args St.none (xX n m A B β))(S:St)(args':List AV)(i:fI S args' args):cP f args' S (fun r S'=>xX n m A B β r S'/\ft S S'):=by
 have j:cP f args St.none (fun r S'=>xX n m A B β r S'/\clb r=true/\Kg S'):=h.less fun r S' d=>by
  rcases d with⟨a,b,g,rfl,c⟩|⟨a,rfl⟩
  .exact⟨gQ S' b g m,ji S' b g m,bF ⟨a,b,g,rfl,c.only.1⟩,rfl,c.only.2⟩
  .exact⟨St.none,fun _ _ e=>(by cases e),bH ⟨a,rfl⟩,rfl,fun _ _ e=>(by cases e)⟩
 refine(j.frame i fun r S1 k=>k.2).mono ?_;rintro r S' ⟨S1,⟨d,_,_⟩,l,rfl⟩;refine⟨?_,pq S S1⟩;rcases d with⟨a,b,g,rfl,c⟩|⟨a,rfl⟩
 .exact bF ⟨a,b,g,rfl,(c.join l).1⟩
 .exact bH ⟨a,rfl⟩
def CJ{v:Nat->Int}(d:n<=8)(a:∀i j,i<n->j<n->-262144<A i j/\A i j<262144)(b:∀j,j<n->(v j).natAbs<=1099511627776){i t:Nat}(c:i<n)(e:t<=n):(ay t (fun j=>A i j*v j)).natAbs<=2305843009213693952:=by
 refine bQ (bQ (vL _ _) (qg (B:=288230376151711744) fun j f=>?_)) (aB 288230376151711744 (om:t<=8))
 rw[cJ];exact bQ (a9 (show(A i j).natAbs<=262144 by have:=a i j c om;omega) (b j om)) dc
def D8(n:Nat)(A:aI)(v:Nat->Int)(E:n<=8)(C:∀i j,i<n->j<n->-262144<A i j/\A i j<262144)(D:∀j,j<n->(v j).natAbs<=1099511627776) :
  PF 167 [az n n A,aK n v] (aK n (fun i=>ay n (fun j=>A i j*v j))):=by
 have F:∀i j,i<n->j<n->IntKind.i64.wrap (A i j*v j)=A i j*v j:=fun i j x y=>by
  have h:=a9 (show(A i j).natAbs<=262144 by have:=C i j x y;omega) (D j y)
  rw[<-cJ]at h;exact i64_in om om
 have G:∀i t,i<n->t<=n->IntKind.i64.wrap (ay t (fun j=>A i j*v j))=ay t (fun j=>A i j*v j):=fun i t x H=>by
  have h:=CJ E C D x H;exact i64_in om om
 refine iH func167 ntmps167 results167 ?_;simp -dsimp only[go_sem,az,aK]
 repeat refine an ?_
 refine aF.intro fun bb fb=>?_
 try simp -dsimp only[go_sem]
 refine dI (fun O S=>∃i:Nat,i<=n/\O 1=aK n v/\O 5=.sl 1 bb 0 n/\O 13=az n n A/\O 14=.int .i64 n/\O 15=.int .i64 i/\qr S bb n (fun r=>if r<i then ay n (fun j=>A r j*v j)else 0)) (fun O S=>n-cj (O 15)) ?_ ?_
 .simp -dsimp only[go_sem,az,aK];exact⟨0,om,rfl,bM.here fun j y=>by simp⟩
 rintro Q' z O S ⟨i,x,s,p,a,b,c,q⟩;by_cases d:i<n
 .simp -dsimp only[go_sem,a,b,c,d,az,aK];refine dI (fun O S=>∃j:Nat,j<=n/\O 1=aK n v/\O 5=.sl 1 bb 0 n/\O 6=.int .i64 i/\O 13=az n n A/\O 14=.int .i64 n/\O 15=.int .i64 i/\O 20=aK n (A i)/\O 21=.int .i64 n/\O 22=.int .i64 j /\
   qr S bb n (fun r=>if r=i then ay j (fun j=>A i j*v j)else if r<i then ay n (fun j=>A r j*v j)else 0)) (fun O S=>n-cj (O 22)) ?_ ?_
  .simp -dsimp only[go_sem,s,p,a,b,c,az,aK];obtain⟨g,u,w⟩:=q;exact⟨0,om,rfl,g,u,fun r k=>(w r k).trans (by by_cases e:r=i<;>simp[e,ay])⟩
  clear s p a b c q;clear O S;rintro Q2 B O S ⟨j,y,s,p,I,a,b,c,l,m,o,q⟩;by_cases f:j<n
  .obtain⟨g,u,w⟩:=id q;have J:g i=.int .i64 (ay j (fun j=>A i j*v j)):=(w i d).trans sm
   simp -dsimp only[go_sem,l,m,o,f,aK];refine bE 12 kr ?_
   simp -dsimp only[go_sem,aa,s,p,I,a,b,c,l,m,o,d,f,u,J,aK,F i j d f,show ay j (fun j=>A i j*v j)+A i j*v j=ay (j+1) (fun j=>A i j*v j)from rfl,G i (j+1) d f,aP (om:j<1000000),cj]
   exact⟨⟨j+1,om,rfl,_,cn,fun r k=>by
    by_cases e:r=i
    .simp[bW,e]
    .exact(af e).trans ((w r k).trans (by simp[e]))⟩,om⟩
  .simp -dsimp only[go_sem,aa,l,m,o,f];rw[B];simp -dsimp only[go_sem,s,p,a,b,c,aP (om:i<1000000),cj]
   obtain rfl:j=n:=om
   obtain⟨g,u,w⟩:=q;exact⟨⟨i+1,om,rfl,rfl,rfl,g,u,fun r k=>(w r k).trans (by
    by_cases e:r=i
    .simp[e]
    .simp[e,(om:r<i+1↔r<i)])⟩,om⟩
 .simp -dsimp only[go_sem,aa,a,b,c,d];rw[z];simp -dsimp only[go_sem,p];obtain rfl:i=n:=om
  obtain⟨g,u,w⟩:=q;exact qr.vr ⟨g,u,fun r k=>(w r k).trans (by simp[k])⟩
def Gx(n m:Nat)(A B:aI)(h1:1<=n)(hn:n<=8)(hm:m<=8)(hA:∀i j,i<n->j<n->-262144<A i j/\A i j<262144)(hRd:(∀i j,i<n->j<n->A i j=A j i)/\ti A n)(β:Bool)(hβ:β=true↔I0 n m A B):cP 110 [az n n A,az m n B] St.none (xX n m A B β):=by
 refine i9 func110 ntmps110 results110 ?_;simp -dsimp only[go_sem,aa];refine(mZ n A true h1 hn ⟨fun _=>hRd,fun _=>rfl⟩).call ?_;simp -dsimp only[go_sem,az];refine dI (fun O S=>∃i:Nat,i<=m/\(∀a k,a<i->k<n->(B a k).natAbs<=1099511627776)/\O 0=az n n A/\O 1=az m n B/\O 19=az m n B/\O 20=.int .i64 m/\O 21=.int .i64 i/\S=St.none) (fun O S=>m-cj (O 21)) ?_ ?_
 .simp -dsimp only[go_sem,az];exact⟨0,om,fun a k T=>om,rfl⟩
 rintro Q1 K O S ⟨i,Z,L,o,f,x,y,z,rfl⟩;by_cases b:i<m
 .obtain⟨γ,hγ⟩:=gR (∀j,j<n->(B i j).natAbs<=1099511627776);simp -dsimp only[go_sem,aa,o,x,y,z,b,az];refine(FM n (B i) γ om hγ).call ?_
  cases γ with
  | true =>
   simp -dsimp only[go_sem,o,f,x,y,z,az,aP (om:i<1000000),cj]
   refine⟨⟨i+1,om,fun a k T G=>?_,rfl⟩,om⟩
   by_cases e:a=i
   .rw[e];exact hγ.1 rfl k G
   .exact L a k om G
  | false =>
   simp -dsimp only[go_sem,o,f,x,y,z,az];rw[K];simp -dsimp only[go_sem];exact bH ⟨cL hβ fun h=>(by have:=hγ.2 (fun j hj=>h.1 i j b hj);cases this),rfl⟩
 have hB:∀a k,a<m->k<n->(B a k).natAbs<=1099511627776:=fun a k T G=>L a k om G;clear L;simp -dsimp only[go_sem,aa,o,x,y,z,b];rw[K];simp -dsimp only[go_sem,f,az]
 repeat refine an ?_
 refine aF.intro fun bb fb=>?_
 try simp -dsimp only[go_sem]
 refine dI (fun O S=>∃i:Nat,i<=m/\O 0=az n n A/\O 1=az m n B/\O 8=.sl 1 bb 0 m/\O 35=.int .i64 m/\O 36=.int .i64 i/\GrR S bb m i (fun _ _=>0)) (fun O S=>m-cj (O 36)) ?_ ?_
 .simp -dsimp only[go_sem,o,f,az];exact⟨0,om,rfl,fun _=>0,fz.init fb (fun _ _=>rfl) _ _⟩
 clear o f x y z b Z K Q1 O i;rintro Q2 M O S ⟨i,Z,o,f,w,N,P,g,p⟩;by_cases b:i<m
 .obtain⟨g4,W,v4⟩:=id p.outer;simp -dsimp only[go_sem,aa,o,f,w,N,P,b,az]
  repeat refine an ?_
  refine aF.intro fun bd fd=>?_;have hdc:bb≠bd:=bM.fresh p.outer fd;have hset:bW g4 i (.sl 1 bd 0 m) i=.sl 1 bd 0 m:=by simp[bW]
  try simp -dsimp only[go_sem,b,W,hdc]
  clear M;have hR1:=p.push dc fd W (fun _=>.int .i64 0)
  simp -dsimp only[go_sem,aP (om:i<1000000),cj]
  refine⟨⟨i+1,om,rfl,_,hR1.congr fun a c _ _=>?_⟩,om⟩
  by_cases e:a=i<;>simp[e]
 simp -dsimp only[go_sem,aa,o,f,w,N,P,b];rw[M];have H:i=m:=om
 rw[H]at p;clear H b Z N P M Q2;simp -dsimp only[go_sem,f,az];refine dI (fun O S=>∃i:Nat,i<=m/\O 0=az n n A/\O 1=az m n B/\O 8=.sl 1 bb 0 m/\O 46=az m n B/\O 47=.int .i64 m/\O 48=.int .i64 i/\(∀a c,a<i->c<a+1->(pu n A B a c).natAbs<=4611686018427387904)/\GrR S bb m m (fun a c=>if a<i/\c<i then sD n A B a c else 0)) (fun O S=>m-cj (O 48)) ?_ ?_
 .simp -dsimp only[go_sem,o,f,w,az];exact⟨0,om,rfl,fun a c T=>om,g,p.congr fun a c _ _=>by simp⟩
 clear o f w p;clear O S g i;rintro Q3 C O S ⟨i,Z,o,f,w,r,s,t,hP,U⟩;by_cases b:i<m
 .simp -dsimp only[go_sem,aa,o,r,s,t,b,az];refine(D8 n A (B i) om hA (fun j hj=>hB i j b hj)).call ?_;simp -dsimp only[go_sem,o,az];refine dI (fun O S=>∃j:Nat,j<=i+1/\O 0=az n n A/\O 1=az m n B/\O 8=.sl 1 bb 0 m/\O 10=.int .i64 i/\O 12=aK n (fun k=>ay n (fun l=>A k l*B i l))/\O 46=az m n B/\O 47=.int .i64 m/\O 48=.int .i64 i/\O 57=.int .i64 (i+1:Nat)/\O 58=.int .i64 j/\(∀c,c<j->(pu n A B i c).natAbs<=4611686018427387904) /\
   GrR S bb m m (fun a c=>if (a<i/\c<i)∨(a=i/\c<j)∨(c=i/\a<j)then sD n A B a c else 0)) (fun O S=>i+1-cj (O 58)) ?_ ?_
  .simp -dsimp only[go_sem,o,f,w,r,s,t,az,aP (om:i<1000000)]
   obtain⟨g,p⟩:=U;exact⟨0,om,rfl,fun c V=>om,g,p.congr fun a c _ _=>by simp⟩
  clear o f w r s t U;clear O S;rintro Q4 D O S ⟨j,hj,o,f,w,X,v,r,s,t,E,F,Q,U⟩;by_cases R:j<i+1
  .have d:j<m:=om
   simp -dsimp only[go_sem,aa,f,v,E,F,R,d,az];refine(Ld n (B j) _ om (fun k G=>hB j k d G) (fun k G=>by have:=CJ om hA (fun l hl=>hB i l b hl) G (ae n);omega)).call ?_
   have Y:ay n (fun k=>B j k*ay n (fun l=>A k l*B i l))=pu n A B i j:=rfl;unfold NL;by_cases u:(pu n A B i j).natAbs<=4611686018427387904
   case neg =>
    rw[Y,af u,pJ u];simp -dsimp only[go_sem,f,v,az];rw[D];simp -dsimp only[go_sem];rw[C];simp -dsimp only[go_sem];exact bH ⟨cL hβ fun h=>u (h.2 i j b R),rfl⟩
   rw[Y,ai u,nG u];obtain⟨g,p⟩:=U;obtain⟨g4,W,v4⟩:=id p.outer;obtain⟨g5,u5,v5⟩:=id (p.row i b);obtain⟨g6,u6,v6⟩:=id (p.row j d);have x4:g4 i=.sl 1 (g i) 0 m:=(v4 i b).trans (ai b);have x5:g4 j=.sl 1 (g j) 0 m:=(v4 j d).trans (ai d);clear D C;simp -dsimp only[go_sem,f,v,az];refine g9 13 kr ?_
   by_cases e:j=i
   .subst e;simp -dsimp only[go_sem,aa,o,f,w,X,v,r,s,t,E,F,d,az,W,x5,u6,aP (om:j<1000000),cj]
    have hv:sD n A B j j=pu n A B j j:=ai (ae _);refine⟨⟨j+1,om,rfl,fun c V=>by
     by_cases q:c=j
     .rw[q];exact u
     .exact Q c om,g,((p.put dc d u6 j _).put dc d cn j _).congr fun a c _ _=>?_⟩,om⟩
    dsimp only;by_cases I:a=j/\c=j
    .rw[ai I,ai om];obtain⟨rfl,rfl⟩:=I;exact jL _ hv.symm
    rw[af I,af I];by_cases J:(a<j/\c<j)∨(a=j/\c<j)∨(c=j/\a<j)
    .rw[ai J,ai om]
    .rw[af J,af om]
   .have nij:g i≠g j:=fun h=>e (p.inj j i d b h.symm);simp -dsimp only[go_sem,aa,o,f,w,X,v,r,s,t,E,F,b,d,az,W,x4,x5,u5,u6,aj nij,aP (om:j<1000000),cj]
    have hv:sD n A B i j=pu n A B i j:=ai om;have hv2:sD n A B j i=pu n A B i j:=af om;have u6':(S.upd (g i) ⟨2,1,m,bW g5 j (.int .i64 (pu n A B i j))⟩) (g j)=some ⟨2,1,m,g6⟩:=(aO (aj nij)).trans u6;refine⟨⟨j+1,om,rfl,fun c V=>by
     by_cases q:c=j
     .rw[q];exact u
     .exact Q c om,g,((p.put dc b u5 j _).put dc d u6' i _).congr fun a c _ _=>?_⟩,om⟩
    dsimp only;by_cases I:a=j/\c=i
    .rw[ai I,ai om];obtain⟨rfl,rfl⟩:=I;exact jL _ hv2.symm
    rw[af I];by_cases q2:a=i/\c=j
    .rw[ai q2,ai om];obtain⟨rfl,rfl⟩:=q2;exact jL _ hv.symm
    rw[af q2];by_cases J:(a<i/\c<i)∨(a=i/\c<j)∨(c=i/\a<j)
    .rw[ai J,ai om]
    .rw[af J,af om]
  simp -dsimp only[go_sem,aa,f,v,E,F,R];rw[D];clear D C;simp -dsimp only[go_sem,o,f,w,r,s,t,az,aP (om:i<1000000),cj]
  obtain⟨g,p⟩:=U;refine⟨⟨i+1,om,rfl,fun a c T V=>by
   by_cases q:a=i
   .rw[q];exact Q c om
   .exact hP a c om V,g,p.congr fun a c _ _=>?_⟩,om⟩
  dsimp only;by_cases J:(a<i/\c<i)∨(a=i/\c<j)∨(c=i/\a<j)
  .rw[ai J,ai om]
  .rw[af J,af om]
 simp -dsimp only[go_sem,aa,o,r,s,t,b];rw[C];simp -dsimp only[go_sem,w];obtain rfl:i=m:=om
 obtain⟨g,p⟩:=U;exact bF ⟨hβ.2 ⟨hB,hP⟩,bb,g,rfl,(p.imat fun a c T V=>by dsimp only;rw[ai ⟨T,V⟩]).1⟩

def uM(n:Nat)(W:aI)(β:Bool)(c:1<=n)(m:n<=8)(l:∀i j,i<n->j<n->qN (W i j))(hβ:β=true↔det n W=1∨det n W=-1):PF 109 [az n n W] (.bool β):=by
 have a:∀i j,i<n->j<n->nb (W i j) 64:=fun i j d f=>by have:=l i j d f;unfold qN at this;unfold nb;omega
 refine iH func109 ntmps109 results109 ?_;simp -dsimp only[go_sem,aa];refine(oY n n W c om c om (fun i j d f=>by have o:=l i j d f;unfold qN at o;omega)).pf.call ?_
 simp -dsimp only[go_sem,aa,az,(om:¬((8:Int)<(n:Int)))]
 refine(Gz n (17*(64+10)) W c om om om (Qs om a)).call ?_;simp -dsimp only[go_sem];refine aF.intro fun bx fx=>?_
 try simp -dsimp only[go_sem]
 by_cases b:jk (det n W)
 .refine(t8 b).call ?_;by_cases e:det n W=1
  .rw[e,hβ.2 (bF e)];simp -dsimp only[go_sem,dp];exact VR.mf rfl
  by_cases g:det n W=-1
  .rw[g,hβ.2 (bH g)];simp -dsimp only[go_sem,dp];exact VR.mf rfl
  rw[cL hβ fun h=>by rcases h with h|h<;>contradiction]
  simp -dsimp only[go_sem,show(det n W==1)=false by simpa using e,show(det n W==-1)=false by simpa using g]
  exact VR.mf rfl
 .have k:nb (det n W) (17*(64+10)):=(oO n W om a).mono (by have:=aB (64+10) m;omega)
  refine(Nv k om b).call ?_;rw[cL hβ fun h=>by unfold jk at b;rcases h with h|h<;>rw[h]at b<;>omega]
  simp -dsimp only[go_sem,show((0:Int)==1)=false from rfl,show((0:Int)==-1)=false from rfl];exact VR.mf rfl
def ColR(S:St)(bb n i r:Nat)(W:aI):Prop:=∃(g:Nat->Nat) (x:AV),bM S bb 29 1 n (fun a=>if a<i then .sl 1 (g a) 0 n else if a=i then x else .nil) /\
 (∀a,a<i->qr S (g a) n (fun c=>W c a)/\¬eh x (g a))/\da 2 1 St.none S x r (fun c=>.int .i64 (W c i))/\¬eh x bb
def ColT(S:St)(bb n i:Nat)(W:aI):Prop:=∃g:Nat->Nat,bM S bb 29 1 n (fun a=>if a<i then .sl 1 (g a) 0 n else .nil)/\∀a,a<i->qr S (g a) n (fun c=>W c a)
def TH(n:Nat)(A W:aI):Prop:=(det n W=1∨det n W=-1)/\I0 n n A (fun i r=>W r i)
def yk(n:Nat)(A W:aI)(N:1<=n)(Y:n<=8)(hA:∀i j,i<n->j<n->-262144<A i j/\A i j<262144)(P:(∀i j,i<n->j<n->A i j=A j i)/\ti A n)(hW:∀i j,i<n->j<n->qN (W i j))(β:Bool)(hβ:β=true↔TH n A W) :
  cP 50 [az n n A,az n n W] St.none (xX n n A (fun i r=>W r i) β):=by
 have h5:=Y;obtain⟨βu,hβu⟩:=gR (det n W=1∨det n W=-1);obtain⟨βg,hβg⟩:=gR (I0 n n A (fun i r=>W r i));refine i9 func50 ntmps50 results50 ?_;simp -dsimp only[go_sem,aa,az,aY];refine(uM n W βu N om hW hβu).call ?_
 cases βu with
 | false =>
  simp -dsimp only[go_sem,aY];exact bH ⟨cL hβ fun h=>(by have:=hβu.2 h.1;cases this),rfl⟩
 | true =>
 have hu:=hβu.1 rfl;simp -dsimp only[go_sem,aY]
 repeat refine an ?_
 refine aF.intro fun bb fb=>?_
 try simp -dsimp only[go_sem]
 refine dI (fun O S=>∃i:Nat,i<=n/\O 0=az n n A/\O 1=az n n W/\O 6=.sl 1 bb 0 n/\O 24=.int .i64 n/\O 25=.int .i64 i/\ColT S bb n i W) (fun O S=>n-cj (O 25)) ?_ ?_
 .simp -dsimp only[go_sem,az];exact⟨0,om,rfl,fun _=>0,bM.here fun a b=>by simp,fun a b=>om⟩
 rintro Q1 m O S ⟨i,hi,D,o,p,f,k,E⟩;by_cases l:i<n
 .simp -dsimp only[go_sem,o,f,k,l,az];refine dI (fun O S=>∃r:Nat,r<=n/\O 0=az n n A/\O 1=az n n W/\O 6=.sl 1 bb 0 n/\O 7=.int .i64 i/\O 24=.int .i64 n/\O 25=.int .i64 i/\O 28=az n n W/\O 29=.int .i64 n/\O 30=.int .i64 r/\ColR S bb n i r W) (fun O S=>n-cj (O 30)) ?_ ?_
  .simp -dsimp only[go_sem,D,o,p,f,k,az];obtain⟨g,s,F⟩:=E;obtain⟨z,u,w⟩:=s;exact⟨0,om,rfl,g,.nil,⟨z,u,fun a b=>(w a b).trans (by by_cases e:a<i<;>simp[e])⟩,fun a b=>⟨F a b,by rintro⟨_,_,_,e⟩;cases e⟩,da.nil (fun _ _ h=>by cases h) _,by rintro⟨_,_,_,e⟩;cases e⟩
  clear D o p f k E;clear O S;rintro Q2 t O S ⟨r,hr,D,o,p,Z,f,k,v,y,B,g,x,s,F,Q,H⟩;by_cases I:r<n
  .obtain⟨g4,R,v4⟩:=id s;have x4:g4 i=x:=(v4 i l).trans sm
   simp -dsimp only[go_sem,v,y,B,I,az,aK];refine g9 11 kr ?_
   simp -dsimp only[go_sem,aa,p,Z,l,R,x4];clear m t;refine da.app rfl rfl rfl Q om (show eF 1 (.int .i64 (W r i))from by simp[eF]) (bF ⟨_,rfl,rfl⟩) ?_
   intro c S2 T J C;have u5:=J _ _ R H;simp -dsimp only[go_sem,aa,D,o,p,Z,f,k,v,y,B,l,u5,aP (om:r<1000000),cj]
   have K:c≠bb:=by
    rintro rfl;rcases C with h|h
    .exact H h
    .rw[R]at h;cases h
   refine⟨⟨r+1,om,rfl,rfl,rfl,rfl,g,.sl 1 c 0 (r+1),⟨_,cn,fun a b=>?_⟩,fun a b=>?_,?_,fun h=>K (ep.1 h).symm⟩,om⟩
   .by_cases e:a=i
    .simp[bW,e]
    .exact(af e).trans ((v4 a b).trans (by simp[e]))
   .obtain⟨U,r2⟩:=F a b;have V:g a≠bb:=fun h=>by have:=bM.ne U s dc;exact this h
    obtain⟨q,q1,q2⟩:=id U;refine⟨⟨q,(aO V).trans (J _ _ q1 r2),q2⟩,fun G=>?_⟩;rw[ep]at G;rw[<-G]at C;rcases C with h|h
    .exact r2 h
    .exact bM.fresh U h rfl
   .refine(T.keep (x:=.sl 1 bb 0 0) (fun _ _ h=>by cases h) (fun d X hX hd=>(aO (fun h=>hd (ep.2 h))).trans hX) (fun d N h2=>K ((ep.1 N).symm.trans (ep.1 h2)))).congr fun a b=>?_
    by_cases e:a=r
    .subst e;rw[ai rfl]
    .rw[af e]
  simp -dsimp only[go_sem,aa,v,y,B,I];rw[t];clear t;simp -dsimp only[go_sem,D,o,p,f,k,az,aP (om:i<1000000),cj]
  have L:r=n:=om
  rw[L]at Q;rcases Q.2 with⟨h0,_⟩|⟨c,_,rfl,E⟩
  .omega
  refine⟨⟨i+1,om,rfl,fun a=>if a=i then c else g a,?_,fun a b=>?_⟩,om⟩
  .obtain⟨z,u,w⟩:=s;refine⟨z,u,fun a b=>(w a b).trans ?_⟩;by_cases e:a=i
   .simp[e]
   .simp[e,(om:a<i+1↔a<i)]
  .by_cases e:a=i
   .subst e;simp only[aQ];exact E
   .simp only[e,aS];exact(F a om).1
 simp -dsimp only[go_sem,o,f,k,l];rw[m];simp -dsimp only[go_sem,aa,D,p];clear m;have M:i=n:=om
 rw[M]at E;obtain⟨g,s,F⟩:=E;refine(xX.lift (Gx n n A (fun a c=>W c a) N Y om hA P βg hβg) S _ (fI.two (VA.refl _ _) (VR.va (VR.sl (h:=fun a=>aK n (fun c=>W c a)) s om fun a b=>?_)))).mono ?_
 .rw[aD,ai b];exact(F a b).vr
 rintro _ S2 ⟨⟨G,b2,g2,rfl,hN⟩|⟨G,rfl⟩,_⟩
 .simp -dsimp only[go_sem];exact bF ⟨hβ.2 ⟨hu,hβg.1 G⟩,b2,g2,rfl,hN⟩
 .simp -dsimp only[go_sem];exact bH ⟨cL hβ fun h=>(by have:=hβg.2 h.2;rw[G]at this;cases this),rfl⟩

def LZ(n:Nat)(A:aI)(a:Nat)(b:1<=n)(c:n<=16)(d:∀i j,i<n->j<n->nb (A i j) a)(e:a<=10000000):PF 165 [aR n n A] (.tup [.big (det n A),.bool true]):=by
 refine iH func165 ntmps165 results165 ?_;simp -dsimp only[go_sem];refine aF.intro fun f g=>?_
 try simp -dsimp only[go_sem]
 refine(pj n A b c).call ?_;simp -dsimp only[go_sem,aa];refine(jA n A a b c d e).call ?_;simp only[go_sem,aa,bW];exact VR.tup (l:=[.big (det n A),.bool true]) (by simp[pI])
def uN(n:Nat)(A:aI)(b:Nat)(β:Bool)(g:1<=n)(c:n<=16)(f:∀i j,i<n->j<n->nb (A i j) b)(o:b<=100000)(hβ:β=true↔det n A=1∨det n A=-1):PF 105 [aR n n A] (.bool β):=by
 have l:nb (det n A) (16*(b+10)+1):=(oO n A c f).mono (by have:=aB (b+10) c;omega)
 refine iH func105 ntmps105 results105 ?_;simp -dsimp only[go_sem,aa];refine(LZ n A b g c f om).call ?_;simp -dsimp only[go_sem];refine aF.intro fun p q=>?_
 try simp -dsimp only[go_sem,bW]
 refine(tQ l om).call ?_;simp -dsimp only[go_sem,aa];refine(gJ (a:=1) om om).call ?_;simp -dsimp only[go_sem,aa];have d:nb ((det n A).natAbs:Int) (16*(b+10)+1):=by unfold nb at *;omega
 refine(ni d (nb.mono (k:=1) (by unfold nb;omega) om) om).call ?_
 by_cases e:((det n A).natAbs:Int)=1
 .rw[e,rV,hβ.2 om];simp only[go_sem,dp];exact VR.mf rfl
 .have m:(lG ((det n A).natAbs:Int) 1==0)=false:=by
   have:=DZ e;simpa using this
  rw[cL hβ fun h=>om]
  simp only[go_sem,m];exact VR.mf rfl
def Ew(n m:Nat)(A B:aI)(k:Nat)(β:Bool)(y:1<=n)(z:n<=16)(C:1<=m)(D:m<=16)(F:∀i j,i<n->j<m->nb (A i j) k)(G:∀i j,i<n->j<m->nb (B i j) k)(H:k<=10000000)(hβ:β=true↔∀i j,i<n->j<m->A i j=B i j):PF 106 [aR n m A,aR n m B] (.bool β):=by
 refine iH func106 ntmps106 results106 ?_;simp -dsimp only[go_sem,aa];refine(mE n m A y z C D).call ?_;simp -dsimp only[go_sem,aa];refine(mE n m B y z C D).call ?_;simp only[go_sem,aY];refine dI (fun O S=>∃i:Nat,i<=n/\(∀a j,a<i->j<m->A a j=B a j)/\O 0=aR n m A/\O 1=aR n m B/\O 42=.int .i64 n/\O 43=.int .i64 i) (fun O S=>n-cj (O 43)) ?_ ?_
 .simp only[go_sem,aR];exact⟨0,om,fun a j E=>om,rfl⟩
 rintro Q' q O S ⟨i,I,r,s,w,f,g⟩;by_cases c:i<n
 .simp only[go_sem,aR,bB,s,f,g,c];refine dI (fun O S=>∃j:Nat,j<=m/\(∀b,b<j->A i b=B i b)/\O 0=aR n m A/\O 1=aR n m B/\O 11=.int .i64 i/\O 42=.int .i64 n/\O 43=.int .i64 i/\O 50=.int .i64 m/\O 51=.int .i64 j) (fun O S=>m-cj (O 51)) ?_ ?_
  .simp only[*,go_sem,aR,bB];exact⟨0,om,fun b t=>om,rfl⟩
  clear s w f g;clear O S;rintro Q2 u O S ⟨j,J,l,s,w,x,f,g,o,p⟩;by_cases d:j<m
  .simp -dsimp only[go_sem,aR,bB,o,p,d];refine bE 16 kr ?_
   simp only[go_sem,aa,aR,bB,s,w,x,f,g,o,p,c,d];refine⟨_,(ni (F i j c d) (G i j c d) om).pure',?_⟩;by_cases v:A i j=B i j
   .rw[v,rV];simp only[go_sem,aY,aP (om:j<1000000),cj]
    refine⟨⟨j+1,om,fun b t=>?_,rfl⟩,om⟩
    by_cases e:b=j
    .rw[e];exact v
    .exact l b om
   .simp only[go_sem,DZ v];rw[u];simp only[go_sem];rw[q];simp only[go_sem];rw[cL hβ fun h=>v (h i j c d)];exact VR.mf rfl
  .simp only[go_sem,o,p,d];rw[u];simp only[*,go_sem,aP (om:i<1000000),cj]
   refine⟨⟨i+1,om,fun a b E t=>?_,rfl,rfl,rfl⟩,om⟩
   by_cases e:a=i
   .rw[e];exact l b om
   .exact r a b om t
 .simp only[go_sem,aa,s,f,g,c];rw[q];simp only[go_sem];rw[hβ.2 fun a b E t=>r a b om t];exact VR.mf rfl

def RZ(n:Nat)(c:Int)(A:aI)(k:Nat)(K:1<=n)(U:n<=8)(L:nb c k)(H:∀i j,i<n->j<n->nb (A i j) k)(V:k<=1000000000):MF 114 [.big c,aR n n A] n n (fun i j=>c*A i j):=by
 refine MF.of (i9 func114 ntmps114 results114 ?_);simp -dsimp only[go_sem,aa];refine aF.intro fun t W=>?_
 try simp -dsimp only[go_sem]
 refine(yT n n A k om K om H om _ _ (cS _ _)).mono ?_;rintro _ S1 ⟨b,g,rfl,p⟩;have q:ed S1 t 50 2 (.big c):=⟨_,p.2.1 t _ cn,rfl⟩;have C:∀i,i<n->g i≠t:=fun i I e=>by have:=p.2.2.2 i I;rw[e,cn]at this;cases this
 have m:=p.1;clear p;simp only[go_sem];refine dI (fun O S=>∃i:Nat,i<=n/\dH S b g n n (rd i A (fun i j=>c*A i j))/\ed S t 50 2 (.big c)/\O 2=.ptr 2 t 0/\O 5=.sl 1 b 0 n/\O 11=.int .i64 n/\O 12=.int .i64 i) (fun O S=>n-cj (O 12)) ?_ ?_
 .simp only[go_sem];exact⟨0,om,by rw[mG];exact m,q,rfl⟩
 clear m q;rintro Q1 D O S ⟨i,I,m,q,r,s,h,l⟩;by_cases f:i<n
 .obtain⟨E,x,y⟩:=m.outer;have B:E i=.sl 2 (g i) 0 n:=y i f;simp only[go_sem,aa,s,h,l,f,x,B];refine dI (fun O S=>∃j:Nat,j<=n/\dH S b g n n (fun a d=>if a=i then(if d<j then c*A a d else A a d)else rd i A (fun i j=>c*A i j) a d)/\ed S t 50 2 (.big c)/\O 2=.ptr 2 t 0/\O 5=.sl 1 b 0 n/\O 6=.int .i64 i/\O 11=.int .i64 n/\O 12=.int .i64 i/\O 19=.int .i64 n/\O 20=.int .i64 j) (fun O S=>n-cj (O 20)) ?_ ?_
  .simp only[go_sem,r,s,h,l];refine⟨0,om,m.congr fun a d _ _=>?_,q,rfl⟩
   by_cases e:a=i
   .subst e;simp[rd]
   .simp[e]
  clear r s h l m q x y B;clear O S;rintro Q2 F O S ⟨j,X,m,q,r,s,M,h,l,u,v⟩;by_cases o:j<n
  .obtain⟨E,x,y⟩:=m.outer;obtain⟨N,J,P⟩:=m.row i f;obtain⟨Y,Q,R⟩:=id q;have B:E i=.sl 2 (g i) 0 n:=y i f;have T:N j=.big (A i j):=(P j o).trans sm
   simp -dsimp only[go_sem,u,v,o];refine bE 14 kr ?_
   simp only[go_sem,aa,r,s,M,h,l,u,v,f,o,x,B,J,T,Q,R];refine⟨_,(ja L (H i j f o) om).pure',?_⟩;simp only[go_sem,aP (om:j<1000000),cj]
   refine⟨⟨j+1,om,(m.set (j:=j) (z:=c*A i j) f J).congr fun a d _ _=>?_,q.upd (aj (C i f)) _,rfl⟩,om⟩
   simp only[fu];by_cases e:a=i
   .subst e;by_cases r:d=j
    .subst r;simp
    .simp only[r,UY,aS,aQ];by_cases w:d<j
     .rw[ai w,ai om]
     .rw[af w,af om]
   .simp[e]
  .simp only[go_sem,u,v,o];rw[F];simp only[go_sem,r,s,h,l,aP (om:i<1000000),cj]
   refine⟨⟨i+1,om,m.congr fun a d _ Z=>?_,q,rfl⟩,om⟩
   by_cases e:a=i
   .subst e;simp[rd];omega
   .simp only[e,aS,rd];by_cases w:a<i
    .rw[ai w,ai om]
    .rw[af w,af om]
 .have G:i=n:=om
  rw[G]at m;simp only[go_sem,aa,s,h,l,f];rw[D];simp only[go_sem,s];exact⟨b,rfl,g,oq m⟩
def BP(n:Nat)(R W Q:aI)(β:Bool)(c:1<=n)(A:n<=8)(q:∀i j,i<n->j<n->qN (R i j))(r:∀i j,i<n->j<n->qN (W i j))(s:∀i j,i<n->j<n->qN (Q i j))
  (hβ:β=true↔(det n W=1∨det n W=-1)/\∀i j,i<n->j<n->mm n (fun i j=>W j i) (mm n R W) i j=Q i j):PF 47 [az n n R,az n n W,az n n Q] (.bool β):=by
 have l:∀z,qN z->nb z 64:=fun z h=>by unfold qN at h;unfold nb;omega
 have m:∀i j,i<n->j<n->nb (R i j) 64:=fun i j d f=>l _ (q i j d f);have g:∀i j,i<n->j<n->nb (W i j) 64:=fun i j d f=>l _ (r i j d f);have o:∀i j,i<n->j<n->nb (Q i j) 64:=fun i j d f=>l _ (s i j d f);have t:∀i j,i<n->j<n->nb (kg n R W i j) 300:=fun i j d f=>(yz om m g d f).mono om;have v:∀i j,i<n->j<n->nb (kg n (fun i j=>W j i) (kg n R W) i j) 1000:=fun i j d f=>(yz (k:=300) (H:=fun i j=>W j i) om (fun a b w x=>(g b a x w).mono om) t d f).mono om;obtain⟨βu,hβu⟩:=gR (det n W=1∨det n W=-1);obtain⟨βe,hβe⟩:=gR (∀i j,i<n->j<n->kg n (fun i j=>W j i) (kg n R W) i j=Q i j);refine iH func47 ntmps47 results47 ?_;simp -dsimp only[go_sem,aa];refine(uT n n W c om c om r).call ?_;simp -dsimp only[go_sem,aa];refine(nr n n W 64 c om c om g om).pf.call ?_;simp -dsimp only[go_sem,aa];refine(uN n W 64 βu c om g om hβu).call ?_
 cases βu with
 | false =>
  simp only[go_sem];rw[cL hβ fun h=>by have:=hβu.2 h.1;cases this]
  exact VR.mf rfl
 | true =>
 have y:=hβu.1 rfl;simp -dsimp only[go_sem,aa];refine(uT n n R c om c om q).call ?_;simp -dsimp only[go_sem,aa];refine(ku n n n R W 64 c om c om c om m g om).pf.call ?_;simp -dsimp only[go_sem,aa];refine(ku n n n (fun i j=>W j i) (kg n R W) 300 c om c om c om (fun i j d f=>(g j i f d).mono om) t om).pf.call ?_;simp -dsimp only[go_sem,aa];refine(uT n n Q c om c om s).call ?_;simp -dsimp only[go_sem,aa];refine(Ew n n _ Q 1000 βe c om c om v (fun i j d f=>(o i j d f).mono om) om hβe).call ?_;simp only[go_sem];have p:βe=β:=by
  cases βe with
  | true=>exact(hβ.2 ⟨y,hβe.1 rfl⟩).symm
  | false=>exact(cL hβ fun h=>by have:=hβe.2 h.2;cases this).symm
 rw[p];exact VR.mf rfl

def wh(a:∀i j,i<n->j<n->A i j=A j i)(i j:Nat):pu n A (fun i r=>W r i) i j=lv n A (fun r=>W r i) (fun r=>W r j):=by
 rw[j9 a];unfold pu lv;exact aE fun k _=>cX _ _
def Cv(a:∀i j,i<n->j<n->A i j=A j i)(i j:Nat):sD n A (fun i r=>W r i) i j=lv n A (fun r=>W r i) (fun r=>W r j):=by
 unfold sD;split
 .exact wh a i j
 .rw[wh a,j9 a]
def F8(i j:Nat):mm n (fun i j=>W j i) (mm n A W) i j=lv n A (fun r=>W r i) (fun r=>W r j):=by
 rw[<-nU,yI]
def Cry(n:Nat)(R W Q:aI):Prop:=(det n W=1∨det n W=-1)/\∀i j,i<n->j<n->mm n (fun i j=>W j i) (mm n R W) i j=Q i j
def Lo{R Q:aI}(h:n<=8)(c:(∀i j,i<n->j<n->R i j=R j i)/\ti R n)(l:∀i j,i<n->j<n->(Q i j).natAbs<=1120325651456000) :
  (TH n R W/\∀i j,i<n->j<n->sD n R (fun i r=>W r i) i j=Q i j)↔Cry n R W Q:=by
 have d:=c.1;constructor
 .rintro⟨⟨e,_⟩,f⟩;exact⟨e,fun i j a b=>by rw[F8,<-Cv d,f i j a b]⟩
 .rintro⟨e,f⟩;have g:∀i j,i<n->j<n->lv n R (fun r=>W r i) (fun r=>W r j)=Q i j:=fun i j a b=>by rw[<-F8,f i j a b]
  refine⟨⟨e,fun i k a m=>?_,fun i j a b=>?_⟩,fun i j a b=>by rw[Cv d,g i j a b]⟩
  .exact(c.2.red d h).coord8 h (x:=fun r=>W r i) (by rw[g i i a a];have:=l i i a a;omega) m
  .rw[wh d,g i j a om];have:=l i j a om;omega
def MQ{P:AV->Int->AV->Prop}(third:∀h p v v',P h p v->(∀w M u,bs w M v' u->bs w M v u)->P h p v')
  (bad:∀h v p c,c≠0->BS 121 [h,.int .i64 p,v] c->PF 33 [h,.int .i64 p,v] (.tup [.nil,.int .i64 c])->P h p v)
  (good:∀(n p:Nat) (H:aI) (v:Nat->Nat),gk n H->lp (det n H) p->sH p->lX n p H v->P (az n n H) p (aK n (fun k=>v k)))
  {n l:Nat} {H:aI} {p:Int} {v:Nat->Int} (e:1<=n) (d:n<=8) (o:∀i j,i<n->j<n->-9223372036854775808<=H i j/\H i j<=9223372036854775807):P (az n n H) p (aK l v):=by
 have f:=fun S r=>CF S n H p e d r;have g:=AE n p H e d o;by_cases b:qw n H p=0
 .obtain⟨s,t,x⟩:=K6 b;obtain⟨q,rfl,a⟩:=t.nat;rw[b]at f g;by_cases m:l=n/\AW n q H v
  .obtain⟨rfl,y⟩:=m;obtain⟨z,A⟩:=y.nat;exact third _ _ _ _ (good _ _ _ _ s ⟨a.2.1,a.odd,a.1,x⟩ a z) fun w M u B=>bs.lst_congr (fun i C=>by rw[A i C]) B
  .refine bad _ _ _ 26 dc (LT f (Ie n l q H v false e d (by have:=a.2.1;omega) a.2.2 ?_)) (Gu g (zK n l q H v false d (by have:=a.2.1;omega) (by have:=a.2.2;omega) ?_))
   .exact⟨(fun h=>by cases h),fun h=>absurd h m⟩
   .exact⟨(fun h=>by cases h),fun h=>absurd h m⟩
 .exact bad _ _ _ _ b (CT b f) (xU b g)
def Pr{P:AV->Int->AV->Prop}(third:∀h p v v',P h p v->(∀w M u,bs w M v' u->bs w M v u)->P h p v')(first:∀h p v h',P h p v->(∀w M u,bs w M h' u->bs w M h u)->P h' p v)
  (bad:∀h v p c,c≠0->BS 121 [h,.int .i64 p,v] c->PF 33 [h,.int .i64 p,v] (.tup [.nil,.int .i64 c])->P h p v)
  (good:∀(n p:Nat) (H:aI) (v:Nat->Nat),gk n H->lp (det n H) p->sH p->lX n p H v->P (az n n H) p (aK n (fun k=>v k)))
  {m l:Nat} {len:Nat->Nat} {A:aI} {p:Int} {v:Nat->Int} (d:m<=12) (f:∀i,i<m->len i<=12) (e:∀i j,i<m->j<len i->qN (A i j)):P (jb m len A) p (aK l v):=by
 by_cases h:TK m len
 .obtain⟨g,o,a⟩:=h;exact first _ _ _ _ (MQ third bad good (n:=m) (l:=l) (H:=A) (p:=p) (v:=v) g o fun i j b q=>e i j b (by rw[a i b];exact q)) fun w M u r=>bs.lst_congr (fun i b=>by rw[a i b]) r
 .exact bad _ _ _ 6 dc (CT dc fun S s=>Lm m len A p d h S s) (xU dc (Ix m len A p d f h e))
def BH.congr(h:BH f l z)(a:∀w M vs,aT w M l' vs->aT w M l vs):BH f l' z:=fun S b w vs c d=>h S b w vs c (a _ _ _ d)
def oc(h:AV)(p:Int)(v:AV):Prop:=(∃c:Int,c≠0/\BH 25 [h,.int .i64 p,v] (.tup [.nil,.int .i64 c])/\BH 15 [h,.int .i64 p,v] (.tup [.nil,.int .i64 c])) ∨
 ∃(n:Nat) (Q:aI) (H:aI),1<=n/\n<=8/\(∀w M u,bs w M h u->bs w M (az n n H) u)/\(∀i j,i<n->j<n->(Q i j).natAbs<=1120325651456000)/\BH 25 [az n n H,.int .i64 p,v] (.tup [az n n Q,.int .i64 0])/\BH 15 [az n n H,.int .i64 p,v] (.tup [az n n Q,.int .i64 0])
def oc.first(h:AV)(p:Int)(v h':AV)(a:oc h p v)(b:∀w M u,bs w M h' u->bs w M h u):oc h' p v:=by
 rcases a with⟨c,a,d,e⟩|⟨n,Q,H,f,g,i,j,d,e⟩
 .exact bF ⟨c,a,d.congr fun w M vs=>aT.first3 (b _ _),e.congr fun w M vs=>aT.first3 (b _ _)⟩
 .exact bH ⟨n,Q,H,f,g,fun w M u k=>i w M u (b w M u k),j,d,e⟩
def oc.third(h:AV)(p:Int)(v v':AV)(b:oc h p v)(a:∀w M u,bs w M v' u->bs w M v u):oc h p v':=by
 rcases b with⟨c,b,d,e⟩|⟨n,Q,H,f,g,i,j,d,e⟩
 .exact bF ⟨c,b,d.congr fun w M vs=>aT.third (a _ _),e.congr fun w M vs=>aT.third (a _ _)⟩
 .exact bH ⟨n,Q,H,f,g,i,j,d.congr fun w M vs=>aT.third (a _ _),e.congr fun w M vs=>aT.third (a _ _)⟩
def CX(h v:AV)(p c:Int)(a:c≠0)(b:BS 121 [h,.int .i64 p,v] c)(d:PF 33 [h,.int .i64 p,v] (.tup [.nil,.int .i64 c])):oc h p v :=
 bF ⟨c,a,Ot a (Ls a b),(I1 a (GD a d)).ge⟩
def AZ(n p:Nat)(H:aI)(v:Nat->Nat)(a:gk n H)(q:lp (det n H) p)(c:sH p)(s:lX n p H v):oc (az n n H) p (aK n (fun k=>v k)):=by
 by_cases d:∃B,EJ n p H v B
 .obtain⟨B0,t⟩:=d;have frz:∀(f:Nat) (Z:aI),(∀S,lL S->cP f [az n n H,.int .i64 p,aK n (fun k=>v k)] S (fun r S'=>∃b g B S1,r=.tup [.sl 1 b 0 n,.int .i64 0]/\ft S S1/\jd S1 S' b g n n B/\∀i j,i<n->j<n->B i j=Z i j))->BH f [az n n H,.int .i64 p,aK n (fun k=>v k)] (.tup [az n n Z,.int .i64 0]):=fun f Z h S l =>
   (jd.freeze (P:=fun r=>r=.tup [az n n Z,.int .i64 0]) ((h S l).mono fun r S' ⟨b,g,B,S1,e,m,o,u⟩=>⟨b,g,n,Z,S1,e,m,o.congr u,rfl⟩)).mono fun r S' ⟨e,w⟩=>⟨e,by rw[w];exact ft.refl S⟩
  refine bH ⟨n,EH n p H B0,H,a.one,a.eight,fun _ _ _ x=>x,fun i j y z=>t.gent a c y z,frz 25 _ fun S l=>?_,frz 15 _ fun S l=>?_⟩
  .exact(xY S n p H v a q c s l).mono fun r S' ⟨b,g,B,S1,e,d,m,o⟩=>⟨b,g,_,S1,e,m,o,fun i j _ _=>by rw[Cr ((d.nbB c).uniq a c t)]⟩
  .exact(xZ S n p H v a q c s).mono fun r S' ⟨b,g,B,S1,e,d,m,o⟩=>⟨b,g,_,S1,e,m,o,fun i j _ _=>by rw[Cr (d.uniq a c t)]⟩
 .refine bF ⟨1,by decide,fun S l=>?_,fun S l=>?_⟩
  .exact(xY S n p H v a q c s l).mono fun r S' ⟨b,g,B,S1,e,h,m,o⟩=>absurd ⟨B,h.nbB c⟩ d
  .exact(xZ S n p H v a q c s).mono fun r S' ⟨b,g,B,S1,e,h,m,o⟩=>absurd ⟨B,h⟩ d

def wF(h:AV)(p:Int)(v g w:AV):Prop:=∃z:Int,BH 17 [h,.int .i64 p,v,g,w] (.int .i64 z)/\BH 16 [h,.int .i64 p,v,g,w] (.int .i64 z)
def QV{c:Int}(d:c≠0)(f:BH 25 [h,.int .i64 p,v] (.tup [.nil,.int .i64 c]))(i:BH 15 [h,.int .i64 p,v] (.tup [.nil,.int .i64 c]))(g w:AV):wF h p v g w:=by
 have e:(c != 0)=true:=by simpa using d
 refine⟨c,fun S a=>?_,fun S a=>?_⟩
 .refine i9 AQ ntmps17 results17 ?_;simp -dsimp only[go_sem,aa];refine(f S a).mono ?_;rintro _ S1 ⟨rfl,b⟩;simp -dsimp only[go_sem,aa,e];exact b
 .refine i9 func16 ntmps16 results16 ?_;simp -dsimp only[go_sem,aa];refine(i S a).mono ?_;rintro _ S1 ⟨rfl,b⟩;simp -dsimp only[go_sem,aa,e];exact b
def RS(e:BH 25 [h,.int .i64 p,v] (.tup [x,.int .i64 0]))(f:BH 15 [h,.int .i64 p,v] (.tup [x,.int .i64 0])){g:AV}(a:PF 48 [g] (.bool false))(b:PF 21 [g] (.bool false))(w:AV):wF h p v g w:=by
 refine⟨6,fun S c=>?_,fun S c=>?_⟩
 .refine i9 AQ ntmps17 results17 ?_;simp -dsimp only[go_sem,aa];refine(e S c).mono ?_;rintro _ S1 ⟨rfl,d⟩;simp -dsimp only[go_sem,aa,aY];refine a.call ?_;simp -dsimp only[go_sem,aa];exact d
 .refine i9 func16 ntmps16 results16 ?_;simp -dsimp only[go_sem,aa];refine(f S c).mono ?_;rintro _ S1 ⟨rfl,d⟩;simp -dsimp only[go_sem,aa,aY];refine b.call ?_;simp -dsimp only[go_sem,aa];exact d
def QU(f:BH 25 [az n n H,.int .i64 p,v] (.tup [x,.int .i64 0]))(g:BH 15 [az n n H,.int .i64 p,v] (.tup [x,.int .i64 0]))(a:PF 48 [az m m G] (.bool true))(b:PF 21 [az m m G] (.bool true))(h:m≠n)(w:AV):wF (az n n H) p v (az m m G) w:=by
 have e:((m:Int) != (n:Int))=true:=by simp;omega
 refine⟨3,fun S c=>?_,fun S c=>?_⟩
 .refine i9 AQ ntmps17 results17 ?_;simp -dsimp only[go_sem,aa];refine(f S c).mono ?_;rintro _ S1 ⟨rfl,d⟩;simp -dsimp only[go_sem,aa,aY];refine a.call ?_;simp -dsimp only[go_sem,aa,az,e];exact d
 .refine i9 func16 ntmps16 results16 ?_;simp -dsimp only[go_sem,aa];refine(g S c).mono ?_;rintro _ S1 ⟨rfl,d⟩;simp -dsimp only[go_sem,aa,aY];refine b.call ?_;simp -dsimp only[go_sem,aa,az,e];exact d
def Vfy_w{w:AV}(g:BH 25 [az n n H,.int .i64 p,v] (.tup [x,.int .i64 0]))(h:BH 15 [az n n H,.int .i64 p,v] (.tup [x,.int .i64 0]))(a:PF 48 [az n n G] (.bool true))(b:PF 21 [az n n G] (.bool true))(c:PF 49 [w,.int .i64 n] (.bool false))(d:PF 22 [w,.int .i64 n] (.bool false)):wF (az n n H) p v (az n n G) w:=by
 refine⟨3,fun S e=>?_,fun S e=>?_⟩
 .refine i9 AQ ntmps17 results17 ?_;simp -dsimp only[go_sem,aa];refine(g S e).mono ?_;rintro _ S1 ⟨rfl,f⟩;simp -dsimp only[go_sem,aa,aY];refine a.call ?_;simp -dsimp only[go_sem,aa,az,aY];refine c.call ?_;simp -dsimp only[go_sem,aa];exact f
 .refine i9 func16 ntmps16 results16 ?_;simp -dsimp only[go_sem,aa];refine(h S e).mono ?_;rintro _ S1 ⟨rfl,f⟩;simp -dsimp only[go_sem,aa,aY];refine b.call ?_;simp -dsimp only[go_sem,aa,az,aY];refine d.call ?_;simp -dsimp only[go_sem,aa];exact f
def TG{Q:aI}(y:1<=n)(d:n<=8)(C:BH 25 [az n n H,.int .i64 p,v] (.tup [az n n Q,.int .i64 0]))(D:BH 15 [az n n H,.int .i64 p,v] (.tup [az n n Q,.int .i64 0]))(z:∀i j,i<n->j<n->(Q i j).natAbs<=1120325651456000)(g:PF 48 [az n n G] (.bool true))(k:PF 21 [az n n G] (.bool true))
  (l:∀i j,i<n->j<n->qN (G i j)) (f:(∀i j,i<n->j<n->G i j=G j i)/\ti G n) (A:∀i j,i<n->j<n->qN (W i j)):wF (az n n H) p v (az n n G) (az n n W):=by
 obtain⟨β,hβ⟩:=gR (Cry n G W Q);have B:=fun(m:Nat) (h:m=n)=>(show true=true↔m=n/\∀i,i<m->n=n from⟨fun _=>⟨h,fun _ _=>rfl⟩,fun _=>rfl⟩);have o:∀i j,i<n->j<n->-262144<G i j/\G i j<262144:=fun i j q s=>by have:=(f.2.red f.1 d).entry d q s;omega
 refine⟨if β then 0 else 10,fun S u=>?_,fun S u=>?_⟩
 .refine i9 AQ ntmps17 results17 ?_;simp -dsimp only[go_sem,aa];refine(C S u).mono ?_;rintro _ S1 ⟨rfl,c⟩;simp -dsimp only[go_sem,aa,aY];refine g.call ?_;simp -dsimp only[go_sem,aa,az,aY];refine(tJ n n (fun _=>n) W true om (B n rfl)).call ?_;simp -dsimp only[go_sem,aa];obtain⟨βt,hβt⟩:=gR (TH n G W);obtain⟨βe,hβe⟩:=gR (∀i j,i<n->j<n->sD n G (fun i r=>W r i) i j=Q i j);have a:=Lo (W:=W) d f z;refine(xX.lift (yk n G W y d o f A βt hβt) S1 _ (cS _ _)).mono ?_;rintro _ S2 ⟨⟨w,F,I,rfl,E⟩|⟨w,rfl⟩,b⟩
  .simp -dsimp only[go_sem,aa];refine(ym n n _ Q βe om om hβe).spec (fI.three E.vr.va (VA.refl _ _) (VA.refl _ _)) ?_
   cases βe with
   | false =>
    rw[show β=false from cL hβ fun x=>by have:=hβe.2 (a.2 x).2;cases this]
    simp -dsimp only[go_sem];exact c.trans b
   | true =>
    rw[show β=true from hβ.2 (a.1 ⟨hβt.1 w,hβe.1 rfl⟩)];simp -dsimp only[go_sem];exact c.trans b
  .rw[show β=false from cL hβ fun x=>by have:=hβt.2 (a.2 x).1;rw[w]at this;cases this]
   simp -dsimp only[go_sem];exact c.trans b
 .refine i9 func16 ntmps16 results16 ?_;simp -dsimp only[go_sem,aa];refine(D S u).mono ?_;rintro _ S1 ⟨rfl,c⟩;simp -dsimp only[go_sem,aa,aY];refine k.call ?_;simp -dsimp only[go_sem,aa,az,aY];refine(uO n n (fun _=>n) W true om (B n rfl)).call ?_;simp -dsimp only[go_sem,aa];refine(BP n G W Q β y d l A (fun i j q s=>by have:=z i j q s;unfold qN;omega) hβ).call ?_
  cases β with
  | false =>
   simp -dsimp only[go_sem];exact c
  | true =>
   simp -dsimp only[go_sem];exact c

def H8(S0:St)(M d k L:Nat)(nums:Nat->Int)(Lb:Nat)(base:Nat->AV)(q t:Nat)(s:1<=M)(x:M<=5)(o:d<256)(j:k<256)(F:q<256)(G:t<65536)(hnums:∀i,i<L->-128<=nums i/\nums i<=127) :
  cP 13 [Az d k L nums Lb base q t,.int .i64 M] S0 (fun r S'=>MadeD r/\S'=S0):=by
 refine cP.frz ((Nh S0 M d k L nums Lb base q t s x o j F G hnums).mono ?_);rintro r S' ⟨y,n,H,p,D,_,P,Q,I⟩;have o:∀k,S0.dom k->S'.dom k:=fun k j=>by
  unfold St.dom at j ⊢
  cases e:S0 k with
  | none=>exact absurd e j
  | some X=>rw[y k X e];simp
 rcases I with rfl|⟨c,v,rfl,J,K,R⟩
 .refine⟨_,fun w u E l=>?_,y,n,p,0,H,fun _=>0,false,D,rfl⟩;simp only[bs]at l;obtain⟨vs,m,f⟩:=l;simp only[bs];refine⟨vs,m,?_⟩
  match vs,f with
  | [a,b,c,d],f =>
   simp only[aT]at f ⊢;obtain⟨z,A,B,C,_⟩:=f;exact⟨bs.turn (fun k _ j=>o k j) _ _ z,by simpa [bs]using A,PE (by simpa [bs]using B),by simpa [bs]using C,trivial⟩
 .refine⟨_,fun w u E l=>?_,y,n,p,n,H,fun k=>v k,true,D,rfl⟩;have N:qr (fun b=>if b=c then S' b else none) c n (fun k=>v k):=by
   obtain⟨g,m,f⟩:=J;exact⟨g,by dsimp only;rw[ai rfl];exact m,f⟩
  have O:=N.vr.frz (S:=S0) (S':=S') (fun b X h=>by
   split at h
   .exact h
   .cases h) (fun b h=>by
   split at h
   .rename_i e;rw[e];exact K
   .exact absurd rfl h)
  simp only[bs]at l;obtain⟨vs,m,f⟩:=l;simp only[bs];refine⟨vs,m,?_⟩
  match vs,f with
  | [a,b,c',d],f =>
   simp only[aT]at f ⊢;obtain⟨z,A,B,C,_⟩:=f;exact⟨bs.turn (fun k _ j=>o k j) _ _ z,by simpa [bs]using A,O w c' E B,by simpa [bs]using C,trivial⟩
def aT.step{a b:AV}(h:∀u,bs w M a u->bs w M b u)(d:∀vs,aT w M l vs->aT w M l' vs)(vs:List Value)(c:aT w M (a::l) vs):aT w M (b::l') vs:=by
 match vs,c with
 | u::us,c =>
  simp only[aT]at c ⊢;exact⟨h u c.1,d us c.2⟩
 | [],c=>simp[aT]at c
def wF.congr{h' g g' w w':AV}(a:wF h p v g w)(b:∀w M u,bs w M h' u->bs w M h u)(c:∀w M u,bs w M g' u->bs w M g u)(d:∀W M u,bs W M w' u->bs W M w u):wF h' p v g' w':=by
 obtain⟨z,e,f⟩:=a;have k:∀W M vs,aT W M [h',.int .i64 p,v,g',w'] vs->aT W M [h,.int .i64 p,v,g,w] vs:=fun W M=>aT.step (b W M) (aT.step (fun _ h=>h) (aT.step (fun _ h=>h) (aT.step (c W M) (aT.step (d W M) fun _ h=>h))));exact⟨z,e.congr k,f.congr k⟩
def Od(o:oc h p v){mg mw:Nat}{lg lw:Nat->Nat}{G W:aI}(l:mg<=12)(q:∀i,i<mg->lg i<=12)(y:∀i j,i<mg->j<lg i->qN (G i j))(D:mw<=12)(E:∀i j,i<mw->j<lw i->qN (W i j)):wF h p v (jb mg lg G) (jb mw lw W):=by
 rcases o with⟨c,o,f,k⟩|⟨n,Q,H,F,I,J,K,f,k⟩
 .exact QV o f k _ _
 refine wF.congr (h:=az n n H) ?_ J (fun _ _ _ h=>h) (fun _ _ _ h=>h);by_cases r:TK mg lg
 case neg=>exact RS f k (qC mg lg G l r) (qE mg lg G l q r y) _
 obtain⟨z,A,B⟩:=r;refine wF.congr (g:=az mg mg G) ?_ (fun _ _ _ h=>h) (fun _ _ _ s=>bs.lst_congr (fun i a=>by rw[B i a]) s) (fun _ _ _ h=>h)
 have m:∀i j,i<mg->j<mg->qN (G i j):=fun i j a t=>y i j a (by rw[B i a];exact t)
 obtain⟨β,hβ⟩:=gR ((∀i j,i<mg->j<mg->G i j=G j i)/\ti G mg);have b:=mZ mg G β z A hβ;have d:=qD mg G β z A m hβ
 cases β with
 | false=>exact RS f k b d _
 | true =>
 by_cases e:mg=n
 case neg=>exact QU f k b d e _
 subst e;obtain⟨γ,hγ⟩:=gR (mw=mg/\∀i,i<mw->lw i=mg);have u:=tJ mg mw lw W γ om hγ;have x:=uO mg mw lw W γ om hγ
 cases γ with
 | false=>exact Vfy_w f k b d u x
 | true =>
 obtain⟨rfl,C⟩:=hγ.1 rfl;refine wF.congr (w:=az mw mw W) ?_ (fun _ _ _ h=>h) (fun _ _ _ h=>h) (fun _ _ _ s=>bs.lst_congr (fun i a=>by rw[C i a]) s)
 exact TG F I f k K b d m (hβ.1 rfl) fun i j a t=>E i j a (by rw[C i a];exact t)
def KZ(e:∀S,lL S->cP 12 [] S (fun r S'=>r=.bool true/\ft S S'))(S0:St)(C:lL S0)(d k L:Nat)(nums:Nat->Int)(Lb:Nat)(base:Nat->AV)(q t:Nat)(D:d<256)(E:k<256)(F:q<256)(I:t<65536)(hnums:∀i,i<L->-128<=nums i/\nums i<=127)
  (m:Nat) (len:Nat->Nat) (A:aI) (mg:Nat) (lg:Nat->Nat) (G:aI) (mw:Nat) (lw:Nat->Nat) (W:aI) (p:Int) (l:Nat) (v:Nat->Int) (mk:Bool) (J:∀i j,i<m->j<len i->qN (A i j)) (s:∀i j,i<mg->j<lg i->qN (G i j)) (K:∀i j,i<mw->j<lw i->qN (W i j)) :
  cP 5 [Az d k L nums Lb base q t,jb m len A,jb mg lg G,jb mw lw W,.int .i64 p,aK l v,.bool mk] S0 (fun r S'=>r=.bool true/\ft S0 S'):=by
 refine i9 func5 ntmps5 results5 ?_;simp -dsimp only[go_sem,aa,Az,eA,bn,bS,cB,cM];refine aF.intro fun M N=>?_;have c:ft S0 (S0.upd M ⟨27,1,6,fun j=>[AV.int .u8 d,.int .u8 k,.lst 1 L (fun i=>.int .i8 (nums i)),.lst 1 Lb base,.int .u8 q,.int .u16 t].getD j .any⟩):=(ft.refl S0).upd N _;have b:=C.ext c;obtain⟨β1,hβ1⟩:=gR (12<m∨∃i,i<m/\12<len i);obtain⟨β2,hβ2⟩:=gR (12<mg∨∃i,i<mg/\12<lg i);obtain⟨β3,hβ3⟩:=gR (12<mw∨∃i,i<mw/\12<lw i);refine(Ab m len A β1 hβ1).call ?_
 cases β1 with
 | true =>
  simp -dsimp only[go_sem,aa,jb,aK];refine(e _ b).mono ?_;rintro _ S2 ⟨rfl,a⟩;simp -dsimp only[go_sem];exact c.trans a
 | false =>
 simp -dsimp only[go_sem,aa];refine(Ab mg lg G β2 hβ2).call ?_
 cases β2 with
 | true =>
  simp -dsimp only[go_sem,aa,jb,aK];refine(e _ b).mono ?_;rintro _ S2 ⟨rfl,a⟩;simp -dsimp only[go_sem];exact c.trans a
 | false =>
 simp -dsimp only[go_sem,aa];refine(Ab mw lw W β3 hβ3).call ?_
 cases β3 with
 | true =>
  simp -dsimp only[go_sem,aa,jb,aK];refine(e _ b).mono ?_;rintro _ S2 ⟨rfl,a⟩;simp -dsimp only[go_sem];exact c.trans a
 | false =>
 have nl:∀{m:Nat} {len:Nat->Nat},(false=true↔12<m∨∃i,i<m/\12<len i)->m<=12/\∀i,i<m->len i<=12:=fun {m len} h=>by
  have h':¬(12<m∨∃i,i<m/\12<len i):=fun O=>by have:=h.2 O;cases this
  refine⟨om,fun i u=>?_⟩
  rcases aC 12 (len i)with o|o
  .exact absurd (bH ⟨i,u,o⟩) h'
  .exact o
 by_cases o:12<l
 .simp -dsimp only[go_sem,aa,aK,show(12:Int)<(l:Int) by omega]
  refine(e _ b).mono ?_;rintro _ S2 ⟨rfl,a⟩;simp -dsimp only[go_sem];exact c.trans a
 have vR:∀{h v:AV} {p:Int},oc h p v->wF h p v (jb mg lg G) (jb mw lw W):=fun h=>Od h (nl hβ2).1 (nl hβ2).2 s (nl hβ3).1 K;simp -dsimp only[go_sem,aa,aK,(om:¬(12:Int)<(l:Int))]
 cases mk
 case' false =>
  simp -dsimp only[go_sem,aa];obtain⟨z,w,B⟩:=vR (Pr (P:=oc) oc.third oc.first CX AZ (l:=l) (p:=p) (v:=v) (nl hβ1).1 (nl hβ1).2 J)
  refine(w _ b).mono ?_
 case' true =>
  simp -dsimp only[go_sem,aa,eA,bO,bG];refine(H8 _ 3 d k L nums Lb base q t om om D E F I hnums).mono ?_;rintro _ _ ⟨⟨n,p,l,H,v,ok,x,rfl⟩,rfl⟩;obtain⟨z,w,B⟩:=vR (MQ (P:=oc) oc.third CX AZ (n:=n) (l:=l) (H:=H) (p:=p) (v:=v) x.one x.eight fun i j u Q=>by have:=x.ent i j u Q;omega)
  simp -dsimp only[go_sem,aa];refine(w _ b).mono ?_
 all_goals
  rintro _ S2 ⟨rfl,a⟩;have f:=b.ext a;simp -dsimp only[go_sem,aa];refine(B _ f).mono ?_;rintro _ S3 ⟨rfl,g⟩;simp -dsimp only[go_sem,aa,dp];refine(e _ (f.ext g)).mono ?_;rintro _ S6 ⟨rfl,y⟩;simp -dsimp only[go_sem,dp];exact((c.trans a).trans g).trans y

end Go.Proofs.YtdobfmlmenaajaaGreatDoor
