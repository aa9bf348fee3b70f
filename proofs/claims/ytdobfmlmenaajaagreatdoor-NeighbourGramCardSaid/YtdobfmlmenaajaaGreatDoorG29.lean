/-
  Lemmas for NeighbourGram.
-/
import Derived.Test.YtdobfmlmenaajaaGreatDoorG28
namespace Go.Proofs.YtdobfmlmenaajaaGreatDoor
open Go.RowKit Tryz
open _root_.Option renaming none→ab
set_option maxHeartbeats 6400000
set_option maxRecDepth 4096
set_option linter.all false
attribute [local go_sem] Nat.reduceAdd Nat.reduceEqDiff Nat.reduceLeDiff Nat.reduceLT reduceCtorEq Int.ofNat_lt decide_true decide_false Int.zero_le_ofNat
attribute [local go_sem ↓] reduceIte
variable{post:AV->St->Prop}{Q:AX->Tm->St->Prop}{ops:Array Oper}{c:Code}{t z:Int}{pend:List (Nat×eE)}{args:List AV}{l:List Oper}{R b d f i k n p:Nat}{g0:Nat->AV}{q x:Nat->Int}{v:Nat->Nat}{S:St}{O:Tm}{K:Tm->List (Nat×eE)->Prop}{A B B' H M:aJ}
def JD:List AV:=[.int .i64 7,.int .i64 11,.int .i64 13,.int .i64 17,.int .i64 19,.int .i64 23,.int .i64 29,.int .i64 31]
def k8(_:St):Prop:=True
def k8.ext{S':St}(_:k8 S)(_:eQ S S'):k8 S':=trivial
def cE.s0(h:S 0=ab->cE f args S post):cE f args S post:=fun w vs a b=>h a.z w vs a b
def dvL:List Int:=[2,3,5]
def dvA:List AV:=[.int .i64 2,.int .i64 3,.int .i64 5]
def RB(a:i<3):dvA.getD i .any=.int .i64 (dvL.getD i 0)/\dvL.getD i 0≠0:=by
 rcases (om:i=0∨i=1∨i=2)with rfl|rfl|rfl<;>exact⟨rfl,by decide⟩
def Mj(a:i<3)(K:AV->Prop):Dh 238 (.agg [.int .i64 2,.int .i64 3,.int .i64 5]) (.int .i64 i) K=K (.int .i64 (dvL.getD i 0)):=by
 rw[<-(RB a).1];unfold Dh;apply propext;constructor
 .rintro (⟨h,_⟩|⟨_,_,_,h⟩)
  .exact absurd h dc
  .rwa [cj]at h
 .intro h;exact bO ⟨bM ⟨rfl,rfl⟩,by simp[eg],⟨om,by simp;omega⟩,by rwa [cj]⟩
def yP:List Nat:=[7,11,13,17,19,23,29,31,37]
def GC(a:i<8)(K:AV->Prop):Dh 239 (.agg JD) (.int .i64 i) K=K (.int .i64 ((yP.getD i 0:Nat):Int)):=by
 have e:JD.getD i .any=.int .i64 ((yP.getD i 0:Nat):Int):=by
  rcases (om:i=0∨i=1∨i=2∨i=3∨i=4∨i=5∨i=6∨i=7)with rfl|rfl|rfl|rfl|rfl|rfl|rfl|rfl<;>rfl
 rw[<-e];unfold Dh;apply propext;constructor
 .rintro (⟨h,_⟩|⟨_,_,_,h⟩)
  .exact absurd h dc
  .rwa [cj]at h
 .intro h;exact bO ⟨bO ⟨rfl,rfl⟩,by simp[eg,JD],⟨om,by simp[JD];omega⟩,by rwa [cj]⟩
def Ok:(uP.map fun z=>AV.int .i64 z)=JD:=rfl
def dvN:List Nat:=[2,3,5]
def prm5(h:d=2∨d=3∨d=5):sA d:=⟨om,fun e b c=>by
 rcases aA e 3 with a|a
 .obtain rfl:e=2:=om
  omega
 .have:=bs a a;omega⟩
def IG(b:2<=d)(h:p%d=0):d=p∨¬sA p:=by
 rcases io (sA p)with a|a
 .rcases a.div (Nat.dvd_of_mod_eq_zero h)with e|e
  .omega
  .exact bM e
 .exact bO a
def Ol:∀i,i<8->7<=yP.getD i 0/\yP.getD i 0<=31/\∀x,x<37->yP.getD i 0<x->x<yP.getD (i+1) 0->x%2=0∨x%3=0∨x%5=0:=by decide
def Gp{e:Nat}(h:¬p%d=0)(a:e%d=0):¬p%e=0:=fun b=>h (Nat.mod_eq_zero_of_dvd (Nat.dvd_trans (Nat.dvd_of_mod_eq_zero a) (Nat.dvd_of_mod_eq_zero b)))
def LstQ(p:Nat)(r:AV):Prop:=∃d:Nat,r=.int .i64 d/\(d=p↔sA p)
def JJ(S:St)(p:Nat)(R:2<=p)(T:p<=9973)(hG:k8 S) :
  cE 256 [.int .i64 p] S (fun r S'=>LstQ p r/\S'=S):=by
 refine cE.s0 fun H=>?_;refine jr func256 ntmps256 results256 ?_;simp -dsimp only[go_sem];refine fq (fun O S'=>∃i:Nat,i<=3/\(∀j,j<i->¬p%dvN.getD j 0=0)/\S'=S/\O 0=.int .i64 p/\O 10=.agg [.int .i64 2,.int .i64 3,.int .i64 5]/\O 11=.int .i64 i) (fun O S=>3-ca (O 11)) ?_ ?_
 .simp -dsimp only[go_sem];exact⟨0,om,fun j U=>om,rfl⟩
 rintro Q' b O S' ⟨i,V,c,rfl,n,f,g⟩;by_cases a:i<3
 .have F:decide ((i:Int)<3)=true:=by simp;omega
  obtain⟨q,M,I⟩:∃q:Nat,q=dvN.getD i 0/\(q=2∨q=3∨q=5):=by
   rcases (om:i=0∨i=1∨i=2)with rfl|rfl|rfl<;>exact⟨_,rfl,by decide⟩
  have y:dvL.getD i 0=(q:Int):=by
   rw[M];rcases (om:i=0∨i=1∨i=2)with rfl|rfl|rfl<;>rfl
  have z:¬(q:Int)=0:=om
  by_cases s:p%q=0
  .simp -dsimp only[go_sem,n,f,g,F,Mj a,y,z,pa,s,show(((0:Nat):Int)==0)=true from rfl];rw[b];simp -dsimp only[go_sem];exact⟨q,rfl,fun h=>by rw[<-h];exact prm5 I,fun h=>(IG om s).resolve_right (fun w=>w h)⟩
  .have t:(((p%q:Nat):Int)==0)=false:=by simp;omega
   simp -dsimp only[go_sem,n,f,g,F,Mj a,y,z,pa,t,aT (om:i<1000000),ca]
   refine⟨⟨i+1,om,fun j U=>?_,rfl⟩,om⟩
   by_cases e:j=i
   .rw[e,<-M];exact s
   .exact c j om
 obtain rfl:i=3:=om
 have W:¬p%2=0:=c 0 om;have X:¬p%3=0:=c 1 om;have Y:¬p%5=0:=c 2 om;have F:decide (((3:Nat):Int)<3)=false:=by decide
 simp -dsimp only[go_sem,n,f,g,F];rw[b];simp -dsimp only[go_sem,n];refine fq (fun O S1=>∃k:Nat,k<=3/\(∀e,2<=e->e<30*k+7->¬p%e=0)/\S1=S'/\O 0=.int .i64 p/\O 5=.int .i64 p/\O 6=.int .i64 ((30*k:Nat):Int)) (fun O S=>200-ca (O 6)) ?_ ?_
 .simp -dsimp only[go_sem,n];refine⟨0,om,fun e G w Z=>?_,rfl⟩
  rcases (om:e=2∨e=3∨e=4∨e=5∨e=6)with rfl|rfl|rfl|rfl|rfl<;>omega
 clear n f g b;rintro Q' b O S1 ⟨k,hk,A,rfl,n,e5,N⟩;simp -dsimp only[go_sem,aa,H,Ok];refine fq (fun O S2=>∃i:Nat,i<=8/\(∀e,2<=e->e<30*k+yP.getD i 0->¬p%e=0)/\(i=8->k<=2)/\S2=S1/\O 0=.int .i64 p/\O 5=.int .i64 p/\O 6=.int .i64 ((30*k:Nat):Int)/\O 23=.agg JD/\O 24=.int .i64 i) (fun O S=>8-ca (O 24)) ?_ ?_
 .simp -dsimp only[go_sem,n,e5,N];exact⟨0,om,A,fun h=>om,rfl⟩
 rintro Q2 u O2 S2 ⟨i,V,v,h8,rfl,B,x,C,l,m⟩;by_cases a:i<8
 .have J:decide ((i:Int)<8)=true:=by simp;omega
  obtain⟨g1,g2,g3⟩:=Ol i a;obtain⟨d,hd⟩:∃d,d=30*k+yP.getD i 0:=⟨_,rfl⟩;have wd:IntKind.i64.wrap (((30*k:Nat):Int)+((yP.getD i 0:Nat):Int))=(d:Int):=dM om om;have hdd:d*d<=121*121:=bs om om;have wdd:IntKind.i64.wrap ((d:Int)*d)=((d*d:Nat):Int):=dM (by rw[bL]) om
  have D:¬((d:Int)=0):=om
  by_cases K:p<d*d
  .simp -dsimp only[go_sem,B,x,C,l,m,J,GC a,wd,wdd,K];rw[u];simp -dsimp only[go_sem];rw[b];simp -dsimp only[go_sem,x];refine⟨p,rfl,fun _=>⟨R,fun e w Z=>v e w ?_⟩,fun _=>rfl⟩;rw[<-hd];rcases aA e d with o|o
   .exact o
   .have:=bs o o;omega
  .by_cases s:p%d=0
   .simp -dsimp only[go_sem,B,x,C,l,m,J,GC a,wd,wdd,K,D,pa,s,show(((0:Nat):Int)==0)=true from rfl];rw[u];simp -dsimp only[go_sem];rw[b];simp -dsimp only[go_sem];have E:d≠p:=fun e=>by
     have:2*d<=d*d:=aC d om;omega
    exact⟨d,rfl,fun h=>absurd h E,fun h=>absurd h ((IG om s).resolve_left E)⟩
   .have t:(((p%d:Nat):Int)==0)=false:=by simp;omega
    have P:d<=99:=by
     rcases aA 99 d with h|h
     .have:100*100<=d*d:=bs h h;omega
     .exact h
    simp -dsimp only[go_sem,B,x,C,l,m,J,GC a,wd,wdd,K,D,pa,t,aT (om:i<1000000),ca]
    refine⟨⟨i+1,om,fun e G w=>?_,fun h=>?_,rfl⟩,om⟩
    .rcases dN e d with o|o|o
     .exact v e G om
     .rw[o];exact s
     .have h37:yP.getD (i+1) 0<=37:=by
       rcases (om:i=0∨i=1∨i=2∨i=3∨i=4∨i=5∨i=6∨i=7)with rfl|rfl|rfl|rfl|rfl|rfl|rfl|rfl<;>decide
      have:=g3 (e-30*k) om om om;rcases this with Q|Q|Q
      .exact Gp W om
      .exact Gp X om
      .exact Gp Y om
    .have:yP.getD i 0=31:=by rw[(om:i=7)]<;>rfl
     omega
 .obtain rfl:i=8:=om
  have hk2:=h8 rfl;simp -dsimp only[go_sem,B,x,C,l,m,show decide (((8:Nat):Int)<8)=false by decide]
  rw[u];have L:IntKind.i64.wrap (((30*k:Nat):Int)+30)=((30*(k+1):Nat):Int):=dM om om;simp -dsimp only[go_sem,B,x,C,N,L,ca];exact⟨⟨k+1,om,fun e G w=>v e G (by show e<30*k+37;omega),rfl⟩,om⟩
def Hh(S:St)(p:Int)(g:p<=9973)(β:Bool)(hβ:β=true↔2<=p/\sA p.toNat)(i:k8 S):cE 221 [.int .i64 p] S (fun r S'=>r=.bool β/\S'=S):=by
 refine jr func221 ntmps221 results221 ?_;have b:decide (p<=2147483647)=true:=by simp;omega
 by_cases c:2<=p
 .obtain⟨q,rfl⟩:∃q:Nat,p=q:=⟨p.toNat,om⟩
  have a:decide ((2:Int)<=(q:Int))=true:=by simp;omega
  simp -dsimp only[go_sem,aa,a,b];refine(JJ S q om om i).mono ?_;rintro _ S' ⟨⟨d,rfl,f⟩,rfl⟩;have j:β=((d:Int)==(q:Int)):=by
   by_cases e:d=q
   .rw[hβ.2 ⟨c,f.1 e⟩,e];simp
   .rw[dW hβ fun h=>e (f.2 h.2)];simp;omega
  simp -dsimp only[go_sem,a,b,j]
 .have a:decide (2<=p)=false:=by simpa using c
  simp -dsimp only[go_sem,aa,a,b];rw[dW hβ fun h=>c h.1]
open Classical in
noncomputable def pO(n:Nat)(H:aJ)(p:Int):Int:=if fN n H then(if pY p/\¬det n H%p=0 then 0 else 20)else 6
def IH{p:Int}(h:¬fN n H):pO n H p=6:=by unfold pO;rw[af h]
def zh{p:Int}(h:fN n H)(a:¬(pY p/\¬det n H%p=0)):pO n H p=20:=by unfold pO;rw[ai h,af a]
def xJ{p:Int}(h:fN n H)(a:pY p/\¬det n H%p=0):pO n H p=0:=by unfold pO;rw[ai h,ai a]
def fN.iff(c:1<=n)(a:n<=8):fN n H↔(∀i j,i<n->j<n->H i j=H j i)/\AG H n:=⟨fN.redB,fun⟨d,b⟩=>⟨c,a,b.red d a,b.dt⟩⟩
def BO(S:St)(n:Nat)(H:aJ)(p:Int)(g:1<=n)(i:n<=8)(t:k8 S):cE 174 [aD n n H,.int .i64 p] S (fun r S'=>r=.int .i64 (pO n H p)/\eQ S S'):=by
 refine jr func174 ntmps174 results174 ?_;obtain⟨β,hβ⟩:=nN (fN n H);simp -dsimp only[go_sem,aa];refine(xe n H β g i (hβ.trans (fN.iff g i))).call ?_
 cases β with
 | false =>
  simp -dsimp only[go_sem,aa];rw[IH fun h=>by have:=hβ.2 h;cases this]
  exact⟨rfl,eQ.refl S⟩
 | true =>
 have j:=hβ.1 rfl;have no:¬pY p->pO n H p=20:=fun h=>zh j fun u=>h u.1;by_cases o:p=2
 .simp -dsimp only[go_sem,aa,show(p==2)=true by simpa using o]
  rw[no fun h=>by have:=h.1;omega]
  exact⟨rfl,eQ.refl S⟩
 have e:(p==2)=false:=by simpa using o
 by_cases q:9973<p
 .simp -dsimp only[go_sem,aa,e,show decide (9973<p)=true by simpa using q]
  rw[no fun h=>by have:=h.2.1;omega]
  exact⟨rfl,eQ.refl S⟩
 have k:decide (9973<p)=false:=by simpa using q
 obtain⟨βp,l⟩:=nN (2<=p/\sA p.toNat);simp -dsimp only[go_sem,aa,e,k];refine(Hh S p om βp l t).mono ?_;rintro _ S' ⟨rfl,rfl⟩
 cases βp with
 | false =>
  simp -dsimp only[go_sem,aa,e,k];rw[no fun h=>by have:=l.2 ⟨by have:=h.1;omega,h.2.2⟩;cases this]
  exact⟨rfl,eQ.refl _⟩
 | true =>
 obtain⟨x,c⟩:=l.1 rfl;have v:pY p:=⟨om,om,c⟩
 simp -dsimp only[go_sem,aa,e,k];have w:=((FB n H p g i om om (fun a b h=>by have:=c.mul a b;rw[cL om]at this;exact this h)).less (post':=fun r S'=>(∃d:Int,(d=0↔p∣det n H)/\r=.tup [.int .i64 d,.int .i64 0])/\S'=St.none) fun r S' h=>⟨St.none,(fun b X m=>by simp[St.none]at m),h,rfl⟩).frame (cI S' _) (by rintro r S1 ⟨⟨d,_,rfl⟩,rfl⟩;exact⟨rfl,fun b X m=>by simp[St.none]at m⟩)
 refine w.mono ?_;rintro _ S2 ⟨S1,⟨⟨d,s,rfl⟩,rfl⟩,_,rfl⟩;by_cases f:d=0
 .simp -dsimp only[go_sem,show(d==0)=true by simpa using f,cK]
  rw[zh j fun h=>h.2 (df (s.1 f))];exact⟨rfl,qy _ _⟩
 .simp -dsimp only[go_sem,show(d==0)=false by simpa using f,cK]
  rw[xJ j ⟨v,fun h=>f (s.2 (dU h))⟩];exact⟨rfl,qy _ _⟩

def Ke{v:Nat->Int}{K:AV->St->Prop}(c:S b=some ⟨2,1,0,g0⟩)(d:0<n)(k:n<=1000)
  (f:∀b' h,(b'=b∨S b'=ab)->(∀j,j<n->h j=.int .i64 (v j))->K (.sl 1 b' 0 n) ((S.del b).upd b' ⟨2,1,n,h⟩)):fG 29 29 (.sl 1 b 0 0) (.lst 1 n (fun j=>.int .i64 (v j))) S K:=by
 have g:Av S (.lst 1 n (fun j=>.int .i64 (v j)))=some (1,n,fun j=>.int .i64 (v j),ab):=rfl;unfold fG;rw[show dB 29=some 2 from rfl,g];refine⟨rfl,rfl,rfl,d,fun j i=>by simp[eg],?_⟩
 .simp only[c];refine⟨trivial,trivial,trivial,trivial,trivial,om,(fun e=>by cases e),fun b' a=>?_⟩
  rw[aB];refine f b' _ a fun j i=>?_;unfold mI;split
  .have:j=0:=om
   subst this;simp only[bR,aO,aB]
  .simp only[I0,aP,eO]
def RL{K:AV->St->Prop}:dz 29 0 [] S K=aG S (fun b=>K (.sl 1 b 0 0) (S.upd b ⟨2,1,0,fun j=>([]:List AV).getD j .any⟩)):=by
 simp only[dz,dB,bP];simp[eF,fU,aG]
def AM(S:St)(n:Nat)(v:Nat->Int)(f:0<n)(m:n<=1000) :
  cE 177 [aV n v] S (fun r S'=>∃b,r=.sl 1 b 0 n/\bJ S' b 2 1 n (fun j=>.int .i64 (v j))/\eQ S S'/\S b=ab):=by
 refine jr func177 ntmps177 results177 ?_;simp -dsimp only[go_sem,RL,aV];refine⟨f,aG.intro fun g c=>?_⟩
 try simp -dsimp only[go_sem]
 refine Ke ci f m ?_;intro b' h d o;have i:S b'=ab:=by
  rcases d with rfl|h
  .exact c
  .by_cases e:b'=g
   .rw[e];exact c
   .rw[aN e]at h;exact h
 simp -dsimp only[go_sem];refine⟨b',rfl,bJ.here o,fun k X a=>?_,i⟩;have p:k≠b':=fun e=>by rw[e,i]at a;cases a
 have l:k≠g:=fun e=>by rw[e,c]at a;cases a
 rw[aN p];unfold St.del;rw[af l,aN l];exact a
def yR(n:Nat)(H:aJ)(v:Nat->Int)(m:Int):eJ n (lz H m) v n%m=eJ n H v n%m:=by
 unfold eJ;refine oG n _ _ m fun i _=>?_;rw[fJ,oG n (fun j=>lz H m i j*v j) (fun j=>H i j*v j) m fun j _=>?_,<-fJ];show(H i j%m*v j)%m=_;rw[fJ,ld _ (iN m),<-fJ]
def ze(n p:Nat)(H:aJ)(v:Nat->Int)(β:Bool)(E:1<=n)(G:n<=8)(N:2<=p)(I:p<=9973)(hβ:β=true↔z0 n p H v):PF 175 [aD n n H,.int .i64 p,aV n v] (.bool β):=by
 refine iQ func175 ntmps175 results175 ?_;simp -dsimp only[go_sem,aD,aV,cK];refine fq (fun O S=>∃i:Nat,i<=n/\(∀k,k<i->0<=v k/\v k<p)/\O 0=aD n n H/\O 1=.int .i64 p/\O 2=aV n v/\O 7=.int .i64 (ix v i)/\O 17=aV n v/\O 18=.int .i64 n/\O 19=.int .i64 i) (fun O S=>n-ca (O 19)) ?_ ?_
 .simp -dsimp only[go_sem,aD,aV];exact⟨0,om,fun k J=>om,rfl,rfl⟩
 rintro Q' x O S ⟨i,F,r,t,o,u,q,d,f,l⟩;by_cases c:i<n
 .by_cases y:v i<0
  .simp -dsimp only[go_sem,aD,aV,t,o,u,q,d,f,l,c,y];rw[x];simp -dsimp only[go_sem];rw[dW hβ fun h=>by have:=h.1 i c;omega]
   exact VR.mf rfl
  by_cases C:(p:Int)<=v i
  .simp -dsimp only[go_sem,aD,aV,t,o,u,q,d,f,l,c,y,C];rw[x];simp -dsimp only[go_sem];rw[dW hβ fun h=>by have:=h.1 i c;omega]
   exact VR.mf rfl
  have w:∀k,k<i+1->0<=v k/\v k<p:=fun k J=>by
   by_cases e:k=i
   .rw[e];omega
   .exact r k om
  by_cases z:ix v i=0
  .simp -dsimp only[go_sem,aD,aV,t,o,u,q,d,f,l,c,y,C,z,eS,aT (om:i<1000000),ca]
   refine⟨⟨i+1,om,w,?_,rfl⟩,om⟩
   simp only[ix,z,aO]
  .have K:(ix v i==0)=false:=by simpa using z
   simp -dsimp only[go_sem,aD,aV,t,o,u,q,d,f,l,c,y,C,K,aT (om:i<1000000),ca]
   refine⟨⟨i+1,om,w,?_,rfl⟩,om⟩
   simp only[ix,z,aP]
 have D:i=n:=om
 rw[D]at q r;simp -dsimp only[go_sem,aa,t,o,u,q,d,f,l,c];rw[x];simp -dsimp only[go_sem,aa,t,o];refine(wF n n H p E om E om om om S _ (cI _ _)).mono ?_;rintro _ S1 ⟨b,g,rfl,L,_⟩;by_cases s:ix v n=1
 .have a:(ix v n==1)=true:=by rw[s]<;>rfl
  simp -dsimp only[go_sem,aa,t,o,u,q,a];have M:=qm (A:=H) (m:=(p:Int)) om;refine(yS n p (lz H p) v G om om (fun i j _ _=>by have:=M i j;omega) (fun i F=>by have:=r i F;omega)).spec (fD.three L.vr.va (VA.refl _ _) (VA.refl _ _)) ?_
  rw[yR];by_cases B:eJ n H v n%(p:Int)=0
  .rw[B,hβ.2 ⟨r,s,B⟩];simp -dsimp only[go_sem,o,u,q,a,eS];exact VR.mf rfl
  .rw[dW hβ fun h=>B h.2.2];simp -dsimp only[go_sem,o,u,q,a,show(eJ n H v n%(p:Int)==0)=false by simpa using B]
   exact VR.mf rfl
 .have a:(ix v n==1)=false:=by simpa using s
  simp -dsimp only[go_sem,t,o,q,a];rw[dW hβ fun h=>s h.2.1];exact VR.mf rfl
def GB(n l p:Nat)(H:aJ)(v:Nat->Int)(β:Bool)(b:1<=n)(c:n<=8)(d:2<=p)(a:p<=9973)(hβ:β=true↔l=n/\z0 n p H v):PF 175 [aD n n H,.int .i64 p,aV l v] (.bool β):=by
 by_cases e:l=n
 .subst e;exact ze l p H v β b c d a (hβ.trans ⟨fun h=>h.2,fun h=>⟨rfl,h⟩⟩)
 .refine iQ func175 ntmps175 results175 ?_;simp -dsimp only[go_sem,aD,aV,show((l:Int) != n)=true by simp;omega]
  rw[dW hβ fun h=>e h.1];exact VR.mf rfl
def JM(n p:Nat)(H:aJ)(v:Nat->Nat)(c:1<=n)(d:n<=8)(e:2<=p)(a:p<=9973)(b:lG n p H v):PF 175 [aD n n H,.int .i64 p,aV n (fun k=>v k)] (.bool true) :=
 ze n p H _ true c d e a ⟨fun _=>⟨fun i f=>by have:=b.lt i f;dsimp only;omega,b.lead,b.norm⟩,fun _=>rfl⟩

def pV(n:Nat)(H:aJ)(p:Int)(v:Nat->Int):Nat->Int:=fun i=>(az n fun j=>H i j*v j)%p
def Ly(n:Nat)(H:aJ)(p:Int)(v:Nat->Int)(i:Nat):(az n fun j=>lz H (p*p) i j*v j)%p=pV n H p v i:=by
 refine oG n _ _ p fun j _=>?_;show(H i j%(p*p)*v j)%p=_;rw[fJ,ld _ (Int.dvd_mul_right p p),<-fJ]
def Ci(n:Nat)(H:aJ)(p:Int)(v:Nat->Int)(i:Nat):gV n H p v i=pV n H p v i:=by
 refine oG n _ _ p fun j _=>?_;show(H i j%p*(v j%p))%p=_;rw[<-fJ]
theorem pA:∀(a b:List Oper) (O:Tm) (S:St) (pend:List (Nat×eE)) (K:Tm->List (Nat×eE)->Prop),FK (a++b) O S pend K=FK a O S pend (fun O' p'=>FK b O' S p' K)
 | [],_,_,_,_,_=>rfl
 | o::a,b,O,S,pend,K=>by
  simp only[lw,FK];split
  .split
   .exact pA a b _ _ _ _
   .rfl
  .simp only[pA a b]
def Db(r:Nat)(h:∀K',K'=(fun O' p'=>FE (l.drop r) O' S p' K)->FE (l.take r) O S pend K'):FE l O S pend K:=by
 have h:=h _ rfl;rw[pM]at h ⊢;rw[<-pA,wH]at h;exact h
def PY:FE [] O S pend K=K O pend:=by rw[pM]<;>rfl
def PX{K:Tm->St->Prop}:DB ops [] O S K=K O S:=by rw[vO]<;>rfl
def Po(h:∀Q',Q'=Q->Aw c Q' O S):Aw c Q O S:=h _ rfl
def Pr{K:Tm->St->Prop}(r q:Nat)(a:wl ops q [] false=true)
  (h:∀K',K'=(fun O' pend=>FE ((ops.toList.take q).drop r) O' S pend (fun O' pend=>if pend.isEmpty then DB ops (ops.toList.drop q) O' S K else t8 pend (zq (pu (ops.toList.take q)) O') S (fun O S=>DB ops (ops.toList.drop q) O S K)))->FE ((ops.toList.take q).take r) O S [] K'):KL ops O S K:=by
 refine bF q a ?_;have h:=h _ rfl;rw[pM]at h ⊢;rw[<-pA,wH]at h;exact h
def Kx(S:St)(n p piv:Nat)(H:aJ)(v:Nat->Nat)(hF:fN n H)(hg:kX (det n H) p)(J:sn p)(hL:lG n p H v)(hG:k8 S)
  (hpiv:piv<n) (K:pV n H p (fun k=>v k) piv≠0) (hsz:∀i,i<piv->pV n H p (fun k=>v k) i=0) :
  cE 121 [aD n n H,.int .i64 p,aV n (fun k=>v k)] S (fun r S'=>∃b t,S b=ab/\0<=t/\t<(p:Int)/\(p:Int)*p∣mg n H (fun k=>if k=piv then((v k:Nat):Int)+p*t else v k) (fun k=>if k=piv then((v k:Nat):Int)+p*t else v k)/\r=.tup [.sl 1 b 0 n,.int .i64 0]/\bJ S' b 2 1 n (fun k=>.int .i64 (if k=piv then((v k:Nat):Int)+p*t else v k))/\eQ S S'):=by
 have L:=hF.one;have hn:=hF.eight;have o:=J.2;refine jr Qy TJ SY ?_;simp -dsimp only[go_sem,aa];refine(BO S n H p L hn hG).mono ?_;rintro _ S1 ⟨rfl,C⟩;rw[xJ hF ⟨pY.of J,hg.2.2.2⟩];simp -dsimp only[go_sem,aa];refine(JM n p H v L om om om hL).spec (cI _ _) ?_;have hpp:(p:Int)*p<=99460729/\9<=(p:Int)*p:=by
  rw[<-bL];have a:=bs o.2 o.2;have b:=bs o.1 o.1;omega
 have wpp:IntKind.i64.wrap ((p:Int)*p)=(p:Int)*p:=i64_in om om;simp -dsimp only[go_sem,aa,wpp];refine(wF n n H (p*p) L om L om om om S1 _ (cI _ _)).mono ?_;rintro _ S2 ⟨br,gr,rfl,hR,D,_,_⟩;simp -dsimp only[go_sem,aa];refine(AM S2 n (fun k=>v k) om om).mono ?_;rintro _ S3 ⟨bx,rfl,hx3,M,P⟩;have E:=hR.ext M;simp -dsimp only[go_sem];have hr:=qm (A:=H) (m:=(p:Int)*p) om;have F:∀i,i<n->(0:Int)<=(v i:Nat)/\((v i:Nat):Int)<=9972:=fun i hi=>by have:=hL.lt i hi;omega
 have Q:eQ S S3:=(C.trans D).trans M;refine fq (fun O S=>∃i:Nat,i<=piv/\S3=S/\O 1=.int .i64 p/\O 2=aV n (fun k=>v k)/\O 9=.sl 1 br 0 n/\O 11=.sl 1 bx 0 n/\O 39=.sl 1 br 0 n/\O 40=.int .i64 n/\O 41=.int .i64 i) (fun O S=>n-ca (O 41)) ?_ ?_
 .simp -dsimp only[go_sem];exact⟨0,om,rfl⟩
 rintro Q' hQ' O _ ⟨i,hi,rfl,q,R,e9,d,w,x,y⟩;have f:i<n:=om
 obtain⟨g1,u1,v1⟩:=id E.outer;have x1:g1 i=.sl 1 (gr i) 0 n:=v1 i f;simp -dsimp only[go_sem,aa,q,R,w,x,y,f,u1,x1];refine(EI n p (lz H (p*p) i) (fun k=>v k) om om (fun j G=>by have:=hr i j;omega) (fun j G=>by have:=F j G;omega)).spec (fD.three (tT.vr (E.row i f)).va (VA.refl _ _) (VA.refl _ _)) ?_
 rw[Ly];by_cases hip:i<piv
 .simp -dsimp only[go_sem,q,R,e9,d,w,x,y,hsz i hip,eS,aT (om:i<1000000),ca]
  exact⟨⟨i+1,om,rfl⟩,om⟩
 obtain rfl:i=piv:=om
 have hsb:(pV n H p (fun k=>v k) i==0)=false:=by simpa using K
 have T:0<=pV n H p (fun k=>v k) i/\pV n H p (fun k=>v k) i<p:=⟨aU _ om,aS _ om⟩;generalize hsl:pV n H p (fun k=>v k) i=sl at *;have w2:IntKind.i64.wrap (2*sl)=2*sl:=i64_in om om;simp -dsimp only[go_sem,q,R,e9,d,w,x,y,hsb,w2];refine aG.intro fun l U=>?_
 try simp -dsimp only[go_sem]
 refine aG.intro fun s V=>?_;have n56_55:=(ag V).1
 try simp -dsimp only[go_sem,q]
 have hIM:eh ((S3.upd l ⟨2,1,1,fun j=>[AV.int .i64 (2*sl)].getD j .any⟩).upd s ⟨29,1,1,fun j=>[AV.sl 1 l 0 1].getD j .any⟩) s (fun _=>l) 1 1 (fun _ _=>2*sl):=by
  refine⟨bJ.here fun j G=>?_,fun j _=>bJ.upd (bJ.here fun k hk=>?_) n56_55.symm _,fun i j L h2 _=>om⟩
  .obtain rfl:j=0:=om
   rfl
  .obtain rfl:k=0:=om
   rfl
 have B:S3 s=ab:=by rwa [aN n56_55]at V
 have up2:∀{b ty es m:Nat} {g:Nat->AV},bJ S3 b ty es m g->bJ ((S3.upd l ⟨2,1,1,fun j=>[AV.int .i64 (2*sl)].getD j .any⟩).upd s ⟨29,1,1,fun j=>[AV.sl 1 l 0 1].getD j .any⟩) b ty es m g:=fun h=>(h.upd (h.fresh U) _).upd (h.fresh B) _;have W:eQ S3 ((S3.upd l ⟨2,1,1,fun j=>[AV.int .i64 (2*sl)].getD j .any⟩).upd s ⟨29,1,1,fun j=>[AV.sl 1 l 0 1].getD j .any⟩):=((eQ.refl S3).upd U _).upd B _;have h2s:0<2*sl%p/\2*sl%p<p:=by
  have a:=aU (2*sl) (show(p:Int)≠0 by omega)
  have b:=aS (2*sl) (show(0:Int)<p by omega)
  have c:2*sl%p≠0:=fun h=>by
   rcases J.1.mul 2 sl (dU h)with h|h
   .have:=l7 om h;omega
   .exact K (by have:=df h;rwa [d6 T.1 T.2]at this)
  omega
 have X:¬(p:Int)∣2*sl:=fun h=>by have:=df h;omega
 have hei:=J.1.inv1 X;refine(tS (2*sl) p om om (J.1.gcd' X) _ _ (fD.two hIM.vr.va (VA.refl _ _))).mono ?_;rintro _ S4 ⟨bi,gi,rfl,Z,hE4,_,_⟩;have hiv:=yN (p:=(p:Int)) om (2*sl);generalize qr p (2*sl)=iv at *;have u:eQ S3 S4:=W.trans hE4;have hx4:=u.has hx3;have hR4:=E.ext u;obtain⟨gb,ub,vb⟩:=id Z.outer;obtain⟨gc,uc,vc⟩:=id (Z.row 0 om);obtain⟨gx,ux,vx⟩:=id hx4;have xb:gb 0=.sl 1 (gi 0) 0 1:=vb 0 om;have xc:gc 0=.int .i64 iv:=vc 0 om;have xx:gx i=.int .i64 (v i:Nat):=vx i f;have hN:eJ n (lz H (p*p)) (fun k=>v k) n%(p*p)=eJ n H (fun k=>v k) n%(p*p):=yR n H _ _;have hN0:=aU (eJ n H (fun k=>v k) n) (show(p:Int)*p≠0 by omega)
 have hN1:=aS (eJ n H (fun k=>v k) n) (show(0:Int)<p*p by omega)
 generalize hNN:eJ n H (fun k=>v k) n%((p:Int)*p)=N at *;have hk0:0<=N/p/\N/p<p:=by
  refine⟨mj hN0 om,?_⟩;exact Int.ediv_lt_of_lt_mul om hN1
 have k1:IntKind.i64.wrap (N.tdiv p)=N/p:=by rw[fz hN0];exact i64_in om om
 have k2:IntKind.i64.wrap (p-N/p)=p-N/p:=i64_in om om;have hm0:0<=(p-N/p)*iv/\(p-N/p)*iv<=99460729:=by
  have:=cB (show(p:Int)-N/p<=9973 by omega) (om:iv<=9973) hiv.1 om
  exact⟨cZ om hiv.1,om⟩
 have k3:IntKind.i64.wrap ((p-N/p)*iv)=(p-N/p)*iv:=i64_in om om;have k4:((p-N/p)*iv).tmod p=(p-N/p)*iv%p:=aK hm0.1;have I:=aU ((p-N/p)*iv) (show(p:Int)≠0 by omega)
 have ht1:=aS ((p-N/p)*iv) (show(0:Int)<p by omega)
 generalize hT:(p-N/p)*iv%(p:Int)=t at *;have hnm:=BB hF.red.pd.sym f (show(0:Int)<p by omega) hsl hei hNN hL.norm hT
 have hpt:0<=(p:Int)*t/\(p:Int)*t<=99460729:=by
  have:=cB (show(p:Int)<=9973 by omega) (om:t<=9973) I om
  exact⟨cZ om I,om⟩
 have k5:IntKind.i64.wrap (p*t)=p*t:=i64_in om om;have hvi:=F i f;have k6:IntKind.i64.wrap (((v i:Nat):Int)+p*t)=((v i:Nat):Int)+p*t:=i64_in om om;have hp0:¬(p:Int)=0:=om
 simp -dsimp only[go_sem,q];refine Pr 7 19 kr fun K' hK'=>?_
 simp -dsimp only[go_sem,aa,q,R,e9,wpp];refine⟨_,(yS n (p*p) (lz H (p*p)) (fun k=>v k) om om om (fun i j _ _=>by have:=hr i j;omega) (fun j G=>by have:=F j G;omega)).pureS (fD.three hR4.vr.va (VA.refl _ _) (VA.refl _ _)),?_⟩
 rw[bL,hN,hK'];refine Db 7 fun K'' hK''=>?_;simp -dsimp only[go_sem,aa,q,ub,xb,hp0,k1,k2]
 repeat refine an ?_
 rw[hK''];refine Db 3 fun K3 hK3=>?_;simp -dsimp only[go_sem,aa,q,uc,xc,k3]
 suffices key:∀O':Tm,O' 1=.int .i64 p->O' 11=.sl 1 bx 0 n->O' 12=.int .i64 i->O' 76=.int .i64 ((p-N/p)*iv)->O' 77=.int .i64 p->K3 O' [] by
  refine key _ ?_ ?_ ?_ ?_ ?_<;>simp -dsimp only[go_sem,q,d]
 clear q R e9 d w x y hK' hK'';intro O' q d e12 e76 e77;rw[hK3];refine Db 2 fun K4 hK4=>?_;simp -dsimp only[go_sem,e76,e77,hp0,k4];rw[hK4];clear hK4 hK3;rw[show(List.drop 2 (List.drop 3 (List.drop 7 (List.drop 7 (List.take 19 (Array.toList _))))))=([]:List Oper)from rfl];dsimp only;rw[PY];rw[show List.isEmpty ([]:List (Nat×eE))=true from rfl,ai rfl];rw[show(List.drop 19 (Array.toList _))=([]:List Oper)from rfl];rw[PX];refine Po fun Q3 hQ3=>?_;simp -dsimp only[go_sem,aa,q,d,e12,f,ux,xx,k5,k6];rw[hQ3];simp -dsimp only[go_sem];rw[hQ'];simp -dsimp only[go_sem];have hbS:S bx=ab:=by
  cases e:S bx with
  | none=>rfl
  | some Y=>have:=D _ Y (C _ Y e);rw[P]at this;cases this
 refine⟨bx,hbS,t,I,ht1,hnm,by rw[d],bJ.here fun j G=>?_,fun k Y hY=>?_⟩
 .show bR gx i _ j=_;unfold bR;by_cases z:j=i
  .rw[ai z,z,ai rfl]
  .rw[af z,af z];exact vx j G
 .have hk:k≠bx:=fun e=>by
   subst e;have:=D k Y (C k Y hY);rw[P]at this;cases this
  rw[aN hk];exact(Q.trans u) k Y hY

def De(f:Nat->Int){j:Nat}(a:j<n):(f j).natAbs<=dK n f:=by
 have:=lS f a;omega
def nbK(h:z.natAbs<=iH k (fun _=>2^30))(a:k<=9):nb z KB:=by
 rw[Es]at h;exact dR h (jy om (by have:=mC;omega))
def JB{p:Int}{piv:Nat}(m:1<=n)(g:n<=8)(v:0<p)(d:p<=9973)(b:piv<n)(o:∀j,j<n->0<=q j/\q j<=9972)(s:∀i,i<n->(x i).natAbs<=100000000) :
  mz n (fo n (Ae n p piv q x)):=by
 have a:=LO g (CK (piv:=piv) om d o s);refine⟨m,g,fun σ k e k' i j c l=>?_,EA om b q x,fun R t u _ σ neg k e k' i j l c=>?_,fun r j w c=>?_⟩
 .have h:=yB a (k:=k') (i:=i) (j:=j) c e.sum;exact nbK h om
 .have h:=Al (B:=wM (fo n (Ae n p piv q x)) n R) (N:=n+1) (f:=fun _=>2^30) (fun r _=>a _) (fun r _=>iq om) (k:=k') (i:=i) (j:=j) l c e.row;exact nbK h om
 .have h:=De (fo n (Ae n p piv q x) r) c;exact nbK (k:=1) (by rw[Es];exact bU h (a r)) om
noncomputable def Fe(n:Nat):Nat:=iL KB n+iL KB n+9+KB
def Kq.up{U:aJ}(a:Kq n A R H U){i j:Nat}(b:i<n)(c:j<n+1):k9 (n+1) (fun k r=>A r k) U j i=H i j:=by
 rw[<-a.mu i j om c];unfold k9 mm;refine aF fun k d=>?_;show A i k*U k j=wM A n R i k*U k j;unfold wM ua;rw[ai b]
def Kq.ubits(f:mz n A){R:Nat}{H U:aJ}(l:Kq n A R H U)(t:∀i j,i<n+1->j<n+1->nb (H i j) KB){a c:Nat}(m:a<n+1)(s:c<n+1):nb (U a c) (iL KB n+iL KB n+9):=by
 have u:=mC;have o:∀i j,i<n+1->j<n+1->nb (wM A n R i j) KB:=fun i j d b=>f.hent _ _ (by have:=l.r2;unfold ua;split<;>omega) b
 have p:∀i j,i<n+1->j<n+1->nb (mJ (n+1) (wM A n R) i j) (iL KB n):=fun i j d b=>by
  have h:=zk (by have:=f.hn;omega) om o n i j d b
  unfold mJ;split
  .exact h.neg
  .exact h
 have e:mm (n+1) (mJ (n+1) (wM A n R)) H a c=det (n+1) (wM A n R)*U a c:=by
  have v:mm (n+1) (mJ (n+1) (wM A n R)) H a c=mm (n+1) (mJ (n+1) (wM A n R)) (mm (n+1) (wM A n R) U) a c:=qv (fun _ _=>rfl) fun k q=>(l.mu k c q s).symm;rw[v,<-oN];unfold mm;rw[aF (g:=fun k=>(if a=k then det (n+1) (wM A n R)else 0)*U k c) fun k q=>by
   show mm (n+1) (mJ (n+1) (wM A n R)) (wM A n R) a k*U k c=_;rw[qZ om _ m q]]
  rw[aF (g:=fun k=>(if a=k then 1 else 0)*(det (n+1) (wM A n R)*U k c)) fun k _=>by split<;>simp]
  rw[mP m]
 have r:nb (det (n+1) (wM A n R)*U a c) (iL KB n+iL KB n+9):=by
  rw[<-e];exact Iz (by have:=f.hn;omega) p (fun i j d b=>(t i j d b).mono (oS KB n)) m s
 unfold nb at r ⊢;rw[cY]at r;have:1<=(det (n+1) (wM A n R)).natAbs:=by have:=l.dt;omega
 exact dR (bU (uf (mA _).symm) (aC _ this)) r
def Kq.herm(z:mz n A){R:Nat}{H U:aJ}(b:Kq n A R H U)(y:∀r c,n<=r->r<n+n+1->c<n+1->A r c=if r=n+c then 1 else 0) :
  (∀a r,a<n+1->r<n+n+1->nb (k9 (n+1) (fun k r=>A r k) U a r) (Fe n))/\B8 n (Fe n) (fun i j=>k9 (n+1) (fun k r=>A r k) U j i)/\(∀x,eU (n+1) (n+1) H x↔eU (n+1) (n+1) (wM A n R) x)/\∀i,i<n->H i n=0:=by
 obtain⟨d,M,p,F,l⟩:=b.tl;have G:=z.dlt b.r1 b.r2 b.dt;have B:∀i,i<n+1->0<d i/\d i<PB:=fun i f=>by
  have t:=p.pos i f;have w:=p.d_le f;omega
 have q:∀r c,r<c->c<n+1->H r c=0:=fun r c t w=>(l.done c w).1 r t;have s:∀c,c<n+1->H c c=d c:=fun c m=>(l.done c m).2.1;have u:∀c j,c<n+1->j<c->0<=H c j/\H c j<d c:=fun c j m o=>(l.done j om).2.2 c o m;have C:∀i j,i<n+1->j<n+1->nb (H i j) KB:=fun i j f o=>by
  have I:=B i f;rcases dN i j with h|h|h
  .rw[q i j h o];exact nb.zero _
  .subst h;rw[s i f];exact FJ om
  .have t:=u i j f h;exact FJ om
 have v:∀i j,i<n->j<n+1->nb (k9 (n+1) (fun k r=>A r k) U j i) (Fe n):=fun i j f o=>by
  rw[b.up f o];exact(C i j om o).mono (by unfold Fe;omega)
 refine⟨fun a r D J=>?_,⟨fun r c t w E=>?_,fun c m=>?_,fun c j m o=>?_,v⟩,fun x=>?_,fun i f=>q i n f om⟩
 .rcases aA r n with h|h
  .exact v r a h D
  .have e:k9 (n+1) (fun k r=>A r k) U a r=U (r-n) a:=by
    unfold k9;rw[aF (g:=fun k=>(if r-n=k then 1 else 0)*U k a) fun k K=>by
     show A r k*U k a=_;rw[y r k h J K];by_cases e:r=n+k
     .rw[ai e,ai om]
     .rw[af e,af om]]
    exact mP om _
   rw[e];exact(b.ubits z C om D).mono (by unfold Fe;omega)
 .show k9 (n+1) (fun k r=>A r k) U c r=0;rw[b.up w E];exact q r c t E
 .show 0<k9 (n+1) (fun k r=>A r k) U c c;rw[b.up m om,s c om];exact(B c om).1
 .show 0<=k9 (n+1) (fun k r=>A r k) U j c/\k9 (n+1) (fun k r=>A r k) U j c<k9 (n+1) (fun k r=>A r k) U c c;rw[b.up m om,b.up m om,s c om];exact u c j om o
 .exact l.span p x
def tU.members(f:mz n (fo n M))(h:tU n k (fo n M) B):∀y,eU n n B y↔eU n (n+1) M y:=by
 obtain⟨R,H,U,d,o,rfl⟩:=h.ex;intro y;obtain⟨_,_,g,l⟩:=d.herm f (fun r c e _ p=>by unfold fo;rw[af om])
 have e:eU n n H y↔eU n (n+1) M y:=Ml (w:=wM (fo n M) n R) (fun i j a m=>by
  unfold wM ua fo;rw[ai a,ai a]) g l y
 rw[<-e];have key:∀i,i<n->∀c:iz,az n (fun j=>k9 (n+1) (fun k r=>fo n M r k) U j i*c j)=az n (fun j=>H i j*c j):=fun i a c=>aF fun j m=>by rw[d.up a om]
 constructor
 .rintro⟨c,b⟩;exact⟨c,fun i a=>by rw[b i a,key i a c]⟩
 .rintro⟨c,b⟩;exact⟨c,fun i a=>by rw[b i a,<-key i a c]⟩
def tU.herm(h:tU n k (fo n M) B):B8 n k B:=by
 obtain⟨R,H,U,b,a,rfl⟩:=h.ex;exact a

def Dz(n k:Nat)(M:aJ)(f:mz n (fo n M))(h:k<=1000000)(l:∀R H U,Kq n (fo n M) R H U->(∀a r,a<n+1->r<n+n+1->nb (k9 (n+1) (fun k r=>fo n M r k) U a r) k)/\B8 n k (fun i j=>k9 (n+1) (fun k r=>fo n M r k) U j i)) :
  ∀S args',fD S args' [aQ n (n+1) M]->cE 123 args' S (fun r S'=>∃b g B,r=.tup [.sl 1 b 0 n,.bool true]/\tU n k (fo n M) B/\iB S S' b g n n B):=fun S args' m=>by
 have o:cE 123 [aQ n (n+1) M] St.none (fun r S'=>∃b g B,r=.tup [.sl 1 b 0 n,.bool true]/\tU n k (fo n M) B/\dA S' b g n n B/\KI S'):=(AO n k M f h l).less fun r S' ⟨b,g,B,e,d,c⟩=>⟨gL S' b g n,jm S' b g n,b,g,B,e,d,c.only.1,c.only.2⟩;refine(o.frame m ?_).mono ?_
 .rintro r S1 ⟨b,g,B,rfl,_,_,p⟩;exact⟨rfl,p⟩
 .rintro r S' ⟨S1,⟨b,g,B,rfl,d,c,_⟩,q,rfl⟩;exact⟨b,g,B,rfl,d,c.join q⟩
def Js{K:AV->Prop}(h:K (.sl 1 b 0 n)):kP 28 (.sl 1 b 0 n) ab (some (.int .i64 n)) (some (.int .i64 n)) K:=by
 refine⟨rfl,0,n,rfl,rfl,⟨xV _,xV _,rfl⟩,jw _,ae _,?_⟩;show K (if (0:Nat)=0∨0<n then AV.sl 1 b (0+0) (n-0)else .lst 1 0 fun _=>.any)
 rw[ai (bM rfl)];exact h
structure ri(n p:Nat)(H:aJ)(v:Nat->Nat)(B:aJ):Prop where
 ex:∃piv t inv,piv<n/\0<=t/\t<(p:Int)/\(p:Int)*p∣mg n H (fun i=>if i=piv then((v i:Nat):Int)+p*t else v i) (fun i=>if i=piv then((v i:Nat):Int)+p*t else v i)/\inv=qr p (gV n H p (fun k=>v k) piv)/\gV n H p (fun k=>v k) piv≠0 /\
  mz n (fo n (Ae n p piv (fun j=>gV n H p (fun k=>v k) j*inv%p) (fun i=>if i=piv then((v i:Nat):Int)+p*t else v i))) /\
  tU n (Fe n) (fo n (Ae n p piv (fun j=>gV n H p (fun k=>v k) j*inv%p) (fun i=>if i=piv then((v i:Nat):Int)+p*t else v i))) B
def Mr{P:Nat->Prop}(h:∃i,i<n/\P i):∃i,i<n/\P i/\∀j,j<i->¬P j:=by
 obtain⟨i,d,e⟩:=h
 induction i using Nat.strongRecOn with
 | _ i ih =>
  by_cases c:∃j,j<i/\P j
  .obtain⟨j,a,b⟩:=c;exact ih j a om b
  .exact⟨i,d,e,fun j a b=>c ⟨j,a,b⟩⟩
theorem BG{p:Int}{f:Nat->Int}:∀{n:Nat},(∀i,i<n->p∣f i)->p∣az n f
 | 0,_=>iM p
 | n+1,h=>jz (BG fun i a=>h i om) (h n om)
theorem y5{v:Nat->Int}:∀{n:Nat},(∀i,i<n->v i=0)->ix v n=0
 | 0,_=>rfl
 | n+1,h=>by
  simp only[ix,y5 (n:=n) fun i a=>h i om,aO];exact h n om
def Gj(q:fN n H)(r:kX (det n H) p)(s:sn p)(m:lG n p H v):∃piv,piv<n/\pV n H p (fun k=>v k) piv≠0/\∀i,i<piv->pV n H p (fun k=>v k) i=0:=by
 have b:∃i,i<n/\pV n H p (fun k=>v k) i≠0:=by
  refine dZ fun c=>?_;have t:∀i,i<n->(p:Int)∣az n fun j=>H i j*((v j:Nat):Int):=fun i d=>by
   refine dU (dZ fun h=>c ⟨i,d,h⟩)
  have u:∀k,k<n->((v k:Nat):Int)=0:=fun k e=>by
   have w:mm n (mJ n H) (mm n H (fun j _=>((v j:Nat):Int))) k 0=det n H*((v k:Nat):Int):=by
    rw[<-oN];unfold mm;rw[aF (g:=fun j=>(if k=j then 1 else 0)*(det n H*((v j:Nat):Int))) fun j f=>by
     show mm n (mJ n H) H k j*((v j:Nat):Int)=_;rw[qZ q.one _ e f];split<;>simp]
    rw[mP e]
   have l:(p:Int)∣det n H*((v k:Nat):Int):=by
    rw[<-w];exact BG fun i d=>cU (t i d)
   rcases s.1.mul _ _ l with h|h
   .exact absurd (df h) r.2.2.2
   .have o:=m.lt k e;have a:=df h;rw[d6 om om]at a;exact a
  have:=m.lead;rw[y5 u]at this;omega
 obtain⟨i,x,o,a⟩:=Mr b;exact⟨i,x,o,fun j f=>dZ fun h=>a j f h⟩
def tv(S:St)(n p:Nat)(H:aJ)(v:Nat->Nat)(hF:fN n H)(hg:kX (det n H) p)(hp:sn p)(hL:lG n p H v)(hG:k8 S) :
  cE 59 [aD n n H,.int .i64 p,aV n (fun k=>v k)] S (fun r S'=>∃b g B S1,r=.tup [.sl 1 b 0 n,.int .i64 0]/\ri n p H v B/\eQ S S1/\iB S1 S' b g n n B):=by
 have h1:=hF.one;have hn:=hF.eight;have hp17:=hp.2;obtain⟨piv,u,C,Z⟩:=Gj hF hg hp hL;refine jr func59 ntmps59 results59 ?_;simp -dsimp only[go_sem,aa];refine(Kx S n p piv H v hF hg hp hL hG u C Z).mono ?_;rintro _ S1 ⟨bx,t,_,L,ht1,hnm,rfl,hx1,hE1⟩;simp -dsimp only[go_sem,aa,cK];have hw:∀i,gV n H p (fun k=>v k) i=pV n H p (fun k=>v k) i:=Ci n H p _;have hwr:=sG (n:=n) (H:=H) (p:=(p:Int)) (v:=fun k=>((v k:Nat):Int)) om;have hwp:0<gV n H p (fun k=>v k) piv%p/\gV n H p (fun k=>v k) piv%p<p:=by
  have:=hwr piv;rw[d6 this.1 this.2];have h0:gV n H p (fun k=>v k) piv≠0:=by rw[hw];exact C
  omega
 have hnd:¬(p:Int)∣gV n H p (fun k=>v k) piv:=fun h=>by have:=df h;omega
 refine(Ak n piv H p (fun k=>v k) _ h1 om om om u (by rw[hw];exact C) (fun i F=>by rw[hw];exact Z i F) (hp.1.gcd' hnd) rfl S1 _ (cI _ _)).mono ?_
 rintro _ S2 ⟨bl,gl,rfl,D,hE2,nl2,nlg2⟩;generalize hinv:qr p (gV n H p (fun k=>v k) piv)=inv at *;have hx2:=hE2.has hx1;simp -dsimp only[go_sem,dd,gX];refine Js ?_
 try simp -dsimp only[go_sem]
 refine aG.intro fun b41 N=>?_
 try simp -dsimp only[go_sem]
 have G:eQ S S2:=hE1.trans hE2;have nbl:S bl=ab:=hE1.none nl2;have P:cV 29 1 S S2 (.sl 1 bl 0 n) n (fun j=>.sl 1 (gl j) 0 n):=⟨G,bO ⟨bl,nbl,rfl,D.outer⟩⟩;have hxf:=P.fresh N;have I:=P.upd (G.none N) hxf ⟨29,1,1,fun j=>[AV.sl 1 bx 0 n].getD j .any⟩;refine cV.app29 (v:=.sl 1 bx 0 n) I om (by simp[eg]) (bO ⟨_,_,_,rfl,ci,rfl,fun h=>hxf _ h rfl⟩) ?_
 intro bc S3 z A _;generalize w:Ae n p piv (fun j=>gV n H p (fun k=>v k) j*inv%p) (fun i=>if i=piv then((v i:Nat):Int)+p*t else v i)=M
 have hcols:bJ S3 bc 29 1 (n+1) (fun j=>.sl 1 (if j=n then bx else gl j) 0 n):=by
  rcases z.2 with⟨h,_⟩|⟨c,_,e,h⟩
  .omega
  .cases e
   exact h.congr fun j _=>by by_cases e:j=n<;>simp[e]
 have hcol:∀c,c<n+1->bJ S3 (if c=n then bx else gl c) 2 1 n (fun i=>.int .i64 (M i c)):=fun c hc=>by
  have via:∀{b:Nat} {g:Nat->AV},bJ S2 b 2 1 n g->bJ S3 b 2 1 n g:=fun {b g} h=>by
   have n41:b≠b41:=bJ.fresh h N;have nbl':b≠bl:=(bJ.ne D.outer h dc).symm
   obtain⟨g',k,k2⟩:=h;exact⟨g',A b _ (by rw[aN n41];exact k) (fun hb=>nbl' (eR.1 hb)),k2⟩
  by_cases e:c=n
  .subst e;rw[ai rfl];refine(via hx2).congr fun i F=>?_;rw[<-w];unfold Ae;simp only[cN,aP]
  .rw[af e];refine(via (D.row c om)).congr fun i F=>?_;rw[<-w];unfold Ae;rw[ai om]
 have hE03:eQ S S3:=z.1;have J:∀j,j<n->0<=gV n H p (fun k=>v k) j*inv%p/\gV n H p (fun k=>v k) j*inv%p<=9972:=fun j _=>by
  have a:=aU (gV n H p (fun k=>v k) j*inv) (show(p:Int)≠0 by omega)
  have b:=aS (gV n H p (fun k=>v k) j*inv) (show(0:Int)<p by omega)
  omega
 have hpt:0<=(p:Int)*t/\(p:Int)*t<=99450756:=by
  have:=cB (show(p:Int)<=9973 by omega) (om:t<=9972) L om
  exact⟨cZ om L,om⟩
 have hxb:∀i,i<n->(if i=piv then((v i:Nat):Int)+p*t else v i).natAbs<=100000000:=fun i F=>by
  have:=hL.lt i F;split<;>omega
 have hP:mz n (fo n M):=by
  rw[<-w];exact JB h1 hn om om u J hxb
 have hMb:∀i j,i<n->j<n+1->-9223372036854775808<=M i j/\M i j<=9223372036854775807:=fun i j F hj=>by
  have:=CK (piv:=piv) (p:=(p:Int)) om om J hxb i j F hj;rw[w]at this;omega
 clear P I z A D hx2 hx1;simp -dsimp only[go_sem]
 repeat refine an ?_
 refine aG.intro fun br fr=>?_;simp -dsimp only[go_sem];refine fq (fun O S=>∃(i:Nat) (g:Nat->Nat),i<=n/\O 11=.sl 1 bc 0 (n+1)/\O 12=.sl 1 br 0 n/\O 47=.int .i64 n/\O 48=.int .i64 i/\eQ S3 S /\
  bJ S br 29 1 n (fun a=>if a<i then .sl 1 (g a) 0 (n+1)else .nil)/\(∀a,a<i->bJ S (g a) 2 1 (n+1) (fun c=>.int .i64 (M a c)))/\∀a c,a<i->c<i->g a=g c->a=c) (fun O S=>n-ca (O 48)) ?_ ?_
 .simp -dsimp only[go_sem];exact⟨0,om,rfl,(eQ.refl S3).upd fr _,fun _=>0,bJ.here fun _ _=>by simp,fun a l=>om,fun a c l=>om⟩
 rintro Q' hQ' O S4 ⟨i,g,F,m,o,q,s,f,Q,K,hI⟩;by_cases y:i<n
 .simp -dsimp only[go_sem,m,q,s,y];refine fq (fun O S'=>∃(j:Nat) (x:AV),j<=n+1/\O 11=.sl 1 bc 0 (n+1)/\O 12=.sl 1 br 0 n/\O 13=.int .i64 i/\O 47=.int .i64 n/\O 48=.int .i64 i/\O 51=.sl 1 bc 0 (n+1)/\O 52=.int .i64 ((n+1:Nat):Int)/\O 53=.int .i64 j/\eQ S3 S' /\
   bJ S' br 29 1 n (fun a=>if a<i then .sl 1 (g a) 0 (n+1)else if a=i then x else .nil)/\(∀a,a<i->bJ S' (g a) 2 1 (n+1) (fun c=>.int .i64 (M a c))/\¬d5 x (g a))/\cV 2 1 S3 S' x j (fun c=>.int .i64 (M i c))) (fun O S=>n+1-ca (O 53)) ?_ ?_
  .simp -dsimp only[go_sem,m,o,q,s];exact⟨0,om,rfl,f,.nil,Q.congr fun a _=>by grind,fun a l=>⟨K a l,by rintro⟨_,_,_,e⟩;cases e⟩,cV.nil f _⟩
  clear Q K f m o q s;rintro Q'' hQ'' O S' ⟨j,x,hj,m,o,e13,q,s,T,V,W,f,Q,K,hX⟩;by_cases E:j<n+1
  .obtain⟨gc,uc,vc⟩:=id (f.has hcols);obtain⟨gd,ud,vd⟩:=id (f.has (hcol j E));obtain⟨g1,u1,v1⟩:=id Q;have xc:gc j=.sl 1 (if j=n then bx else gl j) 0 n:=vc j E
   have xd:gd i=.int .i64 (M i j):=vd i y;have x1:g1 i=x:=by rw[v1 i y];simp
   simp -dsimp only[go_sem,aa,T,V,W,E,uc,xc];refine ip 11 kr ?_
   simp -dsimp only[go_sem,aa,o,e13,y,ud,xd,u1,x1];refine cV.app2 hX om (show eg 1 (.int .i64 (M i j)) by simp[eg]) (bM ⟨_,rfl,rfl⟩) ?_
   intro c S7 Y hk1 A;have hxr:=hX.other u1 om;have u1':=hk1 br _ u1 hxr;simp -dsimp only[go_sem,aa,m,o,e13,q,s,T,V,W,y,u1',aT (om:j<1000000),ca]
   have hrS:S3 br=ab:=fr;refine⟨⟨j+1,om,rfl,Y.1.upd hrS _,.sl 1 c 0 (j+1),bJ.here fun a l=>?_,fun a l=>?_,?_⟩,om⟩
   .have:=v1 a l;grind [bR]
   .obtain⟨r1,r2⟩:=K a l;have hgr:g a≠br:=bJ.ne r1 (bJ.of u1) om;refine⟨(r1.via fun X hX=>hk1 _ _ hX r2).upd hgr _,fun hb=>?_⟩;rw[eR]at hb;rw[<-hb]at A;rcases A with h|h
    .exact r2 h
    .exact bJ.fresh r1 h rfl
   .refine(Y.upd hrS (fun d hd e=>?_) _).congr (fun a l=>by grind)
    rw[e]at hd;exact Y.other u1' om hd
  .simp -dsimp only[go_sem,aa,T,V,W,E];rw[hQ''];simp -dsimp only[go_sem,m,o,q,s,aT (om:i<1000000),ca]
   obtain rfl:j=n+1:=om
   rcases hX.2 with⟨h0,_⟩|⟨c,_,rfl,hC⟩
   .omega
   refine⟨⟨i+1,om,rfl,f,fun a=>if a=i then c else g a,Q.congr fun a l=>by grind,fun a l=>?_,fun a d l hd e=>?_⟩,om⟩
   .by_cases e:a=i
    .subst e;simp only[aO];exact hC
    .simp only[e,aP];exact(K a om).1
   .have k1:=fun a l=>(K a l).2;simp only[eR]at k1
    grind
 have hin:i=n:=om
 rw[hin]at Q K hI;have hIM:eh S4 br g n (n+1) M:=⟨Q.congr fun a l=>by rw[ai l],K,hI⟩
 simp -dsimp only[go_sem,m,q,s,y];rw[hQ'];simp -dsimp only[go_sem,aa,o];refine(rL n (n+1) M h1 om om om hMb _ _ (fD.one hIM.vr.va)).mono ?_;rintro _ S5 ⟨bm,gm,rfl,hM5⟩;simp -dsimp only[go_sem,aa];have hKB:=mC;have hbb:=xM KB om n om;refine(Dz n (Fe n) M hP (by unfold Fe;omega) (fun R H' U hT=>?_) S5 _ (fD.one hM5.1.vr.va)).mono ?_
 .obtain⟨a,b,_,_⟩:=hT.herm hP (fun r c h1 _ h3=>by unfold fo;rw[af om])
  exact⟨a,b⟩
 rintro _ S6 ⟨b,gB,B,rfl,hB,hM6⟩;simp -dsimp only[go_sem];exact⟨b,rfl,gB,B,⟨piv,t,inv,u,L,ht1,hnm,hinv.symm,by rw[hw];exact C,by rw[w];exact hP,by rw[w];exact hB⟩,S5,(hE03.trans f).trans hM5.2.1,hM6⟩



def im(v:Nat->Nat)(p:Int)(piv:Nat)(t:Int):iz:=fun i=>if i=piv then((v i:Nat):Int)+p*t else v i
def ri.char(l:sn p)(h:ri n p H v B) :
  ∃(piv:Nat) (t:Int),piv<n/\gV n H p (fun k=>v k) piv≠0/\(p:Int)*p∣mg n H (im v p piv t) (im v p piv t)/\∀y,eU n n B y↔ND n p (gV n H p (fun k=>v k)) (im v p piv t) y:=by
 have m:=l.2;obtain⟨piv,t,inv,b,o,r,g,d,e,s,u⟩:=h.ex;refine⟨piv,t,b,e,g,fun y=>?_⟩;have f:=sG (n:=n) (H:=H) (p:=(p:Int)) (v:=fun k=>((v k:Nat):Int)) om;have i:=d6 (f piv).1 (f piv).2;have c:=l.1.inv1 (a:=gV n H p (fun k=>v k) piv) (fun x=>e (by have:=df x;omega))
 rw[<-d,i]at c;rw[u.members s y];refine Iy (p:=(p:Int)) om (piv:=piv) b (w:=gV n H p (fun k=>v k)) (q:=fun j=>gV n H p (fun k=>v k) j*inv%p) (inv:=inv) ?_ (fun j C z=>?_) y
 .refine dU ?_;rw[Int.sub_emod,cR,c,d6 (show(0:Int)<=1 by omega) om]
  simp
 .refine dU ?_;have A:(gV n H p (fun k=>v k) j*inv%p*gV n H p (fun k=>v k) piv)%p=gV n H p (fun k=>v k) j%p:=by
   rw[fJ,ld _ (iN _),<-fJ,iT,fJ,cR inv,c,rh,ld _ (iN _)]
  rw[Int.sub_emod,A,Int.sub_self,Int.zero_emod]
def Lg(n:Nat)(H:aJ)(p:Int)(v:iz)(i:Nat):p∣(az n fun j=>H i j*v j)-gV n H p v i:=by
 rw[Ci];exact Int.dvd_self_sub_emod
def yY{p:Int}{v l:iz}(a:∀i,i<n->p∣l i-v i)(i:Nat):p∣(az n fun j=>H i j*l j)-gV n H p v i:=by
 have e:(az n fun j=>H i j*l j)-gV n H p v i=((az n fun j=>H i j*v j)-gV n H p v i)+az n fun j=>H i j*(l j-v j):=by
  have:(az n fun j=>H i j*l j)=(az n fun j=>H i j*v j)+az n fun j=>H i j*(l j-v j):=by
   rw[<-eP];exact aF fun j _=>by grind
  omega
 rw[e];exact jz (Lg n H p v i) (i7 fun j b=>cU (a j b))
def uS{p:Int}{piv:Nat}(i:Nat):p∣im v p piv t i-(v i:Nat):=by
 unfold im;split
 .exact⟨t,om⟩
 .exact⟨0,om⟩
def ri.tri(h:ri n p H v B):(∀r c,r<c->c<n->B r c=0)/\(∀r,r<n->0<B r r)/\(∀c j,c<n->j<c->0<=B c j/\B c j<B c c)/\wC n n B:=by
 obtain⟨piv,t,inv,_,_,_,_,_,_,g,e⟩:=h.ex;have a:=e.herm;exact⟨fun r c b f=>a.up r c b om om,a.pos,a.rng,fun r d=>⟨fun j b f=>a.up r j b d om,a.pos r d⟩⟩
def ri.gram(d:fN n H)(e:sn p)(h:ri n p H v B){i j:Nat}(f:i<n)(g:j<n):(p:Int)*p∣mm n (mm n (fun i j=>B j i) H) B i j:=by
 obtain⟨piv,t,c,l,b,a⟩:=h.char e;rw[CV];exact EM d.red.pd.sym (fun i _=>yY (fun k _=>uS k) i) b ((a _).1 (eU.col f)) ((a _).1 (eU.col g))
def ri.unit(c:sn p)(h:ri n p H v B){k:Nat}(f:k<n):eU n n B (gk ((p:Int)*p) k):=by
 obtain⟨piv,t,b,d,e,a⟩:=h.char c;refine(a _).2 ⟨0,gk p k,fun i _=>?_,?_⟩
 .unfold gk;split<;>simp
 .refine i7 fun i _=>cU ?_;unfold gk;split
  .exact iN _
  .exact iM _
def ri.ent(f:sn p)(h:ri n p H v B){i j:Nat}(d:i<n)(g:j<n):0<=B i j/\B i j<=99460729:=by
 have c:=f.2;obtain⟨k,l,m,o⟩:=h.tri;have s:B i i<=99460729:=by
  have e:=(TL.of_tri o).dvd _ (h.unit f d) i d (fun r t=>by unfold gk;rw[af om])
  unfold gk at e;rw[ai rfl]at e;have q:(0:Int)<p*p/\(p:Int)*p<=99460729:=by
   rw[<-bL];have a:=bs c.2 c.2;have b:=bs c.1 c.1;omega
  have:=l7 q.1 e;omega
 rcases dN i j with h|h|h
 .rw[k i j h g];omega
 .subst h;have:=l i d;omega
 .have:=m i j d h;omega
def Pn{u v:iz}{a c:Nat}(f:n<=8)(g:∀i j,i<n->j<n->(H i j).natAbs<=a)(h:∀i,i<n->(u i).natAbs<=b)(k:∀i,i<n->(v i).natAbs<=c):(mg n H u v).natAbs<=64*(a*b*c):=by
 have l:∀i,i<n->(az n fun j=>H i j*v j).natAbs<=n*(a*c):=fun i m=>by
  refine bU (Bh _ _) (sh fun j d=>?_);rw[cY];exact bs (g i j m d) (k j d)
 have o:(mg n H u v).natAbs<=n*(n*(a*c)*b):=by
  refine bU (Bh _ _) (sh fun j d=>?_);rw[cY];exact bs (l j d) (h j d)
 refine bU o ?_;have p:n*n<=8*8:=bs f f;have q:=aC (a*b*c) p;have e:n*(n*(a*c)*b)=n*n*(a*b*c):=by grind
 omega
def Ox{piv:Nat}(m:fN n H)(f:sn p)(o:lG n p H v)(d:piv<n)(g:pV n H p (fun k=>v k) piv≠0):∃t:Int,0<=t/\t<p/\(p:Int)*p∣mg n H (im v p piv t) (im v p piv t):=by
 have l:=f.2;have e:0<=pV n H p (fun k=>v k) piv/\pV n H p (fun k=>v k) piv<p:=⟨aU _ om,aS _ om⟩;generalize i:pV n H p (fun k=>v k) piv=sl at *;have h2s:0<2*sl%p/\2*sl%p<p:=by
  have a:=aU (2*sl) (show(p:Int)≠0 by omega)
  have b:=aS (2*sl) (show(0:Int)<p by omega)
  have c:2*sl%p≠0:=fun h=>by
   rcases f.1.mul 2 sl (dU h)with h|h
   .have:=l7 om h;omega
   .exact g (by have:=df h;rwa [d6 e.1 e.2]at this)
  omega
 have j:=f.1.inv1 (a:=2*sl) (fun h=>by have:=df h;omega)
 exact⟨_,aU _ om,aS _ om,BB m.red.pd.sym d (show(0:Int)<p by omega) i j rfl o.norm rfl⟩

def BC(p:wC n n B)(d:wC n n B')(q:∀c j,c<n->j<c->0<=B c j/\B c j<B c c)(u:∀c j,c<n->j<c->0<=B' c j/\B' c j<B' c c)
  (C:∀y,eU n n B y↔eU n n B' y):∀i j,i<n->j<n->B i j=B' i j:=by
 have t:=TL.of_tri p;have t':=(TL.of_tri d).congr t.lat C;have v:∀i,i<=n->FH B n i=FH B' n i:=fun i a=>t.uniq t' (n-i) i om a;have hdiag:∀i,i<n->B i i=B' i i:=fun i a=>by
  have f:=t.step i a;have g:=t'.step i a;have D:=t.M_pos n (i+1) om om;rw[v i om,v (i+1) om]at f;rw[v (i+1) om]at D;rw[f]at g;exact Int.eq_of_mul_eq_mul_right om g
 intro i j a s;rcases aA i j with h|h
 .rw[(p i a).1 j h s,(d i a).1 j h s]
 have E:eU n n B (fun r=>1*B r j+(-1)*B' r j):=by
  obtain⟨c,F⟩:=(C _).2 (eU.col (n:=n) (B:=B') s);obtain⟨G,w⟩:=eU.col (n:=n) (B:=B) s;refine⟨fun k=>1*G k+(-1)*c k,fun r q=>?_⟩;have f:=F r q;have g:=w r q;dsimp only at f g ⊢;rw[f,g,<-oH];exact aF fun k _=>by grind
 have key:∀m i,i<n->j<=i->i-j<=m->∀r,r<=i->B r j=B' r j:=by
  intro m
  induction m with
  | zero =>
   intro i a l H r o;obtain rfl:i=j:=om
   rcases aA r i with e|e
   .rw[(p r om).1 i e a,(d r om).1 i e a]
   .obtain rfl:r=i:=om
    exact hdiag r a
  | succ m ih =>
   intro i a l H r o;rcases aA j i with e|e
   .have ih':=ih (i-1) om om om;rcases aA r i with I|I
    .exact ih' r om
    .obtain rfl:r=i:=om
     have J:=t.dvd _ E r a (fun k M=>by rw[ih' k om];omega)
     have N:=q r j a e;have K:=u r j a e;rw[<-hdiag r a]at K;obtain⟨z,L⟩:=J;have b:=(p r a).2;have x:z=0:=by
      rcases fm z 0 with A|A|A
      .have:=cc (om:z<=-1) (co b)
       omega
      .exact A
      .have:=cc (om:1<=z) (co b)
       omega
     rw[x]at L;omega
   .exact ih i a l om r o
 exact key (i-j) i a h (ae _) i (ae _)

def p6(a:sn p):3<=p/\p<=9973:=a.2
def p6z(e:sn p):9<=(p:Int)*p/\(p:Int)*p<=99460729:=by
 obtain⟨c,d⟩:=p6 e;rw[<-bL];have a:=bs c c;have b:=bs d d;omega
def wL(n:Nat)(H:aJ)(p:Nat)(v:Nat->Nat):iz:=gV n H p (fun k=>v k)
structure DH(n p:Nat)(H:aJ)(v:Nat->Nat)(B:aJ):Prop where
 tri:wC n n B
 red:∀c j,c<n->j<c->0<=B c j/\B c j<B c c
 piv:∃i,i<n/\wL n H p v i≠0
 lat:∃l:iz,(∀i,i<n->(p:Int)∣l i-(v i:Nat))/\(p:Int)*p∣mg n H l l/\∀y,eU n n B y↔ND n p (wL n H p v) l y
def ri.nbB(a:sn p)(h:ri n p H v B):DH n p H v B:=by
 obtain⟨piv,t,b,c,d,e⟩:=h.char a;obtain⟨_,_,f,g⟩:=h.tri;exact⟨g,f,⟨piv,b,c⟩,im v p piv t,fun i _=>uS i,d,e⟩
def Ow(d:fN n H)(g:sn p){l x:iz}(k:∀i,i<n->(p:Int)∣x i-(v i:Nat))(f:(p:Int)*p∣mg n H x x)(t:∀i,i<n->(p:Int)∣l i-(v i:Nat))(m:(p:Int)*p∣mg n H l l) :
  ∃a:iz,(∀i,i<n->l i=x i+p*a i)/\(p:Int)∣az n fun i=>wL n H p v i*a i:=by
 have o:=p6 g;have q:∀i,i<n->l i=1*x i+p*((l i-x i)/p):=fun i b=>by
  rw[ir]
  .omega
  .have u:=t i b;have w:=k i b;rw[(om:l i-x i=(l i-(v i:Nat))-(x i-(v i:Nat)))]
   exact Hj u w
 refine⟨fun i=>(l i-x i)/p,fun i b=>by have:=q i b;dsimp only;omega,?_⟩
 generalize y:(fun i=>(l i-x i)/(p:Int))=a;have c:∀i,i<n->l i=1*x i+p*a i:=fun i b=>by rw[<-y];exact q i b
 rw[vg c c,pR,kK d.red.pd.sym x,kK d.red.pd.sym a (fun i=>1*x i+p*a i),pR,pR,kK d.red.pd.sym x a]at m;have z:(p:Int)∣2*mg n H a x:=by
  obtain⟨r,A⟩:=f;obtain⟨s,B⟩:=m;refine⟨s-r-mg n H a a,dF (show(p:Int)≠0 by omega) ?_⟩
  rw[A]at B
  grind
 have C:(p:Int)∣mg n H a x:=by
  rcases g.1.mul _ _ z with h|h
  .have:=l7 om h;omega
  .exact h
 have e:(az n fun i=>wL n H p v i*a i)=mg n H a x-az n fun i=>((az n fun j=>H i j*x j)-wL n H p v i)*a i:=by
  unfold mg;rw[<-kT];exact aF fun i _=>by grind
 show(p:Int)∣az n fun i=>wL n H p v i*a i;rw[e];exact Hj C (i7 fun i _=>eC (yY k i))
def EJ(g:fN n H)(j:sn p){l x:iz}(k:∀i,i<n->(p:Int)∣x i-(v i:Nat))(d:(p:Int)*p∣mg n H x x)(m:∀i,i<n->(p:Int)∣l i-(v i:Nat))(o:(p:Int)*p∣mg n H l l)(y:iz)(h:ND n p (wL n H p v) l y):ND n p (wL n H p v) x y:=by
 obtain⟨a,q,r⟩:=Ow g j k d m o;obtain⟨c,b,s,e⟩:=h;refine⟨c,fun i=>b i+c*a i,fun i f=>by rw[s i f,q i f];grind,?_⟩
 rw[Lq];exact jz e (cU r)
def DH.uniq(e:fN n H)(f:sn p)(h:DH n p H v B)(h':DH n p H v B'):∀i j,i<n->j<n->B i j=B' i j:=by
 obtain⟨l,g,k,m⟩:=h.lat;obtain⟨l',a,b,c⟩:=h'.lat;exact BC h.tri h'.tri h.red h'.red fun y=>⟨fun d=>(c y).2 (EJ e f a b g k y ((m y).1 d)),fun d=>(m y).2 (EJ e f g k a b y ((c y).1 d))⟩
def DH.unit(h:DH n p H v B){k:Nat}:eU n n B (gk ((p:Int)*p) k):=by
 obtain⟨l,_,_,a⟩:=h.lat;refine(a _).2 ⟨0,gk p k,fun i _=>?_,?_⟩
 .unfold gk;split<;>simp
 .refine i7 fun i _=>cU ?_;unfold gk;split
  .exact iN _
  .exact iM _
def DH.ent(d:sn p)(h:DH n p H v B){i j:Nat}(b:i<n)(e:j<n):0<=B i j/\B i j<=(p:Int)*p:=by
 have f:=p6z d;have g:B i i<=(p:Int)*p:=by
  have c:=(TL.of_tri h.tri).dvd _ (h.unit (k:=i)) i b (fun r l=>by unfold gk;rw[af om])
  unfold gk at c;rw[ai rfl]at c;exact l7 om c
 rcases dN i j with a|a|a
 .rw[(h.tri i b).1 j a e];omega
 .subst a;have:=(h.tri i b).2;omega
 .have:=h.red i j b a;omega
def DH.gram(c:fN n H)(h:DH n p H v B){i j:Nat}(d:i<n)(e:j<n):(p:Int)*p∣mm n (mm n (fun i j=>B j i) H) B i j:=by
 obtain⟨l,f,b,a⟩:=h.lat;rw[CV];exact EM c.red.pd.sym (fun i _=>yY f i) b ((a _).1 (eU.col d)) ((a _).1 (eU.col e))
def DG(n p:Nat)(H B:aJ):aJ:=fun i j=>if i<n/\j<n then mm n (mm n (fun i j=>B j i) H) B i j/((p:Int)*p)else 0
def DH.eq(c:fN n H)(h:DH n p H v B){i j:Nat}(a:i<n)(b:j<n):mm n (mm n (fun i j=>B j i) H) B i j=(p:Int)*p*DG n p H B i j:=by
 unfold DG;rw[ai ⟨a,b⟩,ir (h.gram c a b)]
def DH.gent(g:fN n H)(k:sn p)(h:DH n p H v B){i j:Nat}(d:i<n)(f:j<n):(DG n p H B i j).natAbs<=1120325651456000:=by
 have e:=h.eq g d f;rw[CV]at e;have l:=p6z k;have o:=Pn (H:=H) (a:=176000) (b:=p*p) (c:=p*p) g.eight (fun i j d f=>by have:=g.ent i j d f;omega) (u:=fun r=>B r i) (v:=fun r=>B r j) (fun r m=>by have:=h.ent k m d;rw[<-bL]at this;omega) (fun r m=>by have:=h.ent k m f;rw[<-bL]at this;omega)
 rw[e,cY,<-bL,fA]at o;rw[<-bL]at l;have q:p*p*(DG n p H B i j).natAbs<=p*p*(64*(176000*(p*p))):=by
  have:64*(176000*(p*p)*(p*p))=p*p*(64*(176000*(p*p))):=by grind
  omega
 have s:=M8 q om;omega

end Go.Proofs.YtdobfmlmenaajaaGreatDoor
