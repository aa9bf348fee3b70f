/-
  Lemmas for NeighbourForm.
-/
import Derived.Test.YtdobfmlmenaajaaGreatDoorK14
namespace Go.Proofs.YtdobfmlmenaajaaGreatDoor
open Go.RowKit Tryz
open _root_.Classical renaming choose→fN
open _root_.Nat renaming reduceEqDiff→ve
open _root_.Option renaming none→ae,some→fZ
set_option maxHeartbeats 6400000
set_option maxRecDepth 4096
set_option linter.all false
attribute [local go_sem] Nat.reduceAdd Nat.reduceEqDiff Nat.reduceLeDiff Nat.reduceLT reduceCtorEq Int.ofNat_lt decide_true decide_false Int.zero_le_ofNat
attribute [local go_sem ↓] reduceIte
variable{z:AV}{K:AV->Prop}{ops:Array Oper}{a a0 d l q x y:Int}{args:List AV}{b b5 b6 b7 b9 bl bs c f i j k k0 n:Nat}{g g2 gm z0:Nat->AV}{m m':Nat->Int}{v ρ:Nat->Nat}{p:PL}{S S' S'' S0 V:St}{O:Tm}{G:Type}{A B B0 H L L' Q T T' U:az}
def sY(a b:Int)(k:Nat)(c:nb a k)(d:nb b k)(l:k<=10000000)(m:b≠0):PF 247 [.big a,.big b] (.big ((a+a+b)/(b+b))):=by
 refine gN func247 ntmps247 results247 ?_;simp -dsimp only[go_sem];refine ax.intro fun n o=>?_
 try simp -dsimp only[go_sem]
 refine ax.intro fun p h=>?_;have n3_2:=(af h).1
 try simp -dsimp only[go_sem]
 refine ax.intro fun q g=>?_;have n4_3:=(af g).1;have n4_2:=(af (af g).2).1;simp -dsimp only[go_sem];refine jf 15 [[11,12],[12],[]] kr ?_
 simp -dsimp only[go_sem,aa,ai n3_2,ai n4_2,ai n4_3];have i:nb (a+a+b) (k+2):=(c.add c).add (d.mono om);have j:nb (b+b) (k+2):=(d.add d).mono om;refine⟨_,(lZ c c om).pure',_,(lZ (c.add c) (d.mono (k:=k) om) om).pure',_,(lZ d d om).pure',_,(fM i j om om).pure',?_⟩;simp -dsimp only[go_sem];refine ax.intro fun r f=>?_;have n5_4:=(af f).1;have n5_3:=(af (af f).2).1;have n5_2:=(af (af (af f).2).2).1
 try simp -dsimp only[go_sem]
 refine ax.intro fun s e=>?_;have n6_5:=(af e).1;have n6_4:=(af (af e).2).1;have n6_3:=(af (af (af e).2).2).1;have n6_2:=(af (af (af (af e).2).2).2).1;simp only[go_sem,nn n6_5,ai n5_4,ai n6_4,aQ];exact VR.mf rfl
def FC(a b c d v:Int)(k:Nat)(i:nb a k)(j:nb b k)(l:nb c k)(m:nb d k)(p:nb v k)(t:k<=10000000)(q:v≠0):PF 246 [.big a,.big b,.big c,.big d,.big v] (.big ((a*d-b*c)/v)):=by
 refine gN func246 ntmps246 results246 ?_;simp -dsimp only[go_sem];refine ax.intro fun u w=>?_
 try simp -dsimp only[go_sem]
 refine ax.intro fun x r=>?_;have n3_2:=(af r).1
 try simp -dsimp only[go_sem]
 refine ax.intro fun y o=>?_;have n4_3:=(af o).1;have n4_2:=(af (af o).2).1
 try simp -dsimp only[go_sem]
 refine ax.intro fun z n=>?_;have n5_4:=(af n).1;have n5_3:=(af (af n).2).1;have n5_2:=(af (af (af n).2).2).1
 try simp -dsimp only[go_sem]
 refine ax.intro fun A h=>?_;have n6_5:=(af h).1;have n6_4:=(af (af h).2).1;have n6_3:=(af (af (af h).2).2).1;have n6_2:=(af (af (af (af h).2).2).2).1
 try simp -dsimp only[go_sem]
 refine ax.intro fun B g=>?_;have n7_6:=(af g).1;have n7_5:=(af (af g).2).1;have n7_4:=(af (af (af g).2).2).1;have n7_3:=(af (af (af (af g).2).2).2).1;have n7_2:=(af (af (af (af (af g).2).2).2).2).1;simp -dsimp only[go_sem];refine jf 15 [[11,12],[12],[]] kr ?_
 simp -dsimp only[go_sem,aa,ai n3_2,ai n4_2,ai n4_3,ai n5_2,ai n5_3,ai n5_4,ai n6_2,ai n6_3,ai n6_4,ai n6_5,ai n7_2,ai n7_3,ai n7_4,ai n7_5,ai n7_6];have s:nb (a*d-b*c) (k+k+1):=(i.mul m).sub (j.mul l);refine⟨_,(gW i m om).pure',_,(gW j l om).pure',_,(mD (i.mul m) (j.mul l) om).pure',_,(fM s (p.mono om) om q).pure',?_⟩;simp -dsimp only[go_sem];refine ax.intro fun C f=>?_;have n8_7:=(af f).1;have n8_6:=(af (af f).2).1;have n8_5:=(af (af (af f).2).2).1;have n8_4:=(af (af (af (af f).2).2).2).1;have n8_3:=(af (af (af (af (af f).2).2).2).2).1;have n8_2:=(af (af (af (af (af (af f).2).2).2).2).2).1
 try simp -dsimp only[go_sem]
 refine ax.intro fun D e=>?_;have n9_8:=(af e).1;have n9_7:=(af (af e).2).1;have n9_6:=(af (af (af e).2).2).1;have n9_5:=(af (af (af (af e).2).2).2).1;have n9_4:=(af (af (af (af (af e).2).2).2).2).1;have n9_3:=(af (af (af (af (af (af e).2).2).2).2).2).1;have n9_2:=(af (af (af (af (af (af (af e).2).2).2).2).2).2).1;simp only[go_sem,nn n9_8,ai n8_7,ai n9_7,aQ];exact VR.mf rfl
def Ah:dO 195=ae:=by unfold dO;simp
def lX(f g x y:Int)(k:Nat)(b:nb f k)(c:nb g k)(d:nb x k)(e:nb y k)(j:k<=10000000):PF 249 [.agg [.big f,.big g],.big x,.big y] (.big (f*x+g*y)):=by
 refine gN func249 ntmps249 results249 ?_;simp -dsimp only[go_sem,aS,bF,bZ,ct];refine ax.intro fun l m=>?_
 try simp -dsimp only[go_sem]
 refine ax.intro fun n i=>?_;have n4_3:=(af i).1
 try simp -dsimp only[go_sem]
 refine ax.intro fun o h=>?_;have n5_4:=(af h).1;have n5_3:=(af (af h).2).1
 try simp -dsimp only[go_sem]
 refine ax.intro fun p a=>?_;have n6_5:=(af a).1;have n6_4:=(af (af a).2).1;have n6_3:=(af (af (af a).2).2).1;simp -dsimp only[go_sem];refine aN 9 kr ?_
 simp only[go_sem,aa,ai n4_3,ai n5_3,ai n5_4,ai n6_3,ai n6_4,ai n6_5,Ah,ie,Int.toNat_one,aQ,bL,bJ]
 repeat refine an ?_
 refine⟨_,(gW b d om).pure',om,_,(gW c e om).pure',_,(lZ (b.mul d) (c.mul e) om).pure',?_⟩
 simp only[go_sem];exact VR.mf rfl
def RW(n:Nat)(A:az)(i j k:Nat)(b:i<n)(c:j<n)(a:nb (A i j) k)(d:k<=1000000):PF 244 [ι i,ι j,.pat 1 (aL n n A)] (.big (A i j)):=by
 refine gN func244 ntmps244 results244 ?_;simp -dsimp only[go_sem];refine ax.intro fun bc fc=>?_
 try simp -dsimp only[*,go_sem,aL,aY]
 refine(rZ a om).call ?_;simp only[go_sem,aa];exact VR.mf rfl
def RV(n:Nat)(A:az)(v:Int)(i j k:Nat)(e:i+1<n)(f:j+1<n)(l:n<=16)(d:∀a b,a<n->b<n->nb (A a b) k)(g:nb v k)(m:k<=1000000)(h:v≠0):PF 245 [ι i,ι j,.pat 1 (aL n n A),.pat 2 (.big v)] (.big ((A 0 0*A (i+1) (j+1)-A (i+1) 0*A 0 (j+1))/v)):=by
 refine gN func245 ntmps245 results245 ?_;have c:0<n:=om
 have o:=aI (om:i<1000000)
 have p:=aI (om:j<1000000)
 simp -dsimp only[go_sem];refine ax.intro fun bc fc=>?_
 try simp -dsimp only[go_sem,aL,aY]
 refine aN 30 kr ?_
 simp only[*,go_sem,aa]
 repeat refine an ?_
 refine⟨_,(FC (A 0 0) (A (i+1) 0) (A 0 (j+1)) (A (i+1) (j+1)) v k (d _ _ c c) (d _ _ e c) (d _ _ c f) (d _ _ e f) g om h).pure',?_⟩;simp only[go_sem];exact VR.mf rfl
def OJ{m:Nat}(a:i<n)(b:j<m):i*m+j<n*m:=by
 have:=aq m (show i+1<=n from a);rw[cg]at this;omega
def uB{m:Nat}(a:j<m):(i*m+j)/m=i/\(i*m+j)%m=j:=by
 rw[aA];exact⟨by rw[jH om,ed a];rfl,by rw[kM,dR a]⟩
def Gy{x y m N:Nat}(a:y=x+m)(d:1<=m)(c:y<=N)(h:K (.sl 2 b x m)):li 59 (.sl 2 b 0 N) (some (ι (x:Int))) (some (ι (y:Int))) (some (ι (y:Int))) K:=by
 subst a;refine⟨rfl,x,x+m,rfl,rfl,⟨om,om,rfl⟩,om,c,?_⟩
 show K (if x=0∨x<x+m then AV.sl 2 b (0+x) (x+m-x)else AV.lst 2 0 fun _=>AV.any)
 rw[aj om,aJ,Nat.add_sub_cancel_left];exact h
structure kV(S:St)(b e n m:Nat)(A:az):Prop where
 outer:a6 S b 59 1 n (fun a=>.sl 2 e (a*m) m)
 inner:∃g,S e=some ⟨50,2,n*m,g⟩/\∀a c,a<n->c<m->g (a*m+c)=.big (A a c)
def kV.row{e m:Nat}(h:kV S b e n m A){a:Nat}(c:a<n):a*m+m<=n*m:=by
 have:=aq m (show a+1<=n from c)
 rwa [cg]at this
def kV.vr{e m:Nat}(h:kV S b e n m A):VR S (.sl 1 b 0 n) (aL n m A):=by
 obtain⟨g,f,i⟩:=h.inner;exact VR.sl h.outer om fun a d=>by
  rw[aJ];exact VR.sl (a6.of f) (h.row d) fun c j=>by rw[i a c d j];exact VR.mf rfl
def kV.ext{e m:Nat}(h:kV S b e n m A)(a:dy S S'):kV S' b e n m A:=by
 obtain⟨g,c,d⟩:=h.inner;exact⟨a.has h.outer,g,a _ _ c,d⟩
def kV.via{e m:Nat}(h:kV S b e n m A)(a:∀X,S b=some X->S' b=some X)(c:∀X,S e=some X->S' e=some X):kV S' b e n m A:=by
 obtain⟨g,d,f⟩:=h.inner;obtain⟨g',i,j⟩:=h.outer;exact⟨⟨g',a _ i,j⟩,g,c _ d,f⟩
def FMF(f:Nat)(args:List AV)(n m:Nat)(A:az):Prop:=∀S args',eI S args' args->cJ f args' S (fun r S'=>∃b e,r=.sl 1 b 0 n/\kV S' b e n m A/\dy S S'/\S b=ae/\S e=ae)
def kV.only{e m:Nat}(h:kV S b e n m A)(l:∀g,S e=some ⟨50,2,n*m,g⟩->∀j,j<n*m->uJ (g j)=true):kV (eJ S b (fun _=>e) 1) b e n m A/\Gn (eJ S b (fun _=>e) 1):=by
 obtain⟨g,d,o⟩:=h.inner;obtain⟨g',f,i⟩:=h.outer;have p:eJ S b (fun _=>e) 1 b=S b:=by unfold eJ;rw[aj rfl]
 have q:eJ S b (fun _=>e) 1 e=S e:=by
  unfold eJ;split
  .rfl
  .rw[aj ⟨0,om,rfl⟩]
 refine⟨⟨⟨g',by rw[p];exact f,i⟩,g,by rw[q];exact d,o⟩,fun c X a j k=>?_⟩
 unfold eJ at a;split at a
 .rename_i ec;subst ec;rw[a]at f;cases f;show uJ (g' j)=true;rw[i j k];rfl
 .split at a
  .rename_i ec;obtain⟨_,_,rfl⟩:=ec;rw[a]at d;cases d;exact l g a j k
  .cases a
def FMF.of{m:Nat}(h:cJ f args St.none (fun r S'=>∃b e,r=.sl 1 b 0 n/\kV S' b e n m A/\∀g,S' e=some ⟨50,2,n*m,g⟩->∀j,j<n*m->uJ (g j)=true)):FMF f args n m A:=fun S args' k=>by
 have c:cJ f args St.none (fun r S'=>∃b e,r=.sl 1 b 0 n/\kV S' b e n m A/\Gn S'):=h.less fun r S' ⟨b,e,er,a,i⟩=>⟨eJ S' b (fun _=>e) 1,iQ S' b _ 1,b,e,er,(a.only i).1,(a.only i).2⟩;refine(c.frame k ?_).mono ?_
 .rintro r S1 ⟨b,e,rfl,_,l⟩;exact⟨rfl,l⟩
 .rintro r S' ⟨S1,⟨b,e,rfl,a,_⟩,d,rfl⟩;obtain⟨g,c,o⟩:=a.inner;exact⟨b,e,rfl,⟨(a.outer.join d).1,g,(qm d c).1,o⟩,nT S S1,(a.outer.join d).2,(qm d c).2⟩
def zq(n m F:Nat)(l:List AV)(A:az)(hF:11<=F/\F<252)(L:1<=n)(T:n<=16)(U:1<=m)(V:m<=16)(W:∀i j:Nat,i<n->j<m->PF F ([ι i,ι j]++l) (.big (A i j))):FMF 243 [ι n,ι m,.fn F l] n m A:=by
 have X:n*m<=256:=bB T V;have wnm:ω ((n:Int)*m)=((n*m:Nat):Int):=by rw[aX];exact i64_in (by rw[<-aX];omega) (by rw[<-aX];omega)
 refine FMF.of (iZ func243 ntmps243 results243 ?_);simp -dsimp only[go_sem,wnm]
 repeat refine an ?_
 refine ax.intro fun be fe=>?_
 repeat refine an ?_
 refine ax.intro fun bc fc=>?_;have nc_e:=(af fc).1;simp only[go_sem,cQ];have p:bc≠be:=nc_e;refine aC (fun O S'=>∃(i:Nat) (v w:Nat->AV),i<=n/\O 1=ι m/\O 2=.fn F l/\O 7=.sl 2 be 0 (n*m)/\O 8=.sl 1 bc 0 n/\O 18=ι n/\O 19=ι i/\S' bc=some ⟨59,1,n,v⟩/\(∀a,a<i->v a=.sl 2 be (a*m) m)/\S' be=some ⟨50,2,n*m,w⟩/\(∀a b,a<i->b<m->w (a*m+b)=.big (A a b))) (fun O S=>n-bS (O 19)) ?_ ?_
 .simp only[go_sem,ai nc_e];exact⟨0,om,rfl,_,rfl,fun a q=>om,_,rfl,fun a b q=>om⟩
 .rintro O S' ⟨i,v,w,hi,x,y,z,B,d,f,M,E,G,C⟩;by_cases k:i<n
  .have H:i*m+m<=n*m:=by
    have:=aq m (show i+1<=n from k)
    rwa [cg]at this
   have w1:ω ((i:Int)*m)=((i*m:Nat):Int):=by rw[aX];exact i64_in (by rw[<-aX];omega) (by rw[<-aX];omega)
   have Y:=aI (om:i<1000000)
   have Z:ω (((i+1:Nat):Int)*m)=((i*m+m:Nat):Int):=by
    rw[<-aX,cg];exact i64_in om om
   simp only[*,go_sem,aa,du];refine Gy rfl U H ?_;simp only[go_sem,dN];refine aC (fun O S'=>∃(j:Nat) (I D:Nat->AV),j<=m/\O 1=ι m/\O 2=.fn F l/\O 7=.sl 2 be 0 (n*m)/\O 8=.sl 1 bc 0 n/\O 9=ι i/\O 18=ι n/\O 19=ι i/\O 42=ι m/\O 43=ι j/\S' bc=some ⟨59,1,n,I⟩/\(∀a,a<i+1->I a=.sl 2 be (a*m) m)/\S' be=some ⟨50,2,n*m,D⟩/\(∀a b,a<i->b<m->D (a*m+b)=.big (A a b))/\(∀b,b<j->D (i*m+b)=.big (A i b))) (fun O S=>m-bS (O 43)) ?_ ?_
   .simp only[*,go_sem,ai p];refine⟨0,om,rfl,_,rfl,fun a q=>?_,_,rfl,C,fun b o=>om⟩
    by_cases e:a=i
    .subst e;simp[aQ]
    .simp only[aQ,e,aH];exact E a om
   .clear x y z B d f M E G C Y Z;rintro O S' ⟨j,I,D,hj,x,y,z,B,e9,d,f,r,s,J,K,N,P,Q⟩;by_cases c:j<m
    .have x6:=K i om;simp -dsimp only[*,go_sem];refine aN 10 kr ?_
     simp only[go_sem,aa,x,y,z,B,e9,d,f,r,s,k,c,J,x6,N,aI (om:j<1000000),bS]
     repeat refine an ?_
     refine⟨_,(W i j k c).pure',OJ k c,trivial,⟨j+1,om,rfl,_,(aG p).trans J,K,_,rfl,fun a b q o=>?_,fun b o=>?_⟩,om⟩
     .have:a*m+b≠i*m+j:=fun h=>by
       have L:=(uB (i:=a) o).1;rw[h,(uB (i:=i) c).1]at L;omega
      simp only[aQ,this,aH];exact P a b q o
     .by_cases e:b=j
      .subst e;simp[aQ]
      .have:i*m+b≠i*m+j:=om
       simp only[aQ,this,aH];exact Q b om
    .simp only[go_sem,x,y,z,B,d,f,r,s,c,aI (om:i<1000000),bS]
     refine⟨⟨i+1,om,rfl,_,J,K,_,N,fun a b q o=>?_⟩,om⟩
     by_cases e:a=i
     .subst e;exact Q b om
     .exact P a b om o
  .obtain rfl:i=n:=om
   simp only[*,go_sem,aa];refine⟨bc,rfl,be,⟨⟨v,M,E⟩,w,G,C⟩,fun g R t ht=>?_⟩;rw[G]at R;cases R;have u:0<m:=om
   have e:=C (t/m) (t%m) (by rw[oa u];exact ht) (di _ u)
   rw[aA (t/m) m,cV]at e;rw[e];rfl

def DC{p:Nat->Prop}(h:∃n,p n):∃n,p n/\∀m,p m->n<=m:=by
 obtain⟨n,c⟩:=h
 induction n using Nat.strongRecOn with
 | _ n ih =>
  by_cases b:∃m,m<n/\p m
  .obtain⟨m,a,d⟩:=b;exact ih m a d
  .exact⟨n,c,fun m h=>by
    rcases aB m n with a|a
    .exact absurd ⟨m,a,h⟩ b
    .exact a⟩
def FO{c:Code}{Q:AX->Tm->St->Prop}(I:G->Tm->St->Prop)(m:G->Nat)(l:∃g,I g O S)
  (n:∀Q',Q'=Q->∀g O S,I g O S->∀R:Tm->St->Prop,(∀g' O' S',I g' O' S'->m g'<m g->R O' S')->Aw c (AX.seq R Q') O S):Aw (.loop c) Q O S:=by
 classical
 have d:∀O S,(∃g,I g O S)->∃k,(∃g,I g O S/\m g=k)/\∀j,(∃g,I g O S/\m g=j)->k<=j:=fun O S ⟨g,e⟩=>DC ⟨m g,g,e,rfl⟩;refine aC (fun O S=>∃g,I g O S) (fun O S=>if h:∃g,I g O S then fN (d O S h)else 0) l ?_
 intro O S i;obtain⟨⟨g,e,o⟩,_⟩:=dj (d O S i);refine n Q rfl g O S e _ ?_;intro g' O' S' b f;have a:∃g,I g O' S':=⟨g',b⟩;refine⟨a,?_⟩;rw[SY i,SY a,<-o];exact dG ((dj (d O' S' a)).2 _ ⟨g',b,rfl⟩) f
def Mp:BA 195 (.agg [.big x,.big y]) (ι 0) K=K (.big x):=by
 refine propext ⟨fun h=>?_,fun h=>a9 ⟨rfl,_,_,rfl,trivial,trivial,a9 rfl,by rwa [aj rfl]⟩⟩
 rcases h with⟨_,p,q,e,_,_,_,a⟩|⟨h,_⟩
 .cases e;rwa [aj rfl]at a
 .exact absurd h sm
def Mo:BA 195 (.agg [.big x,.big y]) (ι 1) K=K (.big y):=by
 refine propext ⟨fun h=>?_,fun h=>a9 ⟨rfl,_,_,rfl,trivial,trivial,aR rfl,by rwa [ah dc]⟩⟩
 rcases h with⟨_,p,q,e,_,_,_,a⟩|⟨h,_⟩
 .cases e;rwa [ah dc]at a
 .exact absurd h sm
def iW{K:Tm->St->Prop}(P:Tm->St->Prop)(a:P O S)(h:∀O T,P O T->Ix ops O T K):Ix ops O S K:=h O S a
def Pb{b:Int}:decide (jU a b<0)=decide (a<b):=by
 unfold jU;split
 .simp[*]
 .split<;>simp[*]
def so(S:St)(b:Nat)(p:PL):Prop:=a6 S b 197 2 7 (fun j=>[AV.big p.a,.big p.b,.big p.c,.big p.f0,.big p.f1,.big p.s0,.big p.s1].getD j .any)
def so.ext(h:so S b p)(a:dy S S'):so S' b p:=a.has h
def zf(S:St)(b:Nat)(p:PL)(k:Nat)(f:so S b p)(i:nb p.a k)(j:nb p.c k)(d:3<=k)(x:k<=1000000):cJ 208 [.ptr 2 b 0] S (fun r S'=>r=.bool (decide (4*p.c<3*p.a))/\dy S S'):=by
 refine iZ func208 ntmps208 results208 ?_;simp -dsimp only[go_sem,aa];refine(gR (a:=4) om om).call ?_;simp -dsimp only[go_sem,aa];refine(gR (a:=3) om om).call ?_;simp -dsimp only[go_sem];refine ax.intro fun n h=>?_
 try simp -dsimp only[go_sem]
 refine ax.intro fun o e=>?_;have n4_3:=(af e).1;obtain⟨g,u,v⟩:=id f;have q:b≠n:=a6.fresh f h;have s:b≠o:=a6.fresh f (af e).2;have t:g 0=.big p.a:=v 0 om;have w:g 2=.big p.c:=v 2 om;simp -dsimp only[go_sem,aa,nn n4_3];refine aN 15 kr ?_
 simp only[go_sem,aa,ai n4_3,q,s,u,t,w,dN];have l:nb (4:Int) k:=(show nb (4:Int) 3 by unfold nb;decide).mono d
 have m:nb (3:Int) k:=(show nb (3:Int) 3 by unfold nb;decide).mono d
 refine⟨_,(gW l j om).pure',_,(gW m i om).pure',_,(rt (l.mul j) (m.mul i) om).pure',?_⟩;simp only[go_sem,Pb];exact((((dy.refl S).upd h _).upd (af e).2 _).upd h _).upd (af e).2 _
def JV{m:Nat}(h:¬4*p.c<3*p.a):sk m p=p:=by
 cases m with
 | zero=>rfl
 | succ m=>unfold sk;rw[ah h]
def so.get(h:so S b p):∃g,S b=some ⟨197,2,7,g⟩/\g 0=.big p.a/\g 1=.big p.b/\g 2=.big p.c/\g 3=.big p.f0/\g 4=.big p.f1/\g 5=.big p.s0/\g 6=.big p.s1:=by
 obtain⟨g,u,v⟩:=h;exact⟨g,u,v 0 om,v 1 om,v 2 om,v 3 om,v 4 om,v 5 om,v 6 om⟩
def so.of(u:S b=some ⟨197,2,7,g⟩)(d:g 0=.big p.a)(e:g 1=.big p.b)(f:g 2=.big p.c)(h:g 3=.big p.f0)(j:g 4=.big p.f1)(k:g 5=.big p.s0)(l:g 6=.big p.s1):so S b p:=⟨g,u,fun i m=>by
 match i,m with
 | 0,_=>exact d
 | 1,_=>exact e
 | 2,_=>exact f
 | 3,_=>exact h
 | 4,_=>exact j
 | 5,_=>exact k
 | 6,_=>exact l⟩
def so.here(d:g 0=.big p.a)(e:g 1=.big p.b)(f:g 2=.big p.c)(h:g 3=.big p.f0)(i:g 4=.big p.f1)(j:g 5=.big p.s0)(k:g 6=.big p.s1):so (S.upd b ⟨197,2,7,g⟩) b p:=so.of ca d e f h i j k
def so.fresh(h:so S b p)(a:S c=ae):b≠c:=a6.fresh h a
def F8(b:Nat)(S S':St):Prop:=∀d X,d≠b->S d=some X->S' d=some X
def F8.refl(b:Nat)(S:St):F8 b S S:=fun _ _ _ h=>h
def F8.ext(h:F8 b S S')(k:dy S' S''):F8 b S S'':=fun d X a c=>k d X (h d X a c)
def F8.upd(h:F8 b S S')(X:eo):F8 b S (S'.upd b X):=fun d Y a c=>by rw[aG a];exact h d Y a c
def GL{e:Nat}(hA:Pd A n)(hk:0<k)(hn:k<n)(h0:det k A<=2^e)(h1:ci A (k-1) 1 1<=2^e)(hd:det (k-1) A*det (k+1) A+1<=2^e)(he:e<=100000)(S:St)(bp W:Nat)(P:PL)(J:AR A n k e P)(K:so S bp P)(X:P.a<=W) :
  cJ 248 [.ptr 2 bp 0] S (fun _ S'=>so S' bp (sk W P)/\F8 bp S S'):=by
 refine fy func248 rfl 100 ntmps248 kr sm ?_
 rw[jZ,results248];simp -dsimp only[go_sem];refine FO (G:=Nat×PL) (fun x O S'=>O 0=.ptr 2 bp 0/\AR A n k e x.2/\x.2.a<=x.1/\sk x.1 x.2=sk W P/\so S' bp x.2/\F8 bp S S') (fun x=>x.1) ?_ ?_
 .exact⟨(W,P),by simp only[go_sem],J,X,rfl,K,F8.refl _ _⟩
 clear J K X;rintro Q' hQ' ⟨m,p⟩ O S' ⟨z,J,X,hp,K,hF⟩ R hR;dsimp only at J X hp K hR;obtain⟨z1,z2,z3,z4,z5,z6,z7⟩:=J.bits hA hk hn h0 h1 (om:e<e+3)
 simp -dsimp only[go_sem,aa,z];refine(zf S' bp p (e+3) K z1 z3 om om).mono ?_;rintro _ S1 ⟨rfl,hE⟩;have d:=K.ext hE;have f:=hF.ext hE;by_cases Y:4*p.c<3*p.a
 .obtain⟨g,u,l,o,r,s,t,v,w⟩:=d.get;simp -dsimp only[*,go_sem];refine fm 12 kr ?_
  simp -dsimp only[go_sem,aa,z,u,l,r];refine mh (fun T=>so T bp ⟨p.c,p.b,p.a,p.f0,p.f1,p.s0,p.s1⟩/\F8 bp S T) ⟨so.here (by simp[aQ]) (by simp[aQ,o]) (by simp[aQ]) (by simp[aQ,s]) (by simp[aQ,t]) (by simp[aQ,v]) (by simp[aQ,w]),(f.upd _).upd _⟩ ?_
  clear d f u l o r s t v w hE K hF;clear g S1 S';rintro S1 ⟨d,f⟩;obtain⟨g,u,l,o,r,s,t,v,w⟩:=d.get;dsimp only at l o r s t v w;refine fm 12 kr ?_
  simp -dsimp only[go_sem,aa,z,u,s,t,v,w,dZ,aS,bF,bZ,ct];refine mh (fun T=>so T bp ⟨p.c,p.b,p.a,p.s0,p.s1,p.f0,p.f1⟩/\F8 bp S T) ⟨so.here (by simp[ft,l]) (by simp[ft,o]) (by simp[ft,r]) (by simp[ft]) (by simp[ft]) (by simp[ft]) (by simp[ft]),(f.upd _).upd _⟩ ?_
  clear d f u l o r s t v w;clear g S1;rintro S1 ⟨d,f⟩;obtain⟨g,u,l,o,r,s,t,v,w⟩:=d.get;dsimp only at l o r s t v w;refine aN 10 kr ?_
  simp -dsimp only[go_sem,aa,z,u,l,o];obtain⟨hc0,ha0⟩:0<p.a/\0<p.c:=J.pos hk hn;refine⟨_,(sY p.b p.c (e+3) z2 z3 om om).pure',?_⟩;have y:nb (fY p.b p.c) (e+6):=by
   unfold fY;refine nb.of_le (DG om) ?_;exact(((show nb p.b (e+3)from z2).add z2).add (show nb p.c (e+4)from nb.mono (k:=e+3) z3 om)).mono om
  rw[show(p.b+p.b+p.c)/(p.c+p.c)=fY p.b p.c from rfl];generalize hq:fY p.b p.c=q at *;refine ax.intro fun C Q=>?_;have U:=d.fresh Q;simp -dsimp only[go_sem];refine iW (fun O T=>O 0=.ptr 2 bp 0/\O 2=.ptr 2 C 0/\so T bp ⟨p.c,p.b,p.a,p.s0,p.s1,p.f0,p.f1⟩/\cT T C 50 2 (.big q)/\F8 bp S T) ⟨by simp only[go_sem,z],by simp only[go_sem],d.ext (((dy.refl S1).upd Q _).upd Q _),cT.set,f.ext (((dy.refl S1).upd Q _).upd Q _)⟩ ?_
  clear d f u l o r s t v w z Q;clear g S1 O;rintro O S1 ⟨z,L,d,j,f⟩;obtain⟨g,u,l,o,r,s,t,v,w⟩:=d.get;dsimp only at l o r s t v w;obtain⟨M,D,F⟩:=j;refine aN 12 kr ?_
  simp -dsimp only[go_sem,aa,z,L,u,l,o,D,F];have m1:=y.mul (show nb p.c (e+6)from nb.mono (k:=e+3) z3 om);have m2:=(show nb p.b (e+6+(e+6))from nb.mono (k:=e+3) z2 om).sub m1;refine⟨_,(gW y (show nb p.c (e+6)from nb.mono (k:=e+3) z3 om) om).pure',_,(mD (show nb p.b (e+6+(e+6))from nb.mono (k:=e+3) z2 om) m1 om).pure',?_⟩;refine ax.intro fun Z H=>?_;have n3:=d.fresh H;have n23:C≠Z:=cT.fresh ⟨M,D,F⟩ H;simp -dsimp only[go_sem];generalize hb':p.b-q*p.c=b' at *;refine iW (fun O T=>O 0=.ptr 2 bp 0/\O 2=.ptr 2 C 0/\O 3=.ptr 2 Z 0/\so T bp ⟨p.c,p.b,p.a,p.s0,p.s1,p.f0,p.f1⟩/\cT T C 50 2 (.big q)/\cT T Z 50 2 (.big b')/\F8 bp S T) ⟨by simp only[go_sem,z],by simp only[go_sem,L],by simp only[go_sem],d.ext (((dy.refl S1).upd H _).upd H _),cT.ext ⟨M,D,F⟩ (((dy.refl S1).upd H _).upd H _),cT.set,f.ext (((dy.refl S1).upd H _).upd H _)⟩ ?_
  clear d f u l o r s t v w z L H D F;clear g S1 O M;rintro O S1 ⟨z,L,e3,d,j,V,f⟩;obtain⟨g,u,l,o,r,s,t,v,w⟩:=d.get;dsimp only at l o r s t v w;obtain⟨M,D,F⟩:=id j;obtain⟨g3,u3,y3⟩:=id V;have U:C≠bp:=fun h=>by rw[h,u]at D;cases D
  have n3:Z≠bp:=fun h=>by rw[h,u]at u3;cases u3
  refine aN 16 kr ?_
  simp only[go_sem,aa,z,L,e3,u,o,r,D,F,u3,y3];have k1:nb (p.b+b') (2*e+14):=((show nb p.b (2*e+13)from nb.mono (k:=e+3) z2 om).add (m2.mono om));have k2:=(y.mono (om:e+6<=2*e+14)).mul k1
  refine⟨_,(lZ (show nb p.b (2*e+13)from nb.mono (k:=e+3) z2 om) (m2.mono om) om).pure',_,(gW (y.mono (om:e+6<=2*e+14)) k1 om).pure',_,(mD (show nb p.a (2*e+14+(2*e+14))from nb.mono (k:=e+3) z1 om) k2 om).pure',?_⟩
  simp only[*,go_sem,dZ,aQ];generalize hc':p.a-q*(p.b+b')=c' at *;refine cA (fun O T=>∃i:Nat,i<=2/\O 0=.ptr 2 bp 0/\O 2=.ptr 2 C 0/\O 79=.agg [.big p.s0,.big p.s1]/\O 80=ι i/\so T bp ⟨p.c,b',c',p.s0,p.s1,if 0<i then p.f0-q*p.s0 else p.f0,if 1<i then p.f1-q*p.s1 else p.f1⟩/\cT T C 50 2 (.big q)/\F8 bp S T) (fun O T=>2-bS (O 80)) ?_ ?_
  .simp only[*,go_sem];exact⟨0,om,rfl,so.here (by simp[aQ,l]) (by simp[aQ]) (by simp[aQ]) (by simp[aQ,s]) (by simp[aQ,t]) (by simp[aQ,v]) (by simp[aQ,w]),(j.upd U _).upd U _,(f.upd _).upd _⟩
  clear d j V f u l o r s t v w z L e3 D F u3 y3 k1 k2;clear g S1 O M g3;rintro Q2 hQ2 O T ⟨i,hi,z,L,N,B,d,j,f⟩;have b2p:C≠bp:=U;by_cases hi2:i<2
  .rcases (om:i=0∨i=1)with rfl|rfl
   .obtain⟨g,u,l,o,r,s,t,v,w⟩:=d.get;simp only[cB,wQ,aH]at l o r s t v w;obtain⟨M,D,F⟩:=id j;rw[show((0:Nat):Int)=0 from rfl]at B;simp -dsimp only[go_sem,N,B,Mp,show decide ((0:Int)<2)=true from rfl];refine ax.intro fun b5 I=>?_;have n5:=d.fresh I;have E:C≠b5:=j.fresh I;simp -dsimp only[go_sem,aa,B];refine aN 15 kr ?_
    simp only[*,go_sem,aa,Ah,ie,aQ]
    repeat refine an ?_
    have j1:=y.mul (show nb p.s0 (e+6)from nb.mono (k:=e+3) z6 om);refine⟨_,(gW y (show nb p.s0 (e+6)from nb.mono (k:=e+3) z6 om) om).pure',_,(mD (show nb p.f0 (e+6+(e+6))from nb.mono (k:=e+3) z4 om) j1 om).pure',?_⟩;simp only[go_sem,ie,Int.toNat_one,show ω ((0:Int)+1)=1 from by decide,dC,bS]
    repeat refine an ?_
    exact⟨⟨1,om,rfl,so.here (by simp[aQ,l]) (by simp[aQ,o]) (by simp[aQ,r]) (by simp[aQ,s]) (by simp[aQ,t]) (by simp[aQ]) (by simp[aQ,w]),((j.upd E _).upd E _).upd U _,(f.ext (((dy.refl T).upd I _).upd I _)).upd _⟩,om⟩
   .obtain⟨g,u,l,o,r,s,t,v,w⟩:=d.get;simp only[cB,aH,Nat.zero_lt_one,aE]at l o r s t v w;obtain⟨M,D,F⟩:=id j;rw[show((1:Nat):Int)=1 from rfl]at B;simp -dsimp only[go_sem,N,B,Mo,show decide ((1:Int)<2)=true from rfl];refine ax.intro fun b5 I=>?_;have n5:=d.fresh I;have E:C≠b5:=j.fresh I;simp -dsimp only[go_sem,aa,B];refine aN 15 kr ?_
    simp only[*,go_sem,aa,Ah,Int.toNat_one,aQ]
    repeat refine an ?_
    have j1:=y.mul (show nb p.s1 (e+6)from nb.mono (k:=e+3) z7 om);refine⟨_,(gW y (show nb p.s1 (e+6)from nb.mono (k:=e+3) z7 om) om).pure',_,(mD (show nb p.f1 (e+6+(e+6))from nb.mono (k:=e+3) z5 om) j1 om).pure',?_⟩;simp only[go_sem,Int.toNat_one,show ω ((1:Int)+1)=2 from by decide,bS]
    repeat refine an ?_
    exact⟨⟨2,om,rfl,so.here (by simp[aQ,l]) (by simp[aQ,o]) (by simp[aQ,r]) (by simp[aQ,s]) (by simp[aQ,t]) (by simp[aQ,v]) (by simp[aQ]),((j.upd E _).upd E _).upd U _,(f.ext (((dy.refl T).upd I _).upd I _)).upd _⟩,om⟩
  .obtain rfl:i=2:=om
   simp only[go_sem,N,B,show ¬((2:Nat):Int)<2 by decide]
   rw[hQ2];simp only[go_sem];obtain⟨m',rfl⟩:∃m',m=m'+1:=⟨m-1,om⟩
   have enx:(⟨p.c,b',c',p.s0,p.s1,p.f0-q*p.s0,p.f1-q*p.s1⟩:PL)=p.nx:=by
    unfold PL.nx;rw[hq,hb',hc']
   obtain⟨w1,w2⟩:=J.nx hA hk hn hd Y;refine hR (m',p.nx) _ _ ⟨by simp only[go_sem,z],w1,by show p.nx.a<=(m':Int);omega,?_,?_,f⟩ (by show m'<m'+1;omega)
   .rw[<-hp];show _=sk (m'+1) p;rw[sk,aj Y]
   .rw[<-enx];simpa using d
 .simp only[go_sem,z,Y];rw[hQ'];simp only[go_sem];rw[<-hp,JV Y];exact⟨d,f⟩

structure pF where
 bs:Nat
 bm:Nat
 bl:Nat
 bb:Nat
 gl:Nat->Nat
 gb:Nat->Nat
variable{M:pF}
structure lH(S:St)(M:pF)(n:Nat)(m:Nat->Int)(L T:az):Prop where
 cell:a6 S M.bs 160 1 4 (fun j=>[AV.sl 2 M.bm 0 (n+1),.sl 1 M.bl 0 n,.sl 1 M.bb 0 n,.mfn 206 [.ptr 1 M.bs 0]].getD j .any)
 mino:iV S M.bm (n+1) m
 lamo:a6 S M.bl 59 1 n (fun i=>.sl 2 (M.gl i) 0 i)
 lamr:∀i,i<n->iV S (M.gl i) i (L i)
 bas:dr S M.bb M.gb n n T
 n1:∀i,i<n->M.gl i≠M.bm
 n2:∀i,i<n->M.gb i≠M.bm
 n3:∀i j,i<n->j<n->M.gl i≠M.gb j
 n4:∀i j,i<n->j<n->M.gl i=M.gl j->i=j
def lH.ext(h:lH S M n m L T)(a:dy S S'):lH S' M n m L T :=
 ⟨a.has h.cell,a.has h.mino,a.has h.lamo,fun i b=>a.has (h.lamr i b),h.bas.ext a,h.n1,h.n2,h.n3,h.n4⟩
def lH.congr(h:lH S M n m L T)(b:∀k,k<n+1->m k=m' k)(c:∀i j,i<n->j<i->L i j=L' i j)(d:∀i j,i<n->j<n->T i j=T' i j):lH S M n m' L' T' :=
 ⟨h.cell,h.mino.congr fun k e=>by rw[b k e],h.lamo,fun i a=>(h.lamr i a).congr fun j f=>by rw[c i j a f],h.bas.congr d,h.n1,h.n2,h.n3,h.n4⟩
def nG(M:pF)(n b:Nat):Prop:=b=M.bs∨b=M.bm∨b=M.bl∨b=M.bb∨∃i,i<n/\(b=M.gl i∨b=M.gb i)
def lH.inn(h:lH S M n m L T){c:Nat}(a:S c=ae):¬nG M n c:=by
 rintro (e|e|e|e|⟨i,b,e|e⟩)
 .exact a6.fresh h.cell a e.symm
 .exact a6.fresh h.mino a e.symm
 .exact a6.fresh h.lamo a e.symm
 .exact a6.fresh h.bas.outer a e.symm
 .exact a6.fresh (h.lamr i b) a e.symm
 .exact a6.fresh (h.bas.row i b) a e.symm
def nG.ne(h:¬nG M n b):M.bs≠b/\M.bm≠b/\M.bl≠b/\M.bb≠b/\(∀i,i<n->M.gl i≠b)/\∀i,i<n->M.gb i≠b :=
 ⟨fun e=>h (a9 e.symm),fun e=>h (aR (a9 e.symm)),fun e=>h (aR (aR (a9 e.symm))),fun e=>h (aR (aR (aR (a9 e.symm)))),
  fun i a e=>h (aR (aR (aR (aR ⟨i,a,a9 e.symm⟩)))),fun i a e=>h (aR (aR (aR (aR ⟨i,a,aR e.symm⟩))))⟩
def lH.upd(h:lH S M n m L T){c:Nat}(a:¬nG M n c)(X:eo):lH (S.upd c X) M n m L T :=
 ⟨h.cell.upd (fun e=>a (a9 e.symm)) _,h.mino.upd (fun e=>a (aR (a9 e.symm))) _,h.lamo.upd (fun e=>a (aR (aR (a9 e.symm)))) _,
  fun i b=>(h.lamr i b).upd (fun e=>a (aR (aR (aR (aR ⟨i,b,a9 e.symm⟩))))) _,
  h.bas.upd (fun e=>a (aR (aR (aR (a9 e.symm))))) (fun i b e=>a (aR (aR (aR (aR ⟨i,b,aR e.symm⟩))))) _,h.n1,h.n2,h.n3,h.n4⟩
def lH.setT(h:lH S M n m L T){k c:Nat}{z:Int}{g:Nat->AV}(a:k<n)(u:S (M.gb k)=some ⟨50,2,n,g⟩):lH (S.upd (M.gb k) ⟨50,2,n,aQ g c (.big z)⟩) M n m L (dS T k c z) :=
 ⟨h.cell.upd (a6.ne h.cell (a6.of u) dc) _,h.mino.upd (ai (h.n2 k a)) _,h.lamo.upd (a6.ne h.lamo (a6.of u) dc) _,fun i b=>(h.lamr i b).upd (h.n3 i k b a) _,h.bas.set a u,h.n1,h.n2,h.n3,h.n4⟩
def lH.setL(h:lH S M n m L T){k c:Nat}{z:Int}{g:Nat->AV}(b:k<n)(u:S (M.gl k)=some ⟨50,2,k,g⟩):lH (S.upd (M.gl k) ⟨50,2,k,aQ g c (.big z)⟩) M n m (dS L k c z) T:=by
 refine⟨h.cell.upd (a6.ne h.cell (a6.of u) dc) _,h.mino.upd (ai (h.n1 k b)) _,h.lamo.upd (a6.ne h.lamo (a6.of u) dc) _,fun i a=>?_,h.bas.upd (a6.ne h.bas.outer (a6.of u) dc) (fun i a=>ai (h.n3 k i b a)) _,h.n1,h.n2,h.n3,h.n4⟩
 by_cases e:i=k
 .subst e;obtain⟨p,d,f⟩:=h.lamr i a;rw[u]at d;cases d;refine a6.here fun j l=>?_;have:=f j l;simp only[aQ,dS]
  grind
 .refine((h.lamr i a).upd (fun o=>e (h.n4 i k a b o)) _).congr fun j _=>?_;simp[dS,e]
def lH.setM(h:lH S M n m L T){k:Nat}{z:Int}{g:Nat->AV}(u:S M.bm=some ⟨50,2,n+1,g⟩):lH (S.upd M.bm ⟨50,2,n+1,aQ g k (.big z)⟩) M n (fun j=>if j=k then z else m j) L T:=by
 refine⟨h.cell.upd (a6.ne h.cell (a6.of u) dc) _,?_,h.lamo.upd (a6.ne h.lamo (a6.of u) dc) _,fun i a=>(h.lamr i a).upd (h.n1 i a) _,h.bas.upd (a6.ne h.bas.outer (a6.of u) dc) (fun i a=>h.n2 i a) _,h.n1,h.n2,h.n3,h.n4⟩
 obtain⟨e,b,c⟩:=h.mino;rw[u]at b;cases b;refine a6.here fun j d=>?_;have:=c j d;simp only[aQ]
 grind
def nH(M:pF)(n:Nat)(S S':St):Prop:=∀d X,¬nG M n d->S d=some X->S' d=some X
def nH.refl(M:pF)(n:Nat)(S:St):nH M n S S:=fun _ _ _ h=>h
def nH.trans(h:nH M n S S')(k:nH M n S' S''):nH M n S S'':=fun d X a b=>k d X a (h d X a b)
def nH.ext(h:nH M n S S')(k:dy S' S''):nH M n S S'':=fun d X a b=>k d X (h d X a b)
def nH.upd(h:nH M n S S'){c:Nat}(b:nG M n c)(X:eo):nH M n S (S'.upd c X):=fun d Y a f=>by
 rw[aG (fun e=>a (by rw[e];exact b))];exact h d Y a f
def nG.gb(a:i<n):nG M n (M.gb i):=aR (aR (aR (aR ⟨i,a,aR rfl⟩)))
def nG.gl(a:i<n):nG M n (M.gl i):=aR (aR (aR (aR ⟨i,a,a9 rfl⟩)))
def nG.bm:nG M n M.bm:=aR (a9 rfl)
def lH.frm(h:lH S M n m L T){c:Nat}(a:¬nG M n c)(j:∀d X,d≠c->S d=some X->S' d=some X):lH S' M n m L T:=by
 have kp:∀{b ty es k:Nat} {g:Nat->AV},a6 S b ty es k g->b≠c->a6 S' b ty es k g:=fun⟨g',l,o⟩ p=>⟨g',j _ _ p l,o⟩;exact⟨kp h.cell (fun e=>a (a9 e.symm)),kp h.mino (fun e=>a (aR (a9 e.symm))),kp h.lamo (fun e=>a (aR (aR (a9 e.symm)))),
  fun i f=>kp (h.lamr i f) (fun e=>a (e▸nG.gl f)),
  ⟨kp h.bas.outer (fun e=>a (aR (aR (aR (a9 e.symm))))),fun i f=>kp (h.bas.row i f) (fun e=>a (e▸nG.gb f)),h.bas.inj⟩,h.n1,h.n2,h.n3,h.n4⟩
def lH.c0(h:lH S M n m L T):∃g,S M.bs=some ⟨160,1,4,g⟩/\g 0=.sl 2 M.bm 0 (n+1)/\g 1=.sl 1 M.bl 0 n/\g 2=.sl 1 M.bb 0 n/\g 3=.mfn 206 [.ptr 1 M.bs 0]:=by
 obtain⟨g,u,v⟩:=h.cell;exact⟨g,u,v 0 om,v 1 om,v 2 om,v 3 om⟩
def lH.m0(h:lH S M n m L T):∃g,S M.bm=some ⟨50,2,n+1,g⟩/\∀k,k<n+1->g k=.big (m k):=h.mino
def lH.l0(h:lH S M n m L T):∃g,S M.bl=some ⟨59,1,n,g⟩/\∀i,i<n->g i=.sl 2 (M.gl i) 0 i:=h.lamo
def lH.l1(h:lH S M n m L T){i:Nat}(a:i<n):∃g,S (M.gl i)=some ⟨50,2,i,g⟩/\∀j,j<i->g j=.big (L i j):=h.lamr i a
def lH.b0(h:lH S M n m L T):∃g,S M.bb=some ⟨59,1,n,g⟩/\∀i,i<n->g i=.sl 2 (M.gb i) 0 n:=h.bas.outer
def lH.b1(h:lH S M n m L T){i:Nat}(a:i<n):∃g,S (M.gb i)=some ⟨50,2,n,g⟩/\∀j,j<n->g j=.big (T i j):=h.bas.row i a

def tO(n:Nat)(A:az)(a:1<=n)(b:n<=16):PF 242 [aL n n A] (.tup [ι n,.bool true]):=by
 refine gN func242 ntmps242 results242 ?_;simp -dsimp only[go_sem,aa];refine(lp n n A a b a b).call ?_;simp only[go_sem,cl];exact VR.tup (by simp[ql])
def Ry{x:AV}{K:AV->St->Prop}:da 192 1 [(0,x)] S K=(ei 1 x/\ax S (fun b=>K (.sl 1 b 0 1) (S.upd b ⟨52,1,1,fun j=>[x].getD j .any⟩))):=by
 simp only[da,dO,cb];simp[ez,fX,ax]
def q8(n:Nat)(A:az):AV:=.lst 1 n (fun k=>aL (n-k) (n-k) (ci A k))
def CB(n K:Nat)(A:az)(o:1<=n)(w:n<=16)(hK:K<=1000000)(hS:∀k i j,k+i<n->k+j<n->nb (ci A k i j) K)(W:∀k,k<=n->det k A≠0)(hd1:∀k,k<n->nb (det k A) K):PF 204 [aL n n A] (.tup [q8 n A,.bool true]):=by
 have hA:∀i j,i<n->j<n->nb (A i j) K:=fun i j Y G=>by have:=hS 0 i j om om;rwa [eQ]at this
 refine gN func204 ntmps204 results204 ?_;simp -dsimp only[go_sem,aa,aL,aY];refine ax.intro fun b1 f1=>?_;simp -dsimp only[go_sem];refine(tO n A o w).call ?_;simp -dsimp only[go_sem,aa];refine(zq n n 244 [.pat 1 (aL n n A)] A om o w o w (fun i j Y G=>RW n A i j K Y G (hA i j Y G) om) _ _ (eI.fn1 (eI.one (VA.ptr (cT.new rfl) (VA.refl _ _))))).mono ?_;rintro _ S1 ⟨b0,e0,rfl,y,hE0,hn0,hm0⟩;simp -dsimp only[go_sem,aa];refine(gR (a:=1) om om).call ?_;simp -dsimp only[go_sem];refine ax.intro fun l f7=>?_;simp only[go_sem,aa];have H:kV ((S1.upd l ⟨50,2,1,fun _=>.big 0⟩).upd l ⟨50,2,1,aQ (fun _=>.big 0) 0 (.big 1)⟩) b0 e0 n n A:=y.ext (((dy.refl S1).upd f7 _).upd f7 _);have p:e0≠l:=fun h=>by obtain⟨g,o,_⟩:=y.inner;rw[h,f7]at o;cases o
 refine cA (fun O S=>∃(k:Nat) (x:AV) (bs es:Nat->Nat),k<n/\O 4=ι n/\O 6=.sl 1 (bs k) 0 (n-k)/\O 7=.ptr 2 l 0/\O 8=x/\O 23=ι n/\O 24=ι k/\cT S l 50 2 (.big (det k A))/\cY 52 1 St.none S x k (fun a=>.sl 1 (bs a) 0 (n-a))/\(∀a,a<=k->kV S (bs a) (es a) (n-a) (n-a) (ci A a)/\es a≠l)) (fun O S=>n-bS (O 24)) ?_ ?_
 .simp only[go_sem];exact⟨0,om,.nil,fun _=>b0,rfl,rfl,rfl,cT.set,cY.nil (fun k X h=>by cases h) _,fun _=>e0,fun a E=>by
   obtain rfl:a=0:=om
   exact⟨by rw[dC,show ci A 0=A from funext fun _=>funext fun _=>eQ ..];exact H,p⟩⟩
 clear H p y hE0;rintro Q' hQ' O S ⟨k,x,bs,es,hk,Z,I,e7,e8,J,L,hV,s,hF⟩;obtain⟨g7,u7,v7⟩:=id hV;have hx7:¬dU x l:=s.other u7 om;simp -dsimp only[go_sem,I,e8,J,L,hk,Ry];refine ax.intro fun b29 M=>?_
 try simp -dsimp only[go_sem,e8]
 refine cY.appx rfl rfl rfl ((dy.refl S).upd M _) s om (show ei 1 (.sl 1 (bs k) 0 (n-k))from trivial) ⟨_,_,_,rfl,ca,rfl,M⟩ ?_;intro c S2 N z hk3;have hV2:cT S2 l 50 2 (.big (det k A)):=⟨g7,z _ _ u7 hx7,v7⟩;have B:∀a,a<=k->kV S2 (bs a) (es a) (n-a) (n-a) (ci A a)/\es a≠l:=fun a E=>by
  obtain⟨o,w⟩:=hF a E;obtain⟨g,F,h4⟩:=o.inner;obtain⟨g',h5,h6⟩:=o.outer;exact⟨o.via (fun X s=>z _ _ s (by rw[h5]at s;exact cY.other ‹_› h5 om)) (fun X s=>z _ _ s (by rw[F]at s;exact cY.other ‹_› F om)),w⟩
 obtain⟨g8,u8,v8⟩:=id hV2;have P:ω ((n:Int)-1)=((n-1:Nat):Int):=by rw[oY o];exact i64_in om om
 by_cases hlast:k+1=n
 .have hb:((k:Int)==((n-1:Nat):Int))=true:=by simp;omega
  simp only[go_sem,aa,Z,I,e8,P,hb];rw[hQ'];simp only[go_sem];rcases N.2 with⟨h0,_⟩|⟨c',_,C,hC⟩
  .omega
  cases C
  refine VR.tup2 ?_ (VR.mf rfl);unfold q8;rw[<-hlast];refine VR.sl hC om fun a E=>?_;rw[aJ];have F:=(B a om).1.vr;rw[<-hlast]at F;by_cases e:a=k
  .subst e;simp only[aE];rw[<-hlast];exact F
  .simp only[e,aH];rw[<-hlast];exact F
 .have hb:((k:Int)==((n-1:Nat):Int))=false:=by simp;omega
  obtain⟨D,hek⟩:=B k (ag _);obtain⟨g9,u9,v9⟩:=id D.outer;obtain⟨g5,u5,v5⟩:=id D.inner;have m:0<n-k:=om
  have x9:g9 0=.sl 2 (es k) 0 (n-k):=(v9 0 m).trans sm
  have x5:g5 0=.big (ci A k 0 0):=by have:=v5 0 0 m m;rwa [nE]at this
  have t:0<(n-k)*(n-k):=yN m m;simp -dsimp only[go_sem,aa,Z,I,e8,P,hb,u9,x9,u5,x5,m,t]
  repeat refine an ?_
  have Q:=cG A k;have hne:=W (k+1) om;refine(ka (hS k 0 0 om om) om).call ?_;have hsg:((ci A k 0 0).sign==0)=false:=by
   rw[Q];simp[ix,hne]
  simp -dsimp only[go_sem,I,x9,x5,hsg];refine ax.intro fun d q=>?_;have w0:ω ((n:Int)-k)=((n-k:Nat):Int):=by
   rw[show(n:Int)-k=((n-k:Nat):Int) by omega];exact i64_in om om
  have wn:ω (ω ((n:Int)-k)-1)=((n-k-1:Nat):Int):=by
   rw[w0,show((n-k:Nat):Int)-1=((n-k-1:Nat):Int) by omega];exact i64_in om om
  try simp -dsimp only[go_sem,Z,I,e7,wn]
  have h10:d≠l:=fun h=>by rw[h,u8]at q;cases q
  have r:dy S2 ((S2.upd d ⟨52,1,1,fun _=>.nil⟩).upd d ⟨52,1,1,aQ (fun _=>.nil) 0 (.sl 1 (bs k) 0 (n-k))⟩):=((dy.refl S2).upd q _).upd q _;have u:cT ((S2.upd d ⟨52,1,1,fun _=>.nil⟩).upd d ⟨52,1,1,aQ (fun _=>.nil) 0 (.sl 1 (bs k) 0 (n-k))⟩) d 52 1 (.sl 1 (bs k) 0 (n-k)):=cT.set;generalize (S2.upd d ⟨52,1,1,fun _=>AV.nil⟩).upd d ⟨52,1,1,aQ (fun _=>AV.nil) 0 (AV.sl 1 (bs k) 0 (n-k))⟩=S3 at *;have hq:∀i j,(ci A k 0 0*ci A k (i+1) (j+1)-ci A k (i+1) 0*ci A k 0 (j+1))/det k A=ci A (k+1) i j:=fun i j=>by
   rw[ij (fun j G=>W j om),cj _ (W k om)]
  refine(zq (n-k-1) (n-k-1) 245 [.pat 1 (aL (n-k) (n-k) (ci A k)),.pat 2 (.big (det k A))] (ci A (k+1)) om om om om om (fun i j Y G=>hq i j▸RV (n-k) (ci A k) (det k A) i j K om om om (fun a b E hb=>hS k a b om om) (hd1 k hk) om (W k om)) _ _ (eI.fn1 (eI.two (VA.ptr u (D.ext r).vr.va) (VA.ptr (r.has (b:=l) (n:=1) (g:=g8) ⟨g8,u8,fun _ _=>rfl⟩ |> fun h=>by obtain⟨g,o,w⟩:=h;exact⟨g,o,(w 0 om).trans v8⟩) (VA.refl _ _))))).mono ?_
  rintro _ S4 ⟨b',e',rfl,hF',R,T,v⟩;have f:=r.trans R;have u84:=f _ _ u8;obtain⟨g10,u10,v10⟩:=id u;have U:=R _ _ u10;have u94:=f _ _ u9;have u54:=f _ _ u5;simp only[go_sem,aa,Z,e7,J,L,u84,U,v10,u94,x9,u54,x5,m,t,aI (om:k<1000000),bS]
  repeat refine an ?_
  rcases N.2 with⟨h0,_⟩|⟨c',_,C,hC⟩
  .omega
  cases C
  have V:=r _ _ u8;have hb7:b'≠l:=fun h=>by rw[h,V]at T;cases T
  have p:e'≠l:=fun h=>by rw[h,V]at v;cases v
  have hc7:c≠l:=a6.ne hC (a6.of u8) om;refine⟨⟨k+1,om,.sl 1 c 0 (k+1),fun a=>if a=k+1 then b' else bs a,by dsimp only;rw[aj rfl,(om:n-(k+1)=n-k-1)],rfl,rfl,by rw[<-Q];exact cT.set,⟨fun k X h=>(by cases h),aR ⟨c,rfl,rfl,((f.has hC).upd hc7 _).congr fun a E=>?_⟩⟩,fun a=>if a=k+1 then e' else es a,fun a E=>?_⟩,om⟩
  .by_cases e:a=k
   .subst e;dsimp only;rw[aj rfl,ah om]
   .dsimp only;rw[ah e,ah om]
  .dsimp only;by_cases e:a=k+1
   .subst e;rw[aj rfl,aj rfl,(om:n-(k+1)=n-k-1)]
    exact⟨hF'.via (fun X h=>(aG hb7).trans h) (fun X h=>(aG p).trans h),p⟩
   .rw[ah e,ah e];obtain⟨p1,p2⟩:=B a om;have hba:bs a≠l:=a6.ne p1.outer (a6.of u8) om;exact⟨(p1.ext f).via (fun X h=>(aG hba).trans h) (fun X h=>(aG p2).trans h),p2⟩

def stV(bm bl n:Nat):Nat->AV:=fun j=>[AV.sl 2 bm 0 (n+1),.sl 1 bl 0 n,.nil,.nfn].getD j .any
structure vN(T:St)(n:Nat)(x4:AV)(L:Nat->Bool)(O:Tm)(S:St):Prop where
 b3:O 3=ι n
 b4:O 4=x4
 p0:L 0=true->O 16=ι n
 p1:L 1=true->O 17=ι ((n+1:Nat):Int)
 p3:L 3=true->O 19=ι n
 ext:dy T S
 ex:∃bm bl bs,(L 2=true->O 18=.sl 2 bm 0 (n+1)/\a6 S bm 50 2 (n+1) (fun _=>.big 0)/\T bm=ae)/\(L 4=true->O 20=.sl 1 bl 0 n/\a6 S bl 59 1 n (fun _=>.nil)/\T bl=ae) /\
  (L 5=true->L 2=true/\L 4=true/\O 21=.agg [.sl 2 bm 0 (n+1),.sl 1 bl 0 n,.nil,.nfn])/\(L 6=true->L 5=true/\O 22=.ptr 1 bs 0/\a6 S bs 160 1 4 (stV bm bl n)/\T bs=ae)/\(L 7=true->L 6=true/\O 6=.ptr 1 bs 0)
section
variable {T:St} {n:Nat} {x4:AV} {L:Nat->Bool} {O:Tm} {S:St}
def vN.pure(h:vN T n x4 L O S){i d:Nat}{z:AV}(a:d≠3/\d≠4/\d≠18/\d≠20/\d≠21/\d≠22/\d≠6)(b:i≠2/\i≠4/\i≠5/\i≠6/\i≠7)
  (c:(if 0=i then true else L 0)=true->(O.put (some d) z) 16=ι n) (e:(if 1=i then true else L 1)=true->(O.put (some d) z) 17=ι ((n+1:Nat):Int)) (f:(if 3=i then true else L 3)=true->(O.put (some d) z) 19=ι n) :
  vN T n x4 (fun k=>if k=i then true else L k) (O.put (some d) z) S:=by
 obtain⟨g,l,m,o,p,q,r⟩:=a;obtain⟨s,t,u,v,w⟩:=b;obtain⟨bm,bl,bs,x,y,A,B,C⟩:=h.ex;have k:∀j,j≠i->(if j=i then true else L j)=L j:=fun j D=>ah D
 refine⟨by rw[pt (ai g)];exact h.b3,by rw[pt (ai l)];exact h.b4,c,e,f,h.ext,bm,bl,bs,?_⟩
 rw[k 2 (ai s),k 4 (ai t),k 5 (ai u),k 6 (ai v),k 7 (ai w),pt (ai m),pt (ai o),pt (ai p),pt (ai q),pt (ai r)];exact⟨x,y,A,B,C⟩
def vN.s0(h:vN T n x4 L O S):vN T n x4 (fun k=>if k=0 then true else L k) (O.put (some 16) (ι n)) S :=
 h.pure dc dc (fun _=>pd) (fun a=>by rw[pt dc];exact h.p1 (ia a dc)) (fun a=>by rw[pt dc];exact h.p3 (ia a dc))
def vN.s1(h:vN T n x4 L O S):vN T n x4 (fun k=>if k=1 then true else L k) (O.put (some 17) (ι ((n+1:Nat):Int))) S :=
 h.pure dc dc (fun a=>by rw[pt dc];exact h.p0 (ia a dc)) (fun _=>pd) (fun a=>by rw[pt dc];exact h.p3 (ia a dc))
def vN.s3(h:vN T n x4 L O S):vN T n x4 (fun k=>if k=3 then true else L k) (O.put (some 19) (ι n)) S :=
 h.pure dc dc (fun a=>by rw[pt dc];exact h.p0 (ia a dc)) (fun a=>by rw[pt dc];exact h.p1 (ia a dc)) (fun _=>pd)
def vN.s2(h:vN T n x4 L O S)(b:L 2=false){c:Nat}(d:S c=ae)(z:Nat->AV)(l:∀i,i<n+1->z i=.big 0):vN T n x4 (fun k=>if k=2 then true else L k) (O.put (some 18) (.sl 2 c 0 (n+1))) (S.upd c ⟨50,2,n+1,z⟩):=by
 have e:=h.ext.none d;obtain⟨bm,bl,bs,x,m,o,p,q⟩:=h.ex;have f:L 5=true->False:=fun r=>by rw[(o r).1]at b;cases b
 have g:L 6=true->False:=fun s=>f (p s).1;have t:L 7=true->False:=fun u=>g (q u).1;refine⟨by rw[pt dc];exact h.b3,by rw[pt dc];exact h.b4,fun a=>by rw[pt dc];exact h.p0 (ia a dc),fun a=>by rw[pt dc];exact h.p1 (ia a dc),fun a=>by rw[pt dc];exact h.p3 (ia a dc),h.ext.upd e _,c,bl,bs,fun _=>⟨pd,a6.here l,e⟩,fun a=>?_,fun a=>(f (ia a dc)).elim,fun a=>(g (ia a dc)).elim,fun a=>(t (ia a dc)).elim⟩
 obtain⟨v,j,w⟩:=m (ia a dc)
 exact⟨by rw[pt dc];exact v,j.upd (a6.fresh j d) _,w⟩
def vN.s4(h:vN T n x4 L O S)(b:L 4=false){c:Nat}(d:S c=ae)(z:Nat->AV)(l:∀i,i<n->z i=.nil):vN T n x4 (fun k=>if k=4 then true else L k) (O.put (some 20) (.sl 1 c 0 n)) (S.upd c ⟨59,1,n,z⟩):=by
 have e:=h.ext.none d;obtain⟨bm,bl,bs,m,x,o,p,q⟩:=h.ex;have f:L 5=true->False:=fun r=>by rw[(o r).2.1]at b;cases b
 have g:L 6=true->False:=fun s=>f (p s).1;have t:L 7=true->False:=fun u=>g (q u).1;refine⟨by rw[pt dc];exact h.b3,by rw[pt dc];exact h.b4,fun a=>by rw[pt dc];exact h.p0 (ia a dc),fun a=>by rw[pt dc];exact h.p1 (ia a dc),fun a=>by rw[pt dc];exact h.p3 (ia a dc),h.ext.upd e _,bm,c,bs,fun a=>?_,fun _=>⟨pd,a6.here l,e⟩,fun a=>(f (ia a dc)).elim,fun a=>(g (ia a dc)).elim,fun a=>(t (ia a dc)).elim⟩
 obtain⟨v,j,w⟩:=m (ia a dc)
 exact⟨by rw[pt dc];exact v,j.upd (a6.fresh j d) _,w⟩
def vN.s5(h:vN T n x4 L O S)(b:L 2=true)(c:L 4=true)(d:L 5=false):∃bm bl,O 18=.sl 2 bm 0 (n+1)/\O 20=.sl 1 bl 0 n/\vN T n x4 (fun k=>if k=5 then true else L k) (O.put (some 21) (.agg [.sl 2 bm 0 (n+1),.sl 1 bl 0 n,.nil,.nfn])) S:=by
 obtain⟨bm,bl,bs,e,f,p,i,j⟩:=h.ex;have g:L 6=true->False:=fun l=>by rw[(i l).1]at d;cases d
 have m:L 7=true->False:=fun o=>g (j o).1;refine⟨bm,bl,(e b).1,(f c).1,by rw[pt dc];exact h.b3,by rw[pt dc];exact h.b4,fun a=>by rw[pt dc];exact h.p0 (ia a dc),fun a=>by rw[pt dc];exact h.p1 (ia a dc),fun a=>by rw[pt dc];exact h.p3 (ia a dc),h.ext,bm,bl,bs,fun _=>by rw[pt dc];exact e b,fun _=>by rw[pt dc];exact f c,fun _=>⟨by simpa using b,by simpa using c,pd⟩,fun a=>(g (ia a dc)).elim,fun a=>(m (ia a dc)).elim⟩
def vN.s6(h:vN T n x4 L O S)(e:L 5=true)(f:L 6=false):∃bm bl,O 21=.agg [.sl 2 bm 0 (n+1),.sl 1 bl 0 n,.nil,.nfn]/\∀c,S c=ae->∀z,(∀j,j<4->z j=stV bm bl n j)->vN T n x4 (fun k=>if k=6 then true else L k) (O.put (some 22) (.ptr 1 c 0)) (S.upd c ⟨160,1,4,z⟩):=by
 obtain⟨bm,bl,bs,p,q,r,B,s⟩:=h.ex;obtain⟨g,i,b⟩:=r e;have t:L 7=true->False:=fun u=>by rw[(s u).1]at f;cases f
 refine⟨bm,bl,b,fun c d z v=>?_⟩;have l:=h.ext.none d;obtain⟨w,m,x⟩:=p g;obtain⟨y,o,A⟩:=q i;exact⟨by rw[pt dc];exact h.b3,by rw[pt dc];exact h.b4,fun a=>by rw[pt dc];exact h.p0 (ia a dc),fun a=>by rw[pt dc];exact h.p1 (ia a dc),fun a=>by rw[pt dc];exact h.p3 (ia a dc),h.ext.upd l _,bm,bl,c,fun _=>⟨by rw[pt dc];exact w,m.upd (a6.fresh m d) _,x⟩,fun _=>⟨by rw[pt dc];exact y,o.upd (a6.fresh o d) _,A⟩,fun _=>⟨by simpa using g,by simpa using i,by rw[pt dc];exact b⟩,fun _=>⟨by simpa using e,pd,a6.here v,l⟩,fun a=>(t (ia a dc)).elim⟩
def vN.s7(h:vN T n x4 L O S)(d:L 6=true):∃bs,O 22=.ptr 1 bs 0/\vN T n x4 (fun k=>if k=7 then true else L k) (O.put (some 6) (.ptr 1 bs 0)) S:=by
 obtain⟨bm,bl,bs,i,j,l,m,q⟩:=h.ex;obtain⟨e,a,o,p⟩:=m d;obtain⟨f,g,c⟩:=l e;exact⟨bs,a,by rw[pt dc];exact h.b3,by rw[pt dc];exact h.b4,fun b=>by rw[pt dc];exact h.p0 (ia b dc),fun b=>by rw[pt dc];exact h.p1 (ia b dc),fun b=>by rw[pt dc];exact h.p3 (ia b dc),h.ext,bm,bl,bs,fun _=>by rw[pt dc];exact i f,fun _=>by rw[pt dc];exact j g,fun _=>⟨by simpa using f,by simpa using g,by rw[pt dc];exact c⟩,fun _=>⟨by simpa using e,by rw[pt dc];exact a,o,p⟩,fun _=>⟨by simpa using d,pd⟩⟩
end
structure Ll(S0 S:St)(bs bm bl:Nat)(gl:Nat->Nat)(n k:Nat)(A L:az):Prop where
 ext:dy S0 S
 cell:a6 S bs 160 1 4 (stV bm bl n)
 mino:a6 S bm 50 2 (n+1) (fun c=>if c<k+1 then .big (det c A)else .big 0)
 lamo:a6 S bl 59 1 n (fun i=>if i<k then .sl 2 (gl i) 0 i else .nil)
 lamr:∀i,i<k->iV S (gl i) i (L i)
 n1:∀i,i<k->gl i≠bm
 n4:∀i j,i<k->j<k->gl i=gl j->i=j
 ns:S0 bs=ae
 nm:S0 bm=ae
 nl:S0 bl=ae
 nr:∀i,i<k->S0 (gl i)=ae
def Ll.push{bm bd:Nat}{gl:Nat->Nat}(h:Ll S0 V bs bm bl gl n k A L)(B:k<n)(um:V bm=some ⟨50,2,n+1,gm⟩)(ul:V bl=some ⟨59,1,n,g2⟩)(t:(V.upd bm ⟨50,2,n+1,aQ gm (k+1) (.big (det (k+1) A))⟩) bd=ae)(v:∀j,j<k->z0 j=.big 0) :
  Ll S0 (((V.upd bm ⟨50,2,n+1,aQ gm (k+1) (.big (det (k+1) A))⟩).upd bd ⟨50,2,k,z0⟩).upd bl ⟨59,1,n,aQ g2 k (.sl 2 bd 0 k)⟩) bs bm bl (fun a=>if a=k then bd else gl a) n (k+1) A (fun a x=>if a<k then L a x else 0):=by
 have d:=(af t).1;have b:=(af t).2;have f:bs≠bm:=a6.ne h.cell h.mino dc
 have l:bs≠bl:=a6.ne h.cell h.lamo dc
 have w:bm≠bl:=a6.ne h.mino h.lamo dc
 have y:bs≠bd:=a6.fresh h.cell b;have z:bl≠bd:=a6.fresh h.lamo b;refine⟨((h.ext.upd h.nm _).upd (h.ext.none b) _).upd h.nl _,((h.cell.upd f _).upd y _).upd l _,?_,?_,fun i p=>?_,fun i p=>?_,fun i j p u e=>?_,h.ns,h.nm,h.nl,fun i p=>?_⟩
 .refine a6.upd (a6.upd (a6.here fun c q=>?_) (ai d) _) w _;obtain⟨g,m,r⟩:=h.mino;rw[um]at m;cases m;simp only[aQ];by_cases e:c=k+1
  .subst e;rw[aj rfl,aj om]
  .have o:=r c q;dsimp only at o;rw[ah e,o];by_cases e':c<k+1
   .rw[aj e',aj om]
   .rw[ah e',ah om]
 .refine a6.here fun c q=>?_;obtain⟨g,m,r⟩:=h.lamo;rw[ul]at m;cases m;simp only[aQ];by_cases e:c=k
  .subst e;rw[aj rfl,aj om,aj rfl]
  .have o:=r c q;dsimp only at o;rw[ah e,o,ah e];by_cases e':c<k
   .rw[aj e',aj om]
   .rw[ah e',ah om]
 .try dsimp only
  by_cases e:i=k
  .subst e;rw[aj rfl];exact(a6.here fun j u=>by dsimp only;rw[v j u,ah om]).upd (ai z) _
  .rw[ah e];have s:=h.lamr i om;refine(((s.upd (h.n1 i om) _).upd (a6.fresh s b) _).upd (a6.ne s h.lamo dc) _).congr fun j _=>by dsimp only;rw[aj om]
 .try dsimp only
  split
  .exact d
  .exact h.n1 i om
 .try dsimp only at e
  by_cases f:i=k<;>by_cases l:j=k
  .omega
  .rw[aj f,ah l]at e;exact absurd e.symm (a6.fresh (h.lamr j om) b)
  .rw[ah f,aj l]at e;exact absurd e (a6.fresh (h.lamr i om) b)
  .rw[ah f,ah l]at e;exact h.n4 i j om om e
 .try dsimp only
  split
  .exact h.ext.none b
  .exact h.nr i om
def Ll.set{bm:Nat}{gl:Nat->Nat}{z:Int}(h:Ll S0 V bs bm bl gl n k A L)(b:i<k)(u:V (gl i)=some ⟨50,2,i,g⟩):Ll S0 (V.upd (gl i) ⟨50,2,i,aQ g j (.big z)⟩) bs bm bl gl n k A (dS L i j z):=by
 refine⟨h.ext.upd (h.nr i b) _,h.cell.upd (a6.ne h.cell (a6.of u) dc) _,h.mino.upd (ai (h.n1 i b)) _,h.lamo.upd (a6.ne h.lamo (a6.of u) dc) _,fun a c=>?_,h.n1,h.n4,h.ns,h.nm,h.nl,h.nr⟩
 by_cases e:a=i
 .subst e;obtain⟨o,d,f⟩:=h.lamr a c;rw[u]at d;cases d;refine a6.here fun x l=>?_;have:=f x l;simp only[aQ,dS]
  grind
 .refine((h.lamr a c).upd (fun m=>e (h.n4 a i c b m)) _).congr fun x _=>?_;simp[dS,e]
def Ll.congr{bm:Nat}{gl:Nat->Nat}(h:Ll S0 V bs bm bl gl n k A L)(b:∀i j,i<k->j<i->L i j=L' i j):Ll S0 V bs bm bl gl n k A L' :=
 ⟨h.ext,h.cell,h.mino,h.lamo,fun i a=>(h.lamr i a).congr fun j c=>by rw[b i j a c],h.n1,h.n4,h.ns,h.nm,h.nl,h.nr⟩
def AY(n:Nat)(d:1<=n)(e:n<=16):CG 205 [ι n] n n jS:=by
 refine CG.of ?_;refine iZ func205 ntmps205 results205 ?_;simp -dsimp only[go_sem,aa,(om:¬((n:Int)<1)),(om:¬((16:Int)<(n:Int)))]
 refine(gR (a:=1) om om).call ?_;simp -dsimp only[go_sem,aa];refine(B9 n 1 1 om (by unfold nb;decide) om _ _ (cC _ _)).mono ?_
 rintro _ S1 ⟨b,g,rfl,c⟩;simp only[go_sem];exact⟨b,rfl,g,c.1⟩
def Bo(S:St)(n K c:Nat)(gc:Nat->Nat)(A:az)(h1:1<=n)(h2:n<=15)(hK:K<=1000000)(hS:∀k i j,k+i<n->k+j<n->nb (ci A k i j) K)(hd:∀k,k<=n->det k A≠0)(Z:∀k,k<n->nb (det k A) K)(hM:dr S c gc n n A) :
  cJ 160 [.sl 1 c 0 n] S (fun r S'=>∃M,r=.ptr 1 M.bs 0/\lH S' M n (fun k=>det k A) (eZ A) jS/\dy S S'/\∀d,nG M n d->S d=ae):=by
 refine iZ func160 ntmps160 results160 ?_;have wn:=aI (om:n<1000000)
 simp -dsimp only[go_sem,aa];refine(CB n K A h1 om hK hS hd Z).spec (eI.one hM.vr.va) ?_;simp -dsimp only[go_sem];refine wG (vN S n (q8 n A)) kr ?_ ?_ ?_
 .refine⟨by simp only[go_sem],by simp only[go_sem],(fun h=>by cases h),(fun h=>by cases h),(fun h=>by cases h),dy.refl S,0,0,0,(fun h=>by cases h),(fun h=>by cases h),(fun h=>by cases h),(fun h=>by cases h),(fun h=>by cases h)⟩
 .refine⟨?_,?_,?_,?_,?_,?_,?_,?_,trivial⟩
  .intro L O S l m g;refine dl rfl ?_;simp only[go_sem,l.b3];exact l.s0
  .intro L O S l m g;have al:∀k,_->L k=true:=aF.1 g;refine dl rfl ?_;simp only[go_sem,l.p0 (al 0 dc),wn]
   exact l.s1
  .intro L O S l m g;have al:∀k,_->L k=true:=aF.1 g;refine dl rfl ?_;simp -dsimp only[go_sem,l.p1 (al 1 dc)]
   repeat refine an ?_
   refine ax.intro fun bw fw=>?_;exact l.s2 m fw _ (fun _ _=>rfl)
  .intro L O S l m g;refine dl rfl ?_;simp only[go_sem,l.b3];exact l.s3
  .intro L O S l m g;have al:∀k,_->L k=true:=aF.1 g;refine dl rfl ?_;simp -dsimp only[go_sem,l.p3 (al 3 dc)]
   repeat refine an ?_
   refine ax.intro fun bw fw=>?_;exact l.s4 m fw _ (fun _ _=>rfl)
  .intro L O S l m g;have al:∀k,_->L k=true:=aF.1 g;refine dl rfl ?_;obtain⟨bm,bl,p,w,U⟩:=l.s5 (al 2 dc) (al 4 dc) m
   simp only[go_sem,p,w];exact U
  .intro L O S l m g;have al:∀k,_->L k=true:=aF.1 g;refine dl rfl ?_;obtain⟨bm,bl,p,w⟩:=l.s6 (al 5 dc) m
   simp only[go_sem,p,aS,bF,bZ,ct];refine ax.intro fun bw fw=>?_;exact w _ fw _ (fun j hj=>rfl)
  .intro L O S l m g;have al:∀k,_->L k=true:=aF.1 g;refine dl rfl ?_;obtain⟨bs,p,w⟩:=l.s7 (al 6 dc)
   simp only[go_sem,p];exact w
 intro L O S1 l m;obtain⟨bm,bl,bs,m2,m4,m5,m6,m7⟩:=l.ex;obtain⟨_,W,c3⟩:=m2 (m 2 dc)
 obtain⟨_,X,d3⟩:=m4 (m 4 dc)
 obtain⟨_,_,y,e3⟩:=m6 (m 6 dc)
 have e6:=(m7 (m 7 dc)).2
 have D:=l.b3;have E:=l.b4;have hE:=l.ext;clear l m m2 m4 m5 m6 m7;have p:bs≠bm:=a6.ne y W dc
 have w:bs≠bl:=a6.ne y X dc
 have U:bm≠bl:=a6.ne W X dc
 obtain⟨gs,us,vs⟩:=id y;obtain⟨gm,um,vm⟩:=id W;have z0:gs 0=.sl 2 bm 0 (n+1):=vs 0 om;simp -dsimp only[go_sem];refine aN 6 kr ?_
 simp only[go_sem,aa,D,e6,us,z0,um];refine⟨_,(gR (a:=1) om om).pure',?_⟩;simp only[go_sem]
 repeat refine an ?_
 have f:Ll S (S1.upd bm ⟨50,2,n+1,aQ gm 0 (.big 1)⟩) bs bm bl (fun _=>0) n 0 A (eZ A) :=
  ⟨hE.upd c3 _,y.upd p _,a6.here fun x G=>by
   simp only[aQ];by_cases e:x=0
   .subst e;rw[aj rfl,aj om];rfl
   .rw[ah e,ah om];exact vm x G,(X.upd (ai U) _).congr fun i _=>by rw[ah om],fun i Y=>om,fun i Y=>om,fun i j Y=>om,e3,c3,d3,fun i Y=>om⟩
 refine cA (fun O V=>∃(i:Nat) (gl:Nat->Nat),i<=n/\O 3=ι n/\O 4=q8 n A/\O 6=.ptr 1 bs 0/\O 29=ι n/\O 30=ι i/\Ll S V bs bm bl gl n i A (eZ A)) (fun O V=>n-bS (O 30)) ?_ ?_
 .simp only[*,go_sem];exact⟨0,om,rfl,_,f⟩
 clear f us um vs vm z0 D E e6 W X y c3 d3 e3 hE;clear gs gm;rintro Q' H O V ⟨i,gl,Y,D,E,I,q,s,f⟩;obtain⟨gs,us,vs⟩:=id f.cell;obtain⟨gm,um,vm⟩:=id f.mino;obtain⟨g2,ul,vl⟩:=id f.lamo;have z0:gs 0=.sl 2 bm 0 (n+1):=vs 0 om;have F:gs 1=.sl 1 bl 0 n:=vs 1 om;by_cases o:i<n
 .have wi:=aI (om:i<1000000)
  simp -dsimp only[go_sem,q,s,o];refine aN 15 kr ?_
  simp -dsimp only[go_sem,aa,E,I,o,us,z0,um,wi,q8,aL,aY,(om:i+1<n+1)]
  repeat refine an ?_
  rw[cG];refine eL 6 [[0,1,2,3,4],[]] kr ?_
  simp -dsimp only[go_sem,aa,I,us,F,p]
  repeat refine an ?_
  refine ax.intro fun bd fd=>?_;have hdb:=(af fd).1;have z:=(af fd).2;have n1:=a6.fresh f.cell z;have n2:=a6.fresh f.lamo z;simp only[go_sem,o,us,F,ul,p,n1,n2,ai U];have J:=f.push o um ul fd (z0:=fun _=>.big 0) (fun _ _=>rfl);refine cA (fun O V=>∃(j:Nat),j<=i/\O 3=ι n/\O 4=q8 n A/\O 6=.ptr 1 bs 0/\O 7=ι i/\O 29=ι n/\O 30=ι i/\O 56=ι i/\O 57=ι j/\Ll S V bs bm bl (fun a=>if a=i then bd else gl a) n (i+1) A (fun a x=>if a<i∨x<j then eZ A a x else 0)) (fun O V=>i-bS (O 57)) ?_ ?_
  .simp only[*,go_sem];exact⟨0,om,rfl,J.congr fun a x _ _=>by simp⟩
  clear J f us um ul vs vm vl z0 F D E I q s fd hdb z n1 n2 H;clear O V gs gm g2;generalize hgl:(fun a=>if a=i then bd else gl a)=gl' at *
  rintro Q2 hQ2 O V ⟨j,hj,D,E,I,y7,q,s,B,C,f⟩;by_cases v:j<i
  .obtain⟨gs,us,vs⟩:=id f.cell;obtain⟨g2,ul,vl⟩:=id f.lamo;obtain⟨gr,ur,vr⟩:=id (f.lamr i om);have F:gs 1=.sl 1 bl 0 n:=vs 1 om;have zl:g2 i=.sl 2 (gl' i) 0 i:=by have:=vl i o;rw[this];exact aj om
   have wij:ω ((i:Int)-j)=((i-j:Nat):Int):=by rw[oY (dq v)];exact i64_in om om
   simp -dsimp only[go_sem,B,C,v];refine aN 20 kr ?_
   simp only[go_sem,aa,D,E,I,y7,q,s,B,C,v,o,us,F,ul,zl,ur,wij,q8,aL,aY,(om:j<n),(om:i-j<n-j),aI (om:j<1000000),bS]
   repeat refine an ?_
   refine⟨⟨j+1,om,rfl,(f.set (om:i<i+1) ur).congr fun a x _ _=>?_⟩,om⟩
   simp only[dS];by_cases e:a=i/\x=j
   .obtain⟨rfl,rfl⟩:=e;rw[aj ⟨rfl,rfl⟩,aj om];rfl
   .rw[ah e];by_cases y:a<i∨x<j
    .rw[aj y,aj om]
    .rw[ah y,ah om]
  .have N:j=i:=om
   subst N;simp only[go_sem,B,C,v];rw[hQ2];simp only[*,go_sem,bS];exact⟨⟨j+1,om,rfl,rfl,gl',f.congr fun a x _ _=>by rw[aj om]⟩,om⟩
 have P:i=n:=om
 subst P;simp only[go_sem,q,s,o];rw[H];simp -dsimp only[*,go_sem,aa];refine(AY i h1 om _ _ (cC _ _)).mono ?_;rintro _ V2 ⟨bb,gb,rfl,hI⟩;obtain⟨hIm,t,Q,u⟩:=hI;have hE2:=f.ext.trans t;have us2:=t _ _ us;simp only[*,go_sem,aa];have hc3:a6 (((V2.upd bs ⟨160,1,4,aQ gs 2 (.sl 1 bb 0 i)⟩).upd bs ⟨160,1,4,aQ (aQ gs 2 (.sl 1 bb 0 i)) 3 (.mfn 206 [.ptr 1 bs 0])⟩)) bs 160 1 4 (fun j=>[AV.sl 2 bm 0 (i+1),.sl 1 bl 0 i,.sl 1 bb 0 i,.mfn 206 [.ptr 1 bs 0]].getD j .any):=a6.here fun j hj=>by
  match j,hj with
  | 0,_=>simp[aQ,z0]
  | 1,_=>simp[aQ,F]
  | 2,_=>simp[aQ]
  | 3,_=>simp[aQ]
 have R:∀a,a<i->gl a≠bs:=fun a g=>a6.ne (f.lamr a g) f.cell dc
 have T:bs≠bb:=a6.fresh f.cell Q;refine⟨⟨bs,bm,bl,bb,gl,gb⟩,rfl,⟨hc3,?_,?_,fun a g=>((t.has (f.lamr a g)).upd (R a g) _).upd (R a g) _,(hIm.upd (ai T) (fun a g=>ai (a6.fresh f.cell (u a g))) _).upd (ai T) (fun a g=>ai (a6.fresh f.cell (u a g))) _,f.n1,fun a g=>ai (a6.fresh f.mino (u a g)),fun a b g hb=>a6.fresh (f.lamr a g) (u b hb),f.n4⟩,(hE2.upd f.ns _).upd f.ns _,?_⟩
 .refine(((t.has f.mino).upd (ai p) _).upd (ai p) _).congr fun x G=>?_;dsimp only;rw[aj G]
 .refine(((t.has f.lamo).upd (ai w) _).upd (ai w) _).congr fun x G=>?_;dsimp only;rw[aj G]
 .rintro d (e|e|e|e|⟨a,g,e|e⟩)
  .rw[e];exact f.ns
  .rw[e];exact f.nm
  .rw[e];exact f.nl
  .rw[e];exact f.ext.none Q
  .rw[e];exact f.nr a g
  .rw[e];exact f.ext.none (u a g)

def Dd(S:St)(M:pF)(n k K:Nat)(m:Nat->Int)(L T:az)(h:lH S M n m L T)(hk:0<k)(v:k<n)(hn2:n<=16)(hK:K<=100000)(x:∀c,c<n+1->nb (m c) K)(D:nb (L k (k-1)) K)(h0:m k≠0) :
  cJ 207 [.ptr 1 M.bs 0,ι k] S (fun r S'=>r=.agg [.big (m k),.big (L k (k-1)),.big ((m (k-1)*m (k+1)+L k (k-1)*L k (k-1))/m k),.big 1,.big 0,.big 0,.big 1]/\dy S S'):=by
 refine iZ func207 ntmps207 results207 ?_;have W:ω ((k:Int)-1)=((k-1:Nat):Int):=by rw[oY hk];exact i64_in om om
 have w2:=aI (om:k<1000000)
 simp -dsimp only[go_sem];refine ax.intro fun j F=>?_;have G:=h.inn F;refine iW (fun O V=>O 0=.ptr 1 M.bs 0/\O 1=ι k/\O 4=.ptr 2 j 0/\lH V M n m L T/\a6 V j 197 2 7 (fun _=>.big 0)/\dy S V) ⟨by simp only[go_sem],by simp only[go_sem],by simp only[go_sem],h.upd G _,a6.here fun _ _=>rfl,(dy.refl S).upd F _⟩ ?_
 clear h;rintro O V ⟨y,z,H,h,b,f⟩;obtain⟨g,u,E,A,I,J⟩:=h.c0;obtain⟨gm,um,vm⟩:=h.m0;obtain⟨gl,ul,vl⟩:=h.l0;obtain⟨gi,ui,vi⟩:=h.l1 v;have xl:gl k=.sl 2 (M.gl k) 0 k:=vl k v;have xj:gi (k-1)=.big (L k (k-1)):=vi (k-1) om;have xm:gm k=.big (m k):=vm k om;refine jf 20 [[7,8,9,10,11,12,13,14,15,16,17],[]] kr ?_
 simp -dsimp only[go_sem,aa,y,z,u,E,A,um,ul,ui,xl,xj,xm,W,v]
 repeat refine an ?_
 refine ax.intro fun o B=>?_
 try simp -dsimp only[go_sem]
 refine ax.intro fun p w=>?_;have n6_5:=(af w).1;have X:=h.inn B;have Y:=h.inn (af w).2;obtain⟨Z,p2,p3,p4,p5,p6⟩:=nG.ne X;obtain⟨q1,q2,q3,q4,q5,q6⟩:=nG.ne Y;have p5k:=p5 k v;have q5k:=q5 k v;simp -dsimp only[go_sem,y,z,u,A,ul,ui,xl,xj,W,v,nn n6_5,Z,p3,p5k,q1,q3,q5k]
 repeat refine an ?_
 have l:dy V ((((V.upd o ⟨50,2,1,fun _=>.big 0⟩).upd p ⟨50,2,1,fun _=>.big 0⟩).upd o ⟨50,2,1,aQ (fun _=>.big 0) 0 (.big (m k))⟩).upd p ⟨50,2,1,aQ (fun _=>.big 0) 0 (.big (L k (k-1)))⟩):=((((dy.refl V).upd B _).upd (af w).2 _).upd B _).upd (af w).2 _;have n54:j≠o:=a6.fresh b B;have n64:j≠p:=a6.fresh b (af w).2;refine iW (fun O V=>O 0=.ptr 1 M.bs 0/\O 1=ι k/\O 4=.ptr 2 j 0/\O 5=.ptr 2 o 0/\O 6=.ptr 2 p 0/\lH V M n m L T/\a6 V j 197 2 7 (fun _=>.big 0)/\cT V o 50 2 (.big (m k))/\cT V p 50 2 (.big (L k (k-1)))/\dy S V) ⟨by simp only[go_sem,y],by simp only[go_sem,z],by simp only[go_sem,H],by simp only[go_sem],by simp only[go_sem],h.ext l,l.has b,cT.upd cT.set (ai n6_5) _,cT.set,f.trans l⟩ ?_
 clear l h b f y z H u E A I J um ul ui vm vl vi xl xj xm B w Z p2 p3 p4 p5 p6 q1 q2 q3 q4 q5 q6 p5k q5k X Y;clear g gm gl gi O V;rintro O V ⟨y,z,H,e5,e6,h,b,q,s,f⟩;obtain⟨g,u,E,A,I,J⟩:=h.c0;obtain⟨gm,um,vm⟩:=h.m0;obtain⟨g5,u5,y5⟩:=id q;obtain⟨g6,u6,y6⟩:=id s;have P:gm (k-1)=.big (m (k-1)):=vm (k-1) om;have Q:gm (k+1)=.big (m (k+1)):=vm (k+1) om;refine aN 22 kr ?_
 simp -dsimp only[*,go_sem,aa,(om:k-1<n+1)]
 repeat refine an ?_
 have k1:=(x (k-1) om).mul (x (k+1) om);have k2:=D.mul D;refine⟨_,(gW (x (k-1) om) (x (k+1) om) om).pure',_,(gW D D om).pure',_,(lZ k1 k2 om).pure',?_⟩;refine ax.intro fun i t=>?_;have i7:=h.inn t;have n47:j≠i:=a6.fresh b t;have n57:o≠i:=q.fresh t;have n67:p≠i:=s.fresh t;simp -dsimp only[*,go_sem,aQ];generalize hN:m (k-1)*m (k+1)+L k (k-1)*L k (k-1)=N at *;have kN:nb N (K+K+1):=by rw[<-hN];exact k1.add k2
 have d:dy V ((V.upd i ⟨50,2,1,fun _=>.big 0⟩).upd i ⟨50,2,1,aQ (fun _=>.big 0) 0 (.big N)⟩):=((dy.refl V).upd t _).upd t _;have h7:cT ((V.upd i ⟨50,2,1,fun _=>.big 0⟩).upd i ⟨50,2,1,aQ (fun _=>.big 0) 0 (.big N)⟩) i 50 2 (.big N):=cT.set;refine(fM (k:=K+K+1) kN ((x k om).mono om) om h0).call ?_;generalize (V.upd i ⟨50,2,1,fun _=>.big 0⟩).upd i ⟨50,2,1,aQ (fun _=>.big 0) 0 (.big N)⟩=V7 at *
 replace b:=d.has b
 replace q:=q.ext d
 replace s:=s.ext d
 replace f:=f.trans d
 clear h d u E A I J um vm P Q u5 y5 u6 y6 t i7;simp -dsimp only[go_sem,aQ];refine ax.intro fun R C=>?_
 try simp -dsimp only[go_sem]
 refine ax.intro fun U f9=>?_;have n9_8:=(af f9).1;have n48:j≠R:=a6.fresh b C;have n58:o≠R:=q.fresh C;have n68:p≠R:=s.fresh C;have e:=(af f9).2;have n49:j≠U:=a6.fresh b e;have n59:o≠U:=q.fresh e;have n69:p≠U:=s.fresh e;obtain⟨g4,u4,y4⟩:=id b;obtain⟨g5,u5,y5⟩:=id q;obtain⟨g6,u6,y6⟩:=id s;simp -dsimp only[go_sem,aa,nn n9_8,aQ];refine aN 10 kr ?_
 simp only[*,go_sem,aa,ai n9_8,dZ,ft,aQ,aS,bF,bZ,ct,bL,bJ,dC,bQ];refine⟨_,(gR (a:=1) om om).pure',trivial,_,(gR (a:=1) om om).pure',trivial,?_⟩;simp only[go_sem];exact((((f.upd (f.none C) _).upd (f.none e) _).upd (f.none C) _).upd (f.none e) _).upd F _
def Sp(m:Nat->Int)(L:az)(i j:Nat):az:=if 2*((L i j).natAbs:Int)<=m (j+1)then L else fun a c=>if a=i/\c<j then L i c-fY (L i j) (m (j+1))*L j c else if a=i/\c=j then L i j-fY (L i j) (m (j+1))*m (j+1)else L a c
def shV(m:Nat->Int)(L T:az)(i j:Nat):az:=if 2*((L i j).natAbs:Int)<=m (j+1)then T else nL T i j (fY (L i j) (m (j+1)))
structure Lk(S0 S:St)(M:pF)(n:Nat)(m:Nat->Int)(L T:az)(b6 b7 b9:Nat)(l d q:Int):Prop where
 st:lH S M n m L T
 v6:cT S b6 50 2 (.big l)
 v7:cT S b7 50 2 (.big d)
 v9:cT S b9 50 2 (.big q)
 n6:¬nG M n b6
 n7:¬nG M n b7
 n9:¬nG M n b9
 fr:nH M n S0 S
def Lk.mod(h:Lk S0 S M n m L T b6 b7 b9 l d q)(b:lH S' M n m' L' T')(a:nH M n S S'):Lk S0 S' M n m' L' T' b6 b7 b9 l d q:=by
 obtain⟨c,e,f⟩:=h.v6;obtain⟨g,i,j⟩:=h.v7;obtain⟨k,o,p⟩:=h.v9;exact⟨b,⟨c,a _ _ h.n6 e,f⟩,⟨g,a _ _ h.n7 i,j⟩,⟨k,a _ _ h.n9 o,p⟩,h.n6,h.n7,h.n9,h.fr.trans a⟩
def Lk.ext(h:Lk S0 S M n m L T b6 b7 b9 l d q)(a:dy S S'):Lk S0 S' M n m L T b6 b7 b9 l d q:=h.mod (h.st.ext a) ((nH.refl M n S).ext a)
def nH.ofExt(h:dy S S'):nH M n S S':=fun d X _ a=>h d X a
def GB(S:St)(M:pF)(n i j K:Nat)(m:Nat->Int)(L T:az)(h:lH S M n m L T)(W:j<i)(o:i<n)(hn:n<=16)(d:K<=100000)(hK1:1<=K)
  (X:nb (m (j+1)) K) (hm0:0<m (j+1)) (N:∀a c,a<n->c<a->nb (L a c) K) (hT:∀a c,a<n->c<n->nb (T a c) K) :
  cJ 206 [.ptr 1 M.bs 0,ι i,ι j] S (fun _ S'=>lH S' M n m (Sp m L i j) (shV m L T i j)/\nH M n S S'):=by
 refine fy func206 rfl 137 ntmps206 kr sm ?_
 rw[jZ,results206];have w2:=aI (om:j<1000000)
 obtain⟨g,u,y0,y1,y2,y3⟩:=h.c0;obtain⟨gm,um,vm⟩:=h.m0;obtain⟨gl,ul,vl⟩:=h.l0;obtain⟨gi,ui,vi⟩:=h.l1 o;have xl:gl i=.sl 2 (M.gl i) 0 i:=vl i o;have xj:gi j=.big (L i j):=vi j W;have xm:gm (j+1)=.big (m (j+1)):=vm (j+1) om;simp -dsimp only[go_sem];refine jf 20 [[10,11,12,13,14,15,16,17],[]] kr ?_
 simp -dsimp only[*,go_sem,aa,(om:j+1<n+1)]
 refine ax.intro fun r f6=>?_
 try simp -dsimp only[go_sem]
 refine ax.intro fun p f7=>?_;have n7_6:=(af f7).1;have i6:=h.inn f6;have P:=(af f7).2;have i7:=h.inn P;obtain⟨p1,p2,p3,p4,p5,p6⟩:=nG.ne i6;obtain⟨q1,q2,q3,q4,q5,q6⟩:=nG.ne i7;have p5k:=p5 i o;have q5k:=q5 i o;simp -dsimp only[*,go_sem,ai n7_6,aQ]
 repeat refine an ?_
 have kl:nb (L i j+L i j) (K+1):=(N i j o W).add (N i j o W);refine(lZ (N i j o W) (N i j o W) om).call ?_;have hE7:dy S ((((S.upd r ⟨50,2,1,fun _=>.big 0⟩).upd p ⟨50,2,1,fun _=>.big 0⟩).upd r ⟨50,2,1,aQ (fun _=>.big 0) 0 (.big (L i j))⟩).upd p ⟨50,2,1,aQ (fun _=>.big 0) 0 (.big (m (j+1)))⟩):=((((dy.refl S).upd f6 _).upd P _).upd f6 _).upd P _;have Y:cT ((((S.upd r ⟨50,2,1,fun _=>.big 0⟩).upd p ⟨50,2,1,fun _=>.big 0⟩).upd r ⟨50,2,1,aQ (fun _=>.big 0) 0 (.big (L i j))⟩).upd p ⟨50,2,1,aQ (fun _=>.big 0) 0 (.big (m (j+1)))⟩) r 50 2 (.big (L i j)):=cT.set.upd (ai n7_6) _;have Z:cT ((((S.upd r ⟨50,2,1,fun _=>.big 0⟩).upd p ⟨50,2,1,fun _=>.big 0⟩).upd r ⟨50,2,1,aQ (fun _=>.big 0) 0 (.big (L i j))⟩).upd p ⟨50,2,1,aQ (fun _=>.big 0) 0 (.big (m (j+1)))⟩) p 50 2 (.big (m (j+1))):=cT.set;generalize (((S.upd r ⟨50,2,1,fun _=>.big 0⟩).upd p ⟨50,2,1,fun _=>.big 0⟩).upd r ⟨50,2,1,aQ (fun _=>.big 0) 0 (.big (L i j))⟩).upd p ⟨50,2,1,aQ (fun _=>.big 0) 0 (.big (m (j+1)))⟩=V at *
 replace h:=h.ext hE7
 have hF:nH M n S V:=nH.ofExt hE7;clear u y0 y1 y2 y3 um vm ul vl ui vi xl xj xm f6 f7 P p1 p2 p3 p4 p5 p6 q1 q2 q3 q4 q5 q6 p5k q5k hE7;clear g gm gl gi;simp -dsimp only[go_sem];refine ax.intro fun b8 f8=>?_;have n68:=Y.fresh f8;have n78:=Z.fresh f8
 try simp -dsimp only[go_sem,aQ]
 have J:dy V ((V.upd b8 ⟨50,2,1,fun _=>.big 0⟩).upd b8 ⟨50,2,1,aQ (fun _=>.big 0) 0 (.big (L i j+L i j))⟩):=((dy.refl V).upd f8 _).upd f8 _;refine iW (fun O V=>O 0=.ptr 1 M.bs 0/\O 1=ι i/\O 2=ι j/\O 6=.ptr 2 r 0/\O 7=.ptr 2 p 0/\O 8=.ptr 2 b8 0/\lH V M n m L T/\cT V r 50 2 (.big (L i j))/\cT V p 50 2 (.big (m (j+1)))/\cT V b8 50 2 (.big (L i j+L i j))/\nH M n S V) ⟨by simp only[go_sem],by simp only[go_sem],by simp only[go_sem],by simp only[go_sem],by simp only[go_sem],by simp only[go_sem],h.ext J,Y.ext J,Z.ext J,cT.set,hF.ext J⟩ ?_
 clear J h Y Z hF n68 n78 f8;clear V;rintro O V ⟨A,B,C,D,w,e8,h,Y,Z,h8,hF⟩;obtain⟨g6,u6,y6⟩:=id Y;obtain⟨g7,u7,y7⟩:=id Z;obtain⟨g8,u8,y8⟩:=id h8;apply sf (fun O V=>∃y,¬2*((L i j).natAbs:Int)<=m (j+1)/\O 0=.ptr 1 M.bs 0/\O 1=ι i/\O 2=ι j/\O 6=.ptr 2 r 0/\O 7=.ptr 2 p 0/\O 9=.ptr 2 y 0/\O 55=.sl 2 (M.gb j) 0 n/\O 56=ι n/\O 57=ι 0/\Lk S V M n m L T r p y (L i j) (m (j+1)) (fY (L i j) (m (j+1))))
 .intro key;by_cases hb1:L i j+L i j<=m (j+1)
  .refine wE [.big (L i j+L i j),.big (m (j+1)),ι (jU (L i j+L i j) (m (j+1))),.bool true,.bool true,.big (L i j+L i j),.big (-(L i j+L i j)),.big (m (j+1)),ι (jU (-(L i j+L i j)) (m (j+1))),.bool (decide (-(L i j+L i j)<=m (j+1))),.bool (decide (-(L i j+L i j)<=m (j+1)))] kr ?_ ?_
   .refine⟨?_,?_,?_,?_,?_,?_,?_,?_,?_,?_,?_,trivial⟩
    .intro O1 f b K d;have x8:O1 8=.ptr 2 b8 0:=(f 8 dc).trans e8
     unfold oI;simp only[*,go_sem,aa];exact d
    .intro O1 f b K d;have x7:O1 7=.ptr 2 p 0:=(f 7 dc).trans w
     unfold oI;simp only[*,go_sem,aa];exact d
    .intro O1 f b K d;have x35:O1 35=.big (L i j+L i j):=b 0 35 kr rfl
     have x36:O1 36=.big (m (j+1)):=b 1 36 kr rfl
     unfold oI;simp -dsimp only[*,go_sem,aa];refine(rt kl (X.mono om) om).call ?_;exact d
    .intro O1 f b K d;have x37:O1 37=ι (jU (L i j+L i j) (m (j+1))):=b 2 37 kr rfl
     unfold oI;simp only[*,go_sem,sc];exact d
    .intro O1 f b K d;have x38:O1 38=.bool true:=b 3 38 kr rfl
     unfold oI;simp only[go_sem,x38];exact d
    .intro O1 f b K d;have l:O1 39=.bool true:=b 4 39 kr rfl
     have x8:O1 8=.ptr 2 b8 0:=(f 8 dc).trans e8
     unfold oI;simp only[*,go_sem,aa];exact d
    .intro O1 f b K d;have l:O1 39=.bool true:=b 4 39 kr rfl
     have x40:O1 40=.big (L i j+L i j):=b 5 40 kr rfl
     unfold oI;simp -dsimp only[*,go_sem,aa];refine(sX kl om).call ?_;exact d
    .intro O1 f b K d;have l:O1 39=.bool true:=b 4 39 kr rfl
     have x7:O1 7=.ptr 2 p 0:=(f 7 dc).trans w
     unfold oI;simp only[*,go_sem,aa];exact d
    .intro O1 f b K d;have l:O1 39=.bool true:=b 4 39 kr rfl
     have x41:O1 41=.big (-(L i j+L i j)):=b 6 41 kr rfl
     have x42:O1 42=.big (m (j+1)):=b 7 42 kr rfl
     unfold oI;simp -dsimp only[*,go_sem,aa];refine(rt kl.neg (X.mono om) om).call ?_;exact d
    .intro O1 f b K d;have l:O1 39=.bool true:=b 4 39 kr rfl
     have x43:O1 43=ι (jU (-(L i j+L i j)) (m (j+1))):=b 8 43 kr rfl
     unfold oI;simp only[*,go_sem,sc];exact d
    .intro O1 f b K d;have l:O1 39=.bool true:=b 4 39 kr rfl
     have x44:O1 44=.bool (decide (-(L i j+L i j)<=m (j+1))):=b 9 44 kr rfl
     unfold oI;simp only[*,go_sem];exact d
   intro O1 f b;have x0:O1 0=.ptr 1 M.bs 0:=(f 0 dc).trans A
   have x1:O1 1=ι i:=(f 1 dc).trans B
   have x2:O1 2=ι j:=(f 2 dc).trans C
   have x6:O1 6=.ptr 2 r 0:=(f 6 dc).trans D
   have x7:O1 7=.ptr 2 p 0:=(f 7 dc).trans w
   have x45:O1 45=.bool (decide (-(L i j+L i j)<=m (j+1))):=b 10 45 kr
   by_cases hb2:-(L i j+L i j)<=m (j+1)
   .simp only[go_sem,aa,x45,hb2];have hs:2*((L i j).natAbs:Int)<=m (j+1):=om
    unfold Sp shV;rw[aj hs,aj hs];exact⟨h,hF⟩
   .simp -dsimp only[*,go_sem,aa];refine(sY (L i j) (m (j+1)) K (N i j o W) X om om).call ?_;rw[show(L i j+L i j+m (j+1))/(m (j+1)+m (j+1))=fY (L i j) (m (j+1))from rfl];simp -dsimp only[go_sem];refine ax.intro fun y f9=>?_;have i9:=h.inn f9;obtain⟨p1,p2,p3,p4,p5,p6⟩:=nG.ne i9;obtain⟨gs,us,z0,z1,z2,z3⟩:=h.c0;obtain⟨gb,ub,vb⟩:=h.b0;have xb:gb j=.sl 2 (M.gb j) 0 n:=vb j om;simp only[go_sem,aa,x0,x2,us,z2,ub,xb,p1,p4,(om:j<n)]
    refine key _ _ ?_;refine⟨y,om,by simp only[go_sem,x0],by simp only[go_sem,x1],by simp only[go_sem,x2],by simp only[go_sem,x6],by simp only[go_sem,x7],by simp only[go_sem],by simp only[go_sem],by simp only[go_sem],by simp only[go_sem],?_⟩
    have z:dy V ((V.upd y ⟨50,2,1,fun _=>.big 0⟩).upd y ⟨50,2,1,aQ (fun _=>.big 0) 0 (.big (fY (L i j) (m (j+1))))⟩):=((dy.refl V).upd f9 _).upd f9 _;exact⟨h.ext z,Y.ext z,Z.ext z,cT.set,i6,i7,i9,hF.ext z⟩
  .refine wE [.big (L i j+L i j),.big (m (j+1)),ι (jU (L i j+L i j) (m (j+1))),.bool false,.bool false,.any,.any,.any,.any,.any,.bool false] kr ?_ ?_
   .refine⟨?_,?_,?_,?_,?_,?_,?_,?_,?_,?_,?_,trivial⟩
    .intro O1 f b K d;have x8:O1 8=.ptr 2 b8 0:=(f 8 dc).trans e8
     unfold oI;simp only[*,go_sem,aa];exact d
    .intro O1 f b K d;have x7:O1 7=.ptr 2 p 0:=(f 7 dc).trans w
     unfold oI;simp only[*,go_sem,aa];exact d
    .intro O1 f b K d;have x35:O1 35=.big (L i j+L i j):=b 0 35 kr rfl
     have x36:O1 36=.big (m (j+1)):=b 1 36 kr rfl
     unfold oI;simp -dsimp only[*,go_sem,aa];refine(rt kl (X.mono om) om).call ?_;exact d
    .intro O1 f b K d;have x37:O1 37=ι (jU (L i j+L i j) (m (j+1))):=b 2 37 kr rfl
     unfold oI;simp only[*,go_sem,sc];exact d
    .intro O1 f b K d;have x38:O1 38=.bool false:=b 3 38 kr rfl
     unfold oI;simp only[go_sem,x38];exact d
    .intro O1 f b K d;have l:O1 39=.bool false:=b 4 39 kr rfl
     unfold oI;simp only[go_sem,aa,l];exact d
    .intro O1 f b K d;have l:O1 39=.bool false:=b 4 39 kr rfl
     unfold oI;simp only[go_sem,aa,l];exact d
    .intro O1 f b K d;have l:O1 39=.bool false:=b 4 39 kr rfl
     unfold oI;simp only[go_sem,aa,l];exact d
    .intro O1 f b K d;have l:O1 39=.bool false:=b 4 39 kr rfl
     unfold oI;simp only[go_sem,aa,l];exact d
    .intro O1 f b K d;have l:O1 39=.bool false:=b 4 39 kr rfl
     unfold oI;simp only[go_sem,l];exact d
    .intro O1 f b K d;have l:O1 39=.bool false:=b 4 39 kr rfl
     unfold oI;simp only[go_sem,l];exact d
   intro O1 f b;have x0:O1 0=.ptr 1 M.bs 0:=(f 0 dc).trans A
   have x1:O1 1=ι i:=(f 1 dc).trans B
   have x2:O1 2=ι j:=(f 2 dc).trans C
   have x6:O1 6=.ptr 2 r 0:=(f 6 dc).trans D
   have x7:O1 7=.ptr 2 p 0:=(f 7 dc).trans w
   have x45:O1 45=.bool false:=b 10 45 kr
   simp -dsimp only[*,go_sem,aa];refine(sY (L i j) (m (j+1)) K (N i j o W) X om om).call ?_;rw[show(L i j+L i j+m (j+1))/(m (j+1)+m (j+1))=fY (L i j) (m (j+1))from rfl];simp -dsimp only[go_sem];refine ax.intro fun y f9=>?_;have i9:=h.inn f9;obtain⟨p1,p2,p3,p4,p5,p6⟩:=nG.ne i9;obtain⟨gs,us,z0,z1,z2,z3⟩:=h.c0;obtain⟨gb,ub,vb⟩:=h.b0;have xb:gb j=.sl 2 (M.gb j) 0 n:=vb j om;simp only[go_sem,aa,x0,x2,us,z2,ub,xb,p1,p4,(om:j<n)]
   refine key _ _ ?_;refine⟨y,om,by simp only[go_sem,x0],by simp only[go_sem,x1],by simp only[go_sem,x2],by simp only[go_sem,x6],by simp only[go_sem,x7],by simp only[go_sem],by simp only[go_sem],by simp only[go_sem],by simp only[go_sem],?_⟩
   have z:dy V ((V.upd y ⟨50,2,1,fun _=>.big 0⟩).upd y ⟨50,2,1,aQ (fun _=>.big 0) 0 (.big (fY (L i j) (m (j+1))))⟩):=((dy.refl V).upd f9 _).upd f9 _;exact⟨h.ext z,Y.ext z,Z.ext z,cT.set,i6,i7,i9,hF.ext z⟩
 clear h Y Z h8 hF A B C D w e8 u6 y6 u7 y7 u8 y8;clear O V g6 g7 g8;rintro O V ⟨y,hns,A,B,C,D,w,G,t,v,s,e⟩;have hq:nb (fY (L i j) (m (j+1))) (K+4):=by
  unfold fY;refine nb.of_le (DG om) ?_;exact(kl.add (X.mono om)).mono om
 generalize hqq:fY (L i j) (m (j+1))=q at *;refine cA (fun O V=>∃c:Nat,c<=n/\O 0=.ptr 1 M.bs 0/\O 1=ι i/\O 2=ι j/\O 6=.ptr 2 r 0/\O 7=.ptr 2 p 0/\O 9=.ptr 2 y 0/\O 55=.sl 2 (M.gb j) 0 n/\O 56=ι n/\O 57=ι c/\Lk S V M n m L (fun a x=>if a=i/\x<c then T i x-q*T j x else T a x) r p y (L i j) (m (j+1)) q) (fun O V=>n-bS (O 57)) ?_ ?_
 .exact⟨0,om,A,B,C,D,w,G,t,v,s,e.mod (e.st.congr (fun _ _=>rfl) (fun _ _ _ _=>rfl) (fun a x _ _=>by simp)) (nH.refl _ _ _)⟩
 clear A B C D w G t v s e;clear O V;rintro Q' Q O V ⟨c,hc,A,B,C,D,w,G,t,v,s,e⟩;by_cases E:c<n
 .obtain⟨gj,uj,vj⟩:=e.st.b1 (om:j<n)
  have xj:gj c=.big (T j c):=by have:=vj c E;rw[ah om]at this;exact this
  simp -dsimp only[go_sem,aa,t,v,s,E,uj];refine ax.intro fun R f11=>?_;have hE:dy V ((V.upd R ⟨50,2,1,fun _=>.big 0⟩).upd R ⟨50,2,1,aQ (fun _=>.big 0) 0 (.big (T j c))⟩):=((dy.refl V).upd f11 _).upd f11 _;simp -dsimp only[go_sem,aa,s,xj];refine iW (fun O V=>O 0=.ptr 1 M.bs 0/\O 1=ι i/\O 2=ι j/\O 6=.ptr 2 r 0/\O 7=.ptr 2 p 0/\O 9=.ptr 2 y 0/\O 10=ι c/\O 11=.ptr 2 R 0/\O 55=.sl 2 (M.gb j) 0 n/\O 56=ι n/\O 57=ι c/\cT V R 50 2 (.big (T j c))/\Lk S V M n m L (fun a x=>if a=i/\x<c then T i x-q*T j x else T a x) r p y (L i j) (m (j+1)) q) ⟨by simp only[go_sem,A],by simp only[go_sem,B],by simp only[go_sem,C],by simp only[go_sem,D],by simp only[go_sem,w],by simp only[go_sem,G],by simp only[go_sem],by simp only[go_sem],by simp only[go_sem,t],by simp only[go_sem,v],by simp only[go_sem,s],cT.set,e.ext hE⟩ ?_
  clear A B C D w G t v s e uj xj vj hE f11;clear O V gj;rintro O V ⟨A,B,C,D,w,G,e10,e11,t,v,s,h11,e⟩;obtain⟨g,u,y0,y1,y2,y3⟩:=e.st.c0;obtain⟨gb,ub,vb⟩:=e.st.b0;obtain⟨gi,ui,vi⟩:=e.st.b1 o;obtain⟨g9,u9,y9⟩:=id e.v9;obtain⟨g11,u11,y11⟩:=id h11;have xb:gb i=.sl 2 (M.gb i) 0 n:=vb i o;have xi:gi c=.big (T i c):=by have:=vi c E;rw[ah om]at this;exact this
  refine aN 23 kr ?_
  simp only[go_sem,aa,A,B,C,D,w,G,e10,e11,t,v,s,u,y2,ub,xb,ui,xi,u9,y9,u11,y11,o,E];have k1:=hq.mul ((hT j c om E).mono (om:K<=K+4))
  refine⟨_,(gW hq ((hT j c om E).mono om) om).pure',_,(mD ((hT i c o E).mono (om:K<=K+4+(K+4))) k1 om).pure',?_⟩
  simp only[go_sem,aI (om:c<1000000),bS]
  refine⟨⟨c+1,om,rfl,(e.mod (e.st.setT o ui) ((nH.refl _ _ _).upd (nG.gb o) _)).mod ?_ (nH.refl _ _ _)⟩,om⟩
  exact(e.st.setT o ui).congr (fun _ _=>rfl) (fun _ _ _ _=>rfl) (fun a x _ _=>by simp only[dS];grind)
 have hcn':c=n:=om
 subst hcn';have hI2:Lk S V M c m L (nL T i j q) r p y (L i j) (m (j+1)) q:=e.mod (e.st.congr (fun _ _=>rfl) (fun _ _ _ _=>rfl) (fun a x _ hx=>by simp only[nL];grind)) (nH.refl _ _ _)
 obtain⟨g,u,y0,y1,y2,y3⟩:=e.st.c0;obtain⟨gl,ul,vl⟩:=e.st.l0;have xl:gl j=.sl 2 (M.gl j) 0 j:=vl j om;simp only[go_sem,aa,t,v,s,E];rw[Q];simp only[*,go_sem,aa,(om:j<c)]
 refine cA (fun O V=>∃k:Nat,k<=j/\O 0=.ptr 1 M.bs 0/\O 1=ι i/\O 2=ι j/\O 6=.ptr 2 r 0/\O 7=.ptr 2 p 0/\O 9=.ptr 2 y 0/\O 92=.sl 2 (M.gl j) 0 j/\O 93=ι j/\O 94=ι k/\Lk S V M c m (fun a x=>if a=i/\x<k then L i x-q*L j x else L a x) (nL T i j q) r p y (L i j) (m (j+1)) q) (fun O V=>j-bS (O 94)) ?_ ?_
 .simp only[*,go_sem];exact⟨0,om,rfl,hI2.mod (hI2.st.congr (fun _ _=>rfl) (fun a x _ _=>by simp) (fun _ _ _ _=>rfl)) (nH.refl _ _ _)⟩
 clear A B C D w G t v s e hI2 u y0 y1 y2 y3 ul vl xl Q;clear O V g gl Q';rintro Q' Q O V ⟨k,hkj,A,B,C,D,w,G,H,I,F,e⟩;by_cases hk:k<j
 .obtain⟨gj,uj,vj⟩:=e.st.l1 (om:j<c)
  have xj:gj k=.big (L j k):=by have:=vj k hk;rw[ah om]at this;exact this
  simp -dsimp only[go_sem,aa,H,I,F,hk,uj];refine ax.intro fun U f13=>?_;have hE:dy V ((V.upd U ⟨50,2,1,fun _=>.big 0⟩).upd U ⟨50,2,1,aQ (fun _=>.big 0) 0 (.big (L j k))⟩):=((dy.refl V).upd f13 _).upd f13 _;simp -dsimp only[go_sem,aa,F,xj];refine iW (fun O V=>O 0=.ptr 1 M.bs 0/\O 1=ι i/\O 2=ι j/\O 6=.ptr 2 r 0/\O 7=.ptr 2 p 0/\O 9=.ptr 2 y 0/\O 12=ι k/\O 13=.ptr 2 U 0/\O 92=.sl 2 (M.gl j) 0 j/\O 93=ι j/\O 94=ι k/\cT V U 50 2 (.big (L j k))/\Lk S V M c m (fun a x=>if a=i/\x<k then L i x-q*L j x else L a x) (nL T i j q) r p y (L i j) (m (j+1)) q) ⟨by simp only[go_sem,A],by simp only[go_sem,B],by simp only[go_sem,C],by simp only[go_sem,D],by simp only[go_sem,w],by simp only[go_sem,G],by simp only[go_sem],by simp only[go_sem],by simp only[go_sem,H],by simp only[go_sem,I],by simp only[go_sem,F],cT.set,e.ext hE⟩ ?_
  clear A B C D w G H I F e uj xj vj hE f13;clear O V gj;rintro O V ⟨A,B,C,D,w,G,e12,e13,H,I,F,h13,e⟩;obtain⟨g,u,y0,y1,y2,y3⟩:=e.st.c0;obtain⟨gl,ul,vl⟩:=e.st.l0;obtain⟨gi,ui,vi⟩:=e.st.l1 o;obtain⟨g9,u9,y9⟩:=id e.v9;obtain⟨g13,u13,y13⟩:=id h13;have hki:k<i:=om
  have xl:gl i=.sl 2 (M.gl i) 0 i:=vl i o;have xi:gi k=.big (L i k):=by have:=vi k hki;rw[ah om]at this;exact this
  refine aN 23 kr ?_
  simp only[go_sem,aa,A,B,C,D,w,G,e12,e13,H,I,F,u,y1,ul,xl,ui,xi,u9,y9,u13,y13,o,hki];have k1:=hq.mul ((N j k om hk).mono (om:K<=K+4))
  refine⟨_,(gW hq ((N j k om hk).mono om) om).pure',_,(mD ((N i k o hki).mono (om:K<=K+4+(K+4))) k1 om).pure',?_⟩
  simp only[go_sem,aI (om:k<1000000),bS]
  refine⟨⟨k+1,om,rfl,(e.mod (e.st.setL o ui) ((nH.refl _ _ _).upd (nG.gl o) _)).mod ?_ (nH.refl _ _ _)⟩,om⟩
  exact(e.st.setL o ui).congr (fun _ _=>rfl) (fun a x _ _=>by simp only[dS];grind) (fun _ _ _ _=>rfl)
 have hkj':k=j:=om
 subst hkj';simp only[go_sem,aa,H,I,F,hk];rw[Q];obtain⟨g,u,y0,y1,y2,y3⟩:=e.st.c0;obtain⟨gl,ul,vl⟩:=e.st.l0;obtain⟨gi,ui,vi⟩:=e.st.l1 o;obtain⟨g6,u6,y6⟩:=id e.v6;obtain⟨g7,u7,y7⟩:=id e.v7;obtain⟨g9,u9,y9⟩:=id e.v9;have xl:gl i=.sl 2 (M.gl i) 0 i:=vl i o;simp only[go_sem];refine aN 14 kr ?_
 simp only[*,go_sem,aa];have k1:=hq.mul (X.mono (om:K<=K+4))
 refine⟨_,(gW hq (X.mono om) om).pure',_,(mD ((N i k o W).mono (om:K<=K+4+(K+4))) k1 om).pure',?_⟩
 simp only[go_sem];unfold Sp shV;rw[ah hns,ah hns,hqq];exact⟨(e.st.setL o ui).congr (fun _ _=>rfl) (fun a x _ _=>by simp only[dS];grind) (fun _ _ _ _=>rfl),e.fr.upd (nG.gl o) _⟩

structure AW(S0 S:St)(M:pF)(n:Nat)(m:Nat->Int)(L T:az)(b5 b6 b7:Nat)(p:PL)(a0 b0:Int):Prop where
 st:lH S M n m L T
 pl:so S b5 p
 v6:cT S b6 50 2 (.big a0)
 v7:cT S b7 50 2 (.big b0)
 n5:¬nG M n b5
 n6:¬nG M n b6
 n7:¬nG M n b7
 fr:nH M n S0 S
def AW.mod{b0:Int}(h:AW S0 S M n m L T b5 b6 b7 p a0 b0)(b:lH S' M n m' L' T')(a:nH M n S S'):AW S0 S' M n m' L' T' b5 b6 b7 p a0 b0:=by
 obtain⟨c,d,e⟩:=h.pl;obtain⟨f,g,i⟩:=h.v6;obtain⟨j,k,l⟩:=h.v7;exact⟨b,⟨c,a _ _ h.n5 d,e⟩,⟨f,a _ _ h.n6 g,i⟩,⟨j,a _ _ h.n7 k,l⟩,h.n5,h.n6,h.n7,h.fr.trans a⟩
def AW.ext{b0:Int}(h:AW S0 S M n m L T b5 b6 b7 p a0 b0)(a:dy S S'):AW S0 S' M n m L T b5 b6 b7 p a0 b0:=h.mod (h.st.ext a) ((nH.refl M n S).ext a)
def AW.none{b0:Int}(h:AW S0 S M n m L T b5 b6 b7 p a0 b0){c:Nat}(a:S c=ae):S0 c=ae:=by
 cases e:S0 c with
 | none=>rfl
 | some X=>have:=h.fr c X (h.st.inn a) e;rw[a]at this;cases this
def AW.var{b0:Int}(h:AW S0 S M n m L T b5 b6 b7 p a0 b0){c:Nat}(b:¬nG M n c)(f:b5≠c)(g:b6≠c)(i:b7≠c)(j:S0 c=ae)(X:eo):AW S0 (S.upd c X) M n m L T b5 b6 b7 p a0 b0 :=
 ⟨h.st.upd b X,h.pl.upd f X,h.v6.upd g X,h.v7.upd i X,h.n5,h.n6,h.n7,fun d Y k a=>by
  have e:d≠c:=by rintro rfl;rw[j]at a;cases a
  rw[aG e];exact h.fr d Y k a⟩
def plV(p:PL):AV:=.agg [.big p.a,.big p.b,.big p.c,.big p.f0,.big p.f1,.big p.s0,.big p.s1]
structure PLb(p:PL)(K:Nat):Prop where
 a:nb p.a K
 b:nb p.b K
 f0:nb p.f0 K
 f1:nb p.f1 K
 s0:nb p.s0 K
 s1:nb p.s1 K
def Dw(S:St)(M:pF)(n k K:Nat)(m:Nat->Int)(L T:az)(f p:PL)(h:lH S M n m L T)(hk:0<k)(w:k<n)(hn2:n<=16)(hK:K<=100000)
  (hm:∀c,c<n+1->nb (m c) K) (hL:∀a c,a<n->c<a->nb (L a c) K) (hT:∀a c,a<n->c<n->nb (T a c) K) (Y:PLb p K) (ha0:nb f.a K) (hb0:nb f.b K) (h0:0<f.a) (h1:0<m (k-1))
  (hpl:∀S bp,so S bp f->cJ 248 [.ptr 2 bp 0] S (fun _ S'=>so S' bp p/\F8 bp S S')) :
  cJ 209 [.ptr 1 M.bs 0,ι k,plV f] S (fun _ S'=>lH S' M n (fun j=>if j=k then p.a else m j) (te k p f.a f.b m L) (im T k p.f0 p.f1 p.s0 p.s1)/\nH M n S S'):=by
 refine fy func209 rfl 263 ntmps209 kr sm ?_
 rw[jZ,results209];have w1:ω ((k:Int)-1)=((k-1:Nat):Int):=by rw[oY hk];exact i64_in om om
 have w2:=aI (om:k<1000000)
 simp -dsimp only[go_sem,plV,aS,bF,bZ,ct];refine ax.intro fun G f5=>?_;have i5:=h.inn f5;refine iW (fun O V=>O 0=.ptr 1 M.bs 0/\O 1=ι k/\O 5=.ptr 2 G 0/\lH V M n m L T/\so V G f/\nH M n S V) ⟨by simp only[go_sem],by simp only[go_sem],by simp only[go_sem],h.upd i5 _,so.of ca rfl rfl rfl rfl rfl rfl rfl,nH.ofExt ((dy.refl S).upd f5 _)⟩ ?_
 clear h;rintro O V ⟨q,l,s,h,hP,hF⟩;obtain⟨g,u,x0,x1,x2,x3,x4,x5,x6⟩:=hP.get;refine jf 6 [[2,3],[]] kr ?_
 simp -dsimp only[*,go_sem,aa];refine ax.intro fun A f6=>?_
 try simp -dsimp only[go_sem]
 refine ax.intro fun B f7=>?_;have n7_6:=(af f7).1;have i6:=h.inn f6;have f7':=(af f7).2;have i7:=h.inn f7';have n56:=hP.fresh f6;have n57:=hP.fresh f7';simp -dsimp only[*,go_sem,ai n7_6];have hE7:dy V ((((V.upd A ⟨50,2,1,fun _=>.big 0⟩).upd B ⟨50,2,1,fun _=>.big 0⟩).upd A ⟨50,2,1,aQ (fun _=>.big 0) 0 (.big f.a)⟩).upd B ⟨50,2,1,aQ (fun _=>.big 0) 0 (.big f.b)⟩):=((((dy.refl V).upd f6 _).upd f7' _).upd f6 _).upd f7' _;refine(hpl _ G (hP.ext hE7)).mono ?_;rintro _ V2 ⟨hP2,hB⟩;have i:AW S V2 M n m L T G A B p f.a f.b:=by
  have v6:cT ((((V.upd A ⟨50,2,1,fun _=>.big 0⟩).upd B ⟨50,2,1,fun _=>.big 0⟩).upd A ⟨50,2,1,aQ (fun _=>.big 0) 0 (.big f.a)⟩).upd B ⟨50,2,1,aQ (fun _=>.big 0) 0 (.big f.b)⟩) A 50 2 (.big f.a):=cT.set.upd (ai n7_6) _;have v7:cT ((((V.upd A ⟨50,2,1,fun _=>.big 0⟩).upd B ⟨50,2,1,fun _=>.big 0⟩).upd A ⟨50,2,1,aQ (fun _=>.big 0) 0 (.big f.a)⟩).upd B ⟨50,2,1,aQ (fun _=>.big 0) 0 (.big f.b)⟩) B 50 2 (.big f.b):=cT.set;obtain⟨g6,u6,y6⟩:=v6;obtain⟨g7,u7,y7⟩:=v7;refine⟨(h.ext hE7).frm i5 hB,hP2,⟨g6,hB _ _ (ai n56) u6,y6⟩,⟨g7,hB _ _ (ai n57) u7,y7⟩,i5,i6,i7,fun d X hd hX=>?_⟩;by_cases e:d=G
  .rw[e,f5]at hX;cases hX
  .exact hB d X e (hE7 d X (hF d X hd hX))
 clear hP2 hB hE7 hF h hP u x0 x1 x2 x3 x4 x5 x6 f6 f7 f7' n56 n57;obtain⟨g,u,U,F,H,y3⟩:=i.st.c0;simp only[*,go_sem,aa];refine cA (fun O V=>∃c:Nat,c<=n/\O 0=.ptr 1 M.bs 0/\O 1=ι k/\O 5=.ptr 2 G 0/\O 6=.ptr 2 A 0/\O 7=.ptr 2 B 0/\O 27=ι n/\O 28=ι c/\AW S V M n m L (fun a x=>if x<c then im T k p.f0 p.f1 p.s0 p.s1 a x else T a x) G A B p f.a f.b) (fun O V=>n-bS (O 28)) ?_ ?_
 .simp only[*,go_sem];exact⟨0,om,rfl,i.mod (i.st.congr (fun _ _=>rfl) (fun a x _ _=>by simp) (fun a x _ _=>by simp)) (nH.refl _ _ _)⟩
 clear q l s i u U F H y3;clear g;rintro Q' hQ' O V ⟨c,hcb,q,l,s,y,t,en,ec,i⟩;by_cases r:c<n
 .obtain⟨g,u,U,F,H,y3⟩:=i.st.c0;obtain⟨gb,ub,vb⟩:=i.st.b0;obtain⟨gp,up,vp⟩:=i.st.b1 (om:k-1<n)
  obtain⟨gk,uk,vk⟩:=i.st.b1 w;have Z:gb (k-1)=.sl 2 (M.gb (k-1)) 0 n:=vb (k-1) om;have I:gb k=.sl 2 (M.gb k) 0 n:=vb k w;have xp:gp c=.big (T (k-1) c):=by have:=vp c r;rw[ah om]at this;exact this
  have xk:gk c=.big (T k c):=by have:=vk c r;rw[ah om]at this;exact this
  simp -dsimp only[go_sem,en,ec,r];refine jf 23 [[11,12,13,14,15,16,17,18,19,20],[]] kr ?_
  simp -dsimp only[go_sem,aa,q,l,r,u,H,ub,Z,I,up,uk,xp,xk,w1,w,(om:k-1<n)]
  refine ax.intro fun b9 f9=>?_
  try simp -dsimp only[go_sem]
  refine ax.intro fun b10 f10=>?_;have n10_9:=(af f10).1;have j1:=i.st.inn f9;have C:=(af f10).2;have j2:=i.st.inn C;obtain⟨p1,p2,p3,p4,p5,p6⟩:=nG.ne j1;obtain⟨q1,q2,q3,q4,q5,q6⟩:=nG.ne j2;have r1:=p6 k w;have r2:=q6 k w;have r3:=p6 (k-1) om;have r4:=q6 (k-1) om;simp -dsimp only[go_sem,q,l,r,u,H,ub,I,uk,xk,w,p1,p4,q1,q4,r1,r2,nn n10_9];have hE:dy V ((((V.upd b9 ⟨50,2,1,fun _=>.big 0⟩).upd b10 ⟨50,2,1,fun _=>.big 0⟩).upd b9 ⟨50,2,1,aQ (fun _=>.big 0) 0 (.big (T (k-1) c))⟩).upd b10 ⟨50,2,1,aQ (fun _=>.big 0) 0 (.big (T k c))⟩):=((((dy.refl V).upd f9 _).upd C _).upd f9 _).upd C _;refine iW (fun O V=>O 0=.ptr 1 M.bs 0/\O 1=ι k/\O 5=.ptr 2 G 0/\O 6=.ptr 2 A 0/\O 7=.ptr 2 B 0/\O 8=ι c/\O 9=.ptr 2 b9 0/\O 10=.ptr 2 b10 0/\O 27=ι n/\O 28=ι c/\cT V b9 50 2 (.big (T (k-1) c))/\cT V b10 50 2 (.big (T k c))/\AW S V M n m L (fun a x=>if x<c then im T k p.f0 p.f1 p.s0 p.s1 a x else T a x) G A B p f.a f.b) ⟨by simp only[go_sem,q],by simp only[go_sem,l],by simp only[go_sem,s],by simp only[go_sem,y],by simp only[go_sem,t],by simp only[go_sem],by simp only[go_sem],by simp only[go_sem],by simp only[go_sem,en],by simp only[go_sem,ec],cT.set.upd (ai n10_9) _,cT.set,i.ext hE⟩ ?_
  clear q l s y t en ec i u U F H y3 ub vb up vp uk vk Z I xp xk hE f9 f10 C p1 p2 p3 p4 p5 p6 q1 q2 q3 q4 q5 q6 r1 r2 r3 r4 j1 j2;clear O V g gb gp gk;rintro O V ⟨q,l,s,y,t,ev,e9,e10,en,ec,h9,h10,i⟩;obtain⟨g,u,U,F,H,y3⟩:=i.st.c0;obtain⟨gb,ub,vb⟩:=i.st.b0;obtain⟨gp,up,vp⟩:=i.st.b1 (om:k-1<n)
  obtain⟨gk,uk,vk⟩:=i.st.b1 w;have Z:gb (k-1)=.sl 2 (M.gb (k-1)) 0 n:=vb (k-1) om;have I:gb k=.sl 2 (M.gb k) 0 n:=vb k w;obtain⟨g5,u5,x0,x1,x2,x3,x4,x5,x6⟩:=i.pl.get;obtain⟨g9,u9,y9⟩:=id h9;obtain⟨g10,u10,y10⟩:=id h10;have hne:M.gb (k-1)≠M.gb k:=fun e=>by have:=i.st.bas.inj (k-1) k om w e;omega
  refine fm 28 kr ?_
  simp only[go_sem,aa,q,l,s,y,t,ev,e9,e10,en,ec,r,u,H,ub,Z,I,up,uk,u5,x3,x4,x5,x6,u9,y9,u10,y10,ai hne,w1,w,(om:k-1<n),dZ]
  refine⟨_,(lX p.f0 p.f1 (T (k-1) c) (T k c) K Y.f0 Y.f1 (hT (k-1) c om om) (hT k c om om) om).pure',_,(lX p.s0 p.s1 (T (k-1) c) (T k c) K Y.s0 Y.s1 (hT (k-1) c om om) (hT k c om om) om).pure',?_⟩;simp only[go_sem,aI (om:c<1000000),bS]
  have s1:=i.st.setT (c:=c) (z:=p.f0*T (k-1) c+p.f1*T k c) (om:k-1<n) up
  have s2:=s1.setT (c:=c) (z:=p.s0*T (k-1) c+p.s1*T k c) w ((aG (ai hne)).trans uk);refine⟨⟨c+1,om,rfl,i.mod (s2.congr (fun _ _=>rfl) ?_ ?_) (((nH.refl _ _ _).upd (nG.gb om) _).upd (nG.gb w) _)⟩,om⟩
  .exact fun _ _ _ _=>rfl
  .intro a x _ _;simp only[dS,im];grind
 have hcc:n=c:=om
 rw[<-hcc]at i ec;have hnn:¬n<n:=cB n;simp only[go_sem,en,ec,cB];rw[hQ']
 replace i:=i.mod (i.st.congr (T':=im T k p.f0 p.f1 p.s0 p.s1) (fun _ _=>rfl) (fun _ _ _ _=>rfl) (fun a x _ hx=>by rw[aj hx])) (nH.refl _ _ _)
 clear hQ' Q' hcb r en ec;obtain⟨g,u,U,F,H,y3⟩:=i.st.c0;simp only[go_sem,l];refine cA (fun O V=>∃c:Nat,c<=(k-1:Nat)/\O 0=.ptr 1 M.bs 0/\O 1=ι k/\O 5=.ptr 2 G 0/\O 6=.ptr 2 A 0/\O 7=.ptr 2 B 0/\O 83=ι ((k-1:Nat):Int)/\O 84=ι c/\AW S V M n m (fun a x=>if (a=k-1∨a=k)/\x<c then te k p f.a f.b m L a x else L a x) (im T k p.f0 p.f1 p.s0 p.s1) G A B p f.a f.b) (fun O V=>(k-1:Nat)-bS (O 84)) ?_ ?_
 .simp only[go_sem,q,l,s,y,t,w1];exact⟨0,om,rfl,i.mod (i.st.congr (fun _ _=>rfl) (fun a x _ _=>by simp) (fun a x _ _=>by simp)) (nH.refl _ _ _)⟩
 clear q l s y t i u U F H y3;clear g;rintro Q' hQ' O V ⟨c,hcb,q,l,s,y,t,en,ec,i⟩;by_cases r:c<k-1
 .obtain⟨g,u,U,F,H,y3⟩:=i.st.c0;obtain⟨gb,ub,vb⟩:=i.st.l0;obtain⟨gp,up,vp⟩:=i.st.l1 (om:k-1<n)
  obtain⟨gk,uk,vk⟩:=i.st.l1 w;have Z:gb (k-1)=.sl 2 (M.gl (k-1)) 0 (k-1):=vb (k-1) om;have I:gb k=.sl 2 (M.gl k) 0 k:=vb k w;have xp:gp c=.big (L (k-1) c):=by have:=vp c om;rw[ah om]at this;exact this
  have xk:gk c=.big (L k c):=by have:=vk c om;rw[ah om]at this;exact this
  simp -dsimp only[go_sem,en,ec,r];refine jf 23 [[11,12,13,14,15,16,17,18,19,20],[]] kr ?_
  simp -dsimp only[go_sem,aa,q,l,r,u,F,ub,Z,I,up,uk,xp,xk,w1,w,(om:k-1<n),(om:c<k)]
  refine ax.intro fun b12 f12=>?_
  try simp -dsimp only[go_sem]
  refine ax.intro fun b13 f13=>?_;have n13_12:=(af f13).1;have j1:=i.st.inn f12;have C:=(af f13).2;have j2:=i.st.inn C;obtain⟨p1,p2,p3,p4,p5,p6⟩:=nG.ne j1;obtain⟨q1,q2,q3,q4,q5,q6⟩:=nG.ne j2;have r1:=p5 k w;have r2:=q5 k w;have r3:=p5 (k-1) om;have r4:=q5 (k-1) om;simp -dsimp only[go_sem,q,l,u,F,ub,I,uk,xk,w,(om:c<k),p1,p3,q1,q3,r1,r2,nn n13_12]
  have hE:dy V ((((V.upd b12 ⟨50,2,1,fun _=>.big 0⟩).upd b13 ⟨50,2,1,fun _=>.big 0⟩).upd b12 ⟨50,2,1,aQ (fun _=>.big 0) 0 (.big (L (k-1) c))⟩).upd b13 ⟨50,2,1,aQ (fun _=>.big 0) 0 (.big (L k c))⟩):=((((dy.refl V).upd f12 _).upd C _).upd f12 _).upd C _;refine iW (fun O V=>O 0=.ptr 1 M.bs 0/\O 1=ι k/\O 5=.ptr 2 G 0/\O 6=.ptr 2 A 0/\O 7=.ptr 2 B 0/\O 11=ι c/\O 12=.ptr 2 b12 0/\O 13=.ptr 2 b13 0/\O 83=ι ((k-1:Nat):Int)/\O 84=ι c/\cT V b12 50 2 (.big (L (k-1) c))/\cT V b13 50 2 (.big (L k c))/\AW S V M n m (fun a x=>if (a=k-1∨a=k)/\x<c then te k p f.a f.b m L a x else L a x) (im T k p.f0 p.f1 p.s0 p.s1) G A B p f.a f.b) ⟨by simp only[go_sem,q],by simp only[go_sem,l],by simp only[go_sem,s],by simp only[go_sem,y],by simp only[go_sem,t],by simp only[go_sem],by simp only[go_sem],by simp only[go_sem],by simp only[go_sem,en],by simp only[go_sem,ec],cT.set.upd (ai n13_12) _,cT.set,i.ext hE⟩ ?_
  clear q l s y t en ec i u U F H y3 ub vb up vp uk vk Z I xp xk hE f12 f13 C p1 p2 p3 p4 p5 p6 q1 q2 q3 q4 q5 q6 r1 r2 r3 r4 j1 j2;clear O V g gb gp gk;rintro O V ⟨q,l,s,y,t,ev,e9,e10,en,ec,h9,h10,i⟩;obtain⟨g,u,U,F,H,y3⟩:=i.st.c0;obtain⟨gb,ub,vb⟩:=i.st.l0;obtain⟨gp,up,vp⟩:=i.st.l1 (om:k-1<n)
  obtain⟨gk,uk,vk⟩:=i.st.l1 w;have Z:gb (k-1)=.sl 2 (M.gl (k-1)) 0 (k-1):=vb (k-1) om;have I:gb k=.sl 2 (M.gl k) 0 k:=vb k w;obtain⟨g5,u5,x0,x1,x2,x3,x4,x5,x6⟩:=i.pl.get;obtain⟨g9,u9,y9⟩:=id h9;obtain⟨g10,u10,y10⟩:=id h10;have hne:M.gl (k-1)≠M.gl k:=fun e=>by have:=i.st.n4 (k-1) k om w e;omega
  refine fm 28 kr ?_
  simp only[go_sem,aa,q,l,s,y,t,ev,e9,e10,en,ec,r,u,F,ub,Z,I,up,uk,u5,x3,x4,x5,x6,u9,y9,u10,y10,ai hne,w1,w,(om:k-1<n),(om:c<k),dZ]
  refine⟨_,(lX p.f0 p.f1 (L (k-1) c) (L k c) K Y.f0 Y.f1 (hL (k-1) c om om) (hL k c om om) om).pure',_,(lX p.s0 p.s1 (L (k-1) c) (L k c) K Y.s0 Y.s1 (hL (k-1) c om om) (hL k c om om) om).pure',?_⟩;simp only[go_sem,aI (om:c<1000000),bS]
  have s1:=i.st.setL (c:=c) (z:=p.f0*L (k-1) c+p.f1*L k c) (om:k-1<n) up
  have s2:=s1.setL (c:=c) (z:=p.s0*L (k-1) c+p.s1*L k c) w ((aG (ai hne)).trans uk);refine⟨⟨c+1,om,rfl,i.mod (s2.congr (fun _ _=>rfl) ?_ ?_) (((nH.refl _ _ _).upd (nG.gl om) _).upd (nG.gl w) _)⟩,om⟩
  .intro a x _ _;simp only[dS,te];grind
  .exact fun _ _ _ _=>rfl
 have hcc:k-1=c:=om
 rw[<-hcc]at i ec;simp only[go_sem,en,ec,cB];rw[hQ'];clear hQ' Q' hcb r en ec hcc;clear c;obtain⟨g,u,U,F,H,y3⟩:=i.st.c0;obtain⟨gm,um,vm⟩:=i.st.m0;obtain⟨gl,ul,vl⟩:=i.st.l0;obtain⟨gk,uk,vk⟩:=i.st.l1 w;obtain⟨g5,u5,x0,x1,x2,x3,x4,x5,x6⟩:=i.pl.get;have xl:gl k=.sl 2 (M.gl k) 0 k:=vl k w;have hnm:M.gl k≠M.bm:=i.st.n1 k w;simp -dsimp only[go_sem];refine eL 19 [[12,13],[]] kr ?_
 simp only[go_sem,aa,q,l,s,u,U,F,um,ul,xl,uk,u5,x0,x1,hnm,w1,w,(om:k<n+1)]
 repeat refine an ?_
 have s1:=i.st.setM (k:=k) (z:=p.a) um;have s2:=s1.setL (c:=k-1) (z:=p.b) w ((aG hnm).trans uk);have hI2:AW S ((V.upd M.bm ⟨50,2,n+1,aQ gm k (.big p.a)⟩).upd (M.gl k) ⟨50,2,k,aQ gk (k-1) (.big p.b)⟩) M n (fun j=>if j=k then p.a else m j) (fun a x=>if a<k+1 then te k p f.a f.b m L a x else L a x) (im T k p.f0 p.f1 p.s0 p.s1) G A B p f.a f.b :=
  i.mod (s2.congr (fun _ _=>rfl) (fun a x _ hx=>by simp only[dS,te];grind) (fun _ _ _ _=>rfl)) (((nH.refl _ _ _).upd nG.bm _).upd (nG.gl w) _)
 clear i s1 s2;clear u U F H y3 um vm ul vl uk vk u5 x0 x1 x2 x3 x4 x5 x6 xl hnm;refine cA (fun O V=>∃c:Nat,k+1<=c/\c<=n/\O 0=.ptr 1 M.bs 0/\O 1=ι k/\O 5=.ptr 2 G 0/\O 6=.ptr 2 A 0/\O 7=.ptr 2 B 0/\O 14=ι c/\AW S V M n (fun j=>if j=k then p.a else m j) (fun a x=>if a<c then te k p f.a f.b m L a x else L a x) (im T k p.f0 p.f1 p.s0 p.s1) G A B p f.a f.b) (fun O V=>n-bS (O 14)) ?_ ?_
 .simp only[go_sem,q,l,s,y,t,w2];exact⟨k+1,om,om,rfl,hI2⟩
 clear q l s y t hI2;clear O V g gm gl gk g5;rintro Q' hQ' O V ⟨c,hkc,hcb,q,l,s,y,t,o,i⟩;obtain⟨g,u,U,F,H,y3⟩:=i.st.c0;by_cases r:c<n
 .obtain⟨gl,ul,vl⟩:=i.st.l0;obtain⟨gc,uc,vc⟩:=i.st.l1 r;have xl:gl c=.sl 2 (M.gl c) 0 c:=vl c r;have xc:gc (k-1)=.big (L c (k-1)):=by have:=vc (k-1) om;rw[ah om]at this;exact this
  have wc:=aI (om:c<1000000)
  simp -dsimp only[go_sem,aa,q,l,o,r,u,F,H,ul,xl,uc,w1,(om:k-1<c)]
  refine ax.intro fun J f15=>?_;have j15:=i.st.inn f15;have n515:=i.pl.fresh f15;have n615:=i.v6.fresh f15;have n715:=i.v7.fresh f15;have s15:=i.none f15;have hE:dy V ((V.upd J ⟨50,2,1,fun _=>.big 0⟩).upd J ⟨50,2,1,aQ (fun _=>.big 0) 0 (.big (L c (k-1)))⟩):=((dy.refl V).upd f15 _).upd f15 _;simp -dsimp only[go_sem,aa,q,l,o,F,xl,xc,w1];refine iW (fun O V=>O 0=.ptr 1 M.bs 0/\O 1=ι k/\O 5=.ptr 2 G 0/\O 6=.ptr 2 A 0/\O 7=.ptr 2 B 0/\O 14=ι c/\O 15=.ptr 2 J 0/\cT V J 50 2 (.big (L c (k-1)))/\AW S V M n (fun j=>if j=k then p.a else m j) (fun a x=>if a<c then te k p f.a f.b m L a x else L a x) (im T k p.f0 p.f1 p.s0 p.s1) G A B p f.a f.b) ⟨by simp only[go_sem,q],by simp only[go_sem,l],by simp only[go_sem,s],by simp only[go_sem,y],by simp only[go_sem,t],by simp only[go_sem,o],by simp only[go_sem],cT.set,i.ext hE⟩ ?_
  clear q l s y t o i u U F H y3 ul vl uc vc xl xc hE f15;clear O V g gl gc;rintro O V ⟨q,l,s,y,t,o,D,E,i⟩;obtain⟨g,u,U,F,H,y3⟩:=i.st.c0;obtain⟨gm,um,vm⟩:=i.st.m0;obtain⟨gl,ul,vl⟩:=i.st.l0;obtain⟨gc,uc,vc⟩:=i.st.l1 r;obtain⟨g15,P,Q⟩:=id E;obtain⟨g7,u7,z7⟩:=id i.v7;obtain⟨g6,u6,z6⟩:=id i.v6;have xl:gl c=.sl 2 (M.gl c) 0 c:=vl c r;have xck:gc k=.big (L c k):=by have:=vc k om;rw[ah om]at this;exact this
  have xm:gm (k-1)=.big (m (k-1)):=by have:=vm (k-1) om;rw[ah om]at this;exact this
  refine aN 24 kr ?_
  simp -dsimp only[go_sem,aa,q,l,t,o,D,r,u,U,F,um,xm,ul,xl,uc,xck,P,Q,u7,z7,w1,(om:k-1<n+1),(om:k<c)]
  have k1:=(hm (k-1) om).mul (hL c k r om);have k2:=(hL c (k-1) r om).mul hb0;refine⟨_,(gW (hm (k-1) om) (hL c k r om) om).pure',_,(gW (hL c (k-1) r om) hb0 om).pure',_,(lZ k1 k2 om).pure',?_⟩;refine ax.intro fun v W=>?_;have j16:=i.st.inn W;have n1516:=E.fresh W;have n616:=i.v6.fresh W;have n716:=i.v7.fresh W;simp -dsimp only[*,go_sem,aQ];have kN:=k1.add k2;have hyy:(m (k-1)*L c k+L c (k-1)*f.b)/f.a=yh k f.a f.b m L c:=rfl;generalize m (k-1)*L c k+L c (k-1)*f.b=N at *;refine(fM (k:=K+K+1) kN (ha0.mono om) om om).call ?_;rw[hyy];have kY:nb (yh k f.a f.b m L c) (K+K+1):=by
   rw[<-hyy];exact nb.of_le (DG h0) kN
  have hE:dy V ((V.upd v ⟨50,2,1,fun _=>.big 0⟩).upd v ⟨50,2,1,aQ (fun _=>.big 0) 0 (.big N)⟩):=((dy.refl V).upd W _).upd W _;have R:cT ((V.upd v ⟨50,2,1,fun _=>.big 0⟩).upd v ⟨50,2,1,aQ (fun _=>.big 0) 0 (.big N)⟩) v 50 2 (.big N):=cT.set;have hI':=i.ext hE;have h15':=E.ext hE;generalize (V.upd v ⟨50,2,1,fun _=>.big 0⟩).upd v ⟨50,2,1,aQ (fun _=>.big 0) 0 (.big N)⟩=V2 at *;obtain⟨g16,u16,z16⟩:=id R;simp -dsimp only[go_sem,aa,u16,aQ];have n516:=i.pl.fresh W;have s16:=i.none W;have hI3:=hI'.var (c:=v) j16 (i.pl.fresh W) n616 n716 s16 ⟨50,2,1,aQ g16 0 (.big (yh k f.a f.b m L c))⟩;refine iW (fun O V=>O 0=.ptr 1 M.bs 0/\O 1=ι k/\O 5=.ptr 2 G 0/\O 6=.ptr 2 A 0/\O 7=.ptr 2 B 0/\O 14=ι c/\O 15=.ptr 2 J 0/\O 16=.ptr 2 v 0/\cT V J 50 2 (.big (L c (k-1)))/\cT V v 50 2 (.big (yh k f.a f.b m L c))/\AW S V M n (fun j=>if j=k then p.a else m j) (fun a x=>if a<c then te k p f.a f.b m L a x else L a x) (im T k p.f0 p.f1 p.s0 p.s1) G A B p f.a f.b) ⟨by simp only[go_sem,q],by simp only[go_sem,l],by simp only[go_sem,s],by simp only[go_sem,y],by simp only[go_sem,t],by simp only[go_sem,o],by simp only[go_sem,D],by simp only[go_sem],h15'.upd n1516 _,cT.set,hI3⟩ ?_
  clear q l s y t o D i hI' hI3 E h15' R u U F H y3 um vm ul vl uc vc xl xck xm P Q u7 z7 u6 z6 u16 z16 hE W;clear O V V2 g gm gl gc g15 g7 g6 g16;rintro O V ⟨q,l,s,y,t,o,D,e16,E,R,i⟩;obtain⟨g5,u5,x0,x1,x2,x3,x4,x5,x6⟩:=i.pl.get;obtain⟨g15,P,Q⟩:=id E;obtain⟨g16,u16,z16⟩:=id R;refine aN 10 kr ?_
  simp -dsimp only[go_sem,aa,s,D,e16,u5,x3,x4,x5,x6,P,Q,u16,z16,ai n1516,dZ];have hx:nb (L c (k-1)) (K+K+1):=(hL c (k-1) r om).mono om;refine⟨_,(lX p.f0 p.f1 (L c (k-1)) (yh k f.a f.b m L c) (K+K+1) (Y.f0.mono om) (Y.f1.mono om) hx kY om).pure',_,(lX p.s0 p.s1 (L c (k-1)) (yh k f.a f.b m L c) (K+K+1) (Y.s0.mono om) (Y.s1.mono om) hx kY om).pure',?_⟩;rw[show p.f0*L c (k-1)+p.f1*yh k f.a f.b m L c=td k p f.a f.b m L c from rfl,show p.s0*L c (k-1)+p.s1*yh k f.a f.b m L c=z8 k p f.a f.b m L c from rfl];have kX:nb (td k p f.a f.b m L c) (4*K+3):=(((Y.f0.mono (om:K<=K+K+1)).mul hx).add ((Y.f1.mono (om:K<=K+K+1)).mul kY)).mono om
  have kZ:nb (z8 k p f.a f.b m L c) (4*K+3):=(((Y.s0.mono (om:K<=K+K+1)).mul hx).add ((Y.s1.mono (om:K<=K+K+1)).mul kY)).mono om
  simp -dsimp only[go_sem];have hI2:=(i.var (c:=J) j15 n515 n615 n715 s15 ⟨50,2,1,aQ g15 0 (.big (td k p f.a f.b m L c))⟩).var (c:=v) j16 n516 n616 n716 s16 ⟨50,2,1,aQ g16 0 (.big (z8 k p f.a f.b m L c))⟩;refine iW (fun O V=>O 0=.ptr 1 M.bs 0/\O 1=ι k/\O 5=.ptr 2 G 0/\O 6=.ptr 2 A 0/\O 7=.ptr 2 B 0/\O 14=ι c/\O 15=.ptr 2 J 0/\O 16=.ptr 2 v 0/\cT V J 50 2 (.big (td k p f.a f.b m L c))/\cT V v 50 2 (.big (z8 k p f.a f.b m L c))/\AW S V M n (fun j=>if j=k then p.a else m j) (fun a x=>if a<c then te k p f.a f.b m L a x else L a x) (im T k p.f0 p.f1 p.s0 p.s1) G A B p f.a f.b) ⟨by simp only[go_sem,q],by simp only[go_sem,l],by simp only[go_sem,s],by simp only[go_sem,y],by simp only[go_sem,t],by simp only[go_sem,o],by simp only[go_sem,D],by simp only[go_sem,e16],cT.set.upd n1516 _,cT.set,hI2⟩ ?_
  clear q l s y t o D e16 i hI2 E R u5 x0 x1 x2 x3 x4 x5 x6 P Q u16 z16;clear O V g5 g15 g16;rintro O V ⟨q,l,s,y,t,o,D,e16,E,R,i⟩;obtain⟨g,u,U,F,H,y3⟩:=i.st.c0;obtain⟨gl,ul,vl⟩:=i.st.l0;obtain⟨gc,uc,vc⟩:=i.st.l1 r;obtain⟨g15,P,Q⟩:=id E;have xl:gl c=.sl 2 (M.gl c) 0 c:=vl c r;have r15:=(nG.ne j15).2.2.2.2.1 c r;have r16:=(nG.ne j16).2.2.2.2.1 c r;refine aN 11 kr ?_
  simp -dsimp only[go_sem,aa,q,l,o,D,r,u,F,ul,xl,uc,P,Q,w1,(om:k-1<c)]
  have s1:=i.st.setL (c:=k-1) (z:=td k p f.a f.b m L c) r uc;have hI2:=i.mod s1 ((nH.refl _ _ _).upd (nG.gl r) _);refine iW (fun O V=>O 0=.ptr 1 M.bs 0/\O 1=ι k/\O 5=.ptr 2 G 0/\O 6=.ptr 2 A 0/\O 7=.ptr 2 B 0/\O 14=ι c/\O 15=.ptr 2 J 0/\O 16=.ptr 2 v 0/\cT V J 50 2 (.big (td k p f.a f.b m L c))/\cT V v 50 2 (.big (z8 k p f.a f.b m L c))/\AW S V M n (fun j=>if j=k then p.a else m j) (dS (fun a x=>if a<c then te k p f.a f.b m L a x else L a x) c (k-1) (td k p f.a f.b m L c)) (im T k p.f0 p.f1 p.s0 p.s1) G A B p f.a f.b) ⟨by simp only[go_sem,q],by simp only[go_sem,l],by simp only[go_sem,s],by simp only[go_sem,y],by simp only[go_sem,t],by simp only[go_sem,o],by simp only[go_sem,D],by simp only[go_sem,e16],E.upd (ai r15) _,R.upd (ai r16) _,hI2⟩ ?_
  clear q l s y t o D e16 i hI2 E R u U F H y3 ul vl uc vc xl P Q s1;clear O V g gl gc g15;rintro O V ⟨q,l,s,y,t,o,D,e16,E,R,i⟩;obtain⟨g5,u5,x0,x1,x2,x3,x4,x5,x6⟩:=i.pl.get;obtain⟨g15,P,Q⟩:=id E;obtain⟨g16,u16,z16⟩:=id R;refine aN 10 kr ?_
  simp -dsimp only[go_sem,aa,s,D,e16,u5,x0,x1,P,Q,u16,z16];have k3:=(Y.a.mono (om:K<=4*K+3)).mul kZ
  have k4:=(Y.b.mono (om:K<=4*K+3)).mul kX
  refine⟨_,(gW (Y.a.mono (om:K<=4*K+3)) kZ om).pure',_,(gW (Y.b.mono (om:K<=4*K+3)) kX om).pure',_,(mD k3 k4 om).pure',?_⟩
  refine ax.intro fun b17 f17=>?_;have j17:=i.st.inn f17;simp -dsimp only[go_sem];have hE:dy V ((V.upd b17 ⟨50,2,1,fun _=>.big 0⟩).upd b17 ⟨50,2,1,aQ (fun _=>.big 0) 0 (.big (p.a*z8 k p f.a f.b m L c-p.b*td k p f.a f.b m L c))⟩):=((dy.refl V).upd f17 _).upd f17 _;refine iW (fun O V=>O 0=.ptr 1 M.bs 0/\O 1=ι k/\O 5=.ptr 2 G 0/\O 6=.ptr 2 A 0/\O 7=.ptr 2 B 0/\O 14=ι c/\O 17=.ptr 2 b17 0/\cT V b17 50 2 (.big (p.a*z8 k p f.a f.b m L c-p.b*td k p f.a f.b m L c))/\AW S V M n (fun j=>if j=k then p.a else m j) (dS (fun a x=>if a<c then te k p f.a f.b m L a x else L a x) c (k-1) (td k p f.a f.b m L c)) (im T k p.f0 p.f1 p.s0 p.s1) G A B p f.a f.b) ⟨by simp only[go_sem,q],by simp only[go_sem,l],by simp only[go_sem,s],by simp only[go_sem,y],by simp only[go_sem,t],by simp only[go_sem,o],by simp only[go_sem],cT.set,i.ext hE⟩ ?_
  clear q l s y t o D e16 i E R u5 x0 x1 x2 x3 x4 x5 x6 P Q u16 z16 hE f17;clear O V g5 g15 g16;rintro O V ⟨q,l,s,y,t,o,e17,h17,i⟩;obtain⟨g,u,U,F,H,y3⟩:=i.st.c0;obtain⟨gm,um,vm⟩:=i.st.m0;obtain⟨gl,ul,vl⟩:=i.st.l0;obtain⟨gc,uc,vc⟩:=i.st.l1 r;obtain⟨g17,u17,z17⟩:=id h17;have xl:gl c=.sl 2 (M.gl c) 0 c:=vl c r;have xm:gm (k-1)=.big (m (k-1)):=by have:=vm (k-1) om;rw[ah om]at this;exact this
  refine eL 23 [[20,21]] kr ?_
  simp only[go_sem,aa,q,l,s,y,t,o,e17,r,u,U,F,um,xm,ul,xl,uc,u17,z17,w1,(om:k-1<n+1),(om:k<c)]
  refine⟨_,(fM (k:=8*K+7) ((k3.sub k4).mono om) ((hm (k-1) om).mono om) om om).pure',?_⟩;rw[show(p.a*z8 k p f.a f.b m L c-p.b*td k p f.a f.b m L c)/m (k-1)=OH k p f.a f.b m L c from rfl];simp only[go_sem,wc,bS];refine⟨⟨c+1,om,om,rfl,i.mod ((i.st.setL (c:=k) (z:=OH k p f.a f.b m L c) r uc).congr (fun _ _=>rfl) ?_ (fun _ _ _ _=>rfl)) ((nH.refl _ _ _).upd (nG.gl r) _)⟩,om⟩
  intro a x _ hx;simp only[dS,te];grind
 have hcn:c=n:=om
 simp only[go_sem,aa,q,l,o,r,u,H];rw[hQ'];simp only[go_sem];exact⟨i.st.congr (fun _ _=>rfl) (fun a x ha _=>by rw[aj om]) (fun _ _ _ _=>rfl),i.fr⟩

def QO(l:∀a b,a<n->b<n->Q a b=Q b a)(f:j<i){a c:Nat}(g:c<a):Sp (fun k=>det k (gT Q n T)) (eZ (gT Q n T)) i j a c=eZ (gT Q n (N3 Q n i j T)) a c:=by
 unfold Sp N3;by_cases h:2*((eZ (gT Q n T) i j).natAbs:Int)<=det (j+1) (gT Q n T)
 .rw[aj h,aj h]
 .rw[ah h,ah h,wy l];dsimp only;generalize fY (eZ (gT Q n T) i j) (det (j+1) (gT Q n T))=q;by_cases e:a=i
  .subst e;by_cases d:c<j
   .rw[aj ⟨rfl,d⟩,DZ f d];grind
   .rw[ah om];by_cases m:c=j
    .subst m;rw[aj ⟨rfl,rfl⟩,mz f];grind
    .rw[ah om,rF om g]
  .rw[ah om,ah om];rcases aB a i with d|d
   .rw[my d om]
   .rw[xO f om g]
def Ow(c:i<n)(d:j<i):eZ (gT Q n jS) i j=eZ Q i j:=by
 unfold eZ ci;refine aZ fun a b e f=>tg ?_ ?_
 .rw[kf];split<;>omega
 .rw[kf];split<;>omega
def Nc(S:St)(M:pF)(n:Nat)(Q T:az):Prop:=lH S M n (fun k=>det k (gT Q n T)) (eZ (gT Q n T)) T
def Nc.short(d:∀a b,a<n->b<n->Q a b=Q b a)(e:j<k)(h:lH S M n (fun c=>det c (gT Q n T)) (Sp (fun c=>det c (gT Q n T)) (eZ (gT Q n T)) k j) (shV (fun c=>det c (gT Q n T)) (eZ (gT Q n T)) T k j)):Nc S M n Q (N3 Q n k j T) :=
 h.congr (fun c _=>(ES d e c).symm) (fun a c _ f=>QO d e f) (fun _ _ _ _=>rfl)
def cntP:AV->Nat
 | .int _ z=>(z+1).toNat
 | _=>0
def QU(h:Pd A n)(a:0<k)(b:k<n):(det (k-1) A*det (k+1) A+eZ A k (k-1)*eZ A k (k-1))/det k A=ci A (k-1) 1 1:=by
 have e:=(pI.init h a b).ac;rw[(om:det (k-1) A*det (k+1) A+eZ A k (k-1)*eZ A k (k-1)=det k A*ci A (k-1) 1 1),cj _ (h.ne (k:=k) om k (ag _))]
def LM(Q:az)(n d e:Nat)(y:Pd Q n)(A:1<=n)(Z:n<=8)(hE:∀i,i<n->Q i i<=2^e)(he:e*n<=d)(hd:d<=1000)(S:St)(M:pF)(h:Nc S M n Q jS) :
  cJ 161 [.ptr 1 M.bs 0] S (fun _ S'=>Nc S' M n Q (mr Q n)/\nH M n S S'):=by
 refine fy func161 rfl 39 ntmps161 kr sm ?_
 rw[jZ,results161];obtain⟨K,hKl,hKu⟩:∃K:Nat,35000<=K/\K<=40000:=⟨40000,om,om⟩
 simp only[go_sem];refine FO (G:=Nat×Nat×az) (fun x O V=>O 0=.ptr 1 M.bs 0/\O 2=ι x.2.1/\wJ Q n d x.2.1 x.2.2/\Nz Q n x.2.1 x.2.2<=x.1/\Fb Q n x.1 x.2.1 x.2.2=mr Q n/\Nc V M n Q x.2.2/\nH M n S V) (fun x=>x.1) ?_ ?_
 .exact⟨(Nz Q n 1 jS,1,jS),by simp only[go_sem],by simp only[go_sem];rfl,wJ.init y A hE he,ag _,rfl,h,nH.refl _ _ _⟩
 clear h;rintro Q' hQ' ⟨mm,k,T⟩ O V ⟨o,p,F,hm,hl,h,q⟩ R J;dsimp only at p F hm hl h;have b:=F.k1;have hkn:=F.kn;obtain⟨g,u,y0,y1,L,y3⟩:=lH.c0 h;by_cases f:k<n
 .have w1:ω ((k:Int)-1)=(k:Int)-1:=i64_in om om;simp only[go_sem,aa,o,p,u,L,f,w1];refine cA (fun O V=>∃(j:Nat) (T':az),j<=k/\O 0=.ptr 1 M.bs 0/\O 2=ι k/\O 3=ι ((j:Int)-1)/\Ea Q n d k j T'/\nK Q n k j T'=nK Q n k k T/\Nc V M n Q T'/\nH M n S V) (fun O V=>cntP (O 3)) ?_ ?_
  .refine⟨k,T,ag _,by simp only[go_sem,o],by simp only[go_sem,p],by simp only[go_sem],F.ls.rowI Z f F.ok,rfl,h,q⟩
  clear h q u y0 y1 L y3 o p;clear O V g;rintro Q2 hQ2 O V ⟨j,T',hj,o,p,e3,N,z,h,q⟩;obtain⟨g,u,y0,y1,L,y3⟩:=lH.c0 h;by_cases hj0:0<j
  .obtain⟨j',rfl⟩:∃j',j=j'+1:=⟨j-1,om⟩
   rw[show((j'+1:Nat):Int)-1=(j':Int) by omega]at e3
   have r:=N.ls.bits (W:=5*d+13+n*(3*d+8)) (K:=K) y A hE he (fun i _=>wR_le om) (by
    have:=aq (3*d+8) Z;omega)
   have wj:ω ((j':Int)-1)=(j':Int)-1:=i64_in om om;simp -dsimp only[go_sem,aa,o,p,e3,u,y3,show(0:Int)<=(j':Int) by omega]
   refine(GB V M n k j' K _ _ _ h om f om om om (r.dt (j'+1) om) (N.ls.pd.pos (j'+1) om) r.lm r.tt).mono ?_;rintro _ V1 ⟨h1,hF1⟩;simp only[*,go_sem,cntP];refine⟨⟨j',om,rfl,N3 Q n k j' T',N.step y.sym om f,?_,Nc.short y.sym om h1,q.trans hF1⟩,om⟩
   rw[<-z];rfl
  .obtain rfl:j=0:=om
   rw[show((0:Nat):Int)-1=-1 by omega]at e3
   simp only[go_sem,aa,o,p,e3,(om:¬((0:Int)<=-1))]
   rw[hQ2];simp -dsimp only[go_sem,aa,o,p];have hT:T'=nK Q n k k T:=z;have B:=N.fin Z f;have l:=N.ls.pd;have r:=B.bits (W:=5*d+13) (K:=K) y A hE he (fun i _=>by split<;>omega) om
   have hc:=QU l b f;obtain⟨q1,q2,q3⟩:=B.plane b f (by rw[aj (ag _)];exact ag _)
   have P:=AR.init l b f q1 q2;obtain⟨z1,z2,z3,z4,z5,z6,z7⟩:=P.bits l b f q1 q2 (om:2*d+4<K)
   have U:(mE (gT Q n T') k).a<=((mE (gT Q n T') k).a.toNat:Int):=Int.self_le_toNat _;have hstep:=F.step y.sym Z f;rw[<-hT]at hstep;obtain⟨m',rfl⟩:∃m',mm=m'+1:=⟨mm-1,by have:=I8 (Q:=Q) (T:=T) f;omega⟩
   have s:Fb Q n m' (Q0 Q n k T') (QZ Q n k T')=mr Q n:=by
    rw[<-hl,Fb,aj f,<-hT]
   refine(Dd V M n k K _ _ _ h b f om om r.dt (r.lm k (k-1) f om) (by have:=l.pos k om;omega)).mono ?_
   rintro _ V1 ⟨rfl,C⟩;rw[hc]
   replace h:Nc V1 M n Q T':=lH.ext h C
   replace q:=q.ext C
   clear C u y0 y1 L y3;clear g;simp -dsimp only[go_sem,aa,o,p,aS,bF,bZ,ct];refine ax.intro fun t Y=>?_;have i4:=lH.inn h Y;have s4:S t=ae:=by
    cases e:S t with
    | none=>rfl
    | some X=>have:=q t X i4 e;rw[Y]at this;cases this
   simp -dsimp only[go_sem];have H:so ((V1.upd t ⟨197,2,7,fun _=>.big 0⟩).upd t ⟨197,2,7,ft (fun _=>.big 0) 0 [.big (det k (gT Q n T')),.big (eZ (gT Q n T') k (k-1)),.big (ci (gT Q n T') (k-1) 1 1),.big 1,.big 0,.big 0,.big 1]⟩) t (mE (gT Q n T') k):=so.here (by simp[ft,mE]) (by simp[ft,mE]) (by simp[ft,mE]) (by simp[ft,mE]) (by simp[ft,mE]) (by simp[ft,mE]) (by simp[ft,mE])
   have D:dy V1 ((V1.upd t ⟨197,2,7,fun _=>.big 0⟩).upd t ⟨197,2,7,ft (fun _=>.big 0) 0 [.big (det k (gT Q n T')),.big (eZ (gT Q n T') k (k-1)),.big (ci (gT Q n T') (k-1) 1 1),.big 1,.big 0,.big 0,.big 1]⟩):=((dy.refl V1).upd Y _).upd Y _;refine(zf _ t (mE (gT Q n T') k) K H z1 z3 om om).mono ?_;rintro _ V2 ⟨rfl,v⟩
   replace h:Nc V2 M n Q T':=lH.ext (lH.ext h D) v
   replace q:=(q.ext D).ext v
   replace H:=H.ext v
   clear D v;clear Y V1 V;by_cases I:4*(mE (gT Q n T') k).c<3*(mE (gT Q n T') k).a
   .obtain⟨g,u,x0,x1,x2,x3,x4,x5,x6⟩:=H.get;simp -dsimp only[go_sem,aa,o,p,I,u,x0,x1,x2,x3,x4,x5,x6,dZ];obtain⟨w,_,_⟩:=LX B b f (by rw[aj (ag _)];exact ag _)
    obtain⟨v1,v2,v3,v4,v5,v6,v7⟩:=w.bits l b f q1 q2 (om:2*d+4<K)
    refine(Dw V2 M n k K _ _ _ (mE (gT Q n T') k) (Df (gT Q n T') k) h b f om om r.dt r.lm r.tt ⟨v1,v2,v4,v5,v6,v7⟩ z1 z2 (l.pos k om) (l.pos (k-1) om) (fun S bp H=>GL l b f q1 q2 q3 om S bp (mE (gT Q n T') k).a.toNat (mE (gT Q n T') k) P H U)).mono ?_;rintro _ V3 ⟨h3,hF3⟩;have eK:Q0 Q n k T'=max 1 (k-1):=aj I;have eT:QZ Q n k T'=im T' k (Df (gT Q n T') k).f0 (Df (gT Q n T') k).f1 (Df (gT Q n T') k).s0 (Df (gT Q n T') k).s1:=aj I;rw[eK,eT]at hstep;rw[eK,eT]at s;have hB:Nc V3 M n Q (im T' k (Df (gT Q n T') k).f0 (Df (gT Q n T') k).f1 (Df (gT Q n T') k).s0 (Df (gT Q n T') k).s1):=by
     refine h3.congr (fun j _=>?_) (fun i j hi hj=>?_) (fun _ _ _ _=>rfl)
     .rw[DB y.sym b];by_cases e:j=k
      .rw[aj e,e];exact w.pl.pa.symm
      .rw[ah e];exact(w.pl.lead j e).symm
     .rw[DB y.sym b];exact OI l w b f hj hi
    have hmx:(if (k:Int)-1 > 1 then(k:Int)-1 else 1)=((max 1 (k-1):Nat):Int):=by split<;>omega
    simp only[go_sem,o,p,w1];refine⟨rfl,?_⟩;rw[hmx];have E:=Nat.le_of_lt_succ (cZ hstep.2 hm);exact J (m',max 1 (k-1),_) _ _ ⟨by simp only[go_sem,o],by simp only[go_sem],hstep.1,E,s,hB,q.trans hF3⟩ (by show m'<m'+1;omega)
   .have eK:Q0 Q n k T'=k+1:=ah I;have eT:QZ Q n k T'=T':=ah I;rw[eK,eT]at hstep;rw[eK,eT]at s;simp only[go_sem,aa,o,p,I,aI (om:k<1000000)]
    have E:=Nat.le_of_lt_succ (cZ hstep.2 hm);exact J (m',k+1,T') _ _ ⟨by simp only[go_sem,o],by simp only[go_sem],hstep.1,E,s,h,q⟩ (by show m'<m'+1;omega)
 .simp only[go_sem,aa,o,p,u,L,f];rw[hQ'];simp only[go_sem];have hkn':k=n:=om
  have hTl:T=mr Q n:=by
   rw[<-hl]
   cases mm with
   | zero=>rfl
   | succ m=>unfold Fb;rw[ah f]
  rw[<-hTl];exact⟨h,q⟩

structure pJ(S:St)(b e n:Nat)(ρ:Nat->Nat)(B:az):Prop where
 outer:a6 S b 59 1 n (fun a=>.sl 2 e (ρ a*n) n)
 inner:∃g,S e=some ⟨50,2,n*n,g⟩/\∀a c,a<n->c<n->g (ρ a*n+c)=.big (B a c)
 rg:∀a,a<n->ρ a<n
 inj:∀a c,a<n->c<n->ρ a=ρ c->a=c
def kV.perm{e:Nat}(h:kV S b e n n A):pJ S b e n id A:=⟨h.outer,h.inner,fun _ h=>h,fun _ _ _ _ h=>h⟩
def pJ.set{e:Nat}(h:pJ S b e n ρ B){i c:Nat}{z:Int}{g:Nat->AV}(l:i<n)(m:c<n)(u:S e=some ⟨50,2,n*n,g⟩):pJ (S.upd e ⟨50,2,n*n,aQ g (ρ i*n+c) (.big z)⟩) b e n ρ (dS B i c z):=by
 refine⟨h.outer.upd (a6.ne h.outer (a6.of u) dc) _,⟨_,ca,fun a x f j=>?_⟩,h.rg,h.inj⟩
 obtain⟨r,k,o⟩:=h.inner;rw[u]at k;cases k;simp only[aQ,dS];by_cases d:a=i/\x=c
 .obtain⟨rfl,rfl⟩:=d;rw[aj rfl,aj ⟨rfl,rfl⟩]
 .rw[ah d,ah ?_]
  .exact o a x f j
  .intro p;have q:=uB (i:=ρ a) j;have s:=uB (i:=ρ i) m;rw[p]at q;exact d ⟨h.inj a i f l om,om⟩
def pJ.swap{e:Nat}(h:pJ S b e n ρ B){k p:Nat}{o:Nat->AV}(v:k<n)(w:p<n)(u:S b=some ⟨59,1,n,o⟩):pJ (S.upd b ⟨59,1,n,aQ (aQ o k (.sl 2 e (ρ p*n) n)) p (.sl 2 e (ρ k*n) n)⟩) b e n (fun a=>ρ (c8 k p a)) (fun a c=>B (c8 k p a) c):=by
 have j:∀a,a<n->c8 k p a<n:=fun a d=>by unfold c8;split<;>(try split)<;>omega
 obtain⟨g,q,s⟩:=h.inner;have l:e≠b:=ai (a6.ne h.outer (a6.of q) dc)
 refine⟨a6.here fun a d=>?_,⟨g,by rw[aG l];exact q,fun a c d m=>s _ c (j a d) m⟩,fun a d=>h.rg _ (j a d),fun a c d m e=>?_⟩
 .obtain⟨x,r,t⟩:=h.outer;rw[u]at r;cases r;simp only[aQ,c8];by_cases i:a=p
  .rw[aj i];by_cases f:a=k
   .rw[aj f];congr 2;rw[<-i,<-f]
   .rw[ah f,aj i]
  .rw[ah i];by_cases f:a=k
   .rw[aj f,aj f]
   .rw[ah f,ah f,ah i];exact t a d
 .have:=h.inj _ _ (j a d) (j c m) e;unfold c8 at this
  grind
def pJ.upd{e:Nat}(h:pJ S b e n ρ B){c:Nat}(a:b≠c)(d:e≠c)(X:eo):pJ (S.upd c X) b e n ρ B:=by
 obtain⟨g,f,i⟩:=h.inner;exact⟨h.outer.upd a _,⟨g,by rw[aG d];exact f,i⟩,h.rg,h.inj⟩
def RkP(S:St)(n k p:Nat)(A:az)(b e b8:Nat):Prop:=∃(σ ρ:Nat->Nat) (neg:Bool) (B:az),l7 A n σ neg k/\pJ S b e n ρ B/\cT S b8 50 2 (.big (det k (fun a b=>A (σ a) b)))/\(∀i j,k<=i->i<n->k<=j->j<n->B i j=ci (fun a b=>A (σ a) b) k (i-k) (j-k))/\∀i,k<=i->i<p->B i k=0
def Nf(n:Nat)(A:az)(i j:Nat)(a:i<n)(b:j<n):PF 250 [ι i,ι j,.pat 1 (aL n n A)] (.big (A i j)):=by
 refine gN func250 ntmps250 results250 ?_;simp -dsimp only[go_sem];refine ax.intro fun bc fc=>?_
 try simp only[*,go_sem,aL,aY]
 exact VR.mf rfl
def EO(c:k<=n)(d:0<k)(h:∀x,(k=n->∃g,x=.lst 1 0 g)->(k<n->x=.sl 1 b k (n-k))->K x):li 52 (.sl 1 b 0 n) (some (ι (k:Int))) ae ae K:=by
 refine⟨rfl,k,n,rfl,rfl,trivial,c,ag _,?_⟩;show K (if k=0∨k<n then AV.sl 1 b (0+k) (n-k)else AV.lst 1 0 fun _=>AV.any)
 by_cases e:k<n
 .rw[aj (aR e),aJ];exact h _ (fun a=>om) (fun _=>rfl)
 .rw[ah om];exact h _ (fun _=>⟨_,rfl⟩) (fun a=>absurd a e)
def PJ(n K:Nat)(A:az)(h1:1<=n)(h2:n<=16)(hK1:1<=K)(hK:K<=1000000)(hd:det n A≠0)(hB:∀σ neg k,l7 A n σ neg k->∀k' i j,k'+i<n->k'+j<n->nb (ci (fun a b=>A (σ a) b) k' i j) K):PF 211 [aL n n A] (.tup [ι n,.bool true]):=by
 refine gN func211 ntmps211 results211 ?_;simp -dsimp only[go_sem,aa,aL,aY];refine ax.intro fun b1 f1=>?_;simp -dsimp only[go_sem];refine(lp n n A h1 h2 h1 h2).call ?_;simp -dsimp only[go_sem,aa];refine(zq n n 250 [.pat 1 (aL n n A)] A om h1 h2 h1 h2 (fun i j z I=>Nf n A i j z I) _ _ (eI.fn1 (eI.one (VA.ptr (cT.new rfl) (VA.refl _ _))))).mono ?_;rintro _ S1 ⟨b,e,rfl,hF0,hE0,hn0,hm0⟩;simp -dsimp only[go_sem,aa];refine(gR (a:=1) om om).call ?_;simp -dsimp only[go_sem];refine ax.intro fun L f8=>?_;have W:=hF0.perm;have X:b≠L:=a6.fresh W.outer f8;have Y:e≠L:=fun h=>by obtain⟨g,h1,_⟩:=W.inner;rw[h,f8]at h1;cases h1
 simp only[go_sem,aa];refine cA (fun O S=>∃k:Nat,k<=n/\O 4=ι n/\O 5=ι n/\O 7=.sl 1 b 0 n/\O 8=.ptr 2 L 0/\O 9=ι k/\O 29=ι n/\O 30=ι k/\RkP S n k k A b e L) (fun O S=>n-bS (O 30)) ?_ ?_
 .simp only[go_sem];exact⟨0,om,rfl,rfl,id,id,false,A,l7.init A n,(W.upd X Y _).upd X Y _,cT.set,fun i j _ _ _ _=>by rw[eQ];rfl,fun i z hi2=>om⟩
 clear hF0 hE0 hn0 hm0 W f8;rintro Q' hQ' O S ⟨k,hkn,G,E,F,H,y,d,f,hR⟩;by_cases m:k<n
 .simp only[go_sem,y,d,f,m];refine cA (fun O S=>∃p:Nat,k<=p/\p<=n/\O 4=ι n/\O 5=ι n/\O 7=.sl 1 b 0 n/\O 8=.ptr 2 L 0/\O 9=ι k/\O 10=ι k/\O 11=ι p/\O 29=ι n/\O 30=ι k/\RkP S n k p A b e L) (fun O S=>n-bS (O 11)) ?_ ?_
  .simp only[*,go_sem];exact⟨k,om,om,rfl,hR⟩
  clear G E F H y d f hR;clear O S;rintro Q2 hQ2 O S ⟨p,hkp,hpn,G,E,F,H,y,l,M,d,f,σ,ρ,neg,B,J,C,N,P,hZ⟩;have hp:p<n:=by
   refine SP hpn fun ep=>hd (J.zero m fun i z=>?_);have:=P (k+i) k om om (ag _) m;rw[bQ,(om:k+i-k=i)]at this
   rw[<-this];exact hZ _ om om
  obtain⟨g1,u1,v1⟩:=id C.outer;obtain⟨g2,u2,Z⟩:=id C.inner;have xp:g1 p=.sl 2 e (ρ p*n) n:=v1 p hp;have xk:g1 k=.sl 2 e (ρ k*n) n:=v1 k m;have xpk:g2 (ρ p*n+k)=.big (B p k):=Z p k hp m;have hfl:ρ p*n+n<=n*n:=by
   have:=aq n (show ρ p+1<=n from C.rg p hp)
   rwa [cg]at this
  have Q:=P p k hkp hp (ag _) m;rw[bQ]at Q;have hbp:=hB σ neg k J k (p-k) 0 om om;rw[<-Q]at hbp;simp -dsimp only[go_sem,aa,G,F,l,M,m,hp,u1,xp,u2,xpk,(om:ρ p*n+k<n*n)]
  refine(ka hbp om).call ?_;by_cases h0:B p k=0
  .simp -dsimp only[go_sem,G,E,F,H,y,l,M,d,f,h0,oX,aI (om:p<1000000),bS]
   refine⟨⟨p+1,om,om,rfl,σ,ρ,neg,B,J,C,N,P,fun i hi1 hi2=>?_⟩,om⟩
   by_cases e2:i=p
   .rw[e2];exact h0
   .exact hZ i hi1 om
  have hs0:((B p k).sign==0)=false:=by
   simp only[fU,Bp];rw[ix];exact h0
  simp -dsimp only[go_sem,G,E,F,H,y,l,M,d,f,hs0];have hex:∃σ' neg',l7 A n σ' neg' k/\det k (fun a b=>A (σ' a) b)=det k (fun a b=>A (σ a) b)/\∀i j,ci (fun a b=>A (σ' a) b) k i j=ci (fun a b=>A (σ a) b) k (c8 0 (p-k) i) j:=by
   by_cases epk:p=k
   .subst epk;exact⟨σ,neg,J,rfl,fun i j=>by rw[bQ];congr 1;unfold c8;split<;>(try split)<;>omega⟩
   .exact⟨fun a=>σ (c8 k p a),!neg,J.swap om hp,tL (n:=k) (fun a c=>A (σ a) c) (i:=k) (k:=p) om om,fun i j=>tK (k:=k) (p:=p) (fun a c=>A (σ a) c) om i j⟩
  obtain⟨σ',neg',s,hdet,hstg⟩:=hex;have hsw:∀i,i<n->c8 k p i<n:=fun i z=>by unfold c8;split<;>(try split)<;>omega
  have R:∀i,k<=i->k<=c8 k p i/\c8 k p i-k=c8 0 (p-k) (i-k):=fun i z=>by unfold c8;split<;>split<;>(try split)<;>(try split)<;>omega
  have hP':=C.swap m hp u1;have T:∀i j,k<=i->i<n->k<=j->j<n->B (c8 k p i) j=ci (fun a b=>A (σ' a) b) k (i-k) (j-k):=fun i j z o I q=>by
   rw[P _ j (R i z).1 (hsw i o) I q,hstg,(R i z).2]
  have h0':ci (fun a b=>A (σ' a) b) k 0 0≠0:=by
   have:=T k k (ag _) m (ag _) m;rw[bQ]at this;rw[<-this,show c8 k p k=p by unfold c8;rw[aj rfl]]
   exact h0
  have hV':=N.upd (ai X) (⟨59,1,n,aQ (aQ g1 k (.sl 2 e (ρ p*n) n)) p (.sl 2 e (ρ k*n) n)⟩);rw[<-hdet]at hV';have w2:=aI (om:k<1000000)
  have yk:aQ (aQ g1 k (.sl 2 e (ρ p*n) n)) p (.sl 2 e (ρ k*n) n) k=.sl 2 e (ρ p*n) n:=by
   simp only[aQ];by_cases epk:k=p
   .rw[aj epk,epk]
   .rw[ah epk,aj trivial]
  refine fm 12 kr ?_
  simp (maxSteps:=3000000) -dsimp only[go_sem,ve,↓reduceIte,reduceCtorEq,QA,aa,F,y,M,m,hp,u1,xp,xk,w2,yk,du,gF];refine EO om om ?_;intro x hx1 hx2;generalize hBB:(fun a c=>B (c8 k p a) c)=B' at hP';generalize hrr:(fun a=>ρ (c8 k p a))=ρ' at hP';have hrk:ρ' k=ρ p:=by rw[<-hrr];show ρ (c8 k p k)=ρ p;congr 1;unfold c8;rw[aj rfl]
  have hBs2:∀i j,k<=i->i<n->k<=j->j<n->B' i j=ci (fun a b=>A (σ' a) b) k (i-k) (j-k):=fun i j z o I q=>by rw[<-hBB];exact T i j z o I q
  rw[<-hrk]at yk;rw[lv];generalize S.upd b ⟨59,1,n,aQ (aQ g1 k (.sl 2 e (ρ p*n) n)) p (.sl 2 e (ρ k*n) n)⟩=S3 at *;apply sf (fun O V=>∃x,(k+1<n->x=.sl 1 b (k+1) (n-(k+1)))/\O 4=ι n/\O 5=ι n/\O 7=.sl 1 b 0 n/\O 8=.ptr 2 L 0/\O 9=ι k/\O 10=ι k/\O 12=.sl 2 e (ρ' k*n) n/\O 29=ι n/\O 30=ι k/\O 69=x/\O 70=ι ((n-(k+1):Nat):Int)/\O 71=ι 0/\V=S3)
  .intro key;have x12:AV.sl 2 e (ρ p*n) n=.sl 2 e (ρ' k*n) n:=by rw[hrk]
   rcases (om:k+1=n∨k+1<n)with ek|ek
   .obtain⟨gx,rfl⟩:=hx1 ek;simp only[go_sem];refine key _ _ ⟨.lst 1 0 gx,fun h=>om,?_⟩
    simp only[go_sem,G,E,F,H,y,l,d,f,hrk,(om:n-(k+1)=0)]
   .obtain rfl:=hx2 ek;simp only[go_sem];refine key _ _ ⟨.sl 1 b (k+1) (n-(k+1)),fun _=>rfl,?_⟩;simp only[*,go_sem]
  clear G E F H y l M d f hx1 hx2 u1 v1 u2 Z xp xk xpk hfl Q hbp hs0 C N P hZ hsw R T yk h0 hstg hdet hrk hBB hrr J;clear O x;rintro O V ⟨x,hx,G,E,F,H,y,l,D,d,f,u,v,w,rfl⟩;refine cA (fun O V=>∃(r:Nat) (B2:az),r<=n-(k+1)/\O 4=ι n/\O 5=ι n/\O 7=.sl 1 b 0 n/\O 8=.ptr 2 L 0/\O 9=ι k/\O 10=ι k/\O 12=.sl 2 e (ρ' k*n) n/\O 29=ι n/\O 30=ι k/\O 69=x/\O 70=ι ((n-(k+1):Nat):Int)/\O 71=ι r/\pJ V b e n ρ' B2/\cT V L 50 2 (.big (det k (fun a b=>A (σ' a) b)))/\(∀i j,k<=i->i<n->k<=j->j<n->B2 i j=if k<i/\k<j/\(i<k+1+r)then ci (fun a b=>A (σ' a) b) (k+1) (i-k-1) (j-k-1)else ci (fun a b=>A (σ' a) b) k (i-k) (j-k))) (fun O V=>n-(k+1)-bS (O 71)) ?_ ?_
  .refine⟨0,B',om,G,E,F,H,y,l,D,d,f,u,v,w,hP',hV',fun i j z o I q=>?_⟩
   rw[hBs2 i j z o I q,ah om]
  clear G E F H y l D d f u v w hP' hV' hBs2;clear O B';rintro Q3 hQ3 O V ⟨r,B2,hr,G,E,F,H,y,l,D,d,f,u,v,w,C,N,t⟩;by_cases hrn:r<n-(k+1)
  .have hxx:=hx om;subst hxx;obtain⟨g1,u1,v1⟩:=id C.outer;have x1:g1 (k+1+r)=.sl 2 e (ρ' (k+1+r)*n) n:=v1 (k+1+r) om;simp only[go_sem,aa,l,u,v,w,hrn,u1,x1,w2,(om:k+1+r<n)]
   refine cA (fun O V=>∃(c:Nat) (B2:az),k+1<=c/\c<=n/\O 4=ι n/\O 5=ι n/\O 7=.sl 1 b 0 n/\O 8=.ptr 2 L 0/\O 9=ι k/\O 10=ι k/\O 12=.sl 2 e (ρ' k*n) n/\O 29=ι n/\O 30=ι k/\O 69=.sl 1 b (k+1) (n-(k+1))/\O 70=ι ((n-(k+1):Nat):Int)/\O 71=ι r/\O 14=.sl 2 e (ρ' (k+1+r)*n) n/\O 15=ι c/\pJ V b e n ρ' B2/\cT V L 50 2 (.big (det k (fun a b=>A (σ' a) b)))/\(∀i j,k<=i->i<n->k<=j->j<n->B2 i j=if k<i/\k<j/\(i<k+1+r∨i=k+1+r/\j<c)then ci (fun a b=>A (σ' a) b) (k+1) (i-k-1) (j-k-1)else ci (fun a b=>A (σ' a) b) k (i-k) (j-k))) (fun O V=>n-bS (O 15)) ?_ ?_
   .simp only[go_sem,G,E,F,H,y,l,D,d,f,u,v,w];refine⟨k+1,om,om,rfl,B2,C,N,fun i j z o I q=>?_⟩
    rw[t i j z o I q];by_cases U:k<i/\k<j/\i<k+1+r
    .rw[aj U,aj om]
    .rw[ah U,ah om]
   clear G E F H y l D d f u v w C N t u1 v1 x1;clear O V B2 g1;rintro Q4 hQ4 O V ⟨c,B2,hkc,hcn,G,E,F,H,y,l,D,d,f,u,v,w,e14,e15,C,N,t⟩;by_cases U:c<n
   .obtain⟨g2,u2,Z⟩:=id C.inner;obtain⟨g8,u8,y8⟩:=id N;have f1:ρ' k*n+n<=n*n:=by
     have:=aq n (show ρ' k+1<=n from C.rg k m)
     rwa [cg]at this
    have f2:ρ' (k+1+r)*n+n<=n*n:=by
     have:=aq n (show ρ' (k+1+r)+1<=n from C.rg _ om)
     rwa [cg]at this
    have y1:g2 (ρ' k*n+k)=.big (B2 k k):=Z k k m m;have y2:g2 (ρ' (k+1+r)*n+k)=.big (B2 (k+1+r) k):=Z _ k om m;have y3:g2 (ρ' k*n+c)=.big (B2 k c):=Z k c m U;have y4:g2 (ρ' (k+1+r)*n+c)=.big (B2 (k+1+r) c):=Z _ c om U;have c1:=t k k (ag _) m (ag _) m;have c2:=t (k+1+r) k om om (ag _) m;have c3:=t k c (ag _) m om U;have c4:=t (k+1+r) c om om om U;rw[ah om]at c1 c2 c3 c4;rw[bQ]at c1 c2 c3;have m1:=hB σ' neg' k s k 0 0 om om;have m2:=hB σ' neg' k s k (k+1+r-k) 0 om om;have m3:=hB σ' neg' k s k 0 (c-k) om om;have m4:=hB σ' neg' k s k (k+1+r-k) (c-k) om om;have m5:nb (det k (fun a b=>A (σ' a) b)) K:=by
     by_cases e:k=0
     .rw[e];simp only[det];exact nb.one om
     .have:=hB σ' neg' k s (k-1) 0 0 om om;rw[cG,(om:k-1+1=k)]at this
      exact this
    have hd0:=s.lead k (ag _);have hst:=ij s.lead (k+1+r-k-1) (c-k-1);rw[(om:k+1+r-k-1+1=k+1+r-k),(om:c-k-1+1=c-k)]at hst
    rw[<-c1,<-c2,<-c3,<-c4]at hst;rw[<-c1]at m1;rw[<-c2]at m2;rw[<-c3]at m3;rw[<-c4]at m4;have hq:(B2 k k*B2 (k+1+r) c-B2 (k+1+r) k*B2 k c)/det k (fun a b=>A (σ' a) b)=ci (fun a b=>A (σ' a) b) (k+1) (k+1+r-k-1) (c-k-1):=by
     rw[hst,cj _ hd0]
    simp -dsimp only[go_sem,aa,E,e15,U];refine aN 20 kr ?_
    simp only[go_sem,aa,G,E,F,H,y,l,D,d,f,u,v,w,e14,e15,U,u2,y1,y2,y3,y4,u8,y8,m,(om:ρ' k*n+k<n*n),(om:ρ' k*n+c<n*n),(om:ρ' (k+1+r)*n+k<n*n),(om:ρ' (k+1+r)*n+c<n*n)]
    refine⟨_,(FC _ _ _ _ _ K m1 m2 m3 m4 m5 om hd0).pure',?_⟩;rw[hq];simp only[go_sem,aI (om:c<1000000),bS]
    refine⟨⟨c+1,om,om,rfl,_,C.set (om:k+1+r<n) U u2,N.upd (ai Y) _,fun i j z o I q=>?_⟩,om⟩
    simp only[dS];by_cases e1:i=k+1+r/\j=c
    .obtain⟨rfl,rfl⟩:=e1;rw[aj ⟨rfl,rfl⟩,aj om]
    .rw[ah e1,t i j z o I q];by_cases e2:k<i/\k<j/\(i<k+1+r∨i=k+1+r/\j<c)
     .rw[aj e2,aj om]
     .rw[ah e2,ah om]
   .have hcn':n=c:=om
    simp only[go_sem,aa,E,e15,U];rw[hQ4];simp only[go_sem,G,E,F,H,y,l,D,d,f,u,v,w,aI (om:r<1000000),bS]
    refine⟨⟨r+1,om,rfl,B2,C,N,fun i j z o I q=>?_⟩,om⟩
    rw[t i j z o I q];by_cases e2:k<i/\k<j/\(i<k+1+r∨i=k+1+r/\j<c)
    .rw[aj e2,aj om]
    .rw[ah e2,ah om]
  .have hre:r=n-(k+1):=om
   obtain⟨g2,u2,Z⟩:=id C.inner;obtain⟨g8,u8,y8⟩:=id N;have f1:ρ' k*n+n<=n*n:=by
    have:=aq n (show ρ' k+1<=n from C.rg k m)
    rwa [cg]at this
   have y1:g2 (ρ' k*n+k)=.big (B2 k k):=Z k k m m;have c1:=t k k (ag _) m (ag _) m;rw[ah om,bQ]at c1;simp only[go_sem,aa,l,u,v,w,hrn];rw[hQ3];simp only[go_sem,aa,H,y,l,D,u2,y1,u8,m,w2,(om:ρ' k*n+k<n*n)]
   rw[hQ2];simp only[go_sem,G,E,F,H,d,f,w2,bS];refine⟨⟨k+1,om,rfl,rfl,σ',ρ',neg',B2,s.step h0',C.upd X Y _,?_,fun i j z o I q=>?_,fun i h1 h2=>om⟩,om⟩
   .rw[<-cG,<-c1];exact cT.set
   .rw[t i j om o om q,aj om,mL,mL]
 .simp only[go_sem,y,d,f,m];rw[hQ'];simp only[go_sem,y];have hkn':k=n:=om
  subst hkn';exact VR.mf rfl

def Be(n K:Nat)(A:az)(s:1<=n)(t:n<=16)(w:K<=1000000)(l:Pd A n)(m:∀k i j,k+i<n->k+j<n->nb (ci A k i j) K)(o:∀k,k<n->nb (det k A) K):PF 241 [aL n n A] (.bool true):=by
 have u:∀i j,i<n->j<n->nb (A i j) K:=fun i j v x=>by have:=m 0 i j om om;rwa [eQ]at this
 refine gN func241 ntmps241 results241 ?_;simp -dsimp only[go_sem,aa];refine(tO n A s t).call ?_;simp only[go_sem];refine cA (fun O S=>∃i:Nat,i<=n/\O 0=aL n n A/\O 17=ι n/\O 18=ι i) (fun O S=>n-bS (O 18)) ?_ ?_
 .simp only[go_sem];exact⟨0,om,rfl⟩
 rintro Q' p O S ⟨i,v,h,b,c⟩;by_cases a:i<n
 .simp only[go_sem,b,c,a];refine cA (fun O S=>∃j:Nat,j<=i/\O 0=aL n n A/\O 5=ι i/\O 17=ι n/\O 18=ι i/\O 21=ι i/\O 22=ι j) (fun O S=>i-bS (O 22)) ?_ ?_
  .simp only[*,go_sem];exact⟨0,om,rfl⟩
  clear h b c;rintro Q2 q O S ⟨j,x,h,y,b,c,e,f⟩;by_cases g:j<i
  .have d:j<n:=om
   simp -dsimp only[go_sem,e,f,g,aL,aY];refine aN 16 kr ?_
   simp only[go_sem,aa,h,y,b,c,e,f,a,d,aL,aY];refine⟨_,(rt (u i j a d) (u j i d a) om).pure',?_⟩;rw[l.sym j i d a,ny];simp only[go_sem,aP,aI (om:j<1000000),bS]
   exact⟨⟨j+1,om,rfl⟩,om⟩
  .simp only[go_sem,e,f,g];rw[q];simp only[*,go_sem,aI (om:i<1000000),bS]
   exact⟨⟨i+1,om,rfl⟩,om⟩
 .simp only[go_sem,b,c,a];rw[p];simp -dsimp only[go_sem,aa,h];refine(CB n K A s t w m (fun k z=>l.ne (ag n) k z) o).call ?_;simp only[go_sem,q8];refine aC (fun O S=>∃i:Nat,i<=n/\O 50=q8 n A/\O 51=ι n/\O 52=ι i) (fun O S=>n-bS (O 52)) ?_ ?_
  .simp only[go_sem,q8];exact⟨0,om,rfl⟩
  rintro O S ⟨i,v,B,C,D⟩;by_cases a:i<n
  .have E:0<n-i:=om
   simp -dsimp only[*,go_sem,aa,q8,aL,aY]
   repeat refine an ?_
   refine(ka (m i 0 0 om om) om).call ?_;have r:(ci A i 0 0).sign=1:=by
    rw[cG];exact cW (l.pos (i+1) om)
   rw[r];simp only[*,go_sem,(om:¬((1:Int)<=0)),aI (om:i<1000000),bS]
   exact⟨⟨i+1,om,rfl,rfl⟩,om⟩
  .simp only[*,go_sem,aa];exact VR.mf rfl
def rK(n K:Nat)(A:az)(l:1<=n)(x:n<=8)(t:K<=1000000)(q:Pd A n)(r:∀k i j,k+i<n->k+j<n->nb (ci A k i j) K)(m:∀k,k<n->nb (det k A) K):PF 203 [aL n n A] (ι 0):=by
 have s:∀i j,i<n->j<n->nb (A i j) K:=fun i j u v=>by have:=r 0 i j om om;rwa [eQ]at this
 refine gN func203 ntmps203 results203 ?_;simp -dsimp only[go_sem,aa];refine(lp n n A l om l om).call ?_;simp only[go_sem,aP,(om:¬((8:Int)<(n:Int)))]
 refine cA (fun O S=>∃i:Nat,i<=n/\O 0=aL n n A/\O 25=ι n/\O 26=ι i) (fun O S=>n-bS (O 26)) ?_ ?_
 .simp only[go_sem];exact⟨0,om,rfl⟩
 rintro Q' o O S ⟨i,u,h,b,c⟩;by_cases a:i<n
 .simp only[go_sem,b,c,a];refine cA (fun O S=>∃j:Nat,j<=i/\O 0=aL n n A/\O 6=ι i/\O 25=ι n/\O 26=ι i/\O 29=ι i/\O 30=ι j) (fun O S=>i-bS (O 30)) ?_ ?_
  .simp only[*,go_sem];exact⟨0,om,rfl⟩
  clear h b c;rintro Q2 p O S ⟨j,v,h,w,b,c,e,f⟩;by_cases g:j<i
  .have d:j<n:=om
   simp -dsimp only[go_sem,e,f,g,aL,aY];refine aN 16 kr ?_
   simp only[go_sem,aa,h,w,b,c,e,f,a,d,aL,aY];refine⟨_,(rt (s i j a d) (s j i d a) om).pure',?_⟩;rw[q.sym j i d a,ny];simp only[go_sem,aP,aI (om:j<1000000),bS]
   exact⟨⟨j+1,om,rfl⟩,om⟩
  .simp only[go_sem,e,f,g];rw[p];simp only[*,go_sem,aI (om:i<1000000),bS]
   exact⟨⟨i+1,om,rfl⟩,om⟩
 .simp only[go_sem,b,c,a];rw[o];simp -dsimp only[go_sem,aa,h];refine(Be n K A l om t q r m).call ?_;simp only[go_sem];exact VR.mf rfl

def Dm(d:n<=16)(c:∀i j,i<n->j<n->nb (A i j) k0)(e:k<=n):nb (det k A) (17*(k0+10)):=by
 refine(mG (k:=k0) k _ om fun a b f g=>c _ _ om om).mono ?_;have:=aq (k0+10) (om:k<=16)
 omega
def Lc(n a:Nat)(A:az)(c:1<=n)(e:n<=8)(f:a<=10000)(d:Pd A n)(b:∀i j,i<n->j<n->nb (A i j) a):PF 158 [aL n n A] (.tup [.big (det n A),ι 0]):=by
 refine gN func158 ntmps158 results158 ?_;simp -dsimp only[go_sem];refine ax.intro fun h l=>?_;simp -dsimp only[go_sem,aa];refine(rK n (17*(a+10)) A c e om d (Dk om b) (fun k f=>Dm om b om)).call ?_;simp -dsimp only[go_sem,aa,aP];refine(Bc n (17*(a+10)) A c om om om (d.ne (ag n) n (ag n)) (yI om b)).call ?_;simp -dsimp only[go_sem];refine ax.intro fun m g=>?_;have n5_2:=(af g).1;simp only[go_sem,aa,ai n5_2,dN];exact VR.tup2 (VR.mf rfl) (VR.mf rfl)
def yj(n b:Nat)(Q U:az)(a:1<=n)(q:n<=8)(e:b<=10000)(r:Pd Q n)(g:∀i j,i<n->j<n->nb (Q i j) b)(c:∀i j,i<n->j<n->nb (U i j) b)(s:det n U≠0):PF 162 [aL n n Q,aL n n U] (.tup [aL n n (mm n (fun i j=>U j i) (mm n Q U)),ι 0]):=by
 refine gN func162 ntmps162 results162 ?_;simp -dsimp only[go_sem,aa,aL,aY];refine(rK n (17*(b+10)) Q a q om r (Dk om g) (fun k e=>Dm om g om)).call ?_;simp -dsimp only[go_sem,aa,aP];refine(lp n n U a om a om).call ?_;simp -dsimp only[go_sem,aa,aP,(om:¬((n:Int)<n))]
 refine(PJ n (17*(b+10)) U a om om om s (yI om c)).call ?_;simp -dsimp only[go_sem,aa,(om:¬((n:Int)<n))]
 refine(nZ n n b U a om a om c om _ _ (cC _ _)).mono ?_;rintro _ S2 ⟨t,u,rfl,h⟩;simp -dsimp only[go_sem,aa];refine(pK n n n b Q U a om a om a om g c om _ _ (cC _ _)).mono ?_;rintro _ S3 ⟨v,w,rfl,d⟩;have l:∀i j,i<n->j<n->nb (mm n Q U i j) (b+b+10):=fun i j m o=>zT (f:=fun k=>Q i k*U k j) (fun k e=>(g i k m e).mul (c k j e o)) om n (ag _);simp -dsimp only[go_sem,aa];refine(pK n n n (b+b+10) (fun i j=>U j i) (mm n Q U) a om a om a om (fun i j m o=>(c j i o m).mono om) l om _ _ (eI.two (h.1.ext d.2.1).vr.va d.1.vr.va)).mono ?_;rintro _ S4 ⟨x,y,rfl,p⟩;simp only[go_sem];exact VR.tup2 p.1.vr (VR.mf rfl)
def Q8(e:1<=n)(d:n<=16)(c:1<=k0)(f:∀i j,i<n->j<n->nb (U i j) k0){i j:Nat}(g:i<n)(h:j<n):nb (jV n U i j) (17*(k0+10)):=by
 rw[AC e U h g];unfold qo;refine(mG (k:=k0) n _ d fun a b l m=>?_).mono ?_
 .simp only[setRow];split
  .unfold dW;split
   .exact nb.one c
   .exact nb.zero k0
  .exact f a b l m
 .have:=aq (k0+10) d;omega
def Ee(n b:Nat)(U:az)(e:1<=n)(s:n<=8)(c:1<=b)(m:b<=300)(f:∀i j,i<n->j<n->nb (U i j) b)(g:det n U*det n U=1):PF 96 [aL n n U] (.tup [aL n n (zY n U),.bool true]):=by
 refine gN func96 ntmps96 results96 ?_;have k:det n U≠0:=fun h=>by rw[h]at g;simp at g
 simp -dsimp only[go_sem,aa,aL,aY];refine(Bc n (17*(b+10)) U e om om om k (yI om f)).call ?_;simp -dsimp only[go_sem];refine ax.intro fun t u=>?_;rcases zt g with h|h
 .rw[h];simp -dsimp only[go_sem,aa,dN];refine(rl (a:=1) (by unfold iw;omega)).call ?_
  simp -dsimp only[go_sem,aa,cl];refine(rC n b U e om c m f _ _ (cC _ _)).mono ?_;rintro _ S2 ⟨o,p,rfl,d⟩;simp only[go_sem];refine VR.tup2 ?_ (VR.mf rfl);exact(d.1.congr fun i j _ _=>by unfold zY;rw[aj h]).vr
 .rw[h];simp -dsimp only[go_sem,aa,dN];refine(rl (a:=-1) (by unfold iw;omega)).call ?_
  simp -dsimp only[go_sem,aa,cl,show((-1:Int)==1)=false from rfl];refine(rC n b U e om c m f _ _ (cC _ _)).mono ?_;rintro _ S2 ⟨o,p,rfl,d⟩;simp -dsimp only[go_sem,aa];refine(zQ n n (17*(b+10)) (jV n U) e om om (fun i j q r=>Q8 e om c f q r) om _ _ (eI.one d.1.vr.va)).mono ?_;rintro _ S3 ⟨v,w,rfl,l⟩;simp only[go_sem];refine VR.tup2 ?_ (VR.mf rfl);exact(l.1.congr fun i j _ _=>by unfold zY;rw[ah om]).vr

structure QG(n:Nat)(Q:az):Prop where
 pd:Pd Q n
 one:1<=n
 five:n<=8
 ent:∀i j,i<n->j<n->(Q i j).natAbs<=1120325651456000
 dt:det n Q<=10000
def p2_50:(2:Int)^50=1125899906842624:=by decide
def QG.e(h:QG n Q):∀i,i<n->Q i i<=2^50:=fun i a=>by
 have:=h.ent i i a a;rw[p2_50];omega
def QG.run(h:QG n Q):wJ Q n 400 n (mr Q n):=Mb h.pd h.one (by have:=h.five;omega) h.e (by have:=h.five;omega)
def lU(n:Nat)(Q:az):az:=gT Q n (mr Q n)
def tR(n:Nat)(Q:az):az:=o8 (mr Q n)
def QG.red(h:QG n Q):Eb (lU n Q) n/\det n (lU n Q)=det n Q:=by
 have a:=h.run;have b:=h.dt;exact⟨Eb.of a.ls.pd a.ok h.five (by show det n (gT Q n (mr Q n))<=10000;rw[a.dn];omega),a.dn⟩
def QG.uni(h:QG n Q):det n (tR n Q)*det n (tR n Q)=1:=h.run.ls.uni
def QM{a:Nat}(h:x*x<=2^(2*a))(c:a<b):nb x b:=oi (rh h) c
def p2_18:(2:Int)^18=262144:=by decide
def QG.unb(h:QG n Q){i j:Nat}(l:i<n)(b:j<n):nb (tR n Q i j) 186:=by
 obtain⟨m,rfl⟩:∃m,n=m+1:=⟨n-1,by have:=h.one;omega⟩
 have c:=h.five;have d:=h.pd.coord (m-i) (mr Q (m+1) j) i h.e om;have o:je (m+1) Q (mr Q (m+1) j) (mr Q (m+1) j)<=176000:=h.red.1.diag c b;have f:0<je (m+1) Q (mr Q (m+1) j) (mr Q (m+1) j):=h.red.1.pd.diag b;have g:((2:Int)^50)^m<=2^350:=by rw[<-SI];exact dY om
 have k:=sW (bn f) g (show je (m+1) Q (mr Q (m+1) j) (mr Q (m+1) j)<=2^18 by rw[p2_18];omega)
 refine QM (a:=185) (cX (cX d k) (dY om)) om
def QG.gram:mm n (fun i j=>tR n Q j i) (mm n Q (tR n Q)) i j=lU n Q i j:=by
 unfold mm lU gT je tR o8;exact ay fun k _=>bU _ _
def lg(n:Nat)(Q:az):az:=zY n (tR n Q)
def QG.wgram(h:QG n Q){i j:Nat}(c:i<n)(d:j<n):je n (lU n Q) (fun a=>lg n Q a i) (fun a=>lg n Q a j)=Q i j :=
 Mk h.pd.sym (fun a b e f=>G4 h.one h.uni e f) (fun _ _ _ _=>rfl) c d
def QG.wfit(h:QG n Q){i j:Nat}(c:i<n)(b:j<n):(lg n Q i j).natAbs<=1099511627776 :=
 h.red.1.coord8 h.five (x:=fun a=>lg n Q a j) (by rw[h.wgram b b];have:=h.ent j j b b;omega) c
def Pc{b:Int}:decide (0<jU a b)=decide (b<a):=by
 unfold jU;split
 .simp;omega
 .split<;>simp[*]
def dr.frm{p q:Nat}{g:Nat->Nat}(h:dr S c g p q A)(a:∀d,nG M n d->S d=ae)(f:∀d X,¬nG M n d->S d=fZ X->S' d=fZ X):dr S' c g p q A:=by
 have kp:∀{b ty es k:Nat} {z:Nat->AV},a6 S b ty es k z->a6 S' b ty es k z:=fun⟨g',e,j⟩=>⟨g',f _ _ (fun l=>by rw[a _ l]at e;cases e) e,j⟩
 exact⟨kp h.outer,fun i a=>kp (h.row i a),h.inj⟩
def BE(S:St)(n c:Nat)(gc:Nat->Nat)(Q:az)(h:QG n Q)(H:dr S c gc n n Q) :
  cJ 95 [.sl 1 c 0 n] S (fun r S'=>∃b g bt gt S1,r=.tup [.sl 1 b 0 n,.sl 1 bt 0 n,ι 0]/\dr S' bt gt n n (tR n Q)/\ib S1 S' b g n n (lU n Q)/\dy S S1):=by
 have o:=h.one;have O:=h.five;have m:∀i j,i<n->j<n->nb (Q i j) 51:=fun i j f l=>by have:=h.ent i j f l;unfold nb;omega
 have I:=h.dt;have J:=h.run;refine iZ func95 ntmps95 results95 ?_;simp -dsimp only[go_sem,aa];refine(Lc n 51 Q o om om h.pd m).spec (eI.one H.vr.va) ?_;simp -dsimp only[go_sem];refine ax.intro fun y K=>?_;simp -dsimp only[go_sem,aa,aP];refine aN 4 kr ?_
 simp -dsimp only[go_sem,aa,dN];have z:nb (det n Q) 64:=by have:=h.pd.pos n (ag n);unfold nb;omega
 refine⟨_,(gR (a:=10000) om om).pure',_,(rt z (show nb (10000:Int) 64 by unfold nb;omega) om).pure',?_⟩
 simp -dsimp only[go_sem,Pc,(om:¬((10000:Int)<det n Q))]
 have t:dy S ((S.upd y ⟨50,2,1,fun _=>.big 0⟩).upd y ⟨50,2,1,aQ (fun _=>.big 0) 0 (.big (det n Q))⟩):=((dy.refl S).upd K _).upd K _;generalize (S.upd y ⟨50,2,1,fun _=>.big 0⟩).upd y ⟨50,2,1,aQ (fun _=>.big 0) 0 (.big (det n Q))⟩=S1 at *;have v:=H.ext t;refine(Bo S1 n (17*(51+10)) c gc Q o om om (Dk om m) (h.pd.ne (ag n)) (fun k P=>Dm om m om) v).mono ?_;rintro _ S2 ⟨M,rfl,A,B,p⟩;have R:Nc S2 M n Q jS:=lH.congr A (fun k P=>(nU om).symm) (fun i j f l=>(Ow f l).symm) (fun _ _ _ _=>rfl);simp -dsimp only[go_sem,aa];refine(LM Q n 400 50 h.pd o om h.e om om S2 M R).mono ?_;rintro _ S3 ⟨L,T⟩;have q:nH M n S1 S3:=(nH.ofExt B).trans T;have C:=dr.frm v p q;have w:dy S1 S3:=fun d X D=>q d X (fun U=>by rw[p d U]at D;cases D) D
 obtain⟨g,u,V,W,Y,Z⟩:=lH.c0 L;simp -dsimp only[*,go_sem,aa];refine(nZ n n 186 (mr Q n) o om o om (fun i j f l=>h.unb l f) om _ _ (eI.one L.bas.vr.va)).mono ?_;rintro _ S4 ⟨bt,gt,rfl,s⟩;have E:=C.ext s.2.1;have N:dr S4 bt gt n n (tR n Q):=s.1;have F:mm n (fun i j=>tR n Q j i) (mm n Q (tR n Q))=lU n Q:=by funext i j;exact QG.gram
 have G:det n (tR n Q)≠0:=fun e=>by have:=h.uni;rw[e]at this;simp at this
 simp -dsimp only[go_sem,aa];refine(yj n 186 Q (tR n Q) o om om h.pd (fun i j f l=>(m i j f l).mono om) (fun i j f l=>h.unb f l) G).spec (eI.two E.vr.va N.vr.va) ?_;rw[F];simp -dsimp only[go_sem,aa];refine(qv n n (lU n Q) o om o om (fun i j f l=>by have:=h.red.1.entry O f l;unfold iw;omega) _ _ (cC _ _)).mono ?_
 rintro _ S5 ⟨b,gb,rfl,x⟩;simp only[go_sem];exact⟨b,gb,bt,rfl,gt,N.ext x.2.1,S4,x,(t.trans w).trans s.2.1⟩

def vO.qg{p:Nat}(a:eW n H)(b:oW p)(o:jo n p H v)(h:vO n p H v B):QG n (kI n p H B):=by
 have k:∀r c,r<c->c<n->B r c=0:=fun r c d q=>(h.tri r om).1 c d q;have l:∀r,r<n->0<B r r:=fun r d=>(h.tri r d).2;have m:∀i j,i<n->j<n->mm n (mm n (fun i j=>B j i) H) B i j=p*p*kI n p H B i j:=fun i j e f=>h.eq a e f;have g:(0:Int)<(p:Int):=by have:=b.2.1;omega
 have s:=Mu (p:=(p:Int)) g k l (h.det b o) m;exact⟨NT a b k l m,a.one,a.eight,fun i j e f=>h.gent a b e f,by rw[s];exact a.small⟩
def Bm(S:St)(n c:Nat)(gc:Nat->Nat)(Q:az)(h:QG n Q)(a:dr S c gc n n Q) :
  cJ 42 [.sl 1 c 0 n] S (fun r S'=>∃b g S1,r=.tup [.sl 1 b 0 n,aL n n (lg n Q),ι 0]/\ib S1 S' b g n n (lU n Q)/\dy S S1):=by
 refine iZ func42 ntmps42 results42 ?_;simp -dsimp only[go_sem,aa];refine(BE S n c gc Q h a).mono ?_;rintro _ S1 ⟨b,g,bt,gt,S0,rfl,d,e,f⟩;simp -dsimp only[go_sem,aa,aP];have k:=h.one;have o:=h.five;refine(Ee n 186 (tR n Q) k om om om (fun i j l m=>h.unb l m) h.uni).spec (eI.one d.vr.va) ?_;simp only[go_sem];exact⟨b,rfl,g,S0,e,f⟩
def xZ(S:St)(n p:Nat)(H:az)(v:Nat->Nat)(l:eW n H)(s:jT (det n H) p)(a:oW p)(m:jo n p H v)(t:lq S) :
  cJ 14 [av n n H,ι p,aK n (fun k=>v k)] S (fun r S'=>∃b g c gc B S1 S2 S3,r=.tup [.sl 1 b 0 n,.sl 1 c 0 n,ι 0]/\vO n p H v B/\dy S S1/\ib S1 S2 b g n n (lU n (kI n p H B))/\dy S2 S3/\ib S3 S' c gc n n (lg n (kI n p H B))):=by
 refine iZ func14 ntmps14 results14 ?_;simp -dsimp only[go_sem,aa];refine(pk S n p H v l s a m t).mono ?_;rintro _ S1 ⟨bb,cq,gb,gq,B,S0,rfl,o,e,_,_,_,u,f⟩;have d:=(o.nbB a).qg l a m;simp -dsimp only[go_sem,aa,aP];refine(Bm S1 n cq gq (kI n p H B) d u).mono ?_;rintro _ S2 ⟨b,g,S0',rfl,w,h⟩;simp -dsimp only[go_sem,aa,aP];have q:=d.one;have A:=d.five;refine(qv n n (lg n (kI n p H B)) q om q om (fun i j x y=>by have:=d.wfit x y;unfold iw;omega) _ _ (cC _ _)).mono ?_
 rintro _ S3 ⟨c,gc,rfl,z⟩;simp only[go_sem];exact⟨b,g,c,rfl,gc,B,o.nbB a,S0',(e.trans f).trans h,S2,w,S2,dy.refl _,z⟩

def MZ{a b c r:Code}{Q:AX->Tm->St->Prop}(P:Tm->St->Prop)(h:∀r' Q',Q'=Q->(∀O S,P O S->Aw r' Q' O S)->Aw (.seq a (.seq b (.seq c r'))) Q' O S)(d:∀O S,P O S->Aw r Q O S):Aw (.seq a (.seq b (.seq c r))) Q O S:=h r Q rfl d
def QG.cry(h:QG n Q):Cry n (lU n Q) (lg n Q) Q :=
 ⟨Ml h.one h.uni,fun i j a b=>by rw[uK];exact h.wgram a b⟩
def QG.rb(h:QG n Q):(∀i j,i<n->j<n->lU n Q i j=lU n Q j i)/\sn (lU n Q) n :=
 ⟨h.red.1.pd.sym,h.red.1.pd.pos,by rw[h.red.2];exact h.dt,h.red.1.rows⟩
def CP{p:Nat}(d:eW n H)(i:jT (det n H) p)(e:oW p)(j:jo n p H v)(l:vO n p H v B0):PF 14 [av n n H,ι p,aK n (fun k=>v k)] (.tup [av n n (lU n (kI n p H B0)),av n n (lg n (kI n p H B0)),ι 0]):=by
 refine PF.of_spec ((xZ St.none n p H v d i e j trivial).mono ?_);rintro _ S' ⟨b,g,c,gc,B,S1,S2,S3,rfl,h,o,f,m,a⟩;rw[wo (h.uniq d e l)]at f a;exact VR.tup3 (f.1.ext (m.trans a.2.1)).vr a.1.vr (VR.mf rfl)
def Np{x y:AV}{c:Int}(a:c≠0)(h:Ep 59 [x,y,z] c):wK 14 [x,y,z] (.tup [.nil,.nil,ι c]):=fun S b=>by
 refine iZ func14 ntmps14 results14 ?_;simp -dsimp only[go_sem,aa];refine(Q7 a h S b).mono ?_;rintro _ S1 ⟨rfl,d⟩;simp only[go_sem,aa,show(c != 0)=true by simpa using a]
 exact d
def sO(h:AV)(p:Int)(v:AV):Prop:=(∃c:Int,c≠0/\wK 14 [h,ι p,v] (.tup [.nil,.nil,ι c])/\wK 15 [h,ι p,v] (.tup [.nil,ι c])) ∨
 ∃x g w:AV,wK 14 [h,ι p,v] (.tup [g,w,ι 0])/\wK 15 [h,ι p,v] (.tup [x,ι 0])/\wK 16 [h,ι p,v,g,w] (ι 0)/\wK 17 [h,ι p,v,g,w] (ι 0)
def sO.mv{h h' v v':AV}{p:Int}(a:sO h p v)(e:∀w M u,bH w M h' u->bH w M h u)(f:∀w M u,bH w M v' u->bH w M v u):sO h' p v':=by
 have k:∀l w M vs,a8 w M (h'::ι p::v'::l) vs->a8 w M (h::ι p::v::l) vs:=fun l w M=>a8.step (e w M) (a8.step (fun _ h=>h) (a8.step (f w M) fun _ h=>h));rcases a with⟨c,a,b,d⟩|⟨x,g,w,b,d,i,j⟩
 .exact a9 ⟨c,a,b.congr (k []),d.congr (k [])⟩
 .exact aR ⟨x,g,w,b.congr (k []),d.congr (k []),i.congr (k _),j.congr (k _)⟩
def CO(h v:AV)(p c:Int)(a:c≠0)(b:Ep 121 [h,ι p,v] c)(d:PF 33 [h,ι p,v] (.tup [.nil,ι c])):sO h p v :=
 a9 ⟨c,a,Np a (KA a b),(Iq a (Ge a d)).ge⟩
def Nq{p:Nat}(a:eW n H)(b:oW p)(c:jo n p H v)(d:vO n p H v B0):∀i j,i<n->j<n->qO (lg n (kI n p H B0) i j):=fun i j e f=>by
 have:=(d.qg a b c).wfit e f;unfold qO;omega
def M6{G W:az}{v:AV}{p:Int}(f:1<=n)(a:n<=8)(g:wK 25 [av n n H,ι p,v] (.tup [av n n Q,ι 0]))(b:PF 48 [av n n G] (.bool true))(c:(∀i j,i<n->j<n->G i j=G j i)/\sn G n)(h:∀i j,i<n->j<n->qO (W i j))(e:KQ n G W/\∀i j,i<n->j<n->pn n G (fun i r=>W r i) i j=Q i j):wK 17 [av n n H,ι p,v,av n n G,av n n W] (ι 0):=fun S k=>by
 refine iZ func17 ntmps17 results17 ?_;simp -dsimp only[go_sem,aa];refine(g S k).mono ?_;rintro _ S1 ⟨rfl,l⟩;simp -dsimp only[go_sem,aa,aP];refine b.call ?_;simp -dsimp only[go_sem,aa,av,aP];refine(tN n n (fun _=>n) W true om ⟨fun _=>⟨rfl,fun _ _=>rfl⟩,fun _=>rfl⟩).call ?_;simp -dsimp only[go_sem,aa];refine(vC.lift (qG n G W f a (fun i j m o=>by have:=(c.2.red c.1 a).entry a m o;omega) c h true ⟨fun _=>e.1,fun _=>rfl⟩) S1 _ (cC _ _)).mono ?_
 rintro _ S2 ⟨⟨_,t,u,rfl,q⟩|⟨s,_⟩,d⟩
 .simp -dsimp only[go_sem,aa];refine(qJ n n _ Q true om om ⟨fun _=>e.2,fun _=>rfl⟩).spec (eI.three q.vr.va (VA.refl _ _) (VA.refl _ _)) ?_;simp only[go_sem];exact l.trans d
 .cases s
def JC{p:Nat}(a:eW n H)(f:jT (det n H) p)(b:oW p)(c:jo n p H v)(d:vO n p H v B0)(g:KQ n (lU n (kI n p H B0)) (lg n (kI n p H B0))/\∀i j,i<n->j<n->pn n (lU n (kI n p H B0)) (fun i r=>lg n (kI n p H B0) r i) i j=kI n p H B0 i j):wK 17 [av n n H,ι p,aK n (fun k=>v k),av n n (lU n (kI n p H B0)),av n n (lg n (kI n p H B0))] (ι 0):=by
 have e:=d.qg a b c;exact M6 a.one a.eight (JB a f b c d).1 (mP n _ true a.one a.eight ⟨fun _=>e.rb,fun _=>rfl⟩) e.rb (Nq a b c d) g
def A8(n p:Nat)(H:az)(v:Nat->Nat)(a:eW n H)(m:jT (det n H) p)(d:oW p)(f:jo n p H v):sO (av n n H) p (aK n (fun k=>v k)):=by
 by_cases u:∃B,vO n p H v B
 case neg =>
  refine a9 ⟨1,by decide,fun S w=>?_,fun S w=>?_⟩
  .exact(xZ S n p H v a m d f w).mono fun r S' ⟨b,g,c,gc,B,S1,S2,S3,e,h,_⟩=>absurd ⟨B,h⟩ u
  .exact(xY S n p H v a m d f).mono fun r S' ⟨b,g,B,S1,e,h,z,A⟩=>absurd ⟨B,h⟩ u
 obtain⟨B0,o⟩:=u;have l:=o.qg a d f;have t:=a.eight;have q:∀i j,i<n->j<n->qO (lU n (kI n p H B0) i j):=fun i j x y=>by have:=l.red.1.entry t x y;unfold qO;omega
 have s:=(JB a m d f o).2;exact aR ⟨_,_,_,(CP a m d f o).ge,s,M7 a.one t s l.ent (qI n _ true a.one t q ⟨fun _=>l.rb,fun _=>rfl⟩) q (Nq a d f o) (β:=true) ⟨fun _=>l.cry,fun _=>rfl⟩,JC a m d f o ((Cu t l.rb l.ent).2 l.cry)⟩

def wK.pf(a:ql z=true)(h:wK f args z):PF f args z :=
 PF.of_spec ((h St.none trivial).mono fun r S' ⟨e,_⟩=>by rw[e];exact VR.mf a)
def I2:az:=fun i j=>if i=j then 1 else 0
def v12:Nat->Nat:=fun i=>i+1
def vA:eW 2 I2:=by
 refine⟨om,om,⟨⟨fun a b _ _=>by simp[I2,eq_comm],fun k c=>?_⟩,⟨fun r d j e=>?_,fun r f d=>?_⟩,fun k c=>?_⟩,by decide⟩
 .rcases (om:k=0∨k=1∨k=2)with rfl|rfl|rfl<;>decide
 .obtain⟨rfl,rfl⟩:r=1/\j=0:=om
  unfold gI;decide
 .obtain rfl:r=1:=om
  unfold gA;decide
 .rcases (om:k=0∨k=1∨k=2)with rfl|rfl|rfl<;>decide
def si:jT (det 2 I2) 5:=⟨om,om,⟨om,fun d a b=>by
 have:d<3:=by
  rcases aB d 3 with h|h
  .exact h
  .have:=bB h h;omega
 obtain rfl:d=2:=om
 omega⟩,by decide⟩
def vu:jo 2 5 I2 v12:=⟨fun i a=>by unfold v12;omega,by decide,by decide⟩
def red2(h:Eb A 2)(g:det 2 A=1):A 0 0=1/\A 1 1=1/\A 0 1=0/\A 1 0=0:=by
 have j:=h.pd.sym 0 1 om om;have k:=h.pd.pos 1 om;have f:=h.rows.1 1 om 0 om;have e:=h.rows.2 1 om om;have l:eZ A 1 0=A 1 0:=by show ci A 0 1 0=A 1 0;exact eQ ..
 unfold gI at f;unfold gA at e;rw[l]at f e;rw[uE]at g;simp only[aJ,bQ,Nat.reduceAdd,Jk,uE,show det 0 A=1 from rfl,cL]at k f e;rw[j]at g e ⊢;rw[g]at e;generalize A 0 0=a at *;generalize A 1 0=b at *;generalize A 1 1=c at *;have o:=oL (x:=b) (d:=a) f;have m:a=1:=by
  rcases iI a 2 with i|i
  .omega
  .have p:2*2<=a*a:=cw i i om om;omega
 subst m;have n:b=0:=om
 subst n;exact⟨rfl,om,rfl,rfl⟩
def rP:az:=fun i j=>if i=0 then(if j=0 then 1 else 0)else if j=0 then 7 else 25
def F4:vO 2 5 I2 v12 rP:=by
 refine⟨fun r m=>⟨fun j b n=>?_,?_⟩,fun c j e o=>?_,⟨0,om,by decide⟩,⟨fun i=>if i=0 then 1 else 7,fun i g=>?_,by decide,fun y=>⟨?_,?_⟩⟩⟩
 .obtain⟨rfl,rfl⟩:r=0/\j=1:=om
  rfl
 .rcases (om:r=0∨r=1)with rfl|rfl<;>decide
 .obtain⟨rfl,rfl⟩:c=1/\j=0:=om
  decide
 .rcases (om:i=0∨i=1)with rfl|rfl<;>decide
 .rintro⟨c,e⟩;have d:=e 0 om;have b:=e 1 om;simp only[ap,rP]at d b;simp at d b;refine⟨c 0,fun i=>if i=0 then 0 else 5*c 1,fun i g=>?_,?_⟩
  .rcases (om:i=0∨i=1)with rfl|rfl
   .simp;omega
   .simp;omega
  .have f:wL 2 I2 5 v12 1=2:=by decide
   simp[ap,f];omega
 .rintro⟨c,a,h,k⟩;have d:=h 0 om;have b:=h 1 om;have l:wL 2 I2 5 v12 0=1:=by decide
  have f:wL 2 I2 5 v12 1=2:=by decide
  simp only[ap,l,f]at k;simp at d b k;refine⟨fun i=>if i=0 then y 0 else(y 1-7*y 0)/25,fun i g=>?_⟩
  rcases (om:i=0∨i=1)with rfl|rfl
  .simp[ap,rP]
  .simp[ap,rP];omega
def In(g:i<2)(h:j<2):lU 2 (kI 2 5 I2 rP) i j=I2 i j:=by
 have f:oW 5:=si.pr om;have e:=F4.qg vA f vu;obtain⟨a,b,c,d⟩:=red2 e.red.1 (e.red.2.trans dc)
 rcases (om:i=0∨i=1)with rfl|rfl<;>rcases (om:j=0∨j=1)with rfl|rfl
 .exact a
 .exact c
 .exact d
 .exact b
def P2(x:Int):0<=x*x:=by
 rcases Int.le_total 0 x with h|h
 .exact cD h h
 .exact Int.mul_nonneg_of_nonpos_of_nonpos h h
def Nm(i j:Nat)(a:i<2)(b:j<2):mm 2 (fun i j=>lg 2 (kI 2 5 I2 rP) j i) (mm 2 (lU 2 (kI 2 5 I2 rP)) (lg 2 (kI 2 5 I2 rP))) i j=kI 2 5 I2 rP i j:=by
 rw[uK];exact(F4.qg vA (si.pr om) vu).wgram a b
def I2_dW:det 2 (lg 2 (kI 2 5 I2 rP))=1∨det 2 (lg 2 (kI 2 5 I2 rP))=-1:=by
 have e:∀x y,x<2->y<2->lU 2 (kI 2 5 I2 rP) x y=I2 x y:=fun x y h k=>In h k;have f:det 2 (kI 2 5 I2 rP)=1:=by decide
 have g:=fun i j l m=>Nm i j l m;rw[uE]at f ⊢;rw[<-g 0 0 om om,<-g 0 1 om om,<-g 1 0 om om,<-g 1 1 om om]at f;simp only[mm,ap,e 0 0 om om,e 0 1 om om,e 1 0 om om,e 1 1 om om]at f;simp[I2]at f;generalize lg 2 (kI 2 5 I2 rP) 0 0=a at *;generalize lg 2 (kI 2 5 I2 rP) 0 1=b at *;generalize lg 2 (kI 2 5 I2 rP) 1 0=c at *;generalize lg 2 (kI 2 5 I2 rP) 1 1=d at *;exact zt (by rw[<-f];grind)
def I2_tr:KQ 2 (lU 2 (kI 2 5 I2 rP)) (lg 2 (kI 2 5 I2 rP))/\∀i j,i<2->j<2->pn 2 (lU 2 (kI 2 5 I2 rP)) (fun i r=>lg 2 (kI 2 5 I2 rP) r i) i j=kI 2 5 I2 rP i j:=by
 have d:=F4.qg vA (si.pr om) vu;have f:=d.rb.1;have g:∀i j,i<2->j<2->je 2 (lU 2 (kI 2 5 I2 rP)) (fun r=>lg 2 (kI 2 5 I2 rP) r i) (fun r=>lg 2 (kI 2 5 I2 rP) r j)=kI 2 5 I2 rP i j:=fun i j a b=>d.wgram a b;have h:∀i j,i<2->j<2->(kI 2 5 I2 rP i j).natAbs<=25:=fun i j a b=>by
  rcases (om:i=0∨i=1)with rfl|rfl<;>rcases (om:j=0∨j=1)with rfl|rfl<;>decide
 refine⟨⟨I2_dW,fun i k a p=>?_,fun i j a b=>?_⟩,fun i j a b=>by rw[ww f,g i j a b]⟩
 .have l:=Nm i i a a;have e:∀x y,x<2->y<2->lU 2 (kI 2 5 I2 rP) x y=I2 x y:=fun x y m n=>In m n;have c:=h i i a a;rw[<-l]at c;simp only[mm,ap,e 0 0 om om,e 0 1 om om,e 1 0 om om,e 1 1 om om]at c;simp[I2]at c;have q:=P2 (lg 2 (kI 2 5 I2 rP) 0 i);have s:=P2 (lg 2 (kI 2 5 I2 rP) 1 i);have o:lg 2 (kI 2 5 I2 rP) k i*lg 2 (kI 2 5 I2 rP) k i<=25*25:=by
   rcases (om:k=0∨k=1)with rfl|rfl<;>omega
  have:=rU om o;show(lg 2 (kI 2 5 I2 rP) k i).natAbs<=_;omega
 .rw[r7 f,g i j a om];have:=h i j a om;omega
def G5{m:Nat}(h:∀i j,i<n->j<m->A i j=B i j)(w:World)(M:Nat->Prop)(u:Value)(d:bH w M (av n m A) u):bH w M (av n m B) u:=by
 unfold av at d ⊢;simp only[bH]at d ⊢;obtain⟨a,c,f,g,k⟩:=d;refine⟨a,c,f,g,fun l=>?_⟩;obtain⟨b,off,o,p,q,r⟩:=k l;refine⟨b,off,o,p,q,fun j e=>?_⟩;obtain⟨u,s,t⟩:=r j e;exact⟨u,s,bH.lst_congr (fun i v=>by rw[h j i e v]) t⟩
def DU{K:AV->St->Prop}:da 29 2 [(0,.int .i64 x),(1,.int .i64 y)] S K=ax S (fun b=>K (.sl 1 b 0 2) (S.upd b ⟨2,1,2,fun j=>[AV.int .i64 x,.int .i64 y].getD j .any⟩)):=by
 simp only[da,dO,cb];simp[ez,fX,ax,ei]
def Hs{K:AV->St->Prop}:da 28 2 [(0,.sl 1 b 0 2),(1,.sl 1 c 0 2)] S K=ax S (fun a=>K (.sl 1 a 0 2) (S.upd a ⟨29,1,2,fun j=>[AV.sl 1 b 0 2,.sl 1 c 0 2].getD j .any⟩)):=by
 simp only[da,dO,cb];simp[ez,fX,ax,ei]
def two{P:Nat->Prop}(a:P 0)(b:P 1)(i:Nat)(c:i<2):P i:=by
 rcases (om:i=0∨i=1)with rfl|rfl
 .exact a
 .exact b
def MW:PF 12 [] (.bool true):=by
 have m:oW 5:=si.pr om;have b:=JC vA si m vu F4 I2_tr;have c:=CP vA si m vu F4;generalize lg 2 (kI 2 5 I2 rP)=W at *;have eR:=fun i j n o=>In (i:=i) (j:=j) n o;generalize lU 2 (kI 2 5 I2 rP)=R at *;have d:=b.pf rfl;refine gN func12 ntmps12 results12 ?_;simp -dsimp only[go_sem,DU];refine ax.intro fun ba fa=>?_
 try simp -dsimp only[go_sem,DU,Hs]
 refine ax.intro fun bb fb=>?_;have nb_a:=(af fb).1
 try simp -dsimp only[go_sem,Hs]
 refine ax.intro fun bh fh=>?_;have nh_b:=(af fh).1;have nh_a:=(af (af fh).2).1
 try simp -dsimp only[go_sem,DU,Hs]
 refine ax.intro fun bd fd=>?_;have nd_h:=(af fd).1;have nd_b:=(af (af fd).2).1;have nd_a:=(af (af (af fd).2).2).1
 try simp -dsimp only[go_sem]
 generalize a:((((St.none.upd ba ⟨2,1,2,fun j=>[AV.int .i64 1,.int .i64 0].getD j .any⟩).upd bb ⟨2,1,2,fun j=>[AV.int .i64 0,.int .i64 1].getD j .any⟩).upd bh ⟨29,1,2,fun j=>[AV.sl 1 ba 0 2,.sl 1 bb 0 2].getD j .any⟩).upd bd ⟨2,1,2,fun j=>[AV.int .i64 1,.int .i64 2].getD j .any⟩)=S5;have ua:S5 ba=some ⟨2,1,2,fun j=>[AV.int .i64 1,.int .i64 0].getD j .any⟩:=by rw[<-a];exact(aG (ai nd_a)).trans ((aG (ai nh_a)).trans ((aG (ai nb_a)).trans ca))
 have ub:S5 bb=some ⟨2,1,2,fun j=>[AV.int .i64 0,.int .i64 1].getD j .any⟩:=by rw[<-a];exact(aG (ai nd_b)).trans ((aG (ai nh_b)).trans ca)
 have uh:S5 bh=some ⟨29,1,2,fun j=>[AV.sl 1 ba 0 2,.sl 1 bb 0 2].getD j .any⟩:=by rw[<-a];exact(aG (ai nd_h)).trans ca
 have ud:S5 bd=some ⟨2,1,2,fun j=>[AV.int .i64 1,.int .i64 2].getD j .any⟩:=by rw[<-a];exact ca
 clear a;have f:eh S5 bh (fun i=>if i=0 then ba else bb) 2 2 I2:=⟨⟨_,uh,two rfl rfl⟩,two ⟨_,ua,two rfl rfl⟩ ⟨_,ub,two rfl rfl⟩,fun i j n o e=>by
  rcases (om:i=0∨i=1)with rfl|rfl<;>rcases (om:j=0∨j=1)with rfl|rfl
  .rfl
  .exact absurd e (ai nb_a)
  .exact absurd e nb_a
  .rfl⟩
 have g:oZ S5 bd 2 (fun k=>((v12 k:Nat):Int)):=⟨_,ud,two rfl rfl⟩;refine c.spec (eI.three f.vr.va (VA.refl _ _) g.vr.va) ?_;simp -dsimp only[go_sem,aa,cl];refine(KU 2 2 I2 om om).spec (eI.two (fun w u p q=>G5 eR w _ u (VA.refl S5 _ w u p q)) f.vr.va) ?_;simp -dsimp only[go_sem,aa,DU];refine ax.intro fun be fe=>?_
 try simp -dsimp only[go_sem,cl]
 have h:dy S5 (S5.upd be ⟨2,1,2,fun j=>[AV.int .i64 1,.int .i64 2].getD j .any⟩):=(dy.refl S5).upd fe _;have l:oZ (S5.upd be ⟨2,1,2,fun j=>[AV.int .i64 1,.int .i64 2].getD j .any⟩) be 2 (fun k=>((v12 k:Nat):Int)):=⟨_,ca,two rfl rfl⟩;refine d.spec (eI.cons (f.ext h).vr.va (eI.same (eI.cons l.vr.va (eI.same (eI.same eI.nil))))) ?_;simp only[go_sem,cl];exact VR.mf rfl
def Hv(S:St):cJ 12 [] S (fun r S'=>r=.bool true/\S'=S):=MW.call ⟨rfl,rfl⟩

def FormP(S0:St)(O:Tm)(S:St):Prop:=∃(h:AV) (p:Int) (v:AV),O 1=h/\O 2=ι p/\O 3=v/\sO h p v/\dy S0 S
def J7(s:∀S,lq S->cJ 12 [] S (fun r S'=>r=.bool true/\dy S S'))(S0:St)(Q:lq S0)(d k L:Nat)(nums:Nat->Int)(Lb:Nat)(base:Nat->AV)(q t:Nat)(R:d<256)(T:k<256)(U:q<256)(V:t<65536)(hnums:∀i,i<L->-128<=nums i/\nums i<=127)(m:Nat)(len:Nat->Nat)(A:az)(p:Int)(l:Nat)(v:Nat->Int)(mk:Bool)(W:∀i j,i<m->j<len i->qO (A i j)) :
  cJ 3 [Av d k L nums Lb base q t,jA m len A,ι p,aK l v,.bool mk] S0 (fun r S'=>r=.bool true/\dy S0 S'):=by
 refine iZ func3 ntmps3 results3 ?_;refine MZ (FormP S0) (fun r' Q' z key=>?_) ?_
 .simp -dsimp only[go_sem,aa,Av,dZ,aS,bF,bZ,ct];refine ax.intro fun X f1=>?_;have a:dy S0 (S0.upd X ⟨27,1,6,fun j=>[AV.int .u8 d,.int .u8 k,.lst 1 L (fun i=>.int .i8 (nums i)),.lst 1 Lb base,.int .u8 q,.int .u16 t].getD j .any⟩):=(dy.refl S0).upd f1 _;have e:=Q.ext a;by_cases I:12<m∨∃i,i<m/\12<len i
  .refine(Ff m len A true ⟨fun _=>I,fun _=>rfl⟩).call ?_;simp -dsimp only[go_sem,aa,jA,aK];refine(s _ e).mono ?_;rintro _ S2 ⟨rfl,b⟩;simp only[go_sem];rw[z];simp only[go_sem];exact a.trans b
  refine(Ff m len A false ⟨(fun h=>by cases h),fun h=>absurd h I⟩).call ?_
  by_cases hl:12<l
  .simp -dsimp only[go_sem,aa,jA,aK,show(12:Int)<(l:Int) by omega]
   refine(s _ e).mono ?_;rintro _ S2 ⟨rfl,b⟩;simp only[go_sem];rw[z];simp only[go_sem];exact a.trans b
  simp -dsimp only[go_sem,aa,jA,aK,(om:¬(12:Int)<(l:Int))]
  cases mk
  case false =>
   simp only[go_sem,aa];have B:sO (jA m len A) p (aK l v):=Oa (P:=sO) (fun h p v v' u C=>u.mv (fun _ _ _ h=>h) C) (fun h p v h' u C=>u.mv C fun _ _ _ h=>h) CO A8 om (fun i J=>by rcases aB 12 (len i)with h|h;exact absurd (aR ⟨i,J,h⟩) I;exact h) W
   refine key _ _ ⟨jA m len A,p,aK l v,?_,?_,?_,B,a⟩
   all_goals simp only[go_sem,jA,av,aK]
  case true =>
   simp -dsimp only[go_sem,aa,dZ,bL,bJ];refine(GY _ 5 d k L nums Lb base q t om om R T U V hnums).mono ?_;rintro _ _ ⟨⟨n,p,l,H,v,ok,K,rfl⟩,rfl⟩;have B:sO (av n n H) p (aK l v):=LO (P:=sO) (fun h p v v' u C=>u.mv (fun _ _ _ h=>h) C) CO A8 K.one K.eight fun i j J Y=>by have:=K.ent i j J Y;omega
   simp only[go_sem,aa];refine key _ _ ⟨av n n H,p,aK l v,?_,?_,?_,B,a⟩
   all_goals simp only[go_sem,jA,av,aK]
 .rintro O S ⟨h,p,v,e1,e2,e3,B,a⟩;have e:=Q.ext a;clear hnums W R T U V;rcases B with⟨c,u,M,N⟩|⟨x,g,w,M,N,Z,c4⟩
  .simp -dsimp only[*,go_sem,aa];refine(M _ e).mono ?_;rintro _ S2 ⟨rfl,b⟩;have f:=e.ext b;simp -dsimp only[*,go_sem,aa];refine(N _ f).mono ?_;rintro _ S3 ⟨rfl,o⟩;simp (maxSteps:=3000000) -dsimp only[go_sem,ve,Nat.reduceLT,↓reduceIte,reduceCtorEq,aa,show(c != 0)=true by simpa using u,cl,decide_true,show ω (0+0)=0 from rfl]
   refine(s _ (f.ext o)).mono ?_;rintro _ S6 ⟨rfl,y⟩;simp only[go_sem];exact((a.trans b).trans o).trans y
  .simp -dsimp only[*,go_sem,aa];refine(M _ e).mono ?_;rintro _ S2 ⟨rfl,b⟩;have f:=e.ext b;simp -dsimp only[*,go_sem,aa];refine(N _ f).mono ?_;rintro _ S3 ⟨rfl,o⟩;have D:=f.ext o;simp -dsimp only[*,go_sem,aa,aP,cl];refine(Z _ D).mono ?_;rintro _ S4 ⟨rfl,E⟩;have F:=D.ext E;simp -dsimp only[*,go_sem,aa,cl];refine(c4 _ F).mono ?_;rintro _ S5 ⟨rfl,G⟩;simp -dsimp only[go_sem,aa,cl];refine(s _ (F.ext G)).mono ?_;rintro _ S6 ⟨rfl,y⟩;simp only[go_sem];exact((((a.trans b).trans o).trans E).trans G).trans y

end Go.Proofs.YtdobfmlmenaajaaGreatDoor
